/- A4: Full says true. -/
import Derived.Test.YtmjicfafjjgekaaA3
namespace Go.Proofs.Ytmjicfafjjgekaa
open Go Go.AM Go.Dr Go.RowKit

def blkP (t : T4) (ts : List T4) (p : P3) : Bool := inT t p.i && inT t p.k && decide (roomP p ts ≤ 0)
theorem any_take {α : Type} (f : α → Bool) (l : List α) (i : Nat) (h : i < l.length) : (l.take (i + 1)).any f = ((l.take i).any f || f l[i]) := by
  rw [List.take_add_one, List.getElem?_eq_getElem h]; simp only [Option.toList, List.any_append, List.any_cons, List.any_nil, Bool.or_false]

set_option maxRecDepth 100000 in
set_option maxHeartbeats 8000000 in
theorem full_con (n : Nat) (ps : List P3) (ts : List T4) (f1 f2 : Bool) (hl : ps.length ≤ 100000) (hl2 : ts.length ≤ 100000) (hn : n ≤ 200) (hokp : ∀ p ∈ ps, -1000 ≤ p.x ∧ p.x ≤ 1000) (hbt : ∀ t ∈ ts, 0 ≤ t.a ∧ t.a ≤ 1000)
    (hfull : ∀ i j k : Nat, i < j → j < k → k < n → rbad ps i j k = true → ∃ p ∈ ps, inT ⟨i, j, k, 0⟩ p.i = true ∧ inT ⟨i, j, k, 0⟩ p.k = true ∧ roomP p ts ≤ 0) :
    ConP Try.prog 21 [.int .i64 n, .lst 3 f1 (ps.map encP), .lst 4 f2 (ts.map encT)] fun r => r = .bool true := by
  refine conP_of_conH (conH_of_W tok Try.func21 rfl rfl ?_)
  refine W_seq (W_region tok fun C K hC hK => ?_)
  simp -implicitDefEqProofs [Try.f21, List.replicate]
  refine hK _ _ ?_
  clear hC hK C K
  refine W_seq (W_seq (W_region tok fun C K hC hK => ?_))
  simp -implicitDefEqProofs
  refine hK _ _ ?_
  clear hC hK C K
  refine W_block ?_
  refine W_loopS (σ := Nat) (fun i => i ≤ n) (fun i => n - i) (fun i => [.int .i64 n, .lst 3 f1 (ps.map encP), .lst 4 f2 (ts.map encT), .undef, .undef, .undef, .undef, .int .i64 i] ++ List.replicate 71 .undef)
    (fun _ => []) 0 (Nat.zero_le _) (by simp [List.replicate]) rfl (fun x hx => Nat.le_refl _) (fun i hi => ?_)
  refine W_seq (W_seq (W_region tok fun C K hC hK => ?_))
  simp -implicitDefEqProofs [List.replicate]
  refine hK _ _ ?_
  clear hC hK C K
  simp only [thenQ]
  refine W_split (by simp; rfl) (fun hb => W_skip ?_) (fun hb => W_exit ?_)
  · have hb : i < n := by simpa using hb
    have hw1 : IntKind.i64.wrap ((i : Int) + 1) = ((i + 1 : Nat) : Int) := by rw [wrap_in (by omega) (by omega)]; rfl
    simp only [thenQ]
    refine W_seq (W_block (W_seq (W_region tok fun C K hC hK => ?_)))
    simp -implicitDefEqProofs [hw1]
    refine hK _ _ ?_
    clear hC hK C K
    simp only [thenQ]
    refine W_block ?_
    refine W_loopS (σ := Nat) (fun j => i < j ∧ j ≤ n) (fun j => n - j) (fun j => [.int .i64 n, .lst 3 f1 (ps.map encP), .lst 4 f2 (ts.map encT), .undef, .undef, .undef, .undef, .int .i64 i, .int .i64 j] ++ List.replicate 70 .undef)
      (fun _ => []) (i + 1) ⟨by omega, by omega⟩ (by simp [List.replicate]) rfl (fun x hx => Nat.le_refl _) (fun j hj => ?_)
    refine W_seq (W_seq (W_region tok fun C K hC hK => ?_))
    simp -implicitDefEqProofs [List.replicate]
    refine hK _ _ ?_
    clear hC hK C K
    simp only [thenQ]
    refine W_split (by simp; rfl) (fun hb2 => W_skip ?_) (fun hb2 => W_exit ?_)
    · have hb2 : j < n := by simpa using hb2
      have hw2 : IntKind.i64.wrap ((j : Int) + 1) = ((j + 1 : Nat) : Int) := by rw [wrap_in (by omega) (by omega)]; rfl
      simp only [thenQ]
      refine W_seq (W_block (W_seq (W_region tok fun C K hC hK => ?_)))
      simp -implicitDefEqProofs [hw2]
      refine hK _ _ ?_
      clear hC hK C K
      simp only [thenQ]
      refine W_block ?_
      refine W_loopS (σ := Nat) (fun k => j < k ∧ k ≤ n) (fun k => n - k) (fun k => [.int .i64 n, .lst 3 f1 (ps.map encP), .lst 4 f2 (ts.map encT), .undef, .undef, .undef, .undef, .int .i64 i, .int .i64 j, .int .i64 k] ++ List.replicate 69 .undef)
        (fun _ => []) (j + 1) ⟨by omega, by omega⟩ (by simp [List.replicate]) rfl (fun x hx => Nat.le_refl _) (fun k hk => ?_)
      refine W_seq (W_seq (W_region tok fun C K hC hK => ?_))
      simp -implicitDefEqProofs [List.replicate]
      refine hK _ _ ?_
      clear hC hK C K
      simp only [thenQ]
      refine W_split (by simp; rfl) (fun hb3 => W_skip ?_) (fun hb3 => W_exit ?_)
      · have hb3 : k < n := by simpa using hb3
        have hw3 : IntKind.i64.wrap ((k : Int) + 1) = ((k + 1 : Nat) : Int) := by rw [wrap_in (by omega) (by omega)]; rfl
        simp only [thenQ]
        refine W_seq (W_block (W_seq (W_seq (W_region tok fun C K hC hK => ?_))))
        simp -implicitDefEqProofs
        refine hC _ _ _ _ ((callP (bad_con ps f1 i j k hl) (by simp)).mono ?_)
        rintro r H' ⟨rfl, rfl⟩
        cases hbad : rbad ps i j k
        · simp -implicitDefEqProofs
          refine hK _ _ ?_
          clear hC hK C K
          simp only [thenQ]
          refine W_cond (b := true) rfl (W_exit ?_)
          simp only [thenQ, blockQ]
          refine W_region tok fun C K hC hK => ?_
          simp -implicitDefEqProofs [hw3]
          refine hK _ _ ⟨k + 1, ⟨by omega, by omega⟩, by omega, ?_, ⟨_, rfl⟩, ?_, ?_⟩
          · simp [List.replicate]
          · simp [List.replicate]
          · simp
        · simp -implicitDefEqProofs
          refine hK _ _ ?_
          clear hC hK C K
          simp only [thenQ]
          refine W_cond (b := false) rfl (W_skip ?_)
          simp only [thenQ]
          refine W_seq (W_region tok fun C K hC hK => ?_)
          simp -implicitDefEqProofs
          refine hK _ _ ?_
          clear hC hK C K
          refine W_seq (W_seq (W_region tok fun C K hC hK => ?_))
          simp -implicitDefEqProofs
          refine hK _ _ ?_
          clear hC hK C K
          simp only [thenQ]
          refine W_block ?_
          refine W_loopS (σ := Nat) (fun m => m ≤ ps.length) (fun m => ps.length - m) (fun m => [.int .i64 n, .lst 3 f1 (ps.map encP), .lst 4 f2 (ts.map encT), .undef, .undef, .undef, .undef, .int .i64 i, .int .i64 j, .int .i64 k, .bool (!(ps.take m).any (blkP ⟨i, j, k, 0⟩ ts)), .int .i64 m] ++ List.replicate 67 .undef)
            (fun _ => []) 0 (Nat.zero_le _) (by simp [List.replicate]) rfl (fun x hx => Nat.le_refl _) (fun m hm => ?_)
          refine W_seq (W_seq (W_region tok fun C K hC hK => ?_))
          simp -implicitDefEqProofs [List.replicate]
          refine hK _ _ ?_
          clear hC hK C K
          simp only [thenQ]
          refine W_split (by simp; rfl) (fun hb4 => W_skip ?_) (fun hb4 => W_exit ?_)
          · have hb4 : m < ps.length := by simpa using hb4
            have hw4 : IntKind.i64.wrap ((m : Int) + 1) = ((m + 1 : Nat) : Int) := by rw [wrap_in (by omega) (by omega)]; rfl
            simp only [thenQ]
            refine W_seq (W_block (W_seq (W_region tok fun C K hC hK => ?_)))
            simp -implicitDefEqProofs
            refine hK _ _ ?_
            clear hC hK C K
            simp only [thenQ]
            have hmem := List.getElem_mem hb4
            have hstep := any_take (blkP ⟨i, j, k, 0⟩ ts) ps m hb4
            cases c0 : (ps.take m).any (blkP ⟨i, j, k, 0⟩ ts)
            case true =>
              refine W_quiet tok mixed [] rfl fun C K hC hK => ?_
              simp -implicitDefEqProofs
              refine hK _ _ ?_
              clear hC hK C K
              simp only [thenQ, blockQ]
              refine W_region tok fun C K hC hK => ?_
              simp -implicitDefEqProofs [hw4]
              refine hK _ _ ⟨m + 1, by omega, by omega, ?_, ⟨_, rfl⟩, ?_, ?_⟩
              · simp [List.replicate, hstep, blkP, c0]
              · simp [List.replicate]
              · simp
            cases c1 : inT ⟨i, j, k, 0⟩ ps[m].i
            case false =>
              refine W_quiet tok mixed [.bool false] rfl fun C K hC hK => ?_
              simp -implicitDefEqProofs [hb4, encP]
              refine ⟨hC _ _ _ _ (callP (by have := in_con ⟨i, j, k, 0⟩ ps[m].i; rw [c1] at this; exact this) (by simp)), hK _ _ ?_⟩
              clear hC hK C K
              simp only [thenQ, blockQ]
              refine W_region tok fun C K hC hK => ?_
              simp -implicitDefEqProofs [hw4]
              refine hK _ _ ⟨m + 1, by omega, by omega, ?_, ⟨_, rfl⟩, ?_, ?_⟩
              · simp [List.replicate, hstep, blkP, c0, c1]
              · simp [List.replicate]
              · simp
            cases c2 : inT ⟨i, j, k, 0⟩ ps[m].k
            case false =>
              refine W_quiet tok mixed [.bool true, .bool false] rfl fun C K hC hK => ?_
              simp -implicitDefEqProofs [hb4, encP]
              refine ⟨hC _ _ _ _ (callP (by have := in_con ⟨i, j, k, 0⟩ ps[m].i; rw [c1] at this; exact this) (by simp)), hC _ _ _ _ (callP (by have := in_con ⟨i, j, k, 0⟩ ps[m].k; rw [c2] at this; exact this) (by simp)), hK _ _ ?_⟩
              clear hC hK C K
              simp only [thenQ, blockQ]
              refine W_region tok fun C K hC hK => ?_
              simp -implicitDefEqProofs [hw4]
              refine hK _ _ ⟨m + 1, by omega, by omega, ?_, ⟨_, rfl⟩, ?_, ?_⟩
              · simp [List.replicate, hstep, blkP, c0, c2]
              · simp [List.replicate]
              · simp
            case true =>
              refine W_quiet tok mixed [.bool true, .bool true, .int .i64 (roomP ps[m] ts)] rfl fun C K hC hK => ?_
              simp -implicitDefEqProofs [hb4, encP]
              refine ⟨hC _ _ _ _ (callP (by have := in_con ⟨i, j, k, 0⟩ ps[m].i; rw [c1] at this; exact this) (by simp)), hC _ _ _ _ (callP (by have := in_con ⟨i, j, k, 0⟩ ps[m].k; rw [c2] at this; exact this) (by simp)), hC _ _ _ _ (callP (room_con ps[m] ts f2 (hokp _ hmem).1 (hokp _ hmem).2 hl2 hbt) (by simp)), hK _ _ ?_⟩
              clear hC hK C K
              simp only [thenQ, blockQ]
              refine W_region tok fun C K hC hK => ?_
              simp -implicitDefEqProofs [hw4]
              refine hK _ _ ⟨m + 1, by omega, by omega, ?_, ⟨_, rfl⟩, ?_, ?_⟩
              · have hdd : decide (roomP ps[m] ts ≤ 0) = !decide (0 < roomP ps[m] ts) := by
                  by_cases h : roomP ps[m] ts ≤ 0 <;> simp [h] <;> omega
                simp [List.replicate, hstep, blkP, c0, c1, c2, hdd]
              · simp [List.replicate]
              · simp
          · have hb4 : ps.length ≤ m := by simpa using hb4
            have : m = ps.length := by omega
            subst this
            obtain ⟨p, hp, q1, q2, q3⟩ := hfull i j k hj.1 hk.1 hb3 hbad
            have hany : ps.any (blkP ⟨i, j, k, 0⟩ ts) = true := List.any_eq_true.2 ⟨p, hp, by simp [blkP, q1, q2, q3]⟩
            simp only [blockQ, thenQ]
            refine W_seq (W_region tok fun C K hC hK => ?_)
            simp -implicitDefEqProofs [hany]
            refine hK _ _ ?_
            clear hC hK C K
            simp only [thenQ]
            refine W_cond (b := false) rfl (W_skip ?_)
            simp only [thenQ, blockQ]
            refine W_region tok fun C K hC hK => ?_
            simp -implicitDefEqProofs [hw3]
            refine hK _ _ ⟨k + 1, ⟨by omega, by omega⟩, by omega, ?_, ⟨_, rfl⟩, ?_, ?_⟩
            · simp [List.replicate]
            · simp [List.replicate]
            · simp
      · simp only [blockQ, thenQ]
        refine W_region tok fun C K hC hK => ?_
        simp -implicitDefEqProofs [hw2]
        refine hK _ _ ⟨j + 1, ⟨by omega, by omega⟩, by omega, ?_, ⟨_, rfl⟩, ?_, ?_⟩
        · simp [List.replicate]
        · simp [List.replicate]
        · simp
    · simp only [blockQ, thenQ]
      refine W_region tok fun C K hC hK => ?_
      simp -implicitDefEqProofs [hw1]
      refine hK _ _ ⟨i + 1, by omega, by omega, ?_, ⟨_, rfl⟩, ?_, ?_⟩
      · simp [List.replicate]
      · simp [List.replicate]
      · simp
  · simp only [blockQ, thenQ]
    refine W_seq (W_region tok fun C K hC hK => ?_)
    simp -implicitDefEqProofs
    refine hK _ _ (W_ret ?_)
    exact ret_pure rfl (.bool _) rfl
end Go.Proofs.Ytmjicfafjjgekaa
