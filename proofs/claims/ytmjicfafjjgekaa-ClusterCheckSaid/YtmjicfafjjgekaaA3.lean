import Derived.Test.YtmjicfafjjgekaaA2
namespace Go.Proofs.Ytmjicfafjjgekaa
open Go Go.AM Go.Dr Go.RowKit

theorem sumT_take (ts : List T4) (i : Nat) (h : i < ts.length) : sumT (ts.take (i + 1)) = sumT (ts.take i) + ts[i].a := by
  simp only [sumT, List.take_add_one, List.getElem?_eq_getElem h, Option.toList, List.map_append, List.sum_append, List.map_cons, List.map_nil, List.sum_cons, List.sum_nil, Int.add_zero]
theorem sumT_bounds (ts : List T4) (ht : ∀ t ∈ ts, 0 ≤ t.a ∧ t.a ≤ 1000) : 0 ≤ sumT ts ∧ sumT ts ≤ 1000 * ts.length := by
  induction ts with
  | nil => simp [sumT]
  | cons t ts ih =>
    have := ih (fun t h => ht t (by simp [h])); have h2 := ht t (by simp)
    simp only [sumT, List.map_cons, List.sum_cons, List.length_cons] at this ⊢
    omega
theorem rcheck_no {n : Int} {ps : List P3} {ts : List T4} {t : T4} (h : t ∈ ts) (hb : tOk ps t = false) : rcheck n ps ts = (0, false) := by
  unfold rcheck; rw [if_neg]; intro h2
  simp only [rcheckB, Bool.and_eq_true, List.all_eq_true] at h2
  rw [h2.2.1 t h] at hb; cases hb
theorem rcheck_no2 {n : Int} {ps : List P3} {ts : List T4} {p : P3} (h : p ∈ ps) (hb : roomP p ts < 0) : rcheck n ps ts = (0, false) := by
  unfold rcheck; rw [if_neg]; intro h2
  simp only [rcheckB, Bool.and_eq_true, List.all_eq_true, decide_eq_true_eq] at h2
  have := h2.2.2 p h; omega

set_option maxHeartbeats 4000000 in
theorem check_con (n : Int) (ps : List P3) (ts : List T4) (f1 f2 : Bool) (hl : ps.length ≤ 100000) (hl2 : ts.length ≤ 100000) :
    ConP Try.prog 20 [.int .i64 n, .lst 3 f1 (ps.map encP), .lst 4 f2 (ts.map encT)] fun r => r = .tup [.int .i64 (rcheck n ps ts).1, .bool (rcheck n ps ts).2] := by
  refine conP_of_conH (conH_of_W tok Try.func20 rfl rfl ?_)
  refine W_seq (W_region tok fun C K hC hK => ?_)
  simp -implicitDefEqProofs [Try.f20, List.replicate]
  refine hK _ _ ?_
  clear hC hK C K
  refine W_seq (W_seq (W_region tok fun C K hC hK => ?_))
  simp -implicitDefEqProofs
  refine hC _ _ _ _ ((callP (valid_con n ps f1 hl) (by simp)).mono ?_)
  rintro r H' ⟨rfl, rfl⟩
  simp -implicitDefEqProofs
  refine hK _ _ ?_
  clear hC hK C K
  simp only [thenQ]
  by_cases hv : valid n ps = 0
  case neg =>
    refine W_cond (b := true) (by simp [hv]) (W_seq (W_region tok fun C K hC hK => ?_))
    simp -implicitDefEqProofs
    refine hK _ _ (W_ret ?_)
    simp only [thenQ]
    exact ret_pure2 rfl (.int _ _) (.bool _) (by simp [rcheck, hv])
  refine W_cond (b := false) (by simp [hv]) (W_skip ?_)
  simp only [thenQ]
  refine W_seq (W_region tok fun C K hC hK => ?_)
  simp -implicitDefEqProofs
  refine hK _ _ ?_
  clear hC hK C K
  refine W_seq (W_seq (W_region tok fun C K hC hK => ?_))
  simp -implicitDefEqProofs
  refine hK _ _ ?_
  clear hC hK C K
  refine W_block ?_
  refine W_loopS (σ := Nat) (fun i => i ≤ ts.length ∧ ∀ t ∈ ts.take i, tOk ps t = true) (fun i => ts.length - i) (fun i => [.int .i64 n, .lst 3 f1 (ps.map encP), .lst 4 f2 (ts.map encT), .undef, .undef, .undef, .undef, .undef, .int .i64 (sumT (ts.take i)), .int .i64 i] ++ List.replicate 67 .undef)
    (fun _ => []) 0 ⟨Nat.zero_le _, by simp⟩ (by simp [List.replicate, sumT]) rfl (fun x hx => Nat.le_refl _) (fun i hi => ?_)
  obtain ⟨hi, hok⟩ := hi
  have hbt : ∀ t ∈ ts.take i, 0 ≤ t.a ∧ t.a ≤ 1000 := fun t h => by
    have := hok t h; simp only [tOk, Bool.and_eq_true, decide_eq_true_eq] at this; omega
  have hsum := sumT_bounds _ hbt
  have hlen : (ts.take i).length ≤ ts.length := by simp; omega
  refine W_seq (W_seq (W_region tok fun C K hC hK => ?_))
  simp -implicitDefEqProofs [List.replicate]
  refine hK _ _ ?_
  clear hC hK C K
  simp only [thenQ]
  refine W_split (by simp; rfl) (fun hb => W_skip ?_) (fun hb => W_exit ?_)
  · have hb : i < ts.length := by simpa using hb
    have hmem := List.getElem_mem hb
    have hw1 : IntKind.i64.wrap ((i : Int) + 1) = ((i + 1 : Nat) : Int) := by rw [wrap_in (by omega) (by omega)]; rfl
    have hstep := sumT_take ts i hb
    simp only [thenQ]
    refine W_seq (W_block (W_seq (W_region tok fun C K hC hK => ?_)))
    simp -implicitDefEqProofs [encT, hb]
    refine hK _ _ ?_
    clear hC hK C K
    simp only [thenQ]
    by_cases a1 : ts[i].a < 1
    · refine W_seq (W_seq (W_region tok fun C K hC hK => ?_))
      simp -implicitDefEqProofs [a1]
      refine hK _ _ ?_
      clear hC hK C K
      simp only [thenQ]
      refine W_cond (b := true) rfl (W_seq (W_region tok fun C K hC hK => ?_))
      simp -implicitDefEqProofs
      refine hK _ _ (W_ret ?_)
      simp only [thenQ, blockQ]
      exact ret_pure2 rfl (.int _ _) (.bool _) (by rw [rcheck_no hmem (by simp [tOk]; omega)])
    by_cases a2 : 1000 < ts[i].a
    · refine W_seq (W_seq (W_region tok fun C K hC hK => ?_))
      simp -implicitDefEqProofs [a1, a2]
      refine hK _ _ ?_
      clear hC hK C K
      simp only [thenQ]
      refine W_cond (b := true) rfl (W_seq (W_region tok fun C K hC hK => ?_))
      simp -implicitDefEqProofs
      refine hK _ _ (W_ret ?_)
      simp only [thenQ, blockQ]
      exact ret_pure2 rfl (.int _ _) (.bool _) (by rw [rcheck_no hmem (by simp [tOk]; omega)])
    by_cases a3 : ts[i].j ≤ ts[i].i
    · refine W_seq (W_seq (W_region tok fun C K hC hK => ?_))
      simp -implicitDefEqProofs [a1, a2, a3]
      refine hK _ _ ?_
      clear hC hK C K
      simp only [thenQ]
      refine W_cond (b := true) rfl (W_seq (W_region tok fun C K hC hK => ?_))
      simp -implicitDefEqProofs
      refine hK _ _ (W_ret ?_)
      simp only [thenQ, blockQ]
      exact ret_pure2 rfl (.int _ _) (.bool _) (by rw [rcheck_no hmem (by simp [tOk]; omega)])
    by_cases a4 : ts[i].k ≤ ts[i].j
    · refine W_seq (W_seq (W_region tok fun C K hC hK => ?_))
      simp -implicitDefEqProofs [a1, a2, a3, a4]
      refine hK _ _ ?_
      clear hC hK C K
      simp only [thenQ]
      refine W_cond (b := true) rfl (W_seq (W_region tok fun C K hC hK => ?_))
      simp -implicitDefEqProofs
      refine hK _ _ (W_ret ?_)
      simp only [thenQ, blockQ]
      exact ret_pure2 rfl (.int _ _) (.bool _) (by rw [rcheck_no hmem (by simp [tOk]; omega)])
    cases a5 : rbad ps ts[i].i ts[i].j ts[i].k
    · refine W_seq (W_seq (W_region tok fun C K hC hK => ?_))
      simp -implicitDefEqProofs [a1, a2, a3, a4]
      refine hC _ _ _ _ ((callP (bad_con ps f1 ts[i].i ts[i].j ts[i].k hl) (by simp)).mono ?_)
      rintro r H' ⟨rfl, rfl⟩
      simp -implicitDefEqProofs [a5]
      refine hK _ _ ?_
      clear hC hK C K
      simp only [thenQ]
      refine W_cond (b := true) rfl (W_seq (W_region tok fun C K hC hK => ?_))
      simp -implicitDefEqProofs
      refine hK _ _ (W_ret ?_)
      simp only [thenQ, blockQ]
      exact ret_pure2 rfl (.int _ _) (.bool _) (by rw [rcheck_no hmem (by simp [tOk, a5])])
    refine W_seq (W_seq (W_region tok fun C K hC hK => ?_))
    simp -implicitDefEqProofs [a1, a2, a3, a4]
    refine hC _ _ _ _ ((callP (bad_con ps f1 ts[i].i ts[i].j ts[i].k hl) (by simp)).mono ?_)
    rintro r H' ⟨rfl, rfl⟩
    simp -implicitDefEqProofs [a5]
    refine hK _ _ ?_
    clear hC hK C K
    simp only [thenQ]
    refine W_cond (b := false) rfl (W_skip ?_)
    simp only [thenQ]
    refine W_region tok fun C K hC hK => ?_
    have hw2 : IntKind.i64.wrap (sumT (ts.take i) + ts[i].a) = sumT (ts.take (i + 1)) := by rw [wrap_in (by omega) (by omega), hstep]
    simp -implicitDefEqProofs [hw2]
    refine hK _ _ ?_
    clear hC hK C K
    simp only [thenQ, blockQ]
    refine W_region tok fun C K hC hK => ?_
    simp -implicitDefEqProofs [hw1]
    refine hK _ _ ⟨i + 1, ⟨by omega, fun t ht => ?_⟩, by omega, ?_, ⟨_, rfl⟩, ?_, ?_⟩
    · rw [List.take_add_one, List.getElem?_eq_getElem hb] at ht
      simp only [Option.toList, List.mem_append, List.mem_singleton] at ht
      rcases ht with ht | rfl
      · exact hok t ht
      · simp [tOk, a5]; omega
    · simp [List.replicate]
    · simp [List.replicate]
    · simp
  · have hb : ts.length ≤ i := by simpa using hb
    have : i = ts.length := by omega
    subst this
    rw [List.take_length] at hok hsum hbt ⊢
    have hokp : ∀ p ∈ ps, -1000 ≤ p.x ∧ p.x ≤ 1000 := fun p hp => by
      rcases valid_cases n ps with h | h
      · rw [hv] at h; simp at h
      · have := good_all h.2.2.2.2 p hp
        simp only [okP, decide_eq_true_eq] at this
        omega
    simp only [blockQ, thenQ]
    refine W_seq (W_seq (W_region tok fun C K hC hK => ?_))
    simp -implicitDefEqProofs
    refine hK _ _ ?_
    clear hC hK C K
    simp only [thenQ]
    refine W_block ?_
    refine W_loopS (σ := Nat) (fun i => i ≤ ps.length ∧ ∀ p ∈ ps.take i, 0 ≤ roomP p ts) (fun i => ps.length - i) (fun i => [.int .i64 n, .lst 3 f1 (ps.map encP), .lst 4 f2 (ts.map encT), .undef, .undef, .undef, .undef, .undef, .int .i64 (sumT ts), .undef, .undef, .int .i64 i] ++ List.replicate 65 .undef)
      (fun _ => []) 0 ⟨Nat.zero_le _, by simp⟩ (by simp [List.replicate]) rfl (fun x hx => Nat.le_refl _) (fun i hi => ?_)
    obtain ⟨hi, hokr⟩ := hi
    refine W_seq (W_seq (W_region tok fun C K hC hK => ?_))
    simp -implicitDefEqProofs [List.replicate]
    refine hK _ _ ?_
    clear hC hK C K
    simp only [thenQ]
    refine W_split (by simp; rfl) (fun hb => W_skip ?_) (fun hb => W_exit ?_)
    · have hb : i < ps.length := by simpa using hb
      have hmem := List.getElem_mem hb
      have hw1 : IntKind.i64.wrap ((i : Int) + 1) = ((i + 1 : Nat) : Int) := by rw [wrap_in (by omega) (by omega)]; rfl
      simp only [thenQ]
      refine W_seq (W_block (W_seq (W_region tok fun C K hC hK => ?_)))
      simp -implicitDefEqProofs [encP, hb]
      refine hC _ _ _ _ ((callP (room_con ps[i] ts f2 (hokp _ hmem).1 (hokp _ hmem).2 hl2 hbt) (by simp)).mono ?_)
      rintro r H' ⟨rfl, rfl⟩
      by_cases hr : roomP ps[i] ts < 0
      · simp -implicitDefEqProofs [hr]
        refine hK _ _ ?_
        clear hC hK C K
        simp only [thenQ]
        refine W_cond (b := true) rfl (W_seq (W_region tok fun C K hC hK => ?_))
        simp -implicitDefEqProofs
        refine hK _ _ (W_ret ?_)
        simp only [thenQ, blockQ]
        exact ret_pure2 rfl (.int _ _) (.bool _) (by rw [rcheck_no2 hmem hr])
      · simp -implicitDefEqProofs [hr]
        refine hK _ _ ?_
        clear hC hK C K
        simp only [thenQ]
        refine W_cond (b := false) rfl (W_skip ?_)
        simp only [thenQ, blockQ]
        refine W_region tok fun C K hC hK => ?_
        simp -implicitDefEqProofs [hw1]
        refine hK _ _ ⟨i + 1, ⟨by omega, fun p hp => ?_⟩, by omega, ?_, ⟨_, rfl⟩, ?_, ?_⟩
        · rw [List.take_add_one, List.getElem?_eq_getElem hb] at hp
          simp only [Option.toList, List.mem_append, List.mem_singleton] at hp
          rcases hp with hp | rfl
          · exact hokr p hp
          · omega
        · simp [List.replicate]
        · simp [List.replicate]
        · simp
    · have hb : ps.length ≤ i := by simpa using hb
      have : i = ps.length := by omega
      subst this
      rw [List.take_length] at hokr
      simp only [blockQ, thenQ]
      refine W_seq (W_region tok fun C K hC hK => ?_)
      simp -implicitDefEqProofs
      refine hK _ _ (W_ret ?_)
      refine ret_pure2 rfl (.int _ _) (.bool _) ?_
      have hc : rcheckB ps ts = true := by
        simp only [rcheckB, Bool.and_eq_true, List.all_eq_true, decide_eq_true_eq]
        exact ⟨hok, hokr⟩
      simp [rcheck, hv, hc]
end Go.Proofs.Ytmjicfafjjgekaa
