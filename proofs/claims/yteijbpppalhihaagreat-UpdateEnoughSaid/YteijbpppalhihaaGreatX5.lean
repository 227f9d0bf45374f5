/- X5: Concat of two lists, less, core, Core. Expanded by pp.py. -/
import Derived.Test.YteijbpppalhihaaGreatCl
set_option linter.unusedVariables false
set_option linter.unusedSimpArgs false
set_option maxRecDepth 100000
namespace Go.Proofs.YteijbpppalhihaaGreat
open Go Go.AM Go.RowKit
theorem cap16b (n k : Nat) (h : n + k ≤ 1000000000) : n + k ≤ 9223372036854775807 ∧ (n + k) * 16 ≤ 140737488355328 := by omega
set_option maxHeartbeats 32000000 in
theorem concat2 (a b : List Cr) (f g : Bool) (ha : a.length ≤ 1000000) (hb : b.length ≤ 1000000) (hs : (a ++ b).length ≤ 1000000) : ConP Tryz.prog 100 [.lst 1 true [LC f a, LC g b]] fun r => r = LC false (a ++ b) := by
  have hab : a.length + b.length ≤ 1000000 := by rw [List.length_append] at hs; exact hs
  have w11 : IntKind.i64.wrap (1 : Int) = 1 := wrap64 (by omega) (by omega)
  have w12 : IntKind.i64.wrap (2 : Int) = 2 := wrap64 (by omega) (by omega)
  refine conP_of_conH (conH_of_W tok Tryz.func100 rfl rfl ?_)
  refine W_x tok mixed ?_
  simp -implicitDefEqProofs -dsimp [Tryz.f100, List.replicate, LC]
  refine lw_of (W_loopV [false, false, false, true, false, true, false, false, false, false, false, true, true, true, true, true, true, true, true, true, true, true, true] (σ := Nat × Nat) (fun p => (p.1 = 0 ∧ p.2 = 0) ∨ (p.1 = 1 ∧ p.2 = a.length) ∨ (p.1 = 2 ∧ p.2 = a.length + b.length)) (fun p => 2 - p.1) (fun p => [(11, .int .i64 p.1), (3, .int .i64 p.2)]) (fun _ => []) (0, 0) (.inl ⟨rfl, rfl⟩) (by simp) rfl (by simp) ?_)
  rintro ⟨i, c⟩ hx N Q hN hQ
  simp only at hx hN
  rcases hx with ⟨rfl, rfl⟩ | ⟨rfl, rfl⟩ | ⟨rfl, rfl⟩
  · have w1 : IntKind.i64.wrap ((a.length : Int)) = (a.length : Int) := wrapN _ (by omega)
    refine W_x tok mixed ?_
    simp -implicitDefEqProofs -dsimp [w1]
    refine hN (1, a.length) _ _ (.inr (.inl ⟨rfl, rfl⟩)) (by simp) (by simp [w11, w12]) ⟨[], rfl⟩ (by simp) (by simp)
  · have w1 : IntKind.i64.wrap ((a.length : Int) + (b.length : Int)) = ((a.length + b.length : Nat) : Int) := by rw [wrap64 (by omega) (by omega)]; push_cast; rfl
    obtain ⟨s, hse⟩ : ∃ s, s = a.length + b.length := ⟨_, rfl⟩
    rw [← hse] at w1
    refine W_x tok mixed ?_
    simp -implicitDefEqProofs -dsimp [w1, show ¬ (s : Int) < 0 by omega]
    refine hN (2, s) _ _ (.inr (.inr ⟨rfl, hse⟩)) (by simp) (by simp [w11, w12]) ⟨[], rfl⟩ (by simp) (by simp)
  · obtain ⟨s, hse⟩ : ∃ s, s = a.length + b.length := ⟨_, rfl⟩
    rw [← hse]
    have hg := callO (H := []) (grow_con_C s (by omega)) (by simp)
    refine W_x tok mixed ?_
    simp -implicitDefEqProofs -dsimp []
    refine hQ _ _ _ ?_
    simp -implicitDefEqProofs -dsimp []
    refine hg.mono ?_
    rintro r H' ⟨e, z, xs, rfl, rfl, _, rfl, rfl, rfl⟩
    simp -implicitDefEqProofs -dsimp []
    refine lw_of (W_loopV [false, false, false, false, false, false, true, false, true, false, false, false, false, false, false, false, false, false, false, false, false, false, false, false, false, false, false, true, true, true, true, true, true, true, true] (σ := Nat × List Cr) (fun p => (p.1 = 0 ∧ p.2 = []) ∨ (p.1 = 1 ∧ p.2 = a) ∨ (p.1 = 2 ∧ p.2 = a ++ b)) (fun p => 2 - p.1) (fun p => [(27, .int .i64 p.1), (6, .buf 0 0 p.2.length p.2.length)]) (fun p => [B.buf 49 2 (p.2.map encCr) false]) (0, []) (.inl ⟨rfl, rfl⟩) (by simp) rfl (by simp) ?_)
    rintro ⟨i, c⟩ hx N2 Q2 hN2 hQ2
    simp only at hx hN2
    rcases hx with ⟨rfl, rfl⟩ | ⟨rfl, rfl⟩ | ⟨rfl, rfl⟩
    · by_cases h0 : a = []
      · refine W_x tok mixed ?_
        simp -implicitDefEqProofs -dsimp [h0, w11]
        refine hN2 (1, a) _ _ (.inr (.inl ⟨rfl, rfl⟩)) (by simp) (by simp [h0, w11]) ⟨[], by simp [h0]⟩ (by simp) (by simp)
      · refine W_x tok mixed ?_
        simp -implicitDefEqProofs -dsimp [h0, w11, show a.length ≤ 9223372036854775807 by omega, show a.length * 16 ≤ 140737488355328 by omega]
        refine hN2 (1, a) _ _ (.inr (.inl ⟨rfl, rfl⟩)) (by simp) (by simp [w11]) ⟨[], by simp⟩ (by simp) (by simp)
    · by_cases h0 : b = []
      · refine W_x tok mixed ?_
        simp -implicitDefEqProofs -dsimp [h0, w12]
        refine hN2 (2, c ++ b) _ _ (.inr (.inr ⟨rfl, rfl⟩)) (by simp) (by simp [h0, w12]) ⟨[], by simp [h0]⟩ (by simp) (by simp)
      · refine W_x tok mixed ?_
        simp -implicitDefEqProofs -dsimp [h0, w12, cap16b c.length b.length (by omega)]
        refine hN2 (2, c ++ b) _ _ (.inr (.inr ⟨rfl, rfl⟩)) (by simp) (by simp [w12]) ⟨[], by simp⟩ (by simp) (by simp)
    · refine W_x tok mixed ?_
      simp -implicitDefEqProofs -dsimp []
      refine hQ2 _ _ _ ?_
      simp -implicitDefEqProofs -dsimp []
      rw [show LC false (a ++ b) = .lst 2 false (a.map encCr ++ b.map encCr) by simp [LC]]
      refine exp_buf rfl (by simp) ?_
      simp only [List.mem_append, List.mem_map]
      rintro x (⟨c, _, rfl⟩ | ⟨c, _, rfl⟩) <;> exact encCr_pure c
theorem pure_crs (l : List Cr) : ∀ x ∈ l.map encCr, AM.Pure x := fun x hx => by
  obtain ⟨c, _, rfl⟩ := List.mem_map.1 hx
  exact encCr_pure c
theorem take_drop_erase (l : List Cr) (i : Nat) : l.take i ++ l.drop (i + 1) = l.eraseIdx i := (List.eraseIdx_eq_take_drop_succ l i).symm
set_option maxHeartbeats 32000000 in
theorem less_u (l : List Cr) (i : Nat) (f : Bool) (hl : l.length ≤ 1000000) (hi : i < l.length) : ConP Tryz.prog 82 [LC f l, .int .i64 i] fun r => r = LC false (l.eraseIdx i) := by
  have c1 := concat2 (l.take i) (l.drop (i + 1)) (f && i == l.length) f (by simp; omega) (by simp; omega) (by simp; omega)
  rw [take_drop_erase] at c1
  simp only [LC, List.map_take, List.map_drop] at c1
  have hi1 : i ≤ l.length := by omega
  have hi2 : i + 1 ≤ l.length := by omega
  have htl : (List.map encCr l).take l.length = List.map encCr l := by rw [← List.length_map (f := encCr)]; exact List.take_length
  refine conP_of_conH (conH_of_W tok Tryz.func82 rfl rfl ?_)
  refine W_x tok mixed ?_
  simp -implicitDefEqProofs -dsimp [Tryz.f82, List.replicate, LC, hi1, hi2, htl, wrapS i (by omega), show (0 : Int) ≤ (i : Int) + 1 by omega]
  refine .inr ⟨stop_of (by kernel_rfl), ?_⟩
  refine cy_of _ (callP c1 (by
    simp
    exact ⟨fun x hx => pure_crs l x (List.mem_of_mem_take hx), fun x hx => pure_crs l x (List.mem_of_mem_drop hx)⟩)) ?_
  simp -implicitDefEqProofs -dsimp []
  rfl
open Classical in
/-- The search for a core. -/
noncomputable def coreG (t : Tb) (fds : List Fd) (f : Bool) (l : List Cr) (i : Nat) : Bool × List Cr :=
  if h : i < l.length then (if necB t fds (l.eraseIdx i) = true then coreG t fds false (l.eraseIdx i) i else coreG t fds f l (i + 1)) else (f, l)
termination_by 2 * l.length - i
decreasing_by
  · rw [List.length_eraseIdx_of_lt h]; omega
  · omega
theorem coreG_ok {t : Tb} {fds : List Fd} {fixed : List Cr} (f : Bool) (l : List Cr) (i : Nat) (h : CoreSt t fds fixed l i) : IsCoreP t fds (coreG t fds f l i).2 ∧ (∀ c ∈ (coreG t fds f l i).2, c ∈ fixed) ∧ sortedC (coreG t fds f l i).2 := by
  fun_induction coreG t fds f l i with
  | case1 f l i h1 h2 ih => exact ih (h.drop h1 (necB_iff.1 h2))
  | case2 f l i h1 h2 ih => exact ih (h.keep h1 (fun hn => h2 (necB_iff.2 hn)))
  | case3 f l i h1 =>
    have : i = l.length := by have := h.le; omega
    subst this
    exact ⟨h.done, h.sub, h.sorted⟩
theorem coreG_len {t : Tb} {fds : List Fd} (f : Bool) (l : List Cr) (i : Nat) : (coreG t fds f l i).2.length ≤ l.length := by
  fun_induction coreG t fds f l i with
  | case1 f l i h1 h2 ih => rw [List.length_eraseIdx_of_lt h1] at ih; omega
  | case2 f l i h1 h2 ih => exact ih
  | case3 f l i h1 => exact Nat.le_refl _
set_option maxHeartbeats 32000000 in
theorem core_u (t : Tb) (ff gg df cf : Bool) (fds : List Fd) (l0 : List Cr) (hv : TbV t) (hF : FdsOk fds) (hs : sortedC l0) (hl : l0.length ≤ 1000000) :
    ConP Tryz.prog 49 [encTb ff gg t, LF df fds, LC cf l0] fun r => r = LC (coreG t fds cf l0 0).1 (coreG t fds cf l0 0).2 := by
  obtain ⟨E, hE⟩ : ∃ E, E = coreG t fds cf l0 0 := ⟨_, rfl⟩
  rw [← hE]
  refine conP_of_conH (conH_of_W tok Tryz.func49 rfl rfl ?_)
  refine W_x tok mixed ?_
  simp -implicitDefEqProofs -dsimp [Tryz.f49, List.replicate, encTb, LS, LR, LC, LF]
  refine lw_of (W_loopV [false, false, true, false, false, false, false, true, true, true, true, true, true, true, true, true, true, true, true, true, true, true, true] (σ := Bool × List Cr × Nat) (fun p => p.2.1.length ≤ 1000000 ∧ sortedC p.2.1 ∧ coreG t fds p.1 p.2.1 p.2.2 = E ∧ p.2.2 ≤ p.2.1.length) (fun p => 2 * p.2.1.length - p.2.2) (fun p => [(2, .lst 2 p.1 (p.2.1.map encCr)), (7, .int .i64 p.2.2)]) (fun _ => [B.cells [.str t.name, .lst 1 ff (t.attrs.map V.str), .lst 2 gg (t.rows.map encRw)]]) (cf, l0, 0) ⟨hl, hs, hE.symm, by simp⟩ (by simp) (by simp) (by simp) ?_)
  rintro ⟨f, l, i⟩ ⟨hl, hs, hx, hi⟩ N Q hN hQ
  simp only at hl hs hx hi hN
  by_cases hb : i < l.length
  · have c1 := less_u l i f hl hb
    have c2 := necessary_u t ff gg df false fds (l.eraseIdx i) hv hF (sorted_erase hs) (by rw [List.length_eraseIdx_of_lt hb]; omega)
    obtain ⟨l', hl'⟩ : ∃ l', l' = l.eraseIdx i := ⟨_, rfl⟩
    have hlen : l'.length = l.length - 1 := by rw [hl', List.length_eraseIdx_of_lt hb]
    have hs' : sortedC l' := hl' ▸ sorted_erase hs
    rw [coreG, dif_pos hb, ← hl'] at hx
    rw [← hl'] at c1 c2
    simp only [encTb, LS, LR, LC, LF] at c1 c2
    cases hq : necB t fds l' with
    | true =>
      rw [hq] at c2
      rw [if_pos hq] at hx
      refine W_x tok mixed ?_
      simp -implicitDefEqProofs -dsimp [hb]
      refine (callP (c1) (by simp)).mono ?_
      rintro r H' ⟨rfl, rfl⟩
      simp -implicitDefEqProofs -dsimp []
      refine (callP (c2) (by simp)).mono ?_
      rintro r H' ⟨rfl, rfl⟩
      simp -implicitDefEqProofs -dsimp []
      refine hN (false, l', i) _ _ ⟨by simp only; omega, hs', hx, by simp only; omega⟩ (by simp only; omega) (by simp) ⟨[], by simp⟩ (by simp [encF_pure]) (by simp)
    | false =>
      rw [hq] at c2
      rw [if_neg (by rw [hq]; simp)] at hx
      refine W_x tok mixed ?_
      simp -implicitDefEqProofs -dsimp [hb]
      refine (callP (c1) (by simp)).mono ?_
      rintro r H' ⟨rfl, rfl⟩
      simp -implicitDefEqProofs -dsimp []
      refine (callP (c2) (by simp)).mono ?_
      rintro r H' ⟨rfl, rfl⟩
      simp -implicitDefEqProofs -dsimp [wrapS i (by omega)]
      refine hN (f, l, i + 1) _ _ ⟨hl, hs, hx, by simp only; omega⟩ (by simp only; omega) (by simp) ⟨[], by simp⟩ (by simp) (by simp)
  · rw [coreG, dif_neg hb] at hx
    subst hx
    refine W_x tok mixed ?_
    simp -implicitDefEqProofs -dsimp [hb]
    refine hQ _ _ _ ?_
    simp -implicitDefEqProofs -dsimp []
    rfl
theorem coreG_le {t : Tb} {fds : List Fd} (f : Bool) (l : List Cr) (h : l.length ≤ 1000000) : (coreG t fds f l 0).2.length ≤ 1000000 := Nat.le_trans (coreG_len f l 0) h
open Classical in
noncomputable def CoreR (t : Tb) (fds : List Fd) (cf : Bool) (l : List Cr) : V := if chkE t fds l = 0 then (if necB t fds l then .tup [LC false (coreG t fds cf l 0).2, .int .i64 0] else .tup [.nilS, .int .i64 4]) else .tup [.nilS, .int .i64 (chkE t fds l)]
set_option maxHeartbeats 32000000 in
theorem Core_u (t : Tb) (ff gg df cf : Bool) (fds : List Fd) (l : List Cr) (ht : TbOk t) (hF : FdsOk fds) (hcl : l.length ≤ 1000000) :
    ConP Tryz.prog 20 [encTb ff gg t, LF df fds, LC cf l] fun r => r = CoreR t fds cf l := by
  have c1 := check_u t ff gg df cf fds l ht hF hcl
  simp only [encTb, LS, LR, LC, LF] at c1
  unfold CoreR
  by_cases h : chkE t fds l = 0
  · obtain ⟨hv, h1, h2, h3, h4⟩ := chkE_ok ht h
    rw [if_pos h]
    rw [h] at c1
    have c2 := necessary_u t ff gg df cf fds l hv hF h3 hcl
    cases hq : necB t fds l with
    | true =>
      rw [hq] at c2
      rw [if_pos rfl]
      have c3 := core_u t ff gg df cf fds l hv hF h3 hcl
      have c4 := clone_C (coreG t fds cf l 0).2 (coreG t fds cf l 0).1 (coreG_le cf l hcl)
      simp only [encTb, LS, LR, LC, LF] at c2 c3 c4
      refine conP_of_conH (conH_of_W tok Tryz.func20 rfl rfl ?_)
      refine W_x tok mixed ?_
      simp -implicitDefEqProofs -dsimp [Tryz.f20, List.replicate, encTb, LS, LR, LC, LF]
      refine (callP (c1) (by simp)).mono ?_
      rintro r H' ⟨rfl, rfl⟩
      simp -implicitDefEqProofs -dsimp []
      refine (callP (c2) (by simp)).mono ?_
      rintro r H' ⟨rfl, rfl⟩
      simp -implicitDefEqProofs -dsimp []
      refine (callP (c3) (by simp)).mono ?_
      rintro r H' ⟨rfl, rfl⟩
      simp -implicitDefEqProofs -dsimp []
      refine (callP (c4) (by simp)).mono ?_
      rintro r H' ⟨rfl, rfl⟩
      simp -implicitDefEqProofs -dsimp []
      rfl
    | false =>
      rw [hq] at c2
      rw [if_neg (by simp)]
      simp only [encTb, LS, LR, LC, LF] at c2
      refine conP_of_conH (conH_of_W tok Tryz.func20 rfl rfl ?_)
      refine W_x tok mixed ?_
      simp -implicitDefEqProofs -dsimp [Tryz.f20, List.replicate, encTb, LS, LR, LC, LF]
      refine (callP (c1) (by simp)).mono ?_
      rintro r H' ⟨rfl, rfl⟩
      simp -implicitDefEqProofs -dsimp []
      refine (callP (c2) (by simp)).mono ?_
      rintro r H' ⟨rfl, rfl⟩
      simp -implicitDefEqProofs -dsimp []
  · rw [if_neg h]
    refine conP_of_conH (conH_of_W tok Tryz.func20 rfl rfl ?_)
    refine W_x tok mixed ?_
    simp -implicitDefEqProofs -dsimp [Tryz.f20, List.replicate, encTb, LS, LR, LC, LF]
    refine (callP (c1) (by simp)).mono ?_
    rintro r H' ⟨rfl, rfl⟩
    simp -implicitDefEqProofs -dsimp [h]
end Go.Proofs.YteijbpppalhihaaGreat
