/- W6: Index, Contains, Equal, both Degree. Expanded by pp.py. -/
import Derived.Test.YtfaleabndlcanaaGreatDoorEnc
set_option linter.unusedSimpArgs false
set_option maxRecDepth 100000
namespace Go.Proofs.YtfaleabndlcanaaGreatDoor
open Go Go.AM
def ixI (xs : List Int) (x : Int) (i : Nat) : Int := if h : i < xs.length then (if x = xs[i] then (i : Int) else ixI xs x (i + 1)) else -1
termination_by xs.length - i
theorem ixI_mem (xs : List Int) (x : Int) (i : Nat) : decide (0 ≤ ixI xs x i) = memB (xs.drop i) x := by
  fun_induction ixI xs x i with
  | case1 i h h0 => rw [List.drop_eq_getElem_cons h, memB_cons]; simp [h0]
  | case2 i h h0 ih => rw [List.drop_eq_getElem_cons h, memB_cons, ih]; simp [h0]
  | case3 i h => rw [List.drop_of_length_le (by omega)]; rfl
set_option maxHeartbeats 4000000 in
theorem index64 (xs : List Int) (x : Int) (f : Bool) (hl : xs.length ≤ 1000000) : ConP Tryz.prog 63 [L1 f xs, .int .i64 x] fun r => r = .int .i64 (ixI xs x 0) := by
  refine conP_of_conH (conH_of_W tok Tryz.func63 rfl rfl ?_)
  refine W_x tok mixed ?_
  simp -implicitDefEqProofs -dsimp [Tryz.f63, List.replicate, L1]
  refine lw_of (W_loopG [4, 5, 8, 9, 10, 11, 12, 13, 14, 15, 16, 17, 18] (σ := Nat) (fun i => ixI xs x i = ixI xs x 0) (fun i => xs.length - i) (fun i => [(8, .int .i64 i)]) (fun _ => []) 0 rfl (by simp) rfl (by simp) ?_)
  intro i hx
  by_cases hb : i < xs.length
  · rw [ixI, dif_pos hb] at hx
    by_cases hq : x = xs[i]
    · rw [if_pos hq] at hx
      refine W_x tok mixed ?_
      simp -implicitDefEqProofs -dsimp [L1, encI, hb, hq]
      rw [← hq]
      exact hx
    · rw [if_neg hq] at hx
      refine W_x tok mixed ?_
      simp -implicitDefEqProofs -dsimp [L1, encI, hb, hq, wrapS i (by omega)]
      refine stop_of ?_
      refine ⟨i + 1, hx, by omega, ?_, ⟨[], rfl⟩, ?_, ?_⟩ <;> simp [L1, encI]
  · rw [ixI, dif_neg hb] at hx
    refine W_x tok mixed ?_
    simp -implicitDefEqProofs -dsimp [L1, hb]
    exact hx
set_option maxHeartbeats 4000000 in
theorem contains64 (xs : List Int) (x : Int) (f : Bool) (hl : xs.length ≤ 1000000) : ConP Tryz.prog 31 [L1 f xs, .int .i64 x] fun r => r = .bool (memB xs x) := by
  have h0 := ixI_mem xs x 0
  rw [List.drop_zero] at h0
  refine conP_of_conH (conH_of_W tok Tryz.func31 rfl rfl ?_)
  refine W_x tok mixed ?_
  simp -implicitDefEqProofs -dsimp [Tryz.f31, List.replicate]
  refine (callP (index64 xs x f hl) (by simp)).mono ?_
  rintro r H' ⟨rfl, rfl⟩
  simp -implicitDefEqProofs -dsimp []
  rw [← h0]
set_option maxHeartbeats 4000000 in
theorem equal64 (us bs : List Int) (f g : Bool) (hl : us.length ≤ 1000000) (hl2 : bs.length ≤ 1000000) : ConP Tryz.prog 24 [L1 f us, L1 g bs] fun r => r = .bool (decide (us = bs)) := by
  by_cases hn : us.length = bs.length
  · refine conP_of_conH (conH_of_W tok Tryz.func24 rfl rfl ?_)
    refine W_x tok mixed ?_
    simp -implicitDefEqProofs -dsimp [Tryz.f24, List.replicate, L1, hn]
    refine lw_of (W_loopG [4, 5, 13, 14, 15, 16, 17, 18, 19, 20, 21, 22, 23, 24, 25] (σ := Nat) (fun i => i ≤ us.length ∧ us.take i = bs.take i) (fun i => us.length - i) (fun i => [(13, .int .i64 i)]) (fun _ => []) 0 ⟨by omega, by simp⟩ (by simp) rfl (by simp) ?_)
    rintro i ⟨h1, h2⟩
    by_cases hb : i < bs.length
    · have ha : i < us.length := by omega
      by_cases hq : us[i] = bs[i]
      · refine W_x tok mixed ?_
        simp -implicitDefEqProofs -dsimp [L1, encI, ha, hb, hq, wrapS i (by omega)]
        refine .inr ⟨stop_of (by kernel_rfl), ?_⟩
        refine stop_of ?_
        refine ⟨i + 1, ⟨by omega, by rw [List.take_succ_eq_append_getElem ha, List.take_succ_eq_append_getElem hb, h2, hq]⟩, by omega, ?_, ⟨[], rfl⟩, ?_, ?_⟩ <;> simp [L1, encI]
      · refine W_x tok mixed ?_
        simp -implicitDefEqProofs -dsimp [L1, encI, ha, hb, hq]
        refine .inr ⟨stop_of (by kernel_rfl), ?_⟩
        rintro rfl
        exact hq rfl
    · refine W_x tok mixed ?_
      simp -implicitDefEqProofs -dsimp [L1, hb]
      rw [List.take_of_length_le (by omega), List.take_of_length_le (by omega)] at h2
      exact h2
  · have hne : ¬ us = bs := fun h => hn (by rw [h])
    refine conP_of_conH (conH_of_W tok Tryz.func24 rfl rfl ?_)
    refine W_x tok mixed ?_
    simp -implicitDefEqProofs -dsimp [Tryz.f24, List.replicate, L1, hn, show ¬ ((us.length : Int) = bs.length) by omega]
    exact hne
def deg (es : List (List Int)) (x : Int) : Nat := (es.filter fun e => memB e x).length
theorem deg_take (es : List (List Int)) (x : Int) (i : Nat) (h : i < es.length) : deg (es.take (i + 1)) x = deg (es.take i) x + (if memB es[i] x then 1 else 0) := by
  unfold deg
  rw [List.take_succ_eq_append_getElem h, List.filter_append, List.length_append]
  cases hm : memB es[i] x <;> simp [List.filter, hm]
theorem deg_le (es : List (List Int)) (x : Int) (i : Nat) : deg (es.take i) x ≤ i := by
  unfold deg
  exact Nat.le_trans (List.length_filter_le _ _) (by simp; omega)
set_option maxHeartbeats 8000000 in
theorem degree_c (vs : List Int) (es : List (List Int)) (x : Int) (f g : Bool) (hs : Small vs es) : ConP Tryz.prog 22 [encH f g vs es, .int .i64 x] fun r => r = .int .i64 (deg es x) := by
  obtain ⟨hv, he, hes⟩ := hs
  refine conP_of_conH (conH_of_W tok Tryz.func22 rfl rfl ?_)
  refine W_x tok mixed ?_
  simp -implicitDefEqProofs -dsimp [Tryz.f22, List.replicate, encH, LL]
  refine lw_of (W_loopV [false, false, false, false, false, true, false, true, false, false, false, true, true, true, true, true, true, true, true, true, true] (σ := Nat × Nat) (fun p => p.1 ≤ es.length ∧ p.2 = deg (es.take p.1) x) (fun p => es.length - p.1) (fun p => [(11, .int .i64 p.1), (5, .int .i64 p.2)]) (fun _ => [B.cells [L1 f vs, LL g es]]) (0, 0) ⟨by omega, by simp [deg]⟩ (by simp [LL]) (by simp [LL]) (by simp) ?_)
  rintro ⟨i, n⟩ ⟨h1, hn⟩ N Q hN hQ
  simp only at h1 hn hN
  by_cases hb : i < es.length
  · have hei := hes es[i] (List.getElem_mem hb)
    have hc := contains64 es[i] x false hei
    have hd := deg_take es x i hb
    have hdl := deg_le es x i
    have hw := wrapS n (by omega)
    cases hq : memB es[i] x
    · rw [hq] at hc hd
      refine W_x tok mixed ?_
      simp -implicitDefEqProofs -dsimp [LL, L1, hb]
      refine (callP (hc) (by simp)).mono ?_
      rintro r H' ⟨rfl, rfl⟩
      simp -implicitDefEqProofs -dsimp [wrapS i (by omega)]
      refine hN (i + 1, n) _ _ ⟨by simp only; omega, by simp only; rw [hd, hn]; simp⟩ (by omega) ?_ ⟨[], ?_⟩ ?_ ?_ <;> simp [or_imp, forall_and, L1, encI, LL]
    · rw [hq] at hc hd
      refine W_x tok mixed ?_
      simp -implicitDefEqProofs -dsimp [LL, L1, hb]
      refine (callP (hc) (by simp)).mono ?_
      rintro r H' ⟨rfl, rfl⟩
      simp -implicitDefEqProofs -dsimp [wrapS i (by omega), hw]
      refine hN (i + 1, n + 1) _ _ ⟨by simp only; omega, by simp only; rw [hd, hn]; simp⟩ (by omega) ?_ ⟨[], ?_⟩ ?_ ?_ <;> simp [or_imp, forall_and, L1, encI, LL]
  · obtain rfl : i = es.length := by omega
    rw [List.take_length] at hn
    refine W_x tok mixed ?_
    simp -implicitDefEqProofs -dsimp [LL, hb]
    refine hQ _ _ _ ?_
    simp -implicitDefEqProofs -dsimp []
    omega
set_option maxHeartbeats 8000000 in
theorem degree_r (vs : List Int) (es : List (List Int)) (x : Int) (f g : Bool) (hs : Small vs es) : ConP Tryz.prog 23 [encH f g vs es, .int .i64 x] fun r => r = .int .i64 (deg es x) := by
  obtain ⟨hv, he, hes⟩ := hs
  refine conP_of_conH (conH_of_W tok Tryz.func23 rfl rfl ?_)
  refine W_x tok mixed ?_
  simp -implicitDefEqProofs -dsimp [Tryz.f23, List.replicate, encH, LL]
  refine lw_of (W_loopV [false, false, false, false, false, true, true, true, true, true, true, true, true, true, true, true, true, true, true, true, true, true, true] (σ := Nat × Nat) (fun p => p.1 ≤ es.length ∧ p.2 = deg (es.take p.1) x) (fun p => es.length - p.1) (fun p => [(6, .int .i64 p.1), (5, .int .i64 p.2)]) (fun _ => [B.cells [L1 f vs, LL g es]]) (0, 0) ⟨by omega, by simp [deg]⟩ (by simp [LL]) (by simp [LL]) (by simp) ?_)
  rintro ⟨i, n⟩ ⟨h1, hn⟩ N Q hN hQ
  simp only at h1 hn hN
  by_cases hb : i < es.length
  · have hei := hes es[i] (List.getElem_mem hb)
    have hc := has37 es[i] x false hei
    have hd := deg_take es x i hb
    have hdl := deg_le es x i
    have hw := wrapS n (by omega)
    cases hq : memB es[i] x
    · rw [hq] at hc hd
      refine W_x tok mixed ?_
      simp -implicitDefEqProofs -dsimp [LL, L1, hb]
      refine (callP (hc) (by simp)).mono ?_
      rintro r H' ⟨rfl, rfl⟩
      simp -implicitDefEqProofs -dsimp [wrapS i (by omega)]
      refine hN (i + 1, n) _ _ ⟨by simp only; omega, by simp only; rw [hd, hn]; simp⟩ (by omega) ?_ ⟨[], ?_⟩ ?_ ?_ <;> simp [or_imp, forall_and, L1, encI, LL]
    · rw [hq] at hc hd
      refine W_x tok mixed ?_
      simp -implicitDefEqProofs -dsimp [LL, L1, hb]
      refine (callP (hc) (by simp)).mono ?_
      rintro r H' ⟨rfl, rfl⟩
      simp -implicitDefEqProofs -dsimp [wrapS i (by omega), hw]
      refine hN (i + 1, n + 1) _ _ ⟨by simp only; omega, by simp only; rw [hd, hn]; simp⟩ (by omega) ?_ ⟨[], ?_⟩ ?_ ?_ <;> simp [or_imp, forall_and, L1, encI, LL]
  · obtain rfl : i = es.length := by omega
    rw [List.take_length] at hn
    refine W_x tok mixed ?_
    simp -implicitDefEqProofs -dsimp [LL, hb]
    refine hQ _ _ _ ?_
    simp -implicitDefEqProofs -dsimp []
    omega
end Go.Proofs.YtfaleabndlcanaaGreatDoor
