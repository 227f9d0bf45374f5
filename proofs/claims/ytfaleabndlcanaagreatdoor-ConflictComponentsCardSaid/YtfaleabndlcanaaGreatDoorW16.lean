/- W16: IDs, Pairs, Same, Part. Expanded by pp.py. -/
import Derived.Test.YtfaleabndlcanaaGreatDoorW13
import Derived.Test.YtfaleabndlcanaaGreatDoorAMj
set_option linter.unusedSimpArgs false
set_option maxRecDepth 100000
namespace Go.Proofs.YtfaleabndlcanaaGreatDoor
open Go Go.AM
set_option maxHeartbeats 4000000 in
theorem ids03 (us bs : List Int) (f g : Bool) (hl : us.length ≤ 1000000) (hl2 : bs.length ≤ 1000000) : ConP Tryz.prog 46 [L1 f us, L1 g bs] fun r => r = .bool (decide (us = bs)) := by
  by_cases hn : us.length = bs.length
  · refine conP_of_conH (conH_of_W tok Tryz.func46 rfl rfl ?_)
    refine W_x tok mixed ?_
    simp -implicitDefEqProofs -dsimp [Tryz.f46, List.replicate, L1, hn]
    refine lw_of (W_loopV [false, false, false, false, true, true, false, false, false, false, false, true, true, true, true, true, true, true, true, true, true, true, true, true, true, true] (σ := Nat) (fun i => i ≤ us.length ∧ us.take i = bs.take i) (fun i => us.length - i) (fun i => [(5, .int .i64 i)]) (fun _ => []) 0 ⟨by omega, by simp⟩ (by simp) rfl (by simp) ?_)
    rintro i ⟨h1, h2⟩ N Q hN hQ
    by_cases hb : i < bs.length
    · have ha : i < us.length := by omega
      by_cases hq : us[i] = bs[i]
      · refine W_x tok mixed ?_
        simp -implicitDefEqProofs -dsimp [L1, encI, ha, hb, hq, wrapS i (by omega)]
        refine .inr ⟨stop_of (by kernel_rfl), ?_⟩
        refine hN (i + 1) _ _ ⟨by omega, by rw [List.take_succ_eq_append_getElem ha, List.take_succ_eq_append_getElem hb, h2, hq]⟩ (by omega) ?_ ⟨[], ?_⟩ ?_ ?_ <;> simp [or_imp, forall_and, L1, encI]
      · refine W_x tok mixed ?_
        simp -implicitDefEqProofs -dsimp [L1, encI, ha, hb, hq]
        refine .inr ⟨stop_of (by kernel_rfl), ?_⟩
        refine hQ _ _ _ ?_
        simp -implicitDefEqProofs -dsimp []
        rintro rfl
        exact hq rfl
    · refine W_x tok mixed ?_
      simp -implicitDefEqProofs -dsimp [L1, hb, hn]
      refine hQ _ _ _ ?_
      simp -implicitDefEqProofs -dsimp []
      rw [List.take_of_length_le (by omega), List.take_of_length_le (by omega)] at h2
      exact h2
  · have hne : ¬ us = bs := fun h => hn (by rw [h])
    refine conP_of_conH (conH_of_W tok Tryz.func46 rfl rfl ?_)
    refine W_x tok mixed ?_
    simp -implicitDefEqProofs -dsimp [Tryz.f46, List.replicate, L1, hn, show ¬ ((us.length : Int) = bs.length) by omega]
    exact hne
set_option maxHeartbeats 8000000 in
theorem pairs17 (us bs : List (List Int)) (f g : Bool) (hl : us.length ≤ 1000000) (hl2 : bs.length ≤ 1000000) (hu : ∀ e ∈ us, e.length ≤ 1000000) (hbs : ∀ e ∈ bs, e.length ≤ 1000000) : ConP Tryz.prog 47 [LL f us, LL g bs] fun r => r = .bool (decide (us = bs)) := by
  by_cases hn : us.length = bs.length
  · refine conP_of_conH (conH_of_W tok Tryz.func47 rfl rfl ?_)
    refine W_x tok mixed ?_
    simp -implicitDefEqProofs -dsimp [Tryz.f47, List.replicate, LL, hn]
    refine lw_of (W_loopV [false, false, false, false, true, true, false, false, false, false, false, true, true, true, true, true, true, true, true, true, true, true, true, true, true, true, true] (σ := Nat) (fun i => i ≤ us.length ∧ us.take i = bs.take i) (fun i => us.length - i) (fun i => [(5, .int .i64 i)]) (fun _ => []) 0 ⟨by omega, by simp⟩ (by simp) rfl (by simp) ?_)
    rintro i ⟨h1, h2⟩ N Q hN hQ
    by_cases hb : i < bs.length
    · have ha : i < us.length := by omega
      have hc := ids03 us[i] bs[i] false false (hu _ (List.getElem_mem ha)) (hbs _ (List.getElem_mem hb))
      simp only [L1] at hc
      by_cases hq : us[i] = bs[i]
      · rw [decide_eq_true hq] at hc
        refine W_x tok mixed ?_
        simp -implicitDefEqProofs -dsimp [L1, ha, hb]
        refine .inr ⟨stop_of (by kernel_rfl), ?_⟩
        refine cy_of _ (callP (hc) (by simp)) ?_
        simp -implicitDefEqProofs -dsimp [wrapS i (by omega)]
        refine hN (i + 1) _ _ ⟨by omega, by rw [List.take_succ_eq_append_getElem ha, List.take_succ_eq_append_getElem hb, h2, hq]⟩ (by omega) ?_ ⟨[], ?_⟩ ?_ ?_ <;> simp [or_imp, forall_and, L1, encI]
      · rw [decide_eq_false hq] at hc
        refine W_x tok mixed ?_
        simp -implicitDefEqProofs -dsimp [L1, ha, hb]
        refine .inr ⟨stop_of (by kernel_rfl), ?_⟩
        refine cy_of _ (callP (hc) (by simp)) ?_
        simp -implicitDefEqProofs -dsimp []
        refine hQ _ _ _ ?_
        simp -implicitDefEqProofs -dsimp []
        rintro rfl
        exact hq rfl
    · refine W_x tok mixed ?_
      simp -implicitDefEqProofs -dsimp [hb, hn]
      refine hQ _ _ _ ?_
      simp -implicitDefEqProofs -dsimp []
      rw [List.take_of_length_le (by omega), List.take_of_length_le (by omega)] at h2
      exact h2
  · have hne : ¬ us = bs := fun h => hn (by rw [h])
    refine conP_of_conH (conH_of_W tok Tryz.func47 rfl rfl ?_)
    refine W_x tok mixed ?_
    simp -implicitDefEqProofs -dsimp [Tryz.f47, List.replicate, LL, hn, show ¬ ((us.length : Int) = bs.length) by omega]
    exact hne
set_option maxHeartbeats 8000000 in
theorem same37 (va vb : List Int) (ea eb : List (List Int)) (f1 g1 f2 g2 : Bool) (hs : Small va ea) (hs2 : Small vb eb) : ConP Tryz.prog 15 [encH f1 g1 va ea, encH f2 g2 vb eb] fun r => r = .bool (decide (va = vb) && decide (ea = eb)) := by
  have hc1 := ids03 va vb f1 f2 hs.1 hs2.1
  have hc2 := pairs17 ea eb g1 g2 hs.2.1 hs2.2.1 hs.2.2 hs2.2.2
  refine conP_of_conH (conH_of_W tok Tryz.func15 rfl rfl ?_)
  refine W_x tok mixed ?_
  simp -implicitDefEqProofs -dsimp [Tryz.f15, List.replicate, encH]
  refine (callP (hc1) (by simp)).mono ?_
  rintro r H' ⟨rfl, rfl⟩
  by_cases hq : va = vb
  · simp -implicitDefEqProofs -dsimp [hq]
    refine (callP (hc2) (by simp)).mono ?_
    rintro r H' ⟨rfl, rfl⟩
    simp -implicitDefEqProofs -dsimp [hq]
  · simp -implicitDefEqProofs -dsimp [hq]
def partV (vs l : List Int) : List Int := vs.filter fun v => memB l v
def partE (es : List (List Int)) (l : List Int) : List (List Int) := es.filter fun e => within e l
theorem partV_take (vs l : List Int) (i : Nat) (h : i < vs.length) : partV (vs.take (i + 1)) l = if memB l vs[i] then partV (vs.take i) l ++ [vs[i]] else partV (vs.take i) l := by
  unfold partV
  rw [List.take_succ_eq_append_getElem h, List.filter_append]
  cases hm : memB l vs[i] <;> simp [List.filter, hm]
theorem partV_len (vs l : List Int) (i : Nat) : (partV (vs.take i) l).length ≤ i := Nat.le_trans (List.length_filter_le _ _) (by simp; omega)
theorem partE_take (es : List (List Int)) (l : List Int) (i : Nat) (h : i < es.length) : partE (es.take (i + 1)) l = if within es[i] l then partE (es.take i) l ++ [es[i]] else partE (es.take i) l := by
  unfold partE
  rw [List.take_succ_eq_append_getElem h, List.filter_append]
  cases hm : within es[i] l <;> simp [List.filter, hm]
theorem partE_len (es : List (List Int)) (l : List Int) (i : Nat) : (partE (es.take i) l).length ≤ i := Nat.le_trans (List.length_filter_le _ _) (by simp; omega)
set_option maxHeartbeats 16000000 in
theorem part37 (vs : List Int) (es : List (List Int)) (l : List Int) (f g f2 : Bool) (hs : Small vs es) (hl : l.length ≤ 1000000) (hne : ∀ e ∈ es, e ≠ []) : ConP Tryz.prog 68 [encH f g vs es, L1 f2 l] fun r => r = encH false false (partV vs l) (partE es l) := by
  obtain ⟨hv, he, hes⟩ := hs
  refine conP_of_conX (conH_of_W (tok_flag tok (fun t => t == 46)) Tryz.func68 rfl rfl ?_)
  refine W_x (tok_flag tok (fun t => t == 46)) mixed ?_
  simp -implicitDefEqProofs -dsimp [Tryz.f68, List.replicate, encH, LL, L1, flagT]
  refine lw_of (W_ownC 2 1 [] 2 [0] rfl (by simp) (by simp) (W_loopV [false, false, false, false, false, false, true, false, true, true, true, true, true, true, true, true, true, true, true, true, true, true, true, true, true, true, true, true, true, true, true, true] (σ := Nat) (fun i => i ≤ vs.length) (fun i => vs.length - i) (fun i => [(6, .int .i64 i)]) (fun i => [B.cells [L1 f vs, LL g es], B.cells [.nilS, .nilS], B.cells [.buf 3 0 (partV (vs.take i) l).length (partV (vs.take i) l).length, .nilS], B.buf 2 1 ((partV (vs.take i) l).map encI) false]) 0 (by omega) (by simp) (by simp [partV, L1, LL]) (by simp) ?_))
  intro i hi N Q hN hQ
  by_cases hb : i < vs.length
  · have hc := has37 l vs[i] f2 hl
    have hp := partV_take vs l i hb
    have hpl := partV_len vs l i
    simp only [L1] at hc
    cases hm : memB l vs[i]
    · rw [hm] at hc hp
      refine W_x (tok_flag tok (fun t => t == 46)) mixed ?_
      simp -implicitDefEqProofs -dsimp [hb, encI, L1, flagT]
      refine (callP (hc) (by simp)).mono ?_
      rintro r H' ⟨rfl, rfl⟩
      simp -implicitDefEqProofs -dsimp [wrapS i (by omega), L1, flagT]
      refine hN (i + 1) _ _ (by omega) (by omega) ?_ ⟨[], ?_⟩ ?_ ?_ <;> simp [or_imp, forall_and, L1, encI, LL, hp]
    · rw [hm] at hc hp
      refine W_x (tok_flag tok (fun t => t == 46)) mixed ?_
      simp -implicitDefEqProofs -dsimp [hb, encI, L1, flagT]
      refine (callP (hc) (by simp)).mono ?_
      rintro r H' ⟨rfl, rfl⟩
      simp -implicitDefEqProofs -dsimp [L1, flagT]
      refine lw_of (W_drawT (tok_flag tok (fun t => t == 46)) mixed [8, 10] [] [] (by kernel_rfl) fun C K hC hK => ?_)
      simp -implicitDefEqProofs [hb, encI, cap8 (partV (vs.take i) l).length (by omega), L1, flagT]
      refine hK _ _ ?_
      simp -implicitDefEqProofs -dsimp [wrapS i (by omega), L1, flagT]
      refine hN (i + 1) _ _ (by omega) (by omega) ?_ ⟨[], ?_⟩ ?_ ?_ <;> simp [or_imp, forall_and, L1, encI, LL, hp]
  · obtain rfl : i = vs.length := by omega
    rw [List.take_length]
    refine W_x (tok_flag tok (fun t => t == 46)) mixed ?_
    simp -implicitDefEqProofs -dsimp [hb, L1, flagT]
    refine hQ _ _ _ ?_
    simp -implicitDefEqProofs -dsimp [L1, flagT]
    refine lw_of (W_ownC 46 1 [] 2 [1] rfl (by simp) (by simp) (W_loopV [false, false, false, false, false, false, false, true, false, false, false, false, false, false, false, false, false, false, false, false, false, false, false, false, false, false, false, false, false, false, false, false, true, true, true, true, true, true, true, true, true, true, true, true, true, true, true, true, true, true, true, true, true, true, true, true, true, true] (σ := Nat) (fun i => i ≤ es.length) (fun i => es.length - i) (fun i => [(7, .int .i64 i)]) (fun i => [B.cells [L1 f vs, LL g es], B.cells [.nilS, .nilS], B.cells [.buf 3 0 (partV vs l).length (partV vs l).length, .buf 4 0 (partE (es.take i) l).length (partE (es.take i) l).length], B.buf 2 1 ((partV vs l).map encI) false, B.buf 46 1 ((partE (es.take i) l).map (L1 false)) false]) 0 (by omega) (by simp) (by simp [partE, L1, LL]) (by simp) ?_))
    intro j hj N2 Q2 hN2 hQ2
    by_cases hjb : j < es.length
    · have hej := hes es[j] (List.getElem_mem hjb)
      have hnj := hne es[j] (List.getElem_mem hjb)
      have hc := within37 es[j] l false f2 hej hl
      have hp := partE_take es l j hjb
      have hpl := partE_len es l j
      simp only [L1] at hc
      cases hm : within es[j] l
      · rw [hm] at hc hp
        refine W_x (tok_flag tok (fun t => t == 46)) mixed ?_
        simp -implicitDefEqProofs -dsimp [hjb, LL, L1, flagT]
        refine (callP (hc) (by simp)).mono ?_
        rintro r H' ⟨rfl, rfl⟩
        simp -implicitDefEqProofs -dsimp [wrapS j (by omega), L1, flagT]
        refine hN2 (j + 1) _ _ (by omega) (by omega) ?_ ⟨[], ?_⟩ ?_ ?_ <;> simp [or_imp, forall_and, L1, encI, LL, hp]
      · rw [hm] at hc hp
        refine W_x (tok_flag tok (fun t => t == 46)) mixed ?_
        simp -implicitDefEqProofs -dsimp [hjb, LL, L1, flagT]
        refine (callP (hc) (by simp)).mono ?_
        rintro r H' ⟨rfl, rfl⟩
        simp -implicitDefEqProofs -dsimp [L1, flagT]
        refine lw_of (W_drawT (tok_flag tok (fun t => t == 46)) mixed [8, 10, 12] [(0, [1]), (1, [1])] [] (by kernel_rfl) fun C K hC hK => ?_)
        simp -implicitDefEqProofs [hjb, LL, hnj, cap24 (partE (es.take j) l).length (by omega), capL8 es[j].length (by omega), L1, flagT]
        refine hK _ _ ?_
        simp -implicitDefEqProofs -dsimp [wrapS j (by omega), L1, flagT]
        refine hN2 (j + 1) _ _ (by omega) (by omega) ?_ ⟨[], ?_⟩ ?_ ?_ <;> simp [or_imp, forall_and, L1, encI, LL, hp]
    · obtain rfl : j = es.length := by omega
      rw [List.take_length]
      refine W_x (tok_flag tok (fun t => t == 46)) mixed ?_
      simp -implicitDefEqProofs -dsimp [hjb, LL, L1, flagT]
      refine hQ2 _ _ _ ?_
      simp -implicitDefEqProofs -dsimp [L1, flagT]
      exact ExpX.agg2 (expx_buf rfl (by simp) (by simp)) (expx_buf rfl (by simp) (by simp))
end Go.Proofs.YtfaleabndlcanaaGreatDoor
