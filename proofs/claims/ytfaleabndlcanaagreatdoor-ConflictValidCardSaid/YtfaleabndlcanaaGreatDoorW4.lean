/- W4: drossref37.Valid and the law ConflictValid. Expanded by pp.py. -/
import Derived.Test.YtfaleabndlcanaaGreatDoorW3
set_option linter.unusedSimpArgs false
set_option maxRecDepth 100000
namespace Go.Proofs.YtfaleabndlcanaaGreatDoor
open Go Go.AM
def rk1 (vs : List Int) (es : List (List Int)) (i : Nat) : Bool := !((eAt es i).length == 0) && asc (eAt es i) && within (eAt es i) vs && !(decide (0 < i) && !lexLt (eAt es (i - 1)) (eAt es i))
def rk2 (es : List (List Int)) (i k : Nat) : Bool := i == k || !within (eAt es k) (eAt es i)
def rkk (vs : List Int) (es : List (List Int)) (i : Nat) : Bool := rk1 vs es i && (List.range es.length).all fun k => rk2 es i k
def valR (vs : List Int) (es : List (List Int)) : Bool := asc vs && decide (es.length ≤ 20000) && (List.range es.length).all fun i => rkk vs es i
set_option maxHeartbeats 16000000 in
theorem valid_r (vs : List Int) (es : List (List Int)) (f g : Bool) (hs : Small vs es) : ConP Tryz.prog 29 [encH f g vs es] fun r => r = .bool (valR vs es) := by
  obtain ⟨hv, he, hes⟩ := hs
  refine conP_of_conH (conH_of_W tok Tryz.func29 rfl rfl ?_)
  refine W_x tok mixed ?_
  simp -implicitDefEqProofs -dsimp [Tryz.f29, List.replicate, encH, LL]
  refine (callP (asc_r vs f hv) (by simp)).mono ?_
  rintro r H' ⟨rfl, rfl⟩
  cases ha : asc vs
  · simp -implicitDefEqProofs -dsimp []
    simp [valR, ha]
  by_cases hn : 20000 < es.length
  · simp -implicitDefEqProofs -dsimp [LL, show ¬ ((es.length : Int) ≤ 20000) by omega, show (20000 : Int) < es.length by omega]
    simp [valR, show ¬ es.length ≤ 20000 by omega]
  simp -implicitDefEqProofs -dsimp [LL, show (es.length : Int) ≤ 20000 by omega, show ¬ ((20000 : Int) < es.length) by omega]
  refine lw_of (W_loopG [2, 3, 4, 15, 16, 17, 18, 19, 20, 21, 22, 23, 24, 25, 26, 27, 28, 29, 30, 31, 32, 33, 34, 35, 36, 37, 38, 39, 40, 41, 42, 43, 44, 45, 46, 47, 48, 49, 50, 51, 52, 53, 54, 55, 56, 57, 58, 59, 60, 61, 62, 63, 64, 65, 66, 67, 68, 69, 70, 71, 72, 73, 74, 75, 76, 77, 78, 79, 80, 81, 82, 83, 84, 85, 86, 87, 88, 89, 90] (σ := Nat) (fun i => i ≤ es.length ∧ ∀ j, j < i → rkk vs es j = true) (fun i => es.length - i) (fun i => [(3, .int .i64 i)]) (fun _ => [B.cells [L1 f vs, LL g es]]) 0 ⟨by omega, by simp⟩ (by simp) rfl (by simp) ?_)
  rintro i ⟨h1, h2⟩
  by_cases hb : i < es.length
  · have hei := hes es[i] (List.getElem_mem hb)
    have hd := getD_at hb
    have bad : rk1 vs es i = false → valR vs es = false := fun h => by
      have : rkk vs es i = false := by simp [rkk, h]
      simp [valR, all_no hb this]
    by_cases h0 : es[i].length = 0
    · refine W_x tok mixed ?_
      simp -implicitDefEqProofs -dsimp [LL, L1, hb, h0]
      refine ⟨stop_of (by kernel_rfl), ?_⟩
      exact bad (by simp [rk1, hd, h0])
    · cases h3 : asc es[i]
      · have hc := asc_r es[i] false hei
        rw [h3] at hc
        refine W_x tok mixed ?_
        simp -implicitDefEqProofs -dsimp [LL, L1, hb, h0]
        refine ⟨stop_of (by kernel_rfl), ?_⟩
        refine cy_of _ (callP (hc) (by simp)) ?_
        simp -implicitDefEqProofs -dsimp [hb, h0]
        exact bad (by simp [rk1, hd, h3])
      · have hc := asc_r es[i] false hei
        rw [h3] at hc
        cases h4 : within es[i] vs
        · have hc2 := within37 es[i] vs false f hei hv
          rw [h4] at hc2
          refine W_x tok mixed ?_
          simp -implicitDefEqProofs -dsimp [LL, L1, hb, h0]
          refine ⟨stop_of (by kernel_rfl), ?_⟩
          refine cy_of _ (callP (hc) (by simp)) ?_
          simp -implicitDefEqProofs -dsimp [LL, L1, hb, h0]
          refine cy_of _ (callP (hc2) (by simp)) ?_
          simp -implicitDefEqProofs -dsimp [hb, h0]
          exact bad (by simp [rk1, hd, h4])
        · have hc2 := within37 es[i] vs false f hei hv
          rw [h4] at hc2
          by_cases h5 : 0 < i
          · have hb1 : i - 1 < es.length := by omega
            have hc3 := before37 es[i - 1] es[i] false false (hes _ (List.getElem_mem hb1)) hei
            have hd1 := getD_at hb1
            cases h6 : lexLt es[i - 1] es[i]
            · rw [h6] at hc3
              refine W_x tok mixed ?_
              simp -implicitDefEqProofs -dsimp [LL, L1, hb, h0]
              refine ⟨stop_of (by kernel_rfl), ?_⟩
              refine cy_of _ (callP (hc) (by simp)) ?_
              simp -implicitDefEqProofs -dsimp [LL, L1, hb, h0]
              refine cy_of _ (callP (hc2) (by simp)) ?_
              simp -implicitDefEqProofs -dsimp [LL, L1, hb, h0, h5, wrapP i (by omega) h5, hb1]
              refine cy_of _ (callP (hc3) (by simp)) ?_
              simp -implicitDefEqProofs -dsimp []
              exact bad (by simp [rk1, hd, hd1, h5, h6])
            · rw [h6] at hc3
              have hk1 : rk1 vs es i = true := by simp [rk1, hd, hd1, h0, h3, h4, h6]
              refine W_x tok mixed ?_
              simp -implicitDefEqProofs -dsimp [LL, L1, hb, h0]
              refine ⟨stop_of (by kernel_rfl), ?_⟩
              refine cy_of _ (callP (hc) (by simp)) ?_
              simp -implicitDefEqProofs -dsimp [LL, L1, hb, h0]
              refine cy_of _ (callP (hc2) (by simp)) ?_
              simp -implicitDefEqProofs -dsimp [LL, L1, hb, h0, h5, wrapP i (by omega) h5, hb1]
              refine cy_of _ (callP (hc3) (by simp)) ?_
              simp -implicitDefEqProofs -dsimp []
              refine lw_of (W_loopG [2, 4, 68, 69, 70, 71, 72, 73, 74, 75, 76, 77, 78, 79, 80, 81, 82, 83, 84, 85, 86, 87, 88, 89, 90] (σ := Nat) (fun k => k ≤ es.length ∧ ∀ j, j < k → rk2 es i j = true) (fun k => es.length - k) (fun k => [(4, .int .i64 k)]) (fun _ => [B.cells [L1 f vs, LL g es]]) 0 ⟨by omega, by simp⟩ (by simp [LL, L1]) (by simp [LL, L1]) (by simp) ?_)
              rintro k ⟨h7, h8⟩
              by_cases hk : k < es.length
              · have hek := hes es[k] (List.getElem_mem hk)
                have hdk := getD_at hk
                by_cases hik : i = k
                · subst hik
                  refine W_x tok mixed ?_
                  simp -implicitDefEqProofs -dsimp [LL, L1, hb, wrapS i (by omega)]
                  refine ⟨stop_of (by kernel_rfl), ?_⟩
                  refine stop_of ?_
                  refine ⟨i + 1, ⟨by omega, fun j hj => by rcases Nat.lt_or_ge j i with h | h; exact h8 j h; (obtain rfl : j = i := by omega); simp [rk2]⟩, by omega, ?_, ⟨[], rfl⟩, ?_, ?_⟩ <;> simp [L1, encI, LL]
                · have hc4 := within37 es[k] es[i] false false hek hei
                  have hik2 : ¬ ((k : Int) = (i : Int)) := by omega
                  have hik3 : ¬ k = i := by omega
                  cases h9 : within es[k] es[i]
                  · rw [h9] at hc4
                    refine W_x tok mixed ?_
                    simp -implicitDefEqProofs -dsimp [LL, L1, hb, hk, hik2, hik3]
                    refine ⟨stop_of (by kernel_rfl), ?_⟩
                    refine cy_of _ (callP (hc4) (by simp)) ?_
                    simp -implicitDefEqProofs -dsimp [hik2, hik3, wrapS k (by omega)]
                    refine stop_of ?_
                    refine ⟨k + 1, ⟨by omega, fun j hj => by rcases Nat.lt_or_ge j k with h | h; exact h8 j h; (obtain rfl : j = k := by omega); simp [rk2, hd, hdk, h9]⟩, by omega, ?_, ⟨[], rfl⟩, ?_, ?_⟩ <;> simp [L1, encI, LL]
                  · rw [h9] at hc4
                    refine W_x tok mixed ?_
                    simp -implicitDefEqProofs -dsimp [LL, L1, hb, hk, hik2, hik3]
                    refine ⟨stop_of (by kernel_rfl), ?_⟩
                    refine cy_of _ (callP (hc4) (by simp)) ?_
                    simp -implicitDefEqProofs -dsimp [hik2, hik3]
                    have hf : rk2 es i k = false := by simp [rk2, hd, hdk, h9, hik]
                    have hf2 : rkk vs es i = false := by simp [rkk, all_no (p := fun k => rk2 es i k) hk hf]
                    simp [valR, all_no hb hf2]
              · obtain rfl : k = es.length := by omega
                refine W_x tok mixed ?_
                simp -implicitDefEqProofs -dsimp [LL, L1, hk, wrapS i (by omega)]
                refine stop_of ?_
                refine ⟨i + 1, ⟨by omega, fun j hj => by rcases Nat.lt_or_ge j i with h | h; exact h2 j h; (obtain rfl : j = i := by omega); simp only [rkk, hk1, Bool.true_and]; exact all_yes h8⟩, by omega, ?_, ⟨[], rfl⟩, ?_, ?_⟩ <;> simp [L1, encI, LL]
          · have hk1 : rk1 vs es i = true := by simp [rk1, hd, h0, h3, h4, h5]
            refine W_x tok mixed ?_
            simp -implicitDefEqProofs -dsimp [LL, L1, hb, h0]
            refine ⟨stop_of (by kernel_rfl), ?_⟩
            refine cy_of _ (callP (hc) (by simp)) ?_
            simp -implicitDefEqProofs -dsimp [LL, L1, hb, h0]
            refine cy_of _ (callP (hc2) (by simp)) ?_
            simp -implicitDefEqProofs -dsimp [LL, L1, hb, h0, h5]
            refine lw_of (W_loopG [2, 4, 68, 69, 70, 71, 72, 73, 74, 75, 76, 77, 78, 79, 80, 81, 82, 83, 84, 85, 86, 87, 88, 89, 90] (σ := Nat) (fun k => k ≤ es.length ∧ ∀ j, j < k → rk2 es i j = true) (fun k => es.length - k) (fun k => [(4, .int .i64 k)]) (fun _ => [B.cells [L1 f vs, LL g es]]) 0 ⟨by omega, by simp⟩ (by simp [LL, L1]) (by simp [LL, L1]) (by simp) ?_)
            rintro k ⟨h7, h8⟩
            by_cases hk : k < es.length
            · have hek := hes es[k] (List.getElem_mem hk)
              have hdk := getD_at hk
              by_cases hik : i = k
              · subst hik
                refine W_x tok mixed ?_
                simp -implicitDefEqProofs -dsimp [LL, L1, hb, wrapS i (by omega)]
                refine ⟨stop_of (by kernel_rfl), ?_⟩
                refine stop_of ?_
                refine ⟨i + 1, ⟨by omega, fun j hj => by rcases Nat.lt_or_ge j i with h | h; exact h8 j h; (obtain rfl : j = i := by omega); simp [rk2]⟩, by omega, ?_, ⟨[], rfl⟩, ?_, ?_⟩ <;> simp [L1, encI, LL]
              · have hc4 := within37 es[k] es[i] false false hek hei
                have hik2 : ¬ ((k : Int) = (i : Int)) := by omega
                have hik3 : ¬ k = i := by omega
                cases h9 : within es[k] es[i]
                · rw [h9] at hc4
                  refine W_x tok mixed ?_
                  simp -implicitDefEqProofs -dsimp [LL, L1, hb, hk, hik2, hik3]
                  refine ⟨stop_of (by kernel_rfl), ?_⟩
                  refine cy_of _ (callP (hc4) (by simp)) ?_
                  simp -implicitDefEqProofs -dsimp [hik2, hik3, wrapS k (by omega)]
                  refine stop_of ?_
                  refine ⟨k + 1, ⟨by omega, fun j hj => by rcases Nat.lt_or_ge j k with h | h; exact h8 j h; (obtain rfl : j = k := by omega); simp [rk2, hd, hdk, h9]⟩, by omega, ?_, ⟨[], rfl⟩, ?_, ?_⟩ <;> simp [L1, encI, LL]
                · rw [h9] at hc4
                  refine W_x tok mixed ?_
                  simp -implicitDefEqProofs -dsimp [LL, L1, hb, hk, hik2, hik3]
                  refine ⟨stop_of (by kernel_rfl), ?_⟩
                  refine cy_of _ (callP (hc4) (by simp)) ?_
                  simp -implicitDefEqProofs -dsimp [hik2, hik3]
                  have hf : rk2 es i k = false := by simp [rk2, hd, hdk, h9, hik]
                  have hf2 : rkk vs es i = false := by simp [rkk, all_no (p := fun k => rk2 es i k) hk hf]
                  simp [valR, all_no hb hf2]
            · obtain rfl : k = es.length := by omega
              refine W_x tok mixed ?_
              simp -implicitDefEqProofs -dsimp [LL, L1, hk, wrapS i (by omega)]
              refine stop_of ?_
              refine ⟨i + 1, ⟨by omega, fun j hj => by rcases Nat.lt_or_ge j i with h | h; exact h2 j h; (obtain rfl : j = i := by omega); simp only [rkk, hk1, Bool.true_and]; exact all_yes h8⟩, by omega, ?_, ⟨[], rfl⟩, ?_, ?_⟩ <;> simp [L1, encI, LL]
  · obtain rfl : i = es.length := by omega
    refine W_x tok mixed ?_
    simp -implicitDefEqProofs -dsimp [LL, hb]
    simp [valR, ha, all_yes h2, show es.length ≤ 20000 by omega]
end Go.Proofs.YtfaleabndlcanaaGreatDoor
