/- W3: conflict.Valid and drossref37.Valid. Expanded by pp.py. -/
import Derived.Test.YtfaleabndlcanaaGreatDoorEnc
set_option linter.unusedSimpArgs false
set_option maxRecDepth 100000
namespace Go.Proofs.YtfaleabndlcanaaGreatDoor
open Go Go.AM
def ok1 (vs : List Int) (es : List (List Int)) (i : Nat) : Bool := !((eAt es i).length == 0) && asc (eAt es i) && contB vs (eAt es i) && !(decide (0 < i) && decide (0 ≤ cmpL (eAt es (i - 1)) (eAt es i)))
def ok2 (es : List (List Int)) (i k : Nat) : Bool := i == k || !contB (eAt es i) (eAt es k)
def valC (vs : List Int) (es : List (List Int)) : Bool := asc vs && decide (es.length ≤ 20000) && ((List.range es.length).all fun i => ok1 vs es i) && (List.range es.length).all fun i => (List.range es.length).all fun k => ok2 es i k
theorem all_no {p : Nat → Bool} {n i : Nat} (h : i < n) (hp : p i = false) : (List.range n).all p = false := by
  rw [Bool.eq_false_iff]; intro ha
  have := List.all_eq_true.1 ha i (by simpa using h)
  rw [hp] at this; cases this
theorem all_yes {p : Nat → Bool} {n : Nat} (h : ∀ i, i < n → p i = true) : (List.range n).all p = true := List.all_eq_true.2 fun i hi => h i (by simpa using hi)
set_option maxHeartbeats 16000000 in
theorem valid_c (vs : List Int) (es : List (List Int)) (f g : Bool) (hs : Small vs es) : ConP Tryz.prog 28 [encH f g vs es] fun r => r = .bool (valC vs es) := by
  obtain ⟨hv, he, hes⟩ := hs
  refine conP_of_conH (conH_of_W tok Tryz.func28 rfl rfl ?_)
  refine W_x tok mixed ?_
  simp -implicitDefEqProofs -dsimp [Tryz.f28, List.replicate, encH, LL]
  refine (callP (asc_c vs f hv) (by simp)).mono ?_
  rintro r H' ⟨rfl, rfl⟩
  cases ha : asc vs
  · simp -implicitDefEqProofs -dsimp []
    simp [valC, ha]
  by_cases hn : 20000 < es.length
  · simp -implicitDefEqProofs -dsimp [LL, show ¬ ((es.length : Int) ≤ 20000) by omega, show (20000 : Int) < es.length by omega]
    simp [valC, show ¬ es.length ≤ 20000 by omega]
  simp -implicitDefEqProofs -dsimp [LL, show (es.length : Int) ≤ 20000 by omega, show ¬ ((20000 : Int) < es.length) by omega]
  refine lw_of (W_loopG [2, 3, 4, 22, 23, 24, 25, 26, 27, 28, 29, 30, 31, 32, 33, 34, 35, 36, 37, 38, 39, 40, 41, 42, 43, 44, 45, 46, 47, 48, 49, 50, 51, 52, 53, 54, 55, 56, 57] (σ := Nat) (fun i => i ≤ es.length ∧ ∀ j, j < i → ok1 vs es j = true) (fun i => es.length - i) (fun i => [(22, .int .i64 i)]) (fun _ => [B.cells [L1 f vs, LL g es]]) 0 ⟨by omega, by simp⟩ (by simp) rfl (by simp) ?_)
  rintro i ⟨h1, h2⟩
  by_cases hb : i < es.length
  · have hei := hes es[i] (List.getElem_mem hb)
    have hd := getD_at hb
    have bad : ok1 vs es i = false → valC vs es = false := fun h => by simp [valC, all_no hb h]
    by_cases h0 : es[i].length = 0
    · refine W_x tok mixed ?_
      simp -implicitDefEqProofs -dsimp [LL, L1, hb, h0]
      exact bad (by simp [ok1, hd, h0])
    · have h0' : ((es[i].length : Int) == 0) = false := by simpa using h0
      cases h3 : asc es[i]
      · have hc := asc_c es[i] false hei
        rw [h3] at hc
        refine W_x tok mixed ?_
        simp -implicitDefEqProofs -dsimp [LL, L1, hb, h0]
        refine (callP (hc) (by simp)).mono ?_
        rintro r H' ⟨rfl, rfl⟩
        simp -implicitDefEqProofs -dsimp [hb, h0]
        exact bad (by simp [ok1, hd, h3])
      · have hc := asc_c es[i] false hei
        rw [h3] at hc
        cases h4 : contB vs es[i]
        · have hc2 := cont_c vs es[i] f false hv hei
          rw [h4] at hc2
          refine W_x tok mixed ?_
          simp -implicitDefEqProofs -dsimp [LL, L1, hb, h0]
          refine (callP (hc) (by simp)).mono ?_
          rintro r H' ⟨rfl, rfl⟩
          simp -implicitDefEqProofs -dsimp [hb, h0]
          refine (callP (hc2) (by simp)).mono ?_
          rintro r H' ⟨rfl, rfl⟩
          simp -implicitDefEqProofs -dsimp [hb, h0]
          exact bad (by simp [ok1, hd, h4])
        · have hc2 := cont_c vs es[i] f false hv hei
          rw [h4] at hc2
          by_cases h5 : 0 < i
          · have hb1 : i - 1 < es.length := by omega
            have hc3 := cmpL64 es[i - 1] es[i] false false (hes _ (List.getElem_mem hb1)) hei
            have hd1 := getD_at hb1
            by_cases h6 : 0 ≤ cmpL es[i - 1] es[i]
            · refine W_x tok mixed ?_
              simp -implicitDefEqProofs -dsimp [LL, L1, hb, h0]
              refine (callP (hc) (by simp)).mono ?_
              rintro r H' ⟨rfl, rfl⟩
              simp -implicitDefEqProofs -dsimp [hb, h0]
              refine (callP (hc2) (by simp)).mono ?_
              rintro r H' ⟨rfl, rfl⟩
              simp -implicitDefEqProofs -dsimp [hb, h0, h5, wrapP i (by omega) h5, hb1]
              refine (callP (hc3) (by simp)).mono ?_
              rintro r H' ⟨rfl, rfl⟩
              simp -implicitDefEqProofs -dsimp [h6]
              exact bad (by simp [ok1, hd, hd1, h5, h6])
            · refine W_x tok mixed ?_
              simp -implicitDefEqProofs -dsimp [LL, L1, hb, h0]
              refine (callP (hc) (by simp)).mono ?_
              rintro r H' ⟨rfl, rfl⟩
              simp -implicitDefEqProofs -dsimp [hb, h0]
              refine (callP (hc2) (by simp)).mono ?_
              rintro r H' ⟨rfl, rfl⟩
              simp -implicitDefEqProofs -dsimp [hb, h0, h5, wrapP i (by omega) h5, hb1]
              refine (callP (hc3) (by simp)).mono ?_
              rintro r H' ⟨rfl, rfl⟩
              simp -implicitDefEqProofs -dsimp [h6, wrapS i (by omega)]
              refine stop_of ?_
              refine ⟨i + 1, ⟨by omega, fun j hj => by rcases Nat.lt_or_ge j i with h | h; exact h2 j h; (obtain rfl : j = i := by omega); simp [ok1, hd, hd1, h0, h3, h4, h6]⟩, by omega, ?_, ⟨[], rfl⟩, ?_, ?_⟩ <;> simp [L1, encI, LL]
          · refine W_x tok mixed ?_
            simp -implicitDefEqProofs -dsimp [LL, L1, hb, h0]
            refine (callP (hc) (by simp)).mono ?_
            rintro r H' ⟨rfl, rfl⟩
            simp -implicitDefEqProofs -dsimp [hb, h0]
            refine (callP (hc2) (by simp)).mono ?_
            rintro r H' ⟨rfl, rfl⟩
            simp -implicitDefEqProofs -dsimp [hb, h0, h5, wrapS i (by omega)]
            refine stop_of ?_
            refine ⟨i + 1, ⟨by omega, fun j hj => by rcases Nat.lt_or_ge j i with h | h; exact h2 j h; (obtain rfl : j = i := by omega); simp [ok1, hd, h0, h3, h4, h5]⟩, by omega, ?_, ⟨[], rfl⟩, ?_, ?_⟩ <;> simp [L1, encI, LL]
  obtain rfl : i = es.length := by omega
  refine W_x tok mixed ?_
  simp -implicitDefEqProofs -dsimp [LL]
  have hall1 := all_yes h2
  refine lw_of (W_loopG [2, 5, 6, 7, 8, 61, 62, 63, 64, 65, 66, 67, 68, 69, 70, 71, 72, 73, 74, 75, 76, 77, 78, 79, 80, 81, 82, 83] (σ := Nat) (fun i => i ≤ es.length ∧ ∀ j, j < i → ((List.range es.length).all fun k => ok2 es j k) = true) (fun i => es.length - i) (fun i => [(61, .int .i64 i)]) (fun _ => [B.cells [L1 f vs, LL g es]]) 0 ⟨by omega, by simp⟩ (by simp [LL]) rfl (by simp) ?_)
  rintro i ⟨h1, h3⟩
  by_cases hb : i < es.length
  · have hei := hes es[i] (List.getElem_mem hb)
    have hd := getD_at hb
    refine W_x tok mixed ?_
    simp -implicitDefEqProofs -dsimp [LL, hb]
    refine lw_of (W_loopG [2, 7, 8, 69, 70, 71, 72, 73, 74, 75, 76, 77, 78, 79, 80, 81, 82] (σ := Nat) (fun k => k ≤ es.length ∧ ∀ j, j < k → ok2 es i j = true) (fun k => es.length - k) (fun k => [(69, .int .i64 k)]) (fun _ => [B.cells [L1 f vs, LL g es]]) 0 ⟨by omega, by simp⟩ (by simp [LL]) rfl (by simp) ?_)
    rintro k ⟨h4, h5⟩
    by_cases hk : k < es.length
    · have hek := hes es[k] (List.getElem_mem hk)
      have hdk := getD_at hk
      by_cases hik : i = k
      · subst hik
        refine W_x tok mixed ?_
        simp -implicitDefEqProofs -dsimp [LL, hb, wrapS i (by omega)]
        refine stop_of ?_
        refine ⟨i + 1, ⟨by omega, fun j hj => by rcases Nat.lt_or_ge j i with h | h; exact h5 j h; (obtain rfl : j = i := by omega); simp [ok2]⟩, by omega, ?_, ⟨[], rfl⟩, ?_, ?_⟩ <;> simp [L1, encI, LL]
      · have hc := cont_c es[i] es[k] false false hei hek
        have hik2 : ¬ ((i : Int) = (k : Int)) := by omega
        cases h6 : contB es[i] es[k]
        · rw [h6] at hc
          refine W_x tok mixed ?_
          simp -implicitDefEqProofs -dsimp [LL, L1, hb, hk, hik, hik2]
          refine (callP (hc) (by simp)).mono ?_
          rintro r H' ⟨rfl, rfl⟩
          simp -implicitDefEqProofs -dsimp [wrapS k (by omega)]
          refine stop_of ?_
          refine ⟨k + 1, ⟨by omega, fun j hj => by rcases Nat.lt_or_ge j k with h | h; exact h5 j h; (obtain rfl : j = k := by omega); simp [ok2, hd, hdk, h6]⟩, by omega, ?_, ⟨[], rfl⟩, ?_, ?_⟩ <;> simp [L1, encI, LL]
        · rw [h6] at hc
          refine W_x tok mixed ?_
          simp -implicitDefEqProofs -dsimp [LL, L1, hb, hk, hik, hik2]
          refine (callP (hc) (by simp)).mono ?_
          rintro r H' ⟨rfl, rfl⟩
          simp -implicitDefEqProofs -dsimp [hik2]
          have hf : ok2 es i k = false := by simp [ok2, hd, hdk, h6, hik]
          simp [valC, all_no (p := fun i => (List.range es.length).all fun k => ok2 es i k) hb (all_no (p := fun k => ok2 es i k) hk hf)]
    · obtain rfl : k = es.length := by omega
      refine W_x tok mixed ?_
      simp -implicitDefEqProofs -dsimp [LL, hk, wrapS i (by omega)]
      refine stop_of ?_
      refine ⟨i + 1, ⟨by omega, fun j hj => by rcases Nat.lt_or_ge j i with h | h; exact h3 j h; (obtain rfl : j = i := by omega); exact all_yes h5⟩, by omega, ?_, ⟨[], rfl⟩, ?_, ?_⟩ <;> simp [L1, encI, LL]
  · obtain rfl : i = es.length := by omega
    refine W_x tok mixed ?_
    simp -implicitDefEqProofs -dsimp [LL, hb]
    simp [valC, ha, hall1, all_yes h3, show es.length ≤ 20000 by omega]
end Go.Proofs.YtfaleabndlcanaaGreatDoor
