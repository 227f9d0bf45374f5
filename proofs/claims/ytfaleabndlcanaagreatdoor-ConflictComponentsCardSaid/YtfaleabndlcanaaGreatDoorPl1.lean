/- Pl1: ascending lists, the search in them, the order of lists. -/
import Derived.Test.YtfaleabndlcanaaGreatDoorW2
set_option linter.unusedSimpArgs false
namespace Go.Proofs.YtfaleabndlcanaaGreatDoor
open Go Go.AM
theorem ascFrom_iff (xs : List Int) (i : Nat) (h1 : 1 ≤ i) : ascFrom xs i = true ↔ ∀ j, i ≤ j → ∀ (h : j < xs.length), xs[j - 1] < xs[j] := by
  fun_induction ascFrom xs i with
  | case1 i h h0 => simp only [Bool.false_eq_true, false_iff]; intro hh; have := hh i (Nat.le_refl _) h; omega
  | case2 i h h0 ih =>
    rw [ih (by omega)]
    constructor
    · intro hh j hj hl
      rcases Nat.lt_or_ge i j with h2 | h2
      · exact hh j (by omega) hl
      · obtain rfl : j = i := by omega
        omega
    · intro hh j hj hl; exact hh j (by omega) hl
  | case3 i h => simp only [true_iff]; intro j hj hl; omega
theorem asc_lt {xs : List Int} (h : asc xs = true) : ∀ (i j : Nat) (hi : i < xs.length) (hj : j < xs.length), i < j → xs[i] < xs[j] := by
  have h1 := (ascFrom_iff xs 1 (by omega)).1 h
  intro i j hi hj hij
  induction j with
  | zero => omega
  | succ j ih =>
    have h2 := h1 (j + 1) (by omega) hj
    simp only [Nat.add_sub_cancel] at h2
    rcases Nat.lt_or_ge i j with h3 | h3
    · have := ih (by omega) h3; omega
    · obtain rfl : i = j := by omega
      exact h2
theorem bsI_ok {xs : List Int} (hs : asc xs = true) (x : Int) (lo hi : Nat) (hlh : lo ≤ hi) (hhl : hi ≤ xs.length) (h1 : ∀ j (h : j < xs.length), j < lo → xs[j] < x) (h2 : ∀ j (h : j < xs.length), hi ≤ j → x ≤ xs[j]) :
    (∀ j (h : j < xs.length), j < bsI xs x lo hi → xs[j] < x) ∧ ∀ j (h : j < xs.length), bsI xs x lo hi ≤ j → x ≤ xs[j] := by
  fun_induction bsI xs x lo hi with
  | case1 lo hi h0 hq ih =>
    have hm : (lo + hi) / 2 < xs.length := by omega
    rw [List.getElem?_eq_getElem hm, Option.getD_some] at hq
    refine ih (by omega) hhl (fun j h hj => ?_) h2
    rcases Nat.lt_or_ge j ((lo + hi) / 2) with h3 | h3
    · have := asc_lt hs j _ h hm h3; omega
    · obtain rfl : j = (lo + hi) / 2 := by omega
      exact hq
  | case2 lo hi h0 hq ih =>
    have hm : (lo + hi) / 2 < xs.length := by omega
    rw [List.getElem?_eq_getElem hm, Option.getD_some] at hq
    refine ih (by omega) (by omega) h1 (fun j h hj => ?_)
    rcases Nat.lt_or_ge ((lo + hi) / 2) j with h3 | h3
    · have := asc_lt hs _ j hm h h3; omega
    · obtain rfl : j = (lo + hi) / 2 := by omega
      omega
  | case3 lo hi h0 => exact ⟨fun j h hj => h1 j h hj, fun j h hj => h2 j h (by omega)⟩
theorem bsF_mem {xs : List Int} (hs : asc xs = true) (x : Int) : bsF xs x = memB xs x := by
  obtain ⟨h1, h2⟩ := bsI_ok hs x 0 xs.length (by omega) (by omega) (fun j h hj => absurd hj (by omega)) (fun j h hj => absurd h (by omega))
  rw [Bool.eq_iff_iff, memB_iff]
  unfold bsF bsP
  constructor
  · intro h
    have := beq_iff_eq.1 h
    exact List.mem_of_getElem? this
  · intro h
    obtain ⟨j, hj, rfl⟩ := List.mem_iff_getElem.1 h
    have a1 : bsI xs xs[j] 0 xs.length ≤ j := by
      rcases Nat.lt_or_ge j (bsI xs xs[j] 0 xs.length) with h3 | h3
      · have := h1 j hj h3; omega
      · exact h3
    have a2 : j ≤ bsI xs xs[j] 0 xs.length := by
      rcases Nat.lt_or_ge (bsI xs xs[j] 0 xs.length) j with h3 | h3
      · have h4 := h2 _ (by omega) (Nat.le_refl _)
        have := asc_lt hs _ j (by omega) hj h3
        omega
      · exact h3
    rw [show bsI xs xs[j] 0 xs.length = j by omega]
    simp [hj]
theorem contB_within {xs : List Int} (hs : asc xs = true) (ps : List Int) : contB xs ps = within ps xs := by
  unfold contB within
  congr 1
  funext x
  exact bsF_mem hs x
theorem cmpL_lex : ∀ us bs : List Int, decide (0 ≤ cmpL us bs) = !lexLt us bs
  | [], [] => rfl
  | [], _ :: _ => rfl
  | _ :: _, [] => rfl
  | x :: xs, y :: ys => by
    have ih := cmpL_lex xs ys
    simp only [cmpL, lexLt, cmpI]
    by_cases h : x = y
    · subst h; simp [ih]
    · rcases Int.lt_or_gt_of_ne h with h1 | h1
      · simp [h, h1]
      · have h2 : ¬ x < y := by omega
        simp [h, h1, h2]
end Go.Proofs.YtfaleabndlcanaaGreatDoor
