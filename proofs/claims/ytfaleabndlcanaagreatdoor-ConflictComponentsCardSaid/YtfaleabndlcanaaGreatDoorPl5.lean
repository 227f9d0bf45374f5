/- Pl5: connected components: labels of a forest of parents. -/
import Derived.Test.YtfaleabndlcanaaGreatDoorW19
import Derived.Test.YtfaleabndlcanaaGreatDoorPl4
set_option linter.unusedSimpArgs false
namespace Go.Proofs.YtfaleabndlcanaaGreatDoor
open Go Go.AM
def Adj (es : List (List Int)) (x y : Int) : Prop := ∃ e ∈ es, x ∈ e ∧ y ∈ e
inductive Conn (es : List (List Int)) : Int → Int → Prop
  | refl (x : Int) : Conn es x x
  | step {x y z : Int} (h : Conn es x y) (a : Adj es y z) : Conn es x z
theorem Conn.trans {es : List (List Int)} {x y z : Int} (h : Conn es x y) (g : Conn es y z) : Conn es x z := by
  induction g with
  | refl => exact h
  | step _ a ih => exact .step ih a
theorem Adj.symm {es : List (List Int)} {x y : Int} (h : Adj es x y) : Adj es y x := by
  obtain ⟨e, he, hx, hy⟩ := h
  exact ⟨e, he, hy, hx⟩
theorem Adj.conn {es : List (List Int)} {x y : Int} (h : Adj es x y) : Conn es x y := .step (.refl x) h
theorem Conn.symm {es : List (List Int)} {x y : Int} (h : Conn es x y) : Conn es y x := by
  induction h with
  | refl => exact .refl _
  | step _ a ih => exact a.symm.conn.trans ih
/-- A forest: each parent is at most its child. -/
def Down (part : List Nat) : Prop := ∀ j, part.getD j j ≤ j
theorem rootN_le (part : List Nat) (i : Nat) : rootN part i ≤ i := by
  fun_induction rootN part i with
  | case1 i h ih => omega
  | case2 i h => exact Nat.le_refl _
theorem rootN_root {part : List Nat} (hd : Down part) (i : Nat) : part.getD (rootN part i) (rootN part i) = rootN part i := by
  fun_induction rootN part i with
  | case1 i h ih => exact ih
  | case2 i h => have := hd i; omega
theorem rootN_self {part : List Nat} {i : Nat} (h : part.getD i i = i) : rootN part i = i := by
  rw [rootN, dif_neg (by omega)]
theorem rootN_idem {part : List Nat} (hd : Down part) (i : Nat) : rootN part (rootN part i) = rootN part i := rootN_self (rootN_root hd i)
theorem down_init (n : Nat) : Down (List.range n) := fun j => by
  by_cases h : j < n
  · simp [h]
  · simp [h]
theorem root_init (n i : Nat) : rootN (List.range n) i = i := rootN_self (by
  by_cases h : i < n
  · simp [h]
  · simp [h])
theorem getD_set (part : List Nat) (m v j : Nat) (hm : m < part.length) : (part.set m v).getD j j = if j = m then v else part.getD j j := by
  by_cases h : j = m
  · subst h; simp [hm]
  · rw [if_neg h]
    simp only [List.getD_eq_getElem?_getD]
    rw [List.getElem?_set_ne (Ne.symm h)]
theorem down_set {part : List Nat} (hd : Down part) {m v : Nat} (hm : m < part.length) (hv : v ≤ m) : Down (part.set m v) := fun j => by
  rw [getD_set part m v j hm]
  split
  · omega
  · exact hd j
/-- The greater root goes below the lesser one. -/
theorem root_set {part : List Nat} (hd : Down part) {m v : Nat} (hm : m < part.length) (hv : v ≤ m) (hrm : part.getD m m = m) (hrv : part.getD v v = v) (i : Nat) :
    rootN (part.set m v) i = if rootN part i = m then v else rootN part i := by
  induction i using Nat.strongRecOn with
  | _ i ih =>
    by_cases him : i = m
    · subst him
      rw [rootN_self hrm, if_pos rfl]
      by_cases hvi : v = i
      · subst hvi
        exact rootN_self (by rw [getD_set _ _ _ _ hm, if_pos rfl])
      · rw [rootN, getD_set _ _ _ _ hm, if_pos rfl, dif_pos (by omega)]
        exact rootN_self (by rw [getD_set _ _ _ _ hm, if_neg hvi]; exact hrv)
    · by_cases hlt : part.getD i i < i
      · have h1 : rootN part i = rootN part (part.getD i i) := by rw [rootN, dif_pos hlt]
        rw [rootN, getD_set _ _ _ _ hm, if_neg him, dif_pos hlt, h1]
        exact ih _ hlt
      · have h2 : part.getD i i = i := by have := hd i; omega
        rw [rootN_self h2, if_neg him]
        exact rootN_self (by rw [getD_set _ _ _ _ hm, if_neg him]; exact h2)
/-- What the loops over the edges keep. -/
structure Uf (vs : List Int) (es : List (List Int)) (part : List Nat) : Prop where
  len : part.length = vs.length
  down : Down part
  conn : ∀ j (h : j < vs.length), ∃ (h2 : part.getD j j < vs.length), Conn es vs[j] vs[part.getD j j]
theorem Uf.root {vs : List Int} {es : List (List Int)} {part : List Nat} (h : Uf vs es part) (i : Nat) (hi : i < vs.length) : ∃ (h2 : rootN part i < vs.length), Conn es vs[i] vs[rootN part i] := by
  induction i using Nat.strongRecOn with
  | _ i ih =>
    by_cases hlt : part.getD i i < i
    · have h1 : rootN part i = rootN part (part.getD i i) := by rw [rootN, dif_pos hlt]
      obtain ⟨h2, hc⟩ := h.conn i hi
      obtain ⟨h3, hc2⟩ := ih _ hlt h2
      simp only [h1]
      exact ⟨h3, hc.trans hc2⟩
    · have h2 : part.getD i i = i := by have := h.down i; omega
      have h1 := rootN_self h2
      simp only [h1]
      exact ⟨hi, .refl _⟩
theorem Uf.init (vs : List Int) (es : List (List Int)) : Uf vs es (List.range vs.length) :=
  ⟨by simp, down_init _, fun j h => by
    have : (List.range vs.length).getD j j = j := by simp [h]
    simp only [this]
    exact ⟨h, .refl _⟩⟩
def unite (part : List Nat) (a b : Nat) : List Nat := part.set (max (rootN part a) (rootN part b)) (min (rootN part a) (rootN part b))
theorem unite_root {part : List Nat} (hd : Down part) {a b : Nat} (ha : a < part.length) (hb : b < part.length) (i : Nat) : rootN (unite part a b) i = if rootN part i = max (rootN part a) (rootN part b) then min (rootN part a) (rootN part b) else rootN part i := by
  have h1 := rootN_le part a
  have h2 := rootN_le part b
  have h3 := rootN_root hd a
  have h4 := rootN_root hd b
  refine root_set hd (by omega) (by omega) ?_ ?_ i
  · rcases Nat.le_total (rootN part a) (rootN part b) with h | h
    · rw [Nat.max_eq_right h]; exact h4
    · rw [Nat.max_eq_left h]; exact h3
  · rcases Nat.le_total (rootN part a) (rootN part b) with h | h
    · rw [Nat.min_eq_left h]; exact h3
    · rw [Nat.min_eq_right h]; exact h4
theorem unite_same {part : List Nat} (hd : Down part) {a b : Nat} (ha : a < part.length) (hb : b < part.length) : rootN (unite part a b) a = rootN (unite part a b) b := by
  rw [unite_root hd ha hb, unite_root hd ha hb]
  rcases Nat.le_total (rootN part a) (rootN part b) with h | h
  · rw [Nat.max_eq_right h, Nat.min_eq_left h, if_pos rfl]
    split
    · rfl
    · rfl
  · rw [Nat.max_eq_left h, Nat.min_eq_right h, if_pos rfl]
    split
    · rfl
    · rfl
theorem unite_keep {part : List Nat} (hd : Down part) {a b : Nat} (ha : a < part.length) (hb : b < part.length) {x y : Nat} (h : rootN part x = rootN part y) : rootN (unite part a b) x = rootN (unite part a b) y := by
  rw [unite_root hd ha hb, unite_root hd ha hb, h]
theorem unite_uf {vs : List Int} {es : List (List Int)} {part : List Nat} (h : Uf vs es part) {a b : Nat} (ha : a < vs.length) (hb : b < vs.length) (hab : Adj es vs[a] vs[b]) : Uf vs es (unite part a b) := by
  obtain ⟨ra, ca⟩ := h.root a ha
  obtain ⟨rb, cb⟩ := h.root b hb
  have hl := h.len
  have hcon : Conn es vs[rootN part a] vs[rootN part b] := (ca.symm.trans hab.conn).trans cb
  refine ⟨by simp [unite, hl], down_set h.down (by omega) (by omega), fun j hj => ?_⟩
  have hg : (unite part a b).getD j j = if j = max (rootN part a) (rootN part b) then min (rootN part a) (rootN part b) else part.getD j j := getD_set _ _ _ _ (by omega)
  simp only [hg]
  by_cases hjm : j = max (rootN part a) (rootN part b)
  · simp only [if_pos hjm]
    rcases Nat.le_total (rootN part a) (rootN part b) with hle | hle
    · have e1 : j = rootN part b := by omega
      have e2 : min (rootN part a) (rootN part b) = rootN part a := by omega
      simp only [e2]
      subst e1
      exact ⟨ra, hcon.symm⟩
    · have e1 : j = rootN part a := by omega
      have e2 : min (rootN part a) (rootN part b) = rootN part b := by omega
      simp only [e2]
      subst e1
      exact ⟨rb, hcon⟩
  · simp only [if_neg hjm]
    exact h.conn j hj
end Go.Proofs.YtfaleabndlcanaaGreatDoor
