/- U4: the filled table: new numbers for the unknown classes, in the order of their first cells. -/
import Derived.Test.YteijbpppalhihaaGreatU2
set_option linter.unusedVariables false
set_option linter.unusedSimpArgs false
namespace Go.Proofs.YteijbpppalhihaaGreat
open Go Go.AM
structure IsNxt (u : Int → Bool) (n m : Int) : Prop where
  gt : n < m
  free : u m = false
  all : ∀ k, n < k → k < m → u k = true
theorem IsNxt.uniq {u : Int → Bool} {n a b : Int} (h : IsNxt u n a) (g : IsNxt u n b) : a = b := by
  rcases Int.lt_trichotomy a b with h1 | h1 | h1
  · have := g.all a h.gt h1; rw [h.free] at this; cases this
  · exact h1
  · have := h.all b g.gt h1; rw [g.free] at this; cases this
open Classical in
noncomputable def nxt (u : Int → Bool) (n : Int) : Int := if h : ∃ m, IsNxt u n m then h.choose else n + 1
theorem nxt_eq {u : Int → Bool} {n m : Int} (h : IsNxt u n m) : nxt u n = m := by
  unfold nxt
  have hex : ∃ m, IsNxt u n m := ⟨m, h⟩
  rw [dif_pos hex]
  exact hex.choose_spec.uniq h
/-- The numbers that are given, in order; the first stands at 1. -/
noncomputable def numP (u : Int → Bool) : Nat → Int
  | 0 => 0
  | k + 1 => nxt u (numP u k)
open Classical in
noncomputable def fp (c : Nat → Dm) (x : Nat) : Nat := ((List.range (x + 1)).find? fun y => decide (c y = c x)).getD x
open Classical in
noncomputable def rankC (c : Nat → Dm) (y : Nat) : Nat := ((List.range y).filter fun z => decide ((∃ s, c z = .inr s) ∧ fp c z = z)).length
noncomputable def outV (u : Int → Bool) (c : Nat → Dm) (x : Nat) : Vl := match c x with
  | .inl v => v
  | .inr _ => ⟨3, numP u (rankC c (fp c x) + 1), ByteArray.empty⟩
theorem fp_le (c : Nat → Dm) (x : Nat) : fp c x ≤ x := by
  unfold fp
  cases h : (List.range (x + 1)).find? fun y => open Classical in decide (c y = c x) with
  | none => simp
  | some y =>
    have := List.mem_of_find?_eq_some h
    simp at this
    simp; omega
theorem fp_same (c : Nat → Dm) (x : Nat) : c (fp c x) = c x := by
  unfold fp
  cases h : (List.range (x + 1)).find? fun y => open Classical in decide (c y = c x) with
  | none => simp
  | some y =>
    have := List.find?_some h
    simpa using this
section
variable {c c' : Nat → Dm} {N : Nat} (he : ∀ x y, x < N → y < N → (c x = c y ↔ c' x = c' y)) (hv : ∀ x v, x < N → (c x = .inl v ↔ c' x = .inl v))
include he in
theorem fp_eq {x : Nat} (hx : x < N) : fp c x = fp c' x := by
  unfold fp
  congr 1
  refine find_congr fun y hy => ?_
  have hy : y < x + 1 := by simpa using hy
  exact decide_eq_decide.2 (he y x (by omega) hx)
where
  find_congr {l : List Nat} {p p' : Nat → Bool} (h : ∀ y ∈ l, p y = p' y) : l.find? p = l.find? p' := by
    induction l with
    | nil => rfl
    | cons a l ih =>
      simp only [List.find?_cons, h a List.mem_cons_self, ih (fun y hy => h y (List.mem_cons_of_mem _ hy))]
include hv in
theorem inr_eq {x : Nat} (hx : x < N) : (∃ s, c x = .inr s) ↔ ∃ s, c' x = .inr s := by
  constructor
  · rintro ⟨s, hs⟩
    cases h : c' x with
    | inl v => have := (hv x v hx).2 h; rw [hs] at this; cases this
    | inr s' => exact ⟨s', rfl⟩
  · rintro ⟨s, hs⟩
    cases h : c x with
    | inl v => have := (hv x v hx).1 h; rw [hs] at this; cases this
    | inr s' => exact ⟨s', rfl⟩
include he hv in
theorem rank_eq {y : Nat} (hy : y ≤ N) : rankC c y = rankC c' y := by
  unfold rankC
  congr 1
  refine List.filter_congr fun z hz => ?_
  have hz : z < y := by simpa using hz
  refine decide_eq_decide.2 ?_
  rw [inr_eq hv (show z < N by omega), fp_eq he (show z < N by omega)]
include he hv in
theorem out_eq (u : Int → Bool) {x : Nat} (hx : x < N) : outV u c x = outV u c' x := by
  unfold outV
  cases h : c x with
  | inl v => rw [(hv x v hx).1 h]
  | inr s =>
    obtain ⟨s', h'⟩ := (inr_eq hv hx).1 ⟨s, h⟩
    rw [h']
    have hf := fp_eq he hx
    have hfl := fp_le c x
    simp only
    rw [← hf, rank_eq he hv (show fp c x ≤ N by omega)]
end
end Go.Proofs.YteijbpppalhihaaGreat
