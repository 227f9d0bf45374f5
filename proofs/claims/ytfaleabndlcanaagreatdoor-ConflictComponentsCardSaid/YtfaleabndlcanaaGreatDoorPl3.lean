/- Pl3: independent and maximal sets: both sides agree. -/
import Derived.Test.YtfaleabndlcanaaGreatDoorW12
set_option linter.unusedSimpArgs false
namespace Go.Proofs.YtfaleabndlcanaaGreatDoor
open Go Go.AM
theorem ind_eq {vs : List Int} (hv : asc vs = true) (es : List (List Int)) (l : List Int) : indC vs es l = indR vs es l := by
  unfold indC indR freeR
  rw [contB_within hv]
  cases ha : asc l
  · simp
  · have h1 : (fun m => contB l m) = fun m => within m l := by funext m; exact contB_within ha m
    rw [h1]
    congr 1
    induction es with
    | nil => rfl
    | cons e es ih => simp only [List.any_cons, List.all_cons, Bool.not_or, ih]
def insB (l : List Int) (v : Int) : List Int := l.take (bsP l v) ++ v :: l.drop (bsP l v)
def maxC (vs : List Int) (es : List (List Int)) (l : List Int) : Bool := indC vs es l && vs.all fun v => bsF l v || !indC vs es (insB l v)
def maxR (vs : List Int) (es : List (List Int)) (l : List Int) : Bool := indR vs es l && vs.all fun v => memB l v || !freeR es (l ++ [v])
theorem insB_mem (l : List Int) (v x : Int) : x ∈ insB l v ↔ x ∈ l ∨ x = v := by
  have h : x ∈ l ↔ x ∈ l.take (bsP l v) ∨ x ∈ l.drop (bsP l v) := by
    rw [← List.mem_append, List.take_append_drop]
  simp only [insB, List.mem_append, List.mem_cons, h]
  constructor
  · rintro (h | h | h)
    · exact .inl (.inl h)
    · exact .inr h
    · exact .inl (.inr h)
  · rintro ((h | h) | h)
    · exact .inl h
    · exact .inr (.inr h)
    · exact .inr (.inl h)
theorem insB_asc {l : List Int} {v : Int} (ha : asc l = true) (hm : memB l v = false) : asc (insB l v) = true := by
  obtain ⟨h1, h2⟩ := bsI_ok ha v 0 l.length (by omega) (by omega) (fun j h hj => absurd hj (by omega)) (fun j h hj => absurd h (by omega))
  have hp := (asc_pair l).1 ha
  have hnm : v ∉ l := fun h => by have := memB_iff.2 h; rw [hm] at this; cases this
  have t1 : ∀ a ∈ l.take (bsP l v), a < v := fun a ha' => by
    obtain ⟨j, hj, rfl⟩ := List.mem_iff_getElem.1 ha'
    simp only [List.length_take] at hj
    simp only [List.getElem_take]
    exact h1 j (by omega) (by unfold bsP at hj; omega)
  have t2 : ∀ a ∈ l.drop (bsP l v), v < a := fun a ha' => by
    obtain ⟨j, hj, rfl⟩ := List.mem_iff_getElem.1 ha'
    simp only [List.length_drop] at hj
    simp only [List.getElem_drop]
    have hle := h2 (bsP l v + j) (by omega) (by unfold bsP; omega)
    have hne : v ≠ l[bsP l v + j]'(by omega) := fun h => hnm (h ▸ List.getElem_mem _)
    omega
  refine (asc_pair _).2 ?_
  unfold insB
  rw [List.pairwise_append, List.pairwise_cons]
  refine ⟨hp.sublist (List.take_sublist _ _), ⟨t2, hp.sublist (List.drop_sublist _ _)⟩, fun a ha' b hb => ?_⟩
  rcases List.mem_cons.1 hb with rfl | hb
  · exact t1 a ha'
  · have := t1 a ha'; have := t2 b hb; omega
theorem within_congr {e a b : List Int} (h : ∀ x, x ∈ a ↔ x ∈ b) : within e a = within e b := by
  unfold within
  congr 1
  funext x
  rw [Bool.eq_iff_iff, memB_iff, memB_iff, h]
theorem freeR_congr {es : List (List Int)} {a b : List Int} (h : ∀ x, x ∈ a ↔ x ∈ b) : freeR es a = freeR es b := by
  unfold freeR
  congr 1
  funext e
  rw [within_congr h]
theorem within_iff {a b : List Int} : within a b = true ↔ ∀ x ∈ a, x ∈ b := by
  unfold within
  rw [List.all_eq_true]
  exact ⟨fun h x hx => memB_iff.1 (h x hx), fun h x hx => memB_iff.2 (h x hx)⟩
theorem max_eq {vs : List Int} (hv : asc vs = true) (es : List (List Int)) (l : List Int) : maxC vs es l = maxR vs es l := by
  unfold maxC maxR
  rw [ind_eq hv]
  cases hi : indR vs es l
  · rfl
  · simp only [Bool.true_and]
    have hi' := hi
    unfold indR at hi'
    simp only [Bool.and_eq_true] at hi'
    obtain ⟨⟨ha, hw⟩, _⟩ := hi'
    rw [Bool.eq_iff_iff, List.all_eq_true, List.all_eq_true]
    have key : ∀ v ∈ vs, (bsF l v || !indC vs es (insB l v)) = (memB l v || !freeR es (l ++ [v])) := fun v hvm => by
      rw [bsF_mem ha]
      cases hm : memB l v
      · simp only [Bool.false_or]
        rw [ind_eq hv]
        unfold indR
        have hw2 : within (insB l v) vs = true := within_iff.2 fun x hx => by
          rcases (insB_mem l v x).1 hx with h | rfl
          · exact within_iff.1 hw x h
          · exact hvm
        rw [insB_asc ha hm, hw2, freeR_congr (b := l ++ [v]) (fun x => by rw [insB_mem]; simp)]
        rfl
      · rfl
    exact ⟨fun h v hvm => by rw [← key v hvm]; exact h v hvm, fun h v hvm => by rw [key v hvm]; exact h v hvm⟩
end Go.Proofs.YtfaleabndlcanaaGreatDoor
