/- Pl2: plain facts on the hypergraphs of recipes. -/
import Derived.Test.YtfaleabndlcanaaGreatDoorW10
set_option linter.unusedSimpArgs false
namespace Go.Proofs.YtfaleabndlcanaaGreatDoor
open Go Go.AM
theorem pickTo_sub (vs : List Int) (s : Int) : ∀ i, i ≤ vs.length → (pickTo vs s i).Sublist (vs.take i)
  | 0, _ => by simp [pickTo]
  | i + 1, h => by
    have ih := pickTo_sub vs s i (by omega)
    have hl : i < vs.length := by omega
    rw [List.take_succ_eq_append_getElem hl]
    simp only [pickTo]
    split
    · rw [show vs.getD i 0 = vs[i] by simp [hl]]
      exact ih.append (List.Sublist.refl _)
    · exact ih.trans (List.sublist_append_left _ _)
theorem pickF_sub (vs : List Int) (s : Int) : (pickF vs s).Sublist vs := (pickTo_sub vs s _ (by omega)).trans (List.take_sublist _ _)
theorem lsTo_sub (vs cs : List Int) : ∀ i, ∀ e ∈ lsTo vs cs i, e.Sublist vs
  | 0, e, h => by simp [lsTo] at h
  | i + 1, e, h => by
    simp only [lsTo] at h
    split at h
    · exact lsTo_sub vs cs i e h
    · rcases List.mem_append.1 h with h | h
      · exact lsTo_sub vs cs i e h
      · simp at h; subst h; exact pickF_sub vs _
theorem hypE_mem {n : Int} {cs : List Int} {e : List Int} (h : e ∈ hypE n cs) : e.Sublist (hypV n) ∧ e ≠ [] ∧ e.length ≤ 8 := by
  have := edgesTo_mem (Nat.le_refl _) h
  exact ⟨lsTo_sub _ _ _ e this, lsTo_ne _ _ _ e this, lsTo_small _ _ _ e this⟩
theorem hypE_len (n : Int) (cs : List Int) : (hypE n cs).length ≤ 12 := by
  have h1 := edgesTo_len (lsTo (hypV n) cs (min cs.length 12)) (lsTo (hypV n) cs (min cs.length 12)).length
  have h2 := lsTo_len (hypV n) cs (min cs.length 12)
  unfold hypE edgesF
  omega
theorem hypV_len (n : Int) (hn : 0 ≤ n) : (hypV n).length ≤ 8 := by
  have := Int.tmod_lt_of_pos n (show (0 : Int) < 9 by omega)
  unfold hypV; rw [vsTo_len]; unfold gN; omega
theorem hyp_small (n : Int) (cs : List Int) (hn : 0 ≤ n) : Small (hypV n) (hypE n cs) := by
  have := hypV_len n hn
  have := hypE_len n cs
  exact ⟨by omega, by omega, fun e he => by have := (hypE_mem he).2.2; omega⟩
theorem asc_pair (xs : List Int) : asc xs = true ↔ xs.Pairwise (· < ·) := by
  rw [List.pairwise_iff_getElem]
  constructor
  · intro h i j hi hj hij; exact asc_lt h i j hi hj hij
  · intro h
    exact (ascFrom_iff xs 1 (by omega)).2 fun j hj hl => h (j - 1) j (by omega) hl (by omega)
theorem vsTo_asc (n : Nat) : (vsTo n).Pairwise (· < ·) := by
  rw [List.pairwise_iff_getElem]
  intro i j hi hj hij
  simp only [vsTo, List.getElem_map, List.getElem_range]
  omega
theorem hypV_asc (n : Int) : asc (hypV n) = true := (asc_pair _).2 (vsTo_asc _)
theorem asc_sub {xs ys : List Int} (h : xs.Sublist ys) (ha : asc ys = true) : asc xs = true := (asc_pair _).2 (((asc_pair _).1 ha).sublist h)
theorem asc_nodup {xs : List Int} (h : asc xs = true) : xs.Nodup := ((asc_pair xs).1 h).imp fun h => by omega
/-- Of a list without repetitions, the members of a part of it. -/
theorem filter_sub {e vs : List Int} (h : e.Sublist vs) (hn : vs.Nodup) : vs.filter (fun v => memB e v) = e := by
  induction h with
  | slnil => rfl
  | cons a hs ih =>
    rename_i l₁ l₂
    rw [List.nodup_cons] at hn
    have : memB l₁ a = false := by
      rw [Bool.eq_false_iff]; intro hm
      exact hn.1 (hs.subset (memB_iff.1 hm))
    rw [List.filter_cons, this]
    simpa using ih hn.2
  | cons_cons a hs ih =>
    rename_i l₁ l₂
    rw [List.nodup_cons] at hn
    have h1 : memB (a :: l₁) a = true := memB_iff.2 (by simp)
    rw [List.filter_cons, h1]
    simp only [if_true]
    congr 1
    refine Eq.trans (List.filter_congr fun v hv => ?_) (ih hn.2)
    have hne : ¬ v = a := fun h => hn.1 (h ▸ hv)
    rw [memB_cons]
    simp [hne]
theorem deg_cons (e : List Int) (es : List (List Int)) (v : Int) : deg (e :: es) v = (if memB e v then 1 else 0) + deg es v := by
  unfold deg
  rw [List.filter_cons]
  split <;> simp
  omega
theorem sum_ind (vs : List Int) (p : Int → Bool) : (vs.map fun v => if p v then 1 else 0).sum = (vs.filter p).length := by
  induction vs with
  | nil => rfl
  | cons a vs ih =>
    rw [List.map_cons, List.sum_cons, ih, List.filter_cons]
    split <;> simp
    omega
theorem sum_add (vs : List Int) (f g : Int → Nat) : (vs.map fun v => f v + g v).sum = (vs.map f).sum + (vs.map g).sum := by
  induction vs with
  | nil => rfl
  | cons a vs ih => simp only [List.map_cons, List.sum_cons, ih]; omega
theorem sum_deg (vs : List Int) (hn : vs.Nodup) : ∀ es : List (List Int), (∀ e ∈ es, e.Sublist vs) → (vs.map (deg es)).sum = (es.map List.length).sum
  | [], _ => by
    have : deg [] = fun _ => 0 := by funext v; rfl
    rw [this]
    clear hn
    induction vs with
    | nil => rfl
    | cons a vs ih => simpa using ih
  | e :: es, h => by
    have ih := sum_deg vs hn es (fun x hx => h x (by simp [hx]))
    have h1 : deg (e :: es) = fun v => (if memB e v then 1 else 0) + deg es v := by funext v; exact deg_cons e es v
    rw [h1, sum_add, sum_ind, filter_sub (h e (by simp)) hn, ih]
    simp
theorem sum_take_le (xs : List Nat) (b : Nat) (h : ∀ x ∈ xs, x ≤ b) : xs.sum ≤ xs.length * b := by
  induction xs with
  | nil => simp
  | cons a xs ih =>
    have := ih (fun x hx => h x (by simp [hx]))
    have := h a (by simp)
    simp only [List.sum_cons, List.length_cons, Nat.add_mul]
    omega
end Go.Proofs.YtfaleabndlcanaaGreatDoor
