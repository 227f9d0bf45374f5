/- Pl9: lists of blocks, one for each root. -/
import Derived.Test.YtfaleabndlcanaaGreatDoorPl8
set_option linter.unusedSimpArgs false
namespace Go.Proofs.YtfaleabndlcanaaGreatDoor
open Go Go.AM
theorem map_set {α : Type} {f g : Nat → α} : ∀ {rs : List Nat} {c r : Nat}, rs.Nodup → rs[c]? = some r → (∀ s, s ≠ r → g s = f s) → (rs.map f).set c (g r) = rs.map g
  | [], _, _, _, hc, _ => by simp at hc
  | a :: rs, 0, r, hn, hc, h => by
    simp at hc
    subst hc
    rw [List.nodup_cons] at hn
    simp only [List.map_cons, List.set_cons_zero, List.cons.injEq, true_and]
    exact List.map_congr_left fun s hs => (h s fun e => hn.1 (e ▸ hs)).symm
  | a :: rs, c + 1, r, hn, hc, h => by
    rw [List.nodup_cons] at hn
    have hc : rs[c]? = some r := by simpa using hc
    simp only [List.map_cons, List.set_cons_succ, map_set hn.2 hc h, List.cons.injEq, and_true]
    exact (h a fun e => hn.1 (e ▸ List.mem_of_getElem? hc)).symm
theorem nodup_inj {α : Type} {l : List α} (hn : l.Nodup) {i j : Nat} (hi : i < l.length) (hj : j < l.length) (h : l[i] = l[j]) : i = j := by
  have hp := List.pairwise_iff_getElem.1 hn
  rcases Nat.lt_trichotomy i j with h1 | h1 | h1
  · exact absurd h (hp i j hi hj h1)
  · exact h1
  · exact absurd h.symm (hp j i hj hi h1)
theorem mapIdx_set {α : Type} {f g : Nat → Nat → α} {rs : List Nat} {c r : Nat} (hn : rs.Nodup) (hc : rs[c]? = some r) (h : ∀ i s, s ≠ r → g i s = f i s) : (rs.mapIdx f).set c (g c r) = rs.mapIdx g := by
  apply List.ext_getElem
  · simp
  · intro i h1 h2
    have hi : i < rs.length := by simpa using h2
    have hcl := getElem?_lt hc
    rw [List.getElem_set]
    have hr : rs[c] = r := by rw [List.getElem?_eq_getElem hcl] at hc; exact Option.some.inj hc
    split
    · rename_i hci
      subst hci
      simp [hr]
    · rename_i hci
      simp only [List.getElem_mapIdx]
      refine (h i _ fun e => hci ?_).symm
      exact nodup_inj hn hcl hi (hr.trans e.symm)
theorem rsTo_nodup (part : List Nat) : ∀ i, (rsTo part i).Nodup
  | 0 => by simp [rsTo]
  | i + 1 => by
    have ih := rsTo_nodup part i
    simp only [rsTo]
    split
    · exact ih
    · rename_i h
      rw [nodup_snoc']
      exact ⟨ih, fun hm => h (List.contains_iff_mem.2 hm)⟩
where
  nodup_snoc' {l : List Nat} {a : Nat} : (l ++ [a]).Nodup ↔ l.Nodup ∧ a ∉ l := by
    rw [List.nodup_append]
    constructor
    · rintro ⟨h1, _, h3⟩; exact ⟨h1, fun h => h3 a h a (by simp) rfl⟩
    · rintro ⟨h1, h2⟩
      refine ⟨h1, by simp, fun x hx y hy e => ?_⟩
      simp at hy
      subst hy; subst e
      exact h2 hx
theorem rsTo_len (part : List Nat) : ∀ i, (rsTo part i).length ≤ i
  | 0 => by simp [rsTo]
  | i + 1 => by
    have := rsTo_len part i
    simp only [rsTo]
    split
    · omega
    · simp; omega
theorem vTo_succ (part : List Nat) (vs : List Int) (i r : Nat) : vTo part vs (i + 1) r = if rootN part i = r then vTo part vs i r ++ [vs.getD i 0] else vTo part vs i r := by
  unfold vTo
  rw [List.range_succ, List.filter_append, List.map_append]
  by_cases h : rootN part i = r
  · simp [h]
  · simp [h]
theorem vTo_len (part : List Nat) (vs : List Int) (i r : Nat) : (vTo part vs i r).length ≤ i := by
  unfold vTo
  rw [List.length_map]
  exact Nat.le_trans (List.length_filter_le _ _) (by simp)
/-- A root that has not been met has no vertices. -/
theorem vTo_new (part : List Nat) (vs : List Int) (i r : Nat) (h : r ∉ rsTo part i) : vTo part vs i r = [] := by
  unfold vTo
  rw [List.map_eq_nil_iff, List.filter_eq_nil_iff]
  intro j hj hr
  exact h ((rsTo_mem part i r).2 ⟨j, List.mem_range.1 hj, beq_iff_eq.1 hr⟩)
theorem eOf_take (part : List Nat) (vs : List Int) (es : List (List Int)) (r j : Nat) (h : j < es.length) : eOf part vs (es.take (j + 1)) r = if rootN part (bsP vs (es[j].getD 0 0)) = r then eOf part vs (es.take j) r ++ [es[j]] else eOf part vs (es.take j) r := by
  unfold eOf
  rw [List.take_succ_eq_append_getElem h, List.filter_append]
  by_cases hq : rootN part (bsP vs (es[j].getD 0 0)) = r
  · rw [if_pos hq]
    simp only [List.filter_cons, beq_iff_eq.2 hq, List.filter_nil, if_true]
  · rw [if_neg hq]
    simp only [List.filter_cons, beq_eq_false_iff_ne.2 hq, List.filter_nil, List.append_nil, Bool.false_eq_true, if_false]
theorem eOf_len (part : List Nat) (vs : List Int) (es : List (List Int)) (r j : Nat) : (eOf part vs (es.take j) r).length ≤ j := Nat.le_trans (List.length_filter_le _ _) (by simp; omega)
/-- The map of roots. -/
def mR (rs : List Nat) : List (V × V) := rs.mapIdx fun (c r : Nat) => (V.int .i64 (r : Int), V.int .i64 (c : Int))
theorem mR_snoc (rs : List Nat) (r : Nat) : mR (rs ++ [r]) = mR rs ++ [(V.int .i64 r, V.int .i64 rs.length)] := by
  unfold mR
  rw [List.mapIdx_append]
  simp
theorem findR_cons (x a : Nat) (v : V) (l : List (V × V)) (i : Nat) : findA (.int .i64 (x : Int)) ((V.int .i64 (a : Int), v) :: l) i = if ((x : Int) == (a : Int)) = true then some (i, v) else findA (.int .i64 (x : Int)) l (i + 1) := rfl
theorem mR_at (rs : List Nat) (k : Nat) (x : Nat) : ∀ (l : List Nat) (n i : Nat), (∀ j (h : j < l.length), l[j] ≠ x) → findA (.int .i64 (x : Int)) (l.mapIdx fun (c r : Nat) => (V.int .i64 (r : Int), V.int .i64 ((c + n : Nat) : Int))) i = none
  | [], _, _, _ => rfl
  | a :: l, n, i, h => by
    have h0 := h 0 (by simp)
    simp only [List.getElem_cons_zero] at h0
    rw [List.mapIdx_cons, findR_cons, if_neg (by simp; omega)]
    have := mR_at rs k x l (n + 1) (i + 1) (fun j hj => by have := h (j + 1) (by simpa using hj); simpa using this)
    simpa [Nat.add_assoc, Nat.add_comm 1 n] using this
theorem findR_no (rs : List Nat) (x : Nat) (h : x ∉ rs) : findA (.int .i64 (x : Int)) (mR rs) 0 = none := by
  have := mR_at rs 0 x rs 0 0 (fun j hj e => h (e ▸ List.getElem_mem hj))
  simpa [mR] using this
theorem mR_find (x : Nat) : ∀ (l : List Nat) (n i : Nat), x ∈ l → ∃ c, l[c]? = some x ∧ findA (.int .i64 (x : Int)) (l.mapIdx fun (c r : Nat) => (V.int .i64 (r : Int), V.int .i64 ((c + n : Nat) : Int))) i = some (i + c, .int .i64 ((c + n : Nat) : Int))
  | [], _, _, h => by cases h
  | a :: l, n, i, h => by
    rw [List.mapIdx_cons, findR_cons]
    by_cases ha : a = x
    · subst ha
      exact ⟨0, by simp, by simp⟩
    · rw [if_neg (by simp; omega)]
      obtain ⟨c, h1, h2⟩ := mR_find x l (n + 1) (i + 1) ((List.mem_cons.1 h).elim (fun h => absurd h.symm ha) fun h => h)
      refine ⟨c + 1, by simpa using h1, ?_⟩
      have e : (fun (c r : Nat) => (V.int .i64 (r : Int), V.int .i64 ((c + 1 + n : Nat) : Int))) = fun (c r : Nat) => (V.int .i64 (r : Int), V.int .i64 ((c + (n + 1) : Nat) : Int)) := by
        funext c r; rw [show c + 1 + n = c + (n + 1) by omega]
      rw [e, h2, show i + 1 + c = i + (c + 1) by omega, show c + (n + 1) = c + 1 + n by omega]
theorem findR_yes (rs : List Nat) (x : Nat) (h : x ∈ rs) : ∃ c, rs[c]? = some x ∧ findA (.int .i64 (x : Int)) (mR rs) 0 = some (c, .int .i64 (c : Int)) := by
  obtain ⟨c, h1, h2⟩ := mR_find x rs 0 0 h
  exact ⟨c, h1, by simpa [mR] using h2⟩
end Go.Proofs.YtfaleabndlcanaaGreatDoor
