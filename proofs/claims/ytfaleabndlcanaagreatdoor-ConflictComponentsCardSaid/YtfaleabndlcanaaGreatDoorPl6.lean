/- Pl6: the reference's search for a component. -/
import Derived.Test.YtfaleabndlcanaaGreatDoorPl5
set_option linter.unusedSimpArgs false
namespace Go.Proofs.YtfaleabndlcanaaGreatDoor
open Go Go.AM
/-- The members of an edge from place j on are added. -/
def addTo (g e : List Int) : Nat → List Int
  | 0 => g
  | j + 1 => if memB (addTo g e j) (e.getD j 0) then addTo g e j else addTo g e j ++ [e.getD j 0]
/-- The edges with v are added. -/
def scanTo (es : List (List Int)) (v : Int) (g : List Int) : Nat → List Int
  | 0 => g
  | k + 1 => if memB (eAt es k) v then addTo (scanTo es v g k) (eAt es k) (eAt es k).length else scanTo es v g k
def bfs (es : List (List Int)) : Nat → Nat → List Int → List Int
  | 0, _, g => g
  | fuel + 1, n, g => if n < g.length then bfs es fuel (n + 1) (scanTo es (g.getD n 0) g es.length) else g
theorem addTo_mem (g e : List Int) : ∀ j, j ≤ e.length → ∀ x, x ∈ addTo g e j ↔ x ∈ g ∨ x ∈ e.take j
  | 0, _, x => by simp [addTo]
  | j + 1, h, x => by
    have ih := addTo_mem g e j (by omega)
    have hl : j < e.length := by omega
    have hg : e.getD j 0 = e[j] := by simp [hl]
    simp only [addTo, hg]
    rw [List.take_succ_eq_append_getElem hl, List.mem_append, List.mem_singleton]
    split
    · rename_i hm
      have hm := (ih e[j]).1 (memB_iff.1 hm)
      rw [ih]
      constructor
      · rintro (h | h)
        · exact .inl h
        · exact .inr (.inl h)
      · rintro (h | h | h)
        · exact .inl h
        · exact .inr h
        · subst h; exact hm
    · rw [List.mem_append, List.mem_singleton, ih, or_assoc]
theorem addTo_pre (g e : List Int) : ∀ j, ∃ t, addTo g e j = g ++ t
  | 0 => ⟨[], by simp [addTo]⟩
  | j + 1 => by
    obtain ⟨t, ht⟩ := addTo_pre g e j
    simp only [addTo]
    split
    · exact ⟨t, ht⟩
    · exact ⟨t ++ [e.getD j 0], by rw [ht, List.append_assoc]⟩
theorem addTo_nodup {g e : List Int} (h : g.Nodup) : ∀ j, (addTo g e j).Nodup
  | 0 => h
  | j + 1 => by
    have ih := addTo_nodup (e := e) h j
    simp only [addTo]
    split
    · exact ih
    · rename_i hm
      rw [List.nodup_append]
      refine ⟨ih, by simp, fun a ha b hb => ?_⟩
      simp at hb
      subst hb
      rintro rfl
      exact hm (memB_iff.2 ha)
theorem scanTo_mem (es : List (List Int)) (v : Int) (g : List Int) : ∀ k, k ≤ es.length → ∀ x, x ∈ scanTo es v g k ↔ x ∈ g ∨ ∃ e ∈ es.take k, v ∈ e ∧ x ∈ e
  | 0, _, x => by simp [scanTo]
  | k + 1, h, x => by
    have ih := scanTo_mem es v g k (by omega)
    have hl : k < es.length := by omega
    simp only [scanTo, getD_at hl]
    rw [List.take_succ_eq_append_getElem hl]
    split
    · rename_i hm
      rw [addTo_mem _ _ _ (Nat.le_refl _), List.take_length, ih]
      constructor
      · rintro ((h | ⟨e, he, h1, h2⟩) | h)
        · exact .inl h
        · exact .inr ⟨e, List.mem_append.2 (.inl he), h1, h2⟩
        · exact .inr ⟨es[k], List.mem_append.2 (.inr (by simp)), memB_iff.1 hm, h⟩
      · rintro (h | ⟨e, he, h1, h2⟩)
        · exact .inl (.inl h)
        · rcases List.mem_append.1 he with he | he
          · exact .inl (.inr ⟨e, he, h1, h2⟩)
          · simp at he; subst he; exact .inr h2
    · rename_i hm
      rw [ih]
      constructor
      · rintro (h | ⟨e, he, h1, h2⟩)
        · exact .inl h
        · exact .inr ⟨e, List.mem_append.2 (.inl he), h1, h2⟩
      · rintro (h | ⟨e, he, h1, h2⟩)
        · exact .inl h
        · rcases List.mem_append.1 he with he | he
          · exact .inr ⟨e, he, h1, h2⟩
          · simp at he; subst he; exact absurd (memB_iff.2 h1) hm
theorem scanTo_pre (es : List (List Int)) (v : Int) (g : List Int) : ∀ k, ∃ t, scanTo es v g k = g ++ t
  | 0 => ⟨[], by simp [scanTo]⟩
  | k + 1 => by
    obtain ⟨t, ht⟩ := scanTo_pre es v g k
    simp only [scanTo]
    split
    · obtain ⟨t2, ht2⟩ := addTo_pre (scanTo es v g k) (eAt es k) (eAt es k).length
      exact ⟨t ++ t2, by rw [ht2, ht, List.append_assoc]⟩
    · exact ⟨t, ht⟩
theorem scanTo_nodup {es : List (List Int)} {v : Int} {g : List Int} (h : g.Nodup) : ∀ k, (scanTo es v g k).Nodup
  | 0 => h
  | k + 1 => by
    have ih := scanTo_nodup (es := es) (v := v) h k
    simp only [scanTo]
    split
    · exact addTo_nodup ih _
    · exact ih
/-- The state of the search: all before place n are done. -/
structure Bf (vs : List Int) (es : List (List Int)) (v : Int) (n : Nat) (g : List Int) : Prop where
  nd : g.Nodup
  sub : ∀ x ∈ g, x ∈ vs
  con : ∀ x ∈ g, Conn es v x
  has : v ∈ g
  done : ∀ j (h : j < g.length), j < n → ∀ y, Adj es g[j] y → y ∈ g
theorem Bf.init {vs : List Int} {es : List (List Int)} {v : Int} (hv : v ∈ vs) : Bf vs es v 0 [v] :=
  ⟨by simp, by simpa using hv, fun x hx => by simp at hx; subst hx; exact .refl _, by simp, fun j h hj => absurd hj (by omega)⟩
theorem Bf.next {vs : List Int} {es : List (List Int)} (hs : ∀ e ∈ es, ∀ x ∈ e, x ∈ vs) {v : Int} {n : Nat} {g : List Int} (h : Bf vs es v n g) (hn : n < g.length) : Bf vs es v (n + 1) (scanTo es (g.getD n 0) g es.length) := by
  have hg : g.getD n 0 = g[n] := by simp [hn]
  have hm := scanTo_mem es (g.getD n 0) g es.length (Nat.le_refl _)
  rw [List.take_length] at hm
  obtain ⟨t, ht⟩ := scanTo_pre es (g.getD n 0) g es.length
  refine ⟨scanTo_nodup h.nd _, fun x hx => ?_, fun x hx => ?_, (hm v).2 (.inl h.has), fun j hj hjn y hy => ?_⟩
  · rcases (hm x).1 hx with hx | ⟨e, he, h1, h2⟩
    · exact h.sub x hx
    · exact hs e he x h2
  · rcases (hm x).1 hx with hx | ⟨e, he, h1, h2⟩
    · exact h.con x hx
    · rw [hg] at h1
      exact .step (h.con _ (List.getElem_mem hn)) ⟨e, he, h1, h2⟩
  · have hjg : j < g.length := by omega
    have e1 : (scanTo es (g.getD n 0) g es.length)[j] = g[j] := by
      have : (scanTo es (g.getD n 0) g es.length)[j]? = g[j]? := by rw [ht, List.getElem?_append_left hjg]
      rw [List.getElem?_eq_getElem hj, List.getElem?_eq_getElem hjg] at this
      exact Option.some.inj this
    rw [e1] at hy
    rcases Nat.lt_or_ge j n with h3 | h3
    · exact (hm y).2 (.inl (h.done j hjg h3 y hy))
    · obtain rfl : j = n := by omega
      obtain ⟨e, he, h1, h2⟩ := hy
      exact (hm y).2 (.inr ⟨e, he, by rw [hg]; exact h1, h2⟩)
theorem nodup_len {g vs : List Int} (h : g.Nodup) (hs : ∀ x ∈ g, x ∈ vs) : g.length ≤ vs.length := by
  induction g generalizing vs with
  | nil => simp
  | cons a g ih =>
    rw [List.nodup_cons] at h
    have ha : a ∈ vs := hs a (by simp)
    have := ih (vs := vs.erase a) h.2 (fun x hx => by
      have hne : x ≠ a := fun e => h.1 (e ▸ hx)
      exact (List.mem_erase_of_ne hne).2 (hs x (by simp [hx])))
    rw [List.length_erase_of_mem ha] at this
    have hp := List.length_pos_of_mem ha
    simp
    omega
/-- A search that has come to its end has found the component. -/
theorem Bf.all {vs : List Int} {es : List (List Int)} {v : Int} {n : Nat} {g : List Int} (h : Bf vs es v n g) (hn : g.length ≤ n) : ∀ x, x ∈ g ↔ Conn es v x := fun x => by
  refine ⟨h.con x, fun hc => ?_⟩
  induction hc with
  | refl => exact h.has
  | step _ a ih =>
    obtain ⟨j, hj, e⟩ := List.mem_iff_getElem.1 ih
    exact h.done j hj (by omega) _ (by rw [e]; exact a)
end Go.Proofs.YtfaleabndlcanaaGreatDoor
