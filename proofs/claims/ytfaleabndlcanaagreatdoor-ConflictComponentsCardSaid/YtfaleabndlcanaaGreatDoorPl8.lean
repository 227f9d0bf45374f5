/- Pl8: independent and maximal sets, component by component. -/
import Derived.Test.YtfaleabndlcanaaGreatDoorPl7
set_option linter.unusedSimpArgs false
namespace Go.Proofs.YtfaleabndlcanaaGreatDoor
open Go Go.AM
theorem compsTo_pre (vs : List Int) (es : List (List Int)) (i : Nat) : ∀ n, i ≤ n → ∀ c ∈ compsTo vs es i, c ∈ compsTo vs es n
  | 0, h, c, hc => by have h0 : i = 0 := (by omega); subst h0; exact hc
  | n + 1, h, c, hc => by
    rcases Nat.lt_or_ge n i with h1 | h1
    · obtain rfl : i = n + 1 := by omega
      exact hc
    · have := compsTo_pre vs es i n h1 c hc
      simp only [compsTo]
      split
      · exact List.mem_append.2 (.inl this)
      · exact this
theorem compsTo_is (vs : List Int) (es : List (List Int)) : ∀ n, n ≤ vs.length → ∀ c ∈ compsTo vs es n, ∃ v ∈ vs, c = (conV vs es v, conE es v)
  | 0, _, c, hc => by simp [compsTo] at hc
  | n + 1, h, c, hc => by
    simp only [compsTo] at hc
    split at hc
    · rcases List.mem_append.1 hc with hc | hc
      · exact compsTo_is vs es n (by omega) c hc
      · simp at hc
        exact ⟨_, getD_mem (by omega : n < vs.length), by rw [hc]; simp⟩
    · exact compsTo_is vs es n (by omega) c hc
theorem compsTo_has (vs : List Int) (es : List (List Int)) (i : Nat) (hi : i < vs.length) : (conV vs es vs[i], conE es vs[i]) ∈ compsTo vs es vs.length := by
  induction i using Nat.strongRecOn with
  | _ i ih =>
    have hg : vs.getD i 0 = vs[i] := by simp [hi]
    by_cases hL : Lead vs es i
    · refine compsTo_pre vs es (i + 1) vs.length (by omega) _ ?_
      simp only [compsTo, if_pos hL, hg]
      exact List.mem_append.2 (.inr (by simp))
    · obtain ⟨j, hj, hc⟩ : ∃ j, j < i ∧ Conn es (vs.getD j 0) (vs.getD i 0) := Classical.byContradiction fun hn => hL fun j hj hc => hn ⟨j, hj, hc⟩
      have hjl : j < vs.length := by omega
      rw [hg, show vs.getD j 0 = vs[j] by simp [hjl]] at hc
      rw [← conV_congr vs hc, ← conE_congr hc]
      exact ih j hj hjl
open Classical in
theorem conV_mem {vs : List Int} {es : List (List Int)} {v x : Int} : x ∈ conV vs es v ↔ x ∈ vs ∧ Conn es v x := by
  unfold conV
  rw [List.mem_filter, decide_eq_true_iff]
open Classical in
theorem conE_mem {es : List (List Int)} {v : Int} {e : List Int} : e ∈ conE es v ↔ e ∈ es ∧ ∀ x ∈ e, Conn es v x := by
  unfold conE
  rw [List.mem_filter, decide_eq_true_iff]
def partS (c S : List Int) : List Int := S.filter fun x => memB c x
theorem partS_mem {c S : List Int} {x : Int} : x ∈ partS c S ↔ x ∈ S ∧ x ∈ c := by
  unfold partS
  rw [List.mem_filter, memB_iff]
theorem partS_take (c S : List Int) (i : Nat) (h : i < S.length) : partS c (S.take (i + 1)) = if memB c S[i] then partS c (S.take i) ++ [S[i]] else partS c (S.take i) := by
  unfold partS
  rw [List.take_succ_eq_append_getElem h, List.filter_append]
  cases hm : memB c S[i] <;> simp [List.filter, hm]
theorem partS_len (c S : List Int) (i : Nat) : (partS c (S.take i)).length ≤ i := Nat.le_trans (List.length_filter_le _ _) (by simp; omega)
theorem freeR_iff {es : List (List Int)} {l : List Int} : freeR es l = true ↔ ∀ e ∈ es, ¬ ∀ x ∈ e, x ∈ l := by
  unfold freeR
  rw [List.all_eq_true]
  constructor
  · intro h e he hw
    have := h e he
    rw [within_iff.2 hw] at this
    cases this
  · intro h e he
    cases hq : within e l
    · rfl
    · exact absurd (within_iff.1 hq) (h e he)
theorem conV_asc {vs : List Int} (ha : asc vs = true) (es : List (List Int)) (v : Int) : asc (conV vs es v) = true := asc_sub List.filter_sublist ha
section
variable {vs : List Int} {es : List (List Int)} {S : List Int}
theorem indR_free (ha : asc vs = true) (hS : S.Sublist vs) (es : List (List Int)) : indR vs es S = freeR es S := by
  unfold indR
  rw [asc_sub hS ha, within_iff.2 (fun x hx => hS.subset hx)]
  rfl
theorem indR_part (ha : asc vs = true) (hS : S.Sublist vs) (v : Int) : indR (conV vs es v) (conE es v) (partS (conV vs es v) S) = freeR (conE es v) (partS (conV vs es v) S) := by
  unfold indR
  rw [show asc (partS (conV vs es v) S) = true from asc_sub (List.filter_sublist.trans hS) ha, within_iff.2 (fun x hx => (partS_mem.1 hx).2)]
  rfl
theorem free_part (hs : ∀ e ∈ es, ∀ x ∈ e, x ∈ vs) (h : freeR es S = true) (v : Int) : freeR (conE es v) (partS (conV vs es v) S) = true := by
  rw [freeR_iff] at h ⊢
  intro e he hw
  exact h e (conE_mem.1 he).1 (fun x hx => (partS_mem.1 (hw x hx)).1)
theorem adj_in {v y : Int} {e : List Int} (he : e ∈ es) (hy : y ∈ e) (hc : Conn es v y) : e ∈ conE es v := conE_mem.2 ⟨he, fun x hx => .step hc ⟨e, he, hy, hx⟩⟩
theorem edge_at (hs : ∀ e ∈ es, ∀ x ∈ e, x ∈ vs) (hne : ∀ e ∈ es, e ≠ []) {e : List Int} (he : e ∈ es) : ∃ v, (conV vs es v, conE es v) ∈ compsTo vs es vs.length ∧ e ∈ conE es v := by
  have hp : 0 < e.length := List.length_pos_iff.2 (hne e he)
  have m0 : e.getD 0 0 ∈ e := getD_mem hp
  obtain ⟨i, hi, e1⟩ := List.mem_iff_getElem.1 (hs e he _ m0)
  exact ⟨vs[i], compsTo_has vs es i hi, adj_in he m0 (by rw [e1]; exact .refl _)⟩
theorem ind_split (ha : asc vs = true) (hs : ∀ e ∈ es, ∀ x ∈ e, x ∈ vs) (hne : ∀ e ∈ es, e ≠ []) (hS : S.Sublist vs) :
    indR vs es S = (compsTo vs es vs.length).all fun c => indR c.1 c.2 (partS c.1 S) := by
  rw [indR_free ha hS, Bool.eq_iff_iff, List.all_eq_true]
  constructor
  · intro h c hc
    obtain ⟨v, hv, rfl⟩ := compsTo_is vs es _ (Nat.le_refl _) c hc
    rw [indR_part ha hS]
    exact free_part hs h v
  · intro h
    rw [freeR_iff]
    intro e he hw
    obtain ⟨v, hv, hev⟩ := edge_at hs hne he
    have := h _ hv
    rw [indR_part ha hS, freeR_iff] at this
    exact this e hev (fun x hx => partS_mem.2 ⟨hw x hx, conV_mem.2 ⟨hs e he x hx, (conE_mem.1 hev).2 x hx⟩⟩)
theorem maxR_iff {vs : List Int} {es : List (List Int)} {l : List Int} : maxR vs es l = true ↔ indR vs es l = true ∧ ∀ v ∈ vs, v ∈ l ∨ ∃ e ∈ es, ∀ x ∈ e, x ∈ l ∨ x = v := by
  unfold maxR
  rw [Bool.and_eq_true, List.all_eq_true]
  refine and_congr Iff.rfl ⟨fun h v hv => ?_, fun h v hv => ?_⟩
  · have := h v hv
    rw [Bool.or_eq_true, memB_iff] at this
    rcases this with h1 | h1
    · exact .inl h1
    · refine .inr (Classical.byContradiction fun hn => ?_)
      have : freeR es (l ++ [v]) = true := freeR_iff.2 fun e he hw => hn ⟨e, he, fun x hx => by simpa using hw x hx⟩
      rw [this] at h1
      cases h1
  · rw [Bool.or_eq_true, memB_iff]
    rcases h v hv with h1 | ⟨e, he, h1⟩
    · exact .inl h1
    · right
      cases hq : freeR es (l ++ [v])
      · rfl
      · exact absurd (fun x hx => by simpa using h1 x hx) (freeR_iff.1 hq e he)
theorem max_split (ha : asc vs = true) (hs : ∀ e ∈ es, ∀ x ∈ e, x ∈ vs) (hne : ∀ e ∈ es, e ≠ []) (hS : S.Sublist vs) :
    maxR vs es S = (compsTo vs es vs.length).all fun c => maxR c.1 c.2 (partS c.1 S) := by
  rw [Bool.eq_iff_iff, List.all_eq_true, maxR_iff, ind_split ha hs hne hS, List.all_eq_true]
  constructor
  · rintro ⟨h1, h2⟩ c hc
    rw [maxR_iff]
    refine ⟨h1 c hc, fun v hv => ?_⟩
    have hfree : freeR es S = true := by
      rw [← indR_free ha hS, ind_split ha hs hne hS, List.all_eq_true]; exact h1
    obtain ⟨u, hu, rfl⟩ := compsTo_is vs es _ (Nat.le_refl _) c hc
    obtain ⟨hv1, hv2⟩ := conV_mem.1 hv
    rcases h2 v hv1 with h3 | ⟨e, he, h3⟩
    · exact .inl (partS_mem.2 ⟨h3, hv⟩)
    · right
      have hve : v ∈ e := Classical.byContradiction fun hn => freeR_iff.1 hfree e he fun x hx => by
        rcases h3 x hx with h4 | h4
        · exact h4
        · exact absurd (h4 ▸ hx) hn
      have hin := adj_in he hve hv2
      refine ⟨e, hin, fun x hx => ?_⟩
      rcases h3 x hx with h4 | h4
      · exact .inl (partS_mem.2 ⟨h4, conV_mem.2 ⟨hs e he x hx, (conE_mem.1 hin).2 x hx⟩⟩)
      · exact .inr h4
  · intro h
    refine ⟨fun c hc => (maxR_iff.1 (h c hc)).1, fun v hv => ?_⟩
    obtain ⟨i, hi, rfl⟩ := List.mem_iff_getElem.1 hv
    have hc := compsTo_has vs es i hi
    rcases (maxR_iff.1 (h _ hc)).2 vs[i] (conV_mem.2 ⟨hv, .refl _⟩) with h3 | ⟨e, he, h3⟩
    · exact .inl (partS_mem.1 h3).1
    · refine .inr ⟨e, (conE_mem.1 he).1, fun x hx => ?_⟩
      rcases h3 x hx with h4 | h4
      · exact .inl (partS_mem.1 h4).1
      · exact .inr h4
end
end Go.Proofs.YtfaleabndlcanaaGreatDoor
