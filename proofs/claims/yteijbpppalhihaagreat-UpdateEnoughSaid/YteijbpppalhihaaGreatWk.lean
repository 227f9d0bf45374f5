/- Wk: values may be weakened: a full list to any, a nil list to an empty one. -/
import Derived.Test.YteijbpppalhihaaGreatK0
set_option linter.unusedVariables false
set_option linter.unusedSimpArgs false
namespace Go.Proofs.YteijbpppalhihaaGreat
open Go Go.AM
def lfB : V → V → Prop
  | x, y => y = x ∨ (∃ z xs, x = .lst z true xs ∧ y = .lst z false xs) ∨ (∃ z, x = .nilS ∧ y = .lst z false [])
def LfL : List V → List V → Prop
  | [], [] => True
  | x :: xs, y :: ys => lfB x y ∧ LfL xs ys
  | _, _ => False
theorem LfL.len : ∀ {xs ys : List V}, LfL xs ys → xs.length = ys.length
  | [], [], _ => rfl
  | [], _ :: _, h => h.elim
  | _ :: _, [], h => h.elim
  | _ :: _, _ :: _, h => by simp [h.2.len]
theorem LfL.at_ : ∀ {xs ys : List V}, LfL xs ys → ∀ (i : Nat) x y, xs[i]? = some x → ys[i]? = some y → lfB x y
  | [], _, _, i, x, y, h, _ => by simp at h
  | _ :: _, [], h, _, _, _, _, _ => h.elim
  | a :: xs, b :: ys, h, 0, x, y, h1, h2 => by simp at h1 h2; subst h1; subst h2; exact h.1
  | a :: xs, b :: ys, h, i + 1, x, y, h1, h2 => h.2.at_ i x y (by simpa using h1) (by simpa using h2)
theorem lf_rel {s : AM.St} {x y : V} {u : Value} (h : Rel s x u) (hl : lfB x y) : Rel s y u := by
  rcases hl with rfl | ⟨z, xs, rfl, rfl⟩ | ⟨z, rfl, rfl⟩
  · exact h
  · cases h with
    | lst _ _ _ A cap b off u hcap hfull hA hz hcell hrel => exact .lst z false xs A cap b off u hcap (fun h => by cases h) hA hz hcell hrel
  · cases h
    exact rel_empty z false none 0 (fun _ => rfl)
theorem lf_one {x y : V} (hl : lfB x y) (h : x.one = true) : y.one = true := by
  rcases hl with rfl | ⟨z, xs, rfl, rfl⟩ | ⟨z, rfl, rfl⟩
  · exact h
  · rfl
  · rfl
/-- The slots of the frame and the cells of block k0 are weakened. -/
theorem W_lf {P : Program} (k0 : Nat) (fr' cs' : List V) {c : Code} {Q : Exit → List V → List B → Prop} {fr : List V} {H : List B} {cs : List V} (hk : H[k0]? = some (.cells cs)) (ho : LfL fr fr') (hc : LfL cs cs')
    (h : W P c Q fr' (H.set k0 (.cells cs'))) : W P c Q fr H := by
  intro s a hA hg hf hd
  obtain ⟨rfl, hZ⟩ := hA
  have hst := setB_step (w := s.w) (bl' := .cells cs') hg hk (lvC hk) trivial rfl rfl rfl (Nat.le_refl _) (fun _ _ _ => rfl)
  have hl := ho.len
  have hlc := hc.len
  have hgd : AM.Good (s.setB s.w k0 (.cells cs')) := by
    refine setB_good hg hk (lvC hk) trivial rfl rfl rfl (Nat.le_refl _) (fun _ _ _ => rfl) (fun hst => ?_)
    obtain ⟨h1, vs, t, h2, h3, h4⟩ := hg.blk k0 _ hk
    refine ⟨fun d hd => ?_, vs, t, h2, by omega, fun i d u hd hu => ?_⟩
    · obtain ⟨i, hi⟩ := List.mem_iff_getElem?.1 hd
      have hx : cs[i]? = some (cs[i]'(by have := getElem?_lt hi; omega)) := List.getElem?_eq_getElem _
      exact lf_one (hc.at_ i _ d hx hi) (h1 _ (List.getElem_mem _))
    · have hx : cs[i]? = some (cs[i]'(by have := getElem?_lt hd; omega)) := List.getElem?_eq_getElem _
      exact (lf_rel (h4 i _ u hx hu) (hc.at_ i _ d hx hd)).step hst
  have := h (s.setB s.w k0 (.cells cs')) a ⟨rfl, hZ.step hst⟩ hgd ⟨by rw [hf.len, hl], fun i v u hv hu => by
    have hx : fr[i]? = some (fr[i]'(by have := getElem?_lt hv; omega)) := List.getElem?_eq_getElem _
    exact (lf_rel (hf.rel i _ u hx hu) (ho.at_ i _ v hx hv)).step hst⟩ hd
  exact wp_mono this fun _ _ _ hl => leaves_trans hst hl
theorem lfB_refl (x : V) : lfB x x := .inl rfl
theorem lfL_refl : ∀ xs : List V, LfL xs xs
  | [] => trivial
  | x :: xs => ⟨lfB_refl x, lfL_refl xs⟩
end Go.Proofs.YteijbpppalhihaaGreat
