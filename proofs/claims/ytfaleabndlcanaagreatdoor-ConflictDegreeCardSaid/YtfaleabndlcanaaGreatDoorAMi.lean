import Derived.Test.YtfaleabndlcanaaGreatDoorAMh
/- Frz: a buffer that nobody writes from here on, as a list. -/
namespace Go.AM
open Go

/-- The second has q for some p. -/
def RepF (p q : V) : List V → List V → Prop
  | [], [] => True
  | x :: xs, y :: ys => (y = x ∨ (x = p ∧ y = q)) ∧ RepF p q xs ys
  | _, _ => False
theorem RepF.len {p q : V} : ∀ {xs ys : List V}, RepF p q xs ys → xs.length = ys.length
  | [], [], _ => rfl
  | [], _ :: _, h => h.elim
  | _ :: _, [], h => h.elim
  | _ :: _, _ :: _, h => by simp [h.2.len]
theorem RepF.at_ {p q : V} : ∀ {xs ys : List V}, RepF p q xs ys → ∀ (i : Nat) x y, xs[i]? = some x → ys[i]? = some y → y = x ∨ (x = p ∧ y = q)
  | [], _, _, i, x, y, h, _ => by simp at h
  | _ :: _, [], h, _, _, _, _, _ => h.elim
  | a :: xs, b :: ys, h, 0, x, y, h1, h2 => by simp at h1 h2; subst h1; subst h2; exact h.1
  | a :: xs, b :: ys, h, i + 1, x, y, h1, h2 => h.2.at_ i x y (by simpa using h1) (by simpa using h2)
def repAt (q : V) (sl : List Nat) : Nat → List V → List V
  | _, [] => []
  | i, v :: r => (if sl.contains i then q else v) :: repAt q sl (i + 1) r

section
variable {P : Program} {T : Ty}
def St.frz (s : St) (k : Nat) (bl : B) : St := { s with H := s.H.set k bl }
theorem frz_lv {s : St} {k e z : Nat} {xs : List V} {fz : Bool} (hk : s.H[k]? = some (.buf e z xs fz)) {i : Nat} (h : Lv (s.frz k (.buf e z xs true)) i) : Lv s i := by
  have hil : i < s.H.length := by have := h.1; simpa [St.frz] using this
  refine ⟨hil, fun e' z' xs' fz' hb => ?_⟩
  by_cases hik : i = k
  · subst hik
    exact h.2 e z xs true (by simp only [St.frz]; rw [List.getElem?_set_self hil])
  · exact h.2 e' z' xs' fz' (by simp only [St.frz]; rw [List.getElem?_set_ne (Ne.symm hik)]; exact hb)
theorem frz_ok {s : St} (hg : Good s) {k e z : Nat} {xs : List V} {fz : Bool} (hk : s.H[k]? = some (.buf e z xs fz)) :
    Good (s.frz k (.buf e z xs true)) ∧ Step s (s.frz k (.buf e z xs true)) ∧ ∀ u, Rel s (.buf k 0 xs.length xs.length) u → Rel (s.frz k (.buf e z xs true)) (.lst z false xs) u := by
  have hkl := getElem?_lt hk
  have hst : Step s (s.frz k (.buf e z xs true)) := ⟨rfl, rfl, rfl, rfl, Nat.le_refl _, fun _ _ _ => rfl, by simp [St.frz], fun i h1 h2 => absurd h1 (by have := h2.1; simp [St.frz] at this; omega), fun i bl hi => by
    by_cases hik : i = k
    · subst hik
      rw [hk] at hi
      cases hi
      exact ⟨xs, true, by simp [St.frz, hkl], Nat.le_refl _, fun _ => ⟨rfl, rfl⟩, fun _ => ⟨rfl, rfl, fun _ => rfl⟩, .inl rfl, .inl⟩
    · have hk' : (s.frz k (.buf e z xs true)).H[i]? = some bl := by simp only [St.frz]; rw [List.getElem?_set_ne (Ne.symm hik)]; exact hi
      cases bl with
      | cells cs => exact ⟨rfl, cs, hk'⟩
      | map kk es => exact ⟨rfl, es, hk'⟩
      | buf e z xs fz => exact ⟨xs, fz, hk', Nat.le_refl _, fun _ => ⟨rfl, rfl⟩, fun hf => ⟨hf, rfl, fun _ => rfl⟩, .inl rfl, .inl⟩⟩
  have hgd : Good (s.frz k (.buf e z xs true)) := by
    refine ⟨hg.fl, fun i hi => hg.lt i (frz_lv hk hi), fun i j hi hj => hg.inj i j (frz_lv hk hi) (frz_lv hk hj), fun i bl hi => ?_⟩
    by_cases hik : i = k
    · subst hik
      simp only [St.frz] at hi
      rw [List.getElem?_set_self hkl] at hi
      cases hi
      obtain ⟨vs, g2, g3, g4, g5, g6, g7⟩ := hg.blk i _ hk
      exact ⟨vs, g2, g3, g4, g5, g6, fun a x j c u h1 h2 h3 => (g7 a x j c u h1 h2 h3).step hst⟩
    · have hi' : s.H[i]? = some bl := by simp only [St.frz] at hi; rwa [List.getElem?_set_ne (Ne.symm hik)] at hi
      exact (hg.blk i bl hi').step hst hi' rfl rfl (fun _ => rfl)
  refine ⟨hgd, hst, fun u h => ?_⟩
  cases h with
  | buf _ _ _ _ e2 z2 xs2 fz2 A l c hk2 ht hh =>
    rw [hk] at hk2
    cases hk2
    obtain ⟨hA, rfl, hcap, _⟩ := hh rfl
    obtain ⟨vs, g2, g3, g4, g5, g6, g7⟩ := hg.blk k _ hk
    by_cases hl0 : xs.length = 0
    · have hx : xs = [] := List.eq_nil_of_length_eq_zero hl0
      subst hx
      exact rel_empty z false A c (fun h => by cases h)
    have hκ : s.κ k ≠ 0 := by omega
    have hA := hA hκ
    subst hA
    have hlk := lvB hk hκ
    have hP : (s.frz k (.buf e z xs true)).Prot (s.φ k) := by
      refine ⟨(hg.lt k hlk).1, (hg.lt k hlk).2, fun j hj e' => ?_⟩
      have := hg.inj j k (frz_lv hk hj) hlk e'
      subst this
      exact ⟨e, z, xs, by simp only [St.frz]; rw [List.getElem?_set_self hkl]⟩
    refine .lst z false xs _ c (s.φ k) (0 * z) (fun i j => (s.w.cell? ⟨s.φ k, 0 * z + i * z + j, none⟩).getD Go.undef) (by omega) (by simp) (fun _ => ⟨rfl, hP⟩) g6 (fun i x j d hx hd => ?_) (fun i x j d hx hd => ?_)
    · obtain ⟨_, _, h3⟩ := blk_buf hg hk hx
      obtain ⟨u, hu, _⟩ := h3 j d hd
      show s.w.cell? _ = _
      rw [Nat.zero_mul, Nat.zero_add, hu]; rfl
    · obtain ⟨_, _, h3⟩ := blk_buf hg hk hx
      obtain ⟨u, hu, hr⟩ := h3 j d hd
      rw [Nat.zero_mul, Nat.zero_add, hu]
      exact hr.step hst
theorem frz_rep {s : St} (hg : Good s) {k e z : Nat} {xs : List V} {fz : Bool} (hk : s.H[k]? = some (.buf e z xs fz)) {x y : V} {u : Value} (h : Rel s x u) (ho : y = x ∨ (x = .buf k 0 xs.length xs.length ∧ y = .lst z false xs)) : Rel (s.frz k (.buf e z xs true)) y u := by
  obtain ⟨_, h2, h3⟩ := frz_ok hg hk
  rcases ho with rfl | ⟨rfl, rfl⟩
  · exact h.step h2
  · exact h3 u h
/-- The buffer k becomes a list in the slots sl and in the cells sc of block k0. -/
theorem W_frz (k : Nat) (sl : List Nat) {c : Code} {Q : Exit → List V → List B → Prop} {fr : List V} {H : List B} {e z : Nat} {xs : List V} {fz : Bool} (hk : H[k]? = some (.buf e z xs fz))
    (ho : RepF (.buf k 0 xs.length xs.length) (.lst z false xs) fr (repAt (.lst z false xs) sl 0 fr)) (h : W P c Q (repAt (.lst z false xs) sl 0 fr) (H.set k (.buf e z xs true))) : W P c Q fr H := by
  intro s a hA hg hf hd
  obtain ⟨rfl, hZ⟩ := hA
  obtain ⟨p1, p2, _⟩ := frz_ok hg hk
  have hl := ho.len
  have := h (s.frz k (.buf e z xs true)) a ⟨rfl, hZ.step p2⟩ p1 ⟨by rw [hf.len, hl], fun i v u hv hu => by
    have hx : fr[i]? = some (fr[i]'(by have := getElem?_lt hv; omega)) := List.getElem?_eq_getElem _
    exact frz_rep hg hk (hf.rel i _ u hx hu) (ho.at_ i _ v hx hv)⟩ hd
  exact wp_mono this fun _ _ _ hl => leaves_trans p2 hl
theorem W_frzC (k : Nat) (sl : List Nat) (k0 : Nat) (sc : List Nat) {c : Code} {Q : Exit → List V → List B → Prop} {fr : List V} {H : List B} {e z : Nat} {xs cs : List V} {fz : Bool} (hk : H[k]? = some (.buf e z xs fz)) (hk0 : H[k0]? = some (.cells cs))
    (ho : RepF (.buf k 0 xs.length xs.length) (.lst z false xs) fr (repAt (.lst z false xs) sl 0 fr)) (hc : RepF (.buf k 0 xs.length xs.length) (.lst z false xs) cs (repAt (.lst z false xs) sc 0 cs))
    (h : W P c Q (repAt (.lst z false xs) sl 0 fr) ((H.set k (.buf e z xs true)).set k0 (.cells (repAt (.lst z false xs) sc 0 cs)))) : W P c Q fr H := by
  intro s a hA hg hf hd
  obtain ⟨rfl, hZ⟩ := hA
  obtain ⟨p1, p2, _⟩ := frz_ok hg hk
  have hl := ho.len
  have hlc := hc.len
  have hne : k0 ≠ k := fun h => by subst h; rw [hk] at hk0; cases hk0
  generalize hs1 : s.frz k (.buf e z xs true) = s1 at p1 p2
  have hk1 : s1.H[k0]? = some (.cells cs) := by rw [← hs1]; simp only [St.frz]; rw [List.getElem?_set_ne (Ne.symm hne)]; exact hk0
  have hr1 : ∀ x y u, Rel s x u → (y = x ∨ (x = .buf k 0 xs.length xs.length ∧ y = .lst z false xs)) → Rel s1 y u := fun x y u h1 h2 => by subst hs1; exact frz_rep hg hk h1 h2
  have hw1 : s1.w = s.w := by rw [← hs1]; rfl
  have hst := setB_step (w := s1.w) (bl' := .cells (repAt (.lst z false xs) sc 0 cs)) p1 hk1 (lvC hk1) trivial rfl rfl rfl (Nat.le_refl _) (fun _ _ _ => rfl)
  have hgd : Good (s1.setB s1.w k0 (.cells (repAt (.lst z false xs) sc 0 cs))) := by
    refine setB_good p1 hk1 (lvC hk1) trivial rfl rfl rfl (Nat.le_refl _) (fun _ _ _ => rfl) (fun hst => ?_)
    obtain ⟨h1, vs, t, h2, h3, h4⟩ := hg.blk k0 _ hk0
    have hφ : s1.φ k0 = s.φ k0 := by rw [← hs1]; rfl
    refine ⟨fun d hd => ?_, vs, t, by show s1.w.heap[s1.φ k0]? = _; rw [hw1, hφ]; exact h2, by omega, fun i d u hd hu => ?_⟩
    · obtain ⟨i, hi⟩ := List.mem_iff_getElem?.1 hd
      have hx : cs[i]? = some (cs[i]'(by have := getElem?_lt hi; omega)) := List.getElem?_eq_getElem _
      rcases hc.at_ i _ d hx hi with h9 | ⟨_, h9⟩
      · rw [h9]; exact h1 _ (List.getElem_mem _)
      · rw [h9]; rfl
    · have hx : cs[i]? = some (cs[i]'(by have := getElem?_lt hd; omega)) := List.getElem?_eq_getElem _
      exact (hr1 _ d u (h4 i _ u hx hu) (hc.at_ i _ d hx hd)).step hst
  have hH : (s1.setB s1.w k0 (.cells (repAt (.lst z false xs) sc 0 cs))).H = (s.H.set k (.buf e z xs true)).set k0 (.cells (repAt (.lst z false xs) sc 0 cs)) := by
    rw [← hs1]; rfl
  have := h (s1.setB s1.w k0 (.cells (repAt (.lst z false xs) sc 0 cs))) a ⟨hH, (hZ.step p2).step hst⟩ hgd ⟨by rw [hf.len, hl], fun i v u hv hu => by
    have hx : fr[i]? = some (fr[i]'(by have := getElem?_lt hv; omega)) := List.getElem?_eq_getElem _
    exact (hr1 _ v u (hf.rel i _ u hx hu) (ho.at_ i _ v hx hv)).step hst⟩ hd
  have e1 : (s1.setB s1.w k0 (.cells (repAt (.lst z false xs) sc 0 cs))).w = s.w := hw1
  rw [e1] at this
  exact wp_mono this fun _ _ _ hl => leaves_trans (p2.trans hst) hl
/-- A call to which a buffer is handed over: nobody writes it again. -/
theorem callF {f : FuncId} {args args' : List V} {H : List B} {v : V} (k : Nat) {e z : Nat} {xs : List V} {fz : Bool} (hk : H[k]? = some (.buf e z xs fz)) (h : ConP P f args' fun r => r = v) (hr : RepF (.buf k 0 xs.length xs.length) (.lst z false xs) args args') (hp : ∀ a ∈ args', Pure a) :
    WCall P (.fn f []) args H fun r H' => r = v ∧ H' = H.set k (.buf e z xs true) := by
  simp only [WCall, List.append_nil]
  have h1 := conH_of_conP (H := H.set k (.buf e z xs true)) h (rfl : args'.length = args'.length) (fun i a a' ha ha' => by rw [ha] at ha'; cases ha'; exact .pure a (hp a (List.mem_of_getElem? ha))) (.inl hp)
  refine ⟨h1.1, fun s vals hA hg hsz hrel => ?_⟩
  obtain ⟨rfl, hZ⟩ := hA
  obtain ⟨p1, p2, _⟩ := frz_ok hg hk
  have hl := hr.len
  refine (h1.2 (s.frz k (.buf e z xs true)) vals ⟨rfl, hZ.step p2⟩ p1 (by omega) (fun i b u hb hu => ?_)).mono fun e' w' ⟨u, s', r, a1, a2, a3, a4, a5, a6, a7, a8⟩ => ⟨u, s', r, a1, a2, a3, p2.trans a4, a5, a8, a6⟩
  have hx : args[i]? = some (args[i]'(by have := getElem?_lt hb; omega)) := List.getElem?_eq_getElem _
  exact frz_rep hg hk (hrel i _ u hx hu) (hr.at_ i _ b hx hb)
end
attribute [simp] RepF repAt
end Go.AM
