import Derived.Test.YtfaleabndlcanaaGreatDoorAMh
/- Frz: a buffer that nobody writes from here on, as a list. -/
namespace Go.AM
open Go

/-- The second has q for some p. -/
def RepF (p q : V) : List V → List V → Prop
  | [], [] => True
  | x :: xs, y :: ys => (y = x ∨ (x = p ∧ y = q)) ∧ RepF p q xs ys
  | _, _ => False
theorem RepF.len {p q : V} : ∀ {xs ys : List V}, RepF p q xs ys → xs.length = ys.length
  | [], [], _ => rfl
  | [], _ :: _, h => h.elim
  | _ :: _, [], h => h.elim
  | _ :: _, _ :: _, h => by simp [h.2.len]
theorem RepF.at_ {p q : V} : ∀ {xs ys : List V}, RepF p q xs ys → ∀ (i : Nat) x y, xs[i]? = some x → ys[i]? = some y → y = x ∨ (x = p ∧ y = q)
  | [], _, _, i, x, y, h, _ => by simp at h
  | _ :: _, [], h, _, _, _, _, _ => h.elim
  | a :: xs, b :: ys, h, 0, x, y, h1, h2 => by simp at h1 h2; subst h1; subst h2; exact h.1
  | a :: xs, b :: ys, h, i + 1, x, y, h1, h2 => h.2.at_ i x y (by simpa using h1) (by simpa using h2)
def repAt (q : V) (sl : List Nat) : Nat → List V → List V
  | _, [] => []
  | i, v :: r => (if sl.contains i then q else v) :: repAt q sl (i + 1) r

section
variable {P : Program} {T : Ty}
def St.frz (s : St) (k : Nat) (bl : B) : St := { s with H := s.H.set k bl }
theorem frz_lv {s : St} {k e z : Nat} {xs : List V} {fz : Bool} (hk : s.H[k]? = some (.buf e z xs fz)) {i : Nat} (h : Lv (s.frz k (.buf e z xs true)) i) : Lv s i := by
  have hil : i < s.H.length := by have := h.1; simpa [St.frz] using this
  refine ⟨hil, fun e' z' xs' fz' hb => ?_⟩
  by_cases hik : i = k
  · subst hik
    exact h.2 e z xs true (by simp only [St.frz]; rw [List.getElem?_set_self hil])
  · exact h.2 e' z' xs' fz' (by simp only [St.frz]; rw [List.getElem?_set_ne (Ne.symm hik)]; exact hb)
theorem frz_ok {s : St} (hg : Good s) {k e z : Nat} {xs : List V} {fz : Bool} (hk : s.H[k]? = some (.buf e z xs fz)) :
    Good (s.frz k (.buf e z xs true)) ∧ Step s (s.frz k (.buf e z xs true)) ∧ ∀ u, Rel s (.buf k 0 xs.length xs.length) u → Rel (s.frz k (.buf e z xs true)) (.lst z false xs) u := by
  have hkl := getElem?_lt hk
  have hst : Step s (s.frz k (.buf e z xs true)) := ⟨rfl, rfl, rfl, rfl, Nat.le_refl _, fun _ _ _ => rfl, by simp [St.frz], fun i h1 h2 => absurd h1 (by have := h2.1; simp [St.frz] at this; omega), fun i bl hi => by
    by_cases hik : i = k
    · subst hik
      rw [hk] at hi
      cases hi
      exact ⟨xs, true, by simp [St.frz, hkl], Nat.le_refl _, fun _ => ⟨rfl, rfl⟩, fun _ => ⟨rfl, rfl, fun _ => rfl⟩, .inl rfl, .inl⟩
    · have hk' : (s.frz k (.buf e z xs true)).H[i]? = some bl := by simp only [St.frz]; rw [List.getElem?_set_ne (Ne.symm hik)]; exact hi
      cases bl with
      | cells cs => exact ⟨rfl, cs, hk'⟩
      | map kk es => exact ⟨rfl, es, hk'⟩
      | buf e z xs fz => exact ⟨xs, fz, hk', Nat.le_refl _, fun _ => ⟨rfl, rfl⟩, fun hf => ⟨hf, rfl, fun _ => rfl⟩, .inl rfl, .inl⟩⟩
  have hgd : Good (s.frz k (.buf e z xs true)) := by
    refine ⟨hg.fl, fun i hi => hg.lt i (frz_lv hk hi), fun i j hi hj => hg.inj i j (frz_lv hk hi) (frz_lv hk hj), fun i bl hi => ?_⟩
    by_cases hik : i = k
    · subst hik
      simp only [St.frz] at hi
      rw [List.getElem?_set_self hkl] at hi
      cases hi
      obtain ⟨vs, g2, g3, g4, g5, g6, g7⟩ := hg.blk i _ hk
      exact ⟨vs, g2, g3, g4, g5, g6, fun a x j c u h1 h2 h3 => (g7 a x j c u h1 h2 h3).step hst⟩
    · have hi' : s.H[i]? = some bl := by simp only [St.frz] at hi; rwa [List.getElem?_set_ne (Ne.symm hik)] at hi
      exact (hg.blk i bl hi').step hst hi' rfl rfl (fun _ => rfl)
  refine ⟨hgd, hst, fun u h => ?_⟩
  cases h with
  | buf _ _ _ _ e2 z2 xs2 fz2 A l c hk2 ht hh =>
    rw [hk] at hk2
    cases hk2
    obtain ⟨hA, rfl, hcap, _⟩ := hh rfl
    obtain ⟨vs, g2, g3, g4, g5, g6, g7⟩ := hg.blk k _ hk
    by_cases hl0 : xs.length = 0
    · have hx : xs = [] := List.eq_nil_of_length_eq_zero hl0
      subst hx
      exact rel_empty z false A c (fun h => by cases h)
    have hκ : s.κ k ≠ 0 := by omega
    have hA := hA hκ
    subst hA
    have hlk := lvB hk hκ
    have hP : (s.frz k (.buf e z xs true)).Prot (s.φ k) := by
      refine ⟨(hg.lt k hlk).1, (hg.lt k hlk).2, fun j hj e' => ?_⟩
      have := hg.inj j k (frz_lv hk hj) hlk e'
      subst this
      exact ⟨e, z, xs, by simp only [St.frz]; rw [List.getElem?_set_self hkl]⟩
    refine .lst z false xs _ c (s.φ k) (0 * z) (fun i j => (s.w.cell? ⟨s.φ k, 0 * z + i * z + j, none⟩).getD Go.undef) (by omega) (by simp) (fun _ => ⟨rfl, hP⟩) g6 (fun i x j d hx hd => ?_) (fun i x j d hx hd => ?_)
    · obtain ⟨_, _, h3⟩ := blk_buf hg hk hx
      obtain ⟨u, hu, _⟩ := h3 j d hd
      show s.w.cell? _ = _
      rw [Nat.zero_mul, Nat.zero_add, hu]; rfl
    · obtain ⟨_, _, h3⟩ := blk_buf hg hk hx
      obtain ⟨u, hu, hr⟩ := h3 j d hd
      rw [Nat.zero_mul, Nat.zero_add, hu]
      exact hr.step hst
theorem frz_rep {s : St} (hg : Good s) {k e z : Nat} {xs : List V} {fz : Bool} (hk : s.H[k]? = some (.buf e z xs fz)) {x y : V} {u : Value} (h : Rel s x u) (ho : y = x ∨ (x = .buf k 0 xs.length xs.length ∧ y = .lst z false xs)) : Rel (s.frz k (.buf e z xs true)) y u := by
  obtain ⟨_, h2, h3⟩ := frz_ok hg hk
  rcases ho with rfl | ⟨rfl, rfl⟩
  · exact h.step h2
  · exact h3 u h
/-- The buffer k becomes a list in the slots sl and in the cells sc of block k0. -/
theorem W_frz (k : Nat) (sl : List Nat) {c : Code} {Q : Exit → List V → List B → Prop} {fr : List V} {H : List B} {e z : Nat} {xs : List V} {fz : Bool} (hk : H[k]? = some (.buf e z xs fz))
    (ho : RepF (.buf k 0 xs.length xs.length) (.lst z false xs) fr (repAt (.lst z false xs) sl 0 fr)) (h : W P c Q (repAt (.lst z false xs) sl 0 fr) (H.set k (.buf e z xs true))) : W P c Q fr H := by
  intro s a hA hg hf hd
  obtain ⟨rfl, hZ⟩ := hA
  obtain ⟨p1, p2, _⟩ := frz_ok hg hk
  have hl := ho.len
  have := h (s.frz k (.buf e z xs true)) a ⟨rfl, hZ.step p2⟩ p1 ⟨by rw [hf.len, hl], fun i v u hv hu => by
    have hx : fr[i]? = some (fr[i]'(by have := getElem?_lt hv; omega)) := List.getElem?_eq_getElem _
    exact frz_rep hg hk (hf.rel i _ u hx hu) (ho.at_ i _ v hx hv)⟩ hd
  exact wp_mono this fun _ _ _ hl => leaves_trans p2 hl
theorem W_frzC (k : Nat) (sl : List Nat) (k0 : Nat) (sc : List Nat) {c : Code} {Q : Exit → List V → List B → Prop} {fr : List V} {H : List B} {e z : Nat} {xs cs : List V} {fz : Bool} (hk : H[k]? = some (.buf e z xs fz)) (hk0 : H[k0]? = some (.cells cs))
    (ho : RepF (.buf k 0 xs.length xs.length) (.lst z false xs) fr (repAt (.lst z false xs) sl 0 fr)) (hc : RepF (.buf k 0 xs.length xs.length) (.lst z false xs) cs (repAt (.lst z false xs) sc 0 cs))
    (h : W P c Q (repAt (.lst z false xs) sl 0 fr) ((H.set k (.buf e z xs true)).set k0 (.cells (repAt (.lst z false xs) sc 0 cs)))) : W P c Q fr H := by
  intro s a hA hg hf hd
  obtain ⟨rfl, hZ⟩ := hA
  obtain ⟨p1, p2, _⟩ := frz_ok hg hk
  have hl := ho.len
  have hlc := hc.len
  have hne : k0 ≠ k := fun h => by subst h; rw [hk] at hk0; cases hk0
  generalize hs1 : s.frz k (.buf e z xs true) = s1 at p1 p2
  have hk1 : s1.H[k0]? = some (.cells cs) := by rw [← hs1]; simp only [St.frz]; rw [List.getElem?_set_ne (Ne.symm hne)]; exact hk0
  have hr1 : ∀ x y u, Rel s x u → (y = x ∨ (x = .buf k 0 xs.length xs.length ∧ y = .lst z false xs)) → Rel s1 y u := fun x y u h1 h2 => by subst hs1; exact frz_rep hg hk h1 h2
  have hw1 : s1.w = s.w := by rw [← hs1]; rfl
  have hst := setB_step (w := s1.w) (bl' := .cells (repAt (.lst z false xs) sc 0 cs)) p1 hk1 (lvC hk1) trivial rfl rfl rfl (Nat.le_refl _) (fun _ _ _ => rfl)
  have hgd : Good (s1.setB s1.w k0 (.cells (repAt (.lst z false xs) sc 0 cs))) := by
    refine setB_good p1 hk1 (lvC hk1) trivial rfl rfl rfl (Nat.le_refl _) (fun _ _ _ => rfl) (fun hst => ?_)
    obtain ⟨h1, vs, t, h2, h3, h4⟩ := hg.blk k0 _ hk0
    have hφ : s1.φ k0 = s.φ k0 := by rw [← hs1]; rfl
    refine ⟨fun d hd => ?_, vs, t, by show s1.w.heap[s1.φ k0]? = _; rw [hw1, hφ]; exact h2, by omega, fun i d u hd hu => ?_⟩
    · obtain ⟨i, hi⟩ := List.mem_iff_getElem?.1 hd
      have hx : cs[i]? = some (cs[i]'(by have := getElem?_lt hi; omega)) := List.getElem?_eq_getElem _
      rcases hc.at_ i _ d hx hi with h9 | ⟨_, h9⟩
      · rw [h9]; exact h1 _ (List.getElem_mem _)
      · rw [h9]; rfl
    · have hx : cs[i]? = some (cs[i]'(by have := getElem?_lt hd; omega)) := List.getElem?_eq_getElem _
      exact (hr1 _ d u (h4 i _ u hx hu) (hc.at_ i _ d hx hd)).step hst
  have hH : (s1.setB s1.w k0 (.cells (repAt (.lst z false xs) sc 0 cs))).H = (s.H.set k (.buf e z xs true)).set k0 (.cells (repAt (.lst z false xs) sc 0 cs)) := by
    rw [← hs1]; rfl
  have := h (s1.setB s1.w k0 (.cells (repAt (.lst z false xs) sc 0 cs))) a ⟨hH, (hZ.step p2).step hst⟩ hgd ⟨by rw [hf.len, hl], fun i v u hv hu => by
    have hx : fr[i]? = some (fr[i]'(by have := getElem?_lt hv; omega)) := List.getElem?_eq_getElem _
    exact (hr1 _ v u (hf.rel i _ u hx hu) (ho.at_ i _ v hx hv)).step hst⟩ hd
  have e1 : (s1.setB s1.w k0 (.cells (repAt (.lst z false xs) sc 0 cs))).w = s.w := hw1
  rw [e1] at this
  exact wp_mono this fun _ _ _ hl => leaves_trans (p2.trans hst) hl
/-- A call to which a buffer is handed over: nobody writes it again. -/
theorem callF {f : FuncId} {args args' : List V} {H : List B} {v : V} (k : Nat) {e z : Nat} {xs : List V} {fz : Bool} (hk : H[k]? = some (.buf e z xs fz)) (h : ConP P f args' fun r => r = v) (hr : RepF (.buf k 0 xs.length xs.length) (.lst z false xs) args args') (hp : ∀ a ∈ args', Pure a) :
    WCall P (.fn f []) args H fun r H' => r = v ∧ H' = H.set k (.buf e z xs true) := by
  simp only [WCall, List.append_nil]
  have h1 := conH_of_conP (H := H.set k (.buf e z xs true)) h (rfl : args'.length = args'.length) (fun i a a' ha ha' => by rw [ha] at ha'; cases ha'; exact .pure a (hp a (List.mem_of_getElem? ha))) (.inl hp)
  refine ⟨h1.1, fun s vals hA hg hsz hrel => ?_⟩
  obtain ⟨rfl, hZ⟩ := hA
  obtain ⟨p1, p2, _⟩ := frz_ok hg hk
  have hl := hr.len
  refine (h1.2 (s.frz k (.buf e z xs true)) vals ⟨rfl, hZ.step p2⟩ p1 (by omega) (fun i b u hb hu => ?_)).mono fun e' w' ⟨u, s', r, a1, a2, a3, a4, a5, a6, a7, a8⟩ => ⟨u, s', r, a1, a2, a3, p2.trans a4, a5, a8, a6⟩
  have hx : args[i]? = some (args[i]'(by have := getElem?_lt hb; omega)) := List.getElem?_eq_getElem _
  exact frz_rep hg hk (hrel i _ u hx hu) (hr.at_ i _ b hx hb)
end
attribute [simp] RepF repAt
end Go.AM

/- Eff2: drawn regions with effects, some of which are skipped. -/
namespace Go.AM
open Go

def statS (ops : Array Oper) (E S : List Nat) (tab : List (Nat × List Nat)) : Bool :=
  stat1 ops && stat2 ops E && (List.range ops.size).all fun i => E.contains i || S.contains i || (match ops[i]? with
    | some o => stillOp o.op && (scalOp o.op || (List.range (E.length + 1)).all fun c => !posB (masksFrom [] ops.toList) E i c || c == cntE E i || (tabAt tab i).contains c)
    | none => true)
def oblS (T : Ty) (ops : Array Oper) (C : V → List V → List B → (V → List B → Prop) → Prop) (E S : List Nat) (tab : List (Nat × List Nat)) (Hs : Nat → List B) : List Oper → Nat → Nat → List V → List V → Prop
  | [], _, _, _, _ => True
  | _ :: _, _, _, _, [] => False
  | o :: rest, i, c, fr, v :: vs =>
    (S.contains i = true → wantA ops fr o = some false) ∧ (match wantA ops fr o with
      | some true => match callOf o.op with
        | some (f, args) => if E.contains i then C (evalA fr f) (args.map (evalA fr)) (Hs c) (fun r H' => r = v ∧ H' = Hs (c + 1))
          else allC (fun c' => C (evalA fr f) (args.map (evalA fr)) (Hs c') (fun r H' => r = v ∧ H' = Hs c')) (c :: tabAt tab i)
        | none => if E.contains i || scalOp o.op then True else allC (fun c' => aop T o.op (evalA fr) (Hs c') = some (v, Hs c')) (tabAt tab i)
      | _ => True) ∧ oblS T ops C E S tab Hs rest (i + 1) (if E.contains i then c + 1 else c) (putF fr o.dst v) vs
def DrawS (T : Ty) (ops : Array Oper) (E S : List Nat) (tab : List (Nat × List Nat)) (cv : List (V × List B)) (C : V → List V → List B → (V → List B → Prop) → Prop) (K : List V → List B → Prop) (fr : List V) (H : List B) : Prop :=
  match runT T ops E ops.toList 0 fr H cv with
  | none => False
  | some (vs, hs, f) => hs.length = E.length ∧ oblS T ops C E S tab (fun c => (H :: hs)[c]?.getD []) ops.toList 0 0 fr vs ∧ K f ((H :: hs)[E.length]?.getD [])

section
variable {P : Program} {T : Ty}
theorem oblS_ok {ops : Array Oper} {C : V → List V → List B → (V → List B → Prop) → Prop} {E S : List Nat} {tab : List (Nat × List Nat)} {Hs : Nat → List B} (hasc : ascB E = true)
    (hst : ∀ i o, ops[i]? = some o → E.contains i = false → S.contains i = false → stillOp o.op = true ∧ (scalOp o.op = true ∨ ∀ c, c < E.length + 1 → posB (masksFrom [] ops.toList) E i c = true → c = cntE E i ∨ c ∈ tabAt tab i)) :
    ∀ (l : List Oper) (i : Nat) (fr : List V) (H : List B) (cv : List (V × List B)) (vs : List V) (hs : List (List B)) (f : List V), l = ops.toList.drop i → runT T ops E l i fr H cv = some (vs, hs, f) → (∀ k, k ≤ hs.length → Hs (cntE E i + k) = ((H :: hs)[k]?).getD []) →
      oblS T ops C E S tab Hs l i (cntE E i) fr vs → oblOps T ops C (masksFrom [] ops.toList) E Hs l i fr vs
  | [], i, fr, H, cv, vs, hs, f, hl, hr, hH, h => trivial
  | o :: rest, i, fr, H, cv, vs, hs, f, hl, hr, hH, h => by
    have ho : ops[i]? = some o := by
      have := congrArg (fun l => l[0]?) hl
      simp at this
      exact this.symm
    have hrest : rest = ops.toList.drop (i + 1) := by
      have := congrArg List.tail hl
      simpa using this
    have hHi : Hs (cntE E i) = H := by have := hH 0 (Nat.zero_le _); simpa using this
    simp only [runT] at hr
    cases hw : wantA ops fr o with
    | none => rw [hw] at hr; cases hr
    | some b =>
    rw [hw] at hr
    cases b with
    | false =>
      simp only at hr
      split at hr
      · cases hr
      rename_i hE
      have hE : E.contains i = false := by simpa using hE
      split at hr
      · rename_i vs' hs' f' hr'
        cases hr
        simp only [oblS, hw, hE, Bool.false_eq_true, if_false] at h
        obtain ⟨_, h⟩ := h
        simp only [oblOps, hw]
        refine ⟨⟨by first | trivial | rfl, hE⟩, oblS_ok hasc hst rest (i + 1) _ H cv vs' _ _ hrest hr' (fun k hk => ?_) ?_⟩
        · rw [cnt_succ hasc, hE]; simpa using hH k hk
        · rw [cnt_succ hasc, hE]; simpa using h.2
      · cases hr
    | true =>
      simp only at hr
      -- the value and the heap behind it
      have fin : ∀ (v : V) (H' : List B) (cv' : List (V × List B)), (if E.contains i then (match runT T ops E rest (i + 1) (putF fr o.dst v) H' cv' with
            | some (vs, hs, f) => some (v :: vs, H' :: hs, f)
            | none => none)
          else (match runT T ops E rest (i + 1) (putF fr o.dst v) H cv' with
            | some (vs, hs, f) => some (v :: vs, hs, f)
            | none => none)) = some (vs, hs, f) →
          ∃ vs', vs = v :: vs' ∧ (E.contains i = true → Hs (cntE E i + 1) = H') ∧ (oblS T ops C E S tab Hs rest (i + 1) (if E.contains i then cntE E i + 1 else cntE E i) (putF fr o.dst v) vs' → oblOps T ops C (masksFrom [] ops.toList) E Hs rest (i + 1) (putF fr o.dst v) vs') := fun v H' cv' hq => by
        cases hE : E.contains i with
        | true =>
          rw [hE] at hq
          simp only [if_true] at hq
          split at hq
          · rename_i vs' hs' f' hr'
            cases hq
            refine ⟨vs', rfl, fun _ => ?_, fun hh => ?_⟩
            · have := hH 1 (by simp); simpa using this
            · refine oblS_ok hasc hst rest (i + 1) _ H' cv' vs' hs' _ hrest hr' (fun k hk => ?_) ?_
              · rw [cnt_succ hasc, hE]
                have := hH (k + 1) (by simp; omega)
                simp only [if_true, List.getElem?_cons_succ] at this ⊢
                rw [show cntE E i + 1 + k = cntE E i + (k + 1) by omega]; exact this
              · rw [cnt_succ hasc, hE]; simpa using hh
          · cases hq
        | false =>
          rw [hE] at hq
          simp only [Bool.false_eq_true, if_false] at hq
          split at hq
          · rename_i vs' hs' f' hr'
            cases hq
            refine ⟨vs', rfl, (fun h => by cases h), fun hh => ?_⟩
            refine oblS_ok hasc hst rest (i + 1) _ H cv' vs' hs _ hrest hr' (fun k hk => ?_) ?_
            · rw [cnt_succ hasc, hE]; simpa using hH k hk
            · rw [cnt_succ hasc, hE]; simpa using hh
          · cases hq
      cases hc : callOf o.op with
      | some p =>
        obtain ⟨g, args⟩ := p
        rw [hc] at hr
        simp only at hr
        split at hr
        · rename_i v H' cv'
          obtain ⟨vs', rfl, hEH, hrec⟩ := fin v H' cv' hr
          simp only [oblS, hw, hc] at h
          obtain ⟨hS, h⟩ := h
          have hS : S.contains i = false := by
            cases hs : S.contains i with
            | false => rfl
            | true => exact absurd (hS hs) (by simp)
          simp only [oblOps, hw, hc]
          refine ⟨?_, hrec h.2⟩
          cases hE : E.contains i with
          | true =>
            rw [hE] at h
            simp only [if_true] at h ⊢
            rw [cnt_idx hasc hE]
            exact h.1
          | false =>
            rw [hE] at h
            simp only [Bool.false_eq_true, if_false] at h ⊢
            obtain ⟨s1, s2⟩ := hst i o ho hE hS
            have hns : scalOp o.op = false := by
              cases hop : o.op <;> rw [hop] at hc <;> simp only [callOf] at hc <;> first | (cases hc; done) | rfl
            rw [hns] at s2
            have s2 := s2.resolve_left (by simp)
            refine allC_of (fun c hcm => ?_)
            split
            · rename_i hp
              rcases s2 c (by simpa using hcm) hp with rfl | hm
              · exact allC_at h.1 _ (by simp)
              · exact allC_at h.1 _ (by simp [hm])
            · trivial
        · cases hr
      | none =>
        rw [hc] at hr
        simp only at hr
        cases hop : aop T o.op (evalA fr) H with
        | none => rw [hop] at hr; cases hr
        | some q =>
          obtain ⟨v, H'⟩ := q
          rw [hop] at hr
          simp only at hr
          obtain ⟨vs', rfl, hEH, hrec⟩ := fin v H' cv hr
          simp only [oblS, hw, hc] at h
          obtain ⟨hS, h⟩ := h
          have hS : S.contains i = false := by
            cases hs : S.contains i with
            | false => rfl
            | true => exact absurd (hS hs) (by simp)
          simp only [oblOps, hw, hc]
          refine ⟨?_, hrec h.2⟩
          cases hE : E.contains i with
          | true =>
            simp only [if_true]
            rw [cnt_idx hasc hE, hHi, hEH hE]
            exact hop
          | false =>
            rw [hE] at h
            simp only [Bool.false_eq_true, if_false, Bool.false_or] at h ⊢
            obtain ⟨s1, s2⟩ := hst i o ho hE hS
            have hHH := stillOp_ok s1 hop
            subst hHH
            refine allC_of (fun c hcm => ?_)
            split
            · rename_i hp
              cases hsc : scalOp o.op with
              | true => exact scalOp_ok hsc hop _
              | false =>
                rw [hsc] at h s2
                simp only [Bool.false_eq_true, if_false] at h
                rcases (s2.resolve_left (by simp)) c (by simpa using hcm) hp with rfl | hm
                · rw [hHi]; exact hop
                · exact allC_at h.1 _ hm
            · trivial
where
  allC_of {p : Nat → Prop} : ∀ {l : List Nat}, (∀ c ∈ l, p c) → allC p l
    | [], _ => trivial
    | c :: l, h => ⟨h c (by simp), allC_of (fun d hd => h d (by simp [hd]))⟩
theorem W_drawS (hT : TOk P T) (hm : P.follows .mixedOrders = true) {id : Nat} {ops : Array Oper} {Q : Exit → List V → List B → Prop} {fr : List V} {H : List B} (E S : List Nat) (tab : List (Nat × List Nat)) (cv : List (V × List B)) (hst : statS ops E S tab = true)
    (h : ∀ (C : V → List V → List B → (V → List B → Prop) → Prop) (K : List V → List B → Prop), (∀ fv args H K', WCall P fv args H K' → C fv args H K') → (∀ fr H, Q .normal fr H → K fr H) → DrawS T ops E S tab cv C K fr H) : W P (.region id ops true) Q fr H := by
  refine W_draw hT hm E cv fun C K hC hK => ?_
  have h1 := h C K hC hK
  unfold DrawS at h1
  unfold DrawOb
  simp only [statS, Bool.and_eq_true] at hst
  obtain ⟨⟨st1, st2⟩, st3⟩ := hst
  split at h1
  · exact h1.elim
  · rename_i vs hs f hr
    rw [hr]
    obtain ⟨a1, a2, a3⟩ := h1
    have hasc : ascB E = true := by
      unfold stat2 at st2
      simp only [Bool.and_eq_true] at st2
      exact st2.1.1
    have h00 : cntE E 0 = 0 := by cases E <;> simp [cntE]
    refine ⟨⟨stat_ok st1 st2, a1⟩, ?_, a3⟩
    refine oblS_ok hasc (fun i o ho hE hS => ?_) ops.toList 0 fr H cv vs hs f (by simp) hr (fun k hk => by rw [h00, Nat.zero_add]) (by rw [h00]; exact a2)
    have hil : i < ops.size := (Array.getElem?_eq_some_iff.1 ho).1
    have := List.all_eq_true.1 st3 i (by simpa using hil)
    rw [hE, hS, ho, Bool.false_or, Bool.false_or] at this
    simp only [Bool.and_eq_true, Bool.or_eq_true] at this
    refine ⟨this.1, this.2.imp (fun h => h) (fun hall c hc hp => ?_)⟩
    have h3 := List.all_eq_true.1 hall c (by simpa using hc)
    simp only [Bool.or_eq_true, Bool.not_eq_true', beq_iff_eq] at h3
    rcases h3 with (h3 | h3) | h3
    · rw [hp] at h3; cases h3
    · exact .inl h3
    · exact .inr (List.contains_iff_mem.1 h3)
end
attribute [simp] DrawS oblS
end Go.AM
