/- Wd: a drawn region in which an append that is pure needs no order. -/
import Derived.Test.YteijbpppalhihaaGreatK0
set_option linter.unusedVariables false
set_option linter.unusedSimpArgs false
namespace Go.Proofs.YteijbpppalhihaaGreat
open Go Go.AM
def isApp : Go.Op → Bool
  | .call c => match c.callee with
    | .builtin .append => true
    | _ => false
  | _ => false
def statP (ops : Array Oper) (E : List Nat) (tab : List (Nat × List Nat)) : Bool :=
  stat1 ops && stat2 ops E && (List.range ops.size).all fun i => E.contains i || (match ops[i]? with
    | some o => (stillOp o.op || isApp o.op) && (scalOp o.op || (List.range (E.length + 1)).all fun c => !posB (masksFrom [] ops.toList) E i c || c == cntE E i || (tabAt tab i).contains c)
    | none => true)
def oblP (T : AM.Ty) (ops : Array Oper) (C : V → List V → List B → (V → List B → Prop) → Prop) (E : List Nat) (tab : List (Nat × List Nat)) (Hs : Nat → List B) : List Oper → Nat → Nat → List V → List V → Prop
  | [], _, _, _, _ => True
  | _ :: _, _, _, _, [] => False
  | o :: rest, i, c, fr, v :: vs =>
    (match wantA ops fr o with
      | some true => match callOf o.op with
        | some (f, args) => if E.contains i then C (evalA fr f) (args.map (evalA fr)) (Hs c) (fun r H' => r = v ∧ H' = Hs (c + 1))
          else allC (fun c' => C (evalA fr f) (args.map (evalA fr)) (Hs c') (fun r H' => r = v ∧ H' = Hs c')) (c :: tabAt tab i)
        | none => if E.contains i || scalOp o.op then True else allC (fun c' => aop T o.op (evalA fr) (Hs c') = some (v, Hs c')) (if stillOp o.op then tabAt tab i else c :: tabAt tab i)
      | _ => True) ∧ oblP T ops C E tab Hs rest (i + 1) (if E.contains i then c + 1 else c) (putF fr o.dst v) vs
def DrawP (T : AM.Ty) (ops : Array Oper) (E : List Nat) (tab : List (Nat × List Nat)) (cv : List (V × List B)) (C : V → List V → List B → (V → List B → Prop) → Prop) (K : List V → List B → Prop) (fr : List V) (H : List B) : Prop :=
  match AM.runT T ops E ops.toList 0 fr H cv with
  | none => False
  | some (vs, hs, f) => hs.length = E.length ∧ oblP T ops C E tab (fun c => (H :: hs)[c]?.getD []) ops.toList 0 0 fr vs ∧ K f ((H :: hs)[E.length]?.getD [])
section
variable {P : Program} {T : AM.Ty}
theorem oblP_ok {ops : Array Oper} {C : V → List V → List B → (V → List B → Prop) → Prop} {E : List Nat} {tab : List (Nat × List Nat)} {Hs : Nat → List B} (hasc : ascB E = true)
    (hst : ∀ i o, ops[i]? = some o → E.contains i = false → (stillOp o.op = true ∨ isApp o.op = true) ∧ (scalOp o.op = true ∨ ∀ c, c < E.length + 1 → posB (masksFrom [] ops.toList) E i c = true → c = cntE E i ∨ c ∈ tabAt tab i)) :
    ∀ (l : List Oper) (i : Nat) (fr : List V) (H : List B) (cv : List (V × List B)) (vs : List V) (hs : List (List B)) (f : List V), l = ops.toList.drop i → AM.runT T ops E l i fr H cv = some (vs, hs, f) → (∀ k, k ≤ hs.length → Hs (cntE E i + k) = ((H :: hs)[k]?).getD []) →
      oblP T ops C E tab Hs l i (cntE E i) fr vs → oblOps T ops C (masksFrom [] ops.toList) E Hs l i fr vs
  | [], i, fr, H, cv, vs, hs, f, hl, hr, hH, h => trivial
  | o :: rest, i, fr, H, cv, vs, hs, f, hl, hr, hH, h => by
    have ho : ops[i]? = some o := by
      have := congrArg (fun l => l[0]?) hl
      simp at this
      exact this.symm
    have hrest : rest = ops.toList.drop (i + 1) := by
      have := congrArg List.tail hl
      simpa using this
    have hHi : Hs (cntE E i) = H := by have := hH 0 (Nat.zero_le _); simpa using this
    simp only [AM.runT] at hr
    cases hw : wantA ops fr o with
    | none => rw [hw] at hr; cases hr
    | some b =>
    rw [hw] at hr
    cases b with
    | false =>
      simp only at hr
      split at hr
      · cases hr
      rename_i hE
      have hE : E.contains i = false := by simpa using hE
      split at hr
      · rename_i vs' hs' f' hr'
        cases hr
        simp only [oblP, hw, hE, Bool.false_eq_true, if_false] at h
        simp only [oblOps, hw]
        refine ⟨⟨by first | trivial | rfl, hE⟩, oblP_ok hasc hst rest (i + 1) _ H cv vs' _ _ hrest hr' (fun k hk => ?_) ?_⟩
        · rw [cnt_succ hasc, hE]; simpa using hH k hk
        · rw [cnt_succ hasc, hE]; simpa using h.2
      · cases hr
    | true =>
      simp only at hr
      -- the value and the heap behind it
      have fin : ∀ (v : V) (H' : List B) (cv' : List (V × List B)), (if E.contains i then (match AM.runT T ops E rest (i + 1) (putF fr o.dst v) H' cv' with
            | some (vs, hs, f) => some (v :: vs, H' :: hs, f)
            | none => none)
          else (match AM.runT T ops E rest (i + 1) (putF fr o.dst v) H cv' with
            | some (vs, hs, f) => some (v :: vs, hs, f)
            | none => none)) = some (vs, hs, f) →
          ∃ vs', vs = v :: vs' ∧ (E.contains i = true → Hs (cntE E i + 1) = H') ∧ (oblP T ops C E tab Hs rest (i + 1) (if E.contains i then cntE E i + 1 else cntE E i) (putF fr o.dst v) vs' → oblOps T ops C (masksFrom [] ops.toList) E Hs rest (i + 1) (putF fr o.dst v) vs') := fun v H' cv' hq => by
        cases hE : E.contains i with
        | true =>
          rw [hE] at hq
          simp only [if_true] at hq
          split at hq
          · rename_i vs' hs' f' hr'
            cases hq
            refine ⟨vs', rfl, fun _ => ?_, fun hh => ?_⟩
            · have := hH 1 (by simp); simpa using this
            · refine oblP_ok hasc hst rest (i + 1) _ H' cv' vs' hs' _ hrest hr' (fun k hk => ?_) ?_
              · rw [cnt_succ hasc, hE]
                have := hH (k + 1) (by simp; omega)
                simp only [if_true, List.getElem?_cons_succ] at this ⊢
                rw [show cntE E i + 1 + k = cntE E i + (k + 1) by omega]; exact this
              · rw [cnt_succ hasc, hE]; simpa using hh
          · cases hq
        | false =>
          rw [hE] at hq
          simp only [Bool.false_eq_true, if_false] at hq
          split at hq
          · rename_i vs' hs' f' hr'
            cases hq
            refine ⟨vs', rfl, (fun h => by cases h), fun hh => ?_⟩
            refine oblP_ok hasc hst rest (i + 1) _ H cv' vs' hs _ hrest hr' (fun k hk => ?_) ?_
            · rw [cnt_succ hasc, hE]; simpa using hH k hk
            · rw [cnt_succ hasc, hE]; simpa using hh
          · cases hq
      cases hc : callOf o.op with
      | some p =>
        obtain ⟨g, args⟩ := p
        rw [hc] at hr
        simp only at hr
        split at hr
        · rename_i v H' cv'
          obtain ⟨vs', rfl, hEH, hrec⟩ := fin v H' cv' hr
          simp only [oblP, hw, hc] at h
          simp only [oblOps, hw, hc]
          refine ⟨?_, hrec h.2⟩
          cases hE : E.contains i with
          | true =>
            rw [hE] at h
            simp only [if_true] at h ⊢
            rw [cnt_idx hasc hE]
            exact h.1
          | false =>
            rw [hE] at h
            simp only [Bool.false_eq_true, if_false] at h ⊢
            obtain ⟨_, s2⟩ := hst i o ho hE
            have hns : scalOp o.op = false := by
              cases hop : o.op <;> rw [hop] at hc <;> simp only [callOf] at hc <;> first | (cases hc; done) | rfl
            rw [hns] at s2
            have s2 := s2.resolve_left (by simp)
            refine allC_of (fun c hcm => ?_)
            split
            · rename_i hp
              rcases s2 c (by simpa using hcm) hp with rfl | hm
              · exact allC_at h.1 _ (by simp)
              · exact allC_at h.1 _ (by simp [hm])
            · trivial
        · cases hr
      | none =>
        rw [hc] at hr
        simp only at hr
        cases hop : aop T o.op (evalA fr) H with
        | none => rw [hop] at hr; cases hr
        | some q =>
          obtain ⟨v, H'⟩ := q
          rw [hop] at hr
          simp only at hr
          obtain ⟨vs', rfl, hEH, hrec⟩ := fin v H' cv hr
          simp only [oblP, hw, hc] at h
          simp only [oblOps, hw, hc]
          refine ⟨?_, hrec h.2⟩
          cases hE : E.contains i with
          | true =>
            simp only [if_true]
            rw [cnt_idx hasc hE, hHi, hEH hE]
            exact hop
          | false =>
            rw [hE] at h
            simp only [Bool.false_eq_true, if_false, Bool.false_or] at h ⊢
            obtain ⟨s1, s2⟩ := hst i o ho hE
            refine allC_of (fun c hcm => ?_)
            split
            · rename_i hp
              cases hsc : scalOp o.op with
              | true => exact scalOp_ok hsc hop _
              | false =>
                rw [hsc] at h s2
                simp only [Bool.false_eq_true, if_false] at h
                cases hso : stillOp o.op with
                | true =>
                  rw [hso, if_pos rfl] at h
                  have hHH := stillOp_ok hso hop
                  subst hHH
                  rcases (s2.resolve_left (by simp)) c (by simpa using hcm) hp with rfl | hm
                  · rw [hHi]; exact hop
                  · exact allC_at h.1 _ hm
                | false =>
                  rw [hso, if_neg (by simp)] at h
                  rcases (s2.resolve_left (by simp)) c (by simpa using hcm) hp with rfl | hm
                  · exact allC_at h.1 _ (by simp)
                  · exact allC_at h.1 _ (by simp [hm])
            · trivial
where
  allC_of {p : Nat → Prop} : ∀ {l : List Nat}, (∀ c ∈ l, p c) → allC p l
    | [], _ => trivial
    | c :: l, h => ⟨h c (by simp), allC_of (fun d hd => h d (by simp [hd]))⟩
theorem W_drawP (hT : TOk P T) (hm : P.follows .mixedOrders = true) {id : Nat} {ops : Array Oper} {Q : Exit → List V → List B → Prop} {fr : List V} {H : List B} (E : List Nat) (tab : List (Nat × List Nat)) (cv : List (V × List B)) (hst : statP ops E tab = true)
    (h : ∀ (C : V → List V → List B → (V → List B → Prop) → Prop) (K : List V → List B → Prop), (∀ fv args H K', WCall P fv args H K' → C fv args H K') → (∀ fr H, Q .normal fr H → K fr H) → DrawP T ops E tab cv C K fr H) : W P (.region id ops true) Q fr H := by
  refine W_draw hT hm E cv fun C K hC hK => ?_
  have h1 := h C K hC hK
  unfold DrawP at h1
  unfold DrawOb
  simp only [statP, Bool.and_eq_true] at hst
  obtain ⟨⟨st1, st2⟩, st3⟩ := hst
  split at h1
  · exact h1.elim
  · rename_i vs hs f hr
    rw [hr]
    obtain ⟨a1, a2, a3⟩ := h1
    have hasc : ascB E = true := by
      unfold stat2 at st2
      simp only [Bool.and_eq_true] at st2
      exact st2.1.1
    have h00 : cntE E 0 = 0 := by cases E <;> simp [cntE]
    refine ⟨⟨stat_ok st1 st2, a1⟩, ?_, a3⟩
    refine oblP_ok hasc (fun i o ho hE => ?_) ops.toList 0 fr H cv vs hs f (by simp) hr (fun k hk => by rw [h00, Nat.zero_add]) (by rw [h00]; exact a2)
    have hil : i < ops.size := (Array.getElem?_eq_some_iff.1 ho).1
    have := List.all_eq_true.1 st3 i (by simpa using hil)
    rw [hE, ho, Bool.false_or] at this
    simp only [Bool.and_eq_true, Bool.or_eq_true] at this
    refine ⟨this.1, this.2.imp (fun h => h) (fun hall c hc hp => ?_)⟩
    have h3 := List.all_eq_true.1 hall c (by simpa using hc)
    simp only [Bool.or_eq_true, Bool.not_eq_true', beq_iff_eq] at h3
    rcases h3 with (h3 | h3) | h3
    · rw [hp] at h3; cases h3
    · exact .inl h3
    · exact .inr (List.contains_iff_mem.1 h3)
end
attribute [simp] DrawP oblP
end Go.Proofs.YteijbpppalhihaaGreat
