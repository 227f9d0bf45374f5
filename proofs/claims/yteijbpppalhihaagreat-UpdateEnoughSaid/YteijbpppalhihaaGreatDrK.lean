/- DrK: regions that draw their order, in which the first two effects stand unordered: both orders are run side by side. -/
import Derived.Test.YteijbpppalhihaaGreatAMf
set_option linter.unusedVariables false
set_option linter.unusedSimpArgs false
namespace Go.AM
open Go
section
variable {P : Program} {T : Ty}
theorem slotAt_vals {ops : Array Oper} {fr : List V} {val val' : Nat → V} {D : Nat → Bool} {t : Nat} (h : ∀ k, D k = true → val k = val' k) : ∀ n, slotAt ops fr val D n t = slotAt ops fr val' D n t
  | 0 => rfl
  | n + 1 => by
    simp only [slotAt]
    rw [slotAt_vals h n]
    by_cases hD : D n = true
    · rw [h n hD]
    · rw [if_neg (fun hh => hD hh.1), if_neg (fun hh => hD hh.1)]
theorem drawJ_sound (hT : TOk P T) {ops : Array Oper} {E : Bool → List Nat} {val : Bool → Nat → V} {Hs : Bool → Nat → List B} {fr : List V} {s0 : St} {Q : Exit → Act → World → Prop} (hz0 : GOk P s0)
    (hst : statOk ops [] = true) (hE : ∀ j, ∀ e ∈ E j, e < ops.size) (hnd : ∀ j, (E j).Nodup) (hperm : ∀ j j' e, e ∈ E j' → e ∈ E j)
    (hsw : ∀ j c i, i ∈ (E j).drop c → (∀ e ∈ (E j).drop c, e ≠ i → bef (masksFrom [] ops.toList) e i = false) → ∃ j', (E j').length = (E j).length ∧ (E j').take c = (E j).take c ∧ (E j')[c]? = some i ∧ Hs j' c = Hs j c ∧ ∀ k, (∀ e ∈ (E j).drop c, k ≠ e ∧ bef (masksFrom [] ops.toList) e k = false) → val j' k = val j k)
    (hcl : ∀ j i o, ops[i]? = some o → Clause T ops (WCall P) (masksFrom [] ops.toList) (E j) (Hs j) o i (frameAt ops fr (val j) i) (val j i))
    (hQ : ∀ j s a, Good s → Step s0 s → FRel s (frameAt ops fr (val j) ops.size) a.tmps → a.defers = [] → s.H = Hs j (E j).length → Q .normal a s.w) :
    ∀ (fuel : Nat) (listed : Array Bool) (s : St) (a : Act) (j : Bool) (c : Nat), listed.size = ops.size → Closed ops (fun i => listed.getD i false) →
      ((List.range ops.size).filter fun i => !(listed.getD i false)).length ≤ fuel → c ≤ (E j).length → (∀ k e, (E j)[k]? = some e → (listed.getD e false = true ↔ k < c)) →
      Good s → Step s0 s → s.H = Hs j c → FRel s (nowF ops fr (val j) fun i => listed.getD i false) a.tmps → a.defers = [] → wpAny P .any ops Q fuel listed a s.w := by
  simp only [statOk, Bool.and_eq_true, List.all_eq_true, decide_eq_true_eq, List.mem_range] at hst
  have hops := hst.2
  have hback : ∀ (j : Nat) (o : Oper), ops[j]? = some o → ∀ e ∈ o.after.toList, Region.binds .any e = true → e.on < j := fun j o ho e he hbd => by
    have hj := (Array.getElem?_eq_some_iff.1 ho).1
    have := hops j hj
    rw [ho] at this
    simp only [Bool.and_eq_true, List.all_eq_true] at this
    have h1 := this.1.1 e he
    rw [hbd] at h1
    simpa using h1
  have htmp : ∀ (j i : Nat) (oj oi : Oper) (t : Nat), ops[j]? = some oj → ops[i]? = some oi → t ∈ namesOf ops oj → oi.dst = some t → i = j ∨ (i < j ∧ bef (masksFrom [] ops.toList) i j = true) ∨ (j < i ∧ bef (masksFrom [] ops.toList) j i = true) := fun j i oj oi t hoj hoi ht hd => by
    have hj := (Array.getElem?_eq_some_iff.1 hoj).1
    have hi := (Array.getElem?_eq_some_iff.1 hoi).1
    have := hops j hj
    rw [hoj] at this
    simp only [Bool.and_eq_true, List.all_eq_true] at this
    have h2 := this.1.2 t ht i (by simpa using hi)
    rw [hoi] at h2
    simp only [hd, Bool.or_eq_true, Bool.and_eq_true, decide_eq_true_eq, beq_iff_eq, Bool.not_eq_true', beq_eq_false_iff_ne, ne_eq, not_true_eq_false, false_or] at h2
    rcases h2 with (h | h) | h
    · exact .inl h
    · exact .inr (.inl h)
    · exact .inr (.inr h)
  have hmask : ∀ (D : Nat → Bool), Closed ops D → ∀ i j, j < ops.size → bef (masksFrom [] ops.toList) i j = true → D j = true → D i = true := fun D hD i j hj hb hDj => by
    obtain ⟨ms, h1, h2, _⟩ := masks_spec ops.toList []
    rw [List.nil_append] at h1
    have hlen : (masksFrom [] ops.toList).length = ops.size := by rw [h1, h2]; simp
    have hm : (masksFrom [] ops.toList)[j]? = some ((masksFrom [] ops.toList)[j]'(by omega)) := List.getElem?_eq_getElem (by omega)
    unfold bef at hb
    rw [hm] at hb
    exact mask_closed hD hback j i _ hm hb hDj
  have fin : ∀ (listed : Array Bool) (s : St) (a : Act) (jj : Bool) (c : Nat), (∀ i, i < ops.size → listed.getD i false = true) → c ≤ (E jj).length → (∀ k e, (E jj)[k]? = some e → (listed.getD e false = true ↔ k < c)) → Good s → Step s0 s → s.H = (Hs jj) c →
      FRel s (nowF ops fr (val jj) fun i => listed.getD i false) a.tmps → a.defers = [] → Q .normal a s.w := fun listed s a jj c hall hc hpre hg hs hH hf hd => by
    have hcE : c = (E jj).length := by
      rcases Nat.lt_or_ge c (E jj).length with h | h
      · have he : (E jj)[c]? = some (E jj)[c] := List.getElem?_eq_getElem h
        have := (hpre c _ he).1 (hall _ (hE jj _ (List.getElem_mem h)))
        omega
      · omega
    subst hcE
    refine hQ jj s a hg hs ?_ hd hH
    have : (nowF ops fr (val jj) fun i => listed.getD i false) = frameAt ops fr (val jj) ops.size := by
      apply List.ext_getElem?
      intro t
      rw [nowF_at, frameAt_slot]
      refine slotAt_cut (fun j hj _ => hall j hj) (fun j hj hdst => ?_) ops.size (Nat.le_refl _)
      rw [Array.getElem?_eq_none hj] at hdst
      simp at hdst
    rwa [this] at hf
  have done : ∀ (listed : Array Bool), listed.size = ops.size → Region.ready .any ops listed = [] → ∀ i, i < ops.size → listed.getD i false = true := fun listed hsz hr i => by
    induction i using Nat.strongRecOn with
    | _ i ih =>
      intro hi
      cases hD : listed.getD i false with
      | true => rfl
      | false =>
        exfalso
        have hmem : i ∈ Region.ready .any ops listed := by
          unfold Region.ready
          rw [List.mem_filter]
          have ho : ops[i]? = some ops[i] := by simp [hi]
          have hil : i < listed.size := by omega
          refine ⟨by simpa using hi, ?_⟩
          rw [ho]
          simp only [Option.map_some, Option.getD_some, Bool.and_eq_true, Bool.not_eq_true']
          refine ⟨by simp [Array.getD, hil] at hD ⊢; exact hD, ?_⟩
          rw [Array.all_eq_true']
          intro e he
          by_cases hbd : Region.binds .any e = true
          · have hlt := hback i _ ho e (by simpa using he) hbd
            simp [ih e.on hlt (by omega)]
          · simp [hbd]
        rw [hr] at hmem
        simp at hmem
  intro fuel
  induction fuel with
  | zero =>
    intro listed s a jj c hsz hcl2 hcnt hc hpre hg hs hH hf hd
    have hall : ∀ i, i < ops.size → listed.getD i false = true := fun i hi => by
      cases hD : listed.getD i false with
      | true => rfl
      | false =>
        exfalso
        have : i ∈ (List.range ops.size).filter fun i => !(listed.getD i false) := by rw [List.mem_filter]; exact ⟨by simpa using hi, by simp only [hD]; rfl⟩
        have h0 : ((List.range ops.size).filter fun i => !(listed.getD i false)) = [] := List.eq_nil_of_length_eq_zero (by omega)
        rw [h0] at this
        simp at this
    refine ⟨?_, fin listed s a jj c hall hc hpre hg hs hH hf hd⟩
    unfold Region.ready
    rw [List.filter_eq_nil_iff]
    intro i hi
    have hil : i < listed.size := by rw [hsz]; simpa using hi
    have := hall i (by simpa using hi)
    have h1 : listed.getD i true = true := by simpa [Array.getD, hil] using this
    simp [h1]
  | succ fuel ih =>
    intro listed s a jj c hsz hcl2 hcnt hc hpre hg hs hH hf hd
    refine ⟨fun hr => fin listed s a jj c (done listed hsz hr) hc hpre hg hs hH hf hd, fun i hi => ?_⟩
    unfold Region.ready at hi
    rw [List.mem_filter] at hi
    obtain ⟨hin, hcond⟩ := hi
    have hin : i < ops.size := by simpa using hin
    have hil : i < listed.size := by omega
    have ho : ops[i]? = some ops[i] := by simp [hin]
    generalize ops[i] = o at ho
    rw [ho] at hcond
    simp only [Option.map_some, Option.getD_some, Bool.and_eq_true, Bool.not_eq_true'] at hcond
    obtain ⟨hDi, hedge⟩ := hcond
    have hDi : listed.getD i false = false := by simp only [Array.getD, hil, dif_pos] at hDi ⊢; exact hDi
    rw [Array.all_eq_true'] at hedge
    have hD' : ∀ j, (listed.setIfInBounds i true).getD j false = if j = i then true else listed.getD j false := fun j => by
      by_cases hj : j = i
      · subst hj; simp [Array.getD, hil]
      · rw [if_neg hj, Array.getD_eq_getD_getElem?, Array.getD_eq_getD_getElem?, Array.getElem?_setIfInBounds_ne (Ne.symm hj)]
    have hclosed' : Closed ops (fun j => (listed.setIfInBounds i true).getD j false) := fun j oj hoj hj e he hb => by
      simp only [hD'] at hj ⊢
      by_cases hji : j = i
      · subst hji
        rw [ho] at hoj
        cases hoj
        have := hedge e (by simpa using he)
        rw [hb] at this
        simp at this
        split
        · rfl
        · simpa using this
      · rw [if_neg hji] at hj
        split
        · rfl
        · exact hcl2 j oj hoj hj e he hb
    have before : ∀ j, j ≠ i → bef (masksFrom [] ops.toList) j i = true → listed.getD j false = true := fun j hji hb => by
      have := hmask _ hclosed' j i hin hb (by simp [hD'])
      simp only [hD', if_neg hji] at this
      exact this
    have behind : ∀ j, j < ops.size → bef (masksFrom [] ops.toList) i j = true → listed.getD j false = false := fun j hj hb => by
      cases hDj : listed.getD j false with
      | false => rfl
      | true => have := hmask _ hcl2 i j hj hb hDj; rw [hDi] at this; cases this
    -- the class in which this operation comes next
    have hsel : ∃ j', (E j').length = (E jj).length ∧ (∀ k e, (E j')[k]? = some e → (listed.getD e false = true ↔ k < c)) ∧ s.H = Hs j' c ∧ FRel s (nowF ops fr (val j') fun i => listed.getD i false) a.tmps ∧ (i ∈ E j' → (E j')[c]? = some i) := by
      by_cases hiE : i ∈ E jj
      · obtain ⟨ki, hki⟩ := List.getElem?_of_mem hiE
        have hkc : c ≤ ki := by
          rcases Nat.lt_or_ge ki c with h | h
          · have := (hpre ki i hki).2 h; rw [hDi] at this; cases this
          · exact h
        have hin' : i ∈ (E jj).drop c := List.mem_of_getElem? (i := ki - c) (by rw [List.getElem?_drop, Nat.add_sub_cancel' hkc]; exact hki)
        have notl : ∀ e ∈ (E jj).drop c, listed.getD e false = false := fun e he => by
          obtain ⟨k, hk⟩ := List.getElem?_of_mem he
          rw [List.getElem?_drop] at hk
          cases hD : listed.getD e false with
          | false => rfl
          | true => have := (hpre _ e hk).1 hD; omega
        obtain ⟨j', h1, h2, h3, h4, h5⟩ := hsw jj c i hin' (fun e he hne => by
          cases hb : bef (masksFrom [] ops.toList) e i with
          | false => rfl
          | true => have := before e hne hb; rw [notl e he] at this; cases this)
        refine ⟨j', h1, fun k e hk => ?_, hH.trans h4.symm, ?_, fun _ => h3⟩
        · rcases Nat.lt_or_ge k c with hkc | hkc
          · have hk2 : (E jj)[k]? = some e := by
              have e1 : ((E j').take c)[k]? = some e := by rw [List.getElem?_take, if_pos hkc]; exact hk
              rw [h2, List.getElem?_take, if_pos hkc] at e1
              exact e1
            exact hpre k e hk2
          · constructor
            · intro hD
              exfalso
              -- e is one of the effects of the class, and not among the first c
              have hmem : e ∈ E jj := hperm jj j' e (List.mem_of_getElem? hk)
              obtain ⟨k2, hk2⟩ := List.getElem?_of_mem hmem
              have hlt := (hpre k2 e hk2).1 hD
              have e1 : ((E jj).take c)[k2]? = some e := by rw [List.getElem?_take, if_pos hlt]; exact hk2
              rw [← h2, List.getElem?_take, if_pos hlt] at e1
              have hk2l := getElem?_lt e1
              have hkl := getElem?_lt hk
              have e2 : (E j')[k2] = e := by rw [List.getElem?_eq_getElem hk2l] at e1; exact Option.some.inj e1
              have e3 : (E j')[k] = e := by rw [List.getElem?_eq_getElem hkl] at hk; exact Option.some.inj hk
              have := (List.getElem_inj (hnd j')).1 (e2.trans e3.symm)
              omega
            · intro h; omega
        · have hv : (nowF ops fr (val j') fun i => listed.getD i false) = (nowF ops fr (val jj) fun i => listed.getD i false) := by
            apply List.ext_getElem?
            intro t
            rw [nowF_at, nowF_at]
            refine slotAt_vals (fun k hk => ?_) _
            refine h5 k fun e he => ⟨fun h => ?_, ?_⟩
            · subst h; rw [notl _ he] at hk; cases hk
            · cases hb : bef (masksFrom [] ops.toList) e k with
              | false => rfl
              | true =>
                have hkl : k < ops.size := by
                  rcases Nat.lt_or_ge k ops.size with h | h
                  · exact h
                  · rw [Array.getD_eq_getD_getElem?, Array.getElem?_eq_none (by omega)] at hk; cases hk
                have := hmask _ hcl2 e k hkl hb hk
                rw [notl e he] at this; cases this
          rw [hv]; exact hf
      · exact ⟨jj, rfl, hpre, hH, hf, fun h => absurd h hiE⟩
    obtain ⟨j', hj1, hj2, hj3, hj4, hj5⟩ := hsel
    rw [← hj1] at hc
    clear hpre hH hf
    have hpre := hj2
    have hH := hj3
    have hf := hj4
    clear hj2 hj3 hj4 hj1
    clear jj
    rename Bool => jj
    -- the slots that the operation meets
    have meets : ∀ t, t ∈ namesOf ops o → (∀ j, j < i → (ops[j]?).bind (·.dst) = some t → listed.getD j false = true) ∧ (∀ j, i < j → (ops[j]?).bind (·.dst) = some t → listed.getD j false = false) := fun t ht => by
      refine ⟨fun j hj hdst => ?_, fun j hj hdst => ?_⟩
      · cases hoj : ops[j]? with
        | none => rw [hoj] at hdst; simp at hdst
        | some oj =>
          rw [hoj] at hdst
          rcases htmp i j o oj t ho hoj ht (by simpa using hdst) with h | h | h
          · omega
          · exact before j (by omega) h.2
          · omega
      · cases hoj : ops[j]? with
        | none => rw [hoj] at hdst; simp at hdst
        | some oj =>
          rw [hoj] at hdst
          rcases htmp i j o oj t ho hoj ht (by simpa using hdst) with h | h | h
          · omega
          · omega
          · exact behind j (Array.getElem?_eq_some_iff.1 hoj).1 h.2
    have agree : ∀ t, t ∈ namesOf ops o → (nowF ops fr (val jj) fun i => listed.getD i false)[t]? = (frameAt ops fr (val jj) i)[t]? := fun t ht => by
      rw [nowF_at, frameAt_slot]
      refine slotAt_cut (meets t ht).1 (fun j hj hdst => ?_) ops.size (by omega)
      by_cases hji : j = i
      · subst hji; exact hDi
      · exact (meets t ht).2 j (by omega) hdst
    have hop : ∀ x ∈ o.op.operands, evalA (nowF ops fr (val jj) fun i => listed.getD i false) x = evalA (frameAt ops fr (val jj) i) x := fun x hx => by
      refine evalA_congr fun t e => agree t ?_
      subst e
      simp only [namesOf, Oper.looksAt, List.mem_append, List.mem_filterMap]
      exact .inl (.inl ⟨.tmp t, by simpa using hx, rfl⟩)
    have hwant : wantA ops (nowF ops fr (val jj) fun i => listed.getD i false) o = wantA ops (frameAt ops fr (val jj) i) o := by
      unfold wantA
      cases hgd : o.guard with
      | none => rfl
      | some g =>
        obtain ⟨j, want⟩ := g
        simp only
        cases hoj : ops[j]? with
        | none => rfl
        | some oj =>
          simp only
          cases hdj : oj.dst with
          | none => rfl
          | some d =>
            simp only
            rw [agree d (by simp [namesOf, Oper.looksAt, hgd, hoj, hdj])]
    -- what comes behind
    have next : ∀ {s1 : St} {u : Value} {c' : Nat}, Good s1 → Step s s1 → Rel s1 ((val jj) i) u → c' ≤ (E jj).length → s1.H = (Hs jj) c' → (∀ k e, (E jj)[k]? = some e → ((listed.setIfInBounds i true).getD e false = true ↔ k < c')) →
        wpAny P .any ops Q fuel (listed.setIfInBounds i true) (a.put o.dst u) s1.w := fun {s1 u c'} g1 g2 g3 g4 g5 g6 => by
      refine ih _ s1 _ jj c' (by simp [hsz]) hclosed' ?_ g4 g6 g1 (hs.trans g2) g5 ?_ (by rw [put_defers]; exact hd)
      · have := filter_less (p := fun j => !(listed.getD j false)) (q := fun j => !((listed.setIfInBounds i true).getD j false)) (i := i) (by simp only [hDi]; rfl) (by simp [hD']) (fun j hj => by
          simp only [hD'] at hj
          split at hj
          · simp at hj
          · exact hj) (l := List.range ops.size) (by simpa using hin)
        omega
      · have hnow : (nowF ops fr (val jj) fun j => (listed.setIfInBounds i true).getD j false) = putF (nowF ops fr (val jj) fun j => listed.getD j false) o.dst ((val jj) i) := by
          apply List.ext_getElem?
          intro t
          rw [nowF_at]
          cases hdst : (o.dst : Option Nat) with
          | none =>
            simp only [putF]
            rw [nowF_at]
            refine slotAt_congr (fun j hj => ?_) _
            simp only [hD']
            split
            · rename_i hji; subst hji; rw [ho] at hj; simp [hdst] at hj
            · rfl
          | some d =>
            simp only [putF]
            have hlen : (nowF ops fr (val jj) fun j => listed.getD j false).length = fr.length := by simp [nowF]
            by_cases hdt : d = t
            · subst hdt
              have hm := meets d (by simp [namesOf, hdst])
              have e1 := slotAt_cut (fr := fr) (val := val jj) (D := fun j => (listed.setIfInBounds i true).getD j false) (i := i + 1) (t := d) (fun j hj hdj => by
                simp only [hD']
                split
                · rfl
                · exact hm.1 j (by omega) hdj) (fun j hj hdj => by
                simp only [hD']
                rw [if_neg (by omega)]
                exact hm.2 j (by omega) hdj) ops.size (by omega)
              rw [e1]
              simp only [slotAt]
              by_cases hlt : d < fr.length
              · rw [if_pos ⟨trivial, by rw [ho]; simpa using hdst, hlt⟩, List.getElem?_set_self (by rw [hlen]; exact hlt)]
              · rw [if_neg (by simp [hlt]), List.getElem?_set, if_pos rfl, if_neg (by rw [hlen]; exact hlt)]
                have := slotAt_some (ops := ops) (fr := fr) (val := val jj) (D := fun _ => true) i d
                cases h : slotAt ops fr (val jj) (fun _ => true) i d with
                | none => rfl
                | some v => rw [h] at this; simp [hlt] at this
            · rw [List.getElem?_set_ne hdt, nowF_at]
              refine slotAt_congr (fun j hj => ?_) _
              simp only [hD']
              split
              · rename_i hji; subst hji; rw [ho] at hj; simp [hdst] at hj; exact absurd hj hdt
              · rfl
        rw [hnow]
        exact (hf.step g2).put g3 o.dst
    have sameE : i ∉ (E jj) → ∀ k e, (E jj)[k]? = some e → ((listed.setIfInBounds i true).getD e false = true ↔ k < c) := fun hiE k e he => by
      rw [hD', if_neg (fun h : e = i => hiE (by rw [← h]; exact List.mem_of_getElem? he))]
      exact hpre k e he
    have hpos : i ∉ (E jj) → posB (masksFrom [] ops.toList) (E jj) i c = true := fun hiE => by
      simp only [posB, List.all_eq_true, List.mem_range]
      intro k hk
      have he : (E jj)[k]? = some (E jj)[k] := List.getElem?_eq_getElem hk
      rw [he]
      simp only
      split
      · rename_i hkc
        have hD := (hpre k _ he).2 hkc
        cases hb : bef (masksFrom [] ops.toList) i (E jj)[k] with
        | false => rfl
        | true => have := behind _ (hE jj _ (List.getElem_mem hk)) hb; rw [hD] at this; cases this
      · rename_i hkc
        cases hb : bef (masksFrom [] ops.toList) (E jj)[k] i with
        | false => rfl
        | true =>
          have := before _ (fun h => hiE (h ▸ List.getElem_mem hk)) hb
          exact absurd ((hpre k _ he).1 this) hkc
    have eff : i ∈ E jj → (E jj).idxOf i = c ∧ (∀ k' e, (E jj)[k']? = some e → ((listed.setIfInBounds i true).getD e false = true ↔ k' < c + 1)) ∧ c + 1 ≤ (E jj).length := fun hiE => by
      have hk := hj5 hiE
      have hkl := getElem?_lt hk
      have hidx : (E jj).idxOf i = c := by
        have h1 := List.idxOf_lt_length_of_mem hiE
        have h2 : (E jj)[(E jj).idxOf i] = i := by simp
        have h3 : (E jj)[c] = i := by rw [List.getElem?_eq_getElem hkl] at hk; exact Option.some.inj hk
        exact (List.getElem_inj (hnd jj)).1 (h2.trans h3.symm)
      refine ⟨hidx, fun k' e he => ?_, by omega⟩
      rw [hD']
      by_cases hei : e = i
      · subst hei
        have hkl' := getElem?_lt he
        have h2 : (E jj)[k'] = e := by rw [List.getElem?_eq_getElem hkl'] at he; exact Option.some.inj he
        have h3 : (E jj)[c] = e := by rw [List.getElem?_eq_getElem hkl] at hk; exact Option.some.inj hk
        have := (List.getElem_inj (hnd jj)).1 (h2.trans h3.symm)
        simp; omega
      · rw [if_neg hei, hpre k' e he]
        constructor
        · omega
        · intro h
          rcases Nat.lt_or_ge k' c with h' | h'
          · exact h'
          · exfalso
            have hk'c : k' = c := by omega
            subst hk'c
            rw [hk] at he; cases he; exact hei rfl
    have hclause := hcl jj i o ho
    unfold Clause at hclause
    rw [← hwant] at hclause
    unfold wpOp
    rw [ho]
    simp only
    split at hclause
    · -- it does not run
      rename_i hw
      rw [want_sound hf hw]
      simp only [Bool.false_eq_true, if_false]
      have hiE : i ∉ (E jj) := by simpa using hclause.2
      exact next hg (Step.refl s) (by rw [hclause.1]; exact .tup [] #[] rfl (by simp)) hc hH (sameE hiE)
    · rename_i hw
      rw [want_sound hf hw]
      simp only [if_true]
      left
      split at hclause
      · -- a call
        rename_i f args hcall
        have hin2 : f ∈ o.op.operands ∧ ∀ x ∈ args, x ∈ o.op.operands := by
          unfold callOf at hcall
          split at hcall
          · rename_i cc hoc
            split at hcall
            · rename_i f' hcal
              cases hcall
              rw [hoc]
              simp only [Op.operands, Call.operands, hcal]
              exact ⟨by simp, fun x hx => by simp; exact .inr (by simpa using hx)⟩
            · cases hcall
          · cases hcall
        have hf1 : evalA (frameAt ops fr (val jj) i) f = evalA (nowF ops fr (val jj) fun i => listed.getD i false) f := (hop f hin2.1).symm
        have hf2 : args.map (evalA (frameAt ops fr (val jj) i)) = args.map (evalA (nowF ops fr (val jj) fun i => listed.getD i false)) := List.map_congr_left fun x hx => (hop x (hin2.2 x hx)).symm
        split at hclause
        · rename_i hEi
          have hiE : i ∈ (E jj) := by simpa using hEi
          obtain ⟨hidx, hpre', hcE⟩ := eff hiE
          have hcc := hclause
          rw [hidx, ← hH] at hcc
          rw [hf1, hf2] at hcc
          refine call_sound hcall (hz0.step hs) hg hf hcc (fun u s1 r g1 g2 g3 g4 => ?_)
          obtain ⟨rfl, g5⟩ := g4
          exact next g1 g2 g3 hcE g5 hpre'
        · rename_i hEi
          have hiE : i ∉ (E jj) := by simpa using hEi
          have hcc := allC_at hclause c (by simp; omega)
          rw [if_pos (hpos hiE), ← hH] at hcc
          rw [hf1, hf2] at hcc
          refine call_sound hcall (hz0.step hs) hg hf hcc (fun u s1 r g1 g2 g3 g4 => ?_)
          obtain ⟨rfl, g5⟩ := g4
          exact next g1 g2 g3 hc (g5.trans hH) (sameE hiE)
      · split at hclause
        · -- an effect
          rename_i hEi
          have hiE : i ∈ (E jj) := by simpa using hEi
          obtain ⟨hidx, hpre', hcE⟩ := eff hiE
          rw [hidx, ← aop_congr (ρ := evalA (nowF ops fr (val jj) fun i => listed.getD i false)) hop, ← hH] at hclause
          obtain ⟨nx, s1, k1, k2, k3, k4, k5⟩ := aop_sound (P := P) hT hg (fun x => hf.eval x) hclause
          unfold Oper.wp
          rw [k1]
          rcases k5 with ⟨u, rfl, hr⟩ | ⟨rfl, hv⟩
          · rw [Oper.upon_value]; exact next k3 k4 hr hcE k2 hpre'
          · rw [Oper.upon_skip]; exact next k3 k4 (by rw [hv]; exact .tup [] #[] rfl (by simp)) hcE k2 hpre'
        · rename_i hEi
          have hiE : i ∉ (E jj) := by simpa using hEi
          have hcc := allC_at hclause c (by simp; omega)
          rw [if_pos (hpos hiE), ← aop_congr (ρ := evalA (nowF ops fr (val jj) fun i => listed.getD i false)) hop, ← hH] at hcc
          obtain ⟨nx, s1, k1, k2, k3, k4, k5⟩ := aop_sound (P := P) hT hg (fun x => hf.eval x) hcc
          unfold Oper.wp
          rw [k1]
          rcases k5 with ⟨u, rfl, hr⟩ | ⟨rfl, hv⟩
          · rw [Oper.upon_value]; exact next k3 k4 hr hc (k2.trans hH) (sameE hiE)
          · rw [Oper.upon_skip]; exact next k3 k4 (by rw [hv]; exact .tup [] #[] rfl (by simp)) hc (k2.trans hH) (sameE hiE)
    · exact hclause.elim

end
/-- Both orders, in the order of the text. D: the operations that hang on an effect. -/
def obl2 (T : Ty) (ops : Array Oper) (n : Nat) (E1 E2 D : List Nat) (H1 H2 : Nat → List B) (K : List V → List B → Prop) : List Oper → Nat → List V → List V → Prop
  | [], _, f1, f2 => K f1 (H1 n) ∧ K f2 (H2 n)
  | o :: rest, i, f1, f2 =>
    if E1.contains i = true then
      (match aop T o.op (evalA f1) (H1 (E1.idxOf i)), aop T o.op (evalA f2) (H2 (E2.idxOf i)) with
        | some (v1, G1), some (v2, G2) => (G1 = H1 (E1.idxOf i + 1) ∧ G2 = H2 (E2.idxOf i + 1)) ∧ obl2 T ops n E1 E2 D H1 H2 K rest (i + 1) (putF f1 o.dst v1) (putF f2 o.dst v2)
        | _, _ => False)
    else (match aop T o.op (evalA f1) (H1 0), aop T o.op (evalA f2) (H2 0) with
        | some (v1, G1), some (v2, G2) => ((if scalOp o.op = true then True else allC (fun c => aop T o.op (evalA f1) (H1 c) = some (v1, H1 c) ∧ aop T o.op (evalA f2) (H2 c) = some (v2, H2 c)) (List.range (n + 1))) ∧ (if D.contains i = true then True else v1 = v2)) ∧ obl2 T ops n E1 E2 D H1 H2 K rest (i + 1) (putF f1 o.dst v1) (putF f2 o.dst v2)
        | _, _ => False)
/-- The static check. -/
def stat2K (ops : Array Oper) (E1 E2 D : List Nat) : Bool :=
  let ms := masksFrom [] ops.toList
  statOk ops [] && (E1.length == E2.length && (decide E1.Nodup && (decide E2.Nodup && (E1.all (fun e => E2.contains e && decide (e < ops.size)) && (E2.all (fun e => E1.contains e) &&
    ((List.range ops.size).all (fun i => (match ops[i]? with
        | some o => o.guard.isNone && ((callOf o.op).isNone && (E1.contains i || stillOp o.op))
        | none => true) && (!D.contains i || E1.any fun e => i == e || bef ms e i)) &&
    ([(E1, E2), (E2, E1)].all fun p => (List.range (E1.length + 1)).all fun c => (p.1.drop c).all fun i =>
      (!((p.1.drop c).all fun e => e == i || !bef ms e i)) || (p.1[c]? == some i || (c == 0 && p.2[0]? == some i)))))))))
section
variable {P : Program} {T : Ty}
def Out2 (T : Ty) (ops : Array Oper) (n : Nat) (E1 E2 D : List Nat) (H1 H2 : Nat → List B) (K : List V → List B → Prop) (C : V → List V → List B → (V → List B → Prop) → Prop) (l : List Oper) (i : Nat) (f1 f2 : List V) : Prop :=
  ∃ vs1 vs2 g1 g2, vs1.length = l.length ∧ vs2.length = l.length ∧ oblOps T ops C (masksFrom [] ops.toList) E1 H1 l i f1 vs1 ∧ oblOps T ops C (masksFrom [] ops.toList) E2 H2 l i f2 vs2 ∧
        (∀ (val : Nat → V) (fr0 : List V), (∀ k, k < vs1.length → vs1[k]? = some (val (i + k))) → f1 = frameAt ops fr0 val i → g1 = frameAt ops fr0 val ops.size) ∧
        (∀ (val : Nat → V) (fr0 : List V), (∀ k, k < vs2.length → vs2[k]? = some (val (i + k))) → f2 = frameAt ops fr0 val i → g2 = frameAt ops fr0 val ops.size) ∧
        (∀ k, k < l.length → D.contains (i + k) = false → E1.contains (i + k) = false → vs1[k]? = vs2[k]?) ∧ K g1 (H1 n) ∧ K g2 (H2 n)
theorem obl2_ok {ops : Array Oper} {n : Nat} {E1 E2 D : List Nat} {H1 H2 : Nat → List B} {K : List V → List B → Prop} {C : V → List V → List B → (V → List B → Prop) → Prop}
    (hl1 : E1.length = n) (hl2 : E2.length = n) (hmem : ∀ i, E1.contains i = E2.contains i)
    (hst : ∀ i o, ops[i]? = some o → o.guard = none ∧ callOf o.op = none ∧ (E1.contains i = false → stillOp o.op = true)) :
    ∀ (l : List Oper) (i : Nat) (f1 f2 : List V), l = ops.toList.drop i → obl2 T ops n E1 E2 D H1 H2 K l i f1 f2 →
      Out2 T ops n E1 E2 D H1 H2 K C l i f1 f2
  | [], i, f1, f2, hl, h => by
    have hi : ops.size ≤ i := by
      have := congrArg List.length hl
      simp at this
      omega
    have hfr : ∀ (val : Nat → V) (fr0 : List V), ∀ d, frameAt ops fr0 val (ops.size + d) = frameAt ops fr0 val ops.size := fun val fr0 d => by
      induction d with
      | zero => rfl
      | succ d ih =>
        rw [show ops.size + (d + 1) = (ops.size + d) + 1 by omega, frameAt, Array.getElem?_eq_none (by omega)]
        exact ih
    obtain ⟨d, rfl⟩ := Nat.exists_eq_add_of_le hi
    exact ⟨[], [], f1, f2, rfl, rfl, trivial, trivial, fun val fr0 _ h => by rw [h, hfr], fun val fr0 _ h => by rw [h, hfr], fun k hk => by simp at hk, h.1, h.2⟩
  | o :: rest, i, f1, f2, hl, h => by
    have ho : ops[i]? = some o := by
      have := congrArg (fun l => l[0]?) hl
      simp at this
      exact this.symm
    have hrest : rest = ops.toList.drop (i + 1) := by
      have := congrArg List.tail hl
      simpa using this
    obtain ⟨hg, hc, hs⟩ := hst i o ho
    have hw : ∀ f, wantA ops f o = some true := fun f => by unfold wantA; rw [hg]
    -- what comes behind, put together
    have fin : ∀ v1 v2, Clause T ops C (masksFrom [] ops.toList) E1 H1 o i f1 v1 → Clause T ops C (masksFrom [] ops.toList) E2 H2 o i f2 v2 → (D.contains i = false → E1.contains i = false → v1 = v2) →
        obl2 T ops n E1 E2 D H1 H2 K rest (i + 1) (putF f1 o.dst v1) (putF f2 o.dst v2) → Out2 T ops n E1 E2 D H1 H2 K C (o :: rest) i f1 f2 := fun v1 v2 c1 c2 hd hr => by
      obtain ⟨vs1, vs2, g1, g2, a1, a2, a3, a4, a5, a6, a7, a8, a9⟩ := obl2_ok (C := C) hl1 hl2 hmem hst rest (i + 1) _ _ hrest hr
      have fr : ∀ (f : List V) (v : V) (vs : List V) (g : List V), (∀ (val : Nat → V) (fr0 : List V), (∀ k, k < vs.length → vs[k]? = some (val (i + 1 + k))) → putF f o.dst v = frameAt ops fr0 val (i + 1) → g = frameAt ops fr0 val ops.size) →
          ∀ (val : Nat → V) (fr0 : List V), (∀ k, k < (v :: vs).length → (v :: vs)[k]? = some (val (i + k))) → f = frameAt ops fr0 val i → g = frameAt ops fr0 val ops.size := fun f v vs g hh val fr0 hv hf => by
        have hv0 : v = val i := by have := hv 0 (by simp); simpa using this
        refine hh val fr0 (fun k hk => ?_) ?_
        · have := hv (k + 1) (by simp; omega)
          rw [List.getElem?_cons_succ] at this
          rw [this, show i + (k + 1) = i + 1 + k by omega]
        · rw [frameAt, ho, hv0, hf]
      refine ⟨v1 :: vs1, v2 :: vs2, g1, g2, by simp [a1], by simp [a2], ⟨c1, a3⟩, ⟨c2, a4⟩, fr f1 v1 vs1 g1 a5, fr f2 v2 vs2 g2 a6, fun k hk hD hE => ?_, a8, a9⟩
      cases k with
      | zero => simp only [Nat.add_zero] at hD hE; simp [hd hD hE]
      | succ k =>
        rw [List.getElem?_cons_succ, List.getElem?_cons_succ]
        exact a7 k (by simpa using hk) (by rw [show i + 1 + k = i + (k + 1) by omega]; exact hD) (by rw [show i + 1 + k = i + (k + 1) by omega]; exact hE)
    unfold obl2 at h
    split at h
    · rename_i hE
      split at h
      · rename_i v1 G1 v2 G2 q1 q2
        obtain ⟨⟨rfl, rfl⟩, hr⟩ := h
        refine fin v1 v2 ?_ ?_ (fun _ hE' => by rw [hE] at hE'; cases hE') hr
        · unfold Clause; simp only [hw, hc, hE, if_true]; exact q1
        · unfold Clause; simp only [hw, hc, hmem i ▸ hE, if_true]; exact q2
      · exact h.elim
    · rename_i hE
      have hE : E1.contains i = false := by simpa using hE
      have hE2 : E2.contains i = false := hmem i ▸ hE
      split at h
      · rename_i v1 G1 v2 G2 q1 q2
        obtain ⟨⟨hall, hd⟩, hr⟩ := h
        have each : ∀ c, c < n + 1 → aop T o.op (evalA f1) (H1 c) = some (v1, H1 c) ∧ aop T o.op (evalA f2) (H2 c) = some (v2, H2 c) := fun c hcl => by
          split at hall
          · rename_i hsc
            exact ⟨scalOp_ok hsc q1 _, scalOp_ok hsc q2 _⟩
          · exact allC_at hall c (by simpa using hcl)
        refine fin v1 v2 ?_ ?_ (fun hD _ => ?_) hr
        · unfold Clause; simp only [hw, hc, hE, Bool.false_eq_true, if_false]
          refine oblT_ok.allC_of fun c hcm => ?_
          split
          · exact (each c (by rw [hl1] at hcm; simpa using hcm)).1
          · trivial
        · unfold Clause; simp only [hw, hc, hE2, Bool.false_eq_true, if_false]
          refine oblT_ok.allC_of fun c hcm => ?_
          split
          · exact (each c (by rw [hl2] at hcm; simpa using hcm)).2
          · trivial
        · rw [hD] at hd
          simpa using hd
      · exact h.elim
/-- A region that draws its order, in which the first two effects stand unordered. -/
theorem W_draw2 (hT : TOk P T) (hm : P.follows .mixedOrders = true) {id : Nat} {ops : Array Oper} {Q : Exit → List V → List B → Prop} {fr : List V} {H : List B} (E1 E2 D : List Nat) (hs1 hs2 : List (List B)) (hst : stat2K ops E1 E2 D = true)
    (h : ∀ (K : List V → List B → Prop), (∀ fr H, Q .normal fr H → K fr H) → obl2 T ops E1.length E1 E2 D (fun c => ((H :: hs1)[c]?).getD []) (fun c => ((H :: hs2)[c]?).getD []) K ops.toList 0 fr fr) : W P (.region id ops true) Q fr H := by
  intro s a hH hg hf hd
  obtain ⟨rfl, hz0⟩ := hH
  have hob := h (Q .normal) (fun _ _ h => h)
  simp only [stat2K, Bool.and_eq_true, beq_iff_eq, decide_eq_true_eq] at hst
  obtain ⟨t1, t2, t3, t4, t5, t6, t7, t8⟩ := hst
  have m12 : ∀ e ∈ E1, e ∈ E2 ∧ e < ops.size := fun e he => by have := List.all_eq_true.1 t5 e he; simpa using this
  have m21 : ∀ e ∈ E2, e ∈ E1 := fun e he => by have := List.all_eq_true.1 t6 e he; simpa using this
  have hmem : ∀ i, E1.contains i = E2.contains i := fun i => by
    rw [Bool.eq_iff_iff, List.contains_iff_mem, List.contains_iff_mem]
    exact ⟨fun h => (m12 i h).1, m21 i⟩
  have hops : ∀ i o, ops[i]? = some o → (o.guard = none ∧ callOf o.op = none ∧ (E1.contains i = false → stillOp o.op = true)) ∧ (D.contains i = true → ∃ e ∈ E1, i = e ∨ bef (masksFrom [] ops.toList) e i = true) := fun i o ho => by
    have hil := (Array.getElem?_eq_some_iff.1 ho).1
    have := List.all_eq_true.1 t7 i (by simpa using hil)
    rw [ho] at this
    simp only [Bool.and_eq_true, Bool.or_eq_true, Option.isNone_iff_eq_none, Bool.not_eq_true', List.any_eq_true, beq_iff_eq] at this
    obtain ⟨⟨g1, g2, g3⟩, g4⟩ := this
    exact ⟨⟨g1, g2, fun hE => by rcases g3 with g3 | g3; rw [hE] at g3; cases g3; exact g3⟩, fun hD => by rcases g4 with g4 | g4; rw [hD] at g4; cases g4; exact g4⟩
  obtain ⟨vs1, vs2, g1, g2, a1, a2, a3, a4, a5, a6, a7, a8, a9⟩ := obl2_ok (C := WCall P) rfl t2.symm hmem (fun i o ho => (hops i o ho).1) ops.toList 0 fr fr (by simp) hob
  let val : Bool → Nat → V := fun b i => ((cond b vs1 vs2)[i]?).getD .undef
  have hv1 : ∀ k, k < vs1.length → vs1[k]? = some (val true (0 + k)) := fun k hk => by simp [val, hk]
  have hv2 : ∀ k, k < vs2.length → vs2[k]? = some (val false (0 + k)) := fun k hk => by simp [val, hk]
  have hc1 := obl_at (fr0 := fr) (val := val true) ops.toList 0 vs1 (by simp) hv1 a3
  have hc2 := obl_at (fr0 := fr) (val := val false) ops.toList 0 vs2 (by simp) hv2 a4
  have hg1 := a5 (val true) fr hv1 rfl
  have hg2 := a6 (val false) fr hv2 rfl
  refine wp_region_any hm ?_
  obtain ⟨d1, d2⟩ := step_grow hg (w := { s.w with drawn := s.w.drawn + 1 }) rfl rfl rfl (Nat.le_refl _) (fun _ _ => rfl)
  have hget : ∀ j, (Array.replicate ops.size false).getD j false = false := fun j => by
    rw [Array.getD_eq_getD_getElem?, Array.getElem?_replicate]; split <;> rfl
  have hnow : nowF ops fr (val true) (fun i => (Array.replicate ops.size false).getD i false) = fr := by
    apply List.ext_getElem?
    intro t
    rw [nowF_at]
    exact slotAt_cut (i := 0) (fun j hj => absurd hj (by omega)) (fun j _ _ => hget j) ops.size (Nat.zero_le _)
  refine drawJ_sound hT hz0 (s0 := s) (E := fun b => cond b E1 E2) (val := val) (Hs := fun b c => ((s.H :: cond b hs1 hs2)[c]?).getD []) t1 ?_ ?_ ?_ ?_ ?_ ?_ ops.size _ (s.at _) a true 0 (by simp) (fun j o _ hj => by simp only [hget] at hj; cases hj) ?_ (Nat.zero_le _) (fun k e _ => by rw [hget]; simp) d1 d2 rfl (by rw [hnow]; exact hf.step d2) hd
  · intro j e he
    cases j with
    | true => exact (m12 e he).2
    | false => exact (m12 e (m21 e he)).2
  · intro j
    cases j with
    | true => exact t3
    | false => exact t4
  · intro j j' e he
    cases j <;> cases j' <;> first | exact he | exact (m12 e he).1 | exact m21 e he
  · intro j c i hi hbef
    have hcl : c < (cond j E1 E2).length := by
      have := List.length_pos_of_mem hi
      rw [List.length_drop] at this; omega
    have hlen : (cond j E1 E2).length = E1.length := by cases j; exact t2.symm; rfl
    have hpair : (cond j E1 E2, cond j E2 E1) ∈ [(E1, E2), (E2, E1)] := by cases j <;> simp
    have q := List.all_eq_true.1 (List.all_eq_true.1 (List.all_eq_true.1 t8 _ hpair) c (by simp; omega)) i hi
    simp only [Bool.or_eq_true, Bool.not_eq_true', Bool.and_eq_true, beq_iff_eq] at q
    rcases q with q | q | ⟨rfl, q⟩
    · exfalso
      rw [Bool.eq_false_iff] at q
      refine q (List.all_eq_true.2 fun e he => ?_)
      by_cases hei : e = i
      · simp [hei]
      · rw [hbef e he hei]; simp
    · exact ⟨j, rfl, rfl, q, rfl, fun _ _ => rfl⟩
    · refine ⟨!j, ?_, rfl, ?_, ?_, fun k hk => ?_⟩
      · cases j; exact t2; exact t2.symm
      · cases j <;> exact q
      · cases j <;> rfl
      · have hind : ∀ e ∈ E1, k ≠ e ∧ bef (masksFrom [] ops.toList) e k = false := fun e he => hk e (by
          cases j with
          | true => simpa using he
          | false => simpa using (m12 e he).1)
        by_cases hkl : k < ops.size
        · have ho : ops[k]? = some ops[k] := by simp [hkl]
          have hD : D.contains k = false := by
            cases hDk : D.contains k with
            | false => rfl
            | true =>
              obtain ⟨e, he, hx⟩ := (hops k _ ho).2 hDk
              rcases hx with hx | hx
              · exact absurd hx (hind e he).1
              · rw [(hind e he).2] at hx; cases hx
          have hE : E1.contains k = false := by
            rw [Bool.eq_false_iff, ne_eq, List.contains_iff_mem]
            exact fun hh => (hind k hh).1 rfl
          have := a7 k (by simpa using hkl) (by rw [Nat.zero_add]; exact hD) (by rw [Nat.zero_add]; exact hE)
          cases j <;> simp only [val, cond_true, cond_false, Bool.not_true, Bool.not_false, this]
        · have e1 : vs1[k]? = none := List.getElem?_eq_none (by rw [a1]; simpa using Nat.le_of_not_lt hkl)
          have e2 : vs2[k]? = none := List.getElem?_eq_none (by rw [a2]; simpa using Nat.le_of_not_lt hkl)
          cases j <;> simp only [val, cond_true, cond_false, Bool.not_true, Bool.not_false, e1, e2]
  · intro j i o ho
    cases j with
    | true => exact hc1 i o (Nat.zero_le _) ho
    | false => exact hc2 i o (Nat.zero_le _) ho
  · intro j s' a' k1 k2 k3 k4 k5
    cases j with
    | true => exact ⟨g1, s', rfl, k1, k2, by rw [hg1]; exact k3, k4, by rw [k5]; exact a8⟩
    | false => exact ⟨g2, s', rfl, k1, k2, by rw [hg2]; exact k3, k4, by rw [k5]; show Q .normal g2 (((s.H :: hs2)[E2.length]?).getD []); rw [← t2]; exact a9⟩
  · exact Nat.le_trans (List.length_filter_le _ _) (by simp)
end
attribute [simp] obl2
end Go.AM
