/- Pl4: the hypergraphs of recipes are valid, and stay so when vertices are removed. -/
import Derived.Test.YtfaleabndlcanaaGreatDoorW17
import Derived.Test.YtfaleabndlcanaaGreatDoorW3
import Derived.Test.YtfaleabndlcanaaGreatDoorPl3
set_option linter.unusedSimpArgs false
namespace Go.Proofs.YtfaleabndlcanaaGreatDoor
open Go Go.AM
theorem lex_irr : ∀ a : List Int, lexLt a a = false
  | [] => rfl
  | x :: xs => by simp only [lexLt, if_true]; exact lex_irr xs
theorem lex_tri : ∀ a b : List Int, a ≠ b → lexLt a b = false → lexLt b a = true
  | [], [], h, _ => absurd rfl h
  | [], _ :: _, _, h => by simp [lexLt] at h
  | _ :: _, [], _, _ => rfl
  | x :: xs, y :: ys, h, hl => by
    simp only [lexLt] at hl ⊢
    by_cases hxy : x = y
    · subst hxy
      rw [if_pos rfl] at hl ⊢
      exact lex_tri xs ys (fun e => h (by rw [e])) hl
    · rw [if_neg hxy] at hl
      rw [if_neg (fun e => hxy e.symm)]
      simp only [decide_eq_false_iff_not] at hl
      simp only [decide_eq_true_eq]
      omega
theorem lex_trans : ∀ a b c : List Int, lexLt a b = true → lexLt b c = true → lexLt a c = true
  | [], [], _, h, _ => by simp [lexLt] at h
  | [], _ :: _, [], _, h => by simp [lexLt] at h
  | [], _ :: _, _ :: _, _, _ => rfl
  | _ :: _, [], _, h, _ => by simp [lexLt] at h
  | _ :: _, _ :: _, [], _, h => by simp [lexLt] at h
  | x :: xs, y :: ys, z :: zs, h1, h2 => by
    simp only [lexLt] at h1 h2 ⊢
    by_cases hxy : x = y
    · subst hxy
      rw [if_pos rfl] at h1
      by_cases hxz : x = z
      · subst hxz
        rw [if_pos rfl] at h2 ⊢
        exact lex_trans xs ys zs h1 h2
      · rw [if_neg hxz] at h2 ⊢
        exact h2
    · rw [if_neg hxy] at h1
      simp only [decide_eq_true_eq] at h1
      by_cases hyz : y = z
      · subst hyz
        rw [if_neg hxy]
        simpa using h1
      · rw [if_neg hyz] at h2
        simp only [decide_eq_true_eq] at h2
        rw [if_neg (by omega)]
        simp only [decide_eq_true_eq]
        omega
structure Hyp (vs : List Int) (es : List (List Int)) : Prop where
  va : vs.Pairwise (· < ·)
  ne : ∀ e ∈ es, e ≠ []
  ea : ∀ e ∈ es, e.Pairwise (· < ·)
  sub : ∀ e ∈ es, ∀ x ∈ e, x ∈ vs
  lex : es.Pairwise fun a b => lexLt a b = true
  min : es.Pairwise fun a b => ¬ (∀ x ∈ a, x ∈ b) ∧ ¬ (∀ x ∈ b, x ∈ a)
theorem Hyp.val {vs : List Int} {es : List (List Int)} (h : Hyp vs es) (hl : es.length ≤ 20000) : valC vs es = true := by
  have hva := (asc_pair vs).2 h.va
  unfold valC
  rw [hva, decide_eq_true hl]
  simp only [Bool.true_and, Bool.and_eq_true]
  have hasc : ∀ i (hi : i < es.length), asc es[i] = true := fun i hi => (asc_pair _).2 (h.ea _ (List.getElem_mem hi))
  refine ⟨all_yes fun i hi => ?_, all_yes fun i hi => all_yes fun k hk => ?_⟩
  · unfold ok1
    rw [getD_at hi, hasc i hi, contB_within hva, cmpL_lex]
    have h1 : es[i].length ≠ 0 := fun e => h.ne _ (List.getElem_mem hi) (List.eq_nil_of_length_eq_zero e)
    have h2 : within es[i] vs = true := within_iff.2 (h.sub _ (List.getElem_mem hi))
    rw [h2]
    by_cases hi0 : 0 < i
    · have h3 := List.pairwise_iff_getElem.1 h.lex (i - 1) i (by omega) hi (by omega)
      rw [getD_at (by omega), h3]
      simp [h1]
    · simp [h1, hi0]
  · unfold ok2
    by_cases hik : i = k
    · simp [hik]
    · rw [getD_at hi, getD_at hk, contB_within (hasc i hi)]
      have : within es[k] es[i] = false := by
        rw [Bool.eq_false_iff]; intro hw
        rw [within_iff] at hw
        rcases Nat.lt_or_ge i k with hlt | hge
        · exact (List.pairwise_iff_getElem.1 h.min i k hi hk hlt).2 hw
        · exact (List.pairwise_iff_getElem.1 h.min k i hk hi (by omega)).1 hw
      simp [this]
theorem filter_mono {p q : Int → Bool} (h : ∀ x, p x = true → q x = true) : ∀ vs : List Int, (vs.filter p).Sublist (vs.filter q)
  | [] => .slnil
  | v :: vs => by
    rw [List.filter_cons, List.filter_cons]
    cases hp : p v
    · cases hq : q v
      · simpa using filter_mono h vs
      · simpa using (filter_mono h vs).cons v
    · rw [h v hp]
      simpa using (filter_mono h vs).cons_cons v
theorem sub_eq {a b vs : List Int} (ha : a.Sublist vs) (hb : b.Sublist vs) (hn : vs.Nodup) (hab : ∀ x ∈ a, x ∈ b) (hl : b.length ≤ a.length) : a = b := by
  have h1 := filter_mono (p := fun v => memB a v) (q := fun v => memB b v) (fun x hx => memB_iff.2 (hab x (memB_iff.1 hx))) vs
  rw [filter_sub ha hn, filter_sub hb hn] at h1
  exact h1.eq_of_length_le hl
theorem keepTo_at {l : List (List Int)} {i : Nat} : ∀ {n : Nat}, keepTo l i n = true → ∀ k, k < n → dropE l i k = false
  | 0, _, k, hk => absurd hk (by omega)
  | n + 1, h, k, hk => by
    simp only [keepTo, Bool.and_eq_true, Bool.not_eq_true'] at h
    rcases Nat.lt_or_ge k n with h1 | h1
    · exact keepTo_at h.1 k h1
    · obtain rfl : k = n := by omega
      exact h.2
theorem insPos_le (acc : List (List Int)) (e : List Int) : ∀ k, insPos acc e k ≤ k
  | 0 => by simp [insPos]
  | k + 1 => by
    simp only [insPos]
    split
    · have := insPos_le acc e k; omega
    · omega
theorem insPos_hi (acc : List (List Int)) (e : List Int) : ∀ k, ∀ j, insPos acc e k ≤ j → j < k → lexLt e (eAt acc j) = true
  | 0, j, _, h => absurd h (by omega)
  | k + 1, j, h1, h2 => by
    simp only [insPos] at h1
    split at h1
    · rename_i hlt
      rcases Nat.lt_or_ge j k with h3 | h3
      · exact insPos_hi acc e k j h1 h3
      · obtain rfl : j = k := by omega
        exact hlt
    · omega
theorem insPos_lo (acc : List (List Int)) (e : List Int) : ∀ k, 0 < insPos acc e k → lexLt e (eAt acc (insPos acc e k - 1)) = false
  | 0, h => by simp [insPos] at h
  | k + 1, h => by
    simp only [insPos] at h ⊢
    split
    · rename_i hlt
      rw [if_pos hlt] at h
      exact insPos_lo acc e k h
    · rename_i hlt
      simpa using hlt
theorem ins_lex {acc : List (List Int)} {e : List Int} (h : acc.Pairwise fun a b => lexLt a b = true) (hne : ∀ a ∈ acc, a ≠ e) : (insE acc e).Pairwise fun a b => lexLt a b = true := by
  have hp := insPos_le acc e acc.length
  have hi := insPos_hi acc e acc.length
  have lo := insPos_lo acc e acc.length
  unfold insE insAt
  generalize insPos acc e acc.length = p at hp hi lo
  have t2 : ∀ a ∈ acc.drop p, lexLt e a = true := fun a ha => by
    obtain ⟨j, hj, rfl⟩ := List.mem_iff_getElem.1 ha
    simp only [List.length_drop] at hj
    simp only [List.getElem_drop]
    have := hi (p + j) (by omega) (by omega)
    rwa [getD_at (by omega)] at this
  have t1 : ∀ a ∈ acc.take p, lexLt a e = true := fun a ha => by
    obtain ⟨j, hj, rfl⟩ := List.mem_iff_getElem.1 ha
    simp only [List.length_take] at hj
    simp only [List.getElem_take]
    have h0 := lo (by omega)
    rw [getD_at (by omega)] at h0
    have h1 := lex_tri e acc[p - 1] (fun he => hne _ (List.getElem_mem _) he.symm) h0
    rcases Nat.lt_or_ge j (p - 1) with h3 | h3
    · exact lex_trans _ _ _ (List.pairwise_iff_getElem.1 h j (p - 1) (by omega) (by omega) h3) h1
    · obtain rfl : j = p - 1 := by omega
      exact h1
  rw [List.pairwise_append, List.pairwise_cons]
  refine ⟨h.sublist (List.take_sublist _ _), ⟨t2, h.sublist (List.drop_sublist _ _)⟩, fun a ha b hb => ?_⟩
  rcases List.mem_cons.1 hb with rfl | hb
  · exact t1 a ha
  · exact lex_trans _ _ _ (t1 a ha) (t2 b hb)
theorem edges_inv {l : List (List Int)} : ∀ {i : Nat}, i ≤ l.length → ((edgesTo l i).Pairwise fun a b => lexLt a b = true) ∧ ∀ e ∈ edgesTo l i, ∃ j, j < i ∧ keepE l j = true ∧ e = eAt l j
  | 0, _ => by simp [edgesTo]
  | i + 1, hi => by
    obtain ⟨h1, h2⟩ := edges_inv (l := l) (i := i) (by omega)
    simp only [edgesTo]
    split
    · rename_i hk
      refine ⟨ins_lex h1 (fun a ha he => ?_), fun e he => ?_⟩
      · obtain ⟨j, hj, _, rfl⟩ := h2 a ha
        have := keepTo_at hk j (by omega)
        have hw : within (eAt l j) (eAt l i) = true := by rw [he]; exact within_iff.2 fun x hx => hx
        simp [dropE, hw, hj] at this
      · rcases insE_mem he with rfl | he
        · exact ⟨i, by omega, hk, rfl⟩
        · obtain ⟨j, hj, hk', rfl⟩ := h2 e he
          exact ⟨j, by omega, hk', rfl⟩
    · exact ⟨h1, fun e he => by obtain ⟨j, hj, hk', rfl⟩ := h2 e he; exact ⟨j, by omega, hk', rfl⟩⟩
theorem hyp_hyp (n : Int) (cs : List Int) : Hyp (hypV n) (hypE n cs) := by
  have hv : (hypV n).Pairwise (· < ·) := vsTo_asc _
  have hnd := asc_nodup (hypV_asc n)
  obtain ⟨i1, i2⟩ := edges_inv (l := lsTo (hypV n) cs (min cs.length 12)) (Nat.le_refl _)
  have i1 : (hypE n cs).Pairwise fun a b => lexLt a b = true := i1
  refine ⟨hv, fun e he => (hypE_mem he).2.1, fun e he => hv.sublist (hypE_mem he).1, fun e he x hx => (hypE_mem he).1.subset hx, i1, ?_⟩
  have key : ∀ a ∈ hypE n cs, ∀ b ∈ hypE n cs, a ≠ b → ¬ ∀ x ∈ a, x ∈ b := fun a ha b hb hab hsub => by
    obtain ⟨j, hj, hkj, ea⟩ := i2 a ha
    obtain ⟨k, hk, hkk, eb⟩ := i2 b hb
    have := keepTo_at hkk j hj
    have hw : within (eAt (lsTo (hypV n) cs (min cs.length 12)) j) (eAt (lsTo (hypV n) cs (min cs.length 12)) k) = true := by rw [← ea, ← eb]; exact within_iff.2 hsub
    unfold dropE at this
    rw [hw, ← ea, ← eb, Bool.true_and, Bool.or_eq_false_iff, decide_eq_false_iff_not] at this
    have hle := this.1
    exact hab (sub_eq (hypE_mem ha).1 (hypE_mem hb).1 hnd hsub (by omega))
  rw [List.pairwise_iff_getElem] at i1 ⊢
  intro a b ha hb hab
  have hlt := i1 a b ha hb hab
  have hne : (hypE n cs)[a] ≠ (hypE n cs)[b] := fun e => by rw [e, lex_irr] at hlt; cases hlt
  exact ⟨key _ (List.getElem_mem ha) _ (List.getElem_mem hb) hne, key _ (List.getElem_mem hb) _ (List.getElem_mem ha) (Ne.symm hne)⟩
theorem Hyp.without {vs : List Int} {es : List (List Int)} (h : Hyp vs es) (ids : List Int) : Hyp (woV vs ids) (woE es ids) := by
  have hm : ∀ e ∈ woE es ids, e ∈ es ∧ (e.any fun v => memB ids v) = false := fun e he => by
    unfold woE at he
    rw [List.mem_filter] at he
    exact ⟨he.1, by simpa using he.2⟩
  refine ⟨h.va.sublist List.filter_sublist, fun e he => h.ne e (hm e he).1, fun e he => h.ea e (hm e he).1, fun e he x hx => ?_, h.lex.sublist List.filter_sublist, h.min.sublist List.filter_sublist⟩
  unfold woV
  rw [List.mem_filter]
  refine ⟨h.sub e (hm e he).1 x hx, ?_⟩
  have := (hm e he).2
  rw [List.any_eq_false] at this
  simpa using this x hx
theorem part_V (vs ids : List Int) : partV vs (woV vs ids) = woV vs ids := by
  unfold partV
  rw [show woV vs ids = vs.filter fun v => !memB ids v from rfl]
  refine List.filter_congr fun v hv => ?_
  rw [Bool.eq_iff_iff, memB_iff, List.mem_filter]
  simp [hv]
theorem part_E {vs : List Int} {es : List (List Int)} (h : Hyp vs es) (ids : List Int) : partE es (woV vs ids) = woE es ids := by
  unfold partE woE
  refine List.filter_congr fun e he => ?_
  rw [Bool.eq_iff_iff, within_iff]
  simp only [Bool.not_eq_true', List.any_eq_false]
  unfold woV
  constructor
  · intro hh x hx
    have := (List.mem_filter.1 (hh x hx)).2
    simpa using this
  · intro hh x hx
    exact List.mem_filter.2 ⟨h.sub e he x hx, by simpa using hh x hx⟩
theorem mem_snoc (a : List Int) (b x : Int) : memB (a ++ [b]) x = (memB a x || memB [b] x) := by
  rw [Bool.eq_iff_iff, memB_iff, Bool.or_eq_true, memB_iff, memB_iff]; simp
theorem wo_V (vs a : List Int) (x : Int) : woV (woV vs a) [x] = woV vs (a ++ [x]) := by
  unfold woV
  rw [List.filter_filter]
  refine List.filter_congr fun v _ => ?_
  rw [mem_snoc, Bool.not_or, Bool.and_comm]
theorem wo_E (es : List (List Int)) (a : List Int) (x : Int) : woE (woE es a) [x] = woE es (a ++ [x]) := by
  unfold woE
  rw [List.filter_filter]
  refine List.filter_congr fun e _ => ?_
  rw [← Bool.not_or]
  congr 1
  rw [Bool.eq_iff_iff]
  simp only [Bool.or_eq_true, List.any_eq_true, mem_snoc]
  constructor
  · rintro (⟨v, h1, h2⟩ | ⟨v, h1, h2⟩)
    · exact ⟨v, h1, .inr h2⟩
    · exact ⟨v, h1, .inl h2⟩
  · rintro ⟨v, h1, h2 | h2⟩
    · exact .inr ⟨v, h1, h2⟩
    · exact .inl ⟨v, h1, h2⟩
theorem woE_len' (es : List (List Int)) (l : List Int) : (woE es l).length ≤ es.length := List.length_filter_le _ _
theorem wo_small {vs : List Int} {es : List (List Int)} (h : Small vs es) (ids : List Int) : Small (woV vs ids) (woE es ids) :=
  ⟨Nat.le_trans (woV_len' vs ids) h.1, Nat.le_trans (woE_len' es ids) h.2.1, fun e he => h.2.2 e (List.mem_filter.1 he).1⟩
theorem wo_nil (vs : List Int) (es : List (List Int)) : woV vs [] = vs ∧ woE es [] = es := by
  constructor
  · unfold woV; rw [List.filter_eq_self]; intro a _; rfl
  · unfold woE; rw [List.filter_eq_self]; intro a _; simp [memB]
end Go.Proofs.YtfaleabndlcanaaGreatDoor
