/- Plain3: right packings of bad triangles: the two checks agree, the sum of a right packing is at most the cost of every clustering, Bound's packing is right and full. No walk in here. -/
import Derived.Test.YtmjicfafjjgekaaW14
import Derived.Test.YtmjicfafjjgekaaPlain2
namespace Go.Proofs.Ytmjicfafjjgekaa
open Go.Dr

/-- Bad, as the reference asks it. -/
def badW (a b c : Int) : Bool := (decide (0 < a) && decide (0 < b) && decide (c < 0)) || (decide (0 < a) && decide (b < 0) && decide (0 < c)) || (decide (a < 0) && decide (0 < b) && decide (0 < c))
def rbad (ps : List P3) (i j k : Int) : Bool := (weight ps i j).isSome && (weight ps i k).isSome && (weight ps j k).isSome && badW ((weight ps i j).getD 0) ((weight ps i k).getD 0) ((weight ps j k).getD 0)
def inT (t : T4) (v : Int) : Bool := t.i == v || t.j == v || t.k == v
def onT (t : T4) (p : P3) : Bool := inT t p.i && inT t p.k
def loadT (p : P3) (ts : List T4) : Int := (ts.map fun t => if onT t p then t.a else 0).sum
def roomP (p : P3) (ts : List T4) : Int := absI p.x - loadT p ts
def tOk (ps : List P3) (t : T4) : Bool := decide (1 ≤ t.a) && decide (t.a ≤ 1000) && decide (t.i < t.j) && decide (t.j < t.k) && rbad ps t.i t.j t.k
def sumT (ts : List T4) : Int := (ts.map (·.a)).sum
def rcheckB (ps : List P3) (ts : List T4) : Bool := ts.all (tOk ps) && ps.all fun p => decide (0 ≤ roomP p ts)
def rcheck (n : Int) (ps : List P3) (ts : List T4) : Int × Bool := if valid n ps = 0 ∧ rcheckB ps ts = true then (sumT ts, true) else (0, false)

theorem badW_badB (a b c : Int) : badW a b c = badB a b c := by
  unfold badW badB posN negN
  by_cases a1 : 0 < a <;> by_cases a2 : a < 0 <;> by_cases b1 : 0 < b <;> by_cases b2 : b < 0 <;> by_cases c1 : 0 < c <;> by_cases c2 : c < 0 <;> simp [a1, a2, b1, b2, c1, c2] <;> omega
theorem badW_ne {a b c : Int} (h : badW a b c = true) : a ≠ 0 ∧ b ≠ 0 ∧ c ≠ 0 := by
  simp only [badW, Bool.or_eq_true, Bool.and_eq_true, decide_eq_true_eq] at h; omega
theorem weight_mem {ps : List P3} {i k x : Int} (h : weight ps i k = some x) : ∃ p ∈ ps, p.i = i ∧ p.k = k ∧ p.x = x := by
  induction ps with
  | nil => simp [weight] at h
  | cons p r ih =>
    simp only [weight] at h
    split at h
    · rename_i hc; cases h; exact ⟨p, List.mem_cons_self, hc.1, hc.2, rfl⟩
    · obtain ⟨q, hq, r⟩ := ih h; exact ⟨q, List.mem_cons_of_mem _ hq, r⟩
theorem weight_of_mem {ps : List P3} (hn : (ps.map key).Nodup) {p : P3} (hp : p ∈ ps) : weight ps p.i p.k = some p.x := by
  induction ps with
  | nil => simp at hp
  | cons q r ih =>
    simp only [List.map_cons, List.nodup_cons] at hn
    simp only [weight]
    rcases List.mem_cons.1 hp with rfl | hp
    · simp
    · rw [if_neg]
      · exact ih hn.2 hp
      · rintro ⟨h1, h2⟩
        exact hn.1 (List.mem_map.2 ⟨p, hp, by simp [key, h1, h2]⟩)

/-- What rbad says, in a good list: the three pairs are there, in range. -/
structure Bad3 (n : Nat) (ps : List P3) (i j k : Int) where
  p : P3
  q : P3
  r : P3
  hp : p ∈ ps
  hq : q ∈ ps
  hr : r ∈ ps
  pi : p.i = i
  pk : p.k = j
  qi : q.i = i
  qk : q.k = k
  ri : r.i = j
  rk : r.k = k
  bad : badW p.x q.x r.x = true
theorem bad3_of {n : Nat} {ps : List P3} {i j k : Int} (h : rbad ps i j k = true) : Nonempty (Bad3 n ps i j k) := by
  simp only [rbad, Bool.and_eq_true, Option.isSome_iff_exists] at h
  obtain ⟨⟨⟨⟨a, ha⟩, ⟨b, hb⟩⟩, ⟨c, hc⟩⟩, hbad⟩ := h
  rw [ha, hb, hc] at hbad
  obtain ⟨p, hp, h1, h2, rfl⟩ := weight_mem ha
  obtain ⟨q, hq, h3, h4, rfl⟩ := weight_mem hb
  obtain ⟨r, hr, h5, h6, rfl⟩ := weight_mem hc
  exact ⟨⟨p, q, r, hp, hq, hr, h1, h2, h3, h4, h5, h6, hbad⟩⟩
theorem rbad_range {n : Nat} {ps : List P3} (hg : good n ps = true) {i j k : Int} (h : rbad ps i j k = true) : 0 ≤ i ∧ i < j ∧ j < k ∧ k < n := by
  obtain ⟨b⟩ := bad3_of (n := n) h
  have h1 := good_all hg _ b.hp
  have h2 := good_all hg _ b.hr
  simp only [okP, decide_eq_true_eq] at h1 h2
  rw [b.pi, b.pk] at h1
  rw [b.ri, b.rk] at h2
  omega
/-- The reference's question and the matrix' one are the same. -/
theorem rbad_mat {n : Nat} {ps : List P3} (hg : good n ps = true) (i j k : Nat) (hij : i < j) (hjk : j < k) : rbad ps i j k = badB (matOf ps i j) (matOf ps i k) (matOf ps j k) := by
  rw [matOf_weight hg i j hij, matOf_weight hg i k (by omega), matOf_weight hg j k hjk]
  unfold rbad wOf
  rw [← badW_badB]
  cases hb : badW ((weight ps (i : Int) (j : Int)).getD 0) ((weight ps (i : Int) (k : Int)).getD 0) ((weight ps (j : Int) (k : Int)).getD 0)
  · simp
  · have hne := badW_ne hb
    have some_of : ∀ {o : Option Int}, o.getD 0 ≠ 0 → o.isSome = true := fun {o} h => by cases o <;> simp_all
    rw [some_of hne.1, some_of hne.2.1, some_of hne.2.2]
    rfl

/-! Weak duality. -/
def viol (xs : List Int) (p : P3) : Bool := (decide (0 < p.x) && !(lab xs p.i == lab xs p.k)) || (decide (p.x < 0) && (lab xs p.i == lab xs p.k))
theorem costOne_viol (xs : List Int) (p : P3) : costOne xs p = if viol xs p then absI p.x else 0 := by
  unfold costOne viol price absI
  cases h : (lab xs p.i == lab xs p.k) <;> simp <;> (repeat' split) <;> omega
theorem bad_viol {n : Nat} {ps : List P3} {i j k : Int} (xs : List Int) (b : Bad3 n ps i j k) : viol xs b.p = true ∨ viol xs b.q = true ∨ viol xs b.r = true := by
  have h := b.bad
  simp only [badW, Bool.or_eq_true, Bool.and_eq_true, decide_eq_true_eq] at h
  simp only [viol, b.pi, b.pk, b.qi, b.qk, b.ri, b.rk, Bool.or_eq_true, Bool.and_eq_true, decide_eq_true_eq, Bool.not_eq_true', beq_eq_false_iff_ne, beq_iff_eq, ne_eq]
  by_cases e1 : lab xs i = lab xs j <;> by_cases e2 : lab xs i = lab xs k <;> by_cases e3 : lab xs j = lab xs k <;> simp only [e1, e2, e3, not_true_eq_false, not_false_eq_true, and_true, and_false, or_false, false_or] <;> first | omega | (simp_all; done) | skip
def violLoad (xs : List Int) (ts : List T4) (p : P3) : Int := if viol xs p then loadT p ts else 0
theorem loadT_cons (p : P3) (t : T4) (ts : List T4) : loadT p (t :: ts) = (if onT t p then t.a else 0) + loadT p ts := by simp [loadT]
theorem sum_le_sum {α : Type} (l : List α) (f g : α → Int) (h : ∀ a ∈ l, f a ≤ g a) : (l.map f).sum ≤ (l.map g).sum := by
  induction l with
  | nil => simp
  | cons a l ih =>
    have h1 := h a List.mem_cons_self
    have h2 := ih (fun b hb => h b (List.mem_cons_of_mem _ hb))
    simp only [List.map_cons, List.sum_cons]; omega
theorem sum_add {α : Type} (l : List α) (f g : α → Int) : (l.map fun a => f a + g a).sum = (l.map f).sum + (l.map g).sum := by
  induction l with
  | nil => simp
  | cons a l ih => simp only [List.map_cons, List.sum_cons, ih]; omega
theorem one_le_sum {α : Type} (l : List α) (f : α → Int) (h : ∀ a ∈ l, 0 ≤ f a) {a : α} (ha : a ∈ l) : f a ≤ (l.map f).sum := by
  induction l with
  | nil => simp at ha
  | cons b l ih =>
    have h1 := h b List.mem_cons_self
    have h0 : 0 ≤ (l.map f).sum := by
      have := sum_le_sum l (fun _ => 0) f (fun c hc => h c (List.mem_cons_of_mem _ hc))
      have e : (l.map fun _ => (0 : Int)).sum = 0 := by clear this ih ha h1 h; induction l <;> simp_all
      omega
    simp only [List.map_cons, List.sum_cons]
    rcases List.mem_cons.1 ha with rfl | ha
    · omega
    · have := ih (fun c hc => h c (List.mem_cons_of_mem _ hc)) ha; omega
theorem onT_of {t : T4} {p : P3} (hi : p.i = t.i ∨ p.i = t.j ∨ p.i = t.k) (hk : p.k = t.i ∨ p.k = t.j ∨ p.k = t.k) : onT t p = true := by
  simp only [onT, inT, Bool.and_eq_true, Bool.or_eq_true, beq_iff_eq]
  constructor
  · rcases hi with h | h | h <;> simp [h]
  · rcases hk with h | h | h <;> simp [h]
theorem sumT_le_load {ps : List P3} (xs : List Int) : ∀ ts : List T4, (∀ t ∈ ts, tOk ps t = true) → sumT ts ≤ (ps.map (violLoad xs ts)).sum
  | [], _ => by
    simp only [sumT, List.map_nil, List.sum_nil]
    have e : ∀ l : List P3, (l.map (violLoad xs [])).sum = 0 := fun l => by
      induction l with
      | nil => rfl
      | cons p l ih => simp only [List.map_cons, List.sum_cons, ih]; simp [violLoad, loadT]
    rw [e]; omega
  | t :: ts, h => by
    have ih := sumT_le_load xs ts (fun u hu => h u (List.mem_cons_of_mem _ hu))
    have ht := h t List.mem_cons_self
    simp only [tOk, Bool.and_eq_true, decide_eq_true_eq] at ht
    obtain ⟨b⟩ := bad3_of (n := 0) ht.2
    have e : (ps.map (violLoad xs (t :: ts))).sum = (ps.map fun p => if viol xs p && onT t p then t.a else 0).sum + (ps.map (violLoad xs ts)).sum := by
      rw [← sum_add]
      congr 1
      apply List.map_congr_left
      intro p _
      unfold violLoad
      rw [loadT_cons]
      cases viol xs p <;> simp
    have pos : ∀ p ∈ ps, 0 ≤ (if (viol xs p && onT t p) = true then t.a else 0) := fun p _ => by split <;> omega
    have hone : t.a ≤ (ps.map fun p => if viol xs p && onT t p then t.a else 0).sum := by
      rcases bad_viol xs b with hv | hv | hv
      · have := one_le_sum ps _ pos b.hp
        rwa [hv, onT_of (by simp [b.pi]) (by simp [b.pk])] at this
      · have := one_le_sum ps _ pos b.hq
        rwa [hv, onT_of (by simp [b.qi]) (by simp [b.qk])] at this
      · have := one_le_sum ps _ pos b.hr
        rwa [hv, onT_of (by simp [b.ri]) (by simp [b.rk])] at this
    rw [e]
    simp only [sumT, List.map_cons, List.sum_cons] at ih ⊢
    omega
/-- The sum of a right packing is at most the cost of every clustering. -/
theorem weak_duality {ps : List P3} {ts : List T4} (h : rcheckB ps ts = true) (xs : List Int) : sumT ts ≤ costOf ps xs := by
  simp only [rcheckB, Bool.and_eq_true, List.all_eq_true, decide_eq_true_eq] at h
  refine Int.le_trans (sumT_le_load xs ts h.1) ?_
  refine sum_le_sum ps _ _ (fun p hp => ?_)
  rw [costOne_viol]
  unfold violLoad
  have := h.2 p hp
  unfold roomP at this
  split <;> omega

/-! cluster.Check: one triangle after the other. -/
def leftOf (f : Nat → Nat → Int) (ts : List T4) : Nat → Nat → Int := ts.foldl (fun h t => chargeF h t.i.toNat t.j.toNat t.k.toNat t.a) (fun i j => absI (f i j))
def cstepOk (n : Nat) (f h : Nat → Nat → Int) (t : T4) : Bool := decide (0 ≤ t.i) && decide (t.i < t.j) && decide (t.j < t.k) && decide (t.k < n) && badB (f t.i.toNat t.j.toNat) (f t.i.toNat t.k.toNat) (f t.j.toNat t.k.toNat) && decide (1 ≤ t.a) &&
  decide (t.a ≤ min3 (h t.i.toNat t.j.toNat) (h t.i.toNat t.k.toNat) (h t.j.toNat t.k.toNat))
def CAll (n : Nat) (f : Nat → Nat → Int) (ts : List T4) : Prop := ∀ r t, ts[r]? = some t → cstepOk n f (leftOf f (ts.take r)) t = true
/-- Whether (x, y) is a side of a triangle. -/
def onE (t : T4) (x y : Nat) : Bool := decide ((x = t.i.toNat ∧ y = t.j.toNat) ∨ (x = t.i.toNat ∧ y = t.k.toNat) ∨ (x = t.j.toNat ∧ y = t.k.toNat))
def loadE (x y : Nat) (ts : List T4) : Int := (ts.map fun t => if onE t x y then t.a else 0).sum
def Asc (t : T4) : Prop := 0 ≤ t.i ∧ t.i < t.j ∧ t.j < t.k
theorem foldl_left (x y : Nat) : ∀ (ts : List T4) (h : Nat → Nat → Int), (∀ t ∈ ts, Asc t) → (ts.foldl (fun h t => chargeF h t.i.toNat t.j.toNat t.k.toNat t.a) h) x y = h x y - loadE x y ts
  | [], h, _ => by simp [loadE]
  | t :: ts, h, ha => by
    have ht := ha t List.mem_cons_self
    unfold Asc at ht
    rw [List.foldl_cons, foldl_left x y ts _ (fun u hu => ha u (List.mem_cons_of_mem _ hu)), charge_at (by omega) (by omega)]
    simp only [loadE, List.map_cons, List.sum_cons]
    split
    · rename_i e; have e' : onE t x y = true := by simpa [onE] using e
      rw [e']; simp only [if_true]; omega
    · rename_i e; have e' : onE t x y = false := by rw [onE, decide_eq_false_iff_not]; exact e
      rw [e']; simp
theorem left_eq (f : Nat → Nat → Int) (ts : List T4) (ha : ∀ t ∈ ts, Asc t) (x y : Nat) : leftOf f ts x y = absI (f x y) - loadE x y ts := foldl_left x y ts _ ha
theorem loadE_snoc (x y : Nat) (ts : List T4) (t : T4) : loadE x y (ts ++ [t]) = loadE x y ts + if onE t x y then t.a else 0 := by simp [loadE]
theorem loadE_nonneg (x y : Nat) (ts : List T4) (h : ∀ t ∈ ts, 0 ≤ t.a) : 0 ≤ loadE x y ts := by
  induction ts with
  | nil => simp [loadE]
  | cons t ts ih =>
    have h1 := ih (fun u hu => h u (List.mem_cons_of_mem _ hu))
    have h2 := h t List.mem_cons_self
    simp only [loadE, List.map_cons, List.sum_cons] at h1 ⊢
    split <;> omega
theorem loadE_take (x y : Nat) (ts : List T4) (h : ∀ t ∈ ts, 0 ≤ t.a) (r : Nat) : loadE x y (ts.take r) ≤ loadE x y ts := by
  have e : loadE x y ts = loadE x y (ts.take r) + loadE x y (ts.drop r) := by
    unfold loadE
    rw [← List.sum_append, ← List.map_append, List.take_append_drop]
  have := loadE_nonneg x y (ts.drop r) (fun t ht => h t (List.mem_of_mem_drop ht))
  omega
theorem load_edge {t : T4} {p : P3} (ht : Asc t) (h0 : 0 ≤ p.i) (hp : p.i < p.k) : onT t p = onE t p.i.toNat p.k.toNat := by
  unfold Asc at ht
  rw [Bool.eq_iff_iff]
  simp only [onT, inT, onE, Bool.and_eq_true, Bool.or_eq_true, beq_iff_eq, decide_eq_true_eq]
  omega
theorem load_eq {p : P3} (h0 : 0 ≤ p.i) (hp : p.i < p.k) (ts : List T4) (ha : ∀ t ∈ ts, Asc t) : loadT p ts = loadE p.i.toNat p.k.toNat ts := by
  unfold loadT loadE
  congr 1
  apply List.map_congr_left
  intro t ht
  rw [load_edge (ha t ht) h0 hp]
theorem absI_le {x : Int} (h0 : -1000 ≤ x) (h1 : x ≤ 1000) : 0 ≤ absI x ∧ absI x ≤ 1000 := by unfold absI; split <;> omega
theorem mat_pair {n : Nat} {ps : List P3} (hg : good n ps = true) {p : P3} (hp : p ∈ ps) : 0 ≤ p.i ∧ p.i < p.k ∧ p.k < n ∧ matOf ps p.i.toNat p.k.toNat = p.x := by
  have h := good_all hg p hp
  simp only [okP, decide_eq_true_eq] at h
  refine ⟨h.1, h.2.1, h.2.2.1, ?_⟩
  rw [matOf_weight hg _ _ (by omega), wOf, Int.toNat_of_nonneg h.1, Int.toNat_of_nonneg (by omega), weight_of_mem (good_nodup hg) hp]
  rfl
theorem snoc_le {f : Nat → Nat → Int} {t : T4} (x y : Nat) {L : Int} (h1 : L ≤ absI (f x y)) (hm : onE t x y = true → t.a ≤ absI (f x y) - L) : L + (if onE t x y then t.a else 0) ≤ absI (f x y) := by
  cases h : onE t x y
  · simpa using h1
  · have := hm h; simp only [if_true]; omega
theorem cAll_asc {n : Nat} {f : Nat → Nat → Int} {ts : List T4} (h : CAll n f ts) : ∀ t ∈ ts, Asc t ∧ 1 ≤ t.a ∧ t.k < n ∧ badB (f t.i.toNat t.j.toNat) (f t.i.toNat t.k.toNat) (f t.j.toNat t.k.toNat) = true := by
  intro t ht
  obtain ⟨r, hr⟩ := List.getElem?_of_mem ht
  have := h r t hr
  simp only [cstepOk, Bool.and_eq_true, decide_eq_true_eq] at this
  exact ⟨⟨this.1.1.1.1.1.1, this.1.1.1.1.1.2, this.1.1.1.1.2⟩, this.1.2, this.1.1.1.2, this.1.1.2⟩
theorem mem_take {ts : List T4} {r : Nat} {P : T4 → Prop} (h : ∀ t ∈ ts, P t) : ∀ t ∈ ts.take r, P t := fun t ht => h t (List.mem_of_mem_take ht)
/-- No side is ever charged beyond its weight. -/
theorem cAll_load {n : Nat} {f : Nat → Nat → Int} {ts : List T4} (h : CAll n f ts) (x y : Nat) (hf : 0 ≤ absI (f x y)) : ∀ r, r ≤ ts.length → loadE x y (ts.take r) ≤ absI (f x y)
  | 0, _ => by simpa [loadE] using hf
  | r + 1, hr => by
    have ih := cAll_load h x y hf r (by omega)
    have hx : ts[r]? = some ts[r] := List.getElem?_eq_getElem (by omega)
    generalize ts[r] = t at hx
    have hs := h r t hx
    have hasc := fun t ht => (cAll_asc h t ht).1
    rw [take_snoc hx, loadE_snoc]
    refine snoc_le x y ih (fun ho => ?_)
    simp only [cstepOk, Bool.and_eq_true, decide_eq_true_eq, left_eq f _ (mem_take hasc)] at hs
    have hm := min3_le (absI (f t.i.toNat t.j.toNat) - loadE t.i.toNat t.j.toNat (ts.take r)) (absI (f t.i.toNat t.k.toNat) - loadE t.i.toNat t.k.toNat (ts.take r)) (absI (f t.j.toNat t.k.toNat) - loadE t.j.toNat t.k.toNat (ts.take r))
    simp only [onE, decide_eq_true_eq] at ho
    rcases ho with ⟨rfl, rfl⟩ | ⟨rfl, rfl⟩ | ⟨rfl, rfl⟩ <;> omega
theorem le_min3 {a x y z : Int} (h1 : a ≤ x) (h2 : a ≤ y) (h3 : a ≤ z) : a ≤ min3 x y z := by unfold min3; omega
theorem check_agree {n : Nat} {ps : List P3} (hg : good n ps = true) (ts : List T4) : CAll n (matOf ps) ts ↔ rcheckB ps ts = true := by
  have hbd := fun x y => absI_le (matOf_bd (good_all hg) x y).1 (matOf_bd (good_all hg) x y).2
  constructor
  · intro h
    have hasc := cAll_asc h
    have ha : ∀ t ∈ ts, Asc t := fun t ht => (hasc t ht).1
    simp only [rcheckB, Bool.and_eq_true, List.all_eq_true, decide_eq_true_eq]
    refine ⟨fun t ht => ?_, fun p hp => ?_⟩
    · obtain ⟨hA, h1, h2, h3⟩ := hasc t ht
      obtain ⟨r, hr⟩ := List.getElem?_of_mem ht
      have hs := h r t hr
      simp only [cstepOk, Bool.and_eq_true, decide_eq_true_eq, left_eq (matOf ps) _ (mem_take ha)] at hs
      have hm := min3_le (absI (matOf ps t.i.toNat t.j.toNat) - loadE t.i.toNat t.j.toNat (ts.take r)) (absI (matOf ps t.i.toNat t.k.toNat) - loadE t.i.toNat t.k.toNat (ts.take r)) (absI (matOf ps t.j.toNat t.k.toNat) - loadE t.j.toNat t.k.toNat (ts.take r))
      have hl := loadE_nonneg t.i.toNat t.j.toNat (ts.take r) (fun u hu => by have := (hasc u (List.mem_of_mem_take hu)).2.1; omega)
      have hb := hbd t.i.toNat t.j.toNat
      unfold Asc at hA
      have hrb := rbad_mat hg t.i.toNat t.j.toNat t.k.toNat (by omega) (by omega)
      rw [Int.toNat_of_nonneg hA.1, Int.toNat_of_nonneg (by omega), Int.toNat_of_nonneg (by omega), h3] at hrb
      simp only [tOk, Bool.and_eq_true, decide_eq_true_eq]
      exact ⟨⟨⟨⟨h1, by omega⟩, hA.2.1⟩, hA.2.2⟩, hrb⟩
    · obtain ⟨h0, h1, h2, h3⟩ := mat_pair hg hp
      have hl := cAll_load h p.i.toNat p.k.toNat (hbd _ _).1 ts.length (Nat.le_refl _)
      rw [List.take_length, h3] at hl
      unfold roomP
      rw [load_eq h0 h1 ts ha]
      omega
  · intro h
    simp only [rcheckB, Bool.and_eq_true, List.all_eq_true, decide_eq_true_eq] at h
    obtain ⟨h1, h2⟩ := h
    have hok : ∀ t ∈ ts, Asc t ∧ 1 ≤ t.a ∧ t.k < n ∧ rbad ps t.i t.j t.k = true := fun t ht => by
      have := h1 t ht
      simp only [tOk, Bool.and_eq_true, decide_eq_true_eq] at this
      have hr := rbad_range hg this.2
      exact ⟨⟨hr.1, hr.2.1, hr.2.2.1⟩, this.1.1.1.1, hr.2.2.2, this.2⟩
    have ha : ∀ t ∈ ts, Asc t := fun t ht => (hok t ht).1
    intro r t hr
    have ht : t ∈ ts := List.mem_of_getElem? hr
    obtain ⟨hA, g1, g2, g3⟩ := hok t ht
    have hA' := hA
    unfold Asc at hA
    have hrb := rbad_mat hg t.i.toNat t.j.toNat t.k.toNat (by omega) (by omega)
    rw [Int.toNat_of_nonneg hA.1, Int.toNat_of_nonneg (by omega), Int.toNat_of_nonneg (by omega), g3] at hrb
    have side : ∀ p ∈ ps, onT t p = true → t.a ≤ absI (matOf ps p.i.toNat p.k.toNat) - loadE p.i.toNat p.k.toNat (ts.take r) := fun p hp ho => by
      obtain ⟨e0, e1, e2, e3⟩ := mat_pair hg hp
      have hroom := h2 p hp
      unfold roomP at hroom
      rw [load_eq e0 e1 ts ha] at hroom
      have hle := loadE_take p.i.toNat p.k.toNat ts (fun u hu => by have := (hok u hu).2.1; omega) (r + 1)
      rw [take_snoc hr, loadE_snoc, ← load_edge hA' e0 e1, ho] at hle
      rw [e3]
      simp only [if_true] at hle
      omega
    obtain ⟨b⟩ := bad3_of (n := n) g3
    have s1 := side _ b.hp (onT_of (by simp [b.pi]) (by simp [b.pk]))
    have s2 := side _ b.hq (onT_of (by simp [b.qi]) (by simp [b.qk]))
    have s3 := side _ b.hr (onT_of (by simp [b.ri]) (by simp [b.rk]))
    rw [b.pi, b.pk] at s1
    rw [b.qi, b.qk] at s2
    rw [b.ri, b.rk] at s3
    simp only [cstepOk, Bool.and_eq_true, decide_eq_true_eq, left_eq (matOf ps) _ (mem_take ha)]
    exact ⟨⟨⟨⟨⟨⟨hA.1, hA.2.1⟩, hA.2.2⟩, g2⟩, hrb.symm⟩, g1⟩, le_min3 s1 s2 s3⟩

/-! Bound. -/
structure BInv (n : Nat) (f : Nat → Nat → Int) (s : BSt) : Prop where
  ts : ∀ t ∈ s.out, Asc t ∧ 1 ≤ t.a ∧ t.k < n ∧ badB (f t.i.toNat t.j.toNat) (f t.i.toNat t.k.toNat) (f t.j.toNat t.k.toNat) = true
  all : CAll n f s.out
  left : ∀ x y, s.left x y = leftOf f s.out x y
  sum : s.sum = sumT s.out
def Lower (s s' : BSt) : Prop := ∀ x y, s'.left x y ≤ s.left x y
def Done (f : Nat → Nat → Int) (s : BSt) (i j k : Nat) : Prop := badB (f i j) (f i k) (f j k) = false ∨ min3 (s.left i j) (s.left i k) (s.left j k) ≤ 0
theorem Lower.refl (s : BSt) : Lower s s := fun _ _ => Int.le_refl _
theorem Lower.trans {a b c : BSt} (h1 : Lower a b) (h2 : Lower b c) : Lower a c := fun x y => Int.le_trans (h2 x y) (h1 x y)
theorem Done.lower {f : Nat → Nat → Int} {s s' : BSt} {i j k : Nat} (h : Done f s i j k) (hl : Lower s s') : Done f s' i j k := by
  rcases h with h | h
  · exact .inl h
  · right
    have h1 := hl i j; have h2 := hl i k; have h3 := hl j k
    unfold min3 at h ⊢
    omega
theorem sumT_snoc (ts : List T4) (t : T4) : sumT (ts ++ [t]) = sumT ts + t.a := by simp [sumT]
theorem cAll_snoc {n : Nat} {f : Nat → Nat → Int} {ts : List T4} {t : T4} (h : CAll n f ts) (ht : cstepOk n f (leftOf f ts) t = true) : CAll n f (ts ++ [t]) := by
  intro r u hu
  by_cases hr : r < ts.length
  · rw [List.getElem?_append_left hr] at hu
    rw [List.take_append_of_le_length (by omega)]
    exact h r u hu
  · have hl := (List.getElem?_eq_some_iff.1 hu).1
    simp at hl
    obtain rfl : r = ts.length := by omega
    rw [List.getElem?_append_right (by omega)] at hu
    simp at hu
    subst hu
    rw [List.take_left']
    · exact ht
    · rfl
theorem bStep_inv {n : Nat} {f : Nat → Nat → Int} {s : BSt} {i j k : Nat} (h : BInv n f s) (hij : i < j) (hjk : j < k) (hk : k < n) : BInv n f (bStep f i j k s) ∧ Lower s (bStep f i j k s) ∧ Done f (bStep f i j k s) i j k := by
  unfold bStep
  split
  · rename_i hc
    simp only [Bool.and_eq_true, decide_eq_true_eq] at hc
    obtain ⟨a, ha⟩ : ∃ a, a = min3 (s.left i j) (s.left i k) (s.left j k) := ⟨_, rfl⟩
    rw [← ha] at hc ⊢
    have hm := min3_le (s.left i j) (s.left i k) (s.left j k)
    rw [← ha] at hm
    have hA : Asc ⟨i, j, k, a⟩ := ⟨by show (0 : Int) ≤ i; omega, by show (i : Int) < j; omega, by show (j : Int) < k; omega⟩
    have hst : cstepOk n f (leftOf f s.out) ⟨i, j, k, a⟩ = true := by
      simp only [cstepOk, Bool.and_eq_true, decide_eq_true_eq, Int.toNat_natCast, ← h.left]
      exact ⟨⟨⟨⟨⟨⟨by omega, by omega⟩, by omega⟩, by omega⟩, hc.2⟩, by omega⟩, by omega⟩
    have hall := cAll_snoc h.all hst
    refine ⟨⟨cAll_asc hall, hall, fun x y => ?_, ?_⟩, fun x y => ?_, .inr ?_⟩
    · have e := left_eq f s.out (fun t ht => (h.ts t ht).1) x y
      rw [left_eq f _ (fun t ht => (cAll_asc hall t ht).1) x y, loadE_snoc]
      show chargeF s.left i j k a x y = _
      rw [charge_at hij hjk, h.left, e]
      simp only [onE, Int.toNat_natCast, decide_eq_true_eq]
      split <;> omega
    · show s.sum + a = _
      rw [sumT_snoc, h.sum]
    · show chargeF s.left i j k a x y ≤ _
      rw [charge_at hij hjk]; split <;> omega
    · show min3 (chargeF s.left i j k a i j) (chargeF s.left i j k a i k) (chargeF s.left i j k a j k) ≤ 0
      rw [charge_at hij hjk, charge_at hij hjk, charge_at hij hjk]
      simp only [true_and, and_true, true_or, or_true, if_true]
      unfold min3 at ha ⊢
      omega
  · rename_i hc
    refine ⟨h, Lower.refl s, ?_⟩
    cases hb : badB (f i j) (f i k) (f j k)
    · exact .inl hb
    · right
      rw [hb] at hc
      simpa using hc
theorem bK_inv {n : Nat} {f : Nat → Nat → Int} {i j : Nat} (hij : i < j) {s : BSt} (h : BInv n f s) : ∀ c, j + c < n → BInv n f (bK f i j s c) ∧ Lower s (bK f i j s c) ∧ ∀ k, j < k → k ≤ j + c → Done f (bK f i j s c) i j k
  | 0, _ => ⟨h, Lower.refl s, fun k h1 h2 => absurd h1 (by omega)⟩
  | c + 1, hc => by
    obtain ⟨i1, i2, i3⟩ := bK_inv hij h c (by omega)
    obtain ⟨j1, j2, j3⟩ := bStep_inv (k := j + 1 + c) i1 hij (by omega) (by omega)
    refine ⟨j1, i2.trans j2, fun k h1 h2 => ?_⟩
    by_cases hk : k ≤ j + c
    · exact (i3 k h1 hk).lower j2
    · obtain rfl : k = j + 1 + c := by omega
      exact j3
theorem bJ_inv {n : Nat} {f : Nat → Nat → Int} {i : Nat} {s : BSt} (h : BInv n f s) : ∀ c, i + c < n → BInv n f (bJ f n i s c) ∧ Lower s (bJ f n i s c) ∧ ∀ j k, i < j → j ≤ i + c → j < k → k < n → Done f (bJ f n i s c) i j k
  | 0, _ => ⟨h, Lower.refl s, fun j k h1 h2 => absurd h1 (by omega)⟩
  | c + 1, hc => by
    obtain ⟨i1, i2, i3⟩ := bJ_inv (i := i) h c (by omega)
    obtain ⟨j1, j2, j3⟩ := bK_inv (i := i) (j := i + 1 + c) (by omega) i1 (n - (i + 1 + c) - 1) (by omega)
    refine ⟨j1, i2.trans j2, fun j k h1 h2 h3 h4 => ?_⟩
    by_cases hj : j ≤ i + c
    · exact (i3 j k h1 hj h3 h4).lower j2
    · obtain rfl : j = i + 1 + c := by omega
      exact j3 k h3 (by omega)
theorem bI_inv {n : Nat} {f : Nat → Nat → Int} {s : BSt} (h : BInv n f s) : ∀ c, c ≤ n → BInv n f (bI f n s c) ∧ ∀ i j k, i < c → i < j → j < k → k < n → Done f (bI f n s c) i j k
  | 0, _ => ⟨h, fun i j k h1 => absurd h1 (by omega)⟩
  | c + 1, hc => by
    obtain ⟨i1, i3⟩ := bI_inv h c (by omega)
    obtain ⟨j1, j2, j3⟩ := bJ_inv (i := c) i1 (n - c - 1) (by omega)
    refine ⟨j1, fun i j k h1 h2 h3 h4 => ?_⟩
    by_cases hi : i < c
    · exact (i3 i j k hi h2 h3 h4).lower j2
    · obtain rfl : i = c := by omega
      exact j3 j k h2 (by omega) h3 h4
theorem bound_inv (n : Nat) (f : Nat → Nat → Int) : BInv n f (boundSt n f) ∧ ∀ i j k, i < j → j < k → k < n → Done f (boundSt n f) i j k := by
  have h0 : BInv n f ⟨fun i j => absI (f i j), [], 0⟩ := ⟨by simp, fun r t h => by simp at h, fun _ _ => rfl, rfl⟩
  obtain ⟨h1, h2⟩ := bI_inv h0 n (Nat.le_refl _)
  exact ⟨h1, fun i j k a b c => h2 i j k (by omega) a b c⟩
/-- What the law ClusterBound asks of Bound. -/
theorem bound_right {n : Nat} {ps : List P3} (hg : good n ps = true) : rcheckB ps (boundSt n (matOf ps)).out = true ∧ (boundSt n (matOf ps)).sum = sumT (boundSt n (matOf ps)).out ∧
    ∀ i j k : Nat, i < j → j < k → k < n → rbad ps i j k = true → ∃ p ∈ ps, inT ⟨i, j, k, 0⟩ p.i = true ∧ inT ⟨i, j, k, 0⟩ p.k = true ∧ roomP p (boundSt n (matOf ps)).out ≤ 0 := by
  obtain ⟨h1, h2⟩ := bound_inv n (matOf ps)
  have hr := (check_agree hg _).1 h1.all
  refine ⟨hr, h1.sum, fun i j k hij hjk hk hb => ?_⟩
  have ha : ∀ t ∈ (boundSt n (matOf ps)).out, Asc t := fun t ht => (h1.ts t ht).1
  have hd := h2 i j k hij hjk hk
  obtain ⟨b⟩ := bad3_of (n := n) hb
  have pick : ∀ p ∈ ps, (boundSt n (matOf ps)).left p.i.toNat p.k.toNat ≤ 0 → roomP p (boundSt n (matOf ps)).out ≤ 0 := fun p hp hl => by
    obtain ⟨e0, e1, e2, e3⟩ := mat_pair hg hp
    unfold roomP
    rw [load_eq e0 e1 _ ha, ← e3, ← left_eq (matOf ps) _ ha, ← h1.left]
    exact hl
  rcases hd with hd | hd
  · rw [rbad_mat hg i j k hij hjk, hd] at hb; cases hb
  · have h3 : (boundSt n (matOf ps)).left i j ≤ 0 ∨ (boundSt n (matOf ps)).left i k ≤ 0 ∨ (boundSt n (matOf ps)).left j k ≤ 0 := by unfold min3 at hd; omega
    rcases h3 with h | h | h
    · exact ⟨b.p, b.hp, by simp [inT, b.pi], by simp [inT, b.pk], pick _ b.hp (by rw [b.pi, b.pk]; simpa using h)⟩
    · exact ⟨b.q, b.hq, by simp [inT, b.qi], by simp [inT, b.qk], pick _ b.hq (by rw [b.qi, b.qk]; simpa using h)⟩
    · exact ⟨b.r, b.hr, by simp [inT, b.ri], by simp [inT, b.rk], pick _ b.hr (by rw [b.ri, b.rk]; simpa using h)⟩
end Go.Proofs.Ytmjicfafjjgekaa
