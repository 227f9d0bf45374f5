/- U1: when there are values for open cells: solutions, and the program's forest. -/
import Derived.Test.YteijbpppalhihaaGreatT11
set_option linter.unusedVariables false
set_option linter.unusedSimpArgs false
namespace Go.Proofs.YteijbpppalhihaaGreat
open Go Go.AM
/-- A value, or one of infinitely many new ones. -/
abbrev Dm := Vl ⊕ Nat
/-- The cells of a table with m rows and n attributes: their fixed values, if any; dependencies. -/
structure Prob where
  m : Nat
  n : Nat
  K : Nat → Option Vl
  fds : List Fd
def Agr (q : Prob) (σ : Nat → Dm) (i k s : Nat) : Prop := ∀ a, a < q.n → s.testBit a = true → σ (i * q.n + a) = σ (k * q.n + a)
structure Sol (q : Prob) (σ : Nat → Dm) : Prop where
  fix : ∀ x v, x < q.m * q.n → q.K x = some v → σ x = .inl v
  dep : ∀ d ∈ q.fds, ∀ i k, i < q.m → k < i → Agr q σ i k d.l → Agr q σ i k d.r
def Okq (q : Prob) : Prop := ∃ σ, Sol q σ
theorem cell_lt {m n i a : Nat} (hi : i < m) (ha : a < n) : i * n + a < m * n := by
  have : (i + 1) * n ≤ m * n := Nat.mul_le_mul_right n hi
  rw [Nat.add_mul] at this
  omega
/-- A forest of parents, with its roots. -/
structure Frt (q : Prob) (P : List Nat) (r h : Nat → Nat) : Prop where
  len : P.length = q.m * q.n
  lt : ∀ x, x < q.m * q.n → r x < q.m * q.n
  root : ∀ x, x < q.m * q.n → P.getD (r x) 0 = r x
  self : ∀ x, x < q.m * q.n → P.getD x 0 = x → r x = x
  step : ∀ x, x < q.m * q.n → P.getD x 0 ≠ x → P.getD x 0 < q.m * q.n ∧ r (P.getD x 0) = r x ∧ h (P.getD x 0) < h x
  known : ∀ x, x < q.m * q.n → q.K x ≠ none → r x = x
  sem : ∀ σ, Sol q σ → ∀ x, x < q.m * q.n → σ x = σ (r x)
def eqv (q : Prob) (r : Nat → Nat) (x y : Nat) : Prop := r x = r y ∨ ∃ v, q.K (r x) = some v ∧ q.K (r y) = some v
def star (q : Prob) (r : Nat → Nat) (x : Nat) : Dm := match q.K (r x) with
  | some v => .inl v
  | none => .inr (r x)
theorem eqv_iff (q : Prob) (r : Nat → Nat) (x y : Nat) : star q r x = star q r y ↔ eqv q r x y := by
  unfold star eqv
  cases h1 : q.K (r x) with
  | some v =>
    cases h2 : q.K (r y) with
    | some w =>
      simp only [Sum.inl.injEq, Option.some.injEq]
      constructor
      · rintro rfl; exact .inr ⟨v, rfl, rfl⟩
      · rintro (h | ⟨u, h3, h4⟩)
        · rw [h, h2] at h1; exact (Option.some.inj h1).symm
        · exact h3.trans h4.symm
    | none =>
      simp only [reduceCtorEq, false_iff]
      rintro (h | ⟨u, h3, h4⟩)
      · rw [h, h2] at h1; cases h1
      · cases h4
  | none =>
    cases h2 : q.K (r y) with
    | some w =>
      simp only [reduceCtorEq, false_iff]
      rintro (h | ⟨u, h3, h4⟩)
      · rw [h, h2] at h1; cases h1
      · cases h3
    | none =>
      simp only [Sum.inr.injEq]
      constructor
      · exact .inl
      · rintro (h | ⟨u, h3, h4⟩)
        · exact h
        · cases h3
section
variable {q : Prob} {P : List Nat} {r h : Nat → Nat}
theorem Frt.eqv_sem (f : Frt q P r h) {σ : Nat → Dm} (hs : Sol q σ) {x y : Nat} (hx : x < q.m * q.n) (hy : y < q.m * q.n) (he : eqv q r x y) : σ x = σ y := by
  rw [f.sem σ hs x hx, f.sem σ hs y hy]
  rcases he with he | ⟨v, h1, h2⟩
  · rw [he]
  · rw [hs.fix _ v (f.lt x hx) h1, hs.fix _ v (f.lt y hy) h2]
/-- The dependencies hold in the forest. -/
def Closed (q : Prob) (r : Nat → Nat) : Prop := ∀ d ∈ q.fds, ∀ i k, i < q.m → k < i → (∀ a, a < q.n → d.l.testBit a = true → eqv q r (i * q.n + a) (k * q.n + a)) → ∀ a, a < q.n → d.r.testBit a = true → eqv q r (i * q.n + a) (k * q.n + a)
theorem Frt.sol (f : Frt q P r h) (hc : Closed q r) : Sol q (star q r) := by
  refine ⟨fun x v hx hk => ?_, fun d hd i k hi hk hl a ha hb => ?_⟩
  · unfold star
    rw [f.known x hx (by rw [hk]; simp), hk]
  · exact (eqv_iff q r _ _).2 (hc d hd i k hi hk (fun b hb1 hb2 => (eqv_iff q r _ _).1 (hl b hb1 hb2)) a ha hb)
/-- What is equal in the forest at its end is what is equal in all solutions. -/
theorem Frt.forced (f : Frt q P r h) (hc : Closed q r) {x y : Nat} (hx : x < q.m * q.n) (hy : y < q.m * q.n) : eqv q r x y ↔ ∀ σ, Sol q σ → σ x = σ y :=
  ⟨fun he σ hs => f.eqv_sem hs hx hy he, fun hf => (eqv_iff q r x y).1 (hf _ (f.sol hc))⟩
theorem frt_init (q : Prob) : Frt q (List.range (q.m * q.n)) (fun x => x) (fun _ => 0) := by
  have hg : ∀ x, x < q.m * q.n → (List.range (q.m * q.n)).getD x 0 = x := fun x hx => by simp [hx]
  refine ⟨by simp, fun x hx => hx, fun x hx => hg x hx, fun x hx _ => rfl, fun x hx hne => absurd (hg x hx) hne, fun x hx _ => rfl, fun σ hs x hx => rfl⟩
theorem getD_set0 (P : List Nat) (k v x : Nat) (hk : k < P.length) : (P.set k v).getD x 0 = if x = k then v else P.getD x 0 := by
  by_cases hx : x = k
  · subst hx; simp [hk]
  · rw [if_neg hx]
    simp only [List.getD_eq_getElem?_getD]
    rw [List.getElem?_set_ne (Ne.symm hx)]
/-- Root k goes below root i. -/
theorem Frt.join (f : Frt q P r h) {i k : Nat} (hi : i < q.m * q.n) (hk : k < q.m * q.n) (hri : r i = i) (hrk : r k = k) (hne : i ≠ k) (hK : q.K k = none) (hs : ∀ σ, Sol q σ → σ i = σ k) :
    Frt q (P.set k i) (fun x => if r x = k then i else r x) (fun x => if r x = k then h x + h i + 1 else h x) := by
  have hkl : k < P.length := by rw [f.len]; exact hk
  have hpk : P.getD k 0 = k := by have := f.root k hk; rwa [hrk] at this
  have hpi : P.getD i 0 = i := by have := f.root i hi; rwa [hri] at this
  refine ⟨by rw [List.length_set]; exact f.len, fun x hx => ?_, fun x hx => ?_, fun x hx hp => ?_, fun x hx hp => ?_, fun x hx hkx => ?_, fun σ hσ x hx => ?_⟩
  · split
    · exact hi
    · exact f.lt x hx
  · rw [getD_set0 _ _ _ _ hkl]
    split
    · first | exact hpi | (rw [if_neg hne]; exact hpi)
    · rename_i h1
      first | exact f.root x hx | (rw [if_neg h1]; exact f.root x hx)
  · rw [getD_set0 _ _ _ _ hkl] at hp
    by_cases hxk : x = k
    · rw [if_pos hxk] at hp
      exact absurd (hp.trans hxk) hne
    · rw [if_neg hxk] at hp
      have := f.self x hx hp
      rw [this, if_neg hxk]
  · rw [getD_set0 _ _ _ _ hkl] at hp ⊢
    by_cases hxk : x = k
    · subst hxk
      rw [if_pos rfl] at hp ⊢
      refine ⟨hi, ?_, ?_⟩
      · rw [hri, hrk, if_neg hne, if_pos rfl]
      · rw [hri, hrk, if_neg hne, if_pos rfl]; omega
    · rw [if_neg hxk] at hp ⊢
      obtain ⟨h1, h2, h3⟩ := f.step x hx hp
      refine ⟨h1, by rw [h2], ?_⟩
      rw [h2]
      split
      · omega
      · exact h3
  · have := f.known x hx hkx
    rw [this]
    by_cases hxk : x = k
    · subst hxk; exact absurd hK hkx
    · rw [if_neg hxk]
  · rw [f.sem σ hσ x hx]
    split
    · rename_i h1
      rw [h1]; exact (hs σ hσ).symm
    · rfl
/-- The number of roots. -/
def cntR (P : List Nat) : Nat := ((List.range P.length).filter fun x => P.getD x 0 == x).length
theorem cntR_le (P : List Nat) : cntR P ≤ P.length := Nat.le_trans (List.length_filter_le _ _) (by simp)
theorem filter_le {p p' : Nat → Bool} : ∀ {l : List Nat}, (∀ x ∈ l, p' x = true → p x = true) → (l.filter p').length ≤ (l.filter p).length
  | [], _ => Nat.le_refl _
  | a :: l, hle => by
    have ih := filter_le (l := l) (fun x hx => hle x (List.mem_cons_of_mem _ hx))
    have ha := hle a List.mem_cons_self
    simp only [List.filter_cons]
    cases hp' : p' a with
    | false => cases hp : p a <;> simp <;> omega
    | true => rw [ha hp']; simp; omega
theorem filter_lt {p p' : Nat → Bool} {k : Nat} (h1 : p k = true) (h2 : p' k = false) : ∀ {l : List Nat}, (∀ x ∈ l, p' x = true → p x = true) → k ∈ l → (l.filter p').length < (l.filter p).length
  | [], _, hk => by cases hk
  | a :: l, hle, hk => by
    have hle' : ∀ x ∈ l, p' x = true → p x = true := fun x hx => hle x (List.mem_cons_of_mem _ hx)
    have ha := hle a List.mem_cons_self
    have hq := filter_le hle'
    simp only [List.filter_cons]
    rcases List.mem_cons.1 hk with hk | hk
    · rw [← hk, h1, h2]; simp; omega
    · have ih := filter_lt h1 h2 hle' hk
      cases hp' : p' a with
      | false => cases hp : p a <;> simp <;> omega
      | true => rw [ha hp']; simp; omega
theorem cntR_join {P : List Nat} {i k : Nat} (hk : k < P.length) (hpk : P.getD k 0 = k) (hne : i ≠ k) : cntR (P.set k i) < cntR P := by
  unfold cntR
  rw [List.length_set]
  refine filter_lt (k := k) (by simpa using hpk) ?_ (fun x _ hx => ?_) (by simpa using hk)
  rotate_left
  · rw [getD_set0 _ _ _ _ hk] at hx
    by_cases hxk : x = k
    · rw [if_pos hxk, beq_iff_eq] at hx
      exact absurd (hx.trans hxk) hne
    · rwa [if_neg hxk] at hx
  · rw [getD_set0 _ _ _ _ hk, if_pos rfl, beq_eq_false_iff_ne]
    exact hne
end
end Go.Proofs.YteijbpppalhihaaGreat
