/- U2: the reference's entries: values and symbols. -/
import Derived.Test.YteijbpppalhihaaGreatU1
set_option linter.unusedVariables false
set_option linter.unusedSimpArgs false
namespace Go.Proofs.YteijbpppalhihaaGreat
open Go Go.AM
def app (τ : Nat → Dm) : Dm → Dm
  | .inl v => .inl v
  | .inr s => τ s
/-- The entries of the cells while they are filled. -/
structure Ent (q : Prob) (e : Nat → Dm) : Prop where
  fix : ∀ x v, x < q.m * q.n → q.K x = some v → e x = .inl v
  sem : ∀ σ, Sol q σ → ∃ τ : Nat → Dm, ∀ x, x < q.m * q.n → σ x = app τ (e x)
def ClosedE (q : Prob) (e : Nat → Dm) : Prop := ∀ d ∈ q.fds, ∀ i k, i < q.m → k < i → Agr q e i k d.l → Agr q e i k d.r
theorem Ent.sol {q : Prob} {e : Nat → Dm} (h : Ent q e) (hc : ClosedE q e) : Sol q e := ⟨h.fix, hc⟩
theorem Ent.forced {q : Prob} {e : Nat → Dm} (h : Ent q e) (hc : ClosedE q e) {x y : Nat} (hx : x < q.m * q.n) (hy : y < q.m * q.n) : e x = e y ↔ ∀ σ, Sol q σ → σ x = σ y :=
  ⟨fun he σ hs => by
    obtain ⟨τ, ht⟩ := h.sem σ hs
    rw [ht x hx, ht y hy, he], fun hf => hf e (h.sol hc)⟩
open Classical in
/-- A symbol is replaced everywhere. -/
noncomputable def repE (e : Nat → Dm) (s : Nat) (y : Dm) (x : Nat) : Dm := if e x = .inr s then y else e x
theorem Ent.rep {q : Prob} {e : Nat → Dm} (h : Ent q e) {x0 y0 s : Nat} (hx : x0 < q.m * q.n) (hy : y0 < q.m * q.n) (he : e x0 = .inr s) (hs : ∀ σ, Sol q σ → σ x0 = σ y0) : Ent q (repE e s (e y0)) := by
  refine ⟨fun x v hxn hk => ?_, fun σ hσ => ?_⟩
  · unfold repE
    rw [h.fix x v hxn hk, if_neg (by simp)]
  · obtain ⟨τ, ht⟩ := h.sem σ hσ
    refine ⟨τ, fun x hxn => ?_⟩
    unfold repE
    split
    · rename_i h1
      have h2 := hs σ hσ
      rw [ht x0 hx, ht y0 hy, he] at h2
      rw [ht x hxn, h1, h2]
    · exact ht x hxn
/-- Two cells with different values cannot be equal. -/
theorem Ent.clash {q : Prob} {e : Nat → Dm} (h : Ent q e) {x y : Nat} {v w : Vl} (hx : x < q.m * q.n) (hy : y < q.m * q.n) (h1 : e x = .inl v) (h2 : e y = .inl w) (hne : v ≠ w) (hs : ∀ σ, Sol q σ → σ x = σ y) : ¬ Okq q := by
  rintro ⟨σ, hσ⟩
  obtain ⟨τ, ht⟩ := h.sem σ hσ
  have := hs σ hσ
  rw [ht x hx, ht y hy, h1, h2] at this
  exact hne (Sum.inl.inj this)
open Classical in
noncomputable def hasSym (N : Nat) (e : Nat → Dm) (s : Nat) : Bool := decide (∃ x, x < N ∧ e x = .inr s)
noncomputable def cntS (N S : Nat) (e : Nat → Dm) : Nat := ((List.range S).filter (hasSym N e)).length
open Classical in
theorem cntS_rep {N S s y0 : Nat} {e : Nat → Dm} {x0 : Nat} (hx : x0 < N) (hy : y0 < N) (he : e x0 = .inr s) (hne : e y0 ≠ .inr s) (hs : s < S) : cntS N S (repE e s (e y0)) < cntS N S e := by
  unfold cntS
  refine filter_lt (k := s) ?_ ?_ (fun s' _ h => ?_) (by simpa using hs)
  rotate_left 2
  · unfold hasSym at h ⊢
    obtain ⟨x, hxN, h1⟩ := of_decide_eq_true h
    unfold repE at h1
    refine decide_eq_true ?_
    split at h1
    · exact ⟨y0, hy, h1⟩
    · exact ⟨x, hxN, h1⟩
  · exact decide_eq_true ⟨x0, hx, he⟩
  · refine decide_eq_false ?_
    rintro ⟨x, hxN, h1⟩
    unfold repE at h1
    split at h1
    · exact hne h1
    · rename_i h2; exact h2 h1
/-- At the start the open cells have symbols of their own. -/
theorem ent_init {q : Prob} {e : Nat → Dm} (hf : ∀ x v, x < q.m * q.n → q.K x = some v → e x = .inl v) (ho : ∀ x, x < q.m * q.n → q.K x = none → ∃ s, e x = .inr s) (hi : ∀ x y s, x < q.m * q.n → y < q.m * q.n → e x = .inr s → e y = .inr s → x = y) : Ent q e := by
  refine ⟨hf, fun σ hσ => ?_⟩
  refine ⟨fun s => open Classical in if h : ∃ x, x < q.m * q.n ∧ e x = .inr s then σ h.choose else .inr 0, fun x hx => ?_⟩
  cases hk : q.K x with
  | some v => rw [hf x v hx hk, hσ.fix x v hx hk]; rfl
  | none =>
    obtain ⟨s, hs⟩ := ho x hx hk
    rw [hs]
    have hex : ∃ x, x < q.m * q.n ∧ e x = .inr s := ⟨x, hx, hs⟩
    simp only [app, dif_pos hex]
    have := hex.choose_spec
    rw [hi x hex.choose s hx this.1 hs this.2]
end Go.Proofs.YteijbpppalhihaaGreat
