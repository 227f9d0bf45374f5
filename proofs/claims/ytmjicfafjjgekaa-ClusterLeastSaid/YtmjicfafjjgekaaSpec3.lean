/- Spec3: the matrix of a list of pairs, and what the search ends with. -/
import Derived.Test.YtmjicfafjjgekaaSpec2
namespace Go.Dr

def optSt (n : Nat) (f : Nat → Nat → Int) : St := fromR f n 0 0 0 ⟨List.replicate n 0, none, 0⟩

theorem fromR_some (f : Nat → Nat → Int) : ∀ (r v used : Nat) (cost : Int) (s : St), (fromR f r v used cost s).best.isSome = true
  | 0, v, used, cost, s => by
    rw [fromR]
    split
    · rename_i h; simp [St.skip] at h; exact h.1
    · rfl
  | r + 1, v, used, cost, s => by
    cases h : s.skip cost
    · rw [fromR_succ h, Go.Dr.rounds_succ]; exact fromR_some f r _ _ _ _
    · rw [fromR_skip h]; simp [St.skip] at h; exact h.1

/-- A property of the state that each step keeps. -/
theorem fromR_keeps (f : Nat → Nat → Int) (n : Nat) : ∀ (r v used : Nat) (cost : Int) (s : St), s.labels.length = n → (∀ b, s.best = some b → b.length = n) →
    (fromR f r v used cost s).labels.length = n ∧ ∀ b, (fromR f r v used cost s).best = some b → b.length = n
  | 0, v, used, cost, s, h1, h2 => by
    rw [fromR]
    split
    · exact ⟨h1, h2⟩
    · exact ⟨h1, fun b hb => by cases hb; exact h1⟩
  | r + 1, v, used, cost, s, h1, h2 => by
    cases h : s.skip cost
    · rw [fromR_succ h]
      generalize used + 1 = k
      induction k with
      | zero => exact ⟨h1, h2⟩
      | succ k ih =>
        rw [Go.Dr.rounds_succ]
        exact fromR_keeps f n r _ _ _ _ (by simpa using ih.1) ih.2
    · rw [fromR_skip h]; exact ⟨h1, h2⟩

theorem optSt_best (n : Nat) (f : Nat → Nat → Int) : ∃ b, (optSt n f).best = some b ∧ b.length = n := by
  obtain ⟨b, hb⟩ := Option.isSome_iff_exists.1 (fromR_some f n 0 0 0 ⟨List.replicate n 0, none, 0⟩)
  exact ⟨b, hb, (fromR_keeps f n n 0 0 0 ⟨List.replicate n 0, none, 0⟩ (by simp) (by simp)).2 b hb⟩

def optBest (n : Nat) (f : Nat → Nat → Int) : List Int := (optSt n f).best.getD []
theorem optBest_len (n : Nat) (f : Nat → Nat → Int) : (optBest n f).length = n := by
  obtain ⟨b, hb, hl⟩ := optSt_best n f
  simp [optBest, hb, hl]

theorem valid_cases (n : Int) (ps : List P3) : (valid n ps = 7 ∨ valid n ps = 3 ∨ valid n ps = 1) ∨ (valid n ps = 0 ∧ 0 ≤ n ∧ n ≤ 200 ∧ ps.length ≤ 20000 ∧ good n ps = true) := by
  unfold valid
  by_cases h1 : n < 0 ∨ 200 < n
  · rw [if_pos h1]; exact .inl (.inl rfl)
  · rw [if_neg h1]
    by_cases h2 : 20000 < ps.length
    · rw [if_pos h2]; exact .inl (.inr (.inl rfl))
    · rw [if_neg h2]
      by_cases h3 : good n ps = true
      · rw [if_pos h3]; exact .inr ⟨rfl, by omega, by omega, by omega, h3⟩
      · rw [if_neg h3]; exact .inl (.inr (.inr rfl))
theorem good_all {n : Int} {ps : List P3} (h : good n ps = true) : ∀ p ∈ ps, okP n p = true := by
  simp only [good, Bool.and_eq_true, List.all_eq_true] at h
  exact h.1
theorem good_nodup {n : Int} {ps : List P3} (h : good n ps = true) : (ps.map key).Nodup := by
  simp only [good, Bool.and_eq_true, decide_eq_true_eq] at h
  exact h.2

end Go.Dr
