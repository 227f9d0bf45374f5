/- U3: references to cells: their order, the search in a sorted list. -/
import Derived.Test.YteijbpppalhihaaGreatT11
set_option linter.unusedVariables false
set_option linter.unusedSimpArgs false
namespace Go.Proofs.YteijbpppalhihaaGreat
open Go Go.AM
structure Cr where
  id : Int
  attr : Int
theorem Cr.eq_iff {a b : Cr} : a = b ↔ a.id = b.id ∧ a.attr = b.attr := by
  cases a; cases b; simp
def cLt (a b : Cr) : Prop := a.id < b.id ∨ (a.id = b.id ∧ a.attr < b.attr)
theorem cLt_irr (a : Cr) : ¬ cLt a a := by unfold cLt; omega
theorem cLt_trans {a b c : Cr} (h : cLt a b) (g : cLt b c) : cLt a c := by unfold cLt at *; omega
theorem cLt_tri (a b : Cr) : cLt a b ∨ a = b ∨ cLt b a := by
  rw [Cr.eq_iff]; unfold cLt; omega
def cmpC (a b : Cr) : Int := if cmpI a.id b.id = 0 then cmpI a.attr b.attr else cmpI a.id b.id
theorem cmpI_lt (x y : Int) : cmpI x y < 0 ↔ x < y := by
  unfold cmpI; split
  · simp; omega
  · split <;> simp <;> omega
theorem cmpI_eq (x y : Int) : cmpI x y = 0 ↔ x = y := by
  unfold cmpI; split
  · simp; omega
  · split <;> simp <;> omega
theorem cmpC_lt (a b : Cr) : cmpC a b < 0 ↔ cLt a b := by
  unfold cmpC cLt
  have h1 := cmpI_eq a.id b.id
  split
  · rename_i h
    rw [cmpI_lt]
    have := h1.1 h
    omega
  · rename_i h
    rw [cmpI_lt]
    have : ¬ a.id = b.id := fun e => h (h1.2 e)
    omega
theorem cmpC_eq (a b : Cr) : cmpC a b = 0 ↔ a = b := by
  unfold cmpC
  rw [Cr.eq_iff]
  have h1 := cmpI_eq a.id b.id
  split
  · rename_i h
    rw [cmpI_eq]
    exact ⟨fun h2 => ⟨h1.1 h, h2⟩, fun h2 => h2.2⟩
  · rename_i h
    exact ⟨fun h2 => absurd h2 h, fun h2 => absurd (h1.2 h2.1) h⟩
def sortedC (l : List Cr) : Prop := l.Pairwise cLt
theorem sortedC_lt {l : List Cr} (h : sortedC l) {i j : Nat} (hi : i < l.length) (hj : j < l.length) (hij : i < j) : cLt l[i] l[j] := List.pairwise_iff_getElem.1 h i j hi hj hij
def cAt (l : List Cr) (i : Nat) : Cr := l.getD i ⟨0, 0⟩
def bsC (l : List Cr) (x : Cr) (lo hi : Nat) : Nat :=
  if lo < hi then (if cmpC (cAt l ((lo + hi) / 2)) x < 0 then bsC l x ((lo + hi) / 2 + 1) hi else bsC l x lo ((lo + hi) / 2)) else lo
termination_by hi - lo
theorem bsC_le (l : List Cr) (x : Cr) (lo hi : Nat) (h : lo ≤ hi) : lo ≤ bsC l x lo hi ∧ bsC l x lo hi ≤ hi := by
  fun_induction bsC l x lo hi with
  | case1 lo hi h0 h1 ih => have := ih (by omega); omega
  | case2 lo hi h0 h1 ih => have := ih (by omega); omega
  | case3 lo hi h0 => omega
theorem cAt_in {l : List Cr} {i : Nat} (h : i < l.length) : cAt l i = l[i] := by simp [cAt, h]
theorem bsC_ok {l : List Cr} (hs : sortedC l) (x : Cr) (lo hi : Nat) (hlh : lo ≤ hi) (hhl : hi ≤ l.length) (h1 : ∀ j (h : j < l.length), j < lo → cLt l[j] x) (h2 : ∀ j (h : j < l.length), hi ≤ j → ¬ cLt l[j] x) :
    (∀ j (h : j < l.length), j < bsC l x lo hi → cLt l[j] x) ∧ ∀ j (h : j < l.length), bsC l x lo hi ≤ j → ¬ cLt l[j] x := by
  fun_induction bsC l x lo hi with
  | case1 lo hi h0 hq ih =>
    have hm : (lo + hi) / 2 < l.length := by omega
    rw [cAt_in hm, cmpC_lt] at hq
    refine ih (by omega) hhl (fun j h hj => ?_) h2
    rcases Nat.lt_or_ge j ((lo + hi) / 2) with h3 | h3
    · exact cLt_trans (sortedC_lt hs h hm h3) hq
    · have : j = (lo + hi) / 2 := by omega
      subst this
      exact hq
  | case2 lo hi h0 hq ih =>
    have hm : (lo + hi) / 2 < l.length := by omega
    rw [cAt_in hm, cmpC_lt] at hq
    refine ih (by omega) (by omega) h1 (fun j h hj hc => ?_)
    rcases Nat.lt_or_ge ((lo + hi) / 2) j with h3 | h3
    · exact hq (cLt_trans (sortedC_lt hs hm h h3) hc)
    · have : j = (lo + hi) / 2 := by omega
      subst this
      exact hq hc
  | case3 lo hi h0 => exact ⟨fun j h hj => h1 j h hj, fun j h hj => h2 j h (by omega)⟩
open Classical in
noncomputable def memC (l : List Cr) (x : Cr) : Bool := decide (x ∈ l)
theorem bsC_mem {l : List Cr} (hs : sortedC l) (x : Cr) : (∃ h : bsC l x 0 l.length < l.length, cmpC l[bsC l x 0 l.length] x = 0) ↔ x ∈ l := by
  obtain ⟨h1, h2⟩ := bsC_ok hs x 0 l.length (by omega) (by omega) (fun j h hj => absurd hj (by omega)) (fun j h hj => absurd h (by omega))
  constructor
  · rintro ⟨h, hc⟩
    rw [cmpC_eq] at hc
    exact hc ▸ List.getElem_mem h
  · intro h
    obtain ⟨j, hj, rfl⟩ := List.mem_iff_getElem.1 h
    have a1 : bsC l l[j] 0 l.length ≤ j := by
      rcases Nat.lt_or_ge j (bsC l l[j] 0 l.length) with h3 | h3
      · exact absurd (h1 j hj h3) (cLt_irr _)
      · exact h3
    have a2 : j ≤ bsC l l[j] 0 l.length := by
      rcases Nat.lt_or_ge (bsC l l[j] 0 l.length) j with h3 | h3
      · have hb : bsC l l[j] 0 l.length < l.length := by omega
        exact absurd (sortedC_lt hs hb hj h3) (h2 _ hb (Nat.le_refl _))
      · exact h3
    have e : bsC l l[j] 0 l.length = j := by omega
    exact ⟨by omega, by rw [cmpC_eq]; congr 1⟩
end Go.Proofs.YteijbpppalhihaaGreat
