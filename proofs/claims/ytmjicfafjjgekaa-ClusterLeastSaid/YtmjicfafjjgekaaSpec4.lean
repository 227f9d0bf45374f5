/- Spec4: the cost of a clustering. -/
import Derived.Test.YtmjicfafjjgekaaSpec3
namespace Go.Dr

def lab (xs : List Int) (i : Int) : Int := xs.getD i.toNat 0
def costOne (xs : List Int) (p : P3) : Int := price p.x (lab xs p.i == lab xs p.k)
def costOf (ps : List P3) (xs : List Int) : Int := (ps.map (costOne xs)).sum

theorem costOf_snoc (l : List P3) (p : P3) (xs : List Int) : costOf (l ++ [p]) xs = costOf l xs + costOne xs p := by simp [costOf]
theorem costOf_step {ps : List P3} {k : Nat} {p : P3} (xs : List Int) (h : ps[k]? = some p) : costOf (ps.take (k + 1)) xs = costOf (ps.take k) xs + costOne xs p := by rw [take_snoc h, costOf_snoc]
theorem costOf_bd {n : Int} {ps : List P3} (xs : List Int) (h : ∀ p ∈ ps, okP n p = true) : 0 ≤ costOf ps xs ∧ costOf ps xs ≤ 1000 * ps.length := by
  induction ps with
  | nil => simp [costOf]
  | cons p ps ih =>
    have h1 := ih (fun q hq => h q (List.mem_cons_of_mem _ hq))
    have h2 := h p List.mem_cons_self
    simp only [okP, decide_eq_true_eq] at h2
    have h3 := price_bd (lab xs p.i == lab xs p.k) h2.2.2.2.1 h2.2.2.2.2
    simp only [costOf, List.map_cons, List.sum_cons, List.length_cons, costOne] at h1 ⊢
    omega
theorem costOf_take_bd {n : Int} {ps : List P3} (xs : List Int) (h : ∀ p ∈ ps, okP n p = true) (k : Nat) : 0 ≤ costOf (ps.take k) xs ∧ costOf (ps.take k) xs ≤ 1000 * k := by
  have := costOf_bd (ps := ps.take k) xs (fun p hp => h p (List.mem_of_mem_take hp))
  have hl : (ps.take k).length ≤ k := List.length_take_le _ _
  omega
end Go.Dr
