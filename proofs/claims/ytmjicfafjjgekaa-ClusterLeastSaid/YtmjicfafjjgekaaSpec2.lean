/- Spec2: the search for the best clustering, as cluster.Optimal does it, in plain Lean. -/
import Derived.Test.YtmjicfafjjgekaaSpec
namespace Go.Dr

/-- What the vertices before i add to the cost of vertex v with a label. -/
def moreTo (f : Nat → Nat → Int) (labels : List Int) (v : Nat) (label : Int) : Nat → Int
  | 0 => 0
  | i + 1 => moreTo f labels v label i + price (f i v) (labels.getD i 0 == label)

structure St where
  labels : List Int
  best : Option (List Int)
  least : Int

def St.skip (s : St) (cost : Int) : Bool := s.best.isSome && decide (s.least ≤ cost)

def fromR (f : Nat → Nat → Int) : Nat → Nat → Nat → Int → St → St
  | 0, _, _, cost, s => if s.skip cost then s else ⟨s.labels, some s.labels, cost⟩
  | r + 1, v, used, cost, s => if s.skip cost then s else
      (List.range (used + 1)).foldl (fun s label => fromR f r (v + 1) (max used (label + 1)) (cost + moreTo f s.labels v label v) ⟨s.labels.set v label, s.best, s.least⟩) s

theorem price_bd {x : Int} (t : Bool) (h0 : -1000 ≤ x) (h1 : x ≤ 1000) : 0 ≤ price x t ∧ price x t ≤ 1000 := by
  unfold price; split <;> omega

theorem moreTo_bd (f : Nat → Nat → Int) (labels : List Int) (v : Nat) (label : Int) (hf : ∀ i j, -1000 ≤ f i j ∧ f i j ≤ 1000) : ∀ i, 0 ≤ moreTo f labels v label i ∧ moreTo f labels v label i ≤ 1000 * i
  | 0 => by simp [moreTo]
  | i + 1 => by
    have h1 := moreTo_bd f labels v label hf i
    have h2 := price_bd (labels.getD i 0 == label) (hf i v).1 (hf i v).2
    simp only [moreTo]
    omega

/-- The rounds of the loop over labels. -/
def rounds (f : Nat → Nat → Int) (r v used : Nat) (cost : Int) (s : St) (k : Nat) : St :=
  (List.range k).foldl (fun s label => fromR f r (v + 1) (max used (label + 1)) (cost + moreTo f s.labels v label v) ⟨s.labels.set v label, s.best, s.least⟩) s
theorem rounds_zero (f : Nat → Nat → Int) (r v used : Nat) (cost : Int) (s : St) : rounds f r v used cost s 0 = s := rfl
theorem rounds_succ (f : Nat → Nat → Int) (r v used : Nat) (cost : Int) (s : St) (k : Nat) : rounds f r v used cost s (k + 1) =
    fromR f r (v + 1) (max used (k + 1)) (cost + moreTo f (rounds f r v used cost s k).labels v k v) ⟨(rounds f r v used cost s k).labels.set v k, (rounds f r v used cost s k).best, (rounds f r v used cost s k).least⟩ := by
  unfold rounds
  rw [List.range_succ, List.foldl_append]
  rfl
theorem fromR_succ {f : Nat → Nat → Int} {r v used : Nat} {cost : Int} {s : St} (h : s.skip cost = false) : fromR f (r + 1) v used cost s = rounds f r v used cost s (used + 1) := by
  rw [fromR, if_neg (by simp [h])]
  rfl
theorem fromR_skip {f : Nat → Nat → Int} {r v used : Nat} {cost : Int} {s : St} (h : s.skip cost = true) : fromR f r v used cost s = s := by
  cases r <;> rw [fromR, if_pos h]

end Go.Dr
