/- Enc: lists of lists and hypergraphs as values. -/
import Derived.Test.YtfaleabndlcanaaGreatDoorW2
import Derived.Test.YtfaleabndlcanaaGreatDoorPl1
import Derived.Test.YtfaleabndlcanaaGreatDoorAMh
set_option linter.unusedSimpArgs false
namespace Go.Proofs.YtfaleabndlcanaaGreatDoor
open Go Go.AM
def LL (g : Bool) (es : List (List Int)) : V := .lst 1 g (es.map (L1 false))
def encH (f g : Bool) (vs : List Int) (es : List (List Int)) : V := .agg [L1 f vs, LL g es]
@[simp] theorem LL_pure (g : Bool) (es : List (List Int)) : AM.Pure (LL g es) := by simp [LL]
@[simp] theorem encH_pure (f g : Bool) (vs : List Int) (es : List (List Int)) : AM.Pure (encH f g vs es) := by simp [encH]
/-- What the lists of a hypergraph are bounded by. -/
def Small (vs : List Int) (es : List (List Int)) : Prop := vs.length ≤ 1000000 ∧ es.length ≤ 1000000 ∧ ∀ e ∈ es, e.length ≤ 1000000
@[simp] theorem encI_oneV (n : Int) : oneV (encI n) = true := rfl
@[simp] theorem L1_oneV (f : Bool) (xs : List Int) : oneV (L1 f xs) = true := rfl
def eAt (es : List (List Int)) (i : Nat) : List Int := es.getD i []
theorem getD_at {es : List (List Int)} {i : Nat} (h : i < es.length) : eAt es i = es[i] := by simp [eAt, h]
end Go.Proofs.YtfaleabndlcanaaGreatDoor
