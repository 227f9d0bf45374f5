/- The statement 'CleanBest' as a tied card: the Go function returns true, and each argument reads afterwards as it read before; the library's table of bit counts starts as the program's text lays it. -/
import Derived.Test.YtnaokiodhoadjaaGreatDoorRSBest
import Derived.Test.YtnaokiodhoadjaaGreatDoorRows
import Derived.Test.YtnaokiodhoadjaaGreatDoorCards
import Derived.Test.YtnaokiodhoadjaaGreatDoorTie
import Derived.ProofKit
import Derived.ChangeMaps5
import Derived.OpenShut
import Derived.ChangeOld
import Derived.Stop.Joined
import Derived.SevenTiedAt
import Derived.Deep.DeepHandedRow
import Derived.Deep.DeepWitnessRowRef
namespace Go.Proofs.YtnaokiodhoadjaaGreatDoor.cleanBest
open Go Go.ChangeShapes Go.WideShapes Go.ChangeAt Go.RowKit Go.AM
set_option linter.unusedVariables false


/-- Where no function starts a goroutine, no closure is looked at. -/
theorem goes_none {P : Program} (h : P.funcs.any Func.goes = false) (f : FuncId) : P.goes f = false := by
  have h2 : ∀ g : FuncId, (P.funcs[g]?).any Func.goes = false := fun g => by
    cases hg : P.funcs[g]? with
    | none => rfl
    | some fn =>
      cases hq : Func.goes fn with
      | false => simp [hq]
      | true =>
        have := Array.any_eq_true'.2 ⟨fn, Array.mem_of_getElem? hg, hq⟩
        rw [h] at this
        cases this
  unfold Program.goes
  rw [h, show (fun g => (P.funcs[g]?).any Func.goes) = fun _ => false from funext h2]
  simp
theorem goesBy_none {P : Program} {c : OpenClaim} (h : P.funcs.any Func.goes = false) (hs : c.start = .entering) : false = c.goesBy P := by
  unfold OpenClaim.goesBy Program.goesAt Program.goesFrom
  rw [hs]
  cases P.funcNamed c.func with
  | none => rfl
  | some f => simp [goes_none h f]

theorem proved : Rows.CleanBestCardSaid :=
  Claim7.holds_tied_plain_at .later [] _ _ _ _ said (fun _ h => by cases h) (by kernel_rfl) (fun _ h => by cases h) cleanBest_row_tie rfl ⟨rfl, rfl⟩ (by kernel_rfl) rfl plain (goesBy_none (by kernel_rfl) rfl)
#print axioms proved
end Go.Proofs.YtnaokiodhoadjaaGreatDoor.cleanBest
