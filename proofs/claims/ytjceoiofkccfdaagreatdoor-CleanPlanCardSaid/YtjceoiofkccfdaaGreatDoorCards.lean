/-
  DERIVED. GIVEN WITH THE SEED: THE CARDS: each row of YtjceoiofkccfdaaGreatDoorRows.lean that lists a variable, with what it lists TIED to the program's text (the seventh form; the later family's looks); each row that meets fmt, with fmt's text TOLD by the authors' own Lean function (tested against real Go, not proved from fmt's source: count such statements apart). THE CARD IS WHAT COUNTS. Prove the row's statement (the work); the ties are given (YtjceoiofkccfdaaGreatDoorTie.lean); close each card by the builder's one call (the guide's Derived/Test/ToyasCard.lean, 'card_holds'). Laid BY PROGRAM, IN A SANDBOX (cutbox-door.mjs). By AI agents, Wed Nov 11 2026. No macro, syntax, notation, axiom, sorry.
-/
import Derived.Test.YtjceoiofkccfdaaGreatDoorRows
import GoSem.ClaimSeven
namespace Go.Proofs.YtjceoiofkccfdaaGreatDoor
namespace Rows

/-- THE TIED CARD OF 'drosslaw59.CleanPlan'. -/
def cleanPlanCard : Claim7 := { stood := { row := cleanPlanRow, standIns := [], harness := (true, "78962b289ae0004940b7a031f3d5f48296bf832374ebeec4933507fb83533890"), looks := false }, kinds := [], alts := [], laidByText := true, laidKinds := [.data], laidTests := true, laidLooks := .later }
def CleanPlanCardSaid : Prop := Claim7.holds Tryz.pinned (.plain (OpenSpec.ofChange cleanPlanSpec)) cleanPlanCard

/-- THE TIED CARD OF 'drosslaw59.CleanApply'. -/
def cleanApplyCard : Claim7 := { stood := { row := cleanApplyRow, standIns := [], harness := (true, "78962b289ae0004940b7a031f3d5f48296bf832374ebeec4933507fb83533890"), looks := false }, kinds := [], alts := [], laidByText := true, laidKinds := [.data], laidTests := true, laidLooks := .later }
def CleanApplyCardSaid : Prop := Claim7.holds Tryz.pinned (.plain (OpenSpec.ofChange cleanApplySpec)) cleanApplyCard

/-- THE TIED CARD OF 'drosslaw59.CleanRound'. -/
def cleanRoundCard : Claim7 := { stood := { row := cleanRoundRow, standIns := [], harness := (true, "78962b289ae0004940b7a031f3d5f48296bf832374ebeec4933507fb83533890"), looks := false }, kinds := [], alts := [], laidByText := true, laidKinds := [.data], laidTests := true, laidLooks := .later }
def CleanRoundCardSaid : Prop := Claim7.holds Tryz.pinned (.plain (OpenSpec.ofChange cleanRoundSpec)) cleanRoundCard

/-- THE SECOND FORM's CARD OF 'drosslaw59.CleanPlan'. -/
def cleanPlanUptoCard : Claim7 := { stood := { row := cleanPlanUptoRow, standIns := [], harness := (true, "78962b289ae0004940b7a031f3d5f48296bf832374ebeec4933507fb83533890"), looks := false }, kinds := [], alts := [], laidByText := true, laidKinds := [.data], laidTests := true, laidLooks := .later }
def CleanPlanUptoCardSaid : Prop := Claim7.holds Tryz.pinned (.plain (OpenSpec.upto cleanPlanSpec)) cleanPlanUptoCard

/-- THE SECOND FORM's CARD OF 'drosslaw59.CleanApply'. -/
def cleanApplyUptoCard : Claim7 := { stood := { row := cleanApplyUptoRow, standIns := [], harness := (true, "78962b289ae0004940b7a031f3d5f48296bf832374ebeec4933507fb83533890"), looks := false }, kinds := [], alts := [], laidByText := true, laidKinds := [.data], laidTests := true, laidLooks := .later }
def CleanApplyUptoCardSaid : Prop := Claim7.holds Tryz.pinned (.plain (OpenSpec.upto cleanApplySpec)) cleanApplyUptoCard

/-- THE SECOND FORM's CARD OF 'drosslaw59.CleanRound'. -/
def cleanRoundUptoCard : Claim7 := { stood := { row := cleanRoundUptoRow, standIns := [], harness := (true, "78962b289ae0004940b7a031f3d5f48296bf832374ebeec4933507fb83533890"), looks := false }, kinds := [], alts := [], laidByText := true, laidKinds := [.data], laidTests := true, laidLooks := .later }
def CleanRoundUptoCardSaid : Prop := Claim7.holds Tryz.pinned (.plain (OpenSpec.upto cleanRoundSpec)) cleanRoundUptoCard
end Rows
end Go.Proofs.YtjceoiofkccfdaaGreatDoor
