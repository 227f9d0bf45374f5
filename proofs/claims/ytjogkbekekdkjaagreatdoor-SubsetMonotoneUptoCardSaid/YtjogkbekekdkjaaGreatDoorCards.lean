/-
  DERIVED. GIVEN WITH THE SEED: THE CARDS: each row of YtjogkbekekdkjaaGreatDoorRows.lean that lists a variable, with what it lists TIED to the program's text (the seventh form; the later family's looks); each row that meets fmt, with fmt's text TOLD by the authors' own Lean function (tested against real Go, not proved from fmt's source: count such statements apart). THE CARD IS WHAT COUNTS. Prove the row's statement (the work); the ties are given (YtjogkbekekdkjaaGreatDoorTie.lean); close each card by the builder's one call (the guide's Derived/Test/ToyasCard.lean, 'card_holds'). Laid BY PROGRAM, IN A SANDBOX (cutbox-door.mjs). By AI agents, Wed Nov 11 2026. No macro, syntax, notation, axiom, sorry.
-/
import Derived.Test.YtjogkbekekdkjaaGreatDoorRows
import GoSem.ClaimSeven
namespace Go.Proofs.YtjogkbekekdkjaaGreatDoor
namespace Rows

/-- THE TIED CARD OF 'drosslaw41.SubsetProblem'. -/
def subsetProblemCard : Claim7 := { stood := { row := subsetProblemRow, standIns := [], harness := (true, "979e2973aa36c9decf1c7afbf482f0bbb18cca5b5e39c2450de79876f07f2000"), looks := false }, kinds := [], alts := [], laidByText := true, laidKinds := [.data], laidTests := true, laidLooks := .later }
def SubsetProblemCardSaid : Prop := Claim7.holds Tryz.pinned (.plain (OpenSpec.ofChange subsetProblemSpec)) subsetProblemCard

/-- THE TIED CARD OF 'drosslaw41.SubsetOptimal'. -/
def subsetOptimalCard : Claim7 := { stood := { row := subsetOptimalRow, standIns := [], harness := (true, "979e2973aa36c9decf1c7afbf482f0bbb18cca5b5e39c2450de79876f07f2000"), looks := false }, kinds := [], alts := [], laidByText := true, laidKinds := [.data], laidTests := true, laidLooks := .later }
def SubsetOptimalCardSaid : Prop := Claim7.holds Tryz.pinned (.plain (OpenSpec.ofChange subsetOptimalSpec)) subsetOptimalCard

/-- THE TIED CARD OF 'drosslaw41.SubsetProof'. -/
def subsetProofCard : Claim7 := { stood := { row := subsetProofRow, standIns := [], harness := (true, "979e2973aa36c9decf1c7afbf482f0bbb18cca5b5e39c2450de79876f07f2000"), looks := false }, kinds := [], alts := [], laidByText := true, laidKinds := [.data], laidTests := true, laidLooks := .later }
def SubsetProofCardSaid : Prop := Claim7.holds Tryz.pinned (.plain (OpenSpec.ofChange subsetProofSpec)) subsetProofCard

/-- THE TIED CARD OF 'drosslaw41.SubsetCheck'. -/
def subsetCheckCard : Claim7 := { stood := { row := subsetCheckRow, standIns := [], harness := (true, "979e2973aa36c9decf1c7afbf482f0bbb18cca5b5e39c2450de79876f07f2000"), looks := false }, kinds := [], alts := [], laidByText := true, laidKinds := [.data], laidTests := true, laidLooks := .later }
def SubsetCheckCardSaid : Prop := Claim7.holds Tryz.pinned (.plain (OpenSpec.ofChange subsetCheckSpec)) subsetCheckCard

/-- THE TIED CARD OF 'drosslaw41.SubsetMonotone'. -/
def subsetMonotoneCard : Claim7 := { stood := { row := subsetMonotoneRow, standIns := [], harness := (true, "979e2973aa36c9decf1c7afbf482f0bbb18cca5b5e39c2450de79876f07f2000"), looks := false }, kinds := [], alts := [], laidByText := true, laidKinds := [.data], laidTests := true, laidLooks := .later }
def SubsetMonotoneCardSaid : Prop := Claim7.holds Tryz.pinned (.plain (OpenSpec.ofChange subsetMonotoneSpec)) subsetMonotoneCard

/-- THE TIED CARD OF 'drosslaw41.SubsetBounds'. -/
def subsetBoundsCard : Claim7 := { stood := { row := subsetBoundsRow, standIns := [], harness := (true, "979e2973aa36c9decf1c7afbf482f0bbb18cca5b5e39c2450de79876f07f2000"), looks := false }, kinds := [], alts := [], laidByText := true, laidKinds := [.data], laidTests := true, laidLooks := .later }
def SubsetBoundsCardSaid : Prop := Claim7.holds Tryz.pinned (.plain (OpenSpec.ofChange subsetBoundsSpec)) subsetBoundsCard

/-- THE TIED CARD OF 'drosslaw41.SubsetErrors'. -/
def subsetErrorsCard : Claim7 := { stood := { row := subsetErrorsRow, standIns := [], harness := (true, "979e2973aa36c9decf1c7afbf482f0bbb18cca5b5e39c2450de79876f07f2000"), looks := false }, kinds := [], alts := [], laidByText := true, laidKinds := [.data], laidTests := true, laidLooks := .later }
def SubsetErrorsCardSaid : Prop := Claim7.holds Tryz.pinned (.plain (OpenSpec.ofChange subsetErrorsSpec)) subsetErrorsCard

/-- THE TIED CARD OF 'drosslaw41.SubsetRepairs'. -/
def subsetRepairsCard : Claim7 := { stood := { row := subsetRepairsRow, standIns := [], harness := (true, "979e2973aa36c9decf1c7afbf482f0bbb18cca5b5e39c2450de79876f07f2000"), looks := false }, kinds := [], alts := [], laidByText := true, laidKinds := [.data], laidTests := true, laidLooks := .later }
def SubsetRepairsCardSaid : Prop := Claim7.holds Tryz.pinned (.plain (OpenSpec.ofChange subsetRepairsSpec)) subsetRepairsCard

/-- THE SECOND FORM's CARD OF 'drosslaw41.SubsetProblem'. -/
def subsetProblemUptoCard : Claim7 := { stood := { row := subsetProblemUptoRow, standIns := [], harness := (true, "979e2973aa36c9decf1c7afbf482f0bbb18cca5b5e39c2450de79876f07f2000"), looks := false }, kinds := [], alts := [], laidByText := true, laidKinds := [.data], laidTests := true, laidLooks := .later }
def SubsetProblemUptoCardSaid : Prop := Claim7.holds Tryz.pinned (.plain (OpenSpec.upto subsetProblemSpec)) subsetProblemUptoCard

/-- THE SECOND FORM's CARD OF 'drosslaw41.SubsetOptimal'. -/
def subsetOptimalUptoCard : Claim7 := { stood := { row := subsetOptimalUptoRow, standIns := [], harness := (true, "979e2973aa36c9decf1c7afbf482f0bbb18cca5b5e39c2450de79876f07f2000"), looks := false }, kinds := [], alts := [], laidByText := true, laidKinds := [.data], laidTests := true, laidLooks := .later }
def SubsetOptimalUptoCardSaid : Prop := Claim7.holds Tryz.pinned (.plain (OpenSpec.upto subsetOptimalSpec)) subsetOptimalUptoCard

/-- THE SECOND FORM's CARD OF 'drosslaw41.SubsetProof'. -/
def subsetProofUptoCard : Claim7 := { stood := { row := subsetProofUptoRow, standIns := [], harness := (true, "979e2973aa36c9decf1c7afbf482f0bbb18cca5b5e39c2450de79876f07f2000"), looks := false }, kinds := [], alts := [], laidByText := true, laidKinds := [.data], laidTests := true, laidLooks := .later }
def SubsetProofUptoCardSaid : Prop := Claim7.holds Tryz.pinned (.plain (OpenSpec.upto subsetProofSpec)) subsetProofUptoCard

/-- THE SECOND FORM's CARD OF 'drosslaw41.SubsetCheck'. -/
def subsetCheckUptoCard : Claim7 := { stood := { row := subsetCheckUptoRow, standIns := [], harness := (true, "979e2973aa36c9decf1c7afbf482f0bbb18cca5b5e39c2450de79876f07f2000"), looks := false }, kinds := [], alts := [], laidByText := true, laidKinds := [.data], laidTests := true, laidLooks := .later }
def SubsetCheckUptoCardSaid : Prop := Claim7.holds Tryz.pinned (.plain (OpenSpec.upto subsetCheckSpec)) subsetCheckUptoCard

/-- THE SECOND FORM's CARD OF 'drosslaw41.SubsetMonotone'. -/
def subsetMonotoneUptoCard : Claim7 := { stood := { row := subsetMonotoneUptoRow, standIns := [], harness := (true, "979e2973aa36c9decf1c7afbf482f0bbb18cca5b5e39c2450de79876f07f2000"), looks := false }, kinds := [], alts := [], laidByText := true, laidKinds := [.data], laidTests := true, laidLooks := .later }
def SubsetMonotoneUptoCardSaid : Prop := Claim7.holds Tryz.pinned (.plain (OpenSpec.upto subsetMonotoneSpec)) subsetMonotoneUptoCard

/-- THE SECOND FORM's CARD OF 'drosslaw41.SubsetBounds'. -/
def subsetBoundsUptoCard : Claim7 := { stood := { row := subsetBoundsUptoRow, standIns := [], harness := (true, "979e2973aa36c9decf1c7afbf482f0bbb18cca5b5e39c2450de79876f07f2000"), looks := false }, kinds := [], alts := [], laidByText := true, laidKinds := [.data], laidTests := true, laidLooks := .later }
def SubsetBoundsUptoCardSaid : Prop := Claim7.holds Tryz.pinned (.plain (OpenSpec.upto subsetBoundsSpec)) subsetBoundsUptoCard

/-- THE SECOND FORM's CARD OF 'drosslaw41.SubsetErrors'. -/
def subsetErrorsUptoCard : Claim7 := { stood := { row := subsetErrorsUptoRow, standIns := [], harness := (true, "979e2973aa36c9decf1c7afbf482f0bbb18cca5b5e39c2450de79876f07f2000"), looks := false }, kinds := [], alts := [], laidByText := true, laidKinds := [.data], laidTests := true, laidLooks := .later }
def SubsetErrorsUptoCardSaid : Prop := Claim7.holds Tryz.pinned (.plain (OpenSpec.upto subsetErrorsSpec)) subsetErrorsUptoCard

/-- THE SECOND FORM's CARD OF 'drosslaw41.SubsetRepairs'. -/
def subsetRepairsUptoCard : Claim7 := { stood := { row := subsetRepairsUptoRow, standIns := [], harness := (true, "979e2973aa36c9decf1c7afbf482f0bbb18cca5b5e39c2450de79876f07f2000"), looks := false }, kinds := [], alts := [], laidByText := true, laidKinds := [.data], laidTests := true, laidLooks := .later }
def SubsetRepairsUptoCardSaid : Prop := Claim7.holds Tryz.pinned (.plain (OpenSpec.upto subsetRepairsSpec)) subsetRepairsUptoCard
end Rows
end Go.Proofs.YtjogkbekekdkjaaGreatDoor
