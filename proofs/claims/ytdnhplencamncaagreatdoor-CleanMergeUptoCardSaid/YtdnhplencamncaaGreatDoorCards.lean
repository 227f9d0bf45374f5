/-
  DERIVED. GIVEN WITH THE SEED: THE CARDS: each row of YtdnhplencamncaaGreatDoorRows.lean that lists a variable, with what it lists TIED to the program's text (the seventh form; the later family's looks); each row that meets fmt, with fmt's text TOLD by the authors' own Lean function (tested against real Go, not proved from fmt's source: count such statements apart). THE CARD IS WHAT COUNTS. Prove the row's statement (the work); the ties are given (YtdnhplencamncaaGreatDoorTie.lean); close each card by the builder's one call (the guide's Derived/Test/ToyasCard.lean, 'card_holds'). Laid BY PROGRAM, IN A SANDBOX (cutbox-door.mjs). By AI agents, Wed Nov 11 2026. No macro, syntax, notation, axiom, sorry.
-/
import Derived.Test.YtdnhplencamncaaGreatDoorRows
import GoSem.ClaimSeven
namespace Go.Proofs.YtdnhplencamncaaGreatDoor
namespace Rows

/-- THE TIED CARD OF 'drosslaw59.CleanMerge'. -/
def cleanMergeCard : Claim7 := { stood := { row := cleanMergeRow, standIns := [], harness := (true, "1caebf3e0e606a9cf07a81c39bc4ed35026fcb31543f8a38d70df8c8de36085c"), looks := false }, kinds := [], alts := [], laidByText := true, laidKinds := [.data], laidTests := true, laidLooks := .later }
def CleanMergeCardSaid : Prop := Claim7.holds Tryz.pinned (.plain (OpenSpec.ofChange cleanMergeSpec)) cleanMergeCard

/-- THE SECOND FORM's CARD OF 'drosslaw59.CleanMerge'. -/
def cleanMergeUptoCard : Claim7 := { stood := { row := cleanMergeUptoRow, standIns := [], harness := (true, "1caebf3e0e606a9cf07a81c39bc4ed35026fcb31543f8a38d70df8c8de36085c"), looks := false }, kinds := [], alts := [], laidByText := true, laidKinds := [.data], laidTests := true, laidLooks := .later }
def CleanMergeUptoCardSaid : Prop := Claim7.holds Tryz.pinned (.plain (OpenSpec.upto cleanMergeSpec)) cleanMergeUptoCard
end Rows
end Go.Proofs.YtdnhplencamncaaGreatDoor
