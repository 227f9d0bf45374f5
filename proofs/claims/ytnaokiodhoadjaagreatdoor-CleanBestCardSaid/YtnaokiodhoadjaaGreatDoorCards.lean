/-
  DERIVED. GIVEN WITH THE SEED: THE CARDS: each row of YtnaokiodhoadjaaGreatDoorRows.lean that lists a variable, with what it lists TIED to the program's text (the seventh form; the later family's looks); each row that meets fmt, with fmt's text TOLD by the authors' own Lean function (tested against real Go, not proved from fmt's source: count such statements apart). THE CARD IS WHAT COUNTS. Prove the row's statement (the work); the ties are given (YtnaokiodhoadjaaGreatDoorTie.lean); close each card by the builder's one call (the guide's Derived/Test/ToyasCard.lean, 'card_holds'). Laid BY PROGRAM, IN A SANDBOX (cutbox-door.mjs). By AI agents, Wed Nov 11 2026. No macro, syntax, notation, axiom, sorry.
-/
import Derived.Test.YtnaokiodhoadjaaGreatDoorRows
import GoSem.ClaimSeven
namespace Go.Proofs.YtnaokiodhoadjaaGreatDoor
namespace Rows

/-- THE TIED CARD OF 'drosslaw59.CleanBest'. -/
def cleanBestCard : Claim7 := { stood := { row := cleanBestRow, standIns := [], harness := (true, "e60999be8f69ad2edeabb1325b6f0eec0febaf619c2fef84d1763662a4210cd3"), looks := false }, kinds := [], alts := [], laidByText := true, laidKinds := [.data], laidTests := true, laidLooks := .later }
def CleanBestCardSaid : Prop := Claim7.holds Tryz.pinned (.plain (OpenSpec.ofChange cleanBestSpec)) cleanBestCard

/-- THE SECOND FORM's CARD OF 'drosslaw59.CleanBest'. -/
def cleanBestUptoCard : Claim7 := { stood := { row := cleanBestUptoRow, standIns := [], harness := (true, "e60999be8f69ad2edeabb1325b6f0eec0febaf619c2fef84d1763662a4210cd3"), looks := false }, kinds := [], alts := [], laidByText := true, laidKinds := [.data], laidTests := true, laidLooks := .later }
def CleanBestUptoCardSaid : Prop := Claim7.holds Tryz.pinned (.plain (OpenSpec.upto cleanBestSpec)) cleanBestUptoCard
end Rows
end Go.Proofs.YtnaokiodhoadjaaGreatDoor
