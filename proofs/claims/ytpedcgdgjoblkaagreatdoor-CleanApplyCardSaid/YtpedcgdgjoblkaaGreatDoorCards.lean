/-
  DERIVED. GIVEN WITH THE SEED: THE CARDS: each row of YtpedcgdgjoblkaaGreatDoorRows.lean that lists a variable, with what it lists TIED to the program's text (the seventh form; the later family's looks); each row that meets fmt, with fmt's text TOLD by the authors' own Lean function (tested against real Go, not proved from fmt's source: count such statements apart). THE CARD IS WHAT COUNTS. Prove the row's statement (the work); the ties are given (YtpedcgdgjoblkaaGreatDoorTie.lean); close each card by the builder's one call (the guide's Derived/Test/ToyasCard.lean, 'card_holds'). Laid BY PROGRAM, IN A SANDBOX (cutbox-door.mjs). By AI agents, Wed Nov 11 2026. No macro, syntax, notation, axiom, sorry.
-/
import Derived.Test.YtpedcgdgjoblkaaGreatDoorRows
import GoSem.ClaimSeven
namespace Go.Proofs.YtpedcgdgjoblkaaGreatDoor
namespace Rows

/-- THE TIED CARD OF 'drosslaw59.CleanApply'. -/
def cleanApplyCard : Claim7 := { stood := { row := cleanApplyRow, standIns := [], harness := (true, "fb28b6edb8395fde1e96b6773d6b1806fb7ab770b449147cc39ebdced2b3d917"), looks := false }, kinds := [], alts := [], laidByText := true, laidKinds := [.data], laidTests := true, laidLooks := .later }
def CleanApplyCardSaid : Prop := Claim7.holds Tryz.pinned (.plain (OpenSpec.ofChange cleanApplySpec)) cleanApplyCard

/-- THE TIED CARD OF 'drosslaw59.CleanRound'. -/
def cleanRoundCard : Claim7 := { stood := { row := cleanRoundRow, standIns := [], harness := (true, "fb28b6edb8395fde1e96b6773d6b1806fb7ab770b449147cc39ebdced2b3d917"), looks := false }, kinds := [], alts := [], laidByText := true, laidKinds := [.data], laidTests := true, laidLooks := .later }
def CleanRoundCardSaid : Prop := Claim7.holds Tryz.pinned (.plain (OpenSpec.ofChange cleanRoundSpec)) cleanRoundCard

/-- THE TIED CARD OF 'drosslaw59.CleanState'. -/
def cleanStateCard : Claim7 := { stood := { row := cleanStateRow, standIns := [], harness := (true, "fb28b6edb8395fde1e96b6773d6b1806fb7ab770b449147cc39ebdced2b3d917"), looks := false }, kinds := [], alts := [], laidByText := true, laidKinds := [.data], laidTests := true, laidLooks := .later }
def CleanStateCardSaid : Prop := Claim7.holds Tryz.pinned (.plain (OpenSpec.ofChange cleanStateSpec)) cleanStateCard

/-- THE SECOND FORM's CARD OF 'drosslaw59.CleanApply'. -/
def cleanApplyUptoCard : Claim7 := { stood := { row := cleanApplyUptoRow, standIns := [], harness := (true, "fb28b6edb8395fde1e96b6773d6b1806fb7ab770b449147cc39ebdced2b3d917"), looks := false }, kinds := [], alts := [], laidByText := true, laidKinds := [.data], laidTests := true, laidLooks := .later }
def CleanApplyUptoCardSaid : Prop := Claim7.holds Tryz.pinned (.plain (OpenSpec.upto cleanApplySpec)) cleanApplyUptoCard

/-- THE SECOND FORM's CARD OF 'drosslaw59.CleanRound'. -/
def cleanRoundUptoCard : Claim7 := { stood := { row := cleanRoundUptoRow, standIns := [], harness := (true, "fb28b6edb8395fde1e96b6773d6b1806fb7ab770b449147cc39ebdced2b3d917"), looks := false }, kinds := [], alts := [], laidByText := true, laidKinds := [.data], laidTests := true, laidLooks := .later }
def CleanRoundUptoCardSaid : Prop := Claim7.holds Tryz.pinned (.plain (OpenSpec.upto cleanRoundSpec)) cleanRoundUptoCard

/-- THE SECOND FORM's CARD OF 'drosslaw59.CleanState'. -/
def cleanStateUptoCard : Claim7 := { stood := { row := cleanStateUptoRow, standIns := [], harness := (true, "fb28b6edb8395fde1e96b6773d6b1806fb7ab770b449147cc39ebdced2b3d917"), looks := false }, kinds := [], alts := [], laidByText := true, laidKinds := [.data], laidTests := true, laidLooks := .later }
def CleanStateUptoCardSaid : Prop := Claim7.holds Tryz.pinned (.plain (OpenSpec.upto cleanStateSpec)) cleanStateUptoCard
end Rows
end Go.Proofs.YtpedcgdgjoblkaaGreatDoor
