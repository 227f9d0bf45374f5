/-
  DERIVED. GIVEN WITH THE SEED: THE CARDS: each row of YtfaleabndlcanaaGreatDoorRows.lean that lists a variable, with what it lists TIED to the program's text (the seventh form; the later family's looks); each row that meets fmt, with fmt's text TOLD by the authors' own Lean function (tested against real Go, not proved from fmt's source: count such statements apart). THE CARD IS WHAT COUNTS. Prove the row's statement (the work); the ties are given (YtfaleabndlcanaaGreatDoorTie.lean); close each card by the builder's one call (the guide's Derived/Test/ToyasCard.lean, 'card_holds'). Laid BY PROGRAM, IN A SANDBOX (cutbox-door.mjs). By AI agents, Wed Nov 11 2026. No macro, syntax, notation, axiom, sorry.
-/
import Derived.Test.YtfaleabndlcanaaGreatDoorRows
import GoSem.ClaimSeven
namespace Go.Proofs.YtfaleabndlcanaaGreatDoor
namespace Rows

/-- THE TIED CARD OF 'drosslaw37.ConflictErrors'. -/
def conflictErrorsCard : Claim7 := { stood := { row := conflictErrorsRow, standIns := [], harness := (true, "aba5a8bb8a2a7a0a20e3af641ed349c36bc73c4f7da2d6b94908e2a9845ca113"), looks := false }, kinds := [], alts := [], laidByText := true, laidKinds := [.data], laidTests := true, laidLooks := .later }
def ConflictErrorsCardSaid : Prop := Claim7.holds Tryz.pinned (.plain (OpenSpec.ofChange conflictErrorsSpec)) conflictErrorsCard

/-- THE TIED CARD OF 'drosslaw37.ConflictIndependent'. -/
def conflictIndependentCard : Claim7 := { stood := { row := conflictIndependentRow, standIns := [], harness := (true, "aba5a8bb8a2a7a0a20e3af641ed349c36bc73c4f7da2d6b94908e2a9845ca113"), looks := false }, kinds := [], alts := [], laidByText := true, laidKinds := [.data], laidTests := true, laidLooks := .later }
def ConflictIndependentCardSaid : Prop := Claim7.holds Tryz.pinned (.plain (OpenSpec.ofChange conflictIndependentSpec)) conflictIndependentCard

/-- THE TIED CARD OF 'drosslaw37.ConflictDegree'. -/
def conflictDegreeCard : Claim7 := { stood := { row := conflictDegreeRow, standIns := [], harness := (true, "aba5a8bb8a2a7a0a20e3af641ed349c36bc73c4f7da2d6b94908e2a9845ca113"), looks := false }, kinds := [], alts := [], laidByText := true, laidKinds := [.data], laidTests := true, laidLooks := .later }
def ConflictDegreeCardSaid : Prop := Claim7.holds Tryz.pinned (.plain (OpenSpec.ofChange conflictDegreeSpec)) conflictDegreeCard

/-- THE TIED CARD OF 'drosslaw37.ConflictBuild'. -/
def conflictBuildCard : Claim7 := { stood := { row := conflictBuildRow, standIns := [], harness := (true, "aba5a8bb8a2a7a0a20e3af641ed349c36bc73c4f7da2d6b94908e2a9845ca113"), looks := false }, kinds := [], alts := [], laidByText := true, laidKinds := [.data], laidTests := true, laidLooks := .later }
def ConflictBuildCardSaid : Prop := Claim7.holds Tryz.pinned (.plain (OpenSpec.ofChange conflictBuildSpec)) conflictBuildCard

/-- THE TIED CARD OF 'drosslaw37.ConflictValid'. -/
def conflictValidCard : Claim7 := { stood := { row := conflictValidRow, standIns := [], harness := (true, "aba5a8bb8a2a7a0a20e3af641ed349c36bc73c4f7da2d6b94908e2a9845ca113"), looks := false }, kinds := [], alts := [], laidByText := true, laidKinds := [.data], laidTests := true, laidLooks := .later }
def ConflictValidCardSaid : Prop := Claim7.holds Tryz.pinned (.plain (OpenSpec.ofChange conflictValidSpec)) conflictValidCard

/-- THE TIED CARD OF 'drosslaw37.ConflictRows'. -/
def conflictRowsCard : Claim7 := { stood := { row := conflictRowsRow, standIns := [], harness := (true, "aba5a8bb8a2a7a0a20e3af641ed349c36bc73c4f7da2d6b94908e2a9845ca113"), looks := false }, kinds := [], alts := [], laidByText := true, laidKinds := [.data], laidTests := true, laidLooks := .later }
def ConflictRowsCardSaid : Prop := Claim7.holds Tryz.pinned (.plain (OpenSpec.ofChange conflictRowsSpec)) conflictRowsCard

/-- THE TIED CARD OF 'drosslaw37.ConflictWithout'. -/
def conflictWithoutCard : Claim7 := { stood := { row := conflictWithoutRow, standIns := [], harness := (true, "aba5a8bb8a2a7a0a20e3af641ed349c36bc73c4f7da2d6b94908e2a9845ca113"), looks := false }, kinds := [], alts := [], laidByText := true, laidKinds := [.data], laidTests := true, laidLooks := .later }
def ConflictWithoutCardSaid : Prop := Claim7.holds Tryz.pinned (.plain (OpenSpec.ofChange conflictWithoutSpec)) conflictWithoutCard

/-- THE TIED CARD OF 'drosslaw37.ConflictComponents'. -/
def conflictComponentsCard : Claim7 := { stood := { row := conflictComponentsRow, standIns := [], harness := (true, "aba5a8bb8a2a7a0a20e3af641ed349c36bc73c4f7da2d6b94908e2a9845ca113"), looks := false }, kinds := [], alts := [], laidByText := true, laidKinds := [.data], laidTests := true, laidLooks := .later }
def ConflictComponentsCardSaid : Prop := Claim7.holds Tryz.pinned (.plain (OpenSpec.ofChange conflictComponentsSpec)) conflictComponentsCard

/-- THE SECOND FORM's CARD OF 'drosslaw37.ConflictErrors'. -/
def conflictErrorsUptoCard : Claim7 := { stood := { row := conflictErrorsUptoRow, standIns := [], harness := (true, "aba5a8bb8a2a7a0a20e3af641ed349c36bc73c4f7da2d6b94908e2a9845ca113"), looks := false }, kinds := [], alts := [], laidByText := true, laidKinds := [.data], laidTests := true, laidLooks := .later }
def ConflictErrorsUptoCardSaid : Prop := Claim7.holds Tryz.pinned (.plain (OpenSpec.upto conflictErrorsSpec)) conflictErrorsUptoCard

/-- THE SECOND FORM's CARD OF 'drosslaw37.ConflictIndependent'. -/
def conflictIndependentUptoCard : Claim7 := { stood := { row := conflictIndependentUptoRow, standIns := [], harness := (true, "aba5a8bb8a2a7a0a20e3af641ed349c36bc73c4f7da2d6b94908e2a9845ca113"), looks := false }, kinds := [], alts := [], laidByText := true, laidKinds := [.data], laidTests := true, laidLooks := .later }
def ConflictIndependentUptoCardSaid : Prop := Claim7.holds Tryz.pinned (.plain (OpenSpec.upto conflictIndependentSpec)) conflictIndependentUptoCard

/-- THE SECOND FORM's CARD OF 'drosslaw37.ConflictDegree'. -/
def conflictDegreeUptoCard : Claim7 := { stood := { row := conflictDegreeUptoRow, standIns := [], harness := (true, "aba5a8bb8a2a7a0a20e3af641ed349c36bc73c4f7da2d6b94908e2a9845ca113"), looks := false }, kinds := [], alts := [], laidByText := true, laidKinds := [.data], laidTests := true, laidLooks := .later }
def ConflictDegreeUptoCardSaid : Prop := Claim7.holds Tryz.pinned (.plain (OpenSpec.upto conflictDegreeSpec)) conflictDegreeUptoCard

/-- THE SECOND FORM's CARD OF 'drosslaw37.ConflictBuild'. -/
def conflictBuildUptoCard : Claim7 := { stood := { row := conflictBuildUptoRow, standIns := [], harness := (true, "aba5a8bb8a2a7a0a20e3af641ed349c36bc73c4f7da2d6b94908e2a9845ca113"), looks := false }, kinds := [], alts := [], laidByText := true, laidKinds := [.data], laidTests := true, laidLooks := .later }
def ConflictBuildUptoCardSaid : Prop := Claim7.holds Tryz.pinned (.plain (OpenSpec.upto conflictBuildSpec)) conflictBuildUptoCard

/-- THE SECOND FORM's CARD OF 'drosslaw37.ConflictValid'. -/
def conflictValidUptoCard : Claim7 := { stood := { row := conflictValidUptoRow, standIns := [], harness := (true, "aba5a8bb8a2a7a0a20e3af641ed349c36bc73c4f7da2d6b94908e2a9845ca113"), looks := false }, kinds := [], alts := [], laidByText := true, laidKinds := [.data], laidTests := true, laidLooks := .later }
def ConflictValidUptoCardSaid : Prop := Claim7.holds Tryz.pinned (.plain (OpenSpec.upto conflictValidSpec)) conflictValidUptoCard

/-- THE SECOND FORM's CARD OF 'drosslaw37.ConflictRows'. -/
def conflictRowsUptoCard : Claim7 := { stood := { row := conflictRowsUptoRow, standIns := [], harness := (true, "aba5a8bb8a2a7a0a20e3af641ed349c36bc73c4f7da2d6b94908e2a9845ca113"), looks := false }, kinds := [], alts := [], laidByText := true, laidKinds := [.data], laidTests := true, laidLooks := .later }
def ConflictRowsUptoCardSaid : Prop := Claim7.holds Tryz.pinned (.plain (OpenSpec.upto conflictRowsSpec)) conflictRowsUptoCard

/-- THE SECOND FORM's CARD OF 'drosslaw37.ConflictWithout'. -/
def conflictWithoutUptoCard : Claim7 := { stood := { row := conflictWithoutUptoRow, standIns := [], harness := (true, "aba5a8bb8a2a7a0a20e3af641ed349c36bc73c4f7da2d6b94908e2a9845ca113"), looks := false }, kinds := [], alts := [], laidByText := true, laidKinds := [.data], laidTests := true, laidLooks := .later }
def ConflictWithoutUptoCardSaid : Prop := Claim7.holds Tryz.pinned (.plain (OpenSpec.upto conflictWithoutSpec)) conflictWithoutUptoCard

/-- THE SECOND FORM's CARD OF 'drosslaw37.ConflictComponents'. -/
def conflictComponentsUptoCard : Claim7 := { stood := { row := conflictComponentsUptoRow, standIns := [], harness := (true, "aba5a8bb8a2a7a0a20e3af641ed349c36bc73c4f7da2d6b94908e2a9845ca113"), looks := false }, kinds := [], alts := [], laidByText := true, laidKinds := [.data], laidTests := true, laidLooks := .later }
def ConflictComponentsUptoCardSaid : Prop := Claim7.holds Tryz.pinned (.plain (OpenSpec.upto conflictComponentsSpec)) conflictComponentsUptoCard
end Rows
end Go.Proofs.YtfaleabndlcanaaGreatDoor
