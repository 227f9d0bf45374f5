/-
  No cell of these rows narrows 'for every input' (looked for: loops, veiled, ifaces, maps, wideKeys, modest, calm, conditions, laid).
  DERIVED. THE GIVEN ROWS OF THIS SEAT. 8 by the template 'for every input the law returns true; each argument reads behind the call as it read before'; 0 by the template 'total and deterministic' (their statements: YteijbpppalhihaaGreatTotals.lean).
  GIVEN WITH THE SEED: the statements are not yours to turn. If you find one false, say at which input.
  Laid BY PROGRAM, IN A SANDBOX (cutbox-rows.mjs): the forced cells as the released guide's own fill.sh prints them over the translation 686e397c242cdced… (all of the seat's roots in one cut). By AI agents, Wed Nov 11 2026. No macro, syntax, notation, axiom, sorry.
-/
import Derived.Test.YteijbpppalhihaaGreatChecked
import GoSem.Claim
import GoSem.ClaimJoined
import GoSem.ClaimMapViews
import Derived.JoinedTies
import Derived.KernelRfl
namespace Go.Proofs.YteijbpppalhihaaGreat
/- THE CELL 'sum', in the pinned program and in every row, IS THE sha256 OF THE DUMP (.gsa) THAT YteijbpppalhihaaGreatProg.lean LOADS. Nothing in Lean hashes anything: it is a label: what it is worth is what the hold of that sum in a sandbox is worth. -/
noncomputable def Tryz.pinned : Pinned := { name := "yteijbpppalhihaagreat", sum := "686e397c242cdced993395d48aa3aa37709bdd122a11e0b3c301252c964c6a47", checked := Tryz.checked }
namespace Rows
def none {H : Type} : Left H := { results := [], args := [] }

/-- 'drosslaw45.UpdateEnough': WHATEVER THE INPUT: true; the input reads as it did. -/
def updateEnoughSpec : ChangeSpec := { name := "updateEnough", fn := fun _ => fun
  | [d1, d2, d3] => { results := [.lit (.bool true)], args := [d1, d2, d3] }
  | _ => none }
def updateEnoughRow : OpenClaim := { program := "yteijbpppalhihaagreat", sum := "686e397c242cdced993395d48aa3aa37709bdd122a11e0b3c301252c964c6a47", func := "dross/drosslaw45.UpdateEnough", spec := "updateEnough", inPlace := ["internal/bytealg.abigen_runtime_cmpstring"], unfollowed := true, recurses := true, apart := false }
def UpdateEnoughSaid : Prop := updateEnoughRow.holds Tryz.pinned (OpenSpec.ofChange updateEnoughSpec)

/-- ITS FALSE NEIGHBOUR: 'it returns false'. Refute it at one input. -/
def updateEnoughWrong : ChangeSpec := { name := "updateEnough", fn := fun _ => fun
  | [d1, d2, d3] => { results := [.lit (.bool false)], args := [d1, d2, d3] }
  | _ => none }
def UpdateEnoughWrongFalsely : Prop := updateEnoughRow.holds Tryz.pinned (OpenSpec.ofChange updateEnoughWrong)

/-- 'drosslaw45.UpdateValues': WHATEVER THE INPUT: true; the input reads as it did. -/
def updateValuesSpec : ChangeSpec := { name := "updateValues", fn := fun _ => fun
  | [d1, d2] => { results := [.lit (.bool true)], args := [d1, d2] }
  | _ => none }
def updateValuesRow : OpenClaim := { program := "yteijbpppalhihaagreat", sum := "686e397c242cdced993395d48aa3aa37709bdd122a11e0b3c301252c964c6a47", func := "dross/drosslaw45.UpdateValues", spec := "updateValues", inPlace := ["internal/bytealg.abigen_runtime_cmpstring"], unfollowed := true, recurses := true, apart := false }
def UpdateValuesSaid : Prop := updateValuesRow.holds Tryz.pinned (OpenSpec.ofChange updateValuesSpec)

/-- ITS FALSE NEIGHBOUR: 'it returns false'. Refute it at one input. -/
def updateValuesWrong : ChangeSpec := { name := "updateValues", fn := fun _ => fun
  | [d1, d2] => { results := [.lit (.bool false)], args := [d1, d2] }
  | _ => none }
def UpdateValuesWrongFalsely : Prop := updateValuesRow.holds Tryz.pinned (OpenSpec.ofChange updateValuesWrong)

/-- 'drosslaw45.UpdateHit': WHATEVER THE INPUT: true; the input reads as it did. -/
def updateHitSpec : ChangeSpec := { name := "updateHit", fn := fun _ => fun
  | [d1, d2] => { results := [.lit (.bool true)], args := [d1, d2] }
  | _ => none }
def updateHitRow : OpenClaim := { program := "yteijbpppalhihaagreat", sum := "686e397c242cdced993395d48aa3aa37709bdd122a11e0b3c301252c964c6a47", func := "dross/drosslaw45.UpdateHit", spec := "updateHit", inPlace := ["internal/bytealg.abigen_runtime_cmpstring"], unfollowed := true, recurses := true, apart := false }
def UpdateHitSaid : Prop := updateHitRow.holds Tryz.pinned (OpenSpec.ofChange updateHitSpec)

/-- ITS FALSE NEIGHBOUR: 'it returns false'. Refute it at one input. -/
def updateHitWrong : ChangeSpec := { name := "updateHit", fn := fun _ => fun
  | [d1, d2] => { results := [.lit (.bool false)], args := [d1, d2] }
  | _ => none }
def UpdateHitWrongFalsely : Prop := updateHitRow.holds Tryz.pinned (OpenSpec.ofChange updateHitWrong)

/-- 'drosslaw45.UpdateFill': WHATEVER THE INPUT: true; the input reads as it did. -/
def updateFillSpec : ChangeSpec := { name := "updateFill", fn := fun _ => fun
  | [d1, d2] => { results := [.lit (.bool true)], args := [d1, d2] }
  | _ => none }
def updateFillRow : OpenClaim := { program := "yteijbpppalhihaagreat", sum := "686e397c242cdced993395d48aa3aa37709bdd122a11e0b3c301252c964c6a47", func := "dross/drosslaw45.UpdateFill", spec := "updateFill", inPlace := ["internal/bytealg.abigen_runtime_cmpstring"], unfollowed := true, recurses := true, apart := false }
def UpdateFillSaid : Prop := updateFillRow.holds Tryz.pinned (OpenSpec.ofChange updateFillSpec)

/-- ITS FALSE NEIGHBOUR: 'it returns false'. Refute it at one input. -/
def updateFillWrong : ChangeSpec := { name := "updateFill", fn := fun _ => fun
  | [d1, d2] => { results := [.lit (.bool false)], args := [d1, d2] }
  | _ => none }
def UpdateFillWrongFalsely : Prop := updateFillRow.holds Tryz.pinned (OpenSpec.ofChange updateFillWrong)

/-- 'drosslaw45.UpdateOptimal': WHATEVER THE INPUT: true; the input reads as it did. -/
def updateOptimalSpec : ChangeSpec := { name := "updateOptimal", fn := fun _ => fun
  | [d] => { results := [.lit (.bool true)], args := [d] }
  | _ => none }
def updateOptimalRow : OpenClaim := { program := "yteijbpppalhihaagreat", sum := "686e397c242cdced993395d48aa3aa37709bdd122a11e0b3c301252c964c6a47", func := "dross/drosslaw45.UpdateOptimal", spec := "updateOptimal", inPlace := ["internal/bytealg.abigen_runtime_cmpstring"], unfollowed := true, recurses := true, apart := false }
def UpdateOptimalSaid : Prop := updateOptimalRow.holds Tryz.pinned (OpenSpec.ofChange updateOptimalSpec)

/-- ITS FALSE NEIGHBOUR: 'it returns false'. Refute it at one input. -/
def updateOptimalWrong : ChangeSpec := { name := "updateOptimal", fn := fun _ => fun
  | [d] => { results := [.lit (.bool false)], args := [d] }
  | _ => none }
def UpdateOptimalWrongFalsely : Prop := updateOptimalRow.holds Tryz.pinned (OpenSpec.ofChange updateOptimalWrong)

/-- 'drosslaw45.UpdateCheck': WHATEVER THE INPUT: true; the input reads as it did. -/
def updateCheckSpec : ChangeSpec := { name := "updateCheck", fn := fun _ => fun
  | [d1, d2] => { results := [.lit (.bool true)], args := [d1, d2] }
  | _ => none }
def updateCheckRow : OpenClaim := { program := "yteijbpppalhihaagreat", sum := "686e397c242cdced993395d48aa3aa37709bdd122a11e0b3c301252c964c6a47", func := "dross/drosslaw45.UpdateCheck", spec := "updateCheck", inPlace := ["internal/bytealg.abigen_runtime_cmpstring"], unfollowed := true, recurses := true, apart := false }
def UpdateCheckSaid : Prop := updateCheckRow.holds Tryz.pinned (OpenSpec.ofChange updateCheckSpec)

/-- ITS FALSE NEIGHBOUR: 'it returns false'. Refute it at one input. -/
def updateCheckWrong : ChangeSpec := { name := "updateCheck", fn := fun _ => fun
  | [d1, d2] => { results := [.lit (.bool false)], args := [d1, d2] }
  | _ => none }
def UpdateCheckWrongFalsely : Prop := updateCheckRow.holds Tryz.pinned (OpenSpec.ofChange updateCheckWrong)

/-- 'drosslaw45.UpdateCore': WHATEVER THE INPUT: true; the input reads as it did. -/
def updateCoreSpec : ChangeSpec := { name := "updateCore", fn := fun _ => fun
  | [d1, d2, d3] => { results := [.lit (.bool true)], args := [d1, d2, d3] }
  | _ => none }
def updateCoreRow : OpenClaim := { program := "yteijbpppalhihaagreat", sum := "686e397c242cdced993395d48aa3aa37709bdd122a11e0b3c301252c964c6a47", func := "dross/drosslaw45.UpdateCore", spec := "updateCore", inPlace := ["internal/bytealg.abigen_runtime_cmpstring"], unfollowed := true, recurses := true, apart := false }
def UpdateCoreSaid : Prop := updateCoreRow.holds Tryz.pinned (OpenSpec.ofChange updateCoreSpec)

/-- ITS FALSE NEIGHBOUR: 'it returns false'. Refute it at one input. -/
def updateCoreWrong : ChangeSpec := { name := "updateCore", fn := fun _ => fun
  | [d1, d2, d3] => { results := [.lit (.bool false)], args := [d1, d2, d3] }
  | _ => none }
def UpdateCoreWrongFalsely : Prop := updateCoreRow.holds Tryz.pinned (OpenSpec.ofChange updateCoreWrong)

/-- 'drosslaw45.UpdateErrors': WHATEVER THE INPUT: true; the input reads as it did. -/
def updateErrorsSpec : ChangeSpec := { name := "updateErrors", fn := fun _ => fun
  | [d1, d2, d3] => { results := [.lit (.bool true)], args := [d1, d2, d3] }
  | _ => none }
def updateErrorsRow : OpenClaim := { program := "yteijbpppalhihaagreat", sum := "686e397c242cdced993395d48aa3aa37709bdd122a11e0b3c301252c964c6a47", func := "dross/drosslaw45.UpdateErrors", spec := "updateErrors", inPlace := ["internal/bytealg.abigen_runtime_cmpstring"], unfollowed := true, recurses := true, apart := false }
def UpdateErrorsSaid : Prop := updateErrorsRow.holds Tryz.pinned (OpenSpec.ofChange updateErrorsSpec)

/-- ITS FALSE NEIGHBOUR: 'it returns false'. Refute it at one input. -/
def updateErrorsWrong : ChangeSpec := { name := "updateErrors", fn := fun _ => fun
  | [d1, d2, d3] => { results := [.lit (.bool false)], args := [d1, d2, d3] }
  | _ => none }
def UpdateErrorsWrongFalsely : Prop := updateErrorsRow.holds Tryz.pinned (OpenSpec.ofChange updateErrorsWrong)

/- THE SECOND FORM. 'bulk': how many values and letters a reading holds, each counted each time it is reached (what is shared counts as often as it is met; a slice's spare places count too). A statement '..UptoSaid' is the law's where the arguments, and the package variables that the reading takes, are together of bulk at most 1048576: NARROWER than '..Said'. Prove '..Said' where nothing that the law and all that it calls make is longer than what came in: it says more and counts as full. Else prove '..UptoSaid'. A law counts once. -/
mutual
def uptoBulk {H : Type} : DataW H → Nat
  | .lit (.string bytes) => bytes.length + 1
  | .lit _ => 1
  | .nil => 1
  | .ptr d => uptoBulk d + 1
  | .slice elems spare => uptoBulkAll elems + uptoBulkAll spare + 1
  | .agg parts => uptoBulkAll parts + 1
  | .iface _ d => uptoBulk d + 1
  | .map entries => uptoBulkEntries entries + 1
  | .held _ => 1
def uptoBulkAll {H : Type} : List (DataW H) → Nat
  | [] => 0
  | d :: r => uptoBulk d + uptoBulkAll r
def uptoBulkEntries {H : Type} : List (Lit × DataW H) → Nat
  | [] => 0
  | x :: r => uptoBulkEntry x + uptoBulkEntries r
def uptoBulkEntry {H : Type} : Lit × DataW H → Nat
  | (.string bytes, d) => bytes.length + uptoBulk d + 1
  | (_, d) => uptoBulk d + 1
 end
def uptoSmall : (H : Type) → List (DataW H) → Bool := fun _ ds => decide (uptoBulkAll ds ≤ 1048576)
def OpenSpec.upto (s : _root_.Go.ChangeSpec) : _root_.Go.OpenSpec := { _root_.Go.OpenSpec.ofChange s with cond := some uptoSmall }

/-- 'drosslaw45.UpdateEnough', WHERE WHAT IT READS IS OF BULK AT MOST 1048576: true; the input reads as it did. -/
def updateEnoughUptoRow : OpenClaim := { program := "yteijbpppalhihaagreat", sum := "686e397c242cdced993395d48aa3aa37709bdd122a11e0b3c301252c964c6a47", func := "dross/drosslaw45.UpdateEnough", spec := "updateEnough", inPlace := ["internal/bytealg.abigen_runtime_cmpstring"], unfollowed := true, recurses := true, apart := false, narrowed := true }
def UpdateEnoughUptoSaid : Prop := updateEnoughUptoRow.holds Tryz.pinned (OpenSpec.upto updateEnoughSpec)

/-- 'drosslaw45.UpdateValues', WHERE WHAT IT READS IS OF BULK AT MOST 1048576: true; the input reads as it did. -/
def updateValuesUptoRow : OpenClaim := { program := "yteijbpppalhihaagreat", sum := "686e397c242cdced993395d48aa3aa37709bdd122a11e0b3c301252c964c6a47", func := "dross/drosslaw45.UpdateValues", spec := "updateValues", inPlace := ["internal/bytealg.abigen_runtime_cmpstring"], unfollowed := true, recurses := true, apart := false, narrowed := true }
def UpdateValuesUptoSaid : Prop := updateValuesUptoRow.holds Tryz.pinned (OpenSpec.upto updateValuesSpec)

/-- 'drosslaw45.UpdateHit', WHERE WHAT IT READS IS OF BULK AT MOST 1048576: true; the input reads as it did. -/
def updateHitUptoRow : OpenClaim := { program := "yteijbpppalhihaagreat", sum := "686e397c242cdced993395d48aa3aa37709bdd122a11e0b3c301252c964c6a47", func := "dross/drosslaw45.UpdateHit", spec := "updateHit", inPlace := ["internal/bytealg.abigen_runtime_cmpstring"], unfollowed := true, recurses := true, apart := false, narrowed := true }
def UpdateHitUptoSaid : Prop := updateHitUptoRow.holds Tryz.pinned (OpenSpec.upto updateHitSpec)

/-- 'drosslaw45.UpdateFill', WHERE WHAT IT READS IS OF BULK AT MOST 1048576: true; the input reads as it did. -/
def updateFillUptoRow : OpenClaim := { program := "yteijbpppalhihaagreat", sum := "686e397c242cdced993395d48aa3aa37709bdd122a11e0b3c301252c964c6a47", func := "dross/drosslaw45.UpdateFill", spec := "updateFill", inPlace := ["internal/bytealg.abigen_runtime_cmpstring"], unfollowed := true, recurses := true, apart := false, narrowed := true }
def UpdateFillUptoSaid : Prop := updateFillUptoRow.holds Tryz.pinned (OpenSpec.upto updateFillSpec)

/-- 'drosslaw45.UpdateOptimal', WHERE WHAT IT READS IS OF BULK AT MOST 1048576: true; the input reads as it did. -/
def updateOptimalUptoRow : OpenClaim := { program := "yteijbpppalhihaagreat", sum := "686e397c242cdced993395d48aa3aa37709bdd122a11e0b3c301252c964c6a47", func := "dross/drosslaw45.UpdateOptimal", spec := "updateOptimal", inPlace := ["internal/bytealg.abigen_runtime_cmpstring"], unfollowed := true, recurses := true, apart := false, narrowed := true }
def UpdateOptimalUptoSaid : Prop := updateOptimalUptoRow.holds Tryz.pinned (OpenSpec.upto updateOptimalSpec)

/-- 'drosslaw45.UpdateCheck', WHERE WHAT IT READS IS OF BULK AT MOST 1048576: true; the input reads as it did. -/
def updateCheckUptoRow : OpenClaim := { program := "yteijbpppalhihaagreat", sum := "686e397c242cdced993395d48aa3aa37709bdd122a11e0b3c301252c964c6a47", func := "dross/drosslaw45.UpdateCheck", spec := "updateCheck", inPlace := ["internal/bytealg.abigen_runtime_cmpstring"], unfollowed := true, recurses := true, apart := false, narrowed := true }
def UpdateCheckUptoSaid : Prop := updateCheckUptoRow.holds Tryz.pinned (OpenSpec.upto updateCheckSpec)

/-- 'drosslaw45.UpdateCore', WHERE WHAT IT READS IS OF BULK AT MOST 1048576: true; the input reads as it did. -/
def updateCoreUptoRow : OpenClaim := { program := "yteijbpppalhihaagreat", sum := "686e397c242cdced993395d48aa3aa37709bdd122a11e0b3c301252c964c6a47", func := "dross/drosslaw45.UpdateCore", spec := "updateCore", inPlace := ["internal/bytealg.abigen_runtime_cmpstring"], unfollowed := true, recurses := true, apart := false, narrowed := true }
def UpdateCoreUptoSaid : Prop := updateCoreUptoRow.holds Tryz.pinned (OpenSpec.upto updateCoreSpec)

/-- 'drosslaw45.UpdateErrors', WHERE WHAT IT READS IS OF BULK AT MOST 1048576: true; the input reads as it did. -/
def updateErrorsUptoRow : OpenClaim := { program := "yteijbpppalhihaagreat", sum := "686e397c242cdced993395d48aa3aa37709bdd122a11e0b3c301252c964c6a47", func := "dross/drosslaw45.UpdateErrors", spec := "updateErrors", inPlace := ["internal/bytealg.abigen_runtime_cmpstring"], unfollowed := true, recurses := true, apart := false, narrowed := true }
def UpdateErrorsUptoSaid : Prop := updateErrorsUptoRow.holds Tryz.pinned (OpenSpec.upto updateErrorsSpec)

end Rows
end Go.Proofs.YteijbpppalhihaaGreat
