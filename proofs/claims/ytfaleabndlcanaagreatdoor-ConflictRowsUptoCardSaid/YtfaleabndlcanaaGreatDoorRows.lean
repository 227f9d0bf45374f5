/-
  NARROWER THAN 'FOR EVERY INPUT', by the rows' own cells (each row's printed sentence says how): ConflictErrors: laid · ConflictIndependent: laid · ConflictDegree: laid · ConflictBuild: laid · ConflictValid: laid · ConflictRows: laid · ConflictWithout: laid · ConflictComponents: laid.
  DERIVED. THE GIVEN ROWS OF THIS SEAT. 8 by the template 'for every input the law returns true; each argument reads behind the call as it read before'; 0 by the template 'total and deterministic' (their statements: YtfaleabndlcanaaGreatDoorTotals.lean).
  GIVEN WITH THE SEED: the statements are not yours to turn. If you find one false, say at which input.
  Laid BY PROGRAM, IN A SANDBOX (cutbox-rows.mjs): the forced cells as the released guide's own fill.sh prints them over the translation 87bb78099c583e80… (all of the seat's roots in one cut). By AI agents, Wed Nov 11 2026. No macro, syntax, notation, axiom, sorry.
-/
import Derived.Test.YtfaleabndlcanaaGreatDoorChecked
import GoSem.Claim
import GoSem.ClaimJoined
import GoSem.ClaimMapViews
import Derived.JoinedTies
import Derived.KernelRfl
namespace Go.Proofs.YtfaleabndlcanaaGreatDoor
/- THE CELL 'sum', in the pinned program and in every row, IS THE sha256 OF THE DUMP (.gsa) THAT YtfaleabndlcanaaGreatDoorProg.lean LOADS. Nothing in Lean hashes anything: it is a label: what it is worth is what the hold of that sum in a sandbox is worth. -/
noncomputable def Tryz.pinned : Pinned := { name := "ytfaleabndlcanaagreatdoor", sum := "87bb78099c583e80e459a7bfdb3dbfca88553756d8d67b50e438a15f9e10c33c", checked := Tryz.checked }
namespace Rows
def none {H : Type} : Left H := { results := [], args := [] }

/- WHAT THE LISTED PACKAGE-LEVEL VARIABLES READ AS WHEN THE CALL BEGINS. Each datum BY PROGRAM (the guide's laid-datum.mjs) off the statement by which the dump's own 'gosem.cut.vars' lays the variable. In a bare row this is a premise. The card (YtfaleabndlcanaaGreatDoorCards.lean) ties it to the program's text. -/
def laid_math_bits_deBruijn32tab {H : Type} : DataW H := .agg [.lit (.int .u8 0), .lit (.int .u8 1), .lit (.int .u8 28), .lit (.int .u8 2), .lit (.int .u8 29), .lit (.int .u8 14), .lit (.int .u8 24), .lit (.int .u8 3), .lit (.int .u8 30), .lit (.int .u8 22), .lit (.int .u8 20), .lit (.int .u8 15), .lit (.int .u8 25), .lit (.int .u8 17), .lit (.int .u8 4), .lit (.int .u8 8), .lit (.int .u8 31), .lit (.int .u8 27), .lit (.int .u8 13), .lit (.int .u8 23), .lit (.int .u8 21), .lit (.int .u8 19), .lit (.int .u8 16), .lit (.int .u8 7), .lit (.int .u8 26), .lit (.int .u8 12), .lit (.int .u8 18), .lit (.int .u8 6), .lit (.int .u8 11), .lit (.int .u8 5), .lit (.int .u8 10), .lit (.int .u8 9)]

/-- 'drosslaw37.ConflictErrors': WHATEVER THE INPUT: true; the input reads as it did. -/
def conflictErrorsSpec : ChangeSpec := { name := "conflictErrors", fn := fun _ => fun
  | [d1, d2] => { results := [.lit (.bool true)], args := [d1, d2] }
  | _ => none }
def conflictErrorsRow : OpenClaim := { program := "ytfaleabndlcanaagreatdoor", sum := "87bb78099c583e80e459a7bfdb3dbfca88553756d8d67b50e438a15f9e10c33c", func := "dross/drosslaw37.ConflictErrors", spec := "conflictErrors", inPlace := ["internal/bytealg.abigen_runtime_cmpstring", "slices.overlaps[int64]"], unfollowed := true, recurses := true, named := ["math/bits.deBruijn32tab"], plainKeys := false, apart := false, laid := [("math/bits.deBruijn32tab", laid_math_bits_deBruijn32tab)] }
def ConflictErrorsSaid : Prop := conflictErrorsRow.holds Tryz.pinned (OpenSpec.ofChange conflictErrorsSpec)

/-- ITS FALSE NEIGHBOUR: 'it returns false'. Refute it at one input. -/
def conflictErrorsWrong : ChangeSpec := { name := "conflictErrors", fn := fun _ => fun
  | [d1, d2] => { results := [.lit (.bool false)], args := [d1, d2] }
  | _ => none }
def ConflictErrorsWrongFalsely : Prop := conflictErrorsRow.holds Tryz.pinned (OpenSpec.ofChange conflictErrorsWrong)

/-- 'drosslaw37.ConflictIndependent': WHATEVER THE INPUT: true; the input reads as it did. -/
def conflictIndependentSpec : ChangeSpec := { name := "conflictIndependent", fn := fun _ => fun
  | [d1, d2] => { results := [.lit (.bool true)], args := [d1, d2] }
  | _ => none }
def conflictIndependentRow : OpenClaim := { program := "ytfaleabndlcanaagreatdoor", sum := "87bb78099c583e80e459a7bfdb3dbfca88553756d8d67b50e438a15f9e10c33c", func := "dross/drosslaw37.ConflictIndependent", spec := "conflictIndependent", inPlace := ["internal/bytealg.abigen_runtime_cmpstring", "slices.overlaps[int64]"], unfollowed := true, recurses := true, named := ["math/bits.deBruijn32tab"], plainKeys := false, apart := false, laid := [("math/bits.deBruijn32tab", laid_math_bits_deBruijn32tab)] }
def ConflictIndependentSaid : Prop := conflictIndependentRow.holds Tryz.pinned (OpenSpec.ofChange conflictIndependentSpec)

/-- ITS FALSE NEIGHBOUR: 'it returns false'. Refute it at one input. -/
def conflictIndependentWrong : ChangeSpec := { name := "conflictIndependent", fn := fun _ => fun
  | [d1, d2] => { results := [.lit (.bool false)], args := [d1, d2] }
  | _ => none }
def ConflictIndependentWrongFalsely : Prop := conflictIndependentRow.holds Tryz.pinned (OpenSpec.ofChange conflictIndependentWrong)

/-- 'drosslaw37.ConflictDegree': WHATEVER THE INPUT: true; the input reads as it did. -/
def conflictDegreeSpec : ChangeSpec := { name := "conflictDegree", fn := fun _ => fun
  | [d1, d2] => { results := [.lit (.bool true)], args := [d1, d2] }
  | _ => none }
def conflictDegreeRow : OpenClaim := { program := "ytfaleabndlcanaagreatdoor", sum := "87bb78099c583e80e459a7bfdb3dbfca88553756d8d67b50e438a15f9e10c33c", func := "dross/drosslaw37.ConflictDegree", spec := "conflictDegree", inPlace := ["internal/bytealg.abigen_runtime_cmpstring", "slices.overlaps[int64]"], unfollowed := true, recurses := true, named := ["math/bits.deBruijn32tab"], plainKeys := false, apart := false, laid := [("math/bits.deBruijn32tab", laid_math_bits_deBruijn32tab)] }
def ConflictDegreeSaid : Prop := conflictDegreeRow.holds Tryz.pinned (OpenSpec.ofChange conflictDegreeSpec)

/-- ITS FALSE NEIGHBOUR: 'it returns false'. Refute it at one input. -/
def conflictDegreeWrong : ChangeSpec := { name := "conflictDegree", fn := fun _ => fun
  | [d1, d2] => { results := [.lit (.bool false)], args := [d1, d2] }
  | _ => none }
def ConflictDegreeWrongFalsely : Prop := conflictDegreeRow.holds Tryz.pinned (OpenSpec.ofChange conflictDegreeWrong)

/-- 'drosslaw37.ConflictBuild': WHATEVER THE INPUT: true; the input reads as it did. -/
def conflictBuildSpec : ChangeSpec := { name := "conflictBuild", fn := fun _ => fun
  | [d1, d2] => { results := [.lit (.bool true)], args := [d1, d2] }
  | _ => none }
def conflictBuildRow : OpenClaim := { program := "ytfaleabndlcanaagreatdoor", sum := "87bb78099c583e80e459a7bfdb3dbfca88553756d8d67b50e438a15f9e10c33c", func := "dross/drosslaw37.ConflictBuild", spec := "conflictBuild", inPlace := ["internal/bytealg.abigen_runtime_cmpstring", "slices.overlaps[int64]"], unfollowed := true, recurses := true, named := ["math/bits.deBruijn32tab"], plainKeys := false, apart := false, laid := [("math/bits.deBruijn32tab", laid_math_bits_deBruijn32tab)] }
def ConflictBuildSaid : Prop := conflictBuildRow.holds Tryz.pinned (OpenSpec.ofChange conflictBuildSpec)

/-- ITS FALSE NEIGHBOUR: 'it returns false'. Refute it at one input. -/
def conflictBuildWrong : ChangeSpec := { name := "conflictBuild", fn := fun _ => fun
  | [d1, d2] => { results := [.lit (.bool false)], args := [d1, d2] }
  | _ => none }
def ConflictBuildWrongFalsely : Prop := conflictBuildRow.holds Tryz.pinned (OpenSpec.ofChange conflictBuildWrong)

/-- 'drosslaw37.ConflictValid': WHATEVER THE INPUT: true; the input reads as it did. -/
def conflictValidSpec : ChangeSpec := { name := "conflictValid", fn := fun _ => fun
  | [d] => { results := [.lit (.bool true)], args := [d] }
  | _ => none }
def conflictValidRow : OpenClaim := { program := "ytfaleabndlcanaagreatdoor", sum := "87bb78099c583e80e459a7bfdb3dbfca88553756d8d67b50e438a15f9e10c33c", func := "dross/drosslaw37.ConflictValid", spec := "conflictValid", inPlace := ["internal/bytealg.abigen_runtime_cmpstring", "slices.overlaps[int64]"], unfollowed := true, recurses := true, named := ["math/bits.deBruijn32tab"], plainKeys := false, apart := false, laid := [("math/bits.deBruijn32tab", laid_math_bits_deBruijn32tab)] }
def ConflictValidSaid : Prop := conflictValidRow.holds Tryz.pinned (OpenSpec.ofChange conflictValidSpec)

/-- ITS FALSE NEIGHBOUR: 'it returns false'. Refute it at one input. -/
def conflictValidWrong : ChangeSpec := { name := "conflictValid", fn := fun _ => fun
  | [d] => { results := [.lit (.bool false)], args := [d] }
  | _ => none }
def ConflictValidWrongFalsely : Prop := conflictValidRow.holds Tryz.pinned (OpenSpec.ofChange conflictValidWrong)

/-- 'drosslaw37.ConflictRows': WHATEVER THE INPUT: true; the input reads as it did. -/
def conflictRowsSpec : ChangeSpec := { name := "conflictRows", fn := fun _ => fun
  | [d1, d2, d3] => { results := [.lit (.bool true)], args := [d1, d2, d3] }
  | _ => none }
def conflictRowsRow : OpenClaim := { program := "ytfaleabndlcanaagreatdoor", sum := "87bb78099c583e80e459a7bfdb3dbfca88553756d8d67b50e438a15f9e10c33c", func := "dross/drosslaw37.ConflictRows", spec := "conflictRows", inPlace := ["internal/bytealg.abigen_runtime_cmpstring", "slices.overlaps[int64]"], unfollowed := true, recurses := true, named := ["math/bits.deBruijn32tab"], plainKeys := false, apart := false, laid := [("math/bits.deBruijn32tab", laid_math_bits_deBruijn32tab)] }
def ConflictRowsSaid : Prop := conflictRowsRow.holds Tryz.pinned (OpenSpec.ofChange conflictRowsSpec)

/-- ITS FALSE NEIGHBOUR: 'it returns false'. Refute it at one input. -/
def conflictRowsWrong : ChangeSpec := { name := "conflictRows", fn := fun _ => fun
  | [d1, d2, d3] => { results := [.lit (.bool false)], args := [d1, d2, d3] }
  | _ => none }
def ConflictRowsWrongFalsely : Prop := conflictRowsRow.holds Tryz.pinned (OpenSpec.ofChange conflictRowsWrong)

/-- 'drosslaw37.ConflictWithout': WHATEVER THE INPUT: true; the input reads as it did. -/
def conflictWithoutSpec : ChangeSpec := { name := "conflictWithout", fn := fun _ => fun
  | [d1, d2] => { results := [.lit (.bool true)], args := [d1, d2] }
  | _ => none }
def conflictWithoutRow : OpenClaim := { program := "ytfaleabndlcanaagreatdoor", sum := "87bb78099c583e80e459a7bfdb3dbfca88553756d8d67b50e438a15f9e10c33c", func := "dross/drosslaw37.ConflictWithout", spec := "conflictWithout", inPlace := ["internal/bytealg.abigen_runtime_cmpstring", "slices.overlaps[int64]"], unfollowed := true, recurses := true, named := ["math/bits.deBruijn32tab"], plainKeys := false, apart := false, laid := [("math/bits.deBruijn32tab", laid_math_bits_deBruijn32tab)] }
def ConflictWithoutSaid : Prop := conflictWithoutRow.holds Tryz.pinned (OpenSpec.ofChange conflictWithoutSpec)

/-- ITS FALSE NEIGHBOUR: 'it returns false'. Refute it at one input. -/
def conflictWithoutWrong : ChangeSpec := { name := "conflictWithout", fn := fun _ => fun
  | [d1, d2] => { results := [.lit (.bool false)], args := [d1, d2] }
  | _ => none }
def ConflictWithoutWrongFalsely : Prop := conflictWithoutRow.holds Tryz.pinned (OpenSpec.ofChange conflictWithoutWrong)

/-- 'drosslaw37.ConflictComponents': WHATEVER THE INPUT: true; the input reads as it did. -/
def conflictComponentsSpec : ChangeSpec := { name := "conflictComponents", fn := fun _ => fun
  | [d1, d2] => { results := [.lit (.bool true)], args := [d1, d2] }
  | _ => none }
def conflictComponentsRow : OpenClaim := { program := "ytfaleabndlcanaagreatdoor", sum := "87bb78099c583e80e459a7bfdb3dbfca88553756d8d67b50e438a15f9e10c33c", func := "dross/drosslaw37.ConflictComponents", spec := "conflictComponents", inPlace := ["internal/bytealg.abigen_runtime_cmpstring", "slices.overlaps[int64]"], unfollowed := true, recurses := true, named := ["math/bits.deBruijn32tab"], plainKeys := false, apart := false, laid := [("math/bits.deBruijn32tab", laid_math_bits_deBruijn32tab)] }
def ConflictComponentsSaid : Prop := conflictComponentsRow.holds Tryz.pinned (OpenSpec.ofChange conflictComponentsSpec)

/-- ITS FALSE NEIGHBOUR: 'it returns false'. Refute it at one input. -/
def conflictComponentsWrong : ChangeSpec := { name := "conflictComponents", fn := fun _ => fun
  | [d1, d2] => { results := [.lit (.bool false)], args := [d1, d2] }
  | _ => none }
def ConflictComponentsWrongFalsely : Prop := conflictComponentsRow.holds Tryz.pinned (OpenSpec.ofChange conflictComponentsWrong)

/- THE SECOND FORM. 'bulk': how many values and letters a reading holds, each counted each time it is reached (what is shared counts as often as it is met; a slice's spare places count too). A statement '..UptoSaid' is the law's where the arguments, and the package variables that the reading takes, are together of bulk at most 1048576: NARROWER than '..Said'. Prove '..Said' where nothing that the law and all that it calls make is longer than what came in: it says more and counts as full. Else prove '..UptoSaid'. A law counts once. -/
mutual
def uptoBulk {H : Type} : DataW H → Nat
  | .lit (.string bytes) => bytes.length + 1
  | .lit _ => 1
  | .nil => 1
  | .ptr d => uptoBulk d + 1
  | .slice elems spare => uptoBulkAll elems + uptoBulkAll spare + 1
  | .agg parts => uptoBulkAll parts + 1
  | .iface _ d => uptoBulk d + 1
  | .map entries => uptoBulkEntries entries + 1
  | .held _ => 1
def uptoBulkAll {H : Type} : List (DataW H) → Nat
  | [] => 0
  | d :: r => uptoBulk d + uptoBulkAll r
def uptoBulkEntries {H : Type} : List (Lit × DataW H) → Nat
  | [] => 0
  | x :: r => uptoBulkEntry x + uptoBulkEntries r
def uptoBulkEntry {H : Type} : Lit × DataW H → Nat
  | (.string bytes, d) => bytes.length + uptoBulk d + 1
  | (_, d) => uptoBulk d + 1
 end
def uptoSmall : (H : Type) → List (DataW H) → Bool := fun _ ds => decide (uptoBulkAll ds ≤ 1048576)
def OpenSpec.upto (s : _root_.Go.ChangeSpec) : _root_.Go.OpenSpec := { _root_.Go.OpenSpec.ofChange s with cond := some uptoSmall }

/-- 'drosslaw37.ConflictErrors', WHERE WHAT IT READS IS OF BULK AT MOST 1048576: true; the input reads as it did. -/
def conflictErrorsUptoRow : OpenClaim := { program := "ytfaleabndlcanaagreatdoor", sum := "87bb78099c583e80e459a7bfdb3dbfca88553756d8d67b50e438a15f9e10c33c", func := "dross/drosslaw37.ConflictErrors", spec := "conflictErrors", inPlace := ["internal/bytealg.abigen_runtime_cmpstring", "slices.overlaps[int64]"], unfollowed := true, recurses := true, named := ["math/bits.deBruijn32tab"], plainKeys := false, apart := false, laid := [("math/bits.deBruijn32tab", laid_math_bits_deBruijn32tab)], narrowed := true }
def ConflictErrorsUptoSaid : Prop := conflictErrorsUptoRow.holds Tryz.pinned (OpenSpec.upto conflictErrorsSpec)

/-- 'drosslaw37.ConflictIndependent', WHERE WHAT IT READS IS OF BULK AT MOST 1048576: true; the input reads as it did. -/
def conflictIndependentUptoRow : OpenClaim := { program := "ytfaleabndlcanaagreatdoor", sum := "87bb78099c583e80e459a7bfdb3dbfca88553756d8d67b50e438a15f9e10c33c", func := "dross/drosslaw37.ConflictIndependent", spec := "conflictIndependent", inPlace := ["internal/bytealg.abigen_runtime_cmpstring", "slices.overlaps[int64]"], unfollowed := true, recurses := true, named := ["math/bits.deBruijn32tab"], plainKeys := false, apart := false, laid := [("math/bits.deBruijn32tab", laid_math_bits_deBruijn32tab)], narrowed := true }
def ConflictIndependentUptoSaid : Prop := conflictIndependentUptoRow.holds Tryz.pinned (OpenSpec.upto conflictIndependentSpec)

/-- 'drosslaw37.ConflictDegree', WHERE WHAT IT READS IS OF BULK AT MOST 1048576: true; the input reads as it did. -/
def conflictDegreeUptoRow : OpenClaim := { program := "ytfaleabndlcanaagreatdoor", sum := "87bb78099c583e80e459a7bfdb3dbfca88553756d8d67b50e438a15f9e10c33c", func := "dross/drosslaw37.ConflictDegree", spec := "conflictDegree", inPlace := ["internal/bytealg.abigen_runtime_cmpstring", "slices.overlaps[int64]"], unfollowed := true, recurses := true, named := ["math/bits.deBruijn32tab"], plainKeys := false, apart := false, laid := [("math/bits.deBruijn32tab", laid_math_bits_deBruijn32tab)], narrowed := true }
def ConflictDegreeUptoSaid : Prop := conflictDegreeUptoRow.holds Tryz.pinned (OpenSpec.upto conflictDegreeSpec)

/-- 'drosslaw37.ConflictBuild', WHERE WHAT IT READS IS OF BULK AT MOST 1048576: true; the input reads as it did. -/
def conflictBuildUptoRow : OpenClaim := { program := "ytfaleabndlcanaagreatdoor", sum := "87bb78099c583e80e459a7bfdb3dbfca88553756d8d67b50e438a15f9e10c33c", func := "dross/drosslaw37.ConflictBuild", spec := "conflictBuild", inPlace := ["internal/bytealg.abigen_runtime_cmpstring", "slices.overlaps[int64]"], unfollowed := true, recurses := true, named := ["math/bits.deBruijn32tab"], plainKeys := false, apart := false, laid := [("math/bits.deBruijn32tab", laid_math_bits_deBruijn32tab)], narrowed := true }
def ConflictBuildUptoSaid : Prop := conflictBuildUptoRow.holds Tryz.pinned (OpenSpec.upto conflictBuildSpec)

/-- 'drosslaw37.ConflictValid', WHERE WHAT IT READS IS OF BULK AT MOST 1048576: true; the input reads as it did. -/
def conflictValidUptoRow : OpenClaim := { program := "ytfaleabndlcanaagreatdoor", sum := "87bb78099c583e80e459a7bfdb3dbfca88553756d8d67b50e438a15f9e10c33c", func := "dross/drosslaw37.ConflictValid", spec := "conflictValid", inPlace := ["internal/bytealg.abigen_runtime_cmpstring", "slices.overlaps[int64]"], unfollowed := true, recurses := true, named := ["math/bits.deBruijn32tab"], plainKeys := false, apart := false, laid := [("math/bits.deBruijn32tab", laid_math_bits_deBruijn32tab)], narrowed := true }
def ConflictValidUptoSaid : Prop := conflictValidUptoRow.holds Tryz.pinned (OpenSpec.upto conflictValidSpec)

/-- 'drosslaw37.ConflictRows', WHERE WHAT IT READS IS OF BULK AT MOST 1048576: true; the input reads as it did. -/
def conflictRowsUptoRow : OpenClaim := { program := "ytfaleabndlcanaagreatdoor", sum := "87bb78099c583e80e459a7bfdb3dbfca88553756d8d67b50e438a15f9e10c33c", func := "dross/drosslaw37.ConflictRows", spec := "conflictRows", inPlace := ["internal/bytealg.abigen_runtime_cmpstring", "slices.overlaps[int64]"], unfollowed := true, recurses := true, named := ["math/bits.deBruijn32tab"], plainKeys := false, apart := false, laid := [("math/bits.deBruijn32tab", laid_math_bits_deBruijn32tab)], narrowed := true }
def ConflictRowsUptoSaid : Prop := conflictRowsUptoRow.holds Tryz.pinned (OpenSpec.upto conflictRowsSpec)

/-- 'drosslaw37.ConflictWithout', WHERE WHAT IT READS IS OF BULK AT MOST 1048576: true; the input reads as it did. -/
def conflictWithoutUptoRow : OpenClaim := { program := "ytfaleabndlcanaagreatdoor", sum := "87bb78099c583e80e459a7bfdb3dbfca88553756d8d67b50e438a15f9e10c33c", func := "dross/drosslaw37.ConflictWithout", spec := "conflictWithout", inPlace := ["internal/bytealg.abigen_runtime_cmpstring", "slices.overlaps[int64]"], unfollowed := true, recurses := true, named := ["math/bits.deBruijn32tab"], plainKeys := false, apart := false, laid := [("math/bits.deBruijn32tab", laid_math_bits_deBruijn32tab)], narrowed := true }
def ConflictWithoutUptoSaid : Prop := conflictWithoutUptoRow.holds Tryz.pinned (OpenSpec.upto conflictWithoutSpec)

/-- 'drosslaw37.ConflictComponents', WHERE WHAT IT READS IS OF BULK AT MOST 1048576: true; the input reads as it did. -/
def conflictComponentsUptoRow : OpenClaim := { program := "ytfaleabndlcanaagreatdoor", sum := "87bb78099c583e80e459a7bfdb3dbfca88553756d8d67b50e438a15f9e10c33c", func := "dross/drosslaw37.ConflictComponents", spec := "conflictComponents", inPlace := ["internal/bytealg.abigen_runtime_cmpstring", "slices.overlaps[int64]"], unfollowed := true, recurses := true, named := ["math/bits.deBruijn32tab"], plainKeys := false, apart := false, laid := [("math/bits.deBruijn32tab", laid_math_bits_deBruijn32tab)], narrowed := true }
def ConflictComponentsUptoSaid : Prop := conflictComponentsUptoRow.holds Tryz.pinned (OpenSpec.upto conflictComponentsSpec)

end Rows
end Go.Proofs.YtfaleabndlcanaaGreatDoor
