/-
  NARROWER THAN 'FOR EVERY INPUT', by the rows' own cells (each row's printed sentence says how): SubsetProblem: laid · SubsetOptimal: laid · SubsetProof: laid · SubsetCheck: laid · SubsetMonotone: laid · SubsetBounds: laid · SubsetErrors: laid · SubsetRepairs: laid.
  DERIVED. THE GIVEN ROWS OF THIS SEAT. 8 by the template 'for every input the law returns true; each argument reads behind the call as it read before'; 0 by the template 'total and deterministic' (their statements: YtjogkbekekdkjaaGreatDoorTotals.lean).
  GIVEN WITH THE SEED: the statements are not yours to turn. If you find one false, say at which input.
  Laid BY PROGRAM, IN A SANDBOX (cutbox-rows.mjs): the forced cells as the released guide's own fill.sh prints them over the translation 4567b438ed534921… (all of the seat's roots in one cut). By AI agents, Wed Nov 11 2026. No macro, syntax, notation, axiom, sorry.
-/
import Derived.Test.YtjogkbekekdkjaaGreatDoorChecked
import GoSem.Claim
import GoSem.ClaimJoined
import GoSem.ClaimMapViews
import Derived.JoinedTies
import Derived.KernelRfl
namespace Go.Proofs.YtjogkbekekdkjaaGreatDoor
/- THE CELL 'sum', in the pinned program and in every row, IS THE sha256 OF THE DUMP (.gsa) THAT YtjogkbekekdkjaaGreatDoorProg.lean LOADS. Nothing in Lean hashes anything: it is a label: what it is worth is what the hold of that sum in a sandbox is worth. -/
noncomputable def Tryz.pinned : Pinned := { name := "ytjogkbekekdkjaagreatdoor", sum := "4567b438ed53492172216a128a80d85e6887c48094ede68efe89e3716911dfbd", checked := Tryz.checked }
namespace Rows
def none {H : Type} : Left H := { results := [], args := [] }

/- WHAT THE LISTED PACKAGE-LEVEL VARIABLES READ AS WHEN THE CALL BEGINS. Each datum BY PROGRAM (the guide's laid-datum.mjs) off the statement by which the dump's own 'gosem.cut.vars' lays the variable. In a bare row this is a premise. The card (YtjogkbekekdkjaaGreatDoorCards.lean) ties it to the program's text. -/
def laid_math_bits_deBruijn32tab {H : Type} : DataW H := .agg [.lit (.int .u8 0), .lit (.int .u8 1), .lit (.int .u8 28), .lit (.int .u8 2), .lit (.int .u8 29), .lit (.int .u8 14), .lit (.int .u8 24), .lit (.int .u8 3), .lit (.int .u8 30), .lit (.int .u8 22), .lit (.int .u8 20), .lit (.int .u8 15), .lit (.int .u8 25), .lit (.int .u8 17), .lit (.int .u8 4), .lit (.int .u8 8), .lit (.int .u8 31), .lit (.int .u8 27), .lit (.int .u8 13), .lit (.int .u8 23), .lit (.int .u8 21), .lit (.int .u8 19), .lit (.int .u8 16), .lit (.int .u8 7), .lit (.int .u8 26), .lit (.int .u8 12), .lit (.int .u8 18), .lit (.int .u8 6), .lit (.int .u8 11), .lit (.int .u8 5), .lit (.int .u8 10), .lit (.int .u8 9)]

/-- 'drosslaw41.SubsetProblem': WHATEVER THE INPUT: true; the input reads as it did. -/
def subsetProblemSpec : ChangeSpec := { name := "subsetProblem", fn := fun _ => fun
  | [d] => { results := [.lit (.bool true)], args := [d] }
  | _ => none }
def subsetProblemRow : OpenClaim := { program := "ytjogkbekekdkjaagreatdoor", sum := "4567b438ed53492172216a128a80d85e6887c48094ede68efe89e3716911dfbd", func := "dross/drosslaw41.SubsetProblem", spec := "subsetProblem", inPlace := ["internal/bytealg.abigen_runtime_cmpstring"], unfollowed := true, recurses := true, named := ["math/bits.deBruijn32tab"], plainKeys := false, apart := false, laid := [("math/bits.deBruijn32tab", laid_math_bits_deBruijn32tab)] }
def SubsetProblemSaid : Prop := subsetProblemRow.holds Tryz.pinned (OpenSpec.ofChange subsetProblemSpec)

/-- ITS FALSE NEIGHBOUR: 'it returns false'. Refute it at one input. -/
def subsetProblemWrong : ChangeSpec := { name := "subsetProblem", fn := fun _ => fun
  | [d] => { results := [.lit (.bool false)], args := [d] }
  | _ => none }
def SubsetProblemWrongFalsely : Prop := subsetProblemRow.holds Tryz.pinned (OpenSpec.ofChange subsetProblemWrong)

/-- 'drosslaw41.SubsetOptimal': WHATEVER THE INPUT: true; the input reads as it did. -/
def subsetOptimalSpec : ChangeSpec := { name := "subsetOptimal", fn := fun _ => fun
  | [d] => { results := [.lit (.bool true)], args := [d] }
  | _ => none }
def subsetOptimalRow : OpenClaim := { program := "ytjogkbekekdkjaagreatdoor", sum := "4567b438ed53492172216a128a80d85e6887c48094ede68efe89e3716911dfbd", func := "dross/drosslaw41.SubsetOptimal", spec := "subsetOptimal", inPlace := ["internal/bytealg.abigen_runtime_cmpstring"], unfollowed := true, recurses := true, named := ["math/bits.deBruijn32tab"], plainKeys := false, apart := false, laid := [("math/bits.deBruijn32tab", laid_math_bits_deBruijn32tab)] }
def SubsetOptimalSaid : Prop := subsetOptimalRow.holds Tryz.pinned (OpenSpec.ofChange subsetOptimalSpec)

/-- ITS FALSE NEIGHBOUR: 'it returns false'. Refute it at one input. -/
def subsetOptimalWrong : ChangeSpec := { name := "subsetOptimal", fn := fun _ => fun
  | [d] => { results := [.lit (.bool false)], args := [d] }
  | _ => none }
def SubsetOptimalWrongFalsely : Prop := subsetOptimalRow.holds Tryz.pinned (OpenSpec.ofChange subsetOptimalWrong)

/-- 'drosslaw41.SubsetProof': WHATEVER THE INPUT: true; the input reads as it did. -/
def subsetProofSpec : ChangeSpec := { name := "subsetProof", fn := fun _ => fun
  | [d1, d2, d3] => { results := [.lit (.bool true)], args := [d1, d2, d3] }
  | _ => none }
def subsetProofRow : OpenClaim := { program := "ytjogkbekekdkjaagreatdoor", sum := "4567b438ed53492172216a128a80d85e6887c48094ede68efe89e3716911dfbd", func := "dross/drosslaw41.SubsetProof", spec := "subsetProof", inPlace := ["internal/bytealg.abigen_runtime_cmpstring"], unfollowed := true, recurses := true, named := ["math/bits.deBruijn32tab"], plainKeys := false, apart := false, laid := [("math/bits.deBruijn32tab", laid_math_bits_deBruijn32tab)] }
def SubsetProofSaid : Prop := subsetProofRow.holds Tryz.pinned (OpenSpec.ofChange subsetProofSpec)

/-- ITS FALSE NEIGHBOUR: 'it returns false'. Refute it at one input. -/
def subsetProofWrong : ChangeSpec := { name := "subsetProof", fn := fun _ => fun
  | [d1, d2, d3] => { results := [.lit (.bool false)], args := [d1, d2, d3] }
  | _ => none }
def SubsetProofWrongFalsely : Prop := subsetProofRow.holds Tryz.pinned (OpenSpec.ofChange subsetProofWrong)

/-- 'drosslaw41.SubsetCheck': WHATEVER THE INPUT: true; the input reads as it did. -/
def subsetCheckSpec : ChangeSpec := { name := "subsetCheck", fn := fun _ => fun
  | [d1, d2] => { results := [.lit (.bool true)], args := [d1, d2] }
  | _ => none }
def subsetCheckRow : OpenClaim := { program := "ytjogkbekekdkjaagreatdoor", sum := "4567b438ed53492172216a128a80d85e6887c48094ede68efe89e3716911dfbd", func := "dross/drosslaw41.SubsetCheck", spec := "subsetCheck", inPlace := ["internal/bytealg.abigen_runtime_cmpstring"], unfollowed := true, recurses := true, named := ["math/bits.deBruijn32tab"], plainKeys := false, apart := false, laid := [("math/bits.deBruijn32tab", laid_math_bits_deBruijn32tab)] }
def SubsetCheckSaid : Prop := subsetCheckRow.holds Tryz.pinned (OpenSpec.ofChange subsetCheckSpec)

/-- ITS FALSE NEIGHBOUR: 'it returns false'. Refute it at one input. -/
def subsetCheckWrong : ChangeSpec := { name := "subsetCheck", fn := fun _ => fun
  | [d1, d2] => { results := [.lit (.bool false)], args := [d1, d2] }
  | _ => none }
def SubsetCheckWrongFalsely : Prop := subsetCheckRow.holds Tryz.pinned (OpenSpec.ofChange subsetCheckWrong)

/-- 'drosslaw41.SubsetMonotone': WHATEVER THE INPUT: true; the input reads as it did. -/
def subsetMonotoneSpec : ChangeSpec := { name := "subsetMonotone", fn := fun _ => fun
  | [d1, d2, d3] => { results := [.lit (.bool true)], args := [d1, d2, d3] }
  | _ => none }
def subsetMonotoneRow : OpenClaim := { program := "ytjogkbekekdkjaagreatdoor", sum := "4567b438ed53492172216a128a80d85e6887c48094ede68efe89e3716911dfbd", func := "dross/drosslaw41.SubsetMonotone", spec := "subsetMonotone", inPlace := ["internal/bytealg.abigen_runtime_cmpstring"], unfollowed := true, recurses := true, named := ["math/bits.deBruijn32tab"], plainKeys := false, apart := false, laid := [("math/bits.deBruijn32tab", laid_math_bits_deBruijn32tab)] }
def SubsetMonotoneSaid : Prop := subsetMonotoneRow.holds Tryz.pinned (OpenSpec.ofChange subsetMonotoneSpec)

/-- ITS FALSE NEIGHBOUR: 'it returns false'. Refute it at one input. -/
def subsetMonotoneWrong : ChangeSpec := { name := "subsetMonotone", fn := fun _ => fun
  | [d1, d2, d3] => { results := [.lit (.bool false)], args := [d1, d2, d3] }
  | _ => none }
def SubsetMonotoneWrongFalsely : Prop := subsetMonotoneRow.holds Tryz.pinned (OpenSpec.ofChange subsetMonotoneWrong)

/-- 'drosslaw41.SubsetBounds': WHATEVER THE INPUT: true; the input reads as it did. -/
def subsetBoundsSpec : ChangeSpec := { name := "subsetBounds", fn := fun _ => fun
  | [d] => { results := [.lit (.bool true)], args := [d] }
  | _ => none }
def subsetBoundsRow : OpenClaim := { program := "ytjogkbekekdkjaagreatdoor", sum := "4567b438ed53492172216a128a80d85e6887c48094ede68efe89e3716911dfbd", func := "dross/drosslaw41.SubsetBounds", spec := "subsetBounds", inPlace := ["internal/bytealg.abigen_runtime_cmpstring"], unfollowed := true, recurses := true, named := ["math/bits.deBruijn32tab"], plainKeys := false, apart := false, laid := [("math/bits.deBruijn32tab", laid_math_bits_deBruijn32tab)] }
def SubsetBoundsSaid : Prop := subsetBoundsRow.holds Tryz.pinned (OpenSpec.ofChange subsetBoundsSpec)

/-- ITS FALSE NEIGHBOUR: 'it returns false'. Refute it at one input. -/
def subsetBoundsWrong : ChangeSpec := { name := "subsetBounds", fn := fun _ => fun
  | [d] => { results := [.lit (.bool false)], args := [d] }
  | _ => none }
def SubsetBoundsWrongFalsely : Prop := subsetBoundsRow.holds Tryz.pinned (OpenSpec.ofChange subsetBoundsWrong)

/-- 'drosslaw41.SubsetErrors': WHATEVER THE INPUT: true; the input reads as it did. -/
def subsetErrorsSpec : ChangeSpec := { name := "subsetErrors", fn := fun _ => fun
  | [d1, d2, d3] => { results := [.lit (.bool true)], args := [d1, d2, d3] }
  | _ => none }
def subsetErrorsRow : OpenClaim := { program := "ytjogkbekekdkjaagreatdoor", sum := "4567b438ed53492172216a128a80d85e6887c48094ede68efe89e3716911dfbd", func := "dross/drosslaw41.SubsetErrors", spec := "subsetErrors", inPlace := ["internal/bytealg.abigen_runtime_cmpstring"], unfollowed := true, recurses := true, named := ["math/bits.deBruijn32tab"], plainKeys := false, apart := false, laid := [("math/bits.deBruijn32tab", laid_math_bits_deBruijn32tab)] }
def SubsetErrorsSaid : Prop := subsetErrorsRow.holds Tryz.pinned (OpenSpec.ofChange subsetErrorsSpec)

/-- ITS FALSE NEIGHBOUR: 'it returns false'. Refute it at one input. -/
def subsetErrorsWrong : ChangeSpec := { name := "subsetErrors", fn := fun _ => fun
  | [d1, d2, d3] => { results := [.lit (.bool false)], args := [d1, d2, d3] }
  | _ => none }
def SubsetErrorsWrongFalsely : Prop := subsetErrorsRow.holds Tryz.pinned (OpenSpec.ofChange subsetErrorsWrong)

/-- 'drosslaw41.SubsetRepairs': WHATEVER THE INPUT: true; the input reads as it did. -/
def subsetRepairsSpec : ChangeSpec := { name := "subsetRepairs", fn := fun _ => fun
  | [d1, d2] => { results := [.lit (.bool true)], args := [d1, d2] }
  | _ => none }
def subsetRepairsRow : OpenClaim := { program := "ytjogkbekekdkjaagreatdoor", sum := "4567b438ed53492172216a128a80d85e6887c48094ede68efe89e3716911dfbd", func := "dross/drosslaw41.SubsetRepairs", spec := "subsetRepairs", inPlace := ["internal/bytealg.abigen_runtime_cmpstring"], unfollowed := true, recurses := true, named := ["math/bits.deBruijn32tab"], plainKeys := false, apart := false, laid := [("math/bits.deBruijn32tab", laid_math_bits_deBruijn32tab)] }
def SubsetRepairsSaid : Prop := subsetRepairsRow.holds Tryz.pinned (OpenSpec.ofChange subsetRepairsSpec)

/-- ITS FALSE NEIGHBOUR: 'it returns false'. Refute it at one input. -/
def subsetRepairsWrong : ChangeSpec := { name := "subsetRepairs", fn := fun _ => fun
  | [d1, d2] => { results := [.lit (.bool false)], args := [d1, d2] }
  | _ => none }
def SubsetRepairsWrongFalsely : Prop := subsetRepairsRow.holds Tryz.pinned (OpenSpec.ofChange subsetRepairsWrong)

/- THE SECOND FORM. 'bulk': how many values and letters a reading holds, each counted each time it is reached (what is shared counts as often as it is met; a slice's spare places count too). A statement '..UptoSaid' is the law's where the arguments, and the package variables that the reading takes, are together of bulk at most 1048576: NARROWER than '..Said'. Prove '..Said' where nothing that the law and all that it calls make is longer than what came in: it says more and counts as full. Else prove '..UptoSaid'. A law counts once. -/
mutual
def uptoBulk {H : Type} : DataW H → Nat
  | .lit (.string bytes) => bytes.length + 1
  | .lit _ => 1
  | .nil => 1
  | .ptr d => uptoBulk d + 1
  | .slice elems spare => uptoBulkAll elems + uptoBulkAll spare + 1
  | .agg parts => uptoBulkAll parts + 1
  | .iface _ d => uptoBulk d + 1
  | .map entries => uptoBulkEntries entries + 1
  | .held _ => 1
def uptoBulkAll {H : Type} : List (DataW H) → Nat
  | [] => 0
  | d :: r => uptoBulk d + uptoBulkAll r
def uptoBulkEntries {H : Type} : List (Lit × DataW H) → Nat
  | [] => 0
  | x :: r => uptoBulkEntry x + uptoBulkEntries r
def uptoBulkEntry {H : Type} : Lit × DataW H → Nat
  | (.string bytes, d) => bytes.length + uptoBulk d + 1
  | (_, d) => uptoBulk d + 1
 end
def uptoSmall : (H : Type) → List (DataW H) → Bool := fun _ ds => decide (uptoBulkAll ds ≤ 1048576)
def OpenSpec.upto (s : _root_.Go.ChangeSpec) : _root_.Go.OpenSpec := { _root_.Go.OpenSpec.ofChange s with cond := some uptoSmall }

/-- 'drosslaw41.SubsetProblem', WHERE WHAT IT READS IS OF BULK AT MOST 1048576: true; the input reads as it did. -/
def subsetProblemUptoRow : OpenClaim := { program := "ytjogkbekekdkjaagreatdoor", sum := "4567b438ed53492172216a128a80d85e6887c48094ede68efe89e3716911dfbd", func := "dross/drosslaw41.SubsetProblem", spec := "subsetProblem", inPlace := ["internal/bytealg.abigen_runtime_cmpstring"], unfollowed := true, recurses := true, named := ["math/bits.deBruijn32tab"], plainKeys := false, apart := false, laid := [("math/bits.deBruijn32tab", laid_math_bits_deBruijn32tab)], narrowed := true }
def SubsetProblemUptoSaid : Prop := subsetProblemUptoRow.holds Tryz.pinned (OpenSpec.upto subsetProblemSpec)

/-- 'drosslaw41.SubsetOptimal', WHERE WHAT IT READS IS OF BULK AT MOST 1048576: true; the input reads as it did. -/
def subsetOptimalUptoRow : OpenClaim := { program := "ytjogkbekekdkjaagreatdoor", sum := "4567b438ed53492172216a128a80d85e6887c48094ede68efe89e3716911dfbd", func := "dross/drosslaw41.SubsetOptimal", spec := "subsetOptimal", inPlace := ["internal/bytealg.abigen_runtime_cmpstring"], unfollowed := true, recurses := true, named := ["math/bits.deBruijn32tab"], plainKeys := false, apart := false, laid := [("math/bits.deBruijn32tab", laid_math_bits_deBruijn32tab)], narrowed := true }
def SubsetOptimalUptoSaid : Prop := subsetOptimalUptoRow.holds Tryz.pinned (OpenSpec.upto subsetOptimalSpec)

/-- 'drosslaw41.SubsetProof', WHERE WHAT IT READS IS OF BULK AT MOST 1048576: true; the input reads as it did. -/
def subsetProofUptoRow : OpenClaim := { program := "ytjogkbekekdkjaagreatdoor", sum := "4567b438ed53492172216a128a80d85e6887c48094ede68efe89e3716911dfbd", func := "dross/drosslaw41.SubsetProof", spec := "subsetProof", inPlace := ["internal/bytealg.abigen_runtime_cmpstring"], unfollowed := true, recurses := true, named := ["math/bits.deBruijn32tab"], plainKeys := false, apart := false, laid := [("math/bits.deBruijn32tab", laid_math_bits_deBruijn32tab)], narrowed := true }
def SubsetProofUptoSaid : Prop := subsetProofUptoRow.holds Tryz.pinned (OpenSpec.upto subsetProofSpec)

/-- 'drosslaw41.SubsetCheck', WHERE WHAT IT READS IS OF BULK AT MOST 1048576: true; the input reads as it did. -/
def subsetCheckUptoRow : OpenClaim := { program := "ytjogkbekekdkjaagreatdoor", sum := "4567b438ed53492172216a128a80d85e6887c48094ede68efe89e3716911dfbd", func := "dross/drosslaw41.SubsetCheck", spec := "subsetCheck", inPlace := ["internal/bytealg.abigen_runtime_cmpstring"], unfollowed := true, recurses := true, named := ["math/bits.deBruijn32tab"], plainKeys := false, apart := false, laid := [("math/bits.deBruijn32tab", laid_math_bits_deBruijn32tab)], narrowed := true }
def SubsetCheckUptoSaid : Prop := subsetCheckUptoRow.holds Tryz.pinned (OpenSpec.upto subsetCheckSpec)

/-- 'drosslaw41.SubsetMonotone', WHERE WHAT IT READS IS OF BULK AT MOST 1048576: true; the input reads as it did. -/
def subsetMonotoneUptoRow : OpenClaim := { program := "ytjogkbekekdkjaagreatdoor", sum := "4567b438ed53492172216a128a80d85e6887c48094ede68efe89e3716911dfbd", func := "dross/drosslaw41.SubsetMonotone", spec := "subsetMonotone", inPlace := ["internal/bytealg.abigen_runtime_cmpstring"], unfollowed := true, recurses := true, named := ["math/bits.deBruijn32tab"], plainKeys := false, apart := false, laid := [("math/bits.deBruijn32tab", laid_math_bits_deBruijn32tab)], narrowed := true }
def SubsetMonotoneUptoSaid : Prop := subsetMonotoneUptoRow.holds Tryz.pinned (OpenSpec.upto subsetMonotoneSpec)

/-- 'drosslaw41.SubsetBounds', WHERE WHAT IT READS IS OF BULK AT MOST 1048576: true; the input reads as it did. -/
def subsetBoundsUptoRow : OpenClaim := { program := "ytjogkbekekdkjaagreatdoor", sum := "4567b438ed53492172216a128a80d85e6887c48094ede68efe89e3716911dfbd", func := "dross/drosslaw41.SubsetBounds", spec := "subsetBounds", inPlace := ["internal/bytealg.abigen_runtime_cmpstring"], unfollowed := true, recurses := true, named := ["math/bits.deBruijn32tab"], plainKeys := false, apart := false, laid := [("math/bits.deBruijn32tab", laid_math_bits_deBruijn32tab)], narrowed := true }
def SubsetBoundsUptoSaid : Prop := subsetBoundsUptoRow.holds Tryz.pinned (OpenSpec.upto subsetBoundsSpec)

/-- 'drosslaw41.SubsetErrors', WHERE WHAT IT READS IS OF BULK AT MOST 1048576: true; the input reads as it did. -/
def subsetErrorsUptoRow : OpenClaim := { program := "ytjogkbekekdkjaagreatdoor", sum := "4567b438ed53492172216a128a80d85e6887c48094ede68efe89e3716911dfbd", func := "dross/drosslaw41.SubsetErrors", spec := "subsetErrors", inPlace := ["internal/bytealg.abigen_runtime_cmpstring"], unfollowed := true, recurses := true, named := ["math/bits.deBruijn32tab"], plainKeys := false, apart := false, laid := [("math/bits.deBruijn32tab", laid_math_bits_deBruijn32tab)], narrowed := true }
def SubsetErrorsUptoSaid : Prop := subsetErrorsUptoRow.holds Tryz.pinned (OpenSpec.upto subsetErrorsSpec)

/-- 'drosslaw41.SubsetRepairs', WHERE WHAT IT READS IS OF BULK AT MOST 1048576: true; the input reads as it did. -/
def subsetRepairsUptoRow : OpenClaim := { program := "ytjogkbekekdkjaagreatdoor", sum := "4567b438ed53492172216a128a80d85e6887c48094ede68efe89e3716911dfbd", func := "dross/drosslaw41.SubsetRepairs", spec := "subsetRepairs", inPlace := ["internal/bytealg.abigen_runtime_cmpstring"], unfollowed := true, recurses := true, named := ["math/bits.deBruijn32tab"], plainKeys := false, apart := false, laid := [("math/bits.deBruijn32tab", laid_math_bits_deBruijn32tab)], narrowed := true }
def SubsetRepairsUptoSaid : Prop := subsetRepairsUptoRow.holds Tryz.pinned (OpenSpec.upto subsetRepairsSpec)

end Rows
end Go.Proofs.YtjogkbekekdkjaaGreatDoor
