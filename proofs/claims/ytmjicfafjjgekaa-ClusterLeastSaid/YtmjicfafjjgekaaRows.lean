/-
  No cell of these rows narrows 'for every input' (looked for: loops, veiled, ifaces, maps, wideKeys, modest, calm, conditions, laid).
  DERIVED. THE GIVEN ROWS OF THIS SEAT. 8 by the template 'for every input the law returns true; each argument reads behind the call as it read before'; 0 by the template 'total and deterministic' (their statements: YtmjicfafjjgekaaTotals.lean).
  GIVEN WITH THE SEED: the statements are not yours to turn. If you find one false, say at which input.
  Laid BY PROGRAM, IN A SANDBOX (cutbox-rows.mjs): the forced cells as the released guide's own fill.sh prints them over the translation 1a55cd47beb87eaf… (all of the seat's roots in one cut). By AI agents, Wed Nov 11 2026. No macro, syntax, notation, axiom, sorry.
-/
import Derived.Test.YtmjicfafjjgekaaChecked
import GoSem.Claim
import GoSem.ClaimJoined
import GoSem.ClaimMapViews
import Derived.JoinedTies
import Derived.KernelRfl
namespace Go.Proofs.Ytmjicfafjjgekaa
/- THE CELL 'sum', in the pinned program and in every row, IS THE sha256 OF THE DUMP (.gsa) THAT YtmjicfafjjgekaaProg.lean LOADS. Nothing in Lean hashes anything: it is a label: what it is worth is what the hold of that sum in a sandbox is worth. -/
noncomputable def Try.pinned : Pinned := { name := "ytmjicfafjjgekaa", sum := "1a55cd47beb87eafe0bd0b36ecbb71ddf8d102d431e65cd3c05ad67bb2ad7dc3", checked := Try.checked }
namespace Rows
def none {H : Type} : Left H := { results := [], args := [] }

/-- 'drosslaw54.ClusterValid': WHATEVER THE INPUT: true; the input reads as it did. -/
def clusterValidSpec : ChangeSpec := { name := "clusterValid", fn := fun _ => fun
  | [d1, d2] => { results := [.lit (.bool true)], args := [d1, d2] }
  | _ => none }
def clusterValidRow : OpenClaim := { program := "ytmjicfafjjgekaa", sum := "1a55cd47beb87eafe0bd0b36ecbb71ddf8d102d431e65cd3c05ad67bb2ad7dc3", func := "dross/drosslaw54.ClusterValid", spec := "clusterValid", recurses := true, plainKeys := false, apart := false }
def ClusterValidSaid : Prop := clusterValidRow.holds Try.pinned (OpenSpec.ofChange clusterValidSpec)

/-- ITS FALSE NEIGHBOUR: 'it returns false'. Refute it at one input. -/
def clusterValidWrong : ChangeSpec := { name := "clusterValid", fn := fun _ => fun
  | [d1, d2] => { results := [.lit (.bool false)], args := [d1, d2] }
  | _ => none }
def ClusterValidWrongFalsely : Prop := clusterValidRow.holds Try.pinned (OpenSpec.ofChange clusterValidWrong)

/-- 'drosslaw54.ClusterOptimal': WHATEVER THE INPUT: true; the input reads as it did. -/
def clusterOptimalSpec : ChangeSpec := { name := "clusterOptimal", fn := fun _ => fun
  | [d] => { results := [.lit (.bool true)], args := [d] }
  | _ => none }
def clusterOptimalRow : OpenClaim := { program := "ytmjicfafjjgekaa", sum := "1a55cd47beb87eafe0bd0b36ecbb71ddf8d102d431e65cd3c05ad67bb2ad7dc3", func := "dross/drosslaw54.ClusterOptimal", spec := "clusterOptimal", recurses := true, plainKeys := false, apart := false }
def ClusterOptimalSaid : Prop := clusterOptimalRow.holds Try.pinned (OpenSpec.ofChange clusterOptimalSpec)

/-- ITS FALSE NEIGHBOUR: 'it returns false'. Refute it at one input. -/
def clusterOptimalWrong : ChangeSpec := { name := "clusterOptimal", fn := fun _ => fun
  | [d] => { results := [.lit (.bool false)], args := [d] }
  | _ => none }
def ClusterOptimalWrongFalsely : Prop := clusterOptimalRow.holds Try.pinned (OpenSpec.ofChange clusterOptimalWrong)

/-- 'drosslaw54.ClusterErrors': WHATEVER THE INPUT: true; the input reads as it did. -/
def clusterErrorsSpec : ChangeSpec := { name := "clusterErrors", fn := fun _ => fun
  | [d1, d2] => { results := [.lit (.bool true)], args := [d1, d2] }
  | _ => none }
def clusterErrorsRow : OpenClaim := { program := "ytmjicfafjjgekaa", sum := "1a55cd47beb87eafe0bd0b36ecbb71ddf8d102d431e65cd3c05ad67bb2ad7dc3", func := "dross/drosslaw54.ClusterErrors", spec := "clusterErrors", recurses := true, plainKeys := false, apart := false }
def ClusterErrorsSaid : Prop := clusterErrorsRow.holds Try.pinned (OpenSpec.ofChange clusterErrorsSpec)

/-- ITS FALSE NEIGHBOUR: 'it returns false'. Refute it at one input. -/
def clusterErrorsWrong : ChangeSpec := { name := "clusterErrors", fn := fun _ => fun
  | [d1, d2] => { results := [.lit (.bool false)], args := [d1, d2] }
  | _ => none }
def ClusterErrorsWrongFalsely : Prop := clusterErrorsRow.holds Try.pinned (OpenSpec.ofChange clusterErrorsWrong)

/-- 'drosslaw54.ClusterBound': WHATEVER THE INPUT: true; the input reads as it did. -/
def clusterBoundSpec : ChangeSpec := { name := "clusterBound", fn := fun _ => fun
  | [d] => { results := [.lit (.bool true)], args := [d] }
  | _ => none }
def clusterBoundRow : OpenClaim := { program := "ytmjicfafjjgekaa", sum := "1a55cd47beb87eafe0bd0b36ecbb71ddf8d102d431e65cd3c05ad67bb2ad7dc3", func := "dross/drosslaw54.ClusterBound", spec := "clusterBound", recurses := true, plainKeys := false, apart := false }
def ClusterBoundSaid : Prop := clusterBoundRow.holds Try.pinned (OpenSpec.ofChange clusterBoundSpec)

/-- ITS FALSE NEIGHBOUR: 'it returns false'. Refute it at one input. -/
def clusterBoundWrong : ChangeSpec := { name := "clusterBound", fn := fun _ => fun
  | [d] => { results := [.lit (.bool false)], args := [d] }
  | _ => none }
def ClusterBoundWrongFalsely : Prop := clusterBoundRow.holds Try.pinned (OpenSpec.ofChange clusterBoundWrong)

/-- 'drosslaw54.ClusterCost': WHATEVER THE INPUT: true; the input reads as it did. -/
def clusterCostSpec : ChangeSpec := { name := "clusterCost", fn := fun _ => fun
  | [d1, d2, d3] => { results := [.lit (.bool true)], args := [d1, d2, d3] }
  | _ => none }
def clusterCostRow : OpenClaim := { program := "ytmjicfafjjgekaa", sum := "1a55cd47beb87eafe0bd0b36ecbb71ddf8d102d431e65cd3c05ad67bb2ad7dc3", func := "dross/drosslaw54.ClusterCost", spec := "clusterCost", recurses := true, plainKeys := false, apart := false }
def ClusterCostSaid : Prop := clusterCostRow.holds Try.pinned (OpenSpec.ofChange clusterCostSpec)

/-- ITS FALSE NEIGHBOUR: 'it returns false'. Refute it at one input. -/
def clusterCostWrong : ChangeSpec := { name := "clusterCost", fn := fun _ => fun
  | [d1, d2, d3] => { results := [.lit (.bool false)], args := [d1, d2, d3] }
  | _ => none }
def ClusterCostWrongFalsely : Prop := clusterCostRow.holds Try.pinned (OpenSpec.ofChange clusterCostWrong)

/-- 'drosslaw54.ClusterLeast': WHATEVER THE INPUT: true; the input reads as it did. -/
def clusterLeastSpec : ChangeSpec := { name := "clusterLeast", fn := fun _ => fun
  | [d1, d2, d3] => { results := [.lit (.bool true)], args := [d1, d2, d3] }
  | _ => none }
def clusterLeastRow : OpenClaim := { program := "ytmjicfafjjgekaa", sum := "1a55cd47beb87eafe0bd0b36ecbb71ddf8d102d431e65cd3c05ad67bb2ad7dc3", func := "dross/drosslaw54.ClusterLeast", spec := "clusterLeast", recurses := true, plainKeys := false, apart := false }
def ClusterLeastSaid : Prop := clusterLeastRow.holds Try.pinned (OpenSpec.ofChange clusterLeastSpec)

/-- ITS FALSE NEIGHBOUR: 'it returns false'. Refute it at one input. -/
def clusterLeastWrong : ChangeSpec := { name := "clusterLeast", fn := fun _ => fun
  | [d1, d2, d3] => { results := [.lit (.bool false)], args := [d1, d2, d3] }
  | _ => none }
def ClusterLeastWrongFalsely : Prop := clusterLeastRow.holds Try.pinned (OpenSpec.ofChange clusterLeastWrong)

/-- 'drosslaw54.ClusterCheck': WHATEVER THE INPUT: true; the input reads as it did. -/
def clusterCheckSpec : ChangeSpec := { name := "clusterCheck", fn := fun _ => fun
  | [d1, d2] => { results := [.lit (.bool true)], args := [d1, d2] }
  | _ => none }
def clusterCheckRow : OpenClaim := { program := "ytmjicfafjjgekaa", sum := "1a55cd47beb87eafe0bd0b36ecbb71ddf8d102d431e65cd3c05ad67bb2ad7dc3", func := "dross/drosslaw54.ClusterCheck", spec := "clusterCheck", recurses := true, plainKeys := false, apart := false }
def ClusterCheckSaid : Prop := clusterCheckRow.holds Try.pinned (OpenSpec.ofChange clusterCheckSpec)

/-- ITS FALSE NEIGHBOUR: 'it returns false'. Refute it at one input. -/
def clusterCheckWrong : ChangeSpec := { name := "clusterCheck", fn := fun _ => fun
  | [d1, d2] => { results := [.lit (.bool false)], args := [d1, d2] }
  | _ => none }
def ClusterCheckWrongFalsely : Prop := clusterCheckRow.holds Try.pinned (OpenSpec.ofChange clusterCheckWrong)

/-- 'drosslaw54.ClusterNormal': WHATEVER THE INPUT: true; the input reads as it did. -/
def clusterNormalSpec : ChangeSpec := { name := "clusterNormal", fn := fun _ => fun
  | [d] => { results := [.lit (.bool true)], args := [d] }
  | _ => none }
def clusterNormalRow : OpenClaim := { program := "ytmjicfafjjgekaa", sum := "1a55cd47beb87eafe0bd0b36ecbb71ddf8d102d431e65cd3c05ad67bb2ad7dc3", func := "dross/drosslaw54.ClusterNormal", spec := "clusterNormal", recurses := true, plainKeys := false, apart := false }
def ClusterNormalSaid : Prop := clusterNormalRow.holds Try.pinned (OpenSpec.ofChange clusterNormalSpec)

/-- ITS FALSE NEIGHBOUR: 'it returns false'. Refute it at one input. -/
def clusterNormalWrong : ChangeSpec := { name := "clusterNormal", fn := fun _ => fun
  | [d] => { results := [.lit (.bool false)], args := [d] }
  | _ => none }
def ClusterNormalWrongFalsely : Prop := clusterNormalRow.holds Try.pinned (OpenSpec.ofChange clusterNormalWrong)

/- THE SECOND FORM. 'bulk': how many values and letters a reading holds, each counted each time it is reached (what is shared counts as often as it is met; a slice's spare places count too). A statement '..UptoSaid' is the law's where the arguments, and the package variables that the reading takes, are together of bulk at most 1048576: NARROWER than '..Said'. Prove '..Said' where nothing that the law and all that it calls make is longer than what came in: it says more and counts as full. Else prove '..UptoSaid'. A law counts once. -/
mutual
def uptoBulk {H : Type} : DataW H → Nat
  | .lit (.string bytes) => bytes.length + 1
  | .lit _ => 1
  | .nil => 1
  | .ptr d => uptoBulk d + 1
  | .slice elems spare => uptoBulkAll elems + uptoBulkAll spare + 1
  | .agg parts => uptoBulkAll parts + 1
  | .iface _ d => uptoBulk d + 1
  | .map entries => uptoBulkEntries entries + 1
  | .held _ => 1
def uptoBulkAll {H : Type} : List (DataW H) → Nat
  | [] => 0
  | d :: r => uptoBulk d + uptoBulkAll r
def uptoBulkEntries {H : Type} : List (Lit × DataW H) → Nat
  | [] => 0
  | x :: r => uptoBulkEntry x + uptoBulkEntries r
def uptoBulkEntry {H : Type} : Lit × DataW H → Nat
  | (.string bytes, d) => bytes.length + uptoBulk d + 1
  | (_, d) => uptoBulk d + 1
 end
def uptoSmall : (H : Type) → List (DataW H) → Bool := fun _ ds => decide (uptoBulkAll ds ≤ 1048576)
def OpenSpec.upto (s : _root_.Go.ChangeSpec) : _root_.Go.OpenSpec := { _root_.Go.OpenSpec.ofChange s with cond := some uptoSmall }

/-- 'drosslaw54.ClusterValid', WHERE WHAT IT READS IS OF BULK AT MOST 1048576: true; the input reads as it did. -/
def clusterValidUptoRow : OpenClaim := { program := "ytmjicfafjjgekaa", sum := "1a55cd47beb87eafe0bd0b36ecbb71ddf8d102d431e65cd3c05ad67bb2ad7dc3", func := "dross/drosslaw54.ClusterValid", spec := "clusterValid", recurses := true, plainKeys := false, apart := false, narrowed := true }
def ClusterValidUptoSaid : Prop := clusterValidUptoRow.holds Try.pinned (OpenSpec.upto clusterValidSpec)

/-- 'drosslaw54.ClusterOptimal', WHERE WHAT IT READS IS OF BULK AT MOST 1048576: true; the input reads as it did. -/
def clusterOptimalUptoRow : OpenClaim := { program := "ytmjicfafjjgekaa", sum := "1a55cd47beb87eafe0bd0b36ecbb71ddf8d102d431e65cd3c05ad67bb2ad7dc3", func := "dross/drosslaw54.ClusterOptimal", spec := "clusterOptimal", recurses := true, plainKeys := false, apart := false, narrowed := true }
def ClusterOptimalUptoSaid : Prop := clusterOptimalUptoRow.holds Try.pinned (OpenSpec.upto clusterOptimalSpec)

/-- 'drosslaw54.ClusterErrors', WHERE WHAT IT READS IS OF BULK AT MOST 1048576: true; the input reads as it did. -/
def clusterErrorsUptoRow : OpenClaim := { program := "ytmjicfafjjgekaa", sum := "1a55cd47beb87eafe0bd0b36ecbb71ddf8d102d431e65cd3c05ad67bb2ad7dc3", func := "dross/drosslaw54.ClusterErrors", spec := "clusterErrors", recurses := true, plainKeys := false, apart := false, narrowed := true }
def ClusterErrorsUptoSaid : Prop := clusterErrorsUptoRow.holds Try.pinned (OpenSpec.upto clusterErrorsSpec)

/-- 'drosslaw54.ClusterBound', WHERE WHAT IT READS IS OF BULK AT MOST 1048576: true; the input reads as it did. -/
def clusterBoundUptoRow : OpenClaim := { program := "ytmjicfafjjgekaa", sum := "1a55cd47beb87eafe0bd0b36ecbb71ddf8d102d431e65cd3c05ad67bb2ad7dc3", func := "dross/drosslaw54.ClusterBound", spec := "clusterBound", recurses := true, plainKeys := false, apart := false, narrowed := true }
def ClusterBoundUptoSaid : Prop := clusterBoundUptoRow.holds Try.pinned (OpenSpec.upto clusterBoundSpec)

/-- 'drosslaw54.ClusterCost', WHERE WHAT IT READS IS OF BULK AT MOST 1048576: true; the input reads as it did. -/
def clusterCostUptoRow : OpenClaim := { program := "ytmjicfafjjgekaa", sum := "1a55cd47beb87eafe0bd0b36ecbb71ddf8d102d431e65cd3c05ad67bb2ad7dc3", func := "dross/drosslaw54.ClusterCost", spec := "clusterCost", recurses := true, plainKeys := false, apart := false, narrowed := true }
def ClusterCostUptoSaid : Prop := clusterCostUptoRow.holds Try.pinned (OpenSpec.upto clusterCostSpec)

/-- 'drosslaw54.ClusterLeast', WHERE WHAT IT READS IS OF BULK AT MOST 1048576: true; the input reads as it did. -/
def clusterLeastUptoRow : OpenClaim := { program := "ytmjicfafjjgekaa", sum := "1a55cd47beb87eafe0bd0b36ecbb71ddf8d102d431e65cd3c05ad67bb2ad7dc3", func := "dross/drosslaw54.ClusterLeast", spec := "clusterLeast", recurses := true, plainKeys := false, apart := false, narrowed := true }
def ClusterLeastUptoSaid : Prop := clusterLeastUptoRow.holds Try.pinned (OpenSpec.upto clusterLeastSpec)

/-- 'drosslaw54.ClusterCheck', WHERE WHAT IT READS IS OF BULK AT MOST 1048576: true; the input reads as it did. -/
def clusterCheckUptoRow : OpenClaim := { program := "ytmjicfafjjgekaa", sum := "1a55cd47beb87eafe0bd0b36ecbb71ddf8d102d431e65cd3c05ad67bb2ad7dc3", func := "dross/drosslaw54.ClusterCheck", spec := "clusterCheck", recurses := true, plainKeys := false, apart := false, narrowed := true }
def ClusterCheckUptoSaid : Prop := clusterCheckUptoRow.holds Try.pinned (OpenSpec.upto clusterCheckSpec)

/-- 'drosslaw54.ClusterNormal', WHERE WHAT IT READS IS OF BULK AT MOST 1048576: true; the input reads as it did. -/
def clusterNormalUptoRow : OpenClaim := { program := "ytmjicfafjjgekaa", sum := "1a55cd47beb87eafe0bd0b36ecbb71ddf8d102d431e65cd3c05ad67bb2ad7dc3", func := "dross/drosslaw54.ClusterNormal", spec := "clusterNormal", recurses := true, plainKeys := false, apart := false, narrowed := true }
def ClusterNormalUptoSaid : Prop := clusterNormalUptoRow.holds Try.pinned (OpenSpec.upto clusterNormalSpec)

end Rows
end Go.Proofs.Ytmjicfafjjgekaa
