/- The facts of the statement's row that the program decides, in a text of their own (memory). -/
import Derived.Test.YtnaokiodhoadjaaGreatDoorRows
import Derived.Test.YtnaokiodhoadjaaGreatDoorCards
import Derived.Test.YtnaokiodhoadjaaGreatDoorTie
import Derived.ProofKit
import Derived.ChangeMaps5
import Derived.OpenShut
import Derived.ChangeOld
import Derived.Stop.Joined
import Derived.SevenTiedAt
import Derived.Deep.DeepHandedRow
import Derived.Deep.DeepWitnessRowRef
namespace Go.Proofs.YtnaokiodhoadjaaGreatDoor.cleanBest
open Go Go.ChangeShapes Go.WideShapes Go.ChangeAt Go.RowKit
set_option linter.unusedVariables false

set_option maxHeartbeats 8000000 in
theorem joined : joinedFacts Tryz.pinned.checked.prog 3 Tryz.f3 (OpenSpec.ofChange Rows.cleanBestSpec).bare Rows.cleanBestRow = true := by
  unfold joinedFacts
  simp only [Bool.and_eq_true]
  repeat' apply And.intro
  all_goals as_aux_lemma => kernel_rfl

end Go.Proofs.YtnaokiodhoadjaaGreatDoor.cleanBest
