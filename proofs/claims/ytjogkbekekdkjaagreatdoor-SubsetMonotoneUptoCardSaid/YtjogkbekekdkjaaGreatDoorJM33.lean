/- JM33: own texts of this seat, joined and shortened by pack4.py: DS, DT, DU. -/
import Derived.Test.YtjogkbekekdkjaaGreatDoorJM20
set_option linter.unusedVariables false
set_option linter.unusedSimpArgs false
set_option maxRecDepth 100000
set_option maxHeartbeats 64000000
section
namespace Go.Proofs.YtjogkbekekdkjaaGreatDoor
open Go Go.AM
end Go.Proofs.YtjogkbekekdkjaaGreatDoor
end
namespace Go.Proofs.YtjogkbekekdkjaaGreatDoor
section
open Go Go.AM
def LRR(os:List (List Rw)):V:=.lst 1 false (os.map (LR false))
@[simp] theorem LRR_pure (os:List (List Rw)):AM.Pure (LRR os):=.lst _ _ _ fun x hx=>by obtain⟨y,_,rfl⟩:=List.mem_map.1 hx;exact LR_pure _ _
end
end Go.Proofs.YtjogkbekekdkjaaGreatDoor
section
namespace Go.Proofs.YtjogkbekekdkjaaGreatDoor
open Go Go.AM
end Go.Proofs.YtjogkbekekdkjaaGreatDoor
end
