/- JM35: own texts of this seat, joined and shortened by pack4.py: SC8. -/
import Derived.Test.YtjogkbekekdkjaaGreatDoorJM32
import Derived.Test.YtjogkbekekdkjaaGreatDoorJM34
set_option linter.unusedVariables false
set_option linter.unusedSimpArgs false
set_option maxRecDepth 100000
set_option maxHeartbeats 64000000
section
namespace Go.Proofs.YtjogkbekekdkjaaGreatDoor
open Go Go.AM
end Go.Proofs.YtjogkbekekdkjaaGreatDoor
end
