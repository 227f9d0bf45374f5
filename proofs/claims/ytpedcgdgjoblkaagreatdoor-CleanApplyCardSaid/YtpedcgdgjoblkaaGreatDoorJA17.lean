/- JA17: own texts of this seat, joined and shortened by pack4.py: Opc. -/
import Derived.Test.YtpedcgdgjoblkaaGreatDoorJA14
import Derived.Test.YtpedcgdgjoblkaaGreatDoorJA16
set_option linter.unusedVariables false
set_option linter.unusedSimpArgs false
set_option maxRecDepth 100000
set_option maxHeartbeats 64000000
section
namespace Go.Proofs.YtpedcgdgjoblkaaGreatDoor
open Go Go.AM
end Go.Proofs.YtpedcgdgjoblkaaGreatDoor
end
