/- JG41: own texts of this seat, joined and shortened by pack4.py: Fx. -/
import Derived.Test.YtdhgchekdkjcpaaGreatDoorJG12
import Derived.Test.YtdhgchekdkjcpaaGreatDoorJG19
import Derived.Test.YtdhgchekdkjcpaaGreatDoorJG40
set_option linter.unusedVariables false
set_option linter.unusedSimpArgs false
set_option maxRecDepth 100000
set_option maxHeartbeats 64000000
section
namespace Go.Proofs.YtdhgchekdkjcpaaGreatDoor
open Go Go.AM Go.Lib
end Go.Proofs.YtdhgchekdkjcpaaGreatDoor
end
