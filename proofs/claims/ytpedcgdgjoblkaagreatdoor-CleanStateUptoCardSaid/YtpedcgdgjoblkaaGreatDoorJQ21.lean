/- JQ21: own texts of this seat, joined and shortened by pack4.py: ClB. -/
import Derived.Test.YtpedcgdgjoblkaaGreatDoorJQ15
import Derived.Test.YtpedcgdgjoblkaaGreatDoorJQ19
import Derived.WalkSpells
import Derived.WalkLawsBesides
import Derived.Lib.Hide
import Derived.Maps.AppendAt
set_option linter.unusedVariables false
set_option linter.unusedSimpArgs false
set_option maxRecDepth 100000
set_option maxHeartbeats 64000000
namespace Go.Proofs.YtpedcgdgjoblkaaGreatDoor
section
open Go Go.AM Go.RowKit
theorem cap64c(n:Nat)(h:n≤1000000):n≤9223372036854775806∧(n+1)*64≤140737488355328:=by omega
end
end Go.Proofs.YtpedcgdgjoblkaaGreatDoor
