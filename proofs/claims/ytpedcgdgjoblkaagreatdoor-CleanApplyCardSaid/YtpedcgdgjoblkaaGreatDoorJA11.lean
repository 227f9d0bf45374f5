/- JA11: own texts of this seat, joined and shortened by pack4.py: Open. -/
import Derived.Test.YtpedcgdgjoblkaaGreatDoorJA8
import Derived.Test.YtpedcgdgjoblkaaGreatDoorJA10
set_option linter.unusedVariables false
set_option linter.unusedSimpArgs false
set_option maxRecDepth 100000
set_option maxHeartbeats 64000000
namespace Go.Proofs.YtpedcgdgjoblkaaGreatDoor
section
open Go Go.AM
theorem agg_rel{w:World}{vs:List V}{us:Array Value}(h:CR w vs us.toList):Rel (AM.base (fun _=>False) w) (.agg vs) (.agg us):=
 .agg vs us (by simpa using h.len.symm) h.one (fun i c u hc hu=>h.rel i c u hc (by simpa using hu))
end
end Go.Proofs.YtpedcgdgjoblkaaGreatDoor
