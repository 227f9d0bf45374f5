/- JA16: own texts of this seat, joined and shortened by pack4.py: SC11. -/
import Derived.Test.YtpedcgdgjoblkaaGreatDoorJA15
set_option linter.unusedVariables false
set_option linter.unusedSimpArgs false
set_option maxRecDepth 100000
set_option maxHeartbeats 64000000
namespace Go.Proofs.YtpedcgdgjoblkaaGreatDoor
section
open Go Go.AM
structure C4Ok (x:Rcp) (rs:List Rul) (ws:List Int):Prop where
 a:0≤x.a∧x.a<256
 gap:0≤x.gap
 len:∀r∈x.rows,r.length≤9223372036854775807
 rl:rs.length≤1048576
 r:∀r∈rs,RulOk r
 w:∀c∈ws,0≤c∧c<256
end
end Go.Proofs.YtpedcgdgjoblkaaGreatDoor
