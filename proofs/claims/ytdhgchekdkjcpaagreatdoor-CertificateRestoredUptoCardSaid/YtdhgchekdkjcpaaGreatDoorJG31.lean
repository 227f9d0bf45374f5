/- JG31: own texts of this seat, joined and shortened by pack4.py: B3. -/
import Derived.Test.YtdhgchekdkjcpaaGreatDoorJG28
import Derived.Test.YtdhgchekdkjcpaaGreatDoorJG29
import Derived.Test.YtdhgchekdkjcpaaGreatDoorJG30
set_option linter.unusedVariables false
set_option linter.unusedSimpArgs false
set_option maxRecDepth 100000
set_option maxHeartbeats 64000000
namespace Go.Proofs.YtdhgchekdkjcpaaGreatDoor
section
open Go Go.AM Go.Lib
theorem add_3(R0:B)(c:Cert)(hk:c.k=3)(st:Nat)(w:List UInt8)(f:Bool)(ns:List Int)(h1:c.sets.length≤100000)(h2:c.prs.length≤100000)(hl:ns.length≤100000):
  aq Tryz.prog 25 [.ptr 1 0,.int .i64 st,.str (bs w),.lst 1 f (ns.map aD)] (st3 R0 c.sets c.prs) (gA R0 (ad c st w ns)):=by
 by_cases hw:w=bT
 ·exact add_3a R0 c hk st w f ns h1 h2 hl hw
 ·by_cases hw2:w=ar
  ·exact add_3b R0 c hk st w f ns h1 h2 hl hw2
  ·exact add_3c R0 c hk st w f ns h1 h2 hl hw hw2
end
end Go.Proofs.YtdhgchekdkjcpaaGreatDoor
