/- JG22: own texts of this seat, joined and shortened by pack4.py: A1c. -/
import Derived.Test.YtdhgchekdkjcpaaGreatDoorJG14
set_option linter.unusedVariables false
set_option linter.unusedSimpArgs false
set_option maxRecDepth 100000
set_option maxHeartbeats 64000000
open List renaming replicate→kQ
namespace Go.Proofs.YtdhgchekdkjcpaaGreatDoor
section
open Go Go.AM Go.Lib
theorem add_1c(R0:B)(c:Cert)(hk:c.k=1)(st:Nat)(w:List UInt8)(f:Bool)(ns:List Int)(h1:c.del.length≤100000)(h2:c.prf.length≤100000)(hl:ns.length≤100000)(hw:¬w=bR)(x:Cnd)(hx:aW w ns=some x):
  aq Tryz.prog 25 [.ptr 1 0,.int .i64 st,.str (bs w),.lst 1 f (ns.map aD)] (st1 R0 c.w c.del c.prf) (gB R0 (ad c st w ns)):=by
 have e:=gU (c:=c) hk (st:=st) (ns:=ns) (w:=w) (fun h=>hw h.1);have hnd:=dI w f ns hl;have n1:¬(bs w).toList=(bs [114,111,119]).toList:=ae hw;rw[e,hx];rw[hx]at hnd;obtain⟨xv,xl⟩:=x;simp only[ndV,aE,ag]at hnd;refine aB tok Tryz.func25 rfl rfl ?_;refine wx ?_;simp (maxSteps:=8000000) -implicitDefEqProofs -dsimp[Tryz.f25,kQ,st1,aC,n1];refine cPx (hnd) (by simp) ?_;simp (maxSteps:=2000000) -implicitDefEqProofs -dsimp[];refine aS (ai tok mixed [8,12] [(0,[1])] [] (by kernel_rfl) fun C K hC hK=>?_);simp -implicitDefEqProofs [aE,ag,fx c.prf.length (by omega),cap24 c.prf.length (by omega),(show c.prf.length≤9223372036854775806∧(c.prf.length+1)*32≤140737488355328 by omega)];refine hK _ _ ?_;simp -dsimp[];unfold gB;simp only;exact⟨rfl,_,by simp[st1,aE,ag];rfl⟩
end
end Go.Proofs.YtdhgchekdkjcpaaGreatDoor
