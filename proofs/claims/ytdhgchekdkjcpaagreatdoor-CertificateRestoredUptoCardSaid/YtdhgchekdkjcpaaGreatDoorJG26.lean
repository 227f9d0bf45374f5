/- JG26: own texts of this seat, joined and shortened by pack4.py: B2c. -/
import Derived.Test.YtdhgchekdkjcpaaGreatDoorJG15
set_option linter.unusedVariables false
set_option linter.unusedSimpArgs false
set_option maxRecDepth 100000
set_option maxHeartbeats 64000000
open List renaming replicate→kQ
namespace Go.Proofs.YtdhgchekdkjcpaaGreatDoor
section
open Go Go.AM Go.Lib
theorem add_2c(R0:B)(hR0:∀n,rbB n R0)(c:Cert)(hk:c.k=2)(st:Nat)(w:List UInt8)(f:Bool)(ns:List Int)(h1:c.cells.length≤100000)(h2:c.cores.length≤100000)(h3:c.upr.length≤100000)(hl:ns.length≤100000)(hw:¬w=ao)(hw2:¬w=al):
  aq Tryz.prog 25 [.ptr 1 0,.int .i64 st,.str (bs w),.lst 1 f (ns.map aD)] (st2 R0 c.cells c.cores c.upr) (fP R0 (ad c st w ns)):=by
 rw[addC_2 hk];rw[if_neg (fun h=>hw h.1),if_neg (fun h=>hw2 h.1)];have n1:¬(bs w).toList=(bs [99,101,108,108]).toList:=ae hw;have n2:¬(bs w).toList=(bs [99,111,114,101]).toList:=ae hw2;have hnd:=dI w f ns hl
 cases hx:aW w ns with
 | none =>
  rw[hx]at hnd;simp only[ndV]at hnd;refine aB tok Tryz.func25 rfl rfl ?_;refine wx ?_;simp (maxSteps:=8000000) -implicitDefEqProofs -dsimp[Tryz.f25,kQ,st2,aC,n1,n2];refine cPx (hnd) (by simp) ?_;simp (maxSteps:=2000000) -implicitDefEqProofs -dsimp[];exact⟨rfl,_,rfl⟩
 | some x =>
  rw[hx]at hnd;obtain⟨xv,xl⟩:=x;simp only[ndV,aE,ag]at hnd;refine aB tok Tryz.func25 rfl rfl ?_;refine wx ?_;simp (maxSteps:=8000000) -implicitDefEqProofs -dsimp[Tryz.f25,kQ,st2,aC,n1,n2];refine cPx (hnd) (by simp) ?_;simp (maxSteps:=2000000) -implicitDefEqProofs -dsimp[];refine aS (ai tok mixed [8,12] [(0,[1])] [] (by kernel_rfl) fun C K hC hK=>?_);simp -implicitDefEqProofs [(show c.upr.length≤9223372036854775806∧(c.upr.length+1)*32≤140737488355328 by omega)];refine hK _ _ ?_;simp -dsimp[];unfold fP;simp only;exact⟨rfl,_,by simp[st2,aE,ag];rfl⟩
end
end Go.Proofs.YtdhgchekdkjcpaaGreatDoor
