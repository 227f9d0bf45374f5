/- JG30: own texts of this seat, joined and shortened by pack4.py: B3c. -/
import Derived.Test.YtdhgchekdkjcpaaGreatDoorJG14
set_option linter.unusedVariables false
set_option linter.unusedSimpArgs false
set_option maxRecDepth 100000
set_option maxHeartbeats 64000000
open List renaming replicate→kQ
namespace Go.Proofs.YtdhgchekdkjcpaaGreatDoor
section
open Go Go.AM Go.Lib
theorem add_3c(R0:B)(c:Cert)(hk:c.k=3)(st:Nat)(w:List UInt8)(f:Bool)(ns:List Int)(h1:c.sets.length≤100000)(h2:c.prs.length≤100000)(hl:ns.length≤100000)(hw:¬w=bT)(hw2:¬w=ar):
  aq Tryz.prog 25 [.ptr 1 0,.int .i64 st,.str (bs w),.lst 1 f (ns.map aD)] (st3 R0 c.sets c.prs) (gA R0 (ad c st w ns)):=by
 rw[kJ hk];rw[if_neg (fun h=>hw h.1),if_neg (fun h=>hw2 h.1)];have n1:¬(bs w).toList=(bs [115,101,116]).toList:=ae hw;have n2:¬(bs w).toList=(bs [112,97,105,114]).toList:=ae hw2;have hnd:=dI w f ns hl
 cases hx:aW w ns with
 | none =>
  rw[hx]at hnd;simp only[ndV]at hnd;refine aB tok Tryz.func25 rfl rfl ?_;refine wx ?_;simp (maxSteps:=8000000) -implicitDefEqProofs -dsimp[Tryz.f25,kQ,st3,aC,n1,n2];refine cPx (hnd) (by simp) ?_;simp (maxSteps:=2000000) -implicitDefEqProofs -dsimp[];exact⟨rfl,_,rfl⟩
 | some x =>
  rw[hx]at hnd;obtain⟨xv,xl⟩:=x;simp only[ndV,aE,ag]at hnd;refine aB tok Tryz.func25 rfl rfl ?_;refine wx ?_;simp (maxSteps:=8000000) -implicitDefEqProofs -dsimp[Tryz.f25,kQ,st3,aC,n1,n2];refine cPx (hnd) (by simp) ?_;simp (maxSteps:=2000000) -implicitDefEqProofs -dsimp[];exact⟨rfl,_,rfl⟩
end
end Go.Proofs.YtdhgchekdkjcpaaGreatDoor
