/- JG29: own texts of this seat, joined and shortened by pack4.py: B3b. -/
import Derived.Test.YtdhgchekdkjcpaaGreatDoorJG14
set_option linter.unusedVariables false
set_option linter.unusedSimpArgs false
set_option maxRecDepth 100000
set_option maxHeartbeats 64000000
open List renaming replicate→kQ,map_cons→kj,map_nil→lD
namespace Go.Proofs.YtdhgchekdkjcpaaGreatDoor
section
open Go Go.AM Go.Lib
theorem add_3b(R0:B)(c:Cert)(hk:c.k=3)(st:Nat)(w:List UInt8)(f:Bool)(ns:List Int)(h1:c.sets.length≤100000)(h2:c.prs.length≤100000)(hl:ns.length≤100000)(hw:w=ar):
  aq Tryz.prog 25 [.ptr 1 0,.int .i64 st,.str (bs w),.lst 1 f (ns.map aD)] (st3 R0 c.sets c.prs) (gA R0 (ad c st w ns)):=by
 rw[kJ hk];subst hw;rw[if_neg (show ¬(ar=bT∧st=0∧ns.length=1∧isS (gN ns 0)) from fun h=>by cases h.1)];have n2:¬(bs [112,97,105,114]).toList=(bs [115,101,116]).toList:=ae (by decide);have hnd:=dI ar f ns hl;rw[nodeC_pair]at hnd;simp only[ar,ndV]at hnd;by_cases hn:ns.length=3
 case neg =>
  rw[if_neg (fun h=>hn h.2.1)]
  have hn2:¬(ns.length:Int)=3:=by omega
  refine aB tok Tryz.func25 rfl rfl ?_;refine wx ?_;simp (maxSteps:=8000000) -implicitDefEqProofs -dsimp[Tryz.f25,kQ,st3,ar,aC,hn2,n2];refine cPx (hnd) (by simp) ?_;simp (maxSteps:=2000000) -implicitDefEqProofs -dsimp[];exact⟨rfl,_,rfl⟩
 obtain⟨a,b,d,rfl⟩:=three_of hn;have ga:gN [a,b,d] 0=a:=rfl;have gb:gN [a,b,d] 1=b:=rfl;have gd:gN [a,b,d] 2=d:=rfl;rw[ga,gb,gd];have ca:=dj a;simp only[kj,lD,aD]at hnd;by_cases ha:isS a
 ·rw[decide_eq_true ha]at ca;rw[if_pos ⟨rfl,rfl,ha⟩];refine aB tok Tryz.func25 rfl rfl ?_;refine wx ?_;simp (maxSteps:=8000000) -implicitDefEqProofs -dsimp[Tryz.f25,kQ,st3,ar,aC,aD,n2];refine cPx (ca) (by simp) ?_;simp (maxSteps:=2000000) -implicitDefEqProofs -dsimp[];refine aS (ai tok mixed [17,20] [(0,[1])] [] (by kernel_rfl) fun C K hC hK=>?_);simp -implicitDefEqProofs [dD ha,cap24 c.prs.length (by omega)];refine hK _ _ ?_;simp -dsimp[];unfold gA;refine⟨by simp,[],?_⟩;simp[st3,aQ]
 ·rw[decide_eq_false ha]at ca;rw[if_neg (fun h=>ha h.2.2)];refine aB tok Tryz.func25 rfl rfl ?_;refine wx ?_;simp (maxSteps:=8000000) -implicitDefEqProofs -dsimp[Tryz.f25,kQ,st3,ar,aC,aD,n2];refine cPx (ca) (by simp) ?_;simp (maxSteps:=2000000) -implicitDefEqProofs -dsimp[aC,n2];refine cPx (hnd) (by simp) ?_;simp (maxSteps:=2000000) -implicitDefEqProofs -dsimp[];exact⟨rfl,_,rfl⟩
end
end Go.Proofs.YtdhgchekdkjcpaaGreatDoor
