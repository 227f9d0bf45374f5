/- JG21: own texts of this seat, joined and shortened by pack4.py: A1a. -/
import Derived.Test.YtdhgchekdkjcpaaGreatDoorJG14
set_option linter.unusedVariables false
set_option linter.unusedSimpArgs false
set_option maxRecDepth 100000
set_option maxHeartbeats 64000000
open List renaming replicate→kQ
namespace Go.Proofs.YtdhgchekdkjcpaaGreatDoor
section
open Go Go.AM Go.Lib
theorem add_1a(R0:B)(c:Cert)(hk:c.k=1)(st:Nat)(w:List UInt8)(f:Bool)(ns:List Int)(h1:c.del.length≤100000)(h2:c.prf.length≤100000)(hl:ns.length≤100000)(hw:w=bR):
  aq Tryz.prog 25 [.ptr 1 0,.int .i64 st,.str (bs w),.lst 1 f (ns.map aD)] (st1 R0 c.w c.del c.prf) (gB R0 (ad c st w ns)):=by
 subst hw;by_cases hs:st=0
 ·subst hs;by_cases hn:ns.length=1
  ·obtain⟨a,rfl⟩:=dt hn
   have e:ad c 0 bR [a]=some ({ c with del:=c.del++[a] },0):=by unfold ad;rw[if_pos ⟨hk,rfl,rfl,rfl⟩];rfl
   rw[e];refine aB tok Tryz.func25 rfl rfl ?_;refine wx ?_;simp -dsimp[Tryz.f25,kQ,st1,bR,aC,aD];refine aS (ai tok mixed [10,14] [(0,[1])] [] (by kernel_rfl) fun C K hC hK=>?_);simp -implicitDefEqProofs [aD,cap8 c.del.length (by omega)];refine hK _ _ ?_;simp -dsimp[];unfold gB;simp only;exact⟨rfl,[],by simp[st1,aD]⟩
  ·have e:ad c 0 bR ns=none:=by rw[gU hk (fun h=>hn h.2.2),dS]
   have hnd:=dI bR f ns hl;rw[dS]at hnd
   have hn2:¬(ns.length:Int)=1:=by omega
   rw[e];simp only[bR,ndV]at hnd;refine aB tok Tryz.func25 rfl rfl ?_;refine wx ?_;simp (maxSteps:=8000000) -implicitDefEqProofs -dsimp[Tryz.f25,kQ,st1,bR,aC,hn2];refine cPx (hnd) (by simp) ?_;simp -dsimp[];exact⟨rfl,_,rfl⟩
 ·have e:ad c st bR ns=none:=by rw[gU hk (fun h=>hs h.2.1),dS]
  have hnd:=dI bR f ns hl;rw[dS]at hnd
  have hn2:¬(st:Int)=0:=by omega
  rw[e];simp only[bR,ndV]at hnd;refine aB tok Tryz.func25 rfl rfl ?_;refine wx ?_;simp (maxSteps:=8000000) -implicitDefEqProofs -dsimp[Tryz.f25,kQ,st1,bR,aC,hn2,hs];refine cPx (hnd) (by simp) ?_;simp -dsimp[];exact⟨rfl,_,rfl⟩
end
end Go.Proofs.YtdhgchekdkjcpaaGreatDoor
