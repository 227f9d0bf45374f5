/- JG25: own texts of this seat, joined and shortened by pack4.py: B2b. -/
import Derived.Test.YtdhgchekdkjcpaaGreatDoorJG15
set_option linter.unusedVariables false
set_option linter.unusedSimpArgs false
set_option maxRecDepth 100000
set_option maxHeartbeats 64000000
open ByteArray renaming empty→aX
open Int renaming tmod_eq_emod_of_nonneg→kz
open List renaming replicate→kQ,getElem?_eq_getElem→kR,take_of_length_le→kV,length_take→kg,take→lh
namespace Go.Proofs.YtdhgchekdkjcpaaGreatDoor
section
open Go Go.AM Go.Lib
theorem add_2b(R0:B)(hR0:∀n,rbB n R0)(c:Cert)(hk:c.k=2)(st:Nat)(w:List UInt8)(f:Bool)(ns:List Int)(h1:c.cells.length≤100000)(h2:c.cores.length≤100000)(h3:c.upr.length≤100000)(hl:ns.length≤100000)(hw:w=al):
  aq Tryz.prog 25 [.ptr 1 0,.int .i64 st,.str (bs w),.lst 1 f (ns.map aD)] (st2 R0 c.cells c.cores c.upr) (fP R0 (ad c st w ns)):=by
 rw[addC_2 hk];subst hw;rw[if_neg (show ¬(al=ao∧st=0∧ns.length=2) from fun h=>by cases h.1),gJ];have n2:¬(bs [99,111,114,101]).toList=(bs [99,101,108,108]).toList:=ae (by decide);have hnd:=dI al f ns hl;rw[gJ]at hnd;simp only[al,ndV]at hnd;by_cases hs:st≤1
 case neg =>
  rw[if_neg (fun h=>hs h.2.1)]
  have hs2:¬(st:Int)≤1:=by omega
  refine aB tok Tryz.func25 rfl rfl ?_;refine wx ?_;simp (maxSteps:=8000000) -implicitDefEqProofs -dsimp[Tryz.f25,kQ,st2,al,aC,hs,hs2,n2];refine cPx (hnd) (by simp) ?_;simp (maxSteps:=2000000) -implicitDefEqProofs -dsimp[];exact⟨rfl,_,rfl⟩
 have hs2:(st:Int)≤1:=by omega
 by_cases hev:ns.length % 2=0
 case neg =>
  rw[if_neg (fun h=>hev h.2.2)]
  have hn3:¬((ns.length:Int).tmod 2=0):=by rw[kz (by omega)];omega
  have hn4:((ns.length:Int).tmod 2 == 0)=false:=by simpa using hn3
  refine aB tok Tryz.func25 rfl rfl ?_;refine wx ?_;simp (maxSteps:=8000000) -implicitDefEqProofs -dsimp[Tryz.f25,kQ,st2,al,aC,hs,hs2,n2,hn4];refine cPx (hnd) (by simp) ?_;simp (maxSteps:=2000000) -implicitDefEqProofs -dsimp[];exact⟨rfl,_,rfl⟩
 rw[if_pos ⟨rfl,hs,hev⟩]
 have hn3:(ns.length:Int).tmod 2=0:=by rw[kz (by omega)];omega
 have hcap:=cap24 c.cores.length (by omega);have hsn:=celN_P ns hev;obtain⟨l,hlp⟩:∃l,l=iW ns:=⟨_,rfl⟩;rw[←hlp]at hsn ⊢;have hlz:=eJ l;rw[hsn]at hlz;refine bF ?_;refine aB tok Tryz.func25 rfl rfl ?_;refine wx ?_;simp (maxSteps:=8000000) -implicitDefEqProofs -dsimp[Tryz.f25,kQ,st2,al,aC,hs,hs2,n2,hn3];refine aS (W_own 133 2 [10] (by simp) (W_loopM 125 0x1ffffc00000000000000000000000c00 (by simp[mB]<;>rfl) (σ:=Nat) (fun j=>j≤l.length) (fun j=>l.length-j) (fun j=>[(10,.buf 5 0 j j),(11,.int .i64 ((2*j:Nat):Int))]) (fun j=>[R0,B.cells [.int .i64 2,.nilS,.int .i64 0,.nilS,.buf 2 0 c.cells.length c.cells.length,.str aX,.nilS,.nilS,.buf 3 0 c.cores.length c.cores.length,.buf 4 0 c.upr.length c.upr.length,.nilS,.nilS,.nilS,.int .u32 0,.int .u32 0],B.buf 133 2 (c.cells.map aK) false,B.buf 27 1 (c.cores.map aJ) false,B.buf 108 2 (c.upr.map aE) false,B.buf 133 2 ((l.take j).map aK) false]) 0 (by simp) (by simp) (by simp) (by simp) ?_));rintro j hj N Q hN hQ;obtain⟨m,hm⟩:∃m,m=2*j:=⟨_,rfl⟩;rw[←hm]
 have hjl:(l.take j).length=j:=by rw[kg];omega
 by_cases hb:j<l.length
 ·have hmb:m<ns.length:=by omega
  have hmb2:m+1<ns.length:=by omega
  obtain⟨y,hy⟩:∃y,l[j]?=some y:=⟨_,kR hb⟩;obtain⟨a1,a2⟩:=celN_at l j y hy;rw[hsn,←hm]at a1 a2;obtain⟨q1,b1⟩:=List.getElem?_eq_some_iff.1 a1;obtain⟨q2,b2⟩:=List.getElem?_eq_some_iff.1 a2
  have htk:l.take (j+1)=l.take j++[y]:=by rw[ap l hb];rw[kR hb]at hy;rw[Option.some.inj hy]
  obtain⟨S,hS⟩:∃S,S=l.take j:=⟨_,rfl⟩;rw[←hS]at hjl htk ⊢;refine wx ?_;simp -dsimp[hmb];refine aS (ai tok mixed [12] [] [] (by kernel_rfl) fun C K hC hK=>?_);simp -implicitDefEqProofs [(show(0:Int)≤(m:Int)+1 by omega),hmb,hmb2,aO m (by omega),b1,b2,aD,fx j (by omega),hjl];refine hK _ _ ?_;simp (maxSteps:=2000000) -implicitDefEqProofs -dsimp[aa (n:=(m:Int)+2) (by omega) (by omega)]
  refine hN (j+1) _ _ (by omega) (by omega) ?_ ⟨[],?_⟩ (by simp) (by
   refine List.forall_mem_cons.2 ⟨hR0 _,?_⟩;refine List.forall_mem_cons.2 ⟨by simp,?_⟩;refine List.forall_mem_cons.2 ⟨by simp[aK],?_⟩;refine List.forall_mem_cons.2 ⟨by simp[aJ,aK],?_⟩;refine List.forall_mem_cons.2 ⟨by simp[aE,ag],?_⟩;generalize lh (j+1) l=S2
   simp[aK])
  ·simp;omega
  ·rw[htk];simp[aK]
 ·have e:l.take j=l:=kV (by omega)
  have hje:j=l.length:=by omega
  rw[e];clear hN hjl;subst hje
  have hend:¬m<ns.length:=by omega
  refine wx ?_;simp -dsimp[hend];refine hQ _ _ _ ?_;simp (maxSteps:=2000000) -implicitDefEqProofs -dsimp[hcap];refine⟨_,eS (H2:=[R0,B.cells [.int .i64 2,.nilS,.int .i64 0,.nilS,.buf 2 0 c.cells.length c.cells.length,.str aX,.nilS,.nilS,.buf 3 0 (c.cores.length+1) (c.cores.length+1),.buf 4 0 c.upr.length c.upr.length,.nilS,.nilS,.nilS,.int .u32 0,.int .u32 0],B.buf 133 2 (c.cells.map aK) false,B.buf 27 1 (c.cores.map aJ++[aJ l]) false,B.buf 108 2 (c.upr.map aE) false,B.buf 133 2 (l.map aK) true]) (fD (jT 5 [] (xs:=l.map aK) rfl (by simp)) (rp_E 3 c.cores.length (x:=.buf 5 0 l.length l.length) (y:=aJ l) rfl (by simp) rfl (by simp[aJ,V.cells,V.one]) (fun j p q hp hq=>?_))) (by simp),?_⟩
  ·match j with
   | 0 =>
    simp[V.cells,aJ]at hp hq;subst hp;subst hq;have:=jO (H:=[R0,B.cells [.int .i64 2,.nilS,.int .i64 0,.nilS,.buf 2 0 c.cells.length c.cells.length,.str aX,.nilS,.nilS,.buf 3 0 (c.cores.length+1) (c.cores.length+1),.buf 4 0 c.upr.length c.upr.length,.nilS,.nilS,.nilS,.int .u32 0,.int .u32 0],B.buf 133 2 (c.cells.map aK) false,B.buf 27 1 (c.cores.map aJ++[.buf 5 0 l.length l.length]) false,B.buf 108 2 (c.upr.map aE) false,B.buf 133 2 (l.map aK) true]) (k:=5) (e:=133) (z:=2) (xs:=l.map aK) rfl;simpa using this
   | m+1=>simp[V.cells]at hp
  ·unfold fP;refine⟨by simp,[B.buf 133 2 (l.map aK) true],?_⟩;simp[st2]
end
end Go.Proofs.YtdhgchekdkjcpaaGreatDoor
