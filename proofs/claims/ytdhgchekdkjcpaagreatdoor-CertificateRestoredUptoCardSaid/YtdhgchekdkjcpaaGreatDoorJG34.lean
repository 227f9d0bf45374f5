/- JG34: own texts of this seat, joined and shortened by pack4.py: B4b. -/
import Derived.Test.YtdhgchekdkjcpaaGreatDoorJG15
set_option linter.unusedVariables false
set_option linter.unusedSimpArgs false
set_option maxRecDepth 100000
set_option maxHeartbeats 64000000
open ByteArray renaming empty→aX
open Int renaming eq_ofNat_of_zero_le→lZ
open List renaming replicate→kQ,take_of_length_le→kV,length_take→kg,take→lh,length_drop→mL
open Nat renaming add_comm→mX
namespace Go.Proofs.YtdhgchekdkjcpaaGreatDoor
section
open Go Go.AM Go.Lib
theorem add_4b(R0:B)(hR0:∀n,rbB n R0)(c:Cert)(hk:c.k=4)(st:Nat)(w:List UInt8)(f:Bool)(ns:List Int)(h1:c.steps.length≤100000)(hl:ns.length≤100000)(hw:w=bB)(hq:3≤ns.length∧isS (gN ns 1)∧isS (gN ns 2)):
  aq Tryz.prog 25 [.ptr 1 0,.int .i64 st,.str (bs w),.lst 1 f (ns.map aD)] (st4 R0 c.steps c.g) (iE R0 (ad c st w ns)):=by
 rw[kI hk];subst hw;rw[if_pos ⟨rfl,hq⟩];obtain⟨hn,sb,sd⟩:=hq
 have q0:0<ns.length:=by omega
 have q1:1<ns.length:=by omega
 have q2:2<ns.length:=by omega
 rw[jq ns q0,jq ns q1,jq ns q2];rw[jq ns q1]at sb;rw[jq ns q2]at sd;obtain⟨a,ha⟩:∃a,a=ns[0]:=⟨_,rfl⟩;obtain⟨b,hb⟩:∃b,b=ns[1]:=⟨_,rfl⟩;obtain⟨d,hd⟩:∃d,d=ns[2]:=⟨_,rfl⟩;rw[←hb]at sb;rw[←hd]at sd;rw[←ha,←hb,←hd];have ha':=ha.symm;have hb':=hb.symm;have hd':=hd.symm;clear ha hb hd;obtain⟨b,rfl⟩:=lZ sb.1;obtain⟨d,rfl⟩:=lZ sd.1;have cb:=dj (b:Int);have cd:=dj (d:Int);rw[decide_eq_true sb]at cb;rw[decide_eq_true sd]at cd
 have hn2:(3:Int)≤(ns.length:Int):=by omega
 have hcap:c.steps.length≤9223372036854775806∧(c.steps.length+1)*40≤140737488355328:=by omega
 refine bF ?_;refine aB tok Tryz.func25 rfl rfl ?_;refine wx ?_;simp (maxSteps:=8000000) -implicitDefEqProofs -dsimp[Tryz.f25,kQ,st4,bB,aC,hn2,q1,q2,hb',hd',aD];refine cPx (cb) (by simp) ?_;simp (maxSteps:=2000000) -implicitDefEqProofs -dsimp[q1,q2,hb',hd',aD];refine cPx (cd) (by simp) ?_;simp (maxSteps:=2000000) -implicitDefEqProofs -dsimp[];refine aS (ai tok mixed [13,14] [(0,[1]),(1,[1]),(2,[1]),(3,[1]),(4,[1]),(5,[1]),(6,[1]),(7,[1]),(8,[1]),(9,[1]),(10,[1]),(11,[1]),(12,[1])] [] (by kernel_rfl) fun C K hC hK=>?_);simp -implicitDefEqProofs [q0,q1,q2,ha',hb',hd',aD,dD sb,dD sd];refine hK _ _ ?_;simp (maxSteps:=2000000) -implicitDefEqProofs -dsimp[];refine aS (ba 3 1 [] 3 [1] rfl (by simp) (by simp) (W_loopM 271 0x7fff0000000000000000000000000000000000000000000000000000000000002000 (by simp[mB]<;>rfl) (σ:=Nat) (fun j=>j+3≤ns.length) (fun j=>ns.length-j) (fun j=>[(13,.int .i64 ((j+3:Nat):Int))]) (fun j=>[R0,B.cells [.int .i64 4,.nilS,.int .i64 0,.nilS,.nilS,.str aX,.nilS,.nilS,.nilS,.nilS,.nilS,.nilS,.buf 2 0 c.steps.length c.steps.length,.int .u32 (c.g.l:Int),.int .u32 (c.g.r:Int)],B.buf 110 4 (c.steps.map aL) false,B.cells [.int .i64 a,.buf 4 0 j j,.int .u32 (b:Int),.int .u32 (d:Int)],B.buf 3 1 (((ns.drop 3).take j).map aD) false]) 0 (by omega) (by simp) (by simp) (by simp) ?_));rintro j hj N Q hN hQ;have hrl:(ns.drop 3).length=ns.length-3:=mL
 have hjl:((ns.drop 3).take j).length=j:=by rw[kg];omega
 obtain⟨m,hm⟩:∃m,m=j+3:=⟨_,rfl⟩;rw[←hm];by_cases hbi:m<ns.length
 ·have htk:=ap (ns.drop 3) (i:=j) (by omega)
  have hxe:(ns.drop 3)[j]'(by omega)=ns[m]:=by simp[hm,mX]
  rw[hxe]at htk;obtain⟨x,hx⟩:∃x,x=ns[m]:=⟨_,rfl⟩;have hx':=hx.symm;rw[hx']at htk;obtain⟨S,hS⟩:∃S,S=(ns.drop 3).take j:=⟨_,rfl⟩;rw[←hS]at hjl htk ⊢;refine wx ?_;simp -dsimp[hbi];refine aS (ai tok mixed [7,9] [] [] (by kernel_rfl) fun C K hC hK=>?_);simp -implicitDefEqProofs [hbi,hx',aD,cap8 j (by omega),hjl];refine hK _ _ ?_;simp (maxSteps:=2000000) -implicitDefEqProofs -dsimp[aO m (by omega)];refine hN (j+1) _ _ (by omega) (by omega) ?_ ⟨[],?_⟩ (by simp) (by refine List.forall_mem_cons.2 ⟨hR0 _,?_⟩;generalize lh (j+1) (List.drop 3 ns)=S2;simp[aD,aL])
  ·simp;omega
  ·rw[htk];simp[aD]
 ·have e:(ns.drop 3).take j=ns.drop 3:=kV (by omega)
  have hje:j=(ns.drop 3).length:=by omega
  rw[e];obtain⟨r,hr⟩:∃r,r=ns.drop 3:=⟨_,rfl⟩;rw[←hr]at hje ⊢;clear hN hjl e;subst hje;refine wx ?_;simp -dsimp[hbi];refine hQ _ _ _ ?_;simp -dsimp[];refine aS (ai tok mixed [7,10] [(0,[1])] [] (by kernel_rfl) fun C K hC hK=>?_);simp -implicitDefEqProofs [hcap];refine hK _ _ ?_;simp (maxSteps:=2000000) -implicitDefEqProofs -dsimp[];refine⟨_,eS (H2:=[R0,B.cells [.int .i64 4,.nilS,.int .i64 0,.nilS,.nilS,.str aX,.nilS,.nilS,.nilS,.nilS,.nilS,.nilS,.buf 2 0 (c.steps.length+1) (c.steps.length+1),.int .u32 (c.g.l:Int),.int .u32 (c.g.r:Int)],B.buf 110 4 (c.steps.map aL++[aL ⟨a,r,⟨b,d⟩⟩]) false,B.cells [.int .i64 a,.buf 4 0 r.length r.length,.int .u32 (b:Int),.int .u32 (d:Int)],B.buf 3 1 (r.map aD) true]) (fD (jT 4 [] (xs:=r.map aD) rfl (by simp)) (rp_E 2 c.steps.length (x:=.agg [.int .i64 a,.buf 4 0 r.length r.length,.int .u32 (b:Int),.int .u32 (d:Int)]) (y:=aL ⟨a,r,⟨b,d⟩⟩) rfl (by simp) rfl (by simp[aL,V.cells,V.one]) (fun j p q hp hq=>?_))) (by simp),?_⟩
  ·match j with
   | 0=>simp[V.cells,aL]at hp hq;subst hp;subst hq;exact cx _ _
   | 1 =>
    simp[V.cells,aL]at hp hq;subst hp;subst hq;have:=jO (H:=[R0,B.cells [.int .i64 4,.nilS,.int .i64 0,.nilS,.nilS,.str aX,.nilS,.nilS,.nilS,.nilS,.nilS,.nilS,.buf 2 0 (c.steps.length+1) (c.steps.length+1),.int .u32 (c.g.l:Int),.int .u32 (c.g.r:Int)],B.buf 110 4 (c.steps.map aL++[.agg [.int .i64 a,.buf 4 0 r.length r.length,.int .u32 (b:Int),.int .u32 (d:Int)]]) false,B.cells [.int .i64 a,.buf 4 0 r.length r.length,.int .u32 (b:Int),.int .u32 (d:Int)],B.buf 3 1 (r.map aD) true]) (k:=4) (e:=3) (z:=1) (xs:=r.map aD) rfl;simpa using this
   | 2=>simp[V.cells,aL]at hp hq;subst hp;subst hq;exact cx _ _
   | 3=>simp[V.cells,aL]at hp hq;subst hp;subst hq;exact cx _ _
   | m+4=>simp[V.cells]at hp
  ·unfold iE;refine⟨by simp,[B.cells [.int .i64 a,.buf 4 0 r.length r.length,.int .u32 (b:Int),.int .u32 (d:Int)],B.buf 3 1 (r.map aD) true],?_⟩;simp[st4,hr]
end
end Go.Proofs.YtdhgchekdkjcpaaGreatDoor
