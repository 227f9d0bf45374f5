/- JF16: own texts of this seat, joined and shortened by pack4.py: Gg. -/
import Derived.Test.YtdhgchekdkjcpaaGreatDoorJF14
import Derived.Test.YtdhgchekdkjcpaaGreatDoorJF15
set_option linter.unusedVariables false
set_option linter.unusedSimpArgs false
set_option maxRecDepth 100000
set_option maxHeartbeats 64000000
open List renaming length_append→gh,take_of_length_le→gj,replicate→gk,getElem_mem→go,length_cons→gw,map_cons→hU,length_take→iC,length_map→iE,length_nil→iO,nil_append→iS,map_nil→iU,map_append→iu,mem_append→iw,mem_cons→jE
open Nat renaming add_assoc→iJ,eq_zero_or_pos→jA
namespace Go.Proofs.YtdhgchekdkjcpaaGreatDoor
section
open Go Go.AM Go.Lib
def nbW(s:Cst)(j:Nat):V:=if j=0 then .lst 1 true [.int .i64 s.r,.int .i64 (s.d.l:Int),.int .i64 (s.d.r:Int)] else .buf 5 0 (j+3) (j+3)
theorem nbW_0(s:Cst):nbW s 0 = .lst 1 true [.int .i64 s.r,.int .i64 (s.d.l:Int),.int .i64 (s.d.r:Int)]:=rfl
theorem nbW_p(s:Cst){j:Nat}(h:0<j):nbW s j = .buf 5 0 (j+3) (j+3):=by unfold nbW;rw[if_neg (by omega)]
theorem nbH_rb(s:Cst)(j:Nat)(n:Nat):∀bl∈nbH s j,rbB n bl:=by
 intro bl hbl;unfold nbH at hbl;split at hbl
 ·cases hbl
 ·rw[List.mem_singleton.1 hbl];simp[aN]
theorem write_4(c:Cert)(hk:c.k=4)(h:SzC c):bR Tryz.prog 34 [.ptr 1 0,aF c] (wrH (B.cells (aB c)) [] []) fun r H'=>r = .bool (okC c)∧∃G,H'=wrH (B.cells (aB c)) (wrL c) []++G:=by
 have hC:=bm c
 have hpc:aq c=[]:=by unfold aq;rw[if_neg (by omega),if_neg (by omega)]
 have hok:okC c=true:=by simp[okC,hk,hpc]
 have hwl:wrL c=al c++[bO]:=by unfold wrL;rw[if_pos (by omega),hpc];simp[bn]
 have hhd:al c=aA cr [(c.g.l:Int),(c.g.r:Int)]::c.steps.map fun s=>aA ap (stN s):=by unfold al;rw[if_neg (by omega),if_neg (by omega),if_neg (by omega),if_pos hk]
 rw[hok,hwl,hhd];obtain⟨_,_,_,_,_,_,_,_,r9,r10,r11⟩:=h.r;have hl7:=h.l7;have hl8:=h.l8;obtain⟨C0,hC0⟩:∃C0,C0=B.cells (aB c):=⟨_,rfl⟩;rw[←hC0]at hC ⊢;obtain⟨k,del,w,prf,cells,t,cores,upr,sets,prs,steps,⟨gl,gr⟩⟩:=c;simp only at hk r9 r10 r11 hl7 hl8 ⊢;subst hk;clear hpc hhd hok h hwl;obtain⟨C3,hC3e⟩:∃C3,C3=B.cells (aB ⟨4,del,w,prf,cells,t,cores,upr,sets,prs,steps,⟨gl,gr⟩⟩):=⟨_,rfl⟩;have hC3:=bm ⟨4,del,w,prf,cells,t,cores,upr,sets,prs,steps,⟨gl,gr⟩⟩;rw[←hC3e]at hC3;obtain⟨A,hA⟩:∃A,A=aA cr [(gl:Int),(gr:Int)]:=⟨_,rfl⟩;have p1:=cE C0 [C3] (hC _) (by simpa using hC3 _) [] cr true [(gl:Int),(gr:Int)] (by simp) (by decide) (by simp) (by simpa using⟨bh r10,bh r11⟩)
 have p2:=fun ls hls fl (x:Cst) (hx:∀n∈stN x,inI n) (hxl:x.f.length≤100000) (X:B) (hX:∀n,rbB n X) (R:List B) (hR:∀n,∀bl∈R,rbB n bl)=>cE C0 (C3::X::R) (hC _) (by
  intro bl hbl
  rcases List.mem_cons.1 hbl with rfl | hbl
  ·exact hC3 _
  rcases List.mem_cons.1 hbl with rfl | hbl
  ·exact hX _
  ·exact hR _ _ hbl) ls ap fl (stN x) hls (by decide) (by simp[stN];omega) hx
 have p4:=fun ls hls=>cJ (cE C0 [C3] (hC _) (by simpa using hC3 _) ls bO false [] hls (by decide) (by simp) (by simp)) (args:=[.ptr 1 0,.str (bs bO),.nilS]) rfl dy
 rw[←hA]at p1 ⊢;subst hC3e;simp only[hU,iU,aN,wrH,iO,iS,aB,aC,aE]at p1 p2 p4;refine ay tok Tryz.func34 rfl rfl ?_;refine wx ?_;simp -dsimp[Tryz.f34,gk,aF,aB,aC,aE,wrH,dN gl (by omega),dN gr (by omega)];refine wcE p1 ?_;simp -dsimp[];refine ak (W_loopM 167 0x7fffffff0000000000000000000000000000160000 (by simp[mB]<;>rfl) (σ:=Nat) (fun i=>i≤steps.length) (fun i=>steps.length-i) (fun i=>[(136,.int .i64 i)]) (fun i=>wrH C0 (A::(steps.map fun s=>aA ap (stN s)).take i) [B.cells (aB ⟨4,del,w,prf,cells,t,cores,upr,sets,prs,steps,⟨gl,gr⟩⟩)]) 0 (by omega) (by simp) (by simp[wrH,aB,aC,aE]) (by simp[wrH]) ?_);intro i hi N Q hN hQ;by_cases hb:i<steps.length
 ·have hnx:=af steps (fun s=>aA ap (stN s)) hb;have hin:=r9 _ (go hb);have hfl:=hl8 _ (go hb);obtain⟨x,hx⟩:∃x,x=steps[i]:=⟨_,rfl⟩;have hx':=hx.symm;rw[hx']at hnx hin hfl;obtain⟨q1,q2,q3,q4⟩:=hin
  have hsn:∀n∈stN x,inI n:=by
   intro n hn;simp[stN]at hn
   rcases hn with rfl | rfl | rfl | hn
   ·exact q1
   ·exact bh q3
   ·exact bh q4
   ·exact q2 n hn
  have hsl:(stN x).length=x.f.length+3:=by simp[stN]
  have hlt:((steps.map fun s=>aA ap (stN s)).take i).length≤1000000:=by rw[iC];omega
  obtain⟨O,hO⟩:∃O,O=A::(steps.map fun s=>aA ap (stN s)).take i:=⟨_,rfl⟩
  have hOl:O.length≤100000000:=by rw[hO,gw];omega
  have hO2:A::(steps.map fun s=>aA ap (stN s)).take (i+1)=O++[aA ap (stN x)]:=by rw[hnx,hO];rfl
  rw[←hO]
  have c2:=fun fl R hR=>p2 O hOl fl x hsn hfl (B.cells [.int .i64 x.r,.lst 1 false (x.f.map aN),.int .u32 (x.d.l:Int),.int .u32 (x.d.r:Int)]) (fun n=>by simp[aN]) R hR
  simp only[wrH,aB,aC,aE];refine wx ?_;simp -dsimp[hb,hx',bi,dN x.d.l (by omega),dN x.d.r (by omega)];refine ak (W_loopM 163 0x7fc00000000000000000000000000000000140000 (by simp[mB]<;>rfl) (σ:=Nat) (fun j=>j≤x.f.length) (fun j=>x.f.length-j) (fun j=>[(154,.int .i64 j),(18,nbW x j)]) (fun j=>[C0,B.cells [.buf 2 0 O.length O.length],B.buf 9 1 (O.map fun p=>.str (bs p)) false,B.cells (aB ⟨4,del,w,prf,cells,t,cores,upr,sets,prs,steps,⟨gl,gr⟩⟩),B.cells [.int .i64 x.r,.lst 1 false (x.f.map aN),.int .u32 (x.d.l:Int),.int .u32 (x.d.r:Int)]]++nbH x j) 0 (by omega) (by simp[nbW]) (by simp[aB,aC,aE,nbH]) (by simp) ?_);intro j hj N2 Q2 hN2 hQ2;have hjl:=stN_len x j hj;by_cases hjb:j<x.f.length
  ·have hsn2:=stN_snoc x hjb;obtain⟨z,hz⟩:∃z,z=x.f[j]:=⟨_,rfl⟩;have hz':=hz.symm;rw[hz']at hsn2;have nV:=nbW_p x (j:=j+1) (by omega);have nH:=nbH_p x (j:=j+1) (by omega);rw[hsn2]at nH
   rcases jA j with h0 | h0
   ·subst h0;rw[nbW_0,nbH_0];refine wx ?_;simp -dsimp[aB,hjb,hz',aN,aC,aE,(show IntKind.i64.wrap 1=1 from bH (by decide) (by decide))];refine hN2 1 _ _ (by omega) (by omega) ?_ ⟨[],?_⟩ ?_ ?_
    ·simp[nV]
    ·simp[nH,stN,aN,aB,aC,aE]
    ·simp[nV,nH]
    ·intro bl hbl;simp only[iw,jE,List.not_mem_nil,or_false]at hbl
     rcases hbl with(rfl | rfl | rfl | rfl | rfl) | hbl
     ·exact hC _
     ·simp
     ·simp
     ·exact hC3 _
     ·simp[aN]
     ·exact nbH_rb x _ _ _ hbl
   ·rw[nbW_p x h0,nbH_p x h0];refine wx ?_;simp -dsimp[aB,hjb,hz',aN,aC,aE,hjl,aX j (by omega),(show j≤9223372036854775803 by omega),(show j+3≤9223372036854775806∧(j+3+1)*8≤140737488355328 by omega)];refine hN2 (j+1) _ _ (by omega) (by omega) ?_ ⟨[],?_⟩ ?_ ?_
    ·simp[nV]
    ·simp[nH,aN,aB,aC,aE]
    ·simp[nV,nH]
    ·intro bl hbl;simp only[iw,jE,List.not_mem_nil,or_false]at hbl
     rcases hbl with(rfl | rfl | rfl | rfl | rfl) | hbl
     ·exact hC _
     ·simp
     ·simp
     ·exact hC3 _
     ·simp[aN]
     ·exact nbH_rb x _ _ _ hbl
  ·have ej:x.f.take j=x.f:=gj (by omega)
   have hje:j=x.f.length:=by omega
   have es:(⟨x.r,x.f,x.d⟩:Cst)=x:=rfl
   rcases jA j with h0 | h0
   ·subst h0;have hf:x.f=[]:=List.length_eq_zero_iff.1 hje.symm
    have hst:stN x=[x.r,(x.d.l:Int),(x.d.r:Int)]:=by simp[stN,hf]
    have c3:=c2 true [] (by simp);rw[hst]at c3 hO2;simp only[hU,iU,aN]at c3;rw[nbW_0,nbH_0];refine wx ?_;simp -dsimp[aB,hjb,aC,aE];refine hQ2 _ _ _ ?_;simp -dsimp[];refine wcE c3 ?_;simp -dsimp[aX i (by omega)];refine hN (i+1) _ _ (by omega) (by omega) ?_ ⟨[B.cells [.int .i64 x.r,.lst 1 false (x.f.map aN),.int .u32 (x.d.l:Int),.int .u32 (x.d.r:Int)]],?_⟩ ?_ ?_
    ·simp
    ·rw[hO2];simp[wrH,aB,aC,aE]
    ·simp[bS]
    ·exact cA (hC _) (by simpa using hC3 _) _
   ·rw[nbW_p x h0,nbH_p x h0,ej,es];have c3:=c2 false [B.buf 2 1 ((stN x).map aN) true] (fun n bl hbl=>by rw[List.mem_singleton.1 hbl];simp[aN]);refine wx ?_;simp -dsimp[aB,hjb,aC,aE];refine hQ2 _ _ _ ?_;simp -dsimp[];refine(callHF 5 (args':=[.ptr 1 0,.str (bs ap),.lst 1 false ((stN x).map aN)]) (e:=2) (z:=1) (xs:=(stN x).map aN) (fz:=false) rfl c3 (by simp[hsl,hje];rfl)).mono ?_;rintro r H' ⟨rfl,rfl⟩;simp -dsimp[aX i (by omega)];refine hN (i+1) _ _ (by omega) (by omega) ?_ ⟨[B.cells [.int .i64 x.r,.lst 1 false (x.f.map aN),.int .u32 (x.d.l:Int),.int .u32 (x.d.r:Int)],B.buf 2 1 ((stN x).map aN) true],?_⟩ ?_ ?_
    ·simp
    ·rw[hO2];simp[wrH,aB,aC,aE]
    ·simp[bS]
    ·exact cA (hC _) (by simpa using hC3 _) _
 ·have e:(steps.map fun s=>aA ap (stN s)).take i=steps.map fun s=>aA ap (stN s):=gj (by simp;omega)
  rw[e]
  obtain⟨O,hO⟩:∃O,O=A::steps.map fun s=>aA ap (stN s):=⟨_,rfl⟩
  have hOl:O.length≤100000000:=by rw[hO,gw,iE];omega
  rw[←hO];simp only[wrH,aB,aC,aE];refine wx ?_;simp -dsimp[hb];refine hQ _ _ _ ?_;simp -dsimp[];have c4:=p4 O hOl;simp only[gh,iu]at c4;refine wcE c4 ?_;simp -dsimp[];rw[show A::((steps.map fun s=>aA ap (stN s))++[bO])=O++[bO] by rw[hO];rfl];exact⟨[B.cells (aB ⟨4,del,w,prf,cells,t,cores,upr,sets,prs,steps,⟨gl,gr⟩⟩)],by simp[wrH,dx,iJ,aB,aC,aE]⟩
end
end Go.Proofs.YtdhgchekdkjcpaaGreatDoor
