/- JF15: own texts of this seat, joined and shortened by pack4.py: Fe. -/
import Derived.Test.YtdhgchekdkjcpaaGreatDoorJF13
set_option linter.unusedVariables false
set_option linter.unusedSimpArgs false
set_option maxRecDepth 100000
set_option maxHeartbeats 64000000
open List renaming length_append→gh,take_of_length_le→gj,replicate→gk,getElem_mem→go,append_nil→hG,map_cons→hU,append_assoc→iM,map_nil→iU
open Nat renaming eq_zero_or_pos→jA
namespace Go.Proofs.YtdhgchekdkjcpaaGreatDoor
section
open Go Go.AM Go.Lib
def nbV(s:Cst)(j:Nat):V:=if j=0 then .lst 1 true [.int .i64 s.r,.int .i64 (s.d.l:Int),.int .i64 (s.d.r:Int)] else .buf 1 0 (j+3) (j+3)
def nbH(s:Cst)(j:Nat):List B:=if j=0 then [] else [.buf 2 1 ((stN ⟨s.r,s.f.take j,s.d⟩).map aN) false]
theorem nbV_0(s:Cst):nbV s 0 = .lst 1 true [.int .i64 s.r,.int .i64 (s.d.l:Int),.int .i64 (s.d.r:Int)]:=rfl
theorem nbH_0(s:Cst):nbH s 0=[]:=rfl
theorem nbV_p(s:Cst){j:Nat}(h:0<j):nbV s j = .buf 1 0 (j+3) (j+3):=by unfold nbV;rw[if_neg (by omega)]
theorem nbH_p(s:Cst){j:Nat}(h:0<j):nbH s j=[.buf 2 1 ((stN ⟨s.r,s.f.take j,s.d⟩).map aN) false]:=by unfold nbH;rw[if_neg (by omega)]
theorem stN_len(s:Cst)(j:Nat)(h:j≤s.f.length):(stN ⟨s.r,s.f.take j,s.d⟩).length=j+3:=by simp[stN];omega
theorem stN_snoc(s:Cst){j:Nat}(h:j<s.f.length):stN ⟨s.r,s.f.take (j+1),s.d⟩=stN ⟨s.r,s.f.take j,s.d⟩++[s.f[j]]:=by
 unfold stN;simp only;rw[ag s.f h,iM]
theorem text_4(c:Cert)(hk:c.k=4)(h:SzC c):aS Tryz.prog 36 [aF c] fun r=>r = .tup [.str (bs (cg c)),.bool (okC c)]:=by
 have hd:=h.hd
 have hpc:aq c=[]:=by unfold aq;rw[if_neg (by omega),if_neg (by omega)]
 have hok:okC c=true:=by simp[okC,hk,hpc]
 have htx:cg c=lnT (al c)++pT c++(bO++[10]):=by unfold cg;rw[if_pos (by omega)]
 have hpt:pT c=[]:=by unfold pT;rw[hpc];rfl
 rw[hok,htx,hpt,hG]
 have hhd:al c=aA cr [(c.g.l:Int),(c.g.r:Int)]::c.steps.map fun s=>aA ap (stN s):=by unfold al;rw[if_neg (by omega),if_neg (by omega),if_neg (by omega),if_pos hk]
 rw[hhd,bP]at hd ⊢;obtain⟨_,_,_,_,_,_,_,_,r9,r10,r11⟩:=h.r;have hl7:=h.l7;have hl8:=h.l8;obtain⟨k,del,w,prf,cells,t,cores,upr,sets,prs,steps,⟨gl,gr⟩⟩:=c;simp only at hk r9 r10 r11 hl7 hl8 hd ⊢;subst hk;clear hpc hhd htx hok hpt h;have c1:=cP cr true [(gl:Int),(gr:Int)] (by decide) (by simp) (by simpa using⟨bh r10,bh r11⟩);simp only[hU,iU,aN]at c1;obtain⟨A,hA⟩:∃A,A=aA cr [(gl:Int),(gr:Int)]++[10]:=⟨_,rfl⟩;rw[←hA]at c1 hd ⊢;rw[gh]at hd;refine sPx Tryz.func36 rfl rfl ?_;simp -dsimp[Tryz.f36,gk,aF,aB,aC,aE,dN gl (by omega),dN gr (by omega)];refine cPx (c1) (by simp) ?_;simp -dsimp[];refine ak (W_loopM 252 0xffffffffffffff800000000000000000000000000000000000000000001c010 (by simp[mB]<;>rfl) (σ:=Nat) (fun i=>i≤steps.length) (fun i=>steps.length-i) (fun i=>[(4,.str (bs (A++lnT ((steps.map (fun s=>aA ap (stN s))).take i)))),(14,.int .i64 i)]) (fun _=>[B.cells (aB ⟨4,del,w,prf,cells,t,cores,upr,sets,prs,steps,⟨gl,gr⟩⟩)]) 0 (by omega) (by simp[lnT]) (by simp[aB,aC,aE]) (by simp) ?_);intro i hi N Q hN hQ;have hzi:=cO (steps.map (fun s=>aA ap (stN s))) i;by_cases hb:i<steps.length
 ·have hnx:=bt steps (fun s=>aA ap (stN s)) hb;have hin:=r9 _ (go hb);have hfl:=hl8 _ (go hb);obtain⟨x,hx⟩:∃x,x=steps[i]:=⟨_,rfl⟩;have hx':=hx.symm;rw[hx']at hnx hin hfl;obtain⟨o,hoe⟩:∃o,o=lnT ((steps.map (fun s=>aA ap (stN s))).take i):=⟨_,rfl⟩;rw[←hoe]at hzi hnx ⊢;obtain⟨q1,q2,q3,q4⟩:=hin
  have hsn:∀n∈stN x,inI n:=by
   intro n hn;simp[stN]at hn
   rcases hn with rfl | rfl | rfl | hn
   ·exact q1
   ·exact bh q3
   ·exact bh q4
   ·exact q2 n hn
  have hsl:(stN x).length=x.f.length+3:=by simp[stN]
  have hll:(aA ap (stN x)++[10]).length≤100000000:=by
   have:=bD (stN x) hsn;simp[aA,ap]at this ⊢;omega
  have c2:=fun fl=>cP ap fl (stN x) (by decide) (by omega) hsn
  obtain⟨y,hy⟩:∃y,y=aA ap (stN x)++[10]:=⟨_,rfl⟩;rw[←hy]at hll;simp only[←hy]at hnx c2;refine wx ?_;simp -dsimp[aB,hb,hx',bi,dN x.d.l (by omega),dN x.d.r (by omega),aC,aE];refine .inr ⟨fj (by kernel_rfl),?_⟩;refine ak (W_loopM 248 0xfffffe00000000000000000000000000000000000000000000000000018000 (by simp[mB]<;>rfl) (σ:=Nat) (fun j=>j≤x.f.length) (fun j=>x.f.length-j) (fun j=>[(16,.int .i64 j),(15,nbV x j)]) (fun j=>B.cells (aB ⟨4,del,w,prf,cells,t,cores,upr,sets,prs,steps,⟨gl,gr⟩⟩)::nbH x j) 0 (by omega) (by simp[nbV]) (by simp[aB,aC,aE,nbH]) (by simp) ?_);intro j hj N2 Q2 hN2 hQ2;have hjl:=stN_len x j hj;by_cases hjb:j<x.f.length
  ·have hsn2:=stN_snoc x hjb;obtain⟨z,hz⟩:∃z,z=x.f[j]:=⟨_,rfl⟩;have hz':=hz.symm;rw[hz']at hsn2;have nV:=nbV_p x (j:=j+1) (by omega);have nH:=nbH_p x (j:=j+1) (by omega);rw[hsn2]at nH
   rcases jA j with h0 | h0
   ·subst h0;rw[nbV_0,nbH_0];refine wx ?_;simp -dsimp[aB,hb,hx',bi,hjb,hz',aN,aC,aE,(show IntKind.i64.wrap 1=1 from bH (by decide) (by decide))];refine hN2 1 _ _ (by omega) (by omega) ?_ ⟨[],?_⟩ ?_ ?_<;>simp[nV,nH,stN,aN,aB,aC,aE,or_imp,forall_and]
   ·rw[nbV_p x h0,nbH_p x h0];refine wx ?_;simp -dsimp[aB,hb,hx',bi,hjb,hz',aN,aC,aE,hjl,aX j (by omega),(show j≤9223372036854775803 by omega),(show j+3≤9223372036854775806∧(j+3+1)*8≤140737488355328 by omega)];refine hN2 (j+1) _ _ (by omega) (by omega) ?_ ⟨[],?_⟩ ?_ ?_<;>simp[nV,nH,aN,aB,aC,aE,or_imp,forall_and]
  ·have ej:x.f.take j=x.f:=gj (by omega)
   have hje:j=x.f.length:=by omega
   have es:(⟨x.r,x.f,x.d⟩:Cst)=x:=rfl
   rcases jA j with h0 | h0
   ·subst h0;have hf:x.f=[]:=List.length_eq_zero_iff.1 hje.symm
    have hst:stN x=[x.r,(x.d.l:Int),(x.d.r:Int)]:=by simp[stN,hf]
    have c3:=c2 true;rw[hst]at c3;simp only[hU,iU,aN]at c3;rw[nbV_0,nbH_0];refine wx ?_;simp -dsimp[aB,hb,hx',bi,hjb,aC,aE];refine hQ2 _ _ _ ?_;simp -dsimp[];refine cPx (c3) (by simp) ?_;simp -dsimp[aP,aI,ao,aX i (by omega),(show A.length+o.length+y.length≤9223372036854775807 by omega),(show A.length+(o.length+y.length)≤9223372036854775807 by omega)];refine hN (i+1) _ _ (by omega) (by omega) ?_ ⟨[],rfl⟩ (by simp[aC,aE]) (by simp[aB,aC,aE]);simp only[hnx];simp[aP]
   ·rw[nbV_p x h0,nbH_p x h0,ej,es];have hc2:=callF (H:=B.cells (aB ⟨4,del,w,prf,cells,t,cores,upr,sets,prs,steps,⟨gl,gr⟩⟩)::[B.buf 2 1 ((stN x).map aN) false]) (args:=[.str (bs ap),.buf 1 0 (j+3) (j+3)]) 1 rfl (c2 false) (by simp[hsl,hje]) (by simp[aN]);simp only[aB,aC,aE]at hc2;refine wx ?_;simp -dsimp[aB,hb,hx',bi,hjb,aC,aE];refine hQ2 _ _ _ ?_;simp -dsimp[];refine hc2.mono ?_;rintro r H' ⟨rfl,rfl⟩;simp -dsimp[aP,aI,ao,aX i (by omega),(show A.length+o.length+y.length≤9223372036854775807 by omega),(show A.length+(o.length+y.length)≤9223372036854775807 by omega)];refine hN (i+1) _ _ (by omega) (by omega) ?_ ⟨_,by simp[aB,aC,aE];rfl⟩ (by simp[aC,aE]) (by simp[aB,aC,aE]);simp only[hnx];simp[aP]
 ·have e:(steps.map (fun s=>aA ap (stN s))).take i=steps.map (fun s=>aA ap (stN s)):=gj (by simp;omega);rw[e];obtain⟨o,hoe⟩:∃o,o=lnT (steps.map (fun s=>aA ap (stN s))):=⟨_,rfl⟩;rw[←hoe]at hd ⊢;refine wx ?_;simp -dsimp[aB,hb];refine hQ _ _ _ ?_;simp -dsimp[aP,aI,ao,(show A.length+o.length≤9223372036854775807 by omega),(show A.length+o.length≤9223372036854775803 by omega)];simp[hoe,bO]
end
end Go.Proofs.YtdhgchekdkjcpaaGreatDoor
