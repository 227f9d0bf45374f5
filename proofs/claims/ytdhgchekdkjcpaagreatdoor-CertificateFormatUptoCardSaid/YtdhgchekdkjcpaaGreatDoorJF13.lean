/- JF13: own texts of this seat, joined and shortened by pack4.py: Fd, Ff, Gc, C4c. -/
import Derived.Test.YtdhgchekdkjcpaaGreatDoorJF10
set_option linter.unusedVariables false
set_option linter.unusedSimpArgs false
set_option maxRecDepth 100000
set_option maxHeartbeats 64000000
open List renaming length_append→gh,take_of_length_le→gj,replicate→gk,getElem_mem→go,append_nil→hG,map_cons→hU,map_nil→iU,take_length→jD
open Nat renaming le_refl→gn
namespace Go.Proofs.YtdhgchekdkjcpaaGreatDoor
section
open Go Go.AM Go.Lib
theorem bh{n:Nat}(h:n<4294967296):inI (n:Int):=by unfold inI;omega
theorem line_0(w:List UInt8)(hw:w.length≤100):aS Tryz.prog 60 [.str (bs w),.nilS] fun r=>r = .str (bs (aA w []++[10])):=by
 have:=cP w false [] hw (by simp) (by simp);refine conP_args this rfl (fun i a b ha hb=>?_)
 match i with
 | 0=>simp at ha hb;subst ha;subst hb;exact .refl _
 | 1=>simp at ha hb;subst ha;subst hb;exact .nil _ _
 | n+2=>simp at ha
theorem text_3(c:Cert)(hk:c.k=3)(h:SzC c):aS Tryz.prog 36 [aF c] fun r=>r = .tup [.str (bs (cg c)),.bool (okC c)]:=by
 have hd:=h.hd
 have hpc:aq c=[]:=by unfold aq;rw[if_neg (by omega),if_neg (by omega)]
 have hok:okC c=true:=by simp[okC,hk,hpc]
 have htx:cg c=lnT (al c)++pT c++(bO++[10]):=by unfold cg;rw[if_pos (by omega)]
 have hpt:pT c=[]:=by unfold pT;rw[hpc];rfl
 rw[hok,htx,hpt,hG]
 have hhd:al c=aA eI []::((c.sets.map fun(s:Nat)=>aA bo [(s:Int)])++c.prs.map fun p=>aA av [(p.s:Int),p.a,p.b]):=by unfold al;rw[if_neg (by omega),if_neg (by omega),if_pos hk]
 rw[hhd,bP,cz]at hd ⊢;obtain⟨_,_,_,_,_,_,r7,r8,_⟩:=h.r;have hl5:=h.l5;have hl6:=h.l6;obtain⟨k,del,w,prf,cells,t,cores,upr,sets,prs,steps,g⟩:=c;simp only at hk r7 r8 hl5 hl6 hd ⊢;subst hk;clear hpc hhd htx hok hpt h;have c1:=line_0 eI (by decide);obtain⟨A,hA⟩:∃A,A=aA eI []++[10]:=⟨_,rfl⟩;rw[←hA]at c1 hd ⊢;rw[gh,gh]at hd;refine sPx Tryz.func36 rfl rfl ?_;simp -dsimp[Tryz.f36,gk,aF,aB,aC,aE];refine cPx (c1) (by simp) ?_;simp -dsimp[];refine ak (W_loopM 153 0x1ffff0000000000000000000000000000001010 (by simp[mB]<;>rfl) (σ:=Nat) (fun i=>i≤sets.length) (fun i=>sets.length-i) (fun i=>[(4,.str (bs (A++lnT ((sets.map (fun(s:Nat)=>aA bo [(s:Int)])).take i)))),(12,.int .i64 i)]) (fun _=>[B.cells (aB ⟨3,del,w,prf,cells,t,cores,upr,sets,prs,steps,g⟩)]) 0 (by omega) (by simp[lnT]) (by simp[aB,aC,aE]) (by simp) ?_);intro i hi N QN hN hQN;have hzi:=cO (sets.map (fun(s:Nat)=>aA bo [(s:Int)])) i;by_cases hb:i<sets.length
 ·have hnx:=bt sets ((fun(s:Nat)=>aA bo [(s:Int)])) hb;have hin:=r7 _ (go hb);obtain⟨x,hx⟩:∃x,x=sets[i]:=⟨_,rfl⟩;have hx':=hx.symm;rw[hx']at hnx hin;obtain⟨o,hoe⟩:∃o,o=lnT ((sets.map (fun(s:Nat)=>aA bo [(s:Int)])).take i):=⟨_,rfl⟩;rw[←hoe]at hzi hnx ⊢;have c2:=cP bo true [(x:Int)] (by decide) (by simp) (by simpa using bh hin);simp only[hU,iU,aN]at c2
  have hll:(aA bo [(x:Int)]++[10]).length≤1000:=by
   have:=bD [(x:Int)] (by simpa using bh hin);simp[aA,bo]at this ⊢;omega
  obtain⟨y,hy⟩:∃y,y=aA bo [(x:Int)]++[10]:=⟨_,rfl⟩;rw[←hy]at c2 hll;simp only[←hy]at hnx;refine wx ?_;simp -dsimp[aB,hb,hx',aN,encS,dN x (by omega)];refine cPx (c2) (by simp) ?_;simp -dsimp[aP,aI,ao,aX i (by omega),(show A.length+o.length+y.length≤9223372036854775807 by omega),(show A.length+(o.length+y.length)≤9223372036854775807 by omega)];refine hN (i+1) _ _ (by omega) (by omega) ?_ ⟨[],rfl⟩ (by simp[aC,aE]) (by simp[aB,aC,aE]);simp only[hnx];simp[aP]
 ·have e:(sets.map (fun(s:Nat)=>aA bo [(s:Int)])).take i=sets.map (fun(s:Nat)=>aA bo [(s:Int)]):=gj (by simp;omega);rw[e];obtain⟨o,hoe⟩:∃o,o=lnT (sets.map fun(s:Nat)=>aA bo [(s:Int)]):=⟨_,rfl⟩;rw[←hoe]at hd ⊢;obtain⟨B0,hB0⟩:∃B0,B0=A++o:=⟨_,rfl⟩
  have hBl:B0.length=A.length+o.length:=by rw[hB0,gh]
  rw[←hB0];refine wx ?_;simp -dsimp[aB,hb];refine hQN _ _ _ ?_;simp -dsimp[aC,aE];refine ak (W_loopM 183 0x7ffffffe00000000000000000000000000000000002010 (by simp[mB]<;>rfl) (σ:=Nat) (fun i=>i≤prs.length) (fun i=>prs.length-i) (fun i=>[(4,.str (bs (B0++lnT ((prs.map (fun(p:Cpr)=>aA av [(p.s:Int),p.a,p.b])).take i)))),(13,.int .i64 i)]) (fun _=>[B.cells (aB ⟨3,del,w,prf,cells,t,cores,upr,sets,prs,steps,g⟩)]) 0 (by omega) (by simp[lnT]) (by simp[aB,aC,aE]) (by simp) ?_);intro i hi N2 QN2 hN2 hQN2;have hzi:=cO (prs.map (fun(p:Cpr)=>aA av [(p.s:Int),p.a,p.b])) i;by_cases hb:i<prs.length
  ·have hnx:=bt prs ((fun(p:Cpr)=>aA av [(p.s:Int),p.a,p.b])) hb;have hin:=r8 _ (go hb);obtain⟨x,hx⟩:∃x,x=prs[i]:=⟨_,rfl⟩;have hx':=hx.symm;rw[hx']at hnx hin;obtain⟨o,hoe⟩:∃o,o=lnT ((prs.map (fun(p:Cpr)=>aA av [(p.s:Int),p.a,p.b])).take i):=⟨_,rfl⟩;rw[←hoe]at hzi hnx ⊢;have c2:=cP av true [(x.s:Int),x.a,x.b] (by decide) (by simp) (by simpa using⟨bh hin.1,hin.2.1,hin.2.2⟩);simp only[hU,iU,aN]at c2
   have hll:(aA av [(x.s:Int),x.a,x.b]++[10]).length≤1000:=by
    have:=bD [(x.s:Int),x.a,x.b] (by simpa using⟨bh hin.1,hin.2.1,hin.2.2⟩);simp[aA,av]at this ⊢;omega
   obtain⟨y,hy⟩:∃y,y=aA av [(x.s:Int),x.a,x.b]++[10]:=⟨_,rfl⟩;rw[←hy]at c2 hll;simp only[←hy]at hnx;refine wx ?_;simp -dsimp[aB,hb,hx',aN,dJ,dN x.s (by omega)];refine .inr ⟨fj (by kernel_rfl),?_⟩;refine cy_of _ (co (c2) (by simp)) ?_;simp -dsimp[aP,aI,ao,aX i (by omega),(show B0.length+o.length+y.length≤9223372036854775807 by omega),(show B0.length+(o.length+y.length)≤9223372036854775807 by omega)];refine hN2 (i+1) _ _ (by omega) (by omega) ?_ ⟨[],rfl⟩ (by simp[aC,aE]) (by simp[aB,aC,aE]);simp only[hnx];simp[aP]
  ·have e:(prs.map (fun(p:Cpr)=>aA av [(p.s:Int),p.a,p.b])).take i=prs.map (fun(p:Cpr)=>aA av [(p.s:Int),p.a,p.b]):=gj (by simp;omega);rw[e];obtain⟨o2,hoe2⟩:∃o2,o2=lnT (prs.map fun p=>aA av [(p.s:Int),p.a,p.b]):=⟨_,rfl⟩;rw[←hoe2]at hd ⊢;refine wx ?_;simp -dsimp[aB,hb];refine hQN2 _ _ _ ?_;simp -dsimp[aP,aI,ao,(show B0.length+o2.length≤9223372036854775807 by omega),(show B0.length+o2.length≤9223372036854775803 by omega)];simp[hB0,hoe,hoe2,bO]
theorem cn:∀(l:List Cel) (j:Nat),j≤l.length→(aO (l.take j)).length=2*j
 | l,0,_=>rfl
 | [],j+1,h=>by simp at h
 | x::l,j+1,h=>by
  have:=cn l j (by simpa using h);show([x.id,x.a]++aO (l.take j)).length=_;simp;omega
theorem celN_snoc(l:List Cel){j:Nat}(h:j<l.length):aO (l.take (j+1))=aO (l.take j)++[l[j].id,l[j].a]:=by
 rw[ag l h,aO,List.flatMap_append];rfl
theorem text_2(c:Cert)(hk:c.k=2)(h:SzC c):aS Tryz.prog 36 [aF c] fun r=>r = .tup [.str (bs (cg c)),.bool (okC c)]:=by
 have hp:=ndsV_pT c;have hpl:=pT_len h;have hn:=nodes_r false (aq c) h.ln h.nds h.pf;rw[hp]at hn;have hd:=h.hd
 have hok:okC c=(aq c).all ar:=by simp[okC,hk]
 have htx:cg c=lnT (al c)++pT c++(bO++[10]):=by unfold cg;rw[if_pos (by omega)]
 rw[hok,htx];obtain⟨P,hP⟩:∃P,P=pT c:=⟨_,rfl⟩;obtain⟨Q0,hQ0⟩:∃Q0,Q0=(aq c).all ar:=⟨_,rfl⟩;rw[←hP]at hpl;rw[←hP,←hQ0]at hn ⊢
 have hhd:al c=aA wChg []::((c.cells.map fun x=>aA aw (aO [x]))++c.cores.map fun l=>aA au (aO l)):=by unfold al;rw[if_neg (by omega),if_pos hk]
 rw[hhd,bP,cz]at hd ⊢
 have hpc:aq c=c.upr:=by unfold aq;rw[if_neg (by omega),if_pos hk]
 rw[hpc]at hn;obtain⟨_,_,_,r4,r5,_⟩:=h.r;have hl2:=h.l2;have hl3:=h.l3;have hl4:=h.l4;obtain⟨k,del,w,prf,cells,t,cores,upr,sets,prs,steps,g⟩:=c;simp only at hk r4 r5 hl2 hl3 hl4 hd hn ⊢;subst hk;clear hpc hhd hP hQ0 htx hok hp h;have c1:=line_0 wChg (by decide);obtain⟨A,hA⟩:∃A,A=aA wChg []++[10]:=⟨_,rfl⟩;rw[←hA]at c1 hd ⊢;rw[gh,gh]at hd
 try unfold aC at hn
 refine sPx Tryz.func36 rfl rfl ?_;simp -dsimp[Tryz.f36,gk,aF,aB,aC,aE];refine cPx (c1) (by simp) ?_;simp -dsimp[];refine ak (W_loopM 80 0xffffffc0000000000110 (by simp[mB]<;>rfl) (σ:=Nat) (fun i=>i≤cells.length) (fun i=>cells.length-i) (fun i=>[(4,.str (bs (A++lnT ((cells.map (fun x=>aA aw (aO [x]))).take i)))),(8,.int .i64 i)]) (fun _=>[B.cells (aB ⟨2,del,w,prf,cells,t,cores,upr,sets,prs,steps,g⟩)]) 0 (by omega) (by simp[lnT]) (by simp[aB,aC,aE]) (by simp) ?_);intro i hi N QN hN hQN;have hzi:=cO (cells.map (fun x=>aA aw (aO [x]))) i;by_cases hb:i<cells.length
 ·have hnx:=bt cells (fun x=>aA aw (aO [x])) hb;have hin:=r4 _ (go hb);obtain⟨x,hx⟩:∃x,x=cells[i]:=⟨_,rfl⟩;have hx':=hx.symm;rw[hx']at hnx hin;obtain⟨o,hoe⟩:∃o,o=lnT ((cells.map (fun x=>aA aw (aO [x]))).take i):=⟨_,rfl⟩;rw[←hoe]at hzi hnx ⊢;have hxn:∀n∈aO [x],inI n:=fy (by simpa using hin);have c2:=cP aw true (aO [x]) (by decide) (by simp[aO]) hxn;have hcn:aO [x]=[x.id,x.a]:=rfl
  have hll:(aA aw (aO [x])++[10]).length≤1000:=by
   have:=bD (aO [x]) hxn;rw[hcn]at this;rw[hcn];simp[aA,aw]at this ⊢;omega
  obtain⟨y,hy⟩:∃y,y=aA aw (aO [x])++[10]:=⟨_,rfl⟩;rw[←hy]at c2 hll;simp only[←hy]at hnx;rw[hcn]at c2;simp only[hU,iU,aN]at c2;refine wx ?_;simp -dsimp[aB,hb,hx',cC,aC,aE];refine .inr ⟨fj (by kernel_rfl),?_⟩;refine cy_of _ (co (c2) (by simp)) ?_;simp -dsimp[aP,aI,ao,aX i (by omega),(show A.length+o.length+y.length≤9223372036854775807 by omega),(show A.length+(o.length+y.length)≤9223372036854775807 by omega)];refine hN (i+1) _ _ (by omega) (by omega) ?_ ⟨[],rfl⟩ (by simp[aC,aE]) (by simp[aB,aC,aE]);simp only[hnx];simp[aP]
 ·have e:(cells.map (fun x=>aA aw (aO [x]))).take i=cells.map (fun x=>aA aw (aO [x])):=gj (by simp;omega);rw[e];obtain⟨o,hoe⟩:∃o,o=lnT (cells.map fun x=>aA aw (aO [x])):=⟨_,rfl⟩;rw[←hoe]at hd ⊢;obtain⟨B0,hB0⟩:∃B0,B0=A++o:=⟨_,rfl⟩
  have hBl:B0.length=A.length+o.length:=by rw[hB0,gh]
  rw[←hB0];refine wx ?_;simp -dsimp[aB,hb,aC,aE];refine hQN _ _ _ ?_;simp -dsimp[aC,aE];refine ak (W_loopM 126 0x3fffffffffff00000000000000000e10 (by simp[mB]<;>rfl) (σ:=Nat) (fun i=>i≤cores.length) (fun i=>cores.length-i) (fun i=>[(4,.str (bs (B0++lnT ((cores.map (fun l=>aA au (aO l))).take i)))),(9,.int .i64 i)]) (fun _=>[B.cells (aB ⟨2,del,w,prf,cells,t,cores,upr,sets,prs,steps,g⟩)]) 0 (by omega) (by simp[lnT]) (by simp[aB,aC,aE]) (by simp) ?_);intro i hi N2 QN2 hN2 hQN2;have hzi:=cO (cores.map (fun l=>aA au (aO l))) i;by_cases hb:i<cores.length
  ·have hnx:=bt cores (fun l=>aA au (aO l)) hb;have hin:=r5 _ (go hb);have hsl:=hl4 _ (go hb);obtain⟨sh,hx⟩:∃sh,sh=cores[i]:=⟨_,rfl⟩;have hx':=hx.symm;rw[hx']at hnx hin hsl;obtain⟨o2,hoe2⟩:∃o2,o2=lnT ((cores.map (fun l=>aA au (aO l))).take i):=⟨_,rfl⟩;rw[←hoe2]at hzi hnx ⊢
   have hlN:(aO sh).length=2*sh.length:=by
    have:=cn sh sh.length (gn _)
    rwa [jD]at this
   have hxn:=fy hin;have c2:=cP au false (aO sh) (by decide) (by omega) hxn
   have hll:(aA au (aO sh)++[10]).length≤100000000:=by
    have:=bD (aO sh) hxn;simp[aA,au]at this ⊢;omega
   obtain⟨y,hy⟩:∃y,y=aA au (aO sh)++[10]:=⟨_,rfl⟩;rw[←hy]at c2 hll;simp only[←hy]at hnx;refine wx ?_;simp -dsimp[aB,hb,hx',aC,aE];refine ak (W_own 2 1 [10] (by simp) (W_loopM 122 0x3ffffffff0000000000000000000c00 (by simp[mB]<;>rfl) (σ:=Nat) (fun j=>j≤sh.length) (fun j=>sh.length-j) (fun j=>[(11,.int .i64 j),(10,.buf 1 0 (2*j) (2*j))]) (fun j=>[B.cells (aB ⟨2,del,w,prf,cells,t,cores,upr,sets,prs,steps,g⟩),B.buf 2 1 ((aO (sh.take j)).map aN) false]) 0 (by omega) (by simp) (by simp[aO,aB,aC,aE]) (by simp) ?_));intro j hj N3 QN3 hN3 hQN3;have hlj:=cn sh j hj;by_cases hjb:j<sh.length
   ·have hsn:=celN_snoc sh hjb;obtain⟨z,hz⟩:∃z,z=sh[j]:=⟨_,rfl⟩;have hz':=hz.symm;rw[hz']at hsn;refine wx ?_;simp -dsimp[aB,hb,hx',aC,aE,hjb];refine ak (W_drawT tok mixed [22] [] [] (by kernel_rfl) fun C K hC hK=>?_);simp -implicitDefEqProofs [aB,hb,hx',aC,aE,hjb,hz',cC,hlj,(show 2*j≤9223372036854775805∧(2*j+2)*8≤140737488355328 by omega)];refine hK _ _ ?_;simp -dsimp[aX j (by omega)];refine hN3 (j+1) _ _ (by omega) (by omega) ?_ ⟨[],?_⟩ ?_ ?_<;>simp[hsn,Nat.mul_add,aN,aB,aC,aE,or_imp,forall_and]
   ·have ej:sh.take j=sh:=gj (by omega)
    have hje:j=sh.length:=by omega
    rw[ej];have hc2:=callF (H:=B.cells (aB ⟨2,del,w,prf,cells,t,cores,upr,sets,prs,steps,g⟩)::[B.buf 2 1 ((aO sh).map aN) false]) (args:=[.str (bs au),.buf 1 0 (2*j) (2*j)]) 1 rfl c2 (by simp[hlN,hje]) (by simp[aN]);simp only[aB,aC,aE]at hc2;refine wx ?_;simp -dsimp[aB,hb,hx',aC,aE,hjb];refine hQN3 _ _ _ ?_;simp -dsimp[];refine hc2.mono ?_;rintro r H' ⟨rfl,rfl⟩;simp -dsimp[aP,aI,ao,aX i (by omega),(show B0.length+o2.length+y.length≤9223372036854775807 by omega),(show B0.length+(o2.length+y.length)≤9223372036854775807 by omega)];refine hN2 (i+1) _ _ (by omega) (by omega) ?_ ⟨_,by simp[aB,aC,aE];rfl⟩ (by simp[aC,aE]) (by simp[aB,aC,aE]);simp only[hnx];simp[aP]
  ·have e:(cores.map (fun l=>aA au (aO l))).take i=cores.map (fun l=>aA au (aO l)):=gj (by simp;omega);rw[e];obtain⟨o2,hoe2⟩:∃o2,o2=lnT (cores.map fun l=>aA au (aO l)):=⟨_,rfl⟩;rw[←hoe2]at hd ⊢;refine wx ?_;simp -dsimp[aB,hb,aC,aE];refine hQN2 _ _ _ ?_;simp -dsimp[aC,aE];refine cPx (hn) (by simp) ?_;simp -dsimp[aP,aI,ao,(show B0.length+o2.length+P.length≤9223372036854775807 by omega),(show B0.length+(o2.length+P.length)≤9223372036854775807 by omega),(show B0.length+(o2.length+P.length)≤9223372036854775803 by omega)];simp[hB0,hoe,hoe2,bO]
theorem cells_c(f:Bool)(l:List Cel)(hl:l.length≤1000000):aS Tryz.prog 56 [.lst 2 f (l.map cC)] fun r=>r = .lst 1 false ((aO l).map aN):=by
 refine sPx Tryz.func56 rfl rfl ?_;simp -dsimp[Tryz.f56,gk];refine ak (W_own 2 1 [3] (by simp) (W_loopM 20 0xfff28 (by simp[mB]<;>rfl) (σ:=Nat) (fun j=>j≤l.length) (fun j=>l.length-j) (fun j=>[(8,.int .i64 j),(3,.buf 0 0 (2*j) (2*j))]) (fun j=>[B.buf 2 1 ((aO (l.take j)).map aN) false]) 0 (by omega) (by simp) (by simp[aO]) (by simp) ?_));intro j hj N2 Q2 hN2 hQ2;have hlj:=cn l j hj;by_cases hjb:j<l.length
 ·have hsn:=celN_snoc l hjb;obtain⟨y,hy⟩:∃y,y=l[j]:=⟨_,rfl⟩;have hy':=hy.symm;rw[hy']at hsn;refine wx ?_;simp -dsimp[hjb,hy',cC,hlj,aX j (by omega),(show 2*j≤9223372036854775805∧(2*j+2)*8≤140737488355328 by omega)];refine hN2 (j+1) _ _ (by omega) (by omega) ?_ ⟨[B.cells [.int .i64 y.id,.int .i64 y.a]],?_⟩ ?_ ?_
  ·simp[Nat.mul_add]
  ·simp[hsn,aN]
  ·simp
  ·simp[aN]
 ·have ej:l.take j=l:=gj (by omega)
  have hje:j=l.length:=by omega
  have hlN:(aO l).length=2*j:=by rw[ej]at hlj;exact hlj
  rw[ej];refine wx ?_;simp -dsimp[hjb];refine hQ2 _ _ _ ?_;simp -dsimp[]
  trace_state
  have:=Exp.buf (H:=[B.buf 2 1 ((aO l).map aN) false]) 0 0 (2*j) 2 1 ((aO l).map aN) false rfl (by simp;omega) (by simp[aN]);simpa[hlN,gj] using this
end
end Go.Proofs.YtdhgchekdkjcpaaGreatDoor
namespace Go.Proofs.YtdhgchekdkjcpaaGreatDoor
section
open Go Go.AM
def clA12:List V:=[.agg [.str ⟨#[114]⟩,.lst 1 false [.str ⟨#[97]⟩,.str ⟨#[98]⟩],.lst 2 false [.agg [.int .i64 1,.lst 3 false [.agg [.int .i64 1,.int .i64 1,.str ⟨#[]⟩],.agg [.int .i64 1,.int .i64 1,.str ⟨#[]⟩]]],.agg [.int .i64 2,.lst 3 false [.agg [.int .i64 1,.int .i64 1,.str ⟨#[]⟩],.agg [.int .i64 1,.int .i64 2,.str ⟨#[]⟩]]]]],.int .u32 2]
def clR12:V:=.tup [.lst 1 false [],.int .i64 0]
theorem clP12:AM.Pure clR12:=by simp[clR12]
theorem clQ12:∀a∈clA12,AM.Pure a:=by simp[clA12]
theorem cl12:aS Tryz.prog 146 clA12 fun x=>x=clR12:=aJ tok mixed bd cW (fuel:=1000) (d:=40) (by kernel_rfl) clP12
def clA11:List V:=[.str ⟨#[107,101,121,115,10,115,101,116,32,50,10,112,97,105,114,32,49,32,49,32,50,10,101,110,100,10]⟩]
def clR11:V:=.tup [.agg [.int .i64 3,.nilS,.int .i64 0,.nilS,.nilS,.str ⟨#[]⟩,.nilS,.nilS,.nilS,.nilS,.lst 1 false [.int .u32 2],.lst 3 false [.agg [.int .u32 1,.int .i64 1,.int .i64 2]],.nilS,.int .u32 0,.int .u32 0],.int .i64 0,.int .i64 0]
theorem clP11:AM.Pure clR11:=by simp[clR11]
theorem clQ11:∀a∈clA11,AM.Pure a:=by simp[clA11]
theorem cl11:aS Tryz.prog 7 clA11 fun x=>x=clR11:=aJ tok mixed bd cW (fuel:=1000) (d:=40) (by kernel_rfl) clP11
def clA4:List V:=[.agg [.lst 1 false [.int .i64 1,.int .i64 1],.lst 1 false [.lst 1 false [.int .i64 0,.int .i64 1]]]]
def clR4:V:=.int .i64 0
theorem clP4:AM.Pure clR4:=by simp[clR4]
theorem clQ4:∀a∈clA4,AM.Pure a:=by simp[clA4]
theorem cl4:aS Tryz.prog 134 clA4 fun x=>x=clR4:=aJ tok mixed bd cW (fuel:=1000) (d:=40) (by kernel_rfl) clP4
end
end Go.Proofs.YtdhgchekdkjcpaaGreatDoor
