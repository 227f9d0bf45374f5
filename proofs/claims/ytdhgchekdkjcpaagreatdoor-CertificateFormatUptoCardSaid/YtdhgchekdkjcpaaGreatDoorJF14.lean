/- JF14: own texts of this seat, joined and shortened by pack4.py: Gd, Ge, Gf. -/
import Derived.Test.YtdhgchekdkjcpaaGreatDoorJF11
import Derived.Test.YtdhgchekdkjcpaaGreatDoorJF13
set_option linter.unusedVariables false
set_option linter.unusedSimpArgs false
set_option maxRecDepth 100000
set_option maxHeartbeats 64000000
open List renaming getElem?_eq_getElem→gg,length_append→gh,take_of_length_le→gj,replicate→gk,getElem_mem→go,length_cons→gw,map_cons→hU,length_take→iC,length_map→iE,append_assoc→iM,length_nil→iO,nil_append→iS,map_nil→iU,map_append→iu,take_length→jD
open Nat renaming le_refl→gn,add_assoc→iJ
namespace Go.Proofs.YtdhgchekdkjcpaaGreatDoor
section
open Go Go.AM Go.Lib
theorem cut1{P:Program}{f:FuncId}{args:List V}{H Hf:List B}{r0:V}(h:bR P f args H fun r H'=>r=r0∧∃G,H'=Hf++G)(hl:H.length≤Hf.length)(hr:rb Hf.length r0)(hb:∀bl∈Hf,rbB Hf.length bl):bR P f args H fun r H'=>r=r0∧H'=Hf :=
 (conH_cutE (σ:=Unit) (ok:=fun _=>True) (rf:=fun _=>r0) (Hf:=fun _=>Hf) (h.mono fun r H' ⟨h1,h2⟩=>⟨(),trivial,h1,h2⟩) (fun _ _=>hl) (fun _ _=>hr) (fun _ _=>hb)).mono fun r H' ⟨_,_,h1,h2⟩=>⟨h1,h2⟩
theorem nodes_cc(C0 C3:B)(hC:∀n,rbB n C0)(hC3:∀n,rbB n C3)(ls:List (List UInt8))(f:Bool)(l:List Cnd)(hls:ls.length≤10000000)(hl:l.length≤1000000)(hr:∀x∈l,cndR x):
  bR Tryz.prog 55 [.ptr 1 0,.lst 2 f (l.map am)] (wrH C0 ls [C3]) fun r H'=>r = .bool (l.all ar)∧H'=wrH C0 (ls++(bn l).map ndL) [C3] :=
 cut1 (nodes_c C0 C3 hC hC3 ls f l hls hl hr) (by simp[bS]) (by simp) (cA (hC _) (by simpa using hC3 _) _)
theorem fE:∀(l:List Cnd),(bn l).length≤l.length
 | []=>gn _
 | x::l=>by
  have:=fE l;unfold bn;split
  ·simpa using this
  ·simp
theorem cJ{f:FuncId}{args args':List V}{H:List B}{K:V→List B→Prop}(h:bR Tryz.prog f args' H K)(hl:args.length=args'.length)(hle:∀(i:Nat) a b,args[i]?=some a→args'[i]?=some b→Le a b):bR Tryz.prog f args H K:=by
 refine⟨h.1,fun s vals hA hg hsz hrel=>h.2 s vals hA hg (by omega) (fun i b u hb hu=>?_)⟩;have ha:args[i]?=some (args[i]'(by have:=getElem?_lt hb;omega)):=gg _;exact(hle i _ b ha hb).rel (hrel i _ u ha hu)
theorem dy{a b:V} : ∀(i:Nat) x y,[a,b,V.nilS][i]?=some x→[a,b,V.lst 1 false (([]:List Int).map aN)][i]?=some y→Le x y:=fun i x y hx hy=>by
 match i with
 | 0=>simp at hx hy;subst hx;subst hy;exact .refl _
 | 1=>simp at hx hy;subst hx;subst hy;exact .refl _
 | 2=>simp at hx hy;subst hx;subst hy;exact .nil _ _
 | n+3=>simp at hx
theorem dx(w:List UInt8):aA w []=w:=by simp[aA,fD]
def wrL(c:Cert):List (List UInt8):=if 1≤c.k∧c.k≤4 then al c++(bn (aq c)).map ndL++[bO] else []
theorem wrL_ok{c:Cert}(h:okC c=true):wrL c=bM c:=by
 obtain⟨hk,hn⟩:=okC_ex h;unfold wrL;rw[if_pos hk,fF _ hn];rfl
theorem bm(c:Cert):∀n,rbB n (B.cells (aB c)):=fun n=>by simp[aB,aC,aE]
theorem write_1(c:Cert)(hk:c.k=1)(h:SzC c):bR Tryz.prog 34 [.ptr 1 0,aF c] (wrH (B.cells (aB c)) [] []) fun r H'=>r = .bool (okC c)∧∃G,H'=wrH (B.cells (aB c)) (wrL c) []++G:=by
 have hC:=bm c
 have hok:okC c=(aq c).all ar:=by simp[okC,hk]
 have hwl:wrL c=al c++(bn (aq c)).map ndL++[bO]:=by unfold wrL;rw[if_pos (by omega)]
 have hhd:al c=aA wDel [c.w]::c.del.map fun i=>aA bp [i]:=by unfold al;rw[if_pos hk]
 have hpc:aq c=c.prf:=by unfold aq;rw[if_pos hk]
 have hln:=h.ln;have hnds:=h.nds;rw[hpc]at hln hnds hwl;rw[hok,hwl,hhd,hpc];obtain⟨r1,r2,_⟩:=h.r;have hl1:=h.l1;obtain⟨C0,hC0⟩:∃C0,C0=B.cells (aB c):=⟨_,rfl⟩;rw[←hC0]at hC ⊢;obtain⟨k,del,w,prf,cells,t,cores,upr,sets,prs,steps,g⟩:=c;simp only at hk r1 r2 hl1 hln hnds ⊢;subst hk;have hpl:=fE prf;clear hpc hhd hok h hwl;obtain⟨C3,hC3e⟩:∃C3,C3=B.cells (aB ⟨1,del,w,prf,cells,t,cores,upr,sets,prs,steps,g⟩):=⟨_,rfl⟩;have hC3:=bm ⟨1,del,w,prf,cells,t,cores,upr,sets,prs,steps,g⟩;rw[←hC3e]at hC3;obtain⟨A,hA⟩:∃A,A=aA wDel [w]:=⟨_,rfl⟩;have p1:=cE C0 [C3] (hC _) (by simpa using hC3 _) [] wDel true [w] (by simp) (by decide) (by simp) (by simpa using r2)
 have p2:=fun ls hls x hx=>cE C0 [C3] (hC _) (by simpa using hC3 _) ls bp true [x] hls (by decide) (by simp) (by simpa using hx)
 obtain⟨P,hP⟩:∃P,P=(bn prf).map ndL:=⟨_,rfl⟩
 have hPl:P.length≤1000000:=by rw[hP,iE];omega
 have p3:=fun ls hls=>nodes_cc C0 C3 hC hC3 ls false prf hls hln hnds
 have p4:=fun ls hls=>cJ (cE C0 [C3] (hC _) (by simpa using hC3 _) ls bO false [] hls (by decide) (by simp) (by simp)) (args:=[.ptr 1 0,.str (bs bO),.nilS]) rfl dy
 rw[←hA]at p1 ⊢;rw[←hP]at p3 ⊢;subst hC3e;simp only[hU,iU,aN,wrH,iO,iS,aB,aC,aE]at p1 p2 p3 p4;refine ay tok Tryz.func34 rfl rfl ?_;refine wx ?_;simp -dsimp[Tryz.f34,gk,aF,aB,aC,aE,wrH];refine wcE p1 ?_;simp -dsimp[];refine ak (W_loopM 44 0xff800000080 (by simp[mB]<;>rfl) (σ:=Nat) (fun i=>i≤del.length) (fun i=>del.length-i) (fun i=>[(35,.int .i64 i)]) (fun i=>wrH C0 (A::(del.map fun i=>aA bp [i]).take i) [B.cells (aB ⟨1,del,w,prf,cells,t,cores,upr,sets,prs,steps,g⟩)]) 0 (by omega) (by simp) (by simp[wrH,aB,aC,aE]) (by simp[wrH]) ?_);intro i hi N Q hN hQ;by_cases hb:i<del.length
 ·have hnx:=af del (fun i=>aA bp [i]) hb;have hin:=r1 _ (go hb);obtain⟨x,hx⟩:∃x,x=del[i]:=⟨_,rfl⟩;have hx':=hx.symm;rw[hx']at hnx hin
  have hlt:((del.map fun i=>aA bp [i]).take i).length≤1000000:=by rw[iC];omega
  obtain⟨O,hO⟩:∃O,O=A::(del.map fun i=>aA bp [i]).take i:=⟨_,rfl⟩
  have hOl:O.length≤100000000:=by rw[hO,gw];omega
  have hO2:A::(del.map fun i=>aA bp [i]).take (i+1)=O++[aA bp [x]]:=by rw[hnx,hO];rfl
  rw[←hO];have c2:=p2 O hOl x hin;simp only[wrH,aB,aC,aE];refine wx ?_;simp -dsimp[hb,hx',aN];refine wcE c2 ?_;simp -dsimp[aX i (by omega)];refine hN (i+1) _ _ (by omega) (by omega) ?_ ⟨[],?_⟩ ?_ ?_
  ·simp
  ·rw[hO2];simp[wrH,aB,aC,aE]
  ·simp[bS]
  ·exact cA (hC _) (by simpa using hC3 _) _
 ·have e:(del.map fun i=>aA bp [i]).take i=del.map fun i=>aA bp [i]:=gj (by simp;omega)
  rw[e]
  obtain⟨O,hO⟩:∃O,O=A::del.map fun i=>aA bp [i]:=⟨_,rfl⟩
  have hOl:O.length≤10000000:=by rw[hO,gw,iE];omega
  rw[←hO];simp only[wrH,aB,aC,aE];refine wx ?_;simp -dsimp[hb];refine hQ _ _ _ ?_;simp -dsimp[aC];refine wcE (p3 O hOl) ?_;simp -dsimp[];have c4:=p4 (O++P) (by rw[gh];omega);simp only[gh,iu]at c4;refine wcE c4 ?_;simp -dsimp[];rw[show A::((del.map fun i=>aA bp [i])++(P++[bO]))=O++(P++[bO]) by rw[hO];rfl];exact⟨[B.cells (aB ⟨1,del,w,prf,cells,t,cores,upr,sets,prs,steps,g⟩)],by simp[wrH,dx,iJ,aB,aC,aE]⟩
theorem write_3(c:Cert)(hk:c.k=3)(h:SzC c):bR Tryz.prog 34 [.ptr 1 0,aF c] (wrH (B.cells (aB c)) [] []) fun r H'=>r = .bool (okC c)∧∃G,H'=wrH (B.cells (aB c)) (wrL c) []++G:=by
 have hC:=bm c
 have hpc:aq c=[]:=by unfold aq;rw[if_neg (by omega),if_neg (by omega)]
 have hok:okC c=true:=by simp[okC,hk,hpc]
 have hwl:wrL c=al c++[bO]:=by unfold wrL;rw[if_pos (by omega),hpc];simp[bn]
 have hhd:al c=aA eI []::((c.sets.map fun(s:Nat)=>aA bo [(s:Int)])++c.prs.map fun p=>aA av [(p.s:Int),p.a,p.b]):=by unfold al;rw[if_neg (by omega),if_neg (by omega),if_pos hk]
 rw[hok,hwl,hhd];obtain⟨_,_,_,_,_,_,r7,r8,_⟩:=h.r;have hl5:=h.l5;have hl6:=h.l6;obtain⟨C0,hC0⟩:∃C0,C0=B.cells (aB c):=⟨_,rfl⟩;rw[←hC0]at hC ⊢;obtain⟨k,del,w,prf,cells,t,cores,upr,sets,prs,steps,g⟩:=c;simp only at hk r7 r8 hl5 hl6 ⊢;subst hk;clear hpc hhd hok h hwl;obtain⟨C3,hC3e⟩:∃C3,C3=B.cells (aB ⟨3,del,w,prf,cells,t,cores,upr,sets,prs,steps,g⟩):=⟨_,rfl⟩;have hC3:=bm ⟨3,del,w,prf,cells,t,cores,upr,sets,prs,steps,g⟩;rw[←hC3e]at hC3;obtain⟨A,hA⟩:∃A,A=aA eI []:=⟨_,rfl⟩;have p1:=cJ (cE C0 [C3] (hC _) (by simpa using hC3 _) [] eI false [] (by simp) (by decide) (by simp) (by simp)) (args:=[.ptr 1 0,.str (bs eI),.nilS]) rfl dy
 have p2:=fun ls hls (x:Nat) hx=>cE C0 [C3] (hC _) (by simpa using hC3 _) ls bo true [(x:Int)] hls (by decide) (by simp) (by simpa using bh hx)
 have p3:=fun ls hls (x:Cpr) (hx:x.s<4294967296∧inI x.a∧inI x.b)=>cE C0 [C3,B.cells [.int .u32 (x.s:Int),.int .i64 x.a,.int .i64 x.b]] (hC _) (by
  intro bl hbl
  rcases List.mem_cons.1 hbl with rfl | hbl
  ·exact hC3 _
  ·rw[List.mem_singleton.1 hbl];simp) ls av true [(x.s:Int),x.a,x.b] hls (by decide) (by simp) (by simpa using⟨bh hx.1,hx.2.1,hx.2.2⟩)
 have p4:=fun ls hls=>cJ (cE C0 [C3] (hC _) (by simpa using hC3 _) ls bO false [] hls (by decide) (by simp) (by simp)) (args:=[.ptr 1 0,.str (bs bO),.nilS]) rfl dy
 rw[←hA]at p1 ⊢;subst hC3e;simp only[hU,iU,aN,wrH,iO,iS,aB,aC,aE]at p1 p2 p3 p4;refine ay tok Tryz.func34 rfl rfl ?_;refine wx ?_;simp -dsimp[Tryz.f34,gk,aF,aB,aC,aE,wrH];refine wcE p1 ?_;simp -dsimp[];refine ak (W_loopM 102 0x3ff00000000000000000002000 (by simp[mB]<;>rfl) (σ:=Nat) (fun i=>i≤sets.length) (fun i=>sets.length-i) (fun i=>[(92,.int .i64 i)]) (fun i=>wrH C0 (A::(sets.map fun(s:Nat)=>aA bo [(s:Int)]).take i) [B.cells (aB ⟨3,del,w,prf,cells,t,cores,upr,sets,prs,steps,g⟩)]) 0 (by omega) (by simp) (by simp[wrH,aB,aC,aE]) (by simp[wrH]) ?_);intro i hi N Q hN hQ;by_cases hb:i<sets.length
 ·have hnx:=af sets (fun(s:Nat)=>aA bo [(s:Int)]) hb;have hin:=r7 _ (go hb);obtain⟨x,hx⟩:∃x,x=sets[i]:=⟨_,rfl⟩;have hx':=hx.symm;rw[hx']at hnx hin
  have hlt:((sets.map fun(s:Nat)=>aA bo [(s:Int)]).take i).length≤1000000:=by rw[iC];omega
  obtain⟨O,hO⟩:∃O,O=A::(sets.map fun(s:Nat)=>aA bo [(s:Int)]).take i:=⟨_,rfl⟩
  have hOl:O.length≤100000000:=by rw[hO,gw];omega
  have hO2:A::(sets.map fun(s:Nat)=>aA bo [(s:Int)]).take (i+1)=O++[aA bo [(x:Int)]]:=by rw[hnx,hO];rfl
  rw[←hO];have c2:=p2 O hOl x hin;simp only[wrH,aB,aC,aE];refine wx ?_;simp -dsimp[hb,hx',encS,dN x (by omega)];refine wcE c2 ?_;simp -dsimp[aX i (by omega)];refine hN (i+1) _ _ (by omega) (by omega) ?_ ⟨[],?_⟩ ?_ ?_
  ·simp
  ·rw[hO2];simp[wrH,aB,aC,aE]
  ·simp[bS]
  ·exact cA (hC _) (by simpa using hC3 _) _
 ·have e:(sets.map fun(s:Nat)=>aA bo [(s:Int)]).take i=sets.map fun(s:Nat)=>aA bo [(s:Int)]:=gj (by simp;omega)
  rw[e]
  obtain⟨O1,hO1⟩:∃O1,O1=A::sets.map fun(s:Nat)=>aA bo [(s:Int)]:=⟨_,rfl⟩
  have hOl:O1.length≤10000000:=by rw[hO1,gw,iE];omega
  rw[←hO1];simp only[wrH,aB,aC,aE];refine wx ?_;simp -dsimp[hb];refine hQ _ _ _ ?_;simp -dsimp[];refine ak (W_loopM 120 0xfffe00000000000000000000008000 (by simp[mB]<;>rfl) (σ:=Nat) (fun i=>i≤prs.length) (fun i=>prs.length-i) (fun i=>[(105,.int .i64 i)]) (fun i=>wrH C0 (O1++(prs.map fun p=>aA av [(p.s:Int),p.a,p.b]).take i) [B.cells (aB ⟨3,del,w,prf,cells,t,cores,upr,sets,prs,steps,g⟩)]) 0 (by omega) (by simp) (by simp[wrH,aB,aC,aE]) (by simp[wrH]) ?_);intro i hi N2 Q2 hN2 hQ2;by_cases hb:i<prs.length
  ·have hnx:=af prs (fun p=>aA av [(p.s:Int),p.a,p.b]) hb;have hin:=r8 _ (go hb);obtain⟨x,hx⟩:∃x,x=prs[i]:=⟨_,rfl⟩;have hx':=hx.symm;rw[hx']at hnx hin
   have hlt:((prs.map fun p=>aA av [(p.s:Int),p.a,p.b]).take i).length≤1000000:=by rw[iC];omega
   obtain⟨O,hO⟩:∃O,O=O1++(prs.map fun p=>aA av [(p.s:Int),p.a,p.b]).take i:=⟨_,rfl⟩
   have hOl:O.length≤100000000:=by rw[hO,gh];omega
   have hO2:O1++(prs.map fun p=>aA av [(p.s:Int),p.a,p.b]).take (i+1)=O++[aA av [(x.s:Int),x.a,x.b]]:=by rw[hnx,hO,iM]
   rw[←hO];have c2:=p3 O hOl x hin;simp only[wrH,aB,aC,aE];refine wx ?_;simp -dsimp[hb,hx',dJ,dN x.s (by omega)];refine wcE c2 ?_;simp -dsimp[aX i (by omega)];refine hN2 (i+1) _ _ (by omega) (by omega) ?_ ⟨[B.cells [.int .u32 (x.s:Int),.int .i64 x.a,.int .i64 x.b]],?_⟩ ?_ ?_
   ·simp
   ·rw[hO2];simp[wrH,aB,aC,aE]
   ·simp[bS]
   ·exact cA (hC _) (by simpa using hC3 _) _
  ·have e:(prs.map fun p=>aA av [(p.s:Int),p.a,p.b]).take i=prs.map fun p=>aA av [(p.s:Int),p.a,p.b]:=gj (by simp;omega)
   rw[e]
   obtain⟨O,hO⟩:∃O,O=O1++prs.map fun p=>aA av [(p.s:Int),p.a,p.b]:=⟨_,rfl⟩
   have hOl:O.length≤100000000:=by rw[hO,gh,iE];omega
   rw[←hO];simp only[wrH,aB,aC,aE];refine wx ?_;simp -dsimp[hb];refine hQ2 _ _ _ ?_;simp -dsimp[];have c4:=p4 O hOl;simp only[gh,iu]at c4;refine wcE c4 ?_;simp -dsimp[];rw[show A::((sets.map fun(s:Nat)=>aA bo [(s:Int)])++((prs.map fun p=>aA av [(p.s:Int),p.a,p.b])++[bO]))=O++[bO] by rw[hO,hO1];simp];exact⟨[B.cells (aB ⟨3,del,w,prf,cells,t,cores,upr,sets,prs,steps,g⟩)],by simp[wrH,dx,iJ,aB,aC,aE]⟩
theorem write_2(c:Cert)(hk:c.k=2)(h:SzC c):bR Tryz.prog 34 [.ptr 1 0,aF c] (wrH (B.cells (aB c)) [] []) fun r H'=>r = .bool (okC c)∧∃G,H'=wrH (B.cells (aB c)) (wrL c) []++G:=by
 have hC:=bm c
 have hok:okC c=(aq c).all ar:=by simp[okC,hk]
 have hwl:wrL c=al c++(bn (aq c)).map ndL++[bO]:=by unfold wrL;rw[if_pos (by omega)]
 have hhd:al c=aA wChg []::((c.cells.map fun x=>aA aw (aO [x]))++c.cores.map fun l=>aA au (aO l)):=by unfold al;rw[if_neg (by omega),if_pos hk]
 have hpc:aq c=c.upr:=by unfold aq;rw[if_neg (by omega),if_pos hk]
 have hln:=h.ln;have hnds:=h.nds;rw[hpc]at hln hnds hwl;rw[hok,hwl,hhd,hpc];obtain⟨_,_,_,r4,r5,_⟩:=h.r;have hl2:=h.l2;have hl3:=h.l3;have hl4:=h.l4;obtain⟨C0,hC0⟩:∃C0,C0=B.cells (aB c):=⟨_,rfl⟩;rw[←hC0]at hC ⊢;obtain⟨k,del,w,prf,cells,t,cores,upr,sets,prs,steps,g⟩:=c;simp only at hk r4 r5 hl2 hl3 hl4 hln hnds ⊢;subst hk;have hpl:=fE upr;clear hpc hhd hok h hwl;obtain⟨C3,hC3e⟩:∃C3,C3=B.cells (aB ⟨2,del,w,prf,cells,t,cores,upr,sets,prs,steps,g⟩):=⟨_,rfl⟩;have hC3:=bm ⟨2,del,w,prf,cells,t,cores,upr,sets,prs,steps,g⟩;rw[←hC3e]at hC3;obtain⟨A,hA⟩:∃A,A=aA wChg []:=⟨_,rfl⟩;obtain⟨P,hP⟩:∃P,P=(bn upr).map ndL:=⟨_,rfl⟩
 have hPl:P.length≤1000000:=by rw[hP,iE];omega
 have p1:=cJ (cE C0 [C3] (hC _) (by simpa using hC3 _) [] wChg false [] (by simp) (by decide) (by simp) (by simp)) (args:=[.ptr 1 0,.str (bs wChg),.nilS]) rfl dy
 have p2:=fun ls hls (x:Cel) (hx:inI x.id∧inI x.a)=>cE C0 [C3,B.cells [.int .i64 x.id,.int .i64 x.a]] (hC _) (by
  intro bl hbl
  rcases List.mem_cons.1 hbl with rfl | hbl
  ·exact hC3 _
  ·rw[List.mem_singleton.1 hbl];simp) ls aw false (aO [x]) hls (by decide) (by simp[aO]) (fy (by simpa using hx))
 have p5:=fun ls hls (x:List Cel) (hxl:x.length≤100000) (hx:∀y∈x,inI y.id∧inI y.a)=>cE C0 [C3] (hC _) (by simpa using hC3 _) ls au false (aO x) hls (by decide) (by have:=cn x x.length (gn _);rw[jD]at this;omega) (fy hx)
 have p3:=fun ls hls=>nodes_cc C0 C3 hC hC3 ls false upr hls hln hnds
 have p4:=fun ls hls=>cJ (cE C0 [C3] (hC _) (by simpa using hC3 _) ls bO false [] hls (by decide) (by simp) (by simp)) (args:=[.ptr 1 0,.str (bs bO),.nilS]) rfl dy
 have q1:=fun(x:Cel)=>cells_c true [x] (by simp)
 have q2:=fun(x:List Cel) (hx:x.length≤100000)=>cells_c false x (by omega)
 rw[←hA]at p1 ⊢;rw[←hP]at p3 ⊢;subst hC3e;simp only[hU,iU,wrH,iO,iS,aB,aC,aE,cC]at p1 p2 p3 p4 p5 q1;refine ay tok Tryz.func34 rfl rfl ?_;refine wx ?_;simp -dsimp[Tryz.f34,gk,aF,aB,aC,aE,wrH];refine wcE p1 ?_;simp -dsimp[];refine ak (W_loopM 67 0x7fe00000000000200 (by simp[mB]<;>rfl) (σ:=Nat) (fun i=>i≤cells.length) (fun i=>cells.length-i) (fun i=>[(57,.int .i64 i)]) (fun i=>wrH C0 (A::(cells.map fun x=>aA aw (aO [x])).take i) [B.cells (aB ⟨2,del,w,prf,cells,t,cores,upr,sets,prs,steps,g⟩)]) 0 (by omega) (by simp) (by simp[wrH,aB,aC,aE]) (by simp[wrH]) ?_);intro i hi N Q hN hQ;by_cases hb:i<cells.length
 ·have hnx:=af cells (fun x=>aA aw (aO [x])) hb;have hin:=r4 _ (go hb);obtain⟨x,hx⟩:∃x,x=cells[i]:=⟨_,rfl⟩;have hx':=hx.symm;rw[hx']at hnx hin
  have hlt:((cells.map fun x=>aA aw (aO [x])).take i).length≤1000000:=by rw[iC];omega
  obtain⟨O,hO⟩:∃O,O=A::(cells.map fun x=>aA aw (aO [x])).take i:=⟨_,rfl⟩
  have hOl:O.length≤100000000:=by rw[hO,gw];omega
  have hO2:A::(cells.map fun x=>aA aw (aO [x])).take (i+1)=O++[aA aw (aO [x])]:=by rw[hnx,hO];rfl
  rw[←hO];have c2:=p2 O hOl x hin;simp only[wrH,aB,aC,aE];refine wx ?_;simp -dsimp[hb,hx',cC,aE];refine cPx (q1 x) (by simp) ?_;simp -dsimp[];refine wcE c2 ?_;simp -dsimp[aX i (by omega)];refine hN (i+1) _ _ (by omega) (by omega) ?_ ⟨[B.cells [.int .i64 x.id,.int .i64 x.a]],?_⟩ ?_ ?_
  ·simp
  ·rw[hO2];simp[wrH,aB,aC,aE]
  ·simp[bS]
  ·exact cA (hC _) (by simpa using hC3 _) _
 ·have e:(cells.map fun x=>aA aw (aO [x])).take i=cells.map fun x=>aA aw (aO [x]):=gj (by simp;omega)
  rw[e]
  obtain⟨O1,hO1⟩:∃O1,O1=A::cells.map fun x=>aA aw (aO [x]):=⟨_,rfl⟩
  have hOl:O1.length≤5000000:=by rw[hO1,gw,iE];omega
  rw[←hO1];simp only[wrH,aB,aC,aE];refine wx ?_;simp -dsimp[hb];refine hQ _ _ _ ?_;simp -dsimp[];refine ak (W_loopM 80 0xff800000000000000800 (by simp[mB]<;>rfl) (σ:=Nat) (fun i=>i≤cores.length) (fun i=>cores.length-i) (fun i=>[(71,.int .i64 i)]) (fun i=>wrH C0 (O1++(cores.map fun l=>aA au (aO l)).take i) [B.cells (aB ⟨2,del,w,prf,cells,t,cores,upr,sets,prs,steps,g⟩)]) 0 (by omega) (by simp) (by simp[wrH,aB,aC,aE]) (by simp[wrH]) ?_);intro i hi N2 Q2 hN2 hQ2;by_cases hb:i<cores.length
  ·have hnx:=af cores (fun l=>aA au (aO l)) hb;have hin:=r5 _ (go hb);have hsl:=hl4 _ (go hb);obtain⟨x,hx⟩:∃x,x=cores[i]:=⟨_,rfl⟩;have hx':=hx.symm;rw[hx']at hnx hin hsl
   have hlt:((cores.map fun l=>aA au (aO l)).take i).length≤1000000:=by rw[iC];omega
   obtain⟨O,hO⟩:∃O,O=O1++(cores.map fun l=>aA au (aO l)).take i:=⟨_,rfl⟩
   have hOl:O.length≤100000000:=by rw[hO,gh];omega
   have hO2:O1++(cores.map fun l=>aA au (aO l)).take (i+1)=O++[aA au (aO x)]:=by rw[hnx,hO,iM]
   rw[←hO];have c2:=p5 O hOl x hsl hin;simp only[wrH,aB,aC,aE];refine wx ?_;simp -dsimp[hb,hx',aE];refine cPx (q2 x hsl) (by simp) ?_;simp -dsimp[];refine wcE c2 ?_;simp -dsimp[aX i (by omega)];refine hN2 (i+1) _ _ (by omega) (by omega) ?_ ⟨[],?_⟩ ?_ ?_
   ·simp
   ·rw[hO2];simp[wrH,aB,aC,aE]
   ·simp[bS]
   ·exact cA (hC _) (by simpa using hC3 _) _
  ·have e:(cores.map fun l=>aA au (aO l)).take i=cores.map fun l=>aA au (aO l):=gj (by simp;omega)
   rw[e]
   obtain⟨O,hO⟩:∃O,O=O1++cores.map fun l=>aA au (aO l):=⟨_,rfl⟩
   have hOl:O.length≤10000000:=by rw[hO,gh,iE];omega
   rw[←hO];simp only[wrH,aB,aC,aE];refine wx ?_;simp -dsimp[hb];refine hQ2 _ _ _ ?_;simp -dsimp[aC];refine wcE (p3 O hOl) ?_;simp -dsimp[];have c4:=p4 (O++P) (by rw[gh];omega);simp only[gh,iu]at c4;refine wcE c4 ?_;simp -dsimp[];rw[show A::((cells.map fun x=>aA aw (aO [x]))++((cores.map fun l=>aA au (aO l))++(P++[bO])))=O++(P++[bO]) by rw[hO,hO1];simp];exact⟨[B.cells (aB ⟨2,del,w,prf,cells,t,cores,upr,sets,prs,steps,g⟩)],by simp[wrH,dx,iJ,aB,aC,aE]⟩
end
end Go.Proofs.YtdhgchekdkjcpaaGreatDoor
