/- JG17: own texts of this seat, joined and shortened by pack4.py: Gd, Ge, Gf. -/
import Derived.Test.YtdhgchekdkjcpaaGreatDoorJG9
import Derived.Test.YtdhgchekdkjcpaaGreatDoorJG16
set_option linter.unusedVariables false
set_option linter.unusedSimpArgs false
set_option maxRecDepth 100000
set_option maxHeartbeats 64000000
open List renaming replicate→kQ,getElem?_eq_getElem→kR,length_append→kT,take_of_length_le→kV,getElem_mem→kW,nil_append→kX,length_cons→kZ,length_take→kg,map_cons→kj,length_nil→kq,map_append→lC,map_nil→lD,length_map→lG,append_assoc→lV,take_length→mM
open Nat renaming le_refl→kY,add_assoc→lR
namespace Go.Proofs.YtdhgchekdkjcpaaGreatDoor
section
open Go Go.AM Go.Lib
theorem cut1{P:Program}{f:FuncId}{args:List V}{H Hf:List B}{r0:V}(h:aq P f args H fun r H'=>r=r0∧∃G,H'=Hf++G)(hl:H.length≤Hf.length)(hr:rb Hf.length r0)(hb:∀bl∈Hf,rbB Hf.length bl):aq P f args H fun r H'=>r=r0∧H'=Hf :=
 (conH_cutE (σ:=Unit) (ok:=fun _=>True) (rf:=fun _=>r0) (Hf:=fun _=>Hf) (h.mono fun r H' ⟨h1,h2⟩=>⟨(),trivial,h1,h2⟩) (fun _ _=>hl) (fun _ _=>hr) (fun _ _=>hb)).mono fun r H' ⟨_,_,h1,h2⟩=>⟨h1,h2⟩
theorem nodes_cc(C0 C3:B)(hC:∀n,rbB n C0)(hC3:∀n,rbB n C3)(ls:List (List UInt8))(f:Bool)(l:List Cnd)(hls:ls.length≤10000000)(hl:l.length≤1000000)(hr:∀x∈l,cndR x):
  aq Tryz.prog 55 [.ptr 1 0,.lst 2 f (l.map aE)] (wrH C0 ls [C3]) fun r H'=>r = .bool (l.all cL)∧H'=wrH C0 (ls++(cp l).map ndL) [C3] :=
 cut1 (nodes_c C0 C3 hC hC3 ls f l hls hl hr) (by simp[cN]) (by simp) (dF (hC _) (by simpa using hC3 _) _)
theorem iK:∀(l:List Cnd),(cp l).length≤l.length
 | []=>kY _
 | x::l=>by
  have:=iK l;unfold cp;split
  ·simpa using this
  ·simp
theorem dU{f:FuncId}{args args':List V}{H:List B}{K:V→List B→Prop}(h:aq Tryz.prog f args' H K)(hl:args.length=args'.length)(hle:∀(i:Nat) a b,args[i]?=some a→args'[i]?=some b→Le a b):aq Tryz.prog f args H K:=by
 refine⟨h.1,fun s vals hA hg hsz hrel=>h.2 s vals hA hg (by omega) (fun i b u hb hu=>?_)⟩;have ha:args[i]?=some (args[i]'(by have:=getElem?_lt hb;omega)):=kR _;exact(hle i _ b ha hb).rel (hrel i _ u ha hu)
theorem fc{a b:V} : ∀(i:Nat) x y,[a,b,V.nilS][i]?=some x→[a,b,V.lst 1 false (([]:List Int).map aD)][i]?=some y→Le x y:=fun i x y hx hy=>by
 match i with
 | 0=>simp at hx hy;subst hx;subst hy;exact .refl _
 | 1=>simp at hx hy;subst hx;subst hy;exact .refl _
 | 2=>simp at hx hy;subst hx;subst hy;exact .nil _ _
 | n+3=>simp at hx
theorem fb(w:List UInt8):aG w []=w:=by simp[aG,du]
def wrL(c:Cert):List (List UInt8):=if 1≤c.k∧c.k≤4 then am c++(cp (bE c)).map ndL++[aT] else []
theorem wrL_ok{c:Cert}(h:okC c=true):wrL c=ak c:=by
 obtain⟨hk,hn⟩:=iJ h;unfold wrL;rw[if_pos hk,iL _ hn];rfl
theorem cn(c:Cert):∀n,rbB n (B.cells (aI c)):=fun n=>by simp[aI,aZ,aJ]
theorem write_1(c:Cert)(hk:c.k=1)(h:SzC c):aq Tryz.prog 34 [.ptr 1 0,aU c] (wrH (B.cells (aI c)) [] []) fun r H'=>r = .bool (okC c)∧∃G,H'=wrH (B.cells (aI c)) (wrL c) []++G:=by
 have hC:=cn c
 have hok:okC c=(bE c).all cL:=by simp[okC,hk]
 have hwl:wrL c=am c++(cp (bE c)).map ndL++[aT]:=by unfold wrL;rw[if_pos (by omega)]
 have hhd:am c=aG dM [c.w]::c.del.map fun i=>aG bR [i]:=by unfold am;rw[if_pos hk]
 have hpc:bE c=c.prf:=by unfold bE;rw[if_pos hk]
 have hln:=h.ln;have hnds:=h.nds;rw[hpc]at hln hnds hwl;rw[hok,hwl,hhd,hpc];obtain⟨r1,r2,_⟩:=h.r;have hl1:=h.l1;obtain⟨C0,hC0⟩:∃C0,C0=B.cells (aI c):=⟨_,rfl⟩;rw[←hC0]at hC ⊢;obtain⟨k,del,w,prf,cells,t,cores,upr,sets,prs,steps,g⟩:=c;simp only at hk r1 r2 hl1 hln hnds ⊢;subst hk;have hpl:=iK prf;clear hpc hhd hok h hwl;obtain⟨C3,hC3e⟩:∃C3,C3=B.cells (aI ⟨1,del,w,prf,cells,t,cores,upr,sets,prs,steps,g⟩):=⟨_,rfl⟩;have hC3:=cn ⟨1,del,w,prf,cells,t,cores,upr,sets,prs,steps,g⟩;rw[←hC3e]at hC3;obtain⟨A,hA⟩:∃A,A=aG dM [w]:=⟨_,rfl⟩;have p1:=dL C0 [C3] (hC _) (by simpa using hC3 _) [] dM true [w] (by simp) (by decide) (by simp) (by simpa using r2)
 have p2:=fun ls hls x hx=>dL C0 [C3] (hC _) (by simpa using hC3 _) ls bR true [x] hls (by decide) (by simp) (by simpa using hx)
 obtain⟨P,hP⟩:∃P,P=(cp prf).map ndL:=⟨_,rfl⟩
 have hPl:P.length≤1000000:=by rw[hP,lG];omega
 have p3:=fun ls hls=>nodes_cc C0 C3 hC hC3 ls false prf hls hln hnds
 have p4:=fun ls hls=>dU (dL C0 [C3] (hC _) (by simpa using hC3 _) ls aT false [] hls (by decide) (by simp) (by simp)) (args:=[.ptr 1 0,.str (bs aT),.nilS]) rfl fc
 rw[←hA]at p1 ⊢;rw[←hP]at p3 ⊢;subst hC3e;simp only[kj,lD,aD,wrH,kq,kX,aI,aZ,aJ]at p1 p2 p3 p4;refine aB tok Tryz.func34 rfl rfl ?_;refine wx ?_;simp -dsimp[Tryz.f34,kQ,aU,aI,aZ,aJ,wrH];refine wcE p1 ?_;simp -dsimp[];refine aS (W_loopM 44 0xff800000080 (by simp[mB]<;>rfl) (σ:=Nat) (fun i=>i≤del.length) (fun i=>del.length-i) (fun i=>[(35,.int .i64 i)]) (fun i=>wrH C0 (A::(del.map fun i=>aG bR [i]).take i) [B.cells (aI ⟨1,del,w,prf,cells,t,cores,upr,sets,prs,steps,g⟩)]) 0 (by omega) (by simp) (by simp[wrH,aI,aZ,aJ]) (by simp[wrH]) ?_);intro i hi N Q hN hQ;by_cases hb:i<del.length
 ·have hnx:=bd del (fun i=>aG bR [i]) hb;have hin:=r1 _ (kW hb);obtain⟨x,hx⟩:∃x,x=del[i]:=⟨_,rfl⟩;have hx':=hx.symm;rw[hx']at hnx hin
  have hlt:((del.map fun i=>aG bR [i]).take i).length≤1000000:=by rw[kg];omega
  obtain⟨O,hO⟩:∃O,O=A::(del.map fun i=>aG bR [i]).take i:=⟨_,rfl⟩
  have hOl:O.length≤100000000:=by rw[hO,kZ];omega
  have hO2:A::(del.map fun i=>aG bR [i]).take (i+1)=O++[aG bR [x]]:=by rw[hnx,hO];rfl
  rw[←hO];have c2:=p2 O hOl x hin;simp only[wrH,aI,aZ,aJ];refine wx ?_;simp -dsimp[hb,hx',aD];refine wcE c2 ?_;simp -dsimp[aO i (by omega)];refine hN (i+1) _ _ (by omega) (by omega) ?_ ⟨[],?_⟩ ?_ ?_
  ·simp
  ·rw[hO2];simp[wrH,aI,aZ,aJ]
  ·simp[cN]
  ·exact dF (hC _) (by simpa using hC3 _) _
 ·have e:(del.map fun i=>aG bR [i]).take i=del.map fun i=>aG bR [i]:=kV (by simp;omega)
  rw[e]
  obtain⟨O,hO⟩:∃O,O=A::del.map fun i=>aG bR [i]:=⟨_,rfl⟩
  have hOl:O.length≤10000000:=by rw[hO,kZ,lG];omega
  rw[←hO];simp only[wrH,aI,aZ,aJ];refine wx ?_;simp -dsimp[hb];refine hQ _ _ _ ?_;simp -dsimp[aZ];refine wcE (p3 O hOl) ?_;simp -dsimp[];have c4:=p4 (O++P) (by rw[kT];omega);simp only[kT,lC]at c4;refine wcE c4 ?_;simp -dsimp[];rw[show A::((del.map fun i=>aG bR [i])++(P++[aT]))=O++(P++[aT]) by rw[hO];rfl];exact⟨[B.cells (aI ⟨1,del,w,prf,cells,t,cores,upr,sets,prs,steps,g⟩)],by simp[wrH,fb,lR,aI,aZ,aJ]⟩
theorem write_3(c:Cert)(hk:c.k=3)(h:SzC c):aq Tryz.prog 34 [.ptr 1 0,aU c] (wrH (B.cells (aI c)) [] []) fun r H'=>r = .bool (okC c)∧∃G,H'=wrH (B.cells (aI c)) (wrL c) []++G:=by
 have hC:=cn c
 have hpc:bE c=[]:=by unfold bE;rw[if_neg (by omega),if_neg (by omega)]
 have hok:okC c=true:=by simp[okC,hk,hpc]
 have hwl:wrL c=am c++[aT]:=by unfold wrL;rw[if_pos (by omega),hpc];simp[cp]
 have hhd:am c=aG cC []::((c.sets.map fun(s:Nat)=>aG bT [(s:Int)])++c.prs.map fun p=>aG ar [(p.s:Int),p.a,p.b]):=by unfold am;rw[if_neg (by omega),if_neg (by omega),if_pos hk]
 rw[hok,hwl,hhd];obtain⟨_,_,_,_,_,_,r7,r8,_⟩:=h.r;have hl5:=h.l5;have hl6:=h.l6;obtain⟨C0,hC0⟩:∃C0,C0=B.cells (aI c):=⟨_,rfl⟩;rw[←hC0]at hC ⊢;obtain⟨k,del,w,prf,cells,t,cores,upr,sets,prs,steps,g⟩:=c;simp only at hk r7 r8 hl5 hl6 ⊢;subst hk;clear hpc hhd hok h hwl;obtain⟨C3,hC3e⟩:∃C3,C3=B.cells (aI ⟨3,del,w,prf,cells,t,cores,upr,sets,prs,steps,g⟩):=⟨_,rfl⟩;have hC3:=cn ⟨3,del,w,prf,cells,t,cores,upr,sets,prs,steps,g⟩;rw[←hC3e]at hC3;obtain⟨A,hA⟩:∃A,A=aG cC []:=⟨_,rfl⟩;have p1:=dU (dL C0 [C3] (hC _) (by simpa using hC3 _) [] cC false [] (by simp) (by decide) (by simp) (by simp)) (args:=[.ptr 1 0,.str (bs cC),.nilS]) rfl fc
 have p2:=fun ls hls (x:Nat) hx=>dL C0 [C3] (hC _) (by simpa using hC3 _) ls bT true [(x:Int)] hls (by decide) (by simp) (by simpa using iP hx)
 have p3:=fun ls hls (x:Cpr) (hx:x.s<4294967296∧inI x.a∧inI x.b)=>dL C0 [C3,B.cells [.int .u32 (x.s:Int),.int .i64 x.a,.int .i64 x.b]] (hC _) (by
  intro bl hbl
  rcases List.mem_cons.1 hbl with rfl | hbl
  ·exact hC3 _
  ·rw[List.mem_singleton.1 hbl];simp) ls ar true [(x.s:Int),x.a,x.b] hls (by decide) (by simp) (by simpa using⟨iP hx.1,hx.2.1,hx.2.2⟩)
 have p4:=fun ls hls=>dU (dL C0 [C3] (hC _) (by simpa using hC3 _) ls aT false [] hls (by decide) (by simp) (by simp)) (args:=[.ptr 1 0,.str (bs aT),.nilS]) rfl fc
 rw[←hA]at p1 ⊢;subst hC3e;simp only[kj,lD,aD,wrH,kq,kX,aI,aZ,aJ]at p1 p2 p3 p4;refine aB tok Tryz.func34 rfl rfl ?_;refine wx ?_;simp -dsimp[Tryz.f34,kQ,aU,aI,aZ,aJ,wrH];refine wcE p1 ?_;simp -dsimp[];refine aS (W_loopM 102 0x3ff00000000000000000002000 (by simp[mB]<;>rfl) (σ:=Nat) (fun i=>i≤sets.length) (fun i=>sets.length-i) (fun i=>[(92,.int .i64 i)]) (fun i=>wrH C0 (A::(sets.map fun(s:Nat)=>aG bT [(s:Int)]).take i) [B.cells (aI ⟨3,del,w,prf,cells,t,cores,upr,sets,prs,steps,g⟩)]) 0 (by omega) (by simp) (by simp[wrH,aI,aZ,aJ]) (by simp[wrH]) ?_);intro i hi N Q hN hQ;by_cases hb:i<sets.length
 ·have hnx:=bd sets (fun(s:Nat)=>aG bT [(s:Int)]) hb;have hin:=r7 _ (kW hb);obtain⟨x,hx⟩:∃x,x=sets[i]:=⟨_,rfl⟩;have hx':=hx.symm;rw[hx']at hnx hin
  have hlt:((sets.map fun(s:Nat)=>aG bT [(s:Int)]).take i).length≤1000000:=by rw[kg];omega
  obtain⟨O,hO⟩:∃O,O=A::(sets.map fun(s:Nat)=>aG bT [(s:Int)]).take i:=⟨_,rfl⟩
  have hOl:O.length≤100000000:=by rw[hO,kZ];omega
  have hO2:A::(sets.map fun(s:Nat)=>aG bT [(s:Int)]).take (i+1)=O++[aG bT [(x:Int)]]:=by rw[hnx,hO];rfl
  rw[←hO];have c2:=p2 O hOl x hin;simp only[wrH,aI,aZ,aJ];refine wx ?_;simp -dsimp[hb,hx',ax,wrapN x (by omega)];refine wcE c2 ?_;simp -dsimp[aO i (by omega)];refine hN (i+1) _ _ (by omega) (by omega) ?_ ⟨[],?_⟩ ?_ ?_
  ·simp
  ·rw[hO2];simp[wrH,aI,aZ,aJ]
  ·simp[cN]
  ·exact dF (hC _) (by simpa using hC3 _) _
 ·have e:(sets.map fun(s:Nat)=>aG bT [(s:Int)]).take i=sets.map fun(s:Nat)=>aG bT [(s:Int)]:=kV (by simp;omega)
  rw[e]
  obtain⟨O1,hO1⟩:∃O1,O1=A::sets.map fun(s:Nat)=>aG bT [(s:Int)]:=⟨_,rfl⟩
  have hOl:O1.length≤10000000:=by rw[hO1,kZ,lG];omega
  rw[←hO1];simp only[wrH,aI,aZ,aJ];refine wx ?_;simp -dsimp[hb];refine hQ _ _ _ ?_;simp -dsimp[];refine aS (W_loopM 120 0xfffe00000000000000000000008000 (by simp[mB]<;>rfl) (σ:=Nat) (fun i=>i≤prs.length) (fun i=>prs.length-i) (fun i=>[(105,.int .i64 i)]) (fun i=>wrH C0 (O1++(prs.map fun p=>aG ar [(p.s:Int),p.a,p.b]).take i) [B.cells (aI ⟨3,del,w,prf,cells,t,cores,upr,sets,prs,steps,g⟩)]) 0 (by omega) (by simp) (by simp[wrH,aI,aZ,aJ]) (by simp[wrH]) ?_);intro i hi N2 Q2 hN2 hQ2;by_cases hb:i<prs.length
  ·have hnx:=bd prs (fun p=>aG ar [(p.s:Int),p.a,p.b]) hb;have hin:=r8 _ (kW hb);obtain⟨x,hx⟩:∃x,x=prs[i]:=⟨_,rfl⟩;have hx':=hx.symm;rw[hx']at hnx hin
   have hlt:((prs.map fun p=>aG ar [(p.s:Int),p.a,p.b]).take i).length≤1000000:=by rw[kg];omega
   obtain⟨O,hO⟩:∃O,O=O1++(prs.map fun p=>aG ar [(p.s:Int),p.a,p.b]).take i:=⟨_,rfl⟩
   have hOl:O.length≤100000000:=by rw[hO,kT];omega
   have hO2:O1++(prs.map fun p=>aG ar [(p.s:Int),p.a,p.b]).take (i+1)=O++[aG ar [(x.s:Int),x.a,x.b]]:=by rw[hnx,hO,lV]
   rw[←hO];have c2:=p3 O hOl x hin;simp only[wrH,aI,aZ,aJ];refine wx ?_;simp -dsimp[hb,hx',aQ,wrapN x.s (by omega)];refine wcE c2 ?_;simp -dsimp[aO i (by omega)];refine hN2 (i+1) _ _ (by omega) (by omega) ?_ ⟨[B.cells [.int .u32 (x.s:Int),.int .i64 x.a,.int .i64 x.b]],?_⟩ ?_ ?_
   ·simp
   ·rw[hO2];simp[wrH,aI,aZ,aJ]
   ·simp[cN]
   ·exact dF (hC _) (by simpa using hC3 _) _
  ·have e:(prs.map fun p=>aG ar [(p.s:Int),p.a,p.b]).take i=prs.map fun p=>aG ar [(p.s:Int),p.a,p.b]:=kV (by simp;omega)
   rw[e]
   obtain⟨O,hO⟩:∃O,O=O1++prs.map fun p=>aG ar [(p.s:Int),p.a,p.b]:=⟨_,rfl⟩
   have hOl:O.length≤100000000:=by rw[hO,kT,lG];omega
   rw[←hO];simp only[wrH,aI,aZ,aJ];refine wx ?_;simp -dsimp[hb];refine hQ2 _ _ _ ?_;simp -dsimp[];have c4:=p4 O hOl;simp only[kT,lC]at c4;refine wcE c4 ?_;simp -dsimp[];rw[show A::((sets.map fun(s:Nat)=>aG bT [(s:Int)])++((prs.map fun p=>aG ar [(p.s:Int),p.a,p.b])++[aT]))=O++[aT] by rw[hO,hO1];simp];exact⟨[B.cells (aI ⟨3,del,w,prf,cells,t,cores,upr,sets,prs,steps,g⟩)],by simp[wrH,fb,lR,aI,aZ,aJ]⟩
theorem write_2(c:Cert)(hk:c.k=2)(h:SzC c):aq Tryz.prog 34 [.ptr 1 0,aU c] (wrH (B.cells (aI c)) [] []) fun r H'=>r = .bool (okC c)∧∃G,H'=wrH (B.cells (aI c)) (wrL c) []++G:=by
 have hC:=cn c
 have hok:okC c=(bE c).all cL:=by simp[okC,hk]
 have hwl:wrL c=am c++(cp (bE c)).map ndL++[aT]:=by unfold wrL;rw[if_pos (by omega)]
 have hhd:am c=aG dG []::((c.cells.map fun x=>aG ao (az [x]))++c.cores.map fun l=>aG al (az l)):=by unfold am;rw[if_neg (by omega),if_pos hk]
 have hpc:bE c=c.upr:=by unfold bE;rw[if_neg (by omega),if_pos hk]
 have hln:=h.ln;have hnds:=h.nds;rw[hpc]at hln hnds hwl;rw[hok,hwl,hhd,hpc];obtain⟨_,_,_,r4,r5,_⟩:=h.r;have hl2:=h.l2;have hl3:=h.l3;have hl4:=h.l4;obtain⟨C0,hC0⟩:∃C0,C0=B.cells (aI c):=⟨_,rfl⟩;rw[←hC0]at hC ⊢;obtain⟨k,del,w,prf,cells,t,cores,upr,sets,prs,steps,g⟩:=c;simp only at hk r4 r5 hl2 hl3 hl4 hln hnds ⊢;subst hk;have hpl:=iK upr;clear hpc hhd hok h hwl;obtain⟨C3,hC3e⟩:∃C3,C3=B.cells (aI ⟨2,del,w,prf,cells,t,cores,upr,sets,prs,steps,g⟩):=⟨_,rfl⟩;have hC3:=cn ⟨2,del,w,prf,cells,t,cores,upr,sets,prs,steps,g⟩;rw[←hC3e]at hC3;obtain⟨A,hA⟩:∃A,A=aG dG []:=⟨_,rfl⟩;obtain⟨P,hP⟩:∃P,P=(cp upr).map ndL:=⟨_,rfl⟩
 have hPl:P.length≤1000000:=by rw[hP,lG];omega
 have p1:=dU (dL C0 [C3] (hC _) (by simpa using hC3 _) [] dG false [] (by simp) (by decide) (by simp) (by simp)) (args:=[.ptr 1 0,.str (bs dG),.nilS]) rfl fc
 have p2:=fun ls hls (x:Cel) (hx:inI x.id∧inI x.a)=>dL C0 [C3,B.cells [.int .i64 x.id,.int .i64 x.a]] (hC _) (by
  intro bl hbl
  rcases List.mem_cons.1 hbl with rfl | hbl
  ·exact hC3 _
  ·rw[List.mem_singleton.1 hbl];simp) ls ao false (az [x]) hls (by decide) (by simp[az]) (jM (by simpa using hx))
 have p5:=fun ls hls (x:List Cel) (hxl:x.length≤100000) (hx:∀y∈x,inI y.id∧inI y.a)=>dL C0 [C3] (hC _) (by simpa using hC3 _) ls al false (az x) hls (by decide) (by have:=iX x x.length (kY _);rw[mM]at this;omega) (jM hx)
 have p3:=fun ls hls=>nodes_cc C0 C3 hC hC3 ls false upr hls hln hnds
 have p4:=fun ls hls=>dU (dL C0 [C3] (hC _) (by simpa using hC3 _) ls aT false [] hls (by decide) (by simp) (by simp)) (args:=[.ptr 1 0,.str (bs aT),.nilS]) rfl fc
 have q1:=fun(x:Cel)=>cells_c true [x] (by simp)
 have q2:=fun(x:List Cel) (hx:x.length≤100000)=>cells_c false x (by omega)
 rw[←hA]at p1 ⊢;rw[←hP]at p3 ⊢;subst hC3e;simp only[kj,lD,wrH,kq,kX,aI,aZ,aJ,aK]at p1 p2 p3 p4 p5 q1;refine aB tok Tryz.func34 rfl rfl ?_;refine wx ?_;simp -dsimp[Tryz.f34,kQ,aU,aI,aZ,aJ,wrH];refine wcE p1 ?_;simp -dsimp[];refine aS (W_loopM 67 0x7fe00000000000200 (by simp[mB]<;>rfl) (σ:=Nat) (fun i=>i≤cells.length) (fun i=>cells.length-i) (fun i=>[(57,.int .i64 i)]) (fun i=>wrH C0 (A::(cells.map fun x=>aG ao (az [x])).take i) [B.cells (aI ⟨2,del,w,prf,cells,t,cores,upr,sets,prs,steps,g⟩)]) 0 (by omega) (by simp) (by simp[wrH,aI,aZ,aJ]) (by simp[wrH]) ?_);intro i hi N Q hN hQ;by_cases hb:i<cells.length
 ·have hnx:=bd cells (fun x=>aG ao (az [x])) hb;have hin:=r4 _ (kW hb);obtain⟨x,hx⟩:∃x,x=cells[i]:=⟨_,rfl⟩;have hx':=hx.symm;rw[hx']at hnx hin
  have hlt:((cells.map fun x=>aG ao (az [x])).take i).length≤1000000:=by rw[kg];omega
  obtain⟨O,hO⟩:∃O,O=A::(cells.map fun x=>aG ao (az [x])).take i:=⟨_,rfl⟩
  have hOl:O.length≤100000000:=by rw[hO,kZ];omega
  have hO2:A::(cells.map fun x=>aG ao (az [x])).take (i+1)=O++[aG ao (az [x])]:=by rw[hnx,hO];rfl
  rw[←hO];have c2:=p2 O hOl x hin;simp only[wrH,aI,aZ,aJ];refine wx ?_;simp -dsimp[hb,hx',aK,aJ];refine cPx (q1 x) (by simp) ?_;simp -dsimp[];refine wcE c2 ?_;simp -dsimp[aO i (by omega)];refine hN (i+1) _ _ (by omega) (by omega) ?_ ⟨[B.cells [.int .i64 x.id,.int .i64 x.a]],?_⟩ ?_ ?_
  ·simp
  ·rw[hO2];simp[wrH,aI,aZ,aJ]
  ·simp[cN]
  ·exact dF (hC _) (by simpa using hC3 _) _
 ·have e:(cells.map fun x=>aG ao (az [x])).take i=cells.map fun x=>aG ao (az [x]):=kV (by simp;omega)
  rw[e]
  obtain⟨O1,hO1⟩:∃O1,O1=A::cells.map fun x=>aG ao (az [x]):=⟨_,rfl⟩
  have hOl:O1.length≤5000000:=by rw[hO1,kZ,lG];omega
  rw[←hO1];simp only[wrH,aI,aZ,aJ];refine wx ?_;simp -dsimp[hb];refine hQ _ _ _ ?_;simp -dsimp[];refine aS (W_loopM 80 0xff800000000000000800 (by simp[mB]<;>rfl) (σ:=Nat) (fun i=>i≤cores.length) (fun i=>cores.length-i) (fun i=>[(71,.int .i64 i)]) (fun i=>wrH C0 (O1++(cores.map fun l=>aG al (az l)).take i) [B.cells (aI ⟨2,del,w,prf,cells,t,cores,upr,sets,prs,steps,g⟩)]) 0 (by omega) (by simp) (by simp[wrH,aI,aZ,aJ]) (by simp[wrH]) ?_);intro i hi N2 Q2 hN2 hQ2;by_cases hb:i<cores.length
  ·have hnx:=bd cores (fun l=>aG al (az l)) hb;have hin:=r5 _ (kW hb);have hsl:=hl4 _ (kW hb);obtain⟨x,hx⟩:∃x,x=cores[i]:=⟨_,rfl⟩;have hx':=hx.symm;rw[hx']at hnx hin hsl
   have hlt:((cores.map fun l=>aG al (az l)).take i).length≤1000000:=by rw[kg];omega
   obtain⟨O,hO⟩:∃O,O=O1++(cores.map fun l=>aG al (az l)).take i:=⟨_,rfl⟩
   have hOl:O.length≤100000000:=by rw[hO,kT];omega
   have hO2:O1++(cores.map fun l=>aG al (az l)).take (i+1)=O++[aG al (az x)]:=by rw[hnx,hO,lV]
   rw[←hO];have c2:=p5 O hOl x hsl hin;simp only[wrH,aI,aZ,aJ];refine wx ?_;simp -dsimp[hb,hx',aJ];refine cPx (q2 x hsl) (by simp) ?_;simp -dsimp[];refine wcE c2 ?_;simp -dsimp[aO i (by omega)];refine hN2 (i+1) _ _ (by omega) (by omega) ?_ ⟨[],?_⟩ ?_ ?_
   ·simp
   ·rw[hO2];simp[wrH,aI,aZ,aJ]
   ·simp[cN]
   ·exact dF (hC _) (by simpa using hC3 _) _
  ·have e:(cores.map fun l=>aG al (az l)).take i=cores.map fun l=>aG al (az l):=kV (by simp;omega)
   rw[e]
   obtain⟨O,hO⟩:∃O,O=O1++cores.map fun l=>aG al (az l):=⟨_,rfl⟩
   have hOl:O.length≤10000000:=by rw[hO,kT,lG];omega
   rw[←hO];simp only[wrH,aI,aZ,aJ];refine wx ?_;simp -dsimp[hb];refine hQ2 _ _ _ ?_;simp -dsimp[aZ];refine wcE (p3 O hOl) ?_;simp -dsimp[];have c4:=p4 (O++P) (by rw[kT];omega);simp only[kT,lC]at c4;refine wcE c4 ?_;simp -dsimp[];rw[show A::((cells.map fun x=>aG ao (az [x]))++((cores.map fun l=>aG al (az l))++(P++[aT])))=O++(P++[aT]) by rw[hO,hO1];simp];exact⟨[B.cells (aI ⟨2,del,w,prf,cells,t,cores,upr,sets,prs,steps,g⟩)],by simp[wrH,fb,lR,aI,aZ,aJ]⟩
end
end Go.Proofs.YtdhgchekdkjcpaaGreatDoor
