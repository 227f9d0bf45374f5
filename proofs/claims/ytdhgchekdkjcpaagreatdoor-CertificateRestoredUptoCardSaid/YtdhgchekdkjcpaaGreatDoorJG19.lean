/- JG19: own texts of this seat, joined and shortened by pack4.py: Gg, Gh, Gi, Gj. -/
import Derived.Test.YtdhgchekdkjcpaaGreatDoorJG17
import Derived.Test.YtdhgchekdkjcpaaGreatDoorJG18
set_option linter.unusedVariables false
set_option linter.unusedSimpArgs false
set_option maxRecDepth 100000
set_option maxHeartbeats 64000000
open List renaming replicate→kQ,getElem?_eq_getElem→kR,length_append→kT,getElem?_append_left→kU,take_of_length_le→kV,getElem_mem→kW,nil_append→kX,length_cons→kZ,length_take→kg,map_cons→kj,length_nil→kq,map_append→lC,map_nil→lD,length_map→lG,mem_append→mC,mem_cons→mE
open Nat renaming le_refl→kY,add_assoc→lR,zero_le→mH
namespace Go.Proofs.YtdhgchekdkjcpaaGreatDoor
section
open Go Go.AM Go.Lib
def nbW(s:Cst)(j:Nat):V:=if j=0 then .lst 1 true [.int .i64 s.r,.int .i64 (s.d.l:Int),.int .i64 (s.d.r:Int)] else .buf 5 0 (j+3) (j+3)
theorem nbW_0(s:Cst):nbW s 0 = .lst 1 true [.int .i64 s.r,.int .i64 (s.d.l:Int),.int .i64 (s.d.r:Int)]:=rfl
theorem nbW_p(s:Cst){j:Nat}(h:0<j):nbW s j = .buf 5 0 (j+3) (j+3):=by unfold nbW;rw[if_neg (by omega)]
theorem nbH_rb(s:Cst)(j:Nat)(n:Nat):∀bl∈nbH s j,rbB n bl:=by
 intro bl hbl;unfold nbH at hbl;split at hbl
 ·cases hbl
 ·rw[List.mem_singleton.1 hbl];simp[aD]
theorem write_4(c:Cert)(hk:c.k=4)(h:SzC c):aq Tryz.prog 34 [.ptr 1 0,aU c] (wrH (B.cells (aI c)) [] []) fun r H'=>r = .bool (okC c)∧∃G,H'=wrH (B.cells (aI c)) (wrL c) []++G:=by
 have hC:=cn c
 have hpc:bE c=[]:=by unfold bE;rw[if_neg (by omega),if_neg (by omega)]
 have hok:okC c=true:=by simp[okC,hk,hpc]
 have hwl:wrL c=am c++[aT]:=by unfold wrL;rw[if_pos (by omega),hpc];simp[cp]
 have hhd:am c=aG bD [(c.g.l:Int),(c.g.r:Int)]::c.steps.map fun s=>aG bB (stN s):=by unfold am;rw[if_neg (by omega),if_neg (by omega),if_neg (by omega),if_pos hk]
 rw[hok,hwl,hhd];obtain⟨_,_,_,_,_,_,_,_,r9,r10,r11⟩:=h.r;have hl7:=h.l7;have hl8:=h.l8;obtain⟨C0,hC0⟩:∃C0,C0=B.cells (aI c):=⟨_,rfl⟩;rw[←hC0]at hC ⊢;obtain⟨k,del,w,prf,cells,t,cores,upr,sets,prs,steps,⟨gl,gr⟩⟩:=c;simp only at hk r9 r10 r11 hl7 hl8 ⊢;subst hk;clear hpc hhd hok h hwl;obtain⟨C3,hC3e⟩:∃C3,C3=B.cells (aI ⟨4,del,w,prf,cells,t,cores,upr,sets,prs,steps,⟨gl,gr⟩⟩):=⟨_,rfl⟩;have hC3:=cn ⟨4,del,w,prf,cells,t,cores,upr,sets,prs,steps,⟨gl,gr⟩⟩;rw[←hC3e]at hC3;obtain⟨A,hA⟩:∃A,A=aG bD [(gl:Int),(gr:Int)]:=⟨_,rfl⟩;have p1:=dL C0 [C3] (hC _) (by simpa using hC3 _) [] bD true [(gl:Int),(gr:Int)] (by simp) (by decide) (by simp) (by simpa using⟨iP r10,iP r11⟩)
 have p2:=fun ls hls fl (x:Cst) (hx:∀n∈stN x,inI n) (hxl:x.f.length≤100000) (X:B) (hX:∀n,rbB n X) (R:List B) (hR:∀n,∀bl∈R,rbB n bl)=>dL C0 (C3::X::R) (hC _) (by
  intro bl hbl
  rcases List.mem_cons.1 hbl with rfl | hbl
  ·exact hC3 _
  rcases List.mem_cons.1 hbl with rfl | hbl
  ·exact hX _
  ·exact hR _ _ hbl) ls bB fl (stN x) hls (by decide) (by simp[stN];omega) hx
 have p4:=fun ls hls=>dU (dL C0 [C3] (hC _) (by simpa using hC3 _) ls aT false [] hls (by decide) (by simp) (by simp)) (args:=[.ptr 1 0,.str (bs aT),.nilS]) rfl fc
 rw[←hA]at p1 ⊢;subst hC3e;simp only[kj,lD,aD,wrH,kq,kX,aI,aZ,aJ]at p1 p2 p4;refine aB tok Tryz.func34 rfl rfl ?_;refine wx ?_;simp -dsimp[Tryz.f34,kQ,aU,aI,aZ,aJ,wrH,wrapN gl (by omega),wrapN gr (by omega)];refine wcE p1 ?_;simp -dsimp[];refine aS (W_loopM 167 0x7fffffff0000000000000000000000000000160000 (by simp[mB]<;>rfl) (σ:=Nat) (fun i=>i≤steps.length) (fun i=>steps.length-i) (fun i=>[(136,.int .i64 i)]) (fun i=>wrH C0 (A::(steps.map fun s=>aG bB (stN s)).take i) [B.cells (aI ⟨4,del,w,prf,cells,t,cores,upr,sets,prs,steps,⟨gl,gr⟩⟩)]) 0 (by omega) (by simp) (by simp[wrH,aI,aZ,aJ]) (by simp[wrH]) ?_);intro i hi N Q hN hQ;by_cases hb:i<steps.length
 ·have hnx:=bd steps (fun s=>aG bB (stN s)) hb;have hin:=r9 _ (kW hb);have hfl:=hl8 _ (kW hb);obtain⟨x,hx⟩:∃x,x=steps[i]:=⟨_,rfl⟩;have hx':=hx.symm;rw[hx']at hnx hin hfl;obtain⟨q1,q2,q3,q4⟩:=hin
  have hsn:∀n∈stN x,inI n:=by
   intro n hn;simp[stN]at hn
   rcases hn with rfl | rfl | rfl | hn
   ·exact q1
   ·exact iP q3
   ·exact iP q4
   ·exact q2 n hn
  have hsl:(stN x).length=x.f.length+3:=by simp[stN]
  have hlt:((steps.map fun s=>aG bB (stN s)).take i).length≤1000000:=by rw[kg];omega
  obtain⟨O,hO⟩:∃O,O=A::(steps.map fun s=>aG bB (stN s)).take i:=⟨_,rfl⟩
  have hOl:O.length≤100000000:=by rw[hO,kZ];omega
  have hO2:A::(steps.map fun s=>aG bB (stN s)).take (i+1)=O++[aG bB (stN x)]:=by rw[hnx,hO];rfl
  rw[←hO]
  have c2:=fun fl R hR=>p2 O hOl fl x hsn hfl (B.cells [.int .i64 x.r,.lst 1 false (x.f.map aD),.int .u32 (x.d.l:Int),.int .u32 (x.d.r:Int)]) (fun n=>by simp[aD]) R hR
  simp only[wrH,aI,aZ,aJ];refine wx ?_;simp -dsimp[hb,hx',aL,wrapN x.d.l (by omega),wrapN x.d.r (by omega)];refine aS (W_loopM 163 0x7fc00000000000000000000000000000000140000 (by simp[mB]<;>rfl) (σ:=Nat) (fun j=>j≤x.f.length) (fun j=>x.f.length-j) (fun j=>[(154,.int .i64 j),(18,nbW x j)]) (fun j=>[C0,B.cells [.buf 2 0 O.length O.length],B.buf 9 1 (O.map fun p=>.str (bs p)) false,B.cells (aI ⟨4,del,w,prf,cells,t,cores,upr,sets,prs,steps,⟨gl,gr⟩⟩),B.cells [.int .i64 x.r,.lst 1 false (x.f.map aD),.int .u32 (x.d.l:Int),.int .u32 (x.d.r:Int)]]++nbH x j) 0 (by omega) (by simp[nbW]) (by simp[aI,aZ,aJ,nbH]) (by simp) ?_);intro j hj N2 Q2 hN2 hQ2;have hjl:=stN_len x j hj;by_cases hjb:j<x.f.length
  ·have hsn2:=stN_snoc x hjb;obtain⟨z,hz⟩:∃z,z=x.f[j]:=⟨_,rfl⟩;have hz':=hz.symm;rw[hz']at hsn2;have nV:=nbW_p x (j:=j+1) (by omega);have nH:=nbH_p x (j:=j+1) (by omega);rw[hsn2]at nH
   rcases Nat.eq_zero_or_pos j with h0 | h0
   ·subst h0;rw[nbW_0,nbH_0];refine wx ?_;simp -dsimp[aI,hjb,hz',aD,aZ,aJ,(show IntKind.i64.wrap 1=1 from aa (by decide) (by decide))];refine hN2 1 _ _ (by omega) (by omega) ?_ ⟨[],?_⟩ ?_ ?_
    ·simp[nV]
    ·simp[nH,stN,aD,aI,aZ,aJ]
    ·simp[nV,nH]
    ·intro bl hbl;simp only[mC,mE,List.not_mem_nil,or_false]at hbl
     rcases hbl with(rfl | rfl | rfl | rfl | rfl) | hbl
     ·exact hC _
     ·simp
     ·simp
     ·exact hC3 _
     ·simp[aD]
     ·exact nbH_rb x _ _ _ hbl
   ·rw[nbW_p x h0,nbH_p x h0];refine wx ?_;simp -dsimp[aI,hjb,hz',aD,aZ,aJ,hjl,aO j (by omega),(show j≤9223372036854775803 by omega),(show j+3≤9223372036854775806∧(j+3+1)*8≤140737488355328 by omega)];refine hN2 (j+1) _ _ (by omega) (by omega) ?_ ⟨[],?_⟩ ?_ ?_
    ·simp[nV]
    ·simp[nH,aD,aI,aZ,aJ]
    ·simp[nV,nH]
    ·intro bl hbl;simp only[mC,mE,List.not_mem_nil,or_false]at hbl
     rcases hbl with(rfl | rfl | rfl | rfl | rfl) | hbl
     ·exact hC _
     ·simp
     ·simp
     ·exact hC3 _
     ·simp[aD]
     ·exact nbH_rb x _ _ _ hbl
  ·have ej:x.f.take j=x.f:=kV (by omega)
   have hje:j=x.f.length:=by omega
   have es:(⟨x.r,x.f,x.d⟩:Cst)=x:=rfl
   rcases Nat.eq_zero_or_pos j with h0 | h0
   ·subst h0;have hf:x.f=[]:=List.length_eq_zero_iff.1 hje.symm
    have hst:stN x=[x.r,(x.d.l:Int),(x.d.r:Int)]:=by simp[stN,hf]
    have c3:=c2 true [] (by simp);rw[hst]at c3 hO2;simp only[kj,lD,aD]at c3;rw[nbW_0,nbH_0];refine wx ?_;simp -dsimp[aI,hjb,aZ,aJ];refine hQ2 _ _ _ ?_;simp -dsimp[];refine wcE c3 ?_;simp -dsimp[aO i (by omega)];refine hN (i+1) _ _ (by omega) (by omega) ?_ ⟨[B.cells [.int .i64 x.r,.lst 1 false (x.f.map aD),.int .u32 (x.d.l:Int),.int .u32 (x.d.r:Int)]],?_⟩ ?_ ?_
    ·simp
    ·rw[hO2];simp[wrH,aI,aZ,aJ]
    ·simp[cN]
    ·exact dF (hC _) (by simpa using hC3 _) _
   ·rw[nbW_p x h0,nbH_p x h0,ej,es];have c3:=c2 false [B.buf 2 1 ((stN x).map aD) true] (fun n bl hbl=>by rw[List.mem_singleton.1 hbl];simp[aD]);refine wx ?_;simp -dsimp[aI,hjb,aZ,aJ];refine hQ2 _ _ _ ?_;simp -dsimp[];refine(callHF 5 (args':=[.ptr 1 0,.str (bs bB),.lst 1 false ((stN x).map aD)]) (e:=2) (z:=1) (xs:=(stN x).map aD) (fz:=false) rfl c3 (by simp[hsl,hje];rfl)).mono ?_;rintro r H' ⟨rfl,rfl⟩;simp -dsimp[aO i (by omega)];refine hN (i+1) _ _ (by omega) (by omega) ?_ ⟨[B.cells [.int .i64 x.r,.lst 1 false (x.f.map aD),.int .u32 (x.d.l:Int),.int .u32 (x.d.r:Int)],B.buf 2 1 ((stN x).map aD) true],?_⟩ ?_ ?_
    ·simp
    ·rw[hO2];simp[wrH,aI,aZ,aJ]
    ·simp[cN]
    ·exact dF (hC _) (by simpa using hC3 _) _
 ·have e:(steps.map fun s=>aG bB (stN s)).take i=steps.map fun s=>aG bB (stN s):=kV (by simp;omega)
  rw[e]
  obtain⟨O,hO⟩:∃O,O=A::steps.map fun s=>aG bB (stN s):=⟨_,rfl⟩
  have hOl:O.length≤100000000:=by rw[hO,kZ,lG];omega
  rw[←hO];simp only[wrH,aI,aZ,aJ];refine wx ?_;simp -dsimp[hb];refine hQ _ _ _ ?_;simp -dsimp[];have c4:=p4 O hOl;simp only[kT,lC]at c4;refine wcE c4 ?_;simp -dsimp[];rw[show A::((steps.map fun s=>aG bB (stN s))++[aT])=O++[aT] by rw[hO];rfl];exact⟨[B.cells (aI ⟨4,del,w,prf,cells,t,cores,upr,sets,prs,steps,⟨gl,gr⟩⟩)],by simp[wrH,fb,lR,aI,aZ,aJ]⟩
theorem conH_ownC{P:Program}{f:FuncId}{args:List V}{K:V→List B→Prop}(e z:Nat)(k0:Nat)(sc:List Nat){H:List B}{cs:List V}(hk:H[k0]?=some (.cells cs))(hc:kL H.length cs (bq H.length sc 0 cs))
  (h:aq P f args (H.set k0 (.cells (bq H.length sc 0 cs))++[.buf e z [] false]) K):aq P f args H K:=by
 refine⟨h.1,fun s vals hA hg hsz hrel=>?_⟩;obtain⟨rfl,hZ⟩:=hA;obtain⟨p1,p2⟩:=push0 hg 0 e z false rfl rfl rfl (kY _) (fun _ _=>rfl);have hlc:=hc.len;generalize hs1:s.push s.w 0 0 (.buf e z [] false)=s1 at p1 p2
 have hk1:s1.H[k0]?=some (.cells cs):=by rw[←hs1];simp only[St.push];rw[kU (AM.getElem?_lt hk)];exact hk
 have hr1:∀x y u,Rel s x u→(y=x∨(x = .nilS∧y = .buf s.H.length 0 0 0))→Rel s1 y u:=fun x y u h1 h2=>by subst hs1;exact rel_own p2 h1 h2
 have hw1:s1.w=s.w:=by rw[←hs1];rfl
 have hst:=bt (w:=s1.w) (bl':=.cells (bq s.H.length sc 0 cs)) p1 hk1 (lvC hk1) trivial rfl rfl rfl (kY _) (fun _ _ _=>rfl)
 have hgd:AM.Good (s1.setB s1.w k0 (.cells (bq s.H.length sc 0 cs))):=by
  refine cI p1 hk1 (lvC hk1) trivial rfl rfl rfl (kY _) (fun _ _ _=>rfl) (fun hst=>?_);obtain⟨h1,vs,t,h2,h3,h4⟩:=hg.blk k0 _ hk
  have hφ:s1.φ k0=s.φ k0:=by rw[←hs1];exact bx _ _ (by have:=AM.getElem?_lt hk;omega)
  refine⟨fun d hd=>?_,vs,t,by show s1.w.heap[s1.φ k0]?=_;rw[hw1,hφ];exact h2,by omega,fun i d u hd hu=>?_⟩
  ·obtain⟨i,hi⟩:=List.mem_iff_getElem?.1 hd;have hx:cs[i]?=some (cs[i]'(by have:=AM.getElem?_lt hi;omega)):=kR _
   rcases hc.at_ i _ d hx hi with h9 | ⟨_,h9⟩
   ·rw[h9];exact h1 _ (kW _)
   ·rw[h9];rfl
  ·have hx:cs[i]?=some (cs[i]'(by have:=AM.getElem?_lt hd;omega)):=kR _;exact(hr1 _ d u (h4 i _ u hx hu) (hc.at_ i _ d hx hd)).step hst
 have hH:(s1.setB s1.w k0 (.cells (bq s.H.length sc 0 cs))).H=s.H.set k0 (.cells (bq s.H.length sc 0 cs))++[.buf e z [] false]:=by
  rw[←hs1];simp only[St.setB,St.push];rw[List.set_append,if_pos (AM.getElem?_lt hk)]
 have:=h.2 (s1.setB s1.w k0 (.cells (bq s.H.length sc 0 cs))) vals ⟨hH,(hZ.step p2).step hst⟩ hgd hsz (fun i a u ha hu=>(hr1 a a u (hrel i a u ha hu) (.inl rfl)).step hst);have e1:(s1.setB s1.w k0 (.cells (bq s.H.length sc 0 cs))).w=s.w:=hw1;rw[e1]at this
 exact this.mono fun e' w' ⟨u,s',r,a1,a2,a3,a4,a5,a6⟩=>⟨u,s',r,a1,a2,a3,(p2.trans hst).trans a4,a5,a6⟩
theorem write_0(c:Cert)(hk:¬(1≤c.k∧c.k≤4)):aq Tryz.prog 34 [.ptr 1 0,aU c] (wrH (B.cells (aI c)) [] []) fun r H'=>r = .bool (okC c)∧∃G,H'=wrH (B.cells (aI c)) (wrL c) []++G:=by
 have e1:wrL c=[]:=by unfold wrL;rw[if_neg hk]
 have e2:okC c=false:=by unfold okC;rw[decide_eq_false hk];rfl
 rw[e1,e2];refine aB tok Tryz.func34 rfl rfl ?_;refine wx ?_;simp -dsimp[Tryz.f34,kQ,aU,aI,aZ,aJ,wrH,(show ¬c.k=1 by omega),(show ¬c.k=2 by omega),(show ¬c.k=3 by omega),(show ¬c.k=4 by omega)]
theorem write_c(c:Cert)(h:SzC c):aq Tryz.prog 34 [.ptr 1 0,aU c] (wrH (B.cells (aI c)) [] []) fun r H'=>r = .bool (okC c)∧H'=wrH (B.cells (aI c)) (wrL c) []:=by
 refine cut1 ?_ (by simp[cN]) (by simp) (dF (cn c _) (by simp) _);by_cases h1:c.k=1
 ·exact write_1 c h1 h
 by_cases h2:c.k=2
 ·exact write_2 c h2 h
 by_cases h3:c.k=3
 ·exact write_3 c h3 h
 by_cases h4:c.k=4
 ·exact write_4 c h4 h
 exact write_0 c (by omega)
theorem lnT_ge:∀(ls:List (List UInt8)),ls.length≤(lnT ls).length
 | []=>mH _
 | x::l=>by
  have:=lnT_ge l;rw[dZ];simp;omega
theorem jt(c:Cert)(h:SzC c):ab Tryz.prog 12 [aU c] fun r=>r = .tup [.str (bs (dv c)),.int .i64 (ft c)]:=by
 have hw:=write_c c h;have hw2:=conH_ownC (H:=[B.cells (aI c),B.cells [.nilS]]) (cs:=[.nilS]) 9 1 1 [0] rfl (by simp) hw;simp only[aI,aZ,aJ,aU]at hw2;by_cases ho:okC c=true
 ·rw[ho]at hw2;have hx:=txtC_ok ho;have hl:=txtC_len h;rw[hx]at hl;have hlen:=lnT_ge (ak c);have hj:=join_k false (ak c) (by omega) (by omega);have hJ:=jm (ak c) (by simp[ak]);obtain⟨J,hJe⟩:∃J,J=[10].intercalate (ak c):=⟨_,rfl⟩;rw[←hJe]at hj hJ
  have hJl:J.length+1≤3000000000:=by
   have:=congrArg List.length hJ;rw[kT]at this;simp at this;omega
  rw[wrL_ok ho]at hw2;refine sPx Tryz.func12 rfl rfl ?_;simp -dsimp[Tryz.f12,kQ,aU,aI,aZ,aJ];refine wcE hw2 ?_;simp -dsimp[wrH];refine(callF 2 (xs:=(ak c).map fun p=>.str (bs p)) (e:=9) (z:=1) (fz:=false) rfl hj (by simp;rfl) (by simp)).mono ?_;rintro r H' ⟨rfl,rfl⟩;by_cases hz:(lnT (ak c)).length≤65536
  ·have e1:ft c=0:=by unfold ft;rw[if_pos ho,if_pos hz]
   have e2:dv c=lnT (ak c):=by unfold dv;rw[if_pos e1]
   rw[e1,e2,←hJ];rw[←hJ]at hz;simp at hz;simp -dsimp[aC,aM,kF,(show J.length+1≤9223372036854775807 by omega),(show ¬(65536:Int)<(J.length:Int)+1 by omega),(show J.length≤9223372036854775806 by omega)]
  ·have e1:ft c=3:=by unfold ft;rw[if_pos ho,if_neg hz]
   have e2:dv c=[]:=by unfold dv;rw[if_neg (by rw[e1];decide)]
   rw[e1,e2];rw[←hJ]at hz;simp at hz;simp -dsimp[aC,aM,kF,(show J.length+1≤9223372036854775807 by omega),(show(65536:Int)<(J.length:Int)+1 by omega),(show J.length≤9223372036854775806 by omega)]
 ·have e1:ft c=1:=by unfold ft;rw[if_neg ho]
  have e2:dv c=[]:=by unfold dv;rw[if_neg (by rw[e1];decide)]
  rw[Bool.not_eq_true]at ho;rw[ho]at hw2;rw[e1,e2];refine sPx Tryz.func12 rfl rfl ?_;simp -dsimp[Tryz.f12,kQ,aU,aI,aZ,aJ];refine wcE hw2 ?_;simp -dsimp[wrH,aC]
theorem fmtT_len(c:Cert):(dv c).length≤65536:=by
 unfold dv;split
 ·rename_i h;unfold ft at h;split at h
  ·split at h
   ·assumption
   ·cases h
  ·cases h
 ·simp
end
end Go.Proofs.YtdhgchekdkjcpaaGreatDoor
