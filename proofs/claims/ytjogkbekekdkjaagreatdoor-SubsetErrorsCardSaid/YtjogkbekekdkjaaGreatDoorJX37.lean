/- JX37: own texts of this seat, joined and shortened by pack4.py: SC6, SC3. -/
import Derived.Test.YtjogkbekekdkjaaGreatDoorJX33
set_option linter.unusedVariables false
set_option linter.unusedSimpArgs false
set_option maxRecDepth 100000
set_option maxHeartbeats 64000000
open Bool renaming eq_iff_iff→sb,not_eq_true→sg
open List renaming replicate→rO,drop_eq_getElem_cons→rP,getElem_mem→rQ,drop_of_length_le→rR,not_mem_nil→rS,getElem?_eq_getElem→rT,mem_cons→rU,take_succ_eq_append_getElem→rV,range→rh,drop_zero→rk,take_of_length_le→rt,nil_append→rx,mem_singleton→sC,mem_of_mem_take→sD,take_length→sJ,cons_append→sP,all_cons→sZ,contains_iff_mem→tP,length_take→tR,map_take→tj,map_map→vE
open Nat renaming pow_le_pow_right→sd
namespace Go.Proofs.YtjogkbekekdkjaaGreatDoor
section
open Go Go.AM
theorem meetsE_any(e l:List Nat):dW e l=e.any fun v=>decide (v∈l):=by
 unfold dW
 refine List.any_congr rfl fun v=>?_
 rw[sb,tP,decide_eq_true_iff]
theorem hs_rb(n:Nat)(f g:Bool)(ws:List Int)(es:List (List Nat)):rbB n (B.cells [.lst 1 f (ws.map aE),.lst 1 g (es.map (Ln false))]):=fun c hc=>by
 simp only[rU,rS,or_false]at hc
 rcases hc with rfl | rfl<;>simp[rb]
theorem hits_h(ws:List Int)(es:List (List Nat))(l:List Nat)(f g fl:Bool)(hes:es.length≤1000000)(he:∀e∈es,e.length≤1000000)(hl:l.length≤1000000):aL Tryz.prog 55 [aR f g ws es,Ln fl l] fun r=>r = .bool (gl es l):=by
 have hrb:∀bl∈[B.cells [.lst 1 f (ws.map aE),.lst 1 g (es.map (Ln false))],B.cells [Ln fl l]],rbB 2 bl:=fun bl hbl=>by
  simp only[rU,rS,or_false]at hbl
  rcases hbl with rfl | rfl
  ·exact hs_rb _ _ _ _ _
  ·intro c hc;simp only[rU,rS,or_false]at hc;subst hc;simp[Ln,rb]
 have hin:∀a:Nat,aQ Tryz.prog (.fn 101 [.ptr 1 0]) [.int .i64 (a:Int)] [B.cells [.lst 1 f (ws.map aE),.lst 1 g (es.map (Ln false))],B.cells [Ln fl l]] fun r H'=>r = .bool (decide (a∈l))∧H'=[B.cells [.lst 1 f (ws.map aE),.lst 1 g (es.map (Ln false))],B.cells [Ln fl l]]:=fun a=>by
  have hc:=qa l a fl hl;simp only[aQ,sP,rx];refine aF tok Tryz.func101 rfl rfl ?_;refine wx ?_;simp -dsimp[Tryz.f101,rO];refine cPx hc (by simp[Ln_pure]) ?_;simp -dsimp[]
 have hmid:∀m∈es,aQ Tryz.prog (.fn 99 [.ptr 1 0]) [Ln false m] [B.cells [.lst 1 f (ws.map aE),.lst 1 g (es.map (Ln false))],B.cells [Ln fl l]] fun r H'=>r = .bool (!(m.any fun a=>decide (a∈l)))∧H'=[B.cells [.lst 1 f (ws.map aE),.lst 1 g (es.map (Ln false))],B.cells [Ln fl l]]:=fun m hm=>by
  have hcf:=contFuncN [B.cells [.lst 1 f (ws.map aE),.lst 1 g (es.map (Ln false))],B.cells [Ln fl l]] (.fn 101 [.ptr 1 0]) (fun a=>decide (a∈l)) m false (he m hm) hrb (by simp[rb,rb1]) (fun a _=>hin a);simp only[aQ,sP,rx];refine aF tok Tryz.func99 rfl rfl ?_;refine wx ?_;simp -dsimp[Tryz.f99,rO];refine bD hcf ?_;rintro _ _ ⟨rfl,rfl⟩;simp -dsimp[]
 have hcf:=contFuncL [B.cells [.lst 1 f (ws.map aE),.lst 1 g (es.map (Ln false))],B.cells [Ln fl l]] (.fn 99 [.ptr 1 0]) (fun m=>!(m.any fun a=>decide (a∈l))) es g hes hrb (by simp[rb,rb1]) hmid
 have hEq:gl es l = !(es.any fun m=>!(m.any fun a=>decide (a∈l))):=by
  unfold gl;rw[List.all_eq_not_any_not];congr 1
  refine List.any_congr rfl fun m=>?_
  rw[meetsE_any]
 rw[hEq];simp only[LLn]at hcf;refine sPx Tryz.func55 rfl rfl ?_;simp -dsimp[Tryz.f55,rO,aR,L1,LLn];refine bD hcf ?_;rintro _ _ ⟨rfl,rfl⟩;simp -dsimp[]
def oB(es:List (List Nat))(l:List Nat)(i:Nat):Bool:=if h:i<es.length then(if dW es[i] l=true then oB es l (i+1) else false) else true
termination_by es.length-i
theorem hitNf_drop(es:List (List Nat))(l:List Nat)(i:Nat):oB es l i=(es.drop i).all fun e=>dW e l:=by
 fun_induction oB es l i with
 | case1 i h h0 ih=>rw[rP h,sZ,h0,ih];rfl
 | case2 i h h0=>rw[rP h,sZ];simp[h0]
 | case3 i h=>rw[rR (by omega)];rfl
theorem hits39(ws:List Int)(es:List (List Nat))(l:List Nat)(f g fl:Bool)(hes:es.length≤1000000)(he:∀e∈es,e.length≤1000000)(hl:l.length≤1000000):aL Tryz.prog 51 [aR f g ws es,Ln fl l] fun r=>r = .bool (gl es l):=by
 have hE:gl es l=oB es l 0:=by rw[hitNf_drop,rk];rfl
 rw[hE];obtain⟨X,hX⟩:∃X,X=oB es l 0:=⟨_,rfl⟩;rw[←hX];refine sPx Tryz.func51 rfl rfl ?_;simp -dsimp[Tryz.f51,rO,aR,L1,LLn,Ln];refine aG (W_loopM 21 0x1ffff0 (by simp[mB]<;>rfl) (σ:=Nat) (fun i=>oB es l i=X) (fun i=>es.length-i) (fun i=>[(5,.int .i64 i)]) (fun _=>[B.cells [.lst 1 f (ws.map aE),.lst 1 g (es.map (Ln false))]]) 0 hX.symm (by simp) (by simp) (by simp) ?_);intro i hx N Q hN hQ
 have hrb:∀bl∈[B.cells [.lst 1 f (ws.map aE),.lst 1 g (es.map (Ln false))]],rbB 1 bl:=fun bl hbl=>by
  simp only[rU,rS,or_false]at hbl;subst hbl;exact hs_rb _ _ _ _ _
 by_cases hb:i<es.length
 ·rw[oB,dif_pos hb]at hx;have hc:=meets39 es[i] l false fl (he _ (rQ hb)) hl;obtain⟨e,hee⟩:∃e,e=es[i]:=⟨_,rfl⟩;rw[←hee]at hx hc;simp only[Ln]at hc
  cases hm:dW e l with
  | true =>
   rw[hm]at hc hx;rw[if_pos rfl]at hx;refine wx ?_;simp -dsimp[hb,hee.symm,Ln];refine cPx hc (by simp[eN]) ?_;simp -dsimp[aH i (by omega)];refine hN (i+1) _ _ hx (by omega) (by simp) ⟨[],by simp⟩ (by simp) hrb
  | false =>
   rw[hm]at hc hx;rw[if_neg (by simp)]at hx;subst hx;refine wx ?_;simp -dsimp[hb,hee.symm,Ln];refine cPx hc (by simp[eN]) ?_;simp -dsimp[];refine hQ _ _ _ ?_;simp -dsimp[]
 ·rw[oB,dif_neg hb]at hx;subst hx;refine wx ?_;simp -dsimp[hb];refine hQ _ _ _ ?_;simp -dsimp[]
theorem subset39(b n:Nat)(hn:n≤9)(hb:b<512):aL Tryz.prog 58 [.int .i64 (b:Int),.int .i64 (n:Int)] fun r=>r=Ln false (cV b n):=by
 refine sPx Tryz.func58 rfl rfl ?_;simp -dsimp[Tryz.f58,rO];refine aG (bf 3 1 [5] (by simp) (W_loopM 21 0x1fffe0 (by simp[mB]<;>rfl) (σ:=Nat) (fun i=>i≤n) (fun i=>n-i) (fun i=>[(6,.int .i64 i),(5,.buf 0 0 (cV b i).length (cV b i).length)]) (fun i=>[B.buf 3 1 ((cV b i).map eN) false]) 0 (by omega) (by simp[cV]) (by simp[cV]) (by simp) ?_));intro i hi N Q hN hQ;have hl:=selN_len b i
 have hrb:∀l:List Nat,∀bl∈[B.buf 3 1 (l.map eN) false],rbB 1 bl:=fun l bl hbl=>by
  simp only[rU,rS,or_false]at hbl;subst hbl;exact nM _ _ _ _
 by_cases hib:i<n
 ·cases hj:hasJ (b:Int) i with
  | true =>
   have hs:=selN_yes hj;obtain⟨l,hle⟩:∃l,l=cV b i:=⟨_,rfl⟩;rw[←hle]at hs hl ⊢;refine wx ?_;simp -dsimp[hib,hasJ_def,hj,go l.length (by omega),ai l.length (by omega),aH i (by omega)];refine hN (i+1) _ _ (by omega) (by omega) (by simp[hs]) ⟨[],by simp[hs,eN]⟩ (by simp) (hrb _)
  | false =>
   have hs:=selN_no hj;obtain⟨l,hle⟩:∃l,l=cV b i:=⟨_,rfl⟩;rw[←hle]at hs hl ⊢;refine wx ?_;simp -dsimp[hib,hasJ_def,hj,aH i (by omega)];refine hN (i+1) _ _ (by omega) (by omega) (by simp[hs]) ⟨[],by simp[hs,eN]⟩ (by simp) (hrb _)
 ·obtain rfl:i=n:=by omega
  refine wx ?_;simp -dsimp[hib];refine hQ _ _ _ ?_;simp -dsimp[];exact dP rfl (by simp) (by simp[eN])
theorem weight39{ws:List Int}{es:List (List Nat)}(hb:HsB ws es)(f g fl:Bool)(l:List Nat)(hs:l.Pairwise (· < ·))(hn:∀v∈l,v<ws.length):aL Tryz.prog 52 [aR f g ws es,Ln fl l] fun r=>r = .tup [.int .i64 (wl ws l),.int .i64 0]:=by
 have hel:∀e∈es,e.length≤1000000:=fun e he=>by have:=hb.ed.len e he;have:=hb.n;omega
 have cv:=pH ws es f g hel;rw[cS.2 hb]at cv;have hn2:=hb.n
 have hll:l.length≤200:=by
  have hnd:l.Nodup:=hs.imp (fun h=>by omega);have:=hnd.length_le_of_subset (l₂:=rh ws.length) (fun v hv=>List.mem_range.2 (hn v hv));simp at this;omega
 simp only[aR,L1,LLn]at cv;refine sPx Tryz.func52 rfl rfl ?_;simp -dsimp[Tryz.f52,rO,aR,L1,LLn,Ln];refine cPx (cv) (by simp) ?_;simp -dsimp[L1,LLn,Ln];refine aG (W_loopM 55 0x7fffffffffc1b0 (by simp[mB]<;>rfl) (σ:=Nat) (fun i=>i≤l.length) (fun i=>l.length-i) (fun i=>[(8,.int .i64 i),(7,.int .i64 (wl ws (l.take i)))]) (fun _=>[B.cells [.lst 1 f (ws.map aE),.lst 1 g (es.map (Ln false))]]) 0 (by omega) (by simp[wl]) (by simp) (by simp) ?_);intro i hi N Q hN hQ;by_cases hbi:i<l.length
 ·have hvn:=hn l[i] (rQ hbi);have hnd:l.Nodup:=hs.imp (fun h=>by omega);have hnt:=(mI hnd hbi).1
  have htk:wl ws (l.take (i+1))=wl ws (l.take i)+ws.getD l[i] 0:=by rw[rV hbi,kF];simp[wl]
  have hb1:=wl_le hb.w (l.take i) (fun v hv=>hn v (sD hv))
  have hlt:(l.take i).length≤200:=by rw[tR];omega
  obtain⟨v,hv⟩:∃v,v=l[i]:=⟨_,rfl⟩;rw[←hv]at hvn hnt htk;have hv':=hv.symm
  have hc:=fun fl=>qE (l.take i) v fl (by omega)
  rw[show(l.take i).contains v=false from by rw[←sg,tP];exact hnt]at hc;simp only[Ln,tj]at hc;have hwl:=(am ws 0 hvn).symm;have hwb:=hb.w v hvn;obtain⟨w,hw⟩:∃w,w=ws.getD v 0:=⟨_,rfl⟩;rw[←hw]at hwl hwb htk;obtain⟨s,hs0⟩:∃s,s=wl ws (l.take i):=⟨_,rfl⟩;rw[←hs0]at htk hb1;have hw1:IntKind.i64.wrap (s+w)=s+w:=wrap64 (by omega) (by omega);rw[←hs0];refine wx ?_;simp -dsimp[hbi,hv',eN,hvn,show ¬(v:Int)<0 by omega,show ¬(ws.length:Int)≤v by omega,show ¬ws.length≤v by omega,show i≤l.length by omega,L1,LLn,Ln];refine .inr ⟨aC (by kernel_rfl),?_⟩;refine aN _ (aK (hc _) (by simp;intro x hx;obtain⟨y,_,rfl⟩:=List.mem_map.1 (sD hx);exact eN_pure y)) ?_;simp -dsimp[hbi,hv',eN,hvn,hwl,aE,hw1,L1,LLn,Ln];refine .inr ⟨aC (by kernel_rfl),?_⟩;simp -dsimp[aH i (by omega),L1,LLn,Ln];refine hN (i+1) _ _ (by omega) (by omega) (by simp[htk]) ⟨[],rfl⟩ (by simp) (by simp)
 ·obtain rfl:i=l.length:=by omega
  rw[sJ];refine wx ?_;simp -dsimp[hbi,L1,LLn,Ln];refine hQ _ _ _ ?_;simp -dsimp[L1,LLn,Ln]
theorem least39{ws:List Int}{es:List (List Nat)}(hb:HsB ws es)(hn:ws.length≤9)(f g:Bool):aL Tryz.prog 22 [aR f g ws es] fun r=>r = .int .i64 (lsN ws es (2^ws.length)):=by
 obtain⟨n,hnn⟩:∃n,n=ws.length:=⟨_,rfl⟩;have hnn2:=hnn.symm;rw[←hnn]at hn ⊢
 have hp9:2^n≤512:=by have:=sd (n:=2) (by omega) hn;simpa using this
 have hcast:(2:Int)^n=((2^n:Nat):Int):=by push_cast;rfl
 have hsh:IntKind.i64.wrap (2^min n IntKind.i64.bits)=((2^n:Nat):Int):=by
  rw[show min n IntKind.i64.bits=n by simp[IntKind.bits];omega,hcast];exact ai _ (by omega)
 obtain⟨M,hM⟩:∃M,M=2^n:=⟨_,rfl⟩;rw[←hM]at hsh hp9 ⊢
 have hel:∀e∈es,e.length≤1000000:=fun e he=>by have:=hb.ed.len e he;have:=hb.n;omega
 have hne:=hb.ne
 have hrb:∀bl∈[B.cells [.lst 1 f (ws.map aE),.lst 1 g (es.map (Ln false))]],rbB 1 bl:=fun bl hbl=>by
  simp only[rU,rS,or_false]at hbl;subst hbl;exact hs_rb _ _ _ _ _
 refine sPx Tryz.func22 rfl rfl ?_;simp -dsimp[Tryz.f22,rO,aR,L1,LLn];refine aG (W_loopM 40 0xfffffffff8 (by simp[mB]<;>rfl) (σ:=Nat) (fun b=>b≤M) (fun b=>M-b) (fun b=>[(4,.int .i64 b),(3,.int .i64 (lsN ws es b))]) (fun _=>[B.cells [.lst 1 f (ws.map aE),.lst 1 g (es.map (Ln false))]]) 0 (by omega) (by simp[lsN]) (by simp) (by simp) ?_);intro b hbM N Q hN hQ;by_cases hlt:b<M
 ·have c1:=subset39 b n hn (by omega);have hsl:=selN_len b n;have c2:=weight39 hb f g false (cV b n) (selN_asc _ _) (fun v hv=>by rw[←hnn];exact selN_lt hv);have c3:=hits39 ws es (cV b n) f g false (by omega) hel (by omega)
  have hs:lsN ws es (b+1)=if gl es (cV b n)=true∧(lsN ws es b<0∨wl ws (cV b n)<lsN ws es b) then wl ws (cV b n) else lsN ws es b:=by rw[lsN,←hnn]
  obtain⟨L,hL⟩:∃L,L=cV b n:=⟨_,rfl⟩;rw[←hL]at c1 c2 c3 hs hsl;obtain⟨w,hw⟩:∃w,w=wl ws L:=⟨_,rfl⟩;obtain⟨q,hq⟩:∃q,q=gl es L:=⟨_,rfl⟩;obtain⟨o,ho⟩:∃o,o=lsN ws es b:=⟨_,rfl⟩;rw[←hw]at c2 hs;rw[←hq]at c3 hs;rw[←ho]at hs ⊢;simp only[aR,L1,LLn,Ln]at c1 c2 c3
  have hpu:∀x∈L.map eN,AM.Pure x:=by simp[eN]
  cases q with
  | false =>
   rw[if_neg (by simp)]at hs;refine wx ?_;simp -dsimp[hnn2,hsh,show(b:Int)<M by omega,hlt];refine cPx (c1) (by simp) ?_;simp -dsimp[];refine cPx c2 (by simp[eN]) ?_;simp -dsimp[];refine cPx c3 (by simp[eN]) ?_;simp -dsimp[aH b (by omega)];refine hN (b+1) _ _ (by omega) (by omega) (by simp[hs]) ⟨[],rfl⟩ (by simp) hrb
  | true =>
   by_cases h1:o<0
   ·rw[if_pos ⟨rfl,.inl h1⟩]at hs;refine wx ?_;simp -dsimp[hnn2,hsh,show(b:Int)<M by omega,hlt];refine cPx (c1) (by simp) ?_;simp -dsimp[];refine cPx c2 (by simp[eN]) ?_;simp -dsimp[];refine cPx c3 (by simp[eN]) ?_;simp -dsimp[h1,aH b (by omega)];refine hN (b+1) _ _ (by omega) (by omega) (by simp[hs]) ⟨[],rfl⟩ (by simp) hrb
   ·by_cases h2:w<o
    ·rw[if_pos ⟨rfl,.inr h2⟩]at hs;refine wx ?_;simp -dsimp[hnn2,hsh,show(b:Int)<M by omega,hlt];refine cPx (c1) (by simp) ?_;simp -dsimp[];refine cPx c2 (by simp[eN]) ?_;simp -dsimp[];refine cPx c3 (by simp[eN]) ?_;simp -dsimp[h1,h2,aH b (by omega)];refine hN (b+1) _ _ (by omega) (by omega) (by simp[hs]) ⟨[],rfl⟩ (by simp) hrb
    ·rw[if_neg (fun hh=>hh.2.elim h1 h2)]at hs;refine wx ?_;simp -dsimp[hnn2,hsh,show(b:Int)<M by omega,hlt];refine cPx (c1) (by simp) ?_;simp -dsimp[];refine cPx c2 (by simp[eN]) ?_;simp -dsimp[];refine cPx c3 (by simp[eN]) ?_;simp -dsimp[h1,h2,aH b (by omega)];refine hN (b+1) _ _ (by omega) (by omega) (by simp[hs]) ⟨[],rfl⟩ (by simp) hrb
 ·obtain rfl:M=b:=by omega
  refine wx ?_;simp -dsimp[hnn2,hsh,show ¬(M:Int)<M by omega];refine hQ _ _ _ ?_;simp -dsimp[]
theorem packing_u{ws:List Int}{es:List (List Nat)}(hb:HsB ws es)(f g:Bool):aL Tryz.prog 68 [aR f g ws es] fun r=>r = .tup [LSh false (bw ws es (rO ws.length 0)).1,.int .i64 (bw ws es (rO ws.length 0)).2,.int .i64 0]:=by
 have hel:∀e∈es,e.length≤1000000:=fun e he=>by have:=hb.ed.len e he;have:=hb.n;omega
 have cv:=iH ws es f g hel;rw[cS.2 hb]at cv;have c1:=gR [B.cells [.lst 1 f (ws.map aE),.lst 1 g (es.map (Ln false))]] f g ws es 0 hb.n
 have sa:=nsH_at (H:=[B.cells [.lst 1 f (ws.map aE),.lst 1 g (es.map (Ln false))]]) (fun bl hbl=>by
  simp only[rU,rS,or_false]at hbl;subst hbl
  exact hs_rb _ _ _ _ _) f g ws es 0
 have c2:=nJ sa hb;obtain⟨P,hP⟩:∃P,P=bw ws es (rO ws.length 0):=⟨_,rfl⟩;rw[←hP]at c2 ⊢;obtain⟨HH,hHH⟩:∃HH,HH=nsH [B.cells [.lst 1 f (ws.map aE),.lst 1 g (es.map (Ln false))]] f g ws es 0:=⟨_,rfl⟩;rw[←hHH]at c1 c2;simp only[aR,L1,LLn]at cv c1;simp only[LSh]at c2 ⊢;refine sPx Tryz.func68 rfl rfl ?_;simp -dsimp[Tryz.f68,rO,aR,L1,LLn];refine cPx (cv) (by simp) ?_;simp -dsimp[];refine bD c1 ?_;rintro _ _ ⟨rfl,rfl⟩;simp -dsimp[];refine bD c2 ?_;rintro _ _ ⟨rfl,rfl⟩;simp -dsimp[]
theorem fT(t:Tb)(cs:List Cn)(w:List Int)(f g fc fw:Bool)(h:BdOk t cs)(hw:w.length≤1000000):aL Tryz.prog 16 [aD f g t,LCn fc cs,L1 fw w] fun r=>r = .tup [prV t cs w,.int .i64 (prE t cs w)]:=by
 have cb:=build37 t cs f g fc h;have htB:B.cells [.str t.name,.lst 1 f (t.attrs.map V.str),.lst 2 g (t.rows.map aI)]=tcB t f g:=rfl
 have htr:∀n,rbB n (tcB t f g):=fun n=>bS n t f g
 by_cases h0:aV t cs=0
 case neg =>
  have he:prE t cs w=aV t cs:=by unfold prE;rw[if_neg h0]
  rw[ic (by rw[he];exact h0),he];rw[qt h0]at cb;obtain⟨e,hee⟩:∃e,e=aV t cs:=⟨_,rfl⟩;rw[←hee]at cb h0 ⊢;simp only[aD,LS,LR,LCn]at cb;refine sPx Tryz.func16 rfl rfl ?_;simp -dsimp[Tryz.f16,rO,aD,LS,LR,LCn,L1];refine cPx (cb) (by simp) ?_;simp -dsimp[h0]
 case pos =>
 rw[h0,jE h0]at cb;obtain⟨hsm,hh,hel⟩:=cA h h0;by_cases hl:w=[]∨w.length=t.rows.length
 case neg =>
  have he:prE t cs w=6:=by unfold prE;rw[if_pos h0,if_neg hl]
  rw[ic (by rw[he];decide),he];obtain⟨hl1,hl2⟩:=not_or.1 hl;have hl3:=List.length_pos_iff.2 hl1;simp only[aD,LS,LR,LCn,iK,L1,LL]at cb;refine sPx Tryz.func16 rfl rfl ?_;simp -dsimp[Tryz.f16,rO,aD,LS,LR,LCn,L1];refine cPx (cb) (by simp) ?_;simp -dsimp[show ¬((w.length:Int)=0) by omega,show ¬((w.length:Int)=t.rows.length) by omega,hl1,hl2,hl3]
 case pos =>
 have hV:prE t cs w=eI (inW t w) (inE t cs):=by unfold prE;rw[if_pos h0,if_pos hl]
 have hwl:=bt hl
 have hr8:t.rows.length≤8:=by
  obtain⟨_,h2,_⟩:=cG h0;have:=h.rows;omega
 have gT:=tbC (cG h0).1
 have hel2:∀e∈inE t cs,e.length≤1000000:=fun e he=>by
  obtain⟨x,hx,rfl⟩:=List.mem_map.1 he;rw[gV];exact hsm.2.2 x hx
 have cv:=pH (inW t w) (inE t cs) false false hel2;have hIE:inE t cs=(ak (bQ t cs)).map (ixE (aa t.rows)):=rfl
 have hpv:prV t cs w=if eI (inW t w) (inE t cs)=0 then aR false false (inW t w) (inE t cs) else .agg [.nilS,.nilS]:=by unfold prV;rw[hV]
 rw[hpv,hV]
 have hW1:w=[]→inW t w=rO t.rows.length 1:=fun e=>by rw[e];exact inW_nil t
 have hW2:w≠[]→inW t w=w:=fun e=>inW_ne e
 have hbs:=fun id=>fnd_bs gT id
 have cf:=fun id=>find03 t f g id (by omega)
 obtain⟨VE,hVE⟩:∃VE,VE=eI (inW t w) (inE t cs):=⟨_,rfl⟩;rw[←hVE]at cv ⊢;rw[hIE]at cv ⊢;clear hpv hV hVE hIE hel2;obtain⟨I,hI⟩:∃I,I=aa t.rows:=⟨_,rfl⟩;obtain⟨E,hE⟩:∃E,E=ak (bQ t cs):=⟨_,rfl⟩;obtain⟨W0,hW0⟩:∃W0,W0=inW t w:=⟨_,rfl⟩;rw[←hI,←hE]at cb hh hsm;rw[←hI,←hE,←hW0]at cv ⊢;rw[←hI]at hbs;rw[←hE]at hel;rw[←hW0]at hwl hW1 hW2;obtain⟨_,_,hes⟩:=hsm;have hsub:=hh.sub;have hne:=hh.ne;clear hh hW0;obtain⟨n,hn⟩:∃n,n=t.rows.length:=⟨_,rfl⟩;rw[←hn]at hl hwl hr8 hW1;have hn2:=hn.symm
 have hrbA:∀(ws:List Int) (j:Nat) (l:List (List Nat)),∀bl∈[tcB t f g,B.cells [.nilS,.nilS],B.cells [.lst 1 false (I.map aE),.lst 1 false (E.map (L1 false))],B.cells [.lst 1 false (ws.map aE),.buf 5 0 j j],B.buf 2 1 (ws.map aE) true,B.buf 50 1 (l.map (Ln false)) false],rbB 6 bl:=fun ws j l bl hbl=>by
  simp only[rU,rS,or_false]at hbl
  rcases hbl with rfl | rfl | rfl | rfl | rfl | rfl
  ·exact htr _
  ·exact cM (by simp[rb]) (by simp[rb])
  ·exact cM (by simp[rb]) (by simp[rb])
  ·exact cM (by simp[rb]) (by simp[rb,rb1])
  ·exact gW _ _ _ _
  ·exact lnB_rb _ _ _ _
 have hrbB:∀(ws:List Int) (j:Nat) (l:List (List Nat)) (q:List Nat),∀bl∈[tcB t f g,B.cells [.nilS,.nilS],B.cells [.lst 1 false (I.map aE),.lst 1 false (E.map (L1 false))],B.cells [.lst 1 false (ws.map aE),.buf 5 0 j j],B.buf 2 1 (ws.map aE) true,B.buf 50 1 (l.map (Ln false)) false]++[B.buf 3 1 (q.map eN) false],rbB 7 bl:=fun ws j l q bl hbl=>by
  rcases List.mem_append.1 (show bl∈([tcB t f g,B.cells [.nilS,.nilS],B.cells [.lst 1 false (I.map aE),.lst 1 false (E.map (L1 false))],B.cells [.lst 1 false (ws.map aE),.buf 5 0 j j],B.buf 2 1 (ws.map aE) true,B.buf 50 1 (l.map (Ln false)) false])++[B.buf 3 1 (q.map eN) false] from hbl) with h9 | h9
  ·exact rbBM (by omega) (hrbA ws j l bl h9)
  ·rw[sC]at h9;subst h9;exact nM _ _ _ _
 have hrbW:∀(ws:List Int) (i:Nat),∀bl∈[tcB t f g,B.cells [.nilS,.nilS],B.cells [.lst 1 false (I.map aE),.lst 1 false (E.map (L1 false))],B.cells [.buf 4 0 i i,.nilS],B.buf 2 1 (ws.map aE) false],rbB 5 bl:=fun ws i bl hbl=>by
  simp only[rU,rS,or_false]at hbl
  rcases hbl with rfl | rfl | rfl | rfl | rfl
  ·exact htr _
  ·exact cM (by simp[rb]) (by simp[rb])
  ·exact cM (by simp[rb]) (by simp[rb])
  ·exact cM (by simp[rb,rb1]) (by simp[rb])
  ·exact gW _ _ _ _
 simp only[aD,LS,LR,LCn,iK,L1,LL]at cb;simp only[aD,LS,LR]at cf;simp only[aR,L1,LLn,vE]at cv
 have hwt:∀i (h:i<W0.length),W0.take (i+1)=W0.take i++[W0[i]]:=fun i h=>rV h
 have hWi:∀i (h:i<n),∃x,W0[i]?=some x∧(w=[]→x=1)∧(w≠[]→w[i]?=some x):=fun i h=>by
  refine⟨W0[i]'(by omega),rT _,fun e=>?_,fun e=>?_⟩
  ·have h9:=hW1 e;subst h9;simp
  ·have h9:=hW2 e;subst h9;exact rT _
 by_cases hw0:w=[]
 case' pos =>
  refine sPx Tryz.func16 rfl rfl ?_;simp -dsimp[Tryz.f16,rO,aD,LS,LR,LCn,L1];refine cPx (cb) (by simp) ?_;simp -dsimp[hw0,L1]
 case' neg =>
  have hwl2:w.length=n:=hl.resolve_left hw0;have hl3:=List.length_pos_iff.2 hw0;refine sPx Tryz.func16 rfl rfl ?_;simp -dsimp[Tryz.f16,rO,aD,LS,LR,LCn,L1];refine cPx (cb) (by simp) ?_
  have hn0:0<n:=by omega
  simp -dsimp[hwl2,hn2,hn0,hw0,show(0:Int)<(n:Int) by omega,show ¬n=0 by omega,show ¬(n:Int)=0 by omega,L1]
 all_goals
  refine aG (eS 2 1 [] 3 [0] rfl (by simp) (by simp) (W_loopM 61 0x1ffffe0000c81800 (by simp[mB]<;>rfl) (σ:=Nat) (fun i=>i≤n) (fun i=>n-i) (fun i=>[(11,.int .i64 i)]) (fun i=>[tcB t f g,B.cells [.nilS,.nilS],B.cells [.lst 1 false (I.map aE),.lst 1 false (E.map (L1 false))],B.cells [.buf 4 0 i i,.nilS],B.buf 2 1 ((W0.take i).map aE) false]) 0 (by omega) (by simp) (by simp[tcB]) (by simp) ?_));intro i hi N Q hN hQ
  have htl:(W0.take i).length=i:=by simp;omega
  by_cases hb:i<n
  ·obtain⟨x,hx1,hx2,hx3⟩:=hWi i hb
   have hst:W0.take (i+1)=W0.take i++[x]:=by
    rw[rV (by omega)];obtain⟨_,h9⟩:=List.getElem?_eq_some_iff.1 hx1;rw[h9]
   obtain⟨l,hle⟩:∃l,l=W0.take i:=⟨_,rfl⟩;rw[←hle]at hst htl ⊢;by_cases hwz:w=[]
   ·try exact absurd hwz hw0
    all_goals
     have hx:=hx2 hwz;subst hx;refine wx ?_;simp -dsimp[hb,hn2,hwz,tcB,htl,go i (by omega),ai i (by omega),aH i (by omega),L1];refine hN (i+1) _ _ (by omega) (by omega) (by simp[hn2,hwz]) ⟨[],by simp[hst,aE,tcB]⟩ (by simp) (hrbW _ _)
   ·try exact absurd hw0 hwz
    all_goals
     obtain⟨q1,q2⟩:=List.getElem?_eq_some_iff.1 (hx3 hwz)
     have hp:0<w.length:=by omega
     refine wx ?_;simp -dsimp[hb,hn2,hwz,q1,q2,hp,show(0:Int)<w.length by omega,tcB,aE,htl,go i (by omega),ai i (by omega),aH i (by omega),L1];refine hN (i+1) _ _ (by omega) (by omega) (by simp[hn2]) ⟨[],by simp[hst,aE,tcB]⟩ (by simp) (hrbW _ _)
  obtain rfl:i=n:=by omega
  rw[rt (by omega)];refine wx ?_;simp -dsimp[hb,hn2,tcB,L1];refine hQ _ _ _ ?_;simp -dsimp[htB,L1];refine aG (eT 4 [] 3 [0] rfl rfl (by simp) (by simp[hwl]) (eS 50 1 [] 3 [1] rfl (by simp) (by simp) (W_loopM 101 0x1fffffffffe000000000cbe000 (by simp[mB]<;>rfl) (σ:=Nat) (fun j=>j≤E.length) (fun j=>E.length-j) (fun j=>[(13,.int .i64 j)]) (fun j=>[tcB t f g,B.cells [.nilS,.nilS],B.cells [.lst 1 false (I.map aE),.lst 1 false (E.map (L1 false))],B.cells [.lst 1 false (W0.map aE),.buf 5 0 j j],B.buf 2 1 (W0.map aE) true,B.buf 50 1 (((E.take j).map (ixE I)).map (Ln false)) false]) 0 (by omega) (by simp) (by simp) (by simp) ?_)));intro j hj N2 Q2 hN2 hQ2
  have hjl:((E.take j).map (ixE I)).length=j:=by simp;omega
  by_cases hjb:j<E.length
  ·have hst:=ix_take (I:=I) hjb;have he1:=hes _ (rQ hjb);have he2:=hne _ (rQ hjb);have he3:=hsub _ (rQ hjb);obtain⟨e,hee⟩:∃e,e=E[j]:=⟨_,rfl⟩;rw[←hee]at hst he1 he2 he3;obtain⟨P,hP⟩:∃P,P=(E.take j).map (ixE I):=⟨_,rfl⟩;rw[←hP]at hst hjl ⊢;refine wx ?_;simp -dsimp[hjb,hee.symm,L1];refine aG (bf 3 1 [14] (by simp) (W_loopM 95 0x7ffffff0000000000003c000 (by simp[mB]<;>rfl) (σ:=Nat) (fun k=>k≤e.length) (fun k=>e.length-k) (fun k=>[(15,.int .i64 k),(14,.buf 6 0 k k)]) (fun k=>[tcB t f g,B.cells [.nilS,.nilS],B.cells [.lst 1 false (I.map aE),.lst 1 false (E.map (L1 false))],B.cells [.lst 1 false (W0.map aE),.buf 5 0 j j],B.buf 2 1 (W0.map aE) true,B.buf 50 1 (P.map (Ln false)) false]++[B.buf 3 1 ((ixE I (e.take k)).map eN) false]) 0 (by omega) (by simp) (by simp[ixE]) (by simp) ?_));intro k hk N3 Q3 hN3 hQ3
   have hkl:(ixE I (e.take k)).length=k:=by rw[gV];simp;omega
   simp only[sP,rx];by_cases hkb:k<e.length
   ·have hst2:=mQ (I:=I) hkb;have hin:=he3 _ (rQ hkb);obtain⟨x,hx⟩:∃x,x=e[k]:=⟨_,rfl⟩;rw[←hx]at hst2 hin;have cs2:=cf x;rw[hbs,if_pos (bI.2 hin)]at cs2;obtain⟨p,hp⟩:∃p,p=bsP I x:=⟨_,rfl⟩;rw[←hp]at hst2 cs2;obtain⟨q,hq⟩:∃q,q=ixE I (e.take k):=⟨_,rfl⟩;rw[←hq]at hst2 hkl ⊢;refine wx ?_;simp -dsimp[hkb,hjb,hee.symm,hx.symm,aE,tcB,L1];refine .inr ⟨aC (by kernel_rfl),?_⟩;refine aN _ (aK (cs2) (by simp)) ?_;simp -dsimp[hkl,go k (by omega),ai k (by omega),aH k (by omega),L1];refine hN3 (k+1) _ _ (by omega) (by omega) (by simp) ⟨[],by simp[hst2,eN,tcB]⟩ (by simp) (hrbB _ _ _ _)
   ·obtain rfl:k=e.length:=by omega
    rw[sJ]at hkl ⊢;obtain⟨q,hq⟩:∃q,q=ixE I e:=⟨_,rfl⟩;rw[←hq]at hst hkl ⊢;refine cy 6 [14] rfl (by simp[hkl]) ?_;refine wx ?_;simp -dsimp[hkb,hjb,hee.symm,tcB,L1];refine hQ3 _ _ _ ?_;simp -dsimp[hjl,fI j (by omega),ai j (by omega),aH j (by omega),L1];refine hN2 (j+1) _ _ (by omega) (by omega) (by simp) ⟨[B.buf 3 1 (q.map eN) true],by simp[hst,Ln,tcB]⟩ (by simp) (hrbA _ _ _)
  ·obtain rfl:j=E.length:=by omega
   rw[sJ];refine eT 5 [] 3 [1] rfl rfl (by simp) (by simp) ?_;refine wx ?_;simp -dsimp[hjb,L1];refine hQ2 _ _ _ ?_;simp -dsimp[L1];refine cPx (cv) (by simp) ?_;by_cases hz:VE=0
   ·subst hz;rw[if_pos rfl];simp -dsimp[L1];simp[aR,L1,LLn]
   ·rw[if_neg hz];simp -dsimp[hz,L1]
end
end Go.Proofs.YtjogkbekekdkjaaGreatDoor
