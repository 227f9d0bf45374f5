/- JU7: own texts of this seat, joined and shortened by pack.py: Q8, H8, H9, H10, Ag, H11, H12, P0, P1, Q2, Q3, P3, C4a, C4b, C4c, C4, X6, X9, P4, Q9, P6, S3, LayL, S7, Q11, H25, P7, P9. -/
import Derived.Test.YteijbpppalhihaaGreatJU6
import Derived.Deep.LoopGhost
import Derived.Shelf.SlicesQ.Load
import Derived.Shelf.SlSortCmp.Kit1
import Derived.Shelf.SlSortCmp.NoneTotal
set_option linter.unusedVariables false
set_option linter.unusedSimpArgs false
set_option maxRecDepth 100000
set_option maxHeartbeats 64000000
namespace Go.Proofs.YteijbpppalhihaaGreat
section
open Go Go.AM
def dw(vs:List Cr)(c:Cr):Nat:=bsC vs c 0 vs.length
theorem oB{vs:List Cr}(hs:aZ vs){c:Cr}(hc:c∈vs):dw vs c<vs.length∧dW vs (dw vs c)=c:=by
 obtain⟨h1,h2⟩:=(bsC_mem hs c).2 hc;refine⟨h1,?_⟩;unfold dW dw;rw[ak _ _ h1];exact(fM _ _).1 h2
theorem bT{vs:List Cr}(hs:aZ vs):vs.Nodup:=hs.imp (fun h e=>by subst e;exact eh _ h)
theorem idxC_lt{vs:List Cr}(hs:aZ vs){a b:Cr}(ha:a∈vs)(hb:b∈vs)(h:cLt a b):dw vs a<dw vs b:=by
 obtain⟨a1,a2⟩:=oB hs ha;obtain⟨b1,b2⟩:=oB hs hb;have ga:dW vs (dw vs a)=vs[dw vs a]:=ak _ _ a1;have gb:dW vs (dw vs b)=vs[dw vs b]:=ak _ _ b1
 rcases Nat.lt_trichotomy (dw vs a) (dw vs b) with h1 | h1 | h1
 ·exact h1
 ·rw[h1,b2]at a2;subst a2;exact absurd h (eh _)
 ·have:=du hs b1 a1 h1;rw[←ga,←gb,a2,b2]at this;exact absurd (ea h this) (eh _)
theorem pl{vs K:List Cr}(hs:aZ vs)(hK:aZ K)(hsub:∀c∈K,c∈vs):K.map (dw vs)=bu vs K:=by
 refine kW _ _ ?_ (List.pairwise_lt_range.filter _) (fun x=>?_)
 ·rw[List.pairwise_map];refine List.Pairwise.imp_of_mem ?_ hK;intro a b ha hb h;exact idxC_lt hs (hsub a ha) (hsub b hb) h
 ·rw[List.mem_map,iK];constructor
  ·rintro⟨c,hc,rfl⟩;obtain⟨h1,h2⟩:=oB hs (hsub c hc);exact⟨h1,by rw[h2];exact hc⟩
  ·rintro⟨h1,h2⟩;refine⟨dW vs x,h2,?_⟩;obtain⟨h3,h4⟩:=oB hs (hsub _ h2);exact cAtD_inj (bT hs) h3 h1 h4
theorem gM:∀l1 l2:List Cr,aZ l1→aZ l2→(∀x,x∈l1↔x∈l2)→l1=l2
 | [],[],_,_,_=>rfl
 | [],y::l2,_,_,h=>by have:=(h y).2 List.mem_cons_self;cases this
 | x::l1,[],_,_,h=>by have:=(h x).1 List.mem_cons_self;cases this
 | x::l1,y::l2,h1,h2,h=>by
  obtain⟨a1,a2⟩:=List.pairwise_cons.1 h1;obtain⟨b1,b2⟩:=List.pairwise_cons.1 h2;have hx:=(h x).1 List.mem_cons_self;have hy:=(h y).2 List.mem_cons_self
  have e:x=y:=by
   rcases List.mem_cons.1 hx with e | hx
   ·exact e
   ·rcases List.mem_cons.1 hy with e | hy
    ·exact e.symm
    ·exact absurd (ea (b1 x hx) (a1 y hy)) (eh _)
  subst e;congr 1;refine gM l1 l2 a2 b2 (fun z=>⟨fun hz=>?_,fun hz=>?_⟩)
  ·rcases List.mem_cons.1 ((h z).1 (List.mem_cons_of_mem _ hz)) with e | hz2
   ·subst e;exact absurd (a1 z hz) (eh _)
   ·exact hz2
  ·rcases List.mem_cons.1 ((h z).2 (List.mem_cons_of_mem _ hz)) with e | hz2
   ·subst e;exact absurd (b1 z hz) (eh _)
   ·exact hz2
theorem edgeC_ok{vs K:List Cr}(hK:K≠[])(hsub:∀c∈K,c∈vs):bu vs K≠[]∧(bu vs K).Pairwise (· < ·)∧∀v∈bu vs K,v<vs.length:=by
 refine⟨fun h=>?_,List.pairwise_lt_range.filter _,fun v hv=>(iK.1 hv).1⟩
 cases K with
 | nil=>exact hK rfl
 | cons c K =>
  obtain⟨v,hv,he⟩:=List.mem_iff_getElem.1 (hsub c List.mem_cons_self);have hg:dW vs v=vs[v]:=ak _ _ hv;have:v∈bu vs (c::K):=iK.2 ⟨hv,by rw[hg,he];exact List.mem_cons_self⟩;rw[h]at this;cases this
theorem hsb_cores{vs:List Cr}{cores:List (List Cr)}(hn:vs.length≤200)(hc:cores.length≤2000)(hne:∀K∈cores,K≠[])(hsub:∀K∈cores,∀c∈K,c∈vs):HsB (ab vs.length) (cores.map (bu vs)):=by
 have hl:(ab vs.length).length=vs.length:=by simp[ab]
 refine⟨fun v hv=>?_,by rw[hl];exact hn,by simpa using hc,fun e he=>?_⟩
 ·rw[ak _ _ hv];simp[ab]
 ·rw[hl];obtain⟨K,hK,rfl⟩:=List.mem_map.1 he;exact edgeC_ok (hne K hK) (hsub K hK)
theorem valid39(ws:List Int)(es:List (List Int))(f g:Bool)(hl:∀e∈es,e.length≤1000000):aS Tryz.prog 113 [jD f g ws es] fun r=>r = .int .i64 (mR ws es):=by
 unfold mR;by_cases h1:200<ws.length
 ·rw[if_pos (.inl h1)];refine aC (aD tok Tryz.func113 rfl rfl ?_);refine wx ?_;simp -implicitDefEqProofs -dsimp[Tryz.f113,List.replicate,jD,LLi,show(200:Int)<ws.length by omega,L1]
 ·by_cases h2:2000<es.length
  ·rw[if_pos (.inr h2)];refine aC (aD tok Tryz.func113 rfl rfl ?_);refine wx ?_;simp -implicitDefEqProofs -dsimp[Tryz.f113,List.replicate,jD,LLi,show ¬(200:Int)<ws.length by omega,show(2000:Int)<es.length by omega,L1]
  ·rw[if_neg (fun h=>h.elim h1 h2)]
   obtain⟨E,hE⟩:∃E,E=if ws.all wOk then jM ws.length es else 1:=⟨_,rfl⟩
   rw[←hE];refine aC (aD tok Tryz.func113 rfl rfl ?_);refine wx ?_;simp -implicitDefEqProofs -dsimp[Tryz.f113,List.replicate,jD,LLi,show ¬(200:Int)<ws.length by omega,show ¬(2000:Int)<es.length by omega,L1];refine aK (W_loopM 39 [2,3,18,19,20,21,22,23,24,25,26,27,28,29,30,31,32,33,34,35,36,37,38] (by simp[mB]<;>rfl) (σ:=Nat) (fun i=>i≤ws.length∧(if(ws.drop i).all wOk then jM ws.length es else 1)=E) (fun i=>ws.length-i) (fun i=>[(3,.int .i64 i)]) (fun _=>[B.cells [.lst 1 f (ws.map ac),.lst 1 g (es.map (L1 false))]]) 0 ⟨by omega,by rw[List.drop_zero,hE]⟩ (by simp) (by simp[L1]) (by simp) ?_);rintro i ⟨hi,hx⟩ N1 Q1 hN1 hQ1;by_cases hb:i<ws.length
   ·rw[List.drop_eq_getElem_cons hb,List.all_cons]at hx;obtain⟨w,hw⟩:∃w,w=ws[i]:=⟨_,rfl⟩;rw[←hw]at hx;have hw':=hw.symm;by_cases q1:1≤w
    ·by_cases q2:w≤1000000
     ·rw[show wOk w=true by simp[wOk,q1,q2],Bool.true_and]at hx;refine wx ?_;simp -implicitDefEqProofs -dsimp[hb,hw',ac,show ¬w<1 by omega,show ¬(1000000:Int)<w by omega,aM i (by omega),L1];refine hN1 (i+1) _ _ ⟨by omega,hx⟩ (by omega) ?_ ⟨[],?_⟩ ?_ ?_<;>simp[or_imp,forall_and,L1,ac]
     ·rw[show wOk w=false by simp[wOk,q2],Bool.false_and,if_neg (by simp)]at hx;refine wx ?_;simp -implicitDefEqProofs -dsimp[hb,hw',ac,show ¬w<1 by omega,show(1000000:Int)<w by omega,L1];refine hQ1 _ _ _ ?_;simp -implicitDefEqProofs -dsimp[L1];exact hx
    ·rw[show wOk w=false by simp[wOk,q1],Bool.false_and,if_neg (by simp)]at hx;refine wx ?_;simp -implicitDefEqProofs -dsimp[hb,hw',ac,show w<1 by omega,L1];refine hQ1 _ _ _ ?_;simp -implicitDefEqProofs -dsimp[L1];exact hx
   ·rw[List.drop_of_length_le (by omega),List.all_nil,if_pos rfl]at hx;refine wx ?_;simp -implicitDefEqProofs -dsimp[hb,L1];refine hQ1 _ _ _ ?_;simp -implicitDefEqProofs -dsimp[L1];refine aK (W_loopM 77 [2,4,5,6,7,39,40,41,42,43,44,45,46,47,48,49,50,51,52,53,54,55,56,57,58,59,60,61,62,63,64,65,66,67,68,69,70,71,72,73,74,75,76] (by simp[mB]<;>rfl) (σ:=Nat) (fun j=>j≤es.length∧jM ws.length (es.drop j)=E) (fun j=>es.length-j) (fun j=>[(4,.int .i64 j)]) (fun _=>[B.cells [.lst 1 f (ws.map ac),.lst 1 g (es.map (L1 false))]]) 0 ⟨by omega,by rw[List.drop_zero,hx]⟩ (by simp) (by simp[L1]) (by simp) ?_);rintro j ⟨hj,hy⟩ N2 Q2 hN2 hQ2;by_cases hjb:j<es.length
    ·rw[List.drop_eq_getElem_cons hjb,jM,List.all_cons]at hy;have hle:=hl es[j] (List.getElem_mem hjb);obtain⟨e,he⟩:∃e,e=es[j]:=⟨_,rfl⟩;rw[←he]at hy hle;have he':=he.symm;obtain⟨R,hR⟩:∃R,R=(es.drop (j+1)).all (eOk ws.length):=⟨_,rfl⟩;rw[←hR]at hy;rw[eOk]at hy;refine wx ?_;simp -implicitDefEqProofs -dsimp[hjb,L1];refine aK (W_loopM 75 [2,5,6,7,46,47,48,49,50,51,52,53,54,55,56,57,58,59,60,61,62,63,64,65,66,67,68,69,70,71,72,73,74] (by simp[mB]<;>rfl) (σ:=Nat×Int) (fun p=>p.1≤e.length∧-1≤p.2∧(p.1=0→p.2 = -1)∧(0<p.1→0≤p.2)∧(if((gC ws.length p.2 (e.drop p.1)&&!e.isEmpty)&&R)=true then(0:Int) else 1)=E) (fun p=>e.length-p.1) (fun p=>[(6,.int .i64 p.1),(5,.int .i64 p.2)]) (fun _=>[B.cells [.lst 1 f (ws.map ac),.lst 1 g (es.map (L1 false))]]) (0,-1) ⟨by simp,by simp,by simp,by simp,by rw[List.drop_zero];exact hy⟩ (by simp) (by simp[L1]) (by simp) ?_);rintro⟨k,last⟩ ⟨hk,hm1,hm2,hm3,hz⟩ N3 Q3 hN3 hQ3;simp only at hk hz hN3 hm1 hm2 hm3;by_cases hkb:k<e.length
     ·rw[List.drop_eq_getElem_cons hkb,gC]at hz;obtain⟨v,hv⟩:∃v,v=e[k]:=⟨_,rfl⟩;rw[←hv]at hz;have hv':=hv.symm;by_cases q1:last<v
      ·by_cases q2:v<ws.length
       ·rw[decide_eq_true q1,decide_eq_true q2,Bool.true_and,Bool.true_and]at hz;refine wx ?_;simp -implicitDefEqProofs -dsimp[hjb,he',hkb,hv',ac,show ¬v≤last by omega,show ¬(ws.length:Int)≤v by omega,aM k (by omega),L1];refine hN3 (k+1,v) _ _ ⟨by simp only;omega,by simp only;omega,by simp,by simp only;omega,hz⟩ (by omega) ?_ ⟨[],?_⟩ ?_ ?_<;>simp[or_imp,forall_and,L1,ac]
       ·rw[decide_eq_false q2,Bool.and_false,Bool.false_and,Bool.false_and,Bool.false_and,if_neg (by simp)]at hz;refine wx ?_;simp -implicitDefEqProofs -dsimp[hjb,he',hkb,hv',ac,show ¬v≤last by omega,show(ws.length:Int)≤v by omega,L1];refine hQ3 _ _ _ ?_;simp -implicitDefEqProofs -dsimp[L1];refine hQ2 _ _ _ ?_;simp -implicitDefEqProofs -dsimp[L1];exact hz
      ·rw[decide_eq_false q1,Bool.false_and,Bool.false_and,Bool.false_and,Bool.false_and,if_neg (by simp)]at hz;refine wx ?_;simp -implicitDefEqProofs -dsimp[hjb,he',hkb,hv',ac,show v≤last by omega,L1];refine hQ3 _ _ _ ?_;simp -implicitDefEqProofs -dsimp[L1];refine hQ2 _ _ _ ?_;simp -implicitDefEqProofs -dsimp[L1];exact hz
     ·rw[List.drop_of_length_le (by omega),gC,Bool.true_and]at hz;by_cases h0:e.length=0
      ·have hen:e=[]:=List.length_eq_zero_iff.1 h0;have hl1:=hm2 (by omega);rw[hen]at hz;simp at hz;subst hl1;refine wx ?_;simp -implicitDefEqProofs -dsimp[hjb,he',hkb,L1];refine hQ3 _ _ _ ?_;simp -implicitDefEqProofs -dsimp[L1];refine hQ2 _ _ _ ?_;simp -implicitDefEqProofs -dsimp[L1];exact hz
      ·have hen:e.isEmpty=false:=by cases e with
        | nil=>simp at h0
        | cons a b=>rfl
       rw[hen,Bool.not_false,Bool.true_and,hR]at hz;have hl1:=hm3 (by omega);refine wx ?_;simp -implicitDefEqProofs -dsimp[hjb,he',hkb,L1];refine hQ3 _ _ _ ?_;simp -implicitDefEqProofs -dsimp[show ¬last<0 by omega,aM j (by omega),L1];refine hN2 (j+1) _ _ ⟨by omega,hz⟩ (by omega) ?_ ⟨[],?_⟩ ?_ ?_<;>simp[or_imp,forall_and,L1,ac]
    ·rw[List.drop_of_length_le (by omega)]at hy;refine wx ?_;simp -implicitDefEqProofs -dsimp[hjb,L1];refine hQ2 _ _ _ ?_;simp -implicitDefEqProofs -dsimp[L1];exact hy
theorem valid39N(ws:List Int)(es:List (List Nat))(f g:Bool)(hl:∀e∈es,e.length≤1000000):aS Tryz.prog 113 [ah f g ws es] fun r=>r = .int .i64 (jI ws es):=by
 have:=valid39 ws (cst es) f g (fun e he=>by obtain⟨e',h,rfl⟩:=List.mem_map.1 he;rw[List.length_map];exact hl e' h)
 rwa [encHs_cst]at this
theorem jg{α:Type}(p:α→Bool)(l:List α)(i:Nat)(h:i<l.length):(l.drop i).any p=(p l[i]||(l.drop (i+1)).any p):=by rw[List.drop_eq_getElem_cons h];rfl
theorem has39(e:List Nat)(v:Nat)(fe:Bool)(hl:e.length≤1000000):aS Tryz.prog 164 [Ln fe e,.int .i64 (v:Int)] fun r=>r = .bool (e.contains v):=by
 obtain⟨E,hE⟩:∃E,E=e.contains v:=⟨_,rfl⟩;rw[←hE]
 have hc:∀l:List Nat,l.contains v=l.any fun u=>decide (u=v):=fun l=>by
  rw[Bool.eq_iff_iff];simp
 rw[hc]at hE;refine aC (aD tok Tryz.func164 rfl rfl ?_);refine wx ?_;simp -implicitDefEqProofs -dsimp[Tryz.f164,List.replicate,Ln];refine aK (W_loopM 18 [4,5,6,7,8,9,10,11,12,13,14,15,16,17] (by simp[mB]<;>rfl) (σ:=Nat) (fun i=>i≤e.length∧(e.drop i).any (fun u=>decide (u=v))=E) (fun i=>e.length-i) (fun i=>[(5,.int .i64 i)]) (fun _=>[]) 0 ⟨by omega,by rw[List.drop_zero,hE]⟩ (by simp) rfl (by simp) ?_);rintro i ⟨hi,hx⟩ N Q hN hQ;by_cases hb:i<e.length
 ·rw[jg _ _ _ hb]at hx;obtain⟨u,hu⟩:∃u,u=e[i]:=⟨_,rfl⟩;rw[←hu]at hx;have hu':=hu.symm;by_cases hq:u=v
  ·rw[decide_eq_true hq,Bool.true_or]at hx;refine wx ?_;simp -implicitDefEqProofs -dsimp[hb,hu',eN,hq];refine hQ _ _ _ ?_;simp -implicitDefEqProofs -dsimp[];exact hx.symm
  ·rw[decide_eq_false hq,Bool.false_or]at hx;refine wx ?_;simp -implicitDefEqProofs -dsimp[hb,hu',eN,hq,show ¬(u:Int)=v by omega,aM i (by omega)];refine hN (i+1) _ _ ⟨by omega,hx⟩ (by omega) (by simp) ⟨[],rfl⟩ (by simp) (by simp)
 ·rw[List.drop_of_length_le (by omega),List.any_nil]at hx;refine wx ?_;simp -implicitDefEqProofs -dsimp[hb];refine hQ _ _ _ ?_;simp -implicitDefEqProofs -dsimp[];exact hx.symm
theorem meets39(a b:List Nat)(fa fb:Bool)(hl:a.length≤1000000)(hm:b.length≤1000000):aS Tryz.prog 197 [Ln fa a,Ln fb b] fun r=>r = .bool (gd a b):=by
 obtain⟨E,hE⟩:∃E,E=gd a b:=⟨_,rfl⟩;rw[←hE];unfold gd at hE;refine aC (aD tok Tryz.func197 rfl rfl ?_);refine wx ?_;simp -implicitDefEqProofs -dsimp[Tryz.f197,List.replicate,Ln];refine aK (W_loopM 18 [4,5,6,7,8,9,10,11,12,13,14,15,16,17] (by simp[mB]<;>rfl) (σ:=Nat) (fun i=>i≤a.length∧(a.drop i).any (fun v=>b.contains v)=E) (fun i=>a.length-i) (fun i=>[(5,.int .i64 i)]) (fun _=>[]) 0 ⟨by omega,by rw[List.drop_zero,hE]⟩ (by simp) rfl (by simp) ?_);rintro i ⟨hi,hx⟩ N Q hN hQ;by_cases hb:i<a.length
 ·rw[jg _ _ _ hb]at hx;obtain⟨u,hu⟩:∃u,u=a[i]:=⟨_,rfl⟩;rw[←hu]at hx;have hu':=hu.symm;have c1:=has39 b u fb hm;simp only[Ln]at c1
  cases hq:b.contains u with
  | true =>
   rw[hq]at c1 hx;refine wx ?_;simp -implicitDefEqProofs -dsimp[hb,hu',eN];refine(aG (c1) (by simp)).mono ?_;rintro r H' ⟨rfl,rfl⟩;simp -implicitDefEqProofs -dsimp[];refine hQ _ _ _ ?_;simp -implicitDefEqProofs -dsimp[];simpa using hx.symm
  | false =>
   rw[hq]at c1 hx;refine wx ?_;simp -implicitDefEqProofs -dsimp[hb,hu',eN];refine(aG (c1) (by simp)).mono ?_;rintro r H' ⟨rfl,rfl⟩;simp -implicitDefEqProofs -dsimp[aM i (by omega)];refine hN (i+1) _ _ ⟨by omega,by simpa using hx⟩ (by omega) (by simp) ⟨[],rfl⟩ (by simp) (by simp)
 ·rw[List.drop_of_length_le (by omega),List.any_nil]at hx;refine wx ?_;simp -implicitDefEqProofs -dsimp[hb];refine hQ _ _ _ ?_;simp -implicitDefEqProofs -dsimp[];exact hx.symm
def cy(fc fx:Bool)(ch ex:List Nat)(b:Int):V:=.agg [Ln fc ch,Ln fx ex,.int .i64 b]
@[simp] theorem encSt_pure (fc fx:Bool) (ch ex:List Nat) (b:Int):AM.Pure (cy fc fx ch ex b):=by simp[cy]
theorem closed39(ws:List Int)(es:List (List Nat))(f g fc fx:Bool)(ch ex:List Nat)(b:Int)(hne:es.length≤1000000)(hl:∀e∈es,e.length≤1000000)(hx:ex.length≤1000000):
  aS Tryz.prog 162 [ah f g ws es,cy fc fx ch ex b] fun r=>r = .bool (fN es ex):=by
 obtain⟨E,hE⟩:∃E,E=fN es ex:=⟨_,rfl⟩;rw[←hE];unfold fN at hE;refine aC (aD tok Tryz.func162 rfl rfl ?_);refine wx ?_;simp -implicitDefEqProofs -dsimp[Tryz.f162,List.replicate,ah,cy,L1,LLn,Ln];refine aK (W_loopM 40 [4,5,6,7,8,9,10,11,12,13,14,15,16,17,18,19,20,21,22,23,24,25,26,27,28,29,30,31,32,33,34,35,36,37,38,39] (by simp[mB]<;>rfl) (σ:=Nat) (fun i=>i≤es.length∧((es.drop i).any fun e=>e.all fun v=>ex.contains v)=E) (fun i=>es.length-i) (fun i=>[(5,.int .i64 i)]) (fun _=>[B.cells [.lst 1 f (ws.map ac),.lst 1 g (es.map (Ln false))],B.cells [.lst 1 fc (ch.map eN),.lst 1 fx (ex.map eN),.int .i64 b]]) 0 ⟨by omega,by rw[List.drop_zero,hE]⟩ (by simp) rfl (by simp) ?_);rintro i ⟨hi,hy⟩ N Q hN hQ;by_cases hb:i<es.length
 ·rw[jg _ _ _ hb]at hy;have hle:=hl es[i] (List.getElem_mem hb);obtain⟨e,he⟩:∃e,e=es[i]:=⟨_,rfl⟩;rw[←he]at hy hle;have he':=he.symm;refine wx ?_;simp -implicitDefEqProofs -dsimp[hb,L1,LLn,Ln];refine aK (W_loopM 39 [6,7,15,16,17,18,19,20,21,22,23,24,25,26,27,28,29,30,31,32,33,34,35,36,37,38] (by simp[mB]<;>rfl) (σ:=Nat×Bool) (fun p=>p.1≤e.length∧(p.2&&(e.drop p.1).all fun v=>ex.contains v)=(e.all fun v=>ex.contains v)) (fun p=>e.length-p.1) (fun p=>[(7,.int .i64 p.1),(6,.bool p.2)]) (fun _=>[B.cells [.lst 1 f (ws.map ac),.lst 1 g (es.map (Ln false))],B.cells [.lst 1 fc (ch.map eN),.lst 1 fx (ex.map eN),.int .i64 b]]) (0,true) ⟨by simp,by simp⟩ (by simp) rfl (by simp) ?_);rintro⟨k,a⟩ ⟨hk,hz⟩ N2 Q2 hN2 hQ2;simp only at hk hz hN2;by_cases hkb:k<e.length
  ·rw[List.drop_eq_getElem_cons hkb,List.all_cons]at hz;obtain⟨v,hv⟩:∃v,v=e[k]:=⟨_,rfl⟩;rw[←hv]at hz;have hv':=hv.symm;have c1:=has39 ex v fx hx
   cases a with
   | false =>
    refine wx ?_;simp -implicitDefEqProofs -dsimp[hb,he',hkb,L1,LLn,Ln];refine .inr ⟨aJ (by kernel_rfl),?_⟩;simp -implicitDefEqProofs -dsimp[aM k (by omega),L1,LLn,Ln];refine hN2 (k+1,false) _ _ ⟨by simp only;omega,by simpa using hz⟩ (by simp only;omega) (by simp) ⟨[],rfl⟩ (by simp) (by simp)
   | true =>
    refine wx ?_;simp -implicitDefEqProofs -dsimp[hb,he',hkb,hv',eN,L1,LLn,Ln];refine .inr ⟨aJ (by kernel_rfl),?_⟩;simp only[Ln]at c1;refine aj _ (aG (c1) (by simp)) ?_;simp -implicitDefEqProofs -dsimp[aM k (by omega),L1,LLn,Ln];refine hN2 (k+1,ex.contains v) _ _ ⟨by simp only;omega,by simpa using hz⟩ (by simp only;omega) (by simp) ⟨[],rfl⟩ (by simp) (by simp)
  ·rw[List.drop_of_length_le (by omega),List.all_nil,Bool.and_true]at hz;rw[←hz]at hy
   cases a with
   | true =>
    refine wx ?_;simp -implicitDefEqProofs -dsimp[hb,he',hkb,L1,LLn,Ln];refine hQ2 _ _ _ ?_;simp -implicitDefEqProofs -dsimp[L1,LLn,Ln];refine hQ _ _ _ ?_;simp -implicitDefEqProofs -dsimp[L1,LLn,Ln];simpa using hy.symm
   | false =>
    refine wx ?_;simp -implicitDefEqProofs -dsimp[hb,he',hkb,L1,LLn,Ln];refine hQ2 _ _ _ ?_;simp -implicitDefEqProofs -dsimp[aM i (by omega),L1,LLn,Ln];refine hN (i+1) _ _ ⟨by omega,by simpa using hy⟩ (by omega) (by simp) ⟨[],rfl⟩ (by simp) (by simp)
 ·rw[List.drop_of_length_le (by omega),List.any_nil]at hy;refine wx ?_;simp -implicitDefEqProofs -dsimp[hb,L1,LLn,Ln];refine hQ _ _ _ ?_;simp -implicitDefEqProofs -dsimp[L1,LLn,Ln];exact hy.symm
theorem okR_parts{es:List (List Nat)}{ch:List Nat}{x:Shr}(h:okR es ch x=true):∃j:Nat,x.e=j∧j<es.length∧1≤x.a∧x.a≤1000000000000∧gd (es.getD j []) ch=false:=by
 simp only[okR,Bool.and_eq_true,decide_eq_true_eq,Bool.not_eq_true']at h;obtain⟨⟨⟨⟨h1,h2⟩,h3⟩,h4⟩,h5⟩:=h;obtain⟨j,hj⟩:∃j:Nat,x.e=j:=⟨x.e.toNat,by omega⟩;rw[hj,Int.toNat_natCast]at h5;exact⟨j,hj,by omega,h3,h4,h5⟩
theorem right39(ws:List Int)(es:List (List Nat))(f g fc fx fl:Bool)(ch ex:List Nat)(b:Int)(l:List Shr)(hw:ws.length≤1000000)(hne:es.length≤1000000)(hl:∀e∈es,e.length≤1000000)(hc:ch.length≤1000000)(hx:ex.length≤1000000):
  aS Tryz.prog 163 [ah f g ws es,cy fc fx ch ex b,LSh fl l] fun r=>r = .bool (ia ws es ch ex b l):=by
 obtain⟨E,hE⟩:∃E,E=ia ws es ch ex b l:=⟨_,rfl⟩;rw[←hE];unfold ia at hE;by_cases h0:10000<l.length
 ·rw[decide_eq_false (by omega),Bool.false_and]at hE;subst hE;refine aC (aD tok Tryz.func163 rfl rfl ?_);refine wx ?_;simp -implicitDefEqProofs -dsimp[Tryz.f163,List.replicate,ah,cy,show(10000:Int)<l.length by omega,L1,LLn,Ln,LSh,aQ]
 ·rw[decide_eq_true (by omega),Bool.true_and]at hE;obtain⟨B0,hB0⟩:∃B0,B0=((List.range ws.length).all (fun v=>decide (ldR es v l≤ws.getD v 0)||ex.contains v)&&decide (b≤gX l)):=⟨_,rfl⟩;rw[←hB0]at hE;refine aC (aD tok Tryz.func163 rfl rfl ?_);refine wx ?_;simp -implicitDefEqProofs -dsimp[Tryz.f163,List.replicate,ah,cy,show ¬(10000:Int)<l.length by omega,L1,LLn,Ln,LSh,aQ];refine aK (W_loopM 75 [6,7,8,15,16,17,18,19,20,21,22,23,24,25,26,27,28,29,30,31,32,33,34,35,36,37,38,39,40,41,42,43,44,45,46,47,48,49,50,51,52,53,54,55,56,57,58,59,60,61,62,63,64,65,66,67,68,69,70,71,72,73,74] (by simp[mB]<;>rfl) (σ:=Nat×Int) (fun p=>p.1≤l.length∧(∀k (h:k<l.length),k<p.1→okR es ch l[k]=true)∧((l.drop p.1).all (okR es ch)&&B0)=E∧p.2+gX (l.drop p.1)=gX l∧0≤p.2∧p.2≤p.1*1000000000000) (fun p=>l.length-p.1) (fun p=>[(8,.int .i64 p.1),(7,.int .i64 p.2)]) (fun _=>[B.cells [.lst 1 f (ws.map ac),.lst 1 g (es.map (Ln false))],B.cells [.lst 1 fc (ch.map eN),.lst 1 fx (ex.map eN),.int .i64 b]]) (0,0) ⟨by simp,fun k h h2=>by simp at h2,by rw[List.drop_zero];exact hE.symm,by simp,by simp,by simp⟩ (by simp) rfl (by simp) ?_);rintro⟨i,sm⟩ ⟨hi,hk,hy,hs,hs0,hs1⟩ N Q hN hQ;simp only at hi hk hy hs hs0 hs1 hN;by_cases hb:i<l.length
  ·rw[List.drop_eq_getElem_cons hb,List.all_cons]at hy;rw[List.drop_eq_getElem_cons hb,gX]at hs;obtain⟨x,hxe⟩:∃x,x=l[i]:=⟨_,rfl⟩;rw[←hxe]at hy hs;have hxl:=hxe.symm;obtain⟨xe,xa⟩:=x;have hok:okR es ch ⟨xe,xa⟩=(decide (0≤xe)&&decide (xe<es.length)&&decide (1≤xa)&&decide (xa≤1000000000000)&&!gd (es.getD xe.toNat []) ch):=rfl;rw[hok]at hy;simp only at hs;by_cases c1:xe<0
   ·rw[decide_eq_false (by omega)]at hy;simp only[Bool.false_and]at hy;refine wx ?_;simp -implicitDefEqProofs -dsimp[hb,hxl,c1,L1,LLn,Ln,LSh,aQ];refine .inr ⟨aJ (by kernel_rfl),?_⟩;refine hQ _ _ _ ?_;simp -implicitDefEqProofs -dsimp[L1,LLn,Ln,LSh,aQ];exact hy.symm
   by_cases c2:(es.length:Int)≤xe
   ·rw[decide_eq_false (show ¬xe<es.length by omega)]at hy;simp only[Bool.and_false,Bool.false_and]at hy;refine wx ?_;simp -implicitDefEqProofs -dsimp[hb,hxl,c1,c2,L1,LLn,Ln,LSh,aQ];refine .inr ⟨aJ (by kernel_rfl),?_⟩;refine hQ _ _ _ ?_;simp -implicitDefEqProofs -dsimp[L1,LLn,Ln,LSh,aQ];exact hy.symm
   by_cases c3:xa<1
   ·rw[decide_eq_false (show ¬1≤xa by omega)]at hy;simp only[Bool.and_false,Bool.false_and]at hy;refine wx ?_;simp -implicitDefEqProofs -dsimp[hb,hxl,c1,c2,c3,L1,LLn,Ln,LSh,aQ];refine .inr ⟨aJ (by kernel_rfl),?_⟩;refine hQ _ _ _ ?_;simp -implicitDefEqProofs -dsimp[L1,LLn,Ln,LSh,aQ];exact hy.symm
   by_cases c4:1000000000000<xa
   ·rw[decide_eq_false (show ¬xa≤1000000000000 by omega)]at hy;simp only[Bool.and_false,Bool.false_and]at hy;refine wx ?_;simp -implicitDefEqProofs -dsimp[hb,hxl,c1,c2,c3,c4,L1,LLn,Ln,LSh,aQ];refine .inr ⟨aJ (by kernel_rfl),?_⟩;refine hQ _ _ _ ?_;simp -implicitDefEqProofs -dsimp[L1,LLn,Ln,LSh,aQ];exact hy.symm
   obtain⟨j,rfl⟩:∃j:Nat,xe=j:=⟨xe.toNat,by omega⟩
   have hj:j<es.length:=by omega
   rw[decide_eq_true (show(0:Int)≤j by omega),decide_eq_true (show(j:Int)<es.length by omega),decide_eq_true (show 1≤xa by omega),decide_eq_true (show xa≤1000000000000 by omega),Int.toNat_natCast,eD hj]at hy hok;simp only[Bool.true_and]at hy hok;have hle:=hl es[j] (List.getElem_mem hj);obtain⟨e,he⟩:∃e,e=es[j]:=⟨_,rfl⟩;rw[←he]at hy hle hok;have hej:=he.symm;have cm:=meets39 e ch false fc hle hc;simp only[Ln]at cm
   cases hm:gd e ch with
   | true =>
    rw[hm]at cm hy;simp only[Bool.not_true,Bool.false_and]at hy;refine wx ?_;simp -implicitDefEqProofs -dsimp[hb,hxl,c1,hj,hej,c3,c4,show ¬(es.length:Int)≤j by omega,L1,LLn,Ln,LSh,aQ];refine .inr ⟨aJ (by kernel_rfl),?_⟩;refine aj _ (aG (cm) (by simp)) ?_;simp -implicitDefEqProofs -dsimp[L1,LLn,Ln,LSh,aQ];refine hQ _ _ _ ?_;simp -implicitDefEqProofs -dsimp[L1,LLn,Ln,LSh,aQ];exact hy.symm
   | false =>
    rw[hm]at cm hy hok;simp only[Bool.not_false,Bool.true_and]at hy hok;have hw1:IntKind.i64.wrap (sm+xa)=sm+xa:=wrap64 (by omega) (by omega);refine wx ?_;simp -implicitDefEqProofs -dsimp[hb,hxl,c1,hj,hej,c3,c4,show ¬(es.length:Int)≤j by omega,L1,LLn,Ln,LSh,aQ];refine .inr ⟨aJ (by kernel_rfl),?_⟩;refine aj _ (aG (cm) (by simp)) ?_;simp -implicitDefEqProofs -dsimp[hb,hxl,hw1,aM i (by omega),L1,LLn,Ln,LSh,aQ];refine hN (i+1,sm+xa) _ _ ⟨by simp only;omega,fun k h h2=>?_,hy,by simp only;omega,by simp only;omega,by simp only;omega⟩ (by simp only;omega) (by simp) ⟨[],rfl⟩ (by simp) (by simp)
    rcases Nat.lt_or_ge k i with h3 | h3
    ·exact hk k h h3
    ·have:k=i:=by simp only at h2;omega
     subst this;rw[hxl];exact hok
  ·rw[List.drop_of_length_le (by omega),List.all_nil,Bool.true_and]at hy;rw[List.drop_of_length_le (by omega),gX]at hs
   have hk2:∀k (h:k<l.length),okR es ch l[k]=true:=fun k h=>hk k h (by omega)
   have hsm:sm=gX l:=by omega
   refine wx ?_;simp -implicitDefEqProofs -dsimp[hb,L1,LLn,Ln,LSh,aQ];refine hQ _ _ _ ?_;simp -implicitDefEqProofs -dsimp[L1,LLn,Ln,LSh,aQ];rw[hB0,List.range_eq_range']at hy;refine aK (W_loopM 120 [6,9,10,11,75,76,77,78,79,80,81,82,83,84,85,86,87,88,89,90,91,92,93,94,95,96,97,98,99,100,101,102,103,104,105,106,107,108,109,110,111,112,113,114,115,116,117,118,119] (by simp[mB]<;>rfl) (σ:=Nat) (fun v=>v≤ws.length∧((List.range' v (ws.length-v)).all (fun v=>decide (ldR es v l≤ws.getD v 0)||ex.contains v)&&decide (b≤gX l))=E) (fun v=>ws.length-v) (fun v=>[(9,.int .i64 v)]) (fun _=>[B.cells [.lst 1 f (ws.map ac),.lst 1 g (es.map (Ln false))],B.cells [.lst 1 fc (ch.map eN),.lst 1 fx (ex.map eN),.int .i64 b]]) 0 ⟨by omega,by rw[Nat.sub_zero];exact hy⟩ (by simp) rfl (by simp) ?_);rintro v ⟨hv,hz⟩ N2 Q2 hN2 hQ2;by_cases hvb:v<ws.length
   ·rw[show ws.length-v=(ws.length-(v+1))+1 by omega,List.range'_succ,List.all_cons]at hz;refine wx ?_;simp -implicitDefEqProofs -dsimp[hvb,L1,LLn,Ln,LSh,aQ];refine aK (W_loopM 106 [10,11,82,83,84,85,86,87,88,89,90,91,92,93,94,95,96,97,98,99,100,101,102,103,104,105] (by simp[mB]<;>rfl) (σ:=Nat×Int) (fun p=>p.1≤l.length∧p.2+ldR es v (l.drop p.1)=ldR es v l∧0≤p.2∧p.2≤p.1*1000000000000) (fun p=>l.length-p.1) (fun p=>[(11,.int .i64 p.1),(10,.int .i64 p.2)]) (fun _=>[B.cells [.lst 1 f (ws.map ac),.lst 1 g (es.map (Ln false))],B.cells [.lst 1 fc (ch.map eN),.lst 1 fx (ex.map eN),.int .i64 b]]) (0,0) ⟨by simp,by simp,by simp,by simp⟩ (by simp) rfl (by simp) ?_);rintro⟨i2,ld⟩ ⟨hi2,hd,hd0,hd1⟩ N3 Q3 hN3 hQ3;simp only at hi2 hd hd0 hd1 hN3;by_cases hb2:i2<l.length
    ·rw[List.drop_eq_getElem_cons hb2,ldR]at hd;have hok:=hk2 i2 hb2;obtain⟨x,hxe⟩:∃x,x=l[i2]:=⟨_,rfl⟩;rw[←hxe]at hd hok;have hxl:=hxe.symm;obtain⟨j,hj1,hj,ha1,ha2,_⟩:=okR_parts hok;obtain⟨xe,xa⟩:=x;simp only at hj1 ha1 ha2 hd;subst hj1;rw[Int.toNat_natCast,eD hj]at hd;have hle:=hl es[j] (List.getElem_mem hj);obtain⟨e,he⟩:∃e,e=es[j]:=⟨_,rfl⟩;rw[←he]at hd hle;have hej:=he.symm;have cm:=has39 e v false hle;simp only[Ln]at cm;by_cases hm:v∈e
     ·rw[List.contains_iff_mem.2 hm]at cm;rw[if_pos hm]at hd;have hw1:IntKind.i64.wrap (ld+xa)=ld+xa:=wrap64 (by omega) (by omega);refine wx ?_;simp -implicitDefEqProofs -dsimp[hb2,hxl,hj,hej,L1,LLn,Ln,LSh,aQ];refine .inr ⟨aJ (by kernel_rfl),?_⟩;refine aj _ (aG (cm) (by simp)) ?_;simp -implicitDefEqProofs -dsimp[hb2,hxl,hw1,aM i2 (by omega),L1,LLn,Ln,LSh,aQ];refine hN3 (i2+1,ld+xa) _ _ ⟨by simp only;omega,by simp only;omega,by simp only;omega,by simp only;omega⟩ (by simp only;omega) (by simp) ⟨[],rfl⟩ (by simp) (by simp)
     ·rw[show e.contains v=false by simpa using hm]at cm;rw[if_neg hm]at hd;refine wx ?_;simp -implicitDefEqProofs -dsimp[hb2,hxl,hj,hej,L1,LLn,Ln,LSh,aQ];refine .inr ⟨aJ (by kernel_rfl),?_⟩;refine aj _ (aG (cm) (by simp)) ?_;simp -implicitDefEqProofs -dsimp[aM i2 (by omega),L1,LLn,Ln,LSh,aQ];refine hN3 (i2+1,ld) _ _ ⟨by simp only;omega,by simp only;omega,by simp only;omega,by simp only;omega⟩ (by simp only;omega) (by simp) ⟨[],rfl⟩ (by simp) (by simp)
    ·rw[List.drop_of_length_le (by omega),ldR]at hd
     have hld:ldR es v l=ld:=by omega
     rw[hld,ak _ _ hvb]at hz;obtain⟨w,hww⟩:∃w,w=ws[v]:=⟨_,rfl⟩;rw[←hww]at hz;have hwl:=hww.symm;have cm:=has39 ex v fx hx;simp only[Ln]at cm;by_cases hlt:w<ld
     ·rw[decide_eq_false (by omega),Bool.false_or]at hz
      cases hm:ex.contains v with
      | true =>
       rw[hm]at cm hz;refine wx ?_;simp -implicitDefEqProofs -dsimp[hb2,L1,LLn,Ln,LSh,aQ];refine hQ3 _ _ _ ?_;simp -implicitDefEqProofs -dsimp[hvb,hwl,hlt,ac,L1,LLn,Ln,LSh,aQ];refine(aG (cm) (by simp)).mono ?_;rintro r H' ⟨rfl,rfl⟩;simp -implicitDefEqProofs -dsimp[aM v (by omega),L1,LLn,Ln,LSh,aQ];refine hN2 (v+1) _ _ ⟨by omega,by simpa using hz⟩ (by omega) (by simp) ⟨[],rfl⟩ (by simp) (by simp)
      | false =>
       rw[hm]at cm hz;refine wx ?_;simp -implicitDefEqProofs -dsimp[hb2,L1,LLn,Ln,LSh,aQ];refine hQ3 _ _ _ ?_;simp -implicitDefEqProofs -dsimp[hvb,hwl,hlt,ac,L1,LLn,Ln,LSh,aQ];refine(aG (cm) (by simp)).mono ?_;rintro r H' ⟨rfl,rfl⟩;simp -implicitDefEqProofs -dsimp[L1,LLn,Ln,LSh,aQ];refine hQ2 _ _ _ ?_;simp -implicitDefEqProofs -dsimp[L1,LLn,Ln,LSh,aQ];simpa using hz.symm
     ·rw[decide_eq_true (by omega),Bool.true_or]at hz;refine wx ?_;simp -implicitDefEqProofs -dsimp[hb2,L1,LLn,Ln,LSh,aQ];refine hQ3 _ _ _ ?_;simp -implicitDefEqProofs -dsimp[hvb,hwl,hlt,ac,aM v (by omega),L1,LLn,Ln,LSh,aQ];refine hN2 (v+1) _ _ ⟨by omega,by simpa using hz⟩ (by omega) (by simp) ⟨[],rfl⟩ (by simp) (by simp)
   ·rw[show ws.length-v=0 by omega,List.range'_zero,List.all_nil,Bool.true_and,←hsm]at hz;by_cases hq:b≤sm
    ·rw[decide_eq_true hq]at hz;refine wx ?_;simp -implicitDefEqProofs -dsimp[hvb,L1,LLn,Ln,LSh,aQ];refine hQ2 _ _ _ ?_;simp -implicitDefEqProofs -dsimp[hq,L1,LLn,Ln,LSh,aQ];exact hz.symm
    ·rw[decide_eq_false hq]at hz;refine wx ?_;simp -implicitDefEqProofs -dsimp[hvb,L1,LLn,Ln,LSh,aQ];refine hQ2 _ _ _ ?_;simp -implicitDefEqProofs -dsimp[hq,L1,LLn,Ln,LSh,aQ];exact hz.symm
inductive ExpA (H:List B):V→V→Prop
 | one (v v':V) (h:Exp H v v'):ExpA H v v'
 | agg (cs ds:List V) (hl:cs.length=ds.length) (h1:∀d∈ds,d.one=true) (h:∀(i:Nat) c d,cs[i]?=some c→ds[i]?=some d→∃m,Exp H c m∧Le m d):ExpA H (.agg cs) (.agg ds)
theorem rel_expA{s:St}(hg:AM.Good s){open_:Nat→Prop}{v v':V}{u:Value}(h:Rel s v u)(he:ExpA s.H v v')(ho:∀k,open_ k):Rel (base (hold s open_) s.w) v' u:=by
 cases he with
 | one _ _ h1=>exact h.exp hg h1 (fun _ _ _ _ _=>ho _)
 | agg cs ds hl h1 h2 =>
  cases h with
  | agg _ us hu h3 h4 =>
   refine .agg ds us (by omega) h1 (fun i d u hd hu=>?_);have hc:cs[i]?=some (cs[i]'(by have:=aE hd;omega)):=List.getElem?_eq_getElem _;obtain⟨m,hm,hl⟩:=h2 i _ d hc hd;exact hl.rel ((h4 i _ u hc hu).exp hg hm (fun _ _ _ _ _=>ho _))
theorem conH_of_conPA{P:Program}{f:FuncId}{args args':List V}{K:V→Prop}{H:List B}(h:aS P f args' K)(hl:args.length=args'.length)(he:∀(i:Nat) a a',args[i]?=some a→args'[i]?=some a'→ExpA H a a')(hs:∀r,K r→Scalar r):az P f args H fun r H'=>H'=H∧AM.Pure r∧K r:=by
 refine⟨h.1,fun s vals hH hg hsz hrel=>?_⟩;obtain⟨rfl,hZ⟩:=hH
 let op:Nat→Prop:=fun _=>True
 have hFl:∀b,hold s op b→b<s.w.heap.size:=by
  rintro b (h | ⟨k,hk,rfl,_⟩)
  ·exact hg.fl b h
  ·exact(hg.lt k hk).1
 refine(h.2 (hold s op) s.w vals (hZ.hold op) hFl (by omega) (fun i a' u ha' hu=>?_)).mono fun e w' ⟨u,r,a1,a2,a3,a4,a5⟩=>?_
 ·have hi:i<args.length:=by have:=aE ha';omega
  have ha:args[i]?=some args[i]:=List.getElem?_eq_getElem hi;exact rel_expA hg (hrel i _ u ha hu) (he i _ a' ha ha') (fun _=>trivial)
 ·obtain⟨g1,g2⟩:=fQ hg (w:=w') a4.os a4.tape a4.output a4.size a4.block;exact⟨u,s.at w',r,a1,rfl,g1,g2,a3.scalar (hs r a5),rfl,a2,a5⟩
theorem callXA{P:Program}{f:FuncId}{args args':List V}{H:List B}{v:V}(h:aS P f args' fun r=>r=v)(hl:args.length=args'.length)(he:∀(i:Nat) a a',args[i]?=some a→args'[i]?=some a'→ExpA H a a')(hs:Scalar v):
  aV P (.fn f []) args H fun r H'=>r=v∧H'=H:=by
 simp only[aV,List.append_nil]
 exact(conH_of_conPA h hl he (fun r hr=>by subst hr;exact hs)).mono fun r H' ⟨h1,_,h3⟩=>⟨h3,h1⟩
theorem nw(ws:List Int)(es:List (List Nat)):∀(k:Nat) (ch ex:List Nat) (b:Int) (l:List Nde),-1≤cE ws es k ch ex b l∧cE ws es k ch ex b l≤l.length
 | 0,_,_,_,l=>by simp[cE]
 | k+1,_,_,_,[]=>by simp[cE]
 | k+1,ch,ex,b,x::r=>by
  rw[cE];split
  ·split
   ·simp;omega
   ·simp;omega
  ·split
   ·simp;omega
   ·split
    ·simp;omega
    ·have h1:=nw ws es k (ch++[x.v.toNat]) ex (b-ws.getD x.v.toNat 0) r;rename_i h5;obtain⟨j,hj⟩:∃j:Nat,cE ws es k (ch++[x.v.toNat]) ex (b-ws.getD x.v.toNat 0) r=j:=⟨_,(Int.toNat_of_nonneg (by omega)).symm⟩;rw[hj,Int.toNat_natCast];rw[hj]at h1;have h2:=nw ws es k ch (ex++[x.v.toNat]) b (r.drop j);rw[List.length_drop]at h2;split
     ·simp;omega
     ·simp only[List.length_cons];omega
theorem part_nil(ws:List Int)(es:List (List Nat))(k:Nat)(ch ex:List Nat)(b:Int):cE ws es k ch ex b [] = -1:=by cases k<;>rfl
theorem part39{ws:List Int}{es:List (List Nat)}(hb:HsB ws es)(f g fl:Bool)(k:Nat):∀(l:List Nde) (ch ex:List Nat) (fc fx:Bool) (b:Int),l.length≤k→ch.length+ex.length+l.length≤1000000→-9000000000000000000+1000000*(l.length:Int)≤b→b≤9000000000000000000 →
  aS Tryz.prog 115 [ah f g ws es,cy fc fx ch ex b,LNd fl l] fun r=>r = .int .i64 (cE ws es k ch ex b l):=by
 have hn:=hb.n
 have hne:es.length≤1000000:=by have:=hb.ne;omega
 have hel:∀e∈es,e.length≤1000000:=fun e he=>by have:=hb.ed.len e he;omega
 induction k with
 | zero =>
  intro l ch ex fc fx b hk hm hb1 hb2;have:l=[]:=List.length_eq_zero_iff.1 (by omega);subst this;rw[part_nil];refine aC (aD tok Tryz.func115 rfl rfl ?_);refine wx ?_;simp -implicitDefEqProofs -dsimp[Tryz.f115,List.replicate,ah,cy,LNd,L1,LLn,Ln]
 | succ k ih =>
  intro l ch ex fc fx b hk hm hb1 hb2
  cases l with
  | nil =>
   rw[part_nil];refine aC (aD tok Tryz.func115 rfl rfl ?_);refine wx ?_;simp -implicitDefEqProofs -dsimp[Tryz.f115,List.replicate,ah,cy,LNd,L1,LLn,Ln]
  | cons x r =>
   simp only[List.length_cons]at hk hb1 hm;obtain⟨xv,xl⟩:=x;obtain⟨P,hP⟩:∃P,P=cE ws es (k+1) ch ex b (⟨xv,xl⟩::r):=⟨_,rfl⟩;rw[←hP];rw[cE]at hP;simp only at hP
   have hrl:¬((r.length:Int)+1=0):=by omega
   have cc:=closed39 ws es f g fc fx ch ex b hne hel (by omega);have cr:=right39 ws es f g fc fx false ch ex b xl (by omega) hne hel (by omega) (by omega);simp only[ah,cy,L1,LLn,Ln,LSh]at cc cr;by_cases c1:xv = -1
   ·rw[if_pos c1]at hP;subst c1
    cases xl with
    | nil =>
     rw[if_pos rfl]at hP;by_cases c2:b≤0
     ·rw[decide_eq_true c2,Bool.true_or,if_pos rfl]at hP;subst hP;refine aC (aD tok Tryz.func115 rfl rfl ?_);refine wx ?_;simp -implicitDefEqProofs -dsimp[Tryz.f115,List.replicate,ah,cy,LNd,hrl,c2,L1,LLn,Ln,LSh,aT,aQ];exact .inr (aJ (by kernel_rfl))
     ·rw[decide_eq_false c2,Bool.false_or]at hP
      cases hc:fN es ex with
      | true =>
       rw[hc]at hP cc;rw[if_pos rfl]at hP;subst hP;refine aC (aD tok Tryz.func115 rfl rfl ?_);refine wx ?_;simp -implicitDefEqProofs -dsimp[Tryz.f115,List.replicate,ah,cy,LNd,hrl,c2,L1,LLn,Ln,LSh,aT,aQ];refine .inr ⟨aJ (by kernel_rfl),?_⟩;refine aj _ (aG (cc) (by simp)) ?_;simp -implicitDefEqProofs -dsimp[L1,LLn,Ln,LSh,aT,aQ]
      | false =>
       rw[hc]at hP cc;rw[if_neg (by simp)]at hP;subst hP;refine aC (aD tok Tryz.func115 rfl rfl ?_);refine wx ?_;simp -implicitDefEqProofs -dsimp[Tryz.f115,List.replicate,ah,cy,LNd,hrl,c2,L1,LLn,Ln,LSh,aT,aQ];refine .inr ⟨aJ (by kernel_rfl),?_⟩;refine aj _ (aG (cc) (by simp)) ?_;simp -implicitDefEqProofs -dsimp[L1,LLn,Ln,LSh,aT,aQ]
    | cons y ys =>
     have hyl:¬((ys.length:Int)+1=0):=by omega
     have hyl2:(0:Int)<(ys.length:Int)+1:=by omega
     rw[if_neg (List.cons_ne_nil y ys)]at hP
     cases hc:ia ws es ch ex b (y::ys) with
     | true =>
      rw[hc]at hP cr;rw[if_pos rfl]at hP;subst hP;refine aC (aD tok Tryz.func115 rfl rfl ?_);refine wx ?_;simp -implicitDefEqProofs -dsimp[Tryz.f115,List.replicate,ah,cy,LNd,hrl,hyl,hyl2,L1,LLn,Ln,LSh,aT,aQ];refine .inr ⟨aJ (by kernel_rfl),?_⟩;simp only[List.map_cons,aQ]at cr;refine aj _ (aG (cr) (by simp)) ?_;simp -implicitDefEqProofs -dsimp[L1,LLn,Ln,LSh,aT,aQ]
     | false =>
      rw[hc]at hP cr;rw[if_neg (by simp)]at hP;subst hP;refine aC (aD tok Tryz.func115 rfl rfl ?_);refine wx ?_;simp -implicitDefEqProofs -dsimp[Tryz.f115,List.replicate,ah,cy,LNd,hrl,hyl,hyl2,L1,LLn,Ln,LSh,aT,aQ];refine .inr ⟨aJ (by kernel_rfl),?_⟩;simp only[List.map_cons,aQ]at cr;refine aj _ (aG (cr) (by simp)) ?_;simp -implicitDefEqProofs -dsimp[L1,LLn,Ln,LSh,aT,aQ]
   ·rw[if_neg c1]at hP;by_cases c2:xl=[]
    ·subst c2;by_cases c3:xv<0
     ·rw[if_pos (.inr (.inl c3))]at hP;subst hP;refine aC (aD tok Tryz.func115 rfl rfl ?_);refine wx ?_;simp -implicitDefEqProofs -dsimp[Tryz.f115,List.replicate,ah,cy,LNd,hrl,c1,c3,L1,LLn,Ln,LSh,aT,aQ]
     by_cases c4:(ws.length:Int)≤xv
     ·rw[if_pos (.inr (.inr (.inl c4)))]at hP;subst hP;refine aC (aD tok Tryz.func115 rfl rfl ?_);refine wx ?_;simp -implicitDefEqProofs -dsimp[Tryz.f115,List.replicate,ah,cy,LNd,hrl,c1,c3,c4,L1,LLn,Ln,LSh,aT,aQ]
     obtain⟨v,rfl⟩:∃v:Nat,xv=v:=⟨xv.toNat,by omega⟩;rw[Int.toNat_natCast]at hP
     have hvw:v<ws.length:=by omega
     have h1:=has39 ch v fc (by omega);have h2:=has39 ex v fx (by omega);simp only[Ln]at h1 h2;by_cases c5:v∈ch
     ·rw[if_pos (.inr (.inr (.inr (.inl c5))))]at hP;rw[List.contains_iff_mem.2 c5]at h1;subst hP;refine aC (aD tok Tryz.func115 rfl rfl ?_);refine wx ?_;simp -implicitDefEqProofs -dsimp[Tryz.f115,List.replicate,ah,cy,LNd,hrl,c1,c3,c4,L1,LLn,Ln,LSh,aT,aQ];refine(aG (h1) (by simp)).mono ?_;rintro r H' ⟨rfl,rfl⟩;simp -implicitDefEqProofs -dsimp[L1,LLn,Ln,LSh,aT,aQ]
     rw[show ch.contains v=false by simpa using c5]at h1;by_cases c6:v∈ex
     ·rw[if_pos (.inr (.inr (.inr (.inr c6))))]at hP;rw[List.contains_iff_mem.2 c6]at h2;subst hP;refine aC (aD tok Tryz.func115 rfl rfl ?_);refine wx ?_;simp -implicitDefEqProofs -dsimp[Tryz.f115,List.replicate,ah,cy,LNd,hrl,c1,c3,c4,L1,LLn,Ln,LSh,aT,aQ];refine(aG (h1) (by simp)).mono ?_;rintro r H' ⟨rfl,rfl⟩;simp -implicitDefEqProofs -dsimp[L1,LLn,Ln,LSh,aT,aQ];refine(aG (h2) (by simp)).mono ?_;rintro r H' ⟨rfl,rfl⟩;simp -implicitDefEqProofs -dsimp[L1,LLn,Ln,LSh,aT,aQ]
     rw[show ex.contains v=false by simpa using c6]at h2;rw[if_neg (by rintro(h | h | h | h | h)<;>first | omega | exact h rfl | exact c5 h | exact c6 h)]at hP;have hwl:=(ak ws 0 hvw).symm;have hwb:=hb.w v hvw;obtain⟨w,hw⟩:∃w,w=ws.getD v 0:=⟨_,rfl⟩;rw[←hw]at hwl hwb hP;have hbw:IntKind.i64.wrap (b-w)=b-w:=wrap64 (by omega) (by omega);refine aC (aD tok Tryz.func115 rfl rfl ?_);refine wx ?_;simp -implicitDefEqProofs -dsimp[Tryz.f115,List.replicate,ah,cy,LNd,hrl,c1,c3,c4,L1,LLn,Ln,LSh,aT,aQ];refine(aG (h1) (by simp)).mono ?_;rintro r H' ⟨rfl,rfl⟩;simp -implicitDefEqProofs -dsimp[L1,LLn,Ln,LSh,aT,aQ];refine(aG (h2) (by simp)).mono ?_;rintro r H' ⟨rfl,rfl⟩;simp -implicitDefEqProofs -dsimp[L1,LLn,Ln,LSh,aT,aQ];have i1:=ih r (ch++[v]) ex false fx (b-w) (by omega) (by simp;omega) (by omega) (by omega);obtain⟨p,hp⟩:∃p,p=cE ws es k (ch++[v]) ex (b-w) r:=⟨_,rfl⟩;rw[←hp]at i1 hP;have hpl:=nw ws es k (ch++[v]) ex (b-w) r;rw[←hp]at hpl;simp only[ah,cy,L1,LLn,Ln,LNd]at i1;have htk:List.take r.length (r.map aT)=r.map aT:=List.take_of_length_le (by simp)
     have k1:∀(H:List B) (kk:Nat),H[kk]?=some (.buf 3 1 (ch.map eN++[.int .i64 (v:Int)]) false)→aV Tryz.prog (.fn 115 []) [.agg [.lst 1 f (ws.map ac),.lst 1 g (es.map (Ln false))],.agg [.buf kk 0 (ch.length+1) (ch.length+1),.lst 1 fx (ex.map eN),.int .i64 (b-w)],.lst 2 fl (r.map aT)] H fun r' H'=>r' = .int .i64 p∧H'=H:=fun H kk hk=>by
      refine callXA i1 rfl (fun i a a' h1 h2=>?_) (.int _ _)
      match i with
      | 0=>simp at h1 h2;subst h1;subst h2;exact .one _ _ (.pure _ (by simp))
      | 1 =>
       simp only[List.getElem?_cons_succ,List.getElem?_cons_zero,Option.some.injEq]at h1 h2;subst h1;subst h2;refine .agg _ _ rfl (by simp[V.one]) (fun i c d h3 h4=>?_)
       match i with
       | 0 =>
        simp only[List.getElem?_cons_zero,Option.some.injEq]at h3 h4;subst h3;subst h4;refine⟨_,dr hk (by simp) (by simp[or_imp,forall_and]),?_⟩;rw[List.map_append];exact .refl _
       | 1=>simp at h3 h4;subst h3;subst h4;exact⟨_,.pure _ (by simp),.refl _⟩
       | 2=>simp at h3 h4;subst h3;subst h4;exact⟨_,.pure _ (by simp),.refl _⟩
       | n+3=>simp at h3
      | 2=>simp at h1 h2;subst h1;subst h2;exact .one _ _ (.pure _ (by simp))
      | n+3=>simp at h1
     have hpd:∀(j:Nat) (x:V),x∈List.drop j (r.map aT)→AM.Pure x:=fun j x hx=>by
      obtain⟨y,_,rfl⟩:=List.mem_map.1 (List.mem_of_mem_drop hx);exact encNd_pure y
     have k2:∀(j:Nat),p=j→∀(H:List B) (kk:Nat),H[kk]?=some (.buf 3 1 (ex.map eN++[.int .i64 (v:Int)]) false)→aV Tryz.prog (.fn 115 []) [.agg [.lst 1 f (ws.map ac),.lst 1 g (es.map (Ln false))],.agg [.lst 1 fc (ch.map eN),.buf kk 0 (ex.length+1) (ex.length+1),.int .i64 b],.lst 2 fl (List.drop j (r.map aT))] H fun r' H'=>r' = .int .i64 (cE ws es k ch (ex++[v]) b (r.drop j))∧H'=H:=fun j hj H kk hk=>by
      have i2:=ih (r.drop j) ch (ex++[v]) fc false b (by rw[List.length_drop];omega) (by rw[List.length_drop];simp;omega) (by rw[List.length_drop];omega) (by omega);simp only[ah,cy,L1,LLn,Ln,LNd]at i2;rw[List.map_drop]at i2;refine callXA i2 rfl (fun i a a' h1 h2=>?_) (.int _ _)
      match i with
      | 0=>simp at h1 h2;subst h1;subst h2;exact .one _ _ (.pure _ (by simp))
      | 1 =>
       simp only[List.getElem?_cons_succ,List.getElem?_cons_zero,Option.some.injEq]at h1 h2;subst h1;subst h2;refine .agg _ _ rfl (by simp[V.one]) (fun i c d h3 h4=>?_)
       match i with
       | 0=>simp at h3 h4;subst h3;subst h4;exact⟨_,.pure _ (by simp),.refl _⟩
       | 1 =>
        simp only[List.getElem?_cons_succ,List.getElem?_cons_zero,Option.some.injEq]at h3 h4;subst h3;subst h4;refine⟨_,dr hk (by simp) (by simp[or_imp,forall_and]),?_⟩;rw[List.map_append];exact .refl _
       | 2=>simp at h3 h4;subst h3;subst h4;exact⟨_,.pure _ (by simp),.refl _⟩
       | n+3=>simp at h3
      | 2=>simp only[List.getElem?_cons_succ,List.getElem?_cons_zero,Option.some.injEq]at h1 h2;subst h1;subst h2;exact .one _ _ (.pure _ (.lst _ _ _ (hpd j)))
      | n+3=>simp at h1
     obtain⟨G,hG⟩:∃G:Nat→Int,G=fun j=>cE ws es k ch (ex++[v]) b (r.drop j):=⟨_,rfl⟩
     have hGle:∀j,-1≤G j∧G j≤r.length:=fun j=>by
      have:=nw ws es k ch (ex++[v]) b (r.drop j);rw[List.length_drop]at this;rw[hG];exact⟨this.1,by have:=this.2;simp only;omega⟩
     have hGd:∀j,cE ws es k ch (ex++[v]) b (r.drop j)=G j:=fun j=>by rw[hG]
     simp only[hGd]at k2 hP;clear hG hGd;by_cases d1:ch=[]
     ·subst d1;refine aK (ai tok mixed [4,7] [(0,[1,2]),(5,[0]),(6,[0]),(8,[0,1]),(9,[0,1]),(10,[0,1]),(11,[0,1]),(12,[0,1]),(13,[0,1]),(14,[0,1]),(15,[0,1]),(16,[0,1]),(17,[0,1]),(19,[0,1]),(20,[0,1])] [(.int .i64 p,[])] (by kernel_rfl) fun C K hC hK=>?_);simp -implicitDefEqProofs [hvw,hwl,hbw,ac,eN,htk,L1,LLn,Ln,LSh,aT,aQ];refine⟨hC _ _ _ _ (k1 _ _ rfl),hK _ _ ?_⟩;clear hC hK C K;by_cases hp0:p<0
      ·rw[if_pos hp0]at hP;subst hP;simp -implicitDefEqProofs -dsimp[hp0,L1,LLn,Ln,LSh,aT,aQ]
      ·rw[if_neg hp0]at hP;obtain⟨j,hj⟩:∃j:Nat,p=j:=⟨p.toNat,by omega⟩;have k3:=k2 j hj;rw[hj,Int.toNat_natCast]at hP;subst hj;obtain⟨p2,hp2⟩:∃p2,p2=G j:=⟨_,rfl⟩;have hpl2:=hGle j;rw[←hp2]at k3 hP hpl2
       have hjl:j≤r.length:=by omega
       have hw1:IntKind.i64.wrap (1+(j:Int))=(j:Int)+1:=by rw[wrap64 (by omega) (by omega)];omega
       simp -implicitDefEqProofs -dsimp[hp0,L1,LLn,Ln,LSh,aT,aQ];by_cases d2:ex=[]
       ·subst d2;refine aK (ai tok mixed [6,9] [(0,[1,2]),(1,[1,2]),(2,[1,2]),(7,[0]),(8,[0]),(10,[0,1]),(11,[0,1]),(13,[0,1]),(14,[0,1]),(15,[0,1]),(16,[0,1])] [(.int .i64 p2,[])] (by kernel_rfl) fun C K hC hK=>?_);simp -implicitDefEqProofs [hw1,htk,eN,hjl,show(0:Int)≤(j:Int)+1 by omega,L1,LLn,Ln,LSh,aT,aQ];refine⟨hC _ _ _ _ (k3 _ _ rfl),hK _ _ ?_⟩;clear hC hK C K;by_cases hq0:p2<0
        ·rw[if_pos hq0]at hP;subst hP;simp -implicitDefEqProofs -dsimp[hq0,L1,LLn,Ln,LSh,aT,aQ]
        ·rw[if_neg hq0]at hP;have hw2:IntKind.i64.wrap (1+(j:Int))=1+(j:Int):=wrap64 (by omega) (by omega);have hw3:IntKind.i64.wrap (1+(j:Int)+p2)=1+(j:Int)+p2:=wrap64 (by omega) (by omega);subst hP;simp -implicitDefEqProofs -dsimp[hq0,hw2,hw3,L1,LLn,Ln,LSh,aT,aQ]
       ·refine aK (ai tok mixed [6,9] [(0,[1,2]),(1,[1,2]),(2,[1,2]),(7,[0]),(8,[0]),(10,[0,1]),(11,[0,1]),(13,[0,1]),(14,[0,1]),(15,[0,1]),(16,[0,1])] [(.int .i64 p2,[])] (by kernel_rfl) fun C K hC hK=>?_);simp -implicitDefEqProofs [d2,hw1,htk,eN,hjl,show(0:Int)≤(j:Int)+1 by omega,show ex.length≤9223372036854775807 by omega,show ex.length*8≤140737488355328 by omega,show ex.length+1≤9223372036854775807 by omega,show(ex.length+1)*8≤140737488355328 by omega,L1,LLn,Ln,LSh,aT,aQ];refine⟨hC _ _ _ _ (k3 _ _ rfl),hK _ _ ?_⟩;clear hC hK C K;by_cases hq0:p2<0
        ·rw[if_pos hq0]at hP;subst hP;simp -implicitDefEqProofs -dsimp[hq0,L1,LLn,Ln,LSh,aT,aQ]
        ·rw[if_neg hq0]at hP;have hw2:IntKind.i64.wrap (1+(j:Int))=1+(j:Int):=wrap64 (by omega) (by omega);have hw3:IntKind.i64.wrap (1+(j:Int)+p2)=1+(j:Int)+p2:=wrap64 (by omega) (by omega);subst hP;simp -implicitDefEqProofs -dsimp[hq0,hw2,hw3,L1,LLn,Ln,LSh,aT,aQ]
     ·refine aK (ai tok mixed [4,7] [(0,[1,2]),(5,[0]),(6,[0]),(8,[0,1]),(9,[0,1]),(10,[0,1]),(11,[0,1]),(12,[0,1]),(13,[0,1]),(14,[0,1]),(15,[0,1]),(16,[0,1]),(17,[0,1]),(19,[0,1]),(20,[0,1])] [(.int .i64 p,[])] (by kernel_rfl) fun C K hC hK=>?_);simp -implicitDefEqProofs [d1,hvw,hwl,hbw,ac,eN,htk,show ch.length≤9223372036854775807 by omega,show ch.length*8≤140737488355328 by omega,show ch.length+1≤9223372036854775807 by omega,show(ch.length+1)*8≤140737488355328 by omega,L1,LLn,Ln,LSh,aT,aQ];refine⟨hC _ _ _ _ (k1 _ _ rfl),hK _ _ ?_⟩;clear hC hK C K;by_cases hp0:p<0
      ·rw[if_pos hp0]at hP;subst hP;simp -implicitDefEqProofs -dsimp[hp0,L1,LLn,Ln,LSh,aT,aQ]
      ·rw[if_neg hp0]at hP;obtain⟨j,hj⟩:∃j:Nat,p=j:=⟨p.toNat,by omega⟩;have k3:=k2 j hj;rw[hj,Int.toNat_natCast]at hP;subst hj;obtain⟨p2,hp2⟩:∃p2,p2=G j:=⟨_,rfl⟩;have hpl2:=hGle j;rw[←hp2]at k3 hP hpl2
       have hjl:j≤r.length:=by omega
       have hw1:IntKind.i64.wrap (1+(j:Int))=(j:Int)+1:=by rw[wrap64 (by omega) (by omega)];omega
       simp -implicitDefEqProofs -dsimp[hp0,L1,LLn,Ln,LSh,aT,aQ];by_cases d2:ex=[]
       ·subst d2;refine aK (ai tok mixed [6,9] [(0,[1,2]),(1,[1,2]),(2,[1,2]),(7,[0]),(8,[0]),(10,[0,1]),(11,[0,1]),(13,[0,1]),(14,[0,1]),(15,[0,1]),(16,[0,1])] [(.int .i64 p2,[])] (by kernel_rfl) fun C K hC hK=>?_);simp -implicitDefEqProofs [hw1,htk,eN,hjl,show(0:Int)≤(j:Int)+1 by omega,L1,LLn,Ln,LSh,aT,aQ];refine⟨hC _ _ _ _ (k3 _ _ rfl),hK _ _ ?_⟩;clear hC hK C K;by_cases hq0:p2<0
        ·rw[if_pos hq0]at hP;subst hP;simp -implicitDefEqProofs -dsimp[hq0,L1,LLn,Ln,LSh,aT,aQ]
        ·rw[if_neg hq0]at hP;have hw2:IntKind.i64.wrap (1+(j:Int))=1+(j:Int):=wrap64 (by omega) (by omega);have hw3:IntKind.i64.wrap (1+(j:Int)+p2)=1+(j:Int)+p2:=wrap64 (by omega) (by omega);subst hP;simp -implicitDefEqProofs -dsimp[hq0,hw2,hw3,L1,LLn,Ln,LSh,aT,aQ]
       ·refine aK (ai tok mixed [6,9] [(0,[1,2]),(1,[1,2]),(2,[1,2]),(7,[0]),(8,[0]),(10,[0,1]),(11,[0,1]),(13,[0,1]),(14,[0,1]),(15,[0,1]),(16,[0,1])] [(.int .i64 p2,[])] (by kernel_rfl) fun C K hC hK=>?_);simp -implicitDefEqProofs [d2,hw1,htk,eN,hjl,show(0:Int)≤(j:Int)+1 by omega,show ex.length≤9223372036854775807 by omega,show ex.length*8≤140737488355328 by omega,show ex.length+1≤9223372036854775807 by omega,show(ex.length+1)*8≤140737488355328 by omega,L1,LLn,Ln,LSh,aT,aQ];refine⟨hC _ _ _ _ (k3 _ _ rfl),hK _ _ ?_⟩;clear hC hK C K;by_cases hq0:p2<0
        ·rw[if_pos hq0]at hP;subst hP;simp -implicitDefEqProofs -dsimp[hq0,L1,LLn,Ln,LSh,aT,aQ]
        ·rw[if_neg hq0]at hP;have hw2:IntKind.i64.wrap (1+(j:Int))=1+(j:Int):=wrap64 (by omega) (by omega);have hw3:IntKind.i64.wrap (1+(j:Int)+p2)=1+(j:Int)+p2:=wrap64 (by omega) (by omega);subst hP;simp -implicitDefEqProofs -dsimp[hq0,hw2,hw3,L1,LLn,Ln,LSh,aT,aQ]
    ·rw[if_pos (.inl c2)]at hP;subst hP;have hyl:=List.length_pos_iff.2 c2;refine aC (aD tok Tryz.func115 rfl rfl ?_);refine wx ?_;simp -implicitDefEqProofs -dsimp[Tryz.f115,List.replicate,ah,cy,LNd,hrl,c1,c2,hyl,L1,LLn,Ln,LSh,aT,aQ,L1,LLn,Ln,LSh,aT,aQ]
theorem inRange39(b:Int):aS Tryz.prog 114 [.int .i64 b] fun r=>r = .bool (decide (-1000000000000000≤b)&&decide (b≤1000000000000000)):=by
 by_cases h1 : -1000000000000000≤b
 ·by_cases h2:b≤1000000000000000
  ·rw[decide_eq_true h1,decide_eq_true h2];refine aC (aD tok Tryz.func114 rfl rfl ?_);refine wx ?_;simp -implicitDefEqProofs -dsimp[Tryz.f114,List.replicate,h1,h2]
  ·rw[decide_eq_true h1,decide_eq_false h2];refine aC (aD tok Tryz.func114 rfl rfl ?_);refine wx ?_;simp -implicitDefEqProofs -dsimp[Tryz.f114,List.replicate,h1,h2]
 ·rw[decide_eq_false h1];refine aC (aD tok Tryz.func114 rfl rfl ?_);refine wx ?_;simp -implicitDefEqProofs -dsimp[Tryz.f114,List.replicate,h1]
theorem check39(ws:List Int)(es:List (List Nat))(f g fl:Bool)(b:Int)(l:List Nde)(hl:∀e∈es,e.length≤1000000)(hp:l.length≤1000000):aS Tryz.prog 71 [ah f g ws es,.int .i64 b,LNd fl l] fun r=>r = .bool (eL ws es b l):=by
 have cv:=valid39N ws es f g hl;have ci:=inRange39 b;obtain⟨E,hE⟩:∃E,E=jI ws es:=⟨_,rfl⟩;unfold eL;rw[←hE]at cv ⊢;simp only[ah,L1,LLn]at cv;by_cases h0:E=0
 ·rw[if_pos h0];have hb:=eT.1 (hE.symm.trans h0);subst h0;by_cases h1 : -1000000000000000≤b
  ·by_cases h2:b≤1000000000000000
   ·rw[if_neg (by omega),check_same hb.ed (fun w hw=>by obtain⟨i,hi,rfl⟩:=List.mem_iff_getElem.1 hw;have:=(hb.w i hi).1;rwa [ak _ _ hi]at this)];rw[decide_eq_true h1,decide_eq_true h2,Bool.true_and]at ci;unfold checkRf;by_cases h3:l.length=0
    ·have:l=[]:=List.length_eq_zero_iff.1 h3;subst this;refine aC (aD tok Tryz.func71 rfl rfl ?_);refine wx ?_;simp -implicitDefEqProofs -dsimp[Tryz.f71,List.replicate,ah,LNd,L1,LLn];refine(aG (cv) (by simp)).mono ?_;rintro r H' ⟨rfl,rfl⟩;simp -implicitDefEqProofs -dsimp[L1,LLn];refine(aG (ci) (by simp)).mono ?_;rintro r H' ⟨rfl,rfl⟩;simp -implicitDefEqProofs -dsimp[L1,LLn]
    ·have cp:=part39 hb f g fl (l.length+1) l [] [] false false b (by omega) (by simp;omega) (by omega) (by omega)
     have cp2:aS Tryz.prog 115 [ah f g ws es,.agg [.nilS,.nilS,.int .i64 b],LNd fl l] fun r=>r = .int .i64 (cE ws es (l.length+1) [] [] b l):=by
      refine mr cp rfl (fun i a a' h1 h2=>?_)
      match i with
      | 0=>simp at h1 h2;subst h1;subst h2;exact .refl _
      | 1 =>
       simp only[List.getElem?_cons_succ,List.getElem?_cons_zero,Option.some.injEq]at h1 h2;subst h1;subst h2;refine .agg _ _ rfl (fun i c d h3 h4=>?_)
       match i with
       | 0=>simp at h3 h4;subst h3;subst h4;exact .nil _ _
       | 1=>simp at h3 h4;subst h3;subst h4;exact .nil _ _
       | 2=>simp at h3 h4;subst h3;subst h4;exact .refl _
       | n+3=>simp at h3
      | 2=>simp at h1 h2;subst h1;subst h2;exact .refl _
      | n+3=>simp at h1
     obtain⟨p,hp⟩:∃p,p=cE ws es (l.length+1) [] [] b l:=⟨_,rfl⟩;rw[←hp]at cp2 ⊢;simp only[ah,L1,LLn,LNd]at cp2
     have h4:0<l.length:=by omega
     rw[decide_eq_true h4,Bool.true_and];refine aC (aD tok Tryz.func71 rfl rfl ?_);refine wx ?_;simp -implicitDefEqProofs -dsimp[Tryz.f71,List.replicate,ah,LNd,L1,LLn];refine(aG (cv) (by simp)).mono ?_;rintro r H' ⟨rfl,rfl⟩;simp -implicitDefEqProofs -dsimp[L1,LLn];refine(aG (ci) (by simp)).mono ?_;rintro r H' ⟨rfl,rfl⟩;simp -implicitDefEqProofs -dsimp[h4,L1,LLn];refine(aG (cp2) (by simp)).mono ?_;rintro r H' ⟨rfl,rfl⟩;by_cases h5:p=l.length
     ·simp -implicitDefEqProofs -dsimp[h5,L1,LLn]
     ·simp -implicitDefEqProofs -dsimp[h5,L1,LLn]
   ·rw[if_pos (by omega)];rw[decide_eq_true h1,decide_eq_false h2]at ci;refine aC (aD tok Tryz.func71 rfl rfl ?_);refine wx ?_;simp -implicitDefEqProofs -dsimp[Tryz.f71,List.replicate,ah,LNd,L1,LLn];refine(aG (cv) (by simp)).mono ?_;rintro r H' ⟨rfl,rfl⟩;simp -implicitDefEqProofs -dsimp[L1,LLn];refine(aG (ci) (by simp)).mono ?_;rintro r H' ⟨rfl,rfl⟩;simp -implicitDefEqProofs -dsimp[L1,LLn]
  ·rw[if_pos (by omega)];rw[decide_eq_false h1,Bool.false_and]at ci;refine aC (aD tok Tryz.func71 rfl rfl ?_);refine wx ?_;simp -implicitDefEqProofs -dsimp[Tryz.f71,List.replicate,ah,LNd,L1,LLn];refine(aG (cv) (by simp)).mono ?_;rintro r H' ⟨rfl,rfl⟩;simp -implicitDefEqProofs -dsimp[L1,LLn];refine(aG (ci) (by simp)).mono ?_;rintro r H' ⟨rfl,rfl⟩;simp -implicitDefEqProofs -dsimp[L1,LLn]
 ·rw[if_neg h0];refine aC (aD tok Tryz.func71 rfl rfl ?_);refine wx ?_;simp -implicitDefEqProofs -dsimp[Tryz.f71,List.replicate,ah,LNd,L1,LLn];refine(aG (cv) (by simp)).mono ?_;rintro r H' ⟨rfl,rfl⟩;simp -implicitDefEqProofs -dsimp[h0,L1,LLn]
def LLC(f g:Bool)(cores:List (List Cr)):V:=.lst 1 g (cores.map (LC f))
@[simp] theorem LLC_pure (f g:Bool) (cores:List (List Cr)):AM.Pure (LLC f g cores):=.lst _ _ _ (fun x hx=>by obtain⟨K,_,rfl⟩:=List.mem_map.1 hx;exact LC_pure _ _)
def vsC(cores:List (List Cr)):List Cr:=eR (fZ cores.flatten)
def PRB(cores:List (List Cr)):V:=.tup [ah false false (ab (vsC cores).length) (cores.map fun K=>K.map (dw (vsC cores))),LC false (vsC cores)]
def flC(f:Bool)(K:List Cr):FlV:=⟨f,crL K⟩
theorem cat_crL(f:Bool):∀cores:List (List Cr),cZ (cores.map (flC f))=crL cores.flatten
 | []=>rfl
 | K::cs=>by
  have:=cat_crL f cs;unfold cZ at this ⊢;simp only[List.map_cons,List.flatten_cons,this];unfold crL flC;rw[List.map_append];rfl
theorem mC(cores:List (List Cr))(f g:Bool){n:Nat}(hn:cores.length=n)(hn2:n≤100000)(hK:∀K∈cores,K.length≤100000)(hT:cores.flatten.length≤1000000):
  gK Tryz.prog 100 [LLC f g cores] fun e z xs=>e=49∧z=2∧xs=crL cores.flatten:=by
 have h:=concatO_C (cores.map (flC f)) g (fun l hl x hx=>by
  obtain⟨K,_,rfl⟩:=List.mem_map.1 hl;obtain⟨h1,h2⟩:=iM K x hx;refine⟨h1,h2,?_⟩;obtain⟨c,_,rfl⟩:=List.mem_map.1 hx
  rfl) (by rw[List.length_map];omega) (by rw[cat_crL,bG];exact hT)
 rw[cat_crL,List.map_map]at h;exact h
theorem crL_scalar(F:List Cr):∀x∈crL F,Scalar x:=fun x hx=>by
 obtain⟨c,_,rfl⟩:=List.mem_map.1 hx;exact .agg _ (fun d hd=>by simp only[List.mem_cons,List.not_mem_nil,or_false]at hd;rcases hd with rfl | rfl<;>constructor)
theorem exp_CO{H:List B}{k n e:Nat}{fz:Bool}{cores:List (List Cr)}(hk:H[k]?=some (.buf e 1 (cores.map (LC false)) fz))(hn:cores.length=n):Exp H (.buf k 0 n n) (LLC false false cores):=by
 subst hn;have:=Exp.buf k 0 cores.length e 1 (cores.map (LC false)) fz hk (by simp) (fun x hx=>by obtain⟨K,_,rfl⟩:=List.mem_map.1 hx;exact LC_pure _ _);rw[List.drop_zero,List.length_map,List.take_of_length_le (by simp)]at this;exact this
theorem exp_pre{H:List B}{k e m N:Nat}{fz:Bool}{vs VZ zs:List Cr}(hk:H[k]?=some (.buf e 2 (crL VZ) fz))(hV:VZ=vs++zs)(hm:vs.length=m)(hN:VZ.length=N):Exp H (.buf k 0 m N) (LC false vs):=by
 subst hm;subst hN;have:=Exp.buf k 0 vs.length e 2 (crL VZ) fz hk (by rw[bG,hV];simp) (fun x hx=>(iM VZ x hx).1);rw[List.drop_zero,bG]at this
 have e1:(crL VZ).take vs.length=vs.map aO:=by
  rw[hV];unfold crL;rw[List.map_append,List.take_left' (by simp)]
 rw[e1]at this;exact this
theorem problem_h0(cores:List (List Cr))(g:Bool)(n:Nat)(hn:cores.length=n)(hn2:n≤100000)(hK:∀K∈cores,K.length≤100000)(hT:cores.flatten.length≤1000000):
  az Tryz.prog 63 [LLC false g cores] ([]:List B) fun x y=>∃G r',y=[]++G∧ExpN y 0 x r'∧AM.Pure r'∧r'=PRB cores:=by
 have hcat0:=mC cores false g hn hn2 hK hT;obtain⟨F,hF⟩:∃F,F=cores.flatten:=⟨_,rfl⟩;obtain⟨N,hN⟩:∃N,F.length=N:=⟨_,rfl⟩;obtain⟨S,hS⟩:∃S,S=fZ F:=⟨_,rfl⟩
 have hSl:S.length=N:=by rw[hS,jl,hN]
 obtain⟨vs,hvs⟩:∃vs,vs=eR S:=⟨_,rfl⟩
 have hvv:vsC cores=vs:=by unfold vsC;rw[←hF,←hS,hvs]
 obtain⟨m,hm⟩:∃m,vs.length=m:=⟨_,rfl⟩
 have hmN:m≤N:=by rw[←hm,hvs,←hSl];exact cpF_len S S.length
 obtain⟨VZ,hVZ⟩:∃VZ,VZ=vs++List.replicate (N-m) (⟨0,0⟩:Cr):=⟨_,rfl⟩
 have hVl:VZ.length=N:=by rw[hVZ,List.length_append,List.length_replicate];omega
 have hcl:=bG VZ
 have hNb:N≤1000000:=by rw[←hN,hF];exact hT
 rw[←hF]at hcat0
 have hZ:∀k,rbB k (B.cells [.nilS,.nilS]):=fun k c hc=>by simp at hc;rcases hc with rfl | rfl<;>simp[rb]
 have hrb1:∀bl∈[B.cells [.nilS,.nilS],.buf 49 2 (crL S) false],rbB 2 bl:=by
  intro bl hbl;simp only[List.mem_cons,List.not_mem_nil,or_false]at hbl
  rcases hbl with rfl | rfl
  ·exact hZ _
  ·exact gD _ _ _ _
 have hsort:=nG (H:=[B.cells [.nilS,.nilS],.buf 49 2 (crL F) false]) (k:=1) F N hN (by simp) (by omega);rw[←hS]at hsort;have hcomp:=compact_h (H:=[B.cells [.nilS,.nilS],.buf 49 2 (crL S) false]) (k0:=1) (by simp) hrb1 S N hSl hNb;rw[←hvs,hm,←hVZ]at hcomp;simp only[CB,List.set_cons_succ,List.set_cons_zero]at hsort hcomp;simp only[LLC]at hcat0;refine aD tok Tryz.func63 rfl rfl ?_;refine wx ?_;simp -implicitDefEqProofs -dsimp[Tryz.f63,List.replicate,LC,LLC];refine(ep hcat0 (by simp)).mono ?_;rintro r H' ⟨e,z,xs,rfl,rfl,_,rfl,rfl,rfl⟩;rw[bG,hN];simp -implicitDefEqProofs -dsimp[LC,LLC];refine bJ hsort ?_;rintro r H' ⟨rfl,rfl⟩;simp -implicitDefEqProofs -dsimp[LC,LLC];refine bJ hcomp ?_;rintro r H' ⟨rfl,rfl⟩;simp -implicitDefEqProofs -dsimp[hcl,hVl,LC,LLC]
 have hrI:∀(k:Nat) (l:List Int) (fz:Bool),rbB k (.buf 2 1 (l.map ac) fz):=fun k l fz=>(rbB_buf1 (fun x hx=>by obtain⟨y,_,rfl⟩:=List.mem_map.1 hx;exact⟨by simp[ac],rfl⟩)).2 trivial
 have hrN:∀(k:Nat) (l:List Nat) (fz:Bool),rbB k (.buf 3 1 (nuL l) fz):=fun k l fz=>(rbB_buf1 (cY l)).2 trivial
 have hrE:∀(k:Nat) (es:List (List Nat)) (fz:Bool),rbB k (.buf 109 1 (es.map (Ln false)) fz):=fun k es fz=>(rbB_buf1 (fun x hx=>by obtain⟨e,_,rfl⟩:=List.mem_map.1 hx;exact⟨by simp,rfl⟩)).2 trivial
 have hrW:∀i:Nat,∀bl∈[B.cells [.nilS,.nilS],.buf 49 2 (crL VZ) false,B.cells [.buf 3 0 i i,.nilS],.buf 2 1 ((ab i).map ac) false],rbB 4 bl:=by
  intro i bl hbl;simp only[List.mem_cons,List.not_mem_nil,or_false]at hbl
  rcases hbl with rfl | rfl | rfl | rfl
  ·exact hZ _
  ·exact gD _ _ _ _
  ·intro c hc;simp at hc;rcases hc with rfl | rfl<;>simp[rb]
  ·exact hrI _ _ _
 have hrV:∀(i j:Nat) (es:List (List Nat)),∀bl∈[B.cells [.nilS,.nilS],.buf 49 2 (crL VZ) false,B.cells [.buf 3 0 i i,.buf 4 0 j j],.buf 2 1 ((ab i).map ac) false,.buf 109 1 (es.map (Ln false)) false],rbB 5 bl:=by
  intro i j es bl hbl;simp only[List.mem_cons,List.not_mem_nil,or_false]at hbl
  rcases hbl with rfl | rfl | rfl | rfl | rfl
  ·exact hZ _
  ·exact gD _ _ _ _
  ·intro c hc;simp at hc;rcases hc with rfl | rfl<;>simp[rb]
  ·exact hrI _ _ _
  ·exact hrE _ _ _
 have hrU:∀(i j:Nat) (es:List (List Nat)) (l:List Nat),∀bl∈[B.cells [.nilS,.nilS],.buf 49 2 (crL VZ) false,B.cells [.buf 3 0 i i,.buf 4 0 j j],.buf 2 1 ((ab i).map ac) false,.buf 109 1 (es.map (Ln false)) false,.buf 3 1 (nuL l) false],rbB 6 bl:=by
  intro i j es l bl hbl;simp only[List.mem_cons,List.not_mem_nil,or_false]at hbl
  rcases hbl with rfl | rfl | rfl | rfl | rfl | rfl
  ·exact hZ _
  ·exact gD _ _ _ _
  ·intro c hc;simp at hc;rcases hc with rfl | rfl<;>simp[rb]
  ·exact hrI _ _ _
  ·exact hrE _ _ _
  ·exact hrN _ _ _
 refine aK (co 2 1 [] 2 [0] rfl (by simp) (by simp) (W_loopM 29 [21,22,23,24,25,26,27,28] (by simp[mB]<;>rfl) (σ:=Nat) (fun i=>i≤m) (fun i=>m-i) (fun i=>[(21,.int .i64 i)]) (fun i=>[B.cells [.nilS,.nilS],.buf 49 2 (crL VZ) false,B.cells [.buf 3 0 i i,.nilS],.buf 2 1 ((ab i).map ac) false]) 0 (by omega) (by simp) (by simp[ab]) (by simp) ?_));intro i hi N1 Q1 hN1 hQ1
 have hol:(ab i).length=i:=by simp[ab]
 by_cases hb:i<m
 ·have hos:ab (i+1)=ab i++[1]:=by unfold ab;rw[List.replicate_succ']
  refine wx ?_;simp -implicitDefEqProofs -dsimp[hb,show(i:Int)<m by omega,aM i (by omega),hol,cap8 i (by omega),LC,LLC];refine hN1 (i+1) _ _ (by omega) (by omega) (by simp) ⟨[],by simp[hos,ac]⟩ (by simp) (hrW (i+1))
 ·obtain rfl:i=m:=by omega
  obtain⟨eF,heF⟩:∃eF:Nat→List (List Nat),eF=fun j=>(cores.take j).map fun K=>K.map (dw vs):=⟨_,rfl⟩
  have hel:∀j,j≤n→(eF j).length=j:=fun j hj=>by rw[heF];simp;omega
  refine wx ?_;simp -implicitDefEqProofs -dsimp[hb,show ¬(i:Int)<i by omega,LC,LLC];refine hQ1 _ _ _ ?_;simp -implicitDefEqProofs -dsimp[hn,LC,LLC];refine aK (co 109 1 [] 2 [1] rfl (by simp) (by simp) (W_loopM 59 [7,8,10,11,12,31,32,33,34,35,36,37,38,39,40,41,42,43,44,45,46,47,48,49,50,51,52,53,54,55,56,57,58] (by simp[mB]<;>rfl) (σ:=Nat) (fun j=>j≤n) (fun j=>n-j) (fun j=>[(31,.int .i64 j)]) (fun j=>[B.cells [.nilS,.nilS],.buf 49 2 (crL VZ) false,B.cells [.buf 3 0 i i,.buf 4 0 j j],.buf 2 1 ((ab i).map ac) false,.buf 109 1 ((eF j).map (Ln false)) false]) 0 (by omega) (by simp[hn]) (by simp[heF]) (by simp) ?_));intro j hj N2 Q2 hN2 hQ2;have hej:=hel j hj;by_cases hbj:j<n
  ·have hbc:j<cores.length:=by omega
   obtain⟨K,hKe⟩:∃K,K=cores[j]:=⟨_,rfl⟩
   have hKl:K.length≤100000:=by rw[hKe];exact hK _ (List.getElem_mem _)
   have hes:eF (j+1)=eF j++[K.map (dw vs)]:=by rw[heF];simp only;rw[List.take_succ_eq_append_getElem hbc,List.map_append,←hKe];rfl
   refine wx ?_;simp -implicitDefEqProofs -dsimp[hbj,hbc,hn,hKe.symm,aO,show(j:Int)<n by omega,LC,LLC]
   obtain⟨iF,hiF⟩:∃iF:Nat→List Nat,iF=fun x=>(K.take x).map (dw vs):=⟨_,rfl⟩
   have hil:∀x,x≤K.length→(iF x).length=x:=fun x hx=>by rw[hiF];simp;omega
   refine aK (gG 3 1 [8] (by simp) (W_loopM 52 [8,10,11,12,37,38,39,40,41,42,43,44,45,46,47,48,49,50,51] (by simp[mB]<;>rfl) (σ:=Nat) (fun x=>x≤K.length) (fun x=>K.length-x) (fun x=>[(37,.int .i64 x),(8,.buf 5 0 x x)]) (fun x=>[B.cells [.nilS,.nilS],.buf 49 2 (crL VZ) false,B.cells [.buf 3 0 i i,.buf 4 0 j j],.buf 2 1 ((ab i).map ac) false,.buf 109 1 ((eF j).map (Ln false)) false,.buf 3 1 (nuL (iF x)) false]) 0 (by omega) (by simp) (by simp[hiF,nuL]) (by simp) ?_));intro x hx N3 Q3 hN3 hQ3;have hix:=hil x hx
   have hnl:(nuL (iF x)).length=x:=by rw[aw,hix]
   by_cases hbx:x<K.length
   ·obtain⟨c,hc⟩:∃c,c=K[x]:=⟨_,rfl⟩
    have his:iF (x+1)=iF x++[dw vs c]:=by rw[hiF];simp only;rw[List.take_succ_eq_append_getElem hbx,List.map_append,←hc];rfl
    have hcb:=iR vs c false (by omega);obtain⟨w,hw⟩:∃w,w=dw vs c:=⟨_,rfl⟩
    have hw2:bsC vs c 0 vs.length=w:=by rw[hw];rfl
    rw[←hw]at his;rw[hw2]at hcb;simp only[aO]at hcb;refine wx ?_;simp -implicitDefEqProofs -dsimp[hbx,hc.symm,aO,show(x:Int)<K.length by omega,LC,LLC];refine(callX (args:=[.buf 1 0 i N,.agg [.int .i64 c.id,.int .i64 c.attr],.fn 75 []]) hcb rfl (fun a v v' h1 h2=>?_) (.tup _ (fun v hv=>by simp at hv;rcases hv with rfl | rfl<;>constructor))).mono ?_
    ·match a with
     | 0=>simp at h1 h2;subst h1;subst h2;exact exp_pre (e:=49) (fz:=false) rfl hVZ hm hVl
     | 1=>simp at h1 h2;subst h1;subst h2;exact .pure _ (by simp)
     | 2=>simp at h1 h2;subst h1;subst h2;exact .pure _ (by simp)
     | a+3=>simp at h1
    rintro r H' ⟨rfl,rfl⟩;simp -implicitDefEqProofs -dsimp[hnl,cap8 x (by omega),aM x (by omega),LC,LLC];refine hN3 (x+1) _ _ (by omega) (by omega) (by simp) ⟨_,by simp[his,nuL,eN];rfl⟩ (by simp) (hrU i j (eF j) (iF (x+1)))
   ·obtain rfl:x=K.length:=by omega
    have hiK:iF K.length=K.map (dw vs):=by rw[hiF];simp
    rw[←hiK]at hes;refine W_frz 5 [8] rfl (by simp[hnl]) ?_;refine wx ?_;simp -implicitDefEqProofs -dsimp[hbx,show ¬(K.length:Int)<K.length by omega,LC,LLC];refine hQ3 _ _ _ ?_;simp -implicitDefEqProofs -dsimp[hej,qA j (by omega),aM j (by omega),LC,LLC];refine hN2 (j+1) _ _ (by omega) (by omega) (by simp[hn]) ⟨_,by simp[hes,Ln,nuL];rfl⟩ (by simp) (hrV i (j+1) (eF (j+1)))
  ·obtain rfl:j=n:=by omega
   have hen:eF j=cores.map fun K=>K.map (dw vs):=by rw[heF];simp only;rw[List.take_of_length_le (by omega)]
   refine wx ?_;simp -implicitDefEqProofs -dsimp[hbj,hn,show ¬(j:Int)<j by omega,LC,LLC];refine hQ2 _ _ _ ?_;simp -implicitDefEqProofs -dsimp[LC,LLC]
   have hP:PRB cores = .tup [.agg [.lst 1 false ((ab i).map ac),.lst 1 false ((eF j).map (Ln false))],LC false vs]:=by
    unfold PRB;rw[hvv,hm,hen];rfl
   refine⟨?_,by rw[hP];simp[ac]⟩;rw[hP];refine .tup _ _ rfl (jZ (.agg _ _ rfl (jZ ?_ ?_)) ?_)
   ·have:=eo (n:=0) (k:=3) (len:=i) (tot:=i) (show 0≤3 by omega) (H:=[B.cells [.buf 3 0 i i,.buf 4 0 j j],.buf 49 2 (crL VZ) false,B.cells [.buf 3 0 i i,.buf 4 0 j j],.buf 2 1 ((ab i).map ac) false,.buf 109 1 ((eF j).map (Ln false)) false]) (e:=2) (z:=1) (fz:=false) rfl (by simp[ab]) (Nat.le_refl _) (fun x hx=>by obtain⟨y,_,rfl⟩:=List.mem_map.1 hx;simp[ac])
    rwa [List.take_of_length_le (by simp[ab])]at this
   ·have:=eo (n:=0) (k:=4) (len:=j) (tot:=j) (show 0≤4 by omega) (H:=[B.cells [.buf 3 0 i i,.buf 4 0 j j],.buf 49 2 (crL VZ) false,B.cells [.buf 3 0 i i,.buf 4 0 j j],.buf 2 1 ((ab i).map ac) false,.buf 109 1 ((eF j).map (Ln false)) false]) (e:=109) (z:=1) (fz:=false) rfl (by rw[List.length_map,hej]) (Nat.le_refl _) (fun x hx=>by obtain⟨y,_,rfl⟩:=List.mem_map.1 hx;simp)
    rwa [List.take_of_length_le (by rw[List.length_map,hej];exact Nat.le_refl _)]at this
   ·have:=eo (n:=0) (k:=1) (len:=i) (tot:=N) (show 0≤1 by omega) (H:=[B.cells [.buf 3 0 i i,.buf 4 0 j j],.buf 49 2 (crL VZ) false,B.cells [.buf 3 0 i i,.buf 4 0 j j],.buf 2 1 ((ab i).map ac) false,.buf 109 1 ((eF j).map (Ln false)) false]) (e:=49) (z:=2) (fz:=false) rfl (by rw[bG,hVl]) hmN (fun x hx=>(iM VZ x hx).1)
    have e1:(crL VZ).take i=vs.map aO:=by
     rw[hVZ];unfold crL;rw[List.map_append,List.take_left' (by rw[List.length_map,hm])]
    rwa [e1]at this
theorem problem_u(cores:List (List Cr))(g:Bool)(hn2:cores.length≤100000)(hK:∀K∈cores,K.length≤100000)(hT:cores.flatten.length≤1000000):aS Tryz.prog 63 [LLC false g cores] fun r=>r=PRB cores :=
 cD (dL (K:=fun r=>r=PRB cores) (problem_h0 cores g _ rfl hn2 hK hT))
theorem stringsEq_u(a b:List ByteArray)(f g:Bool)(hl:a.length≤1000000):aS Tryz.prog 119 [LS f a,LS g b] fun r=>r = .bool (mj a b):=by
 unfold mj;by_cases h0:a.length=b.length
 ·rw[decide_eq_true h0,Bool.true_and]
  obtain⟨E,hE⟩:∃E,E=(List.range a.length).all fun i=>gJ (sAt a i) (sAt b i):=⟨_,rfl⟩
  rw[←hE];refine aC (aD tok Tryz.func119 rfl rfl ?_);refine wx ?_;simp -implicitDefEqProofs -dsimp[Tryz.f119,List.replicate,LS,h0];refine aK (W_loopM 26 [4,5,13,14,15,16,17,18,19,20,21,22,23,24,25] (by simp[mB]<;>rfl) (σ:=Nat) (fun i=>i≤a.length∧(List.range i).all (fun i=>gJ (sAt a i) (sAt b i))=true) (fun i=>a.length-i) (fun i=>[(13,.int .i64 i)]) (fun _=>[]) 0 ⟨by omega,rfl⟩ (by simp) rfl (by simp) ?_);rintro i ⟨hi,hall⟩ N Q hN hQ;by_cases hb:i<a.length
  ·have hb2:i<b.length:=by omega
   have ha1:sAt a i=a[i]:=by simp[sAt,hb]
   have ha2:sAt b i=b[i]:=by simp[sAt,hb2]
   cases hq:(a[i].toList == b[i].toList) with
   | true =>
    refine wx ?_;simp -implicitDefEqProofs -dsimp[hb,hb2,hq];refine .inr ⟨aJ (by kernel_rfl),?_⟩;simp -implicitDefEqProofs -dsimp[aM i (by omega)];refine hN (i+1) _ _ ⟨by omega,dn hall (by unfold gJ;rw[ha1,ha2,hq])⟩ (by omega) (by simp) ⟨[],rfl⟩ (by simp) (by simp)
   | false =>
    have hno:(List.range a.length).all (fun i=>gJ (sAt a i) (sAt b i))=false:=by
     cases hh:(List.range a.length).all (fun i=>gJ (sAt a i) (sAt b i))
     ·rfl
     ·have:=List.all_eq_true.1 hh i (by simpa using hb);rw[gJ,ha1,ha2,hq]at this;cases this
    rw[hno]at hE;refine wx ?_;simp -implicitDefEqProofs -dsimp[hb,hb2,hq];refine .inr ⟨aJ (by kernel_rfl),?_⟩;refine hQ _ _ _ ?_;simp -implicitDefEqProofs -dsimp[];exact hE
  ·obtain rfl:i=a.length:=by omega
   rw[hall]at hE;refine wx ?_;simp -implicitDefEqProofs -dsimp[hb,h0];refine hQ _ _ _ ?_;simp -implicitDefEqProofs -dsimp[];exact hE
 ·rw[decide_eq_false h0,Bool.false_and];refine aC (aD tok Tryz.func119 rfl rfl ?_);refine wx ?_;simp -implicitDefEqProofs -dsimp[Tryz.f119,List.replicate,LS,show ¬((a.length:Int)=b.length) by omega]
def kR:List Rw→List Rw→Bool
 | [],[]=>true
 | x::a,y::b=>decide (x.id=y.id)&&kR a b
 | _,_=>false
theorem jS:∀a b:List Rw,a.length≠b.length→kR a b=false
 | [],[],h=>absurd rfl h
 | [],_::_,_=>rfl
 | _::_,[],_=>rfl
 | x::a,y::b,h=>by
  rw[kR,jS a b (by simpa using h),Bool.and_false]
theorem alike1_u(a b:Rw):aS Tryz.prog 121 [aN a,aN b] fun r=>r = .bool (decide (a.id=b.id)):=by
 by_cases h:a.id=b.id
 ·rw[decide_eq_true h];refine aC (aD tok Tryz.func121 rfl rfl ?_);refine wx ?_;simp -implicitDefEqProofs -dsimp[Tryz.f121,List.replicate,aN,LV,h]
 ·rw[decide_eq_false h];refine aC (aD tok Tryz.func121 rfl rfl ?_);refine wx ?_;simp -implicitDefEqProofs -dsimp[Tryz.f121,List.replicate,aN,LV,h]
theorem eqFunc_u(a b:List Rw)(f g:Bool)(ha:a.length≤1000000)(hb:b.length≤1000000):aS Tryz.prog 120 [LR f a,LR g b,.fn 121 []] fun r=>r = .bool (kR a b):=by
 by_cases h0:a.length=b.length
 ·obtain⟨E,hE⟩:∃E,E=kR a b:=⟨_,rfl⟩;rw[←hE];refine aC (aD tok Tryz.func120 rfl rfl ?_);refine wx ?_;simp -implicitDefEqProofs -dsimp[Tryz.f120,List.replicate,h0,LR];refine aK (W_loopM 32 [6,7,8,9,17,18,19,20,21,22,23,24,25,26,27,28,29,30,31] (by simp[mB]<;>rfl) (σ:=Nat) (fun i=>i≤a.length∧kR (a.drop i) (b.drop i)=E) (fun i=>a.length-i) (fun i=>[(17,.int .i64 i)]) (fun _=>[]) 0 ⟨by omega,by rw[List.drop_zero,List.drop_zero];exact hE.symm⟩ (by simp) rfl (by simp) ?_);rintro i ⟨hi,hx⟩ N Q hN hQ;by_cases h1:i<a.length
  ·have h2:i<b.length:=by omega
   rw[List.drop_eq_getElem_cons h1,List.drop_eq_getElem_cons h2,kR]at hx;obtain⟨x,hxe⟩:∃x,x=a[i]:=⟨_,rfl⟩;obtain⟨y,hye⟩:∃y,y=b[i]:=⟨_,rfl⟩;rw[←hxe,←hye]at hx;have hc:=alike1_u x y;simp only[aN,LV]at hc;by_cases hq:x.id=y.id
   ·rw[decide_eq_true hq]at hc hx;rw[Bool.true_and]at hx;refine wx ?_;simp -implicitDefEqProofs -dsimp[h1,h2,hxe.symm,hye.symm,aN,LV,LR];refine(aG (hc) (by simp)).mono ?_;rintro r H' ⟨rfl,rfl⟩;simp -implicitDefEqProofs -dsimp[aM i (by omega),LR];refine hN (i+1) _ _ ⟨by omega,hx⟩ (by omega) (by simp) ⟨_,rfl⟩ (by simp) (by simp)
   ·rw[decide_eq_false hq]at hc hx;rw[Bool.false_and]at hx;refine wx ?_;simp -implicitDefEqProofs -dsimp[h1,h2,hxe.symm,hye.symm,aN,LV,LR];refine(aG (hc) (by simp)).mono ?_;rintro r H' ⟨rfl,rfl⟩;simp -implicitDefEqProofs -dsimp[LR];refine hQ _ _ _ ?_;simp -implicitDefEqProofs -dsimp[LR];exact hx.symm
  ·rw[List.drop_of_length_le (show a.length≤i by omega),List.drop_of_length_le (show b.length≤i by omega),kR]at hx;refine wx ?_;simp -implicitDefEqProofs -dsimp[h1,h0▸h1,LR];refine hQ _ _ _ ?_;simp -implicitDefEqProofs -dsimp[LR];exact hx.symm
 ·rw[jS a b h0];refine aC (aD tok Tryz.func120 rfl rfl ?_);refine wx ?_;simp -implicitDefEqProofs -dsimp[Tryz.f120,List.replicate,LR,show ¬((a.length:Int)=b.length) by omega]
def go(t u:Tb):Bool:=gJ t.name u.name&&mj t.attrs u.attrs&&kR t.rows u.rows
theorem alike_u(t u:Tb)(f g f2 g2:Bool)(ha:t.attrs.length≤1000000)(hr:t.rows.length≤1000000)(hr2:u.rows.length≤1000000):aS Tryz.prog 73 [aF f g t,aF f2 g2 u] fun r=>r = .bool (go t u):=by
 have c1:=stringsEq_u t.attrs u.attrs f f2 ha;have c2:=eqFunc_u t.rows u.rows g g2 hr hr2;unfold go;simp only[LS,LR]at c1 c2
 cases h1:(t.name.toList == u.name.toList) with
 | false =>
  rw[show gJ t.name u.name=false from h1,Bool.false_and,Bool.false_and];refine aC (aD tok Tryz.func73 rfl rfl ?_);refine wx ?_;simp -implicitDefEqProofs -dsimp[Tryz.f73,List.replicate,aF,LS,LR,h1]
 | true =>
  rw[show gJ t.name u.name=true from h1,Bool.true_and]
  cases h2:mj t.attrs u.attrs with
  | false =>
   rw[h2]at c1;rw[Bool.false_and];refine aC (aD tok Tryz.func73 rfl rfl ?_);refine wx ?_;simp -implicitDefEqProofs -dsimp[Tryz.f73,List.replicate,aF,LS,LR,h1];refine(aG (c1) (by simp)).mono ?_;rintro r H' ⟨rfl,rfl⟩;simp -implicitDefEqProofs -dsimp[]
  | true =>
   rw[h2]at c1;rw[Bool.true_and];refine aC (aD tok Tryz.func73 rfl rfl ?_);refine wx ?_;simp -implicitDefEqProofs -dsimp[Tryz.f73,List.replicate,aF,LS,LR,h1];refine(aG (c1) (by simp)).mono ?_;rintro r H' ⟨rfl,rfl⟩;simp -implicitDefEqProofs -dsimp[];refine(aG (c2) (by simp)).mono ?_;rintro r H' ⟨rfl,rfl⟩;simp -implicitDefEqProofs -dsimp[]
section
theorem idsB_at:∀(a b:List Rw),a.length=b.length→(kR a b=true↔∀(i:Nat) (h:i<a.length) (h2:i<b.length),a[i].id=b[i].id)
 | [],[],_=>by simp[kR]
 | [],_::_,h=>by simp at h
 | _::_,[],h=>by simp at h
 | x::a,y::b,h=>by
  have hl:a.length=b.length:=by simpa using h
  rw[kR,Bool.and_eq_true,decide_eq_true_iff,idsB_at a b hl];constructor
  ·rintro⟨h1,h2⟩ i hi hi2
   cases i with
   | zero=>exact h1
   | succ i=>exact h2 i (by simpa using hi) (by simpa using hi2)
  ·intro h1;exact⟨h1 0 (by simp) (by simp),fun i hi hi2=>h1 (i+1) (by simpa using hi) (by simpa using hi2)⟩
def MayB(t u:Tb)(l:List Cr)(x:Nat):Prop:=gE (bL u x) (bL t x)=0∨bN t x∈l
structure DifP (t u:Tb) (l:List Cr):Prop where
 ids:∀(i:Nat) (h:i<u.rows.length) (h2:i<t.rows.length),u.rows[i].id=t.rows[i].id
 may:∀x,x<t.rows.length*t.attrs.length→MayB t u l x
open Classical in
noncomputable def dfB(t u:Tb)(l:List Cr):Bool:=decide (DifP t u l)
theorem dfB_iff{t u:Tb}{l:List Cr} : dfB t u l=true↔DifP t u l:=by unfold dfB;simp
noncomputable def difB(t u:Tb)(l:List Cr):Bool:=decide (validT u=0)&&(gJ u.name t.name&&(mj u.attrs t.attrs&&(decide (u.rows.length=t.rows.length)&&dfB t u l)))
theorem pi{a b:List ByteArray}(h:mj a b=true):a.length=b.length:=by
 unfold mj at h;rw[Bool.and_eq_true]at h;exact of_decide_eq_true h.1
theorem differs_r(t u:Tb)(f g f2 g2 cf:Bool)(l:List Cr)(hv:TbV t)(hu:TbOk u)(hl:l.length≤1000000)(hul:validT u=0→∀r∈u.rows,r.vals.length=u.attrs.length∧∀v∈r.vals,v.s.size≤maxLen):
  aS Tryz.prog 69 [aF f g t,aF f2 g2 u,LC cf l] fun r=>r = .bool (difB t u l):=by
 have cv:=valid03 u f2 g2 hu;have cs:=strings03 u.attrs t.attrs f2 f hu.attrs;have hm:=hv.rows;have hn:=hv.attrs;simp only[aF,LS,LR]at cv cs;unfold difB;by_cases h0:validT u=0
 ·rw[h0]at cv;rw[decide_eq_true h0,Bool.true_and];have hlen:=hul h0
  cases h1:(u.name.toList == t.name.toList) with
  | false =>
   rw[show gJ u.name t.name=false from h1,Bool.false_and];refine aC (aD tok Tryz.func69 rfl rfl ?_);refine wx ?_;simp -implicitDefEqProofs -dsimp[Tryz.f69,List.replicate,aF,LS,LR,LC];refine(aG (cv) (by simp)).mono ?_;rintro r H' ⟨rfl,rfl⟩;simp -implicitDefEqProofs -dsimp[h1,LS,LR,LC]
  | true =>
   rw[show gJ u.name t.name=true from h1,Bool.true_and]
   cases h2:mj u.attrs t.attrs with
   | false =>
    rw[h2]at cs;rw[Bool.false_and];refine aC (aD tok Tryz.func69 rfl rfl ?_);refine wx ?_;simp -implicitDefEqProofs -dsimp[Tryz.f69,List.replicate,aF,LS,LR,LC];refine(aG (cv) (by simp)).mono ?_;rintro r H' ⟨rfl,rfl⟩;simp -implicitDefEqProofs -dsimp[h1,LS,LR,LC];refine(aG (cs) (by simp)).mono ?_;rintro r H' ⟨rfl,rfl⟩;simp -implicitDefEqProofs -dsimp[LS,LR,LC]
   | true =>
    rw[h2]at cs;rw[Bool.true_and];have hal:=pi h2;by_cases h3:u.rows.length=t.rows.length
    ·rw[decide_eq_true h3,Bool.true_and];obtain⟨E,hE⟩:∃E,E=dfB t u l:=⟨_,rfl⟩;rw[←hE]
     have hiff:E=true↔DifP t u l:=by rw[hE];exact dfB_iff
     clear hE;obtain⟨n,hne⟩:∃n,n=t.attrs.length:=⟨_,rfl⟩;obtain⟨m,hme⟩:∃m,m=t.rows.length:=⟨_,rfl⟩;have hne':=hne.symm;have hme':=hme.symm;rw[hne']at hn;rw[hme']at hm;refine aC (aD tok Tryz.func69 rfl rfl ?_);refine wx ?_;simp -implicitDefEqProofs -dsimp[Tryz.f69,List.replicate,aF,LS,LR,LC];refine(aG (cv) (by simp)).mono ?_;rintro r H' ⟨rfl,rfl⟩;simp -implicitDefEqProofs -dsimp[h1,LS,LR,LC];refine(aG (cs) (by simp)).mono ?_;rintro r H' ⟨rfl,rfl⟩;simp -implicitDefEqProofs -dsimp[h3,LS,LR,LC];refine aK (W_loopM 96 [6,7,8,36,37,38,39,40,41,42,43,44,45,46,47,48,49,50,51,52,53,54,55,56,57,58,59,60,61,62,63,64,65,66,67,68,69,70,71,72,73,74,75,76,77,78,79,80,81,82,83,84,85,86,87,88,89,90,91,92,93,94,95] (by simp[mB]<;>rfl) (σ:=Nat) (fun i=>i≤m∧(∀j,j<i→∀(h:j<u.rows.length) (h2:j<t.rows.length),u.rows[j].id=t.rows[j].id)∧∀x,x<i*n→MayB t u l x) (fun i=>m-i) (fun i=>[(7,.int .i64 i)]) (fun _=>[B.cells [.str t.name,.lst 1 f (t.attrs.map V.str),.lst 2 g (t.rows.map aN)],B.cells [.str u.name,.lst 1 f2 (u.attrs.map V.str),.lst 2 g2 (u.rows.map aN)]]) 0 ⟨by omega,fun j h=>by omega,fun x h=>by simp at h⟩ (by simp) (by simp) (by simp) ?_);rintro i ⟨hi,hids,hmay⟩ N Q hN hQ;by_cases hib:i<m
     ·have hit:i<t.rows.length:=by omega
      have hiu:i<u.rows.length:=by omega
      obtain⟨rw,hrw⟩:∃rw,rw=t.rows[i]:=⟨_,rfl⟩;obtain⟨ru,hru⟩:∃ru,ru=u.rows[i]:=⟨_,rfl⟩;have hrw':=hrw.symm;have hru':=hru.symm;by_cases hid:ru.id=rw.id
      ·have hvl:rw.vals.length=n:=by rw[hrw,hne];exact hv.len _ (List.getElem_mem hit)
       have hvu:ru.vals.length=n:=by rw[hru,(hlen _ (List.getElem_mem hiu)).1,hal,hne]
       have hsz:∀v∈ru.vals,v.s.size≤maxLen:=by rw[hru];exact(hlen _ (List.getElem_mem hiu)).2
       refine wx ?_;simp -implicitDefEqProofs -dsimp[hit,hiu,hrw',hru',aN,LV,hid,LS,LR,LC];refine .inr ⟨aJ (by kernel_rfl),?_⟩;refine aK (W_loopM 96 [6,8,56,57,58,59,60,61,62,63,64,65,66,67,68,69,70,71,72,73,74,75,76,77,78,79,80,81,82,83,84,85,86,87,88,89,90,91,92,93,94,95] (by simp[mB]<;>rfl) (σ:=Nat) (fun a=>a≤n∧∀x,x<i*n+a→MayB t u l x) (fun a=>n-a) (fun a=>[(8,.int .i64 a)]) (fun _=>[B.cells [.str t.name,.lst 1 f (t.attrs.map V.str),.lst 2 g (t.rows.map aN)],B.cells [.str u.name,.lst 1 f2 (u.attrs.map V.str),.lst 2 g2 (u.rows.map aN)]]) 0 ⟨by omega,by simpa using hmay⟩ (by simp) (by simp) (by simp) ?_);rintro a ⟨ha,hmay2⟩ N2 Q2 hN2 hQ2;by_cases hab:a<n
       ·have hat:a<t.attrs.length:=by omega
        have hva:a<rw.vals.length:=by omega
        have hva2:a<ru.vals.length:=by omega
        obtain⟨v,hve⟩:∃v,v=rw.vals[a]:=⟨_,rfl⟩;obtain⟨w,hwe⟩:∃w,w=ru.vals[a]:=⟨_,rfl⟩;have hve':=hve.symm;have hwe':=hwe.symm
        have hvt:bL t (i*n+a)=v:=by
         rw[hne,fD t (hne▸hab),bF hit,←hrw,gV hva,hve]
        have hvu2:bL u (i*n+a)=w:=by
         rw[hne,←hal,fD u (by omega),bF hiu,←hru,gV hva2,hwe]
        have hcr:bN t (i*n+a)=⟨rw.id,(a:Int)⟩:=by
         rw[hne,gS t (hne▸hab),bF hit,←hrw]
        have hlt:=bB hib hab;have c1:=compare01 w v (hsz w (by rw[hwe];exact List.getElem_mem hva2));have c2:=pQ l ⟨rw.id,(a:Int)⟩ cf hl;simp only[am]at c1;simp only[aO,LC]at c2
        have hstep:MayB t u l (i*n+a)→∀x,x<i*n+(a+1)→MayB t u l x:=fun h x hx=>by
         rcases Nat.lt_or_ge x (i*n+a) with h1 | h1
         ·exact hmay2 x h1
         ·have:x=i*n+a:=by omega
          rw[this];exact h
        obtain⟨z,hz⟩:∃z,z=gE w v:=⟨_,rfl⟩;rw[←hz]at c1;by_cases hq:z=0
        ·refine wx ?_;simp -implicitDefEqProofs -dsimp[hat,hit,hiu,hrw',hru',aN,LV,hva,hva2,hve',hwe',am,LS,LR,LC];refine .inr ⟨aJ (by kernel_rfl),?_⟩;refine aj _ (aG (c1) (by simp)) ?_;simp -implicitDefEqProofs -dsimp[hq,aM a (by omega),LS,LR,LC];refine hN2 (a+1) _ _ ⟨by omega,hstep (.inl (by rw[hvt,hvu2,←hz];exact hq))⟩ (by omega) (by simp) ⟨[],rfl⟩ (by simp) (by simp)
        ·cases hh:dD l ⟨rw.id,(a:Int)⟩ with
         | true =>
          rw[hh]at c2;refine wx ?_;simp -implicitDefEqProofs -dsimp[hat,hit,hiu,hrw',hru',aN,LV,hva,hva2,hve',hwe',am,LS,LR,LC];refine .inr ⟨aJ (by kernel_rfl),?_⟩;refine aj _ (aG (c1) (by simp)) ?_;simp -implicitDefEqProofs -dsimp[hq,hit,hrw',aN,LV,LS,LR,LC];refine aj _ (aG (c2) (by simp)) ?_;simp -implicitDefEqProofs -dsimp[hq,aM a (by omega),LS,LR,LC];refine hN2 (a+1) _ _ ⟨by omega,hstep (.inr (by rw[hcr];exact bd.1 hh))⟩ (by omega) (by simp) ⟨[],rfl⟩ (by simp) (by simp)
         | false =>
          rw[hh]at c2
          have hno:E=false:=by
           cases hEb:E with
           | false=>rfl
           | true =>
            rcases(hiff.1 hEb).may (i*n+a) (by rw[←hne,←hme];exact hlt) with h5 | h5
            ·rw[hvt,hvu2,←hz]at h5;exact absurd h5 hq
            ·rw[hcr,←bd,hh]at h5;cases h5
          refine wx ?_;simp -implicitDefEqProofs -dsimp[hat,hit,hiu,hrw',hru',aN,LV,hva,hva2,hve',hwe',am,LS,LR,LC];refine .inr ⟨aJ (by kernel_rfl),?_⟩;refine aj _ (aG (c1) (by simp)) ?_;simp -implicitDefEqProofs -dsimp[hq,hit,hrw',aN,LV,LS,LR,LC];refine aj _ (aG (c2) (by simp)) ?_;simp -implicitDefEqProofs -dsimp[hq,LS,LR,LC];refine hQ2 _ _ _ ?_;simp -implicitDefEqProofs -dsimp[LS,LR,LC];refine hQ _ _ _ ?_;simp -implicitDefEqProofs -dsimp[LS,LR,LC];exact hno
       ·obtain rfl:n=a:=by omega
        refine wx ?_;simp -implicitDefEqProofs -dsimp[show ¬n<t.attrs.length by omega,LS,LR,LC];refine hQ2 _ _ _ ?_;simp -implicitDefEqProofs -dsimp[aM i (by omega),LS,LR,LC];refine hN (i+1) _ _ ⟨by omega,fun j hj h h2=>?_,fun x hx=>hmay2 x (by rw[Nat.add_mul]at hx;omega)⟩ (by omega) (by simp) ⟨[],rfl⟩ (by simp) (by simp)
        rcases Nat.lt_or_ge j i with h1 | h1
        ·exact hids j h1 h h2
        ·have hji:j=i:=by omega
         subst hji;rw[hru',hrw'];exact hid
      ·have hno:E=false:=by
        cases hEb:E with
        | false=>rfl
        | true=>exact absurd (by rw[hru,hrw];exact(hiff.1 hEb).ids i hiu hit) hid
       refine wx ?_;simp -implicitDefEqProofs -dsimp[hit,hiu,hrw',hru',aN,LV,hid,LS,LR,LC];refine .inr ⟨aJ (by kernel_rfl),?_⟩;refine hQ _ _ _ ?_;simp -implicitDefEqProofs -dsimp[LS,LR,LC];exact hno
     ·obtain rfl:m=i:=by omega
      have hyes:E=true:=hiff.2 ⟨fun j h h2=>hids j (by omega) h h2,fun x hx=>hmay x (by rw[hme',hne']at hx;exact hx)⟩;refine wx ?_;simp -implicitDefEqProofs -dsimp[show ¬m<t.rows.length by omega,LS,LR,LC];refine hQ _ _ _ ?_;simp -implicitDefEqProofs -dsimp[LS,LR,LC];exact hyes
    ·rw[decide_eq_false h3,Bool.false_and];refine aC (aD tok Tryz.func69 rfl rfl ?_);refine wx ?_;simp -implicitDefEqProofs -dsimp[Tryz.f69,List.replicate,aF,LS,LR,LC];refine(aG (cv) (by simp)).mono ?_;rintro r H' ⟨rfl,rfl⟩;simp -implicitDefEqProofs -dsimp[h1,LS,LR,LC];refine(aG (cs) (by simp)).mono ?_;rintro r H' ⟨rfl,rfl⟩;simp -implicitDefEqProofs -dsimp[h3,show ¬((u.rows.length:Int)=t.rows.length) by omega,LS,LR,LC]
 ·rw[decide_eq_false h0,Bool.false_and];refine aC (aD tok Tryz.func69 rfl rfl ?_);refine wx ?_;simp -implicitDefEqProofs -dsimp[Tryz.f69,List.replicate,aF,LS,LR,LC];refine(aG (cv) (by simp)).mono ?_;rintro r H' ⟨rfl,rfl⟩;simp -implicitDefEqProofs -dsimp[h0,LS,LR,LC]
end
structure Upd where
 cells:List Cr
 tab:Tb
 cores:List (List Cr)
 prf:List Nde
def aI(u:Upd):V:=.agg [LC false u.cells,.str u.tab.name,LS false u.tab.attrs,LR false u.tab.rows,LLC false false u.cores,LNd false u.prf]
structure UpdOk (u:Upd):Prop where
 tab:TbOk u.tab
 cells:u.cells.length≤100000
 cn:u.cores.length≤100000
 cl:∀K∈u.cores,K.length≤100000
 cf:u.cores.flatten.length≤1000000
 prf:u.prf.length≤1000000
noncomputable def nh(t:Tb)(fds:List Fd)(cores:List (List Cr))(j:Nat):Bool:=decide (dl t fds (cores.getD j [])=0)&&na t fds (cores.getD j [])&&(decide (j=0)||decide (au (cores.getD (j-1) []) (cores.getD j [])<0))
noncomputable def corB(t:Tb)(fds:List Fd)(cores:List (List Cr)):Bool:=(List.range cores.length).all (nh t fds cores)
noncomputable def prfB(u:Upd):Bool:=eL (ab (vsC u.cores).length) (u.cores.map fun K=>K.map (dw (vsC u.cores))) u.cells.length u.prf
noncomputable def mJ(t:Tb)(fds:List Fd)(u:Upd):Bool :=
 if dl t fds u.cells≠0 then false else if validT u.tab≠0 then false else if go t u.tab=false then false else
  if(cF t u.tab (t.rows.length*t.attrs.length)).all (bsF u.cells)=false then false else if corB t fds u.cores=false then false else okB (aW u.tab fds [])&&prfB u
theorem oh(n j:Nat)(h:j<n):(List.range n).drop j=j::(List.range n).drop (j+1):=by
 have:=List.drop_eq_getElem_cons (l:=List.range n) (i:=j) (by simpa using h)
 rwa [List.getElem_range]at this
theorem enough_nil(t:Tb)(ff gg df:Bool)(fds:List Fd)(hv:TbV t)(hF:bo fds):aS Tryz.prog 44 [aF ff gg t,LF df fds,.nilS] fun r=>r = .bool (okB (aW t fds [])):=by
 refine mr (pk t ff gg df false fds [] hv hF (by simp[aZ]) (by simp)) rfl (fun i a b ha hb=>?_)
 match i with
 | 0=>simp at ha hb;subst ha;subst hb;exact .refl _
 | 1=>simp at ha hb;subst ha;subst hb;exact .refl _
 | 2=>simp at ha hb;subst ha;subst hb;exact .nil _ _
 | k+3=>simp at ha
theorem Check_u(t:Tb)(ff gg df:Bool)(fds:List Fd)(u:Upd)(hv:TbV t)(hF:bo fds)(hu:UpdOk u):aS Tryz.prog 30 [aF ff gg t,LF df fds,aI u] fun r=>r = .bool (mJ t fds u):=by
 have ht:=hv.ok;obtain⟨hut,hucl,hucn,hucK,hucf,hup⟩:=hu;have c1:=oH t ff gg df false fds u.cells ht hF (by omega);have c2:=oR u.tab false false hut;have c3:=alike_u t u.tab ff gg false false ht.attrs ht.rows hut.rows;simp only[aF,LS,LR,LC,LF]at c1 c2 c3;by_cases h1:dl t fds u.cells=0
 ·rw[h1]at c1;by_cases h2:validT u.tab=0
  ·rw[h2]at c2
   cases h3:go t u.tab with
   | false =>
    rw[show mJ t fds u=false by unfold mJ;rw[if_neg (by simp[h1]),if_neg (by simp[h2]),if_pos h3]];rw[h3]at c3;refine aC (aD tok Tryz.func30 rfl rfl ?_);refine wx ?_;simp -implicitDefEqProofs -dsimp[Tryz.f30,List.replicate,aF,LS,LR,LC,LF,aI,LLC,LNd];refine(aG (c1) (by simp)).mono ?_;rintro r H' ⟨rfl,rfl⟩;simp -implicitDefEqProofs -dsimp[aF,LS,LR,LC,LF,aI,LLC,LNd];refine(aG (c2) (by simp)).mono ?_;rintro r H' ⟨rfl,rfl⟩;simp -implicitDefEqProofs -dsimp[aF,LS,LR,LC,LF,aI,LLC,LNd];refine(aG (c3) (by simp)).mono ?_;rintro r H' ⟨rfl,rfl⟩;simp -implicitDefEqProofs -dsimp[aF,LS,LR,LC,LF,aI,LLC,LNd]
   | true =>
    rw[h3]at c3;have huv:=iU hut h2
    have ha3:u.tab.attrs.length=t.attrs.length∧u.tab.rows.length=t.rows.length:=by
     unfold go at h3;simp only[Bool.and_eq_true]at h3;refine⟨(pi h3.1.2).symm,?_⟩;by_cases hl:t.rows.length=u.tab.rows.length
     ·exact hl.symm
     ·rw[jS _ _ hl]at h3;simp at h3
    have c4:=differing_u t u.tab ff gg false false hv ha3.1 ha3.2 (fun r hr=>by rw[huv.len r hr,ha3.1]);have c5:=problem_u u.cores false hucn hucK hucf;have c6:=enough_nil u.tab false false df fds huv hF;obtain⟨D,hD⟩:∃D,D=cF t u.tab (t.rows.length*t.attrs.length):=⟨_,rfl⟩
    have hDl:D.length≤1000000:=by rw[hD];exact Nat.le_trans (difTo_len _ _ _) (fg hv)
    rw[←hD]at c4;obtain⟨dB,hdB⟩:∃b,b=D.all (bsF u.cells):=⟨_,rfl⟩;obtain⟨cB,hcB⟩:∃b,b=corB t fds u.cores:=⟨_,rfl⟩;obtain⟨E,hE⟩:∃b,b=mJ t fds u:=⟨_,rfl⟩
    have hE0:E=if dB=false then false else if cB=false then false else okB (aW u.tab fds [])&&prfB u:=by
     rw[hE];unfold mJ;rw[if_neg (by simp[h1]),if_neg (by simp[h2]),if_neg (by simp[h3]),←hD,←hdB,←hcB]
    rw[←hE];clear hE;simp only[aF,LS,LR,LC,LF,LLC]at c4 c5 c6;refine aC (aD tok Tryz.func30 rfl rfl ?_);refine wx ?_;simp -implicitDefEqProofs -dsimp[Tryz.f30,List.replicate,aF,LS,LR,LC,LF,aI,LLC,LNd];refine(aG (c1) (by simp)).mono ?_;rintro r H' ⟨rfl,rfl⟩;simp -implicitDefEqProofs -dsimp[aF,LS,LR,LC,LF,aI,LLC,LNd];refine(aG (c2) (by simp)).mono ?_;rintro r H' ⟨rfl,rfl⟩;simp -implicitDefEqProofs -dsimp[aF,LS,LR,LC,LF,aI,LLC,LNd];refine(aG (c3) (by simp)).mono ?_;rintro r H' ⟨rfl,rfl⟩;simp -implicitDefEqProofs -dsimp[aF,LS,LR,LC,LF,aI,LLC,LNd];refine(aG (c4) (by simp)).mono ?_;rintro r H' ⟨rfl,rfl⟩;simp -implicitDefEqProofs -dsimp[aF,LS,LR,LC,LF,aI,LLC,LNd];refine aK (W_loopM 53 [6,8,9,10,39,40,41,42,43,44,45,46,47,48,49,50,51,52] (by simp[mB]<;>rfl) (σ:=Nat) (fun i=>i≤D.length∧(D.drop i).all (bsF u.cells)=dB) (fun i=>D.length-i) (fun i=>[(39,.int .i64 i)]) (fun _=>[B.cells [.str t.name,.lst 1 ff (t.attrs.map V.str),.lst 2 gg (t.rows.map aN)],B.cells [.lst 2 false (u.cells.map aO),.str u.tab.name,.lst 1 false (u.tab.attrs.map V.str),.lst 2 false (u.tab.rows.map aN),.lst 1 false (u.cores.map (LC false)),.lst 2 false (u.prf.map aT)]]) 0 ⟨by omega,by rw[List.drop_zero,hdB]⟩ (by simp) rfl (by simp) ?_);rintro i ⟨hi,hx⟩ N Q hN hQ;by_cases hb:i<D.length
    ·rw[List.drop_eq_getElem_cons hb,List.all_cons]at hx;obtain⟨c,hc⟩:∃c,c=D[i]:=⟨_,rfl⟩;rw[←hc]at hx;have hcb:=iR u.cells c false (by omega);simp only[LC,aO]at hcb
     cases hq:bsF u.cells c with
     | true =>
      rw[hq,Bool.true_and]at hx;rw[hq]at hcb;refine wx ?_;simp -implicitDefEqProofs -dsimp[hb,hc.symm,aO,show(i:Int)<D.length by omega,aF,LS,LR,LC,LF,aI,LLC,LNd];refine(aG (hcb) (by simp)).mono ?_;rintro r H' ⟨rfl,rfl⟩;simp -implicitDefEqProofs -dsimp[aM i (by omega),aF,LS,LR,LC,LF,aI,LLC,LNd];refine hN (i+1) _ _ ⟨by omega,hx⟩ (by omega) (by simp) ⟨_,rfl⟩ (by simp) (by simp)
     | false =>
      rw[hq,Bool.false_and]at hx;rw[hq]at hcb;refine wx ?_;simp -implicitDefEqProofs -dsimp[hb,hc.symm,aO,show(i:Int)<D.length by omega,aF,LS,LR,LC,LF,aI,LLC,LNd];refine(aG (hcb) (by simp)).mono ?_;rintro r H' ⟨rfl,rfl⟩;simp -implicitDefEqProofs -dsimp[aF,LS,LR,LC,LF,aI,LLC,LNd];refine hQ _ _ _ ?_;simp -implicitDefEqProofs -dsimp[aF,LS,LR,LC,LF,aI,LLC,LNd];rw[hE0,if_pos hx.symm]
    ·rw[List.drop_of_length_le (by omega),List.all_nil]at hx;rw[if_neg (by rw[←hx];simp)]at hE0;refine wx ?_;simp -implicitDefEqProofs -dsimp[hb,show ¬(i:Int)<D.length by omega,aF,LS,LR,LC,LF,aI,LLC,LNd];refine hQ _ _ _ ?_;simp -implicitDefEqProofs -dsimp[aF,LS,LR,LC,LF,aI,LLC,LNd];obtain⟨n,hn⟩:∃n,u.cores.length=n:=⟨_,rfl⟩;refine aK (W_loopM 89 [6,11,12,56,57,58,59,60,61,62,63,64,65,66,67,68,69,70,71,72,73,74,75,76,77,78,79,80,81,82,83,84,85,86,87,88] (by simp[mB]<;>rfl) (σ:=Nat) (fun j=>j≤n∧((List.range n).drop j).all (nh t fds u.cores)=cB) (fun j=>n-j) (fun j=>[(56,.int .i64 j)]) (fun _=>[B.cells [.str t.name,.lst 1 ff (t.attrs.map V.str),.lst 2 gg (t.rows.map aN)],B.cells [.lst 2 false (u.cells.map aO),.str u.tab.name,.lst 1 false (u.tab.attrs.map V.str),.lst 2 false (u.tab.rows.map aN),.lst 1 false (u.cores.map (LC false)),.lst 2 false (u.prf.map aT)]]) 0 ⟨by omega,by rw[List.drop_zero,hcB,←hn];rfl⟩ (by simp) rfl (by simp) ?_);rintro j ⟨hj,hy⟩ N2 Q2 hN2 hQ2;by_cases hbj:j<n
     ·have hbc:j<u.cores.length:=by omega
      obtain⟨K,hKe⟩:∃K,K=u.cores[j]:=⟨_,rfl⟩
      have hKl:K.length≤100000:=by rw[hKe];exact hucK _ (List.getElem_mem _)
      have hKd:u.cores.getD j []=K:=by rw[hKe];simp[hbc]
      have hy0:=hy;rw[oh n j hbj,List.all_cons]at hy
      have hf:nh t fds u.cores j=false→E=false:=fun h=>by
       rw[h,Bool.false_and]at hy;rw[hE0,if_pos hy.symm]
      have hg:nh t fds u.cores j=true→((List.range n).drop (j+1)).all (nh t fds u.cores)=cB:=fun h=>by
       rw[h,Bool.true_and]at hy;exact hy
      clear hy hy0;unfold nh at hf hg;rw[hKd]at hf hg;have d1:=oH t ff gg df false fds K ht hF (by omega);simp only[aF,LS,LR,LC,LF]at d1;by_cases k1:dl t fds K=0
      ·rw[k1]at d1;have hs:=(kK ht k1).2.2.2.1;have d2:=nL t ff gg df false fds K hv hF hs (by omega);simp only[aF,LS,LR,LC,LF]at d2
       cases k2:na t fds K with
       | true =>
        rw[k2]at d2;rw[k1,k2]at hf hg;by_cases k3:j=0
        ·subst k3;have hg:=hg (by simp);refine wx ?_;simp -implicitDefEqProofs -dsimp[hbj,hbc,hn,hKe.symm,aF,LS,LR,LC,LF,aI,LLC,LNd];refine(aG (d1) (by simp)).mono ?_;rintro r H' ⟨rfl,rfl⟩;simp -implicitDefEqProofs -dsimp[aF,LS,LR,LC,LF,aI,LLC,LNd];refine(aG (d2) (by simp)).mono ?_;rintro r H' ⟨rfl,rfl⟩;simp -implicitDefEqProofs -dsimp[show IntKind.i64.wrap (1:Int)=1 from wrap64 (by omega) (by omega),aF,LS,LR,LC,LF,aI,LLC,LNd];refine hN2 1 _ _ ⟨by omega,hg⟩ (by omega) (by simp[hn]) ⟨[],rfl⟩ (by simp) (by simp)
        ·obtain⟨p,hjp⟩:∃p,j=p+1:=⟨j-1,by omega⟩;obtain⟨K',hKe'⟩:∃K',K'=u.cores[p]:=⟨_,rfl⟩
         have hKl':K'.length≤100000:=by rw[hKe'];exact hucK _ (List.getElem_mem _)
         have hKd':u.cores.getD p []=K':=by rw[hKe'];simp[show p<u.cores.length by omega]
         rw[show j-1=p by omega,hKd']at hf hg;have d3:=lists_u K' K false false (by omega) (by omega);simp only[LC]at d3
         have wp:IntKind.i64.wrap ((j:Int)-1)=(p:Int):=by rw[wrap64 (by omega) (by omega)];omega
         have wp1:IntKind.i64.wrap (p:Int)=(p:Int):=dS p (by omega)
         have hp:p<u.cores.length:=by omega
         obtain⟨z,hz⟩:∃z,z=au K' K:=⟨_,rfl⟩;rw[←hz]at d3 hf hg;by_cases k4:z<0
         ·have hg:=hg (by simp[k4]);refine wx ?_;simp -implicitDefEqProofs -dsimp[hbj,hbc,hn,hKe.symm,aF,LS,LR,LC,LF,aI,LLC,LNd];refine(aG (d1) (by simp)).mono ?_;rintro r H' ⟨rfl,rfl⟩;simp -implicitDefEqProofs -dsimp[aF,LS,LR,LC,LF,aI,LLC,LNd];refine(aG (d2) (by simp)).mono ?_;rintro r H' ⟨rfl,rfl⟩;simp -implicitDefEqProofs -dsimp[wp,wp1,hKe'.symm,hp,hn,show p<n by omega,show(0:Int)<(j:Int) by omega,show 0<j by omega,aF,LS,LR,LC,LF,aI,LLC,LNd];refine(aG (d3) (by simp)).mono ?_;rintro r H' ⟨rfl,rfl⟩;simp -implicitDefEqProofs -dsimp[k4,aM j (by omega),show ¬0≤z by omega,aF,LS,LR,LC,LF,aI,LLC,LNd];refine hN2 (j+1) _ _ ⟨by omega,hg⟩ (by omega) (by simp[hn]) ⟨[],rfl⟩ (by simp) (by simp)
         ·have hf:=hf (by simp[k4,k3]);refine wx ?_;simp -implicitDefEqProofs -dsimp[hbj,hbc,hn,hKe.symm,aF,LS,LR,LC,LF,aI,LLC,LNd];refine(aG (d1) (by simp)).mono ?_;rintro r H' ⟨rfl,rfl⟩;simp -implicitDefEqProofs -dsimp[aF,LS,LR,LC,LF,aI,LLC,LNd];refine(aG (d2) (by simp)).mono ?_;rintro r H' ⟨rfl,rfl⟩;simp -implicitDefEqProofs -dsimp[wp,wp1,hKe'.symm,hp,hn,show p<n by omega,show(0:Int)<(j:Int) by omega,show 0<j by omega,aF,LS,LR,LC,LF,aI,LLC,LNd];refine(aG (d3) (by simp)).mono ?_;rintro r H' ⟨rfl,rfl⟩;simp -implicitDefEqProofs -dsimp[k4,show 0≤z by omega,aF,LS,LR,LC,LF,aI,LLC,LNd];refine hQ2 _ _ _ ?_;simp -implicitDefEqProofs -dsimp[aF,LS,LR,LC,LF,aI,LLC,LNd];exact hf
       | false =>
        rw[k2]at d2;rw[k1,k2]at hf;have hf:=hf (by simp);refine wx ?_;simp -implicitDefEqProofs -dsimp[hbj,hbc,hn,hKe.symm,aF,LS,LR,LC,LF,aI,LLC,LNd];refine(aG (d1) (by simp)).mono ?_;rintro r H' ⟨rfl,rfl⟩;simp -implicitDefEqProofs -dsimp[aF,LS,LR,LC,LF,aI,LLC,LNd];refine(aG (d2) (by simp)).mono ?_;rintro r H' ⟨rfl,rfl⟩;simp -implicitDefEqProofs -dsimp[aF,LS,LR,LC,LF,aI,LLC,LNd];refine hQ2 _ _ _ ?_;simp -implicitDefEqProofs -dsimp[aF,LS,LR,LC,LF,aI,LLC,LNd];exact hf
      ·have hf:=hf (by simp[k1]);refine wx ?_;simp -implicitDefEqProofs -dsimp[hbj,hbc,hn,hKe.symm,aF,LS,LR,LC,LF,aI,LLC,LNd];refine(aG (d1) (by simp)).mono ?_;rintro r H' ⟨rfl,rfl⟩;simp -implicitDefEqProofs -dsimp[k1,aF,LS,LR,LC,LF,aI,LLC,LNd];refine hQ2 _ _ _ ?_;simp -implicitDefEqProofs -dsimp[aF,LS,LR,LC,LF,aI,LLC,LNd];exact hf
     ·rw[List.drop_of_length_le (by simp;omega),List.all_nil]at hy;rw[if_neg (by rw[←hy];simp)]at hE0;have c7:=hsCheck (ab (vsC u.cores).length) (u.cores.map fun K=>K.map (dw (vsC u.cores))) false false false (u.cells.length:Int) u.prf (fun e he=>by obtain⟨K,hK,rfl⟩:=List.mem_map.1 he;rw[List.length_map];have:=hucK K hK;omega) hup;unfold PRB at c5;simp only[ah,L1,LLn,LNd,LC,List.map_map]at c5 c7
      cases hok:okB (aW u.tab fds []) with
      | true =>
       rw[hok]at c6 hE0;rw[Bool.true_and]at hE0;unfold prfB at hE0;rw[←hE0]at c7;refine wx ?_;simp -implicitDefEqProofs -dsimp[hbj,hn,aF,LS,LR,LC,LF,aI,LLC,LNd];refine hQ2 _ _ _ ?_;simp -implicitDefEqProofs -dsimp[aF,LS,LR,LC,LF,aI,LLC,LNd];refine(aG (c5) (by simp)).mono ?_;rintro r H' ⟨rfl,rfl⟩;simp -implicitDefEqProofs -dsimp[aF,LS,LR,LC,LF,aI,LLC,LNd];refine(aG (c6) (by simp)).mono ?_;rintro r H' ⟨rfl,rfl⟩;simp -implicitDefEqProofs -dsimp[dS u.cells.length (by omega),aF,LS,LR,LC,LF,aI,LLC,LNd];refine(aG (c7) (by simp)).mono ?_;rintro r H' ⟨rfl,rfl⟩;simp -implicitDefEqProofs -dsimp[aF,LS,LR,LC,LF,aI,LLC,LNd]
      | false =>
       rw[hok]at c6 hE0;rw[Bool.false_and]at hE0;refine wx ?_;simp -implicitDefEqProofs -dsimp[hbj,hn,aF,LS,LR,LC,LF,aI,LLC,LNd];refine hQ2 _ _ _ ?_;simp -implicitDefEqProofs -dsimp[aF,LS,LR,LC,LF,aI,LLC,LNd];refine(aG (c5) (by simp)).mono ?_;rintro r H' ⟨rfl,rfl⟩;simp -implicitDefEqProofs -dsimp[aF,LS,LR,LC,LF,aI,LLC,LNd];refine(aG (c6) (by simp)).mono ?_;rintro r H' ⟨rfl,rfl⟩;simp -implicitDefEqProofs -dsimp[aF,LS,LR,LC,LF,aI,LLC,LNd];exact hE0
  ·rw[show mJ t fds u=false by unfold mJ;rw[if_neg (by simp[h1]),if_pos h2]];refine aC (aD tok Tryz.func30 rfl rfl ?_);refine wx ?_;simp -implicitDefEqProofs -dsimp[Tryz.f30,List.replicate,aF,LS,LR,LC,LF,aI,LLC,LNd];refine(aG (c1) (by simp)).mono ?_;rintro r H' ⟨rfl,rfl⟩;simp -implicitDefEqProofs -dsimp[aF,LS,LR,LC,LF,aI,LLC,LNd];refine(aG (c2) (by simp)).mono ?_;rintro r H' ⟨rfl,rfl⟩;simp -implicitDefEqProofs -dsimp[h2,aF,LS,LR,LC,LF,aI,LLC,LNd]
 ·rw[show mJ t fds u=false by unfold mJ;rw[if_pos h1]];refine aC (aD tok Tryz.func30 rfl rfl ?_);refine wx ?_;simp -implicitDefEqProofs -dsimp[Tryz.f30,List.replicate,aF,LS,LR,LC,LF,aI,LLC,LNd];refine(aG (c1) (by simp)).mono ?_;rintro r H' ⟨rfl,rfl⟩;simp -implicitDefEqProofs -dsimp[h1,aF,LS,LR,LC,LF,aI,LLC,LNd]
def clA52:List V:=[.agg [.str ⟨#[114]⟩,.lst 1 true [.str ⟨#[97]⟩,.str ⟨#[98]⟩],.lst 2 false [.agg [.int .i64 1,.lst 3 false [.agg [.int .i64 1,.int .i64 1,.str ⟨#[]⟩],.agg [.int .i64 1,.int .i64 1,.str ⟨#[]⟩]]],.agg [.int .i64 2,.lst 3 false [.agg [.int .i64 1,.int .i64 1,.str ⟨#[]⟩],.agg [.int .i64 1,.int .i64 2,.str ⟨#[]⟩]]]]],.lst 2 true [.agg [.int .u32 1,.int .u32 2]],.lst 2 false [.agg [.int .i64 2,.int .i64 1]]]
def clR52:V:=.tup [.agg [.str ⟨#[114]⟩,.lst 1 false [.str ⟨#[97]⟩,.str ⟨#[98]⟩],.lst 2 false [.agg [.int .i64 1,.lst 3 false [.agg [.int .i64 1,.int .i64 1,.str ⟨#[]⟩],.agg [.int .i64 1,.int .i64 1,.str ⟨#[]⟩]]],.agg [.int .i64 2,.lst 3 false [.agg [.int .i64 1,.int .i64 1,.str ⟨#[]⟩],.agg [.int .i64 1,.int .i64 1,.str ⟨#[]⟩]]]]],.int .i64 0]
theorem clP52:AM.Pure clR52:=by simp[clR52]
theorem clQ52:∀a∈clA52,AM.Pure a:=by simp[clA52]
theorem cl52:aS Tryz.prog 22 clA52 fun x=>x=clR52:=aH tok mixed al ao (fuel:=1000) (d:=40) (by kernel_rfl) clP52
def clA39:List V:=[.agg [.str ⟨#[114]⟩,.lst 1 true [.str ⟨#[97]⟩,.str ⟨#[98]⟩],.lst 2 false [.agg [.int .i64 1,.lst 3 false [.agg [.int .i64 1,.int .i64 1,.str ⟨#[]⟩],.agg [.int .i64 1,.int .i64 1,.str ⟨#[]⟩]]],.agg [.int .i64 2,.lst 3 false [.agg [.int .i64 1,.int .i64 1,.str ⟨#[]⟩],.agg [.int .i64 1,.int .i64 2,.str ⟨#[]⟩]]]]],.lst 2 true [.agg [.int .u32 0,.int .u32 2]],.lst 2 false [.agg [.int .i64 1,.int .i64 0],.agg [.int .i64 2,.int .i64 0]]]
def clR39:V:=.bool false
theorem clP39:AM.Pure clR39:=by simp[clR39]
theorem clQ39:∀a∈clA39,AM.Pure a:=by simp[clA39]
theorem cl39:aS Tryz.prog 44 clA39 fun x=>x=clR39:=aH tok mixed al ao (fuel:=1000) (d:=40) (by kernel_rfl) clP39
def clA19:List V:=[.agg [.str ⟨#[114]⟩,.lst 1 true [.str ⟨#[97]⟩,.str ⟨#[98]⟩],.lst 2 false [.agg [.int .i64 1,.lst 3 false [.agg [.int .i64 1,.int .i64 1,.str ⟨#[]⟩],.agg [.int .i64 1,.int .i64 1,.str ⟨#[]⟩]]],.agg [.int .i64 2,.lst 3 false [.agg [.int .i64 1,.int .i64 1,.str ⟨#[]⟩],.agg [.int .i64 1,.int .i64 2,.str ⟨#[]⟩]]]]],.lst 2 false [.agg [.int .i64 1,.int .i64 0],.agg [.int .i64 1,.int .i64 1],.agg [.int .i64 2,.int .i64 1]]]
def clR19:V:=.lst 2 false [.agg [.int .i64 2,.int .i64 0]]
theorem clP19:AM.Pure clR19:=by simp[clR19]
theorem clQ19:∀a∈clA19,AM.Pure a:=by simp[clA19]
theorem cl19:aS Tryz.prog 66 clA19 fun x=>x=clR19:=aH tok mixed al ao (fuel:=1000) (d:=40) (by kernel_rfl) clP19
def clA11:List V:=[.agg [.str ⟨#[114]⟩,.lst 1 true [.str ⟨#[97]⟩,.str ⟨#[98]⟩],.lst 2 false [.agg [.int .i64 1,.lst 3 false [.agg [.int .i64 1,.int .i64 1,.str ⟨#[]⟩],.agg [.int .i64 1,.int .i64 1,.str ⟨#[]⟩]]],.agg [.int .i64 2,.lst 3 false [.agg [.int .i64 1,.int .i64 1,.str ⟨#[]⟩],.agg [.int .i64 1,.int .i64 2,.str ⟨#[]⟩]]]]],.lst 2 false [.agg [.int .i64 1,.int .i64 1],.agg [.int .i64 2,.int .i64 0],.agg [.int .i64 2,.int .i64 1]]]
def clR11:V:=.lst 2 false [.agg [.int .i64 1,.int .i64 0]]
theorem clP11:AM.Pure clR11:=by simp[clR11]
theorem clQ11:∀a∈clA11,AM.Pure a:=by simp[clA11]
theorem cl11:aS Tryz.prog 66 clA11 fun x=>x=clR11:=aH tok mixed al ao (fuel:=1000) (d:=40) (by kernel_rfl) clP11
def clA15:List V:=[.agg [.str ⟨#[114]⟩,.lst 1 true [.str ⟨#[97]⟩,.str ⟨#[98]⟩],.lst 2 false [.agg [.int .i64 1,.lst 3 false [.agg [.int .i64 1,.int .i64 1,.str ⟨#[]⟩],.agg [.int .i64 1,.int .i64 1,.str ⟨#[]⟩]]],.agg [.int .i64 2,.lst 3 false [.agg [.int .i64 1,.int .i64 1,.str ⟨#[]⟩],.agg [.int .i64 1,.int .i64 2,.str ⟨#[]⟩]]]]],.lst 2 false [.agg [.int .i64 1,.int .i64 0],.agg [.int .i64 2,.int .i64 0],.agg [.int .i64 2,.int .i64 1]]]
def clR15:V:=.lst 2 false [.agg [.int .i64 1,.int .i64 1]]
theorem clP15:AM.Pure clR15:=by simp[clR15]
theorem clQ15:∀a∈clA15,AM.Pure a:=by simp[clA15]
theorem cl15:aS Tryz.prog 66 clA15 fun x=>x=clR15:=aH tok mixed al ao (fuel:=1000) (d:=40) (by kernel_rfl) clP15
def clA23:List V:=[.agg [.str ⟨#[114]⟩,.lst 1 true [.str ⟨#[97]⟩,.str ⟨#[98]⟩],.lst 2 false [.agg [.int .i64 1,.lst 3 false [.agg [.int .i64 1,.int .i64 1,.str ⟨#[]⟩],.agg [.int .i64 1,.int .i64 1,.str ⟨#[]⟩]]],.agg [.int .i64 2,.lst 3 false [.agg [.int .i64 1,.int .i64 1,.str ⟨#[]⟩],.agg [.int .i64 1,.int .i64 2,.str ⟨#[]⟩]]]]],.lst 2 false [.agg [.int .i64 1,.int .i64 0],.agg [.int .i64 1,.int .i64 1],.agg [.int .i64 2,.int .i64 0]]]
def clR23:V:=.lst 2 false [.agg [.int .i64 2,.int .i64 1]]
theorem clP23:AM.Pure clR23:=by simp[clR23]
theorem clQ23:∀a∈clA23,AM.Pure a:=by simp[clA23]
theorem cl23:aS Tryz.prog 66 clA23 fun x=>x=clR23:=aH tok mixed al ao (fuel:=1000) (d:=40) (by kernel_rfl) clP23
def clA8:List V:=[.agg [.str ⟨#[114]⟩,.lst 1 true [.str ⟨#[97]⟩,.str ⟨#[98]⟩],.lst 2 false [.agg [.int .i64 1,.lst 3 false [.agg [.int .i64 1,.int .i64 1,.str ⟨#[]⟩],.agg [.int .i64 1,.int .i64 1,.str ⟨#[]⟩]]],.agg [.int .i64 2,.lst 3 false [.agg [.int .i64 1,.int .i64 1,.str ⟨#[]⟩],.agg [.int .i64 1,.int .i64 2,.str ⟨#[]⟩]]]]],.lst 2 true [.agg [.int .u32 1,.int .u32 2]],.nilS]
def clR8:V:=.bool false
theorem clP8:AM.Pure clR8:=by simp[clR8]
theorem clQ8:∀a∈clA8,AM.Pure a:=by simp[clA8]
theorem cl8:aS Tryz.prog 44 clA8 fun x=>x=clR8:=aH tok mixed al ao (fuel:=1000) (d:=40) (by kernel_rfl) clP8
def clA42:List V:=[.agg [.str ⟨#[114]⟩,.lst 1 true [.str ⟨#[97]⟩,.str ⟨#[98]⟩],.lst 2 false [.agg [.int .i64 1,.lst 3 false [.agg [.int .i64 1,.int .i64 1,.str ⟨#[]⟩],.agg [.int .i64 1,.int .i64 1,.str ⟨#[]⟩]]],.agg [.int .i64 2,.lst 3 false [.agg [.int .i64 1,.int .i64 1,.str ⟨#[]⟩],.agg [.int .i64 1,.int .i64 2,.str ⟨#[]⟩]]]]],.lst 2 false [.agg [.int .i64 1,.int .i64 1]]]
def clR42:V:=.lst 2 false [.agg [.int .i64 1,.int .i64 0],.agg [.int .i64 2,.int .i64 0],.agg [.int .i64 2,.int .i64 1]]
theorem clP42:AM.Pure clR42:=by simp[clR42]
theorem clQ42:∀a∈clA42,AM.Pure a:=by simp[clA42]
theorem cl42:aS Tryz.prog 66 clA42 fun x=>x=clR42:=aH tok mixed al ao (fuel:=1000) (d:=40) (by kernel_rfl) clP42
def clA1:List V:=[.agg [.str ⟨#[114]⟩,.lst 1 true [.str ⟨#[97]⟩,.str ⟨#[98]⟩],.lst 2 false [.agg [.int .i64 1,.lst 3 false [.agg [.int .i64 1,.int .i64 1,.str ⟨#[]⟩],.agg [.int .i64 1,.int .i64 1,.str ⟨#[]⟩]]],.agg [.int .i64 2,.lst 3 false [.agg [.int .i64 1,.int .i64 1,.str ⟨#[]⟩],.agg [.int .i64 1,.int .i64 2,.str ⟨#[]⟩]]]]],.lst 2 true [.agg [.int .u32 1,.int .u32 2]],.lst 2 true [.agg [.int .i64 1,.int .i64 1]]]
def clR1:V:=.int .i64 0
theorem clP1:AM.Pure clR1:=by simp[clR1]
theorem clQ1:∀a∈clA1,AM.Pure a:=by simp[clA1]
theorem cl1:aS Tryz.prog 43 clA1 fun x=>x=clR1:=aH tok mixed al ao (fuel:=1000) (d:=40) (by kernel_rfl) clP1
def clA47:List V:=[.agg [.str ⟨#[114]⟩,.lst 1 true [.str ⟨#[97]⟩,.str ⟨#[98]⟩],.lst 2 false [.agg [.int .i64 1,.lst 3 false [.agg [.int .i64 1,.int .i64 1,.str ⟨#[]⟩],.agg [.int .i64 1,.int .i64 1,.str ⟨#[]⟩]]],.agg [.int .i64 2,.lst 3 false [.agg [.int .i64 1,.int .i64 1,.str ⟨#[]⟩],.agg [.int .i64 1,.int .i64 2,.str ⟨#[]⟩]]]]],.lst 2 true [.agg [.int .u32 1,.int .u32 2]],.nilS]
def clR47:V:=.int .i64 0
theorem clP47:AM.Pure clR47:=by simp[clR47]
theorem clQ47:∀a∈clA47,AM.Pure a:=by simp[clA47]
theorem cl47:aS Tryz.prog 43 clA47 fun x=>x=clR47:=aH tok mixed al ao (fuel:=1000) (d:=40) (by kernel_rfl) clP47
def clA2:List V:=[.agg [.str ⟨#[114]⟩,.lst 1 true [.str ⟨#[97]⟩,.str ⟨#[98]⟩],.lst 2 false [.agg [.int .i64 1,.lst 3 false [.agg [.int .i64 1,.int .i64 1,.str ⟨#[]⟩],.agg [.int .i64 1,.int .i64 1,.str ⟨#[]⟩]]],.agg [.int .i64 2,.lst 3 false [.agg [.int .i64 1,.int .i64 1,.str ⟨#[]⟩],.agg [.int .i64 1,.int .i64 2,.str ⟨#[]⟩]]]]],.lst 2 true [.agg [.int .u32 1,.int .u32 2]],.lst 2 true [.agg [.int .i64 1,.int .i64 1]]]
def clR2:V:=.tup [.agg [.str ⟨#[114]⟩,.lst 1 false [.str ⟨#[97]⟩,.str ⟨#[98]⟩],.lst 2 false [.agg [.int .i64 1,.lst 3 false [.agg [.int .i64 1,.int .i64 1,.str ⟨#[]⟩],.agg [.int .i64 1,.int .i64 2,.str ⟨#[]⟩]]],.agg [.int .i64 2,.lst 3 false [.agg [.int .i64 1,.int .i64 1,.str ⟨#[]⟩],.agg [.int .i64 1,.int .i64 2,.str ⟨#[]⟩]]]]],.int .i64 0]
theorem clP2:AM.Pure clR2:=by simp[clR2]
theorem clQ2:∀a∈clA2,AM.Pure a:=by simp[clA2]
theorem cl2:aS Tryz.prog 22 clA2 fun x=>x=clR2:=aH tok mixed al ao (fuel:=1000) (d:=40) (by kernel_rfl) clP2
def clA16:List V:=[.agg [.str ⟨#[114]⟩,.lst 1 true [.str ⟨#[97]⟩,.str ⟨#[98]⟩],.lst 2 false [.agg [.int .i64 1,.lst 3 false [.agg [.int .i64 1,.int .i64 1,.str ⟨#[]⟩],.agg [.int .i64 1,.int .i64 1,.str ⟨#[]⟩]]],.agg [.int .i64 2,.lst 3 false [.agg [.int .i64 1,.int .i64 1,.str ⟨#[]⟩],.agg [.int .i64 1,.int .i64 2,.str ⟨#[]⟩]]]]],.lst 2 true [.agg [.int .u32 1,.int .u32 2]],.lst 2 false [.agg [.int .i64 1,.int .i64 1]]]
def clR16:V:=.bool true
theorem clP16:AM.Pure clR16:=by simp[clR16]
theorem clQ16:∀a∈clA16,AM.Pure a:=by simp[clA16]
theorem cl16:aS Tryz.prog 44 clA16 fun x=>x=clR16:=aH tok mixed al ao (fuel:=1000) (d:=40) (by kernel_rfl) clP16
def clA35:List V:=[.agg [.str ⟨#[114]⟩,.lst 1 true [.str ⟨#[97]⟩,.str ⟨#[98]⟩],.lst 2 false [.agg [.int .i64 1,.lst 3 false [.agg [.int .i64 1,.int .i64 1,.str ⟨#[]⟩],.agg [.int .i64 1,.int .i64 1,.str ⟨#[]⟩]]],.agg [.int .i64 2,.lst 3 false [.agg [.int .i64 1,.int .i64 1,.str ⟨#[]⟩],.agg [.int .i64 1,.int .i64 2,.str ⟨#[]⟩]]]]],.lst 2 true [.agg [.int .u32 0,.int .u32 2]],.lst 2 false [.agg [.int .i64 1,.int .i64 0],.agg [.int .i64 1,.int .i64 1]]]
def clR35:V:=.bool true
theorem clP35:AM.Pure clR35:=by simp[clR35]
theorem clQ35:∀a∈clA35,AM.Pure a:=by simp[clA35]
theorem cl35:aS Tryz.prog 44 clA35 fun x=>x=clR35:=aH tok mixed al ao (fuel:=1000) (d:=40) (by kernel_rfl) clP35
def clA38:List V:=[.agg [.str ⟨#[114]⟩,.lst 1 true [.str ⟨#[97]⟩,.str ⟨#[98]⟩],.lst 2 false [.agg [.int .i64 1,.lst 3 false [.agg [.int .i64 1,.int .i64 1,.str ⟨#[]⟩],.agg [.int .i64 1,.int .i64 1,.str ⟨#[]⟩]]],.agg [.int .i64 2,.lst 3 false [.agg [.int .i64 1,.int .i64 1,.str ⟨#[]⟩],.agg [.int .i64 1,.int .i64 2,.str ⟨#[]⟩]]]]],.lst 2 false [.agg [.int .i64 1,.int .i64 1],.agg [.int .i64 2,.int .i64 1]]]
def clR38:V:=.lst 2 false [.agg [.int .i64 1,.int .i64 0],.agg [.int .i64 2,.int .i64 0]]
theorem clP38:AM.Pure clR38:=by simp[clR38]
theorem clQ38:∀a∈clA38,AM.Pure a:=by simp[clA38]
theorem cl38:aS Tryz.prog 66 clA38 fun x=>x=clR38:=aH tok mixed al ao (fuel:=1000) (d:=40) (by kernel_rfl) clP38
def clA4:List V:=[.agg [.str ⟨#[114]⟩,.lst 1 true [.str ⟨#[97]⟩,.str ⟨#[98]⟩],.lst 2 false [.agg [.int .i64 1,.lst 3 false [.agg [.int .i64 1,.int .i64 1,.str ⟨#[]⟩],.agg [.int .i64 1,.int .i64 1,.str ⟨#[]⟩]]],.agg [.int .i64 2,.lst 3 false [.agg [.int .i64 1,.int .i64 1,.str ⟨#[]⟩],.agg [.int .i64 1,.int .i64 2,.str ⟨#[]⟩]]]]],.lst 2 true [.agg [.int .u32 1,.int .u32 2]],.lst 2 true [.agg [.int .i64 1,.int .i64 0]]]
def clR4:V:=.tup [.agg [.str ⟨#[114]⟩,.lst 1 false [.str ⟨#[97]⟩,.str ⟨#[98]⟩],.lst 2 false [.agg [.int .i64 1,.lst 3 false [.agg [.int .i64 3,.int .i64 1,.str ⟨#[]⟩],.agg [.int .i64 1,.int .i64 1,.str ⟨#[]⟩]]],.agg [.int .i64 2,.lst 3 false [.agg [.int .i64 1,.int .i64 1,.str ⟨#[]⟩],.agg [.int .i64 1,.int .i64 2,.str ⟨#[]⟩]]]]],.int .i64 0]
theorem clP4:AM.Pure clR4:=by simp[clR4]
theorem clQ4:∀a∈clA4,AM.Pure a:=by simp[clA4]
theorem cl4:aS Tryz.prog 22 clA4 fun x=>x=clR4:=aH tok mixed al ao (fuel:=1000) (d:=40) (by kernel_rfl) clP4
def clA6:List V:=[.agg [.str ⟨#[114]⟩,.lst 1 true [.str ⟨#[97]⟩,.str ⟨#[98]⟩],.lst 2 false [.agg [.int .i64 1,.lst 3 false [.agg [.int .i64 1,.int .i64 1,.str ⟨#[]⟩],.agg [.int .i64 1,.int .i64 1,.str ⟨#[]⟩]]],.agg [.int .i64 2,.lst 3 false [.agg [.int .i64 1,.int .i64 1,.str ⟨#[]⟩],.agg [.int .i64 1,.int .i64 2,.str ⟨#[]⟩]]]]],.lst 2 true [.agg [.int .u32 1,.int .u32 2]],.lst 2 false [.agg [.int .i64 1,.int .i64 0],.agg [.int .i64 1,.int .i64 1],.agg [.int .i64 2,.int .i64 0],.agg [.int .i64 2,.int .i64 1]]]
def clR6:V:=.int .i64 0
theorem clP6:AM.Pure clR6:=by simp[clR6]
theorem clQ6:∀a∈clA6,AM.Pure a:=by simp[clA6]
theorem cl6:aS Tryz.prog 43 clA6 fun x=>x=clR6:=aH tok mixed al ao (fuel:=1000) (d:=40) (by kernel_rfl) clP6
def clA12:List V:=[.agg [.str ⟨#[114]⟩,.lst 1 true [.str ⟨#[97]⟩,.str ⟨#[98]⟩],.lst 2 false [.agg [.int .i64 1,.lst 3 false [.agg [.int .i64 1,.int .i64 1,.str ⟨#[]⟩],.agg [.int .i64 1,.int .i64 1,.str ⟨#[]⟩]]],.agg [.int .i64 2,.lst 3 false [.agg [.int .i64 1,.int .i64 1,.str ⟨#[]⟩],.agg [.int .i64 1,.int .i64 2,.str ⟨#[]⟩]]]]],.lst 2 true [.agg [.int .u32 1,.int .u32 2]],.lst 2 false [.agg [.int .i64 1,.int .i64 0]]]
def clR12:V:=.bool true
theorem clP12:AM.Pure clR12:=by simp[clR12]
theorem clQ12:∀a∈clA12,AM.Pure a:=by simp[clA12]
theorem cl12:aS Tryz.prog 44 clA12 fun x=>x=clR12:=aH tok mixed al ao (fuel:=1000) (d:=40) (by kernel_rfl) clP12
def clA29:List V:=[.agg [.str ⟨#[114]⟩,.lst 1 true [.str ⟨#[97]⟩,.str ⟨#[98]⟩],.lst 2 false [.agg [.int .i64 1,.lst 3 false [.agg [.int .i64 1,.int .i64 1,.str ⟨#[]⟩],.agg [.int .i64 1,.int .i64 1,.str ⟨#[]⟩]]],.agg [.int .i64 2,.lst 3 false [.agg [.int .i64 1,.int .i64 1,.str ⟨#[]⟩],.agg [.int .i64 1,.int .i64 2,.str ⟨#[]⟩]]]]],.lst 2 true [.agg [.int .u32 0,.int .u32 2]],.nilS]
def clR29:V:=.bool false
theorem clP29:AM.Pure clR29:=by simp[clR29]
theorem clQ29:∀a∈clA29,AM.Pure a:=by simp[clA29]
theorem cl29:aS Tryz.prog 44 clA29 fun x=>x=clR29:=aH tok mixed al ao (fuel:=1000) (d:=40) (by kernel_rfl) clP29
def clA51:List V:=[.agg [.str ⟨#[114]⟩,.lst 1 true [.str ⟨#[97]⟩,.str ⟨#[98]⟩],.lst 2 false [.agg [.int .i64 1,.lst 3 false [.agg [.int .i64 1,.int .i64 1,.str ⟨#[]⟩],.agg [.int .i64 1,.int .i64 1,.str ⟨#[]⟩]]],.agg [.int .i64 2,.lst 3 false [.agg [.int .i64 1,.int .i64 1,.str ⟨#[]⟩],.agg [.int .i64 1,.int .i64 2,.str ⟨#[]⟩]]]]],.lst 2 true [.agg [.int .u32 1,.int .u32 2]],.lst 2 false [.agg [.int .i64 2,.int .i64 1]]]
def clR51:V:=.int .i64 0
theorem clP51:AM.Pure clR51:=by simp[clR51]
theorem clQ51:∀a∈clA51,AM.Pure a:=by simp[clA51]
theorem cl51:aS Tryz.prog 43 clA51 fun x=>x=clR51:=aH tok mixed al ao (fuel:=1000) (d:=40) (by kernel_rfl) clP51
def clA0:List V:=[]
def clR0:V:=.agg [.str ⟨#[114]⟩,.lst 1 true [.str ⟨#[97]⟩,.str ⟨#[98]⟩],.lst 2 false [.agg [.int .i64 1,.lst 3 false [.agg [.int .i64 1,.int .i64 1,.str ⟨#[]⟩],.agg [.int .i64 1,.int .i64 1,.str ⟨#[]⟩]]],.agg [.int .i64 2,.lst 3 false [.agg [.int .i64 1,.int .i64 1,.str ⟨#[]⟩],.agg [.int .i64 1,.int .i64 2,.str ⟨#[]⟩]]]]]
theorem clP0:AM.Pure clR0:=by simp[clR0]
theorem clQ0:∀a∈clA0,AM.Pure a:=by simp[clA0]
theorem cl0:aS Tryz.prog 40 clA0 fun x=>x=clR0:=aH tok mixed al ao (fuel:=1000) (d:=40) (by kernel_rfl) clP0
def clA5:List V:=[.agg [.str ⟨#[114]⟩,.lst 1 true [.str ⟨#[97]⟩,.str ⟨#[98]⟩],.lst 2 false [.agg [.int .i64 1,.lst 3 false [.agg [.int .i64 1,.int .i64 1,.str ⟨#[]⟩],.agg [.int .i64 1,.int .i64 1,.str ⟨#[]⟩]]],.agg [.int .i64 2,.lst 3 false [.agg [.int .i64 1,.int .i64 1,.str ⟨#[]⟩],.agg [.int .i64 1,.int .i64 2,.str ⟨#[]⟩]]]]]]
def clR5:V:=.lst 2 false [.agg [.int .i64 1,.int .i64 0],.agg [.int .i64 1,.int .i64 1],.agg [.int .i64 2,.int .i64 0],.agg [.int .i64 2,.int .i64 1]]
theorem clP5:AM.Pure clR5:=by simp[clR5]
theorem clQ5:∀a∈clA5,AM.Pure a:=by simp[clA5]
theorem cl5:aS Tryz.prog 18 clA5 fun x=>x=clR5:=aH tok mixed al ao (fuel:=1000) (d:=40) (by kernel_rfl) clP5
def clA14:List V:=[.lst 2 false [.agg [.int .i64 1,.int .i64 0],.agg [.int .i64 1,.int .i64 1],.agg [.int .i64 2,.int .i64 0],.agg [.int .i64 2,.int .i64 1]],.int .i64 1]
def clR14:V:=.lst 2 false [.agg [.int .i64 1,.int .i64 0],.agg [.int .i64 2,.int .i64 0],.agg [.int .i64 2,.int .i64 1]]
theorem clP14:AM.Pure clR14:=by simp[clR14]
theorem clQ14:∀a∈clA14,AM.Pure a:=by simp[clA14]
theorem cl14:aS Tryz.prog 82 clA14 fun x=>x=clR14:=aH tok mixed al ao (fuel:=1000) (d:=40) (by kernel_rfl) clP14
def clA22:List V:=[.lst 2 false [.agg [.int .i64 1,.int .i64 0],.agg [.int .i64 1,.int .i64 1],.agg [.int .i64 2,.int .i64 0],.agg [.int .i64 2,.int .i64 1]],.int .i64 3]
def clR22:V:=.lst 2 false [.agg [.int .i64 1,.int .i64 0],.agg [.int .i64 1,.int .i64 1],.agg [.int .i64 2,.int .i64 0]]
theorem clP22:AM.Pure clR22:=by simp[clR22]
theorem clQ22:∀a∈clA22,AM.Pure a:=by simp[clA22]
theorem cl22:aS Tryz.prog 82 clA22 fun x=>x=clR22:=aH tok mixed al ao (fuel:=1000) (d:=40) (by kernel_rfl) clP22
def clA37:List V:=[.lst 2 false [.agg [.int .i64 1,.int .i64 1],.agg [.int .i64 2,.int .i64 0],.agg [.int .i64 2,.int .i64 1]],.int .i64 1]
def clR37:V:=.lst 2 false [.agg [.int .i64 1,.int .i64 1],.agg [.int .i64 2,.int .i64 1]]
theorem clP37:AM.Pure clR37:=by simp[clR37]
theorem clQ37:∀a∈clA37,AM.Pure a:=by simp[clA37]
theorem cl37:aS Tryz.prog 82 clA37 fun x=>x=clR37:=aH tok mixed al ao (fuel:=1000) (d:=40) (by kernel_rfl) clP37
def clA43:List V:=[.agg [.str ⟨#[114]⟩,.lst 1 true [.str ⟨#[97]⟩,.str ⟨#[98]⟩],.lst 2 false [.agg [.int .i64 1,.lst 3 false [.agg [.int .i64 1,.int .i64 1,.str ⟨#[]⟩],.agg [.int .i64 1,.int .i64 1,.str ⟨#[]⟩]]],.agg [.int .i64 2,.lst 3 false [.agg [.int .i64 1,.int .i64 1,.str ⟨#[]⟩],.agg [.int .i64 1,.int .i64 2,.str ⟨#[]⟩]]]]],.lst 2 true [.agg [.int .u32 0,.int .u32 2]],.lst 2 false [.agg [.int .i64 1,.int .i64 0],.agg [.int .i64 2,.int .i64 0],.agg [.int .i64 2,.int .i64 1]]]
def clR43:V:=.bool true
theorem clP43:AM.Pure clR43:=by simp[clR43]
theorem clQ43:∀a∈clA43,AM.Pure a:=by simp[clA43]
theorem cl43:aS Tryz.prog 44 clA43 fun x=>x=clR43:=aH tok mixed al ao (fuel:=1000) (d:=40) (by kernel_rfl) clP43
def clA24:List V:=[.agg [.str ⟨#[114]⟩,.lst 1 true [.str ⟨#[97]⟩,.str ⟨#[98]⟩],.lst 2 false [.agg [.int .i64 1,.lst 3 false [.agg [.int .i64 1,.int .i64 1,.str ⟨#[]⟩],.agg [.int .i64 1,.int .i64 1,.str ⟨#[]⟩]]],.agg [.int .i64 2,.lst 3 false [.agg [.int .i64 1,.int .i64 1,.str ⟨#[]⟩],.agg [.int .i64 1,.int .i64 2,.str ⟨#[]⟩]]]]],.lst 2 true [.agg [.int .u32 1,.int .u32 2]],.lst 2 false [.agg [.int .i64 2,.int .i64 1]]]
def clR24:V:=.bool true
theorem clP24:AM.Pure clR24:=by simp[clR24]
theorem clQ24:∀a∈clA24,AM.Pure a:=by simp[clA24]
theorem cl24:aS Tryz.prog 44 clA24 fun x=>x=clR24:=aH tok mixed al ao (fuel:=1000) (d:=40) (by kernel_rfl) clP24
def clA7:List V:=[.agg [.str ⟨#[114]⟩,.lst 1 true [.str ⟨#[97]⟩,.str ⟨#[98]⟩],.lst 2 false [.agg [.int .i64 1,.lst 3 false [.agg [.int .i64 1,.int .i64 1,.str ⟨#[]⟩],.agg [.int .i64 1,.int .i64 1,.str ⟨#[]⟩]]],.agg [.int .i64 2,.lst 3 false [.agg [.int .i64 1,.int .i64 1,.str ⟨#[]⟩],.agg [.int .i64 1,.int .i64 2,.str ⟨#[]⟩]]]]],.lst 2 false [.agg [.int .i64 1,.int .i64 0],.agg [.int .i64 1,.int .i64 1],.agg [.int .i64 2,.int .i64 0],.agg [.int .i64 2,.int .i64 1]]]
def clR7:V:=.nilS
theorem clP7:AM.Pure clR7:=by simp[clR7]
theorem clQ7:∀a∈clA7,AM.Pure a:=by simp[clA7]
theorem cl7:aS Tryz.prog 66 clA7 fun x=>x=clR7:=aH tok mixed al ao (fuel:=1000) (d:=40) (by kernel_rfl) clP7
def clA31:List V:=[.agg [.str ⟨#[114]⟩,.lst 1 true [.str ⟨#[97]⟩,.str ⟨#[98]⟩],.lst 2 false [.agg [.int .i64 1,.lst 3 false [.agg [.int .i64 1,.int .i64 1,.str ⟨#[]⟩],.agg [.int .i64 1,.int .i64 1,.str ⟨#[]⟩]]],.agg [.int .i64 2,.lst 3 false [.agg [.int .i64 1,.int .i64 1,.str ⟨#[]⟩],.agg [.int .i64 1,.int .i64 2,.str ⟨#[]⟩]]]]],.lst 2 true [.agg [.int .u32 0,.int .u32 2]],.lst 2 false [.agg [.int .i64 1,.int .i64 0]]]
def clR31:V:=.bool false
theorem clP31:AM.Pure clR31:=by simp[clR31]
theorem clQ31:∀a∈clA31,AM.Pure a:=by simp[clA31]
theorem cl31:aS Tryz.prog 44 clA31 fun x=>x=clR31:=aH tok mixed al ao (fuel:=1000) (d:=40) (by kernel_rfl) clP31
def clA34:List V:=[.agg [.str ⟨#[114]⟩,.lst 1 true [.str ⟨#[97]⟩,.str ⟨#[98]⟩],.lst 2 false [.agg [.int .i64 1,.lst 3 false [.agg [.int .i64 1,.int .i64 1,.str ⟨#[]⟩],.agg [.int .i64 1,.int .i64 1,.str ⟨#[]⟩]]],.agg [.int .i64 2,.lst 3 false [.agg [.int .i64 1,.int .i64 1,.str ⟨#[]⟩],.agg [.int .i64 1,.int .i64 2,.str ⟨#[]⟩]]]]],.lst 2 false [.agg [.int .i64 2,.int .i64 0],.agg [.int .i64 2,.int .i64 1]]]
def clR34:V:=.lst 2 false [.agg [.int .i64 1,.int .i64 0],.agg [.int .i64 1,.int .i64 1]]
theorem clP34:AM.Pure clR34:=by simp[clR34]
theorem clQ34:∀a∈clA34,AM.Pure a:=by simp[clA34]
theorem cl34:aS Tryz.prog 66 clA34 fun x=>x=clR34:=aH tok mixed al ao (fuel:=1000) (d:=40) (by kernel_rfl) clP34
def clA20:List V:=[.agg [.str ⟨#[114]⟩,.lst 1 true [.str ⟨#[97]⟩,.str ⟨#[98]⟩],.lst 2 false [.agg [.int .i64 1,.lst 3 false [.agg [.int .i64 1,.int .i64 1,.str ⟨#[]⟩],.agg [.int .i64 1,.int .i64 1,.str ⟨#[]⟩]]],.agg [.int .i64 2,.lst 3 false [.agg [.int .i64 1,.int .i64 1,.str ⟨#[]⟩],.agg [.int .i64 1,.int .i64 2,.str ⟨#[]⟩]]]]],.lst 2 true [.agg [.int .u32 1,.int .u32 2]],.lst 2 false [.agg [.int .i64 2,.int .i64 0]]]
def clR20:V:=.bool true
theorem clP20:AM.Pure clR20:=by simp[clR20]
theorem clQ20:∀a∈clA20,AM.Pure a:=by simp[clA20]
theorem cl20:aS Tryz.prog 44 clA20 fun x=>x=clR20:=aH tok mixed al ao (fuel:=1000) (d:=40) (by kernel_rfl) clP20
def clA28:List V:=[.agg [.str ⟨#[114]⟩,.lst 1 true [.str ⟨#[97]⟩,.str ⟨#[98]⟩],.lst 2 false [.agg [.int .i64 1,.lst 3 false [.agg [.int .i64 1,.int .i64 1,.str ⟨#[]⟩],.agg [.int .i64 1,.int .i64 1,.str ⟨#[]⟩]]],.agg [.int .i64 2,.lst 3 false [.agg [.int .i64 1,.int .i64 1,.str ⟨#[]⟩],.agg [.int .i64 1,.int .i64 2,.str ⟨#[]⟩]]]]],.lst 2 true [.agg [.int .u32 0,.int .u32 2]],.lst 2 false [.agg [.int .i64 1,.int .i64 0],.agg [.int .i64 1,.int .i64 1],.agg [.int .i64 2,.int .i64 0],.agg [.int .i64 2,.int .i64 1]]]
def clR28:V:=.int .i64 0
theorem clP28:AM.Pure clR28:=by simp[clR28]
theorem clQ28:∀a∈clA28,AM.Pure a:=by simp[clA28]
theorem cl28:aS Tryz.prog 43 clA28 fun x=>x=clR28:=aH tok mixed al ao (fuel:=1000) (d:=40) (by kernel_rfl) clP28
def clA55:List V:=[.agg [.str ⟨#[114]⟩,.lst 1 false [.str ⟨#[97]⟩,.str ⟨#[98]⟩],.lst 2 false [.agg [.int .i64 1,.lst 3 false [.agg [.int .i64 1,.int .i64 1,.str ⟨#[]⟩],.agg [.int .i64 1,.int .i64 1,.str ⟨#[]⟩]]],.agg [.int .i64 2,.lst 3 false [.agg [.int .i64 1,.int .i64 1,.str ⟨#[]⟩],.agg [.int .i64 1,.int .i64 1,.str ⟨#[]⟩]]]]],.lst 2 true [.agg [.int .u32 1,.int .u32 2]],.nilS]
def clR55:V:=.bool true
theorem clP55:AM.Pure clR55:=by simp[clR55]
theorem clQ55:∀a∈clA55,AM.Pure a:=by simp[clA55]
theorem cl55:aS Tryz.prog 44 clA55 fun x=>x=clR55:=aH tok mixed al ao (fuel:=1000) (d:=40) (by kernel_rfl) clP55
def clA3:List V:=[.agg [.str ⟨#[114]⟩,.lst 1 true [.str ⟨#[97]⟩,.str ⟨#[98]⟩],.lst 2 false [.agg [.int .i64 1,.lst 3 false [.agg [.int .i64 1,.int .i64 1,.str ⟨#[]⟩],.agg [.int .i64 1,.int .i64 1,.str ⟨#[]⟩]]],.agg [.int .i64 2,.lst 3 false [.agg [.int .i64 1,.int .i64 1,.str ⟨#[]⟩],.agg [.int .i64 1,.int .i64 2,.str ⟨#[]⟩]]]]],.lst 2 true [.agg [.int .u32 1,.int .u32 2]],.lst 2 true [.agg [.int .i64 1,.int .i64 0]]]
def clR3:V:=.int .i64 0
theorem clP3:AM.Pure clR3:=by simp[clR3]
theorem clQ3:∀a∈clA3,AM.Pure a:=by simp[clA3]
theorem cl3:aS Tryz.prog 43 clA3 fun x=>x=clR3:=aH tok mixed al ao (fuel:=1000) (d:=40) (by kernel_rfl) clP3
def clA50:List V:=[.agg [.str ⟨#[114]⟩,.lst 1 true [.str ⟨#[97]⟩,.str ⟨#[98]⟩],.lst 2 false [.agg [.int .i64 1,.lst 3 false [.agg [.int .i64 1,.int .i64 1,.str ⟨#[]⟩],.agg [.int .i64 1,.int .i64 1,.str ⟨#[]⟩]]],.agg [.int .i64 2,.lst 3 false [.agg [.int .i64 1,.int .i64 1,.str ⟨#[]⟩],.agg [.int .i64 1,.int .i64 2,.str ⟨#[]⟩]]]]],.nilS]
def clR50:V:=.lst 2 false [.agg [.int .i64 1,.int .i64 0],.agg [.int .i64 1,.int .i64 1],.agg [.int .i64 2,.int .i64 0],.agg [.int .i64 2,.int .i64 1]]
theorem clP50:AM.Pure clR50:=by simp[clR50]
theorem clQ50:∀a∈clA50,AM.Pure a:=by simp[clA50]
theorem cl50:aS Tryz.prog 66 clA50 fun x=>x=clR50:=aH tok mixed al ao (fuel:=1000) (d:=40) (by kernel_rfl) clP50
def clA10:List V:=[.lst 2 false [.agg [.int .i64 1,.int .i64 0],.agg [.int .i64 1,.int .i64 1],.agg [.int .i64 2,.int .i64 0],.agg [.int .i64 2,.int .i64 1]],.int .i64 0]
def clR10:V:=.lst 2 false [.agg [.int .i64 1,.int .i64 1],.agg [.int .i64 2,.int .i64 0],.agg [.int .i64 2,.int .i64 1]]
theorem clP10:AM.Pure clR10:=by simp[clR10]
theorem clQ10:∀a∈clA10,AM.Pure a:=by simp[clA10]
theorem cl10:aS Tryz.prog 82 clA10 fun x=>x=clR10:=aH tok mixed al ao (fuel:=1000) (d:=40) (by kernel_rfl) clP10
def clA18:List V:=[.lst 2 false [.agg [.int .i64 1,.int .i64 0],.agg [.int .i64 1,.int .i64 1],.agg [.int .i64 2,.int .i64 0],.agg [.int .i64 2,.int .i64 1]],.int .i64 2]
def clR18:V:=.lst 2 false [.agg [.int .i64 1,.int .i64 0],.agg [.int .i64 1,.int .i64 1],.agg [.int .i64 2,.int .i64 1]]
theorem clP18:AM.Pure clR18:=by simp[clR18]
theorem clQ18:∀a∈clA18,AM.Pure a:=by simp[clA18]
theorem cl18:aS Tryz.prog 82 clA18 fun x=>x=clR18:=aH tok mixed al ao (fuel:=1000) (d:=40) (by kernel_rfl) clP18
def clA33:List V:=[.lst 2 false [.agg [.int .i64 1,.int .i64 1],.agg [.int .i64 2,.int .i64 0],.agg [.int .i64 2,.int .i64 1]],.int .i64 0]
def clR33:V:=.lst 2 false [.agg [.int .i64 2,.int .i64 0],.agg [.int .i64 2,.int .i64 1]]
theorem clP33:AM.Pure clR33:=by simp[clR33]
theorem clQ33:∀a∈clA33,AM.Pure a:=by simp[clA33]
theorem cl33:aS Tryz.prog 82 clA33 fun x=>x=clR33:=aH tok mixed al ao (fuel:=1000) (d:=40) (by kernel_rfl) clP33
def clA41:List V:=[.lst 2 false [.agg [.int .i64 1,.int .i64 1],.agg [.int .i64 2,.int .i64 1]],.int .i64 1]
def clR41:V:=.lst 2 false [.agg [.int .i64 1,.int .i64 1]]
theorem clP41:AM.Pure clR41:=by simp[clR41]
theorem clQ41:∀a∈clA41,AM.Pure a:=by simp[clA41]
theorem cl41:aS Tryz.prog 82 clA41 fun x=>x=clR41:=aH tok mixed al ao (fuel:=1000) (d:=40) (by kernel_rfl) clP41
def xt0:bD:=fun f args H=>if Nat.beq f 40 then(if eqL (eqV 40) args clA0 then some (clR0,H) else ext f args H) else ext f args H
theorem xt0_ok:aq Tryz.prog xt0:=ar ao cl0 clQ0
def xt1:bD:=ir 43 clA1 clR1 xt0
theorem xt1_ok:aq Tryz.prog xt1:=bt xt0_ok cl1 clQ1 (by unfold clR1;constructor)
def xt2:bD:=lj 22 clA2 clR2 xt1
theorem xt2_ok:aq Tryz.prog xt2:=dq xt1_ok cl2 clQ2
def xt3:bD:=ir 43 clA3 clR3 xt2
theorem xt3_ok:aq Tryz.prog xt3:=bt xt2_ok cl3 clQ3 (by unfold clR3;constructor)
def xt4:bD:=lj 22 clA4 clR4 xt3
theorem xt4_ok:aq Tryz.prog xt4:=dq xt3_ok cl4 clQ4
def xt5:bD:=fun f args H=>if Nat.beq f 18 then(if eqL (eqV 40) args clA5 then some (clR5,H) else xt4 f args H) else xt4 f args H
theorem xt5_ok:aq Tryz.prog xt5:=ar xt4_ok cl5 clQ5
def xt6:bD:=ir 43 clA6 clR6 xt5
theorem xt6_ok:aq Tryz.prog xt6:=bt xt5_ok cl6 clQ6 (by unfold clR6;constructor)
def xt7:bD:=lj 66 clA7 clR7 xt6
theorem xt7_ok:aq Tryz.prog xt7:=dq xt6_ok cl7 clQ7
def xt8:bD:=ir 44 clA8 clR8 xt7
theorem xt8_ok:aq Tryz.prog xt8:=bt xt7_ok cl8 clQ8 (by unfold clR8;constructor)
def xt10:bD:=fun f args H=>if Nat.beq f 82 then(if eqL (eqV 40) args clA10 then some (clR10,H) else xt8 f args H) else xt8 f args H
theorem xt10_ok:aq Tryz.prog xt10:=ar xt8_ok cl10 clQ10
def xt11:bD:=lj 66 clA11 clR11 xt10
theorem xt11_ok:aq Tryz.prog xt11:=dq xt10_ok cl11 clQ11
def xt12:bD:=ir 44 clA12 clR12 xt11
theorem xt12_ok:aq Tryz.prog xt12:=bt xt11_ok cl12 clQ12 (by unfold clR12;constructor)
def xt14:bD:=fun f args H=>if Nat.beq f 82 then(if eqL (eqV 40) args clA14 then some (clR14,H) else xt12 f args H) else xt12 f args H
theorem xt14_ok:aq Tryz.prog xt14:=ar xt12_ok cl14 clQ14
def xt15:bD:=lj 66 clA15 clR15 xt14
theorem xt15_ok:aq Tryz.prog xt15:=dq xt14_ok cl15 clQ15
def xt16:bD:=ir 44 clA16 clR16 xt15
theorem xt16_ok:aq Tryz.prog xt16:=bt xt15_ok cl16 clQ16 (by unfold clR16;constructor)
def xt18:bD:=fun f args H=>if Nat.beq f 82 then(if eqL (eqV 40) args clA18 then some (clR18,H) else xt16 f args H) else xt16 f args H
theorem xt18_ok:aq Tryz.prog xt18:=ar xt16_ok cl18 clQ18
def xt19:bD:=lj 66 clA19 clR19 xt18
theorem xt19_ok:aq Tryz.prog xt19:=dq xt18_ok cl19 clQ19
def xt20:bD:=ir 44 clA20 clR20 xt19
theorem xt20_ok:aq Tryz.prog xt20:=bt xt19_ok cl20 clQ20 (by unfold clR20;constructor)
def xt22:bD:=fun f args H=>if Nat.beq f 82 then(if eqL (eqV 40) args clA22 then some (clR22,H) else xt20 f args H) else xt20 f args H
theorem xt22_ok:aq Tryz.prog xt22:=ar xt20_ok cl22 clQ22
def xt23:bD:=lj 66 clA23 clR23 xt22
theorem xt23_ok:aq Tryz.prog xt23:=dq xt22_ok cl23 clQ23
def xt24:bD:=ir 44 clA24 clR24 xt23
theorem xt24_ok:aq Tryz.prog xt24:=bt xt23_ok cl24 clQ24 (by unfold clR24;constructor)
def xt28:bD:=ir 43 clA28 clR28 xt24
theorem xt28_ok:aq Tryz.prog xt28:=bt xt24_ok cl28 clQ28 (by unfold clR28;constructor)
def xt29:bD:=ir 44 clA29 clR29 xt28
theorem xt29_ok:aq Tryz.prog xt29:=bt xt28_ok cl29 clQ29 (by unfold clR29;constructor)
def xt31:bD:=ir 44 clA31 clR31 xt29
theorem xt31_ok:aq Tryz.prog xt31:=bt xt29_ok cl31 clQ31 (by unfold clR31;constructor)
def xt33:bD:=fun f args H=>if Nat.beq f 82 then(if eqL (eqV 40) args clA33 then some (clR33,H) else xt31 f args H) else xt31 f args H
theorem xt33_ok:aq Tryz.prog xt33:=ar xt31_ok cl33 clQ33
def xt34:bD:=lj 66 clA34 clR34 xt33
theorem xt34_ok:aq Tryz.prog xt34:=dq xt33_ok cl34 clQ34
def xt35:bD:=ir 44 clA35 clR35 xt34
theorem xt35_ok:aq Tryz.prog xt35:=bt xt34_ok cl35 clQ35 (by unfold clR35;constructor)
def xt37:bD:=fun f args H=>if Nat.beq f 82 then(if eqL (eqV 40) args clA37 then some (clR37,H) else xt35 f args H) else xt35 f args H
theorem xt37_ok:aq Tryz.prog xt37:=ar xt35_ok cl37 clQ37
def xt38:bD:=lj 66 clA38 clR38 xt37
theorem xt38_ok:aq Tryz.prog xt38:=dq xt37_ok cl38 clQ38
def xt39:bD:=ir 44 clA39 clR39 xt38
theorem xt39_ok:aq Tryz.prog xt39:=bt xt38_ok cl39 clQ39 (by unfold clR39;constructor)
def xt41:bD:=fun f args H=>if Nat.beq f 82 then(if eqL (eqV 40) args clA41 then some (clR41,H) else xt39 f args H) else xt39 f args H
theorem xt41_ok:aq Tryz.prog xt41:=ar xt39_ok cl41 clQ41
def xt42:bD:=lj 66 clA42 clR42 xt41
theorem xt42_ok:aq Tryz.prog xt42:=dq xt41_ok cl42 clQ42
def xt43:bD:=ir 44 clA43 clR43 xt42
theorem xt43_ok:aq Tryz.prog xt43:=bt xt42_ok cl43 clQ43 (by unfold clR43;constructor)
def xt47:bD:=ir 43 clA47 clR47 xt43
theorem xt47_ok:aq Tryz.prog xt47:=bt xt43_ok cl47 clQ47 (by unfold clR47;constructor)
def xt50:bD:=lj 66 clA50 clR50 xt47
theorem xt50_ok:aq Tryz.prog xt50:=dq xt47_ok cl50 clQ50
def xt51:bD:=ir 43 clA51 clR51 xt50
theorem xt51_ok:aq Tryz.prog xt51:=bt xt50_ok cl51 clQ51 (by unfold clR51;constructor)
def xt52:bD:=lj 22 clA52 clR52 xt51
theorem xt52_ok:aq Tryz.prog xt52:=dq xt51_ok cl52 clQ52
def xt55:bD:=ir 44 clA55 clR55 xt52
theorem xt55_ok:aq Tryz.prog xt55:=bt xt52_ok cl55 clQ55 (by unfold clR55;constructor)
def clA9:List V:=[.agg [.str ⟨#[114]⟩,.lst 1 true [.str ⟨#[97]⟩,.str ⟨#[98]⟩],.lst 2 false [.agg [.int .i64 1,.lst 3 false [.agg [.int .i64 1,.int .i64 1,.str ⟨#[]⟩],.agg [.int .i64 1,.int .i64 1,.str ⟨#[]⟩]]],.agg [.int .i64 2,.lst 3 false [.agg [.int .i64 1,.int .i64 1,.str ⟨#[]⟩],.agg [.int .i64 1,.int .i64 2,.str ⟨#[]⟩]]]]],.lst 2 true [.agg [.int .u32 1,.int .u32 2]],.lst 2 false [.agg [.int .i64 1,.int .i64 0],.agg [.int .i64 1,.int .i64 1],.agg [.int .i64 2,.int .i64 0],.agg [.int .i64 2,.int .i64 1]]]
def clR9:V:=.bool true
theorem clP9:AM.Pure clR9:=by simp[clR9]
theorem clQ9:∀a∈clA9,AM.Pure a:=by simp[clA9]
theorem cl9:aS Tryz.prog 48 clA9 fun x=>x=clR9:=aH tok mixed al xt55_ok (fuel:=1000) (d:=40) (by kernel_rfl) clP9
def xt9:bD:=fun f args H=>if Nat.beq f 48 then(if eqL (eqV 40) args clA9 then some (clR9,H) else xt55 f args H) else xt55 f args H
theorem xt9_ok:aq Tryz.prog xt9:=ar xt55_ok cl9 clQ9
def clA13:List V:=[.agg [.str ⟨#[114]⟩,.lst 1 true [.str ⟨#[97]⟩,.str ⟨#[98]⟩],.lst 2 false [.agg [.int .i64 1,.lst 3 false [.agg [.int .i64 1,.int .i64 1,.str ⟨#[]⟩],.agg [.int .i64 1,.int .i64 1,.str ⟨#[]⟩]]],.agg [.int .i64 2,.lst 3 false [.agg [.int .i64 1,.int .i64 1,.str ⟨#[]⟩],.agg [.int .i64 1,.int .i64 2,.str ⟨#[]⟩]]]]],.lst 2 true [.agg [.int .u32 1,.int .u32 2]],.lst 2 false [.agg [.int .i64 1,.int .i64 1],.agg [.int .i64 2,.int .i64 0],.agg [.int .i64 2,.int .i64 1]]]
def clR13:V:=.bool false
theorem clP13:AM.Pure clR13:=by simp[clR13]
theorem clQ13:∀a∈clA13,AM.Pure a:=by simp[clA13]
theorem cl13:aS Tryz.prog 48 clA13 fun x=>x=clR13:=aH tok mixed al xt9_ok (fuel:=1000) (d:=40) (by kernel_rfl) clP13
def xt13:bD:=fun f args H=>if Nat.beq f 48 then(if eqL (eqV 40) args clA13 then some (clR13,H) else xt9 f args H) else xt9 f args H
theorem xt13_ok:aq Tryz.prog xt13:=ar xt9_ok cl13 clQ13
def clA17:List V:=[.agg [.str ⟨#[114]⟩,.lst 1 true [.str ⟨#[97]⟩,.str ⟨#[98]⟩],.lst 2 false [.agg [.int .i64 1,.lst 3 false [.agg [.int .i64 1,.int .i64 1,.str ⟨#[]⟩],.agg [.int .i64 1,.int .i64 1,.str ⟨#[]⟩]]],.agg [.int .i64 2,.lst 3 false [.agg [.int .i64 1,.int .i64 1,.str ⟨#[]⟩],.agg [.int .i64 1,.int .i64 2,.str ⟨#[]⟩]]]]],.lst 2 true [.agg [.int .u32 1,.int .u32 2]],.lst 2 false [.agg [.int .i64 1,.int .i64 0],.agg [.int .i64 2,.int .i64 0],.agg [.int .i64 2,.int .i64 1]]]
def clR17:V:=.bool false
theorem clP17:AM.Pure clR17:=by simp[clR17]
theorem clQ17:∀a∈clA17,AM.Pure a:=by simp[clA17]
theorem cl17:aS Tryz.prog 48 clA17 fun x=>x=clR17:=aH tok mixed al xt13_ok (fuel:=1000) (d:=40) (by kernel_rfl) clP17
def xt17:bD:=fun f args H=>if Nat.beq f 48 then(if eqL (eqV 40) args clA17 then some (clR17,H) else xt13 f args H) else xt13 f args H
theorem xt17_ok:aq Tryz.prog xt17:=ar xt13_ok cl17 clQ17
def clA21:List V:=[.agg [.str ⟨#[114]⟩,.lst 1 true [.str ⟨#[97]⟩,.str ⟨#[98]⟩],.lst 2 false [.agg [.int .i64 1,.lst 3 false [.agg [.int .i64 1,.int .i64 1,.str ⟨#[]⟩],.agg [.int .i64 1,.int .i64 1,.str ⟨#[]⟩]]],.agg [.int .i64 2,.lst 3 false [.agg [.int .i64 1,.int .i64 1,.str ⟨#[]⟩],.agg [.int .i64 1,.int .i64 2,.str ⟨#[]⟩]]]]],.lst 2 true [.agg [.int .u32 1,.int .u32 2]],.lst 2 false [.agg [.int .i64 1,.int .i64 0],.agg [.int .i64 1,.int .i64 1],.agg [.int .i64 2,.int .i64 1]]]
def clR21:V:=.bool false
theorem clP21:AM.Pure clR21:=by simp[clR21]
theorem clQ21:∀a∈clA21,AM.Pure a:=by simp[clA21]
theorem cl21:aS Tryz.prog 48 clA21 fun x=>x=clR21:=aH tok mixed al xt17_ok (fuel:=1000) (d:=40) (by kernel_rfl) clP21
def xt21:bD:=fun f args H=>if Nat.beq f 48 then(if eqL (eqV 40) args clA21 then some (clR21,H) else xt17 f args H) else xt17 f args H
theorem xt21_ok:aq Tryz.prog xt21:=ar xt17_ok cl21 clQ21
def clA25:List V:=[.agg [.str ⟨#[114]⟩,.lst 1 true [.str ⟨#[97]⟩,.str ⟨#[98]⟩],.lst 2 false [.agg [.int .i64 1,.lst 3 false [.agg [.int .i64 1,.int .i64 1,.str ⟨#[]⟩],.agg [.int .i64 1,.int .i64 1,.str ⟨#[]⟩]]],.agg [.int .i64 2,.lst 3 false [.agg [.int .i64 1,.int .i64 1,.str ⟨#[]⟩],.agg [.int .i64 1,.int .i64 2,.str ⟨#[]⟩]]]]],.lst 2 true [.agg [.int .u32 1,.int .u32 2]],.lst 2 false [.agg [.int .i64 1,.int .i64 0],.agg [.int .i64 1,.int .i64 1],.agg [.int .i64 2,.int .i64 0]]]
def clR25:V:=.bool false
theorem clP25:AM.Pure clR25:=by simp[clR25]
theorem clQ25:∀a∈clA25,AM.Pure a:=by simp[clA25]
theorem cl25:aS Tryz.prog 48 clA25 fun x=>x=clR25:=aH tok mixed al xt21_ok (fuel:=1000) (d:=40) (by kernel_rfl) clP25
def xt25:bD:=fun f args H=>if Nat.beq f 48 then(if eqL (eqV 40) args clA25 then some (clR25,H) else xt21 f args H) else xt21 f args H
theorem xt25_ok:aq Tryz.prog xt25:=ar xt21_ok cl25 clQ25
def clA26:List V:=[.agg [.str ⟨#[114]⟩,.lst 1 true [.str ⟨#[97]⟩,.str ⟨#[98]⟩],.lst 2 false [.agg [.int .i64 1,.lst 3 false [.agg [.int .i64 1,.int .i64 1,.str ⟨#[]⟩],.agg [.int .i64 1,.int .i64 1,.str ⟨#[]⟩]]],.agg [.int .i64 2,.lst 3 false [.agg [.int .i64 1,.int .i64 1,.str ⟨#[]⟩],.agg [.int .i64 1,.int .i64 2,.str ⟨#[]⟩]]]]],.lst 2 true [.agg [.int .u32 1,.int .u32 2]],.lst 2 false [.agg [.int .i64 1,.int .i64 0],.agg [.int .i64 1,.int .i64 1],.agg [.int .i64 2,.int .i64 0],.agg [.int .i64 2,.int .i64 1]]]
def clR26:V:=.lst 2 false [.agg [.int .i64 1,.int .i64 0],.agg [.int .i64 1,.int .i64 1],.agg [.int .i64 2,.int .i64 0],.agg [.int .i64 2,.int .i64 1]]
theorem clP26:AM.Pure clR26:=by simp[clR26]
theorem clQ26:∀a∈clA26,AM.Pure a:=by simp[clA26]
theorem cl26:aS Tryz.prog 49 clA26 fun x=>x=clR26:=aH tok mixed al xt25_ok (fuel:=1000) (d:=40) (by kernel_rfl) clP26
def xt26:bD:=fun f args H=>if Nat.beq f 49 then(if eqL (eqV 40) args clA26 then some (clR26,H) else xt25 f args H) else xt25 f args H
theorem xt26_ok:aq Tryz.prog xt26:=ar xt25_ok cl26 clQ26
def clA27:List V:=[.agg [.str ⟨#[114]⟩,.lst 1 true [.str ⟨#[97]⟩,.str ⟨#[98]⟩],.lst 2 false [.agg [.int .i64 1,.lst 3 false [.agg [.int .i64 1,.int .i64 1,.str ⟨#[]⟩],.agg [.int .i64 1,.int .i64 1,.str ⟨#[]⟩]]],.agg [.int .i64 2,.lst 3 false [.agg [.int .i64 1,.int .i64 1,.str ⟨#[]⟩],.agg [.int .i64 1,.int .i64 2,.str ⟨#[]⟩]]]]],.lst 2 true [.agg [.int .u32 1,.int .u32 2]],.lst 2 false [.agg [.int .i64 1,.int .i64 0],.agg [.int .i64 1,.int .i64 1],.agg [.int .i64 2,.int .i64 0],.agg [.int .i64 2,.int .i64 1]]]
def clR27:V:=.tup [.lst 2 false [.agg [.int .i64 1,.int .i64 0],.agg [.int .i64 1,.int .i64 1],.agg [.int .i64 2,.int .i64 0],.agg [.int .i64 2,.int .i64 1]],.int .i64 0]
theorem clP27:AM.Pure clR27:=by simp[clR27]
theorem clQ27:∀a∈clA27,AM.Pure a:=by simp[clA27]
theorem cl27:aS Tryz.prog 20 clA27 fun x=>x=clR27:=aH tok mixed al xt26_ok (fuel:=1000) (d:=40) (by kernel_rfl) clP27
def xt27:bD:=fun f args H=>if Nat.beq f 20 then(if eqL (eqV 40) args clA27 then some (clR27,H) else xt26 f args H) else xt26 f args H
theorem xt27_ok:aq Tryz.prog xt27:=ar xt26_ok cl27 clQ27
def clA30:List V:=[.agg [.str ⟨#[114]⟩,.lst 1 true [.str ⟨#[97]⟩,.str ⟨#[98]⟩],.lst 2 false [.agg [.int .i64 1,.lst 3 false [.agg [.int .i64 1,.int .i64 1,.str ⟨#[]⟩],.agg [.int .i64 1,.int .i64 1,.str ⟨#[]⟩]]],.agg [.int .i64 2,.lst 3 false [.agg [.int .i64 1,.int .i64 1,.str ⟨#[]⟩],.agg [.int .i64 1,.int .i64 2,.str ⟨#[]⟩]]]]],.lst 2 true [.agg [.int .u32 0,.int .u32 2]],.lst 2 false [.agg [.int .i64 1,.int .i64 0],.agg [.int .i64 1,.int .i64 1],.agg [.int .i64 2,.int .i64 0],.agg [.int .i64 2,.int .i64 1]]]
def clR30:V:=.bool true
theorem clP30:AM.Pure clR30:=by simp[clR30]
theorem clQ30:∀a∈clA30,AM.Pure a:=by simp[clA30]
theorem cl30:aS Tryz.prog 48 clA30 fun x=>x=clR30:=aH tok mixed al xt27_ok (fuel:=1000) (d:=40) (by kernel_rfl) clP30
def xt30:bD:=fun f args H=>if Nat.beq f 48 then(if eqL (eqV 40) args clA30 then some (clR30,H) else xt27 f args H) else xt27 f args H
theorem xt30_ok:aq Tryz.prog xt30:=ar xt27_ok cl30 clQ30
def clA32:List V:=[.agg [.str ⟨#[114]⟩,.lst 1 true [.str ⟨#[97]⟩,.str ⟨#[98]⟩],.lst 2 false [.agg [.int .i64 1,.lst 3 false [.agg [.int .i64 1,.int .i64 1,.str ⟨#[]⟩],.agg [.int .i64 1,.int .i64 1,.str ⟨#[]⟩]]],.agg [.int .i64 2,.lst 3 false [.agg [.int .i64 1,.int .i64 1,.str ⟨#[]⟩],.agg [.int .i64 1,.int .i64 2,.str ⟨#[]⟩]]]]],.lst 2 true [.agg [.int .u32 0,.int .u32 2]],.lst 2 false [.agg [.int .i64 1,.int .i64 1],.agg [.int .i64 2,.int .i64 0],.agg [.int .i64 2,.int .i64 1]]]
def clR32:V:=.bool true
theorem clP32:AM.Pure clR32:=by simp[clR32]
theorem clQ32:∀a∈clA32,AM.Pure a:=by simp[clA32]
theorem cl32:aS Tryz.prog 48 clA32 fun x=>x=clR32:=aH tok mixed al xt30_ok (fuel:=1000) (d:=40) (by kernel_rfl) clP32
def xt32:bD:=fun f args H=>if Nat.beq f 48 then(if eqL (eqV 40) args clA32 then some (clR32,H) else xt30 f args H) else xt30 f args H
theorem xt32_ok:aq Tryz.prog xt32:=ar xt30_ok cl32 clQ32
def clA36:List V:=[.agg [.str ⟨#[114]⟩,.lst 1 true [.str ⟨#[97]⟩,.str ⟨#[98]⟩],.lst 2 false [.agg [.int .i64 1,.lst 3 false [.agg [.int .i64 1,.int .i64 1,.str ⟨#[]⟩],.agg [.int .i64 1,.int .i64 1,.str ⟨#[]⟩]]],.agg [.int .i64 2,.lst 3 false [.agg [.int .i64 1,.int .i64 1,.str ⟨#[]⟩],.agg [.int .i64 1,.int .i64 2,.str ⟨#[]⟩]]]]],.lst 2 true [.agg [.int .u32 0,.int .u32 2]],.lst 2 false [.agg [.int .i64 2,.int .i64 0],.agg [.int .i64 2,.int .i64 1]]]
def clR36:V:=.bool false
theorem clP36:AM.Pure clR36:=by simp[clR36]
theorem clQ36:∀a∈clA36,AM.Pure a:=by simp[clA36]
theorem cl36:aS Tryz.prog 48 clA36 fun x=>x=clR36:=aH tok mixed al xt32_ok (fuel:=1000) (d:=40) (by kernel_rfl) clP36
def xt36:bD:=fun f args H=>if Nat.beq f 48 then(if eqL (eqV 40) args clA36 then some (clR36,H) else xt32 f args H) else xt32 f args H
theorem xt36_ok:aq Tryz.prog xt36:=ar xt32_ok cl36 clQ36
def clA40:List V:=[.agg [.str ⟨#[114]⟩,.lst 1 true [.str ⟨#[97]⟩,.str ⟨#[98]⟩],.lst 2 false [.agg [.int .i64 1,.lst 3 false [.agg [.int .i64 1,.int .i64 1,.str ⟨#[]⟩],.agg [.int .i64 1,.int .i64 1,.str ⟨#[]⟩]]],.agg [.int .i64 2,.lst 3 false [.agg [.int .i64 1,.int .i64 1,.str ⟨#[]⟩],.agg [.int .i64 1,.int .i64 2,.str ⟨#[]⟩]]]]],.lst 2 true [.agg [.int .u32 0,.int .u32 2]],.lst 2 false [.agg [.int .i64 1,.int .i64 1],.agg [.int .i64 2,.int .i64 1]]]
def clR40:V:=.bool true
theorem clP40:AM.Pure clR40:=by simp[clR40]
theorem clQ40:∀a∈clA40,AM.Pure a:=by simp[clA40]
theorem cl40:aS Tryz.prog 48 clA40 fun x=>x=clR40:=aH tok mixed al xt36_ok (fuel:=1000) (d:=40) (by kernel_rfl) clP40
def xt40:bD:=fun f args H=>if Nat.beq f 48 then(if eqL (eqV 40) args clA40 then some (clR40,H) else xt36 f args H) else xt36 f args H
theorem xt40_ok:aq Tryz.prog xt40:=ar xt36_ok cl40 clQ40
def clA44:List V:=[.agg [.str ⟨#[114]⟩,.lst 1 true [.str ⟨#[97]⟩,.str ⟨#[98]⟩],.lst 2 false [.agg [.int .i64 1,.lst 3 false [.agg [.int .i64 1,.int .i64 1,.str ⟨#[]⟩],.agg [.int .i64 1,.int .i64 1,.str ⟨#[]⟩]]],.agg [.int .i64 2,.lst 3 false [.agg [.int .i64 1,.int .i64 1,.str ⟨#[]⟩],.agg [.int .i64 1,.int .i64 2,.str ⟨#[]⟩]]]]],.lst 2 true [.agg [.int .u32 0,.int .u32 2]],.lst 2 false [.agg [.int .i64 1,.int .i64 1]]]
def clR44:V:=.bool false
theorem clP44:AM.Pure clR44:=by simp[clR44]
theorem clQ44:∀a∈clA44,AM.Pure a:=by simp[clA44]
theorem cl44:aS Tryz.prog 48 clA44 fun x=>x=clR44:=aH tok mixed al xt40_ok (fuel:=1000) (d:=40) (by kernel_rfl) clP44
def xt44:bD:=fun f args H=>if Nat.beq f 48 then(if eqL (eqV 40) args clA44 then some (clR44,H) else xt40 f args H) else xt40 f args H
theorem xt44_ok:aq Tryz.prog xt44:=ar xt40_ok cl44 clQ44
def clA45:List V:=[.agg [.str ⟨#[114]⟩,.lst 1 true [.str ⟨#[97]⟩,.str ⟨#[98]⟩],.lst 2 false [.agg [.int .i64 1,.lst 3 false [.agg [.int .i64 1,.int .i64 1,.str ⟨#[]⟩],.agg [.int .i64 1,.int .i64 1,.str ⟨#[]⟩]]],.agg [.int .i64 2,.lst 3 false [.agg [.int .i64 1,.int .i64 1,.str ⟨#[]⟩],.agg [.int .i64 1,.int .i64 2,.str ⟨#[]⟩]]]]],.lst 2 true [.agg [.int .u32 0,.int .u32 2]],.lst 2 false [.agg [.int .i64 1,.int .i64 0],.agg [.int .i64 1,.int .i64 1],.agg [.int .i64 2,.int .i64 0],.agg [.int .i64 2,.int .i64 1]]]
def clR45:V:=.lst 2 false [.agg [.int .i64 1,.int .i64 1],.agg [.int .i64 2,.int .i64 1]]
theorem clP45:AM.Pure clR45:=by simp[clR45]
theorem clQ45:∀a∈clA45,AM.Pure a:=by simp[clA45]
theorem cl45:aS Tryz.prog 49 clA45 fun x=>x=clR45:=aH tok mixed al xt44_ok (fuel:=1000) (d:=40) (by kernel_rfl) clP45
def xt45:bD:=fun f args H=>if Nat.beq f 49 then(if eqL (eqV 40) args clA45 then some (clR45,H) else xt44 f args H) else xt44 f args H
theorem xt45_ok:aq Tryz.prog xt45:=ar xt44_ok cl45 clQ45
def clA46:List V:=[.agg [.str ⟨#[114]⟩,.lst 1 true [.str ⟨#[97]⟩,.str ⟨#[98]⟩],.lst 2 false [.agg [.int .i64 1,.lst 3 false [.agg [.int .i64 1,.int .i64 1,.str ⟨#[]⟩],.agg [.int .i64 1,.int .i64 1,.str ⟨#[]⟩]]],.agg [.int .i64 2,.lst 3 false [.agg [.int .i64 1,.int .i64 1,.str ⟨#[]⟩],.agg [.int .i64 1,.int .i64 2,.str ⟨#[]⟩]]]]],.lst 2 true [.agg [.int .u32 0,.int .u32 2]],.lst 2 false [.agg [.int .i64 1,.int .i64 0],.agg [.int .i64 1,.int .i64 1],.agg [.int .i64 2,.int .i64 0],.agg [.int .i64 2,.int .i64 1]]]
def clR46:V:=.tup [.lst 2 false [.agg [.int .i64 1,.int .i64 1],.agg [.int .i64 2,.int .i64 1]],.int .i64 0]
theorem clP46:AM.Pure clR46:=by simp[clR46]
theorem clQ46:∀a∈clA46,AM.Pure a:=by simp[clA46]
theorem cl46:aS Tryz.prog 20 clA46 fun x=>x=clR46:=aH tok mixed al xt45_ok (fuel:=1000) (d:=40) (by kernel_rfl) clP46
def xt46:bD:=fun f args H=>if Nat.beq f 20 then(if eqL (eqV 40) args clA46 then some (clR46,H) else xt45 f args H) else xt45 f args H
theorem xt46_ok:aq Tryz.prog xt46:=ar xt45_ok cl46 clQ46
def clA48:List V:=[.nilS]
def clR48:V:=.tup [.agg [.nilS,.nilS],.nilS]
theorem clP48:AM.Pure clR48:=by simp[clR48]
theorem clQ48:∀a∈clA48,AM.Pure a:=by simp[clA48]
theorem cl48:aS Tryz.prog 63 clA48 fun x=>x=clR48:=aH tok mixed al xt46_ok (fuel:=1000) (d:=40) (by kernel_rfl) clP48
def xt48:bD:=fun f args H=>if Nat.beq f 63 then(if eqL (eqV 40) args clA48 then some (clR48,H) else xt46 f args H) else xt46 f args H
theorem xt48_ok:aq Tryz.prog xt48:=ar xt46_ok cl48 clQ48
def clA49:List V:=[.agg [.nilS,.nilS],.int .i64 20000]
def clR49:V:=.tup [.nilS,.int .i64 0,.int .i64 0]
theorem clP49:AM.Pure clR49:=by simp[clR49]
theorem clQ49:∀a∈clA49,AM.Pure a:=by simp[clA49]
theorem cl49:aS Tryz.prog 64 clA49 fun x=>x=clR49:=aH tok mixed al xt48_ok (fuel:=1000) (d:=40) (by kernel_rfl) clP49
def xt49:bD:=fun f args H=>if Nat.beq f 64 then(if eqL (eqV 40) args clA49 then some (clR49,H) else xt48 f args H) else xt48 f args H
theorem xt49_ok:aq Tryz.prog xt49:=ar xt48_ok cl49 clQ49
def clA53:List V:=[.agg [.str ⟨#[114]⟩,.lst 1 true [.str ⟨#[97]⟩,.str ⟨#[98]⟩],.lst 2 false [.agg [.int .i64 1,.lst 3 false [.agg [.int .i64 1,.int .i64 1,.str ⟨#[]⟩],.agg [.int .i64 1,.int .i64 1,.str ⟨#[]⟩]]],.agg [.int .i64 2,.lst 3 false [.agg [.int .i64 1,.int .i64 1,.str ⟨#[]⟩],.agg [.int .i64 1,.int .i64 2,.str ⟨#[]⟩]]]]],.lst 2 true [.agg [.int .u32 1,.int .u32 2]],.int .i64 20000]
def clR53:V:=.tup [.agg [.lst 2 false [.agg [.int .i64 2,.int .i64 1]],.str ⟨#[114]⟩,.lst 1 false [.str ⟨#[97]⟩,.str ⟨#[98]⟩],.lst 2 false [.agg [.int .i64 1,.lst 3 false [.agg [.int .i64 1,.int .i64 1,.str ⟨#[]⟩],.agg [.int .i64 1,.int .i64 1,.str ⟨#[]⟩]]],.agg [.int .i64 2,.lst 3 false [.agg [.int .i64 1,.int .i64 1,.str ⟨#[]⟩],.agg [.int .i64 1,.int .i64 1,.str ⟨#[]⟩]]]],.lst 1 false [.lst 2 false [.agg [.int .i64 1,.int .i64 0],.agg [.int .i64 1,.int .i64 1],.agg [.int .i64 2,.int .i64 0],.agg [.int .i64 2,.int .i64 1]]],.lst 2 true [.agg [.int .i64 (-1),.lst 2 false [.agg [.int .i64 0,.int .i64 1]]]]],.int .i64 0]
theorem clP53:AM.Pure clR53:=by simp[clR53]
theorem clQ53:∀a∈clA53,AM.Pure a:=by simp[clA53]
theorem cl53:aS Tryz.prog 28 clA53 fun x=>x=clR53:=aH tok mixed al xt49_ok (fuel:=1000) (d:=40) (by kernel_rfl) clP53
def xt53:bD:=fun f args H=>if Nat.beq f 28 then(if eqL (eqV 40) args clA53 then some (clR53,H) else xt49 f args H) else xt49 f args H
theorem xt53_ok:aq Tryz.prog xt53:=ar xt49_ok cl53 clQ53
def clA54:List V:=[.lst 1 false [.lst 2 false [.agg [.int .i64 1,.int .i64 0],.agg [.int .i64 1,.int .i64 1],.agg [.int .i64 2,.int .i64 0],.agg [.int .i64 2,.int .i64 1]]]]
def clR54:V:=.tup [.agg [.lst 1 false [.int .i64 1,.int .i64 1,.int .i64 1,.int .i64 1],.lst 1 false [.lst 1 false [.int .i64 0,.int .i64 1,.int .i64 2,.int .i64 3]]],.lst 2 false [.agg [.int .i64 1,.int .i64 0],.agg [.int .i64 1,.int .i64 1],.agg [.int .i64 2,.int .i64 0],.agg [.int .i64 2,.int .i64 1]]]
theorem clP54:AM.Pure clR54:=by simp[clR54]
theorem clQ54:∀a∈clA54,AM.Pure a:=by simp[clA54]
theorem cl54:aS Tryz.prog 63 clA54 fun x=>x=clR54:=aH tok mixed al xt53_ok (fuel:=1000) (d:=40) (by kernel_rfl) clP54
def xt54:bD:=fun f args H=>if Nat.beq f 63 then(if eqL (eqV 40) args clA54 then some (clR54,H) else xt53 f args H) else xt53 f args H
theorem xt54_ok:aq Tryz.prog xt54:=ar xt53_ok cl54 clQ54
def clA56:List V:=[.agg [.lst 1 false [.int .i64 1,.int .i64 1,.int .i64 1,.int .i64 1],.lst 1 false [.lst 1 false [.int .i64 0,.int .i64 1,.int .i64 2,.int .i64 3]]],.int .i64 1,.lst 2 true [.agg [.int .i64 (-1),.lst 2 false [.agg [.int .i64 0,.int .i64 1]]]]]
def clR56:V:=.bool true
theorem clP56:AM.Pure clR56:=by simp[clR56]
theorem clQ56:∀a∈clA56,AM.Pure a:=by simp[clA56]
theorem cl56:aS Tryz.prog 76 clA56 fun x=>x=clR56:=aH tok mixed al xt54_ok (fuel:=1000) (d:=40) (by kernel_rfl) clP56
def xt56:bD:=fun f args H=>if Nat.beq f 76 then(if eqL (eqV 40) args clA56 then some (clR56,H) else xt54 f args H) else xt54 f args H
theorem xt56_ok:aq Tryz.prog xt56:=ar xt54_ok cl56 clQ56
def clA57:List V:=[.agg [.str ⟨#[114]⟩,.lst 1 true [.str ⟨#[97]⟩,.str ⟨#[98]⟩],.lst 2 false [.agg [.int .i64 1,.lst 3 false [.agg [.int .i64 1,.int .i64 1,.str ⟨#[]⟩],.agg [.int .i64 1,.int .i64 1,.str ⟨#[]⟩]]],.agg [.int .i64 2,.lst 3 false [.agg [.int .i64 1,.int .i64 1,.str ⟨#[]⟩],.agg [.int .i64 1,.int .i64 2,.str ⟨#[]⟩]]]]],.lst 2 true [.agg [.int .u32 1,.int .u32 2]],.agg [.lst 2 false [.agg [.int .i64 2,.int .i64 1]],.str ⟨#[114]⟩,.lst 1 false [.str ⟨#[97]⟩,.str ⟨#[98]⟩],.lst 2 false [.agg [.int .i64 1,.lst 3 false [.agg [.int .i64 1,.int .i64 1,.str ⟨#[]⟩],.agg [.int .i64 1,.int .i64 1,.str ⟨#[]⟩]]],.agg [.int .i64 2,.lst 3 false [.agg [.int .i64 1,.int .i64 1,.str ⟨#[]⟩],.agg [.int .i64 1,.int .i64 1,.str ⟨#[]⟩]]]],.lst 1 false [.lst 2 false [.agg [.int .i64 1,.int .i64 0],.agg [.int .i64 1,.int .i64 1],.agg [.int .i64 2,.int .i64 0],.agg [.int .i64 2,.int .i64 1]]],.lst 2 true [.agg [.int .i64 (-1),.lst 2 false [.agg [.int .i64 0,.int .i64 1]]]]]]
def clR57:V:=.bool true
theorem clP57:AM.Pure clR57:=by simp[clR57]
theorem clQ57:∀a∈clA57,AM.Pure a:=by simp[clA57]
theorem cl57:aS Tryz.prog 30 clA57 fun x=>x=clR57:=aH tok mixed al xt56_ok (fuel:=1000) (d:=40) (by kernel_rfl) clP57
def xt57:bD:=fun f args H=>if Nat.beq f 30 then(if eqL (eqV 40) args clA57 then some (clR57,H) else xt56 f args H) else xt56 f args H
theorem xt57_ok:aq Tryz.prog xt57:=ar xt56_ok cl57 clQ57
theorem awake_con:aS Tryz.prog 12 [] fun x=>x = .bool true:=aH tok mixed al xt57_ok (fuel:=1000) (d:=40) (by kernel_rfl) (.bool _)
end
end Go.Proofs.YteijbpppalhihaaGreat
section
namespace Go.Proofs.YteijbpppalhihaaGreat
open Go Go.AM
end Go.Proofs.YteijbpppalhihaaGreat
end
namespace Go.Proofs.YteijbpppalhihaaGreat
section
open Go Go.AM
theorem necessary_r(t:Tb)(ff gg df cf:Bool)(fds:List Fd)(l:List Cr)(hv:TbV t)(hF:bo fds)(hl:l.length≤1000000):
  aS Tryz.prog 35 [aF ff gg t,LF df fds,LC cf l] fun r=>r = .bool (na t fds l):=by
 have c1:=others_r t ff gg cf l hv.rows (by have:=hv.attrs;omega) hl;have c2:=enough_r t ff gg df false fds (bX t l) hv hF (fk t hv l);rw[necB_eq];simp only[aF,LS,LR,LC,LF]at c1 c2;refine aC (aD tok Tryz.func35 rfl rfl ?_);refine wx ?_;simp -implicitDefEqProofs -dsimp[Tryz.f35,List.replicate,aF,LS,LR,LC,LF];refine .inr ⟨aJ (by kernel_rfl),?_⟩;refine aj _ (aG (c1) (by simp)) ?_;simp -implicitDefEqProofs -dsimp[];refine aj _ (aG (c2) (by simp)) ?_;simp -implicitDefEqProofs -dsimp[]
noncomputable def inC(cores:List (List Cr))(c:Cr):Bool:=cores.any fun K=>dD K c
noncomputable def vtx(cores:List (List Cr))(A:List Cr)(i:Nat):List Cr:=(A.take i).filter (inC cores)
theorem vtx_succ(cores:List (List Cr))(A:List Cr)(i:Nat)(h:i<A.length):vtx cores A (i+1)=vtx cores A i++if inC cores A[i]=true then [A[i]] else []:=by
 unfold vtx;rw[List.take_succ_eq_append_getElem h,List.filter_append];congr 1;by_cases hh:inC cores A[i]=true<;>simp[hh]
theorem vtx_len(cores:List (List Cr))(A:List Cr)(i:Nat):(vtx cores A i).length≤i:=by
 unfold vtx;exact Nat.le_trans (List.length_filter_le _ _) (by simp;omega)
theorem vtx_not{cores:List (List Cr)}{A:List Cr}(hA:A.Nodup){i:Nat}(h:i<A.length):A[i]∉vtx cores A i:=by
 unfold vtx;intro hm;have h1:=(List.mem_filter.1 hm).1;obtain⟨j,hj,he⟩:=List.mem_iff_getElem.1 h1;rw[List.length_take]at hj;rw[List.getElem_take]at he
 have h5:j<A.length:=by omega
 exact List.pairwise_iff_getElem.1 hA j i h5 h (by omega) he
theorem any_take{α:Type}(p:α→Bool)(l:List α)(k:Nat)(h:k<l.length):(l.take (k+1)).any p=((l.take k).any p||p l[k]):=by
 rw[List.take_succ_eq_append_getElem h,List.any_append];simp
noncomputable def vt2(cores:List (List Cr))(V:List Cr)(c:Cr)(k:Nat):List Cr:=V++if(cores.take k).any (fun K=>dD K c)=true then [c] else []
theorem vt2_same{cores:List (List Cr)}{V:List Cr}{c:Cr}{k:Nat}(h:k<cores.length)(hq:dD cores[k] c=false∨(cores.take k).any (fun K=>dD K c)=true):vt2 cores V c (k+1)=vt2 cores V c k:=by
 unfold vt2;rw[any_take _ _ _ h]
 rcases hq with hq | hq
 ·rw[hq,Bool.or_false]
 ·rw[hq,Bool.true_or]
theorem vt2_new{cores:List (List Cr)}{V:List Cr}{c:Cr}{k:Nat}(h:k<cores.length)(hq:dD cores[k] c=true)(ha:(cores.take k).any (fun K=>dD K c)=false):vt2 cores V c k=V∧vt2 cores V c (k+1)=V++[c]:=by
 unfold vt2;rw[any_take _ _ _ h,hq,ha];simp
theorem vt2_has{cores:List (List Cr)}{V:List Cr}{c:Cr}{k:Nat}(hc:c∉V):dD (vt2 cores V c k) c=(cores.take k).any (fun K=>dD K c):=by
 unfold vt2
 cases h:(cores.take k).any (fun K=>dD K c) with
 | true=>exact bd.2 (by simp)
 | false =>
  cases h2:dD (V++if false=true then [c] else []) c
  ·rfl
  ·have:=bd.1 h2;simp at this;exact absurd this hc
noncomputable def edR(vs K:List Cr)(x:Nat):List Nat:=(List.range x).filter fun v=>dD K (dW vs v)
theorem edR_yes{vs K:List Cr}{x:Nat}(h:dD K (dW vs x)=true):edR vs K (x+1)=edR vs K x++[x]:=by
 unfold edR;rw[List.range_succ,List.filter_append];simp[h]
theorem edR_no{vs K:List Cr}{x:Nat}(h:dD K (dW vs x)=false):edR vs K (x+1)=edR vs K x:=by
 unfold edR;rw[List.range_succ,List.filter_append];simp[h]
theorem edR_len(vs K:List Cr)(x:Nat):(edR vs K x).length≤x:=by
 unfold edR;exact Nat.le_trans (List.length_filter_le _ _) (by simp)
noncomputable def pw(t:Tb)(fds:List Fd)(u:Upd):Bool :=
 if dl t fds u.cells≠0 then false else if difB t u.tab u.cells=false then false else if satB u.tab fds=false then false else if corB t fds u.cores=false then false else
  eL (ab (vtx u.cores (aa t) (aa t).length).length) (u.cores.map fun K=>edR (vtx u.cores (aa t) (aa t).length) K (vtx u.cores (aa t) (aa t).length).length) u.cells.length u.prf
theorem expC{H:List B}{k L e:Nat}{fz:Bool}{l:List Cr}(hk:H[k]?=some (.buf e 2 (crL l) fz))(hL:L=l.length):Exp H (.buf k 0 L L) (.lst 2 false (l.map aO)):=by
 subst hL;exact exp_pre (zs:=[]) (vs:=l) hk (by simp) rfl rfl
theorem eqSt_comm(a b:ByteArray):gJ a b=gJ b a:=by unfold gJ;exact Bool.beq_comm
theorem eqSs_comm(a b:List ByteArray):mj a b=mj b a:=by
 unfold mj;by_cases h:a.length=b.length
 ·rw[decide_eq_true h,decide_eq_true h.symm,h];congr 1;refine congrArg _ ?_;funext i;exact eqSt_comm _ _
 ·rw[decide_eq_false h,decide_eq_false (fun e=>h e.symm),Bool.false_and,Bool.false_and]
theorem idsB_comm:∀a b:List Rw,kR a b=kR b a
 | [],[]=>rfl
 | [],_::_=>rfl
 | _::_,[]=>rfl
 | x::a,y::b=>by
  rw[kR,kR,idsB_comm a b];congr 1;by_cases h:x.id=y.id
  ·rw[decide_eq_true h,decide_eq_true h.symm]
  ·rw[decide_eq_false h,decide_eq_false (fun e=>h e.symm)]
theorem form_same{t u:Tb}{l:List Cr}(hu:validT u=0):(go t u&&(cF t u (t.rows.length*t.attrs.length)).all (dD l))=difB t u l:=by
 unfold difB go;rw[decide_eq_true hu,Bool.true_and,eqSt_comm t.name,eqSs_comm t.attrs,idsB_comm t.rows,Bool.and_assoc,Bool.and_assoc];congr 1;congr 1;by_cases h:u.rows.length=t.rows.length
 ·rw[decide_eq_true h,Bool.true_and,Bool.eq_iff_iff,Bool.and_eq_true,idsB_at _ _ h,dfB_iff,List.all_eq_true];constructor
  ·rintro⟨h1,h2⟩;refine⟨fun i hi hi2=>h1 i hi hi2,fun x hx=>?_⟩;by_cases hq:gE (bL u x) (bL t x)=0
   ·exact .inl hq
   ·refine .inr (bd.1 (h2 _ ?_));unfold cF;refine List.mem_map.2 ⟨x,List.mem_filter.2 ⟨List.mem_range.2 hx,?_⟩,rfl⟩
    have:¬gE (bL t x) (bL u x)=0:=fun e=>hq ((dQ _ _).2 ((dQ _ _).1 e).symm)
    simpa using this
  ·rintro⟨h1,h2⟩;refine⟨fun i hi hi2=>h1 i hi hi2,fun c hc=>?_⟩;unfold cF at hc;obtain⟨x,hx,rfl⟩:=List.mem_map.1 hc;rw[List.mem_filter,List.mem_range]at hx
   rcases h2 x hx.1 with h3 | h3
   ·have h4:gE (bL t x) (bL u x)=0:=(dQ _ _).2 ((dQ _ _).1 h3).symm;have:=hx.2;rw[h4]at this;cases this
   ·exact bd.2 h3
 ·rw[decide_eq_false h,Bool.false_and,jS _ _ h,Bool.false_and]
end
end Go.Proofs.YteijbpppalhihaaGreat
namespace Go.Proofs.YteijbpppalhihaaGreat
section
open Go Go.AM Go.Sort
theorem lC(l:List Cr):(fZ l).Pairwise fun x y=>¬cLt y x:=by
 have:=List.pairwise_mergeSort (le:=fun x y=>!(Go.Proofs.ltOf bj) y x) (fun a b c h g=>by
  simp only[Bool.not_eq_true',Go.Proofs.ltOf,decide_eq_false_iff_not]at *
  exact nU g h) (fun a b=>by
  simp only[Bool.or_eq_true,Bool.not_eq_true',Go.Proofs.ltOf,decide_eq_false_iff_not];by_cases h:bj b a<0
  ·right;intro g;exact cmpC_irr a (iy g h)
  ·exact .inl h) l
 refine this.imp fun {x y} h=>?_
 rw[←eK];simpa[Go.Proofs.ltOf] using h
theorem cpF_ok{l:List Cr}(hs:l.Pairwise fun x y=>¬cLt y x):∀p,1≤p→p≤l.length→(∃L,cpF l p=L++[cAt l (p-1)])∧aZ (cpF l p)∧∀x,x∈cpF l p↔x∈l.take p
 | 0,h,_=>by omega
 | 1,_,hl=>by
  refine⟨⟨[],rfl⟩,by simp[cpF,aZ],fun x=>?_⟩;rw[gz (k:=0) (by omega)];simp[cpF]
 | p+2,_,hl=>by
  obtain⟨⟨L,h1⟩,h2,h3⟩:=cpF_ok hs (p+1) (by omega) (by omega);rw[Nat.add_sub_cancel]at h1;rw[cpF,show p+2-1=p+1 by omega]
  have hmem:∀x,x∈l.take (p+2)↔x∈l.take (p+1)∨x=cAt l (p+1):=fun x=>by
   rw[gz (k:=p+1) (by omega)];simp
  split
  ·rename_i he;refine⟨⟨L,by rw[h1,he]⟩,h2,fun x=>?_⟩;rw[hmem,h3];constructor
   ·exact .inl
   ·rintro(h | h)
    ·exact h
    ·rw[h,he,←h3,h1];simp
  ·rename_i he;refine⟨⟨_,rfl⟩,?_,fun x=>?_⟩
   ·have hlt:cLt (cAt l p) (cAt l (p+1)):=by
     have:=List.pairwise_iff_getElem.1 hs p (p+1) (by omega) (by omega) (by omega);rw[←gh (show p<l.length by omega),←gh (show p+1<l.length by omega)]at this
     rcases cLt_tri (cAt l p) (cAt l (p+1)) with h | h | h
     ·exact h
     ·exact absurd h.symm he
     ·exact absurd h this
    refine List.pairwise_append.2 ⟨h2,by simp,fun a ha b hb=>?_⟩;rw[List.mem_singleton]at hb;subst hb;rw[h1]at ha h2
    rcases List.mem_append.1 ha with h | h
    ·exact ea ((List.pairwise_append.1 h2).2.2 a h _ (by simp)) hlt
    ·rw[List.mem_singleton]at h;subst h;exact hlt
   ·rw[hmem,List.mem_append,h3,List.mem_singleton]
theorem compC_ok{l:List Cr}(hs:l.Pairwise fun x y=>¬cLt y x):aZ (eR l)∧∀x,x∈eR l↔x∈l:=by
 unfold eR;by_cases h:l=[]
 ·subst h;simp[cpF,aZ]
 ·obtain⟨_,h1,h2⟩:=cpF_ok hs l.length (List.length_pos_iff.2 h) (Nat.le_refl _);rw[List.take_length]at h2;exact⟨h1,h2⟩
theorem dG(cores:List (List Cr)):aZ (vsC cores):=(compC_ok (lC _)).1
theorem nn(cores:List (List Cr))(c:Cr):c∈vsC cores↔∃K∈cores,c∈K:=by
 unfold vsC;rw[(compC_ok (lC _)).2,(oT _).mem_iff,List.mem_flatten]
theorem vtx_vs{t:Tb}{cores:List (List Cr)}(hv:TbV t)(hc:∀K∈cores,∀c∈K,c∈aa t):vtx cores (aa t) (aa t).length=vsC cores:=by
 refine gM _ _ (List.Pairwise.filter _ (by rw[List.take_length];exact hv.sorted)) (dG _) (fun x=>?_);unfold vtx;rw[List.take_length,List.mem_filter,nn];unfold inC;rw[List.any_eq_true];constructor
 ·rintro⟨_,K,hK,h⟩;exact⟨K,hK,bd.1 h⟩
 ·rintro⟨K,hK,h⟩;exact⟨hc K hK x h,K,hK,bd.2 h⟩
theorem edR_edge(vs K:List Cr):edR vs K vs.length=bu vs K:=by
 unfold edR bu
 first | rfl | exact congrArg (fun p=>List.filter p _) (funext fun v=>by rw[Bool.eq_iff_iff,bd,decide_eq_true_iff])
theorem sat_okq{u:Tb}{fds:List Fd}(hv:TbV u)(hF:bo fds):satB u fds=okB (aW u fds []):=by
 rw[Bool.eq_iff_iff,lE,fH,satP_iff hv.len hv.attrs hF];constructor
 ·intro hs;refine⟨fun y=>.inl (bL u y),fun y v hy hk=>by rw[(fh hk).1],fun d hd i k hi hk hl a ha hb=>?_⟩;exact congrArg Sum.inl (hs d hd i k hi hk (fun b hb1 hb2=>Sum.inl.inj (hl b hb1 hb2)) a ha hb)
 ·rintro⟨σ,h⟩ d hd i k hi hk hl a ha hb
  have hfix:∀y,y<u.rows.length*u.attrs.length→σ y = .inl (bL u y):=fun y hy=>h.fix y _ hy (fT (by simp))
  have:=h.dep d hd i k hi hk (fun b hb1 hb2=>by
   show σ (i*u.attrs.length+b)=σ (k*u.attrs.length+b);rw[hfix _ (bB hi hb1),hfix _ (bB (by omega) hb1)]
   exact congrArg Sum.inl (hl b hb1 hb2)) a ha hb
  have h2:σ (i*u.attrs.length+a)=σ (k*u.attrs.length+a):=this;rw[hfix _ (bB hi ha),hfix _ (bB (by omega) ha)]at h2;exact Sum.inl.inj h2
theorem corB_in{t:Tb}{fds:List Fd}{cores:List (List Cr)}(hv:TbV t)(h:corB t fds cores=true):∀K∈cores,aZ K∧(∀c∈K,c∈aa t)∧na t fds K=true:=fun K hK=>by
 obtain⟨j,hj,rfl⟩:=List.mem_iff_getElem.1 hK;have:=List.all_eq_true.1 h j (by simpa using hj);unfold nh at this;rw[show cores.getD j []=cores[j] by simp[hj]]at this;simp only[Bool.and_eq_true]at this;obtain⟨_,_,_,h4,h5⟩:=kK hv.ok (of_decide_eq_true this.1.1);exact⟨h4,fun c hc=>(mK hv).1 (List.all_eq_true.1 h5 c hc),this.1.2⟩
theorem chk_same{t:Tb}{fds:List Fd}{u:Upd}(hv:TbV t)(hF:bo fds)(hu:UpdOk u):mJ t fds u=pw t fds u:=by
 unfold mJ pw;by_cases h1:dl t fds u.cells=0
 ·have hs:=(kK hv.ok h1).2.2.2.1
  have hbs:∀x,bsF u.cells x=dD u.cells x:=fun x=>by rw[Bool.eq_iff_iff,mM hs,bd]
  have hda:(cF t u.tab (t.rows.length*t.attrs.length)).all (bsF u.cells)=(cF t u.tab (t.rows.length*t.attrs.length)).all (dD u.cells):=by congr 1;funext x;exact hbs x
  rw[hda];clear hda hbs;by_cases h2:validT u.tab=0
  ·have huv:=iU hu.tab h2;have hfs:=form_same (t:=t) (l:=u.cells) h2;rw[sat_okq huv hF];rw[h1,h2];generalize hd:(cF t u.tab (t.rows.length*t.attrs.length)).all (dD u.cells)=dA at hfs
   cases h3:go t u.tab with
   | false =>
    rw[h3,Bool.false_and]at hfs;rw[←hfs];simp
   | true =>
    rw[h3,Bool.true_and]at hfs;rw[hfs]
    cases h4:difB t u.tab u.cells with
    | false=>simp
    | true =>
     cases h5:corB t fds u.cores with
     | false=>simp
     | true =>
      cases h6:okB (aW u.tab fds []) with
      | false=>simp
      | true =>
       have hin:=corB_in hv h5
       have hp:prfB u=eL (ab (vtx u.cores (aa t) (aa t).length).length) (u.cores.map fun K=>edR (vtx u.cores (aa t) (aa t).length) K (vtx u.cores (aa t) (aa t).length).length) u.cells.length u.prf:=by
        unfold prfB;rw[vtx_vs hv (fun K hK=>(hin K hK).2.1)];congr 1
        refine List.map_congr_left fun K hK=>?_
        rw[edR_edge,pl (dG _) (hin K hK).1 (fun c hc=>(nn _ _).2 ⟨K,hK,hc⟩)]
       rw[←hp];simp
  ·have:difB t u.tab u.cells=false:=by unfold difB;rw[decide_eq_false h2,Bool.false_and]
   rw[this,h1];simp[h2]
 ·simp[h1]
end
end Go.Proofs.YteijbpppalhihaaGreat
namespace Go.Proofs.YteijbpppalhihaaGreat
section
open Go Go.AM Go.RowKit Go.Lib Go.Sort
def AtC(w:World)(A:Option Addr)(l:List Cr):Prop:=∀(i:Nat) (h:i<l.length),∃b o,A=some ⟨b,o,none⟩∧b<w.heap.size∧w.cell? ⟨b,o+i*2,none⟩=some (.int .i64 l[i].id)∧w.cell? ⟨b,o+i*2+1,none⟩=some (.int .i64 l[i].attr)
theorem AtC.grown{w:World}{A:Option Addr}{l:List Cr}(h:AtC w A l)(q:Nat)(os:Array Obj):AtC (grow (w.drewN q) os) A l:=fun i hi=>by
 obtain⟨b,o,h1,h2,h3,h4⟩:=h i hi;refine⟨b,o,h1,?_,?_,?_⟩
 ·rw[size_grow];exact Nat.lt_of_lt_of_le h2 (Nat.le_add_right _ _)
 ·rw[cell?_grow _ _ _ (by exact h2)];exact h3
 ·rw[cell?_grow _ _ _ (by exact h2)];exact h4
def GW(W w:World):Prop:=∃q os,w=grow (W.drewN q) os
theorem GW.refl(W:World):GW W W:=⟨0,#[],by rw[grow_empty];rfl⟩
theorem GW.more{W w w':World}(h:GW W w)(g:∃q os,w'=grow (w.drewN q) os):GW W w':=by
 obtain⟨q,os,rfl⟩:=h;obtain⟨q2,os2,rfl⟩:=g
 exact⟨q+q2,os++os2,by
  rw[←grow_grow]
  simp only[grow,World.drewN,Nat.add_assoc]⟩
theorem GW.alloc{W w:World}(h:GW W w)(o:Obj):GW W (w.alloc o):=h.more ⟨0,#[o],by rw[alloc_eq_grow];rfl⟩
theorem GW.at{W w:World}(h:GW W w){A:Option Addr}{l:List Cr}(g:AtC W A l):AtC w A l:=by
 obtain⟨q,os,rfl⟩:=h;exact g.grown q os
theorem cmpFuncK(a b:List Cr)(A B:Option Addr)(ca cb:Nat)(W:World)(hA:AtC W A a)(hB:AtC W B b)(ha:a.length≤1000000)(hb:b.length≤1000000):
  Calls Tryz.prog 111 #[.slice A a.length ca,.slice B b.length cb,.func (.func 75) #[] #[]] W fun e w'=>e = .returned (.int .i64 (au a b))∧∃q os',w'=grow (W.drewN q) os':=by
 have hc:=fun x y W=>compareK x y W
 obtain⟨r,hr⟩:∃r,r=au a b:=⟨_,rfl⟩;rw[←hr]
 go_enter Tryz.func111,Tryz.ntmps111
 go_wp2
 go_loopg [13] a.length (fun g s13 wr=>∃(i:Nat),s13 = .int .i64 i∧i≤a.length∧i≤b.length∧a.length-i≤g∧Aside (GW W wr)∧au (a.drop i) (b.drop i)=r)
 case atStart=>exact⟨0,rfl,by omega,by omega,by omega,GW.refl W,by rw[List.drop_zero,List.drop_zero,hr]⟩
 clear hr
 case round =>
  obtain⟨i,rfl,hi,hi2,hg,hwr,hx⟩:=hrel;by_cases h1:i<a.length
  ·obtain⟨ba,oa,hAe,hba,ca0,ca1⟩:=(hwr.out.at hA) i h1;subst hAe;by_cases h2:i<b.length
   ·obtain⟨bb,ob,hBe,hbb,cb0,cb1⟩:=(hwr.out.at hB) i h2;subst hBe
    have cc0:∀o,(wr.alloc o).cell? ⟨bb,ob+i*2,none⟩=some (.int .i64 b[i].id):=fun o=>by rw[alloc_eq_grow,cell?_grow _ _ _ (by exact hbb)];exact cb0
    have cc1:∀o,(wr.alloc o).cell? ⟨bb,ob+i*2+1,none⟩=some (.int .i64 b[i].attr):=fun o=>by rw[alloc_eq_grow,cell?_grow _ _ _ (by exact hbb)];exact cb1
    rw[List.drop_eq_getElem_cons h1,List.drop_eq_getElem_cons h2,au]at hx;generalize a[i]=x at ca0 ca1 hx;generalize b[i]=y at cb0 cb1 cc0 cc1 hx;obtain⟨z,hz⟩:∃z,z=bj x y:=⟨_,rfl⟩
    have hcc:=fun W=>hc x y W
    rw[←hz]at hx hcc;clear hz hc hA hB;by_cases hq:z=0
    ·rw[if_pos hq]at hx;subst hq
     go_wp2_with (go_at_call 75;refine(hcc _).mono ?_;rintro e w' ⟨rfl,q,os',rfl⟩)
     go_roundg (a.length-(i+1))
     case measure=>omega
     case rel=>exact⟨i+1,by go_num,by omega,by omega,Nat.le_refl _,((hwr.out.alloc _).alloc _).more ⟨q,os',rfl⟩,hx⟩
    ·rw[if_neg hq]at hx
     go_wp2_with (go_at_call 75;refine(hcc _).mono ?_;rintro e w' ⟨rfl,q,os',rfl⟩)
     go_ret
     exact⟨by first | rfl | (rw[hx];rfl),((hwr.out.alloc _).alloc _).more ⟨q,os',rfl⟩⟩
   ·rw[List.drop_eq_getElem_cons h1,List.drop_of_length_le (show b.length≤i by omega),au]at hx
    have h2':¬(i:Int)<b.length:=by omega
    go_wp2_with fail
    go_ret
    exact⟨by first | rfl | (rw[hx];rfl),hwr.out.alloc _⟩
  ·rw[List.drop_of_length_le (show a.length≤i by omega)]at hx;by_cases h2:a.length<b.length
   ·rw[List.drop_eq_getElem_cons (show i<b.length by omega),au]at hx
    go_wp2_with fail
    go_ret
    exact⟨by rw[hx];rfl,hwr.out⟩
   ·rw[List.drop_of_length_le (show b.length≤i by omega),au]at hx
    go_wp2_with fail
    go_ret
    exact⟨by rw[hx];rfl,hwr.out⟩
theorem listsK(a b:List Cr)(A B:Option Addr)(ca cb:Nat)(W:World)(hA:AtC W A a)(hB:AtC W B b)(ha:a.length≤1000000)(hb:b.length≤1000000):
  Calls Tryz.prog 68 #[.slice A a.length ca,.slice B b.length cb] W fun e w'=>e = .returned (.int .i64 (au a b))∧∃q os',w'=grow (W.drewN q) os':=by
 have hc:=cmpFuncK a b A B ca cb W hA hB ha hb;clear hA hB
 go_enter Tryz.func68,Tryz.ntmps68
 go_wp2_with (go_at_call 111;refine hc.mono ?_;rintro e w' ⟨rfl,q,os',rfl⟩)
 go_ret
 exact⟨rfl,q,os',rfl⟩
end
end Go.Proofs.YteijbpppalhihaaGreat
namespace Go.Proofs.YteijbpppalhihaaGreat
section
open Go Go.Shelf
def renL:Go.Shelf.Ren:=⟨fun n=>match n with
  | 6=>67
  | 14=>109
  | 15=>110
  | 20=>150
  | 21=>151
  | 22=>152
  | 23=>153
  | 24=>154
  | 25=>155
  | 26=>156
  | 27=>157
  | 28=>158
  | 29=>159
  | 46=>192
  | 47=>193
  | 48=>194
  | 49=>195
  | 50=>196
  | 57=>216
  | n=>n,fun n=>match n with
  | 0=>0
  | 3=>3
  | 4=>4
  | 5=>5
  | 9=>9
  | 22=>71
  | 24=>37
  | 25=>137
  | 39=>186
  | 45=>222
  | 46=>223
  | 50=>141
  | 53=>43
  | 55=>230
  | 66=>251
  | 70=>255
  | 76=>269
  | 77=>270
  | n=>n,fun n=>n⟩
theorem layL:Go.Proofs.SlLaysF0.n6 Tryz.prog renL:={
 mixed:=by kernel_rfl
 f6:=⟨Tryz.f67.name,by decide,Tryz.func67.trans (congrArg some (by kernel_rfl))⟩
 f14:=⟨Tryz.f109.name,by decide,Tryz.func109.trans (congrArg some (by kernel_rfl))⟩
 f15:=Tryz.func110.trans (congrArg some (by kernel_rfl))
 f20:=⟨Tryz.f150.name,by decide,Tryz.func150.trans (congrArg some (by kernel_rfl))⟩
 f21:=⟨Tryz.f151.name,by decide,Tryz.func151.trans (congrArg some (by kernel_rfl))⟩
 f22:=⟨Tryz.f152.name,by decide,Tryz.func152.trans (congrArg some (by kernel_rfl))⟩
 f23:=⟨Tryz.f153.name,by decide,Tryz.func153.trans (congrArg some (by kernel_rfl))⟩
 f24:=⟨Tryz.f154.name,by decide,Tryz.func154.trans (congrArg some (by kernel_rfl))⟩
 f25:=⟨Tryz.f155.name,by decide,Tryz.func155.trans (congrArg some (by kernel_rfl))⟩
 f26:=⟨Tryz.f156.name,by decide,Tryz.func156.trans (congrArg some (by kernel_rfl))⟩
 f27:=⟨Tryz.f157.name,by decide,Tryz.func157.trans (congrArg some (by kernel_rfl))⟩
 f28:=Tryz.func158.trans (congrArg some (by kernel_rfl))
 f29:=Tryz.func159.trans (congrArg some (by kernel_rfl))
 f46:=⟨Tryz.f192.name,by decide,Tryz.func192.trans (congrArg some (by kernel_rfl))⟩
 f47:=Tryz.func193.trans (congrArg some (by kernel_rfl))
 f48:=Tryz.func194.trans (congrArg some (by kernel_rfl))
 f49:=⟨Tryz.f195.name,by decide,Tryz.func195.trans (congrArg some (by kernel_rfl))⟩
 f50:=⟨Tryz.f196.name,by decide,Tryz.func196.trans (congrArg some (by kernel_rfl))⟩
 f57:=⟨Tryz.f216.name,by decide,Tryz.func216.trans (congrArg some (by kernel_rfl))⟩
 t0:=Tryz.underlying0
 a0:=Tryz.isAgg0
 z0:=Tryz.sizeOf0
 v0:=Tryz.zeroValue0
 t3:=Tryz.underlying3
 a3:=Tryz.isAgg3
 z3:=Tryz.sizeOf3
 v3:=Tryz.zeroValue3
 t4:=Tryz.underlying4
 a4:=Tryz.isAgg4
 z4:=Tryz.sizeOf4
 v4:=Tryz.zeroValue4
 t5:=Tryz.underlying5
 a5:=Tryz.isAgg5
 z5:=Tryz.sizeOf5
 v5:=Tryz.zeroValue5
 t9:=Tryz.underlying9
 a9:=Tryz.isAgg9
 z9:=Tryz.sizeOf9
 v9:=Tryz.zeroValue9
 t22:=Tryz.underlying71
 a22:=Tryz.isAgg71
 z22:=Tryz.sizeOf71
 v22:=Tryz.zeroValue71
 t25:=Tryz.underlying137
 a25:=Tryz.isAgg137
 z25:=Tryz.sizeOf137
 v25:=Tryz.zeroValue137
 t39:=Tryz.underlying186
 a39:=Tryz.isAgg186
 z39:=Tryz.sizeOf186
 v39:=Tryz.zeroValue186
 t45:=Tryz.underlying222
 a45:=Tryz.isAgg222
 z45:=Tryz.sizeOf222
 v45:=Tryz.zeroValue222
 t46:=Tryz.underlying223
 a46:=Tryz.isAgg223
 z46:=Tryz.sizeOf223
 v46:=Tryz.zeroValue223
 t50:=Tryz.underlying141
 a50:=Tryz.isAgg141
 z50:=Tryz.sizeOf141
 v50:=Tryz.zeroValue141
 t53:=Tryz.underlying43
 a53:=Tryz.isAgg43
 z53:=Tryz.sizeOf43
 v53:=Tryz.zeroValue43
 t55:=Tryz.underlying230
 a55:=Tryz.isAgg230
 z55:=Tryz.sizeOf230
 v55:=Tryz.zeroValue230
 t66:=Tryz.underlying251
 a66:=Tryz.isAgg251
 z66:=Tryz.sizeOf251
 v66:=Tryz.zeroValue251
 t70:=Tryz.underlying255
 a70:=Tryz.isAgg255
 z70:=Tryz.sizeOf255
 v70:=Tryz.zeroValue255
 t76:=Tryz.underlying269
 a76:=Tryz.isAgg269
 z76:=Tryz.sizeOf269
 v76:=Tryz.zeroValue269
 t77:=Tryz.underlying270
 a77:=Tryz.isAgg270
 z77:=Tryz.sizeOf270
 v77:=Tryz.zeroValue270 }
end
end Go.Proofs.YteijbpppalhihaaGreat
namespace Go.Proofs.YteijbpppalhihaaGreat
section
open Go Go.AM Go.RowKit Go.Lib Go.Sort
def cQ(ls:List (List Cr)):List (List Cr):=ls.mergeSort fun x y=>!(ltOf au) y x
theorem jJ(l:List (List Cr)):(cQ l).Perm l:=List.mergeSort_perm _ _
theorem sortLs_len(l:List (List Cr)):(cQ l).length=l.length:=(jJ l).length_eq
theorem swoL:SWO (ltOf au) where
 irrefl x:=by unfold ltOf;exact decide_eq_false (mw x)
 trans x y z h g:=by unfold ltOf at *;exact decide_eq_true (gT _ _ _ (of_decide_eq_true h) (of_decide_eq_true g))
 ntrans x y z h g:=by unfold ltOf at *;exact decide_eq_false (mG (of_decide_eq_false h) (of_decide_eq_false g))
theorem totL(x y:List Cr)(h:ltOf au x y=false)(g:ltOf au y x=false):x=y:=by
 unfold ltOf at *
 rcases kJ x y with h1 | h1 | h1
 ·exact absurd h1 (of_decide_eq_false h)
 ·exact h1
 ·exact absurd h1 (of_decide_eq_false g)
theorem sortLs_sorted(l:List (List Cr)):(cQ l).Pairwise fun x y=>¬au y x<0:=by
 have:=List.pairwise_mergeSort (le:=fun x y=>!(ltOf au) y x) (fun a b c h g=>by
  simp only[Bool.not_eq_true',ltOf,decide_eq_false_iff_not]at *
  exact mG g h) (fun a b=>by
  simp only[Bool.or_eq_true,Bool.not_eq_true',ltOf,decide_eq_false_iff_not];by_cases h:au b a<0
  ·right;intro g;exact mw a (gT _ _ _ g h)
  ·exact .inl h) l
 refine this.imp fun {x y} h=>?_
 simpa[ltOf] using h
def AL(s:AM.St)(f:Bool):Type:={ p:List Cr×Value // p.1.length≤1000000∧Rel s (LC f p.1) p.2 }
instance (s:AM.St) (f:Bool):Inhabited (AL s f):=⟨⟨([],.slice none 0 0),by simp,by
 refine .lst 2 f [] none 0 0 0 (fun _ _=>undef) (Nat.le_refl _) (fun _=>rfl) (fun h=>by simp at h) (by simp) (by simp) (by simp)⟩⟩
theorem AL.sl{s:AM.St}{f:Bool}{k e z:Nat}{xs:List V}(hk:s.H[k]?=some (.buf e z xs false))(hκ:s.κ k≠0)(a:AL s f):∃A cap,a.1.2 = .slice A a.1.1.length cap ∧
  ∀(i:Nat) (h:i<a.1.1.length),∃b o,A=some ⟨b,o,none⟩∧b≠s.φ k∧b<s.w.heap.size∧s.w.cell? ⟨b,o+i*2,none⟩=some (.int .i64 a.1.1[i].id)∧s.w.cell? ⟨b,o+i*2+1,none⟩=some (.int .i64 a.1.1[i].attr):=by
 obtain⟨⟨l,u⟩,hl,hr⟩:=a;simp only at hl hr ⊢;simp only[LC]at hr;generalize hxs:l.map aO=ys at hr
 have hyl:ys.length=l.length:=by rw[←hxs];simp
 cases hr with
 | lst _ _ _ A cap b off uf hcap hfull hA hz hcell hrel =>
  refine⟨A,cap,by rw[hyl],fun i hi=>?_⟩;obtain⟨rfl,hP⟩:=hA (by omega)
  have hy:ys[i]?=some (aO l[i]):=by rw[←hxs];simp[hi]
  refine⟨b,off,rfl,?_,hP.1,?_,?_⟩
  ·intro he;obtain⟨e',z',xs',hb⟩:=hP.2.2 k (lvB hk hκ) he.symm;rw[hk]at hb;cases hb
  ·have h1:=hcell i _ 0 _ hy rfl;have h2:=hrel i _ 0 _ hy rfl;rw[Nat.add_zero]at h1;generalize uf i 0=u at h1 h2;cases h2;exact h1
  ·have h1:=hcell i _ 1 _ hy rfl;have h2:=hrel i _ 1 _ hy rfl;generalize uf i 1=u at h1 h2;cases h2;exact h1
def jE{s:AM.St}{f:Bool}(a:AL s f):Value:=a.1.2
def cfAL{s:AM.St}{f:Bool}(a b:AL s f):Int:=au a.1.1 b.1.1
theorem permIn_map{α β:Type} [Inhabited α] [Inhabited β] (f:α→β){n:Nat}{d d':Array α}(hn:d.size=n)(h:PermIn 0 n d d'):PermIn 0 n (d.map f) (d'.map f):=by
 obtain⟨h1,h2,h3⟩:=h;refine⟨by simp[h1],fun i hi=>?_,?_⟩
 ·rw[getElem!_neg _ _ (by simp;omega),getElem!_neg _ _ (by simp;omega)]
 ·have e1:(d.map f).extract 0 n=(d.extract 0 n).map f:=by simp
  have e2:(d'.map f).extract 0 n=(d'.extract 0 n).map f:=by simp
  rw[e1,e2,Array.toList_map,Array.toList_map];exact h3.map f
theorem sortedIn_map{α β:Type} [Inhabited α] [Inhabited β] (f:α→β){lt:β→β→Bool}{n:Nat}{d:Array α}(hn:d.size=n)(h:SortedIn (fun x y=>lt (f x) (f y)) 0 n d):SortedIn lt 0 n (d.map f):=fun i j h1 h2 h3=>by
 have:=h i j h1 h2 h3
 have hj:j<d.size:=by omega
 have hi:i<d.size:=by omega
 rw[getElem!_pos d j hj,getElem!_pos d i hi]at this;rw[getElem!_pos (d.map f) j (by simpa using hj),getElem!_pos (d.map f) i (by simpa using hi),Array.getElem_map,Array.getElem_map];exact this
theorem layL1:SlLaysF.n6 Tryz.prog renL:={ layL with a24:=Tryz.isAgg37,z24:=Tryz.sizeOf37 }
def LB(H:List B)(k e:Nat)(f:Bool)(ls:List (List Cr)):List B:=H.set k (.buf e 1 (ls.map (LC f)) false)
theorem sortLists_u{H:List B}{k e:Nat}{f:Bool}(ls:List (List Cr))(n:Nat)(hn:ls.length=n)(hk:k<H.length)(hl:n<4611686018427387904)(hls:∀l∈ls,l.length≤1000000):
  az Tryz.prog 67 [.buf k 0 n n,.fn 68 []] (LB H k e f ls) fun r H'=>r = .tup []∧H'=LB H k e f (cQ ls):=by
 subst hn
 have hH:(LB H k e f ls)[k]?=some (.buf e 1 (ls.map (LC f)) false):=by unfold LB;rw[List.getElem?_set_self hk]
 rw[show LB H k e f (cQ ls)=(LB H k e f ls).set k (.buf e 1 ((cQ ls).map (LC f)) false) by unfold LB;rw[List.set_set]];generalize LB H k e f ls=H at hH;refine⟨⟨Tryz.f67,Tryz.func67,rfl,rfl⟩,fun s vals hA hg hsz hrel=>?_⟩;obtain⟨rfl,hZ⟩:=hA
 obtain⟨u0,u1,rfl⟩:∃u0 u1,vals = #[u0,u1]:=by
  obtain⟨l⟩:=vals
  match l,hsz with
  | [a,b],_=>exact⟨a,b,rfl⟩
 have r0:=hrel 0 _ u0 rfl rfl;have r1:=hrel 1 _ u1 rfl rfl
 cases r1 with
 | fn _ _ us hul _ =>
 obtain rfl:us = #[]:=Array.eq_empty_of_size_eq_zero (by simpa using hul)
 cases r0 with
 | buf _ _ _ _ e2 z2 xs2 fz2 A n c hk2 ht hh =>
 rw[hH]at hk2;cases hk2;obtain⟨hA,rfl,hcap,_⟩:=hh (by simp);rw[Nat.zero_add]at hcap;by_cases h0:ls=[]
 ·subst h0;refine(AnyF.slices_SortFunc_none layL A c _ s.w).mono ?_;rintro e' w' ⟨rfl,rfl⟩;refine⟨_,s,.tup [],rfl,rfl,hg,Step.refl s,.tup [] #[] rfl (by simp),rfl,?_⟩;rw[show cQ []=[] by simp[cQ]];apply List.ext_getElem?;intro i;rw[List.getElem?_set];split
  ·rename_i h;subst h;rw[if_pos (aE hH),hH]
  ·rfl
 ·have hpos:0<ls.length:=List.length_pos_iff.2 h0;obtain⟨vs,g2,g3,g4,g5,g6,g7⟩:=hg.blk k _ hH;rw[List.length_map]at g4
  have hκ:s.κ k≠0:=by omega
  have hA:=hA hκ;subst hA;have g2:=g2 hκ;have hlt:=(hg.lt k (lvB hH hκ)).1
  have hel:∀i (h:i<ls.length),∃u,vs[i]?=some u∧Rel s (LC f ls[i]) u:=fun i h=>by
   obtain⟨u,hu⟩:∃u,vs[i]?=some u:=⟨_,Array.getElem?_eq_getElem (show i<vs.size by omega)⟩;exact⟨u,hu,g7 i _ 0 _ u (show(ls.map (LC f))[i]?=some (LC f ls[i]) by simp[h]) rfl (by simpa using hu)⟩
  obtain⟨d,hds,hdl,hdv⟩:∃d:Array (AL s f),d.size=ls.length∧d.map (fun a=>a.1.1)=ls.toArray∧∀i,i<ls.length→vs[i]?=some (jE d[i]!):=by
   have hx:∀i:Fin ls.length,∃a:AL s f,a.1.1=ls[i]∧vs[i.1]?=some (jE a):=fun i=>by
    obtain⟨u,hu,hr⟩:=hel i.1 i.2;exact⟨⟨(ls[i],u),hls _ (List.getElem_mem _),hr⟩,rfl,hu⟩
   refine⟨Array.ofFn fun i=>Classical.choose (hx i),by simp,?_,fun i hi=>?_⟩
   ·apply Array.ext
    ·simp
    ·intro i h1 h2;simp only[Array.getElem_map,Array.getElem_ofFn];have:=(Classical.choose_spec (hx ⟨i,by simpa using h2⟩)).1;rw[this];simp
   ·rw[getElem!_pos _ _ (by simpa using hi),Array.getElem_ofFn];exact(Classical.choose_spec (hx ⟨i,hi⟩)).2
  have hOne:OneCell (jE (s:=s) (f:=f)):=fun a=>by
   obtain⟨A,cap,h1,_⟩:=AL.sl hH hκ a;unfold jE;rw[h1];rfl
  have hHo:Holds (jE:AL s f→Value) s.w (s.φ k) (0*1) d:=by
   intro t ht;rw[hds]at ht;refine⟨?_,?_⟩
   ·simp only[World.cell?,g2,Nat.zero_mul,Nat.zero_add];simpa using hdv t ht
   ·simp[World.frozen?,g2]
  have hcmp:CmpLays1 Tryz.prog 68 #[] (jE:AL s f→Value) cfAL (s.φ k) (0*1) d.size s.w:=fun m os dk _ x y=>by
   obtain⟨A,ca,a1,a2⟩:=AL.sl hH hκ x;obtain⟨B,cb,b1,b2⟩:=AL.sl hH hκ y
   have hat:∀(A:Option Addr) (l:List Cr),(∀(i:Nat) (h:i<l.length),∃b o,A=some ⟨b,o,none⟩∧b≠s.φ k∧b<s.w.heap.size∧s.w.cell? ⟨b,o+i*2,none⟩=some (.int .i64 l[i].id)∧s.w.cell? ⟨b,o+i*2+1,none⟩=some (.int .i64 l[i].attr))→
     AtC (sortWorld (jE:AL s f→Value) s.w (s.φ k) (0*1) m dk os) A l:=fun A l h i hi=>by
    obtain⟨b,o,h1,h2,h3,h4,h5⟩:=h i hi
    have hc:∀t,(sortWorld (jE:AL s f→Value) s.w (s.φ k) (0*1) m dk os).cell? ⟨b,t,none⟩=s.w.cell? ⟨b,t,none⟩:=fun t=>by
     unfold sortWorld;rw[cell?_grow _ _ _ (by rw[Go.Proofs.size_putRow];exact h3),cell?_putRow_other _ _ _ _ _ _ (.inl h2)];rfl
    refine⟨b,o,h1,?_,by rw[hc];exact h4,by rw[hc];exact h5⟩;unfold sortWorld;rw[size_grow,Go.Proofs.size_putRow];exact Nat.lt_of_lt_of_le h3 (Nat.le_add_right _ _)
   have:=listsK x.1.1 y.1.1 A B ca cb (sortWorld (jE:AL s f→Value) s.w (s.φ k) (0*1) m dk os) (hat A _ a2) (hat B _ b2) x.2.1 y.2.1;rw[←a1,←b1]at this;exact this
  have hs:=Any.slices_SortFunc layL1 (jE:AL s f→Value) hOne cfAL ⟨fun x=>swoL.irrefl x.1.1,fun x y z=>swoL.trans x.1.1 y.1.1 z.1.1,fun x y z=>swoL.ntrans x.1.1 y.1.1 z.1.1⟩ 68 #[] (s.φ k) (0*1) c d s.w
   (fun args w=>rfl) hcmp hHo hlt (by rw[hds];simpa using hl)
  rw[hds]at hs;refine hs.mono ?_;rintro e' w' ⟨rfl,d',n,os,hp,hso,hw⟩;have hp2:=permIn_map (fun a:AL s f=>a.1.1) hds hp
  have hd':d'.size=ls.length:=by rw[hp.1];exact hds
  have hso2:=sortedIn_map (lt:=ltOf au) (fun a:AL s f=>a.1.1) hd' hso;rw[hdl]at hp2;have hu:=sorted_unique_holds swoL totL ls.toArray (d'.map fun a=>a.1.1) (by simpa using hp2) (by simpa using hso2)
  have hys:(cQ ls).map (LC f)=d'.toList.map fun a=>LC f a.1.1:=by
   have:cQ ls=(d'.map fun a=>a.1.1).toList:=by rw[hu];simp[cQ]
   rw[this,Array.toList_map,List.map_map];rfl
  have hw2:w'=grow (putRow id (Go.Sort.ahead s.w n) (s.φ k) 0 (d'.map jE)) os:=by
   rw[hw,Nat.zero_mul];unfold sortWorld;rw[putRow_id]
  rw[hys]
  obtain⟨f1,f2⟩:=oY (ys:=d'.toList.map fun a=>LC f a.1.1) hg hH hκ (d'.map jE) n os (by simp[hd']) (by simp[hd'])
   (fun y hy=>by obtain⟨c,_,rfl⟩:=List.mem_map.1 hy;exact⟨rfl,by simp[LC,V.cells,V.one]⟩) (fun i y j dd hy hd=>by
    have hil:=aE hy;simp only[List.length_map,Array.length_toList]at hil
    have hj:j=0:=by
     rw[List.getElem?_map,Array.getElem?_toList,Array.getElem?_eq_getElem hil,Option.map_some]at hy;cases hy;have:=aE hd;simp[LC,V.cells]at this;omega
    subst hj;rw[List.getElem?_map,Array.getElem?_toList,Array.getElem?_eq_getElem hil,Option.map_some]at hy;cases hy
    have:dd=LC f d'[i].1.1:=by simpa[LC,V.cells] using hd.symm
    subst this;rw[Nat.mul_one,Nat.add_zero,getElem!_pos _ _ (by simpa using hil),Array.getElem_map]
    exact d'[i].2.2) w' hw2
  exact⟨_,_,.tup [],rfl,rfl,f1,f2,.tup [] #[] rfl (by simp),rfl,rfl⟩
end
end Go.Proofs.YteijbpppalhihaaGreat
namespace Go.Proofs.YteijbpppalhihaaGreat
section
open Go Go.AM
section
open Classical in
noncomputable def numL(t:Tb)(K:List Cr):Nat:=bnF (fun x=>decide (bN t x∈K)) (t.rows.length*t.attrs.length)
theorem numL_inj{t:Tb}{K K':List Cr}(h1:aZ K)(h2:aZ K')(c1:∀c∈K,c∈aa t)(c2:∀c∈K',c∈aa t)(he:numL t K=numL t K'):K=K':=by
 classical
 have hb:∀x,x<t.rows.length*t.attrs.length→(bN t x∈K↔bN t x∈K'):=fun x hx=>by
  have e1:=mO (fun x=>decide (bN t x∈K)) _ x hx;have e2:=mO (fun x=>decide (bN t x∈K')) _ x hx;unfold numL at he;rw[he]at e1;have e3:=e1.symm.trans e2;simp only[decide_eq_decide]at e3;exact e3
 refine gM K K' h1 h2 (fun c=>⟨fun hc=>?_,fun hc=>?_⟩)
 ·obtain⟨x,hx,rfl⟩:=List.mem_map.1 (c1 c hc);exact(hb x (List.mem_range.1 hx)).1 hc
 ·obtain⟨x,hx,rfl⟩:=List.mem_map.1 (c2 c hc);exact(hb x (List.mem_range.1 hx)).2 hc
theorem cores_le{t:Tb}{cores:List (List Cr)}(hn:cores.Nodup)(hs:∀K∈cores,aZ K)(hc:∀K∈cores,∀c∈K,c∈aa t):cores.length≤2^(t.rows.length*t.attrs.length):=by
 have hnd:(cores.map (numL t)).Nodup:=kA hn (fun a ha b hb he=>numL_inj (hs a ha) (hs b hb) (hc a ha) (hc b hb) he)
 have:=hnd.length_le_of_subset (l₂:=List.range (2^(t.rows.length*t.attrs.length))) (fun x hx=>by
  obtain⟨K,_,rfl⟩:=List.mem_map.1 hx;rw[List.mem_range]
  exact bnF_lt _ _)
 simpa using this
end
theorem mV{ws:List Int}{es:List (List Nat)}{P:List Nde×Int} : ∀(k:Nat) (m:List Nat) (lf b:Int),fG ws es k m lf b=some P→(P.1.length:Int)≤lf-P.2
 | 0,_,_,_,h=>by simp[fG]at h
 | k+1,m,lf,b,h=>by
  rw[fG]at h;split at h
  ·cases h
  ·split at h
   ·cases h;simp only[List.length_cons,List.length_nil];omega
   ·split at h
    ·cases h;simp only[List.length_cons,List.length_nil];omega
    ·split at h
     ·cases h
     ·split at h
      ·cases h
      ·rename_i p hp;split at h
       ·cases h
       ·rename_i q hq;have h1:=mV (P:=p) k _ _ _ hp;have h2:=mV (P:=q) k _ _ _ hq;cases h;simp only[List.length_cons,List.length_append];omega
theorem wsum_range{ws:List Int}{n:Nat}(hw:∀v<n,1≤ws.getD v 0∧ws.getD v 0≤1000000)(T:Nat→Bool):0≤dX ws T n∧dX ws T n≤1000000*(n:Int):=by
 rw[gL];have h:=wl_le hw ((List.range n).filter T) (fun v hv=>List.mem_range.1 (List.mem_filter.1 hv).1);have:=List.length_filter_le T (List.range n);rw[List.length_range]at this;omega
theorem prove_all{ws:List Int}{es:List (List Nat)}(hb:HsB ws es){lf:Int}(hlf:2^(ws.length+1)-1≤lf){T:Nat→Bool}(hT:MinOk ws.length ws es T):
  ∃P,fG ws es (ws.length+1) (List.replicate ws.length 0) lf (dX ws T ws.length)=some P∧lf-(2^(ws.length+1)-1)≤P.2∧(P.1.length:Int)≤2^(ws.length+1)-1∧eL ws es (dX ws T ws.length) P.1=true:=by
 have h0:∀v,(List.replicate ws.length 0).getD v 0=0:=fun v=>by
  simp only[List.getD,List.getElem?_replicate];split<;>rfl
 have g:Wok ws.length ws (List.replicate ws.length 0):=⟨rfl,by simp,fun v hv=>(hb.w v hv).1,fun v _=>by rw[h0];omega⟩
 obtain⟨l,lf',p1,p2,p3⟩:=prv_ok hb.ed (by have:=hb.ne;omega) (ws.length+1) (List.replicate ws.length 0) lf (dX ws T ws.length) g (by rw[fU];omega) (by rw[fU];exact hlf) (fun T' hX=>by
  rw[lJ]
  exact hT.m T' hX.h)
 rw[fU]at p2;have hn:=mV _ _ _ _ p1;simp only at hn;refine⟨(l,lf'),p1,p2,by simp only;omega,?_⟩;have hr:=wsum_range hb.w T;have hn2:=hb.n;unfold eL;rw[if_pos (eT.2 hb),if_neg (by omega)];unfold nA;have:=p3 [] (l.length+1) (by omega);rw[List.append_nil]at this;simp only;rw[this];rfl
end
end Go.Proofs.YteijbpppalhihaaGreat
namespace Go.Proofs.YteijbpppalhihaaGreat
section
open Go Go.AM Go.Sort
structure CoresOk (t:Tb) (fds:List Fd) (cores:List (List Cr)):Prop where
 core:∀K∈cores,IsCoreP t fds K
 srt:∀K∈cores,aZ K
 sub:∀K∈cores,∀c∈K,c∈aa t
 ord:cores.Pairwise fun a b=>au a b<0
theorem CoresOk.nil(t:Tb)(fds:List Fd):CoresOk t fds []:=⟨by simp,by simp,by simp,.nil⟩
theorem CoresOk.nodup{t:Tb}{fds:List Fd}{cores:List (List Cr)}(h:CoresOk t fds cores):cores.Nodup:=h.ord.imp fun {a b} h e=>by subst e;exact mw _ h
theorem nec_nil(t:Tb)(fds:List Fd):¬Nec t fds []:=by
 unfold Nec;intro h;refine h ⟨fun _=>.inr 0,fun x v hx hk=>?_,fun d _ i k _ _ _ a _ _=>rfl⟩;obtain⟨_,hno⟩:=fh hk;exact absurd (cP.2 ⟨kd hx,by simp⟩) hno
theorem CoresOk.ne{t:Tb}{fds:List Fd}{cores:List (List Cr)}(h:CoresOk t fds cores):∀K∈cores,K≠[]:=fun K hK e=>by
 subst e;exact nec_nil t fds (h.core _ hK).nec
theorem CoresOk.vsub{t:Tb}{fds:List Fd}{cores:List (List Cr)}(h:CoresOk t fds cores):∀c∈vsC cores,c∈aa t:=fun c hc=>by
 obtain⟨K,hK,hc⟩:=(nn _ _).1 hc;exact h.sub K hK c hc
theorem oN(cores:List (List Cr)):∀K∈cores,∀c∈K,c∈vsC cores:=fun K hK c hc=>(nn _ _).2 ⟨K,hK,hc⟩
theorem jk{t:Tb}{l:List Cr}(hn:l.Nodup)(hs:∀c∈l,c∈aa t):l.length≤t.rows.length*t.attrs.length:=by
 have:=hn.length_le_of_subset (l₂:=aa t) hs
 rwa [dM]at this
theorem CoresOk.vlen{t:Tb}{fds:List Fd}{cores:List (List Cr)}(h:CoresOk t fds cores):(vsC cores).length≤t.rows.length*t.attrs.length:=jk (bT (dG _)) h.vsub
theorem CoresOk.klen{t:Tb}{fds:List Fd}{cores:List (List Cr)}(h:CoresOk t fds cores):∀K∈cores,K.length≤t.rows.length*t.attrs.length:=fun K hK=>jk (bT (h.srt K hK)) (h.sub K hK)
theorem CoresOk.len{t:Tb}{fds:List Fd}{cores:List (List Cr)}(h:CoresOk t fds cores)(hN:t.rows.length*t.attrs.length≤9):cores.length≤512:=by
 have:=cores_le h.nodup h.srt h.sub;have h2:2^(t.rows.length*t.attrs.length)≤2^9:=Nat.pow_le_pow_right (by omega) hN;omega
theorem pV(k:Nat):∀ls:List (List Cr),(∀l∈ls,l.length≤k)→ls.flatten.length≤ls.length*k
 | [],_=>by simp
 | l::ls,h=>by
  have h1:=pV k ls (fun x hx=>h x (by simp[hx]));have h2:=h l (by simp);rw[List.flatten_cons,List.length_append,List.length_cons,Nat.add_mul];omega
theorem CoresOk.flen{t:Tb}{fds:List Fd}{cores:List (List Cr)}(h:CoresOk t fds cores)(hN:t.rows.length*t.attrs.length≤9):cores.flatten.length≤1000000:=by
 have h1:=pV 9 cores (fun K hK=>Nat.le_trans (h.klen K hK) hN);have h2:=h.len hN;omega
theorem CoresOk.edges{t:Tb}{fds:List Fd}{cores:List (List Cr)}(h:CoresOk t fds cores):(cores.map fun K=>K.map (dw (vsC cores)))=cores.map (bu (vsC cores)):=
 List.map_congr_left fun K hK=>pl (dG _) (h.srt K hK) (oN cores K hK)
theorem CoresOk.hsb{t:Tb}{fds:List Fd}{cores:List (List Cr)}(h:CoresOk t fds cores)(hN:t.rows.length*t.attrs.length≤9):HsB (ab (vsC cores).length) (cores.map (bu (vsC cores))):=
 hsb_cores (by have:=h.vlen;omega) (by have:=h.len hN;omega) h.ne (oN cores)
theorem kV{vs:List Cr}(hs:aZ vs)(T:Nat→Bool):aZ (dV vs T):=by
 unfold dV aZ;rw[List.pairwise_map]
 refine(List.pairwise_lt_range.filter _).imp_of_mem fun {a b} ha hb h=>?_
 have h1:=List.mem_range.1 (List.mem_filter.1 ha).1;have h2:=List.mem_range.1 (List.mem_filter.1 hb).1;have:=du hs h1 h2 h
 rwa [show dW vs a=vs[a] by simp[dW,h1],show dW vs b=vs[b] by simp[dW,h2]]
theorem px{vs:List Cr}{T:Nat→Bool} : ∀c∈dV vs T,c∈vs:=fun c hc=>by
 obtain⟨v,hv,_,rfl⟩:=pz.1 hc;rw[show dW vs v=vs[v] by simp[dW,hv]];exact List.getElem_mem _
theorem coreG_flag{t:Tb}{fds:List Fd}(f:Bool)(l:List Cr)(i:Nat)(hf:f=false):(fB t fds f l i).1=false:=by
 fun_induction fB t fds f l i with
 | case1 f l i h1 h2 ih=>exact ih rfl
 | case2 f l i h1 h2 ih=>exact ih hf
 | case3 f l i h1=>exact hf
noncomputable def nZ(t:Tb)(fds:List Fd)(L:List Cr):List Cr:=(fB t fds false (bX t L) 0).2
theorem newK_ok{t:Tb}{fds:List Fd}{L:List Cr}(hv:TbV t)(h:¬Okq (aW t fds L)):IsCoreP t fds (nZ t fds L)∧(∀c∈nZ t fds L,c∈bX t L)∧aZ (nZ t fds L):=by
 refine coreG_ok (fixed:=bX t L) false (bX t L) 0 ⟨by omega,fun c hc=>hc,hv.sorted_others L,?_,by omega⟩;unfold Nec;rw[others_others];exact h
theorem CoresOk.add{t:Tb}{fds:List Fd}{cores:List (List Cr)}(h:CoresOk t fds cores)(hv:TbV t){T:Nat→Bool}(hT:MinOk (vsC cores).length (ab (vsC cores).length) (cores.map (bu (vsC cores))) T)
  (hno:¬Okq (aW t fds (dV (vsC cores) T))):CoresOk t fds (cQ (cores++[nZ t fds (dV (vsC cores) T)]))∧(cQ (cores++[nZ t fds (dV (vsC cores) T)])).length=cores.length+1:=by
 obtain⟨k1,k2,k3⟩:=newK_ok hv hno;have hnew:=core_new (t:=t) (fds:=fds) (oN cores) hT.h (K:=nZ t fds (dV (vsC cores) T)) (fun c hc=>(cP.1 (k2 c hc)).2);generalize nZ t fds (dV (vsC cores) T)=K at k1 k2 k3 hnew ⊢
 have hm:∀x,x∈cQ (cores++[K])↔x∈cores∨x=K:=fun x=>by rw[(jJ _).mem_iff];simp
 have hnd:(cQ (cores++[K])).Nodup:=by
  refine(jJ _).nodup_iff.2 ?_;refine List.nodup_append.2 ⟨h.nodup,by simp,fun a ha b hb e=>?_⟩;rw[List.mem_singleton]at hb;subst hb;subst e;exact hnew ha
 refine⟨⟨fun x hx=>?_,fun x hx=>?_,fun x hx=>?_,?_⟩,by rw[sortLs_len];simp⟩
 ·rcases(hm x).1 hx with h1 | rfl
  ·exact h.core x h1
  ·exact k1
 ·rcases(hm x).1 hx with h1 | rfl
  ·exact h.srt x h1
  ·exact k3
 ·rcases(hm x).1 hx with h1 | rfl
  ·exact h.sub x h1
  ·exact fun c hc=>(cP.1 (k2 c hc)).1
 ·refine((sortLs_sorted (cores++[K])).and hnd).imp fun {a b} ⟨h1,h2⟩=>?_
  rcases kJ a b with g | g | g
  ·exact g
  ·exact absurd g h2
  ·exact absurd g h1
structure OptR (t:Tb) (fds:List Fd) (u:Upd) (T:Nat→Bool):Prop where
 cores:CoresOk t fds u.cores
 hit:MinOk (vsC u.cores).length (ab (vsC u.cores).length) (u.cores.map (bu (vsC u.cores))) T
 cells:u.cells=dV (vsC u.cores) T
 enough:okB (aW t fds u.cells)=true
 tab:u.tab=pd t fds u.cells
 prf:eL (ab (vsC u.cores).length) (u.cores.map (bu (vsC u.cores))) u.cells.length u.prf=true
 plen:u.prf.length≤1023
noncomputable def nY(cores:List (List Cr)):List Cr:=(lO (ab (vsC cores).length) (cores.map (bu (vsC cores))) 20000).map (dW (vsC cores))
noncomputable def optP(cores:List (List Cr)):List Nde:=((fG (ab (vsC cores).length) (cores.map (bu (vsC cores))) ((vsC cores).length+1) (List.replicate (vsC cores).length 0) 20000 (wl (ab (vsC cores).length) (lO (ab (vsC cores).length) (cores.map (bu (vsC cores))) 20000))).getD ([],0)).1
noncomputable def mY(t:Tb)(fds:List Fd):Nat→List (List Cr)→Upd
 | 0,cores=>⟨[],t,cores,[]⟩
 | f+1,cores=>if okB (aW t fds (nY cores))=true then⟨nY cores,pd t fds (nY cores),cores,optP cores⟩ else mY t fds f (cQ (cores++[nZ t fds (nY cores)]))
noncomputable def optU(t:Tb)(fds:List Fd):Upd:=mY t fds 514 []
theorem iC(n:Nat):(ab n).length=n:=by simp[ab]
theorem optL_ok{t:Tb}{fds:List Fd}{cores:List (List Cr)}(hc:CoresOk t fds cores)(hN:t.rows.length*t.attrs.length≤9):∃T,MinOk (vsC cores).length (ab (vsC cores).length) (cores.map (bu (vsC cores))) T∧lO (ab (vsC cores).length) (cores.map (bu (vsC cores))) 20000=(List.range (vsC cores).length).filter T∧nY cores=dV (vsC cores) T ∧
  (fG (ab (vsC cores).length) (cores.map (bu (vsC cores))) ((vsC cores).length+1) (List.replicate (vsC cores).length 0) 20000 (wl (ab (vsC cores).length) (lO (ab (vsC cores).length) (cores.map (bu (vsC cores))) 20000))).isSome=true ∧
  (optP cores).length≤1023∧eL (ab (vsC cores).length) (cores.map (bu (vsC cores))) (nY cores).length (optP cores)=true:=by
 have hv9:=hc.vlen
 have hpw:(2:Int)^((vsC cores).length+1)≤1024:=by
  have h1:(2:Nat)^((vsC cores).length+1)≤2^10:=Nat.pow_le_pow_right (by omega) (by omega)
  exact_mod_cast h1
 obtain⟨T,hT,hml⟩:=minL_ok (hc.hsb hN) (by rw[iC];omega) (lf:=20000) (by rw[iC];omega);have hpa:=prove_all (hc.hsb hN) (lf:=20000) (by rw[iC];omega) (T:=T) hT;rw[iC]at hT hml hpa;obtain⟨P,hP1,hP2,hP3,hP4⟩:=hpa
 have hLl:nY cores=dV (vsC cores) T:=by unfold nY;rw[hml];rfl
 have hw:dX (ab (vsC cores).length) T (vsC cores).length=wl (ab (vsC cores).length) (lO (ab (vsC cores).length) (cores.map (bu (vsC cores))) 20000):=by rw[gL,hml]
 have hw2:dX (ab (vsC cores).length) T (vsC cores).length=((nY cores).length:Nat):=by rw[wsum_ones,hLl];simp[dV]
 have hPe:optP cores=P.1:=by unfold optP;rw[←hw,hP1];rfl
 refine⟨T,hT,hml,hLl,by rw[←hw,hP1];rfl,by rw[hPe];omega,?_⟩;rw[hPe,←hw2];exact hP4
theorem optG_ok{t:Tb}{fds:List Fd}(hv:TbV t)(hN:t.rows.length*t.attrs.length≤9):∀(f:Nat) (cores:List (List Cr)),CoresOk t fds cores→513≤f+cores.length→∃T,OptR t fds (mY t fds f cores) T
 | 0,cores,hc,h=>by have:=hc.len hN;omega
 | f+1,cores,hc,h=>by
  obtain⟨T,h1,h2,h3,h4,h5,h6⟩:=optL_ok hc hN;rw[mY];by_cases hok:okB (aW t fds (nY cores))=true
  ·rw[if_pos hok];exact⟨T,hc,h1,h3,hok,rfl,h6,h5⟩
  ·rw[if_neg hok];have hadd:=hc.add hv h1 (by rw[←h3];exact fun h=>hok (fH.2 h));rw[←h3]at hadd;exact optG_ok hv hN f _ hadd.1 (by omega)
theorem optU_ok{t:Tb}{fds:List Fd}(hv:TbV t)(hN:t.rows.length*t.attrs.length≤9):∃T,OptR t fds (optU t fds) T:=optG_ok hv hN 514 [] (CoresOk.nil t fds) (by omega)
end
end Go.Proofs.YteijbpppalhihaaGreat
namespace Go.Proofs.YteijbpppalhihaaGreat
section
open Go Go.AM
structure CaseV (t:Tb) (fds:List Fd):Prop where
 tv:TbV t
 num:TbN t
 valid:validT t=0
 small:t.rows.length*t.attrs.length≤9
 fok:bo fds
 ferr:cC t.attrs.length fds=0
 flen:fds.length≤3
 size:∀y,y<t.rows.length*t.attrs.length→(bL t y).s.size≤maxLen
 vals:∀y,y<t.rows.length*t.attrs.length→bP (bL t y)=true
 pos:∀r∈t.rows,0<r.id
theorem at_cell{t:Tb}(hv:TbV t){y:Nat}(hy:y<t.rows.length*t.attrs.length):∃(i a:Nat) (hi:i<t.rows.length) (ha:a<t.rows[i].vals.length),bL t y=t.rows[i].vals[a]:=by
 have hn:0<t.attrs.length:=by
  rcases Nat.eq_zero_or_pos t.attrs.length with h | h
  ·rw[h]at hy;omega
  ·exact h
 have hm:y / t.attrs.length<t.rows.length:=by rw[Nat.div_lt_iff_lt_mul hn];exact hy
 have hl:=hv.len _ (List.getElem_mem hm)
 have ha:y % t.attrs.length<t.rows[y / t.attrs.length].vals.length:=by rw[hl];exact Nat.mod_lt _ hn
 refine⟨_,_,hm,ha,?_⟩;unfold bL;rw[bF hm,gV ha]
theorem caseV{c:Cs}(v:CsV c):CaseV (csT c) (csF c):=by
 refine⟨v.tv,v.num,v.valid,v.small,v.fok,v.ferr,v.flen,fun y hy=>?_,fun y hy=>?_,?_⟩
 ·obtain⟨i,a,hi,ha,e⟩:=at_cell v.tv hy;obtain⟨k,hk⟩:=vl_of _ (List.getElem_mem hi) _ (List.getElem_mem ha);rw[e,hk];exact Nat.le_trans (ofV_n k).2 (by simp[maxLen])
 ·obtain⟨i,a,hi,ha,e⟩:=at_cell v.tv hy;rw[e];exact v.tv.vals _ (List.getElem_mem hi) _ (List.getElem_mem ha)
 ·have hv:=v.valid;unfold Go.Proofs.YteijbpppalhihaaGreat.validT at hv;rw[v.tv.name,if_pos rfl,if_neg (by have:=v.tv.attrs;have:=v.tv.rows;omega),v.tv.names,if_pos rfl]at hv;exact(iZ hv).1
structure Like (t u:Tb):Prop where
 name:u.name=t.name
 attrs:u.attrs=t.attrs
 rows:u.rows.length=t.rows.length
 ids:∀(i:Nat) (h:i<t.rows.length) (h2:i<u.rows.length),u.rows[i].id=t.rows[i].id
theorem fil_like(t:Tb)(c:Nat→Dm):Like t (jX t c):=⟨rfl,rfl,filT_rows t c,fun i h h2=>by
 simp only[jX,List.getElem_map,List.getElem_range,jY,bF h]⟩
theorem out_valid{t:Tb}{fds:List Fd}{l:List Cr}{c:Nat→Dm}(h:GenS (aW t fds l) c)(hB:TbN t)(hs:∀y,y<t.rows.length*t.attrs.length→bP (bL t y)=true){x:Nat}(hx:x<t.rows.length*t.attrs.length):bP (ka (mS t) c x)=true:=by
 by_cases h1:eE (c x)
 ·rw[out_inr h1]
  have hgt:0<cls (mS t) c x:=by
   unfold cls;rw[ij];have h2:=(numP_le hB.bnd (by omega) (dI c (fp c x))).1;have h3:=(nxt_ok hB.bnd (ij (mS t) (dI c (fp c x)))).1.gt;omega
  unfold bP;simp[show 1≤cls (mS t) c x by omega]
 ·obtain⟨v,hv⟩:=not_isSym h1;rw[out_inl hv];obtain⟨z,hz,hk⟩:=h.val_in hx hv;rw[(fh hk).1];exact hs z hz
theorem fil_valid{t:Tb}{fds:List Fd}{l:List Cr}{c:Nat→Dm}(g:CaseV t fds)(h:GenS (aW t fds l) c):TbV (jX t c)∧validT (jX t c)=0∧∀r∈(jX t c).rows,∀v∈r.vals,v.s.size≤maxLen:=by
 have hl:=fil_like t c
 have hcell:∀r∈(jX t c).rows,∀v∈r.vals,∃x,x<t.rows.length*t.attrs.length∧v=ka (mS t) c x:=fun r hr v hv=>by
  obtain⟨i,hi,rfl⟩:=List.mem_map.1 hr;obtain⟨a,ha,rfl⟩:=List.mem_map.1 hv;exact⟨_,bB (by simpa using hi) (by simpa using ha),rfl⟩
 have hT:TbV (jX t c):=by
  refine⟨⟨g.tv.ok.name,g.tv.ok.attrs,by rw[hl.rows];exact g.tv.ok.rows,g.tv.ok.strs⟩,g.tv.attrs,by rw[hl.rows];exact g.tv.rows,g.tv.names,g.tv.name,filT_len t c,fun r hr v hv=>?_,?_⟩
  ·obtain⟨x,hx,rfl⟩:=hcell r hr v hv;exact out_valid h g.num g.vals hx
  ·refine List.pairwise_iff_getElem.2 (fun i j hi hj hij=>?_);rw[hl.ids i (by rw[←hl.rows];exact hi) hi,hl.ids j (by rw[←hl.rows];exact hj) hj];exact List.pairwise_iff_getElem.1 g.tv.asc i j _ _ hij
 refine⟨hT,hT.validT (fun r hr=>?_),fun r hr v hv=>?_⟩
 ·obtain⟨i,hi,rfl⟩:=List.mem_iff_getElem.1 hr;rw[hl.ids i (by rw[←hl.rows];exact hi) hi];exact g.pos _ (List.getElem_mem _)
 ·obtain⟨x,hx,rfl⟩:=hcell r hr v hv;exact out_size h g.size hx
theorem OptR.cellsOk{t:Tb}{fds:List Fd}{u:Upd}{T:Nat→Bool}(g:CaseV t fds)(r:OptR t fds u T):CellsOk t u.cells∧u.cells.length≤9:=by
 have hs:aZ u.cells:=by rw[r.cells];exact kV (dG _) T
 have hsub:∀c∈u.cells,c∈aa t:=fun c hc=>by
  rw[r.cells]at hc;exact r.cores.vsub c (px c hc)
 have hl:=jk (bT hs) hsub;have:=g.small;exact⟨⟨hs,hsub,by omega⟩,by omega⟩
theorem OptR.updOk{t:Tb}{fds:List Fd}{u:Upd}{T:Nat→Bool}(g:CaseV t fds)(r:OptR t fds u T):UpdOk u∧(∀r∈u.tab.rows,∀v∈r.vals,v.s.size≤maxLen)∧validT u.tab=0∧TbV u.tab:=by
 obtain⟨c,hc⟩:=genS_ok (fH.1 r.enough);obtain⟨h1,h2,h3⟩:=fil_valid g hc;rw[←pc hc,←r.tab]at h1 h2 h3;have hN:=g.small;refine⟨⟨h1.ok,by have:=(r.cellsOk g).2;omega,by have:=r.cores.len hN;omega,fun K hK=>by have:=r.cores.klen K hK;omega,r.cores.flen hN,by have:=r.plen;omega⟩,h3,h2,h1⟩
theorem sel_nodup{t:Tb}(hv:TbV t)(b:Int):(bM t b (t.rows.length*t.attrs.length)).Nodup:=by
 unfold bM;refine kA (List.nodup_range.filter _) (fun a ha b hb he=>?_);exact hv.crAt_inj (List.mem_range.1 (List.mem_filter.1 ha).1) (List.mem_range.1 (List.mem_filter.1 hb).1) he
theorem sel_sub{t:Tb}(b:Int):∀c∈bM t b (t.rows.length*t.attrs.length),c∈aa t:=fun c hc=>by
 unfold bM at hc;obtain⟨x,hx,rfl⟩:=List.mem_map.1 hc;exact kd (List.mem_range.1 (List.mem_filter.1 hx).1)
end
end Go.Proofs.YteijbpppalhihaaGreat
