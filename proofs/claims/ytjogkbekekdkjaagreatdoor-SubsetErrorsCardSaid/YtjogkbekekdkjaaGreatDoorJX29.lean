/- JX29: own texts of this seat, joined and shortened by pack4.py: H8, H9. -/
import Derived.Test.YtjogkbekekdkjaaGreatDoorJX27
set_option linter.unusedVariables false
set_option linter.unusedSimpArgs false
set_option maxRecDepth 100000
set_option maxHeartbeats 64000000
open Bool renaming false_and→rZ,true_and→re,eq_iff_iff→sb,false_or→sf,and_false→sv,not_false→uP,true_or→uS,and_true→vK
open List renaming replicate→rO,drop_eq_getElem_cons→rP,getElem_mem→rQ,drop_of_length_le→rR,drop_zero→rk,length_map→sK,all_cons→sZ,all_nil→uL,any_nil→vT
namespace Go.Proofs.YtjogkbekekdkjaaGreatDoor
section
open Go Go.AM
theorem valid39(ws:List Int)(es:List (List Int))(f g:Bool)(hl:∀e∈es,e.length≤1000000):aL Tryz.prog 44 [jI f g ws es] fun r=>r = .int .i64 (nC ws es):=by
 unfold nC;by_cases h1:200<ws.length
 ·rw[if_pos (.inl h1)];refine sPx Tryz.func44 rfl rfl ?_;simp -dsimp[Tryz.f44,rO,jI,LLi,show(200:Int)<ws.length by omega,L1]
 ·by_cases h2:2000<es.length
  ·rw[if_pos (.inr h2)];refine sPx Tryz.func44 rfl rfl ?_;simp -dsimp[Tryz.f44,rO,jI,LLi,show ¬(200:Int)<ws.length by omega,show(2000:Int)<es.length by omega,L1]
  ·rw[if_neg (fun h=>h.elim h1 h2)]
   obtain⟨E,hE⟩:∃E,E=if ws.all wOk then jX ws.length es else 1:=⟨_,rfl⟩
   rw[←hE];refine sPx Tryz.func44 rfl rfl ?_;simp -dsimp[Tryz.f44,rO,jI,LLi,show ¬(200:Int)<ws.length by omega,show ¬(2000:Int)<es.length by omega,L1];refine aG (W_loopM 39 0x7ffffc000c (by simp[mB]<;>rfl) (σ:=Nat) (fun i=>i≤ws.length∧(if(ws.drop i).all wOk then jX ws.length es else 1)=E) (fun i=>ws.length-i) (fun i=>[(3,.int .i64 i)]) (fun _=>[B.cells [.lst 1 f (ws.map aE),.lst 1 g (es.map (L1 false))]]) 0 ⟨by omega,by rw[rk,hE]⟩ (by simp) (by simp[L1]) (by simp) ?_);rintro i ⟨hi,hx⟩ N1 Q1 hN1 hQ1;by_cases hb:i<ws.length
   ·rw[rP hb,sZ]at hx;obtain⟨w,hw⟩:∃w,w=ws[i]:=⟨_,rfl⟩;rw[←hw]at hx;have hw':=hw.symm;by_cases q1:1≤w
    ·by_cases q2:w≤1000000
     ·rw[show wOk w=true by simp[wOk,q1,q2],re]at hx;refine wx ?_;simp -dsimp[hb,hw',aE,show ¬w<1 by omega,show ¬(1000000:Int)<w by omega,aH i (by omega),L1];refine hN1 (i+1) _ _ ⟨by omega,hx⟩ (by omega) ?_ ⟨[],?_⟩ ?_ ?_<;>simp[or_imp,forall_and,L1,aE]
     ·rw[show wOk w=false by simp[wOk,q2],rZ,if_neg (by simp)]at hx;refine wx ?_;simp -dsimp[hb,hw',aE,show ¬w<1 by omega,show(1000000:Int)<w by omega,L1];refine hQ1 _ _ _ ?_;simp -dsimp[L1];exact hx
    ·rw[show wOk w=false by simp[wOk,q1],rZ,if_neg (by simp)]at hx;refine wx ?_;simp -dsimp[hb,hw',aE,show w<1 by omega,L1];refine hQ1 _ _ _ ?_;simp -dsimp[L1];exact hx
   ·rw[rR (by omega),uL,if_pos rfl]at hx;refine wx ?_;simp -dsimp[hb,L1];refine hQ1 _ _ _ ?_;simp -dsimp[L1];refine aG (W_loopM 77 0x1fffffffff80000000f4 (by simp[mB]<;>rfl) (σ:=Nat) (fun j=>j≤es.length∧jX ws.length (es.drop j)=E) (fun j=>es.length-j) (fun j=>[(4,.int .i64 j)]) (fun _=>[B.cells [.lst 1 f (ws.map aE),.lst 1 g (es.map (L1 false))]]) 0 ⟨by omega,by rw[rk,hx]⟩ (by simp) (by simp[L1]) (by simp) ?_);rintro j ⟨hj,hy⟩ N2 Q2 hN2 hQ2;by_cases hjb:j<es.length
    ·rw[rP hjb,jX,sZ]at hy;have hle:=hl es[j] (rQ hjb);obtain⟨e,he⟩:∃e,e=es[j]:=⟨_,rfl⟩;rw[←he]at hy hle;have he':=he.symm;obtain⟨R,hR⟩:∃R,R=(es.drop (j+1)).all (eOk ws.length):=⟨_,rfl⟩;rw[←hR]at hy;rw[eOk]at hy;refine wx ?_;simp -dsimp[hjb,L1];refine aG (W_loopM 75 0x7ffffffc000000000e4 (by simp[mB]<;>rfl) (σ:=Nat×Int) (fun p=>p.1≤e.length∧-1≤p.2∧(p.1=0→p.2 = -1)∧(0<p.1→0≤p.2)∧(if((gI ws.length p.2 (e.drop p.1)&&!e.isEmpty)&&R)=true then(0:Int) else 1)=E) (fun p=>e.length-p.1) (fun p=>[(6,.int .i64 p.1),(5,.int .i64 p.2)]) (fun _=>[B.cells [.lst 1 f (ws.map aE),.lst 1 g (es.map (L1 false))]]) (0,-1) ⟨by simp,by simp,by simp,by simp,by rw[rk];exact hy⟩ (by simp) (by simp[L1]) (by simp) ?_);rintro⟨k,last⟩ ⟨hk,hm1,hm2,hm3,hz⟩ N3 Q3 hN3 hQ3;simp only at hk hz hN3 hm1 hm2 hm3;by_cases hkb:k<e.length
     ·rw[rP hkb,gI]at hz;obtain⟨v,hv⟩:∃v,v=e[k]:=⟨_,rfl⟩;rw[←hv]at hz;have hv':=hv.symm;by_cases q1:last<v
      ·by_cases q2:v<ws.length
       ·rw[decide_eq_true q1,decide_eq_true q2,re,re]at hz;refine wx ?_;simp -dsimp[hjb,he',hkb,hv',aE,show ¬v≤last by omega,show ¬(ws.length:Int)≤v by omega,aH k (by omega),L1];refine hN3 (k+1,v) _ _ ⟨by simp only;omega,by simp only;omega,by simp,by simp only;omega,hz⟩ (by omega) ?_ ⟨[],?_⟩ ?_ ?_<;>simp[or_imp,forall_and,L1,aE]
       ·rw[decide_eq_false q2,sv,rZ,rZ,rZ,if_neg (by simp)]at hz;refine wx ?_;simp -dsimp[hjb,he',hkb,hv',aE,show ¬v≤last by omega,show(ws.length:Int)≤v by omega,L1];refine hQ3 _ _ _ ?_;simp -dsimp[L1];refine hQ2 _ _ _ ?_;simp -dsimp[L1];exact hz
      ·rw[decide_eq_false q1,rZ,rZ,rZ,rZ,if_neg (by simp)]at hz;refine wx ?_;simp -dsimp[hjb,he',hkb,hv',aE,show v≤last by omega,L1];refine hQ3 _ _ _ ?_;simp -dsimp[L1];refine hQ2 _ _ _ ?_;simp -dsimp[L1];exact hz
     ·rw[rR (by omega),gI,re]at hz;by_cases h0:e.length=0
      ·have hen:e=[]:=List.length_eq_zero_iff.1 h0;have hl1:=hm2 (by omega);rw[hen]at hz;simp at hz;subst hl1;refine wx ?_;simp -dsimp[hjb,he',hkb,L1];refine hQ3 _ _ _ ?_;simp -dsimp[L1];refine hQ2 _ _ _ ?_;simp -dsimp[L1];exact hz
      ·have hen:e.isEmpty=false:=by cases e with
        | nil=>simp at h0
        | cons a b=>rfl
       rw[hen,uP,re,hR]at hz;have hl1:=hm3 (by omega);refine wx ?_;simp -dsimp[hjb,he',hkb,L1];refine hQ3 _ _ _ ?_;simp -dsimp[show ¬last<0 by omega,aH j (by omega),L1];refine hN2 (j+1) _ _ ⟨by omega,hz⟩ (by omega) ?_ ⟨[],?_⟩ ?_ ?_<;>simp[or_imp,forall_and,L1,aE]
    ·rw[rR (by omega)]at hy;refine wx ?_;simp -dsimp[hjb,L1];refine hQ2 _ _ _ ?_;simp -dsimp[L1];exact hy
theorem pH(ws:List Int)(es:List (List Nat))(f g:Bool)(hl:∀e∈es,e.length≤1000000):aL Tryz.prog 44 [aR f g ws es] fun r=>r = .int .i64 (eI ws es):=by
 have:=valid39 ws (cst es) f g (fun e he=>by obtain⟨e',h,rfl⟩:=List.mem_map.1 he;rw[sK];exact hl e' h)
 rwa [encHs_cst]at this
theorem kA{α:Type}(p:α→Bool)(l:List α)(i:Nat)(h:i<l.length):(l.drop i).any p=(p l[i]||(l.drop (i+1)).any p):=by rw[rP h];rfl
theorem qE(e:List Nat)(v:Nat)(fe:Bool)(hl:e.length≤1000000):aL Tryz.prog 93 [Ln fe e,.int .i64 (v:Int)] fun r=>r = .bool (e.contains v):=by
 obtain⟨E,hE⟩:∃E,E=e.contains v:=⟨_,rfl⟩;rw[←hE]
 have hc:∀l:List Nat,l.contains v=l.any fun u=>decide (u=v):=fun l=>by
  rw[sb];simp
 rw[hc]at hE;refine sPx Tryz.func93 rfl rfl ?_;simp -dsimp[Tryz.f93,rO,Ln];refine aG (W_loopM 18 0x3fff0 (by simp[mB]<;>rfl) (σ:=Nat) (fun i=>i≤e.length∧(e.drop i).any (fun u=>decide (u=v))=E) (fun i=>e.length-i) (fun i=>[(5,.int .i64 i)]) (fun _=>[]) 0 ⟨by omega,by rw[rk,hE]⟩ (by simp) rfl (by simp) ?_);rintro i ⟨hi,hx⟩ N Q hN hQ;by_cases hb:i<e.length
 ·rw[kA _ _ _ hb]at hx;obtain⟨u,hu⟩:∃u,u=e[i]:=⟨_,rfl⟩;rw[←hu]at hx;have hu':=hu.symm;by_cases hq:u=v
  ·rw[decide_eq_true hq,uS]at hx;refine wx ?_;simp -dsimp[hb,hu',eN,hq];refine hQ _ _ _ ?_;simp -dsimp[];exact hx.symm
  ·rw[decide_eq_false hq,sf]at hx;refine wx ?_;simp -dsimp[hb,hu',eN,hq,show ¬(u:Int)=v by omega,aH i (by omega)];refine hN (i+1) _ _ ⟨by omega,hx⟩ (by omega) (by simp) ⟨[],rfl⟩ (by simp) (by simp)
 ·rw[rR (by omega),vT]at hx;refine wx ?_;simp -dsimp[hb];refine hQ _ _ _ ?_;simp -dsimp[];exact hx.symm
theorem meets39(a b:List Nat)(fa fb:Bool)(hl:a.length≤1000000)(hm:b.length≤1000000):aL Tryz.prog 92 [Ln fa a,Ln fb b] fun r=>r = .bool (dW a b):=by
 obtain⟨E,hE⟩:∃E,E=dW a b:=⟨_,rfl⟩;rw[←hE];unfold dW at hE;refine sPx Tryz.func92 rfl rfl ?_;simp -dsimp[Tryz.f92,rO,Ln];refine aG (W_loopM 18 0x3fff0 (by simp[mB]<;>rfl) (σ:=Nat) (fun i=>i≤a.length∧(a.drop i).any (fun v=>b.contains v)=E) (fun i=>a.length-i) (fun i=>[(5,.int .i64 i)]) (fun _=>[]) 0 ⟨by omega,by rw[rk,hE]⟩ (by simp) rfl (by simp) ?_);rintro i ⟨hi,hx⟩ N Q hN hQ;by_cases hb:i<a.length
 ·rw[kA _ _ _ hb]at hx;obtain⟨u,hu⟩:∃u,u=a[i]:=⟨_,rfl⟩;rw[←hu]at hx;have hu':=hu.symm;have c1:=qE b u fb hm;simp only[Ln]at c1
  cases hq:b.contains u with
  | true =>
   rw[hq]at c1 hx;refine wx ?_;simp -dsimp[hb,hu',eN];refine cPx (c1) (by simp) ?_;simp -dsimp[];refine hQ _ _ _ ?_;simp -dsimp[];simpa using hx.symm
  | false =>
   rw[hq]at c1 hx;refine wx ?_;simp -dsimp[hb,hu',eN];refine cPx (c1) (by simp) ?_;simp -dsimp[aH i (by omega)];refine hN (i+1) _ _ ⟨by omega,by simpa using hx⟩ (by omega) (by simp) ⟨[],rfl⟩ (by simp) (by simp)
 ·rw[rR (by omega),vT]at hx;refine wx ?_;simp -dsimp[hb];refine hQ _ _ _ ?_;simp -dsimp[];exact hx.symm
def dQ(fc fx:Bool)(ch ex:List Nat)(b:Int):V:=.agg [Ln fc ch,Ln fx ex,.int .i64 b]
@[simp] theorem encSt_pure (fc fx:Bool) (ch ex:List Nat) (b:Int):AM.Pure (dQ fc fx ch ex b):=by simp[dQ]
theorem closed39(ws:List Int)(es:List (List Nat))(f g fc fx:Bool)(ch ex:List Nat)(b:Int)(hne:es.length≤1000000)(hl:∀e∈es,e.length≤1000000)(hx:ex.length≤1000000):
  aL Tryz.prog 153 [aR f g ws es,dQ fc fx ch ex b] fun r=>r = .bool (fO es ex):=by
 obtain⟨E,hE⟩:∃E,E=fO es ex:=⟨_,rfl⟩;rw[←hE];unfold fO at hE;refine sPx Tryz.func153 rfl rfl ?_;simp -dsimp[Tryz.f153,rO,aR,dQ,L1,LLn,Ln];refine aG (W_loopM 40 0xfffffffff0 (by simp[mB]<;>rfl) (σ:=Nat) (fun i=>i≤es.length∧((es.drop i).any fun e=>e.all fun v=>ex.contains v)=E) (fun i=>es.length-i) (fun i=>[(5,.int .i64 i)]) (fun _=>[B.cells [.lst 1 f (ws.map aE),.lst 1 g (es.map (Ln false))],B.cells [.lst 1 fc (ch.map eN),.lst 1 fx (ex.map eN),.int .i64 b]]) 0 ⟨by omega,by rw[rk,hE]⟩ (by simp) rfl (by simp) ?_);rintro i ⟨hi,hy⟩ N Q hN hQ;by_cases hb:i<es.length
 ·rw[kA _ _ _ hb]at hy;have hle:=hl es[i] (rQ hb);obtain⟨e,he⟩:∃e,e=es[i]:=⟨_,rfl⟩;rw[←he]at hy hle;have he':=he.symm;refine wx ?_;simp -dsimp[hb,L1,LLn,Ln];refine aG (W_loopM 39 0x7fffff80c0 (by simp[mB]<;>rfl) (σ:=Nat×Bool) (fun p=>p.1≤e.length∧(p.2&&(e.drop p.1).all fun v=>ex.contains v)=(e.all fun v=>ex.contains v)) (fun p=>e.length-p.1) (fun p=>[(7,.int .i64 p.1),(6,.bool p.2)]) (fun _=>[B.cells [.lst 1 f (ws.map aE),.lst 1 g (es.map (Ln false))],B.cells [.lst 1 fc (ch.map eN),.lst 1 fx (ex.map eN),.int .i64 b]]) (0,true) ⟨by simp,by simp⟩ (by simp) rfl (by simp) ?_);rintro⟨k,a⟩ ⟨hk,hz⟩ N2 Q2 hN2 hQ2;simp only at hk hz hN2;by_cases hkb:k<e.length
  ·rw[rP hkb,sZ]at hz;obtain⟨v,hv⟩:∃v,v=e[k]:=⟨_,rfl⟩;rw[←hv]at hz;have hv':=hv.symm;have c1:=qE ex v fx hx
   cases a with
   | false =>
    refine wx ?_;simp -dsimp[hb,he',hkb,L1,LLn,Ln];refine .inr ⟨aC (by kernel_rfl),?_⟩;simp -dsimp[aH k (by omega),L1,LLn,Ln];refine hN2 (k+1,false) _ _ ⟨by simp only;omega,by simpa using hz⟩ (by simp only;omega) (by simp) ⟨[],rfl⟩ (by simp) (by simp)
   | true =>
    refine wx ?_;simp -dsimp[hb,he',hkb,hv',eN,L1,LLn,Ln];refine .inr ⟨aC (by kernel_rfl),?_⟩;simp only[Ln]at c1;refine aN _ (aK (c1) (by simp)) ?_;simp -dsimp[aH k (by omega),L1,LLn,Ln];refine hN2 (k+1,ex.contains v) _ _ ⟨by simp only;omega,by simpa using hz⟩ (by simp only;omega) (by simp) ⟨[],rfl⟩ (by simp) (by simp)
  ·rw[rR (by omega),uL,vK]at hz;rw[←hz]at hy
   cases a with
   | true =>
    refine wx ?_;simp -dsimp[hb,he',hkb,L1,LLn,Ln];refine hQ2 _ _ _ ?_;simp -dsimp[L1,LLn,Ln];refine hQ _ _ _ ?_;simp -dsimp[L1,LLn,Ln];simpa using hy.symm
   | false =>
    refine wx ?_;simp -dsimp[hb,he',hkb,L1,LLn,Ln];refine hQ2 _ _ _ ?_;simp -dsimp[aH i (by omega),L1,LLn,Ln];refine hN (i+1) _ _ ⟨by omega,by simpa using hy⟩ (by omega) (by simp) ⟨[],rfl⟩ (by simp) (by simp)
 ·rw[rR (by omega),vT]at hy;refine wx ?_;simp -dsimp[hb,L1,LLn,Ln];refine hQ _ _ _ ?_;simp -dsimp[L1,LLn,Ln];exact hy.symm
end
end Go.Proofs.YtjogkbekekdkjaaGreatDoor
