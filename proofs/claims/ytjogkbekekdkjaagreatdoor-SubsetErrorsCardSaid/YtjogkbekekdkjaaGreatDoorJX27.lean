/- JX27: own texts of this seat, joined and shortened by pack4.py: H7, H13, H14. -/
import Derived.Test.YtjogkbekekdkjaaGreatDoorJX26
set_option linter.unusedVariables false
set_option linter.unusedSimpArgs false
set_option maxRecDepth 100000
set_option maxHeartbeats 64000000
open Bool renaming and_eq_true→rX
open Int renaming toNat_natCast→sT
open List renaming replicate→rO,drop_eq_getElem_cons→rP,getElem_mem→rQ,drop_of_length_le→rR,not_mem_nil→rS,mem_cons→rU,append_nil→rj,drop_zero→rk,nil_append→rx,getElem?_set_ne→ry,getElem?_set_self→sA,all_eq_true→sH,length_map→sK,append_assoc→sO,cons_append→sP,set_append_right→sS,map_cons→tF,pairwise_cons→uA,forall_mem_cons→uR
namespace Go.Proofs.YtjogkbekekdkjaaGreatDoor
section
open Go Go.AM
def aR(f g:Bool)(ws:List Int)(es:List (List Nat)):V:=.agg [L1 f ws,LLn g es]
@[simp] theorem encHn_pure (f g:Bool) (ws:List Int) (es:List (List Nat)):AM.Pure (aR f g ws es):=by simp[aR]
def cst(es:List (List Nat)):List (List Int):=es.map fun e=>e.map fun(v:Nat)=>(v:Int)
theorem LLi_cst(g:Bool)(es:List (List Nat)):LLi g (cst es)=LLn g es:=by
 simp[LLi,LLn,cst,L1,Ln,aE,eN,Function.comp_def]
theorem encHs_cst(f g:Bool)(ws:List Int)(es:List (List Nat)):jI f g ws (cst es)=aR f g ws es:=by
 unfold jI aR;rw[LLi_cst]
def eI(ws:List Int)(es:List (List Nat)):Int:=nC ws (cst es)
theorem lO(n:Nat):∀(e:List Nat) (last:Int),gI n last (e.map fun(v:Nat)=>(v:Int))=true↔(∀v∈e,last<v∧v<n)∧e.Pairwise (· < ·)
 | [],last=>by simp[gI]
 | v::e,last=>by
  rw[tF,gI,rX,rX,lO n e v];simp only[decide_eq_true_eq,uR,uA];constructor
  ·rintro⟨⟨h1,h2⟩,h3,h4⟩;exact⟨⟨⟨h1,by omega⟩,fun u hu=>⟨by have:=(h3 u hu).1;omega,(h3 u hu).2⟩⟩,fun u hu=>by have:=(h3 u hu).1;omega,h4⟩
  ·rintro⟨⟨⟨h1,h2⟩,h3⟩,h4,h5⟩;exact⟨⟨h1,by omega⟩,fun u hu=>⟨by have:=h4 u hu;omega,(h3 u hu).2⟩,h5⟩
theorem cS{ws:List Int}{es:List (List Nat)} : eI ws es=0↔HsB ws es:=by
 unfold eI nC;constructor
 ·intro h;split at h
  ·cases h
  ·rename_i h1;split at h
   ·rename_i h2;unfold jX at h;split at h
    ·rename_i h3;rw[sH]at h2 h3;refine⟨fun v hv=>?_,by omega,by simp[cst]at h1;omega,fun e he=>?_⟩
     ·have:=h2 _ (rQ hv);rw[am _ _ hv];simpa[wOk] using this
     ·have:=h3 (e.map fun(v:Nat)=>(v:Int)) (List.mem_map.2 ⟨e,he,rfl⟩);rw[eOk,rX,lO]at this;exact⟨by rintro rfl;simp at this,this.1.2,fun v hv=>(this.1.1 v hv).2⟩
    ·cases h
   ·cases h
 ·rintro⟨h1,h2,h3,h4⟩;rw[if_neg (by simp[cst];omega),if_pos ?_,jX,if_pos ?_]
  ·rw[sH];intro x hx;obtain⟨e,he,rfl⟩:=List.mem_map.1 hx;obtain⟨e1,e2,e3⟩:=h4 e he;rw[eOk,rX,lO];refine⟨⟨fun v hv=>⟨by omega,e3 v hv⟩,e2⟩,?_⟩
   cases e with
   | nil=>exact absurd rfl e1
   | cons a b=>rfl
  ·rw[sH];intro w hw;obtain⟨i,hi,rfl⟩:=List.mem_iff_getElem.1 hw;have:=h1 i hi;rw[am _ _ hi]at this;simpa[wOk] using this
theorem iH(ws:List Int)(es:List (List Nat))(f g:Bool)(hl:∀e∈es,e.length≤1000000):aL Tryz.prog 41 [aR f g ws es] fun r=>r = .int .i64 (eI ws es):=by
 have:=hsValid ws (cst es) f g (fun e he=>by obtain⟨e',h,rfl⟩:=List.mem_map.1 he;rw[sK];exact hl e' h)
 rwa [encHs_cst]at this
def nsH(H:List B)(f g:Bool)(ws:List Int)(es:List (List Nat))(lf:Int):List B:=H++[.cells [L1 f ws,LLn g es],.buf 3 1 (nuL (rO ws.length 0)) false,.cells [L1 f ws,LLn g es,.buf (H.length+1) 0 ws.length ws.length,.int .i64 lf]]
theorem nsH_at{H:List B}(hH:∀bl∈H,rbB H.length bl)(f g:Bool)(ws:List Int)(es:List (List Nat))(lf:Int):SAt (nsH H f g ws es lf) (H.length+2) (H.length+1) f g ws es ws.length (rO ws.length 0) lf:=by
 refine⟨by simp[nsH],by simp[nsH],?_,by simp,rfl,by omega⟩;refine rbs_app hH ?_;intro bl hb
 rcases List.mem_cons.1 hb with rfl | hb
 ·intro c hc;simp at hc;rcases hc with rfl | rfl<;>exact bq (by simp) rfl
 rcases List.mem_cons.1 hb with rfl | hb
 ·exact(rbB_buf1 (eL _)).2 trivial
 rcases List.mem_cons.1 hb with rfl | hb
 ·intro c hc;simp at hc;rcases hc with rfl | rfl | rfl | rfl
  ·exact bq (by simp) rfl
  ·exact bq (by simp) rfl
  ·simp[rb,rb1]
  ·trivial
 ·cases hb
theorem gR(H:List B)(f g:Bool)(ws:List Int)(es:List (List Nat))(lf:Int)(hn:ws.length≤200):
  av Tryz.prog 87 [aR f g ws es,.int .i64 lf] H fun r H'=>r = .ptr (H.length+2) 0∧H'=nsH H f g ws es lf:=by
 have g0:(H++[B.cells [L1 f ws,LLn g es]])[H.length]?=some (B.cells [L1 f ws,LLn g es]):=by simp
 have hr:rO ws.length (V.int .i64 0)=nuL (rO ws.length 0):=by simp[nuL,eN]
 refine aF tok Tryz.func87 rfl rfl ?_;refine wx ?_;simp -dsimp[Tryz.f87,rO,aR];refine aG (aW tok mixed [4,7] [(0,[1]),(5,[0])] [] (by kernel_rfl) fun C K hC hK=>?_);simp -implicitDefEqProofs [g0,L1,LLn,hr,show(8:Int)*ws.length≤281474976710656 by omega,show(ws.length:Int)≤9223372036854775807 by omega];refine hK _ _ ?_;simp -dsimp[];simp[nsH,L1,LLn]
def ej(ws:List Int)(es:List (List Nat))(b:Int)(l:List Nde):Bool:=if eI ws es=0 then(if b < -1000000000000000∨1000000000000000<b then false else jx ws es b l) else false
theorem hsCheck(ws:List Int)(es:List (List Nat))(f g fl:Bool)(b:Int)(l:List Nde)(hl:∀e∈es,e.length≤1000000)(hp:l.length≤1000000):aL Tryz.prog 57 [aR f g ws es,.int .i64 b,LNd fl l] fun r=>r = .bool (ej ws es b l):=by
 have cv:=iH ws es f g hl;obtain⟨E,hE⟩:∃E,E=eI ws es:=⟨_,rfl⟩;unfold ej;rw[←hE]at cv ⊢;simp only[aR]at cv;by_cases h0:E=0
 ·rw[if_pos h0];have hb:=cS.1 (hE.symm.trans h0);subst h0;by_cases h1:b < -1000000000000000
  ·rw[if_pos (.inl h1)];refine sPx Tryz.func57 rfl rfl ?_;simp -dsimp[Tryz.f57,rO,aR];refine cPx (cv) (by simp) ?_;simp -dsimp[h1]
  ·by_cases h2:1000000000000000<b
   ·rw[if_pos (.inr h2)];refine sPx Tryz.func57 rfl rfl ?_;simp -dsimp[Tryz.f57,rO,aR];refine cPx (cv) (by simp) ?_;simp -dsimp[h1,h2]
   ·rw[if_neg (fun h=>h.elim h1 h2)];have c1:=gR [B.cells [L1 f ws,LLn g es]] f g ws es 0 hb.n;have sa:=nsH_at (H:=[B.cells [L1 f ws,LLn g es]]) (by intro bl hb;simp at hb;subst hb;intro c hc;simp at hc;rcases hc with rfl | rfl<;>exact bq (by simp) rfl) f g ws es 0;have c2:=check_h hb fl (l.length+1) l _ _ b sa (by omega) (by omega) (by omega)
    have hch:jx ws es b l=(match dH ws es (l.length+1) (rO ws.length 0) l b with
     | (some r,true)=>decide (r.length=0)
     | _=>false):=rfl
    rw[hch];have hsome:=jv ws es (l.length+1) (rO ws.length 0) l b;obtain⟨p,hp⟩:∃p,p=dH ws es (l.length+1) (rO ws.length 0) l b:=⟨_,rfl⟩;rw[←hp]at c2 hsome ⊢;obtain⟨p1,p2⟩:=p;simp only[aR]at c1;refine sPx Tryz.func57 rfl rfl ?_;simp -dsimp[Tryz.f57,rO,aR];refine cPx (cv) (by simp) ?_;simp -dsimp[h1,h2];refine bD c1 ?_;rintro _ _ ⟨rfl,rfl⟩;simp -dsimp[];refine bD c2 ?_;rintro _ _ ⟨rfl,rfl⟩
    cases p2 with
    | false =>
     have hm:(match (p1,false) with
      | (some r,true)=>decide (r.length=0)
      | _=>false)=false:=by cases p1<;>rfl
     rw[hm];simp -dsimp[]
    | true =>
     obtain⟨r,hr⟩:=hsome rfl;simp only at hr;subst hr;by_cases h3:r.length=0
     ·simp -dsimp[encR,LNd,h3]
     ·simp -dsimp[encR,LNd,h3]
 ·rw[if_neg h0];refine sPx Tryz.func57 rfl rfl ?_;simp -dsimp[Tryz.f57,rO,aR];refine cPx (cv) (by simp) ?_;simp -dsimp[h0]
section
def scl(f g:Bool)(ws:List Int)(es:List (List Nat))(km n:Nat)(lf:Int):B:=.cells [L1 f ws,LLn g es,.buf km 0 n n,.int .i64 lf]
theorem scl_rb{N:Nat}(f g:Bool)(ws:List Int)(es:List (List Nat)){km:Nat}(n:Nat)(lf:Int)(h:km<N):rbB N (scl f g ws es km n lf):=by
 intro c hc;simp only[rU,rS,or_false]at hc
 rcases hc with rfl | rfl | rfl | rfl
 ·exact bq (by simp) rfl
 ·exact bq (by simp) rfl
 ·exact h
 ·trivial
section
variable {H:List B} {k0 km:Nat} {f g:Bool} {ws:List Int} {es:List (List Nat)} {n:Nat} {m:List Nat} {lf:Int}
theorem SAt.left(s:SAt H k0 km f g ws es n m lf)(lf':Int):SAt (H.set k0 (scl f g ws es km n lf')) k0 km f g ws es n m lf' :=
 ⟨by rw[sA (aB s.h0)];rfl,by rw[ry (Ne.symm s.n0)];exact s.hm,fK s.rb (scl_rb f g ws es n lf' (aB s.hm)),s.lm,s.lw,s.n0⟩
theorem spend_h(s:SAt H k0 km f g ws es n m lf)(h1 : -9000000000000000000≤lf)(h2:lf≤9000000000000000000):
  av Tryz.prog 149 [.ptr k0 0] H fun r H'=>r = .bool (decide (0≤lf-1))∧H'=H.set k0 (scl f g ws es km n (lf-1)):=by
 have h0:=s.h0;have hk0:k0<H.length:=aB s.h0;have s2:=s.left (lf-1);have h02:=s2.h0;have hw:IntKind.i64.wrap (lf-1)=lf-1:=wrap64 (by omega) (by omega);have hst:H.set k0 (B.cells [L1 f ws,LLn g es,.buf km 0 n n,.int .i64 (lf-1)])=H.set k0 (scl f g ws es km n (lf-1)):=rfl;by_cases hq:0≤lf-1
 ·rw[decide_eq_true hq];refine aF tok Tryz.func149 rfl rfl ?_;refine wx ?_;simp -dsimp[Tryz.f149,rO,h0,hw,hst,h02,hq,scl];omega
 ·rw[decide_eq_false hq];refine aF tok Tryz.func149 rfl rfl ?_;refine wx ?_;simp -dsimp[Tryz.f149,rO,h0,hw,hst,h02,hq,scl];omega
theorem branch_h(s:SAt H k0 km f g ws es n m lf)(hb:HsB ws es):
  av Tryz.prog 151 [.ptr k0 0] H fun r H'=>r = .int .i64 (brS es m)∧H'=H:=by
 refine ei ?_ (by simp[rb,rb1]) s.rb;have h0:=s.h0;have hm:=s.hm;have hnl:=bE m;have hlm:=s.lm;have hlw:=s.lw;have hk0:k0<H.length:=aB s.h0;have hkm:km<H.length:=aB s.hm
 have hn2:n≤200:=by have:=hb.n;omega
 have he2:=hb.ne;obtain⟨E,hE⟩:∃E,E=brS es m:=⟨_,rfl⟩;rw[←hE];unfold brS at hE;rw[hlm]at hE
 have hcr:∀c:List Int,rbB (H.length+1) (B.buf 3 1 (inL c) false):=fun c=>(rbB_buf1 (iG _)).2 trivial
 have sN:∀c:List Int,SAt (H++[B.buf 3 1 (inL c) false]) k0 km f g ws es n m lf:=fun c=>s.app [B.buf 3 1 (inL c) false] (by intro bl h;rcases List.mem_cons.1 h with rfl | h;exact hcr c;cases h)
 have hrep:rO n (V.int .i64 0)=inL (rO n 0):=by simp[inL,aE]
 have h0r:=(sN (rO n 0)).h0;refine aF tok Tryz.func151 rfl rfl ?_;refine wx ?_;simp -dsimp[Tryz.f151,rO,hrep,h0r,h0,hm,hnl,hlm,show(8:Int)*n≤281474976710656 by omega,show(n:Int)≤9223372036854775807 by omega,LLn,Ln];refine aG (W_loopM 64 0xffffffffffe00150 (by simp[mB]<;>rfl) (σ:=Nat×List Int×Int) (fun p=>p.1≤es.length∧brF m (es.drop p.1) p.2.1 p.2.2=E∧ldOk n (p.1*200) p.2.1∧-1≤p.2.2∧p.2.2<n) (fun p=>es.length-p.1) (fun p=>[(21,.int .i64 p.1),(4,.int .i64 p.2.2)]) (fun p=>H++[.buf 3 1 (inL p.2.1) false]) (0,rO n 0,-1) ⟨by simp,by rw[rk];exact hE.symm,⟨by simp,fun v _=>by rw[eE];simp⟩,by simp,by simp only;omega⟩ (by simp) (by simp) (by simp) ?_);rintro⟨i,c,b⟩ ⟨hi,hx,hc,hb1,hb2⟩ N Q hN hQ;simp only at hi hx hc hb1 hb2 hN;by_cases hbi:i<es.length
 ·rw[rP hbi,brF]at hx;have hmem:=rQ hbi;obtain⟨e1,e2,e3⟩:=hb.ed es[i] hmem;have e4:=hb.ed.len es[i] hmem;obtain⟨e,he⟩:∃e,e=es[i]:=⟨_,rfl⟩;rw[←he]at hx e1 e2 e3 e4;have hei:=he.symm;have s1:=sN c;have ch:=has_h s1 e false 1 (by omega) (fun v hv=>by have:=e3 v hv;omega);simp only[Ln]at ch
  cases hh:ec m 1 e with
  | true =>
   rw[hh]at ch;rw[if_pos hh]at hx;refine wx ?_;simp -dsimp[hbi,hei,LLn,Ln];refine bD ch ?_;rintro _ _ ⟨rfl,rfl⟩;simp -dsimp[aH i (by omega),LLn,Ln];refine hN (i+1,c,b) _ _ ⟨by simp only;omega,hx,⟨hc.1,fun v hv=>by have:=hc.2 v hv;simp only;omega⟩,hb1,hb2⟩ (by simp only;omega) (by simp) ⟨[],by simp⟩ (by simp;omega) s1.rb
  | false =>
   rw[hh]at ch;rw[if_neg (by simp[hh])]at hx;refine wx ?_;simp -dsimp[hbi,hei,LLn,Ln];refine bD ch ?_;rintro _ _ ⟨rfl,rfl⟩;simp -dsimp[LLn,Ln];refine aG (W_loopM 63 0x7fffffffc0000110 (by simp[mB]<;>rfl) (σ:=Nat×List Int×Int) (fun q=>q.1≤e.length∧brF m (es.drop (i+1)) (brE m (e.drop q.1) q.2.1 q.2.2).1 (brE m (e.drop q.1) q.2.1 q.2.2).2=E∧ldOk n (i*200+q.1) q.2.1∧-1≤q.2.2∧q.2.2<n) (fun q=>e.length-q.1) (fun q=>[(30,.int .i64 q.1),(4,.int .i64 q.2.2)]) (fun q=>H++[.buf 3 1 (inL q.2.1) false]) (0,c,b) ⟨by simp,by rw[rk];exact hx,by simpa using hc,hb1,hb2⟩ (by simp) (by simp) (by simp) ?_);rintro⟨k,c2,b2⟩ ⟨hk,hy,hc2,hb3,hb4⟩ N2 Q2 hN2 hQ2;simp only at hk hy hc2 hb3 hb4 hN2;have s2:=sN c2;by_cases hbk:k<e.length
   ·rw[rP hbk,brE]at hy;have hvn:=e3 e[k] (rQ hbk);obtain⟨v,hv⟩:∃v,v=e[k]:=⟨_,rfl⟩;rw[←hv]at hy hvn;have hev:=hv.symm
    have hvn2:v<n:=by omega
    have g0:=s2.h0;have gm:=s2.hm
    have hat:=fun h=>bR (m:=m) (x:=v) h
    obtain⟨mc,hmc⟩:∃mc,mc=m.getD v 0:=⟨_,rfl⟩;rw[←hmc]at hat hy;by_cases h00:mc=0
    ·subst h00;rw[if_pos rfl]at hy
     have hgl:=fun h=>et (m:=c2) (x:=v) h
     have hll:=er c2;have hl1:=hc2.1;obtain⟨z1,z2⟩:=hc2.2 v hvn2;have hset:=hc2.set (A':=(i:Int)*200+((k+1:Nat):Int)) (by omega) hvn2 (a:=1) (by omega) (by omega);have hst:=mS c2 v (c2.getD v 0+1)
     have g9:(H++[B.buf 3 1 (inL c2) false])[H.length]?=some (B.buf 3 1 (inL c2) false):=by simp
     obtain⟨c3,hc3⟩:∃c3,c3=c2.set v (c2.getD v 0+1):=⟨_,rfl⟩
     have hcv:c3.getD v 0=c2.getD v 0+1:=by rw[hc3,aU _ (by omega)]
     rw[←hc3]at hy hset hst;obtain⟨z,hz⟩:∃z,z=c2.getD v 0:=⟨_,rfl⟩;rw[←hz]at hgl hy hst z1 z2 hcv;have hw2:IntKind.i64.wrap (z+1)=z+1:=wrap64 (by omega) (by omega)
     have hs9:(H++[B.buf 3 1 (inL c2) false]).set H.length (B.buf 3 1 (inL c3) false)=H++[B.buf 3 1 (inL c3) false]:=by simp[sS]
     have s3:=sN c3
     have q9:(H++[B.buf 3 1 (inL c3) false])[H.length]?=some (B.buf 3 1 (inL c3) false):=by simp
     have hll3:=er c3;have hl13:=hset.1
     have hgl3:=fun h=>et (m:=c3) (x:=v) h
     rw[hcv]at hgl3;by_cases hbn:b2<0
     ·rw[if_pos (.inl hbn)]at hy;refine wx ?_;simp -dsimp[hbk,hev,eN,g0,gm,hat,hnl,hlm,hvn2,g9,hgl,hll,hl1,hw2,hst,hs9,hbn,LLn,Ln];refine .inr ⟨aC (by kernel_rfl),?_⟩;simp -dsimp[aH k (by omega),LLn,Ln];refine hN2 (k+1,c3,v) _ _ ⟨by simp only;omega,hy,hset,by simp only;omega,by simp only;omega⟩ (by simp only;omega) (by simp) ⟨[],by simp⟩ (by simp;omega) s3.rb
     ·obtain⟨q,rfl⟩:∃q:Nat,b2=q:=⟨b2.toNat,by omega⟩
      have hqn:q<n:=by omega
      rw[sT]at hy
      have hgq:=fun h=>et (m:=c3) (x:=q) h
      obtain⟨y,hy2⟩:∃y,y=c3.getD q 0:=⟨_,rfl⟩;rw[←hy2]at hgq hy;by_cases hlt:y<z+1
      ·rw[if_pos (.inr hlt)]at hy;refine wx ?_;simp -dsimp[hbk,hev,eN,g0,gm,hat,hnl,hlm,hvn2,g9,hgl,hll,hl1,hw2,hst,hs9,hbn,q9,hgl3,hll3,hl13,hqn,hgq,hlt,LLn,Ln];refine .inr ⟨aC (by kernel_rfl),?_⟩;simp -dsimp[aH k (by omega),LLn,Ln];refine hN2 (k+1,c3,v) _ _ ⟨by simp only;omega,hy,hset,by simp only;omega,by simp only;omega⟩ (by simp only;omega) (by simp) ⟨[],by simp⟩ (by simp;omega) s3.rb
      ·rw[if_neg (by rintro(h | h)<;>omega)]at hy;refine wx ?_;simp -dsimp[hbk,hev,eN,g0,gm,hat,hnl,hlm,hvn2,g9,hgl,hll,hl1,hw2,hst,hs9,hbn,q9,hgl3,hll3,hl13,hqn,hgq,hlt,LLn,Ln];refine .inr ⟨aC (by kernel_rfl),?_⟩;simp -dsimp[aH k (by omega),LLn,Ln];refine hN2 (k+1,c3,q) _ _ ⟨by simp only;omega,hy,hset,by simp only;omega,by simp only;omega⟩ (by simp only;omega) (by simp) ⟨[],by simp⟩ (by simp;omega) s3.rb
    ·rw[if_neg h00]at hy;refine wx ?_;simp -dsimp[hbk,hev,eN,g0,gm,hat,hnl,hlm,hvn2,h00,show ¬((mc:Int)=0) by omega,LLn,Ln];simp -dsimp[aH k (by omega),LLn,Ln];refine hN2 (k+1,c2,b2) _ _ ⟨by simp only;omega,hy,⟨hc2.1,fun v hv=>by have:=hc2.2 v hv;simp only;omega⟩,hb3,hb4⟩ (by simp only;omega) (by simp) ⟨[],by simp⟩ (by simp;omega) s2.rb
   ·rw[show e.drop k=[] from rR (by omega),brE]at hy;refine wx ?_;simp -dsimp[hbk,LLn,Ln];refine hQ2 _ _ _ ?_;simp -dsimp[aH i (by omega),LLn,Ln];refine hN (i+1,c2,b2) _ _ ⟨by simp only;omega,hy,⟨hc2.1,fun v hv=>by have:=hc2.2 v hv;simp only;omega⟩,hb3,hb4⟩ (by simp only;omega) (by simp) ⟨[],by simp⟩ (by simp;omega) s2.rb
 ·rw[rR (by omega),brF]at hx;refine wx ?_;simp -dsimp[hbi,LLn,Ln];refine hQ _ _ _ ?_;simp -dsimp[LLn,Ln];exact hx
end
end
section
theorem rb_sh{N:Nat}(l:List Shr)(fz:Bool):rbB N (.buf 121 2 (l.map aP) fz):=(rbB_buf1 (fun x hx=>by obtain⟨y,_,rfl⟩:=List.mem_map.1 hx;exact⟨encSh_pure y,encSh_oneV y⟩)).2 trivial
section
variable {H:List B} {k0 km:Nat} {f g:Bool} {ws:List Int} {es:List (List Nat)} {n:Nat} {m:List Nat} {lf:Int}
def rmOk(n:Nat)(A:Int)(rm:List Int):Prop:=rm.length=n∧∀v<n,-A≤rm.getD v 0∧rm.getD v 0≤1000000
theorem rmOk.set{n:Nat}{A A':Int}{rm:List Int}(h:rmOk n A rm)(hA:A≤A'){v:Nat}(hv:v<n){a:Int}(h0 : -A'≤rm.getD v 0-a)(h1:rm.getD v 0-a≤1000000):rmOk n A' (rm.set v (rm.getD v 0-a)):=by
 refine⟨by simp[h.1],fun u hu=>?_⟩;by_cases e:v=u
 ·subst e;rw[aU _ (by rw[h.1];exact hv)];exact⟨h0,h1⟩
 ·rw[aY _ e];have:=h.2 u hu;exact⟨by omega,this.2⟩
theorem nJ(s:SAt H k0 km f g ws es n m lf)(hb:HsB ws es):
  av Tryz.prog 112 [.ptr k0 0] H fun r H'=>r = .tup [LSh false (bw ws es m).1,.int .i64 (bw ws es m).2]∧H'=H:=by
 refine ei ?_ (by intro c hc;simp at hc;rcases hc with rfl | rfl;exact pc (LSh_pure _ _) rfl;trivial) s.rb;have h0:=s.h0;have hm:=s.hm;have hnl:=bE m;have hlm:=s.lm;have hlw:=s.lw;have hk0:k0<H.length:=aB s.h0;have hkm:km<H.length:=aB s.hm
 have hn2:n≤200:=by have:=hb.n;omega
 have he2:=hb.ne;obtain⟨E,hE⟩:∃E,E=bw ws es m:=⟨_,rfl⟩;rw[←hE];unfold bw at hE;have cc:=jA ws f (by omega)
 have sN:∀(rm:List Int) (G:List B),(∀bl∈G,rbB (H.length+1+G.length) bl)→SAt (H++(B.buf 2 1 (inL rm) false::G)) k0 km f g ws es n m lf:=fun rm G hG=>s.app (B.buf 2 1 (inL rm) false::G) (by
  intro bl h
  rcases List.mem_cons.1 h with rfl | h
  ·exact(rbB_buf1 (iG _)).2 trivial
  ·exact rbBM (by simp;omega) (hG bl h))
 refine aF tok Tryz.func112 rfl rfl ?_;refine wx ?_;simp -dsimp[Tryz.f112,rO,h0,LLn,Ln];refine(eY cc (by simp)).mono ?_;rintro r H' ⟨e0,z0,xs0,rfl,rfl,hp0,rfl,rfl,rfl⟩;have hin:ws.map aE=inL ws:=rfl;have s1:=sN ws [] (by simp);have h01:=s1.h0
 have hil:(inL ws).length=n:=by rw[er,hlw]
 simp -dsimp[hin,h01,hil,LLn,Ln];refine aG (bf 121 2 [5] (by simp) (W_loopM 81 0x1fffffffffffffc002be0 (by simp[mB]<;>rfl) (σ:=Nat×List Int×List Shr×Int) (fun p=>p.1≤es.length∧p.2.2.1++(cW m (es.drop p.1) p.1 p.2.1).1=E.1∧p.2.2.2+(cW m (es.drop p.1) p.1 p.2.1).2=E.2∧rmOk n (p.1*200000000) p.2.1∧(∀v<n,m.getD v 0=0→0≤p.2.1.getD v 0)∧0≤p.2.2.2∧p.2.2.2≤p.1*1000000∧p.2.2.1.length≤p.1) (fun p=>es.length-p.1) (fun p=>[(26,.int .i64 p.1),(5,.buf (H.length+1) 0 p.2.2.1.length p.2.2.1.length),(6,.int .i64 p.2.2.2)]) (fun p=>H++[.buf 2 1 (inL p.2.1) false,.buf 121 2 (p.2.2.1.map aP) false]) (0,ws,[],0) ⟨by simp,by rw[rk,rx];rw[hE],by rw[rk,Int.zero_add];rw[hE],⟨hlw,fun v hv=>by have:=hb.w v (by omega);simp only;omega⟩,fun v hv _=>by have:=hb.w v (by omega);simp only;omega,by simp,by simp,by simp⟩ (by simp) (by simp) (by simp) ?_));rintro⟨i,rm,out,sm⟩ ⟨hi,hx1,hx2,hr,hr0,hs0,hs1,ho⟩ N Q hN hQ;simp only at hi hx1 hx2 hr hr0 hs0 hs1 ho hN
 have g5:(H++[B.buf 2 1 (inL rm) false,B.buf 121 2 (out.map aP) false])[H.length+1]?=some (B.buf 121 2 (out.map aP) false):=by simp
 by_cases hbi:i<es.length
 ·rw[rP hbi,cW]at hx1 hx2;have hmem:=rQ hbi;obtain⟨e1,e2,e3⟩:=hb.ed es[i] hmem;have e4:=hb.ed.len es[i] hmem;obtain⟨e,he⟩:∃e,e=es[i]:=⟨_,rfl⟩;rw[←he]at hx1 hx2 e1 e2 e3 e4;have hei:=he.symm;have s2:=sN rm [B.buf 121 2 (out.map aP) false] (by intro bl h;rcases List.mem_cons.1 h with rfl | h;exact rb_sh _ _;cases h);have ch:=has_h s2 e false 1 (by omega) (fun v hv=>by have:=e3 v hv;omega);simp only[Ln]at ch;have g0:=s2.h0;have gm:=s2.hm
  cases hh:ec m 1 e with
  | true =>
   rw[hh]at ch;rw[if_pos hh]at hx1 hx2;refine wx ?_;simp -dsimp[hbi,hei,LLn,Ln];refine bD ch ?_;rintro _ _ ⟨rfl,rfl⟩;simp -dsimp[aH i (by omega),LLn,Ln];refine hN (i+1,rm,out,sm) _ _ ⟨by simp only;omega,hx1,hx2,⟨hr.1,fun v hv=>by have:=hr.2 v hv;simp only;omega⟩,hr0,hs0,by simp only;omega,by simp only;omega⟩ (by simp only;omega) (by simp) ⟨[],by simp⟩ (by simp[L1];omega) s2.rb
  | false =>
   rw[hh]at ch;rw[if_neg (by simp[hh])]at hx1 hx2;obtain⟨q1,q2,q3,q4⟩:=lp (m:=m) e2 (fun v hv=>by have:=e3 v hv;omega) hr.1 hr0;obtain⟨A,hA⟩:∃A,A=ek m rm e 1000000:=⟨_,rfl⟩;rw[←hA]at hx1 hx2 q1 q2 q3 q4;refine wx ?_;simp -dsimp[hbi,hei,LLn,Ln];refine bD ch ?_;rintro _ _ ⟨rfl,rfl⟩;simp -dsimp[LLn,Ln];refine aG (W_loopM 55 0x7ffff000000a00 (by simp[mB]<;>rfl) (σ:=Nat×Int) (fun q=>q.1≤e.length∧ek m rm (e.drop q.1) q.2=A∧0≤q.2∧q.2≤1000000) (fun q=>e.length-q.1) (fun q=>[(36,.int .i64 q.1),(9,.int .i64 q.2)]) (fun _=>H++[.buf 2 1 (inL rm) false,.buf 121 2 (out.map aP) false]) (0,1000000) ⟨by simp,by rw[rk];exact hA.symm,by simp,by simp⟩ (by simp) (by simp) (by simp) ?_);rintro⟨k,a⟩ ⟨hk,hy,ha0,ha1⟩ N2 Q2 hN2 hQ2;simp only at hk hy ha0 ha1 hN2;by_cases hbk:k<e.length
   ·rw[rP hbk,ek]at hy;have hvn:=e3 e[k] (rQ hbk);obtain⟨v,hv⟩:∃v,v=e[k]:=⟨_,rfl⟩;rw[←hv]at hy hvn;have hev:=hv.symm
    have hvn2:v<n:=by omega
    have hat:=fun h=>bR (m:=m) (x:=v) h
    have hgl:=fun h=>et (m:=rm) (x:=v) h
    have hll:=er rm;have hl1:=hr.1
    have g9:(H++[B.buf 2 1 (inL rm) false,B.buf 121 2 (out.map aP) false])[H.length]?=some (B.buf 2 1 (inL rm) false):=by simp
    obtain⟨z1,z2⟩:=hr.2 v hvn2;have hr0v:=hr0 v hvn2;obtain⟨mc,hmc⟩:∃mc,mc=m.getD v 0:=⟨_,rfl⟩;rw[←hmc]at hat hy hr0v;obtain⟨z,hz⟩:∃z,z=rm.getD v 0:=⟨_,rfl⟩;rw[←hz]at hgl hy z1 z2 hr0v;by_cases h00:mc=0
    ·subst h00;rw[if_pos rfl]at hy;have hr0z:=hr0v rfl;by_cases hlt:z<a
     ·rw[show min a z=z by omega]at hy;refine wx ?_;simp -dsimp[hbk,hev,eN,g0,gm,hat,hnl,hlm,hvn2,g9,hgl,hll,hl1,hlt,LLn,Ln];simp -dsimp[aH k (by omega),hlt,LLn,Ln];refine hN2 (k+1,z) _ _ ⟨by simp only;omega,hy,hr0z,by simp only;omega⟩ (by simp only;omega) (by simp) ⟨[],by simp⟩ (by simp[L1];omega) s2.rb
     ·rw[show min a z=a by omega]at hy;refine wx ?_;simp -dsimp[hbk,hev,eN,g0,gm,hat,hnl,hlm,hvn2,g9,hgl,hll,hl1,hlt,LLn,Ln];simp -dsimp[aH k (by omega),hlt,LLn,Ln];refine hN2 (k+1,a) _ _ ⟨by simp only;omega,hy,ha0,ha1⟩ (by simp only;omega) (by simp) ⟨[],by simp⟩ (by simp[L1];omega) s2.rb
    ·rw[if_neg h00]at hy;refine wx ?_;simp -dsimp[hbk,hev,eN,g0,gm,hat,hnl,hlm,hvn2,h00,show ¬((mc:Int)=0) by omega,LLn,Ln];simp -dsimp[aH k (by omega),LLn,Ln];refine hN2 (k+1,a) _ _ ⟨by simp only;omega,hy,ha0,ha1⟩ (by simp only;omega) (by simp) ⟨[],by simp⟩ (by simp[L1];omega) s2.rb
   ·rw[show e.drop k=[] from rR (by omega),ek]at hy;subst hy;by_cases ha:a=0
    ·subst ha;rw[if_pos rfl]at hx1 hx2;refine wx ?_;simp -dsimp[hbk,LLn,Ln];refine hQ2 _ _ _ ?_;simp -dsimp[aH i (by omega),LLn,Ln];refine hN (i+1,rm,out,sm) _ _ ⟨by simp only;omega,hx1,hx2,⟨hr.1,fun v hv=>by have:=hr.2 v hv;simp only;omega⟩,hr0,hs0,by simp only;omega,by simp only;omega⟩ (by simp only;omega) (by simp) ⟨[],by simp⟩ (by simp[L1];omega) s2.rb
    ·rw[if_neg ha]at hx1 hx2;obtain⟨R,hR⟩:∃R,R=ky a e rm:=⟨_,rfl⟩;rw[←hR]at hx1 hx2 q1 q2;refine wx ?_;simp -dsimp[hbk,LLn,Ln];refine hQ2 _ _ _ ?_;simp -dsimp[ha,LLn,Ln];refine aG (W_loopM 71 0x7ff800000000002000 (by simp[mB]<;>rfl) (σ:=Nat×List Int) (fun q=>q.1≤e.length∧ky a (e.drop q.1) q.2=R∧rmOk n (i*200000000+q.1*1000000) q.2) (fun q=>e.length-q.1) (fun q=>[(59,.int .i64 q.1)]) (fun q=>H++[.buf 2 1 (inL q.2) false,.buf 121 2 (out.map aP) false]) (0,rm) ⟨by simp,by rw[rk];exact hR.symm,by simpa using hr⟩ (by simp) (by simp) (by simp) ?_);rintro⟨k3,rm3⟩ ⟨hk3,hy3,hr3⟩ N3 Q3 hN3 hQ3;simp only at hk3 hy3 hr3 hN3;by_cases hbk3:k3<e.length
     ·rw[rP hbk3,ky]at hy3;have hvn:=e3 e[k3] (rQ hbk3);obtain⟨v,hv⟩:∃v,v=e[k3]:=⟨_,rfl⟩;rw[←hv]at hy3 hvn;have hev:=hv.symm
      have hvn2:v<n:=by omega
      have hgl:=fun h=>et (m:=rm3) (x:=v) h
      have hll:=er rm3;have hl1:=hr3.1
      have g9:(H++[B.buf 2 1 (inL rm3) false,B.buf 121 2 (out.map aP) false])[H.length]?=some (B.buf 2 1 (inL rm3) false):=by simp
      obtain⟨z1,z2⟩:=hr3.2 v hvn2;have hset:=hr3.set (A':=(i:Int)*200000000+((k3+1:Nat):Int)*1000000) (by omega) hvn2 (a:=a) (by omega) (by omega);have hst:=mS rm3 v (rm3.getD v 0-a);obtain⟨rm4,hrm4⟩:∃rm4,rm4=rm3.set v (rm3.getD v 0-a):=⟨_,rfl⟩;rw[←hrm4]at hy3 hset hst;obtain⟨z,hz⟩:∃z,z=rm3.getD v 0:=⟨_,rfl⟩;rw[←hz]at hgl hst z1 z2;have hw2:IntKind.i64.wrap (z-a)=z-a:=wrap64 (by omega) (by omega)
      have hs9:(H++[B.buf 2 1 (inL rm3) false,B.buf 121 2 (out.map aP) false]).set H.length (B.buf 2 1 (inL rm4) false)=H++[B.buf 2 1 (inL rm4) false,B.buf 121 2 (out.map aP) false]:=by simp[sS]
      have s4:=sN rm4 [B.buf 121 2 (out.map aP) false] (by intro bl h;rcases List.mem_cons.1 h with rfl | h;exact rb_sh _ _;cases h);refine wx ?_;simp -dsimp[hbk3,hev,eN,hvn2,g9,hgl,hll,hl1,hw2,hst,hs9,LLn,Ln];simp -dsimp[aH k3 (by omega),LLn,Ln];refine hN3 (k3+1,rm4) _ _ ⟨by simp only;omega,hy3,hset⟩ (by simp only;omega) (by simp) ⟨[],by simp⟩ (by simp[L1];omega) s4.rb
     ·rw[show e.drop k3=[] from rR (by omega),ky]at hy3;subst hy3
      have g5b:(H++[B.buf 2 1 (inL rm3) false,B.buf 121 2 (out.map aP) false])[H.length+1]?=some (B.buf 121 2 (out.map aP) false):=by simp
      have hs5:(H++[B.buf 2 1 (inL rm3) false,B.buf 121 2 (out.map aP) false]).set (H.length+1) (B.buf 121 2 ((out++[(⟨(i:Int),a⟩:Shr)]).map aP) false)=H++[B.buf 2 1 (inL rm3) false,B.buf 121 2 ((out++[(⟨(i:Int),a⟩:Shr)]).map aP) false]:=by simp[sS]
      have hoa:out.map aP++[.agg [.int .i64 (i:Int),.int .i64 a]]=(out++[(⟨(i:Int),a⟩:Shr)]).map aP:=by simp[aP]
      have s6:=sN rm3 [B.buf 121 2 ((out++[(⟨(i:Int),a⟩:Shr)]).map aP) false] (by intro bl h;rcases List.mem_cons.1 h with rfl | h;exact rb_sh _ _;cases h);have hw6:IntKind.i64.wrap (sm+a)=sm+a:=wrap64 (by omega) (by omega);refine wx ?_;simp -dsimp[hbk3,LLn,Ln];refine hQ3 _ _ _ ?_;simp -dsimp[g5b,hoa,hs5,hw6,aH i (by omega),show out.length≤9223372036854775806 by omega,show(out.length+1)*16≤140737488355328 by omega,LLn,Ln];refine hN (i+1,rm3,out++[(⟨(i:Int),a⟩:Shr)],sm+a) _ _ ⟨by simp only;omega,by simp only[sO,sP,rx];exact hx1,by simp only;omega,⟨q1,fun v hv=>by have:=hr3.2 v hv;simp only;omega⟩,q2,by simp only;omega,by simp only;omega,by simp;omega⟩ (by simp only;omega) (by simp) ⟨[],by simp⟩ (by simp[L1];omega) s6.rb
 ·rw[show es.drop i=[] from rR (by omega),cW]at hx1 hx2;rw[rj]at hx1;rw[Int.add_zero]at hx2;refine cy (H.length+1) [5] g5 (by simp) ?_;refine wx ?_;simp -dsimp[hbi,LLn,Ln];refine hQ _ _ _ ?_;simp -dsimp[LLn,Ln];exact⟨by rw[←hx1];rfl,hx2⟩
end
end
end
end Go.Proofs.YtjogkbekekdkjaaGreatDoor
