/- JM30: own texts of this seat, joined and shortened by pack4.py: Cve, Cvh, Cvi, Cvj, Cvk. -/
import Derived.Test.YtdnhplencamncaaGreatDoorJM28
import Derived.Test.YtdnhplencamncaaGreatDoorJM29
set_option linter.unusedVariables false
set_option linter.unusedSimpArgs false
set_option maxRecDepth 100000
set_option maxHeartbeats 64000000
open Int renaming eq_ofNat_of_zero_le→pU,toNat_natCast→qP
open List renaming replicate→oE,getElem_mem→oI,drop_eq_getElem_cons→oK,range→oM,take_succ_eq_append_getElem→oN,not_mem_nil→oO,mem_cons→oR,getElem?_append_right→oS,length_append→oT,append_nil→oU,drop_of_length_le→oV,length_map→oW,take_length→oY,map_append→oe,length_cons→og,append_assoc→oh,map_congr_left→oo,map_cons→oq,length_take→ot,mem_cons_self→ou,mem_cons_of_mem→ow,set_cons_zero→oz,drop_zero→pC,set_cons_succ→pG,map_nil→pJ,mem_singleton→pM,length_set→pN,getD_eq_getElem?_getD→pj,set_append_right→pt,ext_getElem→pw,set_getElem_self→qQ,flatMap_cons→qh,set_set→rV,foldl_append→rW
open Nat renaming le_refl→oJ,zero_add→pI,le_trans→pY,sub_self→px,min_eq_left→qE,mul_le_mul→qy
open Option renaming getD_some→qG
namespace Go.Proofs.YtdnhplencamncaaGreatDoor
section
open Go Go.AM
def optS(n:Nat)(l:List Pw):Sst:=frF (mtW n l) n n 0 0 0 ⟨oE n 0,none,0⟩
def my(n:Nat)(l:List Pw):List Int:=(optS n l).best.getD []
theorem labF_len(n:Nat)(l:List Pw):(my n l).length≤n:=by
 have h:=frF_ok (mtW n l) n n 0 0 0 ⟨oE n 0,none,0⟩ ⟨by simp,fun l hl=>by cases hl⟩;unfold my
 cases e:(optS n l).best with
 | none=>simp
 | some x=>rw[qG,h.best x e];exact oJ _
theorem mtW_ok{n:Nat}{l:List Pw}(h:PwOk n l)(h0:0<n)(h10:n≤10):WtOk n (mtW n l):=by
 refine⟨h0,h10,by simp[mtW],fun r hr=>?_⟩;obtain⟨a,_,rfl⟩:=List.mem_map.1 hr;refine⟨by simp[roI],fun x hx=>?_⟩;obtain⟨b,_,rfl⟩:=List.mem_map.1 hx;exact wtF_in (fun p hp=>(h.lt p hp).2.2) a b
theorem optimal_u(n:Nat)(l:List Pw)(f:Bool)(h:PwOk n l)(h0:0<n)(h10:n≤10):aJ Tryz.prog 102 [.int .i64 n,LPw f l] fun r=>r = .tup [L1 false (my n l),.int .i64 (optS n l).least,.int .i64 0]:=by
 have c1:=cvalid_u n l f h;have c2:=matrix_u n l f h;have hW:=mtW_ok h h0 h10;have c3:=from_u (mtW n l) n hW n 0 0 0 ⟨oE n 0,none,0⟩ (by omega) (by omega) ⟨by simp,fun l hl=>by cases hl⟩ (by omega) (by omega);rw[show frF (mtW n l) n n 0 0 0 ⟨oE n 0,none,0⟩=optS n l from rfl]at c3;obtain⟨S,hS⟩:∃S,S=optS n l:=⟨_,rfl⟩
 have hlab:my n l=S.best.getD []:=by rw[hS];rfl
 rw[hlab,←hS];rw[←hS]at c3;obtain⟨W,hWe⟩:∃W,W=mtW n l:=⟨_,rfl⟩;rw[←hWe]at c2 c3
 have hz:czL (oE n 0)=oE n (.int .i64 0):=by simp[czL,aQ]
 have hb:Le (bsV S.best) (L1 false (S.best.getD [])):=by
  cases S.best with
  | none=>exact .nil _ _
  | some x=>exact .refl _
 refine conP_res (v:=.tup [bsV S.best,.int .i64 S.least,.int .i64 0]) ?_ (.tup _ _ rfl fun i x y hx hy=>by
  match i with
  | 0=>simp at hx hy;subst hx;subst hy;exact hb
  | 1=>simp at hx hy;subst hx;subst hy;exact .refl _
  | 2=>simp at hx hy;subst hx;subst hy;exact .refl _
  | i+3=>simp at hx) (by simp)
 have hbp:AM.Pure (bsV S.best):=by
  cases S.best with
  | none=>exact .nilS
  | some x=>exact L1_pure _ _
 have hbv:bsV none = .nilS:=rfl;obtain⟨bv,hbe⟩:∃bv,bv=bsV S.best:=⟨_,rfl⟩;simp only[SH,hz,hbv,←hbe]at c3;rw[←hbe]at hbp ⊢;simp only[LPw,LLz]at c1 c2 c3;refine sPx Tryz.func102 rfl rfl ?_;simp -dsimp[Tryz.f102,oE,LPw];refine cPx (c1) (by simp) ?_;simp -dsimp[show ¬(10:Int)<(n:Int) by omega];refine aI (aX tok mixed [4,6] [(0,[1]),(1,[1]),(2,[1])] [(.lst 1 false (W.map (L1 false)),[])] (by kernel_rfl) fun C K hC hK=>?_);simp -implicitDefEqProofs [show 8*(n:Int)≤281474976710656 by omega,show(n:Int)≤9223372036854775807 by omega];refine⟨⟨hC _ _ _ _ (aT c2 (by simp)),hC _ _ _ _ (aT c2 (by simp))⟩,hK _ _ ?_⟩;rw[show((0:Nat):Int)=0 from rfl]at c3;simp -dsimp[];refine bF c3 ?_;rintro r H' ⟨rfl,rfl⟩;simp -dsimp[];refine .inr ⟨aS (by kernel_rfl),?_⟩;exact hbp
def prK(m:Nat→Nat→Bool)(i:Nat):Nat→Nat→List Pw
 | _,0=>[]
 | k,d+1=>⟨i,k,if m i k=true then 1 else -1⟩::prK m i (k+1) d
def prI(m:Nat→Nat→Bool)(n:Nat):Nat→Nat→List Pw
 | _,0=>[]
 | i,d+1=>prK m i (i+1) (n-(i+1))++prI m n (i+1) d
theorem lh{m:Nat→Nat→Bool}{i:Nat} : ∀{d k:Nat} {p:Pw},p∈prK m i k d→p.i=i∧k≤p.k∧p.k<k+d∧-1000≤p.w∧p.w≤1000
 | 0,_,p,h=>by simp[prK]at h
 | d+1,k,p,h=>by
  rw[prK]at h
  rcases List.mem_cons.1 h with rfl | h
  ·refine⟨rfl,oJ _,by simp only;omega,?_⟩;simp only;split<;>omega
  ·obtain⟨h1,h2,h3,h4⟩:=lh h;exact⟨h1,by omega,by omega,h4⟩
theorem prK_nd{m:Nat→Nat→Bool}{i:Nat} : ∀(d k:Nat),((prK m i k d).map Pw.key).Nodup
 | 0,_=>by simp[prK]
 | d+1,k=>by
  rw[prK,oq,List.nodup_cons];refine⟨fun h=>?_,prK_nd d (k+1)⟩;obtain⟨p,hp,e⟩:=List.mem_map.1 h;obtain⟨_,h2,_⟩:=lh hp
  have:p.k=k:=by simpa[Pw.key] using(congrArg Prod.snd e)
  omega
theorem prI_mem{m:Nat→Nat→Bool}{n:Nat} : ∀{d i:Nat} {p:Pw},i+d=n→p∈prI m n i d→i≤p.i∧p.i<p.k∧p.k<n∧-1000≤p.w∧p.w≤1000
 | 0,_,p,_,h=>by simp[prI]at h
 | d+1,i,p,hd,h=>by
  rw[prI]at h
  rcases List.mem_append.1 h with h | h
  ·obtain⟨h1,h2,h3,h4⟩:=lh h;exact⟨by omega,by omega,by omega,h4⟩
  ·obtain⟨h1,h2⟩:=prI_mem (by omega) h;exact⟨by omega,h2⟩
theorem prI_nd{m:Nat→Nat→Bool}{n:Nat} : ∀(d i:Nat),i+d=n→((prI m n i d).map Pw.key).Nodup
 | 0,_,_=>by simp[prI]
 | d+1,i,hd=>by
  rw[prI,oe];refine List.nodup_append.2 ⟨prK_nd _ _,prI_nd d (i+1) (by omega),fun a ha b hb e=>?_⟩;subst e;obtain⟨p,hp,e1⟩:=List.mem_map.1 ha;obtain⟨q,hq,e2⟩:=List.mem_map.1 hb;obtain⟨h1,_⟩:=lh hp;obtain⟨h2,_⟩:=prI_mem (by omega) hq
  have:q.i=p.i:=by
   have:=congrArg Prod.fst (e2.trans e1.symm);simpa[Pw.key] using this
  omega
theorem prK_len(m:Nat→Nat→Bool)(i:Nat):∀(d k:Nat),(prK m i k d).length=d
 | 0,_=>rfl
 | d+1,k=>by rw[prK,og,prK_len m i d]
theorem prI_len(m:Nat→Nat→Bool)(n:Nat):∀(d i:Nat),(prI m n i d).length≤d*n
 | 0,_=>by simp[prI]
 | d+1,i=>by
  have:=prI_len m n d (i+1);rw[prI,oT,prK_len,Nat.succ_mul];omega
def mtU(C:List Int)(us:List (Nat×Nat))(i k:Nat):Bool:=decide (((C.getD i 0).toNat,(C.getD k 0).toNat)∈us)
def dvP(C:List Int)(us:List (Nat×Nat)):List Pw:=prI (mtU C us) C.length 0 C.length
theorem dvP_ok{C:List Int}{us:List (Nat×Nat)}(h:C.length≤10):PwOk C.length (dvP C us):=by
 refine⟨by omega,?_,fun p hp=>?_,prI_nd _ _ (by omega)⟩
 ·have h1:=prI_len (mtU C us) C.length C.length 0;have h2:C.length*C.length≤10*10:=qy h h;unfold dvP;omega
 ·have:=prI_mem (by omega) hp;exact this.2
def dvG(C:List Int)(us:List (Nat×Nat)):List (List Int):=grF (my C.length (dvP C us)) (my C.length (dvP C us)).length
def dvF(C:List Int)(us:List (Nat×Nat)):List (List Int):=(dvG C us).map fun g=>g.map fun x=>C.getD x.toNat 0
theorem dvG_ok{C:List Int}{us:List (Nat×Nat)} : (dvG C us).length≤C.length∧∀g∈dvG C us,g.length≤C.length∧∀x∈g,0≤x∧x<(C.length:Int):=by
 have hl:=labF_len C.length (dvP C us);refine⟨pY (grF_le _ _ (oJ _)) hl,fun g hg=>?_⟩;obtain⟨h1,h2⟩:=lx _ _ (oJ _) g hg;exact⟨by omega,fun x hx=>by have:=h2 x hx;omega⟩
def dvA(C:List Int)(g:List Int)(i:Nat):List Int:=((g.take i).map fun x=>C.getD x.toNat 0)++g.drop i
theorem W_frzGL{P:Program}{e0 n e z:Nat}{A B0:B}{c:Code}{Q:Exit→List V→List B→Prop}{fr:List V}(ys:Nat→List V)
  (h:W P c Q fr (A::B0::NH e0 n (fun v=>.lst z false (ys v)) (fun v=>.buf e z (ys v) true) [])):W P c Q fr (A::B0::NH e0 n (ow3 fun v=>(ys v).length) (fun v=>.buf e z (ys v) false) []):=by
 have key:∀d i,i+d=n→W P c Q fr (A::B0::NH e0 n (fun v=>if v<i then .lst z false (ys v) else .buf (v+3) 0 (ys v).length (ys v).length) (fun v=>if v<i then .buf e z (ys v) true else .buf e z (ys v) false) []):=by
  intro d
  induction d with
  | zero =>
   intro i hi
   obtain rfl:i=n:=by omega
   have:NH e0 i (fun v=>if v<i then V.lst z false (ys v) else .buf (v+3) 0 (ys v).length (ys v).length) (fun v=>if v<i then B.buf e z (ys v) true else .buf e z (ys v) false) []=NH e0 i (fun v=>.lst z false (ys v)) (fun v=>.buf e z (ys v) true) []:=by
    unfold NH NR;rw[oo (f:=fun v=>if v<i then V.lst z false (ys v) else .buf (v+3) 0 (ys v).length (ys v).length) (g:=fun v=>.lst z false (ys v)) (fun v hv=>if_pos (List.mem_range.1 hv)),oo (f:=fun v=>if v<i then B.buf e z (ys v) true else .buf e z (ys v) false) (g:=fun v=>.buf e z (ys v) true) (fun v hv=>if_pos (List.mem_range.1 hv))]
   rw[this];exact h
  | succ d ih =>
   intro i hi
   have hin:i<n:=by omega
   have hgt:∀F G,(A::B0::NH e0 n F G [])[i+3]?=some (G i):=fun F G=>NH_v (e0:=e0) (n:=n) (F:=F) (G:=G) (tl:=[]) hin
   have hst:∀F G (b:B),(A::B0::NH e0 n F G []).set (i+3) b=A::B0::NH e0 n F (bG G i b) []:=fun F G b=>by
    show A::B0::((NH e0 n F G []).set (i+1) b)=_;rw[dZ hin]
   have hs2:∀F G (y:V),(A::B0::NH e0 n F G []).set 2 (.buf e0 1 ((NR n F).set i y) false)=A::B0::NH e0 n (bG F i y) G []:=fun F G y=>by
    show A::B0::((NH e0 n F G []).set 0 _)=_;rw[kI]
   refine W_frzB (k:=i+3) (j:=i) (k0:=2) (e0:=e0) (e:=e) (z:=z) (xs:=NR n _) (ys:=ys i) (fz:=false) (by omega) (by rw[hgt,if_neg (by omega)]) rfl (by rw[NR_at hin,if_neg (by omega)]) ?_;rw[hst,hs2]
   have e1:bG (fun v=>if v<i then V.lst z false (ys v) else .buf (v+3) 0 (ys v).length (ys v).length) i (.lst z false (ys i))=fun v=>if v<i+1 then V.lst z false (ys v) else .buf (v+3) 0 (ys v).length (ys v).length:=by
    funext v;unfold bG;by_cases hv:v=i
    ·subst hv;rw[if_pos rfl,if_pos (by omega)]
    ·rw[if_neg hv];by_cases h2:v<i
     ·simp only[if_pos h2,if_pos (show v<i+1 by omega)]
     ·simp only[if_neg h2,if_neg (show ¬v<i+1 by omega)]
   have e2:bG (fun v=>if v<i then B.buf e z (ys v) true else .buf e z (ys v) false) i (.buf e z (ys i) true)=fun v=>if v<i+1 then B.buf e z (ys v) true else .buf e z (ys v) false:=by
    funext v;unfold bG;by_cases hv:v=i
    ·subst hv;rw[if_pos rfl,if_pos (by omega)]
    ·rw[if_neg hv];by_cases h2:v<i
     ·simp only[if_pos h2,if_pos (show v<i+1 by omega)]
     ·simp only[if_neg h2,if_neg (show ¬v<i+1 by omega)]
   rw[e1,e2];exact ih (i+1) (by omega)
 have:=key n 0 (by omega);simp only[Nat.not_lt_zero,if_false]at this;exact this
def dvJ(C:List Int)(gs:List (List Int))(j:Nat):List (List Int):=(gs.take j).map (fun g=>g.map fun x=>C.getD x.toNat 0)++gs.drop j
theorem dvJ_len(C:List Int)(gs:List (List Int))(j:Nat)(h:j≤gs.length):(dvJ C gs j).length=gs.length:=by simp[dvJ];omega
theorem dvJ_at{C:List Int}{gs:List (List Int)}{j:Nat}(h:j<gs.length):ggt (dvJ C gs j) j=gs[j]:=by
 unfold ggt dvJ;rw[pj,oS (by simp;omega),oK h,oW,ot,qE (by omega),px];rfl
theorem dvJ_succ{C:List Int}{gs:List (List Int)}{j:Nat}(h:j<gs.length):(dvJ C gs j).set j (gs[j].map fun x=>C.getD x.toNat 0)=dvJ C gs (j+1):=by
 unfold dvJ;rw[pt _ _ (by simp;omega),oW,ot,qE (by omega),px,oN h,oe,oh];rw[oK h];rfl
theorem dvA_len(C g:List Int)(i:Nat)(h:i≤g.length):(dvA C g i).length=g.length:=by simp[dvA];omega
theorem dvA_at{C g:List Int}{i:Nat}(h:i<g.length):zAt (dvA C g i) i=g[i]:=by
 unfold zAt dvA;rw[pj,oS (by simp;omega),oK h,oW,ot,qE (by omega),px];rfl
theorem dvA_succ{C g:List Int}{i:Nat}(h:i<g.length):(dvA C g i).set i (C.getD g[i].toNat 0)=dvA C g (i+1):=by
 unfold dvA;rw[pt _ _ (by simp;omega),oW,ot,qE (by omega),px,oN h,oe,oh];rw[oK h];rfl
theorem GL_st{A B0:B}{X:List (List Int)}{j:Nat}{l:List Int}(hj:j<X.length)(hl:l.length=(ggt X j).length):(GL A B0 X).set (j+3) (.buf 3 1 (czL l) false)=GL A B0 (X.set j l):=by
 have h3:ow3 (fun v=>(ggt (X.set j l) v).length)=ow3 fun v=>(ggt X v).length:=by
  rw[←ow3_set X j l hj];funext v;unfold bG;by_cases h:v=j
  ·rw[if_pos h,h,hl];rfl
  ·rw[if_neg h]
 have h4:=bf_set X j l hj;unfold GL;rw[h3,←h4,pN];show A::B0::((NH 26 X.length _ _ []).set (j+1) (bfZ l false))=_;rw[dZ hj]
theorem GL_at{A B0:B}{X:List (List Int)}{j:Nat}(hj:j<X.length):(GL A B0 X)[j+3]?=some (.buf 3 1 (czL (ggt X j)) false):=NH_v (e0:=26) (n:=X.length) (F:=ow3 fun v=>(ggt X v).length) (G:=fun v=>bfZ (ggt X v) false) (tl:=[]) hj
theorem ggt_self{X:List (List Int)}{j:Nat}{l:List Int}(h:j<X.length):ggt (X.set j l) j=l:=by simp[ggt,h]
theorem capPw(n:Nat)(h:n≤1000000000):n≤9223372036854775806∧(n+1)*24≤140737488355328:=by omega
structure CmOk (C:List Int):Prop where
 n0:0<C.length
 n1:C.length≤10
 nn:∀x∈C,0≤x
theorem divide_h(C:List Int)(us:List (Nat×Nat))(f:Bool)(h:CmOk C):aU Tryz.prog 46 [L1 f C,.map 0] [.map (.arr 2) (mP us)] fun r H'=>r = .tup [LLz false (dvF C us),.int .i64 0]∧∃G,H'=[.map (.arr 2) (mP us)]++G:=by
 obtain⟨h0,h1,hnn⟩:=h;have hpo:=dvP_ok (C:=C) (us:=us) h1;have co:=optimal_u C.length (dvP C us) false hpo h0 h1;obtain⟨n,hn⟩:∃n,n=C.length:=⟨_,rfl⟩
 have hdp:dvP C us=prI (mtU C us) n 0 n:=by rw[hn];rfl
 obtain⟨m,hm⟩:∃m,m=mtU C us:=⟨_,rfl⟩;rw[←hm]at hdp;obtain⟨P,hP⟩:∃P,P=dvP C us:=⟨_,rfl⟩
 have hPl:P.length≤20000:=by rw[hP];exact hpo.len
 have hdv:dvF C us=(grF (my n P) (my n P).length).map fun g=>g.map fun x=>C.getD x.toNat 0:=by rw[hn,hP];rfl
 obtain⟨hg1,hg2⟩:=dvG_ok (C:=C) (us:=us);rw[show dvG C us=grF (my n P) (my n P).length by rw[hn,hP];rfl,←hn]at hg1 hg2;have hlab:=labF_len n P;rw[←hP,←hn]at co;rw[←hP]at hdp;rw[hdv];obtain⟨L,hL⟩:∃L,L=my n P:=⟨_,rfl⟩;rw[←hL]at co hlab hg1 hg2 ⊢;obtain⟨gs,hgs⟩:∃gs,gs=grF L L.length:=⟨_,rfl⟩;rw[←hgs]at hg1 hg2 ⊢;obtain⟨ls,hls⟩:∃ls,ls=(optS n P).least:=⟨_,rfl⟩;rw[←hls]at co
 have hrbA:∀k,rbB k (.map (.arr 2) (mP us)):=fun k=>(rbB_mP _ _ _).2 trivial
 have hrb2:∀o:List Pw,∀bl∈[B.map (.arr 2) (mP us),B.buf 194 3 (o.map dI) false],rbB 2 bl:=fun o bl hbl=>by
  simp only[oR,oO,or_false]at hbl
  rcases hbl with rfl | rfl
  ·exact hrbA 2
  ·simp[dI]
 simp only[L1,LPw]at co;refine aE tok Tryz.func46 rfl rfl ?_;refine wx ?_;simp -dsimp[Tryz.f46,oE,L1];refine aI (eI 194 3 [7] (by simp) (W_loopM 50 0x3ffffffe00780 (by simp[mB]<;>rfl) (σ:=Nat×List Pw) (fun p=>p.1≤n∧p.2++prI m n p.1 (n-p.1)=P) (fun p=>n-p.1) (fun p=>[(21,.int .i64 p.1),(7,.buf 1 0 p.2.length p.2.length)]) (fun p=>[B.map (.arr 2) (mP us),B.buf 194 3 (p.2.map dI) false]) (0,[]) ⟨by simp,by rw[hdp];rfl⟩ (by simp) (by simp) (by simp) ?_));rintro⟨i,o⟩ ⟨hi,hx⟩ N Q hN hQ;simp only at hi hx;have wi:=aP i (by omega);by_cases hb:i<n
 ·rw[show n-i=(n-(i+1))+1 by omega,prI]at hx;obtain⟨A,hA⟩:∃A,A=o++prK m i (i+1) (n-(i+1)):=⟨_,rfl⟩;rw[←oh,←hA]at hx
  have hAl:A.length≤20000:=by have:=congrArg List.length hx;rw[oT]at this;omega
  refine wx ?_;simp -dsimp[hb,hn.symm,wi];refine aI (W_loopM 49 0x1fffffc000680 (by simp[mB]<;>rfl) (σ:=Nat×List Pw) (fun p=>p.1≤n∧p.2++prK m i p.1 (n-p.1)=A) (fun p=>n-p.1) (fun p=>[(9,.int .i64 p.1),(7,.buf 1 0 p.2.length p.2.length)]) (fun p=>[B.map (.arr 2) (mP us),B.buf 194 3 (p.2.map dI) false]) (i+1,o) ⟨by omega,hA.symm⟩ (by simp) rfl (by simp) ?_);rintro⟨k,u⟩ ⟨hk,hy⟩ N2 Q2 hN2 hQ2;simp only at hk hy;have wk:=aP k (by omega);by_cases hbk:k<n
  ·rw[show n-k=(n-(k+1))+1 by omega,prK]at hy
   have hul:u.length<20000:=by have:=congrArg List.length hy;rw[oT,og]at this;omega
   have hiC:i<C.length:=by omega
   have hkC:k<C.length:=by omega
   have hxi:=hnn _ (oI hiC);have hxk:=hnn _ (oI hkC);obtain⟨a,ha⟩:=pU hxi;obtain⟨b,hbb⟩:=pU hxk;have ha':C[i]=(a:Int):=ha;have hb':C[k]=(b:Int):=hbb
   have hmt:m i k=decide ((a,b)∈us):=by
    rw[hm];unfold mtU;rw[show C.getD i 0=C[i] by simp[hiC],show C.getD k 0=C[k] by simp[hkC],ha',hb',qP,qP]
   have cap:=capPw u.length (by omega);by_cases hmem:(a,b)∈us
   ·rw[hmt,decide_eq_true hmem,if_pos rfl]at hy;obtain⟨j,hf,_⟩:=kf a b us 0 hmem
    have hap:u.map dI++[.agg [.int .i64 (i:Int),.int .i64 (k:Int),.int .i64 1]]=(u++[(⟨i,k,1⟩:Pw)]).map dI:=by rw[oe];rfl
    refine wx ?_;simp -dsimp[hbk,hiC,hkC,ha',hb',aQ,hf];refine .inr ⟨aS (by kernel_rfl),?_⟩;simp -dsimp[cap.1,cap.2,hap,wk];refine hN2 (k+1,u++[⟨i,k,1⟩]) _ _ ⟨by simp only;omega,by rw[←hy];simp⟩ (by simp only;omega) (by simp) ⟨[],by simp⟩ (by simp[aQ]) (hrb2 _)
   ·rw[hmt,decide_eq_false hmem,if_neg (by simp)]at hy;have hf:=jm a b us 0 hmem
    have hap:u.map dI++[.agg [.int .i64 (i:Int),.int .i64 (k:Int),.int .i64 (-1)]]=(u++[(⟨i,k,-1⟩:Pw)]).map dI:=by rw[oe];rfl
    refine wx ?_;simp -dsimp[hbk,hiC,hkC,ha',hb',aQ,hf];refine .inr ⟨aS (by kernel_rfl),?_⟩;simp -dsimp[cap.1,cap.2,hap,wk];refine hN2 (k+1,u++[⟨i,k,-1⟩]) _ _ ⟨by simp only;omega,by rw[←hy];simp⟩ (by simp only;omega) (by simp) ⟨[],by simp⟩ (by simp[aQ]) (hrb2 _)
  ·rw[show n-k=0 by omega,prK,oU]at hy;subst hy;refine wx ?_;simp -dsimp[hbk];refine hQ2 _ _ _ ?_;simp -dsimp[wi];refine hN (i+1,u) _ _ ⟨by simp only;omega,hx⟩ (by simp only;omega) (by simp[hn.symm]) ⟨[],by simp⟩ (by simp[aQ]) (hrb2 _)
 ·rw[show n-i=0 by omega,prI,oU]at hx;subst hx;refine eo 1 [7] rfl (by simp[dM]) ?_;have cg:=groups_u (B.map (.arr 2) (mP us)) (B.buf 194 3 (o.map dI) true) (fun k _=>hrbA k) (fun k _=>by simp[dI]) L false (by omega);rw[←hgs]at cg;simp only[L1]at cg;refine wx ?_;simp -dsimp[hb,hn.symm];refine hQ _ _ _ ?_;simp -dsimp[show(n:Int)≤10 by omega];refine cPx (co) (by simp) ?_;simp -dsimp[];obtain⟨A,hA⟩:∃A,A=B.map (.arr 2) (mP us):=⟨_,rfl⟩;obtain⟨B0,hB0⟩:∃B0,B0=B.buf 194 3 (o.map dI) true:=⟨_,rfl⟩
  have hAr:∀k,0<k→rbB k A:=fun k _=>by rw[hA];exact hrbA k
  have hBr:∀k,0<k→rbB k B0:=fun k _=>by rw[hB0];simp[dI]
  rw[←hA,←hB0]at cg
  have q2:∀X,(GL A B0 X)[2]?=some (.buf 26 1 (NR X.length (ow3 fun v=>(ggt X v).length)) false):=fun X=>rfl
  have rl:=fun(k:Nat) (F:Nat→V)=>dV (n:=k) (F:=F)
  have hd0:GL A B0 gs=GL A B0 (dvJ C gs 0):=by simp[dvJ]
  rw[←hA,←hB0];refine bF cg ?_;rintro r H' ⟨rfl,rfl⟩;simp -dsimp[q2,rl];refine aI (W_loopM 92 0xfffff000000000000038000 (by simp[mB]<;>rfl) (σ:=Nat) (fun j=>j≤gs.length) (fun j=>gs.length-j) (fun j=>[(72,.int .i64 j)]) (fun j=>GL A B0 (dvJ C gs j)) 0 (by omega) (by simp) hd0 (by intro j hj;rw[fH,fH,dvJ_len _ _ _ hj];omega) ?_);intro j hj N2 Q2 hN2 hQ2;have wj:=aP j (by omega);have hXl:=dvJ_len C gs j hj;by_cases hbj:j<gs.length
  ·have hat:=dvJ_at (C:=C) hbj;have hsu:=dvJ_succ (C:=C) hbj;obtain⟨hgl,hgm⟩:=hg2 _ (oI hbj);obtain⟨g,hg⟩:∃g,g=gs[j]:=⟨_,rfl⟩;rw[←hg]at hat hsu hgl hgm;obtain⟨X,hX⟩:∃X,X=dvJ C gs j:=⟨_,rfl⟩;rw[←hX]at hat hsu hXl ⊢
   have hjX:j<X.length:=by omega
   have rg:=fun(F:Nat→V) h=>kw (n:=gs.length) (F:=F) (v:=j) h
   have how:ow3 (fun v=>(ggt X v).length) j = .buf (j+3) 0 g.length g.length:=by rw[←hat];rfl
   have hgt:=GL_at (A:=A) (B0:=B0) hjX;rw[hat]at hgt;have hgcl:=bo g
   have hd1:GL A B0 X=GL A B0 (X.set j (dvA C g 0)):=by
    have:X.set j (dvA C g 0)=X:=by
     rw[show dvA C g 0=X[j] by rw[←show ggt X j=X[j] by simp[ggt,hjX],hat];simp[dvA],qQ]
    rw[this]
   refine wx ?_;simp -dsimp[hbj,q2,rl,hXl,rg,how,hjX,hgt,hgcl];refine aI (W_loopM 91 0x7ffc0000000000000030000 (by simp[mB]<;>rfl) (σ:=Nat) (fun i=>i≤g.length) (fun i=>g.length-i) (fun i=>[(78,.int .i64 i)]) (fun i=>GL A B0 (X.set j (dvA C g i))) 0 (by omega) (by simp) hd1 (by intro i hi;rw[fH,fH,pN];omega) ?_);intro i hi N3 Q3 hN3 hQ3;have wi:=aP i (by omega);have hal:=dvA_len C g i hi;have hcl:=bo (dvA C g i);rw[hal]at hcl;have hg3:=GL_at (A:=A) (B0:=B0) (X:=X.set j (dvA C g i)) (j:=j) (by rw[pN];exact hjX);rw[ggt_self hjX]at hg3;by_cases hbi:i<g.length
   ·have hza:=dvA_at (C:=C) hbi;have hds:=dvA_succ (C:=C) hbi;have hxm:=hgm _ (oI hbi);obtain⟨w,hw⟩:=pU hxm.1;have hw':g[i]=(w:Int):=hw
    have hwC:w<C.length:=by omega
    rw[hw']at hza hds;rw[qP,show C.getD w 0=C[w] by simp[hwC]]at hds
    have czg:∀h,(czL (dvA C g i))[i]'h = .int .i64 (w:Int):=fun h=>by rw[eL,hza]
    obtain⟨d,hd⟩:∃d,d=C[w]:=⟨_,rfl⟩;rw[←hd]at hds;have czs:=mD (dvA C g i) i d;rw[hds]at czs;have hst:=GL_st (A:=A) (B0:=B0) (X:=X.set j (dvA C g i)) (j:=j) (l:=dvA C g (i+1)) (by rw[pN];exact hjX) (by rw[ggt_self hjX,hal,dvA_len _ _ _ (by omega)]);rw[rV]at hst;refine wx ?_;simp -dsimp[hbi,hg3,hcl,czg,hwC,hd.symm,aQ,czs,hst,wi];refine hN3 (i+1) _ _ (by omega) (by omega) (by simp) ⟨[],by simp⟩ ?_ (GL_rb hAr hBr _);simp[fH,aQ,dI,hXl];omega
   ·obtain rfl:i=g.length:=by omega
    have he:dvA C g g.length=g.map fun x=>C.getD x.toNat 0:=by simp[dvA]
    rw[he,hsu];refine wx ?_;simp -dsimp[hbi];refine hQ3 _ _ _ ?_;simp -dsimp[wj];refine hN2 (j+1) _ _ (by omega) (by omega) (by simp) ⟨[],by simp⟩ ?_ (GL_rb hAr hBr _);simp[fH,aQ,dI]
  ·obtain rfl:j=gs.length:=by omega
   have he:dvJ C gs gs.length=gs.map fun g=>g.map fun x=>C.getD x.toNat 0:=by simp[dvJ]
   rw[he]at hXl ⊢
   obtain⟨D,hD⟩:∃D,D=gs.map fun g=>g.map fun x=>C.getD x.toNat 0:=⟨_,rfl⟩
   rw[←hD]at hXl ⊢
   have hle:(fun v=>(ggt D v).length)=fun v=>(czL (ggt D v)).length:=by funext v;rw[bo]
   have hGL:GL A B0 D=A::B0::NH 26 D.length (ow3 fun v=>(czL (ggt D v)).length) (fun v=>.buf 3 1 (czL (ggt D v)) false) []:=by unfold GL;rw[hle];rfl
   rw[hGL];refine W_frzGL (fun v=>czL (ggt D v)) ?_;refine eo 2 [13] (e:=26) (z:=1) (xs:=NR D.length fun v=>.lst 1 false (czL (ggt D v))) (fz:=false) rfl (by simp[dM,dV,hXl]) ?_
   have hNR:(NR D.length fun v=>V.lst 1 false (czL (ggt D v)))=D.map (L1 false):=by
    refine pw (by simp[NR]) (fun k h1 h2=>?_)
    have hk:k<D.length:=by simpa using h2
    simp[NR,ggt,hk,L1,czL]
   rw[hNR];refine wx ?_;simp -dsimp[hbj];refine hQ2 _ _ _ ?_;simp -dsimp[];simp[LLz,hD]
theorem lvQ_ok{n:Nat} : ∀{qs:List (List Sim)},lvQ n qs=0→∀q∈qs,q.length≤6
 | [],_=>by simp
 | q::qs,h=>by
  rw[lvQ]at h;split at h
  ·cases h
  ·rename_i h1;split at h
   ·intro p hp
    rcases List.mem_cons.1 hp with rfl | hp
    ·omega
    ·exact lvQ_ok h p hp
   ·rename_i h2;exact absurd h h2
structure LimOk (t:Tb) (L:Lnk):Prop where
 v:aG t=0
 rl:L.rules.length≤8
 ql:∀q∈L.rules,q.length≤6
 bl:∀k∈L.block,0≤k∧k<(t.attrs.length:Int)
 sl:L.surv.length=t.attrs.length
 sv:∀s∈L.surv,iU s=true
theorem lim_ok{t:Tb}{L:Lnk}(h:fD t L=0):LimOk t L:=by
 unfold fD at h;split at h
 ·rename_i h1;exact absurd h h1
 rename_i h1;split at h
 ·rename_i h2;exact absurd h h2
 rename_i h2;have h1:=Decidable.not_not.1 h1;have h2:=Decidable.not_not.1 h2;unfold lvE at h2;split at h2
 ·cases h2
 split at h2
 ·cases h2
 rename_i h3;split at h2
 ·rename_i h4;exact absurd h2 h4
 rename_i h4;split at h2
 ·cases h2
 rename_i h5;split at h2
 ·cases h2
 split at h2
 ·cases h2
 rename_i h7;split at h2
 ·cases h2
 rename_i h8;have h4:=Decidable.not_not.1 h4;refine⟨h1,by omega,lvQ_ok h4,fun k hk=>?_,by omega,fun s hs=>?_⟩
 ·have h9:=List.any_eq_false.1 (Bool.not_eq_true _▸h5) k hk;simp[outZ]at h9;omega
 ·have h9:=List.any_eq_false.1 (Bool.not_eq_true _▸h8) s hs;simp[svZ]at h9;simp[iU];omega
def addP(us:List (Nat×Nat))(p:Nat×Nat):List (Nat×Nat):=if p∈us then us else us++[p]
def usF(M:List (Nat×Nat)):List (Nat×Nat):=M.foldl addP []
theorem usF_succ{M:List (Nat×Nat)}{i:Nat}(h:i<M.length):usF (M.take (i+1))=addP (usF (M.take i)) M[i]:=by
 unfold usF;rw[oN h,rW];rfl
def idG(t:Tb)(g:List Int):List Int:=g.map fun x=>(t.rows.getD x.toNat ⟨0,[]⟩).id
def mtF(t:Tb)(L:Lnk):List (Nat×Nat):=mtI L 0 t.rows
def dvL(cs:List (List Int))(us:List (Nat×Nat)):List (List Int):=cs.flatMap fun c=>dvF c us
def ccF(t:Tb)(L:Lnk):List (List Int):=(dvL (cpV t.rows.length (mtF t L)) (usF (mtF t L))).map (idG t)
def clF(t:Tb)(L:Lnk):List (List Int):=if fD t L=0 then aw (ccF t L) else []
theorem mtJ_in(L:Lnk)(x:Rw)(i:Nat):∀(ys:List Rw) (j:Nat),∀p∈mtJ L x i j ys,p.1=i∧p.2<j+ys.length
 | [],_=>by simp[mtJ]
 | y::ys,j=>fun p hp=>by
  have ih:=mtJ_in L x i ys (j+1);rw[mtJ]at hp;split at hp
  ·rcases List.mem_cons.1 hp with rfl | hp
   ·exact⟨rfl,by simp⟩
   ·obtain⟨h1,h2⟩:=ih p hp;exact⟨h1,by simp;omega⟩
  ·obtain⟨h1,h2⟩:=ih p hp;exact⟨h1,by simp;omega⟩
theorem mtI_in(L:Lnk):∀(xs:List Rw) (i:Nat),∀p∈mtI L i xs,p.1<i+xs.length∧p.2<i+xs.length
 | [],_=>by simp[mtI]
 | x::xs,i=>fun p hp=>by
  rw[mtI]at hp
  rcases List.mem_append.1 hp with hp | hp
  ·obtain⟨h1,h2⟩:=mtJ_in L x i xs (i+1) p hp;exact⟨by simp;omega,by simp;omega⟩
  ·obtain⟨h1,h2⟩:=mtI_in L xs (i+1) p hp;exact⟨by simp;omega,by simp;omega⟩
theorem visF_ge(R:List (List Int)):∀(f i:Nat) (o:List Int),o.length≤(mN R f i o).length
 | 0,_,o=>oJ _
 | f+1,i,o=>by
  rw[mN];split
  ·exact pY (vsJ_ge _ _) (visF_ge R f (i+1) _)
  ·exact oJ _
theorem visV_pos(R:List (List Int))(v:Nat):0<(visV R v).length:=by
 have:=visF_ge R R.length 0 [(v:Int)];unfold visV;rw[gc];simp at this;omega
theorem cpF_pos(R:List (List Int)):∀(vs:List Nat) (o:List (List Int)),(∀l∈o,0<l.length)→∀l∈cpF R vs o,0<l.length
 | [],o,h=>h
 | v::vs,o,h=>by
  rw[cpF];split
  ·exact cpF_pos R vs o h
  ·refine cpF_pos R vs _ (fun l hl=>?_)
   rcases List.mem_append.1 hl with hl | hl
   ·exact h l hl
   ·rw[pM]at hl;subst hl;exact visV_pos R v
theorem cpV_ok{n:Nat}{es:List (Nat×Nat)}(hn:n≤10)(hl:es.length≤20000)(h:∀p∈es,p.1<n∧p.2<n):(cpV n es).length≤n∧∀c∈cpV n es,CmOk c∧∀x∈c,x<(n:Int):=by
 have hR:=nbL_ok (n:=n) (es:=es++es.map swP) (by omega) (by simp;omega) (fun p hp=>by
  rcases List.mem_append.1 hp with hp | hp
  ·exact(h p hp).2
  ·obtain⟨q,hq,rfl⟩:=List.mem_map.1 hp
   exact(h q hq).1)
 obtain⟨h1,h2⟩:=cpF_ok hR (vs:=oM n) (o:=[]) (fun v hv=>List.mem_range.1 hv) (by simp);have h3:=cpF_pos (nbL n (es++es.map swP)) (oM n) [] (by simp);refine⟨by unfold cpV;simpa using h2,fun c hc=>?_⟩;have h4:=h1 c hc;have h5:=h4.len;exact⟨⟨h3 c hc,by omega,fun x hx=>(h4.lt x hx).1⟩,fun x hx=>(h4.lt x hx).2⟩
theorem dvF_ok{c:List Int}{us:List (Nat×Nat)}{n:Nat}(h:CmOk c)(hx:∀x∈c,x<(n:Int)):(dvF c us).length≤c.length∧∀g∈dvF c us,g.length≤c.length∧∀x∈g,0≤x∧x<(n:Int):=by
 obtain⟨h1,h2⟩:=dvG_ok (C:=c) (us:=us);unfold dvF;refine⟨by rw[oW];exact h1,fun g hg=>?_⟩;obtain⟨q,hq,rfl⟩:=List.mem_map.1 hg;obtain⟨h3,h4⟩:=h2 q hq;refine⟨by rw[oW];exact h3,fun x hx2=>?_⟩;obtain⟨y,hy,rfl⟩:=List.mem_map.1 hx2;have h5:=h4 y hy
 have h6:y.toNat<c.length:=by omega
 rw[show c.getD y.toNat 0=c[y.toNat] by simp[h6]];exact⟨h.nn _ (oI h6),hx _ (oI h6)⟩
theorem mP_pures(us:List (Nat×Nat)):∀p∈mP us,AM.Pure p.1∧AM.Pure p.2:=fun p hp=>by
 obtain⟨q,_,rfl⟩:=List.mem_map.1 hp;exact⟨by simp[dp],by simp⟩
theorem divide_l{H:List B}{k:Nat}(C:List Int)(us:List (Nat×Nat))(f:Bool)(h:CmOk C)(hk:H[k]?=some (.map (.arr 2) (mP us))):aU Tryz.prog 46 [L1 f C,.map k] H fun r H'=>r = .tup [LLz false (dvF C us),.int .i64 0]∧H'=H:=by
 have h0:=cut1P (divide_h C us f h) (oJ _) (by simp) (fun bl hbl=>by
  rw[pM]at hbl;subst hbl;exact(rbB_mP _ _ _).2 trivial)
 refine eT 1 1 (fun _=>k) h0 rfl rfl (oJ _) (fun i j hi hj _=>by omega) (fun i _=>aB hk) (fun i h1 h2=>by omega) (fun i b hb=>?_) (fun i b hb=>?_) rfl (fun j _ _=>rfl) rfl (fun i a b ha hb=>?_) (by simp)
 ·match i with
  | 0=>simp at hb;subst hb;exact⟨_,hk,.map _ _ (mP_pures us)⟩
  | i+1=>simp at hb
 ·match i with
  | 0=>simp at hb;subst hb;exact⟨_,hk,.map _ _ (mP_pures us)⟩
  | i+1=>simp at hb
 ·match i with
  | 0=>simp at ha hb;subst ha;subst hb;exact .pure _ (L1_pure _ _)
  | 1=>simp at ha hb;subst ha;subst hb;exact .map 0 (by omega)
  | i+2=>simp at ha
theorem dvL_succ(cs:List (List Int))(us:List (Nat×Nat))(a:Nat)(h:a<cs.length):dvL (cs.drop a) us=dvF cs[a] us++dvL (cs.drop (a+1)) us:=by
 unfold dvL;rw[oK h,qh]
theorem exp_tp2{H:List B}{a b c d:V}(h1:ExpX H a c)(h2:ExpX H b d):ExpX H (.tup [a,b]) (.tup [c,d]):=exp_t2 h1 h2
theorem LL_rb(n e:Nat)(o:List (List Int))(fz:Bool):rbB n (.buf e 1 (o.map (L1 false)) fz):=(rbB_buf1 (by intro x hx;obtain⟨y,_,rfl⟩:=List.mem_map.1 hx;exact⟨L1_pure _ _,rfl⟩)).2 trivial
theorem dvL_len{us:List (Nat×Nat)} : ∀{cs:List (List Int)},(∀c∈cs,CmOk c)→(dvL cs us).length≤10*cs.length
 | [],_=>by simp[dvL]
 | c::cs,h=>by
  have h1:=dvL_len (us:=us) (cs:=cs) (fun x hx=>h x (ow _ hx));have h2:=(dvG_ok (C:=c) (us:=us)).1;have h3:=(h c (ou ..)).n1;unfold dvL at h1 ⊢;rw[qh,oT,og]
  have h4:(dvF c us).length=(dvG c us).length:=by unfold dvF;rw[oW]
  omega
theorem clusters_u(t:Tb)(f g:Bool)(L:Lnk)(hbl:L.block.length≤1100000)(hn:t.rows.length≤6)(hV:aJ Tryz.prog 31 [aD f g t] fun r=>r = .int .i64 (aG t)):
  aJ Tryz.prog 20 [aD f g t,aV L] fun r=>r = .tup [LLz false (clF t L),.int .i64 (fD t L)]:=by
 have c1:=limits_u t f g L hbl hV;have htb:B.cells [.str t.name,.lst 1 f (t.attrs.map V.str),.lst 2 g (t.rows.map aC)]=B.cells [.str t.name,.lst 1 f (t.attrs.map V.str),.lst 2 g (t.rows.map aC)]:=rfl;by_cases hz:fD t L=0
 case neg =>
  have hc:clF t L=[]:=by unfold clF;rw[if_neg hz]
  rw[hc];obtain⟨e,he⟩:∃e,e=fD t L:=⟨_,rfl⟩;rw[←he]at c1 hz ⊢
  refine conP_res (v:=.tup [.nilS,.int .i64 e]) ?_ (.tup _ _ rfl fun i x y hx hy=>by
   match i with
   | 0=>simp at hx hy;subst hx;subst hy;exact .nil _ _
   | 1=>simp at hx hy;subst hx;subst hy;exact .refl _
   | i+2=>simp at hx) (by simp)
  simp only[aD,aV,LS,LR,LQm,L1]at c1;refine sPx Tryz.func20 rfl rfl ?_;simp -dsimp[Tryz.f20,oE,aD,aV,LS,LR,LQm,L1];refine cPx (c1) (by simp) ?_;simp -dsimp[hz]
 case pos =>
 have ok:=lim_ok hz;have htc:=tbC ok.v
 have hcl:clF t L=aw (ccF t L):=by unfold clF;rw[if_pos hz]
 have hMin:=mtI_in L t.rows 0;have hMl:=lm L t.rows 0
 have c2:=matches_u t f g L (by omega) hbl (by have:=ok.rl;omega) (fun q hq=>by have:=ok.ql q hq;omega) (fun x hx y hy k hk=>by
  obtain⟨h1,h2⟩:=ok.bl k hk
  exact⟨h1,by rw[htc.len x hx];exact h2,by rw[htc.len y hy];exact h2⟩)
 rw[hcl];have hcc:ccF t L=(dvL (cpV t.rows.length (mtI L 0 t.rows)) (usF (mtI L 0 t.rows))).map (idG t):=rfl;rw[hz]at c1 ⊢;obtain⟨M,hM⟩:∃M,M=mtI L 0 t.rows:=⟨_,rfl⟩;obtain⟨n,hnn⟩:∃n,n=t.rows.length:=⟨_,rfl⟩;rw[←hM,←hnn]at hcc;rw[←hM]at hMin hMl c2;rw[←hnn]at hMl
 have hM36:M.length≤36:=by
  have:n*n≤6*6:=qy (by omega) (by omega);omega
 have hMv:∀p∈M,p.1<n∧p.2<n:=fun p hp=>by have:=hMin p hp;omega
 have c3:=components_u n M (by omega) (by omega) hMv;obtain⟨hK1,hK2⟩:=cpV_ok (n:=n) (es:=M) (by omega) (by omega) hMv;obtain⟨K,hK⟩:∃K,K=cpV n M:=⟨_,rfl⟩;rw[←hK]at c3 hK1 hK2 hcc;obtain⟨us,hus⟩:∃us,us=usF M:=⟨_,rfl⟩;rw[←hus]at hcc;obtain⟨CC,hCC⟩:∃CC,CC=ccF t L:=⟨_,rfl⟩;rw[←hCC]at hcc ⊢;have hpl:=dW M;obtain⟨tb,htbe⟩:∃tb,tb=B.cells [.str t.name,.lst 1 f (t.attrs.map V.str),.lst 2 g (t.rows.map aC)]:=⟨_,rfl⟩;obtain⟨lk,hlke⟩:∃lk,lk=B.cells [.lst 1 false (L.rules.map (LSm false)),.lst 1 false (L.block.map aQ),.lst 1 false (L.surv.map aQ)]:=⟨_,rfl⟩
 have htr:∀k,rbB k tb:=fun k=>by rw[htbe];simp
 have hlr:∀k,rbB k lk:=fun k=>by
  rw[hlke];intro c hc;simp only[oR,oO,or_false]at hc
  rcases hc with rfl | rfl | rfl
  ·intro x hx;obtain⟨q,_,rfl⟩:=List.mem_map.1 hx;exact LSm_pure _ _
  ·intro x hx;obtain⟨q,_,rfl⟩:=List.mem_map.1 hx;simp[aQ]
  ·intro x hx;obtain⟨q,_,rfl⟩:=List.mem_map.1 hx;simp[aQ]
 simp only[aD,aV,LS,LR,LQm,L1]at c1 c2;simp only[LLz]at c3;refine au (aE tok Tryz.func20 rfl rfl ?_);refine wx ?_;simp -dsimp[Tryz.f20,oE,aD,aV,LS,LR,LQm,L1];refine cPx (c1) (by simp) ?_;simp -dsimp[];refine cPx (c2) (by simp) ?_;simp -dsimp[hpl];rw[←htbe,←hlke];refine aI (W_loopM 42 0x3f800000400 (by simp[mB]<;>rfl) (σ:=Nat) (fun i=>i≤M.length) (fun i=>M.length-i) (fun i=>[(35,.int .i64 i)]) (fun i=>[tb,lk,B.map (.arr 2) (mP (usF (M.take i)))]) 0 (by omega) (by simp) (by simp[mP,usF]) (by simp) ?_);intro i hi N Q hN hQ;have wi:=aP i (by omega)
 have hrb3:∀us:List (Nat×Nat),∀bl∈[tb,lk,B.map (.arr 2) (mP us)],rbB 3 bl:=fun us bl hbl=>by
  simp only[oR,oO,or_false]at hbl
  rcases hbl with rfl | rfl | rfl
  ·exact htr _
  ·exact hlr _
  ·exact(rbB_mP _ _ _).2 trivial
 by_cases hb:i<M.length
 ·have hsu:=usF_succ hb;obtain⟨p,hp⟩:∃p,p=M[i]:=⟨_,rfl⟩
  have hg:∀h,(prM M)[i]'h = .agg [.int .i64 p.1,.int .i64 p.2]:=fun h=>by simp[prM,dp,hp]
  rw[←hp]at hsu;obtain⟨a,b⟩:=p;simp only at hg;obtain⟨u,hu⟩:∃u,u=usF (M.take i):=⟨_,rfl⟩;rw[←hu]at hsu ⊢;by_cases hm:(a,b)∈u
  ·have hsu2:usF (M.take (i+1))=u:=by rw[hsu];unfold addP;rw[if_pos hm]
   obtain⟨j,hf,hj⟩:=kf a b u 0 hm;have hst:=set_mP hj;rw[pI]at hf;refine wx ?_;simp -dsimp[hb,hpl,hg,hf,hst,wi];refine hN (i+1) _ _ (by omega) (by omega) (by simp) ⟨[_],by rw[hsu2];rfl⟩ (by simp[aQ]) (hrb3 _)
  ·have hsu2:usF (M.take (i+1))=u++[(a,b)]:=by rw[hsu];unfold addP;rw[if_neg hm]
   have hf:=jm a b u 0 hm;have hst:=mP_snoc u a b;refine wx ?_;simp -dsimp[hb,hpl,hg,hf,hst,wi];refine hN (i+1) _ _ (by omega) (by omega) (by simp) ⟨[_],by rw[hsu2];rfl⟩ (by simp[aQ]) (hrb3 _)
 ·obtain rfl:i=M.length:=by omega
  rw[oY,←hus];refine wx ?_;simp -dsimp[hb,hpl];refine hQ _ _ _ ?_;simp -dsimp[htbe,hnn.symm];refine cPx (c3) (by simp) ?_;simp -dsimp[]
  have hCl:CC.length≤60:=by
   have h1:=dvL_len (us:=us) (fun c hc=>(hK2 c hc).1);rw[hcc,oW];omega
  have hCCl:∀l∈CC,l.length≤10:=fun l hl=>by
   rw[hcc]at hl;obtain⟨g,hg,rfl⟩:=List.mem_map.1 hl;obtain⟨c,hc,hg⟩:=List.mem_flatMap.1 hg;obtain⟨h1,h2⟩:=hK2 c hc;have h3:=((dvF_ok (us:=us) h1 h2).2 g hg).1;have h4:=h1.n1;unfold idG;rw[oW];omega
  rw[←htbe];obtain⟨mp,hmp⟩:∃mp,mp=B.map (.arr 2) (mP us):=⟨_,rfl⟩
  have hmr:∀k,rbB k mp:=fun k=>by rw[hmp];exact(rbB_mP _ _ _).2 trivial
  rw[←hmp]
  have hrb4:∀o:List (List Int),∀bl∈[tb,lk,mp,B.buf 106 1 (o.map (L1 false)) false],rbB 4 bl:=fun o bl hbl=>by
   simp only[oR,oO,or_false]at hbl
   rcases hbl with rfl | rfl | rfl | rfl
   ·exact htr _
   ·exact hlr _
   ·exact hmr _
   ·exact LL_rb _ _ _ _
  have hrb5:∀(o:List (List Int)) (x:List Int),∀bl∈[tb,lk,mp,B.buf 106 1 (o.map (L1 false)) false,B.buf 2 1 (x.map aQ) false],rbB 5 bl:=fun o x bl hbl=>by
   simp only[oR,oO,or_false]at hbl
   rcases hbl with rfl | rfl | rfl | rfl | rfl
   ·exact htr _
   ·exact hlr _
   ·exact hmr _
   ·exact LL_rb _ _ _ _
   ·simp[aQ]
  refine aI (eI 106 1 [13] (by simp) (W_loopM 96 0xffffffffff800000005ba030 (by simp[mB]<;>rfl) (σ:=Nat×List (List Int)) (fun p=>p.1≤K.length∧p.2++(dvL (K.drop p.1) us).map (idG t)=CC) (fun p=>K.length-p.1) (fun p=>[(55,.int .i64 p.1),(13,.buf 3 0 p.2.length p.2.length)]) (fun p=>[tb,lk,mp,B.buf 106 1 (p.2.map (L1 false)) false]) (0,[]) ⟨by simp,by rw[pC,hcc];rfl⟩ (by simp) (by simp) (by simp) ?_));rintro⟨a,o⟩ ⟨ha,hx⟩ N2 Q2 hN2 hQ2;simp only at ha hx;have wa:=aP a (by omega);by_cases hba:a<K.length
  ·rw[dvL_succ K us a hba,oe,←oh]at hx;obtain⟨hc1,hc2⟩:=hK2 _ (oI hba);obtain⟨c,hc⟩:∃c,c=K[a]:=⟨_,rfl⟩;rw[←hc]at hx hc1 hc2;obtain⟨hd1,hd2⟩:=dvF_ok (us:=us) hc1 hc2;have cd:=divide_l (H:=[tb,lk,mp,B.buf 106 1 (o.map (L1 false)) false]) (k:=2) c us false hc1 (by rw[hmp];rfl);obtain⟨D,hD⟩:∃D,D=dvF c us:=⟨_,rfl⟩;rw[←hD]at hx hd1 hd2 cd;obtain⟨A,hA⟩:∃A,A=o++D.map (idG t):=⟨_,rfl⟩;rw[←hA]at hx
   have hAl:A.length≤60:=by have:=congrArg List.length hx;rw[oT]at this;omega
   have hD10:=hc1.n1;simp only[LLz,L1]at cd;refine wx ?_;simp -dsimp[hba,hc.symm,L1];refine bF cd ?_;rintro r H' ⟨rfl,rfl⟩;simp -dsimp[];refine aI (W_loopM 95 0x7fffffc00000000000582000 (by simp[mB]<;>rfl) (σ:=Nat×List (List Int)) (fun p=>p.1≤D.length∧p.2++(D.drop p.1).map (idG t)=A) (fun p=>D.length-p.1) (fun p=>[(70,.int .i64 p.1),(13,.buf 3 0 p.2.length p.2.length)]) (fun p=>[tb,lk,mp,B.buf 106 1 (p.2.map (L1 false)) false]) (0,o) ⟨by simp,by rw[pC];exact hA.symm⟩ (by simp) rfl (by simp) ?_);rintro⟨j,u⟩ ⟨hj,hy⟩ N3 Q3 hN3 hQ3;simp only at hj hy;have wj:=aP j (by omega);by_cases hbj:j<D.length
   ·rw[oK hbj,oq]at hy;obtain⟨hg1,hg2⟩:=hd2 _ (oI hbj);obtain⟨gg,hgg⟩:∃gg,gg=D[j]:=⟨_,rfl⟩;rw[←hgg]at hy hg1 hg2
    have hul:u.length<60:=by have:=congrArg List.length hy;rw[oT,og]at this;omega
    refine wx ?_;simp -dsimp[hbj,hgg.symm,L1];refine aI (eI 2 1 [20] (by simp) (W_loopM 90 0x3fff0000000000000500000 (by simp[mB]<;>rfl) (σ:=Nat) (fun q=>q≤gg.length) (fun q=>gg.length-q) (fun q=>[(76,.int .i64 q),(20,.buf 4 0 q q)]) (fun q=>[tb,lk,mp,B.buf 106 1 (u.map (L1 false)) false,B.buf 2 1 ((idG t (gg.take q)).map aQ) false]) 0 (by omega) (by simp) (by simp[idG]) (by simp) ?_));intro q hq N4 Q4 hN4 hQ4;have wq:=aP q (by omega)
    have hil:(idG t (gg.take q)).length=q:=by simp[idG];omega
    by_cases hbq:q<gg.length
    ·have hlt:=hg2 _ (oI hbq);obtain⟨w,hw⟩:=pU hlt.1;have hw':gg[q]=(w:Int):=hw
     have hwn:w<t.rows.length:=by omega
     have hsu:idG t (gg.take (q+1))=idG t (gg.take q)++[t.rows[w].id]:=by
      unfold idG;rw[oN hbq,oe,oq,hw',qP];simp[hwn]
     obtain⟨r,hr⟩:∃r,r=t.rows[w]:=⟨_,rfl⟩;rw[←hr]at hsu;obtain⟨ids,hids⟩:∃ids,ids=idG t (gg.take q):=⟨_,rfl⟩;rw[←hids]at hsu hil ⊢;have cap:=capI8z q (by omega);refine wx ?_;simp -dsimp[hbq,hw',aQ,htbe,hwn,hr.symm,aC,LV,hil,cap.1,cap.2,wq];refine hN4 (q+1) _ _ (by omega) (by omega) (by simp) ⟨[],by rw[hsu,htbe];simp[aQ]⟩ (by simp[aQ]) (hrb5 _ _)
    ·obtain rfl:q=gg.length:=by omega
     rw[oY];rw[oY]at hil;refine eo 4 [20] rfl (by simp[dM,hil]) ?_;have cap:=nu u.length (by omega);refine wx ?_;simp -dsimp[hbq];refine hQ4 _ _ _ ?_;simp -dsimp[cap,wj];refine hN3 (j+1,u++[idG t gg]) _ _ ⟨by simp only;omega,by rw[←hy];simp⟩ (by simp only;omega) (by simp) ⟨[B.buf 2 1 ((idG t gg).map aQ) true],by simp[L1]⟩ (by simp[aQ]) (hrb4 _)
   ·rw[oV (by omega),pJ,oU]at hy;subst hy;refine wx ?_;simp -dsimp[hbj];refine hQ3 _ _ _ ?_;simp -dsimp[wa];refine hN2 (a+1,u) _ _ ⟨by simp only;omega,hx⟩ (by simp only;omega) (by simp) ⟨[],by simp⟩ (by simp[L1,aQ]) (hrb4 _)
  ·rw[oV (by omega)]at hx;simp only[dvL,List.flatMap_nil,pJ,oU]at hx;subst hx;have cs:=sortLi_u (H:=[tb,lk,mp,B.buf 106 1 (o.map (L1 false)) false]) (k:=3) (e:=106) (f:=false) o o.length rfl (by simp) (by omega) (fun l hl=>by have:=hCCl l hl;omega);simp only[LBi,pG,oz]at cs;refine wx ?_;simp -dsimp[hba];refine hQ2 _ _ _ ?_;simp -dsimp[];refine bF cs ?_;rintro r H' ⟨rfl,rfl⟩;simp -dsimp[]
   have hp:∀x∈(aw o).map (L1 false),AM.Pure x:=fun x hx=>by obtain⟨y,_,rfl⟩:=List.mem_map.1 hx;exact L1_pure _ _
   exact exp_tp2 (kg (by rw[oW,dP]) rfl hp) (.pure _ (.int _ _))
end
end Go.Proofs.YtdnhplencamncaaGreatDoor
