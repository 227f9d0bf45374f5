/- JX33: own texts of this seat, joined and shortened by pack4.py: SB3, SB6, SB7, SB8, SB9, SB10, SB11, SC1, SC2, SC4, SC5. -/
import Derived.Test.YtjogkbekekdkjaaGreatDoorJX25
import Derived.Test.YtjogkbekekdkjaaGreatDoorJX32
set_option linter.unusedVariables false
set_option linter.unusedSimpArgs false
set_option maxRecDepth 100000
set_option maxHeartbeats 64000000
open Bool renaming and_eq_true→rX,true_and→re,false_eq_true→rn,not_eq_true'→sL,or_eq_true→sV,eq_iff_iff→sb,not_eq_true→sg
open List renaming replicate→rO,getElem_mem→rQ,drop_of_length_le→rR,not_mem_nil→rS,mem_cons→rU,take_succ_eq_append_getElem→rV,range→rh,append_nil→rj,take_of_length_le→rt,nil_append→rx,length_filter_le→rz,mem_singleton→sC,mem_cons_self→sE,mem_cons_of_mem→sG,all_eq_true→sH,take_length→sJ,length_map→sK,cons_append→sP,map_append→sX,range_succ→si,getElem?_replicate→tE,getD→tO,filter_append→tW,mem_filter→tX,map_take→tj,take→uH,map_set→uM,any_eq_true→uO,pairwise_map→uV,mem_map→uZ,length_range→uj,any_eq_false→un,map_map→vE,drop→vI
open Nat renaming le_refl→rd,le_trans→sF,pow_le_pow_right→sd,zero_add→tU,testBit_lt_two_pow→te,add_zero→tm,lt_trichotomy→uG,pow_succ→vF,add_comm→vR
namespace Go.Proofs.YtjogkbekekdkjaaGreatDoor
section
open Go Go.AM
def dT(I:List Int)(T:Nat→Bool):List Int:=((rh I.length).filter T).map fun v=>I.getD v 0
def tD(I D:List Int):Nat→Bool:=fun v=>bj D (I.getD v 0)
theorem kU{I:List Int}{v:Nat}(h:v<I.length):I.getD v 0=I[v]:=by simp[tO,h]
theorem dT_mem{I:List Int}{T:Nat→Bool}{a:Int} : a∈dT I T↔∃(v:Nat) (h:v<I.length),T v=true∧I[v]=a:=by
 unfold dT;rw[uZ];constructor
 ·rintro⟨v,hv,rfl⟩;obtain⟨h1,h2⟩:=List.mem_filter.1 hv;have h3:=List.mem_range.1 h1;exact⟨v,h3,h2,(kU h3).symm⟩
 ·rintro⟨v,h,h2,rfl⟩;exact⟨v,List.mem_filter.2 ⟨List.mem_range.2 h,h2⟩,kU h⟩
theorem dT_at{I:List Int}(hI:I.Pairwise (· < ·)){T:Nat→Bool}{v:Nat}(h:v<I.length):bj (dT I T) I[v]=T v:=by
 rw[sb,bI,dT_mem];constructor
 ·rintro⟨u,hu,h1,h2⟩;have hp:=List.pairwise_iff_getElem.1 hI
  rcases uG u v with q | q | q
  ·have:=hp u v hu h q;omega
  ·rw[←q];exact h1
  ·have:=hp v u h hu q;omega
 ·exact fun h1=>⟨v,h,h1,rfl⟩
theorem dT_asc{I:List Int}(hI:I.Pairwise (· < ·))(T:Nat→Bool):(dT I T).Pairwise (· < ·):=by
 unfold dT;rw[uV];have h1:((rh I.length).filter T).Pairwise (· < ·):=List.pairwise_lt_range.filter _;refine List.Pairwise.imp_of_mem ?_ h1;intro a b ha hb hab;have h2:=List.mem_range.1 (List.mem_filter.1 ha).1;have h3:=List.mem_range.1 (List.mem_filter.1 hb).1;rw[kU h2,kU h3];exact List.pairwise_iff_getElem.1 hI a b h2 h3 hab
theorem wI_snoc:∀(I ws:List Int) (a w:Int) (D:List Int),I.length=ws.length→wI (I++[a]) (ws++[w]) D=wI I ws D+if bj D a=true then w else 0
 | [],[],a,w,D,_=>by simp[wI]
 | b::I,v::ws,a,w,D,h=>by
  rw[sP,sP,wI,wI,wI_snoc I ws a w D (by simpa using h)];omega
 | [],_::_,_,_,_,h=>by simp at h
 | _::_,[],_,_,_,h=>by simp at h
theorem kE{I ws:List Int}(hl:ws.length=I.length){T:Nat→Bool}{D:List Int}(hT:∀(v:Nat) (h:v<I.length),bj D I[v]=T v):cz ws T I.length=wI I ws D:=by
 have key:∀k,k≤I.length→cz ws T k=wI (I.take k) (ws.take k) D:=by
  intro k
  induction k with
  | zero=>intro _;simp[cz,wI]
  | succ k ih =>
   intro hk;rw[cz,ih (by omega),rV (show k<I.length by omega),rV (show k<ws.length by omega),wI_snoc _ _ _ _ _ (by simp;omega),hT k (by omega),kU (show k<ws.length by omega)]
 have:=key I.length (rd _)
 rwa [sJ,←hl,sJ,hl]at this
theorem mT{I:List Int}{E:List (List Int)}(h:Hyp I E){T:Nat→Bool}{D:List Int}(hT:∀(v:Nat) (h:v<I.length),bj D I[v]=T v):(∀e∈E.map (ixE I),∃v∈e,T v=true)↔eA E D=true:=by
 have ha:=(dr I).2 h.va;rw[qD];constructor
 ·intro hh e he;obtain⟨v,hv,ht⟩:=hh (ixE I e) (List.mem_map.2 ⟨e,he,rfl⟩);obtain⟨a,hA,rfl⟩:=List.mem_map.1 hv;obtain⟨q1,q2⟩:=gZ ha (h.sub e he a hA);refine⟨a,hA,?_⟩;rw[←hT _ q1,bI,q2]at ht;exact ht
 ·intro hh e he;obtain⟨x,hx,rfl⟩:=List.mem_map.1 he;obtain⟨a,hA,hD⟩:=hh x hx;obtain⟨q1,q2⟩:=gZ ha (h.sub x hx a hA);refine⟨bsP I a,List.mem_map.2 ⟨a,hA,rfl⟩,?_⟩;rw[←hT _ q1,bI,q2];exact hD
theorem tD_at{I D:List Int}(v:Nat)(h:v<I.length):bj D I[v]=tD I D v:=by unfold tD;rw[kU h]
theorem minI_of{I ws:List Int}{E:List (List Int)}(h:Hyp I E)(hl:ws.length=I.length){T:Nat→Bool}(hT:MinOk I.length ws (E.map (ixE I)) T):MinI I ws E (cz ws T I.length) where
 at_:=⟨dT I T,(mT h fun v hv=>dT_at h.va hv).1 hT.h,(kE hl fun v hv=>dT_at h.va hv).symm⟩
 le D hD:=by
  have:=hT.m (tD I D) ((mT h fun v hv=>tD_at v hv).2 hD)
  rwa [kE (T:=tD I D) hl fun v hv=>tD_at v hv]at this
theorem min_minimal{I ws:List Int}{E:List (List Int)}(h:Hyp I E)(hl:ws.length=I.length)(hp:∀w∈ws,1≤w){T:Nat→Bool}(hT:MinOk I.length ws (E.map (ixE I)) T){a:Int}(ha:a∈dT I T):eA E ((dT I T).filter fun x=>!decide (x=a))=false:=by
 rw[←sg];intro hh;have hm:=(minI_of h hl hT).le _ hh;rw[kE hl fun v hv=>dT_at h.va hv]at hm;obtain⟨v,hv,h1,rfl⟩:=dT_mem.1 ha
 have hv':v<ws.length:=by omega
 rw[lY I ws _ v hv hv',lY I ws ((dT I T).filter _) v hv hv',if_pos (bI.2 ha),if_neg (by rw[bI,tX];simp)]at hm
 have hc:wI (I.eraseIdx v) (ws.eraseIdx v) ((dT I T).filter fun x=>!decide (x=I[v]))=wI (I.eraseIdx v) (ws.eraseIdx v) (dT I T):=wI_congr _ _ fun b hb=>by
  rw[List.mem_eraseIdx_iff_getElem]at hb;obtain⟨j,hj,hjv,rfl⟩:=hb;rw[tX];refine⟨fun q=>q.1,fun q=>⟨q,?_⟩⟩;have hpw:=List.pairwise_iff_getElem.1 h.va
  have hne:I[j]≠I[v]:=fun e=>by
   rcases uG j v with q | q | q
   ·have:=hpw j v hj hv q;omega
   ·exact hjv q
   ·have:=hpw v j hv hj q;omega
  simpa using hne
 have:=hp _ (rQ hv');rw[hc]at hm;omega
def mA(m:List Nat)(T:Nat→Bool)(f:Nat→Int):Nat→Int
 | 0=>0
 | n+1=>mA m T f n+if T n=true∧m.getD n 0=0 then f n else 0
theorem phiF_add{m:List Nat}{T:Nat→Bool}{f g:Nat→Int}{a:Int} : ∀n,(∀v<n,f v≤g v)→mA m T f n≤mA m T g n∧((∃u<n,T u=true∧m.getD u 0=0∧f u+a≤g u)→mA m T f n+a≤mA m T g n)
 | 0,_=>⟨by simp[mA],by rintro⟨u,h,_⟩;omega⟩
 | n+1,h=>by
  obtain⟨i1,i2⟩:=phiF_add (m:=m) (T:=T) (a:=a) n fun v hv=>h v (by omega)
  have hn:=h n (by omega);rw[mA,mA];refine⟨by split<;>omega,?_⟩;rintro⟨u,hu,h1,h2,h3⟩;by_cases e:u=n
  ·subst e;rw[if_pos ⟨h1,h2⟩,if_pos ⟨h1,h2⟩];omega
  ·have:=i2 ⟨u,by omega,h1,h2,h3⟩;split<;>omega
theorem phiF_phi{m:List Nat}{T:Nat→Bool}{f:Nat→Int}{ws:List Int} : ∀n,(∀v<n,m.getD v 0=0→f v≤ws.getD v 0)→mA m T f n≤phi m T ws n
 | 0,_=>by simp[mA,phi]
 | n+1,h=>by
  have:=phiF_phi (T:=T) n fun v hv=>h v (by omega)
  rw[mA,phi];split
  ·have:=h n (by omega) (by rename_i hq;exact hq.2);omega
  ·omega
theorem ext_open{n:Nat}{es:List (List Nat)}(hE:gK n es){m:List Nat}(h2:∀v<n,m.getD v 0≤2){T:Nat→Bool}(hx:Ext n es m T){e:List Nat}(he:e∈es)(h1:ec m 1 e=false):∃u<n,u∈e∧T u=true∧m.getD u 0=0:=by
 obtain⟨u,hu,hT⟩:=hx.h e he;have hn:=(hE e he).2.2 u hu;refine⟨u,hn,hu,hT,?_⟩;have a2:=h2 u hn;by_cases b1:m.getD u 0=1
 ·rw[←sg]at h1;exact absurd (List.any_eq_true.2 ⟨u,hu,by simpa using b1⟩) h1
 ·by_cases b2:m.getD u 0=2
  ·rw[hx.x u hn b2]at hT;cases hT
  ·omega
theorem okS_parts{es:List (List Nat)}{m:List Nat}{x:Shr}(h:okS es m x=true):x.e.toNat<es.length∧1≤x.a∧ec m 1 (es.getD x.e.toNat [])=false:=by
 unfold okS at h;simp only[rX,decide_eq_true_eq,sL]at h;exact⟨by omega,h.1.1.2,h.2⟩
theorem sum_phi{n:Nat}{es:List (List Nat)}(hE:gK n es){m:List Nat}(h2:∀v<n,m.getD v 0≤2){T:Nat→Bool}(hx:Ext n es m T):∀l:List Shr,(∀x∈l,okS es m x=true)→gf l≤mA m T (fun v=>ldR es v l) n
 | [],_=>by
  have:∀k,mA m T (fun v=>ldR es v []) k=0:=fun k=>by
   induction k with
   | zero=>rfl
   | succ k ih=>rw[mA,ih];simp[ldR]
  rw[this];simp[gf]
 | x::l,h=>by
  have ih:=sum_phi hE h2 hx l fun y hy=>h y (sG _ hy)
  obtain⟨q1,q2,q3⟩:=okS_parts (h x (sE ..));obtain⟨u,hn,hu,hT,h0⟩:=ext_open hE h2 hx (ee q1) q3
  have:=(phiF_add (m:=m) (T:=T) (f:=fun v=>ldR es v l) (g:=fun v=>ldR es v (x::l)) (a:=x.a) n fun v _=>by
   simp only[ldR];split<;>omega).2 ⟨u,hn,hT,h0,by simp only[ldR,if_pos hu];omega⟩
  rw[gf];omega
theorem Ext.set1{n:Nat}{es:List (List Nat)}{m:List Nat}{T:Nat→Bool}(h:Ext n es m T){v:Nat}(hv:v<m.length)(hT:T v=true):Ext n es (m.set v 1) T:=by
 refine⟨fun u hu h1=>?_,fun u hu h1=>?_,h.h⟩
 ·by_cases e:v=u
  ·rw[←e];exact hT
  ·rw[aY _ e]at h1;exact h.c u hu h1
 ·by_cases e:v=u
  ·rw[←e,aU _ hv]at h1;omega
  ·rw[aY _ e]at h1;exact h.x u hu h1
theorem Ext.set2{n:Nat}{es:List (List Nat)}{m:List Nat}{T:Nat→Bool}(h:Ext n es m T){v:Nat}(hv:v<m.length)(hT:T v=false):Ext n es (m.set v 2) T:=by
 refine⟨fun u hu h1=>?_,fun u hu h1=>?_,h.h⟩
 ·by_cases e:v=u
  ·rw[←e,aU _ hv]at h1;omega
  ·rw[aY _ e]at h1;exact h.c u hu h1
 ·by_cases e:v=u
  ·rw[←e];exact hT
  ·rw[aY _ e]at h1;exact h.x u hu h1
theorem nf{ws:List Int}{es:List (List Nat)}{n:Nat}(hE:gK n es){T:Nat→Bool} : ∀(k:Nat) (m:List Nat) (b:Int) (l:List Nde),Wok n ws m→Ext n es m T→(dH ws es k m l b).2=true→b≤phi m T ws n
 | 0,_,_,_,_,_,h=>by simp[dH]at h
 | _+1,_,_,[],_,_,h=>by simp[dH]at h
 | k+1,m,b,x::r,g,hx,h=>by
  rw[dH]at h;split at h
  ·simp only at h;split at h
   ·rw[sV,decide_eq_true_eq]at h
    rcases h with h | h
    ·have:=ii (m:=m) (T:=T) (room:=ws) n fun v hv _=>by have:=g.p v hv;omega
     omega
    ·unfold fG at h;obtain⟨e,he,h3⟩:=List.any_eq_true.1 h;rw[rX,sL,sL]at h3;obtain⟨u,_,hu,_,h0⟩:=ext_open hE g.le hx he h3.1;have h4:=h3.2;rw[←sg]at h4;exact absurd (List.any_eq_true.2 ⟨u,hu,by simpa using h0⟩) h4
   ·unfold shE at h;rw[rX]at h;have hs:=(gO ws es m b hE x.l (rO m.length 0) 0 (by simp[g.lm]) fun v hv _=>by rw[eE];have:=g.p v hv;omega).1 h.2;obtain⟨q1,q2,q3⟩:=hs;have h5:=sum_phi hE g.le hx x.l q1
    have h6:=phiF_phi (T:=T) (f:=fun v=>ldR es v x.l) (ws:=ws) (m:=m) n fun v hv h0=>by have:=q2 v hv h0;rw[eE]at this;omega
    omega
  ·split at h
   ·cases h
   ·rename_i h1 h3
    have hv:x.v.toNat<n:=by rw[←g.lm];omega
    have hm:x.v.toNat<m.length:=by rw[g.lm];exact hv
    have h0:m.getD x.v.toNat 0=0:=by
     by_cases a:m.getD x.v.toNat 0=0
     ·exact a
     ·exact absurd (.inr (.inr (.inr a))) h3
    obtain⟨p,hp⟩:∃p,p=dH ws es k (m.set x.v.toNat 1) r (b-ws.getD x.v.toNat 0):=⟨_,rfl⟩;rw[←hp]at h;obtain⟨p1,p2⟩:=p
    cases p1 with
    | none=>cases p2 with
     | false=>cases h
     | true =>
      obtain⟨r',hr⟩:=jv ws es k (m.set x.v.toNat 1) r (b-ws.getD x.v.toNat 0) (by rw[←hp]);rw[←hp]at hr;cases hr
    | some r'=>cases p2 with
     | false=>cases h
     | true =>
      simp only at h;by_cases hT:T x.v.toNat=true
      ·have:=nf hE k _ _ r (g.set _ (by omega)) (hx.set1 hm hT) (by rw[←hp]);rw[ig T ws hm h0 (by omega),if_pos ⟨hv,hT⟩]at this;omega
      ·rw[sg]at hT;have:=nf hE k _ _ r' (g.set _ (by omega)) (hx.set2 hm hT) h;rw[ig T ws hm h0 (by omega),if_neg (by rw[hT];simp)]at this;omega
theorem checkP_le{ws:List Int}{es:List (List Nat)}(hb:HsB ws es){b:Int}{l:List Nde}(h:jx ws es b l=true){T:Nat→Bool}(hT:∀e∈es,∃v∈e,T v=true):b≤cz ws T ws.length:=by
 have h0:∀v,(rO ws.length 0).getD v 0=0:=fun v=>by
  simp only[tO,tE];split<;>rfl
 have g:Wok ws.length ws (rO ws.length 0):=⟨rfl,by simp,fun v hv=>(hb.w v hv).1,fun v _=>by rw[h0];omega⟩;have hX:Ext ws.length es (rO ws.length 0) T:=⟨fun v _ h=>by rw[h0]at h;omega,fun v _ h=>by rw[h0]at h;omega,hT⟩;rw[←ja ws.length T ws ws.length];refine nf hb.ed (l.length+1) _ _ l g hX ?_;unfold jx at h;split at h
 ·rename_i hq;rw[hq]
 ·cases h
theorem checkG_le{ws:List Int}{es:List (List Nat)}{b:Int}{l:List Nde}(h:ej ws es b l=true):HsB ws es∧jx ws es b l=true:=by
 unfold ej at h;split at h
 ·rename_i h1;split at h
  ·cases h
  ·exact⟨cS.1 h1,h⟩
 ·cases h
noncomputable def prE(t:Tb)(cs:List Cn)(w:List Int):Int:=if aV t cs=0 then(if w=[]∨w.length=t.rows.length then eI (inW t w) (inE t cs) else 6) else aV t cs
theorem gQ{t:Tb}{cs:List Cn}{w:List Int}(h:prE t cs w=0):aV t cs=0∧(w=[]∨w.length=t.rows.length)∧HsB (inW t w) (inE t cs):=by
 unfold prE at h;split at h
 ·rename_i h1;split at h
  ·rename_i h2;exact⟨h1,h2,cS.1 h⟩
  ·cases h
 ·rename_i h1;exact absurd h h1
theorem inE_len(t:Tb)(cs:List Cn):(inE t cs).length=(ak (bQ t cs)).length:=by simp[inE]
theorem inE_ed{t:Tb}{cs:List Cn}(hb:BdOk t cs)(h:aV t cs=0):gK t.rows.length (inE t cs):=by
 obtain⟨_,hh,_⟩:=cA hb h;intro e he;obtain⟨x,hx,rfl⟩:=List.mem_map.1 he;have:=ixE_ok hh hx
 rwa [bC]at this
theorem pr_hsb{t:Tb}{cs:List Cn}{w:List Int}(hb:BdOk t cs)(h:aV t cs=0)(hl:w=[]∨w.length=t.rows.length)(hw:∀x∈w,1≤x∧x≤1000000):HsB (inW t w) (inE t cs):=by
 have hn:=bt hl
 have h8:t.rows.length≤8:=by
  obtain⟨_,h2,_⟩:=cG h;have:=hb.rows;omega
 refine⟨fun v hv=>?_,by omega,?_,?_⟩
 ·rw[am _ _ hv];exact inW_rng hw _ (rQ hv)
 ·rw[inE_len];have:=edges_585 hb h;omega
 ·rw[hn];exact inE_ed hb h
theorem pr_zero{t:Tb}{cs:List Cn}{w:List Int}(hb:BdOk t cs)(h:aV t cs=0)(hl:w=[]∨w.length=t.rows.length)(hw:∀x∈w,1≤x∧x≤1000000):prE t cs w=0:=by
 unfold prE;rw[if_pos h,if_pos hl,cS];exact pr_hsb hb h hl hw
theorem hsb_pos{ws:List Int}{es:List (List Nat)}(h:HsB ws es):∀w∈ws,1≤w:=fun w hw=>by
 obtain⟨i,hi,rfl⟩:=List.mem_iff_getElem.1 hw;have:=h.w i hi;rw[am _ _ hi]at this;exact this.1
theorem pr_min{t:Tb}{cs:List Cn}{w:List Int}(hb:BdOk t cs)(h:prE t cs w=0){T:Nat→Bool}(hT:MinOk (inW t w).length (inW t w) (inE t cs) T):MinI (aa t.rows) (inW t w) (ak (bQ t cs)) (cz (inW t w) T (inW t w).length):=by
 obtain⟨h1,h2,h3⟩:=gQ h;obtain⟨_,hh,_⟩:=cA hb h1
 have hl:(inW t w).length=(aa t.rows).length:=by rw[bt h2,bC]
 rw[hl]at hT ⊢;exact minI_of hh hl hT
theorem pr_minimal{t:Tb}{cs:List Cn}{w:List Int}(hb:BdOk t cs)(h:prE t cs w=0){T:Nat→Bool}(hT:MinOk (inW t w).length (inW t w) (inE t cs) T):eA (ak (bQ t cs)) (dT (aa t.rows) T)=true∧∀a∈dT (aa t.rows) T,eA (ak (bQ t cs)) ((dT (aa t.rows) T).filter fun x=>!decide (x=a))=false:=by
 obtain⟨h1,h2,h3⟩:=gQ h;obtain⟨_,hh,_⟩:=cA hb h1
 have hl:(inW t w).length=(aa t.rows).length:=by rw[bt h2,bC]
 rw[hl]at hT;exact⟨(mT hh fun v hv=>dT_at hh.va hv).1 hT.h,fun a ha=>min_minimal hh hl (hsb_pos h3) hT ha⟩
theorem chk_least{t:Tb}{cs:List Cn}{w:List Int}(hb:BdOk t cs)(h:prE t cs w=0){D:List Int}(hD:eA (ak (bQ t cs)) D=true){b:Int}{l:List Nde}(hw:wI (aa t.rows) (inW t w) D=b)(hc:ej (inW t w) (inE t cs) b l=true):MinI (aa t.rows) (inW t w) (ak (bQ t cs)) b:=by
 obtain⟨h1,h2,h3⟩:=gQ h;obtain⟨_,hh,_⟩:=cA hb h1
 have hl:(inW t w).length=(aa t.rows).length:=by rw[bt h2,bC]
 obtain⟨_,hp⟩:=checkG_le hc;refine⟨⟨D,hD,hw⟩,fun D' hD'=>?_⟩;have:=checkP_le h3 hp (T:=tD (aa t.rows) D') ((mT hh fun v hv=>tD_at v hv).2 hD')
 rwa [hl,kE hl fun v hv=>tD_at v hv]at this
theorem min_clean{I ws:List Int}{E:List (List Int)}{m:Int}(hI:∀e∈E,e≠[]∧∀a∈e,a∈I)(hl:ws.length=I.length)(hp:∀w∈ws,1≤w)(h:MinI I ws E m):(0<m↔E≠[]):=by
 constructor
 ·intro hm h0;subst h0;have:=h.le [] rfl
  have h2:∀I ws:List Int,wI I ws []=0:=fun I=>by
   induction I with
   | nil=>intro ws;simp[wI]
   | cons a I ih=>intro ws;cases ws with
    | nil=>simp[wI]
    | cons w ws=>rw[wI,ih ws];simp[bj]
  rw[h2]at this;omega
 ·intro h0;obtain⟨D,h1,h2⟩:=h.at_;obtain⟨e,he⟩:=List.exists_mem_of_ne_nil _ h0;obtain⟨a,ha,hD⟩:=(qD.1 h1) e he;obtain⟨i,hi,rfl⟩:=List.mem_iff_getElem.1 ((hI e he).2 a ha)
  have hi':i<ws.length:=by omega
  rw[lY I ws D i hi hi',if_pos (bI.2 hD)]at h2
  have:=nB (I.eraseIdx i) (ws.eraseIdx i) D fun w hw=>by have:=hp w (List.mem_of_mem_eraseIdx hw);omega
  have:=hp _ (rQ hi');omega
def hasJ(b:Int)(i:Nat):Bool:=IntKind.i64.wrap ↑((b.fdiv (2^min i IntKind.i64.bits) % 2^IntKind.i64.bits).toNat &&& 1 % 2^IntKind.i64.bits)== 1
theorem hasJ_def(s:Int)(a:Nat):(IntKind.i64.wrap ↑((s.fdiv (2^min a IntKind.i64.bits) % 2^IntKind.i64.bits).toNat &&& 1 % 2^IntKind.i64.bits)== 1)=hasJ s a:=rfl
theorem hasJ_all:∀b:Fin 512,∀i:Fin 9,hasJ (b.val:Int) i.val=b.val.testBit i.val:=of_decide_eq_true (by kernel_rfl)
theorem hasJ_bit{b i:Nat}(hb:b<512)(hi:i<9):hasJ (b:Int) i=b.testBit i:=hasJ_all ⟨b,hb⟩ ⟨i,hi⟩
def bnF(P:Nat→Bool):Nat→Nat
 | 0=>0
 | n+1=>bnF P n+if P n=true then 2^n else 0
theorem bnF_lt(P:Nat→Bool):∀n,bnF P n<2^n
 | 0=>by simp[bnF]
 | n+1=>by
  have:=bnF_lt P n;rw[bnF,vF];split<;>omega
theorem bnF_bit(P:Nat→Bool):∀n i,i<n→(bnF P n).testBit i=P i
 | 0,i,h=>by omega
 | n+1,i,h=>by
  have hl:=bnF_lt P n;rw[bnF];by_cases hp:P n=true
  ·rw[if_pos hp,vR];by_cases e:i=n
   ·subst e;rw[Nat.testBit_two_pow_add_eq,te hl,hp];rfl
   ·rw[Nat.testBit_two_pow_add_gt (by omega),bnF_bit P n i (by omega)]
  ·rw[if_neg hp,tm];by_cases e:i=n
   ·subst e;rw[te hl];cases h2:P i
    ·rfl
    ·exact absurd h2 hp
   ·exact bnF_bit P n i (by omega)
def cV(b:Int)(i:Nat):List Nat:=(rh i).filter (hasJ b)
theorem selN_yes{b:Int}{i:Nat}(h:hasJ b i=true):cV b (i+1)=cV b i++[i]:=by
 unfold cV;rw[si,tW];simp[h]
theorem selN_no{b:Int}{i:Nat}(h:hasJ b i=false):cV b (i+1)=cV b i:=by
 unfold cV;rw[si,tW];simp[h]
theorem selN_len(b:Int)(i:Nat):(cV b i).length≤i:=by
 unfold cV;exact sF (rz _ _) (by simp)
theorem selN_asc(b:Int)(i:Nat):(cV b i).Pairwise (· < ·):=List.pairwise_lt_range.filter _
theorem selN_lt{b:Int}{i v:Nat}(h:v∈cV b i):v<i:=List.mem_range.1 (List.mem_filter.1 h).1
def gl(es:List (List Nat))(l:List Nat):Bool:=es.all fun e=>dW e l
theorem hitN_iff{es:List (List Nat)}{l:List Nat} : gl es l=true↔∀e∈es,∃v∈e,v∈l:=by
 unfold gl;rw[sH]
 refine forall_congr' fun e=>forall_congr' fun _=>?_
 unfold dW;rw[uO];exact⟨fun⟨a,h1,h2⟩=>⟨a,h1,List.contains_iff_mem.1 h2⟩,fun⟨a,h1,h2⟩=>⟨a,h1,List.contains_iff_mem.2 h2⟩⟩
theorem hitN_sel{n:Nat}{es:List (List Nat)}(hE:gK n es){T:Nat→Bool} : gl es ((rh n).filter T)=true↔∀e∈es,∃v∈e,T v=true:=by
 rw[hitN_iff]
 refine forall_congr' fun e=>forall_congr' fun he=>?_
 constructor
 ·rintro⟨v,h1,h2⟩;exact⟨v,h1,(List.mem_filter.1 h2).2⟩
 ·rintro⟨v,h1,h2⟩;exact⟨v,h1,List.mem_filter.2 ⟨List.mem_range.2 ((hE e he).2.2 v h1),h2⟩⟩
def lsN(ws:List Int)(es:List (List Nat)):Nat→Int
 | 0=>-1
 | b+1=>if gl es (cV (b:Int) ws.length)=true∧(lsN ws es b<0∨wl ws (cV (b:Int) ws.length)<lsN ws es b) then wl ws (cV (b:Int) ws.length) else lsN ws es b
theorem lsN_spec{ws:List Int}{es:List (List Nat)}(hb:HsB ws es):∀B:Nat,(lsN ws es B = -1∧∀b<B,gl es (cV (b:Int) ws.length)=false)∨∃b<B,gl es (cV (b:Int) ws.length)=true∧lsN ws es B=wl ws (cV (b:Int) ws.length)∧∀c<B,gl es (cV (c:Int) ws.length)=true→lsN ws es B≤wl ws (cV (c:Int) ws.length)
 | 0=>.inl ⟨rfl,fun b hb=>by omega⟩
 | B+1=>by
  have h0:∀b:Nat,0≤wl ws (cV (b:Int) ws.length):=fun b=>(wl_le hb.w _ fun v hv=>selN_lt hv).1
  rw[lsN]
  rcases lsN_spec hb B with⟨h1,h2⟩ | ⟨b,h1,h2,h3,h4⟩
  ·by_cases hh:gl es (cV (B:Int) ws.length)=true
   ·rw[if_pos ⟨hh,.inl (by omega)⟩];refine .inr ⟨B,by omega,hh,rfl,fun c hc hq=>?_⟩;by_cases e:c=B
    ·rw[e];omega
    ·have:=h2 c (by omega);rw[this]at hq;cases hq
   ·rw[if_neg (fun hq=>hh hq.1)];refine .inl ⟨h1,fun b hb=>?_⟩;by_cases e:b=B
    ·rw[e];simpa using hh
    ·exact h2 b (by omega)
  ·have h5:=h0 b;by_cases hh:gl es (cV (B:Int) ws.length)=true∧(lsN ws es B<0∨wl ws (cV (B:Int) ws.length)<lsN ws es B)
   ·rw[if_pos hh];refine .inr ⟨B,by omega,hh.1,rfl,fun c hc hq=>?_⟩;by_cases e:c=B
    ·rw[e];omega
    ·have:=h4 c (by omega) hq;omega
   ·rw[if_neg hh];refine .inr ⟨b,by omega,h2,h3,fun c hc hq=>?_⟩;by_cases e:c=B
    ·subst e
     have:¬(lsN ws es c<0∨wl ws (cV (c:Int) ws.length)<lsN ws es c):=fun hr=>hh ⟨hq,hr⟩
     omega
    ·exact h4 c (by omega) hq
theorem selN_all{N:Nat}(hN:N≤9)(P:Nat→Bool):∃b:Nat,b<2^N∧cV (b:Int) N=(rh N).filter P:=by
 have hl:=bnF_lt P N;have h512:2^N≤512:=sd (by omega) hN;refine⟨bnF P N,hl,?_⟩;unfold cV
 refine List.filter_congr fun v hv=>?_
 have hv:=List.mem_range.1 hv;rw[hasJ_bit (by omega) (by omega),bnF_bit P N v hv]
theorem lsN_min{ws:List Int}{es:List (List Nat)}(hb:HsB ws es)(hn:ws.length≤9){T:Nat→Bool}(hT:MinOk ws.length ws es T):lsN ws es (2^ws.length)=cz ws T ws.length:=by
 obtain⟨b,hB,hs⟩:=selN_all hn T
 have hit:gl es (cV (b:Int) ws.length)=true:=by rw[hs];exact(hitN_sel hb.ed).2 hT.h
 rcases lsN_spec hb (2^ws.length) with⟨_,h2⟩ | ⟨c,h1,h2,h3,h4⟩
 ·rw[h2 b hB]at hit;cases hit
 ·have a1:=h4 b hB hit;rw[hs,←dt]at a1;have a2:=hT.m (hasJ (c:Int)) ((hitN_sel hb.ed).1 h2);rw[h3]at a1 ⊢;unfold cV at a1 ⊢;rw[←dt]at a1 ⊢;omega
theorem ix_mem{I:List Int}(ha:asc I=true){D:List Int}(hD:∀a∈D,a∈I)(v:Nat)(hv:v<I.length):bj D I[v]=decide (v∈ixE I D):=by
 rw[sb,bI,decide_eq_true_iff];unfold ixE;rw[uZ];constructor
 ·exact fun h=>⟨_,h,bsP_ix ha hv⟩
 ·rintro⟨a,h1,rfl⟩;obtain⟨q1,q2⟩:=gZ ha (hD a h1);rw[q2];exact h1
theorem ix_asc{I:List Int}(ha:asc I=true){D:List Int}(hD:∀a∈D,a∈I)(hp:D.Pairwise (· < ·)):(ixE I D).Pairwise (· < ·)∧∀v∈ixE I D,v<I.length:=by
 constructor
 ·unfold ixE;rw[uV];refine List.Pairwise.imp_of_mem ?_ hp;intro a b hA hB hab;exact bsP_lt ha (hD a hA) (hD b hB) hab
 ·intro v hv;obtain⟨a,hA,rfl⟩:=List.mem_map.1 hv;exact(gZ ha (hD a hA)).1
theorem pos_hit{I:List Int}{E:List (List Int)}(h:Hyp I E){D:List Int}(hD:∀a∈D,a∈I):gl (E.map (ixE I)) (ixE I D)=eA E D:=by
 have ha:=(dr I).2 h.va;rw[sb,←mT h (T:=fun v=>decide (v∈ixE I D)) (ix_mem ha hD),hitN_iff];simp only[decide_eq_true_iff]
theorem pos_wI{I ws:List Int}(ha:asc I=true)(hl:ws.length=I.length){D:List Int}(hD:∀a∈D,a∈I)(hp:D.Pairwise (· < ·)):wl ws (ixE I D)=wI I ws D:=by
 obtain⟨h1,h2⟩:=ix_asc ha hD hp;rw[←kE hl (T:=fun v=>decide (v∈ixE I D)) (ix_mem ha hD),dt,←dg h1 h2]
noncomputable def jw(t:Tb)(cs:List Cn)(w D:List Int)(b:Int)(l:List Nde):Bool:=if prE t cs w=0 then(if plE (aa t.rows) D=0 then(gl (inE t cs) (ixE (aa t.rows) D)&&decide (wl (inW t w) (ixE (aa t.rows) D)=b)&&ej (inW t w) (inE t cs) b l) else false) else false
theorem chkS_iff{t:Tb}{cs:List Cn}{w D:List Int}{b:Int}{l:List Nde}(hb:BdOk t cs):jw t cs w D b l=true↔prE t cs w=0∧plE (aa t.rows) D=0∧eA (ak (bQ t cs)) D=true∧wI (aa t.rows) (inW t w) D=b∧ej (inW t w) (inE t cs) b l=true:=by
 unfold jw;split
 ·rename_i h;obtain⟨h1,h2,h3⟩:=gQ h;obtain⟨_,hh,_⟩:=cA hb h1;have ha:=(dr _).2 hh.va
  have hl:(inW t w).length=(aa t.rows).length:=by rw[bt h2,bC]
  split
  ·rename_i h4;obtain⟨q1,q2⟩:=plE_ok h4;rw[rX,rX,decide_eq_true_iff,pos_wI ha hl q2 q1];unfold inE;rw[pos_hit hh q2];exact⟨fun⟨⟨a,b⟩,c⟩=>⟨h,h4,a,b,c⟩,fun⟨_,_,a,b,c⟩=>⟨⟨a,b⟩,c⟩⟩
  ·rename_i h4;exact⟨fun h6=>(by cases h6),fun h5=>absurd h5.2.1 h4⟩
 ·rename_i h;exact⟨fun h6=>(by cases h6),fun h5=>absurd h5.1 h⟩
theorem fj{t:Tb}{cs:List Cn}{w:List Int}(hb:BdOk t cs)(h:prE t cs w=0):∃T,MinOk (inW t w).length (inW t w) (inE t cs) T∧kn (inW t w) (inE t cs) 10000=(rh (inW t w).length).filter T∧lsN (inW t w) (inE t cs) (2^(inW t w).length)=cz (inW t w) T (inW t w).length:=by
 obtain⟨h1,h2,h3⟩:=gQ h
 have h8:t.rows.length≤8:=by
  obtain⟨_,h2,_⟩:=cG h1;have:=hb.rows;omega
 have hn:(inW t w).length≤8:=by rw[bt h2];exact h8
 obtain⟨T,hT,hm⟩:=minL_ok h3 (by omega) (lf:=10000) (by
  have:(2:Int)^((inW t w).length+1)≤2^9:=by exact_mod_cast sd (by omega:0<2) (by omega)
  have h9:(2:Int)^9=512:=by decide
  omega)
 exact⟨T,hT,hm,lsN_min h3 (by omega) hT⟩
theorem qi{t:Tb}{cs:List Cn}{w D:List Int}{b:Int}{l:List Nde}(hb:BdOk t cs)(h:jw t cs w D b l=true):b=lsN (inW t w) (inE t cs) (2^(inW t w).length):=by
 obtain⟨h1,h2,h3,h4,h5⟩:=(chkS_iff hb).1 h;obtain⟨T,hT,_,hls⟩:=fj hb h1;rw[hls];exact(chk_least hb h1 h3 h4 h5).unique (pr_min hb h1 hT)
theorem pack_pos{ws:List Int}{es:List (List Nat)}(hb:HsB ws es):0≤(bw ws es (rO ws.length 0)).2∧(es≠[]→0<(bw ws es (rO ws.length 0)).2)∧(es=[]→(bw ws es (rO ws.length 0)).2=0):=by
 have h0:∀v,(rO ws.length 0).getD v 0=0:=fun v=>by
  simp only[tO,tE];split<;>rfl
 have hr:∀v<ws.length,(rO ws.length 0).getD v 0=0→0≤ws.getD v 0:=fun v hv _=>by have:=hb.w v hv;omega
 have hk:=fN (m:=rO ws.length 0) hb.ed es 0 ws (by simp) rfl hr;refine⟨hk.2.2.2.2.2,fun hne=>?_,fun he=>by subst he;rfl⟩
 cases es with
 | nil=>exact absurd rfl hne
 | cons e es =>
  unfold bw
  have hh:ec (rO ws.length 0) 1 e=false:=by
   unfold ec;rw[un];intro v _;rw[h0];simp
  have ham:∀(e:List Nat) (a:Int),1≤a→(∀v∈e,v<ws.length)→1≤ek (rO ws.length 0) ws e a:=fun e=>by
   induction e with
   | nil=>intro a ha _;exact ha
   | cons v e ih =>
    intro a ha hv;rw[ek,if_pos (h0 v)];have:=(hb.w v (hv v (by simp))).1
    exact ih _ (by omega) fun u hu=>hv u (by simp[hu])
  have h1:=ham e 1000000 (by omega) (hb.ed e (by simp)).2.2;obtain⟨e1,e2,e3⟩:=hb.ed e (by simp);obtain⟨r1,r2,_,_⟩:=lp (m:=rO ws.length 0) e2 e3 rfl hr;have hk2:=fN (m:=rO ws.length 0) hb.ed es 1 (ky (ek (rO ws.length 0) ws e 1000000) e ws) (by simp) r1 r2;rw[cW,if_neg (by rw[hh];simp),if_neg (by omega)];have:=hk2.2.2.2.2.2;simp only[tU]at this ⊢;omega
theorem pack_low{ws:List Int}{es:List (List Nat)}(hb:HsB ws es){T:Nat→Bool}(hT:∀e∈es,∃v∈e,T v=true):(bw ws es (rO ws.length 0)).2≤cz ws T ws.length:=by
 have h0:∀v,(rO ws.length 0).getD v 0=0:=fun v=>by
  simp only[tO,tE];split<;>rfl
 have hX:Ext ws.length es (rO ws.length 0) T:=⟨fun v _ h=>by rw[h0]at h;omega,fun v _ h=>by rw[h0]at h;omega,hT⟩
 have:=mD (m:=rO ws.length 0) es 0 ws hb.ed hX (fun v _=>by rw[h0];omega) rfl fun v hv _=>by have:=hb.w v hv;omega
 rw[ja]at this;exact this
theorem grF_nil{L:Nat→List Nat}(hL:∀v,L v=[]):∀(ord:List Nat) (rem:List Int) (out:List Nat),grF L ord rem out=out
 | [],_,_=>rfl
 | v::ord,rem,out=>by
  rw[grF,hL v,if_neg (by simp)];exact grF_nil hL ord _ out
theorem greedyF_nil(ws:List Int):cL ws []=[]:=by
 have:mU ws []=[]:=by
  unfold mU;refine grF_nil (fun v=>?_) _ _ _
  refine List.eq_nil_iff_forall_not_mem.2 fun j hj=>?_
  have:=(LE_mem [] j v).1 hj;simp at this
 unfold cL;rw[this];rfl
noncomputable def jf(t:Tb)(cs:List Cn)(w:List Int):Int:=lsN (inW t w) (inE t cs) (2^(inW t w).length)
theorem lst_min{t:Tb}{cs:List Cn}{w:List Int}(hb:BdOk t cs)(h:prE t cs w=0):MinI (aa t.rows) (inW t w) (ak (bQ t cs)) (jf t cs w):=by
 obtain⟨T,hT,_,hl⟩:=fj hb h;unfold jf;rw[hl];exact pr_min hb h hT
theorem bounds_law{t:Tb}{cs:List Cn}{w:List Int}(hb:BdOk t cs)(h:prE t cs w=0):
  (bw (inW t w) (inE t cs) (rO (inW t w).length 0)).2≤jf t cs w∧jf t cs w≤wl (inW t w) (cL (inW t w) (inE t cs))∧(0<(bw (inW t w) (inE t cs) (rO (inW t w).length 0)).2↔0<jf t cs w)∧(0<wl (inW t w) (cL (inW t w) (inE t cs))↔0<jf t cs w):=by
 obtain⟨h1,h2,h3⟩:=gQ h;obtain⟨_,hh,_⟩:=cA hb h1
 have h8:t.rows.length≤8:=by
  obtain⟨_,h2,_⟩:=cG h1;have:=hb.rows;omega
 have hn:(inW t w).length≤8:=by rw[bt h2];exact h8
 have hl:(inW t w).length=(aa t.rows).length:=by rw[bt h2,bC]
 obtain⟨T,hT,_,hls⟩:=fj hb h
 have hlow:(bw (inW t w) (inE t cs) (rO (inW t w).length 0)).2≤jf t cs w:=by
  unfold jf;rw[hls];exact pack_low h3 hT.h
 have gr:=iq h3 (by omega)
 have hhigh:jf t cs w≤wl (inW t w) (cL (inW t w) (inE t cs)):=by
  have:=hT.m (fun v=>decide (v∈cL (inW t w) (inE t cs))) fun e he=>by
   obtain⟨v,q1,q2⟩:=gr.h e he;exact⟨v,q1,decide_eq_true q2⟩
  rw[dt,dt,←dg gr.s gr.n,←dt]at this;unfold jf;rw[hls];exact this
 have hc:=min_clean (fun e he=>⟨hh.ne e he,hh.sub e he⟩) hl (hsb_pos h3) (lst_min hb h);obtain⟨p1,p2,p3⟩:=pack_pos h3;refine⟨hlow,hhigh,?_,?_⟩
 ·constructor
  ·intro q;omega
  ·intro q;have h0:=hc.1 q
   exact p2 fun e0=>h0 (by simpa[inE] using e0)
 ·constructor
  ·intro q
   refine hc.2 fun h0=>?_
   have he:inE t cs=[]:=by unfold inE;rw[h0];rfl
   rw[he,greedyF_nil]at q;simp[wl]at q
  ·intro q;omega
noncomputable def fo(t:Tb)(cs:List Cn)(w:List Int):List Int:=(kn (inW t w) (inE t cs) 10000).map fun v=>(aa t.rows).getD v 0
noncomputable def gj(t:Tb)(cs:List Cn)(w:List Int):Int:=wl (inW t w) (kn (inW t w) (inE t cs) 10000)
noncomputable def optV(t:Tb)(cs:List Cn)(w:List Int):Option (List Nde×Int):=gh (inW t w) (inE t cs) ((inW t w).length+1) (rO (inW t w).length 0) 10000 (gj t cs w)
noncomputable def jb(t:Tb)(cs:List Cn)(w:List Int):List Nde:=((optV t cs w).getD ([],0)).1
structure OptS (t:Tb) (cs:List Cn) (w:List Int):Prop where
 prv:∃lf,optV t cs w=some (jb t cs w,lf)∧0≤lf
 len:(jb t cs w).length≤511
 wt:gj t cs w=jf t cs w
 rng:0≤gj t cs w∧gj t cs w≤8000000
 pl:plE (aa t.rows) (fo t cs w)=0
 chk:jw t cs w (fo t cs w) (gj t cs w) (jb t cs w)=true
 min:minB (ak (bQ t cs)) (fo t cs w)=true
theorem opt_ok{t:Tb}{cs:List Cn}{w:List Int}(hb:BdOk t cs)(h:prE t cs w=0):OptS t cs w:=by
 obtain⟨h1,h2,h3⟩:=gQ h;obtain⟨_,hh,_⟩:=cA hb h1
 have h8:t.rows.length≤8:=by
  obtain⟨_,h2,_⟩:=cG h1;have:=hb.rows;omega
 have hn:(inW t w).length≤8:=by rw[bt h2];exact h8
 have hl:(inW t w).length=(aa t.rows).length:=by rw[bt h2,bC]
 have hpw:(2:Int)^((inW t w).length+1)≤512:=by
  have h1:(2:Nat)^((inW t w).length+1)≤512:=sF (sd (by omega) (show _≤9 by omega)) (by decide);have h2:((2^((inW t w).length+1):Nat):Int)≤(512:Nat):=Int.ofNat_le.2 h1
  rwa [Int.natCast_pow]at h2
 obtain⟨T,hT,hm,hls⟩:=fj hb h;obtain⟨P,hP1,hP2,hP3,hP4⟩:=prove_all h3 (lf:=10000) (by omega) hT
 have hbw:gj t cs w=cz (inW t w) T (inW t w).length:=by unfold gj;rw[hm,dt]
 have hV:optV t cs w=some P:=by unfold optV;rw[hbw];exact hP1
 have hN:jb t cs w=P.1:=by unfold jb;rw[hV];rfl
 have hD:fo t cs w=dT (aa t.rows) T:=by unfold fo;rw[hm,hl];rfl
 obtain⟨m1,m2⟩:=pr_minimal hb h hT
 have hpl:plE (aa t.rows) (fo t cs w)=0:=by
  rw[hD]
  refine plE_of (dT_asc hh.va T) fun a ha=>?_
  obtain⟨v,hv,_,rfl⟩:=dT_mem.1 ha;exact rQ hv
 have hrg:=(wl_le h3.w (kn (inW t w) (inE t cs) 10000) fun v hv=>by
  rw[hm]at hv;exact List.mem_range.1 (List.mem_filter.1 hv).1)
 have hml:(kn (inW t w) (inE t cs) 10000).length≤8:=by
  rw[hm];exact sF (rz _ _) (by rw[uj];exact hn)
 refine⟨⟨P.2,by rw[hV,hN],by omega⟩,by rw[hN];omega,by rw[hbw];unfold jf;rw[hls],⟨hrg.1,?_⟩,hpl,(chkS_iff hb).2 ⟨h,hpl,by rw[hD];exact m1,?_,by rw[hN,hbw];exact hP4⟩,?_⟩
 ·have h2:=hrg.2;unfold gj;omega
 ·rw[hD,hbw,hl];exact(kE hl fun v hv=>dT_at hh.va hv).symm
 ·unfold minB;rw[hD,m1,re,sH];intro a ha;rw[sL];exact m2 a ha
def fnd(rs:List Rw)(id:Int)(i:Nat):Nat×Bool:=if h:i<rs.length then(if rs[i].id=id then(i,true) else fnd rs id (i+1)) else(0,false)
termination_by rs.length-i
theorem find03(t:Tb)(f g:Bool)(id:Int)(hr:t.rows.length≤1000000):aL Tryz.prog 43 [aD f g t,.int .i64 id] fun r=>r = .tup [.int .i64 (fnd t.rows id 0).1,.bool (fnd t.rows id 0).2]:=by
 obtain⟨E,hE⟩:∃E,E=fnd t.rows id 0:=⟨_,rfl⟩;rw[←hE];refine sPx Tryz.func43 rfl rfl ?_;simp -dsimp[Tryz.f43,rO,aD,LS,LR];refine aG (W_loopM 23 0x7ffff0 (by simp[mB]<;>rfl) (σ:=Nat) (fun i=>fnd t.rows id i=E) (fun i=>t.rows.length-i) (fun i=>[(6,.int .i64 i)]) (fun _=>[B.cells [.str t.name,.lst 1 f (t.attrs.map V.str),.lst 2 g (t.rows.map aI)]]) 0 hE.symm (by simp) (by simp) (by simp) ?_);intro i hx N Q hN hQ;by_cases hb:i<t.rows.length
 ·rw[fnd,dif_pos hb]at hx;by_cases hq:t.rows[i].id=id
  ·rw[if_pos hq]at hx;subst hx;refine wx ?_;simp -dsimp[hb,aI,LV,hq];refine hQ _ _ _ ?_;simp -dsimp[]
  ·rw[if_neg hq]at hx;refine wx ?_;simp -dsimp[hb,aI,LV,hq];simp -dsimp[aH i (by omega)];refine hN (i+1) _ _ hx (by omega) (by simp) ⟨[],by simp⟩ (by simp) (by simp)
 ·rw[fnd,dif_neg hb]at hx;subst hx;refine wx ?_;simp -dsimp[hb];refine hQ _ _ _ ?_;simp -dsimp[]
theorem fnd_at{rs:List Rw}{i:Nat}(h:i<rs.length)(hp:rs.Pairwise fun a b=>a.id<b.id)(d:Nat):∀j,j+d=i→fnd rs rs[i].id j=(i,true):=by
 induction d with
 | zero =>
  intro j e
  obtain rfl:j=i:=by omega
  rw[fnd,dif_pos h,if_pos rfl]
 | succ d ih =>
  intro j e;rw[fnd,dif_pos (by omega),if_neg]
  ·exact ih (j+1) (by omega)
  ·have:=List.pairwise_iff_getElem.1 hp j i (by omega) h (by omega);omega
theorem fnd_no{rs:List Rw}{id:Int}(h:∀r∈rs,¬r.id=id)(i:Nat):fnd rs id i=(0,false):=by
 fun_induction fnd rs id i with
 | case1 i hi he=>exact absurd he (h _ (rQ hi))
 | case2 i hi he ih=>exact ih
 | case3 i hi=>rfl
theorem fnd_bs{t:Tb}(g:TbC t)(id:Int):fnd t.rows id 0=if bj (aa t.rows) id=true then(bsP (aa t.rows) id,true) else(0,false):=by
 have ha:asc (aa t.rows)=true:=(dr _).2 (oq g);split
 ·rename_i h;obtain⟨r,hr,rfl⟩:=List.mem_map.1 (bI.1 h);obtain⟨i,hi,rfl⟩:=List.mem_iff_getElem.1 hr;rw[fnd_at hi g.ids i 0 (by omega)]
  have hi2:i<(aa t.rows).length:=by rw[bC];exact hi
  have h1:=bsP_ix ha hi2
  have h2:(aa t.rows)[i]=t.rows[i].id:=by simp[aa]
  rw[h2]at h1;rw[h1]
 ·rename_i h;refine fnd_no (fun r hr e=>h (bI.2 (List.mem_map.2 ⟨r,hr,e⟩))) 0
def ixW(p:Rw→Bool)(rs:List Rw)(i:Nat):Int:=if h:i<rs.length then(if p rs[i] then(i:Int) else ixW p rs (i+1)) else -1
termination_by rs.length-i
theorem idxFuncW(H:List B)(fv:V)(p:Rw→Bool)(rs:List Rw)(g:Bool)(hes:rs.length≤1000000)(hH:∀bl∈H,rbB H.length bl)(hfv:rb H.length fv)
  (hp:∀m∈rs,aQ Tryz.prog fv [aI m] H fun r H'=>r = .bool (p m)∧H'=H):av Tryz.prog 96 [LR g rs,fv] H fun r H'=>r = .int .i64 (ixW p rs 0)∧H'=H:=by
 refine aF tok Tryz.func96 rfl rfl ?_;refine wx ?_;simp -dsimp[Tryz.f96,rO,LR];refine aG (W_loopM 19 0x7ff30 (by simp[mB]<;>rfl) (σ:=Nat) (fun i=>ixW p rs i=ixW p rs 0) (fun i=>rs.length-i) (fun i=>[(8,.int .i64 i)]) (fun _=>H) 0 rfl (by simp) rfl (by simp) ?_);intro i hx N Q hN hQ;by_cases hb:i<rs.length
 ·rw[ixW,dif_pos hb]at hx;have hc:=hp rs[i] (rQ hb);simp only[aI,LV]at hc;cases hq:p rs[i]
  ·rw[hq]at hc hx;refine wx ?_;simp -dsimp[hb,aI,LV];refine hc.mono ?_;rintro r H' ⟨rfl,rfl⟩;simp -dsimp[aH i (by omega)];refine hN (i+1) _ _ (by simpa using hx) (by omega) (by simp) ⟨[],by simp⟩ (by simp;exact hfv) hH
  ·rw[hq]at hc hx;refine wx ?_;simp -dsimp[hb,aI,LV];refine hc.mono ?_;rintro r H' ⟨rfl,rfl⟩;simp -dsimp[];refine hQ _ _ _ ?_;simp -dsimp[];simpa using hx
 ·rw[ixW,dif_neg hb]at hx;refine wx ?_;simp -dsimp[hb];refine hQ _ _ _ ?_;simp -dsimp[];simpa using hx
theorem ixW_fnd(rs:List Rw)(id:Int)(i:Nat):ixW (fun r=>decide (r.id=id)) rs i=if(fnd rs id i).2=true then((fnd rs id i).1:Int) else -1:=by
 fun_induction fnd rs id i with
 | case1 i hi he=>rw[ixW,dif_pos hi,if_pos (by simpa using he)];rfl
 | case2 i hi he ih=>rw[ixW,dif_pos hi,if_neg (by simpa using he)];exact ih
 | case3 i hi=>rw[ixW,dif_neg hi];rfl
theorem ixW_bs{t:Tb}(g:TbC t)(id:Int):ixW (fun r=>decide (r.id=id)) t.rows 0=if bj (aa t.rows) id=true then(bsP (aa t.rows) id:Int) else -1:=by
 rw[ixW_fnd,fnd_bs g];split<;>simp
theorem mQ{I D:List Int}{i:Nat}(h:i<D.length):ixE I (D.take (i+1))=ixE I (D.take i)++[bsP I D[i]]:=by
 unfold ixE;rw[rV h,sX];rfl
theorem gV(I D:List Int):(ixE I D).length=D.length:=by simp[ixE]
def plV(I D:List Int):V:=if plE I D=0 then .tup [Ln false (ixE I D),.int .i64 0] else .tup [.nilS,.int .i64 (plE I D)]
theorem plV_asc{I D:List Int}(h:asc D=false):plV I D = .tup [.nilS,.int .i64 1]:=by
 unfold plV plE;rw[h];rfl
theorem plV_no{I D:List Int}(h:asc D=true)(h2:dM D I=false):plV I D = .tup [.nilS,.int .i64 4]:=by
 unfold plV plE;rw[h,h2];rfl
theorem plV_yes{I D:List Int}(h:asc D=true)(h2:dM D I=true):plV I D = .tup [Ln false (ixE I D),.int .i64 0]:=by
 unfold plV plE;rw[h,h2];rfl
theorem nM(n e:Nat)(l:List Nat)(fz:Bool):rbB n (.buf e 1 (l.map eN) fz):=fun x hx=>by
 obtain⟨y,_,rfl⟩:=List.mem_map.1 hx;intro c hc;simp only[eN,V.cells,rU,rS,or_false]at hc;subst hc;simp[rb1]
theorem within_no{D I:List Int}{i:Nat}(hi:i<D.length)(h:bj I D[i]=false):dM D I=false:=by
 rw[←sg,dy];intro hw;have:=bI.2 (hw _ (rQ hi));rw[h]at this;cases this
theorem pE{D I:List Int}(h:∀a∈D.take D.length,a∈I):dM D I=true:=by
 rw[sJ]at h;exact dy.2 h
theorem take_in{D I:List Int}{i:Nat}(hi:i<D.length)(h:∀a∈D.take i,a∈I)(h2:bj I D[i]=true):∀a∈D.take (i+1),a∈I:=fun a ha=>by
 rw[rV hi]at ha
 rcases List.mem_append.1 ha with q | q
 ·exact h a q
 ·rw[sC]at q;rw[q];exact bI.1 h2
theorem qQ{H:List B}{a b c d:V}(h1:ExpX H a c)(h2:ExpX H b d):ExpX H (.tup [a,b]) (.tup [c,d]):=.tup _ _ rfl (fun i x y hx hy=>by
 match i with
 | 0=>simp at hx hy;subst hx;subst hy;exact h1
 | 1=>simp at hx hy;subst hx;subst hy;exact h2
 | i+2=>simp at hx)
theorem nt(t:Tb)(D:List Int)(f g fd:Bool)(hg:TbC t)(hr:t.rows.length≤1000000)(hD:D.length≤1000000):aL Tryz.prog 50 [aD f g t,L1 fd D] fun r=>r=plV (aa t.rows) D:=by
 have ca:=asc_r D fd hD;simp only[L1]at ca
 have hmem:=fun id=>fnd_bs hg id
 obtain⟨I,hI⟩:∃I,I=aa t.rows:=⟨_,rfl⟩;rw[←hI]at hmem ⊢
 have cf:=fun id=>find03 t f g id hr
 simp only[aD,LS,LR]at cf
 cases h1:asc D with
 | false =>
  rw[h1]at ca;rw[plV_asc h1];refine sPx Tryz.func50 rfl rfl ?_;simp -dsimp[Tryz.f50,rO,aD,LS,LR,L1];refine cPx (ca) (by simp) ?_;simp -dsimp[]
 | true =>
  rw[h1]at ca;refine bV (aF tok Tryz.func50 rfl rfl ?_);refine wx ?_;simp -dsimp[Tryz.f50,rO,aD,LS,LR,L1];refine cPx (ca) (by simp) ?_;simp -dsimp[];refine aG (bf 3 1 [6] (by simp) (W_loopM 34 0x3ffffe3f0 (by simp[mB]<;>rfl) (σ:=Nat) (fun i=>i≤D.length∧∀a∈D.take i,a∈I) (fun i=>D.length-i) (fun i=>[(7,.int .i64 i),(6,.buf 1 0 i i)]) (fun i=>[B.cells [.str t.name,.lst 1 f (t.attrs.map V.str),.lst 2 g (t.rows.map aI)],B.buf 3 1 ((ixE I (D.take i)).map eN) false]) 0 ⟨by omega,by simp⟩ (by simp) (by simp[ixE]) (by simp) ?_));rintro i ⟨hi,hin⟩ N Q hN hQ
  have hle:(ixE I (D.take i)).length=i:=by rw[gV];simp;omega
  by_cases hb:i<D.length
  ·have hs:=mQ (I:=I) hb;have hno:=within_no (I:=I) hb;have hti:=take_in (I:=I) hb hin;have hc:=cf D[i];rw[hmem]at hc;obtain⟨d,hd⟩:∃d,d=D[i]:=⟨_,rfl⟩;rw[←hd]at hs hno hti hc
   cases hm:bj I d with
   | false =>
    rw[hm]at hc;simp only[rn,if_false]at hc;refine wx ?_;simp -dsimp[hb,hd.symm,aE];refine .inr ⟨aC (by kernel_rfl),?_⟩;refine aN _ (aK (hc) (by simp)) ?_;simp -dsimp[];refine hQ _ _ _ ?_;simp -dsimp[];rw[plV_no h1 (hno hm)];exact⟨.pure _ (by simp),by simp⟩
   | true =>
    rw[hm]at hc;simp only[if_true]at hc;obtain⟨p,hp⟩:∃p,p=bsP I d:=⟨_,rfl⟩;rw[←hp]at hs hc;refine wx ?_;simp -dsimp[hb,hd.symm,aE];refine .inr ⟨aC (by kernel_rfl),?_⟩;refine aN _ (aK (hc) (by simp)) ?_;simp -dsimp[hle,go i (by omega),ai i (by omega),aH i (by omega)];refine hN (i+1) _ _ ⟨by omega,hti hm⟩ (by omega) (by simp) ⟨[],by simp[hs,eN]⟩ (by simp) (fun bl hbl=>?_);simp only[rU,rS,or_false]at hbl
    rcases hbl with rfl | rfl
    ·intro c hc;simp only[rU,rS,or_false]at hc;rcases hc with rfl | rfl | rfl<;>simp[rb,rb1]
    ·exact nM _ _ _ _
  ·obtain rfl:i=D.length:=by omega
   rw[sJ]at hle ⊢;refine wx ?_;simp -dsimp[hb];refine hQ _ _ _ ?_;simp -dsimp[];rw[plV_yes h1 (pE hin)];exact⟨qQ (dK rfl (by rw[sK,hle]) (by simp[eN])) (.pure _ (by simp)),by simp[Ln_pure]⟩
noncomputable def prV(t:Tb)(cs:List Cn)(w:List Int):V:=if prE t cs w=0 then aR false false (inW t w) (inE t cs) else .agg [.nilS,.nilS]
theorem fL{t:Tb}{cs:List Cn}{w:List Int}(h:prE t cs w=0):prV t cs w=aR false false (inW t w) (inE t cs):=by unfold prV;rw[if_pos h]
theorem ic{t:Tb}{cs:List Cn}{w:List Int}(h:¬prE t cs w=0):prV t cs w = .agg [.nilS,.nilS]:=by unfold prV;rw[if_neg h]
theorem lnB_rb(n e:Nat)(es:List (List Nat))(fz:Bool):rbB n (.buf e 1 (es.map (Ln false)) fz):=fun x hx=>by
 obtain⟨y,_,rfl⟩:=List.mem_map.1 hx;intro c hc;simp only[Ln,V.cells,rU,rS,or_false]at hc;subst hc;simp[rb1]
theorem gW(n e:Nat)(xs:List Int)(fz:Bool):rbB n (.buf e 1 (xs.map aE) fz):=fun x hx=>by
 obtain⟨y,_,rfl⟩:=List.mem_map.1 hx;intro c hc;simp only[aE,V.cells,rU,rS,or_false]at hc;subst hc;simp[rb1]
theorem cM{n:Nat}{a b:V}(ha:rb n a)(hb:rb n b):rbB n (.cells [a,b]):=fun c hc=>by
 simp only[rU,rS,or_false]at hc
 rcases hc with rfl | rfl
 ·exact ha
 ·exact hb
theorem ix_take{I:List Int}{E:List (List Int)}{j:Nat}(h:j<E.length):(E.take (j+1)).map (ixE I)=(E.take j).map (ixE I)++[ixE I E[j]]:=by
 rw[rV h,sX];rfl
theorem inW_nil(t:Tb):inW t []=rO t.rows.length 1:=by unfold inW;rw[if_pos rfl]
theorem inW_ne{t:Tb}{w:List Int}(h:w≠[]):inW t w=w:=by unfold inW;rw[if_neg h]
theorem rep_take(n i:Nat)(h:i<n):(rO n (1:Int)).take (i+1)=(rO n (1:Int)).take i++[1]:=by
 rw[rV (by simpa using h),List.getElem_replicate]
theorem kK(t:Tb)(cs:List Cn)(w:List Int)(f g fc fw:Bool)(h:BdOk t cs)(hw:w.length≤1000000):aL Tryz.prog 13 [aD f g t,LCn fc cs,L1 fw w] fun r=>r = .tup [prV t cs w,.int .i64 (prE t cs w)]:=by
 have cb:=build_u t cs f g fc h;have htB:B.cells [.str t.name,.lst 1 f (t.attrs.map V.str),.lst 2 g (t.rows.map aI)]=tcB t f g:=rfl
 have htr:∀n,rbB n (tcB t f g):=fun n=>bS n t f g
 by_cases h0:aV t cs=0
 case neg =>
  have he:prE t cs w=aV t cs:=by unfold prE;rw[if_neg h0]
  rw[ic (by rw[he];exact h0),he];rw[qt h0]at cb;obtain⟨e,hee⟩:∃e,e=aV t cs:=⟨_,rfl⟩;rw[←hee]at cb h0 ⊢;simp only[aD,LS,LR,LCn]at cb;refine sPx Tryz.func13 rfl rfl ?_;simp -dsimp[Tryz.f13,rO,aD,LS,LR,LCn,L1];refine cPx (cb) (by simp) ?_;simp -dsimp[h0]
 case pos =>
 rw[h0,jE h0]at cb;obtain⟨hsm,hh,hel⟩:=cA h h0;by_cases hl:w=[]∨w.length=t.rows.length
 case neg =>
  have he:prE t cs w=6:=by unfold prE;rw[if_pos h0,if_neg hl]
  rw[ic (by rw[he];decide),he];obtain⟨hl1,hl2⟩:=not_or.1 hl;have hl3:=List.length_pos_iff.2 hl1;simp only[aD,LS,LR,LCn,iK,L1,LL]at cb;refine sPx Tryz.func13 rfl rfl ?_;simp -dsimp[Tryz.f13,rO,aD,LS,LR,LCn,L1];refine cPx (cb) (by simp) ?_;simp -dsimp[show(0:Int)<w.length by omega,show ¬((w.length:Int)=t.rows.length) by omega,hl1,hl2,hl3]
 case pos =>
 have hV:prE t cs w=eI (inW t w) (inE t cs):=by unfold prE;rw[if_pos h0,if_pos hl]
 have hwl:=bt hl
 have hr8:t.rows.length≤8:=by
  obtain⟨_,h2,_⟩:=cG h0;have:=h.rows;omega
 have ha:asc (aa t.rows)=true:=(dr _).2 hh.va;have cc:=jA w fw hw
 have hel2:∀e∈inE t cs,e.length≤1000000:=fun e he=>by
  obtain⟨x,hx,rfl⟩:=List.mem_map.1 he;rw[gV];exact hsm.2.2 x hx
 have cv:=iH (inW t w) (inE t cs) false false hel2;have hIE:inE t cs=(ak (bQ t cs)).map (ixE (aa t.rows)):=rfl
 have hpv:prV t cs w=if eI (inW t w) (inE t cs)=0 then aR false false (inW t w) (inE t cs) else .agg [.nilS,.nilS]:=by unfold prV;rw[hV]
 rw[hpv,hV];have hIl:(aa t.rows).length≤1000000:=hsm.1
 have hW1:w=[]→inW t w=rO t.rows.length 1:=fun e=>by rw[e];exact inW_nil t
 have hW2:w≠[]→inW t w=w:=fun e=>inW_ne e
 obtain⟨VE,hVE⟩:∃VE,VE=eI (inW t w) (inE t cs):=⟨_,rfl⟩;rw[←hVE]at cv ⊢;rw[hIE]at cv ⊢;clear hpv hV hVE hIE hel2;obtain⟨I,hI⟩:∃I,I=aa t.rows:=⟨_,rfl⟩;obtain⟨E,hE⟩:∃E,E=ak (bQ t cs):=⟨_,rfl⟩;obtain⟨W0,hW0⟩:∃W0,W0=inW t w:=⟨_,rfl⟩;rw[←hI,←hE]at cb hh hsm;rw[←hI,←hE,←hW0]at cv ⊢;rw[←hI]at ha hIl;rw[←hE]at hel;rw[←hW0]at hwl hW1 hW2;obtain⟨_,_,hes⟩:=hsm;have hsub:=hh.sub;have hne:=hh.ne;clear hh hW0;obtain⟨n,hn⟩:∃n,n=t.rows.length:=⟨_,rfl⟩;rw[←hn]at hl hwl hr8 hW1;have hn2:=hn.symm
 have hrbA:∀(ws:List Int) (j:Nat) (l:List (List Nat)),∀bl∈[tcB t f g,B.cells [.nilS,.nilS],B.cells [.lst 1 false (I.map aE),.lst 1 false (E.map (L1 false))],B.buf 2 1 (ws.map aE) true,B.cells [.lst 1 false (ws.map aE),.buf 5 0 j j],B.buf 50 1 (l.map (Ln false)) false],rbB 6 bl:=fun ws j l bl hbl=>by
  simp only[rU,rS,or_false]at hbl
  rcases hbl with rfl | rfl | rfl | rfl | rfl | rfl
  ·exact htr _
  ·exact cM (by simp[rb]) (by simp[rb])
  ·exact cM (by simp[rb]) (by simp[rb])
  ·exact gW _ _ _ _
  ·exact cM (by simp[rb]) (by simp[rb,rb1])
  ·exact lnB_rb _ _ _ _
 have hrbB:∀(ws:List Int) (j:Nat) (l:List (List Nat)) (q:List Nat),∀bl∈[tcB t f g,B.cells [.nilS,.nilS],B.cells [.lst 1 false (I.map aE),.lst 1 false (E.map (L1 false))],B.buf 2 1 (ws.map aE) true,B.cells [.lst 1 false (ws.map aE),.buf 5 0 j j],B.buf 50 1 (l.map (Ln false)) false]++[B.buf 3 1 (q.map eN) false],rbB 7 bl:=fun ws j l q bl hbl=>by
  rcases List.mem_append.1 (show bl∈([tcB t f g,B.cells [.nilS,.nilS],B.cells [.lst 1 false (I.map aE),.lst 1 false (E.map (L1 false))],B.buf 2 1 (ws.map aE) true,B.cells [.lst 1 false (ws.map aE),.buf 5 0 j j],B.buf 50 1 (l.map (Ln false)) false])++[B.buf 3 1 (q.map eN) false] from hbl) with h9 | h9
  ·exact rbBM (by omega) (hrbA ws j l bl h9)
  ·rw[sC]at h9;subst h9;exact nM _ _ _ _
 have hrbW:∀(ws:List Int) (i:Nat),∀bl∈[tcB t f g,B.cells [.nilS,.nilS],B.cells [.lst 1 false (I.map aE),.lst 1 false (E.map (L1 false))],B.buf 2 1 (ws.map aE) false,B.cells [.buf 3 0 i i,.nilS]],rbB 5 bl:=fun ws i bl hbl=>by
  simp only[rU,rS,or_false]at hbl
  rcases hbl with rfl | rfl | rfl | rfl | rfl
  ·exact htr _
  ·exact cM (by simp[rb]) (by simp[rb])
  ·exact cM (by simp[rb]) (by simp[rb])
  ·exact gW _ _ _ _
  ·exact cM (by simp[rb,rb1]) (by simp[rb])
 simp only[aD,LS,LR,LCn,iK,L1,LL]at cb;simp only[L1]at cc;simp only[aR,L1,LLn,vE]at cv
 have hedge:∀(j:Nat),j<E.length→True:=fun _ _=>trivial
 by_cases hw0:w=[]
 case' pos =>
  have hW:=hW1 hw0;subst hw0;refine sPx Tryz.func13 rfl rfl ?_;simp -dsimp[Tryz.f13,rO,aD,LS,LR,LCn,L1];refine cPx (cb) (by simp) ?_;simp -dsimp[L1];refine(eY cc (by simp)).mono ?_;rintro r H' ⟨e,z,xs,rfl,rfl,_,rfl,rfl,rfl⟩;simp -dsimp[htB,L1];refine aG (W_loopM 58 0x3fc0c0000c80000 (by simp[mB]<;>rfl) (σ:=Nat) (fun i=>i≤n) (fun i=>n-i) (fun i=>[(50,.int .i64 i)]) (fun i=>[tcB t f g,B.cells [.nilS,.nilS],B.cells [.lst 1 false (I.map aE),.lst 1 false (E.map (L1 false))],B.buf 2 1 (((rO n (1:Int)).take i).map aE) false,B.cells [.buf 3 0 i i,.nilS]]) 0 (by omega) (by simp[hn2]) (by simp) (by simp) ?_);intro i hi N Q hN hQ;by_cases hb:i<n
  ·have hst:=rep_take n i hb
   have htl:((rO n (1:Int)).take i).length=i:=by simp;omega
   obtain⟨l,hle⟩:∃l,l=(rO n (1:Int)).take i:=⟨_,rfl⟩;rw[←hle]at hst htl ⊢;refine wx ?_;simp -dsimp[hb,hn2,htl,go i (by omega),ai i (by omega),aH i (by omega),L1];refine hN (i+1) _ _ (by omega) (by omega) (by simp[hn2]) ⟨[],by simp[hst,aE]⟩ (by simp) (hrbW _ _)
  obtain rfl:i=n:=by omega
  have hWt:(rO i (1:Int)).take i=W0:=by rw[hW,rt (by simp)]
  rw[hWt];refine wx ?_;simp -dsimp[hb,hn2,L1];refine hQ _ _ _ ?_;simp -dsimp[L1]
 case' neg =>
  have hW:=hW2 hw0;have hwl2:w.length=n:=hl.resolve_left hw0;have hl3:=List.length_pos_iff.2 hw0
  have hn0:0<n:=by omega
  refine sPx Tryz.func13 rfl rfl ?_;simp -dsimp[Tryz.f13,rO,aD,LS,LR,LCn,L1];refine cPx (cb) (by simp) ?_;simp -dsimp[hwl2,hn2,hn0,hw0,show(0:Int)<(n:Int) by omega,show ¬n=0 by omega,show ¬(n:Int)=0 by omega,L1];refine(eY cc (by simp)).mono ?_;rintro r H' ⟨e,z,xs,rfl,rfl,_,rfl,rfl,rfl⟩;simp -dsimp[htB,hwl2,hw0,show ¬n=0 by omega,show ¬(n:Int)=0 by omega,L1];rw[←hW]
 all_goals
  refine aG (eT 3 [] 4 [0] rfl rfl (by simp) (by simp[hwl]) (eS 50 1 [] 4 [1] rfl (by simp) (by simp) (W_loopM 90 0x3ffffffe0000c0000cbb000 (by simp[mB]<;>rfl) (σ:=Nat) (fun j=>j≤E.length) (fun j=>E.length-j) (fun j=>[(61,.int .i64 j)]) (fun j=>[tcB t f g,B.cells [.nilS,.nilS],B.cells [.lst 1 false (I.map aE),.lst 1 false (E.map (L1 false))],B.buf 2 1 (W0.map aE) true,B.cells [.lst 1 false (W0.map aE),.buf 5 0 j j],B.buf 50 1 (((E.take j).map (ixE I)).map (Ln false)) false]) 0 (by omega) (by simp) (by simp) (by simp) ?_)));intro j hj N2 Q2 hN2 hQ2
  have hjl:((E.take j).map (ixE I)).length=j:=by simp;omega
  by_cases hjb:j<E.length
  ·have hst:=ix_take (I:=I) hjb;have he1:=hes _ (rQ hjb);have he2:=hne _ (rQ hjb);have he3:=hsub _ (rQ hjb);obtain⟨e,hee⟩:∃e,e=E[j]:=⟨_,rfl⟩;rw[←hee]at hst he1 he2 he3;obtain⟨P,hP⟩:∃P,P=(E.take j).map (ixE I):=⟨_,rfl⟩;rw[←hP]at hst hjl ⊢;refine wx ?_;simp -dsimp[hjb,hee.symm,L1];refine aG (bf 3 1 [13] (by simp) (W_loopM 83 0x7fff8000000000003a000 (by simp[mB]<;>rfl) (σ:=Nat) (fun k=>k≤e.length) (fun k=>e.length-k) (fun k=>[(67,.int .i64 k),(13,.buf 6 0 k k)]) (fun k=>[tcB t f g,B.cells [.nilS,.nilS],B.cells [.lst 1 false (I.map aE),.lst 1 false (E.map (L1 false))],B.buf 2 1 (W0.map aE) true,B.cells [.lst 1 false (W0.map aE),.buf 5 0 j j],B.buf 50 1 (P.map (Ln false)) false]++[B.buf 3 1 ((ixE I (e.take k)).map eN) false]) 0 (by omega) (by simp) (by simp[ixE]) (by simp) ?_));intro k hk N3 Q3 hN3 hQ3
   have hkl:(ixE I (e.take k)).length=k:=by rw[gV];simp;omega
   simp only[sP,rx];by_cases hkb:k<e.length
   ·have hst2:=mQ (I:=I) hkb;have hin:=he3 _ (rQ hkb);obtain⟨x,hx⟩:∃x,x=e[k]:=⟨_,rfl⟩;rw[←hx]at hst2 hin;have cs2:=bsearch64 I x false hIl;simp only[L1]at cs2;obtain⟨p,hp⟩:∃p,p=bsP I x:=⟨_,rfl⟩;rw[←hp]at hst2 cs2;obtain⟨q,hq⟩:∃q,q=ixE I (e.take k):=⟨_,rfl⟩;rw[←hq]at hst2 hkl ⊢;refine wx ?_;simp -dsimp[hkb,hx.symm,aE,L1];refine cPx (cs2) (by simp) ?_;simp -dsimp[hkl,go k (by omega),ai k (by omega),aH k (by omega),L1];refine hN3 (k+1) _ _ (by omega) (by omega) (by simp) ⟨[],by simp[hst2,eN]⟩ (by simp) (hrbB _ _ _ _)
   ·obtain rfl:k=e.length:=by omega
    rw[sJ]at hkl ⊢;obtain⟨q,hq⟩:∃q,q=ixE I e:=⟨_,rfl⟩;rw[←hq]at hst hkl ⊢;refine cy 6 [13] rfl (by simp[hkl]) ?_;refine wx ?_;simp -dsimp[hkb,L1];refine hQ3 _ _ _ ?_;simp -dsimp[hjl,fI j (by omega),ai j (by omega),aH j (by omega),L1];refine hN2 (j+1) _ _ (by omega) (by omega) (by simp) ⟨[B.buf 3 1 (q.map eN) true],by simp[hst,Ln]⟩ (by simp) (hrbA _ _ _)
  ·obtain rfl:j=E.length:=by omega
   rw[sJ];refine eT 5 [] 4 [1] rfl rfl (by simp) (by simp) ?_;refine wx ?_;simp -dsimp[hjb,L1];refine hQ2 _ _ _ ?_;simp -dsimp[L1];refine cPx (cv) (by simp) ?_;by_cases hz:VE=0
   ·subst hz;rw[if_pos rfl];simp -dsimp[L1];simp[aR,L1,LLn]
   ·rw[if_neg hz];simp -dsimp[hz,L1]
theorem tb_rb(n:Nat)(t:Tb)(f g:Bool):rbB n (B.cells [.str t.name,.lst 1 f (t.attrs.map V.str),.lst 2 g (t.rows.map aI)]):=bS n t f g
theorem one_rb{n:Nat}{a:V}(ha:rb n a):rbB n (.cells [a]):=fun c hc=>by
 simp only[rU,rS,or_false]at hc;subst hc;exact ha
theorem intB4_rb(n e:Nat)(xs:List Int)(fz:Bool):rbB n (.buf e 1 (xs.map aE) fz):=fun x hx=>by
 obtain⟨y,_,rfl⟩:=List.mem_map.1 hx;intro c hc;simp only[aE,V.cells,rU,rS,or_false]at hc;subst hc;simp[rb1]
theorem places_u(t:Tb)(D:List Int)(f g fd:Bool)(hg:TbC t)(hr:t.rows.length≤1000000)(hD:D.length≤1000000):aL Tryz.prog 54 [aD f g t,L1 fd D] fun r=>r=plV (aa t.rows) D:=by
 have hmem:=fun id=>ixW_bs hg id
 obtain⟨I,hI⟩:∃I,I=aa t.rows:=⟨_,rfl⟩;rw[←hI];rw[←hI]at hmem;refine bV (aF tok Tryz.func54 rfl rfl ?_);refine wx ?_;simp -dsimp[Tryz.f54,rO,aD,LS,LR,L1];refine aG (W_loopM 27 0x7fff870 (by simp[mB]<;>rfl) (σ:=Nat) (fun i=>1≤i∧eu D i=asc D) (fun i=>D.length-i) (fun i=>[(6,.int .i64 i)]) (fun _=>[B.cells [.str t.name,.lst 1 f (t.attrs.map V.str),.lst 2 g (t.rows.map aI)]]) 1 ⟨by omega,rfl⟩ (by simp) (by simp) (by simp) ?_);rintro i ⟨hi,hx⟩ N Q hN hQ;by_cases hb:i<D.length
 ·have hb2:i-1<D.length:=by omega
  rw[eu,dif_pos hb]at hx;obtain⟨x,hxe⟩:∃x,x=D[i]:=⟨_,rfl⟩;obtain⟨y,hye⟩:∃y,y=D[i-1]:=⟨_,rfl⟩;rw[←hxe,←hye]at hx;by_cases hle:x≤y
  ·rw[if_pos hle]at hx;refine wx ?_;simp -dsimp[hb,hb2,hxe.symm,hye.symm,hle,aE,hU i (by omega) hi];refine .inr ⟨aC (by kernel_rfl),?_⟩;refine hQ _ _ _ ?_;simp -dsimp[];rw[plV_asc hx.symm];exact⟨.pure _ (by simp),by simp⟩
  ·rw[if_neg hle]at hx;refine wx ?_;simp -dsimp[hb,hb2,hxe.symm,hye.symm,hle,aE,hU i (by omega) hi];refine .inr ⟨aC (by kernel_rfl),?_⟩;simp -dsimp[aH i (by omega)];refine hN (i+1) _ _ ⟨by omega,hx⟩ (by omega) (by simp) ⟨[],by simp⟩ (by simp) (by simp)
 rw[eu,dif_neg hb]at hx;have h1:=hx.symm;refine wx ?_;simp -dsimp[hb];refine hQ _ _ _ ?_;simp -dsimp[];refine aG (bf 3 1 [7] (by simp) (W_loopM 44 0xfffe00006b0 (by simp[mB]<;>rfl) (σ:=Nat) (fun i=>i≤D.length∧∀a∈D.take i,a∈I) (fun i=>D.length-i) (fun i=>[(29,.int .i64 i),(7,.buf 1 0 i i)]) (fun i=>[B.cells [.str t.name,.lst 1 f (t.attrs.map V.str),.lst 2 g (t.rows.map aI)],B.buf 3 1 ((ixE I (D.take i)).map eN) false]) 0 ⟨by omega,by simp⟩ (by simp) (by simp[ixE]) (by simp) ?_));rintro i ⟨hi,hin⟩ N2 Q2 hN2 hQ2
 have hle:(ixE I (D.take i)).length=i:=by rw[gV];simp;omega
 by_cases hb:i<D.length
 ·have hs:=mQ (I:=I) hb;have hno:=within_no (I:=I) hb;have hti:=take_in (I:=I) hb hin;obtain⟨d,hd⟩:∃d,d=D[i]:=⟨_,rfl⟩;rw[←hd]at hs hno hti;obtain⟨q,hq⟩:∃q,q=ixE I (D.take i):=⟨_,rfl⟩;rw[←hq]at hs hle ⊢
  have hH3:∀bl∈[B.cells [.str t.name,.lst 1 f (t.attrs.map V.str),.lst 2 g (t.rows.map aI)],B.buf 3 1 (q.map eN) false,B.cells [.int .i64 d]],rbB 3 bl:=fun bl hbl=>by
   simp only[rU,rS,or_false]at hbl
   rcases hbl with rfl | rfl | rfl
   ·exact tb_rb _ _ _ _
   ·exact nM _ _ _ _
   ·exact one_rb (by simp[rb,rb1])
  have hcl:∀m∈t.rows,aQ Tryz.prog (.fn 97 [.ptr 2 0]) [aI m] [B.cells [.str t.name,.lst 1 f (t.attrs.map V.str),.lst 2 g (t.rows.map aI)],B.buf 3 1 (q.map eN) false,B.cells [.int .i64 d]] fun r H'=>r = .bool (decide (m.id=d))∧H'=[B.cells [.str t.name,.lst 1 f (t.attrs.map V.str),.lst 2 g (t.rows.map aI)],B.buf 3 1 (q.map eN) false,B.cells [.int .i64 d]]:=fun m _=>by
   simp only[aQ,sP,rx];refine ei ?_ (by simp[rb,rb1]) hH3;by_cases hm:m.id=d
   ·rw[decide_eq_true hm];refine aF tok Tryz.func97 rfl rfl ?_;refine wx ?_;simp -dsimp[Tryz.f97,rO,aI,LV,hm]
   ·rw[decide_eq_false hm];refine aF tok Tryz.func97 rfl rfl ?_;refine wx ?_;simp -dsimp[Tryz.f97,rO,aI,LV,hm]
  have hcf:=idxFuncW [B.cells [.str t.name,.lst 1 f (t.attrs.map V.str),.lst 2 g (t.rows.map aI)],B.buf 3 1 (q.map eN) false,B.cells [.int .i64 d]] (.fn 97 [.ptr 2 0]) (fun m=>decide (m.id=d)) t.rows g hr hH3 (by simp[rb,rb1]) hcl;rw[hmem]at hcf;simp only[LR]at hcf
  cases hm:bj I d with
  | false =>
   rw[hm]at hcf;simp only[rn,if_false]at hcf;refine wx ?_;simp -dsimp[hb,hd.symm,aE];refine bD hcf ?_;rintro _ _ ⟨rfl,rfl⟩;simp -dsimp[];refine hQ2 _ _ _ ?_;simp -dsimp[];rw[plV_no h1 (hno hm)];exact⟨.pure _ (by simp),by simp⟩
  | true =>
   rw[hm]at hcf;simp only[if_true]at hcf;obtain⟨p,hp⟩:∃p,p=bsP I d:=⟨_,rfl⟩;rw[←hp]at hs hcf;refine wx ?_;simp -dsimp[hb,hd.symm,aE];refine bD hcf ?_;rintro _ _ ⟨rfl,rfl⟩;simp -dsimp[hle,show ¬((p:Int)<0) by omega,go i (by omega),ai i (by omega),aH i (by omega)];refine hN2 (i+1) _ _ ⟨by omega,hti hm⟩ (by omega) (by simp) ⟨[B.cells [.int .i64 d]],by simp[hs,eN]⟩ (by simp) (fun bl hbl=>?_);simp only[rU,rS,or_false]at hbl
   rcases hbl with rfl | rfl
   ·exact tb_rb _ _ _ _
   ·exact nM _ _ _ _
 ·obtain rfl:i=D.length:=by omega
  rw[sJ]at hle ⊢;refine wx ?_;simp -dsimp[hb];refine hQ2 _ _ _ ?_;simp -dsimp[];rw[plV_yes h1 (pE hin)];exact⟨qQ (dK rfl (by rw[sK,hle]) (by simp[eN])) (.pure _ (by simp)),by simp[Ln_pure]⟩
theorem hits_u(I:List Int)(E:List (List Int))(D:List Int)(f g fd:Bool)(hs:Small I E)(hD:D.length≤1000000):aL Tryz.prog 71 [iK f g I E,L1 fd D] fun r=>r = .bool (eA E D):=by
 obtain⟨hv,he,hes⟩:=hs
 have hrb:∀bl∈[B.cells [L1 f I,LL g E],B.cells [L1 fd D]],rbB 2 bl:=fun bl hbl=>by
  simp only[rU,rS,or_false]at hbl
  rcases hbl with rfl | rfl
  ·intro c hc;simp only[rU,rS,or_false]at hc
   rcases hc with rfl | rfl<;>exact bq (by simp) rfl
  ·exact one_rb (bq (by simp) rfl)
 have hin:∀a,aQ Tryz.prog (.fn 119 [.ptr 1 0]) [.int .i64 a] [B.cells [L1 f I,LL g E],B.cells [L1 fd D]] fun r H'=>r = .bool (bj D a)∧H'=[B.cells [L1 f I,LL g E],B.cells [L1 fd D]]:=fun a=>by
  have hc:=qb D a fd hD;simp only[aQ,sP,rx];refine aF tok Tryz.func119 rfl rfl ?_;refine wx ?_;simp -dsimp[Tryz.f119,rO];refine cPx (hc) (by simp) ?_;simp -dsimp[]
 have hmid:∀m∈E,aQ Tryz.prog (.fn 118 [.ptr 1 0]) [L1 false m] [B.cells [L1 f I,LL g E],B.cells [L1 fd D]] fun r H'=>r = .bool (!(m.any fun a=>bj D a))∧H'=[B.cells [L1 f I,LL g E],B.cells [L1 fd D]]:=fun m hm=>by
  have hcf:=contFunc64 [B.cells [L1 f I,LL g E],B.cells [L1 fd D]] (.fn 119 [.ptr 1 0]) (fun a=>bj D a) m false (hes m hm) hrb (by simp[rb,rb1]) (fun a _=>hin a);simp only[aQ,sP,rx];refine aF tok Tryz.func118 rfl rfl ?_;refine wx ?_;simp -dsimp[Tryz.f118,rO];refine bD hcf ?_;rintro _ _ ⟨rfl,rfl⟩;simp -dsimp[]
 have hcf:=contFunc [B.cells [L1 f I,LL g E],B.cells [L1 fd D]] (.fn 118 [.ptr 1 0]) (fun m=>!(m.any fun a=>bj D a)) E g he hrb (by simp[rb,rb1]) hmid
 have hEq:eA E D = !(E.any fun m=>!(m.any fun a=>bj D a)):=by
  unfold eA;rw[List.all_eq_not_any_not]
 rw[hEq];refine sPx Tryz.func71 rfl rfl ?_;simp -dsimp[Tryz.f71,rO,iK];refine bD hcf ?_;rintro _ _ ⟨rfl,rfl⟩;simp -dsimp[]
section
theorem enc_get{xs:List Int}{i:Nat}(h:i<(xs.map aE).length):(xs.map aE)[i] = .int .i64 (xs.getD i 0):=by
 have h2:i<xs.length:=by simpa using h
 simp[aE,h2]
theorem enc_set(xs:List Int)(i:Nat)(v:Int):(xs.map aE).set i (.int .i64 v)=(xs.set i v).map aE:=by
 rw[uM];rfl
theorem enc_fill(ys:List Int)(k n:Nat)(hn:ys.length=n):uH k (ys.map aE)++(rO (n-k) (V.int .i64 0)++vI n (ys.map aE))=(ys.take k++rO (n-k) 0).map aE:=by
 rw[rR (by simp;omega),rj,sX,tj,List.map_replicate];rfl
section
variable {H:List B} {k0:Nat}
structure DfI (q:Int→Bool) (xs ys:List Int) (i j:Nat):Prop where
 lt:i<j
 len:ys.length=xs.length
 tk:ys.take i=(xs.take j).filter q
 il:i=((xs.take j).filter q).length
 hi:∀k,j≤k→ys.getD k 0=xs.getD k 0
end
end
end
end Go.Proofs.YtjogkbekekdkjaaGreatDoor
