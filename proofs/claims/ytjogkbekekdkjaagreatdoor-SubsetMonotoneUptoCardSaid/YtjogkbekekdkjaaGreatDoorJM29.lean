/- JM29: own texts of this seat, joined and shortened by pack4.py: SB3, SB6, SB7, SB8, SB9, SB10, SB11, SC1, SC2. -/
import Derived.Test.YtjogkbekekdkjaaGreatDoorJM23
import Derived.Test.YtjogkbekekdkjaaGreatDoorJM28
set_option linter.unusedVariables false
set_option linter.unusedSimpArgs false
set_option maxRecDepth 100000
set_option maxHeartbeats 64000000
open Bool renaming and_eq_true→pC,true_and→pP,not_eq_true'→pg,not_eq_true→qc,eq_iff_iff→qo
open List renaming replicate→ou,getElem_mem→ow,not_mem_nil→pA,mem_cons→pD,range→pG,take_succ_eq_append_getElem→pJ,nil_append→pU,all_eq_true→pV,mem_cons_self→pW,take_of_length_le→pX,length_filter_le→pY,mem_singleton→pe,cons_append→pn,take_length→pt,map_append→qB,mem_filter→qH,length_set→qK,length_eraseIdx_of_lt→qT,getD→qZ,mem_append_right→qe,mem_append_left→qx,filter_cons→rH,pairwise_map→rX,any_eq_true→rY,mem_map→rh,length_range→sI,map_map→sO
open Nat renaming le_refl→pI,le_trans→ph,pow_le_pow_right→qD,add_zero→qz,lt_trichotomy→rA,testBit_lt_two_pow→rC,pow_succ→sP,add_comm→sW
namespace Go.Proofs.YtjogkbekekdkjaaGreatDoor
section
open Go Go.AM
def dT(I:List Int)(T:Nat→Bool):List Int:=((pG I.length).filter T).map fun v=>I.getD v 0
def tD(I D:List Int):Nat→Bool:=fun v=>iI D (I.getD v 0)
theorem kY{I:List Int}{v:Nat}(h:v<I.length):I.getD v 0=I[v]:=by simp[qZ,h]
theorem dT_mem{I:List Int}{T:Nat→Bool}{a:Int} : a∈dT I T↔∃(v:Nat) (h:v<I.length),T v=true∧I[v]=a:=by
 unfold dT;rw[rh];constructor
 ·rintro⟨v,hv,rfl⟩;obtain⟨h1,h2⟩:=List.mem_filter.1 hv;have h3:=List.mem_range.1 h1;exact⟨v,h3,h2,(kY h3).symm⟩
 ·rintro⟨v,h,h2,rfl⟩;exact⟨v,List.mem_filter.2 ⟨List.mem_range.2 h,h2⟩,kY h⟩
theorem dT_at{I:List Int}(hI:I.Pairwise (· < ·)){T:Nat→Bool}{v:Nat}(h:v<I.length):iI (dT I T) I[v]=T v:=by
 rw[qo,gh,dT_mem];constructor
 ·rintro⟨u,hu,h1,h2⟩;have hp:=List.pairwise_iff_getElem.1 hI
  rcases rA u v with q | q | q
  ·have:=hp u v hu h q;omega
  ·rw[←q];exact h1
  ·have:=hp v u h hu q;omega
 ·exact fun h1=>⟨v,h,h1,rfl⟩
theorem dT_asc{I:List Int}(hI:I.Pairwise (· < ·))(T:Nat→Bool):(dT I T).Pairwise (· < ·):=by
 unfold dT;rw[rX];have h1:((pG I.length).filter T).Pairwise (· < ·):=List.pairwise_lt_range.filter _;refine List.Pairwise.imp_of_mem ?_ h1;intro a b ha hb hab;have h2:=List.mem_range.1 (List.mem_filter.1 ha).1;have h3:=List.mem_range.1 (List.mem_filter.1 hb).1;rw[kY h2,kY h3];exact List.pairwise_iff_getElem.1 hI a b h2 h3 hab
theorem wI_snoc:∀(I ws:List Int) (a w:Int) (D:List Int),I.length=ws.length→wI (I++[a]) (ws++[w]) D=wI I ws D+if iI D a=true then w else 0
 | [],[],a,w,D,_=>by simp[wI]
 | b::I,v::ws,a,w,D,h=>by
  rw[pn,pn,wI,wI,wI_snoc I ws a w D (by simpa using h)];omega
 | [],_::_,_,_,_,h=>by simp at h
 | _::_,[],_,_,_,h=>by simp at h
theorem lN{I ws:List Int}(hl:ws.length=I.length){T:Nat→Bool}{D:List Int}(hT:∀(v:Nat) (h:v<I.length),iI D I[v]=T v):iC ws T I.length=wI I ws D:=by
 have key:∀k,k≤I.length→iC ws T k=wI (I.take k) (ws.take k) D:=by
  intro k
  induction k with
  | zero=>intro _;simp[iC,wI]
  | succ k ih =>
   intro hk;rw[iC,ih (by omega),pJ (show k<I.length by omega),pJ (show k<ws.length by omega),wI_snoc _ _ _ _ _ (by simp;omega),hT k (by omega),kY (show k<ws.length by omega)]
 have:=key I.length (pI _)
 rwa [pt,←hl,pt,hl]at this
theorem nN{I:List Int}{E:List (List Int)}(h:Hyp I E){T:Nat→Bool}{D:List Int}(hT:∀(v:Nat) (h:v<I.length),iI D I[v]=T v):(∀e∈E.map (ixE I),∃v∈e,T v=true)↔kJ E D=true:=by
 have ha:=(jJ I).2 h.va;rw[lr];constructor
 ·intro hh e he;obtain⟨v,hv,ht⟩:=hh (ixE I e) (List.mem_map.2 ⟨e,he,rfl⟩);obtain⟨a,hA,rfl⟩:=List.mem_map.1 hv;obtain⟨q1,q2⟩:=jS ha (h.sub e he a hA);refine⟨a,hA,?_⟩;rw[←hT _ q1,gh,q2]at ht;exact ht
 ·intro hh e he;obtain⟨x,hx,rfl⟩:=List.mem_map.1 he;obtain⟨a,hA,hD⟩:=hh x hx;obtain⟨q1,q2⟩:=jS ha (h.sub x hx a hA);refine⟨bsP I a,List.mem_map.2 ⟨a,hA,rfl⟩,?_⟩;rw[←hT _ q1,gh,q2];exact hD
theorem tD_at{I D:List Int}(v:Nat)(h:v<I.length):iI D I[v]=tD I D v:=by unfold tD;rw[kY h]
theorem minI_of{I ws:List Int}{E:List (List Int)}(h:Hyp I E)(hl:ws.length=I.length){T:Nat→Bool}(hT:MinOk I.length ws (E.map (ixE I)) T):MinI I ws E (iC ws T I.length) where
 at_:=⟨dT I T,(nN h fun v hv=>dT_at h.va hv).1 hT.h,(lN hl fun v hv=>dT_at h.va hv).symm⟩
 le D hD:=by
  have:=hT.m (tD I D) ((nN h fun v hv=>tD_at v hv).2 hD)
  rwa [lN (T:=tD I D) hl fun v hv=>tD_at v hv]at this
theorem min_minimal{I ws:List Int}{E:List (List Int)}(h:Hyp I E)(hl:ws.length=I.length)(hp:∀w∈ws,1≤w){T:Nat→Bool}(hT:MinOk I.length ws (E.map (ixE I)) T){a:Int}(ha:a∈dT I T):kJ E ((dT I T).filter fun x=>!decide (x=a))=false:=by
 rw[←qc];intro hh;have hm:=(minI_of h hl hT).le _ hh;rw[lN hl fun v hv=>dT_at h.va hv]at hm;obtain⟨v,hv,h1,rfl⟩:=dT_mem.1 ha
 have hv':v<ws.length:=by omega
 rw[kD I ws _ v hv hv',kD I ws ((dT I T).filter _) v hv hv',if_pos (gh.2 ha),if_neg (by rw[gh,qH];simp)]at hm
 have hc:wI (I.eraseIdx v) (ws.eraseIdx v) ((dT I T).filter fun x=>!decide (x=I[v]))=wI (I.eraseIdx v) (ws.eraseIdx v) (dT I T):=nW _ _ fun b hb=>by
  rw[List.mem_eraseIdx_iff_getElem]at hb;obtain⟨j,hj,hjv,rfl⟩:=hb;rw[qH];refine⟨fun q=>q.1,fun q=>⟨q,?_⟩⟩;have hpw:=List.pairwise_iff_getElem.1 h.va
  have hne:I[j]≠I[v]:=fun e=>by
   rcases rA j v with q | q | q
   ·have:=hpw j v hj hv q;omega
   ·exact hjv q
   ·have:=hpw v j hv hj q;omega
  simpa using hne
 have:=hp _ (ow hv');rw[hc]at hm;omega
end
end Go.Proofs.YtjogkbekekdkjaaGreatDoor
section
namespace Go.Proofs.YtjogkbekekdkjaaGreatDoor
open Go Go.AM
end Go.Proofs.YtjogkbekekdkjaaGreatDoor
end
namespace Go.Proofs.YtjogkbekekdkjaaGreatDoor
section
open Go Go.AM
noncomputable def prE(t:Tb)(cs:List Cn)(w:List Int):Int:=if db t cs=0 then(if w=[]∨w.length=t.rows.length then kF (inW t w) (inE t cs) else 6) else db t cs
theorem lX{t:Tb}{cs:List Cn}{w:List Int}(h:prE t cs w=0):db t cs=0∧(w=[]∨w.length=t.rows.length)∧HsB (inW t w) (inE t cs):=by
 unfold prE at h;split at h
 ·rename_i h1;split at h
  ·rename_i h2;exact⟨h1,h2,iz.1 h⟩
  ·cases h
 ·rename_i h1;exact absurd h h1
theorem inE_len(t:Tb)(cs:List Cn):(inE t cs).length=(gj (gx t cs)).length:=by simp[inE]
theorem inE_ed{t:Tb}{cs:List Cn}(hb:BdOk t cs)(h:db t cs=0):mf t.rows.length (inE t cs):=by
 obtain⟨_,hh,_⟩:=hY hb h;intro e he;obtain⟨x,hx,rfl⟩:=List.mem_map.1 he;have:=ixE_ok hh hx
 rwa [gv]at this
theorem pr_hsb{t:Tb}{cs:List Cn}{w:List Int}(hb:BdOk t cs)(h:db t cs=0)(hl:w=[]∨w.length=t.rows.length)(hw:∀x∈w,1≤x∧x≤1000000):HsB (inW t w) (inE t cs):=by
 have hn:=iA hl
 have h8:t.rows.length≤8:=by
  obtain⟨_,h2,_⟩:=hU h;have:=hb.rows;omega
 refine⟨fun v hv=>?_,by omega,?_,?_⟩
 ·rw[gf _ _ hv];exact inW_rng hw _ (ow hv)
 ·rw[inE_len];have:=edges_585 hb h;omega
 ·rw[hn];exact inE_ed hb h
theorem nE{t:Tb}{cs:List Cn}{w:List Int}(hb:BdOk t cs)(h:db t cs=0)(hl:w=[]∨w.length=t.rows.length)(hw:∀x∈w,1≤x∧x≤1000000):prE t cs w=0:=by
 unfold prE;rw[if_pos h,if_pos hl,iz];exact pr_hsb hb h hl hw
theorem hsb_pos{ws:List Int}{es:List (List Nat)}(h:HsB ws es):∀w∈ws,1≤w:=fun w hw=>by
 obtain⟨i,hi,rfl⟩:=List.mem_iff_getElem.1 hw;have:=h.w i hi;rw[gf _ _ hi]at this;exact this.1
theorem pr_min{t:Tb}{cs:List Cn}{w:List Int}(hb:BdOk t cs)(h:prE t cs w=0){T:Nat→Bool}(hT:MinOk (inW t w).length (inW t w) (inE t cs) T):MinI (dl t.rows) (inW t w) (gj (gx t cs)) (iC (inW t w) T (inW t w).length):=by
 obtain⟨h1,h2,h3⟩:=lX h;obtain⟨_,hh,_⟩:=hY hb h1
 have hl:(inW t w).length=(dl t.rows).length:=by rw[iA h2,gv]
 rw[hl]at hT ⊢;exact minI_of hh hl hT
theorem pr_minimal{t:Tb}{cs:List Cn}{w:List Int}(hb:BdOk t cs)(h:prE t cs w=0){T:Nat→Bool}(hT:MinOk (inW t w).length (inW t w) (inE t cs) T):kJ (gj (gx t cs)) (dT (dl t.rows) T)=true∧∀a∈dT (dl t.rows) T,kJ (gj (gx t cs)) ((dT (dl t.rows) T).filter fun x=>!decide (x=a))=false:=by
 obtain⟨h1,h2,h3⟩:=lX h;obtain⟨_,hh,_⟩:=hY hb h1
 have hl:(inW t w).length=(dl t.rows).length:=by rw[iA h2,gv]
 rw[hl]at hT;exact⟨(nN hh fun v hv=>dT_at hh.va hv).1 hT.h,fun a ha=>min_minimal hh hl (hsb_pos h3) hT ha⟩
def hasJ(b:Int)(i:Nat):Bool:=IntKind.i64.wrap ↑((b.fdiv (2^min i IntKind.i64.bits) % 2^IntKind.i64.bits).toNat &&& 1 % 2^IntKind.i64.bits)== 1
theorem hasJ_all:∀b:Fin 512,∀i:Fin 9,hasJ (b.val:Int) i.val=b.val.testBit i.val:=of_decide_eq_true (by kernel_rfl)
theorem hasJ_bit{b i:Nat}(hb:b<512)(hi:i<9):hasJ (b:Int) i=b.testBit i:=hasJ_all ⟨b,hb⟩ ⟨i,hi⟩
def bnF(P:Nat→Bool):Nat→Nat
 | 0=>0
 | n+1=>bnF P n+if P n=true then 2^n else 0
theorem bnF_lt(P:Nat→Bool):∀n,bnF P n<2^n
 | 0=>by simp[bnF]
 | n+1=>by
  have:=bnF_lt P n;rw[bnF,sP];split<;>omega
theorem bnF_bit(P:Nat→Bool):∀n i,i<n→(bnF P n).testBit i=P i
 | 0,i,h=>by omega
 | n+1,i,h=>by
  have hl:=bnF_lt P n;rw[bnF];by_cases hp:P n=true
  ·rw[if_pos hp,sW];by_cases e:i=n
   ·subst e;rw[Nat.testBit_two_pow_add_eq,rC hl,hp];rfl
   ·rw[Nat.testBit_two_pow_add_gt (by omega),bnF_bit P n i (by omega)]
  ·rw[if_neg hp,qz];by_cases e:i=n
   ·subst e;rw[rC hl];cases h2:P i
    ·rfl
    ·exact absurd h2 hp
   ·exact bnF_bit P n i (by omega)
def jy(b:Int)(i:Nat):List Nat:=(pG i).filter (hasJ b)
theorem selN_lt{b:Int}{i v:Nat}(h:v∈jy b i):v<i:=List.mem_range.1 (List.mem_filter.1 h).1
def nB(es:List (List Nat))(l:List Nat):Bool:=es.all fun e=>meetsE e l
theorem hitN_iff{es:List (List Nat)}{l:List Nat} : nB es l=true↔∀e∈es,∃v∈e,v∈l:=by
 unfold nB;rw[pV]
 refine forall_congr' fun e=>forall_congr' fun _=>?_
 unfold meetsE;rw[rY];exact⟨fun⟨a,h1,h2⟩=>⟨a,h1,List.contains_iff_mem.1 h2⟩,fun⟨a,h1,h2⟩=>⟨a,h1,List.contains_iff_mem.2 h2⟩⟩
theorem hitN_sel{n:Nat}{es:List (List Nat)}(hE:mf n es){T:Nat→Bool} : nB es ((pG n).filter T)=true↔∀e∈es,∃v∈e,T v=true:=by
 rw[hitN_iff]
 refine forall_congr' fun e=>forall_congr' fun he=>?_
 constructor
 ·rintro⟨v,h1,h2⟩;exact⟨v,h1,(List.mem_filter.1 h2).2⟩
 ·rintro⟨v,h1,h2⟩;exact⟨v,h1,List.mem_filter.2 ⟨List.mem_range.2 ((hE e he).2.2 v h1),h2⟩⟩
def lsN(ws:List Int)(es:List (List Nat)):Nat→Int
 | 0=>-1
 | b+1=>if nB es (jy (b:Int) ws.length)=true∧(lsN ws es b<0∨wl ws (jy (b:Int) ws.length)<lsN ws es b) then wl ws (jy (b:Int) ws.length) else lsN ws es b
theorem lsN_spec{ws:List Int}{es:List (List Nat)}(hb:HsB ws es):∀B:Nat,(lsN ws es B = -1∧∀b<B,nB es (jy (b:Int) ws.length)=false)∨∃b<B,nB es (jy (b:Int) ws.length)=true∧lsN ws es B=wl ws (jy (b:Int) ws.length)∧∀c<B,nB es (jy (c:Int) ws.length)=true→lsN ws es B≤wl ws (jy (c:Int) ws.length)
 | 0=>.inl ⟨rfl,fun b hb=>by omega⟩
 | B+1=>by
  have h0:∀b:Nat,0≤wl ws (jy (b:Int) ws.length):=fun b=>(wl_le hb.w _ fun v hv=>selN_lt hv).1
  rw[lsN]
  rcases lsN_spec hb B with⟨h1,h2⟩ | ⟨b,h1,h2,h3,h4⟩
  ·by_cases hh:nB es (jy (B:Int) ws.length)=true
   ·rw[if_pos ⟨hh,.inl (by omega)⟩];refine .inr ⟨B,by omega,hh,rfl,fun c hc hq=>?_⟩;by_cases e:c=B
    ·rw[e];omega
    ·have:=h2 c (by omega);rw[this]at hq;cases hq
   ·rw[if_neg (fun hq=>hh hq.1)];refine .inl ⟨h1,fun b hb=>?_⟩;by_cases e:b=B
    ·rw[e];simpa using hh
    ·exact h2 b (by omega)
  ·have h5:=h0 b;by_cases hh:nB es (jy (B:Int) ws.length)=true∧(lsN ws es B<0∨wl ws (jy (B:Int) ws.length)<lsN ws es B)
   ·rw[if_pos hh];refine .inr ⟨B,by omega,hh.1,rfl,fun c hc hq=>?_⟩;by_cases e:c=B
    ·rw[e];omega
    ·have:=h4 c (by omega) hq;omega
   ·rw[if_neg hh];refine .inr ⟨b,by omega,h2,h3,fun c hc hq=>?_⟩;by_cases e:c=B
    ·subst e
     have:¬(lsN ws es c<0∨wl ws (jy (c:Int) ws.length)<lsN ws es c):=fun hr=>hh ⟨hq,hr⟩
     omega
    ·exact h4 c (by omega) hq
theorem selN_all{N:Nat}(hN:N≤9)(P:Nat→Bool):∃b:Nat,b<2^N∧jy (b:Int) N=(pG N).filter P:=by
 have hl:=bnF_lt P N;have h512:2^N≤512:=qD (by omega) hN;refine⟨bnF P N,hl,?_⟩;unfold jy
 refine List.filter_congr fun v hv=>?_
 have hv:=List.mem_range.1 hv;rw[hasJ_bit (by omega) (by omega),bnF_bit P N v hv]
theorem lsN_min{ws:List Int}{es:List (List Nat)}(hb:HsB ws es)(hn:ws.length≤9){T:Nat→Bool}(hT:MinOk ws.length ws es T):lsN ws es (2^ws.length)=iC ws T ws.length:=by
 obtain⟨b,hB,hs⟩:=selN_all hn T
 have hit:nB es (jy (b:Int) ws.length)=true:=by rw[hs];exact(hitN_sel hb.ed).2 hT.h
 rcases lsN_spec hb (2^ws.length) with⟨_,h2⟩ | ⟨c,h1,h2,h3,h4⟩
 ·rw[h2 b hB]at hit;cases hit
 ·have a1:=h4 b hB hit;rw[hs,←iv]at a1;have a2:=hT.m (hasJ (c:Int)) ((hitN_sel hb.ed).1 h2);rw[h3]at a1 ⊢;unfold jy at a1 ⊢;rw[←iv]at a1 ⊢;omega
theorem ix_mem{I:List Int}(ha:asc I=true){D:List Int}(hD:∀a∈D,a∈I)(v:Nat)(hv:v<I.length):iI D I[v]=decide (v∈ixE I D):=by
 rw[qo,gh,decide_eq_true_iff];unfold ixE;rw[rh];constructor
 ·exact fun h=>⟨_,h,bsP_ix ha hv⟩
 ·rintro⟨a,h1,rfl⟩;obtain⟨q1,q2⟩:=jS ha (hD a h1);rw[q2];exact h1
theorem ix_asc{I:List Int}(ha:asc I=true){D:List Int}(hD:∀a∈D,a∈I)(hp:D.Pairwise (· < ·)):(ixE I D).Pairwise (· < ·)∧∀v∈ixE I D,v<I.length:=by
 constructor
 ·unfold ixE;rw[rX];refine List.Pairwise.imp_of_mem ?_ hp;intro a b hA hB hab;exact bsP_lt ha (hD a hA) (hD b hB) hab
 ·intro v hv;obtain⟨a,hA,rfl⟩:=List.mem_map.1 hv;exact(jS ha (hD a hA)).1
theorem pos_hit{I:List Int}{E:List (List Int)}(h:Hyp I E){D:List Int}(hD:∀a∈D,a∈I):nB (E.map (ixE I)) (ixE I D)=kJ E D:=by
 have ha:=(jJ I).2 h.va;rw[qo,←nN h (T:=fun v=>decide (v∈ixE I D)) (ix_mem ha hD),hitN_iff];simp only[decide_eq_true_iff]
theorem pos_wI{I ws:List Int}(ha:asc I=true)(hl:ws.length=I.length){D:List Int}(hD:∀a∈D,a∈I)(hp:D.Pairwise (· < ·)):wl ws (ixE I D)=wI I ws D:=by
 obtain⟨h1,h2⟩:=ix_asc ha hD hp;rw[←lN hl (T:=fun v=>decide (v∈ixE I D)) (ix_mem ha hD),iv,←iq h1 h2]
noncomputable def chkS(t:Tb)(cs:List Cn)(w D:List Int)(b:Int)(l:List Nde):Bool:=if prE t cs w=0 then(if plE (dl t.rows) D=0 then(nB (inE t cs) (ixE (dl t.rows) D)&&decide (wl (inW t w) (ixE (dl t.rows) D)=b)&&checkG (inW t w) (inE t cs) b l) else false) else false
theorem chkS_iff{t:Tb}{cs:List Cn}{w D:List Int}{b:Int}{l:List Nde}(hb:BdOk t cs):chkS t cs w D b l=true↔prE t cs w=0∧plE (dl t.rows) D=0∧kJ (gj (gx t cs)) D=true∧wI (dl t.rows) (inW t w) D=b∧checkG (inW t w) (inE t cs) b l=true:=by
 unfold chkS;split
 ·rename_i h;obtain⟨h1,h2,h3⟩:=lX h;obtain⟨_,hh,_⟩:=hY hb h1;have ha:=(jJ _).2 hh.va
  have hl:(inW t w).length=(dl t.rows).length:=by rw[iA h2,gv]
  split
  ·rename_i h4;obtain⟨q1,q2⟩:=plE_ok h4;rw[pC,pC,decide_eq_true_iff,pos_wI ha hl q2 q1];unfold inE;rw[pos_hit hh q2];exact⟨fun⟨⟨a,b⟩,c⟩=>⟨h,h4,a,b,c⟩,fun⟨_,_,a,b,c⟩=>⟨⟨a,b⟩,c⟩⟩
  ·rename_i h4;exact⟨fun h6=>(by cases h6),fun h5=>absurd h5.2.1 h4⟩
 ·rename_i h;exact⟨fun h6=>(by cases h6),fun h5=>absurd h5.1 h⟩
theorem lY{t:Tb}{cs:List Cn}{w:List Int}(hb:BdOk t cs)(h:prE t cs w=0):∃T,MinOk (inW t w).length (inW t w) (inE t cs) T∧kp (inW t w) (inE t cs) 10000=(pG (inW t w).length).filter T∧lsN (inW t w) (inE t cs) (2^(inW t w).length)=iC (inW t w) T (inW t w).length:=by
 obtain⟨h1,h2,h3⟩:=lX h
 have h8:t.rows.length≤8:=by
  obtain⟨_,h2,_⟩:=hU h1;have:=hb.rows;omega
 have hn:(inW t w).length≤8:=by rw[iA h2];exact h8
 obtain⟨T,hT,hm⟩:=minL_ok h3 (by omega) (lf:=10000) (by
  have:(2:Int)^((inW t w).length+1)≤2^9:=by exact_mod_cast qD (by omega:0<2) (by omega)
  have h9:(2:Int)^9=512:=by decide
  omega)
 exact⟨T,hT,hm,lsN_min h3 (by omega) hT⟩
noncomputable def ij(t:Tb)(cs:List Cn)(w:List Int):Int:=lsN (inW t w) (inE t cs) (2^(inW t w).length)
theorem kX{t:Tb}{cs:List Cn}{w:List Int}(hb:BdOk t cs)(h:prE t cs w=0):MinI (dl t.rows) (inW t w) (gj (gx t cs)) (ij t cs w):=by
 obtain⟨T,hT,_,hl⟩:=lY hb h;unfold ij;rw[hl];exact pr_min hb h hT
theorem lst_more{t:Tb}{cs:List Cn}{c:Cn}{w:List Int}(hb:BdOk t cs)(hb':BdOk t (cs++[c]))(h:prE t cs w=0)(h':prE t (cs++[c]) w=0):ij t cs w≤ij t (cs++[c]) w:=by
 obtain⟨h1,h2,h3⟩:=hU (lX h').1;have g:=tbC h1
 refine(kX hb h).mono (kX hb' h') (fun D hD=>?_) rfl fun i _ _=>Int.le_refl _
 exact edges_more g (fun c' hc=>h3 c' (qx _ hc)) (h3 c (qe _ (List.mem_singleton.2 rfl))) hD
theorem inW_eq{t:Tb}{w:List Int}(h:w.length=t.rows.length):inW t w=w:=by
 unfold inW;split
 ·rename_i h0;subst h0;rw[←h];rfl
 ·rfl
theorem lst_heavy{t:Tb}{cs:List Cn}{w:List Int}{i:Nat}(hb:BdOk t cs)(h:prE t cs w=0)(hi:i<(inW t w).length)(h':prE t cs ((inW t w).set i ((inW t w)[i]+5))=0):ij t cs w≤ij t cs ((inW t w).set i ((inW t w)[i]+5)):=by
 obtain⟨h1,h2,h3⟩:=lX h;have hl:=iA h2;have he:inW t ((inW t w).set i ((inW t w)[i]+5))=(inW t w).set i ((inW t w)[i]+5):=inW_eq (by rw[qK,hl]);have hm:=kX hb h';rw[he]at hm
 refine(kX hb h).mono hm (fun D hD=>hD) (by rw[qK]) fun j hj hj'=>?_
 rw[List.getElem_set];split
 ·rename_i e;subst e;omega
 ·exact Int.le_refl _
theorem kH:∀{K I:List Int},K.Sublist I→I.Pairwise (· < ·)→I.filter (iI K)=K
 | _,_,.slnil,_=>rfl
 | K,a::I,.cons _ hs,hp=>by
  obtain⟨h1,h2⟩:=List.pairwise_cons.1 hp
  have:iI K a=false:=by
   rw[←qc,gh];intro hm;have:=h1 a (hs.subset hm);omega
  rw[rH,if_neg (by rw[this];simp)];exact kH hs h2
 | a::K,_::I,.cons_cons _ hs,hp=>by
  obtain⟨h1,h2⟩:=List.pairwise_cons.1 hp;rw[rH,if_pos (gh.2 (pW ..))];congr 1;rw[←kH hs h2]
  refine List.filter_congr fun x hx=>?_
  have hax:=h1 x hx;rw[kH hs h2,qo,gh,gh,pD];exact⟨fun q=>q.elim (fun e=>by omega) id,.inr⟩
theorem lst_less{t:Tb}{cs:List Cn}{w:List Int}{i:Nat}(hb:BdOk t cs)(h:prE t cs w=0)(hi:i<(inW t w).length)(hb':BdOk (kT ((dl t.rows).eraseIdx i) t) cs)(h':prE (kT ((dl t.rows).eraseIdx i) t) cs ((inW t w).eraseIdx i)=0):
  ij (kT ((dl t.rows).eraseIdx i) t) cs ((inW t w).eraseIdx i)≤ij t cs w∧ij t cs w≤ij (kT ((dl t.rows).eraseIdx i) t) cs ((inW t w).eraseIdx i)+(inW t w)[i]:=by
 obtain⟨h1,h2,h3⟩:=lX h;obtain⟨b1,b2,b3⟩:=hU h1;have g:=tbC b1;obtain⟨_,hh,_⟩:=hY hb h1
 have hl:(inW t w).length=(dl t.rows).length:=by rw[iA h2,gv]
 have hids:dl (kT ((dl t.rows).eraseIdx i) t).rows=(dl t.rows).eraseIdx i:=by
  rw[kT_ids,kH (List.eraseIdx_sublist _ _) hh.va]
 have hw:inW (kT ((dl t.rows).eraseIdx i) t) ((inW t w).eraseIdx i)=(inW t w).eraseIdx i:=by
  refine inW_eq ?_;rw[←gv (kT ((dl t.rows).eraseIdx i) t).rows,hids,qT (by omega),qT (by omega),hl]
 have hm:=kX hb' h';rw[hids,hw,edges_kR g b3]at hm;refine MinI.less (by omega) hi (hh.va.imp fun {a b} hab=>by omega) hh.sub (fun x hx=>by have:=hsb_pos h3 x hx;omega) (kX hb h) hm
noncomputable def np(t:Tb)(cs:List Cn)(w:List Int):List Int:=(kp (inW t w) (inE t cs) 10000).map fun v=>(dl t.rows).getD v 0
noncomputable def lC(t:Tb)(cs:List Cn)(w:List Int):Int:=wl (inW t w) (kp (inW t w) (inE t cs) 10000)
noncomputable def optV(t:Tb)(cs:List Cn)(w:List Int):Option (List Nde×Int):=jz (inW t w) (inE t cs) ((inW t w).length+1) (ou (inW t w).length 0) 10000 (lC t cs w)
noncomputable def nn(t:Tb)(cs:List Cn)(w:List Int):List Nde:=((optV t cs w).getD ([],0)).1
structure OptS (t:Tb) (cs:List Cn) (w:List Int):Prop where
 prv:∃lf,optV t cs w=some (nn t cs w,lf)∧0≤lf
 len:(nn t cs w).length≤511
 wt:lC t cs w=ij t cs w
 rng:0≤lC t cs w∧lC t cs w≤8000000
 pl:plE (dl t.rows) (np t cs w)=0
 chk:chkS t cs w (np t cs w) (lC t cs w) (nn t cs w)=true
 min:minB (gj (gx t cs)) (np t cs w)=true
theorem opt_ok{t:Tb}{cs:List Cn}{w:List Int}(hb:BdOk t cs)(h:prE t cs w=0):OptS t cs w:=by
 obtain⟨h1,h2,h3⟩:=lX h;obtain⟨_,hh,_⟩:=hY hb h1
 have h8:t.rows.length≤8:=by
  obtain⟨_,h2,_⟩:=hU h1;have:=hb.rows;omega
 have hn:(inW t w).length≤8:=by rw[iA h2];exact h8
 have hl:(inW t w).length=(dl t.rows).length:=by rw[iA h2,gv]
 have hpw:(2:Int)^((inW t w).length+1)≤512:=by
  have h1:(2:Nat)^((inW t w).length+1)≤512:=ph (qD (by omega) (show _≤9 by omega)) (by decide);have h2:((2^((inW t w).length+1):Nat):Int)≤(512:Nat):=Int.ofNat_le.2 h1
  rwa [Int.natCast_pow]at h2
 obtain⟨T,hT,hm,hls⟩:=lY hb h;obtain⟨P,hP1,hP2,hP3,hP4⟩:=prove_all h3 (lf:=10000) (by omega) hT
 have hbw:lC t cs w=iC (inW t w) T (inW t w).length:=by unfold lC;rw[hm,iv]
 have hV:optV t cs w=some P:=by unfold optV;rw[hbw];exact hP1
 have hN:nn t cs w=P.1:=by unfold nn;rw[hV];rfl
 have hD:np t cs w=dT (dl t.rows) T:=by unfold np;rw[hm,hl];rfl
 obtain⟨m1,m2⟩:=pr_minimal hb h hT
 have hpl:plE (dl t.rows) (np t cs w)=0:=by
  rw[hD]
  refine plE_of (dT_asc hh.va T) fun a ha=>?_
  obtain⟨v,hv,_,rfl⟩:=dT_mem.1 ha;exact ow hv
 have hrg:=(wl_le h3.w (kp (inW t w) (inE t cs) 10000) fun v hv=>by
  rw[hm]at hv;exact List.mem_range.1 (List.mem_filter.1 hv).1)
 have hml:(kp (inW t w) (inE t cs) 10000).length≤8:=by
  rw[hm];exact ph (pY _ _) (by rw[sI];exact hn)
 refine⟨⟨P.2,by rw[hV,hN],by omega⟩,by rw[hN];omega,by rw[hbw];unfold ij;rw[hls],⟨hrg.1,?_⟩,hpl,(chkS_iff hb).2 ⟨h,hpl,by rw[hD];exact m1,?_,by rw[hN,hbw];exact hP4⟩,?_⟩
 ·have h2:=hrg.2;unfold lC;omega
 ·rw[hD,hbw,hl];exact(lN hl fun v hv=>dT_at hh.va hv).symm
 ·unfold minB;rw[hD,m1,pP,pV];intro a ha;rw[pg];exact m2 a ha
theorem ixE_succ{I D:List Int}{i:Nat}(h:i<D.length):ixE I (D.take (i+1))=ixE I (D.take i)++[bsP I D[i]]:=by
 unfold ixE;rw[pJ h,qB];rfl
theorem ixE_len(I D:List Int):(ixE I D).length=D.length:=by simp[ixE]
theorem nat_rb(n e:Nat)(l:List Nat)(fz:Bool):rbB n (.buf e 1 (l.map eN) fz):=fun x hx=>by
 obtain⟨y,_,rfl⟩:=List.mem_map.1 hx;intro c hc;simp only[eN,V.cells,pD,pA,or_false]at hc;subst hc;simp[rb1]
noncomputable def prV(t:Tb)(cs:List Cn)(w:List Int):V:=if prE t cs w=0 then gc false false (inW t w) (inE t cs) else .agg [.nilS,.nilS]
theorem prV_yes{t:Tb}{cs:List Cn}{w:List Int}(h:prE t cs w=0):prV t cs w=gc false false (inW t w) (inE t cs):=by unfold prV;rw[if_pos h]
theorem prV_no{t:Tb}{cs:List Cn}{w:List Int}(h:¬prE t cs w=0):prV t cs w = .agg [.nilS,.nilS]:=by unfold prV;rw[if_neg h]
theorem lnB_rb(n e:Nat)(es:List (List Nat))(fz:Bool):rbB n (.buf e 1 (es.map (Ln false)) fz):=fun x hx=>by
 obtain⟨y,_,rfl⟩:=List.mem_map.1 hx;intro c hc;simp only[Ln,V.cells,pD,pA,or_false]at hc;subst hc;simp[rb1]
theorem nL(n e:Nat)(xs:List Int)(fz:Bool):rbB n (.buf e 1 (xs.map au) fz):=fun x hx=>by
 obtain⟨y,_,rfl⟩:=List.mem_map.1 hx;intro c hc;simp only[au,V.cells,pD,pA,or_false]at hc;subst hc;simp[rb1]
theorem jI{n:Nat}{a b:V}(ha:rb n a)(hb:rb n b):rbB n (.cells [a,b]):=fun c hc=>by
 simp only[pD,pA,or_false]at hc
 rcases hc with rfl | rfl
 ·exact ha
 ·exact hb
theorem ix_take{I:List Int}{E:List (List Int)}{j:Nat}(h:j<E.length):(E.take (j+1)).map (ixE I)=(E.take j).map (ixE I)++[ixE I E[j]]:=by
 rw[pJ h,qB];rfl
theorem inW_nil(t:Tb):inW t []=ou t.rows.length 1:=by unfold inW;rw[if_pos rfl]
theorem inW_ne{t:Tb}{w:List Int}(h:w≠[]):inW t w=w:=by unfold inW;rw[if_neg h]
theorem rep_take(n i:Nat)(h:i<n):(ou n (1:Int)).take (i+1)=(ou n (1:Int)).take i++[1]:=by
 rw[pJ (by simpa using h),List.getElem_replicate]
theorem problem_u(t:Tb)(cs:List Cn)(w:List Int)(f g fc fw:Bool)(h:BdOk t cs)(hw:w.length≤1000000):aE Tryz.prog 13 [aF f g t,LCn fc cs,L1 fw w] fun r=>r = .tup [prV t cs w,.int .i64 (prE t cs w)]:=by
 have cb:=build_u t cs f g fc h;have htB:B.cells [.str t.name,.lst 1 f (t.attrs.map V.str),.lst 2 g (t.rows.map aT)]=tcB t f g:=rfl
 have htr:∀n,rbB n (tcB t f g):=fun n=>iK n t f g
 by_cases h0:db t cs=0
 case neg =>
  have he:prE t cs w=db t cs:=by unfold prE;rw[if_neg h0]
  rw[prV_no (by rw[he];exact h0),he];rw[bdV_no h0]at cb;obtain⟨e,hee⟩:∃e,e=db t cs:=⟨_,rfl⟩;rw[←hee]at cb h0 ⊢;simp only[aF,LS,LR,LCn]at cb;refine sPx Tryz.func13 rfl rfl ?_;simp -dsimp[Tryz.f13,ou,aF,LS,LR,LCn,L1];refine cPx (cb) (by simp) ?_;simp -dsimp[h0]
 case pos =>
 rw[h0,bdV_yes h0]at cb;obtain⟨hsm,hh,hel⟩:=hY h h0;by_cases hl:w=[]∨w.length=t.rows.length
 case neg =>
  have he:prE t cs w=6:=by unfold prE;rw[if_pos h0,if_neg hl]
  rw[prV_no (by rw[he];decide),he];obtain⟨hl1,hl2⟩:=not_or.1 hl;have hl3:=List.length_pos_iff.2 hl1;simp only[aF,LS,LR,LCn,encH,L1,LL]at cb;refine sPx Tryz.func13 rfl rfl ?_;simp -dsimp[Tryz.f13,ou,aF,LS,LR,LCn,L1];refine cPx (cb) (by simp) ?_;simp -dsimp[show(0:Int)<w.length by omega,show ¬((w.length:Int)=t.rows.length) by omega,hl1,hl2,hl3]
 case pos =>
 have hV:prE t cs w=kF (inW t w) (inE t cs):=by unfold prE;rw[if_pos h0,if_pos hl]
 have hwl:=iA hl
 have hr8:t.rows.length≤8:=by
  obtain⟨_,h2,_⟩:=hU h0;have:=h.rows;omega
 have ha:asc (dl t.rows)=true:=(jJ _).2 hh.va;have cc:=mG w fw hw
 have hel2:∀e∈inE t cs,e.length≤1000000:=fun e he=>by
  obtain⟨x,hx,rfl⟩:=List.mem_map.1 he;rw[ixE_len];exact hsm.2.2 x hx
 have cv:=lq (inW t w) (inE t cs) false false hel2;have hIE:inE t cs=(gj (gx t cs)).map (ixE (dl t.rows)):=rfl
 have hpv:prV t cs w=if kF (inW t w) (inE t cs)=0 then gc false false (inW t w) (inE t cs) else .agg [.nilS,.nilS]:=by unfold prV;rw[hV]
 rw[hpv,hV];have hIl:(dl t.rows).length≤1000000:=hsm.1
 have hW1:w=[]→inW t w=ou t.rows.length 1:=fun e=>by rw[e];exact inW_nil t
 have hW2:w≠[]→inW t w=w:=fun e=>inW_ne e
 obtain⟨VE,hVE⟩:∃VE,VE=kF (inW t w) (inE t cs):=⟨_,rfl⟩;rw[←hVE]at cv ⊢;rw[hIE]at cv ⊢;clear hpv hV hVE hIE hel2;obtain⟨I,hI⟩:∃I,I=dl t.rows:=⟨_,rfl⟩;obtain⟨E,hE⟩:∃E,E=gj (gx t cs):=⟨_,rfl⟩;obtain⟨W0,hW0⟩:∃W0,W0=inW t w:=⟨_,rfl⟩;rw[←hI,←hE]at cb hh hsm;rw[←hI,←hE,←hW0]at cv ⊢;rw[←hI]at ha hIl;rw[←hE]at hel;rw[←hW0]at hwl hW1 hW2;obtain⟨_,_,hes⟩:=hsm;have hsub:=hh.sub;have hne:=hh.ne;clear hh hW0;obtain⟨n,hn⟩:∃n,n=t.rows.length:=⟨_,rfl⟩;rw[←hn]at hl hwl hr8 hW1;have hn2:=hn.symm
 have hrbA:∀(ws:List Int) (j:Nat) (l:List (List Nat)),∀bl∈[tcB t f g,B.cells [.nilS,.nilS],B.cells [.lst 1 false (I.map au),.lst 1 false (E.map (L1 false))],B.buf 2 1 (ws.map au) true,B.cells [.lst 1 false (ws.map au),.buf 5 0 j j],B.buf 50 1 (l.map (Ln false)) false],rbB 6 bl:=fun ws j l bl hbl=>by
  simp only[pD,pA,or_false]at hbl
  rcases hbl with rfl | rfl | rfl | rfl | rfl | rfl
  ·exact htr _
  ·exact jI (by simp[rb]) (by simp[rb])
  ·exact jI (by simp[rb]) (by simp[rb])
  ·exact nL _ _ _ _
  ·exact jI (by simp[rb]) (by simp[rb,rb1])
  ·exact lnB_rb _ _ _ _
 have hrbB:∀(ws:List Int) (j:Nat) (l:List (List Nat)) (q:List Nat),∀bl∈[tcB t f g,B.cells [.nilS,.nilS],B.cells [.lst 1 false (I.map au),.lst 1 false (E.map (L1 false))],B.buf 2 1 (ws.map au) true,B.cells [.lst 1 false (ws.map au),.buf 5 0 j j],B.buf 50 1 (l.map (Ln false)) false]++[B.buf 3 1 (q.map eN) false],rbB 7 bl:=fun ws j l q bl hbl=>by
  rcases List.mem_append.1 (show bl∈([tcB t f g,B.cells [.nilS,.nilS],B.cells [.lst 1 false (I.map au),.lst 1 false (E.map (L1 false))],B.buf 2 1 (ws.map au) true,B.cells [.lst 1 false (ws.map au),.buf 5 0 j j],B.buf 50 1 (l.map (Ln false)) false])++[B.buf 3 1 (q.map eN) false] from hbl) with h9 | h9
  ·exact rbBM (by omega) (hrbA ws j l bl h9)
  ·rw[pe]at h9;subst h9;exact nat_rb _ _ _ _
 have hrbW:∀(ws:List Int) (i:Nat),∀bl∈[tcB t f g,B.cells [.nilS,.nilS],B.cells [.lst 1 false (I.map au),.lst 1 false (E.map (L1 false))],B.buf 2 1 (ws.map au) false,B.cells [.buf 3 0 i i,.nilS]],rbB 5 bl:=fun ws i bl hbl=>by
  simp only[pD,pA,or_false]at hbl
  rcases hbl with rfl | rfl | rfl | rfl | rfl
  ·exact htr _
  ·exact jI (by simp[rb]) (by simp[rb])
  ·exact jI (by simp[rb]) (by simp[rb])
  ·exact nL _ _ _ _
  ·exact jI (by simp[rb,rb1]) (by simp[rb])
 simp only[aF,LS,LR,LCn,encH,L1,LL]at cb;simp only[L1]at cc;simp only[gc,L1,LLn,sO]at cv
 have hedge:∀(j:Nat),j<E.length→True:=fun _ _=>trivial
 by_cases hw0:w=[]
 case' pos =>
  have hW:=hW1 hw0;subst hw0;refine sPx Tryz.func13 rfl rfl ?_;simp -dsimp[Tryz.f13,ou,aF,LS,LR,LCn,L1];refine cPx (cb) (by simp) ?_;simp -dsimp[L1];refine(mJ cc (by simp)).mono ?_;rintro r H' ⟨e,z,xs,rfl,rfl,_,rfl,rfl,rfl⟩;simp -dsimp[htB,L1];refine aR (W_loopM 58 0x3fc0c0000c80000 (by simp[mB]<;>rfl) (σ:=Nat) (fun i=>i≤n) (fun i=>n-i) (fun i=>[(50,.int .i64 i)]) (fun i=>[tcB t f g,B.cells [.nilS,.nilS],B.cells [.lst 1 false (I.map au),.lst 1 false (E.map (L1 false))],B.buf 2 1 (((ou n (1:Int)).take i).map au) false,B.cells [.buf 3 0 i i,.nilS]]) 0 (by omega) (by simp[hn2]) (by simp) (by simp) ?_);intro i hi N Q hN hQ;by_cases hb:i<n
  ·have hst:=rep_take n i hb
   have htl:((ou n (1:Int)).take i).length=i:=by simp;omega
   obtain⟨l,hle⟩:∃l,l=(ou n (1:Int)).take i:=⟨_,rfl⟩;rw[←hle]at hst htl ⊢;refine wx ?_;simp -dsimp[hb,hn2,htl,cap8 i (by omega),eJ i (by omega),aa i (by omega),L1];refine hN (i+1) _ _ (by omega) (by omega) (by simp[hn2]) ⟨[],by simp[hst,au]⟩ (by simp) (hrbW _ _)
  obtain rfl:i=n:=by omega
  have hWt:(ou i (1:Int)).take i=W0:=by rw[hW,pX (by simp)]
  rw[hWt];refine wx ?_;simp -dsimp[hb,hn2,L1];refine hQ _ _ _ ?_;simp -dsimp[L1]
 case' neg =>
  have hW:=hW2 hw0;have hwl2:w.length=n:=hl.resolve_left hw0;have hl3:=List.length_pos_iff.2 hw0
  have hn0:0<n:=by omega
  refine sPx Tryz.func13 rfl rfl ?_;simp -dsimp[Tryz.f13,ou,aF,LS,LR,LCn,L1];refine cPx (cb) (by simp) ?_;simp -dsimp[hwl2,hn2,hn0,hw0,show(0:Int)<(n:Int) by omega,show ¬n=0 by omega,show ¬(n:Int)=0 by omega,L1];refine(mJ cc (by simp)).mono ?_;rintro r H' ⟨e,z,xs,rfl,rfl,_,rfl,rfl,rfl⟩;simp -dsimp[htB,hwl2,hw0,show ¬n=0 by omega,show ¬(n:Int)=0 by omega,L1];rw[←hW]
 all_goals
  refine aR (eI 3 [] 4 [0] rfl rfl (by simp) (by simp[hwl]) (dV 50 1 [] 4 [1] rfl (by simp) (by simp) (W_loopM 90 0x3ffffffe0000c0000cbb000 (by simp[mB]<;>rfl) (σ:=Nat) (fun j=>j≤E.length) (fun j=>E.length-j) (fun j=>[(61,.int .i64 j)]) (fun j=>[tcB t f g,B.cells [.nilS,.nilS],B.cells [.lst 1 false (I.map au),.lst 1 false (E.map (L1 false))],B.buf 2 1 (W0.map au) true,B.cells [.lst 1 false (W0.map au),.buf 5 0 j j],B.buf 50 1 (((E.take j).map (ixE I)).map (Ln false)) false]) 0 (by omega) (by simp) (by simp) (by simp) ?_)));intro j hj N2 Q2 hN2 hQ2
  have hjl:((E.take j).map (ixE I)).length=j:=by simp;omega
  by_cases hjb:j<E.length
  ·have hst:=ix_take (I:=I) hjb;have he1:=hes _ (ow hjb);have he2:=hne _ (ow hjb);have he3:=hsub _ (ow hjb);obtain⟨e,hee⟩:∃e,e=E[j]:=⟨_,rfl⟩;rw[←hee]at hst he1 he2 he3;obtain⟨P,hP⟩:∃P,P=(E.take j).map (ixE I):=⟨_,rfl⟩;rw[←hP]at hst hjl ⊢;refine wx ?_;simp -dsimp[hjb,hee.symm,L1];refine aR (iR 3 1 [13] (by simp) (W_loopM 83 0x7fff8000000000003a000 (by simp[mB]<;>rfl) (σ:=Nat) (fun k=>k≤e.length) (fun k=>e.length-k) (fun k=>[(67,.int .i64 k),(13,.buf 6 0 k k)]) (fun k=>[tcB t f g,B.cells [.nilS,.nilS],B.cells [.lst 1 false (I.map au),.lst 1 false (E.map (L1 false))],B.buf 2 1 (W0.map au) true,B.cells [.lst 1 false (W0.map au),.buf 5 0 j j],B.buf 50 1 (P.map (Ln false)) false]++[B.buf 3 1 ((ixE I (e.take k)).map eN) false]) 0 (by omega) (by simp) (by simp[ixE]) (by simp) ?_));intro k hk N3 Q3 hN3 hQ3
   have hkl:(ixE I (e.take k)).length=k:=by rw[ixE_len];simp;omega
   simp only[pn,pU];by_cases hkb:k<e.length
   ·have hst2:=ixE_succ (I:=I) hkb;have hin:=he3 _ (ow hkb);obtain⟨x,hx⟩:∃x,x=e[k]:=⟨_,rfl⟩;rw[←hx]at hst2 hin;have cs2:=bsearch64 I x false hIl;simp only[L1]at cs2;obtain⟨p,hp⟩:∃p,p=bsP I x:=⟨_,rfl⟩;rw[←hp]at hst2 cs2;obtain⟨q,hq⟩:∃q,q=ixE I (e.take k):=⟨_,rfl⟩;rw[←hq]at hst2 hkl ⊢;refine wx ?_;simp -dsimp[hkb,hx.symm,au,L1];refine cPx (cs2) (by simp) ?_;simp -dsimp[hkl,cap8 k (by omega),eJ k (by omega),aa k (by omega),L1];refine hN3 (k+1) _ _ (by omega) (by omega) (by simp) ⟨[],by simp[hst2,eN]⟩ (by simp) (hrbB _ _ _ _)
   ·obtain rfl:k=e.length:=by omega
    rw[pt]at hkl ⊢;obtain⟨q,hq⟩:∃q,q=ixE I e:=⟨_,rfl⟩;rw[←hq]at hst hkl ⊢;refine gY 6 [13] rfl (by simp[hkl]) ?_;refine wx ?_;simp -dsimp[hkb,L1];refine hQ3 _ _ _ ?_;simp -dsimp[hjl,mI j (by omega),eJ j (by omega),aa j (by omega),L1];refine hN2 (j+1) _ _ (by omega) (by omega) (by simp) ⟨[B.buf 3 1 (q.map eN) true],by simp[hst,Ln]⟩ (by simp) (hrbA _ _ _)
  ·obtain rfl:j=E.length:=by omega
   rw[pt];refine eI 5 [] 4 [1] rfl rfl (by simp) (by simp) ?_;refine wx ?_;simp -dsimp[hjb,L1];refine hQ2 _ _ _ ?_;simp -dsimp[L1];refine cPx (cv) (by simp) ?_;by_cases hz:VE=0
   ·subst hz;rw[if_pos rfl];simp -dsimp[L1];simp[gc,L1,LLn]
   ·rw[if_neg hz];simp -dsimp[hz,L1]
end
end Go.Proofs.YtjogkbekekdkjaaGreatDoor
