/- JM28: own texts of this seat, joined and shortened by pack4.py: H16, H17, H18, H19, H20, H22, H23, H21, H24, H25. -/
import Derived.Test.YtjogkbekekdkjaaGreatDoorJM26
import Derived.Test.YtjogkbekekdkjaaGreatDoorJM27
set_option linter.unusedVariables false
set_option linter.unusedSimpArgs false
set_option maxRecDepth 100000
set_option maxHeartbeats 64000000
open Bool renaming eq_iff_iff→qo
open Int renaming toNat_natCast→rD
open List renaming replicate→ou,getElem?_eq_getElem→ov,getElem_mem→ow,not_mem_nil→pA,drop_eq_getElem_cons→pB,mem_cons→pD,drop_of_length_le→pF,range→pG,getElem?_append_left→pH,take_succ_eq_append_getElem→pJ,length_append→pK,append_nil→pL,getElem?_append_right→pM,getElem?_set_self→pO,drop_zero→pT,nil_append→pU,mem_cons_self→pW,take_of_length_le→pX,length_filter_le→pY,mem_cons_of_mem→pZ,mem_singleton→pe,mem_of_mem_take→pi,getElem?_map→pj,length_cons→pk,cons_append→pn,set_append_right→pr,take_length→pt,mem_append→pz,take_append_drop→qF,mem_filter→qH,range_succ→qI,length_set→qK,length_take→qO,map_cons→qW,getD→qZ,mem_append_right→qe,set_set→qf,mem_range→qh,all_cons→qk,length_nil→qn,getElem?_replicate→qv,pairwise_append→qw,mem_append_left→qx,take_zero→rB,foldl_cons→rF,filter_cons→rH,map_take→rK,map_nil→rQ,length_drop→rR,filter_append→rS,set_getElem_self→rn,reverse_reverse→rq,ext_getElem→ry,filter_nil→sC,length_range→sI,nodup_range→sL,map_map→sO
open Nat renaming le_refl→pI,add_comm→sW
open Option renaming map_some→pm
namespace Go.Proofs.YtjogkbekekdkjaaGreatDoor
section
open Go Go.AM
section
def shV:List Shr→V
 | []=>.nilS
 | x::l=>.lst 2 false (oc x::l.map oc)
def jc(x:Nde):V:=.agg [.int .i64 x.v,shV x.l]
@[simp] theorem shV_pure (l:List Shr):AM.Pure (shV l):=by cases l<;>simp[shV]
theorem shV_one(l:List Shr):(shV l).one=true:=by cases l<;>rfl
@[simp] theorem encNp_pure (x:Nde):AM.Pure (jc x):=by
 unfold jc;simp[shV_one]
theorem encNp_ok(x:Nde):AM.Pure (jc x)∧cq (jc x)=true∧(jc x).cells.length=2:=by
 refine⟨encNp_pure x,?_,rfl⟩;show([V.int .i64 x.v,shV x.l]:List V).all V.one=true;rw[qk,qk,shV_one];rfl
theorem ka(l:List Nde):∀x∈l.map jc,AM.Pure x∧cq x=true∧x.cells.length=2:=fun x hx=>by
 obtain⟨y,_,rfl⟩:=List.mem_map.1 hx;exact encNp_ok y
def PR(l:List Nde)(r:V):Prop:=∃fl,r = .tup [.lst 2 fl (l.map jc),.int .i64 0]
section
variable {H:List B} {k0 km kb:Nat} {f g:Bool} {ws:List Int} {es:List (List Nat)} {lf:Int} {m:List Nat} {c:B}
def QP(H:List B)(k0 km kb:Nat)(f g:Bool)(ws:List Int)(es:List (List Nat))(lf:Int)(m:List Nat)(c:B)(H':List B):Prop:=∃G,H'=HS H k0 km kb f g ws es lf m c++G
theorem prv_cut{k:FuncId}{args:List V}{H0:List B}{l:List Nde}(o:BOk H k0 km kb)(hc:rbB H.length c)(h0:H0.length≤H.length)(hq:aZ Tryz.prog k args H0 fun r H'=>PR l r∧QP H k0 km kb f g ws es lf m c H'):aZ Tryz.prog k args H0 fun r H'=>PR l r∧H'=HS H k0 km kb f g ws es lf m c:=by
 refine(kd (σ:=Bool) (ok:=fun _=>True) (rf:=fun x=>.tup [.lst 2 x (l.map jc),.int .i64 0]) (Hf:=fun _=>HS H k0 km kb f g ws es lf m c) (hq.mono fun r H' ⟨⟨fl,h1⟩,G,h2⟩=>⟨fl,trivial,h1,G,h2⟩) (fun x _=>by rw[iB];exact h0) (fun x _=>?_) (fun x _=>o.rbs hc)).mono ?_
 ·intro y hy;simp only[pD,pA,or_false]at hy
  rcases hy with rfl | rfl
  ·intro z hz;exact(ka l z hz).1
  ·trivial
 ·rintro r H' ⟨x,_,h1,h2⟩;exact⟨⟨x,h1⟩,h2⟩
theorem lW{ws:List Int}{es:List (List Nat)}{P:List Nde×Int} : ∀(k:Nat) (m:List Nat) (lf b:Int),jz ws es k m lf b=some P→P.2≤lf
 | 0,_,_,_,h=>by simp[jz]at h
 | k+1,m,lf,b,h=>by
  rw[jz]at h;split at h
  ·cases h
  ·split at h
   ·cases h;simp only;omega
   ·split at h
    ·cases h;simp only;omega
    ·split at h
     ·cases h
     ·split at h
      ·cases h
      ·rename_i p hp;split at h
       ·cases h
       ·rename_i q hq;have h1:=lW (P:=p) k _ _ _ hp;have h2:=lW (P:=q) k _ _ _ hq;cases h;simp only;omega
theorem prove_h(o:BOk H k0 km kb)(hc:rbB H.length c)(hb:HsB ws es)(k:Nat):∀(m:List Nat) (lf b:Int) (P:List Nde×Int),m.length=ws.length→jz ws es k m lf b=some P→-9000000000000000000≤P.2→lf≤9000000000000000000→b≤4000000000000000000→-4000000000000000000+1000000*(k:Int)≤b→P.1.length≤1000000 →
  aZ Tryz.prog 89 [.ptr k0 0,.int .i64 b] (HS H k0 km kb f g ws es lf m c) fun r H'=>PR P.1 r∧H'=HS H k0 km kb f g ws es P.2 m c:=by
 induction k with
 | zero=>intro m lf b P hm h;simp[jz]at h
 | succ k ih =>
  intro m lf b P hm h hP hlf hb1 hb0 hPl;have hle:=lW _ _ _ _ h;rw[jz]at h
  have hnl:¬lf-1<0:=by
   intro hq;rw[if_pos hq]at h;cases h
  rw[if_neg hnl]at h;refine prv_cut o hc (by rw[iB];exact pI _) ?_;have s0:=o.sat (f:=f) (g:=g) (ws:=ws) (es:=es) (lf:=lf) (m:=m) hc hm;have s1:=o.sat (f:=f) (g:=g) (ws:=ws) (es:=es) (lf:=lf-1) (m:=m) hc hm;have c1:=spend_h s0 (by omega) hlf;rw[o.set0]at c1;rw[decide_eq_true (show 0≤lf-1 by omega)]at c1
  have hes:es.length≤1000000:=by have:=hb.ne;omega
  have hel:∀e∈es,e.length≤1000000:=fun e he=>by have:=hb.ed.len e he;have:=hb.n;omega
  have c2:=dead_h s1 hb.ed hes hel;have c3:=packing_h s1 hb;have c4:=branch_h s1 hb;obtain⟨_,p2,_,_,p5,p6⟩:=jl (m:=m) hb.ed es 0 ws (by simp) rfl (fun v hv _=>by have:=(hb.w v hv).1;omega);have g0:=s1.h0;have gm:=s1.hm;have hml:=gk m;obtain⟨D,hD⟩:∃D,D=kM m es:=⟨_,rfl⟩;rw[←hD]at c2 h
  change sumR (ib ws es m).1=(ib ws es m).2 at p2
  obtain⟨S,hS⟩:∃S,S=ib ws es m:=⟨_,rfl⟩;rw[←hS]at c3 h p2;have hbr:=mL hb.ed m;obtain⟨br,hbre⟩:∃br,br=brS es m:=⟨_,rfl⟩;rw[←hbre]at c4 h hbr;refine aK tok Tryz.func89 rfl rfl ?_;refine wx ?_;simp -dsimp[Tryz.f89,ou];refine gz c1 ?_;rintro _ _ ⟨rfl,rfl⟩;by_cases hq0:b≤0
  ·rw[if_pos (.inl hq0)]at h;cases h;simp -dsimp[hq0];exact⟨⟨true,rfl⟩,[],by rw[pL]⟩
  ·simp -dsimp[hq0];refine gz c2 ?_;rintro _ _ ⟨rfl,rfl⟩
   cases D with
   | true =>
    rw[if_pos (.inr rfl)]at h;cases h;simp -dsimp[];exact⟨⟨true,rfl⟩,[],by rw[pL]⟩
   | false =>
    rw[if_neg (by rintro(h | h);exact hq0 h;cases h)]at h;simp -dsimp[];refine gz c3 ?_;rintro _ _ ⟨rfl,rfl⟩;by_cases hq:b≤S.2
    ·rw[if_pos hq]at h;cases h;obtain⟨S1,S2⟩:=S
     cases S1 with
     | nil=>simp only[sumR]at p2 hq;omega
     | cons y ys =>
      simp -dsimp[hq,LSh,oc];exact⟨⟨true,by simp[jc,shV,oc]⟩,[],by rw[pL]⟩
    ·rw[if_neg hq]at h;simp -dsimp[hq,LSh];refine gz c4 ?_;rintro _ _ ⟨rfl,rfl⟩;by_cases hbn:br<0
     ·rw[if_pos hbn]at h;cases h
     rw[if_neg hbn]at h
     rcases hbr with⟨hbr,_⟩ | ⟨hv1,hv2,hv3⟩
     ·exact absurd hbr hbn
     obtain⟨v,rfl⟩:∃v:Nat,br=v:=⟨br.toNat,by omega⟩;rw[rD]at hv1 hv3 h;have hwl:=(gf ws 0 hv1).symm;have hwb:=hb.w v hv1;obtain⟨wv,hwv⟩:∃wv,wv=ws.getD v 0:=⟨_,rfl⟩;rw[←hwv]at hwl hwb h;have hww:IntKind.i64.wrap (b-wv)=b-wv:=wrap64 (by omega) (by omega)
     have hm0:m.set v 0=m:=by
      have:m[v]'(by omega)=0:=by rw[←gf m 0 (by omega)];exact hv3
      conv=>rhs;rw[←rn (show v<m.length by omega)]
      rw[this]
     have hat:=fun h=>gw (m:=m) (x:=v) h
     rw[hv3]at hat
     have hat1:=fun h=>gw (m:=m.set v 1) (x:=v) h
     have hat2:=fun h=>gw (m:=m.set v 2) (x:=v) h
     have nl1:=gk (m.set v 1);have nl2:=gk (m.set v 2);rw[qK]at nl1 nl2;have hst1:(nuL m).set v (.int .i64 1)=nuL (m.set v 1):=iT m v 1;have hst2:(nuL (m.set v 1)).set v (.int .i64 2)=nuL (m.set v 2):=(iT (m.set v 1) v 2).trans (by rw[qf]);have hst3:(nuL (m.set v 2)).set v (.int .i64 0)=nuL m:=(iT (m.set v 2) v 0).trans (by rw[qf,hm0]);have k1:=o.setm (f:=f) (g:=g) (ws:=ws) (es:=es) (lf:=lf-1) (m:=m) (c:=c) (m.set v 1);have k10:=o.at0 (f:=f) (g:=g) (ws:=ws) (es:=es) (lf:=lf-1) (m:=m.set v 1) (c:=c)
     cases hp:jz ws es k (m.set v 1) (lf-1) (b-wv) with
     | none=>rw[hp]at h;cases h
     | some p =>
      rw[hp]at h;simp only at h
      cases hp2:jz ws es k (m.set v 2) p.2 b with
      | none=>rw[hp2]at h;cases h
      | some q =>
       rw[hp2]at h;cases h;simp only[pk,pK]at hPl;simp only at hP hle;have l1:=lW _ _ _ _ hp;have l2:=lW _ _ _ _ hp2;have i1:=ih (m.set v 1) (lf-1) (b-wv) p (by simp[hm]) hp (by omega) (by omega) (by omega) (by omega) (by omega);have i2:=ih (m.set v 2) p.2 b q (by simp[hm]) hp2 hP (by omega) hb1 (by omega) (by omega);simp -dsimp[hbn,g0,gm,hat,hml,hm,hv1,hst1,k1,k10,hwl,hww,L1,au];refine gz i1 ?_;rintro _ _ ⟨⟨fl1,rfl⟩,rfl⟩;have j0:=o.at0 (f:=f) (g:=g) (ws:=ws) (es:=es) (lf:=p.2) (m:=m.set v 1) (c:=c);have jm:=o.atm (f:=f) (g:=g) (ws:=ws) (es:=es) (lf:=p.2) (m:=m.set v 1) (c:=c);have js:=o.setm (f:=f) (g:=g) (ws:=ws) (es:=es) (lf:=p.2) (m:=m.set v 1) (c:=c) (m.set v 2);simp -dsimp[j0,jm,hat1,nl1,hm,hv1,hst2,js];refine gz i2 ?_;rintro _ _ ⟨⟨fl2,rfl⟩,rfl⟩;have n0:=o.at0 (f:=f) (g:=g) (ws:=ws) (es:=es) (lf:=q.2) (m:=m.set v 2) (c:=c);have nm:=o.atm (f:=f) (g:=g) (ws:=ws) (es:=es) (lf:=q.2) (m:=m.set v 2) (c:=c);have ns:=o.setm (f:=f) (g:=g) (ws:=ws) (es:=es) (lf:=q.2) (m:=m.set v 2) (c:=c) m
       have cc:=concat_N [⟨true,[.agg [.int .i64 (v:Int),.nilS]]⟩,⟨fl1,p.1.map jc⟩,⟨fl2,q.1.map jc⟩] true (fun l hl=>by
        simp only[pD,pA,or_false]at hl
        rcases hl with rfl | rfl | rfl
        ·exact ka [⟨(v:Int),[]⟩]
        ·exact ka p.1
        ·exact ka q.1) (by simp) (by simp[jM];omega)
       simp only[qW,rQ,jv]at cc;simp -dsimp[n0,nm,hat2,nl2,hm,hv1,hst3,ns];refine cPx cc (by simp) ?_;simp -dsimp[];exact⟨⟨false,by simp[jM,jc,shV]⟩,[],by rw[pL]⟩
end
end
theorem rel_lst_le{s:AM.St}{z:Nat}{xs ys:List V}{fl:Bool}{u:Value}(h:Rel s (.lst z fl xs) u)(hl:xs.length=ys.length)(hz:∀y∈ys,y.cells.length=z∧∀c∈y.cells,c.one=true)
  (hle:∀(i:Nat) x y,xs[i]?=some x→ys[i]?=some y→∀(j:Nat) c,y.cells[j]?=some c→∃d,x.cells[j]?=some d∧lfB d c):Rel s (.lst z fl ys) u:=by
 cases h with
 | lst _ _ _ A cap b off u hcap hfull hA hz0 hcell hrel =>
  rw[hl];refine .lst z fl ys A cap b off u (by omega) (fun h=>by rw[←hl];exact hfull h) (fun h=>hA (by omega)) hz (fun i y j c hy hc=>?_) (fun i y j c hy hc=>?_)
  ·have hx:xs[i]?=some (xs[i]'(by have:=aB hy;omega)):=ov _;obtain⟨d,hd,_⟩:=hle i _ y hx hy j c hc;exact hcell i _ j d hx hd
  ·have hx:xs[i]?=some (xs[i]'(by have:=aB hy;omega)):=ov _;obtain⟨d,hd,h2⟩:=hle i _ y hx hy j c hc;exact mU (hrel i _ j d hx hd) h2
theorem mb{P:Program}{f:FuncId}{args:List V}{K K':V→Prop}(h:aE P f args K)(hk:∀s u r,K r→Rel s r u→∃r',Rel s r' u∧AM.Pure r'∧K' r'):aE P f args K':=by
 refine⟨h.1,fun F w vals hZ hF hsz hrel=>(h.2 F w vals hZ hF hsz hrel).mono fun e w' ⟨u,r,a1,a2,a3,a4,a5⟩=>?_⟩;obtain⟨r',b1,b2,b3⟩:=hk _ u r a5 a3;exact⟨u,r',a1,b2,b1,a4,b3⟩
theorem shV_lf(l:List Shr):lfB (shV l) (LSh false l):=by
 cases l with
 | nil=>exact .inr (.inr ⟨2,rfl,rfl⟩)
 | cons x l=>exact .inl rfl
theorem rel_nodes{s:AM.St}{fl:Bool}{l:List Nde}{u:Value}(h:Rel s (.lst 2 fl (l.map jc)) u):Rel s (LNd fl l) u:=by
 refine rel_lst_le h (by simp) (fun y hy=>?_) (fun i x y hx hy j c hc=>?_)
 ·obtain⟨z,_,rfl⟩:=List.mem_map.1 hy;refine⟨rfl,fun c hc=>?_⟩;simp only[gl,V.cells,pD,pA,or_false]at hc
  rcases hc with rfl | rfl<;>rfl
 ·rw[pj]at hx hy
  cases hz:l[i]? with
  | none=>rw[hz]at hx;cases hx
  | some z =>
   rw[hz]at hx hy;simp only[pm,Option.some.injEq]at hx hy;subst hx;subst hy
   match j with
   | 0=>simp[gl,V.cells]at hc;subst hc;exact⟨_,rfl,.inl rfl⟩
   | 1=>simp[gl,V.cells]at hc;subst hc;exact⟨_,rfl,shV_lf z.l⟩
   | j+2=>simp[gl,V.cells]at hc
def PN(l:List Nde)(r:V):Prop:=∃fl,r = .tup [LNd fl l,.int .i64 0]
theorem prove_u{ws:List Int}{es:List (List Nat)}(hb:HsB ws es)(f g:Bool)(b lf:Int)(P:List Nde×Int)(h:jz ws es (ws.length+1) (ou ws.length 0) lf b=some P)(h1:1≤lf)(h2:lf≤9000000000000000000)(h3 : -1000000000000000≤b)(h4:b≤1000000000000000)(hP : -9000000000000000000≤P.2)(hl:P.1.length≤1000000):
  aE Tryz.prog 47 [gc f g ws es,.int .i64 b,.int .i64 lf] (PN P.1):=by
 refine mb (K:=PR P.1) ?_ (fun s u r ⟨fl,hr⟩ hrel=>?_)
 ·have hel:∀e∈es,e.length≤1000000:=fun e he=>by have:=hb.ed.len e he;have:=hb.n;omega
  have cv:=lq ws es f g hel;rw[iz.2 hb]at cv
  have hr0:∀bl∈[B.cells [L1 f ws,LLn g es]],rbB [B.cells [L1 f ws,LLn g es]].length bl:=by
   intro bl hb;simp at hb;subst hb;intro c hc;simp at hc;rcases hc with rfl | rfl<;>exact iN (by simp) rfl
  have c1:=ml [B.cells [L1 f ws,LLn g es]] f g ws es lf hb.n;have sa:=nsH_at hr0 f g ws es lf;have o:BOk (nsH [B.cells [L1 f ws,LLn g es]] f g ws es lf) 3 2 0:=⟨by simp[nsH],by simp[nsH],by simp[nsH],by omega,by omega,by omega,sa.rb⟩;have c2:=prove_h (c:=B.cells [L1 f ws,LLn g es]) (f:=f) (g:=g) o (rbBM (by simp[nsH]) (hr0 _ (by simp))) hb (ws.length+1) (ou ws.length 0) lf b P (by simp) h hP h2 (by omega) (by have:=hb.n;omega) hl;have hH:HS (nsH [B.cells [L1 f ws,LLn g es]] f g ws es lf) 3 2 0 f g ws es lf (ou ws.length 0) (B.cells [L1 f ws,LLn g es])=nsH [B.cells [L1 f ws,LLn g es]] f g ws es lf:=rfl;rw[hH]at c2;simp only[gc]at cv c1;refine sPx Tryz.func47 rfl rfl ?_;simp -dsimp[Tryz.f47,ou,gc];refine cPx (cv) (by simp) ?_;simp -dsimp[show ¬lf<1 by omega,show ¬b < -1000000000000000 by omega,show ¬1000000000000000<b by omega];refine gz c1 ?_;rintro _ _ ⟨rfl,rfl⟩;simp -dsimp[];refine gz c2 ?_;rintro _ _ ⟨⟨fl,rfl⟩,rfl⟩;simp -dsimp[];exact⟨fl,rfl⟩
 ·subst hr;refine⟨.tup [LNd fl P.1,.int .i64 0],?_,by simp,fl,rfl⟩
  cases hrel with
  | tup _ us hs h =>
   refine .tup _ us hs (fun i c u hc hu=>?_)
   match i with
   | 0=>simp at hc;subst hc;exact rel_nodes (h 0 _ u rfl hu)
   | 1=>simp at hc;subst hc;exact h 1 _ u rfl hu
   | i+2=>simp at hc
section
def swp(j:Nat)(l:List Nat):List Nat:=(l.set (j+1) (l.getD j 0)).set j (l.getD (j+1) 0)
def jO(lt:Nat→Nat→Bool):Nat→List Nat→List Nat
 | 0,l=>l
 | j+1,l=>if lt (l.getD (j+1) 0) (l.getD j 0)=true then jO lt j (swp j l) else l
def isF(lt:Nat→Nat→Bool):Nat→Nat→List Nat→List Nat
 | 0,_,l=>l
 | r+1,i,l=>isF lt r (i+1) (jO lt i l)
theorem swp_len(j:Nat)(l:List Nat):(swp j l).length=l.length:=by simp[swp]
theorem swp_perm(j:Nat)(l:List Nat)(h:j+1<l.length):(swp j l).Perm l:=by
 unfold swp;rw[gf l 0 h,gf l 0 (show j<l.length by omega)];exact List.set_set_perm h (by omega)
theorem ji(lt:Nat→Nat→Bool):∀(j:Nat) (l:List Nat),j<l.length→(jO lt j l).Perm l
 | 0,l,_=>.refl _
 | j+1,l,h=>by
  rw[jO];split
  ·exact(ji lt j (swp j l) (by rw[swp_len];omega)).trans (swp_perm j l h)
  ·exact .refl _
theorem kI(lt:Nat→Nat→Bool):∀(r i:Nat) (l:List Nat),i+r≤l.length→(isF lt r i l).Perm l
 | 0,_,l,_=>.refl _
 | r+1,i,l,h=>by
  rw[isF];have h1:=ji lt i l (by omega);exact(kI lt r (i+1) _ (by rw[h1.length_eq];omega)).trans h1
def kw(x:Nat):List Nat→List Nat
 | []=>[x]
 | y::rp=>if x<y then kw x rp++[y] else rp.reverse++[y,x]
def ltN(a b:Nat):Bool:=decide (a<b)
theorem sink_ins(x:Nat):∀(rp post:List Nat),jO ltN rp.length (rp.reverse++x::post)=kw x rp++post
 | [],post=>rfl
 | y::rp,post=>by
  have e:(y::rp).reverse++x::post=rp.reverse++y::x::post:=by simp
  rw[e,pk,jO,kw]
  have g1:(rp.reverse++y::x::post).getD (rp.length+1) 0=x:=by
   simp[qZ,pM]
  have g2:(rp.reverse++y::x::post).getD rp.length 0=y:=by
   simp[qZ,pM]
  have g3:swp rp.length (rp.reverse++y::x::post)=rp.reverse++x::y::post:=by
   unfold swp;rw[g1,g2,pr _ _ (by simp),pr _ _ (by simp)];simp
  rw[g1,g2,g3];by_cases h:x<y
  ·rw[if_pos (by simp[ltN,h]),if_pos h,sink_ins x rp (y::post)];simp
  ·rw[if_neg (by simp[ltN,h]),if_neg h];simp
theorem insBn_mem(x:Nat):∀(rp:List Nat) (z:Nat),z∈kw x rp↔z=x∨z∈rp
 | [],z=>by simp[kw]
 | y::rp,z=>by
  rw[kw];split
  ·rw[pz,pe,pD,insBn_mem x rp z];constructor
   ·rintro((h | h) | h)
    ·exact .inl h
    ·exact .inr (.inr h)
    ·exact .inr (.inl h)
   ·rintro(h | h | h)
    ·exact .inl (.inl h)
    ·exact .inr h
    ·exact .inl (.inr h)
  ·simp only[pz,List.mem_reverse,pD,pA,or_false];constructor
   ·rintro(h | h | h)<;>simp[h]
   ·rintro(h | h | h)<;>simp[h]
theorem lp(x:Nat):∀rp:List Nat,rp.reverse.Pairwise (·≤·)→(kw x rp).Pairwise (·≤·)
 | [],_=>by simp[kw]
 | y::rp,h=>by
  rw[List.reverse_cons,qw]at h;obtain⟨h1,_,h3⟩:=h;rw[kw];split
  ·rename_i hx;rw[qw];refine⟨lp x rp h1,by simp,fun a ha b hb=>?_⟩;rw[pe]at hb;subst hb
   rcases(insBn_mem x rp a).1 ha with rfl | ha
   ·omega
   ·exact h3 a (by simpa using ha) b (by simp)
  ·rename_i hx;rw[qw];refine⟨h1,by simp;omega,fun a ha b hb=>?_⟩;have:=h3 a ha y (by simp);simp at hb
   rcases hb with rfl | rfl<;>omega
theorem ny:∀(r i:Nat) (l:List Nat),i+r=l.length→(l.take i).Pairwise (·≤·)→(isF ltN r i l).Pairwise (·≤·)
 | 0,i,l,h,hs=>by
  rw[isF]
  rwa [pX (by omega)]at hs
 | r+1,i,l,h,hs=>by
  rw[isF]
  have hi:i<l.length:=by omega
  have e:l=(l.take i).reverse.reverse++l[i]::l.drop (i+1):=by
   rw[rq,←pB hi,qF]
  have hl:(l.take i).reverse.length=i:=by simp;omega
  have hk:=sink_ins l[i] (l.take i).reverse (l.drop (i+1));rw[hl,←e]at hk
  have hin:(kw l[i] (l.take i).reverse).length=i+1:=by
   have h1:=(ji ltN i l hi).length_eq;rw[hk,pK,rR]at h1;omega
  refine ny r (i+1) _ (by rw[(ji ltN i l hi).length_eq];omega) ?_;rw[hk,List.take_left' hin];exact lp _ _ (by rwa [rq])
section
variable {H:List B} {k:Nat}
def SL(H:List B)(k:Nat)(l:List Nat):List B:=H.set k (.buf 3 1 (nuL l) false)
theorem SL_at{H:List B}{k:Nat}(h:k<H.length)(l:List Nat):(SL H k l)[k]?=some (.buf 3 1 (nuL l) false):=by
 unfold SL;rw[pO h]
theorem SL_set(H:List B)(k:Nat)(l l':List Nat):(SL H k l).set k (.buf 3 1 (nuL l') false)=SL H k l':=by
 unfold SL;rw[qf]
theorem jT(H:List B)(k:Nat)(l:List Nat):(SL H k l).length=H.length:=by simp[SL]
theorem SL_rb{H:List B}(hH:∀bl∈H,rbB H.length bl)(k:Nat)(l:List Nat):∀bl∈SL H k l,rbB (SL H k l).length bl:=oe hH ((rbB_buf1 (jD l)).2 trivial)
theorem nan_I(x:Int):aE Tryz.prog 269 [.int .i64 x] fun r=>r = .bool false:=by
 refine sPx Tryz.func269 rfl rfl ?_;simp -dsimp[Tryz.f269,ou]
theorem less_I(a b:Nat):aE Tryz.prog 231 [.int .i64 (a:Int),.int .i64 (b:Int)] fun r=>r = .bool (ltN a b):=by
 unfold ltN;by_cases h:a<b
 ·rw[decide_eq_true h];refine sPx Tryz.func231 rfl rfl ?_;simp -dsimp[Tryz.f231,ou];refine cPx (nan_I a) (by simp) ?_;simp -dsimp[h]
 ·rw[decide_eq_false h];refine sPx Tryz.func231 rfl rfl ?_;simp -dsimp[Tryz.f231,ou];refine cPx (nan_I a) (by simp) ?_;simp -dsimp[h]
theorem insOrd_h(hk:k<H.length)(hH:∀bl∈H,rbB H.length bl)(l:List Nat)(n:Nat)(hn:l.length=n)(hn2:n≤1000000):
  aZ Tryz.prog 225 [.buf k 0 n n,.int .i64 0,.int .i64 n] (SL H k l) fun _ H'=>H'=SL H k (isF ltN (n-1) 1 l):=by
 obtain⟨S,hS⟩:∃S,S=isF ltN (n-1) 1 l:=⟨_,rfl⟩;rw[←hS];have w1:IntKind.i64.wrap (1:Int)=1:=wrap64 (by omega) (by omega);refine aK tok Tryz.func225 rfl rfl ?_;refine wx ?_;simp -dsimp[Tryz.f225,ou,w1];refine aR (W_loopM 49 0x1fffffffffcc0 (by simp[mB]<;>rfl) (σ:=Nat×List Nat) (fun p=>1≤p.1∧p.1≤n+1∧p.2.length=n∧isF ltN (n-p.1) p.1 p.2=S) (fun p=>n+1-p.1) (fun p=>[(6,.int .i64 p.1)]) (fun p=>SL H k p.2) (1,l) ⟨by simp,by simp,hn,hS.symm⟩ (by simp) (by simp) (by simp[jT]) ?_);rintro⟨i,l1⟩ ⟨hi,hi2,hl1,hx⟩ N Q hN hQ;simp only at hi hi2 hl1 hx hN;by_cases hb:i<n
 ·rw[show n-i=(n-(i+1))+1 by omega,isF]at hx;refine wx ?_;simp -dsimp[hb];refine aR (W_loopM 49 0x1ffffffff0080 (by simp[mB]<;>rfl) (σ:=Nat×List Nat) (fun p=>p.1≤i∧p.2.length=n∧jO ltN p.1 p.2=jO ltN i l1) (fun p=>p.1) (fun p=>[(7,.int .i64 p.1)]) (fun p=>SL H k p.2) (i,l1) ⟨by simp,hl1,rfl⟩ (by simp) (by simp) (by simp[jT]) ?_);rintro⟨j,l2⟩ ⟨hj,hl2,hy⟩ N2 Q2 hN2 hQ2;simp only at hj hl2 hy hN2;have g9:=SL_at hk l2;have hnl:=gk l2
  cases j with
  | zero =>
   rw[jO]at hy;refine wx ?_;simp -dsimp[];refine .inr ⟨bN (by kernel_rfl),?_⟩;refine hQ2 _ _ _ ?_;simp -dsimp[aa i (by omega)];refine hN (i+1,l2) _ _ ⟨by simp only;omega,by simp only;omega,hl2,by rw[hy];exact hx⟩ (by simp only;omega) (by simp) ⟨[],by simp⟩ (by simp[jT];exact hk) (SL_rb hH k l2)
  | succ j =>
   rw[jO]at hy
   have a1:=fun h=>gw (m:=l2) (x:=j+1) h
   have a0:=fun h=>gw (m:=l2) (x:=j) h
   have wj:IntKind.i64.wrap (((j:Int)+1)-1)=(j:Int):=by rw[wrap64 (by omega) (by omega)];omega
   have wj2:IntKind.i64.wrap (j:Int)=(j:Int):=eJ j (by omega)
   have hj1:j+1<n:=by omega
   have hj0:j<n:=by omega
   obtain⟨x,hxx⟩:∃x,x=l2.getD (j+1) 0:=⟨_,rfl⟩;obtain⟨y,hyy⟩:∃y,y=l2.getD j 0:=⟨_,rfl⟩;rw[←hxx,←hyy]at hy;rw[←hxx]at a1;rw[←hyy]at a0;have cl:=less_I x y
   cases hq:ltN x y with
   | true =>
    rw[hq]at cl;rw[if_pos hq]at hy;refine wx ?_;simp -dsimp[g9,hnl,hl2,hj1,hj0,a1,a0,wj,wj2,show(0:Int)≤(j:Int)+1 by omega,show(j:Int)+1<(n:Int) by omega];refine .inr ⟨bN (by kernel_rfl),?_⟩;refine ar _ (aW (cl) (by simp)) ?_;simp -dsimp[]
    have hsw:swp j l2=(l2.set (j+1) y).set j x:=by unfold swp;rw[←hxx,←hyy]
    have hst1:(nuL l2).set (j+1) (.int .i64 (y:Int))=nuL (l2.set (j+1) y):=iT l2 (j+1) y
    have hst2:(nuL (l2.set (j+1) y)).set j (.int .i64 (x:Int))=nuL (swp j l2):=by rw[hsw];exact iT _ j x
    have q9:=SL_at hk (l2.set (j+1) y);have qs1:=SL_set H k l2 (l2.set (j+1) y);have qs2:=SL_set H k (l2.set (j+1) y) (swp j l2);have qnl:=gk (l2.set (j+1) y);rw[qK]at qnl
    have b0:=fun h=>gw (m:=l2.set (j+1) y) (x:=j) h
    refine aR (ao tok mixed [15,17] [(2,[1]),(3,[1]),(4,[1])] [] (by kernel_rfl) fun C K hC hK=>?_);simp -implicitDefEqProofs [g9,hnl,hl2,hj1,hj0,a1,a0,wj,wj2,hst1,hst2,q9,qs1,qs2,qnl,b0,show(0:Int)≤(j:Int)+1 by omega,show(j:Int)+1<(n:Int) by omega];refine hK _ _ ?_;simp -dsimp[wj,wj2];refine hN2 (j,swp j l2) _ _ ⟨by simp only;omega,by rw[swp_len];exact hl2,hy⟩ (by simp only;omega) (by simp) ⟨[],by simp⟩ (by simp[jT];exact hk) (SL_rb hH k _)
   | false =>
    rw[hq]at cl;rw[if_neg (by rw[hq];simp)]at hy;refine wx ?_;simp -dsimp[g9,hnl,hl2,hj1,hj0,a1,a0,wj,wj2,show(0:Int)≤(j:Int)+1 by omega,show(j:Int)+1<(n:Int) by omega];refine .inr ⟨bN (by kernel_rfl),?_⟩;refine ar _ (aW (cl) (by simp)) ?_;simp -dsimp[];refine hQ2 _ _ _ ?_;simp -dsimp[aa i (by omega)];refine hN (i+1,l2) _ _ ⟨by simp only;omega,by simp only;omega,hl2,by rw[hy];exact hx⟩ (by simp only;omega) (by simp) ⟨[],by simp⟩ (by simp[jT];exact hk) (SL_rb hH k l2)
 ·rw[show n-i=0 by omega,isF]at hx;subst hx;refine wx ?_;simp -dsimp[hb];refine hQ _ _ _ ?_;simp -dsimp[]
end
end
section
def nA(cf:Nat→Nat→Int)(a b:Nat):Bool:=decide (cf a b<0)
section
variable {H:List B} {k:Nat}
theorem insCmp_h(hk:k<H.length)(hH:∀bl∈H,rbB H.length bl)(l:List Nat)(n:Nat)(hn:l.length=n)(hn2:n≤1000000)(fv:V)(hfv:rb H.length fv)(cf:Nat→Nat→Int)(hp:∀a b,a∈l→b∈l→∀l',aI Tryz.prog fv [.int .i64 (a:Int),.int .i64 (b:Int)] (SL H k l') fun r H'=>r = .int .i64 (cf a b)∧H'=SL H k l'):
  aZ Tryz.prog 223 [.buf k 0 n n,.int .i64 0,.int .i64 n,fv] (SL H k l) fun _ H'=>H'=SL H k (isF (nA cf) (n-1) 1 l):=by
 obtain⟨S,hS⟩:∃S,S=isF (nA cf) (n-1) 1 l:=⟨_,rfl⟩;rw[←hS];have w1:IntKind.i64.wrap (1:Int)=1:=wrap64 (by omega) (by omega);refine aK tok Tryz.func223 rfl rfl ?_;refine wx ?_;simp -dsimp[Tryz.f223,ou,w1];refine aR (W_loopM 53 0x1ffffffffff300 (by simp[mB]<;>rfl) (σ:=Nat×List Nat) (fun p=>1≤p.1∧p.1≤n+1∧p.2.length=n∧p.2.Perm l∧isF (nA cf) (n-p.1) p.1 p.2=S) (fun p=>n+1-p.1) (fun p=>[(8,.int .i64 p.1)]) (fun p=>SL H k p.2) (1,l) ⟨by simp,by simp,hn,.refl _,hS.symm⟩ (by simp) (by simp) (by simp[jT]) ?_);rintro⟨i,l1⟩ ⟨hi,hi2,hl1,hpm,hx⟩ N Q hN hQ;simp only at hi hi2 hl1 hpm hx hN;by_cases hb:i<n
 ·rw[show n-i=(n-(i+1))+1 by omega,isF]at hx;refine wx ?_;simp -dsimp[hb];refine aR (W_loopM 53 0x1ffffffffc0200 (by simp[mB]<;>rfl) (σ:=Nat×List Nat) (fun p=>p.1≤i∧p.2.length=n∧p.2.Perm l∧jO (nA cf) p.1 p.2=jO (nA cf) i l1) (fun p=>p.1) (fun p=>[(9,.int .i64 p.1)]) (fun p=>SL H k p.2) (i,l1) ⟨by simp,hl1,hpm,rfl⟩ (by simp) (by simp) (by simp[jT]) ?_);rintro⟨j,l2⟩ ⟨hj,hl2,hpm2,hy⟩ N2 Q2 hN2 hQ2;simp only at hj hl2 hpm2 hy hN2;have g9:=SL_at hk l2;have hnl:=gk l2
  cases j with
  | zero =>
   rw[jO]at hy;refine wx ?_;simp -dsimp[];refine .inr ⟨bN (by kernel_rfl),?_⟩;refine hQ2 _ _ _ ?_;simp -dsimp[aa i (by omega)];refine hN (i+1,l2) _ _ ⟨by simp only;omega,by simp only;omega,hl2,hpm2,by rw[hy];exact hx⟩ (by simp only;omega) (by simp) ⟨[],by simp⟩ (by simp[jT];exact⟨hk,hfv⟩) (SL_rb hH k l2)
  | succ j =>
   rw[jO]at hy
   have a1:=fun h=>gw (m:=l2) (x:=j+1) h
   have a0:=fun h=>gw (m:=l2) (x:=j) h
   have wj:IntKind.i64.wrap (((j:Int)+1)-1)=(j:Int):=by rw[wrap64 (by omega) (by omega)];omega
   have wj2:IntKind.i64.wrap (j:Int)=(j:Int):=eJ j (by omega)
   have hj1:j+1<n:=by omega
   have hj0:j<n:=by omega
   obtain⟨x,hxx⟩:∃x,x=l2.getD (j+1) 0:=⟨_,rfl⟩;obtain⟨y,hyy⟩:∃y,y=l2.getD j 0:=⟨_,rfl⟩;rw[←hxx,←hyy]at hy;rw[←hxx]at a1;rw[←hyy]at a0;have hmx:x∈l:=hpm2.mem_iff.1 (by rw[hxx,gf l2 0 (by omega)];exact ow _);have hmy:y∈l:=hpm2.mem_iff.1 (by rw[hyy,gf l2 0 (by omega)];exact ow _);have cl:=hp x y hmx hmy l2;obtain⟨z,hz⟩:∃z,z=cf x y:=⟨_,rfl⟩;rw[←hz]at cl
   have hzq:nA cf x y=decide (z<0):=by rw[hz];rfl
   cases hq:nA cf x y with
   | true =>
    rw[if_pos hq]at hy;rw[hzq]at hq;have hz0:=of_decide_eq_true hq;refine wx ?_;simp -dsimp[g9,hnl,hl2,hj1,hj0,a1,a0,wj,wj2,show(0:Int)≤(j:Int)+1 by omega,show(j:Int)+1<(n:Int) by omega];refine .inr ⟨bN (by kernel_rfl),?_⟩;refine ar _ cl ?_;simp -dsimp[hz0]
    have hsw:swp j l2=(l2.set (j+1) y).set j x:=by unfold swp;rw[←hxx,←hyy]
    have hst1:(nuL l2).set (j+1) (.int .i64 (y:Int))=nuL (l2.set (j+1) y):=iT l2 (j+1) y
    have hst2:(nuL (l2.set (j+1) y)).set j (.int .i64 (x:Int))=nuL (swp j l2):=by rw[hsw];exact iT _ j x
    have q9:=SL_at hk (l2.set (j+1) y);have qs1:=SL_set H k l2 (l2.set (j+1) y);have qs2:=SL_set H k (l2.set (j+1) y) (swp j l2);have qnl:=gk (l2.set (j+1) y);rw[qK]at qnl
    have b0:=fun h=>gw (m:=l2.set (j+1) y) (x:=j) h
    refine aR (ao tok mixed [15,17] [(2,[1]),(3,[1]),(4,[1])] [] (by kernel_rfl) fun C K hC hK=>?_);simp -implicitDefEqProofs [g9,hnl,hl2,hj1,hj0,a1,a0,wj,wj2,hst1,hst2,q9,qs1,qs2,qnl,b0,show(0:Int)≤(j:Int)+1 by omega,show(j:Int)+1<(n:Int) by omega];refine hK _ _ ?_;simp -dsimp[wj,wj2];refine hN2 (j,swp j l2) _ _ ⟨by simp only;omega,by rw[swp_len];exact hl2,(swp_perm j l2 (by omega)).trans hpm2,hy⟩ (by simp only;omega) (by simp) ⟨[],by simp⟩ (by simp[jT];exact⟨hk,hfv⟩) (SL_rb hH k _)
   | false =>
    rw[if_neg (by rw[hq];simp)]at hy;rw[hzq]at hq;have hz0:=of_decide_eq_false hq;refine wx ?_;simp -dsimp[g9,hnl,hl2,hj1,hj0,a1,a0,wj,wj2,show(0:Int)≤(j:Int)+1 by omega,show(j:Int)+1<(n:Int) by omega];refine .inr ⟨bN (by kernel_rfl),?_⟩;refine ar _ cl ?_;simp -dsimp[hz0];refine hQ2 _ _ _ ?_;simp -dsimp[aa i (by omega)];refine hN (i+1,l2) _ _ ⟨by simp only;omega,by simp only;omega,hl2,hpm2,by rw[hy];exact hx⟩ (by simp only;omega) (by simp) ⟨[],by simp⟩ (by simp[jT];exact⟨hk,hfv⟩) (SL_rb hH k l2)
 ·rw[show n-i=0 by omega,isF]at hx;subst hx;refine wx ?_;simp -dsimp[hb];refine hQ _ _ _ ?_;simp -dsimp[]
theorem bitsLen(n:Nat)(h:n≤12):∃v:Int,aE Tryz.prog 105 [.int .u64 (n:Int)] fun r=>r = .int .i64 v :=
 match n,h with
 | 0,_=>⟨0,aC tok mixed aN gq (fuel:=1000) (d:=40) (by kernel_rfl) (by simp)⟩
 | 1,_=>⟨1,aC tok mixed aN gq (fuel:=1000) (d:=40) (by kernel_rfl) (by simp)⟩
 | 2,_=>⟨2,aC tok mixed aN gq (fuel:=1000) (d:=40) (by kernel_rfl) (by simp)⟩
 | 3,_=>⟨2,aC tok mixed aN gq (fuel:=1000) (d:=40) (by kernel_rfl) (by simp)⟩
 | 4,_=>⟨3,aC tok mixed aN gq (fuel:=1000) (d:=40) (by kernel_rfl) (by simp)⟩
 | 5,_=>⟨3,aC tok mixed aN gq (fuel:=1000) (d:=40) (by kernel_rfl) (by simp)⟩
 | 6,_=>⟨3,aC tok mixed aN gq (fuel:=1000) (d:=40) (by kernel_rfl) (by simp)⟩
 | 7,_=>⟨3,aC tok mixed aN gq (fuel:=1000) (d:=40) (by kernel_rfl) (by simp)⟩
 | 8,_=>⟨4,aC tok mixed aN gq (fuel:=1000) (d:=40) (by kernel_rfl) (by simp)⟩
 | 9,_=>⟨4,aC tok mixed aN gq (fuel:=1000) (d:=40) (by kernel_rfl) (by simp)⟩
 | 10,_=>⟨4,aC tok mixed aN gq (fuel:=1000) (d:=40) (by kernel_rfl) (by simp)⟩
 | 11,_=>⟨4,aC tok mixed aN gq (fuel:=1000) (d:=40) (by kernel_rfl) (by simp)⟩
 | 12,_=>⟨4,aC tok mixed aN gq (fuel:=1000) (d:=40) (by kernel_rfl) (by simp)⟩
 | n+13,h=>by omega
theorem sort_h(hk:k<H.length)(hH:∀bl∈H,rbB H.length bl)(l:List Nat)(n:Nat)(hn:l.length=n)(hn2:n≤12):
  aZ Tryz.prog 116 [.buf k 0 n n] (SL H k l) fun _ H'=>H'=SL H k (isF ltN (n-1) 1 l):=by
 obtain⟨v,hv⟩:=bitsLen n hn2;have c1:=insOrd_h hk hH l n hn (by omega)
 have c2:aZ Tryz.prog 171 [.buf k 0 n n,.int .i64 0,.int .i64 n,.int .i64 v] (SL H k l) fun _ H'=>H'=SL H k (isF ltN (n-1) 1 l):=by
  have w0:IntKind.i64.wrap (n:Int)=n:=eJ n (by omega);refine aK tok Tryz.func171 rfl rfl ?_;refine wx ?_;simp -dsimp[Tryz.f171,ou];refine aR (W_loopM 134 0x3fffffffffffffffffffffffffffffff0e (by simp[mB]<;>rfl) (σ:=Nat) (fun p=>p=0) (fun p=>0) (fun _=>[(8,.bool true),(9,.bool true),(1,.int .i64 0),(2,.int .i64 n),(3,.int .i64 v)]) (fun _=>SL H k l) 0 rfl (by simp) (by simp) (by simp) ?_);rintro p rfl N Q hN hQ;refine wx ?_;simp -dsimp[w0,show(n:Int)≤12 by omega,show n≤12 by omega];refine gz c1 ?_;rintro _ _ rfl;simp -dsimp[];refine hQ _ _ _ ?_;simp -dsimp[]
 have wu:IntKind.u64.wrap (n:Int)=(n:Int):=by rw[IntKind.wrap_u64];omega
 have g9:=SL_at hk l;have hnl:=gk l;refine aK tok Tryz.func116 rfl rfl ?_;refine wx ?_;simp -dsimp[Tryz.f116,ou,g9,hnl,hn,wu];refine cPx hv (by simp) ?_;simp -dsimp[];refine gz c2 ?_;rintro _ _ rfl;simp -dsimp[]
theorem sortStable_h(hk:k<H.length)(hH:∀bl∈H,rbB H.length bl)(l:List Nat)(n:Nat)(hn:l.length=n)(hn2:n<20)(fv:V)(hfv:rb H.length fv)(cf:Nat→Nat→Int)(hp:∀a b,a∈l→b∈l→∀l',aI Tryz.prog fv [.int .i64 (a:Int),.int .i64 (b:Int)] (SL H k l') fun r H'=>r = .int .i64 (cf a b)∧H'=SL H k l'):
  aZ Tryz.prog 113 [.buf k 0 n n,fv] (SL H k l) fun _ H'=>H'=SL H k (isF (nA cf) (n-1) 1 l):=by
 have c1:=insCmp_h hk hH l n hn (by omega) fv hfv cf hp
 have c2:aZ Tryz.prog 170 [.buf k 0 n n,.int .i64 n,fv] (SL H k l) fun _ H'=>H'=SL H k (isF (nA cf) (n-1) 1 l):=by
  refine aK tok Tryz.func170 rfl rfl ?_;refine wx ?_;simp -dsimp[Tryz.f170,ou];refine aR (W_loopM 23 0x7ff980 (by simp[mB]<;>rfl) (σ:=Nat) (fun p=>p=0) (fun p=>0) (fun _=>[(7,.int .i64 0),(8,.int .i64 20)]) (fun _=>SL H k l) 0 rfl (by simp) (by simp) (by simp) ?_);rintro p rfl N Q hN hQ;refine wx ?_;simp -dsimp[show ¬(20:Int)≤n by omega,show ¬20≤n by omega];refine hQ _ _ _ ?_;simp -dsimp[];refine gz c1 ?_;rintro _ _ rfl;simp -dsimp[];refine aR (W_loopM 63 0x7ffffffff00003c0 (by simp[mB]<;>rfl) (σ:=Nat) (fun p=>p=0) (fun p=>0) (fun _=>[(6,.int .i64 20)]) (fun _=>SL H k (isF (nA cf) (n-1) 1 l)) 0 rfl (by simp) (by simp) (by simp) ?_);rintro p rfl N2 Q2 hN2 hQ2;refine wx ?_;simp -dsimp[show ¬(20:Int)<n by omega,show ¬20<n by omega];refine hQ2 _ _ _ ?_;simp -dsimp[]
 have g9:=SL_at hk l;have hnl:=gk l;refine aK tok Tryz.func113 rfl rfl ?_;refine wx ?_;simp -dsimp[Tryz.f113,ou,g9,hnl,hn];refine gz c2 ?_;rintro _ _ rfl;simp -dsimp[]
end
end
section
def nX{α:Type}(L:Nat→α)(v:Nat)(l:α):Nat→α:=fun u=>if u=v then l else L u
def atR(n:Nat)(Lh:Nat→Nat):List V:=(pG n).map fun v=>.buf (v+4) 0 (Lh v) (Lh v)
def GH(C0:B)(E n:Nat)(rem:List Int)(Lh:Nat→Nat)(L:Nat→List Nat)(tl:List B):List B :=
 C0::.buf 3 1 (inL rem) false::.cells [.buf 1 0 E E]::.buf 50 1 (atR n Lh) false::((pG n).map (fun v=>.buf 3 1 (nuL (L v)) false)++tl)
section
variable {C0:B} {E n:Nat} {rem:List Int} {Lh:Nat→Nat} {L:Nat→List Nat} {tl:List B}
theorem GH_0:(GH C0 E n rem Lh L tl)[0]?=some C0:=rfl
theorem GH_1:(GH C0 E n rem Lh L tl)[1]?=some (.buf 3 1 (inL rem) false):=rfl
theorem GH_2:(GH C0 E n rem Lh L tl)[2]?=some (.cells [.buf 1 0 E E]):=rfl
theorem GH_3:(GH C0 E n rem Lh L tl)[3]?=some (.buf 50 1 (atR n Lh) false):=rfl
theorem GH_v{v:Nat}(h:v<n):(GH C0 E n rem Lh L tl)[v+4]?=some (.buf 3 1 (nuL (L v)) false):=by
 show((pG n).map (fun v=>B.buf 3 1 (nuL (L v)) false)++tl)[v]?=_;rw[pH (by simpa using h)];simp[h]
theorem GH_tl(i:Nat):(GH C0 E n rem Lh L tl)[n+4+i]?=tl[i]?:=by
 rw[show n+4+i=n+i+4 by omega];show((pG n).map (fun v=>B.buf 3 1 (nuL (L v)) false)++tl)[n+i]?=_;rw[pM (by simp)];simp
theorem iZ:(GH C0 E n rem Lh L tl).length=n+4+tl.length:=by
 simp[GH];omega
theorem GH_set1(rem':List Int):(GH C0 E n rem Lh L tl).set 1 (.buf 3 1 (inL rem') false)=GH C0 E n rem' Lh L tl:=rfl
theorem GH_set3(Lh':Nat→Nat):(GH C0 E n rem Lh L tl).set 3 (.buf 50 1 (atR n Lh') false)=GH C0 E n rem Lh' L tl:=rfl
theorem kU{α:Type}(n v:Nat)(F F':Nat→α)(y:α)(h1:F' v=y)(h2:∀u,u≠v→F' u=F u):((pG n).map F).set v y=(pG n).map F':=by
 refine ry (by simp) (fun i hi1 hi2=>?_);rw[List.getElem_set];split
 ·rename_i he;subst he;simp[h1]
 ·rename_i he;simp[h2 i (fun h=>he h.symm)]
theorem GH_setv{v:Nat}(h:v<n)(l:List Nat):(GH C0 E n rem Lh L tl).set (v+4) (.buf 3 1 (nuL l) false)=GH C0 E n rem Lh (nX L v l) tl:=by
 show C0::_::_::_::(((pG n).map (fun v=>B.buf 3 1 (nuL (L v)) false)++tl).set v (.buf 3 1 (nuL l) false))=_;rw[List.set_append_left _ _ (by simpa using h),kU n v _ (fun u=>B.buf 3 1 (nuL (nX L v l u)) false) _ (by simp[nX]) (fun u hu=>by simp[nX,hu])];rfl
theorem atR_len:(atR n Lh).length=n:=by simp[atR]
theorem atR_get{v:Nat}(h:v<(atR n Lh).length):(atR n Lh)[v] = .buf (v+4) 0 (Lh v) (Lh v):=by simp[atR]
theorem atR_set(v m:Nat):(atR n Lh).set v (.buf (v+4) 0 m m)=atR n (nX Lh v m):=by
 unfold atR;exact kU n v _ _ _ (by simp[nX]) (fun u hu=>by simp[nX,hu])
theorem GH_rb(h0:rbB 1 C0)(ht:∀bl∈tl,rbB (n+4+tl.length) bl):∀bl∈GH C0 E n rem Lh L tl,rbB (GH C0 E n rem Lh L tl).length bl:=by
 rw[iZ];intro bl hb;unfold GH at hb
 rcases List.mem_cons.1 hb with rfl | hb
 ·exact rbBM (by omega) h0
 rcases List.mem_cons.1 hb with rfl | hb
 ·exact(rbB_buf1 (nz _)).2 trivial
 rcases List.mem_cons.1 hb with rfl | hb
 ·intro c hc;simp at hc;subst hc;show 1<_;omega
 rcases List.mem_cons.1 hb with rfl | hb
 ·intro x hx c hc;obtain⟨v,hv,rfl⟩:=List.mem_map.1 hx;rw[qh]at hv;simp[V.cells]at hc;subst hc;show v+4<_;omega
 rcases List.mem_append.1 hb with hb | hb
 ·obtain⟨v,_,rfl⟩:=List.mem_map.1 hb;exact(rbB_buf1 (jD _)).2 trivial
 ·exact ht bl hb
end
def LE(es:List (List Nat))(i k v:Nat):List Nat:=(pG i).filter (fun j=>decide (v∈es.getD j []))++if v∈(es.getD i []).take k then [i] else []
theorem LE_succ{es:List (List Nat)}{i k:Nat}(hk:k<(es.getD i []).length)(hn:(es.getD i []).Nodup):LE es i (k+1)=nX (LE es i k) (es.getD i [])[k] (LE es i k (es.getD i [])[k]++[i]):=by
 funext u;unfold nX LE;rw[pJ hk];by_cases h:u=(es.getD i [])[k]
 ·rw[if_pos h,if_pos (by rw[h];exact qe _ (List.mem_singleton.2 rfl)),h]
  have:¬(es.getD i [])[k]∈(es.getD i []).take k:=by
   intro hm;obtain⟨j,hj,he⟩:=List.mem_iff_getElem.1 hm;rw[List.getElem_take]at he
   have hjk:j<k:=by rw[qO]at hj;omega
   exact List.pairwise_iff_getElem.1 hn j k (by omega) hk hjk he
  rw[if_neg this,pL]
 ·rw[if_neg h]
  have:(u∈(es.getD i []).take k++[(es.getD i [])[k]])↔u∈(es.getD i []).take k:=by
   rw[pz,pe];exact⟨fun h2=>h2.elim id (fun e=>absurd e h),.inl⟩
  simp only[this]
theorem LE_next(es:List (List Nat))(i:Nat):LE es (i+1) 0=LE es i (es.getD i []).length:=by
 funext u;unfold LE;rw[qI,rS,rB,if_neg (by simp),pL,pt];congr 1;rw[rH,sC];by_cases h:u∈es.getD i []
 ·rw[if_pos (decide_eq_true h),if_pos h]
 ·rw[if_neg (by simpa using h),if_neg h]
theorem LE_len(es:List (List Nat))(i k v:Nat):(LE es i k v).length≤i+1:=by
 unfold LE;have:=pY (fun j=>decide (v∈es.getD j [])) (pG i);rw[pK];split<;>simp at this ⊢<;>omega
theorem LE_mem(es:List (List Nat))(j v:Nat):j∈LE es es.length 0 v↔j<es.length∧v∈es.getD j []:=by
 unfold LE;rw[rB,if_neg (by simp),pL,qH,qh,decide_eq_true_iff]
def ii(es:List (List Nat))(i:Nat):List Int:=(pG es.length).map fun j=>if j<i then((es.getD j []).length:Int) else 0
theorem lU(es:List (List Nat))(i:Nat):(ii es i).length=es.length:=by simp[ii]
theorem remF_set{es:List (List Nat)}{i:Nat} : (ii es i).set i ((es.getD i []).length:Int)=ii es (i+1):=by
 unfold ii;refine kU _ i _ _ _ (by simp) (fun u hu=>?_)
 have:u<i+1↔u<i:=by omega
 simp only[this]
theorem remF_get{es:List (List Nat)}{j:Nat}(h:j<es.length):(ii es es.length).getD j 0=((es.getD j []).length:Int):=by
 rw[gf _ _ (by rw[lU];exact h)];simp[ii,h]
end
section
theorem idxFuncB(H:List B)(k:Nat)(fv:V)(p:Nat→Bool)(e:List Nat)(m:Nat)(hm:m=e.length)(hk:H[k]?=some (.buf 3 1 (nuL e) false))(hes:e.length≤1000000)(hH:∀bl∈H,rbB H.length bl)(hfv:rb H.length fv)
  (hp:∀v∈e,aI Tryz.prog fv [.int .i64 (v:Int)] H fun r H'=>r = .bool (p v)∧H'=H):aZ Tryz.prog 156 [.buf k 0 m m,fv] H fun r H'=>r = .int .i64 (ixN p e 0)∧H'=H:=by
 subst hm;have hkl:k<H.length:=aB hk;have hnl:=gk e;refine aK tok Tryz.func156 rfl rfl ?_;refine wx ?_;simp -dsimp[Tryz.f156,ou,hk,hnl];refine aR (W_loopM 19 0x7ff30 (by simp[mB]<;>rfl) (σ:=Nat) (fun i=>ixN p e i=ixN p e 0) (fun i=>e.length-i) (fun i=>[(8,.int .i64 i)]) (fun _=>H) 0 rfl (by simp) rfl (by simp) ?_);intro i hx N Q hN hQ;by_cases hb:i<e.length
 ·rw[ixN,dif_pos hb]at hx;have hc:=hp e[i] (ow hb)
  have hat:=fun h=>gw (m:=e) (x:=i) h
  rw[gf e 0 hb]at hat;obtain⟨v,hv⟩:∃v,v=e[i]:=⟨_,rfl⟩;rw[←hv]at hat hc hx;cases hq:p v
  ·rw[hq]at hc hx;refine wx ?_;simp -dsimp[hb,hk,hnl,hat];refine hc.mono ?_;rintro r H' ⟨rfl,rfl⟩;simp -dsimp[aa i (by omega)];refine hN (i+1) _ _ (by simpa using hx) (by omega) (by simp) ⟨[],by simp⟩ (by simp[hkl];exact hfv) hH
  ·rw[hq]at hc hx;refine wx ?_;simp -dsimp[hb,hk,hnl,hat];refine hc.mono ?_;rintro r H' ⟨rfl,rfl⟩;simp -dsimp[];refine hQ _ _ _ ?_;simp -dsimp[];simpa using hx
 ·rw[ixN,dif_neg hb]at hx;refine wx ?_;simp -dsimp[hb];refine hQ _ _ _ ?_;simp -dsimp[];simpa using hx
theorem contFuncB(H:List B)(k:Nat)(fv:V)(p:Nat→Bool)(e:List Nat)(m:Nat)(hm:m=e.length)(hk:H[k]?=some (.buf 3 1 (nuL e) false))(hes:e.length≤1000000)(hH:∀bl∈H,rbB H.length bl)(hfv:rb H.length fv)
  (hp:∀v∈e,aI Tryz.prog fv [.int .i64 (v:Int)] H fun r H'=>r = .bool (p v)∧H'=H):aZ Tryz.prog 100 [.buf k 0 m m,fv] H fun r H'=>r = .bool (e.any p)∧H'=H:=by
 have h0:=ixN_any p e 0;rw[pT]at h0;have hc:=idxFuncB H k fv p e m hm hk hes hH hfv hp;refine aK tok Tryz.func100 rfl rfl ?_;refine wx ?_;simp -dsimp[Tryz.f100,ou];refine(show aI Tryz.prog (.fn 156 []) _ H _ from by simpa[aI] using hc).mono ?_;rintro r H' ⟨rfl,rfl⟩;simp -dsimp[];rw[←h0]
section
variable {C0:B} {E n:Nat} {rem:List Int} {Lh:Nat→Nat} {L:Nat→List Nat} {tl:List B}
theorem GH_app(X:B):GH C0 E n rem Lh L tl++[X]=GH C0 E n rem Lh L (tl++[X]):=by simp[GH]
theorem GH_SL(X:B)(l:List Nat):SL (GH C0 E n rem Lh L (X::tl)) (n+4) l=GH C0 E n rem Lh L (.buf 3 1 (nuL l) false::tl):=by
 show C0::_::_::_::(((pG n).map (fun v=>B.buf 3 1 (nuL (L v)) false)++X::tl).set n (.buf 3 1 (nuL l) false))=_;rw[pr _ _ (by simp)];simp[GH]
theorem GH_SL2(X Y:B)(l:List Nat):SL (GH C0 E n rem Lh L (X::Y::tl)) (n+5) l=GH C0 E n rem Lh L (X::.buf 3 1 (nuL l) false::tl):=by
 show C0::_::_::_::(((pG n).map (fun v=>B.buf 3 1 (nuL (L v)) false)++X::Y::tl).set (n+1) (.buf 3 1 (nuL l) false))=_;rw[pr _ _ (by simp)];simp[GH]
end
def ko(n i:Nat):List Nat:=(pG n).map fun j=>if j<i then j else 0
theorem ordF_len(n i:Nat):(ko n i).length=n:=by simp[ko]
theorem ordF_set(n i:Nat):(ko n i).set i i=ko n (i+1):=by
 unfold ko;refine kU _ i _ _ _ (by simp) (fun u hu=>?_)
 have:u<i+1↔u<i:=by omega
 simp only[this]
theorem ordF_all(n:Nat):ko n n=pG n:=by
 unfold ko;refine ry (by simp) (fun i h1 h2=>?_);simp at h1;simp[h1]
theorem ordF_zero(n:Nat):ou n (V.int .i64 0)=nuL (ko n 0):=by
 unfold nuL ko;refine ry (by simp) (fun i h1 h2=>by simp[eN])
end
def kep(ord out:List Nat)(p v:Nat):Bool:=decide (v∈out∨v∈ord.drop p)
structure GI (es:List (List Nat)) (ord:List Nat) (p:Nat) (rem:List Int) (out:List Nat):Prop where
 len:rem.length=es.length
 cnt:∀j<es.length,rem.getD j 0=((es.getD j []).countP (kep ord out p):Nat)
 pos:∀j<es.length,1≤rem.getD j 0
 sub:∀v∈out,v∈ord.take p
 nd:out.Nodup
theorem oq{ord:List Nat}(hn:ord.Nodup){p:Nat}(hp:p<ord.length):ord[p]∉ord.take p∧ord[p]∉ord.drop (p+1):=by
 have h:ord=ord.take p++ord[p]::ord.drop (p+1):=by rw[←pB hp,qF]
 have hn2:=hn;rw[h,List.nodup_append]at hn2;obtain⟨_,h2,h3⟩:=hn2;exact⟨fun hm=>h3 _ hm _ (pW) rfl,(List.nodup_cons.1 h2).1⟩
theorem GI.keep{es:List (List Nat)}{ord:List Nat}{p:Nat}{rem:List Int}{out:List Nat}(g:GI es ord p rem out)(hn:ord.Nodup)(hp:p<ord.length):GI es ord (p+1) rem (out++[ord[p]]):=by
 have hk:kep ord (out++[ord[p]]) (p+1)=kep ord out p:=by
  funext v;unfold kep;rw[pB hp];simp only[pz,pD,pA,or_false,or_assoc]
 have ho:ord[p]∉out:=fun h=>(oq hn hp).1 (g.sub _ h)
 refine⟨g.len,fun j hj=>by rw[hk];exact g.cnt j hj,g.pos,fun v hv=>?_,?_⟩
 ·rw[pJ hp]
  rcases List.mem_append.1 hv with h | h
  ·exact qx _ (g.sub v h)
  ·exact qe _ h
 ·rw[List.nodup_append];refine⟨g.nd,by simp,fun a ha b hb=>?_⟩;rw[pe]at hb;subst hb;rintro rfl;exact ho ha
theorem mD{P Q:Nat→Bool}{v:Nat}(hq:Q v=false)(hpv:P v=true)(h:∀u,u≠v→P u=Q u):∀e:List Nat,e.Nodup→e.countP P=e.countP Q+if v∈e then 1 else 0
 | [],_=>by simp
 | u::e,hn=>by
  obtain⟨h1,h2⟩:=List.nodup_cons.1 hn;rw[List.countP_cons,List.countP_cons,mD hq hpv h e h2];by_cases hu:u=v
  ·subst hu;rw[if_neg h1,if_pos hpv,hq,if_pos pW,if_neg (by simp)]
  ·rw[h u hu]
   have:(v∈u::e)↔v∈e:=by
    rw[pD];exact⟨fun h=>h.elim (fun e=>absurd e.symm hu) id,.inr⟩
   simp only[this];omega
theorem GI.out{es:List (List Nat)}{ord:List Nat}{p:Nat}{rem rem':List Int}{out:List Nat}{L:List Nat}(g:GI es ord p rem out)(hn:ord.Nodup)(hp:p<ord.length)(hE:∀e∈es,e.Nodup)(hL:∀j,j∈L↔j<es.length∧ord[p]∈es.getD j [])
  (h1:∀j∈L,rem.getD j 0≠1) (hl:rem'.length=es.length) (hr:∀j<es.length,rem'.getD j 0=rem.getD j 0-if j∈L then 1 else 0):GI es ord (p+1) rem' out:=by
 obtain⟨n1,n2⟩:=oq hn hp
 have ho:ord[p]∉out:=fun h=>n1 (g.sub _ h)
 refine⟨hl,fun j hj=>?_,fun j hj=>?_,fun v hv=>?_,g.nd⟩
 ·have hs:=mD (P:=kep ord out p) (Q:=kep ord out (p+1)) (v:=ord[p]) (by unfold kep;exact decide_eq_false (by rintro(h | h);exact ho h;exact n2 h)) (by unfold kep;rw[pB hp];exact decide_eq_true (.inr pW)) (fun u hu=>by
   unfold kep;rw[pB hp]
   have:(u∈out∨u∈ord[p]::ord.drop (p+1))↔(u∈out∨u∈ord.drop (p+1)):=by
    rw[pD];exact⟨fun h=>h.elim .inl (fun h=>h.elim (fun e=>absurd e hu) .inr),fun h=>h.elim .inl (fun h=>.inr (.inr h))⟩
   simp only[this]) (es.getD j []) (hE _ (jZ hj))
  rw[hr j hj,g.cnt j hj,hs];by_cases hm:j∈L
  ·rw[if_pos hm,if_pos ((hL j).1 hm).2];omega
  ·rw[if_neg hm,if_neg (fun h=>hm ((hL j).2 ⟨hj,h⟩))];omega
 ·rw[hr j hj];have h2:=g.pos j hj;split
  ·have:=h1 j (by assumption);omega
  ·omega
 ·rw[pJ hp];exact qx _ (g.sub v hv)
theorem GI.hits{es:List (List Nat)}{ord:List Nat}{p:Nat}{rem:List Int}{out:List Nat}(g:GI es ord p rem out)(hp:ord.length≤p):∀e∈es,∃v∈e,v∈out:=by
 intro e he;obtain⟨j,hj,rfl⟩:=List.mem_iff_getElem.1 he;have h1:=g.cnt j hj;have h2:=g.pos j hj;rw[gf es [] hj]at h1
 have h3:0<(es[j]).countP (kep ord out p):=by omega
 obtain⟨v,hv,hk⟩:=List.countP_pos_iff.1 h3;refine⟨v,hv,?_⟩;unfold kep at hk;rw[pF hp]at hk;simpa using hk
theorem GI.start{es:List (List Nat)}{n:Nat}{ord:List Nat}{rem:List Int}(he:mf n es)(hp:ord.Perm (pG n))(hl:rem.length=es.length)(hr:∀j<es.length,rem.getD j 0=((es.getD j []).length:Int)):GI es ord 0 rem []:=by
 refine⟨hl,fun j hj=>?_,fun j hj=>?_,by simp,by simp⟩
 ·rw[hr j hj]
  have:(es.getD j []).countP (kep ord [] 0)=(es.getD j []).length:=by
   rw[List.countP_eq_length];intro v hv;unfold kep;exact decide_eq_true (.inr (by rw[pT];exact hp.mem_iff.2 (List.mem_range.2 ((he _ (jZ hj)).2.2 v hv))))
  rw[this]
 ·rw[hr j hj];have:=(he _ (jZ hj)).1;have:0<(es.getD j []).length:=List.length_pos_iff.2 this;omega
theorem sort_ok{n:Nat}{es:List (List Nat)}{ord:List Nat}{p:Nat}{rem:List Int}{out:List Nat}(g:GI es ord p rem out)(hp:ord.length≤p)(ho:∀v∈ord,v<n):(isF ltN (out.length-1) 1 out).Pairwise (· < ·)∧(∀v∈isF ltN (out.length-1) 1 out,v<n)∧∀e∈es,∃v∈e,v∈isF ltN (out.length-1) 1 out:=by
 have hpm:(isF ltN (out.length-1) 1 out).Perm out:=by
  by_cases h0:out.length=0
  ·rw[h0];exact .refl _
  ·exact kI _ _ _ _ (by omega)
 have hso:(isF ltN (out.length-1) 1 out).Pairwise (·≤·):=by
  by_cases h0:out.length=0
  ·have:out=[]:=List.length_eq_zero_iff.1 h0;subst this;simp[isF]
  ·refine ny _ _ _ (by omega) ?_
   cases out with
   | nil=>simp at h0
   | cons a l=>simp
 have hnd:=hpm.nodup_iff.2 g.nd;refine⟨?_,fun v hv=>ho v (pi (g.sub v (hpm.mem_iff.1 hv))),fun e he=>?_⟩
 ·exact(hso.and hnd).imp (fun h=>by omega)
 ·obtain⟨v,h1,h2⟩:=g.hits hp e he;exact⟨v,h1,hpm.mem_iff.2 h2⟩
structure GrOk (n:Nat) (es:List (List Nat)) (l:List Nat):Prop where
 s:l.Pairwise (· < ·)
 n:∀v∈l,v<n
 h:∀e∈es,∃v∈e,v∈l
def oL(rm:List Int)(j:Nat):List Int:=rm.set j (rm.getD j 0-1)
def grF(L:Nat→List Nat):List Nat→List Int→List Nat→List Nat
 | [],_,out=>out
 | v::l,rem,out=>if(L v).any (fun j=>decide (rem.getD j 0=1))=true then grF L l rem (out++[v]) else grF L l ((L v).foldl oL rem) out
def oE(ws:List Int)(n:Nat):List Nat:=isF (nA fun a b=>ws.getD b 0-ws.getD a 0) (n-1) 1 (pG n)
noncomputable def greedyO(ws:List Int)(es:List (List Nat)):List Nat:=grF (LE es es.length 0) (oE ws ws.length) (ii es es.length) []
noncomputable def jo(ws:List Int)(es:List (List Nat)):List Nat:=isF ltN ((greedyO ws es).length-1) 1 (greedyO ws es)
theorem dec_len:∀(l:List Nat) (rm:List Int),(l.foldl oL rm).length=rm.length
 | [],rm=>rfl
 | j::l,rm=>by rw[rF,dec_len l];simp[oL]
theorem dec_get:∀(l:List Nat) (rm:List Int),l.Nodup→(∀j∈l,j<rm.length)→∀i,(l.foldl oL rm).getD i 0=rm.getD i 0-if i∈l then 1 else 0
 | [],rm,_,_,i=>by simp
 | j::l,rm,hn,hl,i=>by
  rw[List.nodup_cons]at hn;have hj:=hl j (by simp);rw[rF,dec_get l _ hn.2 (fun k hk=>by simp only[oL,qK];exact hl k (by simp[hk])) i];by_cases hij:j=i
  ·subst hij;rw[if_neg hn.1,if_pos (by simp)];unfold oL;rw[gd _ hj];omega
  ·unfold oL;rw[gg _ hij]
   have:(i∈j::l)↔i∈l:=by rw[pD];exact⟨fun h=>h.elim (fun e=>absurd e.symm hij) id,.inr⟩
   simp only[this]
theorem grF_gi{es:List (List Nat)}{ord:List Nat}{n:Nat}{L:Nat→List Nat}(hol:ord.length=n)(hon:ord.Nodup)(hdnd:∀e∈es,e.Nodup)(hLm:∀v j,j∈L v↔j<es.length∧v∈es.getD j [])(hLn:∀v,(L v).Nodup):
  ∀(k p:Nat) (rem:List Int) (out:List Nat),p+k=n→GI es ord p rem out→out.length≤p→∃rem',GI es ord n rem' (grF L (ord.drop p) rem out)∧(grF L (ord.drop p) rem out).length≤n
 | 0,p,rem,out,hk,gi,ho=>by
  obtain rfl:p=n:=by omega
  rw[pF (by omega)];exact⟨rem,gi,ho⟩
 | k+1,p,rem,out,hk,gi,ho=>by
  have hpo:p<ord.length:=by omega
  rw[pB hpo,grF];split
  ·exact grF_gi hol hon hdnd hLm hLn k (p+1) rem _ (by omega) (gi.keep hon hpo) (by simp;omega)
  ·rename_i hany
   have hany2:∀j∈L ord[p],rem.getD j 0≠1:=fun j hj he=>hany (List.any_eq_true.2 ⟨j,hj,decide_eq_true he⟩)
   refine grF_gi hol hon hdnd hLm hLn k (p+1) _ _ (by omega) (GI.out (rem':=(L ord[p]).foldl oL rem) (L:=L ord[p]) gi hon hpo hdnd (hLm ord[p]) hany2 (by rw[dec_len,gi.len]) (fun j hj=>?_)) (by omega);exact dec_get _ _ (hLn _) (fun i hi=>by rw[gi.len];exact((hLm _ i).1 hi).1) j
theorem oD{ws:List Int}{es:List (List Nat)}(hb:HsB ws es)(hn:ws.length≤12):GrOk ws.length es (jo ws es):=by
 have hed:=hb.ed
 have hLm:∀v j,j∈LE es es.length 0 v↔j<es.length∧v∈es.getD j []:=fun v j=>LE_mem es j v
 have hLn:∀v,(LE es es.length 0 v).Nodup:=fun v=>by
  unfold LE;rw[rB,if_neg (by simp),pL];exact(sL).filter _
 have hperm:(oE ws ws.length).Perm (pG ws.length):=by
  unfold oE;by_cases h0:ws.length=0
  ·rw[h0];exact .refl _
  ·exact kI _ _ _ _ (by simp;omega)
 have hol:(oE ws ws.length).length=ws.length:=by rw[hperm.length_eq];simp
 have hon:(oE ws ws.length).Nodup:=hperm.nodup_iff.2 sL
 have hom:∀v∈oE ws ws.length,v<ws.length:=fun v hv=>List.mem_range.1 (hperm.mem_iff.1 hv)
 have hdnd:∀e∈es,e.Nodup:=fun e he=>(hed e he).2.1.imp (fun h=>by omega)
 obtain⟨rem',gi,hl⟩:=grF_gi hol hon hdnd hLm hLn ws.length 0 (ii es es.length) [] (by omega) (GI.start hed hperm (lU es _) (fun j hj=>remF_get hj)) (by simp);rw[pT]at gi hl;have hso:=sort_ok gi (by omega) hom;exact⟨hso.1,hso.2.1,hso.2.2⟩
theorem greedy_u{ws:List Int}{es:List (List Nat)}(hb:HsB ws es)(f g:Bool)(hn:ws.length≤12):
  aE Tryz.prog 69 [gc f g ws es] fun r=>r = .tup [Ln false (jo ws es),.int .i64 0]:=by
 obtain⟨GF,hGF⟩:∃GF,GF=jo ws es:=⟨_,rfl⟩;rw[←hGF]
 have hel:∀e∈es,e.length≤1000000:=fun e he=>by have:=hb.ed.len e he;omega
 have cv:=lq ws es f g hel;rw[iz.2 hb]at cv;have he2:=hb.ne;obtain⟨n,hnn⟩:∃n,n=ws.length:=⟨_,rfl⟩;rw[←hnn]at hn
 have hrep:ou es.length (V.int .i64 0)=inL (ii es 0):=by
  unfold inL ii;rw[sO];refine ry (by simp) (fun i h1 h2=>by simp[au])
 have hed:mf n es:=hnn▸hb.ed;obtain⟨C0,hC0⟩:∃C0,C0=B.cells [.lst 1 f (ws.map au),.lst 1 g (es.map (Ln false))]:=⟨_,rfl⟩
 have hrb0:rbB 1 C0:=by
  subst hC0;intro c hc;simp only[pD,pA,or_false]at hc
  rcases hc with rfl | rfl
  ·exact iN (L1_pure f ws) rfl
  ·exact iN (LLn_pure g es) rfl
 simp only[gc,L1,LLn]at cv;refine jq (aK tok Tryz.func69 rfl rfl ?_);refine wx ?_;simp -dsimp[Tryz.f69,ou,L1,LLn,Ln,gc];refine cPx (cv) (by simp) ?_;simp -dsimp[hrep,←hnn,show(8:Int)*es.length≤281474976710656 by omega,show(es.length:Int)≤9223372036854775807 by omega,show(24:Int)*n≤281474976710656 by omega,show(n:Int)≤9223372036854775807 by omega,L1,LLn,Ln,gc];refine aR (W_ownBs 3 1 n [] _ (k0:=3) (e0:=50) rfl (W_loopM 62 0x3ffffffc00000580 (by simp[mB]<;>rfl) (σ:=Nat) (fun i=>i≤es.length) (fun i=>es.length-i) (fun i=>[(34,.int .i64 i)]) (fun i=>GH C0 es.length n (ii es i) (fun v=>(LE es i 0 v).length) (LE es i 0) []) 0 (by omega) (by simp) ?_ ?_ ?_))
 ·rw[hC0];simp[GH,atR,LE,nuL,Function.comp_def,sW];exact ry (by simp) (fun i h1 h2=>by simp)
 ·intro i _;simp[GH]
 intro i hi N Q hN hQ;by_cases hbi:i<es.length
 ·obtain⟨e1,e2,e3⟩:=hed es[i] (ow hbi);have e4:=hel es[i] (ow hbi);have hge:es.getD i []=es[i]:=eD hbi
  have hnd:(es.getD i []).Nodup:=by rw[hge];exact e2.imp (fun h=>by omega)
  obtain⟨e,he⟩:∃e,e=es[i]:=⟨_,rfl⟩;rw[←he]at e1 e2 e3 e4 hge;have hei:=he.symm;have hrs:=remF_set (es:=es) (i:=i);rw[hge]at hrs;have hst:=nM (ii es i) i (e.length:Int);rw[hrs]at hst;have q0:=GH_0 (C0:=C0) (E:=es.length) (n:=n) (rem:=ii es i) (Lh:=fun v=>(LE es i 0 v).length) (L:=LE es i 0) (tl:=[]);have q1:=GH_1 (C0:=C0) (E:=es.length) (n:=n) (rem:=ii es i) (Lh:=fun v=>(LE es i 0 v).length) (L:=LE es i 0) (tl:=[]);have q2:=GH_2 (C0:=C0) (E:=es.length) (n:=n) (rem:=ii es i) (Lh:=fun v=>(LE es i 0 v).length) (L:=LE es i 0) (tl:=[]);have qs:=GH_set1 (C0:=C0) (E:=es.length) (n:=n) (rem:=ii es i) (Lh:=fun v=>(LE es i 0 v).length) (L:=LE es i 0) (tl:=[]) (ii es (i+1))
  have hgl:=fun h=>jQ (m:=ii es i) (x:=i) h
  have hll:=(jP (ii es i)).trans (lU es i);refine wx ?_;simp -dsimp[hbi,hei,q1,q2,qs,hst,hgl,hll,L1,LLn,Ln,gc];refine aR (W_loopM 61 0x1fffc00000000400 (by simp[mB]<;>rfl) (σ:=Nat) (fun k=>k≤e.length) (fun k=>e.length-k) (fun k=>[(46,.int .i64 k)]) (fun k=>GH C0 es.length n (ii es (i+1)) (fun v=>(LE es i k v).length) (LE es i k) []) 0 (by omega) (by simp) (by simp) (by intro k _;simp[GH]) ?_);intro k hk N2 Q2 hN2 hQ2;by_cases hbk:k<e.length
  ·have hvn:=e3 e[k] (ow hbk);have hls:=LE_succ (es:=es) (i:=i) (k:=k) (by rw[hge];exact hbk) hnd
   have hgk:(es.getD i [])[k]'(by rw[hge];exact hbk)=e[k]:=by simp only[hge]
   rw[hgk]at hls;obtain⟨v,hv⟩:∃v,v=e[k]:=⟨_,rfl⟩;rw[←hv]at hvn hls;have hev:=hv.symm;have hlen:=LE_len es i k v;have r3:=GH_3 (C0:=C0) (E:=es.length) (n:=n) (rem:=ii es (i+1)) (Lh:=fun v=>(LE es i k v).length) (L:=LE es i k) (tl:=[]);have rv:=GH_v (C0:=C0) (E:=es.length) (n:=n) (rem:=ii es (i+1)) (Lh:=fun v=>(LE es i k v).length) (L:=LE es i k) (tl:=[]) hvn;have rsv:=GH_setv (C0:=C0) (E:=es.length) (n:=n) (rem:=ii es (i+1)) (Lh:=fun v=>(LE es i k v).length) (L:=LE es i k) (tl:=[]) hvn (LE es i k v++[i]);rw[←hls]at rsv;have r3b:=GH_3 (C0:=C0) (E:=es.length) (n:=n) (rem:=ii es (i+1)) (Lh:=fun v=>(LE es i k v).length) (L:=LE es i (k+1)) (tl:=[])
   have hLh:(fun u=>(LE es i (k+1) u).length)=nX (fun u=>(LE es i k u).length) v ((LE es i k v).length+1):=by
    funext u;rw[hls];unfold nX;by_cases h:u=v
    ·rw[if_pos h,if_pos h];simp
    ·rw[if_neg h,if_neg h]
   have rs3:=GH_set3 (C0:=C0) (E:=es.length) (n:=n) (rem:=ii es (i+1)) (Lh:=fun v=>(LE es i k v).length) (L:=LE es i (k+1)) (tl:=[]) (fun u=>(LE es i (k+1) u).length)
   have ra:=fun h=>atR_get (n:=n) (Lh:=fun v=>(LE es i k v).length) (v:=v) h
   have ral:=atR_len (n:=n) (Lh:=fun v=>(LE es i k v).length);have ras:=atR_set (n:=n) (Lh:=fun v=>(LE es i k v).length) v ((LE es i k v).length+1);rw[←hLh]at ras
   have hna:nuL (LE es i k v)++[.int .i64 (i:Int)]=nuL (LE es i k v++[i]):=by simp[nuL,eN]
   have hnl:=gk (LE es i k v);obtain⟨m,hm⟩:∃m,m=(LE es i k v).length:=⟨_,rfl⟩;rw[←hm]at ra ras hnl hlen;refine wx ?_;simp -dsimp[hbk,hev,eN,r3,rv,rsv,r3b,rs3,ra,ral,ras,hna,hnl,hvn,show m≤9223372036854775806 by omega,show(m+1)*8≤140737488355328 by omega,aa k (by omega),L1,LLn,Ln,gc];refine hN2 (k+1) _ _ (by omega) (by omega) (by simp) ⟨[],by simp⟩ (by simp[iZ]) (GH_rb hrb0 (by simp))
  ·obtain rfl:k=e.length:=by omega
   have hnx:=LE_next es i;rw[hge]at hnx;refine wx ?_;simp -dsimp[hbk,L1,LLn,Ln,gc];refine hQ2 _ _ _ ?_;simp -dsimp[aa i (by omega),L1,LLn,Ln,gc];refine hN (i+1) _ _ (by omega) (by omega) (by simp) ⟨[],by simp[hnx]⟩ (by simp[GH]) ?_;exact GH_rb hrb0 (by simp)
 ·obtain rfl:i=es.length:=by omega
  clear hN hi;obtain⟨L,hL⟩:∃L,L=LE es es.length 0:=⟨_,rfl⟩
  have hLm:∀v j,j∈L v↔j<es.length∧v∈es.getD j []:=fun v j=>by rw[hL];exact LE_mem es j v
  have hLl:∀v,(L v).length≤2001:=fun v=>by rw[hL];have:=LE_len es es.length 0 v;omega
  have hLn:∀v,(L v).Nodup:=fun v=>by
   rw[hL];unfold LE;rw[rB,if_neg (by simp),pL];exact(sL).filter _
  obtain⟨rem0,hrem0⟩:∃r,r=ii es es.length:=⟨_,rfl⟩
  have hr0l:rem0.length=es.length:=by rw[hrem0];exact lU es _
  have hr0g:∀j<es.length,rem0.getD j 0=((es.getD j []).length:Int):=fun j hj=>by rw[hrem0];exact remF_get hj
  rw[←hL,←hrem0]
  obtain⟨Lh,hLh⟩:∃Lh:Nat→Nat,Lh=fun v=>(L v).length:=⟨_,rfl⟩
  have hLhe:∀v,Lh v=(L v).length:=fun v=>by rw[hLh]
  rw[←hLh]
  have q0:∀(rem:List Int) (tl:List B),(GH C0 es.length n rem Lh L tl)[0]?=some (B.cells [.lst 1 f (ws.map au),.lst 1 g (es.map (Ln false))]):=fun rem tl=>by rw[GH_0,hC0]
  have q0g:∀(rem:List Int) (tl:List B) (h:0<(GH C0 es.length n rem Lh L tl).length),(GH C0 es.length n rem Lh L tl)[0]=B.cells [.lst 1 f (ws.map au),.lst 1 g (es.map (Ln false))]:=fun rem tl h=>hC0
  have hgl0:(GH C0 es.length n rem0 Lh L []).length=n+4:=iZ;have hga:=GH_app (C0:=C0) (E:=es.length) (n:=n) (rem:=rem0) (Lh:=Lh) (L:=L) (tl:=[]) (.buf 3 1 (nuL (ko n 0)) false);rw[pU]at hga
  have hrbT:∀(tl:List (List Nat)),∀bl∈tl.map (fun l=>B.buf 3 1 (nuL l) false),rbB (n+4+(tl.map (fun l=>B.buf 3 1 (nuL l) false)).length) bl:=fun tl bl hb=>by
   obtain⟨l,_,rfl⟩:=List.mem_map.1 hb;exact(rbB_buf1 (jD l)).2 trivial
  have r4:∀(rem:List Int) (X:B) (tl:List B),(GH C0 es.length n rem Lh L (X::tl))[n+4]?=some X:=fun rem X tl=>GH_tl 0
  have hnl0:=(gk (ko n 0)).trans (ordF_len n 0);refine wx ?_;simp -dsimp[hbi,L1,LLn,Ln,gc];refine hQ _ _ _ ?_;simp -dsimp[q0,q0g,hgl0,r4,hnl0,ordF_zero n,hga,←hnn,show(8:Int)*n≤281474976710656 by omega,show(n:Int)≤9223372036854775807 by omega,L1,LLn,Ln,gc]
  have hsl:∀(rem:List Int) (X:B) (l:List Nat) (tl:List B),(GH C0 es.length n rem Lh L (X::tl)).set (n+4) (.buf 3 1 (nuL l) false)=GH C0 es.length n rem Lh L (.buf 3 1 (nuL l) false::tl):=fun rem X l tl=>GH_SL X l
  refine aR (W_loopM 76 0xff00000000000001000 (by simp[mB]<;>rfl) (σ:=Nat) (fun i=>i≤n) (fun i=>n-i) (fun i=>[(68,.int .i64 i)]) (fun i=>GH C0 es.length n rem0 Lh L [.buf 3 1 (nuL (ko n i)) false]) 0 (by omega) (by simp) (by simp) (by intro i _;simp[GH]) ?_);intro i hi N2 Q2 hN2 hQ2;by_cases hbi2:i<n
  ·have hst:(nuL (ko n i)).set i (.int .i64 (i:Int))=nuL (ko n (i+1)):=(iT _ i i).trans (by rw[ordF_set]);have hnl:=(gk (ko n i)).trans (ordF_len n i)
   have hat:=fun h=>gw (m:=ko n i) (x:=i) h
   refine wx ?_;simp -dsimp[hbi2,r4,hsl,hst,hnl,hat,L1,LLn,Ln,gc];simp -dsimp[aa i (by omega),L1,LLn,Ln,gc];refine hN2 (i+1) _ _ (by omega) (by omega) (by simp) ⟨[],by simp⟩ (by simp[iZ]) (GH_rb hrb0 (hrbT [_]))
  ·obtain rfl:n=i:=by omega
   rw[ordF_all];refine wx ?_;simp -dsimp[hbi2,L1,LLn,Ln,gc];refine hQ2 _ _ _ ?_;simp -dsimp[L1,LLn,Ln,gc]
   have hlt4:n+4<(GH C0 es.length n rem0 Lh L [.buf 3 1 (nuL (pG n)) false]).length:=by rw[iZ];simp
   have hrbS:=GH_rb (C0:=C0) (E:=es.length) (n:=n) (rem:=rem0) (Lh:=Lh) (L:=L) hrb0 (hrbT [pG n]);simp only[qW,rQ]at hrbS
   have hsort:=sortStable_h hlt4 hrbS (pG n) n (by simp) (by omega) (.fn 114 [.ptr 0 0]) (by simp[rb,rb1,iZ]) (fun a b=>ws.getD b 0-ws.getD a 0) (fun a b ha hbm l'=>by
    rw[qh]at ha hbm;rw[GH_SL];have wa:=(gf ws 0 (by omega:a<ws.length)).symm;have wb:=(gf ws 0 (by omega:b<ws.length)).symm;have ba:=hb.w a (by omega);have bb:=hb.w b (by omega);obtain⟨x,hx⟩:∃x,x=ws.getD a 0:=⟨_,rfl⟩;obtain⟨y,hy⟩:∃y,y=ws.getD b 0:=⟨_,rfl⟩;rw[←hx]at wa ba ⊢;rw[←hy]at wb bb ⊢;have hw:IntKind.i64.wrap (y-x)=y-x:=wrap64 (by omega) (by omega);have qq:=q0 rem0 [.buf 3 1 (nuL l') false];obtain⟨HH,hHH⟩:∃HH,HH=GH C0 es.length n rem0 Lh L [.buf 3 1 (nuL l') false]:=⟨_,rfl⟩;rw[←hHH]at qq ⊢;simp only[aI,pn,pU];refine aK tok Tryz.func114 rfl rfl ?_;refine wx ?_;simp -dsimp[Tryz.f114,ou,qq,wa,wb,hw,au,show a<ws.length by omega,show b<ws.length by omega,L1,LLn,Ln,gc]
    exact .inr (bN (by kernel_rfl)))
   simp only[GH_SL]at hsort;obtain⟨ord,hord⟩:∃ord,ord=isF (nA fun a b=>ws.getD b 0-ws.getD a 0) (n-1) 1 (pG n):=⟨_,rfl⟩
   have hperm:ord.Perm (pG n):=by
    rw[hord];by_cases h0:n=0
    ·subst h0;exact .refl _
    ·exact kI _ _ _ _ (by simp;omega)
   rw[←hord]at hsort;obtain⟨OUT,hOUT⟩:∃OUT,OUT=grF L ord rem0 []:=⟨_,rfl⟩
   have hGO:GF=isF ltN (OUT.length-1) 1 OUT:=by
    rw[hGF,hOUT,hord,hL,hrem0];unfold jo greedyO oE;rw[←hnn]
   have hol:ord.length=n:=by rw[hperm.length_eq];simp
   have hon:ord.Nodup:=hperm.nodup_iff.2 sL
   have hom:∀v∈ord,v<n:=fun v hv=>List.mem_range.1 (hperm.mem_iff.1 hv)
   have hnl4:=(gk ord).trans hol;refine gz hsort ?_;rintro _ _ rfl
   have hlen1:(GH C0 es.length n rem0 Lh L [.buf 3 1 (nuL ord) false]).length=n+5:=by rw[iZ];rfl
   have hdnd:∀e∈es,e.Nodup:=fun e he=>(hed e he).2.1.imp (fun h=>by omega)
   have q2:∀(rem:List Int) (tl:List B),(GH C0 es.length n rem Lh L tl)[2]?=some (.cells [.buf 1 0 es.length es.length]):=fun rem tl=>GH_2
   have q1:∀(rem:List Int) (tl:List B),(GH C0 es.length n rem Lh L tl)[1]?=some (.buf 3 1 (inL rem) false):=fun rem tl=>GH_1
   have q3:∀(rem:List Int) (tl:List B),(GH C0 es.length n rem Lh L tl)[3]?=some (.buf 50 1 (atR n Lh) false):=fun rem tl=>GH_3
   have q1s:∀(rem rem':List Int) (tl:List B),(GH C0 es.length n rem Lh L tl).set 1 (.buf 3 1 (inL rem') false)=GH C0 es.length n rem' Lh L tl:=fun rem rem' tl=>GH_set1 rem'
   have r5:∀(rem:List Int) (X Y:B),(GH C0 es.length n rem Lh L [X,Y])[n+5]?=some Y:=fun rem X Y=>GH_tl 1
   have hsl2:∀(rem:List Int) (X Y:B) (l:List Nat),(GH C0 es.length n rem Lh L [X,Y]).set (n+5) (.buf 3 1 (nuL l) false)=GH C0 es.length n rem Lh L [X,.buf 3 1 (nuL l) false]:=fun rem X Y l=>GH_SL2 X Y l
   have hgl2:∀(rem:List Int) (X Y:B),(GH C0 es.length n rem Lh L [X,Y]).length=n+6:=fun rem X Y=>by rw[iZ];rfl
   have hrb2:∀(rem:List Int) (l l':List Nat),∀bl∈GH C0 es.length n rem Lh L [.buf 3 1 (nuL l) false,.buf 3 1 (nuL l') false],rbB (GH C0 es.length n rem Lh L [.buf 3 1 (nuL l) false,.buf 3 1 (nuL l') false]).length bl:=fun rem l l'=>GH_rb hrb0 (hrbT [l,l'])
   have hga2:GH C0 es.length n rem0 Lh L [.buf 3 1 (nuL ord) false]++[B.buf 3 1 [] false]=GH C0 es.length n rem0 Lh L [.buf 3 1 (nuL ord) false,.buf 3 1 (nuL []) false]:=GH_app _;simp -dsimp[r4,hnl4,L1,LLn,Ln,gc];refine aR (iR 3 1 [13] (by simp) (W_loopM 112 0xfffffffe4000000000000002a000 (by simp[mB]<;>rfl) (σ:=Nat×List Int×List Nat) (fun p=>p.1≤n∧GI es ord p.1 p.2.1 p.2.2∧p.2.2.length≤p.1∧(∀j<es.length,p.2.1.getD j 0≤1000000)∧grF L (ord.drop p.1) p.2.1 p.2.2=OUT) (fun p=>n-p.1) (fun p=>[(81,.int .i64 p.1),(13,.buf (n+5) 0 p.2.2.length p.2.2.length)]) (fun p=>GH C0 es.length n p.2.1 Lh L [.buf 3 1 (nuL ord) false,.buf 3 1 (nuL p.2.2) false]) (0,rem0,[]) ⟨by simp,GI.start hed hperm hr0l hr0g,by simp,fun j hj=>by rw[hr0g j hj];have:=hel _ (jZ hj);omega,by rw[pT,hOUT]⟩ (by simp[hlen1]) (by rw[hga2]) (by intro p _;simp[iZ]) ?_));rintro⟨p,rem,out⟩ ⟨hp,gi,hol2,hub,hgh⟩ N3 Q3 hN3 hQ3;simp only at hp gi hol2 hub hgh hN3;by_cases hbp:p<n
   ·have hpo:p<ord.length:=by omega
    have hvn:=hom ord[p] (ow hpo);have hkeep:=gi.keep hon hpo
    have hout:=fun rem'=>GI.out (rem':=rem') (L:=L ord[p]) gi hon hpo hdnd (hLm ord[p])
    have hato:=fun h=>gw (m:=ord) (x:=p) h
    rw[gf ord 0 hpo]at hato;obtain⟨v,hv⟩:∃v,v=ord[p]:=⟨_,rfl⟩;rw[pB hpo,←hv,grF]at hgh;rw[←hv]at hvn hkeep hout hato
    have hclo:∀j∈L v,aI Tryz.prog (.fn 115 [.ptr 2 0]) [.int .i64 (j:Int)] (GH C0 es.length n rem Lh L [.buf 3 1 (nuL ord) false,.buf 3 1 (nuL out) false]) fun r H'=>r = .bool (decide (rem.getD j 0=1))∧H'=GH C0 es.length n rem Lh L [.buf 3 1 (nuL ord) false,.buf 3 1 (nuL out) false]:=fun j hj=>by
     have hjl:=((hLm v j).1 hj).1;have a2:=q2 rem [.buf 3 1 (nuL ord) false,.buf 3 1 (nuL out) false];have a1:=q1 rem [.buf 3 1 (nuL ord) false,.buf 3 1 (nuL out) false];obtain⟨HH,hHH⟩:∃HH,HH=GH C0 es.length n rem Lh L [.buf 3 1 (nuL ord) false,.buf 3 1 (nuL out) false]:=⟨_,rfl⟩;rw[←hHH]at a1 a2 ⊢
     have hgl:=fun h=>jQ (m:=rem) (x:=j) h
     have hll:=(jP rem).trans gi.len;obtain⟨z,hz⟩:∃z,z=rem.getD j 0:=⟨_,rfl⟩;rw[←hz]at hgl ⊢;simp only[aI,pn,pU];by_cases hq:z=1
     ·rw[decide_eq_true hq];refine aK tok Tryz.func115 rfl rfl ?_;refine wx ?_;simp -dsimp[Tryz.f115,ou,a1,a2,hgl,hll,hjl,hq,L1,LLn,Ln,gc]
     ·rw[decide_eq_false hq];refine aK tok Tryz.func115 rfl rfl ?_;refine wx ?_;simp -dsimp[Tryz.f115,ou,a1,a2,hgl,hll,hjl,hq,L1,LLn,Ln,gc]
    have hcl:=contFuncB (GH C0 es.length n rem Lh L [.buf 3 1 (nuL ord) false,.buf 3 1 (nuL out) false]) (v+4) (.fn 115 [.ptr 2 0]) (fun j=>decide (rem.getD j 0=1)) (L v) (Lh v) (hLhe v) (GH_v hvn) (by have:=hLl v;omega) (hrb2 rem ord out) (by simp[rb,rb1,iZ]) hclo
    have ra:=fun h=>atR_get (n:=n) (Lh:=Lh) (v:=v) h
    have ral:=atR_len (n:=n) (Lh:=Lh);have hnlo:=gk out;have b3:=q3 rem [.buf 3 1 (nuL ord) false,.buf 3 1 (nuL out) false];have b4:=r4 rem (.buf 3 1 (nuL ord) false) [.buf 3 1 (nuL out) false];have b5:=r5 rem (.buf 3 1 (nuL ord) false) (.buf 3 1 (nuL out) false);have b5s:=hsl2 rem (.buf 3 1 (nuL ord) false) (.buf 3 1 (nuL out) false) (out++[v])
    obtain⟨any,hany⟩:∃any,any=(L v).any fun j=>decide (rem.getD j 0=1):=⟨_,rfl⟩
    rw[←hany]at hcl;refine wx ?_;simp -dsimp[hbp,b3,b4,hnl4,hato,ra,ral,hvn,L1,LLn,Ln,gc];refine gz hcl ?_;rintro _ _ ⟨rfl,rfl⟩;rw[←hany]at hgh
    cases any with
    | true =>
     rw[if_pos rfl]at hgh
     have hna:nuL out++[.int .i64 (v:Int)]=nuL (out++[v]):=by simp[nuL,eN]
     simp -dsimp[b5,hnlo,hna,b5s,aa p (by omega),show out.length≤9223372036854775806 by omega,show(out.length+1)*8≤140737488355328 by omega,L1,LLn,Ln,gc];refine hN3 (p+1,rem,out++[v]) _ _ ⟨by simp only;omega,hkeep,by simp;omega,hub,hgh⟩ (by simp only;omega) (by simp) ⟨[],by simp⟩ (by simp[iZ]) (hrb2 _ _ _)
    | false =>
     rw[if_neg (by simp)]at hgh
     have hany2:∀j∈L v,rem.getD j 0≠1:=fun j hj he=>by
      have:=List.any_eq_false.1 hany.symm j hj;rw[he]at this;exact this rfl
     have hnLv:(nuL (L v)).length=Lh v:=(gk (L v)).trans (hLhe v).symm
     have bv:∀rem',(GH C0 es.length n rem' Lh L [.buf 3 1 (nuL ord) false,.buf 3 1 (nuL out) false])[v+4]?=some (.buf 3 1 (nuL (L v)) false):=fun rem'=>GH_v hvn
     simp -dsimp[b3,ra,ral,hvn,bv,hnLv,L1,LLn,Ln,gc];refine aR (W_loopM 111 0x7ff0000000000000000000020000 (by simp[mB]<;>rfl) (σ:=Nat×List Int) (fun q=>q.1≤Lh v∧q.2.length=es.length∧(∀j<es.length,q.2.getD j 0=rem.getD j 0-if j∈(L v).take q.1 then 1 else 0)∧((L v).drop q.1).foldl oL q.2=(L v).foldl oL rem) (fun q=>Lh v-q.1) (fun q=>[(100,.int .i64 q.1)]) (fun q=>GH C0 es.length n q.2 Lh L [.buf 3 1 (nuL ord) false,.buf 3 1 (nuL out) false]) (0,rem) ⟨by simp,gi.len,fun j _=>by simp,by rw[pT]⟩ (by simp) (by simp) (by intro q _;simp[iZ]) ?_);rintro⟨q,rm⟩ ⟨hq,hrl,hrg,hgq⟩ N4 Q4 hN4 hQ4;simp only at hq hrl hrg hgq hN4;by_cases hbq:q<Lh v
     ·have hql:q<(L v).length:=by rw[←hLhe v];exact hbq
      have hatq:=fun h=>gw (m:=L v) (x:=q) h
      rw[gf (L v) 0 hql]at hatq;have hjm:(L v)[q]∈L v:=ow hql
      have hnt:(L v)[q]∉(L v).take q:=fun hm=>by
       obtain⟨a,ha,he⟩:=List.mem_iff_getElem.1 hm;rw[List.getElem_take]at he
       have haq:a<q:=by rw[qO]at ha;omega
       exact List.pairwise_iff_getElem.1 (hLn v) a q (by omega) hql haq he
      have htk:=pJ hql;obtain⟨j,hj⟩:∃j,j=(L v)[q]:=⟨_,rfl⟩;rw[pB hql,←hj,rF]at hgq;unfold oL at hgq;rw[←hj]at hatq hjm hnt htk;have hjl:=((hLm v j).1 hjm).1;have a2:=q2 rm [.buf 3 1 (nuL ord) false,.buf 3 1 (nuL out) false];have a1:=q1 rm [.buf 3 1 (nuL ord) false,.buf 3 1 (nuL out) false];have a1s:=q1s rm (rm.set j (rm.getD j 0-1)) [.buf 3 1 (nuL ord) false,.buf 3 1 (nuL out) false];have bvr:=bv rm
      have hgl:=fun h=>jQ (m:=rm) (x:=j) h
      have hll:=(jP rm).trans hrl;have hst:=nM rm j (rm.getD j 0-1);have hz0:=hrg j hjl;rw[if_neg hnt]at hz0;have hz1:=gi.pos j hjl;have hz2:=hub j hjl;obtain⟨z,hz⟩:∃z,z=rm.getD j 0:=⟨_,rfl⟩;rw[←hz]at hgl hst a1s hz0 hgq;have hw1:IntKind.i64.wrap (z-1)=z-1:=wrap64 (by omega) (by omega);refine wx ?_;simp -dsimp[hbq,bvr,hnLv,hatq,a2,a1,a1s,hgl,hll,hst,hjl,hw1,aa q (by have:=hLl v;have:=hLhe v;omega),L1,LLn,Ln,gc];refine hN4 (q+1,rm.set j (z-1)) _ _ ⟨by simp only;omega,by simp[hrl],fun i hi=>?_,hgq⟩ (by simp only;omega) (by simp) ⟨[],by simp⟩ (by simp[iZ];omega) (hrb2 _ _ _);simp only;rw[htk];by_cases hij:j=i
      ·subst hij;rw[gd _ (by omega),if_pos (qe _ (List.mem_singleton.2 rfl)),hz0];omega
      ·rw[gg _ hij,hrg i hi]
       have:(i∈(L v).take q++[j])↔i∈(L v).take q:=by
        rw[pz,pe];exact⟨fun h=>h.elim id (fun e=>absurd e.symm hij),.inl⟩
       simp only[this]
     ·obtain rfl:q=Lh v:=by omega
      have htk:(L v).take (Lh v)=L v:=pX (by rw[hLhe v];exact pI _);rw[htk]at hrg;rw[pF (by rw[hLhe v];exact pI _),List.foldl_nil]at hgq;rw[←hgq]at hgh;have gi2:=hout rm hany2 hrl hrg;refine wx ?_;simp -dsimp[hbq,L1,LLn,Ln,gc];refine hQ4 _ _ _ ?_;simp -dsimp[aa p (by omega),L1,LLn,Ln,gc];refine hN3 (p+1,rm,out) _ _ ⟨by simp only;omega,gi2,by simp only;omega,fun j hj=>?_,hgh⟩ (by simp only;omega) (by simp) ⟨[],by simp⟩ (by simp[iZ]) (hrb2 _ _ _);have:=hub j hj;simp only;rw[hrg j hj];split<;>omega
   ·obtain rfl:n=p:=by omega
    rw[pF (by omega)]at hgh;have hgo:out=OUT:=hgh
    have hlt5:n+5<(GH C0 es.length n rem Lh L [.buf 3 1 (nuL ord) false,.buf 3 1 (nuL out) false]).length:=by rw[hgl2];omega
    have hs:=sort_h hlt5 (hrb2 rem ord out) out out.length rfl (by omega);simp only[GH_SL2]at hs;obtain⟨res,hres⟩:∃res,res=isF ltN (out.length-1) 1 out:=⟨_,rfl⟩
    have hrl:out.length=res.length:=by
     rw[hres];by_cases h0:out.length=0
     ·rw[h0];exact h0.symm
     ·exact(kI ltN _ _ _ (by omega)).length_eq.symm
    have hresG:res=GF:=by rw[hGO,hres,hgo]
    rw[←hres]at hs;refine wx ?_;simp -dsimp[hbp,L1,LLn,Ln,gc];refine hQ3 _ _ _ ?_;simp -dsimp[L1,LLn,Ln,gc];refine gz hs ?_;rintro _ _ rfl;simp -dsimp[L1,LLn,Ln,gc];rw[←hresG];refine .tup _ _ rfl (fun i c d h1 h2=>?_)
    match i with
    | 0=>simp at h1 h2;subst h1;subst h2;exact ly (r5 rem _ _) (hrl.trans (gk res).symm) (fun x hx=>(jD res x hx).1)
    | 1=>simp at h1 h2;subst h1;subst h2;exact .pure _ (by simp)
    | i+2=>simp at h1
def wl(ws:List Int):List Nat→Int
 | []=>0
 | v::l=>ws.getD v 0+wl ws l
theorem mN(ws:List Int):∀a b:List Nat,wl ws (a++b)=wl ws a+wl ws b
 | [],b=>by simp[wl]
 | v::a,b=>by rw[pn,wl,wl,mN ws a b];omega
theorem iv(ws:List Int)(T:Nat→Bool):∀n,iC ws T n=wl ws ((pG n).filter T)
 | 0=>rfl
 | n+1=>by
  rw[iC,qI,rS,mN,iv ws T n,rH,sC];by_cases h:T n=true
  ·rw[if_pos h,if_pos h];simp[wl]
  ·rw[if_neg h,if_neg h];simp[wl]
theorem nb:∀l1 l2:List Nat,l1.Pairwise (· < ·)→l2.Pairwise (· < ·)→(∀x,x∈l1↔x∈l2)→l1=l2
 | [],[],_,_,_=>rfl
 | [],y::l2,_,_,h=>by have:=(h y).2 pW;cases this
 | x::l1,[],_,_,h=>by have:=(h x).1 pW;cases this
 | x::l1,y::l2,h1,h2,h=>by
  obtain⟨a1,a2⟩:=List.pairwise_cons.1 h1;obtain⟨b1,b2⟩:=List.pairwise_cons.1 h2;have hx:=(h x).1 pW;have hy:=(h y).2 pW
  have e:x=y:=by
   rcases List.mem_cons.1 hx with e | hx
   ·exact e
   ·rcases List.mem_cons.1 hy with e | hy
    ·exact e.symm
    ·have:=b1 x hx;have:=a1 y hy;omega
  subst e;congr 1;refine nb l1 l2 a2 b2 (fun z=>⟨fun hz=>?_,fun hz=>?_⟩)
  ·rcases List.mem_cons.1 ((h z).1 (pZ _ hz)) with e | hz2
   ·subst e;have:=a1 z hz;omega
   ·exact hz2
  ·rcases List.mem_cons.1 ((h z).2 (pZ _ hz)) with e | hz2
   ·subst e;have:=b1 z hz;omega
   ·exact hz2
theorem iq{n:Nat}{l:List Nat}(hs:l.Pairwise (· < ·))(hn:∀v∈l,v<n):l=(pG n).filter fun v=>decide (v∈l):=by
 refine nb _ _ hs (List.pairwise_lt_range.filter _) (fun x=>?_);rw[qH,qh,decide_eq_true_iff];exact⟨fun h=>⟨hn x h,h⟩,fun h=>h.2⟩
theorem wl_le{ws:List Int}{n:Nat}(hw:∀v<n,1≤ws.getD v 0∧ws.getD v 0≤1000000):∀l:List Nat,(∀v∈l,v<n)→0≤wl ws l∧wl ws l≤1000000*(l.length:Int)
 | [],_=>by simp[wl]
 | v::l,h=>by
  have h1:=wl_le hw l (fun u hu=>h u (pZ _ hu));have h2:=hw v (h v pW);rw[wl,pk];omega
theorem index_I(e:List Nat)(v:Nat)(fe:Bool)(hl:e.length≤1000000):aE Tryz.prog 157 [Ln fe e,.int .i64 (v:Int)] fun r=>r = .int .i64 (ixN (fun u=>decide (u=v)) e 0):=by
 refine sPx Tryz.func157 rfl rfl ?_;simp -dsimp[Tryz.f157,ou,Ln];refine aR (W_loopM 19 0x7ff30 (by simp[mB]<;>rfl) (σ:=Nat) (fun i=>ixN (fun u=>decide (u=v)) e i=ixN (fun u=>decide (u=v)) e 0) (fun i=>e.length-i) (fun i=>[(8,.int .i64 i)]) (fun _=>[]) 0 rfl (by simp) rfl (by simp) ?_);intro i hx N Q hN hQ;by_cases hb:i<e.length
 ·rw[ixN,dif_pos hb]at hx;obtain⟨u,hu⟩:∃u,u=e[i]:=⟨_,rfl⟩;rw[←hu]at hx;have hu':=hu.symm;by_cases hq:u=v
  ·rw[if_pos (decide_eq_true hq)]at hx;refine wx ?_;simp -dsimp[hb,hu',eN,hq];refine hQ _ _ _ ?_;simp -dsimp[];simpa using hx
  ·rw[if_neg (by simp[hq])]at hx;refine wx ?_;simp -dsimp[hb,hu',eN,show ¬(v:Int)=u by omega,show ¬v=u by omega,aa i (by omega)];refine hN (i+1) _ _ hx (by omega) (by simp) ⟨[],rfl⟩ (by simp) (by simp)
 ·rw[ixN,dif_neg hb]at hx;refine wx ?_;simp -dsimp[hb];refine hQ _ _ _ ?_;simp -dsimp[];simpa using hx
theorem contains_I(e:List Nat)(v:Nat)(fe:Bool)(hl:e.length≤1000000):aE Tryz.prog 102 [Ln fe e,.int .i64 (v:Int)] fun r=>r = .bool (decide (v∈e)):=by
 have h0:=ixN_any (fun u=>decide (u=v)) e 0;rw[pT]at h0
 have h1:(e.any fun u=>decide (u=v))=decide (v∈e):=by
  rw[qo];simp
 rw[h1]at h0;have hc:=index_I e v fe hl;refine sPx Tryz.func102 rfl rfl ?_;simp -dsimp[Tryz.f102,ou];refine cPx (hc) (by simp) ?_;simp -dsimp[];exact decide_eq_decide.1 h0
theorem weight_u{ws:List Int}{es:List (List Nat)}(hb:HsB ws es)(f g fl:Bool)(l:List Nat)(hs:l.Pairwise (· < ·))(hn:∀v∈l,v<ws.length):aE Tryz.prog 56 [gc f g ws es,Ln fl l] fun r=>r = .tup [.int .i64 (wl ws l),.int .i64 0]:=by
 have hel:∀e∈es,e.length≤1000000:=fun e he=>by have:=hb.ed.len e he;have:=hb.n;omega
 have cv:=lq ws es f g hel;rw[iz.2 hb]at cv;have hn2:=hb.n
 have hll:l.length≤200:=by
  have hnd:l.Nodup:=hs.imp (fun h=>by omega);have:=hnd.length_le_of_subset (l₂:=pG ws.length) (fun v hv=>List.mem_range.2 (hn v hv));simp at this;omega
 simp only[gc,L1,LLn]at cv;refine sPx Tryz.func56 rfl rfl ?_;simp -dsimp[Tryz.f56,ou,gc,L1,LLn,Ln];refine cPx (cv) (by simp) ?_;simp -dsimp[L1,LLn,Ln];refine aR (W_loopM 46 0x3ffffffe03b0 (by simp[mB]<;>rfl) (σ:=Nat) (fun i=>i≤l.length) (fun i=>l.length-i) (fun i=>[(17,.int .i64 i),(7,.int .i64 (wl ws (l.take i)))]) (fun _=>[B.cells [.lst 1 f (ws.map au),.lst 1 g (es.map (Ln false))]]) 0 (by omega) (by simp[wl]) rfl (by simp) ?_);intro i hi N Q hN hQ;by_cases hbi:i<l.length
 ·have hvn:=hn l[i] (ow hbi);have hnd:l.Nodup:=hs.imp (fun h=>by omega);have hnt:=(oq hnd hbi).1
  have htk:wl ws (l.take (i+1))=wl ws (l.take i)+ws.getD l[i] 0:=by rw[pJ hbi,mN];simp[wl]
  have hb1:=wl_le hb.w (l.take i) (fun v hv=>hn v (pi hv))
  have hlt:(l.take i).length≤200:=by rw[qO];omega
  obtain⟨v,hv⟩:∃v,v=l[i]:=⟨_,rfl⟩;rw[←hv]at hvn hnt htk;have hv':=hv.symm
  have hc:=fun fl=>contains_I (l.take i) v fl (by omega)
  rw[decide_eq_false hnt]at hc;simp only[Ln,rK]at hc;have hwl:=(gf ws 0 hvn).symm;have hwb:=hb.w v hvn;obtain⟨w,hw⟩:∃w,w=ws.getD v 0:=⟨_,rfl⟩;rw[←hw]at hwl hwb htk;obtain⟨s,hs0⟩:∃s,s=wl ws (l.take i):=⟨_,rfl⟩;rw[←hs0]at htk hb1;have hw1:IntKind.i64.wrap (s+w)=s+w:=wrap64 (by omega) (by omega);rw[←hs0];refine wx ?_;simp -dsimp[hbi,hv',eN,hvn,show ¬(v:Int)<0 by omega,show ¬(ws.length:Int)≤v by omega,show ¬ws.length≤v by omega,show i≤l.length by omega,L1,LLn,Ln];refine cPx (hc _) (by simp;intro x hx;obtain⟨y,_,rfl⟩:=List.mem_map.1 (pi hx);exact eN_pure y) ?_;simp -dsimp[hvn,hwl,au,hw1,aa i (by omega),L1,LLn,Ln];refine hN (i+1) _ _ (by omega) (by omega) (by simp[htk]) ⟨[],rfl⟩ (by simp) (by simp)
 ·obtain rfl:i=l.length:=by omega
  rw[pt];refine wx ?_;simp -dsimp[hbi,L1,LLn,Ln];refine hQ _ _ _ ?_;simp -dsimp[L1,LLn,Ln]
structure MinOk (n:Nat) (ws:List Int) (es:List (List Nat)) (T:Nat→Bool):Prop where
 h:∀e∈es,∃v∈e,T v=true
 m:∀T':Nat→Bool,(∀e∈es,∃v∈e,T' v=true)→iC ws T n≤iC ws T' n
theorem nk(n:Nat)(T:Nat→Bool)(ws:List Int):∀j,phi (ou n 0) T ws j=iC ws T j
 | 0=>rfl
 | j+1=>by
  have h0:(ou n 0).getD j 0=0:=by
   simp only[qZ,qv];split<;>rfl
  rw[phi,iC,nk n T ws j,h0];by_cases h:T j=true<;>simp[h]
theorem wsum_zero(n:Nat)(ws:List Int):∀j,iC ws (fun u=>decide ((ou n 0).getD u 0=1)) j=0
 | 0=>rfl
 | j+1=>by
  have h0:(ou n 0).getD j 0=0:=by
   simp only[qZ,qv];split<;>rfl
  rw[iC,wsum_zero n ws j,h0];simp
theorem jA(n:Nat):iM (ou n 0)=n:=by
 unfold iM;rw[List.countP_replicate];simp
theorem min_all{ws:List Int}{es:List (List Nat)}(hb:HsB ws es){lf:Int}(hlf:2^(ws.length+1)-1≤lf){l:List Nat}(hl:GrOk ws.length es l):
  ∃P T,mT ws es (ws.length+1) (ou ws.length 0) lf ⟨l,wl ws l⟩ 0=some P∧lf-(2^(ws.length+1)-1)≤P.1∧MinOk ws.length ws es T∧P.2.l=(pG ws.length).filter T∧P.2.w=iC ws T ws.length:=by
 have h0:∀v,(ou ws.length 0).getD v 0=0:=fun v=>by
  simp only[qZ,qv];split<;>rfl
 have g:Wok ws.length ws (ou ws.length 0):=⟨rfl,by simp,fun v hv=>(hb.w v hv).1,fun v _=>by rw[h0];omega⟩;obtain⟨lf',b',m1,m2,m3,m4,m5⟩:=min_ok hb.ed (ws.length+1) (ou ws.length 0) lf ⟨l,wl ws l⟩ 0 g (by rw[jA];omega) (by rw[jA];exact hlf) (by rw[wsum_zero]);rw[jA]at m2
 have hall:∀T':Nat→Bool,(∀e∈es,∃v∈e,T' v=true)→b'.w≤iC ws T' ws.length:=fun T' hT=>by
  have hX:Ext ws.length es (ou ws.length 0) T':=⟨fun v _ h=>by rw[h0]at h;omega,fun v _ h=>by rw[h0]at h;omega,hT⟩;have:=m4 T' hX;rw[nk]at this;omega
 rcases m5 with rfl | ⟨T,hT⟩
 ·refine⟨_,fun v=>decide (v∈l),m1,m2,⟨fun e he=>?_,fun T' hT'=>?_⟩,iq hl.s hl.n,?_⟩
  ·obtain⟨v,h1,h2⟩:=hl.h e he;exact⟨v,h1,by simpa using h2⟩
  ·have:=hall T' hT';rw[iv,←iq hl.s hl.n];exact this
  ·rw[iv,←iq hl.s hl.n]
 ·refine⟨_,T,m1,m2,⟨hT.h,fun T' hT'=>?_⟩,hT.l,hT.w⟩;have:=hall T' hT';rw[hT.w]at this;exact this
noncomputable def kp(ws:List Int)(es:List (List Nat))(lf:Int):List Nat:=match mT ws es (ws.length+1) (ou ws.length 0) lf ⟨jo ws es,wl ws (jo ws es)⟩ 0 with
 | some P=>P.2.l
 | none=>[]
theorem minL_ok{ws:List Int}{es:List (List Nat)}(hb:HsB ws es)(hn:ws.length≤12){lf:Int}(hlf:2^(ws.length+1)-1≤lf):∃T,MinOk ws.length ws es T∧kp ws es lf=(pG ws.length).filter T:=by
 obtain⟨P,T,m1,m2,m3,m4,m5⟩:=min_all hb hlf (oD hb hn);refine⟨T,m3,?_⟩;unfold kp;rw[m1];exact m4
def PL(ws:List Int)(es:List (List Nat))(lf:Int)(r:V):Prop:=∃fl,r = .tup [.lst 1 fl ((kp ws es lf).map eN),.int .i64 (wl ws (kp ws es lf)),.int .i64 0]
theorem minimum_u{ws:List Int}{es:List (List Nat)}(hb:HsB ws es)(f g:Bool)(hn:ws.length≤12)(lf:Int)(hlf:2^(ws.length+1)-1≤lf)(h1:1≤lf)(h2:lf≤9000000000000000000):
  aE Tryz.prog 46 [gc f g ws es,.int .i64 lf] (PL ws es lf):=by
 have hgr:=oD hb hn;have cg:=greedy_u hb f g hn;have hn2:=hb.n;simp only[gc,L1,LLn,Ln]at cg;refine sPx Tryz.func46 rfl rfl ?_;simp -dsimp[Tryz.f46,ou,gc,L1,LLn,Ln];obtain⟨l,hle⟩:∃l,l=jo ws es:=⟨_,rfl⟩;rw[←hle]at cg hgr;have hl:=hgr;refine cPx (cg) (by simp) ?_;have cw:=weight_u hb f g false l hl.s hl.n;obtain⟨P,T,m1,m2,m3,m4,m5⟩:=min_all hb hlf hl
 have hML:kp ws es lf=P.2.l:=by unfold kp;rw[←hle,m1]
 have hMw:P.2.w=wl ws P.2.l:=by rw[m4,m5,iv]
 have c1:=ml [B.cells [.lst 1 f (ws.map au),.lst 1 g (es.map (Ln false))],B.cells [.lst 1 false (l.map eN),.int .i64 (wl ws l)]] f g ws es lf hb.n
 have hr0:∀bl∈[B.cells [.lst 1 f (ws.map au),.lst 1 g (es.map (Ln false))],B.cells [.lst 1 false (l.map eN),.int .i64 (wl ws l)]],rbB [B.cells [.lst 1 f (ws.map au),.lst 1 g (es.map (Ln false))],B.cells [.lst 1 false (l.map eN),.int .i64 (wl ws l)]].length bl:=by
  intro bl hbl;simp only[pD,pA,or_false]at hbl
  rcases hbl with rfl | rfl
  ·intro c hc;simp only[pD,pA,or_false]at hc
   rcases hc with rfl | rfl
   ·exact iN (L1_pure f ws) rfl
   ·exact iN (LLn_pure g es) rfl
  ·exact bcl_rb _ false ⟨l,wl ws l⟩
 have sa:=nsH_at hr0 f g ws es lf;have o:BOk (nsH [B.cells [.lst 1 f (ws.map au),.lst 1 g (es.map (Ln false))],B.cells [.lst 1 false (l.map eN),.int .i64 (wl ws l)]] f g ws es lf) 4 3 1:=⟨by simp[nsH],by simp[nsH],by simp[nsH],by omega,by omega,by omega,sa.rb⟩;have hp1:(0:Int)≤2^(ws.length+1):=Int.le_of_lt (Int.pow_pos (by omega));have c2:=minimum_h (f:=f) (g:=g) o hb (ws.length+1) (ou ws.length 0) lf ⟨l,wl ws l⟩ false 0 P (by simp) m1 (by omega) h2 (by omega) (by omega);have hH:HS (nsH [B.cells [.lst 1 f (ws.map au),.lst 1 g (es.map (Ln false))],B.cells [.lst 1 false (l.map eN),.int .i64 (wl ws l)]] f g ws es lf) 4 3 1 f g ws es lf (ou ws.length 0) (bcl false ⟨l,wl ws l⟩)=nsH [B.cells [.lst 1 f (ws.map au),.lst 1 g (es.map (Ln false))],B.cells [.lst 1 false (l.map eN),.int .i64 (wl ws l)]] f g ws es lf:=rfl;rw[hH]at c2;simp only[gc,L1,LLn,Ln]at cw;simp only[gc,L1,LLn]at c1;simp -dsimp[show ¬lf<1 by omega,L1,LLn,Ln];refine cPx (cw) (by simp) ?_;simp -dsimp[L1,LLn,Ln];refine gz c1 ?_;rintro _ _ ⟨rfl,rfl⟩;simp -dsimp[L1,LLn,Ln];refine gz c2 ?_;rintro _ _ ⟨rfl,fl,rfl⟩;have gB:(HS (nsH [B.cells [.lst 1 f (ws.map au),.lst 1 g (es.map (Ln false))],B.cells [.lst 1 false (l.map eN),.int .i64 (wl ws l)]] f g ws es lf) 4 3 1 f g ws es P.1 (ou ws.length 0) (bcl fl P.2))[1]?=some (.cells [.lst 1 fl (P.2.l.map eN),.int .i64 P.2.w]):=o.atb;simp -dsimp[gB,L1,LLn,Ln];refine .inr ⟨bN (by kernel_rfl),?_⟩;exact⟨fl,by rw[hML,hMw]⟩
theorem mR{ws:List Int}{es:List (List Nat)}{P:List Nde×Int} : ∀(k:Nat) (m:List Nat) (lf b:Int),jz ws es k m lf b=some P→(P.1.length:Int)≤lf-P.2
 | 0,_,_,_,h=>by simp[jz]at h
 | k+1,m,lf,b,h=>by
  rw[jz]at h;split at h
  ·cases h
  ·split at h
   ·cases h;simp only[pk,qn];omega
   ·split at h
    ·cases h;simp only[pk,qn];omega
    ·split at h
     ·cases h
     ·split at h
      ·cases h
      ·rename_i p hp;split at h
       ·cases h
       ·rename_i q hq;have h1:=mR (P:=p) k _ _ _ hp;have h2:=mR (P:=q) k _ _ _ hq;cases h;simp only[pk,pK];omega
theorem wsum_range{ws:List Int}{n:Nat}(hw:∀v<n,1≤ws.getD v 0∧ws.getD v 0≤1000000)(T:Nat→Bool):0≤iC ws T n∧iC ws T n≤1000000*(n:Int):=by
 rw[iv];have h:=wl_le hw ((pG n).filter T) (fun v hv=>List.mem_range.1 (List.mem_filter.1 hv).1);have:=pY T (pG n);rw[sI]at this;omega
theorem prove_all{ws:List Int}{es:List (List Nat)}(hb:HsB ws es){lf:Int}(hlf:2^(ws.length+1)-1≤lf){T:Nat→Bool}(hT:MinOk ws.length ws es T):
  ∃P,jz ws es (ws.length+1) (ou ws.length 0) lf (iC ws T ws.length)=some P∧lf-(2^(ws.length+1)-1)≤P.2∧(P.1.length:Int)≤2^(ws.length+1)-1∧checkG ws es (iC ws T ws.length) P.1=true:=by
 have h0:∀v,(ou ws.length 0).getD v 0=0:=fun v=>by
  simp only[qZ,qv];split<;>rfl
 have g:Wok ws.length ws (ou ws.length 0):=⟨rfl,by simp,fun v hv=>(hb.w v hv).1,fun v _=>by rw[h0];omega⟩
 obtain⟨l,lf',p1,p2,p3⟩:=prv_ok hb.ed (by have:=hb.ne;omega) (ws.length+1) (ou ws.length 0) lf (iC ws T ws.length) g (by rw[jA];omega) (by rw[jA];exact hlf) (fun T' hX=>by
  rw[nk]
  exact hT.m T' hX.h)
 rw[jA]at p2;have hn:=mR _ _ _ _ p1;simp only at hn;refine⟨(l,lf'),p1,p2,by simp only;omega,?_⟩;have hr:=wsum_range hb.w T;have hn2:=hb.n;unfold checkG;rw[if_pos (iz.2 hb),if_neg (by omega)];unfold checkP;have:=p3 [] (l.length+1) (by omega);rw[pL]at this;simp only;rw[this];rfl
end
end Go.Proofs.YtjogkbekekdkjaaGreatDoor
