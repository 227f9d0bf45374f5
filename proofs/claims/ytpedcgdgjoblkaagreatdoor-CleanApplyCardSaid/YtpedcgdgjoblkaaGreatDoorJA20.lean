/- JA20: own texts of this seat, joined and shortened by pack4.py: PC, TB, TL, TM, TC, TD. -/
import Derived.Test.YtpedcgdgjoblkaaGreatDoorJA18
import Derived.Test.YtpedcgdgjoblkaaGreatDoorJA19
set_option linter.unusedVariables false
set_option linter.unusedSimpArgs false
set_option maxRecDepth 100000
set_option maxHeartbeats 64000000
open ByteArray renaming empty→kI
open List renaming replicate→aI,getElem?_append_left→kL,getElem_mem→kN,getElem?_append_right→kO,getElem?_set_ne→kP,range→kQ,not_mem_nil→kS,drop_eq_getElem_cons→kT,getElem?_set_self→kW,append_nil→kX,take_succ_eq_append_getElem→kY,mem_cons→kZ,drop_of_length_le→kf,length_map→kh,take_length→km,set_cons_zero→kn,set_cons_succ→ko,getElem?_cons_succ→kp,length_append→kr,getElem?_eq_none→kz,take_append_drop→lA,length_take→lC,nil_append→lD,take_of_length_le→lE,map_cons→lH,mem_of_mem_drop→lI,eq_nil_of_length_eq_zero→lK,range_succ→lR,length_set→lS,map_nil→lU,map_congr_left→lW,getElem_of_mem→lX,map_append→lZ,length_drop→ld,length_filter_le→lg,cons_append→lp,mem_singleton→mA,map_take→mG,filter_append→mH,take→mL,filter_cons→mP,flatMap_append→mZ,getElem_take→mi,getElem_drop→mj,map_set→nA
open Nat renaming le_refl→kM,lt_or_ge→lJ,le_trans→lQ,min_eq_left→li
namespace Go.Proofs.YtpedcgdgjoblkaaGreatDoor
section
open Go Go.AM
structure PlA (t u:Tb):Prop where
 ht:TbOk t
 hu:TbOk u
 t8:t.rows.length≤8
 u8:u.rows.length≤8
theorem eo{rs:List Rw}{id:Int}(i:Nat):(fnd rs id i).2=true→(fnd rs id i).1<rs.length:=by
 fun_induction fnd rs id i with
 | case1 i hi he=>exact fun _=>hi
 | case2 i hi he ih=>exact ih
 | case3 i hi=>intro h;cases h
theorem with_t(t:Tb)(rs:List Rw)(f g h:Bool)(ha:t.attrs.length≤1000000)(hr:rs.length≤1000000)(hv:∀r∈rs,r.vals.length≤1000000):aK Tryz.prog 108 [aD f g t,LR h rs] fun x=>x=aD false false ⟨t.name,t.attrs,rs⟩:=by
 have cc:=iy t.attrs f ha;simp only[LS]at cc;refine sPx Tryz.func108 rfl rfl ?_;simp -dsimp[Tryz.f108,aI,aD,LS,LR];refine aO (aS tok mixed [6,7] [(0,[1]),(1,[1]),(2,[1]),(3,[1]),(4,[1]),(5,[1])] [(.lst 1 false (t.attrs.map V.str),[])] (by kernel_rfl) fun C K hC hK=>?_);simp -implicitDefEqProofs [];refine⟨⟨hC _ _ _ _ (aP cc (by simp)),hC _ _ _ _ (aP cc (by simp))⟩,hK _ _ ?_⟩;simp -dsimp[];refine aO (cO 41 2 [] 2 [2] rfl (bu _ _) (by simp) (W_loopM 28 0xfff3080 (by simp[mB]<;>rfl) (σ:=Nat) (fun i=>i≤rs.length) (fun i=>rs.length-i) (fun i=>[(16,.int .i64 i)]) (fun i=>[B.cells [.str t.name,.lst 1 f (t.attrs.map V.str),.lst 2 g (t.rows.map aC)],B.cells [.str kI,.nilS,.nilS],B.cells [.str t.name,.lst 1 false (t.attrs.map V.str),.buf 3 0 i i],B.buf 41 2 ((rs.take i).map aC) false]) 0 (by omega) (by simp) (by simp) (by simp) ?_));intro i hi N Q hN hQ
 have hli:(rs.take i).length=i:=by simp;omega
 by_cases hb:i<rs.length
 ·have hst:rs.take (i+1)=rs.take i++[rs[i]]:=kY hb;have hc:=jw rs[i] (hv _ (kN hb));obtain⟨l,hl⟩:∃l,l=rs.take i:=⟨_,rfl⟩;rw[←hl]at hst hli ⊢;refine wx ?_;simp -dsimp[hb];refine aO (aS tok mixed [5,7] [] [(aC rs[i],[])] (by kernel_rfl) fun C K hC hK=>?_);simp -implicitDefEqProofs [hb,aC,LV,hli,ew i (by omega)];refine⟨hC _ _ _ _ (aP hc (by simp)),hK _ _ ?_⟩;simp -dsimp[aX i (by omega)];refine hN (i+1) _ _ (by omega) (by omega) ?_ ⟨[B.cells [.int .i64 rs[i].id,.lst 3 false (rs[i].vals.map aJ)]],?_⟩ ?_ ?_<;>simp[or_imp,forall_and,L1,cW,hst,aC,LV]
 ·obtain rfl:i=rs.length:=by omega
  rw[km];refine fm 3 [] 2 [2] rfl rfl (by simp) (by simp) ?_;refine wx ?_;simp -dsimp[hb];refine hQ _ _ _ ?_;simp -dsimp[];simp only[aD,LS,LR]
theorem bg{rs:List Rw}{i:Nat}(h:i<rs.length):rwG rs i=rs[i]:=by simp[rwG,h]
theorem del_ix{rs:List Rw}(hs:Srt rs){i:Nat}(h:i<rs.length):cS rs rs[i].id=rs.take i++rs.drop (i+1):=by
 have hp:=List.pairwise_iff_getElem.1 hs
 have h1:∀r∈rs.take i,r.id<rs[i].id:=fun r hr=>by
  obtain⟨j,hj,rfl⟩:=lX hr;rw[lC]at hj;rw[mi];exact hp j i (by omega) h (by omega)
 have h2:∀r∈rs.drop (i+1),rs[i].id<r.id:=fun r hr=>by
  obtain⟨j,hj,rfl⟩:=lX hr;rw[ld]at hj;rw[mj];exact hp i (i+1+j) h (by omega) (by omega)
 obtain⟨x,hx⟩:∃x,x=rs[i]:=⟨_,rfl⟩
 have e:rs=rs.take i++x::rs.drop (i+1):=by rw[hx,←kT h,lA]
 rw[←hx]at h1 h2 ⊢;unfold cS;have e2:=congrArg (List.filter fun r:Rw=>!decide (r.id=x.id)) e;rw[e2,mH,mP,if_neg (by simp)];congr 1
 ·refine List.filter_eq_self.2 fun r hr=>?_
  have:=h1 r hr;simp;omega
 ·refine List.filter_eq_self.2 fun r hr=>?_
  have:=h2 r hr;simp;omega
def zTb:V:=.agg [.str kI,.nilS,.nilS]
def delV(t:Tb)(id:Int):V:=if inT t id=true then .tup [aD false false (wrT t (cS t.rows id)),.int .i64 0] else .tup [zTb,.int .i64 4]
theorem delete_u(t:Tb)(f g:Bool)(id:Int)(hv:aH t=0)(hk:TbOk t):aK Tryz.prog 63 [aD f g t,.int .i64 id] fun r=>r=delV t id:=by
 have c1:=cI t f g hk;rw[hv]at c1;have hr:=bE hv;have hvr:=aw hv;have hw:=(tbC hv).wide;have cf:=dt t f g id (by omega);simp only[aD,LS,LR]at c1 cf;unfold delV inT
 cases hin:(fnd t.rows id 0).2 with
 | false =>
  rw[hin]at cf;rw[if_neg (by simp)];refine sPx Tryz.func63 rfl rfl ?_;simp -dsimp[Tryz.f63,aI,aD,LS,LR,zTb];refine cPx (c1) (by simp) ?_;simp -dsimp[];refine cPx (cf) (by simp) ?_;simp -dsimp[];rfl
 | true =>
  have hkl:=eo 0 hin;obtain⟨hid,hmem⟩:=fnd_id 0 hin;rw[hin]at cf;rw[if_pos rfl];obtain⟨k,hke⟩:∃k,k=(fnd t.rows id 0).1:=⟨_,rfl⟩;rw[←hke]at cf hkl hid;rw[bg hkl]at hid;have hdx:=del_ix (cP hv) hkl;rw[hid]at hdx;have hdl:(cS t.rows id).length≤1000:=lQ (lg _ _) hr
  have cw:=with_t t (cS t.rows id) f g false hk.attrs (by omega) (fun r hr=>by
   have:=(hvr r (dp.1 hr).1).2.1
   omega)
  obtain⟨D,hD⟩:∃D,D=cS t.rows id:=⟨_,rfl⟩;rw[←hD]at cw hdx ⊢;simp only[aD,LS,LR]at cw;refine sPx Tryz.func63 rfl rfl ?_;simp -dsimp[Tryz.f63,aI,aD,LS,LR,wrT];refine cPx (c1) (by simp) ?_;simp -dsimp[];refine cPx (cf) (by simp) ?_;simp -dsimp[]
  have cc:=concat_R [⟨g&&(k == t.rows.length),(t.rows.take k).map aC⟩,⟨g,(t.rows.drop (k+1)).map aC⟩] true (fun l hl x hx=>by
   simp only[kZ,kS,or_false]at hl
   rcases hl with rfl | rfl<;>(obtain⟨y,_,rfl⟩:=List.mem_map.1 hx;exact⟨encRw_pure _,encRw_oneV _,rfl⟩)) (by simp) (by simp[bq];omega)
  have e3:bq [⟨g&&(k == t.rows.length),(t.rows.take k).map aC⟩,⟨g,(t.rows.drop (k+1)).map aC⟩]=D.map aC:=by rw[hdx];simp[bq]
  rw[e3]at cc;simp only[lH,lU,cX,mG,List.map_drop]at cc;have htk:mL t.rows.length (t.rows.map aC)=t.rows.map aC:=lE (by simp);refine aO (aS tok mixed [13] [] [(.lst 2 false (D.map aC),[]),(.agg [.str t.name,.lst 1 false (t.attrs.map V.str),.lst 2 false (D.map aC)],[])] (by kernel_rfl) fun C K hC hK=>?_);simp -implicitDefEqProofs [hkl,aX k (by omega),show k≤t.rows.length by omega,show(0:Int)≤(k:Int)+1 by omega,show k+1≤t.rows.length by omega,htk];refine⟨⟨hC _ _ _ _ (aP cc ?_),hC _ _ _ _ (aP cw (by simp))⟩,hK _ _ ?_⟩
  ·intro x hx;rw[mA]at hx;subst hx
   refine .lst _ _ _ fun y hy=>?_
   simp only[kZ,kS,or_false]at hy
   rcases hy with rfl | rfl
   ·rw[←mG];exact LR_pure _ _
   ·rw[←List.map_drop];exact LR_pure _ _
  simp -dsimp[];rfl
def bsR(rs:List Rw)(id:Int)(lo hi:Nat):Nat:=if h:lo<hi then(if(rwG rs ((lo+hi) / 2)).id<id then bsR rs id ((lo+hi) / 2+1) hi else bsR rs id lo ((lo+hi) / 2)) else lo
termination_by hi-lo
theorem gZ{rs:List Rw}(hs:Srt rs)(id:Int):∀(d lo hi:Nat),hi-lo≤d→lo≤hi→hi≤rs.length→(∀j,∀h:j<rs.length,j<lo→rs[j].id<id)→(∀j,∀h:j<rs.length,hi≤j→¬rs[j].id<id)→
  lo≤bsR rs id lo hi∧bsR rs id lo hi≤hi∧(∀j,∀h:j<rs.length,j<bsR rs id lo hi→rs[j].id<id)∧(∀j,∀h:j<rs.length,bsR rs id lo hi≤j→¬rs[j].id<id)
 | d,lo,hi,hd,h1,h2,h3,h4=>by
  have hp:=List.pairwise_iff_getElem.1 hs;rw[bsR];split
  ·rename_i hb
   cases d with
   | zero=>omega
   | succ d =>
   obtain⟨m,hm⟩:∃m,m=(lo+hi) / 2:=⟨_,rfl⟩;rw[←hm]
   have hml:m<rs.length:=by omega
   have hgm:rwG rs m=rs[m]:=by simp[rwG,hml]
   rw[hgm];split
   ·rename_i hq
    obtain⟨a,b,c,e⟩:=gZ hs id d (m+1) hi (by omega) (by omega) h2 (fun j hj hjm=>by
     rcases lJ j m with q | q
     ·have:=hp j m hj hml q;omega
     ·have:j=m:=by omega
      subst this;exact hq) h4
    exact⟨by omega,b,c,e⟩
   ·rename_i hq
    obtain⟨a,b,c,e⟩:=gZ hs id d lo m (by omega) (by omega) (by omega) h3 (fun j hj hjm=>by
     rcases lJ m j with q | q
     ·have:=hp m j hml hj q;omega
     ·have:j=m:=by omega
      subst this;exact hq)
    exact⟨a,by omega,c,e⟩
  ·rename_i hb
   have:hi=lo:=by omega
   subst this;exact⟨kM _,kM _,h3,h4⟩
def plR(rs:List Rw)(id:Int):Nat:=bsR rs id 0 rs.length
theorem plR_le{rs:List Rw}(hs:Srt rs)(id:Int):plR rs id≤rs.length:=(gZ hs id rs.length 0 rs.length (by omega) (by omega) (kM _) (fun j _ h=>absurd h (by omega)) (fun j h1 h2=>absurd h1 (by omega))).2.1
theorem ins_ix{rs:List Rw}(hs:Srt rs){r:Rw}(hn:∀s∈rs,¬s.id=r.id):cL rs r=rs.take (plR rs r.id)++r::rs.drop (plR rs r.id):=by
 obtain⟨_,hle,h3,h4⟩:=gZ hs r.id rs.length 0 rs.length (by omega) (by omega) (kM _) (fun j _ h=>absurd h (by omega)) (fun j h1 h2=>absurd h1 (by omega));obtain⟨p,hp⟩:∃p,p=plR rs r.id:=⟨_,rfl⟩;have hp':bsR rs r.id 0 rs.length=p:=hp.symm;rw[hp']at hle h3 h4;rw[←hp]
 have h1:∀s∈rs.take p,s.id<r.id:=fun s hs=>by
  obtain⟨j,hj,rfl⟩:=lX hs;rw[lC]at hj;rw[mi];exact h3 j (by omega) (by omega)
 have h2:∀s∈rs.drop p,r.id<s.id:=fun s hs=>by
  have hne:=hn s (lI hs);obtain⟨j,hj,rfl⟩:=lX hs;rw[ld]at hj;rw[mj]at hne ⊢;have:=h4 (p+j) (by omega) (by omega);omega
 unfold cL;have e:=(lA p rs).symm
 have ea:rs.filter (fun s=>decide (s.id<r.id))=rs.take p:=by
  rw[congrArg (List.filter fun s:Rw=>decide (s.id<r.id)) e,mH,List.filter_eq_self.2 (fun s hs=>by simpa using h1 s hs),List.filter_eq_nil_iff.2 (fun s hs=>by have:=h2 s hs;simp;omega),kX]
 have eb:rs.filter (fun s=>decide (r.id<s.id))=rs.drop p:=by
  rw[congrArg (List.filter fun s:Rw=>decide (r.id<s.id)) e,mH,List.filter_eq_nil_iff.2 (fun s hs=>by have:=h1 s hs;simp;omega),List.filter_eq_self.2 (fun s hs=>by simpa using h2 s hs),lD]
 rw[ea,eb]
def iW(a b:Int):Int:=if a<b then -1 else if b<a then 1 else 0
theorem insClo(r:Rw)(id:Int):aK Tryz.prog 110 [aC r,.int .i64 id] fun x=>x = .int .i64 (iW r.id id):=by
 unfold iW;by_cases h1:r.id<id
 ·rw[if_pos h1];refine sPx Tryz.func110 rfl rfl ?_;simp -dsimp[Tryz.f110,aI,aC,LV,h1]
 ·by_cases h2:id<r.id
  ·rw[if_neg h1,if_pos h2];refine sPx Tryz.func110 rfl rfl ?_;simp -dsimp[Tryz.f110,aI,aC,LV,h1,h2]
  ·rw[if_neg h1,if_neg h2];refine sPx Tryz.func110 rfl rfl ?_;simp -dsimp[Tryz.f110,aI,aC,LV,h1,h2]
theorem shr1R(lo hi:Nat)(h:lo+hi≤4000000):IntKind.i64.wrap ((IntKind.u64.wrap ((lo+hi:Nat):Int)).fdiv (2^min 1 IntKind.u64.bits))=(((lo+hi) / 2:Nat):Int):=by
 have h1:(2:Int)^min 1 IntKind.u64.bits=2:=rfl
 have h2:IntKind.u64.wrap ((lo+hi:Nat):Int)=((lo+hi:Nat):Int):=by rw[IntKind.wrap_u64];omega
 rw[h2,h1,Int.fdiv_eq_ediv_of_nonneg _ (by omega),wrap64 (by omega) (by omega)];omega
def bsT(rs:List Rw)(id:Int):Bool:=decide (plR rs id<rs.length)&&(iW (rwG rs (plR rs id)).id id == 0)
theorem bsearchR(l:List Rw)(x:Int)(f:Bool)(hl:l.length≤1000000):aK Tryz.prog 109 [LR f l,.int .i64 x,.fn 110 []] fun r=>r = .tup [.int .i64 (plR l x),.bool (bsT l x)]:=by
 obtain⟨E,hE⟩:∃E,E=bsR l x 0 l.length:=⟨_,rfl⟩
 have hF:bsT l x=(decide (E<l.length)&&(iW (rwG l E).id x == 0)):=by rw[hE];rfl
 have hP:plR l x=E:=hE.symm;rw[hP]
 have hlt:∀a b:Int,iW a b<0↔a<b:=fun a b=>by unfold iW;split<;>(try split)<;>omega
 refine sPx Tryz.func109 rfl rfl ?_;simp -dsimp[Tryz.f109,aI,LR];refine aO (W_loopM 35 0x7ffff8e00 (by simp[mB]<;>rfl) (σ:=Nat×Nat) (fun p=>p.1≤p.2∧p.2≤l.length∧bsR l x p.1 p.2=E) (fun p=>p.2-p.1) (fun p=>[(9,.int .i64 p.1),(10,.int .i64 p.2)]) (fun _=>[]) (0,l.length) ⟨by omega,by omega,hE.symm⟩ (by simp) rfl (by simp) ?_);rintro⟨lo,hi⟩ ⟨h1,h2,hx⟩ N Q hN hQ;simp only at h1 h2 hx;by_cases hb:lo<hi
 ·have hw:IntKind.i64.wrap ((lo:Int)+(hi:Int))=((lo+hi:Nat):Int):=by rw[wrap64 (by omega) (by omega)];rfl
  have hs:=shr1R lo hi (by omega);rw[bsR,dif_pos hb]at hx;obtain⟨m,em⟩:∃m,m=(lo+hi) / 2:=⟨_,rfl⟩;rw[←em]at hs hx;obtain⟨sm,esm⟩:∃sm,sm=lo+hi:=⟨_,rfl⟩;rw[←esm]at hs hw em
  have hm:m<l.length:=by omega
  have hgm:rwG l m=l[m]:=by simp[rwG,hm]
  rw[hgm]at hx;have hc:=insClo l[m] x;obtain⟨r,hr⟩:∃r,r=l[m]:=⟨_,rfl⟩;rw[←hr]at hx hc;simp only[aC,LV]at hc;have hs1:=aX m (by omega);by_cases hq:r.id<x
  ·rw[if_pos hq]at hx;have hq':iW r.id x<0:=(hlt _ _).2 hq;refine wx ?_;simp -dsimp[hb,hw,hs,hm,hr.symm,aC,LV];refine cPx (hc) (by simp) ?_;simp -dsimp[hq',hs1];refine hN (m+1,hi) _ _ ⟨by simp only;omega,h2,hx⟩ (by omega) ?_ ⟨[],?_⟩ ?_ ?_<;>simp[or_imp,forall_and,L1,cW]
  ·rw[if_neg hq]at hx
   have hq':¬iW r.id x<0:=fun h=>hq ((hlt _ _).1 h)
   refine wx ?_;simp -dsimp[hb,hw,hs,hm,hr.symm,aC,LV];refine cPx (hc) (by simp) ?_;simp -dsimp[hq',hs1];refine hN (lo,m) _ _ ⟨by simp only;omega,by simp only;omega,hx⟩ (by omega) ?_ ⟨[],?_⟩ ?_ ?_<;>simp[or_imp,forall_and,L1,cW]
 ·rw[bsR,dif_neg hb]at hx;subst hx;by_cases hn:lo<l.length
  ·have hgm:rwG l lo=l[lo]:=by simp[rwG,hn]
   have hc:=insClo l[lo] x;rw[hgm]at hF;obtain⟨r,hr⟩:∃r,r=l[lo]:=⟨_,rfl⟩;rw[←hr]at hF hc;simp only[aC,LV]at hc;refine wx ?_;simp -dsimp[hb];refine hQ _ _ _ ?_;simp -dsimp[hn,hr.symm,aC,LV];refine cPx (hc) (by simp) ?_;simp -dsimp[hn]
   all_goals (rw[hF];simp[hn])
  ·refine wx ?_;simp -dsimp[hb];refine hQ _ _ _ ?_;simp -dsimp[hn];rw[hF];simp[hn]
def wiH(c0 c1 c2:B)(t:Tb)(f g:Bool)(x:V)(l:List Rw):List B:=[c0,c1,c2,B.cells [.str t.name,.lst 1 f (t.attrs.map V.str),.lst 2 g (t.rows.map aC)],B.cells [.str kI,.nilS,.nilS],B.cells [.str t.name,.lst 1 false (t.attrs.map V.str),x],B.buf 41 2 (l.map aC) false]
theorem rowB_rb(n e:Nat)(l:List Rw)(fz:Bool):rbB n (.buf e 2 (l.map aC) fz):=(cA (by simp) (by simp[aC,V.cells,LV,V.one])).2 trivial
theorem with_w(t:Tb)(rs:List Rw)(f g h:Bool)(ha:t.attrs.length≤1000000)(hr:rs.length≤1000000)(hv:∀r∈rs,r.vals.length≤1000000)(c0 c1 c2:B)(hb0:∀k,rbB k c0)(hb1:∀k,rbB k c1)(hb2:∀k,rbB k c2):
  aT Tryz.prog 108 [aD f g t,LR h rs] [c0,c1,c2] fun x H'=>x = .agg [.str t.name,.lst 1 false (t.attrs.map V.str),.buf 6 0 rs.length rs.length]∧∃A A1 A2,H'=[c0,c1,c2,A,A1,A2,B.buf 41 2 (rs.map aC) false]∧∀k,6<k→rbB k A∧rbB k A1∧rbB k A2:=by
 have cc:=iy t.attrs f ha;simp only[LS]at cc;refine aG tok Tryz.func108 rfl rfl ?_;refine wx ?_;simp -dsimp[Tryz.f108,aI,aD,LS,LR];refine aO (aS tok mixed [6,7] [(0,[1]),(1,[1]),(2,[1]),(3,[1]),(4,[1]),(5,[1])] [(.lst 1 false (t.attrs.map V.str),[])] (by kernel_rfl) fun C K hC hK=>?_);simp -implicitDefEqProofs [];refine⟨⟨hC _ _ _ _ (aP cc (by simp)),hC _ _ _ _ (aP cc (by simp))⟩,hK _ _ ?_⟩;simp -dsimp[];refine aO (cO 41 2 [] 5 [2] rfl (bu _ _) (by simp) (W_loopM 28 0xfff3080 (by simp[mB]<;>rfl) (σ:=Nat) (fun i=>i≤rs.length) (fun i=>rs.length-i) (fun i=>[(16,.int .i64 i)]) (fun i=>wiH c0 c1 c2 t f g (.buf 6 0 i i) (rs.take i)) 0 (by omega) (by simp) (by simp[wiH]) (by simp[wiH]) ?_));intro i hi N Q hN hQ
 have hli:(rs.take i).length=i:=by simp;omega
 simp only[wiH]at hN ⊢;by_cases hb:i<rs.length
 ·have hst:rs.take (i+1)=rs.take i++[rs[i]]:=kY hb;have hc:=jw rs[i] (hv _ (kN hb));obtain⟨r,hre⟩:∃r,r=rs[i]:=⟨_,rfl⟩;rw[←hre]at hst hc;obtain⟨l,hl⟩:∃l,l=rs.take i:=⟨_,rfl⟩;rw[←hl]at hst hli ⊢;simp only[aC,LV]at hc;refine wx ?_;simp -dsimp[hb,hre.symm,aC,LV];refine aO (aS tok mixed [5,7] [] [(.agg [.int .i64 r.id,.lst 3 false (r.vals.map aJ)],[])] (by kernel_rfl) fun C K hC hK=>?_);simp -implicitDefEqProofs [hb,aC,LV,hli,ew i (by omega)];refine⟨hC _ _ _ _ (aP hc (by simp)),hK _ _ ?_⟩;simp -dsimp[aX i (by omega)];refine hN (i+1) _ _ (by omega) (by omega) (by simp) ⟨[B.cells [.int .i64 r.id,.lst 3 false (r.vals.map aJ)]],by simp[hst,aC,LV]⟩ (by simp) ?_;intro bl hbl;simp only[kZ,kS,or_false]at hbl
  rcases hbl with rfl | rfl | rfl | rfl | rfl | rfl | rfl
  ·exact hb0 _
  ·exact hb1 _
  ·exact hb2 _
  ·simp
  ·simp
  ·simp
  ·exact rowB_rb _ _ _ _
 ·obtain rfl:i=rs.length:=by omega
  rw[km];refine wx ?_;simp -dsimp[hb];refine hQ _ _ _ ?_;simp -dsimp[];exact⟨_,_,_,⟨rfl,rfl,rfl⟩,fun k hk=>⟨by simp,by simp;omega,by simp;omega⟩⟩
theorem delete_r(t:Tb)(f g:Bool)(id:Int)(hv:aH t=0)(hk:TbOk t):aK Tryz.prog 35 [aD f g t,.int .i64 id] fun r=>r=delV t id:=by
 have c1:=ib t f g hk;rw[hv]at c1;have hr:=bE hv;have hvr:=aw hv;have hw:=(tbC hv).wide;have cf:=jm t f g id (by omega);simp only[aD,LS,LR]at c1 cf;unfold delV inT
 cases hin:(fnd t.rows id 0).2 with
 | false =>
  rw[hin]at cf;rw[if_neg (by simp)];obtain⟨k,hke⟩:∃k,k=(fnd t.rows id 0).1:=⟨_,rfl⟩;rw[←hke]at cf;refine sPx Tryz.func35 rfl rfl ?_;simp -dsimp[Tryz.f35,aI,aD,LS,LR,zTb];refine cPx (c1) (by simp) ?_;simp -dsimp[];refine cPx (cf) (by simp) ?_;simp -dsimp[];rfl
 | true =>
  have hkl:=eo 0 hin;obtain⟨hid,hmem⟩:=fnd_id 0 hin;rw[hin]at cf;rw[if_pos rfl];obtain⟨k,hke⟩:∃k,k=(fnd t.rows id 0).1:=⟨_,rfl⟩;rw[←hke]at cf hkl hid;rw[bg hkl]at hid;have hdx:=del_ix (cP hv) hkl;rw[hid]at hdx;have hdl:(cS t.rows id).length≤1000:=lQ (lg _ _) hr
  have cw:=with03 t (cS t.rows id) f g false hk.attrs (by omega) (fun r hr=>by
   have:=(hvr r (dp.1 hr).1).2.1
   omega)
  obtain⟨D,hD⟩:∃D,D=cS t.rows id:=⟨_,rfl⟩;rw[←hD]at cw hdx ⊢;simp only[aD,LS,LR]at cw;have htk:mL t.rows.length (t.rows.map aC)=t.rows.map aC:=lE (by simp)
  have hdx':t.rows.map aC=(t.rows.take k).map aC++(t.rows.drop k).map aC:=by rw[←lZ,lA]
  have hDe:(t.rows.map aC).take k++(t.rows.map aC).drop (k+1)=D.map aC:=by rw[hdx,lZ,mG,List.map_drop]
  have hDl:D.length+1=t.rows.length:=by rw[hdx];simp;omega
  have hrne:¬t.rows=[]:=by intro e;rw[e]at hkl;simp at hkl
  have capR:∀n,n≤1000→n≤9223372036854775807∧n*32≤140737488355328:=fun n h=>by omega
  refine sPx Tryz.func35 rfl rfl ?_;simp -dsimp[Tryz.f35,aI,aD,LS,LR,wrT];refine cPx (c1) (by simp) ?_;simp -dsimp[];refine cPx (cf) (by simp) ?_;simp -dsimp[];have cfz:=callF (H:=[B.cells [.str t.name,.lst 1 f (t.attrs.map V.str),.lst 2 g (t.rows.map aC)],B.cells [.str kI,.nilS,.nilS],B.buf 41 2 (D.map aC) false]) (args:=[.agg [.str t.name,.lst 1 f (t.attrs.map V.str),.lst 2 g (t.rows.map aC)],.buf 2 0 D.length D.length]) 2 (e:=41) (z:=2) (xs:=D.map aC) (fz:=false) rfl cw (by rw[kh];simp[eD]) (by simp);simp only[ko,kn]at cfz;by_cases hk0:k=0
  ·have hD1:List.drop 1 (t.rows.map aC)=D.map aC:=by rw[←hDe,hk0];simp
   have hD2:(t.rows.map aC).tail=D.map aC:=by rw[←hD1];simp
   by_cases hl0:D=[]
   ·have cw0:=with03 t [] f g true hk.attrs (by simp) (by simp);simp only[aD,LS,LR,lU]at cw0
    have hr1:t.rows.length=1:=by rw[hl0]at hDl;simpa using hDl.symm
    rw[hl0,lU]at hD1 hD2;rw[hl0];refine aO (aS tok mixed [6,12,13,14] [(0,[1,2,3]),(7,[0]),(8,[0]),(9,[0]),(10,[0]),(11,[0])] [(.agg [.str t.name,.lst 1 false (t.attrs.map V.str),.lst 2 false []],[B.cells [.str t.name,.lst 1 f (t.attrs.map V.str),.lst 2 g (t.rows.map aC)],B.cells [.str kI,.nilS,.nilS]])] (by kernel_rfl) fun C K hC hK=>?_);simp -implicitDefEqProofs [hr1,hk0,hrne,htk,hD1,hD2,show IntKind.i64.wrap (1:Int)=1 from wrap64 (by omega) (by omega)];refine⟨hC _ _ _ _ (aP cw0 (by simp)),hK _ _ ?_⟩;simp -dsimp[];rfl
   ·have hr1:¬t.rows.length-1=0:=by intro e;exact hl0 (lK (by omega))
    refine aO (aS tok mixed [6,12,13,14] [(0,[1,2,3]),(7,[0]),(8,[0]),(9,[0]),(10,[0]),(11,[0])] [(.agg [.str t.name,.lst 1 false (t.attrs.map V.str),.lst 2 false (D.map aC)],[B.cells [.str t.name,.lst 1 f (t.attrs.map V.str),.lst 2 g (t.rows.map aC)],B.cells [.str kI,.nilS,.nilS],B.buf 41 2 (D.map aC) true])] (by kernel_rfl) fun C K hC hK=>?_);simp -implicitDefEqProofs [hk0,hl0,hrne,htk,hD1,hD2,hr1,show IntKind.i64.wrap (1:Int)=1 from wrap64 (by omega) (by omega),show 1≤t.rows.length by omega,show 0<t.rows.length by omega,show t.rows.length-1=D.length by omega,capR D.length (by omega)];refine⟨hC _ _ _ _ cfz,hK _ _ ?_⟩;simp -dsimp[];rfl
  ·by_cases hl0:t.rows.length-(k+1)=0
   ·have hkD:k=D.length:=by omega
    have hDk:mL k (t.rows.map aC)=D.map aC:=by rw[←hDe,kf (by simp;omega),kX]
    refine aO (aS tok mixed [6,12,13,14] [(0,[1,2,3]),(7,[0]),(8,[0]),(9,[0]),(10,[0]),(11,[0])] [(.agg [.str t.name,.lst 1 false (t.attrs.map V.str),.lst 2 false (D.map aC)],[B.cells [.str t.name,.lst 1 f (t.attrs.map V.str),.lst 2 g (t.rows.map aC)],B.cells [.str kI,.nilS,.nilS],B.buf 41 2 (D.map aC) true])] (by kernel_rfl) fun C K hC hK=>?_);simp -implicitDefEqProofs [hkl,hrne,aX k (by omega),show k≤t.rows.length by omega,show(0:Int)≤(k:Int)+1 by omega,show k+1≤t.rows.length by omega,htk,capR k (by omega),li (show k≤t.rows.length by omega),capR D.length (by omega),hk0,hl0,hDk,←hkD];rw[←hkD]at cfz;refine⟨hC _ _ _ _ cfz,hK _ _ ?_⟩;simp -dsimp[];rfl
   ·refine aO (aS tok mixed [6,12,13,14] [(0,[1,2,3]),(7,[0]),(8,[0]),(9,[0]),(10,[0]),(11,[0])] [(.agg [.str t.name,.lst 1 false (t.attrs.map V.str),.lst 2 false (D.map aC)],[B.cells [.str t.name,.lst 1 f (t.attrs.map V.str),.lst 2 g (t.rows.map aC)],B.cells [.str kI,.nilS,.nilS],B.buf 41 2 (D.map aC) true])] (by kernel_rfl) fun C K hC hK=>?_);simp -implicitDefEqProofs [hkl,hrne,aX k (by omega),show k≤t.rows.length by omega,show(0:Int)≤(k:Int)+1 by omega,show k+1≤t.rows.length by omega,htk,capR k (by omega),li (show k≤t.rows.length by omega),capR D.length (by omega),hk0,hl0,show k+(t.rows.length-(k+1))=D.length by omega,hDe];refine⟨hC _ _ _ _ cfz,hK _ _ ?_⟩;simp -dsimp[];rfl
theorem getX2'(H X:List B)(A A1 A2:B):∀h,(H++A::A1::A2::X)[H.length+2]'h=A2:=bB (by rw[getX2];rfl)
def cpT(L:Nat)(r:Rw):List B:=[B.cells [.int .i64 r.id,.lst 3 false (r.vals.map aJ)],B.cells [.int .i64 r.id,.buf (L+2) 0 r.vals.length r.vals.length],B.buf 43 3 (r.vals.map aJ) false]
theorem cp_h(H:List B)(r:Rw)(h0:r.vals≠[])(hl:r.vals.length≤1000000):aT Tryz.prog 72 [aC r] H fun x H'=>x = .agg [.int .i64 r.id,.buf (H.length+2) 0 r.vals.length r.vals.length]∧H'=H++cpT H.length r:=by
 refine aG tok Tryz.func72 rfl rfl ?_;refine wx ?_;simp -dsimp[Tryz.f72,aI,aC,LV];refine aO (aS tok mixed [5,7] [(0,[1]),(1,[1])] [] (by kernel_rfl) fun C K hC hK=>?_);simp -implicitDefEqProofs [h0,cap32l r.vals.length (by omega),eh,ef,getX2',iL,iK];refine hK _ _ ?_;simp -dsimp[eh,ef,getX2',iL,iK];simp[cpT]
structure TbH (H:List B) (k:Nat) (bk:Nat→Nat) (rs:List Rw):Prop where
 hk:H[k]?=some (.buf 41 2 ((kQ rs.length).map fun j=>.agg [.int .i64 (rwG rs j).id,.buf (bk j) 0 (rwG rs j).vals.length (rwG rs j).vals.length]) false)
 row:∀j,j<rs.length→H[bk j]?=some (.buf 43 3 ((rwG rs j).vals.map aJ) false)
 inj:∀i j,i<rs.length→j<rs.length→bk i=bk j→i=j
 ne:∀j,j<rs.length→bk j≠k
theorem TbH.exp{H:List B}{k:Nat}{bk:Nat→Nat}{rs:List Rw}(h:TbH H k bk rs):ExpX H (.buf k 0 rs.length rs.length) (LR false rs):=by
 have:=ExpX.bufx (H:=H) k _ _ _ (rs.map aC) false h.hk (by simp) (fun i c d hc hd=>by
  by_cases hi:i<rs.length
  ·simp[hi]at hc hd;subst hc;subst hd;rw[←bg hi];have hr:=h.row i hi;exact ExpX.agg2 (.pure _ (by simp)) (gN hr (by simp) (by simp))
  ·rw[kz (by simp;omega)]at hc;cases hc)
 simp only[kh,List.length_range]at this;exact this
def setV(r:Rw)(a:Nat)(v:Vl):Rw:=⟨r.id,r.vals.set a v⟩
theorem TbH.set{H:List B}{k:Nat}{bk:Nat→Nat}{rs:List Rw}(h:TbH H k bk rs){i a:Nat}(hi:i<rs.length)(v:Vl):TbH (H.set (bk i) (.buf 43 3 (((rwG rs i).vals.map aJ).set a (aJ v)) false)) k bk (rs.set i (setV (rwG rs i) a v)):=by
 have hg:∀j,j<rs.length→rwG (rs.set i (setV (rwG rs i) a v)) j=if j=i then setV (rwG rs i) a v else rwG rs j:=fun j hj=>by
  rw[bg (by rw[lS];exact hj),List.getElem_set];by_cases hji:j=i
  ·subst hji;simp
  ·rw[if_neg (Ne.symm hji),if_neg hji,bg hj]
 refine⟨?_,fun j hj=>?_,fun i' j hi' hj=>h.inj i' j (by simpa using hi') (by simpa using hj),fun j hj=>h.ne j (by simpa using hj)⟩
 ·rw[kP (h.ne i hi),h.hk,lS];congr 2
  refine lW fun j hj=>?_
  have hj:=List.mem_range.1 hj;rw[hg j hj];split
  ·rename_i e;subst e;simp[setV]
  ·rfl
 ·rw[lS]at hj;rw[hg j hj];split
  ·rename_i e;subst e;rw[kW (aB (h.row j hj))];simp[setV,nA]
  ·rename_i e;rw[kP (fun e2=>e (h.inj i j hi hj e2).symm),h.row j hj]
theorem TbH.app{H:List B}{k:Nat}{bk:Nat→Nat}{rs:List Rw}(h:TbH H k bk rs)(G:List B):TbH (H++G) k bk rs :=
 ⟨by rw[kL (aB h.hk)];exact h.hk,fun j hj=>by rw[kL (aB (h.row j hj))];exact h.row j hj,h.inj,h.ne⟩
theorem TbH.other{H:List B}{k:Nat}{bk:Nat→Nat}{rs:List Rw}(h:TbH H k bk rs){x:Nat}(hx:x≠k)(hx2:∀j,j<rs.length→x≠bk j)(Y:B):TbH (H.set x Y) k bk rs :=
 ⟨by rw[kP hx];exact h.hk,fun j hj=>by rw[kP (hx2 j hj)];exact h.row j hj,h.inj,h.ne⟩
def elE(rs:List Rw)(i:Nat):List V:=(kQ i).map fun j=>.agg [.int .i64 (rwG rs j).id,.buf (10+3*j) 0 (rwG rs j).vals.length (rwG rs j).vals.length]
def cpG(rs:List Rw)(i:Nat):List B:=(kQ i).flatMap fun j=>cpT (8+3*j) (rwG rs j)
theorem fM(rs:List Rw)(i:Nat):(cpG rs i).length=3*i:=by
 induction i with
 | zero=>rfl
 | succ i ih=>simp only[cpG,lR,mZ,kr]at ih ⊢;rw[ih];simp[cpT];omega
theorem jv(rs:List Rw)(i:Nat):cpG rs (i+1)=cpG rs i++cpT (8+3*i) (rwG rs i):=by simp[cpG,lR]
theorem elE_succ(rs:List Rw)(i:Nat):elE rs (i+1)=elE rs i++[.agg [.int .i64 (rwG rs i).id,.buf (10+3*i) 0 (rwG rs i).vals.length (rwG rs i).vals.length]]:=by simp[elE,lR]
theorem elE_len(rs:List Rw)(i:Nat):(elE rs i).length=i:=by simp[elE]
theorem cpG_at(rs:List Rw){i j:Nat}(h:j<i):(cpG rs i)[3*j+2]?=some (.buf 43 3 ((rwG rs j).vals.map aJ) false):=by
 induction i with
 | zero=>omega
 | succ i ih =>
  rw[jv]
  rcases lJ j i with e | e
  ·rw[kL (by rw[fM];omega)];exact ih e
  ·have:j=i:=by omega
   subst this;rw[kO (by rw[fM];omega),fM,show 3*j+2-3*j=2 by omega];rfl
theorem cpG_rb(rs:List Rw)(i:Nat):∀bl∈cpG rs i,rbB (8+3*i) bl:=by
 induction i with
 | zero=>intro bl h;cases h
 | succ i ih =>
  intro bl h;rw[jv]at h
  rcases List.mem_append.1 h with h | h
  ·exact eT (by omega) (ih bl h)
  ·unfold cpT at h;simp only[kZ,kS,or_false]at h
   rcases h with rfl | rfl | rfl
   ·simp
   ·simp;omega
   ·simp
theorem elE_rb(rs:List Rw)(e i:Nat)(fz:Bool):rbB (8+3*i) (.buf e 2 (elE rs i) fz):=by
 intro x hx c hc;obtain⟨j,hj,rfl⟩:=List.mem_map.1 hx;have hj:=List.mem_range.1 hj;simp[V.cells]at hc
 rcases hc with rfl | rfl
 ·trivial
 ·show 10+3*j<8+3*i;omega
theorem wh_rb{t:Tb}{rs:List Rw}{f g:Bool}{c0 c1 c2 c3:B}(hb0:∀k,rbB k c0)(hb1:∀k,rbB k c1)(hb2:∀k,rbB k c2)(hb3:∀k,rbB k c3)(i:Nat):∀bl∈c0::c1::c2::c3::B.cells [.str t.name,.lst 1 f (t.attrs.map V.str),.lst 2 g (t.rows.map aC)]::B.cells [.str kI,.nilS,.nilS]::B.cells [.str t.name,.lst 1 false (t.attrs.map V.str),.buf 7 0 i i]::B.buf 41 2 (elE rs i) false::cpG rs i,rbB (c0::c1::c2::c3::B.cells [.str t.name,.lst 1 f (t.attrs.map V.str),.lst 2 g (t.rows.map aC)]::B.cells [.str kI,.nilS,.nilS]::B.cells [.str t.name,.lst 1 false (t.attrs.map V.str),.buf 7 0 i i]::B.buf 41 2 (elE rs i) false::cpG rs i).length bl:=by
 have hlen:(c0::c1::c2::c3::B.cells [.str t.name,.lst 1 f (t.attrs.map V.str),.lst 2 g (t.rows.map aC)]::B.cells [.str kI,.nilS,.nilS]::B.cells [.str t.name,.lst 1 false (t.attrs.map V.str),.buf 7 0 i i]::B.buf 41 2 (elE rs i) false::cpG rs i).length=8+3*i:=by simp[fM];omega
 rw[hlen];intro bl h
 rcases List.mem_cons.1 h with rfl | h
 ·exact hb0 _
 rcases List.mem_cons.1 h with rfl | h
 ·exact hb1 _
 rcases List.mem_cons.1 h with rfl | h
 ·exact hb2 _
 rcases List.mem_cons.1 h with rfl | h
 ·exact hb3 _
 rcases List.mem_cons.1 h with rfl | h
 ·simp
 rcases List.mem_cons.1 h with rfl | h
 ·simp
 rcases List.mem_cons.1 h with rfl | h
 ·simp;omega
 rcases List.mem_cons.1 h with rfl | h
 ·exact elE_rb rs _ i _
 ·exact cpG_rb rs i bl h
theorem with_h(t:Tb)(rs:List Rw)(f g h:Bool)(ha:t.attrs.length≤1000000)(hne:t.attrs≠[])(hr:rs.length≤1000000)(hv:∀r∈rs,r.vals.length≤1000000∧r.vals≠[])(c0 c1 c2 c3:B)(hb0:∀k,rbB k c0)(hb1:∀k,rbB k c1)(hb2:∀k,rbB k c2)(hb3:∀k,rbB k c3):
  aT Tryz.prog 71 [aD f g t,LR h rs] [c0,c1,c2,c3] fun x H'=>x = .agg [.str t.name,.lst 1 false (t.attrs.map V.str),.buf 7 0 rs.length rs.length]∧∃A A1 A2,H'=c0::c1::c2::c3::A::A1::A2::B.buf 41 2 (elE rs rs.length) false::cpG rs rs.length∧(∀k,7<k→rbB k A∧rbB k A1∧rbB k A2):=by
 refine aG (tkf 26) Tryz.func71 rfl rfl ?_;refine W_x (tkf 26) mixed ?_;simp -dsimp[Tryz.f71,aI,aD,LS,LR,aZ];refine aO (dG (tkf 26) mixed [7,8] [(1,[1]),(2,[1]),(4,[1]),(5,[1])] [] (by kernel_rfl) fun C K hC hK=>?_);simp -implicitDefEqProofs [hne,cap16l t.attrs.length (by omega),aZ];refine hK _ _ ?_;simp -dsimp[aZ];refine aO (W_lf 6 _ [.str t.name,.lst 1 false (t.attrs.map V.str),.nilS] rfl (ed _) (by simp[LfL,lfB]) (cO 41 2 [] 6 [2] rfl (bu _ _) (by simp) (W_loopM 30 0x3ffffa40 (by simp[mB]<;>rfl) (σ:=Nat) (fun i=>i≤rs.length) (fun i=>rs.length-i) (fun i=>[(6,.int .i64 i)]) (fun i=>c0::c1::c2::c3::B.cells [.str t.name,.lst 1 f (t.attrs.map V.str),.lst 2 g (t.rows.map aC)]::B.cells [.str kI,.nilS,.nilS]::B.cells [.str t.name,.lst 1 false (t.attrs.map V.str),.buf 7 0 i i]::B.buf 41 2 (elE rs i) false::cpG rs i) 0 (by omega) (by simp[hne]) (by simp[hne,elE,cpG]) (by simp) ?_)));intro i hi N Q hN hQ;have hll:=elE_len rs i;have hgl:=fM rs i;by_cases hb:i<rs.length
 ·obtain⟨h1,h2⟩:=hv rs[i] (kN hb);have hgi:=bg hb;obtain⟨r,hre⟩:∃r,r=rs[i]:=⟨_,rfl⟩;rw[←hre]at h1 h2 hgi;have hre':=hre.symm;have hc:=cp_h (c0::c1::c2::c3::B.cells [.str t.name,.lst 1 f (t.attrs.map V.str),.lst 2 g (t.rows.map aC)]::B.cells [.str kI,.nilS,.nilS]::B.cells [.str t.name,.lst 1 false (t.attrs.map V.str),.buf 7 0 i i]::B.buf 41 2 (elE rs i) false::cpG rs i) r h2 h1;have hes:=elE_succ rs i;have hgs:=jv rs i;rw[hgi]at hes hgs
  have hlen:(c0::c1::c2::c3::B.cells [.str t.name,.lst 1 f (t.attrs.map V.str),.lst 2 g (t.rows.map aC)]::B.cells [.str kI,.nilS,.nilS]::B.cells [.str t.name,.lst 1 false (t.attrs.map V.str),.buf 7 0 i i]::B.buf 41 2 (elE rs i) false::cpG rs i).length=8+3*i:=by simp[hgl];omega
  rw[hlen,show 8+3*i+2=10+3*i by omega]at hc;simp only[aC,LV,lp,←hgs]at hc;have hrb:=wh_rb (t:=t) (rs:=rs) (f:=f) (g:=g) hb0 hb1 hb2 hb3 (i+1);refine W_x (tkf 26) mixed ?_;simp -dsimp[hb,aZ];refine aO (aS (tkf 26) mixed [6,8,10] [(1,[1])] [(.agg [.int .i64 r.id,.buf (10+3*i) 0 r.vals.length r.vals.length],c0::c1::c2::c3::B.cells [.str t.name,.lst 1 f (t.attrs.map V.str),.lst 2 g (t.rows.map aC)]::B.cells [.str kI,.nilS,.nilS]::B.cells [.str t.name,.lst 1 false (t.attrs.map V.str),.buf 7 0 i i]::B.buf 41 2 (elE rs i) false::cpG rs (i+1))] (by kernel_rfl) fun C K hC hK=>?_);simp -implicitDefEqProofs [hb,hre',aC,LV,hll,ew i (by omega),aZ];refine⟨hC _ _ _ _ hc,hK _ _ ?_⟩;simp -dsimp[aX i (by omega),aZ];refine hN (i+1) _ _ (by omega) (by omega) (by simp) ⟨[],by simp[hes]⟩ (by simp) hrb
 ·obtain rfl:i=rs.length:=by omega
  refine W_x (tkf 26) mixed ?_;simp -dsimp[hb,aZ];refine hQ _ _ _ ?_;simp -dsimp[aZ];exact⟨_,_,_,⟨rfl,rfl,rfl⟩,fun k hk=>⟨by simp,by simp;exact hk,by simp;exact hk⟩⟩
theorem wh_tbh(rs:List Rw)(c0 c1 c2 c3 c4 c5 c6:B):TbH (c0::c1::c2::c3::c4::c5::c6::B.buf 41 2 (elE rs rs.length) false::cpG rs rs.length) 7 (fun j=>10+3*j) rs:=by
 refine⟨rfl,fun j hj=>?_,fun i j _ _ h=>by have h:10+3*i=10+3*j:=h;omega,fun j _=>by show 10+3*j≠7;omega⟩;have:=cpG_at rs hj;show(c0::c1::c2::c3::c4::c5::c6::B.buf 41 2 (elE rs rs.length) false::cpG rs rs.length)[10+3*j]?=_;rw[show 10+3*j=(3*j+2)+8 by omega];simp only[kp];exact this
end
end Go.Proofs.YtpedcgdgjoblkaaGreatDoor
