/- JR20: own texts of this seat, joined and shortened by pack4.py: PC, TB, TL, TM, TN. -/
import Derived.Test.YtpedcgdgjoblkaaGreatDoorJR18
import Derived.Test.YtpedcgdgjoblkaaGreatDoorJR19
set_option linter.unusedVariables false
set_option linter.unusedSimpArgs false
set_option maxRecDepth 100000
set_option maxHeartbeats 64000000
open Bool renaming and_eq_true→ke
open ByteArray renaming empty→kV
open List renaming replicate→aJ,getElem?_eq_getElem→kU,getElem_mem→kZ,not_mem_nil→kf,append_nil→kg,mem_cons→kh,drop_eq_getElem_cons→km,take_succ_eq_append_getElem→kn,length_append→kq,take_length→ku,append_assoc→kz,length_take→lC,map_cons→lD,length_map→lG,length_cons→lJ,nil_append→lQ,map_nil→lS,take_of_length_le→lV,mem_of_mem_drop→lW,take_append_drop→ld,length_drop→lr,length_filter_le→ly,cons_append→mL,length_nil→mO,filter_append→mQ,mem_singleton→mR,set_getElem_self→mU,map_take→mZ,filter_cons→mi,take→mj,getElem_of_mem→mq,map_set→nL
open Nat renaming le_refl→kY,lt_or_ge→lh,le_trans→lk
namespace Go.Proofs.YtpedcgdgjoblkaaGreatDoor
section
open Go Go.AM
theorem wc_of{P:Program}{f:FuncId}{args:List V}{H:List B}{K K':V→List B→Prop}(h:aR P f args H K)(hk:∀r H',K r H'→K' r H'):aK P (.fn f []) args H K':=by
 simp only[aK,kg];exact h.mono hk
theorem chg_cells(nm:ByteArray)(c:Chg):(aW nm c).cells.length=11:=rfl
theorem fI(n e:Nat)(nm:ByteArray)(l:List Chg)(fz:Bool):rbB n (.buf e 11 (l.map (aW nm)) fz):=fun x hx=>by
 obtain⟨y,_,rfl⟩:=List.mem_map.1 hx;intro c hc;simp only[aW,LV,V.cells,kh,kf,or_false]at hc
 rcases hc with rfl | rfl | rfl | rfl | rfl | rfl | rfl | rfl | rfl | rfl | rfl<;>simp[rb1]
theorem LVb_rb(n e:Nat)(l:List Vl)(fz:Bool):rbB n (.buf e 3 (l.map aH) fz):=fun x hx=>by
 obtain⟨y,_,rfl⟩:=List.mem_map.1 hx;intro c hc;simp only[aH,V.cells,kh,kf,or_false]at hc
 rcases hc with rfl | rfl | rfl<;>simp[rb1]
structure PlA (t u:Tb):Prop where
 ht:TbOk t
 hu:TbOk u
 t8:t.rows.length≤8
 u8:u.rows.length≤8
theorem iR{l:List Vl}{a:Nat}(h:a<l.length):atV l a=l[a]:=by simp[atV,h]
theorem fO{t u:Tb}(h:¬aF t=0):cE t u=aF t:=by unfold cE;rw[if_neg h]
theorem fN{t u:Tb}(h:aF t=0)(h2:¬aF u=0):cE t u=aF u:=by unfold cE;rw[if_pos h,if_neg h2]
theorem fM{t u:Tb}(h:aF t=0)(h2:aF u=0)(h3:(cG t.name u.name&&fY t.attrs u.attrs)=false):cE t u=1:=by unfold cE;rw[if_pos h,if_pos h2,h3];rfl
theorem plan_ok{t u:Tb}(h:aF t=0)(h2:aF u=0)(h3:(cG t.name u.name&&fY t.attrs u.attrs)=true):cE t u=0:=by unfold cE;rw[if_pos h,if_pos h2,h3];rfl
theorem cT{t u:Tb}(h:¬cE t u=0):iV t u = .nilS:=by unfold iV;rw[if_neg h]
theorem planV_yes{t u:Tb}(h:cE t u=0):iV t u=LCh false t.name (dD t u):=by unfold iV;rw[if_pos h]
theorem eqSs_len{a b:List ByteArray}(h:fY a b=true):a.length=b.length:=by
 unfold fY at h;rw[ke,decide_eq_true_iff]at h;exact h.1
theorem fB{rs:List Rw}{id:Int}(i:Nat):(fnd rs id i).2=true→(fnd rs id i).1<rs.length:=by
 fun_induction fnd rs id i with
 | case1 i hi he=>exact fun _=>hi
 | case2 i hi he ih=>exact ih
 | case3 i hi=>intro h;cases h
theorem gI{t:Tb}(h:aF t=0)(r:Rw)(hr:r∈t.rows):r.vals.length=t.attrs.length:=(tbC h).len r hr
theorem concat_eq(nm:ByteArray)(a b c:List Chg):bq [⟨false,a.map (aW nm)⟩,⟨false,b.map (aW nm)⟩,⟨false,c.map (aW nm)⟩]=(a++(b++c)).map (aW nm):=by
 simp[bq]
theorem plan_u(t u:Tb)(f g f' g':Bool)(A:PlA t u):aL Tryz.prog 15 [aD f g t,aD f' g' u] fun r=>r = .tup [iV t u,.int .i64 (cE t u)]:=by
 have c1:=bv t f g A.ht;have c2:=bv u f' g' A.hu;have c3:=stringsEq_u t.attrs u.attrs f f' A.ht.attrs;simp only[aD,LS,LR]at c1 c2 c3;by_cases h1:aF t=0
 case neg =>
  rw[cT (by rw[fO h1];exact h1),fO h1];refine sPx Tryz.func15 rfl rfl ?_;simp -dsimp[Tryz.f15,aJ,aD,LS,LR];refine cPx (c1) (by simp) ?_;simp -dsimp[h1]
 rw[h1]at c1;by_cases h2:aF u=0
 case neg =>
  rw[cT (by rw[fN h1 h2];exact h2),fN h1 h2];refine sPx Tryz.func15 rfl rfl ?_;simp -dsimp[Tryz.f15,aJ,aD,LS,LR];refine cPx (c1) (by simp) ?_;simp -dsimp[];refine cPx (c2) (by simp) ?_;simp -dsimp[h2]
 rw[h2]at c2
 cases hn:(t.name.toList == u.name.toList) with
 | false =>
  have he:=fM h1 h2 (by rw[cG,hn];rfl);rw[cT (by rw[he];decide),he];refine sPx Tryz.func15 rfl rfl ?_;simp -dsimp[Tryz.f15,aJ,aD,LS,LR];refine cPx (c1) (by simp) ?_;simp -dsimp[];refine cPx (c2) (by simp) ?_;simp -dsimp[hn]
 | true =>
 cases hs:fY t.attrs u.attrs with
 | false =>
  rw[hs]at c3;have he:=fM h1 h2 (by rw[hs];simp);rw[cT (by rw[he];decide),he];refine sPx Tryz.func15 rfl rfl ?_;simp -dsimp[Tryz.f15,aJ,aD,LS,LR];refine cPx (c1) (by simp) ?_;simp -dsimp[];refine cPx (c2) (by simp) ?_;simp -dsimp[hn];refine cPx (c3) (by simp) ?_;simp -dsimp[]
 | true =>
 rw[hs]at c3;have he:=plan_ok h1 h2 (by rw[cG,hn,hs];rfl);rw[planV_yes he,he];have hn':=eqSt_eq hn;obtain⟨w,hw⟩:∃w,w=t.attrs.length:=⟨_,rfl⟩
 have hwu:u.attrs.length=w:=by rw[hw];exact(eqSs_len hs).symm
 have hw16:w≤16:=by rw[hw];exact(tbC h1).wide
 have hvt:∀r∈t.rows,r.vals.length=w:=fun r hr=>by rw[hw];exact gI h1 r hr
 have hvu:∀r∈u.rows,r.vals.length=w:=fun r hr=>by rw[←hwu];exact gI h2 r hr
 have h8:=A.t8;have h8u:=A.u8
 have cf:=fun id=>dS u f' g' id (by omega)
 have cg:=fun id=>dS t f g id (by omega)
 obtain⟨nm,hnm⟩:∃nm,nm=t.name:=⟨_,rfl⟩
 have htB:∀n,rbB n (B.cells [.str t.name,.lst 1 f (t.attrs.map V.str),.lst 2 g (t.rows.map aC)]):=fun n c hc=>by
  simp only[kh,kf,or_false]at hc
  rcases hc with rfl | rfl | rfl<;>simp[rb,rb1]
 have huB:∀n,rbB n (B.cells [.str u.name,.lst 1 f' (u.attrs.map V.str),.lst 2 g' (u.rows.map aC)]):=fun n c hc=>by
  simp only[kh,kf,or_false]at hc
  rcases hc with rfl | rfl | rfl<;>simp[rb,rb1]
 have hdl:∀i,(cp u (t.rows.take i)).length≤1000:=fun i=>by
  have:=kE u (t.rows.take i);rw[lC]at this;omega
 have hcl:∀i,(chL u w (t.rows.take i)).length≤1000:=fun i=>by
  have:=jF u w (t.rows.take i);have h3:(t.rows.take i).length*w≤8*16:=Nat.mul_le_mul (by rw[lC];omega) hw16;omega
 have hil:∀i,(cV t (u.rows.take i)).length≤1000:=fun i=>by
  have:=jl t (u.rows.take i);rw[lC]at this;omega
 simp only[aD,LS,LR]at cf cg;rw[←hnm]
 have hpl:dD t u=cp u t.rows++(chL u w t.rows++cV t u.rows):=by unfold dD;rw[←hw]
 rw[hpl];obtain⟨D,hD⟩:∃D,D=cp u t.rows:=⟨_,rfl⟩;obtain⟨C0,hC0⟩:∃C0,C0=chL u w t.rows:=⟨_,rfl⟩;obtain⟨I,hI⟩:∃I,I=cV t u.rows:=⟨_,rfl⟩;rw[←hD,←hC0,←hI]
 have hrb4:∀(l m:List Chg),∀bl∈[B.cells [.str t.name,.lst 1 f (t.attrs.map V.str),.lst 2 g (t.rows.map aC)],B.cells [.str u.name,.lst 1 f' (u.attrs.map V.str),.lst 2 g' (u.rows.map aC)],B.buf 45 11 (l.map (aW nm)) false,B.buf 45 11 (m.map (aW nm)) false],rbB 4 bl:=fun l m bl hbl=>by
  simp only[kh,kf,or_false]at hbl
  rcases hbl with rfl | rfl | rfl | rfl
  ·exact htB _
  ·exact huB _
  ·exact fI _ _ _ _ _
  ·exact fI _ _ _ _ _
 refine sPx Tryz.func15 rfl rfl ?_;simp -dsimp[Tryz.f15,aJ,aD,LS,LR];refine cPx (c1) (by simp) ?_;simp -dsimp[];refine cPx (c2) (by simp) ?_;simp -dsimp[hn];refine cPx (c3) (by simp) ?_;simp -dsimp[];refine aO (W_own 45 11 [8] (by simp) (W_own 45 11 [9] (by simp) (W_loopM 107 0x7ffffffffffffff00000003f300 (by simp[mB]<;>rfl) (σ:=Nat) (fun i=>i≤t.rows.length) (fun i=>t.rows.length-i) (fun i=>[(48,.int .i64 i),(8,.buf 2 0 (cp u (t.rows.take i)).length (cp u (t.rows.take i)).length),(9,.buf 3 0 (chL u w (t.rows.take i)).length (chL u w (t.rows.take i)).length)]) (fun i=>[B.cells [.str t.name,.lst 1 f (t.attrs.map V.str),.lst 2 g (t.rows.map aC)],B.cells [.str u.name,.lst 1 f' (u.attrs.map V.str),.lst 2 g' (u.rows.map aC)],B.buf 45 11 ((cp u (t.rows.take i)).map (aW nm)) false,B.buf 45 11 ((chL u w (t.rows.take i)).map (aW nm)) false]) 0 (by omega) (by simp[cp,chL]) (by simp[cp,chL]) (by simp) ?_)))
 ·intro i hi N Q hN hQ;by_cases hb:i<t.rows.length
  ·have hst:=delL_snoc u hb;have hct:=chL_snoc u w hb;have hd1:=hdl i;have hc1:=hcl i;have hrl:=hvt _ (kZ hb);obtain⟨r,hre⟩:∃r,r=t.rows[i]:=⟨_,rfl⟩;rw[←hre]at hst hct hrl;have cfr:=cf r.id;obtain⟨dl,hdle⟩:∃dl,dl=cp u (t.rows.take i):=⟨_,rfl⟩;obtain⟨cl,hcle⟩:∃cl,cl=chL u w (t.rows.take i):=⟨_,rfl⟩;rw[←hdle]at hst hd1 ⊢;rw[←hcle]at hct hc1 ⊢
   cases hin:inT u r.id with
   | false =>
    have hin':(fnd u.rows r.id 0).2=false:=hin;rw[hin']at cfr;rw[hin,if_neg (by simp)]at hst
    have hch:chR u w r=[]:=by unfold chR;rw[hin];rfl
    rw[hch,kg]at hct;have hcp:=copied_p r (by omega);refine wx ?_;simp -dsimp[hb,hre.symm,aC,LV];refine cPx (cfr) (by simp) ?_;simp -dsimp[];refine aO (aX tok mixed [7] [] [(aC r,[])] (by kernel_rfl) fun C K hC hK=>?_);simp -implicitDefEqProofs [aC,LV,hnm.symm,capG dl.length (by omega),wrapN dl.length (by omega)];refine⟨hC _ _ _ _ (aQ hcp (by simp)),hK _ _ ?_⟩;simp -dsimp[aT i (by omega)]
    refine hN (i+1) _ _ (by omega) (by omega) (by simp[hst,hct,hnm]) ⟨[B.cells [.int .i64 r.id,.lst 3 false (r.vals.map aH)]],by simp[hst,hct,aW,aC,LV,vl0,hnm]⟩ (by simp) (by
     intro bl hbl;simp only[kh,kf,or_false]at hbl
     rcases hbl with rfl | rfl | rfl | rfl
     ·exact htB _
     ·exact huB _
     ·exact fI _ _ _ _ _
     ·exact fI _ _ _ _ _)
   | true =>
    have hin':(fnd u.rows r.id 0).2=true:=hin;have hkl:=fB 0 hin';rw[hin']at cfr;rw[hin,if_pos rfl,kg]at hst;have hxm:rwG u.rows (fnd u.rows r.id 0).1∈u.rows:=(jq 0 hin').2
    have hch:chR u w r=chP r.id (rwG u.rows (fnd u.rows r.id 0).1).vals w r.vals:=by unfold chR;rw[hin];rfl
    rw[hch]at hct;obtain⟨k,hk⟩:∃k,k=(fnd u.rows r.id 0).1:=⟨_,rfl⟩;rw[←hk]at cfr hct hkl hxm;have hxl:=hvu _ hxm
    have hxe:u.rows[k]=rwG u.rows k:=by simp[rwG,hkl]
    obtain⟨x,hx⟩:∃x,x=rwG u.rows k:=⟨_,rfl⟩;rw[←hx]at hct hxl hxe;have hcn:=jE r.id x.vals r.vals;refine wx ?_;simp -dsimp[hb,hre.symm,aC,LV];refine cPx (cfr) (by simp) ?_;simp -dsimp[];refine(wc_of (copied_o _ r (by omega)) (fun r H' h=>h)).mono ?_;rintro r' H' ⟨rfl,rfl⟩;simp -dsimp[hkl,hxe,cpB,aC,LV];refine aO (W_loopM 106 0x3ffffffc0000000000000030200 (by simp[mB]<;>rfl) (σ:=Nat) (fun a=>a≤w) (fun a=>w-a) (fun a=>[(78,.int .i64 a),(9,.buf 3 0 (cl++chP r.id x.vals a r.vals).length (cl++chP r.id x.vals a r.vals).length)]) (fun a=>[B.cells [.str t.name,.lst 1 f (t.attrs.map V.str),.lst 2 g (t.rows.map aC)],B.cells [.str u.name,.lst 1 f' (u.attrs.map V.str),.lst 2 g' (u.rows.map aC)],B.buf 45 11 (dl.map (aW nm)) false,B.buf 45 11 ((cl++chP r.id x.vals a r.vals).map (aW nm)) false,B.cells [.int .i64 r.id,.lst 3 false (r.vals.map aH)],B.cells [.int .i64 r.id,.lst 3 false (r.vals.map aH)],B.cells [.int .i64 r.id,.buf 7 0 r.vals.length r.vals.length],B.buf 43 3 ((ap x.vals a r.vals).map aH) false,B.cells [.int .i64 r.id,.buf 7 0 r.vals.length r.vals.length]]) 0 (by omega) (by simp[chP]) (by simp[chP,ap,LV]) (by simp) ?_);intro a ha N2 Q2 hN2 hQ2
    have hrb9:∀(l m:List Chg) (vs:List Vl),∀bl∈[B.cells [.str t.name,.lst 1 f (t.attrs.map V.str),.lst 2 g (t.rows.map aC)],B.cells [.str u.name,.lst 1 f' (u.attrs.map V.str),.lst 2 g' (u.rows.map aC)],B.buf 45 11 (l.map (aW nm)) false,B.buf 45 11 (m.map (aW nm)) false,B.cells [.int .i64 r.id,.lst 3 false (r.vals.map aH)],B.cells [.int .i64 r.id,.lst 3 false (r.vals.map aH)],B.cells [.int .i64 r.id,.buf 7 0 r.vals.length r.vals.length],B.buf 43 3 (vs.map aH) false,B.cells [.int .i64 r.id,.buf 7 0 r.vals.length r.vals.length]],rbB 9 bl:=fun l m vs bl hbl=>by
     simp only[kh,kf,or_false]at hbl
     rcases hbl with rfl | rfl | rfl | rfl | rfl | rfl | rfl | rfl | rfl
     ·exact htB _
     ·exact huB _
     ·exact fI _ _ _ _ _
     ·exact fI _ _ _ _ _
     ·simp[rbB,rb,rb1]
     ·simp[rbB,rb,rb1]
     ·simp[rbB,rb,rb1]
     ·exact LVb_rb _ _ _ _
     ·simp[rbB,rb,rb1]
    by_cases hab:a<w
    ·have hnow:=dF x.vals r.vals a;have hcn1:=hcn a;have hcs:chP r.id x.vals (a+1) r.vals=chP r.id x.vals a r.vals++(if atV (ap x.vals a r.vals) a=atV x.vals a then [] else [⟨4,⟨r.id,ap x.vals a r.vals⟩,a,atV x.vals a⟩]):=rfl;have hns:ap x.vals (a+1) r.vals=(ap x.vals a r.vals).set a (atV x.vals a):=rfl;obtain⟨now,hnowe⟩:∃now,now=ap x.vals a r.vals:=⟨_,rfl⟩;obtain⟨cs,hcse⟩:∃cs,cs=cl++chP r.id x.vals a r.vals:=⟨_,rfl⟩
     have hcsl:cs.length≤2000:=by rw[hcse,kq];omega
     rw[←hnowe]at hcs hns hnow ⊢;rw[←hcse]
     have hcs':cl++chP r.id x.vals (a+1) r.vals=cs++(if atV now a=atV x.vals a then [] else [⟨4,⟨r.id,now⟩,a,atV x.vals a⟩]):=by rw[hcs,hcse,kz]
     have ha1:a<now.length:=by omega
     have ha2:a<x.vals.length:=by omega
     rw[iR ha1,iR ha2]at hcs';rw[iR ha2]at hns;obtain⟨v,hv⟩:∃v,v=x.vals[a]:=⟨_,rfl⟩;obtain⟨o,ho⟩:∃o,o=now[a]:=⟨_,rfl⟩;rw[←hv]at hcs' hns;rw[←ho]at hcs'
     have hlen:(List.map aH now).length=r.vals.length:=by rw[lG,hnow]
     have e1:=fun H=>eqVl9 H o v
     have hna:now[a]?=some o:=by rw[ho];exact kU ha1
     by_cases hq:o=v
     ·rw[if_pos hq,kg]at hcs';rw[hv,←hv,←hq,ho,mU]at hns;refine wx ?_;simp -dsimp[hab,ha2,hv.symm,aH,show a<r.vals.length by omega];refine .inr ⟨aU (by kernel_rfl),?_⟩;simp -dsimp[hnow,hna,aH,e1,show decide (o=v)=true by simp[hq],aT a (by omega)];refine hN2 (a+1) _ _ (by omega) (by omega) (by simp[hcs']) ⟨[B.cells [.int .i64 v.k,.int .i64 v.n,.str v.s]],by simp[hcs',hns]⟩ (by simp) (hrb9 _ _ _)
     ·rw[if_neg hq]at hcs';obtain⟨nx,hnx⟩:∃nx,nx=now.set a v:=⟨_,rfl⟩
      have hset:(List.map aH now).set a (aH v)=List.map aH nx:=by rw[hnx,nL]
      rw[←hnx]at hns;refine wx ?_;simp -dsimp[hab,ha2,hv.symm,aH,show a<r.vals.length by omega];refine .inr ⟨aU (by kernel_rfl),?_⟩;simp -dsimp[hnow,hna,aH,e1,show decide (o=v)=false by simp[hq]];have cpf:=copied_f [B.cells [.str t.name,.lst 1 f (t.attrs.map V.str),.lst 2 g (t.rows.map aC)],B.cells [.str u.name,.lst 1 f' (u.attrs.map V.str),.lst 2 g' (u.rows.map aC)],B.buf 45 11 (dl.map (aW nm)) false,B.buf 45 11 (cs.map (aW nm)) false,B.cells [.int .i64 r.id,.lst 3 false (r.vals.map aH)],B.cells [.int .i64 r.id,.lst 3 false (r.vals.map aH)],B.cells [.int .i64 r.id,.buf 7 0 r.vals.length r.vals.length],B.buf 43 3 (now.map aH) false,B.cells [.int .i64 r.id,.buf 7 0 r.vals.length r.vals.length],B.cells [.int .i64 v.k,.int .i64 v.n,.str v.s]] 7 r.id now rfl (by omega);rw[hnow]at cpf;simp only[cpB,lJ,mO,hnow,mL,lQ]at cpf;refine aO (aX tok mixed [4,9] [(2,[1]),(6,[0])] [(.agg [.int .i64 r.id,.lst 3 false (now.map aH)],[B.cells [.str t.name,.lst 1 f (t.attrs.map V.str),.lst 2 g (t.rows.map aC)],B.cells [.str u.name,.lst 1 f' (u.attrs.map V.str),.lst 2 g' (u.rows.map aC)],B.buf 45 11 (dl.map (aW nm)) false,B.buf 45 11 (cs.map (aW nm)) false,B.cells [.int .i64 r.id,.lst 3 false (r.vals.map aH)],B.cells [.int .i64 r.id,.lst 3 false (r.vals.map aH)],B.cells [.int .i64 r.id,.buf 7 0 r.vals.length r.vals.length],B.buf 43 3 (now.map aH) false,B.cells [.int .i64 r.id,.buf 7 0 r.vals.length r.vals.length],B.cells [.int .i64 v.k,.int .i64 v.n,.str v.s],B.cells [.int .i64 r.id,.buf 7 0 r.vals.length r.vals.length],B.cells [.int .i64 r.id,.buf 12 0 r.vals.length r.vals.length],B.buf 43 3 (now.map aH) true])] (by kernel_rfl) fun C K hC hK=>?_);simp -implicitDefEqProofs [aH,capG cs.length (by omega),wrapN cs.length (by omega)];refine⟨hC _ _ _ _ cpf,hK _ _ ?_⟩;simp -dsimp[hnow,hna,aH,aT a (by omega),show a<r.vals.length by omega];refine hN2 (a+1) _ _ (by omega) (by omega) (by simp[hcs']) ⟨[B.cells [.int .i64 v.k,.int .i64 v.n,.str v.s],B.cells [.int .i64 r.id,.buf 7 0 r.vals.length r.vals.length],B.cells [.int .i64 r.id,.buf 12 0 r.vals.length r.vals.length],B.buf 43 3 (now.map aH) true],by simp[hcs',hns,←hset,aH,aW,LV,hnm,av,dM]⟩ (by simp) (hrb9 _ _ _)
    ·obtain rfl:a=w:=by omega
     refine wx ?_;simp -dsimp[show ¬(a<x.vals.length) by omega];refine hQ2 _ _ _ ?_;simp -dsimp[aT i (by omega)];refine hN (i+1) _ _ (by omega) (by omega) (by simp[hst,hct]) ⟨[B.cells [.int .i64 r.id,.lst 3 false (r.vals.map aH)],B.cells [.int .i64 r.id,.lst 3 false (r.vals.map aH)],B.cells [.int .i64 r.id,.buf 7 0 r.vals.length r.vals.length],B.buf 43 3 ((ap x.vals a r.vals).map aH) false,B.cells [.int .i64 r.id,.buf 7 0 r.vals.length r.vals.length]],by simp[hst,hct]⟩ (by simp) (hrb4 _ _)
  ·obtain rfl:i=t.rows.length:=by omega
   rw[ku];have hDl:=hdl t.rows.length;have hCl:=hcl t.rows.length;have hIl:=hil u.rows.length;rw[ku]at hDl hCl hIl;rw[←hD]at hDl ⊢;rw[←hC0]at hCl ⊢;refine wx ?_;simp -dsimp[hb];refine hQ _ _ _ ?_;simp -dsimp[];refine aO (W_own 45 11 [10] (by simp) (W_loopM 132 0xfffffc000000000000000000000380400 (by simp[mB]<;>rfl) (σ:=Nat) (fun i=>i≤u.rows.length) (fun i=>u.rows.length-i) (fun i=>[(110,.int .i64 i),(10,.buf 4 0 (cV t (u.rows.take i)).length (cV t (u.rows.take i)).length)]) (fun i=>[B.cells [.str t.name,.lst 1 f (t.attrs.map V.str),.lst 2 g (t.rows.map aC)],B.cells [.str u.name,.lst 1 f' (u.attrs.map V.str),.lst 2 g' (u.rows.map aC)],B.buf 45 11 (D.map (aW nm)) false,B.buf 45 11 (C0.map (aW nm)) false,B.buf 45 11 ((cV t (u.rows.take i)).map (aW nm)) false]) 0 (by omega) (by simp[cV]) (by simp[cV]) (by simp) ?_));intro i hi N2 Q2 hN2 hQ2
   have hrb5:∀(l m k:List Chg),∀bl∈[B.cells [.str t.name,.lst 1 f (t.attrs.map V.str),.lst 2 g (t.rows.map aC)],B.cells [.str u.name,.lst 1 f' (u.attrs.map V.str),.lst 2 g' (u.rows.map aC)],B.buf 45 11 (l.map (aW nm)) false,B.buf 45 11 (m.map (aW nm)) false,B.buf 45 11 (k.map (aW nm)) false],rbB 5 bl:=fun l m k bl hbl=>by
    simp only[kh,kf,or_false]at hbl
    rcases hbl with rfl | rfl | rfl | rfl | rfl
    ·exact htB _
    ·exact huB _
    ·exact fI _ _ _ _ _
    ·exact fI _ _ _ _ _
    ·exact fI _ _ _ _ _
   by_cases hb2:i<u.rows.length
   ·have hst:=insL_snoc t hb2;have hi1:=hil i;have hrl:=hvu _ (kZ hb2);obtain⟨r,hre⟩:∃r,r=u.rows[i]:=⟨_,rfl⟩;rw[←hre]at hst hrl;have cgr:=cg r.id;obtain⟨k,hk⟩:∃k,k=(fnd t.rows r.id 0).1:=⟨_,rfl⟩;rw[←hk]at cgr;obtain⟨il,hile⟩:∃il,il=cV t (u.rows.take i):=⟨_,rfl⟩;rw[←hile]at hst hi1 ⊢
    cases hin:inT t r.id with
    | false =>
     have hin':(fnd t.rows r.id 0).2=false:=hin;rw[hin']at cgr;rw[hin,if_neg (by simp)]at hst;have hcp:=copied_p r (by omega);refine wx ?_;simp -dsimp[hb2,hre.symm,aC,LV];refine cPx (cgr) (by simp) ?_;simp -dsimp[];refine aO (aX tok mixed [7] [] [(aC r,[])] (by kernel_rfl) fun C K hC hK=>?_);simp -implicitDefEqProofs [aC,LV,capG il.length (by omega),wrapN il.length (by omega)];refine⟨hC _ _ _ _ (aQ hcp (by simp)),hK _ _ ?_⟩;simp -dsimp[aT i (by omega)];refine hN2 (i+1) _ _ (by omega) (by omega) (by simp[hst]) ⟨[B.cells [.int .i64 r.id,.lst 3 false (r.vals.map aH)]],by simp[hst,aW,aC,LV,vl0,hnm]⟩ (by simp) (hrb5 _ _ _)
    | true =>
     have hin':(fnd t.rows r.id 0).2=true:=hin;rw[hin']at cgr;rw[hin,if_pos rfl,kg]at hst;refine wx ?_;simp -dsimp[hb2,hre.symm,aC,LV];refine cPx (cgr) (by simp) ?_;simp -dsimp[aT i (by omega)];refine hN2 (i+1) _ _ (by omega) (by omega) (by simp[hst]) ⟨[B.cells [.int .i64 r.id,.lst 3 false (r.vals.map aH)]],by simp[hst]⟩ (by simp) (hrb5 _ _ _)
   ·obtain rfl:i=u.rows.length:=by omega
    rw[ku];rw[←hI]at hIl ⊢
    have hcc:=concat_G [⟨false,D.map (aW nm)⟩,⟨false,C0.map (aW nm)⟩,⟨false,I.map (aW nm)⟩] true (fun l hl x hx=>by
     simp only[kh,kf,or_false]at hl
     rcases hl with rfl | rfl | rfl<;>(obtain⟨y,_,rfl⟩:=List.mem_map.1 hx;exact⟨encChg_pure _ _,encChg_oneV _ _,chg_cells _ _⟩)) (by simp) (by rw[concat_eq];simp;omega)
    rw[concat_eq]at hcc;refine W_frz 2 [8] rfl (by simp) ?_;refine W_frz 3 [9] rfl (by simp) ?_;refine W_frz 4 [10] rfl (by simp) ?_;simp only[lD,lS,co]at hcc;refine wx ?_;simp -dsimp[hb2];refine hQ2 _ _ _ ?_;simp -dsimp[];refine cPx (hcc) (by simp) ?_;simp -dsimp[LCh];rintro x (⟨y,_,rfl⟩ | ⟨y,_,rfl⟩ | ⟨y,_,rfl⟩)<;>exact encChg_pure _ _
theorem with_t(t:Tb)(rs:List Rw)(f g h:Bool)(ha:t.attrs.length≤1000000)(hr:rs.length≤1000000)(hv:∀r∈rs,r.vals.length≤1000000):aL Tryz.prog 108 [aD f g t,LR h rs] fun x=>x=aD false false ⟨t.name,t.attrs,rs⟩:=by
 have cc:=jD t.attrs f ha;simp only[LS]at cc;refine sPx Tryz.func108 rfl rfl ?_;simp -dsimp[Tryz.f108,aJ,aD,LS,LR];refine aO (aX tok mixed [6,7] [(0,[1]),(1,[1]),(2,[1]),(3,[1]),(4,[1]),(5,[1])] [(.lst 1 false (t.attrs.map V.str),[])] (by kernel_rfl) fun C K hC hK=>?_);simp -implicitDefEqProofs [];refine⟨⟨hC _ _ _ _ (aQ cc (by simp)),hC _ _ _ _ (aQ cc (by simp))⟩,hK _ _ ?_⟩;simp -dsimp[];refine aO (dW 41 2 [] 2 [2] rfl (cQ _ _) (by simp) (W_loopM 28 0xfff3080 (by simp[mB]<;>rfl) (σ:=Nat) (fun i=>i≤rs.length) (fun i=>rs.length-i) (fun i=>[(16,.int .i64 i)]) (fun i=>[B.cells [.str t.name,.lst 1 f (t.attrs.map V.str),.lst 2 g (t.rows.map aC)],B.cells [.str kV,.nilS,.nilS],B.cells [.str t.name,.lst 1 false (t.attrs.map V.str),.buf 3 0 i i],B.buf 41 2 ((rs.take i).map aC) false]) 0 (by omega) (by simp) (by simp) (by simp) ?_));intro i hi N Q hN hQ
 have hli:(rs.take i).length=i:=by simp;omega
 by_cases hb:i<rs.length
 ·have hst:rs.take (i+1)=rs.take i++[rs[i]]:=kn hb;have hc:=kG rs[i] (hv _ (kZ hb));obtain⟨l,hl⟩:∃l,l=rs.take i:=⟨_,rfl⟩;rw[←hl]at hst hli ⊢;refine wx ?_;simp -dsimp[hb];refine aO (aX tok mixed [5,7] [] [(aC rs[i],[])] (by kernel_rfl) fun C K hC hK=>?_);simp -implicitDefEqProofs [hb,aC,LV,hli,kO i (by omega)];refine⟨hC _ _ _ _ (aQ hc (by simp)),hK _ _ ?_⟩;simp -dsimp[aT i (by omega)];refine hN (i+1) _ _ (by omega) (by omega) ?_ ⟨[B.cells [.int .i64 rs[i].id,.lst 3 false (rs[i].vals.map aH)]],?_⟩ ?_ ?_<;>simp[or_imp,forall_and,L1,ct,hst,aC,LV]
 ·obtain rfl:i=rs.length:=by omega
  rw[ku];refine gD 3 [] 2 [2] rfl rfl (by simp) (by simp) ?_;refine wx ?_;simp -dsimp[hb];refine hQ _ _ _ ?_;simp -dsimp[];simp only[aD,LS,LR]
theorem cK{rs:List Rw}{i:Nat}(h:i<rs.length):rwG rs i=rs[i]:=by simp[rwG,h]
theorem del_ix{rs:List Rw}(hs:Srt rs){i:Nat}(h:i<rs.length):cX rs rs[i].id=rs.take i++rs.drop (i+1):=by
 have hp:=List.pairwise_iff_getElem.1 hs
 have h1:∀r∈rs.take i,r.id<rs[i].id:=fun r hr=>by
  obtain⟨j,hj,rfl⟩:=mq hr;rw[lC]at hj;rw[List.getElem_take];exact hp j i (by omega) h (by omega)
 have h2:∀r∈rs.drop (i+1),rs[i].id<r.id:=fun r hr=>by
  obtain⟨j,hj,rfl⟩:=mq hr;rw[lr]at hj;rw[List.getElem_drop];exact hp i (i+1+j) h (by omega) (by omega)
 obtain⟨x,hx⟩:∃x,x=rs[i]:=⟨_,rfl⟩
 have e:rs=rs.take i++x::rs.drop (i+1):=by rw[hx,←km h,ld]
 rw[←hx]at h1 h2 ⊢;unfold cX;have e2:=congrArg (List.filter fun r:Rw=>!decide (r.id=x.id)) e;rw[e2,mQ,mi,if_neg (by simp)];congr 1
 ·refine List.filter_eq_self.2 fun r hr=>?_
  have:=h1 r hr;simp;omega
 ·refine List.filter_eq_self.2 fun r hr=>?_
  have:=h2 r hr;simp;omega
def zTb:V:=.agg [.str kV,.nilS,.nilS]
def delV(t:Tb)(id:Int):V:=if inT t id=true then .tup [aD false false (wrT t (cX t.rows id)),.int .i64 0] else .tup [zTb,.int .i64 4]
theorem delete_u(t:Tb)(f g:Bool)(id:Int)(hv:aF t=0)(hk:TbOk t):aL Tryz.prog 63 [aD f g t,.int .i64 id] fun r=>r=delV t id:=by
 have c1:=bv t f g hk;rw[hv]at c1;have hr:=bn hv;have hvr:=am hv;have hw:=(tbC hv).wide;have cf:=dS t f g id (by omega);simp only[aD,LS,LR]at c1 cf;unfold delV inT
 cases hin:(fnd t.rows id 0).2 with
 | false =>
  rw[hin]at cf;rw[if_neg (by simp)];refine sPx Tryz.func63 rfl rfl ?_;simp -dsimp[Tryz.f63,aJ,aD,LS,LR,zTb];refine cPx (c1) (by simp) ?_;simp -dsimp[];refine cPx (cf) (by simp) ?_;simp -dsimp[];rfl
 | true =>
  have hkl:=fB 0 hin;obtain⟨hid,hmem⟩:=jq 0 hin;rw[hin]at cf;rw[if_pos rfl];obtain⟨k,hke⟩:∃k,k=(fnd t.rows id 0).1:=⟨_,rfl⟩;rw[←hke]at cf hkl hid;rw[cK hkl]at hid;have hdx:=del_ix (bH hv) hkl;rw[hid]at hdx;have hdl:(cX t.rows id).length≤1000:=lk (ly _ _) hr
  have cw:=with_t t (cX t.rows id) f g false hk.attrs (by omega) (fun r hr=>by
   have:=(hvr r (eG.1 hr).1).2.1
   omega)
  obtain⟨D,hD⟩:∃D,D=cX t.rows id:=⟨_,rfl⟩;rw[←hD]at cw hdx ⊢;simp only[aD,LS,LR]at cw;refine sPx Tryz.func63 rfl rfl ?_;simp -dsimp[Tryz.f63,aJ,aD,LS,LR,wrT];refine cPx (c1) (by simp) ?_;simp -dsimp[];refine cPx (cf) (by simp) ?_;simp -dsimp[]
  have cc:=concat_R [⟨g&&(k == t.rows.length),(t.rows.take k).map aC⟩,⟨g,(t.rows.drop (k+1)).map aC⟩] true (fun l hl x hx=>by
   simp only[kh,kf,or_false]at hl
   rcases hl with rfl | rfl<;>(obtain⟨y,_,rfl⟩:=List.mem_map.1 hx;exact⟨encRw_pure _,encRw_oneV _,rfl⟩)) (by simp) (by simp[bj];omega)
  have e3:bj [⟨g&&(k == t.rows.length),(t.rows.take k).map aC⟩,⟨g,(t.rows.drop (k+1)).map aC⟩]=D.map aC:=by rw[hdx];simp[bj]
  rw[e3]at cc;simp only[lD,lS,cm,mZ,List.map_drop]at cc;have htk:mj t.rows.length (t.rows.map aC)=t.rows.map aC:=lV (by simp);refine aO (aX tok mixed [13] [] [(.lst 2 false (D.map aC),[]),(.agg [.str t.name,.lst 1 false (t.attrs.map V.str),.lst 2 false (D.map aC)],[])] (by kernel_rfl) fun C K hC hK=>?_);simp -implicitDefEqProofs [hkl,aT k (by omega),show k≤t.rows.length by omega,show(0:Int)≤(k:Int)+1 by omega,show k+1≤t.rows.length by omega,htk];refine⟨⟨hC _ _ _ _ (aQ cc ?_),hC _ _ _ _ (aQ cw (by simp))⟩,hK _ _ ?_⟩
  ·intro x hx;rw[mR]at hx;subst hx
   refine .lst _ _ _ fun y hy=>?_
   simp only[kh,kf,or_false]at hy
   rcases hy with rfl | rfl
   ·rw[←mZ];exact LR_pure _ _
   ·rw[←List.map_drop];exact LR_pure _ _
  simp -dsimp[];rfl
def bsR(rs:List Rw)(id:Int)(lo hi:Nat):Nat:=if h:lo<hi then(if(rwG rs ((lo+hi) / 2)).id<id then bsR rs id ((lo+hi) / 2+1) hi else bsR rs id lo ((lo+hi) / 2)) else lo
termination_by hi-lo
theorem gp{rs:List Rw}(hs:Srt rs)(id:Int):∀(d lo hi:Nat),hi-lo≤d→lo≤hi→hi≤rs.length→(∀j,∀h:j<rs.length,j<lo→rs[j].id<id)→(∀j,∀h:j<rs.length,hi≤j→¬rs[j].id<id)→
  lo≤bsR rs id lo hi∧bsR rs id lo hi≤hi∧(∀j,∀h:j<rs.length,j<bsR rs id lo hi→rs[j].id<id)∧(∀j,∀h:j<rs.length,bsR rs id lo hi≤j→¬rs[j].id<id)
 | d,lo,hi,hd,h1,h2,h3,h4=>by
  have hp:=List.pairwise_iff_getElem.1 hs;rw[bsR];split
  ·rename_i hb
   cases d with
   | zero=>omega
   | succ d =>
   obtain⟨m,hm⟩:∃m,m=(lo+hi) / 2:=⟨_,rfl⟩;rw[←hm]
   have hml:m<rs.length:=by omega
   have hgm:rwG rs m=rs[m]:=by simp[rwG,hml]
   rw[hgm];split
   ·rename_i hq
    obtain⟨a,b,c,e⟩:=gp hs id d (m+1) hi (by omega) (by omega) h2 (fun j hj hjm=>by
     rcases lh j m with q | q
     ·have:=hp j m hj hml q;omega
     ·have:j=m:=by omega
      subst this;exact hq) h4
    exact⟨by omega,b,c,e⟩
   ·rename_i hq
    obtain⟨a,b,c,e⟩:=gp hs id d lo m (by omega) (by omega) (by omega) h3 (fun j hj hjm=>by
     rcases lh m j with q | q
     ·have:=hp m j hml hj q;omega
     ·have:j=m:=by omega
      subst this;exact hq)
    exact⟨a,by omega,c,e⟩
  ·rename_i hb
   have:hi=lo:=by omega
   subst this;exact⟨kY _,kY _,h3,h4⟩
def plR(rs:List Rw)(id:Int):Nat:=bsR rs id 0 rs.length
theorem plR_le{rs:List Rw}(hs:Srt rs)(id:Int):plR rs id≤rs.length:=(gp hs id rs.length 0 rs.length (by omega) (by omega) (kY _) (fun j _ h=>absurd h (by omega)) (fun j h1 h2=>absurd h1 (by omega))).2.1
theorem ins_ix{rs:List Rw}(hs:Srt rs){r:Rw}(hn:∀s∈rs,¬s.id=r.id):dk rs r=rs.take (plR rs r.id)++r::rs.drop (plR rs r.id):=by
 obtain⟨_,hle,h3,h4⟩:=gp hs r.id rs.length 0 rs.length (by omega) (by omega) (kY _) (fun j _ h=>absurd h (by omega)) (fun j h1 h2=>absurd h1 (by omega));obtain⟨p,hp⟩:∃p,p=plR rs r.id:=⟨_,rfl⟩;have hp':bsR rs r.id 0 rs.length=p:=hp.symm;rw[hp']at hle h3 h4;rw[←hp]
 have h1:∀s∈rs.take p,s.id<r.id:=fun s hs=>by
  obtain⟨j,hj,rfl⟩:=mq hs;rw[lC]at hj;rw[List.getElem_take];exact h3 j (by omega) (by omega)
 have h2:∀s∈rs.drop p,r.id<s.id:=fun s hs=>by
  have hne:=hn s (lW hs);obtain⟨j,hj,rfl⟩:=mq hs;rw[lr]at hj;rw[List.getElem_drop]at hne ⊢;have:=h4 (p+j) (by omega) (by omega);omega
 unfold dk;have e:=(ld p rs).symm
 have ea:rs.filter (fun s=>decide (s.id<r.id))=rs.take p:=by
  rw[congrArg (List.filter fun s:Rw=>decide (s.id<r.id)) e,mQ,List.filter_eq_self.2 (fun s hs=>by simpa using h1 s hs),List.filter_eq_nil_iff.2 (fun s hs=>by have:=h2 s hs;simp;omega),kg]
 have eb:rs.filter (fun s=>decide (r.id<s.id))=rs.drop p:=by
  rw[congrArg (List.filter fun s:Rw=>decide (r.id<s.id)) e,mQ,List.filter_eq_nil_iff.2 (fun s hs=>by have:=h1 s hs;simp;omega),List.filter_eq_self.2 (fun s hs=>by simpa using h2 s hs),lQ]
 rw[ea,eb]
def ig(a b:Int):Int:=if a<b then -1 else if b<a then 1 else 0
theorem insClo(r:Rw)(id:Int):aL Tryz.prog 110 [aC r,.int .i64 id] fun x=>x = .int .i64 (ig r.id id):=by
 unfold ig;by_cases h1:r.id<id
 ·rw[if_pos h1];refine sPx Tryz.func110 rfl rfl ?_;simp -dsimp[Tryz.f110,aJ,aC,LV,h1]
 ·by_cases h2:id<r.id
  ·rw[if_neg h1,if_pos h2];refine sPx Tryz.func110 rfl rfl ?_;simp -dsimp[Tryz.f110,aJ,aC,LV,h1,h2]
  ·rw[if_neg h1,if_neg h2];refine sPx Tryz.func110 rfl rfl ?_;simp -dsimp[Tryz.f110,aJ,aC,LV,h1,h2]
theorem shr1R(lo hi:Nat)(h:lo+hi≤4000000):IntKind.i64.wrap ((IntKind.u64.wrap ((lo+hi:Nat):Int)).fdiv (2^min 1 IntKind.u64.bits))=(((lo+hi) / 2:Nat):Int):=by
 have h1:(2:Int)^min 1 IntKind.u64.bits=2:=rfl
 have h2:IntKind.u64.wrap ((lo+hi:Nat):Int)=((lo+hi:Nat):Int):=by rw[IntKind.wrap_u64];omega
 rw[h2,h1,Int.fdiv_eq_ediv_of_nonneg _ (by omega),wrap64 (by omega) (by omega)];omega
def bsT(rs:List Rw)(id:Int):Bool:=decide (plR rs id<rs.length)&&(ig (rwG rs (plR rs id)).id id == 0)
theorem bsearchR(l:List Rw)(x:Int)(f:Bool)(hl:l.length≤1000000):aL Tryz.prog 109 [LR f l,.int .i64 x,.fn 110 []] fun r=>r = .tup [.int .i64 (plR l x),.bool (bsT l x)]:=by
 obtain⟨E,hE⟩:∃E,E=bsR l x 0 l.length:=⟨_,rfl⟩
 have hF:bsT l x=(decide (E<l.length)&&(ig (rwG l E).id x == 0)):=by rw[hE];rfl
 have hP:plR l x=E:=hE.symm;rw[hP]
 have hlt:∀a b:Int,ig a b<0↔a<b:=fun a b=>by unfold ig;split<;>(try split)<;>omega
 refine sPx Tryz.func109 rfl rfl ?_;simp -dsimp[Tryz.f109,aJ,LR];refine aO (W_loopM 35 0x7ffff8e00 (by simp[mB]<;>rfl) (σ:=Nat×Nat) (fun p=>p.1≤p.2∧p.2≤l.length∧bsR l x p.1 p.2=E) (fun p=>p.2-p.1) (fun p=>[(9,.int .i64 p.1),(10,.int .i64 p.2)]) (fun _=>[]) (0,l.length) ⟨by omega,by omega,hE.symm⟩ (by simp) rfl (by simp) ?_);rintro⟨lo,hi⟩ ⟨h1,h2,hx⟩ N Q hN hQ;simp only at h1 h2 hx;by_cases hb:lo<hi
 ·have hw:IntKind.i64.wrap ((lo:Int)+(hi:Int))=((lo+hi:Nat):Int):=by rw[wrap64 (by omega) (by omega)];rfl
  have hs:=shr1R lo hi (by omega);rw[bsR,dif_pos hb]at hx;obtain⟨m,em⟩:∃m,m=(lo+hi) / 2:=⟨_,rfl⟩;rw[←em]at hs hx;obtain⟨sm,esm⟩:∃sm,sm=lo+hi:=⟨_,rfl⟩;rw[←esm]at hs hw em
  have hm:m<l.length:=by omega
  have hgm:rwG l m=l[m]:=by simp[rwG,hm]
  rw[hgm]at hx;have hc:=insClo l[m] x;obtain⟨r,hr⟩:∃r,r=l[m]:=⟨_,rfl⟩;rw[←hr]at hx hc;simp only[aC,LV]at hc;have hs1:=aT m (by omega);by_cases hq:r.id<x
  ·rw[if_pos hq]at hx;have hq':ig r.id x<0:=(hlt _ _).2 hq;refine wx ?_;simp -dsimp[hb,hw,hs,hm,hr.symm,aC,LV];refine cPx (hc) (by simp) ?_;simp -dsimp[hq',hs1];refine hN (m+1,hi) _ _ ⟨by simp only;omega,h2,hx⟩ (by omega) ?_ ⟨[],?_⟩ ?_ ?_<;>simp[or_imp,forall_and,L1,ct]
  ·rw[if_neg hq]at hx
   have hq':¬ig r.id x<0:=fun h=>hq ((hlt _ _).1 h)
   refine wx ?_;simp -dsimp[hb,hw,hs,hm,hr.symm,aC,LV];refine cPx (hc) (by simp) ?_;simp -dsimp[hq',hs1];refine hN (lo,m) _ _ ⟨by simp only;omega,by simp only;omega,hx⟩ (by omega) ?_ ⟨[],?_⟩ ?_ ?_<;>simp[or_imp,forall_and,L1,ct]
 ·rw[bsR,dif_neg hb]at hx;subst hx;by_cases hn:lo<l.length
  ·have hgm:rwG l lo=l[lo]:=by simp[rwG,hn]
   have hc:=insClo l[lo] x;rw[hgm]at hF;obtain⟨r,hr⟩:∃r,r=l[lo]:=⟨_,rfl⟩;rw[←hr]at hF hc;simp only[aC,LV]at hc;refine wx ?_;simp -dsimp[hb];refine hQ _ _ _ ?_;simp -dsimp[hn,hr.symm,aC,LV];refine cPx (hc) (by simp) ?_;simp -dsimp[hn]
   all_goals (rw[hF];simp[hn])
  ·refine wx ?_;simp -dsimp[hb];refine hQ _ _ _ ?_;simp -dsimp[hn];rw[hF];simp[hn]
def wiH(c0 c1 c2:B)(t:Tb)(f g:Bool)(x:V)(l:List Rw):List B:=[c0,c1,c2,B.cells [.str t.name,.lst 1 f (t.attrs.map V.str),.lst 2 g (t.rows.map aC)],B.cells [.str kV,.nilS,.nilS],B.cells [.str t.name,.lst 1 false (t.attrs.map V.str),x],B.buf 41 2 (l.map aC) false]
theorem rowB_rb(n e:Nat)(l:List Rw)(fz:Bool):rbB n (.buf e 2 (l.map aC) fz):=(cP (by simp) (by simp[aC,V.cells,LV,V.one])).2 trivial
theorem with_w(t:Tb)(rs:List Rw)(f g h:Bool)(ha:t.attrs.length≤1000000)(hr:rs.length≤1000000)(hv:∀r∈rs,r.vals.length≤1000000)(c0 c1 c2:B)(hb0:∀k,rbB k c0)(hb1:∀k,rbB k c1)(hb2:∀k,rbB k c2):
  aR Tryz.prog 108 [aD f g t,LR h rs] [c0,c1,c2] fun x H'=>x = .agg [.str t.name,.lst 1 false (t.attrs.map V.str),.buf 6 0 rs.length rs.length]∧∃A A1 A2,H'=[c0,c1,c2,A,A1,A2,B.buf 41 2 (rs.map aC) false]∧∀k,6<k→rbB k A∧rbB k A1∧rbB k A2:=by
 have cc:=jD t.attrs f ha;simp only[LS]at cc;refine aI tok Tryz.func108 rfl rfl ?_;refine wx ?_;simp -dsimp[Tryz.f108,aJ,aD,LS,LR];refine aO (aX tok mixed [6,7] [(0,[1]),(1,[1]),(2,[1]),(3,[1]),(4,[1]),(5,[1])] [(.lst 1 false (t.attrs.map V.str),[])] (by kernel_rfl) fun C K hC hK=>?_);simp -implicitDefEqProofs [];refine⟨⟨hC _ _ _ _ (aQ cc (by simp)),hC _ _ _ _ (aQ cc (by simp))⟩,hK _ _ ?_⟩;simp -dsimp[];refine aO (dW 41 2 [] 5 [2] rfl (cQ _ _) (by simp) (W_loopM 28 0xfff3080 (by simp[mB]<;>rfl) (σ:=Nat) (fun i=>i≤rs.length) (fun i=>rs.length-i) (fun i=>[(16,.int .i64 i)]) (fun i=>wiH c0 c1 c2 t f g (.buf 6 0 i i) (rs.take i)) 0 (by omega) (by simp) (by simp[wiH]) (by simp[wiH]) ?_));intro i hi N Q hN hQ
 have hli:(rs.take i).length=i:=by simp;omega
 simp only[wiH]at hN ⊢;by_cases hb:i<rs.length
 ·have hst:rs.take (i+1)=rs.take i++[rs[i]]:=kn hb;have hc:=kG rs[i] (hv _ (kZ hb));obtain⟨r,hre⟩:∃r,r=rs[i]:=⟨_,rfl⟩;rw[←hre]at hst hc;obtain⟨l,hl⟩:∃l,l=rs.take i:=⟨_,rfl⟩;rw[←hl]at hst hli ⊢;simp only[aC,LV]at hc;refine wx ?_;simp -dsimp[hb,hre.symm,aC,LV];refine aO (aX tok mixed [5,7] [] [(.agg [.int .i64 r.id,.lst 3 false (r.vals.map aH)],[])] (by kernel_rfl) fun C K hC hK=>?_);simp -implicitDefEqProofs [hb,aC,LV,hli,kO i (by omega)];refine⟨hC _ _ _ _ (aQ hc (by simp)),hK _ _ ?_⟩;simp -dsimp[aT i (by omega)];refine hN (i+1) _ _ (by omega) (by omega) (by simp) ⟨[B.cells [.int .i64 r.id,.lst 3 false (r.vals.map aH)]],by simp[hst,aC,LV]⟩ (by simp) ?_;intro bl hbl;simp only[kh,kf,or_false]at hbl
  rcases hbl with rfl | rfl | rfl | rfl | rfl | rfl | rfl
  ·exact hb0 _
  ·exact hb1 _
  ·exact hb2 _
  ·simp
  ·simp
  ·simp
  ·exact rowB_rb _ _ _ _
 ·obtain rfl:i=rs.length:=by omega
  rw[ku];refine wx ?_;simp -dsimp[hb];refine hQ _ _ _ ?_;simp -dsimp[];exact⟨_,_,_,⟨rfl,rfl,rfl⟩,fun k hk=>⟨by simp,by simp;omega,by simp;omega⟩⟩
def insV(t:Tb)(r:Rw):V:=.tup [if bF t r=0 then aD false false (wrT t (dk t.rows r)) else zTb,.int .i64 (bF t r)]
theorem dj{t:Tb}{r:Rw}{e:Int}(h:bF t r=e)(h0:¬e=0):insV t r = .tup [zTb,.int .i64 e]:=by
 unfold insV;rw[h,if_neg h0]
theorem insV_ok{t:Tb}{r:Rw}(h:bF t r=0):insV t r = .tup [aD false false (wrT t (dk t.rows r)),.int .i64 0]:=by
 unfold insV;rw[h,if_pos rfl]
theorem rwB_rb(n:Nat)(r:Rw):rbB n (.cells [.int .i64 r.id,.lst 3 false (r.vals.map aH)]):=fun c hc=>by
 simp only[kh,kf,or_false]at hc
 rcases hc with rfl | rfl<;>simp[rb,rb1]
theorem tbB_rb(n:Nat)(t:Tb)(f g:Bool):rbB n (.cells [.str t.name,.lst 1 f (t.attrs.map V.str),.lst 2 g (t.rows.map aC)]):=fun c hc=>by
 simp only[kh,kf,or_false]at hc
 rcases hc with rfl | rfl | rfl<;>simp[rb,rb1]
theorem insert_u(t:Tb)(f g:Bool)(r:Rw)(hv:aF t=0)(hk:TbOk t)(hrl:r.vals.length≤1000000):aL Tryz.prog 62 [aD f g t,aC r] fun x=>x=insV t r:=by
 have c1:=bv t f g hk;rw[hv]at c1;have hr:=bn hv;have hvr:=am hv;have cf:=dS t f g r.id (by omega);have cv:=validVals r.vals false hrl;simp only[aD,LS,LR]at c1 cf;simp only[LV]at cv;by_cases h6:r.vals.length=t.attrs.length
 case neg =>
  rw[dj (e:=6) (by unfold bF;rw[if_pos h6]) (by decide)];refine sPx Tryz.func62 rfl rfl ?_;simp -dsimp[Tryz.f62,aJ,aD,LS,LR,aC,LV];refine cPx (c1) (by simp) ?_;simp -dsimp[];refine cPx (cf) (by simp) ?_;simp -dsimp[show ¬(r.vals.length:Int)=t.attrs.length by omega,zTb]
 by_cases h1:r.id≤0
 case pos =>
  rw[dj (e:=1) (by unfold bF;rw[if_neg (fun h=>h h6),if_pos (.inl h1)]) (by decide)];refine sPx Tryz.func62 rfl rfl ?_;simp -dsimp[Tryz.f62,aJ,aD,LS,LR,aC,LV];refine cPx (c1) (by simp) ?_;simp -dsimp[];refine cPx (cf) (by simp) ?_;simp -dsimp[h6,h1,zTb]
 cases h2:r.vals.all aY with
 | false =>
  rw[h2]at cv;rw[dj (e:=1) (by unfold bF;rw[if_neg (fun h=>h h6),if_pos (.inr h2)]) (by decide)];refine sPx Tryz.func62 rfl rfl ?_;simp -dsimp[Tryz.f62,aJ,aD,LS,LR,aC,LV];refine cPx (c1) (by simp) ?_;simp -dsimp[];refine cPx (cf) (by simp) ?_;simp -dsimp[h6,h1];refine cPx (cv) (by simp) ?_;simp -dsimp[zTb]
 | true =>
 rw[h2]at cv
 have hno:¬(r.id≤0∨r.vals.all aY=false):=by rw[h2];simp[h1]
 cases h5:(fnd t.rows r.id 0).2 with
 | true =>
  rw[h5]at cf;rw[dj (e:=5) (by unfold bF inT;rw[if_neg (fun h=>h h6),if_neg hno,if_pos h5]) (by decide)];refine sPx Tryz.func62 rfl rfl ?_;simp -dsimp[Tryz.f62,aJ,aD,LS,LR,aC,LV];refine cPx (c1) (by simp) ?_;simp -dsimp[];refine cPx (cf) (by simp) ?_;simp -dsimp[h6,h1];refine cPx (cv) (by simp) ?_;simp -dsimp[zTb]
 | false =>
 rw[h5]at cf
 have h5':¬(fnd t.rows r.id 0).2=true:=by rw[h5];simp
 by_cases h3:1000≤t.rows.length
 case pos =>
  rw[dj (e:=3) (by unfold bF inT;rw[if_neg (fun h=>h h6),if_neg hno,if_neg h5',if_pos h3]) (by decide)];refine sPx Tryz.func62 rfl rfl ?_;simp -dsimp[Tryz.f62,aJ,aD,LS,LR,aC,LV];refine cPx (c1) (by simp) ?_;simp -dsimp[];refine cPx (cf) (by simp) ?_;simp -dsimp[h6,h1];refine cPx (cv) (by simp) ?_;simp -dsimp[show(1000:Int)≤t.rows.length by omega,zTb]
 have h0:bF t r=0:=by unfold bF inT;rw[if_neg (fun h=>h h6),if_neg hno,if_neg h5',if_neg h3]
 have hn:=(cW h0).2.2.2.1;have hix:=ins_ix (bH hv) hn;have hle:=plR_le (bH hv) r.id;have cb:=bsearchR t.rows r.id false (by omega);have cc:=kG r hrl;rw[insV_ok h0];obtain⟨p,hp⟩:∃p,p=plR t.rows r.id:=⟨_,rfl⟩;rw[←hp]at hix hle cb;obtain⟨q,hq⟩:∃q,q=bsT t.rows r.id:=⟨_,rfl⟩;rw[←hq]at cb;have cw:=with_w t t.rows f g g hk.attrs (by omega) (fun s hs=>by have:=(hvr s hs).2.1;have:=hk.attrs;omega) (.cells [.str t.name,.lst 1 f (t.attrs.map V.str),.lst 2 g (t.rows.map aC)]) (.cells [.int .i64 r.id,.lst 3 false (r.vals.map aH)]) (.cells [.str kV,.nilS,.nilS]) (fun k=>tbB_rb _ _ _ _) (fun k=>rwB_rb _ _) (fun k=>by simp);simp only[aD,LS,LR,aC,LV]at cw cb cc;refine sPx Tryz.func62 rfl rfl ?_;simp -dsimp[Tryz.f62,aJ,aD,LS,LR,aC,LV];refine cPx (c1) (by simp) ?_;simp -dsimp[];refine cPx (cf) (by simp) ?_;simp -dsimp[h6,h1];refine cPx (cv) (by simp) ?_;simp -dsimp[show ¬(1000:Int)≤t.rows.length by omega];refine wcm cw ?_;rintro x H' ⟨rfl,A,A1,A2,rfl,hrb⟩;simp -dsimp[];refine(callX (args:=[.buf 6 0 t.rows.length t.rows.length,.int .i64 r.id,.fn 110 []]) (args':=[.lst 2 false (t.rows.map aC),.int .i64 r.id,.fn 110 []]) cb rfl (fun i a a' h1 h2=>?_) (.tup _ fun c hc=>?_)).mono ?_
 ·match i with
  | 0=>simp at h1 h2;subst h1;subst h2;exact fS rfl (by simp) (by simp)
  | 1=>simp at h1 h2;subst h1;subst h2;exact .pure _ (.int _ _)
  | 2=>simp at h1 h2;subst h1;subst h2;exact .pure _ (.fn _)
  | i+3=>simp at h1
 ·simp at hc
  rcases hc with rfl | rfl
  ·exact .int _ _
  ·exact .bool _
 rintro x H' ⟨rfl,rfl⟩;simp -dsimp[];obtain⟨D,hD⟩:∃D,D=dk t.rows r:=⟨_,rfl⟩;rw[←hD]at hix ⊢
 have hDm:(t.rows.map aC).take p++V.agg [.int .i64 r.id,.lst 3 false (r.vals.map aH)]::(t.rows.map aC).drop p=D.map aC:=by rw[hix];simp[aC,LV]
 have hDl:(D.map aC).length=t.rows.length+1:=by rw[hix];simp;omega
 obtain⟨B0,hB0⟩:∃B0:B,B0 = .cells [.str t.name,.lst 1 f (t.attrs.map V.str),.lst 2 g (t.rows.map aC)]:=⟨_,rfl⟩
 have ci:∀fl B1 B2 G7,aK Tryz.prog (.fn 111 []) [.buf 6 0 t.rows.length t.rows.length,.int .i64 p,.lst 2 fl [.agg [.int .i64 r.id,.lst 3 false (r.vals.map aH)]]] [B0,B1,B2,A,A1,A2,.buf 41 2 (t.rows.map aC) false,G7] fun x H'=>x = .lst 2 false (D.map aC)∧H'=[B0,B1,B2,A,A1,A2,.buf 41 2 (D.map aC) true,G7]:=fun fl B1 B2 G7=>by
  have i1:=insR_con [B0,B1,B2,A,A1,A2,.buf 41 2 (t.rows.map aC) false,G7] 6 (t.rows.map aC) p fl (.agg [.int .i64 r.id,.lst 3 false (r.vals.map aH)]) rfl (by simp;omega) (by simp;omega);rw[hDm]at i1;simp only[lG]at i1;refine(wcall_frz (k:=6) (e:=41) (z:=2) (xs:=D.map aC) (fz:=false) i1 rfl hDl).mono ?_;rintro x H' ⟨rfl,rfl⟩;exact⟨by rw[←hDl,ku],rfl⟩
 simp only[hB0]at ci;refine aO (aX tok mixed [6,8] [] [(.agg [.int .i64 r.id,.lst 3 false (r.vals.map aH)],[]),(.lst 2 false (D.map aC),[.cells [.str t.name,.lst 1 f (t.attrs.map V.str),.lst 2 g (t.rows.map aC)],.cells [.int .i64 r.id,.lst 3 false (r.vals.map aH)],.cells [.str kV,.nilS,.nilS],A,A1,A2,.buf 41 2 (D.map aC) true,.cells [.str t.name,.lst 1 false (t.attrs.map V.str),.buf 6 0 t.rows.length t.rows.length]])] (by kernel_rfl) fun C K hC hK=>?_);simp -implicitDefEqProofs [];refine⟨⟨hC _ _ _ _ (aQ cc (by simp)),hC _ _ _ _ (ci true _ _ _)⟩,hK _ _ ?_⟩;simp -dsimp[wrT];rfl
end
end Go.Proofs.YtpedcgdgjoblkaaGreatDoor
