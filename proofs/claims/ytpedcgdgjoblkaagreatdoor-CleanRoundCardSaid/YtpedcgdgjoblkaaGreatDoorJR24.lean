/- JR24: own texts of this seat, joined and shortened by pack4.py: PR. -/
import Derived.Test.YtpedcgdgjoblkaaGreatDoorJR20
set_option linter.unusedVariables false
set_option linter.unusedSimpArgs false
set_option maxRecDepth 100000
set_option maxHeartbeats 64000000
open List renaming replicate→aJ,getElem?_eq_getElem→kU,getElem_mem→kZ,not_mem_nil→kf,append_nil→kg,mem_cons→kh,length_append→kq,take_length→ku,append_assoc→kz,length_take→lC,mem_or_eq_of_mem_set→lw,length_set→mA,set_getElem_self→mU,map_set→nL
namespace Go.Proofs.YtpedcgdgjoblkaaGreatDoor
section
open Go Go.AM
theorem nowF_sz{tv now:List Vl}(h1:∀v∈tv,v.s.size≤maxLen)(h2:∀v∈now,v.s.size≤maxLen):∀{a:Nat},a≤tv.length→∀v∈ap tv a now,v.s.size≤maxLen
 | 0,_,v,hv=>h2 v hv
 | a+1,ha,v,hv=>by
  rcases lw hv with hv | rfl
  ·exact nowF_sz h1 h2 (by omega) v hv
  ·have e:atV tv a=tv[a]'(by omega):=by simp[atV,show a<tv.length by omega]
   rw[e];exact h1 _ (kZ _)
theorem plan_r(t u:Tb)(f g f' g':Bool)(A:PlA t u)(hz:∀r∈t.rows,∀v∈r.vals,v.s.size≤maxLen)(hz2:∀r∈u.rows,∀v∈r.vals,v.s.size≤maxLen):aL Tryz.prog 48 [aD f g t,aD f' g' u] fun r=>r = .tup [iV t u,.int .i64 (cE t u)]:=by
 have c1:=valid03 t f g A.ht;have c2:=valid03 u f' g' A.hu;have c3:=strings03 t.attrs u.attrs f f' A.ht.attrs;simp only[aD,LS,LR]at c1 c2 c3;by_cases h1:aF t=0
 case neg =>
  rw[cT (by rw[fO h1];exact h1),fO h1];refine sPx Tryz.func48 rfl rfl ?_;simp -dsimp[Tryz.f48,aJ,aD,LS,LR];refine cPx (c1) (by simp) ?_;simp -dsimp[h1]
 rw[h1]at c1;by_cases h2:aF u=0
 case neg =>
  rw[cT (by rw[fN h1 h2];exact h2),fN h1 h2];refine sPx Tryz.func48 rfl rfl ?_;simp -dsimp[Tryz.f48,aJ,aD,LS,LR];refine cPx (c1) (by simp) ?_;simp -dsimp[];refine cPx (c2) (by simp) ?_;simp -dsimp[h2]
 rw[h2]at c2
 cases hn:(t.name.toList == u.name.toList) with
 | false =>
  have he:=fM h1 h2 (by rw[cG,hn];rfl);rw[cT (by rw[he];decide),he];refine sPx Tryz.func48 rfl rfl ?_;simp -dsimp[Tryz.f48,aJ,aD,LS,LR];refine cPx (c1) (by simp) ?_;simp -dsimp[];refine cPx (c2) (by simp) ?_;simp -dsimp[hn]
 | true =>
 cases hs:fY t.attrs u.attrs with
 | false =>
  rw[hs]at c3;have he:=fM h1 h2 (by rw[hs];simp);rw[cT (by rw[he];decide),he];refine sPx Tryz.func48 rfl rfl ?_;simp -dsimp[Tryz.f48,aJ,aD,LS,LR];refine cPx (c1) (by simp) ?_;simp -dsimp[];refine cPx (c2) (by simp) ?_;simp -dsimp[hn];refine cPx (c3) (by simp) ?_;simp -dsimp[]
 | true =>
 rw[hs]at c3;have he:=plan_ok h1 h2 (by rw[cG,hn,hs];rfl);rw[planV_yes he,he];have hn':=eqSt_eq hn;obtain⟨w,hw⟩:∃w,w=t.attrs.length:=⟨_,rfl⟩
 have hwu:u.attrs.length=w:=by rw[hw];exact(eqSs_len hs).symm
 have hw16:w≤16:=by rw[hw];exact(tbC h1).wide
 have hvt:∀r∈t.rows,r.vals.length=w:=fun r hr=>by rw[hw];exact gI h1 r hr
 have hvu:∀r∈u.rows,r.vals.length=w:=fun r hr=>by rw[←hwu];exact gI h2 r hr
 have h8:=A.t8;have h8u:=A.u8
 have cf:=fun id=>find03 u f' g' id (by omega)
 have cg:=fun id=>find03 t f g id (by omega)
 obtain⟨nm,hnm⟩:∃nm,nm=t.name:=⟨_,rfl⟩
 have htB:∀n,rbB n (B.cells [.str t.name,.lst 1 f (t.attrs.map V.str),.lst 2 g (t.rows.map aC)]):=fun n c hc=>by
  simp only[kh,kf,or_false]at hc
  rcases hc with rfl | rfl | rfl<;>simp[rb,rb1]
 have huB:∀n,rbB n (B.cells [.str u.name,.lst 1 f' (u.attrs.map V.str),.lst 2 g' (u.rows.map aC)]):=fun n c hc=>by
  simp only[kh,kf,or_false]at hc
  rcases hc with rfl | rfl | rfl<;>simp[rb,rb1]
 have hdl:∀i,(cp u (t.rows.take i)).length≤1000:=fun i=>by
  have:=kE u (t.rows.take i);rw[lC]at this;omega
 have hcl:∀i,(chL u w (t.rows.take i)).length≤1000:=fun i=>by
  have:=jF u w (t.rows.take i);have h3:(t.rows.take i).length*w≤8*16:=Nat.mul_le_mul (by rw[lC];omega) hw16;omega
 have hil:∀i,(cV t (u.rows.take i)).length≤1000:=fun i=>by
  have:=jl t (u.rows.take i);rw[lC]at this;omega
 simp only[aD,LS,LR]at cf cg;rw[←hnm]
 have hpl:dD t u=cp u t.rows++(chL u w t.rows++cV t u.rows):=by unfold dD;rw[←hw]
 rw[hpl];obtain⟨D,hD⟩:∃D,D=cp u t.rows:=⟨_,rfl⟩;obtain⟨C0,hC0⟩:∃C0,C0=chL u w t.rows:=⟨_,rfl⟩;obtain⟨I,hI⟩:∃I,I=cV t u.rows:=⟨_,rfl⟩;rw[←hD,←hC0,←hI]
 have hrb3:∀l:List Chg,∀bl∈[B.cells [.str t.name,.lst 1 f (t.attrs.map V.str),.lst 2 g (t.rows.map aC)],B.cells [.str u.name,.lst 1 f' (u.attrs.map V.str),.lst 2 g' (u.rows.map aC)],B.buf 45 11 (l.map (aW nm)) false],rbB 3 bl:=fun l bl hbl=>by
  simp only[kh,kf,or_false]at hbl
  rcases hbl with rfl | rfl | rfl
  ·exact htB _
  ·exact huB _
  ·exact fI _ _ _ _ _
 refine sPx Tryz.func48 rfl rfl ?_;simp -dsimp[Tryz.f48,aJ,aD,LS,LR];refine cPx (c1) (by simp) ?_;simp -dsimp[];refine cPx (c2) (by simp) ?_;simp -dsimp[hn];refine cPx (c3) (by simp) ?_;simp -dsimp[];refine aO (W_own 45 11 [8] (by simp) (W_loopM 75 0x7fffffff00000000f00 (by simp[mB]<;>rfl) (σ:=Nat) (fun i=>i≤t.rows.length) (fun i=>t.rows.length-i) (fun i=>[(9,.int .i64 i),(8,.buf 2 0 (cp u (t.rows.take i)).length (cp u (t.rows.take i)).length)]) (fun i=>[B.cells [.str t.name,.lst 1 f (t.attrs.map V.str),.lst 2 g (t.rows.map aC)],B.cells [.str u.name,.lst 1 f' (u.attrs.map V.str),.lst 2 g' (u.rows.map aC)],B.buf 45 11 ((cp u (t.rows.take i)).map (aW nm)) false]) 0 (by omega) (by simp[cp]) (by simp[cp]) (by simp) ?_))
 ·intro i hi N Q hN hQ;by_cases hb:i<t.rows.length
  ·have hst:=delL_snoc u hb;have hd1:=hdl i;obtain⟨r,hre⟩:∃r,r=t.rows[i]:=⟨_,rfl⟩;rw[←hre]at hst;have cfr:=cf r.id;obtain⟨dl,hdle⟩:∃dl,dl=cp u (t.rows.take i):=⟨_,rfl⟩;rw[←hdle]at hst hd1 ⊢;obtain⟨k,hk⟩:∃k,k=(fnd u.rows r.id 0).1:=⟨_,rfl⟩;rw[←hk]at cfr
   cases hin:inT u r.id with
   | false =>
    have hin':(fnd u.rows r.id 0).2=false:=hin;rw[hin']at cfr;rw[hin,if_neg (by simp)]at hst;refine wx ?_;simp -dsimp[hb,hre.symm,aC,LV];refine .inr ⟨aU (by kernel_rfl),?_⟩;refine bD _ (aQ (cfr) (by simp)) ?_;simp -dsimp[];refine aO (aX tok mixed [10] [] [] (by kernel_rfl) fun C K hC hK=>?_);simp -implicitDefEqProofs [hb,hre.symm,aC,LV,capG dl.length (by omega),wrapN dl.length (by omega)];refine hK _ _ ?_;simp -dsimp[aT i (by omega)];refine hN (i+1) _ _ (by omega) (by omega) (by simp[hst]) ⟨[],by simp[hst,aW,aC,LV,vl0,hnm]⟩ (by simp) (hrb3 _)
   | true =>
    have hin':(fnd u.rows r.id 0).2=true:=hin;rw[hin']at cfr;rw[hin,if_pos rfl,kg]at hst;refine wx ?_;simp -dsimp[hb,hre.symm,aC,LV];refine .inr ⟨aU (by kernel_rfl),?_⟩;refine bD _ (aQ (cfr) (by simp)) ?_;simp -dsimp[aT i (by omega)];refine hN (i+1) _ _ (by omega) (by omega) (by simp[hst]) ⟨[],by simp[hst]⟩ (by simp) (hrb3 _)
  ·obtain rfl:i=t.rows.length:=by omega
   rw[ku]
   have hDl:D.length≤1000:=by rw[hD];have:=hdl t.rows.length;rwa [ku]at this
   rw[←hD];refine wx ?_;simp -dsimp[hb];refine hQ _ _ _ ?_;simp -dsimp[];refine aO (W_loopM 155 0x7fffffffffffffffffff800000000000003f100 (by simp[mB]<;>rfl) (σ:=Nat) (fun i=>i≤t.rows.length) (fun i=>t.rows.length-i) (fun i=>[(12,.int .i64 i),(8,.buf 2 0 (D++chL u w (t.rows.take i)).length (D++chL u w (t.rows.take i)).length)]) (fun i=>[B.cells [.str t.name,.lst 1 f (t.attrs.map V.str),.lst 2 g (t.rows.map aC)],B.cells [.str u.name,.lst 1 f' (u.attrs.map V.str),.lst 2 g' (u.rows.map aC)],B.buf 45 11 ((D++chL u w (t.rows.take i)).map (aW nm)) false]) 0 (by omega) (by simp[chL]) (by simp[chL]) (by simp) ?_)
   ·intro i hi N2 Q2 hN2 hQ2;by_cases hb:i<t.rows.length
    ·have hct:=chL_snoc u w hb;have hc1:=hcl i;have hrl:=hvt _ (kZ hb);have hrz:=hz _ (kZ hb);obtain⟨r,hre⟩:∃r,r=t.rows[i]:=⟨_,rfl⟩;rw[←hre]at hct hrl hrz;have cfr:=cf r.id;obtain⟨cl,hcle⟩:∃cl,cl=D++chL u w (t.rows.take i):=⟨_,rfl⟩
     have hct':D++chL u w (t.rows.take (i+1))=cl++chR u w r:=by rw[hct,hcle,kz]
     have hcll:cl.length≤2000:=by rw[hcle,kq];omega
     rw[←hcle]
     cases hin:inT u r.id with
     | false =>
      have hin':(fnd u.rows r.id 0).2=false:=hin;obtain⟨k,hk⟩:∃k,k=(fnd u.rows r.id 0).1:=⟨_,rfl⟩;rw[hin',←hk]at cfr
      have hch:chR u w r=[]:=by unfold chR;rw[hin];rfl
      rw[hch,kg]at hct';refine wx ?_;simp -dsimp[hb,hre.symm,aC,LV];refine .inr ⟨aU (by kernel_rfl),?_⟩;refine bD _ (aQ (cfr) (by simp)) ?_;simp -dsimp[aT i (by omega)];refine hN2 (i+1) _ _ (by omega) (by omega) (by simp[hct']) ⟨[],by simp[hct']⟩ (by simp) (hrb3 _)
     | true =>
      have hin':(fnd u.rows r.id 0).2=true:=hin;have hkl:=fB 0 hin';rw[hin']at cfr;have hxm:rwG u.rows (fnd u.rows r.id 0).1∈u.rows:=(jq 0 hin').2
      have hch:chR u w r=chP r.id (rwG u.rows (fnd u.rows r.id 0).1).vals w r.vals:=by unfold chR;rw[hin];rfl
      rw[hch]at hct';obtain⟨k,hk⟩:∃k,k=(fnd u.rows r.id 0).1:=⟨_,rfl⟩;rw[←hk]at cfr hct' hkl hxm;have hxl:=hvu _ hxm;have hxz:=hz2 _ hxm
      have hxe:u.rows[k]=rwG u.rows k:=by simp[rwG,hkl]
      obtain⟨x,hx⟩:∃x,x=rwG u.rows k:=⟨_,rfl⟩;rw[←hx]at hct' hxl hxe hxz;have hcn:=jE r.id x.vals r.vals
      have hne:r.vals=[]∨¬r.vals=[]:=by by_cases h:r.vals=[];exact .inl h;exact .inr h
      refine wx ?_;simp -dsimp[hb,hre.symm,aC,LV];refine .inr ⟨aU (by kernel_rfl),?_⟩;refine bD _ (aQ (cfr) (by simp)) ?_;simp -dsimp[]
      rcases hne with hne | hne
      case' inl =>
       refine aO (jH (tkf 39) mixed [15,16] [(0,[1]),(1,[1]),(2,[1]),(3,[1]),(4,[1]),(5,[1]),(6,[1]),(7,[1]),(8,[1]),(9,[1]),(10,[1]),(11,[1]),(12,[1]),(13,[1])] [] (by kernel_rfl) fun C K hC hK=>?_);simp -implicitDefEqProofs [hb,hre.symm,aC,LV,hne,bA];refine hK _ _ ?_;simp -dsimp[bA]
      case' inr =>
       refine aO (jH (tkf 39) mixed [15,16] [(0,[1]),(1,[1]),(2,[1]),(3,[1]),(4,[1]),(5,[1]),(6,[1]),(7,[1]),(8,[1]),(9,[1]),(10,[1]),(11,[1]),(12,[1]),(13,[1])] [] (by kernel_rfl) fun C K hC hK=>?_);simp -implicitDefEqProofs [hb,hre.symm,aC,LV,hne,cap32l r.vals.length (by omega),bA];refine hK _ _ ?_;simp -dsimp[bA]
      case' inl =>
       have hw0:w=0:=by rw[←hrl,hne];rfl
       refine aO (W_lf 3 _ [.int .i64 r.id,.lst 3 false (r.vals.map aH)] rfl (gU _) (by simp[LfL,lfB,hne]) (W_loopM 155 0x7ffffffffffc000000000000000000000030100 (by simp[mB]<;>rfl) (σ:=Nat) (fun a=>a≤w) (fun a=>w-a) (fun a=>[(16,.int .i64 a),(8,.buf 2 0 (cl++chP r.id x.vals a r.vals).length (cl++chP r.id x.vals a r.vals).length)]) (fun a=>[B.cells [.str t.name,.lst 1 f (t.attrs.map V.str),.lst 2 g (t.rows.map aC)],B.cells [.str u.name,.lst 1 f' (u.attrs.map V.str),.lst 2 g' (u.rows.map aC)],B.buf 45 11 ((cl++chP r.id x.vals a r.vals).map (aW nm)) false,B.cells [.int .i64 r.id,.lst 3 false ((ap x.vals a r.vals).map aH)]]) 0 (by omega) (by simp[chP]) (by simp[chP,ap]) (by simp) ?_));intro a ha N3 Q3 hN3 hQ3
       obtain rfl:a=w:=by omega
       refine wx ?_;simp -dsimp[show ¬a<t.attrs.length by omega];refine hQ3 _ _ _ ?_;simp -dsimp[aT i (by omega)];refine hN2 (i+1) _ _ (by omega) (by omega) (by simp[hct']) ⟨[B.cells [.int .i64 r.id,.lst 3 false ((ap x.vals a r.vals).map aH)]],by simp[hct']⟩ (by simp) (hrb3 _)
      case' inr =>
       refine aO (W_lf 3 _ [.int .i64 r.id,.lst 3 false (r.vals.map aH)] rfl (gU _) (by simp[LfL,lfB,hne]) (W_loopM 155 0x7ffffffffffc000000000000000000000030100 (by simp[mB]<;>rfl) (σ:=Nat) (fun a=>a≤w) (fun a=>w-a) (fun a=>[(16,.int .i64 a),(8,.buf 2 0 (cl++chP r.id x.vals a r.vals).length (cl++chP r.id x.vals a r.vals).length)]) (fun a=>[B.cells [.str t.name,.lst 1 f (t.attrs.map V.str),.lst 2 g (t.rows.map aC)],B.cells [.str u.name,.lst 1 f' (u.attrs.map V.str),.lst 2 g' (u.rows.map aC)],B.buf 45 11 ((cl++chP r.id x.vals a r.vals).map (aW nm)) false,B.cells [.int .i64 r.id,.lst 3 false ((ap x.vals a r.vals).map aH)]]) 0 (by omega) (by simp[chP]) (by simp[chP,ap]) (by simp) ?_));intro a ha N3 Q3 hN3 hQ3
       have hrb9:∀(l:List Chg) (vs:List Vl),∀bl∈[B.cells [.str t.name,.lst 1 f (t.attrs.map V.str),.lst 2 g (t.rows.map aC)],B.cells [.str u.name,.lst 1 f' (u.attrs.map V.str),.lst 2 g' (u.rows.map aC)],B.buf 45 11 (l.map (aW nm)) false,B.cells [.int .i64 r.id,.lst 3 false (vs.map aH)]],rbB 4 bl:=fun l vs bl hbl=>by
        simp only[kh,kf,or_false]at hbl
        rcases hbl with rfl | rfl | rfl | rfl
        ·exact htB _
        ·exact huB _
        ·exact fI _ _ _ _ _
        ·simp[rbB,rb,rb1]
       by_cases hab:a<w
       ·have hnow:=dF x.vals r.vals a;have hcn1:=hcn a;have hcs:chP r.id x.vals (a+1) r.vals=chP r.id x.vals a r.vals++(if atV (ap x.vals a r.vals) a=atV x.vals a then [] else [⟨4,⟨r.id,ap x.vals a r.vals⟩,a,atV x.vals a⟩]):=rfl;have hns:ap x.vals (a+1) r.vals=(ap x.vals a r.vals).set a (atV x.vals a):=rfl;have hoz:∀v∈ap x.vals a r.vals,v.s.size≤maxLen:=nowF_sz hxz hrz (by omega);obtain⟨now,hnowe⟩:∃now,now=ap x.vals a r.vals:=⟨_,rfl⟩;obtain⟨cs,hcse⟩:∃cs,cs=cl++chP r.id x.vals a r.vals:=⟨_,rfl⟩
        have hcsl:cs.length≤3000:=by rw[hcse,kq];omega
        rw[←hnowe]at hcs hns hnow hoz ⊢;rw[←hcse]
        have hcs':cl++chP r.id x.vals (a+1) r.vals=cs++(if atV now a=atV x.vals a then [] else [⟨4,⟨r.id,now⟩,a,atV x.vals a⟩]):=by rw[hcs,hcse,kz]
        have ha1:a<now.length:=by omega
        have ha2:a<x.vals.length:=by omega
        have ha3:a<t.attrs.length:=by omega
        rw[iR ha1,iR ha2]at hcs';rw[iR ha2]at hns;obtain⟨v,hv⟩:∃v,v=x.vals[a]:=⟨_,rfl⟩;obtain⟨o,ho⟩:∃o,o=now[a]:=⟨_,rfl⟩;rw[←hv]at hcs' hns;rw[←ho]at hcs'
        have hna:now[a]?=some o:=by rw[ho];exact kU ha1
        have c5:=compare01 o v (hoz o (by rw[ho];exact kZ ha1));simp only[aH]at c5;by_cases hq:o=v
        ·rw[if_pos hq,kg]at hcs';rw[hv,←hv,←hq,ho,mU]at hns;rw[(cmpV_zero o v).2 hq]at c5;refine wx ?_;simp -dsimp[ha3,hkl,hxe,aC,LV,ha2,hv.symm,aH];refine .inr ⟨aU (by kernel_rfl),?_⟩;simp -dsimp[ha1,ho.symm,aH];refine bD _ (aQ (c5) (by simp)) ?_;simp -dsimp[aT a (by omega)];refine hN3 (a+1) _ _ (by omega) (by omega) (by simp[hcs']) ⟨[B.cells [.int .i64 v.k,.int .i64 v.n,.str v.s]],by simp[hcs',hns]⟩ (by simp) (hrb9 _ _)
        ·rw[if_neg hq]at hcs'
         have hcz:¬cmpV o v=0:=fun e=>hq ((cmpV_zero o v).1 e)
         obtain⟨nx,hnx⟩:∃nx,nx=now.set a v:=⟨_,rfl⟩
         have hset:(List.map aH now).set a (aH v)=List.map aH nx:=by rw[hnx,nL]
         have hnxl:nx.length=r.vals.length:=by rw[hnx,mA,hnow]
         rw[←hnx]at hns
         have hnne:¬now=[]:=by intro e;rw[e]at ha1;simp at ha1
         refine W_seq ?_;refine wx ?_;simp -dsimp[ha3];refine W_seq ?_;refine W_block ?_;refine wx ?_;simp -dsimp[hkl,hxe,aC,LV,ha2,hv.symm,aH];refine .inr ⟨aU (by kernel_rfl),?_⟩;simp -dsimp[ha1,ho.symm,aH];refine bD _ (aQ (c5) (by simp)) ?_;simp -dsimp[hcz,aH,capG cs.length (by omega),wrapN cs.length (by omega)];refine aO (aX tok mixed [5,7] [(0,[1]),(1,[1])] [] (by kernel_rfl) fun C K hC hK=>?_);simp -implicitDefEqProofs [hnne,hne,hnow,cap32l r.vals.length (by omega)];refine hK _ _ ?_;simp -dsimp[hnow,hna,aH,show a<r.vals.length by omega];refine gD 5 [] 3 [1] rfl rfl (by simp) (by simp[hnow]) ?_;refine wx ?_;simp -dsimp[aT a (by omega)];refine hN3 (a+1) _ _ (by omega) (by omega) (by simp[hcs']) ⟨[B.cells [.int .i64 v.k,.int .i64 v.n,.str v.s],B.buf 43 3 (nx.map aH) true],by simp[hcs',hns,←hset,aH,aW,LV,hnm,av,dM]⟩ (by simp) (hrb9 _ _)
       ·obtain rfl:a=w:=by omega
        refine wx ?_;simp -dsimp[show ¬a<t.attrs.length by omega];refine hQ3 _ _ _ ?_;simp -dsimp[aT i (by omega)];refine hN2 (i+1) _ _ (by omega) (by omega) (by simp[hct']) ⟨[B.cells [.int .i64 r.id,.lst 3 false ((ap x.vals a r.vals).map aH)]],by simp[hct']⟩ (by simp) (hrb3 _)
    ·obtain rfl:i=t.rows.length:=by omega
     rw[ku];have hcl2:=hcl t.rows.length;rw[ku]at hcl2;rw[←hC0]at hcl2 ⊢;refine wx ?_;simp -dsimp[hb];refine hQ2 _ _ _ ?_;simp -dsimp[];refine aO (W_loopM 186 0x3fffffff8000000000000000000000000000000001c0100 (by simp[mB]<;>rfl) (σ:=Nat) (fun i=>i≤u.rows.length) (fun i=>u.rows.length-i) (fun i=>[(18,.int .i64 i),(8,.buf 2 0 (D++C0++cV t (u.rows.take i)).length (D++C0++cV t (u.rows.take i)).length)]) (fun i=>[B.cells [.str t.name,.lst 1 f (t.attrs.map V.str),.lst 2 g (t.rows.map aC)],B.cells [.str u.name,.lst 1 f' (u.attrs.map V.str),.lst 2 g' (u.rows.map aC)],B.buf 45 11 ((D++C0++cV t (u.rows.take i)).map (aW nm)) false]) 0 (by omega) (by simp[cV]) (by simp[cV]) (by simp) ?_);intro i hi N4 Q4 hN4 hQ4;by_cases hb2:i<u.rows.length
     ·have hst:=insL_snoc t hb2;have hi1:=hil i;obtain⟨r,hre⟩:∃r,r=u.rows[i]:=⟨_,rfl⟩;rw[←hre]at hst;have cgr:=cg r.id;obtain⟨k,hk⟩:∃k,k=(fnd t.rows r.id 0).1:=⟨_,rfl⟩;rw[←hk]at cgr;obtain⟨il,hile⟩:∃il,il=D++C0++cV t (u.rows.take i):=⟨_,rfl⟩
      have hst':D++C0++cV t (u.rows.take (i+1))=il++(if inT t r.id=true then [] else [⟨2,r,0,vl0⟩]):=by rw[hst,hile,←kz]
      have hill:il.length≤4000:=by rw[hile];simp only[kq];omega
      rw[←hile]
      cases hin:inT t r.id with
      | false =>
       have hin':(fnd t.rows r.id 0).2=false:=hin;rw[hin']at cgr;rw[hin,if_neg (by simp)]at hst';refine wx ?_;simp -dsimp[hb2,hre.symm,aC,LV];refine .inr ⟨aU (by kernel_rfl),?_⟩;refine bD _ (aQ (cgr) (by simp)) ?_;simp -dsimp[];refine aO (aX tok mixed [10] [] [] (by kernel_rfl) fun C K hC hK=>?_);simp -implicitDefEqProofs [hb2,hre.symm,aC,LV,capG il.length (by omega),wrapN il.length (by omega)];refine hK _ _ ?_;simp -dsimp[aT i (by omega)];refine hN4 (i+1) _ _ (by omega) (by omega) (by simp[hst']) ⟨[],by simp[hst',aW,aC,LV,vl0,hnm]⟩ (by simp) (hrb3 _)
      | true =>
       have hin':(fnd t.rows r.id 0).2=true:=hin;rw[hin']at cgr;rw[hin,if_pos rfl,kg]at hst';refine wx ?_;simp -dsimp[hb2,hre.symm,aC,LV];refine .inr ⟨aU (by kernel_rfl),?_⟩;refine bD _ (aQ (cgr) (by simp)) ?_;simp -dsimp[aT i (by omega)];refine hN4 (i+1) _ _ (by omega) (by omega) (by simp[hst']) ⟨[],by simp[hst']⟩ (by simp) (hrb3 _)
     ·obtain rfl:i=u.rows.length:=by omega
      rw[ku,←hI];refine W_frz 2 [8] rfl (by simp) ?_;refine wx ?_;simp -dsimp[hb2];refine hQ4 _ _ _ ?_;simp -dsimp[LCh];rintro x (⟨y,_,rfl⟩ | ⟨y,_,rfl⟩ | ⟨y,_,rfl⟩)<;>exact encChg_pure _ _
end
end Go.Proofs.YtpedcgdgjoblkaaGreatDoor
