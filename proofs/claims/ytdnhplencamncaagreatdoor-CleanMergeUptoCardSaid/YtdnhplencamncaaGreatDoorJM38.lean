/- JM38: own texts of this seat, joined and shortened by pack4.py: PR. -/
import Derived.Test.YtdnhplencamncaaGreatDoorJM25
set_option linter.unusedVariables false
set_option linter.unusedSimpArgs false
set_option maxRecDepth 100000
set_option maxHeartbeats 64000000
open List renaming replicate→oE,getElem?_eq_getElem→oG,getElem_mem→oI,not_mem_nil→oO,mem_cons→oR,length_append→oT,append_nil→oU,take_length→oY,append_assoc→oh,length_take→ot,length_set→pN,mem_or_eq_of_mem_set→pu,set_getElem_self→qQ,map_set→qw
open Nat renaming mul_le_mul→qy
namespace Go.Proofs.YtdnhplencamncaaGreatDoor
section
open Go Go.AM
theorem nowF_sz{tv now:List Vl}(h1:∀v∈tv,v.s.size≤maxLen)(h2:∀v∈now,v.s.size≤maxLen):∀{a:Nat},a≤tv.length→∀v∈ah tv a now,v.s.size≤maxLen
 | 0,_,v,hv=>h2 v hv
 | a+1,ha,v,hv=>by
  rcases pu hv with hv | rfl
  ·exact nowF_sz h1 h2 (by omega) v hv
  ·have e:atV tv a=tv[a]'(by omega):=by simp[atV,show a<tv.length by omega]
   rw[e];exact h1 _ (oI _)
theorem plan_r(t u:Tb)(f g f' g':Bool)(A:PlA t u)(hz:∀r∈t.rows,∀v∈r.vals,v.s.size≤maxLen)(hz2:∀r∈u.rows,∀v∈r.vals,v.s.size≤maxLen):aJ Tryz.prog 27 [aD f g t,aD f' g' u] fun r=>r = .tup [lE t u,.int .i64 (dD t u)]:=by
 have c1:=valid03 t f g A.ht;have c2:=valid03 u f' g' A.hu;have c3:=strings03 t.attrs u.attrs f f' A.ht.attrs;simp only[aD,LS,LR]at c1 c2 c3;by_cases h1:aG t=0
 case neg =>
  rw[df (by rw[iH h1];exact h1),iH h1];refine sPx Tryz.func27 rfl rfl ?_;simp -dsimp[Tryz.f27,oE,aD,LS,LR];refine cPx (c1) (by simp) ?_;simp -dsimp[h1]
 rw[h1]at c1;by_cases h2:aG u=0
 case neg =>
  rw[df (by rw[iG h1 h2];exact h2),iG h1 h2];refine sPx Tryz.func27 rfl rfl ?_;simp -dsimp[Tryz.f27,oE,aD,LS,LR];refine cPx (c1) (by simp) ?_;simp -dsimp[];refine cPx (c2) (by simp) ?_;simp -dsimp[h2]
 rw[h2]at c2
 cases hn:(t.name.toList == u.name.toList) with
 | false =>
  have he:=iF h1 h2 (by rw[dH,hn];rfl);rw[df (by rw[he];decide),he];refine sPx Tryz.func27 rfl rfl ?_;simp -dsimp[Tryz.f27,oE,aD,LS,LR];refine cPx (c1) (by simp) ?_;simp -dsimp[];refine cPx (c2) (by simp) ?_;simp -dsimp[hn]
 | true =>
 cases hs:iV t.attrs u.attrs with
 | false =>
  rw[hs]at c3;have he:=iF h1 h2 (by rw[hs];simp);rw[df (by rw[he];decide),he];refine sPx Tryz.func27 rfl rfl ?_;simp -dsimp[Tryz.f27,oE,aD,LS,LR];refine cPx (c1) (by simp) ?_;simp -dsimp[];refine cPx (c2) (by simp) ?_;simp -dsimp[hn];refine cPx (c3) (by simp) ?_;simp -dsimp[]
 | true =>
 rw[hs]at c3;have he:=plan_ok h1 h2 (by rw[dH,hn,hs];rfl);rw[planV_yes he,he];have hn':=eqSt_eq hn;obtain⟨w,hw⟩:∃w,w=t.attrs.length:=⟨_,rfl⟩
 have hwu:u.attrs.length=w:=by rw[hw];exact(eqSs_len hs).symm
 have hw16:w≤16:=by rw[hw];exact(tbC h1).wide
 have hvt:∀r∈t.rows,r.vals.length=w:=fun r hr=>by rw[hw];exact jO h1 r hr
 have hvu:∀r∈u.rows,r.vals.length=w:=fun r hr=>by rw[←hwu];exact jO h2 r hr
 have h8:=A.t8;have h8u:=A.u8
 have cf:=fun id=>find03 u f' g' id (by omega)
 have cg:=fun id=>find03 t f g id (by omega)
 obtain⟨nm,hnm⟩:∃nm,nm=t.name:=⟨_,rfl⟩
 have htB:∀n,rbB n (B.cells [.str t.name,.lst 1 f (t.attrs.map V.str),.lst 2 g (t.rows.map aC)]):=fun n c hc=>by
  simp only[oR,oO,or_false]at hc
  rcases hc with rfl | rfl | rfl<;>simp[rb,rb1]
 have huB:∀n,rbB n (B.cells [.str u.name,.lst 1 f' (u.attrs.map V.str),.lst 2 g' (u.rows.map aC)]):=fun n c hc=>by
  simp only[oR,oO,or_false]at hc
  rcases hc with rfl | rfl | rfl<;>simp[rb,rb1]
 have hdl:∀i,(eF u (t.rows.take i)).length≤1000:=fun i=>by
  have:=nY u (t.rows.take i);rw[ot]at this;omega
 have hcl:∀i,(chL u w (t.rows.take i)).length≤1000:=fun i=>by
  have:=mH u w (t.rows.take i);have h3:(t.rows.take i).length*w≤8*16:=qy (by rw[ot];omega) hw16;omega
 have hil:∀i,(dj t (u.rows.take i)).length≤1000:=fun i=>by
  have:=nB t (u.rows.take i);rw[ot]at this;omega
 simp only[aD,LS,LR]at cf cg;rw[←hnm]
 have hpl:eY t u=eF u t.rows++(chL u w t.rows++dj t u.rows):=by unfold eY;rw[←hw]
 rw[hpl];obtain⟨D,hD⟩:∃D,D=eF u t.rows:=⟨_,rfl⟩;obtain⟨C0,hC0⟩:∃C0,C0=chL u w t.rows:=⟨_,rfl⟩;obtain⟨I,hI⟩:∃I,I=dj t u.rows:=⟨_,rfl⟩;rw[←hD,←hC0,←hI]
 have hrb3:∀l:List Chg,∀bl∈[B.cells [.str t.name,.lst 1 f (t.attrs.map V.str),.lst 2 g (t.rows.map aC)],B.cells [.str u.name,.lst 1 f' (u.attrs.map V.str),.lst 2 g' (u.rows.map aC)],B.buf 81 11 (l.map (ae nm)) false],rbB 3 bl:=fun l bl hbl=>by
  simp only[oR,oO,or_false]at hbl
  rcases hbl with rfl | rfl | rfl
  ·exact htB _
  ·exact huB _
  ·exact iA _ _ _ _ _
 refine sPx Tryz.func27 rfl rfl ?_;simp -dsimp[Tryz.f27,oE,aD,LS,LR];refine cPx (c1) (by simp) ?_;simp -dsimp[];refine cPx (c2) (by simp) ?_;simp -dsimp[hn];refine cPx (c3) (by simp) ?_;simp -dsimp[];refine aI (eI 81 11 [8] (by simp) (W_loopM 75 0x7fffffff00000000f00 (by simp[mB]<;>rfl) (σ:=Nat) (fun i=>i≤t.rows.length) (fun i=>t.rows.length-i) (fun i=>[(9,.int .i64 i),(8,.buf 2 0 (eF u (t.rows.take i)).length (eF u (t.rows.take i)).length)]) (fun i=>[B.cells [.str t.name,.lst 1 f (t.attrs.map V.str),.lst 2 g (t.rows.map aC)],B.cells [.str u.name,.lst 1 f' (u.attrs.map V.str),.lst 2 g' (u.rows.map aC)],B.buf 81 11 ((eF u (t.rows.take i)).map (ae nm)) false]) 0 (by omega) (by simp[eF]) (by simp[eF]) (by simp) ?_))
 ·intro i hi N Q hN hQ;by_cases hb:i<t.rows.length
  ·have hst:=delL_snoc u hb;have hd1:=hdl i;obtain⟨r,hre⟩:∃r,r=t.rows[i]:=⟨_,rfl⟩;rw[←hre]at hst;have cfr:=cf r.id;obtain⟨dl,hdle⟩:∃dl,dl=eF u (t.rows.take i):=⟨_,rfl⟩;rw[←hdle]at hst hd1 ⊢;obtain⟨k,hk⟩:∃k,k=(fnd u.rows r.id 0).1:=⟨_,rfl⟩;rw[←hk]at cfr
   cases hin:inT u r.id with
   | false =>
    have hin':(fnd u.rows r.id 0).2=false:=hin;rw[hin']at cfr;rw[hin,if_neg (by simp)]at hst;refine wx ?_;simp -dsimp[hb,hre.symm,aC,LV];refine .inr ⟨aS (by kernel_rfl),?_⟩;refine az _ (aT (cfr) (by simp)) ?_;simp -dsimp[];refine aI (aX tok mixed [10] [] [] (by kernel_rfl) fun C K hC hK=>?_);simp -implicitDefEqProofs [hb,hre.symm,aC,LV,capG dl.length (by omega),jL dl.length (by omega)];refine hK _ _ ?_;simp -dsimp[aP i (by omega)];refine hN (i+1) _ _ (by omega) (by omega) (by simp[hst]) ⟨[],by simp[hst,ae,aC,LV,vl0,hnm]⟩ (by simp) (hrb3 _)
   | true =>
    have hin':(fnd u.rows r.id 0).2=true:=hin;rw[hin']at cfr;rw[hin,if_pos rfl,oU]at hst;refine wx ?_;simp -dsimp[hb,hre.symm,aC,LV];refine .inr ⟨aS (by kernel_rfl),?_⟩;refine az _ (aT (cfr) (by simp)) ?_;simp -dsimp[aP i (by omega)];refine hN (i+1) _ _ (by omega) (by omega) (by simp[hst]) ⟨[],by simp[hst]⟩ (by simp) (hrb3 _)
  ·obtain rfl:i=t.rows.length:=by omega
   rw[oY]
   have hDl:D.length≤1000:=by rw[hD];have:=hdl t.rows.length;rwa [oY]at this
   rw[←hD];refine wx ?_;simp -dsimp[hb];refine hQ _ _ _ ?_;simp -dsimp[];refine aI (W_loopM 155 0x7fffffffffffffffffff800000000000003f100 (by simp[mB]<;>rfl) (σ:=Nat) (fun i=>i≤t.rows.length) (fun i=>t.rows.length-i) (fun i=>[(12,.int .i64 i),(8,.buf 2 0 (D++chL u w (t.rows.take i)).length (D++chL u w (t.rows.take i)).length)]) (fun i=>[B.cells [.str t.name,.lst 1 f (t.attrs.map V.str),.lst 2 g (t.rows.map aC)],B.cells [.str u.name,.lst 1 f' (u.attrs.map V.str),.lst 2 g' (u.rows.map aC)],B.buf 81 11 ((D++chL u w (t.rows.take i)).map (ae nm)) false]) 0 (by omega) (by simp[chL]) (by simp[chL]) (by simp) ?_)
   ·intro i hi N2 Q2 hN2 hQ2;by_cases hb:i<t.rows.length
    ·have hct:=chL_snoc u w hb;have hc1:=hcl i;have hrl:=hvt _ (oI hb);have hrz:=hz _ (oI hb);obtain⟨r,hre⟩:∃r,r=t.rows[i]:=⟨_,rfl⟩;rw[←hre]at hct hrl hrz;have cfr:=cf r.id;obtain⟨cl,hcle⟩:∃cl,cl=D++chL u w (t.rows.take i):=⟨_,rfl⟩
     have hct':D++chL u w (t.rows.take (i+1))=cl++chR u w r:=by rw[hct,hcle,oh]
     have hcll:cl.length≤2000:=by rw[hcle,oT];omega
     rw[←hcle]
     cases hin:inT u r.id with
     | false =>
      have hin':(fnd u.rows r.id 0).2=false:=hin;obtain⟨k,hk⟩:∃k,k=(fnd u.rows r.id 0).1:=⟨_,rfl⟩;rw[hin',←hk]at cfr
      have hch:chR u w r=[]:=by unfold chR;rw[hin];rfl
      rw[hch,oU]at hct';refine wx ?_;simp -dsimp[hb,hre.symm,aC,LV];refine .inr ⟨aS (by kernel_rfl),?_⟩;refine az _ (aT (cfr) (by simp)) ?_;simp -dsimp[aP i (by omega)];refine hN2 (i+1) _ _ (by omega) (by omega) (by simp[hct']) ⟨[],by simp[hct']⟩ (by simp) (hrb3 _)
     | true =>
      have hin':(fnd u.rows r.id 0).2=true:=hin;have hkl:=iv 0 hin';rw[hin']at cfr;have hxm:rwG u.rows (fnd u.rows r.id 0).1∈u.rows:=(nJ 0 hin').2
      have hch:chR u w r=chP r.id (rwG u.rows (fnd u.rows r.id 0).1).vals w r.vals:=by unfold chR;rw[hin];rfl
      rw[hch]at hct';obtain⟨k,hk⟩:∃k,k=(fnd u.rows r.id 0).1:=⟨_,rfl⟩;rw[←hk]at cfr hct' hkl hxm;have hxl:=hvu _ hxm;have hxz:=hz2 _ hxm
      have hxe:u.rows[k]=rwG u.rows k:=by simp[rwG,hkl]
      obtain⟨x,hx⟩:∃x,x=rwG u.rows k:=⟨_,rfl⟩;rw[←hx]at hct' hxl hxe hxz;have hcn:=mG r.id x.vals r.vals
      have hne:r.vals=[]∨¬r.vals=[]:=by by_cases h:r.vals=[];exact .inl h;exact .inr h
      refine wx ?_;simp -dsimp[hb,hre.symm,aC,LV];refine .inr ⟨aS (by kernel_rfl),?_⟩;refine az _ (aT (cfr) (by simp)) ?_;simp -dsimp[]
      rcases hne with hne | hne
      case' inl =>
       refine aI (mJ (tkf 51) mixed [15,16] [(0,[1]),(1,[1]),(2,[1]),(3,[1]),(4,[1]),(5,[1]),(6,[1]),(7,[1]),(8,[1]),(9,[1]),(10,[1]),(11,[1]),(12,[1]),(13,[1])] [] (by kernel_rfl) fun C K hC hK=>?_);simp -implicitDefEqProofs [hb,hre.symm,aC,LV,hne,bM];refine hK _ _ ?_;simp -dsimp[bM]
      case' inr =>
       refine aI (mJ (tkf 51) mixed [15,16] [(0,[1]),(1,[1]),(2,[1]),(3,[1]),(4,[1]),(5,[1]),(6,[1]),(7,[1]),(8,[1]),(9,[1]),(10,[1]),(11,[1]),(12,[1]),(13,[1])] [] (by kernel_rfl) fun C K hC hK=>?_);simp -implicitDefEqProofs [hb,hre.symm,aC,LV,hne,cap32l r.vals.length (by omega),bM];refine hK _ _ ?_;simp -dsimp[bM]
      case' inl =>
       have hw0:w=0:=by rw[←hrl,hne];rfl
       refine aI (W_lf 3 _ [.int .i64 r.id,.lst 3 false (r.vals.map aF)] rfl (jf _) (by simp[LfL,lfB,hne]) (W_loopM 155 0x7ffffffffffc000000000000000000000030100 (by simp[mB]<;>rfl) (σ:=Nat) (fun a=>a≤w) (fun a=>w-a) (fun a=>[(16,.int .i64 a),(8,.buf 2 0 (cl++chP r.id x.vals a r.vals).length (cl++chP r.id x.vals a r.vals).length)]) (fun a=>[B.cells [.str t.name,.lst 1 f (t.attrs.map V.str),.lst 2 g (t.rows.map aC)],B.cells [.str u.name,.lst 1 f' (u.attrs.map V.str),.lst 2 g' (u.rows.map aC)],B.buf 81 11 ((cl++chP r.id x.vals a r.vals).map (ae nm)) false,B.cells [.int .i64 r.id,.lst 3 false ((ah x.vals a r.vals).map aF)]]) 0 (by omega) (by simp[chP]) (by simp[chP,ah]) (by simp) ?_));intro a ha N3 Q3 hN3 hQ3
       obtain rfl:a=w:=by omega
       refine wx ?_;simp -dsimp[show ¬a<t.attrs.length by omega];refine hQ3 _ _ _ ?_;simp -dsimp[aP i (by omega)];refine hN2 (i+1) _ _ (by omega) (by omega) (by simp[hct']) ⟨[B.cells [.int .i64 r.id,.lst 3 false ((ah x.vals a r.vals).map aF)]],by simp[hct']⟩ (by simp) (hrb3 _)
      case' inr =>
       refine aI (W_lf 3 _ [.int .i64 r.id,.lst 3 false (r.vals.map aF)] rfl (jf _) (by simp[LfL,lfB,hne]) (W_loopM 155 0x7ffffffffffc000000000000000000000030100 (by simp[mB]<;>rfl) (σ:=Nat) (fun a=>a≤w) (fun a=>w-a) (fun a=>[(16,.int .i64 a),(8,.buf 2 0 (cl++chP r.id x.vals a r.vals).length (cl++chP r.id x.vals a r.vals).length)]) (fun a=>[B.cells [.str t.name,.lst 1 f (t.attrs.map V.str),.lst 2 g (t.rows.map aC)],B.cells [.str u.name,.lst 1 f' (u.attrs.map V.str),.lst 2 g' (u.rows.map aC)],B.buf 81 11 ((cl++chP r.id x.vals a r.vals).map (ae nm)) false,B.cells [.int .i64 r.id,.lst 3 false ((ah x.vals a r.vals).map aF)]]) 0 (by omega) (by simp[chP]) (by simp[chP,ah]) (by simp) ?_));intro a ha N3 Q3 hN3 hQ3
       have hrb9:∀(l:List Chg) (vs:List Vl),∀bl∈[B.cells [.str t.name,.lst 1 f (t.attrs.map V.str),.lst 2 g (t.rows.map aC)],B.cells [.str u.name,.lst 1 f' (u.attrs.map V.str),.lst 2 g' (u.rows.map aC)],B.buf 81 11 (l.map (ae nm)) false,B.cells [.int .i64 r.id,.lst 3 false (vs.map aF)]],rbB 4 bl:=fun l vs bl hbl=>by
        simp only[oR,oO,or_false]at hbl
        rcases hbl with rfl | rfl | rfl | rfl
        ·exact htB _
        ·exact huB _
        ·exact iA _ _ _ _ _
        ·simp[rbB,rb,rb1]
       by_cases hab:a<w
       ·have hnow:=eZ x.vals r.vals a;have hcn1:=hcn a;have hcs:chP r.id x.vals (a+1) r.vals=chP r.id x.vals a r.vals++(if atV (ah x.vals a r.vals) a=atV x.vals a then [] else [⟨4,⟨r.id,ah x.vals a r.vals⟩,a,atV x.vals a⟩]):=rfl;have hns:ah x.vals (a+1) r.vals=(ah x.vals a r.vals).set a (atV x.vals a):=rfl;have hoz:∀v∈ah x.vals a r.vals,v.s.size≤maxLen:=nowF_sz hxz hrz (by omega);obtain⟨now,hnowe⟩:∃now,now=ah x.vals a r.vals:=⟨_,rfl⟩;obtain⟨cs,hcse⟩:∃cs,cs=cl++chP r.id x.vals a r.vals:=⟨_,rfl⟩
        have hcsl:cs.length≤3000:=by rw[hcse,oT];omega
        rw[←hnowe]at hcs hns hnow hoz ⊢;rw[←hcse]
        have hcs':cl++chP r.id x.vals (a+1) r.vals=cs++(if atV now a=atV x.vals a then [] else [⟨4,⟨r.id,now⟩,a,atV x.vals a⟩]):=by rw[hcs,hcse,oh]
        have ha1:a<now.length:=by omega
        have ha2:a<x.vals.length:=by omega
        have ha3:a<t.attrs.length:=by omega
        rw[kv ha1,kv ha2]at hcs';rw[kv ha2]at hns;obtain⟨v,hv⟩:∃v,v=x.vals[a]:=⟨_,rfl⟩;obtain⟨o,ho⟩:∃o,o=now[a]:=⟨_,rfl⟩;rw[←hv]at hcs' hns;rw[←ho]at hcs'
        have hna:now[a]?=some o:=by rw[ho];exact oG ha1
        have c5:=compare01 o v (hoz o (by rw[ho];exact oI ha1));simp only[aF]at c5;by_cases hq:o=v
        ·rw[if_pos hq,oU]at hcs';rw[hv,←hv,←hq,ho,qQ]at hns;rw[(cmpV_zero o v).2 hq]at c5;refine wx ?_;simp -dsimp[ha3,hkl,hxe,aC,LV,ha2,hv.symm,aF];refine .inr ⟨aS (by kernel_rfl),?_⟩;simp -dsimp[ha1,ho.symm,aF];refine az _ (aT (c5) (by simp)) ?_;simp -dsimp[aP a (by omega)];refine hN3 (a+1) _ _ (by omega) (by omega) (by simp[hcs']) ⟨[B.cells [.int .i64 v.k,.int .i64 v.n,.str v.s]],by simp[hcs',hns]⟩ (by simp) (hrb9 _ _)
        ·rw[if_neg hq]at hcs'
         have hcz:¬iY o v=0:=fun e=>hq ((cmpV_zero o v).1 e)
         obtain⟨nx,hnx⟩:∃nx,nx=now.set a v:=⟨_,rfl⟩
         have hset:(List.map aF now).set a (aF v)=List.map aF nx:=by rw[hnx,qw]
         have hnxl:nx.length=r.vals.length:=by rw[hnx,pN,hnow]
         rw[←hnx]at hns
         have hnne:¬now=[]:=by intro e;rw[e]at ha1;simp at ha1
         refine fh ?_;refine wx ?_;simp -dsimp[ha3];refine fh ?_;refine mK ?_;refine wx ?_;simp -dsimp[hkl,hxe,aC,LV,ha2,hv.symm,aF];refine .inr ⟨aS (by kernel_rfl),?_⟩;simp -dsimp[ha1,ho.symm,aF];refine az _ (aT (c5) (by simp)) ?_;simp -dsimp[hcz,aF,capG cs.length (by omega),jL cs.length (by omega)];refine aI (aX tok mixed [5,7] [(0,[1]),(1,[1])] [] (by kernel_rfl) fun C K hC hK=>?_);simp -implicitDefEqProofs [hnne,hne,hnow,cap32l r.vals.length (by omega)];refine hK _ _ ?_;simp -dsimp[hnow,hna,aF,show a<r.vals.length by omega];refine eG 5 [] 3 [1] rfl rfl (by simp) (by simp[hnow]) ?_;refine wx ?_;simp -dsimp[aP a (by omega)];refine hN3 (a+1) _ _ (by omega) (by omega) (by simp[hcs']) ⟨[B.cells [.int .i64 v.k,.int .i64 v.n,.str v.s],B.buf 79 3 (nx.map aF) true],by simp[hcs',hns,←hset,aF,ae,LV,hnm,bE,ey]⟩ (by simp) (hrb9 _ _)
       ·obtain rfl:a=w:=by omega
        refine wx ?_;simp -dsimp[show ¬a<t.attrs.length by omega];refine hQ3 _ _ _ ?_;simp -dsimp[aP i (by omega)];refine hN2 (i+1) _ _ (by omega) (by omega) (by simp[hct']) ⟨[B.cells [.int .i64 r.id,.lst 3 false ((ah x.vals a r.vals).map aF)]],by simp[hct']⟩ (by simp) (hrb3 _)
    ·obtain rfl:i=t.rows.length:=by omega
     rw[oY];have hcl2:=hcl t.rows.length;rw[oY]at hcl2;rw[←hC0]at hcl2 ⊢;refine wx ?_;simp -dsimp[hb];refine hQ2 _ _ _ ?_;simp -dsimp[];refine aI (W_loopM 186 0x3fffffff8000000000000000000000000000000001c0100 (by simp[mB]<;>rfl) (σ:=Nat) (fun i=>i≤u.rows.length) (fun i=>u.rows.length-i) (fun i=>[(18,.int .i64 i),(8,.buf 2 0 (D++C0++dj t (u.rows.take i)).length (D++C0++dj t (u.rows.take i)).length)]) (fun i=>[B.cells [.str t.name,.lst 1 f (t.attrs.map V.str),.lst 2 g (t.rows.map aC)],B.cells [.str u.name,.lst 1 f' (u.attrs.map V.str),.lst 2 g' (u.rows.map aC)],B.buf 81 11 ((D++C0++dj t (u.rows.take i)).map (ae nm)) false]) 0 (by omega) (by simp[dj]) (by simp[dj]) (by simp) ?_);intro i hi N4 Q4 hN4 hQ4;by_cases hb2:i<u.rows.length
     ·have hst:=insL_snoc t hb2;have hi1:=hil i;obtain⟨r,hre⟩:∃r,r=u.rows[i]:=⟨_,rfl⟩;rw[←hre]at hst;have cgr:=cg r.id;obtain⟨k,hk⟩:∃k,k=(fnd t.rows r.id 0).1:=⟨_,rfl⟩;rw[←hk]at cgr;obtain⟨il,hile⟩:∃il,il=D++C0++dj t (u.rows.take i):=⟨_,rfl⟩
      have hst':D++C0++dj t (u.rows.take (i+1))=il++(if inT t r.id=true then [] else [⟨2,r,0,vl0⟩]):=by rw[hst,hile,←oh]
      have hill:il.length≤4000:=by rw[hile];simp only[oT];omega
      rw[←hile]
      cases hin:inT t r.id with
      | false =>
       have hin':(fnd t.rows r.id 0).2=false:=hin;rw[hin']at cgr;rw[hin,if_neg (by simp)]at hst';refine wx ?_;simp -dsimp[hb2,hre.symm,aC,LV];refine .inr ⟨aS (by kernel_rfl),?_⟩;refine az _ (aT (cgr) (by simp)) ?_;simp -dsimp[];refine aI (aX tok mixed [10] [] [] (by kernel_rfl) fun C K hC hK=>?_);simp -implicitDefEqProofs [hb2,hre.symm,aC,LV,capG il.length (by omega),jL il.length (by omega)];refine hK _ _ ?_;simp -dsimp[aP i (by omega)];refine hN4 (i+1) _ _ (by omega) (by omega) (by simp[hst']) ⟨[],by simp[hst',ae,aC,LV,vl0,hnm]⟩ (by simp) (hrb3 _)
      | true =>
       have hin':(fnd t.rows r.id 0).2=true:=hin;rw[hin']at cgr;rw[hin,if_pos rfl,oU]at hst';refine wx ?_;simp -dsimp[hb2,hre.symm,aC,LV];refine .inr ⟨aS (by kernel_rfl),?_⟩;refine az _ (aT (cgr) (by simp)) ?_;simp -dsimp[aP i (by omega)];refine hN4 (i+1) _ _ (by omega) (by omega) (by simp[hst']) ⟨[],by simp[hst']⟩ (by simp) (hrb3 _)
     ·obtain rfl:i=u.rows.length:=by omega
      rw[oY,←hI];refine eo 2 [8] rfl (by simp) ?_;refine wx ?_;simp -dsimp[hb2];refine hQ4 _ _ _ ?_;simp -dsimp[LCh];rintro x (⟨y,_,rfl⟩ | ⟨y,_,rfl⟩ | ⟨y,_,rfl⟩)<;>exact encChg_pure _ _
end
end Go.Proofs.YtdnhplencamncaaGreatDoor
