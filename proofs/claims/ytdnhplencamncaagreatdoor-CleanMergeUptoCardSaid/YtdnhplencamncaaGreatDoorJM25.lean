/- JM25: own texts of this seat, joined and shortened by pack4.py: PC, TB, TL, StA, ST0, ST1, TC, TD, TE, TF, TG, TH, ST2, ST3, Sve. -/
import Derived.Test.YtdnhplencamncaaGreatDoorJM22
import Derived.Test.YtdnhplencamncaaGreatDoorJM23
import Derived.Test.YtdnhplencamncaaGreatDoorJM24
set_option linter.unusedVariables false
set_option linter.unusedSimpArgs false
set_option maxRecDepth 100000
set_option maxHeartbeats 64000000
open Bool renaming and_eq_true→oP
open ByteArray renaming empty→oF
open Int renaming eq_ofNat_of_zero_le→pU,toNat_natCast→qP
open List renaming replicate→oE,getElem?_eq_getElem→oG,mem_of_getElem?→oH,getElem_mem→oI,drop_eq_getElem_cons→oK,getElem?_append_left→oL,range→oM,take_succ_eq_append_getElem→oN,not_mem_nil→oO,getElem?_set_ne→oQ,mem_cons→oR,getElem?_append_right→oS,length_append→oT,append_nil→oU,length_map→oW,getElem?_set_self→oX,take_length→oY,getElem?_map→oc,map_append→oe,length_cons→og,append_assoc→oh,map_congr_left→oo,map_cons→oq,length_take→ot,set_cons_zero→oz,take_of_length_le→pA,set_cons_succ→pG,nil_append→pH,map_nil→pJ,getElem?_eq_none→pK,getElem?_cons_succ→pL,mem_singleton→pM,length_set→pN,ext_getElem?→pT,take_append_drop→pc,length_filter_le→pf,cons_append→pg,length_drop→pk,mem_of_mem_drop→pq,range_succ→pv,filter_append→qC,length_nil→qD,mem_filter→qF,set_getElem_self→qQ,getElem?_set→qY,map_take→qf,take→qi,map_set→qw,length_range→rC,filter_cons→rE,getElem_set→rF,flatMap_append→rH,getElem_of_mem→rI
open Nat renaming le_refl→oJ,zero_add→pI,lt_or_ge→pS,le_trans→pY,min_eq_left→qE,mul_le_mul→qy
open Option renaming map_some→pB
namespace Go.Proofs.YtdnhplencamncaaGreatDoor
section
open Go Go.AM
theorem capG(n:Nat)(h:n≤1000000):n≤9223372036854775806∧(n+1)*160≤140737488355328:=by omega
theorem wc_of{P:Program}{f:FuncId}{args:List V}{H:List B}{K K':V→List B→Prop}(h:aU P f args H K)(hk:∀r H',K r H'→K' r H'):aL P (.fn f []) args H K':=by
 simp only[aL,oU];exact h.mono hk
theorem chg_cells(nm:ByteArray)(c:Chg):(ae nm c).cells.length=11:=rfl
theorem iA(n e:Nat)(nm:ByteArray)(l:List Chg)(fz:Bool):rbB n (.buf e 11 (l.map (ae nm)) fz):=fun x hx=>by
 obtain⟨y,_,rfl⟩:=List.mem_map.1 hx;intro c hc;simp only[ae,LV,V.cells,oR,oO,or_false]at hc
 rcases hc with rfl | rfl | rfl | rfl | rfl | rfl | rfl | rfl | rfl | rfl | rfl<;>simp[rb1]
theorem LVb_rb(n e:Nat)(l:List Vl)(fz:Bool):rbB n (.buf e 3 (l.map aF) fz):=fun x hx=>by
 obtain⟨y,_,rfl⟩:=List.mem_map.1 hx;intro c hc;simp only[aF,V.cells,oR,oO,or_false]at hc
 rcases hc with rfl | rfl | rfl<;>simp[rb1]
structure PlA (t u:Tb):Prop where
 ht:TbOk t
 hu:TbOk u
 t8:t.rows.length≤8
 u8:u.rows.length≤8
theorem kv{l:List Vl}{a:Nat}(h:a<l.length):atV l a=l[a]:=by simp[atV,h]
theorem iH{t u:Tb}(h:¬aG t=0):dD t u=aG t:=by unfold dD;rw[if_neg h]
theorem iG{t u:Tb}(h:aG t=0)(h2:¬aG u=0):dD t u=aG u:=by unfold dD;rw[if_pos h,if_neg h2]
theorem iF{t u:Tb}(h:aG t=0)(h2:aG u=0)(h3:(dH t.name u.name&&iV t.attrs u.attrs)=false):dD t u=1:=by unfold dD;rw[if_pos h,if_pos h2,h3];rfl
theorem plan_ok{t u:Tb}(h:aG t=0)(h2:aG u=0)(h3:(dH t.name u.name&&iV t.attrs u.attrs)=true):dD t u=0:=by unfold dD;rw[if_pos h,if_pos h2,h3];rfl
theorem df{t u:Tb}(h:¬dD t u=0):lE t u = .nilS:=by unfold lE;rw[if_neg h]
theorem planV_yes{t u:Tb}(h:dD t u=0):lE t u=LCh false t.name (eY t u):=by unfold lE;rw[if_pos h]
theorem eqSs_len{a b:List ByteArray}(h:iV a b=true):a.length=b.length:=by
 unfold iV at h;rw[oP,decide_eq_true_iff]at h;exact h.1
theorem iv{rs:List Rw}{id:Int}(i:Nat):(fnd rs id i).2=true→(fnd rs id i).1<rs.length:=by
 fun_induction fnd rs id i with
 | case1 i hi he=>exact fun _=>hi
 | case2 i hi he ih=>exact ih
 | case3 i hi=>intro h;cases h
theorem jO{t:Tb}(h:aG t=0)(r:Rw)(hr:r∈t.rows):r.vals.length=t.attrs.length:=(tbC h).len r hr
theorem concat_eq(nm:ByteArray)(a b c:List Chg):cS [⟨false,a.map (ae nm)⟩,⟨false,b.map (ae nm)⟩,⟨false,c.map (ae nm)⟩]=(a++(b++c)).map (ae nm):=by
 simp[cS]
theorem plan_u(t u:Tb)(f g f' g':Bool)(A:PlA t u):aJ Tryz.prog 14 [aD f g t,aD f' g' u] fun r=>r = .tup [lE t u,.int .i64 (dD t u)]:=by
 have c1:=cI t f g A.ht;have c2:=cI u f' g' A.hu;have c3:=stringsEq_u t.attrs u.attrs f f' A.ht.attrs;simp only[aD,LS,LR]at c1 c2 c3;by_cases h1:aG t=0
 case neg =>
  rw[df (by rw[iH h1];exact h1),iH h1];refine sPx Tryz.func14 rfl rfl ?_;simp -dsimp[Tryz.f14,oE,aD,LS,LR];refine cPx (c1) (by simp) ?_;simp -dsimp[h1]
 rw[h1]at c1;by_cases h2:aG u=0
 case neg =>
  rw[df (by rw[iG h1 h2];exact h2),iG h1 h2];refine sPx Tryz.func14 rfl rfl ?_;simp -dsimp[Tryz.f14,oE,aD,LS,LR];refine cPx (c1) (by simp) ?_;simp -dsimp[];refine cPx (c2) (by simp) ?_;simp -dsimp[h2]
 rw[h2]at c2
 cases hn:(t.name.toList == u.name.toList) with
 | false =>
  have he:=iF h1 h2 (by rw[dH,hn];rfl);rw[df (by rw[he];decide),he];refine sPx Tryz.func14 rfl rfl ?_;simp -dsimp[Tryz.f14,oE,aD,LS,LR];refine cPx (c1) (by simp) ?_;simp -dsimp[];refine cPx (c2) (by simp) ?_;simp -dsimp[hn]
 | true =>
 cases hs:iV t.attrs u.attrs with
 | false =>
  rw[hs]at c3;have he:=iF h1 h2 (by rw[hs];simp);rw[df (by rw[he];decide),he];refine sPx Tryz.func14 rfl rfl ?_;simp -dsimp[Tryz.f14,oE,aD,LS,LR];refine cPx (c1) (by simp) ?_;simp -dsimp[];refine cPx (c2) (by simp) ?_;simp -dsimp[hn];refine cPx (c3) (by simp) ?_;simp -dsimp[]
 | true =>
 rw[hs]at c3;have he:=plan_ok h1 h2 (by rw[dH,hn,hs];rfl);rw[planV_yes he,he];have hn':=eqSt_eq hn;obtain⟨w,hw⟩:∃w,w=t.attrs.length:=⟨_,rfl⟩
 have hwu:u.attrs.length=w:=by rw[hw];exact(eqSs_len hs).symm
 have hw16:w≤16:=by rw[hw];exact(tbC h1).wide
 have hvt:∀r∈t.rows,r.vals.length=w:=fun r hr=>by rw[hw];exact jO h1 r hr
 have hvu:∀r∈u.rows,r.vals.length=w:=fun r hr=>by rw[←hwu];exact jO h2 r hr
 have h8:=A.t8;have h8u:=A.u8
 have cf:=fun id=>gB u f' g' id (by omega)
 have cg:=fun id=>gB t f g id (by omega)
 obtain⟨nm,hnm⟩:∃nm,nm=t.name:=⟨_,rfl⟩
 have htB:∀n,rbB n (B.cells [.str t.name,.lst 1 f (t.attrs.map V.str),.lst 2 g (t.rows.map aC)]):=fun n c hc=>by
  simp only[oR,oO,or_false]at hc
  rcases hc with rfl | rfl | rfl<;>simp[rb,rb1]
 have huB:∀n,rbB n (B.cells [.str u.name,.lst 1 f' (u.attrs.map V.str),.lst 2 g' (u.rows.map aC)]):=fun n c hc=>by
  simp only[oR,oO,or_false]at hc
  rcases hc with rfl | rfl | rfl<;>simp[rb,rb1]
 have hdl:∀i,(eF u (t.rows.take i)).length≤1000:=fun i=>by
  have:=nY u (t.rows.take i);rw[ot]at this;omega
 have hcl:∀i,(chL u w (t.rows.take i)).length≤1000:=fun i=>by
  have:=mH u w (t.rows.take i);have h3:(t.rows.take i).length*w≤8*16:=qy (by rw[ot];omega) hw16;omega
 have hil:∀i,(dj t (u.rows.take i)).length≤1000:=fun i=>by
  have:=nB t (u.rows.take i);rw[ot]at this;omega
 simp only[aD,LS,LR]at cf cg;rw[←hnm]
 have hpl:eY t u=eF u t.rows++(chL u w t.rows++dj t u.rows):=by unfold eY;rw[←hw]
 rw[hpl];obtain⟨D,hD⟩:∃D,D=eF u t.rows:=⟨_,rfl⟩;obtain⟨C0,hC0⟩:∃C0,C0=chL u w t.rows:=⟨_,rfl⟩;obtain⟨I,hI⟩:∃I,I=dj t u.rows:=⟨_,rfl⟩;rw[←hD,←hC0,←hI]
 have hrb4:∀(l m:List Chg),∀bl∈[B.cells [.str t.name,.lst 1 f (t.attrs.map V.str),.lst 2 g (t.rows.map aC)],B.cells [.str u.name,.lst 1 f' (u.attrs.map V.str),.lst 2 g' (u.rows.map aC)],B.buf 81 11 (l.map (ae nm)) false,B.buf 81 11 (m.map (ae nm)) false],rbB 4 bl:=fun l m bl hbl=>by
  simp only[oR,oO,or_false]at hbl
  rcases hbl with rfl | rfl | rfl | rfl
  ·exact htB _
  ·exact huB _
  ·exact iA _ _ _ _ _
  ·exact iA _ _ _ _ _
 refine sPx Tryz.func14 rfl rfl ?_;simp -dsimp[Tryz.f14,oE,aD,LS,LR];refine cPx (c1) (by simp) ?_;simp -dsimp[];refine cPx (c2) (by simp) ?_;simp -dsimp[hn];refine cPx (c3) (by simp) ?_;simp -dsimp[];refine aI (eI 81 11 [8] (by simp) (eI 81 11 [9] (by simp) (W_loopM 107 0x7ffffffffffffff00000003f300 (by simp[mB]<;>rfl) (σ:=Nat) (fun i=>i≤t.rows.length) (fun i=>t.rows.length-i) (fun i=>[(48,.int .i64 i),(8,.buf 2 0 (eF u (t.rows.take i)).length (eF u (t.rows.take i)).length),(9,.buf 3 0 (chL u w (t.rows.take i)).length (chL u w (t.rows.take i)).length)]) (fun i=>[B.cells [.str t.name,.lst 1 f (t.attrs.map V.str),.lst 2 g (t.rows.map aC)],B.cells [.str u.name,.lst 1 f' (u.attrs.map V.str),.lst 2 g' (u.rows.map aC)],B.buf 81 11 ((eF u (t.rows.take i)).map (ae nm)) false,B.buf 81 11 ((chL u w (t.rows.take i)).map (ae nm)) false]) 0 (by omega) (by simp[eF,chL]) (by simp[eF,chL]) (by simp) ?_)))
 ·intro i hi N Q hN hQ;by_cases hb:i<t.rows.length
  ·have hst:=delL_snoc u hb;have hct:=chL_snoc u w hb;have hd1:=hdl i;have hc1:=hcl i;have hrl:=hvt _ (oI hb);obtain⟨r,hre⟩:∃r,r=t.rows[i]:=⟨_,rfl⟩;rw[←hre]at hst hct hrl;have cfr:=cf r.id;obtain⟨dl,hdle⟩:∃dl,dl=eF u (t.rows.take i):=⟨_,rfl⟩;obtain⟨cl,hcle⟩:∃cl,cl=chL u w (t.rows.take i):=⟨_,rfl⟩;rw[←hdle]at hst hd1 ⊢;rw[←hcle]at hct hc1 ⊢
   cases hin:inT u r.id with
   | false =>
    have hin':(fnd u.rows r.id 0).2=false:=hin;rw[hin']at cfr;rw[hin,if_neg (by simp)]at hst
    have hch:chR u w r=[]:=by unfold chR;rw[hin];rfl
    rw[hch,oU]at hct;have hcp:=copied_p r (by omega);refine wx ?_;simp -dsimp[hb,hre.symm,aC,LV];refine cPx (cfr) (by simp) ?_;simp -dsimp[];refine aI (aX tok mixed [7] [] [(aC r,[])] (by kernel_rfl) fun C K hC hK=>?_);simp -implicitDefEqProofs [aC,LV,hnm.symm,capG dl.length (by omega),jL dl.length (by omega)];refine⟨hC _ _ _ _ (aT hcp (by simp)),hK _ _ ?_⟩;simp -dsimp[aP i (by omega)]
    refine hN (i+1) _ _ (by omega) (by omega) (by simp[hst,hct,hnm]) ⟨[B.cells [.int .i64 r.id,.lst 3 false (r.vals.map aF)]],by simp[hst,hct,ae,aC,LV,vl0,hnm]⟩ (by simp) (by
     intro bl hbl;simp only[oR,oO,or_false]at hbl
     rcases hbl with rfl | rfl | rfl | rfl
     ·exact htB _
     ·exact huB _
     ·exact iA _ _ _ _ _
     ·exact iA _ _ _ _ _)
   | true =>
    have hin':(fnd u.rows r.id 0).2=true:=hin;have hkl:=iv 0 hin';rw[hin']at cfr;rw[hin,if_pos rfl,oU]at hst;have hxm:rwG u.rows (fnd u.rows r.id 0).1∈u.rows:=(nJ 0 hin').2
    have hch:chR u w r=chP r.id (rwG u.rows (fnd u.rows r.id 0).1).vals w r.vals:=by unfold chR;rw[hin];rfl
    rw[hch]at hct;obtain⟨k,hk⟩:∃k,k=(fnd u.rows r.id 0).1:=⟨_,rfl⟩;rw[←hk]at cfr hct hkl hxm;have hxl:=hvu _ hxm
    have hxe:u.rows[k]=rwG u.rows k:=by simp[rwG,hkl]
    obtain⟨x,hx⟩:∃x,x=rwG u.rows k:=⟨_,rfl⟩;rw[←hx]at hct hxl hxe;have hcn:=mG r.id x.vals r.vals;refine wx ?_;simp -dsimp[hb,hre.symm,aC,LV];refine cPx (cfr) (by simp) ?_;simp -dsimp[];refine(wc_of (copied_o _ r (by omega)) (fun r H' h=>h)).mono ?_;rintro r' H' ⟨rfl,rfl⟩;simp -dsimp[hkl,hxe,cpB,aC,LV];refine aI (W_loopM 106 0x3ffffffc0000000000000030200 (by simp[mB]<;>rfl) (σ:=Nat) (fun a=>a≤w) (fun a=>w-a) (fun a=>[(78,.int .i64 a),(9,.buf 3 0 (cl++chP r.id x.vals a r.vals).length (cl++chP r.id x.vals a r.vals).length)]) (fun a=>[B.cells [.str t.name,.lst 1 f (t.attrs.map V.str),.lst 2 g (t.rows.map aC)],B.cells [.str u.name,.lst 1 f' (u.attrs.map V.str),.lst 2 g' (u.rows.map aC)],B.buf 81 11 (dl.map (ae nm)) false,B.buf 81 11 ((cl++chP r.id x.vals a r.vals).map (ae nm)) false,B.cells [.int .i64 r.id,.lst 3 false (r.vals.map aF)],B.cells [.int .i64 r.id,.lst 3 false (r.vals.map aF)],B.cells [.int .i64 r.id,.buf 7 0 r.vals.length r.vals.length],B.buf 79 3 ((ah x.vals a r.vals).map aF) false,B.cells [.int .i64 r.id,.buf 7 0 r.vals.length r.vals.length]]) 0 (by omega) (by simp[chP]) (by simp[chP,ah,LV]) (by simp) ?_);intro a ha N2 Q2 hN2 hQ2
    have hrb9:∀(l m:List Chg) (vs:List Vl),∀bl∈[B.cells [.str t.name,.lst 1 f (t.attrs.map V.str),.lst 2 g (t.rows.map aC)],B.cells [.str u.name,.lst 1 f' (u.attrs.map V.str),.lst 2 g' (u.rows.map aC)],B.buf 81 11 (l.map (ae nm)) false,B.buf 81 11 (m.map (ae nm)) false,B.cells [.int .i64 r.id,.lst 3 false (r.vals.map aF)],B.cells [.int .i64 r.id,.lst 3 false (r.vals.map aF)],B.cells [.int .i64 r.id,.buf 7 0 r.vals.length r.vals.length],B.buf 79 3 (vs.map aF) false,B.cells [.int .i64 r.id,.buf 7 0 r.vals.length r.vals.length]],rbB 9 bl:=fun l m vs bl hbl=>by
     simp only[oR,oO,or_false]at hbl
     rcases hbl with rfl | rfl | rfl | rfl | rfl | rfl | rfl | rfl | rfl
     ·exact htB _
     ·exact huB _
     ·exact iA _ _ _ _ _
     ·exact iA _ _ _ _ _
     ·simp[rbB,rb,rb1]
     ·simp[rbB,rb,rb1]
     ·simp[rbB,rb,rb1]
     ·exact LVb_rb _ _ _ _
     ·simp[rbB,rb,rb1]
    by_cases hab:a<w
    ·have hnow:=eZ x.vals r.vals a;have hcn1:=hcn a;have hcs:chP r.id x.vals (a+1) r.vals=chP r.id x.vals a r.vals++(if atV (ah x.vals a r.vals) a=atV x.vals a then [] else [⟨4,⟨r.id,ah x.vals a r.vals⟩,a,atV x.vals a⟩]):=rfl;have hns:ah x.vals (a+1) r.vals=(ah x.vals a r.vals).set a (atV x.vals a):=rfl;obtain⟨now,hnowe⟩:∃now,now=ah x.vals a r.vals:=⟨_,rfl⟩;obtain⟨cs,hcse⟩:∃cs,cs=cl++chP r.id x.vals a r.vals:=⟨_,rfl⟩
     have hcsl:cs.length≤2000:=by rw[hcse,oT];omega
     rw[←hnowe]at hcs hns hnow ⊢;rw[←hcse]
     have hcs':cl++chP r.id x.vals (a+1) r.vals=cs++(if atV now a=atV x.vals a then [] else [⟨4,⟨r.id,now⟩,a,atV x.vals a⟩]):=by rw[hcs,hcse,oh]
     have ha1:a<now.length:=by omega
     have ha2:a<x.vals.length:=by omega
     rw[kv ha1,kv ha2]at hcs';rw[kv ha2]at hns;obtain⟨v,hv⟩:∃v,v=x.vals[a]:=⟨_,rfl⟩;obtain⟨o,ho⟩:∃o,o=now[a]:=⟨_,rfl⟩;rw[←hv]at hcs' hns;rw[←ho]at hcs'
     have hlen:(List.map aF now).length=r.vals.length:=by rw[oW,hnow]
     have e1:=fun H=>eqVl9 H o v
     have hna:now[a]?=some o:=by rw[ho];exact oG ha1
     by_cases hq:o=v
     ·rw[if_pos hq,oU]at hcs';rw[hv,←hv,←hq,ho,qQ]at hns;refine wx ?_;simp -dsimp[hab,ha2,hv.symm,aF,show a<r.vals.length by omega];refine .inr ⟨aS (by kernel_rfl),?_⟩;simp -dsimp[hnow,hna,aF,e1,show decide (o=v)=true by simp[hq],aP a (by omega)];refine hN2 (a+1) _ _ (by omega) (by omega) (by simp[hcs']) ⟨[B.cells [.int .i64 v.k,.int .i64 v.n,.str v.s]],by simp[hcs',hns]⟩ (by simp) (hrb9 _ _ _)
     ·rw[if_neg hq]at hcs';obtain⟨nx,hnx⟩:∃nx,nx=now.set a v:=⟨_,rfl⟩
      have hset:(List.map aF now).set a (aF v)=List.map aF nx:=by rw[hnx,qw]
      rw[←hnx]at hns;refine wx ?_;simp -dsimp[hab,ha2,hv.symm,aF,show a<r.vals.length by omega];refine .inr ⟨aS (by kernel_rfl),?_⟩;simp -dsimp[hnow,hna,aF,e1,show decide (o=v)=false by simp[hq]];have cpf:=copied_f [B.cells [.str t.name,.lst 1 f (t.attrs.map V.str),.lst 2 g (t.rows.map aC)],B.cells [.str u.name,.lst 1 f' (u.attrs.map V.str),.lst 2 g' (u.rows.map aC)],B.buf 81 11 (dl.map (ae nm)) false,B.buf 81 11 (cs.map (ae nm)) false,B.cells [.int .i64 r.id,.lst 3 false (r.vals.map aF)],B.cells [.int .i64 r.id,.lst 3 false (r.vals.map aF)],B.cells [.int .i64 r.id,.buf 7 0 r.vals.length r.vals.length],B.buf 79 3 (now.map aF) false,B.cells [.int .i64 r.id,.buf 7 0 r.vals.length r.vals.length],B.cells [.int .i64 v.k,.int .i64 v.n,.str v.s]] 7 r.id now rfl (by omega);rw[hnow]at cpf;simp only[cpB,og,qD,hnow,pg,pH]at cpf;refine aI (aX tok mixed [4,9] [(2,[1]),(6,[0])] [(.agg [.int .i64 r.id,.lst 3 false (now.map aF)],[B.cells [.str t.name,.lst 1 f (t.attrs.map V.str),.lst 2 g (t.rows.map aC)],B.cells [.str u.name,.lst 1 f' (u.attrs.map V.str),.lst 2 g' (u.rows.map aC)],B.buf 81 11 (dl.map (ae nm)) false,B.buf 81 11 (cs.map (ae nm)) false,B.cells [.int .i64 r.id,.lst 3 false (r.vals.map aF)],B.cells [.int .i64 r.id,.lst 3 false (r.vals.map aF)],B.cells [.int .i64 r.id,.buf 7 0 r.vals.length r.vals.length],B.buf 79 3 (now.map aF) false,B.cells [.int .i64 r.id,.buf 7 0 r.vals.length r.vals.length],B.cells [.int .i64 v.k,.int .i64 v.n,.str v.s],B.cells [.int .i64 r.id,.buf 7 0 r.vals.length r.vals.length],B.cells [.int .i64 r.id,.buf 12 0 r.vals.length r.vals.length],B.buf 79 3 (now.map aF) true])] (by kernel_rfl) fun C K hC hK=>?_);simp -implicitDefEqProofs [aF,capG cs.length (by omega),jL cs.length (by omega)];refine⟨hC _ _ _ _ cpf,hK _ _ ?_⟩;simp -dsimp[hnow,hna,aF,aP a (by omega),show a<r.vals.length by omega];refine hN2 (a+1) _ _ (by omega) (by omega) (by simp[hcs']) ⟨[B.cells [.int .i64 v.k,.int .i64 v.n,.str v.s],B.cells [.int .i64 r.id,.buf 7 0 r.vals.length r.vals.length],B.cells [.int .i64 r.id,.buf 12 0 r.vals.length r.vals.length],B.buf 79 3 (now.map aF) true],by simp[hcs',hns,←hset,aF,ae,LV,hnm,bE,ey]⟩ (by simp) (hrb9 _ _ _)
    ·obtain rfl:a=w:=by omega
     refine wx ?_;simp -dsimp[show ¬(a<x.vals.length) by omega];refine hQ2 _ _ _ ?_;simp -dsimp[aP i (by omega)];refine hN (i+1) _ _ (by omega) (by omega) (by simp[hst,hct]) ⟨[B.cells [.int .i64 r.id,.lst 3 false (r.vals.map aF)],B.cells [.int .i64 r.id,.lst 3 false (r.vals.map aF)],B.cells [.int .i64 r.id,.buf 7 0 r.vals.length r.vals.length],B.buf 79 3 ((ah x.vals a r.vals).map aF) false,B.cells [.int .i64 r.id,.buf 7 0 r.vals.length r.vals.length]],by simp[hst,hct]⟩ (by simp) (hrb4 _ _)
  ·obtain rfl:i=t.rows.length:=by omega
   rw[oY];have hDl:=hdl t.rows.length;have hCl:=hcl t.rows.length;have hIl:=hil u.rows.length;rw[oY]at hDl hCl hIl;rw[←hD]at hDl ⊢;rw[←hC0]at hCl ⊢;refine wx ?_;simp -dsimp[hb];refine hQ _ _ _ ?_;simp -dsimp[];refine aI (eI 81 11 [10] (by simp) (W_loopM 132 0xfffffc000000000000000000000380400 (by simp[mB]<;>rfl) (σ:=Nat) (fun i=>i≤u.rows.length) (fun i=>u.rows.length-i) (fun i=>[(110,.int .i64 i),(10,.buf 4 0 (dj t (u.rows.take i)).length (dj t (u.rows.take i)).length)]) (fun i=>[B.cells [.str t.name,.lst 1 f (t.attrs.map V.str),.lst 2 g (t.rows.map aC)],B.cells [.str u.name,.lst 1 f' (u.attrs.map V.str),.lst 2 g' (u.rows.map aC)],B.buf 81 11 (D.map (ae nm)) false,B.buf 81 11 (C0.map (ae nm)) false,B.buf 81 11 ((dj t (u.rows.take i)).map (ae nm)) false]) 0 (by omega) (by simp[dj]) (by simp[dj]) (by simp) ?_));intro i hi N2 Q2 hN2 hQ2
   have hrb5:∀(l m k:List Chg),∀bl∈[B.cells [.str t.name,.lst 1 f (t.attrs.map V.str),.lst 2 g (t.rows.map aC)],B.cells [.str u.name,.lst 1 f' (u.attrs.map V.str),.lst 2 g' (u.rows.map aC)],B.buf 81 11 (l.map (ae nm)) false,B.buf 81 11 (m.map (ae nm)) false,B.buf 81 11 (k.map (ae nm)) false],rbB 5 bl:=fun l m k bl hbl=>by
    simp only[oR,oO,or_false]at hbl
    rcases hbl with rfl | rfl | rfl | rfl | rfl
    ·exact htB _
    ·exact huB _
    ·exact iA _ _ _ _ _
    ·exact iA _ _ _ _ _
    ·exact iA _ _ _ _ _
   by_cases hb2:i<u.rows.length
   ·have hst:=insL_snoc t hb2;have hi1:=hil i;have hrl:=hvu _ (oI hb2);obtain⟨r,hre⟩:∃r,r=u.rows[i]:=⟨_,rfl⟩;rw[←hre]at hst hrl;have cgr:=cg r.id;obtain⟨k,hk⟩:∃k,k=(fnd t.rows r.id 0).1:=⟨_,rfl⟩;rw[←hk]at cgr;obtain⟨il,hile⟩:∃il,il=dj t (u.rows.take i):=⟨_,rfl⟩;rw[←hile]at hst hi1 ⊢
    cases hin:inT t r.id with
    | false =>
     have hin':(fnd t.rows r.id 0).2=false:=hin;rw[hin']at cgr;rw[hin,if_neg (by simp)]at hst;have hcp:=copied_p r (by omega);refine wx ?_;simp -dsimp[hb2,hre.symm,aC,LV];refine cPx (cgr) (by simp) ?_;simp -dsimp[];refine aI (aX tok mixed [7] [] [(aC r,[])] (by kernel_rfl) fun C K hC hK=>?_);simp -implicitDefEqProofs [aC,LV,capG il.length (by omega),jL il.length (by omega)];refine⟨hC _ _ _ _ (aT hcp (by simp)),hK _ _ ?_⟩;simp -dsimp[aP i (by omega)];refine hN2 (i+1) _ _ (by omega) (by omega) (by simp[hst]) ⟨[B.cells [.int .i64 r.id,.lst 3 false (r.vals.map aF)]],by simp[hst,ae,aC,LV,vl0,hnm]⟩ (by simp) (hrb5 _ _ _)
    | true =>
     have hin':(fnd t.rows r.id 0).2=true:=hin;rw[hin']at cgr;rw[hin,if_pos rfl,oU]at hst;refine wx ?_;simp -dsimp[hb2,hre.symm,aC,LV];refine cPx (cgr) (by simp) ?_;simp -dsimp[aP i (by omega)];refine hN2 (i+1) _ _ (by omega) (by omega) (by simp[hst]) ⟨[B.cells [.int .i64 r.id,.lst 3 false (r.vals.map aF)]],by simp[hst]⟩ (by simp) (hrb5 _ _ _)
   ·obtain rfl:i=u.rows.length:=by omega
    rw[oY];rw[←hI]at hIl ⊢
    have hcc:=concat_G [⟨false,D.map (ae nm)⟩,⟨false,C0.map (ae nm)⟩,⟨false,I.map (ae nm)⟩] true (fun l hl x hx=>by
     simp only[oR,oO,or_false]at hl
     rcases hl with rfl | rfl | rfl<;>(obtain⟨y,_,rfl⟩:=List.mem_map.1 hx;exact⟨encChg_pure _ _,encChg_oneV _ _,chg_cells _ _⟩)) (by simp) (by rw[concat_eq];simp;omega)
    rw[concat_eq]at hcc;refine eo 2 [8] rfl (by simp) ?_;refine eo 3 [9] rfl (by simp) ?_;refine eo 4 [10] rfl (by simp) ?_;simp only[oq,pJ,eB]at hcc;refine wx ?_;simp -dsimp[hb2];refine hQ2 _ _ _ ?_;simp -dsimp[];refine cPx (hcc) (by simp) ?_;simp -dsimp[LCh];rintro x (⟨y,_,rfl⟩ | ⟨y,_,rfl⟩ | ⟨y,_,rfl⟩)<;>exact encChg_pure _ _
theorem with_t(t:Tb)(rs:List Rw)(f g h:Bool)(ha:t.attrs.length≤1000000)(hr:rs.length≤1000000)(hv:∀r∈rs,r.vals.length≤1000000):aJ Tryz.prog 117 [aD f g t,LR h rs] fun x=>x=aD false false ⟨t.name,t.attrs,rs⟩:=by
 have cc:=jz t.attrs f ha;simp only[LS]at cc;refine sPx Tryz.func117 rfl rfl ?_;simp -dsimp[Tryz.f117,oE,aD,LS,LR];refine aI (aX tok mixed [6,7] [(0,[1]),(1,[1]),(2,[1]),(3,[1]),(4,[1]),(5,[1])] [(.lst 1 false (t.attrs.map V.str),[])] (by kernel_rfl) fun C K hC hK=>?_);simp -implicitDefEqProofs [];refine⟨⟨hC _ _ _ _ (aT cc (by simp)),hC _ _ _ _ (aT cc (by simp))⟩,hK _ _ ?_⟩;simp -dsimp[];refine aI (dL 53 2 [] 2 [2] rfl (cD _ _) (by simp) (W_loopM 28 0xfff3080 (by simp[mB]<;>rfl) (σ:=Nat) (fun i=>i≤rs.length) (fun i=>rs.length-i) (fun i=>[(16,.int .i64 i)]) (fun i=>[B.cells [.str t.name,.lst 1 f (t.attrs.map V.str),.lst 2 g (t.rows.map aC)],B.cells [.str oF,.nilS,.nilS],B.cells [.str t.name,.lst 1 false (t.attrs.map V.str),.buf 3 0 i i],B.buf 53 2 ((rs.take i).map aC) false]) 0 (by omega) (by simp) (by simp) (by simp) ?_));intro i hi N Q hN hQ
 have hli:(rs.take i).length=i:=by simp;omega
 by_cases hb:i<rs.length
 ·have hst:rs.take (i+1)=rs.take i++[rs[i]]:=oN hb;have hc:=na rs[i] (hv _ (oI hb));obtain⟨l,hl⟩:∃l,l=rs.take i:=⟨_,rfl⟩;rw[←hl]at hst hli ⊢;refine wx ?_;simp -dsimp[hb];refine aI (aX tok mixed [5,7] [] [(aC rs[i],[])] (by kernel_rfl) fun C K hC hK=>?_);simp -implicitDefEqProofs [hb,aC,LV,hli,nt i (by omega)];refine⟨hC _ _ _ _ (aT hc (by simp)),hK _ _ ?_⟩;simp -dsimp[aP i (by omega)];refine hN (i+1) _ _ (by omega) (by omega) ?_ ⟨[B.cells [.int .i64 rs[i].id,.lst 3 false (rs[i].vals.map aF)]],?_⟩ ?_ ?_<;>simp[or_imp,forall_and,L1,aQ,hst,aC,LV]
 ·obtain rfl:i=rs.length:=by omega
  rw[oY];refine eG 3 [] 2 [2] rfl rfl (by simp) (by simp) ?_;refine wx ?_;simp -dsimp[hb];refine hQ _ _ _ ?_;simp -dsimp[];simp only[aD,LS,LR]
theorem dt{rs:List Rw}{i:Nat}(h:i<rs.length):rwG rs i=rs[i]:=by simp[rwG,h]
theorem del_ix{rs:List Rw}(hs:Srt rs){i:Nat}(h:i<rs.length):eE rs rs[i].id=rs.take i++rs.drop (i+1):=by
 have hp:=List.pairwise_iff_getElem.1 hs
 have h1:∀r∈rs.take i,r.id<rs[i].id:=fun r hr=>by
  obtain⟨j,hj,rfl⟩:=rI hr;rw[ot]at hj;rw[List.getElem_take];exact hp j i (by omega) h (by omega)
 have h2:∀r∈rs.drop (i+1),rs[i].id<r.id:=fun r hr=>by
  obtain⟨j,hj,rfl⟩:=rI hr;rw[pk]at hj;rw[List.getElem_drop];exact hp i (i+1+j) h (by omega) (by omega)
 obtain⟨x,hx⟩:∃x,x=rs[i]:=⟨_,rfl⟩
 have e:rs=rs.take i++x::rs.drop (i+1):=by rw[hx,←oK h,pc]
 rw[←hx]at h1 h2 ⊢;unfold eE;have e2:=congrArg (List.filter fun r:Rw=>!decide (r.id=x.id)) e;rw[e2,qC,rE,if_neg (by simp)];congr 1
 ·refine List.filter_eq_self.2 fun r hr=>?_
  have:=h1 r hr;simp;omega
 ·refine List.filter_eq_self.2 fun r hr=>?_
  have:=h2 r hr;simp;omega
def zTb:V:=.agg [.str oF,.nilS,.nilS]
def delV(t:Tb)(id:Int):V:=if inT t id=true then .tup [aD false false (wrT t (eE t.rows id)),.int .i64 0] else .tup [zTb,.int .i64 4]
theorem delete_u(t:Tb)(f g:Bool)(id:Int)(hv:aG t=0)(hk:TbOk t):aJ Tryz.prog 131 [aD f g t,.int .i64 id] fun r=>r=delV t id:=by
 have c1:=cI t f g hk;rw[hv]at c1;have hr:=cX hv;have hvr:=ay hv;have hw:=(tbC hv).wide;have cf:=gB t f g id (by omega);simp only[aD,LS,LR]at c1 cf;unfold delV inT
 cases hin:(fnd t.rows id 0).2 with
 | false =>
  rw[hin]at cf;rw[if_neg (by simp)];refine sPx Tryz.func131 rfl rfl ?_;simp -dsimp[Tryz.f131,oE,aD,LS,LR,zTb];refine cPx (c1) (by simp) ?_;simp -dsimp[];refine cPx (cf) (by simp) ?_;simp -dsimp[];rfl
 | true =>
  have hkl:=iv 0 hin;obtain⟨hid,hmem⟩:=nJ 0 hin;rw[hin]at cf;rw[if_pos rfl];obtain⟨k,hke⟩:∃k,k=(fnd t.rows id 0).1:=⟨_,rfl⟩;rw[←hke]at cf hkl hid;rw[dt hkl]at hid;have hdx:=del_ix (bV hv) hkl;rw[hid]at hdx;have hdl:(eE t.rows id).length≤1000:=pY (pf _ _) hr
  have cw:=with_t t (eE t.rows id) f g false hk.attrs (by omega) (fun r hr=>by
   have:=(hvr r (fq.1 hr).1).2.1
   omega)
  obtain⟨D,hD⟩:∃D,D=eE t.rows id:=⟨_,rfl⟩;rw[←hD]at cw hdx ⊢;simp only[aD,LS,LR]at cw;refine sPx Tryz.func131 rfl rfl ?_;simp -dsimp[Tryz.f131,oE,aD,LS,LR,wrT];refine cPx (c1) (by simp) ?_;simp -dsimp[];refine cPx (cf) (by simp) ?_;simp -dsimp[]
  have cc:=concat_R [⟨g&&(k == t.rows.length),(t.rows.take k).map aC⟩,⟨g,(t.rows.drop (k+1)).map aC⟩] true (fun l hl x hx=>by
   simp only[oR,oO,or_false]at hl
   rcases hl with rfl | rfl<;>(obtain⟨y,_,rfl⟩:=List.mem_map.1 hx;exact⟨encRw_pure _,encRw_oneV _,rfl⟩)) (by simp) (by simp[cM];omega)
  have e3:cM [⟨g&&(k == t.rows.length),(t.rows.take k).map aC⟩,⟨g,(t.rows.drop (k+1)).map aC⟩]=D.map aC:=by rw[hdx];simp[cM]
  rw[e3]at cc;simp only[oq,pJ,dz,qf,List.map_drop]at cc;have htk:qi t.rows.length (t.rows.map aC)=t.rows.map aC:=pA (by simp);refine aI (aX tok mixed [13] [] [(.lst 2 false (D.map aC),[]),(.agg [.str t.name,.lst 1 false (t.attrs.map V.str),.lst 2 false (D.map aC)],[])] (by kernel_rfl) fun C K hC hK=>?_);simp -implicitDefEqProofs [hkl,aP k (by omega),show k≤t.rows.length by omega,show(0:Int)≤(k:Int)+1 by omega,show k+1≤t.rows.length by omega,htk];refine⟨⟨hC _ _ _ _ (aT cc ?_),hC _ _ _ _ (aT cw (by simp))⟩,hK _ _ ?_⟩
  ·intro x hx;rw[pM]at hx;subst hx
   refine .lst _ _ _ fun y hy=>?_
   simp only[oR,oO,or_false]at hy
   rcases hy with rfl | rfl
   ·rw[←qf];exact LR_pure _ _
   ·rw[←List.map_drop];exact LR_pure _ _
  simp -dsimp[];rfl
def bsR(rs:List Rw)(id:Int)(lo hi:Nat):Nat:=if h:lo<hi then(if(rwG rs ((lo+hi) / 2)).id<id then bsR rs id ((lo+hi) / 2+1) hi else bsR rs id lo ((lo+hi) / 2)) else lo
termination_by hi-lo
theorem kE{rs:List Rw}(hs:Srt rs)(id:Int):∀(d lo hi:Nat),hi-lo≤d→lo≤hi→hi≤rs.length→(∀j,∀h:j<rs.length,j<lo→rs[j].id<id)→(∀j,∀h:j<rs.length,hi≤j→¬rs[j].id<id)→
  lo≤bsR rs id lo hi∧bsR rs id lo hi≤hi∧(∀j,∀h:j<rs.length,j<bsR rs id lo hi→rs[j].id<id)∧(∀j,∀h:j<rs.length,bsR rs id lo hi≤j→¬rs[j].id<id)
 | d,lo,hi,hd,h1,h2,h3,h4=>by
  have hp:=List.pairwise_iff_getElem.1 hs;rw[bsR];split
  ·rename_i hb
   cases d with
   | zero=>omega
   | succ d =>
   obtain⟨m,hm⟩:∃m,m=(lo+hi) / 2:=⟨_,rfl⟩;rw[←hm]
   have hml:m<rs.length:=by omega
   have hgm:rwG rs m=rs[m]:=by simp[rwG,hml]
   rw[hgm];split
   ·rename_i hq
    obtain⟨a,b,c,e⟩:=kE hs id d (m+1) hi (by omega) (by omega) h2 (fun j hj hjm=>by
     rcases pS j m with q | q
     ·have:=hp j m hj hml q;omega
     ·have:j=m:=by omega
      subst this;exact hq) h4
    exact⟨by omega,b,c,e⟩
   ·rename_i hq
    obtain⟨a,b,c,e⟩:=kE hs id d lo m (by omega) (by omega) (by omega) h3 (fun j hj hjm=>by
     rcases pS m j with q | q
     ·have:=hp m j hml hj q;omega
     ·have:j=m:=by omega
      subst this;exact hq)
    exact⟨a,by omega,c,e⟩
  ·rename_i hb
   have:hi=lo:=by omega
   subst this;exact⟨oJ _,oJ _,h3,h4⟩
def plR(rs:List Rw)(id:Int):Nat:=bsR rs id 0 rs.length
theorem plR_le{rs:List Rw}(hs:Srt rs)(id:Int):plR rs id≤rs.length:=(kE hs id rs.length 0 rs.length (by omega) (by omega) (oJ _) (fun j _ h=>absurd h (by omega)) (fun j h1 h2=>absurd h1 (by omega))).2.1
theorem ins_ix{rs:List Rw}(hs:Srt rs){r:Rw}(hn:∀s∈rs,¬s.id=r.id):fw rs r=rs.take (plR rs r.id)++r::rs.drop (plR rs r.id):=by
 obtain⟨_,hle,h3,h4⟩:=kE hs r.id rs.length 0 rs.length (by omega) (by omega) (oJ _) (fun j _ h=>absurd h (by omega)) (fun j h1 h2=>absurd h1 (by omega));obtain⟨p,hp⟩:∃p,p=plR rs r.id:=⟨_,rfl⟩;have hp':bsR rs r.id 0 rs.length=p:=hp.symm;rw[hp']at hle h3 h4;rw[←hp]
 have h1:∀s∈rs.take p,s.id<r.id:=fun s hs=>by
  obtain⟨j,hj,rfl⟩:=rI hs;rw[ot]at hj;rw[List.getElem_take];exact h3 j (by omega) (by omega)
 have h2:∀s∈rs.drop p,r.id<s.id:=fun s hs=>by
  have hne:=hn s (pq hs);obtain⟨j,hj,rfl⟩:=rI hs;rw[pk]at hj;rw[List.getElem_drop]at hne ⊢;have:=h4 (p+j) (by omega) (by omega);omega
 unfold fw;have e:=(pc p rs).symm
 have ea:rs.filter (fun s=>decide (s.id<r.id))=rs.take p:=by
  rw[congrArg (List.filter fun s:Rw=>decide (s.id<r.id)) e,qC,List.filter_eq_self.2 (fun s hs=>by simpa using h1 s hs),List.filter_eq_nil_iff.2 (fun s hs=>by have:=h2 s hs;simp;omega),oU]
 have eb:rs.filter (fun s=>decide (r.id<s.id))=rs.drop p:=by
  rw[congrArg (List.filter fun s:Rw=>decide (r.id<s.id)) e,qC,List.filter_eq_nil_iff.2 (fun s hs=>by have:=h1 s hs;simp;omega),List.filter_eq_self.2 (fun s hs=>by simpa using h2 s hs),pH]
 rw[ea,eb]
def lO(a b:Int):Int:=if a<b then -1 else if b<a then 1 else 0
theorem insClo(r:Rw)(id:Int):aJ Tryz.prog 201 [aC r,.int .i64 id] fun x=>x = .int .i64 (lO r.id id):=by
 unfold lO;by_cases h1:r.id<id
 ·rw[if_pos h1];refine sPx Tryz.func201 rfl rfl ?_;simp -dsimp[Tryz.f201,oE,aC,LV,h1]
 ·by_cases h2:id<r.id
  ·rw[if_neg h1,if_pos h2];refine sPx Tryz.func201 rfl rfl ?_;simp -dsimp[Tryz.f201,oE,aC,LV,h1,h2]
  ·rw[if_neg h1,if_neg h2];refine sPx Tryz.func201 rfl rfl ?_;simp -dsimp[Tryz.f201,oE,aC,LV,h1,h2]
theorem shr1R(lo hi:Nat)(h:lo+hi≤4000000):IntKind.i64.wrap ((IntKind.u64.wrap ((lo+hi:Nat):Int)).fdiv (2^min 1 IntKind.u64.bits))=(((lo+hi) / 2:Nat):Int):=by
 have h1:(2:Int)^min 1 IntKind.u64.bits=2:=rfl
 have h2:IntKind.u64.wrap ((lo+hi:Nat):Int)=((lo+hi:Nat):Int):=by rw[IntKind.wrap_u64];omega
 rw[h2,h1,Int.fdiv_eq_ediv_of_nonneg _ (by omega),wrap64 (by omega) (by omega)];omega
def bsT(rs:List Rw)(id:Int):Bool:=decide (plR rs id<rs.length)&&(lO (rwG rs (plR rs id)).id id == 0)
theorem bsearchR(l:List Rw)(x:Int)(f:Bool)(hl:l.length≤1000000):aJ Tryz.prog 200 [LR f l,.int .i64 x,.fn 201 []] fun r=>r = .tup [.int .i64 (plR l x),.bool (bsT l x)]:=by
 obtain⟨E,hE⟩:∃E,E=bsR l x 0 l.length:=⟨_,rfl⟩
 have hF:bsT l x=(decide (E<l.length)&&(lO (rwG l E).id x == 0)):=by rw[hE];rfl
 have hP:plR l x=E:=hE.symm;rw[hP]
 have hlt:∀a b:Int,lO a b<0↔a<b:=fun a b=>by unfold lO;split<;>(try split)<;>omega
 refine sPx Tryz.func200 rfl rfl ?_;simp -dsimp[Tryz.f200,oE,LR];refine aI (W_loopM 35 0x7ffff8e00 (by simp[mB]<;>rfl) (σ:=Nat×Nat) (fun p=>p.1≤p.2∧p.2≤l.length∧bsR l x p.1 p.2=E) (fun p=>p.2-p.1) (fun p=>[(9,.int .i64 p.1),(10,.int .i64 p.2)]) (fun _=>[]) (0,l.length) ⟨by omega,by omega,hE.symm⟩ (by simp) rfl (by simp) ?_);rintro⟨lo,hi⟩ ⟨h1,h2,hx⟩ N Q hN hQ;simp only at h1 h2 hx;by_cases hb:lo<hi
 ·have hw:IntKind.i64.wrap ((lo:Int)+(hi:Int))=((lo+hi:Nat):Int):=by rw[wrap64 (by omega) (by omega)];rfl
  have hs:=shr1R lo hi (by omega);rw[bsR,dif_pos hb]at hx;obtain⟨m,em⟩:∃m,m=(lo+hi) / 2:=⟨_,rfl⟩;rw[←em]at hs hx;obtain⟨sm,esm⟩:∃sm,sm=lo+hi:=⟨_,rfl⟩;rw[←esm]at hs hw em
  have hm:m<l.length:=by omega
  have hgm:rwG l m=l[m]:=by simp[rwG,hm]
  rw[hgm]at hx;have hc:=insClo l[m] x;obtain⟨r,hr⟩:∃r,r=l[m]:=⟨_,rfl⟩;rw[←hr]at hx hc;simp only[aC,LV]at hc;have hs1:=aP m (by omega);by_cases hq:r.id<x
  ·rw[if_pos hq]at hx;have hq':lO r.id x<0:=(hlt _ _).2 hq;refine wx ?_;simp -dsimp[hb,hw,hs,hm,hr.symm,aC,LV];refine cPx (hc) (by simp) ?_;simp -dsimp[hq',hs1];refine hN (m+1,hi) _ _ ⟨by simp only;omega,h2,hx⟩ (by omega) ?_ ⟨[],?_⟩ ?_ ?_<;>simp[or_imp,forall_and,L1,aQ]
  ·rw[if_neg hq]at hx
   have hq':¬lO r.id x<0:=fun h=>hq ((hlt _ _).1 h)
   refine wx ?_;simp -dsimp[hb,hw,hs,hm,hr.symm,aC,LV];refine cPx (hc) (by simp) ?_;simp -dsimp[hq',hs1];refine hN (lo,m) _ _ ⟨by simp only;omega,by simp only;omega,hx⟩ (by omega) ?_ ⟨[],?_⟩ ?_ ?_<;>simp[or_imp,forall_and,L1,aQ]
 ·rw[bsR,dif_neg hb]at hx;subst hx;by_cases hn:lo<l.length
  ·have hgm:rwG l lo=l[lo]:=by simp[rwG,hn]
   have hc:=insClo l[lo] x;rw[hgm]at hF;obtain⟨r,hr⟩:∃r,r=l[lo]:=⟨_,rfl⟩;rw[←hr]at hF hc;simp only[aC,LV]at hc;refine wx ?_;simp -dsimp[hb];refine hQ _ _ _ ?_;simp -dsimp[hn,hr.symm,aC,LV];refine cPx (hc) (by simp) ?_;simp -dsimp[hn]
   all_goals (rw[hF];simp[hn])
  ·refine wx ?_;simp -dsimp[hb];refine hQ _ _ _ ?_;simp -dsimp[hn];rw[hF];simp[hn]
theorem jw{P:Program}{f:FuncId}{args args':List V}{H:List B}{K:V→List B→Prop}(h:aU P f args' H K)(hl:args.length=args'.length)(hle:∀(i:Nat) a b,args[i]?=some a→args'[i]?=some b→Le a b):aU P f args H K :=
 ⟨h.1,fun s vals h1 h2 h3 h4=>h.2 s vals h1 h2 (h3.trans hl) (fun i b u hb hu=>by
  have hi:=aB hb;have ha:args[i]?=some (args[i]'(by omega)):=oG (by omega)
  exact(hle i _ b ha hb).rel (h4 i _ u ha hu))⟩
def g2(k L:Nat)(i:Nat):Nat:=if i=0 then k else L
theorem lift2{P:Program}{f:FuncId}{args0 args:List V}{A0 A1 B0 B1 C0 C1 D0 D1:B}{r0:V}{H:List B}{k L:Nat}(h:aU P f args0 [A0,A1] fun r H'=>r=r0∧H'=[C0,C1])
  (hkL:k≠L) (h0:H[k]?=some B0) (h1:H[L]?=some B1) (R0:RenB (g2 k L) 2 A0 B0) (R1:RenB (g2 k L) 2 A1 B1) (S0:RenB (g2 k L) 2 C0 D0) (S1:RenB (g2 k L) 2 C1 D1)
  (hal:args0.length=args.length) (ha:∀(i:Nat) a b,args0[i]?=some a→args[i]?=some b→Ren (g2 k L) 2 a b) (hr:AM.Pure r0):aU P f args H fun r H'=>r=r0∧H'=(H.set k D0).set L D1:=by
 have hk:=aB h0;have hL:=aB h1;refine eT 2 2 (g2 k L) h rfl rfl (oJ _) (fun i j hi hj e=>?_) (fun i hi=>?_) (fun i h1 h2=>absurd h1 (by omega)) (fun i b hb=>?_) (fun i b hb=>?_) (by simp) (fun j hj hno=>?_) hal ha hr
 ·match i,j,hi,hj with
  | 0,0,_,_=>rfl
  | 0,1,_,_=>simp[g2]at e;exact absurd e hkL
  | 1,0,_,_=>simp[g2]at e;exact absurd e.symm hkL
  | 1,1,_,_=>rfl
 ·match i,hi with
  | 0,_=>exact hk
  | 1,_=>exact hL
 ·match i with
  | 0=>simp at hb;subst hb;exact⟨_,h0,R0⟩
  | 1=>simp at hb;subst hb;exact⟨_,h1,R1⟩
  | i+2=>simp at hb
 ·match i with
  | 0 =>
   simp at hb;subst hb;exact⟨D0,by show((H.set k D0).set L D1)[k]?=_;rw[oQ (Ne.symm hkL),oX hk],S0⟩
  | 1 =>
   simp at hb;subst hb;exact⟨D1,by show((H.set k D0).set L D1)[L]?=_;rw[oX (by simpa using hL)],S1⟩
  | i+2=>simp at hb
 ·have n0:k≠j:=hno 0 (by omega);have n1:L≠j:=hno 1 (by omega);rw[oQ n1,oQ n0]
def g12(k n:Nat)(i:Nat):Nat:=if i=0 then k else n
theorem lift12{P:Program}{f:FuncId}{args0 args:List V}{A0 B0 C0 C1 D0 D1:B}{r0:V}{H:List B}{k:Nat}(h:aU P f args0 [A0] fun r H'=>r=r0∧H'=[C0,C1])
  (h0:H[k]?=some B0) (R0:RenB (g12 k H.length) 1 A0 B0) (S0:RenB (g12 k H.length) 2 C0 D0) (S1:RenB (g12 k H.length) 2 C1 D1)
  (hal:args0.length=args.length) (ha:∀(i:Nat) a b,args0[i]?=some a→args[i]?=some b→Ren (g12 k H.length) 1 a b) (hr:AM.Pure r0):aU P f args H fun r H'=>r=r0∧H'=H.set k D0++[D1]:=by
 have hk:=aB h0;refine eT 1 2 (g12 k H.length) h rfl rfl (by omega) (fun i j hi hj e=>?_) (fun i hi=>?_) (fun i h1 h2=>?_) (fun i b hb=>?_) (fun i b hb=>?_) (by simp) (fun j hj hno=>?_) hal ha hr
 ·match i,j,hi,hj with
  | 0,0,_,_=>rfl
  | 0,1,_,_=>simp[g12]at e;omega
  | 1,0,_,_=>simp[g12]at e;omega
  | 1,1,_,_=>rfl
 ·match i,hi with
  | 0,_=>exact hk
 ·match i,h1,h2 with
  | 1,_,_=>simp[g12]
 ·match i with
  | 0=>simp at hb;subst hb;exact⟨_,h0,R0⟩
  | i+1=>simp at hb
 ·match i with
  | 0 =>
   simp at hb;subst hb;exact⟨D0,by show(H.set k D0++[D1])[k]?=_;rw[oL (by simpa using hk),oX hk],S0⟩
  | 1 =>
   simp at hb;subst hb;exact⟨D1,by show(H.set k D0++[D1])[H.length]?=_;rw[oS (by simp)];simp,S1⟩
  | i+2=>simp at hb
 ·have n0:k≠j:=hno 0 (by omega);rw[oL (by simpa using hj),oQ n0]
def stB(db dn ud:V)(o:Bool)(nw:V):B:=.cells [db,dn,ud,.bool o,nw]
def dnS(dl:List V):B:=.buf 55 1 dl false
theorem ren_st{g:Nat→Nat}{n m:Nat}{db ud nw:V}{o:Bool}(h1:1<n)(hd:AM.Pure db)(hu:AM.Pure ud)(hw:AM.Pure nw)(o1:db.one=true)(o2:ud.one=true)(o3:nw.one=true):RenB g n (stB db (.buf 1 0 m m) ud o nw) (stB db (.buf (g 1) 0 m m) ud o nw):=by
 refine .cells _ _ rfl (fun c hc=>?_) (fun i c d hc hd'=>?_)
 ·simp only[oR,oO,or_false]at hc
  rcases hc with rfl | rfl | rfl | rfl | rfl<;>first | rfl | assumption
 ·match i with
  | 0=>simp at hc hd';subst hc;subst hd';exact .pure _ hd
  | 1=>simp at hc hd';subst hc;subst hd';exact .buf 1 0 m m h1
  | 2=>simp at hc hd';subst hc;subst hd';exact .pure _ hu
  | 3=>simp at hc hd';subst hc;subst hd';exact .pure _ (.bool _)
  | 4=>simp at hc hd';subst hc;subst hd';exact .pure _ hw
  | i+5=>simp at hc
theorem ld{g:Nat→Nat}{n:Nat}{db dn ud nw:V}{o:Bool}(hd:AM.Pure db)(hn:AM.Pure dn)(hu:AM.Pure ud)(hw:AM.Pure nw)(o1:db.one=true)(o4:dn.one=true)(o2:ud.one=true)(o3:nw.one=true):RenB g n (stB db dn ud o nw) (stB db dn ud o nw):=by
 refine .cells _ _ rfl (fun c hc=>?_) (fun i c d hc hd'=>?_)
 ·simp only[oR,oO,or_false]at hc
  rcases hc with rfl | rfl | rfl | rfl | rfl<;>first | rfl | assumption
 ·match i with
  | 0=>simp at hc hd';subst hc;subst hd';exact .pure _ hd
  | 1=>simp at hc hd';subst hc;subst hd';exact .pure _ hn
  | 2=>simp at hc hd';subst hc;subst hd';exact .pure _ hu
  | 3=>simp at hc hd';subst hc;subst hd';exact .pure _ (.bool _)
  | 4=>simp at hc hd';subst hc;subst hd';exact .pure _ hw
  | i+5=>simp at hc
theorem kT{g:Nat→Nat}{n:Nat}{dl:List V}(h:∀x∈dl,AM.Pure x):RenB g n (dnS dl) (dnS dl):=.buf _ _ _ _ h
structure StP (db ud nw:V) (dl:List V):Prop where
 pdb:AM.Pure db
 pud:AM.Pure ud
 pnw:AM.Pure nw
 pdl:∀x∈dl,AM.Pure x
 odb:db.one=true
 oud:ud.one=true
 onw:nw.one=true
 odl:∀x∈dl,∀c∈x.cells,c.one=true
theorem StP.rb{db ud nw:V}{dl:List V}(h:StP db ud nw dl){m:Nat}{o:Bool} : ∀bl∈[stB db (.buf 1 0 m m) ud o nw,dnS dl],rbB 2 bl:=fun bl hbl=>by
 simp only[oR,oO,or_false]at hbl
 rcases hbl with rfl | rfl
 ·intro c hc;simp only[oR,oO,or_false]at hc
  rcases hc with rfl | rfl | rfl | rfl | rfl
  ·exact bJ h.pdb h.odb
  ·show 1<2;omega
  ·exact bJ h.pud h.oud
  ·simp[rb1]
  ·exact bJ h.pnw h.onw
 ·exact(dB h.pdl h.odl).2 trivial
theorem gm{P:Program}{f:FuncId}{ar:List V}{db ud nw db' ud' nw' r0:V}{dl dl':List V}{m m':Nat}{o o':Bool}{H:List B}{k L:Nat}
  (h:aU P f (.ptr 0 0::ar) [stB db (.buf 1 0 m m) ud o nw,dnS dl] fun r H'=>r=r0∧H'=[stB db' (.buf 1 0 m' m') ud' o' nw',dnS dl'])
  (p:StP db ud nw dl) (p':StP db' ud' nw' dl') (has:∀a∈ar,AM.Pure a) (hr:AM.Pure r0) (hkL:k≠L) (h0:H[k]?=some (stB db (.buf L 0 m m) ud o nw)) (h1:H[L]?=some (dnS dl)):
  aU P f (.ptr k 0::ar) H fun r H'=>r=r0∧H'=(H.set k (stB db' (.buf L 0 m' m') ud' o' nw')).set L (dnS dl'):=by
 have e:g2 k L 1=L:=rfl;refine lift2 h hkL h0 h1 ?_ (kT p.pdl) ?_ (kT p'.pdl) rfl (fun i a b ha hb=>?_) hr
 ·have:=ren_st (g:=g2 k L) (n:=2) (m:=m) (o:=o) (by omega) p.pdb p.pud p.pnw p.odb p.oud p.onw
  rwa [e]at this
 ·have:=ren_st (g:=g2 k L) (n:=2) (m:=m') (o:=o') (by omega) p'.pdb p'.pud p'.pnw p'.odb p'.oud p'.onw
  rwa [e]at this
 ·cases i with
  | zero =>
   simp at ha hb;subst ha;subst hb;exact .ptr 0 0 (by omega)
  | succ i =>
   simp only[pL]at ha hb;rw[ha]at hb;cases hb;exact .pure _ (has _ (oH ha))
theorem kR{H:List B}{k:Nat}{b:B}(h:H[k]?=some b):H.set k b=H:=by
 obtain⟨h1,h2⟩:=List.getElem?_eq_some_iff.1 h;rw[←h2];exact qQ h1
theorem mu{P:Program}{f:FuncId}{ar:List V}{db ud nw r0:V}{dl:List V}{m:Nat}{o:Bool}{H:List B}{k L:Nat}
  (h:aU P f (.ptr 0 0::ar) [stB db (.buf 1 0 m m) ud o nw,dnS dl] fun r H'=>r=r0∧H'=[stB db (.buf 1 0 m m) ud o nw,dnS dl])
  (p:StP db ud nw dl) (has:∀a∈ar,AM.Pure a) (hr:AM.Pure r0) (hkL:k≠L) (h0:H[k]?=some (stB db (.buf L 0 m m) ud o nw)) (h1:H[L]?=some (dnS dl)):
  aU P f (.ptr k 0::ar) H fun r H'=>r=r0∧H'=H :=
 (gm h p p has hr hkL h0 h1).mono fun r H' ⟨e1,e2⟩=>⟨e1,by rw[e2,kR h0,kR h1]⟩
theorem wcm{P:Program}{f:FuncId}{args:List V}{H:List B}{K K':V→List B→Prop}(h:aU P f args H K)(hk:∀r H',K r H'→K' r H'):aL P (.fn f []) args H K':=by
 simp only[aL,oU];exact h.mono hk
theorem gW{P:Program}{f:FuncId}{args:List V}{H Hf:List B}{r0:V}(h:aU P f args H fun r H'=>r=r0∧∃G,H'=Hf++G)(hl:H.length≤Hf.length)(hr:rb Hf.length r0)(hb:∀bl∈Hf,rbB Hf.length bl):aU P f args H fun r H'=>r=r0∧H'=Hf :=
 (conH_cutE (σ:=Unit) (ok:=fun _=>True) (rf:=fun _=>r0) (Hf:=fun _=>Hf) (h.mono fun r H' ⟨h1,h2⟩=>⟨(),trivial,h1,h2⟩) (fun _ _=>hl) (fun _ _=>hr) (fun _ _=>hb)).mono fun r H' ⟨_,_,h1,h2⟩=>⟨h1,h2⟩
theorem new_s(H:List B):aU Tryz.prog 16 [] H fun r H'=>r = .ptr H.length 0∧H'=H++[stB .nilS .nilS .nilS false .nilS]:=by
 refine aE tok Tryz.func16 rfl rfl ?_;refine wx ?_;simp -dsimp[Tryz.f16,oE,stB]
theorem begin0(db dn ud nw:V)(D:B):aU Tryz.prog 40 [.ptr 0 0] [stB db dn ud false nw,D] fun r H'=>r = .int .i64 0∧H'=[stB db dn ud true nw,D]:=by
 refine aE tok Tryz.func40 rfl rfl ?_;refine wx ?_;simp -dsimp[Tryz.f40,oE,stB]
theorem end1(db dn ud nw:V)(D:B):aU Tryz.prog 89 [.ptr 0 0] [stB db dn ud true nw,D] fun r H'=>r = .tup [nw,.int .i64 0]∧H'=[stB db dn ud false .nilS,D]:=by
 refine aE tok Tryz.func89 rfl rfl ?_;refine wx ?_;simp -dsimp[Tryz.f89,oE,stB]
end
end Go.Proofs.YtdnhplencamncaaGreatDoor
section
namespace Go.Proofs.YtdnhplencamncaaGreatDoor
open Go Go.AM
end Go.Proofs.YtdnhplencamncaaGreatDoor
end
namespace Go.Proofs.YtdnhplencamncaaGreatDoor
section
open Go Go.AM
structure TbH (H:List B) (k:Nat) (bk:Nat→Nat) (rs:List Rw):Prop where
 hk:H[k]?=some (.buf 53 2 ((oM rs.length).map fun j=>.agg [.int .i64 (rwG rs j).id,.buf (bk j) 0 (rwG rs j).vals.length (rwG rs j).vals.length]) false)
 row:∀j,j<rs.length→H[bk j]?=some (.buf 79 3 ((rwG rs j).vals.map aF) false)
 inj:∀i j,i<rs.length→j<rs.length→bk i=bk j→i=j
 ne:∀j,j<rs.length→bk j≠k
theorem TbH.exp{H:List B}{k:Nat}{bk:Nat→Nat}{rs:List Rw}(h:TbH H k bk rs):ExpX H (.buf k 0 rs.length rs.length) (LR false rs):=by
 have:=ExpX.bufx (H:=H) k _ _ _ (rs.map aC) false h.hk (by simp) (fun i c d hc hd=>by
  by_cases hi:i<rs.length
  ·simp[hi]at hc hd;subst hc;subst hd;rw[←dt hi];have hr:=h.row i hi;exact ExpX.agg2 (.pure _ (by simp)) (nS hr (by simp) (by simp))
  ·rw[pK (by simp;omega)]at hc;cases hc)
 simp only[oW,rC]at this;exact this
def setV(r:Rw)(a:Nat)(v:Vl):Rw:=⟨r.id,r.vals.set a v⟩
theorem TbH.set{H:List B}{k:Nat}{bk:Nat→Nat}{rs:List Rw}(h:TbH H k bk rs){i a:Nat}(hi:i<rs.length)(v:Vl):TbH (H.set (bk i) (.buf 79 3 (((rwG rs i).vals.map aF).set a (aF v)) false)) k bk (rs.set i (setV (rwG rs i) a v)):=by
 have hg:∀j,j<rs.length→rwG (rs.set i (setV (rwG rs i) a v)) j=if j=i then setV (rwG rs i) a v else rwG rs j:=fun j hj=>by
  rw[dt (by rw[pN];exact hj),rF];by_cases hji:j=i
  ·subst hji;simp
  ·rw[if_neg (Ne.symm hji),if_neg hji,dt hj]
 refine⟨?_,fun j hj=>?_,fun i' j hi' hj=>h.inj i' j (by simpa using hi') (by simpa using hj),fun j hj=>h.ne j (by simpa using hj)⟩
 ·rw[oQ (h.ne i hi),h.hk,pN];congr 2
  refine oo fun j hj=>?_
  have hj:=List.mem_range.1 hj;rw[hg j hj];split
  ·rename_i e;subst e;simp[setV]
  ·rfl
 ·rw[pN]at hj;rw[hg j hj];split
  ·rename_i e;subst e;rw[oX (aB (h.row j hj))];simp[setV,qw]
  ·rename_i e;rw[oQ (fun e2=>e (h.inj i j hi hj e2).symm),h.row j hj]
theorem TbH.app{H:List B}{k:Nat}{bk:Nat→Nat}{rs:List Rw}(h:TbH H k bk rs)(G:List B):TbH (H++G) k bk rs :=
 ⟨by rw[oL (aB h.hk)];exact h.hk,fun j hj=>by rw[oL (aB (h.row j hj))];exact h.row j hj,h.inj,h.ne⟩
theorem TbH.other{H:List B}{k:Nat}{bk:Nat→Nat}{rs:List Rw}(h:TbH H k bk rs){x:Nat}(hx:x≠k)(hx2:∀j,j<rs.length→x≠bk j)(Y:B):TbH (H.set x Y) k bk rs :=
 ⟨by rw[oQ hx];exact h.hk,fun j hj=>by rw[oQ (hx2 j hj)];exact h.row j hj,h.inj,h.ne⟩
def setT(t:Tb)(i a:Nat)(v:Vl):Tb:=⟨t.name,t.attrs,t.rows.set i (setV (rwG t.rows i) a v)⟩
theorem expT{H:List B}{nm:ByteArray}{ats:List V}{m:Nat}{l:V}(hp:∀x∈ats,AM.Pure x)(h:ExpX H (.buf 7 0 m m) l):ExpX H (.tup [.agg [.str nm,.lst 1 false ats,.buf 7 0 m m],.int .i64 0]) (.tup [.agg [.str nm,.lst 1 false ats,l],.int .i64 0]):=by
 refine .tup _ _ rfl (fun i c d hc hd=>?_)
 match i with
 | 0 =>
  simp at hc hd;subst hc;subst hd;refine .agg _ _ rfl (fun j c d hc hd=>?_)
  match j with
  | 0=>simp at hc hd;subst hc;subst hd;exact .pure _ (by simp)
  | 1=>simp at hc hd;subst hc;subst hd;exact .pure _ (by simpa using hp)
  | 2=>simp at hc hd;subst hc;subst hd;exact h
  | k+3=>simp at hc
 | 1=>simp at hc hd;subst hc;subst hd;exact .pure _ (by simp)
 | k+2=>simp at hc
theorem copied_gT(H:List B)(id:Int)(vs:List Vl)(hc:aL Tryz.prog (.fn 75 []) [(.lst 3 false (vs.map aF))] (H++[B.cells [.int .i64 id,(.lst 3 false (vs.map aF))],B.cells [.int .i64 0,.nilS]]) fun r H'=>r = .buf (H.length+2) 0 vs.length vs.length∧H'=H++[B.cells [.int .i64 id,(.lst 3 false (vs.map aF))],B.cells [.int .i64 0,.nilS],B.buf 79 3 (vs.map aF) false]):
  aU Tryz.prog 192 [.agg [.int .i64 id,(.lst 3 false (vs.map aF))]] H fun x H'=>x = .agg [.int .i64 id,.buf (H.length+2) 0 vs.length vs.length]∧H'=H++cpB H.length id (.lst 3 false (vs.map aF)) vs false:=by
 refine aE tok Tryz.func192 rfl rfl ?_;refine wx ?_;simp -dsimp[Tryz.f192,oE,dw,dv,eh,fP,gP,gO];refine aI (aX tok mixed [4,6] [(1,[1])] [(.buf (H.length+2) 0 vs.length vs.length,H++[B.cells [.int .i64 id,(.lst 3 false (vs.map aF))],B.cells [.int .i64 0,.nilS],B.buf 79 3 (vs.map aF) false])] (by kernel_rfl) fun C K hC hK=>?_);simp -implicitDefEqProofs [dw,dv,eh,fP,gP,gO];refine⟨hC _ _ _ _ hc,hK _ _ ?_⟩;simp -dsimp[dw,dv,eh,fP,gP,gO];simp[cpB]
theorem copied_oT(H:List B)(r:Rw)(hl:r.vals.length≤1000000):aU Tryz.prog 192 [aC r] H fun x H'=>x = .agg [.int .i64 r.id,.buf (H.length+2) 0 r.vals.length r.vals.length]∧H'=H++cpB H.length r.id (LV false r.vals) r.vals false :=
 copied_gT H r.id r.vals (by
  have:=nj (H++[B.cells [.int .i64 r.id,LV false r.vals],B.cells [.int .i64 0,.nilS]]) r.vals hl
  simpa[oh,LV] using this)
def cpT4(L:Nat)(r:Rw):List B:=B.cells [.int .i64 r.id,.lst 3 false (r.vals.map aF)]::cpB (L+1) r.id (.lst 3 false (r.vals.map aF)) r.vals false
def gV(rs:List Rw)(i:Nat):List V:=(oM i).map fun j=>.agg [.int .i64 (rwG rs j).id,.buf (11+4*j) 0 (rwG rs j).vals.length (rwG rs j).vals.length]
def fV(rs:List Rw)(i:Nat):List B:=(oM i).flatMap fun j=>cpT4 (8+4*j) (rwG rs j)
theorem fU(rs:List Rw)(i:Nat):(fV rs i).length=4*i:=by
 induction i with
 | zero=>rfl
 | succ i ih=>simp only[fV,pv,rH,oT]at ih ⊢;rw[ih];simp[cpT4,cpB];omega
theorem km(rs:List Rw)(i:Nat):fV rs (i+1)=fV rs i++cpT4 (8+4*i) (rwG rs i):=by simp[fV,pv]
theorem elE_succ4(rs:List Rw)(i:Nat):gV rs (i+1)=gV rs i++[.agg [.int .i64 (rwG rs i).id,.buf (11+4*i) 0 (rwG rs i).vals.length (rwG rs i).vals.length]]:=by simp[gV,pv]
theorem elE_len4(rs:List Rw)(i:Nat):(gV rs i).length=i:=by simp[gV]
theorem cpG_at4(rs:List Rw){i j:Nat}(h:j<i):(fV rs i)[4*j+3]?=some (.buf 79 3 ((rwG rs j).vals.map aF) false):=by
 induction i with
 | zero=>omega
 | succ i ih =>
  rw[km]
  rcases pS j i with e | e
  ·rw[oL (by rw[fU];omega)];exact ih e
  ·have:j=i:=by omega
   subst this;rw[oS (by rw[fU];omega),fU,show 4*j+3-4*j=3 by omega];rfl
theorem cpG_rb4(rs:List Rw)(i:Nat):∀bl∈fV rs i,rbB (8+4*i) bl:=by
 induction i with
 | zero=>intro bl h;cases h
 | succ i ih =>
  intro bl h;rw[km]at h
  rcases List.mem_append.1 h with h | h
  ·exact jZ (by omega) (ih bl h)
  ·unfold cpT4 cpB at h;simp only[oR,oO,or_false]at h
   rcases h with rfl | rfl | rfl | rfl
   ·simp
   ·simp
   ·simp;omega
   ·simp
theorem elE_rb4(rs:List Rw)(e i:Nat)(fz:Bool):rbB (8+4*i) (.buf e 2 (gV rs i) fz):=by
 intro x hx c hc;obtain⟨j,hj,rfl⟩:=List.mem_map.1 hx;have hj:=List.mem_range.1 hj;simp[V.cells]at hc
 rcases hc with rfl | rfl
 ·trivial
 ·show 11+4*j<8+4*i;omega
theorem wh_rb4{t:Tb}{rs:List Rw}{f g:Bool}{c0 c1 c2 c3:B}(hb0:∀k,rbB k c0)(hb1:∀k,rbB k c1)(hb2:∀k,rbB k c2)(hb3:∀k,rbB k c3)(i:Nat):∀bl∈c0::c1::c2::c3::B.cells [.str t.name,.lst 1 f (t.attrs.map V.str),.lst 2 g (t.rows.map aC)]::B.cells [.str oF,.nilS,.nilS]::B.cells [.str t.name,.lst 1 false (t.attrs.map V.str),.buf 7 0 i i]::B.buf 53 2 (gV rs i) false::fV rs i,rbB (c0::c1::c2::c3::B.cells [.str t.name,.lst 1 f (t.attrs.map V.str),.lst 2 g (t.rows.map aC)]::B.cells [.str oF,.nilS,.nilS]::B.cells [.str t.name,.lst 1 false (t.attrs.map V.str),.buf 7 0 i i]::B.buf 53 2 (gV rs i) false::fV rs i).length bl:=by
 have hlen:(c0::c1::c2::c3::B.cells [.str t.name,.lst 1 f (t.attrs.map V.str),.lst 2 g (t.rows.map aC)]::B.cells [.str oF,.nilS,.nilS]::B.cells [.str t.name,.lst 1 false (t.attrs.map V.str),.buf 7 0 i i]::B.buf 53 2 (gV rs i) false::fV rs i).length=8+4*i:=by simp[fU];omega
 rw[hlen];intro bl h
 rcases List.mem_cons.1 h with rfl | h
 ·exact hb0 _
 rcases List.mem_cons.1 h with rfl | h
 ·exact hb1 _
 rcases List.mem_cons.1 h with rfl | h
 ·exact hb2 _
 rcases List.mem_cons.1 h with rfl | h
 ·exact hb3 _
 rcases List.mem_cons.1 h with rfl | h
 ·simp
 rcases List.mem_cons.1 h with rfl | h
 ·simp
 rcases List.mem_cons.1 h with rfl | h
 ·simp;omega
 rcases List.mem_cons.1 h with rfl | h
 ·exact elE_rb4 rs _ i _
 ·exact cpG_rb4 rs i bl h
theorem with_hp(t:Tb)(rs:List Rw)(f g h:Bool)(ha:t.attrs.length≤1000000)(hr:rs.length≤1000000)(hv:∀r∈rs,r.vals.length≤1000000)(c0 c1 c2 c3:B)(hb0:∀k,rbB k c0)(hb1:∀k,rbB k c1)(hb2:∀k,rbB k c2)(hb3:∀k,rbB k c3):
  aU Tryz.prog 117 [aD f g t,LR h rs] [c0,c1,c2,c3] fun x H'=>x = .agg [.str t.name,.lst 1 false (t.attrs.map V.str),.buf 7 0 rs.length rs.length]∧∃A A1 A2,H'=c0::c1::c2::c3::A::A1::A2::B.buf 53 2 (gV rs rs.length) false::fV rs rs.length∧(∀k,7<k→rbB k A∧rbB k A1∧rbB k A2):=by
 have cc:=jz t.attrs f ha;simp only[LS]at cc;refine aE tok Tryz.func117 rfl rfl ?_;refine wx ?_;simp -dsimp[Tryz.f117,oE,aD,LS,LR];refine aI (aX tok mixed [6,7] [(0,[1]),(1,[1]),(2,[1]),(3,[1]),(4,[1]),(5,[1])] [(.lst 1 false (t.attrs.map V.str),[])] (by kernel_rfl) fun C K hC hK=>?_);simp -implicitDefEqProofs [];refine⟨⟨hC _ _ _ _ (aT cc (by simp)),hC _ _ _ _ (aT cc (by simp))⟩,hK _ _ ?_⟩;simp -dsimp[];refine aI (dL 53 2 [] 6 [2] rfl (cD _ _) (by simp) (W_loopM 28 0xfff3080 (by simp[mB]<;>rfl) (σ:=Nat) (fun i=>i≤rs.length) (fun i=>rs.length-i) (fun i=>[(16,.int .i64 i)]) (fun i=>c0::c1::c2::c3::B.cells [.str t.name,.lst 1 f (t.attrs.map V.str),.lst 2 g (t.rows.map aC)]::B.cells [.str oF,.nilS,.nilS]::B.cells [.str t.name,.lst 1 false (t.attrs.map V.str),.buf 7 0 i i]::B.buf 53 2 (gV rs i) false::fV rs i) 0 (by omega) (by simp) (by simp[gV,fV]) (by simp) ?_));intro i hi N Q hN hQ;have hll:=elE_len4 rs i;have hgl:=fU rs i;by_cases hb:i<rs.length
 ·have h1:=hv rs[i] (oI hb);have hgi:=dt hb;obtain⟨r,hre⟩:∃r,r=rs[i]:=⟨_,rfl⟩;rw[←hre]at h1 hgi;have hre':=hre.symm;have hc:=copied_oT (c0::c1::c2::c3::B.cells [.str t.name,.lst 1 f (t.attrs.map V.str),.lst 2 g (t.rows.map aC)]::B.cells [.str oF,.nilS,.nilS]::B.cells [.str t.name,.lst 1 false (t.attrs.map V.str),.buf 7 0 i i]::B.buf 53 2 (gV rs i) false::fV rs i++[B.cells [.int .i64 r.id,.lst 3 false (r.vals.map aF)]]) r h1;have hes:=elE_succ4 rs i;have hgs:=km rs i;rw[hgi]at hes hgs
  have hlen:(c0::c1::c2::c3::B.cells [.str t.name,.lst 1 f (t.attrs.map V.str),.lst 2 g (t.rows.map aC)]::B.cells [.str oF,.nilS,.nilS]::B.cells [.str t.name,.lst 1 false (t.attrs.map V.str),.buf 7 0 i i]::B.buf 53 2 (gV rs i) false::fV rs i++[B.cells [.int .i64 r.id,.lst 3 false (r.vals.map aF)]]).length=9+4*i:=by simp[hgl];omega
  have hlen0:(c0::c1::c2::c3::B.cells [.str t.name,.lst 1 f (t.attrs.map V.str),.lst 2 g (t.rows.map aC)]::B.cells [.str oF,.nilS,.nilS]::B.cells [.str t.name,.lst 1 false (t.attrs.map V.str),.buf 7 0 i i]::B.buf 53 2 (gV rs i) false::fV rs i).length=8+4*i:=by simp[hgl];omega
  rw[hlen,show 9+4*i+2=11+4*i by omega]at hc
  have hcp:cpT4 (8+4*i) r=B.cells [.int .i64 r.id,.lst 3 false (r.vals.map aF)]::cpB (9+4*i) r.id (.lst 3 false (r.vals.map aF)) r.vals false:=by unfold cpT4;rw[show 8+4*i+1=9+4*i by omega]
  rw[hcp]at hgs;simp only[aC,LV,pg,oh,pH,←hgs]at hc;have hrb:=wh_rb4 (t:=t) (rs:=rs) (f:=f) (g:=g) hb0 hb1 hb2 hb3 (i+1)
  have hgx:(fV rs i++[B.cells [V.int IntKind.i64 r.id,V.lst 3 false (r.vals.map aF)]])[4*i]?=some (B.cells [V.int IntKind.i64 r.id,V.lst 3 false (r.vals.map aF)]):=by rw[oS (by omega),hgl];simp
  have hgx':=du hgx;refine wx ?_;simp -dsimp[hb,hre',aC,LV,hgl];refine aI (aX tok mixed [3,5,7] [(1,[1])] [(.agg [.int .i64 r.id,.buf (11+4*i) 0 r.vals.length r.vals.length],c0::c1::c2::c3::B.cells [.str t.name,.lst 1 f (t.attrs.map V.str),.lst 2 g (t.rows.map aC)]::B.cells [.str oF,.nilS,.nilS]::B.cells [.str t.name,.lst 1 false (t.attrs.map V.str),.buf 7 0 i i]::B.buf 53 2 (gV rs i) false::fV rs (i+1))] (by kernel_rfl) fun C K hC hK=>?_);simp -implicitDefEqProofs [hgx,hgx',hgl,hll,nt i (by omega)];refine⟨hC _ _ _ _ hc,hK _ _ ?_⟩;simp -dsimp[aP i (by omega)];refine hN (i+1) _ _ (by omega) (by omega) (by simp) ⟨[],by simp[hes]⟩ (by simp) hrb
 ·obtain rfl:i=rs.length:=by omega
  refine wx ?_;simp -dsimp[hb];refine hQ _ _ _ ?_;simp -dsimp[];exact⟨_,_,_,⟨rfl,rfl,rfl⟩,fun k hk=>⟨by simp,by simp;exact hk,by simp;exact hk⟩⟩
theorem wh_tbh4(rs:List Rw)(c0 c1 c2 c3 c4 c5 c6:B):TbH (c0::c1::c2::c3::c4::c5::c6::B.buf 53 2 (gV rs rs.length) false::fV rs rs.length) 7 (fun j=>11+4*j) rs:=by
 refine⟨rfl,fun j hj=>?_,fun i j _ _ h=>by have h:11+4*i=11+4*j:=h;omega,fun j _=>by show 11+4*j≠7;omega⟩;have:=cpG_at4 rs hj;show(c0::c1::c2::c3::c4::c5::c6::B.buf 53 2 (gV rs rs.length) false::fV rs rs.length)[11+4*j]?=_;rw[show 11+4*j=(4*j+3)+8 by omega];simp only[pL];exact this
theorem chg_ok_u(t:Tb)(f g:Bool)(i a:Nat)(v:Vl)(h:aG t=0)(hk0:TbOk t)(hi:i<t.rows.length)(ha:a<t.attrs.length)(hv:aW v=true):aJ Tryz.prog 132 [aD f g t,.agg [.int .i64 (rwG t.rows i).id,.int .i64 (a:Int)],aF v] fun r=>r = .tup [aD false false (setT t i a v),.int .i64 0]:=by
 have hm:=cX h;have hn:=(tbC h).wide;have hln0:=(tbC h).len;have c1:=cI t f g hk0;rw[h]at c1;have hgi:=dt hi;have c2:=gB t f g (rwG t.rows i).id (by omega);rw[hgi,fnd_at hi (tbC h).ids i 0 (by omega)]at c2;have c3:=cG v;rw[hv]at c3;obtain⟨n,hne⟩:∃n,n=t.attrs.length:=⟨_,rfl⟩;have hne':=hne.symm
 have hln:∀j,j<t.rows.length→(rwG t.rows j).vals.length=n:=fun j hj=>by rw[dt hj,hne];exact hln0 _ (oI hj)
 have hli:=hln i hi;obtain⟨r,hr⟩:∃r,r=rwG t.rows i:=⟨_,rfl⟩;rw[←hr]at hgi hli ⊢;rw[←hgi]at c2;obtain⟨TB,hTB⟩:∃TB,TB=B.cells [.str t.name,.lst 1 f (t.attrs.map V.str),.lst 2 g (t.rows.map aC)]:=⟨_,rfl⟩;obtain⟨CB,hCB⟩:∃CB,CB=B.cells [.int .i64 r.id,.int .i64 (a:Int)]:=⟨_,rfl⟩;obtain⟨VB,hVB⟩:∃VB,VB=B.cells [.int .i64 v.k,.int .i64 v.n,.str v.s]:=⟨_,rfl⟩;obtain⟨ZB,hZB⟩:∃ZB,ZB=B.cells [.str oF,.nilS,.nilS]:=⟨_,rfl⟩
 have c4:=with_hp t t.rows f g g (by omega) (by omega) (fun r' hr'=>by
  have:=hln0 r' hr'
  omega) TB CB VB ZB (fun k=>by rw[hTB];simp) (fun k=>by rw[hCB];simp) (fun k=>by rw[hVB];simp) (fun k=>by rw[hZB];simp)
 rw[hTB,hCB,hVB,hZB]at c4;simp only[aD,LS,LR]at c1 c2 c4;simp only[aF]at c3;refine au (aE tok Tryz.func132 rfl rfl ?_);refine wx ?_;simp -dsimp[Tryz.f132,oE,aD,LS,LR,aF];refine cPx (c1) (by simp) ?_;simp -dsimp[];refine cPx (c2) (by simp) ?_;simp -dsimp[show ¬((a:Int)<0) by omega,hne',show ¬((n:Int)≤(a:Int)) by omega];refine cPx (c3) (by simp) ?_;simp -dsimp[];refine bF c4 ?_;rintro r' H' ⟨rfl,A,A1,A2,hH,hrb⟩
 have htb:TbH H' 7 (fun j=>11+4*j) t.rows:=by rw[hH];exact wh_tbh4 _ _ _ _ _ _ _ _
 have e0:H'[0]?=some (B.cells [.str t.name,.lst 1 f (t.attrs.map V.str),.lst 2 g (t.rows.map aC)]):=by rw[hH];rfl
 have e1:H'[1]?=some (B.cells [.int .i64 r.id,.int .i64 (a:Int)]):=by rw[hH];rfl
 have e2:H'[2]?=some (B.cells [.int .i64 v.k,.int .i64 v.n,.str v.s]):=by rw[hH];rfl
 have e3:H'[3]?=some (B.cells [.str oF,.nilS,.nilS]):=by rw[hH];rfl
 have hlen:H'.length=8+4*t.rows.length:=by rw[hH];simp[fU];omega
 clear hH;obtain⟨L,hL⟩:∃L,L=8+4*t.rows.length:=⟨_,rfl⟩;obtain⟨k,hk⟩:∃k,k=11+4*i:=⟨_,rfl⟩;rw[←hL]at hlen
 have hkL:k<L:=by omega
 have hki:(fun j=>11+4*j) i=k:=hk.symm;have e7:=htb.hk
 have ek:H'[k]?=some (.buf 79 3 (r.vals.map aF) false):=by rw[hk,hr];exact htb.row i hi
 have gl:∀{x:Nat} {b:B},H'[x]?=some b→∀X,(H'++X)[x]?=some b:=fun {x b} hx X=>by rw[oL (aB hx)];exact hx
 obtain⟨T11,hT11⟩:∃T11,T11=B.cells [.str t.name,.lst 1 false (t.attrs.map V.str),.buf 7 0 t.rows.length t.rows.length]:=⟨_,rfl⟩
 obtain⟨EL,hEL⟩:∃EL,EL=(oM t.rows.length).map fun j=>V.agg [.int .i64 (rwG t.rows j).id,.buf (11+4*j) 0 (rwG t.rows j).vals.length (rwG t.rows j).vals.length]:=⟨_,rfl⟩
 have hELl:EL.length=t.rows.length:=by rw[hEL];simp
 have hELi:∀h:i<EL.length,EL[i] = .agg [.int .i64 r.id,.buf k 0 n n]:=fun h=>by subst hEL;simp[hk,←hr,hli]
 have e7':H'[7]?=some (B.buf 53 2 EL false):=by rw[hEL];exact e7
 have x1:=fun X=>gl e1 X
 have x2:=fun X=>gl e2 X
 have x3:=fun X=>gl e3 X
 have x7:=fun X=>gl e7' X
 have xk:=fun X=>gl ek X
 have x1':=fun X=>du (x1 X)
 have x2':=fun X=>du (x2 X)
 have x7':=fun X=>du (x7 X)
 have xk':=fun X=>du (xk X)
 have xL:∀X:List B,(H'++X)[L]?=X[0]?:=fun X=>by rw[←hlen];exact eh H' X
 have xL':∀A X,∀h,(H'++A::X)[L]'h=A:=fun A X=>du (by rw[xL];rfl)
 have hvs:((r.vals.map aF).set a (V.agg [.int .i64 v.k,.int .i64 v.n,.str v.s]))=(r.vals.map aF).set a (aF v):=rfl
 have hlk:∀Y,(H'.set k Y).length=L:=fun Y=>by rw[pN,hlen]
 have hlk3:∀Y Z,((H'.set k Y).set 3 Z).length=L:=fun Y Z=>by rw[pN,pN,hlen]
 have yL:∀Y X,(H'.set k Y++X)[L]?=X[0]?:=fun Y X=>by
  have:=eh (H'.set k Y) X
  rwa [hlk]at this
 have y3:∀Y X,(H'.set k Y++X)[3]?=some (B.cells [.str oF,.nilS,.nilS]):=fun Y X=>by
  rw[oL (by rw[hlk];omega),oQ (by omega)];exact e3
 have yL':∀Y A X,∀h,(H'.set k Y++A::X)[L]'h=A:=fun Y A X=>du (by rw[yL];rfl)
 have y3':=fun Y X=>du (y3 Y X)
 have z3:∀Y Z X,((H'.set k Y).set 3 Z++X)[3]?=some Z:=fun Y Z X=>by rw[oL (by rw[hlk3];omega),oX (by rw[hlk];omega)]
 have z3':=fun Y Z X=>du (z3 Y Z X)
 have hLb:7<L∧3<L:=by omega
 simp -dsimp[hlen];refine aI (aX tok mixed [10] [] [] (by kernel_rfl) fun C K hC hK=>?_);simp -implicitDefEqProofs [x1,x2,x7,xk,x1',x2',x7',xk',xL,xL',hELl,hELi,hi,hlen,hLb,hkL,hli,hne',ha,show a<n by omega,aF];refine hK _ _ ?_;simp -dsimp[yL,yL',y3,y3',hlk,hlk3,z3,z3',hlen,hLb,hkL,show 3<L+1 by omega];have t1:=((htb.set (a:=a) hi v).other (x:=3) (by omega) (fun j _=>by show 3≠11+4*j;omega) (B.cells [V.str t.name,V.lst 1 false (List.map V.str t.attrs),V.buf 7 0 t.rows.length t.rows.length])).app [B.cells [V.str t.name,V.lst 1 false (List.map V.str t.attrs),V.buf 7 0 t.rows.length t.rows.length]];simp only[aD,LS,setT,←hr];refine expT (by simp) ?_;have t2:=t1.exp;rw[pN,←hr]at t2;rw[hk];exact t2
theorem chg_set{rs:List Rw}(hs:Srt rs){i:Nat}(h:i<rs.length)(a:Nat)(v:Vl):gX rs rs[i].id a v=rs.set i (setV (rwG rs i) a v):=by
 have hp:=List.pairwise_iff_getElem.1 hs
 refine pT fun j=>?_
 unfold gX;rw[oc,qY];by_cases hj:j<rs.length
 ·rw[oG hj,pB];by_cases e:i=j
  ·subst e;rw[if_pos rfl,if_pos rfl,if_pos h,dt h];rfl
  ·rw[if_neg e,if_neg];intro e2
   rcases Nat.lt_or_gt_of_ne e with q | q
   ·have:=hp i j h hj q;omega
   ·have:=hp j i hj h q;omega
 ·rw[pK (by omega),if_neg (by omega)];rfl
def chgE(t:Tb)(id a:Int)(v:Vl):Int:=if inT t id=true then(if a<0∨(t.attrs.length:Int)≤a then 6 else if aW v=true then 0 else 1) else 4
def chgV(t:Tb)(id a:Int)(v:Vl):V:=.tup [if chgE t id a v=0 then aD false false (wrT t (gX t.rows id a.toNat v)) else zTb,.int .i64 (chgE t id a v)]
theorem kC{t:Tb}{id a:Int}{v:Vl}{e:Int}(h:chgE t id a v=e)(h0:¬e=0):chgV t id a v = .tup [zTb,.int .i64 e]:=by
 unfold chgV;rw[h,if_neg h0]
theorem chgV_ok{t:Tb}{id a:Int}{v:Vl}(h:inT t id=true)(h1:¬a<0)(h2:¬(t.attrs.length:Int)≤a)(h3:aW v=true):chgE t id a v=0:=by
 unfold chgE;rw[if_pos h,if_neg (by omega),if_pos h3]
theorem chg_ok{t:Tb}{id a:Int}{v:Vl}(hv:aG t=0)(h:inT t id=true)(h1:¬a<0)(h2:¬(t.attrs.length:Int)≤a)(h3:aW v=true):∃i:Nat,∃_:i<t.rows.length,∃b:Nat,b<t.attrs.length∧a=(b:Int)∧(rwG t.rows i).id=id∧chgV t id a v = .tup [aD false false (setT t i b v),.int .i64 0]:=by
 have hkl:=iv 0 h;obtain⟨hid,_⟩:=nJ 0 h;obtain⟨b,hb⟩:=pU (show 0≤a by omega);refine⟨_,hkl,b,by omega,hb,hid,?_⟩;have e:=chg_set (bV hv) hkl b v;rw[←dt hkl,hid]at e;unfold chgV;rw[chgV_ok h h1 h2 h3,if_pos rfl,hb];simp only[qP];rw[e];rfl
theorem change_u(t:Tb)(f g:Bool)(id a:Int)(v:Vl)(hv:aG t=0)(hk:TbOk t):aJ Tryz.prog 132 [aD f g t,.agg [.int .i64 id,.int .i64 a],aF v] fun r=>r=chgV t id a v:=by
 have c1:=cI t f g hk;rw[hv]at c1;have hr:=cX hv;have cf:=gB t f g id (by omega);have c3:=cG v;obtain⟨k,hke⟩:∃k,k=(fnd t.rows id 0).1:=⟨_,rfl⟩;by_cases hin:inT t id=true
 case neg =>
  have hin':(fnd t.rows id 0).2=false:=by simpa[inT] using hin
  rw[hin',←hke]at cf;have e:chgV t id a v = .tup [zTb,.int .i64 4]:=kC (by unfold chgE;rw[if_neg hin]) (by decide);rw[e];simp only[aD,LS,LR]at c1 cf;refine sPx Tryz.func132 rfl rfl ?_;simp -dsimp[Tryz.f132,oE,aD,LS,LR,aF];refine cPx (c1) (by simp) ?_;simp -dsimp[];refine cPx (cf) (by simp) ?_;simp -dsimp[];rfl
 have hin':(fnd t.rows id 0).2=true:=hin;by_cases h1:a<0
 case pos =>
  rw[hin',←hke]at cf;have e:chgV t id a v = .tup [zTb,.int .i64 6]:=kC (by unfold chgE;rw[if_pos hin,if_pos (Or.inl h1)]) (by decide);rw[e];simp only[aD,LS,LR]at c1 cf;refine sPx Tryz.func132 rfl rfl ?_;simp -dsimp[Tryz.f132,oE,aD,LS,LR,aF];refine cPx (c1) (by simp) ?_;simp -dsimp[];refine cPx (cf) (by simp) ?_;simp -dsimp[h1];rfl
 by_cases h2:(t.attrs.length:Int)≤a
 case pos =>
  rw[hin',←hke]at cf;have e:chgV t id a v = .tup [zTb,.int .i64 6]:=kC (by unfold chgE;rw[if_pos hin,if_pos (Or.inr h2)]) (by decide);rw[e];simp only[aD,LS,LR]at c1 cf;refine sPx Tryz.func132 rfl rfl ?_;simp -dsimp[Tryz.f132,oE,aD,LS,LR,aF];refine cPx (c1) (by simp) ?_;simp -dsimp[];refine cPx (cf) (by simp) ?_;simp -dsimp[h1,h2];rfl
 cases h3:aW v with
 | false =>
  rw[hin',←hke]at cf;rw[h3]at c3;have e:chgV t id a v = .tup [zTb,.int .i64 1]:=kC (by unfold chgE;rw[if_pos hin,if_neg (show ¬(a<0∨(t.attrs.length:Int)≤a) by omega),if_neg (by simp[h3])]) (by decide);rw[e];simp only[aD,LS,LR]at c1 cf;simp only[aF]at c3;refine sPx Tryz.func132 rfl rfl ?_;simp -dsimp[Tryz.f132,oE,aD,LS,LR,aF];refine cPx (c1) (by simp) ?_;simp -dsimp[];refine cPx (cf) (by simp) ?_;simp -dsimp[h1,h2];refine cPx (c3) (by simp) ?_;simp -dsimp[];rfl
 | true =>
  obtain⟨i,hi,b,hb,rfl,hid,e⟩:=chg_ok hv hin h1 h2 h3;rw[e,←hid];exact chg_ok_u t f g i b v hv hk hi hb h3
theorem cloneNil_B:aJ Tryz.prog 125 [.nilS] fun r=>r = .nilS:=by
 refine sPx Tryz.func125 rfl rfl ?_;simp -dsimp[Tryz.f125,oE,eK,eqA]
def fT(t:Tb):Ch:=⟨1,t.name,t,⟨0,[]⟩,0,vl0⟩
structure TbL (t:Tb):Prop where
 ok:TbOk t
 a:t.attrs.length≤1000000
 r:t.rows.length≤1000000
 v:∀r∈t.rows,r.vals.length≤1000000
theorem creE_nil{t:Tb}(h:aG t=0):nZ [] t=0:=by
 unfold nZ;rw[if_pos h,if_neg,if_neg]
 ·simp
 ·rw[ixT];simp
theorem exp_db{H:List B}{k e:Nat}{x:V}{fz:Bool}(hk:H[k]?=some (.buf e 3 [x] fz))(hp:AM.Pure x):ExpX H (.tup [.agg [.buf k 0 1 1],.int .i64 0]) (.tup [.agg [.lst 3 false [x]],.int .i64 0]):=by
 refine .tup _ _ rfl (fun i c d hc hd=>?_)
 match i with
 | 0 =>
  simp at hc hd;subst hc;subst hd;refine .agg _ _ rfl (fun j c d hc hd=>?_)
  match j with
  | 0=>simp at hc hd;subst hc;subst hd;exact nS hk rfl (by simpa using hp)
  | k+1=>simp at hc
 | 1=>simp at hc hd;subst hc;subst hd;exact .pure _ (by simp)
 | k+2=>simp at hc
theorem apply_cre(t:Tb)(h:TbL t)(hv:aG t=0):aJ Tryz.prog 69 [.agg [.nilS],aK false false (fT t)] fun x=>x = .tup [.agg [LTb false [t]],.int .i64 0]:=by
 have c1:=creates_s [] false t false false (by simp) h.ok;rw[creE_nil hv]at c1
 have c1':aJ Tryz.prog 127 [.agg [.nilS],aD false false t] fun r=>r = .int .i64 0:=conP_args c1 rfl (fun i a b ha hb=>by
  match i with
  | 0 =>
   simp[LTb]at ha hb;subst ha;subst hb
   exact .agg _ _ rfl (fun j c d hc hd=>by
    match j with
    | 0=>simp at hc hd;subst hc;subst hd;exact .nil _ _
    | j+1=>simp at hc)
  | 1=>simp at ha hb;subst ha;subst hb;exact .refl _
  | i+2=>simp at ha)
 have c2:=fW t false false h.a h.r h.v;simp only[aD,LS,LR]at c1' c2;refine au (aE tok Tryz.func69 rfl rfl ?_);refine wx ?_;simp -dsimp[Tryz.f69,oE,aK,chC,fT,aD,LS,LR,LTb];refine cPx (c1') (by simp) ?_;simp -dsimp[];refine aI (aX tok mixed [7,9] [] [(.nilS,[]),(.agg [.str t.name,.lst 1 false (t.attrs.map V.str),.lst 2 false (t.rows.map aC)],[])] (by kernel_rfl) fun C K hC hK=>?_);simp -implicitDefEqProofs [];refine⟨⟨hC _ _ _ _ (aT cloneNil_B (by simp)),hC _ _ _ _ (aT c2 (by simp))⟩,hK _ _ ?_⟩;simp -dsimp[];exact exp_db rfl (by simp)
theorem commit1(db ud nw:V)(o f:Bool)(cs dl:List V)(hc:0<cs.length)(hd:dl.length≤1000000):aU Tryz.prog 88 [.ptr 0 0,.lst 11 f cs] [stB db (.buf 1 0 dl.length dl.length) ud o nw,dnS dl] fun r H'=>r = .tup []∧H'=[stB db (.buf 1 0 (dl.length+1) (dl.length+1)) .nilS o nw,dnS (dl++[.lst 11 f cs])]:=by
 obtain⟨n,hn⟩:∃n,n=dl.length:=⟨_,rfl⟩;rw[←hn]at hd ⊢;have hn':=hn.symm;refine aE tok Tryz.func88 rfl rfl ?_;refine wx ?_;simp -dsimp[Tryz.f88,oE,stB,dnS,hc,show(0:Int)<cs.length by omega,hn',nu n (by omega)]
theorem perform_cre(t:Tb)(h:TbL t)(hv:aG t=0):aU Tryz.prog 38 [.ptr 0 0,aK false false (fT t)] [stB .nilS (.buf 1 0 0 0) .nilS false .nilS,dnS []] fun r H'=>r = .int .i64 0∧H'=[stB (LTb false [t]) (.buf 1 0 1 1) .nilS false .nilS,dnS [.lst 11 true [aK false false (fT t)]]]:=by
 refine gW ?_ (by simp) (by simp) ?rb
 case rb=>exact StP.rb ⟨by simp,by simp,by simp,by simp,rfl,rfl,rfl,by simp[V.cells,V.one]⟩
 have c1:=apply_cre t h hv
 have c2:=fun G0 G1=>gm (H:=[stB (LTb false [t]) (.buf 1 0 0 0) .nilS false .nilS,dnS [],G0,G1]) (k:=0) (L:=1) (commit1 (LTb false [t]) .nilS .nilS false true [aK false false (fT t)] [] (by simp) (by simp)) ⟨by simp,by simp,by simp,by simp,rfl,rfl,rfl,by simp⟩ ⟨by simp,by simp,by simp,by simp,rfl,rfl,rfl,by simp[V.cells,V.one]⟩ (by simp) (by simp) (by decide) rfl rfl
 simp only[aK,chC,fT,vl0,aD,LS,LR,LTb,stB,qD,pI,pH,oz,pG,oq,pJ]at c1 c2 ⊢;refine aE tok Tryz.func38 rfl rfl ?_;refine wx ?_;simp -dsimp[Tryz.f38,oE];refine aI (aX tok mixed [9,10] [(0,[1]),(1,[1]),(2,[1]),(3,[1]),(4,[1]),(5,[1]),(6,[1]),(7,[1]),(8,[1,2])] [(.tup [.agg [.lst 3 false [.agg [.str t.name,.lst 1 false (t.attrs.map V.str),.lst 2 false (t.rows.map aC)]]],.int .i64 0],[])] (by kernel_rfl) fun C K hC hK=>?_);simp -implicitDefEqProofs [];refine⟨⟨hC _ _ _ _ (aT c1 (by simp)),hC _ _ _ _ (aT c1 (by simp))⟩,hK _ _ ?_⟩;simp -dsimp[];refine wcm (c2 _ _) ?_;rintro r H' ⟨rfl,rfl⟩;simp -dsimp[]
theorem le_cre{p a b c d:V} : ∀(i:Nat) x y,[p,.agg [.int .i64 1,a,b,c,d,.int .i64 0,.nilS,.int .i64 0,.int .i64 0,.int .i64 0,.str oF]][i]?=some x→[p,.agg [.int .i64 1,a,b,c,d,.int .i64 0,.lst 3 false [],.int .i64 0,.int .i64 0,.int .i64 0,.str oF]][i]?=some y→Le x y:=fun i x y hx hy=>by
 match i with
 | 0=>simp at hx hy;subst hx;subst hy;exact .refl _
 | 1 =>
  simp at hx hy;subst hx;subst hy;refine .agg _ _ rfl (fun j u v hu hv=>?_)
  match j with
  | 0=>simp at hu hv;subst hu;subst hv;exact .refl _
  | 1=>simp at hu hv;subst hu;subst hv;exact .refl _
  | 2=>simp at hu hv;subst hu;subst hv;exact .refl _
  | 3=>simp at hu hv;subst hu;subst hv;exact .refl _
  | 4=>simp at hu hv;subst hu;subst hv;exact .refl _
  | 5=>simp at hu hv;subst hu;subst hv;exact .refl _
  | 6=>simp at hu hv;subst hu;subst hv;exact .nil _ _
  | 7=>simp at hu hv;subst hu;subst hv;exact .refl _
  | 8=>simp at hu hv;subst hu;subst hv;exact .refl _
  | 9=>simp at hu hv;subst hu;subst hv;exact .refl _
  | 10=>simp at hu hv;subst hu;subst hv;exact .refl _
  | j+11=>simp at hu
 | i+2=>simp at hx
theorem create_s(t:Tb)(f g:Bool)(h:TbL t)(hv:aG t=0):aU Tryz.prog 17 [.ptr 0 0,aD f g t] [stB .nilS .nilS .nilS false .nilS] fun r H'=>r = .int .i64 0∧H'=[stB (LTb false [t]) (.buf 1 0 1 1) .nilS false .nilS,dnS [.lst 11 true [aK false false (fT t)]]]:=by
 refine gW ?_ (by simp) (by simp) ?rb
 case rb=>exact StP.rb ⟨by simp,by simp,by simp,by simp,rfl,rfl,rfl,by simp[V.cells,V.one]⟩
 have c1:=fW t f g h.a h.r h.v
 have c2:=fun G0=>gm (H:=[stB .nilS (.buf 1 0 0 0) .nilS false .nilS,dnS [],G0]) (k:=0) (L:=1) (perform_cre t h hv) ⟨by simp,by simp,by simp,by simp,rfl,rfl,rfl,by simp⟩ ⟨by simp,by simp,by simp,by simp,rfl,rfl,rfl,by simp[V.cells,V.one]⟩ (by simp) (by simp) (by decide) rfl rfl
 simp only[aK,chC,fT,vl0,aD,LS,LR,LTb,oz,pG,oq,pJ]at c1 c2 ⊢;refine aE tok Tryz.func17 rfl rfl ?_;refine dL 55 1 [] 0 [1] rfl (cD _ _) (by simp[stB]) ?_;refine wx ?_;simp -dsimp[Tryz.f17,oE];refine .inl (aI (aX tok mixed [6] [] [(.agg [.str t.name,.lst 1 false (t.attrs.map V.str),.lst 2 false (t.rows.map aC)],[]),(.int .i64 0,[stB (.lst 3 false [.agg [.str t.name,.lst 1 false (t.attrs.map V.str),.lst 2 false (t.rows.map aC)]]) (.buf 1 0 1 1) .nilS false .nilS,dnS [.lst 11 true [.agg [.int .i64 1,.str t.name,.str t.name,.lst 1 false (t.attrs.map V.str),.lst 2 false (t.rows.map aC),.int .i64 0,.lst 3 false [],.int .i64 0,.int .i64 0,.int .i64 0,.str oF]]],B.cells [.str t.name,.lst 1 f (t.attrs.map V.str),.lst 2 g (t.rows.map aC)]])] (by kernel_rfl) fun C K hC hK=>?_));simp -implicitDefEqProofs [];refine⟨⟨hC _ _ _ _ (aT c1 (by simp)),hC _ _ _ _ (jw (c2 _) rfl le_cre)⟩,hK _ _ ?_⟩;simp -dsimp[]
theorem tbs_rb(n e:Nat)(l:List Tb)(fz:Bool):rbB n (.buf e 3 (l.map (aD false false)) fz):=(dB (by simp) (by simp[aD,V.cells,LS,LR,V.one])).2 trivial
theorem db_s(ts:List Tb)(g:Bool)(m:Nat)(dl:List V)(ud nw:V)(o:Bool)(hl:ts.length≤1000000)(ht:∀t∈ts,TbL t)(p:StP (LTb g ts) ud nw dl):
  aU Tryz.prog 24 [.ptr 0 0] [stB (LTb g ts) (.buf 1 0 m m) ud o nw,dnS dl] fun r H'=>r = .agg [LTb false ts]∧H'=[stB (LTb g ts) (.buf 1 0 m m) ud o nw,dnS dl]:=by
 have hd:=p.pdl;have hd1:=p.odl;have hu:=p.pud;have hu1:=p.oud;have hw:=p.pnw;have hw1:=p.onw;refine gW ?_ (by simp) (by simp[LTb]) p.rb;obtain⟨S,hS⟩:∃S,S=stB (LTb g ts) (.buf 1 0 m m) ud o nw:=⟨_,rfl⟩;obtain⟨D,hD⟩:∃D,D=dnS dl:=⟨_,rfl⟩;have hSe:S=B.cells [.lst 3 g (ts.map (aD false false)),.buf 1 0 m m,ud,.bool o,nw]:=hS;rw[←hS,←hD]
 have hrbS:∀n,2≤n→rbB n S:=fun n hn=>by
  rw[hS];intro c hc;simp only[oR,oO,or_false]at hc
  rcases hc with rfl | rfl | rfl | rfl | rfl
  ·simp[LTb,rb1]
  ·show 1<n;omega
  ·exact bJ hu hu1
  ·simp[rb1]
  ·exact bJ hw hw1
 have hrbD:∀n,rbB n D:=fun n=>by rw[hD];exact(dB hd hd1).2 trivial
 refine aE tok Tryz.func24 rfl rfl ?_;refine wx ?_;simp -dsimp[Tryz.f24,oE,hSe];refine aI (dL 32 3 [] 3 [0] rfl (cD _ _) (by simp) (W_loopM 24 0xfff020 (by simp[mB]<;>rfl) (σ:=Nat) (fun i=>i≤ts.length) (fun i=>ts.length-i) (fun i=>[(12,.int .i64 i)]) (fun i=>[S,D,B.cells [.nilS],B.cells [.buf 4 0 i i],B.buf 32 3 ((ts.take i).map (aD false false)) false]) 0 (by omega) (by simp) (by simp[hSe]) (by simp) ?_));intro i hi N Q hN hQ
 have hli:(ts.take i).length=i:=by simp;omega
 by_cases hb:i<ts.length
 ·have hst:ts.take (i+1)=ts.take i++[ts[i]]:=oN hb;have hh:=ht _ (oI hb);obtain⟨t,hte⟩:∃t,t=ts[i]:=⟨_,rfl⟩;rw[←hte]at hst hh;have hc:=fW t false false hh.a hh.r hh.v;simp only[aD,LS,LR]at hc;obtain⟨l,hl2⟩:∃l,l=ts.take i:=⟨_,rfl⟩;rw[←hl2]at hst hli ⊢;refine wx ?_;simp -dsimp[hb,hte.symm,aD,LS,LR];refine aI (aX tok mixed [5,7] [] [(aD false false t,[])] (by kernel_rfl) fun C K hC hK=>?_);simp -implicitDefEqProofs [hb,aD,LS,LR,hli,cap64c i (by omega)];refine⟨hC _ _ _ _ (aT hc (by simp)),hK _ _ ?_⟩;simp -dsimp[aP i (by omega)];refine hN (i+1) _ _ (by omega) (by omega) (by simp) ⟨[B.cells [.str t.name,.lst 1 false (t.attrs.map V.str),.lst 2 false (t.rows.map aC)]],by simp[hst,aD,LS,LR]⟩ (by simp) ?_;intro bl hbl;simp only[oR,oO,or_false]at hbl
  rcases hbl with rfl | rfl | rfl | rfl | rfl
  ·exact hrbS _ (by simp)
  ·exact hrbD _
  ·simp
  ·simp
  ·exact tbs_rb _ _ _ _
 ·obtain rfl:i=ts.length:=by omega
  rw[oY];refine eG 4 [] 3 [0] rfl rfl (by simp) (by simp) ?_;refine wx ?_;simp -dsimp[hb];refine hQ _ _ _ ?_;simp -dsimp[];rfl
structure Tx where
 f:Bool
 l:List Ch
def aY(x:Tx):V:=.lst 11 x.f (x.l.map (aK false false))
@[simp] theorem encTx_pure (x:Tx):AM.Pure (aY x):=by simp[aY]
def jrL(xs:List Tx):List Ch:=xs.flatMap (·.l)
structure ChL (c:Ch):Prop where
 t:TbL c.tb
 v:c.row.vals.length≤1000000
theorem capJn(n:Nat)(h:n≤1000000):n≤9223372036854775806∧(n+1)*160≤140737488355328:=by omega
theorem jr_take{xs:List Tx}{i:Nat}(h:i<xs.length):jrL (xs.take (i+1))=jrL (xs.take i)++xs[i].l:=by
 unfold jrL;rw[oN h,rH];simp
theorem jr_len{xs:List Tx}{i:Nat} : (jrL (xs.take i)).length≤(jrL xs).length:=by
 have h:jrL xs=jrL (xs.take i)++jrL (xs.drop i):=by
  unfold jrL;rw[←rH,pc]
 rw[h,oT];omega
theorem jr_len2{xs:List Tx}{i:Nat}(h:i<xs.length):(jrL (xs.take i)).length+xs[i].l.length≤(jrL xs).length:=by
 have:=jr_len (xs:=xs) (i:=i+1);rw[jr_take h,oT]at this;exact this
theorem chs_rb(n e:Nat)(l:List Ch)(fz:Bool):rbB n (.buf e 11 (l.map (aK false false)) fz):=(dB (by simp) (by simp[aK,chC,V.cells,V.one])).2 trivial
theorem journal_s(db:V)(xs:List Tx)(ud nw:V)(o:Bool)(hx:xs.length≤1000000)(hl:(jrL xs).length≤1000000)(hc:∀x∈xs,∀c∈x.l,ChL c)(p:StP db ud nw (xs.map aY)):
  aU Tryz.prog 25 [.ptr 0 0] [stB db (.buf 1 0 xs.length xs.length) ud o nw,dnS (xs.map aY)] fun r H'=>r = .lst 11 false ((jrL xs).map (aK false false))∧H'=[stB db (.buf 1 0 xs.length xs.length) ud o nw,dnS (xs.map aY)]:=by
 have hdb:=p.pdb;have hdb1:=p.odb;have hu:=p.pud;have hu1:=p.oud;have hw:=p.pnw;have hw1:=p.onw;refine gW ?_ (by simp) (by simp) p.rb;obtain⟨S,hS⟩:∃S,S=stB db (.buf 1 0 xs.length xs.length) ud o nw:=⟨_,rfl⟩;obtain⟨D,hD⟩:∃D,D=dnS (xs.map aY):=⟨_,rfl⟩;have hSe:S=B.cells [db,.buf 1 0 xs.length xs.length,ud,.bool o,nw]:=hS;have hDe:D=B.buf 55 1 (xs.map aY) false:=hD;rw[←hS,←hD]
 have hrbS:∀n,2≤n→rbB n S:=fun n hn=>by
  rw[hS];intro c hc;simp only[oR,oO,or_false]at hc
  rcases hc with rfl | rfl | rfl | rfl | rfl
  ·exact bJ hdb hdb1
  ·show 1<n;omega
  ·exact bJ hu hu1
  ·simp[rb1]
  ·exact bJ hw hw1
 have hrbD:∀n,rbB n D:=fun n=>by rw[hD];exact(dB (by simp) (by simp[aY,V.cells,V.one])).2 trivial
 have hrb:∀(l:List Ch),∀bl∈[S,D,B.buf 81 11 (l.map (aK false false)) false],rbB 3 bl:=fun l bl hbl=>by
  simp only[oR,oO,or_false]at hbl
  rcases hbl with rfl | rfl | rfl
  ·exact hrbS _ (by omega)
  ·exact hrbD _
  ·exact chs_rb _ _ _ _
 refine aE tok Tryz.func25 rfl rfl ?_;refine wx ?_;simp -dsimp[Tryz.f25,oE,hSe,hDe];refine aI (eI 81 11 [3] (by simp) (W_loopM 37 0x1fffffe0a8 (by simp[mB]<;>rfl) (σ:=Nat) (fun i=>i≤xs.length) (fun i=>xs.length-i) (fun i=>[(13,.int .i64 i),(3,.buf 2 0 (jrL (xs.take i)).length (jrL (xs.take i)).length)]) (fun i=>[S,D,B.buf 81 11 ((jrL (xs.take i)).map (aK false false)) false]) 0 (by omega) (by simp[jrL]) (by simp[jrL,hSe,hDe]) (by simp) ?_));intro i hi N Q hN hQ;by_cases hb:i<xs.length
 ·have hst:=jr_take hb;have hln:=jr_len2 hb;have hxc:=hc _ (oI hb);obtain⟨x,hxe⟩:∃x,x=xs[i]:=⟨_,rfl⟩;rw[←hxe]at hst hln hxc;obtain⟨l,hle⟩:∃l,l=jrL (xs.take i):=⟨_,rfl⟩;rw[←hle]at hst hln ⊢;obtain⟨y,hye⟩:∃y,y=x.l:=⟨_,rfl⟩;rw[←hye]at hst hln hxc;have hye':=hye.symm;refine wx ?_;simp -dsimp[hb,hDe,hxe.symm,aY,hye'];refine aI (W_loopM 36 0xffff80088 (by simp[mB]<;>rfl) (σ:=Nat) (fun j=>j≤y.length) (fun j=>y.length-j) (fun j=>[(19,.int .i64 j),(3,.buf 2 0 (l++y.take j).length (l++y.take j).length)]) (fun j=>[S,D,B.buf 81 11 ((l++y.take j).map (aK false false)) false]) 0 (by omega) (by simp) (by simp[hDe]) (by simp) ?_);intro j hj N2 Q2 hN2 hQ2
  have hyl:(l++y.take j).length=l.length+j:=by simp;omega
  by_cases hb2:j<y.length
  ·have hs2:l++y.take (j+1)=(l++y.take j)++[y[j]]:=by rw[oN hb2,oh]
   have hcc:=hxc _ (oI hb2);obtain⟨c,hce⟩:∃c,c=y[j]:=⟨_,rfl⟩;rw[←hce]at hs2 hcc;obtain⟨z,hz⟩:∃z,z=l++y.take j:=⟨_,rfl⟩;rw[←hz]at hs2 hyl ⊢;have c1:=fW c.tb false false hcc.t.a hcc.t.r hcc.t.v;have c2:=row_s c.row hcc.v;simp only[aD,LS,LR,aC,LV]at c1 c2;refine wx ?_;simp -dsimp[hb2,hce.symm,aK,chC];refine aI (aX tok mixed [7,9] [] [(.agg [.str c.tb.name,.lst 1 false (c.tb.attrs.map V.str),.lst 2 false (c.tb.rows.map aC)],[]),(.agg [.int .i64 c.row.id,.lst 3 false (c.row.vals.map aF)],[])] (by kernel_rfl) fun C K hC hK=>?_);simp -implicitDefEqProofs [];refine⟨⟨hC _ _ _ _ (aT c1 (by simp)),hC _ _ _ _ (aT c2 (by simp))⟩,hK _ _ ?_⟩;simp -dsimp[hyl,capJn (l.length+j) (by omega),aP j (by omega)];refine hN2 (j+1) _ _ (by omega) (by omega) (by simp[hs2,hyl]) ⟨[B.cells (chC false false c)],by simp[hs2,aK,chC]⟩ (by simp) (hrb _)
  ·obtain rfl:j=y.length:=by omega
   rw[oY];refine wx ?_;simp -dsimp[hb2];refine hQ2 _ _ _ ?_;simp -dsimp[aP i (by omega)];refine hN (i+1) _ _ (by omega) (by omega) (by simp[hst]) ⟨[],by simp[hst]⟩ (by simp) (hrb _)
 ·obtain rfl:i=xs.length:=by omega
  rw[oY];refine eo 2 [3] rfl (by simp) ?_;refine wx ?_;simp -dsimp[hb,hDe];refine hQ _ _ _ ?_;simp -dsimp[];exact hDe.symm
def kpR(K:List Int)(R:List Rw):List Rw:=R.filter fun r=>cP K r.id
theorem kpR_succ{K:List Int}{R:List Rw}{i:Nat}(h:i<R.length):kpR K (R.take (i+1))=if cP K R[i].id=true then kpR K (R.take i)++[R[i]] else kpR K (R.take i):=by
 unfold kpR;rw[oN h,qC];split
 ·rename_i h2;rw[List.filter_cons_of_pos (p:=fun r:Rw=>cP K r.id) h2];simp
 ·rename_i h2;rw[List.filter_cons_of_neg (p:=fun r:Rw=>cP K r.id) h2];simp
theorem kpR_len(K:List Int)(R:List Rw):(kpR K R).length≤R.length:=pf _ _
theorem fu{K:List Int}{R:List Rw}{r:Rw} : r∈kpR K R↔r∈R∧cP K r.id=true:=qF
theorem capRwk(n:Nat)(h:n≤1000000000):n≤9223372036854775806∧(n+1)*32≤140737488355328:=by omega
theorem rw_rbk(n e:Nat)(l:List Rw)(fz:Bool):rbB n (.buf e 2 (l.map aC) fz):=by
 intro x hx c hc;obtain⟨r,_,rfl⟩:=List.mem_map.1 hx;simp[aC,V.cells]at hc
 rcases hc with rfl | rfl
 ·trivial
 ·intro y hy;obtain⟨v,_,rfl⟩:=List.mem_map.1 (show y∈r.vals.map aF by simpa[LV] using hy);simp[aF]
theorem keep_u(t:Tb)(K:List Int)(f g fk:Bool)(ha:t.attrs.length≤1000000)(hr:t.rows.length≤1000000)(hv:∀r∈t.rows,r.vals.length≤1000000)(hK:K.length≤1000000):aJ Tryz.prog 58 [aD f g t,L1 fk K] fun r=>r=aD false false ⟨t.name,t.attrs,kpR K t.rows⟩:=by
 obtain⟨R,hR⟩:∃R,R=t.rows:=⟨_,rfl⟩;have cw:=with_t t (kpR K R) f g false ha (pY (kpR_len K R) (by rw[hR];exact hr)) (fun r h=>hv r (by rw[←hR];exact(fu.1 h).1));rw[hR]at cw;obtain⟨kt,hkte⟩:∃kt,kt=(⟨t.name,t.attrs,kpR K t.rows⟩:Tb):=⟨_,rfl⟩;rw[←hkte]at cw ⊢;rw[←hR]at cw hr;obtain⟨tb,htbe⟩:∃tb,tb=B.cells [.str t.name,.lst 1 f (t.attrs.map V.str),.lst 2 g (R.map aC)]:=⟨_,rfl⟩
 have htr:∀k,rbB k tb:=fun k=>by rw[htbe];simp
 have hrb:∀rs:List Rw,∀bl∈[tb,B.cells [.str oF,.nilS,.nilS],B.buf 53 2 (rs.map aC) false],rbB 3 bl:=fun rs bl hbl=>by
  simp only[oR,oO,or_false]at hbl
  rcases hbl with rfl | rfl | rfl
  ·exact htr _
  ·intro c hc;simp only[oR,oO,or_false]at hc;rcases hc with rfl | rfl | rfl<;>simp[rb,rb1]
  ·exact rw_rbk _ _ _ _
 simp only[aD,LS,LR]at cw;rw[←hR]at cw;refine sPx Tryz.func58 rfl rfl ?_;simp -dsimp[Tryz.f58,oE,aD,LS,LR,L1];rw[←hR,←htbe];refine aI (eI 53 2 [5] (by simp) (W_loopM 24 0xfff8a0 (by simp[mB]<;>rfl) (σ:=Nat) (fun p=>p≤R.length) (fun p=>R.length-p) (fun p=>[(11,.int .i64 p),(5,.buf 2 0 (kpR K (R.take p)).length (kpR K (R.take p)).length)]) (fun p=>[tb,B.cells [.str oF,.nilS,.nilS],B.buf 53 2 ((kpR K (R.take p)).map aC) false]) 0 (by omega) (by simp[kpR]) (by simp[kpR]) (by simp) ?_));intro i hi N Q hN hQ;have wi:=aP i (by omega);have hol:=kpR_len K (R.take i);rw[ot,qE (by omega)]at hol;by_cases hb:i<R.length
 ·have hsu:=kpR_succ (K:=K) hb;obtain⟨r,hre⟩:∃r,r=R[i]:=⟨_,rfl⟩;obtain⟨o,ho⟩:∃o,o=kpR K (R.take i):=⟨_,rfl⟩;rw[←hre,←ho]at hsu;rw[←ho]at hol ⊢;have ch:=contains64 K r.id fk hK;simp only[L1]at ch
  cases hm:cP K r.id with
  | false =>
   rw[hm]at ch;rw[if_neg (by simp[hm])]at hsu;refine wx ?_;simp -dsimp[hb,hre.symm,aC,LV];refine cPx (ch) (by simp) ?_;simp -dsimp[wi];refine hN (i+1) _ _ (by omega) (by omega) (by simp[hsu]) ⟨[_],by rw[hsu];rfl⟩ (by simp[aC,LV,aQ]) (hrb _)
  | true =>
   rw[hm]at ch;rw[if_pos hm]at hsu;have cap:=capRwk o.length (by omega);refine wx ?_;simp -dsimp[hb,hre.symm,aC,LV];refine cPx (ch) (by simp) ?_;simp -dsimp[wi,cap.1,cap.2];refine hN (i+1) _ _ (by omega) (by omega) (by simp[hsu]) ⟨[_],by rw[hsu,oe];rfl⟩ (by simp[aC,LV,aQ]) (hrb _)
 ·obtain rfl:i=R.length:=by omega
  rw[pA (by omega)];refine eo 2 [5] rfl (by simp[dM]) ?_;refine wx ?_;simp -dsimp[hb,htbe];refine hQ _ _ _ ?_;simp -dsimp[];refine cPx (cw) (by simp) ?_;simp -dsimp[aD,LS,LR]
end
end Go.Proofs.YtdnhplencamncaaGreatDoor
