/- JX24: own texts of this seat, joined and shortened by pack4.py: BU, LBp, BS, BV. -/
import Derived.Test.YtjogkbekekdkjaaGreatDoorJX22
import Derived.Test.YtjogkbekekdkjaaGreatDoorJX23
set_option linter.unusedVariables false
set_option linter.unusedSimpArgs false
set_option maxRecDepth 100000
set_option maxHeartbeats 64000000
open Bool renaming and_false→sv
open List renaming replicate→rO,drop_eq_getElem_cons→rP,getElem_mem→rQ,drop_of_length_le→rR,not_mem_nil→rS,mem_cons→rU,take_succ_eq_append_getElem→rV,length_append→ri,append_nil→rj,drop_zero→rk,take_of_length_le→rt,length_filter_le→rz,mem_singleton→sC,mem_cons_self→sE,mem_cons_of_mem→sG,all_eq_true→sH,length_map→sK,flatMap_cons→tp,flatMap_nil→uu
open Nat renaming mul_le_mul_right→ro,le_trans→sF,zero_le→sY,lt_of_le_of_lt→tV,and_le_left→vB
namespace Go.Proofs.YtjogkbekekdkjaaGreatDoor
section
open Go Go.AM
def bdV(t:Tb)(cs:List Cn):V:=if aV t cs=0 then iK false false (aa t.rows) (ak (bQ t cs)) else .agg [.nilS,.nilS]
theorem bdV_pure(t:Tb)(cs:List Cn):AM.Pure (bdV t cs):=by
 unfold bdV;split
 ·simp[iK]
 ·simp
structure BdOk (t:Tb) (cs:List Cn):Prop where
 ok:TbOk t
 small:t.rows.length≤8→TbS t
 rows:t.rows.length≤8∨200<t.rows.length
 few:cs.length≤5
 cns:∀c∈cs,CnB c
theorem posL_of{t:Tb}(g:TbC t){x:List Int}(h:EdgL t.rows x):iQ x:=⟨h.2.1,h.2.2.1,fun a ha=>by
 have:=h.2.2.2 a ha;unfold aa at this;obtain⟨r,hr,rfl⟩:=List.mem_map.1 this
 exact g.pos r hr⟩
theorem progE_len(all:List (List Int)):(nr all).length≤all.length:=by
 unfold nr;refine sF (compL_len _) ?_;rw[fh];exact rz _ _
theorem allV_len{t:Tb}(h8:t.rows.length≤8){cs:List Cn}(h:∀c∈cs,ac t c=0)(hl:cs.length≤5):(allV t cs).length≤20000:=by
 have:=gA cs (f:=cnV t) (k:=4000) fun c hc=>cnV_len h8 (h c hc)
 unfold allV;have h2:cs.length*4000≤5*4000:=ro _ hl;omega
theorem LFz_rb(n e:Nat)(o:List (List Int))(fz:Bool):rbB n (.buf e 1 (o.map (L1 false)) fz):=fun x hx=>by
 obtain⟨y,_,rfl⟩:=List.mem_map.1 hx;intro c hc;simp only[L1,V.cells,rU,rS,or_false]at hc;subst hc;simp[rb1]
theorem oE{t:Tb}{cs:List Cn}{i:Nat}(h:i<cs.length):dF t (cs.drop i)=if ac t cs[i]=0 then dF t (cs.drop (i+1)) else ac t cs[i]:=by
 rw[rP h,dF]
theorem build_u(t:Tb)(cs:List Cn)(f g fc:Bool)(h:BdOk t cs):aL Tryz.prog 39 [aD f g t,LCn fc cs] fun r=>r = .tup [bdV t cs,.int .i64 (aV t cs)]:=by
 have c1:=iT t f g h.ok;have htB:B.cells [.str t.name,.lst 1 f (t.attrs.map V.str),.lst 2 g (t.rows.map aI)]=tcB t f g:=rfl
 have htr:∀n,rbB n (tcB t f g):=fun n=>bS n t f g
 by_cases hv:aZ t=0
 case neg =>
  have he:aV t cs=aZ t:=by unfold aV;rw[if_neg hv]
  have hbd:bdV t cs = .agg [.nilS,.nilS]:=by unfold bdV;rw[he,if_neg hv]
  rw[he,hbd];obtain⟨e,hee⟩:∃e,e=aZ t:=⟨_,rfl⟩;rw[←hee]at c1 hv ⊢;simp only[aD,LS,LR]at c1;refine sPx Tryz.func39 rfl rfl ?_;simp -dsimp[Tryz.f39,rO,aD,LS,LR,LCn];refine cPx (c1) (by simp) ?_;simp -dsimp[hv]
 case pos =>
 rw[hv]at c1;have ct:=tbC hv;by_cases h2:200<t.rows.length
 ·have he:aV t cs=3:=by unfold aV;rw[if_pos hv,if_pos h2]
  have hbd:bdV t cs = .agg [.nilS,.nilS]:=by unfold bdV;rw[he,if_neg (by decide)]
  rw[he,hbd];simp only[aD,LS,LR]at c1;refine sPx Tryz.func39 rfl rfl ?_;simp -dsimp[Tryz.f39,rO,aD,LS,LR,LCn];refine cPx (c1) (by simp) ?_;simp -dsimp[show(200:Int)<t.rows.length by omega]
 have h8:t.rows.length≤8:=by have:=h.rows;omega
 have hts:=h.small h8;have hcs:=h.cns;have hl5:=h.few
 have he:aV t cs=dF t cs:=by unfold aV;rw[if_pos hv,if_neg h2]
 have hbd:bdV t cs=if dF t cs=0 then iK false false (aa t.rows) (nr (allV t cs)) else .agg [.nilS,.nilS]:=by
  unfold bdV;rw[he];split
  ·rename_i h0;rw[qV ct (kf h0)]
  ·rfl
 rw[he,hbd];simp only[aD,LS,LR]at c1
 have hrb0:∀bl∈[tcB t f g,B.cells [.nilS,.nilS]],rbB 2 bl:=fun bl hbl=>by
  simp only[rU,rS,or_false]at hbl
  rcases hbl with rfl | rfl
  ·exact htr _
  ·intro c hc;simp at hc;subst hc;simp[rb,rb1]
 have hrb1:∀o:List (List Int),∀bl∈[tcB t f g,B.cells [.nilS,.nilS],B.buf 34 1 (o.map (L1 false)) false],rbB 3 bl:=fun o bl hbl=>by
  simp only[rU,rS,or_false]at hbl
  rcases hbl with rfl | rfl | rfl
  ·exact htr _
  ·intro c hc;simp at hc;subst hc;simp[rb,rb1]
  ·exact oH _ _ _
 refine sPx Tryz.func39 rfl rfl ?_;simp -dsimp[Tryz.f39,rO,aD,LS,LR,LCn];refine cPx (c1) (by simp) ?_;simp -dsimp[show ¬(200:Int)<t.rows.length by omega];refine aG (W_loopM 47 0x7fff00000720 (by simp[mB]<;>rfl) (σ:=Nat) (fun i=>i≤cs.length∧dF t (cs.drop i)=dF t cs) (fun i=>cs.length-i) (fun i=>[(32,.int .i64 i)]) (fun _=>[tcB t f g,B.cells [.nilS,.nilS]]) 0 ⟨by omega,by rw[rk]⟩ (by simp) (by simp[tcB]) (by simp) ?_);rintro i ⟨hi,hx⟩ N Q hN hQ;by_cases hb:i<cs.length
 ·rw[oE hb]at hx;have hcb:=hcs _ (rQ hb);obtain⟨c,hce⟩:∃c,c=cs[i]:=⟨_,rfl⟩;rw[←hce]at hx hcb;have c2:=lh t c f g ct.wide hcb;have hp:=trV_pure t c;obtain⟨tv,htv⟩:∃tv,tv=trV t c:=⟨_,rfl⟩;rw[←htv]at c2 hp;simp only[aD,LS,LR,af,L1,LCl,LA]at c2;by_cases h0:ac t c=0
  ·rw[if_pos h0]at hx;rw[h0]at c2;refine wx ?_;simp -dsimp[hb,hce.symm,af,L1,LCl,LA,tcB];refine cPx (c2) (by simp) ?_;simp -dsimp[aH i (by omega)];refine hN (i+1) _ _ ⟨by omega,hx⟩ (by omega) (by simp) ⟨[B.cells (dG c)],by simp[tcB,dG]⟩ (by simp) hrb0
  ·rw[if_neg h0]at hx;obtain⟨e,hee⟩:∃e,e=ac t c:=⟨_,rfl⟩;rw[←hee]at c2 h0 hx;refine wx ?_;simp -dsimp[hb,hce.symm,af,L1,LCl,LA,tcB];refine cPx (c2) (by simp) ?_;simp -dsimp[h0];refine hQ _ _ _ ?_;simp -dsimp[];rw[←hx];exact⟨fun h=>absurd h h0,rfl⟩
 ·have h0:dF t cs=0:=by rw[←hx,rR (by omega)];rfl
  have hok:=kf h0;have hAl:=allV_len h8 hok hl5
  have hAP:∀d∈allV t cs,iQ d:=fun d hd=>posL_of ct (eQ ct hok ((all_mem ct hok).1 hd))
  have hA:∃A,A=allV t cs:=⟨_,rfl⟩;obtain⟨A,hA⟩:=hA;rw[←hA]at hAl hAP;have hPl:=progE_len A;have cm:=minimal_u A false hAP (by omega);obtain⟨PE,hPE⟩:∃PE,PE=nr A:=⟨_,rfl⟩;rw[←hPE]at cm hPl;simp only[LL]at cm;refine wx ?_;simp -dsimp[hb];refine hQ _ _ _ ?_;simp -dsimp[];refine aG (bf 34 1 [11] (by simp) (W_loopM 67 0x7fffe00000000e820 (by simp[mB]<;>rfl) (σ:=Nat×List (List Int)) (fun p=>p.2++(cs.drop p.1).flatMap (cnV t)=A) (fun p=>cs.length-p.1) (fun p=>[(49,.int .i64 p.1),(11,.buf 2 0 p.2.length p.2.length)]) (fun p=>[tcB t f g,B.cells [.nilS,.nilS],B.buf 34 1 (p.2.map (L1 false)) false]) (0,[]) (by rw[hA];rfl) (by simp) (by simp) (by simp) ?_));rintro⟨i,out⟩ hx2 N2 Q2 hN2 hQ2;simp only at hx2;by_cases hb2:i<cs.length
  ·rw[flat_drop hb2]at hx2;have hcb:=hcs _ (rQ hb2);have hck:=hok _ (rQ hb2);obtain⟨c,hce⟩:∃c,c=cs[i]:=⟨_,rfl⟩;rw[←hce]at hx2 hcb hck;have c2:=violations_u t c f g hts hv hcb;rw[hck,show vlV t c=LL false (cnV t c) from by unfold vlV;rw[if_pos hck]]at c2;obtain⟨w,hw⟩:∃w,w=cnV t c:=⟨_,rfl⟩;rw[←hw]at c2 hx2
   have hol:out.length+w.length≤20000:=by rw[←hx2]at hAl;simp only[ri]at hAl;omega
   simp only[aD,LS,LR,af,L1,LCl,LA,LL]at c2;by_cases hw0:w=[]
   ·subst hw0;refine wx ?_;simp -dsimp[hb2,hce.symm,af,L1,LCl,LA,tcB];refine cPx (c2) (by simp) ?_;simp -dsimp[aH i (by omega)];refine hN2 (i+1,out) _ _ (by simpa using hx2) (by simp only;omega) (by simp) ⟨[B.cells (dG c)],by simp[tcB,dG]⟩ (by simp) (hrb1 _)
   ·refine wx ?_;simp -dsimp[hb2,hce.symm,af,L1,LCl,LA,tcB];refine cPx (c2) (by simp) ?_;simp -dsimp[hw0,capV out.length w.length (by omega),aH i (by omega)];refine hN2 (i+1,out++w) _ _ (by rw[←hx2];simp) (by simp only;omega) (by simp) ⟨[B.cells (dG c)],by simp[tcB,dG]⟩ (by simp) (hrb1 _)
  ·rw[rR (by omega),uu,rj]at hx2;subst hx2;obtain⟨I,hI⟩:∃I,I=aa t.rows:=⟨_,rfl⟩
   have hIl:I.length=t.rows.length:=by rw[hI,bC]
   obtain⟨R,hR⟩:∃R,R=t.rows:=⟨_,rfl⟩;rw[←hR]at hIl h8
   have hII:∀i (h:i<R.length),I.take (i+1)=I.take i++[R[i].id]:=fun i h=>by
    rw[rV (by omega)];congr 2;simp[hI,aa,hR]
   have htB2:tcB t f g=B.cells [.str t.name,.lst 1 f (t.attrs.map V.str),.lst 2 g (R.map aI)]:=by rw[hR];rfl
   have hrb2:∀(i:Nat) (l:List Int),∀bl∈[tcB t f g,B.cells [.nilS,.nilS],B.buf 34 1 (out.map (L1 false)) true,B.cells [.buf 4 0 i i,.lst 1 false (PE.map (L1 false))],B.buf 2 1 (l.map aE) false],rbB 5 bl:=fun i l bl hbl=>by
    simp only[rU,rS,or_false]at hbl
    rcases hbl with rfl | rfl | rfl | rfl | rfl
    ·exact htr _
    ·intro c hc;simp at hc;subst hc;simp[rb,rb1]
    ·exact LFz_rb _ _ _ _
    ·intro c hc;simp at hc;rcases hc with rfl | rfl<;>simp[rb,rb1]
    ·exact(rbB_buf1 (fun x hx=>by obtain⟨y,_,rfl⟩:=List.mem_map.1 hx;exact⟨by simp,rfl⟩)).2 trivial
   refine cy 2 [11] rfl (by simp) ?_;refine wx ?_;simp -dsimp[hb2];refine hQ2 _ _ _ ?_;simp -dsimp[LL];refine cPx (cm) (by simp) ?_;simp -dsimp[htB2];rw[←htB2];refine aG (eS 2 1 [] 3 [0] rfl (by simp) (by simp) (W_loopM 85 0x1ffe000000000000040000 (by simp[mB]<;>rfl) (σ:=Nat) (fun i=>i≤R.length) (fun i=>R.length-i) (fun i=>[(73,.int .i64 i)]) (fun i=>[tcB t f g,B.cells [.nilS,.nilS],B.buf 34 1 (out.map (L1 false)) true,B.cells [.buf 4 0 i i,.lst 1 false (PE.map (L1 false))],B.buf 2 1 ((I.take i).map aE) false]) 0 (by omega) (by simp) (by simp) (by simp) ?_));intro j hj N3 Q3 hN3 hQ3
   have htl:(I.take j).length=j:=by simp;omega
   by_cases hjb:j<R.length
   ·have hst:=hII j hjb;obtain⟨r,hre⟩:∃r,r=R[j]:=⟨_,rfl⟩;rw[←hre]at hst;obtain⟨l,hle⟩:∃l,l=I.take j:=⟨_,rfl⟩;rw[←hle]at hst htl ⊢;refine wx ?_;simp -dsimp[hjb,hre.symm,aI,LV,htl,go j (by omega),ai j (by omega),aH j (by omega)];refine hN3 (j+1) _ _ (by omega) (by omega) (by simp) ⟨[B.cells [.int .i64 r.id,.lst 3 false (r.vals.map aX)]],by simp[hst,aE]⟩ (by simp) (hrb2 _ _)
   ·obtain rfl:j=R.length:=by omega
    rw[rt (by omega)];refine eT 4 [] 3 [0] rfl rfl (by simp) (by simp[hIl]) ?_;refine wx ?_;simp -dsimp[hjb];refine hQ3 _ _ _ ?_;simp -dsimp[show ¬(20000:Int)<PE.length by omega];rw[if_pos h0,←hA,←hPE,←hI];simp[iK,L1,LL];exact h0.symm
theorem cnsErr_of{t:Tb} : ∀{cs:List Cn},(∀c∈cs,ac t c=0)→dF t cs=0
 | [],_=>rfl
 | c::cs,h=>by
  rw[dF,if_pos (h c (sE ..))]
  exact cnsErr_of fun c' hc=>h c' (sG _ hc)
theorem ofC_sz(c:Int):(ofC c).s.size≤maxLen:=ofV_sz _
theorem tmOf_sz(n:Nat)(vars v c:Int):(oI n vars v c).x.s.size≤maxLen:=by
 unfold oI;split
 ·exact ofC_sz c
 ·show(0:Nat)≤maxLen;exact sY _
theorem cnB_of{n:Nat}(hn:n≤16){r:Rul}(h:RulOk r)(hk:ez r=true):CnB (eW n r):=by
 have hz:CnB { cn0 with kind:=1,fd:=fdOf n r.fd }:=⟨sY _,sY _,sY _,sY _,sY _,
  ⟨tV vB (by have:=h.fd.1;omega),tV vB (by have:=h.fd.2;omega)⟩,fun a ha=>by cases ha⟩
 unfold eW;split
 ·refine⟨?_,?_,sY _,sY _,sY _,⟨by show 0<4294967296;omega,by show 0<4294967296;omega⟩,fun a ha=>by cases ha⟩
  ·show(cfL _ _ _).length≤_;have:=pA r.cl (cfR n r.cr) n;omega
  ·show(cfP _ _).length≤_;rw[cfP_len];have:=pA r.cl (cfR n r.cr) n;omega
 ·split
  ·have hm:∀l,(mbF n l).length≤1000000:=fun l=>by
    unfold mbF;split
    ·exact sY _
    ·simp;omega
   exact⟨sY _,sY _,hm _,hm _,sY _,⟨by show 0<4294967296;omega,by show 0<4294967296;omega⟩,fun a ha=>by cases ha⟩
  ·split
   ·rename_i h3;unfold ez at hk;rw[h3]at hk
    have h5:r.sn.length≤5:=by simpa using hk
    refine⟨sY _,sY _,sY _,sY _,?_,⟨by show 0<4294967296;omega,by show 0<4294967296;omega⟩,fun a ha=>?_⟩
    ·show(r.sn.map _).length≤_;rw[sK];omega
    ·obtain⟨s,_,rfl⟩:=List.mem_map.1 (show a∈r.sn.map (atOf n (1+r.nv.tmod 3)) from ha);exact⟨tmOf_sz _ _ _ _,tmOf_sz _ _ _ _⟩
   ·exact hz
theorem bd_rcp{x:Rcp}(hx:RcpOk x){rs:List Rul}(hr:∀r∈rs,RulOk r)(hall:rs.all ez=true)(h4:rs.length≤4):
  BdOk (eV x) (rs.map (eW (eV x).attrs.length))∧(∀c∈rs.map (eW (eV x).attrs.length),ac (eV x) c=0)∧aV (eV x) (rs.map (eW (eV x).attrs.length))=0:=by
 obtain⟨h1,h2⟩:=tbOf_ok hx;have h6:=hx.rows;have hrl:=kG x;have hw:=(tbC h2).wide;rw[sH]at hall
 have he:∀c∈rs.map (eW (eV x).attrs.length),ac (eV x) c=0:=fun c hc=>by
  obtain⟨r,hm,rfl⟩:=List.mem_map.1 hc;exact cnOf_ok (tbOf_name x) (hr r hm) (hall r hm)
 refine⟨⟨h1.ok,fun _=>h1,.inl (by omega),by rw[sK];omega,fun c hc=>?_⟩,he,?_⟩
 ·obtain⟨r,hm,rfl⟩:=List.mem_map.1 hc;exact cnB_of hw (hr r hm) (hall r hm)
 ·unfold aV;rw[if_pos h2,if_neg (by omega)];exact cnsErr_of he
theorem jE{t:Tb}{cs:List Cn}(h:aV t cs=0):bdV t cs=iK false false (aa t.rows) (ak (bQ t cs)):=by unfold bdV;rw[if_pos h]
theorem qt{t:Tb}{cs:List Cn}(h:¬aV t cs=0):bdV t cs = .agg [.nilS,.nilS]:=by unfold bdV;rw[if_neg h]
theorem cG{t:Tb}{cs:List Cn}(h:aV t cs=0):aZ t=0∧t.rows.length≤200∧∀c∈cs,ac t c=0:=by
 unfold aV at h;split at h
 ·rename_i h1;split at h
  ·cases h
  ·exact⟨h1,by omega,kf h⟩
 ·rename_i h1;exact absurd h h1
theorem cA{t:Tb}{cs:List Cn}(hb:BdOk t cs)(h:aV t cs=0):Small (aa t.rows) (ak (bQ t cs))∧Hyp (aa t.rows) (ak (bQ t cs))∧(ak (bQ t cs)).length≤20000:=by
 obtain⟨h1,h2,h3⟩:=cG h;have g:=tbC h1
 have h8:t.rows.length≤8:=by have:=hb.rows;omega
 have hh:=edges_hyp g h3
 have hl:(ak (bQ t cs)).length≤20000:=by
  rw[←qV g h3];exact sF (progE_len _) (allV_len h8 h3 hb.few)
 refine⟨⟨by rw[bC];omega,by omega,fun e he=>?_⟩,hh,hl⟩;have hm:=(iM (l:=bQ t cs) fun e he=>(eQ g h3 he).1).mem e;have:=(eQ g h3 (hm.1 he).1).2.2.1;omega
theorem validT_kT{K:List Int}{t:Tb}(h:aZ t=0):aZ (kT K t)=0:=by
 have g:=tbC h;unfold aZ at h ⊢;split at h
 ·rename_i h1;split at h
  ·cases h
  ·rename_i h2;split at h
   ·rename_i h3;rw[if_pos (show bp (kT K t).name=true from h1),if_neg,if_pos (show fq (kT K t).attrs=true from h3)]
    ·exact kz (fun r hr=>g.pos r (fC.1 hr).1) (fun r hr=>g.len r (fC.1 hr).1) (fun r hr v hv=>by
      have:=List.all_eq_true.1 (g.val r (fC.1 hr).1) v hv
      exact this) (kR_ord g.ids)
    ·have:(kT K t).rows.length≤t.rows.length:=rz _ _;have h4:(kT K t).attrs=t.attrs:=rfl;rw[h4];omega
   ·cases h
 ·cases h
theorem kT_len(K:List Int)(t:Tb):(kT K t).rows.length≤t.rows.length:=rz _ _
theorem tbS_kT{K:List Int}{t:Tb}(h:TbS t):TbS (kT K t):=
 ⟨⟨h.ok.name,h.ok.attrs,sF (kT_len K t) h.ok.rows,h.ok.strs⟩,fun r hr=>h.sz r (fC.1 hr).1,sF (kT_len K t) h.few⟩
theorem cnErr_kT(K:List Int)(t:Tb)(c:Cn):ac (kT K t) c=ac t c:=rfl
def wlV(t:Tb)(c:Cn):V:=if ac t c=0 then LL false (cnR t c) else .nilS
theorem wlV_pure(t:Tb)(c:Cn):AM.Pure (wlV t c):=by
 unfold wlV;split
 ·exact LL_pure _ _
 ·exact .nilS
theorem viol16e(t:Tb)(c:Cfd)(f g f2 g2:Bool)(h:TbOk t)(hl:c.l.length≤1000000)(hp:c.p.length≤1000000)(hv:aZ t=0)(ho:cfB t.attrs.length c=false):aL Tryz.prog 144 [aD f g t,ah f2 g2 c] fun r=>r = .tup [.nilS,.int .i64 1]:=by
 have c1:=iS t f g h;rw[hv]at c1;have c2:=valid16 t.attrs.length c f2 g2 (tbC hv).wide hl hp;rw[ho]at c2;simp only[aD,LS,LR,ah,L1,LCl]at c1 c2;refine sPx Tryz.func144 rfl rfl ?_;simp -dsimp[Tryz.f144,rO,aD,LS,LR,ah,L1,LCl];refine cPx (c1) (by simp) ?_;simp -dsimp[];refine cPx (c2) (by simp) ?_;simp -dsimp[]
theorem error17e(t:Tb)(d:Od)(f g f2 g2:Bool)(h:TbOk t)(hl:d.l.length≤1000000)(hr:d.r.length≤1000000)(hv:aZ t=0)(ho:odB t.attrs.length d=false):aL Tryz.prog 207 [aD f g t,bM f2 g2 d] fun r=>r = .int .i64 1:=by
 have c1:=iS t f g h;rw[hv]at c1;have c2:=valid17 t.attrs.length d f2 g2 hl hr;rw[ho]at c2;simp only[aD,LS,LR,bM,L1]at c1 c2;refine sPx Tryz.func207 rfl rfl ?_;simp -dsimp[Tryz.f207,rO,aD,LS,LR,bM,L1];refine cPx (c1) (by simp) ?_;simp -dsimp[];refine cPx (c2) (by simp) ?_;simp -dsimp[]
theorem viol17e(t:Tb)(d:Od)(f g f2 g2:Bool)(h:TbOk t)(hl:d.l.length≤1000000)(hr:d.r.length≤1000000)(hv:aZ t=0)(ho:odB t.attrs.length d=false):aL Tryz.prog 145 [aD f g t,bM f2 g2 d] fun r=>r = .tup [.nilS,.int .i64 1]:=by
 have c1:=error17e t d f g f2 g2 h hl hr hv ho;simp only[aD,LS,LR,bM,L1]at c1;refine sPx Tryz.func145 rfl rfl ?_;simp -dsimp[Tryz.f145,rO,aD,LS,LR,bM,L1];refine cPx (c1) (by simp) ?_;simp -dsimp[]
theorem error18e(t:Tb)(d:Dn)(f g f2:Bool)(h:TbOk t)(ha:d.atoms.length≤1000000)(hv:aZ t=0)(ho:dnB t.attrs.length d=false):aL Tryz.prog 209 [aD f g t,aq f2 d] fun r=>r = .int .i64 1:=by
 have c1:=iS t f g h;rw[hv]at c1;have c2:=valid18 t.attrs.length d f2 ha;rw[ho]at c2;simp only[aD,LS,LR,aq,LA]at c1 c2;refine sPx Tryz.func209 rfl rfl ?_;simp -dsimp[Tryz.f209,rO,aD,LS,LR,aq,LA];refine cPx (c1) (by simp) ?_;simp -dsimp[];refine cPx (c2) (by simp) ?_;simp -dsimp[]
theorem viol18e(t:Tb)(d:Dn)(f g f2:Bool)(h:TbOk t)(ha:d.atoms.length≤1000000)(hv:aZ t=0)(ho:dnB t.attrs.length d=false):aL Tryz.prog 146 [aD f g t,aq f2 d] fun r=>r = .tup [.nilS,.int .i64 1]:=by
 have c1:=error18e t d f g f2 h ha hv ho;simp only[aD,LS,LR,aq,LA]at c1;refine sPx Tryz.func146 rfl rfl ?_;simp -dsimp[Tryz.f146,rO,aD,LS,LR,aq,LA];refine cPx (c1) (by simp) ?_;simp -dsimp[]
theorem viol37(t:Tb)(c:Cn)(f g:Bool)(h:TbS t)(hv:aZ t=0)(hc:CnB c):aL Tryz.prog 84 [aD f g t,af c] fun r=>r = .tup [wlV t c,.int .i64 (ac t c)]:=by
 have ct:=tbC hv;have hn:=ct.wide
 have hv0:∀e,ac t c=e→e≠0→wlV t c = .nilS:=fun e h1 h2=>by unfold wlV;rw[if_neg (by rw[h1];exact h2)]
 have hv1:ac t c=0→wlV t c=LL false (cnR t c):=fun h1=>by unfold wlV;rw[if_pos h1]
 cases hnm:(c.table.toList == t.name.toList) with
 | false =>
  have he:ac t c=1:=by unfold ac;rw[hnm];rfl
  rw[he,hv0 1 he (by decide)];refine sPx Tryz.func84 rfl rfl ?_;simp -dsimp[Tryz.f84,rO,aD,LS,LR,af,L1,LCl,LA,hnm]
 | true =>
  by_cases hlo:c.kind<1
  ·have he:ac t c=1:=by unfold ac;rw[hnm,decide_eq_false (show ¬1≤c.kind by omega)];rfl
   rw[he,hv0 1 he (by decide)];refine sPx Tryz.func84 rfl rfl ?_;simp -dsimp[Tryz.f84,rO,aD,LS,LR,af,L1,LCl,LA,hnm,hlo]
  by_cases hhi:6<c.kind
  ·have he:ac t c=1:=by unfold ac;rw[hnm,decide_eq_false (show ¬c.kind≤6 by omega),sv];rfl
   rw[he,hv0 1 he (by decide)];refine sPx Tryz.func84 rfl rfl ?_;simp -dsimp[Tryz.f84,rO,aD,LS,LR,af,L1,LCl,LA,hnm,hlo,hhi]
  have hc0:ac t c=if c.kind=2∨c.kind=3 then 14 else if c.kind=1 then(if eF t.attrs.length c.fd=true then 0 else 1) else
    if c.kind=4 then(if cfB t.attrs.length c.cfd=true then 0 else 1) else if c.kind=5 then(if odB t.attrs.length c.od=true then 0 else 1) else(if dnB t.attrs.length c.dn=true then 0 else 1):=by
   unfold ac;rw[hnm,decide_eq_true (show 1≤c.kind by omega),decide_eq_true (show c.kind≤6 by omega)];rfl
  have hc6:c.kind=1∨c.kind=2∨c.kind=3∨c.kind=4∨c.kind=5∨c.kind=6:=by omega
  rcases hc6 with hk | hk | hk | hk | hk | hk
  ·cases ho:eF t.attrs.length c.fd with
   | false =>
    have he:ac t c=1:=by rw[hc0,hk,ho];rfl
    rw[he,hv0 1 he (by decide)];have cp:=pairs37e t c.fd f g hn hc.fd ho;simp only[aD,LS,LR,gH]at cp;refine sPx Tryz.func84 rfl rfl ?_;simp -dsimp[Tryz.f84,rO,aD,LS,LR,af,L1,LCl,LA,hnm,hk];refine cPx (cp) (by simp) ?_;simp -dsimp[]
   | true =>
    have he:ac t c=0:=by rw[hc0,hk,ho];rfl
    rw[he,hv1 he,show cnR t c=prL (fdP c.fd.l c.fd.r) t.rows from by unfold cnR;rw[if_pos hk]];have cp:=pairs37 t c.fd f g h hv hc.fd ho;simp only[aD,LS,LR,gH]at cp;refine sPx Tryz.func84 rfl rfl ?_;simp -dsimp[Tryz.f84,rO,aD,LS,LR,af,L1,LCl,LA,hnm,hk];refine cPx (cp) (by simp) ?_;simp -dsimp[]
  ·have he:ac t c=14:=by rw[hc0,hk];rfl
   rw[he,hv0 14 he (by decide)];refine sPx Tryz.func84 rfl rfl ?_;simp -dsimp[Tryz.f84,rO,aD,LS,LR,af,L1,LCl,LA,hnm,hk]
  ·have he:ac t c=14:=by rw[hc0,hk];rfl
   rw[he,hv0 14 he (by decide)];refine sPx Tryz.func84 rfl rfl ?_;simp -dsimp[Tryz.f84,rO,aD,LS,LR,af,L1,LCl,LA,hnm,hk]
  ·cases ho:cfB t.attrs.length c.cfd with
   | false =>
    have he:ac t c=1:=by rw[hc0,hk,ho];rfl
    have cv:=viol16e t c.cfd f g false false h.ok hc.l hc.p hv ho;simp only[aD,LS,LR,ah,L1,LCl]at cv;rw[he,hv0 1 he (by decide)];refine sPx Tryz.func84 rfl rfl ?_;simp -dsimp[Tryz.f84,rO,aD,LS,LR,af,L1,LCl,LA,hnm,hk];refine cPx (cv) (by simp) ?_;simp -dsimp[]
   | true =>
    have he:ac t c=0:=by rw[hc0,hk,ho];rfl
    have cv:=viol16 t c.cfd f g false false h hc.l hc.p hv ho;simp only[aD,LS,LR,ah,L1,LCl]at cv;rw[he,hv1 he,show cnR t c=ng c.cfd t.rows from by unfold cnR;rw[if_neg (by omega),if_pos hk]];refine sPx Tryz.func84 rfl rfl ?_;simp -dsimp[Tryz.f84,rO,aD,LS,LR,af,L1,LCl,LA,hnm,hk];refine cPx (cv) (by simp) ?_;simp -dsimp[]
  ·cases ho:odB t.attrs.length c.od with
   | false =>
    have he:ac t c=1:=by rw[hc0,hk,ho];rfl
    have cv:=viol17e t c.od f g false false h.ok hc.ol hc.or hv ho;simp only[aD,LS,LR,bM,L1]at cv;rw[he,hv0 1 he (by decide)];refine sPx Tryz.func84 rfl rfl ?_;simp -dsimp[Tryz.f84,rO,aD,LS,LR,af,L1,LCl,LA,hnm,hk];refine cPx (cv) (by simp) ?_;simp -dsimp[]
   | true =>
    have he:ac t c=0:=by rw[hc0,hk,ho];rfl
    have cv:=viol17 t c.od f g false false h hc.ol hc.or hv ho;simp only[aD,LS,LR,bM,L1]at cv;rw[he,hv1 he,show cnR t c=prL (odP c.od) t.rows from by unfold cnR;rw[if_neg (by omega),if_neg (by omega),if_pos hk]];refine sPx Tryz.func84 rfl rfl ?_;simp -dsimp[Tryz.f84,rO,aD,LS,LR,af,L1,LCl,LA,hnm,hk];refine cPx (cv) (by simp) ?_;simp -dsimp[]
  ·cases ho:dnB t.attrs.length c.dn with
   | false =>
    have he:ac t c=1:=by rw[hc0,hk,ho];rfl
    have cv:=viol18e t c.dn f g false h.ok hc.at_ hv ho;simp only[aD,LS,LR,aq,LA]at cv;rw[he,hv0 1 he (by decide)];refine sPx Tryz.func84 rfl rfl ?_;simp -dsimp[Tryz.f84,rO,aD,LS,LR,af,L1,LCl,LA,hnm,hk];refine cPx (cv) (by simp) ?_;simp -dsimp[]
   | true =>
    have he:ac t c=0:=by rw[hc0,hk,ho];rfl
    have cv:=viol18 t c.dn f g false h hc.sz hc.at_ hv ho;simp only[aD,LS,LR,aq,LA]at cv;rw[he,hv1 he,show cnR t c=(asR t.rows c.dn.vars.toNat).foldl (stR c.dn) [] from by unfold cnR;rw[if_neg (by omega),if_neg (by omega),if_neg (by omega)]];refine sPx Tryz.func84 rfl rfl ?_;simp -dsimp[Tryz.f84,rO,aD,LS,LR,af,L1,LCl,LA,hnm,hk];refine cPx (cv) (by simp) ?_;simp -dsimp[]
theorem ids37(t:Tb)(f g:Bool)(hr:t.rows.length≤1000000):aL Tryz.prog 85 [aD f g t] fun r=>r=L1 false (aa t.rows):=by
 obtain⟨I,hI⟩:∃I,I=aa t.rows:=⟨_,rfl⟩
 have hIl:I.length=t.rows.length:=by rw[hI,bC]
 obtain⟨R,hR⟩:∃R,R=t.rows:=⟨_,rfl⟩;rw[←hR]at hIl hr
 have hII:∀i (h:i<R.length),I.take (i+1)=I.take i++[R[i].id]:=fun i h=>by
  rw[rV (by omega)];congr 2;simp[hI,aa,hR]
 rw[←hI]
 have hrb:∀l:List Int,∀bl∈[B.cells [.str t.name,.lst 1 f (t.attrs.map V.str),.lst 2 g (R.map aI)],B.buf 2 1 (l.map aE) false],rbB 2 bl:=fun l bl hbl=>by
  simp only[rU,rS,or_false]at hbl
  rcases hbl with rfl | rfl
  ·intro c hc;simp at hc;rcases hc with rfl | rfl | rfl<;>simp[rb,rb1]
  ·exact(rbB_buf1 (fun x hx=>by obtain⟨y,_,rfl⟩:=List.mem_map.1 hx;exact⟨by simp,rfl⟩)).2 trivial
 refine sPx Tryz.func85 rfl rfl ?_;simp -dsimp[Tryz.f85,rO,aD,LS,LR,hR.symm];refine aG (bf 2 1 [3] (by simp) (W_loopM 21 0x1ffff8 (by simp[mB]<;>rfl) (σ:=Nat) (fun i=>i≤R.length) (fun i=>R.length-i) (fun i=>[(4,.int .i64 i),(3,.buf 1 0 i i)]) (fun i=>[B.cells [.str t.name,.lst 1 f (t.attrs.map V.str),.lst 2 g (R.map aI)],B.buf 2 1 ((I.take i).map aE) false]) 0 (by omega) (by simp) (by simp) (by simp) ?_));intro j hj N3 Q3 hN3 hQ3
 have htl:(I.take j).length=j:=by simp;omega
 by_cases hjb:j<R.length
 ·have hst:=hII j hjb;obtain⟨r,hre⟩:∃r,r=R[j]:=⟨_,rfl⟩;rw[←hre]at hst;obtain⟨l,hle⟩:∃l,l=I.take j:=⟨_,rfl⟩;rw[←hle]at hst htl ⊢;refine wx ?_;simp -dsimp[hjb,hre.symm,aI,LV,htl,go j (by omega),ai j (by omega),aH j (by omega)];refine hN3 (j+1) _ _ (by omega) (by omega) (by simp) ⟨[],by simp[hst,aE]⟩ (by simp) (hrb _)
 ·obtain rfl:j=R.length:=by omega
  rw[rt (by omega)];refine cy 1 [3] rfl (by simp[hIl]) ?_;refine wx ?_;simp -dsimp[hjb];refine hQ3 _ _ _ ?_;simp -dsimp[L1]
  skip
theorem allR_len{t:Tb}(h8:t.rows.length≤8){cs:List Cn}(h:∀c∈cs,ac t c=0)(hl:cs.length≤5):(bQ t cs).length≤20000:=by
 have:=gA cs (f:=cnR t) (k:=4000) fun c hc=>cnR_len h8 (h c hc)
 unfold bQ;have h2:cs.length*4000≤5*4000:=ro _ hl;omega
theorem allR_snoc(t:Tb){cs:List Cn}{i:Nat}(h:i<cs.length):bQ t (cs.take (i+1))=bQ t (cs.take i)++cnR t cs[i]:=by
 unfold bQ;rw[rV h,List.flatMap_append,tp,uu,rj]
theorem build37(t:Tb)(cs:List Cn)(f g fc:Bool)(h:BdOk t cs):aL Tryz.prog 42 [aD f g t,LCn fc cs] fun r=>r = .tup [bdV t cs,.int .i64 (aV t cs)]:=by
 have c1:=iS t f g h.ok;have htB:B.cells [.str t.name,.lst 1 f (t.attrs.map V.str),.lst 2 g (t.rows.map aI)]=tcB t f g:=rfl
 have htr:∀n,rbB n (tcB t f g):=fun n=>bS n t f g
 by_cases hv:aZ t=0
 case neg =>
  have he:aV t cs=aZ t:=by unfold aV;rw[if_neg hv]
  have hbd:bdV t cs = .agg [.nilS,.nilS]:=by unfold bdV;rw[he,if_neg hv]
  rw[he,hbd];obtain⟨e,hee⟩:∃e,e=aZ t:=⟨_,rfl⟩;rw[←hee]at c1 hv ⊢;simp only[aD,LS,LR]at c1;refine sPx Tryz.func42 rfl rfl ?_;simp -dsimp[Tryz.f42,rO,aD,LS,LR,LCn];refine cPx (c1) (by simp) ?_;simp -dsimp[hv]
 case pos =>
 rw[hv]at c1;have ct:=tbC hv;by_cases h2:200<t.rows.length
 ·have he:aV t cs=3:=by unfold aV;rw[if_pos hv,if_pos h2]
  have hbd:bdV t cs = .agg [.nilS,.nilS]:=by unfold bdV;rw[he,if_neg (by decide)]
  rw[he,hbd];simp only[aD,LS,LR]at c1;refine sPx Tryz.func42 rfl rfl ?_;simp -dsimp[Tryz.f42,rO,aD,LS,LR,LCn];refine cPx (c1) (by simp) ?_;simp -dsimp[show(200:Int)<t.rows.length by omega]
 have h8:t.rows.length≤8:=by have:=h.rows;omega
 have hts:=h.small h8;have hcs:=h.cns;have hl5:=h.few
 have he:aV t cs=dF t cs:=by unfold aV;rw[if_pos hv,if_neg h2]
 have hbd:bdV t cs=if dF t cs=0 then iK false false (aa t.rows) (ak (bQ t cs)) else .agg [.nilS,.nilS]:=by
  unfold bdV;rw[he]
 rw[he,hbd];simp only[aD,LS,LR]at c1
 have hrb1:∀o:List (List Int),∀bl∈[tcB t f g,B.cells [.nilS,.nilS],B.buf 34 1 (o.map (L1 false)) false],rbB 3 bl:=fun o bl hbl=>by
  simp only[rU,rS,or_false]at hbl
  rcases hbl with rfl | rfl | rfl
  ·exact htr _
  ·intro c hc;simp at hc;subst hc;simp[rb,rb1]
  ·exact oH _ _ _
 refine sPx Tryz.func42 rfl rfl ?_;simp -dsimp[Tryz.f42,rO,aD,LS,LR,LCn];refine cPx (c1) (by simp) ?_;simp -dsimp[show ¬(200:Int)<t.rows.length by omega];refine aG (bf 34 1 [7] (by simp) (W_loopM 45 0x1fffff8007a0 (by simp[mB]<;>rfl) (σ:=Nat×List (List Int)) (fun p=>p.1≤cs.length∧(∀c∈cs.take p.1,ac t c=0)∧dF t (cs.drop p.1)=dF t cs∧p.2=bQ t (cs.take p.1)) (fun p=>cs.length-p.1) (fun p=>[(8,.int .i64 p.1),(7,.buf 2 0 p.2.length p.2.length)]) (fun p=>[tcB t f g,B.cells [.nilS,.nilS],B.buf 34 1 (p.2.map (L1 false)) false]) (0,[]) ⟨by simp,by simp,by rw[rk],rfl⟩ (by simp) (by simp[tcB]) (by simp) ?_));rintro⟨i,out⟩ ⟨hi,hok,hx,hxo⟩ N Q hN hQ;simp only at hi hok hx hxo;by_cases hb:i<cs.length
 ·rw[oE hb]at hx;have hcb:=hcs _ (rQ hb);have hsn:=allR_snoc t hb
  have hokS:ac t cs[i]=0→∀c∈cs.take (i+1),ac t c=0:=fun h0 c hc=>by
   rw[rV hb]at hc
   rcases List.mem_append.1 hc with h1 | h1
   ·exact hok c h1
   ·rw[sC]at h1;rw[h1];exact h0
  obtain⟨c,hce⟩:∃c,c=cs[i]:=⟨_,rfl⟩;rw[←hce]at hx hcb hsn hokS;have c2:=viol37 t c f g hts hv hcb;have hp:=wlV_pure t c;by_cases h0:ac t c=0
  ·rw[if_pos h0]at hx;rw[h0,show wlV t c=LL false (cnR t c) from by unfold wlV;rw[if_pos h0]]at c2;have hlen:=allR_len h8 (hokS h0) (by simp;omega);rw[hsn,←hxo]at hlen;obtain⟨w,hw⟩:∃w,w=cnR t c:=⟨_,rfl⟩;rw[←hw]at c2 hsn hlen;rw[←hxo]at hsn;rw[ri]at hlen;simp only[aD,LS,LR,af,L1,LCl,LA,LL]at c2;by_cases hw0:w=[]
   ·subst hw0;rw[rj]at hsn;refine wx ?_;simp -dsimp[hb,hce.symm,af,L1,LCl,LA,tcB];refine .inr ⟨aC (by kernel_rfl),?_⟩;refine aN _ (aK (c2) (by simp)) ?_;simp -dsimp[aH i (by omega)];refine hN (i+1,out) _ _ ⟨by simp only;omega,hokS h0,hx,hsn.symm⟩ (by simp only;omega) (by simp) ⟨[],by simp[tcB]⟩ (by simp) (hrb1 _)
   ·refine wx ?_;simp -dsimp[hb,hce.symm,af,L1,LCl,LA,tcB];refine .inr ⟨aC (by kernel_rfl),?_⟩;refine aN _ (aK (c2) (by simp)) ?_;simp -dsimp[hw0,capV out.length w.length (by omega),aH i (by omega)];refine hN (i+1,out++w) _ _ ⟨by simp only;omega,hokS h0,hx,hsn.symm⟩ (by simp only;omega) (by simp) ⟨[],by simp[tcB]⟩ (by simp) (hrb1 _)
  ·rw[if_neg h0]at hx;rw[show wlV t c = .nilS from by unfold wlV;rw[if_neg h0]]at c2;obtain⟨e,hee⟩:∃e,e=ac t c:=⟨_,rfl⟩;rw[←hee]at c2 h0 hx;simp only[aD,LS,LR,af,L1,LCl,LA]at c2;refine wx ?_;simp -dsimp[hb,hce.symm,af,L1,LCl,LA,tcB];refine .inr ⟨aC (by kernel_rfl),?_⟩;refine aN _ (aK (c2) (by simp)) ?_;simp -dsimp[h0];refine hQ _ _ _ ?_;simp -dsimp[];rw[←hx];exact⟨fun h=>absurd h h0,rfl⟩
 ·have h0:dF t cs=0:=by rw[←hx,rR (by omega)];rfl
  rw[rt (by omega)]at hok hxo;have hAl:=allR_len h8 hok hl5
  have hAE:∀e∈bQ t cs,EdgL t.rows e:=fun e hd=>eQ ct hok hd
  rw[←hxo]at hAl hAE;have cE:=edges37 out false (by omega) (fun e hd=>by have:=(hAE e hd).2.2.1;omega) (fun e hd=>(hAE e hd).2.1);have cI:=ids37 t f g (by omega);have hEl:(ak out).length≤out.length:=jp out out.length;obtain⟨PE,hPE⟩:∃PE,PE=ak out:=⟨_,rfl⟩;rw[←hPE]at cE hEl;obtain⟨I,hI⟩:∃I,I=aa t.rows:=⟨_,rfl⟩;rw[←hI]at cI;simp only[aD,LS,LR,LL,L1]at cE cI;refine cy 2 [7] rfl (by simp) ?_;refine wx ?_;simp -dsimp[hb];refine hQ _ _ _ ?_;simp -dsimp[tcB];refine cPx (cI) (by simp) ?_;simp -dsimp[LL,L1];refine cPx (cE) (by simp) ?_;simp -dsimp[show ¬(20000:Int)<PE.length by omega];rw[if_pos h0,←hxo,←hPE,←hI];simp[iK,L1,LL];exact h0.symm
end
end Go.Proofs.YtjogkbekekdkjaaGreatDoor
