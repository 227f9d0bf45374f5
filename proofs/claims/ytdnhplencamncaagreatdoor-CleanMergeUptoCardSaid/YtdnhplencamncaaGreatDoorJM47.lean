/- JM47: own texts of this seat, joined and shortened by pack4.py: Svj, Ma, Mb. -/
import Derived.Test.YtdnhplencamncaaGreatDoorJM33
import Derived.Test.YtdnhplencamncaaGreatDoorJM46
set_option linter.unusedVariables false
set_option linter.unusedSimpArgs false
set_option maxRecDepth 100000
set_option maxHeartbeats 64000000
open Bool renaming and_eq_true→oP
open ByteArray renaming empty→oF
open List renaming replicate→oE,getElem_mem→oI,length_append→oT,length_map→oW,length_cons→og,mem_cons_self→ou,mem_cons_of_mem→ow,set_cons_zero→oz,set_cons_succ→pG,nil_append→pH,all_eq_true→pR,cons_append→pg,length_range→rC,pairwise_map→rU,flatten_cons→rY
namespace Go.Proofs.YtdnhplencamncaaGreatDoor
section
open Go Go.AM
theorem val_szM{v:Vl}(h:aW v=true):v.s.size≤maxLen:=by
 have e:v.s.toList.isEmpty=true→v.s.size≤maxLen:=fun he=>by
  rw[List.isEmpty_iff,ba_toList]at he;have:=gy v.s;rw[he]at this;simp at this;rw[←this];decide
 have e2:v.s.size≤200→v.s.size≤maxLen:=fun he=>by
  have:(200:Nat)≤maxLen:=by decide
  omega
 unfold aW at h;split at h
 ·rw[oP]at h;exact e h.2
 ·split at h
  ·exact e h
  ·split at h
   ·rw[oP,decide_eq_true_iff,decide_eq_true_iff]at h;exact e2 h.2
   ·rw[oP,oP]at h;exact e h.2.2
theorem flat_len:∀{cs:List (List Int)},(∀c∈cs,0<c.length)→cs.length≤cs.flatten.length
 | [],_=>by simp
 | c::cs,h=>by
  have h1:=h c (ou ..);have h2:=flat_len (cs:=cs) (fun d hd=>h d (ow _ hd));rw[rY,oT,og];omega
theorem hd_mem:∀{l:List Int},0<l.length→l.getD 0 0∈l:=fun {l} hl=>by
 rw[show l.getD 0 0=l[0] by simp[hl]];exact oI hl
theorem kp_head{t:Tb}{c:List Int}(hs:t.rows.Pairwise fun r s=>r.id<s.id)(hp:0<c.length)(ha:c.Pairwise (· < ·))(hid:∃r∈t.rows,r.id=c.getD 0 0):((kpR c t.rows).getD 0 ⟨0,[]⟩).id=c.getD 0 0:=by
 obtain⟨r,hr1,hr2⟩:=hid;have hm:r∈kpR c t.rows:=fu.2 ⟨hr1,di.2 (by rw[hr2];exact hd_mem hp)⟩
 have hk:(kpR c t.rows).Pairwise fun r s=>r.id<s.id:=hs.filter _
 have hall:∀q∈kpR c t.rows,q.id∈c:=fun q hq=>di.1 (fu.1 hq).2
 obtain⟨K,hK⟩:∃K,K=kpR c t.rows:=⟨_,rfl⟩;rw[←hK]at hm hk hall ⊢
 cases K with
 | nil=>simp at hm
 | cons q K =>
  have h1:=hall q (ou ..);simp only[List.getD_cons_zero]
  have h2:c.getD 0 0≤q.id:=by
   cases c with
   | nil=>simp at hp
   | cons a c =>
    simp only[List.getD_cons_zero]
    rcases List.mem_cons.1 h1 with e | e
    ·omega
    ·have:=(List.pairwise_cons.1 ha).1 _ e;omega
  have h3:q.id≤r.id:=by
   rcases List.mem_cons.1 hm with e | e
   ·rw[e];omega
   ·have:=(List.pairwise_cons.1 hk).1 _ e;omega
  omega
theorem ne_heads{cs:List (List Int)}(hn:cs.flatten.Nodup)(hp:∀c∈cs,0<c.length):cs.Pairwise fun x y=>x.getD 0 0≠y.getD 0 0:=by
 have h:=(List.pairwise_flatten.1 hn).2
 exact h.imp_of_mem fun {a b} ha hb h=>h _ (hd_mem (hp a ha)) _ (hd_mem (hp b hb))
theorem sort_heads{cs:List (List Int)}(hn:cs.flatten.Nodup)(hp:∀c∈cs,0<c.length):(aw cs).Pairwise fun x y=>x.getD 0 0<y.getD 0 0:=by
 have h1:=(bg cs).symm.pairwise (R:=fun x y=>x.getD 0 0≠y.getD 0 0) (ne_heads hn hp) (fun h e=>h e.symm);have h2:=h1.and (sortLi_sorted cs)
 refine h2.imp_of_mem fun {x y} hx hy h=>?_
 have hx:=hp _ ((bg cs).mem_iff.1 hx);have hy:=hp _ ((bg cs).mem_iff.1 hy)
 have h3:¬y.getD 0 0<x.getD 0 0:=fun e=>h.2 (hd_lt hy hx e)
 have:=h.1;omega
theorem chV_ok{rs:List Rw}{us:List Int}(ok:MgOk rs us){a:Nat}{rule:Int}(ha:a<us.length):aW (chV rs a rule)=true:=by
 by_cases h:gJ rs a=[]
 ·unfold chV;rw[h];show aW vlZ=true;simp[aW,vlZ]
 ·obtain⟨r,hr,e⟩:=chV_mem (rule:=rule) h;rw[e];have:=ok.n r hr;refine ok.vs r hr _ ?_;unfold ku;rw[show r.vals.getD a vlZ=r.vals[a]'(by omega) by simp[show a<r.vals.length by omega]];exact oI _
theorem mg_ok{t:Tb}{cs:List (List Int)}{us:List Int}(hv:aG t=0)(hu:us.length=t.attrs.length)(hr:∀u∈us,iU u=true)(hn:t.rows.length≤1000)(ok:DvOk t cs):aG (wrT t (mgT t cs us).rows)=0∧(mgT t cs us).rows.length≤t.rows.length:=by
 have tc:=tbC hv
 have hlen:(mgT t cs us).rows.length≤t.rows.length:=by
  show((aw cs).map _).length≤_;rw[oW,dP,←ok.len];exact flat_len ok.pos
 have hid:∀c∈cs,∃r∈t.rows,r.id=c.getD 0 0:=fun c hc=>ok.ids _ (List.mem_flatten.2 ⟨c,hc,hd_mem (ok.pos c hc)⟩)
 have hh:∀c∈cs,(mgRw (kpR c t.rows) us).id=c.getD 0 0:=fun c hc=>kp_head tc.ids (ok.pos c hc) (ok.asc c hc) (hid c hc)
 have hmem:∀{c},c∈aw cs→c∈cs:=fun h=>(bg cs).mem_iff.1 h
 refine⟨jP hv (by omega) ?_ ?_,hlen⟩
 ·show List.Pairwise _ ((aw cs).map _);rw[rU]
  refine(sort_heads ok.nd ok.pos).imp_of_mem fun {a b} ha hb h=>?_
  rw[hh _ (hmem ha),hh _ (hmem hb)];exact h
 ·intro r hr1;obtain⟨c,hc,rfl⟩:=List.mem_map.1 hr1;have hc:=hmem hc;have mk:=kp_ok hv hu hr hn (ok.pos c hc) (hid c hc);obtain⟨q,hq1,hq2⟩:=hid c hc;refine⟨by rw[hh _ hc,←hq2];exact tc.pos q hq1,by show(kX _ _ _).length=_;unfold kX;rw[oW,rC,hu],?_⟩;rw[pR];intro v hvm;obtain⟨a,ha,rfl⟩:=List.mem_map.1 hvm;exact chV_ok mk (by simpa using ha)
def br(t:Tb)(L:Lnk):Tb:=wrT t (mgT t (clF t L) L.surv).rows
theorem rnc_mg{t:Tb}{L:Lnk}(q1:TbS t)(q2:aG t=0)(hn:t.rows.length≤6)(hz:fD t L=0)(hd:iW t (clF t L)=true):RnC t (br t L):=by
 have ok:=lim_ok hz;have tc:=tbC q2;obtain⟨h1,h2⟩:=mg_ok q2 ok.sl ok.sv (by omega) (dvd_ok tc.ids hd);have tl:=tbL_of q1 q2
 have hz1:∀r∈(br t L).rows,∀v∈r.vals,v.s.size≤maxLen:=fun r hr v hv=>val_szM (List.all_eq_true.1 ((tbC h1).val r hr) v hv)
 exact⟨tl,⟨⟨tl.ok.name,tl.ok.attrs,by show(mgT t (clF t L) L.surv).rows.length≤_;omega,tl.ok.strs⟩,tl.a,by show(mgT t (clF t L) L.surv).rows.length≤_;omega,fun r hr=>by have:=(tbC h1).len r hr;have:=(tbC h1).wide;omega⟩,q2,h1,q1.sz,hz1,rfl,rfl,q1.few,by show(mgT t (clF t L) L.surv).rows.length≤_;omega⟩
@[simp] theorem encMg_pure (t:Tb) (m:Mgd):AM.Pure (ei t m):=by simp[ei,LLz]
def stA(t u:Tb):B:=stB (LTb false [u]) (.buf 1 0 ((txA t (plC t u)).map aY).length ((txA t (plC t u)).map aY).length) .nilS false .nilS
def dnA(t u:Tb):B:=dnS ((txA t (plC t u)).map aY)
theorem stP_a{t u:Tb} : StP (LTb false [u]) .nilS .nilS ((txA t (plC t u)).map aY):=by
 have p:=kz t
 have hpE:∀x∈(plC t u).map (aK false false),AM.Pure x:=fun x hx=>by obtain⟨c,_,rfl⟩:=List.mem_map.1 hx;simp
 rw[←txA_add];exact⟨by simp,by simp,by simp,addX_pure p.pdl hpE,rfl,rfl,rfl,addX_one p.odl⟩
theorem fin_yes{t u:Tb}(h:RnC t u):aU Tryz.prog 19 [.ptr 0 0,aD false false t,aD false false u,.int .i64 0] [stC t 1 true,dnC t] fun r H'=>r = .int .i64 0∧H'=[stA t u,dnA t u]:=by
 have p1:=kz t;have p2:=stP_a (t:=t) (u:=u);refine cut1p ?_ (by simp) (by simp) p2.rb;have hls:=h.ls;have c2:=plan_uC h.pl h.e
 have c3:=fun G0 G1=>gm (H:=[stC t 1 true,dnC t,G0,G1]) (k:=0) (L:=1) (end_o t u (plC t u) false h.vt h.lt.ok (by have:=hls.len;omega) h.run ((txC t).map aY) (by simp[txC]) p1.pdl p1.odl) p1 (by rw[h.eff,txA_add];exact p2) (by simp) (by simp) (by decide) rfl rfl
 rw[h.eff,txA_add]at c3;obtain⟨S1,hS1⟩:∃S,S=stC t 1 true:=⟨_,rfl⟩;obtain⟨D,hD⟩:∃D,D=dnC t:=⟨_,rfl⟩;obtain⟨S2,hS2⟩:∃S,S=stA t u:=⟨_,rfl⟩;obtain⟨D2,hD2⟩:∃D,D=dnA t u:=⟨_,rfl⟩;have e2:stB (LTb false [u]) (.buf 1 0 ((txA t (plC t u)).map aY).length ((txA t (plC t u)).map aY).length) .nilS false .nilS=S2:=hS2.symm;have e3:dnS ((txA t (plC t u)).map aY)=D2:=hD2.symm;simp only[←hS1,←hS2,←hD,←hD2,e2,e3,oz,pG]at c3 ⊢;simp only[aD,LS,LR,encL]at c2 ⊢;refine aE tok Tryz.func19 rfl rfl ?_;refine wx ?_;simp -dsimp[Tryz.f19,oE,aD,LS,LR];refine cPx (c2) (by simp) ?_;simp -dsimp[];refine wcE (c3 _ _) ?_;simp -dsimp[]
theorem fin_no(t:Tb)(e:Int)(he:¬e=0):aU Tryz.prog 19 [.ptr 0 0,aD false false t,.agg [.str oF,.nilS,.nilS],.int .i64 e] [stC t 1 true,dnC t] fun r H'=>r = .int .i64 e∧H'=[stC t 1 false,dnC t]:=by
 have p1:=kz t;refine cut1p ?_ (by simp) (by simp) p1.rb
 have c3:=fun G0 G1=>gm (H:=[stC t 1 true,dnC t,G0,G1]) (k:=0) (L:=1) (rollback0 (LTb false [t]) .nilS 1 ((txC t).map aY) p1) p1 p1 (by simp) (by simp) (by decide) rfl rfl
 obtain⟨S1,hS1⟩:∃S,S=stC t 1 true:=⟨_,rfl⟩;obtain⟨D,hD⟩:∃D,D=dnC t:=⟨_,rfl⟩;obtain⟨S2,hS2⟩:∃S,S=stC t 1 false:=⟨_,rfl⟩;have e2:stB (LTb false [t]) (.buf 1 0 1 1) .nilS false .nilS=S2:=hS2.symm;have e3:dnS ((txC t).map aY)=D:=hD.symm;simp only[←hS1,←hS2,←hD,e2,e3,oz,pG]at c3 ⊢;simp only[aD,LS,LR];refine aE tok Tryz.func19 rfl rfl ?_;refine wx ?_;simp -dsimp[Tryz.f19,oE,he,aD,LS,LR];refine wcE (c3 _ _) ?_;simp -dsimp[he]
theorem merge_yes(t:Tb)(L:Lnk)(h:RnC t (br t L))(hz:fD t L=0)(hd:iW t (clF t L)=true)(hlk:aJ Tryz.prog 8 [aD false false t,aV L] fun r=>r = .tup [lkM t L,.int .i64 (lkE t L)]):
  aU Tryz.prog 7 [.ptr 0 0,.str t.name,aV L] [stC t 1 false,dnC t] fun r H'=>r = .tup [ei t (mgT t (clF t L) L.surv),.int .i64 0]∧H'=[stA t (br t L),dnA t (br t L)]:=by
 have p1:=kz t;have p2:=stP_a (t:=t) (u:=br t L);refine cut1p ?_ (by simp) (by simp) p2.rb
 have c1:=fun G0 G1=>gm (H:=[stC t 1 false,dnC t,G0,G1]) (k:=0) (L:=1) (cbeg_ok t .nilS 1 ((txC t).map aY) h.lt p1) p1 p1 (by simp) (by simp) (by decide) rfl rfl
 have c3:=fun G0 G1 G2 G3=>gm (H:=[stC t 1 true,dnC t,G0,G1,G2,G3]) (k:=0) (L:=1) (fin_yes h) p1 p2 (by simp) (by simp) (by decide) rfl rfl
 unfold lkM lkE at hlk;rw[if_pos ⟨hz,hd⟩,if_pos hz,if_pos hd]at hlk;obtain⟨S,hS⟩:∃S,S=stC t 1 false:=⟨_,rfl⟩;obtain⟨S1,hS1⟩:∃S,S=stC t 1 true:=⟨_,rfl⟩;obtain⟨D,hD⟩:∃D,D=dnC t:=⟨_,rfl⟩;obtain⟨S2,hS2⟩:∃S,S=stA t (br t L):=⟨_,rfl⟩;obtain⟨D2,hD2⟩:∃D,D=dnA t (br t L):=⟨_,rfl⟩;have e0:stB (LTb false [t]) (.buf 1 0 1 1) .nilS true .nilS=S1:=hS1.symm;have e1:dnS ((txC t).map aY)=D:=hD.symm;have e2:stB (LTb false [br t L]) (.buf 1 0 ((txA t (plC t (br t L))).map aY).length ((txA t (plC t (br t L))).map aY).length) .nilS false .nilS=S2:=hS2.symm;have e3:dnS ((txA t (plC t (br t L))).map aY)=D2:=hD2.symm;simp only[←hS,←hS1,←hS2,←hD,←hD2,e0,e1,e2,e3,oz,pG]at c1 c3 ⊢;clear e0 e1 e2 e3 hS hS1 hS2 hD hD2 p1 p2;obtain⟨m,hm⟩:∃m,m=mgT t (clF t L) L.surv:=⟨_,rfl⟩
 have em:br t L=⟨t.name,t.attrs,m.rows⟩:=by rw[hm];rfl
 rw[em]at c3;rw[←hm]at hlk ⊢;simp only[aD,aV,LS,LR,LQm,L1,LLz,ei]at c1 c3 hlk ⊢;refine aE tok Tryz.func7 rfl rfl ?_;refine wx ?_;simp -dsimp[Tryz.f7,oE,aD,aV,LS,LR,LQm,L1];refine wcE (c1 _ _) ?_;simp -dsimp[];refine cPx (hlk) (by simp) ?_;simp -dsimp[];refine wcE (c3 _ _ _ _) ?_;simp -dsimp[]
theorem merge_no(t:Tb)(L:Lnk)(ht:TbL t)(hn:¬(fD t L=0∧iW t (clF t L)=true))(hlk:aJ Tryz.prog 8 [aD false false t,aV L] fun r=>r = .tup [lkM t L,.int .i64 (lkE t L)]):
  aU Tryz.prog 7 [.ptr 0 0,.str t.name,aV L] [stC t 1 false,dnC t] fun r H'=>r = .tup [zMg,.int .i64 (lkE t L)]∧H'=[stC t 1 false,dnC t]:=by
 have p1:=kz t;refine cut1p ?_ (by simp) (by simp[zMg]) p1.rb
 have he:¬lkE t L=0:=by
  unfold lkE;split
  ·rename_i hz;rw[if_neg (fun h=>hn ⟨hz,h⟩)]
   decide
  ·assumption
 obtain⟨e,hE⟩:∃e,e=lkE t L:=⟨_,rfl⟩;rw[←hE]at he hlk ⊢;unfold lkM at hlk;rw[if_neg hn]at hlk
 have c1:=fun G0 G1=>gm (H:=[stC t 1 false,dnC t,G0,G1]) (k:=0) (L:=1) (cbeg_ok t .nilS 1 ((txC t).map aY) ht p1) p1 p1 (by simp) (by simp) (by decide) rfl rfl
 have c3:=fun G0 G1 G2 G3=>gm (H:=[stC t 1 true,dnC t,G0,G1,G2,G3]) (k:=0) (L:=1) (fin_no t e he) p1 p1 (by simp) (by simp) (by decide) rfl rfl
 obtain⟨S,hS⟩:∃S,S=stC t 1 false:=⟨_,rfl⟩;obtain⟨S1,hS1⟩:∃S,S=stC t 1 true:=⟨_,rfl⟩;obtain⟨D,hD⟩:∃D,D=dnC t:=⟨_,rfl⟩;have e0:stB (LTb false [t]) (.buf 1 0 1 1) .nilS true .nilS=S1:=hS1.symm;have e1:dnS ((txC t).map aY)=D:=hD.symm;have e2:stB (LTb false [t]) (.buf 1 0 1 1) .nilS false .nilS=S:=hS.symm;simp only[←hS,←hS1,←hD,e0,e1,e2,oz,pG]at c1 c3 ⊢;clear e0 e1 e2 hS hS1 hD p1;simp only[aD,aV,LS,LR,LQm,L1,LLz,zMg]at c1 c3 hlk ⊢;refine aE tok Tryz.func7 rfl rfl ?_;refine wx ?_;simp -dsimp[Tryz.f7,oE,aD,aV,LS,LR,LQm,L1];refine wcE (c1 _ _) ?_;simp -dsimp[];refine cPx (hlk) (by simp) ?_;simp -dsimp[he];refine wcE (c3 _ _ _ _) ?_;simp -dsimp[he]
theorem merge_f(t:Tb)(L:Lnk)(h:RnC t (br t L))(hz:fD t L=0)(hd:iW t (clF t L)=true)(hlk:aJ Tryz.prog 8 [aD false false t,aV L] fun r=>r = .tup [lkM t L,.int .i64 (lkE t L)]):
  aU Tryz.prog 7 [.ptr 0 0,.str t.name,aV L] [stC t 1 false,dnC t] fun r H'=>r = .tup [ei t (mgT t (clF t L) L.surv),.int .i64 0]∧H'=[stF (br t L) false (txA t (plC t (br t L))) .nilS,dnF ((txA t (plC t (br t L))).map aY)]:=by
 have a1:=merge_yes t L h hz hd hlk;have:=conH_frzC 1 0 [1] (e:=55) (z:=1) (xs:=(txA t (plC t (br t L))).map aY) (fz:=false) a1 rfl rfl (by simp[dM,bi]);exact this
theorem beg_3(t:Tb)(f g:Bool)(h:TbL t)(hv:aG t=0)(G0 G1 G2:B):aU Tryz.prog 6 [aD f g t] [G0,G1,G2] fun r H'=>r = .tup [.ptr 4 0,.bool true]∧H'=[G0,G1,G2,.cells [.str t.name,.lst 1 f (t.attrs.map V.str),.lst 2 g (t.rows.map aC)],stC t 5 false,dnC t]:=by
 have c1:=fun H=>new_s H
 have c2:=lift12 (H:=[G0,G1,G2,.cells [.str t.name,.lst 1 f (t.attrs.map V.str),.lst 2 g (t.rows.map aC)],stB .nilS .nilS .nilS false .nilS]) (k:=4) (B0:=stB .nilS .nilS .nilS false .nilS) (args:=[.ptr 4 0,aD f g t]) (D0:=stC t 5 false) (D1:=dnC t) (create_s t f g h hv) rfl (ld (by simp) (by simp) (by simp) (by simp) rfl rfl rfl rfl) (ren_st (g:=g12 4 5) (n:=2) (m:=1) (o:=false) (by omega) (by simp) (by simp) (by simp) rfl rfl rfl) (kT (by simp)) rfl (fun i a b ha hb=>by
  match i with
  | 0=>simp at ha hb;subst ha;subst hb;exact .ptr 0 0 (by omega)
  | 1=>simp at ha hb;subst ha;subst hb;exact .pure _ (by simp)
  | i+2=>simp at ha) (by simp)
 simp only[aD,LS,LR,oz,pG,pg,pH]at c2;refine aE tok Tryz.func6 rfl rfl ?_;refine wx ?_;simp -dsimp[Tryz.f6,oE,aD,LS,LR];refine wcm (c1 _) ?_;rintro r H' ⟨rfl,rfl⟩;simp -dsimp[];refine wcm c2 ?_;rintro r H' ⟨rfl,rfl⟩;simp -dsimp[]
theorem mg_same{t:Tb}{L:Lnk}(h:RnC t (br t L))(hn:t.rows.length≤6)(hz:fD t L=0):aJ Tryz.prog 9 [ei t (mgT t (clF t L) L.surv),ei t (mgT t (clF t L) L.surv)] fun r=>r = .bool true:=by
 have ok:=lim_ok hz;obtain⟨k1,k2⟩:=clF_ok (L:=L) hn;have hw:=(tbC h.vt).wide;have e:(br t L).rows=(mgT t (clF t L) L.surv).rows:=rfl;have hr:=h.lu.r;have hv:=h.lu.v;have hz:=h.zu;rw[e]at hr hv hz;have hs:=ok.sl;have l1:(mgT t (clF t L) L.surv).cl.length=(clF t L).length:=dP _
 have l2:(mgT t (clF t L) L.surv).org.length=(clF t L).length:=by show((aw _).map _).length=_;rw[oW,dP]
 refine same_s t _ (by omega) hr (fun r hr=>⟨hv r hr,hz r hr⟩) (by omega) (fun c hc=>?_) (by omega) (fun c hc=>?_)
 ·have:=k2 c ((bg _).mem_iff.1 hc);omega
 ·obtain⟨d,hd,rfl⟩:=List.mem_map.1 hc;unfold ir;rw[oW,rC];omega
theorem law_my(x:Rcp)(f:Bool)(t:Tb)(L:Lnk)(h:RnC t (br t L))(hz:fD t L=0)(hd:iW t (clF t L)=true)(hn6:t.rows.length≤6)(h1:L.rules.length≤10)(h2:L.surv.length≤20)(hn:t.name=⟨#[114]⟩)
  (hlk:aJ Tryz.prog 8 [aD false false t,aV L] fun r=>r = .tup [lkM t L,.int .i64 (lkE t L)])
  (c1:aJ Tryz.prog 4 [ax f x,.int .i64 6] fun r=>r = .tup [aD false false t,.bool true]):
  aJ Tryz.prog 3 [ax f x,aV L] fun r=>r = .bool true:=by
 have b1:=fun G0 G1 G2=>beg_3 t false false h.lt h.vt G0 G1 G2
 have p:=kz t;have a1:=merge_f t L h hz hd hlk;rw[hn]at a1;have cs:=mg_same h hn6 hz;unfold lkM lkE at hlk;rw[if_pos ⟨hz,hd⟩,if_pos hz,if_pos hd]at hlk
 have hpx:∀x∈(txA t (plC t (br t L))).map aY,AM.Pure x:=fun x hx=>by obtain⟨c,_,rfl⟩:=List.mem_map.1 hx;simp
 have s1:=fun G0 G1 G2 G3=>lift2 (H:=[G0,G1,G2,G3,stC t 5 false,dnC t]) (k:=4) (L:=5) (args:=[.ptr 4 0,.str ⟨#[114]⟩,aV L]) (D0:=stF (br t L) false (txA t (plC t (br t L))) .nilS) (D1:=dnF ((txA t (plC t (br t L))).map aY)) a1 (by decide) rfl rfl (ren_st (g:=g2 4 5) (n:=2) (m:=1) (o:=false) (by omega) (by simp) (by simp) (by simp) rfl rfl rfl) (kT p.pdl) (ld (by simp) (by simp) (by simp) (by simp) rfl rfl rfl rfl) (.buf _ _ _ _ hpx) rfl (fun i a b ha hb=>by
  match i with
  | 0=>simp at ha hb;subst ha;subst hb;exact .ptr 0 0 (by omega)
  | 1=>simp at ha hb;subst ha;subst hb;exact .pure _ (by simp)
  | 2=>simp at ha hb;subst ha;subst hb;exact .pure _ (by simp)
  | i+3=>simp at ha) (by simp)
 have hud:AM.Pure (udR (plC t (br t L)))∧(udR (plC t (br t L))).one=true:=by unfold udR;split<;>simp[V.one]
 have s2:=fun G0 G1 G2 G3 G5 G6 G7=>liftL (H:=[G0,G1,G2,G3,stF (br t L) false (txA t (plC t (br t L))) .nilS,G5,G6,G7]) (k:=4) (became_l h) (fM (br t L) false _ (by simp) rfl) (fM (br t L) false _ hud.1 hud.2) (by simp) (by simp) rfl
 obtain⟨S,hS⟩:∃S,S=stC t 5 false:=⟨_,rfl⟩;obtain⟨S1,hS1⟩:∃S,S=stF (br t L) false (txA t (plC t (br t L))) .nilS:=⟨_,rfl⟩;obtain⟨D,hD⟩:∃D,D=dnC t:=⟨_,rfl⟩;obtain⟨D1,hD1⟩:∃D,D=dnF ((txA t (plC t (br t L))).map aY):=⟨_,rfl⟩;simp only[←hS,←hS1,←hD,←hD1,oz,pG]at b1 s1 s2;obtain⟨S2,hS2⟩:∃S,S=stB (LTb false [br t L]) (.lst 1 false ((txA t (plC t (br t L))).map aY)) (udR (plC t (br t L))) false .nilS:=⟨_,rfl⟩;simp only[←hS2]at s2;clear a1 hpx hS hS1 hS2 hD hD1 hud;obtain⟨m,hm⟩:∃m,m=mgT t (clF t L) L.surv:=⟨_,rfl⟩
 have em:br t L=⟨t.name,t.attrs,m.rows⟩:=by rw[hm];rfl
 rw[em]at s2;rw[←hm]at hlk s1 cs
 have q1:¬(10:Int)<(L.rules.length:Int):=by omega
 have q2:¬(20:Int)<(L.surv.length:Int):=by omega
 clear h hz hd p em hm;simp only[aD,aV,LS,LR,LQm,L1,LLz,ei,ax]at *;refine sPx Tryz.func3 rfl rfl ?_;simp -dsimp[Tryz.f3,oE,ax,aV,LQm,L1];refine cPx (c1) (by simp) ?_;simp -dsimp[];refine cPx (cu) (by simp) ?_;simp -dsimp[q1,q2];refine wce (b1 _ _ _) ?_;simp -dsimp[];refine wce (s1 _ _ _ _) ?_;simp -dsimp[];refine cPx (hlk) (by simp) ?_;simp -dsimp[];refine cPx (cs) (by simp) ?_;simp -dsimp[];refine wce (s2 _ _ _ _ _ _ _) ?_;simp -dsimp[]
theorem law_mn(x:Rcp)(f:Bool)(t:Tb)(L:Lnk)(ht:TbL t)(hv:aG t=0)(hzs:∀r∈t.rows,∀v∈r.vals,v.s.size≤maxLen)(hno:¬(fD t L=0∧iW t (clF t L)=true))(h1:L.rules.length≤10)(h2:L.surv.length≤20)(hn:t.name=⟨#[114]⟩)
  (hlk:aJ Tryz.prog 8 [aD false false t,aV L] fun r=>r = .tup [lkM t L,.int .i64 (lkE t L)])
  (c1:aJ Tryz.prog 4 [ax f x,.int .i64 6] fun r=>r = .tup [aD false false t,.bool true]):
  aJ Tryz.prog 3 [ax f x,aV L] fun r=>r = .bool true:=by
 have b1:=fun G0 G1 G2=>beg_3 t false false ht hv G0 G1 G2
 have p:=kz t;have a1:=merge_no t L ht hno hlk;rw[hn]at a1;have cs:=same_z
 have he:¬lkE t L=0:=by
  unfold lkE;split
  ·rename_i hz;rw[if_neg (fun h=>hno ⟨hz,h⟩)]
   decide
  ·assumption
 obtain⟨e,hE⟩:∃e,e=lkE t L:=⟨_,rfl⟩;rw[←hE]at he hlk a1;unfold lkM at hlk;rw[if_neg hno]at hlk
 have s1:=fun G0 G1 G2 G3=>mu (H:=[G0,G1,G2,G3,stC t 5 false,dnC t]) (k:=4) (L:=5) (db:=LTb false [t]) (ud:=.nilS) (nw:=.nilS) (m:=1) (o:=false) (dl:=(txC t).map aY) a1 p (by simp) (by simp[zMg]) (by decide) rfl rfl
 have s2:=fun G0 G1 G2 G3 G6 G7=>mu (H:=[G0,G1,G2,G3,stC t 5 false,dnC t,G6,G7]) (k:=4) (L:=5) (is_c t ht hzs) p (by simp) (by simp) (by decide) rfl rfl
 obtain⟨S,hS⟩:∃S,S=stC t 5 false:=⟨_,rfl⟩;obtain⟨D,hD⟩:∃D,D=dnC t:=⟨_,rfl⟩;simp only[←hS,←hD]at b1 s1 s2;clear hS hD p a1 hno hE
 have q1:¬(10:Int)<(L.rules.length:Int):=by omega
 have q2:¬(20:Int)<(L.surv.length:Int):=by omega
 simp only[aD,aV,LS,LR,LQm,L1,LLz,zMg,ax]at *;refine sPx Tryz.func3 rfl rfl ?_;simp -dsimp[Tryz.f3,oE,ax,aV,LQm,L1];refine cPx (c1) (by simp) ?_;simp -dsimp[];refine cPx (cu) (by simp) ?_;simp -dsimp[q1,q2];refine wce (b1 _ _ _) ?_;simp -dsimp[];refine wce (s1 _ _ _ _) ?_;simp -dsimp[];refine cPx (hlk) (by simp) ?_;simp -dsimp[];refine cPx (cs) (by simp) ?_;simp -dsimp[he];refine wce (s2 _ _ _ _ _ _) ?_;simp -dsimp[]
theorem law_m1(x:Rcp)(f:Bool)(L:Lnk)(c1:aJ Tryz.prog 4 [ax f x,.int .i64 6] fun r=>r = .tup [.agg [.str oF,.nilS,.nilS],.bool false]):
  aJ Tryz.prog 3 [ax f x,aV L] fun r=>r = .bool true:=by
 simp only[aD,aV,LS,LR,LQm,L1,ax]at *;refine sPx Tryz.func3 rfl rfl ?_;simp -dsimp[Tryz.f3,oE,ax,aV,LQm,L1];refine cPx (c1) (by simp) ?_;simp -dsimp[];refine cPx (cu) (by simp) ?_;simp -dsimp[];refine cPx (cu) (by simp) ?_;simp -dsimp[]
theorem law_m2(x:Rcp)(f:Bool)(t:Tb)(L:Lnk)(h1:10<L.rules.length)(c1:aJ Tryz.prog 4 [ax f x,.int .i64 6] fun r=>r = .tup [aD false false t,.bool true]):
  aJ Tryz.prog 3 [ax f x,aV L] fun r=>r = .bool true:=by
 have q1:(10:Int)<(L.rules.length:Int):=by omega
 simp only[aD,aV,LS,LR,LQm,L1,ax]at *;refine sPx Tryz.func3 rfl rfl ?_;simp -dsimp[Tryz.f3,oE,ax,aV,LQm,L1];refine cPx (c1) (by simp) ?_;simp -dsimp[];refine cPx (cu) (by simp) ?_;simp -dsimp[q1,h1];refine cPx (cu) (by simp) ?_;simp -dsimp[]
theorem law_m3(x:Rcp)(f:Bool)(t:Tb)(L:Lnk)(h1:L.rules.length≤10)(h2:20<L.surv.length)(c1:aJ Tryz.prog 4 [ax f x,.int .i64 6] fun r=>r = .tup [aD false false t,.bool true]):
  aJ Tryz.prog 3 [ax f x,aV L] fun r=>r = .bool true:=by
 have q1:¬(10:Int)<(L.rules.length:Int):=by omega
 have q2:(20:Int)<(L.surv.length:Int):=by omega
 simp only[aD,aV,LS,LR,LQm,L1,ax]at *;refine sPx Tryz.func3 rfl rfl ?_;simp -dsimp[Tryz.f3,oE,ax,aV,LQm,L1];refine cPx (c1) (by simp) ?_;simp -dsimp[];refine cPx (cu) (by simp) ?_;simp -dsimp[q1,q2,h2];refine cPx (cu) (by simp) ?_;simp -dsimp[]
theorem lawMerge(x:Rcp)(L:Lnk)(f:Bool)(ha:0≤x.a∧x.a<256)(hg:0≤x.gap)(hc:∀r∈x.rows,r.length≤9223372036854775807)(hb:L.block.length≤1048576):
  aJ Tryz.prog 3 [ax f x,aV L] fun r=>r = .bool true:=by
 have c1:=table03 x f ha hg hc;by_cases h1:x.rows.length≤6
 case neg =>
  rw[if_neg h1]at c1;exact law_m1 x f L c1
 rw[if_pos h1]at c1;obtain⟨q1,q2⟩:=tbOf_ok (x:=x) ⟨ha,hg,h1,hc⟩;by_cases h2:L.rules.length≤10
 case neg=>exact law_m2 x f _ L (by omega) c1
 by_cases h3:L.surv.length≤20
 case neg=>exact law_m3 x f _ L h2 (by omega) c1
 have hn6:(ig x).rows.length≤6:=by rw[tbOf_rows];exact h1
 have tl:=tbL_of q1 q2;have hlk:=link_u (ig x) false false L (by omega) hn6 (cI _ _ _ tl.ok);by_cases hy:fD (ig x) L=0∧iW (ig x) (clF (ig x) L)=true
 ·exact law_my x f _ L (rnc_mg q1 q2 hn6 hy.1 hy.2) hy.1 hy.2 hn6 h2 h3 rfl hlk c1
 ·exact law_mn x f _ L tl q2 q1.sz hy h2 h3 rfl hlk c1
end
end Go.Proofs.YtdnhplencamncaaGreatDoor
