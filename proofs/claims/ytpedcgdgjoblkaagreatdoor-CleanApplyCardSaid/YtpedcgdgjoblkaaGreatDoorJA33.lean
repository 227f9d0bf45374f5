/- JA33: own texts of this seat, joined and shortened by pack4.py: UE, UG. -/
import Derived.Test.YtpedcgdgjoblkaaGreatDoorJA29
import Derived.Test.YtpedcgdgjoblkaaGreatDoorJA32
set_option linter.unusedVariables false
set_option linter.unusedSimpArgs false
set_option maxRecDepth 100000
set_option maxHeartbeats 64000000
open ByteArray renaming empty→kI
open List renaming replicate→aI,length_map→kh,set_cons_zero→kn,set_cons_succ→ko,getElem_of_mem→lX,length_filter_le→lg
namespace Go.Proofs.YtpedcgdgjoblkaaGreatDoor
section
open Go Go.AM
def encL(l:List Ch):V:=.lst 11 false (l.map (aE false false))
@[simp] theorem encL_pure (l:List Ch):AM.Pure (encL l):=by
 unfold encL
 exact(pure_lst _ _ _).2 fun x hx=>by obtain⟨c,_,rfl⟩:=List.mem_map.1 hx;simp
structure RnC (t u:Tb):Prop where
 lt:TbL t
 lu:TbL u
 vt:aH t=0
 vu:aH u=0
 zt:∀r∈t.rows,∀v∈r.vals,v.s.size≤maxLen
 zu:∀r∈u.rows,∀v∈r.vals,v.s.size≤maxLen
 at_:u.attrs=t.attrs
 nm:u.name=t.name
 few:t.rows.length≤8
 fewu:u.rows.length≤8
theorem tbL0:TbL tb0:=⟨⟨by decide,by decide,by decide,by simp[tb0]⟩,by decide,by decide,by simp[tb0]⟩
def dnF(dl:List V):B:=.buf 25 1 dl true
theorem run_mem{t u:Tb}{l:List Ch}(hv:aH t=0)(hk:TbOk t)(hr:runT t l=some u){c:Ch}(hc:c∈l):∃w w',aH w=0∧ae w c=some w':=by
 obtain⟨i,hi,rfl⟩:=lX hc;exact⟨_,_,(gi hv hk hr (show i≤l.length by omega)).1,jG hr hi⟩
theorem step_vals{t u:Tb}{c:Ch}(h:aH t=0)(hs:ae t c=some u):∀v∈c.row.vals,v.s.size≤maxLen:=by
 unfold ae at hs;split at hs
 case isFalse=>cases hs
 split at hs
 ·split at hs
  case isFalse=>cases hs
  rename_i h2
  exact fun v hv=>val_sz (List.all_eq_true.1 (bo h2).2.2.1 v hv)
 ·split at hs
  case isFalse=>cases hs
  rename_i h2;exact row_sz h _ (fy h h2)
theorem step_a{t u:Tb}{c:Ch}(h:aH t=0)(hs:ae t c=some u):c.k=4→0≤c.a∧c.a<c.row.vals.length:=(inv_ok h hs).a
theorem clnC_row(c:Ch):(eL c).row=c.row:=by unfold eL;split<;>rfl
theorem eff_ls{t u:Tb}{l:List Ch}(hv:aH t=0)(hk:TbOk t)(hl:l.length≤12)(hr:runT t l=some u):LsOk (am l):=by
 refine⟨?_,fun c hc=>?_⟩
 ·unfold am;rw[kh];have:=lg (fun c=>!dR c) l;omega
 ·have ht:=effL_tb l c hc;unfold am at hc;obtain⟨d,hd,rfl⟩:=List.mem_map.1 hc;obtain⟨w,w',h1,h2⟩:=run_mem hv hk hr (List.mem_filter.1 hd).1;have h3:=eP h1 h2;have h4:=step_vals h1 h2;have e:=clnC_row d;exact⟨⟨by rw[ht];simp[tb0],by rw[ht];simp[tb0],by rw[ht];simp[tb0],by rw[e];exact⟨by omega,h4⟩⟩,⟨by rw[ht];exact tbL0,by rw[e];omega⟩⟩
theorem ef_ok{t u:Tb}{l:List Ch}(hv:aH t=0)(hk:TbOk t)(hl:l.length≤12)(hr:runT t l=some u):EfOk l :=
 ⟨by omega,fun c hc=>by obtain⟨w,w',h1,h2⟩:=run_mem hv hk hr hc;exact step_a h1 h2,fun c hc=>by
  obtain⟨w,w',h1,h2⟩:=run_mem hv hk hr hc;have:=eP h1 h2
  exact⟨by omega,step_vals h1 h2⟩⟩
theorem apply_fy(t u:Tb)(l:List Ch)(ht:TbL t)(hv:aH t=0)(hl:l.length≤12)(hr:runT t l=some u):aT Tryz.prog 9 [.ptr 0 0,.str t.name,encL l] [stC t 1 false,dnC t] fun r H'=>r = .int .i64 0∧H'=[stF u false (txA t (am l)) .nilS,dnF ((txA t (am l)).map aa)]:=by
 have p:=stP_c t;have a1:=apply_yes t u l false ht hv (by omega) hr ((txC t).map aa) (by simp[txC]) p.pdl p.odl;rw[txA_add]at a1;have:=conH_frzC 1 0 [1] (e:=25) (z:=1) (xs:=(txA t (am l)).map aa) (fz:=false) a1 rfl rfl (by simp[eD,bi]);exact this
theorem law_an(x:Rcp)(f:Bool)(t:Tb)(l:List Ch)(ht:TbL t)(hv:aH t=0)(hz:∀r∈t.rows,∀v∈r.vals,v.s.size≤maxLen)(hl:l.length≤12)(hr:runT t l=none)(hn:t.name=⟨#[114]⟩)(c1:aK Tryz.prog 6 [au f x,.int .i64 6] fun r=>r = .tup [aD false false t,.bool true]):
  aK Tryz.prog 3 [au f x,.lst 11 false (l.map (aE false false))] fun r=>r = .bool true:=by
 have b1:=fun G0 G1=>beg_l t false false ht hv G0 G1
 have p:=stP_c t;have c2:=clone_W l false (by omega);have c3:=apply_r t false l hv ht.ok (by omega);rw[apR_none hr]at c3;have a1:=apply_no t l false ht hv (by omega) hr ((txC t).map aa) p.pdl p.odl 1;rw[hn]at a1
 have hll:¬(12:Int)<(l.length:Int):=by omega
 have hpl:∀x∈l.map (aE false false),AM.Pure x:=fun x hx=>by obtain⟨c,_,rfl⟩:=List.mem_map.1 hx;simp
 obtain⟨ll,hLL⟩:∃ll,ll=l.map (aE false false):=⟨_,rfl⟩
 have hlm:ll.length=l.length:=by rw[hLL,kh]
 rw[←hLL]at a1 c2 c3 hpl ⊢
 have s1:=fun G0 G1 G2=>jZ (H:=[G0,G1,G2,stC t 4 false,dnC t]) (k:=3) (L:=4) (db:=LTb false [t]) (ud:=.nilS) (nw:=.nilS) (m:=1) (o:=false) (dl:=(txC t).map aa) a1 p (by simp;exact hpl) (by simp) (by decide) rfl rfl
 have s2:=fun G0 G1 G2 G5=>jZ (H:=[G0,G1,G2,stC t 4 false,dnC t,G5]) (k:=3) (L:=4) (is_c t ht hz) p (by simp) (by simp) (by decide) rfl rfl
 obtain⟨S,hS⟩:∃S,S=stC t 4 false:=⟨_,rfl⟩;obtain⟨D,hD⟩:∃D,D=dnC t:=⟨_,rfl⟩;simp only[←hS,←hD]at b1 s1 s2;simp only[aD,LS,LR,au,zTb]at *;refine sPx Tryz.func3 rfl rfl ?_;simp -dsimp[Tryz.f3,aI,au];refine cPx (c1) (by simp) ?_;simp -dsimp[];refine cPx (cN) (by simp) ?_;simp -dsimp[hlm,hll];refine wce (b1 _ _) ?_;simp -dsimp[];refine cPx c2 (by simp;exact hpl) ?_;simp -dsimp[];refine wce (s1 _ _ _) ?_;simp -dsimp[];refine cPx c3 (by simp;exact hpl) ?_;simp -dsimp[];refine wce (s2 _ _ _ _) ?_;simp -dsimp[]
theorem law_ay(x:Rcp)(f:Bool)(t u:Tb)(l:List Ch)(ht:TbL t)(hu:TbL u)(hv:aH t=0)(hz:∀r∈t.rows,∀v∈r.vals,v.s.size≤maxLen)(hzu:∀r∈u.rows,∀v∈r.vals,v.s.size≤maxLen)(hl:l.length≤12)(hr:runT t l=some u)(hn:t.name=⟨#[114]⟩)(c1:aK Tryz.prog 6 [au f x,.int .i64 6] fun r=>r = .tup [aD false false t,.bool true]):
  aK Tryz.prog 3 [au f x,.lst 11 false (l.map (aE false false))] fun r=>r = .bool true:=by
 have b1:=fun G0 G1=>beg_l t false false ht hv G0 G1
 have p:=stP_c t;have c2:=clone_W l false (by omega);have c3:=apply_r t false l hv ht.ok (by omega);rw[apR_some hr]at c3;have c4:=eff_r l false (ef_ok hv ht.ok hl hr);have a1:=apply_fy t u l ht hv hl hr;rw[hn]at a1;have hls:=eff_ls hv ht.ok hl hr;have hsm:=same_ch (am l) false false (by have:=hls.len;omega) (fun c hc=>(hls.ok c hc).1);have hre:=run_eff hv hr
 have hll:¬(12:Int)<(l.length:Int):=by omega
 have hpl:∀x∈l.map (aE false false),AM.Pure x:=fun x hx=>by obtain⟨c,_,rfl⟩:=List.mem_map.1 hx;simp
 obtain⟨ll,hLL⟩:∃ll,ll=l.map (aE false false):=⟨_,rfl⟩
 have hlm:ll.length=l.length:=by rw[hLL,kh]
 unfold encL at a1;rw[←hLL]at a1 c2 c3 c4 hpl ⊢;obtain⟨L,hL⟩:∃L,L=am l:=⟨_,rfl⟩;rw[←hL]at a1 c4 hls hsm hre
 have hpx:∀x∈(txA t L).map aa,AM.Pure x:=fun x hx=>by obtain⟨c,_,rfl⟩:=List.mem_map.1 hx;simp
 have s1:=fun G0 G1 G2=>lift2 (H:=[G0,G1,G2,stC t 4 false,dnC t]) (k:=3) (L:=4) (args:=[.ptr 3 0,.str ⟨#[114]⟩,.lst 11 false ll]) (D0:=stF u false (txA t L) .nilS) (D1:=dnF ((txA t L).map aa)) a1 (by decide) rfl rfl (ren_st (g:=g2 3 4) (n:=2) (m:=1) (o:=false) (by omega) (by simp) (by simp) (by simp) rfl rfl rfl) (go p.pdl) (ij (by simp) (by simp) (by simp) (by simp) rfl rfl rfl rfl) (.buf _ _ _ _ hpx) rfl (fun i a b ha hb=>by
  match i with
  | 0=>simp at ha hb;subst ha;subst hb;exact .ptr 0 0 (by omega)
  | 1=>simp at ha hb;subst ha;subst hb;exact .pure _ (by simp)
  | 2=>simp at ha hb;subst ha;subst hb;exact .pure _ (by simp;exact hpl)
  | i+3=>simp at ha) (by simp)
 have q0:=stQ_f u false (txA t L) (ud:=.nilS) (by simp) rfl;have d1:=is_f (l:=L) false ht hu hz hzu hls (ud:=.nilS) (by simp) rfl (encL_pure _) hsm
 have k1:=fun G0 G1 G2 G4 G5=>liftL0 (H:=[G0,G1,G2,stF u false (txA t L) .nilS,G4,G5]) (k:=3) d1 q0 (by simp) (by simp) rfl
 have hLLn:(L.map (aE false false)).length=L.length:=kh _
 have hpL:∀x∈L.map (aE false false),AM.Pure x:=fun x hx=>by obtain⟨c,_,rfl⟩:=List.mem_map.1 hx;simp
 by_cases h0:L=[]
 ·have h0l:L.length=0:=by rw[h0];rfl
  obtain⟨S,hS⟩:∃S,S=stC t 4 false:=⟨_,rfl⟩;obtain⟨D,hD⟩:∃D,D=dnC t:=⟨_,rfl⟩;obtain⟨S1,hS1⟩:∃S,S=stF u false (txA t L) .nilS:=⟨_,rfl⟩;obtain⟨D1,hD1⟩:∃D,D=dnF ((txA t L).map aa):=⟨_,rfl⟩;obtain⟨lm,hlm2⟩:∃lm,lm=L.map (aE false false):=⟨_,rfl⟩
  have hlm3:lm.length=0:=by rw[hlm2,kh];exact h0l
  have hpm:∀x∈lm,AM.Pure x:=by rw[hlm2];exact hpL
  simp only[←hS,←hS1,←hD,←hD1,kn,ko,encL,←hlm2]at b1 s1 k1 c4;clear hre hsm hls a1 d1;simp only[aD,LS,LR,au]at *;refine sPx Tryz.func3 rfl rfl ?_;simp -dsimp[Tryz.f3,aI,au];refine cPx (c1) (by simp) ?_;simp -dsimp[];refine cPx (cN) (by simp) ?_;simp -dsimp[hlm,hll];refine wce (b1 _ _) ?_;simp -dsimp[];refine cPx c2 (by simp;exact hpl) ?_;simp -dsimp[];refine wce (s1 _ _ _) ?_;simp -dsimp[];refine cPx c3 (by simp;exact hpl) ?_;simp -dsimp[];refine cPx c4 (by simp;exact hpl) ?_;simp -dsimp[];refine wce (k1 _ _ _ _ _) ?_;simp -dsimp[hlm3]
 ·have hlp:0<L.length:=List.length_pos_iff.2 h0;have eA:txA t L=txC t++[⟨false,L⟩]:=if_neg h0;have u1:=undo_l t u (txC t) ⟨false,L⟩ false hv ht.ok (show L.length≤1000000 by have:=hls.len;omega) hre (by simp[txC]);have d2:=is_f (l:=[]) true ht ht hz hz ⟨by simp,by simp⟩ (ud:=.lst 1 false [aa ⟨false,L⟩]) (by simp) rfl (L:=.nilS) (by simp) same_e;have eC:txA t []=txC t:=if_pos rfl;rw[eC]at d2;rw[←eA]at u1
  have k2:=fun G0 G1 G2 G4 G5=>liftL (H:=[G0,G1,G2,stF u false (txA t L) .nilS,G4,G5]) (k:=3) u1 q0 (stQ_f t true (txC t) (by simp) rfl) (by simp) (by simp) rfl
  have k3:=fun G0 G1 G2 G4 G5=>liftL0 (H:=[G0,G1,G2,stF t true (txC t) (.lst 1 false [aa ⟨false,L⟩]),G4,G5]) (k:=3) d2 (stQ_f t true (txC t) (by simp) rfl) (by simp) (by simp) rfl
  obtain⟨S,hS⟩:∃S,S=stC t 4 false:=⟨_,rfl⟩;obtain⟨D,hD⟩:∃D,D=dnC t:=⟨_,rfl⟩;obtain⟨S1,hS1⟩:∃S,S=stF u false (txA t L) .nilS:=⟨_,rfl⟩;obtain⟨S2,hS2⟩:∃S,S=stF t true (txC t) (.lst 1 false [aa ⟨false,L⟩]):=⟨_,rfl⟩;obtain⟨D1,hD1⟩:∃D,D=dnF ((txA t L).map aa):=⟨_,rfl⟩;obtain⟨lm,hlm2⟩:∃lm,lm=L.map (aE false false):=⟨_,rfl⟩
  have hlm3:lm.length=L.length:=by rw[hlm2,kh]
  have hpm:∀x∈lm,AM.Pure x:=by rw[hlm2];exact hpL
  have hS2':stB (LTb false [t]) (.lst 1 true ((txC t).map aa)) (.lst 1 false [aa ⟨false,L⟩]) false .nilS=S2:=hS2.symm;simp only[←hS,←hS1,←hS2,←hD,←hD1,kn,ko,encL,←hlm2]at b1 s1 k1 k2 k3 c4;simp only[hS2']at k2;clear hre hsm hls a1 d1 d2 u1;simp only[aD,LS,LR,au]at *;refine sPx Tryz.func3 rfl rfl ?_;simp -dsimp[Tryz.f3,aI,au];refine cPx (c1) (by simp) ?_;simp -dsimp[];refine cPx (cN) (by simp) ?_;simp -dsimp[hlm,hll];refine wce (b1 _ _) ?_;simp -dsimp[];refine cPx c2 (by simp;exact hpl) ?_;simp -dsimp[];refine wce (s1 _ _ _) ?_;simp -dsimp[];refine cPx c3 (by simp;exact hpl) ?_;simp -dsimp[];refine cPx c4 (by simp;exact hpl) ?_;simp -dsimp[];refine wce (k1 _ _ _ _ _) ?_;simp -dsimp[hlm3,show ¬((L.length:Int)=0) by omega,h0];refine wce (k2 _ _ _ _ _) ?_;simp -dsimp[hlm3,show ¬((L.length:Int)=0) by omega,h0];refine wce (k3 _ _ _ _ _) ?_;simp -dsimp[h0]
theorem law_aq(x:Rcp)(f:Bool)(t:Tb)(ll:List V)(hl:(12:Int)<(ll.length:Int))(c1:aK Tryz.prog 6 [au f x,.int .i64 6] fun r=>r = .tup [aD false false t,.bool true]):
  aK Tryz.prog 3 [au f x,.lst 11 false ll] fun r=>r = .bool true:=by
 simp only[aD,LS,LR,au]at *;refine sPx Tryz.func3 rfl rfl ?_;simp -dsimp[Tryz.f3,aI,au];refine cPx (c1) (by simp) ?_;simp -dsimp[];refine cPx (cN) (by simp) ?_;simp -dsimp[hl];refine cPx (cN) (by simp) ?_;simp -dsimp[]
theorem law_ar(x:Rcp)(f:Bool)(ll:List V)(c1:aK Tryz.prog 6 [au f x,.int .i64 6] fun r=>r = .tup [.agg [.str kI,.nilS,.nilS],.bool false]):
  aK Tryz.prog 3 [au f x,.lst 11 false ll] fun r=>r = .bool true:=by
 simp only[au]at *;refine sPx Tryz.func3 rfl rfl ?_;simp -dsimp[Tryz.f3,aI,au];refine cPx (c1) (by simp) ?_;simp -dsimp[];refine cPx (cN) (by simp) ?_;simp -dsimp[];refine cPx (cN) (by simp) ?_;simp -dsimp[]
theorem lawApply(x:Rcp)(l:List Ch)(f:Bool)(ha:0≤x.a∧x.a<256)(hg:0≤x.gap)(hc:∀r∈x.rows,r.length≤9223372036854775807):
  aK Tryz.prog 3 [au f x,.lst 11 false (l.map (aE false false))] fun r=>r = .bool true:=by
 have c1:=table03 x f ha hg hc;by_cases h1:x.rows.length≤6
 ·rw[if_pos h1]at c1;by_cases h2:l.length≤12
  ·obtain⟨q1,q2⟩:=tbOf_ok (x:=x) ⟨ha,hg,h1,hc⟩;have ht:=tbL_of q1 q2
   cases hr:runT (jH x) l with
   | none=>exact law_an x f _ l ht q2 q1.sz h2 hr rfl c1
   | some u =>
    obtain⟨a1,a2,a3⟩:=jJ q2 hr;have hru:=bE a1;have hwu:=(tbC a1).wide;have hu:TbL u:=⟨⟨by rw[a2];exact ht.ok.name,by omega,by omega,by rw[a3];exact ht.ok.strs⟩,by omega,by omega,fun r hr=>by have:=(tbC a1).len r hr;omega⟩;exact law_ay x f _ u l ht hu q2 q1.sz (row_sz a1) h2 hr rfl c1
  ·exact law_aq x f _ _ (by rw[kh];omega) c1
 ·rw[if_neg h1]at c1;exact law_ar x f _ c1
end
end Go.Proofs.YtpedcgdgjoblkaaGreatDoor
