/- JR30: own texts of this seat, joined and shortened by pack4.py: UE. -/
import Derived.Test.YtpedcgdgjoblkaaGreatDoorJR26
import Derived.Test.YtpedcgdgjoblkaaGreatDoorJR29
set_option linter.unusedVariables false
set_option linter.unusedSimpArgs false
set_option maxRecDepth 100000
set_option maxHeartbeats 64000000
open ByteArray renaming empty→kV
open List renaming replicate→aJ,length_append→kq,set_cons_zero→lE,length_map→lG,set_cons_succ→lH,map_nil→lS
namespace Go.Proofs.YtpedcgdgjoblkaaGreatDoor
section
open Go Go.AM
def plC(t u:Tb):List Ch:=(dD t u).map (bm t.name)
def encL(l:List Ch):V:=.lst 11 false (l.map (aG false false))
@[simp] theorem encL_pure (l:List Ch):AM.Pure (encL l):=by
 unfold encL
 exact(pure_lst _ _ _).2 fun x hx=>by obtain⟨c,_,rfl⟩:=List.mem_map.1 hx;simp
theorem plan_rel{t u:Tb}(h:cE t u=0){s:AM.St}{x:Value}(hr:Rel s (.tup [iV t u,.int .i64 (cE t u)]) x):Rel s (.tup [encL (plC t u),.int .i64 0]) x:=by
 rw[h]at hr;unfold iV at hr;rw[if_pos h]at hr
 cases hr with
 | tup _ us hl hh =>
  refine .tup _ us (by simpa using hl) (fun i c v hc hv=>?_)
  match i with
  | 0 =>
   simp at hc;subst hc;exact rel_toCh (hh 0 _ v rfl hv)
  | 1 =>
   simp at hc;subst hc;exact hh 1 _ v rfl hv
  | i+2=>simp at hc
theorem plan_uC{t u:Tb}(A:PlA t u)(h:cE t u=0):aL Tryz.prog 15 [aD false false t,aD false false u] fun r=>r = .tup [encL (plC t u),.int .i64 0] :=
 conP_resR (plan_u t u false false false false A) fun s x r hr hrel=>⟨_,plan_rel h (hr▸hrel),by simp,rfl⟩
theorem plan_rC{t u:Tb}(A:PlA t u)(h:cE t u=0)(hz:∀r∈t.rows,∀v∈r.vals,v.s.size≤maxLen)(hz2:∀r∈u.rows,∀v∈r.vals,v.s.size≤maxLen):aL Tryz.prog 48 [aD false false t,aD false false u] fun r=>r = .tup [encL (plC t u),.int .i64 0] :=
 conP_resR (plan_r t u false false false false A hz hz2) fun s x r hr hrel=>⟨_,plan_rel h (hr▸hrel),by simp,rfl⟩
def udR(l:List Ch):V:=if l=[] then .nilS else .lst 1 true []
structure RnC (t u:Tb):Prop where
 lt:TbL t
 lu:TbL u
 vt:aF t=0
 vu:aF u=0
 zt:∀r∈t.rows,∀v∈r.vals,v.s.size≤maxLen
 zu:∀r∈u.rows,∀v∈r.vals,v.s.size≤maxLen
 at_:u.attrs=t.attrs
 nm:u.name=t.name
 few:t.rows.length≤8
 fewu:u.rows.length≤8
theorem eqSs_self2(l:List ByteArray):fY l l=true:=by
 have:=iJ ⟨kV,l,[]⟩;unfold eqTb at this;simp at this
 first | exact this | exact this.1 | exact this.2.1
theorem RnC.e{t u:Tb}(h:RnC t u):cE t u=0:=by
 unfold cE;rw[if_pos h.vt,if_pos h.vu,if_pos];rw[h.at_,h.nm,eqSs_self2];simp[cG]
theorem RnC.run{t u:Tb}(h:RnC t u):runT t (plC t u)=some u:=by
 have:=plan_run h.vt h.vu (by rw[h.at_]);unfold plC;rw[this];congr 1;unfold wrT;rw[←h.nm,←h.at_]
theorem RnC.eff{t u:Tb}(h:RnC t u):bf (plC t u)=plC t u:=eff_plan t u t.name
theorem tbL0:TbL tb0:=⟨⟨by decide,by decide,by decide,by simp[tb0]⟩,by decide,by decide,by simp[tb0]⟩
theorem RnC.ls{t u:Tb}(h:RnC t u):LsOk (plC t u):=by
 refine⟨?_,fun c hc=>?_⟩
 ·have q1:=kE u t.rows;have q2:=jF u t.attrs.length t.rows;have q3:=jl t u.rows;have q4:t.rows.length*t.attrs.length≤8*16:=Nat.mul_le_mul h.few (tbC h.vt).wide;have:=h.few;have:=h.fewu;unfold plC dD;simp only[lG,kq];omega
 ·obtain⟨d,hd,rfl⟩:=List.mem_map.1 hc;have:=plan_mem h.vt h.vu (by rw[h.at_]) h.zt h.zu hd;exact⟨⟨by simp[bm,tb0],by simp[bm,tb0],by simp[bm,tb0],this⟩,⟨tbL0,this.1⟩⟩
theorem RnC.pl{t u:Tb}(h:RnC t u):PlA t u:=⟨h.lt.ok,h.lu.ok,by have:=h.few;omega,by have:=h.fewu;omega⟩
theorem became_l{t u:Tb}(h:RnC t u):aR Tryz.prog 16 [.ptr 0 0,aD false false t,aD false false u] [stF u false (txA t (plC t u)) .nilS] fun r H'=>r = .bool true∧H'=[stF u false (txA t (plC t u)) (udR (plC t u))]:=by
 have c1:=plan_rC h.pl h.e h.zt h.zu;have hls:=h.ls;have hsm:=same_ch (plC t u) false false (by have:=hls.len;omega) (fun c hc=>(hls.ok c hc).1)
 have hud:AM.Pure (udR (plC t u))∧(udR (plC t u)).one=true:=by unfold udR;split<;>simp[V.one]
 have d1:=is_f (l:=plC t u) false h.lt h.lu h.zt h.zu hls (ud:=.nilS) (by simp) rfl (encL_pure _) hsm;have hrun:=h.run;obtain⟨l,hl⟩:∃l,l=plC t u:=⟨_,rfl⟩;simp only[←hl]at c1 d1 hud hls hsm hrun ⊢;refine fZ ?_ (by simp) (by simp[rb]) (df u false (txA t l) hud.1 hud.2).rb1;have q0:=df u false (txA t l) (ud:=.nilS) (by simp) rfl
 have k1:=fun G0 G1=>jg (H:=[stF u false (txA t l) .nilS,G0,G1]) (k:=0) d1 q0 (by simp) (by simp) rfl
 by_cases h0:l=[]
 ·subst h0;have e0:udR [] = .nilS:=if_pos rfl;rw[e0];obtain⟨S,hS⟩:∃S,S=stF u false (txA t []) .nilS:=⟨_,rfl⟩;simp only[←hS,aD,LS,LR,encL,lS]at c1 k1 ⊢;refine aI tok Tryz.func16 rfl rfl ?_;refine wx ?_;simp -dsimp[Tryz.f16,aJ,aD,LS,LR];refine cPx (c1) (by simp) ?_;simp -dsimp[];refine wce (k1 _ _) ?_;simp -dsimp[]
 ·have e0:udR l = .lst 1 true []:=if_neg h0;have eA:txA t l=txC t++[⟨false,l⟩]:=if_neg h0;have hlp:0<l.length:=List.length_pos_iff.2 h0;rw[e0];have u1:=undo_l t u (txC t) ⟨false,l⟩ false h.vt h.lt.ok (show l.length≤1000000 by have:=hls.len;omega) hrun (by simp[txC]);have u2:=redo_l t u (txC t) ⟨false,l⟩ h.vt h.lt.ok (show l.length≤1000000 by have:=hls.len;omega) hrun (by simp[txC]);have hn0:LsOk []:=⟨by simp,by simp⟩;have d2:=is_f (l:=[]) true h.lt h.lt h.zt h.zt hn0 (ud:=.lst 1 false [aj ⟨false,l⟩]) (by simp) rfl (L:=.nilS) (by simp) same_e;have eC:txA t []=txC t:=if_pos rfl;rw[eC]at d2;have d3:=is_f (l:=l) false h.lt h.lu h.zt h.zu hls (ud:=.lst 1 true []) (by simp) rfl (encL_pure _) hsm;rw[←eA]at u1 u2
  have k2:=fun G0 G1=>liftL (H:=[stF u false (txA t l) .nilS,G0,G1]) (k:=0) u1 q0 (df t true (txC t) (by simp) rfl) (by simp) (by simp) rfl
  have k3:=fun G0 G1=>jg (H:=[stF t true (txC t) (.lst 1 false [aj ⟨false,l⟩]),G0,G1]) (k:=0) d2 (df t true (txC t) (by simp) rfl) (by simp) (by simp) rfl
  have k4:=fun G0 G1=>liftL (H:=[stF t true (txC t) (.lst 1 false [aj ⟨false,l⟩]),G0,G1]) (k:=0) u2 (df t true (txC t) (by simp) rfl) (df u false (txA t l) (by simp) rfl) (by simp) (by simp) rfl
  have k5:=fun G0 G1=>jg (H:=[stF u false (txA t l) (.lst 1 true []),G0,G1]) (k:=0) d3 (df u false (txA t l) (by simp) rfl) (by simp) (by simp) rfl
  obtain⟨S,hS⟩:∃S,S=stF u false (txA t l) .nilS:=⟨_,rfl⟩;obtain⟨S1,hS1⟩:∃S,S=stF t true (txC t) (.lst 1 false [aj ⟨false,l⟩]):=⟨_,rfl⟩;obtain⟨S2,hS2⟩:∃S,S=stF u false (txA t l) (.lst 1 true []):=⟨_,rfl⟩;clear u1 u2 d1 d2 d3;simp only[stF]at k2 k4 hS hS1 hS2;simp only[stF,←hS,←hS1,←hS2,aD,LS,LR,encL,lE]at c1 k1 k2 k3 k4 k5 ⊢;refine aI tok Tryz.func16 rfl rfl ?_;refine wx ?_;simp -dsimp[Tryz.f16,aJ,aD,LS,LR];refine cPx (c1) (by simp) ?_;simp -dsimp[];refine wce (k1 _ _) ?_;simp -dsimp[h0,hlp,show ¬(l.length:Int)=0 by omega];refine wce (k2 _ _) ?_;simp -dsimp[];refine wce (k3 _ _) ?_;simp -dsimp[];refine wce (k4 _ _) ?_;simp -dsimp[];refine wce (k5 _ _) ?_;simp -dsimp[]
def dnF(dl:List V):B:=.buf 25 1 dl true
theorem apply_f{t u:Tb}(h:RnC t u):aR Tryz.prog 9 [.ptr 0 0,.str t.name,encL (plC t u)] [stC t 1 false,dnC t] fun r H'=>r = .int .i64 0∧H'=[stF u false (txA t (plC t u)) .nilS,dnF ((txA t (plC t u)).map aj)]:=by
 have hls:=h.ls;have p:=stP_c t;have a1:=apply_yes t u (plC t u) false h.lt h.vt (by have:=hls.len;omega) (fun c hc=>(hls.ok c hc).2.v) h.run ((txC t).map aj) (by simp[txC]) p.pdl p.odl;rw[h.eff,txA_add]at a1;have:=conH_frzC 1 0 [1] (e:=25) (z:=1) (xs:=(txA t (plC t u)).map aj) (fz:=false) a1 rfl rfl (by simp[eW,bc]);exact this
theorem law_rnd(x y:Rcp)(f f':Bool)(t u:Tb)(h:RnC t u)(hn:t.name=⟨#[114]⟩)(c1:aL Tryz.prog 6 [ae f x,.int .i64 6] fun r=>r = .tup [aD false false t,.bool true])(c2:aL Tryz.prog 6 [ae f' ⟨x.a,y.gap,y.rows⟩,.int .i64 6] fun r=>r = .tup [aD false false u,.bool true]):
  aL Tryz.prog 4 [ae f x,ae f' y] fun r=>r = .bool true:=by
 have c3:=plan_uC h.pl h.e
 have b1:=fun G0 G1 G2 G3=>beg_4 t false false h.lt h.vt G0 G1 G2 G3
 have p:=stP_c t;have a1:=apply_f h;rw[hn]at a1
 have hpx:∀x∈(txA t (plC t u)).map aj,AM.Pure x:=fun x hx=>by obtain⟨c,_,rfl⟩:=List.mem_map.1 hx;simp
 have s1:=fun G0 G1 G2 G3 G4=>lift2 (H:=[G0,G1,G2,G3,G4,stC t 6 false,dnC t]) (k:=5) (L:=6) (args:=[.ptr 5 0,.str ⟨#[114]⟩,encL (plC t u)]) (D0:=stF u false (txA t (plC t u)) .nilS) (D1:=dnF ((txA t (plC t u)).map aj)) a1 (by decide) rfl rfl (ren_st (g:=g2 5 6) (n:=2) (m:=1) (o:=false) (by omega) (by simp) (by simp) (by simp) rfl rfl rfl) (iA p.pdl) (ir (by simp) (by simp) (by simp) (by simp) rfl rfl rfl rfl) (.buf _ _ _ _ hpx) rfl (fun i a b ha hb=>by
  match i with
  | 0=>simp at ha hb;subst ha;subst hb;exact .ptr 0 0 (by omega)
  | 1=>simp at ha hb;subst ha;subst hb;exact .pure _ (by simp)
  | 2=>simp at ha hb;subst ha;subst hb;exact .pure _ (by simp)
  | i+3=>simp at ha) (by simp)
 have hud:AM.Pure (udR (plC t u))∧(udR (plC t u)).one=true:=by unfold udR;split<;>simp[V.one]
 have s2:=fun G0 G1 G2 G3 G4 G6=>liftL (H:=[G0,G1,G2,G3,G4,stF u false (txA t (plC t u)) .nilS,G6]) (k:=5) (became_l h) (df u false _ (by simp) rfl) (df u false _ hud.1 hud.2) (by simp) (by simp) rfl
 obtain⟨S,hS⟩:∃S,S=stC t 6 false:=⟨_,rfl⟩;obtain⟨S1,hS1⟩:∃S,S=stF u false (txA t (plC t u)) .nilS:=⟨_,rfl⟩;obtain⟨D,hD⟩:∃D,D=dnC t:=⟨_,rfl⟩;obtain⟨D1,hD1⟩:∃D,D=dnF ((txA t (plC t u)).map aj):=⟨_,rfl⟩;simp only[←hS,←hS1,←hD,←hD1,lE,lH]at b1 s1 s2;obtain⟨S2,hS2⟩:∃S,S=stB (LTb false [u]) (.lst 1 false ((txA t (plC t u)).map aj)) (udR (plC t u)) false .nilS:=⟨_,rfl⟩;simp only[←hS2]at s2;clear a1 hpx;obtain⟨L,hL⟩:∃L,L=encL (plC t u):=⟨_,rfl⟩;obtain⟨ll,hll⟩:∃ll,L = .lst 11 false ll:=⟨_,hL⟩
 have hLp:AM.Pure L:=by rw[hL];simp
 simp only[←hL]at c3 s1;rw[hll]at c3 s1 hLp;simp only[aD,LS,LR,ae]at *;refine sPx Tryz.func4 rfl rfl ?_;simp -dsimp[Tryz.f4,aJ,ae];refine cPx (c1) (by simp) ?_;simp -dsimp[];refine cPx (c2) (by simp) ?_;simp -dsimp[];refine cPx (cO) (by simp) ?_;simp -dsimp[];refine wce (b1 _ _ _ _) ?_;simp -dsimp[];refine cPx (c3) (by simp) ?_;simp -dsimp[];refine wce (s1 _ _ _ _ _) ?_;simp -dsimp[];refine wce (s2 _ _ _ _ _ _) ?_;simp -dsimp[]
theorem law_rn1(x y:Rcp)(f f':Bool)(t u:Tb)(c1:aL Tryz.prog 6 [ae f x,.int .i64 6] fun r=>r = .tup [.agg [.str kV,.nilS,.nilS],.bool false])(c2:aL Tryz.prog 6 [ae f' ⟨x.a,y.gap,y.rows⟩,.int .i64 6] fun r=>r = .tup [aD false false u,.bool true]):
  aL Tryz.prog 4 [ae f x,ae f' y] fun r=>r = .bool true:=by
 simp only[ae,aD,LS,LR]at c1 c2;refine sPx Tryz.func4 rfl rfl ?_;simp -dsimp[Tryz.f4,aJ,ae];refine cPx (c1) (by simp) ?_;simp -dsimp[];refine cPx (c2) (by simp) ?_;simp -dsimp[];refine cPx (cO) (by simp) ?_;simp -dsimp[];refine cPx (cO) (by simp) ?_;simp -dsimp[]
theorem law_rn2(x y:Rcp)(f f':Bool)(t u:Tb)(c1:aL Tryz.prog 6 [ae f x,.int .i64 6] fun r=>r = .tup [.agg [.str kV,.nilS,.nilS],.bool false])(c2:aL Tryz.prog 6 [ae f' ⟨x.a,y.gap,y.rows⟩,.int .i64 6] fun r=>r = .tup [.agg [.str kV,.nilS,.nilS],.bool false]):
  aL Tryz.prog 4 [ae f x,ae f' y] fun r=>r = .bool true:=by
 simp only[ae,aD,LS,LR]at c1 c2;refine sPx Tryz.func4 rfl rfl ?_;simp -dsimp[Tryz.f4,aJ,ae];refine cPx (c1) (by simp) ?_;simp -dsimp[];refine cPx (c2) (by simp) ?_;simp -dsimp[];refine cPx (cO) (by simp) ?_;simp -dsimp[];refine cPx (cO) (by simp) ?_;simp -dsimp[]
theorem law_rn3(x y:Rcp)(f f':Bool)(t u:Tb)(c1:aL Tryz.prog 6 [ae f x,.int .i64 6] fun r=>r = .tup [aD false false t,.bool true])(c2:aL Tryz.prog 6 [ae f' ⟨x.a,y.gap,y.rows⟩,.int .i64 6] fun r=>r = .tup [.agg [.str kV,.nilS,.nilS],.bool false]):
  aL Tryz.prog 4 [ae f x,ae f' y] fun r=>r = .bool true:=by
 simp only[ae,aD,LS,LR]at c1 c2;refine sPx Tryz.func4 rfl rfl ?_;simp -dsimp[Tryz.f4,aJ,ae];refine cPx (c1) (by simp) ?_;simp -dsimp[];refine cPx (c2) (by simp) ?_;simp -dsimp[];refine cPx (cO) (by simp) ?_;simp -dsimp[];refine cPx (cO) (by simp) ?_;simp -dsimp[]
theorem lawRound(x y:Rcp)(f f':Bool)(ha:0≤x.a∧x.a<256)(hg:0≤x.gap)(hg':0≤y.gap)(hc:∀r∈x.rows,r.length≤9223372036854775807)(hc':∀r∈y.rows,r.length≤9223372036854775807):
  aL Tryz.prog 4 [ae f x,ae f' y] fun r=>r = .bool true:=by
 have c1:=table03 x f ha hg hc;have c2:=table03 ⟨x.a,y.gap,y.rows⟩ f' ha hg' hc';by_cases h1:x.rows.length≤6
 ·rw[if_pos h1]at c1;by_cases h2:y.rows.length≤6
  ·rw[if_pos (by exact h2)]at c2;obtain⟨q1,q2⟩:=tbOf_ok (x:=x) ⟨ha,hg,h1,hc⟩;obtain⟨q3,q4⟩:=tbOf_ok (x:=⟨x.a,y.gap,y.rows⟩) ⟨ha,hg',h2,hc'⟩;exact law_rnd x y f f' _ _ ⟨tbL_of q1 q2,tbL_of q3 q4,q2,q4,q1.sz,q3.sz,rfl,rfl,q1.few,q3.few⟩ rfl c1 c2
  ·rw[if_neg (by exact h2)]at c2;exact law_rn3 x y f f' _ (gJ y) c1 c2
 ·rw[if_neg h1]at c1;by_cases h2:y.rows.length≤6
  ·rw[if_pos (by exact h2)]at c2;exact law_rn1 x y f f' (gJ y) _ c1 c2
  ·rw[if_neg (by exact h2)]at c2;exact law_rn2 x y f f' (gJ y) (gJ y) c1 c2
end
end Go.Proofs.YtpedcgdgjoblkaaGreatDoor
