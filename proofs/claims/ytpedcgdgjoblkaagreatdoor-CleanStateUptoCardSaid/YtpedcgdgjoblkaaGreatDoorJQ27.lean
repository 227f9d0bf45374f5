/- JQ27: own texts of this seat, joined and shortened by pack4.py: ST6. -/
import Derived.Test.YtpedcgdgjoblkaaGreatDoorJQ16
import Derived.Test.YtpedcgdgjoblkaaGreatDoorJQ22
import Derived.Test.YtpedcgdgjoblkaaGreatDoorJQ26
set_option linter.unusedVariables false
set_option linter.unusedSimpArgs false
set_option maxRecDepth 100000
set_option maxHeartbeats 64000000
open Bool renaming and_eq_true→cg
open List renaming replicate→ba,not_mem_nil→dk,mem_cons→ed,nil_append→ld,set_cons_zero→pG,set_cons_succ→pH
namespace Go.Proofs.YtpedcgdgjoblkaaGreatDoor
section
open Go Go.AM
theorem wce{P:Program}{f:FuncId}{args:List V}{H H0:List B}{r0:V}{K:V→List B→Prop}(h:aZ P f args H fun r H'=>r=r0∧H'=H0)(hk:K r0 H0):aI P (.fn f []) args H K :=
 wcm h fun _ _ hh=>hh.1▸hh.2▸hk
def txC(t:Tb):List Tx:=[⟨true,[ef t]⟩]
theorem stP_c(t:Tb):StP (LTb false [t]) .nilS .nilS ((txC t).map bZ):=⟨by simp,by simp,by simp,by simp[txC],rfl,rfl,rfl,by simp[txC,bZ,V.cells,V.one]⟩
theorem same_e:aE Tryz.prog 40 [.lst 11 false (([]:List Ch).map (ax false false)),.nilS] fun r=>r = .bool true:=by
 refine sPx Tryz.func40 rfl rfl ?_;simp -dsimp[Tryz.f40,ba];refine aR (W_loopM 27 0x7fff830 (by simp[mB]<;>rfl) (σ:=Unit) (fun _=>True) (fun _=>0) (fun _=>[(5,.int .i64 0)]) (fun _=>[]) () trivial (by simp) rfl (by simp) ?_);rintro⟨⟩ _ N Q hN hQ;refine wx ?_;simp -dsimp[];refine hQ _ _ _ ?_;simp -dsimp[]
def stC(t:Tb)(L:Nat)(o:Bool):B:=stB (LTb false [t]) (.buf L 0 1 1) .nilS o .nilS
def dnC(t:Tb):B:=dnS ((txC t).map bZ)
theorem beg_l(t:Tb)(f g:Bool)(h:TbL t)(hv:aQ t=0)(G0 G1:B):aZ Tryz.prog 8 [aF f g t] [G0,G1] fun r H'=>r = .tup [.ptr 3 0,.bool true]∧H'=[G0,G1,.cells [.str t.name,.lst 1 f (t.attrs.map V.str),.lst 2 g (t.rows.map aT)],stC t 4 false,dnC t]:=by
 have c1:=fun H=>new_s H
 have c2:=lift12 (H:=[G0,G1,.cells [.str t.name,.lst 1 f (t.attrs.map V.str),.lst 2 g (t.rows.map aT)],stB .nilS .nilS .nilS false .nilS]) (k:=3) (B0:=stB .nilS .nilS .nilS false .nilS) (args:=[.ptr 3 0,aF f g t]) (D0:=stC t 4 false) (D1:=dnC t) (create_s t f g h hv) rfl (ren_st0 (by simp) (by simp) (by simp) (by simp) rfl rfl rfl rfl) (ren_st (g:=g12 3 4) (n:=2) (m:=1) (o:=false) (by omega) (by simp) (by simp) (by simp) rfl rfl rfl) (ren_dn (by simp)) rfl (fun i a b ha hb=>by
  match i with
  | 0=>simp at ha hb;subst ha;subst hb;exact .ptr 0 0 (by omega)
  | 1=>simp at ha hb;subst ha;subst hb;exact .pure _ (by simp)
  | i+2=>simp at ha) (by simp)
 simp only[aF,LS,LR,pG,pH,List.cons_append,ld]at c2;refine aK tok Tryz.func8 rfl rfl ?_;refine wx ?_;simp -dsimp[Tryz.f8,ba,aF,LS,LR];refine wcm (c1 _) ?_;rintro r H' ⟨rfl,rfl⟩;simp -dsimp[];refine wcm c2 ?_;rintro r H' ⟨rfl,rfl⟩;simp -dsimp[]
theorem ofT_name{x:Rcp}{rs:List Rul}{ws:List Int}(h:ofB4 x rs=true):(ofT x).name=⟨#[114]⟩:=by
 unfold ofB4 at h;rw[cg,cg,decide_eq_true_iff]at h;unfold ofT;rw[if_pos h.1.1];rfl
theorem ofT_ok{x:Rcp}{rs:List Rul}{ws:List Int}(h:C4Ok x rs ws)(hb:ofB4 x rs=true):TbS (ofT x)∧aQ (ofT x)=0:=by
 unfold ofB4 at hb;rw[cg,cg,decide_eq_true_iff]at hb;unfold ofT;rw[if_pos hb.1.1];exact tbOf_ok ⟨h.a,h.gap,hb.1.1,h.len⟩
theorem tbL_of{t:Tb}(h:TbS t)(hv:aQ t=0):TbL t:=⟨h.ok,by have:=(tbC hv).wide;omega,by have:=h.few;omega,fun r hr=>by have:=(tbC hv).len r hr;have:=(tbC hv).wide;omega⟩
theorem is_c(t:Tb)(h:TbL t)(hz:∀r∈t.rows,∀v∈r.vals,v.s.size≤maxLen):aZ Tryz.prog 12 [.ptr 0 0,aF false false t,aF false false t,.nilS] [stC t 1 false,dnC t] fun r H'=>r = .bool true∧H'=[stC t 1 false,dnC t] :=
 is_true t t (txC t) [] false false false false false .nilS .nilS .nilS false rfl (by simp[txC]) (by simp[txC,jrL]) (fun x hx c hc=>by
  simp[txC]at hx;subst hx;simp at hc;subst hc
  exact⟨h,by simp[ef]⟩) h hz hz (by simp) (stP_c t) same_e
theorem law_open(t:Tb)(nm:ByteArray)(h:TbL t)(hv:aQ t=0)(hz:∀r∈t.rows,∀v∈r.vals,v.s.size≤maxLen)(hcb:gb nm (stC t 1 true) (dnC t) 16)
  (x:Rcp) (rs:List Rul) (ws:List Int) (f f2 f3:Bool) (L W:V) (hL:AM.Pure L) (hW:AM.Pure W)
  (c1:aE Tryz.prog 17 [bL f f2 f3 x rs ws] fun r=>r = .tup [aF false false t,L,W,.bool true]):aE Tryz.prog 5 [bL f f2 f3 x rs ws,.bool true,.str nm] fun r=>r = .bool true:=by
 have he:¬(16:Int)=0:=by decide
 have p:=stP_c t
 have hLW:∀a∈[V.str nm,L,W,.int .i64 10000],AM.Pure a:=fun a ha=>by
  simp only[ed,dk,or_false]at ha
  rcases ha with rfl | rfl | rfl | rfl
  ·simp
  ·exact hL
  ·exact hW
  ·simp
 have b1:=fun G0 G1=>beg_l t false false h hv G0 G1
 have s1:=fun G0 G1 G2=>bX (H:=[G0,G1,G2,stC t 4 true,dnC t]) (k:=3) (L:=4) (del_err (o:=true) p hcb he L W 10000) p hLW (by simp[z64]) (by decide) rfl rfl
 have s2:=fun G0 G1 G2 G5=>bX (H:=[G0,G1,G2,stC t 4 true,dnC t,G5]) (k:=3) (L:=4) (upd_err (o:=true) p hcb he .nilS 20000) p (by simp) (by simp[z70]) (by decide) rfl rfl
 have s3:=fun G0 G1 G2 G5 G6=>bX (H:=[G0,G1,G2,stC t 4 true,dnC t,G5,G6]) (k:=3) (L:=4) (mrg_err (o:=true) p hcb he) p (by simp) (by simp[z75]) (by decide) rfl rfl
 have s4:=fun G0 G1 G2 G5 G6 G7=>bX (H:=[G0,G1,G2,stC t 4 true,dnC t,G5,G6,G7]) (k:=3) (L:=4) (app_err (o:=true) p hcb he) p (by simp) (by simp) (by decide) rfl rfl
 have s5:=fun G0 G1 G2 G5 G6 G7=>bX (H:=[G0,G1,G2,stC t 4 false,dnC t,G5,G6,G7]) (k:=3) (L:=4) (is_c t h hz) p (by simp) (by simp) (by decide) rfl rfl
 have t1:=fun G0 G1 G2=>gE (H:=[G0,G1,G2,stC t 4 false,dnC t]) (k:=3) (L:=4) (begin0 (LTb false [t]) (.buf 1 0 1 1) .nilS .nilS (dnC t)) p p (by simp) (by simp) (by decide) rfl rfl
 have t2:=fun G0 G1 G2 G5 G6 G7=>gE (H:=[G0,G1,G2,stC t 4 true,dnC t,G5,G6,G7]) (k:=3) (L:=4) (commitN (LTb false [t]) (.buf 1 0 1 1) .nilS (dnC t)) p p (by simp) (by simp) (by decide) rfl rfl
 have u1:∀o,stB (LTb false [t]) (.buf 4 0 1 1) .nilS o .nilS=stC t 4 o:=fun _=>rfl
 have u2:dnS ((txC t).map bZ)=dnC t:=rfl;simp only[u1,u2]at t1 t2;clear hcb;obtain⟨S,hS⟩:∃S,S=stC t 4 false:=⟨_,rfl⟩;obtain⟨S1,hS1⟩:∃S,S=stC t 4 true:=⟨_,rfl⟩;obtain⟨D,hD⟩:∃D,D=dnC t:=⟨_,rfl⟩;simp only[←hS,←hS1,←hD,aF,LS,LR,bL,bD,pG,pH]at *;refine sPx Tryz.func5 rfl rfl ?_;simp -dsimp[Tryz.f5,ba,bL,bD];refine cPx (c1) (by simp) ?_;simp -dsimp[];refine cPx (cj) (by simp) ?_;simp -dsimp[];refine wcm (b1 _ _) ?_;rintro r H' ⟨rfl,rfl⟩;simp -dsimp[];refine wcm (t1 _ _ _) ?_;rintro r H' ⟨rfl,rfl⟩;simp -dsimp[];refine wcm (s1 _ _ _) ?_;rintro r H' ⟨rfl,rfl⟩;simp -dsimp[z64];refine wcm (s2 _ _ _ _) ?_;rintro r H' ⟨rfl,rfl⟩;simp -dsimp[z70];refine wcm (s3 _ _ _ _ _) ?_;rintro r H' ⟨rfl,rfl⟩;simp -dsimp[z75];refine wcm (s4 _ _ _ _ _ _) ?_;rintro r H' ⟨rfl,rfl⟩;simp -dsimp[];refine wcm (t2 _ _ _ _ _ _) ?_;rintro r H' ⟨rfl,rfl⟩;simp -dsimp[];refine wcm (s5 _ _ _ _ _ _) ?_;rintro r H' ⟨rfl,rfl⟩;simp -dsimp[]
theorem law_none(t:Tb)(nm:ByteArray)(h:TbL t)(hv:aQ t=0)(hz:∀r∈t.rows,∀v∈r.vals,v.s.size≤maxLen)(hcb:gb nm (stC t 1 false) (dnC t) 4)(hne:(nm.toList == [114])=false)
  (x:Rcp) (rs:List Rul) (ws:List Int) (f f2 f3:Bool) (L W:V) (hL:AM.Pure L) (hW:AM.Pure W)
  (c1:aE Tryz.prog 17 [bL f f2 f3 x rs ws] fun r=>r = .tup [aF false false t,L,W,.bool true]):aE Tryz.prog 5 [bL f f2 f3 x rs ws,.bool false,.str nm] fun r=>r = .bool true:=by
 have he:¬(4:Int)=0:=by decide
 have p:=stP_c t
 have hLW:∀a∈[V.str nm,L,W,.int .i64 10000],AM.Pure a:=fun a ha=>by
  simp only[ed,dk,or_false]at ha
  rcases ha with rfl | rfl | rfl | rfl
  ·simp
  ·exact hL
  ·exact hW
  ·simp
 have b1:=fun G0 G1=>beg_l t false false h hv G0 G1
 have s1:=fun G0 G1 G2=>bX (H:=[G0,G1,G2,stC t 4 false,dnC t]) (k:=3) (L:=4) (del_err (o:=false) p hcb he L W 10000) p hLW (by simp[z64]) (by decide) rfl rfl
 have s2:=fun G0 G1 G2 G5=>bX (H:=[G0,G1,G2,stC t 4 false,dnC t,G5]) (k:=3) (L:=4) (upd_err (o:=false) p hcb he .nilS 20000) p (by simp) (by simp[z70]) (by decide) rfl rfl
 have s3:=fun G0 G1 G2 G5 G6=>bX (H:=[G0,G1,G2,stC t 4 false,dnC t,G5,G6]) (k:=3) (L:=4) (mrg_err (o:=false) p hcb he) p (by simp) (by simp[z75]) (by decide) rfl rfl
 have s4:=fun G0 G1 G2 G5 G6 G7=>bX (H:=[G0,G1,G2,stC t 4 false,dnC t,G5,G6,G7]) (k:=3) (L:=4) (app_err (o:=false) p hcb he) p (by simp) (by simp) (by decide) rfl rfl
 have s5:=fun G0 G1 G2 G5 G6 G7=>bX (H:=[G0,G1,G2,stC t 4 false,dnC t,G5,G6,G7]) (k:=3) (L:=4) (is_c t h hz) p (by simp) (by simp) (by decide) rfl rfl
 clear hcb;obtain⟨S,hS⟩:∃S,S=stC t 4 false:=⟨_,rfl⟩;obtain⟨S1,hS1⟩:∃S,S=stC t 4 true:=⟨_,rfl⟩;obtain⟨D,hD⟩:∃D,D=dnC t:=⟨_,rfl⟩;simp only[←hS,←hS1,←hD,aF,LS,LR,bL,bD,pG,pH]at *;refine sPx Tryz.func5 rfl rfl ?_;simp -dsimp[Tryz.f5,ba,bL,bD];refine cPx (c1) (by simp) ?_;simp -dsimp[];refine cPx (cj) (by simp) ?_;simp -dsimp[];refine wcm (b1 _ _) ?_;rintro r H' ⟨rfl,rfl⟩;simp -dsimp[hne];refine wcm (s1 _ _ _) ?_;rintro r H' ⟨rfl,rfl⟩;simp -dsimp[z64];refine wcm (s2 _ _ _ _) ?_;rintro r H' ⟨rfl,rfl⟩;simp -dsimp[z70];refine wcm (s3 _ _ _ _ _) ?_;rintro r H' ⟨rfl,rfl⟩;simp -dsimp[z75];refine wce (s4 _ _ _ _ _ _) ?_;simp -dsimp[];refine wcm (s5 _ _ _ _ _ _) ?_;rintro r H' ⟨rfl,rfl⟩;simp -dsimp[]
theorem law_r(t:Tb)(nm:ByteArray)(h:TbL t)(hv:aQ t=0)(hne:(nm.toList == [114])=true)
  (x:Rcp) (rs:List Rul) (ws:List Int) (f f2 f3:Bool) (L W:V) (hL:AM.Pure L) (hW:AM.Pure W)
  (c1:aE Tryz.prog 17 [bL f f2 f3 x rs ws] fun r=>r = .tup [aF false false t,L,W,.bool true]):aE Tryz.prog 5 [bL f f2 f3 x rs ws,.bool false,.str nm] fun r=>r = .bool true:=by
 have b1:=fun G0 G1=>beg_l t false false h hv G0 G1
 simp only[aF,LS,LR,bL,bD]at *;refine sPx Tryz.func5 rfl rfl ?_;simp -dsimp[Tryz.f5,ba,bL,bD];refine cPx (c1) (by simp) ?_;simp -dsimp[];refine cPx (cj) (by simp) ?_;simp -dsimp[];refine wcm (b1 _ _) ?_;rintro r H' ⟨rfl,rfl⟩;simp -dsimp[hne]
theorem law_no(t:Tb)(nm:ByteArray)(o:Bool)(x:Rcp)(rs:List Rul)(ws:List Int)(f f2 f3:Bool)(L W:V)(hL:AM.Pure L)(hW:AM.Pure W)
  (c1:aE Tryz.prog 17 [bL f f2 f3 x rs ws] fun r=>r = .tup [aF false false t,L,W,.bool false]):aE Tryz.prog 5 [bL f f2 f3 x rs ws,.bool o,.str nm] fun r=>r = .bool true:=by
 simp only[aF,LS,LR,bL,bD]at *;refine sPx Tryz.func5 rfl rfl ?_;simp -dsimp[Tryz.f5,ba,bL,bD];refine cPx (c1) (by simp) ?_;simp -dsimp[];refine cPx (cj) (by simp) ?_;simp -dsimp[];refine cPx (cj) (by simp) ?_;simp -dsimp[]
theorem lawState(x:Rcp)(rs:List Rul)(ws:List Int)(o:Bool)(nm:ByteArray)(f f2 f3:Bool)(h:C4Ok x rs ws):aE Tryz.prog 5 [bL f f2 f3 x rs ws,.bool o,.str nm] fun r=>r = .bool true:=by
 have c1:=of_41 x rs ws f f2 f3 h
 cases hB:ofB4 x rs with
 | false =>
  rw[hB]at c1;exact law_no _ nm o x rs ws f f2 f3 _ _ (by simp) (by simp) c1
 | true =>
  rw[hB]at c1;obtain⟨q1,q2⟩:=ofT_ok h hB;have q3:=tbL_of q1 q2;have q4:=ofT_name (ws:=ws) hB
  cases o with
  | true=>exact law_open _ nm q3 q2 q1.sz (cbeg_open nm _ _ _ _ (stP_c _)) x rs ws f f2 f3 _ _ (by simp) (by simp) c1
  | false =>
   cases hn:(nm.toList == [114]) with
   | true=>exact law_r _ nm q3 q2 hn x rs ws f f2 f3 _ _ (by simp) (by simp) c1
   | false=>exact law_none _ nm q3 q2 q1.sz (cbeg_none nm _ _ _ _ q3 (by
     rw[q4];rw[Bool.eq_false_iff]at hn ⊢;intro e;apply hn;rw[beq_iff_eq]at e ⊢;rw[←e]
     first | exact(show(⟨#[114]⟩:ByteArray).toList=[114] from by decide) | exact(show(⟨#[114]⟩:ByteArray).toList=[114] from by kernel_rfl) | exact(show(⟨#[114]⟩:ByteArray).toList=[114] from by simp)) (stP_c _)) hn x rs ws f f2 f3 _ _ (by simp) (by simp) c1
end
end Go.Proofs.YtpedcgdgjoblkaaGreatDoor
