/- JS13: own texts of this seat, joined by pack2.py: SC8, H8, H9, H10, Ag, H11, H12, SC6. -/
import Derived.Test.YtjogkbekekdkjaaGreatDoorJS12
set_option linter.unusedVariables false
set_option linter.unusedSimpArgs false
set_option maxRecDepth 100000
set_option maxHeartbeats 64000000
namespace Go.Proofs.YtjogkbekekdkjaaGreatDoor
section
open Go Go.AM
theorem butL_take {D:List Int} {a:Int} {i:Nat} (h:i<D.length):butL (D.take (i+1)) a=if D[i]=a then butL (D.take i) a else butL (D.take i) a++[D[i]]:=by
 unfold butL
 rw [List.take_succ_eq_append_getElem h,List.filter_append]
 split
 ·rename_i he; rw [List.filter_cons_of_neg (by simp [he])]; simp
 ·rename_i he; rw [List.filter_cons_of_pos (by simp [he])]; rfl
theorem without_41 (D:List Int) (a:Int) (fd:Bool) (hD:D.length≤1000000):ConP Tryz.prog 49 [L1 fd D,.int .i64 a] fun r=>r=L1 false (butL D a):=by
 refine conP_of_conH (conH_of_W tok Tryz.func49 rfl rfl ?_)
 refine wx ?_
 simp -implicitDefEqProofs -dsimp [Tryz.f49,List.replicate,L1]
 refine lw_of (W_own 2 1 [5] (by simp) (W_loopM 26 [5,6,7,8,9,10,11,12,13,14,15,16,17,18,19,20,21,22,23,24,25] (by simp [mB]<;>rfl) (σ:=Nat) (fun i=>i≤D.length) (fun i=>D.length - i) (fun i=>[(6,.int .i64 i),(5,.buf 0 0 (butL (D.take i) a).length (butL (D.take i) a).length)]) (fun i=>[B.buf 2 1 ((butL (D.take i) a).map encI) false]) 0 (by omega) (by simp [butL]) (by simp [butL]) (by simp) ?_))
 intro i hi N Q hN hQ
 have hll:(butL (D.take i) a).length≤i:=Nat.le_trans (butL_len _ _) (by simp; omega)
 have hrb:∀l:List Int,∀bl∈[B.buf 2 1 (l.map encI) false],rbB 1 bl:=fun l bl hbl=>by
  simp only [List.mem_cons,List.not_mem_nil,or_false] at hbl
  subst hbl
  exact intB_rb _ _ _ _
 by_cases hb:i<D.length
 ·have hs:=butL_take (a:=a) hb
  obtain ⟨x,hx⟩:∃x,x=D[i]:=⟨_,rfl⟩
  obtain ⟨l,hl⟩:∃l,l=butL (D.take i) a:=⟨_,rfl⟩
  rw [←hx,←hl] at hs
  rw [←hl] at hll ⊢
  by_cases hxa:x=a
  ·rw [if_pos hxa] at hs
   refine wx ?_
   simp -implicitDefEqProofs -dsimp [hb,hx.symm,encI,hxa,wrapS i (by omega)]
   refine hN (i+1) _ _ (by omega) (by omega) (by simp [hs]) ⟨[],by simp [hs]⟩ (by simp) (hrb _)
  ·rw [if_neg hxa] at hs
   refine wx ?_
   simp -implicitDefEqProofs -dsimp [hb,hx.symm,encI,hxa,cap8 l.length (by omega),wrapN l.length (by omega),wrapS i (by omega)]
   refine hN (i+1) _ _ (by omega) (by omega) (by simp [hs]) ⟨[],by simp [hs,encI]⟩ (by simp) (hrb _)
 ·obtain rfl:i=D.length:=by omega
  rw [List.take_length]
  refine wx ?_
  simp -implicitDefEqProofs -dsimp [hb]
  refine hQ _ _ _ ?_
  simp -implicitDefEqProofs -dsimp []
  exact exp_buf rfl (by simp) (by simp [encI])
def rsL (D:List Int) (I:List Int):List Int:=I.filter fun a=>!memB D a
theorem rsL_take {D:List Int} {R:List Rw} {i:Nat} (h:i<R.length):rsL D (idsR (R.take (i+1)))=if memB D R[i].id=true then rsL D (idsR (R.take i)) else rsL D (idsR (R.take i))++[R[i].id]:=by
 unfold rsL idsR
 rw [List.take_succ_eq_append_getElem h,List.map_append,List.filter_append]
 split
 ·rename_i he; rw [List.map_cons,List.filter_cons_of_neg (by simp [he])]; simp
 ·rename_i he; rw [List.map_cons,List.filter_cons_of_pos (by simp [he])]; rfl
theorem rsL_len (D I:List Int):(rsL D I).length≤I.length:=List.length_filter_le _ _
theorem rest_41 (t:Tb) (D:List Int) (f g fd:Bool) (ha:t.attrs.length≤1000000) (hr:t.rows.length≤1000000) (hv:∀r∈t.rows,r.vals.length≤1000000) (hD:D.length≤1000000):ConP Tryz.prog 90 [encTb f g t,L1 fd D] fun r=>r=encTb false false (kT (restL t D) t):=by
 have htr:∀n,rbB n (tcB t f g):=fun n=>tcB_rb n t f g
 have hrl:(restL t D).length≤1000000:=by
  unfold restL
  exact Nat.le_trans (List.length_filter_le _ _) (by rw [idsR_len]; exact hr)
 have ck:=keep03 t (restL t D) f g false ha hr hv hrl
 have hK:restL t D=rsL D (idsR t.rows):=rfl
 obtain ⟨KT,hKT⟩:∃KT,KT=kT (restL t D) t:=⟨_,rfl⟩
 rw [←hKT] at ck ⊢
 rw [hK] at ck
 obtain ⟨R,hR⟩:∃R,R=t.rows:=⟨_,rfl⟩
 rw [←hR] at ck hr
 have htB2:tcB t f g=B.cells [.str t.name,.lst 1 f (t.attrs.map V.str),.lst 2 g (R.map encRw)]:=by rw [hR]; rfl
 have hrb:∀l:List Int,∀bl∈[tcB t f g,B.cells [.str ByteArray.empty,.nilS,.nilS],B.buf 2 1 (l.map encI) false],rbB 3 bl:=fun l bl hbl=>by
  simp only [List.mem_cons,List.not_mem_nil,or_false] at hbl
  rcases hbl with rfl | rfl | rfl
  ·exact htr _
  ·intro c hc; simp only [List.mem_cons,List.not_mem_nil,or_false] at hc; rcases hc with rfl | rfl | rfl<;>simp [rb,rb1]
  ·exact intB_rb _ _ _ _
 simp only [encTb,LS,LR,L1] at ck
 rw [←hR] at ck
 refine conP_of_conH (conH_of_W tok Tryz.func90 rfl rfl ?_)
 refine wx ?_
 simp -implicitDefEqProofs -dsimp [Tryz.f90,List.replicate,encTb,LS,LR,L1,hR.symm]
 rw [←htB2]
 refine lw_of (W_own 2 1 [5] (by simp) (W_loopM 32 [5,6,7,8,9,10,11,12,13,14,15,16,17,18,19,20,21,22,23,24,25,26,27,28,29,30,31] (by simp [mB]<;>rfl) (σ:=Nat×List Int) (fun p=>p.1≤R.length∧p.2=rsL D (idsR (R.take p.1))) (fun p=>R.length - p.1) (fun p=>[(6,.int .i64 p.1),(5,.buf 2 0 p.2.length p.2.length)]) (fun p=>[tcB t f g,B.cells [.str ByteArray.empty,.nilS,.nilS],B.buf 2 1 (p.2.map encI) false]) (0,[]) ⟨by omega,rfl⟩ (by simp) (by simp) (by simp) ?_))
 rintro ⟨i,out⟩ ⟨hi,hx⟩ N Q hN hQ
 simp only at hi hx
 have hol:out.length≤i:=by
  rw [hx]
  refine Nat.le_trans (rsL_len _ _) ?_
  rw [idsR_len]; simp; omega
 by_cases hb:i<R.length
 ·have hsu:=rsL_take (D:=D) hb
  obtain ⟨r,hre⟩:∃r,r=R[i]:=⟨_,rfl⟩
  rw [←hre,←hx] at hsu
  have ch:=has03 D r.id fd hD
  simp only [L1] at ch
  cases hm:memB D r.id with
  | true =>
   rw [hm] at ch
   rw [if_pos hm] at hsu
   refine wx ?_
   simp -implicitDefEqProofs -dsimp [htB2,hb,hre.symm,encRw,LV]
   refine (callP (ch) (by simp)).mono ?_
   rintro r H' ⟨rfl,rfl⟩
   simp -implicitDefEqProofs -dsimp [wrapS i (by omega)]
   refine hN (i+1,out) _ _ ⟨by simp only; omega,hsu.symm⟩ (by simp only; omega) (by simp) ⟨[],by simp [htB2]⟩ (by simp) (hrb _)
  | false =>
   rw [hm] at ch
   rw [if_neg (by simp [hm])] at hsu
   refine wx ?_
   simp -implicitDefEqProofs -dsimp [htB2,hb,hre.symm,encRw,LV]
   refine (callP (ch) (by simp)).mono ?_
   rintro r H' ⟨rfl,rfl⟩
   simp -implicitDefEqProofs -dsimp [hb,hre.symm,encRw,LV,cap8 out.length (by omega),wrapN out.length (by omega),wrapS i (by omega)]
   refine hN (i+1,out++[r.id]) _ _ ⟨by simp only; omega,hsu.symm⟩ (by simp only; omega) (by simp) ⟨[],by simp [htB2,encI]⟩ (by simp) (hrb _)
 ·obtain rfl:i=R.length:=by omega
  rw [List.take_of_length_le (by omega)] at hx
  subst hx
  refine W_frz 2 [5] rfl (by simp) ?_
  refine wx ?_
  simp -implicitDefEqProofs -dsimp [htB2,hb]
  refine hQ _ _ _ ?_
  simp -implicitDefEqProofs -dsimp []
  refine (callP (ck) (by simp)).mono ?_
  rintro r H' ⟨rfl,rfl⟩
  simp -implicitDefEqProofs -dsimp [encTb,LS,LR]
def cleanF (t:Tb) (cs:List Cn) (i:Nat):Bool:=if h:i<cs.length then (if cnR t cs[i]=[] then cleanF t cs (i+1) else false) else true
termination_by cs.length - i
theorem cleanF_iff (t:Tb) (cs:List Cn) (i:Nat):cleanF t cs i=true↔∀c∈cs.drop i,cnR t c=[]:=by
 fun_induction cleanF t cs i with
 | case1 i h h0 ih=>rw [List.drop_eq_getElem_cons h,List.forall_mem_cons,ih]; simp [h0]
 | case2 i h h0=>rw [List.drop_eq_getElem_cons h,List.forall_mem_cons]; simp [h0]
 | case3 i h=>rw [List.drop_of_length_le (by omega)]; simp
theorem cleanF_hit {t:Tb} {cs:List Cn} (hb:BdOk t cs) (h0:buildErr t cs=0) (D:List Int):cleanF (kT (restL t D) t) cs 0=hitB (edgesF (allR t cs)) D:=by
 obtain ⟨h1,_,h3⟩:=build_ok h0
 rw [Bool.eq_iff_iff,cleanF_iff,List.drop_zero,clean_iff (tbC h1) h3]
theorem clean_41 (t:Tb) (cs:List Cn) (D:List Int) (f g fc fd:Bool) (hb:BdOk t cs) (hs:TbS t) (h0:buildErr t cs=0) (hD:D.length≤1000000):ConP Tryz.prog 48 [encTb f g t,LCn fc cs,L1 fd D] fun r=>r = .bool (hitB (edgesF (allR t cs)) D):=by
 rw [←cleanF_hit hb h0 D]
 obtain ⟨h1,_,h3⟩:=build_ok h0
 have g1:=tbC h1
 have h8:=rows8 hb h0
 have cr:=rest_41 t D f g fd (by have:=g1.wide; omega) (by omega) (fun r hr=>by have:=g1.len r hr; have:=g1.wide; omega) hD
 have hk:=tbS_kT (K:=restL t D) hs
 have hvk:=validT_kT (K:=restL t D) h1
 have h3k:∀c∈cs,cnErr (kT (restL t D) t) c=0:=fun c hc=>by rw [cnErr_kT]; exact h3 c hc
 obtain ⟨KT,hKT⟩:∃KT,KT=kT (restL t D) t:=⟨_,rfl⟩
 rw [←hKT] at cr hk hvk h3k ⊢
 obtain ⟨X,hX⟩:∃X,X=cleanF KT cs 0:=⟨_,rfl⟩
 rw [←hX]
 have htr:∀n f g t,rbB n (tcB t f g):=fun n f g t=>tcB_rb n t f g
 have htB:∀(t:Tb) f g,B.cells [.str t.name,.lst 1 f (t.attrs.map V.str),.lst 2 g (t.rows.map encRw)]=tcB t f g:=fun _ _ _=>rfl
 simp only [encTb,LS,LR,L1] at cr
 refine conP_of_conH (conH_of_W tok Tryz.func48 rfl rfl ?_)
 refine wx ?_
 simp -implicitDefEqProofs -dsimp [Tryz.f48,List.replicate,encTb,LS,LR,LCn,L1]
 refine (callP (cr) (by simp)).mono ?_
 rintro r H' ⟨rfl,rfl⟩
 simp -implicitDefEqProofs -dsimp [htB]
 refine lw_of (W_loopM 32 [6,8,9,10,14,15,16,17,18,19,20,21,22,23,24,25,26,27,28,29,30,31] (by simp [mB]<;>rfl) (σ:=Nat) (fun i=>i≤cs.length∧cleanF KT cs i=X) (fun i=>cs.length - i) (fun i=>[(8,.int .i64 i)]) (fun _=>[tcB t f g,tcB KT false false]) 0 ⟨by omega,hX.symm⟩ (by simp) (by simp) (by simp) ?_)
 have hfew:=hb.few
 rintro i ⟨hi,hx⟩ N Q hN hQ
 have hrb:∀bl∈[tcB t f g,tcB KT false false],rbB 2 bl:=fun bl hbl=>by
  simp only [List.mem_cons,List.not_mem_nil,or_false] at hbl
  rcases hbl with rfl | rfl
  ·exact htr _ _ _ _
  ·exact htr _ _ _ _
 by_cases hib:i<cs.length
 ·rw [cleanF,dif_pos hib] at hx
  have hcb:=hb.cns _ (List.getElem_mem hib)
  have hck:=h3k _ (List.getElem_mem hib)
  obtain ⟨c,hce⟩:∃c,c=cs[i]:=⟨_,rfl⟩
  rw [←hce] at hx hcb hck
  have cv:=viol37 KT c false false hk hvk hcb
  rw [hck,show wlV KT c=LL false (cnR KT c) from by unfold wlV; rw [if_pos hck]] at cv
  obtain ⟨w,hw⟩:∃w,w=cnR KT c:=⟨_,rfl⟩
  rw [←hw] at cv hx
  simp only [encTb,LS,LR,encCn,L1,LCl,LA,LL] at cv
  by_cases hw0:w=[]
  ·rw [if_pos hw0] at hx
   subst hw0
   refine wx ?_
   simp -implicitDefEqProofs -dsimp [hib,hce.symm,encCn,L1,LCl,LA,tcB]
   refine .inr ⟨stop_of (by kernel_rfl),?_⟩
   refine cy_of _ (callP (cv) (by simp)) ?_
   simp -implicitDefEqProofs -dsimp [wrapS i (by omega)]
   refine hN (i+1) _ _ ⟨by omega,hx⟩ (by omega) (by simp) ⟨[],by simp [tcB]⟩ (by simp) hrb
  ·rw [if_neg hw0] at hx
   subst hx
   have hwl:=List.length_pos_iff.2 hw0
   refine wx ?_
   simp -implicitDefEqProofs -dsimp [hib,hce.symm,encCn,L1,LCl,LA,tcB]
   refine .inr ⟨stop_of (by kernel_rfl),?_⟩
   refine cy_of _ (callP (cv) (by simp)) ?_
   simp -implicitDefEqProofs -dsimp [hw0,hwl,show (0:Int)<w.length by omega]
   refine hQ _ _ _ ?_
   simp -implicitDefEqProofs -dsimp []
 ·rw [cleanF,dif_neg hib] at hx
  subst hx
  refine wx ?_
  simp -implicitDefEqProofs -dsimp [hib]
  refine hQ _ _ _ ?_
  simp -implicitDefEqProofs -dsimp []
theorem repairs_r (t:Tb) (cs:List Cn) (D:List Int) (f g fc fd:Bool) (h:BdOk t cs) (hD:D.length≤1000000):ConP Tryz.prog 31 [encTb f g t,LCn fc cs,L1 fd D] fun r=>r = .tup [.bool (rpB t cs D),.int .i64 (blE t cs D)]:=by
 have cb:=build37 t cs f g fc h
 unfold rpB
 by_cases h0:buildErr t cs=0
 ·have he:blE t cs D=plE (idsR t.rows) D:=by unfold blE; rw [if_pos h0]
  have cp:=positions_r t D f g fd (tbC (build_ok h0).1) (by have:=rows8 h h0; omega) hD
  have cc:=clean_41 t cs D f g fc fd h (h.small (rows8 h h0)) h0 hD
  obtain ⟨p,hp,hpv,hps⟩:=plV_err (idsR t.rows) D
  rw [hpv] at cp
  rw [he]
  rw [h0,bdV_yes h0] at cb
  obtain ⟨e,hee⟩:∃e,e=plE (idsR t.rows) D:=⟨_,rfl⟩
  rw [←hee] at cp ⊢
  obtain ⟨b,hbe⟩:∃b,b=hitB (edgesF (allR t cs)) D:=⟨_,rfl⟩
  rw [←hbe] at cc ⊢
  simp only [encTb,LS,LR,LCn,encH,L1,LL] at cb cp cc
  by_cases hez:e=0
  ·rw [if_pos hez]
   subst hez
   rcases hps with rfl | ⟨l,rfl⟩
   ·refine conP_of_conH (conH_of_W tok Tryz.func31 rfl rfl ?_)
    refine wx ?_
    simp -implicitDefEqProofs -dsimp [Tryz.f31,List.replicate,encTb,LS,LR,LCn,L1]
    refine (callP (cb) (by simp)).mono ?_
    rintro r H' ⟨rfl,rfl⟩
    simp -implicitDefEqProofs -dsimp []
    refine (callP (cp) (by simp)).mono ?_
    rintro r H' ⟨rfl,rfl⟩
    simp -implicitDefEqProofs -dsimp []
    refine (callP (cc) (by simp)).mono ?_
    rintro r H' ⟨rfl,rfl⟩
    simp -implicitDefEqProofs -dsimp []
   ·refine conP_of_conH (conH_of_W tok Tryz.func31 rfl rfl ?_)
    refine wx ?_
    simp -implicitDefEqProofs -dsimp [Tryz.f31,List.replicate,encTb,LS,LR,LCn,L1]
    refine (callP (cb) (by simp)).mono ?_
    rintro r H' ⟨rfl,rfl⟩
    simp -implicitDefEqProofs -dsimp []
    refine (callP (cp) (by simp)).mono ?_
    rintro r H' ⟨rfl,rfl⟩
    simp -implicitDefEqProofs -dsimp []
    refine (callP (cc) (by simp)).mono ?_
    rintro r H' ⟨rfl,rfl⟩
    simp -implicitDefEqProofs -dsimp []
  ·rw [if_neg hez]
   rcases hps with rfl | ⟨l,rfl⟩
   ·refine conP_of_conH (conH_of_W tok Tryz.func31 rfl rfl ?_)
    refine wx ?_
    simp -implicitDefEqProofs -dsimp [Tryz.f31,List.replicate,encTb,LS,LR,LCn,L1]
    refine (callP (cb) (by simp)).mono ?_
    rintro r H' ⟨rfl,rfl⟩
    simp -implicitDefEqProofs -dsimp []
    refine (callP (cp) (by simp)).mono ?_
    rintro r H' ⟨rfl,rfl⟩
    simp -implicitDefEqProofs -dsimp [hez]
   ·refine conP_of_conH (conH_of_W tok Tryz.func31 rfl rfl ?_)
    refine wx ?_
    simp -implicitDefEqProofs -dsimp [Tryz.f31,List.replicate,encTb,LS,LR,LCn,L1]
    refine (callP (cb) (by simp)).mono ?_
    rintro r H' ⟨rfl,rfl⟩
    simp -implicitDefEqProofs -dsimp []
    refine (callP (cp) (by simp)).mono ?_
    rintro r H' ⟨rfl,rfl⟩
    simp -implicitDefEqProofs -dsimp [hez]
 ·have he:blE t cs D=buildErr t cs:=by unfold blE; rw [if_neg h0]
  rw [he,if_neg h0]
  rw [bdV_no h0] at cb
  obtain ⟨e,hee⟩:∃e,e=buildErr t cs:=⟨_,rfl⟩
  rw [←hee] at cb h0 ⊢
  simp only [encTb,LS,LR,LCn] at cb
  refine conP_of_conH (conH_of_W tok Tryz.func31 rfl rfl ?_)
  refine wx ?_
  simp -implicitDefEqProofs -dsimp [Tryz.f31,List.replicate,encTb,LS,LR,LCn,L1]
  refine (callP (cb) (by simp)).mono ?_
  rintro r H' ⟨rfl,rfl⟩
  simp -implicitDefEqProofs -dsimp [h0]
def mnF (E:List (List Int)) (D:List Int):Nat→Bool
 | 0=>true
 | i+1=>mnF E D i&&!hitB E (butL D (D.getD i 0))
theorem mnF_all (E:List (List Int)) (D:List Int):∀i,i≤D.length→mnF E D i = !((D.take i).any fun a=>hitB E (butL D a))
 | 0,_=>by simp [mnF]
 | i+1,h=>by
  have hg:D.getD i 0=D[i]:=by simp [List.getD,show i<D.length by omega]
  rw [mnF,mnF_all E D i (by omega),hg,List.take_succ_eq_append_getElem (by omega),List.any_append]
  simp
theorem mnF_stop {E:List (List Int)} {D:List Int} {i:Nat} (h:mnF E D i=false):∀k,mnF E D (i+k)=false
 | 0=>h
 | k+1=>by rw [←Nat.add_assoc,mnF,mnF_stop h k]; rfl
theorem mnF_min {E:List (List Int)} {D:List Int} (h:hitB E D=true):minB E D=mnF E D D.length:=by
 rw [minB_any,h,Bool.true_and,mnF_all E D _ (Nat.le_refl _),List.take_length]
theorem minimal_r (t:Tb) (cs:List Cn) (D:List Int) (f g fc fd:Bool) (h:BdOk t cs) (hD:D.length≤1000000):ConP Tryz.prog 19 [encTb f g t,LCn fc cs,L1 fd D] fun r=>r = .tup [.bool (rmB t cs D),.int .i64 (blE t cs D)]:=by
 have cr:=repairs_r t cs D f g fc fd h hD
 have htr:∀n,rbB n (tcB t f g):=fun n=>tcB_rb n t f g
 have htB:B.cells [.str t.name,.lst 1 f (t.attrs.map V.str),.lst 2 g (t.rows.map encRw)]=tcB t f g:=rfl
 have hrb:∀bl∈[tcB t f g],rbB 1 bl:=fun bl hbl=>by
  simp only [List.mem_cons,List.not_mem_nil,or_false] at hbl
  subst hbl; exact htr _
 by_cases hyes:blE t cs D=0∧hitB (edgesF (allR t cs)) D=true
 ·obtain ⟨hz,hh⟩:=hyes
  obtain ⟨h0,_⟩:=bl_ok hz
  have hrp:rpB t cs D=true:=by unfold rpB; rw [if_pos hz,hh]
  have hrm:rmB t cs D=mnF (edgesF (allR t cs)) D D.length:=by unfold rmB; rw [if_pos hz,mnF_min hh]
  rw [hrp,hz] at cr
  rw [hrm,hz]
  have cc:=fun D' fd' hD'=>clean_41 t cs D' f g fc fd' h (h.small (rows8 h h0)) h0 hD'
  obtain ⟨E,hE⟩:∃E,E=edgesF (allR t cs):=⟨_,rfl⟩
  rw [←hE] at cc ⊢
  simp only [encTb,LS,LR,LCn,L1] at cr
  refine conP_of_conH (conH_of_W tok Tryz.func19 rfl rfl ?_)
  refine wx ?_
  simp -implicitDefEqProofs -dsimp [Tryz.f19,List.replicate,encTb,LS,LR,LCn,L1]
  refine (callP (cr) (by simp)).mono ?_
  rintro r H' ⟨rfl,rfl⟩
  simp -implicitDefEqProofs -dsimp [htB]
  refine lw_of (W_loopM 37 [8,10,18,19,20,21,22,23,24,25,26,27,28,29,30,31,32,33,34,35,36] (by simp [mB]<;>rfl) (σ:=Nat) (fun i=>i≤D.length) (fun i=>D.length - i) (fun i=>[(10,.int .i64 i),(8,.bool (mnF E D i))]) (fun _=>[tcB t f g]) 0 (by omega) (by simp [mnF]) (by simp) (by simp) ?_)
  intro i hi N Q hN hQ
  by_cases hib:i<D.length
  ·have hs:mnF E D (i+1)=(mnF E D i&&!hitB E (butL D D[i])):=by
    have hg:D.getD i 0=D[i]:=by simp [List.getD,hib]
    rw [mnF,hg]
   cases hm:mnF E D i with
   | false =>
    have hst:=mnF_stop hm (D.length - i)
    rw [show i+(D.length - i)=D.length by omega] at hst
    refine wx ?_
    simp -implicitDefEqProofs -dsimp [hib]
    refine hQ _ _ _ ?_
    simp -implicitDefEqProofs -dsimp []
    exact hst
   | true =>
    rw [hm,Bool.true_and] at hs
    obtain ⟨x,hx⟩:∃x,x=D[i]:=⟨_,rfl⟩
    rw [←hx] at hs
    have cw:=without_41 D x fd hD
    have c2:=cc (butL D x) false (by have:=butL_len D x; omega)
    obtain ⟨L,hL⟩:∃L,L=butL D x:=⟨_,rfl⟩
    rw [←hL] at cw c2 hs
    obtain ⟨b,hb⟩:∃b,b=hitB E L:=⟨_,rfl⟩
    rw [←hb] at c2 hs
    simp only [encTb,LS,LR,LCn,L1] at cw c2
    refine wx ?_
    simp -implicitDefEqProofs -dsimp [hib,hx.symm,encI,tcB]
    refine .inr ⟨stop_of (by kernel_rfl),?_⟩
    refine cy_of _ (callP (cw) (by simp)) ?_
    simp -implicitDefEqProofs -dsimp []
    refine cy_of _ (callP (c2) (by simp)) ?_
    simp -implicitDefEqProofs -dsimp [wrapS i (by omega)]
    refine hN (i+1) _ _ (by omega) (by omega) (by simp [hs]) ⟨[],by simp [tcB]⟩ (by simp) hrb
  ·obtain rfl:i=D.length:=by omega
   obtain ⟨b,hb⟩:∃b,b=mnF E D D.length:=⟨_,rfl⟩
   rw [←hb]
   refine wx ?_
   simp -implicitDefEqProofs -dsimp [hib]
   refine hQ _ _ _ ?_
   simp -implicitDefEqProofs -dsimp []
   exact hb
 ·have hrp:rpB t cs D=false:=by
   unfold rpB
   split
   ·rename_i hz; rw [←Bool.not_eq_true]; exact fun hh=>hyes ⟨hz,hh⟩
   ·rfl
  have hrm:rmB t cs D=false:=by
   unfold rmB
   split
   ·rename_i hz
    rw [minB_any]
    have:hitB (edgesF (allR t cs)) D=false:=by rw [←Bool.not_eq_true]; exact fun hh=>hyes ⟨hz,hh⟩
    rw [this]; rfl
   ·rfl
  rw [hrp] at cr
  rw [hrm]
  obtain ⟨e,hee⟩:∃e,e=blE t cs D:=⟨_,rfl⟩
  rw [←hee] at cr ⊢
  simp only [encTb,LS,LR,LCn,L1] at cr
  refine conP_of_conH (conH_of_W tok Tryz.func19 rfl rfl ?_)
  refine wx ?_
  simp -implicitDefEqProofs -dsimp [Tryz.f19,List.replicate,encTb,LS,LR,LCn,L1]
  refine (callP (cr) (by simp)).mono ?_
  rintro r H' ⟨rfl,rfl⟩
  simp -implicitDefEqProofs -dsimp [htB]
  refine lw_of (W_loopM 37 [8,10,18,19,20,21,22,23,24,25,26,27,28,29,30,31,32,33,34,35,36] (by simp [mB]<;>rfl) (σ:=Unit) (fun _=>True) (fun _=>0) (fun _=>[(10,.int .i64 0),(8,.bool false)]) (fun _=>[tcB t f g]) () trivial (by simp) (by simp) (by simp) ?_)
  rintro ⟨⟩ _ N Q hN hQ
  by_cases hD0:0<D.length
  ·refine wx ?_
   simp -implicitDefEqProofs -dsimp [hD0,show (0:Int)<D.length by omega]
   refine hQ _ _ _ ?_
   simp -implicitDefEqProofs -dsimp []
  ·refine wx ?_
   simp -implicitDefEqProofs -dsimp [hD0,show ¬(0:Int)<D.length by omega]
   refine hQ _ _ _ ?_
   simp -implicitDefEqProofs -dsimp []
theorem rel_flS {s:AM.St} {z:Nat} {fl:Bool} {xs:List V} {u:Value} (h:Rel s (.lst z fl xs) u):Rel s (.lst z false xs) u:=by
 cases h with
 | lst _ _ _ A cap b off u hcap hfull hA hz0 hcell hrel=>exact .lst z false xs A cap b off u hcap (fun h=>by cases h) hA hz0 hcell hrel
theorem rel_tup1f {s:AM.St} {b:V} {z:Nat} {fl:Bool} {xs:List V} {u:Value} (h:Rel s (.tup [.lst z fl xs,b]) u):Rel s (.tup [.lst z false xs,b]) u:=by
 cases h with
 | tup _ us hl hr =>
  refine .tup _ us (by simpa using hl) (fun i v x hv hx=>?_)
  match i with
  | 0=>simp at hv; subst hv; exact rel_flS (hr 0 _ x rfl hx)
  | 1=>simp at hv; subst hv; exact hr 1 _ x rfl hx
  | i+2=>simp at hv
theorem complete_r (t:Tb) (cs:List Cn) (D:List Int) (f g fc fd:Bool) (h:BdOk t cs) (hD:D.length≤1000000):ConP Tryz.prog 34 [encTb f g t,LCn fc cs,L1 fd D] fun r=>r = .tup [cpV t cs D,.int .i64 (cpE t cs D)]:=by
 have cr:=repairs_r t cs D f g fc fd h hD
 have htr:∀n,rbB n (tcB t f g):=fun n=>tcB_rb n t f g
 have htB:B.cells [.str t.name,.lst 1 f (t.attrs.map V.str),.lst 2 g (t.rows.map encRw)]=tcB t f g:=rfl
 have hrb:∀bl∈[tcB t f g],rbB 1 bl:=fun bl hbl=>by
  simp only [List.mem_cons,List.not_mem_nil,or_false] at hbl
  subst hbl; exact htr _
 unfold cpV cpE
 by_cases hz:blE t cs D=0
 ·obtain ⟨h0,_⟩:=bl_ok hz
  rw [if_pos hz]
  have hrp:rpB t cs D=hitB (edgesF (allR t cs)) D:=by unfold rpB; rw [if_pos hz]
  rw [hrp,hz] at cr
  have cc:=fun D' fd' hD'=>clean_41 t cs D' f g fc fd' h (h.small (rows8 h h0)) h0 hD'
  obtain ⟨E,hE⟩:∃E,E=edgesF (allR t cs):=⟨_,rfl⟩
  rw [←hE] at cc cr ⊢
  cases hb:hitB E D with
  | false =>
   rw [hb] at cr
   rw [if_neg (by simp),if_neg (by decide)]
   simp only [encTb,LS,LR,LCn,L1] at cr
   refine conP_of_conH (conH_of_W tok Tryz.func34 rfl rfl ?_)
   refine wx ?_
   simp -implicitDefEqProofs -dsimp [Tryz.f34,List.replicate,encTb,LS,LR,LCn,L1]
   refine (callP (cr) (by simp)).mono ?_
   rintro r H' ⟨rfl,rfl⟩
   simp -implicitDefEqProofs -dsimp []
  | true =>
   rw [hb] at cr
   rw [if_pos rfl,if_pos rfl]
   simp only [encTb,LS,LR,LCn,L1] at cr
   by_cases hD0:D=[]
   ·subst hD0
    refine conP_resL (K:=fun r=>r = .tup [.lst 1 true [],.int .i64 0]) ?_ (fun s u r hr hrel=>?_)
    ·skip
     refine conP_of_conH (conH_of_W (tok_flag tok (fun t=>t == 34)) Tryz.func34 rfl rfl ?_)
     refine W_x (tok_flag tok (fun t=>t == 34)) mixed ?_
     simp -implicitDefEqProofs -dsimp [Tryz.f34,List.replicate,encTb,LS,LR,LCn,L1,L1,flagT]
     refine (callP (cr) (by simp)).mono ?_
     rintro r H' ⟨rfl,rfl⟩
     simp -implicitDefEqProofs -dsimp [htB,L1,flagT]
     refine lw_of (W_loopM 45 [10,11,12,13,17,28,29,30,31,32,33,34,35,36,37,38,39,40,41,42,43,44] (by simp [mB]<;>rfl) (σ:=Unit) (fun _=>True) (fun _=>0) (fun _=>[(11,.int .i64 0),(10,.lst 1 true [])]) (fun _=>[tcB t f g]) () trivial (by simp) (by simp) (by simp) ?_)
     rintro ⟨⟩ _ N Q hN hQ
     refine W_x (tok_flag tok (fun t=>t == 34)) mixed ?_
     simp -implicitDefEqProofs -dsimp [L1,flagT]
     refine hQ _ _ _ ?_
     simp -implicitDefEqProofs -dsimp [L1,flagT]
    ·subst hr
     exact ⟨_,rel_tup1f hrel,by simp [L1],by simp [cmpF,L1]⟩
   have hDl:=List.length_pos_iff.2 hD0
   refine conP_of_conH (conH_of_W (tok_flag tok (fun t=>t == 34)) Tryz.func34 rfl rfl ?_)
   refine W_x (tok_flag tok (fun t=>t == 34)) mixed ?_
   simp -implicitDefEqProofs -dsimp [Tryz.f34,List.replicate,encTb,LS,LR,LCn,L1,L1,flagT]
   refine (callP (cr) (by simp)).mono ?_
   rintro r H' ⟨rfl,rfl⟩
   simp -implicitDefEqProofs -dsimp [htB,hD0,hDl,capL8 D.length (by omega),L1,flagT]
   refine lw_of (W_loopM 45 [10,11,12,13,17,28,29,30,31,32,33,34,35,36,37,38,39,40,41,42,43,44] (by simp [mB]<;>rfl) (σ:=Nat) (fun i=>i≤D.length) (fun i=>D.length - i) (fun i=>[(11,.int .i64 i),(10,.lst 1 false ((cmpF E D i).map encI))]) (fun _=>[tcB t f g]) 0 (by omega) (by simp [cmpF,hD0]) (by simp) (by simp) ?_)
   intro i hi N Q hN hQ
   by_cases hib:i<D.length
   ·have hs:=cmpF_succ (E:=E) hib
    have hl1:=cmpF_len E D i
    obtain ⟨x,hx⟩:∃x,x=D[i]:=⟨_,rfl⟩
    obtain ⟨o,ho⟩:∃o,o=cmpF E D i:=⟨_,rfl⟩
    rw [←hx,←ho] at hs
    rw [←ho] at hl1 ⊢
    have cu:=without_41 o x false (by omega)
    have c2:=cc (butL o x) false (by have:=butL_len o x; omega)
    obtain ⟨L,hL⟩:∃L,L=butL o x:=⟨_,rfl⟩
    rw [←hL] at cu c2 hs
    simp only [encTb,LS,LR,LCn,L1] at cu c2
    cases hq:hitB E L with
    | true =>
     rw [hq] at c2
     rw [if_pos hq] at hs
     refine W_x (tok_flag tok (fun t=>t == 34)) mixed ?_
     simp -implicitDefEqProofs -dsimp [hib,hx.symm,encI,tcB,L1,flagT]
     refine (callP (cu) (by simp)).mono ?_
     rintro r H' ⟨rfl,rfl⟩
     simp -implicitDefEqProofs -dsimp [L1,flagT]
     refine (callP (c2) (by simp)).mono ?_
     rintro r H' ⟨rfl,rfl⟩
     simp -implicitDefEqProofs -dsimp [wrapS i (by omega),L1,flagT]
     refine hN (i+1) _ _ (by omega) (by omega) (by simp [hs]) ⟨[],by simp [tcB]⟩ (by simp) hrb
    | false =>
     rw [hq] at c2
     rw [if_neg (by simp [hq])] at hs
     refine W_x (tok_flag tok (fun t=>t == 34)) mixed ?_
     simp -implicitDefEqProofs -dsimp [hib,hx.symm,encI,tcB,L1,flagT]
     refine (callP (cu) (by simp)).mono ?_
     rintro r H' ⟨rfl,rfl⟩
     simp -implicitDefEqProofs -dsimp [L1,flagT]
     refine (callP (c2) (by simp)).mono ?_
     rintro r H' ⟨rfl,rfl⟩
     simp -implicitDefEqProofs -dsimp [wrapS i (by omega),L1,flagT]
     refine hN (i+1) _ _ (by omega) (by omega) (by simp [hs]) ⟨[],by simp [tcB]⟩ (by simp) hrb
   ·obtain rfl:i=D.length:=by omega
    refine W_x (tok_flag tok (fun t=>t == 34)) mixed ?_
    simp -implicitDefEqProofs -dsimp [hib,L1,flagT]
    refine hQ _ _ _ ?_
    simp -implicitDefEqProofs -dsimp [L1,flagT]
 ·rw [if_neg hz,if_neg hz]
  have hrp:rpB t cs D=false:=by unfold rpB; rw [if_neg hz]
  rw [hrp] at cr
  obtain ⟨e,hee⟩:∃e,e=blE t cs D:=⟨_,rfl⟩
  rw [←hee] at cr hz ⊢
  simp only [encTb,LS,LR,LCn,L1] at cr
  refine conP_of_conH (conH_of_W tok Tryz.func34 rfl rfl ?_)
  refine wx ?_
  simp -implicitDefEqProofs -dsimp [Tryz.f34,List.replicate,encTb,LS,LR,LCn,L1]
  refine (callP (cr) (by simp)).mono ?_
  rintro r H' ⟨rfl,rfl⟩
  simp -implicitDefEqProofs -dsimp [hz]
theorem valid39 (ws:List Int) (es:List (List Int)) (f g:Bool) (hl:∀e∈es,e.length≤1000000):ConP Tryz.prog 44 [encHs f g ws es] fun r=>r = .int .i64 (validH ws es):=by
 unfold validH
 by_cases h1:200<ws.length
 ·rw [if_pos (.inl h1)]
  refine conP_of_conH (conH_of_W tok Tryz.func44 rfl rfl ?_)
  refine wx ?_
  simp -implicitDefEqProofs -dsimp [Tryz.f44,List.replicate,encHs,LLi,show (200:Int)<ws.length by omega,L1]
 ·by_cases h2:2000<es.length
  ·rw [if_pos (.inr h2)]
   refine conP_of_conH (conH_of_W tok Tryz.func44 rfl rfl ?_)
   refine wx ?_
   simp -implicitDefEqProofs -dsimp [Tryz.f44,List.replicate,encHs,LLi,show ¬(200:Int)<ws.length by omega,show (2000:Int)<es.length by omega,L1]
  ·rw [if_neg (fun h=>h.elim h1 h2)]
   obtain ⟨E,hE⟩:∃E,E=if ws.all wOk then restH ws.length es else 1:=⟨_,rfl⟩
   rw [←hE]
   refine conP_of_conH (conH_of_W tok Tryz.func44 rfl rfl ?_)
   refine wx ?_
   simp -implicitDefEqProofs -dsimp [Tryz.f44,List.replicate,encHs,LLi,show ¬(200:Int)<ws.length by omega,show ¬(2000:Int)<es.length by omega,L1]
   refine lw_of (W_loopM 39 [2,3,18,19,20,21,22,23,24,25,26,27,28,29,30,31,32,33,34,35,36,37,38] (by simp [mB]<;>rfl) (σ:=Nat) (fun i=>i≤ws.length∧(if (ws.drop i).all wOk then restH ws.length es else 1)=E) (fun i=>ws.length - i) (fun i=>[(3,.int .i64 i)]) (fun _=>[B.cells [.lst 1 f (ws.map encI),.lst 1 g (es.map (L1 false))]]) 0 ⟨by omega,by rw [List.drop_zero,hE]⟩ (by simp) (by simp [L1]) (by simp) ?_)
   rintro i ⟨hi,hx⟩ N1 Q1 hN1 hQ1
   by_cases hb:i<ws.length
   ·rw [List.drop_eq_getElem_cons hb,List.all_cons] at hx
    obtain ⟨w,hw⟩:∃w,w=ws[i]:=⟨_,rfl⟩
    rw [←hw] at hx
    have hw':=hw.symm
    by_cases q1:1≤w
    ·by_cases q2:w≤1000000
     ·rw [show wOk w=true by simp [wOk,q1,q2],Bool.true_and] at hx
      refine wx ?_
      simp -implicitDefEqProofs -dsimp [hb,hw',encI,show ¬w<1 by omega,show ¬(1000000:Int)<w by omega,wrapS i (by omega),L1]
      refine hN1 (i+1) _ _ ⟨by omega,hx⟩ (by omega) ?_ ⟨[],?_⟩ ?_ ?_<;>simp [or_imp,forall_and,L1,encI]
     ·rw [show wOk w=false by simp [wOk,q2],Bool.false_and,if_neg (by simp)] at hx
      refine wx ?_
      simp -implicitDefEqProofs -dsimp [hb,hw',encI,show ¬w<1 by omega,show (1000000:Int)<w by omega,L1]
      refine hQ1 _ _ _ ?_
      simp -implicitDefEqProofs -dsimp [L1]
      exact hx
    ·rw [show wOk w=false by simp [wOk,q1],Bool.false_and,if_neg (by simp)] at hx
     refine wx ?_
     simp -implicitDefEqProofs -dsimp [hb,hw',encI,show w<1 by omega,L1]
     refine hQ1 _ _ _ ?_
     simp -implicitDefEqProofs -dsimp [L1]
     exact hx
   ·rw [List.drop_of_length_le (by omega),List.all_nil,if_pos rfl] at hx
    refine wx ?_
    simp -implicitDefEqProofs -dsimp [hb,L1]
    refine hQ1 _ _ _ ?_
    simp -implicitDefEqProofs -dsimp [L1]
    refine lw_of (W_loopM 77 [2,4,5,6,7,39,40,41,42,43,44,45,46,47,48,49,50,51,52,53,54,55,56,57,58,59,60,61,62,63,64,65,66,67,68,69,70,71,72,73,74,75,76] (by simp [mB]<;>rfl) (σ:=Nat) (fun j=>j≤es.length∧restH ws.length (es.drop j)=E) (fun j=>es.length - j) (fun j=>[(4,.int .i64 j)]) (fun _=>[B.cells [.lst 1 f (ws.map encI),.lst 1 g (es.map (L1 false))]]) 0 ⟨by omega,by rw [List.drop_zero,hx]⟩ (by simp) (by simp [L1]) (by simp) ?_)
    rintro j ⟨hj,hy⟩ N2 Q2 hN2 hQ2
    by_cases hjb:j<es.length
    ·rw [List.drop_eq_getElem_cons hjb,restH,List.all_cons] at hy
     have hle:=hl es[j] (List.getElem_mem hjb)
     obtain ⟨e,he⟩:∃e,e=es[j]:=⟨_,rfl⟩
     rw [←he] at hy hle
     have he':=he.symm
     obtain ⟨R,hR⟩:∃R,R=(es.drop (j+1)).all (eOk ws.length):=⟨_,rfl⟩
     rw [←hR] at hy
     rw [eOk] at hy
     refine wx ?_
     simp -implicitDefEqProofs -dsimp [hjb,L1]
     refine lw_of (W_loopM 75 [2,5,6,7,46,47,48,49,50,51,52,53,54,55,56,57,58,59,60,61,62,63,64,65,66,67,68,69,70,71,72,73,74] (by simp [mB]<;>rfl) (σ:=Nat×Int) (fun p=>p.1≤e.length∧-1≤p.2∧(p.1=0→p.2 = -1)∧(0<p.1→0≤p.2)∧(if ((edgeOk ws.length p.2 (e.drop p.1)&&!e.isEmpty)&&R)=true then (0:Int) else 1)=E) (fun p=>e.length - p.1) (fun p=>[(6,.int .i64 p.1),(5,.int .i64 p.2)]) (fun _=>[B.cells [.lst 1 f (ws.map encI),.lst 1 g (es.map (L1 false))]]) (0,-1) ⟨by simp,by simp,by simp,by simp,by rw [List.drop_zero]; exact hy⟩ (by simp) (by simp [L1]) (by simp) ?_)
     rintro ⟨k,last⟩ ⟨hk,hm1,hm2,hm3,hz⟩ N3 Q3 hN3 hQ3
     simp only at hk hz hN3 hm1 hm2 hm3
     by_cases hkb:k<e.length
     ·rw [List.drop_eq_getElem_cons hkb,edgeOk] at hz
      obtain ⟨v,hv⟩:∃v,v=e[k]:=⟨_,rfl⟩
      rw [←hv] at hz
      have hv':=hv.symm
      by_cases q1:last<v
      ·by_cases q2:v<ws.length
       ·rw [decide_eq_true q1,decide_eq_true q2,Bool.true_and,Bool.true_and] at hz
        refine wx ?_
        simp -implicitDefEqProofs -dsimp [hjb,he',hkb,hv',encI,show ¬v≤last by omega,show ¬(ws.length:Int)≤v by omega,wrapS k (by omega),L1]
        refine hN3 (k+1,v) _ _ ⟨by simp only; omega,by simp only; omega,by simp,by simp only; omega,hz⟩ (by omega) ?_ ⟨[],?_⟩ ?_ ?_<;>simp [or_imp,forall_and,L1,encI]
       ·rw [decide_eq_false q2,Bool.and_false,Bool.false_and,Bool.false_and,Bool.false_and,if_neg (by simp)] at hz
        refine wx ?_
        simp -implicitDefEqProofs -dsimp [hjb,he',hkb,hv',encI,show ¬v≤last by omega,show (ws.length:Int)≤v by omega,L1]
        refine hQ3 _ _ _ ?_
        simp -implicitDefEqProofs -dsimp [L1]
        refine hQ2 _ _ _ ?_
        simp -implicitDefEqProofs -dsimp [L1]
        exact hz
      ·rw [decide_eq_false q1,Bool.false_and,Bool.false_and,Bool.false_and,Bool.false_and,if_neg (by simp)] at hz
       refine wx ?_
       simp -implicitDefEqProofs -dsimp [hjb,he',hkb,hv',encI,show v≤last by omega,L1]
       refine hQ3 _ _ _ ?_
       simp -implicitDefEqProofs -dsimp [L1]
       refine hQ2 _ _ _ ?_
       simp -implicitDefEqProofs -dsimp [L1]
       exact hz
     ·rw [List.drop_of_length_le (by omega),edgeOk,Bool.true_and] at hz
      by_cases h0:e.length=0
      ·have hen:e=[]:=List.length_eq_zero_iff.1 h0
       have hl1:=hm2 (by omega)
       rw [hen] at hz
       simp at hz
       subst hl1
       refine wx ?_
       simp -implicitDefEqProofs -dsimp [hjb,he',hkb,L1]
       refine hQ3 _ _ _ ?_
       simp -implicitDefEqProofs -dsimp [L1]
       refine hQ2 _ _ _ ?_
       simp -implicitDefEqProofs -dsimp [L1]
       exact hz
      ·have hen:e.isEmpty=false:=by cases e with
        | nil=>simp at h0
        | cons a b=>rfl
       rw [hen,Bool.not_false,Bool.true_and,hR] at hz
       have hl1:=hm3 (by omega)
       refine wx ?_
       simp -implicitDefEqProofs -dsimp [hjb,he',hkb,L1]
       refine hQ3 _ _ _ ?_
       simp -implicitDefEqProofs -dsimp [show ¬last<0 by omega,wrapS j (by omega),L1]
       refine hN2 (j+1) _ _ ⟨by omega,hz⟩ (by omega) ?_ ⟨[],?_⟩ ?_ ?_<;>simp [or_imp,forall_and,L1,encI]
    ·rw [List.drop_of_length_le (by omega)] at hy
     refine wx ?_
     simp -implicitDefEqProofs -dsimp [hjb,L1]
     refine hQ2 _ _ _ ?_
     simp -implicitDefEqProofs -dsimp [L1]
     exact hy
theorem valid39N (ws:List Int) (es:List (List Nat)) (f g:Bool) (hl:∀e∈es,e.length≤1000000):ConP Tryz.prog 44 [encHn f g ws es] fun r=>r = .int .i64 (validN ws es):=by
 have:=valid39 ws (cst es) f g (fun e he=>by obtain ⟨e',h,rfl⟩:=List.mem_map.1 he; rw [List.length_map]; exact hl e' h)
 rwa [encHs_cst] at this
def encSt (fc fx:Bool) (ch ex:List Nat) (b:Int):V:=.agg [Ln fc ch,Ln fx ex,.int .i64 b]
@[simp] theorem encSt_pure (fc fx:Bool) (ch ex:List Nat) (b:Int):AM.Pure (encSt fc fx ch ex b):=by simp [encSt]
end
end Go.Proofs.YtjogkbekekdkjaaGreatDoor
section
namespace Go.Proofs.YtjogkbekekdkjaaGreatDoor
open Go Go.AM
end Go.Proofs.YtjogkbekekdkjaaGreatDoor
end
namespace Go.Proofs.YtjogkbekekdkjaaGreatDoor
section
open Go Go.AM
inductive ExpA (H:List B):V→V→Prop
 | one (v v':V) (h:Exp H v v'):ExpA H v v'
 | agg (cs ds:List V) (hl:cs.length=ds.length) (h1:∀d∈ds,d.one=true) (h:∀(i:Nat) c d,cs[i]?=some c→ds[i]?=some d→∃m,Exp H c m∧Le m d):ExpA H (.agg cs) (.agg ds)
end
end Go.Proofs.YtjogkbekekdkjaaGreatDoor
section
namespace Go.Proofs.YtjogkbekekdkjaaGreatDoor
open Go Go.AM
end Go.Proofs.YtjogkbekekdkjaaGreatDoor
end
section
namespace Go.Proofs.YtjogkbekekdkjaaGreatDoor
open Go Go.AM
end Go.Proofs.YtjogkbekekdkjaaGreatDoor
end
namespace Go.Proofs.YtjogkbekekdkjaaGreatDoor
section
open Go Go.AM
theorem hs_rb (n:Nat) (f g:Bool) (ws:List Int) (es:List (List Nat)):rbB n (B.cells [.lst 1 f (ws.map encI),.lst 1 g (es.map (Ln false))]):=fun c hc=>by
 simp only [List.mem_cons,List.not_mem_nil,or_false] at hc
 rcases hc with rfl | rfl<;>simp [rb]
end
end Go.Proofs.YtjogkbekekdkjaaGreatDoor
