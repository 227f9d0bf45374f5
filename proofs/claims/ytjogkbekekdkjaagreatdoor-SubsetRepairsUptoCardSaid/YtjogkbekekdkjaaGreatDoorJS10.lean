/- JS10: own texts of this seat, joined by pack2.py: CX, DX, BF, BG, BT, BW, MK, CP, GrH, GrZ, CatZ, MN, KR, BU, Rd, Wd, T11, RO, RQ, RS, RT, LBp, SB1, SB2, SB5, H1, H2, H5, H3. -/
import Derived.Test.YtjogkbekekdkjaaGreatDoorJS9
import Derived.WalkKit
import Derived.Lib.Walk
import Derived.Lib.SliceRun
import Derived.Lib.AppendZerosOnto
import Derived.OwnWalk
set_option linter.unusedVariables false
set_option linter.unusedSimpArgs false
set_option maxRecDepth 100000
set_option maxHeartbeats 64000000
namespace Go.Proofs.YtjogkbekekdkjaaGreatDoor
section
open Go Go.AM
theorem rows_rb (n:Nat) (e:Nat) (ms:List Rw) (fz:Bool):rbB n (.buf e 2 (ms.map encRw) fz):=by
 intro x hx
 obtain ⟨y,_,rfl⟩:=List.mem_map.1 hx
 intro c hc
 simp only [encRw,V.cells,List.mem_cons,List.not_mem_nil,or_false] at hc
 rcases hc with rfl | rfl<;>simp [rb,rb1,LV]
theorem expx_tup2 {H:List B} {a a':V} {k:IntKind} {n:Int} (h:ExpX H a a'):ExpX H (.tup [a,.int k n]) (.tup [a',.int k n]):=.tup _ _ rfl (fun i x y hx hy=>by
 match i with
 | 0=>simp at hx hy; subst hx; subst hy; exact h
 | 1=>simp at hx hy; subst hx; subst hy; exact .pure _ (.int _ _)
 | i+2=>simp at hx)
theorem cap32r (n:Nat) (h:n≤1000000000):n≤9223372036854775806∧(n+1)*32≤140737488355328:=by omega
theorem violC_u (t:Tb) (c:Cfd) (f g f2 g2:Bool) (h:TbS t) (hl:c.l.length≤1000000) (hp:c.p.length≤1000000) (hv:validT t=0) (ho:cfB t.attrs.length c=true):ConP Tryz.prog 130 [encTb f g t,encCfd f2 g2 c] fun r=>r = .tup [LL false (cfdV c t.rows),.int .i64 0]:=by
 refine conP_LT ?_
 have ct:=tbC hv
 have ck:=cf_ok ho hl
 have c1:=tableValid t f g h.ok
 rw [hv] at c1
 have c2:=validC_u t.attrs.length c f2 g2 ct.wide hl hp
 rw [ho] at c2
 have cr:=right_u c f2 g2 ck.p
 simp only [encTb,LR,LS,encCfd,L1,LCl] at c1 c2 cr
 obtain ⟨R,hR⟩:∃R,R=t.rows:=⟨_,rfl⟩
 have htB:tcB t f g = .cells [.str t.name,.lst 1 f (t.attrs.map V.str),.lst 2 g (R.map encRw)]:=by rw [hR]; rfl
 obtain ⟨M,hM⟩:∃M,M=R.filter (leftF c):=⟨_,rfl⟩
 obtain ⟨S1,hS1⟩:∃S1,S1=(M.filter fun r=>!rightF c r).map fun r=>[r.id]:=⟨_,rfl⟩
 obtain ⟨S2,hS2⟩:∃S2,S2=prL (pairF c) M:=⟨_,rfl⟩
 have hR8:R.length≤8:=by rw [hR]; exact h.few
 have hM8:M.length≤8:=by rw [hM]; exact Nat.le_trans (List.length_filter_le _ _) hR8
 have hS8:S1.length≤8:=by rw [hS1,List.length_map]; exact Nat.le_trans (List.length_filter_le _ _) hM8
 have hS64:S2.length≤64:=by rw [hS2]; exact Nat.le_trans (prL_len M) (sq8 hM8)
 have hE:cfdV c R=S1++S2:=by rw [hS1,hS2,hM]; rfl
 have hlen:∀r∈R,r.vals.length=t.attrs.length:=by rw [hR]; exact ct.len
 have hlM:∀r∈M,r.vals.length=t.attrs.length:=fun r hr=>hlen r (by rw [hM] at hr; exact (List.mem_filter.1 hr).1)
 rw [←hR] at c1 ⊢
 rw [hE]
 have hrb:∀o:List Rw,∀bl∈[B.cells [.str t.name,.lst 1 f (t.attrs.map V.str),.lst 2 g (R.map encRw)],B.cells [.lst 1 f2 (c.l.map encI),.int .i64 c.r,.lst 4 g2 (c.p.map encCl)],B.buf 80 2 (o.map encRw) false],rbB 3 bl:=fun o bl hbl=>by
  simp only [List.mem_cons,List.not_mem_nil,or_false] at hbl
  rcases hbl with rfl | rfl | rfl
  ·rw [←htB]; exact tcB_rb _ _ _ _
  ·exact ccB_rb _ _ _ _
  ·exact rows_rb _ _ _ _
 have hrb5:∀o o2:List (List Int),∀bl∈[B.cells [.str t.name,.lst 1 f (t.attrs.map V.str),.lst 2 g (R.map encRw)],B.cells [.lst 1 f2 (c.l.map encI),.int .i64 c.r,.lst 4 g2 (c.p.map encCl)],B.buf 80 2 (M.map encRw) true,B.buf 34 1 (o.map (L1 true)) false,B.buf 34 1 (o2.map (L1 true)) false],rbB 5 bl:=fun o o2 bl hbl=>by
  simp only [List.mem_cons,List.not_mem_nil,or_false] at hbl
  rcases hbl with rfl | rfl | rfl | rfl | rfl
  ·rw [←htB]; exact tcB_rb _ _ _ _
  ·exact ccB_rb _ _ _ _
  ·exact rows_rb _ _ _ _
  ·exact LT_rb _ _ _
  ·exact LT_rb _ _ _
 have hrb6:∀(r:Rw) (o o2:List (List Int)),∀bl∈[B.cells [.str t.name,.lst 1 f (t.attrs.map V.str),.lst 2 g (R.map encRw)],B.cells [.lst 1 f2 (c.l.map encI),.int .i64 c.r,.lst 4 g2 (c.p.map encCl)],B.buf 80 2 (M.map encRw) true,B.buf 34 1 (o.map (L1 true)) false,B.buf 34 1 (o2.map (L1 true)) false,B.cells [.int .i64 r.id,.lst 3 false (r.vals.map encV)]],rbB 6 bl:=fun r o o2 bl hbl=>by
  simp only [List.mem_cons,List.not_mem_nil,or_false] at hbl
  rcases hbl with rfl | rfl | rfl | rfl | rfl | rfl
  ·rw [←htB]; exact tcB_rb _ _ _ _
  ·exact ccB_rb _ _ _ _
  ·exact rows_rb _ _ _ _
  ·exact LT_rb _ _ _
  ·exact LT_rb _ _ _
  ·exact rcB_rb _ _
 refine conP_of_conX (conH_of_W (tok_flag tok (fun t=>t == 34)) Tryz.func130 rfl rfl ?_)
 refine W_x (tok_flag tok (fun t=>t == 34)) mixed ?_
 simp -implicitDefEqProofs -dsimp [Tryz.f130,List.replicate,encTb,encCfd,LR,LS,LCl,hR.symm,L1,flagT]
 refine (callP (c1) (by simp)).mono ?_
 rintro r H' ⟨rfl,rfl⟩
 simp -implicitDefEqProofs -dsimp [L1,flagT]
 refine (callP (c2) (by simp)).mono ?_
 rintro r H' ⟨rfl,rfl⟩
 simp -implicitDefEqProofs -dsimp [L1,flagT]
 refine lw_of (W_own 80 2 [7] (by simp) (W_loopM 43 [7,9,30,31,32,33,34,35,36,37,38,39,40,41,42] (by simp [mB]<;>rfl) (σ:=Nat×List Rw) (fun p=>p.2++(R.drop p.1).filter (leftF c)=M) (fun p=>R.length - p.1) (fun p=>[(30,.int .i64 p.1),(7,.buf 2 0 p.2.length p.2.length)]) (fun p=>[B.cells [.str t.name,.lst 1 f (t.attrs.map V.str),.lst 2 g (R.map encRw)],B.cells [.lst 1 f2 (c.l.map encI),.int .i64 c.r,.lst 4 g2 (c.p.map encCl)],B.buf 80 2 (p.2.map encRw) false]) (0,[]) (by rw [hM]; rfl) (by simp) (by simp) (by simp) ?_))
 rintro ⟨i,ms⟩ hx N Q hN hQ
 simp only at hx
 by_cases hb:i<R.length
 ·have hri:=hlen _ (List.getElem_mem hb)
  rw [List.drop_eq_getElem_cons hb] at hx
  obtain ⟨r,hre⟩:∃r,r=R[i]:=⟨_,rfl⟩
  rw [←hre] at hx hri
  have c3:=left_u c r f2 g2 false t.attrs.length hri ck.l ck.p ck.lb
  simp only [encCfd,L1,LCl,LV] at c3
  cases hq:leftF c r with
  | false =>
   rw [hq] at c3
   rw [List.filter_cons_of_neg (by simp [hq])] at hx
   refine W_x (tok_flag tok (fun t=>t == 34)) mixed ?_
   simp -implicitDefEqProofs -dsimp [hb,hre.symm,encRw,LV,L1,flagT]
   refine (callP (c3) (by simp)).mono ?_
   rintro r H' ⟨rfl,rfl⟩
   simp -implicitDefEqProofs -dsimp [wrapS i (by omega),L1,flagT]
   refine hN (i+1,ms) _ _ hx (by simp only; omega) (by simp) ⟨[B.cells [.int .i64 r.id,.lst 3 false (r.vals.map encV)]],by simp⟩ (by simp) (hrb _)
  | true =>
   rw [hq] at c3
   rw [List.filter_cons_of_pos hq] at hx
   have hml:ms.length≤8:=by rw [←hx] at hM8; simp only [List.length_append] at hM8; omega
   refine W_x (tok_flag tok (fun t=>t == 34)) mixed ?_
   simp -implicitDefEqProofs -dsimp [hb,hre.symm,encRw,LV,L1,flagT]
   refine (callP (c3) (by simp)).mono ?_
   rintro r H' ⟨rfl,rfl⟩
   simp -implicitDefEqProofs -dsimp [cap32r ms.length (by omega),wrapN ms.length (by omega),wrapS i (by omega),L1,flagT]
   refine hN (i+1,ms++[r]) _ _ (by rw [←hx]; simp) (by simp only; omega) (by simp) ⟨[B.cells [.int .i64 r.id,.lst 3 false (r.vals.map encV)]],by simp [encRw,LV]⟩ (by simp) (hrb _)
 ·rw [List.drop_of_length_le (show R.length≤i by omega),List.filter_nil,List.append_nil] at hx
  subst hx
  refine W_frz 2 [7] rfl (by simp) ?_
  refine W_x (tok_flag tok (fun t=>t == 34)) mixed ?_
  simp -implicitDefEqProofs -dsimp [hb,L1,flagT]
  refine hQ _ _ _ ?_
  simp -implicitDefEqProofs -dsimp [L1,flagT]
  refine lw_of (W_own 34 1 [10] (by simp) (W_own 34 1 [11] (by simp) (W_loopM 91 [10,11,12,13,15,45,46,47,48,49,50,51,52,53,54,55,56,57,58,59,60,61,62,63,64,65,66,67,68,69,70,71,72,73,74,75,76,77,78,79,80,81,82,83,84,85,86,87,88,89,90] (by simp [mB]<;>rfl) (σ:=Nat×List (List Int)×List (List Int)) (fun p=>p.2.1++((ms.drop p.1).filter fun r=>!rightF c r).map (fun r=>[r.id])=S1∧p.2.2++prL (pairF c) (ms.drop p.1)=S2) (fun p=>ms.length - p.1) (fun p=>[(45,.int .i64 p.1),(10,.buf 3 0 p.2.1.length p.2.1.length),(11,.buf 4 0 p.2.2.length p.2.2.length)]) (fun p=>[B.cells [.str t.name,.lst 1 f (t.attrs.map V.str),.lst 2 g (R.map encRw)],B.cells [.lst 1 f2 (c.l.map encI),.int .i64 c.r,.lst 4 g2 (c.p.map encCl)],B.buf 80 2 (ms.map encRw) true,B.buf 34 1 (p.2.1.map (L1 true)) false,B.buf 34 1 (p.2.2.map (L1 true)) false]) (0,[],[]) ⟨by rw [hS1]; rfl,by rw [hS2]; rfl⟩ (by simp) (by simp) (by simp) ?_)))
  rintro ⟨i,o1,o2⟩ ⟨hx1,hx2⟩ N Q hN hQ
  simp only at hx1 hx2
  by_cases hb:i<ms.length
  ·rw [fil_cons hb] at hx1
   rw [pr_cons hb] at hx2
   have hri:=hlM _ (List.getElem_mem hb)
   obtain ⟨r,hre⟩:∃r,r=ms[i]:=⟨_,rfl⟩
   rw [←hre] at hx1 hx2 hri
   obtain ⟨k,hk⟩:=Int.eq_ofNat_of_zero_le ck.r0
   have hk1:=ck.r1
   have hkv:k<r.vals.length:=by omega
   obtain ⟨x,hxx⟩:∃x,x=r.vals[k]:=⟨_,rfl⟩
   obtain ⟨y,hyy⟩:∃y,y=clAt c.p c.l.length:=⟨_,rfl⟩
   have hrt:rightF c r=clF y x:=by unfold rightF; rw [hk,vAt_nat hkv,←hxx,←hyy]
   have c4:=fits_u y x
   rw [←hrt] at c4
   rw [←hyy] at cr
   simp only [encCl,encV] at c4 cr
   have htk:(ms.map encRw).take ms.length=ms.map encRw:=List.take_of_length_le (by simp)
   have hdp:∀x∈(ms.map encRw).drop (i+1),AM.Pure x:=fun x hx=>by
    obtain ⟨y,_,rfl⟩:=List.mem_map.1 (List.mem_of_mem_drop hx)
    exact encRw_pure y
   have ho1:o1.length≤8:=by rw [←hx1] at hS8; simp only [List.length_append] at hS8; omega
   cases hq:rightF c r with
   | true =>
    rw [hq] at c4
    rw [hq,Bool.not_true,if_neg (by simp),List.nil_append] at hx1
    refine W_x (tok_flag tok (fun t=>t == 34)) mixed ?_
    simp -implicitDefEqProofs -dsimp [hb,hre.symm,encRw,LV,L1,flagT]
    refine .inr ⟨stop_of (by kernel_rfl),?_⟩
    refine cy_of _ (callP (cr) (by simp)) ?_
    simp -implicitDefEqProofs -dsimp [hk,hkv,hxx.symm,encV,L1,flagT]
    refine cy_of _ (callP (c4) (by simp)) ?_
    simp -implicitDefEqProofs -dsimp [wrapS i (by omega),show (0:Int)≤(i:Int)+1 by omega,show i+1≤ms.length by omega,htk,L1,flagT]
    refine lw_of (W_loopM 90 [11,15,71,72,73,74,75,76,77,78,79,80,81,82,83,84,85,86,87,88,89] (by simp [mB]<;>rfl) (σ:=Nat×List (List Int)) (fun p=>p.2++((((ms.drop (i+1+p.1)).filter (pairF c r)).map fun s=>[r.id,s.id])++prL (pairF c) (ms.drop (i+1)))=S2) (fun p=>ms.length - p.1) (fun p=>[(71,.int .i64 p.1),(11,.buf 4 0 p.2.length p.2.length)]) (fun p=>[B.cells [.str t.name,.lst 1 f (t.attrs.map V.str),.lst 2 g (R.map encRw)],B.cells [.lst 1 f2 (c.l.map encI),.int .i64 c.r,.lst 4 g2 (c.p.map encCl)],B.buf 80 2 (ms.map encRw) true,B.buf 34 1 ((o1).map (L1 true)) false,B.buf 34 1 (p.2.map (L1 true)) false,B.cells [.int .i64 r.id,.lst 3 false (r.vals.map encV)]]) (0,o2) hx2 (by simp) (by simp [L1,encI,encRw,LV,hk]) (by simp) ?_)
    rintro ⟨k2,o3⟩ hx3 N2 Q2 hN2 hQ2
    simp only at hx3
    by_cases hkb:k2<ms.length - (i+1)
    ·have hkR:i+1+k2<ms.length:=by omega
     rw [in_cons hkR] at hx3
     have hrk:=hlM _ (List.getElem_mem hkR)
     obtain ⟨s,hse⟩:∃s,s=ms[i+1+k2]:=⟨_,rfl⟩
     rw [←hse] at hx3 hrk
     have c5:=pairC_u c r s f2 g2 false false t.attrs.length ck hri hrk
     simp only [encCfd,L1,LCl,LV] at c5
     have ho3:o3.length≤64:=by rw [←hx3] at hS64; simp only [List.length_append] at hS64; omega
     cases hq2:pairF c r s with
     | false =>
      rw [hq2] at c5 hx3
      rw [if_neg (by simp),List.nil_append] at hx3
      refine W_x (tok_flag tok (fun t=>t == 34)) mixed ?_
      simp -implicitDefEqProofs -dsimp [hkb,hkR,hse.symm,encRw,LV,L1,flagT]
      refine (callP (c5) (by simp)).mono ?_
      rintro r H' ⟨rfl,rfl⟩
      simp -implicitDefEqProofs -dsimp [wrapS k2 (by omega),L1,flagT]
      refine hN2 (k2+1,o3) _ _ hx3 (by simp only; omega) (by simp) ⟨[B.cells [.int .i64 s.id,.lst 3 false (s.vals.map encV)]],by simp⟩ (by simp; exact hdp) (hrb6 _ _ _)
     | true =>
      rw [hq2] at c5 hx3
      rw [if_pos rfl] at hx3
      refine W_x (tok_flag tok (fun t=>t == 34)) mixed ?_
      simp -implicitDefEqProofs -dsimp [hkb,hkR,hse.symm,encRw,LV,L1,flagT]
      refine (callP (c5) (by simp)).mono ?_
      rintro r H' ⟨rfl,rfl⟩
      simp -implicitDefEqProofs -dsimp [cap24 o3.length (by omega),wrapN o3.length (by omega),wrapS k2 (by omega),L1,flagT]
      refine hN2 (k2+1,o3++[[r.id,s.id]]) _ _ (by rw [←hx3]; simp [Nat.add_assoc]) (by simp only; omega) (by simp) ⟨[B.cells [.int .i64 s.id,.lst 3 false (s.vals.map encV)]],by simp [encI,L1]⟩ (by simp; exact hdp) (hrb6 _ _ _)
    ·rw [List.drop_of_length_le (show ms.length≤i+1+k2 by omega)] at hx3
     refine W_x (tok_flag tok (fun t=>t == 34)) mixed ?_
     simp -implicitDefEqProofs -dsimp [hkb,L1,flagT]
     refine hQ2 _ _ _ ?_
     simp -implicitDefEqProofs -dsimp [wrapS i (by omega),L1,flagT]
     refine hN (i+1,o1,o3) _ _ ⟨hx1,by simpa using hx3⟩ (by simp only; omega) (by simp [hk]) ⟨[B.cells [.int .i64 r.id,.lst 3 false (r.vals.map encV)]],by simp [hk,L1,encI]⟩ (by simp) (hrb5 _ _)
   | false =>
    rw [hq] at c4
    rw [hq,Bool.not_false,if_pos rfl] at hx1
    refine W_x (tok_flag tok (fun t=>t == 34)) mixed ?_
    simp -implicitDefEqProofs -dsimp [hb,hre.symm,encRw,LV,L1,flagT]
    refine .inr ⟨stop_of (by kernel_rfl),?_⟩
    refine cy_of _ (callP (cr) (by simp)) ?_
    simp -implicitDefEqProofs -dsimp [hk,hkv,hxx.symm,encV,L1,flagT]
    refine cy_of _ (callP (c4) (by simp)) ?_
    simp -implicitDefEqProofs -dsimp [wrapS i (by omega),show (0:Int)≤(i:Int)+1 by omega,show i+1≤ms.length by omega,htk,cap24 o1.length (by omega),wrapN o1.length (by omega),L1,flagT]
    refine lw_of (W_loopM 90 [11,15,71,72,73,74,75,76,77,78,79,80,81,82,83,84,85,86,87,88,89] (by simp [mB]<;>rfl) (σ:=Nat×List (List Int)) (fun p=>p.2++((((ms.drop (i+1+p.1)).filter (pairF c r)).map fun s=>[r.id,s.id])++prL (pairF c) (ms.drop (i+1)))=S2) (fun p=>ms.length - p.1) (fun p=>[(71,.int .i64 p.1),(11,.buf 4 0 p.2.length p.2.length)]) (fun p=>[B.cells [.str t.name,.lst 1 f (t.attrs.map V.str),.lst 2 g (R.map encRw)],B.cells [.lst 1 f2 (c.l.map encI),.int .i64 c.r,.lst 4 g2 (c.p.map encCl)],B.buf 80 2 (ms.map encRw) true,B.buf 34 1 ((o1++[[r.id]]).map (L1 true)) false,B.buf 34 1 (p.2.map (L1 true)) false,B.cells [.int .i64 r.id,.lst 3 false (r.vals.map encV)]]) (0,o2) hx2 (by simp) (by simp [L1,encI,encRw,LV,hk]) (by simp) ?_)
    rintro ⟨k2,o3⟩ hx3 N2 Q2 hN2 hQ2
    simp only at hx3
    by_cases hkb:k2<ms.length - (i+1)
    ·have hkR:i+1+k2<ms.length:=by omega
     rw [in_cons hkR] at hx3
     have hrk:=hlM _ (List.getElem_mem hkR)
     obtain ⟨s,hse⟩:∃s,s=ms[i+1+k2]:=⟨_,rfl⟩
     rw [←hse] at hx3 hrk
     have c5:=pairC_u c r s f2 g2 false false t.attrs.length ck hri hrk
     simp only [encCfd,L1,LCl,LV] at c5
     have ho3:o3.length≤64:=by rw [←hx3] at hS64; simp only [List.length_append] at hS64; omega
     cases hq2:pairF c r s with
     | false =>
      rw [hq2] at c5 hx3
      rw [if_neg (by simp),List.nil_append] at hx3
      refine W_x (tok_flag tok (fun t=>t == 34)) mixed ?_
      simp -implicitDefEqProofs -dsimp [hkb,hkR,hse.symm,encRw,LV,L1,flagT]
      refine (callP (c5) (by simp)).mono ?_
      rintro r H' ⟨rfl,rfl⟩
      simp -implicitDefEqProofs -dsimp [wrapS k2 (by omega),L1,flagT]
      refine hN2 (k2+1,o3) _ _ hx3 (by simp only; omega) (by simp) ⟨[B.cells [.int .i64 s.id,.lst 3 false (s.vals.map encV)]],by simp [L1,encI]⟩ (by simp; exact hdp) (hrb6 _ _ _)
     | true =>
      rw [hq2] at c5 hx3
      rw [if_pos rfl] at hx3
      refine W_x (tok_flag tok (fun t=>t == 34)) mixed ?_
      simp -implicitDefEqProofs -dsimp [hkb,hkR,hse.symm,encRw,LV,L1,flagT]
      refine (callP (c5) (by simp)).mono ?_
      rintro r H' ⟨rfl,rfl⟩
      simp -implicitDefEqProofs -dsimp [cap24 o3.length (by omega),wrapN o3.length (by omega),wrapS k2 (by omega),L1,flagT]
      refine hN2 (k2+1,o3++[[r.id,s.id]]) _ _ (by rw [←hx3]; simp [Nat.add_assoc]) (by simp only; omega) (by simp) ⟨[B.cells [.int .i64 s.id,.lst 3 false (s.vals.map encV)]],by simp [encI,L1,hk]⟩ (by simp; exact hdp) (hrb6 _ _ _)
    ·rw [List.drop_of_length_le (show ms.length≤i+1+k2 by omega)] at hx3
     refine W_x (tok_flag tok (fun t=>t == 34)) mixed ?_
     simp -implicitDefEqProofs -dsimp [hkb,L1,flagT]
     refine hQ2 _ _ _ ?_
     simp -implicitDefEqProofs -dsimp [wrapS i (by omega),L1,flagT]
     refine hN (i+1,o1++[[r.id]],o3) _ _ ⟨(by rw [←hx1]; simp),by simpa using hx3⟩ (by simp only; omega) (by simp [hk]) ⟨[B.cells [.int .i64 r.id,.lst 3 false (r.vals.map encV)]],by simp [hk,L1,encI]⟩ (by simp) (hrb5 _ _)
  ·rw [List.drop_of_length_le (show ms.length≤i by omega),List.filter_nil,List.map_nil,List.append_nil] at hx1
   rw [List.drop_of_length_le (show ms.length≤i by omega),prL,List.append_nil] at hx2
   subst hx1
   subst hx2
   refine W_frz 4 [11] rfl (by simp) ?_
   have hl1:o1.length≤8:=hS8
   have hl2:o2.length≤64:=hS64
   by_cases h0:o2=[]
   ·subst h0
    refine W_x (tok_flag tok (fun t=>t == 34)) mixed ?_
    simp -implicitDefEqProofs -dsimp [hb,L1,flagT]
    refine hQ _ _ _ ?_
    simp -implicitDefEqProofs -dsimp [L1,flagT]
    refine ⟨expx_tup2 (expx_buf rfl (by simp) ?_),?_⟩
    all_goals simp [LT]
   ·refine W_x (tok_flag tok (fun t=>t == 34)) mixed ?_
    simp -implicitDefEqProofs -dsimp [hb,L1,flagT]
    refine hQ _ _ _ ?_
    simp -implicitDefEqProofs -dsimp [h0,show o1.length+o2.length≤9223372036854775807 by omega,show (o1.length+o2.length)*24≤140737488355328 by omega,L1,flagT]
    refine ⟨expx_tup2 (expx_buf (e:=34) (fz:=false) (xs:=(o1++o2).map (L1 true)) (by simp) (by simp) ?_),?_⟩
    ·intro x hx; obtain ⟨y,_,rfl⟩:=List.mem_map.1 hx; exact L1_pure _ _
    ·refine .lst _ _ _ fun x hx=>?_
     obtain ⟨y,_,rfl⟩:=List.mem_map.1 hx
     exact L1_pure _ _
theorem tm_ok {t:Tb} (g:TbC t) {d:Dn} {rs:List Rw} (hr:rs.length=d.vars.toNat) (hm:∀r∈rs,r∈t.rows) {x:Tm} (h:tmB t.attrs.length d.vars x=true):TmOk rs x:=by
 unfold tmB at h
 by_cases h0:x.v=0
 ·exact .inl h0
 ·rw [if_neg h0] at h
  simp only [Bool.and_eq_true,decide_eq_true_eq] at h
  obtain ⟨h1,h2,h3,h4,_⟩:=h
  have hk:(x.v - 1).toNat<rs.length:=by omega
  refine .inr ⟨(x.v - 1).toNat,x.a.toNat,hk,by omega,by omega,?_⟩
  rw [g.len _ (hm _ (List.getElem_mem hk))]
  omega
def DnS (d:Dn):Prop:=∀a∈d.atoms,a.l.x.s.size≤maxLen∧a.r.x.s.size≤maxLen
theorem at_ok {t:Tb} (g:TbC t) (hs:TbS t) {d:Dn} (hd:DnS d) (h:dnB t.attrs.length d=true):∀rs:List Rw,rs.length=d.vars.toNat→(∀r∈rs,r∈t.rows)→∀a∈d.atoms,AtOk rs a:=fun rs hr hm a ha=>by
 unfold dnB at h
 simp only [Bool.and_eq_true,List.all_eq_true] at h
 have h1:=h.2.2.2 a ha
 unfold atB at h1
 simp only [Bool.and_eq_true,decide_eq_true_eq] at h1
 have ol:=tm_ok g hr hm h1.2.2.1
 refine ⟨ol,tm_ok g hr hm h1.2.2.2,h1.1,h1.2.1,?_⟩
 rcases ol with h0 | ⟨k,j,hk,e1,e2,e3⟩
 ·have:tmV rs a.l=a.l.x:=by simp [tmV,h0]
  rw [this]; exact (hd a ha).1
 ·rw [tmV_at hk e1 e2 e3]
  exact hs.sz _ (hm _ (List.getElem_mem hk)) _ (List.getElem_mem e3)
theorem checkedD_u (t:Tb) (d:Dn) (f g f2:Bool) (h:TbS t) (ha:d.atoms.length≤1000000) (hv:validT t=0) (ho:dnB t.attrs.length d=true):ConP Tryz.prog 193 [encTb f g t,encDn f2 d] fun r=>r = .int .i64 0:=by
 have c1:=tableValid t f g h.ok
 rw [hv] at c1
 have c2:=validD_u t.attrs.length d f2 ha
 rw [ho] at c2
 have h8:=h.few
 simp only [encTb,LS,LR,encDn,LA] at c1 c2
 by_cases h3:d.vars=3
 ·rw [h3] at c2
  refine conP_of_conH (conH_of_W tok Tryz.func193 rfl rfl ?_)
  refine wx ?_
  simp -implicitDefEqProofs -dsimp [Tryz.f193,List.replicate,encTb,LS,LR,encDn,LA,h3]
  refine (callP (c1) (by simp)).mono ?_
  rintro r H' ⟨rfl,rfl⟩
  simp -implicitDefEqProofs -dsimp []
  refine (callP (c2) (by simp)).mono ?_
  rintro r H' ⟨rfl,rfl⟩
  simp -implicitDefEqProofs -dsimp [show ¬(200:Int)<t.rows.length by omega]
 ·refine conP_of_conH (conH_of_W tok Tryz.func193 rfl rfl ?_)
  refine wx ?_
  simp -implicitDefEqProofs -dsimp [Tryz.f193,List.replicate,encTb,LS,LR,encDn,LA]
  refine (callP (c1) (by simp)).mono ?_
  rintro r H' ⟨rfl,rfl⟩
  simp -implicitDefEqProofs -dsimp []
  refine (callP (c2) (by simp)).mono ?_
  rintro r H' ⟨rfl,rfl⟩
  simp -implicitDefEqProofs -dsimp [h3]
theorem violD_u (t:Tb) (d:Dn) (f g f2:Bool) (h:TbS t) (hd:DnS d) (ha:d.atoms.length≤1000000) (hv:validT t=0) (ho:dnB t.attrs.length d=true):ConP Tryz.prog 132 [encTb f g t,encDn f2 d] fun r=>r = .tup [LL false (sortLi (visF d t.rows d.vars.toNat [] [])),.int .i64 0]:=by
 have ct:=tbC hv
 obtain ⟨v1,v3⟩:=dn_vars ho
 have c1:=checkedD_u t d f g f2 h ha hv ho
 have hb:=back_u t d (tcB t f g) (dcB d f2) (fun n=>tcB_rb n t f g) (fun n=>dcB_rb n d f2) v1 v3
 have hK0:∀o,(VO (tcB t f g) (dcB d f2) o).length=6:=fun o=>rfl
 have hp0:0+t.rows.length^d.vars.toNat<20000:=by have:=pow_k (k:=d.vars.toNat) h.few (by omega); omega
 have c2:=visit_u t d f g f2 (.fn 195 [.ptr 3 0,.ptr 4 0]) (VO (tcB t f g) (dcB d f2)) 6 hK0 (VO_rb (fun n=>tcB_rb n t f g) (fun n=>dcB_rb n d f2)) (by simp [rb,rb1]) h.few ha (at_ok ct h hd ho) v1 v3 hb d.vars.toNat [] [] [] false (by simp) (by simp) (by simp) hp0 (by simp)
 rw [List.append_nil] at c2
 have c3:=conH_lf (args:=[encTb f g t,encDn f2 d,.nilS,.fn 195 [.ptr 3 0,.ptr 4 0]]) c2 ⟨.inl rfl,.inl rfl,.inr (.inr ⟨2,rfl,rfl⟩),.inl rfl,trivial⟩
 obtain ⟨o,hoe⟩:∃o,o=visF d t.rows d.vars.toNat [] []:=⟨_,rfl⟩
 have hol:o.length≤512:=by
  have:=visF_len (d:=d) (R:=t.rows) d.vars.toNat [] []
  have h5:=pow_k (k:=d.vars.toNat) h.few (by omega)
  rw [←hoe] at this
  simp only [List.length_nil] at this
  omega
 have hls:∀l∈o,l.length≤1000000:=fun l hl=>by
  rw [hoe] at hl
  rcases (visF_mem _ _ _ _).1 hl with hh | ⟨q,h1,_,_,h4⟩
  ·cases hh
  ·rw [h4,srt_len,idsR_len]; simp; omega
 rw [←hoe] at c3 ⊢
 simp only [List.append_nil] at c3
 have c4:=sortLi_u (H:=VO (tcB t f g) (dcB d f2) o) (k:=5) (e:=34) (f:=false) o o.length rfl (by show 5<6; omega) (by omega) hls
 rw [show LBi (VO (tcB t f g) (dcB d f2) o) 5 34 false o=VO (tcB t f g) (dcB d f2) o from rfl] at c4
 have hsl:=sortLi_len o
 obtain ⟨s,hse⟩:∃s,s=sortLi o:=⟨_,rfl⟩
 rw [←hse] at c4 hsl ⊢
 simp only [LBi,VO,VK,tcB,dcB,encTb,encDn,LR,LS,LA,List.set_cons_succ,List.set_cons_zero] at c1 c3 c4
 refine conP_of_conX (conH_of_W tok Tryz.func132 rfl rfl ?_)
 refine W_seq ?_
 refine wx ?_
 simp -implicitDefEqProofs -dsimp [Tryz.f132,List.replicate,encTb,encDn,LR,LS,LA]
 refine W_seq ?_
 refine wx ?_
 simp -implicitDefEqProofs -dsimp []
 refine (callP (c1) (by simp)).mono ?_
 rintro r H' ⟨rfl,rfl⟩
 simp -implicitDefEqProofs -dsimp []
 refine W_seq ?_
 refine wx ?_
 simp -implicitDefEqProofs -dsimp []
 refine W_seq ?_
 refine wx ?_
 simp -implicitDefEqProofs -dsimp []
 refine W_ownC 34 1 [] 4 [0] rfl (by simp) (by simp) ?_
 refine W_seq ?_
 refine wx ?_
 simp -implicitDefEqProofs -dsimp []
 refine wcZ c3 ?_
 rintro r H' ⟨rfl,rfl⟩
 simp -implicitDefEqProofs -dsimp []
 refine wx ?_
 simp -implicitDefEqProofs -dsimp []
 refine wcZ c4 ?_
 rintro r H' ⟨rfl,rfl⟩
 simp -implicitDefEqProofs -dsimp []
 rw [←hsl]
 exact expx_tup2 (expx_buf rfl (by simp) (fun x hx=>by obtain ⟨y,_,rfl⟩:=List.mem_map.1 hx; exact L1_pure _ _))
end
end Go.Proofs.YtjogkbekekdkjaaGreatDoor
namespace Go.Proofs.YtjogkbekekdkjaaGreatDoor
section
open Go Go.AM Go.RowKit
theorem tz_low {x t:Nat} (h0:0<x) (hx:x<4294967296) (ht:t<32) (h:x &&& (4294967296 - x)=2^t):tzI x=t:=by
 have h1:(-(x:Int)) % 4294967296=((4294967296 - x:Nat):Int):=by omega
 have h2:bits BinOp.and IntKind.u32 (x:Int) (-(x:Int) % 4294967296)=((2^t:Nat):Int):=by
  rw [h1,(bits_nat IntKind.u32 32 (by decide) (fun n h1 h2=>by rw [IntKind.wrap_u32]; omega) x (4294967296 - x) (by omega) (by omega)).1,h]
 have key:∀t:Fin 32,(bitsTab[(((2^t.1:Nat):Int)*125613361 % 4294967296 / 134217728).toNat]?).getD 0=(t.1:Int):=by decide
 unfold tzI
 rw [if_neg (by omega)]
 unfold tzIx
 rw [h2]
 exact key ⟨t,ht⟩
def inN (l:List Nat):List Int:=l.map fun n:Nat=>(n:Int)
theorem inN_len (l:List Nat):(inN l).length=l.length:=by simp [inN]
theorem inN_snoc (l:List Nat) (t:Nat):inN (l++[t])=inN l++[(t:Int)]:=by simp [inN]
theorem pred32 (x:Nat) (h:0<x) (h2:x<4294967296):IntKind.u32.wrap ((x:Int) - 1)=((x - 1:Nat):Int):=by rw [IntKind.wrap_u32]; omega
theorem members_u (s:Nat) (hs:s<4294967296):ConP Tryz.prog 178 [.int .u32 s] fun r=>r=L1 false (inN (bitsF 32 s)):=by
 obtain ⟨E,hE⟩:∃E,E=bitsF 32 s:=⟨_,rfl⟩
 rw [←hE]
 have hEl:E.length≤32:=by rw [hE]; exact bitsF_len _ _
 refine conP_of_conH (conH_of_W tok Tryz.func178 rfl rfl ?_)
 refine wx ?_
 simp -implicitDefEqProofs -dsimp [Tryz.f178,List.replicate]
 refine lw_of (W_own 3 1 [3] (by simp) (W_loopM 15 [0,3,4,5,6,7,8,9,10,11,12,13,14] (by simp [mB]<;>rfl) (σ:=Nat×List Nat) (fun p=>p.2++bitsF 32 p.1=E∧p.1<4294967296) (fun p=>p.1) (fun p=>[(0,.int .u32 p.1),(3,.buf 0 0 p.2.length p.2.length)]) (fun p=>[B.buf 3 1 ((inN p.2).map encI) false]) (s,[]) ⟨by rw [hE]; rfl,hs⟩ (by simp) (by simp [inN]) (by simp) ?_))
 rintro ⟨x,out⟩ ⟨hx,hlt⟩ N Q hN hQ
 simp only at hx hlt
 by_cases h0:x=0
 ·subst h0
  rw [bitsF_none (fun j _=>Nat.zero_testBit j),List.append_nil] at hx
  subst hx
  refine wx ?_
  simp -implicitDefEqProofs -dsimp []
  refine hQ _ _ _ ?_
  simp -implicitDefEqProofs -dsimp []
  exact exp_buf rfl (by simp [inN_len]) (by simp [encI])
 ·obtain ⟨t,ht,h1,h2,h3,h4⟩:=bits_step (show 0<x by omega) hlt
  have hc:=tz_con (x:Int)
  rw [tz_low (by omega) hlt ht h3] at hc
  rw [h2] at hx
  have hol:out.length≤32:=by rw [←hx] at hEl; simp only [List.length_append] at hEl; omega
  have ha:=and32 x (x - 1) hlt (by omega)
  obtain ⟨y,hy⟩:∃y,y=x &&& (x - 1):=⟨_,rfl⟩
  rw [←hy] at ha h4 hx
  have hx0:¬(x:Int)=0:=by omega
  refine wx ?_
  simp -implicitDefEqProofs -dsimp [h0,hx0]
  refine (callP (hc) (by simp)).mono ?_
  rintro r H' ⟨rfl,rfl⟩
  simp -implicitDefEqProofs -dsimp [inN_len,cap8 out.length (by omega),pred32 x (by omega) hlt,ha]
  refine hN (y,out++[t]) _ _ ⟨by rw [←hx]; simp,by omega⟩ (by simp only; omega) (by simp) ⟨_,by simp [inN_snoc,encI]; rfl⟩ (by simp) (by simp [encI])
theorem ofD_u (v a:Int):ConP Tryz.prog 236 [.int .i64 v,.int .i64 a] fun r=>r=encTm ⟨v,a,zV⟩:=by
 refine conP_of_conH (conH_of_W tok Tryz.func236 rfl rfl ?_)
 refine wx ?_
 simp -implicitDefEqProofs -dsimp [Tryz.f236,List.replicate,encTm,zV]
theorem both_u (op:Int) (a:Nat):ConP Tryz.prog 179 [.int .i64 op,.int .i64 a] fun r=>r=encAt (bothA op a):=by
 have c1:=ofD_u 1 a
 have c2:=ofD_u 2 a
 simp only [encTm] at c1 c2
 refine conP_of_conH (conH_of_W tok Tryz.func179 rfl rfl ?_)
 refine wx ?_
 simp -implicitDefEqProofs -dsimp [Tryz.f179,List.replicate]
 refine (callP (c1) (by simp)).mono ?_
 rintro r H' ⟨rfl,rfl⟩
 simp -implicitDefEqProofs -dsimp []
 refine (callP (c2) (by simp)).mono ?_
 rintro r H' ⟨rfl,rfl⟩
 simp -implicitDefEqProofs -dsimp []
 rfl
def LDn (f:Bool) (ds:List Dn):V:=.lst 2 f (ds.map (encDn false))
@[simp] theorem LDn_pure (f:Bool) (ds:List Dn):AM.Pure (LDn f ds):=by simp [LDn]
theorem shr32 (a n:Nat) (hn:n≤16):((a:Int)).fdiv (2^min n IntKind.u32.bits)=((a / 2^n:Nat):Int):=by
 have h1:min n IntKind.u32.bits=n:=Nat.min_eq_left (by show n≤32; omega)
 rw [h1,Int.fdiv_eq_ediv_of_nonneg _ (by have:(0:Int)<2^n:=Int.pow_pos (by omega); omega)]
 simp
theorem closV (n:Nat) (d:Fd) (f:Bool) (hn:n≤16) (hd:d.l<4294967296∧d.r<4294967296) (ho:fdOk1 n d=true):ConP Tryz.prog 177 [.int .i64 n,.lst 2 f [encF d]] fun r=>r = .int .i64 0:=by
 have hn1:¬(16:Int)<n:=by omega
 have hn0:¬(n:Int)<0:=by omega
 have h1:=or32 d.l d.r hd.1 hd.2
 have h2:=shr32 (d.l ||| d.r) n hn
 unfold fdOk1 at ho
 rw [decide_eq_true_eq] at ho
 rw [ho] at h2
 obtain ⟨o,hoe⟩:∃o,o=d.l ||| d.r:=⟨_,rfl⟩
 rw [←hoe] at h1 h2
 refine conP_of_conH (conH_of_W tok Tryz.func177 rfl rfl ?_)
 refine wx ?_
 simp -implicitDefEqProofs -dsimp [Tryz.f177,List.replicate,hn0,hn1,encF]
 refine lw_of (W_loopM 31 [4,6,18,19,20,21,22,23,24,25,26,27,28,29,30] (by simp [mB]<;>rfl) (σ:=Nat) (fun i=>i≤1) (fun i=>1 - i) (fun i=>[(18,.int .i64 i)]) (fun _=>[]) 0 (by omega) (by simp) rfl (by simp) ?_)
 intro i hi N Q hN hQ
 by_cases hb:i=0
 ·subst hb
  refine wx ?_
  simp -implicitDefEqProofs -dsimp [h1,h2,show IntKind.i64.wrap (1:Int)=1 from wrap64 (by omega) (by omega)]
  refine hN 1 _ _ (by omega) (by omega) (by simp) ⟨[B.cells [.int .u32 (d.l:Int),.int .u32 (d.r:Int)]],by simp⟩ (by simp) (by simp)
 ·obtain rfl:i=1:=by omega
  refine wx ?_
  simp -implicitDefEqProofs -dsimp []
  refine hQ _ _ _ ?_
  simp -implicitDefEqProofs -dsimp []
end
end Go.Proofs.YtjogkbekekdkjaaGreatDoor
namespace Go.Proofs.YtjogkbekekdkjaaGreatDoor
section
open Go Go.AM
theorem diffN_bit (r l k:Nat) (hl:l<4294967296) (hr:r<4294967296):(diffN r l).testBit k=(r.testBit k&&!l.testBit k):=by
 unfold diffN
 have h:=Nat.testBit_two_pow_sub_succ (x:=l) (n:=32) (by omega) k
 rw [show (2:Nat)^32 - (l+1)=4294967295 - l by omega] at h
 rw [Nat.testBit_and,h]
 by_cases hk:k<32
 ·simp [hk]
 ·have:r.testBit k=false:=Nat.testBit_lt_two_pow (Nat.lt_of_lt_of_le hr (Nat.pow_le_pow_right (by omega:0<2) (show 32≤k by omega)))
  simp [this]
theorem bits_diff (r l:Nat) (hl:l<4294967296) (hr:r<4294967296):bitsF 32 (diffN r l)=fdMs l r:=by
 unfold bitsF fdMs bitsF
 rw [List.filter_filter]
 congr 1
 funext k
 rw [diffN_bit r l k hl hr]
 cases r.testBit k<;>cases l.testBit k<;>rfl
theorem diff32 (r l:Nat) (hl:l<4294967296) (hr:r<4294967296):IntKind.u32.wrap ((r % 2^IntKind.u32.bits &&& (2^IntKind.u32.bits - 1 - l % 2^IntKind.u32.bits):Nat):Int)=((diffN r l:Nat):Int):=by
 rw [modN r hr,modN l hl]
 exact u32w _ (Nat.lt_of_le_of_lt Nat.and_le_left hr)
theorem diffN_lt (r l:Nat) (hr:r<4294967296):diffN r l<4294967296:=Nat.lt_of_le_of_lt Nat.and_le_left hr
theorem cap104 (n:Nat) (h:n≤1000000000):n≤9223372036854775806∧(n+1)*104≤140737488355328:=by omega
theorem cap32d (n:Nat) (h:n≤1000000000):n≤9223372036854775806∧(n+1)*32≤140737488355328:=by omega
theorem inN_at {l:List Nat} {i:Nat} (h:i<l.length):(inN l)[i]?=some ((l[i]:Nat):Int):=by simp [inN,h]
def dnL (L:List Nat) (M:List Nat) (j:Nat):List Dn:=(M.take j).map (fdDn L)
theorem atoms_rb (n e:Nat) (al:List At) (fz:Bool):rbB n (.buf e 11 (al.map encAt) fz):=by
 intro x hx
 obtain ⟨y,_,rfl⟩:=List.mem_map.1 hx
 intro c hc
 simp only [encAt,V.cells,List.mem_cons,List.not_mem_nil,or_false] at hc
 rcases hc with rfl | rfl | rfl | rfl | rfl | rfl | rfl | rfl | rfl | rfl | rfl<;>simp [rb,rb1]
theorem dns_rb (n e:Nat) (ds:List Dn) (fz:Bool):rbB n (.buf e 2 (ds.map (encDn false)) fz):=by
 intro x hx
 obtain ⟨y,_,rfl⟩:=List.mem_map.1 hx
 intro c hc
 simp only [encDn,V.cells,List.mem_cons,List.not_mem_nil,or_false] at hc
 rcases hc with rfl | rfl<;>simp [rb,rb1,LA]
theorem fromFD (n:Nat) (d:Fd) (hn:n≤16) (ho:fdOk1 n d=true):ConP Tryz.prog 126 [.int .i64 n,encF d] fun r=>r = .tup [LDn false ((fdMs d.l d.r).map (fdDn (fdLs d.l))),.int .i64 0]:=by
 obtain ⟨hl0,hr0⟩:=fd_lt ho
 have hp:=pow16 hn
 have hl:d.l<4294967296:=by omega
 have hr:d.r<4294967296:=by omega
 have c1:=closV n d true hn ⟨hl,hr⟩ ho
 have c2:=members_u (diffN d.r d.l) (diffN_lt _ _ hr)
 rw [bits_diff d.r d.l hl hr] at c2
 have c3:=members_u d.l hl
 have hd:=diff32 d.r d.l hl hr
 obtain ⟨L,hL⟩:∃L,L=fdLs d.l:=⟨_,rfl⟩
 rw [show bitsF 32 d.l=L from hL.symm] at c3
 obtain ⟨M,hM⟩:∃M,M=fdMs d.l d.r:=⟨_,rfl⟩
 rw [←hM] at c2 ⊢
 rw [←hL]
 have hL32:L.length≤32:=by rw [hL]; exact bitsF_len _ _
 have hM32:M.length≤32:=by rw [hM]; exact Nat.le_trans (List.length_filter_le _ _) (bitsF_len _ _)
 simp only [encF,L1] at c1 c2 c3
 have hrb:∀ds:List Dn,∀bl∈[B.cells [.int .u32 (d.l:Int),.int .u32 (d.r:Int)],B.buf 60 2 (ds.map (encDn false)) false],rbB 2 bl:=fun ds bl hbl=>by
  simp only [List.mem_cons,List.not_mem_nil,or_false] at hbl
  rcases hbl with rfl | rfl
  ·intro c hc; simp at hc; rcases hc with rfl | rfl<;>simp [rb,rb1]
  ·exact dns_rb _ _ _ _
 have hrb4:∀(ds:List Dn) (al:List At) (i:Nat),∀bl∈[B.cells [.int .u32 (d.l:Int),.int .u32 (d.r:Int)],B.buf 60 2 (ds.map (encDn false)) false,B.cells [.int .i64 2,.buf 3 0 i i],B.buf 213 11 (al.map encAt) false],rbB 4 bl:=fun ds al i bl hbl=>by
  simp only [List.mem_cons,List.not_mem_nil,or_false] at hbl
  rcases hbl with rfl | rfl | rfl | rfl
  ·intro c hc; simp at hc; rcases hc with rfl | rfl<;>simp [rb,rb1]
  ·exact dns_rb _ _ _ _
  ·intro c hc; simp at hc; rcases hc with rfl | rfl<;>simp [rb,rb1]
  ·exact atoms_rb _ _ _ _
 refine conP_of_conH (conH_of_W tok Tryz.func126 rfl rfl ?_)
 refine wx ?_
 simp -implicitDefEqProofs -dsimp [Tryz.f126,List.replicate,encF]
 refine (callP (c1) (by simp)).mono ?_
 rintro r H' ⟨rfl,rfl⟩
 simp -implicitDefEqProofs -dsimp [hd]
 refine (callP (c2) (by simp)).mono ?_
 rintro r H' ⟨rfl,rfl⟩
 simp -implicitDefEqProofs -dsimp []
 refine lw_of (W_own 60 2 [7] (by simp) (W_loopM 60 [7,9,10,12,27,28,29,30,31,32,33,34,35,36,37,38,39,40,41,42,43,44,45,46,47,48,49,50,51,52,53,54,55,56,57,58,59] (by simp [mB]<;>rfl) (σ:=Nat) (fun j=>j≤M.length) (fun j=>M.length - j) (fun j=>[(27,.int .i64 j),(7,.buf 1 0 j j)]) (fun j=>[B.cells [.int .u32 (d.l:Int),.int .u32 (d.r:Int)],B.buf 60 2 ((dnL L M j).map (encDn false)) false]) 0 (by omega) (by simp [inN_len]) (by simp [dnL]) (by simp) ?_))
 intro j hj N Q hN hQ
 have hjl:(dnL L M j).length=j:=by simp [dnL]; omega
 by_cases hb:j<M.length
 ·obtain ⟨b,hbe⟩:∃b,b=M[j]:=⟨_,rfl⟩
  have hat:=inN_at hb
  rw [←hbe] at hat
  have hat':∀h:j<(inN M).length,(inN M)[j]=(b:Int):=fun h=>by simp [inN,hbe]
  have hds:dnL L M (j+1)=dnL L M j++[fdDn L b]:=by unfold dnL; rw [List.take_succ_eq_append_getElem hb,List.map_append,←hbe]; rfl
  refine W_seq ?_
  refine wx ?_
  simp -implicitDefEqProofs -dsimp [hb,inN_len]
  refine W_seq ?_
  refine wx ?_
  simp -implicitDefEqProofs -dsimp []
  refine W_seq ?_
  refine W_block ?_
  refine W_seq ?_
  refine wx ?_
  simp -implicitDefEqProofs -dsimp [hb,inN_len,hat,hat',encI]
  refine W_seq ?_
  refine wx ?_
  simp -implicitDefEqProofs -dsimp []
  refine W_seq ?_
  refine wx ?_
  simp -implicitDefEqProofs -dsimp []
  refine (callP (c3) (by simp)).mono ?_
  rintro r H' ⟨rfl,rfl⟩
  simp -implicitDefEqProofs -dsimp []
  have haF:∀i,i≤L.length→((L.take i).map (bothA 1)).length=i:=fun i hi=>by simp; omega
  refine lw_of (W_ownC 213 11 [] 2 [1] rfl (by simp) (by simp) (W_loopM 48 [12,36,37,38,39,40,41,42,43,44,45,46,47] (by simp [mB]<;>rfl) (σ:=Nat) (fun i=>i≤L.length) (fun i=>L.length - i) (fun i=>[(36,.int .i64 i)]) (fun i=>[B.cells [.int .u32 (d.l:Int),.int .u32 (d.r:Int)],B.buf 60 2 ((dnL L M j).map (encDn false)) false,B.cells [.int .i64 2,.buf 3 0 i i],B.buf 213 11 (((L.take i).map (bothA 1)).map encAt) false]) 0 (by omega) (by simp [inN_len]) (by simp) (by simp) ?_))
  intro i hi N2 Q2 hN2 hQ2
  have hal:=haF i hi
  by_cases hbi:i<L.length
  ·obtain ⟨x,hxe⟩:∃x,x=L[i]:=⟨_,rfl⟩
   have hax:=inN_at hbi
   rw [←hxe] at hax
   have hax':∀h:i<(inN L).length,(inN L)[i]=(x:Int):=fun h=>by simp [inN,hxe]
   have cb:=both_u 1 x
   simp only [encAt,bothA,zV] at cb
   have has:(L.take (i+1)).map (bothA 1)=(L.take i).map (bothA 1)++[bothA 1 x]:=by rw [List.take_succ_eq_append_getElem hbi,List.map_append,←hxe]; rfl
   obtain ⟨al,hae⟩:∃al,al=(L.take i).map (bothA 1):=⟨_,rfl⟩
   rw [←hae] at hal has ⊢
   refine wx ?_
   simp -implicitDefEqProofs -dsimp [hbi,inN_len,hax,hax',encI]
   refine lw_of (W_drawT tok mixed [5,7] [] [(encAt (bothA 1 x),[])] (by kernel_rfl) fun C K hC hK=>?_)
   simp -implicitDefEqProofs [hal,encAt,bothA,zV,cap104 i (by omega)]
   refine ⟨hC _ _ _ _ (callP cb (by simp)),hK _ _ ?_⟩
   simp -implicitDefEqProofs -dsimp [wrapS i (by omega)]
   refine hN2 (i+1) _ _ (by omega) (by omega) (by simp [inN_len]) ⟨[],by simp [has,encAt,bothA,zV]⟩ (by simp) (hrb4 _ _ _)
  ·obtain rfl:i=L.length:=by omega
   have cb:=both_u 2 b
   simp only [encAt,bothA,zV] at cb
   obtain ⟨al,hae⟩:∃al,al=(L.take L.length).map (bothA 1):=⟨_,rfl⟩
   have hdn:encDn false (fdDn L b) = .agg [.int .i64 2,.lst 11 false ((al++[bothA 2 b]).map encAt)]:=by rw [hae,List.take_length]; rfl
   rw [←hae] at hal ⊢
   refine wx ?_
   simp -implicitDefEqProofs -dsimp [hbi,inN_len]
   refine hQ2 _ _ _ ?_
   simp -implicitDefEqProofs -dsimp []
   refine W_seq ?_
   refine W_drawT tok mixed [5,7] [] [(.agg [.int .i64 1,.int .i64 (b:Int),.int .i64 0,.int .i64 0,.str ByteArray.empty,.int .i64 2,.int .i64 2,.int .i64 (b:Int),.int .i64 0,.int .i64 0,.str ByteArray.empty],[])] (by kernel_rfl) fun C K hC hK=>?_
   simp -implicitDefEqProofs [hal,cap104 L.length (by omega)]
   refine ⟨hC _ _ _ _ (callP cb (by simp)),hK _ _ ?_⟩
   simp only [thenQ_normal]
   refine W_frzC 3 [] 2 [1] rfl rfl (by simp) (by simp [hal]) ?_
   refine wx ?_
   simp -implicitDefEqProofs -dsimp [hjl,cap32d j (by omega),wrapN j (by omega)]
   refine wx ?_
   simp -implicitDefEqProofs -dsimp [wrapS j (by omega)]
   refine hN (j+1) _ _ (by omega) (by omega) (by simp [inN_len]) ⟨[B.cells [.int .i64 2,.lst 11 false (al.map encAt++[.agg [.int .i64 1,.int .i64 (b:Int),.int .i64 0,.int .i64 0,.str ByteArray.empty,.int .i64 2,.int .i64 2,.int .i64 (b:Int),.int .i64 0,.int .i64 0,.str ByteArray.empty]])],B.buf 213 11 (al.map encAt++[.agg [.int .i64 1,.int .i64 (b:Int),.int .i64 0,.int .i64 0,.str ByteArray.empty,.int .i64 2,.int .i64 2,.int .i64 (b:Int),.int .i64 0,.int .i64 0,.str ByteArray.empty]]) true],by simp [hds,hdn,encAt,bothA,zV]⟩ (by simp) (hrb _)
 ·obtain rfl:j=M.length:=by omega
  refine W_frz 1 [7] rfl (by simp [hjl]) ?_
  refine wx ?_
  simp -implicitDefEqProofs -dsimp [hb,inN_len]
  refine hQ _ _ _ ?_
  simp -implicitDefEqProofs -dsimp []
  simp [LDn,dnL]
structure CnB (c:Cn):Prop where
 l:c.cfd.l.length≤1000000
 p:c.cfd.p.length≤1000000
 ol:c.od.l.length≤1000000
 or:c.od.r.length≤1000000
 at_:c.dn.atoms.length≤1000000
 fd:c.fd.l<4294967296∧c.fd.r<4294967296
 sz:DnS c.dn
def trV (t:Tb) (c:Cn):V :=
 if cnErr t c=0 then (if c.kind=1 then LDn false ((fdMs c.fd.l c.fd.r).map (fdDn (fdLs c.fd.l))) else if c.kind=6 then .lst 2 true [encDn false c.dn] else .nilS) else .nilS
theorem trV_pure (t:Tb) (c:Cn):AM.Pure (trV t c):=by
 unfold trV
 split
 ·split
  ·exact LDn_pure _ _
  ·split
   ·exact .lst _ _ _ (by simp)
   ·exact .nilS
 ·exact .nilS
theorem translated_u (t:Tb) (c:Cn) (f g:Bool) (hn:t.attrs.length≤16) (hc:CnB c):ConP Tryz.prog 78 [encTb f g t,encCn c] fun r=>r = .tup [trV t c,.int .i64 (cnErr t c)]:=by
 have hv:∀e,cnErr t c=e→e≠0→trV t c = .nilS:=fun e h1 h2=>by unfold trV; rw [if_neg (by rw [h1]; exact h2)]
 cases hnm:(c.table.toList == t.name.toList) with
 | false =>
  have he:cnErr t c=1:=by unfold cnErr; rw [hnm]; rfl
  rw [he,hv 1 he (by decide)]
  refine conP_of_conH (conH_of_W tok Tryz.func78 rfl rfl ?_)
  refine wx ?_
  simp -implicitDefEqProofs -dsimp [Tryz.f78,List.replicate,encTb,LS,LR,encCn,L1,LCl,LA,hnm]
 | true =>
  by_cases hlo:c.kind<1
  ·have he:cnErr t c=1:=by unfold cnErr; rw [hnm,decide_eq_false (show ¬1≤c.kind by omega)]; rfl
   rw [he,hv 1 he (by decide)]
   refine conP_of_conH (conH_of_W tok Tryz.func78 rfl rfl ?_)
   refine wx ?_
   simp -implicitDefEqProofs -dsimp [Tryz.f78,List.replicate,encTb,LS,LR,encCn,L1,LCl,LA,hnm,hlo]
  by_cases hhi:6<c.kind
  ·have he:cnErr t c=1:=by unfold cnErr; rw [hnm,decide_eq_false (show ¬c.kind≤6 by omega),Bool.and_false]; rfl
   rw [he,hv 1 he (by decide)]
   refine conP_of_conH (conH_of_W tok Tryz.func78 rfl rfl ?_)
   refine wx ?_
   simp -implicitDefEqProofs -dsimp [Tryz.f78,List.replicate,encTb,LS,LR,encCn,L1,LCl,LA,hnm,hlo,hhi]
  have hc0:cnErr t c=if c.kind=2∨c.kind=3 then 14 else if c.kind=1 then (if fdOk1 t.attrs.length c.fd=true then 0 else 1) else
    if c.kind=4 then (if cfB t.attrs.length c.cfd=true then 0 else 1) else if c.kind=5 then (if odB t.attrs.length c.od=true then 0 else 1) else (if dnB t.attrs.length c.dn=true then 0 else 1):=by
   unfold cnErr
   rw [hnm,decide_eq_true (show 1≤c.kind by omega),decide_eq_true (show c.kind≤6 by omega)]; rfl
  have hc6:c.kind=1∨c.kind=2∨c.kind=3∨c.kind=4∨c.kind=5∨c.kind=6:=by omega
  rcases hc6 with hk | hk | hk | hk | hk | hk
  ·have h1:=or32 c.fd.l c.fd.r hc.fd.1 hc.fd.2
   have h2:=shr32 (c.fd.l ||| c.fd.r) t.attrs.length hn
   obtain ⟨o,hoe⟩:∃o,o=c.fd.l ||| c.fd.r:=⟨_,rfl⟩
   rw [←hoe] at h1 h2
   cases ho:fdOk1 t.attrs.length c.fd with
   | false =>
    have he:cnErr t c=1:=by rw [hc0,hk,ho]; rfl
    have h3:¬((o / 2^t.attrs.length:Nat):Int)=0:=by
     unfold fdOk1 at ho
     rw [decide_eq_false_iff_not,←hoe] at ho
     omega
    obtain ⟨q,hq⟩:∃q,q=o / 2^t.attrs.length:=⟨_,rfl⟩
    rw [←hq] at h2 h3
    rw [he,hv 1 he (by decide)]
    refine conP_of_conH (conH_of_W tok Tryz.func78 rfl rfl ?_)
    refine wx ?_
    simp -implicitDefEqProofs -dsimp [Tryz.f78,List.replicate,encTb,LS,LR,encCn,L1,LCl,LA,hnm,hk,h1,h2,h3,show ¬q=0 by omega]
   | true =>
    have he:cnErr t c=0:=by rw [hc0,hk,ho]; rfl
    have htv:trV t c=LDn false ((fdMs c.fd.l c.fd.r).map (fdDn (fdLs c.fd.l))):=by unfold trV; rw [if_pos he,if_pos hk]
    have cf:=fromFD t.attrs.length c.fd hn ho
    unfold fdOk1 at ho
    rw [decide_eq_true_eq,←hoe] at ho
    rw [ho] at h2
    rw [he,htv]
    simp only [encF] at cf
    refine conP_of_conH (conH_of_W tok Tryz.func78 rfl rfl ?_)
    refine wx ?_
    simp -implicitDefEqProofs -dsimp [Tryz.f78,List.replicate,encTb,LS,LR,encCn,L1,LCl,LA,hnm,hk,h1,h2]
    refine (callP (cf) (by simp)).mono ?_
    rintro r H' ⟨rfl,rfl⟩
    simp -implicitDefEqProofs -dsimp []
  ·have he:cnErr t c=14:=by rw [hc0,hk]; rfl
   rw [he,hv 14 he (by decide)]
   refine conP_of_conH (conH_of_W tok Tryz.func78 rfl rfl ?_)
   refine wx ?_
   simp -implicitDefEqProofs -dsimp [Tryz.f78,List.replicate,encTb,LS,LR,encCn,L1,LCl,LA,hnm,hk]
  ·have he:cnErr t c=14:=by rw [hc0,hk]; rfl
   rw [he,hv 14 he (by decide)]
   refine conP_of_conH (conH_of_W tok Tryz.func78 rfl rfl ?_)
   refine wx ?_
   simp -implicitDefEqProofs -dsimp [Tryz.f78,List.replicate,encTb,LS,LR,encCn,L1,LCl,LA,hnm,hk]
  ·have cv:=validC_u t.attrs.length c.cfd false false hn hc.l hc.p
   simp only [encCfd,L1,LCl] at cv
   cases ho:cfB t.attrs.length c.cfd with
   | false =>
    have he:cnErr t c=1:=by rw [hc0,hk,ho]; rfl
    rw [ho] at cv
    rw [he,hv 1 he (by decide)]
    refine conP_of_conH (conH_of_W tok Tryz.func78 rfl rfl ?_)
    refine wx ?_
    simp -implicitDefEqProofs -dsimp [Tryz.f78,List.replicate,encTb,LS,LR,encCn,L1,LCl,LA,hnm,hk]
    refine (callP (cv) (by simp)).mono ?_
    rintro r H' ⟨rfl,rfl⟩
    simp -implicitDefEqProofs -dsimp []
   | true =>
    have he:cnErr t c=0:=by rw [hc0,hk,ho]; rfl
    have htv:trV t c = .nilS:=by unfold trV; rw [if_pos he,if_neg (by omega),if_neg (by omega)]
    rw [ho] at cv
    rw [he,htv]
    refine conP_of_conH (conH_of_W tok Tryz.func78 rfl rfl ?_)
    refine wx ?_
    simp -implicitDefEqProofs -dsimp [Tryz.f78,List.replicate,encTb,LS,LR,encCn,L1,LCl,LA,hnm,hk]
    refine (callP (cv) (by simp)).mono ?_
    rintro r H' ⟨rfl,rfl⟩
    simp -implicitDefEqProofs -dsimp []
  ·have cv:=validO_u t.attrs.length c.od false false hc.ol hc.or
   simp only [encOd,L1] at cv
   cases ho:odB t.attrs.length c.od with
   | false =>
    have he:cnErr t c=1:=by rw [hc0,hk,ho]; rfl
    rw [ho] at cv
    rw [he,hv 1 he (by decide)]
    refine conP_of_conH (conH_of_W tok Tryz.func78 rfl rfl ?_)
    refine wx ?_
    simp -implicitDefEqProofs -dsimp [Tryz.f78,List.replicate,encTb,LS,LR,encCn,L1,LCl,LA,hnm,hk]
    refine (callP (cv) (by simp)).mono ?_
    rintro r H' ⟨rfl,rfl⟩
    simp -implicitDefEqProofs -dsimp []
   | true =>
    have he:cnErr t c=0:=by rw [hc0,hk,ho]; rfl
    have htv:trV t c = .nilS:=by unfold trV; rw [if_pos he,if_neg (by omega),if_neg (by omega)]
    rw [ho] at cv
    rw [he,htv]
    refine conP_of_conH (conH_of_W tok Tryz.func78 rfl rfl ?_)
    refine wx ?_
    simp -implicitDefEqProofs -dsimp [Tryz.f78,List.replicate,encTb,LS,LR,encCn,L1,LCl,LA,hnm,hk]
    refine (callP (cv) (by simp)).mono ?_
    rintro r H' ⟨rfl,rfl⟩
    simp -implicitDefEqProofs -dsimp []
  ·have cv:=validD_u t.attrs.length c.dn false hc.at_
   simp only [encDn,LA] at cv
   cases ho:dnB t.attrs.length c.dn with
   | false =>
    have he:cnErr t c=1:=by rw [hc0,hk,ho]; rfl
    rw [ho] at cv
    rw [he,hv 1 he (by decide)]
    refine conP_of_conH (conH_of_W tok Tryz.func78 rfl rfl ?_)
    refine wx ?_
    simp -implicitDefEqProofs -dsimp [Tryz.f78,List.replicate,encTb,LS,LR,encCn,L1,LCl,LA,hnm,hk]
    refine (callP (cv) (by simp)).mono ?_
    rintro r H' ⟨rfl,rfl⟩
    simp -implicitDefEqProofs -dsimp []
   | true =>
    have he:cnErr t c=0:=by rw [hc0,hk,ho]; rfl
    have htv:trV t c = .lst 2 true [encDn false c.dn]:=by unfold trV; rw [if_pos he,if_neg (by omega),if_pos hk]
    rw [ho] at cv
    rw [he,htv]
    refine conP_of_conH (conH_of_W tok Tryz.func78 rfl rfl ?_)
    refine wx ?_
    simp -implicitDefEqProofs -dsimp [Tryz.f78,List.replicate,encTb,LS,LR,encCn,L1,LCl,LA,hnm,hk]
    refine (callP (cv) (by simp)).mono ?_
    rintro r H' ⟨rfl,rfl⟩
    simp -implicitDefEqProofs -dsimp [encDn,LA]
theorem bitsF_lt {n s:Nat} (h:s<2^n):∀m,bitsF (n+m) s=bitsF n s
 | 0=>rfl
 | m+1=>by
  rw [←Nat.add_assoc,bitsF_succ,bitsF_lt h m,Nat.testBit_lt_two_pow (Nat.lt_of_lt_of_le h (Nat.pow_le_pow_right (by omega) (by omega)))]
  simp
theorem fdDn_ok {n l r b:Nat} (hn:n≤16) (hl:l<2^n) (hr:r<2^n) (hb:b∈fdMs l r):dnB n (fdDn (fdLs l) b)=true∧DnS (fdDn (fdLs l) b)∧(fdDn (fdLs l) b).atoms.length≤20:=by
 have hL:fdLs l=bitsF n l:=by have:=bitsF_lt hl (32 - n); rw [show n+(32 - n)=32 by omega] at this; exact this
 have hlen:(fdLs l).length≤16:=by rw [hL]; exact Nat.le_trans (bitsF_len n l) hn
 have hbn:b<n:=by
  unfold fdMs at hb
  have h1:=(List.mem_filter.1 hb).1
  have:=bitsF_lt hr (32 - n)
  rw [show n+(32 - n)=32 by omega] at this
  rw [this] at h1
  exact (bitsF_mem.1 h1).1
 have hat:(fdDn (fdLs l) b).atoms.length≤20:=by simp [fdDn]; omega
 have htm:∀(v:Int) (a:Nat),v=1∨v=2→a<n→tmB n 2 ⟨v,(a:Int),zV⟩=true:=fun v a hv ha=>by
  unfold tmB
  have hz:zeroV zV=true:=by kernel_rfl
  rw [if_neg (by show ¬v=0; omega)]
  show (decide (1≤v)&&(decide (v≤2)&&(decide (0≤(a:Int))&&(decide ((a:Int)<n)&&zeroV zV))))=true
  rw [hz,decide_eq_true (show 1≤v by omega),decide_eq_true (show v≤2 by omega),decide_eq_true (show 0≤(a:Int) by omega),decide_eq_true (show (a:Int)<n by omega)]; rfl
 have hab:∀(op:Int) (a:Nat),op=1∨op=2→a<n→atB n 2 (bothA op a)=true:=fun op a ho ha=>by
  unfold atB bothA
  simp only [htm 1 a (.inl rfl) ha,htm 2 a (.inr rfl) ha]
  simp
  omega
 refine ⟨?_,fun a ha=>?_,hat⟩
 ·unfold dnB
  rw [decide_eq_true (show 1≤(fdDn (fdLs l) b).vars from by show (1:Int)≤2; omega),decide_eq_true (show (fdDn (fdLs l) b).vars≤3 from by show (2:Int)≤3; omega),decide_eq_true hat,Bool.true_and,Bool.true_and,Bool.true_and,List.all_eq_true]
  intro a ha
  unfold fdDn at ha
  rcases List.mem_append.1 ha with h | h
  ·obtain ⟨k,hk,rfl⟩:=List.mem_map.1 h
   rw [hL] at hk
   exact hab 1 k (.inl rfl) (bitsF_mem.1 hk).1
  ·rw [List.mem_singleton] at h
   subst h
   exact hab 2 b (.inr rfl) hbn
 ·unfold fdDn at ha
  have hz:zV.s.size≤maxLen:=by decide
  rcases List.mem_append.1 ha with h | h
  ·obtain ⟨k,hk,rfl⟩:=List.mem_map.1 h
   exact ⟨hz,hz⟩
  ·rw [List.mem_singleton] at h
   subst h
   exact ⟨hz,hz⟩
def vlV (t:Tb) (c:Cn):V:=if cnErr t c=0 then LL false (cnV t c) else .nilS
def cnCells (c:Cn):List V:=[.str c.name,.str c.table,.int .i64 c.kind,.int .u32 (c.fd.l:Int),.int .u32 (c.fd.r:Int),.int .u32 c.m1,.int .u32 c.m2,.str c.i1,.lst 1 false (c.i2.map encI),.str c.i3,.lst 1 false (c.i4.map encI),.lst 1 false (c.cfd.l.map encI),.int .i64 c.cfd.r,.lst 4 false (c.cfd.p.map encCl),.lst 1 false (c.od.l.map encI),.lst 1 false (c.od.r.map encI),.int .i64 c.dn.vars,.lst 11 false (c.dn.atoms.map encAt)]
theorem cnCells_rb (n:Nat) (c:Cn):rbB n (.cells (cnCells c)):=fun x hx=>by
 unfold cnCells at hx
 simp only [List.mem_cons,List.not_mem_nil,or_false] at hx
 rcases hx with rfl | rfl | rfl | rfl | rfl | rfl | rfl | rfl | rfl | rfl | rfl | rfl | rfl | rfl | rfl | rfl | rfl | rfl<;>simp [rb,rb1]
def denF (t:Tb) (d:Dn):List (List Int):=sortLi (visF d t.rows d.vars.toNat [] [])
theorem den_list {t:Tb} {c:Cn} (ct:TbC t) (hc:CnB c) (he:cnErr t c=0) (hq:(c.kind=1∧fdOk1 t.attrs.length c.fd=true)∨(c.kind=6∧dnB t.attrs.length c.dn=true)) :
  ∃(fl:Bool) (D:List Dn),trV t c = .lst 2 fl (D.map (encDn false))∧cnV t c=D.flatMap (denF t)∧D.length≤1000∧(∀d∈D,dnB t.attrs.length d=true∧DnS d∧d.atoms.length≤1000000):=by
 rcases hq with ⟨hk,ho⟩ | ⟨hk,ho⟩
 ·have hl:(fdMs c.fd.l c.fd.r).length≤32:=Nat.le_trans (List.length_filter_le _ _) (bitsF_len 32 _)
  refine ⟨false,(fdMs c.fd.l c.fd.r).map (fdDn (fdLs c.fd.l)),?_,?_,by rw [List.length_map]; omega,fun d hd=>?_⟩
  ·unfold trV; rw [if_pos he,if_pos hk]; rfl
  ·unfold cnV fdV; rw [if_pos hk,List.flatMap_map]; rfl
  ·obtain ⟨b,hb,rfl⟩:=List.mem_map.1 hd
   obtain ⟨q1,q2,q3⟩:=fdDn_ok ct.wide (fd_lt ho).1 (fd_lt ho).2 hb
   exact ⟨q1,q2,by omega⟩
 ·refine ⟨true,[c.dn],?_,?_,by simp,fun d hd=>?_⟩
  ·unfold trV; rw [if_pos he,if_neg (by omega),if_pos hk]; rfl
  ·unfold cnV; rw [if_neg (by omega),if_neg (by omega),if_neg (by omega)]; simp [denF]
  ·rw [List.mem_singleton] at hd
   subst hd
   exact ⟨ho,hc.sz,hc.at_⟩
theorem flat_drop {α:Type} {F:α→List (List Int)} {D:List α} {i:Nat} (h:i<D.length):(D.drop i).flatMap F=F D[i]++(D.drop (i+1)).flatMap F:=by
 rw [List.drop_eq_getElem_cons h,List.flatMap_cons]
theorem capV (n m:Nat) (h:n+m≤1000000000):n+m≤9223372036854775807∧(n+m)*24≤140737488355328:=by omega
theorem violations_u (t:Tb) (c:Cn) (f g:Bool) (h:TbS t) (hv:validT t=0) (hc:CnB c):ConP Tryz.prog 79 [encTb f g t,encCn c] fun r=>r = .tup [vlV t c,.int .i64 (cnErr t c)]:=by
 have ct:=tbC hv
 have c1:=translated_u t c f g ct.wide hc
 by_cases he:cnErr t c=0
 ·have hvl:vlV t c=LL false (cnV t c):=by unfold vlV; rw [if_pos he]
  have h4:=cnV_len h.few he
  rw [hvl]
  rw [he] at c1 ⊢
  rcases cn_ok he with ⟨hk,ho⟩ | ⟨hk,ho⟩ | ⟨hk,ho⟩ | ⟨hk,ho⟩
  case inr.inl =>
   have c2:=violC_u t c.cfd f g false false h hc.l hc.p hv ho
   have hcv:cnV t c=cfdV c.cfd t.rows:=by unfold cnV; rw [if_neg (by omega),if_pos hk]
   have htv:trV t c = .nilS:=by unfold trV; rw [if_pos he,if_neg (by omega),if_neg (by omega)]
   rw [htv] at c1
   rw [hcv]
   simp only [encTb,LS,LR,encCn,L1,LCl,LA,encCfd] at c1 c2
   refine conP_of_conH (conH_of_W tok Tryz.func79 rfl rfl ?_)
   refine wx ?_
   simp -implicitDefEqProofs -dsimp [Tryz.f79,List.replicate,encTb,LS,LR,encCn,L1,LCl,LA]
   refine (callP (c1) (by simp)).mono ?_
   rintro r H' ⟨rfl,rfl⟩
   simp -implicitDefEqProofs -dsimp [hk]
   refine (callP (c2) (by simp)).mono ?_
   rintro r H' ⟨rfl,rfl⟩
   simp -implicitDefEqProofs -dsimp []
  case inr.inr.inl =>
   have c2:=violO_u t c.od f g false false h hc.ol hc.or hv ho
   have hcv:cnV t c=prL (odP c.od) t.rows:=by unfold cnV; rw [if_neg (by omega),if_neg (by omega),if_pos hk]
   have htv:trV t c = .nilS:=by unfold trV; rw [if_pos he,if_neg (by omega),if_neg (by omega)]
   rw [htv] at c1
   rw [hcv]
   simp only [encTb,LS,LR,encCn,L1,LCl,LA,encOd] at c1 c2
   refine conP_of_conH (conH_of_W tok Tryz.func79 rfl rfl ?_)
   refine wx ?_
   simp -implicitDefEqProofs -dsimp [Tryz.f79,List.replicate,encTb,LS,LR,encCn,L1,LCl,LA]
   refine (callP (c1) (by simp)).mono ?_
   rintro r H' ⟨rfl,rfl⟩
   simp -implicitDefEqProofs -dsimp [hk]
   refine (callP (c2) (by simp)).mono ?_
   rintro r H' ⟨rfl,rfl⟩
   simp -implicitDefEqProofs -dsimp []
  all_goals
   have hD:=den_list ct hc he (by first | exact .inl ⟨hk,ho⟩ | exact .inr ⟨hk,ho⟩)
   obtain ⟨fl,D,htv,hcv,hDl,hDk⟩:=hD
   have hk4:¬c.kind=4:=by omega
   have hk5:¬c.kind=5:=by omega
   rw [htv] at c1
   obtain ⟨E,hE⟩:∃E,E=cnV t c:=⟨_,rfl⟩
   rw [←hE] at hcv h4 ⊢
   clear ho hk hvl htv he hE
   have htB:B.cells [.str t.name,.lst 1 f (t.attrs.map V.str),.lst 2 g (t.rows.map encRw)]=tcB t f g:=rfl
   have htr:∀n,rbB n (tcB t f g):=fun n=>tcB_rb n t f g
   have hrb:∀o:List (List Int),∀bl∈[tcB t f g,B.cells (cnCells c),B.buf 34 1 (o.map (L1 false)) false],rbB 3 bl:=fun o bl hbl=>by
    simp only [List.mem_cons,List.not_mem_nil,or_false] at hbl
    rcases hbl with rfl | rfl | rfl
    ·exact htr _
    ·exact cnCells_rb _ _
    ·exact LF_rb _ _ _
   simp only [encTb,LS,LR,encCn,L1,LCl,LA] at c1
   refine conP_of_conH (conH_of_W tok Tryz.func79 rfl rfl ?_)
   refine wx ?_
   simp -implicitDefEqProofs -dsimp [Tryz.f79,List.replicate,encTb,LS,LR,encCn,L1,LCl,LA,hk4,hk5]
   refine (callP (c1) (by simp)).mono ?_
   rintro r H' ⟨rfl,rfl⟩
   simp -implicitDefEqProofs -dsimp [hk4,hk5]
   refine lw_of (W_own 34 1 [8] (by simp) (W_loopM 62 [4,5,8,10,11,12,45,46,47,48,49,50,51,52,53,54,55,56,57,58,59,60,61] (by simp [mB]<;>rfl) (σ:=Nat×List (List Int)) (fun p=>p.2++(D.drop p.1).flatMap (denF t)=E) (fun p=>D.length - p.1) (fun p=>[(45,.int .i64 p.1),(8,.buf 2 0 p.2.length p.2.length)]) (fun p=>[tcB t f g,B.cells (cnCells c),B.buf 34 1 (p.2.map (L1 false)) false]) (0,[]) (by rw [hcv]; rfl) (by simp) (by simp [tcB,cnCells]) (by simp) ?_))
   rintro ⟨i,out⟩ hx N Q hN hQ
   simp only at hx
   by_cases hb:i<D.length
   ·rw [flat_drop hb] at hx
    obtain ⟨q1,q2,q3⟩:=hDk _ (List.getElem_mem hb)
    obtain ⟨d,hde⟩:∃d,d=D[i]:=⟨_,rfl⟩
    rw [←hde] at hx q1 q2 q3
    have c2:=violD_u t d f g false h q2 q3 hv q1
    rw [show sortLi (visF d t.rows d.vars.toNat [] [])=denF t d from rfl] at c2
    obtain ⟨w,hw⟩:∃w,w=denF t d:=⟨_,rfl⟩
    rw [←hw] at c2 hx
    have hol:out.length+w.length≤4000:=by rw [←hx] at h4; simp only [List.length_append] at h4; omega
    simp only [encTb,LS,LR,encDn,LA,LL] at c2
    by_cases hw0:w=[]
    ·subst hw0
     refine wx ?_
     simp -implicitDefEqProofs -dsimp [hb,hde.symm,encDn,LA,tcB]
     refine (callP (c2) (by simp)).mono ?_
     rintro r H' ⟨rfl,rfl⟩
     simp -implicitDefEqProofs -dsimp [wrapS i (by omega)]
     refine hN (i+1,out) _ _ (by simpa using hx) (by simp only; omega) (by simp) ⟨[B.cells [.int .i64 d.vars,.lst 11 false (d.atoms.map encAt)]],by simp [tcB]⟩ (by simp) (hrb _)
    ·refine wx ?_
     simp -implicitDefEqProofs -dsimp [hb,hde.symm,encDn,LA,tcB]
     refine (callP (c2) (by simp)).mono ?_
     rintro r H' ⟨rfl,rfl⟩
     simp -implicitDefEqProofs -dsimp [hw0,capV out.length w.length (by omega),wrapS i (by omega)]
     refine hN (i+1,out++w) _ _ (by rw [←hx]; simp) (by simp only; omega) (by simp) ⟨[B.cells [.int .i64 d.vars,.lst 11 false (d.atoms.map encAt)]],by simp [tcB]⟩ (by simp) (hrb _)
   ·rw [List.drop_of_length_le (by omega),List.flatMap_nil,List.append_nil] at hx
    subst hx
    refine W_frz 2 [8] rfl (by simp) ?_
    refine wx ?_
    simp -implicitDefEqProofs -dsimp [hb]
    refine hQ _ _ _ ?_
    simp -implicitDefEqProofs -dsimp [LL]
    skip
 ·have hvl:vlV t c = .nilS:=by unfold vlV; rw [if_neg he]
  have htv:trV t c = .nilS:=by unfold trV; rw [if_neg he]
  rw [htv] at c1
  rw [hvl]
  obtain ⟨e,hee⟩:∃e,e=cnErr t c:=⟨_,rfl⟩
  rw [←hee] at c1 he ⊢
  simp only [encTb,LS,LR,encCn,L1,LCl,LA] at c1
  refine conP_of_conH (conH_of_W tok Tryz.func79 rfl rfl ?_)
  refine wx ?_
  simp -implicitDefEqProofs -dsimp [Tryz.f79,List.replicate,encTb,LS,LR,encCn,L1,LCl,LA]
  refine (callP (c1) (by simp)).mono ?_
  rintro r H' ⟨rfl,rfl⟩
  simp -implicitDefEqProofs -dsimp [he]
def PosL (l:List Int):Prop:=l≠[]∧l.length≤3∧∀a∈l,0<a
theorem posL_cases {l:List Int} (h:PosL l):(∃a,l=[a]∧0<a)∨(∃a b,l=[a,b]∧0<a∧0<b)∨∃a b c,l=[a,b,c]∧0<a∧0<b∧0<c:=by
 obtain ⟨h1,h2,h3⟩:=h
 match l,h1,h2 with
 | [a],_,_=>exact .inl ⟨a,rfl,h3 a (by simp)⟩
 | [a,b],_,_=>exact .inr (.inl ⟨a,b,rfl,h3 a (by simp),h3 b (by simp)⟩)
 | [a,b,c],_,_=>exact .inr (.inr ⟨a,b,c,rfl,h3 a (by simp),h3 b (by simp),h3 c (by simp)⟩)
 | _::_::_::_::_,_,h2=>simp at h2
theorem key3_inj {a b:List Int} (ha:PosL a) (hb:PosL b) (h:keyEqA (key3 a) (key3 b)=true):a=b:=by
 rcases posL_cases ha with ⟨x,rfl,h1⟩ | ⟨x,y,rfl,h1,h2⟩ | ⟨x,y,z,rfl,h1,h2,h3⟩<;>rcases posL_cases hb with ⟨x',rfl,g1⟩ | ⟨x',y',rfl,g1,g2⟩ | ⟨x',y',z',rfl,g1,g2,g3⟩<;>simp [key3,keyEqA,eqIs] at h ⊢<;>omega
theorem key3_self (a:List Int):keyEqA (key3 a) (key3 a)=true:=by simp [key3,keyEqA,eqIs]
theorem key3_eqP {a b:List Int} (ha:PosL a) (hb:PosL b):keyEqA (key3 a) (key3 b)=(a == b):=by
 by_cases h:a=b
 ·subst h; rw [key3_self]; simp
 ·have h2:(a == b)=false:=by simpa using h
  rw [h2,←Bool.not_eq_true]
  exact fun hh=>h (key3_inj ha hb hh)
theorem findP_no {x:List Int} (hx:PosL x):∀(o:List (List Int)) (i:Nat),(∀l∈o,PosL l)→x∉o→findA (key3 x) (mK o) i=none
 | [],_,_,_=>rfl
 | l::o,i,h,hn=>by
  have h1:=key3_eqP hx (h l (by simp))
  have hne:¬x=l:=fun e=>hn (by rw [e]; simp)
  have h2:(x == l)=false:=by simpa using hne
  show (if keyEqA (key3 x) (key3 l)=true then some (i,V.bool true) else findA (key3 x) (mK o) (i+1))=none
  rw [h1,h2,if_neg (by simp)]
  exact findP_no hx o (i+1) (fun l' hl=>h l' (by simp [hl])) (fun e=>hn (by simp [e]))
theorem findP_yes {x:List Int} (hx:PosL x):∀(o:List (List Int)) (i:Nat),(∀l∈o,PosL l)→x∈o→∃j,findA (key3 x) (mK o) i=some (j,.bool true)∧i≤j∧o[j - i]?=some x
 | [],_,_,h=>by cases h
 | l::o,i,h,hn=>by
  have h1:=key3_eqP hx (h l (by simp))
  by_cases he:x=l
  ·subst he
   refine ⟨i,?_,Nat.le_refl _,by simp⟩
   show (if keyEqA (key3 x) (key3 x)=true then some (i,V.bool true) else findA (key3 x) (mK o) (i+1))=_
   rw [key3_self,if_pos rfl]
  ·have h2:(x == l)=false:=by simpa using he
   obtain ⟨j,hj,hij,hg⟩:=findP_yes hx o (i+1) (fun l' hl=>h l' (by simp [hl])) (by
    rcases List.mem_cons.1 hn with e | e
    ·exact absurd e he
    ·exact e)
   refine ⟨j,?_,by omega,?_⟩
   ·show (if keyEqA (key3 x) (key3 l)=true then some (i,V.bool true) else findA (key3 x) (mK o) (i+1))=_
    rw [h1,h2,if_neg (by simp)]
    exact hj
   ·rw [show j - i=(j - (i+1))+1 by omega,List.getElem?_cons_succ]; exact hg
theorem mK_set {o:List (List Int)} {x:List Int} {j:Nat} (h:o[j]?=some x):(mK o).set j (key3 x,.bool true)=mK o:=by
 unfold mK
 obtain ⟨hj,rfl⟩:=List.getElem?_eq_some_iff.1 h
 have:=List.map_set (f:=fun l:List Int=>(key3 l,V.bool true)) (l:=o) (i:=j) (a:=o[j])
 rw [←this,List.set_getElem_self]
def ddL (l:List (List Int)) (i:Nat):List (List Int):=(l.take i).foldl putN []
theorem ddL_succ {l:List (List Int)} {i:Nat} (h:i<l.length):ddL l (i+1)=putN (ddL l i) l[i]:=by
 unfold ddL
 rw [List.take_succ_eq_append_getElem h,List.foldl_append]; rfl
theorem fold_putN:∀(l o:List (List Int)) (x:List Int),x∈l.foldl putN o↔x∈o∨x∈l
 | [],o,x=>by simp
 | a::l,o,x=>by
  rw [List.foldl_cons,fold_putN l,putN_mem,List.mem_cons,or_assoc]
theorem ddL_mem {l:List (List Int)} {i:Nat} {x:List Int} : x∈ddL l i↔x∈l.take i:=by
 unfold ddL
 rw [fold_putN]; simp
section
def liL (m:List (List Int)):List V:=m.map (L1 false)
theorem liL_len (m:List (List Int)):(liL m).length=m.length:=by simp [liL]
theorem liL_get {m:List (List Int)} {x:Nat} (h:x<(liL m).length):(liL m)[x] = .lst 1 false ((eAt m x).map encI):=by
 have h2:x<m.length:=by simpa [liL] using h
 simp [liL,L1,eAt,h2]
theorem liL_set (m:List (List Int)) (x:Nat) (v:List Int):(liL m).set x (.lst 1 false (v.map encI))=liL (m.set x v):=by
 unfold liL; rw [List.map_set]; rfl
def mixL (m:List (List Int)) (k:Nat):List V:=liL m++List.replicate k .nilS
theorem mix0 (m:List (List Int)):mixL m 0=liL m:=by simp [mixL]
theorem mixL_rb (n e:Nat) (m:List (List Int)) (k:Nat) (fz:Bool):rbB n (.buf e 1 (mixL m k) fz):=fun x hx=>by
 unfold mixL liL at hx
 rcases List.mem_append.1 hx with h | h
 ·obtain ⟨y,_,rfl⟩:=List.mem_map.1 h
  intro c hc
  simp only [L1,V.cells,List.mem_cons,List.not_mem_nil,or_false] at hc
  subst hc
  simp [rb1]
 ·obtain ⟨_,rfl⟩:=List.mem_replicate.1 h
  intro c hc
  simp only [V.cells,List.mem_cons,List.not_mem_nil,or_false] at hc
  subst hc
  simp [rb1]
section
variable {H:List B} {k0:Nat}
def KB (H:List B) (k0:Nat) (xs:List V):List B:=H.set k0 (.buf 34 1 xs false)
theorem KB_at (h:k0<H.length) (xs:List V):(KB H k0 xs)[k0]?=some (.buf 34 1 xs false):=by
 unfold KB; rw [List.getElem?_set_self h]
theorem KB_set (xs xs':List V):(KB H k0 xs).set k0 (.buf 34 1 xs' false)=KB H k0 xs':=by
 unfold KB; rw [List.set_set]
theorem KB_len (xs:List V):(KB H k0 xs).length=H.length:=by simp [KB]
theorem KB_rb (hH:∀bl∈H,rbB H.length bl) (m:List (List Int)):∀bl∈KB H k0 (liL m),rbB (KB H k0 (liL m)).length bl:=rbsZ hH (by rw [←mix0]; exact mixL_rb _ _ _ _ _)
end
theorem cpL_yes {l:List (List Int)} {p:Nat} (hp:1≤p) (h:eAt l p=eAt l (p - 1)):cpL l (p+1)=cpL l p:=by
 obtain ⟨q,rfl⟩:∃q,p=q+1:=⟨p - 1,by omega⟩
 rw [cpL,if_pos (by simpa using h.symm)]
theorem cpL_no {l:List (List Int)} {p:Nat} (hp:1≤p) (h:¬eAt l p=eAt l (p - 1)):cpL l (p+1)=cpL l p++[eAt l p]:=by
 obtain ⟨q,rfl⟩:∃q,p=q+1:=⟨p - 1,by omega⟩
 rw [cpL,if_neg (by intro e; exact h (by simpa using e.symm))]
theorem cpL_pos (l:List (List Int)):∀p,1≤p→1≤(cpL l p).length
 | 0,h=>by omega
 | 1,_=>by simp [cpL]
 | p+2,_=>by
  have:=cpL_pos l (p+1) (by omega)
  rw [cpL]
  split
  ·exact this
  ·simp
structure CpL (l ys:List (List Int)) (kk p:Nat):Prop where
 lt:kk<p
 len:ys.length=l.length
 tk:ys.take kk=cpL l p
 kl:kk=(cpL l p).length
 hi:∀i,p - 1≤i→eAt ys i=eAt l i
theorem CpL.start {l:List (List Int)} {k:Nat} (hk:1≤k) (hl:k<l.length) (h:cpL l k=l.take k) (he:eAt l k=eAt l (k - 1)):CpL l l k (k+1) :=
 ⟨by omega,rfl,by rw [cpL_yes hk he,h],by rw [cpL_yes hk he,h]; simp; omega,fun _ _=>rfl⟩
theorem CpL.skip {l ys:List (List Int)} {kk p:Nat} (h:CpL l ys kk p) (hp:1≤p) (he:eAt l p=eAt l (p - 1)):CpL l ys kk (p+1) :=
 ⟨by have:=h.lt; omega,h.len,by rw [cpL_yes hp he]; exact h.tk,by rw [cpL_yes hp he]; exact h.kl,fun i hi=>h.hi i (by omega)⟩
theorem CpL.keep {l ys:List (List Int)} {kk p:Nat} (h:CpL l ys kk p) (hp:1≤p) (hpl:p<l.length) (he:¬eAt l p=eAt l (p - 1)):CpL l (ys.set kk (eAt l p)) (kk+1) (p+1):=by
 have h1:=h.lt
 have h2:=h.len
 refine ⟨by omega,by simp [h2],?_,by rw [cpL_no hp he]; have:=h.kl; simp; omega,fun i hi=>?_⟩
 ·rw [cpL_no hp he,←h.tk,take_snocL (by simp; omega),List.take_set_of_le (by omega)]
  congr 2
  simp [eAt,show kk<ys.length by omega]
 ·rw [←h.hi i (by omega)]
  unfold eAt
  simp only [List.getD_eq_getElem?_getD]
  rw [List.getElem?_set_ne (by omega)]
theorem CpL.done {l ys:List (List Int)} {kk:Nat} (h:CpL l ys kk l.length) (h0:l≠[]):compL l=ys.take kk∧(compL l).length=kk:=by
 unfold compL
 rw [if_neg h0]
 exact ⟨h.tk.symm,h.kl.symm⟩
section
variable {H:List B} {k0:Nat}
theorem liL_fill (ys:List (List Int)) (kk n:Nat) (hn:ys.length=n):List.take kk (liL ys)++(List.replicate (n - kk) V.nilS++List.drop n (liL ys))=mixL (ys.take kk) (n - kk):=by
 unfold mixL liL
 rw [List.drop_of_length_le (by simp; omega),List.append_nil,List.map_take]
theorem compactL_h (hk0:k0<H.length) (hH:∀bl∈H,rbB H.length bl) (l:List (List Int)) (n:Nat) (hn:l.length=n) (hn2:n≤1000000) (hls:∀e∈l,e.length≤1000000) :
  ConH Tryz.prog 138 [.buf k0 0 n n,.fn 35 []] (KB H k0 (liL l)) fun r H'=>r = .buf k0 0 (compL l).length n∧H'=KB H k0 (mixL (compL l) (n - (compL l).length)):=by
 have g0:=KB_at hk0 (liL l)
 have hnl:=liL_len l
 have hea:∀i,(eAt l i).length≤1000000:=fun i=>by
  by_cases h:i<l.length
  ·rw [getD_at h]; exact hls _ (List.getElem_mem h)
  ·simp [eAt,show l.length≤i by omega]
 by_cases h2:n<2
 ·have hc:compL l=l:=by
   unfold compL
   match l,hn with
   | [],_=>rfl
   | [x],_=>rfl
   | _::_::_,hn=>simp at hn; omega
  rw [hc,hn,Nat.sub_self,mix0]
  refine conH_of_W tok Tryz.func138 rfl rfl ?_
  refine wx ?_
  simp -implicitDefEqProofs -dsimp [Tryz.f138,List.replicate,g0,hnl,hn,h2,show (n:Int)<2 by omega]
 ·have h0:l≠[]:=fun e=>by rw [e] at hn; simp at hn; omega
  obtain ⟨R,hR⟩:∃R,R=mixL (compL l) (n - (compL l).length):=⟨_,rfl⟩
  obtain ⟨m,hm⟩:∃m,m=(compL l).length:=⟨_,rfl⟩
  rw [←hR,←hm]
  refine conH_of_W tok Tryz.func138 rfl rfl ?_
  refine wx ?_
  simp -implicitDefEqProofs -dsimp [Tryz.f138,List.replicate,g0,hnl,hn,h2,show ¬(n:Int)<2 by omega]
  refine lw_of (W_loopM 65 [4,5,6,7,12,13,14,15,16,17,18,19,20,21,22,23,24,25,26,27,28,29,30,31,32,33,34,35,36,37,38,39,40,41,42,43,44,45,46,47,48,49,50,51,52,53,54,55,56,57,58,59,60,61,62,63,64] (by simp [mB]<;>rfl) (σ:=Nat) (fun k=>1≤k∧k≤n∧cpL l k=l.take k) (fun k=>n - k) (fun k=>[(5,.int .i64 k)]) (fun _=>KB H k0 (liL l)) 1 ⟨by omega,by omega,by rw [take_snocL (k:=0) (by omega)]; rfl⟩ (by simp) (by simp) (by simp [KB_len]) ?_)
  rintro k ⟨hk,hkn,hx⟩ N Q hN hQ
  by_cases hb:k<n
  ·obtain ⟨q,rfl⟩:∃q,k=q+1:=⟨k - 1,by omega⟩
   have a1:=fun h=>liL_get (m:=l) (x:=q+1) h
   have a0:=fun h=>liL_get (m:=l) (x:=q) h
   have wq:IntKind.i64.wrap (((q:Int)+1) - 1)=(q:Int):=by rw [wrap64 (by omega) (by omega)]; omega
   have hq:q<n:=by omega
   have w2:IntKind.i64.wrap ((q:Int)+1+1)=(q:Int)+1+1:=wrap64 (by omega) (by omega)
   have c0:=equal64 (eAt l (q+1)) (eAt l q) false false (hea _) (hea _)
   obtain ⟨x,hxx⟩:∃x,x=eAt l (q+1):=⟨_,rfl⟩
   obtain ⟨y,hyy⟩:∃y,y=eAt l q:=⟨_,rfl⟩
   rw [←hxx] at a1
   rw [←hyy] at a0
   rw [←hxx,←hyy] at c0
   simp only [L1] at c0
   by_cases he:x=y
   ·rw [decide_eq_true he] at c0
    refine wx ?_
    simp -implicitDefEqProofs -dsimp [g0,hnl,hn,hb,a1,a0,wq,hq,wrapN q (by omega),show (0:Int)≤(q:Int)+1 by omega,show (q:Int)+1<(n:Int) by omega]
    refine .inr ⟨stop_of (by kernel_rfl),?_⟩
    refine cy_of _ (callP (c0) (by simp)) ?_
    simp -implicitDefEqProofs -dsimp [g0,hnl,hn,hkn,show (0:Int)≤(q:Int)+1 by omega,show ¬q+1=n by omega]
    refine lw_of (W_loopM 59 [5,7,32,33,34,35,36,37,38,39,40,41,42,43,44,45,46,47,48,49,50,51,52,53,54,55,56,57,58] (by simp [mB]<;>rfl) (σ:=Nat×Nat×List (List Int)) (fun p=>1≤p.2.1∧q+1+p.2.1≤n∧CpL l p.2.2 p.1 (q+1+p.2.1)) (fun p=>n - p.2.1) (fun p=>[(5,.int .i64 p.1),(7,.int .i64 p.2.1),(6,.buf k0 (q+1) (n - (q+1)) n)]) (fun p=>KB H k0 (liL p.2.2)) (q+1,1,l) ⟨Nat.le_refl _,by show q+1+1≤n; omega,CpL.start (by omega) (by omega) hx (by rw [show q+1 - 1=q by omega,←hxx,←hyy]; exact he)⟩ (by simp) (by simp) (by simp [KB_len]) ?_)
    rintro ⟨kk,k2,ys⟩ ⟨i1,i2,I⟩ N2 Q2 hN2 hQ2
    simp only at i1 i2 I hN2
    have g1:=KB_at hk0 (liL ys)
    have ynl:=liL_len ys
    have yl:ys.length=n:=by rw [I.len,hn]
    have hlt:=I.lt
    by_cases hb2:q+1+k2<n
    ·obtain ⟨r,rfl⟩:∃r,k2=r+1:=⟨k2 - 1,by omega⟩
     have c2:=equal64 (eAt l (q+1+(r+1))) (eAt l (q+1+r)) false false (hea _) (hea _)
     obtain ⟨u,hu⟩:∃u,u=eAt l (q+1+(r+1)):=⟨_,rfl⟩
     obtain ⟨v,hv⟩:∃v,v=eAt l (q+1+r):=⟨_,rfl⟩
     have b1:=fun h=>liL_get (m:=ys) (x:=q+1+(r+1)) h
     have b0:=fun h=>liL_get (m:=ys) (x:=q+1+r) h
     rw [I.hi _ (by omega),←hu] at b1
     rw [I.hi _ (by omega),←hv] at b0
     rw [←hu,←hv] at c2
     simp only [L1] at c2
     have wr:IntKind.i64.wrap (((r:Int)+1) - 1)=(r:Int):=by rw [wrap64 (by omega) (by omega)]; omega
     have wr1:IntKind.i64.wrap (r:Int)=(r:Int):=wrapN r (by omega)
     have wr2:IntKind.i64.wrap ((r:Int)+1+1)=(r:Int)+1+1:=wrap64 (by omega) (by omega)
     obtain ⟨d,hd⟩:∃d,d=n - (q+1):=⟨_,rfl⟩
     rw [←hd]
     by_cases huv:u=v
     ·rw [decide_eq_true huv] at c2
      refine wx ?_
      simp -implicitDefEqProofs -dsimp [g1,ynl,yl,hb2,show q+1+r<n by omega,b1,b0,wr,wr1,wr2,show (r:Int)+1<(d:Int) by omega,show r+1<d by omega,show r<d by omega,show (0:Int)≤(r:Int)+1 by omega]
      refine .inr ⟨stop_of (by kernel_rfl),?_⟩
      refine cy_of _ (callP (c2) (by simp)) ?_
      simp -implicitDefEqProofs -dsimp [wr2]
      refine hN2 (kk,r+1+1,ys) _ _ ⟨by simp only; omega,by simp only; omega,I.skip (by omega) (by rw [show q+1+(r+1) - 1=q+1+r by omega,←hu,←hv]; exact huv)⟩ (by simp only; omega) (by simp [hd]) ⟨[],by simp⟩ (by simp [KB_len]; exact hk0) (KB_rb hH ys)
     ·rw [decide_eq_false huv] at c2
      have hkn2:kk<n:=by omega
      have c3:=fun h=>liL_get (m:=ys) (x:=kk) h
      have hst:=liL_set ys kk u
      have hcs:=KB_set (H:=H) (k0:=k0) (liL ys) (liL (ys.set kk u))
      have wk:IntKind.i64.wrap ((kk:Int)+1)=(kk:Int)+1:=wrap64 (by omega) (by omega)
      have hI2:=I.keep (by omega) (by rw [hn]; omega) (by rw [show q+1+(r+1) - 1=q+1+r by omega,←hu,←hv]; exact huv)
      rw [←hu] at hI2
      refine wx ?_
      simp -implicitDefEqProofs -dsimp [g1,ynl,yl,hb2,show q+1+r<n by omega,b1,b0,wr,wr1,wr2,show (r:Int)+1<(d:Int) by omega,show r+1<d by omega,show r<d by omega,show (0:Int)≤(r:Int)+1 by omega]
      refine .inr ⟨stop_of (by kernel_rfl),?_⟩
      refine cy_of _ (callP (c2) (by simp)) ?_
      simp -implicitDefEqProofs -dsimp [g1,ynl,yl,hb2,hkn2,b1,c3,hst,hcs,wk,wr2,show r+1<d by omega,show (r:Int)+1<(d:Int) by omega,show (0:Int)≤(r:Int)+1 by omega]
      refine hN2 (kk+1,r+1+1,ys.set kk u) _ _ ⟨by simp only; omega,by simp only; omega,hI2⟩ (by simp only; omega) (by simp [hd]) ⟨[],by simp⟩ (by simp [KB_len]; exact hk0) (KB_rb hH _)
    ·obtain ⟨d,hd⟩:∃d,d=n - (q+1):=⟨_,rfl⟩
     rw [←hd]
     have hpn:q+1+k2=n:=by omega
     rw [hpn,←hn] at I
     obtain ⟨e1,e2⟩:=I.done h0
     have hmk:m=kk:=by rw [hm]; exact e2
     have hkl:kk<n:=by have:=I.lt; omega
     have hfill:=liL_fill ys kk n yl
     have hcs:=KB_set (H:=H) (k0:=k0) (liL ys) (mixL (ys.take kk) (n - kk))
     have hRR:R=mixL (ys.take kk) (n - kk):=by rw [hR,e2,e1]
     have hkp:1≤kk:=by rw [←e2]; unfold compL; rw [if_neg h0]; exact cpL_pos l l.length (by omega)
     have g2:=KB_at hk0 (mixL (ys.take kk) (n - kk))
     have hRl:(mixL (ys.take kk) (n - kk)).length=n:=by unfold mixL; rw [List.length_append,liL_len,List.length_take,List.length_replicate]; omega
     rw [←hRR] at hfill hcs g2 hRl
     refine wx ?_
     simp -implicitDefEqProofs -dsimp [g1,ynl,yl,show ¬(k2:Int)<(d:Int) by omega,show ¬k2<d by omega]
     refine hQ2 _ _ _ ?_
     simp -implicitDefEqProofs -dsimp [g1,ynl,yl,hkl,show kk≤n by omega,show ¬kk=n by omega,hfill,hcs,g2,hRl,show ¬n - kk=0 by omega,show ¬0=kk by omega]
     refine hQ _ _ _ ?_
     simp -implicitDefEqProofs -dsimp []
     exact hmk.symm
   ·rw [decide_eq_false he] at c0
    refine wx ?_
    simp -implicitDefEqProofs -dsimp [g0,hnl,hn,hb,a1,a0,wq,hq,wrapN q (by omega),w2,show (0:Int)≤(q:Int)+1 by omega,show (q:Int)+1<(n:Int) by omega]
    refine .inr ⟨stop_of (by kernel_rfl),?_⟩
    refine cy_of _ (callP (c0) (by simp)) ?_
    simp -implicitDefEqProofs -dsimp [w2]
    refine hN (q+1+1) _ _ ⟨by omega,by omega,by rw [cpL_no (by omega) (by rw [show q+1 - 1=q by omega,←hxx,←hyy]; exact he),hx,take_snocL (k:=q+1) (by omega)]⟩ (by omega) (by simp) ⟨[],by simp⟩ (by simp [KB_len]; exact hk0) (KB_rb hH l)
  ·obtain rfl:k=n:=by omega
   refine wx ?_
   simp -implicitDefEqProofs -dsimp [g0,hnl,hn,hb]
   refine hQ _ _ _ ?_
   simp -implicitDefEqProofs -dsimp []
   have hcl:compL l=l:=by
    unfold compL
    rw [if_neg h0,hn,hx,←hn,List.take_length]
   rw [hm,hR,hcl,hn,Nat.sub_self,mix0]
   exact ⟨rfl,rfl⟩
end
end
end
end Go.Proofs.YtjogkbekekdkjaaGreatDoor
namespace Go.Proofs.YtjogkbekekdkjaaGreatDoor
section
open Go Go.AM Go.RowKit Go.Lib
theorem conO_row {f:FuncId} {args:List V} {e z:Nat} (hE:AM.Enters Tryz.prog f) (h:∀(F:Nat→Prop) (w:World) (vals:Array Value),vals.size=args.length→(∀(i:Nat) a u,args[i]?=some a→vals[i]?=some u→Rel (AM.base F w) a u) →
  Calls Tryz.prog f vals w fun e' w'=>∃v,e' = .returned v∧Below w.heap.size w w'∧(v = .slice none 0 0∨∃g c cur,v = .slice (some ⟨g,0,none⟩) 0 c∧w.heap.size≤g∧w'.heap[g]?=some (.cells cur e (0,0))∧c≠0∧c≤maxLen∧cur.size=c*z)):ConO Tryz.prog f args fun e' z' ys=>e'=e∧z'=z∧ys=[]:=by
 refine ⟨hE,fun F w vals hZ hF hsz hrel=>(h F w vals hsz hrel).mono fun e' w' ⟨v,he,hb,hv⟩=>?_⟩
 rcases hv with hv | ⟨g,c,cur,hv,hg,hc,hn,hm,hs⟩
 ·have hF':∀b,F b→b<w'.heap.size:=fun b hb'=>Nat.lt_of_lt_of_le (hF b hb') hb.size
  obtain ⟨p1,_⟩:=push0 (AM.base_good hF') (w:=w') 0 e z false rfl rfl rfl (Nat.le_refl _) (fun _ _=>rfl)
  refine ⟨v,e,z,[],none,0,0,he,hv,fun h=>absurd rfl h,by simp,fun h=>absurd rfl h,?_,hb,rfl,rfl,rfl⟩
  refine ⟨hF',fun k hk=>absurd (hk.2 e z [] false (by have:=hk.1; simp at this; subst this; rfl)) (by simp),fun j k hj hk _=>by have:=hj.1; have:=hk.1; simp at *; omega,fun k bl hk=>?_⟩
  have hk0:k=0:=by have:=getElem?_lt hk; simp at this; omega
  subst hk0
  simp at hk
  subst hk
  exact ⟨#[],fun h=>absurd rfl h,by simp,by simp,by simp [maxLen],(fun x hx=>by cases hx),(fun i x j c u hx=>by simp at hx)⟩
 ·have hF':∀b,F b→b<w'.heap.size:=fun b hb'=>Nat.lt_of_lt_of_le (hF b hb') hb.size
  refine ⟨v,e,z,[],some ⟨g,0,none⟩,g,c,he,hv,fun _=>rfl,by simp,fun _=>hg,?_,hb,rfl,rfl,rfl⟩
  refine ⟨hF',fun k hk=>⟨(Array.getElem?_eq_some_iff.1 hc).1,fun hf=>by have:=hF g hf; omega⟩,fun j k hj hk _=>by have:=hj.1; have:=hk.1; simp at *; omega,fun k bl hk=>?_⟩
  have hk0:k=0:=by have:=getElem?_lt hk; simp at this; omega
  subst hk0
  simp at hk
  subst hk
  exact ⟨cur,fun _=>hc,by simpa using hs,by simp,hm,(fun x hx=>by cases hx),(fun i x j c u hx=>by simp at hx)⟩
theorem infoG_Z:(Tryz.prog.info? 2).map (fun i=>(i.zero,i.size,i.bytes))=some (some (.int .i64 0),1,8):=by kernel_rfl
theorem growPos_Z (n:Nat) (w:World) (h0:0<n) (hn:n≤1000000):Calls Tryz.prog 196 #[.slice none 0 0,.int .i64 n] w fun e w' =>
   e = .returned (.slice (some ⟨w.heap.size,0,none⟩) 0 (grownCap w n 0 2))∧w'=w.drew.alloc (.cells (Builtin.zeroCells (.int .i64 0:Value).cells n++Builtin.zeroCells (.int .i64 0:Value).cells (grownCap w n 0 2 - n)) 2):=by
 obtain ⟨i0,hi0,hz0,hs0,hby⟩:=info_parts infoG_Z
 have h1:¬((n:Int)<0):=by omega
 have hz25:∀w,(Go.sizeOf 2).run Tryz.prog w = .ok 1 w:=fun w=>by simp [Go.sizeOf,typeInfo,hi0,hs0]
 have hold:(Builtin.firstCells i0.size 0 (.slice none 0 0)).run Tryz.prog w.drew = .ok ([]:List Value).toArray w.drew:=run_firstCells_none w.drew i0.size 0 0 0
 have hbig:(0+n)*i0.bytes≤140737488355328:=by rw [hby]; omega
 have hrz:∀ty,(Builtin.append_ #[34,3] ty #[.slice none 0 0,.int .i64 (n:Int)]).run Tryz.prog w =
   .ok (.slice (some ⟨w.heap.size,0,none⟩) n (grownCap w n 0 2)) (w.drew.alloc (.cells (Builtin.zeroCells (.int .i64 0:Value).cells n++Builtin.zeroCells (.int .i64 0:Value).cells (grownCap w n 0 2 - n)) 2)):=fun ty=>by
  have h:=Lib.run_append_grow_zeros (P:=Tryz.prog) w 34 3 ty 2 i0 _ .i64 .i64 Tryz.underlying34 Tryz.underlying3 hi0 hz0 none 0 0 [] hold n h0 (by omega) (by omega) (by omega)
   (by rw [hby]; omega)
   (growslice_fits (by omega) hbig)
  simpa using h
 have hGn:n≤grownCap w n 0 2:=grownCap_ge w _ _ _
 obtain ⟨G,hG⟩:∃G,G=grownCap w n 0 2:=⟨_,rfl⟩
 rw [←hG] at hrz hGn ⊢
 have hG63:G≤9223372036854775807:=by
  have:=grownCap_le_maxLen w n 0 2 (by unfold maxLen; omega)
  rw [←hG] at this
  unfold maxLen at this
  omega
 have h2:RowKit.wrap64 ((0:Int) - 0)=0:=by unfold RowKit.wrap64; omega
 have h3:RowKit.wrap64 ((n:Int) - 0)=(n:Int):=by unfold RowKit.wrap64; omega
 have h4:(n:Int) > 0:=by omega
 clear hold hG hbig
 go_enter Tryz.func196,Tryz.ntmps196
 go_wp2_with (at_builtin; refine Lib.wpList_append_run _ rfl _ _ _ _ rfl _ _ rfl rfl _ _ (hrz _) ?_)
 all_goals (go_ret; exact ⟨rfl,rfl⟩)
theorem growNil_Z (w:World):Calls Tryz.prog 196 #[.slice none 0 0,.int .i64 0] w fun e w'=>e = .returned (.slice none 0 0)∧w'=w:=by
 go_enter Tryz.func196,Tryz.ntmps196
 go_wp2
 go_ret
 exact ⟨rfl,rfl⟩
theorem grow_con_Z (n:Nat) (hn:n≤1000000):ConO Tryz.prog 196 [.nilS,.int .i64 n] fun e z ys=>e=2∧z=1∧ys=[]:=by
 refine conO_row ⟨Tryz.f196,Tryz.func196,rfl,rfl⟩ (fun F w vals hsz hrel=>?_)
 obtain ⟨u0,u1,rfl⟩:∃u0 u1,vals = #[u0,u1]:=by
  obtain ⟨l⟩:=vals
  match l,hsz with
  | [a,b],_=>exact ⟨a,b,rfl⟩
 have r0:=hrel 0 _ u0 rfl rfl
 have r1:=hrel 1 _ u1 rfl rfl
 cases r0
 cases r1
 by_cases h0:n=0
 ·subst h0
  exact (growNil_Z w).mono fun e w' ⟨h1,h2⟩=>⟨_,h1,by subst h2; exact Below.refl _ _,.inl rfl⟩
 ·refine (growPos_Z n w (by omega) hn).mono fun e w' ⟨h1,h2⟩=>?_
  subst h2
  have hge:=grownCap_ge w n 0 2
  refine ⟨_,h1,((Below.refl _ _).drew).alloc (Nat.le_refl _) _,.inr ⟨w.heap.size,grownCap w n 0 2,Builtin.zeroCells (.int .i64 0:Value).cells n++Builtin.zeroCells (.int .i64 0:Value).cells (grownCap w n 0 2 - n),rfl,Nat.le_refl _,?_,by omega,grownCap_le_maxLen w n 0 2 (by unfold maxLen; omega),?_⟩⟩
  ·exact Array.getElem?_push_size (xs:=w.heap)
  ·rw [Array.size_append,size_zeroCells,size_zeroCells,←Nat.add_mul,Nat.add_sub_cancel' hge]
   rfl
theorem grow_nil_Z:ConP Tryz.prog 196 [.nilS,.int .i64 0] fun r=>r = .nilS:=by
 refine ⟨⟨Tryz.f196,Tryz.func196,rfl,rfl⟩,fun F w vals hZ hF hsz hrel=>?_⟩
 obtain ⟨u0,u1,rfl⟩:∃u0 u1,vals = #[u0,u1]:=by
  obtain ⟨l⟩:=vals
  match l,hsz with
  | [a,b],_=>exact ⟨a,b,rfl⟩
 have r0:=hrel 0 _ u0 rfl rfl
 have r1:=hrel 1 _ u1 rfl rfl
 cases r0
 cases r1
 refine (growNil_Z w).mono fun e w' ⟨h1,h2⟩=>⟨_,_,h1,.nilS,.nilS,by subst h2; exact Below.refl _ _,rfl⟩
end
end Go.Proofs.YtjogkbekekdkjaaGreatDoor
namespace Go.Proofs.YtjogkbekekdkjaaGreatDoor
section
open Go Go.AM Go.RowKit
structure FlVZ where
 f:Bool
 xs:List V
def encFlZ (l:FlVZ):V:=.lst 1 l.f l.xs
def catLZ (ls:List FlVZ):List V:=(ls.map (·.xs)).flatten
theorem catL_succZ (ls:List FlVZ) (i:Nat) (h:i<ls.length):catLZ (ls.take (i+1))=catLZ (ls.take i)++ls[i].xs:=by
 unfold catLZ
 rw [List.take_succ_eq_append_getElem h,List.map_append,List.flatten_append]; simp
theorem catL_leZ (ls:List FlVZ) (i:Nat):(catLZ (ls.take i)).length≤(catLZ ls).length:=by
 conv=>rhs; rw [←List.take_append_drop i ls]
 unfold catLZ
 rw [List.map_append,List.flatten_append,List.length_append]; omega
theorem catL_pureZ {ls:List FlVZ} (hp:∀l∈ls,∀x∈l.xs,AM.Pure x∧oneV x=true∧x.cells.length=1):∀x∈catLZ ls,AM.Pure x∧oneV x=true:=by
 intro x hx
 obtain ⟨l,hl,h⟩:=List.mem_flatten.1 hx
 obtain ⟨y,hy,rfl⟩:=List.mem_map.1 hl
 exact ⟨(hp y hy x h).1,(hp y hy x h).2.1⟩
theorem catW_Z (n:Nat) (h:n≤1000000):n≤9223372036854775807∧n*8≤140737488355328:=by omega
theorem concat_Z (ls:List FlVZ) (g:Bool) (hp:∀l∈ls,∀x∈l.xs,AM.Pure x∧oneV x=true∧x.cells.length=1) (hl:ls.length≤1000000) (hs:(catLZ ls).length≤1000000):ConP Tryz.prog 135 [.lst 1 g (ls.map encFlZ)] fun r=>r = .lst 1 false (catLZ ls):=by
 have htl:=fun i=>catL_leZ ls i
 have hpF:∀l∈ls,AM.Pure (encFlZ l):=fun l hl=>.lst _ _ _ (fun x hx=>(hp l hl x hx).1)
 refine conP_of_conH (conH_of_W tok Tryz.func135 rfl rfl ?_)
 refine wx ?_
 simp -implicitDefEqProofs -dsimp [Tryz.f135,List.replicate,encFlZ]
 refine lw_of (W_loopM 23 [3,5,11,12,13,14,15,16,17,18,19,20,21,22] (by simp [mB]<;>rfl) (σ:=Nat) (fun i=>i≤ls.length) (fun i=>ls.length - i) (fun i=>[(11,.int .i64 i),(3,.int .i64 ((catLZ (ls.take i)).length:Nat))]) (fun _=>[]) 0 (by omega) (by simp [catLZ]) rfl (by simp) ?_)
 intro i hi N Q hN hQ
 by_cases hb:i<ls.length
 ·have hsu:=catL_succZ ls i hb
  have h1:=htl i
  have h2:=htl (i+1)
  rw [hsu,List.length_append] at h2
  obtain ⟨c,hc⟩:∃c,c=(catLZ (ls.take i)).length:=⟨_,rfl⟩
  rw [←hc] at h1 h2
  have hlx:(catLZ (ls.take (i+1))).length=c+ls[i].xs.length:=by rw [hsu,List.length_append,hc]
  obtain ⟨x,hx⟩:∃x,x=ls[i]:=⟨_,rfl⟩
  rw [←hx] at h2 hlx
  have hx':=hx.symm
  obtain ⟨d,hd⟩:∃d,d=c+x.xs.length:=⟨_,rfl⟩
  have hw:IntKind.i64.wrap ((c:Int)+(x.xs.length:Int))=(d:Int):=by rw [wrap64 (by omega) (by omega),hd]; push_cast; rfl
  refine wx ?_
  simp -implicitDefEqProofs -dsimp [hb,hx',hw,show ¬(d:Int)<0 by omega,wrapS i (by omega),←hc,encFlZ]
  refine hN (i+1) _ _ (by omega) (by omega) (by simp [hlx,hd]) ⟨[],rfl⟩ (by simp; exact hpF) (by simp)
 ·obtain rfl:i=ls.length:=by omega
  rw [List.take_length]
  have hg:=callO (H:=[]) (grow_con_Z (catLZ ls).length hs) (by simp)
  refine wx ?_
  simp -implicitDefEqProofs -dsimp [hb,encFlZ]
  refine hQ _ _ _ ?_
  simp -implicitDefEqProofs -dsimp [encFlZ]
  refine hg.mono ?_
  rintro r H' ⟨e,z,xs,rfl,rfl,_,rfl,rfl,rfl⟩
  simp -implicitDefEqProofs -dsimp [encFlZ]
  refine lw_of (W_loopM 35 [6,8,27,28,29,30,31,32,33,34] (by simp [mB]<;>rfl) (σ:=Nat) (fun i=>i≤ls.length) (fun i=>ls.length - i) (fun i=>[(27,.int .i64 i),(6,.buf 0 0 (catLZ (ls.take i)).length (catLZ (ls.take i)).length)]) (fun i=>[B.buf 2 1 (catLZ (ls.take i)) false]) 0 (by omega) (by simp [catLZ]) (by simp [catLZ]) (by simp) ?_)
  intro i hi N2 Q2 hN2 hQ2
  by_cases hb:i<ls.length
  ·have hsu:=catL_succZ ls i hb
   have h2:=htl (i+1)
   have hpi:=hp ls[i] (List.getElem_mem hb)
   have hpc:=catL_pureZ (ls:=ls.take (i+1)) (fun l hl=>hp l (List.mem_of_mem_take hl))
   obtain ⟨x,hx⟩:∃x,x=ls[i]:=⟨_,rfl⟩
   rw [←hx] at hsu hpi
   have hx':=hx.symm
   rw [hsu] at h2 hpc
   obtain ⟨xs,hxs⟩:∃xs,xs=x.xs:=⟨_,rfl⟩
   have hxs':=hxs.symm
   rw [←hxs] at hsu h2 hpc hpi
   by_cases h0:xs=[]
   ·rw [h0,List.append_nil] at hsu
    refine wx ?_
    simp -implicitDefEqProofs -dsimp [hb,hx',hxs',h0,wrapS i (by omega),encFlZ]
    refine hN2 (i+1) _ _ (by omega) (by omega) (by simp [hsu]) ⟨[],by simp [hsu]⟩ (by simp; exact hpF) (by rw [h0,List.append_nil] at hpc; intro bl hbl; rcases List.mem_cons.1 hbl with rfl | hbl; exact (rbB_buf1 (by rw [hsu]; exact hpc)).2 trivial; cases hbl)
   ·obtain ⟨c,hc⟩:∃c,c=catLZ (ls.take i):=⟨_,rfl⟩
    rw [←hc] at hsu h2 hpc
    rw [List.length_append] at h2
    refine wx ?_
    simp -implicitDefEqProofs -dsimp [hb,hx',hxs',h0,wrapS i (by omega),←hc,catW_Z (c.length+xs.length) (by omega),encFlZ]
    refine hN2 (i+1) _ _ (by omega) (by omega) (by simp [hsu]) ⟨[],by simp [hsu]⟩ (by simp; exact hpF) (by intro bl hbl; rcases List.mem_cons.1 hbl with rfl | hbl; exact (rbB_buf1 (by rw [hsu]; exact hpc)).2 trivial; cases hbl)
  ·obtain rfl:i=ls.length:=by omega
   rw [List.take_length]
   refine wx ?_
   simp -implicitDefEqProofs -dsimp [hb,encFlZ]
   refine hQ2 _ _ _ ?_
   simp -implicitDefEqProofs -dsimp [encFlZ]
   exact ⟨exp_buf rfl rfl (fun x hx=>(catL_pureZ hp x hx).1),fun x hx=>(catL_pureZ hp x hx).1⟩
end
end Go.Proofs.YtjogkbekekdkjaaGreatDoor
namespace Go.Proofs.YtjogkbekekdkjaaGreatDoor
section
open Go Go.AM
theorem edge1 (a:Int) (f:Bool):ConP Tryz.prog 133 [.lst 1 f [.int .i64 a]] fun r=>r = .agg [.int .i64 a,.int .i64 0,.int .i64 0]:=by
 refine conP_of_conH (conH_of_W tok Tryz.func133 rfl rfl ?_)
 refine wx ?_
 simp -implicitDefEqProofs -dsimp [Tryz.f133,List.replicate,copyA]
theorem edge2 (a b:Int) (f:Bool):ConP Tryz.prog 133 [.lst 1 f [.int .i64 a,.int .i64 b]] fun r=>r = .agg [.int .i64 a,.int .i64 b,.int .i64 0]:=by
 refine conP_of_conH (conH_of_W tok Tryz.func133 rfl rfl ?_)
 refine wx ?_
 simp -implicitDefEqProofs -dsimp [Tryz.f133,List.replicate,copyA]
theorem edge3 (a b c:Int) (f:Bool):ConP Tryz.prog 133 [.lst 1 f [.int .i64 a,.int .i64 b,.int .i64 c]] fun r=>r = .agg [.int .i64 a,.int .i64 b,.int .i64 c]:=by
 refine conP_of_conH (conH_of_W tok Tryz.func133 rfl rfl ?_)
 refine wx ?_
 simp -implicitDefEqProofs -dsimp [Tryz.f133,List.replicate,copyA]
theorem edge_u {l:List Int} (h:PosL l) (f:Bool):ConP Tryz.prog 133 [L1 f l] fun r=>r=key3 l:=by
 rcases posL_cases h with ⟨a,rfl,_⟩ | ⟨a,b,rfl,_⟩ | ⟨a,b,c,rfl,_⟩
 ·exact edge1 a f
 ·exact edge2 a b f
 ·exact edge3 a b c f
theorem smK1 (all:List (List Int)) (a:Int):smK all [a]=false:=by simp [smK]
theorem smK2 (all:List (List Int)) (a b:Int):smK all [a,b]=(all.contains [a]||all.contains [b]):=by
 simp [smK,List.range_succ]
theorem smK3 (all:List (List Int)) (a b c:Int):smK all [a,b,c]=(all.contains [a]||(all.contains [b,c]||(all.contains [b]||(all.contains [a,c]||(all.contains [c]||all.contains [a,b]))))):=by
 simp [smK,List.range_succ,Bool.or_assoc]
theorem look {dd all:List (List Int)} (hdd:∀x,x∈dd↔x∈all) (hp:∀x∈dd,PosL x) {x:List Int} (hx:PosL x):(all.contains x=true∧∃j,findA (key3 x) (mK dd) 0=some (j,.bool true))∨(all.contains x=false∧findA (key3 x) (mK dd) 0=none):=by
 by_cases h:x∈dd
 ·obtain ⟨j,hj,_⟩:=findP_yes hx dd 0 hp h
  exact .inl ⟨by simpa using (hdd x).1 h,j,hj⟩
 ·exact .inr ⟨by simpa using fun e=>h ((hdd x).2 e),findP_no hx dd 0 hp h⟩
theorem cc2 (a b:Int) (g h:Bool):ConP Tryz.prog 135 [.lst 1 true [.lst 1 g [.int .i64 a],.lst 1 h [.int .i64 b]]] fun r=>r = .lst 1 false [.int .i64 a,.int .i64 b] :=
 concat_Z [⟨g,[.int .i64 a]⟩,⟨h,[.int .i64 b]⟩] true (fun l hl x hx=>by
  simp only [List.mem_cons,List.not_mem_nil,or_false] at hl
  rcases hl with rfl | rfl<;>(simp only [List.mem_singleton] at hx; subst hx; simp [oneV,V.cells,V.one])) (by simp) (by simp [catLZ])
theorem cc0 (a b:Int) (g h:Bool):ConP Tryz.prog 135 [.lst 1 true [.lst 1 g [],.lst 1 h [.int .i64 a,.int .i64 b]]] fun r=>r = .lst 1 false [.int .i64 a,.int .i64 b] :=
 concat_Z [⟨g,[]⟩,⟨h,[.int .i64 a,.int .i64 b]⟩] true (fun l hl x hx=>by
  simp only [List.mem_cons,List.not_mem_nil,or_false] at hl
  rcases hl with rfl | rfl
  ·cases hx
  ·simp only [List.mem_cons,List.not_mem_nil,or_false] at hx
   rcases hx with rfl | rfl<;>simp [oneV,V.cells,V.one]) (by simp) (by simp [catLZ])
theorem cc3 (a b:Int) (g h:Bool):ConP Tryz.prog 135 [.lst 1 true [.lst 1 g [.int .i64 a,.int .i64 b],.lst 1 h []]] fun r=>r = .lst 1 false [.int .i64 a,.int .i64 b] :=
 concat_Z [⟨g,[.int .i64 a,.int .i64 b]⟩,⟨h,[]⟩] true (fun l hl x hx=>by
  simp only [List.mem_cons,List.not_mem_nil,or_false] at hl
  rcases hl with rfl | rfl
  ·simp only [List.mem_cons,List.not_mem_nil,or_false] at hx
   rcases hx with rfl | rfl<;>simp [oneV,V.cells,V.one]
  ·cases hx) (by simp) (by simp [catLZ])
theorem smaller_u {H:List B} (dd all:List (List Int)) (j km:Nat) (hj:H[j]?=some (.cells [.map km])) (hm:H[km]?=some (.map (.arr 3) (mK dd))) (hH:∀bl∈H,rbB H.length bl) (hdd:∀x,x∈dd↔x∈all) (hp:∀x∈dd,PosL x) (l:List Int) (f:Bool) (hl:PosL l) :
  WCall Tryz.prog (.fn 134 [.ptr j 0]) [L1 f l] H fun r H'=>r = .bool (smK all l)∧H'=H:=by
 simp only [WCall,List.cons_append,List.nil_append]
 refine conH_cutZ ?_ (by simp [rb,rb1]) ⟨Nat.le_refl _,hH⟩
 have hjl:=getElem?_lt hj
 have L:=fun x (hx:PosL x)=>look hdd hp hx
 rcases posL_cases hl with ⟨a,rfl,ha⟩ | ⟨a,b,rfl,ha,hb⟩ | ⟨a,b,c,rfl,ha,hb,hc⟩
 ·rw [smK1]
  refine conH_of_W tok Tryz.func134 rfl rfl ?_
  refine wx ?_
  simp -implicitDefEqProofs -dsimp [Tryz.f134,List.replicate,L1,encI]
  refine lw_of (W_loopM 41 [3,4,7,8,9,10,11,12,13,14,15,16,17,18,19,20,21,22,23,24,25,26,27,28,29,30,31,32,33,34,35,36,37,38,39,40] (by simp [mB]<;>rfl) (σ:=Nat) (fun i=>i≤1) (fun i=>1 - i) (fun i=>[(7,.int .i64 i)]) (fun _=>H) 0 (by omega) (by simp) (by simp) (by simp) ?_)
  intro i hi N Q hN hQ
  by_cases h0:i=0
  ·subst h0
   refine wx ?_
   simp -implicitDefEqProofs -dsimp []
   refine .inr ⟨stop_of (by kernel_rfl),?_⟩
   refine .inr ⟨stop_of (by kernel_rfl),?_⟩
   simp -implicitDefEqProofs -dsimp [show IntKind.i64.wrap (1:Int)=1 from wrap64 (by omega) (by omega)]
   refine hN 1 _ _ (by omega) (by omega) (by simp) ⟨[],by simp⟩ (by simp<;>exact hjl) hH
  ·obtain rfl:i=1:=by omega
   refine wx ?_
   simp -implicitDefEqProofs -dsimp []
   refine hQ _ _ _ ?_
   simp -implicitDefEqProofs -dsimp []
 ·rw [smK2]
  have La:=L [a] ⟨by simp,by simp,by simpa using ha⟩
  have Lb:=L [b] ⟨by simp,by simp,by simpa using hb⟩
  simp only [key3,List.getD_cons_zero,List.getD_cons_succ,List.getD_nil] at La Lb
  obtain ⟨ca,hca⟩:∃q,q=all.contains [a]:=⟨_,rfl⟩
  obtain ⟨cb,hcb⟩:∃q,q=all.contains [b]:=⟨_,rfl⟩
  rw [←hca] at La ⊢
  rw [←hcb] at Lb ⊢
  obtain ⟨E,hE⟩:∃E,E=(ca||cb):=⟨_,rfl⟩
  rw [←hE]
  have hE':=hE.symm
  clear hE hca hcb L hl hdd hp
  have w1:IntKind.i64.wrap (1:Int)=1:=wrap64 (by omega) (by omega)
  have w2:IntKind.i64.wrap (2:Int)=2:=wrap64 (by omega) (by omega)
  refine conH_of_W tok Tryz.func134 rfl rfl ?_
  refine wx ?_
  simp -implicitDefEqProofs -dsimp [Tryz.f134,List.replicate,L1,encI]
  refine lw_of (W_loopM 41 [3,4,7,8,9,10,11,12,13,14,15,16,17,18,19,20,21,22,23,24,25,26,27,28,29,30,31,32,33,34,35,36,37,38,39,40] (by simp [mB]<;>rfl) (σ:=Nat) (fun i=>i≤2∧(match i with | 0=>ca||cb | 1=>cb | _=>false)=E) (fun i=>2 - i) (fun i=>[(7,.int .i64 i)]) (fun _=>H) 0 ⟨by omega,hE'⟩ (by simp) (by simp) (by simp) ?_)
  rintro i ⟨hi,hx⟩ N Q hN hQ
  have h3:i=0∨i=1∨i=2:=by omega
  rcases h3 with rfl | rfl | rfl
  ·simp only at hx
   rcases La with ⟨rfl,jj,hf⟩ | ⟨rfl,hf⟩
   ·refine wx ?_
    simp -implicitDefEqProofs -dsimp [hj,hm,w1]
    refine .inr ⟨stop_of (by kernel_rfl),?_⟩
    refine cy_of _ (callP (edge1 a _) (by simp)) ?_
    simp -implicitDefEqProofs -dsimp [hj,hm,hf]
    refine hQ _ _ _ ?_
    simp -implicitDefEqProofs -dsimp []
    simpa using hx
   ·refine wx ?_
    simp -implicitDefEqProofs -dsimp [hj,hm,w1]
    refine .inr ⟨stop_of (by kernel_rfl),?_⟩
    refine cy_of _ (callP (edge1 a _) (by simp)) ?_
    simp -implicitDefEqProofs -dsimp [hj,hm,hf]
    refine .inr ⟨stop_of (by kernel_rfl),?_⟩
    simp -implicitDefEqProofs -dsimp [w1]
    refine hN 1 _ _ ⟨by omega,by simpa using hx⟩ (by omega) (by simp) ⟨[],by simp⟩ (by simp<;>exact hjl) hH
  ·simp only at hx
   rcases Lb with ⟨rfl,jj,hf⟩ | ⟨rfl,hf⟩
   ·refine wx ?_
    simp -implicitDefEqProofs -dsimp [hj,hm,w1,w2]
    refine .inr ⟨stop_of (by kernel_rfl),?_⟩
    refine cy_of _ (callP (edge1 b _) (by simp)) ?_
    simp -implicitDefEqProofs -dsimp [hj,hm,hf]
    refine hQ _ _ _ ?_
    simp -implicitDefEqProofs -dsimp []
    simpa using hx
   ·refine wx ?_
    simp -implicitDefEqProofs -dsimp [hj,hm,w1,w2]
    refine .inr ⟨stop_of (by kernel_rfl),?_⟩
    refine cy_of _ (callP (edge1 b _) (by simp)) ?_
    simp -implicitDefEqProofs -dsimp [hj,hm,hf]
    refine .inr ⟨stop_of (by kernel_rfl),?_⟩
    simp -implicitDefEqProofs -dsimp [w2]
    refine hN 2 _ _ ⟨by omega,by simpa using hx⟩ (by omega) (by simp) ⟨[],by simp⟩ (by simp<;>exact hjl) hH
  ·refine wx ?_
   simp -implicitDefEqProofs -dsimp []
   refine hQ _ _ _ ?_
   simp -implicitDefEqProofs -dsimp []
   simpa using hx
 ·rw [smK3]
  have L0:=L [a] ⟨by simp,by simp,by simpa using ha⟩
  have L1':=L [b,c] ⟨by simp,by simp,by simp [hb,hc]⟩
  have L2:=L [b] ⟨by simp,by simp,by simpa using hb⟩
  have L3:=L [a,c] ⟨by simp,by simp,by simp [ha,hc]⟩
  have L4:=L [c] ⟨by simp,by simp,by simpa using hc⟩
  have L5:=L [a,b] ⟨by simp,by simp,by simp [ha,hb]⟩
  simp only [key3,List.getD_cons_zero,List.getD_cons_succ,List.getD_nil] at L0 L1' L2 L3 L4 L5
  obtain ⟨k0,e0⟩:∃q,q=all.contains [a]:=⟨_,rfl⟩
  obtain ⟨k1,e1⟩:∃q,q=all.contains [b,c]:=⟨_,rfl⟩
  obtain ⟨k2,e2⟩:∃q,q=all.contains [b]:=⟨_,rfl⟩
  obtain ⟨k3,e3⟩:∃q,q=all.contains [a,c]:=⟨_,rfl⟩
  obtain ⟨k4,e4⟩:∃q,q=all.contains [c]:=⟨_,rfl⟩
  obtain ⟨k5,e5⟩:∃q,q=all.contains [a,b]:=⟨_,rfl⟩
  rw [←e0] at L0 ⊢
  rw [←e1] at L1' ⊢
  rw [←e2] at L2 ⊢
  rw [←e3] at L3 ⊢
  rw [←e4] at L4 ⊢
  rw [←e5] at L5 ⊢
  obtain ⟨E,hE⟩:∃E,E=(k0||(k1||(k2||(k3||(k4||k5))))):=⟨_,rfl⟩
  rw [←hE]
  have w1:IntKind.i64.wrap (1:Int)=1:=wrap64 (by omega) (by omega)
  have w2:IntKind.i64.wrap (2:Int)=2:=wrap64 (by omega) (by omega)
  have w3:IntKind.i64.wrap (3:Int)=3:=wrap64 (by omega) (by omega)
  have hE':=hE.symm
  clear L hl hdd hp hE e0 e1 e2 e3 e4 e5
  refine conH_of_W tok Tryz.func134 rfl rfl ?_
  refine wx ?_
  simp -implicitDefEqProofs -dsimp [Tryz.f134,List.replicate,L1,encI]
  refine lw_of (W_loopM 41 [3,4,7,8,9,10,11,12,13,14,15,16,17,18,19,20,21,22,23,24,25,26,27,28,29,30,31,32,33,34,35,36,37,38,39,40] (by simp [mB]<;>rfl) (σ:=Nat) (fun i=>i≤3∧(match i with | 0=>k0||(k1||(k2||(k3||(k4||k5)))) | 1=>k2||(k3||(k4||k5)) | 2=>k4||k5 | _=>false)=E) (fun i=>3 - i) (fun i=>[(7,.int .i64 i)]) (fun _=>H) 0 ⟨by omega,hE'⟩ (by simp) (by simp) (by simp) ?_)
  rintro i ⟨hi,hx⟩ N Q hN hQ
  have h3:i=0∨i=1∨i=2∨i=3:=by omega
  rcases h3 with rfl | rfl | rfl | rfl
  ·simp only at hx
   rcases L0 with ⟨rfl,jj,hf⟩ | ⟨rfl,hf⟩
   ·refine wx ?_
    simp -implicitDefEqProofs -dsimp [hj,hm,w1,w2,w3]
    refine .inr ⟨stop_of (by kernel_rfl),?_⟩
    refine cy_of _ (callP (edge1 a _) (by simp)) ?_
    simp -implicitDefEqProofs -dsimp [hj,hm,hf]
    refine hQ _ _ _ ?_
    simp -implicitDefEqProofs -dsimp []
    simpa using hx
   ·refine wx ?_
    simp -implicitDefEqProofs -dsimp [hj,hm,w1,w2,w3]
    refine .inr ⟨stop_of (by kernel_rfl),?_⟩
    refine cy_of _ (callP (edge1 a _) (by simp)) ?_
    simp -implicitDefEqProofs -dsimp [hj,hm,hf,w1,w2,w3]
    rcases L1' with ⟨rfl,jj,hf2⟩ | ⟨rfl,hf2⟩
    ·refine .inr ⟨stop_of (by kernel_rfl),?_⟩
     refine cy_of _ (callP (cc0 b c _ _) (by simp)) ?_
     simp -implicitDefEqProofs -dsimp []
     refine cy_of _ (callP (edge2 b c _) (by simp)) ?_
     simp -implicitDefEqProofs -dsimp [hj,hm,hf2]
     refine hQ _ _ _ ?_
     simp -implicitDefEqProofs -dsimp []
     simpa using hx
    ·refine .inr ⟨stop_of (by kernel_rfl),?_⟩
     refine cy_of _ (callP (cc0 b c _ _) (by simp)) ?_
     simp -implicitDefEqProofs -dsimp []
     refine cy_of _ (callP (edge2 b c _) (by simp)) ?_
     simp -implicitDefEqProofs -dsimp [hj,hm,hf2,w1,w2,w3]
     refine hN 1 _ _ ⟨by omega,by simpa using hx⟩ (by omega) (by simp) ⟨[],by simp⟩ (by simp<;>exact hjl) hH
  ·simp only at hx
   rcases L2 with ⟨rfl,jj,hf⟩ | ⟨rfl,hf⟩
   ·refine wx ?_
    simp -implicitDefEqProofs -dsimp [hj,hm,w1,w2,w3]
    refine .inr ⟨stop_of (by kernel_rfl),?_⟩
    refine cy_of _ (callP (edge1 b _) (by simp)) ?_
    simp -implicitDefEqProofs -dsimp [hj,hm,hf]
    refine hQ _ _ _ ?_
    simp -implicitDefEqProofs -dsimp []
    simpa using hx
   ·refine wx ?_
    simp -implicitDefEqProofs -dsimp [hj,hm,w1,w2,w3]
    refine .inr ⟨stop_of (by kernel_rfl),?_⟩
    refine cy_of _ (callP (edge1 b _) (by simp)) ?_
    simp -implicitDefEqProofs -dsimp [hj,hm,hf,w1,w2,w3]
    rcases L3 with ⟨rfl,jj,hf2⟩ | ⟨rfl,hf2⟩
    ·refine .inr ⟨stop_of (by kernel_rfl),?_⟩
     refine cy_of _ (callP (cc2 a c _ _) (by simp)) ?_
     simp -implicitDefEqProofs -dsimp []
     refine cy_of _ (callP (edge2 a c _) (by simp)) ?_
     simp -implicitDefEqProofs -dsimp [hj,hm,hf2]
     refine hQ _ _ _ ?_
     simp -implicitDefEqProofs -dsimp []
     simpa using hx
    ·refine .inr ⟨stop_of (by kernel_rfl),?_⟩
     refine cy_of _ (callP (cc2 a c _ _) (by simp)) ?_
     simp -implicitDefEqProofs -dsimp []
     refine cy_of _ (callP (edge2 a c _) (by simp)) ?_
     simp -implicitDefEqProofs -dsimp [hj,hm,hf2,w1,w2,w3]
     refine hN 2 _ _ ⟨by omega,by simpa using hx⟩ (by omega) (by simp) ⟨[],by simp⟩ (by simp<;>exact hjl) hH
  ·simp only at hx
   rcases L4 with ⟨rfl,jj,hf⟩ | ⟨rfl,hf⟩
   ·refine wx ?_
    simp -implicitDefEqProofs -dsimp [hj,hm,w1,w2,w3]
    refine .inr ⟨stop_of (by kernel_rfl),?_⟩
    refine cy_of _ (callP (edge1 c _) (by simp)) ?_
    simp -implicitDefEqProofs -dsimp [hj,hm,hf]
    refine hQ _ _ _ ?_
    simp -implicitDefEqProofs -dsimp []
    simpa using hx
   ·refine wx ?_
    simp -implicitDefEqProofs -dsimp [hj,hm,w1,w2,w3]
    refine .inr ⟨stop_of (by kernel_rfl),?_⟩
    refine cy_of _ (callP (edge1 c _) (by simp)) ?_
    simp -implicitDefEqProofs -dsimp [hj,hm,hf,w1,w2,w3]
    rcases L5 with ⟨rfl,jj,hf2⟩ | ⟨rfl,hf2⟩
    ·refine .inr ⟨stop_of (by kernel_rfl),?_⟩
     refine cy_of _ (callP (cc3 a b _ _) (by simp)) ?_
     simp -implicitDefEqProofs -dsimp []
     refine cy_of _ (callP (edge2 a b _) (by simp)) ?_
     simp -implicitDefEqProofs -dsimp [hj,hm,hf2]
     refine hQ _ _ _ ?_
     simp -implicitDefEqProofs -dsimp []
     simpa using hx
    ·refine .inr ⟨stop_of (by kernel_rfl),?_⟩
     refine cy_of _ (callP (cc3 a b _ _) (by simp)) ?_
     simp -implicitDefEqProofs -dsimp []
     refine cy_of _ (callP (edge2 a b _) (by simp)) ?_
     simp -implicitDefEqProofs -dsimp [hj,hm,hf2,w1,w2,w3]
     refine hN 3 _ _ ⟨by omega,by simpa using hx⟩ (by omega) (by simp) ⟨[],by simp⟩ (by simp<;>exact hjl) hH
  ·refine wx ?_
   simp -implicitDefEqProofs -dsimp []
   refine hQ _ _ _ ?_
   simp -implicitDefEqProofs -dsimp []
   simpa using hx
theorem exp_preL {H:List B} {k e m N r:Nat} {fz:Bool} {ls:List (List Int)} (hk:H[k]?=some (.buf e 1 (mixL ls r) fz)) (hm:ls.length=m) (hN:m+r=N):Exp H (.buf k 0 m N) (LL false ls):=by
 subst hm
 subst hN
 have hl:(mixL ls r).length=ls.length+r:=by simp [mixL,liL]
 have:=Exp.buf k 0 ls.length e 1 (mixL ls r) fz hk (by rw [hl]; omega) (fun x hx=>by
  unfold mixL liL at hx
  rcases List.mem_append.1 hx with h | h
  ·obtain ⟨y,_,rfl⟩:=List.mem_map.1 h; exact L1_pure _ _
  ·obtain ⟨_,rfl⟩:=List.mem_replicate.1 h; exact .nilS)
 rw [List.drop_zero,hl] at this
 have e1:(mixL ls r).take ls.length=ls.map (L1 false):=by
  unfold mixL liL; rw [List.take_left' (by simp)]
 rw [e1] at this
 exact this
theorem compL_len (l:List (List Int)):(compL l).length≤l.length:=by
 have key:∀p,(cpL l p).length≤p:=by
  intro p
  fun_induction cpL l p with
  | case1=>simp
  | case2=>simp
  | case3 p h ih=>omega
  | case4 p h ih=>simp; omega
 unfold compL
 split
 ·simp
 ·exact key _
theorem sortLi_lens {l:List (List Int)} {k:Nat} (h:∀e∈l,e.length≤k):∀e∈sortLi l,e.length≤k:=fun e he=>h e ((sortLi_perm l).mem_iff.1 he)
theorem minimal_u (all:List (List Int)) (g:Bool) (hA:∀d∈all,PosL d) (hl:all.length≤100000):ConP Tryz.prog 80 [LL g all] fun r=>r=LL false (progE all):=by
 have hddP:∀i,∀x∈ddL all i,PosL x:=fun i x hx=>hA x (List.mem_of_mem_take (ddL_mem.1 hx))
 have hrb2:∀μ:List (List Int),∀bl∈[B.map (.arr 3) (mK μ),B.cells [.map 0]],rbB 2 bl:=fun μ bl hbl=>by
  simp only [List.mem_cons,List.not_mem_nil,or_false] at hbl
  rcases hbl with rfl | rfl
  ·exact mK_rb _ _ _
  ·intro c hc; simp at hc; subst hc; simp [rb,rb1]
 have hrb3:∀(μ:List (List Int)) (o:List (List Int)),∀bl∈[B.map (.arr 3) (mK μ),B.cells [.map 0],B.buf 34 1 (o.map (L1 false)) false],rbB 3 bl:=fun μ o bl hbl=>by
  simp only [List.mem_cons,List.not_mem_nil,or_false] at hbl
  rcases hbl with rfl | rfl | rfl
  ·exact mK_rb _ _ _
  ·intro c hc; simp at hc; subst hc; simp [rb,rb1]
  ·exact LF_rb _ _ _
 obtain ⟨PE,hPE⟩:∃PE,PE=progE all:=⟨_,rfl⟩
 rw [←hPE]
 refine conP_of_conH (conH_of_W tok Tryz.func80 rfl rfl ?_)
 refine wx ?_
 simp -implicitDefEqProofs -dsimp [Tryz.f80,List.replicate,LL]
 refine lw_of (W_loopM 22 [5,14,15,16,17,18,19,20,21] (by simp [mB]<;>rfl) (σ:=Nat) (fun i=>i≤all.length) (fun i=>all.length - i) (fun i=>[(14,.int .i64 i)]) (fun i=>[B.map (.arr 3) (mK (ddL all i)),B.cells [.map 0]]) 0 (by omega) (by simp) (by simp [ddL,mK]) (by simp) ?_)
 intro i hi N Q hN hQ
 by_cases hb:i<all.length
 ·have hp:=hA _ (List.getElem_mem hb)
  have hsu:=ddL_succ hb
  obtain ⟨l,hle⟩:∃l,l=all[i]:=⟨_,rfl⟩
  rw [←hle] at hp hsu
  have ce:=edge_u hp false
  obtain ⟨x0,hx0⟩:∃x,x=l.getD 0 0:=⟨_,rfl⟩
  obtain ⟨x1,hx1⟩:∃x,x=l.getD 1 0:=⟨_,rfl⟩
  obtain ⟨x2,hx2⟩:∃x,x=l.getD 2 0:=⟨_,rfl⟩
  have hk3:key3 l = .agg [.int .i64 x0,.int .i64 x1,.int .i64 x2]:=by rw [hx0,hx1,hx2]; rfl
  rw [hk3] at ce
  clear hx0 hx1 hx2
  simp only [L1] at ce
  by_cases hin:l∈ddL all i
  ·obtain ⟨j,hj,_,hg⟩:=findP_yes hp (ddL all i) 0 (hddP i) hin
   have hst:=mK_set hg
   rw [Nat.sub_zero] at hst
   have hpn:putN (ddL all i) l=ddL all i:=by unfold putN; rw [if_pos (by simpa using hin)]
   rw [hpn] at hsu
   obtain ⟨μ,hμ⟩:∃μ,μ=ddL all i:=⟨_,rfl⟩
   rw [←hμ] at hj hst hsu ⊢
   rw [hk3] at hj hst
   refine wx ?_
   simp -implicitDefEqProofs -dsimp [hb,hle.symm,L1]
   refine lw_of (W_drawT tok mixed [3] [] [(.agg [.int .i64 x0,.int .i64 x1,.int .i64 x2],[])] (by kernel_rfl) fun C K hC hK=>?_)
   simp -implicitDefEqProofs [hj,hst]
   refine ⟨hC _ _ _ _ (callP ce (by simp)),hK _ _ ?_⟩
   simp -implicitDefEqProofs -dsimp [wrapS i (by omega)]
   refine hN (i+1) _ _ (by omega) (by omega) (by simp) ⟨[],by simp [hsu]⟩ (by simp) (hrb2 _)
  ·have hj:=findP_no hp (ddL all i) 0 (hddP i) hin
   have hpn:putN (ddL all i) l=ddL all i++[l]:=by unfold putN; rw [if_neg (by simpa using hin)]
   rw [hpn] at hsu
   obtain ⟨μ,hμ⟩:∃μ,μ=ddL all i:=⟨_,rfl⟩
   rw [←hμ] at hj hsu ⊢
   rw [hk3] at hj
   refine wx ?_
   simp -implicitDefEqProofs -dsimp [hb,hle.symm,L1]
   refine lw_of (W_drawT tok mixed [3] [] [(.agg [.int .i64 x0,.int .i64 x1,.int .i64 x2],[])] (by kernel_rfl) fun C K hC hK=>?_)
   simp -implicitDefEqProofs [hj]
   refine ⟨hC _ _ _ _ (callP ce (by simp)),hK _ _ ?_⟩
   simp -implicitDefEqProofs -dsimp [wrapS i (by omega)]
   refine hN (i+1) _ _ (by omega) (by omega) (by simp) ⟨[],by simp [hsu,mK_snoc,hk3]⟩ (by simp) (hrb2 _)
 ·obtain rfl:i=all.length:=by omega
  obtain ⟨dd,hdd⟩:∃dd,dd=ddL all all.length:=⟨_,rfl⟩
  have hmem:∀x,x∈dd↔x∈all:=fun x=>by rw [hdd,ddL_mem,List.take_length]
  have hdP:∀x∈dd,PosL x:=by rw [hdd]; exact hddP _
  rw [←hdd]
  obtain ⟨E,hE⟩:∃E,E=all.filter fun l=>!smK all l:=⟨_,rfl⟩
  have hEl:E.length≤all.length:=by rw [hE]; exact List.length_filter_le _ _
  have hE3:∀e∈E,e.length≤3:=fun e he=>by rw [hE] at he; exact (hA e (List.mem_filter.1 he).1).2.1
  have hpe:PE=compL (sortLi E):=by rw [hPE,hE]; rfl
  refine wx ?_
  simp -implicitDefEqProofs -dsimp [hb]
  refine hQ _ _ _ ?_
  simp -implicitDefEqProofs -dsimp []
  refine lw_of (W_own 34 1 [7] (by simp) (W_loopM 46 [7,9,10,25,26,27,28,29,30,31,32,33,34,35,36,37,38,39,40,41,42,43,44,45] (by simp [mB]<;>rfl) (σ:=Nat×List (List Int)) (fun p=>p.2.length≤p.1∧p.1≤all.length∧p.2++(all.drop p.1).filter (fun l=>!smK all l)=E) (fun p=>all.length - p.1) (fun p=>[(25,.int .i64 p.1),(7,.buf 2 0 p.2.length p.2.length)]) (fun p=>[B.map (.arr 3) (mK dd),B.cells [.map 0],B.buf 34 1 (p.2.map (L1 false)) false]) (0,[]) ⟨by simp,by simp,by rw [hE]; rfl⟩ (by simp) (by simp) (by simp) ?_))
  rintro ⟨i,out⟩ ⟨hol,hi2,hx⟩ N2 Q2 hN2 hQ2
  simp only at hol hi2 hx
  by_cases hb2:i<all.length
  ·rw [List.drop_eq_getElem_cons hb2] at hx
   have hp:=hA _ (List.getElem_mem hb2)
   have hin:all[i]∈dd:=(hmem _).2 (List.getElem_mem hb2)
   obtain ⟨l,hle⟩:∃l,l=all[i]:=⟨_,rfl⟩
   rw [←hle] at hp hx hin
   have ce:=edge_u hp false
   obtain ⟨x0,hx0⟩:∃x,x=l.getD 0 0:=⟨_,rfl⟩
   obtain ⟨x1,hx1⟩:∃x,x=l.getD 1 0:=⟨_,rfl⟩
   obtain ⟨x2,hx2⟩:∃x,x=l.getD 2 0:=⟨_,rfl⟩
   have hk3:key3 l = .agg [.int .i64 x0,.int .i64 x1,.int .i64 x2]:=by rw [hx0,hx1,hx2]; rfl
   clear hx0 hx1 hx2
   have cl:=clone64p l false (by have:=hp.2.1; omega)
   obtain ⟨j,hj,_,_⟩:=findP_yes hp dd 0 hdP hin
   have cs:=smaller_u (H:=[B.map (.arr 3) (mK dd),B.cells [.map 0],B.buf 34 1 (out.map (L1 false)) false,B.cells [.int .i64 x0,.int .i64 x1,.int .i64 x2]]) dd all 1 0 rfl rfl (fun bl hbl=>by
    simp only [List.mem_cons,List.not_mem_nil,or_false] at hbl
    rcases hbl with rfl | rfl | rfl | rfl
    ·exact mK_rb _ _ _
    ·intro c hc; simp at hc; subst hc; simp [rb,rb1]
    ·exact LF_rb _ _ _
    ·intro c hc; simp at hc; rcases hc with rfl | rfl | rfl<;>simp [rb,rb1]) hmem hdP l false hp
   rw [hk3] at ce hj
   simp only [L1] at ce cs cl
   cases hs:smK all l with
   | true =>
    rw [hs] at cs
    rw [List.filter_cons_of_neg (by simp [hs])] at hx
    refine wx ?_
    simp -implicitDefEqProofs -dsimp [hb2,hle.symm,L1]
    refine (callP (ce) (by simp)).mono ?_
    rintro r H' ⟨rfl,rfl⟩
    simp -implicitDefEqProofs -dsimp [hj]
    refine cs.mono ?_
    rintro r H' ⟨rfl,rfl⟩
    simp -implicitDefEqProofs -dsimp [wrapS i (by omega)]
    refine hN2 (i+1,out) _ _ ⟨by simp only; omega,by simp only; omega,hx⟩ (by simp only; omega) (by simp) ⟨[B.cells [.int .i64 x0,.int .i64 x1,.int .i64 x2]],by simp⟩ (by simp) (hrb3 _ _)
   | false =>
    rw [hs] at cs
    rw [List.filter_cons_of_pos (by simp [hs])] at hx
    refine wx ?_
    simp -implicitDefEqProofs -dsimp [hb2,hle.symm,L1]
    refine (callP (ce) (by simp)).mono ?_
    rintro r H' ⟨rfl,rfl⟩
    simp -implicitDefEqProofs -dsimp [hj]
    refine cs.mono ?_
    rintro r H' ⟨rfl,rfl⟩
    simp -implicitDefEqProofs -dsimp []
    refine (callP (cl) (by simp)).mono ?_
    rintro r H' ⟨rfl,rfl⟩
    simp -implicitDefEqProofs -dsimp [cap24 out.length (by omega),wrapN out.length (by omega),wrapS i (by omega)]
    refine hN2 (i+1,out++[l]) _ _ ⟨by simp only [List.length_append,List.length_singleton]; omega,by simp only; omega,by rw [←hx]; simp⟩ (by simp only; omega) (by simp) ⟨[B.cells [.int .i64 x0,.int .i64 x1,.int .i64 x2]],by simp [L1]⟩ (by simp) (hrb3 _ _)
  ·rw [List.drop_of_length_le (by omega),List.filter_nil,List.append_nil] at hx
   subst hx
   have hsl:=sortLi_len out
   have c4:=sortLi_u (H:=[B.map (.arr 3) (mK dd),B.cells [.map 0],B.buf 34 1 (out.map (L1 false)) false]) (k:=2) (e:=34) (f:=false) out out.length rfl (by simp) (by omega) (fun l hl=>by have:=hE3 l hl; omega)
   have hsl3:=sortLi_lens hE3
   obtain ⟨s,hse⟩:∃s,s=sortLi out:=⟨_,rfl⟩
   rw [←hse] at c4 hsl hsl3 hpe
   have c5:=compactL_h (H:=[B.map (.arr 3) (mK dd),B.cells [.map 0],B.buf 34 1 (s.map (L1 false)) false]) (k0:=2) (by simp) (hrb3 _ _) s out.length hsl (by omega) (fun l hl=>by have:=hsl3 l hl; omega)
   have hcl:=compL_len s
   rw [←hpe] at c5 hcl
   simp only [LBi,KB,liL,List.set_cons_succ,List.set_cons_zero] at c4 c5
   refine wx ?_
   simp -implicitDefEqProofs -dsimp [hb2]
   refine hQ2 _ _ _ ?_
   simp -implicitDefEqProofs -dsimp []
   refine wcZ c4 ?_
   rintro r H' ⟨rfl,rfl⟩
   simp -implicitDefEqProofs -dsimp []
   refine wcZ c5 ?_
   rintro r H' ⟨rfl,rfl⟩
   simp -implicitDefEqProofs -dsimp []
   exact exp_preL rfl rfl (by omega)
def kR (K:List Int) (R:List Rw):List Rw:=R.filter fun r=>memB K r.id
def kT (K:List Int) (t:Tb):Tb:=⟨t.name,t.attrs,kR K t.rows⟩
theorem kR_mem {K:List Int} {R:List Rw} {r:Rw} : r∈kR K R↔r∈R∧r.id∈K:=by
 unfold kR
 rw [List.mem_filter,memB_iff]
theorem kR_ord {K:List Int} {R:List Rw} (h:R.Pairwise fun r s=>r.id<s.id):(kR K R).Pairwise fun r s=>r.id<s.id:=h.filter _
theorem ext_kR {K:List Int} {R:List Rw} : ∀{q p:List Rw},ExtA (kR K R) p q↔ExtA R p q∧∀r∈q,r.id∈K
 | [],p=>by simp [ExtA]
 | x::q,p=>by
  rw [ExtA,ExtA,ext_kR (q:=q),kR_mem]
  constructor
  ·rintro ⟨⟨a,b⟩,c,d,e⟩
   refine ⟨⟨a,c,d⟩,fun r hr=>?_⟩
   rcases List.mem_cons.1 hr with rfl | hr
   ·exact b
   ·exact e r hr
  ·rintro ⟨⟨a,c,d⟩,e⟩
   exact ⟨⟨a,e x (List.mem_cons_self ..)⟩,c,d,fun r hr=>e r (List.mem_cons_of_mem _ hr)⟩
theorem srt_mem {l:List Int} {a:Int} : a∈srt l↔a∈l:=(srt_perm l).mem_iff
theorem vd_kR {K:List Int} {R:List Rw} {d:Dn} {x:List Int} : VD (kR K R) d x↔VD R d x∧∀a∈x,a∈K:=by
 unfold VD
 constructor
 ·rintro ⟨rs,h1,h2,h3,rfl⟩
  obtain ⟨h4,h5⟩:=ext_kR.1 h2
  refine ⟨⟨rs,h1,h4,h3,rfl⟩,fun a ha=>?_⟩
  obtain ⟨r,hr,rfl⟩:=List.mem_map.1 (srt_mem.1 ha)
  exact h5 r hr
 ·rintro ⟨⟨rs,h1,h2,h3,rfl⟩,h⟩
  exact ⟨rs,h1,ext_kR.2 ⟨h2,fun r hr=>h _ (srt_mem.2 (List.mem_map.2 ⟨r,hr,rfl⟩))⟩,h3,rfl⟩
theorem prL_kR {K:List Int} {P:Rw→Rw→Bool} {R:List Rw} (hR:R.Pairwise fun r s=>r.id<s.id) {x:List Int} : x∈prL P (kR K R)↔x∈prL P R∧∀a∈x,a∈K:=by
 rw [prL_mem (kR_ord hR),prL_mem hR]
 constructor
 ·rintro ⟨r,hr,s,hs,h1,h2,rfl⟩
  obtain ⟨a1,a2⟩:=kR_mem.1 hr
  obtain ⟨b1,b2⟩:=kR_mem.1 hs
  refine ⟨⟨r,a1,s,b1,h1,h2,rfl⟩,fun a ha=>?_⟩
  simp only [List.mem_cons,List.not_mem_nil,or_false] at ha
  rcases ha with rfl | rfl
  ·exact a2
  ·exact b2
 ·rintro ⟨⟨r,hr,s,hs,h1,h2,rfl⟩,h⟩
  exact ⟨r,kR_mem.2 ⟨hr,h _ (by simp)⟩,s,kR_mem.2 ⟨hs,h _ (by simp)⟩,h1,h2,rfl⟩
theorem cnR_kR {K:List Int} {t:Tb} (hR:t.rows.Pairwise fun r s=>r.id<s.id) {c:Cn} {x:List Int} : x∈cnR (kT K t) c↔x∈cnR t c∧∀a∈x,a∈K:=by
 unfold cnR
 show x∈(if c.kind=1 then prL (fdP c.fd.l c.fd.r) (kR K t.rows) else if c.kind=4 then cfdV c.cfd (kR K t.rows) else if c.kind=5 then prL (odP c.od) (kR K t.rows) else (asR (kR K t.rows) c.dn.vars.toNat).foldl (stR c.dn) [])↔_
 by_cases h1:c.kind=1
 ·rw [if_pos h1,if_pos h1]; exact prL_kR hR
 rw [if_neg h1,if_neg h1]
 by_cases h4:c.kind=4
 ·rw [if_pos h4,if_pos h4,cfdV_ref,cfdV_ref,List.mem_append,List.mem_append,prL_kR hR]
  have hm:x∈((kR K t.rows).filter (aloneF c.cfd)).map (fun r=>[r.id])↔x∈(t.rows.filter (aloneF c.cfd)).map (fun r=>[r.id])∧∀a∈x,a∈K:=by
   rw [List.mem_map,List.mem_map]
   constructor
   ·rintro ⟨r,hr,rfl⟩
    obtain ⟨a1,a2⟩:=List.mem_filter.1 hr
    obtain ⟨b1,b2⟩:=kR_mem.1 a1
    exact ⟨⟨r,List.mem_filter.2 ⟨b1,a2⟩,rfl⟩,fun a ha=>by simp at ha; rw [ha]; exact b2⟩
   ·rintro ⟨⟨r,hr,rfl⟩,h⟩
    obtain ⟨a1,a2⟩:=List.mem_filter.1 hr
    exact ⟨r,List.mem_filter.2 ⟨kR_mem.2 ⟨a1,h _ (by simp)⟩,a2⟩,rfl⟩
  rw [hm]
  constructor
  ·rintro (⟨a,b⟩ | ⟨a,b⟩)
   ·exact ⟨.inl a,b⟩
   ·exact ⟨.inr a,b⟩
  ·rintro ⟨a | a,b⟩
   ·exact .inl ⟨a,b⟩
   ·exact .inr ⟨a,b⟩
 rw [if_neg h4,if_neg h4]
 by_cases h5:c.kind=5
 ·rw [if_pos h5,if_pos h5]; exact prL_kR hR
 rw [if_neg h5,if_neg h5,vd_ref,vd_ref]
 exact vd_kR
theorem ids_asc {t:Tb} (g:TbC t):(idsR t.rows).Pairwise (· < ·):=by
 unfold idsR
 rw [List.pairwise_map]
 exact g.ids
theorem edges_hyp {t:Tb} (g:TbC t) {cs:List Cn} (h:∀c∈cs,cnErr t c=0):Hyp (idsR t.rows) (edgesF (allR t cs)):=by
 have hE:∀d∈allR t cs,EdgL t.rows d:=fun d hd=>all_edge g h hd
 have a:=edges_min fun e he=>(hE e he).1
 have hm:∀e∈edgesF (allR t cs),MinM (allR t cs) e:=fun e he=>(a.mem e).1 he
 refine ⟨ids_asc g,fun e he=>(hE e (hm e he).1).2.1,fun e he=>(hE e (hm e he).1).1,fun e he=>(hE e (hm e he).1).2.2.2,a.ord,?_⟩
 have key:∀x∈edgesF (allR t cs),∀y∈edgesF (allR t cs),x≠y→¬∀v∈x,v∈y:=fun x hx y hy hxy hs =>
  hxy (asc_sub_eq (hE x (hm x hx).1).1 (hE y (hm y hy).1).1 hs ((hm y hy).2 x (hm x hx).1 hs))
 have ho:=a.ord
 rw [List.pairwise_iff_getElem] at ho ⊢
 intro i j hi hj hij
 have hlt:=ho i j hi hj hij
 have hne:(edgesF (allR t cs))[i]≠(edgesF (allR t cs))[j]:=fun e=>by rw [e,lex_irr] at hlt; cases hlt
 exact ⟨key _ (List.getElem_mem hi) _ (List.getElem_mem hj) hne,key _ (List.getElem_mem hj) _ (List.getElem_mem hi) (Ne.symm hne)⟩
def bdV (t:Tb) (cs:List Cn):V:=if buildErr t cs=0 then encH false false (idsR t.rows) (edgesF (allR t cs)) else .agg [.nilS,.nilS]
theorem bdV_pure (t:Tb) (cs:List Cn):AM.Pure (bdV t cs):=by
 unfold bdV
 split
 ·simp [encH]
 ·simp
structure BdOk (t:Tb) (cs:List Cn):Prop where
 ok:TbOk t
 small:t.rows.length≤8→TbS t
 rows:t.rows.length≤8∨200<t.rows.length
 few:cs.length≤5
 cns:∀c∈cs,CnB c
theorem posL_of {t:Tb} (g:TbC t) {x:List Int} (h:EdgL t.rows x):PosL x:=⟨h.2.1,h.2.2.1,fun a ha=>by
 have:=h.2.2.2 a ha
 unfold idsR at this
 obtain ⟨r,hr,rfl⟩:=List.mem_map.1 this
 exact g.pos r hr⟩
theorem progE_len (all:List (List Int)):(progE all).length≤all.length:=by
 unfold progE
 refine Nat.le_trans (compL_len _) ?_
 rw [sortLi_len]
 exact List.length_filter_le _ _
theorem allV_len {t:Tb} (h8:t.rows.length≤8) {cs:List Cn} (h:∀c∈cs,cnErr t c=0) (hl:cs.length≤5):(allV t cs).length≤20000:=by
 have:=flat_len cs (f:=cnV t) (k:=4000) fun c hc=>cnV_len h8 (h c hc)
 unfold allV
 have h2:cs.length*4000≤5*4000:=Nat.mul_le_mul_right _ hl
 omega
theorem LFz_rb (n e:Nat) (o:List (List Int)) (fz:Bool):rbB n (.buf e 1 (o.map (L1 false)) fz):=fun x hx=>by
 obtain ⟨y,_,rfl⟩:=List.mem_map.1 hx
 intro c hc
 simp only [L1,V.cells,List.mem_cons,List.not_mem_nil,or_false] at hc
 subst hc
 simp [rb1]
theorem cnsErr_drop {t:Tb} {cs:List Cn} {i:Nat} (h:i<cs.length):cnsErr t (cs.drop i)=if cnErr t cs[i]=0 then cnsErr t (cs.drop (i+1)) else cnErr t cs[i]:=by
 rw [List.drop_eq_getElem_cons h,cnsErr]
theorem build_u (t:Tb) (cs:List Cn) (f g fc:Bool) (h:BdOk t cs):ConP Tryz.prog 39 [encTb f g t,LCn fc cs] fun r=>r = .tup [bdV t cs,.int .i64 (buildErr t cs)]:=by
 have c1:=tableValid t f g h.ok
 have htB:B.cells [.str t.name,.lst 1 f (t.attrs.map V.str),.lst 2 g (t.rows.map encRw)]=tcB t f g:=rfl
 have htr:∀n,rbB n (tcB t f g):=fun n=>tcB_rb n t f g
 by_cases hv:validT t=0
 case neg =>
  have he:buildErr t cs=validT t:=by unfold buildErr; rw [if_neg hv]
  have hbd:bdV t cs = .agg [.nilS,.nilS]:=by unfold bdV; rw [he,if_neg hv]
  rw [he,hbd]
  obtain ⟨e,hee⟩:∃e,e=validT t:=⟨_,rfl⟩
  rw [←hee] at c1 hv ⊢
  simp only [encTb,LS,LR] at c1
  refine conP_of_conH (conH_of_W tok Tryz.func39 rfl rfl ?_)
  refine wx ?_
  simp -implicitDefEqProofs -dsimp [Tryz.f39,List.replicate,encTb,LS,LR,LCn]
  refine (callP (c1) (by simp)).mono ?_
  rintro r H' ⟨rfl,rfl⟩
  simp -implicitDefEqProofs -dsimp [hv]
 case pos =>
 rw [hv] at c1
 have ct:=tbC hv
 by_cases h2:200<t.rows.length
 ·have he:buildErr t cs=3:=by unfold buildErr; rw [if_pos hv,if_pos h2]
  have hbd:bdV t cs = .agg [.nilS,.nilS]:=by unfold bdV; rw [he,if_neg (by decide)]
  rw [he,hbd]
  simp only [encTb,LS,LR] at c1
  refine conP_of_conH (conH_of_W tok Tryz.func39 rfl rfl ?_)
  refine wx ?_
  simp -implicitDefEqProofs -dsimp [Tryz.f39,List.replicate,encTb,LS,LR,LCn]
  refine (callP (c1) (by simp)).mono ?_
  rintro r H' ⟨rfl,rfl⟩
  simp -implicitDefEqProofs -dsimp [show (200:Int)<t.rows.length by omega]
 have h8:t.rows.length≤8:=by have:=h.rows; omega
 have hts:=h.small h8
 have hcs:=h.cns
 have hl5:=h.few
 have he:buildErr t cs=cnsErr t cs:=by unfold buildErr; rw [if_pos hv,if_neg h2]
 have hbd:bdV t cs=if cnsErr t cs=0 then encH false false (idsR t.rows) (progE (allV t cs)) else .agg [.nilS,.nilS]:=by
  unfold bdV
  rw [he]
  split
  ·rename_i h0; rw [edges_same ct (cnsErr_ok h0)]
  ·rfl
 rw [he,hbd]
 simp only [encTb,LS,LR] at c1
 have hrb0:∀bl∈[tcB t f g,B.cells [.nilS,.nilS]],rbB 2 bl:=fun bl hbl=>by
  simp only [List.mem_cons,List.not_mem_nil,or_false] at hbl
  rcases hbl with rfl | rfl
  ·exact htr _
  ·intro c hc; simp at hc; subst hc; simp [rb,rb1]
 have hrb1:∀o:List (List Int),∀bl∈[tcB t f g,B.cells [.nilS,.nilS],B.buf 34 1 (o.map (L1 false)) false],rbB 3 bl:=fun o bl hbl=>by
  simp only [List.mem_cons,List.not_mem_nil,or_false] at hbl
  rcases hbl with rfl | rfl | rfl
  ·exact htr _
  ·intro c hc; simp at hc; subst hc; simp [rb,rb1]
  ·exact LF_rb _ _ _
 refine conP_of_conH (conH_of_W tok Tryz.func39 rfl rfl ?_)
 refine wx ?_
 simp -implicitDefEqProofs -dsimp [Tryz.f39,List.replicate,encTb,LS,LR,LCn]
 refine (callP (c1) (by simp)).mono ?_
 rintro r H' ⟨rfl,rfl⟩
 simp -implicitDefEqProofs -dsimp [show ¬(200:Int)<t.rows.length by omega]
 refine lw_of (W_loopM 47 [5,8,9,10,32,33,34,35,36,37,38,39,40,41,42,43,44,45,46] (by simp [mB]<;>rfl) (σ:=Nat) (fun i=>i≤cs.length∧cnsErr t (cs.drop i)=cnsErr t cs) (fun i=>cs.length - i) (fun i=>[(32,.int .i64 i)]) (fun _=>[tcB t f g,B.cells [.nilS,.nilS]]) 0 ⟨by omega,by rw [List.drop_zero]⟩ (by simp) (by simp [tcB]) (by simp) ?_)
 rintro i ⟨hi,hx⟩ N Q hN hQ
 by_cases hb:i<cs.length
 ·rw [cnsErr_drop hb] at hx
  have hcb:=hcs _ (List.getElem_mem hb)
  obtain ⟨c,hce⟩:∃c,c=cs[i]:=⟨_,rfl⟩
  rw [←hce] at hx hcb
  have c2:=translated_u t c f g ct.wide hcb
  have hp:=trV_pure t c
  obtain ⟨tv,htv⟩:∃tv,tv=trV t c:=⟨_,rfl⟩
  rw [←htv] at c2 hp
  simp only [encTb,LS,LR,encCn,L1,LCl,LA] at c2
  by_cases h0:cnErr t c=0
  ·rw [if_pos h0] at hx
   rw [h0] at c2
   refine wx ?_
   simp -implicitDefEqProofs -dsimp [hb,hce.symm,encCn,L1,LCl,LA,tcB]
   refine (callP (c2) (by simp)).mono ?_
   rintro r H' ⟨rfl,rfl⟩
   simp -implicitDefEqProofs -dsimp [wrapS i (by omega)]
   refine hN (i+1) _ _ ⟨by omega,hx⟩ (by omega) (by simp) ⟨[B.cells (cnCells c)],by simp [tcB,cnCells]⟩ (by simp) hrb0
  ·rw [if_neg h0] at hx
   obtain ⟨e,hee⟩:∃e,e=cnErr t c:=⟨_,rfl⟩
   rw [←hee] at c2 h0 hx
   refine wx ?_
   simp -implicitDefEqProofs -dsimp [hb,hce.symm,encCn,L1,LCl,LA,tcB]
   refine (callP (c2) (by simp)).mono ?_
   rintro r H' ⟨rfl,rfl⟩
   simp -implicitDefEqProofs -dsimp [h0]
   refine hQ _ _ _ ?_
   simp -implicitDefEqProofs -dsimp []
   rw [←hx]
   exact ⟨fun h=>absurd h h0,rfl⟩
 ·have h0:cnsErr t cs=0:=by rw [←hx,List.drop_of_length_le (by omega)]; rfl
  have hok:=cnsErr_ok h0
  have hAl:=allV_len h8 hok hl5
  have hAP:∀d∈allV t cs,PosL d:=fun d hd=>posL_of ct (all_edge ct hok ((all_mem ct hok).1 hd))
  have hA:∃A,A=allV t cs:=⟨_,rfl⟩
  obtain ⟨A,hA⟩:=hA
  rw [←hA] at hAl hAP
  have hPl:=progE_len A
  have cm:=minimal_u A false hAP (by omega)
  obtain ⟨PE,hPE⟩:∃PE,PE=progE A:=⟨_,rfl⟩
  rw [←hPE] at cm hPl
  simp only [LL] at cm
  refine wx ?_
  simp -implicitDefEqProofs -dsimp [hb]
  refine hQ _ _ _ ?_
  simp -implicitDefEqProofs -dsimp []
  refine lw_of (W_own 34 1 [11] (by simp) (W_loopM 67 [5,11,13,14,15,49,50,51,52,53,54,55,56,57,58,59,60,61,62,63,64,65,66] (by simp [mB]<;>rfl) (σ:=Nat×List (List Int)) (fun p=>p.2++(cs.drop p.1).flatMap (cnV t)=A) (fun p=>cs.length - p.1) (fun p=>[(49,.int .i64 p.1),(11,.buf 2 0 p.2.length p.2.length)]) (fun p=>[tcB t f g,B.cells [.nilS,.nilS],B.buf 34 1 (p.2.map (L1 false)) false]) (0,[]) (by rw [hA]; rfl) (by simp) (by simp) (by simp) ?_))
  rintro ⟨i,out⟩ hx2 N2 Q2 hN2 hQ2
  simp only at hx2
  by_cases hb2:i<cs.length
  ·rw [flat_drop hb2] at hx2
   have hcb:=hcs _ (List.getElem_mem hb2)
   have hck:=hok _ (List.getElem_mem hb2)
   obtain ⟨c,hce⟩:∃c,c=cs[i]:=⟨_,rfl⟩
   rw [←hce] at hx2 hcb hck
   have c2:=violations_u t c f g hts hv hcb
   rw [hck,show vlV t c=LL false (cnV t c) from by unfold vlV; rw [if_pos hck]] at c2
   obtain ⟨w,hw⟩:∃w,w=cnV t c:=⟨_,rfl⟩
   rw [←hw] at c2 hx2
   have hol:out.length+w.length≤20000:=by rw [←hx2] at hAl; simp only [List.length_append] at hAl; omega
   simp only [encTb,LS,LR,encCn,L1,LCl,LA,LL] at c2
   by_cases hw0:w=[]
   ·subst hw0
    refine wx ?_
    simp -implicitDefEqProofs -dsimp [hb2,hce.symm,encCn,L1,LCl,LA,tcB]
    refine (callP (c2) (by simp)).mono ?_
    rintro r H' ⟨rfl,rfl⟩
    simp -implicitDefEqProofs -dsimp [wrapS i (by omega)]
    refine hN2 (i+1,out) _ _ (by simpa using hx2) (by simp only; omega) (by simp) ⟨[B.cells (cnCells c)],by simp [tcB,cnCells]⟩ (by simp) (hrb1 _)
   ·refine wx ?_
    simp -implicitDefEqProofs -dsimp [hb2,hce.symm,encCn,L1,LCl,LA,tcB]
    refine (callP (c2) (by simp)).mono ?_
    rintro r H' ⟨rfl,rfl⟩
    simp -implicitDefEqProofs -dsimp [hw0,capV out.length w.length (by omega),wrapS i (by omega)]
    refine hN2 (i+1,out++w) _ _ (by rw [←hx2]; simp) (by simp only; omega) (by simp) ⟨[B.cells (cnCells c)],by simp [tcB,cnCells]⟩ (by simp) (hrb1 _)
  ·rw [List.drop_of_length_le (by omega),List.flatMap_nil,List.append_nil] at hx2
   subst hx2
   obtain ⟨I,hI⟩:∃I,I=idsR t.rows:=⟨_,rfl⟩
   have hIl:I.length=t.rows.length:=by rw [hI,idsR_len]
   obtain ⟨R,hR⟩:∃R,R=t.rows:=⟨_,rfl⟩
   rw [←hR] at hIl h8
   have hII:∀i (h:i<R.length),I.take (i+1)=I.take i++[R[i].id]:=fun i h=>by
    rw [List.take_succ_eq_append_getElem (by omega)]
    congr 2
    simp [hI,idsR,hR]
   have htB2:tcB t f g=B.cells [.str t.name,.lst 1 f (t.attrs.map V.str),.lst 2 g (R.map encRw)]:=by rw [hR]; rfl
   have hrb2:∀(i:Nat) (l:List Int),∀bl∈[tcB t f g,B.cells [.nilS,.nilS],B.buf 34 1 (out.map (L1 false)) true,B.cells [.buf 4 0 i i,.lst 1 false (PE.map (L1 false))],B.buf 2 1 (l.map encI) false],rbB 5 bl:=fun i l bl hbl=>by
    simp only [List.mem_cons,List.not_mem_nil,or_false] at hbl
    rcases hbl with rfl | rfl | rfl | rfl | rfl
    ·exact htr _
    ·intro c hc; simp at hc; subst hc; simp [rb,rb1]
    ·exact LFz_rb _ _ _ _
    ·intro c hc; simp at hc; rcases hc with rfl | rfl<;>simp [rb,rb1]
    ·exact (rbB_buf1 (fun x hx=>by obtain ⟨y,_,rfl⟩:=List.mem_map.1 hx; exact ⟨by simp,rfl⟩)).2 trivial
   refine W_frz 2 [11] rfl (by simp) ?_
   refine wx ?_
   simp -implicitDefEqProofs -dsimp [hb2]
   refine hQ2 _ _ _ ?_
   simp -implicitDefEqProofs -dsimp [LL]
   refine (callP (cm) (by simp)).mono ?_
   rintro r H' ⟨rfl,rfl⟩
   simp -implicitDefEqProofs -dsimp [htB2]
   rw [←htB2]
   refine lw_of (W_ownC 2 1 [] 3 [0] rfl (by simp) (by simp) (W_loopM 85 [18,73,74,75,76,77,78,79,80,81,82,83,84] (by simp [mB]<;>rfl) (σ:=Nat) (fun i=>i≤R.length) (fun i=>R.length - i) (fun i=>[(73,.int .i64 i)]) (fun i=>[tcB t f g,B.cells [.nilS,.nilS],B.buf 34 1 (out.map (L1 false)) true,B.cells [.buf 4 0 i i,.lst 1 false (PE.map (L1 false))],B.buf 2 1 ((I.take i).map encI) false]) 0 (by omega) (by simp) (by simp) (by simp) ?_))
   intro j hj N3 Q3 hN3 hQ3
   have htl:(I.take j).length=j:=by simp; omega
   by_cases hjb:j<R.length
   ·have hst:=hII j hjb
    obtain ⟨r,hre⟩:∃r,r=R[j]:=⟨_,rfl⟩
    rw [←hre] at hst
    obtain ⟨l,hle⟩:∃l,l=I.take j:=⟨_,rfl⟩
    rw [←hle] at hst htl ⊢
    refine wx ?_
    simp -implicitDefEqProofs -dsimp [hjb,hre.symm,encRw,LV,htl,cap8 j (by omega),wrapN j (by omega),wrapS j (by omega)]
    refine hN3 (j+1) _ _ (by omega) (by omega) (by simp) ⟨[B.cells [.int .i64 r.id,.lst 3 false (r.vals.map encV)]],by simp [hst,encI]⟩ (by simp) (hrb2 _ _)
   ·obtain rfl:j=R.length:=by omega
    rw [List.take_of_length_le (by omega)]
    refine W_frzC 4 [] 3 [0] rfl rfl (by simp) (by simp [hIl]) ?_
    refine wx ?_
    simp -implicitDefEqProofs -dsimp [hjb]
    refine hQ3 _ _ _ ?_
    simp -implicitDefEqProofs -dsimp [show ¬(20000:Int)<PE.length by omega]
    rw [if_pos h0,←hA,←hPE,←hI]
    simp [encH,L1,LL]
    exact h0.symm
theorem tbOf_attrs {x:Rcp} (h:0≤x.a):(tbOf x).attrs.length=(x.a.tmod 6).toNat:=by
 obtain ⟨h1,_⟩:=tbOf_n h
 show (L8.take (x.a.tmod 6).toNat).length=_
 rw [List.length_take]
 have:L8.length=8:=rfl
 omega
theorem tbOf_rows (x:Rcp):(tbOf x).rows.length=x.rows.length:=wRows_len _ _ _
theorem tbOf_ok {x:Rcp} (h:RcpOk x):TbS (tbOf x)∧validT (tbOf x)=0:=by
 obtain ⟨h1,_⟩:=tbOf_n h.a.1
 have ha:=tbOf_attrs h.a.1
 have hr:=tbOf_rows x
 have h6:=h.rows
 obtain ⟨w1,w2⟩:=wideT_rows (x:=x) (n:=(x.a.tmod 6).toNat) h.gap
 have ok:TbOk (tbOf x):=⟨(show (⟨#[114]⟩:ByteArray).size≤maxLen by decide),by omega,by omega,fun s hs=>by
  have hs:=List.mem_of_mem_take (show s∈L8.take (x.a.tmod 6).toNat from hs)
  have:∀s∈L8,s.size≤maxLen:=by
   intro s hs
   simp only [L8,List.mem_cons,List.not_mem_nil,or_false] at hs
   rcases hs with rfl | rfl | rfl | rfl | rfl | rfl | rfl | rfl<;>decide
  exact this s hs⟩
 refine ⟨⟨ok,fun r hr v hv=>by obtain ⟨m,rfl⟩:=(w1 r hr).2.2 v hv; exact ofV_sz m,by omega⟩,?_⟩
 unfold validT
 rw [show nameB (tbOf x).name=true by kernel_rfl,if_pos rfl,if_neg (by omega),show namesB (tbOf x).attrs=true from names_few _ h1,if_pos rfl]
 exact rowsErr_of (fun r hr=>(w1 r hr).1) (fun r hr=>by rw [ha]; exact (w1 r hr).2.1) (fun r hr v hv=>by obtain ⟨m,rfl⟩:=(w1 r hr).2.2 v hv; exact ofV_val m) w2
section
def isApp:Go.Op→Bool
 | .call c=>match c.callee with
  | .builtin .append=>true
  | _=>false
 | _=>false
def statP (ops:Array Oper) (E:List Nat) (tab:List (Nat×List Nat)):Bool :=
 stat1 ops&&stat2 ops E&&(List.range ops.size).all fun i=>E.contains i||(match ops[i]? with
  | some o=>(stillOp o.op||isApp o.op)&&(scalOp o.op||(List.range (E.length+1)).all fun c=>!posB (masksFrom [] ops.toList) E i c||c == cntE E i||(tabAt tab i).contains c)
  | none=>true)
def oblP (T:AM.Ty) (ops:Array Oper) (C:V→List V→List B→(V→List B→Prop)→Prop) (E:List Nat) (tab:List (Nat×List Nat)) (Hs:Nat→List B):List Oper→Nat→Nat→List V→List V→Prop
 | [],_,_,_,_=>True
 | _::_,_,_,_,[]=>False
 | o::rest,i,c,fr,v::vs =>
  (match wantA ops fr o with
   | some true=>match callOf o.op with
    | some (f,args)=>if E.contains i then C (evalA fr f) (args.map (evalA fr)) (Hs c) (fun r H'=>r=v∧H'=Hs (c+1))
     else allC (fun c'=>C (evalA fr f) (args.map (evalA fr)) (Hs c') (fun r H'=>r=v∧H'=Hs c')) (c::tabAt tab i)
    | none=>if E.contains i||scalOp o.op then True else allC (fun c'=>aop T o.op (evalA fr) (Hs c')=some (v,Hs c')) (if stillOp o.op then tabAt tab i else c::tabAt tab i)
   | _=>True)∧oblP T ops C E tab Hs rest (i+1) (if E.contains i then c+1 else c) (putF fr o.dst v) vs
def DrawP (T:AM.Ty) (ops:Array Oper) (E:List Nat) (tab:List (Nat×List Nat)) (cv:List (V×List B)) (C:V→List V→List B→(V→List B→Prop)→Prop) (K:List V→List B→Prop) (fr:List V) (H:List B):Prop :=
 match AM.runT T ops E ops.toList 0 fr H cv with
 | none=>False
 | some (vs,hs,f)=>hs.length=E.length∧oblP T ops C E tab (fun c=>(H::hs)[c]?.getD []) ops.toList 0 0 fr vs∧K f ((H::hs)[E.length]?.getD [])
section
variable {P:Program} {T:AM.Ty}
theorem oblP_ok {ops:Array Oper} {C:V→List V→List B→(V→List B→Prop)→Prop} {E:List Nat} {tab:List (Nat×List Nat)} {Hs:Nat→List B} (hasc:ascB E=true)
  (hst:∀i o,ops[i]?=some o→E.contains i=false→(stillOp o.op=true∨isApp o.op=true)∧(scalOp o.op=true∨∀c,c<E.length+1→posB (masksFrom [] ops.toList) E i c=true→c=cntE E i∨c∈tabAt tab i)) :
  ∀(l:List Oper) (i:Nat) (fr:List V) (H:List B) (cv:List (V×List B)) (vs:List V) (hs:List (List B)) (f:List V),l=ops.toList.drop i→AM.runT T ops E l i fr H cv=some (vs,hs,f)→(∀k,k≤hs.length→Hs (cntE E i+k)=((H::hs)[k]?).getD []) →
   oblP T ops C E tab Hs l i (cntE E i) fr vs→oblOps T ops C (masksFrom [] ops.toList) E Hs l i fr vs
 | [],i,fr,H,cv,vs,hs,f,hl,hr,hH,h=>trivial
 | o::rest,i,fr,H,cv,vs,hs,f,hl,hr,hH,h=>by
  have ho:ops[i]?=some o:=by
   have:=congrArg (fun l=>l[0]?) hl
   simp at this
   exact this.symm
  have hrest:rest=ops.toList.drop (i+1):=by
   have:=congrArg List.tail hl
   simpa using this
  have hHi:Hs (cntE E i)=H:=by have:=hH 0 (Nat.zero_le _); simpa using this
  simp only [AM.runT] at hr
  cases hw:wantA ops fr o with
  | none=>rw [hw] at hr; cases hr
  | some b =>
  rw [hw] at hr
  cases b with
  | false =>
   simp only at hr
   split at hr
   ·cases hr
   rename_i hE
   have hE:E.contains i=false:=by simpa using hE
   split at hr
   ·rename_i vs' hs' f' hr'
    cases hr
    simp only [oblP,hw,hE,Bool.false_eq_true,if_false] at h
    simp only [oblOps,hw]
    refine ⟨⟨by first | trivial | rfl,hE⟩,oblP_ok hasc hst rest (i+1) _ H cv vs' _ _ hrest hr' (fun k hk=>?_) ?_⟩
    ·rw [cnt_succ hasc,hE]; simpa using hH k hk
    ·rw [cnt_succ hasc,hE]; simpa using h.2
   ·cases hr
  | true =>
   simp only at hr
   have fin:∀(v:V) (H':List B) (cv':List (V×List B)),(if E.contains i then (match AM.runT T ops E rest (i+1) (putF fr o.dst v) H' cv' with
      | some (vs,hs,f)=>some (v::vs,H'::hs,f)
      | none=>none)
     else (match AM.runT T ops E rest (i+1) (putF fr o.dst v) H cv' with
      | some (vs,hs,f)=>some (v::vs,hs,f)
      | none=>none))=some (vs,hs,f) →
     ∃vs',vs=v::vs'∧(E.contains i=true→Hs (cntE E i+1)=H')∧(oblP T ops C E tab Hs rest (i+1) (if E.contains i then cntE E i+1 else cntE E i) (putF fr o.dst v) vs'→oblOps T ops C (masksFrom [] ops.toList) E Hs rest (i+1) (putF fr o.dst v) vs'):=fun v H' cv' hq=>by
    cases hE:E.contains i with
    | true =>
     rw [hE] at hq
     simp only [if_true] at hq
     split at hq
     ·rename_i vs' hs' f' hr'
      cases hq
      refine ⟨vs',rfl,fun _=>?_,fun hh=>?_⟩
      ·have:=hH 1 (by simp); simpa using this
      ·refine oblP_ok hasc hst rest (i+1) _ H' cv' vs' hs' _ hrest hr' (fun k hk=>?_) ?_
       ·rw [cnt_succ hasc,hE]
        have:=hH (k+1) (by simp; omega)
        simp only [if_true,List.getElem?_cons_succ] at this ⊢
        rw [show cntE E i+1+k=cntE E i+(k+1) by omega]; exact this
       ·rw [cnt_succ hasc,hE]; simpa using hh
     ·cases hq
    | false =>
     rw [hE] at hq
     simp only [Bool.false_eq_true,if_false] at hq
     split at hq
     ·rename_i vs' hs' f' hr'
      cases hq
      refine ⟨vs',rfl,(fun h=>by cases h),fun hh=>?_⟩
      refine oblP_ok hasc hst rest (i+1) _ H cv' vs' hs _ hrest hr' (fun k hk=>?_) ?_
      ·rw [cnt_succ hasc,hE]; simpa using hH k hk
      ·rw [cnt_succ hasc,hE]; simpa using hh
     ·cases hq
   cases hc:callOf o.op with
   | some p =>
    obtain ⟨g,args⟩:=p
    rw [hc] at hr
    simp only at hr
    split at hr
    ·rename_i v H' cv'
     obtain ⟨vs',rfl,hEH,hrec⟩:=fin v H' cv' hr
     simp only [oblP,hw,hc] at h
     simp only [oblOps,hw,hc]
     refine ⟨?_,hrec h.2⟩
     cases hE:E.contains i with
     | true =>
      rw [hE] at h
      simp only [if_true] at h ⊢
      rw [cnt_idx hasc hE]
      exact h.1
     | false =>
      rw [hE] at h
      simp only [Bool.false_eq_true,if_false] at h ⊢
      obtain ⟨_,s2⟩:=hst i o ho hE
      have hns:scalOp o.op=false:=by
       cases hop:o.op<;>rw [hop] at hc<;>simp only [callOf] at hc<;>first | (cases hc; done) | rfl
      rw [hns] at s2
      have s2:=s2.resolve_left (by simp)
      refine allC_of (fun c hcm=>?_)
      split
      ·rename_i hp
       rcases s2 c (by simpa using hcm) hp with rfl | hm
       ·exact allC_at h.1 _ (by simp)
       ·exact allC_at h.1 _ (by simp [hm])
      ·trivial
    ·cases hr
   | none =>
    rw [hc] at hr
    simp only at hr
    cases hop:aop T o.op (evalA fr) H with
    | none=>rw [hop] at hr; cases hr
    | some q =>
     obtain ⟨v,H'⟩:=q
     rw [hop] at hr
     simp only at hr
     obtain ⟨vs',rfl,hEH,hrec⟩:=fin v H' cv hr
     simp only [oblP,hw,hc] at h
     simp only [oblOps,hw,hc]
     refine ⟨?_,hrec h.2⟩
     cases hE:E.contains i with
     | true =>
      simp only [if_true]
      rw [cnt_idx hasc hE,hHi,hEH hE]
      exact hop
     | false =>
      rw [hE] at h
      simp only [Bool.false_eq_true,if_false,Bool.false_or] at h ⊢
      obtain ⟨s1,s2⟩:=hst i o ho hE
      refine allC_of (fun c hcm=>?_)
      split
      ·rename_i hp
       cases hsc:scalOp o.op with
       | true=>exact scalOp_ok hsc hop _
       | false =>
        rw [hsc] at h s2
        simp only [Bool.false_eq_true,if_false] at h
        cases hso:stillOp o.op with
        | true =>
         rw [hso,if_pos rfl] at h
         have hHH:=stillOp_ok hso hop
         subst hHH
         rcases (s2.resolve_left (by simp)) c (by simpa using hcm) hp with rfl | hm
         ·rw [hHi]; exact hop
         ·exact allC_at h.1 _ hm
        | false =>
         rw [hso,if_neg (by simp)] at h
         rcases (s2.resolve_left (by simp)) c (by simpa using hcm) hp with rfl | hm
         ·exact allC_at h.1 _ (by simp)
         ·exact allC_at h.1 _ (by simp [hm])
      ·trivial
where
 allC_of {p:Nat→Prop} : ∀{l:List Nat},(∀c∈l,p c)→allC p l
  | [],_=>trivial
  | c::l,h=>⟨h c (by simp),allC_of (fun d hd=>h d (by simp [hd]))⟩
theorem W_drawP (hT:TOk P T) (hm:P.follows .mixedOrders=true) {id:Nat} {ops:Array Oper} {Q:Exit→List V→List B→Prop} {fr:List V} {H:List B} (E:List Nat) (tab:List (Nat×List Nat)) (cv:List (V×List B)) (hst:statP ops E tab=true)
  (h:∀(C:V→List V→List B→(V→List B→Prop)→Prop) (K:List V→List B→Prop),(∀fv args H K',WCall P fv args H K'→C fv args H K')→(∀fr H,Q .normal fr H→K fr H)→DrawP T ops E tab cv C K fr H):W P (.region id ops true) Q fr H:=by
 refine W_draw hT hm E cv fun C K hC hK=>?_
 have h1:=h C K hC hK
 unfold DrawP at h1
 unfold DrawOb
 simp only [statP,Bool.and_eq_true] at hst
 obtain ⟨⟨st1,st2⟩,st3⟩:=hst
 split at h1
 ·exact h1.elim
 ·rename_i vs hs f hr
  rw [hr]
  obtain ⟨a1,a2,a3⟩:=h1
  have hasc:ascB E=true:=by
   unfold stat2 at st2
   simp only [Bool.and_eq_true] at st2
   exact st2.1.1
  have h00:cntE E 0=0:=by cases E<;>simp [cntE]
  refine ⟨⟨stat_ok st1 st2,a1⟩,?_,a3⟩
  refine oblP_ok hasc (fun i o ho hE=>?_) ops.toList 0 fr H cv vs hs f (by simp) hr (fun k hk=>by rw [h00,Nat.zero_add]) (by rw [h00]; exact a2)
  have hil:i<ops.size:=(Array.getElem?_eq_some_iff.1 ho).1
  have:=List.all_eq_true.1 st3 i (by simpa using hil)
  rw [hE,ho,Bool.false_or] at this
  simp only [Bool.and_eq_true,Bool.or_eq_true] at this
  refine ⟨this.1,this.2.imp (fun h=>h) (fun hall c hc hp=>?_)⟩
  have h3:=List.all_eq_true.1 hall c (by simpa using hc)
  simp only [Bool.or_eq_true,Bool.not_eq_true',beq_iff_eq] at h3
  rcases h3 with (h3 | h3) | h3
  ·rw [hp] at h3; cases h3
  ·exact .inl h3
  ·exact .inr (List.contains_iff_mem.1 h3)
end
attribute [simp] DrawP oblP
end
theorem rel_agg_lf {s:AM.St} {cs ds:List V} {u:Value} (h:Rel s (.agg cs) u) (hl:LfL cs ds):Rel s (.agg ds) u:=by
 cases h with
 | agg _ us h1 h2 h3 =>
  have hlen:=hl.len
  refine .agg ds us (by omega) (fun d hd=>?_) (fun i d u hd hu=>?_)
  ·obtain ⟨i,hi⟩:=List.mem_iff_getElem?.1 hd
   have hc:cs[i]?=some (cs[i]'(by have:=getElem?_lt hi; omega)):=List.getElem?_eq_getElem _
   exact lf_one (hl.at_ i _ d hc hi) (h2 _ (List.mem_of_getElem? hc))
  ·have hc:cs[i]?=some (cs[i]'(by have:=getElem?_lt hd; omega)):=List.getElem?_eq_getElem _
   exact lf_rel (h3 i _ u hc hu) (hl.at_ i _ d hc hd)
theorem conP_lf {P:Program} {f:FuncId} {args:List V} {v v':V} (h:ConP P f args fun r=>r=v) (hr:∀(s:AM.St) u,Rel s v u→Rel s v' u) (hp:AM.Pure v'):ConP P f args fun r=>r=v':=by
 refine ⟨h.1,fun F w vals hZ hF hsz hrel=>(h.2 F w vals hZ hF hsz hrel).mono fun e w' ⟨u,r,a1,a2,a3,a4,a5⟩=>?_⟩
 subst a5
 exact ⟨u,v',a1,hp,hr _ u a3,a4,rfl⟩
theorem cap32l (n:Nat) (h:n≤1000000000):n≤9223372036854775807∧n*32≤140737488355328:=by omega
theorem cp03 (r:Rw) (hl:r.vals.length≤1000000):ConP Tryz.prog 111 [encRw r] fun x=>x=encRw r:=by
 by_cases h0:r.vals=[]
 ·refine conP_lf (v:=.agg [.int .i64 r.id,.lst 3 true []]) ?_ (fun s u h=>?_) (by simp)
  ·refine conP_of_conH (conH_of_W (tok_flag tok (fun t=>t == 78)) Tryz.func111 rfl rfl ?_)
   refine W_x (tok_flag tok (fun t=>t == 78)) mixed ?_
   simp -implicitDefEqProofs -dsimp [Tryz.f111,List.replicate,encRw,LV,flagT]
   refine lw_of (W_drawP (tok_flag tok (fun t=>t == 78)) mixed [7] [] [] (by kernel_rfl) fun C K hC hK=>?_)
   simp -implicitDefEqProofs [h0,flagT]
   refine hK _ _ ?_
   simp -implicitDefEqProofs -dsimp [flagT]
  ·have:=rel_agg_lf (ds:=[.int .i64 r.id,.lst 3 false []]) h (by simp [LfL,lfB])
   simpa [encRw,LV,h0] using this
 ·refine conP_of_conH (conH_of_W (tok_flag tok (fun t=>t == 78)) Tryz.func111 rfl rfl ?_)
  refine W_x (tok_flag tok (fun t=>t == 78)) mixed ?_
  simp -implicitDefEqProofs -dsimp [Tryz.f111,List.replicate,encRw,LV,flagT]
  refine lw_of (W_drawP (tok_flag tok (fun t=>t == 78)) mixed [7] [] [] (by kernel_rfl) fun C K hC hK=>?_)
  simp -implicitDefEqProofs [h0,cap32l r.vals.length (by omega),flagT]
  refine hK _ _ ?_
  simp -implicitDefEqProofs -dsimp [flagT]
  rfl
theorem cap16l (n:Nat) (h:n≤1000000000):n≤9223372036854775807∧n*16≤140737488355328:=by omega
theorem with03 (t:Tb) (rs:List Rw) (f g h:Bool) (ha:t.attrs.length≤1000000) (hr:rs.length≤1000000) (hv:∀r∈rs,r.vals.length≤1000000):ConP Tryz.prog 67 [encTb f g t,LR h rs] fun x=>x=encTb false false ⟨t.name,t.attrs,rs⟩:=by
 have hne:t.attrs=[]∨¬t.attrs=[]:=by by_cases h:t.attrs=[]; exact .inl h; exact .inr h
 rcases hne with hne | hne
 case' inl =>
  refine conP_of_conH (conH_of_W (tok_flag tok (fun t=>t == 29)) Tryz.func67 rfl rfl ?_)
  refine W_x (tok_flag tok (fun t=>t == 29)) mixed ?_
  simp -implicitDefEqProofs -dsimp [Tryz.f67,List.replicate,encTb,LS,LR,flagT]
  refine lw_of (W_drawP (tok_flag tok (fun t=>t == 29)) mixed [7,8] [(1,[1]),(2,[1]),(4,[1]),(5,[1])] [] (by kernel_rfl) fun C K hC hK=>?_)
  simp -implicitDefEqProofs [hne,flagT]
  refine hK _ _ ?_
  simp -implicitDefEqProofs -dsimp [flagT]
 case' inr =>
  refine conP_of_conH (conH_of_W (tok_flag tok (fun t=>t == 29)) Tryz.func67 rfl rfl ?_)
  refine W_x (tok_flag tok (fun t=>t == 29)) mixed ?_
  simp -implicitDefEqProofs -dsimp [Tryz.f67,List.replicate,encTb,LS,LR,flagT]
  refine lw_of (W_drawP (tok_flag tok (fun t=>t == 29)) mixed [7,8] [(1,[1]),(2,[1]),(4,[1]),(5,[1])] [] (by kernel_rfl) fun C K hC hK=>?_)
  simp -implicitDefEqProofs [hne,cap16l t.attrs.length (by omega),flagT]
  refine hK _ _ ?_
  simp -implicitDefEqProofs -dsimp [flagT]
 all_goals
  refine lw_of (W_lf 2 _ [.str t.name,.lst 1 false (t.attrs.map V.str),.nilS] rfl (lfL_refl _) (by simp [LfL,lfB,hne]) (W_ownC 80 2 [] 2 [2] rfl (lfL_own _ _) (by simp) (W_loopM 30 [6,9,11,12,13,14,15,16,17,18,19,20,21,22,23,24,25,26,27,28,29] (by simp [mB]<;>rfl) (σ:=Nat) (fun i=>i≤rs.length) (fun i=>rs.length - i) (fun i=>[(6,.int .i64 i)]) (fun i=>[B.cells [.str t.name,.lst 1 f (t.attrs.map V.str),.lst 2 g (t.rows.map encRw)],B.cells [.str ByteArray.empty,.nilS,.nilS],B.cells [.str t.name,.lst 1 false (t.attrs.map V.str),.buf 3 0 i i],B.buf 80 2 ((rs.take i).map encRw) false]) 0 (by omega) (by simp [hne]) (by simp [hne]) (by simp) ?_)))
  intro i hi N Q hN hQ
  have hli:(rs.take i).length=i:=by simp; omega
  by_cases hb:i<rs.length
  ·have hst:rs.take (i+1)=rs.take i++[rs[i]]:=List.take_succ_eq_append_getElem hb
   have hc:=cp03 rs[i] (hv _ (List.getElem_mem hb))
   obtain ⟨l,hl⟩:∃l,l=rs.take i:=⟨_,rfl⟩
   rw [←hl] at hst hli ⊢
   refine W_x (tok_flag tok (fun t=>t == 29)) mixed ?_
   simp -implicitDefEqProofs -dsimp [hb,flagT]
   refine lw_of (W_drawT (tok_flag tok (fun t=>t == 29)) mixed [8,10] [] [(encRw rs[i],[])] (by kernel_rfl) fun C K hC hK=>?_)
   simp -implicitDefEqProofs [hb,encRw,LV,hli,cap32 i (by omega),flagT]
   refine ⟨hC _ _ _ _ (callP hc (by simp)),hK _ _ ?_⟩
   simp -implicitDefEqProofs -dsimp [wrapS i (by omega),flagT]
   refine hN (i+1) _ _ (by omega) (by omega) ?_ ⟨[],?_⟩ ?_ ?_<;>simp [or_imp,forall_and,L1,encI,hst,encRw,LV]
  ·obtain rfl:i=rs.length:=by omega
   rw [List.take_length]
   refine W_frzC 3 [] 2 [2] rfl rfl (by simp) (by simp) ?_
   refine W_x (tok_flag tok (fun t=>t == 29)) mixed ?_
   simp -implicitDefEqProofs -dsimp [hb,flagT]
   refine hQ _ _ _ ?_
   simp -implicitDefEqProofs -dsimp [flagT]
   simp only [encTb,LS,LR]
theorem members17 (n:Nat) (l:List Int) (f:Bool) (hl:l.length≤9223372036854775807) (hv:∀c∈l,0≤c∧c<256) (hn:n≤100):ConP Tryz.prog 108 [.int .i64 n,.lst 1 f (l.map encU)] fun r=>r=L1 false (mbF n l):=by
 by_cases h0:n=0
 ·subst h0
  rw [show mbF 0 l=[] from rfl]
  refine conP_of_conH (conH_of_W tok Tryz.func108 rfl rfl ?_)
  refine wx ?_
  simp -implicitDefEqProofs -dsimp [Tryz.f108,List.replicate]
  refine lw_of (W_own 3 1 [5] (by simp) (W_loopM 31 [5,6,7,8,9,10,11,12,13,14,15,16,17,18,19,20,21,22,23,24,25,26,27,28,29,30] (by simp [mB]<;>rfl) (σ:=Nat) (fun i=>i≤0) (fun i=>l.length - i) (fun i=>[(6,.int .i64 i),(5,.buf 0 0 i i)]) (fun i=>[B.buf 3 1 [] false]) 0 (by omega) (by simp) (by simp) (by simp) ?_))
  intro i hi N Q hN hQ
  obtain rfl:i=0:=by omega
  refine W_frz 0 [5] rfl (by simp) ?_
  by_cases hb:0<l.length
  ·refine wx ?_
   simp -implicitDefEqProofs -dsimp [hb,show (0:Int)<l.length by omega]
   refine hQ _ _ _ ?_
   simp -implicitDefEqProofs -dsimp [L1]
  ·refine wx ?_
   simp -implicitDefEqProofs -dsimp [hb,show ¬(0:Int)<l.length by omega]
   refine hQ _ _ _ ?_
   simp -implicitDefEqProofs -dsimp [L1]
 ·have hmb:mbF n l=(l.take 5).map fun x=>x.tmod n:=by unfold mbF; rw [if_neg h0]
  obtain ⟨M,hM⟩:∃M,M=mbF n l:=⟨_,rfl⟩
  have hMl:M.length=min 5 l.length:=by rw [hM,hmb]; simp
  have hMi:∀i (h:i<l.length),i<5→M.take (i+1)=M.take i++[l[i].tmod n]:=fun i h h5=>by
   rw [List.take_succ_eq_append_getElem (by omega)]
   congr 2
   simp [hM,hmb]
  rw [←hM]
  have hrb:∀l:List Int,∀bl∈[B.buf 3 1 (l.map encI) false],rbB 1 bl:=fun l bl hbl=>by
   simp only [List.mem_singleton] at hbl
   subst hbl
   exact (rbB_buf1 (fun x hx=>by obtain ⟨y,_,rfl⟩:=List.mem_map.1 hx; exact ⟨by simp,rfl⟩)).2 trivial
  have hnp:(0:Int)<n:=by omega
  refine conP_of_conH (conH_of_W tok Tryz.func108 rfl rfl ?_)
  refine wx ?_
  simp -implicitDefEqProofs -dsimp [Tryz.f108,List.replicate]
  refine lw_of (W_own 3 1 [5] (by simp) (W_loopM 31 [5,6,7,8,9,10,11,12,13,14,15,16,17,18,19,20,21,22,23,24,25,26,27,28,29,30] (by simp [mB]<;>rfl) (σ:=Nat) (fun i=>i≤l.length∧i≤5) (fun i=>l.length - i) (fun i=>[(6,.int .i64 i),(5,.buf 0 0 i i)]) (fun i=>[B.buf 3 1 ((M.take i).map encI) false]) 0 (by omega) (by simp) (by simp) (by simp) ?_))
  rintro i ⟨hi,hi5⟩ N Q hN hQ
  have htl:(M.take i).length=i:=by simp; omega
  by_cases hb:i<l.length
  ·by_cases h5:i<5
   ·have hst:=hMi i hb h5
    obtain ⟨x,hxe⟩:∃x,x=l[i]:=⟨_,rfl⟩
    have hx:=hv x (by rw [hxe]; exact List.getElem_mem hb)
    rw [←hxe] at hst
    have w1:IntKind.i64.wrap x=x:=wrap64 (by omega) (by omega)
    have t0:=Int.tmod_nonneg (n:Int) hx.1
    have t1:=Int.tmod_lt_of_pos x hnp
    have w2:IntKind.i64.wrap (x.tmod n)=x.tmod n:=wrap64 (by omega) (by omega)
    obtain ⟨m,hm⟩:∃m,m=M.take i:=⟨_,rfl⟩
    rw [←hm] at hst htl ⊢
    refine wx ?_
    simp -implicitDefEqProofs -dsimp [hb,hxe.symm,encU,h5,show (i:Int)<5 by omega,hnp,show 0<n by omega,h0,show ¬(n:Int)=0 by omega,w1,w2,htl,cap8 i (by omega),wrapN i (by omega),wrapS i (by omega)]
    refine hN (i+1) _ _ ⟨by omega,by omega⟩ (by omega) (by simp) ⟨[],by simp [hst,encI]⟩ (by simp) (hrb _)
   ·obtain rfl:i=5:=by omega
    rw [List.take_of_length_le (by omega)]
    refine W_frz 0 [5] rfl (by simp; omega) ?_
    refine wx ?_
    simp -implicitDefEqProofs -dsimp [hb,h5,show (5:Int)<l.length by omega]
    refine hQ _ _ _ ?_
    simp -implicitDefEqProofs -dsimp [L1]
    skip
  ·obtain rfl:i=l.length:=by omega
   rw [List.take_of_length_le (by omega)]
   refine W_frz 0 [5] rfl (by simp; omega) ?_
   refine wx ?_
   simp -implicitDefEqProofs -dsimp [hb]
   refine hQ _ _ _ ?_
   simp -implicitDefEqProofs -dsimp [L1]
   skip
theorem odOf17 (n:Nat) (xs ys:List Int) (f g:Bool) (hl:xs.length≤9223372036854775807) (hv:∀c∈xs,0≤c∧c<256) (hl2:ys.length≤9223372036854775807) (hv2:∀c∈ys,0≤c∧c<256) (hn:n≤100):ConP Tryz.prog 63 [.int .i64 n,.agg [.lst 1 f (xs.map encU),.lst 1 g (ys.map encU)]] fun r=>r=encOd false false (odOf n xs ys):=by
 have c1:=members17 n xs f hl hv hn
 have c2:=members17 n ys g hl2 hv2 hn
 simp only [L1] at c1 c2
 refine conP_of_conH (conH_of_W tok Tryz.func63 rfl rfl ?_)
 refine wx ?_
 simp -implicitDefEqProofs -dsimp [Tryz.f63,List.replicate]
 refine lw_of (W_drawT tok mixed [9] [] [(.lst 1 false ((mbF n xs).map encI),[]),(.lst 1 false ((mbF n ys).map encI),[])] (by kernel_rfl) fun C K hC hK=>?_)
 simp -implicitDefEqProofs []
 refine ⟨⟨hC _ _ _ _ (callP c1 (by simp)),hC _ _ _ _ (callP c2 (by simp))⟩,hK _ _ ?_⟩
 simp -implicitDefEqProofs -dsimp [encOd,odOf,L1]
theorem side18 (n:Nat) (vars v c:Int) (hn:n≤100) (h1:1≤vars) (h3:vars≤3) (hv:0≤v∧v<256) (hc:0≤c∧c<256):ConP Tryz.prog 109 [.int .i64 n,.int .i64 vars,.agg [.int .u8 v,.int .u8 c]] fun r=>r=encTm (tmOf n vars v c):=by
 have w1:IntKind.i64.wrap v=v:=wrap64 (by omega) (by omega)
 have w2:IntKind.i64.wrap (vars+1)=vars+1:=wrap64 (by omega) (by omega)
 have t0:=Int.tmod_nonneg (vars+1) hv.1
 have t1:=Int.tmod_lt_of_pos v (show (0:Int)<vars+1 by omega)
 have w3:IntKind.i64.wrap (v.tmod (vars+1))=v.tmod (vars+1):=wrap64 (by omega) (by omega)
 have w4:IntKind.i64.wrap c=c:=wrap64 (by omega) (by omega)
 have c1:=of01 c
 simp only [encV] at c1
 have hz:¬vars+1=0:=by omega
 unfold tmOf
 obtain ⟨q,hq⟩:∃q,q=v.tmod (vars+1):=⟨_,rfl⟩
 rw [←hq] at t0 t1 w3 ⊢
 have hq':=hq.symm
 by_cases hq0:q=0
 ·rw [if_pos (.inl hq0)]
  refine conP_of_conH (conH_of_W tok Tryz.func109 rfl rfl ?_)
  refine wx ?_
  simp -implicitDefEqProofs -dsimp [Tryz.f109,List.replicate,w1,w2,hz,hq',w3,hq0]
  refine (callP (c1) (by simp)).mono ?_
  rintro r H' ⟨rfl,rfl⟩
  simp -implicitDefEqProofs -dsimp [encTm]
 ·by_cases h0:n=0
  ·rw [if_pos (.inr h0)]
   refine conP_of_conH (conH_of_W tok Tryz.func109 rfl rfl ?_)
   refine wx ?_
   simp -implicitDefEqProofs -dsimp [Tryz.f109,List.replicate,w1,w2,hz,hq',w3,hq0,h0]
   refine (callP (c1) (by simp)).mono ?_
   rintro r H' ⟨rfl,rfl⟩
   simp -implicitDefEqProofs -dsimp [encTm]
  ·rw [if_neg (by omega)]
   have s0:=Int.tmod_nonneg (n:Int) hc.1
   have s1:=Int.tmod_lt_of_pos c (show (0:Int)<n by omega)
   have w5:IntKind.i64.wrap (c.tmod n)=c.tmod n:=wrap64 (by omega) (by omega)
   refine conP_of_conH (conH_of_W tok Tryz.func109 rfl rfl ?_)
   refine wx ?_
   simp -implicitDefEqProofs -dsimp [Tryz.f109,List.replicate,w1,w2,hz,hq',w3,hq0,h0,show ¬(n:Int)=0 by omega,w4,w5]
   simp [encTm,zV]
theorem dnOf18 (n:Nat) (nv:Int) (sn:List Snt) (f:Bool) (hn:n≤100) (hv:0≤nv∧nv<256) (hl:sn.length≤2000000) (hs:∀s∈sn,SntOk s):ConP Tryz.prog 64 [.int .i64 n,.agg [.int .u8 nv,.lst 5 f (sn.map encSnt)]] fun r=>r = .tup [encDn false (dnOf n nv sn),.bool (decide (sn.length≤5))]:=by
 have t0:=Int.tmod_nonneg 3 hv.1
 have t1:=Int.tmod_lt_of_pos nv (show (0:Int)<3 by omega)
 have w0:IntKind.u8.wrap (nv.tmod 3)=nv.tmod 3:=by rw [IntKind.wrap_u8]; omega
 have w1:IntKind.i64.wrap (nv.tmod 3)=nv.tmod 3:=wrap64 (by omega) (by omega)
 have w2:IntKind.i64.wrap (1+nv.tmod 3)=1+nv.tmod 3:=wrap64 (by omega) (by omega)
 have hdn:dnOf n nv sn=⟨1+nv.tmod 3,sn.map (atOf n (1+nv.tmod 3))⟩:=rfl
 rw [hdn]
 obtain ⟨q,hq⟩:∃q,q=nv.tmod 3:=⟨_,rfl⟩
 rw [←hq] at t0 t1 w0 w1 w2 ⊢
 obtain ⟨vs,hvs⟩:∃vs,vs=1+q:=⟨_,rfl⟩
 rw [←hvs] at w2 ⊢
 have hq':=hq.symm
 have hvs':=hvs.symm
 obtain ⟨A,hA⟩:∃A,A=sn.map (atOf n vs):=⟨_,rfl⟩
 have hAl:A.length=sn.length:=by rw [hA,List.length_map]
 have hAi:∀i (h:i<sn.length),A.take (i+1)=A.take i++[atOf n vs sn[i]]:=fun i h=>by
  rw [List.take_succ_eq_append_getElem (by omega)]
  congr 2
  simp [hA]
 rw [←hA]
 have hrb:∀(i:Nat) (al:List At),∀bl∈[B.cells [.int .u8 nv,.lst 5 f (sn.map encSnt)],B.cells [.int .i64 0,.nilS],B.cells [.int .i64 vs,.buf 3 0 i i],B.buf 213 11 (al.map encAt) false],rbB 4 bl:=fun i al bl hbl=>by
  simp only [List.mem_cons,List.not_mem_nil,or_false] at hbl
  rcases hbl with rfl | rfl | rfl | rfl
  ·intro c hc; simp at hc; rcases hc with rfl | rfl<;>simp [rb,rb1]
  ·intro c hc; simp at hc; rcases hc with rfl | rfl<;>simp [rb,rb1]
  ·intro c hc; simp at hc; rcases hc with rfl | rfl<;>simp [rb,rb1]
  ·exact atoms_rb _ _ _ _
 refine conP_of_conH (conH_of_W tok Tryz.func64 rfl rfl ?_)
 refine wx ?_
 simp -implicitDefEqProofs -dsimp [Tryz.f64,List.replicate,hq',w0,w1,hvs',w2]
 refine lw_of (W_ownC 213 11 [] 2 [1] rfl (by simp) (by simp) (W_loopM 50 [7,8,15,16,17,18,19,20,21,22,23,24,25,26,27,28,29,30,31,32,33,34,35,36,37,38,39,40,41,42,43,44,45,46,47,48,49] (by simp [mB]<;>rfl) (σ:=Nat) (fun i=>i≤sn.length) (fun i=>sn.length - i) (fun i=>[(7,.int .i64 i)]) (fun i=>[B.cells [.int .u8 nv,.lst 5 f (sn.map encSnt)],B.cells [.int .i64 0,.nilS],B.cells [.int .i64 vs,.buf 3 0 i i],B.buf 213 11 ((A.take i).map encAt) false]) 0 (by omega) (by simp) (by simp) (by simp) ?_))
 intro i hi N Q hN hQ
 have htl:(A.take i).length=i:=by simp; omega
 by_cases hb:i<sn.length
 ·have hst:=hAi i hb
  have hk:=hs _ (List.getElem_mem hb)
  obtain ⟨s,hse⟩:∃s,s=sn[i]:=⟨_,rfl⟩
  rw [←hse] at hst hk
  have o0:=Int.tmod_nonneg 4 hk.op.1
  have o1:=Int.tmod_lt_of_pos s.op (show (0:Int)<4 by omega)
  have v0:IntKind.u8.wrap (s.op.tmod 4)=s.op.tmod 4:=by rw [IntKind.wrap_u8]; omega
  have v1:IntKind.i64.wrap (s.op.tmod 4)=s.op.tmod 4:=wrap64 (by omega) (by omega)
  have v2:IntKind.i64.wrap (1+s.op.tmod 4)=1+s.op.tmod 4:=wrap64 (by omega) (by omega)
  have c1:=side18 n vs s.lv s.lc hn (by omega) (by omega) hk.lv hk.lc
  have c2:=side18 n vs s.rv s.rc hn (by omega) (by omega) hk.rv hk.rc
  have hat:atOf n vs s=⟨tmOf n vs s.lv s.lc,1+s.op.tmod 4,tmOf n vs s.rv s.rc⟩:=rfl
  rw [hat] at hst
  obtain ⟨tl,htl1⟩:∃tl,tl=tmOf n vs s.lv s.lc:=⟨_,rfl⟩
  obtain ⟨tr,htr1⟩:∃tr,tr=tmOf n vs s.rv s.rc:=⟨_,rfl⟩
  rw [←htl1] at c1 hst
  rw [←htr1] at c2 hst
  simp only [encTm] at c1 c2
  obtain ⟨al,hal⟩:∃al,al=A.take i:=⟨_,rfl⟩
  rw [←hal] at hst htl ⊢
  refine wx ?_
  simp -implicitDefEqProofs -dsimp [hb,hse.symm,encSnt]
  refine lw_of (W_drawT tok mixed [21,23] [] [(encTm tl,[]),(encTm tr,[])] (by kernel_rfl) fun C K hC hK=>?_)
  simp -implicitDefEqProofs [encTm,v0,v1,v2,htl,cap104 i (by omega),wrapN i (by omega)]
  refine ⟨⟨hC _ _ _ _ (callP c1 (by simp)),hC _ _ _ _ (callP c2 (by simp))⟩,hK _ _ ?_⟩
  simp -implicitDefEqProofs -dsimp [wrapS i (by omega)]
  refine hN (i+1) _ _ (by omega) (by omega) (by simp) ⟨[B.cells [.int .u8 s.lv,.int .u8 s.lc,.int .u8 s.op,.int .u8 s.rv,.int .u8 s.rc]],by simp [hst,encAt]⟩ (by simp) (hrb _ _)
 ·obtain rfl:i=sn.length:=by omega
  rw [List.take_of_length_le (by omega)]
  refine W_frzC 3 [] 2 [1] rfl rfl (by simp) (by simp [hAl]) ?_
  refine wx ?_
  simp -implicitDefEqProofs -dsimp [hb]
  refine hQ _ _ _ ?_
  simp -implicitDefEqProofs -dsimp []
  have h5:((sn.length:Int)≤5)↔sn.length≤5:=by omega
  refine lw_of (W_drawT tok mixed [5] [(1,[1]),(2,[1]),(3,[1]),(4,[1])] [] (by kernel_rfl) fun C K hC hK=>?_)
  simp -implicitDefEqProofs [h5]
  refine hK _ _ ?_
  simp -implicitDefEqProofs -dsimp [encDn,LA]
  done
theorem u32u8 {c:Int} (h:0≤c∧c<256):IntKind.u32.wrap c=c:=by rw [IntKind.wrap_u32]; omega
theorem capCl (n:Nat) (h:n≤1000000000):n≤9223372036854775806∧(n+1)*40≤140737488355328:=by omega
theorem cls_rb (n e:Nat) (al:List Cl) (fz:Bool):rbB n (.buf e 4 (al.map encCl) fz):=by
 intro x hx
 obtain ⟨y,_,rfl⟩:=List.mem_map.1 hx
 intro c hc
 simp only [encCl,V.cells,List.mem_cons,List.not_mem_nil,or_false] at hc
 rcases hc with rfl | rfl | rfl | rfl<;>simp [rb,rb1]
theorem nums_rb (n e:Nat) (l:List Int) (fz:Bool):rbB n (.buf e 1 (l.map encI) fz):=by
 intro x hx
 obtain ⟨y,_,rfl⟩:=List.mem_map.1 hx
 intro c hc
 simp only [encI,V.cells,List.mem_cons,List.not_mem_nil,or_false] at hc
 subst hc
 simp [rb1]
theorem cfOf16 (n:Nat) (s b:Int) (cs:List Int) (f:Bool) (hn0:0<n) (hn:n≤16) (hs:0≤s∧s<256) (hb:0≤b∧b<256) (hl:cs.length≤9223372036854775807) (hv:∀c∈cs,0≤c∧c<256):ConP Tryz.prog 62 [.int .i64 n,.agg [.int .u8 s,.int .u8 b,.lst 1 f (cs.map encU)]] fun r=>r=encCfd false false (cfOf n s b cs):=by
 obtain ⟨r1,r2⟩:=cfR_lt hn0 hb.1
 unfold cfOf
 obtain ⟨R,hR⟩:∃R,R=cfR n b:=⟨_,rfl⟩
 rw [←hR] at r1 r2 ⊢
 have w1:IntKind.i64.wrap b=b:=wrap64 (by omega) (by omega)
 have w2:IntKind.i64.wrap (R:Int)=(R:Int):=wrap64 (by omega) (by omega)
 have ws:=u32u8 hs
 have hnz:¬(n:Int)=0:=by omega
 obtain ⟨L,hL⟩:∃L,L=cfL s R n:=⟨_,rfl⟩
 have hLl:L.length≤16:=by rw [hL]; exact Nat.le_trans (cfL_len _ _ _) hn
 rw [←hL]
 have hrb1:∀l:List Int,∀bl∈[B.cells [.int .u8 s,.int .u8 b,.lst 1 f (cs.map encU)],B.cells [.nilS,.int .i64 0,.nilS],B.cells [.buf 3 0 l.length l.length,.int .i64 R,.nilS],B.buf 3 1 (l.map encI) false],rbB 4 bl:=fun l bl hbl=>by
  simp only [List.mem_cons,List.not_mem_nil,or_false] at hbl
  rcases hbl with rfl | rfl | rfl | rfl
  ·intro c hc; simp at hc; rcases hc with rfl | rfl | rfl<;>simp [rb,rb1]
  ·intro c hc; simp only [List.mem_cons,List.not_mem_nil,or_false] at hc; rcases hc with rfl | rfl | rfl<;>simp [rb,rb1]
  ·intro c hc; simp at hc; rcases hc with rfl | rfl | rfl<;>simp [rb,rb1]
  ·exact nums_rb _ _ _ _
 have hrb2:∀(m:Nat) (ps:List Cl),∀bl∈[B.cells [.int .u8 s,.int .u8 b,.lst 1 f (cs.map encU)],B.cells [.nilS,.int .i64 0,.nilS],B.cells [.lst 1 false (L.map encI),.int .i64 R,.buf 4 0 m m],B.buf 3 1 (L.map encI) true,B.buf 202 4 (ps.map encCl) false],rbB 5 bl:=fun m ps bl hbl=>by
  simp only [List.mem_cons,List.not_mem_nil,or_false] at hbl
  rcases hbl with rfl | rfl | rfl | rfl | rfl
  ·intro c hc; simp at hc; rcases hc with rfl | rfl | rfl<;>simp [rb,rb1]
  ·intro c hc; simp only [List.mem_cons,List.not_mem_nil,or_false] at hc; rcases hc with rfl | rfl | rfl<;>simp [rb,rb1]
  ·intro c hc; simp at hc; rcases hc with rfl | rfl | rfl<;>simp [rb,rb1]
  ·exact nums_rb _ _ _ _
  ·exact cls_rb _ _ _ _
 refine conP_of_conH (conH_of_W tok Tryz.func62 rfl rfl ?_)
 refine wx ?_
 simp -implicitDefEqProofs -dsimp [Tryz.f62,List.replicate,hnz,show ¬n=0 by omega,w1,r1.symm,w2]
 refine lw_of (W_ownC 3 1 [] 2 [0] rfl (by simp) (by simp) (W_loopM 36 [6,14,15,16,17,18,19,20,21,22,23,24,25,26,27,28,29,30,31,32,33,34,35] (by simp [mB]<;>rfl) (σ:=Nat×List Int) (fun p=>p.1≤n∧p.2=cfL s R p.1) (fun p=>n - p.1) (fun p=>[(6,.int .i64 p.1)]) (fun p=>[B.cells [.int .u8 s,.int .u8 b,.lst 1 f (cs.map encU)],B.cells [.nilS,.int .i64 0,.nilS],B.cells [.buf 3 0 p.2.length p.2.length,.int .i64 R,.nilS],B.buf 3 1 (p.2.map encI) false]) (0,[]) ⟨by omega,rfl⟩ (by simp) (by simp) (by simp) ?_))
 rintro ⟨i,l⟩ ⟨hi,hle⟩ N Q hN hQ
 simp only at hi hle
 have hll:l.length≤i:=by rw [hle]; exact cfL_len _ _ _
 by_cases hib:i<n
 ·have ch:=has02 s i (by omega)
  have hsu:=cfL_succ s R i
  rw [←hle] at hsu
  cases hq:hasB s i with
  | false =>
   rw [hq] at ch
   rw [hq,Bool.false_and,if_neg (by simp)] at hsu
   refine wx ?_
   simp -implicitDefEqProofs -dsimp [hib,ws]
   refine (callP (ch) (by simp)).mono ?_
   rintro r H' ⟨rfl,rfl⟩
   simp -implicitDefEqProofs -dsimp [wrapS i (by omega)]
   refine hN (i+1,l) _ _ ⟨by simp only; omega,hsu.symm⟩ (by simp only; omega) (by simp) ⟨[],by simp⟩ (by simp) (hrb1 _)
  | true =>
   rw [hq] at ch
   by_cases hiR:i=R
   ·rw [hq,decide_eq_true hiR,Bool.not_true,Bool.and_false,if_neg (by simp)] at hsu
    refine wx ?_
    simp -implicitDefEqProofs -dsimp [hib,ws]
    refine (callP (ch) (by simp)).mono ?_
    rintro r H' ⟨rfl,rfl⟩
    simp -implicitDefEqProofs -dsimp [show (i:Int)=R by omega,hiR,wrapS i (by omega),wrapS R (by omega)]
    refine hN (i+1,l) _ _ ⟨by simp only; omega,hsu.symm⟩ (by simp only; omega) (by simp [hiR]) ⟨[],by simp⟩ (by simp) (hrb1 _)
   ·rw [hq,decide_eq_false hiR,Bool.not_false,Bool.and_true,if_pos rfl] at hsu
    refine wx ?_
    simp -implicitDefEqProofs -dsimp [hib,ws]
    refine (callP (ch) (by simp)).mono ?_
    rintro r H' ⟨rfl,rfl⟩
    simp -implicitDefEqProofs -dsimp [show ¬(i:Int)=R by omega,hiR,cap8 l.length (by omega),wrapN l.length (by omega),wrapS i (by omega)]
    refine hN (i+1,l++[(i:Int)]) _ _ ⟨by simp only; omega,hsu.symm⟩ (by simp only; omega) (by simp) ⟨[],by simp [encI]⟩ (by simp) (hrb1 _)
 ·obtain rfl:i=n:=by omega
  rw [←hL] at hle
  subst hle
  obtain ⟨m,hm⟩:∃m,m=l.length:=⟨_,rfl⟩
  refine W_frzC 3 [] 2 [0] rfl rfl (by simp) (by simp) ?_
  refine wx ?_
  simp -implicitDefEqProofs -dsimp [hib]
  refine hQ _ _ _ ?_
  simp -implicitDefEqProofs -dsimp []
  refine lw_of (W_ownC 202 4 [] 2 [2] rfl (by simp) (by simp) (W_loopM 77 [7,36,37,38,39,40,41,42,43,44,45,46,47,48,49,50,51,52,53,54,55,56,57,58,59,60,61,62,63,64,65,66,67,68,69,70,71,72,73,74,75,76] (by simp [mB]<;>rfl) (σ:=Nat) (fun k=>k≤l.length+1) (fun k=>l.length+1 - k) (fun k=>[(7,.int .i64 k)]) (fun k=>[B.cells [.int .u8 s,.int .u8 b,.lst 1 f (cs.map encU)],B.cells [.nilS,.int .i64 0,.nilS],B.cells [.lst 1 false (l.map encI),.int .i64 R,.buf 4 0 k k],B.buf 3 1 (l.map encI) true,B.buf 202 4 ((cfP cs k).map encCl) false]) 0 (by omega) (by simp) (by simp [cfP]) (by simp) ?_))
  intro k hk N2 Q2 hN2 hQ2
  have hpl:=cfP_len cs k
  have hps:=cfP_succ cs k
  obtain ⟨ps,hpe⟩:∃ps,ps=cfP cs k:=⟨_,rfl⟩
  rw [←hpe] at hpl hps ⊢
  by_cases hkb:k≤l.length
  ·by_cases hkc:k<cs.length
   ·have hg:cs.getD k 0=cs[k]:=by simp [hkc]
    unfold clOf at hps
    rw [hg] at hps
    have hx:=hv _ (List.getElem_mem hkc)
    obtain ⟨x,hxe⟩:∃x,x=cs[k]:=⟨_,rfl⟩
    rw [←hxe] at hps hx
    have t0:=Int.tmod_nonneg 2 hx.1
    have t1:=Int.tmod_lt_of_pos x (show (0:Int)<2 by omega)
    have u1:IntKind.u8.wrap (x.tmod 2)=x.tmod 2:=by rw [IntKind.wrap_u8]; omega
    by_cases h2:x.tmod 2=0
    ·rw [if_neg (by omega)] at hps
     refine wx ?_
     simp -implicitDefEqProofs -dsimp [show (k:Int)≤l.length by omega,hkb,hkc,show ¬cs.length≤k by omega,hxe.symm,encU,u1,h2]
     simp -implicitDefEqProofs -dsimp [hpl,capCl k (by omega),wrapN k (by omega),wrapS k (by omega)]
     refine hN2 (k+1) _ _ (by omega) (by omega) (by simp) ⟨[],by simp [hps,encCl,zV]⟩ (by simp) (hrb2 _ _)
    ·rw [if_pos ⟨hkc,h2⟩] at hps
     have d0:0≤x.tdiv 2∧x.tdiv 2<256:=by rw [Int.tdiv_eq_ediv_of_nonneg hx.1]; omega
     have u2:IntKind.u8.wrap (x.tdiv 2)=x.tdiv 2:=by rw [IntKind.wrap_u8]; omega
     have d1:=Int.tmod_nonneg 3 d0.1
     have d2:=Int.tmod_lt_of_pos (x.tdiv 2) (show (0:Int)<3 by omega)
     have u3:IntKind.u8.wrap ((x.tdiv 2).tmod 3)=(x.tdiv 2).tmod 3:=by rw [IntKind.wrap_u8]; omega
     have co:=of01 ((x.tdiv 2).tmod 3)
     obtain ⟨vl,hvl⟩:∃vl,vl=ofC ((x.tdiv 2).tmod 3):=⟨_,rfl⟩
     rw [←hvl] at co hps
     simp only [encV] at co
     refine wx ?_
     simp -implicitDefEqProofs -dsimp [show (k:Int)≤l.length by omega,hkb,hkc,show ¬cs.length≤k by omega,hxe.symm,encU,u1,h2]
     refine lw_of (W_drawT tok mixed [12,14] [] [(encV vl,[])] (by kernel_rfl) fun C K hC hK=>?_)
     simp -implicitDefEqProofs [hkc,hxe.symm,encU,encV,u2,u3,hpl,capCl k (by omega),wrapN k (by omega)]
     refine ⟨hC _ _ _ _ (callP co (by simp)),hK _ _ ?_⟩
     simp -implicitDefEqProofs -dsimp [wrapS k (by omega)]
     refine hN2 (k+1) _ _ (by omega) (by omega) (by simp) ⟨[],by simp [hps,encCl]⟩ (by simp) (hrb2 _ _)
   ·unfold clOf at hps
    rw [if_neg (by omega)] at hps
    refine wx ?_
    simp -implicitDefEqProofs -dsimp [show (k:Int)≤l.length by omega,hkb,hkc,show (cs.length:Int)≤k by omega,show cs.length≤k by omega]
    simp -implicitDefEqProofs -dsimp [hpl,capCl k (by omega),wrapN k (by omega),wrapS k (by omega)]
    refine hN2 (k+1) _ _ (by omega) (by omega) (by simp) ⟨[],by simp [hps,encCl,zV]⟩ (by simp) (hrb2 _ _)
  ·obtain rfl:k=l.length+1:=by omega
   refine W_frzC 4 [] 2 [2] rfl rfl (by simp) (by simp [hpl]) ?_
   refine wx ?_
   simp -implicitDefEqProofs -dsimp [show ¬((l.length:Int)+1≤l.length) by omega]
   refine hQ2 _ _ _ ?_
   simp -implicitDefEqProofs -dsimp []
   simp [encCfd,L1,LCl,hpe]
def cnW (c:Cn) (cl cp ol or at_:V):V:=.agg [.str c.name,.str c.table,.int .i64 c.kind,.int .u32 (c.fd.l:Int),.int .u32 (c.fd.r:Int),.int .u32 c.m1,.int .u32 c.m2,.str c.i1,.nilS,.str c.i3,.nilS,cl,.int .i64 c.cfd.r,cp,ol,or,.int .i64 c.dn.vars,at_]
theorem lfN (z:Nat):lfB .nilS (.lst z false []):=.inr (.inr ⟨z,rfl,rfl⟩)
theorem conP_cn {f:FuncId} {args:List V} {c:Cn} {cl cp ol or at_:V} {b:Bool} (h:ConP Tryz.prog f args fun x=>x = .tup [cnW c cl cp ol or at_,.bool b]) (h1:c.i2=[]∧c.i4=[])
  (h2:lfB cl (L1 false c.cfd.l)) (h3:lfB cp (LCl false c.cfd.p)) (h4:lfB ol (L1 false c.od.l)) (h5:lfB or (L1 false c.od.r)) (h6:lfB at_ (LA false c.dn.atoms)):ConP Tryz.prog f args fun x=>x = .tup [encCn c,.bool b]:=by
 refine conP_lf h (fun s u hr=>rel_tup2 hr fun x hx=>?_) (.tup _ (by simp))
 refine rel_agg_lf hx ?_
 refine ⟨.inl rfl,.inl rfl,.inl rfl,.inl rfl,.inl rfl,.inl rfl,.inl rfl,.inl rfl,?_,.inl rfl,?_,h2,.inl rfl,h3,h4,h5,.inl rfl,h6,trivial⟩
 ·rw [h1.1]; exact lfN 1
 ·rw [h1.2]; exact lfN 1
theorem ruleOf37 (n:Nat) (r:Rul) (hn:n≤16) (h:RulOk r):ConP Tryz.prog 26 [.int .i64 n,encRul r] fun x=>x = .tup [encCn (cnOf n r),.bool (cnOk r)]:=by
 have t0:=Int.tmod_nonneg 5 h.k.1
 have t1:=Int.tmod_lt_of_pos r.k (show (0:Int)<5 by omega)
 have w0:IntKind.u8.wrap (r.k.tmod 5)=r.k.tmod 5:=by rw [IntKind.wrap_u8]; omega
 have dflt:¬r.k.tmod 5=2→¬r.k.tmod 5=3→(r.k.tmod 5=1→n=0)→ConP Tryz.prog 26 [.int .i64 n,encRul r] fun x=>x = .tup [encCn (cnOf n r),.bool (cnOk r)]:=fun g2 g3 g1=>by
  have hcn:cnOf n r = { cn0 with kind:=1,fd:=fdOf n r.fd }:=by unfold cnOf; rw [if_neg (fun e=>by have:=g1 e.1; omega),if_neg g2,if_neg g3]
  have hok:cnOk r=true:=by unfold cnOk; rw [decide_eq_false g3]; rfl
  rw [hcn,hok]
  refine conP_cn (cl:=.nilS) (cp:=.nilS) (ol:=.nilS) (or:=.nilS) (at_:=.nilS) ?_ ⟨rfl,rfl⟩ (lfN _) (lfN _) (lfN _) (lfN _) (lfN _)
  have c1:=list09 n [r.fd] true (by omega) (by simp) (fun d hd=>by simp at hd; rw [hd]; exact h.fd)
  simp only [List.map_cons,List.map_nil,encD,LF,encF] at c1
  obtain ⟨q,hq⟩:∃q,q=r.k.tmod 5:=⟨_,rfl⟩
  rw [←hq] at g2 g3 g1 t0 t1 w0
  have hq':=hq.symm
  by_cases hq1:q=1
  ·have hn0:=g1 hq1
   subst hn0
   refine conP_of_conH (conH_of_W tok Tryz.func26 rfl rfl ?_)
   refine wx ?_
   simp -implicitDefEqProofs -dsimp [Tryz.f26,List.replicate,encRul,LU,hq',w0,hq1]
   refine lw_of (W_drawT tok mixed [8,10] [(5,[1]),(6,[1])] [(.lst 2 false [encF (fdOf 0 r.fd)],[])] (by kernel_rfl) fun C K hC hK=>?_)
   simp -implicitDefEqProofs [encF]
   refine ⟨hC _ _ _ _ (callP c1 (by simp)),hK _ _ ?_⟩
   simp -implicitDefEqProofs -dsimp [cnW,cn0,strC,strR]
  ·refine conP_of_conH (conH_of_W tok Tryz.func26 rfl rfl ?_)
   refine wx ?_
   simp -implicitDefEqProofs -dsimp [Tryz.f26,List.replicate,encRul,LU,hq',w0,hq1,g2,g3]
   refine lw_of (W_drawT tok mixed [8,10] [(5,[1]),(6,[1])] [(.lst 2 false [encF (fdOf n r.fd)],[])] (by kernel_rfl) fun C K hC hK=>?_)
   simp -implicitDefEqProofs [encF]
   refine ⟨hC _ _ _ _ (callP c1 (by simp)),hK _ _ ?_⟩
   simp -implicitDefEqProofs -dsimp [cnW,cn0,strC,strR]
 by_cases g1:r.k.tmod 5=1
 ·by_cases h0:n=0
  ·exact dflt (by omega) (by omega) fun _=>h0
  ·have hcn:cnOf n r = { cn0 with kind:=4,cfd:=cfOf n r.cl r.cr r.cs }:=by unfold cnOf; rw [if_pos ⟨g1,by omega⟩]
   have hok:cnOk r=true:=by unfold cnOk; rw [decide_eq_false (by omega)]; rfl
   rw [hcn,hok]
   refine conP_cn (cl:=L1 false (cfOf n r.cl r.cr r.cs).l) (cp:=LCl false (cfOf n r.cl r.cr r.cs).p) (ol:=.nilS) (or:=.nilS) (at_:=.nilS) ?_ ⟨rfl,rfl⟩ (.inl rfl) (.inl rfl) (lfN _) (lfN _) (lfN _)
   have c1:=cfOf16 n r.cl r.cr r.cs false (by omega) hn h.cl h.cr h.cs h.csv
   obtain ⟨cf,hcf⟩:∃cf,cf=cfOf n r.cl r.cr r.cs:=⟨_,rfl⟩
   rw [←hcf] at c1 ⊢
   simp only [encCfd,L1,LCl] at c1
   obtain ⟨q,hq⟩:∃q,q=r.k.tmod 5:=⟨_,rfl⟩
   rw [←hq] at g1 w0
   have hq':=hq.symm
   subst g1
   refine conP_of_conH (conH_of_W tok Tryz.func26 rfl rfl ?_)
   refine wx ?_
   simp -implicitDefEqProofs -dsimp [Tryz.f26,List.replicate,encRul,LU,hq',w0,show (0:Int)<n by omega,show 0<n by omega]
   refine (callP (c1) (by simp)).mono ?_
   rintro r H' ⟨rfl,rfl⟩
   simp -implicitDefEqProofs -dsimp [cnW,cn0,strC,strR,L1,LCl]
 by_cases g2:r.k.tmod 5=2
 ·have hcn:cnOf n r = { cn0 with kind:=5,od:=odOf n r.xs r.ys }:=by unfold cnOf; rw [if_neg (by omega),if_pos g2]
  have hok:cnOk r=true:=by unfold cnOk; rw [decide_eq_false (by omega)]; rfl
  rw [hcn,hok]
  refine conP_cn (cl:=.nilS) (cp:=.nilS) (ol:=L1 false (odOf n r.xs r.ys).l) (or:=L1 false (odOf n r.xs r.ys).r) (at_:=.nilS) ?_ ⟨rfl,rfl⟩ (lfN _) (lfN _) (.inl rfl) (.inl rfl) (lfN _)
  have c1:=odOf17 n r.xs r.ys false false h.xs h.xsv h.ys h.ysv (by omega)
  obtain ⟨od,hod⟩:∃od,od=odOf n r.xs r.ys:=⟨_,rfl⟩
  rw [←hod] at c1 ⊢
  simp only [encOd,L1] at c1
  obtain ⟨q,hq⟩:∃q,q=r.k.tmod 5:=⟨_,rfl⟩
  rw [←hq] at g2 w0
  have hq':=hq.symm
  subst g2
  refine conP_of_conH (conH_of_W tok Tryz.func26 rfl rfl ?_)
  refine wx ?_
  simp -implicitDefEqProofs -dsimp [Tryz.f26,List.replicate,encRul,LU,hq',w0]
  refine (callP (c1) (by simp)).mono ?_
  rintro r H' ⟨rfl,rfl⟩
  simp -implicitDefEqProofs -dsimp [cnW,cn0,strC,strR,L1,LCl]
 by_cases g3:r.k.tmod 5=3
 ·have hcn:cnOf n r = { cn0 with kind:=6,dn:=dnOf n r.nv r.sn }:=by unfold cnOf; rw [if_neg (by omega),if_neg g2,if_pos g3]
  have hok:cnOk r=decide (r.sn.length≤5):=by unfold cnOk; rw [decide_eq_true g3]; rfl
  rw [hcn,hok]
  refine conP_cn (cl:=.nilS) (cp:=.nilS) (ol:=.nilS) (or:=.nilS) (at_:=LA false (dnOf n r.nv r.sn).atoms) ?_ ⟨rfl,rfl⟩ (lfN _) (lfN _) (lfN _) (lfN _) (.inl rfl)
  have c1:=dnOf18 n r.nv r.sn false (by omega) h.nv (by have:=h.sn; omega) h.snv
  obtain ⟨dn,hdn⟩:∃dn,dn=dnOf n r.nv r.sn:=⟨_,rfl⟩
  rw [←hdn] at c1 ⊢
  simp only [encDn,LA] at c1
  obtain ⟨q,hq⟩:∃q,q=r.k.tmod 5:=⟨_,rfl⟩
  rw [←hq] at g3 w0
  have hq':=hq.symm
  subst g3
  obtain ⟨bb,hbb⟩:∃bb,bb=decide (r.sn.length≤5):=⟨_,rfl⟩
  rw [←hbb] at c1 ⊢
  refine conP_of_conH (conH_of_W tok Tryz.func26 rfl rfl ?_)
  refine wx ?_
  simp -implicitDefEqProofs -dsimp [Tryz.f26,List.replicate,encRul,LU,hq',w0]
  refine (callP (c1) (by simp)).mono ?_
  rintro r H' ⟨rfl,rfl⟩
  simp -implicitDefEqProofs -dsimp []
  refine lw_of (W_drawT tok mixed [2,4] [(0,[1])] [] (by kernel_rfl) fun C K hC hK=>?_)
  simp -implicitDefEqProofs []
  refine hK _ _ ?_
  simp -implicitDefEqProofs -dsimp [cnW,cn0,strC,strR,LA]
 exact dflt g2 g3 fun e=>absurd e g1
theorem table03 (x:Rcp) (f:Bool) (ha:0≤x.a∧x.a<256) (hg:0≤x.gap) (hc:∀r∈x.rows,r.length≤9223372036854775807):ConP Tryz.prog 36 [encRcp f x,.int .i64 6] fun r=>r=if x.rows.length≤6 then .tup [encTb false false (tbOf x),.bool true] else .tup [.agg [.str ByteArray.empty,.nilS,.nilS],.bool false]:=by
 by_cases h6:x.rows.length≤6
 ·rw [if_pos h6]
  obtain ⟨h1,h2⟩:=tbOf_n ha.1
  have t0:=Int.tmod_nonneg 6 ha.1
  have t1:=Int.tmod_lt_of_pos x.a (show (0:Int)<6 by omega)
  have c1:=wide03 x (x.a.tmod 6).toNat f (by omega) (by omega) hc hg
  rw [h2] at c1
  have w0:IntKind.u8.wrap (x.a.tmod 6)=x.a.tmod 6:=by rw [IntKind.wrap_u8]; omega
  have w1:IntKind.i64.wrap (x.a.tmod 6)=x.a.tmod 6:=wrap64 (by omega) (by omega)
  rw [show wideT x (x.a.tmod 6).toNat=tbOf x from rfl] at c1
  obtain ⟨t,ht⟩:∃t,t=tbOf x:=⟨_,rfl⟩
  rw [←ht] at c1 ⊢
  simp only [encRcp,encTb,LS,LR] at c1
  refine conP_of_conH (conH_of_W tok Tryz.func36 rfl rfl ?_)
  refine wx ?_
  simp -implicitDefEqProofs -dsimp [Tryz.f36,List.replicate,encRcp,w0,w1,show ¬(6:Int)<x.rows.length by omega]
  refine (callP (c1) (by simp)).mono ?_
  rintro r H' ⟨rfl,rfl⟩
  simp -implicitDefEqProofs -dsimp [encTb,LS,LR]
 ·rw [if_neg h6]
  refine conP_of_conH (conH_of_W tok Tryz.func36 rfl rfl ?_)
  refine wx ?_
  simp -implicitDefEqProofs -dsimp [Tryz.f36,List.replicate,encRcp,show (6:Int)<x.rows.length by omega]
theorem cns_rb (n e:Nat) (cs:List Cn) (fz:Bool):rbB n (.buf e 18 (cs.map encCn) fz):=by
 intro x hx
 obtain ⟨y,_,rfl⟩:=List.mem_map.1 hx
 intro c hc
 have:=cnCells_rb n y c hc
 simp only [encCn,L1,LCl,LA,V.cells] at hc
 simp only [List.mem_cons,List.not_mem_nil,or_false] at hc
 rcases hc with rfl | rfl | rfl | rfl | rfl | rfl | rfl | rfl | rfl | rfl | rfl | rfl | rfl | rfl | rfl | rfl | rfl | rfl<;>simp [rb1]
theorem capCn2 (n:Nat) (h:n≤100000000):n≤9223372036854775806∧(n+1)*272≤140737488355328:=by omega
def rlV (n:Nat) (rs:List Rul):V:=if rs.all cnOk=true then .tup [LCn false (rs.map (cnOf n)),.bool (decide (rs.length≤4))] else .tup [.nilS,.bool false]
theorem rules37 (n:Nat) (rs:List Rul) (f:Bool) (hn:n≤16) (hl:rs.length≤2000000) (hr:∀r∈rs,RulOk r):ConP Tryz.prog 37 [.int .i64 n,.lst 10 f (rs.map encRul)] fun x=>x=rlV n rs:=by
 obtain ⟨A,hA⟩:∃A,A=rs.map (cnOf n):=⟨_,rfl⟩
 have hAl:A.length=rs.length:=by rw [hA,List.length_map]
 have hAi:∀i (h:i<rs.length),A.take (i+1)=A.take i++[cnOf n rs[i]]:=fun i h=>by
  rw [List.take_succ_eq_append_getElem (by omega)]
  congr 2
  simp [hA]
 obtain ⟨E,hE⟩:∃E,E=rs.all cnOk:=⟨_,rfl⟩
 have hrl:rlV n rs=if E=true then .tup [LCn false A,.bool (decide (rs.length≤4))] else .tup [.nilS,.bool false]:=by rw [hE,hA]; rfl
 rw [hrl]
 have hrb:∀(cs:List Cn),∀bl∈[B.buf 62 18 (cs.map encCn) false],rbB 1 bl:=fun cs bl hbl=>by
  simp only [List.mem_singleton] at hbl
  subst hbl
  exact cns_rb _ _ _ _
 refine conP_of_conH (conH_of_W tok Tryz.func37 rfl rfl ?_)
 refine wx ?_
 simp -implicitDefEqProofs -dsimp [Tryz.f37,List.replicate]
 refine lw_of (W_own 62 18 [6] (by simp) (W_loopM 31 [4,5,6,7,8,9,10,11,12,13,14,15,16,17,18,19,20,21,22,23,24,25,26,27,28,29,30] (by simp [mB]<;>rfl) (σ:=Nat) (fun i=>i≤rs.length∧(rs.drop i).all cnOk=E) (fun i=>rs.length - i) (fun i=>[(7,.int .i64 i),(6,.buf 0 0 i i)]) (fun i=>[B.buf 62 18 ((A.take i).map encCn) false]) 0 ⟨by omega,by rw [hE,List.drop_zero]⟩ (by simp) (by simp) (by simp) ?_))
 rintro i ⟨hi,hx⟩ N Q hN hQ
 have htl:(A.take i).length=i:=by simp; omega
 by_cases hb:i<rs.length
 ·have hst:=hAi i hb
  rw [List.drop_eq_getElem_cons hb,List.all_cons] at hx
  have hk:=hr _ (List.getElem_mem hb)
  obtain ⟨r,hre⟩:∃r,r=rs[i]:=⟨_,rfl⟩
  rw [←hre] at hst hx hk
  have c1:=ruleOf37 n r hn hk
  obtain ⟨c,hc⟩:∃c,c=cnOf n r:=⟨_,rfl⟩
  rw [←hc] at c1 hst
  obtain ⟨al,hal⟩:∃al,al=A.take i:=⟨_,rfl⟩
  rw [←hal] at hst htl ⊢
  simp only [encRul,encCn,L1,LCl,LA] at c1
  cases hq:cnOk r with
  | true =>
   rw [hq] at c1
   rw [hq,Bool.true_and] at hx
   refine wx ?_
   simp -implicitDefEqProofs -dsimp [hb,hre.symm,encRul]
   refine (callP (c1) (by simp)).mono ?_
   rintro r H' ⟨rfl,rfl⟩
   simp -implicitDefEqProofs -dsimp [htl,capCn2 i (by omega),wrapN i (by omega),wrapS i (by omega)]
   refine hN (i+1) _ _ ⟨by omega,hx⟩ (by omega) (by simp) ⟨[B.cells (cnCells c)],by simp [hst,encCn,L1,LCl,LA,cnCells]⟩ (by simp) (hrb _)
  | false =>
   rw [hq] at c1
   rw [hq,Bool.false_and] at hx
   refine wx ?_
   simp -implicitDefEqProofs -dsimp [hb,hre.symm,encRul]
   refine (callP (c1) (by simp)).mono ?_
   rintro r H' ⟨rfl,rfl⟩
   simp -implicitDefEqProofs -dsimp []
   refine hQ _ _ _ ?_
   simp -implicitDefEqProofs -dsimp []
   rw [←hx]
   simp
 ·obtain rfl:i=rs.length:=by omega
  rw [List.drop_of_length_le (by omega)] at hx
  rw [List.take_of_length_le (by omega)]
  refine W_frz 0 [6] rfl (by simp [hAl]) ?_
  have h4:((rs.length:Int)≤4)↔rs.length≤4:=by omega
  refine wx ?_
  simp -implicitDefEqProofs -dsimp [hb]
  refine hQ _ _ _ ?_
  simp -implicitDefEqProofs -dsimp [h4,LCn]
  rw [←hx]
  simp
theorem kR_succ {K:List Int} {R:List Rw} {i:Nat} (h:i<R.length):kR K (R.take (i+1))=if memB K R[i].id=true then kR K (R.take i)++[R[i]] else kR K (R.take i):=by
 unfold kR
 rw [List.take_succ_eq_append_getElem h,List.filter_append]
 by_cases hm:memB K R[i].id=true
 ·rw [if_pos hm,List.filter_cons_of_pos (p:=fun r:Rw=>memB K r.id) hm]; rfl
 ·rw [if_neg hm,List.filter_cons_of_neg (p:=fun r:Rw=>memB K r.id) hm]; simp
theorem keep03 (t:Tb) (K:List Int) (f g fk:Bool) (ha:t.attrs.length≤1000000) (hr:t.rows.length≤1000000) (hv:∀r∈t.rows,r.vals.length≤1000000) (hK:K.length≤1000000):ConP Tryz.prog 27 [encTb f g t,L1 fk K] fun r=>r=encTb false false (kT K t):=by
 have htB:B.cells [.str t.name,.lst 1 f (t.attrs.map V.str),.lst 2 g (t.rows.map encRw)]=tcB t f g:=rfl
 have htr:∀n,rbB n (tcB t f g):=fun n=>tcB_rb n t f g
 obtain ⟨R,hR⟩:∃R,R=t.rows:=⟨_,rfl⟩
 have hkl:∀i,(kR K (R.take i)).length≤i:=fun i=>by
  unfold kR
  exact Nat.le_trans (List.length_filter_le _ _) (by simp; omega)
 have cw:=with03 t (kR K R) f g false ha (by unfold kR; exact Nat.le_trans (List.length_filter_le _ _) (by rw [hR]; exact hr)) (fun r h=>hv r (by rw [←hR]; exact (kR_mem.1 h).1))
 have hkt:(⟨t.name,t.attrs,kR K R⟩:Tb)=kT K t:=by rw [hR]; rfl
 rw [hkt] at cw
 obtain ⟨kt,hkte⟩:∃kt,kt=kT K t:=⟨_,rfl⟩
 rw [←hkte] at cw ⊢
 have htB2:tcB t f g=B.cells [.str t.name,.lst 1 f (t.attrs.map V.str),.lst 2 g (R.map encRw)]:=by rw [hR]; rfl
 rw [←hR] at hr
 have hrb:∀rs:List Rw,∀bl∈[tcB t f g,B.cells [.str ByteArray.empty,.nilS,.nilS],B.buf 80 2 (rs.map encRw) false],rbB 3 bl:=fun rs bl hbl=>by
  simp only [List.mem_cons,List.not_mem_nil,or_false] at hbl
  rcases hbl with rfl | rfl | rfl
  ·exact htr _
  ·intro c hc; simp only [List.mem_cons,List.not_mem_nil,or_false] at hc; rcases hc with rfl | rfl | rfl<;>simp [rb,rb1]
  ·exact rows_rb2 _ _ _ _
 simp only [encTb,LS,LR] at cw
 rw [←hR] at cw
 refine conP_of_conH (conH_of_W tok Tryz.func27 rfl rfl ?_)
 refine wx ?_
 simp -implicitDefEqProofs -dsimp [Tryz.f27,List.replicate,encTb,LS,LR,L1]
 refine lw_of (W_own 80 2 [5] (by simp) (W_loopM 30 [5,6,7,8,9,10,11,12,13,14,15,16,17,18,19,20,21,22,23,24,25,26,27,28,29] (by simp [mB]<;>rfl) (σ:=Nat×List Rw) (fun p=>p.1≤R.length∧p.2=kR K (R.take p.1)) (fun p=>R.length - p.1) (fun p=>[(6,.int .i64 p.1),(5,.buf 2 0 p.2.length p.2.length)]) (fun p=>[tcB t f g,B.cells [.str ByteArray.empty,.nilS,.nilS],B.buf 80 2 (p.2.map encRw) false]) (0,[]) ⟨by omega,rfl⟩ (by simp) (by simp [tcB]) (by simp) ?_))
 rintro ⟨i,out⟩ ⟨hi,hx⟩ N Q hN hQ
 simp only at hi hx
 have hol:out.length≤i:=by rw [hx]; exact hkl i
 by_cases hb:i<R.length
 ·have hsu:=kR_succ (K:=K) hb
  obtain ⟨r,hre⟩:∃r,r=R[i]:=⟨_,rfl⟩
  rw [←hre,←hx] at hsu
  have ch:=has03 K r.id fk hK
  simp only [L1] at ch
  cases hm:memB K r.id with
  | false =>
   rw [hm] at ch
   rw [if_neg (by simp [hm])] at hsu
   refine wx ?_
   simp -implicitDefEqProofs -dsimp [htB2,hb,hre.symm,encRw,LV]
   refine (callP (ch) (by simp)).mono ?_
   rintro r H' ⟨rfl,rfl⟩
   simp -implicitDefEqProofs -dsimp [wrapS i (by omega)]
   refine hN (i+1,out) _ _ ⟨by simp only; omega,hsu.symm⟩ (by simp only; omega) (by simp) ⟨[],by simp [htB2]⟩ (by simp) (hrb _)
  | true =>
   rw [hm] at ch
   rw [if_pos hm] at hsu
   refine wx ?_
   simp -implicitDefEqProofs -dsimp [htB2,hb,hre.symm,encRw,LV]
   refine (callP (ch) (by simp)).mono ?_
   rintro r H' ⟨rfl,rfl⟩
   simp -implicitDefEqProofs -dsimp [hb,hre.symm,encRw,LV,cap32 out.length (by omega),wrapN out.length (by omega),wrapS i (by omega)]
   refine hN (i+1,out++[r]) _ _ ⟨by simp only; omega,hsu.symm⟩ (by simp only; omega) (by simp) ⟨[],by simp [htB2,encRw,LV]⟩ (by simp) (hrb _)
 ·obtain rfl:i=R.length:=by omega
  rw [List.take_of_length_le (by omega)] at hx
  subst hx
  refine W_frz 2 [5] rfl (by simp) ?_
  refine wx ?_
  simp -implicitDefEqProofs -dsimp [htB2,hb]
  refine hQ _ _ _ ?_
  simp -implicitDefEqProofs -dsimp []
  refine (callP (cw) (by simp)).mono ?_
  rintro r H' ⟨rfl,rfl⟩
  simp -implicitDefEqProofs -dsimp [encTb,LS,LR]
theorem cnsErr_of {t:Tb} : ∀{cs:List Cn},(∀c∈cs,cnErr t c=0)→cnsErr t cs=0
 | [],_=>rfl
 | c::cs,h=>by
  rw [cnsErr,if_pos (h c (List.mem_cons_self ..))]
  exact cnsErr_of fun c' hc=>h c' (List.mem_cons_of_mem _ hc)
theorem ofC_sz (c:Int):(ofC c).s.size≤maxLen:=ofV_sz _
theorem tmOf_sz (n:Nat) (vars v c:Int):(tmOf n vars v c).x.s.size≤maxLen:=by
 unfold tmOf
 split
 ·exact ofC_sz c
 ·show (0:Nat)≤maxLen; exact Nat.zero_le _
theorem cnB_of {n:Nat} (hn:n≤16) {r:Rul} (h:RulOk r) (hk:cnOk r=true):CnB (cnOf n r):=by
 have hz:CnB { cn0 with kind:=1,fd:=fdOf n r.fd }:=⟨Nat.zero_le _,Nat.zero_le _,Nat.zero_le _,Nat.zero_le _,Nat.zero_le _,
  ⟨Nat.lt_of_le_of_lt Nat.and_le_left (by have:=h.fd.1; omega),Nat.lt_of_le_of_lt Nat.and_le_left (by have:=h.fd.2; omega)⟩,fun a ha=>by cases ha⟩
 unfold cnOf
 split
 ·refine ⟨?_,?_,Nat.zero_le _,Nat.zero_le _,Nat.zero_le _,⟨by show 0<4294967296; omega,by show 0<4294967296; omega⟩,fun a ha=>by cases ha⟩
  ·show (cfL _ _ _).length≤_
   have:=cfL_len r.cl (cfR n r.cr) n
   omega
  ·show (cfP _ _).length≤_
   rw [cfP_len]
   have:=cfL_len r.cl (cfR n r.cr) n
   omega
 ·split
  ·have hm:∀l,(mbF n l).length≤1000000:=fun l=>by
    unfold mbF
    split
    ·exact Nat.zero_le _
    ·simp; omega
   exact ⟨Nat.zero_le _,Nat.zero_le _,hm _,hm _,Nat.zero_le _,⟨by show 0<4294967296; omega,by show 0<4294967296; omega⟩,fun a ha=>by cases ha⟩
  ·split
   ·rename_i h3
    unfold cnOk at hk
    rw [h3] at hk
    have h5:r.sn.length≤5:=by simpa using hk
    refine ⟨Nat.zero_le _,Nat.zero_le _,Nat.zero_le _,Nat.zero_le _,?_,⟨by show 0<4294967296; omega,by show 0<4294967296; omega⟩,fun a ha=>?_⟩
    ·show (r.sn.map _).length≤_
     rw [List.length_map]; omega
    ·obtain ⟨s,_,rfl⟩:=List.mem_map.1 (show a∈r.sn.map (atOf n (1+r.nv.tmod 3)) from ha)
     exact ⟨tmOf_sz _ _ _ _,tmOf_sz _ _ _ _⟩
   ·exact hz
theorem bd_rcp {x:Rcp} (hx:RcpOk x) {rs:List Rul} (hr:∀r∈rs,RulOk r) (hall:rs.all cnOk=true) (h4:rs.length≤4) :
  BdOk (tbOf x) (rs.map (cnOf (tbOf x).attrs.length))∧(∀c∈rs.map (cnOf (tbOf x).attrs.length),cnErr (tbOf x) c=0)∧buildErr (tbOf x) (rs.map (cnOf (tbOf x).attrs.length))=0:=by
 obtain ⟨h1,h2⟩:=tbOf_ok hx
 have h6:=hx.rows
 have hrl:=tbOf_rows x
 have hw:=(tbC h2).wide
 rw [List.all_eq_true] at hall
 have he:∀c∈rs.map (cnOf (tbOf x).attrs.length),cnErr (tbOf x) c=0:=fun c hc=>by
  obtain ⟨r,hm,rfl⟩:=List.mem_map.1 hc
  exact cnOf_ok (tbOf_name x) (hr r hm) (hall r hm)
 refine ⟨⟨h1.ok,fun _=>h1,.inl (by omega),by rw [List.length_map]; omega,fun c hc=>?_⟩,he,?_⟩
 ·obtain ⟨r,hm,rfl⟩:=List.mem_map.1 hc
  exact cnB_of hw (hr r hm) (hall r hm)
 ·unfold buildErr
  rw [if_pos h2,if_neg (by omega)]
  exact cnsErr_of he
theorem bdV_yes {t:Tb} {cs:List Cn} (h:buildErr t cs=0):bdV t cs=encH false false (idsR t.rows) (edgesF (allR t cs)):=by unfold bdV; rw [if_pos h]
theorem bdV_no {t:Tb} {cs:List Cn} (h:¬buildErr t cs=0):bdV t cs = .agg [.nilS,.nilS]:=by unfold bdV; rw [if_neg h]
theorem build_ok {t:Tb} {cs:List Cn} (h:buildErr t cs=0):validT t=0∧t.rows.length≤200∧∀c∈cs,cnErr t c=0:=by
 unfold buildErr at h
 split at h
 ·rename_i h1
  split at h
  ·cases h
  ·exact ⟨h1,by omega,cnsErr_ok h⟩
 ·rename_i h1; exact absurd h h1
theorem edges_small {t:Tb} {cs:List Cn} (hb:BdOk t cs) (h:buildErr t cs=0):Small (idsR t.rows) (edgesF (allR t cs))∧Hyp (idsR t.rows) (edgesF (allR t cs))∧(edgesF (allR t cs)).length≤20000:=by
 obtain ⟨h1,h2,h3⟩:=build_ok h
 have g:=tbC h1
 have h8:t.rows.length≤8:=by have:=hb.rows; omega
 have hh:=edges_hyp g h3
 have hl:(edgesF (allR t cs)).length≤20000:=by
  rw [←edges_same g h3]
  exact Nat.le_trans (progE_len _) (allV_len h8 h3 hb.few)
 refine ⟨⟨by rw [idsR_len]; omega,by omega,fun e he=>?_⟩,hh,hl⟩
 have hm:=(edges_min (l:=allR t cs) fun e he=>(all_edge g h3 he).1).mem e
 have:=(all_edge g h3 (hm.1 he).1).2.2.1
 omega
theorem validT_kT {K:List Int} {t:Tb} (h:validT t=0):validT (kT K t)=0:=by
 have g:=tbC h
 unfold validT at h ⊢
 split at h
 ·rename_i h1
  split at h
  ·cases h
  ·rename_i h2
   split at h
   ·rename_i h3
    rw [if_pos (show nameB (kT K t).name=true from h1),if_neg,if_pos (show namesB (kT K t).attrs=true from h3)]
    ·exact rowsErr_of (fun r hr=>g.pos r (kR_mem.1 hr).1) (fun r hr=>g.len r (kR_mem.1 hr).1) (fun r hr v hv=>by
      have:=List.all_eq_true.1 (g.val r (kR_mem.1 hr).1) v hv
      exact this) (kR_ord g.ids)
    ·have:(kT K t).rows.length≤t.rows.length:=List.length_filter_le _ _
     have h4:(kT K t).attrs=t.attrs:=rfl
     rw [h4]
     omega
   ·cases h
 ·cases h
theorem kT_len (K:List Int) (t:Tb):(kT K t).rows.length≤t.rows.length:=List.length_filter_le _ _
theorem tbS_kT {K:List Int} {t:Tb} (h:TbS t):TbS (kT K t) :=
 ⟨⟨h.ok.name,h.ok.attrs,Nat.le_trans (kT_len K t) h.ok.rows,h.ok.strs⟩,fun r hr=>h.sz r (kR_mem.1 hr).1,Nat.le_trans (kT_len K t) h.few⟩
theorem cnErr_kT (K:List Int) (t:Tb) (c:Cn):cnErr (kT K t) c=cnErr t c:=rfl
theorem bsP_pos {vs:List Int} (ha:asc vs=true) {x:Int} (hx:x∈vs):∃(h:bsP vs x<vs.length),vs[bsP vs x]=x:=by
 have:=bsF_mem ha x
 rw [memB_iff.2 hx] at this
 have h2:=beq_iff_eq.1 this
 obtain ⟨h3,h4⟩:=List.getElem?_eq_some_iff.1 h2
 exact ⟨h3,h4⟩
theorem bsP_ix {vs:List Int} (ha:asc vs=true) {i:Nat} (hi:i<vs.length):bsP vs vs[i]=i:=by
 obtain ⟨h1,h2⟩:=bsP_pos ha (List.getElem_mem hi)
 rcases Nat.lt_trichotomy (bsP vs vs[i]) i with h | h | h
 ·have:=asc_lt ha _ _ h1 hi h; omega
 ·exact h
 ·have:=asc_lt ha _ _ hi h1 h; omega
theorem bsP_lt {vs:List Int} (ha:asc vs=true) {a b:Int} (hA:a∈vs) (hB:b∈vs) (h:a<b):bsP vs a<bsP vs b:=by
 obtain ⟨h1,e1⟩:=bsP_pos ha hA
 obtain ⟨h2,e2⟩:=bsP_pos ha hB
 rcases Nat.lt_trichotomy (bsP vs a) (bsP vs b) with q | q | q
 ·exact q
 ·have:vs[bsP vs a]=vs[bsP vs b]:=by congr 1
  omega
 ·have:=asc_lt ha _ _ h2 h1 q
  omega
def ixE (vs:List Int) (e:List Int):List Nat:=e.map (bsP vs)
theorem ixE_ok {vs:List Int} {es:List (List Int)} (h:Hyp vs es) {e:List Int} (he:e∈es):ixE vs e≠[]∧(ixE vs e).Pairwise (· < ·)∧∀v∈ixE vs e,v<vs.length:=by
 have ha:=(asc_pair vs).2 h.va
 refine ⟨fun e0=>h.ne e he (by simpa [ixE] using e0),?_,fun v hv=>?_⟩
 ·unfold ixE
  rw [List.pairwise_map]
  refine List.Pairwise.imp_of_mem ?_ (h.ea e he)
  intro a b hA hB hab
  exact bsP_lt ha (h.sub e he a hA) (h.sub e he b hB) hab
 ·obtain ⟨a,hA,rfl⟩:=List.mem_map.1 hv
  exact (bsP_pos ha (h.sub e he a hA)).1
theorem min_below {l:List (List Int)} {x:List Int} (hx:x∈l):∃e,MinM l e∧∀a∈e,a∈x:=by
 obtain ⟨n,⟨e,h1,h2,h3⟩,hn⟩:=first_nat (p:=fun n=>∃e∈l,(∀a∈e,a∈x)∧e.length=n) x.length ⟨x,hx,fun a h=>h,rfl⟩
 refine ⟨e,⟨h1,fun d hd hs=>?_⟩,h2⟩
 rcases Nat.lt_or_ge d.length e.length with q | q
 ·exact absurd ⟨d,hd,fun a ha=>h2 a (hs a ha),rfl⟩ (hn d.length (by omega))
 ·exact q
def hitB (es:List (List Int)) (D:List Int):Bool:=es.all fun e=>e.any fun a=>memB D a
theorem hitB_iff {es:List (List Int)} {D:List Int} : hitB es D=true↔∀e∈es,∃a∈e,a∈D:=by
 unfold hitB
 rw [List.all_eq_true]
 refine forall_congr' fun e=>forall_congr' fun _=>?_
 rw [List.any_eq_true]
 exact ⟨fun ⟨a,h1,h2⟩=>⟨a,h1,memB_iff.1 h2⟩,fun ⟨a,h1,h2⟩=>⟨a,h1,memB_iff.2 h2⟩⟩
def restL (t:Tb) (D:List Int):List Int:=(idsR t.rows).filter fun a=>!memB D a
theorem restL_mem {t:Tb} {D:List Int} {a:Int} : a∈restL t D↔a∈idsR t.rows∧a∉D:=by
 unfold restL
 rw [List.mem_filter,Bool.not_eq_true',←Bool.not_eq_true,memB_iff]
theorem clean_iff {t:Tb} (g:TbC t) {cs:List Cn} (h:∀c∈cs,cnErr t c=0) (D:List Int):(∀c∈cs,cnR (kT (restL t D) t) c=[])↔hitB (edgesF (allR t cs)) D=true:=by
 have hE:∀d∈allR t cs,EdgL t.rows d:=fun d hd=>all_edge g h hd
 have hm:=(edges_min (l:=allR t cs) fun e he=>(hE e he).1).mem
 rw [hitB_iff]
 constructor
 ·intro hc e he
  have hM:=(hm e).1 he
  obtain ⟨c,h1,h2⟩:=List.mem_flatMap.1 hM.1
  refine Classical.byContradiction fun hn=>?_
  have hk:∀a∈e,a∈restL t D:=fun a ha=>restL_mem.2 ⟨(hE e hM.1).2.2.2 a ha,fun hD=>hn ⟨a,ha,hD⟩⟩
  have:=(cnR_kR (K:=restL t D) g.ids).2 ⟨h2,hk⟩
  rw [hc c h1] at this
  cases this
 ·intro hh c h1
  refine List.eq_nil_iff_forall_not_mem.2 fun x hx=>?_
  obtain ⟨h2,h3⟩:=(cnR_kR g.ids).1 hx
  have hxa:x∈allR t cs:=List.mem_flatMap.2 ⟨c,h1,h2⟩
  obtain ⟨e,hM,hs⟩:=min_below hxa
  obtain ⟨a,ha,hD⟩:=hh e ((hm e).2 hM)
  exact (restL_mem.1 (h3 a (hs a ha))).2 hD
theorem hitB_mono {es:List (List Int)} {D D':List Int} (h:∀a∈D,a∈D') (hh:hitB es D=true):hitB es D'=true:=by
 rw [hitB_iff] at hh ⊢
 exact fun e he=>by obtain ⟨a,h1,h2⟩:=hh e he; exact ⟨a,h1,h a h2⟩
def wI:List Int→List Int→List Int→Int
 | a::I,w::ws,D=>(if memB D a=true then w else 0)+wI I ws D
 | _,_,_=>0
structure MinI (I ws:List Int) (E:List (List Int)) (m:Int):Prop where
 at_:∃D,hitB E D=true∧wI I ws D=m
 le:∀D,hitB E D=true→m≤wI I ws D
def all3 (I:List Int):List (List Int):=[]::((I.map fun a=>[a])++((I.flatMap fun a=>I.map fun b=>[a,b])++I.flatMap fun a=>I.flatMap fun b=>I.map fun c=>[a,b,c]))
theorem all3_mem {I x:List Int} (h:∀a∈x,a∈I) (hl:x.length≤3):x∈all3 I:=by
 unfold all3
 match x,hl with
 | [],_=>simp
 | [a],_=>exact List.mem_cons_of_mem _ (List.mem_append_left _ (List.mem_map.2 ⟨a,h a (by simp),rfl⟩))
 | [a,b],_=>exact List.mem_cons_of_mem _ (List.mem_append_right _ (List.mem_append_left _ (List.mem_flatMap.2 ⟨a,h a (by simp),List.mem_map.2 ⟨b,h b (by simp),rfl⟩⟩)))
 | [a,b,c],_=>exact List.mem_cons_of_mem _ (List.mem_append_right _ (List.mem_append_right _ (List.mem_flatMap.2 ⟨a,h a (by simp),List.mem_flatMap.2 ⟨b,h b (by simp),List.mem_map.2 ⟨c,h c (by simp),rfl⟩⟩⟩)))
 | _::_::_::_::_,hl=>simp at hl
theorem all3_len {I:List Int} (h:I.length≤8):(all3 I).length≤585:=by
 have h2:(I.flatMap fun a=>I.map fun b=>[a,b]).length≤64:=by
  have:=flat_len I (f:=fun a=>I.map fun b=>[a,b]) (k:=8) fun a _=>by rw [List.length_map]; exact h
  have:=Nat.mul_le_mul_right 8 h
  omega
 have h3:(I.flatMap fun a=>I.flatMap fun b=>I.map fun c=>[a,b,c]).length≤512:=by
  have:=flat_len I (f:=fun a=>I.flatMap fun b=>I.map fun c=>[a,b,c]) (k:=64) fun a _=>by
   have:=flat_len I (f:=fun b=>I.map fun c=>[a,b,c]) (k:=8) fun b _=>by rw [List.length_map]; exact h
   have:=Nat.mul_le_mul_right 8 h
   omega
  have:=Nat.mul_le_mul_right 64 h
  omega
 unfold all3
 rw [List.length_cons,List.length_append,List.length_append,List.length_map]
 omega
theorem edges_585 {t:Tb} {cs:List Cn} (hb:BdOk t cs) (h0:buildErr t cs=0):(edgesF (allR t cs)).length≤585:=by
 obtain ⟨h1,h2,h3⟩:=build_ok h0
 have g:=tbC h1
 have h8:t.rows.length≤8:=by have:=hb.rows; omega
 have hM:=edges_min (l:=allR t cs) fun e he=>(all_edge g h3 he).1
 have hn:(edgesF (allR t cs)).Nodup:=hM.ord.imp fun {a b} hab e=>by subst e; rw [lex_irr] at hab; cases hab
 have hs:∀e∈edgesF (allR t cs),e∈all3 (idsR t.rows):=fun e he=>by
  obtain ⟨_,_,q3,q4⟩:=all_edge g h3 ((hM.mem e).1 he).1
  exact all3_mem q4 q3
 have:=hn.length_le_of_subset hs
 have:=all3_len (I:=idsR t.rows) (by rw [idsR_len]; exact h8)
 omega
def wOf (n:Nat) (cs:List Int):List Int:=if cs=[] then [] else (List.range n).map fun i=>1+(cs.getD (i % cs.length) 0).tmod 20
theorem wOf_rng {n:Nat} {cs:List Int} (h:∀c∈cs,0≤c∧c<256):∀w∈wOf n cs,1≤w∧w≤20:=fun w hw=>by
 unfold wOf at hw
 split at hw
 ·cases hw
 ·rename_i h0
  obtain ⟨i,_,rfl⟩:=List.mem_map.1 hw
  have hl:0<cs.length:=List.length_pos_iff.2 h0
  have hi:=Nat.mod_lt i hl
  have hg:cs.getD (i % cs.length) 0=cs[i % cs.length]:=by simp [List.getD,hi]
  have hc:=h _ (List.getElem_mem hi)
  rw [hg]
  have a1:=Int.tmod_nonneg 20 hc.1
  have a2:=Int.tmod_lt_of_pos cs[i % cs.length] (show (0:Int)<20 by omega)
  omega
theorem wOf_len (n:Nat) (cs:List Int):wOf n cs=[]∨(wOf n cs).length=n:=by
 unfold wOf
 split
 ·exact .inl rfl
 ·exact .inr (by simp)
def inW (t:Tb) (w:List Int):List Int:=if w=[] then List.replicate t.rows.length 1 else w
theorem inW_len {t:Tb} {w:List Int} (h:w=[]∨w.length=t.rows.length):(inW t w).length=t.rows.length:=by
 unfold inW
 split
 ·simp
 ·rename_i h0
  rcases h with h | h
  ·exact absurd h h0
  ·exact h
theorem inW_rng {t:Tb} {w:List Int} (h:∀x∈w,1≤x∧x≤1000000):∀x∈inW t w,1≤x∧x≤1000000:=fun x hx=>by
 unfold inW at hx
 split at hx
 ·obtain ⟨_,rfl⟩:=List.mem_replicate.1 hx; omega
 ·exact h x hx
def inE (t:Tb) (cs:List Cn):List (List Nat):=(edgesF (allR t cs)).map (ixE (idsR t.rows))
def LLi (g:Bool) (es:List (List Int)):V:=.lst 1 g (es.map (L1 false))
@[simp] theorem LLi_pure (g:Bool) (es:List (List Int)):AM.Pure (LLi g es):=by simp [LLi]
def encHs (f g:Bool) (ws:List Int) (es:List (List Int)):V:=.agg [L1 f ws,LLi g es]
@[simp] theorem encHs_pure (f g:Bool) (ws:List Int) (es:List (List Int)):AM.Pure (encHs f g ws es):=by simp [encHs]
def wOk (w:Int):Bool:=decide (1≤w)&&decide (w≤1000000)
def edgeOk (n:Int):Int→List Int→Bool
 | _,[]=>true
 | last,v::vs=>(decide (last<v)&&decide (v<n))&&edgeOk n v vs
def eOk (n:Int) (e:List Int):Bool:=edgeOk n (-1) e&&!e.isEmpty
def restH (n:Int) (es:List (List Int)):Int:=if es.all (eOk n) then 0 else 1
def validH (ws:List Int) (es:List (List Int)):Int:=if 200<ws.length∨2000<es.length then 3 else if ws.all wOk then restH ws.length es else 1
theorem hsValid (ws:List Int) (es:List (List Int)) (f g:Bool) (hl:∀e∈es,e.length≤1000000):ConP Tryz.prog 41 [encHs f g ws es] fun r=>r = .int .i64 (validH ws es):=by
 unfold validH
 by_cases h1:200<ws.length
 ·rw [if_pos (.inl h1)]
  refine conP_of_conH (conH_of_W tok Tryz.func41 rfl rfl ?_)
  refine wx ?_
  simp -implicitDefEqProofs -dsimp [Tryz.f41,List.replicate,encHs,LLi,show (200:Int)<ws.length by omega,L1]
 ·by_cases h2:2000<es.length
  ·rw [if_pos (.inr h2)]
   refine conP_of_conH (conH_of_W tok Tryz.func41 rfl rfl ?_)
   refine wx ?_
   simp -implicitDefEqProofs -dsimp [Tryz.f41,List.replicate,encHs,LLi,show ¬(200:Int)<ws.length by omega,show (2000:Int)<es.length by omega,L1]
  ·rw [if_neg (fun h=>h.elim h1 h2)]
   obtain ⟨E,hE⟩:∃E,E=if ws.all wOk then restH ws.length es else 1:=⟨_,rfl⟩
   rw [←hE]
   refine conP_of_conH (conH_of_W tok Tryz.func41 rfl rfl ?_)
   refine wx ?_
   simp -implicitDefEqProofs -dsimp [Tryz.f41,List.replicate,encHs,LLi,show ¬(200:Int)<ws.length by omega,show ¬(2000:Int)<es.length by omega,L1]
   refine lw_of (W_loopM 34 [2,4,23,24,25,26,27,28,29,30,31,32,33] (by simp [mB]<;>rfl) (σ:=Nat) (fun i=>i≤ws.length∧(if (ws.drop i).all wOk then restH ws.length es else 1)=E) (fun i=>ws.length - i) (fun i=>[(23,.int .i64 i)]) (fun _=>[B.cells [.lst 1 f (ws.map encI),.lst 1 g (es.map (L1 false))]]) 0 ⟨by omega,by rw [List.drop_zero,hE]⟩ (by simp) (by simp [L1]) (by simp) ?_)
   rintro i ⟨hi,hx⟩ N1 Q1 hN1 hQ1
   by_cases hb:i<ws.length
   ·rw [List.drop_eq_getElem_cons hb,List.all_cons] at hx
    obtain ⟨w,hw⟩:∃w,w=ws[i]:=⟨_,rfl⟩
    rw [←hw] at hx
    have hw':=hw.symm
    by_cases q1:1≤w
    ·by_cases q2:w≤1000000
     ·rw [show wOk w=true by simp [wOk,q1,q2],Bool.true_and] at hx
      refine wx ?_
      simp -implicitDefEqProofs -dsimp [hb,hw',encI,show ¬w<1 by omega,show ¬(1000000:Int)<w by omega,wrapS i (by omega),L1]
      refine hN1 (i+1) _ _ ⟨by omega,hx⟩ (by omega) ?_ ⟨[],?_⟩ ?_ ?_<;>simp [or_imp,forall_and,L1,encI]
     ·rw [show wOk w=false by simp [wOk,q2],Bool.false_and,if_neg (by simp)] at hx
      refine wx ?_
      simp -implicitDefEqProofs -dsimp [hb,hw',encI,show ¬w<1 by omega,show (1000000:Int)<w by omega,L1]
      refine hQ1 _ _ _ ?_
      simp -implicitDefEqProofs -dsimp [L1]
      exact hx
    ·rw [show wOk w=false by simp [wOk,q1],Bool.false_and,if_neg (by simp)] at hx
     refine wx ?_
     simp -implicitDefEqProofs -dsimp [hb,hw',encI,show w<1 by omega,L1]
     refine hQ1 _ _ _ ?_
     simp -implicitDefEqProofs -dsimp [L1]
     exact hx
   ·rw [List.drop_of_length_le (by omega),List.all_nil,if_pos rfl] at hx
    refine wx ?_
    simp -implicitDefEqProofs -dsimp [hb,L1]
    refine hQ1 _ _ _ ?_
    simp -implicitDefEqProofs -dsimp [L1]
    refine lw_of (W_loopM 63 [2,6,7,9,37,38,39,40,41,42,43,44,45,46,47,48,49,50,51,52,53,54,55,56,57,58,59,60,61,62] (by simp [mB]<;>rfl) (σ:=Nat) (fun j=>j≤es.length∧restH ws.length (es.drop j)=E) (fun j=>es.length - j) (fun j=>[(37,.int .i64 j)]) (fun _=>[B.cells [.lst 1 f (ws.map encI),.lst 1 g (es.map (L1 false))]]) 0 ⟨by omega,by rw [List.drop_zero,hx]⟩ (by simp) (by simp [L1]) (by simp) ?_)
    rintro j ⟨hj,hy⟩ N2 Q2 hN2 hQ2
    by_cases hjb:j<es.length
    ·rw [List.drop_eq_getElem_cons hjb,restH,List.all_cons] at hy
     have hle:=hl es[j] (List.getElem_mem hjb)
     obtain ⟨e,he⟩:∃e,e=es[j]:=⟨_,rfl⟩
     rw [←he] at hy hle
     have he':=he.symm
     obtain ⟨R,hR⟩:∃R,R=(es.drop (j+1)).all (eOk ws.length):=⟨_,rfl⟩
     rw [←hR] at hy
     rw [eOk] at hy
     refine wx ?_
     simp -implicitDefEqProofs -dsimp [hjb,he',L1]
     refine lw_of (W_loopM 59 [2,7,9,43,44,45,46,47,48,49,50,51,52,53,54,55,56,57,58] (by simp [mB]<;>rfl) (σ:=Nat×Int) (fun p=>p.1≤e.length∧(if ((edgeOk ws.length p.2 (e.drop p.1)&&!e.isEmpty)&&R)=true then (0:Int) else 1)=E) (fun p=>e.length - p.1) (fun p=>[(43,.int .i64 p.1),(7,.int .i64 p.2)]) (fun _=>[B.cells [.lst 1 f (ws.map encI),.lst 1 g (es.map (L1 false))]]) (0,-1) ⟨by simp,by rw [List.drop_zero]; exact hy⟩ (by simp) (by simp [L1]) (by simp) ?_)
     rintro ⟨k,last⟩ ⟨hk,hz⟩ N3 Q3 hN3 hQ3
     simp only at hk hz hN3
     by_cases hkb:k<e.length
     ·rw [List.drop_eq_getElem_cons hkb,edgeOk] at hz
      obtain ⟨v,hv⟩:∃v,v=e[k]:=⟨_,rfl⟩
      rw [←hv] at hz
      have hv':=hv.symm
      by_cases q1:last<v
      ·by_cases q2:v<ws.length
       ·rw [decide_eq_true q1,decide_eq_true q2,Bool.true_and,Bool.true_and] at hz
        refine wx ?_
        simp -implicitDefEqProofs -dsimp [hkb,hv',encI,show ¬v≤last by omega,show ¬(ws.length:Int)≤v by omega,wrapS k (by omega),L1]
        refine hN3 (k+1,v) _ _ ⟨by simp only; omega,hz⟩ (by omega) ?_ ⟨[],?_⟩ ?_ ?_<;>simp [or_imp,forall_and,L1,encI]
       ·rw [decide_eq_false q2,Bool.and_false,Bool.false_and,Bool.false_and,Bool.false_and,if_neg (by simp)] at hz
        refine wx ?_
        simp -implicitDefEqProofs -dsimp [hkb,hv',encI,show ¬v≤last by omega,show (ws.length:Int)≤v by omega,L1]
        refine hQ3 _ _ _ ?_
        simp -implicitDefEqProofs -dsimp [L1]
        refine hQ2 _ _ _ ?_
        simp -implicitDefEqProofs -dsimp [L1]
        exact hz
      ·rw [decide_eq_false q1,Bool.false_and,Bool.false_and,Bool.false_and,Bool.false_and,if_neg (by simp)] at hz
       refine wx ?_
       simp -implicitDefEqProofs -dsimp [hkb,hv',encI,show v≤last by omega,L1]
       refine hQ3 _ _ _ ?_
       simp -implicitDefEqProofs -dsimp [L1]
       refine hQ2 _ _ _ ?_
       simp -implicitDefEqProofs -dsimp [L1]
       exact hz
     ·rw [List.drop_of_length_le (by omega),edgeOk,Bool.true_and] at hz
      by_cases h0:e.length=0
      ·have hen:e=[]:=List.length_eq_zero_iff.1 h0
       rw [hen] at hz
       simp at hz
       refine wx ?_
       simp -implicitDefEqProofs -dsimp [hkb,L1]
       refine hQ3 _ _ _ ?_
       simp -implicitDefEqProofs -dsimp [h0,L1]
       refine hQ2 _ _ _ ?_
       simp -implicitDefEqProofs -dsimp [L1]
       exact hz
      ·have hen:e.isEmpty=false:=by cases e with
        | nil=>simp at h0
        | cons a b=>rfl
       rw [hen,Bool.not_false,Bool.true_and,hR] at hz
       refine wx ?_
       simp -implicitDefEqProofs -dsimp [hkb,L1]
       refine hQ3 _ _ _ ?_
       simp -implicitDefEqProofs -dsimp [h0,show ¬(e.length:Int)=0 by omega,wrapS j (by omega),L1]
       refine hN2 (j+1) _ _ ⟨by omega,hz⟩ (by omega) ?_ ⟨[],?_⟩ ?_ ?_<;>simp [or_imp,forall_and,L1,encI]
    ·rw [List.drop_of_length_le (by omega)] at hy
     refine wx ?_
     simp -implicitDefEqProofs -dsimp [hjb,L1]
     refine hQ2 _ _ _ ?_
     simp -implicitDefEqProofs -dsimp [L1]
     exact hy
structure Shr where
 e:Int
 a:Int
structure Nde where
 v:Int
 l:List Shr
def hasE (m:List Nat) (k:Nat) (e:List Nat):Bool:=e.any fun v=>decide (m.getD v 0=k)
def deadE (m:List Nat) (es:List (List Nat)):Bool:=es.any fun e=>!hasE m 1 e&&!hasE m 0 e
def loadE (m:List Nat) (ws:List Int) (a:Int):List Nat→List Int→Option (List Int)
 | [],ld=>some ld
 | v::e,ld=>if m.getD v 0=0∧ws.getD v 0<ld.getD v 0+a then none else loadE m ws a e (ld.set v (ld.getD v 0+a))
def okS (es:List (List Nat)) (m:List Nat) (x:Shr):Bool:=decide (0≤x.e)&&decide (x.e<es.length)&&decide (1≤x.a)&&decide (x.a≤1000000000000)&&!hasE m 1 (es.getD x.e.toNat [])
def sharesE (ws:List Int) (es:List (List Nat)) (m:List Nat) (b:Int):List Shr→List Int→Int→Bool
 | [],_,s=>decide (b≤s)
 | x::l,ld,s=>if okS es m x=true then (match loadE m ws x.a (es.getD x.e.toNat []) ld with
  | none=>false
  | some ld'=>sharesE ws es m b l ld' (s+x.a)) else false
def shE (ws:List Int) (es:List (List Nat)) (m:List Nat) (l:List Shr) (b:Int):Bool:=decide (l.length≤10000)&&sharesE ws es m b l (List.replicate m.length 0) 0
def chkF (ws:List Int) (es:List (List Nat)):Nat→List Nat→List Nde→Int→Option (List Nde)×Bool
 | 0,_,_,_=>(none,false)
 | _+1,_,[],_=>(none,false)
 | k+1,m,x::r,b =>
  if x.v = -1 then (some r,if x.l=[] then decide (b≤0)||deadE m es else shE ws es m x.l b)
  else if x.v<0∨(m.length:Int)≤x.v∨x.l≠[]∨m.getD x.v.toNat 0≠0 then (none,false)
  else match chkF ws es k (m.set x.v.toNat 1) r (b - ws.getD x.v.toNat 0) with
   | (some r',true)=>chkF ws es k (m.set x.v.toNat 2) r' b
   | p=>p
def meetsE (e ch:List Nat):Bool:=e.any fun v=>ch.contains v
def EdOk (n:Nat) (es:List (List Nat)):Prop:=∀e∈es,e≠[]∧e.Pairwise (· < ·)∧∀v∈e,v<n
structure Cor (n:Nat) (m ch ex:List Nat):Prop where
 len:m.length=n
 c:∀v<n,(m.getD v 0=1↔v∈ch)
 x:∀v<n,(m.getD v 0=2↔v∈ex)
 le:∀v<n,m.getD v 0≤2
theorem getD_lt' {α:Type} (l:List α) {i:Nat} (d:α) (h:i<l.length):l.getD i d=l[i]:=by simp [List.getD,h]
def checkP (ws:List Int) (es:List (List Nat)) (b:Int) (l:List Nde):Bool:=match chkF ws es (l.length+1) (List.replicate ws.length 0) l b with
 | (some r,true)=>decide (r.length=0)
 | _=>false
def amtE (m:List Nat) (room:List Int):List Nat→Int→Int
 | [],a=>a
 | v::e,a=>amtE m room e (if m.getD v 0=0 then min a (room.getD v 0) else a)
def subE (a:Int):List Nat→List Int→List Int
 | [],rm=>rm
 | v::e,rm=>subE a e (rm.set v (rm.getD v 0 - a))
def packF (m:List Nat):List (List Nat)→Nat→List Int→List Shr×Int
 | [],_,_=>([],0)
 | e::es,i,room =>
  if hasE m 1 e=true then packF m es (i+1) room
  else if amtE m room e 1000000=0 then packF m es (i+1) room
  else (⟨i,amtE m room e 1000000⟩::(packF m es (i+1) (subE (amtE m room e 1000000) e room)).1,amtE m room e 1000000+(packF m es (i+1) (subE (amtE m room e 1000000) e room)).2)
def brE (m:List Nat):List Nat→List Int→Int→List Int×Int
 | [],c,b=>(c,b)
 | v::e,c,b =>
  if m.getD v 0=0 then brE m e (c.set v (c.getD v 0+1)) (if b<0∨(c.set v (c.getD v 0+1)).getD b.toNat 0<c.getD v 0+1 then (v:Int) else b)
  else brE m e c b
def brF (m:List Nat):List (List Nat)→List Int→Int→Int
 | [],_,b=>b
 | e::es,c,b=>if hasE m 1 e=true then brF m es c b else brF m es (brE m e c b).1 (brE m e c b).2
def packS (ws:List Int) (es:List (List Nat)) (m:List Nat):List Shr×Int:=packF m es 0 ws
def brS (es:List (List Nat)) (m:List Nat):Int:=brF m es (List.replicate m.length 0) (-1)
def prvF (ws:List Int) (es:List (List Nat)):Nat→List Nat→Int→Int→Option (List Nde×Int)
 | 0,_,_,_=>none
 | k+1,m,lf,b =>
  if lf - 1<0 then none
  else if b≤0∨deadE m es=true then some ([⟨-1,[]⟩],lf - 1)
  else if b≤(packS ws es m).2 then some ([⟨-1,(packS ws es m).1⟩],lf - 1)
  else if brS es m<0 then none
  else match prvF ws es k (m.set (brS es m).toNat 1) (lf - 1) (b - ws.getD (brS es m).toNat 0) with
   | none=>none
   | some p=>match prvF ws es k (m.set (brS es m).toNat 2) p.2 b with
    | none=>none
    | some q=>some (⟨brS es m,[]⟩::(p.1++q.1),q.2)
def chosenL (m:List Nat):List Nat:=(List.range m.length).filter fun v=>decide (m.getD v 0=1)
structure Bst where
 l:List Nat
 w:Int
def minF (ws:List Int) (es:List (List Nat)):Nat→List Nat→Int→Bst→Int→Option (Int×Bst)
 | 0,_,_,_,_=>none
 | k+1,m,lf,b,w =>
  if lf - 1<0 then none
  else if deadE m es=true then some (lf - 1,b)
  else if b.w≤w+(packS ws es m).2 then some (lf - 1,b)
  else if brS es m<0 then some (lf - 1,⟨chosenL m,w⟩)
  else match minF ws es k (m.set (brS es m).toNat 1) (lf - 1) b (w+ws.getD (brS es m).toNat 0) with
   | none=>none
   | some p=>minF ws es k (m.set (brS es m).toNat 2) p.1 p.2 w
def wsum (ws:List Int) (T:Nat→Bool):Nat→Int
 | 0=>0
 | n+1=>wsum ws T n+if T n=true then ws.getD n 0 else 0
structure Ext (n:Nat) (es:List (List Nat)) (m:List Nat) (T:Nat→Bool):Prop where
 c:∀v<n,m.getD v 0=1→T v=true
 x:∀v<n,m.getD v 0=2→T v=false
 h:∀e∈es,∃v∈e,T v=true
structure Wok (n:Nat) (ws:List Int) (m:List Nat):Prop where
 lw:ws.length=n
 lm:m.length=n
 p:∀v<n,1≤ws.getD v 0
 le:∀v<n,m.getD v 0≤2
structure GoodB (n:Nat) (ws:List Int) (es:List (List Nat)) (b:Bst) (T:Nat→Bool):Prop where
 l:b.l=(List.range n).filter T
 h:∀e∈es,∃v∈e,T v=true
 w:b.w=wsum ws T n
section
def eN (n:Nat):V:=.int .i64 (n:Int)
@[simp] theorem eN_pure (n:Nat):AM.Pure (eN n):=by simp [eN]
@[simp] theorem eN_oneV (n:Nat):oneV (eN n)=true:=rfl
def Ln (f:Bool) (e:List Nat):V:=.lst 1 f (e.map eN)
@[simp] theorem Ln_pure (f:Bool) (e:List Nat):AM.Pure (Ln f e):=by simp [Ln]
@[simp] theorem Ln_oneV (f:Bool) (e:List Nat):oneV (Ln f e)=true:=rfl
def LLn (g:Bool) (es:List (List Nat)):V:=.lst 1 g (es.map (Ln false))
@[simp] theorem LLn_pure (g:Bool) (es:List (List Nat)):AM.Pure (LLn g es):=by simp [LLn]
def nuL (m:List Nat):List V:=m.map eN
theorem rbM1 {n m:Nat} (h:n≤m) {v:V} (hv:rb1 n v):rb1 m v:=by
 cases v<;>simp only [rb1] at hv ⊢<;>first | exact hv | omega | trivial
theorem rbM {n m:Nat} (h:n≤m) {v:V} (hv:rb n v):rb m v:=by
 cases v<;>simp only [rb] at hv ⊢<;>first | exact rbM1 h hv | exact fun c hc=>rbM1 h (hv c hc) | trivial
theorem rbBM {n m:Nat} (h:n≤m) {bl:B} (hb:rbB n bl):rbB m bl:=by
 cases bl with
 | cells cs=>exact fun c hc=>rbM h (hb c hc)
 | map kk es=>exact fun p hp=>⟨rbM h (hb p hp).1,rbM h (hb p hp).2⟩
 | buf e z xs fz=>exact fun x hx c hc=>rbM h (hb x hx c hc)
theorem rbs_set {H:List B} {k:Nat} {b:B} (hH:∀bl∈H,rbB H.length bl) (hb:rbB H.length b):∀bl∈H.set k b,rbB (H.set k b).length bl:=fun bl h=>by
 rw [List.length_set]
 rcases List.mem_or_eq_of_mem_set h with h | rfl
 ·exact hH bl h
 ·exact hb
theorem conH_cut1 {P:Program} {f:FuncId} {args:List V} {H:List B} {v:V} (h:ConH P f args H fun r H'=>r=v∧∃G,H'=H++G) (hr:rb H.length v) (hb:∀bl∈H,rbB H.length bl):ConH P f args H fun r H'=>r=v∧H'=H:=by
 refine (conH_cutE (σ:=Unit) (ok:=fun _=>True) (rf:=fun _=>v) (Hf:=fun _=>H) (h.mono fun r H' ⟨a,G,b⟩=>⟨(),trivial,a,G,b⟩) (fun _ _=>Nat.le_refl _) (fun _ _=>hr) (fun _ _=>hb)).mono ?_
 rintro r H' ⟨_,_,a,b⟩
 exact ⟨a,b⟩
theorem wc_of {P:Program} {f:FuncId} {args:List V} {H:List B} {K K':V→List B→Prop} (h:ConH P f args H K) (hk:∀r H',K r H'→K' r H'):WCall P (.fn f []) args H K':=by
 simp only [WCall,List.append_nil]
 exact h.mono hk
structure SAt (H:List B) (k0 km:Nat) (f g:Bool) (ws:List Int) (es:List (List Nat)) (n:Nat) (m:List Nat) (lf:Int):Prop where
 h0:H[k0]?=some (.cells [L1 f ws,LLn g es,.buf km 0 n n,.int .i64 lf])
 hm:H[km]?=some (.buf 3 1 (nuL m) false)
 rb:∀bl∈H,rbB H.length bl
 lm:m.length=n
 lw:ws.length=n
 n0:km≠k0
section
variable {H:List B} {k0 km:Nat} {f g:Bool} {ws:List Int} {es:List (List Nat)} {n:Nat} {m:List Nat} {lf:Int}
def encSh (x:Shr):V:=.agg [.int .i64 x.e,.int .i64 x.a]
@[simp] theorem encSh_pure (x:Shr):AM.Pure (encSh x):=by simp [encSh]
@[simp] theorem encSh_oneV (x:Shr):oneV (encSh x)=true:=rfl
def LSh (f:Bool) (l:List Shr):V:=.lst 2 f (l.map encSh)
@[simp] theorem LSh_pure (f:Bool) (l:List Shr):AM.Pure (LSh f l):=by simp [LSh]
def encNd (x:Nde):V:=.agg [.int .i64 x.v,LSh false x.l]
@[simp] theorem encNd_pure (x:Nde):AM.Pure (encNd x):=by simp [encNd]
@[simp] theorem encNd_oneV (x:Nde):oneV (encNd x)=true:=rfl
def LNd (f:Bool) (l:List Nde):V:=.lst 2 f (l.map encNd)
@[simp] theorem LNd_pure (f:Bool) (l:List Nde):AM.Pure (LNd f l):=by simp [LNd]
structure HsB (ws:List Int) (es:List (List Nat)):Prop where
 w:∀v<ws.length,1≤ws.getD v 0∧ws.getD v 0≤1000000
 n:ws.length≤200
 ne:es.length≤2000
 ed:EdOk ws.length es
theorem EdOk.len {n:Nat} {es:List (List Nat)} (h:EdOk n es):∀e∈es,e.length≤n:=fun e he=>by
 obtain ⟨_,h2,h3⟩:=h e he
 have hnd:e.Nodup:=h2.imp (fun h=>by omega)
 have:=hnd.length_le_of_subset (l₂:=List.range n) (fun v hv=>List.mem_range.2 (h3 v hv))
 simpa using this
end
end
end
end Go.Proofs.YtjogkbekekdkjaaGreatDoor
