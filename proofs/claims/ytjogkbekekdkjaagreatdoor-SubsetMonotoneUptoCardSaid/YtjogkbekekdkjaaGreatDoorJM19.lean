/- JM19: own texts of this seat, joined and shortened by pack4.py: CW, CX. -/
import Derived.Test.YtjogkbekekdkjaaGreatDoorJM18
set_option linter.unusedVariables false
set_option linter.unusedSimpArgs false
set_option maxRecDepth 100000
set_option maxHeartbeats 64000000
open Bool renaming not_false→sR
open Int renaming eq_ofNat_of_zero_le→qy
open List renaming replicate→ou,getElem_mem→ow,not_mem_nil→pA,drop_eq_getElem_cons→pB,mem_cons→pD,drop_of_length_le→pF,length_append→pK,append_nil→pL,nil_append→pU,take_of_length_le→pX,length_filter_le→pY,length_map→pc,mem_of_mem_drop→qJ,filter_cons_of_pos→qU,filter_cons_of_neg→qV,map_nil→rQ,filter_nil→sC
open Nat renaming le_trans→ph,add_assoc→qQ
namespace Go.Proofs.YtjogkbekekdkjaaGreatDoor
section
open Go Go.AM
def ccB(c:Cfd)(f g:Bool):B:=B.cells [.lst 1 f (c.l.map au),.int .i64 c.r,.lst 4 g (c.p.map dG)]
theorem ccB_rb(n:Nat)(c:Cfd)(f g:Bool):rbB n (ccB c f g):=fun x hc=>by
 simp only[pD,pA,or_false]at hc
 rcases hc with rfl | rfl | rfl<;>simp[rb,rb1,au]
theorem fil_cons{α β:Type}{p:α→Bool}{q:α→β}{R:List α}{i:Nat}(h:i<R.length):((R.drop i).filter p).map q=(if p R[i]=true then [q R[i]] else [])++((R.drop (i+1)).filter p).map q:=by
 rw[pB h];by_cases hp:p R[i]=true
 ·rw[qU hp,if_pos hp];rfl
 ·rw[qV hp,if_neg hp];rfl
theorem rows_rb(n:Nat)(e:Nat)(ms:List Rw)(fz:Bool):rbB n (.buf e 2 (ms.map aT) fz):=by
 intro x hx;obtain⟨y,_,rfl⟩:=List.mem_map.1 hx;intro c hc;simp only[aT,V.cells,pD,pA,or_false]at hc
 rcases hc with rfl | rfl<;>simp[rb,rb1,LV]
theorem ma{H:List B}{a a':V}{k:IntKind}{n:Int}(h:ExpX H a a'):ExpX H (.tup [a,.int k n]) (.tup [a',.int k n]):=.tup _ _ rfl (fun i x y hx hy=>by
 match i with
 | 0=>simp at hx hy;subst hx;subst hy;exact h
 | 1=>simp at hx hy;subst hx;subst hy;exact .pure _ (.int _ _)
 | i+2=>simp at hx)
theorem cap32r(n:Nat)(h:n≤1000000000):n≤9223372036854775806∧(n+1)*32≤140737488355328:=by omega
theorem violC_u(t:Tb)(c:Cfd)(f g f2 g2:Bool)(h:TbS t)(hl:c.l.length≤1000000)(hp:c.p.length≤1000000)(hv:aQ t=0)(ho:cfB t.attrs.length c=true):aE Tryz.prog 130 [aF f g t,gT f2 g2 c] fun r=>r = .tup [LL false (cfdV c t.rows),.int .i64 0]:=by
 refine conP_LT ?_;have ct:=tbC hv;have ck:=cf_ok ho hl;have c1:=jg t f g h.ok;rw[hv]at c1;have c2:=validC_u t.attrs.length c f2 g2 ct.wide hl hp;rw[ho]at c2;have cr:=right_u c f2 g2 ck.p;simp only[aF,LR,LS,gT,L1,LCl]at c1 c2 cr;obtain⟨R,hR⟩:∃R,R=t.rows:=⟨_,rfl⟩
 have htB:tcB t f g = .cells [.str t.name,.lst 1 f (t.attrs.map V.str),.lst 2 g (R.map aT)]:=by rw[hR];rfl
 obtain⟨M,hM⟩:∃M,M=R.filter (kv c):=⟨_,rfl⟩
 obtain⟨S1,hS1⟩:∃S1,S1=(M.filter fun r=>!ky c r).map fun r=>[r.id]:=⟨_,rfl⟩
 obtain⟨S2,hS2⟩:∃S2,S2=prL (jW c) M:=⟨_,rfl⟩
 have hR8:R.length≤8:=by rw[hR];exact h.few
 have hM8:M.length≤8:=by rw[hM];exact ph (pY _ _) hR8
 have hS8:S1.length≤8:=by rw[hS1,pc];exact ph (pY _ _) hM8
 have hS64:S2.length≤64:=by rw[hS2];exact ph (la M) (sq8 hM8)
 have hE:cfdV c R=S1++S2:=by rw[hS1,hS2,hM];rfl
 have hlen:∀r∈R,r.vals.length=t.attrs.length:=by rw[hR];exact ct.len
 have hlM:∀r∈M,r.vals.length=t.attrs.length:=fun r hr=>hlen r (by rw[hM]at hr;exact(List.mem_filter.1 hr).1)
 rw[←hR]at c1 ⊢;rw[hE]
 have hrb:∀o:List Rw,∀bl∈[B.cells [.str t.name,.lst 1 f (t.attrs.map V.str),.lst 2 g (R.map aT)],B.cells [.lst 1 f2 (c.l.map au),.int .i64 c.r,.lst 4 g2 (c.p.map dG)],B.buf 80 2 (o.map aT) false],rbB 3 bl:=fun o bl hbl=>by
  simp only[pD,pA,or_false]at hbl
  rcases hbl with rfl | rfl | rfl
  ·rw[←htB];exact iK _ _ _ _
  ·exact ccB_rb _ _ _ _
  ·exact rows_rb _ _ _ _
 have hrb5:∀o o2:List (List Int),∀bl∈[B.cells [.str t.name,.lst 1 f (t.attrs.map V.str),.lst 2 g (R.map aT)],B.cells [.lst 1 f2 (c.l.map au),.int .i64 c.r,.lst 4 g2 (c.p.map dG)],B.buf 80 2 (M.map aT) true,B.buf 34 1 (o.map (L1 true)) false,B.buf 34 1 (o2.map (L1 true)) false],rbB 5 bl:=fun o o2 bl hbl=>by
  simp only[pD,pA,or_false]at hbl
  rcases hbl with rfl | rfl | rfl | rfl | rfl
  ·rw[←htB];exact iK _ _ _ _
  ·exact ccB_rb _ _ _ _
  ·exact rows_rb _ _ _ _
  ·exact LT_rb _ _ _
  ·exact LT_rb _ _ _
 have hrb6:∀(r:Rw) (o o2:List (List Int)),∀bl∈[B.cells [.str t.name,.lst 1 f (t.attrs.map V.str),.lst 2 g (R.map aT)],B.cells [.lst 1 f2 (c.l.map au),.int .i64 c.r,.lst 4 g2 (c.p.map dG)],B.buf 80 2 (M.map aT) true,B.buf 34 1 (o.map (L1 true)) false,B.buf 34 1 (o2.map (L1 true)) false,B.cells [.int .i64 r.id,.lst 3 false (r.vals.map ac)]],rbB 6 bl:=fun r o o2 bl hbl=>by
  simp only[pD,pA,or_false]at hbl
  rcases hbl with rfl | rfl | rfl | rfl | rfl | rfl
  ·rw[←htB];exact iK _ _ _ _
  ·exact ccB_rb _ _ _ _
  ·exact rows_rb _ _ _ _
  ·exact LT_rb _ _ _
  ·exact LT_rb _ _ _
  ·exact rcB_rb _ _
 refine jq (aK (tkf 34) Tryz.func130 rfl rfl ?_);refine W_x (tkf 34) mixed ?_;simp -dsimp[Tryz.f130,ou,aF,gT,LR,LS,LCl,hR.symm,L1,bo];refine cPx (c1) (by simp) ?_;simp -dsimp[L1,bo];refine cPx (c2) (by simp) ?_;simp -dsimp[L1,bo];refine aR (iR 80 2 [7] (by simp) (W_loopM 43 0x7ffc0000280 (by simp[mB]<;>rfl) (σ:=Nat×List Rw) (fun p=>p.2++(R.drop p.1).filter (kv c)=M) (fun p=>R.length-p.1) (fun p=>[(30,.int .i64 p.1),(7,.buf 2 0 p.2.length p.2.length)]) (fun p=>[B.cells [.str t.name,.lst 1 f (t.attrs.map V.str),.lst 2 g (R.map aT)],B.cells [.lst 1 f2 (c.l.map au),.int .i64 c.r,.lst 4 g2 (c.p.map dG)],B.buf 80 2 (p.2.map aT) false]) (0,[]) (by rw[hM];rfl) (by simp) (by simp) (by simp) ?_));rintro⟨i,ms⟩ hx N Q hN hQ;simp only at hx;by_cases hb:i<R.length
 ·have hri:=hlen _ (ow hb);rw[pB hb]at hx;obtain⟨r,hre⟩:∃r,r=R[i]:=⟨_,rfl⟩;rw[←hre]at hx hri;have c3:=left_u c r f2 g2 false t.attrs.length hri ck.l ck.p ck.lb;simp only[gT,L1,LCl,LV]at c3
  cases hq:kv c r with
  | false =>
   rw[hq]at c3;rw[qV (by simp[hq])]at hx;refine W_x (tkf 34) mixed ?_;simp -dsimp[hb,hre.symm,aT,LV,L1,bo];refine cPx (c3) (by simp) ?_;simp -dsimp[aa i (by omega),L1,bo];refine hN (i+1,ms) _ _ hx (by simp only;omega) (by simp) ⟨[B.cells [.int .i64 r.id,.lst 3 false (r.vals.map ac)]],by simp⟩ (by simp) (hrb _)
  | true =>
   rw[hq]at c3;rw[qU hq]at hx
   have hml:ms.length≤8:=by rw[←hx]at hM8;simp only[pK]at hM8;omega
   refine W_x (tkf 34) mixed ?_;simp -dsimp[hb,hre.symm,aT,LV,L1,bo];refine cPx (c3) (by simp) ?_;simp -dsimp[cap32r ms.length (by omega),eJ ms.length (by omega),aa i (by omega),L1,bo];refine hN (i+1,ms++[r]) _ _ (by rw[←hx];simp) (by simp only;omega) (by simp) ⟨[B.cells [.int .i64 r.id,.lst 3 false (r.vals.map ac)]],by simp[aT,LV]⟩ (by simp) (hrb _)
 ·rw[pF (show R.length≤i by omega),sC,pL]at hx;subst hx;refine gY 2 [7] rfl (by simp) ?_;refine W_x (tkf 34) mixed ?_;simp -dsimp[hb,L1,bo];refine hQ _ _ _ ?_;simp -dsimp[L1,bo];refine aR (iR 34 1 [10] (by simp) (iR 34 1 [11] (by simp) (W_loopM 91 0x7ffffffffffe0000000bc00 (by simp[mB]<;>rfl) (σ:=Nat×List (List Int)×List (List Int)) (fun p=>p.2.1++((ms.drop p.1).filter fun r=>!ky c r).map (fun r=>[r.id])=S1∧p.2.2++prL (jW c) (ms.drop p.1)=S2) (fun p=>ms.length-p.1) (fun p=>[(45,.int .i64 p.1),(10,.buf 3 0 p.2.1.length p.2.1.length),(11,.buf 4 0 p.2.2.length p.2.2.length)]) (fun p=>[B.cells [.str t.name,.lst 1 f (t.attrs.map V.str),.lst 2 g (R.map aT)],B.cells [.lst 1 f2 (c.l.map au),.int .i64 c.r,.lst 4 g2 (c.p.map dG)],B.buf 80 2 (ms.map aT) true,B.buf 34 1 (p.2.1.map (L1 true)) false,B.buf 34 1 (p.2.2.map (L1 true)) false]) (0,[],[]) ⟨by rw[hS1];rfl,by rw[hS2];rfl⟩ (by simp) (by simp) (by simp) ?_)));rintro⟨i,o1,o2⟩ ⟨hx1,hx2⟩ N Q hN hQ;simp only at hx1 hx2;by_cases hb:i<ms.length
  ·rw[fil_cons hb]at hx1;rw[pr_cons hb]at hx2;have hri:=hlM _ (ow hb);obtain⟨r,hre⟩:∃r,r=ms[i]:=⟨_,rfl⟩;rw[←hre]at hx1 hx2 hri;obtain⟨k,hk⟩:=qy ck.r0;have hk1:=ck.r1
   have hkv:k<r.vals.length:=by omega
   obtain⟨x,hxx⟩:∃x,x=r.vals[k]:=⟨_,rfl⟩;obtain⟨y,hyy⟩:∃y,y=clAt c.p c.l.length:=⟨_,rfl⟩
   have hrt:ky c r=clF y x:=by unfold ky;rw[hk,jN hkv,←hxx,←hyy]
   have c4:=fits_u y x;rw[←hrt]at c4;rw[←hyy]at cr;simp only[dG,ac]at c4 cr;have htk:(ms.map aT).take ms.length=ms.map aT:=pX (by simp)
   have hdp:∀x∈(ms.map aT).drop (i+1),AM.Pure x:=fun x hx=>by
    obtain⟨y,_,rfl⟩:=List.mem_map.1 (qJ hx);exact encRw_pure y
   have ho1:o1.length≤8:=by rw[←hx1]at hS8;simp only[pK]at hS8;omega
   cases hq:ky c r with
   | true =>
    rw[hq]at c4;rw[hq,Bool.not_true,if_neg (by simp),pU]at hx1;refine W_x (tkf 34) mixed ?_;simp -dsimp[hb,hre.symm,aT,LV,L1,bo];refine .inr ⟨bN (by kernel_rfl),?_⟩;refine ar _ (aW (cr) (by simp)) ?_;simp -dsimp[hk,hkv,hxx.symm,ac,L1,bo];refine ar _ (aW (c4) (by simp)) ?_;simp -dsimp[aa i (by omega),show(0:Int)≤(i:Int)+1 by omega,show i+1≤ms.length by omega,htk,L1,bo];refine aR (W_loopM 90 0x3ffff800000000000008800 (by simp[mB]<;>rfl) (σ:=Nat×List (List Int)) (fun p=>p.2++((((ms.drop (i+1+p.1)).filter (jW c r)).map fun s=>[r.id,s.id])++prL (jW c) (ms.drop (i+1)))=S2) (fun p=>ms.length-p.1) (fun p=>[(71,.int .i64 p.1),(11,.buf 4 0 p.2.length p.2.length)]) (fun p=>[B.cells [.str t.name,.lst 1 f (t.attrs.map V.str),.lst 2 g (R.map aT)],B.cells [.lst 1 f2 (c.l.map au),.int .i64 c.r,.lst 4 g2 (c.p.map dG)],B.buf 80 2 (ms.map aT) true,B.buf 34 1 ((o1).map (L1 true)) false,B.buf 34 1 (p.2.map (L1 true)) false,B.cells [.int .i64 r.id,.lst 3 false (r.vals.map ac)]]) (0,o2) hx2 (by simp) (by simp[L1,au,aT,LV,hk]) (by simp) ?_);rintro⟨k2,o3⟩ hx3 N2 Q2 hN2 hQ2;simp only at hx3;by_cases hkb:k2<ms.length-(i+1)
    ·have hkR:i+1+k2<ms.length:=by omega
     rw[in_cons hkR]at hx3;have hrk:=hlM _ (ow hkR);obtain⟨s,hse⟩:∃s,s=ms[i+1+k2]:=⟨_,rfl⟩;rw[←hse]at hx3 hrk;have c5:=pairC_u c r s f2 g2 false false t.attrs.length ck hri hrk;simp only[gT,L1,LCl,LV]at c5
     have ho3:o3.length≤64:=by rw[←hx3]at hS64;simp only[pK]at hS64;omega
     cases hq2:jW c r s with
     | false =>
      rw[hq2]at c5 hx3;rw[if_neg (by simp),pU]at hx3;refine W_x (tkf 34) mixed ?_;simp -dsimp[hkb,hkR,hse.symm,aT,LV,L1,bo];refine cPx (c5) (by simp) ?_;simp -dsimp[aa k2 (by omega),L1,bo];refine hN2 (k2+1,o3) _ _ hx3 (by simp only;omega) (by simp) ⟨[B.cells [.int .i64 s.id,.lst 3 false (s.vals.map ac)]],by simp⟩ (by simp;exact hdp) (hrb6 _ _ _)
     | true =>
      rw[hq2]at c5 hx3;rw[if_pos rfl]at hx3;refine W_x (tkf 34) mixed ?_;simp -dsimp[hkb,hkR,hse.symm,aT,LV,L1,bo];refine cPx (c5) (by simp) ?_;simp -dsimp[mI o3.length (by omega),eJ o3.length (by omega),aa k2 (by omega),L1,bo];refine hN2 (k2+1,o3++[[r.id,s.id]]) _ _ (by rw[←hx3];simp[qQ]) (by simp only;omega) (by simp) ⟨[B.cells [.int .i64 s.id,.lst 3 false (s.vals.map ac)]],by simp[au,L1]⟩ (by simp;exact hdp) (hrb6 _ _ _)
    ·rw[pF (show ms.length≤i+1+k2 by omega)]at hx3;refine W_x (tkf 34) mixed ?_;simp -dsimp[hkb,L1,bo];refine hQ2 _ _ _ ?_;simp -dsimp[aa i (by omega),L1,bo];refine hN (i+1,o1,o3) _ _ ⟨hx1,by simpa using hx3⟩ (by simp only;omega) (by simp[hk]) ⟨[B.cells [.int .i64 r.id,.lst 3 false (r.vals.map ac)]],by simp[hk,L1,au]⟩ (by simp) (hrb5 _ _)
   | false =>
    rw[hq]at c4;rw[hq,sR,if_pos rfl]at hx1;refine W_x (tkf 34) mixed ?_;simp -dsimp[hb,hre.symm,aT,LV,L1,bo];refine .inr ⟨bN (by kernel_rfl),?_⟩;refine ar _ (aW (cr) (by simp)) ?_;simp -dsimp[hk,hkv,hxx.symm,ac,L1,bo];refine ar _ (aW (c4) (by simp)) ?_;simp -dsimp[aa i (by omega),show(0:Int)≤(i:Int)+1 by omega,show i+1≤ms.length by omega,htk,mI o1.length (by omega),eJ o1.length (by omega),L1,bo];refine aR (W_loopM 90 0x3ffff800000000000008800 (by simp[mB]<;>rfl) (σ:=Nat×List (List Int)) (fun p=>p.2++((((ms.drop (i+1+p.1)).filter (jW c r)).map fun s=>[r.id,s.id])++prL (jW c) (ms.drop (i+1)))=S2) (fun p=>ms.length-p.1) (fun p=>[(71,.int .i64 p.1),(11,.buf 4 0 p.2.length p.2.length)]) (fun p=>[B.cells [.str t.name,.lst 1 f (t.attrs.map V.str),.lst 2 g (R.map aT)],B.cells [.lst 1 f2 (c.l.map au),.int .i64 c.r,.lst 4 g2 (c.p.map dG)],B.buf 80 2 (ms.map aT) true,B.buf 34 1 ((o1++[[r.id]]).map (L1 true)) false,B.buf 34 1 (p.2.map (L1 true)) false,B.cells [.int .i64 r.id,.lst 3 false (r.vals.map ac)]]) (0,o2) hx2 (by simp) (by simp[L1,au,aT,LV,hk]) (by simp) ?_);rintro⟨k2,o3⟩ hx3 N2 Q2 hN2 hQ2;simp only at hx3;by_cases hkb:k2<ms.length-(i+1)
    ·have hkR:i+1+k2<ms.length:=by omega
     rw[in_cons hkR]at hx3;have hrk:=hlM _ (ow hkR);obtain⟨s,hse⟩:∃s,s=ms[i+1+k2]:=⟨_,rfl⟩;rw[←hse]at hx3 hrk;have c5:=pairC_u c r s f2 g2 false false t.attrs.length ck hri hrk;simp only[gT,L1,LCl,LV]at c5
     have ho3:o3.length≤64:=by rw[←hx3]at hS64;simp only[pK]at hS64;omega
     cases hq2:jW c r s with
     | false =>
      rw[hq2]at c5 hx3;rw[if_neg (by simp),pU]at hx3;refine W_x (tkf 34) mixed ?_;simp -dsimp[hkb,hkR,hse.symm,aT,LV,L1,bo];refine cPx (c5) (by simp) ?_;simp -dsimp[aa k2 (by omega),L1,bo];refine hN2 (k2+1,o3) _ _ hx3 (by simp only;omega) (by simp) ⟨[B.cells [.int .i64 s.id,.lst 3 false (s.vals.map ac)]],by simp[L1,au]⟩ (by simp;exact hdp) (hrb6 _ _ _)
     | true =>
      rw[hq2]at c5 hx3;rw[if_pos rfl]at hx3;refine W_x (tkf 34) mixed ?_;simp -dsimp[hkb,hkR,hse.symm,aT,LV,L1,bo];refine cPx (c5) (by simp) ?_;simp -dsimp[mI o3.length (by omega),eJ o3.length (by omega),aa k2 (by omega),L1,bo];refine hN2 (k2+1,o3++[[r.id,s.id]]) _ _ (by rw[←hx3];simp[qQ]) (by simp only;omega) (by simp) ⟨[B.cells [.int .i64 s.id,.lst 3 false (s.vals.map ac)]],by simp[au,L1,hk]⟩ (by simp;exact hdp) (hrb6 _ _ _)
    ·rw[pF (show ms.length≤i+1+k2 by omega)]at hx3;refine W_x (tkf 34) mixed ?_;simp -dsimp[hkb,L1,bo];refine hQ2 _ _ _ ?_;simp -dsimp[aa i (by omega),L1,bo];refine hN (i+1,o1++[[r.id]],o3) _ _ ⟨(by rw[←hx1];simp),by simpa using hx3⟩ (by simp only;omega) (by simp[hk]) ⟨[B.cells [.int .i64 r.id,.lst 3 false (r.vals.map ac)]],by simp[hk,L1,au]⟩ (by simp) (hrb5 _ _)
  ·rw[pF (show ms.length≤i by omega),sC,rQ,pL]at hx1;rw[pF (show ms.length≤i by omega),prL,pL]at hx2;subst hx1;subst hx2;refine gY 4 [11] rfl (by simp) ?_;have hl1:o1.length≤8:=hS8;have hl2:o2.length≤64:=hS64;by_cases h0:o2=[]
   ·subst h0;refine W_x (tkf 34) mixed ?_;simp -dsimp[hb,L1,bo];refine hQ _ _ _ ?_;simp -dsimp[L1,bo];refine⟨ma (ly rfl (by simp) ?_),?_⟩
    all_goals simp[LT]
   ·refine W_x (tkf 34) mixed ?_;simp -dsimp[hb,L1,bo];refine hQ _ _ _ ?_;simp -dsimp[h0,show o1.length+o2.length≤9223372036854775807 by omega,show(o1.length+o2.length)*24≤140737488355328 by omega,L1,bo];refine⟨ma (ly (e:=34) (fz:=false) (xs:=(o1++o2).map (L1 true)) (by simp) (by simp) ?_),?_⟩
    ·intro x hx;obtain⟨y,_,rfl⟩:=List.mem_map.1 hx;exact L1_pure _ _
    ·refine .lst _ _ _ fun x hx=>?_
     obtain⟨y,_,rfl⟩:=List.mem_map.1 hx;exact L1_pure _ _
end
end Go.Proofs.YtjogkbekekdkjaaGreatDoor
