/- JX23: own texts of this seat, joined and shortened by pack4.py: MN. -/
import Derived.Test.YtjogkbekekdkjaaGreatDoorJX20
set_option linter.unusedVariables false
set_option linter.unusedSimpArgs false
set_option maxRecDepth 100000
set_option maxHeartbeats 64000000
open List renaming replicate→rO,drop_eq_getElem_cons→rP,getElem_mem→rQ,drop_of_length_le→rR,not_mem_nil→rS,mem_cons→rU,length_append→ri,append_nil→rj,drop_zero→rk,nil_append→rx,length_filter_le→rz,mem_singleton→sC,mem_of_mem_take→sD,take_length→sJ,cons_append→sP,range_succ→si,filter_cons_of_pos→sq,filter_cons_of_neg→sr,filter_nil→uI
open Nat renaming le_refl→rd,sub_zero→uY
namespace Go.Proofs.YtjogkbekekdkjaaGreatDoor
section
open Go Go.AM
theorem jq(a:Int)(f:Bool):aL Tryz.prog 133 [.lst 1 f [.int .i64 a]] fun r=>r = .agg [.int .i64 a,.int .i64 0,.int .i64 0]:=by
 refine sPx Tryz.func133 rfl rfl ?_;simp -dsimp[Tryz.f133,rO,jL]
theorem qW(a b:Int)(f:Bool):aL Tryz.prog 133 [.lst 1 f [.int .i64 a,.int .i64 b]] fun r=>r = .agg [.int .i64 a,.int .i64 b,.int .i64 0]:=by
 refine sPx Tryz.func133 rfl rfl ?_;simp -dsimp[Tryz.f133,rO,jL]
theorem edge3(a b c:Int)(f:Bool):aL Tryz.prog 133 [.lst 1 f [.int .i64 a,.int .i64 b,.int .i64 c]] fun r=>r = .agg [.int .i64 a,.int .i64 b,.int .i64 c]:=by
 refine sPx Tryz.func133 rfl rfl ?_;simp -dsimp[Tryz.f133,rO,jL]
theorem edge_u{l:List Int}(h:iQ l)(f:Bool):aL Tryz.prog 133 [L1 f l] fun r=>r=bZ l:=by
 rcases ie h with⟨a,rfl,_⟩ | ⟨a,b,rfl,_⟩ | ⟨a,b,c,rfl,_⟩
 ·exact jq a f
 ·exact qW a b f
 ·exact edge3 a b c f
theorem smK1(all:List (List Int))(a:Int):smK all [a]=false:=by simp[smK]
theorem smK2(all:List (List Int))(a b:Int):smK all [a,b]=(all.contains [a]||all.contains [b]):=by
 simp[smK,si]
theorem smK3(all:List (List Int))(a b c:Int):smK all [a,b,c]=(all.contains [a]||(all.contains [b,c]||(all.contains [b]||(all.contains [a,c]||(all.contains [c]||all.contains [a,b]))))):=by
 simp[smK,si,Bool.or_assoc]
theorem look{dd all:List (List Int)}(hdd:∀x,x∈dd↔x∈all)(hp:∀x∈dd,iQ x){x:List Int}(hx:iQ x):(all.contains x=true∧∃j,dX (bZ x) (mK dd) 0=some (j,.bool true))∨(all.contains x=false∧dX (bZ x) (mK dd) 0=none):=by
 by_cases h:x∈dd
 ·obtain⟨j,hj,_⟩:=kV hx dd 0 hp h;exact .inl ⟨by simpa using(hdd x).1 h,j,hj⟩
 ·exact .inr ⟨by simpa using fun e=>h ((hdd x).2 e),qM hx dd 0 hp h⟩
theorem cc2(a b:Int)(g h:Bool):aL Tryz.prog 135 [.lst 1 true [.lst 1 g [.int .i64 a],.lst 1 h [.int .i64 b]]] fun r=>r = .lst 1 false [.int .i64 a,.int .i64 b] :=
 qc [⟨g,[.int .i64 a]⟩,⟨h,[.int .i64 b]⟩] true (fun l hl x hx=>by
  simp only[rU,rS,or_false]at hl
  rcases hl with rfl | rfl<;>(simp only[sC]at hx;subst hx;simp[dV,V.cells,V.one])) (by simp) (by simp[dY])
theorem cc0(a b:Int)(g h:Bool):aL Tryz.prog 135 [.lst 1 true [.lst 1 g [],.lst 1 h [.int .i64 a,.int .i64 b]]] fun r=>r = .lst 1 false [.int .i64 a,.int .i64 b] :=
 qc [⟨g,[]⟩,⟨h,[.int .i64 a,.int .i64 b]⟩] true (fun l hl x hx=>by
  simp only[rU,rS,or_false]at hl
  rcases hl with rfl | rfl
  ·cases hx
  ·simp only[rU,rS,or_false]at hx
   rcases hx with rfl | rfl<;>simp[dV,V.cells,V.one]) (by simp) (by simp[dY])
theorem cc3(a b:Int)(g h:Bool):aL Tryz.prog 135 [.lst 1 true [.lst 1 g [.int .i64 a,.int .i64 b],.lst 1 h []]] fun r=>r = .lst 1 false [.int .i64 a,.int .i64 b] :=
 qc [⟨g,[.int .i64 a,.int .i64 b]⟩,⟨h,[]⟩] true (fun l hl x hx=>by
  simp only[rU,rS,or_false]at hl
  rcases hl with rfl | rfl
  ·simp only[rU,rS,or_false]at hx
   rcases hx with rfl | rfl<;>simp[dV,V.cells,V.one]
  ·cases hx) (by simp) (by simp[dY])
theorem smaller_u{H:List B}(dd all:List (List Int))(j km:Nat)(hj:H[j]?=some (.cells [.map km]))(hm:H[km]?=some (.map (.arr 3) (mK dd)))(hH:∀bl∈H,rbB H.length bl)(hdd:∀x,x∈dd↔x∈all)(hp:∀x∈dd,iQ x)(l:List Int)(f:Bool)(hl:iQ l):
  aQ Tryz.prog (.fn 134 [.ptr j 0]) [L1 f l] H fun r H'=>r = .bool (smK all l)∧H'=H:=by
 simp only[aQ,sP,rx];refine eh ?_ (by simp[rb,rb1]) ⟨rd _,hH⟩;have hjl:=aB hj
 have L:=fun x (hx:iQ x)=>look hdd hp hx
 rcases ie hl with⟨a,rfl,ha⟩ | ⟨a,b,rfl,ha,hb⟩ | ⟨a,b,c,rfl,ha,hb,hc⟩
 ·rw[smK1];refine aF tok Tryz.func134 rfl rfl ?_;refine wx ?_;simp -dsimp[Tryz.f134,rO,L1,aE];refine aG (W_loopM 41 0x1ffffffff98 (by simp[mB]<;>rfl) (σ:=Nat) (fun i=>i≤1) (fun i=>1-i) (fun i=>[(7,.int .i64 i)]) (fun _=>H) 0 (by omega) (by simp) (by simp) (by simp) ?_);intro i hi N Q hN hQ;by_cases h0:i=0
  ·subst h0;refine wx ?_;simp -dsimp[];refine .inr ⟨aC (by kernel_rfl),?_⟩;refine .inr ⟨aC (by kernel_rfl),?_⟩;simp -dsimp[show IntKind.i64.wrap (1:Int)=1 from wrap64 (by omega) (by omega)];refine hN 1 _ _ (by omega) (by omega) (by simp) ⟨[],by simp⟩ (by simp<;>exact hjl) hH
  ·obtain rfl:i=1:=by omega
   refine wx ?_;simp -dsimp[];refine hQ _ _ _ ?_;simp -dsimp[]
 ·rw[smK2];have La:=L [a] ⟨by simp,by simp,by simpa using ha⟩;have Lb:=L [b] ⟨by simp,by simp,by simpa using hb⟩;simp only[bZ,List.getD_cons_zero,List.getD_cons_succ,List.getD_nil]at La Lb;obtain⟨ca,hca⟩:∃q,q=all.contains [a]:=⟨_,rfl⟩;obtain⟨cb,hcb⟩:∃q,q=all.contains [b]:=⟨_,rfl⟩;rw[←hca]at La ⊢;rw[←hcb]at Lb ⊢;obtain⟨E,hE⟩:∃E,E=(ca||cb):=⟨_,rfl⟩;rw[←hE];have hE':=hE.symm;clear hE hca hcb L hl hdd hp;have w1:IntKind.i64.wrap (1:Int)=1:=wrap64 (by omega) (by omega);have w2:IntKind.i64.wrap (2:Int)=2:=wrap64 (by omega) (by omega);refine aF tok Tryz.func134 rfl rfl ?_;refine wx ?_;simp -dsimp[Tryz.f134,rO,L1,aE];refine aG (W_loopM 41 0x1ffffffff98 (by simp[mB]<;>rfl) (σ:=Nat) (fun i=>i≤2∧(match i with | 0=>ca||cb | 1=>cb | _=>false)=E) (fun i=>2-i) (fun i=>[(7,.int .i64 i)]) (fun _=>H) 0 ⟨by omega,hE'⟩ (by simp) (by simp) (by simp) ?_);rintro i ⟨hi,hx⟩ N Q hN hQ
  have h3:i=0∨i=1∨i=2:=by omega
  rcases h3 with rfl | rfl | rfl
  ·simp only at hx
   rcases La with⟨rfl,jj,hf⟩ | ⟨rfl,hf⟩
   ·refine wx ?_;simp -dsimp[hj,hm,w1];refine .inr ⟨aC (by kernel_rfl),?_⟩;refine aN _ (aK (jq a _) (by simp)) ?_;simp -dsimp[hj,hm,hf];refine hQ _ _ _ ?_;simp -dsimp[];simpa using hx
   ·refine wx ?_;simp -dsimp[hj,hm,w1];refine .inr ⟨aC (by kernel_rfl),?_⟩;refine aN _ (aK (jq a _) (by simp)) ?_;simp -dsimp[hj,hm,hf];refine .inr ⟨aC (by kernel_rfl),?_⟩;simp -dsimp[w1];refine hN 1 _ _ ⟨by omega,by simpa using hx⟩ (by omega) (by simp) ⟨[],by simp⟩ (by simp<;>exact hjl) hH
  ·simp only at hx
   rcases Lb with⟨rfl,jj,hf⟩ | ⟨rfl,hf⟩
   ·refine wx ?_;simp -dsimp[hj,hm,w1,w2];refine .inr ⟨aC (by kernel_rfl),?_⟩;refine aN _ (aK (jq b _) (by simp)) ?_;simp -dsimp[hj,hm,hf];refine hQ _ _ _ ?_;simp -dsimp[];simpa using hx
   ·refine wx ?_;simp -dsimp[hj,hm,w1,w2];refine .inr ⟨aC (by kernel_rfl),?_⟩;refine aN _ (aK (jq b _) (by simp)) ?_;simp -dsimp[hj,hm,hf];refine .inr ⟨aC (by kernel_rfl),?_⟩;simp -dsimp[w2];refine hN 2 _ _ ⟨by omega,by simpa using hx⟩ (by omega) (by simp) ⟨[],by simp⟩ (by simp<;>exact hjl) hH
  ·refine wx ?_;simp -dsimp[];refine hQ _ _ _ ?_;simp -dsimp[];simpa using hx
 ·rw[smK3];have L0:=L [a] ⟨by simp,by simp,by simpa using ha⟩;have L1':=L [b,c] ⟨by simp,by simp,by simp[hb,hc]⟩;have L2:=L [b] ⟨by simp,by simp,by simpa using hb⟩;have L3:=L [a,c] ⟨by simp,by simp,by simp[ha,hc]⟩;have L4:=L [c] ⟨by simp,by simp,by simpa using hc⟩;have L5:=L [a,b] ⟨by simp,by simp,by simp[ha,hb]⟩;simp only[bZ,List.getD_cons_zero,List.getD_cons_succ,List.getD_nil]at L0 L1' L2 L3 L4 L5;obtain⟨k0,e0⟩:∃q,q=all.contains [a]:=⟨_,rfl⟩;obtain⟨k1,e1⟩:∃q,q=all.contains [b,c]:=⟨_,rfl⟩;obtain⟨k2,e2⟩:∃q,q=all.contains [b]:=⟨_,rfl⟩;obtain⟨k3,e3⟩:∃q,q=all.contains [a,c]:=⟨_,rfl⟩;obtain⟨k4,e4⟩:∃q,q=all.contains [c]:=⟨_,rfl⟩;obtain⟨k5,e5⟩:∃q,q=all.contains [a,b]:=⟨_,rfl⟩;rw[←e0]at L0 ⊢;rw[←e1]at L1' ⊢;rw[←e2]at L2 ⊢;rw[←e3]at L3 ⊢;rw[←e4]at L4 ⊢;rw[←e5]at L5 ⊢;obtain⟨E,hE⟩:∃E,E=(k0||(k1||(k2||(k3||(k4||k5))))):=⟨_,rfl⟩;rw[←hE];have w1:IntKind.i64.wrap (1:Int)=1:=wrap64 (by omega) (by omega);have w2:IntKind.i64.wrap (2:Int)=2:=wrap64 (by omega) (by omega);have w3:IntKind.i64.wrap (3:Int)=3:=wrap64 (by omega) (by omega);have hE':=hE.symm;clear L hl hdd hp hE e0 e1 e2 e3 e4 e5;refine aF tok Tryz.func134 rfl rfl ?_;refine wx ?_;simp -dsimp[Tryz.f134,rO,L1,aE];refine aG (W_loopM 41 0x1ffffffff98 (by simp[mB]<;>rfl) (σ:=Nat) (fun i=>i≤3∧(match i with | 0=>k0||(k1||(k2||(k3||(k4||k5)))) | 1=>k2||(k3||(k4||k5)) | 2=>k4||k5 | _=>false)=E) (fun i=>3-i) (fun i=>[(7,.int .i64 i)]) (fun _=>H) 0 ⟨by omega,hE'⟩ (by simp) (by simp) (by simp) ?_);rintro i ⟨hi,hx⟩ N Q hN hQ
  have h3:i=0∨i=1∨i=2∨i=3:=by omega
  rcases h3 with rfl | rfl | rfl | rfl
  ·simp only at hx
   rcases L0 with⟨rfl,jj,hf⟩ | ⟨rfl,hf⟩
   ·refine wx ?_;simp -dsimp[hj,hm,w1,w2,w3];refine .inr ⟨aC (by kernel_rfl),?_⟩;refine aN _ (aK (jq a _) (by simp)) ?_;simp -dsimp[hj,hm,hf];refine hQ _ _ _ ?_;simp -dsimp[];simpa using hx
   ·refine wx ?_;simp -dsimp[hj,hm,w1,w2,w3];refine .inr ⟨aC (by kernel_rfl),?_⟩;refine aN _ (aK (jq a _) (by simp)) ?_;simp -dsimp[hj,hm,hf,w1,w2,w3]
    rcases L1' with⟨rfl,jj,hf2⟩ | ⟨rfl,hf2⟩
    ·refine .inr ⟨aC (by kernel_rfl),?_⟩;refine aN _ (aK (cc0 b c _ _) (by simp)) ?_;simp -dsimp[];refine aN _ (aK (qW b c _) (by simp)) ?_;simp -dsimp[hj,hm,hf2];refine hQ _ _ _ ?_;simp -dsimp[];simpa using hx
    ·refine .inr ⟨aC (by kernel_rfl),?_⟩;refine aN _ (aK (cc0 b c _ _) (by simp)) ?_;simp -dsimp[];refine aN _ (aK (qW b c _) (by simp)) ?_;simp -dsimp[hj,hm,hf2,w1,w2,w3];refine hN 1 _ _ ⟨by omega,by simpa using hx⟩ (by omega) (by simp) ⟨[],by simp⟩ (by simp<;>exact hjl) hH
  ·simp only at hx
   rcases L2 with⟨rfl,jj,hf⟩ | ⟨rfl,hf⟩
   ·refine wx ?_;simp -dsimp[hj,hm,w1,w2,w3];refine .inr ⟨aC (by kernel_rfl),?_⟩;refine aN _ (aK (jq b _) (by simp)) ?_;simp -dsimp[hj,hm,hf];refine hQ _ _ _ ?_;simp -dsimp[];simpa using hx
   ·refine wx ?_;simp -dsimp[hj,hm,w1,w2,w3];refine .inr ⟨aC (by kernel_rfl),?_⟩;refine aN _ (aK (jq b _) (by simp)) ?_;simp -dsimp[hj,hm,hf,w1,w2,w3]
    rcases L3 with⟨rfl,jj,hf2⟩ | ⟨rfl,hf2⟩
    ·refine .inr ⟨aC (by kernel_rfl),?_⟩;refine aN _ (aK (cc2 a c _ _) (by simp)) ?_;simp -dsimp[];refine aN _ (aK (qW a c _) (by simp)) ?_;simp -dsimp[hj,hm,hf2];refine hQ _ _ _ ?_;simp -dsimp[];simpa using hx
    ·refine .inr ⟨aC (by kernel_rfl),?_⟩;refine aN _ (aK (cc2 a c _ _) (by simp)) ?_;simp -dsimp[];refine aN _ (aK (qW a c _) (by simp)) ?_;simp -dsimp[hj,hm,hf2,w1,w2,w3];refine hN 2 _ _ ⟨by omega,by simpa using hx⟩ (by omega) (by simp) ⟨[],by simp⟩ (by simp<;>exact hjl) hH
  ·simp only at hx
   rcases L4 with⟨rfl,jj,hf⟩ | ⟨rfl,hf⟩
   ·refine wx ?_;simp -dsimp[hj,hm,w1,w2,w3];refine .inr ⟨aC (by kernel_rfl),?_⟩;refine aN _ (aK (jq c _) (by simp)) ?_;simp -dsimp[hj,hm,hf];refine hQ _ _ _ ?_;simp -dsimp[];simpa using hx
   ·refine wx ?_;simp -dsimp[hj,hm,w1,w2,w3];refine .inr ⟨aC (by kernel_rfl),?_⟩;refine aN _ (aK (jq c _) (by simp)) ?_;simp -dsimp[hj,hm,hf,w1,w2,w3]
    rcases L5 with⟨rfl,jj,hf2⟩ | ⟨rfl,hf2⟩
    ·refine .inr ⟨aC (by kernel_rfl),?_⟩;refine aN _ (aK (cc3 a b _ _) (by simp)) ?_;simp -dsimp[];refine aN _ (aK (qW a b _) (by simp)) ?_;simp -dsimp[hj,hm,hf2];refine hQ _ _ _ ?_;simp -dsimp[];simpa using hx
    ·refine .inr ⟨aC (by kernel_rfl),?_⟩;refine aN _ (aK (cc3 a b _ _) (by simp)) ?_;simp -dsimp[];refine aN _ (aK (qW a b _) (by simp)) ?_;simp -dsimp[hj,hm,hf2,w1,w2,w3];refine hN 3 _ _ ⟨by omega,by simpa using hx⟩ (by omega) (by simp) ⟨[],by simp⟩ (by simp<;>exact hjl) hH
  ·refine wx ?_;simp -dsimp[];refine hQ _ _ _ ?_;simp -dsimp[];simpa using hx
theorem exp_preL{H:List B}{k e m N r:Nat}{fz:Bool}{ls:List (List Int)}(hk:H[k]?=some (.buf e 1 (iF ls r) fz))(hm:ls.length=m)(hN:m+r=N):Exp H (.buf k 0 m N) (LL false ls):=by
 subst hm;subst hN
 have hl:(iF ls r).length=ls.length+r:=by simp[iF,liL]
 have:=Exp.buf k 0 ls.length e 1 (iF ls r) fz hk (by rw[hl];omega) (fun x hx=>by
  unfold iF liL at hx
  rcases List.mem_append.1 hx with h | h
  ·obtain⟨y,_,rfl⟩:=List.mem_map.1 h;exact L1_pure _ _
  ·obtain⟨_,rfl⟩:=List.mem_replicate.1 h;exact .nilS)
 rw[rk,hl]at this
 have e1:(iF ls r).take ls.length=ls.map (L1 false):=by
  unfold iF liL;rw[List.take_left' (by simp)]
 rw[e1]at this;exact this
theorem compL_len(l:List (List Int)):(dq l).length≤l.length:=by
 have key:∀p,(cpL l p).length≤p:=by
  intro p
  fun_induction cpL l p with
  | case1=>simp
  | case2=>simp
  | case3 p h ih=>omega
  | case4 p h ih=>simp;omega
 unfold dq;split
 ·simp
 ·exact key _
theorem sortLi_lens{l:List (List Int)}{k:Nat}(h:∀e∈l,e.length≤k):∀e∈cD l,e.length≤k:=fun e he=>h e ((eC l).mem_iff.1 he)
theorem minimal_u(all:List (List Int))(g:Bool)(hA:∀d∈all,iQ d)(hl:all.length≤100000):aL Tryz.prog 80 [LL g all] fun r=>r=LL false (nr all):=by
 have hddP:∀i,∀x∈ddL all i,iQ x:=fun i x hx=>hA x (sD (ddL_mem.1 hx))
 have hrb2:∀μ:List (List Int),∀bl∈[B.map (.arr 3) (mK μ),B.cells [.map 0]],rbB 2 bl:=fun μ bl hbl=>by
  simp only[rU,rS,or_false]at hbl
  rcases hbl with rfl | rfl
  ·exact mK_rb _ _ _
  ·intro c hc;simp at hc;subst hc;simp[rb,rb1]
 have hrb3:∀(μ:List (List Int)) (o:List (List Int)),∀bl∈[B.map (.arr 3) (mK μ),B.cells [.map 0],B.buf 34 1 (o.map (L1 false)) false],rbB 3 bl:=fun μ o bl hbl=>by
  simp only[rU,rS,or_false]at hbl
  rcases hbl with rfl | rfl | rfl
  ·exact mK_rb _ _ _
  ·intro c hc;simp at hc;subst hc;simp[rb,rb1]
  ·exact oH _ _ _
 obtain⟨PE,hPE⟩:∃PE,PE=nr all:=⟨_,rfl⟩;rw[←hPE];refine sPx Tryz.func80 rfl rfl ?_;simp -dsimp[Tryz.f80,rO,LL];refine aG (W_loopM 22 0x3fc020 (by simp[mB]<;>rfl) (σ:=Nat) (fun i=>i≤all.length) (fun i=>all.length-i) (fun i=>[(14,.int .i64 i)]) (fun i=>[B.map (.arr 3) (mK (ddL all i)),B.cells [.map 0]]) 0 (by omega) (by simp) (by simp[ddL,mK]) (by simp) ?_);intro i hi N Q hN hQ;by_cases hb:i<all.length
 ·have hp:=hA _ (rQ hb);have hsu:=ddL_succ hb;obtain⟨l,hle⟩:∃l,l=all[i]:=⟨_,rfl⟩;rw[←hle]at hp hsu;have ce:=edge_u hp false;obtain⟨x0,hx0⟩:∃x,x=l.getD 0 0:=⟨_,rfl⟩;obtain⟨x1,hx1⟩:∃x,x=l.getD 1 0:=⟨_,rfl⟩;obtain⟨x2,hx2⟩:∃x,x=l.getD 2 0:=⟨_,rfl⟩
  have hk3:bZ l = .agg [.int .i64 x0,.int .i64 x1,.int .i64 x2]:=by rw[hx0,hx1,hx2];rfl
  rw[hk3]at ce;clear hx0 hx1 hx2;simp only[L1]at ce;by_cases hin:l∈ddL all i
  ·obtain⟨j,hj,_,hg⟩:=kV hp (ddL all i) 0 (hddP i) hin;have hst:=mK_set hg;rw[uY]at hst
   have hpn:jY (ddL all i) l=ddL all i:=by unfold jY;rw[if_pos (by simpa using hin)]
   rw[hpn]at hsu;obtain⟨μ,hμ⟩:∃μ,μ=ddL all i:=⟨_,rfl⟩;rw[←hμ]at hj hst hsu ⊢;rw[hk3]at hj hst;refine wx ?_;simp -dsimp[hb,hle.symm,L1];refine aG (aW tok mixed [3] [] [(.agg [.int .i64 x0,.int .i64 x1,.int .i64 x2],[])] (by kernel_rfl) fun C K hC hK=>?_);simp -implicitDefEqProofs [hj,hst];refine⟨hC _ _ _ _ (aK ce (by simp)),hK _ _ ?_⟩;simp -dsimp[aH i (by omega)];refine hN (i+1) _ _ (by omega) (by omega) (by simp) ⟨[],by simp[hsu]⟩ (by simp) (hrb2 _)
  ·have hj:=qM hp (ddL all i) 0 (hddP i) hin
   have hpn:jY (ddL all i) l=ddL all i++[l]:=by unfold jY;rw[if_neg (by simpa using hin)]
   rw[hpn]at hsu;obtain⟨μ,hμ⟩:∃μ,μ=ddL all i:=⟨_,rfl⟩;rw[←hμ]at hj hsu ⊢;rw[hk3]at hj;refine wx ?_;simp -dsimp[hb,hle.symm,L1];refine aG (aW tok mixed [3] [] [(.agg [.int .i64 x0,.int .i64 x1,.int .i64 x2],[])] (by kernel_rfl) fun C K hC hK=>?_);simp -implicitDefEqProofs [hj];refine⟨hC _ _ _ _ (aK ce (by simp)),hK _ _ ?_⟩;simp -dsimp[aH i (by omega)];refine hN (i+1) _ _ (by omega) (by omega) (by simp) ⟨[],by simp[hsu,oh,hk3]⟩ (by simp) (hrb2 _)
 ·obtain rfl:i=all.length:=by omega
  obtain⟨dd,hdd⟩:∃dd,dd=ddL all all.length:=⟨_,rfl⟩
  have hmem:∀x,x∈dd↔x∈all:=fun x=>by rw[hdd,ddL_mem,sJ]
  have hdP:∀x∈dd,iQ x:=by rw[hdd];exact hddP _
  rw[←hdd]
  obtain⟨E,hE⟩:∃E,E=all.filter fun l=>!smK all l:=⟨_,rfl⟩
  have hEl:E.length≤all.length:=by rw[hE];exact rz _ _
  have hE3:∀e∈E,e.length≤3:=fun e he=>by rw[hE]at he;exact(hA e (List.mem_filter.1 he).1).2.1
  have hpe:PE=dq (cD E):=by rw[hPE,hE];rfl
  refine wx ?_;simp -dsimp[hb];refine hQ _ _ _ ?_;simp -dsimp[];refine aG (bf 34 1 [7] (by simp) (W_loopM 46 0x3ffffe000680 (by simp[mB]<;>rfl) (σ:=Nat×List (List Int)) (fun p=>p.2.length≤p.1∧p.1≤all.length∧p.2++(all.drop p.1).filter (fun l=>!smK all l)=E) (fun p=>all.length-p.1) (fun p=>[(25,.int .i64 p.1),(7,.buf 2 0 p.2.length p.2.length)]) (fun p=>[B.map (.arr 3) (mK dd),B.cells [.map 0],B.buf 34 1 (p.2.map (L1 false)) false]) (0,[]) ⟨by simp,by simp,by rw[hE];rfl⟩ (by simp) (by simp) (by simp) ?_));rintro⟨i,out⟩ ⟨hol,hi2,hx⟩ N2 Q2 hN2 hQ2;simp only at hol hi2 hx;by_cases hb2:i<all.length
  ·rw[rP hb2]at hx;have hp:=hA _ (rQ hb2);have hin:all[i]∈dd:=(hmem _).2 (rQ hb2);obtain⟨l,hle⟩:∃l,l=all[i]:=⟨_,rfl⟩;rw[←hle]at hp hx hin;have ce:=edge_u hp false;obtain⟨x0,hx0⟩:∃x,x=l.getD 0 0:=⟨_,rfl⟩;obtain⟨x1,hx1⟩:∃x,x=l.getD 1 0:=⟨_,rfl⟩;obtain⟨x2,hx2⟩:∃x,x=l.getD 2 0:=⟨_,rfl⟩
   have hk3:bZ l = .agg [.int .i64 x0,.int .i64 x1,.int .i64 x2]:=by rw[hx0,hx1,hx2];rfl
   clear hx0 hx1 hx2;have cl:=jt l false (by have:=hp.2.1;omega);obtain⟨j,hj,_,_⟩:=kV hp dd 0 hdP hin
   have cs:=smaller_u (H:=[B.map (.arr 3) (mK dd),B.cells [.map 0],B.buf 34 1 (out.map (L1 false)) false,B.cells [.int .i64 x0,.int .i64 x1,.int .i64 x2]]) dd all 1 0 rfl rfl (fun bl hbl=>by
    simp only[rU,rS,or_false]at hbl
    rcases hbl with rfl | rfl | rfl | rfl
    ·exact mK_rb _ _ _
    ·intro c hc;simp at hc;subst hc;simp[rb,rb1]
    ·exact oH _ _ _
    ·intro c hc;simp at hc;rcases hc with rfl | rfl | rfl<;>simp[rb,rb1]) hmem hdP l false hp
   rw[hk3]at ce hj;simp only[L1]at ce cs cl
   cases hs:smK all l with
   | true =>
    rw[hs]at cs;rw[sr (by simp[hs])]at hx;refine wx ?_;simp -dsimp[hb2,hle.symm,L1];refine cPx (ce) (by simp) ?_;simp -dsimp[hj];refine cs.mono ?_;rintro r H' ⟨rfl,rfl⟩;simp -dsimp[aH i (by omega)];refine hN2 (i+1,out) _ _ ⟨by simp only;omega,by simp only;omega,hx⟩ (by simp only;omega) (by simp) ⟨[B.cells [.int .i64 x0,.int .i64 x1,.int .i64 x2]],by simp⟩ (by simp) (hrb3 _ _)
   | false =>
    rw[hs]at cs;rw[sq (by simp[hs])]at hx;refine wx ?_;simp -dsimp[hb2,hle.symm,L1];refine cPx (ce) (by simp) ?_;simp -dsimp[hj];refine cs.mono ?_;rintro r H' ⟨rfl,rfl⟩;simp -dsimp[];refine cPx (cl) (by simp) ?_;simp -dsimp[fI out.length (by omega),ai out.length (by omega),aH i (by omega)];refine hN2 (i+1,out++[l]) _ _ ⟨by simp only[ri,List.length_singleton];omega,by simp only;omega,by rw[←hx];simp⟩ (by simp only;omega) (by simp) ⟨[B.cells [.int .i64 x0,.int .i64 x1,.int .i64 x2]],by simp[L1]⟩ (by simp) (hrb3 _ _)
  ·rw[rR (by omega),uI,rj]at hx;subst hx;have hsl:=fh out;have c4:=sortLi_u (H:=[B.map (.arr 3) (mK dd),B.cells [.map 0],B.buf 34 1 (out.map (L1 false)) false]) (k:=2) (e:=34) (f:=false) out out.length rfl (by simp) (by omega) (fun l hl=>by have:=hE3 l hl;omega);have hsl3:=sortLi_lens hE3;obtain⟨s,hse⟩:∃s,s=cD out:=⟨_,rfl⟩;rw[←hse]at c4 hsl hsl3 hpe;have c5:=compactL_h (H:=[B.map (.arr 3) (mK dd),B.cells [.map 0],B.buf 34 1 (s.map (L1 false)) false]) (k0:=2) (by simp) (hrb3 _ _) s out.length hsl (by omega) (fun l hl=>by have:=hsl3 l hl;omega);have hcl:=compL_len s;rw[←hpe]at c5 hcl;simp only[LBi,KB,liL,List.set_cons_succ,List.set_cons_zero]at c4 c5;refine wx ?_;simp -dsimp[hb2];refine hQ2 _ _ _ ?_;simp -dsimp[];refine wcZ c4 ?_;rintro r H' ⟨rfl,rfl⟩;simp -dsimp[];refine wcZ c5 ?_;rintro r H' ⟨rfl,rfl⟩;simp -dsimp[];exact exp_preL rfl rfl (by omega)
end
end Go.Proofs.YtjogkbekekdkjaaGreatDoor
