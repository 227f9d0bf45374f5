/- JM22: own texts of this seat, joined and shortened by pack4.py: MN, BU, RT, LBp. -/
import Derived.Test.YtjogkbekekdkjaaGreatDoorJM20
import Derived.Test.YtjogkbekekdkjaaGreatDoorJM21
set_option linter.unusedVariables false
set_option linter.unusedSimpArgs false
set_option maxRecDepth 100000
set_option maxHeartbeats 64000000
open Bool renaming true_and→pP,false_and→pS
open ByteArray renaming empty→pE
open List renaming replicate→ou,getElem_mem→ow,not_mem_nil→pA,drop_eq_getElem_cons→pB,mem_cons→pD,drop_of_length_le→pF,take_succ_eq_append_getElem→pJ,length_append→pK,append_nil→pL,drop_zero→pT,nil_append→pU,all_eq_true→pV,mem_cons_self→pW,take_of_length_le→pX,length_filter_le→pY,mem_cons_of_mem→pZ,length_map→pc,mem_singleton→pe,mem_of_mem_take→pi,cons_append→pn,take_length→pt,range_succ→qI,filter_cons_of_pos→qU,filter_cons_of_neg→qV,all_cons→qk,set_cons_zero→qp,filter_append→rS,set_cons_succ→rT,filter_nil→sC
open Nat renaming le_refl→pI,mul_le_mul_right→pN,le_trans→ph,zero_le→pv,lt_of_le_of_lt→qa,sub_zero→ru,and_le_left→sB
namespace Go.Proofs.YtjogkbekekdkjaaGreatDoor
section
open Go Go.AM
theorem kL(a:Int)(f:Bool):aE Tryz.prog 133 [.lst 1 f [.int .i64 a]] fun r=>r = .agg [.int .i64 a,.int .i64 0,.int .i64 0]:=by
 refine sPx Tryz.func133 rfl rfl ?_;simp -dsimp[Tryz.f133,ou,jx]
theorem oK(a b:Int)(f:Bool):aE Tryz.prog 133 [.lst 1 f [.int .i64 a,.int .i64 b]] fun r=>r = .agg [.int .i64 a,.int .i64 b,.int .i64 0]:=by
 refine sPx Tryz.func133 rfl rfl ?_;simp -dsimp[Tryz.f133,ou,jx]
theorem edge3(a b c:Int)(f:Bool):aE Tryz.prog 133 [.lst 1 f [.int .i64 a,.int .i64 b,.int .i64 c]] fun r=>r = .agg [.int .i64 a,.int .i64 b,.int .i64 c]:=by
 refine sPx Tryz.func133 rfl rfl ?_;simp -dsimp[Tryz.f133,ou,jx]
theorem edge_u{l:List Int}(h:jd l)(f:Bool):aE Tryz.prog 133 [L1 f l] fun r=>r=gp l:=by
 rcases jk h with⟨a,rfl,_⟩ | ⟨a,b,rfl,_⟩ | ⟨a,b,c,rfl,_⟩
 ·exact kL a f
 ·exact oK a b f
 ·exact edge3 a b c f
theorem smK1(all:List (List Int))(a:Int):smK all [a]=false:=by simp[smK]
theorem smK2(all:List (List Int))(a b:Int):smK all [a,b]=(all.contains [a]||all.contains [b]):=by
 simp[smK,qI]
theorem smK3(all:List (List Int))(a b c:Int):smK all [a,b,c]=(all.contains [a]||(all.contains [b,c]||(all.contains [b]||(all.contains [a,c]||(all.contains [c]||all.contains [a,b]))))):=by
 simp[smK,qI,Bool.or_assoc]
theorem look{dd all:List (List Int)}(hdd:∀x,x∈dd↔x∈all)(hp:∀x∈dd,jd x){x:List Int}(hx:jd x):(all.contains x=true∧∃j,dS (gp x) (mK dd) 0=some (j,.bool true))∨(all.contains x=false∧dS (gp x) (mK dd) 0=none):=by
 by_cases h:x∈dd
 ·obtain⟨j,hj,_⟩:=kZ hx dd 0 hp h;exact .inl ⟨by simpa using(hdd x).1 h,j,hj⟩
 ·exact .inr ⟨by simpa using fun e=>h ((hdd x).2 e),oG hx dd 0 hp h⟩
theorem cc2(a b:Int)(g h:Bool):aE Tryz.prog 135 [.lst 1 true [.lst 1 g [.int .i64 a],.lst 1 h [.int .i64 b]]] fun r=>r = .lst 1 false [.int .i64 a,.int .i64 b] :=
 oN [⟨g,[.int .i64 a]⟩,⟨h,[.int .i64 b]⟩] true (fun l hl x hx=>by
  simp only[pD,pA,or_false]at hl
  rcases hl with rfl | rfl<;>(simp only[pe]at hx;subst hx;simp[cq,V.cells,V.one])) (by simp) (by simp[iG])
theorem cc0(a b:Int)(g h:Bool):aE Tryz.prog 135 [.lst 1 true [.lst 1 g [],.lst 1 h [.int .i64 a,.int .i64 b]]] fun r=>r = .lst 1 false [.int .i64 a,.int .i64 b] :=
 oN [⟨g,[]⟩,⟨h,[.int .i64 a,.int .i64 b]⟩] true (fun l hl x hx=>by
  simp only[pD,pA,or_false]at hl
  rcases hl with rfl | rfl
  ·cases hx
  ·simp only[pD,pA,or_false]at hx
   rcases hx with rfl | rfl<;>simp[cq,V.cells,V.one]) (by simp) (by simp[iG])
theorem cc3(a b:Int)(g h:Bool):aE Tryz.prog 135 [.lst 1 true [.lst 1 g [.int .i64 a,.int .i64 b],.lst 1 h []]] fun r=>r = .lst 1 false [.int .i64 a,.int .i64 b] :=
 oN [⟨g,[.int .i64 a,.int .i64 b]⟩,⟨h,[]⟩] true (fun l hl x hx=>by
  simp only[pD,pA,or_false]at hl
  rcases hl with rfl | rfl
  ·simp only[pD,pA,or_false]at hx
   rcases hx with rfl | rfl<;>simp[cq,V.cells,V.one]
  ·cases hx) (by simp) (by simp[iG])
theorem smaller_u{H:List B}(dd all:List (List Int))(j km:Nat)(hj:H[j]?=some (.cells [.map km]))(hm:H[km]?=some (.map (.arr 3) (mK dd)))(hH:∀bl∈H,rbB H.length bl)(hdd:∀x,x∈dd↔x∈all)(hp:∀x∈dd,jd x)(l:List Int)(f:Bool)(hl:jd l):
  aI Tryz.prog (.fn 134 [.ptr j 0]) [L1 f l] H fun r H'=>r = .bool (smK all l)∧H'=H:=by
 simp only[aI,pn,pU];refine ip ?_ (by simp[rb,rb1]) ⟨pI _,hH⟩;have hjl:=aB hj
 have L:=fun x (hx:jd x)=>look hdd hp hx
 rcases jk hl with⟨a,rfl,ha⟩ | ⟨a,b,rfl,ha,hb⟩ | ⟨a,b,c,rfl,ha,hb,hc⟩
 ·rw[smK1];refine aK tok Tryz.func134 rfl rfl ?_;refine wx ?_;simp -dsimp[Tryz.f134,ou,L1,au];refine aR (W_loopM 41 0x1ffffffff98 (by simp[mB]<;>rfl) (σ:=Nat) (fun i=>i≤1) (fun i=>1-i) (fun i=>[(7,.int .i64 i)]) (fun _=>H) 0 (by omega) (by simp) (by simp) (by simp) ?_);intro i hi N Q hN hQ;by_cases h0:i=0
  ·subst h0;refine wx ?_;simp -dsimp[];refine .inr ⟨bN (by kernel_rfl),?_⟩;refine .inr ⟨bN (by kernel_rfl),?_⟩;simp -dsimp[show IntKind.i64.wrap (1:Int)=1 from wrap64 (by omega) (by omega)];refine hN 1 _ _ (by omega) (by omega) (by simp) ⟨[],by simp⟩ (by simp<;>exact hjl) hH
  ·obtain rfl:i=1:=by omega
   refine wx ?_;simp -dsimp[];refine hQ _ _ _ ?_;simp -dsimp[]
 ·rw[smK2];have La:=L [a] ⟨by simp,by simp,by simpa using ha⟩;have Lb:=L [b] ⟨by simp,by simp,by simpa using hb⟩;simp only[gp,List.getD_cons_zero,List.getD_cons_succ,List.getD_nil]at La Lb;obtain⟨ca,hca⟩:∃q,q=all.contains [a]:=⟨_,rfl⟩;obtain⟨cb,hcb⟩:∃q,q=all.contains [b]:=⟨_,rfl⟩;rw[←hca]at La ⊢;rw[←hcb]at Lb ⊢;obtain⟨E,hE⟩:∃E,E=(ca||cb):=⟨_,rfl⟩;rw[←hE];have hE':=hE.symm;clear hE hca hcb L hl hdd hp;have w1:IntKind.i64.wrap (1:Int)=1:=wrap64 (by omega) (by omega);have w2:IntKind.i64.wrap (2:Int)=2:=wrap64 (by omega) (by omega);refine aK tok Tryz.func134 rfl rfl ?_;refine wx ?_;simp -dsimp[Tryz.f134,ou,L1,au];refine aR (W_loopM 41 0x1ffffffff98 (by simp[mB]<;>rfl) (σ:=Nat) (fun i=>i≤2∧(match i with | 0=>ca||cb | 1=>cb | _=>false)=E) (fun i=>2-i) (fun i=>[(7,.int .i64 i)]) (fun _=>H) 0 ⟨by omega,hE'⟩ (by simp) (by simp) (by simp) ?_);rintro i ⟨hi,hx⟩ N Q hN hQ
  have h3:i=0∨i=1∨i=2:=by omega
  rcases h3 with rfl | rfl | rfl
  ·simp only at hx
   rcases La with⟨rfl,jj,hf⟩ | ⟨rfl,hf⟩
   ·refine wx ?_;simp -dsimp[hj,hm,w1];refine .inr ⟨bN (by kernel_rfl),?_⟩;refine ar _ (aW (kL a _) (by simp)) ?_;simp -dsimp[hj,hm,hf];refine hQ _ _ _ ?_;simp -dsimp[];simpa using hx
   ·refine wx ?_;simp -dsimp[hj,hm,w1];refine .inr ⟨bN (by kernel_rfl),?_⟩;refine ar _ (aW (kL a _) (by simp)) ?_;simp -dsimp[hj,hm,hf];refine .inr ⟨bN (by kernel_rfl),?_⟩;simp -dsimp[w1];refine hN 1 _ _ ⟨by omega,by simpa using hx⟩ (by omega) (by simp) ⟨[],by simp⟩ (by simp<;>exact hjl) hH
  ·simp only at hx
   rcases Lb with⟨rfl,jj,hf⟩ | ⟨rfl,hf⟩
   ·refine wx ?_;simp -dsimp[hj,hm,w1,w2];refine .inr ⟨bN (by kernel_rfl),?_⟩;refine ar _ (aW (kL b _) (by simp)) ?_;simp -dsimp[hj,hm,hf];refine hQ _ _ _ ?_;simp -dsimp[];simpa using hx
   ·refine wx ?_;simp -dsimp[hj,hm,w1,w2];refine .inr ⟨bN (by kernel_rfl),?_⟩;refine ar _ (aW (kL b _) (by simp)) ?_;simp -dsimp[hj,hm,hf];refine .inr ⟨bN (by kernel_rfl),?_⟩;simp -dsimp[w2];refine hN 2 _ _ ⟨by omega,by simpa using hx⟩ (by omega) (by simp) ⟨[],by simp⟩ (by simp<;>exact hjl) hH
  ·refine wx ?_;simp -dsimp[];refine hQ _ _ _ ?_;simp -dsimp[];simpa using hx
 ·rw[smK3];have L0:=L [a] ⟨by simp,by simp,by simpa using ha⟩;have L1':=L [b,c] ⟨by simp,by simp,by simp[hb,hc]⟩;have L2:=L [b] ⟨by simp,by simp,by simpa using hb⟩;have L3:=L [a,c] ⟨by simp,by simp,by simp[ha,hc]⟩;have L4:=L [c] ⟨by simp,by simp,by simpa using hc⟩;have L5:=L [a,b] ⟨by simp,by simp,by simp[ha,hb]⟩;simp only[gp,List.getD_cons_zero,List.getD_cons_succ,List.getD_nil]at L0 L1' L2 L3 L4 L5;obtain⟨k0,e0⟩:∃q,q=all.contains [a]:=⟨_,rfl⟩;obtain⟨k1,e1⟩:∃q,q=all.contains [b,c]:=⟨_,rfl⟩;obtain⟨k2,e2⟩:∃q,q=all.contains [b]:=⟨_,rfl⟩;obtain⟨k3,e3⟩:∃q,q=all.contains [a,c]:=⟨_,rfl⟩;obtain⟨k4,e4⟩:∃q,q=all.contains [c]:=⟨_,rfl⟩;obtain⟨k5,e5⟩:∃q,q=all.contains [a,b]:=⟨_,rfl⟩;rw[←e0]at L0 ⊢;rw[←e1]at L1' ⊢;rw[←e2]at L2 ⊢;rw[←e3]at L3 ⊢;rw[←e4]at L4 ⊢;rw[←e5]at L5 ⊢;obtain⟨E,hE⟩:∃E,E=(k0||(k1||(k2||(k3||(k4||k5))))):=⟨_,rfl⟩;rw[←hE];have w1:IntKind.i64.wrap (1:Int)=1:=wrap64 (by omega) (by omega);have w2:IntKind.i64.wrap (2:Int)=2:=wrap64 (by omega) (by omega);have w3:IntKind.i64.wrap (3:Int)=3:=wrap64 (by omega) (by omega);have hE':=hE.symm;clear L hl hdd hp hE e0 e1 e2 e3 e4 e5;refine aK tok Tryz.func134 rfl rfl ?_;refine wx ?_;simp -dsimp[Tryz.f134,ou,L1,au];refine aR (W_loopM 41 0x1ffffffff98 (by simp[mB]<;>rfl) (σ:=Nat) (fun i=>i≤3∧(match i with | 0=>k0||(k1||(k2||(k3||(k4||k5)))) | 1=>k2||(k3||(k4||k5)) | 2=>k4||k5 | _=>false)=E) (fun i=>3-i) (fun i=>[(7,.int .i64 i)]) (fun _=>H) 0 ⟨by omega,hE'⟩ (by simp) (by simp) (by simp) ?_);rintro i ⟨hi,hx⟩ N Q hN hQ
  have h3:i=0∨i=1∨i=2∨i=3:=by omega
  rcases h3 with rfl | rfl | rfl | rfl
  ·simp only at hx
   rcases L0 with⟨rfl,jj,hf⟩ | ⟨rfl,hf⟩
   ·refine wx ?_;simp -dsimp[hj,hm,w1,w2,w3];refine .inr ⟨bN (by kernel_rfl),?_⟩;refine ar _ (aW (kL a _) (by simp)) ?_;simp -dsimp[hj,hm,hf];refine hQ _ _ _ ?_;simp -dsimp[];simpa using hx
   ·refine wx ?_;simp -dsimp[hj,hm,w1,w2,w3];refine .inr ⟨bN (by kernel_rfl),?_⟩;refine ar _ (aW (kL a _) (by simp)) ?_;simp -dsimp[hj,hm,hf,w1,w2,w3]
    rcases L1' with⟨rfl,jj,hf2⟩ | ⟨rfl,hf2⟩
    ·refine .inr ⟨bN (by kernel_rfl),?_⟩;refine ar _ (aW (cc0 b c _ _) (by simp)) ?_;simp -dsimp[];refine ar _ (aW (oK b c _) (by simp)) ?_;simp -dsimp[hj,hm,hf2];refine hQ _ _ _ ?_;simp -dsimp[];simpa using hx
    ·refine .inr ⟨bN (by kernel_rfl),?_⟩;refine ar _ (aW (cc0 b c _ _) (by simp)) ?_;simp -dsimp[];refine ar _ (aW (oK b c _) (by simp)) ?_;simp -dsimp[hj,hm,hf2,w1,w2,w3];refine hN 1 _ _ ⟨by omega,by simpa using hx⟩ (by omega) (by simp) ⟨[],by simp⟩ (by simp<;>exact hjl) hH
  ·simp only at hx
   rcases L2 with⟨rfl,jj,hf⟩ | ⟨rfl,hf⟩
   ·refine wx ?_;simp -dsimp[hj,hm,w1,w2,w3];refine .inr ⟨bN (by kernel_rfl),?_⟩;refine ar _ (aW (kL b _) (by simp)) ?_;simp -dsimp[hj,hm,hf];refine hQ _ _ _ ?_;simp -dsimp[];simpa using hx
   ·refine wx ?_;simp -dsimp[hj,hm,w1,w2,w3];refine .inr ⟨bN (by kernel_rfl),?_⟩;refine ar _ (aW (kL b _) (by simp)) ?_;simp -dsimp[hj,hm,hf,w1,w2,w3]
    rcases L3 with⟨rfl,jj,hf2⟩ | ⟨rfl,hf2⟩
    ·refine .inr ⟨bN (by kernel_rfl),?_⟩;refine ar _ (aW (cc2 a c _ _) (by simp)) ?_;simp -dsimp[];refine ar _ (aW (oK a c _) (by simp)) ?_;simp -dsimp[hj,hm,hf2];refine hQ _ _ _ ?_;simp -dsimp[];simpa using hx
    ·refine .inr ⟨bN (by kernel_rfl),?_⟩;refine ar _ (aW (cc2 a c _ _) (by simp)) ?_;simp -dsimp[];refine ar _ (aW (oK a c _) (by simp)) ?_;simp -dsimp[hj,hm,hf2,w1,w2,w3];refine hN 2 _ _ ⟨by omega,by simpa using hx⟩ (by omega) (by simp) ⟨[],by simp⟩ (by simp<;>exact hjl) hH
  ·simp only at hx
   rcases L4 with⟨rfl,jj,hf⟩ | ⟨rfl,hf⟩
   ·refine wx ?_;simp -dsimp[hj,hm,w1,w2,w3];refine .inr ⟨bN (by kernel_rfl),?_⟩;refine ar _ (aW (kL c _) (by simp)) ?_;simp -dsimp[hj,hm,hf];refine hQ _ _ _ ?_;simp -dsimp[];simpa using hx
   ·refine wx ?_;simp -dsimp[hj,hm,w1,w2,w3];refine .inr ⟨bN (by kernel_rfl),?_⟩;refine ar _ (aW (kL c _) (by simp)) ?_;simp -dsimp[hj,hm,hf,w1,w2,w3]
    rcases L5 with⟨rfl,jj,hf2⟩ | ⟨rfl,hf2⟩
    ·refine .inr ⟨bN (by kernel_rfl),?_⟩;refine ar _ (aW (cc3 a b _ _) (by simp)) ?_;simp -dsimp[];refine ar _ (aW (oK a b _) (by simp)) ?_;simp -dsimp[hj,hm,hf2];refine hQ _ _ _ ?_;simp -dsimp[];simpa using hx
    ·refine .inr ⟨bN (by kernel_rfl),?_⟩;refine ar _ (aW (cc3 a b _ _) (by simp)) ?_;simp -dsimp[];refine ar _ (aW (oK a b _) (by simp)) ?_;simp -dsimp[hj,hm,hf2,w1,w2,w3];refine hN 3 _ _ ⟨by omega,by simpa using hx⟩ (by omega) (by simp) ⟨[],by simp⟩ (by simp<;>exact hjl) hH
  ·refine wx ?_;simp -dsimp[];refine hQ _ _ _ ?_;simp -dsimp[];simpa using hx
theorem exp_preL{H:List B}{k e m N r:Nat}{fz:Bool}{ls:List (List Int)}(hk:H[k]?=some (.buf e 1 (jX ls r) fz))(hm:ls.length=m)(hN:m+r=N):Exp H (.buf k 0 m N) (LL false ls):=by
 subst hm;subst hN
 have hl:(jX ls r).length=ls.length+r:=by simp[jX,liL]
 have:=Exp.buf k 0 ls.length e 1 (jX ls r) fz hk (by rw[hl];omega) (fun x hx=>by
  unfold jX liL at hx
  rcases List.mem_append.1 hx with h | h
  ·obtain⟨y,_,rfl⟩:=List.mem_map.1 h;exact L1_pure _ _
  ·obtain⟨_,rfl⟩:=List.mem_replicate.1 h;exact .nilS)
 rw[pT,hl]at this
 have e1:(jX ls r).take ls.length=ls.map (L1 false):=by
  unfold jX liL;rw[List.take_left' (by simp)]
 rw[e1]at this;exact this
theorem compL_len(l:List (List Int)):(ic l).length≤l.length:=by
 have key:∀p,(cpL l p).length≤p:=by
  intro p
  fun_induction cpL l p with
  | case1=>simp
  | case2=>simp
  | case3 p h ih=>omega
  | case4 p h ih=>simp;omega
 unfold ic;split
 ·simp
 ·exact key _
theorem sortLi_lens{l:List (List Int)}{k:Nat}(h:∀e∈l,e.length≤k):∀e∈gy l,e.length≤k:=fun e he=>h e ((iP l).mem_iff.1 he)
theorem minimal_u(all:List (List Int))(g:Bool)(hA:∀d∈all,jd d)(hl:all.length≤100000):aE Tryz.prog 80 [LL g all] fun r=>r=LL false (mj all):=by
 have hddP:∀i,∀x∈ddL all i,jd x:=fun i x hx=>hA x (pi (ddL_mem.1 hx))
 have hrb2:∀μ:List (List Int),∀bl∈[B.map (.arr 3) (mK μ),B.cells [.map 0]],rbB 2 bl:=fun μ bl hbl=>by
  simp only[pD,pA,or_false]at hbl
  rcases hbl with rfl | rfl
  ·exact mK_rb _ _ _
  ·intro c hc;simp at hc;subst hc;simp[rb,rb1]
 have hrb3:∀(μ:List (List Int)) (o:List (List Int)),∀bl∈[B.map (.arr 3) (mK μ),B.cells [.map 0],B.buf 34 1 (o.map (L1 false)) false],rbB 3 bl:=fun μ o bl hbl=>by
  simp only[pD,pA,or_false]at hbl
  rcases hbl with rfl | rfl | rfl
  ·exact mK_rb _ _ _
  ·intro c hc;simp at hc;subst hc;simp[rb,rb1]
  ·exact LF_rb _ _ _
 obtain⟨PE,hPE⟩:∃PE,PE=mj all:=⟨_,rfl⟩;rw[←hPE];refine sPx Tryz.func80 rfl rfl ?_;simp -dsimp[Tryz.f80,ou,LL];refine aR (W_loopM 22 0x3fc020 (by simp[mB]<;>rfl) (σ:=Nat) (fun i=>i≤all.length) (fun i=>all.length-i) (fun i=>[(14,.int .i64 i)]) (fun i=>[B.map (.arr 3) (mK (ddL all i)),B.cells [.map 0]]) 0 (by omega) (by simp) (by simp[ddL,mK]) (by simp) ?_);intro i hi N Q hN hQ;by_cases hb:i<all.length
 ·have hp:=hA _ (ow hb);have hsu:=ddL_succ hb;obtain⟨l,hle⟩:∃l,l=all[i]:=⟨_,rfl⟩;rw[←hle]at hp hsu;have ce:=edge_u hp false;obtain⟨x0,hx0⟩:∃x,x=l.getD 0 0:=⟨_,rfl⟩;obtain⟨x1,hx1⟩:∃x,x=l.getD 1 0:=⟨_,rfl⟩;obtain⟨x2,hx2⟩:∃x,x=l.getD 2 0:=⟨_,rfl⟩
  have hk3:gp l = .agg [.int .i64 x0,.int .i64 x1,.int .i64 x2]:=by rw[hx0,hx1,hx2];rfl
  rw[hk3]at ce;clear hx0 hx1 hx2;simp only[L1]at ce;by_cases hin:l∈ddL all i
  ·obtain⟨j,hj,_,hg⟩:=kZ hp (ddL all i) 0 (hddP i) hin;have hst:=mK_set hg;rw[ru]at hst
   have hpn:kG (ddL all i) l=ddL all i:=by unfold kG;rw[if_pos (by simpa using hin)]
   rw[hpn]at hsu;obtain⟨μ,hμ⟩:∃μ,μ=ddL all i:=⟨_,rfl⟩;rw[←hμ]at hj hst hsu ⊢;rw[hk3]at hj hst;refine wx ?_;simp -dsimp[hb,hle.symm,L1];refine aR (ao tok mixed [3] [] [(.agg [.int .i64 x0,.int .i64 x1,.int .i64 x2],[])] (by kernel_rfl) fun C K hC hK=>?_);simp -implicitDefEqProofs [hj,hst];refine⟨hC _ _ _ _ (aW ce (by simp)),hK _ _ ?_⟩;simp -dsimp[aa i (by omega)];refine hN (i+1) _ _ (by omega) (by omega) (by simp) ⟨[],by simp[hsu]⟩ (by simp) (hrb2 _)
  ·have hj:=oG hp (ddL all i) 0 (hddP i) hin
   have hpn:kG (ddL all i) l=ddL all i++[l]:=by unfold kG;rw[if_neg (by simpa using hin)]
   rw[hpn]at hsu;obtain⟨μ,hμ⟩:∃μ,μ=ddL all i:=⟨_,rfl⟩;rw[←hμ]at hj hsu ⊢;rw[hk3]at hj;refine wx ?_;simp -dsimp[hb,hle.symm,L1];refine aR (ao tok mixed [3] [] [(.agg [.int .i64 x0,.int .i64 x1,.int .i64 x2],[])] (by kernel_rfl) fun C K hC hK=>?_);simp -implicitDefEqProofs [hj];refine⟨hC _ _ _ _ (aW ce (by simp)),hK _ _ ?_⟩;simp -dsimp[aa i (by omega)];refine hN (i+1) _ _ (by omega) (by omega) (by simp) ⟨[],by simp[hsu,nI,hk3]⟩ (by simp) (hrb2 _)
 ·obtain rfl:i=all.length:=by omega
  obtain⟨dd,hdd⟩:∃dd,dd=ddL all all.length:=⟨_,rfl⟩
  have hmem:∀x,x∈dd↔x∈all:=fun x=>by rw[hdd,ddL_mem,pt]
  have hdP:∀x∈dd,jd x:=by rw[hdd];exact hddP _
  rw[←hdd]
  obtain⟨E,hE⟩:∃E,E=all.filter fun l=>!smK all l:=⟨_,rfl⟩
  have hEl:E.length≤all.length:=by rw[hE];exact pY _ _
  have hE3:∀e∈E,e.length≤3:=fun e he=>by rw[hE]at he;exact(hA e (List.mem_filter.1 he).1).2.1
  have hpe:PE=ic (gy E):=by rw[hPE,hE];rfl
  refine wx ?_;simp -dsimp[hb];refine hQ _ _ _ ?_;simp -dsimp[];refine aR (iR 34 1 [7] (by simp) (W_loopM 46 0x3ffffe000680 (by simp[mB]<;>rfl) (σ:=Nat×List (List Int)) (fun p=>p.2.length≤p.1∧p.1≤all.length∧p.2++(all.drop p.1).filter (fun l=>!smK all l)=E) (fun p=>all.length-p.1) (fun p=>[(25,.int .i64 p.1),(7,.buf 2 0 p.2.length p.2.length)]) (fun p=>[B.map (.arr 3) (mK dd),B.cells [.map 0],B.buf 34 1 (p.2.map (L1 false)) false]) (0,[]) ⟨by simp,by simp,by rw[hE];rfl⟩ (by simp) (by simp) (by simp) ?_));rintro⟨i,out⟩ ⟨hol,hi2,hx⟩ N2 Q2 hN2 hQ2;simp only at hol hi2 hx;by_cases hb2:i<all.length
  ·rw[pB hb2]at hx;have hp:=hA _ (ow hb2);have hin:all[i]∈dd:=(hmem _).2 (ow hb2);obtain⟨l,hle⟩:∃l,l=all[i]:=⟨_,rfl⟩;rw[←hle]at hp hx hin;have ce:=edge_u hp false;obtain⟨x0,hx0⟩:∃x,x=l.getD 0 0:=⟨_,rfl⟩;obtain⟨x1,hx1⟩:∃x,x=l.getD 1 0:=⟨_,rfl⟩;obtain⟨x2,hx2⟩:∃x,x=l.getD 2 0:=⟨_,rfl⟩
   have hk3:gp l = .agg [.int .i64 x0,.int .i64 x1,.int .i64 x2]:=by rw[hx0,hx1,hx2];rfl
   clear hx0 hx1 hx2;have cl:=clone64p l false (by have:=hp.2.1;omega);obtain⟨j,hj,_,_⟩:=kZ hp dd 0 hdP hin
   have cs:=smaller_u (H:=[B.map (.arr 3) (mK dd),B.cells [.map 0],B.buf 34 1 (out.map (L1 false)) false,B.cells [.int .i64 x0,.int .i64 x1,.int .i64 x2]]) dd all 1 0 rfl rfl (fun bl hbl=>by
    simp only[pD,pA,or_false]at hbl
    rcases hbl with rfl | rfl | rfl | rfl
    ·exact mK_rb _ _ _
    ·intro c hc;simp at hc;subst hc;simp[rb,rb1]
    ·exact LF_rb _ _ _
    ·intro c hc;simp at hc;rcases hc with rfl | rfl | rfl<;>simp[rb,rb1]) hmem hdP l false hp
   rw[hk3]at ce hj;simp only[L1]at ce cs cl
   cases hs:smK all l with
   | true =>
    rw[hs]at cs;rw[qV (by simp[hs])]at hx;refine wx ?_;simp -dsimp[hb2,hle.symm,L1];refine cPx (ce) (by simp) ?_;simp -dsimp[hj];refine cs.mono ?_;rintro r H' ⟨rfl,rfl⟩;simp -dsimp[aa i (by omega)];refine hN2 (i+1,out) _ _ ⟨by simp only;omega,by simp only;omega,hx⟩ (by simp only;omega) (by simp) ⟨[B.cells [.int .i64 x0,.int .i64 x1,.int .i64 x2]],by simp⟩ (by simp) (hrb3 _ _)
   | false =>
    rw[hs]at cs;rw[qU (by simp[hs])]at hx;refine wx ?_;simp -dsimp[hb2,hle.symm,L1];refine cPx (ce) (by simp) ?_;simp -dsimp[hj];refine cs.mono ?_;rintro r H' ⟨rfl,rfl⟩;simp -dsimp[];refine cPx (cl) (by simp) ?_;simp -dsimp[mI out.length (by omega),eJ out.length (by omega),aa i (by omega)];refine hN2 (i+1,out++[l]) _ _ ⟨by simp only[pK,List.length_singleton];omega,by simp only;omega,by rw[←hx];simp⟩ (by simp only;omega) (by simp) ⟨[B.cells [.int .i64 x0,.int .i64 x1,.int .i64 x2]],by simp[L1]⟩ (by simp) (hrb3 _ _)
  ·rw[pF (by omega),sC,pL]at hx;subst hx;have hsl:=jC out;have c4:=sortLi_u (H:=[B.map (.arr 3) (mK dd),B.cells [.map 0],B.buf 34 1 (out.map (L1 false)) false]) (k:=2) (e:=34) (f:=false) out out.length rfl (by simp) (by omega) (fun l hl=>by have:=hE3 l hl;omega);have hsl3:=sortLi_lens hE3;obtain⟨s,hse⟩:∃s,s=gy out:=⟨_,rfl⟩;rw[←hse]at c4 hsl hsl3 hpe;have c5:=compactL_h (H:=[B.map (.arr 3) (mK dd),B.cells [.map 0],B.buf 34 1 (s.map (L1 false)) false]) (k0:=2) (by simp) (hrb3 _ _) s out.length hsl (by omega) (fun l hl=>by have:=hsl3 l hl;omega);have hcl:=compL_len s;rw[←hpe]at c5 hcl;simp only[LBi,KB,liL,rT,qp]at c4 c5;refine wx ?_;simp -dsimp[hb2];refine hQ2 _ _ _ ?_;simp -dsimp[];refine wcZ c4 ?_;rintro r H' ⟨rfl,rfl⟩;simp -dsimp[];refine wcZ c5 ?_;rintro r H' ⟨rfl,rfl⟩;simp -dsimp[];exact exp_preL rfl rfl (by omega)
def bdV(t:Tb)(cs:List Cn):V:=if db t cs=0 then encH false false (dl t.rows) (gj (gx t cs)) else .agg [.nilS,.nilS]
structure BdOk (t:Tb) (cs:List Cn):Prop where
 ok:TbOk t
 small:t.rows.length≤8→TbS t
 rows:t.rows.length≤8∨200<t.rows.length
 few:cs.length≤5
 cns:∀c∈cs,CnB c
theorem posL_of{t:Tb}(g:TbC t){x:List Int}(h:EdgL t.rows x):jd x:=⟨h.2.1,h.2.2.1,fun a ha=>by
 have:=h.2.2.2 a ha;unfold dl at this;obtain⟨r,hr,rfl⟩:=List.mem_map.1 this
 exact g.pos r hr⟩
theorem progE_len(all:List (List Int)):(mj all).length≤all.length:=by
 unfold mj;refine ph (compL_len _) ?_;rw[jC];exact pY _ _
theorem allV_len{t:Tb}(h8:t.rows.length≤8){cs:List Cn}(h:∀c∈cs,eg t c=0)(hl:cs.length≤5):(allV t cs).length≤20000:=by
 have:=ja cs (f:=cnV t) (k:=4000) fun c hc=>cnV_len h8 (h c hc)
 unfold allV;have h2:cs.length*4000≤5*4000:=pN _ hl;omega
theorem LFz_rb(n e:Nat)(o:List (List Int))(fz:Bool):rbB n (.buf e 1 (o.map (L1 false)) fz):=fun x hx=>by
 obtain⟨y,_,rfl⟩:=List.mem_map.1 hx;intro c hc;simp only[L1,V.cells,pD,pA,or_false]at hc;subst hc;simp[rb1]
theorem cnsErr_drop{t:Tb}{cs:List Cn}{i:Nat}(h:i<cs.length):iW t (cs.drop i)=if eg t cs[i]=0 then iW t (cs.drop (i+1)) else eg t cs[i]:=by
 rw[pB h,iW]
theorem build_u(t:Tb)(cs:List Cn)(f g fc:Bool)(h:BdOk t cs):aE Tryz.prog 39 [aF f g t,LCn fc cs] fun r=>r = .tup [bdV t cs,.int .i64 (db t cs)]:=by
 have c1:=jg t f g h.ok;have htB:B.cells [.str t.name,.lst 1 f (t.attrs.map V.str),.lst 2 g (t.rows.map aT)]=tcB t f g:=rfl
 have htr:∀n,rbB n (tcB t f g):=fun n=>iK n t f g
 by_cases hv:aQ t=0
 case neg =>
  have he:db t cs=aQ t:=by unfold db;rw[if_neg hv]
  have hbd:bdV t cs = .agg [.nilS,.nilS]:=by unfold bdV;rw[he,if_neg hv]
  rw[he,hbd];obtain⟨e,hee⟩:∃e,e=aQ t:=⟨_,rfl⟩;rw[←hee]at c1 hv ⊢;simp only[aF,LS,LR]at c1;refine sPx Tryz.func39 rfl rfl ?_;simp -dsimp[Tryz.f39,ou,aF,LS,LR,LCn];refine cPx (c1) (by simp) ?_;simp -dsimp[hv]
 case pos =>
 rw[hv]at c1;have ct:=tbC hv;by_cases h2:200<t.rows.length
 ·have he:db t cs=3:=by unfold db;rw[if_pos hv,if_pos h2]
  have hbd:bdV t cs = .agg [.nilS,.nilS]:=by unfold bdV;rw[he,if_neg (by decide)]
  rw[he,hbd];simp only[aF,LS,LR]at c1;refine sPx Tryz.func39 rfl rfl ?_;simp -dsimp[Tryz.f39,ou,aF,LS,LR,LCn];refine cPx (c1) (by simp) ?_;simp -dsimp[show(200:Int)<t.rows.length by omega]
 have h8:t.rows.length≤8:=by have:=h.rows;omega
 have hts:=h.small h8;have hcs:=h.cns;have hl5:=h.few
 have he:db t cs=iW t cs:=by unfold db;rw[if_pos hv,if_neg h2]
 have hbd:bdV t cs=if iW t cs=0 then encH false false (dl t.rows) (mj (allV t cs)) else .agg [.nilS,.nilS]:=by
  unfold bdV;rw[he];split
  ·rename_i h0;rw[oJ ct (kf h0)]
  ·rfl
 rw[he,hbd];simp only[aF,LS,LR]at c1
 have hrb0:∀bl∈[tcB t f g,B.cells [.nilS,.nilS]],rbB 2 bl:=fun bl hbl=>by
  simp only[pD,pA,or_false]at hbl
  rcases hbl with rfl | rfl
  ·exact htr _
  ·intro c hc;simp at hc;subst hc;simp[rb,rb1]
 have hrb1:∀o:List (List Int),∀bl∈[tcB t f g,B.cells [.nilS,.nilS],B.buf 34 1 (o.map (L1 false)) false],rbB 3 bl:=fun o bl hbl=>by
  simp only[pD,pA,or_false]at hbl
  rcases hbl with rfl | rfl | rfl
  ·exact htr _
  ·intro c hc;simp at hc;subst hc;simp[rb,rb1]
  ·exact LF_rb _ _ _
 refine sPx Tryz.func39 rfl rfl ?_;simp -dsimp[Tryz.f39,ou,aF,LS,LR,LCn];refine cPx (c1) (by simp) ?_;simp -dsimp[show ¬(200:Int)<t.rows.length by omega];refine aR (W_loopM 47 0x7fff00000720 (by simp[mB]<;>rfl) (σ:=Nat) (fun i=>i≤cs.length∧iW t (cs.drop i)=iW t cs) (fun i=>cs.length-i) (fun i=>[(32,.int .i64 i)]) (fun _=>[tcB t f g,B.cells [.nilS,.nilS]]) 0 ⟨by omega,by rw[pT]⟩ (by simp) (by simp[tcB]) (by simp) ?_);rintro i ⟨hi,hx⟩ N Q hN hQ;by_cases hb:i<cs.length
 ·rw[cnsErr_drop hb]at hx;have hcb:=hcs _ (ow hb);obtain⟨c,hce⟩:∃c,c=cs[i]:=⟨_,rfl⟩;rw[←hce]at hx hcb;have c2:=lQ t c f g ct.wide hcb;have hp:=trV_pure t c;obtain⟨tv,htv⟩:∃tv,tv=trV t c:=⟨_,rfl⟩;rw[←htv]at c2 hp;simp only[aF,LS,LR,cE,L1,LCl,LA]at c2;by_cases h0:eg t c=0
  ·rw[if_pos h0]at hx;rw[h0]at c2;refine wx ?_;simp -dsimp[hb,hce.symm,cE,L1,LCl,LA,tcB];refine cPx (c2) (by simp) ?_;simp -dsimp[aa i (by omega)];refine hN (i+1) _ _ ⟨by omega,hx⟩ (by omega) (by simp) ⟨[B.cells (iJ c)],by simp[tcB,iJ]⟩ (by simp) hrb0
  ·rw[if_neg h0]at hx;obtain⟨e,hee⟩:∃e,e=eg t c:=⟨_,rfl⟩;rw[←hee]at c2 h0 hx;refine wx ?_;simp -dsimp[hb,hce.symm,cE,L1,LCl,LA,tcB];refine cPx (c2) (by simp) ?_;simp -dsimp[h0];refine hQ _ _ _ ?_;simp -dsimp[];rw[←hx];exact⟨fun h=>absurd h h0,rfl⟩
 ·have h0:iW t cs=0:=by rw[←hx,pF (by omega)];rfl
  have hok:=kf h0;have hAl:=allV_len h8 hok hl5
  have hAP:∀d∈allV t cs,jd d:=fun d hd=>posL_of ct (iY ct hok ((all_mem ct hok).1 hd))
  have hA:∃A,A=allV t cs:=⟨_,rfl⟩;obtain⟨A,hA⟩:=hA;rw[←hA]at hAl hAP;have hPl:=progE_len A;have cm:=minimal_u A false hAP (by omega);obtain⟨PE,hPE⟩:∃PE,PE=mj A:=⟨_,rfl⟩;rw[←hPE]at cm hPl;simp only[LL]at cm;refine wx ?_;simp -dsimp[hb];refine hQ _ _ _ ?_;simp -dsimp[];refine aR (iR 34 1 [11] (by simp) (W_loopM 67 0x7fffe00000000e820 (by simp[mB]<;>rfl) (σ:=Nat×List (List Int)) (fun p=>p.2++(cs.drop p.1).flatMap (cnV t)=A) (fun p=>cs.length-p.1) (fun p=>[(49,.int .i64 p.1),(11,.buf 2 0 p.2.length p.2.length)]) (fun p=>[tcB t f g,B.cells [.nilS,.nilS],B.buf 34 1 (p.2.map (L1 false)) false]) (0,[]) (by rw[hA];rfl) (by simp) (by simp) (by simp) ?_));rintro⟨i,out⟩ hx2 N2 Q2 hN2 hQ2;simp only at hx2;by_cases hb2:i<cs.length
  ·rw[flat_drop hb2]at hx2;have hcb:=hcs _ (ow hb2);have hck:=hok _ (ow hb2);obtain⟨c,hce⟩:∃c,c=cs[i]:=⟨_,rfl⟩;rw[←hce]at hx2 hcb hck;have c2:=violations_u t c f g hts hv hcb;rw[hck,show vlV t c=LL false (cnV t c) from by unfold vlV;rw[if_pos hck]]at c2;obtain⟨w,hw⟩:∃w,w=cnV t c:=⟨_,rfl⟩;rw[←hw]at c2 hx2
   have hol:out.length+w.length≤20000:=by rw[←hx2]at hAl;simp only[pK]at hAl;omega
   simp only[aF,LS,LR,cE,L1,LCl,LA,LL]at c2;by_cases hw0:w=[]
   ·subst hw0;refine wx ?_;simp -dsimp[hb2,hce.symm,cE,L1,LCl,LA,tcB];refine cPx (c2) (by simp) ?_;simp -dsimp[aa i (by omega)];refine hN2 (i+1,out) _ _ (by simpa using hx2) (by simp only;omega) (by simp) ⟨[B.cells (iJ c)],by simp[tcB,iJ]⟩ (by simp) (hrb1 _)
   ·refine wx ?_;simp -dsimp[hb2,hce.symm,cE,L1,LCl,LA,tcB];refine cPx (c2) (by simp) ?_;simp -dsimp[hw0,capV out.length w.length (by omega),aa i (by omega)];refine hN2 (i+1,out++w) _ _ (by rw[←hx2];simp) (by simp only;omega) (by simp) ⟨[B.cells (iJ c)],by simp[tcB,iJ]⟩ (by simp) (hrb1 _)
  ·rw[pF (by omega),List.flatMap_nil,pL]at hx2;subst hx2;obtain⟨I,hI⟩:∃I,I=dl t.rows:=⟨_,rfl⟩
   have hIl:I.length=t.rows.length:=by rw[hI,gv]
   obtain⟨R,hR⟩:∃R,R=t.rows:=⟨_,rfl⟩;rw[←hR]at hIl h8
   have hII:∀i (h:i<R.length),I.take (i+1)=I.take i++[R[i].id]:=fun i h=>by
    rw[pJ (by omega)];congr 2;simp[hI,dl,hR]
   have htB2:tcB t f g=B.cells [.str t.name,.lst 1 f (t.attrs.map V.str),.lst 2 g (R.map aT)]:=by rw[hR];rfl
   have hrb2:∀(i:Nat) (l:List Int),∀bl∈[tcB t f g,B.cells [.nilS,.nilS],B.buf 34 1 (out.map (L1 false)) true,B.cells [.buf 4 0 i i,.lst 1 false (PE.map (L1 false))],B.buf 2 1 (l.map au) false],rbB 5 bl:=fun i l bl hbl=>by
    simp only[pD,pA,or_false]at hbl
    rcases hbl with rfl | rfl | rfl | rfl | rfl
    ·exact htr _
    ·intro c hc;simp at hc;subst hc;simp[rb,rb1]
    ·exact LFz_rb _ _ _ _
    ·intro c hc;simp at hc;rcases hc with rfl | rfl<;>simp[rb,rb1]
    ·exact(rbB_buf1 (fun x hx=>by obtain⟨y,_,rfl⟩:=List.mem_map.1 hx;exact⟨by simp,rfl⟩)).2 trivial
   refine gY 2 [11] rfl (by simp) ?_;refine wx ?_;simp -dsimp[hb2];refine hQ2 _ _ _ ?_;simp -dsimp[LL];refine cPx (cm) (by simp) ?_;simp -dsimp[htB2];rw[←htB2];refine aR (dV 2 1 [] 3 [0] rfl (by simp) (by simp) (W_loopM 85 0x1ffe000000000000040000 (by simp[mB]<;>rfl) (σ:=Nat) (fun i=>i≤R.length) (fun i=>R.length-i) (fun i=>[(73,.int .i64 i)]) (fun i=>[tcB t f g,B.cells [.nilS,.nilS],B.buf 34 1 (out.map (L1 false)) true,B.cells [.buf 4 0 i i,.lst 1 false (PE.map (L1 false))],B.buf 2 1 ((I.take i).map au) false]) 0 (by omega) (by simp) (by simp) (by simp) ?_));intro j hj N3 Q3 hN3 hQ3
   have htl:(I.take j).length=j:=by simp;omega
   by_cases hjb:j<R.length
   ·have hst:=hII j hjb;obtain⟨r,hre⟩:∃r,r=R[j]:=⟨_,rfl⟩;rw[←hre]at hst;obtain⟨l,hle⟩:∃l,l=I.take j:=⟨_,rfl⟩;rw[←hle]at hst htl ⊢;refine wx ?_;simp -dsimp[hjb,hre.symm,aT,LV,htl,cap8 j (by omega),eJ j (by omega),aa j (by omega)];refine hN3 (j+1) _ _ (by omega) (by omega) (by simp) ⟨[B.cells [.int .i64 r.id,.lst 3 false (r.vals.map ac)]],by simp[hst,au]⟩ (by simp) (hrb2 _ _)
   ·obtain rfl:j=R.length:=by omega
    rw[pX (by omega)];refine eI 4 [] 3 [0] rfl rfl (by simp) (by simp[hIl]) ?_;refine wx ?_;simp -dsimp[hjb];refine hQ3 _ _ _ ?_;simp -dsimp[show ¬(20000:Int)<PE.length by omega];rw[if_pos h0,←hA,←hPE,←hI];simp[encH,L1,LL];exact h0.symm
theorem cns_rb(n e:Nat)(cs:List Cn)(fz:Bool):rbB n (.buf e 18 (cs.map cE) fz):=by
 intro x hx;obtain⟨y,_,rfl⟩:=List.mem_map.1 hx;intro c hc;have:=oO n y c hc;simp only[cE,L1,LCl,LA,V.cells]at hc;simp only[pD,pA,or_false]at hc
 rcases hc with rfl | rfl | rfl | rfl | rfl | rfl | rfl | rfl | rfl | rfl | rfl | rfl | rfl | rfl | rfl | rfl | rfl | rfl<;>simp[rb1]
theorem capCn2(n:Nat)(h:n≤100000000):n≤9223372036854775806∧(n+1)*272≤140737488355328:=by omega
def rlV(n:Nat)(rs:List Rul):V:=if rs.all cR=true then .tup [LCn false (rs.map (iS n)),.bool (decide (rs.length≤4))] else .tup [.nilS,.bool false]
theorem rules37(n:Nat)(rs:List Rul)(f:Bool)(hn:n≤16)(hl:rs.length≤2000000)(hr:∀r∈rs,RulOk r):aE Tryz.prog 37 [.int .i64 n,.lst 10 f (rs.map aq)] fun x=>x=rlV n rs:=by
 obtain⟨A,hA⟩:∃A,A=rs.map (iS n):=⟨_,rfl⟩
 have hAl:A.length=rs.length:=by rw[hA,pc]
 have hAi:∀i (h:i<rs.length),A.take (i+1)=A.take i++[iS n rs[i]]:=fun i h=>by
  rw[pJ (by omega)];congr 2;simp[hA]
 obtain⟨E,hE⟩:∃E,E=rs.all cR:=⟨_,rfl⟩
 have hrl:rlV n rs=if E=true then .tup [LCn false A,.bool (decide (rs.length≤4))] else .tup [.nilS,.bool false]:=by rw[hE,hA];rfl
 rw[hrl]
 have hrb:∀(cs:List Cn),∀bl∈[B.buf 62 18 (cs.map cE) false],rbB 1 bl:=fun cs bl hbl=>by
  simp only[pe]at hbl;subst hbl;exact cns_rb _ _ _ _
 refine sPx Tryz.func37 rfl rfl ?_;simp -dsimp[Tryz.f37,ou];refine aR (iR 62 18 [6] (by simp) (W_loopM 31 0x7ffffff0 (by simp[mB]<;>rfl) (σ:=Nat) (fun i=>i≤rs.length∧(rs.drop i).all cR=E) (fun i=>rs.length-i) (fun i=>[(7,.int .i64 i),(6,.buf 0 0 i i)]) (fun i=>[B.buf 62 18 ((A.take i).map cE) false]) 0 ⟨by omega,by rw[hE,pT]⟩ (by simp) (by simp) (by simp) ?_));rintro i ⟨hi,hx⟩ N Q hN hQ
 have htl:(A.take i).length=i:=by simp;omega
 by_cases hb:i<rs.length
 ·have hst:=hAi i hb;rw[pB hb,qk]at hx;have hk:=hr _ (ow hb);obtain⟨r,hre⟩:∃r,r=rs[i]:=⟨_,rfl⟩;rw[←hre]at hst hx hk;have c1:=ruleOf37 n r hn hk;obtain⟨c,hc⟩:∃c,c=iS n r:=⟨_,rfl⟩;rw[←hc]at c1 hst;obtain⟨al,hal⟩:∃al,al=A.take i:=⟨_,rfl⟩;rw[←hal]at hst htl ⊢;simp only[aq,cE,L1,LCl,LA]at c1
  cases hq:cR r with
  | true =>
   rw[hq]at c1;rw[hq,pP]at hx;refine wx ?_;simp -dsimp[hb,hre.symm,aq];refine cPx (c1) (by simp) ?_;simp -dsimp[htl,capCn2 i (by omega),eJ i (by omega),aa i (by omega)];refine hN (i+1) _ _ ⟨by omega,hx⟩ (by omega) (by simp) ⟨[B.cells (iJ c)],by simp[hst,cE,L1,LCl,LA,iJ]⟩ (by simp) (hrb _)
  | false =>
   rw[hq]at c1;rw[hq,pS]at hx;refine wx ?_;simp -dsimp[hb,hre.symm,aq];refine cPx (c1) (by simp) ?_;simp -dsimp[];refine hQ _ _ _ ?_;simp -dsimp[];rw[←hx];simp
 ·obtain rfl:i=rs.length:=by omega
  rw[pF (by omega)]at hx;rw[pX (by omega)];refine gY 0 [6] rfl (by simp[hAl]) ?_
  have h4:((rs.length:Int)≤4)↔rs.length≤4:=by omega
  refine wx ?_;simp -dsimp[hb];refine hQ _ _ _ ?_;simp -dsimp[h4,LCn];rw[←hx];simp
theorem kR_succ{K:List Int}{R:List Rw}{i:Nat}(h:i<R.length):kR K (R.take (i+1))=if iI K R[i].id=true then kR K (R.take i)++[R[i]] else kR K (R.take i):=by
 unfold kR;rw[pJ h,rS];by_cases hm:iI K R[i].id=true
 ·rw[if_pos hm,qU (p:=fun r:Rw=>iI K r.id) hm];rfl
 ·rw[if_neg hm,qV (p:=fun r:Rw=>iI K r.id) hm];simp
theorem keep03(t:Tb)(K:List Int)(f g fk:Bool)(ha:t.attrs.length≤1000000)(hr:t.rows.length≤1000000)(hv:∀r∈t.rows,r.vals.length≤1000000)(hK:K.length≤1000000):aE Tryz.prog 27 [aF f g t,L1 fk K] fun r=>r=aF false false (kT K t):=by
 have htB:B.cells [.str t.name,.lst 1 f (t.attrs.map V.str),.lst 2 g (t.rows.map aT)]=tcB t f g:=rfl
 have htr:∀n,rbB n (tcB t f g):=fun n=>iK n t f g
 obtain⟨R,hR⟩:∃R,R=t.rows:=⟨_,rfl⟩
 have hkl:∀i,(kR K (R.take i)).length≤i:=fun i=>by
  unfold kR;exact ph (pY _ _) (by simp;omega)
 have cw:=with03 t (kR K R) f g false ha (by unfold kR;exact ph (pY _ _) (by rw[hR];exact hr)) (fun r h=>hv r (by rw[←hR];exact(ir.1 h).1))
 have hkt:(⟨t.name,t.attrs,kR K R⟩:Tb)=kT K t:=by rw[hR];rfl
 rw[hkt]at cw;obtain⟨kt,hkte⟩:∃kt,kt=kT K t:=⟨_,rfl⟩;rw[←hkte]at cw ⊢
 have htB2:tcB t f g=B.cells [.str t.name,.lst 1 f (t.attrs.map V.str),.lst 2 g (R.map aT)]:=by rw[hR];rfl
 rw[←hR]at hr
 have hrb:∀rs:List Rw,∀bl∈[tcB t f g,B.cells [.str pE,.nilS,.nilS],B.buf 80 2 (rs.map aT) false],rbB 3 bl:=fun rs bl hbl=>by
  simp only[pD,pA,or_false]at hbl
  rcases hbl with rfl | rfl | rfl
  ·exact htr _
  ·intro c hc;simp only[pD,pA,or_false]at hc;rcases hc with rfl | rfl | rfl<;>simp[rb,rb1]
  ·exact rows_rb2 _ _ _ _
 simp only[aF,LS,LR]at cw;rw[←hR]at cw;refine sPx Tryz.func27 rfl rfl ?_;simp -dsimp[Tryz.f27,ou,aF,LS,LR,L1];refine aR (iR 80 2 [5] (by simp) (W_loopM 30 0x3fffffe0 (by simp[mB]<;>rfl) (σ:=Nat×List Rw) (fun p=>p.1≤R.length∧p.2=kR K (R.take p.1)) (fun p=>R.length-p.1) (fun p=>[(6,.int .i64 p.1),(5,.buf 2 0 p.2.length p.2.length)]) (fun p=>[tcB t f g,B.cells [.str pE,.nilS,.nilS],B.buf 80 2 (p.2.map aT) false]) (0,[]) ⟨by omega,rfl⟩ (by simp) (by simp[tcB]) (by simp) ?_));rintro⟨i,out⟩ ⟨hi,hx⟩ N Q hN hQ;simp only at hi hx
 have hol:out.length≤i:=by rw[hx];exact hkl i
 by_cases hb:i<R.length
 ·have hsu:=kR_succ (K:=K) hb;obtain⟨r,hre⟩:∃r,r=R[i]:=⟨_,rfl⟩;rw[←hre,←hx]at hsu;have ch:=has03 K r.id fk hK;simp only[L1]at ch
  cases hm:iI K r.id with
  | false =>
   rw[hm]at ch;rw[if_neg (by simp[hm])]at hsu;refine wx ?_;simp -dsimp[htB2,hb,hre.symm,aT,LV];refine cPx (ch) (by simp) ?_;simp -dsimp[aa i (by omega)];refine hN (i+1,out) _ _ ⟨by simp only;omega,hsu.symm⟩ (by simp only;omega) (by simp) ⟨[],by simp[htB2]⟩ (by simp) (hrb _)
  | true =>
   rw[hm]at ch;rw[if_pos hm]at hsu;refine wx ?_;simp -dsimp[htB2,hb,hre.symm,aT,LV];refine cPx (ch) (by simp) ?_;simp -dsimp[hb,hre.symm,aT,LV,cap32 out.length (by omega),eJ out.length (by omega),aa i (by omega)];refine hN (i+1,out++[r]) _ _ ⟨by simp only;omega,hsu.symm⟩ (by simp only;omega) (by simp) ⟨[],by simp[htB2,aT,LV]⟩ (by simp) (hrb _)
 ·obtain rfl:i=R.length:=by omega
  rw[pX (by omega)]at hx;subst hx;refine gY 2 [5] rfl (by simp) ?_;refine wx ?_;simp -dsimp[htB2,hb];refine hQ _ _ _ ?_;simp -dsimp[];refine cPx (cw) (by simp) ?_;simp -dsimp[aF,LS,LR]
theorem kg{t:Tb} : ∀{cs:List Cn},(∀c∈cs,eg t c=0)→iW t cs=0
 | [],_=>rfl
 | c::cs,h=>by
  rw[iW,if_pos (h c (pW ..))]
  exact kg fun c' hc=>h c' (pZ _ hc)
theorem ofC_sz(c:Int):(ofC c).s.size≤maxLen:=ofV_sz _
theorem tmOf_sz(n:Nat)(vars v c:Int):(mz n vars v c).x.s.size≤maxLen:=by
 unfold mz;split
 ·exact ofC_sz c
 ·show(0:Nat)≤maxLen;exact pv _
theorem cnB_of{n:Nat}(hn:n≤16){r:Rul}(h:RulOk r)(hk:cR r=true):CnB (iS n r):=by
 have hz:CnB { cn0 with kind:=1,fd:=fdOf n r.fd }:=⟨pv _,pv _,pv _,pv _,pv _,
  ⟨qa sB (by have:=h.fd.1;omega),qa sB (by have:=h.fd.2;omega)⟩,fun a ha=>by cases ha⟩
 unfold iS;split
 ·refine⟨?_,?_,pv _,pv _,pv _,⟨by show 0<4294967296;omega,by show 0<4294967296;omega⟩,fun a ha=>by cases ha⟩
  ·show(cfL _ _ _).length≤_;have:=nQ r.cl (cfR n r.cr) n;omega
  ·show(cfP _ _).length≤_;rw[cfP_len];have:=nQ r.cl (cfR n r.cr) n;omega
 ·split
  ·have hm:∀l,(mbF n l).length≤1000000:=fun l=>by
    unfold mbF;split
    ·exact pv _
    ·simp;omega
   exact⟨pv _,pv _,hm _,hm _,pv _,⟨by show 0<4294967296;omega,by show 0<4294967296;omega⟩,fun a ha=>by cases ha⟩
  ·split
   ·rename_i h3;unfold cR at hk;rw[h3]at hk
    have h5:r.sn.length≤5:=by simpa using hk
    refine⟨pv _,pv _,pv _,pv _,?_,⟨by show 0<4294967296;omega,by show 0<4294967296;omega⟩,fun a ha=>?_⟩
    ·show(r.sn.map _).length≤_;rw[pc];omega
    ·obtain⟨s,_,rfl⟩:=List.mem_map.1 (show a∈r.sn.map (atOf n (1+r.nv.tmod 3)) from ha);exact⟨tmOf_sz _ _ _ _,tmOf_sz _ _ _ _⟩
   ·exact hz
theorem bd_rcp{x:Rcp}(hx:RcpOk x){rs:List Rul}(hr:∀r∈rs,RulOk r)(hall:rs.all cR=true)(h4:rs.length≤4):
  BdOk (ia x) (rs.map (iS (ia x).attrs.length))∧(∀c∈rs.map (iS (ia x).attrs.length),eg (ia x) c=0)∧db (ia x) (rs.map (iS (ia x).attrs.length))=0:=by
 obtain⟨h1,h2⟩:=nC hx;have h6:=hx.rows;have hrl:=kS x;have hw:=(tbC h2).wide;rw[pV]at hall
 have he:∀c∈rs.map (iS (ia x).attrs.length),eg (ia x) c=0:=fun c hc=>by
  obtain⟨r,hm,rfl⟩:=List.mem_map.1 hc;exact cnOf_ok (tbOf_name x) (hr r hm) (hall r hm)
 refine⟨⟨h1.ok,fun _=>h1,.inl (by omega),by rw[pc];omega,fun c hc=>?_⟩,he,?_⟩
 ·obtain⟨r,hm,rfl⟩:=List.mem_map.1 hc;exact cnB_of hw (hr r hm) (hall r hm)
 ·unfold db;rw[if_pos h2,if_neg (by omega)];exact kg he
theorem bdV_yes{t:Tb}{cs:List Cn}(h:db t cs=0):bdV t cs=encH false false (dl t.rows) (gj (gx t cs)):=by unfold bdV;rw[if_pos h]
theorem bdV_no{t:Tb}{cs:List Cn}(h:¬db t cs=0):bdV t cs = .agg [.nilS,.nilS]:=by unfold bdV;rw[if_neg h]
theorem hU{t:Tb}{cs:List Cn}(h:db t cs=0):aQ t=0∧t.rows.length≤200∧∀c∈cs,eg t c=0:=by
 unfold db at h;split at h
 ·rename_i h1;split at h
  ·cases h
  ·exact⟨h1,by omega,kf h⟩
 ·rename_i h1;exact absurd h h1
theorem hY{t:Tb}{cs:List Cn}(hb:BdOk t cs)(h:db t cs=0):Small (dl t.rows) (gj (gx t cs))∧Hyp (dl t.rows) (gj (gx t cs))∧(gj (gx t cs)).length≤20000:=by
 obtain⟨h1,h2,h3⟩:=hU h;have g:=tbC h1
 have h8:t.rows.length≤8:=by have:=hb.rows;omega
 have hh:=edges_hyp g h3
 have hl:(gj (gx t cs)).length≤20000:=by
  rw[←oJ g h3];exact ph (progE_len _) (allV_len h8 h3 hb.few)
 refine⟨⟨by rw[gv];omega,by omega,fun e he=>?_⟩,hh,hl⟩;have hm:=(io (l:=gx t cs) fun e he=>(iY g h3 he).1).mem e;have:=(iY g h3 (hm.1 he).1).2.2.1;omega
theorem validT_kT{K:List Int}{t:Tb}(h:aQ t=0):aQ (kT K t)=0:=by
 have g:=tbC h;unfold aQ at h ⊢;split at h
 ·rename_i h1;split at h
  ·cases h
  ·rename_i h2;split at h
   ·rename_i h3;rw[if_pos (show av (kT K t).name=true from h1),if_neg,if_pos (show cO (kT K t).attrs=true from h3)]
    ·exact fm (fun r hr=>g.pos r (ir.1 hr).1) (fun r hr=>g.len r (ir.1 hr).1) (fun r hr v hv=>by
      have:=List.all_eq_true.1 (g.val r (ir.1 hr).1) v hv
      exact this) (kR_ord g.ids)
    ·have:(kT K t).rows.length≤t.rows.length:=pY _ _;have h4:(kT K t).attrs=t.attrs:=rfl;rw[h4];omega
   ·cases h
 ·cases h
theorem kT_len(K:List Int)(t:Tb):(kT K t).rows.length≤t.rows.length:=pY _ _
theorem tbS_kT{K:List Int}{t:Tb}(h:TbS t):TbS (kT K t):=
 ⟨⟨h.ok.name,h.ok.attrs,ph (kT_len K t) h.ok.rows,h.ok.strs⟩,fun r hr=>h.sz r (ir.1 hr).1,ph (kT_len K t) h.few⟩
theorem cnErr_kT(K:List Int)(t:Tb)(c:Cn):eg (kT K t) c=eg t c:=rfl
theorem bd_kT{K:List Int}{t:Tb}{cs:List Cn}(hb:BdOk t cs)(hs:TbS t)(h:db t cs=0):BdOk (kT K t) cs∧db (kT K t) cs=0:=by
 obtain⟨h1,h2,h3⟩:=hU h;have hk:=tbS_kT (K:=K) hs;refine⟨⟨hk.ok,fun _=>hk,.inl hk.few,hb.few,hb.cns⟩,?_⟩;unfold db;have:=hk.few;rw[if_pos (validT_kT h1),if_neg (by omega)]
 exact kg fun c hc=>by rw[cnErr_kT];exact h3 c hc
end
end Go.Proofs.YtjogkbekekdkjaaGreatDoor
