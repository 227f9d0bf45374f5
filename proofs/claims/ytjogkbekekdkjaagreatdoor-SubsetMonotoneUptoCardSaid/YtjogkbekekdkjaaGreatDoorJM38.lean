/- JM38: own texts of this seat, joined and shortened by pack4.py: SC9, SC10. -/
import Derived.Test.YtjogkbekekdkjaaGreatDoorJM32
import Derived.Test.YtjogkbekekdkjaaGreatDoorJM36
import Derived.Test.YtjogkbekekdkjaaGreatDoorJM37
set_option linter.unusedVariables false
set_option linter.unusedSimpArgs false
set_option maxRecDepth 100000
set_option maxHeartbeats 64000000
open List renaming replicate→ou,getElem_mem→ow,not_mem_nil→pA,mem_cons→pD,take_succ_eq_append_getElem→pJ,length_filter_le→pY,take_length→pt,map_append→qB,getD→qZ,length_range→sI
open Nat renaming le_trans→ph,pow_le_pow_right→qD
namespace Go.Proofs.YtjogkbekekdkjaaGreatDoor
section
open Go Go.AM
def oI(fd fp:Bool)(D:List Int)(b:Int)(l:List Nde):V:=.agg [L1 fd D,.int .i64 b,LNd fp l]
theorem rel_fl{s:AM.St}{z:Nat}{fl:Bool}{xs:List V}{u:Value}(h:Rel s (.lst z fl xs) u):Rel s (.lst z false xs) u:=by
 cases h with
 | lst _ _ _ A cap b off u hcap hfull hA hz0 hcell hrel=>exact .lst z false xs A cap b off u hcap (fun h=>by cases h) hA hz0 hcell hrel
theorem rel_tup2f{s:AM.St}{b:V}{z:Nat}{fl:Bool}{xs:List V}{u:Value}(h:Rel s (.tup [.lst z fl xs,b]) u):Rel s (.tup [.lst z false xs,b]) u:=by
 cases h with
 | tup _ us hl hr =>
  refine .tup _ us (by simpa using hl) (fun i v x hv hx=>?_)
  match i with
  | 0=>simp at hv;subst hv;exact rel_fl (hr 0 _ x rfl hx)
  | 1=>simp at hv;subst hv;exact hr 1 _ x rfl hx
  | i+2=>simp at hv
theorem rel_tup3f{s:AM.St}{b c:V}{z:Nat}{fl:Bool}{xs:List V}{u:Value}(h:Rel s (.tup [.lst z fl xs,b,c]) u):Rel s (.tup [.lst z false xs,b,c]) u:=by
 cases h with
 | tup _ us hl hr =>
  refine .tup _ us (by simpa using hl) (fun i v x hv hx=>?_)
  match i with
  | 0=>simp at hv;subst hv;exact rel_fl (hr 0 _ x rfl hx)
  | 1=>simp at hv;subst hv;exact hr 1 _ x rfl hx
  | 2=>simp at hv;subst hv;exact hr 2 _ x rfl hx
  | i+3=>simp at hv
noncomputable def opE(t:Tb)(cs:List Cn)(w:List Int)(lf:Int):Int:=if prE t cs w=0 then(if lf<1 then 1 else 0) else prE t cs w
noncomputable def opV(t:Tb)(cs:List Cn)(w:List Int)(lf:Int):V:=if opE t cs w lf=0 then oI false false (np t cs w) (lC t cs w) (nn t cs w) else .agg [.nilS,.int .i64 0,.nilS]
theorem min_take{I:List Int}{M:List Nat}{i:Nat}(h:i<M.length):((M.take (i+1)).map fun v=>I.getD v 0)=((M.take i).map fun v=>I.getD v 0)++[I.getD M[i] 0]:=by
 rw[pJ h,qB];rfl
theorem optimal_s(t:Tb)(cs:List Cn)(w:List Int)(lf:Int)(f g fc fw:Bool)(h:BdOk t cs)(hw:w.length≤1000000)(hlf:lf<1∨lf=10000):aE Tryz.prog 18 [aF f g t,LCn fc cs,L1 fw w,.int .i64 lf] fun r=>r = .tup [opV t cs w lf,.int .i64 (opE t cs w lf)]:=by
 have c1:=problem_u t cs w f g fc fw h hw;by_cases hz:prE t cs w=0
 case neg =>
  have he:opE t cs w lf=prE t cs w:=by unfold opE;rw[if_neg hz]
  have hv:opV t cs w lf = .agg [.nilS,.int .i64 0,.nilS]:=by unfold opV;rw[he,if_neg hz]
  rw[he,hv];rw[prV_no hz]at c1;obtain⟨e,hee⟩:∃e,e=prE t cs w:=⟨_,rfl⟩;rw[←hee]at c1 hz ⊢;simp only[aF,LS,LR,LCn,L1]at c1;refine sPx Tryz.func18 rfl rfl ?_;simp -dsimp[Tryz.f18,ou,aF,LS,LR,LCn,L1];refine cPx (c1) (by simp) ?_;simp -dsimp[hz]
 case pos =>
 obtain⟨h1,h2,h3⟩:=lX hz;have h8:=rows8 h h1;have hwl:=iA h2;have O:=opt_ok h hz;rw[prV_yes hz,hz]at c1;by_cases hl1:lf<1
 ·have he:opE t cs w lf=1:=by unfold opE;rw[if_pos hz,if_pos hl1]
  have hv:opV t cs w lf = .agg [.nilS,.int .i64 0,.nilS]:=by unfold opV;rw[he,if_neg (by decide)]
  rw[he,hv];simp only[aF,LS,LR,LCn,L1,gc,LLn]at c1;refine sPx Tryz.func18 rfl rfl ?_;simp -dsimp[Tryz.f18,ou,aF,LS,LR,LCn,L1];refine cPx (c1) (by simp) ?_;simp -dsimp[hl1]
 obtain rfl:lf=10000:=hlf.resolve_left hl1
 have he:opE t cs w 10000=0:=by unfold opE;rw[if_pos hz,if_neg (by decide)]
 have hv:opV t cs w 10000=oI false false (np t cs w) (lC t cs w) (nn t cs w):=by unfold opV;rw[if_pos he]
 rw[he,hv]
 have hpw:(2:Int)^((inW t w).length+1)-1≤10000:=by
  have h1:(2:Nat)^((inW t w).length+1)≤512:=ph (qD (by omega) (show _≤9 by omega)) (by decide);have h2:((2^((inW t w).length+1):Nat):Int)≤(512:Nat):=Int.ofNat_le.2 h1;rw[Int.natCast_pow]at h2;have h3:(((2:Nat):Int))^((inW t w).length+1)=(2:Int)^((inW t w).length+1):=rfl;omega
 have c2:aE Tryz.prog 46 [gc false false (inW t w) (inE t cs),.int .i64 10000] fun r=>r = .tup [.lst 1 false ((kp (inW t w) (inE t cs) 10000).map eN),.int .i64 (lC t cs w),.int .i64 0]:=by
  refine mb (minimum_u h3 false false (by omega) 10000 hpw (by omega) (by omega)) fun s u r hr hrel=>?_
  obtain⟨fl,rfl⟩:=hr;exact⟨_,rel_tup3f hrel,by simp[eN],rfl⟩
 have hMn:∀v∈kp (inW t w) (inE t cs) 10000,v<(inW t w).length:=by
  obtain⟨T,_,hm,_⟩:=lY h hz;rw[hm]
  exact fun v hv=>List.mem_range.1 (List.mem_filter.1 hv).1
 have hMl:(kp (inW t w) (inE t cs) 10000).length≤8:=by
  obtain⟨T,_,hm,_⟩:=lY h hz;rw[hm];exact ph (pY _ _) (by rw[sI,hwl];exact h8)
 obtain⟨lf',hp1,hp2⟩:=O.prv;have hol:=O.len;have hrg:=O.rng
 have c3:aE Tryz.prog 47 [gc false false (inW t w) (inE t cs),.int .i64 (lC t cs w),.int .i64 10000] fun r=>r = .tup [LNd false (nn t cs w),.int .i64 0]:=by
  refine mb (prove_u h3 false false (lC t cs w) 10000 _ hp1 (by omega) (by omega) (by omega) (by omega) (by simp only;omega) (by simp only;omega)) fun s u r hr hrel=>?_
  obtain⟨fl,rfl⟩:=hr;exact⟨_,rel_tup2f hrel,by simp,rfl⟩
 have hOD:np t cs w=(kp (inW t w) (inE t cs) 10000).map fun v=>(dl t.rows).getD v 0:=rfl
 rw[hOD]
 have htr:∀n,rbB n (tcB t f g):=fun n=>iK n t f g
 obtain⟨M,hM⟩:∃M,M=kp (inW t w) (inE t cs) 10000:=⟨_,rfl⟩;rw[←hM]at c2 hMn hMl ⊢;obtain⟨b,hbe⟩:∃b,b=lC t cs w:=⟨_,rfl⟩;rw[←hbe]at c2 c3 ⊢;obtain⟨N0,hN0⟩:∃N0,N0=nn t cs w:=⟨_,rfl⟩;rw[←hN0]at c3 ⊢;rw[hwl]at hMn;obtain⟨W0,hW0⟩:∃W0,W0=inW t w:=⟨_,rfl⟩;obtain⟨E,hE⟩:∃E,E=inE t cs:=⟨_,rfl⟩;rw[←hW0,←hE]at c1 c2 c3;obtain⟨R,hR⟩:∃R,R=t.rows:=⟨_,rfl⟩;rw[←hR]at hMn ⊢
 have htB:B.cells [.str t.name,.lst 1 f (t.attrs.map V.str),.lst 2 g (R.map aT)]=tcB t f g:=by rw[hR];rfl
 have hid:∀v (h:v<R.length),(dl R).getD v 0=R[v].id:=fun v hv=>by simp[dl,qZ,hv]
 simp only[aF,LS,LR,LCn,L1,gc,LLn,LNd]at c1 c2 c3;rw[←hR]at c1;refine sPx Tryz.func18 rfl rfl ?_;simp -dsimp[Tryz.f18,ou,aF,LS,LR,LCn,L1,hR.symm];refine cPx (c1) (by simp) ?_;simp -dsimp[];refine cPx c2 (by simp) ?_;simp -dsimp[];refine cPx c3 (by simp) ?_;simp -dsimp[htB];refine aR (dV 2 1 [] 3 [0] rfl (by simp) (by simp) (W_loopM 75 0x7fff800000000c60000 (by simp[mB]<;>rfl) (σ:=Nat) (fun i=>i≤M.length) (fun i=>M.length-i) (fun i=>[(59,.int .i64 i)]) (fun i=>[tcB t f g,B.cells [.nilS,.int .i64 0,.nilS],B.cells [.lst 1 false (W0.map au),.lst 1 false (E.map (Ln false))],B.cells [.buf 4 0 i i,.int .i64 b,.lst 2 false (N0.map gl)],B.buf 2 1 (((M.take i).map fun v=>(dl R).getD v 0).map au) false]) 0 (by omega) (by simp) (by simp) (by simp) ?_));intro i hi N Q hN hQ
 have hrb:∀(i:Nat) (l:List Int),∀bl∈[tcB t f g,B.cells [.nilS,.int .i64 0,.nilS],B.cells [.lst 1 false (W0.map au),.lst 1 false (E.map (Ln false))],B.cells [.buf 4 0 i i,.int .i64 b,.lst 2 false (N0.map gl)],B.buf 2 1 (l.map au) false],rbB 5 bl:=fun i l bl hbl=>by
  simp only[pD,pA,or_false]at hbl
  rcases hbl with rfl | rfl | rfl | rfl | rfl
  ·exact htr _
  ·intro c hc;simp only[pD,pA,or_false]at hc;rcases hc with rfl | rfl | rfl<;>simp[rb,rb1]
  ·exact jI (by simp[rb]) (by simp[rb])
  ·intro c hc;simp only[pD,pA,or_false]at hc;rcases hc with rfl | rfl | rfl<;>simp[rb,rb1]
  ·exact nL _ _ _ _
 have htl:((M.take i).map fun v=>(dl R).getD v 0).length=i:=by simp;omega
 by_cases hib:i<M.length
 ·have hs:=min_take (I:=dl R) hib;have hvn:=hMn _ (ow hib);obtain⟨v,hve⟩:∃v,v=M[i]:=⟨_,rfl⟩;rw[←hve]at hs hvn;rw[hid v hvn]at hs;obtain⟨x,hx⟩:∃x,x=R[v]:=⟨_,rfl⟩;rw[←hx]at hs
  obtain⟨l,hl⟩:∃l,l=(M.take i).map fun v=>(dl R).getD v 0:=⟨_,rfl⟩
  rw[←hl]at hs htl ⊢;rw[←htB];refine wx ?_;simp -dsimp[hib,hve.symm,eN];refine aR (ao tok mixed [9,11] [] [] (by kernel_rfl) fun C K hC hK=>?_);simp -implicitDefEqProofs [hib,hve.symm,eN,hvn,hx.symm,aT,LV,htl,cap8 i (by omega),eJ i (by omega)];refine hK _ _ ?_;simp -dsimp[aa i (by omega)];refine hN (i+1) _ _ (by omega) (by omega) (by simp) ⟨[],by rw[hs];simp[au,←htB]⟩ (by simp) (hrb _ _)
 ·obtain rfl:i=M.length:=by omega
  rw[pt]at htl ⊢;refine eI 4 [] 3 [0] rfl rfl (by simp) (by simp) ?_;refine wx ?_;simp -dsimp[hib];refine hQ _ _ _ ?_;simp -dsimp[];simp[oI,L1,LNd]
end
end Go.Proofs.YtjogkbekekdkjaaGreatDoor
