/- JG20: own texts of this seat, joined and shortened by pack4.py: Lr, Sn. -/
import Derived.Test.YtdhgchekdkjcpaaGreatDoorJG15
import Derived.Test.YtdhgchekdkjcpaaGreatDoorJG19
set_option linter.unusedVariables false
set_option linter.unusedSimpArgs false
set_option maxRecDepth 100000
set_option maxHeartbeats 64000000
open List renaming replicate→kQ,length_append→kT,getElem_mem→kW,length_cons→kZ,length_nil→kq,length_map→lG
open Nat renaming le_trans→lM,zero_le→mH
namespace Go.Proofs.YtdhgchekdkjcpaaGreatDoor
section
open Go Go.AM Go.Lib
theorem onlyC_1{c:Cert}(h:c.k=1):bC c = { aF with k:=1,w:=c.w,del:=c.del,prf:=c.prf }:=by unfold bC;rw[if_pos h]
theorem onlyC_2{c:Cert}(h:c.k=2):bC c = { aF with k:=2,cells:=c.cells,cores:=c.cores,upr:=c.upr }:=by unfold bC;rw[if_neg (by omega),if_pos h]
theorem onlyC_3{c:Cert}(h:c.k=3):bC c = { aF with k:=3,sets:=c.sets,prs:=c.prs }:=by unfold bC;rw[if_neg (by omega),if_neg (by omega),if_pos h]
theorem onlyC_4{c:Cert}(h:c.k=4):bC c = { aF with k:=4,steps:=c.steps,g:=c.g }:=by unfold bC;rw[if_neg (by omega),if_neg (by omega),if_neg (by omega),if_pos h]
theorem four{c:Cert}(h:okC c=true):c.k=1∨c.k=2∨c.k=3∨c.k=4:=by
 have:=(iJ h).1;omega
theorem fY{c:Cert}(h:okC c=true):bC (bC c)=bC c∧am (bC c)=am c∧bE (bC c)=bE c∧(bC c).k=c.k∧(bC c).t=tb0:=by
 rcases four h with hk | hk | hk | hk
 ·rw[onlyC_1 hk];exact⟨by unfold bC;rfl,by unfold am;simp[hk],by unfold bE;simp[hk],hk.symm,rfl⟩
 ·rw[onlyC_2 hk];exact⟨by unfold bC;rfl,by unfold am;simp[hk],by unfold bE;simp[hk],hk.symm,rfl⟩
 ·rw[onlyC_3 hk];exact⟨by unfold bC;rfl,by unfold am;simp[hk],by unfold bE;simp[hk],hk.symm,rfl⟩
 ·rw[onlyC_4 hk];exact⟨by unfold bC;rfl,by unfold am;simp[hk],by unfold bE;simp[hk],hk.symm,rfl⟩
theorem only_lines{c:Cert}(h:okC c=true):ak (bC c)=ak c:=by
 obtain⟨_,h1,h2,_⟩:=fY h;unfold ak;rw[h1,h2]
theorem lnT_mem:∀{ls:List (List UInt8)} {l:List UInt8},l∈ls→l.length≤(lnT ls).length
 | x::ls,l,h=>by
  rw[dZ,kT,kT]
  rcases List.mem_cons.1 h with rfl | h
  ·omega
  ·have:=lnT_mem h;omega
theorem numT_ge:∀ns:List Int,ns.length≤(du ns).length
 | []=>mH _
 | a::l=>by
  have:=numT_ge l;have e:du (a::l)=(32::itoa a)++du l:=rfl;rw[e];simp;omega
theorem jn(w:List UInt8)(ns:List Int):ns.length≤(aG w ns).length:=by
 unfold aG;rw[kT];have:=numT_ge ns;omega
structure LcB (c:Cert):Prop where
 l1:c.del.length≤100000
 l2:c.prf.length≤100000∧∀x∈c.prf,x.l.length≤100000
 l3:c.cells.length≤100000
 l4:c.cores.length≤100000∧∀x∈c.cores,x.length≤100000
 l5:c.upr.length≤100000∧∀x∈c.upr,x.l.length≤100000
 l6:c.sets.length≤100000
 l7:c.prs.length≤100000
 l8:c.steps.length≤100000∧∀x∈c.steps,x.f.length≤100000
theorem lnb0:LcB aF:=⟨by simp[aF],by simp[aF],by simp[aF],by simp[aF],by simp[aF],by simp[aF],by simp[aF],by simp[aF]⟩
theorem lines_len{c:Cert}{n:Nat}(h:(lnT (ak c)).length≤n):(am c).length+(bE c).length≤n∧(lnT (am c)).length≤n∧(lnT ((bE c).map ndL)).length≤n∧(∀l∈am c,l.length≤n)∧∀x∈bE c,(ndL x).length≤n:=by
 have h1:=lnT_ge (ak c)
 have h2:∀l∈ak c,l.length≤n:=fun l hl=>by have:=lnT_mem hl;omega
 unfold ak at h h1 h2;rw[di,di,kT,kT]at h;simp only[kT,lG,kZ,kq]at h1;rw[di,di,kT,kT]at h1;refine⟨by omega,by omega,by omega,fun l hl=>h2 l (by simp[hl]),fun x hx=>h2 _ (by simp;right;left;exact⟨x,hx,rfl⟩)⟩
theorem nd_len{x:Cnd}(h:cL x=true){n:Nat}(hl:(ndL x).length≤n):x.l.length≤n:=by
 unfold cL at h;unfold ndL at hl;by_cases hv:x.v = -1
 ·rw[if_pos hv]at hl;have:=jn bc (shN x.l);rw[fB]at this;omega
 ·simp[hv]at h;rw[h.2];simp
theorem ok_ln{c:Cert}(ok:okC c=true)(hr:okR c)(hs:(lnT (ak c)).length≤65536):LcB (bC c)∧SzC (bC c):=by
 obtain⟨a1,a2,a3,a4,a5⟩:=lines_len hs;obtain⟨e0,e1,e2,e3,_⟩:=fY ok;have hro:=(onlyC_ok ok hr).2;have hok:=(iJ ok).2
 have nd1:∀x∈bE c,x.l.length≤65536:=fun x hx=>nd_len (hok x hx) (a5 x hx)
 have hp:∀x∈bE c,inI x.v∧∀s∈x.l,inI s.e∧inI s.a:=by
  obtain⟨_,_,r3,_,_,r6,_⟩:=hr;unfold bE;split
  ·exact r3
  ·split
   ·exact r6
   ·simp
 have hnds:∀x∈bE (bC c),cndR x:=fun x hx=>by
  rw[e2]at hx;exact⟨(hp x hx).1,(hp x hx).2,by have:=nd1 x hx;omega⟩
 have hhd:(lnT (am (bC c))).length≤1000000000:=by rw[e1];omega
 have hpf:(lnT ((bE (bC c)).map ndL)).length≤1000000000:=by rw[e2];omega
 have hln:(bE (bC c)).length≤1000000:=by rw[e2];omega
 clear e1 e2 e3
 rcases four ok with hk | hk | hk | hk
 ·have ep:bE c=c.prf:=by unfold bE;rw[if_pos hk]
  have eh:(am c).length=c.del.length+1:=by unfold am;rw[if_pos hk];simp
  rw[ep]at nd1 a1;rw[onlyC_1 hk]at hro hnds hhd hpf hln ⊢;refine⟨⟨?_,⟨?_,?_⟩,?_,?_,?_,?_,?_,?_⟩,⟨hro,hhd,hpf,hnds,hln,?_,?_,?_,?_,?_,?_,?_,?_⟩⟩
  all_goals first
   | (simp[aF];done)
   | (simp only;omega)
   | exact fun x hx=>lM (nd1 x hx) (by decide)
 ·have ep:bE c=c.upr:=by unfold bE;rw[if_neg (by omega),if_pos hk]
  have eh:am c=aG dG []::((c.cells.map fun x=>aG ao (az [x]))++c.cores.map fun l=>aG al (az l)):=by unfold am;rw[if_neg (by omega),if_pos hk]
  have ehl:(am c).length=c.cells.length+c.cores.length+1:=by rw[eh];simp
  have co:∀l∈c.cores,l.length≤65536:=fun l hl=>by
   have h1:=a4 (aG al (az l)) (by rw[eh];simp;right;right;exact⟨l,hl,rfl⟩);have h2:=jn al (az l);rw[eJ]at h2;omega
  rw[ep]at nd1 a1;rw[onlyC_2 hk]at hro hnds hhd hpf hln ⊢;refine⟨⟨?_,?_,?_,⟨?_,?_⟩,⟨?_,?_⟩,?_,?_,?_⟩,⟨hro,hhd,hpf,hnds,hln,?_,?_,?_,?_,?_,?_,?_,?_⟩⟩
  all_goals first
   | (simp[aF];done)
   | (simp only;omega)
   | exact fun x hx=>lM (nd1 x hx) (by decide)
   | exact fun x hx=>lM (co x hx) (by decide)
 ·have ehl:(am c).length=c.sets.length+c.prs.length+1:=by unfold am;rw[if_neg (by omega),if_neg (by omega),if_pos hk];simp
  rw[onlyC_3 hk]at hro hnds hhd hpf hln ⊢;refine⟨⟨?_,?_,?_,?_,?_,?_,?_,?_⟩,⟨hro,hhd,hpf,hnds,hln,?_,?_,?_,?_,?_,?_,?_,?_⟩⟩
  all_goals first
   | (simp[aF];done)
   | (simp only;omega)
 ·have eh:am c=aG bD [(c.g.l:Int),(c.g.r:Int)]::c.steps.map fun s=>aG bB (stN s):=by unfold am;rw[if_neg (by omega),if_neg (by omega),if_neg (by omega),if_pos hk]
  have ehl:(am c).length=c.steps.length+1:=by rw[eh];simp
  have co:∀s∈c.steps,s.f.length≤65536:=fun s hl=>by
   have h1:=a4 (aG bB (stN s)) (by rw[eh];simp;right;exact⟨s,hl,rfl⟩);have h2:=jn bB (stN s);simp only[stN,kT]at h2 h1;omega
  rw[onlyC_4 hk]at hro hnds hhd hpf hln ⊢;refine⟨⟨?_,?_,?_,?_,?_,?_,?_,⟨?_,?_⟩⟩,⟨hro,hhd,hpf,hnds,hln,?_,?_,?_,?_,?_,?_,?_,?_⟩⟩
  all_goals first
   | (simp[aF];done)
   | (simp only;omega)
   | exact fun x hx=>lM (co x hx) (by decide)
def prC:Option Cert×Nat→Cert
 | (some c,_)=>bC c
 | (none,_)=>aF
def prE:Option Cert×Nat→Int
 | (some _,_)=>0
 | (none,_)=>2
def prV(p:Option Cert×Nat):V:=.tup [aU (prC p),.int .i64 (p.2:Nat),.int .i64 (prE p)]
theorem prC_ln(s:List UInt8)(hl:s.length≤65536):LcB (prC (bG s))∧(prC (bG s)).t=tb0:=by
 cases h:bG s with
 | mk o n =>
  cases o with
  | none=>exact⟨lnb0,rfl⟩
  | some c =>
   obtain⟨_,ok,hr,e⟩:=fe h;exact⟨(ok_ln ok hr (by rw[e];exact hl)).1,(fY ok).2.2.2.2⟩
def LeL(cs ds:List V):Prop:=cs.length=ds.length∧∀(i:Nat) c d,cs[i]?=some c→ds[i]?=some d→Le c d
theorem eT:LeL [] []:=⟨rfl,fun i c d h=>by simp at h⟩
theorem bS{c d:V}{cs ds:List V}(h:Le c d)(hs:LeL cs ds):LeL (c::cs) (d::ds):=⟨by simp[hs.1],fun i c1 d1 h1 h2=>by
 cases i with
 | zero=>simp at h1 h2;subst h1;subst h2;exact h
 | succ i=>exact hs.2 i c1 d1 (by simpa using h1) (by simpa using h2)⟩
theorem LeL.agg{cs ds:List V}(h:LeL cs ds):Le (.agg cs) (.agg ds):=.agg _ _ h.1 h.2
theorem LeL.tup{cs ds:List V}(h:LeL cs ds):Le (.tup cs) (.tup ds):=.tup _ _ h.1 h.2
theorem le_only{c:Cert}(ok:okC c=true):Le (kC c) (aU (bC c)):=by
 rcases four ok with hk | hk | hk | hk
 ·rw[encN_1 hk,onlyC_1 hk];refine LeL.agg ?_
  repeat' first | exact eT | refine bS (Le.refl _) ?_ | refine bS (Le.nil _ _) ?_
 ·rw[encN_2 hk,onlyC_2 hk];refine LeL.agg ?_
  repeat' first | exact eT | refine bS (Le.refl _) ?_ | refine bS (Le.nil _ _) ?_
 ·rw[encN_3 hk,onlyC_3 hk];refine LeL.agg ?_
  repeat' first | exact eT | refine bS (Le.refl _) ?_ | refine bS (Le.nil _ _) ?_
 ·rw[encN_4 hk,onlyC_4 hk];refine LeL.agg ?_
  repeat' first | exact eT | refine bS (Le.refl _) ?_ | refine bS (Le.nil _ _) ?_
theorem le_0:Le (aH 0 0 0 0) (aU aF):=by
 refine LeL.agg ?_
 repeat' first | exact eT | refine bS (Le.refl _) ?_ | refine bS (Le.nil _ _) ?_
theorem le_ps(s:List UInt8):Le (psV (bG s)) (prV (bG s)):=by
 cases h:bG s with
 | mk o n =>
  cases o with
  | none=>exact LeL.tup (bS le_0 (bS (.refl _) (bS (.refl _) eT)))
  | some c =>
   obtain⟨_,ok,hr,e⟩:=fe h;exact LeL.tup (bS (le_only ok) (bS (.refl _) (bS (.refl _) eT)))
theorem nodesS(l:List Cnd)(hl:l.length≤1000000)(hn:∀x∈l,x.l.length≤1000000):ab Tryz.prog 27 [aZ l,aZ l] fun r=>r = .bool true:=by
 refine sPx Tryz.func27 rfl rfl ?_;simp -dsimp[Tryz.f27,kQ,aZ];refine aS (W_loopM 71 0x7ffffffffffffff070 (by simp[mB]<;>rfl) (σ:=Nat) (fun i=>i≤l.length) (fun i=>l.length-i) (fun i=>[(5,.int .i64 i)]) (fun _=>[]) 0 (by omega) (by simp) rfl (by simp) ?_);rintro i h1 N Q hN hQ;by_cases hb:i<l.length
 ·have hx:=hn _ (kW hb);obtain⟨x,hx2⟩:∃x,x=l[i]:=⟨_,rfl⟩;have hx3:=hx2.symm;rw[hx3]at hx;refine wx ?_;simp -dsimp[aE,ag,hb,hx3];refine .inr ⟨cj (by kernel_rfl),?_⟩;refine aS (W_loopM 71 0x7ffffff00000000050 (by simp[mB]<;>rfl) (σ:=Nat) (fun k=>k≤x.l.length) (fun k=>x.l.length-k) (fun k=>[(6,.int .i64 k)]) (fun _=>[]) 0 (by omega) (by simp) rfl (by simp) ?_);rintro k h2 N2 Q2 hN2 hQ2;by_cases hb2:k<x.l.length
  ·refine wx ?_;simp -dsimp[aE,ag,aN,hb,hb2,hx3,eqCsh,aO k (by omega)];refine .inr ⟨cj (by kernel_rfl),?_⟩;refine hN2 (k+1) _ _ (by omega) (by omega) ?_ ⟨[],?_⟩ ?_ ?_<;>simp[or_imp,forall_and,L1,aD,aE,ag,aN]
  ·refine wx ?_;simp -dsimp[aE,ag,hb,hb2,hx3];refine hQ2 _ _ _ ?_;simp -dsimp[];simp -dsimp[aO i (by omega)];refine hN (i+1) _ _ (by omega) (by omega) ?_ ⟨[],?_⟩ ?_ ?_<;>simp[or_imp,forall_and,L1,aD,aE,ag]
 ·refine wx ?_;simp -dsimp[hb];refine hQ _ _ _ ?_;simp -dsimp[]
theorem stepsS(l:List Cst)(hl:l.length≤1000000)(hn:∀x∈l,x.f.length≤1000000):ab Tryz.prog 31 [.lst 4 false (l.map aL),.lst 4 false (l.map aL)] fun r=>r = .bool true:=by
 refine sPx Tryz.func31 rfl rfl ?_;simp -dsimp[Tryz.f31,kQ];refine aS (W_loopM 55 0x7ffffffffff830 (by simp[mB]<;>rfl) (σ:=Nat) (fun i=>i≤l.length) (fun i=>l.length-i) (fun i=>[(5,.int .i64 i)]) (fun _=>[]) 0 (by omega) (by simp) rfl (by simp) ?_);rintro i h1 N Q hN hQ;by_cases hb:i<l.length
 ·have hx:=hn _ (kW hb);obtain⟨x,hx2⟩:∃x,x=l[i]:=⟨_,rfl⟩;have hx3:=hx2.symm;rw[hx3]at hx;have c1:=intsS x.f hx;refine wx ?_;simp -dsimp[aL,hb,hx3,eqFd];refine .inr ⟨cj (by kernel_rfl),?_⟩;refine cy_of _ (cr (c1) (by simp)) ?_;simp -dsimp[aO i (by omega)];refine hN (i+1) _ _ (by omega) (by omega) ?_ ⟨[],?_⟩ ?_ ?_<;>simp[or_imp,forall_and,L1,aD,aL]
 ·refine wx ?_;simp -dsimp[hb];refine hQ _ _ _ ?_;simp -dsimp[]
theorem only_r(c:Cert)(ok:okC c=true):ab Tryz.prog 13 [aU c] fun r=>r=aU (bC c):=by
 refine iC (v:=kC c) ?_ (le_only ok) (encCert_pure _)
 rcases four ok with hk | hk | hk | hk
 ·rw[encN_1 hk];refine sPx Tryz.func13 rfl rfl ?_;simp -dsimp[Tryz.f13,kQ,aU,aI,aZ,aJ,hk]
 ·rw[encN_2 hk];refine sPx Tryz.func13 rfl rfl ?_;simp -dsimp[Tryz.f13,kQ,aU,aI,aZ,aJ,hk]
 ·rw[encN_3 hk];refine sPx Tryz.func13 rfl rfl ?_;simp -dsimp[Tryz.f13,kQ,aU,aI,aZ,aJ,hk];refine aS (ai tok mixed [5,7] [(2,[1]),(3,[1])] [] (by kernel_rfl) fun C K hC hK=>?_);simp -implicitDefEqProofs [];refine hK _ _ ?_;simp -dsimp[]
 ·rw[encN_4 hk];refine sPx Tryz.func13 rfl rfl ?_;simp -dsimp[Tryz.f13,kQ,aU,aI,aZ,aJ,hk];refine aS (ai tok mixed [5,7] [(2,[1]),(3,[1])] [] (by kernel_rfl) fun C K hC hK=>?_);simp -implicitDefEqProofs [];refine hK _ _ ?_;simp -dsimp[]
theorem same_r(c:Cert)(h:LcB c):ab Tryz.prog 9 [aU c,aU c] fun r=>r = .bool true:=by
 have c1:=idsS c.del (by have:=h.l1;omega);have c2:=nodesS c.prf (by have:=h.l2.1;omega) (fun x hx=>by have:=h.l2.2 x hx;omega);have c3:=cellsS c.cells (by have:=h.l3;omega);have c4:=nodesS c.upr (by have:=h.l5.1;omega) (fun x hx=>by have:=h.l5.2 x hx;omega)
 have c5:∀x∈c.cores,ab Tryz.prog 28 [aJ x,aJ x] fun r=>r = .bool true:=fun x hx=>cellsS x (by have:=h.l4.2 x hx;omega)
 have c6:=setsS c.sets (by have:=h.l6;omega);have c7:=witsS c.prs (by have:=h.l7;omega);have c8:=stepsS c.steps (by have:=h.l8.1;omega) (fun x hx=>by have:=h.l8.2 x hx;omega);have hl4:=h.l4.1;simp only[aZ,aJ]at c2 c3 c4 c5;refine sPx Tryz.func9 rfl rfl ?_;simp -dsimp[Tryz.f9,kQ,aU,aI,aZ,aJ];refine cPx (c1) (by simp) ?_;simp -dsimp[];refine cPx (c2) (by simp) ?_;simp -dsimp[];refine cPx (c3) (by simp) ?_;simp -dsimp[];refine cPx (c4) (by simp) ?_;simp -dsimp[];refine aS (W_loopM 91 0x7ffffe00000000000000030 (by simp[mB]<;>rfl) (σ:=Nat) (fun i=>i≤c.cores.length) (fun i=>c.cores.length-i) (fun i=>[(5,.int .i64 i)]) (fun _=>[B.cells (aI c),B.cells (aI c)]) 0 (by omega) (by simp) (by simp[aI,aZ,aJ]) (by simp[aI]) ?_);rintro i h1 N Q hN hQ;by_cases hb:i<c.cores.length
 ·have c5':=c5 _ (kW hb);obtain⟨x,hx2⟩:∃x,x=c.cores[i]:=⟨_,rfl⟩;have hx3:=hx2.symm;rw[hx3]at c5';refine wx ?_;simp -dsimp[aI,aZ,aJ,hb,hx3];refine .inr ⟨cj (by kernel_rfl),?_⟩;refine cy_of _ (cr (c5') (by simp)) ?_;simp -dsimp[aO i (by omega)];refine hN (i+1) _ _ (by omega) (by omega) ?_ ⟨[],?_⟩ ?_ ?_<;>simp[or_imp,forall_and,L1,aD,aI,aZ,aJ]
 ·refine wx ?_;simp -dsimp[aI,aZ,aJ,hb];refine hQ _ _ _ ?_;simp -dsimp[];refine cPx (c6) (by simp) ?_;simp -dsimp[];refine cPx (c7) (by simp) ?_;simp -dsimp[];refine cPx (c8) (by simp) ?_;simp -dsimp[eqFd]
end
end Go.Proofs.YtdhgchekdkjcpaaGreatDoor
