/- JM28: own texts of this seat, joined and shortened by pack4.py: Cvd. -/
import Derived.Test.YtdnhplencamncaaGreatDoorJM27
set_option linter.unusedVariables false
set_option linter.unusedSimpArgs false
set_option maxRecDepth 100000
set_option maxHeartbeats 64000000
open List renaming replicate→oE,getElem_mem→oI,drop_eq_getElem_cons→oK,range→oM,drop_of_length_le→oV,map_cons→oq,drop_zero→pC,foldl_cons→ri
namespace Go.Proofs.YtdnhplencamncaaGreatDoor
section
open Go Go.AM
theorem from_u(W:List (List Int))(n:Nat)(hW:WtOk n W):∀(f v u:Nat) (c:Int) (s:Sst),v+f=n→u≤v→SsOk n s→0≤c→c≤10000*(v:Int)→
  aU Tryz.prog 174 [.ptr 1 0,.int .i64 v,.int .i64 u,.int .i64 c] (SH W n s) fun r H'=>r = .tup []∧H'=SH W n (frF W n f v u c s)
 | 0,v,u,c,s,hv,hu,hs,hc,hc2=>by
  refine from_stop W n v u c s _ hW hs (by omega) ?_;rw[frF];unfold mR;split
  ·rfl
  ·rw[if_pos (by omega)];rfl
 | f+1,v,u,c,s,hv,hu,hs,hc,hc2=>by
  rw[frF]
  cases e:mR n v c s with
  | some s'=>exact from_stop W n v u c s s' hW hs (by omega) e
  | none =>
  simp only
  have hq:¬(s.best.isSome=true∧s.least≤c):=fun h=>by unfold mR at e;rw[if_pos h]at e;cases e
  clear e;have ih:=from_u W n hW f;have hn2:=hW.n2;have hWl:=hW.len
  have hvn:v<n:=by omega
  obtain⟨st,hst⟩:∃st:Sst→Nat→Sst,st=fun s x=>frF W n f (v+1) (if u<x+1 then x+1 else u) (c+moF W s.lab v (x:Int) v) ⟨s.lab.set v (x:Int),s.best,s.least⟩:=⟨_,rfl⟩
  rw[←hst];obtain⟨S,hS⟩:∃S,S=(oM (u+1)).foldl st s:=⟨_,rfl⟩;rw[←hS]
  have hsok:∀s x,SsOk n s→SsOk n (st s x):=fun s x h=>by
   rw[hst];exact frF_ok W n f _ _ _ _ ⟨by simp;exact h.lab,h.best⟩
  have wu:IntKind.i64.wrap ((u:Int)+1)=(u:Int)+1:=wrap64 (by omega) (by omega);have wv:IntKind.i64.wrap ((v:Int)+1)=((v+1:Nat):Int):=aP v (by omega)
  have hvne:¬(v:Int)=(n:Int):=by omega
  have hSH:SH W n s=SH W n s:=rfl;obtain⟨s0,hs0⟩:∃s0,s0=s:=⟨_,rfl⟩;rw[←hs0]at hS hs;rw[show SH W n s=SH W n s0 by rw[hs0]];obtain⟨lab,best,least⟩:=s;have hbest:=hs.best
  have hs0b:s0.best=best:=by rw[hs0]
  rw[hs0b]at hbest
  rcases best with _ | l
  case' some =>
   have hl:=hbest l rfl
   have hnl:¬least≤c:=fun e=>hq ⟨rfl,e⟩
   obtain⟨y,t,rfl⟩:∃x t,l=x::t:=by
    cases l with
    | nil=>simp at hl;omega
    | cons x t=>exact⟨x,t,rfl⟩
   rw[hs0];simp only[SH,bsV,L1,LLz,oq];refine aE tok Tryz.func174 rfl rfl ?_;refine wx ?_;simp -dsimp[Tryz.f174,oE,eK,eqA,hWl,hnl,hvne,wu]
  case' none =>
   rw[hs0];simp only[SH,bsV,L1,LLz];refine aE tok Tryz.func174 rfl rfl ?_;refine wx ?_;simp -dsimp[Tryz.f174,oE,eK,eqA,hWl,hvne,wu]
  all_goals
   refine aI (W_loopM 94 0x3fffffffffffe00000000700 (by simp[mB]<;>rfl) (σ:=Nat×Sst) (fun p=>p.1≤u+1∧SsOk n p.2∧((oM (u+1)).drop p.1).foldl st p.2=S) (fun p=>u+1-p.1) (fun p=>[(45,.int .i64 p.1)]) (fun p=>SH W n p.2) (0,s0) ⟨by simp,hs,by rw[pC];exact hS.symm⟩ (by simp) (by rw[hs0];simp[SH,bsV,L1,LLz]) (by intro p _;simp[SH]) ?_);rintro⟨x,s1⟩ ⟨hx,h1,hy⟩ N Q hN hQ;simp only at hx h1 hy;have w1wx:=aP x (by omega);have wx2:IntKind.i64.wrap ((x:Int)+1)=(x:Int)+1:=wrap64 (by omega) (by omega);by_cases hb:x<u+1
   ·have hb':(x:Int)<(u:Int)+1:=by omega
    have hdr:(oM (u+1)).drop x=x::(oM (u+1)).drop (x+1):=by
     rw[oK (by simpa using hb)];simp
    rw[hdr,ri]at hy;have h1':=hsok s1 x h1;obtain⟨lab1,best1,least1⟩:=s1;have hl1:=h1.lab;simp only at hl1;have hcl:=bo lab1;refine wx ?_;simp -dsimp[SH,hb',hWl];refine aI (W_loopM 75 0x7fffffe000000000600 (by simp[mB]<;>rfl) (σ:=Nat) (fun i=>i≤v) (fun i=>v-i) (fun i=>[(49,.int .i64 i),(9,.int .i64 (moF W lab1 v (x:Int) i))]) (fun i=>SH W n ⟨lab1,best1,least1⟩) 0 (by omega) (by simp[moF]) (by simp[SH]) (by simp[SH]) ?_);intro i hi N2 Q2 hN2 hQ2;have wi:=aP i (by omega);have hmo:=moF_in hW lab1 v (x:Int) i;by_cases hbi:i<v
    ·have hin:i<W.length:=by omega
     obtain⟨hr1,hr2⟩:=hW.row _ (oI hin);have hat:=hW.at_ i v
     have hgd:W.getD i []=W[i]:=by simp[hin]
     have hms:moF W lab1 v (x:Int) (i+1)=moF W lab1 v (x:Int) i+prc ((W.getD i []).getD v 0) (decide (lab1.getD i 0=(x:Int))):=rfl;obtain⟨r,hr⟩:∃r,r=W[i]:=⟨_,rfl⟩;rw[hgd,←hr]at hat hms;rw[←hr]at hr1
     have hvr:v<r.length:=by omega
     have hgr:r.getD v 0=r[v]:=by simp[hvr]
     obtain⟨w,hw⟩:∃w,w=r[v]:=⟨_,rfl⟩;rw[hgr,←hw]at hat hms
     have czg:∀h,(czL lab1)[i]'h = .int .i64 (lab1.getD i 0):=fun h=>by rw[eL];rfl
     obtain⟨d,hd⟩:∃d,d=lab1.getD i 0:=⟨_,rfl⟩;rw[←hd]at hms;simp only[←hd]at czg;have cp:=price_u w (decide (d=(x:Int))) hat;have hpi:=prc_in hat (decide (d=(x:Int)));obtain⟨m,hm⟩:∃m,m=moF W lab1 v (x:Int) i:=⟨_,rfl⟩;obtain⟨q,hqq⟩:∃q,q=prc w (decide (d=(x:Int))):=⟨_,rfl⟩;rw[←hqq]at cp hms hpi;rw[←hm]at hms hmo ⊢;have wm:IntKind.i64.wrap (m+q)=m+q:=wrap64 (by omega) (by omega)
     have hin2:i<n:=by omega
     refine wx ?_;simp -dsimp[SH,hbi,hin,hr.symm,hvr,hw.symm,czg,hcl,hl1,aQ,LLz,L1,hin2];refine .inr ⟨aS (by kernel_rfl),?_⟩;refine az _ (aT (cp) (by simp)) ?_;simp -dsimp[wm,wi];refine hN2 (i+1) _ _ (by omega) (by omega) (by simp[hms,aQ]) ⟨[],by simp[SH,LLz]⟩ (by simp[SH]) (SH_rb _ _ _ _ (by simp[SH]))
    ·obtain rfl:i=v:=by omega
     obtain⟨m,hm⟩:∃m,m=moF W lab1 i (x:Int) i:=⟨_,rfl⟩;rw[←hm]at hmo ⊢;have wcm:IntKind.i64.wrap (c+m)=c+m:=wrap64 (by omega) (by omega);have hset:=mD lab1 i (x:Int)
     have hmx:(if(u:Int)<(x:Int)+1 then(x:Int)+1 else(u:Int))=((if u<x+1 then x+1 else u:Nat):Int):=by
      by_cases hq2:u<x+1
      ·rw[if_pos hq2,if_pos (by omega)];push_cast;rfl
      ·rw[if_neg hq2,if_neg (by omega)]
     have hstx:st ⟨lab1,best1,least1⟩ x=frF W n f (i+1) (if u<x+1 then x+1 else u) (c+m) ⟨lab1.set i (x:Int),best1,least1⟩:=by rw[hst,hm]
     have hmu:(if u<x+1 then x+1 else u)≤i+1:=by split<;>omega
     obtain⟨u2,hu2⟩:∃u2,u2=(if u<x+1 then x+1 else u):=⟨_,rfl⟩;rw[←hu2]at hmx hstx hmu;have cr:=ih (i+1) u2 (c+m) ⟨lab1.set i (x:Int),best1,least1⟩ (by omega) hmu ⟨by simp;exact hl1,h1.best⟩ (by omega) (by push_cast;omega);rw[←hstx]at cr;simp only[SH]at cr;refine wx ?_;simp -dsimp[SH,hbi,hcl,hl1,hvn,hset,LLz]
     have czg2:=fun h=>eL (m:=lab1) (x:=i) h
     refine hQ2 _ _ _ ?_;simp -dsimp[hcl,hl1,hvn,hset,wv,wx2,hmx,wcm,czg2];refine bF cr ?_;rintro r H' ⟨rfl,rfl⟩;simp -dsimp[w1wx];refine hN (x+1,st ⟨lab1,best1,least1⟩ x) _ _ ⟨by simp only;omega,h1',hy⟩ (by simp only;omega) (by simp) ⟨[],by simp[SH,LLz]⟩ (by simp[SH]) (SH_rb _ _ _ _ (by simp[SH]))
   ·rw[oV (by simp;omega),List.foldl_nil]at hy;subst hy;refine wx ?_;simp -dsimp[SH,show ¬(x:Int)<(u:Int)+1 by omega];refine hQ _ _ _ ?_;simp -dsimp[];exact⟨rfl,by cases s1.best<;>rfl⟩
end
end Go.Proofs.YtdnhplencamncaaGreatDoor
