/- JA22: own texts of this seat, joined and shortened by pack4.py: TI. -/
import Derived.Test.YtpedcgdgjoblkaaGreatDoorJA15
set_option linter.unusedVariables false
set_option linter.unusedSimpArgs false
set_option maxRecDepth 100000
set_option maxHeartbeats 64000000
open List renaming replicate→aI,take_succ_eq_append_getElem→kY,take_length→km
namespace Go.Proofs.YtpedcgdgjoblkaaGreatDoor
section
open Go Go.AM
theorem take_ext{α:Type}{a b:List α}{i:Nat}(h:a.take i=b.take i)(h1:i<a.length)(h2:i<b.length)(e:a[i]=b[i]):a.take (i+1)=b.take (i+1):=by
 rw[kY h1,kY h2,h,e]
theorem jE(a b:List Vl)(f g:Bool)(hl:a.length≤1000000):aK Tryz.prog 61 [LV f a,LV g b] fun r=>r = .bool (decide (a=b)):=by
 by_cases h0:a.length=b.length
 ·obtain⟨E,hE⟩:∃E,E=decide (a=b):=⟨_,rfl⟩;rw[←hE];refine sPx Tryz.func61 rfl rfl ?_;simp -dsimp[Tryz.f61,aI,LV,h0];refine aO (W_loopM 26 0x3ffe030 (by simp[mB]<;>rfl) (σ:=Nat) (fun i=>i≤a.length∧a.take i=b.take i) (fun i=>a.length-i) (fun i=>[(13,.int .i64 i)]) (fun _=>[]) 0 ⟨by omega,rfl⟩ (by simp) rfl (by simp) ?_);rintro i ⟨hi,hall⟩ N Q hN hQ;by_cases hb:i<a.length
  ·have hb2:i<b.length:=by omega
   obtain⟨x,hx⟩:∃x,x=a[i]:=⟨_,rfl⟩;obtain⟨y,hy⟩:∃y,y=b[i]:=⟨_,rfl⟩
   have e1:=fun H=>eqVl9 H x y
   by_cases hq:x=y
   ·refine wx ?_;simp -dsimp[hb,hb2,hx.symm,hy.symm,aJ];refine .inr ⟨aR (by kernel_rfl),?_⟩;simp -dsimp[e1,show decide (x=y)=true by simp[hq],aX i (by omega)];refine hN (i+1) _ _ ⟨by omega,take_ext hall hb hb2 (by rw[←hx,←hy,hq])⟩ (by omega) (by simp) ⟨[],rfl⟩ (by simp) (by simp)
   ·have hno:E=false:=by
     rw[hE,decide_eq_false_iff_not];intro e;apply hq;rw[hx,hy];subst e;rfl
    refine wx ?_;simp -dsimp[hb,hb2,hx.symm,hy.symm,aJ];refine .inr ⟨aR (by kernel_rfl),?_⟩;simp -dsimp[e1,show decide (x=y)=false by simp[hq]];refine hQ _ _ _ ?_;simp -dsimp[];exact hno
  ·obtain rfl:i=a.length:=by omega
   rw[km,h0,km]at hall;rw[decide_eq_true hall]at hE;refine wx ?_;simp -dsimp[hb,h0];refine hQ _ _ _ ?_;simp -dsimp[];exact hE
 ·rw[decide_eq_false (fun e=>h0 (by rw[e]))];refine sPx Tryz.func61 rfl rfl ?_;simp -dsimp[Tryz.f61,aI,LV,show ¬((a.length:Int)=b.length) by omega]
end
end Go.Proofs.YtpedcgdgjoblkaaGreatDoor
