/- JM18: own texts of this seat, joined and shortened by pack4.py: Se. -/
import Derived.Test.YtdnhplencamncaaGreatDoorJM11
import Derived.Test.YtdnhplencamncaaGreatDoorJM17
set_option linter.unusedVariables false
set_option linter.unusedSimpArgs false
set_option maxRecDepth 100000
set_option maxHeartbeats 64000000
open Bool renaming eq_iff_iff→qS
open ByteArray renaming empty→oF
open List renaming replicate→oE,range→oM,take_length→oY,take_of_length_le→pA,idxOf→rM
open Nat renaming gcd→qo,div_le_self→rn
namespace Go.Proofs.YtdnhplencamncaaGreatDoor
section
open Go Go.AM
def atA(r:Rw)(a:Int):Vl:=r.vals.getD a.toNat ⟨0,0,oF⟩
def mchI(x y:Rw)(c:Sim):Bool:=decide (0≤c.a∧c.a<x.vals.length∧c.a<y.vals.length)
def mchE(x y:Rw)(c:Sim):Int:=if mchI x y c=true then(if(aW (atA x c.a)&&(aW (atA y c.a)&&simOk c))=true then 0 else 1) else 6
def lQ(x y:Rw)(c:Sim):Bool:=decide (mchE x y c=0)&&kP (atA x c.a) (atA y c.a) c
theorem simOk_u(c:Sim):aJ Tryz.prog 233 [bD c] fun r=>r = .bool (simOk c):=by
 unfold simOk;by_cases h1:c.m=1
 ·rw[if_pos h1];refine sPx Tryz.func233 rfl rfl ?_;simp -dsimp[Tryz.f233,oE,bD,h1];rfl
 ·rw[if_neg h1];by_cases h2:c.m=2
  ·rw[if_pos (.inl h2)];by_cases h3:0≤c.l
   ·refine sPx Tryz.func233 rfl rfl ?_;simp -dsimp[Tryz.f233,oE,bD,h1,h2,h3]
   ·refine sPx Tryz.func233 rfl rfl ?_;simp -dsimp[Tryz.f233,oE,bD,h1,h2,h3]
  ·by_cases h4:c.m=4
   ·rw[if_pos (.inr h4)];by_cases h3:0≤c.l
    ·refine sPx Tryz.func233 rfl rfl ?_;simp -dsimp[Tryz.f233,oE,bD,h1,h2,h3,h4]
    ·refine sPx Tryz.func233 rfl rfl ?_;simp -dsimp[Tryz.f233,oE,bD,h1,h2,h3,h4]
   ·rw[if_neg (fun h=>h.elim h2 h4)];by_cases h5:c.m=3
    ·rw[if_pos h5];by_cases h3:0≤c.l
     ·refine sPx Tryz.func233 rfl rfl ?_;simp -dsimp[Tryz.f233,oE,bD,h1,h2,h3,h4,h5]
     ·refine sPx Tryz.func233 rfl rfl ?_;simp -dsimp[Tryz.f233,oE,bD,h1,h2,h3,h4,h5]
    ·rw[if_neg h5];refine sPx Tryz.func233 rfl rfl ?_;simp -dsimp[Tryz.f233,oE,bD,h1,h2,h4,h5]
theorem eqBs(a b:List UInt8):((bs a).toList == (bs b).toList)=decide (a=b):=by
 rw[qS,beq_iff_eq,decide_eq_true_eq,Go.ByteArray.toList_eq,Go.ByteArray.toList_eq,cQ,cQ]
theorem minT(a:List UInt8)(l:Int)(h:0≤l):∃k:Nat,(if(a.length:Int)<l then(a.length:Int) else l)=(k:Int)∧k≤a.length∧a.take k=a.take l.toNat:=by
 by_cases q:(a.length:Int)<l
 ·exact⟨a.length,by rw[if_pos q],by omega,by rw[oY,pA (by omega)]⟩
 ·exact⟨l.toNat,by rw[if_neg q];omega,by omega,rfl⟩
theorem match_u(x y:Rw)(c:Sim):aJ Tryz.prog 160 [aC x,aC y,bD c] fun r=>r = .tup [.bool (lQ x y c),.int .i64 (mchE x y c)]:=by
 unfold lQ mchE;by_cases hI:mchI x y c=true
 case neg =>
  rw[if_neg hI]
  have hI2:¬(0≤c.a∧c.a<x.vals.length∧c.a<y.vals.length):=fun h=>hI (by unfold mchI;exact decide_eq_true h)
  by_cases h1:c.a<0
  ·refine sPx Tryz.func160 rfl rfl ?_;simp -dsimp[Tryz.f160,oE,aC,bD,LV,h1]
  ·by_cases h2:(x.vals.length:Int)≤c.a
   ·refine sPx Tryz.func160 rfl rfl ?_;simp -dsimp[Tryz.f160,oE,aC,bD,LV,h1,h2]
   ·have h3:(y.vals.length:Int)≤c.a:=by omega
    refine sPx Tryz.func160 rfl rfl ?_;simp -dsimp[Tryz.f160,oE,aC,bD,LV,h1,h2,h3]
 rw[if_pos hI]
 obtain⟨i0,i1,i2⟩:0≤c.a∧c.a<x.vals.length∧c.a<y.vals.length:=by unfold mchI at hI;exact of_decide_eq_true hI
 have n0:¬c.a<0:=by omega
 have n1:¬(x.vals.length:Int)≤c.a:=by omega
 have n2:¬(y.vals.length:Int)≤c.a:=by omega
 have k1:c.a.toNat<x.vals.length:=by omega
 have k2:c.a.toNat<y.vals.length:=by omega
 obtain⟨v,hv⟩:∃v,v=atA x c.a:=⟨_,rfl⟩;obtain⟨w,hw⟩:∃w,w=atA y c.a:=⟨_,rfl⟩;rw[←hv,←hw]
 have gv:x.vals[c.a.toNat]?=some v:=by rw[hv];simp[atA,k1]
 have gw:y.vals[c.a.toNat]?=some w:=by rw[hw];simp[atA,k2]
 have ev:∀h,x.vals[c.a.toNat]'h=v:=fun h=>(List.getElem?_eq_some_iff.1 gv).2
 have ew:∀h,y.vals[c.a.toNat]'h=w:=fun h=>(List.getElem?_eq_some_iff.1 gw).2
 have c1:=cG v;have c2:=cG w;have c3:=simOk_u c;simp only[aF,bD]at c1 c2 c3;refine sPx Tryz.func160 rfl rfl ?_;simp -dsimp[Tryz.f160,oE,aC,bD,LV,n0,n1,n2]
 refine aI (W_draw2 tok mixed [12,13,14,15] [13,12,14,15] []
  [[B.cells [.int .i64 x.id,.lst 3 false (x.vals.map aF)],B.cells [.int .i64 y.id,.lst 3 false (y.vals.map aF)],B.cells [.int .i64 c.a,.int .i64 c.m,.int .i64 c.l],B.cells [.int .i64 0,.int .i64 0,.str oF]],[B.cells [.int .i64 x.id,.lst 3 false (x.vals.map aF)],B.cells [.int .i64 y.id,.lst 3 false (y.vals.map aF)],B.cells [.int .i64 c.a,.int .i64 c.m,.int .i64 c.l],B.cells [.int .i64 0,.int .i64 0,.str oF],B.cells [.int .i64 0,.int .i64 0,.str oF]],[B.cells [.int .i64 x.id,.lst 3 false (x.vals.map aF)],B.cells [.int .i64 y.id,.lst 3 false (y.vals.map aF)],B.cells [.int .i64 c.a,.int .i64 c.m,.int .i64 c.l],B.cells [.int .i64 v.k,.int .i64 v.n,.str v.s],B.cells [.int .i64 0,.int .i64 0,.str oF]],[B.cells [.int .i64 x.id,.lst 3 false (x.vals.map aF)],B.cells [.int .i64 y.id,.lst 3 false (y.vals.map aF)],B.cells [.int .i64 c.a,.int .i64 c.m,.int .i64 c.l],B.cells [.int .i64 v.k,.int .i64 v.n,.str v.s],B.cells [.int .i64 w.k,.int .i64 w.n,.str w.s]]]
  [[B.cells [.int .i64 x.id,.lst 3 false (x.vals.map aF)],B.cells [.int .i64 y.id,.lst 3 false (y.vals.map aF)],B.cells [.int .i64 c.a,.int .i64 c.m,.int .i64 c.l],B.cells [.int .i64 0,.int .i64 0,.str oF]],[B.cells [.int .i64 x.id,.lst 3 false (x.vals.map aF)],B.cells [.int .i64 y.id,.lst 3 false (y.vals.map aF)],B.cells [.int .i64 c.a,.int .i64 c.m,.int .i64 c.l],B.cells [.int .i64 0,.int .i64 0,.str oF],B.cells [.int .i64 0,.int .i64 0,.str oF]],[B.cells [.int .i64 x.id,.lst 3 false (x.vals.map aF)],B.cells [.int .i64 y.id,.lst 3 false (y.vals.map aF)],B.cells [.int .i64 c.a,.int .i64 c.m,.int .i64 c.l],B.cells [.int .i64 0,.int .i64 0,.str oF],B.cells [.int .i64 v.k,.int .i64 v.n,.str v.s]],[B.cells [.int .i64 x.id,.lst 3 false (x.vals.map aF)],B.cells [.int .i64 y.id,.lst 3 false (y.vals.map aF)],B.cells [.int .i64 c.a,.int .i64 c.m,.int .i64 c.l],B.cells [.int .i64 w.k,.int .i64 w.n,.str w.s],B.cells [.int .i64 v.k,.int .i64 v.n,.str v.s]]] (by kernel_rfl) fun K hK=>?_)
 simp -implicitDefEqProofs [n0,n1,n2,k1,k2,gv,gw,ev,ew,aF,i0,dq,(show oM 5=[0,1,2,3,4] from rfl),(show rM 12 [12,13,14,15]=0 from by decide),(show rM 13 [12,13,14,15]=1 from by decide),(show rM 14 [12,13,14,15]=2 from by decide),(show rM 15 [12,13,14,15]=3 from by decide),(show rM 13 [13,12,14,15]=0 from by decide),(show rM 12 [13,12,14,15]=1 from by decide),(show rM 14 [13,12,14,15]=2 from by decide),(show rM 15 [13,12,14,15]=3 from by decide)];obtain⟨a,ha⟩:=exB v.s;obtain⟨b,hb⟩:=exB w.s;obtain⟨E,hE⟩:∃E,E=dS v w:=⟨_,rfl⟩;have he:dS ⟨v.k,v.n,v.s⟩ ⟨w.k,w.n,w.s⟩=E:=hE.symm
 have sz:∀u:Vl,aW u=true→u.k=2→u.s.size≤200:=fun u h1 h2=>by
  simp[aW,h2]at h1;exact h1.2
 refine⟨hK _ _ ?_,hK _ _ ?_⟩
 all_goals
  simp -dsimp[];refine cPx (c1) (by simp) ?_;cases h1:aW v
  case false =>
   simp -dsimp[h1]
  simp -dsimp[h1];refine cPx (c2) (by simp) ?_;cases h2:aW w
  case false =>
   simp -dsimp[h1,h2]
  simp -dsimp[h1,h2];refine cPx (c3) (by simp) ?_;cases h3:simOk c
  case false =>
   simp -dsimp[h1,h2,h3]
  by_cases hk1:v.k=2
  case neg =>
   have hS:kP v w c=E:=by unfold kP;rw[if_pos (.inl hk1),hE]
   simp -dsimp[h1,h2,h3,hk1,hS,eqVl,he]
  by_cases hk2:w.k=2
  case neg =>
   have hS:kP v w c=E:=by unfold kP;rw[if_pos (.inr hk2),hE]
   have he2:dS ⟨2,v.n,v.s⟩ ⟨w.k,w.n,w.s⟩=E:=by rw[←hk1];exact he
   simp -dsimp[h1,h2,h3,hk1,hk2,hS,eqVl,he2]
  have la:=sz v h1 hk1;have lb:=sz w h2 hk2;rw[ha,bW]at la;rw[hb,bW]at lb
  have nn:¬(¬v.k=2∨¬w.k=2):=fun h=>h.elim (fun h=>h hk1) (fun h=>h hk2)
  simp -dsimp[h1,h2,h3,hk1,hk2];refine .inr ⟨aS (by kernel_rfl),?_⟩;simp -dsimp[ha,hb];by_cases m2:c.m=2
  case pos =>
   have hS:kP v w c=decide (((ed a b:Nat):Int)≤c.l):=by unfold kP;rw[if_neg nn,if_pos m2,ha,hb,cQ,cQ]
   have c4:=within_u a b la lb c.l;obtain⟨D,hD⟩:∃D,D=decide (((ed a b:Nat):Int)≤c.l):=⟨_,rfl⟩;rw[←hD]at hS c4;simp -dsimp[m2];refine cPx (c4) (by simp) ?_;simp -dsimp[hS]
  by_cases m3:c.m=3
  case pos =>
   have hl:0≤c.l∧c.l≤100:=by
    unfold simOk at h3;simpa[m3] using h3
   have hS:kP v w c=gramB a b c.l:=by unfold kP;rw[if_neg nn,if_neg m2,if_pos m3,ha,hb,cQ,cQ]
   have c5:=common_u a b la lb _ _ rfl rfl;obtain⟨n,hn⟩:∃n,n=2*shN (grS a) (grS b):=⟨_,rfl⟩;obtain⟨d,hd⟩:∃d,d=a.length+1+(b.length+1):=⟨_,rfl⟩;have hsl:=kQ (grS a) (grS b);have lg:=lw a;unfold gramB at hS;rw[←hn,←hd]at c5 hS;have p1:n / qo n d≤n:=rn _ _;have p2:d / qo n d≤d:=rn _ _;obtain⟨p,hp⟩:∃p,p=n / qo n d:=⟨_,rfl⟩;obtain⟨q,hq⟩:∃q,q=d / qo n d:=⟨_,rfl⟩;rw[←hp]at p1 c5 hS;rw[←hq]at p2 c5 hS;have b1:c.l*(q:Int)≤100*402:=Int.mul_le_mul hl.2 (by omega) (by omega) (by omega);have b2:0≤c.l*(q:Int):=Int.mul_nonneg hl.1 (by omega);have w1:IntKind.i64.wrap (100*(p:Int))=100*(p:Int):=wrap64 (by omega) (by omega);have w2:IntKind.i64.wrap (c.l*(q:Int))=c.l*(q:Int):=wrap64 (by omega) (by omega);simp -dsimp[m3];refine cPx (c5) (by simp) ?_;simp -dsimp[w1,w2,hS]
  by_cases m4:c.m=4
  case pos =>
   have hl:0≤c.l:=by
    unfold simOk at h3
    have:0≤c.l∧c.l≤200:=by simpa[m4] using h3
    exact this.1
   have hS:kP v w c=decide (a.take c.l.toNat=b.take c.l.toNat):=by unfold kP;rw[if_neg nn,if_neg m2,if_neg m3,if_pos m4,ha,hb,cQ,cQ]
   simp -dsimp[m4];refine .inr ⟨aS (by kernel_rfl),?_⟩;obtain⟨ka,y1,y2,y3⟩:=minT a c.l hl;obtain⟨kb,z1,z2,z3⟩:=minT b c.l hl;simp -dsimp[bW,y1,y2,z1,z2,bs_cut,y3,z3,eqBs,hS]
  have hS:kP v w c=decide (a=b):=by unfold kP;rw[if_neg nn,if_neg m2,if_neg m3,if_neg m4,ha,hb,decide_eq_decide];exact⟨bs_inj,fun h=>by rw[h]⟩
  simp -dsimp[m2,m3,m4,hS,eqBs]
end
end Go.Proofs.YtdnhplencamncaaGreatDoor
