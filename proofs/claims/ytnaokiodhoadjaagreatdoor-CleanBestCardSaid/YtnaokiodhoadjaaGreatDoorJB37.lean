/- JB37: texts BR, joined and shortened by pack6.py. -/
import Derived.Test.YtnaokiodhoadjaaGreatDoorJB36
set_option linter.all false
set_option maxRecDepth 100000
set_option maxHeartbeats 64000000
open List renaming replicate→tg,nil_append→uL
namespace Go.Proofs.YtnaokiodhoadjaaGreatDoor
section
open Go Go.AM Go.Proofs.Tryz
def sub_full(x n:Nat):decide (x &&& dy n=x)=decide (x / 2^n=0):=by
 refine decide_eq_decide.2 ⟨fun h=>?_,fun h=>?_⟩
 .refine yB ?_
  refine Nat.lt_pow_two_of_testBit x fun i hi=>?_
  rw[<-h,xr,pJ];simp;omega
 .have hx:x<2^n:=by
   have hp:0<2^n:=Nat.two_pow_pos n
   rcases uP x (2^n) with h1 | h1
   .exact h1
   .have:=Nat.div_pos h1 hp;omega
  refine Nat.eq_of_testBit_eq fun i=>?_
  rw[xr,pJ];by_cases hi:i<n
  .simp[hi]
  .have:x.testBit i=false:=vf (uT hx (uo ω ω));simp[this]
def pairs37(t:Tb)(d:Fd)(f g:Bool)(h:TbS t)(hv:validT t=0)(I:d.l<4294967296/\d.r<4294967296)(ho:dz t.attrs.length d=true):aK prog 84 [aD f g t,dY d] fun r=>r = .tup [LL false (prL (fdP d.l d.r) t.rows),.int .i64 0]:=by
 refine oQ ?_;have Y:=tbC hv;have hn:=Y.wide;have h1:=or32 d.l d.r I.1 I.2;have c1:=full02 t.attrs.length ω
 have T:d.l ||| d.r<4294967296:=wh (n:=32) I.1 I.2
 have H:=sub02 (d.l ||| d.r) (dy t.attrs.length) T (kX _ ω);rw[sub_full]at H;unfold dz at ho;rw[ho]at H
 obtain⟨o,M⟩:=ξ (d.l ||| d.r)
 rw[<-M]at h1 H;obtain⟨R,D⟩:=ξ t.rows;obtain⟨E,X⟩:=ξ (prL (fdP d.l d.r) R)
 have S:R.length<=8:=by rw[D];exact h.few
 have q:E.length<=64:=by rw[X];exact ug (fg R) (sq8 S)
 have m:∀r∈R,r.vals.length<=16:=by rw[D];exact fun r hr=>by have:=Y.len r hr;omega
 have O:∀r∈R,∀v∈r.vals,v.s.size<=maxLen:=by rw[D];exact h.sz
 rw[<-D,<-X]
 have U:∀o:List (List Int),∀bl∈[B.cells [.str t.name,.lst 1 f (t.attrs.map V.str),.lst 2 g (R.map aF)],B.cells [.int .u32 (d.l:Int),.int .u32 (d.r:Int)],B.buf 58 1 (o.map (L1 true)) false],rbB 3 bl:=fun o bl A=>by
  simp only[tw,tq,or_false]at A
  rcases A with rfl | rfl | rfl
  .intro c z;simp at z;rcases z with rfl | rfl | rfl<;>simp[rb,rb1]
  .intro c z;simp at z;rcases z with rfl | rfl<;>simp[rb,rb1]
  .exact oe _ _ _
 refine bM (aH (tkf 58) func84 rfl rfl ?_);refine W_x (tkf 58) mixed ?_;simp -dsimp[f84,tg,aD,dY,LR,LS,D.symm,h1,L1,aL];refine sTx ?_;refine cQx c1 ?_;simp -dsimp[L1,aL];refine cQx H ?_;simp -dsimp[L1,aL];refine aI (bh 58 1 [6] ζ (W_loopM 81 0x1fffffffffffffff001c0 zMx (σ:=Nat×List (List Int)) (fun p=>p.2++prL (fdP d.l d.r) (R.drop p.1)=E) (fun p=>R.length-p.1) (fun p=>[(7,.int .i64 p.1),(6,.buf 2 0 p.2.length p.2.length)]) (fun p=>[B.cells [.str t.name,.lst 1 f (t.attrs.map V.str),.lst 2 g (R.map aF)],B.cells [.int .u32 (d.l:Int),.int .u32 (d.r:Int)],B.buf 58 1 (p.2.map (L1 true)) false]) (0,[]) (by rw[X];rfl) ζ ζ ζ ?_));rintro⟨i,out⟩ hx N Q hN Z;simp only at hx;by_cases hb:i<R.length
 .rw[nU hb]at hx;have L:=m _ (ti hb);have x:=O _ (ti hb);obtain⟨r,j⟩:=ξ (R[i]);rw[<-j]at hx L x;refine W_x (tkf 58) mixed ?_;simp -dsimp[hb,aE i ω,L1,aL];refine aI (W_loopM 81 0x1ffffffffffffe0000140 zMx (σ:=Nat×List (List Int)) (fun p=>i<p.1/\p.2++((((R.drop p.1).filter (fdP d.l d.r r)).map fun s=>[r.id,s.id])++prL (fdP d.l d.r) (R.drop (i+1)))=E) (fun p=>R.length-p.1) (fun p=>[(8,.int .i64 p.1),(6,.buf 2 0 p.2.length p.2.length)]) (fun p=>[B.cells [.str t.name,.lst 1 f (t.attrs.map V.str),.lst 2 g (R.map aF)],B.cells [.int .u32 (d.l:Int),.int .u32 (d.r:Int)],B.buf 58 1 (p.2.map (L1 true)) false]) (i+1,out) ⟨ζ,hx⟩ ζ ζ ζ ?_);rintro⟨k,u⟩ ⟨W,a⟩ N2 Q2 w P;simp only at W a;by_cases b:k<R.length
  .rw[lR b]at a;have J:=m _ (ti b);obtain⟨s,e⟩:=ξ (R[k]);rw[<-e]at a J;have y:=agree03 r s (d.l:Int) ω ω x;have F:=agree03 r s (d.r:Int) ω ω x;simp only[aF,LV]at y F
   have ad:u.length<=64:=by rw[<-a]at q;simp only[uB]at q;omega
   cases q1:kx r s (d.l:Int) with
   | false =>
    rw[q1]at y;rw[if_neg (by simp[fdP,q1]),uL]at a;refine W_x (tkf 58) mixed ?_;simp -dsimp[hb,b,j.symm,e.symm,aF,LV,L1,aL];refine sTx ?_;refine cQx y ?_;simp -dsimp[aE k ω,L1,aL];refine w (k+1,u) _ _ ⟨θ,a⟩ θ ζ ⟨_,rfl⟩ ζ (by simp[L1])
   | true =>
    rw[q1]at y
    cases G:kx r s (d.r:Int) with
    | true =>
     rw[G]at F;rw[if_neg (by simp[fdP,G]),uL]at a;refine W_x (tkf 58) mixed ?_;simp -dsimp[hb,b,j.symm,e.symm,aF,LV,L1,aL];refine sTx ?_;refine cQx y ?_;simp -dsimp[hb,b,j.symm,e.symm,aF,LV,L1,aL];refine cQx F ?_;simp -dsimp[aE k ω,L1,aL];refine w (k+1,u) _ _ ⟨θ,a⟩ θ ζ ⟨_,rfl⟩ ζ (by simp[L1])
    | false =>
     rw[G]at F;rw[if_pos (by simp[fdP,q1,G])]at a;refine W_x (tkf 58) mixed ?_;simp -dsimp[hb,b,j.symm,e.symm,aF,LV,L1,aL];refine sTx ?_;refine cQx y ?_;simp -dsimp[hb,b,j.symm,e.symm,aF,LV,L1,aL];refine cQx F ?_;simp -dsimp[L1,aL];refine aI (ae (tkf 58) mixed [15] [] [] υ fun C K hC hK=>?_);simp -implicitDefEqProofs [hb,b,j.symm,e.symm,aF,LV,eb u.length ω,bA u.length ω,L1,aL];apply hK;simp -dsimp[aE k ω,L1,aL];refine w (k+1,u++[[r.id,s.id]]) _ _ ⟨θ,by rw[<-a];simp⟩ θ ζ ⟨[],by simp[aG,L1]⟩ ζ (U _)
  .rw[tj (show R.length<=k by omega)]at a;refine W_x (tkf 58) mixed ?_;simp -dsimp[b,L1,aL];apply P;simp -dsimp[aE i ω,L1,aL];refine hN (i+1,u) _ _ (by simpa using a) θ ζ ⟨_,rfl⟩ ζ (by simp[L1])
 .rw[tj (show R.length<=i by omega),prL,uC]at hx;subst hx;refine dv 2 [6] rfl ζ ?_;refine W_x (tkf 58) mixed ?_;simp -dsimp[hb,L1,aL];apply Z;simp -dsimp[LT,L1,aL]
  skip
def pairs37e(t:Tb)(d:Fd)(f g:Bool)(hn:t.attrs.length<=16)(a:d.l<4294967296/\d.r<4294967296)(ho:dz t.attrs.length d=false):aK prog 84 [aD f g t,dY d] fun r=>r = .tup [.nilS,.int .i64 1]:=by
 have h1:=or32 d.l d.r a.1 a.2;have h:=full02 t.attrs.length ω
 have e:d.l ||| d.r<4294967296:=wh (n:=32) a.1 a.2
 have b:=sub02 (d.l ||| d.r) (dy t.attrs.length) e (kX _ ω);rw[sub_full]at b;unfold dz at ho;rw[ho]at b
 obtain⟨o,c⟩:=ξ (d.l ||| d.r)
 rw[<-c]at h1 b;refine sPx func84 ?_;simp -dsimp[f84,tg,aD,dY,LR,LS,h1];refine sTx ?_;refine cQx h ?_;simp -dsimp;refine cQx b ?_;simp -dsimp
end
end Go.Proofs.YtnaokiodhoadjaaGreatDoor
