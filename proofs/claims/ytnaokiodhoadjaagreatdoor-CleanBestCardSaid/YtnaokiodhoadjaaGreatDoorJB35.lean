/- JB35: texts DR, DS, joined and shortened by pack6.py. -/
import Derived.Test.YtnaokiodhoadjaaGreatDoorJB26
set_option linter.all false
set_option maxRecDepth 100000
set_option maxHeartbeats 64000000
open List renaming replicate→tg,any_cons→vi
namespace Go.Proofs.YtnaokiodhoadjaaGreatDoor
section
open Go Go.AM Go.Proofs.Tryz
def tU(us bs:List Int)(f g:Bool)(hl:us.length<=1000000)(a:bs.length<=1000000):aK prog 196 [L1 f us,L1 g bs] fun r=>r = .bool (ah us bs):=by
 refine sPx func196 ?_;simp -dsimp[f196,tg];refine aI (mA [4,5,6,7,8,9,10,11,12,13,14,15,16,17,18,19,20,21,22,23,24,25,26,27,28,29,30,31,32,33,34,35] (σ:=Nat) (fun i=>i<=us.length/\i<=bs.length/\ah (us.drop i) (bs.drop i)=ah us bs) (fun i=>us.length-i) (fun i=>[(5,.int .i64 i)]) (fun _=>[]) 0 ⟨ω,ω,rfl⟩ ζ rfl ζ ?_);rintro i ⟨h1,h2,hx⟩;by_cases ha:i<us.length
 .by_cases hb:i<bs.length
  .rw[th ha,th hb,ah]at hx;by_cases hq:us[i]=bs[i]
   .rw[if_pos hq]at hx;refine wx ?_;simp -dsimp[L1,aG,ha,hb,hq,aE i ω];refine sTx ?_;refine cG ?_;refine⟨i+1,⟨ω,ω,hx⟩,ω,?_,⟨[],rfl⟩,?_,?_⟩<;>simp[L1,aG]
   .rw[if_neg hq]at hx;refine wx ?_;simp -dsimp[L1,aG,ha,hb,hq];refine sTx ?_;refine sTx ?_;exact hx
  .rw[th ha,tj (l:=bs) ω,ah]at hx;refine wx ?_;simp -dsimp[L1,ha,hb];rw[<-hx];simp;omega
 .by_cases hb:i<bs.length
  .rw[th hb,tj (l:=us) ω,ah]at hx;refine wx ?_;simp -dsimp[L1,ha,hb];rw[<-hx];simp;omega
  .rw[tj (l:=us) ω,tj (l:=bs) ω,ah]at hx;refine wx ?_;simp -dsimp[L1,ha,hb];rw[<-hx];simp;omega
def sink_last(l:List Int)(x:Int)(h:l.Pairwise (·<=·)):(fT ltZ l.length (l++[x])).Pairwise (·<=·)/\(fT ltZ l.length (l++[x])).Perm (l++[x]):=by
 have h1:=ou x l.reverse [];rw[we,List.length_reverse,uC]at h1;refine⟨by rw[h1];exact kV _ _ (by rwa [we]),gS _ _ _ ζ⟩
def asc18(rs:List Rw)(f:Bool)(hl:rs.length<=1000):aK prog 143 [LR f rs] fun r=>r=L1 false (srt (ao rs)):=by
 obtain⟨I,R⟩:=ξ (ao rs)
 have X:I.length=rs.length:=by rw[R,bg]
 rw[<-R]
 have q:∀(l:List Int),∀bl∈[B.buf 2 1 (nzL l) false],rbB 1 bl:=fun l bl hb=>by simp only[uQ]at hb;subst hb;exact(rbB_buf1 (nzL_pure l)).2 trivial
 refine sPx func143 ?_;simp -dsimp[f143,tg,LR];refine aI (bh 2 1 [3] ζ (W_loopM 55 0x7ffffffffffff8 zMx (σ:=Nat×List Int) (fun p=>p.1<=rs.length/\p.2.length=p.1/\p.2.Pairwise (·<=·)/\p.2.Perm (I.take p.1)) (fun p=>rs.length-p.1) (fun p=>[(4,.int .i64 p.1),(3,.buf 0 0 p.1 p.1)]) (fun p=>[B.buf 2 1 (nzL p.2) false]) (0,[]) ⟨ζ,rfl,List.Pairwise.nil,ζ⟩ ζ (by simp[nzL]) ζ ?_));rintro⟨i,l⟩ ⟨hi,b,hs,hp⟩ N Q T V;simp only at hi b hs hp;by_cases hb:i<rs.length
 .obtain⟨r,z⟩:=ξ (rs[i])
  have t:i<I.length:=by omega
  have L:I[i]=r.id:=by rw[z];simp[R,ao]
  have P:I.take (i+1)=I.take i++[r.id]:=by rw[tz t,L]
  obtain⟨q1,H⟩:=sink_last l r.id hs;rw[b]at q1 H;obtain⟨S,U⟩:=ξ (fT ltZ i (l++[r.id]));rw[<-U]at q1 H
  have v:S.length=i+1:=by rw[H.length_eq];simp[b]
  have w:S.Perm (I.take (i+1)):=by rw[P];exact H.trans (hp.append_right _)
  have E:=jP l
  have W:IntKind.i64.wrap (((i:Int)+1)-1)=(i:Int):=by rw[wrap64 ω ω];omega
  refine wx ?_;simp -dsimp[hb,z.symm,aF,E,b,jx i ω,W,bA i ω];refine aI (W_loopM 55 0x7fffffff800020 zMx (σ:=Nat×List Int) (fun p=>p.1<=i/\p.2.length=i+1/\fT ltZ p.1 p.2=S) (fun p=>p.1) (fun p=>[(5,.int .i64 p.1)]) (fun p=>[B.buf 2 1 (nzL p.2) false]) (i,l++[r.id]) ⟨ζ,by simp[b],U.symm⟩ ζ (by simp[nzL,aG]) ζ ?_);rintro⟨j,a⟩ ⟨Z,e,c⟩ N2 Q2 F u;simp only at Z e c F;have d:=jP a
  cases j with
  | zero =>
   rw[fT]at c;refine wx ?_;simp -dsimp;refine sTx ?_;apply u;simp -dsimp[aE i ω];refine T (i+1,a) _ _ ⟨θ,by rw[c];exact v,by rw[c];exact q1,by rw[c];exact w⟩ θ ζ ⟨[],ζ⟩ ζ (q _)
  | succ j =>
   rw[fT]at c
   have a1:=fun h=>lN (m:=a) (x:=j+1) h
   have a0:=fun h=>lN (m:=a) (x:=j) h
   have J:IntKind.i64.wrap (((j:Int)+1)-1)=(j:Int):=by rw[wrap64 ω ω];omega
   have g:IntKind.i64.wrap (j:Int)=(j:Int):=wrapZ j ω
   have o:j+1<i+1:=by omega
   have s:j<i+1:=by omega
   obtain⟨x,n⟩:=ξ (a.getD (j+1) 0);obtain⟨y,k⟩:=ξ (a.getD j 0);rw[<-n,<-k]at c;rw[<-n]at a1;rw[<-k]at a0
   have M:(nzL a)[j+1]?=some (.int .i64 x):=by rw[tm (by rw[d];omega),a1]
   have b0:(nzL a)[j]?=some (.int .i64 y):=by rw[tm (by rw[d];omega),a0]
   by_cases hq:x<y
   .rw[if_pos (by simp[ltZ,hq])]at c;refine wx ?_;simp -dsimp[d,e,o,s,a1,a0,M,b0,J,g,hq,(ω:(0:Int)<=(j:Int)+1),(ω:(0:Int)<(j:Int)+1),(ω:(j:Int)<(i:Int)),(ω:(j:Int)<(i:Int)+1),(ω:j<i+1),(ω:j<i)];refine sTx ?_
    have O:kE j a=(a.set (j+1) y).set j x:=by unfold kE;rw[<-n,<-k]
    have A:(nzL a).set (j+1) (.int .i64 y)=nzL (a.set (j+1) y):=qk a (j+1) y
    have G:(nzL (a.set (j+1) y)).set j (.int .i64 x)=nzL (kE j a):=by rw[O];exact qk _ j x
    have D:=jP (a.set (j+1) y);rw[vb]at D
    have d0:=fun h=>lN (m:=a.set (j+1) y) (x:=j) h
    refine aI (ae tok mixed [15,17] [(2,[1]),(3,[1]),(4,[1])] [] υ fun C K hC Y=>?_);simp -implicitDefEqProofs [d,e,o,s,a1,a0,M,b0,J,g,A,G,D,d0,(ω:(0:Int)<=(j:Int)+1),(ω:(j:Int)<(i:Int)),(ω:(j:Int)<(i:Int)+1),(ω:j<i+1),(ω:j<i)];apply Y;simp -dsimp[J,g];refine F (j,kE j a) _ _ ⟨θ,by rw[rM];exact e,c⟩ θ ζ ⟨[],ζ⟩ ζ (q _)
   .rw[if_neg (by simp[ltZ,hq])]at c;refine wx ?_;simp -dsimp[d,e,o,s,a1,a0,M,b0,J,g,hq,(ω:(0:Int)<=(j:Int)+1),(ω:(0:Int)<(j:Int)+1),(ω:(j:Int)<(i:Int)),(ω:(j:Int)<(i:Int)+1),(ω:j<i+1),(ω:j<i)];refine sTx ?_;apply u;simp -dsimp[aE i ω];refine T (i+1,a) _ _ ⟨θ,by rw[c];exact v,by rw[c];exact q1,by rw[c];exact w⟩ θ ζ ⟨[],ζ⟩ ζ (q _)
 .obtain rfl:i=rs.length:=by omega
  rw[uY ω]at hp;refine wx ?_;simp -dsimp[hb];apply V;simp -dsimp;rw[<-srt_eq hp hs];exact dr rfl (by simp[nzL,b]) (by simp[nzL,aG])
def nM(x y:List Int):Bool:=!ah y x&&!ah x y
def put18(b0 I:B)(h0:∀n,rbB n b0)(h1:∀n,rbB n I)(l:List (List Int))(x:List Int)(hl:l.length<=10000)(W:∀e∈l,e.length<=1000000)(v:x.length<=1000000):
  ak prog 142 [.buf 2 0 l.length l.length,L1 false x] [b0,I,.buf 58 1 (l.map (L1 false)) false] fun r H'=>r = .buf 2 0 (mV l x).length (mV l x).length/\H'=[b0,I,.buf 58 1 ((mV l x).map (L1 false)) false]:=by
 have z:∀o:List (List Int),∀bl∈[b0,I,B.buf 58 1 (o.map (L1 false)) false],rbB 3 bl:=fun o bl T=>by
  simp only[tw,tq,or_false]at T
  rcases T with rfl | rfl | rfl
  .exact h0 _
  .exact h1 _
  .exact qJ _ _ _
 obtain⟨E,hE⟩:=ξ (l.any (nM x))
 have q:E=true->mV l x=l:=fun h=>by unfold mV;rw[if_pos (by rw[<-h,hE];rfl)]
 have Y:E=false->mV l x=jR l x:=fun h=>by
  unfold mV;rw[if_neg];intro h2;have:l.any (nM x)=true:=h2;rw[<-hE,h]at this;cases this
 obtain⟨S,hS⟩:=ξ (mV l x);rw[<-hS];rw[<-hS]at q Y;refine aH tok func142 rfl rfl ?_;refine wx ?_;simp -dsimp[f142,tg,L1];refine aI (W_loopM 30 0x3fffffb0 zMx (σ:=Nat) (fun i=>(l.drop i).any (nM x)=E) (fun i=>l.length-i) (fun i=>[(5,.int .i64 i)]) (fun _=>[b0,I,B.buf 58 1 (l.map (L1 false)) false]) 0 (by rw[hE,uG]) ζ ζ ζ ?_);intro i hx N Q hN hQ;by_cases hb:i<l.length
 .rw[th hb,vi]at hx;have t:=W _ (ti hb);obtain⟨y,d⟩:=ξ (l[i]);rw[<-d]at hx t;have H:=tU y x false false t v;have O:=tU x y false false v t;simp only[L1]at H O
  cases q1:ah y x with
  | true =>
   rw[q1]at H;rw[show nM x y=false by simp[nM,q1],vP]at hx;refine wx ?_;simp -dsimp[hb,d.symm,L1];refine cPx H ?_;simp -dsimp[aE i ω,L1];refine hN (i+1) _ _ hx ω ζ ⟨[],ζ⟩ ζ (z _)
  | false =>
   rw[q1]at H
   cases Z:ah x y with
   | true =>
    rw[Z]at O;rw[show nM x y=false by simp[nM,Z],vP]at hx;refine wx ?_;simp -dsimp[hb,d.symm,L1];refine cPx H ?_;simp -dsimp[hb,d.symm,L1];refine cPx O ?_;simp -dsimp[aE i ω,L1];refine hN (i+1) _ _ hx ω ζ ⟨[],ζ⟩ ζ (z _)
   | false =>
    rw[Z]at O;rw[show nM x y=true by simp[nM,q1,Z],xz]at hx;have al:=q hx.symm;refine wx ?_;simp -dsimp[hb,d.symm,L1];refine cPx H ?_;simp -dsimp[hb,d.symm,L1];refine cPx O ?_;simp -dsimp[L1];apply hQ;simp -dsimp[L1];rw[al];exact⟨rfl,rfl⟩
 .rw[tj ω,List.any_nil]at hx;have U:=Y hx.symm;refine wx ?_;simp -dsimp[hb,L1];apply hQ;simp -dsimp[eb l.length ω,bA l.length ω,L1];refine aI (W_loopM 69 0x1fffffffe000000040 zMx (σ:=Nat) (fun k=>k<=l.length/\cN l x k=cN l x l.length) (fun k=>k) (fun k=>[(6,.int .i64 k)]) (fun k=>[b0,I,B.buf 58 1 ((bu l x k).map (L1 false)) false]) l.length ⟨ω,rfl⟩ ζ (by simp[bu,L1]) ζ ?_);rintro k ⟨u,D⟩ N3 Q3 ad L;by_cases an:k=0
  .subst an
   have g:S=bu l x 0:=by rw[U,jR,<-D];rfl
   refine wx ?_;simp -dsimp[L1];refine sTx ?_;apply L;simp -dsimp[L1];rw[g,lQ];exact⟨rfl,rfl⟩
  .have f:=lQ l x k;have s:=insAt_k l x k u ω;have p:=insAt_p l x k u ω ω;have A:=sI l x k u ω
   have M:k<(bu l x k).length:=by omega
   have X:k-1<(bu l x k).length:=by omega
   obtain⟨a,ha⟩:=ξ (eAt l (k-1));rw[<-ha]at p A;have P:a.length<=1000000:=W a (by rw[ha,dV ω];exact ti _);have R:=tU x a false false v P;obtain⟨cur,b⟩:=ξ (bu l x k);rw[<-b]at f A M X ⊢
   have s:cur[k]=x:=by subst b;exact s
   have p:cur[k-1]=a:=by subst b;exact p
   have c:cN l x k=if ah x a then cN l x (k-1) else k:=by
    obtain⟨m,rfl⟩:∃m,k=m+1:=⟨k-1,ω⟩;rw[ha];rfl
   simp only[L1]at R
   have w:cur[k]?=some x:=by rw[tm M,s]
   have j:cur[k-1]?=some a:=by rw[tm X,p]
   have F:(k:Int)<(l.length:Int)+1:=by omega
   have G:((k-1:Nat):Int)<(l.length:Int)+1:=by omega
   cases J:ah x a
   .rw[J]at R c
    have g:S=cur:=by rw[U,jR,<-D,c,b];rfl
    refine wx ?_;simp -dsimp[w,j,f,F,G,jz k ω ω,(ω:0<k),L1];refine sTx ?_;refine cQx R ?_;simp -dsimp[L1];apply L;simp -dsimp[L1];rw[g,f];exact⟨rfl,rfl⟩
   .rw[J]at R c;refine wx ?_;simp -dsimp[w,j,f,F,G,jz k ω ω,(ω:0<k),L1];refine sTx ?_;refine cQx R ?_;simp -dsimp[L1]
    have ax:((cur.map (L1 false)).set k (V.lst 1 false (a.map aG)))[k-1]?=some (V.lst 1 false (a.map aG)):=by
     rw[uH ω,uK,j];rfl
    have ay:((cur.map (L1 false)).set k (V.lst 1 false (a.map aG))).set (k-1) (V.lst 1 false (x.map aG))=(bu l x (k-1)).map (L1 false):=by
     rw[<-A];simp only[xJ,L1]
    refine aI (ae tok mixed [15,17] [(2,[1]),(3,[1]),(4,[1])] [] υ fun C K hC hK=>?_);simp -implicitDefEqProofs [w,j,f,F,G,jz k ω ω,ax,ay,L1];apply hK;simp -dsimp[jz k ω ω,L1];refine ad (k-1) _ _ ⟨ω,by rw[<-D,c];rfl⟩ ω ζ ⟨[],ζ⟩ ζ (z _)
end
end Go.Proofs.YtnaokiodhoadjaaGreatDoor
