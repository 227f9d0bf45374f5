/- JB15: texts G2, SO4, BF, BG, CP, KR, S1, S2, S4, U7, T12, joined and shortened by pack6.py. -/
import Derived.Test.YtnaokiodhoadjaaGreatDoorJB14
import Derived.StillTailTactics
import Derived.Sort.Grow
import Derived.Shelf.SlSortCmp.NoneTotal
set_option linter.all false
set_option maxRecDepth 100000
set_option maxHeartbeats 64000000
open ByteArray renaming empty→tp
open List renaming replicate→tg,range→tr,length_cons→uX,any_cons→vi,getD→wU,take_zero→xO,take→xX
open Nat renaming sub_zero→xe
open Option renaming map_some→uS,getD_some→wA
namespace Go.Proofs.YtnaokiodhoadjaaGreatDoor
section
open Go Go.AM Go.Proofs.Tryz
def ixP{a:Type}(p:a->Bool)(es:List a)(i:Nat):Int:=if h:i<es.length then(if p es[i] then(i:Int) else ixP p es (i+1)) else -1
termination_by es.length-i
def qn{a:Type}(p:a->Bool)(es:List a)(i:Nat):decide (0<=ixP p es i)=(es.drop i).any p:=by
 fun_induction ixP p es i with
 | case1 i h h0=>rw[th h,vi,h0];simp
 | case2 i h h0 b=>rw[th h,vi,b];simp[h0]
 | case3 i h=>rw[tj ω];rfl
def ix_A(H:List B)(c:V)(p:At->Bool)(es:List At)(g:Bool)(f:es.length<=1000000)(h:∀bl∈H,rbB H.length bl)(b:rb H.length c)
  (hp:∀m∈es,aM prog c [aw m] H fun r H'=>r = .bool (p m)/\H'=H):ak prog 246 [LA g es,c] H fun r H'=>r = .int .i64 (ixP p es 0)/\H'=H:=by
 refine aH tok func246 rfl rfl ?_;refine wx ?_;simp -dsimp[f246,tg,LA];refine aI (W_loopM 19 0x7ff30 zMx (σ:=Nat) (fun i=>ixP p es i=ixP p es 0) (fun i=>es.length-i) (fun i=>[(8,.int .i64 i)]) (fun _=>H) 0 rfl ζ rfl ζ ?_);intro i hx N Q e d;by_cases hb:i<es.length
 .rw[ixP,dif_pos hb]at hx;have a:=hp es[i] (ti hb);cases hq:p es[i]
  .rw[hq]at a hx;refine wx ?_;simp -dsimp[hb];refine a.mono ?_;rintro r H' ⟨rfl,rfl⟩;simp -dsimp[aE i ω];refine e (i+1) _ _ (by simpa using hx) ω ζ ⟨[],ζ⟩ (by simp;exact b) h
  .rw[hq]at a hx;refine wx ?_;simp -dsimp[hb];refine a.mono ?_;rintro r H' ⟨rfl,rfl⟩;simp -dsimp;apply d;simp -dsimp;simpa using hx
 .rw[ixP,dif_neg hb]at hx;refine wx ?_;simp -dsimp[hb];apply d;simp -dsimp;simpa using hx
def cont_A(H:List B)(a:V)(p:At->Bool)(es:List At)(g:Bool)(c:es.length<=1000000)(e:∀bl∈H,rbB H.length bl)(b:rb H.length a)
  (hp:∀m∈es,aM prog a [aw m] H fun r H'=>r = .bool (p m)/\H'=H):ak prog 200 [LA g es,a] H fun r H'=>r = .bool (es.any p)/\H'=H:=by
 have h0:=qn p es 0;rw[uG]at h0;have d:=ix_A H a p es g c e b hp;refine aH tok func200 rfl rfl ?_;refine wx ?_;simp -dsimp[f200,tg];refine aM.mono (K:=fun r H'=>r = .int .i64 (ixP p es 0)/\H'=H) d ?_;rintro r H' ⟨rfl,rfl⟩;simp -dsimp;rw[<-h0]
def ix_L(H:List B)(c:V)(p:Cl->Bool)(es:List Cl)(g:Bool)(f:es.length<=1000000)(h:∀bl∈H,rbB H.length bl)(b:rb H.length c)
  (hp:∀m∈es,aM prog c [av m] H fun r H'=>r = .bool (p m)/\H'=H):ak prog 247 [LCl g es,c] H fun r H'=>r = .int .i64 (ixP p es 0)/\H'=H:=by
 refine aH tok func247 rfl rfl ?_;refine wx ?_;simp -dsimp[f247,tg,LCl];refine aI (W_loopM 19 0x7ff30 zMx (σ:=Nat) (fun i=>ixP p es i=ixP p es 0) (fun i=>es.length-i) (fun i=>[(8,.int .i64 i)]) (fun _=>H) 0 rfl ζ rfl ζ ?_);intro i hx N Q e d;by_cases hb:i<es.length
 .rw[ixP,dif_pos hb]at hx;have a:=hp es[i] (ti hb);cases hq:p es[i]
  .rw[hq]at a hx;refine wx ?_;simp -dsimp[hb];refine a.mono ?_;rintro r H' ⟨rfl,rfl⟩;simp -dsimp[aE i ω];refine e (i+1) _ _ (by simpa using hx) ω ζ ⟨[],ζ⟩ (by simp;exact b) h
  .rw[hq]at a hx;refine wx ?_;simp -dsimp[hb];refine a.mono ?_;rintro r H' ⟨rfl,rfl⟩;simp -dsimp;apply d;simp -dsimp;simpa using hx
 .rw[ixP,dif_neg hb]at hx;refine wx ?_;simp -dsimp[hb];apply d;simp -dsimp;simpa using hx
def cont_L(H:List B)(a:V)(p:Cl->Bool)(es:List Cl)(g:Bool)(c:es.length<=1000000)(e:∀bl∈H,rbB H.length bl)(b:rb H.length a)
  (hp:∀m∈es,aM prog a [av m] H fun r H'=>r = .bool (p m)/\H'=H):ak prog 203 [LCl g es,a] H fun r H'=>r = .bool (es.any p)/\H'=H:=by
 have h0:=qn p es 0;rw[uG]at h0;have d:=ix_L H a p es g c e b hp;refine aH tok func203 rfl rfl ?_;refine wx ?_;simp -dsimp[f203,tg];refine aM.mono (K:=fun r H'=>r = .int .i64 (ixP p es 0)/\H'=H) d ?_;rintro r H' ⟨rfl,rfl⟩;simp -dsimp;rw[<-h0]
def ix_I(H:List B)(c:V)(p:Int->Bool)(es:List Int)(g:Bool)(f:es.length<=1100000)(h:∀bl∈H,rbB H.length bl)(b:rb H.length c)
  (hp:∀m∈es,aM prog c [V.int .i64 m] H fun r H'=>r = .bool (p m)/\H'=H):ak prog 164 [L1 g es,c] H fun r H'=>r = .int .i64 (ixP p es 0)/\H'=H:=by
 refine aH tok func164 rfl rfl ?_;refine wx ?_;simp -dsimp[f164,tg,L1];refine aI (W_loopM 19 0x7ff30 zMx (σ:=Nat) (fun i=>ixP p es i=ixP p es 0) (fun i=>es.length-i) (fun i=>[(8,.int .i64 i)]) (fun _=>H) 0 rfl ζ rfl ζ ?_);intro i hx N Q e d;by_cases hb:i<es.length
 .rw[ixP,dif_pos hb]at hx;have a:=hp es[i] (ti hb);cases hq:p es[i]
  .rw[hq]at a hx;refine wx ?_;simp -dsimp[hb,aG];refine a.mono ?_;rintro r H' ⟨rfl,rfl⟩;simp -dsimp[aE i ω];refine e (i+1) _ _ (by simpa using hx) ω ζ ⟨[],ζ⟩ (by simp;exact b) h
  .rw[hq]at a hx;refine wx ?_;simp -dsimp[hb,aG];refine a.mono ?_;rintro r H' ⟨rfl,rfl⟩;simp -dsimp;apply d;simp -dsimp;simpa using hx
 .rw[ixP,dif_neg hb]at hx;refine wx ?_;simp -dsimp[hb];apply d;simp -dsimp;simpa using hx
def cont_I(H:List B)(a:V)(p:Int->Bool)(es:List Int)(g:Bool)(c:es.length<=1100000)(e:∀bl∈H,rbB H.length bl)(b:rb H.length a)
  (hp:∀m∈es,aM prog a [V.int .i64 m] H fun r H'=>r = .bool (p m)/\H'=H):ak prog 103 [L1 g es,a] H fun r H'=>r = .bool (es.any p)/\H'=H:=by
 have h0:=qn p es 0;rw[uG]at h0;have d:=ix_I H a p es g c e b hp;refine aH tok func103 rfl rfl ?_;refine wx ?_;simp -dsimp[f103,tg];refine aM.mono (K:=fun r H'=>r = .int .i64 (ixP p es 0)/\H'=H) d ?_;rintro r H' ⟨rfl,rfl⟩;simp -dsimp;rw[<-h0]
def ix_R(H:List B)(c:V)(p:Rw->Bool)(es:List Rw)(g:Bool)(f:es.length<=1000000)(h:∀bl∈H,rbB H.length bl)(b:rb H.length c)
  (hp:∀m∈es,aM prog c [aF m] H fun r H'=>r = .bool (p m)/\H'=H):ak prog 52 [LR g es,c] H fun r H'=>r = .int .i64 (ixP p es 0)/\H'=H:=by
 refine aH tok func52 rfl rfl ?_;refine wx ?_;simp -dsimp[f52,tg,LR];refine aI (W_loopM 19 0x7ff30 zMx (σ:=Nat) (fun i=>ixP p es i=ixP p es 0) (fun i=>es.length-i) (fun i=>[(8,.int .i64 i)]) (fun _=>H) 0 rfl ζ rfl ζ ?_);intro i hx N Q e d;by_cases hb:i<es.length
 .rw[ixP,dif_pos hb]at hx;have a:=hp es[i] (ti hb);cases hq:p es[i]
  .rw[hq]at a hx;refine wx ?_;simp -dsimp[hb];refine a.mono ?_;rintro r H' ⟨rfl,rfl⟩;simp -dsimp[aE i ω];refine e (i+1) _ _ (by simpa using hx) ω ζ ⟨[],ζ⟩ (by simp;exact b) h
  .rw[hq]at a hx;refine wx ?_;simp -dsimp[hb];refine a.mono ?_;rintro r H' ⟨rfl,rfl⟩;simp -dsimp;apply d;simp -dsimp;simpa using hx
 .rw[ixP,dif_neg hb]at hx;refine wx ?_;simp -dsimp[hb];apply d;simp -dsimp;simpa using hx
def cont_R(H:List B)(a:V)(p:Rw->Bool)(es:List Rw)(g:Bool)(c:es.length<=1000000)(e:∀bl∈H,rbB H.length bl)(b:rb H.length a)
  (hp:∀m∈es,aM prog a [aF m] H fun r H'=>r = .bool (p m)/\H'=H):ak prog 252 [LR g es,a] H fun r H'=>r = .bool (es.any p)/\H'=H:=by
 have h0:=qn p es 0;rw[uG]at h0;have d:=ix_R H a p es g c e b hp;refine aH tok func252 rfl rfl ?_;refine wx ?_;simp -dsimp[f252,tg];refine aM.mono (K:=fun r H'=>r = .int .i64 (ixP p es 0)/\H'=H) d ?_;rintro r H' ⟨rfl,rfl⟩;simp -dsimp;rw[<-h0]
section
def getZ{a:Type}(l:List a){i:Nat}(d:a)(h:i<l.length):l.getD i d=l[i]:=by simp[wU,h]
def rbsZ{H:List B}{k:Nat}{b:B}(a:∀bl∈H,rbB H.length bl)(hb:rbB H.length b):∀bl∈H.set k b,rbB (H.set k b).length bl:=fun bl h=>by
 rw[vb]
 rcases vj h with h | rfl
 .exact a bl h
 .exact hb
def wcZ{P:Program}{f:FuncId}{args:List V}{H:List B}{K K':V->List B->Prop}(h:ak P f args H K)(hk:∀r H',K r H'->K' r H'):aM P (.fn f []) args H K':=by
 simp only[aM,uC];exact h.mono hk
def wrapZ(n:Nat)(h:n<9223372036854775807):IntKind.i64.wrap (n:Int)=n:=wrap64 ω ω
def nzL(m:List Int):List V:=m.map aG
def jP(m:List Int):(nzL m).length=m.length:=by simp[nzL]
def lN{m:List Int}{x:Nat}(h:x<(nzL m).length):(nzL m)[x] = .int .i64 (m.getD x 0):=by
 have h2:x<m.length:=by rw[<-jP];exact h
 simp[nzL,aG,h2]
def qk(m:List Int)(x:Nat)(v:Int):(nzL m).set x (.int .i64 v)=nzL (m.set x v):=by
 unfold nzL;rw[xJ];rfl
def nzL_pure(m:List Int):∀x∈nzL m,AM.Pure x/\cC x=true:=by simp[nzL,aG,cC]
def kE(j:Nat)(l:List Int):List Int:=(l.set (j+1) (l.getD j 0)).set j (l.getD (j+1) 0)
def fT(lt:Int->Int->Bool):Nat->List Int->List Int
 | 0,l=>l
 | j+1,l=>if lt (l.getD (j+1) 0) (l.getD j 0)=true then fT lt j (kE j l) else l
def isZ(lt:Int->Int->Bool):Nat->Nat->List Int->List Int
 | 0,_,l=>l
 | r+1,i,l=>isZ lt r (i+1) (fT lt i l)
def rM(j:Nat)(l:List Int):(kE j l).length=l.length:=by simp[kE]
def swpZ_perm(j:Nat)(l:List Int)(h:j+1<l.length):(kE j l).Perm l:=by
 unfold kE;rw[getZ l 0 h,getZ l 0 (show j<l.length by omega)];exact List.set_set_perm h ω
theorem gS(lt:Int->Int->Bool):∀(j:Nat) (l:List Int),j<l.length->(fT lt j l).Perm l
 | 0,l,_=>.refl _
 | j+1,l,h=>by
  rw[fT];split
  .exact(gS lt j (kE j l) (by rw[rM];omega)).trans (swpZ_perm j l h)
  .exact .refl _
theorem isZ_perm(lt:Int->Int->Bool):∀(r i:Nat) (l:List Int),i+r<=l.length->(isZ lt r i l).Perm l
 | 0,_,l,_=>.refl _
 | r+1,i,l,h=>by
  rw[isZ];have h1:=gS lt i l ω;exact(isZ_perm lt r (i+1) _ (by rw[h1.length_eq];omega)).trans h1
def inzZ(x:Int):List Int->List Int
 | []=>[x]
 | y::rp=>if x<y then inzZ x rp++[y] else rp.reverse++[y,x]
def ltZ(a b:Int):Bool:=decide (a<b)
theorem ou(x:Int):∀(a post:List Int),fT ltZ a.length (a.reverse++x::post)=inzZ x a++post
 | [],post=>rfl
 | y::a,post=>by
  have e:(y::a).reverse++x::post=a.reverse++y::x::post:=by simp
  rw[e,uX,fT,inzZ]
  have c:(a.reverse++y::x::post).getD (a.length+1) 0=x:=by
   simp[wU,uD]
  have b:(a.reverse++y::x::post).getD a.length 0=y:=by
   simp[wU,uD]
  have d:kE a.length (a.reverse++y::x::post)=a.reverse++x::y::post:=by
   unfold kE;rw[c,b,uq _ _ ζ,uq _ _ ζ];simp
  rw[c,b,d];by_cases h:x<y
  .rw[if_pos (by simp[ltZ,h]),if_pos h,ou x a (y::post)];simp
  .rw[if_neg (by simp[ltZ,h]),if_neg h];simp
theorem inzZ_mem(x:Int):∀(a:List Int) (z:Int),z∈inzZ x a↔z=x\/z∈a
 | [],z=>by simp[inzZ]
 | y::a,z=>by
  rw[inzZ];split
  .rw[vG,uQ,tw,inzZ_mem x a z];constructor
   .rintro((h | h) | h)
    .exact .inl h
    .exact .inr (.inr h)
    .exact .inr (.inl h)
   .rintro(h | h | h)
    .exact .inl (.inl h)
    .exact .inr h
    .exact .inl (.inr h)
  .simp only[vG,List.mem_reverse,tw,tq,or_false];constructor
   .rintro(h | h | h)<;>simp[h]
   .rintro(h | h | h)<;>simp[h]
theorem kV(x:Int):∀c:List Int,c.reverse.Pairwise (·<=·)->(inzZ x c).Pairwise (·<=·)
 | [],_=>by simp[inzZ]
 | y::c,h=>by
  rw[List.reverse_cons,vw]at h;obtain⟨h1,_,d⟩:=h;rw[inzZ];split
  .rename_i hx;rw[vw];refine⟨kV x c h1,ζ,fun a ha b hb=>?_⟩;rw[uQ]at hb;subst hb
   rcases(inzZ_mem x c a).1 ha with rfl | ha
   .omega
   .exact d a (by simpa using ha) b ζ
  .rename_i hx;rw[vw];refine⟨h1,χ,fun a ha b hb=>?_⟩;have:=d a ha y ζ;simp at hb
   rcases hb with rfl | rfl<;>omega
theorem sE:∀(r i:Nat) (l:List Int),i+r=l.length->(l.take i).Pairwise (·<=·)->(isZ ltZ r i l).Pairwise (·<=·)
 | 0,i,l,h,hs=>by
  rw[isZ]
  rwa [uY ω]at hs
 | r+1,i,l,h,hs=>by
  rw[isZ]
  have hi:i<l.length:=by omega
  have e:l=(l.take i).reverse.reverse++l[i]::l.drop (i+1):=by
   rw[we,<-th hi,vT]
  have hl:(l.take i).reverse.length=i:=by simp;omega
  have hk:=ou l[i] (l.take i).reverse (l.drop (i+1));rw[hl,<-e]at hk
  have a:(inzZ l[i] (l.take i).reverse).length=i+1:=by
   have h1:=(gS ltZ i l hi).length_eq;rw[hk,uB,xP]at h1;omega
  refine sE r (i+1) _ (by rw[(gS ltZ i l hi).length_eq];omega) ?_;rw[hk,xt a];exact kV _ _ (by rwa [we])
section
variable {H:List B} {k:Nat}
def SZ(H:List B)(k:Nat)(l:List Int):List B:=H.set k (.buf 2 1 (nzL l) false)
def SZ_at{H:List B}{k:Nat}(h:k<H.length)(l:List Int):(SZ H k l)[k]?=some (.buf 2 1 (nzL l) false):=by
 unfold SZ;rw[uJ h]
def SZ_set(H:List B)(k:Nat)(l a:List Int):(SZ H k l).set k (.buf 2 1 (nzL a) false)=SZ H k a:=by
 unfold SZ;rw[vq]
def tY(H:List B)(k:Nat)(l:List Int):(SZ H k l).length=H.length:=by simp[SZ]
def SZ_rb{H:List B}(a:∀bl∈H,rbB H.length bl)(k:Nat)(l:List Int):∀bl∈SZ H k l,rbB (SZ H k l).length bl:=rbsZ a ((rbB_buf1 (nzL_pure l)).2 trivial)
def nan_Z(x:Int):aK prog 162 [.int .i64 x] fun r=>r = .bool false:=by
 refine sPx func162 ?_;simp -dsimp[f162,tg]
def less_Z(a b:Int):aK prog 99 [.int .i64 a,.int .i64 b] fun r=>r = .bool (ltZ a b):=by
 unfold ltZ;by_cases h:a<b
 .rw[decide_eq_true h];refine sPx func99 ?_;simp -dsimp[f99,tg];refine cPx (nan_Z a) ?_;simp -dsimp[h]
 .rw[decide_eq_false h];refine sPx func99 ?_;simp -dsimp[f99,tg];refine cPx (nan_Z a) ?_;simp -dsimp[h]
def insOrdZ_h(hk:k<H.length)(I:∀bl∈H,rbB H.length bl)(l:List Int)(n:Nat)(hn:l.length=n)(R:n<=1000000):
  ak prog 271 [.buf k 0 n n,.int .i64 0,.int .i64 n] (SZ H k l) fun _ H'=>H'=SZ H k (isZ ltZ (n-1) 1 l):=by
 obtain⟨S,L⟩:=ξ (isZ ltZ (n-1) 1 l);rw[<-L];have O:IntKind.i64.wrap (1:Int)=1:=wrap64 ω ω;refine aH tok func271 rfl rfl ?_;refine wx ?_;simp -dsimp[f271,tg,O];refine aI (W_loopM 49 0x1fffffffffcc0 zMx (σ:=Nat×List Int) (fun p=>1<=p.1/\p.1<=n+1/\p.2.length=n/\isZ ltZ (n-p.1) p.1 p.2=S) (fun p=>n+1-p.1) (fun p=>[(6,.int .i64 p.1)]) (fun p=>SZ H k p.2) (1,l) ⟨ζ,ζ,hn,L.symm⟩ ζ ζ (by simp[tY]) ?_);rintro⟨i,J⟩ ⟨hi,G,s,hx⟩ N Q A M;simp only at hi G s hx A;by_cases hb:i<n
 .rw[(ω:n-i=(n-(i+1))+1),isZ]at hx;refine wx ?_;simp -dsimp[hb];refine aI (W_loopM 49 0x1ffffffff0080 zMx (σ:=Nat×List Int) (fun p=>p.1<=i/\p.2.length=n/\fT ltZ p.1 p.2=fT ltZ i J) (fun p=>p.1) (fun p=>[(7,.int .i64 p.1)]) (fun p=>SZ H k p.2) (i,J) ⟨ζ,s,rfl⟩ ζ ζ (by simp[tY]) ?_);rintro⟨j,a⟩ ⟨T,b,c⟩ X W v r;simp only at T b c v;have B:=SZ_at hk a;have f:=jP a
  cases j with
  | zero =>
   rw[fT]at c;refine wx ?_;simp -dsimp;refine sTx ?_;apply r;simp -dsimp[aE i ω];refine A (i+1,a) _ _ ⟨θ,θ,b,by rw[c];exact hx⟩ θ ζ ⟨[],ζ⟩ (by simp[tY];exact hk) (SZ_rb I k a)
  | succ j =>
   rw[fT]at c
   have a1:=fun h=>lN (m:=a) (x:=j+1) h
   have a0:=fun h=>lN (m:=a) (x:=j) h
   have z:IntKind.i64.wrap (((j:Int)+1)-1)=(j:Int):=by rw[wrap64 ω ω];omega
   have d:IntKind.i64.wrap (j:Int)=(j:Int):=wrapZ j ω
   have o:j+1<n:=by omega
   have q:j<n:=by omega
   obtain⟨x,g⟩:=ξ (a.getD (j+1) 0);obtain⟨y,e⟩:=ξ (a.getD j 0);rw[<-g,<-e]at c;rw[<-g]at a1;rw[<-e]at a0;have cl:=less_Z x y
   cases hq:ltZ x y with
   | true =>
    rw[hq]at cl;rw[if_pos hq]at c;refine wx ?_;simp -dsimp[B,f,b,o,q,a1,a0,z,d,(ω:(0:Int)<=(j:Int)+1),(ω:(j:Int)+1<(n:Int))];refine sTx ?_;refine cQx cl ?_;simp -dsimp
    have F:kE j a=(a.set (j+1) y).set j x:=by unfold kE;rw[<-g,<-e]
    have t:(nzL a).set (j+1) (.int .i64 y)=nzL (a.set (j+1) y):=qk a (j+1) y
    have w:(nzL (a.set (j+1) y)).set j (.int .i64 x)=nzL (kE j a):=by rw[F];exact qk _ j x
    have U:=SZ_at hk (a.set (j+1) y);have E:=SZ_set H k a (a.set (j+1) y);have D:=SZ_set H k (a.set (j+1) y) (kE j a);have u:=jP (a.set (j+1) y);rw[vb]at u
    have b0:=fun h=>lN (m:=a.set (j+1) y) (x:=j) h
    refine aI (ae tok mixed [15,17] [(2,[1]),(3,[1]),(4,[1])] [] υ fun C K V P=>?_);simp -implicitDefEqProofs [B,f,b,o,q,a1,a0,z,d,t,w,U,E,D,u,b0,(ω:(0:Int)<=(j:Int)+1),(ω:(j:Int)+1<(n:Int))];apply P;simp -dsimp[z,d];refine v (j,kE j a) _ _ ⟨θ,by rw[rM];exact b,c⟩ θ ζ ⟨[],ζ⟩ (by simp[tY];exact hk) (SZ_rb I k _)
   | false =>
    rw[hq]at cl;rw[if_neg (by rw[hq];simp)]at c;refine wx ?_;simp -dsimp[B,f,b,o,q,a1,a0,z,d,(ω:(0:Int)<=(j:Int)+1),(ω:(j:Int)+1<(n:Int))];refine sTx ?_;refine cQx cl ?_;simp -dsimp;apply r;simp -dsimp[aE i ω];refine A (i+1,a) _ _ ⟨θ,θ,b,by rw[c];exact hx⟩ θ ζ ⟨[],ζ⟩ (by simp[tY];exact hk) (SZ_rb I k a)
 .rw[(ω:n-i=0),isZ]at hx;subst hx;refine wx ?_;simp -dsimp[hb];apply M;simp -dsimp
end
def bitsLenZ(n:Nat)(h:n<=12):∃v:Int,aK prog 79 [.int .u64 (n:Int)] fun r=>r = .int .i64 v :=
 match n,h with
 | 0,_=>⟨0,aC tok mixed aT bX (fuel:=1000) (d:=40) υ ζ⟩
 | 1,_=>⟨1,aC tok mixed aT bX (fuel:=1000) (d:=40) υ ζ⟩
 | 2,_=>⟨2,aC tok mixed aT bX (fuel:=1000) (d:=40) υ ζ⟩
 | 3,_=>⟨2,aC tok mixed aT bX (fuel:=1000) (d:=40) υ ζ⟩
 | 4,_=>⟨3,aC tok mixed aT bX (fuel:=1000) (d:=40) υ ζ⟩
 | 5,_=>⟨3,aC tok mixed aT bX (fuel:=1000) (d:=40) υ ζ⟩
 | 6,_=>⟨3,aC tok mixed aT bX (fuel:=1000) (d:=40) υ ζ⟩
 | 7,_=>⟨3,aC tok mixed aT bX (fuel:=1000) (d:=40) υ ζ⟩
 | 8,_=>⟨4,aC tok mixed aT bX (fuel:=1000) (d:=40) υ ζ⟩
 | 9,_=>⟨4,aC tok mixed aT bX (fuel:=1000) (d:=40) υ ζ⟩
 | 10,_=>⟨4,aC tok mixed aT bX (fuel:=1000) (d:=40) υ ζ⟩
 | 11,_=>⟨4,aC tok mixed aT bX (fuel:=1000) (d:=40) υ ζ⟩
 | 12,_=>⟨4,aC tok mixed aT bX (fuel:=1000) (d:=40) υ ζ⟩
 | n+13,h=>by omega
section
variable {H:List B} {k:Nat}
def sortZ_h(hk:k<H.length)(f:∀bl∈H,rbB H.length bl)(l:List Int)(n:Nat)(hn:l.length=n)(a:n<=12):
  ak prog 216 [.buf k 0 n n] (SZ H k l) fun _ H'=>H'=SZ H k (isZ ltZ (n-1) 1 l):=by
 obtain⟨v,hv⟩:=bitsLenZ n a;have d:=insOrdZ_h hk f l n hn ω
 have g:ak prog 255 [.buf k 0 n n,.int .i64 0,.int .i64 n,.int .i64 v] (SZ H k l) fun _ H'=>H'=SZ H k (isZ ltZ (n-1) 1 l):=by
  have w0:IntKind.i64.wrap (n:Int)=n:=wrapZ n ω;refine aH tok func255 rfl rfl ?_;refine wx ?_;simp -dsimp[f255,tg];refine aI (W_loopM 134 0x3fffffffffffffffffffffffffffffff0e zMx (σ:=Nat) (fun p=>p=0) (fun p=>0) (fun _=>[(8,.bool true),(9,.bool true),(1,.int .i64 0),(2,.int .i64 n),(3,.int .i64 v)]) (fun _=>SZ H k l) 0 rfl ζ ζ ζ ?_);rintro p rfl N Q i c;refine wx ?_;simp -dsimp[w0,(ω:(n:Int)<=12),(ω:n<=12)];refine wcZ d ?_;rintro _ _ rfl;simp -dsimp;apply c;simp -dsimp
 have h:IntKind.u64.wrap (n:Int)=(n:Int):=by rw[IntKind.wrap_u64];omega
 have e:=SZ_at hk l;have b:=jP l;refine aH tok func216 rfl rfl ?_;refine wx ?_;simp -dsimp[f216,tg,e,b,hn,h];refine cPx hv ?_;simp -dsimp;refine wcZ g ?_;rintro _ _ rfl;simp -dsimp
end
end
end
section
open Go Go.AM Go.RowKit Go.Proofs.Tryz
def tz_low{x t:Nat}(h0:0<x)(hx:x<4294967296)(ht:t<32)(h:x &&& (4294967296-x)=2^t):tzI x=t:=by
 have h1:(-(x:Int)) % 4294967296=((4294967296-x:Nat):Int):=by omega
 have h2:bits BinOp.and IntKind.u32 (x:Int) (-(x:Int) % 4294967296)=((2^t:Nat):Int):=by
  rw[h1,(bits_nat IntKind.u32 32 (by decide) (fun n h1 h2=>by rw[IntKind.wrap_u32];omega) x (4294967296-x) ω ω).1,h]
 have key:∀t:Fin 32,(fu[(((2^t.1:Nat):Int)*125613361 % 4294967296 / 134217728).toNat]?).getD 0=(t.1:Int):=by decide
 unfold tzI;rw[if_neg ω];unfold tzIx;rw[h2];exact key ⟨t,ht⟩
def inN(l:List Nat):List Int:=l.map fun n:Nat=>(n:Int)
def eT(l:List Nat):(inN l).length=l.length:=by simp[inN]
def inN_snoc(l:List Nat)(t:Nat):inN (l++[t])=inN l++[(t:Int)]:=by simp[inN]
def pred32(x:Nat)(h:0<x)(h2:x<4294967296):IntKind.u32.wrap ((x:Int)-1)=((x-1:Nat):Int):=by rw[IntKind.wrap_u32];omega
def members_u(s:Nat)(hs:s<4294967296):aK prog 198 [.int .u32 s] fun r=>r=L1 false (inN (dW 32 s)):=by
 obtain⟨E,c⟩:=ξ (dW 32 s);rw[<-c]
 have b:E.length<=32:=by rw[c];exact gJ _ _
 refine sPx func198 ?_;simp -dsimp[f198,tg];refine aI (bh 3 1 [3] ζ (W_loopM 15 0x7ff9 zMx (σ:=Nat×List Nat) (fun p=>p.2++dW 32 p.1=E/\p.1<4294967296) (fun p=>p.1) (fun p=>[(0,.int .u32 p.1),(3,.buf 0 0 p.2.length p.2.length)]) (fun p=>[B.buf 3 1 ((inN p.2).map aG) false]) (s,[]) ⟨by rw[c];rfl,hs⟩ ζ (by simp[inN]) ζ ?_));rintro⟨x,out⟩ ⟨hx,a⟩ N Q f g;simp only at hx a;by_cases h0:x=0
 .subst h0;rw[jg (fun j _=>Nat.zero_testBit j),uC]at hx;subst hx;refine wx ?_;simp -dsimp;apply g;simp -dsimp;exact dr rfl (by simp[eT]) (by simp[aG])
 .obtain⟨t,ht,h1,h2,h,l⟩:=bits_step (show 0<x by omega) a;have e:=tz_con (x:Int);rw[tz_low ω a ht h]at e;rw[h2]at hx
  have k:out.length<=32:=by rw[<-hx]at b;simp only[uB]at b;omega
  have ha:=and32 x (x-1) a ω;obtain⟨y,i⟩:=ξ (x &&& (x-1));rw[<-i]at ha l hx
  have d:¬(x:Int)=0:=by omega
  refine wx ?_;simp -dsimp[h0,d];refine cPx e ?_;simp -dsimp[eT,jx out.length ω,pred32 x ω a,ha];refine f (y,out++[t]) _ _ ⟨by rw[<-hx];simp,ω⟩ θ ζ ⟨_,by simp[inN_snoc,aG];rfl⟩ ζ (by simp[aG])
def ofD_u(v a:Int):aK prog 245 [.int .i64 v,.int .i64 a] fun r=>r=bp ⟨v,a,zV⟩:=by
 refine sPx func245 ?_;simp -dsimp[f245,tg,bp,zV]
def both_u(op:Int)(a:Nat):aK prog 199 [.int .i64 op,.int .i64 a] fun r=>r=aw (dm op a):=by
 have c:=ofD_u 1 a;have b:=ofD_u 2 a;simp only[bp]at c b;refine sPx func199 ?_;simp -dsimp[f199,tg];refine cPx c ?_;simp -dsimp;refine cPx b ?_;simp -dsimp;rfl
def LDn(f:Bool)(ds:List Dn):V:=.lst 2 f (ds.map (am false))
@[simp] theorem LDn_pure (f:Bool) (ds:List Dn):AM.Pure (LDn f ds):=by simp[LDn]
def shr32(a n:Nat)(hn:n<=16):((a:Int)).fdiv (2^min n IntKind.u32.bits)=((a / 2^n:Nat):Int):=by
 have h1:min n IntKind.u32.bits=n:=xp (by show n<=32;omega);rw[h1,wO _ (by have:(0:Int)<2^n:=Int.pow_pos ω;omega)];simp
def closV(n:Nat)(d:Fd)(f:Bool)(hn:n<=16)(e:d.l<4294967296/\d.r<4294967296)(ho:dz n d=true):aK prog 65 [.int .i64 n,.lst 2 f [dY d]] fun r=>r = .int .i64 0:=by
 have a:¬(16:Int)<n:=by omega
 have c:¬(n:Int)<0:=by omega
 have h1:=or32 d.l d.r e.1 e.2;have h2:=shr32 (d.l ||| d.r) n hn;unfold dz at ho;rw[decide_eq_true_eq]at ho;rw[ho]at h2
 obtain⟨o,b⟩:=ξ (d.l ||| d.r)
 rw[<-b]at h1 h2;refine sPx func65 ?_;simp -dsimp[f65,tg,c,a,dY];refine aI (W_loopM 31 0x7ffc0050 zMx (σ:=Nat) (fun i=>i<=1) (fun i=>1-i) (fun i=>[(18,.int .i64 i)]) (fun _=>[]) 0 ω ζ rfl ζ ?_);intro i hi N Q g h;by_cases hb:i=0
 .subst hb;refine wx ?_;simp -dsimp[h1,h2,show IntKind.i64.wrap (1:Int)=1 from wrap64 ω ω];refine g 1 _ _ ω ω ζ ⟨[B.cells [.int .u32 (d.l:Int),.int .u32 (d.r:Int)]],ζ⟩ ζ ζ
 .obtain rfl:i=1:=by omega
  refine wx ?_;simp -dsimp;apply h;simp -dsimp
end
section
open Go Go.AM Go.Proofs.Tryz
def diffN_bit(r l k:Nat)(hl:l<4294967296)(hr:r<4294967296):(diffN r l).testBit k=(r.testBit k&&!l.testBit k):=by
 unfold diffN;have h:=Nat.testBit_two_pow_sub_succ (x:=l) (n:=32) ω k;rw[(ω:(2:Nat)^32-(l+1)=4294967295-l)]at h;rw[xr,h];by_cases hk:k<32
 .simp[hk]
 .have:r.testBit k=false:=vf (uT hr (uo (by omega:0<2) (show 32<=k by omega)));simp[this]
def bits_diff(r l:Nat)(hl:l<4294967296)(hr:r<4294967296):dW 32 (diffN r l)=mi l r:=by
 unfold dW mi dW;rw[List.filter_filter];congr 1;funext k;rw[diffN_bit r l k hl hr];cases r.testBit k<;>cases l.testBit k<;>rfl
def diff32(r l:Nat)(hl:l<4294967296)(hr:r<4294967296):IntKind.u32.wrap ((r % 2^IntKind.u32.bits &&& (2^IntKind.u32.bits-1-l % 2^IntKind.u32.bits):Nat):Int)=((diffN r l:Nat):Int):=by
 rw[modN r hr,modN l hl];exact u32w _ (vO xq hr)
def diffN_lt(r l:Nat)(hr:r<4294967296):diffN r l<4294967296:=vO xq hr
def cap104(n:Nat)(h:n<=1000000000):n<=9223372036854775806/\(n+1)*104<=140737488355328:=by omega
def cap32d(n:Nat)(h:n<=1000000000):n<=9223372036854775806/\(n+1)*32<=140737488355328:=by omega
def inN_at{l:List Nat}{i:Nat}(h:i<l.length):(inN l)[i]?=some ((l[i]:Nat):Int):=by simp[inN,h]
def dnL(L:List Nat)(M:List Nat)(j:Nat):List Dn:=(M.take j).map (gh L)
def atoms_rb(n e:Nat)(b:List At)(fz:Bool):rbB n (.buf e 11 (b.map aw) fz):=by
 intro x hx;obtain⟨y,_,rfl⟩:=List.mem_map.1 hx;intro c a;simp only[aw,V.cells,tw,tq,or_false]at a
 rcases a with rfl | rfl | rfl | rfl | rfl | rfl | rfl | rfl | rfl | rfl | rfl<;>simp[rb,rb1]
def dns_rb(n e:Nat)(ds:List Dn)(fz:Bool):rbB n (.buf e 2 (ds.map (am false)) fz):=by
 intro x hx;obtain⟨y,_,rfl⟩:=List.mem_map.1 hx;intro c a;simp only[am,V.cells,tw,tq,or_false]at a
 rcases a with rfl | rfl<;>simp[rb,rb1,LA]
def fromFD(n:Nat)(d:Fd)(hn:n<=16)(ho:dz n d=true):aK prog 148 [.int .i64 n,dY d] fun r=>r = .tup [LDn false ((mi d.l d.r).map (gh (jv d.l))),.int .i64 0]:=by
 obtain⟨W,X⟩:=fd_lt ho;have hp:=pow16 hn
 have hl:d.l<4294967296:=by omega
 have hr:d.r<4294967296:=by omega
 have P:=closV n d true hn ⟨hl,hr⟩ ho;have z:=members_u (diffN d.r d.l) (diffN_lt _ _ hr);rw[bits_diff d.r d.l hl hr]at z;have G:=members_u d.l hl;have Y:=diff32 d.r d.l hl hr;obtain⟨L,hL⟩:=ξ (jv d.l);rw[show dW 32 d.l=L from hL.symm]at G;obtain⟨M,R⟩:=ξ (mi d.l d.r);rw[<-R]at z ⊢;rw[<-hL]
 have S:L.length<=32:=by rw[hL];exact gJ _ _
 have T:M.length<=32:=by rw[R];exact ug (uU _ _) (gJ _ _)
 simp only[dY,L1]at P z G
 have J:∀ds:List Dn,∀bl∈[B.cells [.int .u32 (d.l:Int),.int .u32 (d.r:Int)],B.buf 52 2 (ds.map (am false)) false],rbB 2 bl:=fun ds bl a=>by
  simp only[tw,tq,or_false]at a
  rcases a with rfl | rfl
  .intro c k;simp at k;rcases k with rfl | rfl<;>simp[rb,rb1]
  .exact dns_rb _ _ _ _
 have t:∀(ds:List Dn) (p:List At) (i:Nat),∀bl∈[B.cells [.int .u32 (d.l:Int),.int .u32 (d.r:Int)],B.buf 52 2 (ds.map (am false)) false,B.cells [.int .i64 2,.buf 3 0 i i],B.buf 290 11 (p.map aw) false],rbB 4 bl:=fun ds p i bl a=>by
  simp only[tw,tq,or_false]at a
  rcases a with rfl | rfl | rfl | rfl
  .intro c k;simp at k;rcases k with rfl | rfl<;>simp[rb,rb1]
  .exact dns_rb _ _ _ _
  .intro c k;simp at k;rcases k with rfl | rfl<;>simp[rb,rb1]
  .exact atoms_rb _ _ _ _
 refine sPx func148 ?_;simp -dsimp[f148,tg,dY];refine cPx P ?_;simp -dsimp[Y];refine cPx z ?_;simp -dsimp;refine aI (bh 52 2 [7] ζ (W_loopM 60 0xffffffff8001680 zMx (σ:=Nat) (fun j=>j<=M.length) (fun j=>M.length-j) (fun j=>[(27,.int .i64 j),(7,.buf 1 0 j j)]) (fun j=>[B.cells [.int .u32 (d.l:Int),.int .u32 (d.r:Int)],B.buf 52 2 ((dnL L M j).map (am false)) false]) 0 ω (by simp[eT]) (by simp[dnL]) ζ ?_));intro j Z N Q V U
 have w:(dnL L M j).length=j:=by simp[dnL];omega
 by_cases hb:j<M.length
 .obtain⟨b,o⟩:=ξ (M[j]);have v:=inN_at hb;rw[<-o]at v
  have y:∀h:j<(inN M).length,(inN M)[j]=(b:Int):=fun h=>by simp[inN,o]
  have F:dnL L M (j+1)=dnL L M j++[gh L b]:=by unfold dnL;rw[tz hb,uu,<-o];rfl
  refine cu ?_;refine wx ?_;simp -dsimp[hb,eT];refine cu ?_;refine wx ?_;simp -dsimp;refine cu ?_;refine oc ?_;refine cu ?_;refine wx ?_;simp -dsimp[hb,eT,v,y,aG];refine cu ?_;refine wx ?_;simp -dsimp;refine cu ?_;refine wx ?_;simp -dsimp;refine cPx G ?_;simp -dsimp
  have A:∀i,i<=L.length->((L.take i).map (dm 1)).length=i:=fun i hi=>by simp;omega
  refine aI (cx 290 11 [] 2 [1] rfl ζ ζ (W_loopM 48 0xfff000001000 zMx (σ:=Nat) (fun i=>i<=L.length) (fun i=>L.length-i) (fun i=>[(36,.int .i64 i)]) (fun i=>[B.cells [.int .u32 (d.l:Int),.int .u32 (d.r:Int)],B.buf 52 2 ((dnL L M j).map (am false)) false,B.cells [.int .i64 2,.buf 3 0 i i],B.buf 290 11 (((L.take i).map (dm 1)).map aw) false]) 0 ω (by simp[eT]) ζ ζ ?_));intro i hi N2 Q2 O D;have e:=A i hi;by_cases f:i<L.length
  .obtain⟨x,m⟩:=ξ (L[i]);have s:=inN_at f;rw[<-m]at s
   have u:∀h:i<(inN L).length,(inN L)[i]=(x:Int):=fun h=>by simp[inN,m]
   have q:=both_u 1 x;simp only[aw,dm,zV]at q
   have has:(L.take (i+1)).map (dm 1)=(L.take i).map (dm 1)++[dm 1 x]:=by rw[tz f,uu,<-m];rfl
   obtain⟨p,g⟩:=ξ ((L.take i).map (dm 1));rw[<-g]at e has ⊢;refine wx ?_;simp -dsimp[f,eT,s,u,aG];refine aI (ae tok mixed [5,7] [] [(aw (dm 1 x),[])] υ fun C K H E=>?_);simp -implicitDefEqProofs [e,aw,dm,zV,cap104 i ω];refine⟨H _ _ _ _ (bQ q ζ),E _ _ ?_⟩;simp -dsimp[aE i ω];refine O (i+1) _ _ ω ω (by simp[eT]) ⟨[],by simp[has,aw,dm,zV]⟩ ζ (t _ _ _)
  .obtain rfl:i=L.length:=by omega
   have q:=both_u 2 b;simp only[aw,dm,zV]at q;obtain⟨p,g⟩:=ξ ((L.take L.length).map (dm 1))
   have I:am false (gh L b)= .agg [.int .i64 2,.lst 11 false ((p++[dm 2 b]).map aw)]:=by rw[g,uV];rfl
   rw[<-g]at e ⊢;refine wx ?_;simp -dsimp[f,eT];apply D;simp -dsimp;refine cu ?_
   refine ae tok mixed [5,7] [] [(.agg [.int .i64 1,.int .i64 (b:Int),.int .i64 0,.int .i64 0,.str tp,.int .i64 2,.int .i64 2,.int .i64 (b:Int),.int .i64 0,.int .i64 0,.str tp],[])] υ fun C K H E=>?_
   simp -implicitDefEqProofs [e,cap104 L.length ω];refine⟨H _ _ _ _ (bQ q ζ),E _ _ ?_⟩;simp only[thenQ_normal];refine fA 3 [] 2 [1] rfl rfl ζ (by simp[e]) ?_;refine wx ?_;simp -dsimp[w,cap32d j ω,bA j ω];refine wx ?_;simp -dsimp[aE j ω];refine V (j+1) _ _ ω ω (by simp[eT]) ⟨[B.cells [.int .i64 2,.lst 11 false (p.map aw++[.agg [.int .i64 1,.int .i64 (b:Int),.int .i64 0,.int .i64 0,.str tp,.int .i64 2,.int .i64 2,.int .i64 (b:Int),.int .i64 0,.int .i64 0,.str tp]])],B.buf 290 11 (p.map aw++[.agg [.int .i64 1,.int .i64 (b:Int),.int .i64 0,.int .i64 0,.str tp,.int .i64 2,.int .i64 2,.int .i64 (b:Int),.int .i64 0,.int .i64 0,.str tp]]) true],by simp[F,I,aw,dm,zV]⟩ ζ (J _)
 .obtain rfl:j=M.length:=by omega
  refine dv 1 [7] rfl (by simp[w]) ?_;refine wx ?_;simp -dsimp[hb,eT];apply U;simp -dsimp;simp[LDn,dnL]
section
def liL(m:List (List Int)):List V:=m.map (L1 false)
def liL_len(m:List (List Int)):(liL m).length=m.length:=by simp[liL]
def nc{m:List (List Int)}{x:Nat}(h:x<(liL m).length):(liL m)[x] = .lst 1 false ((eAt m x).map aG):=by
 have h2:x<m.length:=by simpa[liL] using h
 simp[liL,L1,eAt,h2]
def liL_set(m:List (List Int))(x:Nat)(v:List Int):(liL m).set x (.lst 1 false (v.map aG))=liL (m.set x v):=by
 unfold liL;rw[xJ];rfl
def ip(m:List (List Int))(k:Nat):List V:=liL m++tg k .nilS
def mix0(m:List (List Int)):ip m 0=liL m:=by simp[ip]
def mixL_rb(n e:Nat)(m:List (List Int))(k:Nat)(fz:Bool):rbB n (.buf e 1 (ip m k) fz):=fun x hx=>by
 unfold ip liL at hx
 rcases List.mem_append.1 hx with h | h
 .obtain⟨y,_,rfl⟩:=List.mem_map.1 h;intro c a;simp only[L1,V.cells,tw,tq,or_false]at a;subst a;simp[rb1]
 .obtain⟨_,rfl⟩:=List.mem_replicate.1 h;intro c a;simp only[V.cells,tw,tq,or_false]at a;subst a;simp[rb1]
section
variable {H:List B} {k0:Nat}
def KB(H:List B)(k0:Nat)(xs:List V):List B:=H.set k0 (.buf 58 1 xs false)
def KB_at(h:k0<H.length)(xs:List V):(KB H k0 xs)[k0]?=some (.buf 58 1 xs false):=by
 unfold KB;rw[uJ h]
def KB_set(xs a:List V):(KB H k0 xs).set k0 (.buf 58 1 a false)=KB H k0 a:=by
 unfold KB;rw[vq]
def td(xs:List V):(KB H k0 xs).length=H.length:=by simp[KB]
def KB_rb(a:∀bl∈H,rbB H.length bl)(m:List (List Int)):∀bl∈KB H k0 (liL m),rbB (KB H k0 (liL m)).length bl:=rbsZ a (by rw[<-mix0];exact mixL_rb _ _ _ _ _)
end
def qx{l:List (List Int)}{p:Nat}(hp:1<=p)(h:eAt l p=eAt l (p-1)):cpL l (p+1)=cpL l p:=by
 obtain⟨q,rfl⟩:∃q,p=q+1:=⟨p-1,ω⟩;rw[cpL,if_pos (by simpa using h.symm)]
def cpL_no{l:List (List Int)}{p:Nat}(hp:1<=p)(h:¬eAt l p=eAt l (p-1)):cpL l (p+1)=cpL l p++[eAt l p]:=by
 obtain⟨q,rfl⟩:∃q,p=q+1:=⟨p-1,ω⟩;rw[cpL,if_neg (by intro e;exact h (by simpa using e.symm))]
theorem cpL_pos(l:List (List Int)):∀p,1<=p->1<=(cpL l p).length
 | 0,h=>by omega
 | 1,_=>by simp[cpL]
 | p+2,_=>by
  have:=cpL_pos l (p+1) ω;rw[cpL];split
  .exact this
  .simp
structure CpL (l ys:List (List Int)) (kk p:Nat):Prop where
 lt:kk<p
 len:ys.length=l.length
 tk:ys.take kk=cpL l p
 kl:kk=(cpL l p).length
 hi:∀i,p-1<=i->eAt ys i=eAt l i
def CpL.start{l:List (List Int)}{k:Nat}(hk:1<=k)(hl:k<l.length)(h:cpL l k=l.take k)(he:eAt l k=eAt l (k-1)):CpL l l k (k+1):=
 ⟨ω,rfl,by rw[qx hk he,h],by rw[qx hk he,h];simp;omega,fun _ _=>rfl⟩
def CpL.skip{l ys:List (List Int)}{kk p:Nat}(h:CpL l ys kk p)(hp:1<=p)(he:eAt l p=eAt l (p-1)):CpL l ys kk (p+1):=
 ⟨by have:=h.lt;omega,h.len,by rw[qx hp he];exact h.tk,by rw[qx hp he];exact h.kl,fun i hi=>h.hi i ω⟩
def CpL.keep{l ys:List (List Int)}{kk p:Nat}(h:CpL l ys kk p)(hp:1<=p)(a:p<l.length)(he:¬eAt l p=eAt l (p-1)):CpL l (ys.set kk (eAt l p)) (kk+1) (p+1):=by
 have h1:=h.lt;have h2:=h.len;refine⟨ω,by simp[h2],?_,by rw[cpL_no hp he];have:=h.kl;simp;omega,fun i hi=>?_⟩
 .rw[cpL_no hp he,<-h.tk,gO χ,List.take_set_of_le ω];congr 2;simp[eAt,(ω:kk<ys.length)]
 .rw[<-h.hi i ω];unfold eAt;simp only[List.getD_eq_getElem?_getD];rw[uH ω]
def CpL.done{l ys:List (List Int)}{kk:Nat}(h:CpL l ys kk l.length)(h0:l≠[]):eB l=ys.take kk/\(eB l).length=kk:=by
 unfold eB;rw[if_neg h0];exact⟨h.tk.symm,h.kl.symm⟩
section
variable {H:List B} {k0:Nat}
def liL_fill(ys:List (List Int))(kk n:Nat)(hn:ys.length=n):xX kk (liL ys)++(tg (n-kk) V.nilS++List.drop n (liL ys))=ip (ys.take kk) (n-kk):=by
 unfold ip liL;rw[tj χ,uC,wM]
def compactL_h(a:k0<H.length)(hH:∀bl∈H,rbB H.length bl)(l:List (List Int))(n:Nat)(hn:l.length=n)(an:n<=1000000)(Y:∀e∈l,e.length<=1000000):
  ak prog 160 [.buf k0 0 n n,.fn 161 []] (KB H k0 (liL l)) fun r H'=>r = .buf k0 0 (eB l).length n/\H'=KB H k0 (ip (eB l) (n-(eB l).length)):=by
 have D:=KB_at a (liL l);have b:=liL_len l
 have s:∀i,(eAt l i).length<=1000000:=fun i=>by
  by_cases h:i<l.length
  .rw[dV h];exact Y _ (ti h)
  .simp[eAt,(ω:l.length<=i)]
 by_cases h2:n<2
 .have hc:eB l=l:=by
   unfold eB
   match l,hn with
   | [],_=>rfl
   | [x],_=>rfl
   | _::_::_,hn=>simp at hn;omega
  rw[hc,hn,vz,mix0];refine aH tok func160 rfl rfl ?_;refine wx ?_;simp -dsimp[f160,tg,D,b,hn,h2,(ω:(n:Int)<2)]
 .have h0:l≠[]:=fun e=>by rw[e]at hn;simp at hn;omega
  obtain⟨R,hR⟩:=ξ (ip (eB l) (n-(eB l).length));obtain⟨m,hm⟩:=ξ ((eB l).length);rw[<-hR,<-hm];refine aH tok func160 rfl rfl ?_;refine wx ?_;simp -dsimp[f160,tg,D,b,hn,h2,(ω:¬(n:Int)<2)];refine aI (W_loopM 65 0x1fffffffffffff0f0 zMx (σ:=Nat) (fun k=>1<=k/\k<=n/\cpL l k=l.take k) (fun k=>n-k) (fun k=>[(5,.int .i64 k)]) (fun _=>KB H k0 (liL l)) 1 ⟨ω,ω,by rw[gO (k:=0) ω];rfl⟩ ζ ζ (by simp[td]) ?_);rintro k ⟨hk,ad,hx⟩ N Q hN hQ;by_cases hb:k<n
  .obtain⟨q,rfl⟩:∃q,k=q+1:=⟨k-1,ω⟩
   have a1:=fun h=>nc (m:=l) (x:=q+1) h
   have a0:=fun h=>nc (m:=l) (x:=q) h
   have wq:IntKind.i64.wrap (((q:Int)+1)-1)=(q:Int):=by rw[wrap64 ω ω];omega
   have hq:q<n:=by omega
   have w2:IntKind.i64.wrap ((q:Int)+1+1)=(q:Int)+1+1:=wrap64 ω ω;have c0:=equal64 (eAt l (q+1)) (eAt l q) false false (s _) (s _);obtain⟨x,t⟩:=ξ (eAt l (q+1));obtain⟨y,g⟩:=ξ (eAt l q);rw[<-t]at a1;rw[<-g]at a0;rw[<-t,<-g]at c0;simp only[L1]at c0;by_cases he:x=y
   .rw[decide_eq_true he]at c0;refine wx ?_;simp -dsimp[D,b,hn,hb,a1,a0,wq,hq,bA q ω,(ω:(0:Int)<=(q:Int)+1),(ω:(q:Int)+1<(n:Int))];refine sTx ?_;refine cQx c0 ?_;simp -dsimp[D,b,hn,ad,(ω:(0:Int)<=(q:Int)+1),(ω:¬q+1=n)];refine aI (W_loopM 59 0x7ffffff000000a0 zMx (σ:=Nat×Nat×List (List Int)) (fun p=>1<=p.2.1/\q+1+p.2.1<=n/\CpL l p.2.2 p.1 (q+1+p.2.1)) (fun p=>n-p.2.1) (fun p=>[(5,.int .i64 p.1),(7,.int .i64 p.2.1),(6,.buf k0 (q+1) (n-(q+1)) n)]) (fun p=>KB H k0 (liL p.2.2)) (q+1,1,l) ⟨uA _,by show q+1+1<=n;omega,CpL.start ω ω hx (by rw[(ω:q+1-1=q),<-t,<-g];exact he)⟩ ζ ζ (by simp[td]) ?_);rintro⟨kk,C,ys⟩ ⟨i1,i2,I⟩ N2 Q2 A U;simp only at i1 i2 I A;have G:=KB_at a (liL ys);have c:=liL_len ys
    have E:ys.length=n:=by rw[I.len,hn]
    have al:=I.lt;by_cases z:q+1+C<n
    .obtain⟨r,rfl⟩:∃r,C=r+1:=⟨C-1,ω⟩;have B:=equal64 (eAt l (q+1+(r+1))) (eAt l (q+1+r)) false false (s _) (s _);obtain⟨u,hu⟩:=ξ (eAt l (q+1+(r+1)));obtain⟨v,hv⟩:=ξ (eAt l (q+1+r))
     have O:=fun h=>nc (m:=ys) (x:=q+1+(r+1)) h
     have b0:=fun h=>nc (m:=ys) (x:=q+1+r) h
     rw[I.hi _ ω,<-hu]at O;rw[I.hi _ ω,<-hv]at b0;rw[<-hu,<-hv]at B;simp only[L1]at B
     have wr:IntKind.i64.wrap (((r:Int)+1)-1)=(r:Int):=by rw[wrap64 ω ω];omega
     have K:IntKind.i64.wrap (r:Int)=(r:Int):=bA r ω;have o:IntKind.i64.wrap ((r:Int)+1+1)=(r:Int)+1+1:=wrap64 ω ω;obtain⟨d,M⟩:=ξ (n-(q+1));rw[<-M];by_cases j:u=v
     .rw[decide_eq_true j]at B;refine wx ?_;simp -dsimp[G,c,E,z,(ω:q+1+r<n),O,b0,wr,K,o,(ω:(r:Int)+1<(d:Int)),(ω:r+1<d),(ω:r<d),(ω:(0:Int)<=(r:Int)+1)];refine sTx ?_;refine cQx B ?_;simp -dsimp[o];refine A (kk,r+1+1,ys) _ _ ⟨θ,θ,I.skip ω (by rw[(ω:q+1+(r+1)-1=q+1+r),<-hu,<-hv];exact j)⟩ θ (by simp[M]) ⟨[],ζ⟩ (by simp[td];exact a) (KB_rb hH ys)
     .rw[decide_eq_false j]at B
      have J:kk<n:=by omega
      have c3:=fun h=>nc (m:=ys) (x:=kk) h
      have S:=liL_set ys kk u;have w:=KB_set (H:=H) (k0:=k0) (liL ys) (liL (ys.set kk u));have wk:IntKind.i64.wrap ((kk:Int)+1)=(kk:Int)+1:=wrap64 ω ω;have L:=I.keep ω (by rw[hn];omega) (by rw[(ω:q+1+(r+1)-1=q+1+r),<-hu,<-hv];exact j);rw[<-hu]at L;refine wx ?_;simp -dsimp[G,c,E,z,(ω:q+1+r<n),O,b0,wr,K,o,(ω:(r:Int)+1<(d:Int)),(ω:r+1<d),(ω:r<d),(ω:(0:Int)<=(r:Int)+1)];refine sTx ?_;refine cQx B ?_;simp -dsimp[G,c,E,z,J,O,c3,S,w,wk,o,(ω:r+1<d),(ω:(r:Int)+1<(d:Int)),(ω:(0:Int)<=(r:Int)+1)];refine A (kk+1,r+1+1,ys.set kk u) _ _ ⟨θ,θ,L⟩ θ (by simp[M]) ⟨[],ζ⟩ (by simp[td];exact a) (KB_rb hH _)
    .obtain⟨d,M⟩:=ξ (n-(q+1));rw[<-M]
     have P:q+1+C=n:=by omega
     rw[P,<-hn]at I;obtain⟨e1,Z⟩:=I.done h0
     have V:m=kk:=by rw[hm];exact Z
     have T:kk<n:=by have:=I.lt;omega
     have f:=liL_fill ys kk n E;have w:=KB_set (H:=H) (k0:=k0) (liL ys) (ip (ys.take kk) (n-kk))
     have W:R=ip (ys.take kk) (n-kk):=by rw[hR,Z,e1]
     have ax:1<=kk:=by rw[<-Z];unfold eB;rw[if_neg h0];exact cpL_pos l l.length ω
     have g2:=KB_at a (ip (ys.take kk) (n-kk))
     have F:(ip (ys.take kk) (n-kk)).length=n:=by unfold ip;rw[uB,liL_len,vQ,xB];omega
     rw[<-W]at f w g2 F;refine wx ?_;simp -dsimp[G,c,E,(ω:¬(C:Int)<(d:Int)),(ω:¬C<d)];apply U;simp -dsimp[G,c,E,T,(ω:kk<=n),(ω:¬kk=n),f,w,g2,F,(ω:¬n-kk=0),(ω:¬0=kk)];apply hQ;simp -dsimp;exact V.symm
   .rw[decide_eq_false he]at c0;refine wx ?_;simp -dsimp[D,b,hn,hb,a1,a0,wq,hq,bA q ω,w2,(ω:(0:Int)<=(q:Int)+1),(ω:(q:Int)+1<(n:Int))];refine sTx ?_;refine cQx c0 ?_;simp -dsimp[w2];refine hN (q+1+1) _ _ ⟨ω,ω,by rw[cpL_no ω (by rw[(ω:q+1-1=q),<-t,<-g];exact he),hx,gO (k:=q+1) ω]⟩ ω ζ ⟨[],ζ⟩ (by simp[td];exact a) (KB_rb hH l)
  .obtain rfl:k=n:=by omega
   refine wx ?_;simp -dsimp[D,b,hn,hb];apply hQ;simp -dsimp
   have X:eB l=l:=by
    unfold eB;rw[if_neg h0,hn,hx,<-hn,uV]
   rw[hm,hR,X,hn,vz,mix0];exact⟨rfl,rfl⟩
end
end
def ids_asc{t:Tb}(g:TbC t):(ao t.rows).Pairwise (· < ·):=by
 unfold ao;rw[wD];exact g.ids
def edges_hyp{t:Tb}(g:TbC t){cs:List Cn}(h:∀c∈cs,aU t c=0):Hyp (ao t.rows) (bI (cO t cs)):=by
 have b:∀d∈cO t cs,EdgL t.rows d:=fun d p=>fM g h p
 have a:=lY fun e he=>(b e he).1
 have hm:∀e∈bI (cO t cs),MinM (cO t cs) e:=fun e he=>(a.mem e).1 he
 refine⟨ids_asc g,fun e he=>(b e (hm e he).1).2.1,fun e he=>(b e (hm e he).1).1,fun e he=>(b e (hm e he).1).2.2.2,a.ord,?_⟩
 have key:∀x∈bI (cO t cs),∀y∈bI (cO t cs),x≠y->¬∀v∈x,v∈y:=fun x hx y o n hs =>
  n (mz (b x (hm x hx).1).1 (b y (hm y o).1).1 hs ((hm y o).2 x (hm x hx).1 hs))
 have ho:=a.ord;rw[xF]at ho ⊢;intro i j hi l m;have f:=ho i j hi l m
 have k:(bI (cO t cs))[i]≠(bI (cO t cs))[j]:=fun e=>by rw[e,iE]at f;cases f
 exact⟨key _ (ti hi) _ (ti l) k,key _ (ti l) _ (ti hi) (Ne.symm k)⟩
end
section
open Go Go.AM Go.RowKit Go.Lib Go.Proofs.Tryz
def nanK645(x:Int)(W:World):Calls prog 162 #[.int .i64 x] W fun e a=>e = .returned (.bool false)/\a=W:=by
 go_enter func162,ntmps162
 go_wp2
 go_ret
 exact⟨rfl,rfl⟩
def cmpK645(x y:Int)(W:World):Calls prog 115 #[.int .i64 x,.int .i64 y] W fun e a=>e = .returned (.int .i64 (bG x y))/\a=W:=by
 have h1:=nanK645 x W;have h2:=nanK645 y W;by_cases c:x<y
 .rw[show bG x y = -1 by unfold bG;rw[if_pos c]]
  go_enter func115,ntmps115
  go_wp2_with (go_at_call 162;first | (refine h1.mono ?_;rintro e a ⟨rfl,rfl⟩) | (refine h2.mono ?_;rintro e a ⟨rfl,rfl⟩))
  go_ret
  exact⟨rfl,rfl⟩
 .by_cases b:y<x
  .rw[show bG x y=1 by unfold bG;rw[if_neg c,if_pos b]];have d:x > y:=b
   go_enter func115,ntmps115
   go_wp2_with (go_at_call 162;first | (refine h1.mono ?_;rintro e a ⟨rfl,rfl⟩) | (refine h2.mono ?_;rintro e a ⟨rfl,rfl⟩))
   go_ret
   exact⟨rfl,rfl⟩
  .rw[show bG x y=0 by unfold bG;rw[if_neg c,if_neg b]];have d:¬x > y:=b
   go_enter func115,ntmps115
   go_wp2_with (go_at_call 162;first | (refine h1.mono ?_;rintro e a ⟨rfl,rfl⟩) | (refine h2.mono ?_;rintro e a ⟨rfl,rfl⟩))
   go_ret
   exact⟨rfl,rfl⟩
def nanKI(x:Int)(W:World):Calls prog 179 #[.int .i64 x] W fun e a=>e = .returned (.bool false)/\a=W:=by
 go_enter func179,ntmps179
 go_wp2
 go_ret
 exact⟨rfl,rfl⟩
def cmpKI(x y:Int)(W:World):Calls prog 116 #[.int .i64 x,.int .i64 y] W fun e a=>e = .returned (.int .i64 (bG x y))/\a=W:=by
 have h1:=nanKI x W;have h2:=nanKI y W;by_cases c:x<y
 .rw[show bG x y = -1 by unfold bG;rw[if_pos c]]
  go_enter func116,ntmps116
  go_wp2_with (go_at_call 179;first | (refine h1.mono ?_;rintro e a ⟨rfl,rfl⟩) | (refine h2.mono ?_;rintro e a ⟨rfl,rfl⟩))
  go_ret
  exact⟨rfl,rfl⟩
 .by_cases b:y<x
  .rw[show bG x y=1 by unfold bG;rw[if_neg c,if_pos b]];have d:x > y:=b
   go_enter func116,ntmps116
   go_wp2_with (go_at_call 179;first | (refine h1.mono ?_;rintro e a ⟨rfl,rfl⟩) | (refine h2.mono ?_;rintro e a ⟨rfl,rfl⟩))
   go_ret
   exact⟨rfl,rfl⟩
  .rw[show bG x y=0 by unfold bG;rw[if_neg c,if_neg b]];have d:¬x > y:=b
   go_enter func116,ntmps116
   go_wp2_with (go_at_call 179;first | (refine h1.mono ?_;rintro e a ⟨rfl,rfl⟩) | (refine h2.mono ?_;rintro e a ⟨rfl,rfl⟩))
   go_ret
   exact⟨rfl,rfl⟩
end
section
open Go Go.AM Go.RowKit Go.Lib Go.Sort Go.Proofs.Tryz
def orK(c d:Int)(b:Nat)(W:World)(h0:W.cell? ⟨b,0,none⟩=some (.int .i64 c))(h1:W.cell? ⟨b,1,none⟩=some (.int .i64 d)):Calls prog 114 #[.slice (some ⟨b,0,none⟩) 2 2] W fun e g=>e = .returned (.int .i64 (if c=0 then d else c))/\g=W:=by
 go_enter func114,ntmps114
 go_wp2
 go_loop [8] (fun m=>m = .int .i64 0\/(m = .int .i64 1/\c=0)\/(m = .int .i64 2/\c=0/\d=0)) (fun m=>2-(intOf m).toNat)
 case atStart=>exact .inl rfl
 case round =>
  rcases hrel with rfl | ⟨rfl,a⟩ | ⟨rfl,a,f⟩
  .by_cases a:c=0
   .go_wp2
    exact⟨.inr (.inl ⟨rfl,a⟩),by simp[intOf]⟩
   .go_wp2
    go_ret
    exact⟨rfl,rfl⟩
  .by_cases f:d=0
   .go_wp2
    exact⟨.inr (.inr ⟨rfl,a,f⟩),by simp[intOf]⟩
   .go_wp2
    go_ret
    exact⟨rfl,rfl⟩
  .go_wp2
   go_ret
   exact⟨rfl,rfl⟩
def region_two{P:Program}{id:Nat}{Q:Exit->Act->World->Prop}{a:Act}{w:World}{l:List Oper}(n:Nat)(hm:P.follows .mixedOrders=true)(c:Region.lexTailB .any l.toArray n=true)
  (h:∀W',W'=w.drew->wpStill P l.toArray W' (fun b=>wpList P l.toArray Q (l.drop n) b W') (l.take n) a):(Code.region id l.toArray true).wp P Q a w :=
 wp_region_still_tail n hm c (h _ rfl)
def compareK(x y:Cr)(W:World):Calls prog 69 #[.agg #[.int .i64 x.id,.int .i64 x.attr],.agg #[.int .i64 y.id,.int .i64 y.attr]] W fun e k=>e = .returned (.int .i64 (cP x y))/\∃q f,k=grow (W.drewN q) f:=by
 have h1:=fun W=>cmpK645 x.id y.id W
 have h2:=fun W=>cmpKI x.attr y.attr W
 have g:(if bG x.id y.id=0 then bG x.attr y.attr else bG x.id y.id)=cP x y:=by
  unfold cP;split
  .rfl
  .rfl
 generalize bG x.id y.id=c at h1 g;generalize bG x.attr y.attr=d at h2 g
 have i:=fun b W=>orK c d b W
 rw[g]at i;generalize cP x y=r at i ⊢;clear g;obtain⟨n,o⟩:=x;obtain⟨p,l⟩:=y;simp only at h1 h2 ⊢
 go_enter func69,ntmps69
 go_wp2_with fail
 refine region_two 10 mixed υ fun h a=>?_
 have c0:h.cell? ⟨W.heap.size,0,none⟩=some (.int .i64 n):=by subst a;simp
 have s:h.cell? ⟨W.heap.size,1,none⟩=some (.int .i64 o):=by subst a;simp
 have u:h.cell? ⟨W.heap.size+1,0,none⟩=some (.int .i64 p):=by subst a;simp
 have t:h.cell? ⟨W.heap.size+1,1,none⟩=some (.int .i64 l):=by subst a;simp
 have m:Hid (∃f,h=grow (W.drewN 1) f):=by
  subst a;exact⟨_,by rw[alloc_eq_grow,alloc_eq_grow,grow_grow];rfl⟩
 clear a;simp only[List.take_succ_cons,xO,List.drop_succ_cons,uG]
 repeat still_step
 still_call (h1 _)
 repeat still_step
 still_call (h2 _)
 refine wpStill_nil ?_
 go_wp2_with (go_at_call 114;refine(i _ _ ζ ζ).mono ?_;rintro e k ⟨rfl,rfl⟩)
 go_ret
 obtain⟨f,j⟩:=m.out;exact⟨rfl,1,_,by rw[j,alloc_eq_grow,grow_grow]⟩
def putRow_id5{a:Type} [Inhabited a] (enc:a->Value)(w:World)(blk off:Nat)(d:Array a):putRow enc w blk off d=putRow id w blk off (d.map enc):=by
 unfold putRow
 refine mapBlock_congr _ _ _ _ fun c _ _ _=>?_
 apply Array.ext_getElem?;intro k;simp only[putCells,xY,Array.size_map]
 cases c[k]? with
 | none=>rfl
 | some y =>
  simp only[uS];by_cases h:off<=k/\k<off+d.size
  .rw[if_pos h,if_pos h]
   have hk:k-off<d.size:=by omega
   rw[getElem!_pos d (k-off) hk,getElem!_pos (d.map enc) (k-off) (by simpa using hk)];simp
  .rw[if_neg h,if_neg h]
def pj{s:AM.St}(h:AM.Good s){k e z:Nat}{xs ys:List V}(hk:s.H[k]?=some (.buf e z xs false))(g:s.κ k≠0)(F:Array Value)(n:Nat)(os:Array Obj)(hl:ys.length=xs.length)(L:F.size=xs.length*z)
  (D:∀y∈ys,y.cells.length=z/\∀c∈y.cells,c.one=true) (hr:∀i y j c,ys[i]?=some y->y.cells[j]?=some c->Rel s c F[i*z+j]!) (W:World) (hW:W=grow (putRow id (Go.Sort.ahead s.w n) (s.φ k) 0 F) os):
  AM.Good (s.setB W k (.buf e z ys false))/\AM.Step s (s.setB W k (.buf e z ys false)):=by
 have a:=lvB hk g;have l:=(h.lt k a).1;obtain⟨vs,h1,h2,K,J,N,M⟩:=h.blk k _ hk;have hb:=h1 g
 have ho:∀b,b<s.w.heap.size->b≠s.φ k->W.heap[b]?=s.w.heap[b]?:=fun b p q=>by
  subst hW;rw[heap_grow_old _ _ (by rw[Go.Proofs.size_putRow];exact p)];simp only[putRow,mapBlock,Go.Sort.ahead,xC,if_neg (Ne.symm q)]
 have m:W.heap[s.φ k]?=some (.cells (putCells id 0 F vs) e (0,0)):=by
  subst hW;rw[heap_grow_old _ _ (by rw[Go.Proofs.size_putRow];exact l)];simp[putRow,mapBlock,Go.Sort.ahead,xC,hb,onCells]
 have f:s.w.heap.size<=W.heap.size:=by
  subst hW;rw[size_grow,Go.Proofs.size_putRow];exact xR _ _
 have ha:B.alike (.buf e z xs false) (.buf e z ys false):=⟨rfl,rfl,hl.symm,rfl,rfl⟩
 have t:W.os=s.w.os:=by subst hW;rfl
 have E:W.tape=s.w.tape:=by subst hW;rfl
 have G:W.output=s.w.output:=by subst hW;rfl
 clear hW;have d:=bj (w:=W) h hk a ha t E G f ho;refine⟨bw h hk a ha t E G f ho (fun _=>?_),d⟩;refine⟨putCells id 0 F vs,fun _=>m,by simp only[putCells,Array.size_mapIdx];exact h2,by rw[hl];exact K,J,D,fun i x j c u hi C hu=>?_⟩;have I:=aB hi;have r:=aB C;rw[(D x (tn hi)).1]at r
 have A:i*z+j<F.size:=by
  rw[L];have:=uI z (show i+1<=xs.length by omega);rw[uR,yI]at this;omega
 have o:u=F[i*z+j]!:=by
  simp only[putCells,xY]at hu
  cases hv:vs[i*z+j]? with
  | none=>rw[hv]at hu;cases hu
  | some v =>
   rw[hv,uS,if_pos ⟨ω,ω⟩,xe]at hu;exact(Option.some.inj hu).symm
 rw[o];exact(hr i x j c hi C).step d
end
section
open Go Go.AM Go.Proofs.Tryz
section
structure GenS (q:Prob) (c:Nat->Dm):Prop where
 sol:Sol q c
 gen:∀σ,Sol q σ->∃τ:Nat->Dm,∀x,x<q.m*q.n->σ x=app τ (c x)
def GenS.eq_iff{q:Prob}{c:Nat->Dm}(h:GenS q c){x y:Nat}(hx:x<q.m*q.n)(a:y<q.m*q.n):c x=c y↔∀σ,Sol q σ->σ x=σ y :=
 ⟨fun he σ hs=>by
  obtain⟨τ,ht⟩:=h.gen σ hs
  rw[ht x hx,ht y a,he],fun hf=>hf c h.sol⟩
def GenS.val_iff{q:Prob}{c:Nat->Dm}(h:GenS q c){x:Nat}{v:Vl}(hx:x<q.m*q.n):c x = .inl v↔∀σ,Sol q σ->σ x = .inl v :=
 ⟨fun he σ hs=>by
  obtain⟨τ,ht⟩:=h.gen σ hs
  rw[ht x hx,he];rfl,fun hf=>hf c h.sol⟩
def GenS.out{q:Prob}{c c':Nat->Dm}(h:GenS q c)(g:GenS q c')(u:Int->Bool){x:Nat}(hx:x<q.m*q.n):qN u c x=qN u c' x :=
 out_eq (N:=q.m*q.n) (fun _ _ hx a=>(h.eq_iff hx a).trans (g.eq_iff hx a).symm) (fun _ _ hx=>(h.val_iff hx).trans (g.val_iff hx).symm) u hx
def Frt.gen{q:Prob}{P:List Nat}{r h:Nat->Nat}(f:Frt q P r h)(b:eg q r):GenS q (eM q r):=by
 refine⟨f.sol b,fun σ a=>⟨σ,fun x hx=>?_⟩⟩;unfold eM;rw[f.sem σ a x hx]
 cases hk:q.K (r x) with
 | some v=>exact a.fix _ v (f.lt x hx) hk
 | none=>rfl
open Classical in
noncomputable def genC(q:Prob):Nat->Dm:=if h:∃c,GenS q c then h.choose else fun _=>.inr 0
def genC_ok{q:Prob}{c:Nat->Dm}(h:GenS q c):GenS q (genC q):=by
 have a:∃c,GenS q c:=⟨c,h⟩;unfold genC;rw[dif_pos a];exact a.choose_spec
def unkT(t:Tb)(k:Int):Bool:=(tr (t.rows.length*t.attrs.length)).any fun y=>decide ((eG t y).k=3)&&decide ((eG t y).n=k)
noncomputable def pO(t:Tb)(c:Nat->Dm)(i:Nat):Rw:=⟨(rwAt t i).id,(tr t.attrs.length).map fun a=>qN (unkT t) c (i*t.attrs.length+a)⟩
noncomputable def filT(t:Tb)(c:Nat->Dm):Tb:=⟨t.name,t.attrs,(tr t.rows.length).map (pO t c)⟩
def filT_congr{t:Tb}{fds:List Fd}{l:List Cr}{c c':Nat->Dm}(h:GenS (aQ t fds l) c)(g:GenS (aQ t fds l) c'):filT t c=filT t c':=by
 unfold filT;congr 1
 refine vY fun i hi=>?_
 unfold pO;congr 1
 refine vY fun a ha=>?_
 exact h.out g _ (bc (m:=(aQ t fds l).m) (n:=(aQ t fds l).n) (List.mem_range.1 hi) (List.mem_range.1 ha))
noncomputable def sY(t:Tb)(fds:List Fd)(l:List Cr):Tb:=filT t (genC (aQ t fds l))
def filTb_eq{t:Tb}{fds:List Fd}{l:List Cr}{c:Nat->Dm}(h:GenS (aQ t fds l) c):sY t fds l=filT t c:=filT_congr (genC_ok h) h
def Bnd(u:Int->Bool)(b:Int):Prop:=∀k,u k=true->k<=b
theorem rq{u:Int->Bool}{b:Int}(hu:Bnd u b)(n:Int):∀(d:Nat) (k:Int),n<k->(∀j,n<j->j<k->u j=true)->b+1-k<=d->∃m,IsNxt u n m/\m<=max k (b+1)
 | 0,k,h1,h2,c=>by
  refine⟨k,⟨h1,?_,h2⟩,ω⟩;cases hk:u k
  .rfl
  .have:=hu k hk;omega
 | d+1,k,h1,h2,c=>by
  cases hk:u k with
  | false=>exact⟨k,⟨h1,hk,h2⟩,ω⟩
  | true =>
   have hb:=hu k hk
   obtain⟨m,hm,hl⟩:=rq hu n d (k+1) ω (fun j a e=>by
    rcases Int.lt_or_le j k with h | h
    .exact h2 j a h
    .have:j=k:=by omega
     subst this;exact hk) ω
   exact⟨m,hm,ω⟩
def nxt_ok{u:Int->Bool}{b:Int}(hu:Bnd u b)(n:Int):IsNxt u n (nxt u n)/\nxt u n<=max (n+1) (b+1):=by
 obtain⟨m,hm,hl⟩:=rq hu n (b+1-(n+1)).toNat (n+1) ω (fun j h1 h2=>by omega) ω;rw[nxt_eq hm];exact⟨hm,hl⟩
theorem numP_le{u:Int->Bool}{b:Int}(hu:Bnd u b)(hb:0<=b):∀k:Nat,0<=kR u k/\kR u k<=b+k
 | 0=>by simp[kR];exact hb
 | k+1=>by
  have a:=numP_le hu hb k;have h:=nxt_ok hu (kR u k);have:=h.1.gt;rw[kR];omega
def fp_min(c:Nat->Dm)(x:Nat):∀z,z<fp c x->c z≠c x:=by
 intro z hz he;unfold fp at hz
 cases h:(tr (x+1)).find? fun y=>open Classical in decide (c y=c x) with
 | none =>
  rw[h]at hz;have:=List.find?_eq_none.1 h x ζ;simp at this
 | some y =>
  rw[h]at hz;simp only[wA]at hz;obtain⟨_,a,bs,e,g⟩:=List.find?_eq_some_iff_append.1 h
  have b:z∈a:=by
   have i:y<x+1:=by have:=List.mem_of_find?_eq_some h;simpa using this
   have hall:z∈a++y::bs:=by rw[<-e];simp;omega
   rcases List.mem_append.1 hall with d | d
   .exact d
   .exfalso
    have hp:(a++y::bs).Pairwise (· < ·):=by rw[<-e];exact List.pairwise_lt_range
    rw[vw]at hp
    rcases List.mem_cons.1 d with f | f
    .omega
    .have:=(List.pairwise_cons.1 hp.2.1).1 z f;omega
  have:=g z b;simp[he]at this
def fp_uniq{c:Nat->Dm}{x y:Nat}(h:c y=c x):fp c y=fp c x:=by
 have h1:=fp_min c x;have h2:=fp_min c y;have a:=fp_same c x;have b:=fp_same c y
 rcases ve (fp c y) (fp c x) with e | e | e
 .exact absurd (b.trans h) (h1 _ e)
 .exact e
 .exact absurd (a.trans h.symm) (h2 _ e)
def fU(d:Dm):Prop:=∃s,d = .inr s
def isSym_inl{d:Dm}{v:Vl}(h:d = .inl v):¬fU d:=by rintro⟨s,hs⟩;rw[h]at hs;cases hs
def rank_new{c:Nat->Dm}{x:Nat}(h1:fU (c x))(h2:fp c x=x):dw c (x+1)=dw c x+1:=by
 unfold dw;rw[ue,vK,uB];congr 1;rw[vh,if_pos (by simpa[fU] using And.intro h1 h2)];rfl
def rank_old{c:Nat->Dm}{x:Nat}(h:¬(fU (c x)/\fp c x=x)):dw c (x+1)=dw c x:=by
 unfold dw;rw[ue,vK,uB];rw[show List.filter _ [x]=[] by rw[vh,if_neg (by simpa[fU] using h)];rfl];rfl
def rank_le(c:Nat->Dm)(x:Nat):dw c x<=x:=by
 unfold dw;exact ug (uU _ _) ζ
noncomputable def cls(u:Int->Bool)(c:Nat->Dm)(x:Nat):Int:=kR u (dw c (fp c x)+1)
def out_inl{u:Int->Bool}{c:Nat->Dm}{x:Nat}{v:Vl}(h:c x = .inl v):qN u c x=v:=by unfold qN;rw[h]
def out_inr{u:Int->Bool}{c:Nat->Dm}{x:Nat}(h:fU (c x)):qN u c x=⟨3,cls u c x,tp⟩:=by
 obtain⟨s,hs⟩:=h;unfold qN;rw[hs];rfl
def cls_new{u:Int->Bool}{c:Nat->Dm}{x:Nat}(h:fp c x=x):cls u c x=nxt u (kR u (dw c x)):=by
 unfold cls;rw[h];rfl
def cls_uniq{u:Int->Bool}{c:Nat->Dm}{x y:Nat}(h:c y=c x):cls u c y=cls u c x:=by
 unfold cls;rw[fp_uniq h]
open Classical in
noncomputable def nmL(c:Nat->Dm)(r:Nat->Nat)(x:Nat):List Nat:=((tr x).filter fun y=>decide (fU (c y)/\fp c y=y)).map r
theorem nmL_zero(c:Nat->Dm)(r:Nat->Nat):nmL c r 0=[]:=rfl
def nmL_new{c:Nat->Dm}{r:Nat->Nat}{x:Nat}(h1:fU (c x))(h2:fp c x=x):nmL c r (x+1)=nmL c r x++[r x]:=by
 unfold nmL;rw[ue,vK,uu];congr 1;rw[vh,if_pos (by simpa using And.intro h1 h2)];rfl
def nmL_old{c:Nat->Dm}{r:Nat->Nat}{x:Nat}(h:¬(fU (c x)/\fp c x=x)):nmL c r (x+1)=nmL c r x:=by
 unfold nmL;rw[ue,vK,uu];rw[show List.filter _ [x]=[] by rw[vh,if_neg (by simpa using h)];rfl];simp
def nmL_mem{q:Prob}{r:Nat->Nat}{x:Nat}(h:fU (eM q r x)):r x∈nmL (eM q r) r x↔fp (eM q r) x≠x:=by
 have hr:∀y,eM q r y=eM q r x->r y=r x:=fun y he=>by
  obtain⟨s,hs⟩:=h
  have h1:eM q r x = .inr (r x):=by
   unfold eM at hs ⊢
   cases hk:q.K (r x) with
   | some v=>rw[hk]at hs;cases hs
   | none=>rfl
  rw[h1]at he;unfold eM at he
  cases hk:q.K (r y) with
  | some v=>rw[hk]at he;cases he
  | none=>rw[hk]at he;exact Sum.inr.inj he
 have d:=fp_le (eM q r) x;constructor
 .intro hm;obtain⟨y,b,a⟩:=List.mem_map.1 hm;obtain⟨h1,h2⟩:=List.mem_filter.1 b
  have c:y<x:=by simpa using h1
  obtain⟨f,g⟩:fU (eM q r y)/\fp (eM q r) y=y:=by simpa using h2
  have:eM q r y=eM q r x:=by unfold eM;rw[a]
  have:=fp_uniq this;omega
 .intro e;have h1:=fp_same (eM q r) x;refine List.mem_map.2 ⟨fp (eM q r) x,List.mem_filter.2 ⟨χ,by simpa using And.intro (show fU (eM q r (fp (eM q r) x)) by rw[h1];exact h) (fp_uniq h1)⟩,hr _ h1⟩
end
@[simp ↓ high] theorem rbB_rws (n e z:Nat) (l:List Rw) (fz:Bool):rbB n (.buf e z (l.map aF) fz)↔True:=by
 refine⟨fun _=>trivial,fun _ x hx c a=>?_⟩;obtain⟨r,_,rfl⟩:=List.mem_map.1 hx;simp[aF,LV,V.cells]at a
 rcases a with rfl | rfl<;>simp
@[simp ↓ high] theorem rbB_vls (n e z:Nat) (l:List Vl) (fz:Bool):rbB n (.buf e z (l.map aP) fz)↔True:=by
 refine⟨fun _=>trivial,fun _ x hx c a=>?_⟩;obtain⟨r,_,rfl⟩:=List.mem_map.1 hx;simp[aP,V.cells]at a
 rcases a with rfl | rfl | rfl<;>simp
end
end Go.Proofs.YtnaokiodhoadjaaGreatDoor
