/- JB31: texts H18, H19, H8, H9, H10, H11, H12, joined and shortened by pack6.py. -/
import Derived.Test.YtnaokiodhoadjaaGreatDoorJB30
set_option linter.all false
set_option maxRecDepth 100000
set_option maxHeartbeats 64000000
open List renaming replicate→tg,length_cons→uX,all_cons→vE,getD→wU,all_nil→xd
namespace Go.Proofs.YtnaokiodhoadjaaGreatDoor
section
open Go Go.AM Go.Proofs.Tryz
section
def swp(j:Nat)(l:List Nat):List Nat:=(l.set (j+1) (l.getD j 0)).set j (l.getD (j+1) 0)
def iA(lt:Nat->Nat->Bool):Nat->List Nat->List Nat
 | 0,l=>l
 | j+1,l=>if lt (l.getD (j+1) 0) (l.getD j 0)=true then iA lt j (swp j l) else l
def isF(lt:Nat->Nat->Bool):Nat->Nat->List Nat->List Nat
 | 0,_,l=>l
 | r+1,i,l=>isF lt r (i+1) (iA lt i l)
def swp_len(j:Nat)(l:List Nat):(swp j l).length=l.length:=by simp[swp]
def swp_perm(j:Nat)(l:List Nat)(h:j+1<l.length):(swp j l).Perm l:=by
 unfold swp;rw[aY l 0 h,aY l 0 (show j<l.length by omega)];exact List.set_set_perm h ω
theorem jI(lt:Nat->Nat->Bool):∀(j:Nat) (l:List Nat),j<l.length->(iA lt j l).Perm l
 | 0,l,_=>.refl _
 | j+1,l,h=>by
  rw[iA];split
  .exact(jI lt j (swp j l) (by rw[swp_len];omega)).trans (swp_perm j l h)
  .exact .refl _
theorem kU(lt:Nat->Nat->Bool):∀(r i:Nat) (l:List Nat),i+r<=l.length->(isF lt r i l).Perm l
 | 0,_,l,_=>.refl _
 | r+1,i,l,h=>by
  rw[isF];have h1:=jI lt i l ω;exact(kU lt r (i+1) _ (by rw[h1.length_eq];omega)).trans h1
def mJ(x:Nat):List Nat->List Nat
 | []=>[x]
 | y::rp=>if x<y then mJ x rp++[y] else rp.reverse++[y,x]
def ltN(a b:Nat):Bool:=decide (a<b)
theorem sink_ins(x:Nat):∀(a post:List Nat),iA ltN a.length (a.reverse++x::post)=mJ x a++post
 | [],post=>rfl
 | y::a,post=>by
  have e:(y::a).reverse++x::post=a.reverse++y::x::post:=by simp
  rw[e,uX,iA,mJ]
  have c:(a.reverse++y::x::post).getD (a.length+1) 0=x:=by
   simp[wU,uD]
  have b:(a.reverse++y::x::post).getD a.length 0=y:=by
   simp[wU,uD]
  have d:swp a.length (a.reverse++y::x::post)=a.reverse++x::y::post:=by
   unfold swp;rw[c,b,uq _ _ ζ,uq _ _ ζ];simp
  rw[c,b,d];by_cases h:x<y
  .rw[if_pos (by simp[ltN,h]),if_pos h,sink_ins x a (y::post)];simp
  .rw[if_neg (by simp[ltN,h]),if_neg h];simp
theorem insBn_mem(x:Nat):∀(a:List Nat) (z:Nat),z∈mJ x a↔z=x\/z∈a
 | [],z=>by simp[mJ]
 | y::a,z=>by
  rw[mJ];split
  .rw[vG,uQ,tw,insBn_mem x a z];constructor
   .rintro((h | h) | h)
    .exact .inl h
    .exact .inr (.inr h)
    .exact .inr (.inl h)
   .rintro(h | h | h)
    .exact .inl (.inl h)
    .exact .inr h
    .exact .inl (.inr h)
  .simp only[vG,List.mem_reverse,tw,tq,or_false];constructor
   .rintro(h | h | h)<;>simp[h]
   .rintro(h | h | h)<;>simp[h]
theorem nn(x:Nat):∀c:List Nat,c.reverse.Pairwise (·<=·)->(mJ x c).Pairwise (·<=·)
 | [],_=>by simp[mJ]
 | y::c,h=>by
  rw[List.reverse_cons,vw]at h;obtain⟨h1,_,d⟩:=h;rw[mJ];split
  .rename_i hx;rw[vw];refine⟨nn x c h1,ζ,fun a ha b hb=>?_⟩;rw[uQ]at hb;subst hb
   rcases(insBn_mem x c a).1 ha with rfl | ha
   .omega
   .exact d a (by simpa using ha) b ζ
  .rename_i hx;rw[vw];refine⟨h1,χ,fun a ha b hb=>?_⟩;have:=d a ha y ζ;simp at hb
   rcases hb with rfl | rfl<;>omega
theorem sG:∀(r i:Nat) (l:List Nat),i+r=l.length->(l.take i).Pairwise (·<=·)->(isF ltN r i l).Pairwise (·<=·)
 | 0,i,l,h,hs=>by
  rw[isF]
  rwa [uY ω]at hs
 | r+1,i,l,h,hs=>by
  rw[isF]
  have hi:i<l.length:=by omega
  have e:l=(l.take i).reverse.reverse++l[i]::l.drop (i+1):=by
   rw[we,<-th hi,vT]
  have hl:(l.take i).reverse.length=i:=by simp;omega
  have hk:=sink_ins l[i] (l.take i).reverse (l.drop (i+1));rw[hl,<-e]at hk
  have a:(mJ l[i] (l.take i).reverse).length=i+1:=by
   have h1:=(jI ltN i l hi).length_eq;rw[hk,uB,xP]at h1;omega
  refine sG r (i+1) _ (by rw[(jI ltN i l hi).length_eq];omega) ?_;rw[hk,xt a];exact nn _ _ (by rwa [we])
section
variable {H:List B} {k:Nat}
def SL(H:List B)(k:Nat)(l:List Nat):List B:=H.set k (.buf 3 1 (nuL l) false)
def SL_at{H:List B}{k:Nat}(h:k<H.length)(l:List Nat):(SL H k l)[k]?=some (.buf 3 1 (nuL l) false):=by
 unfold SL;rw[uJ h]
def SL_set(H:List B)(k:Nat)(l a:List Nat):(SL H k l).set k (.buf 3 1 (nuL a) false)=SL H k a:=by
 unfold SL;rw[vq]
def iZ(H:List B)(k:Nat)(l:List Nat):(SL H k l).length=H.length:=by simp[SL]
def SL_rb{H:List B}(a:∀bl∈H,rbB H.length bl)(k:Nat)(l:List Nat):∀bl∈SL H k l,rbB (SL H k l).length bl:=iC a ((rbB_buf1 (eS l)).2 trivial)
def nan_I(x:Int):aK prog 179 [.int .i64 x] fun r=>r = .bool false:=by
 refine sPx func179 ?_;simp -dsimp[f179,tg]
def less_I(a b:Nat):aK prog 227 [.int .i64 (a:Int),.int .i64 (b:Int)] fun r=>r = .bool (ltN a b):=by
 unfold ltN;by_cases h:a<b
 .rw[decide_eq_true h];refine sPx func227 ?_;simp -dsimp[f227,tg];refine cPx (nan_I a) ?_;simp -dsimp[h]
 .rw[decide_eq_false h];refine sPx func227 ?_;simp -dsimp[f227,tg];refine cPx (nan_I a) ?_;simp -dsimp[h]
def insOrd_h(hk:k<H.length)(I:∀bl∈H,rbB H.length bl)(l:List Nat)(n:Nat)(hn:l.length=n)(R:n<=1000000):
  ak prog 221 [.buf k 0 n n,.int .i64 0,.int .i64 n] (SL H k l) fun _ H'=>H'=SL H k (isF ltN (n-1) 1 l):=by
 obtain⟨S,L⟩:=ξ (isF ltN (n-1) 1 l);rw[<-L];have O:IntKind.i64.wrap (1:Int)=1:=wrap64 ω ω;refine aH tok func221 rfl rfl ?_;refine wx ?_;simp -dsimp[f221,tg,O];refine aI (W_loopM 49 0x1fffffffffcc0 zMx (σ:=Nat×List Nat) (fun p=>1<=p.1/\p.1<=n+1/\p.2.length=n/\isF ltN (n-p.1) p.1 p.2=S) (fun p=>n+1-p.1) (fun p=>[(6,.int .i64 p.1)]) (fun p=>SL H k p.2) (1,l) ⟨ζ,ζ,hn,L.symm⟩ ζ ζ (by simp[iZ]) ?_);rintro⟨i,J⟩ ⟨hi,G,s,hx⟩ N Q A M;simp only at hi G s hx A;by_cases hb:i<n
 .rw[(ω:n-i=(n-(i+1))+1),isF]at hx;refine wx ?_;simp -dsimp[hb];refine aI (W_loopM 49 0x1ffffffff0080 zMx (σ:=Nat×List Nat) (fun p=>p.1<=i/\p.2.length=n/\iA ltN p.1 p.2=iA ltN i J) (fun p=>p.1) (fun p=>[(7,.int .i64 p.1)]) (fun p=>SL H k p.2) (i,J) ⟨ζ,s,rfl⟩ ζ ζ (by simp[iZ]) ?_);rintro⟨j,a⟩ ⟨T,b,c⟩ X W v r;simp only at T b c v;have B:=SL_at hk a;have f:=bJ a
  cases j with
  | zero =>
   rw[iA]at c;refine wx ?_;simp -dsimp;refine sTx ?_;apply r;simp -dsimp[aE i ω];refine A (i+1,a) _ _ ⟨θ,θ,b,by rw[c];exact hx⟩ θ ζ ⟨[],ζ⟩ (by simp[iZ];exact hk) (SL_rb I k a)
  | succ j =>
   rw[iA]at c
   have a1:=fun h=>bm (m:=a) (x:=j+1) h
   have a0:=fun h=>bm (m:=a) (x:=j) h
   have z:IntKind.i64.wrap (((j:Int)+1)-1)=(j:Int):=by rw[wrap64 ω ω];omega
   have d:IntKind.i64.wrap (j:Int)=(j:Int):=bA j ω
   have o:j+1<n:=by omega
   have q:j<n:=by omega
   obtain⟨x,g⟩:=ξ (a.getD (j+1) 0);obtain⟨y,e⟩:=ξ (a.getD j 0);rw[<-g,<-e]at c;rw[<-g]at a1;rw[<-e]at a0;have cl:=less_I x y
   cases hq:ltN x y with
   | true =>
    rw[hq]at cl;rw[if_pos hq]at c;refine wx ?_;simp -dsimp[B,f,b,o,q,a1,a0,z,d,(ω:(0:Int)<=(j:Int)+1),(ω:(j:Int)+1<(n:Int))];refine sTx ?_;refine cQx cl ?_;simp -dsimp
    have F:swp j a=(a.set (j+1) y).set j x:=by unfold swp;rw[<-g,<-e]
    have t:(nuL a).set (j+1) (.int .i64 (y:Int))=nuL (a.set (j+1) y):=eR a (j+1) y
    have w:(nuL (a.set (j+1) y)).set j (.int .i64 (x:Int))=nuL (swp j a):=by rw[F];exact eR _ j x
    have U:=SL_at hk (a.set (j+1) y);have E:=SL_set H k a (a.set (j+1) y);have D:=SL_set H k (a.set (j+1) y) (swp j a);have u:=bJ (a.set (j+1) y);rw[vb]at u
    have b0:=fun h=>bm (m:=a.set (j+1) y) (x:=j) h
    refine aI (ae tok mixed [15,17] [(2,[1]),(3,[1]),(4,[1])] [] υ fun C K V P=>?_);simp -implicitDefEqProofs [B,f,b,o,q,a1,a0,z,d,t,w,U,E,D,u,b0,(ω:(0:Int)<=(j:Int)+1),(ω:(j:Int)+1<(n:Int))];apply P;simp -dsimp[z,d];refine v (j,swp j a) _ _ ⟨θ,by rw[swp_len];exact b,c⟩ θ ζ ⟨[],ζ⟩ (by simp[iZ];exact hk) (SL_rb I k _)
   | false =>
    rw[hq]at cl;rw[if_neg (by rw[hq];simp)]at c;refine wx ?_;simp -dsimp[B,f,b,o,q,a1,a0,z,d,(ω:(0:Int)<=(j:Int)+1),(ω:(j:Int)+1<(n:Int))];refine sTx ?_;refine cQx cl ?_;simp -dsimp;apply r;simp -dsimp[aE i ω];refine A (i+1,a) _ _ ⟨θ,θ,b,by rw[c];exact hx⟩ θ ζ ⟨[],ζ⟩ (by simp[iZ];exact hk) (SL_rb I k a)
 .rw[(ω:n-i=0),isF]at hx;subst hx;refine wx ?_;simp -dsimp[hb];apply M;simp -dsimp
end
end
section
def qR(cf:Nat->Nat->Int)(a b:Nat):Bool:=decide (cf a b<0)
section
variable {H:List B} {k:Nat}
def insCmp_h(hk:k<H.length)(W:∀bl∈H,rbB H.length bl)(l:List Nat)(n:Nat)(hn:l.length=n)(ad:n<=1000000)(R:V)(t:rb H.length R)(cf:Nat->Nat->Int)(hp:∀a b,a∈l->b∈l->∀l',aM prog R [.int .i64 (a:Int),.int .i64 (b:Int)] (SL H k l') fun r H'=>r = .int .i64 (cf a b)/\H'=SL H k l'):
  ak prog 219 [.buf k 0 n n,.int .i64 0,.int .i64 n,R] (SL H k l) fun _ H'=>H'=SL H k (isF (qR cf) (n-1) 1 l):=by
 obtain⟨S,hS⟩:=ξ (isF (qR cf) (n-1) 1 l);rw[<-hS];have w1:IntKind.i64.wrap (1:Int)=1:=wrap64 ω ω;refine aH tok func219 rfl rfl ?_;refine wx ?_;simp -dsimp[f219,tg,w1];refine aI (W_loopM 53 0x1ffffffffff300 zMx (σ:=Nat×List Nat) (fun p=>1<=p.1/\p.1<=n+1/\p.2.length=n/\p.2.Perm l/\isF (qR cf) (n-p.1) p.1 p.2=S) (fun p=>n+1-p.1) (fun p=>[(8,.int .i64 p.1)]) (fun p=>SL H k p.2) (1,l) ⟨ζ,ζ,hn,.refl _,hS.symm⟩ ζ ζ (by simp[iZ]) ?_);rintro⟨i,l1⟩ ⟨hi,Z,D,B,hx⟩ N Q M hQ;simp only at hi Z D B hx M;by_cases hb:i<n
 .rw[(ω:n-i=(n-(i+1))+1),isF]at hx;refine wx ?_;simp -dsimp[hb];refine aI (W_loopM 53 0x1ffffffffc0200 zMx (σ:=Nat×List Nat) (fun p=>p.1<=i/\p.2.length=n/\p.2.Perm l/\iA (qR cf) p.1 p.2=iA (qR cf) i l1) (fun p=>p.1) (fun p=>[(9,.int .i64 p.1)]) (fun p=>SL H k p.2) (i,l1) ⟨ζ,D,B,rfl⟩ ζ ζ (by simp[iZ]) ?_);rintro⟨j,c⟩ ⟨hj,e,d,g⟩ N2 Q2 I A;simp only at hj e d g I;have P:=SL_at hk c;have s:=bJ c
  cases j with
  | zero =>
   rw[iA]at g;refine wx ?_;simp -dsimp;refine sTx ?_;apply A;simp -dsimp[aE i ω];refine M (i+1,c) _ _ ⟨θ,θ,e,d,by rw[g];exact hx⟩ θ ζ ⟨[],ζ⟩ (by simp[iZ];exact⟨hk,t⟩) (SL_rb W k c)
  | succ j =>
   rw[iA]at g
   have a1:=fun h=>bm (m:=c) (x:=j+1) h
   have a0:=fun h=>bm (m:=c) (x:=j) h
   have L:IntKind.i64.wrap (((j:Int)+1)-1)=(j:Int):=by rw[wrap64 ω ω];omega
   have q:IntKind.i64.wrap (j:Int)=(j:Int):=bA j ω
   have u:j+1<n:=by omega
   have v:j<n:=by omega
   obtain⟨x,o⟩:=ξ (c.getD (j+1) 0);obtain⟨y,f⟩:=ξ (c.getD j 0);rw[<-o,<-f]at g;rw[<-o]at a1;rw[<-f]at a0;have O:x∈l:=d.mem_iff.1 (by rw[o,aY c 0 ω];exact ti _);have Y:y∈l:=d.mem_iff.1 (by rw[f,aY c 0 ω];exact ti _);have cl:=hp x y O Y c;obtain⟨z,hz⟩:=ξ (cf x y);rw[<-hz]at cl
   have E:qR cf x y=decide (z<0):=by rw[hz];rfl
   cases hq:qR cf x y with
   | true =>
    rw[if_pos hq]at g;rw[E]at hq;have w:=of_decide_eq_true hq;refine wx ?_;simp -dsimp[P,s,e,u,v,a1,a0,L,q,(ω:(0:Int)<=(j:Int)+1),(ω:(j:Int)+1<(n:Int))];refine sTx ?_;refine oM _ cl ?_;simp -dsimp[w]
    have X:swp j c=(c.set (j+1) y).set j x:=by unfold swp;rw[<-o,<-f]
    have F:(nuL c).set (j+1) (.int .i64 (y:Int))=nuL (c.set (j+1) y):=eR c (j+1) y
    have J:(nuL (c.set (j+1) y)).set j (.int .i64 (x:Int))=nuL (swp j c):=by rw[X];exact eR _ j x
    have q9:=SL_at hk (c.set (j+1) y);have U:=SL_set H k c (c.set (j+1) y);have T:=SL_set H k (c.set (j+1) y) (swp j c);have G:=bJ (c.set (j+1) y);rw[vb]at G
    have b0:=fun h=>bm (m:=c.set (j+1) y) (x:=j) h
    refine aI (ae tok mixed [15,17] [(2,[1]),(3,[1]),(4,[1])] [] υ fun C K hC hK=>?_);simp -implicitDefEqProofs [P,s,e,u,v,a1,a0,L,q,F,J,q9,U,T,G,b0,(ω:(0:Int)<=(j:Int)+1),(ω:(j:Int)+1<(n:Int))];apply hK;simp -dsimp[L,q];refine I (j,swp j c) _ _ ⟨θ,by rw[swp_len];exact e,(swp_perm j c ω).trans d,g⟩ θ ζ ⟨[],ζ⟩ (by simp[iZ];exact⟨hk,t⟩) (SL_rb W k _)
   | false =>
    rw[if_neg (by rw[hq];simp)]at g;rw[E]at hq;have w:=of_decide_eq_false hq;refine wx ?_;simp -dsimp[P,s,e,u,v,a1,a0,L,q,(ω:(0:Int)<=(j:Int)+1),(ω:(j:Int)+1<(n:Int))];refine sTx ?_;refine oM _ cl ?_;simp -dsimp[w];apply A;simp -dsimp[aE i ω];refine M (i+1,c) _ _ ⟨θ,θ,e,d,by rw[g];exact hx⟩ θ ζ ⟨[],ζ⟩ (by simp[iZ];exact⟨hk,t⟩) (SL_rb W k c)
 .rw[(ω:n-i=0),isF]at hx;subst hx;refine wx ?_;simp -dsimp[hb];apply hQ;simp -dsimp
def bitsLen(n:Nat)(h:n<=12):∃v:Int,aK prog 79 [.int .u64 (n:Int)] fun r=>r = .int .i64 v :=
 match n,h with
 | 0,_=>⟨0,aC tok mixed aT bX (fuel:=1000) (d:=40) υ ζ⟩
 | 1,_=>⟨1,aC tok mixed aT bX (fuel:=1000) (d:=40) υ ζ⟩
 | 2,_=>⟨2,aC tok mixed aT bX (fuel:=1000) (d:=40) υ ζ⟩
 | 3,_=>⟨2,aC tok mixed aT bX (fuel:=1000) (d:=40) υ ζ⟩
 | 4,_=>⟨3,aC tok mixed aT bX (fuel:=1000) (d:=40) υ ζ⟩
 | 5,_=>⟨3,aC tok mixed aT bX (fuel:=1000) (d:=40) υ ζ⟩
 | 6,_=>⟨3,aC tok mixed aT bX (fuel:=1000) (d:=40) υ ζ⟩
 | 7,_=>⟨3,aC tok mixed aT bX (fuel:=1000) (d:=40) υ ζ⟩
 | 8,_=>⟨4,aC tok mixed aT bX (fuel:=1000) (d:=40) υ ζ⟩
 | 9,_=>⟨4,aC tok mixed aT bX (fuel:=1000) (d:=40) υ ζ⟩
 | 10,_=>⟨4,aC tok mixed aT bX (fuel:=1000) (d:=40) υ ζ⟩
 | 11,_=>⟨4,aC tok mixed aT bX (fuel:=1000) (d:=40) υ ζ⟩
 | 12,_=>⟨4,aC tok mixed aT bX (fuel:=1000) (d:=40) υ ζ⟩
 | n+13,h=>by omega
def sort_h(hk:k<H.length)(f:∀bl∈H,rbB H.length bl)(l:List Nat)(n:Nat)(hn:l.length=n)(a:n<=12):
  ak prog 105 [.buf k 0 n n] (SL H k l) fun _ H'=>H'=SL H k (isF ltN (n-1) 1 l):=by
 obtain⟨v,hv⟩:=bitsLen n a;have d:=insOrd_h hk f l n hn ω
 have g:ak prog 165 [.buf k 0 n n,.int .i64 0,.int .i64 n,.int .i64 v] (SL H k l) fun _ H'=>H'=SL H k (isF ltN (n-1) 1 l):=by
  have w0:IntKind.i64.wrap (n:Int)=n:=bA n ω;refine aH tok func165 rfl rfl ?_;refine wx ?_;simp -dsimp[f165,tg];refine aI (W_loopM 134 0x3fffffffffffffffffffffffffffffff0e zMx (σ:=Nat) (fun p=>p=0) (fun p=>0) (fun _=>[(8,.bool true),(9,.bool true),(1,.int .i64 0),(2,.int .i64 n),(3,.int .i64 v)]) (fun _=>SL H k l) 0 rfl ζ ζ ζ ?_);rintro p rfl N Q i c;refine wx ?_;simp -dsimp[w0,(ω:(n:Int)<=12),(ω:n<=12)];refine bd d ?_;rintro _ _ rfl;simp -dsimp;apply c;simp -dsimp
 have h:IntKind.u64.wrap (n:Int)=(n:Int):=by rw[IntKind.wrap_u64];omega
 have e:=SL_at hk l;have b:=bJ l;refine aH tok func105 rfl rfl ?_;refine wx ?_;simp -dsimp[f105,tg,e,b,hn,h];refine cPx hv ?_;simp -dsimp;refine bd g ?_;rintro _ _ rfl;simp -dsimp
def sortStable_h(hk:k<H.length)(q:∀bl∈H,rbB H.length bl)(l:List Nat)(n:Nat)(hn:l.length=n)(o:n<20)(c:V)(e:rb H.length c)(cf:Nat->Nat->Int)(hp:∀a b,a∈l->b∈l->∀g,aM prog c [.int .i64 (a:Int),.int .i64 (b:Int)] (SL H k g) fun r H'=>r = .int .i64 (cf a b)/\H'=SL H k g):
  ak prog 101 [.buf k 0 n n,c] (SL H k l) fun _ H'=>H'=SL H k (isF (qR cf) (n-1) 1 l):=by
 have i:=insCmp_h hk q l n hn ω c e cf hp
 have s:ak prog 163 [.buf k 0 n n,.int .i64 n,c] (SL H k l) fun _ H'=>H'=SL H k (isF (qR cf) (n-1) 1 l):=by
  refine aH tok func163 rfl rfl ?_;refine wx ?_;simp -dsimp[f163,tg];refine aI (W_loopM 23 0x7ff980 zMx (σ:=Nat) (fun p=>p=0) (fun p=>0) (fun _=>[(7,.int .i64 0),(8,.int .i64 20)]) (fun _=>SL H k l) 0 rfl ζ ζ ζ ?_);rintro p rfl N Q t h;refine wx ?_;simp -dsimp[(ω:¬(20:Int)<=n),(ω:¬20<=n)];apply h;simp -dsimp;refine bd i ?_;rintro _ _ rfl;simp -dsimp;refine aI (W_loopM 63 0x7ffffffff00003c0 zMx (σ:=Nat) (fun p=>p=0) (fun p=>0) (fun _=>[(6,.int .i64 20)]) (fun _=>SL H k (isF (qR cf) (n-1) 1 l)) 0 rfl ζ ζ ζ ?_);rintro p rfl v u j d;refine wx ?_;simp -dsimp[(ω:¬(20:Int)<n),(ω:¬20<n)];apply d;simp -dsimp
 have m:=SL_at hk l;have f:=bJ l;refine aH tok func101 rfl rfl ?_;refine wx ?_;simp -dsimp[f101,tg,m,f,hn];refine bd s ?_;rintro _ _ rfl;simp -dsimp
end
end
def valid39(ws:List Int)(es:List (List Int))(f g:Bool)(hl:∀e∈es,e.length<=1000000):aK prog 18 [jl f g ws es] fun r=>r = .int .i64 (oh ws es):=by
 unfold oh;by_cases h1:200<ws.length
 .rw[if_pos (.inl h1)];refine sPx func18 ?_;simp -dsimp[f18,tg,jl,LLi,(ω:(200:Int)<ws.length),L1]
 .by_cases h2:2000<es.length
  .rw[if_pos (.inr h2)];refine sPx func18 ?_;simp -dsimp[f18,tg,jl,LLi,(ω:¬(200:Int)<ws.length),(ω:(2000:Int)<es.length),L1]
  .rw[if_neg (fun h=>h.elim h1 h2)]
   obtain⟨E,K⟩:=ξ (if ws.all wOk then kJ ws.length es else 1)
   rw[<-K];refine sPx func18 ?_;simp -dsimp[f18,tg,jl,LLi,(ω:¬(200:Int)<ws.length),(ω:¬(2000:Int)<es.length),L1];refine aI (W_loopM 39 0x7ffffc000c zMx (σ:=Nat) (fun i=>i<=ws.length/\(if(ws.drop i).all wOk then kJ ws.length es else 1)=E) (fun i=>ws.length-i) (fun i=>[(3,.int .i64 i)]) (fun _=>[B.cells [.lst 1 f (ws.map aG),.lst 1 g (es.map (L1 false))]]) 0 ⟨ω,by rw[uG,K]⟩ ζ (by simp[L1]) ζ ?_);rintro i ⟨hi,hx⟩ P S G t;by_cases hb:i<ws.length
   .rw[th hb,vE]at hx;obtain⟨w,L⟩:=ξ (ws[i]);rw[<-L]at hx;have x:=L.symm;by_cases q1:1<=w
    .by_cases y:w<=1000000
     .rw[show wOk w=true by simp[wOk,q1,y],uF]at hx;refine wx ?_;simp -dsimp[hb,x,aG,(ω:¬w<1),(ω:¬(1000000:Int)<w),aE i ω,L1];refine G (i+1) _ _ ⟨ω,hx⟩ ω ?_ ⟨[],?_⟩ ?_ ?_<;>simp[or_imp,forall_and,L1,aG]
     .rw[show wOk w=false by simp[wOk,y],uE,if_neg ζ]at hx;refine wx ?_;simp -dsimp[hb,x,aG,(ω:¬w<1),(ω:(1000000:Int)<w),L1];apply t;simp -dsimp[L1];exact hx
    .rw[show wOk w=false by simp[wOk,q1],uE,if_neg ζ]at hx;refine wx ?_;simp -dsimp[hb,x,aG,(ω:w<1),L1];apply t;simp -dsimp[L1];exact hx
   .rw[tj ω,xd,if_pos rfl]at hx;refine wx ?_;simp -dsimp[hb,L1];apply t;simp -dsimp[L1];refine aI (W_loopM 77 0x1fffffffff80000000f4 zMx (σ:=Nat) (fun j=>j<=es.length/\kJ ws.length (es.drop j)=E) (fun j=>es.length-j) (fun j=>[(4,.int .i64 j)]) (fun _=>[B.cells [.lst 1 f (ws.map aG),.lst 1 g (es.map (L1 false))]]) 0 ⟨ω,by rw[uG,hx]⟩ ζ (by simp[L1]) ζ ?_);rintro j ⟨O,s⟩ T Q I o;by_cases c:j<es.length
    .rw[th c,kJ,vE]at s;have H:=hl es[j] (ti c);obtain⟨e,he⟩:=ξ (es[j]);rw[<-he]at s H;have m:=he.symm;obtain⟨R,J⟩:=ξ ((es.drop (j+1)).all (eOk ws.length));rw[<-J]at s;rw[eOk]at s;refine wx ?_;simp -dsimp[c,L1];refine aI (W_loopM 75 0x7ffffffc000000000e4 zMx (σ:=Nat×Int) (fun p=>p.1<=e.length/\-1<=p.2/\(p.1=0->p.2 = -1)/\(0<p.1->0<=p.2)/\(if((gn ws.length p.2 (e.drop p.1)&&!e.isEmpty)&&R)=true then(0:Int) else 1)=E) (fun p=>e.length-p.1) (fun p=>[(6,.int .i64 p.1),(5,.int .i64 p.2)]) (fun _=>[B.cells [.lst 1 f (ws.map aG),.lst 1 g (es.map (L1 false))]]) (0,-1) ⟨ζ,ζ,ζ,ζ,by rw[uG];exact s⟩ ζ (by simp[L1]) ζ ?_);rintro⟨k,d⟩ ⟨hk,F,D,C,hz⟩ N M z n;simp only at hk hz z F D C;by_cases l:k<e.length
     .rw[th l,gn]at hz;obtain⟨v,hv⟩:=ξ (e[k]);rw[<-hv]at hz;have q:=hv.symm;by_cases q1:d<v
      .by_cases y:v<ws.length
       .rw[decide_eq_true q1,decide_eq_true y,uF,uF]at hz;refine wx ?_;simp -dsimp[c,m,l,q,aG,(ω:¬v<=d),(ω:¬(ws.length:Int)<=v),aE k ω,L1];refine z (k+1,v) _ _ ⟨θ,θ,ζ,θ,hz⟩ ω ?_ ⟨[],?_⟩ ?_ ?_<;>simp[or_imp,forall_and,L1,aG]
       .rw[decide_eq_false y,vv,uE,uE,uE,if_neg ζ]at hz;refine wx ?_;simp -dsimp[c,m,l,q,aG,(ω:¬v<=d),(ω:(ws.length:Int)<=v),L1];apply n;simp -dsimp[L1];apply o;simp -dsimp[L1];exact hz
      .rw[decide_eq_false q1,uE,uE,uE,uE,if_neg ζ]at hz;refine wx ?_;simp -dsimp[c,m,l,q,aG,(ω:v<=d),L1];apply n;simp -dsimp[L1];apply o;simp -dsimp[L1];exact hz
     .rw[tj ω,gn,uF]at hz;by_cases h0:e.length=0
      .have u:e=[]:=List.length_eq_zero_iff.1 h0;have A:=D ω;rw[u]at hz;simp at hz;subst A;refine wx ?_;simp -dsimp[c,m,l,L1];apply n;simp -dsimp[L1];apply o;simp -dsimp[L1];exact hz
      .have u:e.isEmpty=false:=by cases e with
        | nil=>simp at h0
        | cons a b=>rfl
       rw[u,xT,uF,J]at hz;have A:=C ω;refine wx ?_;simp -dsimp[c,m,l,L1];apply n;simp -dsimp[(ω:¬d<0),aE j ω,L1];refine I (j+1) _ _ ⟨ω,hz⟩ ω ?_ ⟨[],?_⟩ ?_ ?_<;>simp[or_imp,forall_and,L1,aG]
    .rw[tj ω]at s;refine wx ?_;simp -dsimp[c,L1];apply o;simp -dsimp[L1];exact s
def valid39N(ws:List Int)(es:List (List Nat))(f g:Bool)(hl:∀e∈es,e.length<=1000000):aK prog 18 [aV f g ws es] fun r=>r = .int .i64 (fN ws es):=by
 have:=valid39 ws (cst es) f g (fun e he=>by obtain⟨e',h,rfl⟩:=List.mem_map.1 he;rw[ud];exact hl e' h)
 rwa [encHs_cst]at this
def qI{a:Type}(p:a->Bool)(l:List a)(i:Nat)(h:i<l.length):(l.drop i).any p=(p l[i]||(l.drop (i+1)).any p):=by rw[th h];rfl
def has39(e:List Nat)(v:Nat)(g:Bool)(hl:e.length<=1000000):aK prog 47 [Ln g e,.int .i64 (v:Int)] fun r=>r = .bool (e.contains v):=by
 obtain⟨E,b⟩:=ξ (e.contains v);rw[<-b]
 have f:∀l:List Nat,l.contains v=l.any fun u=>decide (u=v):=fun l=>by
  rw[vH];simp
 rw[f]at b;refine sPx func47 ?_;simp -dsimp[f47,tg,Ln];refine aI (W_loopM 18 0x3fff0 zMx (σ:=Nat) (fun i=>i<=e.length/\(e.drop i).any (fun u=>decide (u=v))=E) (fun i=>e.length-i) (fun i=>[(5,.int .i64 i)]) (fun _=>[]) 0 ⟨ω,by rw[uG,b]⟩ ζ rfl ζ ?_);rintro i ⟨hi,hx⟩ N Q d c;by_cases hb:i<e.length
 .rw[qI _ _ _ hb]at hx;obtain⟨u,hu⟩:=ξ (e[i]);rw[<-hu]at hx;have a:=hu.symm;by_cases hq:u=v
  .rw[decide_eq_true hq,xz]at hx;refine wx ?_;simp -dsimp[hb,a,eN,hq];apply c;simp -dsimp;exact hx.symm
  .rw[decide_eq_false hq,vP]at hx;refine wx ?_;simp -dsimp[hb,a,eN,hq,(ω:¬(u:Int)=v),aE i ω];refine d (i+1) _ _ ⟨ω,hx⟩ ω ζ ⟨[],rfl⟩ ζ ζ
 .rw[tj ω,List.any_nil]at hx;refine wx ?_;simp -dsimp[hb];apply c;simp -dsimp;exact hx.symm
def meets39(a b:List Nat)(j g:Bool)(hl:a.length<=1000000)(hm:b.length<=1000000):aK prog 48 [Ln j a,Ln g b] fun r=>r = .bool (kT a b):=by
 obtain⟨E,e⟩:=ξ (kT a b);rw[<-e];unfold kT at e;refine sPx func48 ?_;simp -dsimp[f48,tg,Ln];refine aI (W_loopM 18 0x3fff0 zMx (σ:=Nat) (fun i=>i<=a.length/\(a.drop i).any (fun v=>b.contains v)=E) (fun i=>a.length-i) (fun i=>[(5,.int .i64 i)]) (fun _=>[]) 0 ⟨ω,by rw[uG,e]⟩ ζ rfl ζ ?_);rintro i ⟨hi,hx⟩ N Q h f;by_cases hb:i<a.length
 .rw[qI _ _ _ hb]at hx;obtain⟨u,hu⟩:=ξ (a[i]);rw[<-hu]at hx;have d:=hu.symm;have c:=has39 b u g hm;simp only[Ln]at c
  cases hq:b.contains u with
  | true =>
   rw[hq]at c hx;refine wx ?_;simp -dsimp[hb,d,eN];refine cPx c ?_;simp -dsimp;apply f;simp -dsimp;simpa using hx.symm
  | false =>
   rw[hq]at c hx;refine wx ?_;simp -dsimp[hb,d,eN];refine cPx c ?_;simp -dsimp[aE i ω];refine h (i+1) _ _ ⟨ω,by simpa using hx⟩ ω ζ ⟨[],rfl⟩ ζ ζ
 .rw[tj ω,List.any_nil]at hx;refine wx ?_;simp -dsimp[hb];apply f;simp -dsimp;exact hx.symm
def encSt(c a:Bool)(ch ex:List Nat)(b:Int):V:=.agg [Ln c ch,Ln a ex,.int .i64 b]
@[simp] theorem encSt_pure (c a:Bool) (ch ex:List Nat) (b:Int):AM.Pure (encSt c a ch ex b):=by simp[encSt]
end
end Go.Proofs.YtnaokiodhoadjaaGreatDoor
section
namespace Go.Proofs.YtnaokiodhoadjaaGreatDoor
open Go Go.AM Go.Proofs.Tryz
end Go.Proofs.YtnaokiodhoadjaaGreatDoor
end
section
namespace Go.Proofs.YtnaokiodhoadjaaGreatDoor
open Go Go.AM Go.Proofs.Tryz
end Go.Proofs.YtnaokiodhoadjaaGreatDoor
end
section
namespace Go.Proofs.YtnaokiodhoadjaaGreatDoor
open Go Go.AM Go.Proofs.Tryz
end Go.Proofs.YtnaokiodhoadjaaGreatDoor
end
