/- JB19: texts Y5, joined and shortened by pack6.py. -/
import Derived.Test.YtnaokiodhoadjaaGreatDoorJB18
set_option linter.all false
set_option maxRecDepth 100000
set_option maxHeartbeats 64000000
open ByteArray renaming empty→tp
open List renaming replicate→tg,range→tr,nil_append→uL,length_cons→uX,cons_append→ur,getElem?_cons_succ→vC,getElem?_cons_zero→vI,length_nil→vm,take→xX,idxOf→xx
open Option renaming map_some→uS
namespace Go.Proofs.YtnaokiodhoadjaaGreatDoor
section
open Go Go.AM Go.Proofs.Tryz
section
structure En where
 v:Vl
 s:Int
def du(x:En):V:=.agg [.int .i64 x.v.k,.int .i64 x.v.n,.str x.v.s,.int .i64 x.s]
@[simp] theorem encEn_pure (x:En):AM.Pure (du x):=by simp[du]
@[simp] theorem encEn_oneV (x:En):cC (du x)=true:=rfl
def ba_beq(c c':ByteArray):(c == c')=true↔c=c':=by
 obtain⟨a⟩:=c;obtain⟨b⟩:=c';show ByteArray.beq ⟨a⟩ ⟨b⟩=true↔_;simp[ByteArray.beq]
def si(x y:En):Bool:=(x.v.k == y.v.k&&(x.v.n == y.v.n&&(x.v.s == y.v.s)))&&x.s == y.s
def gG(x y:En):si x y=true↔x=y:=by
 unfold si;obtain⟨⟨a,b,c⟩,d⟩:=x;obtain⟨⟨e,g,c'⟩,f⟩:=y;simp[and_assoc,ba_beq]
def eqEn(H:List B)(k n s:Int)(t:ByteArray)(k' a s':Int)(b:ByteArray):fk T H 190 (.agg [.int .i64 k,.int .i64 n,.str t,.int .i64 s]) (.agg [.int .i64 k',.int .i64 a,.str b,.int .i64 s'])=some (si ⟨⟨k,n,t⟩,s⟩ ⟨⟨k',a,b⟩,s'⟩):=by
 have h1:∀x y:Int,eqD T 9998 2 (.int .i64 x) (.int .i64 y)=some (x == y):=fun x y=>by simp[eqD]
 have h2:∀x y:Int,eqD T 9998 3 (.int .i64 x) (.int .i64 y)=some (x == y):=fun x y=>by simp[eqD]
 have c:∀x y:Int,eqD T 9999 3 (.int .i64 x) (.int .i64 y)=some (x == y):=fun x y=>by simp[eqD]
 have d:∀x y:ByteArray,eqD T 9998 9 (.str x) (.str y)=some (x == y):=fun x y=>by simp[eqD]
 have e:eqD T 9999 77 (.agg [.int .i64 k,.int .i64 n,.str t]) (.agg [.int .i64 k',.int .i64 a,.str b])=some (k == k'&&(n == a&&(t == b))):=by
  rw[show(9999:Nat)=9998+1 from rfl,eqD];simp only[T_77];simp only[if_true,eqFs,jw,T_2,T_3,T_9,cZ,vI,vC,uM,if_false,h1,h2,d];cases (k == k')<;>cases (n == a)<;>cases (t == b)<;>simp
 simp only[fk];rw[show(10000:Nat)=9999+1 from rfl,eqD];simp only[T_190];simp only[if_true,eqFs,jw,T_3,T_77,cZ,uX,vm,List.drop,xX,vI,vC,uM,if_false];simp[e,c,si];cases (k == k')<;>cases (n == a)<;>cases (t == b)<;>cases (s == s')<;>simp
def fO(e:Nat->En)(n i:Nat):List V:=(tr n).map fun a=>du (e (i*n+a))
def jO(b m n:Nat):List V:=(tr m).map fun i=>.buf (b+i) 0 n n
def eQ(e:Nat->En)(n i:Nat):(fO e n i).length=n:=by simp[fO]
def im(b m n:Nat):(jO b m n).length=m:=by simp[jO]
def kI{e:Nat->En}{n i a:Nat}(h:a<(fO e n i).length):(fO e n i)[a]=du (e (i*n+a)):=by simp[fO]
def rk{b m n i:Nat}(h:i<(jO b m n).length):(jO b m n)[i] = .buf (b+i) 0 n n:=by simp[jO]
def lF(e:Nat->En)(n i:Nat):∀x∈fO e n i,AM.Pure x/\cC x=true:=by
 intro x hx;obtain⟨a,_,rfl⟩:=List.mem_map.1 hx;exact⟨encEn_pure _,rfl⟩
def He(H:List B)(b m n:Nat)(e:Nat->En):List B:=(tr H.length).map fun k=>if b<=k/\k<b+m then .buf 190 4 (fO e n (k-b)) false else(H[k]?).getD (.cells [])
structure EOk (H:List B) (ko b m n:Nat):Prop where
 ho:H[ko]?=some (.buf 187 1 (jO b m n) false)
 lt:b+m<=H.length
 no:ko<b
 rb:∀bl∈H,rbB H.length bl
def et(H:List B)(b m n:Nat)(e:Nat->En):(He H b m n e).length=H.length:=by simp[He]
def mb{H:List B}{ko b m n:Nat}(g:EOk H ko b m n)(e:Nat->En){i:Nat}(hi:i<m):(He H b m n e)[b+i]?=some (.buf 190 4 (fO e n i) false):=by
 have:=g.lt;unfold He;rw[uK,vX ω,uS,if_pos ω,Nat.add_sub_cancel_left]
def he_other{H:List B}{b m n:Nat}(e:Nat->En){k:Nat}{x:B}(h:H[k]?=some x)(hk:k<b\/b+m<=k):(He H b m n e)[k]?=some x:=by
 have:=aB h;unfold He;rw[uK,vX ω,uS,if_neg ω,h];rfl
def he_out{H:List B}{ko b m n:Nat}(g:EOk H ko b m n)(e:Nat->En):(He H b m n e)[ko]?=some (.buf 187 1 (jO b m n) false):=he_other e g.ho (.inl g.no)
def he_set{H:List B}{ko b m n:Nat}(g:EOk H ko b m n)(e e':Nat->En){i:Nat}(hi:i<m)(h:∀k a,k<m->a<n->k≠i->e' (k*n+a)=e (k*n+a)):(He H b m n e).set (b+i) (.buf 190 4 (fO e' n i) false)=He H b m n e':=by
 have:=g.lt;apply uw;intro k;by_cases hk:k=b+i
 .subst hk;rw[uJ (by rw[et];omega),mb g e' hi]
 .rw[uH (Ne.symm hk)];unfold He;rw[uK,uK];by_cases c:k<H.length
  .rw[vX c,uS,uS];congr 1;split
   .rename_i d;congr 1;unfold fO
    refine vY fun a ha=>?_
    rw[h (k-b) a ω (by simpa using ha) ω]
   .rfl
  .rw[un χ];rfl
def md{H:List B}{ko b m n:Nat}(g:EOk H ko b m n)(G:List B)(e:Nat->En):He H b m n e++G=He (H++G) b m n e:=by
 have:=g.lt;apply uw;intro k;by_cases hk:k<H.length
 .rw[tu (by rw[et];exact hk)];unfold He;rw[uK,uK,vX hk,vX χ,uS,uS,tu hk]
 .rw[uD (by rw[et];omega),et];unfold He;rw[uK];by_cases a:k<(H++G).length
  .rw[vX a,uS,if_neg ω,uD ω]
   have:k-H.length<G.length:=by rw[uB]at a;omega
   rw[tm this];rfl
  .rw[un (by simp at a ⊢;omega),un (by simp at a ⊢;omega)];rfl
def he_rb{H:List B}{ko b m n:Nat}(g:EOk H ko b m n)(e:Nat->En):∀bl∈He H b m n e,rbB (He H b m n e).length bl:=by
 intro bl a;rw[et];obtain⟨k,hk,rfl⟩:=List.mem_map.1 a;split
 .rw[rbB_buf1 (lF e n _)];trivial
 .have hk:k<H.length:=by simpa using hk
  rw[tm hk];exact g.rb _ (ti hk)
def EOk.app{H:List B}{ko b m n:Nat}(g:EOk H ko b m n)(G:List B)(c:∀bl∈G,rbB (H++G).length bl):EOk (H++G) ko b m n:=by
 have h1:=aB g.ho;refine⟨by rw[tu h1];exact g.ho,by have:=g.lt;simp;omega,g.no,fun bl a=>?_⟩
 rcases List.mem_append.1 a with h | h
 .exact gV ζ (g.rb bl h)
 .exact c bl h
def AgrN(e:Nat->En)(i k:Nat)(s:Int)(n c:Nat):Prop:=∀a,a<c->gd s a=true->e (i*n+a)=e (k*n+a)
open Classical in
noncomputable def agN(e:Nat->En)(i k:Nat)(s:Int)(n:Nat):Bool:=decide (AgrN e i k s n n)
def rE{e:Nat->En}{i k:Nat}{s:Int}{n:Nat} : agN e i k s n=true↔AgrN e i k s n n:=by unfold agN;simp
def agree_e{H:List B}{ko b m n:Nat}(g:EOk H ko b m n)(e:Nat->En)(i k:Nat)(s:Int)(hi:i<m)(hk:k<m)(hn:n<=16):
  ak prog 145 [.buf (b+i) 0 n n,.buf (b+k) 0 n n,.int .u32 s] (He H b m n e) fun K H'=>K = .bool (agN e i k s n)/\H'=He H b m n e:=by
 obtain⟨E,t⟩:=ξ (agN e i k s n);rw[<-t];have r1:=mb g e hi;have z:=mb g e hk;have v:=eQ e n i;have I:=eQ e n k;have J:=g.lt
 have f:b+i<(He H b m n e).length:=by rw[et];omega
 have j:b+k<(He H b m n e).length:=by rw[et];omega
 have r:=he_rb g e;obtain⟨M,x⟩:=ξ (b+i);obtain⟨O,A⟩:=ξ (b+k);rw[<-x]at r1 f ⊢;rw[<-A]at z j ⊢;refine aH tok func145 rfl rfl ?_;refine wx ?_;simp -dsimp[f145,tg];refine aI (W_loopM 30 0x3fffffc0 zMx (σ:=Nat) (fun a=>a<=n/\AgrN e i k s n a) (fun a=>n-a) (fun a=>[(7,.int .i64 a)]) (fun _=>He H b m n e) 0 ⟨ω,fun a ha=>by omega⟩ ζ rfl ζ ?_);rintro a ⟨ha,hx⟩ N Q u G;by_cases hb:a<n
 .have w:=fun h=>kI (e:=e) (n:=n) (i:=i) (a:=a) h
  have C:=fun h=>kI (e:=e) (n:=n) (i:=k) (a:=a) h
  obtain⟨p,hp⟩:=ξ (e (i*n+a));obtain⟨q,hq⟩:=ξ (e (k*n+a));rw[<-hp]at w;rw[<-hq]at C
  cases o:gd s a with
  | false =>
   refine wx ?_;simp -dsimp[r1,v,hb,di,o,(ω:(a:Int)<32)];refine sTx ?_;simp -dsimp[aE a ω];refine u (a+1) _ _ ⟨ω,fun c D d=>?_⟩ ω ζ ⟨[],ζ⟩ (by simp[f,j]) r
   rcases uP c a with h1 | h1
   .exact hx c h1 d
   .have:c=a:=by omega
    subst this;rw[o]at d;cases d
  | true =>
   cases he:si p q with
   | true =>
    have y:=(gG p q).1 he;refine wx ?_;simp -dsimp[r1,z,v,I,hb,di,o,(ω:(a:Int)<32),w,C,du,eqEn,he];refine sTx ?_;simp -dsimp[aE a ω];refine u (a+1) _ _ ⟨ω,fun c D d=>?_⟩ ω ζ ⟨[],ζ⟩ (by simp[f,j]) r
    rcases uP c a with h1 | h1
    .exact hx c h1 d
    .have:c=a:=by omega
     subst this;rw[<-hp,<-hq];exact y
   | false =>
    have F:agN e i k s n=false:=by
     cases L:agN e i k s n
     .rfl
     .have:=rE.1 L a hb o;rw[<-hp,<-hq]at this;rw[(gG p q).2 this]at he;cases he
    rw[F]at t;refine wx ?_;simp -dsimp[r1,z,v,I,hb,di,o,(ω:(a:Int)<32),w,C,du,eqEn,he];refine sTx ?_;apply G;simp -dsimp;exact t
 .have l:agN e i k s n=true:=rE.2 fun c h1 h2=>hx c ω h2
  rw[l]at t;refine wx ?_;simp -dsimp[r1,v,hb];apply G;simp -dsimp;exact t
open Classical in
noncomputable def bV(e:Nat->En)(old new:En)(c:Nat)(x:Nat):En:=if x<c/\e x=old then new else e x
def repTo_zero(e:Nat->En)(old new:En):bV e old new 0=e:=by funext x;unfold bV;rw[if_neg ω]
def repTo_at(e:Nat->En)(old new:En)(c:Nat):bV e old new c c=e c:=by unfold bV;rw[if_neg ω]
def rX{e:Nat->En}{old new:En}{c x:Nat}(h:x≠c):bV e old new (c+1) x=bV e old new c x:=by
 unfold bV;by_cases hx:x<c
 .by_cases he:e x=old
  .rw[if_pos ⟨ω,he⟩,if_pos ⟨hx,he⟩]
  .rw[if_neg (fun a=>he a.2),if_neg (fun a=>he a.2)]
 .rw[if_neg (fun a=>by omega),if_neg (fun a=>hx a.1)]
def repTo_yes{e:Nat->En}{old new:En}{c:Nat}(h:e c=old):bV e old new (c+1) c=new:=by unfold bV;rw[if_pos ⟨ω,h⟩]
def repTo_no{e:Nat->En}{old new:En}{c:Nat}(h:e c≠old):bV e old new (c+1)=bV e old new c:=by
 funext x;by_cases hx:x=c
 .subst hx;rw[repTo_at];unfold bV;rw[if_neg (fun a=>h a.2)]
 .exact rX hx
def rowE_set{e e':Nat->En}{n i k:Nat}{x:En}(hk:k<n)(hx:e' (i*n+k)=x)(h:∀a,a<n->a≠k->e' (i*n+a)=e (i*n+a)):(fO e n i).set k (.agg [.int .i64 x.v.k,.int .i64 x.v.n,.str x.v.s,.int .i64 x.s])=fO e' n i:=by
 apply uw;intro a;by_cases ha:a=k
 .subst ha;rw[uJ (by rw[eQ];exact hk)];simp[fO,hk,hx,du]
 .rw[uH (Ne.symm ha)];by_cases b:a<n
  .simp[fO,b,h a b ha]
  .rw[un (by rw[eQ];omega),un (by rw[eQ];omega)]
def lG{H:List B}{ko b m n:Nat}(g0:EOk H ko b m n)(e:Nat->En)(old new:En)(hn:n<=16)(hm:m<=1000):
  ak prog 146 [.buf ko 0 m m,du old,du new] (He H b m n e) fun r' H'=>∃G,H'=He H b m n (bV e old new (m*n))++G:=by
 obtain⟨G,hG⟩:=ξ ([B.cells [.int .i64 old.v.k,.int .i64 old.v.n,.str old.v.s,.int .i64 old.s],B.cells [.int .i64 new.v.k,.int .i64 new.v.n,.str new.v.s,.int .i64 new.s]]);have g:=g0.app G (by rw[hG];simp)
 have M:=fun e=>md g0 G e
 obtain⟨w,F⟩:=ξ (H++G);rw[<-F]at g
 have q:∀e,He H b m n e++[B.cells [.int .i64 old.v.k,.int .i64 old.v.n,.str old.v.s,.int .i64 old.s],B.cells [.int .i64 new.v.k,.int .i64 new.v.n,.str new.v.s,.int .i64 new.s]]=He w b m n e:=fun e=>by rw[F,<-M e,hG]
 have j:=fun e=>et H b m n e
 have aJ:=g0.lt;have az:=g.lt
 have Z:w.length=H.length+2:=by rw[F,hG];simp
 have R:∀e,(He w b m n e)[H.length]?=some (B.cells [.int .i64 old.v.k,.int .i64 old.v.n,.str old.v.s,.int .i64 old.s]):=fun e=>by
  rw[<-q e,uD (by rw[j];omega),j];simp
 have V:∀e,(He w b m n e)[H.length+1]?=some (B.cells [.int .i64 new.v.k,.int .i64 new.v.n,.str new.v.s,.int .i64 new.s]):=fun e=>by
  rw[<-q e,uD (by rw[j];omega),j];simp
 have f:=fun e=>he_out g e
 have u:=im b m n
 have d:=fun e=>et w b m n e
 have S:=fun e=>he_rb g e
 have O:∀e,ko<(He w b m n e).length:=fun e=>by rw[d];have:=g.no;omega
 have E:∀e,H.length<(He w b m n e).length:=fun e=>by rw[d,Z];omega
 have J:∀e,H.length+1<(He w b m n e).length:=fun e=>by rw[d,Z];omega
 obtain⟨L,ay⟩:=ξ H.length;rw[<-ay]at R V E J j;refine aH tok func146 rfl rfl ?_;refine wx ?_;simp -dsimp[f146,tg,du,q,j];refine aI (W_loopM 39 0x7fffffffc0 zMx (σ:=Nat) (fun i=>i<=m) (fun i=>m-i) (fun i=>[(6,.int .i64 i)]) (fun i=>He w b m n (bV e old new (i*n))) 0 ω ζ (by simp[repTo_zero]) (by simp[d]) ?_);intro i hi N Q hN hQ;by_cases l:i<m
 .have y:=fun h=>rk (b:=b) (m:=m) (n:=n) (i:=i) h
  have ax:∀e,b+i<(He w b m n e).length:=fun e=>by rw[d];omega
  have o:=fun e=>mb g e l
  have A:=fun e=>eQ e n i
  obtain⟨bi,U⟩:=ξ (b+i);rw[<-U]at y ax o
  have W:∀e' z:Nat->En,(∀k a,k<m->a<n->k≠i->z (k*n+a)=e' (k*n+a))->(He w b m n e').set bi (.buf 190 4 (fO z n i) false)=He w b m n z:=fun e' z h=>by rw[U];exact he_set g e' z l h
  refine wx ?_;simp -dsimp[f,u,l];refine aI (W_loopM 39 0x7fffffc080 zMx (σ:=Nat) (fun k=>k<=n) (fun k=>n-k) (fun k=>[(7,.int .i64 k)]) (fun k=>He w b m n (bV e old new (i*n+k))) 0 ω ζ ζ (by simp[d]) ?_);intro k hk N2 Q2 Y an;by_cases r:k<n
  .have aA:=bc l r;obtain⟨c,hc⟩:=ξ (i*n+k)
   have I:i*n+(k+1)=c+1:=by omega
   have t:∀(h:k<(fO (bV e old new c) n i).length),(fO (bV e old new c) n i)[k]=du (e c):=fun h=>by rw[kI h,<-hc,repTo_at]
   rw[<-hc];obtain⟨p,hp⟩:=ξ (e c);rw[<-hp]at t
   have D:∀k' a,k'<m->a<n->k'≠i->bV e old new (c+1) (k'*n+a)=bV e old new c (k'*n+a):=fun k' a a2 ha X=>rX (by
    intro h;rw[hc]at h;have d1:=(rA (i:=k') ha).1;have d2:=(rA (i:=i) r).1;rw[h,d2]at d1
    exact X d1.symm)
   cases hq:si p old with
   | true =>
    have T:e c=old:=by rw[<-hp];exact(gG p old).1 hq
    have ad:=rowE_set (e:=bV e old new c) (e':=bV e old new (c+1)) (n:=n) (i:=i) (k:=k) (x:=new) r (by rw[<-hc];exact repTo_yes T) (fun a ha X=>rX ω);have al:=W (bV e old new c) (bV e old new (c+1)) D;refine wx ?_;simp -dsimp[f,u,l,y,o,A,r,t,du,eqEn,R,hq];refine sTx ?_;refine aI (ae tok mixed [7] [] [] υ fun C K hC hK=>?_);simp -implicitDefEqProofs [f,u,l,y,o,A,r,t,du,V,ad,al];apply hK;simp -dsimp[aE k ω];refine Y (k+1) _ _ ω ω ζ ⟨[],by rw[I];simp⟩ (by simp[O,E,J]) (S _)
   | false =>
    have T:e c≠old:=fun h=>by rw[hp,h]at hq;rw[(gG old old).2 rfl]at hq;cases hq
    have P:=repTo_no (new:=new) T;refine wx ?_;simp -dsimp[f,u,l,y,o,A,r,t,du,eqEn,R,hq];refine sTx ?_;simp -dsimp[aE k ω];refine Y (k+1) _ _ ω ω ζ ⟨[],by rw[I,P];simp⟩ (by simp[O,E,J]) (S _)
  .obtain rfl:k=n:=by omega
   have I:i*k+k=(i+1)*k:=by rw[uR];omega
   refine wx ?_;simp -dsimp[f,u,l,y,o,A,r];apply an;simp -dsimp[aE i ω];refine hN (i+1) _ _ ω ω ζ ⟨[],by rw[I];simp⟩ (by simp[O,E,J]) (S _)
 .obtain rfl:i=m:=by omega
  refine wx ?_;simp -dsimp[f,u,l];apply hQ;simp -dsimp;exact⟨G,by rw[M,F]⟩
def zV5:Vl:=⟨0,0,tp⟩
def toD(x:En):Dm:=if x.s=0 then .inl x.v else .inr x.s.toNat
structure EnOk (e:Nat->En) (N S:Nat):Prop where
 lo:∀x,x<N->0<=(e x).s
 hi:∀x,x<N->(e x).s<=S
 z:∀x,x<N->(e x).s≠0->(e x).v=zV5
def toD_inj{e:Nat->En}{N S:Nat}(h:EnOk e N S){x y:Nat}(hx:x<N)(a:y<N):toD (e x)=toD (e y)↔e x=e y:=by
 constructor
 .intro he;unfold toD at he;have f:=h.lo x hx;have d:=h.lo y a;have b:=h.z x hx;have c:=h.z y a;generalize e x=p at *;generalize e y=q at *;obtain⟨v,s⟩:=p;obtain⟨w,r⟩:=q;simp only at *;by_cases hs:s=0
  .by_cases hr:r=0
   .rw[if_pos hs,if_pos hr]at he;rw[hs,hr,Sum.inl.inj he]
   .rw[if_pos hs,if_neg hr]at he;cases he
  .by_cases hr:r=0
   .rw[if_neg hs,if_pos hr]at he;cases he
   .rw[if_neg hs,if_neg hr]at he;have h1:=Sum.inr.inj he;rw[b hs,c hr,(ω:s=r)]
 .rintro h;rw[h]
def step_sem{q:Prob}{e:Nat->En}{S:Nat}(h:Ent q (fun x=>toD (e x)))(o:EnOk e (q.m*q.n) S)(hn:q.n<=16){d:Fd}(j:d∈q.fds)(hb:d.l<4294967296/\d.r<4294967296){i k a:Nat}(hi:i<q.m)(hk:k<i)(hl:AgrN e i k d.l q.n q.n)(ha:a<q.n)(hr:gd d.r a=true):
  ∀σ,Sol q σ->σ (i*q.n+a)=σ (k*q.n+a):=fun σ f=>by
 obtain⟨τ,ht⟩:=h.sem σ f;refine f.dep d j i k hi hk (fun b c g=>?_) a ha (by rw[eU _ _ hb.2 ω]at hr;exact hr);rw[ht _ (bc hi c),ht _ (bc ω c),hl b c (by rw[eU _ _ hb.1 ω];exact g)]
def step_clash{q:Prob}{e:Nat->En}{S:Nat}(c:Ent q (fun x=>toD (e x))){x y:Nat}(hx:x<q.m*q.n)(b:y<q.m*q.n)(h1:(e x).s=0)(h2:(e y).s=0)(a:e x≠e y)(hs:∀σ,Sol q σ->σ x=σ y):¬Okq q:=by
 refine c.clash hx b (v:=(e x).v) (w:=(e y).v) (by simp[toD,h1]) (by simp[toD,h2]) (fun h=>a ?_) hs;generalize e x=p at *;generalize e y=r at *;obtain⟨v,s⟩:=p;obtain⟨w,t⟩:=r;simp only at *;rw[h1,h2,h]
def step_rep{q:Prob}{e:Nat->En}{S:Nat}(o:Ent q (fun x=>toD (e x)))(b:EnOk e (q.m*q.n) S){x y:Nat}(hx:x<q.m*q.n)(g:y<q.m*q.n)(j:(e x).s≠0)(k:e x≠e y)(hs:∀σ,Sol q σ->σ x=σ y):
  Ent q (fun z=>toD (bV e (e x) (e y) (q.m*q.n) z))/\EnOk (bV e (e x) (e y) (q.m*q.n)) (q.m*q.n) S/\cntS (q.m*q.n) (S+1) (fun z=>toD (bV e (e x) (e y) (q.m*q.n) z))<cntS (q.m*q.n) (S+1) (fun z=>toD (e z)):=by
 have a:toD (e x)= .inr (e x).s.toNat:=by simp[toD,j]
 have c:∀z,z<q.m*q.n->toD (bV e (e x) (e y) (q.m*q.n) z)=repE (fun z=>toD (e z)) (e x).s.toNat (toD (e y)) z:=fun z hz=>by
  unfold bV repE;by_cases d:e z=e x
  .rw[if_pos ⟨hz,d⟩,if_pos (by show toD (e z)=_;rw[d,a])]
  .rw[if_neg (fun h=>d h.2),if_neg (fun h=>d ((toD_inj b hz hx).1 (h.trans a.symm)))]
 have f:=o.rep hx g a hs;refine⟨?_,?_,?_⟩
 .refine⟨fun z v hz hk=>by rw[c z hz];exact f.fix z v hz hk,fun σ i=>?_⟩;obtain⟨τ,ht⟩:=f.sem σ i;exact⟨τ,fun z hz=>by rw[ht z hz,<-c z hz]⟩
 .refine⟨fun z hz=>?_,fun z hz=>?_,fun z hz=>?_⟩<;>unfold bV<;>split
  .exact b.lo y g
  .exact b.lo z hz
  .exact b.hi y g
  .exact b.hi z hz
  .exact b.z y g
  .exact b.z z hz
 .have l:=cntS_rep (N:=q.m*q.n) (S:=S+1) (s:=(e x).s.toNat) (e:=fun z=>toD (e z)) (x0:=x) (y0:=y) hx g a (fun h=>k ((toD_inj b hx g).1 (a.trans h.symm))) (by have:=b.hi x hx;omega);refine vO (Nat.le_of_eq ?_) l;unfold cntS;congr 1
  refine yA fun s _=>?_
  unfold hasSym;refine decide_eq_decide.2 ?_;constructor
  .rintro⟨z,hz,h⟩;exact⟨z,hz,(c z hz).symm.trans h⟩
  .rintro⟨z,hz,h⟩;exact⟨z,hz,(c z hz).trans h⟩
def ClsN(q:Prob)(e:Nat->En)(d:Fd)(i k:Nat):Prop:=AgrN e i k d.l q.n q.n->AgrN e i k d.r q.n q.n
def closedE_of{q:Prob}{e:Nat->En}{S:Nat}(o:EnOk e (q.m*q.n) S)(hn:q.n<=16)(j:∀d∈q.fds,d.l<4294967296/\d.r<4294967296)(h:∀d∈q.fds,∀i k,i<q.m->k<i->ClsN q e d i k):rF q (fun x=>toD (e x)):=fun d b i k hi hk hl a ha hb=>by
 have:=h d b i k hi hk (fun c f g=>?_) a ha (by rw[eU _ _ (j d b).2 ω];exact hb)
 .show toD _=toD _;rw[this]
 .exact(toD_inj o (bc hi f) (bc ω f)).1 (hl c f (by rw[eU _ _ (j d b).1 ω]at g;exact g))
def StepR(q:Prob)(H:List B)(b:Nat)(S:Nat)(e:Nat->En)(r:V)(H':List B):Prop :=
 (r = .int .i64 0/\rF q (fun x=>toD (e x))/\∃G,H'=He H b q.m q.n e++G)\/(r = .int .i64 (-1)/\¬Okq q)\/
 (r = .int .i64 1/\∃e' G,H'=He H b q.m q.n e'++G/\Ent q (fun x=>toD (e' x))/\EnOk e' (q.m*q.n) S/\cntS (q.m*q.n) (S+1) (fun x=>toD (e' x))<cntS (q.m*q.n) (S+1) (fun x=>toD (e x)))
def gc(s:Int)(a:Nat):(IntKind.u32.wrap ↑((s.fdiv (2^min a IntKind.u32.bits) % 2^IntKind.u32.bits).toNat &&& 1 % 2^IntKind.u32.bits)== 0)= !gd s a:=by
 unfold gd;have b:(1 % 2^IntKind.u32.bits:Nat)=1:=rfl;rw[b,Nat.and_one_is_mod,u32w _ ω];have:=Nat.mod_two_eq_zero_or_one (s.fdiv (2^min a IntKind.u32.bits) % 2^IntKind.u32.bits).toNat
 rcases this with h | h<;>rw[h]<;>rfl
theorem r5:tr 5=[0,1,2,3,4]:=rfl
theorem ia1:xx 14 [14,15,16,17]=0:=rfl
theorem ia2:xx 15 [14,15,16,17]=1:=rfl
theorem ia3:xx 16 [14,15,16,17]=2:=rfl
theorem ia4:xx 17 [14,15,16,17]=3:=rfl
theorem ib1:xx 14 [15,14,16,17]=1:=rfl
theorem ib2:xx 15 [15,14,16,17]=0:=rfl
theorem ib3:xx 16 [15,14,16,17]=2:=rfl
theorem ib4:xx 17 [15,14,16,17]=3:=rfl
def step_r{q:Prob}{H:List B}{ko b m n S:Nat}(t:q.m=m)(o:q.n=n)(g:EOk H ko b m n)(e:Nat->En)(hE:Ent q (fun x=>toD (e x)))(hO:EnOk e (q.m*q.n) S)(hn:n<=16)(hm:m<=1000)(ff:Bool)(hF:ef q.fds):
  ak prog 91 [.buf ko 0 m m,LF ff q.fds] (He H b m n e) (StepR q H b S e):=by
 obtain⟨b8,bx⟩:=hF;have a8:=closedE_of hO ω bx;obtain⟨fds,a7⟩:=ξ q.fds;have w:=he_out g e;have I:=im b m n;have f:=et H b m n e;have R:=he_rb g e;have cp:=g.lt
 have F:ko<(He H b m n e).length:=by rw[f];have:=g.no;omega
 rw[<-a7]at b8 bx a8 ⊢;refine aH tok func91 rfl rfl ?_;refine wx ?_;simp -dsimp[f91,tg,LF];refine aI (W_loopM 99 0x7fffffffffffffffffffffff0 zMx (σ:=Nat) (fun j=>j<=fds.length/\∀d∈fds.take j,∀i k,i<m->k<i->ClsN q e d i k) (fun j=>fds.length-j) (fun j=>[(5,.int .i64 j)]) (fun _=>He H b m n e) 0 ⟨ω,ζ⟩ ζ rfl ζ ?_);rintro j ⟨hj,hx⟩ N Q hN hQ;by_cases u:j<fds.length
 .obtain⟨d,hd⟩:=ξ (fds[j]);have y:=hd.symm;have b1:d∈fds:=hd▸ti u;have ce:=bx d b1;refine wx ?_;simp -dsimp[u];refine aI (W_loopM 99 0x7fffffffffffffffffffe07d0 zMx (σ:=Nat) (fun i=>i<=m/\∀i' k,i'<i->k<i'->ClsN q e d i' k) (fun i=>m-i) (fun i=>[(6,.int .i64 i)]) (fun _=>He H b m n e) 0 ⟨ω,fun i' k h=>by omega⟩ ζ rfl ζ ?_);rintro i ⟨hi,bz⟩ N2 Q2 b7 P;by_cases A:i<m
  .have ad:=fun h=>rk (b:=b) (m:=m) (n:=n) (i:=i) h
   have J:=mb g e A;have ba:=eQ e n i
   have bb:b+i<(He H b m n e).length:=by rw[f];omega
   refine wx ?_;simp -dsimp[w,I,A];refine aI (W_loopM 99 0x7ffffffffffffffffff800790 zMx (σ:=Nat) (fun k=>k<=i/\∀k',k'<k->ClsN q e d i k') (fun k=>i-k) (fun k=>[(7,.int .i64 k)]) (fun _=>He H b m n e) 0 ⟨ω,fun k h=>by omega⟩ ζ rfl ζ ?_);rintro k ⟨hk,bi⟩ N3 Q3 b5 T;by_cases a6:k<i
   .have V:k<m:=by omega
    have Z:=fun h=>rk (b:=b) (m:=m) (n:=n) (i:=k) h
    have Y:=mb g e V;have b4:=eQ e n k
    have X:b+k<(He H b m n e).length:=by rw[f];omega
    have ca:=agree_e g e i k (d.l:Int) A V hn
    cases W:agN e i k d.l n with
    | false =>
     rw[W]at ca;refine wx ?_;simp -dsimp[a6,w,I,A,V,ad,Z,u,y,dY];refine sTx ?_;refine oM _ ca ?_;simp -dsimp[aE k ω];refine b5 (k+1) _ _ ⟨ω,fun k' aA=>?_⟩ ω ζ ⟨[],ζ⟩ (by simp[F]) R
     rcases uP k' k with h1 | h1
     .exact bi k' h1
     .have:k'=k:=by omega
      subst this;intro hy;rw[o]at hy;rw[rE.2 hy]at W;cases W
    | true =>
     rw[W]at ca;have cg:=rE.1 W;refine wx ?_;simp -dsimp[a6,w,I,A,V,ad,Z,u,y,dY];refine sTx ?_;refine oM _ ca ?_;simp -dsimp;refine aI (W_loopM 99 0x7fffffffffffff80000000710 zMx (σ:=Nat) (fun a=>a<=n/\AgrN e i k d.r n a) (fun a=>n-a) (fun a=>[(8,.int .i64 a)]) (fun _=>He H b m n e) 0 ⟨ω,fun a h=>by omega⟩ ζ rfl ζ ?_);rintro a ⟨ha,bY⟩ N4 Q4 b3 U;by_cases O:a<n
     .have x1:=fun h=>kI (e:=e) (n:=n) (i:=i) (a:=a) h
      have x2:=fun h=>kI (e:=e) (n:=n) (i:=k) (a:=a) h
      obtain⟨p,hp⟩:=ξ (e (i*n+a));obtain⟨r,hr⟩:=ξ (e (k*n+a));rw[<-hp]at x1;rw[<-hr]at x2
      have cb:∀G,(He H b m n e++G)[ko]?=some (B.buf 187 1 (jO b m n) false):=fun G=>by rw[tu F];exact w
      have b9:∀G,(He H b m n e++G)[b+i]?=some (B.buf 190 4 (fO e n i) false):=fun G=>by rw[tu bb];exact J
      have ci:∀G,(He H b m n e++G)[b+k]?=some (B.buf 190 4 (fO e n k) false):=fun G=>by rw[tu X];exact Y
      refine wx ?_;simp -dsimp[w,I,A,ad,J,ba,O]
      refine aI (W_draw2 tok mixed [14,15,16,17] [15,14,16,17] []
       [He H b m n e++[.cells [.int .i64 0,.int .i64 0,.str tp,.int .i64 0]],He H b m n e++[.cells [.int .i64 0,.int .i64 0,.str tp,.int .i64 0],.cells [.int .i64 0,.int .i64 0,.str tp,.int .i64 0]],
        He H b m n e++[.cells [.int .i64 p.v.k,.int .i64 p.v.n,.str p.v.s,.int .i64 p.s],.cells [.int .i64 0,.int .i64 0,.str tp,.int .i64 0]],He H b m n e++[.cells [.int .i64 p.v.k,.int .i64 p.v.n,.str p.v.s,.int .i64 p.s],.cells [.int .i64 r.v.k,.int .i64 r.v.n,.str r.v.s,.int .i64 r.s]]]
       [He H b m n e++[.cells [.int .i64 0,.int .i64 0,.str tp,.int .i64 0]],He H b m n e++[.cells [.int .i64 0,.int .i64 0,.str tp,.int .i64 0],.cells [.int .i64 0,.int .i64 0,.str tp,.int .i64 0]],
        He H b m n e++[.cells [.int .i64 0,.int .i64 0,.str tp,.int .i64 0],.cells [.int .i64 p.v.k,.int .i64 p.v.n,.str p.v.s,.int .i64 p.s]],He H b m n e++[.cells [.int .i64 r.v.k,.int .i64 r.v.n,.str r.v.s,.int .i64 r.s],.cells [.int .i64 p.v.k,.int .i64 p.v.n,.str p.v.s,.int .i64 p.s]]]
       υ fun K hK=>?_)
      simp -implicitDefEqProofs [w,I,A,V,ad,Z,J,Y,ba,b4,O,x1,x2,cb,b9,ci,du,f,r5,ia1,ia2,ia3,ia4,ib1,ib2,ib3,ib4];obtain⟨L,hL⟩:=ξ H.length;rw[<-hL]at f ⊢;obtain⟨D,ax⟩:=ξ (B.cells [.int .i64 p.v.k,.int .i64 p.v.n,.str p.v.s,.int .i64 p.s]);obtain⟨E,ay⟩:=ξ (B.cells [.int .i64 r.v.k,.int .i64 r.v.n,.str r.v.s,.int .i64 r.s])
      have y1:(He H b m n e++[D,E])[L]?=some (B.cells [.int .i64 p.v.k,.int .i64 p.v.n,.str p.v.s,.int .i64 p.s]):=by rw[uD ω,f,ax];simp
      have y2:(He H b m n e++[D,E])[L+1]?=some (B.cells [.int .i64 r.v.k,.int .i64 r.v.n,.str r.v.s,.int .i64 r.s]):=by rw[uD ω,f,ay];simp
      have y3:(He H b m n e++[E,D])[L+1]?=some (B.cells [.int .i64 p.v.k,.int .i64 p.v.n,.str p.v.s,.int .i64 p.s]):=by rw[uD ω,f,ax];simp
      have y4:(He H b m n e++[E,D])[L]?=some (B.cells [.int .i64 r.v.k,.int .i64 r.v.n,.str r.v.s,.int .i64 r.s]):=by rw[uD ω,f,ay];simp
      have aJ:∀k,rbB k D:=fun k=>by rw[ax];simp
      have az:∀k,rbB k E:=fun k=>by rw[ay];simp
      rw[<-ax,<-ay]
      have an:(gd (d.r:Int) a=true->p=r)->AgrN e i k d.r n (a+1):=fun h c cm b2=>by
       rcases uP c a with h1 | h1
       .exact bY c h1 b2
       .have:c=a:=by omega
        subst this;rw[<-hp,<-hr];exact h b2
      cases hh:gd (d.r:Int) a with
      | false =>
       have al:=an (fun h=>by rw[hh]at h;cases h);refine⟨hK _ _ ?_,hK _ _ ?_⟩
       all_goals
        simp -dsimp[u,y,dY,gc,hh,(ω:(a:Int)<32),aE a ω];refine b3 (a+1) _ _ ⟨ω,al⟩ ω ζ ⟨_,rfl⟩ (by simp[F,bb,X]) R
      | true =>
       cases C:si p r with
       | true =>
        have al:=an (fun _=>(gG p r).1 C);refine⟨hK _ _ ?_,hK _ _ ?_⟩
        all_goals
         simp -dsimp[u,y,dY,gc,hh,(ω:(a:Int)<32),y1,y2,y3,y4,eqEn,C,aE a ω];refine b3 (a+1) _ _ ⟨ω,al⟩ ω ζ ⟨_,rfl⟩ (by simp[F,bb,X]) R
       | false =>
        have be:e (i*n+a)≠e (k*n+a):=fun h=>by
         rw[hp,hr,(gG _ _).2 h]at C;cases C
        have li:=bc A O;have lk:=bc V O;have M:=step_sem hE hO ω (a7▸b1) ce (show i<q.m by omega) a6 (by rw[o];exact cg) (by rw[o];exact O) hh;rw[o]at M
        have bv:i*n+a<q.m*q.n:=by rw[t,o];exact li
        have br:k*n+a<q.m*q.n:=by rw[t,o];exact lk
        by_cases s1:p.s=0
        .by_cases s2:r.s=0
         .have z1:(p.s == 0)=true:=by simp[s1]
          have z2:(r.s == 0)=true:=by simp[s2]
          have cj:=step_clash hE (S:=S) bv br (by rw[<-hp];exact s1) (by rw[<-hr];exact s2) be M;refine⟨hK _ _ ?_,hK _ _ ?_⟩
          all_goals
           simp -dsimp[u,y,dY,gc,hh,(ω:(a:Int)<32),y1,y2,y3,y4,eqEn,C,z1,z2];apply U;simp -dsimp;apply T;simp -dsimp;apply P;simp -dsimp;apply hQ;simp -dsimp;exact .inr (.inl ⟨rfl,cj⟩)
         .have z1:(p.s == 0)=true:=by simp[s1]
          have z2:(r.s == 0)=false:=by simp[s2]
          have z:=step_rep hE hO br bv (by rw[<-hr];exact s2) (fun h=>be h.symm) (fun σ b6=>(M σ b6).symm);rw[t,o,<-hp,<-hr]at z;have c1:=lG (g.app [D,E] (by simp[↓aJ,↓az])) e r p hn hm;have c2:=lG (g.app [E,D] (by simp[↓aJ,↓az])) e r p hn hm;rw[<-md g]at c1 c2
          have a1:=fun G=>congrArg (·++G) (md g [D,E] (bV e r p (m*n))).symm
          have a2:=fun G=>congrArg (·++G) (md g [E,D] (bV e r p (m*n))).symm
          simp only[du]at c1 c2;refine⟨hK _ _ ?_,hK _ _ ?_⟩
          .simp -dsimp[u,y,dY,gc,hh,(ω:(a:Int)<32),y1,y2,eqEn,C,z1,z2];refine aM.mono (K:=fun r' H'=>∃G,H'=He (H++[D,E]) b m n (bV e r p (m*n))++G) c1 ?_;rintro r' H' ⟨G,rfl⟩;simp -dsimp;apply U;simp -dsimp;apply T;simp -dsimp;apply P;simp -dsimp;apply hQ;simp -dsimp;exact .inr (.inr ⟨rfl,_,_,by rw[t,o];exact(a1 G).trans (uW _ _ _),by simpa only[t,o] using z⟩)
          .simp -dsimp[u,y,dY,gc,hh,(ω:(a:Int)<32),y3,y4,eqEn,C,z1,z2];refine aM.mono (K:=fun r' H'=>∃G,H'=He (H++[E,D]) b m n (bV e r p (m*n))++G) c2 ?_;rintro r' H' ⟨G,rfl⟩;simp -dsimp;apply U;simp -dsimp;apply T;simp -dsimp;apply P;simp -dsimp;apply hQ;simp -dsimp;exact .inr (.inr ⟨rfl,_,_,by rw[t,o];exact(a2 G).trans (uW _ _ _),by simpa only[t,o] using z⟩)
        .have z1:(p.s == 0)=false:=by simp[s1]
         have z2:True:=trivial;have z:=step_rep hE hO bv br (by rw[<-hp];exact s1) be M;rw[t,o,<-hp,<-hr]at z;have c1:=lG (g.app [D,E] (by simp[↓aJ,↓az])) e p r hn hm;have c2:=lG (g.app [E,D] (by simp[↓aJ,↓az])) e p r hn hm;rw[<-md g]at c1 c2
         have a1:=fun G=>congrArg (·++G) (md g [D,E] (bV e p r (m*n))).symm
         have a2:=fun G=>congrArg (·++G) (md g [E,D] (bV e p r (m*n))).symm
         simp only[du]at c1 c2;refine⟨hK _ _ ?_,hK _ _ ?_⟩
         .simp -dsimp[u,y,dY,gc,hh,(ω:(a:Int)<32),y1,y2,eqEn,C,z1,z2];refine aM.mono (K:=fun r' H'=>∃G,H'=He (H++[D,E]) b m n (bV e p r (m*n))++G) c1 ?_;rintro r' H' ⟨G,rfl⟩;simp -dsimp;apply U;simp -dsimp;apply T;simp -dsimp;apply P;simp -dsimp;apply hQ;simp -dsimp;exact .inr (.inr ⟨rfl,_,_,by rw[t,o];exact(a1 G).trans (uW _ _ _),by simpa only[t,o] using z⟩)
         .simp -dsimp[u,y,dY,gc,hh,(ω:(a:Int)<32),y3,y4,eqEn,C,z1,z2];refine aM.mono (K:=fun r' H'=>∃G,H'=He (H++[E,D]) b m n (bV e p r (m*n))++G) c2 ?_;rintro r' H' ⟨G,rfl⟩;simp -dsimp;apply U;simp -dsimp;apply T;simp -dsimp;apply P;simp -dsimp;apply hQ;simp -dsimp;exact .inr (.inr ⟨rfl,_,_,by rw[t,o];exact(a2 G).trans (uW _ _ _),by simpa only[t,o] using z⟩)
     .obtain rfl:a=n:=by omega
      refine wx ?_;simp -dsimp[w,I,A,ad,J,ba,O];apply U;simp -dsimp[aE k ω];refine b5 (k+1) _ _ ⟨ω,fun k' aA=>?_⟩ ω ζ ⟨[],ζ⟩ (by simp[F]) R
      rcases uP k' k with h1 | h1
      .exact bi k' h1
      .have:k'=k:=by omega
       subst this;intro _;rw[o];exact bY
   .obtain rfl:k=i:=by omega
    refine wx ?_;simp -dsimp[a6];apply T;simp -dsimp[aE k ω];refine b7 (k+1) _ _ ⟨ω,fun i' k' ck aA=>?_⟩ ω ζ ⟨[],ζ⟩ (by simp[F]) R
    rcases uP i' k with h1 | h1
    .exact bz i' k' h1 aA
    .have:i'=k:=by omega
     subst this;exact bi k' aA
  .obtain rfl:i=m:=by omega
   refine wx ?_;simp -dsimp[w,I,A];apply P;simp -dsimp[aE j ω];refine hN (j+1) _ _ ⟨ω,fun d' y=>?_⟩ ω ζ ⟨[],ζ⟩ (by simp[F]) R;rw[tz u]at y
   rcases List.mem_append.1 y with h1 | h1
   .exact hx d' h1
   .simp only[uQ]at h1;rw[h1,<-hd];exact bz
 .obtain rfl:j=fds.length:=by omega
  rw[uV]at hx;refine wx ?_;simp -dsimp[u];apply hQ;simp -dsimp;exact .inl ⟨rfl,a8 (by rw[t];exact hx),[],by rw[t,o,uC]⟩
open Classical in
noncomputable def eC(t:Tb)(l:List Cr):Nat->Nat
 | 0=>0
 | x+1=>if bZ t x∈l then eC t l x+1 else eC t l x
theorem tF(t:Tb)(l:List Cr):∀x,eC t l x<=x
 | 0=>uA _
 | x+1=>by
  have:=tF t l x;rw[eC];split<;>omega
def tE(t:Tb)(l:List Cr){x y:Nat}(h:x<=y):eC t l x<=eC t l y:=by
 induction y with
 | zero =>
  have:x=0:=by omega
  subst this;exact uA _
 | succ y a =>
  rcases uP x (y+1) with h1 | h1
  .have:=a ω;rw[eC];split<;>omega
  .have:x=y+1:=by omega
   subst this;exact uA _
open Classical in
noncomputable def e0(t:Tb)(l:List Cr)(x:Nat):En:=if bZ t x∈l then⟨zV5,(eC t l x+1:Nat)⟩ else⟨eG t x,0⟩
def qB{t:Tb}{l:List Cr}{x:Nat}(h:bZ t x∈l):e0 t l x=⟨zV5,((eC t l x+1:Nat):Int)⟩/\eC t l (x+1)=eC t l x+1:=by
 unfold e0;rw[if_pos h,eC,if_pos h];exact⟨rfl,rfl⟩
def pS{t:Tb}{l:List Cr}{x:Nat}(h:bZ t x∉l):e0 t l x=⟨eG t x,0⟩/\eC t l (x+1)=eC t l x:=by
 unfold e0;rw[if_neg h,eC,if_neg h];exact⟨rfl,rfl⟩
def e0_ok(t:Tb)(l:List Cr)(N:Nat):EnOk (e0 t l) N N:=by
 refine⟨fun x hx=>?_,fun x hx=>?_,fun x hx=>?_⟩<;>by_cases h:bZ t x∈l
 .rw[(qB h).1];simp only;omega
 .rw[(pS h).1];simp
 .rw[(qB h).1];simp only;have:=tF t l x;omega
 .rw[(pS h).1];simp
 .rw[(qB h).1];intro _;rfl
 .rw[(pS h).1];intro h2;exact absurd rfl h2
def e0_ent(t:Tb)(fds:List Fd)(l:List Cr):Ent (aQ t fds l) (fun x=>toD (e0 t l x)):=by
 refine ent_init (fun x v hx hk=>?_) (fun x hx hk=>?_) (fun x y s hx d h1 h2=>?_)
 .by_cases h:bZ t x∈l
  .rw[nS h]at hk;cases hk
  .rw[ij h]at hk;show toD (e0 t l x)=_;rw[(pS h).1];simp[toD,Option.some.inj hk]
 .by_cases h:bZ t x∈l
  .exact⟨eC t l x+1,by show toD (e0 t l x)=_;rw[(qB h).1];simp[toD];omega⟩
  .rw[ij h]at hk;cases hk
 .have key:∀z,toD (e0 t l z)= .inr s->s=eC t l z+1/\bZ t z∈l:=fun z hz=>by
   by_cases h:bZ t z∈l
   .rw[(qB h).1]at hz;unfold toD at hz;rw[if_neg θ]at hz;exact⟨by have:=Sum.inr.inj hz;simp at this;omega,h⟩
   .rw[(pS h).1]at hz;simp[toD]at hz
  obtain⟨a1,a⟩:=key x h1;obtain⟨c,b⟩:=key y h2
  rcases ve x y with h | h | h
  .have:=tE t l (show x+1<=y by omega);have:=(qB a).2;omega
  .exact h
  .have:=tE t l (show y+1<=x by omega);have:=(qB b).2;omega
def get_of{xs:List B}{k:Nat}{x:B}(h:xs[k]?=some x):∀hk:k<xs.length,xs[k]=x:=fun hk=>by
 rw[tm hk]at h;exact Option.some.inj h
def rowB(e:Nat->En)(n i:Nat):B:=.buf 190 4 (fO e n i) false
def outB(i n:Nat):B:=.buf 187 1 (jO 2 i n) false
def kM(e:Nat->En)(n i a:Nat):List V:=(tr a).map fun c=>du (e (i*n+c))
def parE_succ(e:Nat->En)(n i a:Nat):kM e n i (a+1)=kM e n i a++[du (e (i*n+a))]:=by simp[kM,ue]
def parE_len(e:Nat->En)(n i a:Nat):(kM e n i a).length=a:=by simp[kM]
def outE_succ(b i n:Nat):jO b (i+1) n=jO b i n++[.buf (b+i) 0 n n]:=by simp[jO,ue]
def HR(a:B)(e:Nat->En)(n i:Nat):List B:=[a,outB i n]++(tr i).map (rowB e n)
def fQ(a:B)(e:Nat->En)(n i:Nat):(HR a e n i).length=2+i:=by simp[HR];omega
def hr_0(a:B)(e:Nat->En)(n i:Nat)(G:List B):(HR a e n i++G)[0]?=some a:=by simp[HR]
def hr_1(a:B)(e:Nat->En)(n i:Nat)(G:List B):(HR a e n i++G)[1]?=some (.buf 187 1 (jO 2 i n) false):=by simp[HR,outB]
def hr_00(a:B)(e:Nat->En)(n i:Nat):(HR a e n i)[0]?=some a:=by simp[HR]
def hr_11(a:B)(e:Nat->En)(n i:Nat):(HR a e n i)[1]?=some (.buf 187 1 (jO 2 i n) false):=by simp[HR,outB]
def hr_x(a:B)(e:Nat->En)(n i:Nat)(X:B):(HR a e n i++[X])[2+i]?=some X:=by
 rw[uD (by rw[fQ];omega),fQ];simp
def hr_sx(a:B)(e:Nat->En)(n i:Nat)(X Y:B):(HR a e n i++[X]).set (2+i) Y=HR a e n i++[Y]:=by
 rw[uq _ _ (by rw[fQ];omega),fQ];simp
def hr_next(a:B)(e:Nat->En)(n i:Nat):(HR a e n i++[B.buf 190 4 (kM e n i n) false]).set 1 (B.buf 187 1 (jO 2 i n++[V.buf (2+i) 0 n n]) false)=HR a e n (i+1):=by
 rw[<-outE_succ];simp[HR,ue,outB,rowB,fO,kM]
def parE_pure(e:Nat->En)(n i a:Nat):∀x∈kM e n i a,AM.Pure x/\cC x=true:=by
 intro x hx;obtain⟨c,_,rfl⟩:=List.mem_map.1 hx;exact⟨encEn_pure _,rfl⟩
def hr_rb{b:B}(hb:∀k,rbB k b)(e:Nat->En)(n i:Nat):∀bl∈HR b e n i,rbB (HR b e n i).length bl:=by
 intro bl a;rw[fQ];unfold HR at a;simp only[ur,uL,tw,wc,vS]at a
 rcases a with rfl | rfl | ⟨j,d,rfl⟩
 .exact hb _
 .intro x hx c f;obtain⟨j,d,rfl⟩:=List.mem_map.1 hx;have d:=List.mem_range.1 d;simp[V.cells]at f;subst f;show 2+j<2+i;omega
 .unfold rowB;rw[rbB_buf1 (lF e n _)];trivial
def hr_ok{a:B}(hb:∀k,rbB k a)(e:Nat->En)(n m:Nat):EOk (HR a e n m) 1 2 m n:=⟨hr_11 a e n m,by rw[fQ];omega,ω,hr_rb hb e n m⟩
def hr_he{a:B}(e:Nat->En)(n m:Nat):He (HR a e n m) 2 m n e=HR a e n m:=by
 apply uw;intro k;unfold He;rw[uK,fQ];by_cases hk:k<2+m
 .rw[vX hk,uS];by_cases h2:2<=k
  .rw[if_pos ⟨h2,hk⟩];unfold HR;rw[uD (by simpa using h2)];simp only[uX,vm];rw[uK,vX ω];rfl
  .rw[if_neg (fun h=>h2 h.1),tm (by rw[fQ];exact hk)];rfl
 .rw[un χ,un (by rw[fQ];omega)];rfl
def FilR(q:Prob)(a:B)(e0:Nat->En)(r:V)(H':List B):Prop :=
 (r = .tup [.nilS,.bool false]/\¬Okq q)\/
 (r = .tup [.buf 1 0 q.m q.m,.bool true]/\∃e G,H'=He (HR a e0 q.n q.m) 2 q.m q.n e++G/\Ent q (fun x=>toD (e x))/\EnOk e (q.m*q.n) (q.m*q.n)/\rF q (fun x=>toD (e x)))
def cap40(n:Nat)(h:n<=1000000000):n<=9223372036854775806/\(n+1)*40<=140737488355328:=by omega
def filled_r(t:Tb)(ff gg df cf:Bool)(fds:List Fd)(l:List Cr)(hv:TbV t)(hF:ef fds)(hl:l.length<=1000000):
  ak prog 46 [aD ff gg t,LF df fds,LC cf l] [] (FilR (aQ t fds l) (.cells [.str t.name,.lst 1 ff (t.attrs.map V.str),.lst 2 gg (t.rows.map aF)]) (e0 t l)):=by
 obtain⟨b,r⟩:=ξ (B.cells [.str t.name,.lst 1 ff (t.attrs.map V.str),.lst 2 gg (t.rows.map aF)])
 have P:∀k,rbB k b:=fun k=>by rw[r];simp
 rw[<-r];have hm:=hv.rows;have hn:=hv.attrs;have ad:=e0_ent t fds l;have ax:=e0_ok t l (t.rows.length*t.attrs.length);obtain⟨n,o⟩:=ξ t.attrs.length;obtain⟨m,ay⟩:=ξ t.rows.length;have d:=o.symm;have f:=ay.symm;rw[d]at hn;rw[f]at hm;have v:(aQ t fds l).m=m:=f;have E:(aQ t fds l).n=n:=d;have M:(aQ t fds l).fds=fds:=rfl;have hO:EnOk (e0 t l) ((aQ t fds l).m*(aQ t fds l).n) ((aQ t fds l).m*(aQ t fds l).n):=ax;obtain⟨q,hq⟩:=ξ (aQ t fds l);rw[<-hq]at v E M ad hO ⊢
 have J:=fun e n i=>hr_00 b e n i
 have W:=fun e n i G=>hr_0 b e n i G
 rw[r]at J W;rw[<-r]at J W;have t0:=hr_00 b (e0 t l) n;have U:=hr_0 b (e0 t l) n;rw[show some b=some (B.cells [.str t.name,.lst 1 ff (t.attrs.map V.str),.lst 2 gg (t.rows.map aF)]) by rw[r]]at t0 U;have t1:=hr_11 b (e0 t l) n;have al:=hr_1 b (e0 t l) n;have tl:=fQ b (e0 t l) n
 have an:=fun i=>im 2 i n
 refine aH tok func46 rfl rfl ?_;refine wx ?_;simp -dsimp[f46,tg,aD,LS,LR,LC,LF];refine aI (bh 187 1 [8] ζ (W_loopM 61 0x1fffffffffffff00 zMx (σ:=Nat×Nat) (fun p=>p.1<=m/\p.2=p.1*n) (fun p=>m-p.1) (fun p=>[(10,.int .i64 p.1),(8,.buf 1 0 p.1 p.1),(9,.int .i64 (eC t l p.2))]) (fun p=>HR b (e0 t l) n p.1) (0,0) ⟨ζ,ζ⟩ (by simp[eC]) (by simp[HR,outB,jO,r]) (by simp[tl]) ?_));rintro⟨i,c⟩ ⟨hi,hc⟩ N Q hN hQ;simp only at hi hc hN;by_cases O:i<m
 .have hit:i<t.rows.length:=by omega
  obtain⟨rw,D⟩:=ξ (t.rows[i]);have s:=D.symm
  have bi:rw.vals.length=n:=by rw[D,o];exact hv.len _ (ti hit)
  refine wx ?_;simp -dsimp[t0,f,O];refine aI (bh 190 4 [11] ζ (W_loopM 57 0x1fffffffff01a00 zMx (σ:=Nat×Nat) (fun p=>p.1<=n/\p.2=i*n+p.1) (fun p=>n-p.1) (fun p=>[(12,.int .i64 p.1),(11,.buf (2+i) 0 p.1 p.1),(9,.int .i64 (eC t l p.2))]) (fun p=>HR b (e0 t l) n i++[B.buf 190 4 (kM (e0 t l) n i p.1) false]) (0,c) ⟨ζ,by simp[hc]⟩ (by simp[tl]) (by simp[kM]) (by simp[tl]) ?_));rintro⟨a,A⟩ ⟨ha,u⟩ N2 Q2 y C;simp only at ha u y
  have L:∀a',∀bl∈HR b (e0 t l) n i++[B.buf 190 4 (kM (e0 t l) n i a') false],rbB (HR b (e0 t l) n i++[B.buf 190 4 (kM (e0 t l) n i a') false]).length bl:=fun a' bl aA=>by
   rcases List.mem_append.1 aA with h | h
   .exact gV ζ (hr_rb P (e0 t l) n i bl h)
   .simp only[uQ]at h;subst h;rw[rbB_buf1 (parE_pure _ _ _ _)];trivial
  have w0:=get_of (U i [B.buf 190 4 (kM (e0 t l) n i a) false]);have w1:=get_of (al i [B.buf 190 4 (kM (e0 t l) n i a) false]);have I:=get_of (hr_x b (e0 t l) n i (B.buf 190 4 (kM (e0 t l) n i a) false));by_cases g:a<n
  .have be:=bc O g;have bb:m*n<=1000*16:=wS hm hn
   have Z:bZ t A=⟨rw.id,(a:Int)⟩:=by
    rw[u,o,la t (o▸g),cS hit,<-D]
   have S:a<rw.vals.length:=by omega
   have a7:eG t A=rw.vals[a]:=by
    rw[u,o,qf t (o▸g),cS hit,<-D,lB S]
   have z:=has_r l ⟨rw.id,(a:Int)⟩ cf hl;simp only[LC,ab]at z;have hx:=hr_x b (e0 t l) n i (B.buf 190 4 (kM (e0 t l) n i a) false)
   have T:=fun Y=>hr_sx b (e0 t l) n i (B.buf 190 4 (kM (e0 t l) n i a) false) Y
   have R:=parE_len (e0 t l) n i a;have j:=parE_succ (e0 t l) n i a;rw[<-u]at j;have a8:=tF t l A
   cases w:hasC l ⟨rw.id,(a:Int)⟩ with
   | true =>
    rw[w]at z;obtain⟨k1,k2⟩:=qB (t:=t) (l:=l) (x:=A) (by rw[Z];exact nr.1 w);rw[k1]at j;obtain⟨cn,F⟩:=ξ (eC t l A);rw[<-F]at j k2 a8;have H:=F.symm;refine wx ?_;simp -dsimp[w0,tl,d,g,hit,s,aF,H];refine cPx z ?_;simp -dsimp[H,aE cn ω,I,tl,hx,T,R,cap40 a ω,aE a ω];refine y (a+1,A+1) _ _ ⟨θ,θ⟩ θ (by simp[k2]) ⟨[],by simp[j,du,zV5]⟩ (by simp[tl,LC];omega) (L _)
   | false =>
    rw[w]at z;obtain⟨k1,k2⟩:=pS (t:=t) (l:=l) (x:=A) (by rw[Z];exact fun h=>by rw[nr.2 h]at w;cases w);rw[k1,a7]at j;refine wx ?_;simp -dsimp[w0,tl,d,g,hit,s,aF];refine cPx z ?_;simp -dsimp[w0,tl,I,hit,s,aF,LV,S,aP,hx,T,R,cap40 a ω,aE a ω];refine y (a+1,A+1) _ _ ⟨θ,θ⟩ θ (by simp[k2]) ⟨[],by simp[j,du]⟩ (by simp[tl,LC];omega) (L _)
  .obtain rfl:a=n:=by omega
   have a6:=hr_next b (e0 t l) a i;refine wx ?_;simp -dsimp[w0,tl,d,g];apply C;simp -dsimp[w1,al,tl,an,eb i ω,a6,aE i ω];refine hN (i+1,A) _ _ ⟨θ,by simp only;rw[u,uR];omega⟩ θ ζ ⟨[],ζ⟩ (by simp[tl,LC];omega) (hr_rb P _ _ _)
 .have aJ:i=m:=by omega
  subst aJ;have gH:=hr_ok P (e0 t l) n i;have a2:ef q.fds:=M▸hF;refine wx ?_;simp -dsimp[t0,f,O];apply hQ;simp -dsimp;refine aI (W_loopM 69 0x1fe0000000000000c0 zMx (σ:=Nat->En) (fun e=>Ent q (fun x=>toD (e x))/\EnOk e (q.m*q.n) (q.m*q.n)) (fun e=>cntS (q.m*q.n) (q.m*q.n+1) (fun x=>toD (e x))) (fun _=>[]) (fun e=>He (HR b (e0 t l) n i) 2 i n e) (e0 t l) ⟨ad,hO⟩ ζ (by rw[hr_he]) (by simp[et]) ?_);rintro e ⟨hE,X⟩ N2 Q2 y C;have cs:=step_r v E gH e hE X hn hm df a2;rw[M]at cs;simp only[LF]at cs;refine wx ?_;simp -dsimp;refine aM.mono (K:=StepR q (HR b (e0 t l) n i) 2 (q.m*q.n) e) cs ?_;rintro r' H' (⟨rfl,az,G,rfl⟩ | ⟨rfl,ba⟩ | ⟨rfl,e',G,rfl,h1,h2,h3⟩)
  .simp -dsimp;apply C;simp -dsimp;refine .inr ⟨by rw[v],e,G,by rw[v,E],hE,X,az⟩
  .simp -dsimp;apply C;simp -dsimp;exact .inl ⟨rfl,ba⟩
  .simp -dsimp;refine y e' _ _ ⟨h1,h2⟩ h3 ζ ⟨G,by rw[v,E]⟩ (by simp[et,tl,LC];omega) (he_rb gH e')
def filled_p(t:Tb)(u p z cf:Bool)(fds:List Fd)(l:List Cr)(hv:TbV t)(D:ef fds)(hl:l.length<=1000000):
  aK prog 46 [aD u p t,LF z fds,LC cf l] fun r=>∃v,r = .tup [v,.bool (okB (aQ t fds l))]:=by
 refine fo ((filled_r t u p z cf fds l hv D hl).mono fun r H' h=>?_);obtain⟨q,hq⟩:=ξ (aQ t fds l);rw[<-hq]at h ⊢;obtain⟨g,o⟩:=ξ (B.cells [.str t.name,.lst 1 u (t.attrs.map V.str),.lst 2 p (t.rows.map aF)]);rw[<-o]at h
 have w:∀k,rbB k g:=fun k=>by rw[o];simp
 rcases h with⟨rfl,y⟩ | ⟨rfl,e,G,rfl,h1,h2,C⟩
 .rw[okB_false y];exact⟨.tup [.nilS,.bool false],.pure _ ζ,ζ,.nilS,rfl⟩
 .rw[okB_true ⟨_,h1.sol C⟩];have A:=hr_ok w (e0 t l) q.n q.m;have b:=et (HR g (e0 t l) q.n q.m) 2 q.m q.n e;refine⟨.tup [.lst 1 false ((tr q.m).map fun j=>.lst 4 false (fO e q.n j)),.bool true],?_,?_,_,rfl⟩
  .refine .tup _ _ rfl (fun i c d a f=>?_)
   match i with
   | 0 =>
    simp at a f;subst a;subst f
    have hk:(He (HR g (e0 t l) q.n q.m) 2 q.m q.n e++G)[1]?=some (.buf 187 1 (jO 2 q.m q.n) false):=by
     rw[tu (by rw[b,fQ];omega)];exact he_out A e
    have hx:=ExpX.bufx (H:=He (HR g (e0 t l) q.n q.m) 2 q.m q.n e++G) 1 _ _ (jO 2 q.m q.n) ((tr q.m).map fun j=>V.lst 4 false (fO e q.n j)) false hk (by simp[im]) (fun j c d a f=>by
     by_cases s:j<q.m
     .simp[jO,s]at a f;subst a;subst f
      have hr:(He (HR g (e0 t l) q.n q.m) 2 q.m q.n e++G)[2+j]?=some (.buf 190 4 (fO e q.n j) false):=by
       rw[tu (by rw[b,fQ];omega)];exact mb A e s
      have:=ExpX.buf (2+j) _ _ (fO e q.n j) false hr (fun x hx=>(lF e q.n j x hx).1);rw[eQ]at this;exact this
     .rw[un (by rw[im];omega)]at a;cases a)
    rw[im]at hx;exact hx
   | 1 =>
    simp at a f;subst a;subst f;exact .pure _ ζ
   | k+2=>simp at a
  .simp;intro j s x hx;exact(lF e q.n j x hx).1
def enough_r(t:Tb)(b d c cf:Bool)(fds:List Fd)(l:List Cr)(hv:TbV t)(e:ef fds)(hl:l.length<=1000000):
  aK prog 20 [aD b d t,LF c fds,LC cf l] fun r=>r = .bool (okB (aQ t fds l)):=by
 have a:=filled_p t b d c cf fds l hv e hl;simp only[aD,LS,LR,LC,LF]at a;refine sPx func20 ?_;simp -dsimp[f20,tg,aD,LS,LR,LC,LF];refine(callK a ζ).mono ?_;rintro r H' ⟨rfl,_,v,rfl⟩;simp -dsimp
end
end
end Go.Proofs.YtnaokiodhoadjaaGreatDoor
