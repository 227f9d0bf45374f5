/- JB17: texts V7, V5, ClR, joined and shortened by pack6.py. -/
import Derived.Test.YtnaokiodhoadjaaGreatDoorJB14
import Derived.WalkSpells
import Derived.WalkLawsBesides
import Derived.Lib.Hide
import Derived.Maps.AppendAt
set_option linter.all false
set_option maxRecDepth 100000
set_option maxHeartbeats 64000000
open List renaming replicate→tg,length_cons→uX
namespace Go.Proofs.YtnaokiodhoadjaaGreatDoor
section
open Go Go.AM Go.Proofs.Tryz
section
def ef(fds:List Fd):Prop:=fds.length<=1000000/\∀d∈fds,d.l<4294967296/\d.r<4294967296
def ClsP(q:Prob)(r:Nat->Nat)(d:Fd)(i k:Nat):Prop:=AgrE q r i k d.l q.n->AgrE q r i k d.r q.n
def ClsD(q:Prob)(r:Nat->Nat)(d:Fd)(m:Nat):Prop:=∀i k,i<m->k<i->ClsP q r d i k
def tW{q:Prob}{r:Nat->Nat}{i k s:Nat}(hs:s<4294967296)(hn:q.n<=16):AgrE q r i k s q.n↔∀a,a<q.n->s.testBit a=true->eqv q r (i*q.n+a) (k*q.n+a):=by
 unfold AgrE;constructor
 .intro h a ha hb;exact h a ha (by rw[eU s a hs ω];exact hb)
 .intro h a ha hb;exact h a ha (by rw[eU s a hs ω]at hb;exact hb)
def closed_of{q:Prob}{r:Nat->Nat}(hn:q.n<=16)(b:∀d∈q.fds,d.l<4294967296/\d.r<4294967296)(h:∀d∈q.fds,ClsD q r d q.m):eg q r:=fun d a i k hi hk hl =>
 (tW (b d a).2 hn).1 (h d a i k hi hk ((tW (b d a).1 hn).2 hl))
def must{q:Prob}{P:List Nat}{r h:Nat->Nat}(f:Frt q P r h)(hn:q.n<=16){d:Fd}(j:d∈q.fds)(hb:d.l<4294967296/\d.r<4294967296){i k a:Nat}(hi:i<q.m)(hk:k<i)(hl:AgrE q r i k d.l q.n)(ha:a<q.n)(hr:gd d.r a=true):
  ∀σ,Sol q σ->σ (i*q.n+a)=σ (k*q.n+a):=fun σ e=>by
 refine e.dep d j i k hi hk (fun b c g=>?_) a ha (by rw[eU _ _ hb.2 ω]at hr;exact hr);exact f.eqv_sem e (bc hi c) (bc ω c) ((tW hb.1 hn).1 hl b c g)
def ht_app(H:List B)(kp:Nat)(P:List Nat)(c:B)(h:kp<H.length):Ht H kp P++[c]=Ht (H++[c]) kp P:=by
 unfold Ht;rw[xc _ _ h]
def rb1_mono{n m:Nat}(h:n<=m){v:V}(hv:rb1 n v):rb1 m v:=by
 cases v<;>simp only[rb1]at hv ⊢<;>first | exact hv | omega | trivial
def qh{n m:Nat}(h:n<=m){v:V}(hv:rb n v):rb m v:=by
 cases v<;>simp only[rb]at hv ⊢<;>first | exact rb1_mono h hv | exact fun c a=>rb1_mono h (hv c a) | trivial
def gV{n m:Nat}(h:n<=m){bl:B}(hb:rbB n bl):rbB m bl:=by
 cases bl with
 | cells cs=>exact fun c a=>qh h (hb c a)
 | map kk es=>exact fun p hp=>⟨qh h (hb p hp).1,qh h (hb p hp).2⟩
 | buf e z xs fz=>exact fun x hx c a=>qh h (hb x hx c a)
def HOk.app{H:List B}{k0 kp kq n N:Nat}{K:Nat->Option Vl}(g:HOk H k0 kp kq n N K)(a b:Int):HOk (H++[B.cells [.int .u32 a,.int .u32 b]]) k0 kp kq n N K:=by
 refine⟨?_,by have:=g.hp;simp;omega,?_,g.n0,g.nq,fun P bl hb=>?_⟩
 .rw[tu g.lt0];exact g.h0
 .rw[tu (aB g.hq)];exact g.hq
 .rw[<-ht_app _ _ _ _ g.hp]at hb
  rcases List.mem_append.1 hb with hb | hb
  .have:=g.rb P bl hb;exact gV ζ this
  .simp only[uQ]at hb;subst hb;simp
open Classical in
noncomputable def rFn(q:Prob)(P:List Nat):Nat->Nat:=if h:∃r h,Frt q P r h then h.choose else id
def Fr(q:Prob)(P:List Nat):Prop:=∃h,Frt q P (rFn q P) h
def pz{q:Prob}{P:List Nat}{r h:Nat->Nat}(f:Frt q P r h):Fr q P:=by
 have a:∃r h,Frt q P r h:=⟨r,h,f⟩;unfold Fr rFn;rw[dif_pos a];exact a.choose_spec
inductive FSt where
 | top (ag:Bool) (P:List Nat)
 | fd (j:Nat) (ag:Bool) (P:List Nat)
 | row (j i:Nat) (ag:Bool) (P:List Nat)
 | col (j i k:Nat) (ag:Bool) (P:List Nat)
 | att (j i k a:Nat) (P:List Nat)
 | done (b:Bool) (P:List Nat) (tl:List B)
def fdAt(q:Prob)(j:Nat):Fd:=q.fds.getD j ⟨0,0⟩
def fdB(d:Fd):B:=B.cells [.int .u32 (d.l:Int),.int .u32 (d.r:Int)]
open Classical in
noncomputable def mf(q:Prob):FSt->FSt
 | .top false P=>.done true P []
 | .top true P=>.fd 0 false P
 | .fd j ag P=>if j<q.fds.length then .row j 0 ag P else .top ag P
 | .row j i ag P=>if i<q.m then .col j i 0 ag P else .fd (j+1) ag P
 | .col j i k ag P=>if k<i then(if agB q (rFn q P) i k (fdAt q j).l=false\/agB q (rFn q P) i k (fdAt q j).r=true then .col j i (k+1) ag P else .att j i k 0 P) else .row j (i+1) ag P
 | .att j i k a P=>if a<q.n then(if gd (fdAt q j).r a=true then(if sD q (rFn q P) (i*q.n+a) (k*q.n+a)=true then .att j i k (a+1) (pu q P (rFn q P) (i*q.n+a) (k*q.n+a)) else .done false (pu q P (rFn q P) (i*q.n+a) (k*q.n+a)) [fdB (fdAt q j)]) else .att j i k (a+1) P) else .col j i (k+1) true P
 | .done b P tl=>.done b P tl
noncomputable def fit(q:Prob):Nat->FSt->FSt
 | 0,s=>s
 | n+1,s=>fit q n (mf q s)
theorem qw(q:Prob):∀(n k:Nat) (s:FSt),fit q (n+k) s=fit q k (fit q n s)
 | 0,k,s=>by rw[vD];rfl
 | n+1,k,s=>by rw[(ω:n+1+k=(n+k)+1)];exact qw q n k (mf q s)
theorem sS(q:Prob)(b:Bool)(P:List Nat)(tl:List B):∀n,fit q n (.done b P tl)= .done b P tl
 | 0=>rfl
 | n+1=>sS q b P tl n
def Rch(q:Prob)(s t:FSt):Prop:=∃n,fit q n s=t
def Rch.refl(q:Prob)(s:FSt):Rch q s s:=⟨0,rfl⟩
def Rch.step{q:Prob}{s t u:FSt}(h:Rch q s t)(hs:mf q t=u):Rch q s u:=by
 obtain⟨n,hn⟩:=h;refine⟨n+1,?_⟩;rw[qw,hn];exact hs
def Rch.uniq{q:Prob}{s:FSt}{b d:Bool}{P c:List Nat}{tl a:List B}(h:Rch q s (.done b P tl))(g:Rch q s (.done d c a)):FSt.done b P tl = .done d c a:=by
 obtain⟨n,hn⟩:=h;obtain⟨m,hm⟩:=g
 rcases Nat.le_total n m with e | e
 .obtain⟨k,rfl⟩:=Nat.exists_eq_add_of_le e;rw[qw,hn,sS]at hm;exact hm
 .obtain⟨k,rfl⟩:=Nat.exists_eq_add_of_le e;rw[qw,hm,sS]at hn;exact hn.symm
open Classical in
noncomputable def sX(q:Prob)(P:List Nat):List Nat:=if h:∃o:Bool×List Nat×List B,Rch q (.top true P) (.done o.1 o.2.1 o.2.2) then h.choose.2.1 else P
open Classical in
noncomputable def fillT(q:Prob)(P:List Nat):List B:=if h:∃o:Bool×List Nat×List B,Rch q (.top true P) (.done o.1 o.2.1 o.2.2) then h.choose.2.2 else []
def fill_eq{q:Prob}{P c:List Nat}{b:Bool}{tl:List B}(h:Rch q (.top true P) (.done b c tl)):sX q P=c/\fillT q P=tl:=by
 have a:∃o:Bool×List Nat×List B,Rch q (.top true P) (.done o.1 o.2.1 o.2.2):=⟨(b,c,tl),h⟩;have:=Rch.uniq a.choose_spec h;unfold sX fillT;rw[dif_pos a,dif_pos a];simp only[FSt.done.injEq]at this;exact⟨this.2.1,this.2.2⟩
def Mid(q:Prob)(a:List Nat)(ag:Bool)(P:List Nat)(C:(Nat->Nat)->Prop):Prop:=Fr q P/\(ag=true->oS P<oS a)/\(ag=false->P=a/\C (rFn q P))
def Mid.imp{q:Prob}{d P:List Nat}{ag:Bool}{C f:(Nat->Nat)->Prop}(h:Mid q d ag P C)(hi:ag=false->∀r,C r->f r):Mid q d ag P f:=by
 obtain⟨a,b,c⟩:=h;exact⟨a,b,fun e=>⟨(c e).1,hi e _ (c e).2⟩⟩
def fill_u{q:Prob}{M:List Nat}{r0 cI:Nat->Nat}(f0:Frt q M r0 cI){H:List B}{k0 kp kq n N:Nat}(ay:q.m*q.n=N)(hn:q.n=n)(g:HOk H k0 kp kq n N q.K)(hN:N<=1000000)(b6:n<=16)(hm:q.m<=1000000)(ff:Bool)(hF:ef q.fds):
  ak prog 73 [.ptr k0 0,.int .i64 q.m,LF ff q.fds] (Ht H kp M) fun S H'=>S = .bool (okB q)/\H'=Ht H kp (sX q M)++fillT q M/\(okB q=true->fillT q M=[]/\Fr q (sX q M)/\eg q (rFn q (sX q M))):=by
 obtain⟨cB,bY⟩:=hF;obtain⟨fds,o⟩:=ξ q.fds;rw[<-o]at cB bY ⊢;obtain⟨m,a7⟩:=ξ q.m;rw[<-a7]at hm ⊢;refine aH tok func73 rfl rfl ?_;refine wx ?_;simp -dsimp[f73,tg,LF];refine aI (W_loopM 81 0x1fffffffffffffffffec0 zMx (σ:=Bool×List Nat) (fun p=>Fr q p.2/\(p.1=false->eg q (rFn q p.2))/\Rch q (.top true M) (.top p.1 p.2)) (fun p=>oS p.2+(if p.1 then 1 else 0)) (fun p=>[(7,.bool p.1)]) (fun p=>Ht H kp p.2) (true,M) ⟨pz f0,(fun h=>by cases h),Rch.refl _ _⟩ ζ rfl (by simp[iV]) ?_);rintro⟨ag,P⟩ ⟨f,bz,hR⟩ N1 Q1 cp b7;simp only at f bz hR;have dh:=ptrRb g P
 cases ag with
 | false =>
  refine wx ?_;simp -dsimp;apply b7;simp -dsimp;obtain⟨c,e2⟩:=fill_eq (hR.step (u:=.done true P []) rfl);obtain⟨h,f⟩:=f;rw[okB_true ⟨_,f.sol (bz rfl)⟩,c,e2];exact⟨rfl,by rw[uC],fun _=>⟨rfl,⟨h,f⟩,bz rfl⟩⟩
 | true =>
  refine wx ?_;simp -dsimp;refine aI (W_loopM 81 0x1ffffffffffffffff1ec0 zMx (σ:=Nat×Bool×List Nat) (fun p=>p.1<=fds.length/\Mid q P p.2.1 p.2.2 (fun r=>∀d∈fds.take p.1,ClsD q r d m)/\Rch q (.top true M) (.fd p.1 p.2.1 p.2.2)) (fun p=>fds.length-p.1) (fun p=>[(16,.int .i64 p.1),(7,.bool p.2.1)]) (fun p=>Ht H kp p.2.2) (0,false,P) ⟨ζ,⟨f,ζ,fun _=>⟨rfl,ζ⟩⟩,hR.step rfl⟩ ζ rfl (by simp[iV]) ?_);rintro⟨j,ba,P2⟩ ⟨hj,Z,bb⟩ N2 Q2 b4 b5;simp only at hj Z bb b4;by_cases v:j<fds.length
  .have bi:fds[j]∈fds:=ti v;obtain⟨d,hd⟩:=ξ (fds[j]);rw[<-hd]at bi;have T:=hd.symm;have c8:=bY d bi;have g2:=g.app d.l d.r;obtain⟨F,al⟩:=ξ (H++[B.cells [.int .u32 (d.l:Int),.int .u32 (d.r:Int)]]);rw[<-al]at g2
   have J:∀P,Ht H kp P++[B.cells [.int .u32 (d.l:Int),.int .u32 (d.r:Int)]]=Ht F kp P:=fun P=>by rw[ht_app _ _ _ _ g.hp,al]
   have hcell:∀P,(Ht F kp P)[H.length]?=some (B.cells [.int .u32 (d.l:Int),.int .u32 (d.r:Int)]):=fun P=>by
    rw[<-J P,uD (by rw[iV];omega),iV];simp
   have R:∀P,H.length<(Ht F kp P).length:=fun P=>by rw[iV,al];simp
   have a2:=fun P=>iV H kp P
   have E:=fun P=>iV F kp P
   have c7:H.length<=F.length:=by rw[al];simp
   have O:=fun P=>ptrRb g2 P
   have t:=fun P=>g2.rbs P
   refine wx ?_;simp -dsimp[v,dY,T,J,a2];refine aI (W_loopM 80 0xffffffffffffffe01cc0 zMx (σ:=Nat×Bool×List Nat) (fun p=>p.1<=m/\Mid q P p.2.1 p.2.2 (fun r=>(∀d∈fds.take j,ClsD q r d m)/\ClsD q r d p.1)/\Rch q (.top true M) (.row j p.1 p.2.1 p.2.2)) (fun p=>m-p.1) (fun p=>[(21,.int .i64 p.1),(7,.bool p.2.1)]) (fun p=>Ht F kp p.2.2) (0,ba,P2) ⟨ζ,Z.imp fun _ r hr=>⟨hr,fun i k hi=>by omega⟩,bb.step (by simp only[mf,if_pos (o▸v)])⟩ ζ rfl (by simp[E,c7]) ?_);rintro⟨i,b9,P3⟩ ⟨hi,G,a8⟩ N3 Q3 ck b8;simp only at hi G a8 ck;by_cases bv:i<m
   .refine wx ?_;simp -dsimp[bv];refine aI (W_loopM 79 0x7ffffffffffffe0018c0 zMx (σ:=Nat×Bool×List Nat) (fun p=>p.1<=i/\Mid q P p.2.1 p.2.2 (fun r=>(∀d∈fds.take j,ClsD q r d m)/\ClsD q r d i/\∀k,k<p.1->ClsP q r d i k)/\Rch q (.top true M) (.col j i p.1 p.2.1 p.2.2)) (fun p=>i-p.1) (fun p=>[(25,.int .i64 p.1),(7,.bool p.2.1)]) (fun p=>Ht F kp p.2.2) (0,b9,P3) ⟨ζ,G.imp fun _ r hr=>⟨hr.1,hr.2,fun k hk=>by omega⟩,a8.step (by simp only[mf,if_pos (a7▸bv)])⟩ ζ rfl (by simp[E]) ?_);rintro⟨k,ax,I⟩ ⟨hk,z,U⟩ N4 Q4 az cb;simp only at hk z U az;by_cases x:k<i
    .obtain⟨cA,m1,m2⟩:=z;obtain⟨h4,f4⟩:=cA;obtain⟨r4,A⟩:=ξ (rFn q I);rw[<-A]at f4 m2
     have L:fdAt q j=d:=by rw[hd,<-show fds.getD j ⟨0,0⟩=fds[j] by simp[v],o];rfl
     have c1:=agree_u f4 ay hn g2 hN i k (d.l:Int) ω ω b6;have c2:=agree_u f4 ay hn g2 hN i k (d.r:Int) ω ω b6
     have de:∀(hP:ClsP q r4 d i k),∀(N:List V->List B->Prop),True:=fun _ _=>trivial
     cases y:agB q r4 i k d.l with
     | false =>
      rw[y]at c1
      have be:ClsP q r4 d i k:=fun hx=>by rw[lz.2 hx]at y;cases y
      refine wx ?_;simp -dsimp[x,hcell];refine aM.mono (K:=fun S H'=>S = .bool false/\H'=Ht F kp I) c1 ?_;rintro _ _ ⟨rfl,rfl⟩;simp -dsimp[aE k ω];refine az (k+1,ax,I) _ _ ⟨θ,⟨pz f4,m1,fun e=>⟨(m2 e).1,A▸⟨(m2 e).2.1,(m2 e).2.2.1,fun k' Q=>?_⟩⟩⟩,U.step (by simp only[mf,if_pos x,<-A,L];rw[if_pos (.inl y)])⟩ θ ζ ⟨[],ζ⟩ (by simp[O,R]) (t _)
      rcases uP k' k with c | c
      .exact(m2 e).2.2.2 k' c
      .have:k'=k:=by simp only at Q;omega
       subst this;exact be
     | true =>
      rw[y]at c1
      cases D:agB q r4 i k d.r with
      | true =>
       rw[D]at c2
       have be:ClsP q r4 d i k:=fun _=>lz.1 D
       refine wx ?_;simp -dsimp[x,hcell];refine aM.mono (K:=fun S H'=>S = .bool true/\H'=Ht F kp I) c1 ?_;rintro _ _ ⟨rfl,rfl⟩;simp -dsimp[hcell];refine aM.mono (K:=fun S H'=>S = .bool true/\H'=Ht F kp I) c2 ?_;rintro _ _ ⟨rfl,rfl⟩;simp -dsimp[aE k ω];refine az (k+1,ax,I) _ _ ⟨θ,⟨pz f4,m1,fun e=>⟨(m2 e).1,A▸⟨(m2 e).2.1,(m2 e).2.2.1,fun k' Q=>?_⟩⟩⟩,U.step (by simp only[mf,if_pos x,<-A,L];rw[if_pos (.inr D)])⟩ θ ζ ⟨[],ζ⟩ (by simp[O,R]) (t _)
       rcases uP k' k with c | c
       .exact(m2 e).2.2.2 k' c
       .have:k'=k:=by simp only at Q;omega
        subst this;exact be
      | false =>
       rw[D]at c2
       have df:oS I<=oS P:=by
        cases ax with
        | true=>exact Nat.le_of_lt (m1 rfl)
        | false=>rw[(m2 rfl).1];exact uA _
       have c3:=g2.at0;refine wx ?_;simp -dsimp[x,hcell];refine aM.mono (K:=fun S H'=>S = .bool true/\H'=Ht F kp I) c1 ?_;rintro _ _ ⟨rfl,rfl⟩;simp -dsimp[hcell];refine aM.mono (K:=fun S H'=>S = .bool false/\H'=Ht F kp I) c2 ?_;rintro _ _ ⟨rfl,rfl⟩;simp -dsimp[c3];refine aI (W_loopM 78 0x3fffffff800000001040 zMx (σ:=Nat×List Nat) (fun p=>p.1<=n/\Fr q p.2/\(oS p.2<oS I\/(p.2=I/\AgrE q r4 i k d.r p.1))/\Rch q (.top true M) (.att j i k p.1 p.2)) (fun p=>n-p.1) (fun p=>[(47,.int .i64 p.1)]) (fun p=>Ht F kp p.2) (0,I) ⟨ζ,pz f4,.inr ⟨rfl,fun b hb=>by omega⟩,U.step (by simp only[mf,if_pos x,<-A,L];rw[if_neg (by rw[y,D];simp)])⟩ ζ rfl (by simp[E]) ?_);rintro⟨a,P5⟩ ⟨ha,b2,W,Y⟩ N5 Q5 bx ca;simp only at ha b2 W Y bx;obtain⟨h5,f5⟩:=b2;obtain⟨r5,aA⟩:=ξ (rFn q P5);rw[<-aA]at f5;have an:=g2.at0 P5;by_cases s:a<n
       .cases hh:gd (d.r:Int) a with
        | false =>
         refine wx ?_;simp -dsimp[s,hcell,di,hh,(ω:(a:Int)<32)];refine sTx ?_;simp -dsimp[aE a ω];refine bx (a+1,P5) _ _ ⟨θ,pz f5,?_,Y.step (by simp only[mf,if_pos (hn▸s),L,hh];rw[if_neg ζ])⟩ θ ζ ⟨[],ζ⟩ (by simp[O,R]) (t _)
         rcases W with c | ⟨c,e3⟩
         .exact .inl c
         .refine .inr ⟨c,fun b ci X=>?_⟩
          rcases uP b a with e4 | e4
          .exact e3 b e4 X
          .have:b=a:=by simp only at ci;omega
           subst this;rw[hh]at X;cases X
        | true =>
         have li:=bc (n:=n) (show i<q.m by omega) s;have lk:=bc (n:=n) (show k<q.m by omega) s
         have cg:q.m*n=N:=by rw[<-hn];exact ay
         have ad:=must f4 ω (o▸bi) c8 (show i<q.m by omega) x (lz.1 y) (hn▸s) hh;rw[hn]at ad
         have c5:i*n+a<q.m*q.n:=by rw[hn];exact li
         have ct:k*n+a<q.m*q.n:=by rw[hn];exact lk
         have w:=join_post f5 c5 ct ad;have cj:=join_u f5 ay g2 hN (i*n+a) (k*n+a) ω ω;rw[cg]at li lk
         have w1:IntKind.i64.wrap ((i:Int)*n)=((i*n:Nat):Int):=by rw[wrap64 ω ω];push_cast;rfl
         have w2:IntKind.i64.wrap ((k:Int)*n)=((k*n:Nat):Int):=by rw[wrap64 ω ω];push_cast;rfl
         have w3:IntKind.i64.wrap (((i*n:Nat):Int)+(a:Int))=((i*n+a:Nat):Int):=by rw[wrap64 ω ω];push_cast;rfl
         have w4:IntKind.i64.wrap (((k*n:Nat):Int)+(a:Int))=((k*n+a:Nat):Int):=by rw[wrap64 ω ω];push_cast;rfl
         have c:i*q.n+a=i*n+a:=by rw[hn]
         have e2:k*q.n+a=k*n+a:=by rw[hn]
         obtain⟨xi,ce⟩:=ξ (i*n+a);obtain⟨xk,b3⟩:=ξ (k*n+a);obtain⟨yi,c4⟩:=ξ (i*n);obtain⟨yk,cm⟩:=ξ (k*n);rw[<-ce]at w3 c;rw[<-b3]at w4 e2;rw[<-ce,<-b3]at cj w;rw[<-c4]at w1 w3;rw[<-cm]at w2 w4;obtain⟨jb,v⟩:∃b,b=sD q r5 xi xk:=⟨_,rfl⟩;obtain⟨jp,b1⟩:∃b,b=pu q P5 r5 xi xk:=⟨_,rfl⟩;rw[<-v,<-b1]at cj w
         have a6:sD q (rFn q P5) (i*q.n+a) (k*q.n+a)=jb:=by rw[<-aA,c,e2];exact v.symm
         have aJ:pu q P5 (rFn q P5) (i*q.n+a) (k*q.n+a)=jp:=by rw[<-aA,c,e2];exact b1.symm
         cases jb with
         | false =>
          have dd:¬Okq q:=by
           rcases w with⟨_,e⟩ | ⟨e,_⟩ | ⟨e,_⟩
           .exact e
           .cases e
           .cases e
          refine wx ?_;simp -dsimp[s,hcell,di,hh,(ω:(a:Int)<32),an,w1,w2,w3,w4];refine .inl (aI (ae tok mixed [24] [] [(.bool false,Ht F kp jp)] υ fun C K hC hK=>?_));simp -implicitDefEqProofs [hcell,di,hh,(ω:(a:Int)<32),an,w1,w2,w3,w4];refine⟨hC _ _ _ _ cj,hK _ _ ?_⟩;simp -dsimp;apply ca;simp -dsimp;apply cb;simp -dsimp;apply b8;simp -dsimp;apply b5;simp -dsimp;apply b7;simp -dsimp;obtain⟨x1,x2⟩:=fill_eq (Y.step (u:=.done false jp [fdB d]) (by simp only[mf,if_pos (hn▸s),L,if_pos hh,a6,aJ];rw[if_neg ζ]));rw[okB_false dd,x1,x2];exact⟨rfl,by rw[fdB,J],fun e=>by cases e⟩
         | true =>
          refine wx ?_;simp -dsimp[s,hcell,di,hh,(ω:(a:Int)<32),an,w1,w2,w3,w4];refine .inl (aI (ae tok mixed [24] [] [(.bool true,Ht F kp jp)] υ fun C K hC hK=>?_));simp -implicitDefEqProofs [hcell,di,hh,(ω:(a:Int)<32),an,w1,w2,w3,w4];refine⟨hC _ _ _ _ cj,hK _ _ ?_⟩;simp -dsimp[aE a ω];have br:=Y.step (u:=.att j i k (a+1) jp) (by simp only[mf,if_pos (hn▸s),L,if_pos hh,a6,aJ];rw[if_pos trivial]);refine bx (a+1,jp) _ _ ⟨θ,?_⟩ θ ζ ⟨[],ζ⟩ (by simp[O,R]) (t _)
          rcases w with⟨e,_⟩ | ⟨_,e,e'⟩ | ⟨_,e,S,h',f'⟩
          .cases e
          .simp only;rw[e']at br ⊢;refine⟨pz f5,?_,br⟩
           rcases W with d1 | ⟨d1,d3⟩
           .exact .inl d1
           .refine .inr ⟨d1,fun b ci X=>?_⟩
            rcases uP b a with e4 | e4
            .exact d3 b e4 X
            .have:b=a:=by omega
             subst this;rw[c,e2,A,<-d1,<-aA];exact e
          .refine⟨pz f',.inl ?_,br⟩;simp only
           rcases W with d1 | ⟨d1,d3⟩
           .omega
           .rw[<-d1];exact e
       .have cw:a=n:=by omega
        subst cw;refine wx ?_;simp -dsimp[s];apply ca;simp -dsimp[aE k ω]
        have dk:oS P5<oS I:=by
         rcases W with c | ⟨c,e3⟩
         .exact c
         .rw[lz.2 (hn▸e3)]at D;cases D
        refine az (k+1,true,P5) _ _ ⟨θ,⟨pz f5,fun _=>by simp only;omega,fun e=>by cases e⟩,Y.step (by simp only[mf];rw[if_neg ω])⟩ θ ζ ⟨[],ζ⟩ (by simp[O,R]) (t _)
    .have c6:k=i:=by omega
     subst c6;refine wx ?_;simp -dsimp[x];apply cb;simp -dsimp[aE k ω];refine ck (k+1,ax,I) _ _ ⟨θ,z.imp fun _ r hr=>⟨hr.1,fun i' k' cE Q=>?_⟩,U.step (by simp only[mf];rw[if_neg x])⟩ θ ζ ⟨[],ζ⟩ (by simp[O,R]) (t _)
     rcases uP i' k with c | c
     .exact hr.2.1 i' k' c Q
     .have:i'=k:=by simp only at cE;omega
      subst this;exact hr.2.2 k' Q
   .have dc:i=m:=by omega
    subst dc;refine wx ?_;simp -dsimp[bv];apply b8;simp -dsimp[aE j ω];refine b4 (j+1,b9,P3) _ _ ⟨θ,G.imp fun _ r hr=>fun d' T=>?_,a8.step (by simp only[mf];rw[if_neg ω])⟩ θ ζ ⟨_,(J P3).symm⟩ (by simp[a2,g.lt0]) (g.rbs _);simp only at T;rw[tz v]at T
    rcases List.mem_append.1 T with c | c
    .exact hr.1 d' c
    .simp only[uQ]at c;rw[c,<-hd];exact hr.2
  .have c9:j=fds.length:=by omega
   subst c9;obtain⟨f2,m1,m2⟩:=Z;refine wx ?_;simp -dsimp[v];apply b5;simp -dsimp;refine cp (ba,P2) _ _ ⟨f2,fun e=>?_,bb.step (by simp only[mf,<-o];rw[if_neg ω])⟩ ?_ ζ ⟨[],ζ⟩ (by simp[ptrRb g]) (g.rbs _)
   .have:=(m2 e).2;rw[uV]at this;exact closed_of ω (o▸bY) (by rw[<-o,<-a7];exact this)
   .cases ba with
    | true=>have:=m1 rfl;simp;omega
    | false=>have:=(m2 rfl).1;simp[this]
end
def shr15(lo hi:Nat)(h:lo+hi<=4000000):IntKind.i64.wrap ((IntKind.u64.wrap ((lo+hi:Nat):Int)).fdiv (2^min 1 IntKind.u64.bits))=(((lo+hi) / 2:Nat):Int):=by
 have h1:(2:Int)^min 1 IntKind.u64.bits=2:=rfl
 have h2:IntKind.u64.wrap ((lo+hi:Nat):Int)=((lo+hi:Nat):Int):=by rw[IntKind.wrap_u64];omega
 rw[h2,h1,wO _ ω,wrap64 ω ω];omega
def bsF5(l:List Cr)(x:Cr):Bool:=decide (bsC l x 0 l.length<l.length)&&(cP (cAt l (bsC l x 0 l.length)) x == 0)
def tQ{l:List Cr}(hs:aS l)(x:Cr):bsF5 l x=true↔x∈l:=by
 rw[<-bsC_mem hs x];unfold bsF5;rw[tt,decide_eq_true_iff,beq_iff_eq];constructor
 .rintro⟨h1,h2⟩;exact⟨h1,by rwa [jd h1]at h2⟩
 .rintro⟨h1,h2⟩;exact⟨h1,by rwa [jd h1]⟩
def oV(l:List Cr)(x:Cr)(f:Bool)(hl:l.length<=1000000):aK prog 71 [LC f l,ab x,.fn 69 []] fun r=>r = .tup [.int .i64 (bsC l x 0 l.length),.bool (bsF5 l x)]:=by
 obtain⟨E,c⟩:=ξ (bsC l x 0 l.length)
 have g:bsF5 l x=(decide (E<l.length)&&(cP (cAt l E) x == 0)):=by rw[c];rfl
 rw[<-c];refine sPx func71 ?_;simp -dsimp[f71,tg,LC,ab];refine aI (W_loopM 35 0x7ffff8e00 zMx (σ:=Nat×Nat) (fun p=>p.1<=p.2/\p.2<=l.length/\bsC l x p.1 p.2=E) (fun p=>p.2-p.1) (fun p=>[(9,.int .i64 p.1),(10,.int .i64 p.2)]) (fun _=>[B.cells [.int .i64 x.id,.int .i64 x.attr]]) (0,l.length) ⟨ω,ω,c.symm⟩ ζ rfl ζ ?_);rintro⟨lo,hi⟩ ⟨h1,h2,hx⟩ N Q h i;simp only at h1 h2 hx;by_cases hb:lo<hi
 .have e:IntKind.i64.wrap ((lo:Int)+(hi:Int))=((lo+hi:Nat):Int):=by rw[wrap64 ω ω];rfl
  have hs:=shr15 lo hi ω;rw[bsC,if_pos hb]at hx;obtain⟨m,em⟩:=ξ ((lo+hi) / 2);rw[<-em]at hs hx;obtain⟨j,d⟩:=ξ (lo+hi);rw[<-d]at hs e em
  have hm:m<l.length:=by omega
  rw[jd hm]at hx;have a:=pX l[m] x;simp only[ab]at a;have b:=aE m ω;by_cases hq:cP l[m] x<0
  .rw[if_pos hq]at hx;refine wx ?_;simp -dsimp[hb,e,hs,hm,ab];refine sTx ?_;refine cQx a ?_;simp -dsimp[hq,b];refine h (m+1,hi) _ _ ⟨θ,h2,hx⟩ ω ?_ ⟨[],?_⟩ ?_ ?_<;>simp[or_imp,forall_and,L1,aG]
  .rw[if_neg hq]at hx;refine wx ?_;simp -dsimp[hb,e,hs,hm,ab];refine sTx ?_;refine cQx a ?_;simp -dsimp[hq,b];refine h (lo,m) _ _ ⟨θ,θ,hx⟩ ω ?_ ⟨[],?_⟩ ?_ ?_<;>simp[or_imp,forall_and,L1,aG]
 .rw[bsC,if_neg hb]at hx;subst hx;by_cases hn:lo<l.length
  .have a:=pX l[lo] x;simp only[ab]at a;rw[jd hn]at g;refine wx ?_;simp -dsimp[hb];apply i;simp -dsimp[hn,ab];refine sTx ?_;refine cQx a ?_;simp -dsimp[hn];rw[g];simp[hn]
  .refine wx ?_;simp -dsimp[hb];apply i;simp -dsimp[hn,ab];refine sTx ?_;rw[g];simp[hn]
end
section
open Go Go.AM Go.RowKit Go.Proofs.Tryz
def capRw(n:Nat)(h:n<=1000000000):n<=9223372036854775806/\(n+1)*32<=140737488355328:=by omega
def conO_row0{f:FuncId}{args:List V}{e z:Nat}(t:AM.Enters prog f)(h:∀(F:Nat->Prop) (w:World) (vals:Array Value),vals.size=args.length->(∀(i:Nat) a u,args[i]?=some a->vals[i]?=some u->Rel (AM.base F w) a u)->
  Calls prog f vals w fun e' n=>∃v,e' = .returned v/\Below w.heap.size w n/\(v = .slice none 0 0\/∃g c cur,v = .slice (some ⟨g,0,none⟩) 0 c/\w.heap.size<=g/\n.heap[g]?=some (.cells cur e (0,0))/\c<=maxLen/\cur.size=c*z)):ia prog f args fun e' y ys=>e'=e/\y=z/\ys=[]:=by
 refine⟨t,fun F w vals A q p hrel=>(h F w vals p hrel).mono fun e' n ⟨v,he,hb,hv⟩=>?_⟩
 rcases hv with hv | ⟨g,c,cur,hv,s,r,hm,hs⟩
 .have d:∀b,F b->b<n.heap.size:=fun b m=>uT (q b m) hb.size
  obtain⟨p1,_⟩:=nQ (AM.base_good d) (w:=n) 0 e z false rfl rfl rfl (uA _) (fun _ _=>rfl);refine⟨v,e,z,[],none,0,0,he,hv,fun h=>absurd rfl h,ζ,fun h=>absurd rfl h,?_,hb,rfl,rfl,rfl⟩;refine⟨d,fun k hk=>absurd (hk.2 e z [] false (by have:=hk.1;simp at this;subst this;rfl)) ζ,fun j k o hk _=>by have:=o.1;have:=hk.1;simp at *;omega,fun k bl hk=>?_⟩
  have l:k=0:=by have:=aB hk;simp at this;omega
  subst l;simp at hk;subst hk;exact⟨#[],fun h=>absurd rfl h,ζ,ζ,by simp[maxLen],(fun x hx=>by cases hx),(fun i x j c u hx=>by simp at hx)⟩
 .have d:∀b,F b->b<n.heap.size:=fun b m=>uT (q b m) hb.size
  refine⟨v,e,z,[],some ⟨g,0,none⟩,g,c,he,hv,fun _=>rfl,ζ,fun _=>s,?_,hb,rfl,rfl,rfl⟩;refine⟨d,fun k hk=>⟨(Array.getElem?_eq_some_iff.1 r).1,fun hf=>by have:=q g hf;omega⟩,fun j k o hk _=>by have:=o.1;have:=hk.1;simp at *;omega,fun k bl hk=>?_⟩
  have l:k=0:=by have:=aB hk;simp at this;omega
  subst l;simp at hk;subst hk;exact⟨cur,fun _=>r,by simpa using hs,ζ,hm,(fun x hx=>by cases hx),(fun i x j c u hx=>by simp at hx)⟩
def infoD_R:(prog.info? 71).map (fun i=>(i.zero,i.size,i.bytes))=some (some (.agg #[.int .i64 0,.slice none 0 0]),2,32):=by kernel_rfl
def cloneE_R(A:Option Addr)(cap:Nat)(w:World):
  Calls prog 254 #[.slice A 0 cap] w fun e s=>∃v,e = .returned v/\s.ownsRow w.heap.size 71 2 v 0 []/\Below w.heap.size w s:=by
 have t:=fun W A n c=>Lib.run_eql_slice_nil (P:=prog) W 29 71 A n c 0 0 Tryz.underlying29
 cases A with
 | none =>
  go_enter func254,ntmps254
  go_wp2
  go_ret
  exact⟨_,rfl,World.ownsRow_nil _ _ _ _,Below.refl _ _⟩
 | some q =>
  obtain⟨h,hi,l,o,m⟩:=info_parts infoD_R;have f:(w.alloc (.cells #[] 71)).ownsRow w.heap.size 71 2 (.slice (some ⟨w.heap.size,0,none⟩) 0 0) 0 []:=World.ownsRow_lit w #[] 0 (uA _) (by simp[maxLen]) ζ
  have a:∀j u,([]:List Value)[j]?=some u->(w.alloc (.cells #[] 71)).cell? (q.add j)=some u:=by
   intro j u hu;simp at hu
  have b:∀u∈([]:List Value),u.oneCell'=true:=by intro u hu;cases hu
  have i:0+0<=maxLen:=by simp[maxLen]
  have k:(0+0)*32<=140737488355328:=by omega
  have d:([]:List Value).length=0*2:=by simp
  have p:=Lib.hid (show prog.info? 71=some h/\h.zero=some _/\h.size=2/\h.bytes=32 from⟨hi,l,o,m⟩);have g:=Lib.hid (And.intro f (And.intro a (And.intro b (And.intro i (And.intro k d)))));clear a b f hi l o m i k d
  go_enter func254,ntmps254
  go_wp2_with (at_builtin;refine wpList_append_own _ rfl _ _ 29 rfl w.heap.size 71 h _ 2 32 Tryz.underlying29 p.out.1 p.out.2.1 p.out.2.2.1 p.out.2.2.2 rfl ω (.slice (some ⟨w.heap.size,0,none⟩) 0 0) 0 [] rfl g.out.1 q 0 cap [] rfl g.out.2.2.2.2.2 g.out.2.1 g.out.2.2.1 g.out.2.2.2.1 g.out.2.2.2.2.1 ζ ?_;intro v1 z ho r hn;have y:=Lib.hid ho;have x:=Lib.hid r;have B:=Lib.hid hn;clear ho r hn)
  go_ret
  exact⟨v1,rfl,by have:=y.out;simpa using this,((Below.refl _ _).alloc (uA _) _).grown x.out ζ (by simp[Value.ownBlock])⟩
def cloneN_R:∀(f:Bool),aK prog 254 [.lst 2 f []] fun r=>r = .lst 2 false []:=fun f=>by
 have h:ia prog 254 [.lst 2 f []] fun e z ys=>e=71/\z=2/\ys=[]:=conO_row0 ⟨f254,func254,rfl,rfl⟩ (fun F w vals b hrel=>by
  obtain⟨u0,rfl⟩:∃u0,vals = #[u0]:=by
   obtain⟨l⟩:=vals
   match l,b with
   | [a],_=>exact⟨a,rfl⟩
  have r0:=hrel 0 _ u0 rfl rfl;cases r0
  refine(cloneE_R _ _ _).mono fun e' n ⟨v,he,d,hb⟩=>⟨v,he,hb,?_⟩
  obtain⟨_,⟨hv,_⟩ | ⟨g,c,cur,hv,m,j,hn,hm,hs,_⟩⟩:=d
  .exact .inl hv
  .exact .inr ⟨g,c,cur,hv,m,j,hm,hs⟩)
 refine⟨h.1,fun F w vals q t b hrel=>((jY h).2 F w vals q t b hrel).mono fun e n ⟨u,r,h1,h2,i,x,e',z,ys,o,p,k,s⟩=>?_⟩;subst p;subst k;subst s;exact⟨u,r,h1,h2,i,x,o⟩
def cloneO0_R(f:Bool):ia prog 254 [.lst 2 f []] fun e z ys=>e=71/\z=2/\ys=[]:=conO_row0 ⟨f254,func254,rfl,rfl⟩ (fun F w vals d hrel=>by
  obtain⟨u0,rfl⟩:∃u0,vals = #[u0]:=by
   obtain⟨l⟩:=vals
   match l,d with
   | [a],_=>exact⟨a,rfl⟩
  have r0:=hrel 0 _ u0 rfl rfl;cases r0
  refine(cloneE_R _ _ _).mono fun e' j ⟨v,he,b,hb⟩=>⟨v,he,hb,?_⟩
  obtain⟨_,⟨hv,_⟩ | ⟨g,c,cur,hv,i,h,hn,hm,hs,_⟩⟩:=b
  .exact .inl hv
  .exact .inr ⟨g,c,cur,hv,i,h,hm,hs⟩)
def cloneO_R(l:List Rw)(f:Bool)(hl:l.length<=1000000):ia prog 254 [.lst 2 f (l.map aF)] fun e z ys=>e=71/\z=2/\ys=l.map aF:=by
 cases l with
 | nil=>exact cloneO0_R f
 | cons x xs =>
  have a:xs.length<=1000000:=by simp only[uX]at hl;omega
  refine sOx func254 ?_;simp -dsimp[f254,tg,fk,capRw xs.length ω,aF];exact⟨0,71,2,aF x::xs.map aF,ζ,rfl,ζ,rfl,rfl,rfl⟩
end
end Go.Proofs.YtnaokiodhoadjaaGreatDoor
