/- JB43: texts S6, S5, Q4, Q5, Z2, Z5, Q3, S7, joined and shortened by pack6.py. -/
import Derived.Test.YtnaokiodhoadjaaGreatDoorJB29
import Derived.Test.YtnaokiodhoadjaaGreatDoorJB42
set_option linter.all false
set_option maxRecDepth 100000
set_option maxHeartbeats 64000000
open Array renaming length_toList→vV
open List renaming replicate→tg,range→tr,take→xX,replicate_zero→xl
open Nat renaming add_zero→vk,pow_succ→xf
open Option renaming map_some→uS
namespace Go.Proofs.YtnaokiodhoadjaaGreatDoor
section
open Go Go.AM Go.Proofs.Tryz
section
def crL(m:List Cr):List V:=m.map ab
def cU(m:List Cr):(crL m).length=m.length:=by simp[crL]
def oO{m:List Cr}{x:Nat}(h:x<(crL m).length):(crL m)[x] = .agg [.int .i64 (cAt m x).id,.int .i64 (cAt m x).attr]:=by
 have h2:x<m.length:=by simpa[crL] using h
 simp[crL,ab,cAt,h2]
def crL_set(m:List Cr)(x:Nat)(v:Cr):(crL m).set x (.agg [.int .i64 v.id,.int .i64 v.attr])=crL (m.set x v):=by
 unfold crL;rw[xJ];rfl
def sw(m:List Cr):∀x∈crL m,AM.Pure x/\cC x=true:=by
 intro x hx;obtain⟨c,_,rfl⟩:=List.mem_map.1 hx;exact⟨encCr_pure c,rfl⟩
def pU(n e:Nat)(m:List Cr)(fz:Bool):rbB n (.buf e 2 (crL m) fz):=(rbB_LC n e 2 m fz).2 trivial
section
variable {H:List B} {k0:Nat}
def CB(H:List B)(k0:Nat)(m:List Cr):List B:=H.set k0 (.buf 101 2 (crL m) false)
def CB_at(h:k0<H.length)(m:List Cr):(CB H k0 m)[k0]?=some (.buf 101 2 (crL m) false):=by
 unfold CB;rw[uJ h]
def CB_set(m a:List Cr):(CB H k0 m).set k0 (.buf 101 2 (crL a) false)=CB H k0 a:=by
 unfold CB;rw[vq]
def tf(m:List Cr):(CB H k0 m).length=H.length:=by simp[CB]
def CB_rb(a:∀bl∈H,rbB H.length bl)(m:List Cr):∀bl∈CB H k0 m,rbB (CB H k0 m).length bl:=iC a (pU _ _ _ _)
end
instance:DecidableEq Cr:=fun a b=>decidable_of_iff _ Cr.eq_iff.symm
def cpF(l:List Cr):Nat->List Cr
 | 0=>[]
 | 1=>[cAt l 0]
 | p+2=>if cAt l (p+1)=cAt l p then cpF l (p+1) else cpF l (p+1)++[cAt l (p+1)]
def fJ(l:List Cr):List Cr:=cpF l l.length
def qy{l:List Cr}{p:Nat}(hp:1<=p)(h:cAt l p=cAt l (p-1)):cpF l (p+1)=cpF l p:=by
 obtain⟨q,rfl⟩:∃q,p=q+1:=⟨p-1,ω⟩;rw[cpF,if_pos (by simpa using h)]
def cpF_no{l:List Cr}{p:Nat}(hp:1<=p)(h:¬cAt l p=cAt l (p-1)):cpF l (p+1)=cpF l p++[cAt l p]:=by
 obtain⟨q,rfl⟩:∃q,p=q+1:=⟨p-1,ω⟩;rw[cpF,if_neg (by simpa using h)]
theorem cpF_len(l:List Cr):∀p,(cpF l p).length<=p
 | 0=>by simp[cpF]
 | 1=>by simp[cpF]
 | p+2=>by
  have:=cpF_len l (p+1);rw[cpF];split
  .omega
  .simp;omega
theorem cpF_pos(l:List Cr):∀p,1<=p->1<=(cpF l p).length
 | 0,h=>by omega
 | 1,_=>by simp[cpF]
 | p+2,_=>by
  have:=cpF_pos l (p+1) ω;rw[cpF];split
  .exact this
  .simp
def ie{l:List Cr}{k:Nat}(h:k<l.length):l.take (k+1)=l.take k++[cAt l k]:=by
 rw[tz h,jd h]
structure CpI (l ys:List Cr) (kk p:Nat):Prop where
 lt:kk<p
 len:ys.length=l.length
 tk:ys.take kk=cpF l p
 kl:kk=(cpF l p).length
 hi:∀i,p-1<=i->cAt ys i=cAt l i
def CpI.start{l:List Cr}{k:Nat}(hk:1<=k)(hl:k<l.length)(h:cpF l k=l.take k)(he:cAt l k=cAt l (k-1)):CpI l l k (k+1):=
 ⟨ω,rfl,by rw[qy hk he,h],by rw[qy hk he,h];simp;omega,fun _ _=>rfl⟩
def CpI.skip{l ys:List Cr}{kk p:Nat}(h:CpI l ys kk p)(hp:1<=p)(he:cAt l p=cAt l (p-1)):CpI l ys kk (p+1):=
 ⟨by have:=h.lt;omega,h.len,by rw[qy hp he];exact h.tk,by rw[qy hp he];exact h.kl,fun i hi=>h.hi i ω⟩
def CpI.keep{l ys:List Cr}{kk p:Nat}(h:CpI l ys kk p)(hp:1<=p)(a:p<l.length)(he:¬cAt l p=cAt l (p-1)):CpI l (ys.set kk (cAt l p)) (kk+1) (p+1):=by
 have h1:=h.lt;have h2:=h.len;refine⟨ω,by simp[h2],?_,by rw[cpF_no hp he];have:=h.kl;simp;omega,fun i hi=>?_⟩
 .rw[cpF_no hp he,<-h.tk,ie χ,List.take_set_of_le ω];congr 2;simp[cAt,(ω:kk<ys.length)]
 .rw[<-h.hi i ω];unfold cAt;simp only[List.getD_eq_getElem?_getD];rw[uH ω]
def CpI.done{l ys:List Cr}{kk:Nat}(h:CpI l ys kk l.length):fJ l=ys.take kk/\(fJ l).length=kk:=⟨h.tk.symm,h.kl.symm⟩
section
variable {H:List B} {k0:Nat}
def crL_fill(ys:List Cr)(kk n:Nat)(hn:ys.length=n):xX kk (crL ys)++(tg (n-kk) (V.agg [.int .i64 0,.int .i64 0])++List.drop n (crL ys))=crL (ys.take kk++tg (n-kk) ⟨0,0⟩):=by
 unfold crL;rw[tj χ,uC,uu,List.map_replicate,wM];rfl
def compact_h(a:k0<H.length)(Z:∀bl∈H,rbB H.length bl)(l:List Cr)(n:Nat)(hn:l.length=n)(al:n<=1000000):
  ak prog 70 [.buf k0 0 n n] (CB H k0 l) fun r H'=>r = .buf k0 0 (fJ l).length n/\H'=CB H k0 (fJ l++tg (n-(fJ l).length) ⟨0,0⟩):=by
 have G:=CB_at a l;have e:=cU l;by_cases h2:n<2
 .have hc:fJ l=l:=by
   unfold fJ
   match l,hn with
   | [],_=>rfl
   | [x],_=>rfl
   | _::_::_,hn=>simp at hn;omega
  rw[hc,hn,vz,xl,uC];refine aH tok func70 rfl rfl ?_;refine wx ?_;simp -dsimp[f70,tg,G,e,hn,h2,(ω:(n:Int)<2)]
 .obtain⟨R,P⟩:=ξ (fJ l++tg (n-(fJ l).length) ⟨0,0⟩);obtain⟨m,hm⟩:=ξ ((fJ l).length);rw[<-P,<-hm];refine aH tok func70 rfl rfl ?_;refine wx ?_;simp -dsimp[f70,tg,G,e,hn,h2,(ω:¬(n:Int)<2)];refine aI (W_loopM 60 0xffffffffffffc3c zMx (σ:=Nat) (fun k=>1<=k/\k<=n/\cpF l k=l.take k) (fun k=>n-k) (fun k=>[(3,.int .i64 k)]) (fun _=>CB H k0 l) 1 ⟨ω,ω,by rw[ie (k:=0) ω];rfl⟩ ζ ζ (by simp[tf]) ?_);rintro k ⟨hk,Y,hx⟩ N Q hN hQ;by_cases hb:k<n
  .obtain⟨q,rfl⟩:∃q,k=q+1:=⟨k-1,ω⟩
   have a1:=fun h=>oO (m:=l) (x:=q+1) h
   have a0:=fun h=>oO (m:=l) (x:=q) h
   have wq:IntKind.i64.wrap (((q:Int)+1)-1)=(q:Int):=by rw[wrap64 ω ω];omega
   have hq:q<n:=by omega
   have w2:IntKind.i64.wrap ((q:Int)+1+1)=(q:Int)+1+1:=wrap64 ω ω;obtain⟨x,t⟩:=ξ (cAt l (q+1));obtain⟨y,j⟩:=ξ (cAt l q);rw[<-t]at a1;rw[<-j]at a0;by_cases he:x=y
   .have z:(x.id == y.id&&x.attr == y.attr)=true:=by subst he;simp
    refine wx ?_;simp -dsimp[G,e,hn,hb,a1,a0,wq,hq,bA q ω,(ω:(0:Int)<=(q:Int)+1),(ω:(q:Int)+1<(n:Int)),eqCr,z];refine sTx ?_;simp -dsimp[Y,(ω:¬q+1=n)];refine aI (W_loopM 54 0x3fffffe0000028 zMx (σ:=Nat×Nat×List Cr) (fun p=>1<=p.2.1/\q+1+p.2.1<=n/\CpI l p.2.2 p.1 (q+1+p.2.1)) (fun p=>n-p.2.1) (fun p=>[(3,.int .i64 p.1),(5,.int .i64 p.2.1),(4,.buf k0 (q+1) (n-(q+1)) n)]) (fun p=>CB H k0 p.2.2) (q+1,1,l) ⟨uA _,by show q+1+1<=n;omega,CpI.start ω ω hx (by rw[(ω:q+1-1=q),<-t,<-j];exact he)⟩ ζ ζ (by simp[tf]) ?_);rintro⟨kk,A,ys⟩ ⟨i1,i2,I⟩ N2 Q2 w V;simp only at i1 i2 I w;have D:=CB_at a ys;have b:=cU ys
    have B:ys.length=n:=by rw[I.len,hn]
    have ad:=I.lt;by_cases s:q+1+A<n
    .obtain⟨r,rfl⟩:∃r,A=r+1:=⟨A-1,ω⟩;obtain⟨u,hu⟩:=ξ (cAt l (q+1+(r+1)));obtain⟨v,hv⟩:=ξ (cAt l (q+1+r))
     have M:=fun h=>oO (m:=ys) (x:=q+1+(r+1)) h
     have b0:=fun h=>oO (m:=ys) (x:=q+1+r) h
     rw[I.hi _ ω,<-hu]at M;rw[I.hi _ ω,<-hv]at b0
     have wr:IntKind.i64.wrap (((r:Int)+1)-1)=(r:Int):=by rw[wrap64 ω ω];omega
     have J:IntKind.i64.wrap (r:Int)=(r:Int):=bA r ω;have o:IntKind.i64.wrap ((r:Int)+1+1)=(r:Int)+1+1:=wrap64 ω ω;obtain⟨d,L⟩:=ξ (n-(q+1));rw[<-L];by_cases g:u=v
     .have c:(u.id == v.id&&u.attr == v.attr)=true:=by subst g;simp
      refine wx ?_;simp -dsimp[D,b,B,s,(ω:q+1+r<n),M,b0,wr,J,o,eqCr,c,(ω:(r:Int)+1<(d:Int)),(ω:r+1<d),(ω:r<d),(ω:(0:Int)<=(r:Int)+1)];refine sTx ?_;refine w (kk,r+1+1,ys) _ _ ⟨θ,θ,I.skip ω (by rw[(ω:q+1+(r+1)-1=q+1+r),<-hu,<-hv];exact g)⟩ θ (by simp[L]) ⟨[],ζ⟩ (by simp[tf];exact a) (CB_rb Z ys)
     .have c:(u.id == v.id&&u.attr == v.attr)=false:=by
       cases h:(u.id == v.id&&u.attr == v.attr)
       .rfl
       .rw[tt,beq_iff_eq,beq_iff_eq]at h;exact absurd (Cr.eq_iff.2 h) g
      have E:kk<n:=by omega
      have c0:=fun h=>oO (m:=ys) (x:=kk) h
      have T:=crL_set ys kk u;have i:=CB_set (H:=H) (k0:=k0) ys (ys.set kk u);have wk:IntKind.i64.wrap ((kk:Int)+1)=(kk:Int)+1:=wrap64 ω ω;have K:=I.keep ω (by rw[hn];omega) (by rw[(ω:q+1+(r+1)-1=q+1+r),<-hu,<-hv];exact g);rw[<-hu]at K;refine wx ?_;simp -dsimp[D,b,B,s,(ω:q+1+r<n),M,b0,wr,J,o,eqCr,c,(ω:(r:Int)+1<(d:Int)),(ω:r+1<d),(ω:r<d),(ω:(0:Int)<=(r:Int)+1)];refine sTx ?_;simp -dsimp[D,b,B,s,E,M,c0,T,i,wk,o,(ω:r+1<d),(ω:(r:Int)+1<(d:Int)),(ω:(0:Int)<=(r:Int)+1)];refine w (kk+1,r+1+1,ys.set kk u) _ _ ⟨θ,θ,K⟩ θ (by simp[L]) ⟨[],ζ⟩ (by simp[tf];exact a) (CB_rb Z _)
    .obtain⟨d,L⟩:=ξ (n-(q+1));rw[<-L]
     have S:q+1+A=n:=by omega
     rw[S,<-hn]at I;obtain⟨e1,O⟩:=I.done
     have W:m=kk:=by rw[hm];exact O
     have U:kk<n:=by have:=I.lt;omega
     have f:=crL_fill ys kk n B;have i:=CB_set (H:=H) (k0:=k0) ys (ys.take kk++tg (n-kk) ⟨0,0⟩)
     have F:R=ys.take kk++tg (n-kk) ⟨0,0⟩:=by rw[P,O,e1]
     have an:1<=kk:=by rw[<-O];exact cpF_pos l l.length ω
     have g2:=CB_at a (ys.take kk++tg (n-kk) ⟨0,0⟩)
     have C:(crL (ys.take kk++tg (n-kk) ⟨0,0⟩)).length=n:=by rw[cU,<-F,P,O,e1,uB,vQ,xB];omega
     rw[<-F]at f i g2 C;refine wx ?_;simp -dsimp[D,b,B,(ω:¬(A:Int)<(d:Int)),(ω:¬A<d)];apply V;simp -dsimp[D,b,B,U,(ω:kk<=n),(ω:¬kk=n),f,i,g2,C,(ω:¬n-kk=0),(ω:¬0=kk)];apply hQ;simp -dsimp;exact W.symm
   .have z:(x.id == y.id&&x.attr == y.attr)=false:=by
     cases h:(x.id == y.id&&x.attr == y.attr)
     .rfl
     .rw[tt,beq_iff_eq,beq_iff_eq]at h;exact absurd (Cr.eq_iff.2 h) he
    refine wx ?_;simp -dsimp[G,e,hn,hb,a1,a0,wq,hq,bA q ω,w2,(ω:(0:Int)<=(q:Int)+1),(ω:(q:Int)+1<(n:Int)),eqCr,z];refine sTx ?_;refine hN (q+1+1) _ _ ⟨ω,ω,by rw[cpF_no ω (by rw[(ω:q+1-1=q),<-t,<-j];exact he),hx,ie (k:=q+1) ω]⟩ ω ζ ⟨[],ζ⟩ (by simp[tf];exact a) (CB_rb Z l)
  .obtain rfl:k=n:=by omega
   refine wx ?_;simp -dsimp[G,e,hn,hb];apply hQ;simp -dsimp
   have X:fJ l=l:=by
    unfold fJ;rw[hn,hx,<-hn,uV]
   rw[hm,P,X,hn,vz,xl,uC];exact⟨rfl,rfl⟩
end
end
end
section
open Go Go.AM Go.RowKit Go.Lib Go.Sort Go.Proofs.Tryz
instance:Inhabited Cr:=⟨⟨0,0⟩⟩
def gz(l:List Cr):List Cr:=l.mergeSort fun x y=>!(ltOf cP) y x
def rQ(l:List Cr):(gz l).Perm l:=xm _ _
def ot(l:List Cr):(gz l).length=l.length:=(rQ l).length_eq
def swoC:SWO (ltOf cP) where
 irrefl x:=by unfold ltOf;exact decide_eq_false (cmpC_irr x)
 trans x y z h g:=by unfold ltOf at *;exact decide_eq_true (ja (of_decide_eq_true h) (of_decide_eq_true g))
 ntrans x y z h g:=by unfold ltOf at *;exact decide_eq_false (qE (of_decide_eq_false h) (of_decide_eq_false g))
def totC(x y:Cr)(h:ltOf cP x y=false)(g:ltOf cP y x=false):x=y:=by
 unfold ltOf at *
 rcases tH x y with h1 | h1 | h1
 .exact absurd h1 (of_decide_eq_false h)
 .exact h1
 .exact absurd h1 (of_decide_eq_false g)
def qY(c:Cr):List Value:=[.int .i64 c.id,.int .i64 c.attr]
theorem enK2_len(c:Cr):(qY c).length=2:=rfl
def enK2_one(c:Cr):∀v∈qY c,v.oneCell'=true:=by
 intro v hv;simp only[qY,tw,tq,or_false]at hv
 rcases hv with rfl | rfl<;>rfl
def enK2_at(d:Array Cr)(i j:Nat)(hi:i<d.size)(a:j<2):(flatK qY 2 d)[i*2+j]! = (qY d[i]!)[j]!:=by
 rw[get_flatK _ _ _ _ ω,(ω:(i*2+j) / 2=i),(ω:(i*2+j) % 2=j)]
def rel_enK2{s:AM.St}(c:Cr)(j:Nat)(d:V)(h:(ab c).cells[j]?=some d):j<2/\Rel s d (qY c)[j]!:=by
 match j,h with
 | 0,h=>cases h;exact⟨ω,.int _ _⟩
 | 1,h=>cases h;exact⟨ω,.int _ _⟩
 | n+2,h=>simp[ab,V.cells]at h
def cmpLaysC(blk off size:Nat)(w:World):CmpLays prog 69 #[] qY 2 cP blk off size w:=fun m os a _ x y=>compareK x y _
def sortCells_u{H:List B}{k:Nat}(l:List Cr)(n:Nat)(hn:l.length=n)(hk:k<H.length)(hl:n<4611686018427387904):
  ak prog 68 [.buf k 0 n n,.fn 69 []] (CB H k l) fun r H'=>r = .tup []/\H'=CB H k (gz l):=by
 subst hn;have m:=CB_at hk l;rw[<-CB_set l (gz l)];generalize CB H k l=H at m;refine⟨⟨f68,func68,rfl,rfl⟩,fun s vals hA v z hrel=>?_⟩;obtain⟨rfl,X⟩:=hA
 obtain⟨u0,C,rfl⟩:∃u0 C,vals = #[u0,C]:=by
  obtain⟨l⟩:=vals
  match l,z with
  | [a,b],_=>exact⟨a,b,rfl⟩
 have r0:=hrel 0 _ u0 rfl rfl;have r1:=hrel 1 _ C rfl rfl
 cases r1 with
 | fn _ _ us G _ =>
 obtain rfl:us = #[]:=wB (by simpa using G)
 cases r0 with
 | buf _ _ _ _ W Z M S A n c p ht O =>
 rw[m]at p;cases p;obtain⟨hA,rfl,hcap,_⟩:=O (cU l).symm;rw[vD]at hcap;by_cases h0:l=[]
 .subst h0;refine(AnyF.slices_SortFunc_none layC A c _ s.w).mono ?_;rintro e I ⟨rfl,rfl⟩;refine⟨_,s,.tup [],rfl,rfl,v,Step.refl s,.tup [] #[] rfl ζ,rfl,?_⟩;rw[show gz []=[] by simp[gz]];apply uw;intro i;rw[xI];split
  .rename_i h;subst h;rw[if_pos (aB m),m]
  .rfl
 .have L:0<l.length:=List.length_pos_iff.2 h0;obtain⟨vs,q,T,P,U,Y,K⟩:=v.blk k _ m;rw[cU]at P
  have g:s.κ k≠0:=by omega
  have hA:=hA g;subst hA;have q:=q g;have x:=(v.lt k (lvB m g)).1
  have hcell:∀i j,i<l.length->j<2->vs[i*2+j]?=some (qY l.toArray[i]!)[j]!:=fun i j hi D=>by
   have hx:(crL l)[i]?=some (ab l[i]):=by simp[crL,hi]
   obtain⟨u,hv⟩:∃u,vs[i*2+j]?=some u:=⟨_,vZ (show i*2+j<vs.size by omega)⟩;rw[hv]
   have N:l.toArray[i]! = l[i]:=by simp[hi]
   rw[N]
   match j,D,hv with
   | 0,_,hv =>
    have:=K i _ 0 _ _ hx rfl hv
    cases this with
    | int=>rfl
   | 1,_,hv =>
    have:=K i _ 1 _ _ hx rfl hv
    cases this with
    | int=>rfl
  have E:HoldsK qY 2 s.w (s.φ k) (0*2) l.toArray:=by
   intro t ht;rw[size_flatK,List.size_toArray]at ht;rw[get_flatK _ _ _ _ (by simpa using ht)];have J:=hcell (t / 2) (t % 2) ω ω;rw[(ω:t / 2*2+t % 2=t)]at J;refine⟨?_,?_⟩
   .simp only[World.cell?,q,vp,vD];simpa using J
   .simp[World.frozen?,q]
  have hs:=AnyQ.slices_SortFunc_total layC 2 Tryz.isAgg101 Tryz.sizeOf101 qY enK2_len enK2_one cP swoC 69 #[] (s.φ k) (0*2) c l.toArray s.w
   (fun args w=>rfl) (cmpLaysC _ _ _ _) E x (by simpa using hl) totC
  refine hs.mono ?_;rintro e I ⟨rfl,n,os,R⟩
  have F:I=grow (putRow id (Go.Sort.ahead s.w n) (s.φ k) 0 (flatK qY 2 (gz l).toArray)) os:=by
   rw[R,vp];rfl
  obtain⟨f1,f2⟩:=pj (ys:=crL (gz l)) v m g (flatK qY 2 (gz l).toArray) n os (by rw[cU,cU,ot]) (by rw[size_flatK,List.size_toArray,ot,cU])
   (fun y o=>by obtain⟨c,_,rfl⟩:=List.mem_map.1 o;exact⟨rfl,by simp[ab,V.cells,V.one]⟩) (fun i y j d o Q=>by
    have f:=aB o;rw[cU]at f
    have:(crL (gz l))[i]?=some (ab (gz l)[i]):=by simp[crL,f]
    rw[this]at o;cases o;obtain⟨D,hr⟩:=rel_enK2 (s:=s) _ j d Q;rw[enK2_at _ _ _ (by simpa using f) D]
    simpa[f] using hr) I F
  exact⟨_,_,.tup [],rfl,rfl,f1,f2,.tup [] #[] rfl ζ,rfl,rfl⟩
end
section
open Go Go.AM Go.Proofs.Tryz
def sK(b:Int)(i:Nat):Bool:=IntKind.i64.wrap ↑((b.fdiv (2^min i IntKind.i64.bits) % 2^IntKind.i64.bits).toNat &&& 1 % 2^IntKind.i64.bits)== 1
theorem hasJ_def5(s:Int)(a:Nat):(IntKind.i64.wrap ↑((s.fdiv (2^min a IntKind.i64.bits) % 2^IntKind.i64.bits).toNat &&& 1 % 2^IntKind.i64.bits)== 1)=sK s a:=rfl
def bK(t:Tb)(b:Int)(i:Nat):List Cr:=((tr i).filter (sK b)).map (bZ t)
def selTo_yes{t:Tb}{b:Int}{i:Nat}(h:sK b i=true):bK t b (i+1)=bK t b i++[bZ t i]:=by
 unfold bK;rw[ue,vK];simp[h]
def selTo_no{t:Tb}{b:Int}{i:Nat}(h:sK b i=false):bK t b (i+1)=bK t b i:=by
 unfold bK;rw[ue,vK];simp[h]
def ov(t:Tb)(b:Int)(i:Nat):(bK t b i).length<=i:=by
 unfold bK;rw[ud];exact ug (uU _ _) ζ
noncomputable def lsF(t:Tb)(fds:List Fd)(N:Nat):Nat->Nat
 | 0=>N
 | b+1=>if(bK t b N).length<lsF t fds N b/\okB (aQ t fds (bK t b N))=true then(bK t b N).length else lsF t fds N b
def least_r(t:Tb)(A o P:Bool)(fds:List Fd)(hv:TbV t)(W:ef fds)(D:t.rows.length*t.attrs.length<=9):aK prog 8 [aD A o t,LF P fds] fun r=>r = .int .i64 (lsF t fds (t.rows.length*t.attrs.length) (2^(t.rows.length*t.attrs.length)):Nat):=by
 have E:=cells_r t A o (by have:=hv.rows;omega) (by have:=hv.attrs;omega);obtain⟨all,hall⟩:=ξ (bR t)
 have v:all.length=t.rows.length*t.attrs.length:=by rw[hall,tM]
 have K:∀i (h:i<all.length),all[i]=bZ t i:=fun i h=>by subst hall;exact cellsT_at h
 rw[<-hall]at E;rw[<-v]at D ⊢;obtain⟨n,s⟩:=ξ all.length;rw[<-s]at D ⊢;have a:=s.symm
 have O:2^n<=512:=by have:=uo (n:=2) ω D;simpa using this
 have l:(2:Int)^n=((2^n:Nat):Int):=by push_cast;rfl
 have m:IntKind.i64.wrap (2^min n IntKind.i64.bits)=((2^n:Nat):Int):=by
  rw[show min n IntKind.i64.bits=n by simp[IntKind.bits];omega,l];exact bA _ ω
 obtain⟨M,S⟩:=ξ (2^n);rw[<-S]at m O ⊢
 have J:∀b,lsF t fds n b<=n:=fun b=>by
  induction b with
  | zero=>exact uA _
  | succ b U=>rw[lsF];split;exact ov t b n;exact U
 simp only[aD,LS,LR,LC,LF]at E;refine sPx func8 ?_;simp -dsimp[f8,tg,aD,LS,LR,LC,LF];refine cPx E ?_;simp -dsimp;refine aI (W_loopM 51 0x7ffffffffc3c0 zMx (σ:=Nat) (fun b=>b<=M) (fun b=>M-b) (fun b=>[(7,.int .i64 b),(6,.int .i64 (lsF t fds n b:Nat))]) (fun _=>[B.cells [.str t.name,.lst 1 A (t.attrs.map V.str),.lst 2 o (t.rows.map aF)]]) 0 ω (by simp[lsF,a]) ζ ζ ?_);intro b hb N Q k R;by_cases L:b<M
 .refine wx ?_;simp -dsimp[a,m,(ω:(b:Int)<M),L];refine aI (bh 101 2 [8] ζ (W_loopM 39 0x7fffe00300 zMx (σ:=Nat) (fun i=>i<=n) (fun i=>n-i) (fun i=>[(9,.int .i64 i),(8,.buf 1 0 (bK t b i).length (bK t b i).length)]) (fun i=>[B.cells [.str t.name,.lst 1 A (t.attrs.map V.str),.lst 2 o (t.rows.map aF)],B.buf 101 2 ((bK t b i).map ab) false]) 0 ω (by simp[bK]) (by simp[bK]) ζ ?_));intro i hi Y X y g;by_cases p:i<n
  .have j:i<all.length:=by omega
   have h1:=K i j;obtain⟨x,hx⟩:=ξ (all[i]);rw[<-hx]at h1;have u:=hx.symm;have T:=ov t b i
   cases hq:sK b i with
   | true =>
    have d:=selTo_yes (t:=t) hq;rw[<-h1]at d;refine wx ?_;simp -dsimp[j,a,p,u,ab,hasJ_def5,hq,tO (bK t b i).length ω,aE i ω];refine y (i+1) _ _ ω ω (by simp[d]) ⟨[],by simp[d,ab]⟩ ζ ζ
   | false =>
    have d:=selTo_no (t:=t) hq;refine wx ?_;simp -dsimp[j,a,p,u,ab,hasJ_def5,hq,aE i ω];refine y (i+1) _ _ ω ω (by simp[d]) ⟨[],by simp[d]⟩ ζ ζ
  .obtain rfl:n=i:=by omega
   have G:=ov t b n;have w:=enough_r t A o P false fds (bK t b n) hv W ω;simp only[aD,LS,LR,LF,LC]at w;have C:=J b
   have c:lsF t fds n (b+1)=if(bK t b n).length<lsF t fds n b/\okB (aQ t fds (bK t b n))=true then(bK t b n).length else lsF t fds n b:=rfl
   obtain⟨sl,F⟩:=ξ (bK t b n);obtain⟨q,I⟩:=ξ (okB (aQ t fds (bK t b n)));obtain⟨z,H⟩:=ξ (lsF t fds n b);rw[<-I]at w c;rw[<-F]at w c G ⊢;rw[<-H]at c C ⊢;refine dv 1 [8] rfl ζ ?_;by_cases e:sl.length<z
   .have f:(sl.length:Int)<(z:Int):=by omega
    cases q with
    | true =>
     rw[if_pos ⟨e,rfl⟩]at c;refine wx ?_;simp -dsimp[a,Nat.lt_irrefl];apply g;simp -dsimp[e,f];refine cPx w ?_;simp -dsimp[aE b ω];refine k (b+1) _ _ ω ω (by simp[c,a]) ⟨_,rfl⟩ ζ ζ
    | false =>
     rw[if_neg ζ]at c;refine wx ?_;simp -dsimp[a,Nat.lt_irrefl];apply g;simp -dsimp[e,f];refine cPx w ?_;simp -dsimp[aE b ω];refine k (b+1) _ _ ω ω (by simp[c,a]) ⟨_,rfl⟩ ζ ζ
   .rw[if_neg (fun h=>e h.1)]at c;refine wx ?_;simp -dsimp[a,Nat.lt_irrefl];apply g;simp -dsimp[e,(ω:¬(sl.length:Int)<(z:Int)),aE b ω];refine k (b+1) _ _ ω ω (by simp[c,a]) ⟨_,rfl⟩ ζ ζ
 .obtain rfl:M=b:=by omega
  refine wx ?_;simp -dsimp[a,m,(ω:¬(M:Int)<M)];apply R;simp -dsimp
theorem lsF_le{t:Tb}{fds:List Fd}{N:Nat} : ∀(B b:Nat),b<B->okB (aQ t fds (bK t b N))=true->lsF t fds N B<=(bK t b N).length
 | 0,b,h,_=>by omega
 | B+1,b,h,a=>by
  have c:lsF t fds N (B+1)=if(bK t B N).length<lsF t fds N B/\okB (aQ t fds (bK t B N))=true then(bK t B N).length else lsF t fds N B:=rfl
  rw[c];by_cases e:b=B
  .subst e;split
   .exact uA _
   .rename_i h2;by_cases d:(bK t b N).length<lsF t fds N b
    .exact absurd ⟨d,a⟩ h2
    .omega
  .have f:=lsF_le B b ω a;split
   .rename_i h2;omega
   .exact f
theorem lsF_at{t:Tb}{fds:List Fd}{N:Nat} : ∀B:Nat,lsF t fds N B=N\/∃b,b<B/\okB (aQ t fds (bK t b N))=true/\lsF t fds N B=(bK t b N).length
 | 0=>.inl rfl
 | B+1=>by
  have a:lsF t fds N (B+1)=if(bK t B N).length<lsF t fds N B/\okB (aQ t fds (bK t B N))=true then(bK t B N).length else lsF t fds N B:=rfl
  by_cases h:(bK t B N).length<lsF t fds N B/\okB (aQ t fds (bK t B N))=true
  .rw[a,if_pos h];exact .inr ⟨B,ω,h.2,rfl⟩
  .rw[a,if_neg h]
   rcases lsF_at (t:=t) (fds:=fds) (N:=N) B with h2 | ⟨b,h1,h2,c⟩
   .exact .inl h2
   .exact .inr ⟨b,ω,h2,c⟩
def hasJ_all5:∀b:Fin 512,∀i:Fin 9,sK (b.val:Int) i.val=b.val.testBit i.val:=of_decide_eq_true υ
def hasJ_bit5{b i:Nat}(hb:b<512)(hi:i<9):sK (b:Int) i=b.testBit i:=hasJ_all5 ⟨b,hb⟩ ⟨i,hi⟩
def bnF5(P:Nat->Bool):Nat->Nat
 | 0=>0
 | n+1=>bnF5 P n+if P n=true then 2^n else 0
theorem rB(P:Nat->Bool):∀n,bnF5 P n<2^n
 | 0=>by simp[bnF5]
 | n+1=>by
  have:=rB P n;rw[bnF5,xf];split<;>omega
theorem ku(P:Nat->Bool):∀n i,i<n->(bnF5 P n).testBit i=P i
 | 0,i,h=>by omega
 | n+1,i,h=>by
  have hl:=rB P n;rw[bnF5];by_cases hp:P n=true
  .rw[if_pos hp,yG];by_cases e:i=n
   .subst e;rw[Nat.testBit_two_pow_add_eq,vf hl,hp];rfl
   .rw[Nat.testBit_two_pow_add_gt ω,ku P n i ω]
  .rw[if_neg hp,vk];by_cases e:i=n
   .subst e;rw[vf hl];cases h2:P i
    .rfl
    .exact absurd h2 hp
   .exact ku P n i ω
def sel_all{t:Tb}{N:Nat}(a:N<=9)(P:Nat->Bool):∃b:Nat,b<2^N/\bK t (b:Int) N=((tr N).filter P).map (bZ t):=by
 have hp:2^N<=512:=by have:=uo (n:=2) ω a;simpa using this
 have hl:=rB P N;refine⟨bnF5 P N,hl,?_⟩;unfold bK;congr 1;refine yA (fun i hi=>?_);rw[vS]at hi;rw[hasJ_bit5 ω ω,ku P N i hi]
end
end Go.Proofs.YtnaokiodhoadjaaGreatDoor
section
namespace Go.Proofs.YtnaokiodhoadjaaGreatDoor
open Go Go.AM Go.Proofs.Tryz
end Go.Proofs.YtnaokiodhoadjaaGreatDoor
end
namespace Go.Proofs.YtnaokiodhoadjaaGreatDoor
section
open Go Go.AM Go.Proofs.Tryz
section
def probK_some{t:Tb}{fds:List Fd}{l:List Cr}{x:Nat}{v:Vl}(h:(aQ t fds l).K x=some v):v=eG t x/\bZ t x∉l:=by
 by_cases a:bZ t x∈l
 .rw[nS a]at h;cases h
 .rw[ij a]at h;exact⟨(Option.some.inj h).symm,a⟩
open Classical in
noncomputable def pick(p:Vl->Prop)(r:Nat->Prop):Dm:=if h:∃v,p v then .inl h.choose else .inr (Classical.epsilon r)
def vl_of{x:Rcp}{n:Nat} : ∀r∈(rH x n).rows,∀v∈r.vals,∃m,v=ofV m:=by
 intro r hr v hv;obtain⟨i,hi,rfl⟩:=List.mem_map.1 hr;obtain⟨j,_,rfl⟩:=List.mem_map.1 hv;exact⟨_,rfl⟩
def ofV_n(m:Int):(ofV m).n<=7/\(ofV m).s.size<=2:=by
 unfold ofV
 repeat' split
 all_goals exact⟨by decide,by decide⟩
def CsV.num{c:Cs}(v:CsV c):TbN (csT c):=by
 intro y a
 have hn:0<(csT c).attrs.length:=by
  rcases wz (csT c).attrs.length with h | h
  .rw[h]at a;omega
  .exact h
 have hm:y / (csT c).attrs.length<(csT c).rows.length:=by rw[xZ hn];exact a
 unfold eG;rw[cS hm];have hl:=v.tv.len _ (ti hm)
 have ha:y % (csT c).attrs.length<(csT c).rows[y / (csT c).attrs.length].vals.length:=by rw[hl];exact xU _ hn
 rw[lB ha];obtain⟨k,hk⟩:=vl_of _ (ti hm) _ (ti ha);rw[hk];have:=(ofV_n k).1;omega
end
def MayB(t u:Tb)(l:List Cr)(x:Nat):Prop:=dt (eG u x) (eG t x)=0\/bZ t x∈l
structure DifP (t u:Tb) (l:List Cr):Prop where
 ids:∀(i:Nat) (h:i<u.rows.length) (h2:i<t.rows.length),u.rows[i].id=t.rows[i].id
 may:∀x,x<t.rows.length*t.attrs.length->MayB t u l x
end
section
open Go Go.AM Go.RowKit Go.Lib Go.Sort Go.Proofs.Tryz
def dC(ls:List (List Cr)):List (List Cr):=ls.mergeSort fun x y=>!(ltOf bN) y x
def kG(l:List (List Cr)):(dC l).Perm l:=xm _ _
def sortLs_len(l:List (List Cr)):(dC l).length=l.length:=(kG l).length_eq
def swoL:SWO (ltOf bN) where
 irrefl x:=by unfold ltOf;exact decide_eq_false (pY x)
 trans x y z h g:=by unfold ltOf at *;exact decide_eq_true (iL _ _ _ (of_decide_eq_true h) (of_decide_eq_true g))
 ntrans x y z h g:=by unfold ltOf at *;exact decide_eq_false (oT (of_decide_eq_false h) (of_decide_eq_false g))
def totL(x y:List Cr)(h:ltOf bN x y=false)(g:ltOf bN y x=false):x=y:=by
 unfold ltOf at *
 rcases ll x y with h1 | h1 | h1
 .exact absurd h1 (of_decide_eq_false h)
 .exact h1
 .exact absurd h1 (of_decide_eq_false g)
def sortLs_sorted(l:List (List Cr)):(dC l).Pairwise fun x y=>¬bN y x<0:=by
 have:=xQ (le:=fun x y=>!(ltOf bN) y x) (fun a b c h g=>by
  simp only[uj,ltOf,decide_eq_false_iff_not]at *
  exact oT g h) (fun a b=>by
  simp only[vA,uj,ltOf,decide_eq_false_iff_not];by_cases h:bN b a<0
  .right;intro g;exact pY a (iL _ _ _ g h)
  .exact .inl h) l
 refine this.imp fun {x y} h=>?_
 simpa[ltOf] using h
def AL(s:AM.St)(f:Bool):Type:={ p:List Cr×Value // p.1.length<=1000000/\Rel s (LC f p.1) p.2 }
instance (s:AM.St) (f:Bool):Inhabited (AL s f):=⟨⟨([],.slice none 0 0),ζ,by
 refine .lst 2 f [] none 0 0 0 (fun _ _=>undef) (uA _) (fun _=>rfl) (fun h=>by simp at h) ζ ζ ζ⟩⟩
def AL.sl{s:AM.St}{f:Bool}{k e z:Nat}{xs:List V}(hk:s.H[k]?=some (.buf e z xs false))(g:s.κ k≠0)(a:AL s f):∃A cap,a.1.2 = .slice A a.1.1.length cap /\
  ∀(i:Nat) (h:i<a.1.1.length),∃b o,A=some ⟨b,o,none⟩/\b≠s.φ k/\b<s.w.heap.size/\s.w.cell? ⟨b,o+i*2,none⟩=some (.int .i64 a.1.1[i].id)/\s.w.cell? ⟨b,o+i*2+1,none⟩=some (.int .i64 a.1.1[i].attr):=by
 obtain⟨⟨l,u⟩,hl,hr⟩:=a;simp only at hl hr ⊢;simp only[LC]at hr;generalize c:l.map ab=ys at hr
 have j:ys.length=l.length:=by rw[<-c];simp
 cases hr with
 | lst _ _ _ A cap b off m hcap hfull hA hz hcell hrel =>
  refine⟨A,cap,by rw[j],fun i hi=>?_⟩;obtain⟨rfl,n⟩:=hA ω
  have d:ys[i]?=some (ab l[i]):=by rw[<-c];simp[hi]
  refine⟨b,off,rfl,?_,n.1,?_,?_⟩
  .intro he;obtain⟨e',q,p,hb⟩:=n.2.2 k (lvB hk g) he.symm;rw[hk]at hb;cases hb
  .have h1:=hcell i _ 0 _ d rfl;have h2:=hrel i _ 0 _ d rfl;rw[vk]at h1;generalize m i 0=u at h1 h2;cases h2;exact h1
  .have h1:=hcell i _ 1 _ d rfl;have h2:=hrel i _ 1 _ d rfl;generalize m i 1=u at h1 h2;cases h2;exact h1
def jn{s:AM.St}{f:Bool}(a:AL s f):Value:=a.1.2
def cfAL{s:AM.St}{f:Bool}(a b:AL s f):Int:=bN a.1.1 b.1.1
def permIn_map5{b c:Type} [Inhabited b] [Inhabited c] (f:b->c){n:Nat}{d a:Array b}(hn:d.size=n)(h:PermIn 0 n d a):PermIn 0 n (d.map f) (a.map f):=by
 obtain⟨h1,h2,e⟩:=h;refine⟨by simp[h1],fun i hi=>?_,?_⟩
 .rw[getElem!_neg _ _ χ,getElem!_neg _ _ χ]
 .have j:(d.map f).extract 0 n=(d.extract 0 n).map f:=by simp
  have g:(a.map f).extract 0 n=(a.extract 0 n).map f:=by simp
  rw[j,g,xS,xS];exact e.map f
def sortedIn_map5{b a:Type} [Inhabited b] [Inhabited a] (f:b->a){lt:a->a->Bool}{n:Nat}{d:Array b}(hn:d.size=n)(h:SortedIn (fun x y=>lt (f x) (f y)) 0 n d):SortedIn lt 0 n (d.map f):=fun i j h1 h2 e=>by
 have:=h i j h1 h2 e
 have c:j<d.size:=by omega
 have hi:i<d.size:=by omega
 rw[getElem!_pos d j c,getElem!_pos d i hi]at this;rw[getElem!_pos (d.map f) j (by simpa using c),getElem!_pos (d.map f) i (by simpa using hi),wR,wR];exact this
def layL1:SlLaysF.n6 prog renL:={ layL with a24:=Tryz.isAgg85,z24:=Tryz.sizeOf85 }
def LB(H:List B)(k e:Nat)(f:Bool)(ls:List (List Cr)):List B:=H.set k (.buf e 1 (ls.map (LC f)) false)
def sortLists_u{H:List B}{k e:Nat}{f:Bool}(ls:List (List Cr))(n:Nat)(hn:ls.length=n)(hk:k<H.length)(hl:n<4611686018427387904)(Z:∀l∈ls,l.length<=1000000):
  ak prog 40 [.buf k 0 n n,.fn 41 []] (LB H k e f ls) fun r H'=>r = .tup []/\H'=LB H k e f (dC ls):=by
 subst hn
 have q:(LB H k e f ls)[k]?=some (.buf e 1 (ls.map (LC f)) false):=by unfold LB;rw[uJ hk]
 rw[show LB H k e f (dC ls)=(LB H k e f ls).set k (.buf e 1 ((dC ls).map (LC f)) false) by unfold LB;rw[vq]];generalize LB H k e f ls=H at q;refine⟨⟨f40,func40,rfl,rfl⟩,fun s vals hA N Q hrel=>?_⟩;obtain⟨rfl,hZ⟩:=hA
 obtain⟨u0,T,rfl⟩:∃u0 T,vals = #[u0,T]:=by
  obtain⟨l⟩:=vals
  match l,Q with
  | [a,b],_=>exact⟨a,b,rfl⟩
 have r0:=hrel 0 _ u0 rfl rfl;have r1:=hrel 1 _ T rfl rfl
 cases r1 with
 | fn _ _ us Y _ =>
 obtain rfl:us = #[]:=wB (by simpa using Y)
 cases r0 with
 | buf _ _ _ _ e2 z2 an ax A n c K ht hh =>
 rw[q]at K;cases K;obtain⟨hA,rfl,hcap,_⟩:=hh ζ;rw[vD]at hcap;by_cases h0:ls=[]
 .subst h0;refine(AnyF.slices_SortFunc_none layL A c _ s.w).mono ?_;rintro e' w' ⟨rfl,rfl⟩;refine⟨_,s,.tup [],rfl,rfl,N,Step.refl s,.tup [] #[] rfl ζ,rfl,?_⟩;rw[show dC []=[] by simp[dC]];apply uw;intro i;rw[xI];split
  .rename_i h;subst h;rw[if_pos (aB q),q]
  .rfl
 .have al:0<ls.length:=List.length_pos_iff.2 h0;obtain⟨vs,M,g3,g4,g5,g6,g7⟩:=N.blk k _ q;rw[ud]at g4
  have g:s.κ k≠0:=by omega
  have hA:=hA g;subst hA;have M:=M g;have P:=(N.lt k (lvB q g)).1
  have O:∀i (h:i<ls.length),∃u,vs[i]?=some u/\Rel s (LC f ls[i]) u:=fun i h=>by
   obtain⟨u,hu⟩:∃u,vs[i]?=some u:=⟨_,vZ (show i<vs.size by omega)⟩;exact⟨u,hu,g7 i _ 0 _ u (show(ls.map (LC f))[i]?=some (LC f ls[i]) by simp[h]) rfl (by simpa using hu)⟩
  obtain⟨d,p,U,S⟩:∃d:Array (AL s f),d.size=ls.length/\d.map (fun a=>a.1.1)=ls.toArray/\∀i,i<ls.length->vs[i]?=some (jn d[i]!):=by
   have hx:∀i:Fin ls.length,∃a:AL s f,a.1.1=ls[i]/\vs[i.1]?=some (jn a):=fun i=>by
    obtain⟨u,hu,hr⟩:=O i.1 i.2;exact⟨⟨(ls[i],u),Z _ (ti _),hr⟩,rfl,hu⟩
   refine⟨Array.ofFn fun i=>Classical.choose (hx i),ζ,?_,fun i hi=>?_⟩
   .apply Array.ext
    .simp
    .intro i h1 h2;simp only[wR,xw];have:=(Classical.choose_spec (hx ⟨i,by simpa using h2⟩)).1;rw[this];simp
   .rw[getElem!_pos _ _ (by simpa using hi),xw];exact(Classical.choose_spec (hx ⟨i,hi⟩)).2
  have F:OneCell (jn (s:=s) (f:=f)):=fun a=>by
   obtain⟨A,cap,h1,_⟩:=AL.sl q g a;unfold jn;rw[h1];rfl
  have W:Holds (jn:AL s f->Value) s.w (s.φ k) (0*1) d:=by
   intro t ht;rw[p]at ht;refine⟨?_,?_⟩
   .simp only[World.cell?,M,vp,vD];simpa using S t ht
   .simp[World.frozen?,M]
  have I:CmpLays1 prog 41 #[] (jn:AL s f->Value) cfAL (s.φ k) (0*1) d.size s.w:=fun m os dk _ x y=>by
   obtain⟨A,ca,a1,a2⟩:=AL.sl q g x;obtain⟨B,cb,b1,b2⟩:=AL.sl q g y
   have J:∀(A:Option Addr) (l:List Cr),(∀(i:Nat) (h:i<l.length),∃b o,A=some ⟨b,o,none⟩/\b≠s.φ k/\b<s.w.heap.size/\s.w.cell? ⟨b,o+i*2,none⟩=some (.int .i64 l[i].id)/\s.w.cell? ⟨b,o+i*2+1,none⟩=some (.int .i64 l[i].attr))->
     AtC (sortWorld (jn:AL s f->Value) s.w (s.φ k) (0*1) m dk os) A l:=fun A l h i hi=>by
    obtain⟨b,o,h1,h2,h3,h4,h5⟩:=h i hi
    have hc:∀t,(sortWorld (jn:AL s f->Value) s.w (s.φ k) (0*1) m dk os).cell? ⟨b,t,none⟩=s.w.cell? ⟨b,t,none⟩:=fun t=>by
     unfold sortWorld;rw[cell?_grow _ _ _ (by rw[Go.Proofs.size_putRow];exact h3),cell?_putRow_other _ _ _ _ _ _ (.inl h2)];rfl
    refine⟨b,o,h1,?_,by rw[hc];exact h4,by rw[hc];exact h5⟩;unfold sortWorld;rw[size_grow,Go.Proofs.size_putRow];exact uT h3 (xR _ _)
   have:=listsK x.1.1 y.1.1 A B ca cb (sortWorld (jn:AL s f->Value) s.w (s.φ k) (0*1) m dk os) (J A _ a2) (J B _ b2) x.2.1 y.2.1;rw[<-a1,<-b1]at this;exact this
  have hs:=Any.slices_SortFunc layL1 (jn:AL s f->Value) F cfAL ⟨fun x=>swoL.irrefl x.1.1,fun x y z=>swoL.trans x.1.1 y.1.1 z.1.1,fun x y z=>swoL.ntrans x.1.1 y.1.1 z.1.1⟩ 41 #[] (s.φ k) (0*1) c d s.w
   (fun args w=>rfl) I W P (by rw[p];simpa using hl)
  rw[p]at hs;refine hs.mono ?_;rintro e' w' ⟨rfl,C,n,os,hp,ad,hw⟩;have L:=permIn_map5 (fun a:AL s f=>a.1.1) p hp
  have D:C.size=ls.length:=by rw[hp.1];exact p
  have G:=sortedIn_map5 (lt:=ltOf bN) (fun a:AL s f=>a.1.1) D ad;rw[U]at L;have hu:=sorted_unique_holds swoL totL ls.toArray (C.map fun a=>a.1.1) (by simpa using L) (by simpa using G)
  have R:(dC ls).map (LC f)=C.toList.map fun a=>LC f a.1.1:=by
   have:dC ls=(C.map fun a=>a.1.1).toList:=by rw[hu];simp[dC]
   rw[this,xS,xH];rfl
  have X:w'=grow (putRow id (Go.Sort.ahead s.w n) (s.φ k) 0 (C.map jn)) os:=by
   rw[hw,vp];unfold sortWorld;rw[putRow_id5]
  rw[R]
  obtain⟨f1,f2⟩:=pj (ys:=C.toList.map fun a=>LC f a.1.1) N q g (C.map jn) n os (by simp[D]) (by simp[D])
   (fun y E=>by obtain⟨c,_,rfl⟩:=List.mem_map.1 E;exact⟨rfl,by simp[LC,V.cells,V.one]⟩) (fun i y j dd E hd=>by
    have v:=aB E;simp only[ud,vV]at v
    have hj:j=0:=by
     rw[uK,vJ,vZ v,uS]at E;cases E;have:=aB hd;simp[LC,V.cells]at this;omega
    subst hj;rw[uK,vJ,vZ v,uS]at E;cases E
    have:dd=LC f C[i].1.1:=by simpa[LC,V.cells] using hd.symm
    subst this;rw[yE,vk,getElem!_pos _ _ (by simpa using v),wR]
    exact C[i].2.2) w' X
  exact⟨_,_,.tup [],rfl,rfl,f1,f2,.tup [] #[] rfl ζ,rfl,rfl⟩
end
end Go.Proofs.YtnaokiodhoadjaaGreatDoor
