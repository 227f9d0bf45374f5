/- JB14: texts T10, G1, Vp, Vf, Vb, Rc, T11, U3, V1, U1, U2, U4, U5, V2, V3, V4, V6, U6, joined and shortened by pack6.py. -/
import Derived.Test.YtnaokiodhoadjaaGreatDoorJB13
set_option linter.all false
set_option maxRecDepth 100000
set_option maxHeartbeats 64000000
open ByteArray renaming empty→tp
open List renaming replicate→tg,range→tr,length_cons→uX,cons_append→ur,getElem?_cons_succ→vC,all_cons→vE,getElem?_cons_zero→vI,length_nil→vm,foldl_cons→vy,singleton_append→wX,all_nil→xd
open Nat renaming strongRecOn→xG,pow_succ→xf
namespace Go.Proofs.YtnaokiodhoadjaaGreatDoor
section
open Go Go.AM Go.Proofs.Tryz
structure Fd where
 l:Nat
 r:Nat
def sj(d:Fd):V:=.agg [.int .u8 (d.l:Int),.int .u8 (d.r:Int)]
def dY(d:Fd):V:=.agg [.int .u32 (d.l:Int),.int .u32 (d.r:Int)]
@[simp] theorem encD_pure (d:Fd):AM.Pure (sj d):=by simp[sj]
@[simp] theorem encF_pure (d:Fd):AM.Pure (dY d):=by simp[dY]
@[simp] theorem encF_oneV (d:Fd):cC (dY d)=true:=rfl
def LF(f:Bool)(ds:List Fd):V:=.lst 2 f (ds.map dY)
@[simp] theorem LF_pure (f:Bool) (ds:List Fd):AM.Pure (LF f ds):=by simp[LF]
def fdOf(n:Nat)(d:Fd):Fd:=⟨d.l &&& dy n,d.r &&& dy n⟩
def oB(n:Nat)(ds:List Fd)(i:Nat):List Fd:=(ds.take i).map (fdOf n)
def fdsTo_len(n:Nat)(ds:List Fd)(i:Nat)(h:i<=ds.length):(oB n ds i).length=i:=by simp[oB];omega
def fdsTo_succ(n:Nat)(ds:List Fd)(i:Nat)(h:i<ds.length):oB n ds (i+1)=oB n ds i++[fdOf n ds[i]]:=by
 unfold oB;rw[tz h,uu];rfl
def cap8b(n:Nat)(h:n<=1000000000):n<=9223372036854775806/\(n+1)*8<=140737488355328:=by omega
def list09(n:Nat)(ds:List Fd)(f:Bool)(hn:n<=32)(hl:ds.length<=1000000)(o:∀d∈ds,d.l<256/\d.r<256):aK prog 11 [.int .i64 n,.lst 2 f (ds.map sj)] fun r=>r=LF false (ds.map (fdOf n)):=by
 have c:=kX n hn;have h:=full02 n hn;refine sPx func11 ?_;simp -dsimp[f11,tg];refine cPx h ?_;simp -dsimp;refine aI (bh 40 2 [6] ζ (W_loopM 36 0xffffffcc0 zMx (σ:=Nat) (fun i=>i<=ds.length) (fun i=>ds.length-i) (fun i=>[(7,.int .i64 i),(6,.buf 0 0 i i)]) (fun i=>[B.buf 40 2 ((oB n ds i).map dY) false]) 0 ω ζ (by simp[oB]) ζ ?_));intro i hi N Q e g;have a:=fdsTo_len n ds i hi;by_cases hb:i<ds.length
 .obtain⟨h1,h2⟩:=o ds[i] (ti hb);have b:=fdsTo_succ n ds i hb;have q:=and32 ds[i].l (dy n) ω c;have m:=and32 ds[i].r (dy n) ω c;have p:=u32w ds[i].l ω;have k:=u32w ds[i].r ω;refine wx ?_;simp -dsimp[hb];refine aI (ae tok mixed [19] [] [] υ fun C K s j=>?_);simp -implicitDefEqProofs [hb,sj,p,k,q,m,cap8b i ω,a];apply j;simp -dsimp[aE i ω];refine e (i+1) _ _ ω ω ?_ ⟨[],?_⟩ ?_ ?_<;>simp[or_imp,forall_and,L1,aG,b,dY,fdOf,sj]
 .obtain rfl:i=ds.length:=by omega
  refine wx ?_;simp -dsimp[hb];apply g;simp -dsimp;rw[show LF false (ds.map (fdOf n))=LF false (oB n ds ds.length) by unfold oB;rw[uV]];exact dr rfl (by rw[ud];exact a.symm) ζ
structure Tm where
 v:Int
 a:Int
 x:Vl
structure At where
 l:Tm
 op:Int
 r:Tm
structure Dn where
 vars:Int
 atoms:List At
structure Cl where
 any:Bool
 x:Vl
structure Cfd where
 l:List Int
 r:Int
 p:List Cl
structure Od where
 l:List Int
 r:List Int
def bp(t:Tm):V:=.agg [.int .i64 t.v,.int .i64 t.a,.int .i64 t.x.k,.int .i64 t.x.n,.str t.x.s]
def aw(a:At):V:=.agg [.int .i64 a.l.v,.int .i64 a.l.a,.int .i64 a.l.x.k,.int .i64 a.l.x.n,.str a.l.x.s,.int .i64 a.op,.int .i64 a.r.v,.int .i64 a.r.a,.int .i64 a.r.x.k,.int .i64 a.r.x.n,.str a.r.x.s]
def av(c:Cl):V:=.agg [.bool c.any,.int .i64 c.x.k,.int .i64 c.x.n,.str c.x.s]
@[simp] theorem encTm_pure (t:Tm):AM.Pure (bp t):=by simp[bp]
@[simp] theorem encAt_pure (a:At):AM.Pure (aw a):=by simp[aw]
@[simp] theorem encCl_pure (c:Cl):AM.Pure (av c):=by simp[av]
@[simp] theorem encAt_oneV (a:At):cC (aw a)=true:=rfl
@[simp] theorem encCl_oneV (c:Cl):cC (av c)=true:=rfl
def LA(f:Bool)(a:List At):V:=.lst 11 f (a.map aw)
def LCl(f:Bool)(cs:List Cl):V:=.lst 4 f (cs.map av)
@[simp] theorem LA_pure (f:Bool) (a:List At):AM.Pure (LA f a):=by simp[LA]
@[simp] theorem LCl_pure (f:Bool) (cs:List Cl):AM.Pure (LCl f cs):=by simp[LCl]
def am(f:Bool)(d:Dn):V:=.agg [.int .i64 d.vars,LA f d.atoms]
def ac(f g:Bool)(c:Cfd):V:=.agg [L1 f c.l,.int .i64 c.r,LCl g c.p]
def bT(f g:Bool)(d:Od):V:=.agg [L1 f d.l,L1 g d.r]
@[simp] theorem encDn_pure (f:Bool) (d:Dn):AM.Pure (am f d):=by simp[am]
@[simp] theorem encCfd_pure (f g:Bool) (c:Cfd):AM.Pure (ac f g c):=by simp[ac]
@[simp] theorem encOd_pure (f g:Bool) (d:Od):AM.Pure (bT f g d):=by simp[bT]
def fI(x y:Vl):Bool:=x.k == y.k&&(x.n == y.n&&x.s == y.s)
def ba_beq2(a b:ByteArray):(a == b)=true↔a=b:=by
 cases a;cases b;rename_i x y;rw[ByteArray.mk.injEq,show((ByteArray.mk x == ByteArray.mk y)=(x == y)) from rfl];exact beq_iff_eq
def oK(x y:Vl):fI x y=true↔x=y:=by
 unfold fI;obtain⟨a,b,c⟩:=x;obtain⟨d,e,c'⟩:=y;rw[tt,tt,ba_beq2,beq_iff_eq,beq_iff_eq,Vl.mk.injEq]
def qV(H:List B)(k n:Int)(t:ByteArray)(k' b:Int)(a:ByteArray):fk T H 77 (.agg [.int .i64 k,.int .i64 n,.str t]) (.agg [.int .i64 k',.int .i64 b,.str a])=some (fI ⟨k,n,t⟩ ⟨k',b,a⟩):=by
 have h2:∀x y:Int,eqD T 9999 2 (.int .i64 x) (.int .i64 y)=some (x == y):=fun x y=>by simp[eqD]
 have h1:∀x y:Int,eqD T 9999 3 (.int .i64 x) (.int .i64 y)=some (x == y):=fun x y=>by simp[eqD]
 have c:∀x y:ByteArray,eqD T 9999 9 (.str x) (.str y)=some (x == y):=fun x y=>by simp[eqD]
 simp only[fk];rw[show(10000:Nat)=9999+1 from rfl,eqD];simp only[T_77];simp only[if_true,eqFs,jw,T_2,T_3,T_9,cZ,vI,vC,uM,if_false,h1,h2,c,fI];cases (k == k')<;>cases (n == b)<;>cases (t == a)<;>simp
def nD(v:Vl):Bool:=fI v ⟨0,0,tp⟩
def tmB(n vars:Int)(t:Tm):Bool:=if t.v=0 then decide (t.a=0)&&bO t.x else decide (1<=t.v)&&(decide (t.v<=vars)&&(decide (0<=t.a)&&(decide (t.a<n)&&nD t.x)))
def atB(n vars:Int)(a:At):Bool:=decide (1<=a.op)&&(decide (a.op<=4)&&(tmB n vars a.l&&tmB n vars a.r))
def dnB(n:Int)(d:Dn):Bool:=decide (1<=d.vars)&&(decide (d.vars<=3)&&(decide (d.atoms.length<=20)&&d.atoms.all (atB n d.vars)))
def tmV(rs:List Rw)(t:Tm):Vl:=if t.v=0 then t.x else((rs.getD (t.v-1).toNat ⟨0,[]⟩).vals).getD t.a.toNat ⟨0,0,tp⟩
def atS(rs:List Rw)(a:At):Bool:=if a.op=1 then decide (dt (tmV rs a.l) (tmV rs a.r)=0) else if a.op=2 then !decide (dt (tmV rs a.l) (tmV rs a.r)=0) else if a.op=3 then decide (dt (tmV rs a.l) (tmV rs a.r)<0) else decide (dt (tmV rs a.l) (tmV rs a.r)<=0)
def oZ(d:Dn)(rs:List Rw):Bool:=d.atoms.all (atS rs)
def ascI(n r:Int):Int->List Int->Bool
 | _,[]=>true
 | b,a::l=>decide (b<a)&&(decide (a<n)&&(!decide (a=r)&&ascI n r a l))
def clB(c:Cl):Bool:=if c.any=true then nD c.x else bO c.x
def cfB(n:Int)(c:Cfd):Bool:=decide (0<=c.r)&&(decide (c.r<n)&&(decide (c.p.length=c.l.length+1)&&(ascI n c.r (-1) c.l&&c.p.all clB)))
def inB(n:Int)(a:Int):Bool:=decide (0<=a)&&decide (a<n)
def olB(n:Int)(l:List Int):Bool:=decide (l.length<=8)&&l.all (inB n)
def odB(n:Int)(d:Od):Bool:=olB n d.l&&olB n d.r
structure Cn where
 name:ByteArray
 table:ByteArray
 kind:Int
 fd:Fd
 m1:Int
 m2:Int
 i1:ByteArray
 i2:List Int
 i3:ByteArray
 i4:List Int
 cfd:Cfd
 od:Od
 dn:Dn
def aW(c:Cn):V:=.agg [.str c.name,.str c.table,.int .i64 c.kind,.int .u32 (c.fd.l:Int),.int .u32 (c.fd.r:Int),.int .u32 c.m1,.int .u32 c.m2,.str c.i1,L1 false c.i2,.str c.i3,L1 false c.i4,L1 false c.cfd.l,.int .i64 c.cfd.r,LCl false c.cfd.p,L1 false c.od.l,L1 false c.od.r,.int .i64 c.dn.vars,LA false c.dn.atoms]
def LCn(f:Bool)(cs:List Cn):V:=.lst 18 f (cs.map aW)
@[simp] theorem encCn_pure (c:Cn):AM.Pure (aW c):=by simp[aW]
@[simp] theorem LCn_pure (f:Bool) (cs:List Cn):AM.Pure (LCn f cs):=by simp[LCn]
@[simp] theorem encCn_oneV (c:Cn):cC (aW c)=true:=by simp[aW,cC,L1,LCl,LA,V.one]
def dz(n:Nat)(d:Fd):Bool:=decide ((d.l ||| d.r) / 2^n=0)
def aU(t:Tb)(c:Cn):Int :=
 if c.table.toList == t.name.toList&&(decide (1<=c.kind)&&decide (c.kind<=6)) then
  if c.kind=2\/c.kind=3 then 14 else if c.kind=1 then(if dz t.attrs.length c.fd=true then 0 else 1) else
  if c.kind=4 then(if cfB t.attrs.length c.cfd=true then 0 else 1) else if c.kind=5 then(if odB t.attrs.length c.od=true then 0 else 1) else(if dnB t.attrs.length c.dn=true then 0 else 1)
 else 1
def srt(l:List Int):List Int:=l.mergeSort fun a b=>decide (a<=b)
def nJ(l:List Int):(srt l).Perm l:=xm _ _
def rO(l:List Int):(srt l).Pairwise (·<=·):=by
 have:=xQ (le:=fun a b:Int=>decide (a<=b)) (fun a b c h g=>by
  simp only[decide_eq_true_eq]at h g ⊢;omega) (fun a b=>by
  rcases Int.le_total a b with h | h
  .simp[h]
  .simp[h]) l
 exact this.imp (fun h=>by simpa using h)
def srt_eq{l m:List Int}(hp:m.Perm l)(hs:m.Pairwise (·<=·)):m=srt l :=
 (hp.trans (nJ l).symm).eq_of_pairwise (le:=fun x y:Int=>x<=y) (fun x y _ _ h1 h2=>by omega) hs (rO l)
def jG(l:List Int):(srt l).length=l.length:=(nJ l).length_eq
def srt_asc{l:List Int}(h:l.Nodup):(srt l).Pairwise (· < ·):=by
 have h2:(srt l).Nodup:=(nJ l).nodup_iff.2 h;exact((rO l).and h2).imp (fun⟨a,b⟩=>by omega)
def rP{a b:Int}(h:a<b):srt [a,b]=[a,b]/\srt [b,a]=[a,b] :=
 ⟨(srt_eq (List.Perm.refl _) χ).symm,(srt_eq (List.Perm.swap _ _ _) χ).symm⟩
def ao(rs:List Rw):List Int:=rs.map (·.id)
def bg(rs:List Rw):(ao rs).length=rs.length:=by simp[ao]
def cV(p:List Rw)(r:Rw):Bool:=p.any fun x=>x.id == r.id
def used_iff{p:List Rw}{r:Rw} : cV p r=true↔r.id∈ao p:=by
 unfold cV ao;rw[wY,wc];exact⟨fun⟨x,h1,h2⟩=>⟨x,h1,by simpa using h2⟩,fun⟨x,h1,h2⟩=>⟨x,h1,by simpa using h2⟩⟩
def qc(R:List Rw):List Rw->List Rw->Prop
 | _,[]=>True
 | p,r::q=>r∈R/\cV p r=false/\qc R (p++[r]) q
theorem pP{R:List Rw}{r:Rw} : ∀{q p:List Rw},qc R p (q++[r])↔qc R p q/\r∈R/\cV (p++q) r=false
 | [],p=>by simp[qc]
 | x::q,p=>by
  rw[ur,qc,qc,pP (q:=q) (p:=p++[x])];rw[uW,wX];exact⟨fun⟨a,b,c,d⟩=>⟨⟨a,b,c⟩,d⟩,fun⟨⟨a,b,c⟩,d⟩=>⟨a,b,c,d⟩⟩
theorem sd{R:List Rw} : ∀{q p:List Rw},qc R p q->∀r∈q,r∈R
 | [],_,_,r,h=>by cases h
 | x::q,p,h,r,hr=>by
  rcases List.mem_cons.1 hr with rfl | hr
  .exact h.1
  .exact sd h.2.2 r hr
theorem sb{R:List Rw} : ∀{q p:List Rw},(ao p).Nodup->qc R p q->(ao (p++q)).Nodup
 | [],p,hp,_=>by simpa using hp
 | x::q,p,hp,h=>by
  have hx:x.id∉ao p:=fun hm=>by have:=used_iff.2 hm;rw[h.2.1]at this;cases this
  have h2:(ao (p++[x])).Nodup:=by
   unfold ao at hp hx ⊢;rw[uu,List.nodup_append];refine⟨hp,ζ,?_⟩;intro a ha b hb;simp at hb;subst hb;rintro rfl;exact hx ha
  have:=sb h2 h.2.2
  rwa [uW,wX]at this
theorem pM{b a:Type}{f:List a->b->List a}{Q:b->a->Prop}(h:∀o r x,x∈f o r↔x∈o\/Q r x):∀(R:List b) (out:List a) (x:a),x∈R.foldl f out↔x∈out\/∃r∈R,Q r x
 | [],out,x=>by simp
 | r::R,out,x=>by
  rw[vy,pM h R (f out r) x,h];simp only[tw,exists_eq_or_imp];rw[or_assoc]
def kK(out:List (List Int))(l:List Int):List (List Int):=if out.contains l then out else out++[l]
def nP{out:List (List Int)}{l x:List Int} : x∈kK out l↔x∈out\/x=l:=by
 unfold kK;by_cases h:l∈out
 .rw[if_pos (by simpa using h)];exact⟨.inl,fun h2=>h2.elim id (fun e=>e▸h)⟩
 .rw[if_neg (by simpa using h)];simp
def putN_len(out:List (List Int))(l:List Int):(kK out l).length<=out.length+1:=by
 unfold kK;split<;>simp
def stV(d:Dn)(out:List (List Int))(rs:List Rw):List (List Int):=if oZ d rs then kK out (srt (ao rs)) else out
def stV_len(d:Dn)(out:List (List Int))(rs:List Rw):(stV d out rs).length<=out.length+1:=by
 unfold stV;split
 .exact putN_len _ _
 .omega
def gx(d:Dn)(R:List Rw):Nat->List Rw->List (List Int)->List (List Int)
 | 0,p,out=>stV d out p
 | k+1,p,out=>R.foldl (fun o r=>if cV p r then o else gx d R k (p++[r]) o) out
theorem nG{d:Dn}{R:List Rw} : ∀(k:Nat) (p:List Rw) (out:List (List Int)) (x:List Int),x∈gx d R k p out↔x∈out\/∃q,q.length=k/\qc R p q/\oZ d (p++q)=true/\x=srt (ao (p++q))
 | 0,p,out,x=>by
  unfold gx stV;constructor
  .intro h;split at h
   .rename_i ha
    rcases nP.1 h with h | h
    .exact .inl h
    .exact .inr ⟨[],rfl,trivial,by simpa using ha,by simpa using h⟩
   .exact .inl h
  .rintro(h | ⟨q,h1,_,a,b⟩)
   .split
    .exact nP.2 (.inl h)
    .exact h
   .have:=List.length_eq_zero_iff.1 h1;subst this;rw[uC]at a b;rw[if_pos a];exact nP.2 (.inr b)
 | k+1,p,out,x=>by
  unfold gx
  rw[pM (Q:=fun r x=>cV p r=false/\∃q,q.length=k/\qc R (p++[r]) q/\oZ d (p++[r]++q)=true/\x=srt (ao (p++[r]++q))) (fun o r x=>by
   by_cases hu:cV p r=true
   .rw[if_pos hu,hu];simp
   .rw[if_neg hu,nG k (p++[r]) o x];simp only[wC]at hu
    rw[hu];simp)]
  constructor
  .rintro(h | ⟨r,hr,hu,q,h1,h2,a,b⟩)
   .exact .inl h
   .exact .inr ⟨r::q,by simp[h1],⟨hr,hu,h2⟩,by simpa using a,by simpa using b⟩
  .rintro(h | ⟨q,h1,h2,a,b⟩)
   .exact .inl h
   .cases q with
    | nil=>simp at h1
    | cons r q=>exact .inr ⟨r,h2.1,h2.2.1,q,by simpa using h1,h2.2.2,by simpa using a,by simpa using b⟩
theorem kB{d:Dn}{R:List Rw} : ∀(k:Nat) (p:List Rw) (out:List (List Int)),(gx d R k p out).length<=out.length+R.length^k
 | 0,p,out=>by unfold gx;exact stV_len d out p
 | k+1,p,out=>by
  unfold gx
  have key:∀(S:List Rw) (o:List (List Int)),(S.foldl (fun o r=>if cV p r then o else gx d R k (p++[r]) o) o).length<=o.length+S.length*R.length^k:=fun S=>by
   induction S with
   | nil=>intro o;simp
   | cons s S a =>
    intro o;rw[vy];refine ug (a _) ?_;rw[uX,yK];split
    .omega
    .have:=kB (d:=d) (R:=R) k (p++[s]) o;omega
  have:=key R out;rw[xf,wG];exact this
def mH(R:List Rw)(o:List Rw):List (List Rw):=(R.filter fun r=>!cV o r).map fun r=>o++[r]
def asR(R:List Rw):Nat->List (List Rw)
 | 0=>[[]]
 | k+1=>(asR R k).flatMap (mH R)
theorem jh{R:List Rw} : ∀{k:Nat} {rs:List Rw},rs∈asR R k↔rs.length=k/\qc R [] rs
 | 0,rs=>by
  simp only[asR,uQ];constructor
  .rintro rfl;exact⟨rfl,trivial⟩
  .intro h;exact List.length_eq_zero_iff.1 h.1
 | k+1,rs=>by
  simp only[asR,yC,mH,wc,vR];constructor
  .rintro⟨o,ho,r,⟨hr,hu⟩,rfl⟩;obtain⟨h1,h2⟩:=jh.1 ho;exact⟨by simp[h1],pP.2 ⟨h2,hr,by simpa using hu⟩⟩
  .rintro⟨h1,h2⟩
   have a:rs≠[]:=by rintro rfl;simp at h1
   rw[<-List.dropLast_concat_getLast a]at h2;obtain⟨b,d,c⟩:=pP.1 h2;exact⟨rs.dropLast,jh.2 ⟨by simp[h1],b⟩,rs.getLast a,⟨d,by simpa using c⟩,List.dropLast_concat_getLast a⟩
theorem oX(R:List Rw):∀k,(asR R k).length<=R.length^k
 | 0=>by simp[asR]
 | k+1=>by
  have b:=oX R k
  have key:∀l:List (List Rw),(l.flatMap (mH R)).length<=l.length*R.length:=fun l=>by
   induction l with
   | nil=>simp
   | cons o l a =>
    rw[wN,uB,uX,yK]
    have:(mH R o).length<=R.length:=by unfold mH;rw[ud];exact uU _ _
    omega
  unfold asR;rw[xf];exact ug (key _) (uI _ b)
def mV(l:List (List Int))(x:List Int):List (List Int):=if l.any (fun y=>!ah y x&&!ah x y) then l else jR l x
def same_lex{x y:List Int} : (!ah y x&&!ah x y)=true↔y=x:=by
 constructor
 .intro h;rw[tt,uj,uj]at h
  refine Classical.byContradiction fun a=>?_
  have:=nf y x a h.1;rw[h.2]at this;cases this
 .rintro rfl;rw[iE];rfl
def insE_iff{a:List (List Int)}{e x:List Int} : x∈jR a e↔x=e\/x∈a:=by
 refine⟨fun h=>?_,insE_in⟩;unfold jR bu at h;simp only[vG,tw]at h
 rcases h with h | h | h
 .exact .inr (uh h)
 .exact .inl h
 .exact .inr (vF h)
def putR_mem{l:List (List Int)}{y x:List Int} : x∈mV l y↔x∈l\/x=y:=by
 unfold mV;split
 .rename_i h;obtain⟨z,hz,he⟩:=List.any_eq_true.1 h;have:=same_lex.1 he;subst this;exact⟨.inl,fun h=>h.elim id (fun e=>e▸hz)⟩
 .rw[insE_iff,or_comm]
def putR_len(l:List (List Int))(y:List Int):(mV l y).length<=l.length+1:=by
 unfold mV;split
 .omega
 .unfold jR bu;simp;omega
def stR(d:Dn)(out:List (List Int))(rs:List Rw):List (List Int):=if oZ d rs then mV out (srt (ao rs)) else out
def VD(R:List Rw)(d:Dn)(x:List Int):Prop:=∃rs,rs.length=d.vars.toNat/\qc R [] rs/\oZ d rs=true/\x=srt (ao rs)
def vd_prog{R:List Rw}{d:Dn}{x:List Int} : x∈gx d R d.vars.toNat [] []↔VD R d x:=by
 rw[nG];simp[VD]
def vd_ref{R:List Rw}{d:Dn}{x:List Int} : x∈(asR R d.vars.toNat).foldl (stR d) []↔VD R d x:=by
 rw[pM (Q:=fun rs x=>oZ d rs=true/\x=srt (ao rs)) (fun o rs x=>by
  unfold stR;by_cases h:oZ d rs=true
  .rw[if_pos h,putR_mem,h];simp
  .rw[if_neg h];simp[h])]
 constructor
 .rintro(h | ⟨rs,h1,h2,b⟩)
  .cases h
  .obtain⟨a,c⟩:=jh.1 h1;exact⟨rs,a,c,h2,b⟩
 .rintro⟨rs,h1,h2,b,a⟩;exact .inr ⟨rs,jh.2 ⟨h1,h2⟩,b,a⟩
def EdgL(R:List Rw)(x:List Int):Prop:=x.Pairwise (· < ·)/\x≠[]/\x.length<=3/\∀a∈x,a∈ao R
def VD.edge{R:List Rw}{d:Dn}{x:List Int}(h:VD R d x)(h1:1<=d.vars)(c:d.vars<=3):EdgL R x:=by
 obtain⟨rs,hl,he,_,rfl⟩:=h
 have hn:(ao rs).Nodup:=by simpa using sb (p:=[]) (by simp[ao]) he
 refine⟨srt_asc hn,fun e=>?_,by rw[jG,bg];omega,fun a ha=>?_⟩
 .have:=jG (ao rs);rw[e,bg]at this;simp at this;omega
 .have b:=(nJ _).mem_iff.1 ha;unfold ao at b ⊢;obtain⟨r,hr,rfl⟩:=List.mem_map.1 b;exact List.mem_map.2 ⟨r,sd he r hr,rfl⟩
def prL(P:Rw->Rw->Bool):List Rw->List (List Int)
 | []=>[]
 | r::rs=>((rs.filter (P r)).map fun s=>[r.id,s.id])++prL P rs
theorem prL_mem{P:Rw->Rw->Bool}{x:List Int} : ∀{R:List Rw},(R.Pairwise fun r s=>r.id<s.id)->(x∈prL P R↔∃r∈R,∃s∈R,r.id<s.id/\P r s=true/\x=[r.id,s.id])
 | [],_=>by simp[prL]
 | a::R,h=>by
  rw[wy]at h;rw[prL,vG,prL_mem h.2];constructor
  .rintro(h1 | ⟨r,hr,s,hs,h1⟩)
   .obtain⟨s,hs,rfl⟩:=List.mem_map.1 h1;obtain⟨d,b⟩:=List.mem_filter.1 hs;exact⟨a,uN ..,s,uO _ d,h.1 s d,b,rfl⟩
   .exact⟨r,uO _ hr,s,uO _ hs,h1⟩
  .rintro⟨r,hr,s,hs,h1,h2,f⟩
   rcases List.mem_cons.1 hr with e | c
   .rcases List.mem_cons.1 hs with g | b
    .rw[e,g]at h1;omega
    .rw[e]at h2 f;exact .inl (List.mem_map.2 ⟨s,List.mem_filter.2 ⟨b,h2⟩,f.symm⟩)
   .rcases List.mem_cons.1 hs with g | b
    .have:=h.1 r c;rw[g]at h1;omega
    .exact .inr ⟨r,c,s,b,h1,h2,f⟩
theorem mX{P:Rw->Rw->Bool}{p:Rw->Bool} : ∀R:List Rw,prL P (R.filter p)=prL (fun r s=>p r&&(p s&&P r s)) R
 | []=>rfl
 | a::R=>by
  rw[prL];by_cases h:p a=true
  .rw[vr h,prL,mX R,List.filter_filter];congr 3;funext s;rw[h,uF];exact Bool.and_comm _ _
  .rw[vu h,mX R];simp only[wC]at h;simp[h]
def rg{P:Rw->Rw->Bool}{x:List Int}{R:List Rw}(b:R.Pairwise fun r s=>r.id<s.id)(h:x∈prL P R):EdgL R x:=by
 obtain⟨r,hr,s,hs,h1,_,rfl⟩:=(prL_mem b).1 h;refine⟨by simpa using h1,ζ,ζ,fun a ha=>?_⟩;unfold ao;simp at ha
 rcases ha with rfl | rfl
 .exact List.mem_map.2 ⟨r,hr,rfl⟩
 .exact List.mem_map.2 ⟨s,hs,rfl⟩
theorem fg{P:Rw->Rw->Bool} : ∀R:List Rw,(prL P R).length<=R.length*R.length
 | []=>by simp[prL]
 | a::R=>by
  rw[prL,uB,ud,uX];have h1:=uU (P a) R;have h2:=fg (P:=P) R
  have b:(R.length+1)*(R.length+1)=R.length*R.length+R.length+R.length+1:=by rw[uR,Nat.mul_add];omega
  omega
def dW(n s:Nat):List Nat:=(tr n).filter s.testBit
def lq{n s k:Nat} : k∈dW n s↔k<n/\s.testBit k=true:=by simp[dW]
def gJ(n s:Nat):(dW n s).length<=n:=by
 have:=uU s.testBit (tr n);simpa[dW] using this
def jf(n s:Nat):dW (n+1) s=dW n s++(if s.testBit n then [n] else []):=by
 unfold dW;rw[ue,vK];congr 1;by_cases h:s.testBit n=true
 .rw[if_pos h,vr h];rfl
 .rw[if_neg h,vu h];rfl
theorem jg{s:Nat} : ∀{n:Nat},(∀j,j<n->s.testBit j=false)->dW n s=[]
 | 0,_=>rfl
 | n+1,h=>by rw[jf,jg (fun j a=>h j ω),h n ω];rfl
theorem bits_low{x y t:Nat}(h1:∀j,j<t->x.testBit j=false)(h2:x.testBit t=true)(a:∀j,j<=t->y.testBit j=false)(b:∀j,t<j->y.testBit j=x.testBit j):∀n,t<n->dW n x=t::dW n y
 | 0,h=>by omega
 | n+1,h=>by
  rw[jf,jf];by_cases hn:n=t
  .subst hn;rw[jg h1,jg (fun j c=>a j ω),h2,a n ω];rfl
  .rw[bits_low h1 h2 a b n ω,b n ω];rfl
def low_bit:∀x:Nat,0<x->∃t m,x=2^(t+1)*m+2^t:=by
 intro x
 induction x using xG with
 | _ x a =>
  intro h
  rcases Nat.mod_two_eq_zero_or_one x with h2 | h2
  .obtain⟨t,m,e⟩:=a (x / 2) ω ω;refine⟨t+1,m,?_⟩
   have b:x=2*(x / 2):=by omega
   rw[b,e,Nat.mul_add,<-Nat.mul_assoc,<-Nat.pow_succ',<-Nat.pow_succ']
  .exact⟨0,x / 2,ω⟩
def low_test{t m j:Nat} : (2^(t+1)*m+2^t).testBit j=if j<t+1 then decide (t=j) else m.testBit (j-(t+1)):=by
 rw[Nat.testBit_two_pow_mul_add _ (wd ω ω)];split
 .rw[xj]
 .rfl
def low_pred{t m j:Nat} : (2^(t+1)*m+2^t-1).testBit j=if j<t+1 then decide (j<t) else m.testBit (j-(t+1)):=by
 have h0:0<2^t:=Nat.two_pow_pos t
 have h1:2^(t+1)*m+2^t-1=2^(t+1)*m+(2^t-1):=by omega
 rw[h1,Nat.testBit_two_pow_mul_add _ (by rw[xf];omega)];split
 .rw[Nat.testBit_two_pow_sub_one]
 .rfl
def bits_step{x:Nat}(h:0<x)(h2:x<4294967296):∃t,t<32/\x.testBit t=true/\dW 32 x=t::dW 32 (x &&& (x-1))/\x &&& (4294967296-x)=2^t/\x &&& (x-1)<x:=by
 obtain⟨t,m,e⟩:=low_bit x h
 have ht:t<32:=by
  refine Classical.byContradiction fun hn=>?_
  have:2^32<=2^t:=uo ω ω;have g:0<=2^(t+1)*m:=wV _;omega
 have hx:∀j,x.testBit j=if j<t+1 then decide (t=j) else m.testBit (j-(t+1)):=fun j=>by rw[e];exact low_test
 have b:∀j,(x-1).testBit j=if j<t+1 then decide (j<t) else m.testBit (j-(t+1)):=fun j=>by rw[e];exact low_pred
 have hz:∀j,(x &&& (x-1)).testBit j=if j<t+1 then false else m.testBit (j-(t+1)):=fun j=>by
  rw[xr,hx,b];split
  .by_cases h:t=j
   .subst h;simp
   .simp[h]
  .simp
 refine⟨t,ht,by rw[hx];simp,bits_low (fun j c=>?_) (by rw[hx];simp) (fun j c=>?_) (fun j c=>?_) 32 ht,?_,?_⟩
 .rw[hx,if_pos ω];simp;omega
 .rw[hz,if_pos ω]
 .rw[hz,hx,if_neg ω,if_neg ω]
 .apply Nat.eq_of_testBit_eq;intro j
  have f:(4294967296-x).testBit j=(decide (j<32)&&!(x-1).testBit j):=by
   have:=Nat.testBit_two_pow_sub_succ (x:=x-1) (n:=32) ω j;rw[(ω:(2:Nat)^32-(x-1+1)=4294967296-x)]at this;exact this
  rw[xr,f,hx,b,xj];by_cases a:j<t+1
  .rw[if_pos a,if_pos a];by_cases d:t=j
   .subst d;simp[ht]
   .simp[d]
  .rw[if_neg a,if_neg a]
   have:¬t=j:=by omega
   cases m.testBit (j-(t+1))<;>simp[this]
 .have:=Nat.and_le_right (n:=x) (m:=x-1);omega
def zV:Vl:=⟨0,0,tp⟩
def dm(op:Int)(a:Nat):At:=⟨⟨1,(a:Int),zV⟩,op,⟨2,(a:Int),zV⟩⟩
def gh(L:List Nat)(b:Nat):Dn:=⟨2,L.map (dm 1)++[dm 2 b]⟩
def atS_eq(x y:Rw)(a:Nat):atS [x,y] (dm 1 a)=true↔vAt x.vals a=vAt y.vals a:=by
 rw[<-jA];simp[atS,dm,tmV,vAt]
def atS_ne(x y:Rw)(a:Nat):atS [x,y] (dm 2 a)=true↔vAt x.vals a≠vAt y.vals a:=by
 rw[Ne,<-jA];simp[atS,dm,tmV,vAt]
def vd_fd{R:List Rw}{L:List Nat}{b:Nat}{x:List Int} : VD R (gh L b) x↔∃r∈R,∃s∈R,r.id≠s.id/\(∀a∈L,vAt r.vals a=vAt s.vals a)/\vAt r.vals b≠vAt s.vals b/\x=srt [r.id,s.id]:=by
 have hall:∀r s,oZ (gh L b) [r,s]=true↔(∀a∈L,vAt r.vals a=vAt s.vals a)/\vAt r.vals b≠vAt s.vals b:=fun r s=>by
  unfold oZ gh;simp only[List.all_append,List.all_map,tt,uZ,vE,xd,Function.comp,atS_eq,atS_ne,and_true]
 constructor
 .rintro⟨rs,h1,h2,c,f⟩
  obtain⟨r,s,rfl⟩:∃r s,rs=[r,s]:=by
   match rs,h1 with
   | [r,s],_=>exact⟨r,s,rfl⟩
  obtain⟨d,e⟩:=(hall r s).1 c;refine⟨r,h2.1,s,h2.2.2.1,?_,d,e,by simpa[ao] using f⟩;have:=h2.2.2.2.1;simpa[cV] using this
 .rintro⟨r,hr,s,hs,h1,h2,c,rfl⟩;exact⟨[r,s],rfl,⟨hr,by simp[cV],hs,by simpa[cV] using h1,trivial⟩,(hall r s).2 ⟨h2,c⟩,by simp[ao]⟩
def fdP(l r:Nat)(a b:Rw):Bool:=kx a b l&&!kx a b r
def fd_mem{R:List Rw}{n l r:Nat}{x:List Int}{L M:List Nat}(o:R.Pairwise fun r s=>r.id<s.id)(hv:∀w∈R,w.vals.length=n)(hn:n<=32)(hl:l<2^n)(hr:r<2^n)(hL:∀k,k∈L↔l.testBit k=true)(m:∀k,k∈M↔r.testBit k=true/\l.testBit k=false):
  (∃b∈M,VD R (gh L b) x)↔x∈prL (fdP l r) R:=by
 have hp:(2:Nat)^n<=2^32:=uo ω hn
 have lt:∀s k,s<2^n->s.testBit k=true->k<n:=fun s k hs hk=>by
  refine Classical.byContradiction fun p=>?_
  have:s<2^k:=uT hs (uo ω ω);rw[vf this]at hk;cases hk
 have ag:∀s:Nat,s<2^n->∀a∈R,∀b∈R,(kx a b s=true↔∀k,s.testBit k=true->vAt a.vals k=vAt b.vals k):=fun s hs a ha b hb=>by
  rw[agreeR_iff (by rw[hv a ha,hv b hb]),hv a ha];constructor
  .intro h k hk;have i:=lt s k hs hk;exact h k i (by rw[eU s k ω ω];exact hk)
  .intro h k i hk;rw[eU s k ω ω]at hk;exact h k hk
 rw[prL_mem o];constructor
 .rintro⟨b,hb,hx⟩;obtain⟨u,hu,w,c,h1,h2,g,rfl⟩:=vd_fd.1 hx;obtain⟨d,e⟩:=(m b).1 hb
  rcases Int.lt_or_gt_of_ne h1 with f | f
  .refine⟨u,hu,w,c,f,?_,(rP f).1⟩;unfold fdP;rw[tt,ag l hl u hu w c,uj,<-wC,ag r hr u hu w c];exact⟨fun k hk=>h2 k ((hL k).2 hk),fun h=>g (h b d)⟩
  .refine⟨w,c,u,hu,f,?_,(rP f).2⟩;unfold fdP;rw[tt,ag l hl w c u hu,uj,<-wC,ag r hr w c u hu];exact⟨fun k hk=>(h2 k ((hL k).2 hk)).symm,fun h=>g (h b d).symm⟩
 .rintro⟨u,hu,w,c,h1,h2,rfl⟩;unfold fdP at h2;rw[tt,ag l hl u hu w c,uj,<-wC,ag r hr u hu w c]at h2;obtain⟨g,f⟩:=h2;obtain⟨b,hb⟩:=Classical.not_forall.1 f;obtain⟨d,e⟩:=Classical.not_imp.1 hb
  have j:l.testBit b=false:=by
   rw[<-wC]
   exact fun h=>e (g b h)
  exact⟨b,(m b).2 ⟨d,j⟩,vd_fd.2 ⟨u,hu,w,c,ω,fun a ha=>g a ((hL a).1 ha),e,(rP h1).1.symm⟩⟩
def clF(c:Cl)(v:Vl):Bool:=c.any||fI c.x v
def qZ(p:List Cl)(i:Nat):Cl:=p.getD i ⟨true,zV⟩
def pt(c:Cfd)(r:Rw):Nat->List Int->Bool
 | _,[]=>true
 | i,a::l=>clF (qZ c.p i) (vAt r.vals a.toNat)&&pt c r (i+1) l
def gZ(c:Cfd)(r:Rw):Bool:=pt c r 0 c.l
def jK(c:Cfd)(r:Rw):Bool:=clF (qZ c.p c.l.length) (vAt r.vals c.r.toNat)
def gW(c:Cfd)(a b:Rw):Bool:=!fI (vAt a.vals c.r.toNat) (vAt b.vals c.r.toNat)&&c.l.all fun k=>fI (vAt a.vals k.toNat) (vAt b.vals k.toNat)
def qa(c:Cfd)(R:List Rw):List (List Int):=((R.filter (gZ c)).filter fun r=>!jK c r).map (fun r=>[r.id])++prL (gW c) (R.filter (gZ c))
def kw(c:Cfd)(r:Rw):Bool:=gZ c r&&!jK c r
def jM(c:Cfd)(a b:Rw):Bool:=gZ c a&&(gZ c b&&gW c a b)
def tI(c:Cfd)(R:List Rw):qa c R=(R.filter (kw c)).map (fun r=>[r.id])++prL (jM c) R:=by
 unfold qa;rw[mX,List.filter_filter];congr 3;funext r;unfold kw;exact Bool.and_comm _ _
def eqVB_cmp(x y:Vl):fI x y=decide (dt x y=0):=by
 rw[vH,oK,decide_eq_true_eq,jA]
def cfdV_edge{c:Cfd}{R:List Rw}{x:List Int}(b:R.Pairwise fun r s=>r.id<s.id)(h:x∈qa c R):EdgL R x:=by
 rw[tI,vG]at h
 rcases h with h | h
 .obtain⟨r,hr,rfl⟩:=List.mem_map.1 h;refine⟨ζ,ζ,ζ,fun a ha=>?_⟩;simp at ha;subst ha;exact List.mem_map.2 ⟨r,(List.mem_filter.1 hr).1,rfl⟩
 .exact rg b h
def tJ(c:Cfd)(R:List Rw):(qa c R).length<=R.length+R.length*R.length:=by
 rw[tI,uB,ud];have h1:=uU (kw c) R;have h2:=fg (P:=jM c) R;omega
def gp(a b:Rw):List Int->Int
 | []=>0
 | i::l=>if dt (vAt a.vals i.toNat) (vAt b.vals i.toNat)=0 then gp a b l else dt (vAt a.vals i.toNat) (vAt b.vals i.toNat)
def cmpI_rng(x y:Int): -1<=bG x y/\bG x y<=1:=by
 unfold bG;split
 .omega
 .split<;>omega
theorem cmpB_rng:∀(a b:List UInt8),-1<=Lib.compareBytes a b/\Lib.compareBytes a b<=1
 | [],[]=>by simp[Lib.compareBytes]
 | [],_::_=>by simp[Lib.compareBytes]
 | _::_,[]=>by simp[Lib.compareBytes]
 | a::xs,b::bs=>by
  rw[Lib.compareBytes];split
  .omega
  .split
   .omega
   .exact cmpB_rng xs bs
def cmpV_rng(x y:Vl): -1<=dt x y/\dt x y<=1:=by
 unfold dt;split
 .split
  .exact cmpB_rng _ _
  .exact cmpI_rng _ _
 .exact cmpI_rng _ _
theorem kn(a b:Rw):∀l,-1<=gp a b l/\gp a b l<=1
 | []=>by simp[gp]
 | i::l=>by
  rw[gp];split
  .exact kn a b l
  .exact cmpV_rng _ _
def sC(d:Od)(a b:Rw):Int:=if gp a b d.l=0/\¬gp a b d.r=0 then 1 else if gp a b d.l*gp a b d.r<0 then 2 else 0
def odP(d:Od)(a b:Rw):Bool:=!decide (sC d a b=0)
structure TbC (t:Tb):Prop where
 ids:t.rows.Pairwise fun r s=>r.id<s.id
 pos:∀r∈t.rows,0<r.id
 len:∀r∈t.rows,r.vals.length=t.attrs.length
 val:∀r∈t.rows,r.vals.all bO=true
 wide:t.attrs.length<=16
theorem rU{n:Nat} : ∀{rs:List Rw} {e:Int},dQ n e rs=0->(∀r∈rs,e<r.id)/\(rs.Pairwise fun r s=>r.id<s.id)/\(∀r∈rs,r.vals.length=n)/\∀r∈rs,r.vals.all bO=true
 | [],_,_=>by simp
 | r::rs,e,h=>by
  rw[dQ]at h;split at h
  .cases h
  .rename_i h1;split at h
   .cases h
   .rename_i h2;split at h
    .rename_i f;obtain⟨a,b,c,d⟩:=rU h;refine⟨fun x hx=>?_,List.pairwise_cons.2 ⟨a,b⟩,fun x hx=>?_,fun x hx=>?_⟩
     .rcases List.mem_cons.1 hx with rfl | hx
      .omega
      .have:=a x hx;omega
     .rcases List.mem_cons.1 hx with rfl | hx
      .simpa using h2
      .exact c x hx
     .rcases List.mem_cons.1 hx with rfl | hx
      .exact f
      .exact d x hx
    .cases h
def tbC{t:Tb}(h:validT t=0):TbC t:=by
 unfold validT at h;split at h
 .split at h
  .cases h
  .rename_i h2;split at h
   .obtain⟨a,b,c,d⟩:=rU h;exact⟨b,fun r hr=>a r hr,c,d,ω⟩
   .cases h
 .cases h
def diffN(r l:Nat):Nat:=r &&& (4294967295-l)
def jv(l:Nat):List Nat:=dW 32 l
def mi(l r:Nat):List Nat:=(dW 32 r).filter fun b=>!l.testBit b
def fdV(R:List Rw)(l r:Nat):List (List Int):=(mi l r).flatMap fun b=>cF (gx (gh (jv l) b) R 2 [] [])
def cnV(t:Tb)(c:Cn):List (List Int):=
 if c.kind=1 then fdV t.rows c.fd.l c.fd.r else if c.kind=4 then qa c.cfd t.rows else if c.kind=5 then prL (odP c.od) t.rows else cF (gx c.dn t.rows c.dn.vars.toNat [] [])
def cnR(t:Tb)(c:Cn):List (List Int):=
 if c.kind=1 then prL (fdP c.fd.l c.fd.r) t.rows else if c.kind=4 then qa c.cfd t.rows else if c.kind=5 then prL (odP c.od) t.rows else(asR t.rows c.dn.vars.toNat).foldl (stR c.dn) []
def pow16{n:Nat}(h:n<=16):(2:Nat)^n<=65536:=by
 have h1:(2:Nat)^n<=2^16:=uo ω h;omega
def fd_lt{n:Nat}{d:Fd}(h:dz n d=true):d.l<2^n/\d.r<2^n:=by
 unfold dz at h
 have h1:(d.l ||| d.r) / 2^n=0:=by simpa using h
 have h2:(d.l ||| d.r)<2^n:=by
  rcases Nat.div_eq_zero_iff.1 h1 with h | h
  .have:=Nat.two_pow_pos n;omega
  .exact h
 exact⟨vO Nat.left_le_or h2,vO Nat.right_le_or h2⟩
def fdV_mem{t:Tb}(g:TbC t){d:Fd}(h:dz t.attrs.length d=true){x:List Int} : x∈fdV t.rows d.l d.r↔x∈prL (fdP d.l d.r) t.rows:=by
 obtain⟨h1,h2⟩:=fd_lt h;have hp:=pow16 g.wide
 have lt:∀s k,s<2^t.attrs.length->s.testBit k=true->k<32:=fun s k hs hk=>by
  refine Classical.byContradiction fun f=>?_
  have e:(2:Nat)^16<=2^k:=uo ω ω
  have:s<2^k:=by omega
  rw[vf this]at hk;cases hk
 rw[<-fd_mem (n:=t.attrs.length) (L:=jv d.l) (M:=mi d.l d.r) g.ids g.len (by have:=g.wide;omega) h1 h2 (fun k=>?_) (fun k=>?_)]
 .unfold fdV;rw[yC];constructor
  .rintro⟨b,hb,hx⟩;exact⟨b,hb,vd_prog.1 ((eJ _).mem_iff.1 hx)⟩
  .rintro⟨b,hb,hx⟩;exact⟨b,hb,(eJ _).mem_iff.2 (vd_prog.2 hx)⟩
 .unfold jv;rw[lq];exact⟨fun h=>h.2,fun h=>⟨lt _ _ h1 h,h⟩⟩
 .unfold mi;rw[vR,lq];constructor
  .rintro⟨⟨_,a⟩,c⟩;exact⟨a,by simpa using c⟩
  .rintro⟨a,c⟩;exact⟨⟨lt _ _ h2 a,a⟩,by simpa using c⟩
def cn_ok{t:Tb}{c:Cn}(h:aU t c=0):(c.kind=1/\dz t.attrs.length c.fd=true)\/(c.kind=4/\cfB t.attrs.length c.cfd=true)\/(c.kind=5/\odB t.attrs.length c.od=true)\/(c.kind=6/\dnB t.attrs.length c.dn=true):=by
 unfold aU at h;split at h
 .rename_i h0;rw[tt,tt,decide_eq_true_eq,decide_eq_true_eq]at h0;split at h
  .cases h
  .split at h
   .rename_i h1;split at h
    .rename_i h2;exact .inl ⟨h1,h2⟩
    .cases h
   .split at h
    .rename_i h1;split at h
     .rename_i h2;exact .inr (.inl ⟨h1,h2⟩)
     .cases h
    .split at h
     .rename_i h1;split at h
      .rename_i h2;exact .inr (.inr (.inl ⟨h1,h2⟩))
      .cases h
     .split at h
      .rename_i h2;exact .inr (.inr (.inr ⟨ω,h2⟩))
      .cases h
 .cases h
def oL{n:Int}{d:Dn}(h:dnB n d=true):1<=d.vars/\d.vars<=3:=by
 unfold dnB at h;rw[tt,tt,decide_eq_true_eq,decide_eq_true_eq]at h;exact⟨h.1,h.2.1⟩
def cn_mem{t:Tb}(g:TbC t){c:Cn}(h:aU t c=0){x:List Int} : x∈cnV t c↔x∈cnR t c:=by
 unfold cnV cnR
 rcases cn_ok h with⟨h1,h2⟩ | ⟨h1,h2⟩ | ⟨h1,h2⟩ | ⟨h1,h2⟩
 .rw[if_pos h1,if_pos h1];exact fdV_mem g h2
 .rw[if_neg ω,if_pos h1,if_neg ω,if_pos h1]
 .rw[if_neg ω,if_neg ω,if_pos h1,if_neg ω,if_neg ω,if_pos h1]
 .rw[if_neg ω,if_neg ω,if_neg ω,if_neg ω,if_neg ω,if_neg ω,vd_ref,<-vd_prog];exact(eJ _).mem_iff
def cn_edge{t:Tb}(g:TbC t){c:Cn}(h:aU t c=0){x:List Int}(hx:x∈cnR t c):EdgL t.rows x:=by
 unfold cnR at hx
 rcases cn_ok h with⟨h1,h2⟩ | ⟨h1,h2⟩ | ⟨h1,h2⟩ | ⟨h1,h2⟩
 .rw[if_pos h1]at hx;exact rg g.ids hx
 .rw[if_neg ω,if_pos h1]at hx;exact cfdV_edge g.ids hx
 .rw[if_neg ω,if_neg ω,if_pos h1]at hx;exact rg g.ids hx
 .rw[if_neg ω,if_neg ω,if_neg ω]at hx;obtain⟨a,b⟩:=oL h2;exact(vd_ref.1 hx).edge a b
def rh{m k:Nat}(h:m<=8)(hk:k<=3):m^k<=512:=by
 have h1:m^k<=8^k:=Nat.pow_le_pow_left h k;have h2:8^k<=8^3:=uo ω hk;omega
def sq8{m:Nat}(h:m<=8):m*m<=64:=wS h h
theorem gf{a:Type}{f:a->List (List Int)}{k:Nat} : ∀l:List a,(∀x∈l,(f x).length<=k)->(l.flatMap f).length<=l.length*k
 | [],_=>by simp
 | x::l,h=>by
  rw[wN,uB,uX,yK];have h1:=h x (uN ..);have h2:=gf l (fun y b=>h y (uO _ b));omega
def cnV_len{t:Tb}(hr:t.rows.length<=8){c:Cn}(h:aU t c=0):(cnV t c).length<=4000:=by
 unfold cnV
 rcases cn_ok h with⟨h1,h2⟩ | ⟨h1,h2⟩ | ⟨h1,h2⟩ | ⟨h1,h2⟩
 .rw[if_pos h1]
  have e:=gf (f:=fun b=>cF (gx (gh (jv c.fd.l) b) t.rows 2 [] [])) (k:=64) (mi c.fd.l c.fd.r) (fun b _=>by
   rw[gR];have:=kB (d:=gh (jv c.fd.l) b) (R:=t.rows) 2 [] [];rw[Nat.pow_two]at this;have a:=sq8 hr;simp only[vm]at this
   omega)
  have g:(mi c.fd.l c.fd.r).length<=32:=ug (uU _ _) (gJ _ _);unfold fdV;omega
 .rw[if_neg ω,if_pos h1];have:=tJ c.cfd t.rows;have a:=sq8 hr;omega
 .rw[if_neg ω,if_neg ω,if_pos h1];have:=fg (P:=odP c.od) t.rows;have a:=sq8 hr;omega
 .rw[if_neg ω,if_neg ω,if_neg ω,gR];obtain⟨e,g⟩:=oL h2;have:=kB (d:=c.dn) (R:=t.rows) c.dn.vars.toNat [] [];have a:=rh (k:=c.dn.vars.toNat) hr ω;simp only[vm]at this;omega
def cnR_len{t:Tb}(hr:t.rows.length<=8){c:Cn}(h:aU t c=0):(cnR t c).length<=4000:=by
 unfold cnR;have f:=sq8 hr
 rcases cn_ok h with⟨h1,h2⟩ | ⟨h1,h2⟩ | ⟨h1,h2⟩ | ⟨h1,h2⟩
 .rw[if_pos h1];have:=fg (P:=fdP c.fd.l c.fd.r) t.rows;omega
 .rw[if_neg ω,if_pos h1];have:=tJ c.cfd t.rows;omega
 .rw[if_neg ω,if_neg ω,if_pos h1];have:=fg (P:=odP c.od) t.rows;omega
 .rw[if_neg ω,if_neg ω,if_neg ω];obtain⟨d,g⟩:=oL h2;have j:=oX t.rows c.dn.vars.toNat;have e:=rh (k:=c.dn.vars.toNat) hr ω
  have key:∀(l:List (List Rw)) (o:List (List Int)),(l.foldl (stR c.dn) o).length<=o.length+l.length:=fun l=>by
   induction l with
   | nil=>intro o;simp
   | cons a l b =>
    intro o;rw[vy,uX]
    have i:(stR c.dn o a).length<=o.length+1:=by
     unfold stR;split
     .exact putR_len _ _
     .omega
    have:=b (stR c.dn o a);omega
  have:=key (asR t.rows c.dn.vars.toNat) [];simp only[vm]at this;omega
def pk(all:List (List Int)):List (List Int):=eB (cF (all.filter fun l=>!smK all l))
def progE_lex{all:List (List Int)}(hA:∀d∈all,d.Pairwise (· < ·)/\d≠[]/\d.length<=3):LexSet (pk all) (MinM all):=by
 have hs:(cF (all.filter fun l=>!smK all l)).Pairwise fun x y=>ah y x=false:=(sortLi_sorted _).imp (fun {x y} h=>by
  rw[<-wC,<-jZ];exact h)
 have h:=compL_ok hs;refine⟨h.ord,fun e=>?_⟩;show e∈eB _↔_;rw[h.mem,(eJ _).mem_iff,vR,<-sm_min hA,uj]
def min_congr{a b:List (List Int)}(h:∀x,x∈a↔x∈b)(e:List Int):MinM a e↔MinM b e:=by
 unfold MinM;rw[h e];exact⟨fun⟨h1,h2⟩=>⟨h1,fun d c=>h2 d ((h d).2 c)⟩,fun⟨h1,h2⟩=>⟨h1,fun d c=>h2 d ((h d).1 c)⟩⟩
def allV(t:Tb)(cs:List Cn):List (List Int):=cs.flatMap (cnV t)
def cO(t:Tb)(cs:List Cn):List (List Int):=cs.flatMap (cnR t)
def all_mem{t:Tb}(g:TbC t){cs:List Cn}(h:∀c∈cs,aU t c=0){x:List Int} : x∈allV t cs↔x∈cO t cs:=by
 unfold allV cO;rw[yC,yC];exact⟨fun⟨c,h1,h2⟩=>⟨c,h1,(cn_mem g (h c h1)).1 h2⟩,fun⟨c,h1,h2⟩=>⟨c,h1,(cn_mem g (h c h1)).2 h2⟩⟩
def fM{t:Tb}(g:TbC t){cs:List Cn}(h:∀c∈cs,aU t c=0){x:List Int}(hx:x∈cO t cs):EdgL t.rows x:=by
 obtain⟨c,h1,h2⟩:=List.mem_flatMap.1 hx;exact cn_edge g (h c h1) h2
def sk{t:Tb}(g:TbC t){cs:List Cn}(h:∀c∈cs,aU t c=0):pk (allV t cs)=bI (cO t cs):=by
 have hm:∀x,x∈allV t cs↔x∈cO t cs:=fun x=>all_mem g h
 have b:∀d∈cO t cs,EdgL t.rows d:=fun d a=>fM g h a
 exact(progE_lex fun d a=>⟨(b d ((hm d).1 a)).1,(b d ((hm d).1 a)).2.1,(b d ((hm d).1 a)).2.2.1⟩).eq (lY fun e he=>(b e he).1) (min_congr hm)
def dG(t:Tb):List Cn->Int
 | []=>0
 | c::cs=>if aU t c=0 then dG t cs else aU t c
theorem lj{t:Tb} : ∀{cs:List Cn},dG t cs=0->∀c∈cs,aU t c=0
 | [],_,c,a=>by cases a
 | c::cs,h,c',a=>by
  rw[dG]at h;split at h
  .rename_i h1
   rcases List.mem_cons.1 a with rfl | a
   .exact h1
   .exact lj h c' a
  .rename_i h1;exact absurd h h1
def aX(t:Tb)(cs:List Cn):Int:=if validT t=0 then(if 200<t.rows.length then 3 else dG t cs) else validT t
structure Snt where
 lv:Int
 lc:Int
 op:Int
 rv:Int
 rc:Int
structure Rul where
 k:Int
 fd:Fd
 cl:Int
 cr:Int
 cs:List Int
 xs:List Int
 ys:List Int
 nv:Int
 sn:List Snt
def encSnt(s:Snt):V:=.agg [.int .u8 s.lv,.int .u8 s.lc,.int .u8 s.op,.int .u8 s.rv,.int .u8 s.rc]
def encRul(r:Rul):V:=.agg [.int .u8 r.k,.int .u8 (r.fd.l:Int),.int .u8 (r.fd.r:Int),.int .u8 r.cl,.int .u8 r.cr,LU r.cs,LU r.xs,LU r.ys,.int .u8 r.nv,.lst 5 false (r.sn.map encSnt)]
@[simp] theorem encSnt_pure (s:Snt):AM.Pure (encSnt s):=by simp[encSnt]
@[simp] theorem encRul_pure (s:Rul):AM.Pure (encRul s):=by simp[encRul,LU,encU]
@[simp] theorem encRul_oneV (s:Rul):cC (encRul s)=true:=by simp[encRul,cC,LU,V.one]
structure SntOk (s:Snt):Prop where
 lv:0<=s.lv/\s.lv<256
 lc:0<=s.lc/\s.lc<256
 op:0<=s.op/\s.op<256
 rv:0<=s.rv/\s.rv<256
 rc:0<=s.rc/\s.rc<256
structure RulOk (r:Rul):Prop where
 k:0<=r.k/\r.k<256
 fd:r.fd.l<256/\r.fd.r<256
 cl:0<=r.cl/\r.cl<256
 cr:0<=r.cr/\r.cr<256
 cs:r.cs.length<=9223372036854775807
 csv:∀c∈r.cs,0<=c/\c<256
 xs:r.xs.length<=9223372036854775807
 xsv:∀c∈r.xs,0<=c/\c<256
 ys:r.ys.length<=9223372036854775807
 ysv:∀c∈r.ys,0<=c/\c<256
 nv:0<=r.nv/\r.nv<256
 sn:r.sn.length<=1048576
 snv:∀s∈r.sn,SntOk s
structure RcpOk (x:Rcp):Prop where
 a:0<=x.a/\x.a<256
 gap:0<=x.gap
 rows:x.rows.length<=6
 len:∀r∈x.rows,r.length<=9223372036854775807
end
end Go.Proofs.YtnaokiodhoadjaaGreatDoor
section
namespace Go.Proofs.YtnaokiodhoadjaaGreatDoor
open Go Go.AM Go.Proofs.Tryz
end Go.Proofs.YtnaokiodhoadjaaGreatDoor
end
namespace Go.Proofs.YtnaokiodhoadjaaGreatDoor
section
open Go Go.AM Go.Proofs.Tryz
structure Cr where
 id:Int
 attr:Int
def Cr.eq_iff{a b:Cr} : a=b↔a.id=b.id/\a.attr=b.attr:=by
 cases a;cases b;simp
def cLt(a b:Cr):Prop:=a.id<b.id\/(a.id=b.id/\a.attr<b.attr)
def fE(a:Cr):¬cLt a a:=by unfold cLt;omega
def ew{a b c:Cr}(h:cLt a b)(g:cLt b c):cLt a c:=by unfold cLt at *;omega
def cLt_tri(a b:Cr):cLt a b\/a=b\/cLt b a:=by
 rw[Cr.eq_iff];unfold cLt;omega
def cP(a b:Cr):Int:=if bG a.id b.id=0 then bG a.attr b.attr else bG a.id b.id
def cmpI_lt(x y:Int):bG x y<0↔x<y:=by
 unfold bG;split
 .simp;omega
 .split<;>simp<;>omega
def kr(x y:Int):bG x y=0↔x=y:=by
 unfold bG;split
 .simp;omega
 .split<;>simp<;>omega
def ft(a b:Cr):cP a b<0↔cLt a b:=by
 unfold cP cLt;have h1:=kr a.id b.id;split
 .rename_i h;rw[cmpI_lt];have:=h1.1 h;omega
 .rename_i h;rw[cmpI_lt]
  have:¬a.id=b.id:=fun e=>h (h1.2 e)
  omega
def jc(a b:Cr):cP a b=0↔a=b:=by
 unfold cP;rw[Cr.eq_iff];have h1:=kr a.id b.id;split
 .rename_i h;rw[kr];exact⟨fun h2=>⟨h1.1 h,h2⟩,fun h2=>h2.2⟩
 .rename_i h;exact⟨fun h2=>absurd h2 h,fun h2=>absurd (h1.2 h2.1) h⟩
def aS(l:List Cr):Prop:=l.Pairwise cLt
def en{l:List Cr}(h:aS l){i j:Nat}(hi:i<l.length)(b:j<l.length)(a:i<j):cLt l[i] l[j]:=List.pairwise_iff_getElem.1 h i j hi b a
def cAt(l:List Cr)(i:Nat):Cr:=l.getD i ⟨0,0⟩
def bsC(l:List Cr)(x:Cr)(lo hi:Nat):Nat :=
 if lo<hi then(if cP (cAt l ((lo+hi) / 2)) x<0 then bsC l x ((lo+hi) / 2+1) hi else bsC l x lo ((lo+hi) / 2)) else lo
termination_by hi-lo
def jd{l:List Cr}{i:Nat}(h:i<l.length):cAt l i=l[i]:=by simp[cAt,h]
def bsC_ok{l:List Cr}(hs:aS l)(x:Cr)(lo hi:Nat)(f:lo<=hi)(d:hi<=l.length)(h1:∀j (h:j<l.length),j<lo->cLt l[j] x)(h2:∀j (h:j<l.length),hi<=j->¬cLt l[j] x):
  (∀j (h:j<l.length),j<bsC l x lo hi->cLt l[j] x)/\∀j (h:j<l.length),bsC l x lo hi<=j->¬cLt l[j] x:=by
 fun_induction bsC l x lo hi with
 | case1 lo hi h0 hq c =>
  have hm:(lo+hi) / 2<l.length:=by omega
  rw[jd hm,ft]at hq;refine c ω d (fun j h b=>?_) h2
  rcases uP j ((lo+hi) / 2) with a | a
  .exact ew (en hs h hm a) hq
  .have:j=(lo+hi) / 2:=by omega
   subst this;exact hq
 | case2 lo hi h0 hq c =>
  have hm:(lo+hi) / 2<l.length:=by omega
  rw[jd hm,ft]at hq;refine c ω ω h1 (fun j h b e=>?_)
  rcases uP ((lo+hi) / 2) j with a | a
  .exact hq (ew (en hs hm h a) e)
  .have:j=(lo+hi) / 2:=by omega
   subst this;exact hq e
 | case3 lo hi h0=>exact⟨fun j h b=>h1 j h b,fun j h b=>h2 j h ω⟩
def bsC_mem{l:List Cr}(hs:aS l)(x:Cr):(∃h:bsC l x 0 l.length<l.length,cP l[bsC l x 0 l.length] x=0)↔x∈l:=by
 obtain⟨h1,h2⟩:=bsC_ok hs x 0 l.length ω ω (fun j h b=>absurd b ω) (fun j h b=>absurd h ω);constructor
 .rintro⟨h,c⟩;rw[jc]at c;exact c▸ti h
 .intro h;obtain⟨j,b,rfl⟩:=List.mem_iff_getElem.1 h
  have a1:bsC l l[j] 0 l.length<=j:=by
   rcases uP j (bsC l l[j] 0 l.length) with a | a
   .exact absurd (h1 j b a) (fE _)
   .exact a
  have d:j<=bsC l l[j] 0 l.length:=by
   rcases uP (bsC l l[j] 0 l.length) j with a | a
   .have hb:bsC l l[j] 0 l.length<l.length:=by omega
    exact absurd (en hs hb b a) (h2 _ hb (uA _))
   .exact a
  have e:bsC l l[j] 0 l.length=j:=by omega
  exact⟨ω,by rw[jc];congr 1⟩
def ab(c:Cr):V:=.agg [.int .i64 c.id,.int .i64 c.attr]
@[simp] theorem encCr_pure (c:Cr):AM.Pure (ab c):=by simp[ab]
@[simp] theorem encCr_oneV (c:Cr):cC (ab c)=true:=rfl
def LC(f:Bool)(l:List Cr):V:=.lst 2 f (l.map ab)
@[simp] theorem LC_pure (f:Bool) (l:List Cr):AM.Pure (LC f l):=by simp[LC]
def pX(a b:Cr):aK prog 69 [ab a,ab b] fun r=>r = .int .i64 (cP a b):=by
 have e:=cmp64 a.id b.id;have d:=cmpInt a.attr b.attr;have c:=orInt [bG a.id b.id,bG a.attr b.attr] true ζ
 have he:orI [bG a.id b.id,bG a.attr b.attr]=cP a b:=by
  unfold cP;simp only[orI];split
  .split
   .rename_i h;exact h.symm
   .rfl
  .rfl
 rw[he]at c;simp only[L1,vW,wP,aG]at c;refine sPx func69 ?_;simp -dsimp[f69,tg,ab];refine sTx ?_;refine cQx e ?_;simp -dsimp;refine cQx d ?_;simp -dsimp;refine cQx c ?_;simp -dsimp
section
abbrev Dm:=Vl ⊕ Nat
structure Prob where
 m:Nat
 n:Nat
 K:Nat->Option Vl
 fds:List Fd
def Agr(q:Prob)(σ:Nat->Dm)(i k s:Nat):Prop:=∀a,a<q.n->s.testBit a=true->σ (i*q.n+a)=σ (k*q.n+a)
structure Sol (q:Prob) (σ:Nat->Dm):Prop where
 fix:∀x v,x<q.m*q.n->q.K x=some v->σ x = .inl v
 dep:∀d∈q.fds,∀i k,i<q.m->k<i->Agr q σ i k d.l->Agr q σ i k d.r
def Okq(q:Prob):Prop:=∃σ,Sol q σ
def bc{m n i a:Nat}(hi:i<m)(ha:a<n):i*n+a<m*n:=by
 have:(i+1)*n<=m*n:=uI n hi;rw[uR]at this;omega
structure Frt (q:Prob) (P:List Nat) (r h:Nat->Nat):Prop where
 len:P.length=q.m*q.n
 lt:∀x,x<q.m*q.n->r x<q.m*q.n
 root:∀x,x<q.m*q.n->P.getD (r x) 0=r x
 self:∀x,x<q.m*q.n->P.getD x 0=x->r x=x
 step:∀x,x<q.m*q.n->P.getD x 0≠x->P.getD x 0<q.m*q.n/\r (P.getD x 0)=r x/\h (P.getD x 0)<h x
 known:∀x,x<q.m*q.n->q.K x≠none->r x=x
 sem:∀σ,Sol q σ->∀x,x<q.m*q.n->σ x=σ (r x)
def eqv(q:Prob)(r:Nat->Nat)(x y:Nat):Prop:=r x=r y\/∃v,q.K (r x)=some v/\q.K (r y)=some v
def eM(q:Prob)(r:Nat->Nat)(x:Nat):Dm:=match q.K (r x) with
 | some v=>.inl v
 | none=>.inr (r x)
def eqv_iff(q:Prob)(r:Nat->Nat)(x y:Nat):eM q r x=eM q r y↔eqv q r x y:=by
 unfold eM eqv
 cases h1:q.K (r x) with
 | some v =>
  cases h2:q.K (r y) with
  | some w =>
   simp only[Sum.inl.injEq,Option.some.injEq];constructor
   .rintro rfl;exact .inr ⟨v,rfl,rfl⟩
   .rintro(h | ⟨u,a,b⟩)
    .rw[h,h2]at h1;exact(Option.some.inj h1).symm
    .exact a.trans b.symm
  | none =>
   simp only[reduceCtorEq,false_iff];rintro(h | ⟨u,a,b⟩)
   .rw[h,h2]at h1;cases h1
   .cases b
 | none =>
  cases h2:q.K (r y) with
  | some w =>
   simp only[reduceCtorEq,false_iff];rintro(h | ⟨u,a,b⟩)
   .rw[h,h2]at h1;cases h1
   .cases a
  | none =>
   simp only[Sum.inr.injEq];constructor
   .exact .inl
   .rintro(h | ⟨u,a,b⟩)
    .exact h
    .cases a
section
variable {q:Prob} {P:List Nat} {r h:Nat->Nat}
def Frt.eqv_sem(f:Frt q P r h){σ:Nat->Dm}(hs:Sol q σ){x y:Nat}(hx:x<q.m*q.n)(a:y<q.m*q.n)(he:eqv q r x y):σ x=σ y:=by
 rw[f.sem σ hs x hx,f.sem σ hs y a]
 rcases he with he | ⟨v,h1,h2⟩
 .rw[he]
 .rw[hs.fix _ v (f.lt x hx) h1,hs.fix _ v (f.lt y a) h2]
def eg(q:Prob)(r:Nat->Nat):Prop:=∀d∈q.fds,∀i k,i<q.m->k<i->(∀a,a<q.n->d.l.testBit a=true->eqv q r (i*q.n+a) (k*q.n+a))->∀a,a<q.n->d.r.testBit a=true->eqv q r (i*q.n+a) (k*q.n+a)
def Frt.sol(f:Frt q P r h)(j:eg q r):Sol q (eM q r):=by
 refine⟨fun x v hx hk=>?_,fun d g i k hi hk hl a ha hb=>?_⟩
 .unfold eM;rw[f.known x hx (by rw[hk];simp),hk]
 .exact(eqv_iff q r _ _).2 (j d g i k hi hk (fun b c e=>(eqv_iff q r _ _).1 (hl b c e)) a ha hb)
def frt_init(q:Prob):Frt q (tr (q.m*q.n)) (fun x=>x) (fun _=>0):=by
 have b:∀x,x<q.m*q.n->(tr (q.m*q.n)).getD x 0=x:=fun x hx=>by simp[hx]
 refine⟨ζ,fun x hx=>hx,fun x hx=>b x hx,fun x hx _=>rfl,fun x hx a=>absurd (b x hx) a,fun x hx _=>rfl,fun σ hs x hx=>rfl⟩
def iq(P:List Nat)(k v x:Nat)(hk:k<P.length):(P.set k v).getD x 0=if x=k then v else P.getD x 0:=by
 by_cases hx:x=k
 .subst hx;simp[hk]
 .rw[if_neg hx];simp only[List.getD_eq_getElem?_getD];rw[uH (Ne.symm hx)]
def Frt.join(f:Frt q P r h){i k:Nat}(hi:i<q.m*q.n)(hk:k<q.m*q.n)(d:r i=i)(c:r k=k)(b:i≠k)(p:q.K k=none)(hs:∀σ,Sol q σ->σ i=σ k):
  Frt q (P.set k i) (fun x=>if r x=k then i else r x) (fun x=>if r x=k then h x+h i+1 else h x):=by
 have e:k<P.length:=by rw[f.len];exact hk
 have s:P.getD k 0=k:=by have:=f.root k hk;rwa [c]at this
 have l:P.getD i 0=i:=by have:=f.root i hi;rwa [d]at this
 refine⟨by rw[vb];exact f.len,fun x hx=>?_,fun x hx=>?_,fun x hx hp=>?_,fun x hx hp=>?_,fun x hx j=>?_,fun σ g x hx=>?_⟩
 .split
  .exact hi
  .exact f.lt x hx
 .rw[iq _ _ _ _ e];split
  .first | exact l | (rw[if_neg b];exact l)
  .rename_i h1
   first | exact f.root x hx | (rw[if_neg h1];exact f.root x hx)
 .rw[iq _ _ _ _ e]at hp;by_cases a:x=k
  .rw[if_pos a]at hp;exact absurd (hp.trans a) b
  .rw[if_neg a]at hp;have:=f.self x hx hp;rw[this,if_neg a]
 .rw[iq _ _ _ _ e]at hp ⊢;by_cases a:x=k
  .subst a;rw[if_pos rfl]at hp ⊢;refine⟨hi,?_,?_⟩
   .rw[d,c,if_neg b,if_pos rfl]
   .rw[d,c,if_neg b,if_pos rfl];omega
  .rw[if_neg a]at hp ⊢;obtain⟨h1,h2,o⟩:=f.step x hx hp;refine⟨h1,by rw[h2],?_⟩;rw[h2];split
   .omega
   .exact o
 .have:=f.known x hx j;rw[this];by_cases a:x=k
  .subst a;exact absurd p j
  .rw[if_neg a]
 .rw[f.sem σ g x hx];split
  .rename_i h1;rw[h1];exact(hs σ g).symm
  .rfl
def oS(P:List Nat):Nat:=((tr P.length).filter fun x=>P.getD x 0 == x).length
theorem filter_le{p d:Nat->Bool} : ∀{l:List Nat},(∀x∈l,d x=true->p x=true)->(l.filter d).length<=(l.filter p).length
 | [],_=>uA _
 | a::l,b=>by
  have e:=filter_le (l:=l) (fun x hx=>b x (uO _ hx));have ha:=b a uN;simp only[vh]
  cases c:d a with
  | false=>cases hp:p a<;>simp<;>omega
  | true=>rw[ha c];simp;omega
theorem pN{p d:Nat->Bool}{k:Nat}(h1:p k=true)(h2:d k=false):∀{l:List Nat},(∀x∈l,d x=true->p x=true)->k∈l->(l.filter d).length<(l.filter p).length
 | [],_,hk=>by cases hk
 | a::l,c,hk=>by
  have b:∀x∈l,d x=true->p x=true:=fun x hx=>c x (uO _ hx)
  have ha:=c a uN;have hq:=filter_le b;simp only[vh]
  rcases List.mem_cons.1 hk with hk | hk
  .rw[<-hk,h1,h2];simp;omega
  .have f:=pN h1 h2 b hk
   cases e:d a with
   | false=>cases hp:p a<;>simp<;>omega
   | true=>rw[ha e];simp;omega
def cntR_join{P:List Nat}{i k:Nat}(hk:k<P.length)(c:P.getD k 0=k)(b:i≠k):oS (P.set k i)<oS P:=by
 unfold oS;rw[vb];refine pN (k:=k) (by simpa using c) ?_ (fun x _ hx=>?_) (by simpa using hk)
 rotate_left
 .rw[iq _ _ _ _ hk]at hx;by_cases a:x=k
  .rw[if_pos a,beq_iff_eq]at hx;exact absurd (hx.trans a) b
  .rwa [if_neg a]at hx
 .rw[iq _ _ _ _ hk,if_pos rfl,beq_eq_false_iff_ne];exact b
end
end
section
def app(τ:Nat->Dm):Dm->Dm
 | .inl v=>.inl v
 | .inr s=>τ s
structure Ent (q:Prob) (e:Nat->Dm):Prop where
 fix:∀x v,x<q.m*q.n->q.K x=some v->e x = .inl v
 sem:∀σ,Sol q σ->∃τ:Nat->Dm,∀x,x<q.m*q.n->σ x=app τ (e x)
def rF(q:Prob)(e:Nat->Dm):Prop:=∀d∈q.fds,∀i k,i<q.m->k<i->Agr q e i k d.l->Agr q e i k d.r
def Ent.sol{q:Prob}{e:Nat->Dm}(h:Ent q e)(a:rF q e):Sol q e:=⟨h.fix,a⟩
open Classical in
noncomputable def repE(e:Nat->Dm)(s:Nat)(y:Dm)(x:Nat):Dm:=if e x = .inr s then y else e x
def Ent.rep{q:Prob}{e:Nat->Dm}(h:Ent q e){x0 y0 s:Nat}(hx:x0<q.m*q.n)(c:y0<q.m*q.n)(he:e x0 = .inr s)(hs:∀σ,Sol q σ->σ x0=σ y0):Ent q (repE e s (e y0)):=by
 refine⟨fun x v a hk=>?_,fun σ b=>?_⟩
 .unfold repE;rw[h.fix x v a hk,if_neg ζ]
 .obtain⟨τ,ht⟩:=h.sem σ b;refine⟨τ,fun x a=>?_⟩;unfold repE;split
  .rename_i h1;have h2:=hs σ b;rw[ht x0 hx,ht y0 c,he]at h2;rw[ht x a,h1,h2]
  .exact ht x a
def Ent.clash{q:Prob}{e:Nat->Dm}(h:Ent q e){x y:Nat}{v w:Vl}(hx:x<q.m*q.n)(c:y<q.m*q.n)(h1:e x = .inl v)(h2:e y = .inl w)(b:v≠w)(hs:∀σ,Sol q σ->σ x=σ y):¬Okq q:=by
 rintro⟨σ,a⟩;obtain⟨τ,ht⟩:=h.sem σ a;have:=hs σ a;rw[ht x hx,ht y c,h1,h2]at this;exact b (Sum.inl.inj this)
open Classical in
noncomputable def hasSym(N:Nat)(e:Nat->Dm)(s:Nat):Bool:=decide (∃x,x<N/\e x = .inr s)
noncomputable def cntS(N S:Nat)(e:Nat->Dm):Nat:=((tr S).filter (hasSym N e)).length
open Classical in
def cntS_rep{N S s y0:Nat}{e:Nat->Dm}{x0:Nat}(hx:x0<N)(c:y0<N)(he:e x0 = .inr s)(b:e y0≠.inr s)(hs:s<S):cntS N S (repE e s (e y0))<cntS N S e:=by
 unfold cntS;refine pN (k:=s) ?_ ?_ (fun s' _ h=>?_) (by simpa using hs)
 rotate_left 2
 .unfold hasSym at h ⊢;obtain⟨x,a,h1⟩:=of_decide_eq_true h;unfold repE at h1;refine decide_eq_true ?_;split at h1
  .exact⟨y0,c,h1⟩
  .exact⟨x,a,h1⟩
 .exact decide_eq_true ⟨x0,hx,he⟩
 .refine decide_eq_false ?_;rintro⟨x,a,h1⟩;unfold repE at h1;split at h1
  .exact b h1
  .rename_i h2;exact h2 h1
def ent_init{q:Prob}{e:Nat->Dm}(hf:∀x v,x<q.m*q.n->q.K x=some v->e x = .inl v)(ho:∀x,x<q.m*q.n->q.K x=none->∃s,e x = .inr s)(hi:∀x y s,x<q.m*q.n->y<q.m*q.n->e x = .inr s->e y = .inr s->x=y):Ent q e:=by
 refine⟨hf,fun σ b=>?_⟩;refine⟨fun s=>open Classical in if h:∃x,x<q.m*q.n/\e x = .inr s then σ h.choose else .inr 0,fun x hx=>?_⟩
 cases hk:q.K x with
 | some v=>rw[hf x v hx hk,b.fix x v hx hk];rfl
 | none =>
  obtain⟨s,hs⟩:=ho x hx hk;rw[hs];have a:∃x,x<q.m*q.n/\e x = .inr s:=⟨x,hx,hs⟩;simp only[app,dif_pos a];have:=a.choose_spec;rw[hi x a.choose s hx this.1 hs this.2]
end
section
structure IsNxt (u:Int->Bool) (n m:Int):Prop where
 gt:n<m
 free:u m=false
 all:∀k,n<k->k<m->u k=true
def IsNxt.uniq{u:Int->Bool}{n a b:Int}(h:IsNxt u n a)(g:IsNxt u n b):a=b:=by
 rcases Int.lt_trichotomy a b with h1 | h1 | h1
 .have:=g.all a h.gt h1;rw[h.free]at this;cases this
 .exact h1
 .have:=h.all b g.gt h1;rw[g.free]at this;cases this
open Classical in
noncomputable def nxt(u:Int->Bool)(n:Int):Int:=if h:∃m,IsNxt u n m then h.choose else n+1
def nxt_eq{u:Int->Bool}{n m:Int}(h:IsNxt u n m):nxt u n=m:=by
 unfold nxt;have a:∃m,IsNxt u n m:=⟨m,h⟩;rw[dif_pos a];exact a.choose_spec.uniq h
noncomputable def kR(u:Int->Bool):Nat->Int
 | 0=>0
 | k+1=>nxt u (kR u k)
open Classical in
noncomputable def fp(c:Nat->Dm)(x:Nat):Nat:=((tr (x+1)).find? fun y=>decide (c y=c x)).getD x
open Classical in
noncomputable def dw(c:Nat->Dm)(y:Nat):Nat:=((tr y).filter fun z=>decide ((∃s,c z = .inr s)/\fp c z=z)).length
noncomputable def qN(u:Int->Bool)(c:Nat->Dm)(x:Nat):Vl:=match c x with
 | .inl v=>v
 | .inr _=>⟨3,kR u (dw c (fp c x)+1),tp⟩
def fp_le(c:Nat->Dm)(x:Nat):fp c x<=x:=by
 unfold fp
 cases h:(tr (x+1)).find? fun y=>open Classical in decide (c y=c x) with
 | none=>simp
 | some y =>
  have:=List.mem_of_find?_eq_some h;simp at this;simp;omega
def fp_same(c:Nat->Dm)(x:Nat):c (fp c x)=c x:=by
 unfold fp
 cases h:(tr (x+1)).find? fun y=>open Classical in decide (c y=c x) with
 | none=>simp
 | some y =>
  have:=List.find?_some h;simpa using this
section
variable {c c':Nat->Dm} {N:Nat} (he:∀x y,x<N->y<N->(c x=c y↔c' x=c' y)) (hv:∀x v,x<N->(c x = .inl v↔c' x = .inl v))
include he in
def fp_eq{x:Nat}(hx:x<N):fp c x=fp c' x:=by
 unfold fp;congr 1
 refine find_congr fun y b=>?_
 have b:y<x+1:=by simpa using b
 exact decide_eq_decide.2 (he y x ω hx)
where
 find_congr {l:List Nat} {p d:Nat->Bool} (h:∀y∈l,p y=d y):l.find? p=l.find? d:=by
  induction l with
  | nil=>rfl
  | cons a l e =>
   simp only[List.find?_cons,h a uN,e (fun y b=>h y (uO _ b))]
include hv in
def inr_eq{x:Nat}(hx:x<N):(∃s,c x = .inr s)↔∃s,c' x = .inr s:=by
 constructor
 .rintro⟨s,hs⟩
  cases h:c' x with
  | inl v=>have:=(hv x v hx).2 h;rw[hs]at this;cases this
  | inr s'=>exact⟨s',rfl⟩
 .rintro⟨s,hs⟩
  cases h:c x with
  | inl v=>have:=(hv x v hx).1 h;rw[hs]at this;cases this
  | inr s'=>exact⟨s',rfl⟩
include he hv in
def rank_eq{y:Nat}(a:y<=N):dw c y=dw c' y:=by
 unfold dw;congr 1
 refine yA fun z hz=>?_
 have hz:z<y:=by simpa using hz
 refine decide_eq_decide.2 ?_;rw[inr_eq hv (show z<N by omega),fp_eq he (show z<N by omega)]
include he hv in
def out_eq(u:Int->Bool){x:Nat}(hx:x<N):qN u c x=qN u c' x:=by
 unfold qN
 cases h:c x with
 | inl v=>rw[(hv x v hx).1 h]
 | inr s =>
  obtain⟨s',b⟩:=(inr_eq hv hx).1 ⟨s,h⟩;rw[b];have hf:=fp_eq he hx;have a:=fp_le c x;simp only;rw[<-hf,rank_eq he hv (show fp c x<=N by omega)]
end
end
section
theorem cmpL_zero:∀(a b:List UInt8),Lib.compareBytes a b=0↔a=b
 | [],[]=>by simp[Lib.compareBytes]
 | [],_::_=>by simp[Lib.compareBytes]
 | _::_,[]=>by simp[Lib.compareBytes]
 | a::xs,b::bs=>by
  rw[Lib.compareBytes,List.cons.injEq];split
  .rename_i h;constructor
   .intro h2;cases h2
   .rintro⟨rfl,_⟩;exact absurd h (UInt8.lt_irrefl _)
  .split
   .rename_i h;constructor
    .intro h2;cases h2
    .rintro⟨rfl,_⟩;exact absurd h (UInt8.lt_irrefl _)
   .rename_i h1 h2;rw[cmpL_zero xs bs];constructor
    .intro h;exact⟨UInt8.le_antisymm (UInt8.not_lt.1 h2) (UInt8.not_lt.1 h1),h⟩
    .exact fun h=>h.2
def cmpS_zero5(a b:ByteArray):mt a b=0↔a=b:=by
 unfold mt;rw[cmpL_zero];constructor
 .intro h;cases a;cases b;simp only[ByteArray.mk.injEq];exact Array.ext' h
 .rintro rfl;rfl
def mr(a b:Vl):dt a b=0↔a=b:=by
 unfold dt;have h1:=kr a.k b.k;have h2:=kr a.n b.n;have e:=cmpS_zero5 a.s b.s
 have he:a=b↔a.k=b.k/\a.n=b.n/\a.s=b.s:=by cases a;cases b;simp
 rw[he];split
 .rename_i d;split
  .rename_i c;rw[e];exact⟨fun h=>⟨h1.1 d,h2.1 c,h⟩,fun h=>h.2.2⟩
  .rename_i c;exact⟨fun h=>absurd h c,fun h=>absurd (h2.2 h.2.1) c⟩
 .rename_i d;exact⟨fun h=>absurd h d,fun h=>absurd (h1.2 h.1) d⟩
def rwAt(t:Tb)(i:Nat):Rw:=t.rows.getD i ⟨0,[]⟩
def bZ(t:Tb)(x:Nat):Cr:=⟨(rwAt t (x / t.attrs.length)).id,((x % t.attrs.length:Nat):Int)⟩
def vAt5(vs:List Vl)(a:Nat):Vl:=vs.getD a ⟨0,0,tp⟩
def eG(t:Tb)(x:Nat):Vl:=vAt5 (rwAt t (x / t.attrs.length)).vals (x % t.attrs.length)
def rA{n i a:Nat}(h:a<n):(i*n+a) / n=i/\(i*n+a) % n=a:=by
 constructor
 .rw[wG,Nat.mul_add_div ω,yB h];rfl
 .rw[wG,xo,xN h]
def la(t:Tb){i a:Nat}(ha:a<t.attrs.length):bZ t (i*t.attrs.length+a)=⟨(rwAt t i).id,(a:Int)⟩:=by
 obtain⟨h1,h2⟩:=rA (i:=i) ha;unfold bZ;rw[h1,h2]
def qf(t:Tb){i a:Nat}(ha:a<t.attrs.length):eG t (i*t.attrs.length+a)=vAt5 (rwAt t i).vals a:=by
 obtain⟨h1,h2⟩:=rA (i:=i) ha;unfold eG;rw[h1,h2]
def cS{t:Tb}{i:Nat}(h:i<t.rows.length):rwAt t i=t.rows[i]:=by simp[rwAt,h]
def lB{vs:List Vl}{i:Nat}(h:i<vs.length):vAt5 vs i=vs[i]:=by simp[vAt5,h]
open Classical in
noncomputable def aQ(t:Tb)(fds:List Fd)(cells:List Cr):Prob:=⟨t.rows.length,t.attrs.length,fun x=>if bZ t x∈cells then none else some (eG t x),fds⟩
def nS{t:Tb}{fds:List Fd}{l:List Cr}{x:Nat}(h:bZ t x∈l):(aQ t fds l).K x=none:=by simp only[aQ,if_pos h]
def ij{t:Tb}{fds:List Fd}{l:List Cr}{x:Nat}(h:¬bZ t x∈l):(aQ t fds l).K x=some (eG t x):=by simp only[aQ,if_neg h]
open Classical in
noncomputable def okB(q:Prob):Bool:=decide (Okq q)
def nY{q:Prob} : okB q=true↔Okq q:=by unfold okB;simp
def okB_true{q:Prob}(h:Okq q):okB q=true:=nY.2 h
def okB_false{q:Prob}(h:¬Okq q):okB q=false:=by
 cases hb:okB q
 .rfl
 .exact absurd (nY.1 hb) h
def okq_mono{t:Tb}{fds:List Fd}{l a:List Cr}(h:∀c∈l,c∈a):Okq (aQ t fds l)->Okq (aQ t fds a):=by
 rintro⟨σ,hs⟩;refine⟨σ,fun x v hx hk=>hs.fix x v hx ?_,hs.dep⟩;unfold aQ at hk ⊢;simp only at hk ⊢;by_cases h1:bZ t x∈a
 .rw[if_pos h1]at hk;cases hk
 .rw[if_neg h1]at hk;rw[if_neg (fun h2=>h1 (h _ h2))];exact hk
def okq_congr{t:Tb}{fds:List Fd}{l a:List Cr}(h:∀x,x<t.rows.length*t.attrs.length->(bZ t x∈l↔bZ t x∈a)):Okq (aQ t fds l)↔Okq (aQ t fds a):=by
 have one:∀l a:List Cr,(∀x,x<t.rows.length*t.attrs.length->(bZ t x∈l↔bZ t x∈a))->Okq (aQ t fds l)->Okq (aQ t fds a):=by
  rintro l a h ⟨σ,hs⟩;refine⟨σ,fun x v hx hk=>hs.fix x v hx ?_,hs.dep⟩;unfold aQ at hk ⊢;simp only at hk ⊢;rw[<-hk];by_cases h1:bZ t x∈l
  .rw[if_pos h1,if_pos ((h x hx).1 h1)]
  .rw[if_neg h1,if_neg (fun h2=>h1 ((h x hx).2 h2))]
 exact⟨one l a h,one a l fun x hx=>(h x hx).symm⟩
def bR(t:Tb):List Cr:=(tr (t.rows.length*t.attrs.length)).map (bZ t)
open Classical in
noncomputable def cH(t:Tb)(l:List Cr):List Cr:=(bR t).filter fun c=>decide (c∉l)
def mZ{t:Tb}{x:Nat}(h:x<t.rows.length*t.attrs.length):bZ t x∈bR t:=List.mem_map.2 ⟨x,by simpa using h,rfl⟩
def cz{t:Tb}{l:List Cr}{c:Cr} : c∈cH t l↔c∈bR t/\c∉l:=by simp[cH]
def Nec(t:Tb)(fds:List Fd)(l:List Cr):Prop:=¬Okq (aQ t fds (cH t l))
open Classical in
noncomputable def necB(t:Tb)(fds:List Fd)(l:List Cr):Bool:=decide (Nec t fds l)
def necB_iff{t:Tb}{fds:List Fd}{l:List Cr} : necB t fds l=true↔Nec t fds l:=by unfold necB;simp
def necB_eq(t:Tb)(fds:List Fd)(l:List Cr):necB t fds l = !okB (aQ t fds (cH t l)):=by
 unfold necB Nec okB;simp
def nec_mono{t:Tb}{fds:List Fd}{l b:List Cr}(h:∀c∈l,c∈b)(hn:Nec t fds l):Nec t fds b:=fun ho=>hn (okq_mono (fun c a=>by
 rw[cz]at a ⊢
 exact⟨a.1,fun h2=>a.2 (h c h2)⟩) ho)
structure TbV (t:Tb):Prop where
 ok:TbOk t
 attrs:t.attrs.length<=16
 rows:t.rows.length<=1000
 names:iT t.attrs=true
 name:cJ t.name=true
 len:∀r∈t.rows,r.vals.length=t.attrs.length
 vals:∀r∈t.rows,∀v∈r.vals,bO v=true
 asc:t.rows.Pairwise fun a b=>a.id<b.id
theorem jJ{n:Nat} : ∀{rs:List Rw} {e:Int},dQ n e rs=0->(∀r∈rs,e<r.id)/\(∀r∈rs,r.vals.length=n)/\(∀r∈rs,∀v∈r.vals,bO v=true)/\rs.Pairwise fun a b=>a.id<b.id
 | [],_,_=>by simp
 | r::rs,e,h=>by
  rw[dQ]at h;split at h
  .cases h
  .rename_i h1;split at h
   .cases h
   .rename_i h2;split at h
    .rename_i g;obtain⟨a,b,c,d⟩:=jJ h;refine⟨?_,?_,?_,?_⟩
     .intro f hr
      rcases List.mem_cons.1 hr with rfl | hr
      .omega
      .have:=a f hr;omega
     .intro f hr
      rcases List.mem_cons.1 hr with rfl | hr
      .omega
      .exact b f hr
     .intro f hr
      rcases List.mem_cons.1 hr with rfl | hr
      .exact fun v hv=>(List.all_eq_true.1 g) v hv
      .exact c f hr
     .exact List.pairwise_cons.2 ⟨a,d⟩
    .cases h
def tbV_of{t:Tb}(h:TbOk t)(hv:validT t=0):TbV t:=by
 unfold validT at hv;split at hv
 .rename_i h1;split at hv
  .cases hv
  .rename_i h2;split at hv
   .rename_i e;obtain⟨a,b,c,d⟩:=jJ hv;exact⟨h,ω,ω,e,h1,b,c,d⟩
   .cases hv
 .cases hv
def TbV.ids{t:Tb}(h:TbV t){i k:Nat}(a:i<k)(hk:k<t.rows.length):(rwAt t i).id<(rwAt t k).id:=by
 rw[cS hk,cS (show i<t.rows.length by omega)];exact List.pairwise_iff_getElem.1 h.asc i k ω hk a
def TbV.cells_lt{t:Tb}(h:TbV t){x y:Nat}(b:x<y)(a:y<t.rows.length*t.attrs.length):cLt (bZ t x) (bZ t y):=by
 have hn:0<t.attrs.length:=by
  rcases wz t.attrs.length with h0 | h0
  .rw[h0]at a;omega
  .exact h0
 have c:=yF x t.attrs.length;have e:=yF y t.attrs.length;have g:=xU x hn;have d:=xU y hn;have f:x / t.attrs.length<=y / t.attrs.length:=Nat.div_le_div_right ω
 have hm:y / t.attrs.length<t.rows.length:=by rw[xZ hn];exact a
 rcases uP (x / t.attrs.length) (y / t.attrs.length) with h1 | h1
 .exact .inl (h.ids h1 hm)
 .have:x / t.attrs.length=y / t.attrs.length:=by omega
  unfold cLt bZ;refine .inr ⟨by rw[this],?_⟩;simp only;rw[this]at c;omega
def TbV.crAt_inj{t:Tb}(h:TbV t){x y:Nat}(hx:x<t.rows.length*t.attrs.length)(a:y<t.rows.length*t.attrs.length)(he:bZ t x=bZ t y):x=y:=by
 rcases ve x y with h1 | h1 | h1
 .exact absurd (he▸h.cells_lt h1 a) (fE _)
 .exact h1
 .exact absurd (he▸h.cells_lt h1 hx) (fE _)
def TbV.sorted{t:Tb}(h:TbV t):aS (bR t):=by
 unfold bR aS;rw[wD,xF];intro i j hi b a;simp only[xb]at hi b;rw[List.getElem_range,List.getElem_range];exact h.cells_lt a b
def TbV.sorted_others{t:Tb}(h:TbV t)(l:List Cr):aS (cH t l):=List.Pairwise.filter _ h.sorted
end
section
def encN(n:Nat):V:=.int .i64 (n:Int)
@[simp] theorem encN_pure (n:Nat):AM.Pure (encN n):=by simp[encN]
@[simp] theorem encN_oneV (n:Nat):cC (encN n)=true:=rfl
def fm:Option Vl->V
 | none=>.nilP
 | some v=>.pin [.int .i64 v.k,.int .i64 v.n,.str v.s] 0
@[simp] theorem encK_pure (o:Option Vl):AM.Pure (fm o):=by cases o<;>simp[fm]
@[simp] theorem encK_oneV (o:Option Vl):cC (fm o)=true:=by cases o<;>rfl
def knL(K:Nat->Option Vl)(N:Nat):List V:=(tr N).map fun x=>fm (K x)
def paL(P:List Nat):List V:=P.map encN
def ni(K:Nat->Option Vl)(N:Nat):(knL K N).length=N:=by simp[knL]
def paL_len(P:List Nat):(paL P).length=P.length:=by simp[paL]
def nj(K:Nat->Option Vl){N x:Nat}(h:x<(knL K N).length):(knL K N)[x]=fm (K x):=by simp[knL]
def paL_get{P:List Nat}{x:Nat}(h:x<(paL P).length):(paL P)[x] = .int .i64 (P.getD x 0:Nat):=by
 have h2:x<P.length:=by simpa[paL] using h
 simp[paL,encN,h2]
def paL_set(P:List Nat)(x v:Nat):(paL P).set x (.int .i64 (v:Int))=paL (P.set x v):=by
 unfold paL;rw[xJ];rfl
def paL_pure(P:List Nat):∀x∈paL P,AM.Pure x/\cC x=true:=by
 intro x hx;obtain⟨n,_,rfl⟩:=List.mem_map.1 hx;exact⟨encN_pure n,encN_oneV n⟩
def knL_pure(K:Nat->Option Vl)(N:Nat):∀x∈knL K N,AM.Pure x/\cC x=true:=by
 intro x hx;obtain⟨n,_,rfl⟩:=List.mem_map.1 hx;exact⟨encK_pure _,encK_oneV _⟩
def Ht(H:List B)(kp:Nat)(P:List Nat):List B:=H.set kp (.buf 3 1 (paL P) false)
structure HOk (H:List B) (k0 kp kq n N:Nat) (K:Nat->Option Vl):Prop where
 h0:H[k0]?=some (.cells [.int .i64 n,.buf kp 0 N N,.buf kq 0 N N])
 hp:kp<H.length
 hq:H[kq]?=some (.buf 174 1 (knL K N) false)
 n0:kp≠k0
 nq:kp≠kq
 rb:∀P,∀bl∈Ht H kp P,rbB H.length bl
def iV(H:List B)(kp:Nat)(P:List Nat):(Ht H kp P).length=H.length:=by simp[Ht]
section
variable {H:List B} {k0 kp kq n N:Nat} {K:Nat->Option Vl} (g:HOk H k0 kp kq n N K)
include g
def HOk.at0(P:List Nat):(Ht H kp P)[k0]?=some (.cells [.int .i64 n,.buf kp 0 N N,.buf kq 0 N N]):=by
 unfold Ht;rw[uH g.n0];exact g.h0
def HOk.atp(P:List Nat):(Ht H kp P)[kp]?=some (.buf 3 1 (paL P) false):=by
 unfold Ht;rw[uJ g.hp]
def HOk.atq(P:List Nat):(Ht H kp P)[kq]?=some (.buf 174 1 (knL K N) false):=by
 unfold Ht;rw[uH g.nq];exact g.hq
omit g in
def ht_set(P a:List Nat):(Ht H kp P).set kp (.buf 3 1 (paL a) false)=Ht H kp a:=by
 unfold Ht;rw[vq]
def HOk.rbs(P:List Nat):∀bl∈Ht H kp P,rbB (Ht H kp P).length bl:=by rw[iV];exact g.rb P
def HOk.lt0:k0<H.length:=aB g.h0
end
def rV{q:Prob}{P:List Nat}{r h:Nat->Nat}(f:Frt q P r h){H:List B}{k0 kp kq n N:Nat}(o:q.m*q.n=N)(g:HOk H k0 kp kq n N q.K)(E:N<=1000000)(x:Nat)(hx:x<N):
  ak prog 75 [.ptr k0 0,.int .i64 x] (Ht H kp P) fun D H'=>D = .int .i64 (r x)/\H'=Ht H kp P:=by
 have h0:=g.at0 P;have h1:=g.atp P;have t:=g.rbs P
 have l:k0<(Ht H kp P).length:=by rw[iV];exact g.lt0
 obtain⟨flen,u,d,b,a,i,z⟩:=f;simp only[o]at flen u d b a
 have e:(paL P).length=N:=by rw[paL_len,flen]
 refine aH tok func75 rfl rfl ?_;refine wx ?_;simp -dsimp[f75,tg];refine aI (W_loopM 21 0x1fffe2 zMx (σ:=Nat) (fun j=>j<N/\r j=r x) (fun j=>h j) (fun j=>[(1,.int .i64 j)]) (fun _=>Ht H kp P) x ⟨hx,rfl⟩ ζ rfl ζ ?_);rintro j ⟨k,s⟩ F Q v C
 have c:=fun h=>paL_get (P:=P) (x:=j) h
 by_cases he:P.getD j 0=j
 .have hs:=b j k he;rw[he]at c;refine wx ?_;simp -dsimp[h0,h1,c,e,k];apply C;simp -dsimp;omega
 .obtain⟨w,A,y⟩:=a j k he;obtain⟨p,hp⟩:=ξ (P.getD j 0);rw[<-hp]at c he w A y;refine wx ?_;simp -dsimp[h0,h1,c,e,k,(ω:¬((p:Int)=j))];refine v p _ _ ⟨w,by rw[A];exact s⟩ y ζ ⟨[],ζ⟩ (by simp[l]) t
end
section
open Classical in
noncomputable def eqvB(q:Prob)(r:Nat->Nat)(x y:Nat):Bool:=decide (eqv q r x y)
def kd{q:Prob}{r:Nat->Nat}{x y:Nat} : eqvB q r x y=true↔eqv q r x y:=by unfold eqvB;simp
def eqvB_same{q:Prob}{r:Nat->Nat}{x y:Nat}(h:r x=r y):eqvB q r x y=true:=kd.2 (.inl h)
def eqvB_vals{q:Prob}{r:Nat->Nat}{x y:Nat}{v w:Vl}(h:q.K (r x)=some v)(g:q.K (r y)=some w):eqvB q r x y=(dt v w == 0):=by
 rw[vH,kd,beq_iff_eq,mr];constructor
 .rintro(e | ⟨u,h1,h2⟩)
  .rw[e,g]at h;exact(Option.some.inj h).symm
  .rw[h]at h1;rw[g]at h2;exact(Option.some.inj h1).trans (Option.some.inj h2).symm
 .rintro rfl;exact .inr ⟨v,h,g⟩
def eqvB_none{q:Prob}{r:Nat->Nat}{x y:Nat}(a:r x≠r y)(h:q.K (r x)=none\/q.K (r y)=none):eqvB q r x y=false:=by
 cases hb:eqvB q r x y
 .rfl
 .rcases kd.1 hb with e | ⟨u,h1,h2⟩
  .exact absurd e a
  .rcases h with h | h
   .rw[h]at h1;cases h1
   .rw[h]at h2;cases h2
def same_u5{q:Prob}{P:List Nat}{r h:Nat->Nat}(f:Frt q P r h){H:List B}{k0 kp kq n N:Nat}(b:q.m*q.n=N)(g:HOk H k0 kp kq n N q.K)(s:N<=1000000)(x y:Nat)(hx:x<N)(u:y<N):
  ak prog 180 [.ptr k0 0,.int .i64 x,.int .i64 y] (Ht H kp P) fun a H'=>a = .bool (eqvB q r x y)/\H'=Ht H kp P:=by
 have h0:=g.at0 P;have h2:=g.atq P;have i:=ni q.K N;have k:=rV f b g s x hx;have o:=rV f b g s y u;have p:r x<N:=b▸f.lt x (b▸hx);have t:r y<N:=b▸f.lt y (b▸u)
 have j:=fun h=>nj q.K (N:=N) (x:=r x) h
 have l:=fun h=>nj q.K (N:=N) (x:=r y) h
 by_cases he:r x=r y
 .rw[eqvB_same he];refine aH tok func180 rfl rfl ?_;refine wx ?_;simp -dsimp[f180,tg];refine aM.mono (K:=fun a H'=>a = .int .i64 (r x)/\H'=Ht H kp P) k ?_;rintro _ _ ⟨rfl,rfl⟩;simp -dsimp;refine aM.mono (K:=fun a H'=>a = .int .i64 (r y)/\H'=Ht H kp P) o ?_;rintro _ _ ⟨rfl,rfl⟩;simp -dsimp[he];exact .inr (cG υ)
 .have d:¬((r x:Int)=r y):=by omega
  cases e:q.K (r x) with
  | none =>
   rw[e]at j;rw[eqvB_none he (.inl e)];refine aH tok func180 rfl rfl ?_;refine wx ?_;simp -dsimp[f180,tg];refine aM.mono (K:=fun a H'=>a = .int .i64 (r x)/\H'=Ht H kp P) k ?_;rintro _ _ ⟨rfl,rfl⟩;simp -dsimp;refine aM.mono (K:=fun a H'=>a = .int .i64 (r y)/\H'=Ht H kp P) o ?_;rintro _ _ ⟨rfl,rfl⟩;simp -dsimp[d,h0,h2,j,i,p,fm,fk];exact .inr (cG υ)
  | some v =>
   rw[e]at j
   cases c:q.K (r y) with
   | none =>
    rw[c]at l;rw[eqvB_none he (.inr c)];refine aH tok func180 rfl rfl ?_;refine wx ?_;simp -dsimp[f180,tg];refine aM.mono (K:=fun a H'=>a = .int .i64 (r x)/\H'=Ht H kp P) k ?_;rintro _ _ ⟨rfl,rfl⟩;simp -dsimp;refine aM.mono (K:=fun a H'=>a = .int .i64 (r y)/\H'=Ht H kp P) o ?_;rintro _ _ ⟨rfl,rfl⟩;simp -dsimp[d,h0,h2,j,l,i,p,t,fm,fk];exact .inr (cG υ)
   | some w =>
    rw[c]at l;rw[eqvB_vals e c];have z:=fZ v w;simp only[aP]at z;refine aH tok func180 rfl rfl ?_;refine wx ?_;simp -dsimp[f180,tg];refine aM.mono (K:=fun a H'=>a = .int .i64 (r x)/\H'=Ht H kp P) k ?_;rintro _ _ ⟨rfl,rfl⟩;simp -dsimp;refine aM.mono (K:=fun a H'=>a = .int .i64 (r y)/\H'=Ht H kp P) o ?_;rintro _ _ ⟨rfl,rfl⟩;simp -dsimp[d,h0,h2,j,l,i,p,t,fm,fk];refine sTx ?_;refine cQx z ?_;simp -dsimp[d]
end
def te(q:Prob)(P:List Nat)(r:Nat->Nat)(x y:Nat)(b:Bool)(a:List Nat):Prop :=
 (b=false/\¬Okq q)\/(b=true/\eqv q r x y/\a=P)\/(b=true/\oS a<oS P/\∃d c,Frt q a d c)
def join_vals{q:Prob}{P:List Nat}{r h:Nat->Nat}(f:Frt q P r h){x y:Nat}(hx:x<q.m*q.n)(b:y<q.m*q.n)(hs:∀σ,Sol q σ->σ x=σ y){v w:Vl}(h1:q.K (r x)=some v)(h2:q.K (r y)=some w):te q P r x y (dt v w == 0) P:=by
 by_cases he:v=w
 .refine .inr (.inl ⟨by rw[beq_iff_eq,mr];exact he,?_,rfl⟩);subst he;exact .inr ⟨v,h1,h2⟩
 .refine .inl ⟨by rw[beq_eq_false_iff_ne];exact fun h=>he ((mr v w).1 h),?_⟩;rintro⟨σ,a⟩;have e:=hs σ a;rw[f.sem σ a x hx,f.sem σ a y b,a.fix _ v (f.lt x hx) h1,a.fix _ w (f.lt y b) h2]at e;exact he (Sum.inl.inj e)
def join_set{q:Prob}{P:List Nat}{r h:Nat->Nat}(f:Frt q P r h){x y i k:Nat}(hx:x<q.m*q.n)(g:y<q.m*q.n)(hs:∀σ,Sol q σ->σ x=σ y)(a:(i=r x/\k=r y)\/(i=r y/\k=r x))(p:q.K k=none):te q P r x y true (P.set k i):=by
 have hi:i<q.m*q.n:=by rcases a with⟨rfl,_⟩ | ⟨rfl,_⟩;exact f.lt x hx;exact f.lt y g
 have hk:k<q.m*q.n:=by rcases a with⟨_,rfl⟩ | ⟨_,rfl⟩;exact f.lt y g;exact f.lt x hx
 have l:∀z,z<q.m*q.n->r (r z)=r z:=fun z hz=>f.self (r z) (f.lt z hz) (f.root z hz)
 have o:r i=i:=by rcases a with⟨rfl,_⟩ | ⟨rfl,_⟩;exact l x hx;exact l y g
 have d:r k=k:=by rcases a with⟨_,rfl⟩ | ⟨_,rfl⟩;exact l y g;exact l x hx
 have j:P.getD k 0=k:=by have:=f.root k hk;rwa [d]at this
 have c:k<P.length:=by rw[f.len];exact hk
 by_cases he:i=k
 .refine .inr (.inl ⟨rfl,?_,?_⟩)
  .rcases a with⟨h1,h2⟩ | ⟨h1,h2⟩
   .exact .inl ω
   .exact .inl ω
  .subst he
   have:P[i]=i:=by simpa[c] using j
   conv=>rhs;rw[<-xE c]
   rw[this]
 .refine .inr (.inr ⟨rfl,cntR_join c j he,_,_,f.join hi hk o d he p fun σ b=>?_⟩);have e:=hs σ b;rw[f.sem σ b x hx,f.sem σ b y g]at e
  rcases a with⟨rfl,rfl⟩ | ⟨rfl,rfl⟩
  .exact e
  .exact e.symm
def sD(q:Prob)(r:Nat->Nat)(x y:Nat):Bool:=match q.K (r x),q.K (r y) with
 | some v,some w=>dt v w == 0
 | _,_=>true
def pu(q:Prob)(P:List Nat)(r:Nat->Nat)(x y:Nat):List Nat:=match q.K (r x),q.K (r y) with
 | some _,some _=>P
 | some _,none=>P.set (r y) (r x)
 | none,_=>P.set (r x) (r y)
def join_post{q:Prob}{P:List Nat}{r h:Nat->Nat}(f:Frt q P r h){x y:Nat}(hx:x<q.m*q.n)(c:y<q.m*q.n)(hs:∀σ,Sol q σ->σ x=σ y):te q P r x y (sD q r x y) (pu q P r x y):=by
 unfold sD pu
 cases b:q.K (r x) with
 | none=>exact join_set f hx c hs (.inr ⟨rfl,rfl⟩) b
 | some v =>
  cases a:q.K (r y) with
  | none=>exact join_set f hx c hs (.inl ⟨rfl,rfl⟩) a
  | some w=>exact join_vals f hx c hs b a
def join_u{q:Prob}{P:List Nat}{r h:Nat->Nat}(f:Frt q P r h){H:List B}{k0 kp kq n N:Nat}(a:q.m*q.n=N)(g:HOk H k0 kp kq n N q.K)(t:N<=1000000)(x y:Nat)(hx:x<N)(z:y<N):
  ak prog 118 [.ptr k0 0,.int .i64 x,.int .i64 y] (Ht H kp P) fun b H'=>b = .bool (sD q r x y)/\H'=Ht H kp (pu q P r x y):=by
 have h0:=g.at0 P;have h1:=g.atp P;have h2:=g.atq P;have c:=ht_set (H:=H) (kp:=kp) P;have d:=ni q.K N;have o:=rV f a g t x hx;have s:=rV f a g t y z;have p:r x<N:=a▸f.lt x (a▸hx);have A:r y<N:=a▸f.lt y (a▸z)
 have j:=fun h=>nj q.K (N:=N) (x:=r x) h
 have l:=fun h=>nj q.K (N:=N) (x:=r y) h
 have e:(paL P).length=N:=by rw[paL_len,f.len,a]
 have D:=fun h=>paL_get (P:=P) (x:=r x) h
 have E:=fun h=>paL_get (P:=P) (x:=r y) h
 have C:=paL_set P (r x) (r y);have F:=paL_set P (r y) (r x);unfold sD pu
 cases i:q.K (r x) with
 | none =>
  rw[i]at j;refine aH tok func118 rfl rfl ?_;refine wx ?_;simp -dsimp[f118,tg];refine aM.mono (K:=fun b H'=>b = .int .i64 (r x)/\H'=Ht H kp P) o ?_;rintro _ _ ⟨rfl,rfl⟩;simp -dsimp;refine aM.mono (K:=fun b H'=>b = .int .i64 (r y)/\H'=Ht H kp P) s ?_;rintro _ _ ⟨rfl,rfl⟩;simp -dsimp[h0,h2,j,d,p,fm,fk,h1,e,D,C,c]
 | some v =>
  rw[i]at j
  cases k:q.K (r y) with
  | none =>
   rw[k]at l;refine aH tok func118 rfl rfl ?_;refine wx ?_;simp -dsimp[f118,tg];refine aM.mono (K:=fun b H'=>b = .int .i64 (r x)/\H'=Ht H kp P) o ?_;rintro _ _ ⟨rfl,rfl⟩;simp -dsimp;refine aM.mono (K:=fun b H'=>b = .int .i64 (r y)/\H'=Ht H kp P) s ?_;rintro _ _ ⟨rfl,rfl⟩;simp -dsimp[h0,h2,j,l,d,p,A,fm,fk,h1,e,E,F,c]
  | some w =>
   rw[k]at l;have u:=fZ v w;simp only[aP]at u;refine aH tok func118 rfl rfl ?_;refine wx ?_;simp -dsimp[f118,tg];refine aM.mono (K:=fun b H'=>b = .int .i64 (r x)/\H'=Ht H kp P) o ?_;rintro _ _ ⟨rfl,rfl⟩;simp -dsimp;refine aM.mono (K:=fun b H'=>b = .int .i64 (r y)/\H'=Ht H kp P) s ?_;rintro _ _ ⟨rfl,rfl⟩;simp -dsimp[h0,h2,j,l,d,p,A,fm,fk];refine sTx ?_;refine cQx u ?_;simp -dsimp
section
def AgrE(q:Prob)(r:Nat->Nat)(i k:Nat)(s:Int)(n:Nat):Prop:=∀a,a<n->gd s a=true->eqv q r (i*q.n+a) (k*q.n+a)
open Classical in
noncomputable def agB(q:Prob)(r:Nat->Nat)(i k:Nat)(s:Int):Bool:=decide (AgrE q r i k s q.n)
def lz{q:Prob}{r:Nat->Nat}{i k:Nat}{s:Int} : agB q r i k s=true↔AgrE q r i k s q.n:=by unfold agB;simp
def agB_no{q:Prob}{r:Nat->Nat}{i k:Nat}{s:Int}{a:Nat}(ha:a<q.n)(hb:gd s a=true)(he:eqvB q r (i*q.n+a) (k*q.n+a)=false):agB q r i k s=false:=by
 cases b:agB q r i k s
 .rfl
 .have:=kd.2 (lz.1 b a ha hb);rw[he]at this;cases this
theorem di(s:Int)(a:Nat):(IntKind.u32.wrap ↑((s.fdiv (2^min a IntKind.u32.bits) % 2^IntKind.u32.bits).toNat &&& 1 % 2^IntKind.u32.bits)== 1)=gd s a:=rfl
def ptrRb{H:List B}{k0 kp kq n N:Nat}{K:Nat->Option Vl}(g:HOk H k0 kp kq n N K)(P:List Nat):k0<(Ht H kp P).length:=by rw[iV];exact g.lt0
def agree_u{q:Prob}{P:List Nat}{r h:Nat->Nat}(f:Frt q P r h){H:List B}{k0 kp kq n N:Nat}(d:q.m*q.n=N)(hn:q.n=n)(g:HOk H k0 kp kq n N q.K)(S:N<=1000000)(i k:Nat)(s:Int)(hi:i<q.m)(hk:k<q.m)(V:n<=16):
  ak prog 117 [.ptr k0 0,.int .i64 i,.int .i64 k,.int .u32 s] (Ht H kp P) fun T H'=>T = .bool (agB q r i k s)/\H'=Ht H kp P:=by
 obtain⟨E,v⟩:=ξ (agB q r i k s);rw[<-v];have h0:=g.at0 P;have u:=g.rbs P;have o:=ptrRb g P;refine aH tok func117 rfl rfl ?_;refine wx ?_;simp -dsimp[f117,tg,h0];refine aI (W_loopM 44 0xfffffffc300 zMx (σ:=Nat) (fun a=>a<=n/\AgrE q r i k s a) (fun a=>n-a) (fun a=>[(14,.int .i64 a)]) (fun _=>Ht H kp P) 0 ⟨ω,fun a ha=>by omega⟩ ζ rfl ζ ?_);rintro a ⟨ha,hx⟩ N2 Q w R;by_cases hb:a<n
 .have L:=bc hi (hn▸hb);have O:=bc hk (hn▸hb);have e:=same_u5 f d g S (i*q.n+a) (k*q.n+a) (d▸L) (d▸O);have U:AgrE q r i k s a:=hx;cases j:gd s a
  .refine wx ?_;simp -dsimp[h0,hb,di,j,(ω:(a:Int)<32)];refine sTx ?_;simp -dsimp[aE a ω];refine w (a+1) _ _ ⟨ω,fun b t c=>?_⟩ ω ζ ⟨[],ζ⟩ (by simp[o]) u
   rcases uP b a with h1 | h1
   .exact hx b h1 c
   .have:b=a:=by omega
    subst this;rw[j]at c;cases c
  .rw[hn]at L O e
   have l:q.m*n=N:=by rw[<-hn];exact d
   rw[l]at L O
   have A:IntKind.i64.wrap ((i:Int)*n)=((i*n:Nat):Int):=by rw[wrap64 ω ω];push_cast;rfl
   have J:IntKind.i64.wrap ((k:Int)*n)=((k*n:Nat):Int):=by rw[wrap64 ω ω];push_cast;rfl
   have x:IntKind.i64.wrap (((i*n:Nat):Int)+(a:Int))=((i*n+a:Nat):Int):=by rw[wrap64 ω ω];push_cast;rfl
   have y:IntKind.i64.wrap (((k*n:Nat):Int)+(a:Int))=((k*n+a:Nat):Int):=by rw[wrap64 ω ω];push_cast;rfl
   have C:i*q.n+a=i*n+a:=by rw[hn]
   have F:k*q.n+a=k*n+a:=by rw[hn]
   obtain⟨X,I⟩:=ξ (i*n+a);obtain⟨W,G⟩:=ξ (k*n+a);obtain⟨Z,z⟩:=ξ (i*n);obtain⟨Y,D⟩:=ξ (k*n);rw[<-I]at x C e;rw[<-G]at y F e;rw[<-z]at A x;rw[<-D]at J y;cases he:eqvB q r X W
   .rw[he]at e;have M:=agB_no (k:=k) (i:=i) (hn▸hb) j (by rw[C,F];exact he);rw[M]at v;refine wx ?_;simp -dsimp[h0,hb,di,j,(ω:(a:Int)<32),A,J,x,y];refine sTx ?_;refine oM _ e ?_;simp -dsimp[j];apply R;simp -dsimp;exact v
   .rw[he]at e;refine wx ?_;simp -dsimp[h0,hb,di,j,(ω:(a:Int)<32),A,J,x,y];refine sTx ?_;refine oM _ e ?_;simp -dsimp[j,aE a ω];refine w (a+1) _ _ ⟨ω,fun b t c=>?_⟩ ω ζ ⟨[],ζ⟩ (by simp[o]) u
    rcases uP b a with h1 | h1
    .exact hx b h1 c
    .have:b=a:=by omega
     subst this;rw[C,F];exact kd.1 he
 .have p:agB q r i k s=true:=lz.2 fun b t c=>hx b ω c
  rw[p]at v;refine wx ?_;simp -dsimp[hb];apply R;simp -dsimp;exact v
end
def sub_erase{l:List Cr}{i:Nat} : ∀c∈l.eraseIdx i,c∈l:=fun _ h=>List.mem_of_mem_eraseIdx h
def jH{l:List Cr}{i:Nat}(h:aS l):aS (l.eraseIdx i):=List.Pairwise.sublist (List.eraseIdx_sublist l i) h
structure IsCoreP (t:Tb) (fds:List Fd) (l:List Cr):Prop where
 nec:Nec t fds l
 min:∀i,i<l.length->¬Nec t fds (l.eraseIdx i)
structure CoreSt (t:Tb) (fds:List Fd) (fixed l:List Cr) (i:Nat):Prop where
 le:i<=l.length
 sub:∀c∈l,c∈fixed
 sorted:aS l
 nec:Nec t fds l
 min:∀j,j<i->¬Nec t fds (l.eraseIdx j)
def CoreSt.drop{t:Tb}{fds:List Fd}{fixed l:List Cr}{i:Nat}(h:CoreSt t fds fixed l i)(hi:i<l.length)(hn:Nec t fds (l.eraseIdx i)):CoreSt t fds fixed (l.eraseIdx i) i:=by
 refine⟨by rw[List.length_eraseIdx];split<;>omega,fun c a=>h.sub c (sub_erase c a),jH h.sorted,hn,fun j d a=>h.min j d (nec_mono (fun c a=>?_) a)⟩;obtain⟨k,hk,rfl⟩:=List.mem_iff_getElem.1 a;rw[List.mem_eraseIdx_iff_getElem]at *;rw[List.getElem_eraseIdx];rw[List.length_eraseIdx]at hk;rw[List.length_eraseIdx,if_pos hi]at hk
 have b:j<l.length-1:=by omega
 rw[if_pos b]at hk;split
 .rename_i h1;rw[List.getElem_eraseIdx];split
  .exact⟨k,ω,ω,rfl⟩
  .exact⟨k+1,ω,ω,rfl⟩
 .rename_i h1;rw[List.getElem_eraseIdx];split
  .exact⟨k+1,ω,ω,rfl⟩
  .exact⟨k+1+1,ω,ω,rfl⟩
def CoreSt.keep{t:Tb}{fds:List Fd}{fixed l:List Cr}{i:Nat}(h:CoreSt t fds fixed l i)(hi:i<l.length)(hn:¬Nec t fds (l.eraseIdx i)):CoreSt t fds fixed l (i+1):=by
 refine⟨hi,h.sub,h.sorted,h.nec,fun j a=>?_⟩
 rcases uP j i with h1 | h1
 .exact h.min j h1
 .have:j=i:=by omega
  subst this;exact hn
def CoreSt.done{t:Tb}{fds:List Fd}{fixed l:List Cr}(h:CoreSt t fds fixed l l.length):IsCoreP t fds l:=⟨h.nec,h.min⟩
def fdOk(n:Nat)(d:Fd):Bool:=decide (d.l<2^n)&&decide (d.r<2^n)
def dO(n:Nat)(fds:List Fd):Int:=if 64<fds.length then 3 else if fds.all (fdOk n) then 0 else 1
end
end Go.Proofs.YtnaokiodhoadjaaGreatDoor
