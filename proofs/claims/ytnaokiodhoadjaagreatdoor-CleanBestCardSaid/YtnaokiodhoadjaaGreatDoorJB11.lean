/- JB11: texts T1, CatZ, joined and shortened by pack6.py. -/
import Derived.Test.YtnaokiodhoadjaaGreatDoorJB10
set_option linter.all false
set_option maxRecDepth 100000
set_option maxHeartbeats 64000000
open List renaming replicate→tg,range→tr
namespace Go.Proofs.YtnaokiodhoadjaaGreatDoor
section
open Go Go.AM Go.Proofs.Tryz
def seq(a b:ByteArray):Bool:=a.toList == b.toList
def dU(c:Int):Bool:=decide (97<=c)&&decide (c<=122)||decide (65<=c)&&decide (c<=90)||decide (c=95)
def ng(c:Int):(97<=c/\c<=122/\dU c=true)\/(97<=c/\¬c<=122/\65<=c/\¬c<=90/\¬c=95/\dU c=false)\/(¬97<=c/\65<=c/\c<=90/\dU c=true)\/(¬97<=c/\65<=c/\¬c<=90/\c=95/\dU c=true)\/(¬97<=c/\65<=c/\¬c<=90/\¬c=95/\dU c=false)\/(¬97<=c/\¬65<=c/\¬c=95/\dU c=false):=by
 have h:dU c=decide ((97<=c/\c<=122)\/(65<=c/\c<=90)\/c=95):=by
  unfold dU;simp only[Bool.decide_or,Bool.decide_and,Bool.or_assoc]
 rw[h];simp only[decide_eq_true_eq,decide_eq_false_iff_not];omega
def sB(c:Int):aK prog 129 [.int .u8 c] fun r=>r = .bool (dU c):=by
 rcases ng c with⟨h1,h2,h⟩ | ⟨h1,h2,a,b,d,h⟩ | ⟨h1,h2,a,h⟩ | ⟨h1,h2,a,b,h⟩ | ⟨h1,h2,a,b,h⟩ | ⟨h1,h2,a,h⟩
 all_goals
  rw[h];refine sPx func129 ?_;simp -dsimp[f129,tg, *]
def bo(s:ByteArray)(i:Nat):Int:=((s[i]?).map fun b=>(b.toNat:Int)).getD 0
def jC{s:ByteArray}{i:Nat}(h:i<s.size):s[i]?=some s[i]/\(s[i].toNat:Int)=bo s i:=by
 have h1:s[i]?=some s[i]:=getElem?_pos s i h;exact⟨h1,by unfold bo;rw[h1];rfl⟩
def my(bs:ByteArray):bs.data.toList.length=bs.size:=by simp
theorem ba_loop(bs:ByteArray):∀(n i:Nat) (r:List UInt8),bs.size-i=n->ByteArray.toList.loop bs i r=r.reverse++bs.data.toList.drop i
 | 0,i,r,h=>by
  have hl:=my bs;rw[ByteArray.toList.loop,if_neg ω,tj ω,uC]
 | n+1,i,r,h=>by
  have hl:=my bs
  have hi:i<bs.size:=by omega
  have a:i<bs.data.toList.length:=by omega
  rw[ByteArray.toList.loop,if_pos hi,ba_loop bs n (i+1) _ ω,th a,List.reverse_cons,uW];congr 2
  have b:i<bs.data.size:=by simpa using a
  rw[ByteArray.get!,getElem!_pos bs.data i b];rfl
def ba_toList(bs:ByteArray):bs.toList=bs.data.toList:=by
 unfold ByteArray.toList;rw[ba_loop bs _ 0 [] rfl];rfl
def ba_nil(s:ByteArray):s.toList=[]↔s.size=0:=by
 rw[ba_toList];rw[<-List.length_eq_zero_iff,my]
def okAt(s:ByteArray)(i:Nat):Bool:=dU (bo s i)||(decide (i≠0)&&(decide (48<=bo s i)&&decide (bo s i<=57)))
def cJ(s:ByteArray):Bool:=!decide (s.toList=[])&&decide (s.size<=24)&&!(s.toList == [110,117,108,108])&&(tr s.size).all (okAt s)
def allno{p:Nat->Bool}{n i:Nat}(h:i<n)(hp:p i=false):(tr n).all p=false:=by
 rw[List.all_eq_false];exact⟨i,by simpa using h,by simp[hp]⟩
def fL{p:Nat->Bool}{i:Nat}(h:(tr i).all p=true)(hp:p i=true):(tr (i+1)).all p=true:=by
 rw[ue,List.all_append,h];simp[hp]
def sF(s:ByteArray)(j:s.size<=maxLen):aK prog 49 [.str s] fun r=>r = .bool (cJ s):=by
 by_cases h0:s.toList=[]
 .rw[show cJ s=false by simp[cJ,h0]];refine sPx func49 ?_;simp -dsimp[f49,tg,h0]
 .by_cases o:s.size<=24
  .cases g:(s.toList == [110,117,108,108])
   .rw[show cJ s=(tr s.size).all (okAt s) by simp[cJ,h0,o,g]];refine sPx func49 ?_;simp -dsimp[f49,tg,h0,g,(ω:¬(24:Int)<s.size)];refine aI (W_loopM 58 0x3fffffffff8003c zMx (σ:=Nat) (fun i=>i<=s.size/\(tr i).all (okAt s)=true) (fun i=>s.size-i) (fun i=>[(19,.int .i64 i)]) (fun _=>[]) 0 ⟨ω,rfl⟩ ζ rfl ζ ?_);rintro i ⟨hi,hall⟩ N Q p k;by_cases hb:i<s.size
    .obtain⟨e,d⟩:=jC hb;have a:okAt s i=(dU (bo s i)||(decide (i≠0)&&(decide (48<=bo s i)&&decide (bo s i<=57)))):=rfl;obtain⟨c,t⟩:=ξ (bo s i);rw[<-t]at d a
     rcases ng c with⟨h1,h2,h⟩ | ⟨h1,h2,f,m,q,h⟩ | ⟨h1,h2,f,h⟩ | ⟨h1,h2,f,m,h⟩ | ⟨h1,h2,f,m,h⟩ | ⟨h1,h2,f,h⟩
     .rw[h,xz]at a;refine wx ?_;simp -dsimp[hb,e,d,h1,h2,aE i (by unfold maxLen at j;omega)];refine p (i+1) _ _ ⟨ω,fL hall a⟩ ω ?_ ⟨[],?_⟩ ?_ ?_<;>simp[or_imp,forall_and,L1,aG]
     .by_cases b:i=0
      .subst b;rw[h,vP,decide_eq_false ζ,uE]at a;refine wx ?_;simp -dsimp[hb,e,d,h1,h2,f,m,q];apply k;simp -dsimp;exact⟨_,hb,a⟩
      .rw[h,vP,decide_eq_true b,uF,decide_eq_false (show ¬c<=57 by omega),vv]at a;refine wx ?_;simp -dsimp[hb,e,d,h1,h2,f,m,q,b,(ω:¬c<48),(ω:57<c)];apply k;simp -dsimp;exact⟨_,hb,a⟩
     .rw[h,xz]at a;refine wx ?_;simp -dsimp[hb,e,d,h1,h2,f,aE i (by unfold maxLen at j;omega)];refine p (i+1) _ _ ⟨ω,fL hall a⟩ ω ?_ ⟨[],?_⟩ ?_ ?_<;>simp[or_imp,forall_and,L1,aG]
     .rw[h,xz]at a;refine wx ?_;simp -dsimp[hb,e,d,h1,h2,f,m,aE i (by unfold maxLen at j;omega)];refine p (i+1) _ _ ⟨ω,fL hall a⟩ ω ?_ ⟨[],?_⟩ ?_ ?_<;>simp[or_imp,forall_and,L1,aG]
     .by_cases b:i=0
      .subst b;rw[h,vP,decide_eq_false ζ,uE]at a;refine wx ?_;simp -dsimp[hb,e,d,h1,h2,f,m];apply k;simp -dsimp;exact⟨_,hb,a⟩
      .rw[h,vP,decide_eq_true b,uF,decide_eq_false (show ¬c<=57 by omega),vv]at a;refine wx ?_;simp -dsimp[hb,e,d,h1,h2,f,m,b,(ω:¬c<48),(ω:57<c)];apply k;simp -dsimp;exact⟨_,hb,a⟩
     .by_cases b:i=0
      .subst b;rw[h,vP,decide_eq_false ζ,uE]at a;refine wx ?_;simp -dsimp[hb,e,d,h1,h2,f];apply k;simp -dsimp;exact⟨_,hb,a⟩
      .by_cases l:c<48
       .rw[h,vP,decide_eq_false (show ¬48<=c by omega),uE,vv]at a;refine wx ?_;simp -dsimp[hb,e,d,h1,h2,f,b,l];apply k;simp -dsimp;exact⟨_,hb,a⟩
       .by_cases n:57<c
        .rw[h,vP,decide_eq_true b,uF,decide_eq_false (show ¬c<=57 by omega),vv]at a;refine wx ?_;simp -dsimp[hb,e,d,h1,h2,f,b,l,n];apply k;simp -dsimp;exact⟨_,hb,a⟩
        .rw[h,vP,decide_eq_true b,uF,decide_eq_true (show c<=57 by omega),decide_eq_true (show 48<=c by omega),Bool.and_true]at a;refine wx ?_;simp -dsimp[hb,e,d,h1,h2,f,b,l,n,aE i (by unfold maxLen at j;omega)];refine p (i+1) _ _ ⟨ω,fL hall a⟩ ω ?_ ⟨[],?_⟩ ?_ ?_<;>simp[or_imp,forall_and,L1,aG]
    .obtain rfl:i=s.size:=by omega
     refine wx ?_;simp -dsimp[hb];apply k;simp -dsimp;simpa using hall
   .rw[show cJ s=false by simp[cJ,g]];refine sPx func49 ?_;simp -dsimp[f49,tg,h0,g,(ω:¬(24:Int)<s.size)]
  .rw[show cJ s=false by simp[cJ,o]];refine sPx func49 ?_;simp -dsimp[f49,tg,h0,(ω:(24:Int)<s.size)]
def rt(s:ByteArray)(t:s.size<=maxLen):aK prog 81 [.str s] fun r=>r = .bool (cJ s):=by
 by_cases h0:s.toList=[]
 .rw[show cJ s=false by simp[cJ,h0]];have g:=(ba_nil s).1 h0;refine sPx func81 ?_;simp -dsimp[f81,tg,g]
 .have g:¬s.size=0:=fun h=>h0 ((ba_nil s).2 h)
  have n:0<s.size:=by omega
  obtain⟨p,l⟩:=jC n;have b:=sB (bo s 0);rw[<-l]at b;by_cases v:s.size<=24
  .cases k:dU (bo s 0)
   .have u:okAt s 0=false:=by unfold okAt;rw[k];simp
    rw[show cJ s=false by unfold cJ;rw[allno n u,vv]];rw[l,k]at b;rw[<-l]at b;refine sPx func81 ?_;simp -dsimp[f81,tg,g,(ω:¬(24:Int)<s.size),p];refine cPx b ?_;simp -dsimp
   .rw[l,k]at b;rw[<-l]at b;cases m:(s.toList == [110,117,108,108])
    .rw[show cJ s=(tr s.size).all (okAt s) by simp[cJ,h0,v,m]];refine sPx func81 ?_;simp -dsimp[f81,tg,g,(ω:¬(24:Int)<s.size),p];refine cPx b ?_;simp -dsimp[m];refine aI (W_loopM 45 0x1fffffc0000c zMx (σ:=Nat) (fun i=>i<=s.size/\(tr i).all (okAt s)=true) (fun i=>s.size-i) (fun i=>[(3,.int .i64 i)]) (fun _=>[]) 0 ⟨ω,rfl⟩ ζ rfl ζ ?_);rintro i ⟨hi,hall⟩ N Q y w;by_cases hb:i<s.size
     .obtain⟨f,d⟩:=jC hb;have a:okAt s i=(dU (bo s i)||(decide (i≠0)&&(decide (48<=bo s i)&&decide (bo s i<=57)))):=rfl;obtain⟨c,z⟩:=ξ (bo s i);rw[<-z]at d a;have j:=sB c;cases h:dU c
      .have x:¬i=0:=fun e=>by subst e;rw[<-z]at k;rw[k]at h;cases h
       rw[h]at j;rw[h,vP,decide_eq_true x,uF]at a;by_cases o:c<48
       .rw[decide_eq_false (show ¬48<=c by omega),uE]at a;refine wx ?_;simp -dsimp[hb,f,d];refine cPx j ?_;simp -dsimp[hb,f,d,o];apply w;simp -dsimp;exact⟨_,hb,a⟩
       .by_cases q:57<c
        .rw[decide_eq_false (show ¬c<=57 by omega),vv]at a;refine wx ?_;simp -dsimp[hb,f,d];refine cPx j ?_;simp -dsimp[hb,f,d,o,q];apply w;simp -dsimp;exact⟨_,hb,a⟩
        .rw[decide_eq_true (show c<=57 by omega),decide_eq_true (show 48<=c by omega),Bool.and_true]at a;refine wx ?_;simp -dsimp[hb,f,d];refine cPx j ?_;simp -dsimp[hb,f,d,o,q,aE i (by unfold maxLen at t;omega)];refine y (i+1) _ _ ⟨ω,fL hall a⟩ ω ?_ ⟨[],?_⟩ ?_ ?_<;>simp[or_imp,forall_and,L1,aG]
      .rw[h]at j;rw[h,xz]at a;refine wx ?_;simp -dsimp[hb,f,d];refine cPx j ?_;simp -dsimp[aE i (by unfold maxLen at t;omega)];refine y (i+1) _ _ ⟨ω,fL hall a⟩ ω ?_ ⟨[],?_⟩ ?_ ?_<;>simp[or_imp,forall_and,L1,aG]
     .obtain rfl:i=s.size:=by omega
      refine wx ?_;simp -dsimp[hb];apply w;simp -dsimp;simpa using hall
    .rw[show cJ s=false by simp[cJ,m]];refine sPx func81 ?_;simp -dsimp[f81,tg,g,(ω:¬(24:Int)<s.size),p];refine cPx b ?_;simp -dsimp[m]
  .rw[show cJ s=false by simp[cJ,v]];refine sPx func81 ?_;simp -dsimp[f81,tg,g,(ω:(24:Int)<s.size)]
end
section
open Go Go.AM Go.RowKit Go.Proofs.Tryz
structure FlVZ where
 f:Bool
 xs:List V
def gl(l:FlVZ):V:=.lst 1 l.f l.xs
def dl(ls:List FlVZ):List V:=(ls.map (·.xs)).flatten
def tN(ls:List FlVZ)(i:Nat)(h:i<ls.length):dl (ls.take (i+1))=dl (ls.take i)++ls[i].xs:=by
 unfold dl;rw[tz h,uu,xn];simp
def catL_leZ(ls:List FlVZ)(i:Nat):(dl (ls.take i)).length<=(dl ls).length:=by
 conv=>rhs;rw[<-vT i ls]
 unfold dl;rw[uu,xn,uB];omega
def mw{ls:List FlVZ}(hp:∀l∈ls,∀x∈l.xs,AM.Pure x/\cC x=true/\x.cells.length=1):∀x∈dl ls,AM.Pure x/\cC x=true:=by
 intro x hx;obtain⟨l,hl,h⟩:=List.mem_flatten.1 hx;obtain⟨y,a,rfl⟩:=List.mem_map.1 hl;exact⟨(hp y a x h).1,(hp y a x h).2.1⟩
def catW_Z(n:Nat)(h:n<=1000000):n<=9223372036854775807/\n*8<=140737488355328:=by omega
def tA(ls:List FlVZ)(g:Bool)(hp:∀l∈ls,∀x∈l.xs,AM.Pure x/\cC x=true/\x.cells.length=1)(hl:ls.length<=1000000)(hs:(dl ls).length<=1000000):aK prog 157 [.lst 1 g (ls.map gl)] fun r=>r = .lst 1 false (dl ls):=by
 have m:=fun i=>catL_leZ ls i
 have k:∀l∈ls,AM.Pure (gl l):=fun l hl=>.lst _ _ _ (fun x hx=>(hp l hl x hx).1)
 refine sPx func157 ?_;simp -dsimp[f157,tg,gl];refine aI (W_loopM 23 0x7ff828 zMx (σ:=Nat) (fun i=>i<=ls.length) (fun i=>ls.length-i) (fun i=>[(11,.int .i64 i),(3,.int .i64 ((dl (ls.take i)).length:Nat))]) (fun _=>[]) 0 ω (by simp[dl]) rfl ζ ?_);intro i hi N Q v w;by_cases hb:i<ls.length
 .have a:=tN ls i hb;have h1:=m i;have h2:=m (i+1);rw[a,uB]at h2;obtain⟨c,n⟩:=ξ ((dl (ls.take i)).length);rw[<-n]at h1 h2
  have o:(dl (ls.take (i+1))).length=c+ls[i].xs.length:=by rw[a,uB,n]
  obtain⟨x,hx⟩:=ξ (ls[i]);rw[<-hx]at h2 o;have h:=hx.symm;obtain⟨d,u⟩:=ξ (c+x.xs.length)
  have A:IntKind.i64.wrap ((c:Int)+(x.xs.length:Int))=(d:Int):=by rw[wrap64 ω ω,u];push_cast;rfl
  refine wx ?_;simp -dsimp[hb,h,A,(ω:¬(d:Int)<0),aE i ω,<-n,gl];refine v (i+1) _ _ ω ω (by simp[o,u]) ⟨[],rfl⟩ (by simp;exact k) ζ
 .obtain rfl:i=ls.length:=by omega
  rw[uV];have y:=jr (H:=[]) (sL (dl ls).length hs) ζ;refine wx ?_;simp -dsimp[hb,gl];apply w;simp -dsimp[gl];refine y.mono ?_;rintro r H' ⟨e,z,xs,rfl,rfl,_,rfl,rfl,rfl⟩;simp -dsimp[gl];refine aI (W_loopM 35 0x7f8000140 zMx (σ:=Nat) (fun i=>i<=ls.length) (fun i=>ls.length-i) (fun i=>[(27,.int .i64 i),(6,.buf 0 0 (dl (ls.take i)).length (dl (ls.take i)).length)]) (fun i=>[B.buf 2 1 (dl (ls.take i)) false]) 0 ω (by simp[dl]) (by simp[dl]) ζ ?_);intro i hi D C q t;by_cases hb:i<ls.length
  .have a:=tN ls i hb;have h2:=m (i+1);have s:=hp ls[i] (ti hb);have f:=mw (ls:=ls.take (i+1)) (fun l hl=>hp l (uh hl));obtain⟨x,hx⟩:=ξ (ls[i]);rw[<-hx]at a s;have h:=hx.symm;rw[a]at h2 f;obtain⟨xs,p⟩:=ξ x.xs;have j:=p.symm;rw[<-p]at a h2 f s;by_cases h0:xs=[]
   .rw[h0,uC]at a;refine wx ?_;simp -dsimp[hb,h,j,h0,aE i ω,gl];refine q (i+1) _ _ ω ω (by simp[a]) ⟨[],by simp[a]⟩ (by simp;exact k) (by rw[h0,uC]at f;intro bl b;rcases List.mem_cons.1 b with rfl | b;exact(rbB_buf1 (by rw[a];exact f)).2 trivial;cases b)
   .obtain⟨c,n⟩:=ξ (dl (ls.take i));rw[<-n]at a h2 f;rw[uB]at h2;refine wx ?_;simp -dsimp[hb,h,j,h0,aE i ω,<-n,catW_Z (c.length+xs.length) ω,gl];refine q (i+1) _ _ ω ω (by simp[a]) ⟨[],by simp[a]⟩ (by simp;exact k) (by intro bl b;rcases List.mem_cons.1 b with rfl | b;exact(rbB_buf1 (by rw[a];exact f)).2 trivial;cases b)
  .obtain rfl:i=ls.length:=by omega
   rw[uV];refine wx ?_;simp -dsimp[hb,gl];apply t;simp -dsimp[gl];exact⟨dr rfl rfl (fun x hx=>(mw hp x hx).1),fun x hx=>(mw hp x hx).1⟩
end
end Go.Proofs.YtnaokiodhoadjaaGreatDoor
