/- JB13: texts T6, T7, T8, Ve, T9, joined and shortened by pack6.py. -/
import Derived.Test.YtnaokiodhoadjaaGreatDoorJB12
set_option linter.all false
set_option maxRecDepth 100000
set_option maxHeartbeats 64000000
open ByteArray renaming empty→tp
open List renaming replicate→tg,range→tr,take→xX
namespace Go.Proofs.YtnaokiodhoadjaaGreatDoor
section
open Go Go.AM Go.Proofs.Tryz
structure Rcp where
 a:Int
 gap:Int
 rows:List (List Int)
def LU(xs:List Int):V:=.lst 1 false (xs.map encU)
def mo(f:Bool)(x:Rcp):V:=.agg [.int .u8 x.a,.int .u8 x.gap,.lst 1 f (x.rows.map LU)]
@[simp] theorem LU_pure (xs:List Int):AM.Pure (LU xs):=by simp[LU]
@[simp] theorem encRcp_pure (f:Bool) (x:Rcp):AM.Pure (mo f x):=by simp[mo]
def L8:List ByteArray:=[⟨#[97]⟩,⟨#[98]⟩,⟨#[99]⟩,⟨#[100]⟩,⟨#[101]⟩,⟨#[102]⟩,⟨#[103]⟩,⟨#[104]⟩]
def kA(cs:List Int)(k:Nat):List Vl:=(tr k).map fun j=>ofC (cs.getD j 0)
def wRow(gap:Int)(cs:List Int)(n i:Nat):Rw:=⟨1+(i:Int)*(1+gap.tmod 3),kA cs n⟩
def nF(x:Rcp)(n i:Nat):List Rw:=(tr i).map fun j=>wRow x.gap (x.rows.getD j []) n j
def rH(x:Rcp)(n:Nat):Tb:=⟨⟨#[114]⟩,L8.take n,nF x n x.rows.length⟩
def wVals_succ(cs:List Int)(k:Nat):kA cs (k+1)=kA cs k++[ofC (cs.getD k 0)]:=by simp[kA,ue]
def wVals_len(cs:List Int)(k:Nat):(kA cs k).length=k:=by simp[kA]
def wRows_succ(x:Rcp)(n i:Nat):nF x n (i+1)=nF x n i++[wRow x.gap (x.rows.getD i []) n i]:=by simp[nF,ue]
def wRows_len(x:Rcp)(n i:Nat):(nF x n i).length=i:=by simp[nF]
def qG(n:Nat)(h:n<=1000000000):n<=9223372036854775806/\(n+1)*32<=140737488355328:=by omega
def L8_take(n:Nat):xX n [V.str ⟨#[97]⟩,V.str ⟨#[98]⟩,V.str ⟨#[99]⟩,V.str ⟨#[100]⟩,V.str ⟨#[101]⟩,V.str ⟨#[102]⟩,V.str ⟨#[103]⟩,V.str ⟨#[104]⟩]=(L8.take n).map V.str:=by rw[wM];rfl
theorem ownF_refl(k:Nat):∀xs:List V,tZ k xs xs
 | []=>trivial
 | x::xs=>⟨.inl rfl,ownF_refl k xs⟩
theorem ownAt_nil(k:Nat):∀(i:Nat) (xs:List V),fG k [] i xs=xs
 | _,[]=>rfl
 | i,x::xs=>by simp only[fG,List.contains_nil,uM,if_false,ownAt_nil k (i+1) xs]
def iD(k:Nat)(xs:List V):tZ k xs (fG k [] 0 xs):=by rw[ownAt_nil];exact ownF_refl k xs
def wide03(x:Rcp)(n:Nat)(f:Bool)(hn:n<=8)(hr:x.rows.length<=1000000)(U:∀r∈x.rows,r.length<=9223372036854775807)(h0:0<=x.gap):
  aK prog 10 [mo f x,.int .i64 n] fun r=>r=aD false false (rH x n):=by
 have W:=Int.tmod_nonneg 3 h0;have F:=Int.tmod_lt_of_pos x.gap (show(0:Int)<3 by omega);obtain⟨g,l⟩:=ξ (x.gap.tmod 3);rw[<-l]at W F;have H:=l.symm;have z:IntKind.i64.wrap g=g:=wrap64 ω ω;have O:IntKind.i64.wrap (1+g)=1+g:=wrap64 ω ω
 have s:(L8.take n).length=n:=by simp[L8];omega
 have b:(n=0/\xX n (L8.map V.str)=[])\/(¬n=0/\¬xX n (L8.map V.str)=[]):=by
  by_cases hz:n=0
  .exact .inl ⟨hz,by rw[hz];rfl⟩
  .refine .inr ⟨hz,fun h=>?_⟩;have:=congrArg List.length h;rw[<-wM,ud,s]at this;exact hz this
 have E:(xX n (L8.map V.str)).length=n:=by rw[<-wM,ud,s]
 have P:n<=9223372036854775807/\n*16<=140737488355328:=by omega
 rcases b with⟨hz,b⟩ | ⟨hz,b⟩
 case' inl =>
  refine bM (aH (tkf 28) func10 rfl rfl ?_);refine W_x (tkf 28) mixed ?_;simp -dsimp[f10,tg,mo,L8_take,hn,b,aL]
 case' inr =>
  refine bM (aH (tkf 28) func10 rfl rfl ?_);refine W_x (tkf 28) mixed ?_;simp -dsimp[f10,tg,mo,L8_take,hn,hz,b,E,P,aL]
 all_goals
  refine aI (W_lf 2 _ [.str ⟨#[114]⟩,.lst 1 false (xX n (L8.map V.str)),.nilS] rfl (lfL_refl _) (by simp[LfL,lfB,b]) (cx 71 2 [] 2 [2] rfl (iD _ _) ζ (W_loopM 66 0x3ffffffffffffefc0 zMx (σ:=Nat) (fun i=>i<=x.rows.length) (fun i=>x.rows.length-i) (fun i=>[(6,.int .i64 i)]) (fun i=>[B.cells [.int .u8 x.a,.int .u8 x.gap,.lst 1 f (x.rows.map LU)],B.cells [.str tp,.nilS,.nilS],B.cells [.str ⟨#[114]⟩,.lst 1 false (xX n (L8.map V.str)),.buf 3 0 i i],B.buf 71 2 ((nF x n i).map aF) false]) 0 ω ζ (by simp[nF]) ζ ?_)));intro i hi N Q T R;have u:=wRows_len x n i;by_cases hb:i<x.rows.length
  .have D:x.rows.getD i []=x.rows[i]:=by simp[hb]
   have c:=wRows_succ x n i;rw[D]at c;have M:=U x.rows[i] (ti hb);obtain⟨cs,y⟩:=ξ (x.rows[i]);rw[<-y]at c M;have j:=y.symm;have X:0<=(i:Int)*(1+g):=Int.mul_nonneg ω ω;have S:(i:Int)*(1+g)<=i*3:=Int.mul_le_mul_of_nonneg_left ω ω;have G:IntKind.i64.wrap ((i:Int)*(1+g))=(i:Int)*(1+g):=wrap64 ω ω;have t:IntKind.i64.wrap (1+(i:Int)*(1+g))=1+(i:Int)*(1+g):=wrap64 ω ω
   have v:wRow x.gap cs n i=⟨1+(i:Int)*(1+g),kA cs n⟩:=by rw[l];rfl
   rw[v]at c;obtain⟨id,hid⟩:=ξ (1+(i:Int)*(1+g));rw[<-hid]at c t
   have A:IntKind.i64.wrap (1+(i:Int)*(1+g))=id:=by rw[<-hid];exact t
   refine W_x (tkf 28) mixed ?_;simp -dsimp[hb,H,z,O,G,A,aL];refine aI (cx 77 3 [] 4 [1] rfl (iD _ _) ζ (W_loopM 60 0xfffffff00000300 zMx (σ:=Nat) (fun k=>k<=n) (fun k=>n-k) (fun k=>[(8,.int .i64 k)]) (fun k=>[B.cells [.int .u8 x.a,.int .u8 x.gap,.lst 1 f (x.rows.map LU)],B.cells [.str tp,.nilS,.nilS],B.cells [.str ⟨#[114]⟩,.lst 1 false (xX n (L8.map V.str)),.buf 3 0 i i],B.buf 71 2 ((nF x n i).map aF) false,B.cells [.int .i64 id,.buf 5 0 k k],B.buf 77 3 ((kA cs k).map aP) false]) 0 ω ζ (by simp[kA]) ζ ?_));intro k hk Z Y w I;have m:=wVals_len cs k;have e:=wVals_succ cs k;by_cases q:k<n
   .by_cases d:k<cs.length
    .have p:cs.getD k 0=cs[k]:=by simp[d]
     rw[p]at e;have o:=of01 cs[k];refine W_x (tkf 28) mixed ?_;simp -dsimp[q,hb,LU,j,d,encU,aL];refine aI (ae (tkf 28) mixed [5,7] [] [(aP (ofC cs[k]),[])] υ fun C K L J=>?_);simp -implicitDefEqProofs [qG k ω,m,aP,aL];refine⟨L _ _ _ _ (bQ o ζ),J _ _ ?_⟩;simp -dsimp[aE k ω,aL];refine w (k+1) _ _ ω ω ?_ ⟨[],?_⟩ ?_ ?_<;>simp[or_imp,forall_and,L1,aG,e,LS,aP,aF,LV]
    .have p:cs.getD k 0=0:=by simp[d]
     rw[p]at e;have o:=of01 0;refine W_x (tkf 28) mixed ?_;simp -dsimp[q,hb,LU,j,d,encU,aL];refine aI (ae (tkf 28) mixed [5,7] [] [(aP (ofC 0),[])] υ fun C K L J=>?_);simp -implicitDefEqProofs [qG k ω,m,aP,aL];refine⟨L _ _ _ _ (bQ o ζ),J _ _ ?_⟩;simp -dsimp[aE k ω,aL];refine w (k+1) _ _ ω ω ?_ ⟨[],?_⟩ ?_ ?_<;>simp[or_imp,forall_and,L1,aG,e,LS,aP,aF,LV]
   .obtain rfl:k=n:=by omega
    refine fA 5 [] 4 [1] rfl rfl ζ (by simp[m]) ?_;refine W_x (tkf 28) mixed ?_;simp -dsimp[q,aL];apply I;simp -dsimp[u,qG i ω,aE i ω,aL];refine T (i+1) _ _ ω ω ?_ ⟨[B.cells [.int .i64 id,LV false (kA cs k)],B.buf 77 3 ((kA cs k).map aP) true],?_⟩ ?_ ?_<;>simp[or_imp,forall_and,L1,aG,c,aF,LV]
  .obtain rfl:i=x.rows.length:=by omega
   refine fA 3 [] 2 [2] rfl rfl ζ (by simp[u]) ?_;refine W_x (tkf 28) mixed ?_;simp -dsimp[hb,aL];apply R;simp -dsimp[aL];simp only[aD,rH,LS,LR,wM]
def nanInt(x:Int):aK prog 179 [.int .i64 x] fun r=>r = .bool false:=by
 refine sPx func179 ?_;simp -dsimp[f179,tg]
def cmpInt(x y:Int):aK prog 116 [.int .i64 x,.int .i64 y] fun r=>r = .int .i64 (bG x y):=by
 refine sPx func116 ?_;simp -dsimp[f116,tg];refine cPx (nanInt x) ?_;simp -dsimp;refine cPx (nanInt y) ?_;simp -dsimp;unfold bG;split
 .rfl
 .split<;>rfl
def rR(x y:Int):aK prog 239 [.int .i64 x,.int .i64 y] fun r=>r = .int .i64 (bG x y):=by
 refine sPx func239 ?_;simp -dsimp[f239,tg];unfold bG;split
 .rfl
 .split<;>rfl
def cmpS_drop(a b:ByteArray)(i:Nat)(ha:i<a.size)(hb:i<b.size):Lib.compareBytes (a.data.toList.drop i) (b.data.toList.drop i)=if a[i]<b[i] then -1 else if b[i]<a[i] then 1 else Lib.compareBytes (a.data.toList.drop (i+1)) (b.data.toList.drop (i+1)):=by
 have h1:i<a.data.toList.length:=by rw[my];exact ha
 have h2:i<b.data.toList.length:=by rw[my];exact hb
 rw[th h1,th h2,Lib.compareBytes];rfl
def cmpS_end(a b:ByteArray)(i:Nat)(hi:i<=a.size)(f:i<=b.size)(h:¬(i<a.size/\i<b.size)):Lib.compareBytes (a.data.toList.drop i) (b.data.toList.drop i)=bG a.size b.size:=by
 have e:=my a;have d:=my b;by_cases h1:i<a.size
 .have h2:i=b.size:=by omega
  have c:i<a.data.toList.length:=by omega
  rw[th c,tj (l:=b.data.toList) ω,Lib.compareBytes];unfold bG;rw[if_neg ω,if_pos ω]
 .rw[tj (l:=a.data.toList) ω];by_cases h2:i<b.size
  .have c:i<b.data.toList.length:=by omega
   rw[th c,Lib.compareBytes];unfold bG;rw[if_pos ω]
  .rw[tj (l:=b.data.toList) ω,Lib.compareBytes];unfold bG;rw[if_neg ω,if_neg ω]
def strings01(a b:ByteArray)(ha:a.size<=maxLen):aK prog 240 [.str a,.str b] fun r=>r = .int .i64 (mt a b):=by
 refine sPx func240 ?_;simp -dsimp[f240,tg];refine aI (W_loopM 34 0x3fffffff0 zMx (σ:=Nat) (fun i=>i<=a.size/\i<=b.size/\Lib.compareBytes (a.data.toList.drop i) (b.data.toList.drop i)=mt a b) (fun i=>a.size-i) (fun i=>[(5,.int .i64 i)]) (fun _=>[]) 0 ⟨ω,ω,rfl⟩ ζ rfl ζ ?_);rintro i ⟨hi,s,hx⟩ N Q q l;by_cases h:i<a.size/\i<b.size
 .obtain⟨h1,h2⟩:=h;rw[cmpS_drop a b i h1 h2]at hx;obtain⟨p,e⟩:=jC h1;obtain⟨n,f⟩:=jC h2;by_cases hq:bo a i=bo b i
  .have d:¬a[i]<b[i]:=fun h=>by have:=UInt8.lt_iff_toNat_lt.1 h;omega
   have j:¬b[i]<a[i]:=fun h=>by have:=UInt8.lt_iff_toNat_lt.1 h;omega
   rw[if_neg d,if_neg j]at hx;refine wx ?_;simp -dsimp[h1,h2,p,n,e,f,hq];refine sTx ?_;simp -dsimp[aE i (by unfold maxLen at ha;omega)];refine q (i+1) _ _ ⟨ω,ω,hx⟩ ω ?_ ⟨[],?_⟩ ?_ ?_<;>simp[or_imp,forall_and,L1,aG]
  .have hs:bG (bo a i) (bo b i)=mt a b:=by
    rw[<-hx,<-e,<-f];unfold bG;by_cases d:a[i]<b[i]
    .have c:(a[i].toNat:Int)<b[i].toNat:=by have:=UInt8.lt_iff_toNat_lt.1 d;omega
     rw[if_pos d,if_pos c]
    .have c:¬((a[i].toNat:Int)<b[i].toNat):=fun h=>d (UInt8.lt_iff_toNat_lt.2 ω)
     have j:b[i]<a[i]:=UInt8.lt_iff_toNat_lt.2 ω
     have m:(b[i].toNat:Int)<a[i].toNat:=by have:=UInt8.lt_iff_toNat_lt.1 j;omega
     rw[if_neg d,if_neg c,if_pos j,if_pos m]
   have k:IntKind.i64.wrap (bo a i)=bo a i:=by rw[<-e];exact wrap64 ω (by have:=UInt8.toNat_lt a[i];omega)
   have o:IntKind.i64.wrap (bo b i)=bo b i:=by rw[<-f];exact wrap64 ω (by have:=UInt8.toNat_lt b[i];omega)
   have g:=rR (bo a i) (bo b i);refine wx ?_;simp -dsimp[h1,h2,p,n,e,f,hq];refine sTx ?_;simp -dsimp[h1,h2,p,n,e,f,k,o];refine sTx ?_;refine cQx g ?_;simp -dsimp;apply l;simp -dsimp;exact hs
 .rw[cmpS_end a b i hi s h]at hx;have g:=rR a.size b.size;by_cases h1:i<a.size
  .have h2:¬i<b.size:=fun h2=>h ⟨h1,h2⟩
   refine wx ?_;simp -dsimp[h1,h2];apply l;simp -dsimp;refine cPx g ?_;simp -dsimp;exact hx
  .refine wx ?_;simp -dsimp[h1];apply l;simp -dsimp;refine cPx g ?_;simp -dsimp;exact hx
def dt(a b:Vl):Int:=if bG a.k b.k=0 then(if bG a.n b.n=0 then mt a.s b.s else bG a.n b.n) else bG a.k b.k
def gI(a b:Vl)(ha:a.s.size<=maxLen):aK prog 191 [aP a,aP b] fun r=>r = .int .i64 (dt a b):=by
 have c:=rR a.k b.k;have d:=rR a.n b.n;have e:=strings01 a.s b.s ha;unfold dt;by_cases h1:bG a.k b.k=0
 .by_cases h2:bG a.n b.n=0
  .rw[if_pos h1,if_pos h2];refine sPx func191 ?_;simp -dsimp[f191,tg,aP];refine cPx c ?_;simp -dsimp[h1];refine cPx d ?_;simp -dsimp[h2];refine cPx e ?_;simp -dsimp
  .rw[if_pos h1,if_neg h2];refine sPx func191 ?_;simp -dsimp[f191,tg,aP];refine cPx c ?_;simp -dsimp[h1];refine cPx d ?_;simp -dsimp[h2]
 .rw[if_neg h1];refine sPx func191 ?_;simp -dsimp[f191,tg,aP];refine cPx c ?_;simp -dsimp[h1]
def fX:List Vl->List Vl->Int
 | [],[]=>0
 | [],_::_=>-1
 | _::_,[]=>1
 | x::xs,y::ys=>if dt x y=0 then fX xs ys else dt x y
def cmpVs_end(us bs:List Vl)(i:Nat)(h1:i<=us.length)(h2:i<=bs.length)(h:¬(i<us.length/\i<bs.length)):fX (us.drop i) (bs.drop i)=bG us.length bs.length:=by
 unfold bG;by_cases ha:i<us.length
 .rw[th ha,tj (l:=bs) ω,fX,if_neg ω,if_pos ω]
 .rw[tj (l:=us) ω];by_cases hb:i<bs.length
  .rw[th hb,fX,if_pos ω]
  .rw[tj (l:=bs) ω,fX,if_neg ω,if_neg ω]
def lists01(us bs:List Vl)(f g:Bool)(hl:us.length<=1000000)(hs:∀v∈us,v.s.size<=maxLen):aK prog 237 [LV f us,LV g bs] fun r=>r = .int .i64 (fX us bs):=by
 obtain⟨E,d⟩:=ξ (fX us bs);rw[<-d];refine sPx func237 ?_;simp -dsimp[f237,tg,LV];refine aI (W_loopM 31 0x7ffffff0 zMx (σ:=Nat) (fun i=>i<=us.length/\i<=bs.length/\fX (us.drop i) (bs.drop i)=E) (fun i=>us.length-i) (fun i=>[(5,.int .i64 i)]) (fun _=>[]) 0 ⟨ω,ω,d.symm⟩ ζ rfl ζ ?_);rintro i ⟨hi,j,hx⟩ N Q e c;by_cases h:i<us.length/\i<bs.length
 .obtain⟨h1,h2⟩:=h;have a:=gI us[i] bs[i] (hs _ (ti h1));simp only[aP]at a;rw[th h1,th h2,fX]at hx;by_cases b:dt us[i] bs[i]=0
  .rw[if_pos b]at hx;refine wx ?_;simp -dsimp[h1,h2,aP];refine sTx ?_;refine cQx a ?_;simp -dsimp[b,aE i ω];refine e (i+1) _ _ ⟨ω,ω,hx⟩ ω ?_ ⟨[],?_⟩ ?_ ?_<;>simp[or_imp,forall_and,L1,aG]
  .rw[if_neg b]at hx;refine wx ?_;simp -dsimp[h1,h2,aP];refine sTx ?_;refine cQx a ?_;simp -dsimp[b];apply c;simp -dsimp;exact hx
 .rw[cmpVs_end us bs i hi j h]at hx;have a:=rR us.length bs.length;by_cases h1:i<us.length
  .have h2:¬i<bs.length:=fun h2=>h ⟨h1,h2⟩
   refine wx ?_;simp -dsimp[h1,h2];apply c;simp -dsimp;refine cPx a ?_;simp -dsimp;exact hx
  .refine wx ?_;simp -dsimp[h1];apply c;simp -dsimp;refine cPx a ?_;simp -dsimp;exact hx
def same01(us bs:List Vl)(f g:Bool)(hl:us.length<=1000000)(hs:∀v∈us,v.s.size<=maxLen):aK prog 187 [LV f us,LV g bs] fun r=>r = .bool (fX us bs == 0):=by
 have a:=lists01 us bs f g hl hs;refine sPx func187 ?_;simp -dsimp[f187,tg];refine cPx a ?_;simp -dsimp
def orI:List Int->Int
 | []=>0
 | x::xs=>if x=0 then orI xs else x
def orInt(xs:List Int)(f:Bool)(hl:xs.length<=1000000):aK prog 114 [L1 f xs] fun r=>r = .int .i64 (orI xs):=by
 obtain⟨E,a⟩:=ξ (orI xs);rw[<-a];refine sPx func114 ?_;simp -dsimp[f114,tg,L1];refine aI (W_loopM 17 0x1ff24 zMx (σ:=Nat) (fun i=>orI (xs.drop i)=E) (fun i=>xs.length-i) (fun i=>[(8,.int .i64 i)]) (fun _=>[]) 0 a.symm ζ rfl ζ ?_);intro i hx N Q c b;by_cases hb:i<xs.length
 .rw[th hb,orI]at hx;by_cases h0:xs[i]=0
  .rw[if_pos h0]at hx;refine wx ?_;simp -dsimp[hb,aG,h0];simp -dsimp[aE i ω];refine c (i+1) _ _ hx ω ζ ⟨[],rfl⟩ (by simp[L1,aG]) ζ
  .rw[if_neg h0]at hx;refine wx ?_;simp -dsimp[hb,aG,h0];apply b;simp -dsimp;exact hx
 .rw[tj ω]at hx;refine wx ?_;simp -dsimp[hb];apply b;simp -dsimp;exact hx
def rN(a b:ByteArray):aK prog 235 [.str a,.str b] fun r=>r = .int .i64 (mt a b):=by
 have c:=cmp_con a b;refine sPx func235 ?_;simp -dsimp[f235,tg];refine cPx c ?_;simp -dsimp
def fZ(a b:Vl):aK prog 181 [aP a,aP b] fun r=>r = .int .i64 (dt a b):=by
 have e:=cmpInt a.k b.k;have d:=cmp64 a.n b.n;have f:=rN a.s b.s;have c:=orInt [bG a.k b.k,bG a.n b.n,mt a.s b.s] true ζ
 have he:orI [bG a.k b.k,bG a.n b.n,mt a.s b.s]=dt a b:=by
  unfold dt;simp only[orI];split
  .split
   .split
    .rename_i h;exact h.symm
    .rfl
   .rfl
  .rfl
 rw[he]at c;simp only[L1,vW,wP,aG]at c;refine sPx func181 ?_;simp -dsimp[f181,tg,aP];refine sTx ?_;refine cQx e ?_;simp -dsimp;refine cQx d ?_;simp -dsimp;refine cQx f ?_;simp -dsimp;refine cQx c ?_;simp -dsimp
def gN(vs:List Vl)(s:Int):Nat->List Vl
 | 0=>[]
 | i+1=>if gd s i then gN vs s i++[vs.getD i ⟨0,0,tp⟩] else gN vs s i
def kC(vs:List Vl)(s:Int):List Vl:=gN vs s vs.length
theorem rK(vs:List Vl)(s:Int):∀i,(gN vs s i).length<=i
 | 0=>by simp[gN]
 | i+1=>by
  have:=rK vs s i;simp only[gN];split
  .simp;omega
  .omega
theorem rJ(vs:List Vl)(s:Int):∀i,i<=vs.length->∀v∈gN vs s i,v∈vs
 | 0,_,v,h=>by simp[gN]at h
 | i+1,hi,v,h=>by
  simp only[gN]at h;split at h
  .rcases List.mem_append.1 h with h | h
   .exact rJ vs s i ω v h
   .simp only[uQ]at h;subst h
    have hb:i<vs.length:=by omega
    have:vs.getD i ⟨0,0,tp⟩=vs[i]:=by simp[hb]
    rw[this];exact ti hb
  .exact rJ vs s i ω v h
def values03(r:Rw)(s:Int)(hl:r.vals.length<=31):aK prog 188 [aF r,.int .u32 s] fun x=>x=LV false (kC r.vals s):=by
 refine sPx func188 ?_;simp -dsimp[f188,tg,aF,LV];refine aI (bh 77 3 [5] ζ (W_loopM 25 0x1ffffe0 zMx (σ:=Nat) (fun i=>i<=r.vals.length) (fun i=>r.vals.length-i) (fun i=>[(6,.int .i64 i),(5,.buf 1 0 (gN r.vals s i).length (gN r.vals s i).length)]) (fun i=>[B.cells [.int .i64 r.id,.lst 3 false (r.vals.map aP)],B.buf 77 3 ((gN r.vals s i).map aP) false]) 0 ω (by simp[gN]) (by simp[gN]) ζ ?_));intro i hi N Q c e;have f:=rK r.vals s i;by_cases hb:i<r.vals.length
 .have a:gN r.vals s (i+1)=if gd s i then gN r.vals s i++[r.vals[i]] else gN r.vals s i:=by simp[gN,hb]
  have b:=has02 s i ω;cases d:gd s i
  .rw[d]at b a;refine wx ?_;simp -dsimp[hb];refine cPx b ?_;simp -dsimp[aE i ω];refine c (i+1) _ _ ω ω ?_ ⟨[],?_⟩ ?_ ?_<;>simp[or_imp,forall_and,L1,aG,a,aP]
  .rw[d]at b a;refine wx ?_;simp -dsimp[hb];refine cPx b ?_;simp -dsimp[hb,aP,qG (gN r.vals s i).length ω,aE i ω];refine c (i+1) _ _ ω ω ?_ ⟨[],?_⟩ ?_ ?_<;>simp[or_imp,forall_and,L1,aG,a,aP]
 .obtain rfl:i=r.vals.length:=by omega
  refine wx ?_;simp -dsimp[hb];apply e;simp -dsimp;exact dr rfl (by simp[kC]) ζ
def kx(a b:Rw)(s:Int):Bool:=fX (kC a.vals s) (kC b.vals s)== 0
def agree03(a b:Rw)(s:Int)(hl:a.vals.length<=31)(f:b.vals.length<=31)(hs:∀v∈a.vals,v.s.size<=maxLen):aK prog 133 [aF a,aF b,.int .u32 s] fun x=>x = .bool (kx a b s):=by
 have d:=values03 a s hl;have c:=values03 b s f;have h1:=rK a.vals s a.vals.length;have e:=same01 (kC a.vals s) (kC b.vals s) false false (by unfold kC;omega) (fun v hv=>hs v (rJ _ _ _ (uA _) v hv));simp only[aF,LV]at d c e;refine sPx func133 ?_;simp -dsimp[f133,tg,aF,LV];refine sTx ?_;refine cQx d ?_;simp -dsimp;refine cQx c ?_;simp -dsimp;refine cQx e ?_;simp -dsimp;rfl
def cmpI_eq(x y:Int):bG x y=0↔x=y:=by
 unfold bG;split
 .simp;omega
 .split<;>simp<;>omega
theorem cmpB_zero:∀(a b:List UInt8),Lib.compareBytes a b=0↔a=b
 | [],[]=>by simp[Lib.compareBytes]
 | [],_::_=>by simp[Lib.compareBytes]
 | _::_,[]=>by simp[Lib.compareBytes]
 | a::xs,b::bs=>by
  rw[Lib.compareBytes,List.cons.injEq];split
  .rename_i h;constructor
   .intro h2;cases h2
   .rintro⟨rfl,_⟩;exact absurd h (UInt8.lt_irrefl _)
  .split
   .rename_i h;constructor
    .intro h2;cases h2
    .rintro⟨rfl,_⟩;exact absurd h (UInt8.lt_irrefl _)
   .rename_i h1 h2;rw[cmpB_zero xs bs];constructor
    .intro h;exact⟨UInt8.le_antisymm (UInt8.not_lt.1 h2) (UInt8.not_lt.1 h1),h⟩
    .exact fun h=>h.2
def cmpS_zero(a b:ByteArray):mt a b=0↔a=b:=by
 unfold mt;rw[cmpB_zero];constructor
 .intro h;cases a;cases b;simp only[ByteArray.mk.injEq];exact Array.ext' h
 .rintro rfl;rfl
def jA(a b:Vl):dt a b=0↔a=b:=by
 unfold dt;have h1:=cmpI_eq a.k b.k;have h2:=cmpI_eq a.n b.n;have e:=cmpS_zero a.s b.s
 have he:a=b↔a.k=b.k/\a.n=b.n/\a.s=b.s:=by cases a;cases b;simp
 rw[he];split
 .rename_i d;split
  .rename_i c;rw[e];exact⟨fun h=>⟨h1.1 d,h2.1 c,h⟩,fun h=>h.2.2⟩
  .rename_i c;exact⟨fun h=>absurd h c,fun h=>absurd (h2.2 h.2.1) c⟩
 .rename_i d;exact⟨fun h=>absurd h d,fun h=>absurd (h1.2 h.1) d⟩
def vAt(vs:List Vl)(a:Nat):Vl:=vs.getD a ⟨0,0,tp⟩
def vAt_in{vs:List Vl}{i:Nat}(h:i<vs.length):vAt vs i=vs[i]:=by simp[vAt,h]
theorem vTo2_eq{us vs:List Vl}{s:Int} : ∀{i:Nat},gN us s i=gN vs s i↔∀k,k<i->gd s k=true->vAt us k=vAt vs k
 | 0=>by simp[gN]
 | i+1=>by
  have a:=vTo2_eq (us:=us) (vs:=vs) (s:=s) (i:=i);simp only[gN]
  cases hb:gd s i with
  | true =>
   simp only[if_true];constructor
   .intro h;obtain⟨h1,h2⟩:=List.append_inj' h rfl;intro k hk hs
    rcases uP k i with e | e
    .exact a.1 h1 k e hs
    .have:k=i:=by omega
     subst this
     exact List.cons.inj h2 |>.1
   .intro h;rw[a.2 (fun k hk hs=>h k ω hs)];have:=h i ω hb;unfold vAt at this;rw[this]
  | false =>
   simp only[uM,if_false];rw[a];constructor
   .intro h k hk hs
    rcases uP k i with e | e
    .exact h k e hs
    .have:k=i:=by omega
     subst this;rw[hb]at hs;cases hs
   .intro h k hk hs;exact h k ω hs
theorem tG:∀{us vs:List Vl},fX us vs=0↔us=vs
 | [],[]=>by simp[fX]
 | [],_::_=>by simp[fX]
 | _::_,[]=>by simp[fX]
 | u::us,v::vs=>by
  rw[fX,List.cons.injEq];have h1:=jA u v;have h2:=tG (us:=us) (vs:=vs);split
  .rename_i h;rw[h2];exact⟨fun a=>⟨h1.1 h,a⟩,fun a=>a.2⟩
  .rename_i h;exact⟨fun a=>absurd a h,fun a=>absurd (h1.2 a.1) h⟩
def agreeR_iff{a b:Rw}{s:Int}(h:a.vals.length=b.vals.length):kx a b s=true↔∀k,k<a.vals.length->gd s k=true->vAt a.vals k=vAt b.vals k:=by
 unfold kx kC;rw[beq_iff_eq,tG,<-h];exact vTo2_eq
def u32w(a:Nat)(h:a<4294967296):IntKind.u32.wrap (a:Int)=a:=by rw[IntKind.wrap_u32];omega
def mod32(a:Nat)(h:a<4294967296):((a:Int) % 2^IntKind.u32.bits).toNat=a:=by
 have:(2:Int)^IntKind.u32.bits=4294967296:=rfl;rw[this];omega
def modN(a:Nat)(h:a<4294967296):a % 2^IntKind.u32.bits=a:=xN h
def or32(a b:Nat)(ha:a<4294967296)(hb:b<4294967296):IntKind.u32.wrap ((a % 2^IntKind.u32.bits ||| b % 2^IntKind.u32.bits:Nat):Int)=((a ||| b:Nat):Int):=by
 rw[modN a ha,modN b hb];exact u32w _ (wh (n:=32) ha hb)
def and32(a b:Nat)(ha:a<4294967296)(hb:b<4294967296):IntKind.u32.wrap ((a % 2^IntKind.u32.bits &&& b % 2^IntKind.u32.bits:Nat):Int)=((a &&& b:Nat):Int):=by
 rw[modN a ha,modN b hb];exact u32w _ (vO xq ha)
def shl32(i:Nat)(h:i<32):IntKind.u32.wrap (2^min i IntKind.u32.bits:Int)=((2^i:Nat):Int):=by
 have h1:min i IntKind.u32.bits=i:=xp (by show i<=32;omega);have h2:2^i<4294967296:=wd ω h;rw[h1,<-u32w _ h2];congr 1
def dy:Nat->Nat
 | 0=>0
 | i+1=>dy i ||| 2^i
theorem kX:∀n,n<=32->dy n<4294967296
 | 0,_=>by simp[dy]
 | i+1,h=>wh (n:=32) (kX i ω) (wd ω ω)
theorem pJ:∀n k,(dy n).testBit k=decide (k<n)
 | 0,k=>by simp[dy]
 | i+1,k=>by
  rw[dy,Nat.testBit_or,pJ i k,xj];rw[vH];simp only[vA,decide_eq_true_eq];omega
def full02(n:Nat)(hn:n<=32):aK prog 25 [.int .i64 n] fun r=>r = .int .u32 (dy n):=by
 refine sPx func25 ?_;simp -dsimp[f25,tg];refine aI (W_loopM 18 0x3fff8 zMx (σ:=Nat) (fun i=>i<=n) (fun i=>n-i) (fun i=>[(4,.int .i64 i),(3,.int .u32 (dy i))]) (fun _=>[]) 0 ω (by simp[dy]) rfl ζ ?_);intro i hi N Q c d;by_cases hb:i<n
 .have h1:=shl32 i ω;have h2:=kX i ω;have a:2^i<4294967296:=wd ω (show i<32 by omega)
  have hf:dy (i+1)=dy i ||| 2^i:=rfl
  obtain⟨p,hp⟩:=ξ (2^i);rw[<-hp]at h1 a hf;have b:=or32 (dy i) p h2 a;rw[<-hf]at b;refine wx ?_;simp -dsimp[hb,(ω:(i:Int)<32),aE i ω,h1,b];refine c (i+1) _ _ ω ω ?_ ⟨[],?_⟩ ?_ ?_<;>simp[or_imp,forall_and,L1,aG]
 .obtain rfl:i=n:=by omega
  refine wx ?_;simp -dsimp[hb];apply d;simp -dsimp
def sub02(a b:Nat)(ha:a<4294967296)(hb:b<4294967296):aK prog 132 [.int .u32 a,.int .u32 b] fun r=>r = .bool (decide (a &&& b=a)):=by
 refine sPx func132 ?_;simp -dsimp[f132,tg,and32 a b ha hb];rw[vH,beq_iff_eq,decide_eq_true_iff];omega
def eU(s i:Nat)(hs:s<4294967296)(hi:i<32):gd s i=s.testBit i:=by
 have h1:min i IntKind.u32.bits=i:=xp (by show i<=32;omega)
 have h2:((s:Int).fdiv (2^i) % 2^IntKind.u32.bits).toNat=s / 2^i:=by
  have a:(s:Int).fdiv (2^i)=((s / 2^i:Nat):Int):=by
   rw[wO _ (by have:(0:Int)<2^i:=Int.pow_pos ω;omega)];simp
  rw[a];exact mod32 _ (vO (Nat.div_le_self _ _) hs)
 have b:(1 % 2^IntKind.u32.bits:Nat)=1:=rfl;unfold gd;rw[h1,h2,b,Nat.and_one_is_mod,u32w _ ω,Nat.testBit_eq_decide_div_mod_eq];rw[vH,beq_iff_eq,decide_eq_true_iff];omega
end
end Go.Proofs.YtnaokiodhoadjaaGreatDoor
