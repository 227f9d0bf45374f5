/- JB42: texts Z1, joined and shortened by pack6.py. -/
import Derived.Test.YtnaokiodhoadjaaGreatDoorJB20
import Derived.Test.YtnaokiodhoadjaaGreatDoorJB41
set_option linter.all false
set_option maxRecDepth 100000
set_option maxHeartbeats 64000000
open ByteArray renaming empty→tp
open Int renaming natCast_mul→wm
open List renaming replicate→tg,range→tr
namespace Go.Proofs.YtnaokiodhoadjaaGreatDoor
section
open Go Go.AM Go.Proofs.Tryz
def root_at{q:Prob}{P:List Nat}{r h:Nat->Nat}(f:Frt q P r h){H:List B}{n N:Nat}(d:q.m*q.n=N)(o:N<=1000000)(p:H[3]?=some (.cells [.int .i64 n,.buf 4 0 N N,.buf 5 0 N N]))(l:H[4]?=some (.buf 3 1 (paL P) false))(s:H[5]?=some (.buf 174 1 (knL q.K N) false))(i:∀bl∈H,rbB H.length bl)(x:Nat)(hx:x<N):
  ak prog 75 [.ptr 3 0,.int .i64 x] H fun t H'=>t = .int .i64 (r x)/\H'=H:=by
 have hl:=aB l
 have b:∀j,∀bl∈Ht H 4 j,rbB H.length bl:=fun j bl c=>by
  unfold Ht at c
  rcases vj c with e | e
  .exact i bl e
  .subst e;simp
 have g:HOk H 3 4 5 n N q.K:=⟨p,hl,s,ω,ω,b⟩
 have a:Ht H 4 P=H:=by
  unfold Ht;apply uw;intro k;by_cases hk:4=k
  .subst hk;rw[uJ hl,l]
  .rw[uH hk]
 have:=rV f d g o x hx;rw[a]at this;exact this
def iP(t:Tb):Nat->List Int
 | 0=>[]
 | x+1=>if(eG t x).k=3 then addK (iP t x) (eG t x).n else iP t x
def usTo_yes{t:Tb}{x:Nat}(h:(eG t x).k=3):iP t (x+1)=addK (iP t x) (eG t x).n:=by rw[iP,if_pos h]
def usTo_no{t:Tb}{x:Nat}(h:¬(eG t x).k=3):iP t (x+1)=iP t x:=by rw[iP,if_neg h]
theorem usTo_mem(t:Tb)(k:Int):∀x,k∈iP t x↔∃y,y<x/\(eG t y).k=3/\(eG t y).n=k
 | 0=>by simp[iP]
 | x+1=>by
  have c:=usTo_mem t k x;by_cases h:(eG t x).k=3
  .rw[usTo_yes h,addK_mem,c];constructor
   .rintro(⟨y,h1,h2,a⟩ | h1)
    .exact⟨y,ω,h2,a⟩
    .exact⟨x,ω,h,h1.symm⟩
   .rintro⟨y,h1,h2,a⟩
    rcases uP y x with b | b
    .exact .inl ⟨y,b,h2,a⟩
    .have:y=x:=by omega
     subst this;exact .inr a.symm
  .rw[usTo_no h,c];constructor
   .rintro⟨y,h1,h2,a⟩;exact⟨y,ω,h2,a⟩
   .rintro⟨y,h1,h2,a⟩
    rcases uP y x with b | b
    .exact⟨y,b,h2,a⟩
    .have:y=x:=by omega
     subst this;exact absurd h2 h
def unkT_iff{t:Tb}{k:Int} : unkT t k=true↔∃y,y<t.rows.length*t.attrs.length/\(eG t y).k=3/\(eG t y).n=k:=by
 unfold unkT;simp[wY]
def usTo_all(t:Tb)(k:Int):cY (iP t (t.rows.length*t.attrs.length)) k=unkT t k:=by
 rw[vH,bP,usTo_mem,unkT_iff]
def TbN(t:Tb):Prop:=∀y,y<t.rows.length*t.attrs.length->(eG t y).n<=1000000
def TbN.bnd{t:Tb}(h:TbN t):Bnd (unkT t) 1000000:=fun k hk=>by
 obtain⟨y,h1,_,a⟩:=unkT_iff.1 hk;have:=h y h1;omega
def fV:Int->V:=fun _=>.bool true
noncomputable def gk(u:Int->Bool)(c:Nat->Dm):Int->V:=fun k=>.agg [.int .i64 3,.int .i64 (cls u c k.toNat),.str tp]
@[simp ↓ high] theorem rb_BT (n:Nat) (kk:KK) (us:List Int):rbB n (.map kk (mF fV us))↔True:=rbB_mF (fun _ _=>by simp[fV]) n kk us
@[simp ↓ high] theorem rb_NM (n:Nat) (kk:KK) (u:Int->Bool) (c:Nat->Dm) (us:List Int):rbB n (.map kk (mF (gk u c) us))↔True:=rbB_mF (fun _ _=>by simp[gk]) n kk us
def toI(l:List Nat):List Int:=l.map fun(x:Nat)=>(x:Int)
def toI_snoc(l:List Nat)(x:Nat):toI (l++[x])=toI l++[(x:Int)]:=by simp[toI]
def toI_mem{l:List Nat}{x:Nat} : cY (toI l) (x:Int)=true↔x∈l:=by
 rw[bP];unfold toI;constructor
 .intro h;obtain⟨y,a,he⟩:=List.mem_map.1 h
  have:y=x:=by omega
  rw[<-this];exact a
 .intro h;exact List.mem_map.2 ⟨x,h,rfl⟩
def toI_no{l:List Nat}{x:Nat}(h:¬x∈l):cY (toI l) (x:Int)=false:=by
 cases hb:cY (toI l) (x:Int)
 .rfl
 .exact absurd (toI_mem.1 hb) h
noncomputable def qK(u:Int->Bool)(c:Nat->Dm)(b a:Nat):List Vl:=(tr a).map fun k=>qN u c (b+k)
def vlTo_succ(u:Int->Bool)(c:Nat->Dm)(b a:Nat):qK u c b (a+1)=qK u c b a++[qN u c (b+a)]:=by simp[qK,ue]
def vlTo_len(u:Int->Bool)(c:Nat->Dm)(b a:Nat):(qK u c b a).length=a:=by simp[qK]
noncomputable def rwTo(t:Tb)(c:Nat->Dm)(i:Nat):List Rw:=(tr i).map (pO t c)
def rwTo_succ(t:Tb)(c:Nat->Dm)(i:Nat):rwTo t c (i+1)=rwTo t c i++[pO t c i]:=by simp[rwTo,ue]
def rwTo_len(t:Tb)(c:Nat->Dm)(i:Nat):(rwTo t c i).length=i:=by simp[rwTo]
theorem filRow_eq(t:Tb)(c:Nat->Dm)(i:Nat):pO t c i=⟨(rwAt t i).id,qK (unkT t) c (i*t.attrs.length) t.attrs.length⟩:=rfl
def zeroT:V:=.agg [.str tp,.nilS,.nilS]
noncomputable def FillR(t:Tb)(fds:List Fd)(l:List Cr):V:=if gy t fds l=0 then(if okB (aQ t fds l) then .tup [aD false false (sY t fds l),.int .i64 0] else .tup [zeroT,.int .i64 15]) else .tup [zeroT,.int .i64 (gy t fds l)]
def fill_at{t:Tb}{fds:List Fd}{l:List Cr}(hv:TbV t)(j:ef fds){e:List B}(g:HOk e 3 4 5 t.attrs.length (t.rows.length*t.attrs.length) (aQ t fds l).K)(f:Ht e 4 (tr (t.rows.length*t.attrs.length))=e)(h:Bool):
  ak prog 73 [.ptr 3 0,.int .i64 t.rows.length,LF h fds] e fun i H'=>∃P G,i = .bool (okB (aQ t fds l))/\H'=Ht e 4 P++G/\(okB (aQ t fds l)=true->G=[]/\Fr (aQ t fds l) P/\eg (aQ t fds l) (rFn (aQ t fds l) P)):=by
 have c:=fill_u (frt_init (aQ t fds l)) (rfl:(aQ t fds l).m*(aQ t fds l).n=_) rfl g (mW hv) hv.attrs (by have:=hv.rows;show t.rows.length<=_;omega) h j;rw[show tr ((aQ t fds l).m*(aQ t fds l).n)=tr (t.rows.length*t.attrs.length) from rfl,f]at c
 exact c.mono fun r H ⟨a,b,d⟩=>⟨_,_,a,b,d⟩
def Fill_u(t:Tb)(o y df cf:Bool)(fds:List Fd)(l:List Cr)(ht:TbOk t)(hB:TbN t)(hF:ef fds)(an:l.length<=1000000):
  aK prog 37 [aD o y t,LF df fds,LC cf l] fun r=>r=FillR t fds l:=by
 have c1:=check_u5 t o y df cf fds l ht hF an;simp only[aD,LS,LR,LC,LF]at c1;unfold FillR;by_cases h:gy t fds l=0
 .obtain⟨hv,h1,h2,h3,h4⟩:=chkE_ok ht h;rw[if_pos h];rw[h]at c1;obtain⟨b0,Y⟩:=ξ (B.cells [.str t.name,.lst 1 o (t.attrs.map V.str),.lst 2 y (t.rows.map aF)]);obtain⟨b1,be⟩:=ξ (B.cells [.str tp,.nilS,.nilS])
  have dc:∀bl∈[b0,b1],rbB 1 bl:=by rw[Y,be];simp
  have cB:∀bl∈[b0,b1],rbB [b0,b1].length bl:=by rw[Y,be];simp
  have cb:=begin2 t o y cf fds l hv h3 an b0 b1 dc;have g:HOk (iY [b0,b1] o y t (aQ t fds l).K) 3 4 5 t.attrs.length (t.rows.length*t.attrs.length) (aQ t fds l).K:=begOk [b0,b1] o y t (aQ t fds l).K cB;have dk:Ht (iY [b0,b1] o y t (aQ t fds l).K) 4 (tr (t.rows.length*t.attrs.length))=iY [b0,b1] o y t (aQ t fds l).K:=begHt [b0,b1] o y t (aQ t fds l).K;have I:=fill_at hv hF g dk df;obtain⟨n,F⟩:=ξ t.attrs.length;obtain⟨m,O⟩:=ξ t.rows.length;obtain⟨q,hq⟩:=ξ (aQ t fds l);obtain⟨N,a7⟩:=ξ (m*n);have z:=F.symm;have b:=O.symm;obtain⟨H1,b3⟩:=ξ (iY [b0,b1] o y t (aQ t fds l).K)
  have cI:H1[0]?=some (B.cells [.str t.name,.lst 1 o (t.attrs.map V.str),.lst 2 y (t.rows.map aF)]):=by rw[b3,Y];rfl
  have b9:∀P G,Ht H1 4 P++G=B.cells [.str t.name,.lst 1 o (t.attrs.map V.str),.lst 2 y (t.rows.map aF)]::B.cells [.str tp,.nilS,.nilS]::B.cells [.str t.name,.lst 1 o (t.attrs.map V.str),.lst 2 y (t.rows.map aF)]::B.cells [.int .i64 n,.buf 4 0 N N,.buf 5 0 N N]::B.buf 3 1 (paL P) false::B.buf 174 1 (knL q.K N) false::G:=fun P G=>by
   rw[b3,Y,be,hq,a7,O,F];simp[Ht,iY,LS,LR]
  rw[<-b3]at cb I;rw[Y,be]at cb;rw[<-hq,b]at I;rw[<-hq];simp only[aD,LS,LR,LC]at cb;simp only[LF]at I;have cs:=clone_S t.attrs o (by have:=ht.attrs;omega);simp only[LS]at cs
  cases cg:okB q with
  | false =>
   rw[cg]at I;rw[if_neg ζ];refine sPx func37 ?_;simp -dsimp[f37,tg,aD,LS,LR,LC,LF];refine cPx c1 ?_;simp -dsimp;refine gL cb ?_;rintro r' H' ⟨rfl,rfl⟩;simp -dsimp[cI,b];refine gL I ?_;rintro r' H' ⟨P,G,rfl,rfl,_⟩;rw[b9];simp -dsimp;rfl
  | true =>
   rw[cg]at I;rw[if_pos rfl];have hm:=hv.rows;have hn:=hv.attrs;rw[b]at hm;rw[z]at hn;have b8:m*n<=1000*16:=wS hm hn
   have fa:N<=16000:=by omega
   have ck:q.m=m:=by rw[hq,O];rfl
   have dE:q.n=n:=by rw[hq,F];rfl
   have T:q.m*q.n=N:=by rw[ck,dE,a7]
   refine sPx func37 ?_;simp -dsimp[f37,tg,aD,LS,LR,LC,LF];refine cPx c1 ?_;simp -dsimp;refine gL cb ?_;rintro r' H' ⟨rfl,rfl⟩;simp -dsimp[cI,b];refine gL I ?_;rintro r' H' ⟨P,G,rfl,rfl,hh⟩;obtain⟨rfl,⟨fb,f⟩,bi⟩:=hh rfl;rw[b9];obtain⟨r,hr⟩:=ξ (rFn q P);rw[<-hr]at f bi;obtain⟨c,hc⟩:=ξ (eM q r);have c2:GenS q c:=hc▸f.gen bi;have c3:sY t fds l=filT t c:=filTb_eq (hq▸c2);obtain⟨u,hu⟩:=ξ (unkT t)
   have cE:∀k,0<=kR u k/\kR u k<=1000000+k:=fun k=>by rw[hu];exact numP_le hB.bnd ω k
   simp -dsimp[b];refine aI (W_loopM 67 0x7ffff000000005000 zMx (σ:=Nat) (fun i=>i<=m) (fun i=>m-i) (fun i=>[(48,.int .i64 i)]) (fun i=>[B.cells [.str t.name,.lst 1 o (t.attrs.map V.str),.lst 2 y (t.rows.map aF)],B.cells [.str tp,.nilS,.nilS],B.cells [.str t.name,.lst 1 o (t.attrs.map V.str),.lst 2 y (t.rows.map aF)],B.cells [.int .i64 n,.buf 4 0 N N,.buf 5 0 N N],B.buf 3 1 (paL P) false,B.buf 174 1 (knL q.K N) false,B.map (.int .i64) (mF fV (iP t (i*n)))]) 0 ω ζ (by simp[iP,mF_nil]) ζ ?_);intro i hi N1 Q1 c5 dd;by_cases J:i<m
   .skip
    have hit:i<t.rows.length:=by omega
    obtain⟨rw,L⟩:=ξ (t.rows[i]);have X:=L.symm
    have W:rw.vals.length=n:=by rw[L,F];exact hv.len _ (ti hit)
    refine wx ?_;simp -dsimp[J,b,hit,X,aF,LV,W];refine aI (W_loopM 66 0x3ff80000000004000 zMx (σ:=Nat×Nat) (fun p=>p.1<=n/\p.2=i*n+p.1) (fun p=>n-p.1) (fun p=>[(55,.int .i64 p.1)]) (fun p=>[B.cells [.str t.name,.lst 1 o (t.attrs.map V.str),.lst 2 y (t.rows.map aF)],B.cells [.str tp,.nilS,.nilS],B.cells [.str t.name,.lst 1 o (t.attrs.map V.str),.lst 2 y (t.rows.map aF)],B.cells [.int .i64 n,.buf 4 0 N N,.buf 5 0 N N],B.buf 3 1 (paL P) false,B.buf 174 1 (knL q.K N) false,B.map (.int .i64) (mF fV (iP t p.2)),B.cells [.int .i64 rw.id,.lst 3 false (rw.vals.map aP)]]) (0,i*n) ⟨ζ,ζ⟩ ζ ζ ζ ?_);rintro⟨a,x⟩ ⟨ha,hx⟩ N2 Q2 az c9;simp only at ha hx az;by_cases w:a<n
    .have ba:a<rw.vals.length:=by omega
     obtain⟨v,cm⟩:=ξ (rw.vals[a]);have ax:=cm.symm
     have c7:eG t x=v:=by
      rw[hx,F,qf t (F▸w),cS hit,<-L,lB ba,cm]
     have E:=fun h=>usTo_yes (t:=t) (x:=x) h
     have bx:=fun h=>usTo_no (t:=t) (x:=x) h
     rw[c7]at E bx;by_cases hk:v.k=3
     .have E:=E hk
      cases e:cY (iP t x) v.n with
      | false =>
       rw[addK_no e]at E;have hf:=ny (enc:=fV) (i:=0) e;have bz:mF fV (iP t x++[v.n])=mF fV (iP t x)++[(V.int .i64 v.n,V.bool true)]:=mF_snoc _ _ _;refine wx ?_;simp -dsimp[w,W,ba,ax,aP,hk,hf,aE a ω];refine az (a+1,x+1) _ _ ⟨θ,θ⟩ θ ζ ⟨[B.cells [.int .i64 v.k,.int .i64 v.n,.str v.s]],by simp[E,bz,hk]⟩ ζ ζ
      | true =>
       rw[addK_yes e]at E;obtain⟨j,hf,hj⟩:=iu (enc:=fV) (i:=0) e;have b5:(mF fV (iP t x)).set j (V.int .i64 v.n,V.bool true)=mF fV (iP t x):=set_mF hj;rw[vD]at hf;refine wx ?_;simp -dsimp[w,W,ba,ax,aP,hk,hf,b5,aE a ω];refine az (a+1,x+1) _ _ ⟨θ,θ⟩ θ ζ ⟨[B.cells [.int .i64 v.k,.int .i64 v.n,.str v.s]],by simp[E,hk]⟩ ζ ζ
     .have E:=bx hk;refine wx ?_;simp -dsimp[w,W,ba,ax,aP,hk,aE a ω];refine az (a+1,x+1) _ _ ⟨θ,θ⟩ θ ζ ⟨[B.cells [.int .i64 v.k,.int .i64 v.n,.str v.s]],by simp[E]⟩ ζ ζ
    .have aA:(i+1)*n=x:=by rw[uR];omega
     refine wx ?_;simp -dsimp[w,W];apply c9;simp -dsimp[aE i ω];refine c5 (i+1) _ _ ω ω ζ ⟨[B.cells [.int .i64 rw.id,.lst 3 false (rw.vals.map aP)]],by simp[aA]⟩ ζ ζ
   .obtain rfl:i=m:=by omega
    have cj:∀k,cY (iP t (i*n)) k=u k:=fun k=>by rw[O,F,hu];exact usTo_all t k
    obtain⟨us,ce⟩:=ξ (iP t (i*n));rw[<-ce]at cj ⊢;have ci:=hB.bnd;rw[<-hu]at ci;refine wx ?_;simp -dsimp[J,b];apply dd;simp -dsimp;refine aI (ae tok mixed [6,7] [(0,[1]),(1,[1]),(2,[1]),(3,[1]),(4,[1]),(5,[1])] [(.lst 1 false (t.attrs.map V.str),[])] υ fun C K hC hK=>?_);simp -implicitDefEqProofs [];refine⟨⟨hC _ _ _ _ (bQ cs ζ),hC _ _ _ _ (bQ cs ζ)⟩,hK _ _ ?_⟩;obtain⟨m,ca⟩:=ξ i;rw[<-ca]at hm b8 ck a7 O b;clear J hi ca;simp -dsimp[b];refine aI (cx 71 2 [] 7 [2] rfl (iD _ _) ζ (W_loopM 158 0x3fffffffffffffffffffe0000000000001fd0000 zMx (σ:=Nat) (fun i=>i<=m) (fun i=>m-i) (fun i=>[(77,.int .i64 i),(16,.int .i64 (kR u (dw c (i*n))))]) (fun i=>[B.cells [.str t.name,.lst 1 o (t.attrs.map V.str),.lst 2 y (t.rows.map aF)],B.cells [.str tp,.nilS,.nilS],B.cells [.str t.name,.lst 1 o (t.attrs.map V.str),.lst 2 y (t.rows.map aF)],B.cells [.int .i64 n,.buf 4 0 N N,.buf 5 0 N N],B.buf 3 1 (paL P) false,B.buf 174 1 (knL q.K N) false,B.map (.int .i64) (mF fV us),B.cells [.str t.name,.lst 1 false (t.attrs.map V.str),.buf 9 0 i i],B.map (.int .i64) (mF (gk u c) (toI (nmL c r (i*n)))),B.buf 71 2 ((rwTo t c i).map aF) false]) 0 ω (by simp[dw,kR]) (by simp[nmL_zero,toI,mF_nil,rwTo]) ζ ?_));intro i hi N3 Q3 e7 eF;by_cases J:i<m
    .have hit:i<t.rows.length:=by omega
     obtain⟨rw,L⟩:=ξ (t.rows[i]);have X:=L.symm
     have W:rw.vals.length=n:=by rw[L,F];exact hv.len _ (ti hit)
     refine wx ?_;simp -dsimp[J,b,hit,X,aF,LV,z];refine aI (cx 77 3 [] 11 [1] rfl (iD _ _) ζ (W_loopM 151 0x7fffffffffffffff0000000000000001e10000 zMx (σ:=Nat×Nat) (fun p=>p.1<=n/\p.2=i*n+p.1) (fun p=>n-p.1) (fun p=>[(88,.int .i64 p.1),(16,.int .i64 (kR u (dw c p.2)))]) (fun p=>[B.cells [.str t.name,.lst 1 o (t.attrs.map V.str),.lst 2 y (t.rows.map aF)],B.cells [.str tp,.nilS,.nilS],B.cells [.str t.name,.lst 1 o (t.attrs.map V.str),.lst 2 y (t.rows.map aF)],B.cells [.int .i64 n,.buf 4 0 N N,.buf 5 0 N N],B.buf 3 1 (paL P) false,B.buf 174 1 (knL q.K N) false,B.map (.int .i64) (mF fV us),B.cells [.str t.name,.lst 1 false (t.attrs.map V.str),.buf 9 0 i i],B.map (.int .i64) (mF (gk u c) (toI (nmL c r p.2))),B.buf 71 2 ((rwTo t c i).map aF) false,B.cells [.int .i64 rw.id,.lst 3 false (rw.vals.map aP)],B.cells [.int .i64 rw.id,.buf 12 0 p.1 p.1],B.buf 77 3 ((qK u c (i*n) p.1).map aP) false]) (0,i*n) ⟨ζ,ζ⟩ ζ (by simp[qK]) ζ ?_));rintro⟨a,x⟩ ⟨ha,hx⟩ N4 Q4 a8 e1;simp only at ha hx a8;by_cases w:a<n
     .have a6:x<N:=by rw[hx,a7];exact bc J w
      have br:x<q.m*q.n:=by rw[T];exact a6
      have H:r x<N:=by have:=f.lt x br;rw[T]at this;exact this
      have ay:=ni q.K N
      have Q:=fun h=>nj q.K (N:=N) (x:=r x) h
      have d:=vlTo_len u c (i*n) a;have A:=vlTo_succ u c (i*n) a;rw[<-hx]at A;have e9:=rank_le c x;obtain⟨c4,e8⟩:=cE (dw c x);obtain⟨yi,Z⟩:=ξ (i*n)
      have w1:IntKind.i64.wrap ((i:Int)*n)=(yi:Int):=by rw[Z,wrap64 (by rw[<-wm];omega) (by rw[<-wm];omega)];push_cast;rfl
      have w2:IntKind.i64.wrap ((yi:Int)+(a:Int))=(x:Int):=by rw[wrap64 ω ω];omega
      rw[<-Z]at d A ⊢;obtain⟨vl,bv⟩:=ξ (qK u c yi a);rw[<-bv]at d A;rw[<-bv]
      cases hK:q.K (r x) with
      | some v =>
       skip
       have cw:c x = .inl v:=by rw[hc];unfold eM;rw[hK]
       have M:¬(fU (c x)/\fp c x=x):=fun h=>isSym_inl cw h.1
       have al:=rank_old M;have S:=nmL_old (r:=r) M;rw[out_inl cw]at A;rw[hK]at Q;refine wx ?_;simp -dsimp[w,z,w1,w2];refine gL (root_at f T ω rfl rfl rfl ζ x a6) ?_;rintro r' H' ⟨rfl,rfl⟩;simp -dsimp[ay,H,Q,fm,fk];refine aI (ae tok mixed [12,14] [] [] υ fun C K hC hK=>?_);simp -implicitDefEqProofs [ay,H,Q,fm,d,qG a ω];apply hK;simp -dsimp[aE a ω];refine a8 (a+1,x+1) _ _ ⟨θ,θ⟩ θ (by simp[al]) ⟨[],by simp[S,<-Z,A,aP]⟩ ζ ζ
      | none =>
       have bb:fU (c x):=by rw[hc];unfold eM;rw[hK];exact⟨r x,rfl⟩
       have ct:fU (eM q r x):=by rw[<-hc];exact bb
       have e6:r (r x)=r x:=f.self (r x) (by rw[T];exact H) (f.root x br)
       have c6:c (r x)=c x:=by rw[hc];unfold eM;rw[e6]
       have D:cls u c (r x)=cls u c x:=cls_uniq c6;have e:=nmL_mem ct;rw[<-hc]at e;rw[out_inr bb]at A;rw[hK]at Q;by_cases U:fp c x=x
       .have M:¬r x∈nmL c r x:=fun hm=>e.1 hm U
        have hf:=ny (enc:=gk u c) (i:=0) (toI_no M);have al:=rank_new bb U;have S:=nmL_new (r:=r) bb U;have an:=cls_new (u:=u) U;obtain⟨R,b4⟩:=nxt_ok ci (kR u (dw c x))
        have cp:kR u (dw c (x+1))=cls u c x:=by rw[al,an];rfl
        rw[<-an]at R b4;obtain⟨n0,b6⟩:=ξ (kR u (dw c x));obtain⟨nx,e2⟩:=ξ (cls u c x);rw[<-e2]at R b4 cp A D;rw[<-b6]at R b4 c4 e8
        have bz:mF (gk u c) (toI (nmL c r x))++[(V.int .i64 (r x:Int),V.agg [.int .i64 3,.int .i64 nx,.str tp])]=mF (gk u c) (toI (nmL c r (x+1))):=by
         rw[S,toI_snoc,mF_snoc];simp[gk,D]
        have dh:cY (toI (nmL c r (x+1))) (r x:Int)=true:=toI_mem.2 (by rw[S];simp);obtain⟨j,b2,_⟩:=iu (enc:=gk u c) (i:=0) dh;rw[vD]at b2
        have ad:gk u c (r x:Int)=V.agg [.int .i64 3,.int .i64 nx,.str tp]:=by simp[gk,D]
        rw[ad]at b2;have cA:=b6.symm;refine wx ?_;simp -dsimp[w,z,w1,w2];refine gL (root_at f T ω rfl rfl rfl ζ x a6) ?_;rintro r' H' ⟨rfl,rfl⟩;simp -dsimp[ay,H,Q,fm,fk,hf,cA,wrap64 (n:=n0+1) ω ω];refine aI (W_loopM 138 0x3e048000000000000000000000000010000 zMx (σ:=Int) (fun k=>n0<k/\k<=nx) (fun k=>(nx-k).toNat) (fun k=>[(16,.int .i64 k)]) (fun _=>[B.cells [.str t.name,.lst 1 o (t.attrs.map V.str),.lst 2 y (t.rows.map aF)],B.cells [.str tp,.nilS,.nilS],B.cells [.str t.name,.lst 1 o (t.attrs.map V.str),.lst 2 y (t.rows.map aF)],B.cells [.int .i64 n,.buf 4 0 N N,.buf 5 0 N N],B.buf 3 1 (paL P) false,B.buf 174 1 (knL q.K N) false,B.map (.int .i64) (mF fV us),B.cells [.str t.name,.lst 1 false (t.attrs.map V.str),.buf 9 0 i i],B.map (.int .i64) (mF (gk u c) (toI (nmL c r (x)))),B.buf 71 2 ((rwTo t c i).map aF) false,B.cells [.int .i64 rw.id,.lst 3 false (rw.vals.map aP)],B.cells [.int .i64 rw.id,.buf 12 0 a a],B.buf 77 3 (vl.map aP) false,B.cells [.int .i64 0,.int .i64 0,.str tp]]) (n0+1) ⟨ω,by have:=R.gt;omega⟩ ζ ζ ζ ?_);rintro k ⟨c8,fc⟩ N5 Q5 e3 eX;have aJ:=cj k;by_cases de:k=nx
        .subst de;rw[R.free]at aJ;have a2:=ny (enc:=fV) (i:=0) aJ;refine wx ?_;simp -dsimp[a2];apply eX;simp -dsimp[hf,bz,b2,d,qG a ω,aE a ω];refine a8 (a+1,x+1) _ _ ⟨θ,θ⟩ θ (by simp[cp]) ⟨[B.cells [.int .i64 0,.int .i64 0,.str tp]],by simp[<-Z,A,aP]⟩ ζ ζ
        .rw[R.all k c8 ω]at aJ;obtain⟨j3,a2,_⟩:=iu (enc:=fV) (i:=0) aJ;rw[vD,show fV k=V.bool true from rfl]at a2;refine wx ?_;simp -dsimp[a2,wrap64 (n:=k+1) ω ω];refine e3 (k+1) _ _ ⟨ω,ω⟩ ω ζ ⟨[],ζ⟩ ζ ζ
       .skip
        have b7:r x∈nmL c r x:=e.2 U;obtain⟨j,hf,_⟩:=iu (enc:=gk u c) (i:=0) (toI_mem.2 b7);rw[vD]at hf
        have ad:gk u c (r x:Int)=V.agg [.int .i64 3,.int .i64 (cls u c x),.str tp]:=by simp[gk,D]
        rw[ad]at hf
        have M:¬(fU (c x)/\fp c x=x):=fun h=>U h.2
        have al:=rank_old M;have S:=nmL_old (r:=r) M;refine wx ?_;simp -dsimp[w,z,w1,w2];refine gL (root_at f T ω rfl rfl rfl ζ x a6) ?_;rintro r' H' ⟨rfl,rfl⟩;simp -dsimp[ay,H,Q,fm,fk,hf,d,qG a ω,aE a ω];refine a8 (a+1,x+1) _ _ ⟨θ,θ⟩ θ (by simp[al]) ⟨[B.cells [.int .i64 3,.int .i64 (cls u c x),.str tp]],by simp[S,<-Z,A,aP]⟩ ζ ζ
     .obtain rfl:a=n:=by omega
      have d:=vlTo_len u c (i*a) a
      have aA:(i+1)*a=x:=by rw[uR];omega
      have bY:=rwTo_len t c i;have e5:=rwTo_succ t c i
      have e4:aF (pO t c i)= .agg [.int .i64 rw.id,.lst 3 false ((qK u c (i*a) a).map aP)]:=by
       rw[filRow_eq,cS hit,<-L,<-F,<-hu];rfl
      refine fA 12 [] 11 [1] rfl rfl ζ (by simp[d]) ?_;refine wx ?_;simp -dsimp[w,z];apply e1;simp -dsimp[bY,qG i ω,aE i ω];refine e7 (i+1) _ _ ω ω (by simp[aA]) ⟨[B.cells [.int .i64 rw.id,.lst 3 false (rw.vals.map aP)],B.cells [.int .i64 rw.id,.lst 3 false ((qK u c (i*a) a).map aP)],B.buf 77 3 ((qK u c (i*a) a).map aP) true],by simp[aA,e5,e4]⟩ ζ ζ
    .obtain rfl:i=m:=by omega
     have bY:=rwTo_len t c i;refine fA 9 [] 7 [2] rfl rfl ζ (by simp[bY]) ?_;refine wx ?_;simp -dsimp[J,b];apply eF;simp -dsimp;rw[c3];simp[aD,LS,LR,filT,rwTo,O]
 .rw[if_neg h];refine sPx func37 ?_;simp -dsimp[f37,tg,aD,LS,LR,LC,LF];refine cPx c1 ?_;simp -dsimp[h];rfl
end
end Go.Proofs.YtnaokiodhoadjaaGreatDoor
