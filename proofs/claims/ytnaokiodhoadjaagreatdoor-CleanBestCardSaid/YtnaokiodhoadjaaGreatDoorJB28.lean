/- JB28: texts H1, H2, H5, GrN, CatN, OwB, Ag, CatC, joined and shortened by pack6.py. -/
import Derived.Test.YtnaokiodhoadjaaGreatDoorJB10
import Derived.WalkKit
import Derived.Lib.Walk
import Derived.Lib.SliceRun
import Derived.Lib.AppendZerosOnto
import Derived.OwnWalk
set_option linter.all false
set_option maxRecDepth 100000
set_option maxHeartbeats 64000000
open Int renaming toNat_natCast→wT
open List renaming replicate→tg,range→tr,nil_append→uL,length_cons→uX,cons_append→ur,all_cons→vE,length_nil→vm,getD→wU,singleton_append→wX,set_cons_zero→wZ,all_nil→xd,replicate_zero→xl
open Nat renaming add_zero→vk
namespace Go.Proofs.YtnaokiodhoadjaaGreatDoor
section
open Go Go.AM Go.Proofs.Tryz
def LLi(g:Bool)(es:List (List Int)):V:=.lst 1 g (es.map (L1 false))
@[simp] theorem LLi_pure (g:Bool) (es:List (List Int)):AM.Pure (LLi g es):=by simp[LLi]
def jl(f g:Bool)(ws:List Int)(es:List (List Int)):V:=.agg [L1 f ws,LLi g es]
@[simp] theorem encHs_pure (f g:Bool) (ws:List Int) (es:List (List Int)):AM.Pure (jl f g ws es):=by simp[jl]
def wOk(w:Int):Bool:=decide (1<=w)&&decide (w<=1000000)
def gn(n:Int):Int->List Int->Bool
 | _,[]=>true
 | last,v::vs=>(decide (last<v)&&decide (v<n))&&gn n v vs
def eOk(n:Int)(e:List Int):Bool:=gn n (-1) e&&!e.isEmpty
def kJ(n:Int)(es:List (List Int)):Int:=if es.all (eOk n) then 0 else 1
def oh(ws:List Int)(es:List (List Int)):Int:=if 200<ws.length\/2000<es.length then 3 else if ws.all wOk then kJ ws.length es else 1
def hsValid(ws:List Int)(es:List (List Int))(f g:Bool)(hl:∀e∈es,e.length<=1000000):aK prog 59 [jl f g ws es] fun r=>r = .int .i64 (oh ws es):=by
 unfold oh;by_cases h1:200<ws.length
 .rw[if_pos (.inl h1)];refine sPx func59 ?_;simp -dsimp[f59,tg,jl,LLi,(ω:(200:Int)<ws.length),L1]
 .by_cases h2:2000<es.length
  .rw[if_pos (.inr h2)];refine sPx func59 ?_;simp -dsimp[f59,tg,jl,LLi,(ω:¬(200:Int)<ws.length),(ω:(2000:Int)<es.length),L1]
  .rw[if_neg (fun h=>h.elim h1 h2)]
   obtain⟨E,G⟩:=ξ (if ws.all wOk then kJ ws.length es else 1)
   rw[<-G];refine sPx func59 ?_;simp -dsimp[f59,tg,jl,LLi,(ω:¬(200:Int)<ws.length),(ω:¬(2000:Int)<es.length),L1];refine aI (W_loopM 34 0x3ff800014 zMx (σ:=Nat) (fun i=>i<=ws.length/\(if(ws.drop i).all wOk then kJ ws.length es else 1)=E) (fun i=>ws.length-i) (fun i=>[(23,.int .i64 i)]) (fun _=>[B.cells [.lst 1 f (ws.map aG),.lst 1 g (es.map (L1 false))]]) 0 ⟨ω,by rw[uG,G]⟩ ζ (by simp[L1]) ζ ?_);rintro i ⟨hi,hx⟩ L N A s;by_cases hb:i<ws.length
   .rw[th hb,vE]at hx;obtain⟨w,H⟩:=ξ (ws[i]);rw[<-H]at hx;have u:=H.symm;by_cases q1:1<=w
    .by_cases x:w<=1000000
     .rw[show wOk w=true by simp[wOk,q1,x],uF]at hx;refine wx ?_;simp -dsimp[hb,u,aG,(ω:¬w<1),(ω:¬(1000000:Int)<w),aE i ω,L1];refine A (i+1) _ _ ⟨ω,hx⟩ ω ?_ ⟨[],?_⟩ ?_ ?_<;>simp[or_imp,forall_and,L1,aG]
     .rw[show wOk w=false by simp[wOk,x],uE,if_neg ζ]at hx;refine wx ?_;simp -dsimp[hb,u,aG,(ω:¬w<1),(ω:(1000000:Int)<w),L1];apply s;simp -dsimp[L1];exact hx
    .rw[show wOk w=false by simp[wOk,q1],uE,if_neg ζ]at hx;refine wx ?_;simp -dsimp[hb,u,aG,(ω:w<1),L1];apply s;simp -dsimp[L1];exact hx
   .rw[tj ω,xd,if_pos rfl]at hx;refine wx ?_;simp -dsimp[hb,L1];apply s;simp -dsimp[L1];refine aI (W_loopM 63 0x7fffffe0000002c4 zMx (σ:=Nat) (fun j=>j<=es.length/\kJ ws.length (es.drop j)=E) (fun j=>es.length-j) (fun j=>[(37,.int .i64 j)]) (fun _=>[B.cells [.lst 1 f (ws.map aG),.lst 1 g (es.map (L1 false))]]) 0 ⟨ω,by rw[uG,hx]⟩ ζ (by simp[L1]) ζ ?_);rintro j ⟨K,q⟩ O M D m;by_cases n:j<es.length
    .rw[th n,kJ,vE]at q;have C:=hl es[j] (ti n);obtain⟨e,he⟩:=ξ (es[j]);rw[<-he]at q C;have z:=he.symm;obtain⟨R,F⟩:=ξ ((es.drop (j+1)).all (eOk ws.length));rw[<-F]at q;rw[eOk]at q;refine wx ?_;simp -dsimp[n,z,L1];refine aI (W_loopM 59 0x7fff80000000284 zMx (σ:=Nat×Int) (fun p=>p.1<=e.length/\(if((gn ws.length p.2 (e.drop p.1)&&!e.isEmpty)&&R)=true then(0:Int) else 1)=E) (fun p=>e.length-p.1) (fun p=>[(43,.int .i64 p.1),(7,.int .i64 p.2)]) (fun _=>[B.cells [.lst 1 f (ws.map aG),.lst 1 g (es.map (L1 false))]]) (0,-1) ⟨ζ,by rw[uG];exact q⟩ ζ (by simp[L1]) ζ ?_);rintro⟨k,c⟩ ⟨hk,hz⟩ J I y l;simp only at hk hz y;by_cases d:k<e.length
     .rw[th d,gn]at hz;obtain⟨v,hv⟩:=ξ (e[k]);rw[<-hv]at hz;have o:=hv.symm;by_cases q1:c<v
      .by_cases x:v<ws.length
       .rw[decide_eq_true q1,decide_eq_true x,uF,uF]at hz;refine wx ?_;simp -dsimp[d,o,aG,(ω:¬v<=c),(ω:¬(ws.length:Int)<=v),aE k ω,L1];refine y (k+1,v) _ _ ⟨θ,hz⟩ ω ?_ ⟨[],?_⟩ ?_ ?_<;>simp[or_imp,forall_and,L1,aG]
       .rw[decide_eq_false x,vv,uE,uE,uE,if_neg ζ]at hz;refine wx ?_;simp -dsimp[d,o,aG,(ω:¬v<=c),(ω:(ws.length:Int)<=v),L1];apply l;simp -dsimp[L1];apply m;simp -dsimp[L1];exact hz
      .rw[decide_eq_false q1,uE,uE,uE,uE,if_neg ζ]at hz;refine wx ?_;simp -dsimp[d,o,aG,(ω:v<=c),L1];apply l;simp -dsimp[L1];apply m;simp -dsimp[L1];exact hz
     .rw[tj ω,gn,uF]at hz;by_cases h0:e.length=0
      .have t:e=[]:=List.length_eq_zero_iff.1 h0;rw[t]at hz;simp at hz;refine wx ?_;simp -dsimp[d,L1];apply l;simp -dsimp[h0,L1];apply m;simp -dsimp[L1];exact hz
      .have t:e.isEmpty=false:=by cases e with
        | nil=>simp at h0
        | cons a b=>rfl
       rw[t,xT,uF,F]at hz;refine wx ?_;simp -dsimp[d,L1];apply l;simp -dsimp[h0,(ω:¬(e.length:Int)=0),aE j ω,L1];refine D (j+1) _ _ ⟨ω,hz⟩ ω ?_ ⟨[],?_⟩ ?_ ?_<;>simp[or_imp,forall_and,L1,aG]
    .rw[tj ω]at q;refine wx ?_;simp -dsimp[n,L1];apply m;simp -dsimp[L1];exact q
structure Shr where
 e:Int
 a:Int
structure Nde where
 v:Int
 l:List Shr
def ju(m:List Nat)(k:Nat)(e:List Nat):Bool:=e.any fun v=>decide (m.getD v 0=k)
def kj(m:List Nat)(es:List (List Nat)):Bool:=es.any fun e=>!ju m 1 e&&!ju m 0 e
def loadE(m:List Nat)(ws:List Int)(a:Int):List Nat->List Int->Option (List Int)
 | [],b=>some b
 | v::e,b=>if m.getD v 0=0/\ws.getD v 0<b.getD v 0+a then none else loadE m ws a e (b.set v (b.getD v 0+a))
def okS(es:List (List Nat))(m:List Nat)(x:Shr):Bool:=decide (0<=x.e)&&decide (x.e<es.length)&&decide (1<=x.a)&&decide (x.a<=1000000000000)&&!ju m 1 (es.getD x.e.toNat [])
def nL(ws:List Int)(es:List (List Nat))(m:List Nat)(b:Int):List Shr->List Int->Int->Bool
 | [],_,s=>decide (b<=s)
 | x::l,d,s=>if okS es m x=true then(match loadE m ws x.a (es.getD x.e.toNat []) d with
  | none=>false
  | some c=>nL ws es m b l c (s+x.a)) else false
def shE(ws:List Int)(es:List (List Nat))(m:List Nat)(l:List Shr)(b:Int):Bool:=decide (l.length<=10000)&&nL ws es m b l (tg m.length 0) 0
def chkF(ws:List Int)(es:List (List Nat)):Nat->List Nat->List Nde->Int->Option (List Nde)×Bool
 | 0,_,_,_=>(none,false)
 | _+1,_,[],_=>(none,false)
 | k+1,m,x::r,b =>
  if x.v = -1 then(some r,if x.l=[] then decide (b<=0)||kj m es else shE ws es m x.l b)
  else if x.v<0\/(m.length:Int)<=x.v\/x.l≠[]\/m.getD x.v.toNat 0≠0 then(none,false)
  else match chkF ws es k (m.set x.v.toNat 1) r (b-ws.getD x.v.toNat 0) with
   | (some a,true)=>chkF ws es k (m.set x.v.toNat 2) a b
   | p=>p
def sumR:List Shr->Int
 | []=>0
 | x::l=>x.a+sumR l
def ldR(es:List (List Nat))(v:Nat):List Shr->Int
 | []=>0
 | x::l=>(if v∈es.getD x.e.toNat [] then x.a else 0)+ldR es v l
def kT(e ch:List Nat):Bool:=e.any fun v=>ch.contains v
def nC(n:Nat)(es:List (List Nat)):Prop:=∀e∈es,e≠[]/\e.Pairwise (· < ·)/\∀v∈e,v<n
structure Cor (n:Nat) (m ch ex:List Nat):Prop where
 len:m.length=n
 c:∀v<n,(m.getD v 0=1↔v∈ch)
 x:∀v<n,(m.getD v 0=2↔v∈ex)
 le:∀v<n,m.getD v 0<=2
def aY{a:Type}(l:List a){i:Nat}(d:a)(h:i<l.length):l.getD i d=l[i]:=by simp[wU,h]
def ai{b:Type}(l:List b){i:Nat}(h:i<l.length)(a d:b):(l.set i a).getD i d=a:=by simp[wU,h]
def aj{b:Type}(l:List b){i j:Nat}(h:i≠j)(a d:b):(l.set i a).getD j d=l.getD j d:=by simp[wU,uH h]
theorem load_spec(m:List Nat)(ws:List Int)(a:Int)(n:Nat):∀(e:List Nat) (b:List Int),e.Pairwise (· < ·)->(∀v∈e,v<n)->b.length=n ->
  (loadE m ws a e b=none/\∃v∈e,m.getD v 0=0/\ws.getD v 0<b.getD v 0+a)\/
  ((∀v∈e,m.getD v 0=0->b.getD v 0+a<=ws.getD v 0)/\∃c,loadE m ws a e b=some c/\c.length=n/\∀v,c.getD v 0=b.getD v 0+if v∈e then a else 0)
 | [],b,_,_,hl=>.inr ⟨ζ,b,rfl,hl,ζ⟩
 | v::e,b,hp,hn,hl=>by
  obtain⟨d,g⟩:=List.pairwise_cons.1 hp
  have hv:v<b.length:=by rw[hl];exact hn v ζ
  rw[loadE];by_cases h:m.getD v 0=0/\ws.getD v 0<b.getD v 0+a
  .rw[if_pos h];exact .inl ⟨rfl,v,ζ,h⟩
  .rw[if_neg h]
   rcases load_spec m ws a n e (b.set v (b.getD v 0+a)) g (fun u hu=>hn u (by simp[hu])) (by simp[hl]) with⟨h1,u,hu,h2,f⟩ | ⟨h1,c,h2,f,k⟩
   .refine .inl ⟨h1,u,by simp[hu],h2,?_⟩;have:=d u hu
    rwa [aj _ ω]at f
   .refine .inr ⟨fun u hu h0=>?_,c,h2,f,fun u=>?_⟩
    .rcases List.mem_cons.1 hu with rfl | hu
     .have:=not_and.1 h h0;omega
     .have j:=h1 u hu h0;have:=d u hu
      rwa [aj _ ω]at j
    .rw[k u];by_cases i:v=u
     .subst i;rw[ai _ hv,if_neg (fun hu=>by have:=d v hu;omega)];simp
     .rw[aj _ i]
      have:(u∈v::e)↔u∈e:=by simp;omega
      simp only[this]
def ir{es:List (List Nat)}{i:Nat}(h:i<es.length):es.getD i []∈es:=by
 rw[aY _ _ h];exact ti h
theorem ph(ws:List Int)(es:List (List Nat))(m:List Nat)(b:Int){n:Nat}(he:nC n es):∀(l:List Shr) (c:List Int) (s:Int),c.length=n->(∀v<n,m.getD v 0=0->c.getD v 0<=ws.getD v 0)->
  (nL ws es m b l c s=true↔(∀x∈l,okS es m x=true)/\(∀v<n,m.getD v 0=0->c.getD v 0+ldR es v l<=ws.getD v 0)/\b<=s+sumR l)
 | [],c,s,hl,hi=>by
  simp only[nL,decide_eq_true_eq,ldR,sumR,Int.add_zero];exact⟨fun h=>⟨ζ,hi,h⟩,fun h=>h.2.2⟩
 | x::l,c,s,hl,hi=>by
  rw[nL];by_cases hx:okS es m x=true
  .rw[if_pos hx];have j:=hx;simp only[okS,tt,decide_eq_true_eq]at j;obtain⟨⟨⟨⟨C,F⟩,E⟩,H⟩,I⟩:=j;have k:=ir (es:=es) (i:=x.e.toNat) ω;obtain⟨D,A,w⟩:=he _ k
   have p:∀(f:List Shr),(∀y∈f,okS es m y=true)->∀v,0<=ldR es v f:=by
    intro f
    induction f with
    | nil=>intro _ v;simp[ldR]
    | cons y f B =>
     intro o v;have h0:=o y ζ;simp only[okS,tt,decide_eq_true_eq]at h0;have:=B (fun z hz=>o z (by simp[hz])) v;rw[ldR];split<;>omega
   rcases load_spec m ws x.a n _ c A w hl with⟨h1,v,hv,h2,u⟩ | ⟨h1,q,h2,u,t⟩
   .rw[h1];refine⟨fun h=>by simp at h,fun⟨d,g,r⟩=>?_⟩;have:=g v (w v hv) h2;have G:=p l (fun y o=>d y (by simp[o])) v;rw[ldR,if_pos hv]at this;omega
   .rw[h2];simp only
    rw[ph ws es m b he l q (s+x.a) u (fun v hv h0=>by
     rw[t v];split
     .exact h1 v (by assumption) h0
     .simpa using hi v hv h0)]
    simp only[List.forall_mem_cons,ldR,sumR,t,hx,true_and];constructor
    .rintro⟨d,g,r⟩;exact⟨d,fun v hv h0=>by have:=g v hv h0;omega,ω⟩
    .rintro⟨d,g,r⟩;exact⟨d,fun v hv h0=>by have:=g v hv h0;omega,ω⟩
  .rw[if_neg hx];exact⟨fun h=>by simp at h,fun h=>absurd (h.1 x ζ) hx⟩
def pI(n v:Nat):(tg n (0:Int)).getD v 0=0:=by
 simp only[wU,wL];split<;>rfl
def checkP(ws:List Int)(es:List (List Nat))(b:Int)(l:List Nde):Bool:=match chkF ws es (l.length+1) (tg ws.length 0) l b with
 | (some r,true)=>decide (r.length=0)
 | _=>false
def gu(m:List Nat)(room:List Int):List Nat->Int->Int
 | [],a=>a
 | v::e,a=>gu m room e (if m.getD v 0=0 then min a (room.getD v 0) else a)
def oo(a:Int):List Nat->List Int->List Int
 | [],b=>b
 | v::e,b=>oo a e (b.set v (b.getD v 0-a))
def db(m:List Nat):List (List Nat)->Nat->List Int->List Shr×Int
 | [],_,_=>([],0)
 | e::es,i,room =>
  if ju m 1 e=true then db m es (i+1) room
  else if gu m room e 1000000=0 then db m es (i+1) room
  else(⟨i,gu m room e 1000000⟩::(db m es (i+1) (oo (gu m room e 1000000) e room)).1,gu m room e 1000000+(db m es (i+1) (oo (gu m room e 1000000) e room)).2)
def brE(m:List Nat):List Nat->List Int->Int->List Int×Int
 | [],c,b=>(c,b)
 | v::e,c,b =>
  if m.getD v 0=0 then brE m e (c.set v (c.getD v 0+1)) (if b<0\/(c.set v (c.getD v 0+1)).getD b.toNat 0<c.getD v 0+1 then(v:Int) else b)
  else brE m e c b
def brF(m:List Nat):List (List Nat)->List Int->Int->Int
 | [],_,b=>b
 | e::es,c,b=>if ju m 1 e=true then brF m es c b else brF m es (brE m e c b).1 (brE m e c b).2
def ei(ws:List Int)(es:List (List Nat))(m:List Nat):List Shr×Int:=db m es 0 ws
def brS(es:List (List Nat))(m:List Nat):Int:=brF m es (tg m.length 0) (-1)
def iS(ws:List Int)(es:List (List Nat)):Nat->List Nat->Int->Int->Option (List Nde×Int)
 | 0,_,_,_=>none
 | k+1,m,lf,b =>
  if lf-1<0 then none
  else if b<=0\/kj m es=true then some ([⟨-1,[]⟩],lf-1)
  else if b<=(ei ws es m).2 then some ([⟨-1,(ei ws es m).1⟩],lf-1)
  else if brS es m<0 then none
  else match iS ws es k (m.set (brS es m).toNat 1) (lf-1) (b-ws.getD (brS es m).toNat 0) with
   | none=>none
   | some p=>match iS ws es k (m.set (brS es m).toNat 2) p.2 b with
    | none=>none
    | some q=>some (⟨brS es m,[]⟩::(p.1++q.1),q.2)
def chosenL(m:List Nat):List Nat:=(tr m.length).filter fun v=>decide (m.getD v 0=1)
structure Bst where
 l:List Nat
 w:Int
def pC(ws:List Int)(es:List (List Nat)):Nat->List Nat->Int->Bst->Int->Option (Int×Bst)
 | 0,_,_,_,_=>none
 | k+1,m,lf,b,w =>
  if lf-1<0 then none
  else if kj m es=true then some (lf-1,b)
  else if b.w<=w+(ei ws es m).2 then some (lf-1,b)
  else if brS es m<0 then some (lf-1,⟨chosenL m,w⟩)
  else match pC ws es k (m.set (brS es m).toNat 1) (lf-1) b (w+ws.getD (brS es m).toNat 0) with
   | none=>none
   | some p=>pC ws es k (m.set (brS es m).toNat 2) p.1 p.2 w
def dx(m:List Nat):Nat:=m.countP fun x=>decide (x=0)
def phi(m:List Nat)(T:Nat->Bool)(room:List Int):Nat->Int
 | 0=>0
 | n+1=>phi m T room n+if T n=true/\m.getD n 0=0 then room.getD n 0 else 0
def dA(ws:List Int)(T:Nat->Bool):Nat->Int
 | 0=>0
 | n+1=>dA ws T n+if T n=true then ws.getD n 0 else 0
structure Ext (n:Nat) (es:List (List Nat)) (m:List Nat) (T:Nat->Bool):Prop where
 c:∀v<n,m.getD v 0=1->T v=true
 x:∀v<n,m.getD v 0=2->T v=false
 h:∀e∈es,∃v∈e,T v=true
def nX{m:List Nat}{v c:Nat}(hv:v<m.length)(h0:m.getD v 0=0)(a:c≠0):dx (m.set v c)+1=dx m:=by
 unfold dx;rw[List.countP_set hv]
 have e:m[v]=0:=by rwa [aY _ _ hv]at h0
 have hp:0<m.countP fun x=>decide (x=0):=List.countP_pos_iff.2 ⟨m[v],ti hv,by simp[e]⟩
 simp[e,a];omega
theorem nV{m:List Nat}{v c:Nat}(T:Nat->Bool)(room:List Int)(hv:v<m.length)(h0:m.getD v 0=0)(d:c≠0):∀n,phi (m.set v c) T room n=phi m T room n-if v<n/\T v=true then room.getD v 0 else 0
 | 0=>by simp[phi]
 | n+1=>by
  rw[phi,phi,nV T room hv h0 d n];by_cases e:v=n
  .subst e;rw[ai _ hv,h0];by_cases ht:T v=true<;>simp[d,ht]
  .rw[aj _ e]
   have:(v<n+1/\T v=true)↔(v<n/\T v=true):=by constructor<;>rintro⟨a,b⟩<;>exact⟨ω,b⟩
   simp only[this];omega
theorem mY{m:List Nat}{T:Nat->Bool}{room:List Int} : ∀n,(∀v<n,m.getD v 0=0->0<=room.getD v 0)->0<=phi m T room n
 | 0,_=>by simp[phi]
 | n+1,h=>by
  rw[phi]
  have:=mY (T:=T) n fun v hv h0=>h v ω h0
  split
  .have:=h n ω (by rename_i hq;exact hq.2);omega
  .omega
theorem phi_le{m:List Nat}{T:Nat->Bool}{room b:List Int}{a:Int}(ha:0<=a):∀n,(∀v<n,b.getD v 0<=room.getD v 0)->phi m T b n<=phi m T room n/\((∃u<n,T u=true/\m.getD u 0=0/\b.getD u 0=room.getD u 0-a)->phi m T b n<=phi m T room n-a)
 | 0,_=>⟨by simp[phi],by rintro⟨u,h,_⟩;omega⟩
 | n+1,h=>by
  obtain⟨i1,i2⟩:=phi_le (m:=m) (T:=T) ha n fun v hv=>h v ω
  have hn:=h n ω;rw[phi,phi];refine⟨by split<;>omega,?_⟩;rintro⟨u,hu,h1,h2,c⟩;by_cases e:u=n
  .subst e;rw[if_pos ⟨h1,h2⟩,if_pos ⟨h1,h2⟩];omega
  .have:=i2 ⟨u,ω,h1,h2,c⟩;split<;>omega
theorem nI(a:Int)(n:Nat):∀(e:List Nat) (b:List Int),e.Pairwise (· < ·)->(∀v∈e,v<n)->b.length=n ->
  (oo a e b).length=n/\∀v,(oo a e b).getD v 0=b.getD v 0-if v∈e then a else 0
 | [],b,_,_,hl=>⟨hl,by simp[oo]⟩
 | v::e,b,hp,hn,hl=>by
  obtain⟨d,c⟩:=List.pairwise_cons.1 hp
  have hv:v<b.length:=by rw[hl];exact hn v ζ
  rw[oo];obtain⟨h1,h2⟩:=nI a n e (b.set v (b.getD v 0-a)) c (fun u hu=>hn u (by simp[hu])) (by simp[hl]);refine⟨h1,fun u=>?_⟩;rw[h2 u];by_cases f:v=u
  .subst f;rw[ai _ hv,if_neg (fun hu=>by have:=d v hu;omega)];simp
  .rw[aj _ f]
   have:(u∈v::e)↔u∈e:=by simp;omega
   simp only[this]
theorem amt_spec(m:List Nat)(room:List Int):∀(e:List Nat) (a:Int),gu m room e a<=a/\(∀v∈e,m.getD v 0=0->gu m room e a<=room.getD v 0)/\(0<=a->(∀v∈e,m.getD v 0=0->0<=room.getD v 0)->0<=gu m room e a)
 | [],a=>⟨by simp[gu],ζ,by simp[gu]⟩
 | v::e,a=>by
  rw[gu];obtain⟨h1,h2,b⟩:=amt_spec m room e (if m.getD v 0=0 then min a (room.getD v 0) else a);refine⟨?_,fun u hu h0=>?_,fun ha hr=>b ?_ fun u hu=>hr u (by simp[hu])⟩
  .have c:(if m.getD v 0=0 then min a (room.getD v 0) else a)<=a:=by split<;>omega
   omega
  .rcases List.mem_cons.1 hu with rfl | hu
   .rw[if_pos h0]at h1 ⊢;omega
   .exact h2 u hu h0
  .split
   .have:=hr v ζ (by assumption);omega
   .exact ha
def rW{m:List Nat}{room:List Int}{n:Nat}{e:List Nat}(he:e.Pairwise (· < ·))(hn:∀v∈e,v<n)(hl:room.length=n)(hr:∀v<n,m.getD v 0=0->0<=room.getD v 0):
  (oo (gu m room e 1000000) e room).length=n/\(∀v<n,m.getD v 0=0->0<=(oo (gu m room e 1000000) e room).getD v 0)/\0<=gu m room e 1000000/\gu m room e 1000000<=1000000:=by
 obtain⟨a1,a,a3⟩:=amt_spec m room e 1000000;obtain⟨b,c⟩:=nI (gu m room e 1000000) n e room he hn hl;refine⟨b,fun v hv h0=>?_,a3 ω fun v hv=>hr v (hn v hv),a1⟩;rw[c v];have:=hr v hv h0;split
 .have:=a v (by assumption) h0;omega
 .omega
theorem qj{m:List Nat}{n:Nat}{T:Nat->Bool} : ∀(es:List (List Nat)) (i:Nat) (room:List Int),nC n es->Ext n es m T->(∀v<n,m.getD v 0<=2)->room.length=n->(∀v<n,m.getD v 0=0->0<=room.getD v 0)->(db m es i room).2<=phi m T room n
 | [],i,room,_,_,_,_,hr=>by rw[db];exact mY n hr
 | e::es,i,room,he,hx,h2,hl,hr=>by
  obtain⟨A,k,d⟩:=he e ζ
  have b:nC n es:=fun x hx=>he x (by simp[hx])
  have a:Ext n es m T:=⟨hx.c,hx.x,fun x g=>hx.h x (by simp[g])⟩;rw[db];split
  .exact qj es _ room b a h2 hl hr
  .rename_i p;split
   .exact qj es _ room b a h2 hl hr
   .obtain⟨r1,q,o,y⟩:=rW (m:=m) k d hl hr;have z:=qj es (i+1) _ b a h2 r1 q;obtain⟨u,hu,j⟩:=hx.h e ζ;obtain⟨w,l⟩:=nI (gu m room e 1000000) n e room k d hl
    have f:m.getD u 0=0:=by
     have t:=h2 u (d u hu);by_cases s:m.getD u 0=1
     .exact absurd (List.any_eq_true.2 ⟨u,hu,by simpa using s⟩) p
     .by_cases r:m.getD u 0=2
      .rw[hx.x u (d u hu) r]at j;cases j
      .omega
    have:=(phi_le (m:=m) (T:=T) (room:=room) o n fun v hv=>by rw[l v];split<;>omega).2 ⟨u,d u hu,j,f,by rw[l u,if_pos hu]⟩;simp only;omega
theorem jN{m:List Nat}{n:Nat}{k:List (List Nat)}(o:nC n k):∀(es:List (List Nat)) (i:Nat) (room:List Int),es=k.drop i->room.length=n->(∀v<n,m.getD v 0=0->0<=room.getD v 0)->
  (∀x∈(db m es i room).1,okS k m x=true)/\sumR (db m es i room).1=(db m es i room).2/\(db m es i room).1.length<=es.length/\(∀v<n,m.getD v 0=0->ldR k v (db m es i room).1<=room.getD v 0)/\(db m es i room).2<=1000000*es.length/\0<=(db m es i room).2
 | [],i,room,_,_,hr=>by simp[db,sumR,ldR];exact hr
 | e::es,i,room,p,hl,hr=>by
  have hi:i<k.length:=by
   by_cases h:i<k.length
   .exact h
   .rw[tj ω]at p;cases p
  rw[th hi]at p;obtain⟨l,j⟩:=List.cons.inj p
  have r:k.getD i []=e:=by rw[aY _ _ hi,l]
  obtain⟨C,s,t⟩:=o e (by rw[l];exact ti hi);rw[db];split
  .obtain⟨a,b,c,d,f,g⟩:=jN o es (i+1) room j hl hr;exact⟨a,b,χ,d,χ,g⟩
  .rename_i y;split
   .obtain⟨a,b,c,d,f,g⟩:=jN o es (i+1) room j hl hr;exact⟨a,b,χ,d,χ,g⟩
   .rename_i h0;obtain⟨r1,u,A,B⟩:=rW (m:=m) s t hl hr;obtain⟨a,b,c,d,f,g⟩:=jN o es (i+1) _ j r1 u;obtain⟨z,w⟩:=nI (gu m room e 1000000) n e room s t hl;refine⟨fun x hx=>?_,by simp only[sumR];omega,χ,fun v hv q=>?_,χ,χ⟩
    .rcases List.mem_cons.1 hx with rfl | hx
     .simp only[okS,wT,r,tt,decide_eq_true_eq];refine⟨⟨⟨⟨ω,ω⟩,ω⟩,ω⟩,by simpa using y⟩
     .exact a x hx
    .simp only[ldR,wT,r];have:=d v hv q;rw[w v]at this;omega
theorem tS(m:List Nat):∀(e:List Nat) (c:List Int) (b:Int),((brE m e c b).2=b/\(b<0->∀v∈e,m.getD v 0≠0))\/∃v∈e,m.getD v 0=0/\(brE m e c b).2=v
 | [],c,b=>.inl ⟨rfl,ζ⟩
 | v::e,c,b=>by
  rw[brE];split
  .rename_i h0
   rcases tS m e (c.set v (c.getD v 0+1)) (if b<0\/(c.set v (c.getD v 0+1)).getD b.toNat 0<c.getD v 0+1 then(v:Int) else b) with⟨h1,_⟩ | ⟨u,hu,h1,h2⟩
   .by_cases hb:b<0\/(c.set v (c.getD v 0+1)).getD b.toNat 0<c.getD v 0+1
    .rw[if_pos hb]at h1 ⊢;exact .inr ⟨v,ζ,h0,h1⟩
    .rw[if_neg hb]at h1 ⊢;exact .inl ⟨h1,fun h=>absurd (.inl h) hb⟩
   .exact .inr ⟨u,by simp[hu],h1,h2⟩
  .rename_i h0
   rcases tS m e c b with⟨h1,h2⟩ | ⟨u,hu,h1,h2⟩
   .refine .inl ⟨h1,fun h u hu=>?_⟩
    rcases List.mem_cons.1 hu with rfl | hu
    .exact h0
    .exact h2 h u hu
   .exact .inr ⟨u,by simp[hu],h1,h2⟩
theorem tR(m:List Nat):∀(es:List (List Nat)) (c:List Int) (b:Int),(brF m es c b=b/\(b<0->∀e∈es,ju m 1 e=true\/∀v∈e,m.getD v 0≠0))\/∃e∈es,∃v∈e,m.getD v 0=0/\brF m es c b=v
 | [],c,b=>.inl ⟨rfl,ζ⟩
 | e::es,c,b=>by
  rw[brF];split
  .rename_i h0
   rcases tR m es c b with⟨h1,h2⟩ | ⟨x,hx,v,hv,h1,h2⟩
   .refine .inl ⟨h1,fun h x hx=>?_⟩
    rcases List.mem_cons.1 hx with rfl | hx
    .exact .inl h0
    .exact h2 h x hx
   .exact .inr ⟨x,by simp[hx],v,hv,h1,h2⟩
  .rcases tR m es (brE m e c b).1 (brE m e c b).2 with⟨h1,h2⟩ | ⟨x,hx,v,hv,h1,h2⟩
   .rcases tS m e c b with⟨d,a⟩ | ⟨v,hv,d,a⟩
    .rw[d]at h1 h2;rw[d];refine .inl ⟨h1,fun h x hx=>?_⟩
     rcases List.mem_cons.1 hx with rfl | hx
     .exact .inr (a h)
     .exact h2 h x hx
    .rw[a]at h1;rw[a];exact .inr ⟨e,ζ,v,hv,d,h1⟩
   .exact .inr ⟨x,by simp[hx],v,hv,h1,h2⟩
def oW{n:Nat}{es:List (List Nat)}(he:nC n es)(m:List Nat):(brS es m<0/\(kj m es=false->∀e∈es,∃v∈e,m.getD v 0=1))\/((brS es m).toNat<n/\0<=brS es m/\m.getD (brS es m).toNat 0=0):=by
 unfold brS
 rcases tR m es (tg m.length 0) (-1) with⟨h1,h2⟩ | ⟨e,h,v,hv,h1,h2⟩
 .refine .inl ⟨ω,fun b e h=>?_⟩
  have a:ju m 1 e=true:=by
   rcases h2 ω e h with a | a
   .exact a
   .have:=List.any_eq_false.1 b e h
    have h0:ju m 0 e=false:=by
     unfold ju;rw[List.any_eq_false];intro v hv;simpa using a v hv
    rw[h0]at this;simpa using this
  obtain⟨v,hv,c⟩:=List.any_eq_true.1 a;exact⟨v,hv,by simpa using c⟩
 .rw[h2];exact .inr ⟨by simpa using(he e h).2.2 v hv,ω,by simpa using h1⟩
structure Wok (n:Nat) (ws:List Int) (m:List Nat):Prop where
 lw:ws.length=n
 lm:m.length=n
 p:∀v<n,1<=ws.getD v 0
 le:∀v<n,m.getD v 0<=2
theorem Wok.set{n:Nat}{ws:List Int}{m:List Nat}(g:Wok n ws m)(v:Nat){c:Nat}(a:c<=2):Wok n ws (m.set v c):=by
 refine⟨g.lw,by simp[g.lm],g.p,fun u hu=>?_⟩;by_cases e:v=u
 .subst e;by_cases hv:v<m.length
  .rw[ai _ hv];exact a
  .rw[List.set_eq_of_length_le ω];exact g.le v hu
 .rw[aj _ e];exact g.le u hu
def Ext.of_set{n:Nat}{es:List (List Nat)}{m:List Nat}{T:Nat->Bool}{v c:Nat}(hv:v<m.length)(hn:v<n)(h0:m.getD v 0=0)(h:Ext n es (m.set v c) T):Ext n es m T:=by
 refine⟨fun u hu h1=>?_,fun u hu h1=>?_,h.h⟩
 .have:v≠u:=by rintro rfl;omega
  exact h.c u hu (by rwa [aj _ this])
 .have:v≠u:=by rintro rfl;omega
  exact h.x u hu (by rwa [aj _ this])
theorem prv_ok{ws:List Int}{es:List (List Nat)}{n:Nat}(he:nC n es)(s:es.length<=10000):∀(k:Nat) (m:List Nat) (lf b:Int),Wok n ws m->dx m<k->2^(dx m+1)-1<=lf->(∀T,Ext n es m T->b<=phi m T ws n)->
  ∃l q,iS ws es k m lf b=some (l,q)/\lf-(2^(dx m+1)-1)<=q/\∀(r:List Nde) (K:Nat),l.length<=K->chkF ws es K m (l++r) b=(some r,true)
 | 0,_,_,_,_,h,_,_=>by omega
 | k+1,m,lf,b,g,ho,w,u=>by
  have B:(1:Int)<=2^dx m:=by exact_mod_cast Nat.one_le_two_pow
  rw[yH]at w;rw[iS,if_neg ω];by_cases h1:b<=0\/kj m es=true
  .rw[if_pos h1];refine⟨_,_,rfl,by rw[yH];omega,fun r K i=>?_⟩;obtain⟨K,rfl⟩:∃j,K=j+1:=⟨K-1,by simp at i;omega⟩;simp only[ur,uL,chkF,if_true];rw[Prod.mk.injEq];refine⟨rfl,?_⟩
   rcases h1 with h | h<;>simp[h]
  .rw[if_neg h1]
   have hb:0<b:=by
    by_cases h:b<=0
    .exact absurd (.inl h) h1
    .omega
   have M:kj m es=false:=by
    cases h:kj m es
    .rfl
    .exact absurd (.inr h) h1
   have hr:∀v<n,m.getD v 0=0->0<=ws.getD v 0:=fun v hv _=>by have:=g.p v hv;omega
   obtain⟨q1,A,R,D,_,_⟩:=jN (m:=m) he es 0 ws ζ g.lw hr;by_cases h2:b<=(ei ws es m).2
   .rw[if_pos h2];refine⟨_,_,rfl,by rw[yH];omega,fun r K i=>?_⟩;obtain⟨K,rfl⟩:∃j,K=j+1:=⟨K-1,by simp at i;omega⟩;unfold ei at h2 ⊢
    have z:(db m es 0 ws).1≠[]:=fun h=>by rw[h]at A;simp only[sumR]at A;omega
    simp only[ur,uL,chkF,if_true];rw[if_neg z,Prod.mk.injEq];refine⟨rfl,?_⟩;unfold shE;rw[decide_eq_true (show(db m es 0 ws).1.length<=10000 by omega),uF,ph ws es m b he _ _ 0 (by simp[g.lm]) (fun v hv _=>by rw[pI];have:=g.p v hv;omega)];exact⟨q1,fun v hv h0=>by rw[pI,Int.zero_add];exact D v hv h0,ω⟩
   .rw[if_neg h2]
    rcases oW he m with⟨Q,G⟩ | ⟨v1,S,v3⟩
    .exfalso;have hx:=u (fun v=>decide (m.getD v 0=1)) ⟨fun v _ h=>by simpa using h,fun v _ h=>by simp only[decide_eq_false_iff_not];omega,fun e h=>by obtain⟨v,hv,L⟩:=G M e h;exact⟨v,hv,by simpa using L⟩⟩
     have h0:∀j,phi m (fun v=>decide (m.getD v 0=1)) ws j=0:=by
      intro j
      induction j with
      | zero=>rfl
      | succ j N=>rw[phi,N,if_neg (by rintro⟨a,c⟩;simp only[decide_eq_true_eq]at a;omega)];rfl
     rw[h0]at hx;omega
    .rw[if_neg ω];obtain⟨v,hv⟩:=ξ ((brS es m).toNat)
     have y:brS es m=(v:Int):=by omega
     rw[<-hv]at v1 v3 ⊢
     have d:v<m.length:=by rw[g.lm];exact v1
     have C:=nX d v3 (c:=1) ω;have J:=nX d v3 (c:=2) ω
     have t:(2:Int)^dx m=2^(dx (m.set v 1)+1):=by rw[C]
     have f:(2:Int)^dx m=2^(dx (m.set v 2)+1):=by rw[J]
     obtain⟨P,f1,a1,I,a3⟩:=prv_ok he s k (m.set v 1) (lf-1) (b-ws.getD v 0) (g.set v ω) ω (by rw[<-t];omega) (fun T o=>by
      have:=u T (o.of_set d v1 v3);rw[nV T ws d v3 ω n,if_pos ⟨v1,o.c v v1 (ai _ d _ _)⟩]
      omega)
     rw[<-t]at I;rw[a1]
     obtain⟨H,f2,F,O,E⟩:=prv_ok he s k (m.set v 2) f1 b (g.set v ω) ω (by rw[<-f];omega) (fun T o=>by
      have:=u T (o.of_set d v1 v3);rw[nV T ws d v3 ω n,if_neg (by rintro⟨_,h⟩;rw[o.x v v1 (ai _ d _ _)]at h;cases h)]
      omega)
     rw[<-f]at O;simp only[F];refine⟨_,_,rfl,by rw[yH];omega,fun r K i=>?_⟩;obtain⟨K,rfl⟩:∃j,K=j+1:=⟨K-1,by simp at i;omega⟩;simp only[uX,uB]at i;rw[y,ur,chkF,if_neg θ,if_neg (by simp only[wT,v3];rintro(h | h | h | h)<;>first | omega | exact h rfl)];simp only[wT];rw[uW,a3 (H++r) K ω];simp only;rw[E r K ω]
structure GoodB (n:Nat) (ws:List Int) (es:List (List Nat)) (b:Bst) (T:Nat->Bool):Prop where
 l:b.l=(tr n).filter T
 h:∀e∈es,∃v∈e,T v=true
 w:b.w=dA ws T n
theorem wsum_set{ws:List Int}{m:List Nat}{v:Nat}(hv:v<m.length)(h0:m.getD v 0=0):∀n,dA ws (fun u=>decide ((m.set v 1).getD u 0=1)) n=dA ws (fun u=>decide (m.getD u 0=1)) n+if v<n then ws.getD v 0 else 0
 | 0=>by simp[dA]
 | n+1=>by
  rw[dA,dA,wsum_set hv h0 n];by_cases e:v=n
  .subst e;rw[ai _ hv,h0];simp
  .rw[aj _ e]
   have:v<n+1↔v<n:=by omega
   simp only[this];omega
theorem wsum_set2{ws:List Int}{m:List Nat}{v:Nat}(hv:v<m.length)(h0:m.getD v 0=0):∀n,dA ws (fun u=>decide ((m.set v 2).getD u 0=1)) n=dA ws (fun u=>decide (m.getD u 0=1)) n
 | 0=>by simp[dA]
 | n+1=>by
  rw[dA,dA,wsum_set2 hv h0 n];by_cases e:v=n
  .subst e;rw[ai _ hv,h0];simp
  .rw[aj _ e]
theorem min_ok{ws:List Int}{es:List (List Nat)}{n:Nat}(he:nC n es):∀(k:Nat) (m:List Nat) (lf:Int) (b:Bst) (w:Int),Wok n ws m->dx m<k->2^(dx m+1)-1<=lf->w=dA ws (fun u=>decide (m.getD u 0=1)) n ->
  ∃i l,pC ws es k m lf b w=some (i,l)/\lf-(2^(dx m+1)-1)<=i/\l.w<=b.w/\(∀T,Ext n es m T->l.w<=w+phi m T ws n)/\(l=b\/∃T,GoodB n ws es l T)
 | 0,_,_,_,_,_,h,_,_=>by omega
 | k+1,m,lf,b,w,g,ho,r,y=>by
  have B:(1:Int)<=2^dx m:=by exact_mod_cast Nat.one_le_two_pow
  rw[yH]at r ⊢;rw[pC,if_neg ω]
  have hr:∀v<n,m.getD v 0=0->0<=ws.getD v 0:=fun v hv _=>by have:=g.p v hv;omega
  cases z:kj m es
  .rw[if_neg ζ];by_cases h2:b.w<=w+(ei ws es m).2
   .rw[if_pos h2];refine⟨_,_,rfl,ω,ω,fun T d=>?_,.inl rfl⟩;have:=qj es 0 ws he d g.le g.lw hr;unfold ei at h2;omega
   .rw[if_neg h2];obtain⟨_,_,_,_,_,N⟩:=jN (m:=m) he es 0 ws ζ g.lw hr;unfold ei at h2
    rcases oW he m with⟨o,F⟩ | ⟨v1,M,v3⟩
    .rw[if_pos o];refine⟨_,_,rfl,ω,θ,fun T d=>?_,.inr ⟨fun u=>decide (m.getD u 0=1),⟨?_,fun e h=>?_,?_⟩⟩⟩
     .have:=mY (m:=m) (T:=T) n hr;simp only;omega
     .unfold chosenL;rw[g.lm]
     .obtain⟨v,hv,J⟩:=F z e h;exact⟨v,hv,by simpa using J⟩
     .exact y
    .rw[if_neg ω];obtain⟨v,hv⟩:=ξ ((brS es m).toNat);rw[<-hv]at v1 v3 ⊢
     have a:v<m.length:=by rw[g.lm];exact v1
     have A:=nX a v3 (c:=1) ω;have H:=nX a v3 (c:=2) ω
     have j:(2:Int)^dx m=2^(dx (m.set v 1)+1):=by rw[A]
     have f:(2:Int)^dx m=2^(dx (m.set v 2)+1):=by rw[H]
     obtain⟨f1,D,a1,G,a3,a4,a5⟩:=min_ok he k (m.set v 1) (lf-1) b (w+ws.getD v 0) (g.set v ω) ω (by rw[<-j];omega) (by rw[wsum_set a v3 n,if_pos v1,y]);rw[<-j]at G;rw[a1];obtain⟨f2,K,C,E,L,I,t⟩:=min_ok he k (m.set v 2) f1 D w (g.set v ω) ω (by rw[<-f];omega) (by rw[wsum_set2 a v3 n,y]);rw[<-f]at E;refine⟨f2,K,C,ω,ω,fun T d=>?_,?_⟩
     .cases ht:T v
      .have q:Ext n es (m.set v 2) T:=⟨fun u hu h=>by
         by_cases e:v=u
         .subst e;rw[ai _ a]at h;omega
         .exact d.c u hu (by rwa [aj _ e]at h),fun u hu h=>by
         by_cases e:v=u
         .subst e;exact ht
         .exact d.x u hu (by rwa [aj _ e]at h),d.h⟩
       have:=I T q;rw[nV T ws a v3 ω n,if_neg (by rintro⟨_,h⟩;rw[ht]at h;cases h)]at this;omega
      .have s:Ext n es (m.set v 1) T:=⟨fun u hu h=>by
         by_cases e:v=u
         .subst e;exact ht
         .exact d.c u hu (by rwa [aj _ e]at h),fun u hu h=>by
         by_cases e:v=u
         .subst e;rw[ai _ a]at h;omega
         .exact d.x u hu (by rwa [aj _ e]at h),d.h⟩
       have:=a4 T s;rw[nV T ws a v3 ω n,if_pos ⟨v1,ht⟩]at this;omega
     .rcases t with rfl | t
      .exact a5
      .exact .inr t
  .rw[if_pos rfl];refine⟨_,_,rfl,ω,ω,fun T d=>?_,.inl rfl⟩;exfalso;obtain⟨e,h1,h2⟩:=List.any_eq_true.1 z;obtain⟨v,hv,o⟩:=d.h e h1;simp only[tt,uj,ju,List.any_eq_false,decide_eq_true_eq]at h2;have hn:=(he e h1).2.2 v hv;have:=d.x v hn (by have:=h2.1 v hv;have:=h2.2 v hv;have:=g.le v hn;omega);rw[o]at this;cases this
end
section
open Go Go.AM Go.RowKit Go.Lib Go.Proofs.Tryz
def infoG_N:(prog.info? 212).map (fun i=>(i.zero,i.size,i.bytes))=some (some (.agg #[.int .i64 0,.slice none 0 0]),2,32):=by kernel_rfl
def growPos_N(n:Nat)(w:World)(h0:0<n)(hn:n<=1000000):Calls prog 170 #[.slice none 0 0,.int .i64 n] w fun e o =>
   e = .returned (.slice (some ⟨w.heap.size,0,none⟩) 0 (grownCap w n 0 212))/\o=w.drew.alloc (.cells (Builtin.zeroCells (.agg #[.int .i64 0,.slice none 0 0]:Value).cells n++Builtin.zeroCells (.agg #[.int .i64 0,.slice none 0 0]:Value).cells (grownCap w n 0 212-n)) 212):=by
 obtain⟨f,d,k,i,c⟩:=info_parts infoG_N
 have h1:¬((n:Int)<0):=by omega
 have m:∀w,(Go.sizeOf 212).run prog w = .ok 2 w:=fun w=>by simp[Go.sizeOf,typeInfo,d,i]
 have hold:(Builtin.firstCells f.size 0 (.slice none 0 0)).run prog w.drew = .ok ([]:List Value).toArray w.drew:=run_firstCells_none w.drew f.size 0 0 0
 have a:(0+n)*f.bytes<=140737488355328:=by rw[c];omega
 have b:∀ty,(Builtin.append_ #[80,3] ty #[.slice none 0 0,.int .i64 (n:Int)]).run prog w =
   .ok (.slice (some ⟨w.heap.size,0,none⟩) n (grownCap w n 0 212)) (w.drew.alloc (.cells (Builtin.zeroCells (.agg #[.int .i64 0,.slice none 0 0]:Value).cells n++Builtin.zeroCells (.agg #[.int .i64 0,.slice none 0 0]:Value).cells (grownCap w n 0 212-n)) 212)):=fun ty=>by
  have h:=Lib.run_append_grow_zeros (P:=prog) w 80 3 ty 212 f _ .i64 .i64 Tryz.underlying80 Tryz.underlying3 d k none 0 0 [] hold n h0 ω ω ω
   (by rw[c];omega)
   (growslice_fits ω a)
  simpa using h
 have j:n<=grownCap w n 0 212:=grownCap_ge w _ _ _;obtain⟨G,g⟩:=ξ (grownCap w n 0 212);rw[<-g]at b j ⊢
 have l:G<=9223372036854775807:=by
  have:=grownCap_le_maxLen w n 0 212 (by unfold maxLen;omega);rw[<-g]at this;unfold maxLen at this;omega
 have h2:RowKit.wrap64 ((0:Int)-0)=0:=by unfold RowKit.wrap64;omega
 have p:RowKit.wrap64 ((n:Int)-0)=(n:Int):=by unfold RowKit.wrap64;omega
 have q:(n:Int)> 0:=by omega
 clear hold g a
 go_enter func170,ntmps170
 go_wp2_with (at_builtin;refine Lib.wpList_append_run _ rfl _ _ _ _ rfl _ _ rfl rfl _ _ (b _) ?_)
 all_goals (go_ret;exact⟨rfl,rfl⟩)
def growNil_N(w:World):Calls prog 170 #[.slice none 0 0,.int .i64 0] w fun e a=>e = .returned (.slice none 0 0)/\a=w:=by
 go_enter func170,ntmps170
 go_wp2
 go_ret
 exact⟨rfl,rfl⟩
def sM(n:Nat)(hn:n<=1000000):ia prog 170 [.nilS,.int .i64 n] fun e z ys=>e=212/\z=2/\ys=[]:=by
 refine oR ⟨f170,func170,rfl,rfl⟩ (fun F w vals d hrel=>?_)
 obtain⟨u0,c,rfl⟩:∃u0 c,vals = #[u0,c]:=by
  obtain⟨l⟩:=vals
  match l,d with
  | [a,b],_=>exact⟨a,b,rfl⟩
 have r0:=hrel 0 _ u0 rfl rfl;have r1:=hrel 1 _ c rfl rfl;cases r0;cases r1;by_cases h0:n=0
 .subst h0
  exact(growNil_N w).mono fun e g ⟨h1,h2⟩=>⟨_,h1,by subst h2;exact Below.refl _ _,.inl rfl⟩
 .refine(growPos_N n w ω hn).mono fun e g ⟨h1,h2⟩=>?_
  subst h2;have f:=grownCap_ge w n 0 212;refine⟨_,h1,((Below.refl _ _).drew).alloc (uA _) _,.inr ⟨w.heap.size,grownCap w n 0 212,Builtin.zeroCells (.agg #[.int .i64 0,.slice none 0 0]:Value).cells n++Builtin.zeroCells (.agg #[.int .i64 0,.slice none 0 0]:Value).cells (grownCap w n 0 212-n),rfl,uA _,?_,ω,grownCap_le_maxLen w n 0 212 (by unfold maxLen;omega),?_⟩⟩
  .exact xL (xs:=w.heap)
  .rw[wg,size_zeroCells,size_zeroCells,<-uR,xM f];rfl
def grow_nil_N:aK prog 170 [.nilS,.int .i64 0] fun r=>r = .nilS:=by
 refine⟨⟨f170,func170,rfl,rfl⟩,fun F w vals g h d hrel=>?_⟩
 obtain⟨u0,c,rfl⟩:∃u0 c,vals = #[u0,c]:=by
  obtain⟨l⟩:=vals
  match l,d with
  | [a,b],_=>exact⟨a,b,rfl⟩
 have r0:=hrel 0 _ u0 rfl rfl;have r1:=hrel 1 _ c rfl rfl;cases r0;cases r1
 refine(growNil_N w).mono fun e f ⟨h1,h2⟩=>⟨_,_,h1,.nilS,.nilS,by subst h2;exact Below.refl _ _,rfl⟩
end
section
open Go Go.AM Go.RowKit Go.Proofs.Tryz
structure FlV where
 f:Bool
 xs:List V
def dj(l:FlV):V:=.lst 2 l.f l.xs
def dL(ls:List FlV):List V:=(ls.map (·.xs)).flatten
def lp(ls:List FlV)(i:Nat)(h:i<ls.length):dL (ls.take (i+1))=dL (ls.take i)++ls[i].xs:=by
 unfold dL;rw[tz h,uu,xn];simp
def catL_le(ls:List FlV)(i:Nat):(dL (ls.take i)).length<=(dL ls).length:=by
 conv=>rhs;rw[<-vT i ls]
 unfold dL;rw[uu,xn,uB];omega
def jB{ls:List FlV}(hp:∀l∈ls,∀x∈l.xs,AM.Pure x/\cC x=true/\x.cells.length=2):∀x∈dL ls,AM.Pure x/\cC x=true:=by
 intro x hx;obtain⟨l,hl,h⟩:=List.mem_flatten.1 hx;obtain⟨y,a,rfl⟩:=List.mem_map.1 hl;exact⟨(hp y a x h).1,(hp y a x h).2.1⟩
def catW_N(n:Nat)(h:n<=1000000):n<=9223372036854775807/\n*32<=140737488355328:=by omega
def concat_N(ls:List FlV)(g:Bool)(hp:∀l∈ls,∀x∈l.xs,AM.Pure x/\cC x=true/\x.cells.length=2)(hl:ls.length<=1000000)(hs:(dL ls).length<=1000000):aK prog 111 [.lst 1 g (ls.map dj)] fun r=>r = .lst 2 false (dL ls):=by
 have m:=fun i=>catL_le ls i
 have k:∀l∈ls,AM.Pure (dj l):=fun l hl=>.lst _ _ _ (fun x hx=>(hp l hl x hx).1)
 refine sPx func111 ?_;simp -dsimp[f111,tg,dj];refine aI (W_loopM 23 0x7ff828 zMx (σ:=Nat) (fun i=>i<=ls.length) (fun i=>ls.length-i) (fun i=>[(11,.int .i64 i),(3,.int .i64 ((dL (ls.take i)).length:Nat))]) (fun _=>[]) 0 ω (by simp[dL]) rfl ζ ?_);intro i hi N Q v w;by_cases hb:i<ls.length
 .have a:=lp ls i hb;have h1:=m i;have h2:=m (i+1);rw[a,uB]at h2;obtain⟨c,n⟩:=ξ ((dL (ls.take i)).length);rw[<-n]at h1 h2
  have o:(dL (ls.take (i+1))).length=c+ls[i].xs.length:=by rw[a,uB,n]
  obtain⟨x,hx⟩:=ξ (ls[i]);rw[<-hx]at h2 o;have h:=hx.symm;obtain⟨d,u⟩:=ξ (c+x.xs.length)
  have A:IntKind.i64.wrap ((c:Int)+(x.xs.length:Int))=(d:Int):=by rw[wrap64 ω ω,u];push_cast;rfl
  refine wx ?_;simp -dsimp[hb,h,A,(ω:¬(d:Int)<0),aE i ω,<-n,dj];refine v (i+1) _ _ ω ω (by simp[o,u]) ⟨[],rfl⟩ (by simp;exact k) ζ
 .obtain rfl:i=ls.length:=by omega
  rw[uV];have y:=jr (H:=[]) (sM (dL ls).length hs) ζ;refine wx ?_;simp -dsimp[hb,dj];apply w;simp -dsimp[dj];refine y.mono ?_;rintro r H' ⟨e,z,xs,rfl,rfl,_,rfl,rfl,rfl⟩;simp -dsimp[dj];refine aI (W_loopM 35 0x7f8000140 zMx (σ:=Nat) (fun i=>i<=ls.length) (fun i=>ls.length-i) (fun i=>[(27,.int .i64 i),(6,.buf 0 0 (dL (ls.take i)).length (dL (ls.take i)).length)]) (fun i=>[B.buf 212 2 (dL (ls.take i)) false]) 0 ω (by simp[dL]) (by simp[dL]) ζ ?_);intro i hi D C q t;by_cases hb:i<ls.length
  .have a:=lp ls i hb;have h2:=m (i+1);have s:=hp ls[i] (ti hb);have f:=jB (ls:=ls.take (i+1)) (fun l hl=>hp l (uh hl));obtain⟨x,hx⟩:=ξ (ls[i]);rw[<-hx]at a s;have h:=hx.symm;rw[a]at h2 f;obtain⟨xs,p⟩:=ξ x.xs;have j:=p.symm;rw[<-p]at a h2 f s;by_cases h0:xs=[]
   .rw[h0,uC]at a;refine wx ?_;simp -dsimp[hb,h,j,h0,aE i ω,dj];refine q (i+1) _ _ ω ω (by simp[a]) ⟨[],by simp[a]⟩ (by simp;exact k) (by rw[h0,uC]at f;intro bl b;rcases List.mem_cons.1 b with rfl | b;exact(rbB_buf1 (by rw[a];exact f)).2 trivial;cases b)
   .obtain⟨c,n⟩:=ξ (dL (ls.take i));rw[<-n]at a h2 f;rw[uB]at h2;refine wx ?_;simp -dsimp[hb,h,j,h0,aE i ω,<-n,catW_N (c.length+xs.length) ω,dj];refine q (i+1) _ _ ω ω (by simp[a]) ⟨[],by simp[a]⟩ (by simp;exact k) (by intro bl b;rcases List.mem_cons.1 b with rfl | b;exact(rbB_buf1 (by rw[a];exact f)).2 trivial;cases b)
  .obtain rfl:i=ls.length:=by omega
   rw[uV];refine wx ?_;simp -dsimp[hb,dj];apply t;simp -dsimp[dj];exact⟨dr rfl rfl (fun x hx=>(jB hp x hx).1),fun x hx=>(jB hp x hx).1⟩
end
section
open Go Go.AM Go.Proofs.Tryz
def W_ownB{P:Program}(e z j:Nat){k0 e0:Nat}{xs:List V}{c:Code}{Q:Exit->List V->List B->Prop}{fr:List V}{H:List B}(hk:H[k0]?=some (.buf e0 1 xs false))(F:xs[j]?=some .nilS)
  (h:W P c Q fr (H.set k0 (.buf e0 1 (xs.set j (.buf H.length 0 0 0)) false)++[.buf e z [] false])):W P c Q fr H:=by
 intro s a hA M hf q;obtain⟨rfl,U⟩:=hA;obtain⟨p1,C⟩:=nQ M 0 e z false rfl rfl rfl (uA _) (fun _ _=>rfl);generalize g:s.push s.w 0 0 (.buf e z [] false)=b at p1 C
 have p:b.H[k0]?=some (.buf e0 1 xs false):=by rw[<-g];simp only[St.push];rw[tu (aB hk)];exact hk
 have o:∀x y u,Rel s x u->(y=x\/(x = .nilS/\y = .buf s.H.length 0 0 0))->Rel b y u:=fun x y u h1 h2=>by subst g;exact rel_own C h1 h2
 have r:b.w=s.w:=by rw[<-g];rfl
 have G:b.φ k0=s.φ k0:=by rw[<-g];exact cM _ _ (by have:=aB hk;omega)
 have l:b.κ k0=s.κ k0:=by rw[<-g];exact cM _ _ (by have:=aB hk;omega)
 obtain⟨vs,S,N,T,R,X,L⟩:=M.blk k0 _ hk
 have n:b.κ k0≠0:=by have:=aB F;omega
 have t:=lvB p n;have f:=bj (w:=b.w) (bl':=.buf e0 1 (xs.set j (.buf s.H.length 0 0 0)) false) p1 p t (by simp[B.alike]) rfl rfl rfl (uA _) (fun _ _ _=>rfl)
 have A:∀(i:Nat) y,(xs.set j (.buf s.H.length 0 0 0))[i]?=some y->∃x,xs[i]?=some x/\(y=x\/(x = .nilS/\y = .buf s.H.length 0 0 0)):=fun i y m=>by
  by_cases D:j=i
  .subst D;rw[uJ (aB F)]at m;exact⟨.nilS,F,.inr ⟨rfl,(Option.some.inj m).symm⟩⟩
  .rw[uH D]at m;exact⟨y,m,.inl rfl⟩
 have E:AM.Good (b.setB b.w k0 (.buf e0 1 (xs.set j (.buf s.H.length 0 0 0)) false)):=by
  refine bw p1 p t (by simp[B.alike]) rfl rfl rfl (uA _) (fun _ _ _=>rfl) (fun f=>?_);refine⟨vs,fun _=>by show b.w.heap[b.φ k0]?=_;rw[r,G];exact S (by rw[<-l];exact n),?_,?_,?_,fun y m=>?_,fun i y J d u m q hu=>?_⟩
  .show vs.size=b.κ k0*1;rw[l];exact N
  .show _<=b.κ k0;rw[l,vb];exact T
  .show b.κ k0<=_;rw[l];exact R
  .obtain⟨i,hi⟩:=List.mem_iff_getElem?.1 m;obtain⟨x,hx,k⟩:=A i y hi
   rcases k with k | ⟨_,k⟩
   .rw[k];exact X x (tn hx)
   .rw[k];exact⟨rfl,fun c K=>by simp[V.cells]at K;subst K;rfl⟩
  .obtain⟨x,hx,k⟩:=A i y m
   rcases k with k | ⟨O,k⟩
   .subst k;exact(o d d u (L i y J d u hx q hu) (.inl rfl)).step f
   .subst k;subst O
    have I:J=0:=by have:=aB q;simp[V.cells]at this;exact this
    subst I;simp[V.cells]at q;subst q;exact(o .nilS _ u (L i .nilS 0 .nilS u hx rfl hu) (.inr ⟨rfl,rfl⟩)).step f
 have Y:(b.setB b.w k0 (.buf e0 1 (xs.set j (.buf s.H.length 0 0 0)) false)).H=s.H.set k0 (.buf e0 1 (xs.set j (.buf s.H.length 0 0 0)) false)++[.buf e z [] false]:=by
  rw[<-g];simp only[St.setB,St.push];rw[List.set_append,if_pos (aB hk)]
 have:=h (b.setB b.w k0 (.buf e0 1 (xs.set j (.buf s.H.length 0 0 0)) false)) a ⟨Y,(U.step C).step f⟩ E ⟨by rw[hf.len],fun i v u hv hu=>(o v v u (hf.rel i v u hv hu) (.inl rfl)).step f⟩ q;have D:(b.setB b.w k0 (.buf e0 1 (xs.set j (.buf s.H.length 0 0 0)) false)).w=s.w:=r;rw[D]at this
 exact wp_mono this fun _ _ _ hl=>cK (C.trans f) hl
theorem W_ownBs{P:Program}(e z:Nat){k0 e0:Nat}{c:Code}{Q:Exit->List V->List B->Prop}{fr:List V} : ∀(m:Nat) (xs:List V) (H:List B),H[k0]?=some (.buf e0 1 (xs++tg m .nilS) false)->
  W P c Q fr (H.set k0 (.buf e0 1 (xs++(tr m).map fun i=>.buf (H.length+i) 0 0 0) false)++tg m (.buf e z [] false))->W P c Q fr H
 | 0,xs,H,hk,h=>by
  have he:H.set k0 (.buf e0 1 (xs++(tr 0).map fun i=>.buf (H.length+i) 0 0 0) false)++tg 0 (.buf e z [] false)=H:=by
   simp only[List.range_zero,wP,uC,xl]at hk ⊢;have a:=aB hk;rw[tm a]at hk;rw[<-Option.some.inj hk,xE]
  rwa [he]at h
 | m+1,xs,H,hk,h=>by
  have f:(xs++tg (m+1) V.nilS)[xs.length]?=some .nilS:=by
   rw[uD (uA _),vz];rfl
  refine W_ownB e z xs.length hk f ?_
  have b:(xs++tg (m+1) V.nilS).set xs.length (.buf H.length 0 0 0)=(xs++[.buf H.length 0 0 0])++tg m .nilS:=by
   rw[uq _ _ (uA _),vz,List.replicate_succ,wZ];simp
  rw[b];have a:=aB hk;refine W_ownBs e z m (xs++[.buf H.length 0 0 0]) _ (by rw[tu (by simpa using a),uJ a]) ?_;rw[xc _ _ (by simpa using a),vq]
  have d:(xs++[V.buf H.length 0 0 0])++(tr m).map (fun i=>V.buf ((H.set k0 (.buf e0 1 ((xs++[.buf H.length 0 0 0])++tg m .nilS) false)++[B.buf e z [] false]).length+i) 0 0 0)=xs++(tr (m+1)).map fun i=>V.buf (H.length+i) 0 0 0:=by
   rw[List.range_succ_eq_map,vW,xH,uW,wX,vk];congr 2;refine vY (fun i _=>?_);simp only[uB,vb,uX,vm,Function.comp_apply];congr 1;omega
  rw[d,uW,show [B.buf e z [] false]++tg m (.buf e z [] false)=tg (m+1) (.buf e z [] false) from rfl];exact h
inductive ExpA (H:List B):V->V->Prop
 | one (v v':V) (h:Exp H v v'):ExpA H v v'
 | agg (cs ds:List V) (hl:cs.length=ds.length) (h1:∀d∈ds,d.one=true) (h:∀(i:Nat) c d,cs[i]?=some c->ds[i]?=some d->∃m,Exp H c m/\Le m d):ExpA H (.agg cs) (.agg ds)
end
section
open Go Go.AM Go.RowKit Go.Proofs.Tryz
def catW_C(n:Nat)(h:n<=1000000):n<=9223372036854775807/\n*16<=140737488355328:=by omega
def concatO_C(ls:List FlV)(g:Bool)(hp:∀l∈ls,∀x∈l.xs,AM.Pure x/\cC x=true/\x.cells.length=2)(hl:ls.length<=1000000)(hs:(dL ls).length<=1000000):ia prog 67 [.lst 1 g (ls.map dj)] fun e z xs=>e=101/\z=2/\xs=dL ls:=by
 have m:=fun i=>catL_le ls i
 have k:∀l∈ls,AM.Pure (dj l):=fun l hl=>.lst _ _ _ (fun x hx=>(hp l hl x hx).1)
 refine sOx func67 ?_;simp -dsimp[f67,tg,dj];refine aI (W_loopM 23 0x7ff828 zMx (σ:=Nat) (fun i=>i<=ls.length) (fun i=>ls.length-i) (fun i=>[(11,.int .i64 i),(3,.int .i64 ((dL (ls.take i)).length:Nat))]) (fun _=>[]) 0 ω (by simp[dL]) rfl ζ ?_);intro i hi N Q v w;by_cases hb:i<ls.length
 .have a:=lp ls i hb;have h1:=m i;have h2:=m (i+1);rw[a,uB]at h2;obtain⟨c,n⟩:=ξ ((dL (ls.take i)).length);rw[<-n]at h1 h2
  have o:(dL (ls.take (i+1))).length=c+ls[i].xs.length:=by rw[a,uB,n]
  obtain⟨x,hx⟩:=ξ (ls[i]);rw[<-hx]at h2 o;have h:=hx.symm;obtain⟨d,u⟩:=ξ (c+x.xs.length)
  have A:IntKind.i64.wrap ((c:Int)+(x.xs.length:Int))=(d:Int):=by rw[wrap64 ω ω,u];push_cast;rfl
  refine wx ?_;simp -dsimp[hb,h,A,(ω:¬(d:Int)<0),aE i ω,<-n,dj];refine v (i+1) _ _ ω ω (by simp[o,u]) ⟨[],rfl⟩ (by simp;exact k) ζ
 .obtain rfl:i=ls.length:=by omega
  rw[uV];have y:=jr (H:=[]) (me (dL ls).length hs) ζ;refine wx ?_;simp -dsimp[hb,dj];apply w;simp -dsimp[dj];refine y.mono ?_;rintro r H' ⟨e,z,xs,rfl,rfl,_,rfl,rfl,rfl⟩;simp -dsimp[dj];refine aI (W_loopM 35 0x7f8000140 zMx (σ:=Nat) (fun i=>i<=ls.length) (fun i=>ls.length-i) (fun i=>[(27,.int .i64 i),(6,.buf 0 0 (dL (ls.take i)).length (dL (ls.take i)).length)]) (fun i=>[B.buf 101 2 (dL (ls.take i)) false]) 0 ω (by simp[dL]) (by simp[dL]) ζ ?_);intro i hi D C q t;by_cases hb:i<ls.length
  .have a:=lp ls i hb;have h2:=m (i+1);have s:=hp ls[i] (ti hb);have f:=jB (ls:=ls.take (i+1)) (fun l hl=>hp l (uh hl));obtain⟨x,hx⟩:=ξ (ls[i]);rw[<-hx]at a s;have h:=hx.symm;rw[a]at h2 f;obtain⟨xs,p⟩:=ξ x.xs;have j:=p.symm;rw[<-p]at a h2 f s;by_cases h0:xs=[]
   .rw[h0,uC]at a;refine wx ?_;simp -dsimp[hb,h,j,h0,aE i ω,dj];refine q (i+1) _ _ ω ω (by simp[a]) ⟨[],by simp[a]⟩ (by simp;exact k) (by rw[h0,uC]at f;intro bl b;rcases List.mem_cons.1 b with rfl | b;exact(rbB_buf1 (by rw[a];exact f)).2 trivial;cases b)
   .obtain⟨c,n⟩:=ξ (dL (ls.take i));rw[<-n]at a h2 f;rw[uB]at h2;refine wx ?_;simp -dsimp[hb,h,j,h0,aE i ω,<-n,catW_C (c.length+xs.length) ω,dj];refine q (i+1) _ _ ω ω (by simp[a]) ⟨[],by simp[a]⟩ (by simp;exact k) (by intro bl b;rcases List.mem_cons.1 b with rfl | b;exact(rbB_buf1 (by rw[a];exact f)).2 trivial;cases b)
  .obtain rfl:i=ls.length:=by omega
   rw[uV];refine wx ?_;simp -dsimp[hb,dj];apply t;simp -dsimp[dj];exact⟨0,101,2,dL ls,ζ,rfl,fun x hx=>(jB hp x hx).1,rfl,rfl,rfl⟩
end
end Go.Proofs.YtnaokiodhoadjaaGreatDoor
