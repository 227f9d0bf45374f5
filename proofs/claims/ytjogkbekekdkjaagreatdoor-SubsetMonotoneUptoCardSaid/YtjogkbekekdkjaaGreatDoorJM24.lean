/- JM24: own texts of this seat, joined and shortened by pack4.py: H1, H2, H5. -/
import Derived.Test.YtjogkbekekdkjaaGreatDoorJM10
set_option linter.unusedVariables false
set_option linter.unusedSimpArgs false
set_option maxRecDepth 100000
set_option maxHeartbeats 64000000
open Bool renaming and_eq_true→pC,true_and→pP,false_and→pS,not_eq_true'→pg,and_false→rM,not_false→sR
open Int renaming toNat_natCast→rD,pow_succ→sQ
open List renaming replicate→ou,getElem_mem→ow,drop_eq_getElem_cons→pB,drop_of_length_le→pF,range→pG,length_append→pK,getElem?_set_ne→pR,drop_zero→pT,nil_append→pU,append_assoc→pb,length_cons→pk,cons_append→pn,getD→qZ,all_cons→qk,getElem?_replicate→qv
namespace Go.Proofs.YtjogkbekekdkjaaGreatDoor
section
open Go Go.AM
def LLi(g:Bool)(es:List (List Int)):V:=.lst 1 g (es.map (L1 false))
@[simp] theorem LLi_pure (g:Bool) (es:List (List Int)):AM.Pure (LLi g es):=by simp[LLi]
def mr(f g:Bool)(ws:List Int)(es:List (List Int)):V:=.agg [L1 f ws,LLi g es]
@[simp] theorem encHs_pure (f g:Bool) (ws:List Int) (es:List (List Int)):AM.Pure (mr f g ws es):=by simp[mr]
def wOk(w:Int):Bool:=decide (1≤w)&&decide (w≤1000000)
def kK(n:Int):Int→List Int→Bool
 | _,[]=>true
 | last,v::vs=>(decide (last<v)&&decide (v<n))&&kK n v vs
def eOk(n:Int)(e:List Int):Bool:=kK n (-1) e&&!e.isEmpty
def ng(n:Int)(es:List (List Int)):Int:=if es.all (eOk n) then 0 else 1
def validH(ws:List Int)(es:List (List Int)):Int:=if 200<ws.length∨2000<es.length then 3 else if ws.all wOk then ng ws.length es else 1
theorem hsValid(ws:List Int)(es:List (List Int))(f g:Bool)(hl:∀e∈es,e.length≤1000000):aE Tryz.prog 41 [mr f g ws es] fun r=>r = .int .i64 (validH ws es):=by
 unfold validH;by_cases h1:200<ws.length
 ·rw[if_pos (.inl h1)];refine sPx Tryz.func41 rfl rfl ?_;simp -dsimp[Tryz.f41,ou,mr,LLi,show(200:Int)<ws.length by omega,L1]
 ·by_cases h2:2000<es.length
  ·rw[if_pos (.inr h2)];refine sPx Tryz.func41 rfl rfl ?_;simp -dsimp[Tryz.f41,ou,mr,LLi,show ¬(200:Int)<ws.length by omega,show(2000:Int)<es.length by omega,L1]
  ·rw[if_neg (fun h=>h.elim h1 h2)]
   obtain⟨E,hE⟩:∃E,E=if ws.all wOk then ng ws.length es else 1:=⟨_,rfl⟩
   rw[←hE];refine sPx Tryz.func41 rfl rfl ?_;simp -dsimp[Tryz.f41,ou,mr,LLi,show ¬(200:Int)<ws.length by omega,show ¬(2000:Int)<es.length by omega,L1];refine aR (W_loopM 34 0x3ff800014 (by simp[mB]<;>rfl) (σ:=Nat) (fun i=>i≤ws.length∧(if(ws.drop i).all wOk then ng ws.length es else 1)=E) (fun i=>ws.length-i) (fun i=>[(23,.int .i64 i)]) (fun _=>[B.cells [.lst 1 f (ws.map au),.lst 1 g (es.map (L1 false))]]) 0 ⟨by omega,by rw[pT,hE]⟩ (by simp) (by simp[L1]) (by simp) ?_);rintro i ⟨hi,hx⟩ N1 Q1 hN1 hQ1;by_cases hb:i<ws.length
   ·rw[pB hb,qk]at hx;obtain⟨w,hw⟩:∃w,w=ws[i]:=⟨_,rfl⟩;rw[←hw]at hx;have hw':=hw.symm;by_cases q1:1≤w
    ·by_cases q2:w≤1000000
     ·rw[show wOk w=true by simp[wOk,q1,q2],pP]at hx;refine wx ?_;simp -dsimp[hb,hw',au,show ¬w<1 by omega,show ¬(1000000:Int)<w by omega,aa i (by omega),L1];refine hN1 (i+1) _ _ ⟨by omega,hx⟩ (by omega) ?_ ⟨[],?_⟩ ?_ ?_<;>simp[or_imp,forall_and,L1,au]
     ·rw[show wOk w=false by simp[wOk,q2],pS,if_neg (by simp)]at hx;refine wx ?_;simp -dsimp[hb,hw',au,show ¬w<1 by omega,show(1000000:Int)<w by omega,L1];refine hQ1 _ _ _ ?_;simp -dsimp[L1];exact hx
    ·rw[show wOk w=false by simp[wOk,q1],pS,if_neg (by simp)]at hx;refine wx ?_;simp -dsimp[hb,hw',au,show w<1 by omega,L1];refine hQ1 _ _ _ ?_;simp -dsimp[L1];exact hx
   ·rw[pF (by omega),List.all_nil,if_pos rfl]at hx;refine wx ?_;simp -dsimp[hb,L1];refine hQ1 _ _ _ ?_;simp -dsimp[L1];refine aR (W_loopM 63 0x7fffffe0000002c4 (by simp[mB]<;>rfl) (σ:=Nat) (fun j=>j≤es.length∧ng ws.length (es.drop j)=E) (fun j=>es.length-j) (fun j=>[(37,.int .i64 j)]) (fun _=>[B.cells [.lst 1 f (ws.map au),.lst 1 g (es.map (L1 false))]]) 0 ⟨by omega,by rw[pT,hx]⟩ (by simp) (by simp[L1]) (by simp) ?_);rintro j ⟨hj,hy⟩ N2 Q2 hN2 hQ2;by_cases hjb:j<es.length
    ·rw[pB hjb,ng,qk]at hy;have hle:=hl es[j] (ow hjb);obtain⟨e,he⟩:∃e,e=es[j]:=⟨_,rfl⟩;rw[←he]at hy hle;have he':=he.symm;obtain⟨R,hR⟩:∃R,R=(es.drop (j+1)).all (eOk ws.length):=⟨_,rfl⟩;rw[←hR]at hy;rw[eOk]at hy;refine wx ?_;simp -dsimp[hjb,he',L1];refine aR (W_loopM 59 0x7fff80000000284 (by simp[mB]<;>rfl) (σ:=Nat×Int) (fun p=>p.1≤e.length∧(if((kK ws.length p.2 (e.drop p.1)&&!e.isEmpty)&&R)=true then(0:Int) else 1)=E) (fun p=>e.length-p.1) (fun p=>[(43,.int .i64 p.1),(7,.int .i64 p.2)]) (fun _=>[B.cells [.lst 1 f (ws.map au),.lst 1 g (es.map (L1 false))]]) (0,-1) ⟨by simp,by rw[pT];exact hy⟩ (by simp) (by simp[L1]) (by simp) ?_);rintro⟨k,last⟩ ⟨hk,hz⟩ N3 Q3 hN3 hQ3;simp only at hk hz hN3;by_cases hkb:k<e.length
     ·rw[pB hkb,kK]at hz;obtain⟨v,hv⟩:∃v,v=e[k]:=⟨_,rfl⟩;rw[←hv]at hz;have hv':=hv.symm;by_cases q1:last<v
      ·by_cases q2:v<ws.length
       ·rw[decide_eq_true q1,decide_eq_true q2,pP,pP]at hz;refine wx ?_;simp -dsimp[hkb,hv',au,show ¬v≤last by omega,show ¬(ws.length:Int)≤v by omega,aa k (by omega),L1];refine hN3 (k+1,v) _ _ ⟨by simp only;omega,hz⟩ (by omega) ?_ ⟨[],?_⟩ ?_ ?_<;>simp[or_imp,forall_and,L1,au]
       ·rw[decide_eq_false q2,rM,pS,pS,pS,if_neg (by simp)]at hz;refine wx ?_;simp -dsimp[hkb,hv',au,show ¬v≤last by omega,show(ws.length:Int)≤v by omega,L1];refine hQ3 _ _ _ ?_;simp -dsimp[L1];refine hQ2 _ _ _ ?_;simp -dsimp[L1];exact hz
      ·rw[decide_eq_false q1,pS,pS,pS,pS,if_neg (by simp)]at hz;refine wx ?_;simp -dsimp[hkb,hv',au,show v≤last by omega,L1];refine hQ3 _ _ _ ?_;simp -dsimp[L1];refine hQ2 _ _ _ ?_;simp -dsimp[L1];exact hz
     ·rw[pF (by omega),kK,pP]at hz;by_cases h0:e.length=0
      ·have hen:e=[]:=List.length_eq_zero_iff.1 h0;rw[hen]at hz;simp at hz;refine wx ?_;simp -dsimp[hkb,L1];refine hQ3 _ _ _ ?_;simp -dsimp[h0,L1];refine hQ2 _ _ _ ?_;simp -dsimp[L1];exact hz
      ·have hen:e.isEmpty=false:=by cases e with
        | nil=>simp at h0
        | cons a b=>rfl
       rw[hen,sR,pP,hR]at hz;refine wx ?_;simp -dsimp[hkb,L1];refine hQ3 _ _ _ ?_;simp -dsimp[h0,show ¬(e.length:Int)=0 by omega,aa j (by omega),L1];refine hN2 (j+1) _ _ ⟨by omega,hz⟩ (by omega) ?_ ⟨[],?_⟩ ?_ ?_<;>simp[or_imp,forall_and,L1,au]
    ·rw[pF (by omega)]at hy;refine wx ?_;simp -dsimp[hjb,L1];refine hQ2 _ _ _ ?_;simp -dsimp[L1];exact hy
structure Shr where
 e:Int
 a:Int
structure Nde where
 v:Int
 l:List Shr
def kA(m:List Nat)(k:Nat)(e:List Nat):Bool:=e.any fun v=>decide (m.getD v 0=k)
def kM(m:List Nat)(es:List (List Nat)):Bool:=es.any fun e=>!kA m 1 e&&!kA m 0 e
def loadE(m:List Nat)(ws:List Int)(a:Int):List Nat→List Int→Option (List Int)
 | [],ld=>some ld
 | v::e,ld=>if m.getD v 0=0∧ws.getD v 0<ld.getD v 0+a then none else loadE m ws a e (ld.set v (ld.getD v 0+a))
def okS(es:List (List Nat))(m:List Nat)(x:Shr):Bool:=decide (0≤x.e)&&decide (x.e<es.length)&&decide (1≤x.a)&&decide (x.a≤1000000000000)&&!kA m 1 (es.getD x.e.toNat [])
def lT(ws:List Int)(es:List (List Nat))(m:List Nat)(b:Int):List Shr→List Int→Int→Bool
 | [],_,s=>decide (b≤s)
 | x::l,ld,s=>if okS es m x=true then(match loadE m ws x.a (es.getD x.e.toNat []) ld with
  | none=>false
  | some ld'=>lT ws es m b l ld' (s+x.a)) else false
def shE(ws:List Int)(es:List (List Nat))(m:List Nat)(l:List Shr)(b:Int):Bool:=decide (l.length≤10000)&&lT ws es m b l (ou m.length 0) 0
def chkF(ws:List Int)(es:List (List Nat)):Nat→List Nat→List Nde→Int→Option (List Nde)×Bool
 | 0,_,_,_=>(none,false)
 | _+1,_,[],_=>(none,false)
 | k+1,m,x::r,b =>
  if x.v = -1 then(some r,if x.l=[] then decide (b≤0)||kM m es else shE ws es m x.l b)
  else if x.v<0∨(m.length:Int)≤x.v∨x.l≠[]∨m.getD x.v.toNat 0≠0 then(none,false)
  else match chkF ws es k (m.set x.v.toNat 1) r (b-ws.getD x.v.toNat 0) with
   | (some r',true)=>chkF ws es k (m.set x.v.toNat 2) r' b
   | p=>p
def sumR:List Shr→Int
 | []=>0
 | x::l=>x.a+sumR l
def ldR(es:List (List Nat))(v:Nat):List Shr→Int
 | []=>0
 | x::l=>(if v∈es.getD x.e.toNat [] then x.a else 0)+ldR es v l
def meetsE(e ch:List Nat):Bool:=e.any fun v=>ch.contains v
def mf(n:Nat)(es:List (List Nat)):Prop:=∀e∈es,e≠[]∧e.Pairwise (· < ·)∧∀v∈e,v<n
structure Cor (n:Nat) (m ch ex:List Nat):Prop where
 len:m.length=n
 c:∀v<n,(m.getD v 0=1↔v∈ch)
 x:∀v<n,(m.getD v 0=2↔v∈ex)
 le:∀v<n,m.getD v 0≤2
theorem gf{α:Type}(l:List α){i:Nat}(d:α)(h:i<l.length):l.getD i d=l[i]:=by simp[qZ,h]
theorem gd{α:Type}(l:List α){i:Nat}(h:i<l.length)(a d:α):(l.set i a).getD i d=a:=by simp[qZ,h]
theorem gg{α:Type}(l:List α){i j:Nat}(h:i≠j)(a d:α):(l.set i a).getD j d=l.getD j d:=by simp[qZ,pR h]
theorem load_spec(m:List Nat)(ws:List Int)(a:Int)(n:Nat):∀(e:List Nat) (ld:List Int),e.Pairwise (· < ·)→(∀v∈e,v<n)→ld.length=n →
  (loadE m ws a e ld=none∧∃v∈e,m.getD v 0=0∧ws.getD v 0<ld.getD v 0+a)∨
  ((∀v∈e,m.getD v 0=0→ld.getD v 0+a≤ws.getD v 0)∧∃ld',loadE m ws a e ld=some ld'∧ld'.length=n∧∀v,ld'.getD v 0=ld.getD v 0+if v∈e then a else 0)
 | [],ld,_,_,hl=>.inr ⟨by simp,ld,rfl,hl,by simp⟩
 | v::e,ld,hp,hn,hl=>by
  obtain⟨hp1,hp2⟩:=List.pairwise_cons.1 hp
  have hv:v<ld.length:=by rw[hl];exact hn v (by simp)
  rw[loadE];by_cases h:m.getD v 0=0∧ws.getD v 0<ld.getD v 0+a
  ·rw[if_pos h];exact .inl ⟨rfl,v,by simp,h⟩
  ·rw[if_neg h]
   rcases load_spec m ws a n e (ld.set v (ld.getD v 0+a)) hp2 (fun u hu=>hn u (by simp[hu])) (by simp[hl]) with⟨h1,u,hu,h2,h3⟩ | ⟨h1,ld',h2,h3,h4⟩
   ·refine .inl ⟨h1,u,by simp[hu],h2,?_⟩;have:=hp1 u hu
    rwa [gg _ (by omega)]at h3
   ·refine .inr ⟨fun u hu h0=>?_,ld',h2,h3,fun u=>?_⟩
    ·rcases List.mem_cons.1 hu with rfl | hu
     ·have:=not_and.1 h h0;omega
     ·have h5:=h1 u hu h0;have:=hp1 u hu
      rwa [gg _ (by omega)]at h5
    ·rw[h4 u];by_cases e1:v=u
     ·subst e1;rw[gd _ hv,if_neg (fun hu=>by have:=hp1 v hu;omega)];simp
     ·rw[gg _ e1]
      have:(u∈v::e)↔u∈e:=by simp;omega
      simp only[this]
theorem jZ{es:List (List Nat)}{i:Nat}(h:i<es.length):es.getD i []∈es:=by
 rw[gf _ _ h];exact ow h
theorem mh(ws:List Int)(es:List (List Nat))(m:List Nat)(b:Int){n:Nat}(he:mf n es):∀(l:List Shr) (ld:List Int) (s:Int),ld.length=n→(∀v<n,m.getD v 0=0→ld.getD v 0≤ws.getD v 0)→
  (lT ws es m b l ld s=true↔(∀x∈l,okS es m x=true)∧(∀v<n,m.getD v 0=0→ld.getD v 0+ldR es v l≤ws.getD v 0)∧b≤s+sumR l)
 | [],ld,s,hl,hi=>by
  simp only[lT,decide_eq_true_eq,ldR,sumR,Int.add_zero];exact⟨fun h=>⟨by simp,hi,h⟩,fun h=>h.2.2⟩
 | x::l,ld,s,hl,hi=>by
  rw[lT];by_cases hx:okS es m x=true
  ·rw[if_pos hx];have hx':=hx;simp only[okS,pC,decide_eq_true_eq]at hx';obtain⟨⟨⟨⟨x1,x2⟩,x3⟩,x4⟩,x5⟩:=hx';have hmem:=jZ (es:=es) (i:=x.e.toNat) (by omega);obtain⟨e1,e2,e3⟩:=he _ hmem
   have hnn:∀(l':List Shr),(∀y∈l',okS es m y=true)→∀v,0≤ldR es v l':=by
    intro l'
    induction l' with
    | nil=>intro _ v;simp[ldR]
    | cons y l' ih =>
     intro hy v;have h0:=hy y (by simp);simp only[okS,pC,decide_eq_true_eq]at h0;have:=ih (fun z hz=>hy z (by simp[hz])) v;rw[ldR];split<;>omega
   rcases load_spec m ws x.a n _ ld e2 e3 hl with⟨h1,v,hv,h2,h3⟩ | ⟨h1,ld',h2,h3,h4⟩
   ·rw[h1];refine⟨fun h=>by simp at h,fun⟨g1,g2,g3⟩=>?_⟩;have:=g2 v (e3 v hv) h2;have h5:=hnn l (fun y hy=>g1 y (by simp[hy])) v;rw[ldR,if_pos hv]at this;omega
   ·rw[h2];simp only
    rw[mh ws es m b he l ld' (s+x.a) h3 (fun v hv h0=>by
     rw[h4 v];split
     ·exact h1 v (by assumption) h0
     ·simpa using hi v hv h0)]
    simp only[List.forall_mem_cons,ldR,sumR,h4,hx,true_and];constructor
    ·rintro⟨g1,g2,g3⟩;exact⟨g1,fun v hv h0=>by have:=g2 v hv h0;omega,by omega⟩
    ·rintro⟨g1,g2,g3⟩;exact⟨g1,fun v hv h0=>by have:=g2 v hv h0;omega,by omega⟩
  ·rw[if_neg hx];exact⟨fun h=>by simp at h,fun h=>absurd (h.1 x (by simp)) hx⟩
theorem mX(n v:Nat):(ou n (0:Int)).getD v 0=0:=by
 simp only[qZ,qv];split<;>rfl
def checkP(ws:List Int)(es:List (List Nat))(b:Int)(l:List Nde):Bool:=match chkF ws es (l.length+1) (ou ws.length 0) l b with
 | (some r,true)=>decide (r.length=0)
 | _=>false
def jK(m:List Nat)(room:List Int):List Nat→Int→Int
 | [],a=>a
 | v::e,a=>jK m room e (if m.getD v 0=0 then min a (room.getD v 0) else a)
def mP(a:Int):List Nat→List Int→List Int
 | [],rm=>rm
 | v::e,rm=>mP a e (rm.set v (rm.getD v 0-a))
def iF(m:List Nat):List (List Nat)→Nat→List Int→List Shr×Int
 | [],_,_=>([],0)
 | e::es,i,room =>
  if kA m 1 e=true then iF m es (i+1) room
  else if jK m room e 1000000=0 then iF m es (i+1) room
  else(⟨i,jK m room e 1000000⟩::(iF m es (i+1) (mP (jK m room e 1000000) e room)).1,jK m room e 1000000+(iF m es (i+1) (mP (jK m room e 1000000) e room)).2)
def brE(m:List Nat):List Nat→List Int→Int→List Int×Int
 | [],c,b=>(c,b)
 | v::e,c,b =>
  if m.getD v 0=0 then brE m e (c.set v (c.getD v 0+1)) (if b<0∨(c.set v (c.getD v 0+1)).getD b.toNat 0<c.getD v 0+1 then(v:Int) else b)
  else brE m e c b
def brF(m:List Nat):List (List Nat)→List Int→Int→Int
 | [],_,b=>b
 | e::es,c,b=>if kA m 1 e=true then brF m es c b else brF m es (brE m e c b).1 (brE m e c b).2
def ib(ws:List Int)(es:List (List Nat))(m:List Nat):List Shr×Int:=iF m es 0 ws
def brS(es:List (List Nat))(m:List Nat):Int:=brF m es (ou m.length 0) (-1)
def jz(ws:List Int)(es:List (List Nat)):Nat→List Nat→Int→Int→Option (List Nde×Int)
 | 0,_,_,_=>none
 | k+1,m,lf,b =>
  if lf-1<0 then none
  else if b≤0∨kM m es=true then some ([⟨-1,[]⟩],lf-1)
  else if b≤(ib ws es m).2 then some ([⟨-1,(ib ws es m).1⟩],lf-1)
  else if brS es m<0 then none
  else match jz ws es k (m.set (brS es m).toNat 1) (lf-1) (b-ws.getD (brS es m).toNat 0) with
   | none=>none
   | some p=>match jz ws es k (m.set (brS es m).toNat 2) p.2 b with
    | none=>none
    | some q=>some (⟨brS es m,[]⟩::(p.1++q.1),q.2)
def chosenL(m:List Nat):List Nat:=(pG m.length).filter fun v=>decide (m.getD v 0=1)
structure Bst where
 l:List Nat
 w:Int
def mT(ws:List Int)(es:List (List Nat)):Nat→List Nat→Int→Bst→Int→Option (Int×Bst)
 | 0,_,_,_,_=>none
 | k+1,m,lf,b,w =>
  if lf-1<0 then none
  else if kM m es=true then some (lf-1,b)
  else if b.w≤w+(ib ws es m).2 then some (lf-1,b)
  else if brS es m<0 then some (lf-1,⟨chosenL m,w⟩)
  else match mT ws es k (m.set (brS es m).toNat 1) (lf-1) b (w+ws.getD (brS es m).toNat 0) with
   | none=>none
   | some p=>mT ws es k (m.set (brS es m).toNat 2) p.1 p.2 w
def iM(m:List Nat):Nat:=m.countP fun x=>decide (x=0)
def phi(m:List Nat)(T:Nat→Bool)(room:List Int):Nat→Int
 | 0=>0
 | n+1=>phi m T room n+if T n=true∧m.getD n 0=0 then room.getD n 0 else 0
def iC(ws:List Int)(T:Nat→Bool):Nat→Int
 | 0=>0
 | n+1=>iC ws T n+if T n=true then ws.getD n 0 else 0
structure Ext (n:Nat) (es:List (List Nat)) (m:List Nat) (T:Nat→Bool):Prop where
 c:∀v<n,m.getD v 0=1→T v=true
 x:∀v<n,m.getD v 0=2→T v=false
 h:∀e∈es,∃v∈e,T v=true
theorem lh{m:List Nat}{v c:Nat}(hv:v<m.length)(h0:m.getD v 0=0)(hc:c≠0):iM (m.set v c)+1=iM m:=by
 unfold iM;rw[List.countP_set hv]
 have e:m[v]=0:=by rwa [gf _ _ hv]at h0
 have hp:0<m.countP fun x=>decide (x=0):=List.countP_pos_iff.2 ⟨m[v],ow hv,by simp[e]⟩
 simp[e,hc];omega
theorem lg{m:List Nat}{v c:Nat}(T:Nat→Bool)(room:List Int)(hv:v<m.length)(h0:m.getD v 0=0)(hc:c≠0):∀n,phi (m.set v c) T room n=phi m T room n-if v<n∧T v=true then room.getD v 0 else 0
 | 0=>by simp[phi]
 | n+1=>by
  rw[phi,phi,lg T room hv h0 hc n];by_cases e:v=n
  ·subst e;rw[gd _ hv,h0];by_cases ht:T v=true<;>simp[hc,ht]
  ·rw[gg _ e]
   have:(v<n+1∧T v=true)↔(v<n∧T v=true):=by constructor<;>rintro⟨a,b⟩<;>exact⟨by omega,b⟩
   simp only[this];omega
theorem lB{m:List Nat}{T:Nat→Bool}{room:List Int} : ∀n,(∀v<n,m.getD v 0=0→0≤room.getD v 0)→0≤phi m T room n
 | 0,_=>by simp[phi]
 | n+1,h=>by
  rw[phi]
  have:=lB (T:=T) n fun v hv h0=>h v (by omega) h0
  split
  ·have:=h n (by omega) (by rename_i hq;exact hq.2);omega
  ·omega
theorem phi_le{m:List Nat}{T:Nat→Bool}{room room':List Int}{a:Int}(ha:0≤a):∀n,(∀v<n,room'.getD v 0≤room.getD v 0)→phi m T room' n≤phi m T room n∧((∃u<n,T u=true∧m.getD u 0=0∧room'.getD u 0=room.getD u 0-a)→phi m T room' n≤phi m T room n-a)
 | 0,_=>⟨by simp[phi],by rintro⟨u,h,_⟩;omega⟩
 | n+1,h=>by
  obtain⟨i1,i2⟩:=phi_le (m:=m) (T:=T) ha n fun v hv=>h v (by omega)
  have hn:=h n (by omega);rw[phi,phi];refine⟨by split<;>omega,?_⟩;rintro⟨u,hu,h1,h2,h3⟩;by_cases e:u=n
  ·subst e;rw[if_pos ⟨h1,h2⟩,if_pos ⟨h1,h2⟩];omega
  ·have:=i2 ⟨u,by omega,h1,h2,h3⟩;split<;>omega
theorem lR(a:Int)(n:Nat):∀(e:List Nat) (rm:List Int),e.Pairwise (· < ·)→(∀v∈e,v<n)→rm.length=n →
  (mP a e rm).length=n∧∀v,(mP a e rm).getD v 0=rm.getD v 0-if v∈e then a else 0
 | [],rm,_,_,hl=>⟨hl,by simp[mP]⟩
 | v::e,rm,hp,hn,hl=>by
  obtain⟨hp1,hp2⟩:=List.pairwise_cons.1 hp
  have hv:v<rm.length:=by rw[hl];exact hn v (by simp)
  rw[mP];obtain⟨h1,h2⟩:=lR a n e (rm.set v (rm.getD v 0-a)) hp2 (fun u hu=>hn u (by simp[hu])) (by simp[hl]);refine⟨h1,fun u=>?_⟩;rw[h2 u];by_cases e1:v=u
  ·subst e1;rw[gd _ hv,if_neg (fun hu=>by have:=hp1 v hu;omega)];simp
  ·rw[gg _ e1]
   have:(u∈v::e)↔u∈e:=by simp;omega
   simp only[this]
theorem amt_spec(m:List Nat)(room:List Int):∀(e:List Nat) (a:Int),jK m room e a≤a∧(∀v∈e,m.getD v 0=0→jK m room e a≤room.getD v 0)∧(0≤a→(∀v∈e,m.getD v 0=0→0≤room.getD v 0)→0≤jK m room e a)
 | [],a=>⟨by simp[jK],by simp,by simp[jK]⟩
 | v::e,a=>by
  rw[jK];obtain⟨h1,h2,h3⟩:=amt_spec m room e (if m.getD v 0=0 then min a (room.getD v 0) else a);refine⟨?_,fun u hu h0=>?_,fun ha hr=>h3 ?_ fun u hu=>hr u (by simp[hu])⟩
  ·have h4:(if m.getD v 0=0 then min a (room.getD v 0) else a)≤a:=by split<;>omega
   omega
  ·rcases List.mem_cons.1 hu with rfl | hu
   ·rw[if_pos h0]at h1 ⊢;omega
   ·exact h2 u hu h0
  ·split
   ·have:=hr v (by simp) (by assumption);omega
   ·exact ha
theorem nf{m:List Nat}{room:List Int}{n:Nat}{e:List Nat}(he:e.Pairwise (· < ·))(hn:∀v∈e,v<n)(hl:room.length=n)(hr:∀v<n,m.getD v 0=0→0≤room.getD v 0):
  (mP (jK m room e 1000000) e room).length=n∧(∀v<n,m.getD v 0=0→0≤(mP (jK m room e 1000000) e room).getD v 0)∧0≤jK m room e 1000000∧jK m room e 1000000≤1000000:=by
 obtain⟨a1,a2,a3⟩:=amt_spec m room e 1000000;obtain⟨s1,s2⟩:=lR (jK m room e 1000000) n e room he hn hl;refine⟨s1,fun v hv h0=>?_,a3 (by omega) fun v hv=>hr v (hn v hv),a1⟩;rw[s2 v];have:=hr v hv h0;split
 ·have:=a2 v (by assumption) h0;omega
 ·omega
theorem nF{m:List Nat}{n:Nat}{T:Nat→Bool} : ∀(es:List (List Nat)) (i:Nat) (room:List Int),mf n es→Ext n es m T→(∀v<n,m.getD v 0≤2)→room.length=n→(∀v<n,m.getD v 0=0→0≤room.getD v 0)→(iF m es i room).2≤phi m T room n
 | [],i,room,_,_,_,_,hr=>by rw[iF];exact lB n hr
 | e::es,i,room,he,hx,h2,hl,hr=>by
  obtain⟨e1,e2,e3⟩:=he e (by simp)
  have he':mf n es:=fun x hx=>he x (by simp[hx])
  have hx':Ext n es m T:=⟨hx.c,hx.x,fun x hx2=>hx.h x (by simp[hx2])⟩;rw[iF];split
  ·exact nF es _ room he' hx' h2 hl hr
  ·rename_i hh;split
   ·exact nF es _ room he' hx' h2 hl hr
   ·obtain⟨r1,r2,r3,r4⟩:=nf (m:=m) e2 e3 hl hr;have ih:=nF es (i+1) _ he' hx' h2 r1 r2;obtain⟨u,hu,hT⟩:=hx.h e (by simp);obtain⟨s1,s2⟩:=lR (jK m room e 1000000) n e room e2 e3 hl
    have hu0:m.getD u 0=0:=by
     have a2:=h2 u (e3 u hu);by_cases b1:m.getD u 0=1
     ·exact absurd (List.any_eq_true.2 ⟨u,hu,by simpa using b1⟩) hh
     ·by_cases b2:m.getD u 0=2
      ·rw[hx.x u (e3 u hu) b2]at hT;cases hT
      ·omega
    have:=(phi_le (m:=m) (T:=T) (room:=room) r3 n fun v hv=>by rw[s2 v];split<;>omega).2 ⟨u,e3 u hu,hT,hu0,by rw[s2 u,if_pos hu]⟩;simp only;omega
theorem jl{m:List Nat}{n:Nat}{ES:List (List Nat)}(hE:mf n ES):∀(es:List (List Nat)) (i:Nat) (room:List Int),es=ES.drop i→room.length=n→(∀v<n,m.getD v 0=0→0≤room.getD v 0)→
  (∀x∈(iF m es i room).1,okS ES m x=true)∧sumR (iF m es i room).1=(iF m es i room).2∧(iF m es i room).1.length≤es.length∧(∀v<n,m.getD v 0=0→ldR ES v (iF m es i room).1≤room.getD v 0)∧(iF m es i room).2≤1000000*es.length∧0≤(iF m es i room).2
 | [],i,room,_,_,hr=>by simp[iF,sumR,ldR];exact hr
 | e::es,i,room,hd,hl,hr=>by
  have hi:i<ES.length:=by
   by_cases h:i<ES.length
   ·exact h
   ·rw[pF (by omega)]at hd;cases hd
  rw[pB hi]at hd;obtain⟨hd1,hd2⟩:=List.cons.inj hd
  have hg:ES.getD i []=e:=by rw[gf _ _ hi,hd1]
  obtain⟨e1,e2,e3⟩:=hE e (by rw[hd1];exact ow hi);rw[iF];split
  ·obtain⟨a,b,c,d,f,g⟩:=jl hE es (i+1) room hd2 hl hr;exact⟨a,b,by simp;omega,d,by simp;omega,g⟩
  ·rename_i hh;split
   ·obtain⟨a,b,c,d,f,g⟩:=jl hE es (i+1) room hd2 hl hr;exact⟨a,b,by simp;omega,d,by simp;omega,g⟩
   ·rename_i h0;obtain⟨r1,r2,r3,r4⟩:=nf (m:=m) e2 e3 hl hr;obtain⟨a,b,c,d,f,g⟩:=jl hE es (i+1) _ hd2 r1 r2;obtain⟨s1,s2⟩:=lR (jK m room e 1000000) n e room e2 e3 hl;refine⟨fun x hx=>?_,by simp only[sumR];omega,by simp;omega,fun v hv hv0=>?_,by simp;omega,by simp;omega⟩
    ·rcases List.mem_cons.1 hx with rfl | hx
     ·simp only[okS,rD,hg,pC,decide_eq_true_eq];refine⟨⟨⟨⟨by omega,by omega⟩,by omega⟩,by omega⟩,by simpa using hh⟩
     ·exact a x hx
    ·simp only[ldR,rD,hg];have:=d v hv hv0;rw[s2 v]at this;omega
theorem oU(m:List Nat):∀(e:List Nat) (c:List Int) (b:Int),((brE m e c b).2=b∧(b<0→∀v∈e,m.getD v 0≠0))∨∃v∈e,m.getD v 0=0∧(brE m e c b).2=v
 | [],c,b=>.inl ⟨rfl,by simp⟩
 | v::e,c,b=>by
  rw[brE];split
  ·rename_i h0
   rcases oU m e (c.set v (c.getD v 0+1)) (if b<0∨(c.set v (c.getD v 0+1)).getD b.toNat 0<c.getD v 0+1 then(v:Int) else b) with⟨h1,_⟩ | ⟨u,hu,h1,h2⟩
   ·by_cases hb:b<0∨(c.set v (c.getD v 0+1)).getD b.toNat 0<c.getD v 0+1
    ·rw[if_pos hb]at h1 ⊢;exact .inr ⟨v,by simp,h0,h1⟩
    ·rw[if_neg hb]at h1 ⊢;exact .inl ⟨h1,fun h=>absurd (.inl h) hb⟩
   ·exact .inr ⟨u,by simp[hu],h1,h2⟩
  ·rename_i h0
   rcases oU m e c b with⟨h1,h2⟩ | ⟨u,hu,h1,h2⟩
   ·refine .inl ⟨h1,fun h u hu=>?_⟩
    rcases List.mem_cons.1 hu with rfl | hu
    ·exact h0
    ·exact h2 h u hu
   ·exact .inr ⟨u,by simp[hu],h1,h2⟩
theorem oT(m:List Nat):∀(es:List (List Nat)) (c:List Int) (b:Int),(brF m es c b=b∧(b<0→∀e∈es,kA m 1 e=true∨∀v∈e,m.getD v 0≠0))∨∃e∈es,∃v∈e,m.getD v 0=0∧brF m es c b=v
 | [],c,b=>.inl ⟨rfl,by simp⟩
 | e::es,c,b=>by
  rw[brF];split
  ·rename_i h0
   rcases oT m es c b with⟨h1,h2⟩ | ⟨x,hx,v,hv,h1,h2⟩
   ·refine .inl ⟨h1,fun h x hx=>?_⟩
    rcases List.mem_cons.1 hx with rfl | hx
    ·exact .inl h0
    ·exact h2 h x hx
   ·exact .inr ⟨x,by simp[hx],v,hv,h1,h2⟩
  ·rcases oT m es (brE m e c b).1 (brE m e c b).2 with⟨h1,h2⟩ | ⟨x,hx,v,hv,h1,h2⟩
   ·rcases oU m e c b with⟨g1,g2⟩ | ⟨v,hv,g1,g2⟩
    ·rw[g1]at h1 h2;rw[g1];refine .inl ⟨h1,fun h x hx=>?_⟩
     rcases List.mem_cons.1 hx with rfl | hx
     ·exact .inr (g2 h)
     ·exact h2 h x hx
    ·rw[g2]at h1;rw[g2];exact .inr ⟨e,by simp,v,hv,g1,h1⟩
   ·exact .inr ⟨x,by simp[hx],v,hv,h1,h2⟩
theorem mL{n:Nat}{es:List (List Nat)}(he:mf n es)(m:List Nat):(brS es m<0∧(kM m es=false→∀e∈es,∃v∈e,m.getD v 0=1))∨((brS es m).toNat<n∧0≤brS es m∧m.getD (brS es m).toNat 0=0):=by
 unfold brS
 rcases oT m es (ou m.length 0) (-1) with⟨h1,h2⟩ | ⟨e,h,v,hv,h1,h2⟩
 ·refine .inl ⟨by omega,fun hd e h=>?_⟩
  have h3:kA m 1 e=true:=by
   rcases h2 (by omega) e h with h3 | h3
   ·exact h3
   ·have:=List.any_eq_false.1 hd e h
    have h0:kA m 0 e=false:=by
     unfold kA;rw[List.any_eq_false];intro v hv;simpa using h3 v hv
    rw[h0]at this;simpa using this
  obtain⟨v,hv,h4⟩:=List.any_eq_true.1 h3;exact⟨v,hv,by simpa using h4⟩
 ·rw[h2];exact .inr ⟨by simpa using(he e h).2.2 v hv,by omega,by simpa using h1⟩
structure Wok (n:Nat) (ws:List Int) (m:List Nat):Prop where
 lw:ws.length=n
 lm:m.length=n
 p:∀v<n,1≤ws.getD v 0
 le:∀v<n,m.getD v 0≤2
theorem Wok.set{n:Nat}{ws:List Int}{m:List Nat}(g:Wok n ws m)(v:Nat){c:Nat}(hc:c≤2):Wok n ws (m.set v c):=by
 refine⟨g.lw,by simp[g.lm],g.p,fun u hu=>?_⟩;by_cases e:v=u
 ·subst e;by_cases hv:v<m.length
  ·rw[gd _ hv];exact hc
  ·rw[List.set_eq_of_length_le (by omega)];exact g.le v hu
 ·rw[gg _ e];exact g.le u hu
theorem Ext.of_set{n:Nat}{es:List (List Nat)}{m:List Nat}{T:Nat→Bool}{v c:Nat}(hv:v<m.length)(hn:v<n)(h0:m.getD v 0=0)(h:Ext n es (m.set v c) T):Ext n es m T:=by
 refine⟨fun u hu h1=>?_,fun u hu h1=>?_,h.h⟩
 ·have:v≠u:=by rintro rfl;omega
  exact h.c u hu (by rwa [gg _ this])
 ·have:v≠u:=by rintro rfl;omega
  exact h.x u hu (by rwa [gg _ this])
theorem prv_ok{ws:List Int}{es:List (List Nat)}{n:Nat}(he:mf n es)(hes:es.length≤10000):∀(k:Nat) (m:List Nat) (lf b:Int),Wok n ws m→iM m<k→2^(iM m+1)-1≤lf→(∀T,Ext n es m T→b≤phi m T ws n)→
  ∃l lf',jz ws es k m lf b=some (l,lf')∧lf-(2^(iM m+1)-1)≤lf'∧∀(r:List Nde) (K:Nat),l.length≤K→chkF ws es K m (l++r) b=(some r,true)
 | 0,_,_,_,_,h,_,_=>by omega
 | k+1,m,lf,b,g,ho,hlf,hT=>by
  have hp1:(1:Int)≤2^iM m:=by exact_mod_cast Nat.one_le_two_pow
  rw[sQ]at hlf;rw[jz,if_neg (by omega)];by_cases h1:b≤0∨kM m es=true
  ·rw[if_pos h1];refine⟨_,_,rfl,by rw[sQ];omega,fun r K hK=>?_⟩;obtain⟨K,rfl⟩:∃j,K=j+1:=⟨K-1,by simp at hK;omega⟩;simp only[pn,pU,chkF,if_true];rw[Prod.mk.injEq];refine⟨rfl,?_⟩
   rcases h1 with h | h<;>simp[h]
  ·rw[if_neg h1]
   have hb:0<b:=by
    by_cases h:b≤0
    ·exact absurd (.inl h) h1
    ·omega
   have hd:kM m es=false:=by
    cases h:kM m es
    ·rfl
    ·exact absurd (.inr h) h1
   have hr:∀v<n,m.getD v 0=0→0≤ws.getD v 0:=fun v hv _=>by have:=g.p v hv;omega
   obtain⟨q1,q2,q3,q4,_,_⟩:=jl (m:=m) he es 0 ws (by simp) g.lw hr;by_cases h2:b≤(ib ws es m).2
   ·rw[if_pos h2];refine⟨_,_,rfl,by rw[sQ];omega,fun r K hK=>?_⟩;obtain⟨K,rfl⟩:∃j,K=j+1:=⟨K-1,by simp at hK;omega⟩;unfold ib at h2 ⊢
    have hne:(iF m es 0 ws).1≠[]:=fun h=>by rw[h]at q2;simp only[sumR]at q2;omega
    simp only[pn,pU,chkF,if_true];rw[if_neg hne,Prod.mk.injEq];refine⟨rfl,?_⟩;unfold shE;rw[decide_eq_true (show(iF m es 0 ws).1.length≤10000 by omega),pP,mh ws es m b he _ _ 0 (by simp[g.lm]) (fun v hv _=>by rw[mX];have:=g.p v hv;omega)];exact⟨q1,fun v hv h0=>by rw[mX,Int.zero_add];exact q4 v hv h0,by omega⟩
   ·rw[if_neg h2]
    rcases mL he m with⟨h3,h4⟩ | ⟨v1,v2,v3⟩
    ·exfalso;have hx:=hT (fun v=>decide (m.getD v 0=1)) ⟨fun v _ h=>by simpa using h,fun v _ h=>by simp only[decide_eq_false_iff_not];omega,fun e h=>by obtain⟨v,hv,h5⟩:=h4 hd e h;exact⟨v,hv,by simpa using h5⟩⟩
     have h0:∀j,phi m (fun v=>decide (m.getD v 0=1)) ws j=0:=by
      intro j
      induction j with
      | zero=>rfl
      | succ j ih=>rw[phi,ih,if_neg (by rintro⟨a,c⟩;simp only[decide_eq_true_eq]at a;omega)];rfl
     rw[h0]at hx;omega
    ·rw[if_neg (by omega)];obtain⟨v,hv⟩:∃v,v=(brS es m).toNat:=⟨_,rfl⟩
     have hvi:brS es m=(v:Int):=by omega
     rw[←hv]at v1 v3 ⊢
     have hvm:v<m.length:=by rw[g.lm];exact v1
     have o1:=lh hvm v3 (c:=1) (by omega);have o2:=lh hvm v3 (c:=2) (by omega)
     have hpo:(2:Int)^iM m=2^(iM (m.set v 1)+1):=by rw[o1]
     have hpo2:(2:Int)^iM m=2^(iM (m.set v 2)+1):=by rw[o2]
     obtain⟨l1,f1,a1,a2,a3⟩:=prv_ok he hes k (m.set v 1) (lf-1) (b-ws.getD v 0) (g.set v (by omega)) (by omega) (by rw[←hpo];omega) (fun T hX=>by
      have:=hT T (hX.of_set hvm v1 v3);rw[lg T ws hvm v3 (by omega) n,if_pos ⟨v1,hX.c v v1 (gd _ hvm _ _)⟩]
      omega)
     rw[←hpo]at a2;rw[a1]
     obtain⟨l2,f2,b1,b2,b3⟩:=prv_ok he hes k (m.set v 2) f1 b (g.set v (by omega)) (by omega) (by rw[←hpo2];omega) (fun T hX=>by
      have:=hT T (hX.of_set hvm v1 v3);rw[lg T ws hvm v3 (by omega) n,if_neg (by rintro⟨_,h⟩;rw[hX.x v v1 (gd _ hvm _ _)]at h;cases h)]
      omega)
     rw[←hpo2]at b2;simp only[b1];refine⟨_,_,rfl,by rw[sQ];omega,fun r K hK=>?_⟩;obtain⟨K,rfl⟩:∃j,K=j+1:=⟨K-1,by simp at hK;omega⟩;simp only[pk,pK]at hK;rw[hvi,pn,chkF,if_neg (by simp only;omega),if_neg (by simp only[rD,v3];rintro(h | h | h | h)<;>first | omega | exact h rfl)];simp only[rD];rw[pb,a3 (l2++r) K (by omega)];simp only;rw[b3 r K (by omega)]
structure GoodB (n:Nat) (ws:List Int) (es:List (List Nat)) (b:Bst) (T:Nat→Bool):Prop where
 l:b.l=(pG n).filter T
 h:∀e∈es,∃v∈e,T v=true
 w:b.w=iC ws T n
theorem wsum_set{ws:List Int}{m:List Nat}{v:Nat}(hv:v<m.length)(h0:m.getD v 0=0):∀n,iC ws (fun u=>decide ((m.set v 1).getD u 0=1)) n=iC ws (fun u=>decide (m.getD u 0=1)) n+if v<n then ws.getD v 0 else 0
 | 0=>by simp[iC]
 | n+1=>by
  rw[iC,iC,wsum_set hv h0 n];by_cases e:v=n
  ·subst e;rw[gd _ hv,h0];simp
  ·rw[gg _ e]
   have:v<n+1↔v<n:=by omega
   simp only[this];omega
theorem wsum_set2{ws:List Int}{m:List Nat}{v:Nat}(hv:v<m.length)(h0:m.getD v 0=0):∀n,iC ws (fun u=>decide ((m.set v 2).getD u 0=1)) n=iC ws (fun u=>decide (m.getD u 0=1)) n
 | 0=>by simp[iC]
 | n+1=>by
  rw[iC,iC,wsum_set2 hv h0 n];by_cases e:v=n
  ·subst e;rw[gd _ hv,h0];simp
  ·rw[gg _ e]
theorem min_ok{ws:List Int}{es:List (List Nat)}{n:Nat}(he:mf n es):∀(k:Nat) (m:List Nat) (lf:Int) (b:Bst) (w:Int),Wok n ws m→iM m<k→2^(iM m+1)-1≤lf→w=iC ws (fun u=>decide (m.getD u 0=1)) n →
  ∃lf' b',mT ws es k m lf b w=some (lf',b')∧lf-(2^(iM m+1)-1)≤lf'∧b'.w≤b.w∧(∀T,Ext n es m T→b'.w≤w+phi m T ws n)∧(b'=b∨∃T,GoodB n ws es b' T)
 | 0,_,_,_,_,_,h,_,_=>by omega
 | k+1,m,lf,b,w,g,ho,hlf,hw=>by
  have hp1:(1:Int)≤2^iM m:=by exact_mod_cast Nat.one_le_two_pow
  rw[sQ]at hlf ⊢;rw[mT,if_neg (by omega)]
  have hr:∀v<n,m.getD v 0=0→0≤ws.getD v 0:=fun v hv _=>by have:=g.p v hv;omega
  cases hd:kM m es
  ·rw[if_neg (by simp)];by_cases h2:b.w≤w+(ib ws es m).2
   ·rw[if_pos h2];refine⟨_,_,rfl,by omega,by omega,fun T hX=>?_,.inl rfl⟩;have:=nF es 0 ws he hX g.le g.lw hr;unfold ib at h2;omega
   ·rw[if_neg h2];obtain⟨_,_,_,_,_,q6⟩:=jl (m:=m) he es 0 ws (by simp) g.lw hr;unfold ib at h2
    rcases mL he m with⟨h3,h4⟩ | ⟨v1,v2,v3⟩
    ·rw[if_pos h3];refine⟨_,_,rfl,by omega,by simp only;omega,fun T hX=>?_,.inr ⟨fun u=>decide (m.getD u 0=1),⟨?_,fun e h=>?_,?_⟩⟩⟩
     ·have:=lB (m:=m) (T:=T) n hr;simp only;omega
     ·unfold chosenL;rw[g.lm]
     ·obtain⟨v,hv,h5⟩:=h4 hd e h;exact⟨v,hv,by simpa using h5⟩
     ·exact hw
    ·rw[if_neg (by omega)];obtain⟨v,hv⟩:∃v,v=(brS es m).toNat:=⟨_,rfl⟩;rw[←hv]at v1 v3 ⊢
     have hvm:v<m.length:=by rw[g.lm];exact v1
     have o1:=lh hvm v3 (c:=1) (by omega);have o2:=lh hvm v3 (c:=2) (by omega)
     have hpo:(2:Int)^iM m=2^(iM (m.set v 1)+1):=by rw[o1]
     have hpo2:(2:Int)^iM m=2^(iM (m.set v 2)+1):=by rw[o2]
     obtain⟨f1,b1,a1,a2,a3,a4,a5⟩:=min_ok he k (m.set v 1) (lf-1) b (w+ws.getD v 0) (g.set v (by omega)) (by omega) (by rw[←hpo];omega) (by rw[wsum_set hvm v3 n,if_pos v1,hw]);rw[←hpo]at a2;rw[a1];obtain⟨f2,b2,c1,c2,c3,c4,c5⟩:=min_ok he k (m.set v 2) f1 b1 w (g.set v (by omega)) (by omega) (by rw[←hpo2];omega) (by rw[wsum_set2 hvm v3 n,hw]);rw[←hpo2]at c2;refine⟨f2,b2,c1,by omega,by omega,fun T hX=>?_,?_⟩
     ·cases ht:T v
      ·have hX2:Ext n es (m.set v 2) T:=⟨fun u hu h=>by
         by_cases e:v=u
         ·subst e;rw[gd _ hvm]at h;omega
         ·exact hX.c u hu (by rwa [gg _ e]at h),fun u hu h=>by
         by_cases e:v=u
         ·subst e;exact ht
         ·exact hX.x u hu (by rwa [gg _ e]at h),hX.h⟩
       have:=c4 T hX2;rw[lg T ws hvm v3 (by omega) n,if_neg (by rintro⟨_,h⟩;rw[ht]at h;cases h)]at this;omega
      ·have hX1:Ext n es (m.set v 1) T:=⟨fun u hu h=>by
         by_cases e:v=u
         ·subst e;exact ht
         ·exact hX.c u hu (by rwa [gg _ e]at h),fun u hu h=>by
         by_cases e:v=u
         ·subst e;rw[gd _ hvm]at h;omega
         ·exact hX.x u hu (by rwa [gg _ e]at h),hX.h⟩
       have:=a4 T hX1;rw[lg T ws hvm v3 (by omega) n,if_pos ⟨v1,ht⟩]at this;omega
     ·rcases c5 with rfl | c5
      ·exact a5
      ·exact .inr c5
  ·rw[if_pos rfl];refine⟨_,_,rfl,by omega,by omega,fun T hX=>?_,.inl rfl⟩;exfalso;obtain⟨e,h1,h2⟩:=List.any_eq_true.1 hd;obtain⟨v,hv,h3⟩:=hX.h e h1;simp only[pC,pg,kA,List.any_eq_false,decide_eq_true_eq]at h2;have hn:=(he e h1).2.2 v hv;have:=hX.x v hn (by have:=h2.1 v hv;have:=h2.2 v hv;have:=g.le v hn;omega);rw[h3]at this;cases this
end
end Go.Proofs.YtjogkbekekdkjaaGreatDoor
