/- JX14: own texts of this seat, joined and shortened by pack4.py: H1, H2, H5, GrN, CatN, OwB, Ag. -/
import Derived.Test.YtjogkbekekdkjaaGreatDoorJX9
import Derived.WalkKit
import Derived.Lib.Walk
import Derived.Lib.SliceRun
import Derived.Lib.AppendZerosOnto
import Derived.OwnWalk
set_option linter.unusedVariables false
set_option linter.unusedSimpArgs false
set_option maxRecDepth 100000
set_option maxHeartbeats 64000000
open Array renaming size_append→ug
open Bool renaming and_eq_true→rX,false_and→rZ,true_and→re,not_eq_true'→sL,or_eq_true→sV,eq_iff_iff→sb,and_false→sv,not_false→uP
open Int renaming toNat_natCast→sT,pow_succ→vP
open List renaming replicate→rO,drop_eq_getElem_cons→rP,getElem_mem→rQ,drop_of_length_le→rR,getElem?_eq_getElem→rT,take_succ_eq_append_getElem→rV,mem_of_getElem?→rW,getElem?_append_left→rg,range→rh,length_append→ri,append_nil→rj,drop_zero→rk,getElem?_append_right→rq,nil_append→rx,getElem?_set_ne→ry,getElem?_set_self→sA,length_cons→sB,mem_of_mem_take→sD,all_eq_true→sH,take_length→sJ,append_assoc→sO,cons_append→sP,set_append_right→sS,map_append→sX,all_cons→sZ,length_set→se,set_set→tC,getElem?_replicate→tE,map_cons→tF,take_append_drop→tG,length_drop→tL,getD→tO,contains_iff_mem→tP,length_nil→td,map_nil→tt,singleton_append→tu,set_getElem_self→tw,mem_range→uD,map_congr_left→uJ,all_nil→uL,any_eq_true→uO,forall_mem_cons→uR,any_eq_false→un,flatten_append→vA,map_map→vE
open Nat renaming le_refl→rd,add_mul→sM,sub_self→tg,add_zero→tm
namespace Go.Proofs.YtjogkbekekdkjaaGreatDoor
section
open Go Go.AM
def LLi(g:Bool)(es:List (List Int)):V:=.lst 1 g (es.map (L1 false))
@[simp] theorem LLi_pure (g:Bool) (es:List (List Int)):AM.Pure (LLi g es):=by simp[LLi]
def jI(f g:Bool)(ws:List Int)(es:List (List Int)):V:=.agg [L1 f ws,LLi g es]
@[simp] theorem encHs_pure (f g:Bool) (ws:List Int) (es:List (List Int)):AM.Pure (jI f g ws es):=by simp[jI]
def wOk(w:Int):Bool:=decide (1≤w)&&decide (w≤1000000)
def gI(n:Int):Int→List Int→Bool
 | _,[]=>true
 | last,v::vs=>(decide (last<v)&&decide (v<n))&&gI n v vs
def eOk(n:Int)(e:List Int):Bool:=gI n (-1) e&&!e.isEmpty
def jX(n:Int)(es:List (List Int)):Int:=if es.all (eOk n) then 0 else 1
def nC(ws:List Int)(es:List (List Int)):Int:=if 200<ws.length∨2000<es.length then 3 else if ws.all wOk then jX ws.length es else 1
theorem hsValid(ws:List Int)(es:List (List Int))(f g:Bool)(hl:∀e∈es,e.length≤1000000):aL Tryz.prog 41 [jI f g ws es] fun r=>r = .int .i64 (nC ws es):=by
 unfold nC;by_cases h1:200<ws.length
 ·rw[if_pos (.inl h1)];refine sPx Tryz.func41 rfl rfl ?_;simp -dsimp[Tryz.f41,rO,jI,LLi,show(200:Int)<ws.length by omega,L1]
 ·by_cases h2:2000<es.length
  ·rw[if_pos (.inr h2)];refine sPx Tryz.func41 rfl rfl ?_;simp -dsimp[Tryz.f41,rO,jI,LLi,show ¬(200:Int)<ws.length by omega,show(2000:Int)<es.length by omega,L1]
  ·rw[if_neg (fun h=>h.elim h1 h2)]
   obtain⟨E,hE⟩:∃E,E=if ws.all wOk then jX ws.length es else 1:=⟨_,rfl⟩
   rw[←hE];refine sPx Tryz.func41 rfl rfl ?_;simp -dsimp[Tryz.f41,rO,jI,LLi,show ¬(200:Int)<ws.length by omega,show ¬(2000:Int)<es.length by omega,L1];refine aG (W_loopM 34 0x3ff800014 (by simp[mB]<;>rfl) (σ:=Nat) (fun i=>i≤ws.length∧(if(ws.drop i).all wOk then jX ws.length es else 1)=E) (fun i=>ws.length-i) (fun i=>[(23,.int .i64 i)]) (fun _=>[B.cells [.lst 1 f (ws.map aE),.lst 1 g (es.map (L1 false))]]) 0 ⟨by omega,by rw[rk,hE]⟩ (by simp) (by simp[L1]) (by simp) ?_);rintro i ⟨hi,hx⟩ N1 Q1 hN1 hQ1;by_cases hb:i<ws.length
   ·rw[rP hb,sZ]at hx;obtain⟨w,hw⟩:∃w,w=ws[i]:=⟨_,rfl⟩;rw[←hw]at hx;have hw':=hw.symm;by_cases q1:1≤w
    ·by_cases q2:w≤1000000
     ·rw[show wOk w=true by simp[wOk,q1,q2],re]at hx;refine wx ?_;simp -dsimp[hb,hw',aE,show ¬w<1 by omega,show ¬(1000000:Int)<w by omega,aH i (by omega),L1];refine hN1 (i+1) _ _ ⟨by omega,hx⟩ (by omega) ?_ ⟨[],?_⟩ ?_ ?_<;>simp[or_imp,forall_and,L1,aE]
     ·rw[show wOk w=false by simp[wOk,q2],rZ,if_neg (by simp)]at hx;refine wx ?_;simp -dsimp[hb,hw',aE,show ¬w<1 by omega,show(1000000:Int)<w by omega,L1];refine hQ1 _ _ _ ?_;simp -dsimp[L1];exact hx
    ·rw[show wOk w=false by simp[wOk,q1],rZ,if_neg (by simp)]at hx;refine wx ?_;simp -dsimp[hb,hw',aE,show w<1 by omega,L1];refine hQ1 _ _ _ ?_;simp -dsimp[L1];exact hx
   ·rw[rR (by omega),uL,if_pos rfl]at hx;refine wx ?_;simp -dsimp[hb,L1];refine hQ1 _ _ _ ?_;simp -dsimp[L1];refine aG (W_loopM 63 0x7fffffe0000002c4 (by simp[mB]<;>rfl) (σ:=Nat) (fun j=>j≤es.length∧jX ws.length (es.drop j)=E) (fun j=>es.length-j) (fun j=>[(37,.int .i64 j)]) (fun _=>[B.cells [.lst 1 f (ws.map aE),.lst 1 g (es.map (L1 false))]]) 0 ⟨by omega,by rw[rk,hx]⟩ (by simp) (by simp[L1]) (by simp) ?_);rintro j ⟨hj,hy⟩ N2 Q2 hN2 hQ2;by_cases hjb:j<es.length
    ·rw[rP hjb,jX,sZ]at hy;have hle:=hl es[j] (rQ hjb);obtain⟨e,he⟩:∃e,e=es[j]:=⟨_,rfl⟩;rw[←he]at hy hle;have he':=he.symm;obtain⟨R,hR⟩:∃R,R=(es.drop (j+1)).all (eOk ws.length):=⟨_,rfl⟩;rw[←hR]at hy;rw[eOk]at hy;refine wx ?_;simp -dsimp[hjb,he',L1];refine aG (W_loopM 59 0x7fff80000000284 (by simp[mB]<;>rfl) (σ:=Nat×Int) (fun p=>p.1≤e.length∧(if((gI ws.length p.2 (e.drop p.1)&&!e.isEmpty)&&R)=true then(0:Int) else 1)=E) (fun p=>e.length-p.1) (fun p=>[(43,.int .i64 p.1),(7,.int .i64 p.2)]) (fun _=>[B.cells [.lst 1 f (ws.map aE),.lst 1 g (es.map (L1 false))]]) (0,-1) ⟨by simp,by rw[rk];exact hy⟩ (by simp) (by simp[L1]) (by simp) ?_);rintro⟨k,last⟩ ⟨hk,hz⟩ N3 Q3 hN3 hQ3;simp only at hk hz hN3;by_cases hkb:k<e.length
     ·rw[rP hkb,gI]at hz;obtain⟨v,hv⟩:∃v,v=e[k]:=⟨_,rfl⟩;rw[←hv]at hz;have hv':=hv.symm;by_cases q1:last<v
      ·by_cases q2:v<ws.length
       ·rw[decide_eq_true q1,decide_eq_true q2,re,re]at hz;refine wx ?_;simp -dsimp[hkb,hv',aE,show ¬v≤last by omega,show ¬(ws.length:Int)≤v by omega,aH k (by omega),L1];refine hN3 (k+1,v) _ _ ⟨by simp only;omega,hz⟩ (by omega) ?_ ⟨[],?_⟩ ?_ ?_<;>simp[or_imp,forall_and,L1,aE]
       ·rw[decide_eq_false q2,sv,rZ,rZ,rZ,if_neg (by simp)]at hz;refine wx ?_;simp -dsimp[hkb,hv',aE,show ¬v≤last by omega,show(ws.length:Int)≤v by omega,L1];refine hQ3 _ _ _ ?_;simp -dsimp[L1];refine hQ2 _ _ _ ?_;simp -dsimp[L1];exact hz
      ·rw[decide_eq_false q1,rZ,rZ,rZ,rZ,if_neg (by simp)]at hz;refine wx ?_;simp -dsimp[hkb,hv',aE,show v≤last by omega,L1];refine hQ3 _ _ _ ?_;simp -dsimp[L1];refine hQ2 _ _ _ ?_;simp -dsimp[L1];exact hz
     ·rw[rR (by omega),gI,re]at hz;by_cases h0:e.length=0
      ·have hen:e=[]:=List.length_eq_zero_iff.1 h0;rw[hen]at hz;simp at hz;refine wx ?_;simp -dsimp[hkb,L1];refine hQ3 _ _ _ ?_;simp -dsimp[h0,L1];refine hQ2 _ _ _ ?_;simp -dsimp[L1];exact hz
      ·have hen:e.isEmpty=false:=by cases e with
        | nil=>simp at h0
        | cons a b=>rfl
       rw[hen,uP,re,hR]at hz;refine wx ?_;simp -dsimp[hkb,L1];refine hQ3 _ _ _ ?_;simp -dsimp[h0,show ¬(e.length:Int)=0 by omega,aH j (by omega),L1];refine hN2 (j+1) _ _ ⟨by omega,hz⟩ (by omega) ?_ ⟨[],?_⟩ ?_ ?_<;>simp[or_imp,forall_and,L1,aE]
    ·rw[rR (by omega)]at hy;refine wx ?_;simp -dsimp[hjb,L1];refine hQ2 _ _ _ ?_;simp -dsimp[L1];exact hy
structure Shr where
 e:Int
 a:Int
structure Nde where
 v:Int
 l:List Shr
def ec(m:List Nat)(k:Nat)(e:List Nat):Bool:=e.any fun v=>decide (m.getD v 0=k)
def fG(m:List Nat)(es:List (List Nat)):Bool:=es.any fun e=>!ec m 1 e&&!ec m 0 e
def nz(m:List Nat)(ws:List Int)(a:Int):List Nat→List Int→Option (List Int)
 | [],ld=>some ld
 | v::e,ld=>if m.getD v 0=0∧ws.getD v 0<ld.getD v 0+a then none else nz m ws a e (ld.set v (ld.getD v 0+a))
def okS(es:List (List Nat))(m:List Nat)(x:Shr):Bool:=decide (0≤x.e)&&decide (x.e<es.length)&&decide (1≤x.a)&&decide (x.a≤1000000000000)&&!ec m 1 (es.getD x.e.toNat [])
def fJ(ws:List Int)(es:List (List Nat))(m:List Nat)(b:Int):List Shr→List Int→Int→Bool
 | [],_,s=>decide (b≤s)
 | x::l,ld,s=>if okS es m x=true then(match nz m ws x.a (es.getD x.e.toNat []) ld with
  | none=>false
  | some ld'=>fJ ws es m b l ld' (s+x.a)) else false
def shE(ws:List Int)(es:List (List Nat))(m:List Nat)(l:List Shr)(b:Int):Bool:=decide (l.length≤10000)&&fJ ws es m b l (rO m.length 0) 0
def dH(ws:List Int)(es:List (List Nat)):Nat→List Nat→List Nde→Int→Option (List Nde)×Bool
 | 0,_,_,_=>(none,false)
 | _+1,_,[],_=>(none,false)
 | k+1,m,x::r,b =>
  if x.v = -1 then(some r,if x.l=[] then decide (b≤0)||fG m es else shE ws es m x.l b)
  else if x.v<0∨(m.length:Int)≤x.v∨x.l≠[]∨m.getD x.v.toNat 0≠0 then(none,false)
  else match dH ws es k (m.set x.v.toNat 1) r (b-ws.getD x.v.toNat 0) with
   | (some r',true)=>dH ws es k (m.set x.v.toNat 2) r' b
   | p=>p
def gf:List Shr→Int
 | []=>0
 | x::l=>x.a+gf l
def ldR(es:List (List Nat))(v:Nat):List Shr→Int
 | []=>0
 | x::l=>(if v∈es.getD x.e.toNat [] then x.a else 0)+ldR es v l
def dW(e ch:List Nat):Bool:=e.any fun v=>ch.contains v
def okR(es:List (List Nat))(ch:List Nat)(x:Shr):Bool:=decide (0≤x.e)&&decide (x.e<es.length)&&decide (1≤x.a)&&decide (x.a≤1000000000000)&&!dW (es.getD x.e.toNat []) ch
def ib(ws:List Int)(es:List (List Nat))(ch ex:List Nat)(b:Int)(l:List Shr):Bool :=
 decide (l.length≤10000)&&(l.all (okR es ch)&&((rh ws.length).all (fun v=>decide (ldR es v l≤ws.getD v 0)||ex.contains v)&&decide (b≤gf l)))
def fO(es:List (List Nat))(ex:List Nat):Bool:=es.any fun e=>e.all fun v=>ex.contains v
def cP(ws:List Int)(es:List (List Nat)):Nat→List Nat→List Nat→Int→List Nde→Int
 | 0,_,_,_,_=>-1
 | _+1,_,_,_,[]=>-1
 | k+1,ch,ex,b,x::r =>
  if x.v = -1 then(if(if x.l=[] then decide (b≤0)||fO es ex else ib ws es ch ex b x.l)=true then 1 else -1)
  else if x.l≠[]∨x.v<0∨(ws.length:Int)≤x.v∨x.v.toNat∈ch∨x.v.toNat∈ex then -1
  else if cP ws es k (ch++[x.v.toNat]) ex (b-ws.getD x.v.toNat 0) r<0 then -1
  else if cP ws es k ch (ex++[x.v.toNat]) b (r.drop (cP ws es k (ch++[x.v.toNat]) ex (b-ws.getD x.v.toNat 0) r).toNat)<0 then -1
  else 1+cP ws es k (ch++[x.v.toNat]) ex (b-ws.getD x.v.toNat 0) r+cP ws es k ch (ex++[x.v.toNat]) b (r.drop (cP ws es k (ch++[x.v.toNat]) ex (b-ws.getD x.v.toNat 0) r).toNat)
def gK(n:Nat)(es:List (List Nat)):Prop:=∀e∈es,e≠[]∧e.Pairwise (· < ·)∧∀v∈e,v<n
structure Cor (n:Nat) (m ch ex:List Nat):Prop where
 len:m.length=n
 c:∀v<n,(m.getD v 0=1↔v∈ch)
 x:∀v<n,(m.getD v 0=2↔v∈ex)
 le:∀v<n,m.getD v 0≤2
theorem am{α:Type}(l:List α){i:Nat}(d:α)(h:i<l.length):l.getD i d=l[i]:=by simp[tO,h]
theorem aU{α:Type}(l:List α){i:Nat}(h:i<l.length)(a d:α):(l.set i a).getD i d=a:=by simp[tO,h]
theorem aY{α:Type}(l:List α){i j:Nat}(h:i≠j)(a d:α):(l.set i a).getD j d=l.getD j d:=by simp[tO,ry h]
theorem Cor.set1{n:Nat}{m ch ex:List Nat}(g:Cor n m ch ex){v:Nat}(hv:v<n)(h0:m.getD v 0=0):Cor n (m.set v 1) (ch++[v]) ex:=by
 have hl:v<m.length:=by rw[g.len];exact hv
 refine⟨by simp[g.len],fun u hu=>?_,fun u hu=>?_,fun u hu=>?_⟩
 ·by_cases e:v=u
  ·subst e;rw[aU _ hl];simp
  ·rw[aY _ e,g.c u hu];simp;omega
 ·by_cases e:v=u
  ·subst e;rw[aU _ hl,←g.x v hv,h0];simp
  ·rw[aY _ e,g.x u hu]
 ·by_cases e:v=u
  ·subst e;rw[aU _ hl];omega
  ·rw[aY _ e];exact g.le u hu
theorem Cor.set2{n:Nat}{m ch ex:List Nat}(g:Cor n m ch ex){v:Nat}(hv:v<n)(h0:m.getD v 0=0):Cor n (m.set v 2) ch (ex++[v]):=by
 have hl:v<m.length:=by rw[g.len];exact hv
 refine⟨by simp[g.len],fun u hu=>?_,fun u hu=>?_,fun u hu=>?_⟩
 ·by_cases e:v=u
  ·subst e;rw[aU _ hl,←g.c v hv,h0];simp
  ·rw[aY _ e,g.c u hu]
 ·by_cases e:v=u
  ·subst e;rw[aU _ hl];simp
  ·rw[aY _ e,g.x u hu];simp;omega
 ·by_cases e:v=u
  ·subst e;rw[aU _ hl];omega
  ·rw[aY _ e];exact g.le u hu
theorem has1_meets{n:Nat}{m ch ex:List Nat}(g:Cor n m ch ex){e:List Nat}(he:∀v∈e,v<n):ec m 1 e=dW e ch:=by
 unfold ec dW;rw[sb];simp only[uO,decide_eq_true_eq,tP];exact⟨fun⟨v,hv,h⟩=>⟨v,hv,(g.c v (he v hv)).1 h⟩,fun⟨v,hv,h⟩=>⟨v,hv,(g.c v (he v hv)).2 h⟩⟩
theorem dead_closed{n:Nat}{m ch ex:List Nat}(g:Cor n m ch ex){es:List (List Nat)}(he:gK n es):fG m es=fO es ex:=by
 unfold fG fO ec;rw[sb];simp only[uO,rX,sL,un,decide_eq_true_eq,sH,tP];constructor
 ·rintro⟨e,h1,h2,h3⟩;refine⟨e,h1,fun v hv=>?_⟩;have hvn:=(he e h1).2.2 v hv;have a1:=h2 v hv;have a0:=h3 v hv;have:=g.le v hvn;exact(g.x v hvn).1 (by omega)
 ·rintro⟨e,h1,h2⟩;refine⟨e,h1,fun v hv=>?_,fun v hv=>?_⟩
  ·have:=(g.x v ((he e h1).2.2 v hv)).2 (h2 v hv);omega
  ·have:=(g.x v ((he e h1).2.2 v hv)).2 (h2 v hv);omega
theorem load_spec(m:List Nat)(ws:List Int)(a:Int)(n:Nat):∀(e:List Nat) (ld:List Int),e.Pairwise (· < ·)→(∀v∈e,v<n)→ld.length=n →
  (nz m ws a e ld=none∧∃v∈e,m.getD v 0=0∧ws.getD v 0<ld.getD v 0+a)∨
  ((∀v∈e,m.getD v 0=0→ld.getD v 0+a≤ws.getD v 0)∧∃ld',nz m ws a e ld=some ld'∧ld'.length=n∧∀v,ld'.getD v 0=ld.getD v 0+if v∈e then a else 0)
 | [],ld,_,_,hl=>.inr ⟨by simp,ld,rfl,hl,by simp⟩
 | v::e,ld,hp,hn,hl=>by
  obtain⟨hp1,hp2⟩:=List.pairwise_cons.1 hp
  have hv:v<ld.length:=by rw[hl];exact hn v (by simp)
  rw[nz];by_cases h:m.getD v 0=0∧ws.getD v 0<ld.getD v 0+a
  ·rw[if_pos h];exact .inl ⟨rfl,v,by simp,h⟩
  ·rw[if_neg h]
   rcases load_spec m ws a n e (ld.set v (ld.getD v 0+a)) hp2 (fun u hu=>hn u (by simp[hu])) (by simp[hl]) with⟨h1,u,hu,h2,h3⟩ | ⟨h1,ld',h2,h3,h4⟩
   ·refine .inl ⟨h1,u,by simp[hu],h2,?_⟩;have:=hp1 u hu
    rwa [aY _ (by omega)]at h3
   ·refine .inr ⟨fun u hu h0=>?_,ld',h2,h3,fun u=>?_⟩
    ·rcases List.mem_cons.1 hu with rfl | hu
     ·have:=not_and.1 h h0;omega
     ·have h5:=h1 u hu h0;have:=hp1 u hu
      rwa [aY _ (by omega)]at h5
    ·rw[h4 u];by_cases e1:v=u
     ·subst e1;rw[aU _ hv,if_neg (fun hu=>by have:=hp1 v hu;omega)];simp
     ·rw[aY _ e1]
      have:(u∈v::e)↔u∈e:=by simp;omega
      simp only[this]
theorem ee{es:List (List Nat)}{i:Nat}(h:i<es.length):es.getD i []∈es:=by
 rw[am _ _ h];exact rQ h
theorem gO(ws:List Int)(es:List (List Nat))(m:List Nat)(b:Int){n:Nat}(he:gK n es):∀(l:List Shr) (ld:List Int) (s:Int),ld.length=n→(∀v<n,m.getD v 0=0→ld.getD v 0≤ws.getD v 0)→
  (fJ ws es m b l ld s=true↔(∀x∈l,okS es m x=true)∧(∀v<n,m.getD v 0=0→ld.getD v 0+ldR es v l≤ws.getD v 0)∧b≤s+gf l)
 | [],ld,s,hl,hi=>by
  simp only[fJ,decide_eq_true_eq,ldR,gf,Int.add_zero];exact⟨fun h=>⟨by simp,hi,h⟩,fun h=>h.2.2⟩
 | x::l,ld,s,hl,hi=>by
  rw[fJ];by_cases hx:okS es m x=true
  ·rw[if_pos hx];have hx':=hx;simp only[okS,rX,decide_eq_true_eq]at hx';obtain⟨⟨⟨⟨x1,x2⟩,x3⟩,x4⟩,x5⟩:=hx';have hmem:=ee (es:=es) (i:=x.e.toNat) (by omega);obtain⟨e1,e2,e3⟩:=he _ hmem
   have hnn:∀(l':List Shr),(∀y∈l',okS es m y=true)→∀v,0≤ldR es v l':=by
    intro l'
    induction l' with
    | nil=>intro _ v;simp[ldR]
    | cons y l' ih =>
     intro hy v;have h0:=hy y (by simp);simp only[okS,rX,decide_eq_true_eq]at h0;have:=ih (fun z hz=>hy z (by simp[hz])) v;rw[ldR];split<;>omega
   rcases load_spec m ws x.a n _ ld e2 e3 hl with⟨h1,v,hv,h2,h3⟩ | ⟨h1,ld',h2,h3,h4⟩
   ·rw[h1];refine⟨fun h=>by simp at h,fun⟨g1,g2,g3⟩=>?_⟩;have:=g2 v (e3 v hv) h2;have h5:=hnn l (fun y hy=>g1 y (by simp[hy])) v;rw[ldR,if_pos hv]at this;omega
   ·rw[h2];simp only
    rw[gO ws es m b he l ld' (s+x.a) h3 (fun v hv h0=>by
     rw[h4 v];split
     ·exact h1 v (by assumption) h0
     ·simpa using hi v hv h0)]
    simp only[uR,ldR,gf,h4,hx,true_and];constructor
    ·rintro⟨g1,g2,g3⟩;exact⟨g1,fun v hv h0=>by have:=g2 v hv h0;omega,by omega⟩
    ·rintro⟨g1,g2,g3⟩;exact⟨g1,fun v hv h0=>by have:=g2 v hv h0;omega,by omega⟩
  ·rw[if_neg hx];exact⟨fun h=>by simp at h,fun h=>absurd (h.1 x (by simp)) hx⟩
theorem eE(n v:Nat):(rO n (0:Int)).getD v 0=0:=by
 simp only[tO,tE];split<;>rfl
theorem sh_right{ws:List Int}{es:List (List Nat)}{m ch ex:List Nat}(g:Cor ws.length m ch ex)(he:gK ws.length es)(hw:∀w∈ws,1≤w)(l:List Shr)(b:Int):shE ws es m l b=ib ws es ch ex b l:=by
 unfold shE ib;by_cases hl:l.length≤10000
 ·rw[decide_eq_true hl,re,re,sb]
  have hw0:∀v<ws.length,1≤ws.getD v 0:=fun v hv=>by rw[am _ _ hv];exact hw _ (rQ hv)
  rw[gO ws es m b he l _ 0 (by simp[g.len]) (fun v hv _=>by rw[eE];have:=hw0 v hv;omega)];simp only[rX,sH,decide_eq_true_eq,uD,sV,tP,eE,Int.zero_add]
  have hok:∀x:Shr,okS es m x=okR es ch x:=fun x=>by
   unfold okS okR;by_cases h1:0≤x.e
   ·by_cases h2:x.e<es.length
    ·rw[has1_meets g (he _ (ee (by omega))).2.2]
    ·simp[h2]
   ·simp[h1]
  simp only[hok];constructor
  ·rintro⟨h1,h2,h3⟩;refine⟨h1,fun v hv=>?_,h3⟩;by_cases h0:m.getD v 0=0
   ·exact .inl (h2 v hv h0)
   ·by_cases h5:m.getD v 0=2
    ·exact .inr ((g.x v hv).1 h5)
    ·have hc:v∈ch:=(g.c v hv).1 (by have:=g.le v hv;omega);refine .inl ?_
     have:ldR es v l=0:=by
      clear h2 h3 hl
      induction l with
      | nil=>rfl
      | cons y l ih =>
       have hy:=h1 y (by simp);simp only[okR,rX,sL,dW,un,tP]at hy;rw[ldR,if_neg (fun hm=>hy.2 v hm hc),ih (fun z hz=>h1 z (by simp[hz]))];rfl
     have:=hw0 v hv;omega
  ·rintro⟨h1,h2,h3⟩;refine⟨h1,fun v hv h0=>?_,h3⟩
   rcases h2 v hv with h | h
   ·exact h
   ·have:=(g.x v hv).2 h;omega
 ·simp[hl]
theorem qh{ws:List Int}{es:List (List Nat)}(he:gK ws.length es)(hw:∀w∈ws,1≤w):∀(k:Nat) (m ch ex:List Nat) (b:Int) (l:List Nde),Cor ws.length m ch ex →
  ((dH ws es k m l b).2=true→∃j:Nat,1≤j∧j≤l.length∧(dH ws es k m l b).1=some (l.drop j)∧cP ws es k ch ex b l=j)∧((dH ws es k m l b).2=false→cP ws es k ch ex b l = -1)
 | 0,m,ch,ex,b,l,g=>by simp[dH,cP]
 | k+1,m,ch,ex,b,[],g=>by simp[dH,cP]
 | k+1,m,ch,ex,b,x::r,g=>by
  rw[dH,cP];by_cases h1:x.v = -1
  ·rw[if_pos h1,if_pos h1]
   have hq:(if x.l=[] then decide (b≤0)||fG m es else shE ws es m x.l b)=(if x.l=[] then decide (b≤0)||fO es ex else ib ws es ch ex b x.l):=by
    rw[dead_closed g he,sh_right g he hw]
   rw[hq];generalize (if x.l=[] then decide (b≤0)||fO es ex else ib ws es ch ex b x.l)=q;cases q
   ·simp
   ·simp only[if_true];exact⟨fun _=>⟨1,by omega,by simp,by simp,rfl⟩,fun h=>by simp at h⟩
  ·rw[if_neg h1,if_neg h1]
   have hiff:(x.v<0∨(m.length:Int)≤x.v∨x.l≠[]∨m.getD x.v.toNat 0≠0)↔(x.l≠[]∨x.v<0∨(ws.length:Int)≤x.v∨x.v.toNat∈ch∨x.v.toNat∈ex):=by
    rw[g.len];by_cases a1:x.v<0
    ·simp[a1]
    ·by_cases a2:(ws.length:Int)≤x.v
     ·simp[a2]
     ·have hv:x.v.toNat<ws.length:=by omega
      have e1:=g.c _ hv;have e2:=g.x _ hv;have e3:=g.le _ hv
      have:m.getD x.v.toNat 0≠0↔(x.v.toNat∈ch∨x.v.toNat∈ex):=by
       rw[←e1,←e2];omega
      rw[this];by_cases a3:x.l=[]<;>simp[a1,a2,a3]
   by_cases h2:x.v<0∨(m.length:Int)≤x.v∨x.l≠[]∨m.getD x.v.toNat 0≠0
   ·rw[if_pos h2,if_pos (hiff.1 h2)];simp
   ·rw[if_neg h2,if_neg (fun h=>h2 (hiff.2 h))]
    have hv:x.v.toNat<ws.length:=by rw[←g.len];omega
    have h0:m.getD x.v.toNat 0=0:=by
     by_cases a:m.getD x.v.toNat 0=0
     ·exact a
     ·exact absurd (.inr (.inr (.inr a))) h2
    obtain⟨i1,i2⟩:=qh he hw k _ _ _ (b-ws.getD x.v.toNat 0) r (g.set1 hv h0);obtain⟨p,hp⟩:∃p,p=dH ws es k (m.set x.v.toNat 1) r (b-ws.getD x.v.toNat 0):=⟨_,rfl⟩;rw[←hp]at i1 i2 ⊢;obtain⟨p1,p2⟩:=p;cases p2
    ·rw[i2 rfl,if_pos (by omega)];cases p1<;>simp
    ·obtain⟨j,j1,j2,j3,j4⟩:=i1 rfl;simp only at j3;rw[j3,j4,if_neg (by omega),sT];simp only;obtain⟨k1,k2⟩:=qh he hw k _ _ _ b (r.drop j) (g.set2 hv h0);cases hd:(dH ws es k (m.set x.v.toNat 2) (r.drop j) b).2
     ·rw[k2 hd,if_pos (by omega)];simp
     ·obtain⟨i,l1,l2,l3,l4⟩:=k1 hd;rw[l4,if_neg (by omega),l3];rw[tL]at l2;refine⟨fun _=>⟨1+j+i,by omega,by simp;omega,?_,by omega⟩,fun h=>by simp at h⟩;rw[show 1+j+i=(j+i)+1 by omega,List.drop_succ_cons,List.drop_drop]
def jx(ws:List Int)(es:List (List Nat))(b:Int)(l:List Nde):Bool:=match dH ws es (l.length+1) (rO ws.length 0) l b with
 | (some r,true)=>decide (r.length=0)
 | _=>false
def checkRf(ws:List Int)(es:List (List Nat))(b:Int)(l:List Nde):Bool:=decide (0<l.length)&&decide (cP ws es (l.length+1) [] [] b l=l.length)
theorem check_same{ws:List Int}{es:List (List Nat)}(he:gK ws.length es)(hw:∀w∈ws,1≤w)(b:Int)(l:List Nde):jx ws es b l=checkRf ws es b l:=by
 unfold jx checkRf
 have hm0:∀v,(rO ws.length 0).getD v 0=0:=fun v=>by
  simp only[tO,tE];split<;>rfl
 have g:Cor ws.length (rO ws.length 0) [] []:=⟨by simp,fun v _=>by rw[hm0];simp,fun v _=>by rw[hm0];simp,fun v _=>by rw[hm0];omega⟩;obtain⟨h1,h2⟩:=qh he hw (l.length+1) _ _ _ b l g;obtain⟨p,hp⟩:∃p,p=dH ws es (l.length+1) (rO ws.length 0) l b:=⟨_,rfl⟩;rw[←hp]at h1 h2 ⊢;obtain⟨p1,p2⟩:=p;cases p2
 ·rw[h2 rfl]
  have h3:(match (p1,false) with
   | (some r,true)=>decide (r.length=0)
   | _=>false)=false:=by cases p1<;>rfl
  rw[h3]
  symm
  simp only[Bool.and_eq_false_iff,decide_eq_false_iff_not];exact .inr (by omega)
 ·obtain⟨j,j1,j2,j3,j4⟩:=h1 rfl;simp only at j3;rw[j3,j4,sb];simp only[tL,rX,decide_eq_true_eq];omega
def ek(m:List Nat)(room:List Int):List Nat→Int→Int
 | [],a=>a
 | v::e,a=>ek m room e (if m.getD v 0=0 then min a (room.getD v 0) else a)
def ky(a:Int):List Nat→List Int→List Int
 | [],rm=>rm
 | v::e,rm=>ky a e (rm.set v (rm.getD v 0-a))
def cW(m:List Nat):List (List Nat)→Nat→List Int→List Shr×Int
 | [],_,_=>([],0)
 | e::es,i,room =>
  if ec m 1 e=true then cW m es (i+1) room
  else if ek m room e 1000000=0 then cW m es (i+1) room
  else(⟨i,ek m room e 1000000⟩::(cW m es (i+1) (ky (ek m room e 1000000) e room)).1,ek m room e 1000000+(cW m es (i+1) (ky (ek m room e 1000000) e room)).2)
def brE(m:List Nat):List Nat→List Int→Int→List Int×Int
 | [],c,b=>(c,b)
 | v::e,c,b =>
  if m.getD v 0=0 then brE m e (c.set v (c.getD v 0+1)) (if b<0∨(c.set v (c.getD v 0+1)).getD b.toNat 0<c.getD v 0+1 then(v:Int) else b)
  else brE m e c b
def brF(m:List Nat):List (List Nat)→List Int→Int→Int
 | [],_,b=>b
 | e::es,c,b=>if ec m 1 e=true then brF m es c b else brF m es (brE m e c b).1 (brE m e c b).2
def bw(ws:List Int)(es:List (List Nat))(m:List Nat):List Shr×Int:=cW m es 0 ws
def brS(es:List (List Nat))(m:List Nat):Int:=brF m es (rO m.length 0) (-1)
def gh(ws:List Int)(es:List (List Nat)):Nat→List Nat→Int→Int→Option (List Nde×Int)
 | 0,_,_,_=>none
 | k+1,m,lf,b =>
  if lf-1<0 then none
  else if b≤0∨fG m es=true then some ([⟨-1,[]⟩],lf-1)
  else if b≤(bw ws es m).2 then some ([⟨-1,(bw ws es m).1⟩],lf-1)
  else if brS es m<0 then none
  else match gh ws es k (m.set (brS es m).toNat 1) (lf-1) (b-ws.getD (brS es m).toNat 0) with
   | none=>none
   | some p=>match gh ws es k (m.set (brS es m).toNat 2) p.2 b with
    | none=>none
    | some q=>some (⟨brS es m,[]⟩::(p.1++q.1),q.2)
def chosenL(m:List Nat):List Nat:=(rh m.length).filter fun v=>decide (m.getD v 0=1)
structure Bst where
 l:List Nat
 w:Int
def nN(ws:List Int)(es:List (List Nat)):Nat→List Nat→Int→Bst→Int→Option (Int×Bst)
 | 0,_,_,_,_=>none
 | k+1,m,lf,b,w =>
  if lf-1<0 then none
  else if fG m es=true then some (lf-1,b)
  else if b.w≤w+(bw ws es m).2 then some (lf-1,b)
  else if brS es m<0 then some (lf-1,⟨chosenL m,w⟩)
  else match nN ws es k (m.set (brS es m).toNat 1) (lf-1) b (w+ws.getD (brS es m).toNat 0) with
   | none=>none
   | some p=>nN ws es k (m.set (brS es m).toNat 2) p.1 p.2 w
def di(m:List Nat):Nat:=m.countP fun x=>decide (x=0)
def phi(m:List Nat)(T:Nat→Bool)(room:List Int):Nat→Int
 | 0=>0
 | n+1=>phi m T room n+if T n=true∧m.getD n 0=0 then room.getD n 0 else 0
def cz(ws:List Int)(T:Nat→Bool):Nat→Int
 | 0=>0
 | n+1=>cz ws T n+if T n=true then ws.getD n 0 else 0
structure Ext (n:Nat) (es:List (List Nat)) (m:List Nat) (T:Nat→Bool):Prop where
 c:∀v<n,m.getD v 0=1→T v=true
 x:∀v<n,m.getD v 0=2→T v=false
 h:∀e∈es,∃v∈e,T v=true
theorem mF{m:List Nat}{v c:Nat}(hv:v<m.length)(h0:m.getD v 0=0)(hc:c≠0):di (m.set v c)+1=di m:=by
 unfold di;rw[List.countP_set hv]
 have e:m[v]=0:=by rwa [am _ _ hv]at h0
 have hp:0<m.countP fun x=>decide (x=0):=List.countP_pos_iff.2 ⟨m[v],rQ hv,by simp[e]⟩
 simp[e,hc];omega
theorem ig{m:List Nat}{v c:Nat}(T:Nat→Bool)(room:List Int)(hv:v<m.length)(h0:m.getD v 0=0)(hc:c≠0):∀n,phi (m.set v c) T room n=phi m T room n-if v<n∧T v=true then room.getD v 0 else 0
 | 0=>by simp[phi]
 | n+1=>by
  rw[phi,phi,ig T room hv h0 hc n];by_cases e:v=n
  ·subst e;rw[aU _ hv,h0];by_cases ht:T v=true<;>simp[hc,ht]
  ·rw[aY _ e]
   have:(v<n+1∧T v=true)↔(v<n∧T v=true):=by constructor<;>rintro⟨a,b⟩<;>exact⟨by omega,b⟩
   simp only[this];omega
theorem ii{m:List Nat}{T:Nat→Bool}{room:List Int} : ∀n,(∀v<n,m.getD v 0=0→0≤room.getD v 0)→0≤phi m T room n
 | 0,_=>by simp[phi]
 | n+1,h=>by
  rw[phi]
  have:=ii (T:=T) n fun v hv h0=>h v (by omega) h0
  split
  ·have:=h n (by omega) (by rename_i hq;exact hq.2);omega
  ·omega
theorem phi_le{m:List Nat}{T:Nat→Bool}{room room':List Int}{a:Int}(ha:0≤a):∀n,(∀v<n,room'.getD v 0≤room.getD v 0)→phi m T room' n≤phi m T room n∧((∃u<n,T u=true∧m.getD u 0=0∧room'.getD u 0=room.getD u 0-a)→phi m T room' n≤phi m T room n-a)
 | 0,_=>⟨by simp[phi],by rintro⟨u,h,_⟩;omega⟩
 | n+1,h=>by
  obtain⟨i1,i2⟩:=phi_le (m:=m) (T:=T) ha n fun v hv=>h v (by omega)
  have hn:=h n (by omega);rw[phi,phi];refine⟨by split<;>omega,?_⟩;rintro⟨u,hu,h1,h2,h3⟩;by_cases e:u=n
  ·subst e;rw[if_pos ⟨h1,h2⟩,if_pos ⟨h1,h2⟩];omega
  ·have:=i2 ⟨u,by omega,h1,h2,h3⟩;split<;>omega
theorem li(a:Int)(n:Nat):∀(e:List Nat) (rm:List Int),e.Pairwise (· < ·)→(∀v∈e,v<n)→rm.length=n →
  (ky a e rm).length=n∧∀v,(ky a e rm).getD v 0=rm.getD v 0-if v∈e then a else 0
 | [],rm,_,_,hl=>⟨hl,by simp[ky]⟩
 | v::e,rm,hp,hn,hl=>by
  obtain⟨hp1,hp2⟩:=List.pairwise_cons.1 hp
  have hv:v<rm.length:=by rw[hl];exact hn v (by simp)
  rw[ky];obtain⟨h1,h2⟩:=li a n e (rm.set v (rm.getD v 0-a)) hp2 (fun u hu=>hn u (by simp[hu])) (by simp[hl]);refine⟨h1,fun u=>?_⟩;rw[h2 u];by_cases e1:v=u
  ·subst e1;rw[aU _ hv,if_neg (fun hu=>by have:=hp1 v hu;omega)];simp
  ·rw[aY _ e1]
   have:(u∈v::e)↔u∈e:=by simp;omega
   simp only[this]
theorem amt_spec(m:List Nat)(room:List Int):∀(e:List Nat) (a:Int),ek m room e a≤a∧(∀v∈e,m.getD v 0=0→ek m room e a≤room.getD v 0)∧(0≤a→(∀v∈e,m.getD v 0=0→0≤room.getD v 0)→0≤ek m room e a)
 | [],a=>⟨by simp[ek],by simp,by simp[ek]⟩
 | v::e,a=>by
  rw[ek];obtain⟨h1,h2,h3⟩:=amt_spec m room e (if m.getD v 0=0 then min a (room.getD v 0) else a);refine⟨?_,fun u hu h0=>?_,fun ha hr=>h3 ?_ fun u hu=>hr u (by simp[hu])⟩
  ·have h4:(if m.getD v 0=0 then min a (room.getD v 0) else a)≤a:=by split<;>omega
   omega
  ·rcases List.mem_cons.1 hu with rfl | hu
   ·rw[if_pos h0]at h1 ⊢;omega
   ·exact h2 u hu h0
  ·split
   ·have:=hr v (by simp) (by assumption);omega
   ·exact ha
theorem lp{m:List Nat}{room:List Int}{n:Nat}{e:List Nat}(he:e.Pairwise (· < ·))(hn:∀v∈e,v<n)(hl:room.length=n)(hr:∀v<n,m.getD v 0=0→0≤room.getD v 0):
  (ky (ek m room e 1000000) e room).length=n∧(∀v<n,m.getD v 0=0→0≤(ky (ek m room e 1000000) e room).getD v 0)∧0≤ek m room e 1000000∧ek m room e 1000000≤1000000:=by
 obtain⟨a1,a2,a3⟩:=amt_spec m room e 1000000;obtain⟨s1,s2⟩:=li (ek m room e 1000000) n e room he hn hl;refine⟨s1,fun v hv h0=>?_,a3 (by omega) fun v hv=>hr v (hn v hv),a1⟩;rw[s2 v];have:=hr v hv h0;split
 ·have:=a2 v (by assumption) h0;omega
 ·omega
theorem mD{m:List Nat}{n:Nat}{T:Nat→Bool} : ∀(es:List (List Nat)) (i:Nat) (room:List Int),gK n es→Ext n es m T→(∀v<n,m.getD v 0≤2)→room.length=n→(∀v<n,m.getD v 0=0→0≤room.getD v 0)→(cW m es i room).2≤phi m T room n
 | [],i,room,_,_,_,_,hr=>by rw[cW];exact ii n hr
 | e::es,i,room,he,hx,h2,hl,hr=>by
  obtain⟨e1,e2,e3⟩:=he e (by simp)
  have he':gK n es:=fun x hx=>he x (by simp[hx])
  have hx':Ext n es m T:=⟨hx.c,hx.x,fun x hx2=>hx.h x (by simp[hx2])⟩;rw[cW];split
  ·exact mD es _ room he' hx' h2 hl hr
  ·rename_i hh;split
   ·exact mD es _ room he' hx' h2 hl hr
   ·obtain⟨r1,r2,r3,r4⟩:=lp (m:=m) e2 e3 hl hr;have ih:=mD es (i+1) _ he' hx' h2 r1 r2;obtain⟨u,hu,hT⟩:=hx.h e (by simp);obtain⟨s1,s2⟩:=li (ek m room e 1000000) n e room e2 e3 hl
    have hu0:m.getD u 0=0:=by
     have a2:=h2 u (e3 u hu);by_cases b1:m.getD u 0=1
     ·exact absurd (List.any_eq_true.2 ⟨u,hu,by simpa using b1⟩) hh
     ·by_cases b2:m.getD u 0=2
      ·rw[hx.x u (e3 u hu) b2]at hT;cases hT
      ·omega
    have:=(phi_le (m:=m) (T:=T) (room:=room) r3 n fun v hv=>by rw[s2 v];split<;>omega).2 ⟨u,e3 u hu,hT,hu0,by rw[s2 u,if_pos hu]⟩;simp only;omega
theorem fN{m:List Nat}{n:Nat}{ES:List (List Nat)}(hE:gK n ES):∀(es:List (List Nat)) (i:Nat) (room:List Int),es=ES.drop i→room.length=n→(∀v<n,m.getD v 0=0→0≤room.getD v 0)→
  (∀x∈(cW m es i room).1,okS ES m x=true)∧gf (cW m es i room).1=(cW m es i room).2∧(cW m es i room).1.length≤es.length∧(∀v<n,m.getD v 0=0→ldR ES v (cW m es i room).1≤room.getD v 0)∧(cW m es i room).2≤1000000*es.length∧0≤(cW m es i room).2
 | [],i,room,_,_,hr=>by simp[cW,gf,ldR];exact hr
 | e::es,i,room,hd,hl,hr=>by
  have hi:i<ES.length:=by
   by_cases h:i<ES.length
   ·exact h
   ·rw[rR (by omega)]at hd;cases hd
  rw[rP hi]at hd;obtain⟨hd1,hd2⟩:=List.cons.inj hd
  have hg:ES.getD i []=e:=by rw[am _ _ hi,hd1]
  obtain⟨e1,e2,e3⟩:=hE e (by rw[hd1];exact rQ hi);rw[cW];split
  ·obtain⟨a,b,c,d,f,g⟩:=fN hE es (i+1) room hd2 hl hr;exact⟨a,b,by simp;omega,d,by simp;omega,g⟩
  ·rename_i hh;split
   ·obtain⟨a,b,c,d,f,g⟩:=fN hE es (i+1) room hd2 hl hr;exact⟨a,b,by simp;omega,d,by simp;omega,g⟩
   ·rename_i h0;obtain⟨r1,r2,r3,r4⟩:=lp (m:=m) e2 e3 hl hr;obtain⟨a,b,c,d,f,g⟩:=fN hE es (i+1) _ hd2 r1 r2;obtain⟨s1,s2⟩:=li (ek m room e 1000000) n e room e2 e3 hl;refine⟨fun x hx=>?_,by simp only[gf];omega,by simp;omega,fun v hv hv0=>?_,by simp;omega,by simp;omega⟩
    ·rcases List.mem_cons.1 hx with rfl | hx
     ·simp only[okS,sT,hg,rX,decide_eq_true_eq];refine⟨⟨⟨⟨by omega,by omega⟩,by omega⟩,by omega⟩,by simpa using hh⟩
     ·exact a x hx
    ·simp only[ldR,sT,hg];have:=d v hv hv0;rw[s2 v]at this;omega
theorem qo(m:List Nat):∀(e:List Nat) (c:List Int) (b:Int),((brE m e c b).2=b∧(b<0→∀v∈e,m.getD v 0≠0))∨∃v∈e,m.getD v 0=0∧(brE m e c b).2=v
 | [],c,b=>.inl ⟨rfl,by simp⟩
 | v::e,c,b=>by
  rw[brE];split
  ·rename_i h0
   rcases qo m e (c.set v (c.getD v 0+1)) (if b<0∨(c.set v (c.getD v 0+1)).getD b.toNat 0<c.getD v 0+1 then(v:Int) else b) with⟨h1,_⟩ | ⟨u,hu,h1,h2⟩
   ·by_cases hb:b<0∨(c.set v (c.getD v 0+1)).getD b.toNat 0<c.getD v 0+1
    ·rw[if_pos hb]at h1 ⊢;exact .inr ⟨v,by simp,h0,h1⟩
    ·rw[if_neg hb]at h1 ⊢;exact .inl ⟨h1,fun h=>absurd (.inl h) hb⟩
   ·exact .inr ⟨u,by simp[hu],h1,h2⟩
  ·rename_i h0
   rcases qo m e c b with⟨h1,h2⟩ | ⟨u,hu,h1,h2⟩
   ·refine .inl ⟨h1,fun h u hu=>?_⟩
    rcases List.mem_cons.1 hu with rfl | hu
    ·exact h0
    ·exact h2 h u hu
   ·exact .inr ⟨u,by simp[hu],h1,h2⟩
theorem qn(m:List Nat):∀(es:List (List Nat)) (c:List Int) (b:Int),(brF m es c b=b∧(b<0→∀e∈es,ec m 1 e=true∨∀v∈e,m.getD v 0≠0))∨∃e∈es,∃v∈e,m.getD v 0=0∧brF m es c b=v
 | [],c,b=>.inl ⟨rfl,by simp⟩
 | e::es,c,b=>by
  rw[brF];split
  ·rename_i h0
   rcases qn m es c b with⟨h1,h2⟩ | ⟨x,hx,v,hv,h1,h2⟩
   ·refine .inl ⟨h1,fun h x hx=>?_⟩
    rcases List.mem_cons.1 hx with rfl | hx
    ·exact .inl h0
    ·exact h2 h x hx
   ·exact .inr ⟨x,by simp[hx],v,hv,h1,h2⟩
  ·rcases qn m es (brE m e c b).1 (brE m e c b).2 with⟨h1,h2⟩ | ⟨x,hx,v,hv,h1,h2⟩
   ·rcases qo m e c b with⟨g1,g2⟩ | ⟨v,hv,g1,g2⟩
    ·rw[g1]at h1 h2;rw[g1];refine .inl ⟨h1,fun h x hx=>?_⟩
     rcases List.mem_cons.1 hx with rfl | hx
     ·exact .inr (g2 h)
     ·exact h2 h x hx
    ·rw[g2]at h1;rw[g2];exact .inr ⟨e,by simp,v,hv,g1,h1⟩
   ·exact .inr ⟨x,by simp[hx],v,hv,h1,h2⟩
theorem mt{n:Nat}{es:List (List Nat)}(he:gK n es)(m:List Nat):(brS es m<0∧(fG m es=false→∀e∈es,∃v∈e,m.getD v 0=1))∨((brS es m).toNat<n∧0≤brS es m∧m.getD (brS es m).toNat 0=0):=by
 unfold brS
 rcases qn m es (rO m.length 0) (-1) with⟨h1,h2⟩ | ⟨e,h,v,hv,h1,h2⟩
 ·refine .inl ⟨by omega,fun hd e h=>?_⟩
  have h3:ec m 1 e=true:=by
   rcases h2 (by omega) e h with h3 | h3
   ·exact h3
   ·have:=List.any_eq_false.1 hd e h
    have h0:ec m 0 e=false:=by
     unfold ec;rw[un];intro v hv;simpa using h3 v hv
    rw[h0]at this;simpa using this
  obtain⟨v,hv,h4⟩:=List.any_eq_true.1 h3;exact⟨v,hv,by simpa using h4⟩
 ·rw[h2];exact .inr ⟨by simpa using(he e h).2.2 v hv,by omega,by simpa using h1⟩
structure Wok (n:Nat) (ws:List Int) (m:List Nat):Prop where
 lw:ws.length=n
 lm:m.length=n
 p:∀v<n,1≤ws.getD v 0
 le:∀v<n,m.getD v 0≤2
theorem Wok.set{n:Nat}{ws:List Int}{m:List Nat}(g:Wok n ws m)(v:Nat){c:Nat}(hc:c≤2):Wok n ws (m.set v c):=by
 refine⟨g.lw,by simp[g.lm],g.p,fun u hu=>?_⟩;by_cases e:v=u
 ·subst e;by_cases hv:v<m.length
  ·rw[aU _ hv];exact hc
  ·rw[List.set_eq_of_length_le (by omega)];exact g.le v hu
 ·rw[aY _ e];exact g.le u hu
theorem Ext.of_set{n:Nat}{es:List (List Nat)}{m:List Nat}{T:Nat→Bool}{v c:Nat}(hv:v<m.length)(hn:v<n)(h0:m.getD v 0=0)(h:Ext n es (m.set v c) T):Ext n es m T:=by
 refine⟨fun u hu h1=>?_,fun u hu h1=>?_,h.h⟩
 ·have:v≠u:=by rintro rfl;omega
  exact h.c u hu (by rwa [aY _ this])
 ·have:v≠u:=by rintro rfl;omega
  exact h.x u hu (by rwa [aY _ this])
theorem prv_ok{ws:List Int}{es:List (List Nat)}{n:Nat}(he:gK n es)(hes:es.length≤10000):∀(k:Nat) (m:List Nat) (lf b:Int),Wok n ws m→di m<k→2^(di m+1)-1≤lf→(∀T,Ext n es m T→b≤phi m T ws n)→
  ∃l lf',gh ws es k m lf b=some (l,lf')∧lf-(2^(di m+1)-1)≤lf'∧∀(r:List Nde) (K:Nat),l.length≤K→dH ws es K m (l++r) b=(some r,true)
 | 0,_,_,_,_,h,_,_=>by omega
 | k+1,m,lf,b,g,ho,hlf,hT=>by
  have hp1:(1:Int)≤2^di m:=by exact_mod_cast Nat.one_le_two_pow
  rw[vP]at hlf;rw[gh,if_neg (by omega)];by_cases h1:b≤0∨fG m es=true
  ·rw[if_pos h1];refine⟨_,_,rfl,by rw[vP];omega,fun r K hK=>?_⟩;obtain⟨K,rfl⟩:∃j,K=j+1:=⟨K-1,by simp at hK;omega⟩;simp only[sP,rx,dH,if_true];rw[Prod.mk.injEq];refine⟨rfl,?_⟩
   rcases h1 with h | h<;>simp[h]
  ·rw[if_neg h1]
   have hb:0<b:=by
    by_cases h:b≤0
    ·exact absurd (.inl h) h1
    ·omega
   have hd:fG m es=false:=by
    cases h:fG m es
    ·rfl
    ·exact absurd (.inr h) h1
   have hr:∀v<n,m.getD v 0=0→0≤ws.getD v 0:=fun v hv _=>by have:=g.p v hv;omega
   obtain⟨q1,q2,q3,q4,_,_⟩:=fN (m:=m) he es 0 ws (by simp) g.lw hr;by_cases h2:b≤(bw ws es m).2
   ·rw[if_pos h2];refine⟨_,_,rfl,by rw[vP];omega,fun r K hK=>?_⟩;obtain⟨K,rfl⟩:∃j,K=j+1:=⟨K-1,by simp at hK;omega⟩;unfold bw at h2 ⊢
    have hne:(cW m es 0 ws).1≠[]:=fun h=>by rw[h]at q2;simp only[gf]at q2;omega
    simp only[sP,rx,dH,if_true];rw[if_neg hne,Prod.mk.injEq];refine⟨rfl,?_⟩;unfold shE;rw[decide_eq_true (show(cW m es 0 ws).1.length≤10000 by omega),re,gO ws es m b he _ _ 0 (by simp[g.lm]) (fun v hv _=>by rw[eE];have:=g.p v hv;omega)];exact⟨q1,fun v hv h0=>by rw[eE,Int.zero_add];exact q4 v hv h0,by omega⟩
   ·rw[if_neg h2]
    rcases mt he m with⟨h3,h4⟩ | ⟨v1,v2,v3⟩
    ·exfalso;have hx:=hT (fun v=>decide (m.getD v 0=1)) ⟨fun v _ h=>by simpa using h,fun v _ h=>by simp only[decide_eq_false_iff_not];omega,fun e h=>by obtain⟨v,hv,h5⟩:=h4 hd e h;exact⟨v,hv,by simpa using h5⟩⟩
     have h0:∀j,phi m (fun v=>decide (m.getD v 0=1)) ws j=0:=by
      intro j
      induction j with
      | zero=>rfl
      | succ j ih=>rw[phi,ih,if_neg (by rintro⟨a,c⟩;simp only[decide_eq_true_eq]at a;omega)];rfl
     rw[h0]at hx;omega
    ·rw[if_neg (by omega)];obtain⟨v,hv⟩:∃v,v=(brS es m).toNat:=⟨_,rfl⟩
     have hvi:brS es m=(v:Int):=by omega
     rw[←hv]at v1 v3 ⊢
     have hvm:v<m.length:=by rw[g.lm];exact v1
     have o1:=mF hvm v3 (c:=1) (by omega);have o2:=mF hvm v3 (c:=2) (by omega)
     have hpo:(2:Int)^di m=2^(di (m.set v 1)+1):=by rw[o1]
     have hpo2:(2:Int)^di m=2^(di (m.set v 2)+1):=by rw[o2]
     obtain⟨l1,f1,a1,a2,a3⟩:=prv_ok he hes k (m.set v 1) (lf-1) (b-ws.getD v 0) (g.set v (by omega)) (by omega) (by rw[←hpo];omega) (fun T hX=>by
      have:=hT T (hX.of_set hvm v1 v3);rw[ig T ws hvm v3 (by omega) n,if_pos ⟨v1,hX.c v v1 (aU _ hvm _ _)⟩]
      omega)
     rw[←hpo]at a2;rw[a1]
     obtain⟨l2,f2,b1,b2,b3⟩:=prv_ok he hes k (m.set v 2) f1 b (g.set v (by omega)) (by omega) (by rw[←hpo2];omega) (fun T hX=>by
      have:=hT T (hX.of_set hvm v1 v3);rw[ig T ws hvm v3 (by omega) n,if_neg (by rintro⟨_,h⟩;rw[hX.x v v1 (aU _ hvm _ _)]at h;cases h)]
      omega)
     rw[←hpo2]at b2;simp only[b1];refine⟨_,_,rfl,by rw[vP];omega,fun r K hK=>?_⟩;obtain⟨K,rfl⟩:∃j,K=j+1:=⟨K-1,by simp at hK;omega⟩;simp only[sB,ri]at hK;rw[hvi,sP,dH,if_neg (by simp only;omega),if_neg (by simp only[sT,v3];rintro(h | h | h | h)<;>first | omega | exact h rfl)];simp only[sT];rw[sO,a3 (l2++r) K (by omega)];simp only;rw[b3 r K (by omega)]
structure GoodB (n:Nat) (ws:List Int) (es:List (List Nat)) (b:Bst) (T:Nat→Bool):Prop where
 l:b.l=(rh n).filter T
 h:∀e∈es,∃v∈e,T v=true
 w:b.w=cz ws T n
theorem wsum_set{ws:List Int}{m:List Nat}{v:Nat}(hv:v<m.length)(h0:m.getD v 0=0):∀n,cz ws (fun u=>decide ((m.set v 1).getD u 0=1)) n=cz ws (fun u=>decide (m.getD u 0=1)) n+if v<n then ws.getD v 0 else 0
 | 0=>by simp[cz]
 | n+1=>by
  rw[cz,cz,wsum_set hv h0 n];by_cases e:v=n
  ·subst e;rw[aU _ hv,h0];simp
  ·rw[aY _ e]
   have:v<n+1↔v<n:=by omega
   simp only[this];omega
theorem wsum_set2{ws:List Int}{m:List Nat}{v:Nat}(hv:v<m.length)(h0:m.getD v 0=0):∀n,cz ws (fun u=>decide ((m.set v 2).getD u 0=1)) n=cz ws (fun u=>decide (m.getD u 0=1)) n
 | 0=>by simp[cz]
 | n+1=>by
  rw[cz,cz,wsum_set2 hv h0 n];by_cases e:v=n
  ·subst e;rw[aU _ hv,h0];simp
  ·rw[aY _ e]
theorem min_ok{ws:List Int}{es:List (List Nat)}{n:Nat}(he:gK n es):∀(k:Nat) (m:List Nat) (lf:Int) (b:Bst) (w:Int),Wok n ws m→di m<k→2^(di m+1)-1≤lf→w=cz ws (fun u=>decide (m.getD u 0=1)) n →
  ∃lf' b',nN ws es k m lf b w=some (lf',b')∧lf-(2^(di m+1)-1)≤lf'∧b'.w≤b.w∧(∀T,Ext n es m T→b'.w≤w+phi m T ws n)∧(b'=b∨∃T,GoodB n ws es b' T)
 | 0,_,_,_,_,_,h,_,_=>by omega
 | k+1,m,lf,b,w,g,ho,hlf,hw=>by
  have hp1:(1:Int)≤2^di m:=by exact_mod_cast Nat.one_le_two_pow
  rw[vP]at hlf ⊢;rw[nN,if_neg (by omega)]
  have hr:∀v<n,m.getD v 0=0→0≤ws.getD v 0:=fun v hv _=>by have:=g.p v hv;omega
  cases hd:fG m es
  ·rw[if_neg (by simp)];by_cases h2:b.w≤w+(bw ws es m).2
   ·rw[if_pos h2];refine⟨_,_,rfl,by omega,by omega,fun T hX=>?_,.inl rfl⟩;have:=mD es 0 ws he hX g.le g.lw hr;unfold bw at h2;omega
   ·rw[if_neg h2];obtain⟨_,_,_,_,_,q6⟩:=fN (m:=m) he es 0 ws (by simp) g.lw hr;unfold bw at h2
    rcases mt he m with⟨h3,h4⟩ | ⟨v1,v2,v3⟩
    ·rw[if_pos h3];refine⟨_,_,rfl,by omega,by simp only;omega,fun T hX=>?_,.inr ⟨fun u=>decide (m.getD u 0=1),⟨?_,fun e h=>?_,?_⟩⟩⟩
     ·have:=ii (m:=m) (T:=T) n hr;simp only;omega
     ·unfold chosenL;rw[g.lm]
     ·obtain⟨v,hv,h5⟩:=h4 hd e h;exact⟨v,hv,by simpa using h5⟩
     ·exact hw
    ·rw[if_neg (by omega)];obtain⟨v,hv⟩:∃v,v=(brS es m).toNat:=⟨_,rfl⟩;rw[←hv]at v1 v3 ⊢
     have hvm:v<m.length:=by rw[g.lm];exact v1
     have o1:=mF hvm v3 (c:=1) (by omega);have o2:=mF hvm v3 (c:=2) (by omega)
     have hpo:(2:Int)^di m=2^(di (m.set v 1)+1):=by rw[o1]
     have hpo2:(2:Int)^di m=2^(di (m.set v 2)+1):=by rw[o2]
     obtain⟨f1,b1,a1,a2,a3,a4,a5⟩:=min_ok he k (m.set v 1) (lf-1) b (w+ws.getD v 0) (g.set v (by omega)) (by omega) (by rw[←hpo];omega) (by rw[wsum_set hvm v3 n,if_pos v1,hw]);rw[←hpo]at a2;rw[a1];obtain⟨f2,b2,c1,c2,c3,c4,c5⟩:=min_ok he k (m.set v 2) f1 b1 w (g.set v (by omega)) (by omega) (by rw[←hpo2];omega) (by rw[wsum_set2 hvm v3 n,hw]);rw[←hpo2]at c2;refine⟨f2,b2,c1,by omega,by omega,fun T hX=>?_,?_⟩
     ·cases ht:T v
      ·have hX2:Ext n es (m.set v 2) T:=⟨fun u hu h=>by
         by_cases e:v=u
         ·subst e;rw[aU _ hvm]at h;omega
         ·exact hX.c u hu (by rwa [aY _ e]at h),fun u hu h=>by
         by_cases e:v=u
         ·subst e;exact ht
         ·exact hX.x u hu (by rwa [aY _ e]at h),hX.h⟩
       have:=c4 T hX2;rw[ig T ws hvm v3 (by omega) n,if_neg (by rintro⟨_,h⟩;rw[ht]at h;cases h)]at this;omega
      ·have hX1:Ext n es (m.set v 1) T:=⟨fun u hu h=>by
         by_cases e:v=u
         ·subst e;exact ht
         ·exact hX.c u hu (by rwa [aY _ e]at h),fun u hu h=>by
         by_cases e:v=u
         ·subst e;rw[aU _ hvm]at h;omega
         ·exact hX.x u hu (by rwa [aY _ e]at h),hX.h⟩
       have:=a4 T hX1;rw[ig T ws hvm v3 (by omega) n,if_pos ⟨v1,ht⟩]at this;omega
     ·rcases c5 with rfl | c5
      ·exact a5
      ·exact .inr c5
  ·rw[if_pos rfl];refine⟨_,_,rfl,by omega,by omega,fun T hX=>?_,.inl rfl⟩;exfalso;obtain⟨e,h1,h2⟩:=List.any_eq_true.1 hd;obtain⟨v,hv,h3⟩:=hX.h e h1;simp only[rX,sL,ec,un,decide_eq_true_eq]at h2;have hn:=(he e h1).2.2 v hv;have:=hX.x v hn (by have:=h2.1 v hv;have:=h2.2 v hv;have:=g.le v hn;omega);rw[h3]at this;cases this
end
end Go.Proofs.YtjogkbekekdkjaaGreatDoor
namespace Go.Proofs.YtjogkbekekdkjaaGreatDoor
section
open Go Go.AM Go.RowKit Go.Lib
theorem infoG_N:(Tryz.prog.info? 77).map (fun i=>(i.zero,i.size,i.bytes))=some (some (.agg #[.int .i64 0,.slice none 0 0]),2,32):=by kernel_rfl
theorem growPos_N(n:Nat)(w:World)(h0:0<n)(hn:n≤1000000):Calls Tryz.prog 216 #[.slice none 0 0,.int .i64 n] w fun e w' =>
   e = .returned (.slice (some ⟨w.heap.size,0,none⟩) 0 (grownCap w n 0 77))∧w'=w.drew.alloc (.cells (Builtin.zeroCells (.agg #[.int .i64 0,.slice none 0 0]:Value).cells n++Builtin.zeroCells (.agg #[.int .i64 0,.slice none 0 0]:Value).cells (grownCap w n 0 77-n)) 77):=by
 obtain⟨i0,hi0,hz0,hs0,hby⟩:=info_parts infoG_N
 have h1:¬((n:Int)<0):=by omega
 have hz25:∀w,(Go.sizeOf 77).run Tryz.prog w = .ok 2 w:=fun w=>by simp[Go.sizeOf,typeInfo,hi0,hs0]
 have hold:(Builtin.firstCells i0.size 0 (.slice none 0 0)).run Tryz.prog w.drew = .ok ([]:List Value).toArray w.drew:=run_firstCells_none w.drew i0.size 0 0 0
 have hbig:(0+n)*i0.bytes≤140737488355328:=by rw[hby];omega
 have hrz:∀ty,(Builtin.append_ #[66,3] ty #[.slice none 0 0,.int .i64 (n:Int)]).run Tryz.prog w =
   .ok (.slice (some ⟨w.heap.size,0,none⟩) n (grownCap w n 0 77)) (w.drew.alloc (.cells (Builtin.zeroCells (.agg #[.int .i64 0,.slice none 0 0]:Value).cells n++Builtin.zeroCells (.agg #[.int .i64 0,.slice none 0 0]:Value).cells (grownCap w n 0 77-n)) 77)):=fun ty=>by
  have h:=Lib.run_append_grow_zeros (P:=Tryz.prog) w 66 3 ty 77 i0 _ .i64 .i64 Tryz.underlying66 Tryz.underlying3 hi0 hz0 none 0 0 [] hold n h0 (by omega) (by omega) (by omega)
   (by rw[hby];omega)
   (growslice_fits (by omega) hbig)
  simpa using h
 have hGn:n≤grownCap w n 0 77:=grownCap_ge w _ _ _;obtain⟨G,hG⟩:∃G,G=grownCap w n 0 77:=⟨_,rfl⟩;rw[←hG]at hrz hGn ⊢
 have hG63:G≤9223372036854775807:=by
  have:=grownCap_le_maxLen w n 0 77 (by unfold maxLen;omega);rw[←hG]at this;unfold maxLen at this;omega
 have h2:RowKit.wrap64 ((0:Int)-0)=0:=by unfold RowKit.wrap64;omega
 have h3:RowKit.wrap64 ((n:Int)-0)=(n:Int):=by unfold RowKit.wrap64;omega
 have h4:(n:Int)> 0:=by omega
 clear hold hG hbig
 go_enter Tryz.func216,Tryz.ntmps216
 go_wp2_with (at_builtin;refine Lib.wpList_append_run _ rfl _ _ _ _ rfl _ _ rfl rfl _ _ (hrz _) ?_)
 all_goals (go_ret;exact⟨rfl,rfl⟩)
theorem growNil_N(w:World):Calls Tryz.prog 216 #[.slice none 0 0,.int .i64 0] w fun e w'=>e = .returned (.slice none 0 0)∧w'=w:=by
 go_enter Tryz.func216,Tryz.ntmps216
 go_wp2
 go_ret
 exact⟨rfl,rfl⟩
theorem qG(n:Nat)(hn:n≤1000000):gy Tryz.prog 216 [.nilS,.int .i64 n] fun e z ys=>e=77∧z=2∧ys=[]:=by
 refine conO_row ⟨Tryz.f216,Tryz.func216,rfl,rfl⟩ (fun F w vals hsz hrel=>?_)
 obtain⟨u0,u1,rfl⟩:∃u0 u1,vals = #[u0,u1]:=by
  obtain⟨l⟩:=vals
  match l,hsz with
  | [a,b],_=>exact⟨a,b,rfl⟩
 have r0:=hrel 0 _ u0 rfl rfl;have r1:=hrel 1 _ u1 rfl rfl;cases r0;cases r1;by_cases h0:n=0
 ·subst h0
  exact(growNil_N w).mono fun e w' ⟨h1,h2⟩=>⟨_,h1,by subst h2;exact Below.refl _ _,.inl rfl⟩
 ·refine(growPos_N n w (by omega) hn).mono fun e w' ⟨h1,h2⟩=>?_
  subst h2;have hge:=grownCap_ge w n 0 77;refine⟨_,h1,((Below.refl _ _).drew).alloc (rd _) _,.inr ⟨w.heap.size,grownCap w n 0 77,Builtin.zeroCells (.agg #[.int .i64 0,.slice none 0 0]:Value).cells n++Builtin.zeroCells (.agg #[.int .i64 0,.slice none 0 0]:Value).cells (grownCap w n 0 77-n),rfl,rd _,?_,by omega,grownCap_le_maxLen w n 0 77 (by unfold maxLen;omega),?_⟩⟩
  ·exact Array.getElem?_push_size (xs:=w.heap)
  ·rw[ug,size_zeroCells,size_zeroCells,←sM,Nat.add_sub_cancel' hge];rfl
theorem grow_nil_N:aL Tryz.prog 216 [.nilS,.int .i64 0] fun r=>r = .nilS:=by
 refine⟨⟨Tryz.f216,Tryz.func216,rfl,rfl⟩,fun F w vals hZ hF hsz hrel=>?_⟩
 obtain⟨u0,u1,rfl⟩:∃u0 u1,vals = #[u0,u1]:=by
  obtain⟨l⟩:=vals
  match l,hsz with
  | [a,b],_=>exact⟨a,b,rfl⟩
 have r0:=hrel 0 _ u0 rfl rfl;have r1:=hrel 1 _ u1 rfl rfl;cases r0;cases r1
 refine(growNil_N w).mono fun e w' ⟨h1,h2⟩=>⟨_,_,h1,.nilS,.nilS,by subst h2;exact Below.refl _ _,rfl⟩
end
end Go.Proofs.YtjogkbekekdkjaaGreatDoor
namespace Go.Proofs.YtjogkbekekdkjaaGreatDoor
section
open Go Go.AM Go.RowKit
structure FlV where
 f:Bool
 xs:List V
def jJ(l:FlV):V:=.lst 2 l.f l.xs
def gM(ls:List FlV):List V:=(ls.map (·.xs)).flatten
theorem catL_succ(ls:List FlV)(i:Nat)(h:i<ls.length):gM (ls.take (i+1))=gM (ls.take i)++ls[i].xs:=by
 unfold gM;rw[rV h,sX,vA];simp
theorem catL_le(ls:List FlV)(i:Nat):(gM (ls.take i)).length≤(gM ls).length:=by
 conv=>rhs;rw[←tG i ls]
 unfold gM;rw[sX,vA,ri];omega
theorem nh{ls:List FlV}(hp:∀l∈ls,∀x∈l.xs,AM.Pure x∧dV x=true∧x.cells.length=2):∀x∈gM ls,AM.Pure x∧dV x=true:=by
 intro x hx;obtain⟨l,hl,h⟩:=List.mem_flatten.1 hx;obtain⟨y,hy,rfl⟩:=List.mem_map.1 hl;exact⟨(hp y hy x h).1,(hp y hy x h).2.1⟩
theorem catW_N(n:Nat)(h:n≤1000000):n≤9223372036854775807∧n*32≤140737488355328:=by omega
theorem concat_N(ls:List FlV)(g:Bool)(hp:∀l∈ls,∀x∈l.xs,AM.Pure x∧dV x=true∧x.cells.length=2)(hl:ls.length≤1000000)(hs:(gM ls).length≤1000000):aL Tryz.prog 152 [.lst 1 g (ls.map jJ)] fun r=>r = .lst 2 false (gM ls):=by
 have htl:=fun i=>catL_le ls i
 have hpF:∀l∈ls,AM.Pure (jJ l):=fun l hl=>.lst _ _ _ (fun x hx=>(hp l hl x hx).1)
 refine sPx Tryz.func152 rfl rfl ?_;simp -dsimp[Tryz.f152,rO,jJ];refine aG (W_loopM 23 0x7ff828 (by simp[mB]<;>rfl) (σ:=Nat) (fun i=>i≤ls.length) (fun i=>ls.length-i) (fun i=>[(11,.int .i64 i),(3,.int .i64 ((gM (ls.take i)).length:Nat))]) (fun _=>[]) 0 (by omega) (by simp[gM]) rfl (by simp) ?_);intro i hi N Q hN hQ;by_cases hb:i<ls.length
 ·have hsu:=catL_succ ls i hb;have h1:=htl i;have h2:=htl (i+1);rw[hsu,ri]at h2;obtain⟨c,hc⟩:∃c,c=(gM (ls.take i)).length:=⟨_,rfl⟩;rw[←hc]at h1 h2
  have hlx:(gM (ls.take (i+1))).length=c+ls[i].xs.length:=by rw[hsu,ri,hc]
  obtain⟨x,hx⟩:∃x,x=ls[i]:=⟨_,rfl⟩;rw[←hx]at h2 hlx;have hx':=hx.symm;obtain⟨d,hd⟩:∃d,d=c+x.xs.length:=⟨_,rfl⟩
  have hw:IntKind.i64.wrap ((c:Int)+(x.xs.length:Int))=(d:Int):=by rw[wrap64 (by omega) (by omega),hd];push_cast;rfl
  refine wx ?_;simp -dsimp[hb,hx',hw,show ¬(d:Int)<0 by omega,aH i (by omega),←hc,jJ];refine hN (i+1) _ _ (by omega) (by omega) (by simp[hlx,hd]) ⟨[],rfl⟩ (by simp;exact hpF) (by simp)
 ·obtain rfl:i=ls.length:=by omega
  rw[sJ];have hg:=eY (H:=[]) (qG (gM ls).length hs) (by simp);refine wx ?_;simp -dsimp[hb,jJ];refine hQ _ _ _ ?_;simp -dsimp[jJ];refine hg.mono ?_;rintro r H' ⟨e,z,xs,rfl,rfl,_,rfl,rfl,rfl⟩;simp -dsimp[jJ];refine aG (W_loopM 35 0x7f8000140 (by simp[mB]<;>rfl) (σ:=Nat) (fun i=>i≤ls.length) (fun i=>ls.length-i) (fun i=>[(27,.int .i64 i),(6,.buf 0 0 (gM (ls.take i)).length (gM (ls.take i)).length)]) (fun i=>[B.buf 77 2 (gM (ls.take i)) false]) 0 (by omega) (by simp[gM]) (by simp[gM]) (by simp) ?_);intro i hi N2 Q2 hN2 hQ2;by_cases hb:i<ls.length
  ·have hsu:=catL_succ ls i hb;have h2:=htl (i+1);have hpi:=hp ls[i] (rQ hb);have hpc:=nh (ls:=ls.take (i+1)) (fun l hl=>hp l (sD hl));obtain⟨x,hx⟩:∃x,x=ls[i]:=⟨_,rfl⟩;rw[←hx]at hsu hpi;have hx':=hx.symm;rw[hsu]at h2 hpc;obtain⟨xs,hxs⟩:∃xs,xs=x.xs:=⟨_,rfl⟩;have hxs':=hxs.symm;rw[←hxs]at hsu h2 hpc hpi;by_cases h0:xs=[]
   ·rw[h0,rj]at hsu;refine wx ?_;simp -dsimp[hb,hx',hxs',h0,aH i (by omega),jJ];refine hN2 (i+1) _ _ (by omega) (by omega) (by simp[hsu]) ⟨[],by simp[hsu]⟩ (by simp;exact hpF) (by rw[h0,rj]at hpc;intro bl hbl;rcases List.mem_cons.1 hbl with rfl | hbl;exact(rbB_buf1 (by rw[hsu];exact hpc)).2 trivial;cases hbl)
   ·obtain⟨c,hc⟩:∃c,c=gM (ls.take i):=⟨_,rfl⟩;rw[←hc]at hsu h2 hpc;rw[ri]at h2;refine wx ?_;simp -dsimp[hb,hx',hxs',h0,aH i (by omega),←hc,catW_N (c.length+xs.length) (by omega),jJ];refine hN2 (i+1) _ _ (by omega) (by omega) (by simp[hsu]) ⟨[],by simp[hsu]⟩ (by simp;exact hpF) (by intro bl hbl;rcases List.mem_cons.1 hbl with rfl | hbl;exact(rbB_buf1 (by rw[hsu];exact hpc)).2 trivial;cases hbl)
  ·obtain rfl:i=ls.length:=by omega
   rw[sJ];refine wx ?_;simp -dsimp[hb,jJ];refine hQ2 _ _ _ ?_;simp -dsimp[jJ];exact⟨dP rfl rfl (fun x hx=>(nh hp x hx).1),fun x hx=>(nh hp x hx).1⟩
end
end Go.Proofs.YtjogkbekekdkjaaGreatDoor
namespace Go.Proofs.YtjogkbekekdkjaaGreatDoor
section
open Go Go.AM
theorem W_ownB{P:Program}(e z j:Nat){k0 e0:Nat}{xs:List V}{c:Code}{Q:Exit→List V→List B→Prop}{fr:List V}{H:List B}(hk:H[k0]?=some (.buf e0 1 xs false))(hj:xs[j]?=some .nilS)
  (h:W P c Q fr (H.set k0 (.buf e0 1 (xs.set j (.buf H.length 0 0 0)) false)++[.buf e z [] false])):W P c Q fr H:=by
 intro s a hA hg hf hd;obtain⟨rfl,hZ⟩:=hA;obtain⟨p1,p2⟩:=pZ hg 0 e z false rfl rfl rfl (rd _) (fun _ _=>rfl);generalize hs1:s.push s.w 0 0 (.buf e z [] false)=s1 at p1 p2
 have hk1:s1.H[k0]?=some (.buf e0 1 xs false):=by rw[←hs1];simp only[St.push];rw[rg (aB hk)];exact hk
 have hr1:∀x y u,Rel s x u→(y=x∨(x = .nilS∧y = .buf s.H.length 0 0 0))→Rel s1 y u:=fun x y u h1 h2=>by subst hs1;exact rel_own p2 h1 h2
 have hw1:s1.w=s.w:=by rw[←hs1];rfl
 have hφ:s1.φ k0=s.φ k0:=by rw[←hs1];exact cN _ _ (by have:=aB hk;omega)
 have hκ:s1.κ k0=s.κ k0:=by rw[←hs1];exact cN _ _ (by have:=aB hk;omega)
 obtain⟨vs,g2,g3,g4,g5,g6,g7⟩:=hg.blk k0 _ hk
 have hκ0:s1.κ k0≠0:=by have:=aB hj;omega
 have hlv:=lvB hk1 hκ0;have hst:=cB (w:=s1.w) (bl':=.buf e0 1 (xs.set j (.buf s.H.length 0 0 0)) false) p1 hk1 hlv (by simp[B.alike]) rfl rfl rfl (rd _) (fun _ _ _=>rfl)
 have hat:∀(i:Nat) y,(xs.set j (.buf s.H.length 0 0 0))[i]?=some y→∃x,xs[i]?=some x∧(y=x∨(x = .nilS∧y = .buf s.H.length 0 0 0)):=fun i y hy=>by
  by_cases e1:j=i
  ·subst e1;rw[sA (aB hj)]at hy;exact⟨.nilS,hj,.inr ⟨rfl,(Option.some.inj hy).symm⟩⟩
  ·rw[ry e1]at hy;exact⟨y,hy,.inl rfl⟩
 have hgd:AM.Good (s1.setB s1.w k0 (.buf e0 1 (xs.set j (.buf s.H.length 0 0 0)) false)):=by
  refine cJ p1 hk1 hlv (by simp[B.alike]) rfl rfl rfl (rd _) (fun _ _ _=>rfl) (fun hst=>?_);refine⟨vs,fun _=>by show s1.w.heap[s1.φ k0]?=_;rw[hw1,hφ];exact g2 (by rw[←hκ];exact hκ0),?_,?_,?_,fun y hy=>?_,fun i y j' d u hy hd hu=>?_⟩
  ·show vs.size=s1.κ k0*1;rw[hκ];exact g3
  ·show _≤s1.κ k0;rw[hκ,se];exact g4
  ·show s1.κ k0≤_;rw[hκ];exact g5
  ·obtain⟨i,hi⟩:=List.mem_iff_getElem?.1 hy;obtain⟨x,hx,h9⟩:=hat i y hi
   rcases h9 with h9 | ⟨_,h9⟩
   ·rw[h9];exact g6 x (rW hx)
   ·rw[h9];exact⟨rfl,fun c hc=>by simp[V.cells]at hc;subst hc;rfl⟩
  ·obtain⟨x,hx,h9⟩:=hat i y hy
   rcases h9 with h9 | ⟨h8,h9⟩
   ·subst h9;exact(hr1 d d u (g7 i y j' d u hx hd hu) (.inl rfl)).step hst
   ·subst h9;subst h8
    have hj0:j'=0:=by have:=aB hd;simp[V.cells]at this;exact this
    subst hj0;simp[V.cells]at hd;subst hd;exact(hr1 .nilS _ u (g7 i .nilS 0 .nilS u hx rfl hu) (.inr ⟨rfl,rfl⟩)).step hst
 have hH:(s1.setB s1.w k0 (.buf e0 1 (xs.set j (.buf s.H.length 0 0 0)) false)).H=s.H.set k0 (.buf e0 1 (xs.set j (.buf s.H.length 0 0 0)) false)++[.buf e z [] false]:=by
  rw[←hs1];simp only[St.setB,St.push];rw[List.set_append,if_pos (aB hk)]
 have:=h (s1.setB s1.w k0 (.buf e0 1 (xs.set j (.buf s.H.length 0 0 0)) false)) a ⟨hH,(hZ.step p2).step hst⟩ hgd ⟨by rw[hf.len],fun i v u hv hu=>(hr1 v v u (hf.rel i v u hv hu) (.inl rfl)).step hst⟩ hd;have e1:(s1.setB s1.w k0 (.buf e0 1 (xs.set j (.buf s.H.length 0 0 0)) false)).w=s.w:=hw1;rw[e1]at this
 exact wp_mono this fun _ _ _ hl=>cK (p2.trans hst) hl
theorem W_ownBs{P:Program}(e z:Nat){k0 e0:Nat}{c:Code}{Q:Exit→List V→List B→Prop}{fr:List V} : ∀(m:Nat) (xs:List V) (H:List B),H[k0]?=some (.buf e0 1 (xs++rO m .nilS) false)→
  W P c Q fr (H.set k0 (.buf e0 1 (xs++(rh m).map fun i=>.buf (H.length+i) 0 0 0) false)++rO m (.buf e z [] false))→W P c Q fr H
 | 0,xs,H,hk,h=>by
  have he:H.set k0 (.buf e0 1 (xs++(rh 0).map fun i=>.buf (H.length+i) 0 0 0) false)++rO 0 (.buf e z [] false)=H:=by
   simp only[List.range_zero,tt,rj,List.replicate_zero]at hk ⊢;have hlt:=aB hk;rw[rT hlt]at hk;rw[←Option.some.inj hk,tw]
  rwa [he]at h
 | m+1,xs,H,hk,h=>by
  have hj:(xs++rO (m+1) V.nilS)[xs.length]?=some .nilS:=by
   rw[rq (rd _),tg];rfl
  refine W_ownB e z xs.length hk hj ?_
  have hset:(xs++rO (m+1) V.nilS).set xs.length (.buf H.length 0 0 0)=(xs++[.buf H.length 0 0 0])++rO m .nilS:=by
   rw[sS _ _ (rd _),tg,List.replicate_succ,List.set_cons_zero];simp
  rw[hset];have hlt:=aB hk;refine W_ownBs e z m (xs++[.buf H.length 0 0 0]) _ (by rw[rg (by simpa using hlt),sA hlt]) ?_;rw[List.set_append_left _ _ (by simpa using hlt),tC]
  have e1:(xs++[V.buf H.length 0 0 0])++(rh m).map (fun i=>V.buf ((H.set k0 (.buf e0 1 ((xs++[.buf H.length 0 0 0])++rO m .nilS) false)++[B.buf e z [] false]).length+i) 0 0 0)=xs++(rh (m+1)).map fun i=>V.buf (H.length+i) 0 0 0:=by
   rw[List.range_succ_eq_map,tF,vE,sO,tu,tm];congr 2;refine uJ (fun i _=>?_);simp only[ri,se,sB,td,Function.comp_apply];congr 1;omega
  rw[e1,sO,show [B.buf e z [] false]++rO m (.buf e z [] false)=rO (m+1) (.buf e z [] false) from rfl];exact h
inductive ExpA (H:List B):V→V→Prop
 | one (v v':V) (h:Exp H v v'):ExpA H v v'
 | agg (cs ds:List V) (hl:cs.length=ds.length) (h1:∀d∈ds,d.one=true) (h:∀(i:Nat) c d,cs[i]?=some c→ds[i]?=some d→∃m,Exp H c m∧Le m d):ExpA H (.agg cs) (.agg ds)
theorem rel_expA{s:St}(hg:AM.Good s){open_:Nat→Prop}{v v':V}{u:Value}(h:Rel s v u)(he:ExpA s.H v v')(ho:∀k,open_ k):Rel (base (hold s open_) s.w) v' u:=by
 cases he with
 | one _ _ h1=>exact h.exp hg h1 (fun _ _ _ _ _=>ho _)
 | agg cs ds hl h1 h2 =>
  cases h with
  | agg _ us hu h3 h4 =>
   refine .agg ds us (by omega) h1 (fun i d u hd hu=>?_);have hc:cs[i]?=some (cs[i]'(by have:=aB hd;omega)):=rT _;obtain⟨m,hm,hl⟩:=h2 i _ d hc hd;exact hl.rel ((h4 i _ u hc hu).exp hg hm (fun _ _ _ _ _=>ho _))
theorem conH_of_conPA{P:Program}{f:FuncId}{args args':List V}{K:V→Prop}{H:List B}(h:aL P f args' K)(hl:args.length=args'.length)(he:∀(i:Nat) a a',args[i]?=some a→args'[i]?=some a'→ExpA H a a')(hs:∀r,K r→Scalar r):av P f args H fun r H'=>H'=H∧AM.Pure r∧K r:=by
 refine⟨h.1,fun s vals hH hg hsz hrel=>?_⟩;obtain⟨rfl,hZ⟩:=hH
 let op:Nat→Prop:=fun _=>True
 have hFl:∀b,hold s op b→b<s.w.heap.size:=by
  rintro b (h | ⟨k,hk,rfl,_⟩)
  ·exact hg.fl b h
  ·exact(hg.lt k hk).1
 refine(h.2 (hold s op) s.w vals (hZ.hold op) hFl (by omega) (fun i a' u ha' hu=>?_)).mono fun e w' ⟨u,r,a1,a2,a3,a4,a5⟩=>?_
 ·have hi:i<args.length:=by have:=aB ha';omega
  have ha:args[i]?=some args[i]:=rT hi;exact rel_expA hg (hrel i _ u ha hu) (he i _ a' ha ha') (fun _=>trivial)
 ·obtain⟨g1,g2⟩:=iB hg (w:=w') a4.os a4.tape a4.output a4.size a4.block;exact⟨u,s.at w',r,a1,rfl,g1,g2,a3.scalar (hs r a5),rfl,a2,a5⟩
theorem callXA{P:Program}{f:FuncId}{args args':List V}{H:List B}{v:V}(h:aL P f args' fun r=>r=v)(hl:args.length=args'.length)(he:∀(i:Nat) a a',args[i]?=some a→args'[i]?=some a'→ExpA H a a')(hs:Scalar v):
  aQ P (.fn f []) args H fun r H'=>r=v∧H'=H:=by
 simp only[aQ,rj]
 exact(conH_of_conPA h hl he (fun r hr=>by subst hr;exact hs)).mono fun r H' ⟨h1,_,h3⟩=>⟨h3,h1⟩
end
end Go.Proofs.YtjogkbekekdkjaaGreatDoor
