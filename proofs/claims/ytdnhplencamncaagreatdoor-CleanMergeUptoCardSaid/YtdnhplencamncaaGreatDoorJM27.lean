/- JM27: own texts of this seat, joined and shortened by pack4.py: Cvc, Svf, Svg. -/
import Derived.Test.YtdnhplencamncaaGreatDoorJM21
import Derived.Test.YtdnhplencamncaaGreatDoorJM26
set_option linter.unusedVariables false
set_option linter.unusedSimpArgs false
set_option maxRecDepth 100000
set_option maxHeartbeats 64000000
open Bool renaming true_and→pE,false_and→pF
open List renaming replicate→oE,getElem_mem→oI,drop_eq_getElem_cons→oK,getElem?_append_left→oL,range→oM,not_mem_nil→oO,mem_cons→oR,drop_of_length_le→oV,length_cons→og,map_cons→oq,take_of_length_le→pA,drop_zero→pC,nil_append→pH,cons_append→pg,length_nil→qD
open Nat renaming le_refl→oJ,zero_add→pI
namespace Go.Proofs.YtdnhplencamncaaGreatDoor
section
open Go Go.AM
def prc(w:Int)(b:Bool):Int:=if b=true then(if -w<0 then 0 else -w) else(if w<0 then 0 else w)
theorem prc_in{w:Int}(h : -1000≤w∧w≤1000)(b:Bool):0≤prc w b∧prc w b≤1000:=by unfold prc;split<;>split<;>omega
theorem price_u(w:Int)(b:Bool)(h : -1000≤w∧w≤1000):aJ Tryz.prog 238 [.int .i64 w,.bool b] fun r=>r = .int .i64 (prc w b):=by
 have wn:IntKind.i64.wrap (-w)= -w:=wrap64 (by omega) (by omega);cases b
 ·by_cases h1:w<0
  ·have e:prc w false=0:=by unfold prc;rw[if_neg (by simp),if_pos h1]
   rw[e];refine sPx Tryz.func238 rfl rfl ?_;simp -dsimp[Tryz.f238,oE,wn,h1]
  ·have e:prc w false=w:=by unfold prc;rw[if_neg (by simp),if_neg h1]
   rw[e];refine sPx Tryz.func238 rfl rfl ?_;simp -dsimp[Tryz.f238,oE,wn,h1]
 ·by_cases h1 : -w<0
  ·have e:prc w true=0:=by unfold prc;rw[if_pos rfl,if_pos h1]
   rw[e];refine sPx Tryz.func238 rfl rfl ?_;simp -dsimp[Tryz.f238,oE,wn,h1,show 0<w by omega]
  ·have e:prc w true = -w:=by unfold prc;rw[if_pos rfl,if_neg h1]
   rw[e];refine sPx Tryz.func238 rfl rfl ?_;simp -dsimp[Tryz.f238,oE,wn,h1,show ¬0<w by omega]
structure Sst where
 lab:List Int
 best:Option (List Int)
 least:Int
def moF(W:List (List Int))(lab:List Int)(v:Nat)(x:Int):Nat→Int
 | 0=>0
 | i+1=>moF W lab v x i+prc ((W.getD i []).getD v 0) (decide (lab.getD i 0=x))
def mR(n v:Nat)(c:Int)(s:Sst):Option Sst :=
 if s.best.isSome=true∧s.least≤c then some s else if v=n then some ⟨s.lab,some s.lab,c⟩ else none
def frF(W:List (List Int))(n:Nat):Nat→Nat→Nat→Int→Sst→Sst
 | 0,v,_,c,s=>(mR n v c s).getD s
 | f+1,v,u,c,s=>match mR n v c s with
  | some s'=>s'
  | none=>(oM (u+1)).foldl (fun s x=>frF W n f (v+1) (if u<x+1 then x+1 else u) (c+moF W s.lab v (x:Int) v) ⟨s.lab.set v (x:Int),s.best,s.least⟩) s
structure WtOk (n:Nat) (W:List (List Int)):Prop where
 n1:0<n
 n2:n≤10
 len:W.length=n
 row:∀r∈W,r.length=n∧∀x∈r,-1000≤x∧x≤1000
structure SsOk (n:Nat) (s:Sst):Prop where
 lab:s.lab.length=n
 best:∀l,s.best=some l→l.length=n
theorem WtOk.at_{n:Nat}{W:List (List Int)}(h:WtOk n W)(i v:Nat): -1000≤(W.getD i []).getD v 0∧(W.getD i []).getD v 0≤1000:=by
 by_cases hi:i<W.length
 ·rw[show W.getD i []=W[i] by simp[hi]];obtain⟨h1,h2⟩:=h.row _ (oI hi);by_cases hv:v<W[i].length
  ·rw[show W[i].getD v 0=W[i][v] by simp[hv]];exact h2 _ (oI hv)
  ·rw[show W[i].getD v 0=0 by simp[hv]];omega
 ·rw[show W.getD i []=[] by simp[hi]];simp
theorem moF_in{n:Nat}{W:List (List Int)}(h:WtOk n W)(lab:List Int)(v:Nat)(x:Int):∀i,0≤moF W lab v x i∧moF W lab v x i≤1000*i
 | 0=>by simp[moF]
 | i+1=>by
  have h1:=moF_in h lab v x i;have h2:=prc_in (h.at_ i v) (decide (lab.getD i 0=x));rw[moF];omega
theorem stpF_ok{n v:Nat}{c:Int}{s s':Sst}(h:SsOk n s)(e:mR n v c s=some s'):SsOk n s':=by
 unfold mR at e;split at e
 ·cases e;exact h
 ·split at e
  ·cases e;exact⟨h.lab,fun l hl=>by cases hl;exact h.lab⟩
  ·cases e
theorem frF_ok(W:List (List Int))(n:Nat):∀(f v u:Nat) (c:Int) (s:Sst),SsOk n s→SsOk n (frF W n f v u c s)
 | 0,v,u,c,s,h=>by
  rw[frF]
  cases e:mR n v c s with
  | none=>exact h
  | some s'=>exact stpF_ok h e
 | f+1,v,u,c,s,h=>by
  rw[frF]
  cases e:mR n v c s with
  | some s'=>exact stpF_ok h e
  | none =>
   simp only
   have key:∀(l:List Nat) (s:Sst),SsOk n s→SsOk n (l.foldl (fun s x=>frF W n f (v+1) (if u<x+1 then x+1 else u) (c+moF W s.lab v (x:Int) v) ⟨s.lab.set v (x:Int),s.best,s.least⟩) s):=by
    intro l
    induction l with
    | nil=>exact fun s h=>h
    | cons x l ih =>
     intro s h;exact ih _ (frF_ok W n f _ _ _ _ ⟨by simp;exact h.lab,h.best⟩)
   exact key _ s h
def bsV:Option (List Int)→V
 | none=>.nilS
 | some l=>L1 false l
def SH(W:List (List Int))(n:Nat)(s:Sst):List B:=[.buf 3 1 (czL s.lab) false,.cells [LLz false W,.buf 0 0 n n,bsV s.best,.int .i64 s.least]]
theorem SH_rb(W:List (List Int))(n:Nat)(s:Sst)(k:Nat)(hk:0<k):∀bl∈SH W n s,rbB k bl:=fun bl h=>by
 simp only[SH,oR,oO,or_false]at h
 rcases h with rfl | rfl
 ·exact jA _ _ _ _
 ·intro c hc;simp only[oR,oO,or_false]at hc
  rcases hc with rfl | rfl | rfl | rfl
  ·exact bJ (LLz_pure false W) rfl
  ·exact hk
  ·cases s.best with
   | none=>trivial
   | some l=>exact bJ (L1_pure false l) rfl
  ·trivial
theorem from_stop(W:List (List Int))(n v u:Nat)(c:Int)(s s':Sst)(hW:WtOk n W)(hs:SsOk n s)(hv:v≤n)(h:mR n v c s=some s'):
  aU Tryz.prog 174 [.ptr 1 0,.int .i64 v,.int .i64 u,.int .i64 c] (SH W n s) fun r H'=>r = .tup []∧H'=SH W n s':=by
 obtain⟨lab,best,least⟩:=s;obtain⟨h1,h2⟩:=hs;simp only at h1 h2;have hn1:=hW.n1;have hn2:=hW.n2;have hWl:=hW.len;unfold mR at h;simp only at h;by_cases hq:best.isSome=true∧least≤c
 ·rw[if_pos hq]at h;cases h;obtain⟨l,rfl⟩:=Option.isSome_iff_exists.1 hq.1;have hl:=h2 l rfl;have hle:=hq.2
  obtain⟨x,t,rfl⟩:∃x t,l=x::t:=by
   cases l with
   | nil=>simp at hl;omega
   | cons x t=>exact⟨x,t,rfl⟩
  simp only[SH,bsV,L1,LLz,oq];refine aE tok Tryz.func174 rfl rfl ?_;refine wx ?_;simp -dsimp[Tryz.f174,oE,hle,eK,eqA]
 ·rw[if_neg hq]at h;by_cases hvn:v=n
  ·rw[if_pos hvn]at h;cases h;subst hvn;have hcl:=bo lab;have hcp:=czL_pure lab;have cc:=cloneI lab false (by omega)
   have hco:aL Tryz.prog (.fn 162 []) [.buf 0 0 v v] (SH W v ⟨lab,best,least⟩) fun r H'=>r = .buf 2 0 v v∧H'=SH W v ⟨lab,best,least⟩++[.buf 3 1 (czL lab) false]:=by
    refine(callOX (args:=[.buf 0 0 v v]) cc rfl ?_ ?_).mono ?_
    ·intro i a a' g1 g2
     match i with
     | 0 =>
      simp at g1 g2;subst g1;subst g2;have:=Exp.buf (H:=SH W v ⟨lab,best,least⟩) 0 0 v 3 1 (czL lab) false rfl (by omega) (fun x hx=>(hcp x hx).1);rw[hcl,h1,pC,pA (by omega)]at this;exact this
     | i+1=>simp at g1
    ·rintro e z xs ⟨rfl,rfl,rfl⟩ x hx d hd;obtain⟨y,_,rfl⟩:=List.mem_map.1 hx;simp only[aQ,V.cells,oR,oO,or_false]at hd;subst hd;exact .int _ _
    ·rintro r H' ⟨e,z,xs,rfl,rfl,_,rfl,rfl,rfl⟩;refine⟨?_,rfl⟩;simp[SH,h1]
   have h3:aU Tryz.prog 174 [.ptr 1 0,.int .i64 v,.int .i64 u,.int .i64 c] (SH W v ⟨lab,best,least⟩) fun r H'=>r = .tup []∧H'=[.buf 3 1 (czL lab) false,.cells [LLz false W,.buf 0 0 v v,.buf 2 0 v v,.int .i64 c],.buf 3 1 (czL lab) false]:=by
    cases best with
    | none =>
     simp only[SH,bsV,L1,LLz]at hco ⊢;refine aE tok Tryz.func174 rfl rfl ?_;refine wx ?_;simp -dsimp[Tryz.f174,oE,eK,eqA,hWl];refine hco.mono ?_;rintro r H' ⟨rfl,rfl⟩;simp -dsimp[]
    | some l =>
     have hl:=h2 l rfl
     have hnl:¬least≤c:=fun e=>hq ⟨rfl,e⟩
     obtain⟨x,t,rfl⟩:∃x t,l=x::t:=by
      cases l with
      | nil=>simp at hl;omega
      | cons x t=>exact⟨x,t,rfl⟩
     simp only[SH,bsV,L1,LLz,oq]at hco ⊢;refine aE tok Tryz.func174 rfl rfl ?_;refine wx ?_;simp -dsimp[Tryz.f174,oE,eK,eqA,hWl,hnl];refine hco.mono ?_;rintro r H' ⟨rfl,rfl⟩;simp -dsimp[]
   have h4:=conH_frzC 2 1 [2] h3 rfl rfl (by simp[dM,hcl,h1]);refine cut1P (h4.mono fun r H' hh=>⟨hh.1,⟨[.buf 3 1 (czL lab) true],?_⟩⟩) (by simp[SH]) (by simp) (SH_rb _ _ _ _ (by simp[SH]));rw[hh.2];simp[SH,bsV,L1,czL]
  ·rw[if_neg hvn]at h;cases h
def djJ:List Int→List Int→Option (List Int)
 | [],s=>some s
 | x::r,s=>if cP s x=true then none else djJ r (s++[x])
def djI:List (List Int)→List Int→Option (List Int)
 | [],s=>some s
 | c::cs,s=>if asvB c=true then(match djJ c s with
  | none=>none
  | some s'=>djI cs s') else none
def DjQ(D:Option (List Int))(r:V)(H':List B):Prop:=(D=none∧r = .tup [.nilM,.bool false]∧∃G,H'=[]++G)∨∃s,D=some s∧r = .tup [.map 0,.bool true]∧H'=[.map (.int .i64) (mE s)]
theorem DjQ_no(G:List B):DjQ none (.tup [.nilM,.bool false]) G:=.inl ⟨rfl,rfl,G,rfl⟩
theorem DjQ_yes(s:List Int):DjQ (some s) (.tup [.map 0,.bool true]) [.map (.int .i64) (mE s)]:=.inr ⟨s,rfl,rfl,rfl⟩
theorem disjoint_h(cs:List (List Int))(f:Bool)(hl:cs.length≤1000000)(hc:∀c∈cs,c.length≤1000000):aU Tryz.prog 108 [LLz f cs] [] fun r H'=>DjQ (djI cs []) r H':=by
 obtain⟨D,hD⟩:∃D,D=djI cs []:=⟨_,rfl⟩;rw[←hD];refine aE tok Tryz.func108 rfl rfl ?_;refine wx ?_;simp -dsimp[Tryz.f108,oE,LLz];refine aI (W_loopM 32 0xfffff14c (by simp[mB]<;>rfl) (σ:=Nat×List Int) (fun p=>p.1≤cs.length∧djI (cs.drop p.1) p.2=D) (fun p=>cs.length-p.1) (fun p=>[(12,.int .i64 p.1)]) (fun p=>[B.map (.int .i64) (mE p.2)]) (0,[]) ⟨by simp,by rw[pC];exact hD.symm⟩ (by simp) (by simp[mE]) (by simp) ?_);rintro⟨i,s⟩ ⟨hi,hx⟩ N Q hN hQ;simp only at hi hx;have wi:=aP i (by omega);by_cases hb:i<cs.length
 ·have hcl:=hc _ (oI hb);rw[oK hb,djI]at hx;obtain⟨c,hce⟩:∃c,c=cs[i]:=⟨_,rfl⟩;rw[←hce]at hx hcl;have ca:=ascending_u c false hcl;simp only[L1]at ca
  cases hq:asvB c with
  | false =>
   rw[hq]at ca;rw[hq,if_neg (by simp)]at hx;subst hx;refine wx ?_;simp -dsimp[hb,hce.symm,L1];refine cPx (ca) (by simp) ?_;refine hQ _ _ _ ?_;simp -dsimp[];exact DjQ_no _
  | true =>
   rw[hq]at ca;rw[hq,if_pos rfl]at hx;obtain⟨E,hE⟩:∃E,E=djJ c s:=⟨_,rfl⟩;rw[←hE]at hx;refine wx ?_;simp -dsimp[hb,hce.symm,L1];refine cPx (ca) (by simp) ?_;simp -dsimp[];refine aI (W_loopM 31 0x7fe0010c (by simp[mB]<;>rfl) (σ:=Nat×List Int) (fun p=>p.1≤c.length∧djJ (c.drop p.1) p.2=E) (fun p=>c.length-p.1) (fun p=>[(21,.int .i64 p.1)]) (fun p=>[B.map (.int .i64) (mE p.2)]) (0,s) ⟨by simp,by rw[pC];exact hE.symm⟩ (by simp) rfl (by simp) ?_);rintro⟨j,u⟩ ⟨hj,hy⟩ N2 Q2 hN2 hQ2;simp only at hj hy;have wj:=aP j (by omega);by_cases hbj:j<c.length
   ·rw[oK hbj,djJ]at hy;obtain⟨x,hxe⟩:∃x,x=c[j]:=⟨_,rfl⟩;rw[←hxe]at hy
    cases hm:cP u x with
    | true =>
     rw[hm,if_pos rfl]at hy;rw[←hy]at hx;simp only at hx;subst hx;obtain⟨k,hf,hk⟩:=nK x u 0 hm;rw[pI]at hf;refine wx ?_;simp -dsimp[hbj,hxe.symm,aQ,hf];refine hQ2 _ _ _ ?_;simp -dsimp[];refine hQ _ _ _ ?_;simp -dsimp[];exact DjQ_no _
    | false =>
     rw[hm,if_neg (by simp)]at hy;have hf:=find_no x u 0 hm;have hsn:=mE_snoc u x;refine wx ?_;simp -dsimp[hbj,hxe.symm,aQ,hf,hsn.symm,wj];refine hN2 (j+1,u++[x]) _ _ ⟨by simp only;omega,hy⟩ (by simp only;omega) (by simp) ⟨[],rfl⟩ (by simp[aQ]) (by simp)
   ·rw[oV (by omega),djJ]at hy;rw[←hy]at hx;simp only at hx;refine wx ?_;simp -dsimp[hbj];refine hQ2 _ _ _ ?_;simp -dsimp[wi];refine hN (i+1,u) _ _ ⟨by simp only;omega,hx⟩ (by simp only;omega) (by simp) ⟨[],rfl⟩ (by simp[L1,aQ]) (by simp)
 ·rw[oV (by omega),djI]at hx;subst hx;refine wx ?_;simp -dsimp[hb];refine hQ _ _ _ ?_;simp -dsimp[];exact DjQ_yes _
theorem disjoint_l{H:List B}(cs:List (List Int))(f:Bool)(hl:cs.length≤1000000)(hc:∀c∈cs,c.length≤1000000):
  aU Tryz.prog 108 [LLz f cs] H fun r H'=>r=(match djI cs [] with | none=>.tup [.nilM,.bool false] | some _=>.tup [.map H.length,.bool true])∧H'=(match djI cs [] with | none=>H | some s=>H++[.map (.int .i64) (mE s)]):=by
 have h:=disjoint_h cs f hl hc;obtain⟨D,hD⟩:∃D,D=djI cs []:=⟨_,rfl⟩;rw[←hD]at h ⊢
 have hpa:∀(i:Nat) a b,[LLz f cs][i]?=some a→[LLz f cs][i]?=some b→Ren (fun i=>H.length+i) 0 a b:=fun i a b ha hb=>by
  match i with
  | 0=>simp at ha hb;subst ha;subst hb;exact .pure _ (LLz_pure _ _)
  | i+1=>simp at ha
 cases D with
 | none =>
  have h1:aU Tryz.prog 108 [LLz f cs] [] fun r H'=>r = .tup [.nilM,.bool false]∧H'=[]:=cut1P (h.mono fun r H' hh=>by
   rcases hh with⟨_,h2,h3⟩ | ⟨s,h2,_⟩
   ·exact⟨h2,h3⟩
   ·cases h2) (oJ _) (by simp) (by simp)
  exact eT 0 0 (fun i=>H.length+i) h1 rfl rfl (oJ _) (fun i j hi _ _=>by omega) (fun i hi=>by omega) (fun i _ h2=>by omega) (fun i b hb=>by simp at hb) (fun i b hb=>by simp at hb) rfl (fun j _ _=>rfl) rfl hpa (by simp)
 | some s =>
  have h1:aU Tryz.prog 108 [LLz f cs] [] fun r H'=>r = .tup [.map 0,.bool true]∧H'=[.map (.int .i64) (mE s)]:=h.mono fun r H' hh=>by
   rcases hh with⟨h2,_⟩ | ⟨s',h2,h3⟩
   ·cases h2
   ·cases h2;exact h3
  have hp:∀p∈mE s,AM.Pure p.1∧AM.Pure p.2:=fun p hp=>by
   obtain⟨x,_,rfl⟩:=List.mem_map.1 hp;exact⟨by simp,by simp⟩
  refine ng 0 1 (fun i=>H.length+i) h1 rfl rfl (by omega) (fun i j hi hj _=>by omega) (fun i hi=>by omega) (fun i _ h2=>by omega) (fun i b hb=>by simp at hb) (fun i b hb=>?_) (by simp) (fun j hj _=>by rw[oL hj]) rfl hpa (.tup _ _ rfl fun i a b ha hb=>?_)
  ·match i with
   | 0=>simp at hb;subst hb;exact⟨_,by simp,.map _ _ hp⟩
   | i+1=>simp at hb
  ·match i with
   | 0=>simp at ha hb;subst ha;subst hb;exact .map 0 (by omega)
   | 1=>simp at ha hb;subst ha;subst hb;exact .pure _ (.bool _)
   | i+2=>simp at ha
def iW(t:Tb)(cs:List (List Int)):Bool:=match djI cs [] with
 | none=>false
 | some s=>decide (s.length=t.rows.length)&&!(t.rows.any fun r=>!cP s r.id)
theorem absent_u(tb:B)(s:List Int)(m:Rw)(htr:∀k,rbB k tb):aL Tryz.prog (.fn 110 [.ptr 2 0]) [aC m] [tb,B.map (.int .i64) (mE s),B.cells [.map 1]] fun r H'=>r = .bool (!cP s m.id)∧H'=[tb,B.map (.int .i64) (mE s),B.cells [.map 1]]:=by
 simp only[aL,pg,pH,aC,LV];refine fZ (G:=[B.cells [.int .i64 m.id,.lst 3 false (m.vals.map aF)]]) (d:=1) (r:=.bool (!cP s m.id)) ?_ rfl
 cases hm:cP s m.id with
 | true =>
  obtain⟨k,hf,_⟩:=nK m.id s 0 hm;refine aE tok Tryz.func110 rfl rfl ?_;refine wx ?_;simp -dsimp[Tryz.f110,oE,hf]
 | false =>
  have hf:=find_no m.id s 0 hm;refine aE tok Tryz.func110 rfl rfl ?_;refine wx ?_;simp -dsimp[Tryz.f110,oE,hf]
theorem divides_u(t:Tb)(f g fc:Bool)(cs:List (List Int))(hr:t.rows.length≤1000000)(hl:cs.length≤1000000)(hc:∀c∈cs,c.length≤1000000):aJ Tryz.prog 52 [aD f g t,LLz fc cs] fun r=>r = .bool (iW t cs):=by
 obtain⟨tb,htbe⟩:∃tb,tb=B.cells [.str t.name,.lst 1 f (t.attrs.map V.str),.lst 2 g (t.rows.map aC)]:=⟨_,rfl⟩
 have htr:∀k,rbB k tb:=fun k=>by rw[htbe];simp
 have hd:=disjoint_l (H:=[tb]) cs fc hl hc;unfold iW
 cases hD:djI cs [] with
 | none =>
  rw[hD]at hd;simp only[LLz]at hd;simp only;refine sPx Tryz.func52 rfl rfl ?_;simp -dsimp[Tryz.f52,oE,aD,LS,LR,LLz];rw[←htbe];refine bF hd ?_;rintro r H' ⟨rfl,rfl⟩;simp -dsimp[]
 | some s =>
  rw[hD]at hd;simp only[LLz,og,qD,pg,pH]at hd;simp only
  have hml:(mE s).length=s.length:=by simp[mE]
  by_cases hs:s.length=t.rows.length
  ·rw[decide_eq_true hs,pE]
   have hrb:∀bl∈[tb,B.map (.int .i64) (mE s),B.cells [.map 1]],rbB 3 bl:=fun bl hbl=>by
    simp only[oR,oO,or_false]at hbl
    rcases hbl with rfl | rfl | rfl
    ·exact htr _
    ·exact(rbB_mE _ _ _).2 trivial
    ·intro c hc;simp only[oR,oO,or_false]at hc;subst hc;show 1<3;omega
   have cc:=cont_R [tb,B.map (.int .i64) (mE s),B.cells [.map 1]] (.fn 110 [.ptr 2 0]) (fun r=>!cP s r.id) t.rows g hr hrb (by simp[rb,rb1]) (fun m _=>absent_u tb s m htr)
   obtain⟨A,hA⟩:∃A,A=t.rows.any fun r=>!cP s r.id:=⟨_,rfl⟩
   rw[←hA]at cc ⊢;simp only[LR]at cc
   have hsi:((mE s).length:Int)=(t.rows.length:Int):=by omega
   refine sPx Tryz.func52 rfl rfl ?_;simp -dsimp[Tryz.f52,oE,aD,LS,LR,LLz];rw[←htbe];refine bF hd ?_;rintro r H' ⟨rfl,rfl⟩;simp -dsimp[htbe,hml,hs];rw[←htbe];refine bF cc ?_;rintro r H' ⟨rfl,rfl⟩;simp -dsimp[]
  ·rw[decide_eq_false hs,pF]
   have hsi:¬(s.length:Int)=(t.rows.length:Int):=by omega
   refine sPx Tryz.func52 rfl rfl ?_;simp -dsimp[Tryz.f52,oE,aD,LS,LR,LLz];rw[←htbe];refine bF hd ?_;rintro r H' ⟨rfl,rfl⟩;simp -dsimp[htbe,hml,hsi,hs]
end
end Go.Proofs.YtdnhplencamncaaGreatDoor
