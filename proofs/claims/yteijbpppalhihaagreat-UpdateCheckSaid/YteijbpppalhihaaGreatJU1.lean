/- JU1: own texts of this seat, joined and shortened by pack.py: AMa, AMb. -/
import Derived.WalkKit
import Derived.Below
import Derived.Maps.AppendAt
import Derived.Deep.Draws
import Derived.Laws.Cells
import Derived.Laws.CopyRow
import Derived.Great.BuildSlice
import Derived.Laws.MakeOwn
import Derived.Deep.Upon
set_option linter.unusedVariables false
set_option linter.unusedSimpArgs false
set_option maxRecDepth 100000
set_option maxHeartbeats 64000000
section
namespace Go.AM
open Go
inductive V where
 | undef
 | bool (b:Bool)
 | int (k:IntKind) (n:Int)
 | str (s:ByteArray)
 | nilS
 | lst (z:Nat) (full:Bool) (xs:List V)
 | buf (k off len tot:Nat)
 | nilP
 | ptr (k off:Nat)
 | pin (cs:List V) (off:Nat)
 | pbuf (k i off tot:Nat)
 | sarr (k n:Nat)
 | nilM
 | map (k:Nat)
 | fn (f:FuncId) (caps:List V)
 | nilFn
 | agg (cs:List V)
 | tup (vs:List V)
 deriving Inhabited
def V.cells:V→List V
 | .agg cs=>cs
 | v=>[v]
def V.one:V→Bool
 | .undef | .agg _ | .tup _=>false
 | _=>true
inductive KK where
 | int (k:IntKind)
 | str
 | bool
 | arr (n:Nat)
 deriving DecidableEq
def kT:V→Bool
 | .int .i64 _=>true
 | _=>false
def bA:V→Option KK
 | .int k _=>some (.int k)
 | .str _=>some .str
 | .bool _=>some .bool
 | .agg cs=>if cs.all kT then some (.arr cs.length) else none
 | _=>none
inductive B where
 | cells (cs:List V)
 | map (kk:KK) (es:List (V×V))
 | buf (e z:Nat) (xs:List V) (fz:Bool)
structure St where
 F:Nat→Prop
 w:World
 φ:Nat→Nat
 κ:Nat→Nat
 H:List B
def Lv(s:St)(k:Nat):Prop:=k<s.H.length∧∀e z xs fz,s.H[k]?=some (.buf e z xs fz)→s.κ k≠0
theorem lvC{s:St}{k:Nat}{cs:List V}(h:s.H[k]?=some (.cells cs)):Lv s k:=⟨(List.getElem?_eq_some_iff.1 h).1,fun e z xs fz h'=>by rw[h]at h';cases h'⟩
theorem lvM{s:St}{k:Nat}{kk:KK}{es:List (V×V)}(h:s.H[k]?=some (.map kk es)):Lv s k:=⟨(List.getElem?_eq_some_iff.1 h).1,fun e z xs fz h'=>by rw[h]at h';cases h'⟩
theorem lvB{s:St}{k e z:Nat}{xs:List V}{fz:Bool}(h:s.H[k]?=some (.buf e z xs fz))(hk:s.κ k≠0):Lv s k:=⟨(List.getElem?_eq_some_iff.1 h).1,fun _ _ _ _ _=>hk⟩
def St.Prot(s:St)(b:Nat):Prop:=b<s.w.heap.size∧¬s.F b∧∀k,Lv s k→s.φ k=b→∃e z xs,s.H[k]?=some (.buf e z xs true)
inductive Rel (s:St):V→Value→Prop
 | undef (u:Value):Rel s .undef u
 | bool (b:Bool):Rel s (.bool b) (.bool b)
 | int (k:IntKind) (n:Int):Rel s (.int k n) (.int k n)
 | str (x:ByteArray):Rel s (.str x) (.string x)
 | nilS:Rel s .nilS (.slice none 0 0)
 | lst (z:Nat) (full:Bool) (xs:List V) (A:Option Addr) (cap b off:Nat) (u:Nat→Nat→Value)
   (hcap:xs.length≤cap) (hfull:full=true→cap=xs.length) (hA:0<xs.length→A=some ⟨b,off,none⟩∧s.Prot b)
   (hz:∀x∈xs,x.cells.length=z∧∀c∈x.cells,c.one=true)
   (hcell:∀i x j c,xs[i]?=some x→x.cells[j]?=some c→s.w.cell? ⟨b,off+i*z+j,none⟩=some (u i j))
   (hrel:∀i x j c,xs[i]?=some x→x.cells[j]?=some c→Rel s c (u i j)):Rel s (.lst z full xs) (.slice A xs.length cap)
 | buf (k off len tot:Nat) (e z:Nat) (xs:List V) (fz:Bool) (A:Option Addr) (l c:Nat) (hk:s.H[k]?=some (.buf e z xs fz)) (ht:tot≤xs.length)
   (h:tot=xs.length→(s.κ k≠0→A=some ⟨s.φ k,off*z,none⟩)∧l=len∧off+c=s.κ k∧off+len≤tot):Rel s (.buf k off len tot) (.slice A l c)
 | nilP:Rel s .nilP (.pointer none)
 | ptr (k off:Nat) (cs:List V) (hk:s.H[k]?=some (.cells cs)):Rel s (.ptr k off) (.pointer (some ⟨s.φ k,off,none⟩))
 | pin (cs:List V) (off b o:Nat) (u:Nat→Value) (hp:s.Prot b) (h1:∀c∈cs,c.one=true)
   (hcell:∀j c,cs[off+j]?=some c→s.w.cell? ⟨b,o+j,none⟩=some (u j))
   (hrel:∀j c,cs[off+j]?=some c→Rel s c (u j)):Rel s (.pin cs off) (.pointer (some ⟨b,o,none⟩))
 | pbuf (k i off tot:Nat) (e z:Nat) (xs:List V) (fz:Bool) (p:Addr) (hk:s.H[k]?=some (.buf e z xs fz)) (ht:tot≤xs.length)
   (h:tot=xs.length→p=⟨s.φ k,i*z+off,none⟩):Rel s (.pbuf k i off tot) (.pointer (some p))
 | sarr (k n:Nat) (cs:List V) (hk:s.H[k]?=some (.cells cs)):Rel s (.sarr k n) (.slice (some ⟨s.φ k,0,none⟩) n n)
 | nilM:Rel s .nilM (.map none)
 | map (k:Nat) (kk:KK) (es:List (V×V)) (hk:s.H[k]?=some (.map kk es)):Rel s (.map k) (.map (some (s.φ k)))
 | fn (f:FuncId) (caps:List V) (us:Array Value) (hl:us.size=caps.length) (h:∀(i:Nat) c u,caps[i]?=some c→us[i]?=some u→Rel s c u):Rel s (.fn f caps) (.func (.func f) #[] us)
 | nilFn:Rel s .nilFn .nilFunc
 | agg (cs:List V) (us:Array Value) (hl:us.size=cs.length) (h1:∀c∈cs,c.one=true) (h:∀(i:Nat) c u,cs[i]?=some c→us[i]?=some u→Rel s c u):Rel s (.agg cs) (.agg us)
 | tup (vs:List V) (us:Array Value) (hl:us.size=vs.length) (h:∀(i:Nat) c u,vs[i]?=some c→us[i]?=some u→Rel s c u):Rel s (.tup vs) (.tuple us)
def BRel(s:St)(k:Nat):B→Prop
 | .cells cs=>(∀c∈cs,c.one=true)∧∃(vs:Array Value) (t:TypeId),s.w.heap[s.φ k]?=some (.cells vs t (0,0))∧vs.size=cs.length∧∀(i:Nat) c u,cs[i]?=some c→vs[i]?=some u→Rel s c u
 | .map kk es=>(∀p∈es,bA p.1=some kk)∧∃(ms:Array MapEntry) (clock:Nat),s.w.heap[s.φ k]?=some (.map ms clock)∧ms.size=es.length∧∀(i:Nat) p m,es[i]?=some p→ms[i]?=some m→Rel s p.1 m.key∧Rel s p.2 m.val
 | .buf e z xs _=>∃(vs:Array Value),(s.κ k≠0→s.w.heap[s.φ k]?=some (.cells vs e (0,0)))∧vs.size=s.κ k*z∧xs.length≤s.κ k∧s.κ k≤maxLen∧(∀x∈xs,x.cells.length=z∧∀c∈x.cells,c.one=true)∧
   ∀(i:Nat) x (j:Nat) c u,xs[i]?=some x→x.cells[j]?=some c→vs[i*z+j]?=some u→Rel s c u
structure Good (s:St):Prop where
 fl:∀b,s.F b→b<s.w.heap.size
 lt:∀k,Lv s k→s.φ k<s.w.heap.size∧¬s.F (s.φ k)
 inj:∀j k,Lv s j→Lv s k→s.φ j=s.φ k→j=k
 blk:∀k bl,s.H[k]?=some bl→BRel s k bl
def BStep(s s':St)(k:Nat):B→Prop
 | .cells _=>s'.φ k=s.φ k∧∃cs,s'.H[k]?=some (.cells cs)
 | .map kk _=>s'.φ k=s.φ k∧∃es,s'.H[k]?=some (.map kk es)
 | .buf e z xs fz=>∃xs' fz',s'.H[k]?=some (.buf e z xs' fz')∧xs.length≤xs'.length∧(xs.length=xs'.length→s'.φ k=s.φ k∧s'.κ k=s.κ k)∧
   (fz=true→fz'=true∧xs'=xs∧(s.κ k≠0→s'.w.heap[s.φ k]?=s.w.heap[s.φ k]?))∧(s'.φ k=s.φ k∨s.w.heap.size≤s'.φ k)∧(s.κ k=0→s'.κ k=0∨s.w.heap.size≤s'.φ k)
structure Step (s s':St):Prop where
 F:s'.F=s.F
 os:s'.w.os=s.w.os
 tape:s'.w.tape=s.w.tape
 output:s'.w.output=s.w.output
 size:s.w.heap.size≤s'.w.heap.size
 out:∀b,b<s.w.heap.size→(∀k,Lv s k→s.φ k≠b)→s'.w.heap[b]?=s.w.heap[b]?
 len:s.H.length≤s'.H.length
 new:∀k,s.H.length≤k→Lv s' k→s.w.heap.size≤s'.φ k
 keep:∀k bl,s.H[k]?=some bl→BStep s s' k bl
theorem Step.refl(s:St):Step s s where
 F:=rfl
 os:=rfl
 tape:=rfl
 output:=rfl
 size:=Nat.le_refl _
 out _ _ _:=rfl
 len:=Nat.le_refl _
 new k h1 h2:=absurd h1 (by have:=h2.1;omega)
 keep k bl h:=by
  cases bl with
  | cells cs=>exact⟨rfl,cs,h⟩
  | map kk es=>exact⟨rfl,es,h⟩
  | buf e z xs fz=>exact⟨xs,fz,h,Nat.le_refl _,fun _=>⟨rfl,rfl⟩,fun hf=>⟨hf,rfl,fun _=>rfl⟩,.inl rfl,.inl⟩
theorem aE{α:Type}{l:List α}{k:Nat}{x:α}(h:l[k]?=some x):k<l.length:=(List.getElem?_eq_some_iff.1 h).1
theorem Step.prot{s s':St}(h:Step s s'){b:Nat}(hp:s.Prot b):s'.Prot b∧s'.w.heap[b]?=s.w.heap[b]?:=by
 obtain⟨h1,h2,h3⟩:=hp
 have hsame:s'.w.heap[b]?=s.w.heap[b]?:=by
  by_cases hk:∃k,Lv s k∧s.φ k=b
  ·obtain⟨k,hk,rfl⟩:=hk;obtain⟨e,z,xs,hb⟩:=h3 k hk rfl;obtain⟨xs',fz',_,_,_,hf,_⟩:=h.keep k _ hb;exact(hf rfl).2.2 (hk.2 _ _ _ _ hb)
  ·exact h.out b h1 (fun k hk' e=>hk ⟨k,hk',e⟩)
 refine⟨⟨Nat.lt_of_lt_of_le h1 h.size,by rw[h.F];exact h2,fun k hk e=>?_⟩,hsame⟩;by_cases hkl:k<s.H.length
 ·have hbk:s.H[k]?=some s.H[k]:=List.getElem?_eq_getElem hkl;generalize s.H[k]=bl at hbk;have hst:=h.keep k bl hbk
  cases bl with
  | cells cs =>
   obtain⟨e1,cs',_⟩:=hst;obtain⟨_,_,_,hb⟩:=h3 k (lvC hbk) (e1.symm.trans e);rw[hbk]at hb;cases hb
  | map kk es =>
   obtain⟨e1,es',_⟩:=hst;obtain⟨_,_,_,hb⟩:=h3 k (lvM hbk) (e1.symm.trans e);rw[hbk]at hb;cases hb
  | buf e0 z xs fz =>
   obtain⟨xs',fz',hb',_,_,hf,hphi,hdead⟩:=hst
   rcases hphi with hphi | hphi
   ·by_cases hz:s.κ k=0
    ·rcases hdead hz with h0 | h0
     ·exact absurd h0 (hk.2 _ _ _ _ hb')
     ·omega
    ·obtain⟨_,_,_,hb⟩:=h3 k (lvB hbk hz) (hphi.symm.trans e);rw[hbk]at hb;cases hb;obtain⟨rfl,_,_⟩:=hf rfl;exact⟨_,_,_,hb'⟩
   ·omega
 ·have:=h.new k (by omega) hk;omega
theorem Rel.step{s s':St}(h:Step s s'){v:V}{u:Value}(hr:Rel s v u):Rel s' v u:=by
 induction hr with
 | undef u=>exact .undef u
 | bool b=>exact .bool b
 | int k n=>exact .int k n
 | str x=>exact .str x
 | nilS=>exact .nilS
 | lst z full xs A cap b off u hcap hfull hA hz hcell hrel ih =>
  refine .lst z full xs A cap b off u hcap hfull (fun h0=>⟨(hA h0).1,(h.prot (hA h0).2).1⟩) hz (fun i x j c hi hj=>?_) ih
  have h0:0<xs.length:=by have:=aE hi;omega
  rw[World.cell?_of_block (h.prot (hA h0).2).2];exact hcell i x j c hi hj
 | buf k off len tot e z xs fz A l c hk ht hh =>
  obtain⟨xs',fz',hb',hle,heq,_,_⟩:=h.keep k _ hk;refine .buf k off len tot e z xs' fz' A l c hb' (Nat.le_trans ht hle) (fun he=>?_)
  have:tot=xs.length:=by omega
  obtain⟨e1,e2⟩:=heq (by omega);rw[e1,e2];exact hh this
 | nilP=>exact .nilP
 | ptr k off cs hk =>
  obtain⟨e1,cs',hk'⟩:=h.keep k _ hk;rw[←e1];exact .ptr k off cs' hk'
 | pin cs off b o u hp h1 hcell hrel ih =>
  refine .pin cs off b o u (h.prot hp).1 h1 (fun j c hj=>?_) ih;rw[World.cell?_of_block (h.prot hp).2];exact hcell j c hj
 | pbuf k i off tot e z xs fz p hk ht hh =>
  obtain⟨xs',fz',hb',hle,heq,_,_⟩:=h.keep k _ hk;refine .pbuf k i off tot e z xs' fz' p hb' (Nat.le_trans ht hle) (fun he=>?_)
  have:tot=xs.length:=by omega
  obtain⟨e1,e2⟩:=heq (by omega);rw[e1];exact hh this
 | sarr k n cs hk =>
  obtain⟨e1,cs',hk'⟩:=h.keep k _ hk;rw[←e1];exact .sarr k n cs' hk'
 | nilM=>exact .nilM
 | map k kk es hk =>
  obtain⟨e1,es',hk'⟩:=h.keep k _ hk;rw[←e1];exact .map k kk es' hk'
 | fn f caps us hl _ ih=>exact .fn f caps us hl ih
 | nilFn=>exact .nilFn
 | agg cs us hl h1 _ ih=>exact .agg cs us hl h1 ih
 | tup vs us hl _ ih=>exact .tup vs us hl ih
theorem Step.trans{a b c:St}(h:Step a b)(g:Step b c):Step a c where
 F:=g.F.trans h.F
 os:=g.os.trans h.os
 tape:=g.tape.trans h.tape
 output:=g.output.trans h.output
 size:=Nat.le_trans h.size g.size
 out x hx hk:=by
  rw[g.out x (Nat.lt_of_lt_of_le hx h.size) (fun k hkl e=>?_),h.out x hx hk];by_cases hk2:k<a.H.length
  ·have hbk:a.H[k]?=some a.H[k]:=List.getElem?_eq_getElem hk2;generalize a.H[k]=bl at hbk;have hst:=h.keep k bl hbk
   cases bl with
   | cells cs=>exact hk k (lvC hbk) (hst.1.symm.trans e)
   | map kk es=>exact hk k (lvM hbk) (hst.1.symm.trans e)
   | buf e0 z xs fz =>
    obtain⟨_,_,hb',_,_,_,hp,hdead⟩:=hst
    rcases hp with hp | hp
    ·by_cases hz:a.κ k=0
     ·rcases hdead hz with h0 | h0
      ·exact absurd h0 (hkl.2 _ _ _ _ hb')
      ·omega
     ·exact hk k (lvB hbk hz) (hp.symm.trans e)
    ·omega
  ·have:=h.new k (by omega) hkl;omega
 len:=Nat.le_trans h.len g.len
 new k h1 h2:=by
  by_cases hb:k<b.H.length
  ·have hbk:b.H[k]?=some b.H[k]:=List.getElem?_eq_getElem hb;generalize b.H[k]=bl at hbk;have hst:=g.keep k bl hbk;have hsz:=h.size
   cases bl with
   | cells cs=>rw[hst.1];exact h.new k h1 (lvC hbk)
   | map kk es=>rw[hst.1];exact h.new k h1 (lvM hbk)
   | buf e0 z xs fz =>
    obtain⟨_,_,hb',_,_,_,hp,hdead⟩:=hst
    rcases hp with hp | hp
    ·by_cases hz:b.κ k=0
     ·rcases hdead hz with h0 | h0
      ·exact absurd h0 (h2.2 _ _ _ _ hb')
      ·omega
     ·rw[hp];exact h.new k h1 (lvB hbk hz)
    ·omega
  ·have:=g.new k (by omega) h2;have:=h.size;omega
 keep k bl hk:=by
  have h1:=h.keep k bl hk
  cases bl with
  | cells cs =>
   obtain⟨e1,cs',hc⟩:=h1;obtain⟨e2,r⟩:=g.keep k _ hc;exact⟨e2.trans e1,r⟩
  | map kk es =>
   obtain⟨e1,cs',hc⟩:=h1;obtain⟨e2,r⟩:=g.keep k _ hc;exact⟨e2.trans e1,r⟩
  | buf e z xs fz =>
   obtain⟨xs1,fz1,hc,l1,q1,f1,p1,d1⟩:=h1;obtain⟨xs2,fz2,hd,l2,q2,f2,p2,d2⟩:=g.keep k _ hc;refine⟨xs2,fz2,hd,Nat.le_trans l1 l2,fun he=>?_,fun hf=>?_,?_,fun hz=>?_⟩
   ·obtain⟨a1,a2⟩:=q1 (by omega);obtain⟨b1,b2⟩:=q2 (by omega);exact⟨b1.trans a1,b2.trans a2⟩
   ·obtain⟨a1,a2,a3⟩:=f1 hf;obtain⟨b1,b2,b3⟩:=f2 a1;obtain⟨e1,e2⟩:=q1 (by rw[a2]);rw[e1,e2]at b3;exact⟨b1,b2.trans a2,fun hz=>(b3 hz).trans (a3 hz)⟩
   ·have:=h.size
    rcases p2 with p2 | p2
    ·rcases p1 with p1 | p1
     ·exact .inl (p2.trans p1)
     ·exact .inr (by omega)
    ·exact .inr (by omega)
   ·have:=h.size
    rcases d1 hz with h0 | h0
    ·rcases d2 h0 with h0 | h0
     ·exact .inl h0
     ·exact .inr (by omega)
    ·rcases p2 with p2 | p2
     ·exact .inr (by omega)
     ·exact .inr (by omega)
theorem BRel.step{s s':St}(h:Step s s'){k:Nat}{bl:B}(hb:BRel s k bl)(hk:s.H[k]?=some bl)(hφ:s'.φ k=s.φ k)(hκ:s'.κ k=s.κ k)(hw:Lv s k→s'.w.heap[s.φ k]?=s.w.heap[s.φ k]?):BRel s' k bl:=by
 cases bl with
 | cells cs =>
  obtain⟨h1,vs,t,h2,h3,h4⟩:=hb;exact⟨h1,vs,t,by rw[hφ,hw (lvC hk)];exact h2,h3,fun i c u hc hu=>(h4 i c u hc hu).step h⟩
 | map kk es =>
  obtain⟨h1,ms,cl,h2,h3,h4⟩:=hb;exact⟨h1,ms,cl,by rw[hφ,hw (lvM hk)];exact h2,h3,fun i p m hc hu=>⟨(h4 i p m hc hu).1.step h,(h4 i p m hc hu).2.step h⟩⟩
 | buf e z xs fz =>
  obtain⟨vs,h2,h3,h4,h5,h6,h7⟩:=hb;exact⟨vs,fun hz=>by rw[hκ]at hz;rw[hφ,hw (lvB hk hz)];exact h2 hz,by rw[hκ];exact h3,by rw[hκ];exact h4,by rw[hκ];exact h5,h6,fun i x j c u hx hc hu=>(h7 i x j c u hx hc hu).step h⟩
def St.at(s:St)(w:World):St:={ s with w:=w }
theorem fQ{s:St}(hg:Good s){w:World}(hos:w.os=s.w.os)(htape:w.tape=s.w.tape)(hout:w.output=s.w.output)(hsz:s.w.heap.size≤w.heap.size)
  (hb:∀b,b<s.w.heap.size→w.heap[b]?=s.w.heap[b]?):Good (s.at w)∧Step s (s.at w):=by
 have hst:Step s (s.at w):=⟨rfl,hos,htape,hout,hsz,fun b h _=>hb b h,Nat.le_refl _,fun k h1 h2=>absurd h1 (by have:k<s.H.length:=h2.1;omega),fun k bl hk=>by
  cases bl with
  | cells cs=>exact⟨rfl,cs,hk⟩
  | map kk es=>exact⟨rfl,es,hk⟩
  | buf e z xs fz=>exact⟨xs,fz,hk,Nat.le_refl _,fun _=>⟨rfl,rfl⟩,fun hf=>⟨hf,rfl,fun hz=>hb _ (hg.lt k (lvB hk hz)).1⟩,.inl rfl,.inl⟩⟩
 refine⟨⟨fun b h=>Nat.lt_of_lt_of_le (hg.fl b h) hsz,fun k hk=>⟨Nat.lt_of_lt_of_le (hg.lt k hk).1 hsz,(hg.lt k hk).2⟩,hg.inj,fun k bl hk=>?_⟩,hst⟩;exact(hg.blk k bl hk).step hst hk rfl rfl (fun hl=>hb _ (hg.lt k hl).1)
def upd(f:Nat→Nat)(k v:Nat):Nat→Nat:=fun i=>if i=k then v else f i
theorem ae(f:Nat→Nat)(k v:Nat):upd f k v k=v:=by simp[upd]
theorem bw(f:Nat→Nat){k i:Nat}(v:Nat)(h:i≠k):upd f k v i=f i:=by simp[upd,h]
def St.push(s:St)(w:World)(g c:Nat)(bl:B):St:=⟨s.F,w,upd s.φ s.H.length g,upd s.κ s.H.length c,s.H++[bl]⟩
theorem eV{s:St}(hg:Good s){w:World}{g c:Nat}{bl:B}(hos:w.os=s.w.os)(htape:w.tape=s.w.tape)(hout:w.output=s.w.output)(hsz:s.w.heap.size≤w.heap.size)
  (hb:∀b,b<s.w.heap.size→w.heap[b]?=s.w.heap[b]?) (h1:s.w.heap.size≤g):Step s (s.push w g c bl) where
 F:=rfl
 os:=hos
 tape:=htape
 output:=hout
 size:=hsz
 out b h _:=hb b h
 len:=by simp[St.push]
 new k h2 h3:=by
  have:k=s.H.length:=by have:=h3.1;simp[St.push]at this;omega
  subst this;simp only[St.push,ae];exact h1
 keep k b hk:=by
  have hkl:=aE hk
  have hk':(s.push w g c bl).H[k]?=some b:=by simp only[St.push];rw[List.getElem?_append_left hkl];exact hk
  have e1:(s.push w g c bl).φ k=s.φ k:=bw _ _ (by omega);have e2:(s.push w g c bl).κ k=s.κ k:=bw _ _ (by omega)
  cases b with
  | cells cs=>exact⟨e1,cs,hk'⟩
  | map kk es=>exact⟨e1,es,hk'⟩
  | buf e z xs fz=>exact⟨xs,fz,hk',Nat.le_refl _,fun _=>⟨e1,e2⟩,fun hf=>⟨hf,rfl,fun hz=>hb _ (hg.lt k (lvB hk hz)).1⟩,.inl e1,fun hz=>.inl (by rw[e2];exact hz)⟩
theorem fS{s:St}(hg:Good s){w:World}{g c:Nat}{bl:B}(hos:w.os=s.w.os)(htape:w.tape=s.w.tape)(hout:w.output=s.w.output)(hsz:s.w.heap.size≤w.heap.size)
  (hb:∀b,b<s.w.heap.size→w.heap[b]?=s.w.heap[b]?) (h1:s.w.heap.size≤g) (h2:g<w.heap.size)
  (hbl:Step s (s.push w g c bl)→BRel (s.push w g c bl) s.H.length bl):Good (s.push w g c bl):=by
 have hst:=eV (bl:=bl) (c:=c) hg hos htape hout hsz hb h1
 have hph:∀k,k<s.H.length→(s.push w g c bl).φ k=s.φ k:=fun k hk=>bw _ _ (by omega)
 have hlen:(s.push w g c bl).H.length=s.H.length+1:=by simp[St.push]
 have hlv:∀k,k<s.H.length→Lv (s.push w g c bl) k→Lv s k:=fun k hk hl=>⟨hk,fun e z xs fz hb'=>by
  have:=hl.2 e z xs fz (by simp only[St.push];rw[List.getElem?_append_left hk];exact hb')
  rwa [show(s.push w g c bl).κ k=s.κ k from bw _ _ (by omega)]at this⟩
 refine⟨fun b h=>Nat.lt_of_lt_of_le (hg.fl b h) hsz,fun k hk=>?_,fun j k hj hk e=>?_,fun k b hk=>?_⟩
 ·by_cases hkl:k<s.H.length
  ·rw[hph k hkl];exact⟨Nat.lt_of_lt_of_le (hg.lt k (hlv k hkl hk)).1 hsz,(hg.lt k (hlv k hkl hk)).2⟩
  ·obtain rfl:k=s.H.length:=by have:=hk.1;omega
   simp only[St.push,ae];exact⟨h2,fun hF=>by have:=hg.fl g hF;omega⟩
 ·by_cases hjl:j<s.H.length<;>by_cases hkl:k<s.H.length
  ·rw[hph j hjl,hph k hkl]at e;exact hg.inj j k (hlv j hjl hj) (hlv k hkl hk) e
  ·obtain rfl:k=s.H.length:=by have:=hk.1;omega
   rw[hph j hjl]at e;simp only[St.push,ae]at e;have:=(hg.lt j (hlv j hjl hj)).1;omega
  ·obtain rfl:j=s.H.length:=by have:=hj.1;omega
   rw[hph k hkl]at e;simp only[St.push,ae]at e;have:=(hg.lt k (hlv k hkl hk)).1;omega
  ·have:=hk.1;have:=hj.1;omega
 ·by_cases hkl:k<s.H.length
  ·have hk':s.H[k]?=some b:=by simp only[St.push]at hk;rwa [List.getElem?_append_left hkl]at hk
   exact(hg.blk k b hk').step hst hk' (hph k hkl) (bw _ _ (by omega)) (fun hl=>hb _ (hg.lt k hl).1)
  ·have hkl':=aE hk
   obtain rfl:k=s.H.length:=by omega
   simp only[St.push,List.getElem?_append_right (Nat.le_refl _),Nat.sub_self,List.getElem?_cons_zero,Option.some.injEq]at hk;subst hk;exact hbl hst
theorem iA{s:St}{w:World}{g e z:Nat}{fz:Bool}{k:Nat}(h:Lv (s.push w g 0 (.buf e z [] fz)) k):Lv s k:=by
 by_cases hk:k<s.H.length
 ·refine⟨hk,fun e' z' xs' fz' hb'=>?_⟩;have:=h.2 e' z' xs' fz' (by simp only[St.push];rw[List.getElem?_append_left hk];exact hb')
  rwa [show(s.push w g 0 (.buf e z [] fz)).κ k=s.κ k from bw _ _ (by omega)]at this
 ·have:=h.1;simp[St.push]at this
  obtain rfl:k=s.H.length:=by omega
  exact absurd (ae _ _ _) (h.2 e z [] fz (by simp[St.push]))
theorem nI{s:St}(hg:Good s){w:World}(g e z:Nat)(fz:Bool)(hos:w.os=s.w.os)(htape:w.tape=s.w.tape)(hout:w.output=s.w.output)(hsz:s.w.heap.size≤w.heap.size)
  (hb:∀b,b<s.w.heap.size→w.heap[b]?=s.w.heap[b]?):Good (s.push w g 0 (.buf e z [] fz))∧Step s (s.push w g 0 (.buf e z [] fz)):=by
 have hph:∀k,Lv (s.push w g 0 (.buf e z [] fz)) k→(s.push w g 0 (.buf e z [] fz)).φ k=s.φ k:=fun k hk=>bw _ _ (by have:=(iA hk).1;omega)
 have hst:Step s (s.push w g 0 (.buf e z [] fz)):=⟨rfl,hos,htape,hout,hsz,fun b h _=>hb b h,by simp[St.push],fun k h2 h3=>absurd h2 (by have:=(iA h3).1;omega),fun k b hk=>by
  have hkl:=aE hk
  have hk':(s.push w g 0 (.buf e z [] fz)).H[k]?=some b:=by simp only[St.push];rw[List.getElem?_append_left hkl];exact hk
  have e1:(s.push w g 0 (.buf e z [] fz)).φ k=s.φ k:=bw _ _ (by omega);have e2:(s.push w g 0 (.buf e z [] fz)).κ k=s.κ k:=bw _ _ (by omega)
  cases b with
  | cells cs=>exact⟨e1,cs,hk'⟩
  | map kk es=>exact⟨e1,es,hk'⟩
  | buf e z xs fz=>exact⟨xs,fz,hk',Nat.le_refl _,fun _=>⟨e1,e2⟩,fun hf=>⟨hf,rfl,fun hz=>hb _ (hg.lt k (lvB hk hz)).1⟩,.inl e1,fun hz=>.inl (by rw[e2];exact hz)⟩⟩
 refine⟨⟨fun b h=>Nat.lt_of_lt_of_le (hg.fl b h) hsz,fun k hk=>?_,fun j k hj hk e=>?_,fun k b hk=>?_⟩,hst⟩
 ·rw[hph k hk];exact⟨Nat.lt_of_lt_of_le (hg.lt k (iA hk)).1 hsz,(hg.lt k (iA hk)).2⟩
 ·rw[hph j hj,hph k hk]at e;exact hg.inj j k (iA hj) (iA hk) e
 ·by_cases hkl:k<s.H.length
  ·have hk':s.H[k]?=some b:=by simp only[St.push]at hk;rwa [List.getElem?_append_left hkl]at hk
   exact(hg.blk k b hk').step hst hk' (bw _ _ (by omega)) (bw _ _ (by omega)) (fun hl=>hb _ (hg.lt k hl).1)
  ·have hkl':=aE hk;simp[St.push]at hkl'
   obtain rfl:k=s.H.length:=by omega
   simp only[St.push,List.getElem?_append_right (Nat.le_refl _),Nat.sub_self,List.getElem?_cons_zero,Option.some.injEq]at hk;subst hk;have e2:(s.push w g 0 (.buf e z [] fz)).κ s.H.length=0:=ae _ _ _;exact⟨#[],fun h=>absurd e2 h,by rw[e2];simp,by rw[e2];simp,by rw[e2];simp[maxLen],(fun x hx=>by cases hx),(fun i x j c u hx=>by simp at hx)⟩
def St.setB(s:St)(w:World)(k:Nat)(bl:B):St:=⟨s.F,w,s.φ,s.κ,s.H.set k bl⟩
def B.alike:B→B→Prop
 | .cells _,.cells _=>True
 | .map kk _,.map kk' _=>kk=kk'
 | .buf e z xs fz,.buf e' z' xs' fz'=>e=e'∧z=z'∧xs.length=xs'.length∧fz=false∧fz'=false
 | _,_=>False
theorem setB_lv{s:St}{w:World}{k:Nat}{bl bl':B}(hk:s.H[k]?=some bl)(ha:B.alike bl bl'){i:Nat}(h:Lv (s.setB w k bl') i):Lv s i:=by
 have hil:i<s.H.length:=by have:=h.1;simpa[St.setB] using this
 refine⟨hil,fun e z xs fz hb=>?_⟩;by_cases hik:i=k
 ·subst hik;rw[hk]at hb;cases hb;cases bl'<;>simp only[B.alike]at ha;exact h.2 _ _ _ _ (by simp only[St.setB];rw[List.getElem?_set_self hil])
 ·exact h.2 e z xs fz (by simp only[St.setB];rw[List.getElem?_set_ne (Ne.symm hik)];exact hb)
theorem bq{s:St}(hg:Good s){w:World}{k:Nat}{bl bl':B}(hk:s.H[k]?=some bl)(hlk:Lv s k)(ha:B.alike bl bl')(hos:w.os=s.w.os)(htape:w.tape=s.w.tape)(hout:w.output=s.w.output)(hsz:s.w.heap.size≤w.heap.size)
  (hb:∀b,b<s.w.heap.size→b≠s.φ k→w.heap[b]?=s.w.heap[b]?):Step s (s.setB w k bl') where
 F:=rfl
 os:=hos
 tape:=htape
 output:=hout
 size:=hsz
 out b h hn:=hb b h (fun e=>hn k hlk e.symm)
 len:=by simp[St.setB]
 new i h2 h3:=absurd h2 (by have:=h3.1;simp[St.setB]at this;omega)
 keep i b hi:=by
  have hil:=aE hi;by_cases hik:i=k
  ·subst hik;rw[hk]at hi;cases hi
   have hk':(s.setB w i bl').H[i]?=some bl':=by simp[St.setB,hil]
   cases bl<;>cases bl'<;>simp only[B.alike]at ha
   ·exact⟨rfl,_,hk'⟩
   ·subst ha;exact⟨rfl,_,hk'⟩
   ·obtain⟨rfl,rfl,hl,rfl,rfl⟩:=ha;exact⟨_,_,hk',Nat.le_of_eq hl,fun _=>⟨rfl,rfl⟩,(fun h=>by cases h),.inl rfl,.inl⟩
  ·have hk':(s.setB w k bl').H[i]?=some b:=by simp only[St.setB];rw[List.getElem?_set_ne (Ne.symm hik)];exact hi
   cases b with
   | cells cs=>exact⟨rfl,cs,hk'⟩
   | map kk es=>exact⟨rfl,es,hk'⟩
   | buf e z xs fz=>exact⟨xs,fz,hk',Nat.le_refl _,fun _=>⟨rfl,rfl⟩,fun hf=>⟨hf,rfl,fun hz=>hb _ (hg.lt i (lvB hi hz)).1 (fun e=>hik (hg.inj i k (lvB hi hz) hlk e))⟩,.inl rfl,.inl⟩
theorem cH{s:St}(hg:Good s){w:World}{k:Nat}{bl bl':B}(hk:s.H[k]?=some bl)(hlk:Lv s k)(ha:B.alike bl bl')(hos:w.os=s.w.os)(htape:w.tape=s.w.tape)(hout:w.output=s.w.output)(hsz:s.w.heap.size≤w.heap.size)
  (hb:∀b,b<s.w.heap.size→b≠s.φ k→w.heap[b]?=s.w.heap[b]?) (hbl:Step s (s.setB w k bl')→BRel (s.setB w k bl') k bl'):Good (s.setB w k bl'):=by
 have hst:=bq (bl':=bl') hg hk hlk ha hos htape hout hsz hb;refine⟨fun b h=>Nat.lt_of_lt_of_le (hg.fl b h) hsz,fun i hi=>?_,fun i j hi hj e=>hg.inj i j (setB_lv hk ha hi) (setB_lv hk ha hj) e,fun i b hi=>?_⟩
 ·have:=hg.lt i (setB_lv hk ha hi);exact⟨Nat.lt_of_lt_of_le this.1 hsz,this.2⟩
 ·by_cases hik:i=k
  ·subst hik
   have:(s.setB w i bl').H[i]?=some bl':=by simp[St.setB,aE hk]
   rw[this]at hi;cases hi;exact hbl hst
  ·have hi':s.H[i]?=some b:=by simp only[St.setB]at hi;rwa [List.getElem?_set_ne (Ne.symm hik)]at hi
   exact(hg.blk i b hi').step hst hi' rfl rfl (fun hl=>hb _ (hg.lt i hl).1 (fun e=>hik (hg.inj i k hl hlk e)))
end Go.AM
namespace Go.AM
open Go
structure TI where
 desc:TypeDesc
 size:Nat
 bytes:Nat
 zero:V
 zval:Value
 kk:Option KK:=none
 eq:Bool:=false
 pa:Bool:=false
abbrev Ty:=Nat→Option TI
def ow:Value→Option V
 | .bool b=>some (.bool b)
 | .int k n=>some (.int k n)
 | .string s=>some (.str s)
 | .slice none 0 0=>some .nilS
 | .pointer none=>some .nilP
 | .map none=>some .nilM
 | .nilFunc=>some .nilFn
 | _=>none
def jO:List Value→Option (List V)
 | []=>some []
 | v::r=>match ow v,jO r with
  | some x,some xs=>some (x::xs)
  | _,_=>none
def jB:Value→Option V
 | .agg cs=>(jO cs.toList).map .agg
 | v=>ow v
def ei:V→Value
 | .int k n=>.int k n
 | .str x=>.string x
 | .bool b=>.bool b
 | _=>.nilFunc
def dZ:V→Value
 | .agg cs=>.agg (cs.map ei).toArray
 | v=>ei v
def eqIs:List V→List V→Bool
 | [],[]=>true
 | .int _ a::r,.int _ b::q=>a == b&&eqIs r q
 | _,_=>false
def cA:V→V→Bool
 | .int _ a,.int _ b=>a == b
 | .str a,.str b=>a == b
 | .bool a,.bool b=>a == b
 | .agg cs,.agg ds=>eqIs cs ds
 | _,_=>false
def fu(k:V):List (V×V)→Nat→Option (Nat×V)
 | [],_=>none
 | p::r,i=>if cA k p.1 then some (i,p.2) else fu k r (i+1)
structure KLaw (P:Program) (t:TypeId) (kk:KK):Prop where
 check:∀(w:World) (em:Bool) (v:V),bA v=some kk→(Instr.checkKey em 10000 t (dZ v)).run P w = .ok () w
 find:∀(w:World) (v:V) (ks:List V) (es:List MapEntry),bA v=some kk→(∀k∈ks,bA k=some kk)→es.map (·.key)=ks.map dZ →
  ∃r,(Instr.findKey t (dZ v) es).run P w = .ok r w∧((r=none∧∀k∈ks,cA v k=false)∨
   ∃i k e,r=some (i,e.val)∧ks[i]?=some k∧es[i]?=some e∧cA v k=true∧∀j k',j<i→ks[j]?=some k'→cA v k'=false)
structure TOk (P:Program) (T:Ty):Prop where
 eq:∀t i,T t=some i→i.eq=true→P.stoodInHeld t=false∧P.eqGuardType P.depth t=false
 key:∀t i kk,T t=some i→i.kk=some kk→KLaw P t kk
 und:∀t i,T t=some i→P.underlying t=some i.desc
 info:∀t i,T t=some i→∃inf,P.info? t=some inf∧inf.size=i.size∧inf.bytes=i.bytes∧inf.zero=some i.zval∧jB i.zval=some i.zero∧i.zero.cells.length=i.size
def aU(fr:List V):Operand→V
 | .tmp t=>(fr[t]?).getD .undef
 | .const v=>(jB v).getD .undef
 | .func f=>.fn f []
 | .global _=>.undef
def dU:TypeDesc→Bool
 | .struct _ | .array _ _=>true
 | _=>false
def jc(T:Ty)(t:TypeId)(cs:List V)(off:Nat):Option V :=
 match T t with
 | some i=>if dU i.desc then(if off+i.size≤cs.length then some (.agg ((cs.drop off).take i.size)) else none) else cs[off]?
 | none=>none
def pI(T:Ty)(H:List B)(t:TypeId):V→Option V
 | .ptr k off=>match H[k]? with
  | some (.cells cs)=>jc T t cs off
  | _=>none
 | .pin cs off=>jc T t cs off
 | .pbuf k i off tot=>match H[k]? with
  | some (.buf _ _ xs _)=>if xs.length=tot then(match xs[i]? with
   | some x=>jc T t x.cells off
   | none=>none) else none
  | _=>none
 | _=>none
def bW(cs:List V)(off:Nat)(new:List V):List V:=cs.take off++new++cs.drop (off+new.length)
def jy(old:V)(cs:List V):V :=
 match old with
 | .agg _=>.agg cs
 | _=>cs.headD .undef
def storeA(T:Ty)(H:List B)(t:TypeId)(a v:V):Option (List B):=
 match T t with
 | none=>none
 | some i =>
  if v.cells.length=i.size∧v.cells.all V.one=true then
   match a with
   | .ptr k off=>match H[k]? with
    | some (.cells cs)=>if off+v.cells.length≤cs.length then some (H.set k (.cells (bW cs off v.cells))) else none
    | _=>none
   | .pbuf k i off tot=>match H[k]? with
    | some (.buf e z xs false)=>if xs.length=tot then(match xs[i]? with
     | some x=>if off+v.cells.length≤x.cells.length then some (H.set k (.buf e z (xs.set i (jy x (bW x.cells off v.cells))) false)) else none
     | none=>none) else none
    | _=>none
   | _=>none
  else none
def binA(op:BinOp):V→V→Option V
 | .int k a,.int k' b =>
  match op with
  | .shl=>if 0≤b then some (.int k (k.wrap (a*2^min b.toNat k.bits))) else none
  | .shr=>if 0≤b then some (.int k (a.fdiv (2^min b.toNat k.bits))) else none
  | _=>if k=k' then
   match op with
   | .add=>some (.int k (k.wrap (a+b)))
   | .sub=>some (.int k (k.wrap (a-b)))
   | .mul=>some (.int k (k.wrap (a*b)))
   | .quo=>if b=0 then none else some (.int k (k.wrap (a.tdiv b)))
   | .rem=>if b=0 then none else some (.int k (a.tmod b))
   | .and=>some (.int k (k.wrap (BitVec.ofInt k.bits a &&& BitVec.ofInt k.bits b).toNat))
   | .or=>some (.int k (k.wrap (BitVec.ofInt k.bits a ||| BitVec.ofInt k.bits b).toNat))
   | .xor=>some (.int k (k.wrap (BitVec.ofInt k.bits a ^^^ BitVec.ofInt k.bits b).toNat))
   | .andNot=>some (.int k (k.wrap (BitVec.ofInt k.bits a &&& ~~~ BitVec.ofInt k.bits b).toNat))
   | .eql=>some (.bool (a == b))
   | .neq=>some (.bool (a != b))
   | .lss=>some (.bool (decide (a<b)))
   | .leq=>some (.bool (decide (a≤b)))
   | .gtr=>some (.bool (decide (a > b)))
   | .geq=>some (.bool (decide (a≥b)))
   | _=>none
   else none
 | .str a,.str b =>
  match op with
  | .eql=>some (.bool (a.toList == b.toList))
  | .neq=>some (.bool (!(a.toList == b.toList)))
  | .lss=>some (.bool (Op.bytesLess a.toList b.toList))
  | .leq=>some (.bool (Op.bytesLess a.toList b.toList||a.toList == b.toList))
  | .gtr=>some (.bool (!(Op.bytesLess a.toList b.toList||a.toList == b.toList)))
  | .geq=>some (.bool (!(Op.bytesLess a.toList b.toList)))
  | .add=>if a.size+b.size≤9223372036854775807 then some (.str (a++b)) else none
  | _=>none
 | _,_=>none
def unA(op:UnOp):V→Option V
 | .int k n=>match op with
  | .neg=>some (.int k (k.wrap (0-n)))
  | .xor=>some (.int k (k.wrap (BitVec.ofInt k.bits (if k.signed then -1 else k.max) ^^^ BitVec.ofInt k.bits n).toNat))
  | _=>none
 | .bool b=>match op with
  | .not=>some (.bool !b)
  | _=>none
 | _=>none
def fieldA(T:Ty)(s f:Nat):Option Field :=
 match T s with
 | some i=>match i.desc with
  | .struct fields=>match fields[f]? with
   | some fd=>match T fd.type with
    | some j=>if j.size=0 then none else some fd
    | none=>none
   | none=>none
  | _=>none
 | none=>none
def iq(T:Ty)(s f:Nat)(x:V):Option V :=
 match fieldA T s f with
 | some fd=>match x with
  | .ptr k off=>some (.ptr k (off+fd.offset))
  | .pin cs off=>some (.pin cs (off+fd.offset))
  | .pbuf k i off tot=>some (.pbuf k i (off+fd.offset) tot)
  | _=>none
 | none=>none
def io(T:Ty)(H:List B)(t:TypeId)(x ix:V):Option V :=
 match T t,ix with
 | some i,.int _ n =>
  if 0≤n then
   match i.desc with
   | .slice e=>match T e with
    | some j=>match x with
     | .lst z _ xs=>if z=j.size then(match xs[n.toNat]? with
      | some v=>some (.pin v.cells 0)
      | none=>none) else none
     | .buf k off len tot=>match H[k]? with
      | some (.buf _ z xs _)=>if xs.length=tot∧z=j.size∧n<len then some (.pbuf k (off+n.toNat) 0 tot) else none
      | _=>none
     | _=>none
    | none=>none
   | .array len e=>match T e with
    | some j=>match x with
     | .ptr k off=>if n<len then some (.ptr k (off+n.toNat*j.size)) else none
     | _=>none
    | none=>none
   | _=>none
  else none
 | _,_=>none
def indexA(T:Ty)(t:TypeId)(x ix:V):Option V :=
 match T t,x,ix with
 | some i,.str s,.int _ n=>match i.desc with
  | .string=>if 0≤n then(match s[n.toNat]? with
   | some b=>some (.int .u8 b.toNat)
   | none=>none) else none
  | _=>none
 | some i,.agg cs,.int _ n=>match i.desc with
  | .array len e=>match T e with
   | some j=>if 0≤n∧n<len then jc T e cs (n.toNat*j.size) else none
   | none=>none
  | _=>none
 | _,_,_=>none
def lc(T:Ty)(s f:Nat)(x:V):Option V :=
 match T s,x with
 | some i,.agg cs=>match i.desc with
  | .struct fields=>match fields[f]? with
   | some fd=>jc T fd.type cs fd.offset
   | none=>none
  | _=>none
 | _,_=>none
def lenA(T:Ty)(H:List B)(t:TypeId)(x:V):Option V :=
 match T t with
 | some i=>match i.desc,x with
  | .string,.str s=>some (.int .i64 s.size)
  | .slice _,.lst _ _ xs=>some (.int .i64 xs.length)
  | .slice _,.nilS=>some (.int .i64 0)
  | .slice _,.buf k _ len tot=>match H[k]? with
   | some (.buf _ _ xs _)=>if xs.length=tot then some (.int .i64 len) else none
   | _=>none
  | .map _ _,.nilM=>some (.int .i64 0)
  | .map _ _,.map k=>match H[k]? with
   | some (.map _ es)=>some (.int .i64 es.length)
   | _=>none
  | _,_=>none
 | none=>none
def max2A:V→V→Option V
 | .int k x,.int _ y=>some (.int k (if y > x then y else x))
 | _,_=>none
def min2A:V→V→Option V
 | .int k x,.int _ y=>some (.int k (if y<x then y else x))
 | _,_=>none
def foldA(f:V→V→Option V):V→List V→Option V
 | x,[]=>some x
 | x,y::r=>match f x y with
  | some z=>foldA f z r
  | none=>none
def jT(f:V→V→Option V):List V→Option V
 | []=>none
 | x::r=>foldA f x r
end Go.AM
namespace Go.AM
open Go
section
variable {P:Program} {T:Ty} {s:St}
theorem kY{v:Value}{x:V}(h:ow v=some x):Rel s x v∧x.one=true:=by
 unfold ow at h
 split at h<;>cases h<;>first
  | exact⟨.bool _,rfl⟩ | exact⟨.int _ _,rfl⟩ | exact⟨.str _,rfl⟩ | exact⟨.nilS,rfl⟩ | exact⟨.nilP,rfl⟩ | exact⟨.nilM,rfl⟩ | exact⟨.nilFn,rfl⟩
theorem kX:∀{vs:List Value} {xs:List V},jO vs=some xs→vs.length=xs.length∧(∀x∈xs,x.one=true)∧∀(i:Nat) x v,xs[i]?=some x→vs[i]?=some v→Rel s x v
 | [],xs,h=>by simp[jO]at h;subst h;simp
 | v::r,xs,h=>by
  simp only[jO]at h;split at h
  ·rename_i x ys hx hys;cases h;obtain⟨h1,h2,h3⟩:=kX hys;obtain⟨hr,ho⟩:=kY (s:=s) hx;refine⟨by simp[h1],by simp[ho];exact h2,fun i=>?_⟩
   cases i with
   | zero=>intro a b ha hb;simp at ha hb;subst ha;subst hb;exact hr
   | succ i=>intro a b ha hb;exact h3 i a b (by simpa using ha) (by simpa using hb)
  ·cases h
theorem dN{v:Value}{x:V}(h:jB v=some x):Rel s x v:=by
 unfold jB at h;split at h
 ·rename_i cs
  cases hv:jO cs.toList with
  | none=>rw[hv]at h;cases h
  | some xs =>
   rw[hv]at h;cases h;obtain⟨h1,h2,h3⟩:=kX (s:=s) hv;exact .agg xs cs (by simpa using h1) h2 (fun i c u hc hu=>h3 i c u hc (by simpa using hu))
 ·exact(kY h).1
theorem Rel.oneCell{c:V}{x:Value}(h:Rel s c x)(h1:c.one=true):x.oneCell'=true:=by
 cases h<;>simp_all [V.one,Value.oneCell']
theorem Rel.cells{v:V}{u:Value}(h:Rel s v u)(h1:v.cells.all V.one=true):u.cells.size=v.cells.length∧(∀(i:Nat) c x,v.cells[i]?=some c→u.cells[i]?=some x→Rel s c x)∧∀x∈u.cells.toList,x.oneCell'=true:=by
 have single:∀{v:V} {u:Value},v.cells=[v]→u.cells = #[u]→v.cells.all V.one=true→Rel s v u→u.cells.size=v.cells.length∧(∀(i:Nat) c x,v.cells[i]?=some c→u.cells[i]?=some x→Rel s c x)∧∀x∈u.cells.toList,x.oneCell'=true:=by
  intro v u e1 e2 ho hr;rw[e1]at ho;simp only[List.all_cons,List.all_nil,Bool.and_true]at ho;rw[e1,e2];refine⟨rfl,fun i c x hc hx=>?_,fun x hx=>?_⟩
  ·cases i with
   | zero=>simp at hc hx;subst hc;subst hx;exact hr
   | succ i=>simp at hc
  ·simp at hx;subst hx;exact hr.oneCell ho
 cases h with
 | agg cs us hl ho hh =>
  refine⟨hl,hh,fun x hx=>?_⟩;obtain⟨i,hi⟩:=List.getElem?_of_mem hx
  have hlt:i<cs.length:=by have:=(List.getElem?_eq_some_iff.1 hi).1;simp[Value.cells]at this;omega
  have hc:cs[i]?=some cs[i]:=List.getElem?_eq_getElem hlt;exact(hh i _ x hc (by simpa[Value.cells] using hi)).oneCell (ho _ (List.getElem_mem hlt))
 | undef u=>simp[V.cells,V.one]at h1
 | tup vs us hl hh=>simp[V.cells,V.one]at h1
 | bool b=>exact single rfl rfl h1 (.bool b)
 | int k n=>exact single rfl rfl h1 (.int k n)
 | str x=>exact single rfl rfl h1 (.str x)
 | nilS=>exact single rfl rfl h1 .nilS
 | lst z full xs A cap b off u a1 a2 a3 a4 a5 a6=>exact single rfl rfl h1 (.lst z full xs A cap b off u a1 a2 a3 a4 a5 a6)
 | buf k off len tot e z xs fz A l c a1 a2 a3=>exact single rfl rfl h1 (.buf k off len tot e z xs fz A l c a1 a2 a3)
 | nilP=>exact single rfl rfl h1 .nilP
 | ptr k off cs hk=>exact single rfl rfl h1 (.ptr k off cs hk)
 | pin cs off b o u a1 a2 a3 a4=>exact single rfl rfl h1 (.pin cs off b o u a1 a2 a3 a4)
 | pbuf k i off tot e z xs fz p a1 a2 a3=>exact single rfl rfl h1 (.pbuf k i off tot e z xs fz p a1 a2 a3)
 | sarr k n cs hk=>exact single rfl rfl h1 (.sarr k n cs hk)
 | nilM=>exact single rfl rfl h1 .nilM
 | map k kk es hk=>exact single rfl rfl h1 (.map k kk es hk)
 | fn f caps us hl hh=>exact single rfl rfl h1 (.fn f caps us hl hh)
 | nilFn=>exact single rfl rfl h1 .nilFn
theorem av(hT:TOk P T){t:TypeId}{i:TI}(h:T t=some i)(w:World):(sizeOf t).run P w = .ok i.size w:=by
 obtain⟨inf,h1,h2,_⟩:=hT.info t i h;simp[sizeOf,typeInfo,h1,h2]
theorem jr(hT:TOk P T){t:TypeId}{i:TI}(h:T t=some i)(w:World):(isAgg t).run P w = .ok (dU i.desc) w:=by
 simp only[isAgg,Sem.run_bind,run_underlying (hT.und t i h),Result.andThen_ok];cases i.desc<;>simp[dU]
theorem gZ(hT:TOk P T){t:TypeId}{i:TI}(h:T t=some i)(w:World):(zeroValue t).run P w = .ok i.zval w:=by
 obtain⟨inf,h1,h2,h3,h4,_⟩:=hT.info t i h;simp[zeroValue,typeInfo,h1,h4]
theorem cL(b o j:Nat):(⟨b,o,none⟩:Addr).add j=⟨b,o+j,none⟩:=by unfold Addr.add;split<;>simp_all
theorem mq(hT:TOk P T){t:TypeId}{cs:List V}{off b o:Nat}{v:V}(h1:∀c∈cs,c.one=true)
  (hc:∀j c,cs[off+j]?=some c→∃x,s.w.cell? ⟨b,o+j,none⟩=some x∧Rel s c x) (h:jc T t cs off=some v):
  ∃u,(loadVar t ⟨b,o,none⟩).run P s.w = .ok u s.w∧Rel s v u:=by
 unfold jc at h;split at h
 ·rename_i i hi;split at h
  ·rename_i ha;split at h
   ·rename_i hle;cases h
    have hex:∀j,∃x,j<i.size→s.w.cell? ⟨b,o+j,none⟩=some x∧∀c,cs[off+j]?=some c→Rel s c x:=fun j=>by
     by_cases hj:j<i.size
     ·have e:cs[off+j]?=some (cs[off+j]'(by omega)):=List.getElem?_eq_getElem (by omega);obtain⟨x,hx,hr⟩:=hc j _ e;exact⟨x,fun _=>⟨hx,fun c hc'=>by rw[e]at hc';cases hc';exact hr⟩⟩
     ·exact⟨.nilFunc,fun h=>absurd h hj⟩
    obtain⟨f,hf⟩:=Classical.axiomOfChoice hex;refine⟨.agg ((List.range i.size).map f).toArray,?_,?_⟩
    ·have hl:=run_loadCells (P:=P) s.w ⟨b,o,none⟩ i.size f (fun j hj=>by rw[cL];exact(hf j hj).1);simp[loadVar,jr hT hi,ha,av hT hi,hl]
    ·refine .agg _ _ (by simp;omega) (fun c hc'=>h1 c (List.mem_of_mem_drop (List.mem_of_mem_take hc'))) (fun j c u hc' hu=>?_)
     have hj:j<i.size:=by have:=(List.getElem?_eq_some_iff.1 hc').1;simp at this;omega
     rw[List.getElem?_take,if_pos hj,List.getElem?_drop]at hc'
     have:u=f j:=by simp[hj]at hu;exact hu.symm
     subst this;exact(hf j hj).2 c hc'
   ·cases h
  ·rename_i ha;obtain⟨x,hx,hr⟩:=hc 0 v (by simpa using h);refine⟨x,?_,hr⟩;simp only[Nat.add_zero]at hx;simp[loadVar,jr hT hi,ha,hx]
 ·cases h
theorem blk_cells(hg:Good s){k:Nat}{cs:List V}(hk:s.H[k]?=some (.cells cs)):(∀c∈cs,c.one=true)∧∀j c,cs[j]?=some c→∃x,s.w.cell? ⟨s.φ k,j,none⟩=some x∧Rel s c x:=by
 obtain⟨h1,vs,t,h2,h3,h4⟩:=hg.blk k _ hk;refine⟨h1,fun j c hc=>?_⟩
 have hj:j<vs.size:=by have:=aE hc;omega
 have e:vs[j]?=some vs[j]:=by simp[hj]
 refine⟨vs[j],?_,h4 j c _ hc e⟩;simp[World.cell?,h2,hj]
theorem iz(hg:Good s){k e z:Nat}{xs:List V}{fz:Bool}(hk:s.H[k]?=some (.buf e z xs fz)){i:Nat}{x:V}(hx:xs[i]?=some x):
  (∀c∈x.cells,c.one=true)∧x.cells.length=z∧∀j c,x.cells[j]?=some c→∃u,s.w.cell? ⟨s.φ k,i*z+j,none⟩=some u∧Rel s c u:=by
 obtain⟨vs,h2,h3,h4,h5,h6,h7⟩:=hg.blk k _ hk;have hm:=List.mem_of_getElem? hx;refine⟨(h6 x hm).2,(h6 x hm).1,fun j c hc=>?_⟩;have hj:=aE hc;have hi:=aE hx
 have hlt:i*z+j<vs.size:=by
  rw[h3];have:(i+1)*z≤s.κ k*z:=Nat.mul_le_mul_right _ (by omega);rw[Nat.add_mul]at this;have:=(h6 x hm).1;omega
 have e:vs[i*z+j]?=some vs[i*z+j]:=by simp[hlt]
 refine⟨vs[i*z+j],?_,h7 i x j c _ hx hc e⟩;simp[World.cell?,h2 (by omega),hlt]
theorem pH(hT:TOk P T)(hg:Good s){t:TypeId}{a v:V}{ua:Value}(ha:Rel s a ua)(h:pI T s.H t a=some v):
  ∃u,(Instr.loadAt t ua).run P s.w = .ok u s.w∧Rel s v u:=by
 cases ha<;>simp only[pI]at h<;>try (cases h;done)
 case ptr k off cs hk =>
  rw[hk]at h;simp only at h;obtain⟨h1,h2⟩:=blk_cells hg hk;obtain⟨u,hu,hr⟩:=mq hT (b:=s.φ k) (o:=off) h1 (fun j c hc=>h2 _ c hc) h;exact⟨u,by simp[Instr.loadAt,Instr.sureAddr,hu],hr⟩
 case pin cs off b o u hp h1 hcell hrel =>
  obtain⟨u,hu,hr⟩:=mq hT (b:=b) (o:=o) h1 (fun j c hc=>⟨_,hcell j c hc,hrel j c hc⟩) h;exact⟨u,by simp[Instr.loadAt,Instr.sureAddr,hu],hr⟩
 case pbuf k i off tot e z xs fz p hk ht hh =>
  rw[hk]at h;simp only at h;split at h
  ·rename_i hl;split at h
   ·rename_i x hx;obtain⟨h1,h2,h3⟩:=iz hg hk hx;have hp:=hh hl.symm;subst hp;obtain⟨u,hu,hr⟩:=mq hT (b:=s.φ k) (o:=i*z+off) h1 (fun j c hc=>by have:=h3 _ c hc;rwa [←Nat.add_assoc]at this) h;exact⟨u,by simp[Instr.loadAt,Instr.sureAddr,hu],hr⟩
   ·cases h
  ·cases h
theorem bm{α:Type}(cs:List α)(off:Nat)(new:List α)(h:off+new.length≤cs.length)(j:Nat):
  (cs.take off++new++cs.drop (off+new.length))[j]?=if off≤j∧j<off+new.length then new[j-off]? else cs[j]?:=by
 have hl:(cs.take off).length=off:=by simp;omega
 by_cases h1:j<off
 ·rw[if_neg (by omega),List.append_assoc,List.getElem?_append_left (by omega),List.getElem?_take,if_pos h1]
 ·by_cases h2:j<off+new.length
  ·rw[if_pos (by omega),List.append_assoc,List.getElem?_append_right (by omega),hl,List.getElem?_append_left (by omega)]
  ·rw[if_neg (by omega),List.getElem?_append_right (by simp;omega),List.getElem?_drop];congr 1;simp;omega
theorem dt(cs:List V)(off:Nat)(new:List V)(h:off+new.length≤cs.length):(bW cs off new).length=cs.length:=by simp[bW];omega
theorem fY{cs:List V}{off:Nat}{new:List V}{c:V}(hc:c∈bW cs off new):c∈cs∨c∈new:=by
 simp only[bW,List.mem_append]at hc
 rcases hc with(h | h) | h
 ·exact .inl (List.mem_of_mem_take h)
 ·exact .inr h
 ·exact .inl (List.mem_of_mem_drop h)
theorem ofCells_cells{x:V}{cs:List V}(hx:∀c∈x.cells,c.one=true)(hl:cs.length=x.cells.length)(h1:∀c∈cs,c.one=true):(jy x cs).cells=cs:=by
 have single:x.cells=[x]→(∀xs,x≠.agg xs)→(jy x cs).cells=cs:=fun e hne=>by
  rw[e]at hl
  match cs,hl with
  | [c],_ =>
   have hc:=h1 c (by simp)
   have:jy x [c]=c:=by cases x<;>first | rfl | exact absurd rfl (hne _)
   rw[this];cases c<;>simp_all [V.one,V.cells]
 cases x with
 | agg xs=>rfl
 | _=>exact single rfl (by intro _ h;cases h)
theorem store_sound(hT:TOk P T)(hg:Good s){t:TypeId}{a v:V}{ua uv:Value}{H':List B}(ha:Rel s a ua)(hv:Rel s v uv)(h:storeA T s.H t a v=some H'):
  ∃s',(Instr.storeAt t ua uv).run P s.w = .ok () s'.w∧s'.H=H'∧Good s'∧Step s s':=by
 unfold storeA at h;split at h
 ·cases h
 ·rename_i i hi;split at h
  ·rename_i hsz;obtain⟨hsz,hone⟩:=hsz;obtain⟨c1,c2,c3⟩:=hv.cells hone
   have hone':∀c∈v.cells,c.one=true:=by simpa using hone
   have hrun:∀(b o:Nat) (vs:Array Value) (e:TypeId),s.w.heap[b]?=some (.cells vs e (0,0))→o+v.cells.length≤vs.size →
     (Instr.storeAt t (.pointer (some ⟨b,o,none⟩)) uv).run P s.w = .ok () (s.w.setRow b (vs.toList.take o++uv.cells.toList++vs.toList.drop (o+uv.cells.toList.length)).toArray):=fun b o vs e hb hle=>by
    have:=run_storeCells_at (P:=P) b o e uv.cells.toList 0 vs s.w hb (by simp only[Array.length_toList,Nat.add_zero];omega) c3;simp only[Nat.add_zero]at this;simp[Instr.storeAt,Instr.sureAddr,storeVar,av hT hi,c1,hsz,this]
   cases ha<;>simp only at h<;>try (cases h;done)
   case ptr k off cs hk =>
    rw[hk]at h;simp only at h;split at h
    ·rename_i hle;cases h;obtain⟨h1,vs,e,h2,h3,h4⟩:=hg.blk k _ hk;refine⟨s.setB _ k (.cells (bW cs off v.cells)),hrun (s.φ k) off vs e h2 (by omega),rfl,?_,?_⟩
     ·refine cH hg hk (lvC hk) trivial rfl rfl rfl (by simp) (fun b _ hne=>setRow_other _ _ _ _ hne) (fun hst=>?_);refine⟨fun c hc=>?_,_,e,setRow_heap _ _ _ _ _ _ h2,?_,fun j c u hc hu=>?_⟩
      ·rcases fY hc with h | h
       ·exact h1 c h
       ·exact hone' c h
      ·rw[dt cs off _ hle];simp;omega
      ·rw[bW,bm cs off v.cells hle]at hc
       have hu':(vs.toList.take off++uv.cells.toList++vs.toList.drop (off+uv.cells.toList.length))[j]?=some u:=by simpa using hu
       rw[bm vs.toList off uv.cells.toList (by simp;omega)]at hu';simp only[Array.length_toList,c1]at hu';split at hc
       ·rename_i hj;rw[if_pos hj]at hu';exact(c2 (j-off) c u hc (by simpa using hu')).step hst
       ·rename_i hj;rw[if_neg hj]at hu';exact(h4 j c u hc (by simpa using hu')).step hst
     ·exact bq hg hk (lvC hk) trivial rfl rfl rfl (by simp) (fun b _ hne=>setRow_other _ _ _ _ hne)
    ·cases h
   case pbuf k i' off tot e z xs fz p hk ht hh =>
    rw[hk]at h;cases fz
    ·simp only at h;split at h
     ·rename_i hl;split at h
      ·rename_i x hx;split at h
       ·rename_i hle;cases h;have hp:=hh hl.symm;subst hp;obtain⟨vs,h2,h3,h4,h5,h6,h7⟩:=hg.blk k _ hk;have hxm:=h6 x (List.mem_of_getElem? hx);have hil:=aE hx;have hlk:=lvB hk (show s.κ k≠0 by omega);have h2:=h2 (by omega);have hlen:(bW x.cells off v.cells).length=x.cells.length:=dt _ _ _ hle
        have hcs:∀c∈bW x.cells off v.cells,c.one=true:=fun c hc=>by
         rcases fY hc with h | h
         ·exact hxm.2 c h
         ·exact hone' c h
        have hcell:=ofCells_cells (x:=x) hxm.2 hlen hcs;have hb:(i'+1)*z≤s.κ k*z:=Nat.mul_le_mul_right _ (by omega);rw[Nat.add_mul,Nat.one_mul]at hb
        have hle2:i'*z+off+v.cells.length≤vs.size:=by omega
        have hal:B.alike (.buf e z xs false) (.buf e z (xs.set i' (jy x (bW x.cells off v.cells))) false):=⟨rfl,rfl,by simp,rfl,rfl⟩;refine⟨s.setB _ k _,hrun (s.φ k) (i'*z+off) vs e h2 hle2,rfl,?_,?_⟩
        ·refine cH hg hk hlk hal rfl rfl rfl (by simp) (fun b _ hne=>setRow_other _ _ _ _ hne) (fun hst=>?_);refine⟨_,fun _=>setRow_heap _ _ _ _ _ _ h2,?_,by simpa[St.setB] using h4,h5,fun y hy=>?_,fun m y j c u hy hc hu=>?_⟩
         ·simp only[St.setB];rw[←h3];simp;omega
         ·rcases List.mem_or_eq_of_mem_set hy with hy | rfl
          ·exact h6 y hy
          ·rw[hcell];exact⟨by omega,hcs⟩
         ·have hu':(vs.toList.take (i'*z+off)++uv.cells.toList++vs.toList.drop (i'*z+off+uv.cells.toList.length))[m*z+j]?=some u:=by simpa using hu
          rw[bm vs.toList _ uv.cells.toList (by simp;omega)]at hu';simp only[Array.length_toList,c1]at hu';by_cases hm:m=i'
          ·subst hm;rw[List.getElem?_set_self hil]at hy;cases hy;rw[hcell,bW,bm x.cells off v.cells hle]at hc;split at hc
           ·rename_i hj;rw[if_pos (by omega)]at hu';exact(c2 (j-off) c u hc (by rw[show m*z+j-(m*z+off)=j-off by omega]at hu';simpa using hu')).step hst
           ·rename_i hj;rw[if_neg (by omega)]at hu';exact(h7 m x j c u hx hc (by simpa using hu')).step hst
          ·rw[List.getElem?_set_ne (Ne.symm hm)]at hy;have hyz:=(h6 y (List.mem_of_getElem? hy)).1;have hjl:=aE hc
           have hno:¬(i'*z+off≤m*z+j∧m*z+j<i'*z+off+v.cells.length):=by
            rintro⟨q1,q2⟩
            rcases Nat.lt_or_ge m i' with hlt | hge
            ·have:(m+1)*z≤i'*z:=Nat.mul_le_mul_right _ (by omega);rw[Nat.add_mul]at this;omega
            ·have:(i'+1)*z≤m*z:=Nat.mul_le_mul_right _ (by omega);rw[Nat.add_mul]at this;omega
           rw[if_neg hno]at hu';exact(h7 m y j c u hy hc (by simpa using hu')).step hst
        ·exact bq hg hk hlk hal rfl rfl rfl (by simp) (fun b _ hne=>setRow_other _ _ _ _ hne)
       ·cases h
      ·cases h
     ·cases h
    ·cases h
  ·cases h
end
end Go.AM
namespace Go.AM
open Go
section
variable {P:Program} {T:Ty} {s:St}
theorem ec(w:World)(o:Obj):(w.alloc o).heap[w.heap.size]?=some o:=heap_alloc_new w o
theorem eb(w:World)(o:Obj)(b:Nat)(h:b<w.heap.size):(w.alloc o).heap[b]?=w.heap[b]?:=heap_alloc_old w o h
theorem cells_new(hg:Good s){v:V}{u:Value}(hv:Rel s v u)(h1:v.cells.all V.one=true)(e c:Nat):
  Good (s.push (s.w.alloc (.cells u.cells e)) s.w.heap.size c (.cells v.cells))∧Step s (s.push (s.w.alloc (.cells u.cells e)) s.w.heap.size c (.cells v.cells)):=by
 obtain⟨c1,c2,c3⟩:=hv.cells h1;have ho:=eb s.w (.cells u.cells e);refine⟨fS hg rfl rfl rfl (by simp) ho (Nat.le_refl _) (by simp) (fun hst=>?_),eV hg rfl rfl rfl (by simp) ho (Nat.le_refl _)⟩;refine⟨by simpa using h1,u.cells,e,?_,c1,fun i c x hc hx=>(c2 i c x hc hx).step hst⟩;simp only[St.push,ae];exact ec _ _
theorem push_ptr(w:World)(g c:Nat)(cs:List V)(off:Nat):Rel (s.push w g c (.cells cs)) (.ptr s.H.length off) (.pointer (some ⟨g,off,none⟩)):=by
 have:=Rel.ptr (s:=s.push w g c (.cells cs)) s.H.length off cs (by simp[St.push]);simpa only[St.push,ae] using this
def boxA(H:List B)(v:V):Option (V×List B):=if v.cells.all V.one=true then some (.ptr H.length 0,H++[.cells v.cells]) else none
theorem box_sound(hg:Good s){v r:V}{u:Value}{H':List B}{elem:TypeId}(hv:Rel s v u)(h:boxA s.H v=some (r,H')):
  ∃u' s',(Instr.box elem u).run P s.w = .ok u' s'.w∧s'.H=H'∧Good s'∧Step s s'∧Rel s' r u':=by
 unfold boxA at h;split at h
 ·rename_i h1;cases h;obtain⟨g1,g2⟩:=cells_new hg hv h1 elem 0;exact⟨_,_,by simp[Instr.box,newVar,newRow,St.push],rfl,g1,g2,push_ptr _ _ _ _ 0⟩
 ·cases h
def allocA(T:Ty)(H:List B)(t:TypeId):Option (V×List B):=
 match T t with
 | some i=>boxA H i.zero
 | none=>none
theorem alloc_sound(hT:TOk P T)(hg:Good s){r:V}{H':List B}{t:TypeId}(h:allocA T s.H t=some (r,H')):
  ∃u' s',(Instr.alloc t true (.tuple #[])).run P s.w = .ok u' s'.w∧s'.H=H'∧Good s'∧Step s s'∧Rel s' r u':=by
 unfold allocA at h;split at h
 ·rename_i i hi;obtain⟨inf,_,_,_,_,hz,_⟩:=hT.info t i hi;obtain⟨u',s',h1,h2⟩:=box_sound (P:=P) (elem:=t) hg (dN hz) h;refine⟨u',s',?_,h2⟩;rw[←h1];simp[Instr.alloc,gZ hT hi,Instr.box]
 ·cases h
def gw:V→Value
 | .int k n=>.int k n
 | .bool b=>.bool b
 | .str x=>.string x
 | _=>.nilFunc
theorem bin_sound{op:BinOp}{t:TypeId}{x y r:V}{ux uy:Value}{ox oy:Operand}(hx:Rel s x ux)(hy:Rel s y uy)(h:binA op x y=some r):
  ∃u,(do eqGuard op t ox oy ux uy;binOp op t ux uy:Sem Value).run P s.w = .ok u s.w∧Rel s r u:=by
 refine⟨gw r,?_⟩
 cases hx<;>simp only[binA]at h<;>try (cases h;done)
 case int k a =>
  cases hy<;>simp only at h<;>try (cases h;done)
  case int k' b =>
   have hgd:(eqGuard op t ox oy (.int k a) (.int k' b)).run P s.w = .ok () s.w:=by unfold eqGuard;cases op<;>simp
   cases op<;>simp only at h<;>(first | (split at h) | skip)<;>(first | (cases h;done) | skip)
   all_goals (first | (split at h) | skip)<;>(first | (cases h;done) | skip)
   all_goals
    cases h;refine⟨?_,?_⟩
    ·simp only[Sem.run_bind,hgd,Result.andThen_ok]
     simp_all [binOp,Op.shift,Op.intArith,Op.intDiv,Op.intBits,Op.intCmp,gw]
     try omega
    ·first | exact .int _ _ | exact .bool _
 case str a =>
  cases hy<;>simp only at h<;>try (cases h;done)
  case str b =>
   have hgd:(eqGuard op t ox oy (.string a) (.string b)).run P s.w = .ok () s.w:=by unfold eqGuard;cases op<;>simp
   cases op<;>simp only at h<;>(first | (split at h) | skip)<;>(first | (cases h;done) | skip)
   all_goals
    cases h;refine⟨?_,?_⟩
    ·simp only[Sem.run_bind,hgd,Result.andThen_ok]
     simp_all [binOp,Op.stringOp,gw,IntKind.max,IntKind.signed,IntKind.bits]
     try omega
    ·first | exact .str _ | exact .bool _
theorem un_sound{op:UnOp}{x r:V}{ux:Value}(hx:Rel s x ux)(h:unA op x=some r):∃u,(Op.unary op ux).run P s.w = .ok u s.w∧Rel s r u:=by
 refine⟨gw r,?_⟩
 cases hx<;>simp only[unA]at h<;>try (cases h;done)
 case int k a =>
  cases op<;>simp only at h<;>(first | (cases h;done) | skip)
  all_goals
   cases h;exact⟨by simp[Op.unary,Op.intArith,Op.intBits,gw],.int _ _⟩
 case bool b =>
  cases op<;>simp only at h<;>(first | (cases h;done) | skip);cases h;exact⟨by simp[Op.unary,gw],.bool _⟩
theorem nf(hT:TOk P T){st f:Nat}{x r:V}{ux:Value}(hx:Rel s x ux)(h:iq T st f x=some r):∃u,(Instr.fieldAt st ux f).run P s.w = .ok u s.w∧Rel s r u:=by
 unfold iq at h;split at h
 ·rename_i fd hf
  have hrun0:∀p:Addr,(Instr.fieldAt st (.pointer (some p)) f).run P s.w = .ok (.pointer (some (p.add fd.offset))) s.w:=fun p=>by
   unfold fieldA at hf;split at hf
   ·rename_i i hi;split at hf
    ·rename_i fields hd;split at hf
     ·rename_i fd' hfd;split at hf
      ·rename_i j hj;split at hf
       ·cases hf
       ·rename_i hne;cases hf;have hu:=hT.und st i hi;rw[hd]at hu;simp[Instr.fieldAt,run_underlying hu,hfd,Instr.sureAddr,fieldPlace,av hT hj,hne]
      ·cases hf
     ·cases hf
    ·cases hf
   ·cases hf
  have hrun:∀b o,(Instr.fieldAt st (.pointer (some ⟨b,o,none⟩)) f).run P s.w = .ok (.pointer (some ⟨b,o+fd.offset,none⟩)) s.w:=fun b o=>by rw[hrun0,cL]
  cases hx<;>simp only at h<;>try (cases h;done)
  case ptr k off cs hk=>cases h;exact⟨_,hrun _ _,.ptr k _ cs hk⟩
  case pin cs off b o u hp h1 hcell hrel =>
   cases h;exact⟨_,hrun _ _,.pin cs _ b _ (fun j=>u (fd.offset+j)) hp h1 (fun j c hc=>by rw[Nat.add_assoc];exact hcell _ c (by rwa [Nat.add_assoc]at hc)) (fun j c hc=>hrel _ c (by rwa [Nat.add_assoc]at hc))⟩
  case pbuf k i off tot e z xs fz p hk ht hh =>
   cases h;exact⟨_,hrun0 p,.pbuf k i _ tot e z xs fz _ hk ht (fun he=>by rw[hh he,cL,Nat.add_assoc])⟩
 ·cases h
theorem eW(hT:TOk P T){t:TypeId}{cs:List V}{us:Array Value}{off:Nat}{v:V}(hl:us.size=cs.length)(h1:∀c∈cs,c.one=true)(hr:∀(i:Nat) c u,cs[i]?=some c→us[i]?=some u→Rel s c u)
  (h:jc T t cs off=some v):∃u,(part t us off).run P s.w = .ok u s.w∧Rel s v u:=by
 unfold jc at h;split at h
 ·rename_i i hi;split at h
  ·rename_i ha;split at h
   ·rename_i hle;cases h;refine⟨.agg (us.extract off (off+i.size)),by simp[part,jr hT hi,ha,av hT hi],?_⟩;refine .agg _ _ (by simp;omega) (fun c hc=>h1 c (List.mem_of_mem_drop (List.mem_of_mem_take hc))) (fun j c u hc hu=>?_)
    have hj:j<i.size:=by have:=(List.getElem?_eq_some_iff.1 hc).1;simp at this;omega
    rw[List.getElem?_take,if_pos hj,List.getElem?_drop]at hc;refine hr (off+j) c u hc ?_;rw[Array.getElem?_extract]at hu;split at hu
    ·exact hu
    ·cases hu
   ·cases h
  ·rename_i ha;have hlt:=aE h
   have e:us[off]?=some us[off]:=by simp[hl,hlt]
   exact⟨us[off],by simp[part,jr hT hi,ha,e],hr off v _ h e⟩
 ·cases h
theorem field_sound(hT:TOk P T){st f:Nat}{x r:V}{ux:Value}(hx:Rel s x ux)(h:lc T st f x=some r):∃u,(Instr.field st ux f).run P s.w = .ok u s.w∧Rel s r u:=by
 unfold lc at h;split at h
 ·rename_i i cs hi
  cases hx with
  | agg _ us hl h1 hr =>
   split at h
   ·rename_i fields hd;have hu:=hT.und st i hi;rw[hd]at hu;split at h
    ·rename_i fd hfd;obtain⟨u,h2,h3⟩:=eW hT hl h1 hr h;exact⟨u,by simp[Instr.field,run_underlying hu,hfd,asAgg,h2],h3⟩
    ·cases h
   ·cases h
 ·cases h
theorem index_sound(hT:TOk P T){t:TypeId}{x ix r:V}{ux ui:Value}(hx:Rel s x ux)(hi:Rel s ix ui)(h:indexA T t x ix=some r):∃u,(Instr.index t ux ui).run P s.w = .ok u s.w∧Rel s r u:=by
 unfold indexA at h;split at h
 ·rename_i i st kk n ht;cases hx;cases hi;have hu:=hT.und t i ht;split at h
  ·rename_i hd;rw[hd]at hu;split at h
   ·rename_i hn;split at h
    ·rename_i b hb;cases h;exact⟨.int .u8 b.toNat,by simp[Instr.index,asIntOf,run_underlying hu,hn,hb],.int _ _⟩
    ·cases h
   ·cases h
  ·cases h
 ·rename_i i cs kk n ht;cases hi
  cases hx with
  | agg _ us hl h1 hr =>
   have hu:=hT.und t i ht;split at h
   ·rename_i len e hd;rw[hd]at hu;split at h
    ·rename_i j hj;split at h
     ·rename_i hn;obtain⟨u,h2,h3⟩:=eW hT hl h1 hr h;exact⟨u,by simp[Instr.index,asIntOf,run_underlying hu,hn,av hT hj,h2],h3⟩
     ·cases h
    ·cases h
   ·cases h
 ·cases h
theorem nc(hT:TOk P T)(hg:Good s){t:TypeId}{x ix r:V}{ux ui:Value}(hx:Rel s x ux)(hi:Rel s ix ui)(h:io T s.H t x ix=some r):∃u,(Instr.indexAt t ux ui).run P s.w = .ok u s.w∧Rel s r u:=by
 unfold io at h;split at h
 ·rename_i i kk n ht;cases hi;split at h
  ·rename_i hn0;split at h
   ·rename_i e hd;have hu:=hT.und t i ht;rw[hd]at hu;split at h
    ·rename_i j hj
     cases hx<;>simp only at h<;>try (cases h;done)
     case lst z full xs A cap b off u hcap hfull hA hz hcell hrel =>
      split at h
      ·rename_i hsz;split at h
       ·rename_i v hv;cases h;have hlt:=aE hv;obtain⟨rfl,hp⟩:=hA (by omega);obtain⟨hz1,hz2⟩:=hz v (List.mem_of_getElem? hv)
        have hlt':n<(xs.length:Int):=by omega
        refine⟨.pointer (some ⟨b,off+n.toNat*j.size,none⟩),?_,?_⟩
        ·simp[Instr.indexAt,asIntOf,run_underlying hu,hn0,hlt',av hT hj,cL]
        ·refine .pin v.cells 0 b _ (fun m=>u n.toNat m) hp hz2 (fun m c hc=>?_) (fun m c hc=>hrel _ v m c hv (by simpa using hc));rw[←hsz];exact hcell _ v m c hv (by simpa using hc)
       ·cases h
      ·cases h
     case buf k off len tot e' z xs fz A l c hk htot hh =>
      rw[hk]at h;simp only at h;split at h
      ·rename_i hc;obtain⟨hc1,hc2,hc3⟩:=hc;cases h;obtain⟨hA,rfl,h3,h4⟩:=hh hc1.symm;obtain⟨_,_,_,hk4,_⟩:=hg.blk k _ hk;have hA:=hA (by omega);subst hA;refine⟨.pointer (some ⟨s.φ k,off*z+n.toNat*j.size,none⟩),?_,?_⟩
       ·simp[Instr.indexAt,asIntOf,run_underlying hu,hn0,hc3,av hT hj,cL]
       ·exact .pbuf k _ 0 tot e' z xs fz _ hk htot (fun _=>by rw[hc2,Nat.add_mul];rfl)
      ·cases h
    ·cases h
   ·rename_i len e hd;have hu:=hT.und t i ht;rw[hd]at hu;split at h
    ·rename_i j hj
     cases hx<;>simp only at h<;>try (cases h;done)
     case ptr k off cs hk =>
      split at h
      ·rename_i hlt;cases h;refine⟨.pointer (some ⟨s.φ k,off+n.toNat*j.size,none⟩),?_,.ptr k _ cs hk⟩;simp[Instr.indexAt,asIntOf,run_underlying hu,hn0,hlt,av hT hj,cL,Instr.sureAddr]
      ·cases h
    ·cases h
   ·cases h
  ·cases h
 ·cases h
theorem len_sound(hT:TOk P T)(hg:Good s){t:TypeId}{x r:V}{ux:Value}{ty:TypeId}(hx:Rel s x ux)(h:lenA T s.H t x=some r):∃u,(Builtin.len_ #[t] ty #[ux]).run P s.w = .ok u s.w∧Rel s r u:=by
 unfold lenA at h;split at h
 ·rename_i i ht;have hu:=hT.und t i ht;generalize i.desc=d at hu h;refine⟨gw r,?_⟩;split at h
  ·cases hx;cases h;exact⟨by simp[Builtin.len_,run_underlying hu,gw,goInt],.int _ _⟩
  ·cases hx;cases h;exact⟨by simp[Builtin.len_,run_underlying hu,gw,goInt],.int _ _⟩
  ·cases hx;cases h;exact⟨by simp[Builtin.len_,run_underlying hu,gw,goInt],.int _ _⟩
  ·rename_i k off len tot
   cases hx with
   | buf _ _ _ _ e z xs fz A l c hk htot hh =>
    rw[hk]at h;simp only at h;split at h
    ·rename_i he;cases h;obtain⟨_,rfl,_⟩:=hh he.symm;exact⟨by simp[Builtin.len_,run_underlying hu,gw,goInt],.int _ _⟩
    ·cases h
  ·cases hx;cases h;exact⟨by simp[Builtin.len_,run_underlying hu,gw,goInt],.int _ _⟩
  ·cases hx with
   | map _ kk es hk =>
    rw[hk]at h;cases h;obtain⟨_,ms,cl,h2,h3,_⟩:=hg.blk _ _ hk;exact⟨by simp[Builtin.len_,run_underlying hu,gw,goInt,MapKept.run_getObj_map h2,h3],.int _ _⟩
  ·cases h
 ·cases h
theorem kj{f:V→V→Option V}{g:Value→Value→Sem Value}(hf:∀{x y r:V} {ux uy:Value},Rel s x ux→Rel s y uy→f x y=some r→∃u,(g ux uy).run P s.w = .ok u s.w∧Rel s r u):
  ∀{ys:List V} {uys:List Value} {x r:V} {ux:Value},Rel s x ux→ys.length=uys.length→(∀(i:Nat) y u,ys[i]?=some y→uys[i]?=some u→Rel s y u)→foldA f x ys=some r→∃u,(uys.foldlM g ux).run P s.w = .ok u s.w∧Rel s r u
 | [],[],x,r,ux,hx,_,_,h=>by simp[foldA]at h;subst h;exact⟨ux,by simp,hx⟩
 | y::ys,uy::uys,x,r,ux,hx,hl,hr,h=>by
  simp only[foldA]at h;split at h
  ·rename_i z hz;obtain⟨u,h1,h2⟩:=hf hx (hr 0 y uy rfl rfl) hz;obtain⟨u',h3,h4⟩:=kj hf h2 (by simpa using hl) (fun i a b ha hb=>hr (i+1) a b (by simpa using ha) (by simpa using hb)) h;exact⟨u',by simp[List.foldlM_cons,h1,h3],h4⟩
  ·cases h
theorem max2_sound{x y r:V}{ux uy:Value}(hx:Rel s x ux)(hy:Rel s y uy)(h:max2A x y=some r):∃u,(Builtin.max2 ux uy).run P s.w = .ok u s.w∧Rel s r u:=by
 cases hx<;>simp only[max2A]at h<;>try (cases h;done)
 cases hy<;>simp only at h<;>try (cases h;done)
 cases h;exact⟨_,by simp[Builtin.max2],.int _ _⟩
theorem min2_sound{x y r:V}{ux uy:Value}(hx:Rel s x ux)(hy:Rel s y uy)(h:min2A x y=some r):∃u,(Builtin.min2 ux uy).run P s.w = .ok u s.w∧Rel s r u:=by
 cases hx<;>simp only[min2A]at h<;>try (cases h;done)
 cases hy<;>simp only at h<;>try (cases h;done)
 cases h;exact⟨_,by simp[Builtin.min2],.int _ _⟩
end
end Go.AM
namespace Go.AM
open Go
structure CRel (s:St) (cs:List V) (us:Array Value):Prop where
 len:us.size=cs.length
 one:∀c∈cs,c.one=true
 rel:∀(i:Nat) c u,cs[i]?=some c→us[i]?=some u→Rel s c u
def la(place:Nat→Option (Nat×Nat))(cells:List V):List (Nat×V)→Option (List V)
 | []=>some cells
 | (i,v)::rest =>
  match place i with
  | none=>none
  | some (off,size)=>if v.cells.length=size∧off+size≤cells.length∧v.cells.all V.one=true then la place (bW cells off v.cells) rest else none
theorem foldl_set(off:Nat):∀(l:List (Value×Nat)) (k:Nat) (us:Array Value),(∀i p,l[i]?=some p→p.2=k+i)→off+k+l.length≤us.size →
  (l.foldl (fun cs (c,j)=>cs.setIfInBounds (off+j) c) us).toList=us.toList.take (off+k)++l.map (·.1)++us.toList.drop (off+k+l.length)
 | [],k,us,_,_=>by simp
 | (c,j)::l,k,us,h,hl=>by
  have hj:j=k:=by have:=h 0 (c,j) rfl;simpa using this
  subst hj;simp only[List.length_cons]at hl;rw[List.foldl_cons,foldl_set off l (j+1) (us.setIfInBounds (off+j) c) (fun i p hp=>by have:=h (i+1) p (by simpa using hp);omega) (by simp;omega)];simp only[Array.toList_setIfInBounds,List.map_cons,List.length_cons]
  have h1:off+j<us.toList.length:=by simp;omega
  have e1:(us.toList.set (off+j) c).take (off+(j+1))=us.toList.take (off+j)++[c]:=by
   apply List.ext_getElem?;intro i;rw[List.getElem?_take];by_cases hi:i<off+j
   ·rw[if_pos (by omega),List.getElem?_set_ne (by omega),List.getElem?_append_left (by simp;omega),List.getElem?_take,if_pos hi]
   ·by_cases hi2:i=off+j
    ·subst hi2
     have e0:off+j-(us.toList.take (off+j)).length=0:=by rw[List.length_take];omega
     rw[if_pos (by omega),List.getElem?_set_self h1,List.getElem?_append_right (by rw[List.length_take];omega),e0];rfl
    ·rw[if_neg (by omega),List.getElem?_append_right (by simp;omega)];rw[List.getElem?_eq_none];simp;omega
  have e2:(us.toList.set (off+j) c).drop (off+(j+1)+l.length)=us.toList.drop (off+j+(l.length+1)):=by
   rw[List.drop_set,if_pos (by omega)];congr 1;omega
  rw[e1,e2];simp[List.append_assoc]
def jP(off:Nat)(us:Array Value)(u:Value):Array Value:=u.cells.zipIdx.foldl (fun cs (c,j)=>cs.setIfInBounds (off+j) c) us
section
variable {P:Program} {T:Ty} {s:St}
theorem fill_step(off:Nat)(us:Array Value)(nv:Array Value)(h:off+nv.size≤us.size):
  (nv.zipIdx.foldl (fun cs (c,j)=>cs.setIfInBounds (off+j) c) us).toList=us.toList.take off++nv.toList++us.toList.drop (off+nv.size):=by
 rw[←Array.foldl_toList]
 have:=foldl_set off nv.zipIdx.toList 0 us (fun i p hp=>by
  rw[Array.getElem?_toList,Array.getElem?_zipIdx]at hp
  cases hn:nv[i]? with
  | none=>rw[hn]at hp;cases hp
  | some a=>rw[hn]at hp;cases hp;simp) (by simp;omega)
 simpa[Function.comp_def] using this
theorem crel_splice{cs:List V}{us:Array Value}(hc:CRel s cs us){off:Nat}{v:V}{u:Value}(hv:Rel s v u)(h1:v.cells.all V.one=true)(hle:off+v.cells.length≤cs.length):
  CRel s (bW cs off v.cells) (us.toList.take off++u.cells.toList++us.toList.drop (off+u.cells.size)).toArray:=by
 obtain⟨c1,c2,c3⟩:=hv.cells h1;have hl:=hc.len;refine⟨by rw[dt _ _ _ hle];simp;omega,fun c hm=>?_,fun j c x hcj hx=>?_⟩
 ·rcases fY hm with h | h
  ·exact hc.one c h
  ·simpa using List.all_eq_true.1 h1 c h
 ·rw[bW,bm cs off v.cells hle]at hcj
  have hx':(us.toList.take off++u.cells.toList++us.toList.drop (off+u.cells.toList.length))[j]?=some x:=by simpa using hx
  rw[bm us.toList off u.cells.toList (by simp;omega)]at hx';simp only[Array.length_toList,c1]at hx';split at hcj
  ·rename_i hj;rw[if_pos hj]at hx';exact c2 _ c x hcj (by simpa using hx')
  ·rename_i hj;rw[if_neg hj]at hx';exact hc.rel j c x hcj (by simpa using hx')
theorem kn{place:Nat→Option (Nat×Nat)} : ∀{parts:List (Nat×V)} {uparts:List (Nat×Value)} {cs cs':List V} {us:Array Value},CRel s cs us→parts.length=uparts.length →
  (∀(i:Nat) p u,parts[i]?=some p→uparts[i]?=some u→p.1=u.1∧Rel s p.2 u.2)→la place cs parts=some cs'→∃us',Instr.fill place us uparts=some us'∧CRel s cs' us'
 | [],[],cs,cs',us,hc,_,_,h=>by simp[la]at h;subst h;exact⟨us,rfl,hc⟩
 | (i,v)::parts,(i',u)::uparts,cs,cs',us,hc,hl,hr,h=>by
  obtain⟨e0,hv⟩:=hr 0 (i,v) (i',u) rfl rfl;simp only at e0 hv;subst e0;simp only[la]at h;split at h
  ·cases h
  ·rename_i off size hp;split at h
   ·rename_i hcond;obtain⟨e1,e2,e3⟩:=hcond;obtain⟨c1,_,_⟩:=hv.cells e3;have hlen:=hc.len;have hsp:=crel_splice hc hv e3 (off:=off) (by omega)
    obtain⟨us',h1,h2⟩:=kn (place:=place) (us:=jP off us u) (uparts:=uparts) (by
     have e:=fill_step off us u.cells (by omega)
     have:jP off us u=(us.toList.take off++u.cells.toList++us.toList.drop (off+u.cells.size)).toArray:=by
      apply Array.ext';simpa[jP] using e
     rw[this];exact hsp) (by simpa using hl) (fun j p q hp hq=>hr (j+1) p q (by simpa using hp) (by simpa using hq)) h
    refine⟨us',?_,h2⟩;rw[Instr.fill,hp];simp only[show ¬(u.cells.size≠size) by omega,show ¬(off+u.cells.size > us.size) by omega,decide_false,Bool.or_false];exact h1
   ·cases h
def jx(T:Ty):List Field→Option (List (Nat×Nat))
 | []=>some []
 | f::fs=>match T f.type,jx T fs with
  | some i,some r=>some ((f.offset,i.size)::r)
  | _,_=>none
def buildA(T:Ty)(t:TypeId)(parts:List (Nat×V)):Option V :=
 match T t with
 | some it=>match it.desc with
  | .struct fields=>match jx T fields.toList with
   | some places=>(la (fun i=>places[i]?) it.zero.cells parts).map .agg
   | none=>none
  | .array _ e=>match T e with
   | some j=>(la (fun i=>some (i*j.size,j.size)) it.zero.cells parts).map .agg
   | none=>none
  | _=>none
 | none=>none
theorem places_eq(hT:TOk P T):∀{fs:List Field} {ps:List (Nat×Nat)},jx T fs=some ps→fs.mapM (fun f=>(P.info? f.type).map fun i=>(f.offset,i.size))=some ps
 | [],ps,h=>by simp[jx]at h;subst h;rfl
 | f::fs,ps,h=>by
  simp only[jx]at h;split at h
  ·rename_i i r hi hr;cases h;obtain⟨inf,h1,h2,_⟩:=hT.info _ i hi;simp[List.mapM_cons,h1,h2,places_eq hT hr]
  ·cases h
theorem iD{v:Value}{x:V}(h:jB v=some x):x.cells.all V.one=true:=by
 unfold jB at h;split at h
 ·rename_i cs
  cases hv:jO cs.toList with
  | none=>rw[hv]at h;cases h
  | some xs=>rw[hv]at h;cases h;simpa[V.cells] using(kX (s:=⟨fun _=>False,default,id,id,[]⟩) hv).2.1
 ·have:=(kY (s:=⟨fun _=>False,default,id,id,[]⟩) h).2;cases x<;>simp_all [V.cells,V.one]
theorem crel_of{v:V}{u:Value}(hv:Rel s v u)(h1:v.cells.all V.one=true):CRel s v.cells u.cells :=
 ⟨(hv.cells h1).1,by simpa using h1,(hv.cells h1).2.1⟩
theorem crel_zero(hT:TOk P T){t:TypeId}{i:TI}(hi:T t=some i):CRel s i.zero.cells i.zval.cells:=by
 obtain⟨inf,_,_,_,_,h,_⟩:=hT.info t i hi;exact crel_of (dN h) (iD h)
theorem build_sound(hT:TOk P T){t:TypeId}{parts:List (Nat×V)}{uparts:Array (Nat×Value)}{r:V}(hl:parts.length=uparts.size)
  (hr:∀(i:Nat) p u,parts[i]?=some p→uparts[i]?=some u→p.1=u.1∧Rel s p.2 u.2) (h:buildA T t parts=some r):∃u,(Instr.build t uparts).run P s.w = .ok u s.w∧Rel s r u:=by
 unfold buildA at h
 have hl':parts.length=uparts.toList.length:=by simpa using hl
 have hr':∀(i:Nat) p u,parts[i]?=some p→uparts.toList[i]?=some u→p.1=u.1∧Rel s p.2 u.2:=fun i p u h1 h2=>hr i p u h1 (by simpa using h2)
 split at h
 ·rename_i it hit;obtain⟨inf,q1,q2,q3,q4,q5,q6⟩:=hT.info t it hit;have hu:=hT.und t it hit;have hz:=crel_zero (s:=s) hT hit;split at h
  ·rename_i fields hd;rw[hd]at hu;split at h
   ·rename_i places hp
    cases hf:la (fun i=>places[i]?) it.zero.cells parts with
    | none=>rw[hf]at h;cases h
    | some cs =>
     rw[hf]at h;cases h;obtain⟨us',h1,h2⟩:=kn hz hl' hr' hf;refine⟨.agg us',run_build s.w t uparts us' ?_,.agg cs us' h2.len h2.one h2.rel⟩;simp only[Program.built,q1,hu,q4,places_eq hT hp];simpa using h1
   ·cases h
  ·rename_i n e hd;rw[hd]at hu;split at h
   ·rename_i j hj;obtain⟨inf',p1,p2,_⟩:=hT.info e j hj
    cases hf:la (fun i=>some (i*j.size,j.size)) it.zero.cells parts with
    | none=>rw[hf]at h;cases h
    | some cs =>
     rw[hf]at h;cases h;obtain⟨us',h1,h2⟩:=kn hz hl' hr' hf;refine⟨.agg us',run_build s.w t uparts us' ?_,.agg cs us' h2.len h2.one h2.rel⟩;simp only[Program.built,q1,hu,q4,p1,p2];exact h1
   ·cases h
  ·cases h
 ·cases h
structure FRow (s:St) (z:Nat) (xs:List V) (us:Array Value):Prop where
 len:us.size=xs.length*z
 el:∀x∈xs,x.cells.length=z∧∀c∈x.cells,c.one=true
 rel:∀(i:Nat) x (j:Nat) c u,xs[i]?=some x→x.cells[j]?=some c→us[i*z+j]?=some u→Rel s c u
theorem FRow.at_{z:Nat}{xs:List V}{us:Array Value}(h:FRow s z xs us){i j:Nat}{x c:V}(hx:xs[i]?=some x)(hc:x.cells[j]?=some c):∃u,us[i*z+j]?=some u∧Rel s c u:=by
 have hi:=aE hx;have hj:=aE hc;have hz:=(h.el x (List.mem_of_getElem? hx)).1;have hb:(i+1)*z≤xs.length*z:=Nat.mul_le_mul_right _ (by omega);rw[Nat.add_mul]at hb
 have hlt:i*z+j<us.size:=by have:=h.len;omega
 have e:us[i*z+j]?=some us[i*z+j]:=by simp[hlt]
 exact⟨_,e,h.rel i x j c _ hx hc e⟩
def om(z:Nat)(xs:List V):List (Nat×V)→Option (List V)
 | []=>some xs
 | (i,v)::rest=>if v.cells.length=z∧i<xs.length∧v.cells.all V.one=true then om z (xs.set i v) rest else none
theorem frow_set{z:Nat}{xs:List V}{us:Array Value}(h:FRow s z xs us){i:Nat}{v:V}{u:Value}(hv:Rel s v u)(h1:v.cells.all V.one=true)(hz:v.cells.length=z)(hi:i<xs.length):
  FRow s z (xs.set i v) (jP (i*z) us u)∧i*z+u.cells.size≤us.size:=by
 obtain⟨c1,c2,c3⟩:=hv.cells h1;have hb:(i+1)*z≤xs.length*z:=Nat.mul_le_mul_right _ (by omega);rw[Nat.add_mul,Nat.one_mul]at hb;have hlen:=h.len
 have hle:i*z+u.cells.size≤us.size:=by omega
 have e:=fill_step (i*z) us u.cells hle
 have e':(jP (i*z) us u).toList=us.toList.take (i*z)++u.cells.toList++us.toList.drop (i*z+u.cells.toList.length):=by simpa[jP] using e
 have hsz:(jP (i*z) us u).size=us.size:=by
  have:=congrArg List.length e';simp at this;omega
 refine⟨⟨by simp[hsz,h.len],fun x hx=>?_,fun m x j c w hx hc hw=>?_⟩,hle⟩
 ·rcases List.mem_or_eq_of_mem_set hx with hx | rfl
  ·exact h.el x hx
  ·exact⟨hz,by simpa using h1⟩
 ·have hw':(jP (i*z) us u).toList[m*z+j]?=some w:=by simpa using hw
  rw[e',bm us.toList (i*z) u.cells.toList (by simpa using hle)]at hw';simp only[Array.length_toList]at hw';have hj:=aE hc;by_cases hm:m=i
  ·subst hm;rw[List.getElem?_set_self hi]at hx;cases hx;rw[if_pos (by omega),show m*z+j-m*z=j by omega]at hw';exact c2 j c w hc (by simpa using hw')
  ·rw[List.getElem?_set_ne (Ne.symm hm)]at hx;have hxz:=(h.el x (List.mem_of_getElem? hx)).1
   have hno:¬(i*z≤m*z+j∧m*z+j<i*z+u.cells.size):=by
    rintro⟨q1,q2⟩
    rcases Nat.lt_or_ge m i with hlt | hge
    ·have:(m+1)*z≤i*z:=Nat.mul_le_mul_right _ (by omega);rw[Nat.add_mul]at this;omega
    ·have:(i+1)*z≤m*z:=Nat.mul_le_mul_right _ (by omega);rw[Nat.add_mul]at this;omega
   rw[if_neg hno]at hw';exact h.rel m x j c w hx hc (by simpa using hw')
theorem ol{z:Nat} : ∀{parts:List (Nat×V)} {uparts:List (Nat×Value)} {xs xs':List V} {us:Array Value},FRow s z xs us→parts.length=uparts.length →
  (∀(i:Nat) p u,parts[i]?=some p→uparts[i]?=some u→p.1=u.1∧Rel s p.2 u.2)→om z xs parts=some xs' →
  ∃us',Instr.fill (fun i=>some (i*z,z)) us uparts=some us'∧FRow s z xs' us'∧xs'.length=xs.length
 | [],[],xs,xs',us,hc,_,_,h=>by simp[om]at h;subst h;exact⟨us,rfl,hc,rfl⟩
 | (i,v)::parts,(i',u)::uparts,xs,xs',us,hc,hl,hr,h=>by
  obtain⟨e0,hv⟩:=hr 0 (i,v) (i',u) rfl rfl;simp only at e0 hv;subst e0;simp only[om]at h;split at h
  ·rename_i hcond;obtain⟨e1,e2,e3⟩:=hcond;obtain⟨c1,_,_⟩:=hv.cells e3;obtain⟨f1,f2⟩:=frow_set hc hv e3 e1 e2;obtain⟨us',h1,h2,h3⟩:=ol f1 (by simpa using hl) (fun j p q hp hq=>hr (j+1) p q (by simpa using hp) (by simpa using hq)) h;refine⟨us',?_,h2,by simpa using h3⟩;rw[Instr.fill];simp only[show ¬(u.cells.size≠z) by omega,show ¬(i*z+u.cells.size > us.size) by omega,decide_false,Bool.or_false];exact h1
  ·cases h
theorem frow_zeros{z n:Nat}{x:V}{u:Value}(hv:Rel s x u)(h1:x.cells.all V.one=true)(hz:x.cells.length=z)(us:Array Value)(hsz:us.size=n*z)(hat:∀i,i<n*z→us[i]?=u.cells[i % u.cells.size]?):
  FRow s z (List.replicate n x) us:=by
 obtain⟨c1,c2,c3⟩:=hv.cells h1;refine⟨by simpa using hsz,fun y hy=>?_,fun i y j c w hy hc hw=>?_⟩
 ·rw[List.eq_of_mem_replicate hy];exact⟨hz,by simpa using h1⟩
 ·have hy':=List.eq_of_mem_replicate (List.mem_of_getElem? hy);subst hy'
  have hi:i<n:=by have:=aE hy;simpa using this
  have hj:=aE hc;have hb:(i+1)*z≤n*z:=Nat.mul_le_mul_right _ (by omega);rw[Nat.add_mul]at hb;rw[hat _ (by omega),c1,hz,show(i*z+j) % z=j by rw[Nat.mul_comm,Nat.mul_add_mod];exact Nat.mod_eq_of_lt (by omega)]at hw;exact c2 j c w hc hw
def gU(T:Ty)(t:TypeId)(len:Nat)(parts:List (Nat×V)):Option V :=
 match T t with
 | some it=>match it.desc with
  | .slice e=>match T e with
   | some j=>if len*j.size≤16777216∧0<j.size then
     if len=0 then(if parts.isEmpty then some (.lst j.size true []) else none)
     else(om j.size (List.replicate len j.zero) parts).map (.lst j.size true) else none
   | none=>none
  | _=>none
 | none=>none
theorem frow_lst{z:Nat}{xs:List V}{us:Array Value}{g c:Nat}{full:Bool}{e:TypeId}(h:FRow s z xs us)(hg:s.w.heap[g]?=some (.cells us e (0,0)))(hp:s.Prot g)(hc:xs.length≤c)(hf:full=true→c=xs.length):
  Rel s (.lst z full xs) (.slice (some ⟨g,0,none⟩) xs.length c):=by
 refine .lst z full xs _ c g 0 (fun i j=>(us[i*z+j]?).getD undef) hc hf (fun _=>⟨rfl,hp⟩) h.el (fun i x j d hx hd=>?_) (fun i x j d hx hd=>?_)
 ·obtain⟨u,hu,_⟩:=h.at_ hx hd;rw[hu];simp only[Nat.zero_add,Option.getD_some];simp[World.cell?,hg,hu]
 ·obtain⟨u,hu,hr⟩:=h.at_ hx hd;rw[hu];exact hr
theorem FRow.step{s':St}(hs:Step s s'){z:Nat}{xs:List V}{us:Array Value}(h:FRow s z xs us):FRow s' z xs us :=
 ⟨h.len,h.el,fun i x j c u a b d=>(h.rel i x j c u a b d).step hs⟩
theorem prot_new(hg:Good s)(o:Obj):(s.at (s.w.alloc o)).Prot s.w.heap.size :=
 ⟨by simp[St.at],fun h=>by have:=hg.fl _ h;omega,fun k hk e=>by have:=(hg.lt k hk).1;simp only[St.at]at e;omega⟩
theorem zeros_at(u:Value)(n:Nat)(hpos:0<u.cells.size):∀i,i<n→((Array.range n).map (u.cells[· % u.cells.size]!))[i]?=u.cells[i % u.cells.size]?:=fun i hi=>by
 have:i % u.cells.size<u.cells.size:=Nat.mod_lt _ hpos;simp[hi,this]
theorem dO(z:Nat)(full:Bool)(A:Option Addr)(c:Nat)(hf:full=true→c=0):Rel s (.lst z full []) (.slice A 0 c):=
 Rel.lst z full [] A c 0 0 (fun _ _=>undef) (Nat.zero_le _) hf (fun h=>absurd h (by simp)) (fun x hx=>absurd hx (by simp)) (fun i x j d hx=>by simp at hx) (fun i x j d hx=>by simp at hx)
theorem nB(hT:TOk P T)(hg:Good s){t:TypeId}{len:Nat}{parts:List (Nat×V)}{uparts:Array (Nat×Value)}{r:V}(hl:parts.length=uparts.size)
  (hr:∀(i:Nat) p u,parts[i]?=some p→uparts[i]?=some u→p.1=u.1∧Rel s p.2 u.2) (h:gU T t len parts=some r):
  ∃u s',(Instr.buildSlice t len uparts).run P s.w = .ok u s'.w∧s'.H=s.H∧Good s'∧Step s s'∧Rel s' r u:=by
 unfold gU at h
 have hl':parts.length=uparts.toList.length:=by simpa using hl
 have hr':∀(i:Nat) p u,parts[i]?=some p→uparts.toList[i]?=some u→p.1=u.1∧Rel s p.2 u.2:=fun i p u h1 h2=>hr i p u h1 (by simpa using h2)
 split at h
 ·rename_i it hit;have hu:=hT.und t it hit;split at h
  ·rename_i e hd;rw[hd]at hu;split at h
   ·rename_i j hj;obtain⟨inf,q1,q2,q3,q4,q5,q6⟩:=hT.info e j hj;split at h
    ·rename_i hsz
     have grow:=fun o=>fQ hg (w:=s.w.alloc o) rfl rfl rfl (by simp) (fun b hb=>eb _ _ b hb)
     split at h
     ·rename_i hlen;subst hlen;split at h
      ·rename_i hem;cases h
       have hp:uparts = #[]:=by
        have:parts.length=0:=by simpa using hem
        exact Array.eq_empty_of_size_eq_zero (by omega)
       subst hp;refine⟨.slice (some ⟨s.w.heap.size,0,none⟩) 0 0,s.at (s.w.alloc (.cells #[] e)),?_,rfl,(grow _).1,(grow _).2,dO _ true _ 0 (fun _=>rfl)⟩;simp[Instr.buildSlice,run_underlying hu,av hT hj,Instr.fill,newRow,St.at];rw[show(Array.map (fun _=>(default:Value)) (Array.range 0))= #[] from by simp[Array.range]]
      ·cases h
     ·rename_i hlen
      cases hf:om j.size (List.replicate len j.zero) parts with
      | none=>rw[hf]at h;cases h
      | some xs =>
       rw[hf]at h;cases h;have hzr:Rel s j.zero j.zval:=dN q5;have hz1:=iD q5;have hzc:=(hzr.cells hz1).1
       have h0:FRow s j.size (List.replicate len j.zero) ((Array.range (len*j.size)).map (j.zval.cells[· % j.zval.cells.size]!)):=
        frow_zeros hzr hz1 q6 _ (by simp) (zeros_at j.zval (len*j.size) (by omega))
       obtain⟨us',h1,h2,h3⟩:=ol h0 hl' hr' hf
       have hlx:xs.length=len:=by simpa using h3
       have hmul:0<len*j.size:=Nat.mul_pos (by omega) hsz.2;have hrun:=run_buildSlice (P:=P) s.w t e len uparts us' inf j.zval hu q1 q4 (by rw[q2];omega) (by rw[q2];omega) (by rw[q2];exact h1);have hrel:=frow_lst (s:=s.at (s.w.alloc (.cells us' e))) (c:=len) (full:=true) (h2.step (grow _).2) (ec _ _) (prot_new hg _) (by omega) (fun _=>hlx.symm);rw[hlx]at hrel;exact⟨_,s.at _,hrun,rfl,(grow _).1,(grow _).2,hrel⟩
    ·cases h
   ·cases h
  ·cases h
 ·cases h
def pP:V→Option Int
 | .int _ n=>some n
 | _=>none
def makeA(T:Ty)(H:List B)(t:TypeId)(l c:V):Option (V×List B):=
 match T t with
 | some it=>match it.desc with
  | .slice e=>match T e,pP l,pP c with
   | some j,some n,some m=>if 0≤n∧n≤m∧(j.bytes:Int)*m≤281474976710656∧m≤9223372036854775807∧0<j.size then
     some (.buf H.length 0 n.toNat n.toNat,H++[.buf e j.size (List.replicate n.toNat j.zero) false]) else none
   | _,_,_=>none
  | _=>none
 | none=>none
theorem madeCells_at(u:Value)(n:Nat)(hpos:0<u.cells.size):(madeCells u.cells n).size=n∧∀i,i<n→(madeCells u.cells n)[i]?=u.cells[i % u.cells.size]?:=by
 unfold madeCells;refine⟨by simp,fun i hi=>?_⟩;have:i % u.cells.size<u.cells.size:=Nat.mod_lt _ hpos;simp[hi,this]
theorem make_sound(hT:TOk P T)(hg:Good s){t:TypeId}{l c r:V}{ul uc:Value}{H':List B}(hl:Rel s l ul)(hc:Rel s c uc)(h:makeA T s.H t l c=some (r,H')):
  ∃u s',(Instr.makeSlice t ul uc).run P s.w = .ok u s'.w∧s'.H=H'∧Good s'∧Step s s'∧Rel s' r u:=by
 unfold makeA at h;split at h
 ·rename_i it hit;have hu:=hT.und t it hit;split at h
  ·rename_i e hd;rw[hd]at hu;split at h
   ·rename_i j n m hj hn hm
    cases hl<;>simp only[pP]at hn<;>try (cases hn;done)
    cases hc<;>simp only[pP]at hm<;>try (cases hm;done)
    cases hn;cases hm;split at h
    ·rename_i hcond;obtain⟨c1,c2,c3,c4,c5⟩:=hcond;cases h;obtain⟨inf,q1,q2,q3,q4,q5,q6⟩:=hT.info e j hj;rename_i kl kc;have hrun:=run_make (P:=P) s.w t e inf j.zval hu q1 q4 kl kc n m c1 c2 (by rw[q3];exact c3) c4;rw[q2]at hrun;have hzr:Rel s j.zero j.zval:=dN q5;have hz1:=iD q5;have hzc:=(hzr.cells hz1).1;obtain⟨m1,m2⟩:=madeCells_at j.zval (m.toNat*j.size) (by omega);have ho:=eb s.w (.cells (madeCells j.zval.cells (m.toNat*j.size)) e);refine⟨_,s.push _ s.w.heap.size m.toNat _,hrun,rfl,?_,eV hg rfl rfl rfl (by simp) ho (Nat.le_refl _),?_⟩
     ·refine fS hg rfl rfl rfl (by simp) ho (Nat.le_refl _) (by simp) (fun hst=>?_);refine⟨madeCells j.zval.cells (m.toNat*j.size),?_,?_,?_,?_,fun x hx=>?_,fun i x jj d w hx hd hw=>?_⟩
      ·intro _;simp only[St.push,ae];exact ec _ _
      ·simp only[St.push,ae];exact m1
      ·simp only[St.push,ae,List.length_replicate];omega
      ·simp only[St.push,ae,maxLen];omega
      ·rw[List.eq_of_mem_replicate hx];exact⟨q6,by simpa using hz1⟩
      ·have hxe:=List.eq_of_mem_replicate (List.mem_of_getElem? hx);subst hxe
       have hi:i<n.toNat:=by have:=aE hx;simpa using this
       have hjj:=aE hd;have hb:(i+1)*j.size≤m.toNat*j.size:=Nat.mul_le_mul_right _ (by omega);rw[Nat.add_mul]at hb;rw[m2 _ (by omega),hzc,q6,show(i*j.size+jj) % j.size=jj by rw[Nat.mul_comm,Nat.mul_add_mod];exact Nat.mod_eq_of_lt (by omega)]at hw;exact((hzr.cells hz1).2.1 jj d w hd hw).step hst
     ·refine .buf s.H.length 0 n.toNat n.toNat e j.size (List.replicate n.toNat j.zero) false _ _ _ (by simp[St.push]) (by simp) (fun _=>?_);simp only[St.push,ae,Nat.zero_mul];exact⟨fun _=>trivial,trivial,by omega,by omega⟩
    ·cases h
   ·cases h
  ·cases h
 ·cases h
theorem makeMap_sound(hg:Good s){t:TypeId}{kk:KK}{H':List B}{r:V}(h:some (V.map s.H.length,s.H++[B.map kk []])=some (r,H')):
  ∃u s',(Instr.makeMap t none).run P s.w = .ok u s'.w∧s'.H=H'∧Good s'∧Step s s'∧Rel s' r u:=by
 cases h;have ho:=eb s.w (.map #[] 0);refine⟨.map (some s.w.heap.size),s.push (s.w.alloc (.map #[] 0)) s.w.heap.size 0 (.map kk []),by simp[Instr.makeMap,St.push],rfl,?_,eV hg rfl rfl rfl (by simp) ho (Nat.le_refl _),?_⟩
 ·refine fS hg rfl rfl rfl (by simp) ho (Nat.le_refl _) (by simp) (fun hst=>?_);refine⟨by simp,#[],0,?_,rfl,fun i p m hp=>by simp at hp⟩;simp only[St.push,ae];exact ec _ _
 ·have:=Rel.map (s:=s.push (s.w.alloc (.map #[] 0)) s.w.heap.size 0 (.map kk [])) s.H.length kk [] (by simp[St.push]);simpa only[St.push,ae] using this
end
end Go.AM
end
section
namespace Go.AM
open Go
def bh(x:Option V)(d:Nat):Option Nat :=
 match x with
 | none=>some d
 | some (.int _ n)=>if 0≤n then some n.toNat else none
 | _=>none
def sliceA(T:Ty)(H:List B)(t:TypeId)(x:V)(lo hi mx:Option V):Option V :=
 match T t with
 | none=>none
 | some it=>match it.desc,x with
  | .string,.str st=>match mx,bh lo 0,bh hi st.size with
   | none,some l,some h=>if l≤h∧h≤st.size then some (.str (st.extract l h)) else none
   | _,_,_=>none
  | .slice e,.nilS=>match bh lo 0,bh hi 0,bh mx 0 with
   | some l,some h,some m=>if l=0∧h=0∧m=0∧(mx.isNone||hi.isSome)=true∧(T e).isSome=true then some .nilS else none
   | _,_,_=>none
  | .slice e,.lst z full xs=>match T e,bh lo 0,bh hi xs.length with
   | some j,some l,some h=>if z=j.size∧l≤h∧h≤xs.length then
     match mx with
     | none=>some (.lst z (full&&h == xs.length) ((xs.take h).drop l))
     | some m=>match bh (some m) 0 with
      | some m'=>if m'=h∧hi.isSome=true then some (.lst z true ((xs.take h).drop l)) else none
      | none=>none
    else none
   | _,_,_=>none
  | .slice e,.buf k off len tot=>match H[k]? with
   | some (.buf _ z xs _)=>match T e,bh lo 0,bh hi len with
    | some j,some l,some h=>if xs.length=tot∧z=j.size∧l≤h∧(h≤len∨off+h≤tot) then
      match mx with
      | none=>if l=h then(if l=0 then some (.buf k off 0 tot) else some (.lst z false [])) else some (.buf k (off+l) (h-l) tot)
      | some m=>match bh (some m) 0 with
       | some m'=>if l=h∧m'=h∧hi.isSome=true then some (.lst z true []) else if h≤m'∧off+m'≤tot∧hi.isSome=true then some .undef else none
       | none=>none
     else none
    | _,_,_=>none
   | _=>none
  | .array n e,.ptr k off=>match T e,H[k]?,lo,hi,mx with
   | some j,some (.cells cs),none,none,none=>if off=0∧n=cs.length∧j.size=1∧0<n then some (.sarr k n) else none
   | _,_,_,_,_=>none
  | _,_=>none
section
variable {P:Program} {T:Ty} {s:St}
def ji(s:St)(x:Option V)(u:Option Value):Prop :=
 match x,u with
 | none,none=>True
 | some v,some w=>Rel s v w
 | _,_=>False
theorem dz{v:V}{u:Value}{n:Nat}{d y:Nat}{code:BoundsCode}(hv:Rel s v u)(h:bh (some v) d=some n)(hy:n≤y)(w:World):(Instr.sliceBound u y code).run P w = .ok n w:=by
 unfold bh at h
 cases hv<;>simp only at h<;>try (cases h;done)
 rename_i k i;split at h
 ·rename_i h0;cases h;simp[Instr.sliceBound,asIntOf,h0,show i≤(y:Int) by omega]
 ·cases h
theorem dx{lo hi mx:Option V}{ulo uhi umx:Option Value}(hlo:ji s lo ulo)(hhi:ji s hi uhi)(hmx:ji s mx umx){isS:Bool}{len cap l h m d:Nat}
  (h1:bh lo 0=some l) (h2:bh hi len=some h) (h3:bh mx cap=some m) (hd:mx=none∨hi.isSome=true) (hlh:l≤h) (hhm:h≤m) (hmc:m≤cap) (_hd:d=0) (w:World):
  (Instr.sliceBounds isS len cap ulo uhi umx).run P w = .ok (l,h,m) w:=by
 cases mx<;>cases umx<;>simp only[ji]at hmx
 ·simp only[bh,Option.some.injEq]at h3;subst h3;cases hi<;>cases uhi<;>simp only[ji]at hhi
  ·simp only[bh,Option.some.injEq]at h2;subst h2;cases lo<;>cases ulo<;>simp only[ji]at hlo
   ·simp only[bh,Option.some.injEq]at h1;subst h1;simp[Instr.sliceBounds]
   ·simp[Instr.sliceBounds,dz hlo h1 hlh]
  ·cases lo<;>cases ulo<;>simp only[ji]at hlo
   ·simp only[bh,Option.some.injEq]at h1;subst h1;simp[Instr.sliceBounds,dz hhi h2 hhm]
   ·simp[Instr.sliceBounds,dz hhi h2 hhm,dz hlo h1 hlh]
 ·have hm:=fun code=>dz (P:=P) (y:=cap) (code:=code) hmx h3 hmc w
  cases hi<;>cases uhi<;>simp only[ji]at hhi
  ·simp at hd
  ·cases lo<;>cases ulo<;>simp only[ji]at hlo
   ·simp only[bh,Option.some.injEq]at h1;subst h1;simp[Instr.sliceBounds,hm,dz hhi h2 hhm]
   ·simp[Instr.sliceBounds,hm,dz hhi h2 hhm,dz hlo h1 hlh]
theorem nC{x:Option V}{d d' n:Nat}(h:bh x d=some n)(hx:x.isSome=true):bh x d'=some n:=by
 cases x with
 | none=>cases hx
 | some v=>cases v<;>exact h
theorem lst_cut{z:Nat}{full full':Bool}{xs:List V}{A:Option Addr}{cap l h m:Nat}(hx:Rel s (.lst z full xs) (.slice A xs.length cap))(h1:l≤h)(h2:h≤xs.length)(h3:h≤m)(hf:full'=true→m=h):
  Rel s (.lst z full' ((xs.take h).drop l)) (.slice (if m=l then A else A.map (·.add (l*z))) (h-l) (m-l)):=by
 cases hx with
 | lst _ _ _ _ _ b off u hcap hfull hA hz hcell hrel =>
  have hlen:((xs.take h).drop l).length=h-l:=by simp;omega
  have hat:∀i x,((xs.take h).drop l)[i]?=some x→xs[l+i]?=some x:=fun i x hi=>by
   have hil:=aE hi;rw[List.getElem?_drop,List.getElem?_take,if_pos (by omega)]at hi;exact hi
  have:=Rel.lst (s:=s) z full' ((xs.take h).drop l) (if m=l then A else A.map (·.add (l*z))) (m-l) b (off+l*z) (fun i j=>u (l+i) j) (by omega) (fun hf'=>by rw[hlen,hf hf']) (fun h0=>by
    rw[hlen]at h0;obtain⟨rfl,hp⟩:=hA (by omega);rw[if_neg (by omega)]
    exact⟨by simp[cL],hp⟩) (fun x hx=>hz x (List.mem_of_mem_take (List.mem_of_mem_drop hx)))
   (fun i x j c hi hc=>by
    have:=hcell (l+i) x j c (hat i x hi) hc
    rwa [Nat.add_mul,←Nat.add_assoc]at this)
   (fun i x j c hi hc=>hrel (l+i) x j c (hat i x hi) hc)
  rwa [hlen]at this
theorem slice_sound(hT:TOk P T)(hg:Good s){t:TypeId}{x r:V}{ux:Value}{lo hi mx:Option V}{ulo uhi umx:Option Value}(hx:Rel s x ux)(hlo:ji s lo ulo)(hhi:ji s hi uhi)(hmx:ji s mx umx)
  (h:sliceA T s.H t x lo hi mx=some r):∃u,(Instr.sliceAt t ux ulo uhi umx).run P s.w = .ok u s.w∧Rel s r u:=by
 unfold sliceA at h;split at h
 ·cases h
 ·rename_i it hit;have hu:=hT.und t it hit;generalize it.desc=d at hu h;split at h
  ·
   rename_i st;split at h
   ·rename_i l hh e1 e2;split at h
    ·rename_i hc;cases h;cases hx;cases umx<;>simp only[ji]at hmx;have hb:=dx (P:=P) (isS:=false) (len:=st.size) (cap:=st.size) (d:=0) hlo hhi (mx:=none) (umx:=none) trivial e1 e2 rfl (.inl rfl) hc.1 hc.2 (Nat.le_refl _) rfl s.w;exact⟨.string (st.extract l hh),by simp[Instr.sliceAt,Instr.slice,run_underlying hu,hb],.str _⟩
    ·cases h
   ·cases h
  ·
   rename_i e;split at h
   ·rename_i l hh m e1 e2 e3;split at h
    ·rename_i hc;obtain⟨rfl,rfl,rfl,hd,hTe⟩:=hc;cases h;cases hx;obtain⟨j,hj⟩:=Option.isSome_iff_exists.1 hTe;have hb:=dx (P:=P) (isS:=true) (len:=0) (cap:=0) (d:=0) hlo hhi hmx e1 e2 e3 (by simpa using hd) (Nat.le_refl _) (Nat.le_refl _) (Nat.le_refl _) rfl s.w;exact⟨.slice none 0 0,by simp[Instr.sliceAt,Instr.slice,run_underlying hu,hb,av hT hj],.nilS⟩
    ·cases h
   ·cases h
  ·
   rename_i e z full xs;split at h
   ·rename_i j l hh hj e1 e2;split at h
    ·rename_i hc;obtain⟨hz,hlh,hhx⟩:=hc
     obtain⟨A,cap,rfl⟩:∃A cap,ux = .slice A xs.length cap:=by cases hx;exact⟨_,_,rfl⟩
     have hcap:xs.length≤cap∧(full=true→cap=xs.length):=by cases hx;exact⟨by assumption,by assumption⟩
     split at h
     ·cases h;cases umx<;>simp only[ji]at hmx;have hb:=dx (P:=P) (isS:=true) (len:=xs.length) (cap:=cap) (d:=0) hlo hhi (mx:=none) (umx:=none) trivial e1 e2 rfl (.inl rfl) hlh (by omega) (Nat.le_refl _) rfl s.w;refine⟨_,by simp[Instr.sliceAt,Instr.slice,run_underlying hu,hb,av hT hj];rfl,?_⟩;rw[←hz];exact lst_cut hx hlh hhx (by omega) (fun hf=>by simp at hf;have:=hcap.2 hf.1;omega)
     ·rename_i m;split at h
      ·rename_i m' em;split at h
       ·rename_i hmh;obtain⟨rfl,hhs⟩:=hmh;cases h;have hb:=dx (P:=P) (isS:=true) (len:=xs.length) (cap:=cap) (d:=0) hlo hhi hmx e1 e2 (nC em rfl) (.inr hhs) hlh (Nat.le_refl _) (by omega) rfl s.w;refine⟨_,by simp[Instr.sliceAt,Instr.slice,run_underlying hu,hb,av hT hj];rfl,?_⟩;rw[←hz];exact lst_cut hx hlh hhx (Nat.le_refl _) (fun _=>rfl)
       ·cases h
      ·cases h
    ·cases h
   ·cases h
  ·
   rename_i e k off len tot
   cases hx with
   | buf _ _ _ _ e' z xs fz A cl c hk ht hh =>
    rw[hk]at h;simp only at h;split at h
    ·rename_i j l h' hj e1 e2;split at h
     ·rename_i hc;obtain⟨hxt,hz,hlh,hhl⟩:=hc;obtain⟨hA,rfl,hcap,hoff⟩:=hh hxt.symm
      have hkap:xs.length≤s.κ k:=by obtain⟨_,_,_,h4,_⟩:=hg.blk k _ hk;exact h4
      have hhc:h'≤c:=by omega
      split at h
      ·cases umx<;>simp only[ji]at hmx;have hb:=dx (P:=P) (isS:=true) (len:=cl) (cap:=c) (d:=0) hlo hhi (mx:=none) (umx:=none) trivial e1 e2 rfl (.inl rfl) hlh (by omega) (Nat.le_refl _) rfl s.w;split at h
       ·rename_i hl;subst hl;split at h
        ·rename_i hl0;subst hl0;cases h;refine⟨.slice (if c=0 then A else A.map (·.add (0*z))) 0 c,?_,.buf k off 0 tot e' z xs fz _ _ _ hk ht (fun _=>⟨fun h0=>by rw[hA h0];split<;>simp[cL],rfl,by omega,by omega⟩)⟩;simp[Instr.sliceAt,Instr.slice,run_underlying hu,hb,av hT hj,hz]
        ·cases h;refine⟨_,by simp[Instr.sliceAt,Instr.slice,run_underlying hu,hb,av hT hj];rfl,?_⟩;exact dO _ false _ _ (by simp)
       ·rename_i hl;cases h;have hA:=hA (by omega);subst hA;refine⟨.slice (some ⟨s.φ k,(off+l)*z,none⟩) (h'-l) (c-l),?_,.buf k (off+l) (h'-l) tot e' z xs fz _ _ _ hk ht (fun _=>⟨fun _=>rfl,rfl,by omega,by omega⟩)⟩;simp[Instr.sliceAt,Instr.slice,run_underlying hu,hb,av hT hj,show ¬(c=l) by omega,cL,Nat.add_mul,hz]
      ·rename_i m;split at h
       ·rename_i m' em;split at h
        ·rename_i hcc;obtain⟨rfl,rfl,hhs⟩:=hcc;cases h;have hb:=dx (P:=P) (isS:=true) (len:=cl) (cap:=c) (d:=0) hlo hhi hmx e1 e2 (nC em rfl) (.inr hhs) (Nat.le_refl _) (Nat.le_refl _) (by omega) rfl s.w;refine⟨_,by simp[Instr.sliceAt,Instr.slice,run_underlying hu,hb,av hT hj];rfl,?_⟩;exact dO _ true _ _ (fun _=>rfl)
        ·split at h
         ·rename_i hcc;obtain⟨hm1,hm2,hhs⟩:=hcc;cases h;have hb:=dx (P:=P) (isS:=true) (len:=cl) (cap:=c) (d:=0) hlo hhi hmx e1 e2 (nC em rfl) (.inr hhs) hlh hm1 (by omega) rfl s.w;exact⟨_,by simp[Instr.sliceAt,Instr.slice,run_underlying hu,hb,av hT hj];rfl,.undef _⟩
         ·cases h
       ·cases h
     ·cases h
    ·cases h
  ·
   rename_i n e k off;split at h
   ·rename_i j cs hj hk;split at h
    ·rename_i hc;obtain⟨rfl,rfl,hz,hpos⟩:=hc;cases h
     cases hx with
     | ptr _ _ cs' hk' =>
      cases ulo<;>cases uhi<;>cases umx<;>simp only[ji]at hlo hhi hmx;refine⟨.slice (some ⟨s.φ k,0,none⟩) cs.length cs.length,?_,.sarr k _ cs hk⟩;simp[Instr.sliceAt,run_underlying hu,Instr.sureAddr,Instr.sliceBounds,av hT hj,cL]
    ·cases h
   ·cases h
  ·cases h
end
end Go.AM
namespace Go.AM
open Go
theorem jK(g:Nat)(e:TypeId):∀(news:List Value) (o:Nat) (vs:Array Value) (w:World),w.heap[g]?=some (.cells vs e (0,0))→o+news.length≤vs.size →
  w.setCells g o news=w.setRow g (vs.toList.take o++news++vs.toList.drop (o+news.length)).toArray
 | [],o,vs,w,hg,_=>by
  simp only[World.setCells,List.append_nil,List.length_nil,Nat.add_zero,List.take_append_drop,Array.toArray_toList];rw[setRow_self w g vs e (0,0) hg]
 | v::rest,o,vs,w,hg,hl=>by
  simp only[List.length_cons]at hl;rw[World.setCells,setCell_eq_setRow w g o vs e (0,0) v hg,jK g e rest (o+1) (vs.setIfInBounds o v) _ (setRow_heap w g vs _ e _ hg) (by simp;omega),setRow_setRow];congr 2;have:=list_seg_step vs.toList o v rest (by simp;omega);simpa[Array.toList_setIfInBounds,Nat.add_assoc] using this
def byteV(s:ByteArray):List V:=s.data.toList.map fun b=>V.int .u8 b.toNat
def srcA(H:List B)(z:Nat):V→Option (List V)
 | .nilS=>some []
 | .lst z' _ ys=>if z'=z then some ys else none
 | .buf k off len tot=>match H[k]? with
  | some (.buf _ z' xs _)=>if xs.length=tot∧z'=z then some ((xs.drop off).take len) else none
  | _=>none
 | .str st=>if z=1 then some (byteV st) else none
 | _=>none
def srcT:TypeDesc→V→Bool
 | .slice _,.str _=>false
 | .slice _,_=>true
 | .string,.str _=>true
 | _,_=>false
section
variable {P:Program} {T:Ty} {s:St}
theorem mT(hg:Good s){z:Nat}{tx:TypeId}{d:TypeDesc}{y:V}{uy:Value}{ys:List V}(hz:0<z)(hd:P.underlying tx=some d)(ht:srcT d y=true)(hy:Rel s y uy)(h:srcA s.H z y=some ys):
  ∃news:List Value,Src P z tx uy ys.length news s.w∧FRow s z ys news.toArray:=by
 cases hy<;>simp only[srcA]at h<;>try (cases h;done)
 case nilS =>
  cases h
  obtain⟨e',rfl⟩:∃e',d = .slice e':=by cases d<;>simp_all [srcT]
  exact⟨[],Src.ofNil s.w hd 0,⟨by simp,by simp,fun i x j c u hx=>by simp at hx⟩⟩
 case lst z' full xs A cap b off u hcap hfull hA hzz hcell hrel =>
  obtain⟨e',rfl⟩:∃e',d = .slice e':=by cases d<;>simp_all [srcT]
  split at h
  ·rename_i hzz';subst hzz';cases h;by_cases hx0:ys.length=0
   ·have:ys=[]:=List.eq_nil_of_length_eq_zero hx0;subst this
    cases A with
    | none=>exact⟨[],Src.ofNil s.w hd cap,⟨by simp,by simp,fun i x j c u hx=>by simp at hx⟩⟩
    | some a=>exact⟨[],Src.ofSlice s.w hd a 0 cap [] (by simp) (fun j u h=>by simp at h) (by simp),⟨by simp,by simp,fun i x j c u hx=>by simp at hx⟩⟩
   ·obtain⟨rfl,hp⟩:=hA (by omega)
    have hat:∀m,m<ys.length*z'→m / z'<ys.length∧m % z'<z':=fun m hm=>⟨Nat.div_lt_of_lt_mul (by rw[Nat.mul_comm];exact hm),Nat.mod_lt _ hz⟩
    have hcell2:∀m,m<ys.length*z'→s.w.cell? ⟨b,off+m,none⟩=some (u (m / z') (m % z'))∧(u (m / z') (m % z')).oneCell'=true:=fun m hm=>by
     obtain⟨h1,h2⟩:=hat m hm;have hx:ys[m / z']?=some ys[m / z']:=List.getElem?_eq_getElem h1;obtain⟨hl,ho⟩:=hzz _ (List.getElem_mem h1);have hc:(ys[m / z']).cells[m % z']?=some ((ys[m / z']).cells[m % z']'(by omega)):=List.getElem?_eq_getElem (by omega);have e:=hcell _ _ _ _ hx hc;rw[show off+m / z'*z'+m % z'=off+m by rw[Nat.mul_comm,Nat.add_assoc,Nat.div_add_mod]]at e;exact⟨e,(hrel _ _ _ _ hx hc).oneCell (ho _ (List.getElem_mem _))⟩
    refine⟨(List.range (ys.length*z')).map fun m=>u (m / z') (m % z'),Src.ofSlice s.w hd _ _ cap _ (by simp) (fun j x hj=>?_) (fun x hx=>?_),⟨by simp,hzz,fun i x j c w hx hc hw=>?_⟩⟩
    ·have hjl:=aE hj;simp at hjl;rw[cL,(hcell2 j hjl).1];simp[hjl]at hj;rw[←hj]
    ·obtain⟨m,hm,rfl⟩:=List.mem_map.1 hx;exact(hcell2 m (by simpa using hm)).2
    ·have hi:=aE hx;have hj:=aE hc;have hl:=(hzz x (List.mem_of_getElem? hx)).1;have hb:(i+1)*z'≤ys.length*z':=Nat.mul_le_mul_right _ (by omega);rw[Nat.add_mul]at hb
     have hlt:i*z'+j<ys.length*z':=by omega
     have e1:(i*z'+j) / z'=i:=by rw[Nat.mul_comm,Nat.mul_add_div hz,Nat.div_eq_of_lt (by omega),Nat.add_zero]
     have e2:(i*z'+j) % z'=j:=by rw[Nat.mul_comm,Nat.mul_add_mod];exact Nat.mod_eq_of_lt (by omega)
     simp[hlt,e1,e2]at hw;rw[←hw];exact hrel i x j c hx hc
  ·cases h
 case buf k off len tot e' z' xs fz A l c hk htot hh =>
  obtain⟨e2,rfl⟩:∃e',d = .slice e':=by cases d<;>simp_all [srcT]
  rw[hk]at h;simp only at h;split at h
  ·rename_i hc;obtain⟨hxt,hzz'⟩:=hc;subst hzz';cases h;obtain⟨hA,rfl,hcap,hoff⟩:=hh hxt.symm;obtain⟨vs,g2,g3,g4,g5,g6,g7⟩:=hg.blk k _ hk
   have hlen:((xs.drop off).take l).length=l:=by simp;omega
   have hat:∀i x,((xs.drop off).take l)[i]?=some x→xs[off+i]?=some x:=fun i x hi=>by
    have:=aE hi;rw[List.getElem?_take,if_pos (by omega),List.getElem?_drop]at hi;exact hi
   have hb:(off+l)*z'≤s.κ k*z':=Nat.mul_le_mul_right _ (by omega);rw[Nat.add_mul]at hb
   have hnl:((vs.toList.drop (off*z')).take (l*z')).length=l*z':=by simp;omega
   have hnews:∀j x,((vs.toList.drop (off*z')).take (l*z'))[j]?=some x→vs[off*z'+j]?=some x:=fun j x hj=>by
    have:=aE hj;rw[List.getElem?_take,if_pos (by omega),List.getElem?_drop]at hj;simpa using hj
   have hrow:FRow s z' ((xs.drop off).take l) ((vs.toList.drop (off*z')).take (l*z')).toArray:=by
    refine⟨by simp only[List.size_toArray,hnl,hlen],fun x hx=>g6 x (List.mem_of_mem_drop (List.mem_of_mem_take hx)),fun i x j d u hx hd hu=>?_⟩;have h1:=hnews (i*z'+j) u (by simpa using hu);rw[show off*z'+(i*z'+j)=(off+i)*z'+j by rw[Nat.add_mul];omega]at h1;exact g7 (off+i) x j d u (hat i x hx) hd h1
   refine⟨(vs.toList.drop (off*z')).take (l*z'),?_,hrow⟩;rw[hlen];by_cases hl0:l=0
   ·subst hl0
    have e0:(vs.toList.drop (off*z')).take (0*z')=[]:=by simp
    rw[e0]
    cases A with
    | none=>exact Src.ofNil s.w hd c
    | some a=>exact Src.ofSlice s.w hd a 0 c [] (by simp) (fun j x hj=>by simp at hj) (fun x hx=>by cases hx)
   have hκ:s.κ k≠0:=by omega
   have hA:=hA hκ;subst hA;have g2:=g2 hκ;refine Src.ofSlice s.w hd _ _ c _ hnl (fun j x hj=>?_) (fun x hx=>?_)
   ·rw[cL];have:=hnews j x hj;simp only[World.cell?,g2];simpa using this
   ·obtain⟨j,hj⟩:=List.getElem?_of_mem hx;have hjl:=aE hj;rw[hnl]at hjl;have d1:j / z'<l:=Nat.div_lt_of_lt_mul (by rw[Nat.mul_comm];exact hjl);have d2:j % z'<z':=Nat.mod_lt _ hz;have hx':((xs.drop off).take l)[j / z']?=some (((xs.drop off).take l)[j / z']'(by omega)):=List.getElem?_eq_getElem (by omega);obtain⟨hl2,ho2⟩:=hrow.el _ (List.mem_of_getElem? hx');have hc':(((xs.drop off).take l)[j / z']'(by omega)).cells[j % z']?=some ((((xs.drop off).take l)[j / z']'(by omega)).cells[j % z']'(by omega)):=List.getElem?_eq_getElem (by omega)
    have hu:((vs.toList.drop (off*z')).take (l*z')).toArray[j / z'*z'+j % z']?=some x:=by
     rw[show j / z'*z'+j % z'=j by rw[Nat.mul_comm,Nat.div_add_mod]];simpa using hj
    exact(hrow.rel _ _ _ _ x hx' hc' hu).oneCell (ho2 _ (List.getElem_mem _))
  ·cases h
 case str st =>
  split at h
  ·rename_i h1;subst h1;cases h
   have hd':d = .string:=by cases d<;>simp_all [srcT]
   subst hd'
   have hl:(byteV st).length=st.size:=by unfold byteV;rw[List.length_map,Array.length_toList];rfl
   refine⟨byteCells st,by rw[hl];exact Src.ofString s.w hd st,⟨by simp[byteCells_length,hl],fun x hx=>?_,fun i x j c u hx hc hu=>?_⟩⟩
   ·obtain⟨b,_,rfl⟩:=List.mem_map.1 hx;exact⟨rfl,fun c hc=>by simp[V.cells]at hc;subst hc;rfl⟩
   ·have hx':=List.mem_of_getElem? hx;simp only[byteV,List.getElem?_map,Option.map_eq_some_iff]at hx;obtain⟨b,hb,rfl⟩:=hx
    have hj:j=0:=by have:=aE hc;simp[V.cells]at this;omega
    subst hj;simp[V.cells]at hc;subst hc
    have hu':(byteCells st)[i]?=some u:=by simpa using hu
    simp only[byteCells,List.getElem?_map,hb,Option.map_some,Option.some.injEq]at hu';rw[←hu'];exact .int _ _
  ·cases h
def St.grow(s:St)(w:World)(k g c:Nat)(bl:B):St:=⟨s.F,w,upd s.φ k g,upd s.κ k c,s.H.set k bl⟩
theorem mf{s:St}(hg:Good s){w:World}{k g c e z:Nat}{xs ys:List V}(hk:s.H[k]?=some (.buf e z xs false))(hpos:0<ys.length)(hos:w.os=s.w.os)(htape:w.tape=s.w.tape)(hout:w.output=s.w.output)(hsz:s.w.heap.size≤w.heap.size)
  (hb:∀b,b<s.w.heap.size→(s.κ k≠0→b≠s.φ k)→w.heap[b]?=s.w.heap[b]?) (hgk:(g=s.φ k∧s.κ k≠0)∨s.w.heap.size≤g):Step s (s.grow w k g c (.buf e z (xs++ys) false)) where
 F:=rfl
 os:=hos
 tape:=htape
 output:=hout
 size:=hsz
 out b h hn:=hb b h (fun hκ e=>hn k (lvB hk hκ) e.symm)
 len:=by simp[St.grow]
 new i h2 h3:=absurd h2 (by have:=h3.1;simp[St.grow]at this;omega)
 keep i b hi:=by
  have hil:=aE hi;by_cases hik:i=k
  ·subst hik;rw[hk]at hi;cases hi;refine⟨xs++ys,false,by simp[St.grow,hil],by simp,fun he=>by rw[List.length_append]at he;omega,(fun h=>by cases h),?_⟩;simp only[St.grow,ae];exact⟨hgk.imp And.left id,fun hz=>.inr (hgk.elim (fun h=>absurd hz h.2) id)⟩
  ·have hk':(s.grow w k g c (.buf e z (xs++ys) false)).H[i]?=some b:=by simp only[St.grow];rw[List.getElem?_set_ne (Ne.symm hik)];exact hi
   have e1:(s.grow w k g c (.buf e z (xs++ys) false)).φ i=s.φ i:=bw _ _ hik;have e2:(s.grow w k g c (.buf e z (xs++ys) false)).κ i=s.κ i:=bw _ _ hik
   cases b with
   | cells cs=>exact⟨e1,cs,hk'⟩
   | map kk es=>exact⟨e1,es,hk'⟩
   | buf e0 z0 xs0 fz=>exact⟨xs0,fz,hk',Nat.le_refl _,fun _=>⟨e1,e2⟩,fun hf=>⟨hf,rfl,fun hz=>hb _ (hg.lt i (lvB hi hz)).1 (fun hκ e=>hik (hg.inj i k (lvB hi hz) (lvB hk hκ) e))⟩,.inl e1,fun hz=>.inl (by rw[e2];exact hz)⟩
theorem grow_good{s:St}(hg:Good s){w:World}{k g c e z:Nat}{xs ys:List V}(hk:s.H[k]?=some (.buf e z xs false))(hpos:0<ys.length)(hos:w.os=s.w.os)(htape:w.tape=s.w.tape)(hout:w.output=s.w.output)(hsz:s.w.heap.size≤w.heap.size)
  (hb:∀b,b<s.w.heap.size→(s.κ k≠0→b≠s.φ k)→w.heap[b]?=s.w.heap[b]?) (hgk:(g=s.φ k∧s.κ k≠0)∨s.w.heap.size≤g) (hgl:g<w.heap.size)
  (hbl:Step s (s.grow w k g c (.buf e z (xs++ys) false))→BRel (s.grow w k g c (.buf e z (xs++ys) false)) k (.buf e z (xs++ys) false)):Good (s.grow w k g c (.buf e z (xs++ys) false)):=by
 have hst:=mf (c:=c) hg hk hpos hos htape hout hsz hb hgk;have hkl:=aE hk
 have hlen:(s.grow w k g c (.buf e z (xs++ys) false)).H.length=s.H.length:=by simp[St.grow]
 have hother:∀i,i≠k→(s.grow w k g c (.buf e z (xs++ys) false)).φ i=s.φ i:=fun i hi=>bw _ _ hi
 have hself:(s.grow w k g c (.buf e z (xs++ys) false)).φ k=g:=ae _ _ _
 have hlv:∀i,i≠k→Lv (s.grow w k g c (.buf e z (xs++ys) false)) i→Lv s i:=fun i hne hl=>⟨by have:=hl.1;omega,fun e' z' xs' fz' hb'=>by
  have:=hl.2 e' z' xs' fz' (by simp only[St.grow];rw[List.getElem?_set_ne (Ne.symm hne)];exact hb')
  rwa [show(s.grow w k g c (.buf e z (xs++ys) false)).κ i=s.κ i from bw _ _ hne]at this⟩
 refine⟨fun b h=>Nat.lt_of_lt_of_le (hg.fl b h) hsz,fun i hi=>?_,fun i j hi hj e=>?_,fun i b hi=>?_⟩
 ·by_cases hik:i=k
  ·subst hik;rw[hself];refine⟨hgl,fun hF=>?_⟩
   rcases hgk with h | h
   ·rw[h.1]at hF;exact(hg.lt i (lvB hk h.2)).2 hF
   ·have:=hg.fl g hF;omega
  ·rw[hother i hik];have:=hg.lt i (hlv i hik hi);exact⟨Nat.lt_of_lt_of_le this.1 hsz,this.2⟩
 ·have inj2:∀i,Lv s i→i≠k→s.φ i≠g:=fun i hi hne e=>by
   rcases hgk with h | h
   ·exact hne (hg.inj i k hi (lvB hk h.2) (e.trans h.1))
   ·have:=(hg.lt i hi).1;omega
  by_cases hik:i=k<;>by_cases hjk:j=k
  ·omega
  ·subst hik;rw[hself,hother j hjk]at e;exact absurd e.symm (inj2 j (hlv j hjk hj) hjk)
  ·subst hjk;rw[hself,hother i hik]at e;exact absurd e (inj2 i (hlv i hik hi) hik)
  ·rw[hother i hik,hother j hjk]at e;exact hg.inj i j (hlv i hik hi) (hlv j hjk hj) e
 ·by_cases hik:i=k
  ·subst hik
   have:(s.grow w i g c (.buf e z (xs++ys) false)).H[i]?=some (.buf e z (xs++ys) false):=by simp[St.grow,hkl]
   rw[this]at hi;cases hi;exact hbl hst
  ·have hi':s.H[i]?=some b:=by simp only[St.grow]at hi;rwa [List.getElem?_set_ne (Ne.symm hik)]at hi
   exact(hg.blk i b hi').step hst hi' (hother i hik) (bw _ _ hik) (fun hl=>hb _ (hg.lt i hl).1 (fun hκ e=>hik (hg.inj i k hl (lvB hk hκ) e)))
theorem fill_row(hg:Good s){k e z o:Nat}{xs ys:List V}{news:List Value}{vs:Array Value}(hk:s.H[k]?=some (.buf e z xs false))(hκ:s.κ k≠0)(hF:FRow s z ys news.toArray)(ho:o+ys.length≤xs.length)
  (hv:s.w.heap[s.φ k]?=some (.cells vs e (0,0))) (w':World) (hw:w'=s.w.setRow (s.φ k) (vs.toList.take (o*z)++news++vs.toList.drop (o*z+news.length)).toArray):
  Good (s.setB w' k (.buf e z (bW xs o ys) false))∧Step s (s.setB w' k (.buf e z (bW xs o ys) false)):=by
 subst hw;obtain⟨vs',g2,g3,g4,g5,g6,g7⟩:=hg.blk k _ hk;have g2:=g2 hκ;rw[hv]at g2;cases g2;have hlk:=lvB hk hκ
 have hnl:news.length=ys.length*z:=by have:=hF.len;simpa using this
 have hb:(o+ys.length)*z≤s.κ k*z:=Nat.mul_le_mul_right _ (by omega);rw[Nat.add_mul]at hb;have hal:B.alike (.buf e z xs false) (.buf e z (bW xs o ys) false):=⟨rfl,rfl,(dt xs o ys ho).symm,rfl,rfl⟩;refine⟨cH hg hk hlk hal rfl rfl rfl (by simp) (fun b _ hne=>setRow_other _ _ _ _ hne) (fun hst=>?_),bq hg hk hlk hal rfl rfl rfl (by simp) (fun b _ hne=>setRow_other _ _ _ _ hne)⟩;refine⟨_,fun _=>setRow_heap _ _ _ _ _ _ hv,?_,by rw[dt xs o ys ho];simpa[St.setB] using g4,g5,fun y hy=>?_,fun m y j c u hy hc hu=>?_⟩
 ·simp only[St.setB];rw[←g3];simp;omega
 ·rcases fY hy with h | h
  ·exact g6 y h
  ·exact hF.el y h
 ·have hu':(vs.toList.take (o*z)++news++vs.toList.drop (o*z+news.length))[m*z+j]?=some u:=by simpa using hu
  rw[bm vs.toList _ news (by simp;omega)]at hu';rw[bW,bm xs o ys ho]at hy;have hjl:=aE hc;by_cases hin:o≤m∧m<o+ys.length
  ·rw[if_pos hin]at hy;have hyz:=(hF.el y (List.mem_of_getElem? hy)).1;have h1:o*z≤m*z:=Nat.mul_le_mul_right _ hin.1;have h2:(m+1)*z≤(o+ys.length)*z:=Nat.mul_le_mul_right _ (by omega);rw[Nat.add_mul,Nat.add_mul,Nat.one_mul]at h2;rw[if_pos (by omega)]at hu';refine(hF.rel (m-o) y j c u hy hc ?_).step hst;rw[show m*z+j-o*z=(m-o)*z+j by rw[Nat.sub_mul];omega]at hu';simpa using hu'
  ·rw[if_neg hin]at hy;have hyz:=(g6 y (List.mem_of_getElem? hy)).1
   have hno:¬(o*z≤m*z+j∧m*z+j<o*z+news.length):=by
    rintro⟨q1,q2⟩
    rcases Nat.lt_or_ge m o with hlt | hge
    ·have:(m+1)*z≤o*z:=Nat.mul_le_mul_right _ (by omega);rw[Nat.add_mul]at this;omega
    ·have:(o+ys.length)*z≤m*z:=Nat.mul_le_mul_right _ (by omega);rw[Nat.add_mul]at this;omega
   rw[if_neg hno]at hu';exact(g7 m y j c u hy hc (by simpa using hu')).step hst
def oJ(T:Ty)(H:List B)(t tx:TypeId)(x y:V):Option (V×List B):=
 match T t,T tx with
 | some it,some ix=>match it.desc with
  | .slice e=>match T e with
   | some j=>if 0<j.size∧srcT ix.desc y=true then
     match srcA H j.size y with
     | some ys =>
      match x with
      | .nilS=>if ys.length=0 then some (x,H) else
        if ys.length≤9223372036854775807∧ys.length*j.bytes≤140737488355328 then(if it.pa=true then some (.lst j.size false ys,H) else some (.buf H.length 0 ys.length ys.length,H++[.buf e j.size ys false])) else none
      | .lst z full xs=>if ys.length=0 then some (x,H) else
        if z=j.size∧full=true∧xs.length+ys.length≤9223372036854775807∧(xs.length+ys.length)*j.bytes≤140737488355328 then
         (if it.pa=true then some (.lst j.size false (xs++ys),H) else some (.buf H.length 0 (xs.length+ys.length) (xs.length+ys.length),H++[.buf e j.size (xs++ys) false])) else none
      | .buf k off len tot=>match H[k]? with
       | some (.buf e' z xs false)=>if xs.length=tot∧e'=e∧z=j.size∧off=0∧len=tot then
         (if ys.length=0 then some (x,H) else
          if tot+ys.length≤9223372036854775807∧(tot+ys.length)*j.bytes≤140737488355328 then
           some (.buf k 0 (tot+ys.length) (tot+ys.length),H.set k (.buf e z (xs++ys) false)) else none)
         else if xs.length=tot∧e'=e∧z=j.size∧off+len+ys.length≤tot then some (.buf k off (len+ys.length) tot,H.set k (.buf e z (bW xs (off+len) ys) false)) else none
       | _=>none
      | _=>none
     | none=>none
    else none
   | none=>none
  | _=>none
 | _,_=>none
theorem nQ{z:Nat}{xs ys:List V}{us vs:Array Value}(h1:FRow s z xs us)(h2:FRow s z ys vs):FRow s z (xs++ys) (us++vs):=by
 refine⟨by simp[h1.len,h2.len,Nat.add_mul],fun x hx=>?_,fun i x j c u hx hc hu=>?_⟩
 ·rcases List.mem_append.1 hx with h | h
  ·exact h1.el x h
  ·exact h2.el x h
 ·have hj:=aE hc;by_cases hi:i<xs.length
  ·rw[List.getElem?_append_left hi]at hx;have hl:=(h1.el x (List.mem_of_getElem? hx)).1;have hb:(i+1)*z≤xs.length*z:=Nat.mul_le_mul_right _ (by omega);rw[Nat.add_mul]at hb;rw[Array.getElem?_append,if_pos (by have:=h1.len;omega)]at hu;exact h1.rel i x j c u hx hc hu
  ·rw[List.getElem?_append_right (by omega)]at hx;have hb:xs.length*z≤i*z:=Nat.mul_le_mul_right _ (by omega);rw[Array.getElem?_append,if_neg (by have:=h1.len;omega),h1.len]at hu;refine h2.rel (i-xs.length) x j c u hx hc ?_;rw[←hu];congr 1;rw[Nat.sub_mul];omega
theorem mg{z:Nat}{xs:List V}{us vs:Array Value}(h1:FRow s z xs us):∀(i:Nat) x (j:Nat) c u,xs[i]?=some x→x.cells[j]?=some c→(us++vs)[i*z+j]?=some u→Rel s c u:=fun i x j c u hx hc hu=>by
 have hj:=aE hc;have hi:=aE hx;have hl:=(h1.el x (List.mem_of_getElem? hx)).1;have hb:(i+1)*z≤xs.length*z:=Nat.mul_le_mul_right _ (by omega);rw[Nat.add_mul]at hb;rw[Array.getElem?_append,if_pos (by have:=h1.len;omega)]at hu;exact h1.rel i x j c u hx hc hu
theorem new_row(hg:Good s){e z need old:Nat}{all:List V}{us zs:Array Value}(hrow:FRow s z all us)(hall:all.length=need)(hmax:need≤maxLen)(hzs:zs.size=(grownCap s.w need old e-need)*z):
  let w':=s.w.drew.alloc (.cells (us++zs) e)
  Good (s.push w' s.w.heap.size (grownCap s.w need old e) (.buf e z all false))∧Step s (s.push w' s.w.heap.size (grownCap s.w need old e) (.buf e z all false))∧
   Rel (s.push w' s.w.heap.size (grownCap s.w need old e) (.buf e z all false)) (.buf s.H.length 0 need need) (.slice (some ⟨s.w.heap.size,0,none⟩) need (grownCap s.w need old e)):=by
 intro w';have hc:=grownCap_ge s.w need old e;have hcm:=grownCap_le_maxLen s.w need old e hmax
 have ho:∀b,b<s.w.heap.size→w'.heap[b]?=s.w.heap[b]?:=fun b hb=>eb s.w.drew _ b hb
 refine⟨fS hg rfl rfl rfl (by show s.w.heap.size≤(s.w.drew.alloc _).heap.size;simp) ho (Nat.le_refl _) (by show s.w.heap.size<(s.w.drew.alloc _).heap.size;simp) (fun hst=>?_),eV hg rfl rfl rfl (by show s.w.heap.size≤(s.w.drew.alloc _).heap.size;simp) ho (Nat.le_refl _),?_⟩
 ·refine⟨us++zs,?_,?_,?_,?_,hrow.el,mg (hrow.step hst)⟩
  ·intro _;simp only[St.push,ae];exact ec s.w.drew _
  ·simp only[St.push,ae,Array.size_append,hrow.len,hzs,hall];rw[←Nat.add_mul];congr 1;omega
  ·simp only[St.push,ae];omega
  ·simp only[St.push,ae];exact hcm
 ·refine .buf s.H.length 0 need need e z all false _ _ _ (by simp[St.push]) (by omega) (fun _=>?_);simp only[St.push,ae,Nat.zero_mul];exact⟨fun _=>trivial,trivial,by omega,by omega⟩
theorem pure_row(hg:Good s){e z need old:Nat}{all:List V}{us zs:Array Value}(hrow:FRow s z all us)(hall:all.length=need):
  let w':=s.w.drew.alloc (.cells (us++zs) e)
  Good (s.at w')∧Step s (s.at w')∧Rel (s.at w') (.lst z false all) (.slice (some ⟨s.w.heap.size,0,none⟩) need (grownCap s.w need old e)):=by
 intro w'
 have ho:∀b,b<s.w.heap.size→w'.heap[b]?=s.w.heap[b]?:=fun b hb=>eb s.w.drew _ b hb
 obtain⟨g1,g2⟩:=fQ hg (w:=w') rfl rfl rfl (by show s.w.heap.size≤(s.w.drew.alloc _).heap.size;simp) ho;refine⟨g1,g2,?_⟩;have hp:(s.at w').Prot s.w.heap.size:=⟨by show s.w.heap.size<(s.w.drew.alloc _).heap.size;simp,fun hF=>by have:=hg.fl _ hF;omega,fun k hk e=>by have:=(hg.lt k hk).1;have e':s.φ k=s.w.heap.size:=e;omega⟩;have hcell:w'.heap[s.w.heap.size]?=some (.cells (us++zs) e (0,0)):=ec s.w.drew _
 have:=Rel.lst (s:=s.at w') z false all (some ⟨s.w.heap.size,0,none⟩) (grownCap s.w need old e) s.w.heap.size 0 (fun i j=>(us[i*z+j]?).getD undef) (by rw[hall];exact grownCap_ge s.w need old e) (by simp) (fun _=>⟨rfl,hp⟩) hrow.el
  (fun i x j d hx hd=>by
   obtain⟨u,hu,_⟩:=hrow.at_ hx hd;have hlt:=(Array.getElem?_eq_some_iff.1 hu).1;show w'.cell? _=_;rw[Nat.zero_add,hu];simp only[World.cell?,hcell];rw[Array.getElem?_append,if_pos hlt,hu]
   rfl)
  (fun i x j d hx hd=>by
   obtain⟨u,hu,hr⟩:=hrow.at_ hx hd;rw[hu]
   exact hr.step g2)
 rwa [hall]at this
theorem append_sound(hT:TOk P T)(hg:Good s){t tx ty:TypeId}{x y r:V}{ux uy:Value}{H':List B}(hx:Rel s x ux)(hy:Rel s y uy)(h:oJ T s.H t tx x y=some (r,H')):
  ∃u s',(Builtin.append_ #[t,tx] ty #[ux,uy]).run P s.w = .ok u s'.w∧s'.H=H'∧Good s'∧Step s s'∧Rel s' r u:=by
 unfold oJ at h;split at h
 ·rename_i it ix hit hix;have hu:=hT.und t it hit;have hux:=hT.und tx ix hix;split at h
  ·rename_i e hd;rw[hd]at hu;split at h
   ·rename_i j hj;obtain⟨inf,q1,q2,q3,q4,q5,q6⟩:=hT.info e j hj;split at h
    ·rename_i hsz;obtain⟨hz,hsrc⟩:=hsz;split at h
     ·rename_i ys hys;obtain⟨news,hS,hF⟩:=mT (P:=P) hg hz hux hsrc hy hys;rw[←q2]at hS
      have hzs:∀n,(Builtin.zeroCells j.zval.cells n).size=n*j.size:=fun n=>by
       have:=((dN (s:=s) q5).cells (iD q5)).1;simp[Builtin.zeroCells,this,q6]
      have nothing:∀base sLen sCap,ux = .slice base sLen sCap→sLen≤sCap→ys.length=0→(Builtin.append_ #[t,tx] ty #[ux,uy]).run P s.w = .ok ux s.w:=fun base sLen sCap e1 e2 e3=>by
       have hn:news=[]:=List.eq_nil_of_length_eq_zero (by have:=hS.newsLen;rw[e3]at this;simpa using this);rw[e3,hn]at hS;subst e1;exact run_append_nothing s.w t tx ty e inf hu q1 base sLen sCap e2 uy hS
      split at h
      ·
       cases hx;split at h
       ·rename_i h0;cases h;exact⟨_,s,nothing none 0 0 rfl (Nat.le_refl _) h0,rfl,hg,Step.refl s,.nilS⟩
       ·rename_i h0;split at h
        ·rename_i hc;have hrun:=run_append_grow_src (P:=P) s.w t tx ty e inf j.zval hu q1 q4 none 0 0 [] (run_firstCells_none s.w.drew _ 0 0 0) uy ys.length news hS (by omega) (by omega) (growslice_fits (by omega) (by rw[q3,Nat.zero_add];omega));simp only[Nat.zero_add,List.nil_append]at hrun;split at h
         ·cases h;obtain⟨g1,g2,g3⟩:=pure_row (zs:=Builtin.zeroCells j.zval.cells (grownCap s.w ys.length 0 e-ys.length)) (old:=0) (e:=e) hg hF rfl;exact⟨_,s.at _,hrun,rfl,g1,g2,g3⟩
         cases h;obtain⟨g1,g2,g3⟩:=new_row (zs:=Builtin.zeroCells j.zval.cells (grownCap s.w ys.length 0 e-ys.length)) (old:=0) (e:=e) hg hF rfl (by simp only[maxLen];omega) (hzs _);exact⟨_,_,hrun,rfl,g1,g2,g3⟩
        ·cases h
      ·
       rename_i z full xs
       obtain⟨A,cap,rfl⟩:∃A cap,ux = .slice A xs.length cap:=by cases hx;exact⟨_,_,rfl⟩
       have hcap:xs.length≤cap∧(full=true→cap=xs.length):=by cases hx;exact⟨by assumption,by assumption⟩
       split at h
       ·rename_i h0;cases h;exact⟨_,s,nothing A xs.length cap rfl hcap.1 h0,rfl,hg,Step.refl s,hx⟩
       ·rename_i h0;split at h
        ·rename_i hc;obtain⟨rfl,hf,hc1,hc2⟩:=hc;have hcl:=hcap.2 hf;subst hcl;obtain⟨olds,hSo,hFo⟩:=mT (P:=P) (tx:=t) hg hz hu (y:=.lst j.size full xs) (ys:=xs) rfl hx (by simp[srcA]);rw[←q2]at hSo;have hrun:=run_append_grow_src (P:=P) s.w t tx ty e inf j.zval hu q1 q4 A xs.length xs.length olds hSo.cellsD uy ys.length news hS (by omega) (by omega) (growslice_fits (by omega) (by rw[q3];omega));have hFF:=nQ hFo hF;rw[show(olds++news).toArray=olds.toArray++news.toArray by simp]at hrun;split at h
         ·cases h;obtain⟨g1,g2,g3⟩:=pure_row (zs:=Builtin.zeroCells j.zval.cells (grownCap s.w (xs.length+ys.length) xs.length e-(xs.length+ys.length))) (old:=xs.length) (e:=e) (need:=xs.length+ys.length) hg hFF List.length_append;exact⟨_,s.at _,hrun,rfl,g1,g2,g3⟩
         cases h;obtain⟨g1,g2,g3⟩:=new_row (zs:=Builtin.zeroCells j.zval.cells (grownCap s.w (xs.length+ys.length) xs.length e-(xs.length+ys.length))) (old:=xs.length) (e:=e) hg hFF (by simp) (by simp only[maxLen];omega) (hzs _);exact⟨_,_,hrun,rfl,g1,g2,g3⟩
        ·cases h
      ·
       rename_i k off len tot;split at h
       ·rename_i e' z xs hk;split at h
        ·rename_i hc;obtain⟨hxt,rfl,rfl,rfl,rfl⟩:=hc
         cases hx with
         | buf _ _ _ _ e2 z2 xs2 fz2 A l c hk2 ht2 hh2 =>
          rw[hk]at hk2;cases hk2;obtain⟨hA,rfl,hcap,hoff⟩:=hh2 hxt.symm;obtain⟨vs,g2,g3,g4,g5,g6,g7⟩:=hg.blk k _ hk;simp only[Nat.zero_add]at hcap hoff;subst hcap;split at h
          ·rename_i h0;cases h;exact⟨_,s,nothing _ _ _ rfl (by omega) h0,rfl,hg,Step.refl s,.buf k 0 l l e' j.size xs false _ _ _ hk (by omega) (fun he=>⟨hA,rfl,by omega,by omega⟩)⟩
          ·rename_i h0;split at h
           ·rename_i hc;cases h;subst hxt;have hnl:=hS.newsLen;rw[q2]at hnl
            have hlen2:(xs++ys).length=xs.length+ys.length:=by simp
            have hold:FRow s j.size xs (vs.toList.take (xs.length*j.size)).toArray:=by
             have hb:xs.length*j.size≤s.κ k*j.size:=Nat.mul_le_mul_right _ g4;refine⟨by simp;omega,g6,fun i x m c u hx hc hu=>?_⟩
             have hu':(vs.toList.take (xs.length*j.size))[i*j.size+m]?=some u:=by simpa using hu
             rw[List.getElem?_take]at hu';split at hu'
             ·exact g7 i x m c u hx hc (by simpa using hu')
             ·cases hu'
            have hFF:=nQ hold hF;by_cases hroom:xs.length+ys.length≤s.κ k
            ·have hκ:s.κ k≠0:=by omega
             have hA:=hA hκ;subst hA;have g2:=g2 hκ;have hb:(xs.length+ys.length)*j.size≤s.κ k*j.size:=Nat.mul_le_mul_right _ hroom;rw[Nat.add_mul]at hb
             have hcell:∀m,m<news.length→(s.w.cell? ⟨s.φ k,0+xs.length*inf.size+m,none⟩).isSome=true:=fun m hm=>by
              rw[q2];simp only[World.cell?,g2];simp;omega
             have hfro:∀m,m<news.length→s.w.frozen? ⟨s.φ k,0+xs.length*inf.size+m,none⟩=false:=fun m hm=>by simp[World.frozen?,g2]
             have hrun:=run_append_room_src (P:=P) s.w t tx ty e' inf hu q1 (s.φ k) 0 xs.length (s.κ k) uy ys.length news hS hroom hcell hfro;rw[q2,Nat.zero_add,jK (s.φ k) e' news _ vs s.w g2 (by omega)]at hrun;rw[Nat.zero_mul];refine⟨_,s.grow _ k (s.φ k) (s.κ k) _,hrun,rfl,?_,mf hg hk (by omega) rfl rfl rfl (by simp) (fun b _ hne=>setRow_other _ _ _ _ (hne hκ)) (.inl ⟨rfl,hκ⟩),?_⟩
             ·refine grow_good hg hk (by omega) rfl rfl rfl (by simp) (fun b _ hne=>setRow_other _ _ _ _ (hne hκ)) (.inl ⟨rfl,hκ⟩) (by have:=(hg.lt k (lvB hk hκ)).1;simpa using this) (fun hst=>?_);refine⟨_,fun _=>by simp only[St.grow,ae];exact setRow_heap _ _ _ _ _ _ g2,?_,?_,?_,hFF.el,?_⟩
              ·simp only[St.grow,ae];rw[←g3];simp;omega
              ·simp only[St.grow,ae];omega
              ·simp only[St.grow,ae];exact g5
              ·have:=mg (vs:=(vs.toList.drop (xs.length*j.size+news.length)).toArray) (hFF.step hst);simpa using this
             ·refine .buf k 0 _ _ e' j.size (xs++ys) false _ _ _ (by simp[St.grow,aE hk]) (by omega) (fun _=>?_);simp only[St.grow,ae,Nat.zero_mul];exact⟨fun _=>trivial,trivial,by omega,by omega⟩
            ·have hold2:(Builtin.firstCells inf.size xs.length (.slice A xs.length (s.κ k))).run P s.w.drew = .ok (vs.toList.take (xs.length*j.size)).toArray s.w.drew:=by
              by_cases hl0:xs.length=0
              ·rw[hl0,Nat.zero_mul]
               cases A with
               | none=>simpa using run_firstCells_none s.w.drew inf.size 0 0 (s.κ k)
               | some a=>simpa using run_firstCells_some s.w.drew inf.size 0 a 0 (s.κ k) [] (by simp) (fun j u h=>by simp at h)
              have hκ:s.κ k≠0:=by omega
              have hA:=hA hκ;subst hA;have g2:=g2 hκ;have hb:xs.length*j.size≤s.κ k*j.size:=Nat.mul_le_mul_right _ g4;refine run_firstCells_some s.w.drew _ _ _ _ _ _ (by rw[q2];simp;omega) (fun m u hm=>?_);have hml:=aE hm;rw[List.getElem?_take]at hm;split at hm
              ·rw[cL];simp only[World.cell?];rw[show s.w.drew.heap=s.w.heap from rfl,g2];simpa using hm
              ·cases hm
             have hrun:=run_append_grow_src (P:=P) s.w t tx ty e' inf j.zval hu q1 q4 A xs.length (s.κ k) (vs.toList.take (xs.length*j.size)) hold2 uy ys.length news hS (by omega) (by omega) (growslice_fits (by omega) (by rw[q3];omega));have hcg:=grownCap_ge s.w (xs.length+ys.length) (s.κ k) e';have hcm:=grownCap_le_maxLen s.w (xs.length+ys.length) (s.κ k) e' (by simp only[maxLen];omega);rw[show(vs.toList.take (xs.length*j.size)++news).toArray=(vs.toList.take (xs.length*j.size)).toArray++news.toArray by simp]at hrun
             have ho:∀o b,b<s.w.heap.size→(s.κ k≠0→b≠s.φ k)→(s.w.drew.alloc o).heap[b]?=s.w.heap[b]?:=fun o b hb _=>eb s.w.drew o b hb
             refine⟨_,s.grow _ k s.w.heap.size (grownCap s.w (xs.length+ys.length) (s.κ k) e') _,hrun,rfl,?_,mf hg hk (by omega) rfl rfl rfl (by show s.w.heap.size≤(s.w.drew.alloc _).heap.size;simp) (ho _) (.inr (Nat.le_refl _)),?_⟩
             ·refine grow_good hg hk (by omega) rfl rfl rfl (by show s.w.heap.size≤(s.w.drew.alloc _).heap.size;simp) (ho _) (.inr (Nat.le_refl _)) (by show s.w.heap.size<(s.w.drew.alloc _).heap.size;simp) (fun hst=>?_);refine⟨_,fun _=>by simp only[St.grow,ae];exact ec s.w.drew _,?_,?_,?_,hFF.el,mg (hFF.step hst)⟩
              ·simp only[St.grow,ae,Array.size_append,hzs];have:=hFF.len;rw[Array.size_append]at this;rw[this,hlen2,←Nat.add_mul];congr 1;omega
              ·simp only[St.grow,ae];omega
              ·simp only[St.grow,ae];exact hcm
             ·refine .buf k 0 _ _ e' j.size (xs++ys) false _ _ _ (by simp[St.grow,aE hk]) (by omega) (fun _=>?_);simp only[St.grow,ae,Nat.zero_mul];exact⟨fun _=>trivial,trivial,by omega,by omega⟩
           ·cases h
        ·rename_i hno;split at h
         ·rename_i hc;obtain⟨hxt,rfl,rfl,hle⟩:=hc;cases h
          cases hx with
          | buf _ _ _ _ e2 z2 xs2 fz2 A l c hk2 ht2 hh2 =>
           rw[hk]at hk2;cases hk2;obtain⟨hA,rfl,hcap,hoff⟩:=hh2 hxt.symm;obtain⟨vs,g2,g3,g4,g5,g6,g7⟩:=hg.blk k _ hk
           have htp:tot≠0:=fun h0=>hno ⟨hxt,rfl,rfl,by omega,by omega⟩
           have hκ:s.κ k≠0:=by omega
           have hA:=hA hκ;subst hA;have g2:=g2 hκ;have hnl:=hS.newsLen;rw[q2]at hnl;have hb:(off+l+ys.length)*j.size≤s.κ k*j.size:=Nat.mul_le_mul_right _ (by omega);rw[Nat.add_mul,Nat.add_mul]at hb
           have hcell:∀m,m<news.length→(s.w.cell? ⟨s.φ k,off*j.size+l*inf.size+m,none⟩).isSome=true:=fun m hm=>by
            rw[q2];simp only[World.cell?,g2];simp;omega
           have hfro:∀m,m<news.length→s.w.frozen? ⟨s.φ k,off*j.size+l*inf.size+m,none⟩=false:=fun m hm=>by simp[World.frozen?,g2]
           have hrun:=run_append_room_src (P:=P) s.w t tx ty e' inf hu q1 (s.φ k) (off*j.size) l c uy ys.length news hS (by omega) hcell hfro;rw[q2,←Nat.add_mul,jK (s.φ k) e' news _ vs s.w g2 (by rw[Nat.add_mul];omega)]at hrun;obtain⟨f1,f2⟩:=fill_row (o:=off+l) hg hk hκ hF (by omega) g2 _ rfl;refine⟨_,_,hrun,rfl,f1,f2,?_⟩;refine .buf k off _ tot e' j.size (bW xs (off+l) ys) false _ _ _ (by simp[St.setB,aE hk]) (by rw[dt xs _ _ (by omega)];omega) (fun _=>?_);exact⟨fun _=>rfl,rfl,hcap,by omega⟩
         ·cases h
       ·cases h
      ·cases h
     ·cases h
    ·cases h
   ·cases h
  ·cases h
 ·cases h
def copyA(T:Ty)(H:List B)(t tx:TypeId)(x y:V):Option (V×List B):=
 match x with
 | .sarr k n=>match T t,T tx,H[k]? with
  | some it,some ix,some (.cells cs)=>match it.desc with
   | .slice e=>match T e with
    | some j=>if j.size=1∧srcT ix.desc y=true∧n=cs.length then
      (match srcA H 1 y with
      | some ys=>if ys.length≤n then some (.int .i64 ys.length,H.set k (.cells (bW cs 0 (ys.flatMap V.cells)))) else none
      | none=>none) else none
    | none=>none
   | _=>none
  | _,_,_=>none
 | _=>none
theorem copy_sound(hT:TOk P T)(hg:Good s){t tx ty:TypeId}{x y r:V}{ux uy:Value}{H':List B}(hx:Rel s x ux)(hy:Rel s y uy)(h:copyA T s.H t tx x y=some (r,H')):
  ∃u s',(Builtin.copy_ #[t,tx] ty #[ux,uy]).run P s.w = .ok u s'.w∧s'.H=H'∧Good s'∧Step s s'∧Rel s' r u:=by
 unfold copyA at h;split at h
 ·rename_i k n;split at h
  ·rename_i it ix cs hit hix hk;have hu:=hT.und t it hit;have hux:=hT.und tx ix hix;split at h
   ·rename_i e hd;rw[hd]at hu;split at h
    ·rename_i j hj;split at h
     ·rename_i hc;obtain⟨hz,hsrc,rfl⟩:=hc;split at h
      ·rename_i ys hys;split at h
       ·rename_i hle;cases h
        cases hx with
        | sarr _ _ cs' hk' =>
         obtain⟨news,hS,hF⟩:=mT (P:=P) hg (by omega:0<1) hux hsrc hy hys;obtain⟨h1,vs,e',h2,h3,h4⟩:=hg.blk k _ hk;have hone:∀y∈ys,y.cells.length=1∧∀c∈y.cells,c.one=true:=hF.el
         have hfl:(ys.flatMap V.cells).length=ys.length:=by
          clear hys hle hF hS
          induction ys with
          | nil=>rfl
          | cons y ys ih=>simp only[List.flatMap_cons,List.length_append,List.length_cons,(hone y (by simp)).1,ih (fun z hz=>hone z (by simp[hz]))];omega
         have hfat:∀(i:Nat) c,(ys.flatMap V.cells)[i]?=some c→∃y,ys[i]?=some y∧y.cells[0]?=some c:=by
          clear hys hle hF hS hfl
          induction ys with
          | nil=>intro i c hc;simp at hc
          | cons y ys ih =>
           intro i c hc;obtain⟨d,hd⟩:∃d,y.cells=[d]:=List.length_eq_one_iff.1 (hone y (by simp)).1;rw[List.flatMap_cons,hd]at hc
           cases i with
           | zero=>simp at hc;exact⟨y,rfl,by rw[hd,←hc];rfl⟩
           | succ i=>simpa using ih (fun z hz=>hone z (by simp[hz])) i c (by simpa using hc)
         have hnl:news.length=ys.length:=by rw[hS.newsLen];omega
         have hst:=run_storeCells_at (P:=P) (s.φ k) 0 e' news 0 vs s.w h2 (by simp;omega) hS.one;simp only[Nat.add_zero]at hst
         have hspl:(0:Nat)+(ys.flatMap V.cells).length≤cs.length:=by omega
         refine⟨.int .i64 ys.length,s.setB (s.w.setRow (s.φ k) (vs.toList.take 0++news++vs.toList.drop (0+news.length)).toArray) k (.cells (bW cs 0 (ys.flatMap V.cells))),?_,rfl,?_,?_,.int _ _⟩
         ·have hmin:Nat.min ys.length cs.length=ys.length:=Nat.min_eq_left hle;have hsz:=av (P:=P) hT hj;rw[hz]at hsz;simp only[Builtin.copy_,Sem.run_bind,Sem.run_pure,Result.andThen_ok,List.getElem?_toArray,List.getElem?_cons_zero,List.getElem?_cons_succ,run_underlying hu,hS.len,hmin,hsz,hS.cells,hst,goInt];rfl
         ·refine cH hg hk (lvC hk) trivial rfl rfl rfl (by simp) (fun b _ hne=>setRow_other _ _ _ _ hne) (fun hst=>?_);refine⟨fun c hc=>?_,_,e',setRow_heap _ _ _ _ _ _ h2,?_,fun j c u hc hu=>?_⟩
          ·rcases fY hc with h | h
           ·exact h1 c h
           ·obtain⟨y',hy',hc'⟩:=List.mem_flatMap.1 h;exact(hone y' hy').2 c hc'
          ·rw[dt cs 0 _ hspl];simp;omega
          ·rw[bW,bm cs 0 _ hspl]at hc
           have hu':(vs.toList.take 0++news++vs.toList.drop (0+news.length))[j]?=some u:=by simpa using hu
           rw[bm vs.toList 0 news (by simp;omega)]at hu';rw[hfl]at hc;rw[hnl]at hu';split at hc
           ·rename_i hjj;rw[if_pos hjj]at hu';obtain⟨y',hy1,hy2⟩:=hfat _ c hc;exact(hF.rel _ y' 0 c u hy1 hy2 (by simpa using hu')).step hst
           ·rename_i hjj;rw[if_neg hjj]at hu';exact(h4 j c u hc (by simpa using hu')).step hst
         ·exact bq hg hk (lvC hk) trivial rfl rfl rfl (by simp) (fun b _ hne=>setRow_other _ _ _ _ hne)
       ·cases h
      ·cases h
     ·cases h
    ·cases h
   ·cases h
  ·cases h
 ·cases h
def clearA(T:Ty)(H:List B)(t:TypeId)(x:V):Option (V×List B):=
 match x with
 | .buf k off len tot=>match T t,H[k]? with
  | some it,some (.buf e z xs false)=>match it.desc with
   | .slice e'=>match T e' with
    | some j=>if j.size=z∧0<z∧tot=xs.length∧off+len≤tot then some (.tup [],if len=0 then H else H.set k (.buf e z (bW xs off (List.replicate len j.zero)) false)) else none
    | none=>none
   | _=>none
  | _,_=>none
 | _=>none
theorem clear_sound(hT:TOk P T)(hg:Good s){t ty:TypeId}{x r:V}{ux:Value}{H':List B}(hx:Rel s x ux)(h:clearA T s.H t x=some (r,H')):
  ∃u s',(Builtin.clear_ #[t] ty #[ux]).run P s.w = .ok u s'.w∧s'.H=H'∧Good s'∧Step s s'∧Rel s' r u:=by
 unfold clearA at h;split at h
 ·rename_i k off len tot;split at h
  ·rename_i it e z xs hit hk;have hu:=hT.und t it hit;split at h
   ·rename_i e' hd;rw[hd]at hu;split at h
    ·rename_i j hj;split at h
     ·rename_i hc;obtain⟨rfl,hz,hxt,hle⟩:=hc
      cases hx with
      | buf _ _ _ _ e2 z2 xs2 fz2 A l c hk2 ht2 hh2 =>
       rw[hk]at hk2;cases hk2;obtain⟨hA,rfl,hcap,hoff⟩:=hh2 hxt;obtain⟨inf,q1,q2,q3,q4,q5,q6⟩:=hT.info e' j hj;by_cases hl0:l=0
       ·subst hl0;rw[if_pos rfl]at h;cases h;refine⟨.tuple #[],s,?_,rfl,hg,Step.refl s,.tup [] #[] rfl (by simp)⟩;cases A<;>simp[Builtin.clear_,run_underlying hu]
       ·rw[if_neg hl0]at h;cases h;obtain⟨vs,g2,g3,g4,g5,g6,g7⟩:=hg.blk k _ hk
        have hκ:s.κ k≠0:=by omega
        have hA:=hA hκ;subst hA;have g2:=g2 hκ;have hzr:Rel s j.zero j.zval:=dN q5;have hz1:=iD q5;obtain⟨z1,z2,z3⟩:=hzr.cells hz1
        have hsz:j.zval.cells.size=j.size:=by rw[z1,q6]
        have hzs:(Builtin.zeroCells j.zval.cells l).size=l*j.size:=by simp[Builtin.zeroCells,hsz]
        have hat:∀i,i<l*j.size→(Builtin.zeroCells j.zval.cells l)[i]?=j.zval.cells[i % j.size]?:=fun i hi=>by
         have:i % j.size<j.zval.cells.size:=by rw[hsz];exact Nat.mod_lt _ hz
         rw[Array.getElem?_eq_getElem this,←getElem!_pos j.zval.cells _ this];simp[Builtin.zeroCells,hsz,hi]
        have hF:FRow s j.size (List.replicate l j.zero) (Builtin.zeroCells j.zval.cells l).toList.toArray:=by
         refine⟨by simp[hzs],fun x hx=>?_,fun i x jj d u hx hd hu2=>?_⟩
         ·rw[List.eq_of_mem_replicate hx];exact⟨q6,by simpa using hz1⟩
         ·have hxe:=List.eq_of_mem_replicate (List.mem_of_getElem? hx);subst hxe
          have hi:i<l:=by have:=aE hx;simpa using this
          have hjj:=aE hd;have hb:(i+1)*j.size≤l*j.size:=Nat.mul_le_mul_right _ (by omega);rw[Nat.add_mul]at hb;rw[Array.toArray_toList,hat _ (by omega),show(i*j.size+jj) % j.size=jj by rw[Nat.mul_comm,Nat.mul_add_mod];exact Nat.mod_eq_of_lt (by omega)]at hu2;exact z2 jj d u hd hu2
        have hone:∀v∈(Builtin.zeroCells j.zval.cells l).toList,v.oneCell'=true:=fun v hv=>by
         obtain⟨i,hi⟩:=List.getElem?_of_mem hv;have hil:=aE hi;simp only[Array.length_toList,hzs]at hil;rw[Array.getElem?_toList,hat i hil]at hi;exact z3 v (by simpa using Array.mem_of_getElem? hi)
        have hb:(off+l)*j.size≤s.κ k*j.size:=Nat.mul_le_mul_right _ (by omega);rw[Nat.add_mul]at hb;have hst:=run_storeCells_at (P:=P) (s.φ k) (off*j.size) e (Builtin.zeroCells j.zval.cells l).toList 0 vs s.w g2 (by simp only[Array.length_toList,hzs];omega) hone;simp only[Nat.add_zero]at hst;obtain⟨f1,f2⟩:=fill_row (o:=off) hg hk hκ hF (by simp;omega) g2 _ rfl;refine⟨.tuple #[],_,?_,rfl,f1,f2,.tup [] #[] rfl (by simp)⟩
        have hzv:∀w,(zeroValue e').run P w = .ok j.zval w:=fun w=>by simp[zeroValue,typeInfo,q1,q4]
        obtain⟨m,rfl⟩:∃m,l=m+1:=⟨l-1,by omega⟩;simp only[Builtin.clear_,Sem.run_bind,Sem.run_pure,Result.andThen_ok,List.getElem?_toArray,List.getElem?_cons_zero,run_underlying hu,hzv,hst];rfl
     ·cases h
    ·cases h
   ·cases h
  ·cases h
 ·cases h
end
end Go.AM
namespace Go.AM
open Go
def kkOf(T:Ty)(t:TypeId):Option (KK×TypeId):=
 match T t with
 | some i=>match i.desc with
  | .map k e=>match T k with
   | some ik=>match ik.kk with
    | some kk=>some (kk,e)
    | none=>none
   | none=>none
  | _=>none
 | none=>none
def pG(T:Ty)(H:List B)(t:TypeId):Option (V×List B):=
 match kkOf T t with
 | some (kk,_)=>some (.map H.length,H++[.map kk []])
 | none=>none
def okRes(c:Bool)(v:V)(ok:Bool):V:=if c then .tup [v,.bool ok] else v
def oA(T:Ty)(H:List B)(t:TypeId)(m k:V)(c:Bool):Option V :=
 match kkOf T t with
 | some (kk,e)=>match T e with
  | some j=>if bA k=some kk then
    match m with
    | .nilM=>some (okRes c j.zero false)
    | .map r=>match H[r]? with
     | some (.map kk' es)=>if kk'=kk then
       match fu k es 0 with
       | some (_,v)=>some (okRes c v true)
       | none=>some (okRes c j.zero false)
      else none
     | _=>none
    | _=>none
   else none
  | none=>none
 | none=>none
def putA(k v:V)(es:List (V×V)):List (V×V):=
 match fu k es 0 with
 | some (i,_)=>es.set i (k,v)
 | none=>es++[(k,v)]
def fo(T:Ty)(H:List B)(t:TypeId)(m k v:V):Option (List B):=
 match kkOf T t with
 | some (kk,_)=>if bA k=some kk then
   match m with
   | .map r=>match H[r]? with
    | some (.map kk' es)=>if kk'=kk then some (H.set r (.map kk (putA k v es))) else none
    | _=>none
   | _=>none
  else none
 | none=>none
theorem ba_beq(a b:ByteArray):(a == b)=true↔a=b:=by
 cases a;cases b;rename_i x y;show(x == y)=true↔_;simp
section
variable {P:Program} {T:Ty} {s:St}
theorem eqIs_val:∀{cs ds:List V},eqIs cs ds=true→cs.all kT=true→ds.all kT=true→cs.map ei=ds.map ei
 | [],[],_,_,_=>rfl
 | [],_::_,h,_,_=>by simp[eqIs]at h
 | c::cs,[],h,_,_=>by cases c<;>simp[eqIs]at h
 | c::cs,d::ds,h,h1,h2=>by
  simp only[List.all_cons,Bool.and_eq_true]at h1 h2;obtain⟨h1,h1'⟩:=h1;obtain⟨h2,h2'⟩:=h2
  cases c<;>simp only[kT]at h1<;>try (cases h1;done)
  rename_i k a
  cases d<;>simp only[kT]at h2<;>try (cases h2;done)
  rename_i k' b;simp only[eqIs,Bool.and_eq_true,beq_iff_eq]at h;obtain⟨rfl,h⟩:=h;rw[List.map_cons,List.map_cons,eqIs_val h h1' h2']
  cases k<;>simp only at h1<;>try (cases h1;done)
  cases k'<;>simp only at h2<;>try (cases h2;done)
  rfl
theorem lU{cs:List V}{kk:KK}(h:bA (.agg cs)=some kk):cs.all kT=true:=by
 simp only[bA]at h;split at h
 ·assumption
 ·cases h
theorem keyEq_val{v k:V}{kk:KK}(h:cA v k=true)(h1:bA v=some kk)(h2:bA k=some kk):dZ v=dZ k:=by
 cases v<;>cases k<;>simp only[cA]at h<;>try (cases h;done)
 case int.int k a k' b=>simp only[bA,Option.some.injEq]at h1 h2;subst h1;cases h2;simp at h;subst h;rfl
 case str.str a b=>rw[ba_beq]at h;subst h;rfl
 case bool.bool a b=>simp at h;subst h;rfl
 case agg.agg cs ds=>simp only[dZ];rw[eqIs_val h (lU h1) (lU h2)]
theorem key_val{v:V}{u:Value}{kk:KK}(h:Rel s v u)(hk:bA v=some kk):u=dZ v:=by
 cases h<;>simp only[bA]at hk<;>try (cases hk;done)
 case int=>rfl
 case str=>rfl
 case bool=>rfl
 case agg cs us hl h1 hr =>
  have ha:=lU hk;simp only[dZ];congr 1;apply Array.ext
  ·simp[hl]
  ·intro i hi1 hi2
   have hi:i<cs.length:=by omega
   have e:cs[i]?=some cs[i]:=List.getElem?_eq_getElem hi
   have hu:us[i]?=some us[i]:=by simp[hi1]
   have hrr:=hr i _ _ e hu
   have h64:kT cs[i]=true:=by rw[List.all_eq_true]at ha;exact ha _ (List.getElem_mem hi)
   generalize cs[i]=c at *
   have:us[i]=ei c:=by
    obtain⟨u',hu'⟩:∃u',us[i]=u':=⟨_,rfl⟩;rw[hu']at hrr ⊢
    cases hrr<;>simp only[kT]at h64<;>try (cases h64;done)
    rfl
   rw[this];simp[List.getElem?_eq_some_iff]at e;obtain⟨_,rfl⟩:=e;simp
theorem pZ(k:V):∀(es:List (V×V)) (n:Nat),(fu k es n=none∧∀p∈es,cA k p.1=false)∨
  ∃i p,fu k es n=some (n+i,p.2)∧es[i]?=some p∧cA k p.1=true∧∀j p',j<i→es[j]?=some p'→cA k p'.1=false
 | [],n=>.inl ⟨rfl,by simp⟩
 | p::es,n=>by
  cases h:cA k p.1
  ·rcases pZ k es (n+1) with⟨h1,h2⟩ | ⟨i,q,h1,h2,h3,h4⟩
   ·exact .inl ⟨by simp[fu,h,h1],fun q hq=>(List.mem_cons.1 hq).elim (fun e=>by rw[e];exact h) (h2 q)⟩
   ·refine .inr ⟨i+1,q,by simp[fu,h,h1];omega,by simpa using h2,h3,fun j p' hj hp=>?_⟩
    cases j with
    | zero=>simp at hp;subst hp;exact h
    | succ j=>exact h4 j p' (by omega) (by simpa using hp)
  ·exact .inr ⟨0,p,by simp[fu,h],rfl,h,fun j _ hj=>absurd hj (by omega)⟩
theorem kkOf_spec(hT:TOk P T){t e:TypeId}{kk:KK}(h:kkOf T t=some (kk,e)):∃k,P.underlying t=some (.map k e)∧KLaw P k kk:=by
 unfold kkOf at h;split at h
 ·rename_i i hi;split at h
  ·rename_i k e' hd;have hu:=hT.und t i hi;rw[hd]at hu;split at h
   ·rename_i ik hik;split at h
    ·rename_i kk' hkk;cases h;exact⟨k,hu,hT.key k ik kk hik hkk⟩
    ·cases h
   ·cases h
  ·cases h
 ·cases h
theorem pX(hg:Good s){r:Nat}{kk:KK}{es:List (V×V)}(hr:s.H[r]?=some (.map kk es)){t:TypeId}(L:KLaw P t kk){k:V}(hk:bA k=some kk):
  ∃(ms:Array MapEntry) (cl:Nat),s.w.heap[s.φ r]?=some (.map ms cl)∧ms.size=es.length∧(∀(i:Nat) p m,es[i]?=some p→ms[i]?=some m→Rel s p.1 m.key∧Rel s p.2 m.val∧m.key=dZ p.1)∧
   ((fu k es 0=none∧(Instr.findKey t (dZ k) ms.toList).run P s.w = .ok none s.w)∨
    ∃i p m,fu k es 0=some (i,p.2)∧es[i]?=some p∧ms[i]?=some m∧cA k p.1=true∧(Instr.findKey t (dZ k) ms.toList).run P s.w = .ok (some (i,m.val)) s.w):=by
 obtain⟨h1,ms,cl,h2,h3,h4⟩:=hg.blk r _ hr
 have hkey:∀(i:Nat) p m,es[i]?=some p→ms[i]?=some m→m.key=dZ p.1:=fun i p m hp hm=>key_val (h4 i p m hp hm).1 (h1 p (List.mem_of_getElem? hp))
 refine⟨ms,cl,h2,h3,fun i p m hp hm=>⟨(h4 i p m hp hm).1,(h4 i p m hp hm).2,hkey i p m hp hm⟩,?_⟩
 have hmap:ms.toList.map (·.key)=(es.map (·.1)).map dZ:=by
  apply List.ext_getElem?;intro i;simp only[List.getElem?_map,Array.getElem?_toList];by_cases hi:i<es.length
  ·have e1:es[i]?=some es[i]:=List.getElem?_eq_getElem hi
   have e2:ms[i]?=some (ms[i]'(by omega)):=by simp[h3,hi]
   rw[e1,e2];simp only[Option.map_some,hkey i _ _ e1 e2]
  ·rw[List.getElem?_eq_none (by omega),Array.getElem?_eq_none (by omega)];rfl
 obtain⟨r',hrun,hres⟩:=L.find s.w k (es.map (·.1)) ms.toList hk (fun x hx=>by obtain⟨p,hp,rfl⟩:=List.mem_map.1 hx;exact h1 p hp) hmap
 rcases pZ k es 0 with⟨f1,f2⟩ | ⟨i,p,f1,f2,f3,f4⟩
 ·left;refine⟨f1,?_⟩
  rcases hres with⟨rfl,_⟩ | ⟨i,k',e,rfl,q1,_,q3,_⟩
  ·exact hrun
  ·simp only[List.getElem?_map,Option.map_eq_some_iff]at q1;obtain⟨p,hp,rfl⟩:=q1;rw[f2 p (List.mem_of_getElem? hp)]at q3;cases q3
 ·right;rw[Nat.zero_add]at f1;have hi:=aE f2
  have e2:ms[i]?=some (ms[i]'(by omega)):=by simp[h3,hi]
  refine⟨i,p,_,f1,f2,e2,f3,?_⟩
  rcases hres with⟨rfl,hno⟩ | ⟨i',k',e,rfl,q1,q2,q3,q4⟩
  ·rw[hno p.1 (List.mem_map.2 ⟨p,List.mem_of_getElem? f2,rfl⟩)]at f3;cases f3
  ·simp only[List.getElem?_map,Option.map_eq_some_iff]at q1;obtain⟨p',hp',rfl⟩:=q1
   have:i=i':=by
    rcases Nat.lt_trichotomy i i' with h | h | h
    ·rw[q4 i p.1 h (by simp[f2])]at f3;cases f3
    ·exact h
    ·rw[f4 i' p' h hp']at q3;cases q3
   subst this
   have:e=ms[i]'(by omega):=by rw[Array.getElem?_toList,e2]at q2;cases q2;rfl
   subst this;exact hrun
theorem mZ{c ok:Bool}{v:V}{u:Value}(h:Rel s v u):Rel s (okRes c v ok) (if c then .tuple #[u,.bool ok] else u):=by
 unfold okRes;cases c
 ·exact h
 ·refine .tup _ _ rfl (fun i x w hx hw=>?_)
  match i with
  | 0=>simp at hx hw;subst hx;subst hw;exact h
  | 1=>simp at hx hw;subst hx;subst hw;exact .bool _
  | n+2=>simp at hx
theorem lookup_sound(hT:TOk P T)(hg:Good s){t:TypeId}{m k r:V}{um uk:Value}{c:Bool}(hm:Rel s m um)(hk:Rel s k uk)(h:oA T s.H t m k c=some r):
  ∃u,(Instr.lookup t um uk c).run P s.w = .ok u s.w∧Rel s r u:=by
 unfold oA at h;split at h
 ·rename_i kk e hkk;obtain⟨kt,hu,L⟩:=kkOf_spec hT hkk;split at h
  ·rename_i j hj;obtain⟨inf,q1,q2,q3,q4,q5,q6⟩:=hT.info e j hj;split at h
   ·rename_i hkind;have huk:=key_val hk hkind;subst huk;split at h
    ·cases hm;cases h;have hf:=L.find s.w k [] [] hkind (by simp) rfl;obtain⟨r',hrun,hres⟩:=hf
     have:r'=none:=by
      rcases hres with⟨h,_⟩ | ⟨i,k',e',_,h2,_⟩
      ·exact h
      ·simp at h2
     subst this;refine⟨_,?_,mZ (dN q5)⟩;simp[Instr.lookup,run_underlying hu,L.check _ _ k hkind,hrun,gZ hT hj]
    ·rename_i rr;split at h
     ·rename_i kk' es hr;split at h
      ·rename_i hkk';subst hkk';cases hm;obtain⟨ms,cl,h2,h3,h4,hf⟩:=pX hg hr L hkind
       rcases hf with⟨f1,f2⟩ | ⟨i,p,mm,f1,f2,f3,f4,f5⟩
       ·rw[f1]at h;cases h;refine⟨_,?_,mZ (dN q5)⟩;simp[Instr.lookup,run_underlying hu,MapKept.run_getObj_map h2,L.check _ _ k hkind,f2,gZ hT hj]
       ·rw[f1]at h;cases h;refine⟨_,?_,mZ (h4 i p mm f2 f3).2.1⟩;simp[Instr.lookup,run_underlying hu,MapKept.run_getObj_map h2,L.check _ _ k hkind,f5]
      ·cases h
     ·cases h
    ·cases h
   ·cases h
  ·cases h
 ·cases h
theorem sameBits_val{v:V}{kk:KK}(h:bA v=some kk):Instr.sameBits 10000 (dZ v) (dZ v)=true:=by
 cases v<;>simp only[bA]at h<;>try (cases h;done)
 case int=>simp[dZ,ei,Instr.sameBits]
 case str=>simp only[dZ,ei,Instr.sameBits];exact(ba_beq _ _).2 rfl
 case bool=>simp[dZ,ei,Instr.sameBits]
 case agg cs =>
  have ha:=lU h;simp only[dZ,Instr.sameBits];simp only[beq_self_eq_true,Bool.true_and,List.all_eq_true];intro p hp
  have hp':∃c∈cs,p=(ei c,ei c):=by
   clear h ha
   induction cs with
   | nil=>simp at hp
   | cons c cs ih =>
    simp only[List.map_cons,List.zip_cons_cons,List.mem_cons]at hp
    rcases hp with rfl | hp
    ·exact⟨c,by simp,rfl⟩
    ·obtain⟨c',h1,h2⟩:=ih hp;exact⟨c',by simp[h1],h2⟩
  obtain⟨c,hc,rfl⟩:=hp';have h64:=List.all_eq_true.1 ha c hc
  cases c<;>simp only[kT]at h64<;>try (cases h64;done)
  simp[ei,Instr.sameBits]
theorem jC(hT:TOk P T)(hg:Good s){t:TypeId}{m k v:V}{um uk uv:Value}{H':List B}(hm:Rel s m um)(hk:Rel s k uk)(hv:Rel s v uv)(h:fo T s.H t m k v=some H'):
  ∃s',(Instr.mapUpdate t um uk uv).run P s.w = .ok () s'.w∧s'.H=H'∧Good s'∧Step s s':=by
 unfold fo at h;split at h
 ·rename_i kk e hkk;obtain⟨kt,hu,L⟩:=kkOf_spec hT hkk;split at h
  ·rename_i hkind;have huk:=key_val hk hkind;split at h
   ·rename_i rr;split at h
    ·rename_i kk' es hr;split at h
     ·rename_i hkk';subst hkk';cases h;cases hm;obtain⟨h0,_⟩:=hg.blk rr _ hr;obtain⟨ms,cl,h2,h3,h4,hf⟩:=pX hg hr L hkind;have hlt:=(Array.getElem?_eq_some_iff.1 h2).1
      have other:∀o b,b<s.w.heap.size→b≠s.φ rr→({ s.w with heap:=s.w.heap.setIfInBounds (s.φ rr) o } : World).heap[b]?=s.w.heap[b]?:=fun o b _ hne=>by
       show(s.w.heap.setIfInBounds _ _)[b]?=_;rw[Array.getElem?_setIfInBounds_ne (Ne.symm hne)]
      have same:∀o,({ s.w with heap:=s.w.heap.setIfInBounds (s.φ rr) o } : World).heap[s.φ rr]?=some o:=fun o=>by
       show(s.w.heap.setIfInBounds _ _)[_]?=_;simp[hlt]
      rcases hf with⟨f1,f2⟩ | ⟨i,p,mm,f1,f2,f3,f4,f5⟩
      ·have hput:putA k v es=es++[(k,v)]:=by unfold putA;rw[f1]
       rw[hput];refine⟨s.setB { s.w with heap:=s.w.heap.setIfInBounds (s.φ rr) (.map (ms.push { key:=uk,val:=uv,born:=cl }) (cl+1)) } rr (.map kk' (es++[(k,v)])),?_,rfl,?_,bq hg hr (lvM hr) rfl rfl rfl rfl (by simp) (other _)⟩
       ·rw[huk]at *;simp[Instr.mapUpdate,run_underlying hu,MapKept.run_getObj_map h2,L.check _ _ k hkind,f2,MapKept.run_setObj_map _ h2,St.setB]
       ·refine cH hg hr (lvM hr) rfl rfl rfl rfl (by simp) (other _) (fun hst=>?_);refine⟨fun q hq=>?_,_,_,same _,by simp[h3],fun i q m hq hm=>?_⟩
        ·rcases List.mem_append.1 hq with h | h
         ·exact h0 q h
         ·simp at h;subst h;exact hkind
        ·by_cases hi:i<es.length
         ·rw[List.getElem?_append_left hi]at hq;rw[Array.getElem?_push,if_neg (by omega)]at hm;exact⟨(h4 i q m hq hm).1.step hst,(h4 i q m hq hm).2.1.step hst⟩
         ·have hil:=aE hq;simp at hil
          obtain rfl:i=es.length:=by omega
          rw[List.getElem?_append_right (by omega)]at hq;rw[Array.getElem?_push,if_pos (by omega)]at hm;simp at hq hm;subst hq;subst hm;exact⟨hk.step hst,hv.step hst⟩
      ·have hput:putA k v es=es.set i (k,v):=by unfold putA;rw[f1]
       rw[hput]
       have hold:mm.key=uk:=by rw[(h4 i p mm f2 f3).2.2,huk];exact(keyEq_val f4 hkind (h0 p (List.mem_of_getElem? f2))).symm
       have hil:=aE f2;refine⟨s.setB { s.w with heap:=s.w.heap.setIfInBounds (s.φ rr) (.map (ms.modify i fun e=>{ e with key:=uk,val:=uv }) cl) } rr (.map kk' (es.set i (k,v))),?_,rfl,?_,bq hg hr (lvM hr) rfl rfl rfl rfl (by simp) (other _)⟩
       ·have hst:(Instr.keyThatStays uk uk).run P s.w = .ok uk s.w:=by unfold Instr.keyThatStays;rw[huk,sameBits_val hkind];simp
        rw[huk]at hst hold ⊢;simp[Instr.mapUpdate,run_underlying hu,MapKept.run_getObj_map h2,L.check _ _ k hkind,f5,f3,hold,hst,MapKept.run_setObj_map _ h2,St.setB]
       ·refine cH hg hr (lvM hr) rfl rfl rfl rfl (by simp) (other _) (fun hst=>?_);refine⟨fun q hq=>?_,_,_,same _,by simp[h3],fun j q m hq hm=>?_⟩
        ·rcases List.mem_or_eq_of_mem_set hq with h | rfl
         ·exact h0 q h
         ·exact hkind
        ·rw[Array.getElem?_modify]at hm;by_cases hj:i=j
         ·subst hj;rw[List.getElem?_set_self hil]at hq;rw[if_pos rfl,f3]at hm;cases hq;cases hm;exact⟨hk.step hst,hv.step hst⟩
         ·rw[List.getElem?_set_ne hj]at hq;rw[if_neg hj]at hm;exact⟨(h4 j q m hq hm).1.step hst,(h4 j q m hq hm).2.1.step hst⟩
     ·cases h
    ·cases h
   ·cases h
  ·cases h
 ·cases h
end
end Go.AM
end
