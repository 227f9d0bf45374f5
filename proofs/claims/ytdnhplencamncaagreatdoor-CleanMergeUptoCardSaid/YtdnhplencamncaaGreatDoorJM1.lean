/- JM1: own texts of this seat, joined and shortened by pack4.py: AMa. -/
import Derived.WalkKit
import Derived.Below
import Derived.Maps.AppendAt
import Derived.Deep.Draws
import Derived.Laws.Cells
import Derived.Laws.CopyRow
import Derived.Great.BuildSlice
import Derived.Laws.MakeOwn
set_option linter.unusedVariables false
set_option linter.unusedSimpArgs false
set_option maxRecDepth 100000
set_option maxHeartbeats 64000000
open Array renaming getElem?_toList→pV,length_toList→ph,eq_empty_of_size_eq_zero→qd,range→rq
open List renaming replicate→oE,getElem?_eq_getElem→oG,mem_of_getElem?→oH,getElem_mem→oI,getElem?_append_left→oL,range→oM,getElem?_set_ne→oQ,getElem?_append_right→oS,getElem?_set_self→oX,length_cons→og,append_assoc→oh,map_cons→oq,length_take→ot,getElem?_take→pD,getElem?_eq_none→pK,getElem?_drop→pP,mem_of_mem_take→pQ,ext_getElem?→pT,eq_of_mem_replicate→pi,mem_of_mem_drop→pq,mem_or_eq_of_mem_set→pu,mem_append→qB,getElem?_cons_zero→qI,getElem?_of_mem→qU,all_cons→rh,foldl_cons→ri
open Nat renaming le_refl→oJ,mul_le_mul_right→ol,lt_of_lt_of_le→om,add_mul→ov,zero_add→pI,lt_or_ge→pS,le_trans→pY,add_assoc→pm,sub_self→px,zero_mul→pz,add_zero→qH,zero_le→qV,mul_comm→qr,mod_eq_of_lt→rZ,mul_add_mod→rj,mod_lt→ro
open Option renaming getD_some→qG
section
namespace Go.AM
open Go
inductive V where
 | undef
 | bool (b:Bool)
 | int (k:IntKind) (n:Int)
 | str (s:ByteArray)
 | nilS
 | lst (z:Nat) (full:Bool) (xs:List V)
 | buf (k off len tot:Nat)
 | nilP
 | ptr (k off:Nat)
 | pin (cs:List V) (off:Nat)
 | pbuf (k i off tot:Nat)
 | sarr (k n:Nat)
 | nilM
 | map (k:Nat)
 | fn (f:FuncId) (caps:List V)
 | nilFn
 | nilI
 | ifc
 | agg (cs:List V)
 | tup (vs:List V)
 deriving Inhabited
def V.cells:V→List V
 | .agg cs=>cs
 | v=>[v]
def V.one:V→Bool
 | .undef | .agg _ | .tup _=>false
 | _=>true
inductive KK where
 | int (k:IntKind)
 | str
 | bool
 | arr (n:Nat)
 deriving DecidableEq
def gS:V→Bool
 | .int .i64 _=>true
 | _=>false
def ag:V→Option KK
 | .int k _=>some (.int k)
 | .str _=>some .str
 | .bool _=>some .bool
 | .agg cs=>if cs.all gS then some (.arr cs.length) else none
 | _=>none
inductive B where
 | cells (cs:List V)
 | map (kk:KK) (es:List (V×V))
 | buf (e z:Nat) (xs:List V) (fz:Bool)
structure St where
 F:Nat→Prop
 w:World
 φ:Nat→Nat
 κ:Nat→Nat
 H:List B
def Lv(s:St)(k:Nat):Prop:=k<s.H.length∧∀e z xs fz,s.H[k]?=some (.buf e z xs fz)→s.κ k≠0
theorem lvC{s:St}{k:Nat}{cs:List V}(h:s.H[k]?=some (.cells cs)):Lv s k:=⟨(List.getElem?_eq_some_iff.1 h).1,fun e z xs fz h'=>by rw[h]at h';cases h'⟩
theorem lvM{s:St}{k:Nat}{kk:KK}{es:List (V×V)}(h:s.H[k]?=some (.map kk es)):Lv s k:=⟨(List.getElem?_eq_some_iff.1 h).1,fun e z xs fz h'=>by rw[h]at h';cases h'⟩
theorem lvB{s:St}{k e z:Nat}{xs:List V}{fz:Bool}(h:s.H[k]?=some (.buf e z xs fz))(hk:s.κ k≠0):Lv s k:=⟨(List.getElem?_eq_some_iff.1 h).1,fun _ _ _ _ _=>hk⟩
def St.Prot(s:St)(b:Nat):Prop:=b<s.w.heap.size∧¬s.F b∧∀k,Lv s k→s.φ k=b→∃e z xs,s.H[k]?=some (.buf e z xs true)
inductive Rel (s:St):V→Value→Prop
 | undef (u:Value):Rel s .undef u
 | bool (b:Bool):Rel s (.bool b) (.bool b)
 | int (k:IntKind) (n:Int):Rel s (.int k n) (.int k n)
 | str (x:ByteArray):Rel s (.str x) (.string x)
 | nilS:Rel s .nilS (.slice none 0 0)
 | lst (z:Nat) (full:Bool) (xs:List V) (A:Option Addr) (cap b off:Nat) (u:Nat→Nat→Value)
   (hcap:xs.length≤cap) (hfull:full=true→cap=xs.length) (hA:0<xs.length→A=some ⟨b,off,none⟩∧s.Prot b)
   (hz:∀x∈xs,x.cells.length=z∧∀c∈x.cells,c.one=true)
   (hcell:∀i x j c,xs[i]?=some x→x.cells[j]?=some c→s.w.cell? ⟨b,off+i*z+j,none⟩=some (u i j))
   (hrel:∀i x j c,xs[i]?=some x→x.cells[j]?=some c→Rel s c (u i j)):Rel s (.lst z full xs) (.slice A xs.length cap)
 | buf (k off len tot:Nat) (e z:Nat) (xs:List V) (fz:Bool) (A:Option Addr) (l c:Nat) (hk:s.H[k]?=some (.buf e z xs fz)) (ht:tot≤xs.length)
   (h:tot=xs.length→(s.κ k≠0→A=some ⟨s.φ k,off*z,none⟩)∧l=len∧off+c=s.κ k∧off+len≤tot):Rel s (.buf k off len tot) (.slice A l c)
 | nilP:Rel s .nilP (.pointer none)
 | ptr (k off:Nat) (cs:List V) (hk:s.H[k]?=some (.cells cs)):Rel s (.ptr k off) (.pointer (some ⟨s.φ k,off,none⟩))
 | pin (cs:List V) (off b o:Nat) (u:Nat→Value) (hp:s.Prot b) (h1:∀c∈cs,c.one=true)
   (hcell:∀j c,cs[off+j]?=some c→s.w.cell? ⟨b,o+j,none⟩=some (u j))
   (hrel:∀j c,cs[off+j]?=some c→Rel s c (u j)):Rel s (.pin cs off) (.pointer (some ⟨b,o,none⟩))
 | pbuf (k i off tot:Nat) (e z:Nat) (xs:List V) (fz:Bool) (p:Addr) (hk:s.H[k]?=some (.buf e z xs fz)) (ht:tot≤xs.length)
   (h:tot=xs.length→p=⟨s.φ k,i*z+off,none⟩):Rel s (.pbuf k i off tot) (.pointer (some p))
 | sarr (k n:Nat) (cs:List V) (hk:s.H[k]?=some (.cells cs)):Rel s (.sarr k n) (.slice (some ⟨s.φ k,0,none⟩) n n)
 | nilM:Rel s .nilM (.map none)
 | map (k:Nat) (kk:KK) (es:List (V×V)) (hk:s.H[k]?=some (.map kk es)):Rel s (.map k) (.map (some (s.φ k)))
 | fn (f:FuncId) (caps:List V) (us:Array Value) (hl:us.size=caps.length) (h:∀(i:Nat) c u,caps[i]?=some c→us[i]?=some u→Rel s c u):Rel s (.fn f caps) (.func (.func f) #[] us)
 | nilFn:Rel s .nilFn .nilFunc
 | nilI:Rel s .nilI .nilIface
 | ifc (t:TypeId) (x:Value):Rel s .ifc (.iface t x)
 | agg (cs:List V) (us:Array Value) (hl:us.size=cs.length) (h1:∀c∈cs,c.one=true) (h:∀(i:Nat) c u,cs[i]?=some c→us[i]?=some u→Rel s c u):Rel s (.agg cs) (.agg us)
 | tup (vs:List V) (us:Array Value) (hl:us.size=vs.length) (h:∀(i:Nat) c u,vs[i]?=some c→us[i]?=some u→Rel s c u):Rel s (.tup vs) (.tuple us)
def BRel(s:St)(k:Nat):B→Prop
 | .cells cs=>(∀c∈cs,c.one=true)∧∃(vs:Array Value) (t:TypeId),s.w.heap[s.φ k]?=some (.cells vs t (0,0))∧vs.size=cs.length∧∀(i:Nat) c u,cs[i]?=some c→vs[i]?=some u→Rel s c u
 | .map kk es=>(∀p∈es,ag p.1=some kk)∧∃(ms:Array MapEntry) (clock:Nat),s.w.heap[s.φ k]?=some (.map ms clock)∧ms.size=es.length∧∀(i:Nat) p m,es[i]?=some p→ms[i]?=some m→Rel s p.1 m.key∧Rel s p.2 m.val
 | .buf e z xs _=>∃(vs:Array Value),(s.κ k≠0→s.w.heap[s.φ k]?=some (.cells vs e (0,0)))∧vs.size=s.κ k*z∧xs.length≤s.κ k∧s.κ k≤maxLen∧(∀x∈xs,x.cells.length=z∧∀c∈x.cells,c.one=true)∧
   ∀(i:Nat) x (j:Nat) c u,xs[i]?=some x→x.cells[j]?=some c→vs[i*z+j]?=some u→Rel s c u
structure Good (s:St):Prop where
 fl:∀b,s.F b→b<s.w.heap.size
 lt:∀k,Lv s k→s.φ k<s.w.heap.size∧¬s.F (s.φ k)
 inj:∀j k,Lv s j→Lv s k→s.φ j=s.φ k→j=k
 blk:∀k bl,s.H[k]?=some bl→BRel s k bl
def BStep(s s':St)(k:Nat):B→Prop
 | .cells _=>s'.φ k=s.φ k∧∃cs,s'.H[k]?=some (.cells cs)
 | .map kk _=>s'.φ k=s.φ k∧∃es,s'.H[k]?=some (.map kk es)
 | .buf e z xs fz=>∃xs' fz',s'.H[k]?=some (.buf e z xs' fz')∧xs.length≤xs'.length∧(xs.length=xs'.length→s'.φ k=s.φ k∧s'.κ k=s.κ k)∧
   (fz=true→fz'=true∧xs'=xs∧(s.κ k≠0→s'.w.heap[s.φ k]?=s.w.heap[s.φ k]?))∧(s'.φ k=s.φ k∨s.w.heap.size≤s'.φ k)∧(s.κ k=0→s'.κ k=0∨s.w.heap.size≤s'.φ k)
structure Step (s s':St):Prop where
 F:s'.F=s.F
 os:s'.w.os=s.w.os
 tape:s'.w.tape=s.w.tape
 output:s'.w.output=s.w.output
 size:s.w.heap.size≤s'.w.heap.size
 out:∀b,b<s.w.heap.size→(∀k,Lv s k→s.φ k≠b)→s'.w.heap[b]?=s.w.heap[b]?
 len:s.H.length≤s'.H.length
 new:∀k,s.H.length≤k→Lv s' k→s.w.heap.size≤s'.φ k
 keep:∀k bl,s.H[k]?=some bl→BStep s s' k bl
theorem Step.refl(s:St):Step s s where
 F:=rfl
 os:=rfl
 tape:=rfl
 output:=rfl
 size:=oJ _
 out _ _ _:=rfl
 len:=oJ _
 new k h1 h2:=absurd h1 (by have:=h2.1;omega)
 keep k bl h:=by
  cases bl with
  | cells cs=>exact⟨rfl,cs,h⟩
  | map kk es=>exact⟨rfl,es,h⟩
  | buf e z xs fz=>exact⟨xs,fz,h,oJ _,fun _=>⟨rfl,rfl⟩,fun hf=>⟨hf,rfl,fun _=>rfl⟩,.inl rfl,.inl⟩
theorem aB{α:Type}{l:List α}{k:Nat}{x:α}(h:l[k]?=some x):k<l.length:=(List.getElem?_eq_some_iff.1 h).1
theorem Step.prot{s s':St}(h:Step s s'){b:Nat}(hp:s.Prot b):s'.Prot b∧s'.w.heap[b]?=s.w.heap[b]?:=by
 obtain⟨h1,h2,h3⟩:=hp
 have hsame:s'.w.heap[b]?=s.w.heap[b]?:=by
  by_cases hk:∃k,Lv s k∧s.φ k=b
  ·obtain⟨k,hk,rfl⟩:=hk;obtain⟨e,z,xs,hb⟩:=h3 k hk rfl;obtain⟨xs',fz',_,_,_,hf,_⟩:=h.keep k _ hb;exact(hf rfl).2.2 (hk.2 _ _ _ _ hb)
  ·exact h.out b h1 (fun k hk' e=>hk ⟨k,hk',e⟩)
 refine⟨⟨om h1 h.size,by rw[h.F];exact h2,fun k hk e=>?_⟩,hsame⟩;by_cases hkl:k<s.H.length
 ·have hbk:s.H[k]?=some s.H[k]:=oG hkl;generalize s.H[k]=bl at hbk;have hst:=h.keep k bl hbk
  cases bl with
  | cells cs =>
   obtain⟨e1,cs',_⟩:=hst;obtain⟨_,_,_,hb⟩:=h3 k (lvC hbk) (e1.symm.trans e);rw[hbk]at hb;cases hb
  | map kk es =>
   obtain⟨e1,es',_⟩:=hst;obtain⟨_,_,_,hb⟩:=h3 k (lvM hbk) (e1.symm.trans e);rw[hbk]at hb;cases hb
  | buf e0 z xs fz =>
   obtain⟨xs',fz',hb',_,_,hf,hphi,hdead⟩:=hst
   rcases hphi with hphi | hphi
   ·by_cases hz:s.κ k=0
    ·rcases hdead hz with h0 | h0
     ·exact absurd h0 (hk.2 _ _ _ _ hb')
     ·omega
    ·obtain⟨_,_,_,hb⟩:=h3 k (lvB hbk hz) (hphi.symm.trans e);rw[hbk]at hb;cases hb;obtain⟨rfl,_,_⟩:=hf rfl;exact⟨_,_,_,hb'⟩
   ·omega
 ·have:=h.new k (by omega) hk;omega
theorem Rel.step{s s':St}(h:Step s s'){v:V}{u:Value}(hr:Rel s v u):Rel s' v u:=by
 induction hr with
 | undef u=>exact .undef u
 | bool b=>exact .bool b
 | int k n=>exact .int k n
 | str x=>exact .str x
 | nilS=>exact .nilS
 | lst z full xs A cap b off u hcap hfull hA hz hcell hrel ih =>
  refine .lst z full xs A cap b off u hcap hfull (fun h0=>⟨(hA h0).1,(h.prot (hA h0).2).1⟩) hz (fun i x j c hi hj=>?_) ih
  have h0:0<xs.length:=by have:=aB hi;omega
  rw[World.cell?_of_block (h.prot (hA h0).2).2];exact hcell i x j c hi hj
 | buf k off len tot e z xs fz A l c hk ht hh =>
  obtain⟨xs',fz',hb',hle,heq,_,_⟩:=h.keep k _ hk;refine .buf k off len tot e z xs' fz' A l c hb' (pY ht hle) (fun he=>?_)
  have:tot=xs.length:=by omega
  obtain⟨e1,e2⟩:=heq (by omega);rw[e1,e2];exact hh this
 | nilP=>exact .nilP
 | ptr k off cs hk =>
  obtain⟨e1,cs',hk'⟩:=h.keep k _ hk;rw[←e1];exact .ptr k off cs' hk'
 | pin cs off b o u hp h1 hcell hrel ih =>
  refine .pin cs off b o u (h.prot hp).1 h1 (fun j c hj=>?_) ih;rw[World.cell?_of_block (h.prot hp).2];exact hcell j c hj
 | pbuf k i off tot e z xs fz p hk ht hh =>
  obtain⟨xs',fz',hb',hle,heq,_,_⟩:=h.keep k _ hk;refine .pbuf k i off tot e z xs' fz' p hb' (pY ht hle) (fun he=>?_)
  have:tot=xs.length:=by omega
  obtain⟨e1,e2⟩:=heq (by omega);rw[e1];exact hh this
 | sarr k n cs hk =>
  obtain⟨e1,cs',hk'⟩:=h.keep k _ hk;rw[←e1];exact .sarr k n cs' hk'
 | nilM=>exact .nilM
 | map k kk es hk =>
  obtain⟨e1,es',hk'⟩:=h.keep k _ hk;rw[←e1];exact .map k kk es' hk'
 | fn f caps us hl _ ih=>exact .fn f caps us hl ih
 | nilFn=>exact .nilFn
 | nilI=>exact .nilI
 | ifc t x=>exact .ifc t x
 | agg cs us hl h1 _ ih=>exact .agg cs us hl h1 ih
 | tup vs us hl _ ih=>exact .tup vs us hl ih
theorem Step.trans{a b c:St}(h:Step a b)(g:Step b c):Step a c where
 F:=g.F.trans h.F
 os:=g.os.trans h.os
 tape:=g.tape.trans h.tape
 output:=g.output.trans h.output
 size:=pY h.size g.size
 out x hx hk:=by
  rw[g.out x (om hx h.size) (fun k hkl e=>?_),h.out x hx hk];by_cases hk2:k<a.H.length
  ·have hbk:a.H[k]?=some a.H[k]:=oG hk2;generalize a.H[k]=bl at hbk;have hst:=h.keep k bl hbk
   cases bl with
   | cells cs=>exact hk k (lvC hbk) (hst.1.symm.trans e)
   | map kk es=>exact hk k (lvM hbk) (hst.1.symm.trans e)
   | buf e0 z xs fz =>
    obtain⟨_,_,hb',_,_,_,hp,hdead⟩:=hst
    rcases hp with hp | hp
    ·by_cases hz:a.κ k=0
     ·rcases hdead hz with h0 | h0
      ·exact absurd h0 (hkl.2 _ _ _ _ hb')
      ·omega
     ·exact hk k (lvB hbk hz) (hp.symm.trans e)
    ·omega
  ·have:=h.new k (by omega) hkl;omega
 len:=pY h.len g.len
 new k h1 h2:=by
  by_cases hb:k<b.H.length
  ·have hbk:b.H[k]?=some b.H[k]:=oG hb;generalize b.H[k]=bl at hbk;have hst:=g.keep k bl hbk;have hsz:=h.size
   cases bl with
   | cells cs=>rw[hst.1];exact h.new k h1 (lvC hbk)
   | map kk es=>rw[hst.1];exact h.new k h1 (lvM hbk)
   | buf e0 z xs fz =>
    obtain⟨_,_,hb',_,_,_,hp,hdead⟩:=hst
    rcases hp with hp | hp
    ·by_cases hz:b.κ k=0
     ·rcases hdead hz with h0 | h0
      ·exact absurd h0 (h2.2 _ _ _ _ hb')
      ·omega
     ·rw[hp];exact h.new k h1 (lvB hbk hz)
    ·omega
  ·have:=g.new k (by omega) h2;have:=h.size;omega
 keep k bl hk:=by
  have h1:=h.keep k bl hk
  cases bl with
  | cells cs =>
   obtain⟨e1,cs',hc⟩:=h1;obtain⟨e2,r⟩:=g.keep k _ hc;exact⟨e2.trans e1,r⟩
  | map kk es =>
   obtain⟨e1,cs',hc⟩:=h1;obtain⟨e2,r⟩:=g.keep k _ hc;exact⟨e2.trans e1,r⟩
  | buf e z xs fz =>
   obtain⟨xs1,fz1,hc,l1,q1,f1,p1,d1⟩:=h1;obtain⟨xs2,fz2,hd,l2,q2,f2,p2,d2⟩:=g.keep k _ hc;refine⟨xs2,fz2,hd,pY l1 l2,fun he=>?_,fun hf=>?_,?_,fun hz=>?_⟩
   ·obtain⟨a1,a2⟩:=q1 (by omega);obtain⟨b1,b2⟩:=q2 (by omega);exact⟨b1.trans a1,b2.trans a2⟩
   ·obtain⟨a1,a2,a3⟩:=f1 hf;obtain⟨b1,b2,b3⟩:=f2 a1;obtain⟨e1,e2⟩:=q1 (by rw[a2]);rw[e1,e2]at b3;exact⟨b1,b2.trans a2,fun hz=>(b3 hz).trans (a3 hz)⟩
   ·have:=h.size
    rcases p2 with p2 | p2
    ·rcases p1 with p1 | p1
     ·exact .inl (p2.trans p1)
     ·exact .inr (by omega)
    ·exact .inr (by omega)
   ·have:=h.size
    rcases d1 hz with h0 | h0
    ·rcases d2 h0 with h0 | h0
     ·exact .inl h0
     ·exact .inr (by omega)
    ·rcases p2 with p2 | p2
     ·exact .inr (by omega)
     ·exact .inr (by omega)
theorem BRel.step{s s':St}(h:Step s s'){k:Nat}{bl:B}(hb:BRel s k bl)(hk:s.H[k]?=some bl)(hφ:s'.φ k=s.φ k)(hκ:s'.κ k=s.κ k)(hw:Lv s k→s'.w.heap[s.φ k]?=s.w.heap[s.φ k]?):BRel s' k bl:=by
 cases bl with
 | cells cs =>
  obtain⟨h1,vs,t,h2,h3,h4⟩:=hb;exact⟨h1,vs,t,by rw[hφ,hw (lvC hk)];exact h2,h3,fun i c u hc hu=>(h4 i c u hc hu).step h⟩
 | map kk es =>
  obtain⟨h1,ms,cl,h2,h3,h4⟩:=hb;exact⟨h1,ms,cl,by rw[hφ,hw (lvM hk)];exact h2,h3,fun i p m hc hu=>⟨(h4 i p m hc hu).1.step h,(h4 i p m hc hu).2.step h⟩⟩
 | buf e z xs fz =>
  obtain⟨vs,h2,h3,h4,h5,h6,h7⟩:=hb;exact⟨vs,fun hz=>by rw[hκ]at hz;rw[hφ,hw (lvB hk hz)];exact h2 hz,by rw[hκ];exact h3,by rw[hκ];exact h4,by rw[hκ];exact h5,h6,fun i x j c u hx hc hu=>(h7 i x j c u hx hc hu).step h⟩
def St.at(s:St)(w:World):St:={ s with w:=w }
theorem fL{s:St}(hg:Good s){w:World}(hos:w.os=s.w.os)(htape:w.tape=s.w.tape)(hout:w.output=s.w.output)(hsz:s.w.heap.size≤w.heap.size)
  (hb:∀b,b<s.w.heap.size→w.heap[b]?=s.w.heap[b]?):Good (s.at w)∧Step s (s.at w):=by
 have hst:Step s (s.at w):=⟨rfl,hos,htape,hout,hsz,fun b h _=>hb b h,oJ _,fun k h1 h2=>absurd h1 (by have:k<s.H.length:=h2.1;omega),fun k bl hk=>by
  cases bl with
  | cells cs=>exact⟨rfl,cs,hk⟩
  | map kk es=>exact⟨rfl,es,hk⟩
  | buf e z xs fz=>exact⟨xs,fz,hk,oJ _,fun _=>⟨rfl,rfl⟩,fun hf=>⟨hf,rfl,fun hz=>hb _ (hg.lt k (lvB hk hz)).1⟩,.inl rfl,.inl⟩⟩
 refine⟨⟨fun b h=>om (hg.fl b h) hsz,fun k hk=>⟨om (hg.lt k hk).1 hsz,(hg.lt k hk).2⟩,hg.inj,fun k bl hk=>?_⟩,hst⟩;exact(hg.blk k bl hk).step hst hk rfl rfl (fun hl=>hb _ (hg.lt k hl).1)
def upd(f:Nat→Nat)(k v:Nat):Nat→Nat:=fun i=>if i=k then v else f i
theorem aR(f:Nat→Nat)(k v:Nat):upd f k v k=v:=by simp[upd]
theorem bH(f:Nat→Nat){k i:Nat}(v:Nat)(h:i≠k):upd f k v i=f i:=by simp[upd,h]
def St.push(s:St)(w:World)(g c:Nat)(bl:B):St:=⟨s.F,w,upd s.φ s.H.length g,upd s.κ s.H.length c,s.H++[bl]⟩
theorem cq{s:St}(hg:Good s){w:World}{g c:Nat}{bl:B}(hos:w.os=s.w.os)(htape:w.tape=s.w.tape)(hout:w.output=s.w.output)(hsz:s.w.heap.size≤w.heap.size)
  (hb:∀b,b<s.w.heap.size→w.heap[b]?=s.w.heap[b]?) (h1:s.w.heap.size≤g):Step s (s.push w g c bl) where
 F:=rfl
 os:=hos
 tape:=htape
 output:=hout
 size:=hsz
 out b h _:=hb b h
 len:=by simp[St.push]
 new k h2 h3:=by
  have:k=s.H.length:=by have:=h3.1;simp[St.push]at this;omega
  subst this;simp only[St.push,aR];exact h1
 keep k b hk:=by
  have hkl:=aB hk
  have hk':(s.push w g c bl).H[k]?=some b:=by simp only[St.push];rw[oL hkl];exact hk
  have e1:(s.push w g c bl).φ k=s.φ k:=bH _ _ (by omega);have e2:(s.push w g c bl).κ k=s.κ k:=bH _ _ (by omega)
  cases b with
  | cells cs=>exact⟨e1,cs,hk'⟩
  | map kk es=>exact⟨e1,es,hk'⟩
  | buf e z xs fz=>exact⟨xs,fz,hk',oJ _,fun _=>⟨e1,e2⟩,fun hf=>⟨hf,rfl,fun hz=>hb _ (hg.lt k (lvB hk hz)).1⟩,.inl e1,fun hz=>.inl (by rw[e2];exact hz)⟩
theorem dQ{s:St}(hg:Good s){w:World}{g c:Nat}{bl:B}(hos:w.os=s.w.os)(htape:w.tape=s.w.tape)(hout:w.output=s.w.output)(hsz:s.w.heap.size≤w.heap.size)
  (hb:∀b,b<s.w.heap.size→w.heap[b]?=s.w.heap[b]?) (h1:s.w.heap.size≤g) (h2:g<w.heap.size)
  (hbl:Step s (s.push w g c bl)→BRel (s.push w g c bl) s.H.length bl):Good (s.push w g c bl):=by
 have hst:=cq (bl:=bl) (c:=c) hg hos htape hout hsz hb h1
 have hph:∀k,k<s.H.length→(s.push w g c bl).φ k=s.φ k:=fun k hk=>bH _ _ (by omega)
 have hlen:(s.push w g c bl).H.length=s.H.length+1:=by simp[St.push]
 have hlv:∀k,k<s.H.length→Lv (s.push w g c bl) k→Lv s k:=fun k hk hl=>⟨hk,fun e z xs fz hb'=>by
  have:=hl.2 e z xs fz (by simp only[St.push];rw[oL hk];exact hb')
  rwa [show(s.push w g c bl).κ k=s.κ k from bH _ _ (by omega)]at this⟩
 refine⟨fun b h=>om (hg.fl b h) hsz,fun k hk=>?_,fun j k hj hk e=>?_,fun k b hk=>?_⟩
 ·by_cases hkl:k<s.H.length
  ·rw[hph k hkl];exact⟨om (hg.lt k (hlv k hkl hk)).1 hsz,(hg.lt k (hlv k hkl hk)).2⟩
  ·obtain rfl:k=s.H.length:=by have:=hk.1;omega
   simp only[St.push,aR];exact⟨h2,fun hF=>by have:=hg.fl g hF;omega⟩
 ·by_cases hjl:j<s.H.length<;>by_cases hkl:k<s.H.length
  ·rw[hph j hjl,hph k hkl]at e;exact hg.inj j k (hlv j hjl hj) (hlv k hkl hk) e
  ·obtain rfl:k=s.H.length:=by have:=hk.1;omega
   rw[hph j hjl]at e;simp only[St.push,aR]at e;have:=(hg.lt j (hlv j hjl hj)).1;omega
  ·obtain rfl:j=s.H.length:=by have:=hj.1;omega
   rw[hph k hkl]at e;simp only[St.push,aR]at e;have:=(hg.lt k (hlv k hkl hk)).1;omega
  ·have:=hk.1;have:=hj.1;omega
 ·by_cases hkl:k<s.H.length
  ·have hk':s.H[k]?=some b:=by simp only[St.push]at hk;rwa [oL hkl]at hk
   exact(hg.blk k b hk').step hst hk' (hph k hkl) (bH _ _ (by omega)) (fun hl=>hb _ (hg.lt k hl).1)
  ·have hkl':=aB hk
   obtain rfl:k=s.H.length:=by omega
   simp only[St.push,oS (oJ _),px,qI,Option.some.injEq]at hk;subst hk;exact hbl hst
theorem fO{s:St}{w:World}{g e z:Nat}{fz:Bool}{k:Nat}(h:Lv (s.push w g 0 (.buf e z [] fz)) k):Lv s k:=by
 by_cases hk:k<s.H.length
 ·refine⟨hk,fun e' z' xs' fz' hb'=>?_⟩;have:=h.2 e' z' xs' fz' (by simp only[St.push];rw[oL hk];exact hb')
  rwa [show(s.push w g 0 (.buf e z [] fz)).κ k=s.κ k from bH _ _ (by omega)]at this
 ·have:=h.1;simp[St.push]at this
  obtain rfl:k=s.H.length:=by omega
  exact absurd (aR _ _ _) (h.2 e z [] fz (by simp[St.push]))
theorem lD{s:St}(hg:Good s){w:World}(g e z:Nat)(fz:Bool)(hos:w.os=s.w.os)(htape:w.tape=s.w.tape)(hout:w.output=s.w.output)(hsz:s.w.heap.size≤w.heap.size)
  (hb:∀b,b<s.w.heap.size→w.heap[b]?=s.w.heap[b]?):Good (s.push w g 0 (.buf e z [] fz))∧Step s (s.push w g 0 (.buf e z [] fz)):=by
 have hph:∀k,Lv (s.push w g 0 (.buf e z [] fz)) k→(s.push w g 0 (.buf e z [] fz)).φ k=s.φ k:=fun k hk=>bH _ _ (by have:=(fO hk).1;omega)
 have hst:Step s (s.push w g 0 (.buf e z [] fz)):=⟨rfl,hos,htape,hout,hsz,fun b h _=>hb b h,by simp[St.push],fun k h2 h3=>absurd h2 (by have:=(fO h3).1;omega),fun k b hk=>by
  have hkl:=aB hk
  have hk':(s.push w g 0 (.buf e z [] fz)).H[k]?=some b:=by simp only[St.push];rw[oL hkl];exact hk
  have e1:(s.push w g 0 (.buf e z [] fz)).φ k=s.φ k:=bH _ _ (by omega);have e2:(s.push w g 0 (.buf e z [] fz)).κ k=s.κ k:=bH _ _ (by omega)
  cases b with
  | cells cs=>exact⟨e1,cs,hk'⟩
  | map kk es=>exact⟨e1,es,hk'⟩
  | buf e z xs fz=>exact⟨xs,fz,hk',oJ _,fun _=>⟨e1,e2⟩,fun hf=>⟨hf,rfl,fun hz=>hb _ (hg.lt k (lvB hk hz)).1⟩,.inl e1,fun hz=>.inl (by rw[e2];exact hz)⟩⟩
 refine⟨⟨fun b h=>om (hg.fl b h) hsz,fun k hk=>?_,fun j k hj hk e=>?_,fun k b hk=>?_⟩,hst⟩
 ·rw[hph k hk];exact⟨om (hg.lt k (fO hk)).1 hsz,(hg.lt k (fO hk)).2⟩
 ·rw[hph j hj,hph k hk]at e;exact hg.inj j k (fO hj) (fO hk) e
 ·by_cases hkl:k<s.H.length
  ·have hk':s.H[k]?=some b:=by simp only[St.push]at hk;rwa [oL hkl]at hk
   exact(hg.blk k b hk').step hst hk' (bH _ _ (by omega)) (bH _ _ (by omega)) (fun hl=>hb _ (hg.lt k hl).1)
  ·have hkl':=aB hk;simp[St.push]at hkl'
   obtain rfl:k=s.H.length:=by omega
   simp only[St.push,oS (oJ _),px,qI,Option.some.injEq]at hk;subst hk;have e2:(s.push w g 0 (.buf e z [] fz)).κ s.H.length=0:=aR _ _ _;exact⟨#[],fun h=>absurd e2 h,by rw[e2];simp,by rw[e2];simp,by rw[e2];simp[maxLen],(fun x hx=>by cases hx),(fun i x j c u hx=>by simp at hx)⟩
def St.setB(s:St)(w:World)(k:Nat)(bl:B):St:=⟨s.F,w,s.φ,s.κ,s.H.set k bl⟩
def B.alike:B→B→Prop
 | .cells _,.cells _=>True
 | .map kk _,.map kk' _=>kk=kk'
 | .buf e z xs fz,.buf e' z' xs' fz'=>e=e'∧z=z'∧xs.length=xs'.length∧fz=false∧fz'=false
 | _,_=>False
theorem setB_lv{s:St}{w:World}{k:Nat}{bl bl':B}(hk:s.H[k]?=some bl)(ha:B.alike bl bl'){i:Nat}(h:Lv (s.setB w k bl') i):Lv s i:=by
 have hil:i<s.H.length:=by have:=h.1;simpa[St.setB] using this
 refine⟨hil,fun e z xs fz hb=>?_⟩;by_cases hik:i=k
 ·subst hik;rw[hk]at hb;cases hb;cases bl'<;>simp only[B.alike]at ha;exact h.2 _ _ _ _ (by simp only[St.setB];rw[oX hil])
 ·exact h.2 e z xs fz (by simp only[St.setB];rw[oQ (Ne.symm hik)];exact hb)
theorem bI{s:St}(hg:Good s){w:World}{k:Nat}{bl bl':B}(hk:s.H[k]?=some bl)(hlk:Lv s k)(ha:B.alike bl bl')(hos:w.os=s.w.os)(htape:w.tape=s.w.tape)(hout:w.output=s.w.output)(hsz:s.w.heap.size≤w.heap.size)
  (hb:∀b,b<s.w.heap.size→b≠s.φ k→w.heap[b]?=s.w.heap[b]?):Step s (s.setB w k bl') where
 F:=rfl
 os:=hos
 tape:=htape
 output:=hout
 size:=hsz
 out b h hn:=hb b h (fun e=>hn k hlk e.symm)
 len:=by simp[St.setB]
 new i h2 h3:=absurd h2 (by have:=h3.1;simp[St.setB]at this;omega)
 keep i b hi:=by
  have hil:=aB hi;by_cases hik:i=k
  ·subst hik;rw[hk]at hi;cases hi
   have hk':(s.setB w i bl').H[i]?=some bl':=by simp[St.setB,hil]
   cases bl<;>cases bl'<;>simp only[B.alike]at ha
   ·exact⟨rfl,_,hk'⟩
   ·subst ha;exact⟨rfl,_,hk'⟩
   ·obtain⟨rfl,rfl,hl,rfl,rfl⟩:=ha;exact⟨_,_,hk',Nat.le_of_eq hl,fun _=>⟨rfl,rfl⟩,(fun h=>by cases h),.inl rfl,.inl⟩
  ·have hk':(s.setB w k bl').H[i]?=some b:=by simp only[St.setB];rw[oQ (Ne.symm hik)];exact hi
   cases b with
   | cells cs=>exact⟨rfl,cs,hk'⟩
   | map kk es=>exact⟨rfl,es,hk'⟩
   | buf e z xs fz=>exact⟨xs,fz,hk',oJ _,fun _=>⟨rfl,rfl⟩,fun hf=>⟨hf,rfl,fun hz=>hb _ (hg.lt i (lvB hi hz)).1 (fun e=>hik (hg.inj i k (lvB hi hz) hlk e))⟩,.inl rfl,.inl⟩
theorem bQ{s:St}(hg:Good s){w:World}{k:Nat}{bl bl':B}(hk:s.H[k]?=some bl)(hlk:Lv s k)(ha:B.alike bl bl')(hos:w.os=s.w.os)(htape:w.tape=s.w.tape)(hout:w.output=s.w.output)(hsz:s.w.heap.size≤w.heap.size)
  (hb:∀b,b<s.w.heap.size→b≠s.φ k→w.heap[b]?=s.w.heap[b]?) (hbl:Step s (s.setB w k bl')→BRel (s.setB w k bl') k bl'):Good (s.setB w k bl'):=by
 have hst:=bI (bl':=bl') hg hk hlk ha hos htape hout hsz hb;refine⟨fun b h=>om (hg.fl b h) hsz,fun i hi=>?_,fun i j hi hj e=>hg.inj i j (setB_lv hk ha hi) (setB_lv hk ha hj) e,fun i b hi=>?_⟩
 ·have:=hg.lt i (setB_lv hk ha hi);exact⟨om this.1 hsz,this.2⟩
 ·by_cases hik:i=k
  ·subst hik
   have:(s.setB w i bl').H[i]?=some bl':=by simp[St.setB,aB hk]
   rw[this]at hi;cases hi;exact hbl hst
  ·have hi':s.H[i]?=some b:=by simp only[St.setB]at hi;rwa [oQ (Ne.symm hik)]at hi
   exact(hg.blk i b hi').step hst hi' rfl rfl (fun hl=>hb _ (hg.lt i hl).1 (fun e=>hik (hg.inj i k hl hlk e)))
end Go.AM
namespace Go.AM
open Go
structure TI where
 desc:TypeDesc
 size:Nat
 bytes:Nat
 zero:V
 zval:Value
 kk:Option KK:=none
 eq:Bool:=false
 pa:Bool:=false
abbrev Ty:=Nat→Option TI
def mc:Value→Option V
 | .bool b=>some (.bool b)
 | .int k n=>some (.int k n)
 | .string s=>some (.str s)
 | .slice none 0 0=>some .nilS
 | .pointer none=>some .nilP
 | .map none=>some .nilM
 | .nilFunc=>some .nilFn
 | .nilIface=>some .nilI
 | _=>none
def gd:List Value→Option (List V)
 | []=>some []
 | v::r=>match mc v,gd r with
  | some x,some xs=>some (x::xs)
  | _,_=>none
def gh:Value→Option V
 | .agg cs=>(gd cs.toList).map .agg
 | v=>mc v
def da:V→Value
 | .int k n=>.int k n
 | .str x=>.string x
 | .bool b=>.bool b
 | _=>.nilFunc
def cH:V→Value
 | .agg cs=>.agg (cs.map da).toArray
 | v=>da v
def kh:List V→List V→Bool
 | [],[]=>true
 | .int _ a::r,.int _ b::q=>a == b&&kh r q
 | _,_=>false
def bB:V→V→Bool
 | .int _ a,.int _ b=>a == b
 | .str a,.str b=>a == b
 | .bool a,.bool b=>a == b
 | .agg cs,.agg ds=>kh cs ds
 | _,_=>false
def cK(k:V):List (V×V)→Nat→Option (Nat×V)
 | [],_=>none
 | p::r,i=>if bB k p.1 then some (i,p.2) else cK k r (i+1)
structure KLaw (P:Program) (t:TypeId) (kk:KK):Prop where
 check:∀(w:World) (em:Bool) (v:V),ag v=some kk→(Instr.checkKey em 10000 t (cH v)).run P w = .ok () w
 find:∀(w:World) (v:V) (ks:List V) (es:List MapEntry),ag v=some kk→(∀k∈ks,ag k=some kk)→es.map (·.key)=ks.map cH →
  ∃r,(Instr.findKey t (cH v) es).run P w = .ok r w∧((r=none∧∀k∈ks,bB v k=false)∨
   ∃i k e,r=some (i,e.val)∧ks[i]?=some k∧es[i]?=some e∧bB v k=true∧∀j k',j<i→ks[j]?=some k'→bB v k'=false)
structure TOk (P:Program) (T:Ty):Prop where
 eq:∀t i,T t=some i→i.eq=true→P.stoodInHeld t=false∧P.eqGuardType P.depth t=false
 key:∀t i kk,T t=some i→i.kk=some kk→KLaw P t kk
 und:∀t i,T t=some i→P.underlying t=some i.desc
 info:∀t i,T t=some i→∃inf,P.info? t=some inf∧inf.size=i.size∧inf.bytes=i.bytes∧inf.zero=some i.zval∧gh i.zval=some i.zero∧i.zero.cells.length=i.size
def aO(fr:List V):Operand→V
 | .tmp t=>(fr[t]?).getD .undef
 | .const v=>(gh v).getD .undef
 | .func f=>.fn f []
 | .global _=>.undef
def bY:TypeDesc→Bool
 | .struct _ | .array _ _=>true
 | _=>false
def iX(T:Ty)(t:TypeId)(cs:List V)(off:Nat):Option V :=
 match T t with
 | some i=>if bY i.desc then(if off+i.size≤cs.length then some (.agg ((cs.drop off).take i.size)) else none) else cs[off]?
 | none=>none
def mt(T:Ty)(H:List B)(t:TypeId):V→Option V
 | .ptr k off=>match H[k]? with
  | some (.cells cs)=>iX T t cs off
  | _=>none
 | .pin cs off=>iX T t cs off
 | .pbuf k i off tot=>match H[k]? with
  | some (.buf _ _ xs _)=>if xs.length=tot then(match xs[i]? with
   | some x=>iX T t x.cells off
   | none=>none) else none
  | _=>none
 | _=>none
def bE(cs:List V)(off:Nat)(new:List V):List V:=cs.take off++new++cs.drop (off+new.length)
def ey(old:V)(cs:List V):V :=
 match old with
 | .agg _=>.agg cs
 | _=>cs.headD .undef
def storeA(T:Ty)(H:List B)(t:TypeId)(a v:V):Option (List B):=
 match T t with
 | none=>none
 | some i =>
  if v.cells.length=i.size∧v.cells.all V.one=true then
   match a with
   | .ptr k off=>match H[k]? with
    | some (.cells cs)=>if off+v.cells.length≤cs.length then some (H.set k (.cells (bE cs off v.cells))) else none
    | _=>none
   | .pbuf k i off tot=>match H[k]? with
    | some (.buf e z xs false)=>if xs.length=tot then(match xs[i]? with
     | some x=>if off+v.cells.length≤x.cells.length then some (H.set k (.buf e z (xs.set i (ey x (bE x.cells off v.cells))) false)) else none
     | none=>none) else none
    | _=>none
   | _=>none
  else none
def binA(op:BinOp):V→V→Option V
 | .int k a,.int k' b =>
  match op with
  | .shl=>if 0≤b then some (.int k (k.wrap (a*2^min b.toNat k.bits))) else none
  | .shr=>if 0≤b then some (.int k (a.fdiv (2^min b.toNat k.bits))) else none
  | _=>if k=k' then
   match op with
   | .add=>some (.int k (k.wrap (a+b)))
   | .sub=>some (.int k (k.wrap (a-b)))
   | .mul=>some (.int k (k.wrap (a*b)))
   | .quo=>if b=0 then none else some (.int k (k.wrap (a.tdiv b)))
   | .rem=>if b=0 then none else some (.int k (a.tmod b))
   | .and=>some (.int k (k.wrap (BitVec.ofInt k.bits a &&& BitVec.ofInt k.bits b).toNat))
   | .or=>some (.int k (k.wrap (BitVec.ofInt k.bits a ||| BitVec.ofInt k.bits b).toNat))
   | .xor=>some (.int k (k.wrap (BitVec.ofInt k.bits a ^^^ BitVec.ofInt k.bits b).toNat))
   | .andNot=>some (.int k (k.wrap (BitVec.ofInt k.bits a &&& ~~~ BitVec.ofInt k.bits b).toNat))
   | .eql=>some (.bool (a == b))
   | .neq=>some (.bool (a != b))
   | .lss=>some (.bool (decide (a<b)))
   | .leq=>some (.bool (decide (a≤b)))
   | .gtr=>some (.bool (decide (a > b)))
   | .geq=>some (.bool (decide (a≥b)))
   | _=>none
   else none
 | .str a,.str b =>
  match op with
  | .eql=>some (.bool (a.toList == b.toList))
  | .neq=>some (.bool (!(a.toList == b.toList)))
  | .lss=>some (.bool (Op.bytesLess a.toList b.toList))
  | .leq=>some (.bool (Op.bytesLess a.toList b.toList||a.toList == b.toList))
  | .gtr=>some (.bool (!(Op.bytesLess a.toList b.toList||a.toList == b.toList)))
  | .geq=>some (.bool (!(Op.bytesLess a.toList b.toList)))
  | .add=>if a.size+b.size≤9223372036854775807 then some (.str (a++b)) else none
  | _=>none
 | _,_=>none
def unA(op:UnOp):V→Option V
 | .int k n=>match op with
  | .neg=>some (.int k (k.wrap (0-n)))
  | .xor=>some (.int k (k.wrap (BitVec.ofInt k.bits (if k.signed then -1 else k.max) ^^^ BitVec.ofInt k.bits n).toNat))
  | _=>none
 | .bool b=>match op with
  | .not=>some (.bool !b)
  | _=>none
 | _=>none
def fieldA(T:Ty)(s f:Nat):Option Field :=
 match T s with
 | some i=>match i.desc with
  | .struct fields=>match fields[f]? with
   | some fd=>match T fd.type with
    | some j=>if j.size=0 then none else some fd
    | none=>none
   | none=>none
  | _=>none
 | none=>none
def gC(T:Ty)(s f:Nat)(x:V):Option V :=
 match fieldA T s f with
 | some fd=>match x with
  | .ptr k off=>some (.ptr k (off+fd.offset))
  | .pin cs off=>some (.pin cs (off+fd.offset))
  | .pbuf k i off tot=>some (.pbuf k i (off+fd.offset) tot)
  | _=>none
 | none=>none
def fy(T:Ty)(H:List B)(t:TypeId)(x ix:V):Option V :=
 match T t,ix with
 | some i,.int _ n =>
  if 0≤n then
   match i.desc with
   | .slice e=>match T e with
    | some j=>match x with
     | .lst z _ xs=>if z=j.size then(match xs[n.toNat]? with
      | some v=>some (.pin v.cells 0)
      | none=>none) else none
     | .buf k off len tot=>match H[k]? with
      | some (.buf _ z xs _)=>if xs.length=tot∧z=j.size∧n<len then some (.pbuf k (off+n.toNat) 0 tot) else none
      | _=>none
     | _=>none
    | none=>none
   | .array len e=>match T e with
    | some j=>match x with
     | .ptr k off=>if n<len then some (.ptr k (off+n.toNat*j.size)) else none
     | _=>none
    | none=>none
   | _=>none
  else none
 | _,_=>none
def indexA(T:Ty)(t:TypeId)(x ix:V):Option V :=
 match T t,x,ix with
 | some i,.str s,.int _ n=>match i.desc with
  | .string=>if 0≤n then(match s[n.toNat]? with
   | some b=>some (.int .u8 b.toNat)
   | none=>none) else none
  | _=>none
 | some i,.agg cs,.int _ n=>match i.desc with
  | .array len e=>match T e with
   | some j=>if 0≤n∧n<len then iX T e cs (n.toNat*j.size) else none
   | none=>none
  | _=>none
 | _,_,_=>none
def jo(T:Ty)(s f:Nat)(x:V):Option V :=
 match T s,x with
 | some i,.agg cs=>match i.desc with
  | .struct fields=>match fields[f]? with
   | some fd=>iX T fd.type cs fd.offset
   | none=>none
  | _=>none
 | _,_=>none
def lenA(T:Ty)(H:List B)(t:TypeId)(x:V):Option V :=
 match T t with
 | some i=>match i.desc,x with
  | .string,.str s=>some (.int .i64 s.size)
  | .slice _,.lst _ _ xs=>some (.int .i64 xs.length)
  | .slice _,.nilS=>some (.int .i64 0)
  | .slice _,.buf k _ len tot=>match H[k]? with
   | some (.buf _ _ xs _)=>if xs.length=tot then some (.int .i64 len) else none
   | _=>none
  | .map _ _,.nilM=>some (.int .i64 0)
  | .map _ _,.map k=>match H[k]? with
   | some (.map _ es)=>some (.int .i64 es.length)
   | _=>none
  | _,_=>none
 | none=>none
def max2A:V→V→Option V
 | .int k x,.int _ y=>some (.int k (if y > x then y else x))
 | _,_=>none
def min2A:V→V→Option V
 | .int k x,.int _ y=>some (.int k (if y<x then y else x))
 | _,_=>none
def foldA(f:V→V→Option V):V→List V→Option V
 | x,[]=>some x
 | x,y::r=>match f x y with
  | some z=>foldA f z r
  | none=>none
def go(f:V→V→Option V):List V→Option V
 | []=>none
 | x::r=>foldA f x r
end Go.AM
namespace Go.AM
open Go
section
variable {P:Program} {T:Ty} {s:St}
theorem io{v:Value}{x:V}(h:mc v=some x):Rel s x v∧x.one=true:=by
 unfold mc at h
 split at h<;>cases h<;>first
  | exact⟨.bool _,rfl⟩ | exact⟨.int _ _,rfl⟩ | exact⟨.str _,rfl⟩ | exact⟨.nilS,rfl⟩ | exact⟨.nilP,rfl⟩ | exact⟨.nilM,rfl⟩ | exact⟨.nilFn,rfl⟩ | exact⟨.nilI,rfl⟩
theorem im:∀{vs:List Value} {xs:List V},gd vs=some xs→vs.length=xs.length∧(∀x∈xs,x.one=true)∧∀(i:Nat) x v,xs[i]?=some x→vs[i]?=some v→Rel s x v
 | [],xs,h=>by simp[gd]at h;subst h;simp
 | v::r,xs,h=>by
  simp only[gd]at h;split at h
  ·rename_i x ys hx hys;cases h;obtain⟨h1,h2,h3⟩:=im hys;obtain⟨hr,ho⟩:=io (s:=s) hx;refine⟨by simp[h1],by simp[ho];exact h2,fun i=>?_⟩
   cases i with
   | zero=>intro a b ha hb;simp at ha hb;subst ha;subst hb;exact hr
   | succ i=>intro a b ha hb;exact h3 i a b (by simpa using ha) (by simpa using hb)
  ·cases h
theorem bu{v:Value}{x:V}(h:gh v=some x):Rel s x v:=by
 unfold gh at h;split at h
 ·rename_i cs
  cases hv:gd cs.toList with
  | none=>rw[hv]at h;cases h
  | some xs =>
   rw[hv]at h;cases h;obtain⟨h1,h2,h3⟩:=im (s:=s) hv;exact .agg xs cs (by simpa using h1) h2 (fun i c u hc hu=>h3 i c u hc (by simpa using hu))
 ·exact(io h).1
theorem Rel.oneCell{c:V}{x:Value}(h:Rel s c x)(h1:c.one=true):x.oneCell'=true:=by
 cases h<;>simp_all [V.one,Value.oneCell']
theorem Rel.cells{v:V}{u:Value}(h:Rel s v u)(h1:v.cells.all V.one=true):u.cells.size=v.cells.length∧(∀(i:Nat) c x,v.cells[i]?=some c→u.cells[i]?=some x→Rel s c x)∧∀x∈u.cells.toList,x.oneCell'=true:=by
 have single:∀{v:V} {u:Value},v.cells=[v]→u.cells = #[u]→v.cells.all V.one=true→Rel s v u→u.cells.size=v.cells.length∧(∀(i:Nat) c x,v.cells[i]?=some c→u.cells[i]?=some x→Rel s c x)∧∀x∈u.cells.toList,x.oneCell'=true:=by
  intro v u e1 e2 ho hr;rw[e1]at ho;simp only[rh,List.all_nil,Bool.and_true]at ho;rw[e1,e2];refine⟨rfl,fun i c x hc hx=>?_,fun x hx=>?_⟩
  ·cases i with
   | zero=>simp at hc hx;subst hc;subst hx;exact hr
   | succ i=>simp at hc
  ·simp at hx;subst hx;exact hr.oneCell ho
 cases h with
 | agg cs us hl ho hh =>
  refine⟨hl,hh,fun x hx=>?_⟩;obtain⟨i,hi⟩:=qU hx
  have hlt:i<cs.length:=by have:=(List.getElem?_eq_some_iff.1 hi).1;simp[Value.cells]at this;omega
  have hc:cs[i]?=some cs[i]:=oG hlt;exact(hh i _ x hc (by simpa[Value.cells] using hi)).oneCell (ho _ (oI hlt))
 | undef u=>simp[V.cells,V.one]at h1
 | tup vs us hl hh=>simp[V.cells,V.one]at h1
 | bool b=>exact single rfl rfl h1 (.bool b)
 | int k n=>exact single rfl rfl h1 (.int k n)
 | str x=>exact single rfl rfl h1 (.str x)
 | nilS=>exact single rfl rfl h1 .nilS
 | lst z full xs A cap b off u a1 a2 a3 a4 a5 a6=>exact single rfl rfl h1 (.lst z full xs A cap b off u a1 a2 a3 a4 a5 a6)
 | buf k off len tot e z xs fz A l c a1 a2 a3=>exact single rfl rfl h1 (.buf k off len tot e z xs fz A l c a1 a2 a3)
 | nilP=>exact single rfl rfl h1 .nilP
 | ptr k off cs hk=>exact single rfl rfl h1 (.ptr k off cs hk)
 | pin cs off b o u a1 a2 a3 a4=>exact single rfl rfl h1 (.pin cs off b o u a1 a2 a3 a4)
 | pbuf k i off tot e z xs fz p a1 a2 a3=>exact single rfl rfl h1 (.pbuf k i off tot e z xs fz p a1 a2 a3)
 | sarr k n cs hk=>exact single rfl rfl h1 (.sarr k n cs hk)
 | nilM=>exact single rfl rfl h1 .nilM
 | map k kk es hk=>exact single rfl rfl h1 (.map k kk es hk)
 | fn f caps us hl hh=>exact single rfl rfl h1 (.fn f caps us hl hh)
 | nilFn=>exact single rfl rfl h1 .nilFn
 | nilI=>exact single rfl rfl h1 .nilI
 | ifc t x=>exact single rfl rfl h1 (.ifc t x)
theorem run_typeInfo{t:TypeId}{inf:TypeInfo}(h:P.info? t=some inf)(w:World):(typeInfo t).run P w = .ok inf w:=by simp[typeInfo,h]
theorem run_sizeOf(hT:TOk P T){t:TypeId}{i:TI}(h:T t=some i)(w:World):(sizeOf t).run P w = .ok i.size w:=by
 obtain⟨inf,h1,h2,_⟩:=hT.info t i h;simp[sizeOf,typeInfo,h1,h2]
theorem iD(hT:TOk P T){t:TypeId}{i:TI}(h:T t=some i)(w:World):(isAgg t).run P w = .ok (bY i.desc) w:=by
 simp only[isAgg,Sem.run_bind,run_underlying (hT.und t i h),Result.andThen_ok];cases i.desc<;>simp[bY]
theorem fC(hT:TOk P T){t:TypeId}{i:TI}(h:T t=some i)(w:World):(zeroValue t).run P w = .ok i.zval w:=by
 obtain⟨inf,h1,h2,h3,h4,_⟩:=hT.info t i h;simp[zeroValue,typeInfo,h1,h4]
theorem bd(b o j:Nat):(⟨b,o,none⟩:Addr).add j=⟨b,o+j,none⟩:=by unfold Addr.add;split<;>simp_all
theorem kj(hT:TOk P T){t:TypeId}{cs:List V}{off b o:Nat}{v:V}(h1:∀c∈cs,c.one=true)
  (hc:∀j c,cs[off+j]?=some c→∃x,s.w.cell? ⟨b,o+j,none⟩=some x∧Rel s c x) (h:iX T t cs off=some v):
  ∃u,(loadVar t ⟨b,o,none⟩).run P s.w = .ok u s.w∧Rel s v u:=by
 unfold iX at h;split at h
 ·rename_i i hi;split at h
  ·rename_i ha;split at h
   ·rename_i hle;cases h
    have hex:∀j,∃x,j<i.size→s.w.cell? ⟨b,o+j,none⟩=some x∧∀c,cs[off+j]?=some c→Rel s c x:=fun j=>by
     by_cases hj:j<i.size
     ·have e:cs[off+j]?=some (cs[off+j]'(by omega)):=oG (by omega);obtain⟨x,hx,hr⟩:=hc j _ e;exact⟨x,fun _=>⟨hx,fun c hc'=>by rw[e]at hc';cases hc';exact hr⟩⟩
     ·exact⟨.nilFunc,fun h=>absurd h hj⟩
    obtain⟨f,hf⟩:=Classical.axiomOfChoice hex;refine⟨.agg ((oM i.size).map f).toArray,?_,?_⟩
    ·have hl:=run_loadCells (P:=P) s.w ⟨b,o,none⟩ i.size f (fun j hj=>by rw[bd];exact(hf j hj).1);simp[loadVar,iD hT hi,ha,run_sizeOf hT hi,hl]
    ·refine .agg _ _ (by simp;omega) (fun c hc'=>h1 c (pq (pQ hc'))) (fun j c u hc' hu=>?_)
     have hj:j<i.size:=by have:=(List.getElem?_eq_some_iff.1 hc').1;simp at this;omega
     rw[pD,if_pos hj,pP]at hc'
     have:u=f j:=by simp[hj]at hu;exact hu.symm
     subst this;exact(hf j hj).2 c hc'
   ·cases h
  ·rename_i ha;obtain⟨x,hx,hr⟩:=hc 0 v (by simpa using h);refine⟨x,?_,hr⟩;simp only[qH]at hx;simp[loadVar,iD hT hi,ha,hx]
 ·cases h
theorem blk_cells(hg:Good s){k:Nat}{cs:List V}(hk:s.H[k]?=some (.cells cs)):(∀c∈cs,c.one=true)∧∀j c,cs[j]?=some c→∃x,s.w.cell? ⟨s.φ k,j,none⟩=some x∧Rel s c x:=by
 obtain⟨h1,vs,t,h2,h3,h4⟩:=hg.blk k _ hk;refine⟨h1,fun j c hc=>?_⟩
 have hj:j<vs.size:=by have:=aB hc;omega
 have e:vs[j]?=some vs[j]:=by simp[hj]
 refine⟨vs[j],?_,h4 j c _ hc e⟩;simp[World.cell?,h2,hj]
theorem eN(hg:Good s){k e z:Nat}{xs:List V}{fz:Bool}(hk:s.H[k]?=some (.buf e z xs fz)){i:Nat}{x:V}(hx:xs[i]?=some x):
  (∀c∈x.cells,c.one=true)∧x.cells.length=z∧∀j c,x.cells[j]?=some c→∃u,s.w.cell? ⟨s.φ k,i*z+j,none⟩=some u∧Rel s c u:=by
 obtain⟨vs,h2,h3,h4,h5,h6,h7⟩:=hg.blk k _ hk;have hm:=oH hx;refine⟨(h6 x hm).2,(h6 x hm).1,fun j c hc=>?_⟩;have hj:=aB hc;have hi:=aB hx
 have hlt:i*z+j<vs.size:=by
  rw[h3];have:(i+1)*z≤s.κ k*z:=ol _ (by omega);rw[ov]at this;have:=(h6 x hm).1;omega
 have e:vs[i*z+j]?=some vs[i*z+j]:=by simp[hlt]
 refine⟨vs[i*z+j],?_,h7 i x j c _ hx hc e⟩;simp[World.cell?,h2 (by omega),hlt]
theorem mq(hT:TOk P T)(hg:Good s){t:TypeId}{a v:V}{ua:Value}(ha:Rel s a ua)(h:mt T s.H t a=some v):
  ∃u,(Instr.loadAt t ua).run P s.w = .ok u s.w∧Rel s v u:=by
 cases ha<;>simp only[mt]at h<;>try (cases h;done)
 case ptr k off cs hk =>
  rw[hk]at h;simp only at h;obtain⟨h1,h2⟩:=blk_cells hg hk;obtain⟨u,hu,hr⟩:=kj hT (b:=s.φ k) (o:=off) h1 (fun j c hc=>h2 _ c hc) h;exact⟨u,by simp[Instr.loadAt,Instr.sureAddr,hu],hr⟩
 case pin cs off b o u hp h1 hcell hrel =>
  obtain⟨u,hu,hr⟩:=kj hT (b:=b) (o:=o) h1 (fun j c hc=>⟨_,hcell j c hc,hrel j c hc⟩) h;exact⟨u,by simp[Instr.loadAt,Instr.sureAddr,hu],hr⟩
 case pbuf k i off tot e z xs fz p hk ht hh =>
  rw[hk]at h;simp only at h;split at h
  ·rename_i hl;split at h
   ·rename_i x hx;obtain⟨h1,h2,h3⟩:=eN hg hk hx;have hp:=hh hl.symm;subst hp;obtain⟨u,hu,hr⟩:=kj hT (b:=s.φ k) (o:=i*z+off) h1 (fun j c hc=>by have:=h3 _ c hc;rwa [←pm]at this) h;exact⟨u,by simp[Instr.loadAt,Instr.sureAddr,hu],hr⟩
   ·cases h
  ·cases h
theorem bS{α:Type}(cs:List α)(off:Nat)(new:List α)(h:off+new.length≤cs.length)(j:Nat):
  (cs.take off++new++cs.drop (off+new.length))[j]?=if off≤j∧j<off+new.length then new[j-off]? else cs[j]?:=by
 have hl:(cs.take off).length=off:=by simp;omega
 by_cases h1:j<off
 ·rw[if_neg (by omega),oh,oL (by omega),pD,if_pos h1]
 ·by_cases h2:j<off+new.length
  ·rw[if_pos (by omega),oh,oS (by omega),hl,oL (by omega)]
  ·rw[if_neg (by omega),oS (by simp;omega),pP];congr 1;simp;omega
theorem cY(cs:List V)(off:Nat)(new:List V)(h:off+new.length≤cs.length):(bE cs off new).length=cs.length:=by simp[bE];omega
theorem eV{cs:List V}{off:Nat}{new:List V}{c:V}(hc:c∈bE cs off new):c∈cs∨c∈new:=by
 simp only[bE,qB]at hc
 rcases hc with(h | h) | h
 ·exact .inl (pQ h)
 ·exact .inr h
 ·exact .inl (pq h)
theorem ofCells_cells{x:V}{cs:List V}(hx:∀c∈x.cells,c.one=true)(hl:cs.length=x.cells.length)(h1:∀c∈cs,c.one=true):(ey x cs).cells=cs:=by
 have single:x.cells=[x]→(∀xs,x≠.agg xs)→(ey x cs).cells=cs:=fun e hne=>by
  rw[e]at hl
  match cs,hl with
  | [c],_ =>
   have hc:=h1 c (by simp)
   have:ey x [c]=c:=by cases x<;>first | rfl | exact absurd rfl (hne _)
   rw[this];cases c<;>simp_all [V.one,V.cells]
 cases x with
 | agg xs=>rfl
 | _=>exact single rfl (by intro _ h;cases h)
theorem store_sound(hT:TOk P T)(hg:Good s){t:TypeId}{a v:V}{ua uv:Value}{H':List B}(ha:Rel s a ua)(hv:Rel s v uv)(h:storeA T s.H t a v=some H'):
  ∃s',(Instr.storeAt t ua uv).run P s.w = .ok () s'.w∧s'.H=H'∧Good s'∧Step s s':=by
 unfold storeA at h;split at h
 ·cases h
 ·rename_i i hi;split at h
  ·rename_i hsz;obtain⟨hsz,hone⟩:=hsz;obtain⟨c1,c2,c3⟩:=hv.cells hone
   have hone':∀c∈v.cells,c.one=true:=by simpa using hone
   have hrun:∀(b o:Nat) (vs:Array Value) (e:TypeId),s.w.heap[b]?=some (.cells vs e (0,0))→o+v.cells.length≤vs.size →
     (Instr.storeAt t (.pointer (some ⟨b,o,none⟩)) uv).run P s.w = .ok () (s.w.setRow b (vs.toList.take o++uv.cells.toList++vs.toList.drop (o+uv.cells.toList.length)).toArray):=fun b o vs e hb hle=>by
    have:=run_storeCells_at (P:=P) b o e uv.cells.toList 0 vs s.w hb (by simp only[ph,qH];omega) c3;simp only[qH]at this;simp[Instr.storeAt,Instr.sureAddr,storeVar,run_sizeOf hT hi,c1,hsz,this]
   cases ha<;>simp only at h<;>try (cases h;done)
   case ptr k off cs hk =>
    rw[hk]at h;simp only at h;split at h
    ·rename_i hle;cases h;obtain⟨h1,vs,e,h2,h3,h4⟩:=hg.blk k _ hk;refine⟨s.setB _ k (.cells (bE cs off v.cells)),hrun (s.φ k) off vs e h2 (by omega),rfl,?_,?_⟩
     ·refine bQ hg hk (lvC hk) trivial rfl rfl rfl (by simp) (fun b _ hne=>setRow_other _ _ _ _ hne) (fun hst=>?_);refine⟨fun c hc=>?_,_,e,setRow_heap _ _ _ _ _ _ h2,?_,fun j c u hc hu=>?_⟩
      ·rcases eV hc with h | h
       ·exact h1 c h
       ·exact hone' c h
      ·rw[cY cs off _ hle];simp;omega
      ·rw[bE,bS cs off v.cells hle]at hc
       have hu':(vs.toList.take off++uv.cells.toList++vs.toList.drop (off+uv.cells.toList.length))[j]?=some u:=by simpa using hu
       rw[bS vs.toList off uv.cells.toList (by simp;omega)]at hu';simp only[ph,c1]at hu';split at hc
       ·rename_i hj;rw[if_pos hj]at hu';exact(c2 (j-off) c u hc (by simpa using hu')).step hst
       ·rename_i hj;rw[if_neg hj]at hu';exact(h4 j c u hc (by simpa using hu')).step hst
     ·exact bI hg hk (lvC hk) trivial rfl rfl rfl (by simp) (fun b _ hne=>setRow_other _ _ _ _ hne)
    ·cases h
   case pbuf k i' off tot e z xs fz p hk ht hh =>
    rw[hk]at h;cases fz
    ·simp only at h;split at h
     ·rename_i hl;split at h
      ·rename_i x hx;split at h
       ·rename_i hle;cases h;have hp:=hh hl.symm;subst hp;obtain⟨vs,h2,h3,h4,h5,h6,h7⟩:=hg.blk k _ hk;have hxm:=h6 x (oH hx);have hil:=aB hx;have hlk:=lvB hk (show s.κ k≠0 by omega);have h2:=h2 (by omega);have hlen:(bE x.cells off v.cells).length=x.cells.length:=cY _ _ _ hle
        have hcs:∀c∈bE x.cells off v.cells,c.one=true:=fun c hc=>by
         rcases eV hc with h | h
         ·exact hxm.2 c h
         ·exact hone' c h
        have hcell:=ofCells_cells (x:=x) hxm.2 hlen hcs;have hb:(i'+1)*z≤s.κ k*z:=ol _ (by omega);rw[ov,Nat.one_mul]at hb
        have hle2:i'*z+off+v.cells.length≤vs.size:=by omega
        have hal:B.alike (.buf e z xs false) (.buf e z (xs.set i' (ey x (bE x.cells off v.cells))) false):=⟨rfl,rfl,by simp,rfl,rfl⟩;refine⟨s.setB _ k _,hrun (s.φ k) (i'*z+off) vs e h2 hle2,rfl,?_,?_⟩
        ·refine bQ hg hk hlk hal rfl rfl rfl (by simp) (fun b _ hne=>setRow_other _ _ _ _ hne) (fun hst=>?_);refine⟨_,fun _=>setRow_heap _ _ _ _ _ _ h2,?_,by simpa[St.setB] using h4,h5,fun y hy=>?_,fun m y j c u hy hc hu=>?_⟩
         ·simp only[St.setB];rw[←h3];simp;omega
         ·rcases pu hy with hy | rfl
          ·exact h6 y hy
          ·rw[hcell];exact⟨by omega,hcs⟩
         ·have hu':(vs.toList.take (i'*z+off)++uv.cells.toList++vs.toList.drop (i'*z+off+uv.cells.toList.length))[m*z+j]?=some u:=by simpa using hu
          rw[bS vs.toList _ uv.cells.toList (by simp;omega)]at hu';simp only[ph,c1]at hu';by_cases hm:m=i'
          ·subst hm;rw[oX hil]at hy;cases hy;rw[hcell,bE,bS x.cells off v.cells hle]at hc;split at hc
           ·rename_i hj;rw[if_pos (by omega)]at hu';exact(c2 (j-off) c u hc (by rw[show m*z+j-(m*z+off)=j-off by omega]at hu';simpa using hu')).step hst
           ·rename_i hj;rw[if_neg (by omega)]at hu';exact(h7 m x j c u hx hc (by simpa using hu')).step hst
          ·rw[oQ (Ne.symm hm)]at hy;have hyz:=(h6 y (oH hy)).1;have hjl:=aB hc
           have hno:¬(i'*z+off≤m*z+j∧m*z+j<i'*z+off+v.cells.length):=by
            rintro⟨q1,q2⟩
            rcases pS m i' with hlt | hge
            ·have:(m+1)*z≤i'*z:=ol _ (by omega);rw[ov]at this;omega
            ·have:(i'+1)*z≤m*z:=ol _ (by omega);rw[ov]at this;omega
           rw[if_neg hno]at hu';exact(h7 m y j c u hy hc (by simpa using hu')).step hst
        ·exact bI hg hk hlk hal rfl rfl rfl (by simp) (fun b _ hne=>setRow_other _ _ _ _ hne)
       ·cases h
      ·cases h
     ·cases h
    ·cases h
  ·cases h
end
end Go.AM
namespace Go.AM
open Go
section
variable {P:Program} {T:Ty} {s:St}
theorem alloc_new(w:World)(o:Obj):(w.alloc o).heap[w.heap.size]?=some o:=heap_alloc_new w o
theorem alloc_old(w:World)(o:Obj)(b:Nat)(h:b<w.heap.size):(w.alloc o).heap[b]?=w.heap[b]?:=heap_alloc_old w o h
theorem cells_new(hg:Good s){v:V}{u:Value}(hv:Rel s v u)(h1:v.cells.all V.one=true)(e c:Nat):
  Good (s.push (s.w.alloc (.cells u.cells e)) s.w.heap.size c (.cells v.cells))∧Step s (s.push (s.w.alloc (.cells u.cells e)) s.w.heap.size c (.cells v.cells)):=by
 obtain⟨c1,c2,c3⟩:=hv.cells h1;have ho:=alloc_old s.w (.cells u.cells e);refine⟨dQ hg rfl rfl rfl (by simp) ho (oJ _) (by simp) (fun hst=>?_),cq hg rfl rfl rfl (by simp) ho (oJ _)⟩;refine⟨by simpa using h1,u.cells,e,?_,c1,fun i c x hc hx=>(c2 i c x hc hx).step hst⟩;simp only[St.push,aR];exact alloc_new _ _
theorem push_ptr(w:World)(g c:Nat)(cs:List V)(off:Nat):Rel (s.push w g c (.cells cs)) (.ptr s.H.length off) (.pointer (some ⟨g,off,none⟩)):=by
 have:=Rel.ptr (s:=s.push w g c (.cells cs)) s.H.length off cs (by simp[St.push]);simpa only[St.push,aR] using this
def boxA(H:List B)(v:V):Option (V×List B):=if v.cells.all V.one=true then some (.ptr H.length 0,H++[.cells v.cells]) else none
theorem box_sound(hg:Good s){v r:V}{u:Value}{H':List B}{elem:TypeId}(hv:Rel s v u)(h:boxA s.H v=some (r,H')):
  ∃u' s',(Instr.box elem u).run P s.w = .ok u' s'.w∧s'.H=H'∧Good s'∧Step s s'∧Rel s' r u':=by
 unfold boxA at h;split at h
 ·rename_i h1;cases h;obtain⟨g1,g2⟩:=cells_new hg hv h1 elem 0;exact⟨_,_,by simp[Instr.box,newVar,newRow,St.push],rfl,g1,g2,push_ptr _ _ _ _ 0⟩
 ·cases h
def allocA(T:Ty)(H:List B)(t:TypeId):Option (V×List B):=
 match T t with
 | some i=>boxA H i.zero
 | none=>none
theorem alloc_sound(hT:TOk P T)(hg:Good s){r:V}{H':List B}{t:TypeId}(h:allocA T s.H t=some (r,H')):
  ∃u' s',(Instr.alloc t true (.tuple #[])).run P s.w = .ok u' s'.w∧s'.H=H'∧Good s'∧Step s s'∧Rel s' r u':=by
 unfold allocA at h;split at h
 ·rename_i i hi;obtain⟨inf,_,_,_,_,hz,_⟩:=hT.info t i hi;obtain⟨u',s',h1,h2⟩:=box_sound (P:=P) (elem:=t) hg (bu hz) h;refine⟨u',s',?_,h2⟩;rw[←h1];simp[Instr.alloc,fC hT hi,Instr.box]
 ·cases h
def fJ:V→Value
 | .int k n=>.int k n
 | .bool b=>.bool b
 | .str x=>.string x
 | _=>.nilFunc
theorem bin_sound{op:BinOp}{t:TypeId}{x y r:V}{ux uy:Value}{ox oy:Operand}(hx:Rel s x ux)(hy:Rel s y uy)(h:binA op x y=some r):
  ∃u,(do eqGuard op t ox oy ux uy;binOp op t ux uy:Sem Value).run P s.w = .ok u s.w∧Rel s r u:=by
 refine⟨fJ r,?_⟩
 cases hx<;>simp only[binA]at h<;>try (cases h;done)
 case int k a =>
  cases hy<;>simp only at h<;>try (cases h;done)
  case int k' b =>
   have hgd:(eqGuard op t ox oy (.int k a) (.int k' b)).run P s.w = .ok () s.w:=by unfold eqGuard;cases op<;>simp
   cases op<;>simp only at h<;>(first | (split at h) | skip)<;>(first | (cases h;done) | skip)
   all_goals (first | (split at h) | skip)<;>(first | (cases h;done) | skip)
   all_goals
    cases h;refine⟨?_,?_⟩
    ·simp only[Sem.run_bind,hgd,Result.andThen_ok]
     simp_all [binOp,Op.shift,Op.intArith,Op.intDiv,Op.intBits,Op.intCmp,fJ]
     try omega
    ·first | exact .int _ _ | exact .bool _
 case str a =>
  cases hy<;>simp only at h<;>try (cases h;done)
  case str b =>
   have hgd:(eqGuard op t ox oy (.string a) (.string b)).run P s.w = .ok () s.w:=by unfold eqGuard;cases op<;>simp
   cases op<;>simp only at h<;>(first | (split at h) | skip)<;>(first | (cases h;done) | skip)
   all_goals
    cases h;refine⟨?_,?_⟩
    ·simp only[Sem.run_bind,hgd,Result.andThen_ok]
     simp_all [binOp,Op.stringOp,fJ,IntKind.max,IntKind.signed,IntKind.bits]
     try omega
    ·first | exact .str _ | exact .bool _
theorem un_sound{op:UnOp}{x r:V}{ux:Value}(hx:Rel s x ux)(h:unA op x=some r):∃u,(Op.unary op ux).run P s.w = .ok u s.w∧Rel s r u:=by
 refine⟨fJ r,?_⟩
 cases hx<;>simp only[unA]at h<;>try (cases h;done)
 case int k a =>
  cases op<;>simp only at h<;>(first | (cases h;done) | skip)
  all_goals
   cases h;exact⟨by simp[Op.unary,Op.intArith,Op.intBits,fJ],.int _ _⟩
 case bool b =>
  cases op<;>simp only at h<;>(first | (cases h;done) | skip);cases h;exact⟨by simp[Op.unary,fJ],.bool _⟩
theorem lS(hT:TOk P T){st f:Nat}{x r:V}{ux:Value}(hx:Rel s x ux)(h:gC T st f x=some r):∃u,(Instr.fieldAt st ux f).run P s.w = .ok u s.w∧Rel s r u:=by
 unfold gC at h;split at h
 ·rename_i fd hf
  have hrun0:∀p:Addr,(Instr.fieldAt st (.pointer (some p)) f).run P s.w = .ok (.pointer (some (p.add fd.offset))) s.w:=fun p=>by
   unfold fieldA at hf;split at hf
   ·rename_i i hi;split at hf
    ·rename_i fields hd;split at hf
     ·rename_i fd' hfd;split at hf
      ·rename_i j hj;split at hf
       ·cases hf
       ·rename_i hne;cases hf;have hu:=hT.und st i hi;rw[hd]at hu;simp[Instr.fieldAt,run_underlying hu,hfd,Instr.sureAddr,fieldPlace,run_sizeOf hT hj,hne]
      ·cases hf
     ·cases hf
    ·cases hf
   ·cases hf
  have hrun:∀b o,(Instr.fieldAt st (.pointer (some ⟨b,o,none⟩)) f).run P s.w = .ok (.pointer (some ⟨b,o+fd.offset,none⟩)) s.w:=fun b o=>by rw[hrun0,bd]
  cases hx<;>simp only at h<;>try (cases h;done)
  case ptr k off cs hk=>cases h;exact⟨_,hrun _ _,.ptr k _ cs hk⟩
  case pin cs off b o u hp h1 hcell hrel =>
   cases h;exact⟨_,hrun _ _,.pin cs _ b _ (fun j=>u (fd.offset+j)) hp h1 (fun j c hc=>by rw[pm];exact hcell _ c (by rwa [pm]at hc)) (fun j c hc=>hrel _ c (by rwa [pm]at hc))⟩
  case pbuf k i off tot e z xs fz p hk ht hh =>
   cases h;exact⟨_,hrun0 p,.pbuf k i _ tot e z xs fz _ hk ht (fun he=>by rw[hh he,bd,pm])⟩
 ·cases h
theorem dR(hT:TOk P T){t:TypeId}{cs:List V}{us:Array Value}{off:Nat}{v:V}(hl:us.size=cs.length)(h1:∀c∈cs,c.one=true)(hr:∀(i:Nat) c u,cs[i]?=some c→us[i]?=some u→Rel s c u)
  (h:iX T t cs off=some v):∃u,(part t us off).run P s.w = .ok u s.w∧Rel s v u:=by
 unfold iX at h;split at h
 ·rename_i i hi;split at h
  ·rename_i ha;split at h
   ·rename_i hle;cases h;refine⟨.agg (us.extract off (off+i.size)),by simp[part,iD hT hi,ha,run_sizeOf hT hi],?_⟩;refine .agg _ _ (by simp;omega) (fun c hc=>h1 c (pq (pQ hc))) (fun j c u hc hu=>?_)
    have hj:j<i.size:=by have:=(List.getElem?_eq_some_iff.1 hc).1;simp at this;omega
    rw[pD,if_pos hj,pP]at hc;refine hr (off+j) c u hc ?_;rw[Array.getElem?_extract]at hu;split at hu
    ·exact hu
    ·cases hu
   ·cases h
  ·rename_i ha;have hlt:=aB h
   have e:us[off]?=some us[off]:=by simp[hl,hlt]
   exact⟨us[off],by simp[part,iD hT hi,ha,e],hr off v _ h e⟩
 ·cases h
theorem field_sound(hT:TOk P T){st f:Nat}{x r:V}{ux:Value}(hx:Rel s x ux)(h:jo T st f x=some r):∃u,(Instr.field st ux f).run P s.w = .ok u s.w∧Rel s r u:=by
 unfold jo at h;split at h
 ·rename_i i cs hi
  cases hx with
  | agg _ us hl h1 hr =>
   split at h
   ·rename_i fields hd;have hu:=hT.und st i hi;rw[hd]at hu;split at h
    ·rename_i fd hfd;obtain⟨u,h2,h3⟩:=dR hT hl h1 hr h;exact⟨u,by simp[Instr.field,run_underlying hu,hfd,asAgg,h2],h3⟩
    ·cases h
   ·cases h
 ·cases h
theorem index_sound(hT:TOk P T){t:TypeId}{x ix r:V}{ux ui:Value}(hx:Rel s x ux)(hi:Rel s ix ui)(h:indexA T t x ix=some r):∃u,(Instr.index t ux ui).run P s.w = .ok u s.w∧Rel s r u:=by
 unfold indexA at h;split at h
 ·rename_i i st kk n ht;cases hx;cases hi;have hu:=hT.und t i ht;split at h
  ·rename_i hd;rw[hd]at hu;split at h
   ·rename_i hn;split at h
    ·rename_i b hb;cases h;exact⟨.int .u8 b.toNat,by simp[Instr.index,asIntOf,run_underlying hu,hn,hb],.int _ _⟩
    ·cases h
   ·cases h
  ·cases h
 ·rename_i i cs kk n ht;cases hi
  cases hx with
  | agg _ us hl h1 hr =>
   have hu:=hT.und t i ht;split at h
   ·rename_i len e hd;rw[hd]at hu;split at h
    ·rename_i j hj;split at h
     ·rename_i hn;obtain⟨u,h2,h3⟩:=dR hT hl h1 hr h;exact⟨u,by simp[Instr.index,asIntOf,run_underlying hu,hn,run_sizeOf hT hj,h2],h3⟩
     ·cases h
    ·cases h
   ·cases h
 ·cases h
theorem lR(hT:TOk P T)(hg:Good s){t:TypeId}{x ix r:V}{ux ui:Value}(hx:Rel s x ux)(hi:Rel s ix ui)(h:fy T s.H t x ix=some r):∃u,(Instr.indexAt t ux ui).run P s.w = .ok u s.w∧Rel s r u:=by
 unfold fy at h;split at h
 ·rename_i i kk n ht;cases hi;split at h
  ·rename_i hn0;split at h
   ·rename_i e hd;have hu:=hT.und t i ht;rw[hd]at hu;split at h
    ·rename_i j hj
     cases hx<;>simp only at h<;>try (cases h;done)
     case lst z full xs A cap b off u hcap hfull hA hz hcell hrel =>
      split at h
      ·rename_i hsz;split at h
       ·rename_i v hv;cases h;have hlt:=aB hv;obtain⟨rfl,hp⟩:=hA (by omega);obtain⟨hz1,hz2⟩:=hz v (oH hv)
        have hlt':n<(xs.length:Int):=by omega
        refine⟨.pointer (some ⟨b,off+n.toNat*j.size,none⟩),?_,?_⟩
        ·simp[Instr.indexAt,asIntOf,run_underlying hu,hn0,hlt',run_sizeOf hT hj,bd]
        ·refine .pin v.cells 0 b _ (fun m=>u n.toNat m) hp hz2 (fun m c hc=>?_) (fun m c hc=>hrel _ v m c hv (by simpa using hc));rw[←hsz];exact hcell _ v m c hv (by simpa using hc)
       ·cases h
      ·cases h
     case buf k off len tot e' z xs fz A l c hk htot hh =>
      rw[hk]at h;simp only at h;split at h
      ·rename_i hc;obtain⟨hc1,hc2,hc3⟩:=hc;cases h;obtain⟨hA,rfl,h3,h4⟩:=hh hc1.symm;obtain⟨_,_,_,hk4,_⟩:=hg.blk k _ hk;have hA:=hA (by omega);subst hA;refine⟨.pointer (some ⟨s.φ k,off*z+n.toNat*j.size,none⟩),?_,?_⟩
       ·simp[Instr.indexAt,asIntOf,run_underlying hu,hn0,hc3,run_sizeOf hT hj,bd]
       ·exact .pbuf k _ 0 tot e' z xs fz _ hk htot (fun _=>by rw[hc2,ov];rfl)
      ·cases h
    ·cases h
   ·rename_i len e hd;have hu:=hT.und t i ht;rw[hd]at hu;split at h
    ·rename_i j hj
     cases hx<;>simp only at h<;>try (cases h;done)
     case ptr k off cs hk =>
      split at h
      ·rename_i hlt;cases h;refine⟨.pointer (some ⟨s.φ k,off+n.toNat*j.size,none⟩),?_,.ptr k _ cs hk⟩;simp[Instr.indexAt,asIntOf,run_underlying hu,hn0,hlt,run_sizeOf hT hj,bd,Instr.sureAddr]
      ·cases h
    ·cases h
   ·cases h
  ·cases h
 ·cases h
theorem len_sound(hT:TOk P T)(hg:Good s){t:TypeId}{x r:V}{ux:Value}{ty:TypeId}(hx:Rel s x ux)(h:lenA T s.H t x=some r):∃u,(Builtin.len_ #[t] ty #[ux]).run P s.w = .ok u s.w∧Rel s r u:=by
 unfold lenA at h;split at h
 ·rename_i i ht;have hu:=hT.und t i ht;generalize i.desc=d at hu h;refine⟨fJ r,?_⟩;split at h
  ·cases hx;cases h;exact⟨by simp[Builtin.len_,run_underlying hu,fJ,goInt],.int _ _⟩
  ·cases hx;cases h;exact⟨by simp[Builtin.len_,run_underlying hu,fJ,goInt],.int _ _⟩
  ·cases hx;cases h;exact⟨by simp[Builtin.len_,run_underlying hu,fJ,goInt],.int _ _⟩
  ·rename_i k off len tot
   cases hx with
   | buf _ _ _ _ e z xs fz A l c hk htot hh =>
    rw[hk]at h;simp only at h;split at h
    ·rename_i he;cases h;obtain⟨_,rfl,_⟩:=hh he.symm;exact⟨by simp[Builtin.len_,run_underlying hu,fJ,goInt],.int _ _⟩
    ·cases h
  ·cases hx;cases h;exact⟨by simp[Builtin.len_,run_underlying hu,fJ,goInt],.int _ _⟩
  ·cases hx with
   | map _ kk es hk =>
    rw[hk]at h;cases h;obtain⟨_,ms,cl,h2,h3,_⟩:=hg.blk _ _ hk;exact⟨by simp[Builtin.len_,run_underlying hu,fJ,goInt,MapKept.run_getObj_map h2,h3],.int _ _⟩
  ·cases h
 ·cases h
theorem iu{f:V→V→Option V}{g:Value→Value→Sem Value}(hf:∀{x y r:V} {ux uy:Value},Rel s x ux→Rel s y uy→f x y=some r→∃u,(g ux uy).run P s.w = .ok u s.w∧Rel s r u):
  ∀{ys:List V} {uys:List Value} {x r:V} {ux:Value},Rel s x ux→ys.length=uys.length→(∀(i:Nat) y u,ys[i]?=some y→uys[i]?=some u→Rel s y u)→foldA f x ys=some r→∃u,(uys.foldlM g ux).run P s.w = .ok u s.w∧Rel s r u
 | [],[],x,r,ux,hx,_,_,h=>by simp[foldA]at h;subst h;exact⟨ux,by simp,hx⟩
 | y::ys,uy::uys,x,r,ux,hx,hl,hr,h=>by
  simp only[foldA]at h;split at h
  ·rename_i z hz;obtain⟨u,h1,h2⟩:=hf hx (hr 0 y uy rfl rfl) hz;obtain⟨u',h3,h4⟩:=iu hf h2 (by simpa using hl) (fun i a b ha hb=>hr (i+1) a b (by simpa using ha) (by simpa using hb)) h;exact⟨u',by simp[List.foldlM_cons,h1,h3],h4⟩
  ·cases h
theorem max2_sound{x y r:V}{ux uy:Value}(hx:Rel s x ux)(hy:Rel s y uy)(h:max2A x y=some r):∃u,(Builtin.max2 ux uy).run P s.w = .ok u s.w∧Rel s r u:=by
 cases hx<;>simp only[max2A]at h<;>try (cases h;done)
 cases hy<;>simp only at h<;>try (cases h;done)
 cases h;exact⟨_,by simp[Builtin.max2],.int _ _⟩
theorem min2_sound{x y r:V}{ux uy:Value}(hx:Rel s x ux)(hy:Rel s y uy)(h:min2A x y=some r):∃u,(Builtin.min2 ux uy).run P s.w = .ok u s.w∧Rel s r u:=by
 cases hx<;>simp only[min2A]at h<;>try (cases h;done)
 cases hy<;>simp only at h<;>try (cases h;done)
 cases h;exact⟨_,by simp[Builtin.min2],.int _ _⟩
end
end Go.AM
namespace Go.AM
open Go
structure CRel (s:St) (cs:List V) (us:Array Value):Prop where
 len:us.size=cs.length
 one:∀c∈cs,c.one=true
 rel:∀(i:Nat) c u,cs[i]?=some c→us[i]?=some u→Rel s c u
def jn(place:Nat→Option (Nat×Nat))(cells:List V):List (Nat×V)→Option (List V)
 | []=>some cells
 | (i,v)::rest =>
  match place i with
  | none=>none
  | some (off,size)=>if v.cells.length=size∧off+size≤cells.length∧v.cells.all V.one=true then jn place (bE cells off v.cells) rest else none
theorem foldl_set(off:Nat):∀(l:List (Value×Nat)) (k:Nat) (us:Array Value),(∀i p,l[i]?=some p→p.2=k+i)→off+k+l.length≤us.size →
  (l.foldl (fun cs (c,j)=>cs.setIfInBounds (off+j) c) us).toList=us.toList.take (off+k)++l.map (·.1)++us.toList.drop (off+k+l.length)
 | [],k,us,_,_=>by simp
 | (c,j)::l,k,us,h,hl=>by
  have hj:j=k:=by have:=h 0 (c,j) rfl;simpa using this
  subst hj;simp only[og]at hl;rw[ri,foldl_set off l (j+1) (us.setIfInBounds (off+j) c) (fun i p hp=>by have:=h (i+1) p (by simpa using hp);omega) (by simp;omega)];simp only[Array.toList_setIfInBounds,oq,og]
  have h1:off+j<us.toList.length:=by simp;omega
  have e1:(us.toList.set (off+j) c).take (off+(j+1))=us.toList.take (off+j)++[c]:=by
   apply pT;intro i;rw[pD];by_cases hi:i<off+j
   ·rw[if_pos (by omega),oQ (by omega),oL (by simp;omega),pD,if_pos hi]
   ·by_cases hi2:i=off+j
    ·subst hi2
     have e0:off+j-(us.toList.take (off+j)).length=0:=by rw[ot];omega
     rw[if_pos (by omega),oX h1,oS (by rw[ot];omega),e0];rfl
    ·rw[if_neg (by omega),oS (by simp;omega)];rw[pK];simp;omega
  have e2:(us.toList.set (off+j) c).drop (off+(j+1)+l.length)=us.toList.drop (off+j+(l.length+1)):=by
   rw[List.drop_set,if_pos (by omega)];congr 1;omega
  rw[e1,e2];simp[oh]
def gi(off:Nat)(us:Array Value)(u:Value):Array Value:=u.cells.zipIdx.foldl (fun cs (c,j)=>cs.setIfInBounds (off+j) c) us
section
variable {P:Program} {T:Ty} {s:St}
theorem fill_step(off:Nat)(us:Array Value)(nv:Array Value)(h:off+nv.size≤us.size):
  (nv.zipIdx.foldl (fun cs (c,j)=>cs.setIfInBounds (off+j) c) us).toList=us.toList.take off++nv.toList++us.toList.drop (off+nv.size):=by
 rw[←Array.foldl_toList]
 have:=foldl_set off nv.zipIdx.toList 0 us (fun i p hp=>by
  rw[pV,Array.getElem?_zipIdx]at hp
  cases hn:nv[i]? with
  | none=>rw[hn]at hp;cases hp
  | some a=>rw[hn]at hp;cases hp;simp) (by simp;omega)
 simpa[Function.comp_def] using this
theorem crel_splice{cs:List V}{us:Array Value}(hc:CRel s cs us){off:Nat}{v:V}{u:Value}(hv:Rel s v u)(h1:v.cells.all V.one=true)(hle:off+v.cells.length≤cs.length):
  CRel s (bE cs off v.cells) (us.toList.take off++u.cells.toList++us.toList.drop (off+u.cells.size)).toArray:=by
 obtain⟨c1,c2,c3⟩:=hv.cells h1;have hl:=hc.len;refine⟨by rw[cY _ _ _ hle];simp;omega,fun c hm=>?_,fun j c x hcj hx=>?_⟩
 ·rcases eV hm with h | h
  ·exact hc.one c h
  ·simpa using List.all_eq_true.1 h1 c h
 ·rw[bE,bS cs off v.cells hle]at hcj
  have hx':(us.toList.take off++u.cells.toList++us.toList.drop (off+u.cells.toList.length))[j]?=some x:=by simpa using hx
  rw[bS us.toList off u.cells.toList (by simp;omega)]at hx';simp only[ph,c1]at hx';split at hcj
  ·rename_i hj;rw[if_pos hj]at hx';exact c2 _ c x hcj (by simpa using hx')
  ·rename_i hj;rw[if_neg hj]at hx';exact hc.rel j c x hcj (by simpa using hx')
theorem iw{place:Nat→Option (Nat×Nat)} : ∀{parts:List (Nat×V)} {uparts:List (Nat×Value)} {cs cs':List V} {us:Array Value},CRel s cs us→parts.length=uparts.length →
  (∀(i:Nat) p u,parts[i]?=some p→uparts[i]?=some u→p.1=u.1∧Rel s p.2 u.2)→jn place cs parts=some cs'→∃us',Instr.fill place us uparts=some us'∧CRel s cs' us'
 | [],[],cs,cs',us,hc,_,_,h=>by simp[jn]at h;subst h;exact⟨us,rfl,hc⟩
 | (i,v)::parts,(i',u)::uparts,cs,cs',us,hc,hl,hr,h=>by
  obtain⟨e0,hv⟩:=hr 0 (i,v) (i',u) rfl rfl;simp only at e0 hv;subst e0;simp only[jn]at h;split at h
  ·cases h
  ·rename_i off size hp;split at h
   ·rename_i hcond;obtain⟨e1,e2,e3⟩:=hcond;obtain⟨c1,_,_⟩:=hv.cells e3;have hlen:=hc.len;have hsp:=crel_splice hc hv e3 (off:=off) (by omega)
    obtain⟨us',h1,h2⟩:=iw (place:=place) (us:=gi off us u) (uparts:=uparts) (by
     have e:=fill_step off us u.cells (by omega)
     have:gi off us u=(us.toList.take off++u.cells.toList++us.toList.drop (off+u.cells.size)).toArray:=by
      apply Array.ext';simpa[gi] using e
     rw[this];exact hsp) (by simpa using hl) (fun j p q hp hq=>hr (j+1) p q (by simpa using hp) (by simpa using hq)) h
    refine⟨us',?_,h2⟩;rw[Instr.fill,hp];simp only[show ¬(u.cells.size≠size) by omega,show ¬(off+u.cells.size > us.size) by omega,decide_false,Bool.or_false];exact h1
   ·cases h
def iI(T:Ty):List Field→Option (List (Nat×Nat))
 | []=>some []
 | f::fs=>match T f.type,iI T fs with
  | some i,some r=>some ((f.offset,i.size)::r)
  | _,_=>none
def buildA(T:Ty)(t:TypeId)(parts:List (Nat×V)):Option V :=
 match T t with
 | some it=>match it.desc with
  | .struct fields=>match iI T fields.toList with
   | some places=>(jn (fun i=>places[i]?) it.zero.cells parts).map .agg
   | none=>none
  | .array _ e=>match T e with
   | some j=>(jn (fun i=>some (i*j.size,j.size)) it.zero.cells parts).map .agg
   | none=>none
  | _=>none
 | none=>none
theorem places_eq(hT:TOk P T):∀{fs:List Field} {ps:List (Nat×Nat)},iI T fs=some ps→fs.mapM (fun f=>(P.info? f.type).map fun i=>(f.offset,i.size))=some ps
 | [],ps,h=>by simp[iI]at h;subst h;rfl
 | f::fs,ps,h=>by
  simp only[iI]at h;split at h
  ·rename_i i r hi hr;cases h;obtain⟨inf,h1,h2,_⟩:=hT.info _ i hi;simp[List.mapM_cons,h1,h2,places_eq hT hr]
  ·cases h
theorem eP{v:Value}{x:V}(h:gh v=some x):x.cells.all V.one=true:=by
 unfold gh at h;split at h
 ·rename_i cs
  cases hv:gd cs.toList with
  | none=>rw[hv]at h;cases h
  | some xs=>rw[hv]at h;cases h;simpa[V.cells] using(im (s:=⟨fun _=>False,default,id,id,[]⟩) hv).2.1
 ·have:=(io (s:=⟨fun _=>False,default,id,id,[]⟩) h).2;cases x<;>simp_all [V.cells,V.one]
theorem crel_of{v:V}{u:Value}(hv:Rel s v u)(h1:v.cells.all V.one=true):CRel s v.cells u.cells :=
 ⟨(hv.cells h1).1,by simpa using h1,(hv.cells h1).2.1⟩
theorem crel_zero(hT:TOk P T){t:TypeId}{i:TI}(hi:T t=some i):CRel s i.zero.cells i.zval.cells:=by
 obtain⟨inf,_,_,_,_,h,_⟩:=hT.info t i hi;exact crel_of (bu h) (eP h)
theorem build_sound(hT:TOk P T){t:TypeId}{parts:List (Nat×V)}{uparts:Array (Nat×Value)}{r:V}(hl:parts.length=uparts.size)
  (hr:∀(i:Nat) p u,parts[i]?=some p→uparts[i]?=some u→p.1=u.1∧Rel s p.2 u.2) (h:buildA T t parts=some r):∃u,(Instr.build t uparts).run P s.w = .ok u s.w∧Rel s r u:=by
 unfold buildA at h
 have hl':parts.length=uparts.toList.length:=by simpa using hl
 have hr':∀(i:Nat) p u,parts[i]?=some p→uparts.toList[i]?=some u→p.1=u.1∧Rel s p.2 u.2:=fun i p u h1 h2=>hr i p u h1 (by simpa using h2)
 split at h
 ·rename_i it hit;obtain⟨inf,q1,q2,q3,q4,q5,q6⟩:=hT.info t it hit;have hu:=hT.und t it hit;have hz:=crel_zero (s:=s) hT hit;split at h
  ·rename_i fields hd;rw[hd]at hu;split at h
   ·rename_i places hp
    cases hf:jn (fun i=>places[i]?) it.zero.cells parts with
    | none=>rw[hf]at h;cases h
    | some cs =>
     rw[hf]at h;cases h;obtain⟨us',h1,h2⟩:=iw hz hl' hr' hf;refine⟨.agg us',run_build s.w t uparts us' ?_,.agg cs us' h2.len h2.one h2.rel⟩;simp only[Program.built,q1,hu,q4,places_eq hT hp];simpa using h1
   ·cases h
  ·rename_i n e hd;rw[hd]at hu;split at h
   ·rename_i j hj;obtain⟨inf',p1,p2,_⟩:=hT.info e j hj
    cases hf:jn (fun i=>some (i*j.size,j.size)) it.zero.cells parts with
    | none=>rw[hf]at h;cases h
    | some cs =>
     rw[hf]at h;cases h;obtain⟨us',h1,h2⟩:=iw hz hl' hr' hf;refine⟨.agg us',run_build s.w t uparts us' ?_,.agg cs us' h2.len h2.one h2.rel⟩;simp only[Program.built,q1,hu,q4,p1,p2];exact h1
   ·cases h
  ·cases h
 ·cases h
structure FRow (s:St) (z:Nat) (xs:List V) (us:Array Value):Prop where
 len:us.size=xs.length*z
 el:∀x∈xs,x.cells.length=z∧∀c∈x.cells,c.one=true
 rel:∀(i:Nat) x (j:Nat) c u,xs[i]?=some x→x.cells[j]?=some c→us[i*z+j]?=some u→Rel s c u
theorem FRow.at_{z:Nat}{xs:List V}{us:Array Value}(h:FRow s z xs us){i j:Nat}{x c:V}(hx:xs[i]?=some x)(hc:x.cells[j]?=some c):∃u,us[i*z+j]?=some u∧Rel s c u:=by
 have hi:=aB hx;have hj:=aB hc;have hz:=(h.el x (oH hx)).1;have hb:(i+1)*z≤xs.length*z:=ol _ (by omega);rw[ov]at hb
 have hlt:i*z+j<us.size:=by have:=h.len;omega
 have e:us[i*z+j]?=some us[i*z+j]:=by simp[hlt]
 exact⟨_,e,h.rel i x j c _ hx hc e⟩
def ja(z:Nat)(xs:List V):List (Nat×V)→Option (List V)
 | []=>some xs
 | (i,v)::rest=>if v.cells.length=z∧i<xs.length∧v.cells.all V.one=true then ja z (xs.set i v) rest else none
theorem frow_set{z:Nat}{xs:List V}{us:Array Value}(h:FRow s z xs us){i:Nat}{v:V}{u:Value}(hv:Rel s v u)(h1:v.cells.all V.one=true)(hz:v.cells.length=z)(hi:i<xs.length):
  FRow s z (xs.set i v) (gi (i*z) us u)∧i*z+u.cells.size≤us.size:=by
 obtain⟨c1,c2,c3⟩:=hv.cells h1;have hb:(i+1)*z≤xs.length*z:=ol _ (by omega);rw[ov,Nat.one_mul]at hb;have hlen:=h.len
 have hle:i*z+u.cells.size≤us.size:=by omega
 have e:=fill_step (i*z) us u.cells hle
 have e':(gi (i*z) us u).toList=us.toList.take (i*z)++u.cells.toList++us.toList.drop (i*z+u.cells.toList.length):=by simpa[gi] using e
 have hsz:(gi (i*z) us u).size=us.size:=by
  have:=congrArg List.length e';simp at this;omega
 refine⟨⟨by simp[hsz,h.len],fun x hx=>?_,fun m x j c w hx hc hw=>?_⟩,hle⟩
 ·rcases pu hx with hx | rfl
  ·exact h.el x hx
  ·exact⟨hz,by simpa using h1⟩
 ·have hw':(gi (i*z) us u).toList[m*z+j]?=some w:=by simpa using hw
  rw[e',bS us.toList (i*z) u.cells.toList (by simpa using hle)]at hw';simp only[ph]at hw';have hj:=aB hc;by_cases hm:m=i
  ·subst hm;rw[oX hi]at hx;cases hx;rw[if_pos (by omega),show m*z+j-m*z=j by omega]at hw';exact c2 j c w hc (by simpa using hw')
  ·rw[oQ (Ne.symm hm)]at hx;have hxz:=(h.el x (oH hx)).1
   have hno:¬(i*z≤m*z+j∧m*z+j<i*z+u.cells.size):=by
    rintro⟨q1,q2⟩
    rcases pS m i with hlt | hge
    ·have:(m+1)*z≤i*z:=ol _ (by omega);rw[ov]at this;omega
    ·have:(i+1)*z≤m*z:=ol _ (by omega);rw[ov]at this;omega
   rw[if_neg hno]at hw';exact h.rel m x j c w hx hc (by simpa using hw')
theorem ip{z:Nat} : ∀{parts:List (Nat×V)} {uparts:List (Nat×Value)} {xs xs':List V} {us:Array Value},FRow s z xs us→parts.length=uparts.length →
  (∀(i:Nat) p u,parts[i]?=some p→uparts[i]?=some u→p.1=u.1∧Rel s p.2 u.2)→ja z xs parts=some xs' →
  ∃us',Instr.fill (fun i=>some (i*z,z)) us uparts=some us'∧FRow s z xs' us'∧xs'.length=xs.length
 | [],[],xs,xs',us,hc,_,_,h=>by simp[ja]at h;subst h;exact⟨us,rfl,hc,rfl⟩
 | (i,v)::parts,(i',u)::uparts,xs,xs',us,hc,hl,hr,h=>by
  obtain⟨e0,hv⟩:=hr 0 (i,v) (i',u) rfl rfl;simp only at e0 hv;subst e0;simp only[ja]at h;split at h
  ·rename_i hcond;obtain⟨e1,e2,e3⟩:=hcond;obtain⟨c1,_,_⟩:=hv.cells e3;obtain⟨f1,f2⟩:=frow_set hc hv e3 e1 e2;obtain⟨us',h1,h2,h3⟩:=ip f1 (by simpa using hl) (fun j p q hp hq=>hr (j+1) p q (by simpa using hp) (by simpa using hq)) h;refine⟨us',?_,h2,by simpa using h3⟩;rw[Instr.fill];simp only[show ¬(u.cells.size≠z) by omega,show ¬(i*z+u.cells.size > us.size) by omega,decide_false,Bool.or_false];exact h1
  ·cases h
theorem nH{z n:Nat}{x:V}{u:Value}(hv:Rel s x u)(h1:x.cells.all V.one=true)(hz:x.cells.length=z)(us:Array Value)(hsz:us.size=n*z)(hat:∀i,i<n*z→us[i]?=u.cells[i % u.cells.size]?):
  FRow s z (oE n x) us:=by
 obtain⟨c1,c2,c3⟩:=hv.cells h1;refine⟨by simpa using hsz,fun y hy=>?_,fun i y j c w hy hc hw=>?_⟩
 ·rw[pi hy];exact⟨hz,by simpa using h1⟩
 ·have hy':=pi (oH hy);subst hy'
  have hi:i<n:=by have:=aB hy;simpa using this
  have hj:=aB hc;have hb:(i+1)*z≤n*z:=ol _ (by omega);rw[ov]at hb;rw[hat _ (by omega),c1,hz,show(i*z+j) % z=j by rw[qr,rj];exact rZ (by omega)]at hw;exact c2 j c w hc hw
def fA(T:Ty)(t:TypeId)(len:Nat)(parts:List (Nat×V)):Option V :=
 match T t with
 | some it=>match it.desc with
  | .slice e=>match T e with
   | some j=>if len*j.size≤16777216∧0<j.size then
     if len=0 then(if parts.isEmpty then some (.lst j.size true []) else none)
     else(ja j.size (oE len j.zero) parts).map (.lst j.size true) else none
   | none=>none
  | _=>none
 | none=>none
theorem frow_lst{z:Nat}{xs:List V}{us:Array Value}{g c:Nat}{full:Bool}{e:TypeId}(h:FRow s z xs us)(hg:s.w.heap[g]?=some (.cells us e (0,0)))(hp:s.Prot g)(hc:xs.length≤c)(hf:full=true→c=xs.length):
  Rel s (.lst z full xs) (.slice (some ⟨g,0,none⟩) xs.length c):=by
 refine .lst z full xs _ c g 0 (fun i j=>(us[i*z+j]?).getD undef) hc hf (fun _=>⟨rfl,hp⟩) h.el (fun i x j d hx hd=>?_) (fun i x j d hx hd=>?_)
 ·obtain⟨u,hu,_⟩:=h.at_ hx hd;rw[hu];simp only[pI,qG];simp[World.cell?,hg,hu]
 ·obtain⟨u,hu,hr⟩:=h.at_ hx hd;rw[hu];exact hr
theorem FRow.step{s':St}(hs:Step s s'){z:Nat}{xs:List V}{us:Array Value}(h:FRow s z xs us):FRow s' z xs us :=
 ⟨h.len,h.el,fun i x j c u a b d=>(h.rel i x j c u a b d).step hs⟩
theorem prot_new(hg:Good s)(o:Obj):(s.at (s.w.alloc o)).Prot s.w.heap.size :=
 ⟨by simp[St.at],fun h=>by have:=hg.fl _ h;omega,fun k hk e=>by have:=(hg.lt k hk).1;simp only[St.at]at e;omega⟩
theorem zeros_at(u:Value)(n:Nat)(hpos:0<u.cells.size):∀i,i<n→((rq n).map (u.cells[· % u.cells.size]!))[i]?=u.cells[i % u.cells.size]?:=fun i hi=>by
 have:i % u.cells.size<u.cells.size:=ro _ hpos;simp[hi,this]
theorem bw(z:Nat)(full:Bool)(A:Option Addr)(c:Nat)(hf:full=true→c=0):Rel s (.lst z full []) (.slice A 0 c):=
 Rel.lst z full [] A c 0 0 (fun _ _=>undef) (qV _) hf (fun h=>absurd h (by simp)) (fun x hx=>absurd hx (by simp)) (fun i x j d hx=>by simp at hx) (fun i x j d hx=>by simp at hx)
theorem kq(hT:TOk P T)(hg:Good s){t:TypeId}{len:Nat}{parts:List (Nat×V)}{uparts:Array (Nat×Value)}{r:V}(hl:parts.length=uparts.size)
  (hr:∀(i:Nat) p u,parts[i]?=some p→uparts[i]?=some u→p.1=u.1∧Rel s p.2 u.2) (h:fA T t len parts=some r):
  ∃u s',(Instr.buildSlice t len uparts).run P s.w = .ok u s'.w∧s'.H=s.H∧Good s'∧Step s s'∧Rel s' r u:=by
 unfold fA at h
 have hl':parts.length=uparts.toList.length:=by simpa using hl
 have hr':∀(i:Nat) p u,parts[i]?=some p→uparts.toList[i]?=some u→p.1=u.1∧Rel s p.2 u.2:=fun i p u h1 h2=>hr i p u h1 (by simpa using h2)
 split at h
 ·rename_i it hit;have hu:=hT.und t it hit;split at h
  ·rename_i e hd;rw[hd]at hu;split at h
   ·rename_i j hj;obtain⟨inf,q1,q2,q3,q4,q5,q6⟩:=hT.info e j hj;split at h
    ·rename_i hsz
     have grow:=fun o=>fL hg (w:=s.w.alloc o) rfl rfl rfl (by simp) (fun b hb=>alloc_old _ _ b hb)
     split at h
     ·rename_i hlen;subst hlen;split at h
      ·rename_i hem;cases h
       have hp:uparts = #[]:=by
        have:parts.length=0:=by simpa using hem
        exact qd (by omega)
       subst hp;refine⟨.slice (some ⟨s.w.heap.size,0,none⟩) 0 0,s.at (s.w.alloc (.cells #[] e)),?_,rfl,(grow _).1,(grow _).2,bw _ true _ 0 (fun _=>rfl)⟩;simp[Instr.buildSlice,run_underlying hu,run_sizeOf hT hj,Instr.fill,newRow,St.at];rw[show(Array.map (fun _=>(default:Value)) (rq 0))= #[] from by simp[rq]]
      ·cases h
     ·rename_i hlen
      cases hf:ja j.size (oE len j.zero) parts with
      | none=>rw[hf]at h;cases h
      | some xs =>
       rw[hf]at h;cases h;have hzr:Rel s j.zero j.zval:=bu q5;have hz1:=eP q5;have hzc:=(hzr.cells hz1).1
       have h0:FRow s j.size (oE len j.zero) ((rq (len*j.size)).map (j.zval.cells[· % j.zval.cells.size]!)):=
        nH hzr hz1 q6 _ (by simp) (zeros_at j.zval (len*j.size) (by omega))
       obtain⟨us',h1,h2,h3⟩:=ip h0 hl' hr' hf
       have hlx:xs.length=len:=by simpa using h3
       have hmul:0<len*j.size:=Nat.mul_pos (by omega) hsz.2;have hrun:=run_buildSlice (P:=P) s.w t e len uparts us' inf j.zval hu q1 q4 (by rw[q2];omega) (by rw[q2];omega) (by rw[q2];exact h1);have hrel:=frow_lst (s:=s.at (s.w.alloc (.cells us' e))) (c:=len) (full:=true) (h2.step (grow _).2) (alloc_new _ _) (prot_new hg _) (by omega) (fun _=>hlx.symm);rw[hlx]at hrel;exact⟨_,s.at _,hrun,rfl,(grow _).1,(grow _).2,hrel⟩
    ·cases h
   ·cases h
  ·cases h
 ·cases h
def nA:V→Option Int
 | .int _ n=>some n
 | _=>none
def makeA(T:Ty)(H:List B)(t:TypeId)(l c:V):Option (V×List B):=
 match T t with
 | some it=>match it.desc with
  | .slice e=>match T e,nA l,nA c with
   | some j,some n,some m=>if 0≤n∧n≤m∧(j.bytes:Int)*m≤281474976710656∧m≤9223372036854775807∧0<j.size then
     some (.buf H.length 0 n.toNat n.toNat,H++[.buf e j.size (oE n.toNat j.zero) false]) else none
   | _,_,_=>none
  | _=>none
 | none=>none
theorem madeCells_at(u:Value)(n:Nat)(hpos:0<u.cells.size):(madeCells u.cells n).size=n∧∀i,i<n→(madeCells u.cells n)[i]?=u.cells[i % u.cells.size]?:=by
 unfold madeCells;refine⟨by simp,fun i hi=>?_⟩;have:i % u.cells.size<u.cells.size:=ro _ hpos;simp[hi,this]
theorem make_sound(hT:TOk P T)(hg:Good s){t:TypeId}{l c r:V}{ul uc:Value}{H':List B}(hl:Rel s l ul)(hc:Rel s c uc)(h:makeA T s.H t l c=some (r,H')):
  ∃u s',(Instr.makeSlice t ul uc).run P s.w = .ok u s'.w∧s'.H=H'∧Good s'∧Step s s'∧Rel s' r u:=by
 unfold makeA at h;split at h
 ·rename_i it hit;have hu:=hT.und t it hit;split at h
  ·rename_i e hd;rw[hd]at hu;split at h
   ·rename_i j n m hj hn hm
    cases hl<;>simp only[nA]at hn<;>try (cases hn;done)
    cases hc<;>simp only[nA]at hm<;>try (cases hm;done)
    cases hn;cases hm;split at h
    ·rename_i hcond;obtain⟨c1,c2,c3,c4,c5⟩:=hcond;cases h;obtain⟨inf,q1,q2,q3,q4,q5,q6⟩:=hT.info e j hj;rename_i kl kc;have hrun:=run_make (P:=P) s.w t e inf j.zval hu q1 q4 kl kc n m c1 c2 (by rw[q3];exact c3) c4;rw[q2]at hrun;have hzr:Rel s j.zero j.zval:=bu q5;have hz1:=eP q5;have hzc:=(hzr.cells hz1).1;obtain⟨m1,m2⟩:=madeCells_at j.zval (m.toNat*j.size) (by omega);have ho:=alloc_old s.w (.cells (madeCells j.zval.cells (m.toNat*j.size)) e);refine⟨_,s.push _ s.w.heap.size m.toNat _,hrun,rfl,?_,cq hg rfl rfl rfl (by simp) ho (oJ _),?_⟩
     ·refine dQ hg rfl rfl rfl (by simp) ho (oJ _) (by simp) (fun hst=>?_);refine⟨madeCells j.zval.cells (m.toNat*j.size),?_,?_,?_,?_,fun x hx=>?_,fun i x jj d w hx hd hw=>?_⟩
      ·intro _;simp only[St.push,aR];exact alloc_new _ _
      ·simp only[St.push,aR];exact m1
      ·simp only[St.push,aR,List.length_replicate];omega
      ·simp only[St.push,aR,maxLen];omega
      ·rw[pi hx];exact⟨q6,by simpa using hz1⟩
      ·have hxe:=pi (oH hx);subst hxe
       have hi:i<n.toNat:=by have:=aB hx;simpa using this
       have hjj:=aB hd;have hb:(i+1)*j.size≤m.toNat*j.size:=ol _ (by omega);rw[ov]at hb;rw[m2 _ (by omega),hzc,q6,show(i*j.size+jj) % j.size=jj by rw[qr,rj];exact rZ (by omega)]at hw;exact((hzr.cells hz1).2.1 jj d w hd hw).step hst
     ·refine .buf s.H.length 0 n.toNat n.toNat e j.size (oE n.toNat j.zero) false _ _ _ (by simp[St.push]) (by simp) (fun _=>?_);simp only[St.push,aR,pz];exact⟨fun _=>trivial,trivial,by omega,by omega⟩
    ·cases h
   ·cases h
  ·cases h
 ·cases h
theorem makeMap_sound(hg:Good s){t:TypeId}{kk:KK}{H':List B}{r:V}(h:some (V.map s.H.length,s.H++[B.map kk []])=some (r,H')):
  ∃u s',(Instr.makeMap t none).run P s.w = .ok u s'.w∧s'.H=H'∧Good s'∧Step s s'∧Rel s' r u:=by
 cases h;have ho:=alloc_old s.w (.map #[] 0);refine⟨.map (some s.w.heap.size),s.push (s.w.alloc (.map #[] 0)) s.w.heap.size 0 (.map kk []),by simp[Instr.makeMap,St.push],rfl,?_,cq hg rfl rfl rfl (by simp) ho (oJ _),?_⟩
 ·refine dQ hg rfl rfl rfl (by simp) ho (oJ _) (by simp) (fun hst=>?_);refine⟨by simp,#[],0,?_,rfl,fun i p m hp=>by simp at hp⟩;simp only[St.push,aR];exact alloc_new _ _
 ·have:=Rel.map (s:=s.push (s.w.alloc (.map #[] 0)) s.w.heap.size 0 (.map kk [])) s.H.length kk [] (by simp[St.push]);simpa only[St.push,aR] using this
end
end Go.AM
end
