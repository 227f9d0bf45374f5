/- JB1: texts AMa, joined and shortened by pack6.py. -/
import Derived.WalkKit
import Derived.Below
import Derived.Maps.AppendAt
import Derived.Deep.Draws
import Derived.Laws.Cells
import Derived.Laws.CopyRow
import Derived.Great.BuildSlice
import Derived.Laws.MakeOwn
set_option linter.all false
set_option maxRecDepth 100000
set_option maxHeartbeats 64000000
open Array renaming length_toList→vV
open List renaming replicate→tg,range→tr,length_cons→uX,all_cons→vE,getElem?_cons_zero→vI,foldl_cons→vy,all_nil→xd
open Nat renaming add_zero→vk
open Option renaming getD_some→wA
section
namespace Go.AM
open Go
def th:=@List.drop_eq_getElem_cons
def ti:=@List.getElem_mem
def tj:=@List.drop_of_length_le
def tm:=@List.getElem?_eq_getElem
def tn:=@List.mem_of_getElem?
def tq:=@List.not_mem_nil
def tt:=@Bool.and_eq_true
def tu:=@List.getElem?_append_left
def tw:=@List.mem_cons
def tz:=@List.take_succ_eq_append_getElem
def uA:=@Nat.le_refl
def uB:=@List.length_append
def uC:=@List.append_nil
def uD:=@List.getElem?_append_right
def uE:=@Bool.false_and
def uF:=@Bool.true_and
def uG:=@List.drop_zero
def uH:=@List.getElem?_set_ne
def uI:=@Nat.mul_le_mul_right
def uJ:=@List.getElem?_set_self
def uK:=@List.getElem?_map
def uM:=@Bool.false_eq_true
def uN:=@List.mem_cons_self
def uO:=@List.mem_cons_of_mem
def uP:=@Nat.lt_or_ge
def uQ:=@List.mem_singleton
def uR:=@Nat.add_mul
def uT:=@Nat.lt_of_lt_of_le
def uU:=@List.length_filter_le
def uV:=@List.take_length
def uW:=@List.append_assoc
def uY:=@List.take_of_length_le
def uZ:=@List.all_eq_true
def ud:=@List.length_map
def ue:=@List.range_succ
def ug:=@Nat.le_trans
def uh:=@List.mem_of_mem_take
def uj:=@Bool.not_eq_true'
def un:=@List.getElem?_eq_none
def uo:=@Nat.pow_le_pow_right
def uq:=@List.set_append_right
def uu:=@List.map_append
def uw:=@List.ext_getElem?
def uz:=@List.getElem?_take
def vA:=@Bool.or_eq_true
def vD:=@Nat.zero_add
def vF:=@List.mem_of_mem_drop
def vG:=@List.mem_append
def vH:=@Bool.eq_iff_iff
def vJ:=@Array.getElem?_toList
def vK:=@List.filter_append
def vL:=@List.eq_nil_of_length_eq_zero
def vM:=@Int.eq_ofNat_of_zero_le
def vN:=@List.getElem?_drop
def vO:=@Nat.lt_of_le_of_lt
def vP:=@Bool.false_or
def vQ:=@List.length_take
def vR:=@List.mem_filter
def vS:=@List.mem_range
def vT:=@List.take_append_drop
def vU:=@Nat.add_assoc
def vW:=@List.map_cons
def vX:=@List.getElem?_range
def vY:=@List.map_congr_left
def vZ:=@Array.getElem?_eq_getElem
def vb:=@List.length_set
def vd:=@Option.map_eq_some_iff
def ve:=@Nat.lt_trichotomy
def vf:=@Nat.testBit_lt_two_pow
def vg:=@Array.getD_eq_getD_getElem?
def vh:=@List.filter_cons
def vj:=@List.mem_or_eq_of_mem_set
def vn:=@List.eq_of_mem_replicate
def vo:=@Array.getElem?_append
def vp:=@Nat.zero_mul
def vq:=@List.set_set
def vr:=@List.filter_cons_of_pos
def vu:=@List.filter_cons_of_neg
def vv:=@Bool.and_false
def vw:=@List.pairwise_append
def vz:=@Nat.sub_self
def wB:=@Array.eq_empty_of_size_eq_zero
def wC:=@Bool.not_eq_true
def wD:=@List.pairwise_map
def wE:=@List.contains_iff_mem
def wF:=@List.mem_append_right
def wG:=@Nat.mul_comm
def wH:=@Nat.add_sub_cancel
def wJ:=@List.getElem?_of_mem
def wK:=@Nat.lt_succ_self
def wL:=@List.getElem?_replicate
def wM:=@List.map_take
def wN:=@List.flatMap_cons
def wO:=@Int.fdiv_eq_ediv_of_nonneg
def wP:=@List.map_nil
def wQ:=@List.length_eraseIdx_of_lt
def wR:=@Array.getElem_map
def wS:=@Nat.mul_le_mul
def wV:=@Nat.zero_le
def wW:=@Array.getElem?_setIfInBounds_ne
def wY:=@List.any_eq_true
def wc:=@List.mem_map
def wd:=@Nat.pow_lt_pow_right
def we:=@List.reverse_reverse
def wg:=@Array.size_append
def wh:=@Nat.or_lt_two_pow
def wo:=@Int.toNat_of_nonneg
def ww:=@Array.getElem?_eq_none
def wy:=@List.pairwise_cons
def wz:=@Nat.eq_zero_or_pos
def xB:=@List.length_replicate
def xC:=@Array.getElem?_modify
def xD:=@Nat.eq_of_beq_eq_true
def xE:=@List.set_getElem_self
def xF:=@List.pairwise_iff_getElem
def xH:=@List.map_map
def xI:=@List.getElem?_set
def xJ:=@List.map_set
def xK:=@List.mem_append_left
def xL:=@Array.getElem?_push_size
def xM:=@Nat.add_sub_cancel'
def xN:=@Nat.mod_eq_of_lt
def xP:=@List.length_drop
def xQ:=@List.pairwise_mergeSort
def xR:=@Nat.le_add_right
def xS:=@Array.toList_map
def xT:=@Bool.not_false
def xU:=@Nat.mod_lt
def xY:=@Array.getElem?_mapIdx
def xZ:=@Nat.div_lt_iff_lt_mul
def xb:=@List.length_range
def xc:=@List.set_append_left
def xg:=@List.flatMap_nil
def xh:=@List.ext_getElem
def xj:=@Nat.testBit_two_pow
def xm:=@List.mergeSort_perm
def xn:=@List.flatten_append
def xo:=@Nat.mul_add_mod
def xp:=@Nat.min_eq_left
def xq:=@Nat.and_le_left
def xr:=@Nat.testBit_and
def xt:=@List.take_left'
def xu:=@Array.getElem?_map
def xv:=@Array.all_eq_true'
def xw:=@Array.getElem_ofFn
def xy:=@Bool.eq_false_iff
def xz:=@Bool.true_or
def yA:=@List.filter_congr
def yB:=@Nat.div_eq_of_lt
def yC:=@List.mem_flatMap
def yD:=@List.nodup_range
def yE:=@Nat.mul_one
def yF:=@Nat.div_add_mod
def yG:=@Nat.add_comm
def yH:=@Int.pow_succ
def yI:=@Nat.one_mul
def yJ:=@Bool.not_true
def yK:=@Nat.succ_mul
def ζ{p:Prop}(h:p:=by simp):p:=h
def ω{p:Prop}(h:p:=by omega):p:=h
def θ{p:Prop}(h:p:=by simp only;omega):p:=h
def υ{p:Prop}(h:p:=by kernel_rfl):p:=h
def ξ{c:Sort _}(a:c):∃b,b=a:=⟨a,rfl⟩
def χ{p:Prop}(h:p:=by simp;omega):p:=h
inductive V where
 | undef
 | bool (b:Bool)
 | int (k:IntKind) (n:Int)
 | str (s:ByteArray)
 | nilS
 | lst (z:Nat) (full:Bool) (xs:List V)
 | buf (k off len tot:Nat)
 | nilP
 | ptr (k off:Nat)
 | pin (cs:List V) (off:Nat)
 | pbuf (k i off tot:Nat)
 | sarr (k n:Nat)
 | nilM
 | map (k:Nat)
 | fn (f:FuncId) (caps:List V)
 | nilFn
 | nilI
 | ifc
 | agg (cs:List V)
 | tup (vs:List V)
 deriving Inhabited
def V.cells:V->List V
 | .agg cs=>cs
 | v=>[v]
def V.one:V->Bool
 | .undef | .agg _ | .tup _=>false
 | _=>true
inductive KK where
 | int (k:IntKind)
 | str
 | bool
 | arr (n:Nat)
 deriving DecidableEq
def jk:V->Bool
 | .int .i64 _=>true
 | _=>false
def aq:V->Option KK
 | .int k _=>some (.int k)
 | .str _=>some .str
 | .bool _=>some .bool
 | .agg cs=>if cs.all jk then some (.arr cs.length) else none
 | _=>none
inductive B where
 | cells (cs:List V)
 | map (kk:KK) (es:List (V×V))
 | buf (e z:Nat) (xs:List V) (fz:Bool)
structure St where
 F:Nat->Prop
 w:World
 φ:Nat->Nat
 κ:Nat->Nat
 H:List B
def Lv(s:St)(k:Nat):Prop:=k<s.H.length/\∀e z xs fz,s.H[k]?=some (.buf e z xs fz)->s.κ k≠0
def lvC{s:St}{k:Nat}{cs:List V}(h:s.H[k]?=some (.cells cs)):Lv s k:=⟨(List.getElem?_eq_some_iff.1 h).1,fun e z xs fz a=>by rw[h]at a;cases a⟩
def lvM{s:St}{k:Nat}{kk:KK}{es:List (V×V)}(h:s.H[k]?=some (.map kk es)):Lv s k:=⟨(List.getElem?_eq_some_iff.1 h).1,fun e z xs fz a=>by rw[h]at a;cases a⟩
def lvB{s:St}{k e z:Nat}{xs:List V}{fz:Bool}(h:s.H[k]?=some (.buf e z xs fz))(hk:s.κ k≠0):Lv s k:=⟨(List.getElem?_eq_some_iff.1 h).1,fun _ _ _ _ _=>hk⟩
def St.Prot(s:St)(b:Nat):Prop:=b<s.w.heap.size/\¬s.F b/\∀k,Lv s k->s.φ k=b->∃e z xs,s.H[k]?=some (.buf e z xs true)
inductive Rel (s:St):V->Value->Prop
 | undef (u:Value):Rel s .undef u
 | bool (b:Bool):Rel s (.bool b) (.bool b)
 | int (k:IntKind) (n:Int):Rel s (.int k n) (.int k n)
 | str (x:ByteArray):Rel s (.str x) (.string x)
 | nilS:Rel s .nilS (.slice none 0 0)
 | lst (z:Nat) (full:Bool) (xs:List V) (A:Option Addr) (cap b off:Nat) (u:Nat->Nat->Value)
   (hcap:xs.length<=cap) (hfull:full=true->cap=xs.length) (hA:0<xs.length->A=some ⟨b,off,none⟩/\s.Prot b)
   (hz:∀x∈xs,x.cells.length=z/\∀c∈x.cells,c.one=true)
   (hcell:∀i x j c,xs[i]?=some x->x.cells[j]?=some c->s.w.cell? ⟨b,off+i*z+j,none⟩=some (u i j))
   (hrel:∀i x j c,xs[i]?=some x->x.cells[j]?=some c->Rel s c (u i j)):Rel s (.lst z full xs) (.slice A xs.length cap)
 | buf (k off len tot:Nat) (e z:Nat) (xs:List V) (fz:Bool) (A:Option Addr) (l c:Nat) (hk:s.H[k]?=some (.buf e z xs fz)) (ht:tot<=xs.length)
   (h:tot=xs.length->(s.κ k≠0->A=some ⟨s.φ k,off*z,none⟩)/\l=len/\off+c=s.κ k/\off+len<=tot):Rel s (.buf k off len tot) (.slice A l c)
 | nilP:Rel s .nilP (.pointer none)
 | ptr (k off:Nat) (cs:List V) (hk:s.H[k]?=some (.cells cs)):Rel s (.ptr k off) (.pointer (some ⟨s.φ k,off,none⟩))
 | pin (cs:List V) (off b o:Nat) (u:Nat->Value) (hp:s.Prot b) (h1:∀c∈cs,c.one=true)
   (hcell:∀j c,cs[off+j]?=some c->s.w.cell? ⟨b,o+j,none⟩=some (u j))
   (hrel:∀j c,cs[off+j]?=some c->Rel s c (u j)):Rel s (.pin cs off) (.pointer (some ⟨b,o,none⟩))
 | pbuf (k i off tot:Nat) (e z:Nat) (xs:List V) (fz:Bool) (p:Addr) (hk:s.H[k]?=some (.buf e z xs fz)) (ht:tot<=xs.length)
   (h:tot=xs.length->p=⟨s.φ k,i*z+off,none⟩):Rel s (.pbuf k i off tot) (.pointer (some p))
 | sarr (k n:Nat) (cs:List V) (hk:s.H[k]?=some (.cells cs)):Rel s (.sarr k n) (.slice (some ⟨s.φ k,0,none⟩) n n)
 | nilM:Rel s .nilM (.map none)
 | map (k:Nat) (kk:KK) (es:List (V×V)) (hk:s.H[k]?=some (.map kk es)):Rel s (.map k) (.map (some (s.φ k)))
 | fn (f:FuncId) (caps:List V) (us:Array Value) (hl:us.size=caps.length) (h:∀(i:Nat) c u,caps[i]?=some c->us[i]?=some u->Rel s c u):Rel s (.fn f caps) (.func (.func f) #[] us)
 | nilFn:Rel s .nilFn .nilFunc
 | nilI:Rel s .nilI .nilIface
 | ifc (t:TypeId) (x:Value):Rel s .ifc (.iface t x)
 | agg (cs:List V) (us:Array Value) (hl:us.size=cs.length) (h1:∀c∈cs,c.one=true) (h:∀(i:Nat) c u,cs[i]?=some c->us[i]?=some u->Rel s c u):Rel s (.agg cs) (.agg us)
 | tup (vs:List V) (us:Array Value) (hl:us.size=vs.length) (h:∀(i:Nat) c u,vs[i]?=some c->us[i]?=some u->Rel s c u):Rel s (.tup vs) (.tuple us)
def BRel(s:St)(k:Nat):B->Prop
 | .cells cs=>(∀c∈cs,c.one=true)/\∃(vs:Array Value) (t:TypeId),s.w.heap[s.φ k]?=some (.cells vs t (0,0))/\vs.size=cs.length/\∀(i:Nat) c u,cs[i]?=some c->vs[i]?=some u->Rel s c u
 | .map kk es=>(∀p∈es,aq p.1=some kk)/\∃(ms:Array MapEntry) (a:Nat),s.w.heap[s.φ k]?=some (.map ms a)/\ms.size=es.length/\∀(i:Nat) p m,es[i]?=some p->ms[i]?=some m->Rel s p.1 m.key/\Rel s p.2 m.val
 | .buf e z xs _=>∃(vs:Array Value),(s.κ k≠0->s.w.heap[s.φ k]?=some (.cells vs e (0,0)))/\vs.size=s.κ k*z/\xs.length<=s.κ k/\s.κ k<=maxLen/\(∀x∈xs,x.cells.length=z/\∀c∈x.cells,c.one=true)/\
   ∀(i:Nat) x (j:Nat) c u,xs[i]?=some x->x.cells[j]?=some c->vs[i*z+j]?=some u->Rel s c u
structure Good (s:St):Prop where
 fl:∀b,s.F b->b<s.w.heap.size
 lt:∀k,Lv s k->s.φ k<s.w.heap.size/\¬s.F (s.φ k)
 inj:∀j k,Lv s j->Lv s k->s.φ j=s.φ k->j=k
 blk:∀k bl,s.H[k]?=some bl->BRel s k bl
def BStep(s s':St)(k:Nat):B->Prop
 | .cells _=>s'.φ k=s.φ k/\∃cs,s'.H[k]?=some (.cells cs)
 | .map kk _=>s'.φ k=s.φ k/\∃es,s'.H[k]?=some (.map kk es)
 | .buf e z xs fz=>∃a b,s'.H[k]?=some (.buf e z a b)/\xs.length<=a.length/\(xs.length=a.length->s'.φ k=s.φ k/\s'.κ k=s.κ k)/\
   (fz=true->b=true/\a=xs/\(s.κ k≠0->s'.w.heap[s.φ k]?=s.w.heap[s.φ k]?))/\(s'.φ k=s.φ k\/s.w.heap.size<=s'.φ k)/\(s.κ k=0->s'.κ k=0\/s.w.heap.size<=s'.φ k)
structure Step (s s':St):Prop where
 F:s'.F=s.F
 os:s'.w.os=s.w.os
 tape:s'.w.tape=s.w.tape
 output:s'.w.output=s.w.output
 size:s.w.heap.size<=s'.w.heap.size
 out:∀b,b<s.w.heap.size->(∀k,Lv s k->s.φ k≠b)->s'.w.heap[b]?=s.w.heap[b]?
 len:s.H.length<=s'.H.length
 new:∀k,s.H.length<=k->Lv s' k->s.w.heap.size<=s'.φ k
 keep:∀k bl,s.H[k]?=some bl->BStep s s' k bl
def Step.refl(s:St):Step s s where
 F:=rfl
 os:=rfl
 tape:=rfl
 output:=rfl
 size:=uA _
 out _ _ _:=rfl
 len:=uA _
 new k h1 h2:=absurd h1 (by have:=h2.1;omega)
 keep k bl h:=by
  cases bl with
  | cells cs=>exact⟨rfl,cs,h⟩
  | map kk es=>exact⟨rfl,es,h⟩
  | buf e z xs fz=>exact⟨xs,fz,h,uA _,fun _=>⟨rfl,rfl⟩,fun hf=>⟨hf,rfl,fun _=>rfl⟩,.inl rfl,.inl⟩
def aB{a:Type}{l:List a}{k:Nat}{x:a}(h:l[k]?=some x):k<l.length:=(List.getElem?_eq_some_iff.1 h).1
def Step.prot{s s':St}(h:Step s s'){b:Nat}(hp:s.Prot b):s'.Prot b/\s'.w.heap[b]?=s.w.heap[b]?:=by
 obtain⟨h1,h2,j⟩:=hp
 have d:s'.w.heap[b]?=s.w.heap[b]?:=by
  by_cases hk:∃k,Lv s k/\s.φ k=b
  .obtain⟨k,hk,rfl⟩:=hk;obtain⟨e,z,xs,hb⟩:=j k hk rfl;obtain⟨o,m,_,_,_,hf,_⟩:=h.keep k _ hb;exact(hf rfl).2.2 (hk.2 _ _ _ _ hb)
  .exact h.out b h1 (fun k n e=>hk ⟨k,n,e⟩)
 refine⟨⟨uT h1 h.size,by rw[h.F];exact h2,fun k hk e=>?_⟩,d⟩;by_cases l:k<s.H.length
 .have a:s.H[k]?=some s.H[k]:=tm l;generalize s.H[k]=bl at a;have g:=h.keep k bl a
  cases bl with
  | cells cs =>
   obtain⟨p,q,_⟩:=g;obtain⟨_,_,_,hb⟩:=j k (lvC a) (p.symm.trans e);rw[a]at hb;cases hb
  | map kk es =>
   obtain⟨p,r,_⟩:=g;obtain⟨_,_,_,hb⟩:=j k (lvM a) (p.symm.trans e);rw[a]at hb;cases hb
  | buf e0 z xs fz =>
   obtain⟨o,m,i,_,_,hf,c,f⟩:=g
   rcases c with c | c
   .by_cases hz:s.κ k=0
    .rcases f hz with h0 | h0
     .exact absurd h0 (hk.2 _ _ _ _ i)
     .omega
    .obtain⟨_,_,_,hb⟩:=j k (lvB a hz) (c.symm.trans e);rw[a]at hb;cases hb;obtain⟨rfl,_,_⟩:=hf rfl;exact⟨_,_,_,i⟩
   .omega
 .have:=h.new k ω hk;omega
def Rel.step{s s':St}(h:Step s s'){v:V}{u:Value}(hr:Rel s v u):Rel s' v u:=by
 induction hr with
 | undef u=>exact .undef u
 | bool b=>exact .bool b
 | int k n=>exact .int k n
 | str x=>exact .str x
 | nilS=>exact .nilS
 | lst z full xs A cap b off u hcap hfull hA hz hcell hrel d =>
  refine .lst z full xs A cap b off u hcap hfull (fun h0=>⟨(hA h0).1,(h.prot (hA h0).2).1⟩) hz (fun i x j c hi C=>?_) d
  have h0:0<xs.length:=by have:=aB hi;omega
  rw[World.cell?_of_block (h.prot (hA h0).2).2];exact hcell i x j c hi C
 | buf k off len tot e z xs fz A l c hk ht D =>
  obtain⟨B,r,w,m,y,_,_⟩:=h.keep k _ hk;refine .buf k off len tot e z B r A l c w (ug ht m) (fun he=>?_)
  have:tot=xs.length:=by omega
  obtain⟨g,F⟩:=y ω;rw[g,F];exact D this
 | nilP=>exact .nilP
 | ptr k off cs hk =>
  obtain⟨g,q,a⟩:=h.keep k _ hk;rw[<-g];exact .ptr k off q a
 | pin cs off b o u hp h1 hcell hrel d =>
  refine .pin cs off b o u (h.prot hp).1 h1 (fun j c C=>?_) d;rw[World.cell?_of_block (h.prot hp).2];exact hcell j c C
 | pbuf k i off tot e z xs fz p hk ht D =>
  obtain⟨B,r,w,m,y,_,_⟩:=h.keep k _ hk;refine .pbuf k i off tot e z B r p w (ug ht m) (fun he=>?_)
  have:tot=xs.length:=by omega
  obtain⟨g,F⟩:=y ω;rw[g];exact D this
 | sarr k n cs hk =>
  obtain⟨g,q,a⟩:=h.keep k _ hk;rw[<-g];exact .sarr k n q a
 | nilM=>exact .nilM
 | map k kk es hk =>
  obtain⟨g,E,a⟩:=h.keep k _ hk;rw[<-g];exact .map k kk E a
 | fn f caps us hl _ d=>exact .fn f caps us hl d
 | nilFn=>exact .nilFn
 | nilI=>exact .nilI
 | ifc t x=>exact .ifc t x
 | agg cs us hl h1 _ d=>exact .agg cs us hl h1 d
 | tup vs us hl _ d=>exact .tup vs us hl d
theorem Step.trans{a b c:St}(h:Step a b)(g:Step b c):Step a c where
 F:=g.F.trans h.F
 os:=g.os.trans h.os
 tape:=g.tape.trans h.tape
 output:=g.output.trans h.output
 size:=ug h.size g.size
 out x hx hk:=by
  rw[g.out x (uT hx h.size) (fun k m e=>?_),h.out x hx hk];by_cases v:k<a.H.length
  .have d:a.H[k]?=some a.H[k]:=tm v;generalize a.H[k]=bl at d;have i:=h.keep k bl d
   cases bl with
   | cells cs=>exact hk k (lvC d) (i.1.symm.trans e)
   | map kk es=>exact hk k (lvM d) (i.1.symm.trans e)
   | buf e0 z xs fz =>
    obtain⟨_,_,l,_,_,_,hp,f⟩:=i
    rcases hp with hp | hp
    .by_cases hz:a.κ k=0
     .rcases f hz with h0 | h0
      .exact absurd h0 (m.2 _ _ _ _ l)
      .omega
     .exact hk k (lvB d hz) (hp.symm.trans e)
    .omega
  .have:=h.new k ω m;omega
 len:=ug h.len g.len
 new k h1 h2:=by
  by_cases hb:k<b.H.length
  .have d:b.H[k]?=some b.H[k]:=tm hb;generalize b.H[k]=bl at d;have i:=g.keep k bl d;have D:=h.size
   cases bl with
   | cells cs=>rw[i.1];exact h.new k h1 (lvC d)
   | map kk es=>rw[i.1];exact h.new k h1 (lvM d)
   | buf e0 z xs fz =>
    obtain⟨_,_,l,_,_,_,hp,f⟩:=i
    rcases hp with hp | hp
    .by_cases hz:b.κ k=0
     .rcases f hz with h0 | h0
      .exact absurd h0 (h2.2 _ _ _ _ l)
      .omega
     .rw[hp];exact h.new k h1 (lvB d hz)
    .omega
  .have:=g.new k ω h2;have:=h.size;omega
 keep k bl hk:=by
  have h1:=h.keep k bl hk
  cases bl with
  | cells cs =>
   obtain⟨n,u,o⟩:=h1;obtain⟨p,r⟩:=g.keep k _ o;exact⟨p.trans n,r⟩
  | map kk es =>
   obtain⟨n,u,o⟩:=h1;obtain⟨p,r⟩:=g.keep k _ o;exact⟨p.trans n,r⟩
  | buf e z xs fz =>
   obtain⟨G,J,o,C,q1,f1,p1,d1⟩:=h1;obtain⟨s,y,I,E,B,f2,j,d2⟩:=g.keep k _ o;refine⟨s,y,I,ug C E,fun he=>?_,fun hf=>?_,?_,fun hz=>?_⟩
   .obtain⟨a1,q⟩:=q1 ω;obtain⟨t,w⟩:=B ω;exact⟨t.trans a1,w.trans q⟩
   .obtain⟨a1,q,a3⟩:=f1 hf;obtain⟨t,w,A⟩:=f2 a1;obtain⟨n,p⟩:=q1 (by rw[q]);rw[n,p]at A;exact⟨t,w.trans q,fun hz=>(A hz).trans (a3 hz)⟩
   .have:=h.size
    rcases j with j | j
    .rcases p1 with p1 | p1
     .exact .inl (j.trans p1)
     .exact .inr ω
    .exact .inr ω
   .have:=h.size
    rcases d1 hz with h0 | h0
    .rcases d2 h0 with h0 | h0
     .exact .inl h0
     .exact .inr ω
    .rcases j with j | j
     .exact .inr ω
     .exact .inr ω
theorem BRel.step{s s':St}(h:Step s s'){k:Nat}{bl:B}(hb:BRel s k bl)(hk:s.H[k]?=some bl)(b:s'.φ k=s.φ k)(a:s'.κ k=s.κ k)(l:Lv s k->s'.w.heap[s.φ k]?=s.w.heap[s.φ k]?):BRel s' k bl:=by
 cases bl with
 | cells cs =>
  obtain⟨h1,vs,t,h2,g,f⟩:=hb;exact⟨h1,vs,t,by rw[b,l (lvC hk)];exact h2,g,fun i c u d hu=>(f i c u d hu).step h⟩
 | map kk es =>
  obtain⟨h1,ms,cl,h2,g,f⟩:=hb;exact⟨h1,ms,cl,by rw[b,l (lvM hk)];exact h2,g,fun i p m d hu=>⟨(f i p m d hu).1.step h,(f i p m d hu).2.step h⟩⟩
 | buf e z xs fz =>
  obtain⟨vs,h2,g,f,o,q,n⟩:=hb;exact⟨vs,fun hz=>by rw[a]at hz;rw[b,l (lvB hk hz)];exact h2 hz,by rw[a];exact g,by rw[a];exact f,by rw[a];exact o,q,fun i x j c u hx d hu=>(n i x j c u hx d hu).step h⟩
def St.at(s:St)(w:World):St:={ s with w:=w }
def ig{s:St}(a:Good s){w:World}(i:w.os=s.w.os)(c:w.tape=s.w.tape)(f:w.output=s.w.output)(d:s.w.heap.size<=w.heap.size)
  (hb:∀b,b<s.w.heap.size->w.heap[b]?=s.w.heap[b]?):Good (s.at w)/\Step s (s.at w):=by
 have g:Step s (s.at w):=⟨rfl,i,c,f,d,fun b h _=>hb b h,uA _,fun k h1 h2=>absurd h1 (by have:k<s.H.length:=h2.1;omega),fun k bl hk=>by
  cases bl with
  | cells cs=>exact⟨rfl,cs,hk⟩
  | map kk es=>exact⟨rfl,es,hk⟩
  | buf e z xs fz=>exact⟨xs,fz,hk,uA _,fun _=>⟨rfl,rfl⟩,fun hf=>⟨hf,rfl,fun hz=>hb _ (a.lt k (lvB hk hz)).1⟩,.inl rfl,.inl⟩⟩
 refine⟨⟨fun b h=>uT (a.fl b h) d,fun k hk=>⟨uT (a.lt k hk).1 d,(a.lt k hk).2⟩,a.inj,fun k bl hk=>?_⟩,g⟩;exact(a.blk k bl hk).step g hk rfl rfl (fun hl=>hb _ (a.lt k hl).1)
def upd(f:Nat->Nat)(k v:Nat):Nat->Nat:=fun i=>if i=k then v else f i
def aR(f:Nat->Nat)(k v:Nat):upd f k v k=v:=by simp[upd]
def cM(f:Nat->Nat){k i:Nat}(v:Nat)(h:i≠k):upd f k v i=f i:=by simp[upd,h]
def St.push(s:St)(w:World)(g c:Nat)(bl:B):St:=⟨s.F,w,upd s.φ s.H.length g,upd s.κ s.H.length c,s.H++[bl]⟩
def ep{s:St}(o:Good s){w:World}{g c:Nat}{bl:B}(j:w.os=s.w.os)(a:w.tape=s.w.tape)(f:w.output=s.w.output)(m:s.w.heap.size<=w.heap.size)
  (hb:∀b,b<s.w.heap.size->w.heap[b]?=s.w.heap[b]?) (h1:s.w.heap.size<=g):Step s (s.push w g c bl) where
 F:=rfl
 os:=j
 tape:=a
 output:=f
 size:=m
 out b h _:=hb b h
 len:=by simp[St.push]
 new k h2 h3:=by
  have:k=s.H.length:=by have:=h3.1;simp[St.push]at this;omega
  subst this;simp only[St.push,aR];exact h1
 keep k b hk:=by
  have l:=aB hk
  have d:(s.push w g c bl).H[k]?=some b:=by simp only[St.push];rw[tu l];exact hk
  have i:(s.push w g c bl).φ k=s.φ k:=cM _ _ ω;have n:(s.push w g c bl).κ k=s.κ k:=cM _ _ ω
  cases b with
  | cells cs=>exact⟨i,cs,d⟩
  | map kk es=>exact⟨i,es,d⟩
  | buf e z xs fz=>exact⟨xs,fz,d,uA _,fun _=>⟨i,n⟩,fun hf=>⟨hf,rfl,fun hz=>hb _ (o.lt k (lvB hk hz)).1⟩,.inl i,fun hz=>.inl (by rw[n];exact hz)⟩
def gD{s:St}(i:Good s){w:World}{g c:Nat}{bl:B}(t:w.os=s.w.os)(m:w.tape=s.w.tape)(o:w.output=s.w.output)(n:s.w.heap.size<=w.heap.size)
  (hb:∀b,b<s.w.heap.size->w.heap[b]?=s.w.heap[b]?) (h1:s.w.heap.size<=g) (h2:g<w.heap.size)
  (u:Step s (s.push w g c bl)->BRel (s.push w g c bl) s.H.length bl):Good (s.push w g c bl):=by
 have p:=ep (bl:=bl) (c:=c) i t m o n hb h1
 have d:∀k,k<s.H.length->(s.push w g c bl).φ k=s.φ k:=fun k hk=>cM _ _ ω
 have y:(s.push w g c bl).H.length=s.H.length+1:=by simp[St.push]
 have f:∀k,k<s.H.length->Lv (s.push w g c bl) k->Lv s k:=fun k hk hl=>⟨hk,fun e z xs fz v=>by
  have:=hl.2 e z xs fz (by simp only[St.push];rw[tu hk];exact v)
  rwa [show(s.push w g c bl).κ k=s.κ k from cM _ _ ω]at this⟩
 refine⟨fun b h=>uT (i.fl b h) n,fun k hk=>?_,fun j k r hk e=>?_,fun k b hk=>?_⟩
 .by_cases a:k<s.H.length
  .rw[d k a];exact⟨uT (i.lt k (f k a hk)).1 n,(i.lt k (f k a hk)).2⟩
  .obtain rfl:k=s.H.length:=by have:=hk.1;omega
   simp only[St.push,aR];exact⟨h2,fun A=>by have:=i.fl g A;omega⟩
 .by_cases l:j<s.H.length<;>by_cases a:k<s.H.length
  .rw[d j l,d k a]at e;exact i.inj j k (f j l r) (f k a hk) e
  .obtain rfl:k=s.H.length:=by have:=hk.1;omega
   rw[d j l]at e;simp only[St.push,aR]at e;have:=(i.lt j (f j l r)).1;omega
  .obtain rfl:j=s.H.length:=by have:=r.1;omega
   rw[d k a]at e;simp only[St.push,aR]at e;have:=(i.lt k (f k a hk)).1;omega
  .have:=hk.1;have:=r.1;omega
 .by_cases a:k<s.H.length
  .have q:s.H[k]?=some b:=by simp only[St.push]at hk;rwa [tu a]at hk
   exact(i.blk k b q).step p q (d k a) (cM _ _ ω) (fun hl=>hb _ (i.lt k hl).1)
  .have x:=aB hk
   obtain rfl:k=s.H.length:=by omega
   simp only[St.push,uD (uA _),vz,vI,Option.some.injEq]at hk;subst hk;exact u p
def ii{s:St}{w:World}{g e z:Nat}{fz:Bool}{k:Nat}(h:Lv (s.push w g 0 (.buf e z [] fz)) k):Lv s k:=by
 by_cases hk:k<s.H.length
 .refine⟨hk,fun e' d a b c=>?_⟩;have:=h.2 e' d a b (by simp only[St.push];rw[tu hk];exact c)
  rwa [show(s.push w g 0 (.buf e z [] fz)).κ k=s.κ k from cM _ _ ω]at this
 .have:=h.1;simp[St.push]at this
  obtain rfl:k=s.H.length:=by omega
  exact absurd (aR _ _ _) (h.2 e z [] fz (by simp[St.push]))
def nQ{s:St}(d:Good s){w:World}(g e z:Nat)(fz:Bool)(v:w.os=s.w.os)(m:w.tape=s.w.tape)(p:w.output=s.w.output)(o:s.w.heap.size<=w.heap.size)
  (hb:∀b,b<s.w.heap.size->w.heap[b]?=s.w.heap[b]?):Good (s.push w g 0 (.buf e z [] fz))/\Step s (s.push w g 0 (.buf e z [] fz)):=by
 have f:∀k,Lv (s.push w g 0 (.buf e z [] fz)) k->(s.push w g 0 (.buf e z [] fz)).φ k=s.φ k:=fun k hk=>cM _ _ (by have:=(ii hk).1;omega)
 have r:Step s (s.push w g 0 (.buf e z [] fz)):=⟨rfl,v,m,p,o,fun b h _=>hb b h,by simp[St.push],fun k h2 A=>absurd h2 (by have:=(ii A).1;omega),fun k b hk=>by
  have n:=aB hk
  have a:(s.push w g 0 (.buf e z [] fz)).H[k]?=some b:=by simp only[St.push];rw[tu n];exact hk
  have t:(s.push w g 0 (.buf e z [] fz)).φ k=s.φ k:=cM _ _ ω;have l:(s.push w g 0 (.buf e z [] fz)).κ k=s.κ k:=cM _ _ ω
  cases b with
  | cells cs=>exact⟨t,cs,a⟩
  | map kk es=>exact⟨t,es,a⟩
  | buf e z xs fz=>exact⟨xs,fz,a,uA _,fun _=>⟨t,l⟩,fun hf=>⟨hf,rfl,fun hz=>hb _ (d.lt k (lvB hk hz)).1⟩,.inl t,fun hz=>.inl (by rw[l];exact hz)⟩⟩
 refine⟨⟨fun b h=>uT (d.fl b h) o,fun k hk=>?_,fun j k y hk e=>?_,fun k b hk=>?_⟩,r⟩
 .rw[f k hk];exact⟨uT (d.lt k (ii hk)).1 o,(d.lt k (ii hk)).2⟩
 .rw[f j y,f k hk]at e;exact d.inj j k (ii y) (ii hk) e
 .by_cases n:k<s.H.length
  .have a:s.H[k]?=some b:=by simp only[St.push]at hk;rwa [tu n]at hk
   exact(d.blk k b a).step r a (cM _ _ ω) (cM _ _ ω) (fun hl=>hb _ (d.lt k hl).1)
  .have q:=aB hk;simp[St.push]at q
   obtain rfl:k=s.H.length:=by omega
   simp only[St.push,uD (uA _),vz,vI,Option.some.injEq]at hk;subst hk;have l:(s.push w g 0 (.buf e z [] fz)).κ s.H.length=0:=aR _ _ _;exact⟨#[],fun h=>absurd l h,by rw[l];simp,by rw[l];simp,by rw[l];simp[maxLen],(fun x hx=>by cases hx),(fun i x j c u hx=>by simp at hx)⟩
def St.setB(s:St)(w:World)(k:Nat)(bl:B):St:=⟨s.F,w,s.φ,s.κ,s.H.set k bl⟩
def B.alike:B->B->Prop
 | .cells _,.cells _=>True
 | .map kk _,.map kk' _=>kk=kk'
 | .buf e z xs fz,.buf e' z' xs' fz'=>e=e'/\z=z'/\xs.length=xs'.length/\fz=false/\fz'=false
 | _,_=>False
def setB_lv{s:St}{w:World}{k:Nat}{bl bl':B}(hk:s.H[k]?=some bl)(ha:B.alike bl bl'){i:Nat}(h:Lv (s.setB w k bl') i):Lv s i:=by
 have b:i<s.H.length:=by have:=h.1;simpa[St.setB] using this
 refine⟨b,fun e z xs fz hb=>?_⟩;by_cases a:i=k
 .subst a;rw[hk]at hb;cases hb;cases bl'<;>simp only[B.alike]at ha;exact h.2 _ _ _ _ (by simp only[St.setB];rw[uJ b])
 .exact h.2 e z xs fz (by simp only[St.setB];rw[uH (Ne.symm a)];exact hb)
def bj{s:St}(n:Good s){w:World}{k:Nat}{bl bl':B}(hk:s.H[k]?=some bl)(g:Lv s k)(ha:B.alike bl bl')(j:w.os=s.w.os)(d:w.tape=s.w.tape)(f:w.output=s.w.output)(m:s.w.heap.size<=w.heap.size)
  (hb:∀b,b<s.w.heap.size->b≠s.φ k->w.heap[b]?=s.w.heap[b]?):Step s (s.setB w k bl') where
 F:=rfl
 os:=j
 tape:=d
 output:=f
 size:=m
 out b h hn:=hb b h (fun e=>hn k g e.symm)
 len:=by simp[St.setB]
 new i h2 h3:=absurd h2 (by have:=h3.1;simp[St.setB]at this;omega)
 keep i b hi:=by
  have l:=aB hi;by_cases c:i=k
  .subst c;rw[hk]at hi;cases hi
   have a:(s.setB w i bl').H[i]?=some bl':=by simp[St.setB,l]
   cases bl<;>cases bl'<;>simp only[B.alike]at ha
   .exact⟨rfl,_,a⟩
   .subst ha;exact⟨rfl,_,a⟩
   .obtain⟨rfl,rfl,hl,rfl,rfl⟩:=ha;exact⟨_,_,a,Nat.le_of_eq hl,fun _=>⟨rfl,rfl⟩,(fun h=>by cases h),.inl rfl,.inl⟩
  .have a:(s.setB w k bl').H[i]?=some b:=by simp only[St.setB];rw[uH (Ne.symm c)];exact hi
   cases b with
   | cells cs=>exact⟨rfl,cs,a⟩
   | map kk es=>exact⟨rfl,es,a⟩
   | buf e z xs fz=>exact⟨xs,fz,a,uA _,fun _=>⟨rfl,rfl⟩,fun hf=>⟨hf,rfl,fun hz=>hb _ (n.lt i (lvB hi hz)).1 (fun e=>c (n.inj i k (lvB hi hz) g e))⟩,.inl rfl,.inl⟩
def bw{s:St}(a:Good s){w:World}{k:Nat}{bl bl':B}(hk:s.H[k]?=some bl)(l:Lv s k)(ha:B.alike bl bl')(o:w.os=s.w.os)(d:w.tape=s.w.tape)(g:w.output=s.w.output)(f:s.w.heap.size<=w.heap.size)
  (hb:∀b,b<s.w.heap.size->b≠s.φ k->w.heap[b]?=s.w.heap[b]?) (p:Step s (s.setB w k bl')->BRel (s.setB w k bl') k bl'):Good (s.setB w k bl'):=by
 have m:=bj (bl':=bl') a hk l ha o d g f hb;refine⟨fun b h=>uT (a.fl b h) f,fun i hi=>?_,fun i j hi q e=>a.inj i j (setB_lv hk ha hi) (setB_lv hk ha q) e,fun i b hi=>?_⟩
 .have:=a.lt i (setB_lv hk ha hi);exact⟨uT this.1 f,this.2⟩
 .by_cases c:i=k
  .subst c
   have:(s.setB w i bl').H[i]?=some bl':=by simp[St.setB,aB hk]
   rw[this]at hi;cases hi;exact p m
  .have n:s.H[i]?=some b:=by simp only[St.setB]at hi;rwa [uH (Ne.symm c)]at hi
   exact(a.blk i b n).step m n rfl rfl (fun hl=>hb _ (a.lt i hl).1 (fun e=>c (a.inj i k hl l e)))
end Go.AM
namespace Go.AM
open Go
structure TI where
 desc:TypeDesc
 size:Nat
 bytes:Nat
 zero:V
 zval:Value
 kk:Option KK:=none
 eq:Bool:=false
 pa:Bool:=false
abbrev Ty:=Nat->Option TI
def ro:Value->Option V
 | .bool b=>some (.bool b)
 | .int k n=>some (.int k n)
 | .string s=>some (.str s)
 | .slice none 0 0=>some .nilS
 | .pointer none=>some .nilP
 | .map none=>some .nilM
 | .nilFunc=>some .nilFn
 | .nilIface=>some .nilI
 | _=>none
def kO:List Value->Option (List V)
 | []=>some []
 | v::r=>match ro v,kO r with
  | some x,some xs=>some (x::xs)
  | _,_=>none
def kP:Value->Option V
 | .agg cs=>(kO cs.toList).map .agg
 | v=>ro v
def fF:V->Value
 | .int k n=>.int k n
 | .str x=>.string x
 | .bool b=>.bool b
 | _=>.nilFunc
def dZ:V->Value
 | .agg cs=>.agg (cs.map fF).toArray
 | v=>fF v
def ke:List V->List V->Bool
 | [],[]=>true
 | .int _ a::r,.int _ b::q=>a == b&&ke r q
 | _,_=>false
def au:V->V->Bool
 | .int _ a,.int _ b=>a == b
 | .str a,.str b=>a == b
 | .bool a,.bool b=>a == b
 | .agg cs,.agg ds=>ke cs ds
 | _,_=>false
def cd(k:V):List (V×V)->Nat->Option (Nat×V)
 | [],_=>none
 | p::r,i=>if au k p.1 then some (i,p.2) else cd k r (i+1)
structure KLaw (P:Program) (t:TypeId) (kk:KK):Prop where
 check:∀(w:World) (em:Bool) (v:V),aq v=some kk->(Instr.checkKey em 10000 t (dZ v)).run P w = .ok () w
 find:∀(w:World) (v:V) (ks:List V) (es:List MapEntry),aq v=some kk->(∀k∈ks,aq k=some kk)->es.map (·.key)=ks.map dZ ->
  ∃r,(Instr.findKey t (dZ v) es).run P w = .ok r w/\((r=none/\∀k∈ks,au v k=false)\/
   ∃i k e,r=some (i,e.val)/\ks[i]?=some k/\es[i]?=some e/\au v k=true/\∀j k',j<i->ks[j]?=some k'->au v k'=false)
structure TOk (P:Program) (T:Ty):Prop where
 eq:∀t i,T t=some i->i.eq=true->P.stoodInHeld t=false/\P.eqGuardType P.depth t=false
 key:∀t i kk,T t=some i->i.kk=some kk->KLaw P t kk
 und:∀t i,T t=some i->P.underlying t=some i.desc
 info:∀t i,T t=some i->∃inf,P.info? t=some inf/\inf.size=i.size/\inf.bytes=i.bytes/\inf.zero=some i.zval/\kP i.zval=some i.zero/\i.zero.cells.length=i.size
def aO(fr:List V):Operand->V
 | .tmp t=>(fr[t]?).getD .undef
 | .const v=>(kP v).getD .undef
 | .func f=>.fn f []
 | .global _=>.undef
def cZ:TypeDesc->Bool
 | .struct _ | .array _ _=>true
 | _=>false
def jw(T:Ty)(t:TypeId)(cs:List V)(off:Nat):Option V :=
 match T t with
 | some i=>if cZ i.desc then(if off+i.size<=cs.length then some (.agg ((cs.drop off).take i.size)) else none) else cs[off]?
 | none=>none
def sA(T:Ty)(H:List B)(t:TypeId):V->Option V
 | .ptr k off=>match H[k]? with
  | some (.cells cs)=>jw T t cs off
  | _=>none
 | .pin cs off=>jw T t cs off
 | .pbuf k i off tot=>match H[k]? with
  | some (.buf _ _ xs _)=>if xs.length=tot then(match xs[i]? with
   | some x=>jw T t x.cells off
   | none=>none) else none
  | _=>none
 | _=>none
def bf(cs:List V)(off:Nat)(new:List V):List V:=cs.take off++new++cs.drop (off+new.length)
def lL(old:V)(cs:List V):V :=
 match old with
 | .agg _=>.agg cs
 | _=>cs.headD .undef
def storeA(T:Ty)(H:List B)(t:TypeId)(a v:V):Option (List B):=
 match T t with
 | none=>none
 | some i =>
  if v.cells.length=i.size/\v.cells.all V.one=true then
   match a with
   | .ptr k off=>match H[k]? with
    | some (.cells cs)=>if off+v.cells.length<=cs.length then some (H.set k (.cells (bf cs off v.cells))) else none
    | _=>none
   | .pbuf k i off tot=>match H[k]? with
    | some (.buf e z xs false)=>if xs.length=tot then(match xs[i]? with
     | some x=>if off+v.cells.length<=x.cells.length then some (H.set k (.buf e z (xs.set i (lL x (bf x.cells off v.cells))) false)) else none
     | none=>none) else none
    | _=>none
   | _=>none
  else none
def binA(op:BinOp):V->V->Option V
 | .int k a,.int k' b =>
  match op with
  | .shl=>if 0<=b then some (.int k (k.wrap (a*2^min b.toNat k.bits))) else none
  | .shr=>if 0<=b then some (.int k (a.fdiv (2^min b.toNat k.bits))) else none
  | _=>if k=k' then
   match op with
   | .add=>some (.int k (k.wrap (a+b)))
   | .sub=>some (.int k (k.wrap (a-b)))
   | .mul=>some (.int k (k.wrap (a*b)))
   | .quo=>if b=0 then none else some (.int k (k.wrap (a.tdiv b)))
   | .rem=>if b=0 then none else some (.int k (a.tmod b))
   | .and=>some (.int k (k.wrap (BitVec.ofInt k.bits a &&& BitVec.ofInt k.bits b).toNat))
   | .or=>some (.int k (k.wrap (BitVec.ofInt k.bits a ||| BitVec.ofInt k.bits b).toNat))
   | .xor=>some (.int k (k.wrap (BitVec.ofInt k.bits a ^^^ BitVec.ofInt k.bits b).toNat))
   | .andNot=>some (.int k (k.wrap (BitVec.ofInt k.bits a &&& ~~~ BitVec.ofInt k.bits b).toNat))
   | .eql=>some (.bool (a == b))
   | .neq=>some (.bool (a != b))
   | .lss=>some (.bool (decide (a<b)))
   | .leq=>some (.bool (decide (a<=b)))
   | .gtr=>some (.bool (decide (a > b)))
   | .geq=>some (.bool (decide (a>=b)))
   | _=>none
   else none
 | .str a,.str b =>
  match op with
  | .eql=>some (.bool (a.toList == b.toList))
  | .neq=>some (.bool (!(a.toList == b.toList)))
  | .lss=>some (.bool (Op.bytesLess a.toList b.toList))
  | .leq=>some (.bool (Op.bytesLess a.toList b.toList||a.toList == b.toList))
  | .gtr=>some (.bool (!(Op.bytesLess a.toList b.toList||a.toList == b.toList)))
  | .geq=>some (.bool (!(Op.bytesLess a.toList b.toList)))
  | .add=>if a.size+b.size<=9223372036854775807 then some (.str (a++b)) else none
  | _=>none
 | _,_=>none
def unA(op:UnOp):V->Option V
 | .int k n=>match op with
  | .neg=>some (.int k (k.wrap (0-n)))
  | .xor=>some (.int k (k.wrap (BitVec.ofInt k.bits (if k.signed then -1 else k.max) ^^^ BitVec.ofInt k.bits n).toNat))
  | _=>none
 | .bool b=>match op with
  | .not=>some (.bool !b)
  | _=>none
 | _=>none
def fieldA(T:Ty)(s f:Nat):Option Field :=
 match T s with
 | some i=>match i.desc with
  | .struct fields=>match fields[f]? with
   | some fd=>match T fd.type with
    | some j=>if j.size=0 then none else some fd
    | none=>none
   | none=>none
  | _=>none
 | none=>none
def jU(T:Ty)(s f:Nat)(x:V):Option V :=
 match fieldA T s f with
 | some fd=>match x with
  | .ptr k off=>some (.ptr k (off+fd.offset))
  | .pin cs off=>some (.pin cs (off+fd.offset))
  | .pbuf k i off tot=>some (.pbuf k i (off+fd.offset) tot)
  | _=>none
 | none=>none
def jS(T:Ty)(H:List B)(t:TypeId)(x a:V):Option V :=
 match T t,a with
 | some i,.int _ n =>
  if 0<=n then
   match i.desc with
   | .slice e=>match T e with
    | some j=>match x with
     | .lst z _ xs=>if z=j.size then(match xs[n.toNat]? with
      | some v=>some (.pin v.cells 0)
      | none=>none) else none
     | .buf k off len tot=>match H[k]? with
      | some (.buf _ z xs _)=>if xs.length=tot/\z=j.size/\n<len then some (.pbuf k (off+n.toNat) 0 tot) else none
      | _=>none
     | _=>none
    | none=>none
   | .array len e=>match T e with
    | some j=>match x with
     | .ptr k off=>if n<len then some (.ptr k (off+n.toNat*j.size)) else none
     | _=>none
    | none=>none
   | _=>none
  else none
 | _,_=>none
def indexA(T:Ty)(t:TypeId)(x a:V):Option V :=
 match T t,x,a with
 | some i,.str s,.int _ n=>match i.desc with
  | .string=>if 0<=n then(match s[n.toNat]? with
   | some b=>some (.int .u8 b.toNat)
   | none=>none) else none
  | _=>none
 | some i,.agg cs,.int _ n=>match i.desc with
  | .array len e=>match T e with
   | some j=>if 0<=n/\n<len then jw T e cs (n.toNat*j.size) else none
   | none=>none
  | _=>none
 | _,_,_=>none
def oA(T:Ty)(s f:Nat)(x:V):Option V :=
 match T s,x with
 | some i,.agg cs=>match i.desc with
  | .struct fields=>match fields[f]? with
   | some fd=>jw T fd.type cs fd.offset
   | none=>none
  | _=>none
 | _,_=>none
def lenA(T:Ty)(H:List B)(t:TypeId)(x:V):Option V :=
 match T t with
 | some i=>match i.desc,x with
  | .string,.str s=>some (.int .i64 s.size)
  | .slice _,.lst _ _ xs=>some (.int .i64 xs.length)
  | .slice _,.nilS=>some (.int .i64 0)
  | .slice _,.buf k _ len tot=>match H[k]? with
   | some (.buf _ _ xs _)=>if xs.length=tot then some (.int .i64 len) else none
   | _=>none
  | .map _ _,.nilM=>some (.int .i64 0)
  | .map _ _,.map k=>match H[k]? with
   | some (.map _ es)=>some (.int .i64 es.length)
   | _=>none
  | _,_=>none
 | none=>none
def max2A:V->V->Option V
 | .int k x,.int _ y=>some (.int k (if y > x then y else x))
 | _,_=>none
def min2A:V->V->Option V
 | .int k x,.int _ y=>some (.int k (if y<x then y else x))
 | _,_=>none
def foldA(f:V->V->Option V):V->List V->Option V
 | x,[]=>some x
 | x,y::r=>match f x y with
  | some z=>foldA f z r
  | none=>none
def kW(f:V->V->Option V):List V->Option V
 | []=>none
 | x::r=>foldA f x r
end Go.AM
namespace Go.AM
open Go
section
variable {P:Program} {T:Ty} {s:St}
def mS{v:Value}{x:V}(h:ro v=some x):Rel s x v/\x.one=true:=by
 unfold ro at h
 split at h<;>cases h<;>first
  | exact⟨.bool _,rfl⟩ | exact⟨.int _ _,rfl⟩ | exact⟨.str _,rfl⟩ | exact⟨.nilS,rfl⟩ | exact⟨.nilP,rfl⟩ | exact⟨.nilM,rfl⟩ | exact⟨.nilFn,rfl⟩ | exact⟨.nilI,rfl⟩
theorem mR:∀{vs:List Value} {xs:List V},kO vs=some xs->vs.length=xs.length/\(∀x∈xs,x.one=true)/\∀(i:Nat) x v,xs[i]?=some x->vs[i]?=some v->Rel s x v
 | [],xs,h=>by simp[kO]at h;subst h;simp
 | v::r,xs,h=>by
  simp only[kO]at h;split at h
  .rename_i x ys hx c;cases h;obtain⟨h1,h2,d⟩:=mR c;obtain⟨hr,ho⟩:=mS (s:=s) hx;refine⟨by simp[h1],by simp[ho];exact h2,fun i=>?_⟩
   cases i with
   | zero=>intro a b ha hb;simp at ha hb;subst ha;subst hb;exact hr
   | succ i=>intro a b ha hb;exact d i a b (by simpa using ha) (by simpa using hb)
  .cases h
def dp{v:Value}{x:V}(h:kP v=some x):Rel s x v:=by
 unfold kP at h;split at h
 .rename_i cs
  cases hv:kO cs.toList with
  | none=>rw[hv]at h;cases h
  | some xs =>
   rw[hv]at h;cases h;obtain⟨h1,h2,a⟩:=mR (s:=s) hv;exact .agg xs cs (by simpa using h1) h2 (fun i c u b hu=>a i c u b (by simpa using hu))
 .exact(mS h).1
def Rel.oneCell{c:V}{x:Value}(h:Rel s c x)(h1:c.one=true):x.oneCell'=true:=by
 cases h<;>simp_all [V.one,Value.oneCell']
theorem Rel.cells{v:V}{u:Value}(h:Rel s v u)(h1:v.cells.all V.one=true):u.cells.size=v.cells.length/\(∀(i:Nat) c x,v.cells[i]?=some c->u.cells[i]?=some x->Rel s c x)/\∀x∈u.cells.toList,x.oneCell'=true:=by
 have single:∀{v:V} {u:Value},v.cells=[v]->u.cells = #[u]->v.cells.all V.one=true->Rel s v u->u.cells.size=v.cells.length/\(∀(i:Nat) c x,v.cells[i]?=some c->u.cells[i]?=some x->Rel s c x)/\∀x∈u.cells.toList,x.oneCell'=true:=by
  intro v u m q ho hr;rw[m]at ho;simp only[vE,xd,Bool.and_true]at ho;rw[m,q];refine⟨rfl,fun i c x d hx=>?_,fun x hx=>?_⟩
  .cases i with
   | zero=>simp at d hx;subst d;subst hx;exact hr
   | succ i=>simp at d
  .simp at hx;subst hx;exact hr.oneCell ho
 cases h with
 | agg cs us hl ho j =>
  refine⟨hl,j,fun x hx=>?_⟩;obtain⟨i,hi⟩:=wJ hx
  have g:i<cs.length:=by have:=(List.getElem?_eq_some_iff.1 hi).1;simp[Value.cells]at this;omega
  have d:cs[i]?=some cs[i]:=tm g;exact(j i _ x d (by simpa[Value.cells] using hi)).oneCell (ho _ (ti g))
 | undef u=>simp[V.cells,V.one]at h1
 | tup vs us hl j=>simp[V.cells,V.one]at h1
 | bool b=>exact single rfl rfl h1 (.bool b)
 | int k n=>exact single rfl rfl h1 (.int k n)
 | str x=>exact single rfl rfl h1 (.str x)
 | nilS=>exact single rfl rfl h1 .nilS
 | lst z full xs A cap b off u a1 a a3 a4 a5 r=>exact single rfl rfl h1 (.lst z full xs A cap b off u a1 a a3 a4 a5 r)
 | buf k off len tot e z xs fz A l c a1 a a3=>exact single rfl rfl h1 (.buf k off len tot e z xs fz A l c a1 a a3)
 | nilP=>exact single rfl rfl h1 .nilP
 | ptr k off cs hk=>exact single rfl rfl h1 (.ptr k off cs hk)
 | pin cs off b o u a1 a a3 a4=>exact single rfl rfl h1 (.pin cs off b o u a1 a a3 a4)
 | pbuf k i off tot e z xs fz p a1 a a3=>exact single rfl rfl h1 (.pbuf k i off tot e z xs fz p a1 a a3)
 | sarr k n cs hk=>exact single rfl rfl h1 (.sarr k n cs hk)
 | nilM=>exact single rfl rfl h1 .nilM
 | map k kk es hk=>exact single rfl rfl h1 (.map k kk es hk)
 | fn f caps us hl j=>exact single rfl rfl h1 (.fn f caps us hl j)
 | nilFn=>exact single rfl rfl h1 .nilFn
 | nilI=>exact single rfl rfl h1 .nilI
 | ifc t x=>exact single rfl rfl h1 (.ifc t x)
def run_typeInfo{t:TypeId}{inf:TypeInfo}(h:P.info? t=some inf)(w:World):(typeInfo t).run P w = .ok inf w:=by simp[typeInfo,h]
def ar(a:TOk P T){t:TypeId}{i:TI}(h:T t=some i)(w:World):(sizeOf t).run P w = .ok i.size w:=by
 obtain⟨inf,h1,h2,_⟩:=a.info t i h;simp[sizeOf,typeInfo,h1,h2]
def lE(a:TOk P T){t:TypeId}{i:TI}(h:T t=some i)(w:World):(isAgg t).run P w = .ok (cZ i.desc) w:=by
 simp only[isAgg,Sem.run_bind,run_underlying (a.und t i h),Result.andThen_ok];cases i.desc<;>simp[cZ]
def iR(a:TOk P T){t:TypeId}{i:TI}(h:T t=some i)(w:World):(zeroValue t).run P w = .ok i.zval w:=by
 obtain⟨inf,h1,h2,c,b,_⟩:=a.info t i h;simp[zeroValue,typeInfo,h1,b]
def cq(b o j:Nat):(⟨b,o,none⟩:Addr).add j=⟨b,o+j,none⟩:=by unfold Addr.add;split<;>simp_all
def pT(k:TOk P T){t:TypeId}{cs:List V}{off b o:Nat}{v:V}(h1:∀c∈cs,c.one=true)
  (l:∀j c,cs[off+j]?=some c->∃x,s.w.cell? ⟨b,o+j,none⟩=some x/\Rel s c x) (h:jw T t cs off=some v):
  ∃u,(loadVar t ⟨b,o,none⟩).run P s.w = .ok u s.w/\Rel s v u:=by
 unfold jw at h;split at h
 .rename_i i hi;split at h
  .rename_i ha;split at h
   .rename_i m;cases h
    have g:∀j,∃x,j<i.size->s.w.cell? ⟨b,o+j,none⟩=some x/\∀c,cs[off+j]?=some c->Rel s c x:=fun j=>by
     by_cases d:j<i.size
     .have e:cs[off+j]?=some (cs[off+j]'ω):=tm ω;obtain⟨x,hx,hr⟩:=l j _ e;exact⟨x,fun _=>⟨hx,fun c a=>by rw[e]at a;cases a;exact hr⟩⟩
     .exact⟨.nilFunc,fun h=>absurd h d⟩
    obtain⟨f,hf⟩:=Classical.axiomOfChoice g;refine⟨.agg ((tr i.size).map f).toArray,?_,?_⟩
    .have hl:=run_loadCells (P:=P) s.w ⟨b,o,none⟩ i.size f (fun j d=>by rw[cq];exact(hf j d).1);simp[loadVar,lE k hi,ha,ar k hi,hl]
    .refine .agg _ _ χ (fun c a=>h1 c (vF (uh a))) (fun j c u a hu=>?_)
     have d:j<i.size:=by have:=(List.getElem?_eq_some_iff.1 a).1;simp at this;omega
     rw[uz,if_pos d,vN]at a
     have:u=f j:=by simp[d]at hu;exact hu.symm
     subst this;exact(hf j d).2 c a
   .cases h
  .rename_i ha;obtain⟨x,hx,hr⟩:=l 0 v (by simpa using h);refine⟨x,?_,hr⟩;simp only[vk]at hx;simp[loadVar,lE k hi,ha,hx]
 .cases h
def blk_cells(d:Good s){k:Nat}{cs:List V}(hk:s.H[k]?=some (.cells cs)):(∀c∈cs,c.one=true)/\∀j c,cs[j]?=some c->∃x,s.w.cell? ⟨s.φ k,j,none⟩=some x/\Rel s c x:=by
 obtain⟨h1,vs,t,h2,g,f⟩:=d.blk k _ hk;refine⟨h1,fun j c a=>?_⟩
 have b:j<vs.size:=by have:=aB a;omega
 have e:vs[j]?=some vs[j]:=by simp[b]
 refine⟨vs[j],?_,f j c _ a e⟩;simp[World.cell?,h2,b]
def je(h:Good s){k e z:Nat}{xs:List V}{fz:Bool}(hk:s.H[k]?=some (.buf e z xs fz)){i:Nat}{x:V}(hx:xs[i]?=some x):
  (∀c∈x.cells,c.one=true)/\x.cells.length=z/\∀j c,x.cells[j]?=some c->∃u,s.w.cell? ⟨s.φ k,i*z+j,none⟩=some u/\Rel s c u:=by
 obtain⟨vs,h2,f,n,l,b,g⟩:=h.blk k _ hk;have hm:=tn hx;refine⟨(b x hm).2,(b x hm).1,fun j c d=>?_⟩;have m:=aB d;have hi:=aB hx
 have a:i*z+j<vs.size:=by
  rw[f];have:(i+1)*z<=s.κ k*z:=uI _ ω;rw[uR]at this;have:=(b x hm).1;omega
 have e:vs[i*z+j]?=some vs[i*z+j]:=by simp[a]
 refine⟨vs[i*z+j],?_,g i x j c _ hx d e⟩;simp[World.cell?,h2 ω,a]
def rz(f:TOk P T)(g:Good s){t:TypeId}{a v:V}{l:Value}(ha:Rel s a l)(h:sA T s.H t a=some v):
  ∃u,(Instr.loadAt t l).run P s.w = .ok u s.w/\Rel s v u:=by
 cases ha<;>simp only[sA]at h<;>try (cases h;done)
 case ptr k off cs hk =>
  rw[hk]at h;simp only at h;obtain⟨h1,h2⟩:=blk_cells g hk;obtain⟨u,hu,hr⟩:=pT f (b:=s.φ k) (o:=off) h1 (fun j c d=>h2 _ c d) h;exact⟨u,by simp[Instr.loadAt,Instr.sureAddr,hu],hr⟩
 case pin cs off b o u hp h1 hcell hrel =>
  obtain⟨u,hu,hr⟩:=pT f (b:=b) (o:=o) h1 (fun j c d=>⟨_,hcell j c d,hrel j c d⟩) h;exact⟨u,by simp[Instr.loadAt,Instr.sureAddr,hu],hr⟩
 case pbuf k i off tot e z xs fz p hk ht hh =>
  rw[hk]at h;simp only at h;split at h
  .rename_i hl;split at h
   .rename_i x hx;obtain⟨h1,h2,m⟩:=je g hk hx;have hp:=hh hl.symm;subst hp;obtain⟨u,hu,hr⟩:=pT f (b:=s.φ k) (o:=i*z+off) h1 (fun j c d=>by have:=m _ c d;rwa [<-vU]at this) h;exact⟨u,by simp[Instr.loadAt,Instr.sureAddr,hu],hr⟩
   .cases h
  .cases h
def cD{a:Type}(cs:List a)(off:Nat)(new:List a)(h:off+new.length<=cs.length)(j:Nat):
  (cs.take off++new++cs.drop (off+new.length))[j]?=if off<=j/\j<off+new.length then new[j-off]? else cs[j]?:=by
 have hl:(cs.take off).length=off:=by simp;omega
 by_cases h1:j<off
 .rw[if_neg ω,uW,tu ω,uz,if_pos h1]
 .by_cases h2:j<off+new.length
  .rw[if_pos ω,uW,uD ω,hl,tu ω]
  .rw[if_neg ω,uD χ,vN];congr 1;simp;omega
def eH(cs:List V)(off:Nat)(new:List V)(h:off+new.length<=cs.length):(bf cs off new).length=cs.length:=by simp[bf];omega
def gQ{cs:List V}{off:Nat}{new:List V}{c:V}(a:c∈bf cs off new):c∈cs\/c∈new:=by
 simp only[bf,vG]at a
 rcases a with(h | h) | h
 .exact .inl (uh h)
 .exact .inr h
 .exact .inl (vF h)
def ofCells_cells{x:V}{cs:List V}(hx:∀c∈x.cells,c.one=true)(hl:cs.length=x.cells.length)(h1:∀c∈cs,c.one=true):(lL x cs).cells=cs:=by
 have single:x.cells=[x]->(∀xs,x≠.agg xs)->(lL x cs).cells=cs:=fun e a=>by
  rw[e]at hl
  match cs,hl with
  | [c],_ =>
   have b:=h1 c ζ
   have:lL x [c]=c:=by cases x<;>first | rfl | exact absurd rfl (a _)
   rw[this];cases c<;>simp_all [V.one,V.cells]
 cases x with
 | agg xs=>rfl
 | _=>exact single rfl (by intro _ h;cases h)
def store_sound(hT:TOk P T)(G:Good s){t:TypeId}{a v:V}{ua q:Value}{H':List B}(ha:Rel s a ua)(hv:Rel s v q)(h:storeA T s.H t a v=some H'):
  ∃s',(Instr.storeAt t ua q).run P s.w = .ok () s'.w/\s'.H=H'/\Good s'/\Step s s':=by
 unfold storeA at h;split at h
 .cases h
 .rename_i i hi;split at h
  .rename_i F;obtain⟨F,E⟩:=F;obtain⟨Q,X,c3⟩:=hv.cells E
   have A:∀c∈v.cells,c.one=true:=by simpa using E
   have D:∀(b o:Nat) (vs:Array Value) (e:TypeId),s.w.heap[b]?=some (.cells vs e (0,0))->o+v.cells.length<=vs.size ->
     (Instr.storeAt t (.pointer (some ⟨b,o,none⟩)) q).run P s.w = .ok () (s.w.setRow b (vs.toList.take o++q.cells.toList++vs.toList.drop (o+q.cells.toList.length)).toArray):=fun b o vs e hb n=>by
    have:=run_storeCells_at (P:=P) b o e q.cells.toList 0 vs s.w hb (by simp only[vV,vk];omega) c3;simp only[vk]at this;simp[Instr.storeAt,Instr.sureAddr,storeVar,ar hT hi,Q,F,this]
   cases ha<;>simp only at h<;>try (cases h;done)
   case ptr k off cs hk =>
    rw[hk]at h;simp only at h;split at h
    .rename_i n;cases h;obtain⟨h1,vs,e,h2,Y,S⟩:=G.blk k _ hk;refine⟨s.setB _ k (.cells (bf cs off v.cells)),D (s.φ k) off vs e h2 ω,rfl,?_,?_⟩
     .refine bw G hk (lvC hk) trivial rfl rfl rfl ζ (fun b _ g=>setRow_other _ _ _ _ g) (fun l=>?_);refine⟨fun c f=>?_,_,e,setRow_heap _ _ _ _ _ _ h2,?_,fun j c u f hu=>?_⟩
      .rcases gQ f with h | h
       .exact h1 c h
       .exact A c h
      .rw[eH cs off _ n];simp;omega
      .rw[bf,cD cs off v.cells n]at f
       have d:(vs.toList.take off++q.cells.toList++vs.toList.drop (off+q.cells.toList.length))[j]?=some u:=by simpa using hu
       rw[cD vs.toList off q.cells.toList χ]at d;simp only[vV,Q]at d;split at f
       .rename_i K;rw[if_pos K]at d;exact(X (j-off) c u f (by simpa using d)).step l
       .rename_i K;rw[if_neg K]at d;exact(S j c u f (by simpa using d)).step l
     .exact bj G hk (lvC hk) trivial rfl rfl rfl ζ (fun b _ g=>setRow_other _ _ _ _ g)
    .cases h
   case pbuf k r off tot e z xs fz p hk ht hh =>
    rw[hk]at h;cases fz
    .simp only at h;split at h
     .rename_i hl;split at h
      .rename_i x hx;split at h
       .rename_i n;cases h;have hp:=hh hl.symm;subst hp;obtain⟨vs,h2,Y,S,h5,U,Z⟩:=G.blk k _ hk;have O:=U x (tn hx);have R:=aB hx;have J:=lvB hk (show s.κ k≠0 by omega);have h2:=h2 ω;have M:(bf x.cells off v.cells).length=x.cells.length:=eH _ _ _ n
        have N:∀c∈bf x.cells off v.cells,c.one=true:=fun c f=>by
         rcases gQ f with h | h
         .exact O.2 c h
         .exact A c h
        have hcell:=ofCells_cells (x:=x) O.2 M N;have hb:(r+1)*z<=s.κ k*z:=uI _ ω;rw[uR,yI]at hb
        have I:r*z+off+v.cells.length<=vs.size:=by omega
        have L:B.alike (.buf e z xs false) (.buf e z (xs.set r (lL x (bf x.cells off v.cells))) false):=⟨rfl,rfl,ζ,rfl,rfl⟩;refine⟨s.setB _ k _,D (s.φ k) (r*z+off) vs e h2 I,rfl,?_,?_⟩
        .refine bw G hk J L rfl rfl rfl ζ (fun b _ g=>setRow_other _ _ _ _ g) (fun l=>?_);refine⟨_,fun _=>setRow_heap _ _ _ _ _ _ h2,?_,by simpa[St.setB] using S,h5,fun y C=>?_,fun m y j c u C f hu=>?_⟩
         .simp only[St.setB];rw[<-Y];simp;omega
         .rcases vj C with C | rfl
          .exact U y C
          .rw[hcell];exact⟨ω,N⟩
         .have d:(vs.toList.take (r*z+off)++q.cells.toList++vs.toList.drop (r*z+off+q.cells.toList.length))[m*z+j]?=some u:=by simpa using hu
          rw[cD vs.toList _ q.cells.toList χ]at d;simp only[vV,Q]at d;by_cases hm:m=r
          .subst hm;rw[uJ R]at C;cases C;rw[hcell,bf,cD x.cells off v.cells n]at f;split at f
           .rename_i K;rw[if_pos ω]at d;exact(X (j-off) c u f (by rw[(ω:m*z+j-(m*z+off)=j-off)]at d;simpa using d)).step l
           .rename_i K;rw[if_neg ω]at d;exact(Z m x j c u hx f (by simpa using d)).step l
          .rw[uH (Ne.symm hm)]at C;have al:=(U y (tn C)).1;have ax:=aB f
           have W:¬(r*z+off<=m*z+j/\m*z+j<r*z+off+v.cells.length):=by
            rintro⟨q1,q2⟩
            rcases uP m r with ad | an
            .have:(m+1)*z<=r*z:=uI _ ω;rw[uR]at this;omega
            .have:(r+1)*z<=m*z:=uI _ ω;rw[uR]at this;omega
           rw[if_neg W]at d;exact(Z m y j c u C f (by simpa using d)).step l
        .exact bj G hk J L rfl rfl rfl ζ (fun b _ g=>setRow_other _ _ _ _ g)
       .cases h
      .cases h
     .cases h
    .cases h
  .cases h
end
end Go.AM
namespace Go.AM
open Go
section
variable {P:Program} {T:Ty} {s:St}
def ez(w:World)(o:Obj):(w.alloc o).heap[w.heap.size]?=some o:=heap_alloc_new w o
def ey(w:World)(o:Obj)(b:Nat)(h:b<w.heap.size):(w.alloc o).heap[b]?=w.heap[b]?:=heap_alloc_old w o h
def cells_new(b:Good s){v:V}{u:Value}(hv:Rel s v u)(h1:v.cells.all V.one=true)(e c:Nat):
  Good (s.push (s.w.alloc (.cells u.cells e)) s.w.heap.size c (.cells v.cells))/\Step s (s.push (s.w.alloc (.cells u.cells e)) s.w.heap.size c (.cells v.cells)):=by
 obtain⟨f,g,h⟩:=hv.cells h1;have ho:=ey s.w (.cells u.cells e);refine⟨gD b rfl rfl rfl ζ ho (uA _) ζ (fun a=>?_),ep b rfl rfl rfl ζ ho (uA _)⟩;refine⟨by simpa using h1,u.cells,e,?_,f,fun i c x d hx=>(g i c x d hx).step a⟩;simp only[St.push,aR];exact ez _ _
def push_ptr(w:World)(g c:Nat)(cs:List V)(off:Nat):Rel (s.push w g c (.cells cs)) (.ptr s.H.length off) (.pointer (some ⟨g,off,none⟩)):=by
 have:=Rel.ptr (s:=s.push w g c (.cells cs)) s.H.length off cs (by simp[St.push]);simpa only[St.push,aR] using this
def boxA(H:List B)(v:V):Option (V×List B):=if v.cells.all V.one=true then some (.ptr H.length 0,H++[.cells v.cells]) else none
def box_sound(b:Good s){v r:V}{u:Value}{H':List B}{elem:TypeId}(hv:Rel s v u)(h:boxA s.H v=some (r,H')):
  ∃a s',(Instr.box elem u).run P s.w = .ok a s'.w/\s'.H=H'/\Good s'/\Step s s'/\Rel s' r a:=by
 unfold boxA at h;split at h
 .rename_i h1;cases h;obtain⟨d,c⟩:=cells_new b hv h1 elem 0;exact⟨_,_,by simp[Instr.box,newVar,newRow,St.push],rfl,d,c,push_ptr _ _ _ _ 0⟩
 .cases h
def allocA(T:Ty)(H:List B)(t:TypeId):Option (V×List B):=
 match T t with
 | some i=>boxA H i.zero
 | none=>none
def alloc_sound(b:TOk P T)(c:Good s){r:V}{H':List B}{t:TypeId}(h:allocA T s.H t=some (r,H')):
  ∃a s',(Instr.alloc t true (.tuple #[])).run P s.w = .ok a s'.w/\s'.H=H'/\Good s'/\Step s s'/\Rel s' r a:=by
 unfold allocA at h;split at h
 .rename_i i hi;obtain⟨inf,_,_,_,_,hz,_⟩:=b.info t i hi;obtain⟨a,s',h1,h2⟩:=box_sound (P:=P) (elem:=t) c (dp hz) h;refine⟨a,s',?_,h2⟩;rw[<-h1];simp[Instr.alloc,iR b hi,Instr.box]
 .cases h
def ic:V->Value
 | .int k n=>.int k n
 | .bool b=>.bool b
 | .str x=>.string x
 | _=>.nilFunc
def bin_sound{op:BinOp}{t:TypeId}{x y r:V}{g d:Value}{f e:Operand}(hx:Rel s x g)(i:Rel s y d)(h:binA op x y=some r):
  ∃u,(do eqGuard op t f e g d;binOp op t g d:Sem Value).run P s.w = .ok u s.w/\Rel s r u:=by
 refine⟨ic r,?_⟩
 cases hx<;>simp only[binA]at h<;>try (cases h;done)
 case int k a =>
  cases i<;>simp only at h<;>try (cases h;done)
  case int k' b =>
   have c:(eqGuard op t f e (.int k a) (.int k' b)).run P s.w = .ok () s.w:=by unfold eqGuard;cases op<;>simp
   cases op<;>simp only at h<;>(first | (split at h) | skip)<;>(first | (cases h;done) | skip)
   all_goals (first | (split at h) | skip)<;>(first | (cases h;done) | skip)
   all_goals
    cases h;refine⟨?_,?_⟩
    .simp only[Sem.run_bind,c,Result.andThen_ok]
     simp_all [binOp,Op.shift,Op.intArith,Op.intDiv,Op.intBits,Op.intCmp,ic]
     try omega
    .first | exact .int _ _ | exact .bool _
 case str a =>
  cases i<;>simp only at h<;>try (cases h;done)
  case str b =>
   have c:(eqGuard op t f e (.string a) (.string b)).run P s.w = .ok () s.w:=by unfold eqGuard;cases op<;>simp
   cases op<;>simp only at h<;>(first | (split at h) | skip)<;>(first | (cases h;done) | skip)
   all_goals
    cases h;refine⟨?_,?_⟩
    .simp only[Sem.run_bind,c,Result.andThen_ok]
     simp_all [binOp,Op.stringOp,ic,IntKind.max,IntKind.signed,IntKind.bits]
     try omega
    .first | exact .str _ | exact .bool _
def un_sound{op:UnOp}{x r:V}{c:Value}(hx:Rel s x c)(h:unA op x=some r):∃u,(Op.unary op c).run P s.w = .ok u s.w/\Rel s r u:=by
 refine⟨ic r,?_⟩
 cases hx<;>simp only[unA]at h<;>try (cases h;done)
 case int k a =>
  cases op<;>simp only at h<;>(first | (cases h;done) | skip)
  all_goals
   cases h;exact⟨by simp[Op.unary,Op.intArith,Op.intBits,ic],.int _ _⟩
 case bool b =>
  cases op<;>simp only at h<;>(first | (cases h;done) | skip);cases h;exact⟨by simp[Op.unary,ic],.bool _⟩
def qU(v:TOk P T){g f:Nat}{x r:V}{t:Value}(hx:Rel s x t)(h:jU T g f x=some r):∃u,(Instr.fieldAt g t f).run P s.w = .ok u s.w/\Rel s r u:=by
 unfold jU at h;split at h
 .rename_i fd hf
  have a:∀p:Addr,(Instr.fieldAt g (.pointer (some p)) f).run P s.w = .ok (.pointer (some (p.add fd.offset))) s.w:=fun p=>by
   unfold fieldA at hf;split at hf
   .rename_i i hi;split at hf
    .rename_i l y;split at hf
     .rename_i B q;split at hf
      .rename_i j A;split at hf
       .cases hf
       .rename_i n;cases hf;have hu:=v.und g i hi;rw[y]at hu;simp[Instr.fieldAt,run_underlying hu,q,Instr.sureAddr,fieldPlace,ar v A,n]
      .cases hf
     .cases hf
    .cases hf
   .cases hf
  have d:∀b o,(Instr.fieldAt g (.pointer (some ⟨b,o,none⟩)) f).run P s.w = .ok (.pointer (some ⟨b,o+fd.offset,none⟩)) s.w:=fun b o=>by rw[a,cq]
  cases hx<;>simp only at h<;>try (cases h;done)
  case ptr k off cs hk=>cases h;exact⟨_,d _ _,.ptr k _ cs hk⟩
  case pin cs off b o u hp h1 hcell hrel =>
   cases h;exact⟨_,d _ _,.pin cs _ b _ (fun j=>u (fd.offset+j)) hp h1 (fun j c m=>by rw[vU];exact hcell _ c (by rwa [vU]at m)) (fun j c m=>hrel _ c (by rwa [vU]at m))⟩
  case pbuf k i off tot e z xs fz p hk ht hh =>
   cases h;exact⟨_,a p,.pbuf k i _ tot e z xs fz _ hk ht (fun he=>by rw[hh he,cq,vU])⟩
 .cases h
def er(d:TOk P T){t:TypeId}{cs:List V}{us:Array Value}{off:Nat}{v:V}(hl:us.size=cs.length)(h1:∀c∈cs,c.one=true)(hr:∀(i:Nat) c u,cs[i]?=some c->us[i]?=some u->Rel s c u)
  (h:jw T t cs off=some v):∃u,(part t us off).run P s.w = .ok u s.w/\Rel s v u:=by
 unfold jw at h;split at h
 .rename_i i hi;split at h
  .rename_i ha;split at h
   .rename_i f;cases h;refine⟨.agg (us.extract off (off+i.size)),by simp[part,lE d hi,ha,ar d hi],?_⟩;refine .agg _ _ χ (fun c a=>h1 c (vF (uh a))) (fun j c u a hu=>?_)
    have g:j<i.size:=by have:=(List.getElem?_eq_some_iff.1 a).1;simp at this;omega
    rw[uz,if_pos g,vN]at a;refine hr (off+j) c u a ?_;rw[Array.getElem?_extract]at hu;split at hu
    .exact hu
    .cases hu
   .cases h
  .rename_i ha;have b:=aB h
   have e:us[off]?=some us[off]:=by simp[hl,b]
   exact⟨us[off],by simp[part,lE d hi,ha,e],hr off v _ h e⟩
 .cases h
def field_sound(d:TOk P T){b f:Nat}{x r:V}{e:Value}(hx:Rel s x e)(h:oA T b f x=some r):∃u,(Instr.field b e f).run P s.w = .ok u s.w/\Rel s r u:=by
 unfold oA at h;split at h
 .rename_i i cs hi
  cases hx with
  | agg _ us hl h1 hr =>
   split at h
   .rename_i a j;have hu:=d.und b i hi;rw[j]at hu;split at h
    .rename_i fd c;obtain⟨u,h2,g⟩:=er d hl h1 hr h;exact⟨u,by simp[Instr.field,run_underlying hu,c,asAgg,h2],g⟩
    .cases h
   .cases h
 .cases h
def index_sound(a:TOk P T){t:TypeId}{x d r:V}{g f:Value}(hx:Rel s x g)(hi:Rel s d f)(h:indexA T t x d=some r):∃u,(Instr.index t g f).run P s.w = .ok u s.w/\Rel s r u:=by
 unfold indexA at h;split at h
 .rename_i i m kk n ht;cases hx;cases hi;have hu:=a.und t i ht;split at h
  .rename_i c;rw[c]at hu;split at h
   .rename_i hn;split at h
    .rename_i b hb;cases h;exact⟨.int .u8 b.toNat,by simp[Instr.index,asIntOf,run_underlying hu,hn,hb],.int _ _⟩
    .cases h
   .cases h
  .cases h
 .rename_i i cs kk n ht;cases hi
  cases hx with
  | agg _ us hl h1 hr =>
   have hu:=a.und t i ht;split at h
   .rename_i len e c;rw[c]at hu;split at h
    .rename_i j l;split at h
     .rename_i hn;obtain⟨u,h2,k⟩:=er a hl h1 hr h;exact⟨u,by simp[Instr.index,asIntOf,run_underlying hu,hn,ar a l,h2],k⟩
     .cases h
    .cases h
   .cases h
 .cases h
def qS(f:TOk P T)(K:Good s){t:TypeId}{x F r:V}{I G:Value}(hx:Rel s x I)(hi:Rel s F G)(h:jS T s.H t x F=some r):∃u,(Instr.indexAt t I G).run P s.w = .ok u s.w/\Rel s r u:=by
 unfold jS at h;split at h
 .rename_i i kk n ht;cases hi;split at h
  .rename_i a;split at h
   .rename_i e D;have hu:=f.und t i ht;rw[D]at hu;split at h
    .rename_i j p
     cases hx<;>simp only at h<;>try (cases h;done)
     case lst z full xs A cap b off u hcap hfull hA hz hcell hrel =>
      split at h
      .rename_i y;split at h
       .rename_i v hv;cases h;have d:=aB hv;obtain⟨rfl,hp⟩:=hA ω;obtain⟨L,C⟩:=hz v (tn hv)
        have o:n<(xs.length:Int):=by omega
        refine⟨.pointer (some ⟨b,off+n.toNat*j.size,none⟩),?_,?_⟩
        .simp[Instr.indexAt,asIntOf,run_underlying hu,a,o,ar f p,cq]
        .refine .pin v.cells 0 b _ (fun m=>u n.toNat m) hp C (fun m c g=>?_) (fun m c g=>hrel _ v m c hv (by simpa using g));rw[<-y];exact hcell _ v m c hv (by simpa using g)
       .cases h
      .cases h
     case buf k off len tot e' z xs fz A l c hk htot hh =>
      rw[hk]at h;simp only at h;split at h
      .rename_i g;obtain⟨E,q,B⟩:=g;cases h;obtain⟨hA,rfl,N,M⟩:=hh E.symm;obtain⟨_,_,_,J,_⟩:=K.blk k _ hk;have hA:=hA ω;subst hA;refine⟨.pointer (some ⟨s.φ k,off*z+n.toNat*j.size,none⟩),?_,?_⟩
       .simp[Instr.indexAt,asIntOf,run_underlying hu,a,B,ar f p,cq]
       .exact .pbuf k _ 0 tot e' z xs fz _ hk htot (fun _=>by rw[q,uR];rfl)
      .cases h
    .cases h
   .rename_i len e D;have hu:=f.und t i ht;rw[D]at hu;split at h
    .rename_i j p
     cases hx<;>simp only at h<;>try (cases h;done)
     case ptr k off cs hk =>
      split at h
      .rename_i d;cases h;refine⟨.pointer (some ⟨s.φ k,off+n.toNat*j.size,none⟩),?_,.ptr k _ cs hk⟩;simp[Instr.indexAt,asIntOf,run_underlying hu,a,d,ar f p,cq,Instr.sureAddr]
      .cases h
    .cases h
   .cases h
  .cases h
 .cases h
def len_sound(j:TOk P T)(g:Good s){t:TypeId}{x r:V}{a:Value}{ty:TypeId}(hx:Rel s x a)(h:lenA T s.H t x=some r):∃u,(Builtin.len_ #[t] ty #[a]).run P s.w = .ok u s.w/\Rel s r u:=by
 unfold lenA at h;split at h
 .rename_i i ht;have hu:=j.und t i ht;generalize i.desc=d at hu h;refine⟨ic r,?_⟩;split at h
  .cases hx;cases h;exact⟨by simp[Builtin.len_,run_underlying hu,ic,goInt],.int _ _⟩
  .cases hx;cases h;exact⟨by simp[Builtin.len_,run_underlying hu,ic,goInt],.int _ _⟩
  .cases hx;cases h;exact⟨by simp[Builtin.len_,run_underlying hu,ic,goInt],.int _ _⟩
  .rename_i k off len tot
   cases hx with
   | buf _ _ _ _ e z xs fz A l c hk b m =>
    rw[hk]at h;simp only at h;split at h
    .rename_i he;cases h;obtain⟨_,rfl,_⟩:=m he.symm;exact⟨by simp[Builtin.len_,run_underlying hu,ic,goInt],.int _ _⟩
    .cases h
  .cases hx;cases h;exact⟨by simp[Builtin.len_,run_underlying hu,ic,goInt],.int _ _⟩
  .cases hx with
   | map _ kk es hk =>
    rw[hk]at h;cases h;obtain⟨_,ms,cl,h2,f,_⟩:=g.blk _ _ hk;exact⟨by simp[Builtin.len_,run_underlying hu,ic,goInt,MapKept.run_getObj_map h2,f],.int _ _⟩
  .cases h
 .cases h
theorem mg{f:V->V->Option V}{g:Value->Value->Sem Value}(hf:∀{x y r:V} {c d:Value},Rel s x c->Rel s y d->f x y=some r->∃u,(g c d).run P s.w = .ok u s.w/\Rel s r u):
  ∀{ys:List V} {uys:List Value} {x r:V} {c:Value},Rel s x c->ys.length=uys.length->(∀(i:Nat) y u,ys[i]?=some y->uys[i]?=some u->Rel s y u)->foldA f x ys=some r->∃u,(uys.foldlM g c).run P s.w = .ok u s.w/\Rel s r u
 | [],[],x,r,c,hx,_,_,h=>by simp[foldA]at h;subst h;exact⟨c,ζ,hx⟩
 | y::ys,d::uys,x,r,c,hx,hl,hr,h=>by
  simp only[foldA]at h;split at h
  .rename_i z hz;obtain⟨u,h1,h2⟩:=hf hx (hr 0 y d rfl rfl) hz;obtain⟨j,e,k⟩:=mg hf h2 (by simpa using hl) (fun i a b ha hb=>hr (i+1) a b (by simpa using ha) (by simpa using hb)) h;exact⟨j,by simp[List.foldlM_cons,h1,e],k⟩
  .cases h
def max2_sound{x y r:V}{b a:Value}(hx:Rel s x b)(c:Rel s y a)(h:max2A x y=some r):∃u,(Builtin.max2 b a).run P s.w = .ok u s.w/\Rel s r u:=by
 cases hx<;>simp only[max2A]at h<;>try (cases h;done)
 cases c<;>simp only at h<;>try (cases h;done)
 cases h;exact⟨_,by simp[Builtin.max2],.int _ _⟩
def min2_sound{x y r:V}{b a:Value}(hx:Rel s x b)(c:Rel s y a)(h:min2A x y=some r):∃u,(Builtin.min2 b a).run P s.w = .ok u s.w/\Rel s r u:=by
 cases hx<;>simp only[min2A]at h<;>try (cases h;done)
 cases c<;>simp only at h<;>try (cases h;done)
 cases h;exact⟨_,by simp[Builtin.min2],.int _ _⟩
end
end Go.AM
namespace Go.AM
open Go
structure CRel (s:St) (cs:List V) (us:Array Value):Prop where
 len:us.size=cs.length
 one:∀c∈cs,c.one=true
 rel:∀(i:Nat) c u,cs[i]?=some c->us[i]?=some u->Rel s c u
def nz(place:Nat->Option (Nat×Nat))(cells:List V):List (Nat×V)->Option (List V)
 | []=>some cells
 | (i,v)::rest =>
  match place i with
  | none=>none
  | some (off,size)=>if v.cells.length=size/\off+size<=cells.length/\v.cells.all V.one=true then nz place (bf cells off v.cells) rest else none
theorem foldl_set(off:Nat):∀(l:List (Value×Nat)) (k:Nat) (us:Array Value),(∀i p,l[i]?=some p->p.2=k+i)->off+k+l.length<=us.size ->
  (l.foldl (fun cs (c,j)=>cs.setIfInBounds (off+j) c) us).toList=us.toList.take (off+k)++l.map (·.1)++us.toList.drop (off+k+l.length)
 | [],k,us,_,_=>by simp
 | (c,j)::l,k,us,h,hl=>by
  have e:j=k:=by have:=h 0 (c,j) rfl;simpa using this
  subst e;simp only[uX]at hl;rw[vy,foldl_set off l (j+1) (us.setIfInBounds (off+j) c) (fun i p hp=>by have:=h (i+1) p (by simpa using hp);omega) χ];simp only[Array.toList_setIfInBounds,vW,uX]
  have h1:off+j<us.toList.length:=by simp;omega
  have d:(us.toList.set (off+j) c).take (off+(j+1))=us.toList.take (off+j)++[c]:=by
   apply uw;intro i;rw[uz];by_cases hi:i<off+j
   .rw[if_pos ω,uH ω,tu χ,uz,if_pos hi]
   .by_cases a:i=off+j
    .subst a
     have e0:off+j-(us.toList.take (off+j)).length=0:=by rw[vQ];omega
     rw[if_pos ω,uJ h1,uD (by rw[vQ];omega),e0];rfl
    .rw[if_neg ω,uD χ];rw[un];simp;omega
  have b:(us.toList.set (off+j) c).drop (off+(j+1)+l.length)=us.toList.drop (off+j+(l.length+1)):=by
   rw[List.drop_set,if_pos ω];congr 1;omega
  rw[d,b];simp[uW]
def kQ(off:Nat)(us:Array Value)(u:Value):Array Value:=u.cells.zipIdx.foldl (fun cs (c,j)=>cs.setIfInBounds (off+j) c) us
section
variable {P:Program} {T:Ty} {s:St}
def fill_step(off:Nat)(us:Array Value)(nv:Array Value)(h:off+nv.size<=us.size):
  (nv.zipIdx.foldl (fun cs (c,j)=>cs.setIfInBounds (off+j) c) us).toList=us.toList.take off++nv.toList++us.toList.drop (off+nv.size):=by
 rw[<-Array.foldl_toList]
 have:=foldl_set off nv.zipIdx.toList 0 us (fun i p hp=>by
  rw[vJ,Array.getElem?_zipIdx]at hp
  cases hn:nv[i]? with
  | none=>rw[hn]at hp;cases hp
  | some a=>rw[hn]at hp;cases hp;simp) χ
 simpa[Function.comp_def] using this
def crel_splice{cs:List V}{us:Array Value}(e:CRel s cs us){off:Nat}{v:V}{u:Value}(hv:Rel s v u)(h1:v.cells.all V.one=true)(d:off+v.cells.length<=cs.length):
  CRel s (bf cs off v.cells) (us.toList.take off++u.cells.toList++us.toList.drop (off+u.cells.size)).toArray:=by
 obtain⟨g,i,k⟩:=hv.cells h1;have hl:=e.len;refine⟨by rw[eH _ _ _ d];simp;omega,fun c hm=>?_,fun j c x b hx=>?_⟩
 .rcases gQ hm with h | h
  .exact e.one c h
  .simpa using List.all_eq_true.1 h1 c h
 .rw[bf,cD cs off v.cells d]at b
  have a:(us.toList.take off++u.cells.toList++us.toList.drop (off+u.cells.toList.length))[j]?=some x:=by simpa using hx
  rw[cD us.toList off u.cells.toList χ]at a;simp only[vV,g]at a;split at b
  .rename_i f;rw[if_pos f]at a;exact i _ c x b (by simpa using a)
  .rename_i f;rw[if_neg f]at a;exact e.rel j c x b (by simpa using a)
theorem mh{place:Nat->Option (Nat×Nat)} : ∀{parts:List (Nat×V)} {uparts:List (Nat×Value)} {cs b:List V} {us:Array Value},CRel s cs us->parts.length=uparts.length ->
  (∀(i:Nat) p u,parts[i]?=some p->uparts[i]?=some u->p.1=u.1/\Rel s p.2 u.2)->nz place cs parts=some b->∃a,Instr.fill place us uparts=some a/\CRel s b a
 | [],[],cs,b,us,c,_,_,h=>by simp[nz]at h;subst h;exact⟨us,rfl,c⟩
 | (i,v)::parts,(k,u)::uparts,cs,b,us,c,hl,hr,h=>by
  obtain⟨e0,hv⟩:=hr 0 (i,v) (k,u) rfl rfl;simp only at e0 hv;subst e0;simp only[nz]at h;split at h
  .cases h
  .rename_i off size hp;split at h
   .rename_i hcond;obtain⟨n,m,f⟩:=hcond;obtain⟨l,_,_⟩:=hv.cells f;have g:=c.len;have d:=crel_splice c hv f (off:=off) ω
    obtain⟨a,h1,h2⟩:=mh (place:=place) (us:=kQ off us u) (uparts:=uparts) (by
     have e:=fill_step off us u.cells ω
     have:kQ off us u=(us.toList.take off++u.cells.toList++us.toList.drop (off+u.cells.size)).toArray:=by
      apply Array.ext';simpa[kQ] using e
     rw[this];exact d) (by simpa using hl) (fun j p q hp hq=>hr (j+1) p q (by simpa using hp) (by simpa using hq)) h
    refine⟨a,?_,h2⟩;rw[Instr.fill,hp];simp only[(ω:¬(u.cells.size≠size)),(ω:¬(off+u.cells.size > us.size)),decide_false,Bool.or_false];exact h1
   .cases h
def lJ(T:Ty):List Field->Option (List (Nat×Nat))
 | []=>some []
 | f::a=>match T f.type,lJ T a with
  | some i,some r=>some ((f.offset,i.size)::r)
  | _,_=>none
def buildA(T:Ty)(t:TypeId)(parts:List (Nat×V)):Option V :=
 match T t with
 | some it=>match it.desc with
  | .struct fields=>match lJ T fields.toList with
   | some places=>(nz (fun i=>places[i]?) it.zero.cells parts).map .agg
   | none=>none
  | .array _ e=>match T e with
   | some j=>(nz (fun i=>some (i*j.size,j.size)) it.zero.cells parts).map .agg
   | none=>none
  | _=>none
 | none=>none
theorem places_eq(b:TOk P T):∀{a:List Field} {ps:List (Nat×Nat)},lJ T a=some ps->a.mapM (fun f=>(P.info? f.type).map fun i=>(f.offset,i.size))=some ps
 | [],ps,h=>by simp[lJ]at h;subst h;rfl
 | f::a,ps,h=>by
  simp only[lJ]at h;split at h
  .rename_i i r hi hr;cases h;obtain⟨inf,h1,h2,_⟩:=b.info _ i hi;simp[List.mapM_cons,h1,h2,places_eq b hr]
  .cases h
def io{v:Value}{x:V}(h:kP v=some x):x.cells.all V.one=true:=by
 unfold kP at h;split at h
 .rename_i cs
  cases hv:kO cs.toList with
  | none=>rw[hv]at h;cases h
  | some xs=>rw[hv]at h;cases h;simpa[V.cells] using(mR (s:=⟨fun _=>False,default,id,id,[]⟩) hv).2.1
 .have:=(mS (s:=⟨fun _=>False,default,id,id,[]⟩) h).2;cases x<;>simp_all [V.cells,V.one]
def crel_of{v:V}{u:Value}(hv:Rel s v u)(h1:v.cells.all V.one=true):CRel s v.cells u.cells :=
 ⟨(hv.cells h1).1,by simpa using h1,(hv.cells h1).2.1⟩
def crel_zero(a:TOk P T){t:TypeId}{i:TI}(hi:T t=some i):CRel s i.zero.cells i.zval.cells:=by
 obtain⟨inf,_,_,_,_,h,_⟩:=a.info t i hi;exact crel_of (dp h) (io h)
def build_sound(d:TOk P T){t:TypeId}{parts:List (Nat×V)}{uparts:Array (Nat×Value)}{r:V}(hl:parts.length=uparts.size)
  (hr:∀(i:Nat) p u,parts[i]?=some p->uparts[i]?=some u->p.1=u.1/\Rel s p.2 u.2) (h:buildA T t parts=some r):∃u,(Instr.build t uparts).run P s.w = .ok u s.w/\Rel s r u:=by
 unfold buildA at h
 have b:parts.length=uparts.toList.length:=by simpa using hl
 have c:∀(i:Nat) p u,parts[i]?=some p->uparts.toList[i]?=some u->p.1=u.1/\Rel s p.2 u.2:=fun i p u h1 h2=>hr i p u h1 (by simpa using h2)
 split at h
 .rename_i it hit;obtain⟨inf,q1,x,v,l,q,y⟩:=d.info t it hit;have hu:=d.und t it hit;have hz:=crel_zero (s:=s) d hit;split at h
  .rename_i f g;rw[g]at hu;split at h
   .rename_i places hp
    cases hf:nz (fun i=>places[i]?) it.zero.cells parts with
    | none=>rw[hf]at h;cases h
    | some cs =>
     rw[hf]at h;cases h;obtain⟨a,h1,h2⟩:=mh hz b c hf;refine⟨.agg a,run_build s.w t uparts a ?_,.agg cs a h2.len h2.one h2.rel⟩;simp only[Program.built,q1,hu,l,places_eq d hp];simpa using h1
   .cases h
  .rename_i n e g;rw[g]at hu;split at h
   .rename_i j o;obtain⟨k,p1,m,_⟩:=d.info e j o
    cases hf:nz (fun i=>some (i*j.size,j.size)) it.zero.cells parts with
    | none=>rw[hf]at h;cases h
    | some cs =>
     rw[hf]at h;cases h;obtain⟨a,h1,h2⟩:=mh hz b c hf;refine⟨.agg a,run_build s.w t uparts a ?_,.agg cs a h2.len h2.one h2.rel⟩;simp only[Program.built,q1,hu,l,p1,m];exact h1
   .cases h
  .cases h
 .cases h
structure FRow (s:St) (z:Nat) (xs:List V) (us:Array Value):Prop where
 len:us.size=xs.length*z
 el:∀x∈xs,x.cells.length=z/\∀c∈x.cells,c.one=true
 rel:∀(i:Nat) x (j:Nat) c u,xs[i]?=some x->x.cells[j]?=some c->us[i*z+j]?=some u->Rel s c u
def FRow.at_{z:Nat}{xs:List V}{us:Array Value}(h:FRow s z xs us){i j:Nat}{x c:V}(hx:xs[i]?=some x)(b:x.cells[j]?=some c):∃u,us[i*z+j]?=some u/\Rel s c u:=by
 have hi:=aB hx;have d:=aB b;have hz:=(h.el x (tn hx)).1;have hb:(i+1)*z<=xs.length*z:=uI _ ω;rw[uR]at hb
 have a:i*z+j<us.size:=by have:=h.len;omega
 have e:us[i*z+j]?=some us[i*z+j]:=by simp[a]
 exact⟨_,e,h.rel i x j c _ hx b e⟩
def rd(z:Nat)(xs:List V):List (Nat×V)->Option (List V)
 | []=>some xs
 | (i,v)::rest=>if v.cells.length=z/\i<xs.length/\v.cells.all V.one=true then rd z (xs.set i v) rest else none
def frow_set{z:Nat}{xs:List V}{us:Array Value}(h:FRow s z xs us){i:Nat}{v:V}{u:Value}(hv:Rel s v u)(h1:v.cells.all V.one=true)(hz:v.cells.length=z)(hi:i<xs.length):
  FRow s z (xs.set i v) (kQ (i*z) us u)/\i*z+u.cells.size<=us.size:=by
 obtain⟨t,l,y⟩:=hv.cells h1;have hb:(i+1)*z<=xs.length*z:=uI _ ω;rw[uR,yI]at hb;have k:=h.len
 have b:i*z+u.cells.size<=us.size:=by omega
 have e:=fill_step (i*z) us u.cells b
 have e':(kQ (i*z) us u).toList=us.toList.take (i*z)++u.cells.toList++us.toList.drop (i*z+u.cells.toList.length):=by simpa[kQ] using e
 have f:(kQ (i*z) us u).size=us.size:=by
  have:=congrArg List.length e';simp at this;omega
 refine⟨⟨by simp[f,h.len],fun x hx=>?_,fun m x j c w hx d p=>?_⟩,b⟩
 .rcases vj hx with hx | rfl
  .exact h.el x hx
  .exact⟨hz,by simpa using h1⟩
 .have a:(kQ (i*z) us u).toList[m*z+j]?=some w:=by simpa using p
  rw[e',cD us.toList (i*z) u.cells.toList (by simpa using b)]at a;simp only[vV]at a;have A:=aB d;by_cases hm:m=i
  .subst hm;rw[uJ hi]at hx;cases hx;rw[if_pos ω,(ω:m*z+j-m*z=j)]at a;exact l j c w d (by simpa using a)
  .rw[uH (Ne.symm hm)]at hx;have q:=(h.el x (tn hx)).1
   have g:¬(i*z<=m*z+j/\m*z+j<i*z+u.cells.size):=by
    rintro⟨q1,r⟩
    rcases uP m i with n | o
    .have:(m+1)*z<=i*z:=uI _ ω;rw[uR]at this;omega
    .have:(i+1)*z<=m*z:=uI _ ω;rw[uR]at this;omega
   rw[if_neg g]at a;exact h.rel m x j c w hx d (by simpa using a)
theorem rZ{z:Nat} : ∀{parts:List (Nat×V)} {uparts:List (Nat×Value)} {xs a:List V} {us:Array Value},FRow s z xs us->parts.length=uparts.length ->
  (∀(i:Nat) p u,parts[i]?=some p->uparts[i]?=some u->p.1=u.1/\Rel s p.2 u.2)->rd z xs parts=some a ->
  ∃b,Instr.fill (fun i=>some (i*z,z)) us uparts=some b/\FRow s z a b/\a.length=xs.length
 | [],[],xs,a,us,c,_,_,h=>by simp[rd]at h;subst h;exact⟨us,rfl,c,rfl⟩
 | (i,v)::parts,(g,u)::uparts,xs,a,us,c,hl,hr,h=>by
  obtain⟨e0,hv⟩:=hr 0 (i,v) (g,u) rfl rfl;simp only at e0 hv;subst e0;simp only[rd]at h;split at h
  .rename_i hcond;obtain⟨k,f,d⟩:=hcond;obtain⟨l,_,_⟩:=hv.cells d;obtain⟨f1,f2⟩:=frow_set c hv d k f;obtain⟨b,h1,h2,e⟩:=rZ f1 (by simpa using hl) (fun j p q hp hq=>hr (j+1) p q (by simpa using hp) (by simpa using hq)) h;refine⟨b,?_,h2,by simpa using e⟩;rw[Instr.fill];simp only[(ω:¬(u.cells.size≠z)),(ω:¬(i*z+u.cells.size > us.size)),decide_false,Bool.or_false];exact h1
  .cases h
def frow_zeros{z n:Nat}{x:V}{u:Value}(hv:Rel s x u)(h1:x.cells.all V.one=true)(hz:x.cells.length=z)(us:Array Value)(d:us.size=n*z)(b:∀i,i<n*z->us[i]?=u.cells[i % u.cells.size]?):
  FRow s z (tg n x) us:=by
 obtain⟨k,h,l⟩:=hv.cells h1;refine⟨by simpa using d,fun y a=>?_,fun i y j c w a f g=>?_⟩
 .rw[vn a];exact⟨hz,by simpa using h1⟩
 .have e:=vn (tn a);subst e
  have hi:i<n:=by have:=aB a;simpa using this
  have m:=aB f;have hb:(i+1)*z<=n*z:=uI _ ω;rw[uR]at hb;rw[b _ ω,k,hz,show(i*z+j) % z=j by rw[wG,xo];exact xN ω]at g;exact h j c w f g
def iM(T:Ty)(t:TypeId)(len:Nat)(parts:List (Nat×V)):Option V :=
 match T t with
 | some it=>match it.desc with
  | .slice e=>match T e with
   | some j=>if len*j.size<=16777216/\0<j.size then
     if len=0 then(if parts.isEmpty then some (.lst j.size true []) else none)
     else(rd j.size (tg len j.zero) parts).map (.lst j.size true) else none
   | none=>none
  | _=>none
 | none=>none
def frow_lst{z:Nat}{xs:List V}{us:Array Value}{g c:Nat}{full:Bool}{e:TypeId}(h:FRow s z xs us)(b:s.w.heap[g]?=some (.cells us e (0,0)))(hp:s.Prot g)(f:xs.length<=c)(hf:full=true->c=xs.length):
  Rel s (.lst z full xs) (.slice (some ⟨g,0,none⟩) xs.length c):=by
 refine .lst z full xs _ c g 0 (fun i j=>(us[i*z+j]?).getD undef) f hf (fun _=>⟨rfl,hp⟩) h.el (fun i x j d hx a=>?_) (fun i x j d hx a=>?_)
 .obtain⟨u,hu,_⟩:=h.at_ hx a;rw[hu];simp only[vD,wA];simp[World.cell?,b,hu]
 .obtain⟨u,hu,hr⟩:=h.at_ hx a;rw[hu];exact hr
theorem FRow.step{s':St}(hs:Step s s'){z:Nat}{xs:List V}{us:Array Value}(h:FRow s z xs us):FRow s' z xs us :=
 ⟨h.len,h.el,fun i x j c u a b d=>(h.rel i x j c u a b d).step hs⟩
def prot_new(a:Good s)(o:Obj):(s.at (s.w.alloc o)).Prot s.w.heap.size :=
 ⟨by simp[St.at],fun h=>by have:=a.fl _ h;omega,fun k hk e=>by have:=(a.lt k hk).1;simp only[St.at]at e;omega⟩
def zeros_at(u:Value)(n:Nat)(a:0<u.cells.size):∀i,i<n->((Array.range n).map (u.cells[· % u.cells.size]!))[i]?=u.cells[i % u.cells.size]?:=fun i hi=>by
 have:i % u.cells.size<u.cells.size:=xU _ a;simp[hi,this]
def dq(z:Nat)(full:Bool)(A:Option Addr)(c:Nat)(hf:full=true->c=0):Rel s (.lst z full []) (.slice A 0 c):=
 Rel.lst z full [] A c 0 0 (fun _ _=>undef) (wV _) hf (fun h=>absurd h ζ) (fun x hx=>absurd hx ζ) (fun i x j d hx=>by simp at hx) (fun i x j d hx=>by simp at hx)
def pb(q:TOk P T)(A:Good s){t:TypeId}{len:Nat}{parts:List (Nat×V)}{uparts:Array (Nat×Value)}{r:V}(hl:parts.length=uparts.size)
  (hr:∀(i:Nat) p u,parts[i]?=some p->uparts[i]?=some u->p.1=u.1/\Rel s p.2 u.2) (h:iM T t len parts=some r):
  ∃u s',(Instr.buildSlice t len uparts).run P s.w = .ok u s'.w/\s'.H=s.H/\Good s'/\Step s s'/\Rel s' r u:=by
 unfold iM at h
 have x:parts.length=uparts.toList.length:=by simpa using hl
 have y:∀(i:Nat) p u,parts[i]?=some p->uparts.toList[i]?=some u->p.1=u.1/\Rel s p.2 u.2:=fun i p u h1 h2=>hr i p u h1 (by simpa using h2)
 split at h
 .rename_i it hit;have hu:=q.und t it hit;split at h
  .rename_i e I;rw[I]at hu;split at h
   .rename_i j z;obtain⟨inf,q1,m,J,D,B,G⟩:=q.info e j z;split at h
    .rename_i v
     have grow:=fun o=>ig A (w:=s.w.alloc o) rfl rfl rfl ζ (fun b hb=>ey _ _ b hb)
     split at h
     .rename_i a;subst a;split at h
      .rename_i n;cases h
       have hp:uparts = #[]:=by
        have:parts.length=0:=by simpa using n
        exact wB ω
       subst hp;refine⟨.slice (some ⟨s.w.heap.size,0,none⟩) 0 0,s.at (s.w.alloc (.cells #[] e)),?_,rfl,(grow _).1,(grow _).2,dq _ true _ 0 (fun _=>rfl)⟩;simp[Instr.buildSlice,run_underlying hu,ar q z,Instr.fill,newRow,St.at];rw[show(Array.map (fun _=>(default:Value)) (Array.range 0))= #[] from by simp[Array.range]]
      .cases h
     .rename_i a
      cases hf:rd j.size (tg len j.zero) parts with
      | none=>rw[hf]at h;cases h
      | some xs =>
       rw[hf]at h;cases h;have k:Rel s j.zero j.zval:=dp B;have l:=io B;have F:=(k.cells l).1
       have h0:FRow s j.size (tg len j.zero) ((Array.range (len*j.size)).map (j.zval.cells[· % j.zval.cells.size]!)):=
        frow_zeros k l G _ ζ (zeros_at j.zval (len*j.size) ω)
       obtain⟨d,h1,h2,E⟩:=rZ h0 x y hf
       have f:xs.length=len:=by simpa using E
       have C:0<len*j.size:=Nat.mul_pos ω v.2;have g:=run_buildSlice (P:=P) s.w t e len uparts d inf j.zval hu q1 D (by rw[m];omega) (by rw[m];omega) (by rw[m];exact h1);have hrel:=frow_lst (s:=s.at (s.w.alloc (.cells d e))) (c:=len) (full:=true) (h2.step (grow _).2) (ez _ _) (prot_new A _) ω (fun _=>f.symm);rw[f]at hrel;exact⟨_,s.at _,g,rfl,(grow _).1,(grow _).2,hrel⟩
    .cases h
   .cases h
  .cases h
 .cases h
def sH:V->Option Int
 | .int _ n=>some n
 | _=>none
def makeA(T:Ty)(H:List B)(t:TypeId)(l c:V):Option (V×List B):=
 match T t with
 | some it=>match it.desc with
  | .slice e=>match T e,sH l,sH c with
   | some j,some n,some m=>if 0<=n/\n<=m/\(j.bytes:Int)*m<=281474976710656/\m<=9223372036854775807/\0<j.size then
     some (.buf H.length 0 n.toNat n.toNat,H++[.buf e j.size (tg n.toNat j.zero) false]) else none
   | _,_,_=>none
  | _=>none
 | none=>none
def madeCells_at(u:Value)(n:Nat)(a:0<u.cells.size):(madeCells u.cells n).size=n/\∀i,i<n->(madeCells u.cells n)[i]?=u.cells[i % u.cells.size]?:=by
 unfold madeCells;refine⟨ζ,fun i hi=>?_⟩;have:i % u.cells.size<u.cells.size:=xU _ a;simp[hi,this]
def make_sound(v:TOk P T)(y:Good s){t:TypeId}{l c r:V}{C E:Value}{H':List B}(hl:Rel s l C)(L:Rel s c E)(h:makeA T s.H t l c=some (r,H')):
  ∃u s',(Instr.makeSlice t C E).run P s.w = .ok u s'.w/\s'.H=H'/\Good s'/\Step s s'/\Rel s' r u:=by
 unfold makeA at h;split at h
 .rename_i it hit;have hu:=v.und t it hit;split at h
  .rename_i e g;rw[g]at hu;split at h
   .rename_i j n m O hn hm
    cases hl<;>simp only[sH]at hn<;>try (cases hn;done)
    cases L<;>simp only[sH]at hm<;>try (cases hm;done)
    cases hn;cases hm;split at h
    .rename_i hcond;obtain⟨F,K,N,Q,S⟩:=hcond;cases h;obtain⟨inf,q1,G,M,I,z,A⟩:=v.info e j O;rename_i kl R;have a:=run_make (P:=P) s.w t e inf j.zval hu q1 I kl R n m F K (by rw[M];exact N) Q;rw[G]at a;have f:Rel s j.zero j.zval:=dp z;have b:=io z;have q:=(f.cells b).1;obtain⟨m1,m2⟩:=madeCells_at j.zval (m.toNat*j.size) ω;have ho:=ey s.w (.cells (madeCells j.zval.cells (m.toNat*j.size)) e);refine⟨_,s.push _ s.w.heap.size m.toNat _,a,rfl,?_,ep y rfl rfl rfl ζ ho (uA _),?_⟩
     .refine gD y rfl rfl rfl ζ ho (uA _) ζ (fun k=>?_);refine⟨madeCells j.zval.cells (m.toNat*j.size),?_,?_,?_,?_,fun x hx=>?_,fun i x o d w hx g D=>?_⟩
      .intro _;simp only[St.push,aR];exact ez _ _
      .simp only[St.push,aR];exact m1
      .simp only[St.push,aR,xB];omega
      .simp only[St.push,aR,maxLen];omega
      .rw[vn hx];exact⟨A,by simpa using b⟩
      .have p:=vn (tn hx);subst p
       have hi:i<n.toNat:=by have:=aB hx;simpa using this
       have J:=aB g;have hb:(i+1)*j.size<=m.toNat*j.size:=uI _ ω;rw[uR]at hb;rw[m2 _ ω,q,A,show(i*j.size+o) % j.size=o by rw[wG,xo];exact xN ω]at D;exact((f.cells b).2.1 o d w g D).step k
     .refine .buf s.H.length 0 n.toNat n.toNat e j.size (tg n.toNat j.zero) false _ _ _ (by simp[St.push]) ζ (fun _=>?_);simp only[St.push,aR,vp];exact⟨fun _=>trivial,trivial,ω,ω⟩
    .cases h
   .cases h
  .cases h
 .cases h
def makeMap_sound(a:Good s){t:TypeId}{kk:KK}{H':List B}{r:V}(h:some (V.map s.H.length,s.H++[B.map kk []])=some (r,H')):
  ∃u s',(Instr.makeMap t none).run P s.w = .ok u s'.w/\s'.H=H'/\Good s'/\Step s s'/\Rel s' r u:=by
 cases h;have ho:=ey s.w (.map #[] 0);refine⟨.map (some s.w.heap.size),s.push (s.w.alloc (.map #[] 0)) s.w.heap.size 0 (.map kk []),by simp[Instr.makeMap,St.push],rfl,?_,ep a rfl rfl rfl ζ ho (uA _),?_⟩
 .refine gD a rfl rfl rfl ζ ho (uA _) ζ (fun b=>?_);refine⟨ζ,#[],0,?_,rfl,fun i p m hp=>by simp at hp⟩;simp only[St.push,aR];exact ez _ _
 .have:=Rel.map (s:=s.push (s.w.alloc (.map #[] 0)) s.w.heap.size 0 (.map kk [])) s.H.length kk [] (by simp[St.push]);simpa only[St.push,aR] using this
end
end Go.AM
end
