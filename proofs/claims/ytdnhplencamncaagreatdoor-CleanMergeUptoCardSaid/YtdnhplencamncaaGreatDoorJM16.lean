/- JM16: own texts of this seat, joined and shortened by pack4.py: InR, InC, LayI, RlL, Rl. -/
import Derived.Test.YtdnhplencamncaaGreatDoorJM12
import Derived.Laws.Externs
import Derived.Laws.IdiomCopy
import Derived.Laws.NewBlocks
import Derived.Lib.AppendZeros
import Derived.Lib.AppendZerosOnto
import Derived.Lib.JoinLaws
import Derived.Lib.Overlaps
import Derived.Lib.SliceRun
import Derived.Lib.Walk
import Derived.Shelf.RegionOpenPlain
import Derived.WalkKit
import Derived.Shelf.SlSortCmp.NoneTotal
set_option linter.unusedVariables false
set_option linter.unusedSimpArgs false
set_option maxRecDepth 100000
set_option maxHeartbeats 64000000
open Array renaming getElem?_append→pd,length_toList→ph,getElem?_eq_getElem→pn
open List renaming getElem?_eq_getElem→oG,mem_of_getElem?→oH,getElem_mem→oI,getElem?_append_left→oL,mem_cons→oR,getElem?_append_right→oS,length_append→oT,append_nil→oU,drop_of_length_le→oV,append_assoc→oh,map_cons→oq,length_take→ot,take_of_length_le→pA,getElem?_take→pD,map_nil→pJ,getElem?_cons_succ→pL,getElem?_drop→pP,mem_of_mem_take→pQ,eq_nil_of_length_eq_zero→pX,length_drop→pk,mem_of_mem_drop→pq,mem_append→qB,take_append_of_le_length→qg,getElem?_toArray→qk,size_toArray→rP
open Nat renaming le_refl→oJ,zero_add→pI,lt_or_ge→pS,add_assoc→pm,sub_self→px,zero_mul→pz,min_eq_left→qE,lt_trichotomy→rQ
section
namespace Go.AM
open Go
theorem regrowZ{s:St}(hg:Good s){w:World}{k g c e z:Nat}{xs ys:List V}{us:Array Value}(hk:s.H[k]?=some (.buf e z xs false))(hpos:xs.length<ys.length)(hos:w.os=s.w.os)(htape:w.tape=s.w.tape)(hout:w.output=s.w.output)(hsz:s.w.heap.size≤w.heap.size)
  (hb:∀b,b<s.w.heap.size→(s.κ k≠0→b≠s.φ k)→w.heap[b]?=s.w.heap[b]?) (hgk:(g=s.φ k∧s.κ k≠0)∨s.w.heap.size≤g) (hrow:w.heap[g]?=some (.cells us e (0,0))) (hu:us.size=c*z) (hc:ys.length≤c) (hm:c≤maxLen)
  (hel:∀y∈ys,y.cells.length=z∧∀d∈y.cells,d.one=true) (hrel:∀(i:Nat) y (j:Nat) d u,ys[i]?=some y→y.cells[j]?=some d→us[i*z+j]?=some u→Rel s d u):
  Good (s.grow w k g c (.buf e z ys false))∧Step s (s.grow w k g c (.buf e z ys false))∧Rel (s.grow w k g c (.buf e z ys false)) (.buf k 0 ys.length ys.length) (.slice (some ⟨g,0,none⟩) ys.length c):=by
 have hst:=lC (c:=c) hg hk hpos hos htape hout hsz hb hgk;have hgl:g<w.heap.size:=(Array.getElem?_eq_some_iff.1 hrow).1;refine⟨regrow_good (c:=c) hg hk hpos hos htape hout hsz hb hgk hgl (fun hst=>⟨us,?_,?_,?_,?_,hel,fun i x j d u hx hd hu'=>?_⟩),hst,?_⟩
 ·intro _;simp only[St.grow,aR];exact hrow
 ·simp only[St.grow,aR];exact hu
 ·simp only[St.grow,aR];exact hc
 ·simp only[St.grow,aR];exact hm
 ·exact(hrel i x j d u hx hd hu').step hst
 ·refine .buf k 0 ys.length ys.length e z ys false _ _ _ (by simp[St.grow,aB hk]) (oJ _) (fun _=>?_);simp only[St.grow,aR];exact⟨fun _=>by simp,trivial,by simp,by simp⟩
end Go.AM
namespace Go.Proofs.YtdnhplencamncaaGreatDoor
open Go Go.Shelf Go.RowKit Go.Lib
section
variable {P:Program}
theorem kS(w:World)(tS tR e:TypeId)(ht:P.underlying tS=some (.slice e))(size:Nat)(hz:∀w,(Go.sizeOf e).run P w = .ok size w)
  (a b:Addr) (la ca lb cb:Nat) (hne:a.block≠b.block) (tA tB:TypeId) (kA kB:Nat)
  (hsa:w.shape? a.block=some (tA,kA)) (hsb:w.shape? b.block=some (tB,kB)) (hkA:kA≠0) (hkB:kB≠0)
  (hfb:w.frozen? b=false) (hfe:w.frozen? { block:=b.block,off:=kB } = false):
  (Extern.SlicesOverlaps.overlaps #[tS,tS] #[tR] #[.slice (some a) la ca,.slice (some b) lb cb]).run P w = .ok (.bool false) w:=by
 have hnb:(a.block != b.block)=true:=by simpa using hne
 have hnb':(a.block == b.block)=false:=by simpa using hne
 change Sem.run P (α:=Value) (do
  let some t:=(#[tS,tS]:Array TypeId)[0]? | stuck "slices.overlaps: no parameter types"
  let .slice elem ←underlying t | stuck "slices.overlaps: slice type expected"
  let size ←sizeOf elem
  match (some a:Option Addr),(some b:Option Addr) with
  | some a,some b =>
   if la=0∨lb=0∨size=0 then pure (Value.bool false)
   else if a.block != b.block&&(←frozen a)&&(←frozen b) then unsupported .addressObserved
   else do
    if a.block != b.block then do
     noView a;noView b
     if ←mayBeOne a b then return Value.bool ((←choose (.extern "sameAddr.stringBytes" 2))== 1)
    pure (Value.bool (a.block == b.block&&a.off<b.off+lb*size&&b.off<a.off+la*size))
  | _,_=>pure (Value.bool false)) w=_
 by_cases h0:la=0∨lb=0∨size=0
 ·simp[run_underlying ht,hz,h0]
 ·cases kB with
  | zero=>exact absurd rfl hkB
  | succ kB =>
   cases kA with
   | zero=>exact absurd rfl hkA
   | succ kA=>simp[run_underlying ht,hz,h0,hnb,hnb',frozen,noView,viewAt,mayBeOne,stringish,shape,Sem.run,hsa,hsb,hfb,hfe]
theorem insI:(Tryz.prog.info? 53).map (fun i=>(i.zero,i.size,i.bytes))=some (some (.agg #[.int .i64 0,.slice none 0 0]),2,32):=by kernel_rfl
theorem insZ:∀w,(Go.sizeOf 53).run Tryz.prog w = .ok 2 w:=fun w=>AM.run_sizeOf tok T_53 w
theorem insM:Tryz.prog.follows .mixedOrders=true:=by kernel_rfl
theorem wp_copy_runI(w:World){o:Oper}{a:Act}{K:Act→World→Prop}{Q:Exit→Act→World→Prop}(d s:Operand)(t t':TypeId)
  (ho:o.op = .call { callee:=.builtin .copy,args:=#[d,s],argTypes:=#[t,t'] }) (v u:Value) (hd:a.eval d=v) (hs:a.eval s=u) {v':Value} {w':World}
  (hr:(Builtin.copy_ #[t,t'] o.type #[v,u]).run P w = .ok v' w') (h:K (a.put o.dst v') w'):o.wp P a w K Q:=by
 unfold Oper.wp execOp;simp only[ho,resolve,invoke,builtin,Sem.run_bind,Sem.run_pure,Result.andThen_ok,List.map_toArray,oq,pJ,hd,hs,hr];exact h
theorem dN(w:World){ops:Array Oper}{rest:List Oper}{o:Oper}{a:Act}{Q:Exit→Act→World→Prop}(hgd:o.guard=none)(d s:Operand)(t t':TypeId)
  (ho:o.op = .call { callee:=.builtin .copy,args:=#[d,s],argTypes:=#[t,t'] }) (v u:Value) (hd:a.eval d=v) (hs:a.eval s=u) {v':Value} {w':World}
  (hr:(Builtin.copy_ #[t,t'] o.type #[v,u]).run P w = .ok v' w') (h:wpList P ops Q rest (a.put o.dst v') w'):wpList P ops Q (o::rest) a w :=
 wpList_plain hgd fun _ hK=>wp_copy_runI w d s t t' ho v u hd hs hr (hK _ _ h)
theorem gb{ops:Array Oper}{o:Oper}{a:Act}{w:World}{K:Act→World→Prop}{Q:Exit→Act→World→Prop}{E:Prop}
  (hg:o.guard=none) (d x:Operand) (dT sT:TypeId) (hop:o.op=Op.call { callee:=Callee.builtin Builtin.copy,args:=#[d,x],argTypes:=#[dT,sT] })
  (v u:Value) (hd:a.eval d=v) (hx:a.eval x=u) {v':Value} {w':World} (hr:(Builtin.copy_ #[dT,sT] o.type #[v,u]).run P w = .ok v' w') (hK:K (a.put o.dst v') w'):
  if Region.wanted o (yielded ops a.tmps)=true then Oper.wp P o a w K Q else E:=by
 have hw:Region.wanted o (yielded ops a.tmps)=true:=by simp[Region.wanted,hg]
 rw[if_pos hw];unfold Oper.wp;simp[execOp,hop,resolve,invoke,builtin,hd,hx,hr,Result.andThen];exact hK
theorem gR(b:Nat)(vs:List Value)(o:Nat)(w:World)(h:∀j,j<vs.length→(w.cell? ⟨b,o+j,none⟩).isSome=true)(k:Nat)(hk:(w.cell? ⟨b,k,none⟩).isSome=true):((w.setCells b o vs).cell? ⟨b,k,none⟩).isSome=true:=by
 by_cases hin:o≤k∧k<o+vs.length
 ·have:=World.cell?_setCells_in b vs o w h (k-o) (by omega);rw[show o+(k-o)=k by omega]at this;rw[this];rfl
 ·rw[World.cell?_setCells_out b vs o w ⟨b,k,none⟩ (fun _ _=>by show k<o∨o+vs.length≤k;omega)];exact hk
theorem cW(w:World)(dT sT ty elem:TypeId)(b o dLen dCap:Nat)(a:Addr)(sLen sCap n:Nat)(cs:List Value)
  (hu:P.underlying dT=some (.slice elem)) (hs:(P.info? elem).map (·.size)=some 2) (hn:Nat.min sLen dLen=n) (hl2:cs.length=n*2)
  (hsrc:∀j v,cs[j]?=some v→w.cell? (a.add j)=some v) (hc:∀j,j<cs.length→(w.cell? ⟨b,o+j,none⟩).isSome=true) (hf:∀j,j<cs.length→w.frozen? ⟨b,o+j,none⟩=false) (h1:∀v∈cs,v.oneCell'=true):
  (Builtin.copy_ #[dT,sT] ty #[.slice (some ⟨b,o,none⟩) dLen dCap,.slice (some a) sLen sCap]).run P w = .ok (goInt n) (w.setCells b o cs):=by
 have hl:=run_loadCells_list (P:=P) w a cs hsrc;have hst:=run_storeCells_cells (P:=P) b o cs 0 w (by simpa using hc) (by simpa using hf) h1;rw[hl2]at hl
 cases hq:P.info? elem with
 | none=>simp[hq]at hs
 | some i =>
  have hi:i.size=2:=by simpa[hq] using hs
  simp[Builtin.copy_,run_underlying hu,Builtin.lenOf,Builtin.firstCells,sizeOf,typeInfo,hq,hi,hn,hl,hst]
theorem ins_shift(b off n c i vb voff m vc:Nat)(cs vs:List Value)(w:World)(hi:i<n)(hm:0<m)(hroom:n+m≤c)(hc63:c≤9223372036854775807)(hvb:vb≠b)
  (hcl:cs.length=n*2) (hvl:vs.length=m*2)
  (hcs:∀j v,cs[j]?=some v→w.cell? ⟨b,off+j,none⟩=some v) (hsp:∀j,j<(n+m)*2→(w.cell? ⟨b,off+j,none⟩).isSome=true) (hfz:∀j,j<(n+m)*2→w.frozen? ⟨b,off+j,none⟩=false)
  (hvs:∀j v,vs[j]?=some v→w.cell? ⟨vb,voff+j,none⟩=some v) (h1c:∀v∈cs,v.oneCell'=true) (h1v:∀v∈vs,v.oneCell'=true)
  (tA tB:TypeId) (kA kB:Nat) (hsa:w.shape? vb=some (tA,kA)) (hsb:w.shape? b=some (tB,kB)) (hkB:kB≠0) (hkA:kA≠0) (hfe:w.frozen? ⟨b,kB,none⟩=false):
  Calls Tryz.prog 202 #[.slice (some ⟨b,off,none⟩) n c,.int .i64 i,.slice (some ⟨vb,voff,none⟩) m vc] w fun e w' =>
   e = .returned (.slice (some ⟨b,off,none⟩) (n+m) c)∧w'=(w.drew.setCells b (off+(i+m)*2) (cs.drop (i*2))).setCells b (off+i*2) vs:=by
 have hz1:¬((m:Int)=0):=by omega
 have hz2:¬((i:Int)=(n:Int)):=by omega
 have hsz:(Tryz.prog.info? 53).map (·.size)=some 2:=by
  obtain⟨i0,hi0,h0,h1,h2⟩:=info_parts insI;rw[hi0];simp[h1]
 have hov:∀lb cb,(callFunc 247 #[.slice (some ⟨vb,voff,none⟩) m vc,.slice (some ⟨b,off+(i+m)*2,none⟩) lb cb]).run Tryz.prog w = .ok (.value (.bool false)) w:=fun lb cb=>by
  rw[run_callFunc_extern Tryz.func247 (by kernel_rfl) (by kernel_rfl) (by kernel_rfl) (e:=Extern.SlicesOverlaps.overlaps #[30,30] #[4]) (by kernel_rfl),
   kS w 30 4 53 Tryz.underlying30 2 insZ ⟨vb,voff,none⟩ ⟨b,off+(i+m)*2,none⟩ m vc lb cb hvb tA tB kA kB hsa hsb hkA hkB (hfz ((i+m)*2) (by omega)) hfe]
  rfl
 have hdl:(cs.drop (i*2)).length=(n-i)*2:=by rw[pk,hcl];omega
 have mixed:=insM
 have hw1:IntKind.i64.wrap ((i:Int)+(m:Int))=(i:Int)+(m:Int):=by rw[IntKind.wrap_i64];omega
 have hb1:(0:Int)≤(i:Int)+(m:Int):=by omega
 have hin:i≤n:=by omega
 have htn:((i:Int)+(m:Int)).toNat=i+m:=by omega
 have hb2:¬(c=i+m):=by omega
 have hb3:(i:Int)≤(n:Int)+(m:Int):=by omega
 have hb4:¬(c=i):=by omega
 have hcp1:∀ty dc sc,(Builtin.copy_ #[30,30] ty #[.slice (some ⟨b,off+(i+m)*2,none⟩) (n+m-(i+m)) dc,.slice (some ⟨b,off+i*2,none⟩) (n+m-i) sc]).run Tryz.prog w.drew = .ok (goInt (n-i:Nat)) (w.drew.setCells b (off+(i+m)*2) (cs.drop (i*2))):=fun ty dc sc =>
  cW w.drew _ _ ty 53 b (off+(i+m)*2) (n+m-(i+m)) dc ⟨b,off+i*2,none⟩ (n+m-i) sc (n-i) (cs.drop (i*2)) Tryz.underlying30 hsz (by simp only[Nat.min_def];split<;>omega) hdl
   (fun j v hj=>by rw[Addr.add_lit,pm];exact hcs (i*2+j) v (by rwa [pP]at hj))
   (fun j hj=>by rw[pm];exact hsp _ (by omega)) (fun j hj=>by rw[pm];exact hfz _ (by omega)) (fun v hv=>h1c v (pq hv))
 obtain⟨W1,hW1⟩:∃W1,W1=w.drew.setCells b (off+(i+m)*2) (cs.drop (i*2)):=⟨_,rfl⟩
 have hsp1:∀k,k<(n+m)*2→(W1.cell? ⟨b,off+k,none⟩).isSome=true:=fun k hk=>by
  rw[hW1];exact gR b _ _ _ (fun j hj=>by rw[pm];exact hsp _ (by omega)) _ (hsp k hk)
 have hcp2:∀(W:World),(∀x,W.cell? x=W1.cell? x)→(∀x,W.frozen? x=W1.frozen? x)→∀ty dc,(Builtin.copy_ #[30,30] ty #[.slice (some ⟨b,off+i*2,none⟩) (n+m-i) dc,.slice (some ⟨vb,voff,none⟩) m vc]).run Tryz.prog W = .ok (goInt m) (W.setCells b (off+i*2) vs):=fun W hWc hWf ty dc =>
  cW W _ _ ty 53 b (off+i*2) (n+m-i) dc ⟨vb,voff,none⟩ m vc m vs Tryz.underlying30 hsz (by simp only[Nat.min_def];split<;>omega) hvl
   (fun j v hj=>by
    rw[Addr.add_lit,hWc,hW1,World.cell?_setCells_out b _ _ _ _ (fun h _=>absurd h hvb)]
    exact hvs j v hj)
   (fun j hj=>by rw[hWc,pm];exact hsp1 _ (by omega)) (fun j hj=>by rw[hWf,hW1,World.frozen?_setCells,pm];exact hfz _ (by omega)) h1v
 rw[←hW1]at hcp1
 go_enter Tryz.func202,Tryz.ntmps202
 go_wp2_with (simp only[hov])
 go_region_law_o (refine gb rfl _ _ 30 30 rfl _ _ (by simp[Act.eval,Act.put]) (by simp[Act.eval,Act.put]) (hcp1 _ _ _) ?_)
 go_wp2_with (at_builtin;refine dN _ rfl _ _ 30 30 rfl _ _ rfl rfl (hcp2 _ (fun _=>rfl) (fun _=>rfl) _ _) ?_)
 go_ret
 first | exact⟨rfl,rfl⟩ | exact⟨rfl,by rw[hW1]⟩
theorem ins_end_room(b off n c vb voff m vc:Nat)(vs:List Value)(w:World)(hm:0<m)(hroom:n+m≤c)(hc63:c≤9223372036854775807)
  (hvl:vs.length=m*2) (hsp:∀j,j<m*2→(w.cell? ⟨b,off+n*2+j,none⟩).isSome=true) (hfz:∀j,j<m*2→w.frozen? ⟨b,off+n*2+j,none⟩=false)
  (hvs:∀j v,vs[j]?=some v→w.cell? ⟨vb,voff+j,none⟩=some v) (h1v:∀v∈vs,v.oneCell'=true):
  Calls Tryz.prog 202 #[.slice (some ⟨b,off,none⟩) n c,.int .i64 n,.slice (some ⟨vb,voff,none⟩) m vc] w fun e w' =>
   e = .returned (.slice (some ⟨b,off,none⟩) (n+m) c)∧w'=w.setCells b (off+n*2) vs:=by
 have mixed:=insM;obtain⟨i0,hi0,hz0,hzs,hzb⟩:=info_parts insI
 have hz1:¬((m:Int)=0):=by omega
 have hsrc:Src Tryz.prog i0.size 30 (.slice (some ⟨vb,voff,none⟩) m vc) m vs w:=by
  rw[hzs];exact Src.ofSlice w Tryz.underlying30 ⟨vb,voff,none⟩ m vc vs (by omega) (fun j u hj=>by rw[Addr.add_lit];exact hvs j u hj) h1v
 have hrun:∀ty,(Builtin.append_ #[30,30] ty #[.slice (some ⟨b,off,none⟩) n c,.slice (some ⟨vb,voff,none⟩) m vc]).run Tryz.prog w = .ok (.slice (some ⟨b,off,none⟩) (n+m) c) (w.setCells b (off+n*2) vs):=fun ty=>by
  have h:=run_append_room_src (P:=Tryz.prog) (w:=w) 30 30 ty 53 i0 Tryz.underlying30 hi0 b off n c _ m vs hsrc hroom (by rw[hzs,hvl];exact hsp) (by rw[hzs,hvl];exact hfz);rw[hzs]at h;exact h
 go_enter Tryz.func202,Tryz.ntmps202
 go_wp2_with (at_builtin;refine Lib.wpList_append_run _ rfl _ _ _ _ rfl _ _ rfl rfl _ _ (hrun _) ?_)
 go_ret
 exact⟨rfl,rfl⟩
theorem jk(base:Option Addr)(n c vb voff m vc:Nat)(cs vs:List Value)(w:World)(hm:0<m)(hnc:n≤c)(hroom:c<n+m)(hbig:(n+m)*32≤140737488355328)
  (hcl:cs.length=n*2) (hvl:vs.length=m*2) (hnil:base=none→n=0)
  (hcs:∀a,base=some a→∀j v,cs[j]?=some v→w.cell? (a.add j)=some v)
  (hvs:∀j v,vs[j]?=some v→w.cell? ⟨vb,voff+j,none⟩=some v) (h1v:∀v∈vs,v.oneCell'=true):
  Calls Tryz.prog 202 #[.slice base n c,.int .i64 n,.slice (some ⟨vb,voff,none⟩) m vc] w fun e w' =>
   e = .returned (.slice (some ⟨w.heap.size,0,none⟩) (n+m) (grownCap w (n+m) c 53))∧
   w'=w.drew.alloc (.cells ((cs++vs).toArray++Builtin.zeroCells (Value.agg #[.int .i64 0,.slice none 0 0]).cells (grownCap w (n+m) c 53-(n+m))) 53):=by
 have mixed:=insM;obtain⟨i0,hi0,hz0,hzs,hzb⟩:=info_parts insI
 have hz1:¬((m:Int)=0):=by omega
 have hsrc:Src Tryz.prog i0.size 30 (.slice (some ⟨vb,voff,none⟩) m vc) m vs w:=by
  rw[hzs];exact Src.ofSlice w Tryz.underlying30 ⟨vb,voff,none⟩ m vc vs (by omega) (fun j u hj=>by rw[Addr.add_lit];exact hvs j u hj) h1v
 have hold:(Builtin.firstCells i0.size n (.slice base n c)).run Tryz.prog w.drew = .ok cs.toArray w.drew:=by
  rw[hzs]
  cases base with
  | none =>
   have h0:=hnil rfl;subst h0;have hc0:cs=[]:=List.length_eq_zero_iff.1 (by simpa using hcl);rw[hc0];exact run_firstCells_none w.drew 2 0 0 c
  | some a=>exact run_firstCells_some w.drew 2 n a n c cs (by omega) (fun j v hj=>hcs a rfl j v hj)
 have hrun:∀ty,(Builtin.append_ #[30,30] ty #[.slice base n c,.slice (some ⟨vb,voff,none⟩) m vc]).run Tryz.prog w=_:=fun ty =>
  run_append_grow_src w 30 30 ty 53 i0 _ Tryz.underlying30 hi0 hz0 base n c cs hold _ m vs hsrc hroom (by omega) (by rw[hzb];exact growslice_fits hroom hbig)
 go_enter Tryz.func202,Tryz.ntmps202
 cases base with
 | none =>
  have h0:=hnil rfl;subst h0
  go_wp2_with (at_builtin;refine Lib.wpList_append_run _ rfl _ _ _ _ rfl _ _ rfl rfl _ _ (hrun _) ?_)
  go_ret
  exact⟨rfl,rfl⟩
 | some a =>
  obtain⟨ab,ao,asp⟩:=a
  go_wp2_with (at_builtin;refine Lib.wpList_append_run _ rfl _ _ _ _ rfl _ _ rfl rfl _ _ (hrun _) ?_)
  all_goals (go_ret;exact⟨rfl,rfl⟩)
theorem ins_grow(b off n c i vb voff m vc:Nat)(cs vs:List Value)(w:World)(hi:i<n)(hm:0<m)(hnc:n≤c)(hroom:c<n+m)(hbig:(n+m)*32≤140737488355328)
  (hcl:cs.length=n*2) (hvl:vs.length=m*2)
  (hcs:∀j v,cs[j]?=some v→w.cell? ⟨b,off+j,none⟩=some v)
  (hvs:∀j v,vs[j]?=some v→w.cell? ⟨vb,voff+j,none⟩=some v) (h1c:∀v∈cs,v.oneCell'=true) (h1v:∀v∈vs,v.oneCell'=true):
  Calls Tryz.prog 202 #[.slice (some ⟨b,off,none⟩) n c,.int .i64 i,.slice (some ⟨vb,voff,none⟩) m vc] w fun e w' =>
   e = .returned (.slice (some ⟨w.heap.size,0,none⟩) (n+m) (grownCap w (n+m) c 53))∧
   w'=(((w.alloc (.cells ((cs.take (i*2)).toArray++Builtin.zeroCells (Value.agg #[.int .i64 0,.slice none 0 0]).cells (n+m-i)++Builtin.zeroCells (Value.agg #[.int .i64 0,.slice none 0 0]).cells (grownCap w (n+m) c 53-(n+m))) 53)).drew.setCells w.heap.size (i*2) vs).drew).setCells w.heap.size ((i+m)*2) (cs.drop (i*2)):=by
 have mixed:=insM;obtain⟨i0,hi0,hz0,hzs,hzb⟩:=info_parts insI
 have hz1:¬((m:Int)=0):=by omega
 have hz2:¬((i:Int)=(n:Int)):=by omega
 have hz3:(c:Int)<(n:Int)+(m:Int):=by omega
 have hsz:(Tryz.prog.info? 53).map (·.size)=some 2:=by rw[hi0];simp[hzs]
 have hbw:b<w.heap.size:=block_lt_of_cell (hcs 0 _ (oG (by omega)));have hvw:vb<w.heap.size:=block_lt_of_cell (hvs 0 _ (oG (by omega)))
 have hkk:(n:Int)+(m:Int)-(i:Int)=((n+m-i:Nat):Int):=by omega
 have hik:i+(n+m-i)=n+m:=by omega
 have hold:(Builtin.firstCells i0.size i (.slice (some ⟨b,off,none⟩) i c)).run Tryz.prog w.drew = .ok (cs.take (i*2)).toArray w.drew:=by
  rw[hzs]
  exact run_firstCells_some w.drew 2 i ⟨b,off,none⟩ i c (cs.take (i*2)) (by rw[ot];omega) (fun j v hj=>by
   rw[Addr.add_lit];rw[pD]at hj;split at hj
   ·exact hcs j v hj
   ·cases hj)
 have hrz:∀ty,(Builtin.append_ #[30,3] ty #[.slice (some ⟨b,off,none⟩) i c,.int .i64 ((n:Int)+(m:Int)-(i:Int))]).run Tryz.prog w =
   .ok (.slice (some ⟨w.heap.size,0,none⟩) (n+m) (grownCap w (n+m) c 53)) (w.drew.alloc (.cells ((cs.take (i*2)).toArray++Builtin.zeroCells (Value.agg #[.int .i64 0,.slice none 0 0]).cells (n+m-i)++Builtin.zeroCells (Value.agg #[.int .i64 0,.slice none 0 0]).cells (grownCap w (n+m) c 53-(n+m))) 53)):=fun ty=>by
  have h:=Lib.run_append_grow_zeros w 30 3 ty 53 i0 _ .i64 .i64 Tryz.underlying30 Tryz.underlying3 hi0 hz0 (some ⟨b,off,none⟩) i c (cs.take (i*2)) hold (n+m-i) (by omega) (by omega) (by omega) (by omega) (by rw[hzb];omega) (by rw[hzb,hik];exact growslice_fits hroom hbig);rw[hik]at h;rw[hkk];exact h
 obtain⟨G,hG⟩:∃G,G=grownCap w (n+m) c 53:=⟨_,rfl⟩;obtain⟨ROW,hROW⟩:∃ROW:Array Value,ROW=(cs.take (i*2)).toArray++Builtin.zeroCells (Value.agg #[.int .i64 0,.slice none 0 0]).cells (n+m-i)++Builtin.zeroCells (Value.agg #[.int .i64 0,.slice none 0 0]).cells (G-(n+m)):=⟨_,rfl⟩;rw[←hG]at hrz ⊢;rw[←hROW]at hrz ⊢
 have hRl:(n+m)*2≤ROW.size:=by
  rw[hROW];simp[Builtin.zeroCells,Value.cells];omega
 obtain⟨W1,hW1⟩:∃W1,W1=w.drew.alloc (.cells ROW 53):=⟨_,rfl⟩;rw[←hW1]at hrz
 have hN:∀j,j<(n+m)*2→(W1.cell? ⟨w.heap.size,j,none⟩).isSome=true:=fun j hj=>by
  rw[hW1,World.cell?_alloc_at (w:=w.drew) ROW _ w.heap.size j rfl,pn (by omega)];rfl
 have hNf:∀j,W1.frozen? ⟨w.heap.size,j,none⟩=false:=fun j=>by rw[hW1];exact World.frozen?_alloc_at (w:=w.drew) ROW _ w.heap.size j rfl
 have hOb:∀j v,w.cell? ⟨b,j,none⟩=some v→W1.cell? ⟨b,j,none⟩=some v:=fun j v h=>by rw[hW1,World.cell?_alloc_past (w:=w.drew) _ b j hbw];exact h
 have hOv:∀j v,w.cell? ⟨vb,j,none⟩=some v→W1.cell? ⟨vb,j,none⟩=some v:=fun j v h=>by rw[hW1,World.cell?_alloc_past (w:=w.drew) _ vb j hvw];exact h
 have hcpA:∀(W:World),(∀x,W.cell? x=W1.cell? x)→(∀x,W.frozen? x=W1.frozen? x)→∀ty dc,(Builtin.copy_ #[30,30] ty #[.slice (some ⟨w.heap.size,i*2,none⟩) (n+m-i) dc,.slice (some ⟨vb,voff,none⟩) m vc]).run Tryz.prog W = .ok (goInt m) (W.setCells w.heap.size (i*2) vs):=fun W hWc hWf ty dc =>
  cW W _ _ ty 53 w.heap.size (i*2) (n+m-i) dc ⟨vb,voff,none⟩ m vc m vs Tryz.underlying30 hsz (by simp only[Nat.min_def];split<;>omega) hvl
   (fun j v hj=>by rw[Addr.add_lit,hWc];exact hOv _ v (hvs j v hj))
   (fun j hj=>by rw[hWc];exact hN _ (by omega)) (fun j hj=>by rw[hWf];exact hNf _) h1v
 have hGn:n+m≤G:=by rw[hG];exact grownCap_ge w _ _ _
 have hG63:G≤9223372036854775807:=by
  have:=grownCap_le_maxLen w (n+m) c 53 (by unfold maxLen;omega);rw[←hG]at this;unfold maxLen at this;omega
 have hGi:¬(G=i):=by omega
 have hGim:¬(G=i+m):=by omega
 have hci:¬(c=i):=by omega
 have hbN:b≠w.heap.size:=by omega
 have hdl:(cs.drop (i*2)).length=(n-i)*2:=by rw[pk,hcl];omega
 have hcpB:∀(W:World),(∀x,W.cell? x=(W1.setCells w.heap.size (i*2) vs).cell? x)→(∀x,W.frozen? x=(W1.setCells w.heap.size (i*2) vs).frozen? x)→∀ty dc sc,(Builtin.copy_ #[30,30] ty #[.slice (some ⟨w.heap.size,(i+m)*2,none⟩) (n+m-(i+m)) dc,.slice (some ⟨b,off+i*2,none⟩) (n-i) sc]).run Tryz.prog W = .ok (goInt (n-i:Nat)) (W.setCells w.heap.size ((i+m)*2) (cs.drop (i*2))):=fun W hWc hWf ty dc sc =>
  cW W _ _ ty 53 w.heap.size ((i+m)*2) (n+m-(i+m)) dc ⟨b,off+i*2,none⟩ (n-i) sc (n-i) (cs.drop (i*2)) Tryz.underlying30 hsz (by simp only[Nat.min_def];split<;>omega) hdl
   (fun j v hj=>by
    rw[Addr.add_lit,hWc,World.cell?_setCells_out _ _ _ _ _ (fun h _=>absurd h hbN),pm]
    exact hOb _ v (hcs (i*2+j) v (by rwa [pP]at hj)))
   (fun j hj=>by rw[hWc];exact gR _ _ _ _ (fun t ht=>hN _ (by omega)) _ (hN _ (by omega)))
   (fun j hj=>by rw[hWf,World.frozen?_setCells];exact hNf _) (fun v hv=>h1c v (pq hv))
 subst hW1
 have hE1:∀x,((w.alloc (.cells ROW 53)).drew).cell? x=(w.drew.alloc (.cells ROW 53)).cell? x:=fun x=>rfl
 have hE2:∀x,((w.alloc (.cells ROW 53)).drew).frozen? x=(w.drew.alloc (.cells ROW 53)).frozen? x:=fun x=>rfl
 have hF1:∀x,(((w.alloc (.cells ROW 53)).drew.setCells w.heap.size (i*2) vs).drew).cell? x=((w.drew.alloc (.cells ROW 53)).setCells w.heap.size (i*2) vs).cell? x:=fun x=>rfl
 have hF2:∀x,(((w.alloc (.cells ROW 53)).drew.setCells w.heap.size (i*2) vs).drew).frozen? x=((w.drew.alloc (.cells ROW 53)).setCells w.heap.size (i*2) vs).frozen? x:=fun x=>rfl
 have hw1:IntKind.i64.wrap ((i:Int)+(m:Int))=(i:Int)+(m:Int):=by rw[IntKind.wrap_i64];omega
 have hb1:(0:Int)≤(i:Int)+(m:Int):=by omega
 have hin:i≤n:=by omega
 have htn:((i:Int)+(m:Int)).toNat=i+m:=by omega
 have hb3:(i:Int)≤(n:Int):=by omega
 clear hkk hik hold hROW hG hRl
 go_enter Tryz.func202,Tryz.ntmps202
 go_wp2_with (first
  | (at_builtin;refine Lib.wpList_append_run _ rfl _ _ _ _ rfl _ _ rfl rfl _ _ (hrz _) ?_)
  | (at_builtin;refine dN _ rfl _ _ 30 30 rfl _ _ rfl rfl (hcpA _ hE1 hE2 _ _) ?_)
  | (at_builtin;refine dN _ rfl _ _ 30 30 rfl _ _ rfl rfl (hcpB _ (fun _=>rfl) (fun _=>rfl) _ _ _) ?_))
 go_region_law_o (refine gb rfl _ _ 30 30 rfl (.slice (some ⟨w.heap.size,(i+m)*2,none⟩) (n+m-(i+m)) (G-(i+m))) (.slice (some ⟨b,off+i*2,none⟩) (n-i) (c-i)) (by simp[Act.eval,Act.put]) (by simp[Act.eval,Act.put]) (hcpB _ hF1 hF2 3 (G-(i+m)) (c-i)) ?_)
 go_wp2
 go_ret
 exact⟨rfl,rfl⟩
end
end Go.Proofs.YtdnhplencamncaaGreatDoor
end
namespace Go.Proofs.YtdnhplencamncaaGreatDoor
section
open Go Go.AM Go.RowKit Go.Lib
theorem kp{w:World}{b e:Nat}{vs:Array Value}{z:Nat×Nat}(h:w.heap[b]?=some (.cells vs e z))(j:Nat):w.cell? ⟨b,j,none⟩=vs[j]?:=by
 simp[World.cell?,h]
theorem mid_takeR{α:Type}(vs cs us:List α)(i n:Nat)(hu:us.length=2)(hi:i≤n)(hn:(n+1)*2≤vs.length)(hc:cs=vs.take (n*2)):
  (((vs.take ((i+1)*2)++cs.drop (i*2)++vs.drop ((i+1)*2+(cs.drop (i*2)).length)).take (i*2)++us++(vs.take ((i+1)*2)++cs.drop (i*2)++vs.drop ((i+1)*2+(cs.drop (i*2)).length)).drop (i*2+us.length)))=cs.take (i*2)++us++cs.drop (i*2)++vs.drop ((n+1)*2):=by
 have h2:(cs.drop (i*2)).length=(n-i)*2:=by rw[hc,pk,ot];omega
 have h4:(vs.take (i*2)).length=i*2:=by rw[ot];omega
 have h5:cs.take (i*2)=vs.take (i*2):=by rw[hc,List.take_take,qE (by omega)]
 have h3:vs.take ((i+1)*2)=vs.take (i*2)++(vs.drop (i*2)).take 2:=by
  rw[show(i+1)*2=i*2+2 by omega,List.take_add]
 have h6:((vs.drop (i*2)).take 2).length=2:=by rw[ot,pk];omega
 rw[h2,show(i+1)*2+(n-i)*2=(n+1)*2 by omega,h3,h5,hu];generalize vs.take (i*2)=P at h4;generalize (vs.drop (i*2)).take 2=X at h6;generalize vs.drop ((n+1)*2)=D;generalize cs.drop (i*2)=C;rw[←h4]
 have e1:(P++X++C++D).take P.length=P:=by simp[oh]
 have e2:(P++X++C++D).drop (P.length+2)=C++D:=by
  rw[←h6,←oT];simp[oh]
 rw[e1,e2];simp[oh]
theorem insR_con(H:List B)(k:Nat)(xs:List V)(i:Nat)(f:Bool)(v:V)(hk:H[k]?=some (.buf 53 2 xs false))(hi:i≤xs.length)(hn:xs.length≤1000000):
  aU Tryz.prog 202 [.buf k 0 xs.length xs.length,.int .i64 i,.lst 2 f [v]] H fun r H'=>r = .buf k 0 (xs.length+1) (xs.length+1)∧H'=H.set k (.buf 53 2 (xs.take i++v::xs.drop i) false):=by
 refine⟨⟨Tryz.f202,Tryz.func202,rfl,rfl⟩,fun s vals hA hg hsz hrel=>?_⟩;obtain⟨rfl,hZ⟩:=hA
 obtain⟨u0,u1,u2,rfl⟩:∃u0 u1 u2,vals = #[u0,u1,u2]:=by
  obtain⟨l⟩:=vals
  match l,hsz with
  | [a,b,c],_=>exact⟨a,b,c,rfl⟩
 have r0:=hrel 0 _ u0 rfl rfl;have r1:=hrel 1 _ u1 rfl rfl;have r2:=hrel 2 _ u2 rfl rfl;cases r1
 cases r0 with
 | buf _ _ _ _ e z xs2 fz A l c hk2 ht hh =>
 rw[hk]at hk2;cases hk2;obtain⟨hA,rfl,hcap,_⟩:=hh rfl
 cases r2 with
 | lst _ _ _ A2 cap2 vb voff uf hcap2 hfull2 hA2 hz2 hcell2 hrel2 =>
 obtain⟨rfl,hP⟩:=hA2 (by simp);obtain⟨hv1,hvo⟩:=hz2 v (by simp)
 obtain⟨d0,d1,hd⟩:∃d0 d1,v.cells=[d0,d1]:=by
  generalize v.cells=l at hv1
  match l,hv1 with
  | [a,b],_=>exact⟨a,b,rfl⟩
 obtain⟨uv,huv⟩:∃uv:List Value,uv=[uf 0 0,uf 0 1]:=⟨_,rfl⟩
 have huvl:uv.length=2:=by rw[huv];rfl
 have hcv:∀(j:Nat) u,uv[j]?=some u→s.w.cell? ⟨vb,voff+j,none⟩=some u:=fun j u hj=>by
  rw[huv]at hj
  match j with
  | 0 =>
   have:=hcell2 0 v 0 d0 rfl (by rw[hd];rfl);simp at hj;subst hj;simpa using this
  | 1 =>
   have:=hcell2 0 v 1 d1 rfl (by rw[hd];rfl);simp at hj;subst hj;simpa using this
  | j+2=>simp at hj
 have hrv:∀(t:Nat) dd u,v.cells[t]?=some dd→uv[t]?=some u→Rel s dd u:=fun t dd u h1 h2=>by
  rw[hd]at h1;rw[huv]at h2
  match t with
  | 0 =>
   simp at h1 h2;subst h1;subst h2;exact hrel2 0 v 0 d0 rfl (by rw[hd];rfl)
  | 1 =>
   simp at h1 h2;subst h1;subst h2;exact hrel2 0 v 1 d1 rfl (by rw[hd];rfl)
  | t+2=>simp at h2
 clear huv;obtain⟨vs,g2,g3,g4,g5,g6,g7⟩:=hg.blk k _ hk;rw[pI]at hcap
 have hcap':c=s.κ k:=by omega
 obtain⟨n,hnl⟩:∃n,n=xs.length:=⟨_,rfl⟩;obtain⟨cs,hcs⟩:∃cs,cs=vs.toList.take (n*2):=⟨_,rfl⟩
 have hcl:cs.length=n*2:=by rw[hcs,ot,ph];omega
 have hcsat:∀(j:Nat) u,cs[j]?=some u→j<n*2∧vs[j]?=some u:=fun j u hj=>by
  rw[hcs,pD]at hj;split at hj
  ·rename_i hjn;exact⟨hjn,by simpa using hj⟩
  ·cases hj
 have hrelc:∀(j:Nat) x (t:Nat) dd u,xs[j]?=some x→x.cells[t]?=some dd→cs[j*2+t]?=some u→Rel s dd u:=fun j x t dd u hx hdd hu=>g7 j x t dd u hx hdd (hcsat _ u hu).2
 have onev:∀u∈uv,u.oneCell'=true:=fun u hu=>by
  obtain⟨j,hj⟩:=List.mem_iff_getElem?.1 hu;have hjl:=aB hj
  have hvl:j<v.cells.length:=by omega
  exact(hrv j _ u (oG hvl) hj).oneCell (hvo _ (oI hvl))
 have onec:∀u∈cs,u.oneCell'=true:=fun u hu=>by
  obtain⟨j,hj⟩:=List.mem_iff_getElem?.1 hu;have hjn:=(hcsat j u hj).1;have hx:xs[j / 2]?=some (xs[j / 2]'(by omega)):=oG (by omega);obtain⟨hxl,hxo⟩:=g6 _ (oH hx)
  have htl:j % 2<(xs[j / 2]'(by omega)).cells.length:=by omega
  have hdd:(xs[j / 2]'(by omega)).cells[j % 2]?=some _:=oG htl;exact(hrelc (j / 2) _ (j % 2) _ u hx hdd (by rw[show j / 2*2+j % 2=j by omega];exact hj)).oneCell (hxo _ (oI htl))
 have hyl:(xs.take i++v::xs.drop i).length=n+1:=by simp;omega
 have hyel:∀y∈xs.take i++v::xs.drop i,y.cells.length=2∧∀d∈y.cells,d.one=true:=fun y hy=>by
  simp only[qB,oR]at hy
  rcases hy with h | rfl | h
  ·exact g6 y (pQ h)
  ·exact⟨hv1,hvo⟩
  ·exact g6 y (pq h)
 have hyrel:∀(j:Nat) y (t:Nat) dd u,(xs.take i++v::xs.drop i)[j]?=some y→y.cells[t]?=some dd→(cs.take (i*2)++uv++cs.drop (i*2))[j*2+t]?=some u→Rel s dd u:=fun j y t dd u hy hdd hu=>by
  have l1:(xs.take i).length=i:=by simp;omega
  have l2:(cs.take (i*2)).length=i*2:=by simp;omega
  have ht2:t<2:=by have:=aB hdd;rw[(hyel y (oH hy)).1]at this;exact this
  rw[oh]at hu
  rcases rQ j i with h | h | h
  ·rw[oL (by omega),pD,if_pos h]at hy;rw[oL (by omega),pD,if_pos (by omega)]at hu;exact hrelc j y t dd u hy hdd hu
  ·subst h;rw[oS (by omega),l1,px]at hy;rw[oS (by omega),l2,show j*2+t-j*2=t by omega,oL (by omega)]at hu;simp at hy;subst hy;exact hrv t dd u hdd hu
  ·obtain⟨m,rfl⟩:∃m,j=i+(m+1):=⟨j-i-1,by omega⟩;rw[oS (by omega),l1,Nat.add_sub_cancel_left,pL,pP]at hy;rw[oS (by omega),l2,oS (by omega),huvl,pP]at hu;exact hrelc (i+m) y t dd u hy hdd (by rw[←hu];congr 1;omega)
 have fin:∀(e:Ending) (w':World) (g c':Nat) (us:Array Value),e = .returned (.slice (some ⟨g,0,none⟩) (n+1) c')→w'.os=s.w.os→w'.tape=s.w.tape→w'.output=s.w.output→s.w.heap.size≤w'.heap.size →
   (∀b,b<s.w.heap.size→(s.κ k≠0→b≠s.φ k)→w'.heap[b]?=s.w.heap[b]?)→((g=s.φ k∧s.κ k≠0)∨s.w.heap.size≤g)→w'.heap[g]?=some (.cells us 53 (0,0))→us.size=c'*2→n+1≤c'→c'≤maxLen→(∀j,j<(n+1)*2→us[j]?=(cs.take (i*2)++uv++cs.drop (i*2))[j]?)→
   ∃(u:Value) (s':AM.St) (r:V),e = .returned u∧s'.w=w'∧AM.Good s'∧AM.Step s s'∧Rel s' r u∧r = .buf k 0 (xs.length+1) (xs.length+1)∧s'.H=s.H.set k (.buf 53 2 (xs.take i++v::xs.drop i) false):=fun e w' g c' us he h1 h2 h3 h4 h5 h6 h7 h8 h9 h10 h11=>by
  obtain⟨k1,k2,k3⟩:=regrowZ (c:=c') hg hk (by rw[hyl];omega) h1 h2 h3 h4 h5 h6 h7 h8 (by rw[hyl];exact h9) h10 hyel (fun j y t dd u hy hdd hu=>hyrel j y t dd u hy hdd (by
   rw[←h11 _ (by
    have a1:=aB hy;have a2:=aB hdd;rw[(hyel y (oH hy)).1]at a2
    omega)]
   exact hu))
  rw[hyl]at k3;refine⟨_,_,.buf k 0 (n+1) (n+1),he,rfl,k1,k2,k3,by rw[hnl],rfl⟩
 have hmx:s.κ k≤maxLen:=g5;by_cases hκ:s.κ k=0
 ·have hn0:n=0:=by omega
  have hi0:i=0:=by omega
  have hc00:c=0:=by omega
  have hcs0:cs=[]:=pX (by omega);subst hi0
  have harg0:Value.slice A xs.length c=Value.slice A 0 0:=by rw[←hnl,hn0,hc00]
  rw[harg0];rw[hn0,hcs0]at fin
  refine(jk A 0 0 vb voff 1 cap2 [] uv s.w (by omega) (by omega) (by omega) (by omega) rfl huvl (fun _=>rfl) (fun a ha j u hj=>by simp at hj) hcv onev).mono fun e w' hew=>?_
  obtain⟨h1,h2⟩:=hew;subst h2;have hgc:=grownCap_ge s.w (0+1) 0 53;refine fin _ (s.w.drew.alloc _) s.w.heap.size _ _ h1 rfl rfl rfl (by simp) (fun b hb hne=>AM.alloc_old s.w.drew _ b hb) (.inr (oJ _)) (AM.alloc_new s.w.drew _) ?_ hgc (grownCap_le_maxLen s.w _ _ _ (by unfold maxLen;omega)) (fun j hj=>?_)
  ·have hgc':1≤grownCap s.w 1 0 53:=hgc;simp[Builtin.zeroCells,Value.cells,huvl];omega
  ·rw[pd,if_pos (by simp;omega)];simp
 have hA:=hA hκ;subst hA;have g2:=g2 hκ
 have hvb:vb≠s.φ k:=fun e=>by
  obtain⟨_,_,_,h⟩:=hP.2.2 k (lvB hk hκ) e.symm;rw[hk]at h;cases h
 have harg:(Value.slice (some { block:=s.φ k,off:=0*2 }) xs.length c)=Value.slice (some ⟨s.φ k,0,none⟩) n c:=by rw[hnl,pz]
 rw[harg]
 have hc0:∀j u,cs[j]?=some u→s.w.cell? ⟨s.φ k,0+j,none⟩=some u:=fun j u hj=>by rw[kp g2,pI];exact(hcsat j u hj).2
 have hfz:∀j,s.w.frozen? ⟨s.φ k,j,none⟩=false:=fun j=>by simp[World.frozen?,g2]
 have seg:∀(us L:List Value) (j:Nat),us=cs.take (i*2)++uv++cs.drop (i*2)++L→j<(n+1)*2→us[j]?=(cs.take (i*2)++uv++cs.drop (i*2))[j]?:=fun us L j h hj=>by
  rw[h,oL (by simp;omega)]
 have hshv:∃tA kA,s.w.shape? vb=some (tA,kA)∧kA≠0:=by
  have hcv0:=hcv 0 _ (oG (by omega));unfold World.cell? at hcv0;split at hcv0
  ·rename_i cc t z hh;simp at hcv0;refine⟨t,cc.size,by simp[World.shape?,hh],fun h0=>?_⟩;have:=(Array.getElem?_eq_some_iff.1 hcv0).1;omega
  ·cases hcv0
 obtain⟨tA,kA,hsA,hkA⟩:=hshv
 have hsB:s.w.shape? (s.φ k)=some (53,vs.size):=by simp[World.shape?,g2]
 rcases pS i n with hin | hin
 ·rcases pS c (n+1) with hroom | hroom
  ·
   refine(ins_grow (s.φ k) 0 n c i vb voff 1 cap2 cs uv s.w hin (by omega) (by omega) hroom (by omega) hcl huvl hc0 hcv onec onev).mono fun e w' ⟨h1,h2⟩=>?_
   subst h2;have hgc:=grownCap_ge s.w (n+1) c 53;obtain⟨G,hG⟩:∃G,G=grownCap s.w (n+1) c 53:=⟨_,rfl⟩;rw[←hG]at h1 hgc ⊢;obtain⟨ROW,hROW⟩:∃ROW:Array Value,ROW=(cs.take (i*2)).toArray++Builtin.zeroCells (Value.agg #[.int .i64 0,.slice none 0 0]).cells (n+1-i)++Builtin.zeroCells (Value.agg #[.int .i64 0,.slice none 0 0]).cells (G-(n+1)):=⟨_,rfl⟩;rw[←hROW]
   have hRs:ROW.size=G*2:=by rw[hROW];simp[Builtin.zeroCells,Value.cells];omega
   have hRt:ROW.toList.take (i*2)=cs.take (i*2):=by
    rw[hROW];simp only[Array.toList_append,oh];rw[qg (by simp;omega),pA (by simp;omega)]
   have hw0:((s.w.alloc (.cells ROW 53)).drew).heap[s.w.heap.size]?=some (.cells ROW 53 (0,0)):=AM.alloc_new s.w _;rw[bh s.w.heap.size 53 uv (i*2) ROW _ hw0 (by omega)];have hw1:=setRow_heap _ s.w.heap.size ROW (ROW.toList.take (i*2)++uv++ROW.toList.drop (i*2+uv.length)).toArray 53 (0,0) hw0;obtain⟨R1,hR1⟩:∃R1:Array Value,R1=(ROW.toList.take (i*2)++uv++ROW.toList.drop (i*2+uv.length)).toArray:=⟨_,rfl⟩;rw[←hR1]at hw1 ⊢
   have hR1s:R1.size=G*2:=by rw[hR1];simp;omega
   have hw1':(((s.w.alloc (.cells ROW 53)).drew.setRow s.w.heap.size R1).drew).heap[s.w.heap.size]?=some (.cells R1 53 (0,0)):=hw1
   have hdl:(cs.drop (i*2)).length=(n-i)*2:=by rw[pk,hcl];omega
   rw[bh s.w.heap.size 53 (cs.drop (i*2)) ((i+1)*2) R1 _ hw1' (by omega)];have hw2:=setRow_heap _ s.w.heap.size R1 (R1.toList.take ((i+1)*2)++cs.drop (i*2)++R1.toList.drop ((i+1)*2+(cs.drop (i*2)).length)).toArray 53 (0,0) hw1'
   have hmid:R1.toList.take ((i+1)*2)=cs.take (i*2)++uv:=by
    rw[hR1];simp only[hRt];rw[qg (by simp;omega),pA (by simp;omega)]
   refine fin _ _ s.w.heap.size G _ h1 rfl rfl rfl (by simp) (fun b hb hne=>?_) (.inr (oJ _)) hw2 ?_ hgc (by rw[hG];exact grownCap_le_maxLen s.w _ _ _ (by unfold maxLen;omega)) (fun j hj=>?_)
   ·rw[setRow_other _ _ _ _ (by omega)];show((s.w.alloc (.cells ROW 53)).drew.setRow s.w.heap.size R1).heap[b]?=_;rw[setRow_other _ _ _ _ (by omega)];exact AM.alloc_old s.w _ b hb
   ·simp;omega
   ·rw[qk];refine seg _ (R1.toList.drop ((i+1)*2+(cs.drop (i*2)).length)) j ?_ hj;rw[hmid]
  ·
   refine(ins_shift (s.φ k) 0 n c i vb voff 1 cap2 cs uv s.w hin (by omega) hroom (by unfold maxLen at hmx;omega) hvb hcl huvl hc0 (fun j hj=>by rw[kp g2,pI];simp;omega) (fun j hj=>by rw[pI];exact hfz j) hcv onec onev tA 53 kA vs.size hsA hsB (by omega) hkA (hfz _)).mono fun e w' ⟨h1,h2⟩=>?_
   subst h2
   have hdl:(cs.drop (i*2)).length=(n-i)*2:=by rw[pk,hcl];omega
   have e1:=bh (s.φ k) 53 (cs.drop (i*2)) (0+(i+1)*2) vs s.w.drew g2 (by omega);rw[e1];have hw1:=setRow_heap s.w.drew (s.φ k) vs (vs.toList.take (0+(i+1)*2)++cs.drop (i*2)++vs.toList.drop (0+(i+1)*2+(cs.drop (i*2)).length)).toArray 53 (0,0) g2;have e2:=bh (s.φ k) 53 uv (0+i*2) _ _ hw1 (by simp;omega);rw[e2];have hw2:=setRow_heap _ (s.φ k) _ (((vs.toList.take (0+(i+1)*2)++cs.drop (i*2)++vs.toList.drop (0+(i+1)*2+(cs.drop (i*2)).length)).toArray.toList.take (0+i*2)++uv++(vs.toList.take (0+(i+1)*2)++cs.drop (i*2)++vs.toList.drop (0+(i+1)*2+(cs.drop (i*2)).length)).toArray.toList.drop (0+i*2+uv.length)).toArray) 53 (0,0) hw1;have hmid:=mid_takeR vs.toList cs uv i n huvl (by omega) (by rw[ph];omega) hcs;refine fin _ _ (s.φ k) c _ h1 rfl rfl rfl (by simp) (fun b hb hne=>by rw[setRow_other _ _ _ _ (hne hκ),setRow_other _ _ _ _ (hne hκ)];rfl) (.inl ⟨rfl,hκ⟩) hw2 ?_ hroom (by omega) (fun j hj=>?_)
   ·have:=congrArg List.length hmid;simp only[pI,rP];rw[this];simp;omega
   ·rw[qk];simp only[pI];rw[hmid];exact seg _ _ j rfl hj
 ·have hin':i=n:=by omega
  subst hin'
  have htl:cs.take (i*2)++uv++cs.drop (i*2)=cs++uv:=by rw[pA (by omega),oV (by omega),oU]
  rcases pS c (i+1) with hroom | hroom
  ·refine(jk (some ⟨s.φ k,0,none⟩) i c vb voff 1 cap2 cs uv s.w (by omega) (by omega) hroom (by omega) hcl huvl (fun h=>by cases h) (fun a ha j u hj=>by cases ha;rw[Addr.add_lit];exact hc0 j u hj) hcv onev).mono fun e w' ⟨h1,h2⟩=>?_
   subst h2;have hgc:=grownCap_ge s.w (i+1) c 53;refine fin _ _ s.w.heap.size _ _ h1 rfl rfl rfl (by simp) (fun b hb hne=>AM.alloc_old s.w.drew _ b hb) (.inr (oJ _)) (AM.alloc_new s.w.drew _) ?_ hgc (grownCap_le_maxLen s.w _ _ _ (by unfold maxLen;omega)) (fun j hj=>?_)
   ·simp[Builtin.zeroCells,Value.cells,hcl,huvl];omega
   ·rw[htl,pd,if_pos (by simp;omega)];simp
  ·refine(ins_end_room (s.φ k) 0 i c vb voff 1 cap2 uv s.w (by omega) hroom (by unfold maxLen at hmx;omega) huvl (fun j hj=>by rw[kp g2];simp;omega) (fun j hj=>hfz _) hcv onev).mono fun e w' ⟨h1,h2⟩=>?_
   subst h2;rw[bh (s.φ k) 53 uv (0+i*2) vs s.w g2 (by omega)];have hw1:=setRow_heap s.w (s.φ k) vs (vs.toList.take (0+i*2)++uv++vs.toList.drop (0+i*2+uv.length)).toArray 53 (0,0) g2;refine fin _ _ (s.φ k) c _ h1 rfl rfl rfl (by simp) (fun b hb hne=>by rw[setRow_other _ _ _ _ (hne hκ)]) (.inl ⟨rfl,hκ⟩) hw1 ?_ hroom (by omega) (fun j hj=>?_)
   ·simp;omega
   ·rw[qk];refine seg _ (vs.toList.drop (0+i*2+uv.length)) j ?_ hj;rw[htl,pI,←hcs]
end
end Go.Proofs.YtdnhplencamncaaGreatDoor
namespace Go.Proofs.YtdnhplencamncaaGreatDoor
section
open Go Go.Shelf
def renI:Go.Shelf.Ren:=⟨fun n=>match n with
  | 6=>47
  | 14=>105
  | 15=>106
  | 20=>177
  | 21=>178
  | 22=>179
  | 23=>180
  | 24=>181
  | 25=>182
  | 26=>183
  | 27=>184
  | 28=>185
  | 29=>186
  | 46=>240
  | 47=>241
  | 48=>242
  | 49=>243
  | 50=>244
  | 57=>297
  | n=>n,fun n=>match n with
  | 0=>0
  | 3=>3
  | 4=>4
  | 5=>5
  | 9=>9
  | 22=>39
  | 24=>106
  | 25=>135
  | 39=>201
  | 45=>288
  | 46=>289
  | 50=>102
  | 53=>58
  | 55=>296
  | 66=>347
  | 70=>351
  | 76=>401
  | 77=>402
  | n=>n,fun n=>n⟩
theorem layI:Go.Proofs.SlLaysF0.n6 Tryz.prog renI:={
 mixed:=by kernel_rfl
 f6:=⟨Tryz.f47.name,by decide,Tryz.func47.trans (congrArg some (by kernel_rfl))⟩
 f14:=⟨Tryz.f105.name,by decide,Tryz.func105.trans (congrArg some (by kernel_rfl))⟩
 f15:=Tryz.func106.trans (congrArg some (by kernel_rfl))
 f20:=⟨Tryz.f177.name,by decide,Tryz.func177.trans (congrArg some (by kernel_rfl))⟩
 f21:=⟨Tryz.f178.name,by decide,Tryz.func178.trans (congrArg some (by kernel_rfl))⟩
 f22:=⟨Tryz.f179.name,by decide,Tryz.func179.trans (congrArg some (by kernel_rfl))⟩
 f23:=⟨Tryz.f180.name,by decide,Tryz.func180.trans (congrArg some (by kernel_rfl))⟩
 f24:=⟨Tryz.f181.name,by decide,Tryz.func181.trans (congrArg some (by kernel_rfl))⟩
 f25:=⟨Tryz.f182.name,by decide,Tryz.func182.trans (congrArg some (by kernel_rfl))⟩
 f26:=⟨Tryz.f183.name,by decide,Tryz.func183.trans (congrArg some (by kernel_rfl))⟩
 f27:=⟨Tryz.f184.name,by decide,Tryz.func184.trans (congrArg some (by kernel_rfl))⟩
 f28:=Tryz.func185.trans (congrArg some (by kernel_rfl))
 f29:=Tryz.func186.trans (congrArg some (by kernel_rfl))
 f46:=⟨Tryz.f240.name,by decide,Tryz.func240.trans (congrArg some (by kernel_rfl))⟩
 f47:=Tryz.func241.trans (congrArg some (by kernel_rfl))
 f48:=Tryz.func242.trans (congrArg some (by kernel_rfl))
 f49:=⟨Tryz.f243.name,by decide,Tryz.func243.trans (congrArg some (by kernel_rfl))⟩
 f50:=⟨Tryz.f244.name,by decide,Tryz.func244.trans (congrArg some (by kernel_rfl))⟩
 f57:=⟨Tryz.f297.name,by decide,Tryz.func297.trans (congrArg some (by kernel_rfl))⟩
 t0:=Tryz.underlying0
 a0:=Tryz.isAgg0
 z0:=Tryz.sizeOf0
 v0:=Tryz.zeroValue0
 t3:=Tryz.underlying3
 a3:=Tryz.isAgg3
 z3:=Tryz.sizeOf3
 v3:=Tryz.zeroValue3
 t4:=Tryz.underlying4
 a4:=Tryz.isAgg4
 z4:=Tryz.sizeOf4
 v4:=Tryz.zeroValue4
 t5:=Tryz.underlying5
 a5:=Tryz.isAgg5
 z5:=Tryz.sizeOf5
 v5:=Tryz.zeroValue5
 t9:=Tryz.underlying9
 a9:=Tryz.isAgg9
 z9:=Tryz.sizeOf9
 v9:=Tryz.zeroValue9
 t22:=Tryz.underlying39
 a22:=Tryz.isAgg39
 z22:=Tryz.sizeOf39
 v22:=Tryz.zeroValue39
 t25:=Tryz.underlying135
 a25:=Tryz.isAgg135
 z25:=Tryz.sizeOf135
 v25:=Tryz.zeroValue135
 t39:=Tryz.underlying201
 a39:=Tryz.isAgg201
 z39:=Tryz.sizeOf201
 v39:=Tryz.zeroValue201
 t45:=Tryz.underlying288
 a45:=Tryz.isAgg288
 z45:=Tryz.sizeOf288
 v45:=Tryz.zeroValue288
 t46:=Tryz.underlying289
 a46:=Tryz.isAgg289
 z46:=Tryz.sizeOf289
 v46:=Tryz.zeroValue289
 t50:=Tryz.underlying102
 a50:=Tryz.isAgg102
 z50:=Tryz.sizeOf102
 v50:=Tryz.zeroValue102
 t53:=Tryz.underlying58
 a53:=Tryz.isAgg58
 z53:=Tryz.sizeOf58
 v53:=Tryz.zeroValue58
 t55:=Tryz.underlying296
 a55:=Tryz.isAgg296
 z55:=Tryz.sizeOf296
 v55:=Tryz.zeroValue296
 t66:=Tryz.underlying347
 a66:=Tryz.isAgg347
 z66:=Tryz.sizeOf347
 v66:=Tryz.zeroValue347
 t70:=Tryz.underlying351
 a70:=Tryz.isAgg351
 z70:=Tryz.sizeOf351
 v70:=Tryz.zeroValue351
 t76:=Tryz.underlying401
 a76:=Tryz.isAgg401
 z76:=Tryz.sizeOf401
 v76:=Tryz.zeroValue401
 t77:=Tryz.underlying402
 a77:=Tryz.isAgg402
 z77:=Tryz.sizeOf402
 v77:=Tryz.zeroValue402 }
end
end Go.Proofs.YtdnhplencamncaaGreatDoor
namespace Go.Proofs.YtdnhplencamncaaGreatDoor
section
open Go Go.AM
theorem rel_lst_le{s:AM.St}{z:Nat}{xs ys:List V}{fl:Bool}{u:Value}(h:Rel s (.lst z fl xs) u)(hl:xs.length=ys.length)(hz:∀y∈ys,y.cells.length=z∧∀c∈y.cells,c.one=true)
  (hle:∀(i:Nat) x y,xs[i]?=some x→ys[i]?=some y→∀(j:Nat) c,y.cells[j]?=some c→∃d,x.cells[j]?=some d∧lfB d c):Rel s (.lst z fl ys) u:=by
 cases h with
 | lst _ _ _ A cap b off u hcap hfull hA hz0 hcell hrel =>
  rw[hl];refine .lst z fl ys A cap b off u (by omega) (fun h=>by rw[←hl];exact hfull h) (fun h=>hA (by omega)) hz (fun i y j c hy hc=>?_) (fun i y j c hy hc=>?_)
  ·have hx:xs[i]?=some (xs[i]'(by have:=aB hy;omega)):=oG _;obtain⟨d,hd,_⟩:=hle i _ y hx hy j c hc;exact hcell i _ j d hx hd
  ·have hx:xs[i]?=some (xs[i]'(by have:=aB hy;omega)):=oG _;obtain⟨d,hd,h2⟩:=hle i _ y hx hy j c hc;exact lf_rel (hrel i _ j d hx hd) h2
theorem conP_resR{P:Program}{f:FuncId}{args:List V}{K K':V→Prop}(h:aJ P f args K)(hk:∀s u r,K r→Rel s r u→∃r',Rel s r' u∧AM.Pure r'∧K' r'):aJ P f args K':=by
 refine⟨h.1,fun F w vals hZ hF hsz hrel=>(h.2 F w vals hZ hF hsz hrel).mono fun e w' ⟨u,r,a1,a2,a3,a4,a5⟩=>?_⟩;obtain⟨r',b1,b2,b3⟩:=hk _ u r a5 a3;exact⟨u,r',a1,b2,b1,a4,b3⟩
end
end Go.Proofs.YtdnhplencamncaaGreatDoor
section
namespace Go.Proofs.YtdnhplencamncaaGreatDoor
open Go Go.AM
end Go.Proofs.YtdnhplencamncaaGreatDoor
end
