/- JA19: own texts of this seat, joined and shortened by pack4.py: CatR, CatG, InR, InC, RlL, GrZ, Gr, GrC. -/
import Derived.Test.YtpedcgdgjoblkaaGreatDoorJA10
import Derived.Laws.Externs
import Derived.Laws.IdiomCopy
import Derived.Laws.NewBlocks
import Derived.Lib.AppendZeros
import Derived.Lib.AppendZerosOnto
import Derived.Lib.JoinLaws
import Derived.Lib.Overlaps
import Derived.Lib.SliceRun
import Derived.Lib.Walk
import Derived.Shelf.RegionOpenPlain
import Derived.WalkKit
import Derived.OwnWalk
set_option linter.unusedVariables false
set_option linter.unusedSimpArgs false
set_option maxRecDepth 100000
set_option maxHeartbeats 64000000
open Array renaming getElem?_append→lB,length_toList→lL,size_append→lr,getElem?_push_size→mC
open List renaming replicate→aI,getElem?_eq_getElem→kJ,mem_of_getElem?→kK,getElem?_append_left→kL,getElem_mem→kN,getElem?_append_right→kO,append_nil→kX,take_succ_eq_append_getElem→kY,mem_cons→kZ,drop_of_length_le→kf,getElem?_take→kg,take_length→km,getElem?_cons_succ→kp,getElem?_drop→kq,length_append→kr,append_assoc→kv,take_append_drop→lA,length_take→lC,take_of_length_le→lE,mem_of_mem_take→lF,map_cons→lH,mem_of_mem_drop→lI,eq_nil_of_length_eq_zero→lK,map_nil→lU,map_append→lZ,length_drop→ld,take_append_of_le_length→mD,getElem?_toArray→mI,mem_append→mR,size_toArray→mf
open Nat renaming le_refl→kM,add_mul→kd,zero_add→ky,add_assoc→lG,lt_or_ge→lJ,min_eq_left→li,zero_mul→lq,add_sub_cancel'→mO,sub_self→mX,lt_trichotomy→mg
namespace Go.Proofs.YtpedcgdgjoblkaaGreatDoor
section
open Go Go.AM Go.RowKit
structure FlVR where
 f:Bool
 xs:List V
def cX(l:FlVR):V:=.lst 2 l.f l.xs
def bq(ls:List FlVR):List V:=(ls.map (·.xs)).flatten
theorem kC(ls:List FlVR)(i:Nat)(h:i<ls.length):bq (ls.take (i+1))=bq (ls.take i)++ls[i].xs:=by
 unfold bq;rw[kY h,lZ,List.flatten_append];simp
theorem catL_leR(ls:List FlVR)(i:Nat):(bq (ls.take i)).length≤(bq ls).length:=by
 conv=>rhs;rw[←lA i ls]
 unfold bq;rw[lZ,List.flatten_append,kr];omega
theorem fi{ls:List FlVR}(hp:∀l∈ls,∀x∈l.xs,AM.Pure x∧dA x=true∧x.cells.length=2):∀x∈bq ls,AM.Pure x∧dA x=true:=by
 intro x hx;obtain⟨l,hl,h⟩:=List.mem_flatten.1 hx;obtain⟨y,hy,rfl⟩:=List.mem_map.1 hl;exact⟨(hp y hy x h).1,(hp y hy x h).2.1⟩
theorem catW_R(n:Nat)(h:n≤1000000):n≤9223372036854775807∧n*32≤140737488355328:=by omega
theorem concat_R(ls:List FlVR)(g:Bool)(hp:∀l∈ls,∀x∈l.xs,AM.Pure x∧dA x=true∧x.cells.length=2)(hl:ls.length≤1000000)(hs:(bq ls).length≤1000000):aK Tryz.prog 113 [.lst 1 g (ls.map cX)] fun r=>r = .lst 2 false (bq ls):=by
 have htl:=fun i=>catL_leR ls i
 have hpF:∀l∈ls,AM.Pure (cX l):=fun l hl=>.lst _ _ _ (fun x hx=>(hp l hl x hx).1)
 refine sPx Tryz.func113 rfl rfl ?_;simp -dsimp[Tryz.f113,aI,cX];refine aO (W_loopM 23 0x7ff828 (by simp[mB]<;>rfl) (σ:=Nat) (fun i=>i≤ls.length) (fun i=>ls.length-i) (fun i=>[(11,.int .i64 i),(3,.int .i64 ((bq (ls.take i)).length:Nat))]) (fun _=>[]) 0 (by omega) (by simp[bq]) rfl (by simp) ?_);intro i hi N Q hN hQ;by_cases hb:i<ls.length
 ·have hsu:=kC ls i hb;have h1:=htl i;have h2:=htl (i+1);rw[hsu,kr]at h2;obtain⟨c,hc⟩:∃c,c=(bq (ls.take i)).length:=⟨_,rfl⟩;rw[←hc]at h1 h2
  have hlx:(bq (ls.take (i+1))).length=c+ls[i].xs.length:=by rw[hsu,kr,hc]
  obtain⟨x,hx⟩:∃x,x=ls[i]:=⟨_,rfl⟩;rw[←hx]at h2 hlx;have hx':=hx.symm;obtain⟨d,hd⟩:∃d,d=c+x.xs.length:=⟨_,rfl⟩
  have hw:IntKind.i64.wrap ((c:Int)+(x.xs.length:Int))=(d:Int):=by rw[wrap64 (by omega) (by omega),hd];push_cast;rfl
  refine wx ?_;simp -dsimp[hb,hx',hw,show ¬(d:Int)<0 by omega,aX i (by omega),←hc,cX];refine hN (i+1) _ _ (by omega) (by omega) (by simp[hlx,hd]) ⟨[],rfl⟩ (by simp;exact hpF) (by simp)
 ·obtain rfl:i=ls.length:=by omega
  rw[km];have hg:=gX (H:=[]) (grow_con_R (bq ls).length hs) (by simp);refine wx ?_;simp -dsimp[hb,cX];refine hQ _ _ _ ?_;simp -dsimp[cX];refine hg.mono ?_;rintro r H' ⟨e,z,xs,rfl,rfl,_,rfl,rfl,rfl⟩;simp -dsimp[cX];refine aO (W_loopM 35 0x7f8000140 (by simp[mB]<;>rfl) (σ:=Nat) (fun i=>i≤ls.length) (fun i=>ls.length-i) (fun i=>[(27,.int .i64 i),(6,.buf 0 0 (bq (ls.take i)).length (bq (ls.take i)).length)]) (fun i=>[B.buf 41 2 (bq (ls.take i)) false]) 0 (by omega) (by simp[bq]) (by simp[bq]) (by simp) ?_);intro i hi N2 Q2 hN2 hQ2;by_cases hb:i<ls.length
  ·have hsu:=kC ls i hb;have h2:=htl (i+1);have hpi:=hp ls[i] (kN hb);have hpc:=fi (ls:=ls.take (i+1)) (fun l hl=>hp l (lF hl));obtain⟨x,hx⟩:∃x,x=ls[i]:=⟨_,rfl⟩;rw[←hx]at hsu hpi;have hx':=hx.symm;rw[hsu]at h2 hpc;obtain⟨xs,hxs⟩:∃xs,xs=x.xs:=⟨_,rfl⟩;have hxs':=hxs.symm;rw[←hxs]at hsu h2 hpc hpi;by_cases h0:xs=[]
   ·rw[h0,kX]at hsu;refine wx ?_;simp -dsimp[hb,hx',hxs',h0,aX i (by omega),cX];refine hN2 (i+1) _ _ (by omega) (by omega) (by simp[hsu]) ⟨[],by simp[hsu]⟩ (by simp;exact hpF) (by rw[h0,kX]at hpc;intro bl hbl;rcases List.mem_cons.1 hbl with rfl | hbl;exact(rbB_buf1 (by rw[hsu];exact hpc)).2 trivial;cases hbl)
   ·obtain⟨c,hc⟩:∃c,c=bq (ls.take i):=⟨_,rfl⟩;rw[←hc]at hsu h2 hpc;rw[kr]at h2;refine wx ?_;simp -dsimp[hb,hx',hxs',h0,aX i (by omega),←hc,catW_R (c.length+xs.length) (by omega),cX];refine hN2 (i+1) _ _ (by omega) (by omega) (by simp[hsu]) ⟨[],by simp[hsu]⟩ (by simp;exact hpF) (by intro bl hbl;rcases List.mem_cons.1 hbl with rfl | hbl;exact(rbB_buf1 (by rw[hsu];exact hpc)).2 trivial;cases hbl)
  ·obtain rfl:i=ls.length:=by omega
   rw[km];refine wx ?_;simp -dsimp[hb,cX];refine hQ2 _ _ _ ?_;simp -dsimp[cX];exact⟨fJ rfl rfl (fun x hx=>(fi hp x hx).1),fun x hx=>(fi hp x hx).1⟩
structure FlVG where
 f:Bool
 xs:List V
end
end Go.Proofs.YtpedcgdgjoblkaaGreatDoor
section
namespace Go.AM
open Go
theorem regrowZ{s:St}(hg:Good s){w:World}{k g c e z:Nat}{xs ys:List V}{us:Array Value}(hk:s.H[k]?=some (.buf e z xs false))(hpos:xs.length<ys.length)(hos:w.os=s.w.os)(htape:w.tape=s.w.tape)(hout:w.output=s.w.output)(hsz:s.w.heap.size≤w.heap.size)
  (hb:∀b,b<s.w.heap.size→(s.κ k≠0→b≠s.φ k)→w.heap[b]?=s.w.heap[b]?) (hgk:(g=s.φ k∧s.κ k≠0)∨s.w.heap.size≤g) (hrow:w.heap[g]?=some (.cells us e (0,0))) (hu:us.size=c*z) (hc:ys.length≤c) (hm:c≤maxLen)
  (hel:∀y∈ys,y.cells.length=z∧∀d∈y.cells,d.one=true) (hrel:∀(i:Nat) y (j:Nat) d u,ys[i]?=some y→y.cells[j]?=some d→us[i*z+j]?=some u→Rel s d u):
  Good (s.grow w k g c (.buf e z ys false))∧Step s (s.grow w k g c (.buf e z ys false))∧Rel (s.grow w k g c (.buf e z ys false)) (.buf k 0 ys.length ys.length) (.slice (some ⟨g,0,none⟩) ys.length c):=by
 have hst:=iO (c:=c) hg hk hpos hos htape hout hsz hb hgk;have hgl:g<w.heap.size:=(Array.getElem?_eq_some_iff.1 hrow).1;refine⟨regrow_good (c:=c) hg hk hpos hos htape hout hsz hb hgk hgl (fun hst=>⟨us,?_,?_,?_,?_,hel,fun i x j d u hx hd hu'=>?_⟩),hst,?_⟩
 ·intro _;simp only[St.grow,aN];exact hrow
 ·simp only[St.grow,aN];exact hu
 ·simp only[St.grow,aN];exact hc
 ·simp only[St.grow,aN];exact hm
 ·exact(hrel i x j d u hx hd hu').step hst
 ·refine .buf k 0 ys.length ys.length e z ys false _ _ _ (by simp[St.grow,aB hk]) (kM _) (fun _=>?_);simp only[St.grow,aN];exact⟨fun _=>by simp,trivial,by simp,by simp⟩
end Go.AM
namespace Go.Proofs.YtpedcgdgjoblkaaGreatDoor
open Go Go.Shelf Go.RowKit Go.Lib
section
variable {P:Program}
theorem gn(w:World)(tS tR e:TypeId)(ht:P.underlying tS=some (.slice e))(size:Nat)(hz:∀w,(Go.sizeOf e).run P w = .ok size w)
  (a b:Addr) (la ca lb cb:Nat) (hne:a.block≠b.block) (tA tB:TypeId) (kA kB:Nat)
  (hsa:w.shape? a.block=some (tA,kA)) (hsb:w.shape? b.block=some (tB,kB)) (hkA:kA≠0) (hkB:kB≠0)
  (hfb:w.frozen? b=false) (hfe:w.frozen? { block:=b.block,off:=kB } = false):
  (Extern.SlicesOverlaps.overlaps #[tS,tS] #[tR] #[.slice (some a) la ca,.slice (some b) lb cb]).run P w = .ok (.bool false) w:=by
 have hnb:(a.block != b.block)=true:=by simpa using hne
 have hnb':(a.block == b.block)=false:=by simpa using hne
 change Sem.run P (α:=Value) (do
  let some t:=(#[tS,tS]:Array TypeId)[0]? | stuck "slices.overlaps: no parameter types"
  let .slice elem ←underlying t | stuck "slices.overlaps: slice type expected"
  let size ←sizeOf elem
  match (some a:Option Addr),(some b:Option Addr) with
  | some a,some b =>
   if la=0∨lb=0∨size=0 then pure (Value.bool false)
   else if a.block != b.block&&(←frozen a)&&(←frozen b) then unsupported .addressObserved
   else do
    if a.block != b.block then do
     noView a;noView b
     if ←mayBeOne a b then return Value.bool ((←choose (.extern "sameAddr.stringBytes" 2))== 1)
    pure (Value.bool (a.block == b.block&&a.off<b.off+lb*size&&b.off<a.off+la*size))
  | _,_=>pure (Value.bool false)) w=_
 by_cases h0:la=0∨lb=0∨size=0
 ·simp[run_underlying ht,hz,h0]
 ·cases kB with
  | zero=>exact absurd rfl hkB
  | succ kB =>
   cases kA with
   | zero=>exact absurd rfl hkA
   | succ kA=>simp[run_underlying ht,hz,h0,hnb,hnb',frozen,noView,viewAt,mayBeOne,stringish,shape,Sem.run,hsa,hsb,hfb,hfe]
theorem insI:(Tryz.prog.info? 41).map (fun i=>(i.zero,i.size,i.bytes))=some (some (.agg #[.int .i64 0,.slice none 0 0]),2,32):=by kernel_rfl
theorem insZ:∀w,(Go.sizeOf 41).run Tryz.prog w = .ok 2 w:=fun w=>AM.run_sizeOf tok T_41 w
theorem insM:Tryz.prog.follows .mixedOrders=true:=by kernel_rfl
theorem wp_copy_runI(w:World){o:Oper}{a:Act}{K:Act→World→Prop}{Q:Exit→Act→World→Prop}(d s:Operand)(t t':TypeId)
  (ho:o.op = .call { callee:=.builtin .copy,args:=#[d,s],argTypes:=#[t,t'] }) (v u:Value) (hd:a.eval d=v) (hs:a.eval s=u) {v':Value} {w':World}
  (hr:(Builtin.copy_ #[t,t'] o.type #[v,u]).run P w = .ok v' w') (h:K (a.put o.dst v') w'):o.wp P a w K Q:=by
 unfold Oper.wp execOp;simp only[ho,resolve,invoke,builtin,Sem.run_bind,Sem.run_pure,Result.andThen_ok,List.map_toArray,lH,lU,hd,hs,hr];exact h
theorem cH(w:World){ops:Array Oper}{rest:List Oper}{o:Oper}{a:Act}{Q:Exit→Act→World→Prop}(hgd:o.guard=none)(d s:Operand)(t t':TypeId)
  (ho:o.op = .call { callee:=.builtin .copy,args:=#[d,s],argTypes:=#[t,t'] }) (v u:Value) (hd:a.eval d=v) (hs:a.eval s=u) {v':Value} {w':World}
  (hr:(Builtin.copy_ #[t,t'] o.type #[v,u]).run P w = .ok v' w') (h:wpList P ops Q rest (a.put o.dst v') w'):wpList P ops Q (o::rest) a w :=
 wpList_plain hgd fun _ hK=>wp_copy_runI w d s t t' ho v u hd hs hr (hK _ _ h)
theorem eQ{ops:Array Oper}{o:Oper}{a:Act}{w:World}{K:Act→World→Prop}{Q:Exit→Act→World→Prop}{E:Prop}
  (hg:o.guard=none) (d x:Operand) (dT sT:TypeId) (hop:o.op=Op.call { callee:=Callee.builtin Builtin.copy,args:=#[d,x],argTypes:=#[dT,sT] })
  (v u:Value) (hd:a.eval d=v) (hx:a.eval x=u) {v':Value} {w':World} (hr:(Builtin.copy_ #[dT,sT] o.type #[v,u]).run P w = .ok v' w') (hK:K (a.put o.dst v') w'):
  if Region.wanted o (yielded ops a.tmps)=true then Oper.wp P o a w K Q else E:=by
 have hw:Region.wanted o (yielded ops a.tmps)=true:=by simp[Region.wanted,hg]
 rw[if_pos hw];unfold Oper.wp;simp[execOp,hop,resolve,invoke,builtin,hd,hx,hr,Result.andThen];exact hK
theorem eG(b:Nat)(vs:List Value)(o:Nat)(w:World)(h:∀j,j<vs.length→(w.cell? ⟨b,o+j,none⟩).isSome=true)(k:Nat)(hk:(w.cell? ⟨b,k,none⟩).isSome=true):((w.setCells b o vs).cell? ⟨b,k,none⟩).isSome=true:=by
 by_cases hin:o≤k∧k<o+vs.length
 ·have:=World.cell?_setCells_in b vs o w h (k-o) (by omega);rw[show o+(k-o)=k by omega]at this;rw[this];rfl
 ·rw[World.cell?_setCells_out b vs o w ⟨b,k,none⟩ (fun _ _=>by show k<o∨o+vs.length≤k;omega)];exact hk
theorem bx(w:World)(dT sT ty elem:TypeId)(b o dLen dCap:Nat)(a:Addr)(sLen sCap n:Nat)(cs:List Value)
  (hu:P.underlying dT=some (.slice elem)) (hs:(P.info? elem).map (·.size)=some 2) (hn:Nat.min sLen dLen=n) (hl2:cs.length=n*2)
  (hsrc:∀j v,cs[j]?=some v→w.cell? (a.add j)=some v) (hc:∀j,j<cs.length→(w.cell? ⟨b,o+j,none⟩).isSome=true) (hf:∀j,j<cs.length→w.frozen? ⟨b,o+j,none⟩=false) (h1:∀v∈cs,v.oneCell'=true):
  (Builtin.copy_ #[dT,sT] ty #[.slice (some ⟨b,o,none⟩) dLen dCap,.slice (some a) sLen sCap]).run P w = .ok (goInt n) (w.setCells b o cs):=by
 have hl:=run_loadCells_list (P:=P) w a cs hsrc;have hst:=run_storeCells_cells (P:=P) b o cs 0 w (by simpa using hc) (by simpa using hf) h1;rw[hl2]at hl
 cases hq:P.info? elem with
 | none=>simp[hq]at hs
 | some i =>
  have hi:i.size=2:=by simpa[hq] using hs
  simp[Builtin.copy_,run_underlying hu,Builtin.lenOf,Builtin.firstCells,sizeOf,typeInfo,hq,hi,hn,hl,hst]
theorem ins_shift(b off n c i vb voff m vc:Nat)(cs vs:List Value)(w:World)(hi:i<n)(hm:0<m)(hroom:n+m≤c)(hc63:c≤9223372036854775807)(hvb:vb≠b)
  (hcl:cs.length=n*2) (hvl:vs.length=m*2)
  (hcs:∀j v,cs[j]?=some v→w.cell? ⟨b,off+j,none⟩=some v) (hsp:∀j,j<(n+m)*2→(w.cell? ⟨b,off+j,none⟩).isSome=true) (hfz:∀j,j<(n+m)*2→w.frozen? ⟨b,off+j,none⟩=false)
  (hvs:∀j v,vs[j]?=some v→w.cell? ⟨vb,voff+j,none⟩=some v) (h1c:∀v∈cs,v.oneCell'=true) (h1v:∀v∈vs,v.oneCell'=true)
  (tA tB:TypeId) (kA kB:Nat) (hsa:w.shape? vb=some (tA,kA)) (hsb:w.shape? b=some (tB,kB)) (hkB:kB≠0) (hkA:kA≠0) (hfe:w.frozen? ⟨b,kB,none⟩=false):
  Calls Tryz.prog 111 #[.slice (some ⟨b,off,none⟩) n c,.int .i64 i,.slice (some ⟨vb,voff,none⟩) m vc] w fun e w' =>
   e = .returned (.slice (some ⟨b,off,none⟩) (n+m) c)∧w'=(w.drew.setCells b (off+(i+m)*2) (cs.drop (i*2))).setCells b (off+i*2) vs:=by
 have hz1:¬((m:Int)=0):=by omega
 have hz2:¬((i:Int)=(n:Int)):=by omega
 have hsz:(Tryz.prog.info? 41).map (·.size)=some 2:=by
  obtain⟨i0,hi0,h0,h1,h2⟩:=info_parts insI;rw[hi0];simp[h1]
 have hov:∀lb cb,(callFunc 167 #[.slice (some ⟨vb,voff,none⟩) m vc,.slice (some ⟨b,off+(i+m)*2,none⟩) lb cb]).run Tryz.prog w = .ok (.value (.bool false)) w:=fun lb cb=>by
  rw[run_callFunc_extern Tryz.func167 (by kernel_rfl) (by kernel_rfl) (by kernel_rfl) (e:=Extern.SlicesOverlaps.overlaps #[27,27] #[4]) (by kernel_rfl),
   gn w 27 4 41 Tryz.underlying27 2 insZ ⟨vb,voff,none⟩ ⟨b,off+(i+m)*2,none⟩ m vc lb cb hvb tA tB kA kB hsa hsb hkA hkB (hfz ((i+m)*2) (by omega)) hfe]
  rfl
 have hdl:(cs.drop (i*2)).length=(n-i)*2:=by rw[ld,hcl];omega
 have mixed:=insM
 have hw1:IntKind.i64.wrap ((i:Int)+(m:Int))=(i:Int)+(m:Int):=by rw[IntKind.wrap_i64];omega
 have hb1:(0:Int)≤(i:Int)+(m:Int):=by omega
 have hin:i≤n:=by omega
 have htn:((i:Int)+(m:Int)).toNat=i+m:=by omega
 have hb2:¬(c=i+m):=by omega
 have hb3:(i:Int)≤(n:Int)+(m:Int):=by omega
 have hb4:¬(c=i):=by omega
 have hcp1:∀ty dc sc,(Builtin.copy_ #[27,27] ty #[.slice (some ⟨b,off+(i+m)*2,none⟩) (n+m-(i+m)) dc,.slice (some ⟨b,off+i*2,none⟩) (n+m-i) sc]).run Tryz.prog w.drew = .ok (goInt (n-i:Nat)) (w.drew.setCells b (off+(i+m)*2) (cs.drop (i*2))):=fun ty dc sc =>
  bx w.drew _ _ ty 41 b (off+(i+m)*2) (n+m-(i+m)) dc ⟨b,off+i*2,none⟩ (n+m-i) sc (n-i) (cs.drop (i*2)) Tryz.underlying27 hsz (by simp only[Nat.min_def];split<;>omega) hdl
   (fun j v hj=>by rw[Addr.add_lit,lG];exact hcs (i*2+j) v (by rwa [kq]at hj))
   (fun j hj=>by rw[lG];exact hsp _ (by omega)) (fun j hj=>by rw[lG];exact hfz _ (by omega)) (fun v hv=>h1c v (lI hv))
 obtain⟨W1,hW1⟩:∃W1,W1=w.drew.setCells b (off+(i+m)*2) (cs.drop (i*2)):=⟨_,rfl⟩
 have hsp1:∀k,k<(n+m)*2→(W1.cell? ⟨b,off+k,none⟩).isSome=true:=fun k hk=>by
  rw[hW1];exact eG b _ _ _ (fun j hj=>by rw[lG];exact hsp _ (by omega)) _ (hsp k hk)
 have hcp2:∀(W:World),(∀x,W.cell? x=W1.cell? x)→(∀x,W.frozen? x=W1.frozen? x)→∀ty dc,(Builtin.copy_ #[27,27] ty #[.slice (some ⟨b,off+i*2,none⟩) (n+m-i) dc,.slice (some ⟨vb,voff,none⟩) m vc]).run Tryz.prog W = .ok (goInt m) (W.setCells b (off+i*2) vs):=fun W hWc hWf ty dc =>
  bx W _ _ ty 41 b (off+i*2) (n+m-i) dc ⟨vb,voff,none⟩ m vc m vs Tryz.underlying27 hsz (by simp only[Nat.min_def];split<;>omega) hvl
   (fun j v hj=>by
    rw[Addr.add_lit,hWc,hW1,World.cell?_setCells_out b _ _ _ _ (fun h _=>absurd h hvb)]
    exact hvs j v hj)
   (fun j hj=>by rw[hWc,lG];exact hsp1 _ (by omega)) (fun j hj=>by rw[hWf,hW1,World.frozen?_setCells,lG];exact hfz _ (by omega)) h1v
 rw[←hW1]at hcp1
 go_enter Tryz.func111,Tryz.ntmps111
 go_wp2_with (simp only[hov])
 go_region_law_o (refine eQ rfl _ _ 27 27 rfl _ _ (by simp[Act.eval,Act.put]) (by simp[Act.eval,Act.put]) (hcp1 _ _ _) ?_)
 go_wp2_with (at_builtin;refine cH _ rfl _ _ 27 27 rfl _ _ rfl rfl (hcp2 _ (fun _=>rfl) (fun _=>rfl) _ _) ?_)
 go_ret
 first | exact⟨rfl,rfl⟩ | exact⟨rfl,by rw[hW1]⟩
theorem ins_end_room(b off n c vb voff m vc:Nat)(vs:List Value)(w:World)(hm:0<m)(hroom:n+m≤c)(hc63:c≤9223372036854775807)
  (hvl:vs.length=m*2) (hsp:∀j,j<m*2→(w.cell? ⟨b,off+n*2+j,none⟩).isSome=true) (hfz:∀j,j<m*2→w.frozen? ⟨b,off+n*2+j,none⟩=false)
  (hvs:∀j v,vs[j]?=some v→w.cell? ⟨vb,voff+j,none⟩=some v) (h1v:∀v∈vs,v.oneCell'=true):
  Calls Tryz.prog 111 #[.slice (some ⟨b,off,none⟩) n c,.int .i64 n,.slice (some ⟨vb,voff,none⟩) m vc] w fun e w' =>
   e = .returned (.slice (some ⟨b,off,none⟩) (n+m) c)∧w'=w.setCells b (off+n*2) vs:=by
 have mixed:=insM;obtain⟨i0,hi0,hz0,hzs,hzb⟩:=info_parts insI
 have hz1:¬((m:Int)=0):=by omega
 have hsrc:Src Tryz.prog i0.size 27 (.slice (some ⟨vb,voff,none⟩) m vc) m vs w:=by
  rw[hzs];exact Src.ofSlice w Tryz.underlying27 ⟨vb,voff,none⟩ m vc vs (by omega) (fun j u hj=>by rw[Addr.add_lit];exact hvs j u hj) h1v
 have hrun:∀ty,(Builtin.append_ #[27,27] ty #[.slice (some ⟨b,off,none⟩) n c,.slice (some ⟨vb,voff,none⟩) m vc]).run Tryz.prog w = .ok (.slice (some ⟨b,off,none⟩) (n+m) c) (w.setCells b (off+n*2) vs):=fun ty=>by
  have h:=run_append_room_src (P:=Tryz.prog) (w:=w) 27 27 ty 41 i0 Tryz.underlying27 hi0 b off n c _ m vs hsrc hroom (by rw[hzs,hvl];exact hsp) (by rw[hzs,hvl];exact hfz);rw[hzs]at h;exact h
 go_enter Tryz.func111,Tryz.ntmps111
 go_wp2_with (at_builtin;refine Lib.wpList_append_run _ rfl _ _ _ _ rfl _ _ rfl rfl _ _ (hrun _) ?_)
 go_ret
 exact⟨rfl,rfl⟩
theorem gG(base:Option Addr)(n c vb voff m vc:Nat)(cs vs:List Value)(w:World)(hm:0<m)(hnc:n≤c)(hroom:c<n+m)(hbig:(n+m)*32≤140737488355328)
  (hcl:cs.length=n*2) (hvl:vs.length=m*2) (hnil:base=none→n=0)
  (hcs:∀a,base=some a→∀j v,cs[j]?=some v→w.cell? (a.add j)=some v)
  (hvs:∀j v,vs[j]?=some v→w.cell? ⟨vb,voff+j,none⟩=some v) (h1v:∀v∈vs,v.oneCell'=true):
  Calls Tryz.prog 111 #[.slice base n c,.int .i64 n,.slice (some ⟨vb,voff,none⟩) m vc] w fun e w' =>
   e = .returned (.slice (some ⟨w.heap.size,0,none⟩) (n+m) (grownCap w (n+m) c 41))∧
   w'=w.drew.alloc (.cells ((cs++vs).toArray++Builtin.zeroCells (Value.agg #[.int .i64 0,.slice none 0 0]).cells (grownCap w (n+m) c 41-(n+m))) 41):=by
 have mixed:=insM;obtain⟨i0,hi0,hz0,hzs,hzb⟩:=info_parts insI
 have hz1:¬((m:Int)=0):=by omega
 have hsrc:Src Tryz.prog i0.size 27 (.slice (some ⟨vb,voff,none⟩) m vc) m vs w:=by
  rw[hzs];exact Src.ofSlice w Tryz.underlying27 ⟨vb,voff,none⟩ m vc vs (by omega) (fun j u hj=>by rw[Addr.add_lit];exact hvs j u hj) h1v
 have hold:(Builtin.firstCells i0.size n (.slice base n c)).run Tryz.prog w.drew = .ok cs.toArray w.drew:=by
  rw[hzs]
  cases base with
  | none =>
   have h0:=hnil rfl;subst h0;have hc0:cs=[]:=List.length_eq_zero_iff.1 (by simpa using hcl);rw[hc0];exact run_firstCells_none w.drew 2 0 0 c
  | some a=>exact run_firstCells_some w.drew 2 n a n c cs (by omega) (fun j v hj=>hcs a rfl j v hj)
 have hrun:∀ty,(Builtin.append_ #[27,27] ty #[.slice base n c,.slice (some ⟨vb,voff,none⟩) m vc]).run Tryz.prog w=_:=fun ty =>
  run_append_grow_src w 27 27 ty 41 i0 _ Tryz.underlying27 hi0 hz0 base n c cs hold _ m vs hsrc hroom (by omega) (by rw[hzb];exact growslice_fits hroom hbig)
 go_enter Tryz.func111,Tryz.ntmps111
 cases base with
 | none =>
  have h0:=hnil rfl;subst h0
  go_wp2_with (at_builtin;refine Lib.wpList_append_run _ rfl _ _ _ _ rfl _ _ rfl rfl _ _ (hrun _) ?_)
  go_ret
  exact⟨rfl,rfl⟩
 | some a =>
  obtain⟨ab,ao,asp⟩:=a
  go_wp2_with (at_builtin;refine Lib.wpList_append_run _ rfl _ _ _ _ rfl _ _ rfl rfl _ _ (hrun _) ?_)
  all_goals (go_ret;exact⟨rfl,rfl⟩)
theorem ins_grow(b off n c i vb voff m vc:Nat)(cs vs:List Value)(w:World)(hi:i<n)(hm:0<m)(hnc:n≤c)(hroom:c<n+m)(hbig:(n+m)*32≤140737488355328)
  (hcl:cs.length=n*2) (hvl:vs.length=m*2)
  (hcs:∀j v,cs[j]?=some v→w.cell? ⟨b,off+j,none⟩=some v)
  (hvs:∀j v,vs[j]?=some v→w.cell? ⟨vb,voff+j,none⟩=some v) (h1c:∀v∈cs,v.oneCell'=true) (h1v:∀v∈vs,v.oneCell'=true):
  Calls Tryz.prog 111 #[.slice (some ⟨b,off,none⟩) n c,.int .i64 i,.slice (some ⟨vb,voff,none⟩) m vc] w fun e w' =>
   e = .returned (.slice (some ⟨w.heap.size,0,none⟩) (n+m) (grownCap w (n+m) c 41))∧
   w'=(((w.alloc (.cells ((cs.take (i*2)).toArray++Builtin.zeroCells (Value.agg #[.int .i64 0,.slice none 0 0]).cells (n+m-i)++Builtin.zeroCells (Value.agg #[.int .i64 0,.slice none 0 0]).cells (grownCap w (n+m) c 41-(n+m))) 41)).drew.setCells w.heap.size (i*2) vs).drew).setCells w.heap.size ((i+m)*2) (cs.drop (i*2)):=by
 have mixed:=insM;obtain⟨i0,hi0,hz0,hzs,hzb⟩:=info_parts insI
 have hz1:¬((m:Int)=0):=by omega
 have hz2:¬((i:Int)=(n:Int)):=by omega
 have hz3:(c:Int)<(n:Int)+(m:Int):=by omega
 have hsz:(Tryz.prog.info? 41).map (·.size)=some 2:=by rw[hi0];simp[hzs]
 have hbw:b<w.heap.size:=block_lt_of_cell (hcs 0 _ (kJ (by omega)));have hvw:vb<w.heap.size:=block_lt_of_cell (hvs 0 _ (kJ (by omega)))
 have hkk:(n:Int)+(m:Int)-(i:Int)=((n+m-i:Nat):Int):=by omega
 have hik:i+(n+m-i)=n+m:=by omega
 have hold:(Builtin.firstCells i0.size i (.slice (some ⟨b,off,none⟩) i c)).run Tryz.prog w.drew = .ok (cs.take (i*2)).toArray w.drew:=by
  rw[hzs]
  exact run_firstCells_some w.drew 2 i ⟨b,off,none⟩ i c (cs.take (i*2)) (by rw[lC];omega) (fun j v hj=>by
   rw[Addr.add_lit];rw[kg]at hj;split at hj
   ·exact hcs j v hj
   ·cases hj)
 have hrz:∀ty,(Builtin.append_ #[27,3] ty #[.slice (some ⟨b,off,none⟩) i c,.int .i64 ((n:Int)+(m:Int)-(i:Int))]).run Tryz.prog w =
   .ok (.slice (some ⟨w.heap.size,0,none⟩) (n+m) (grownCap w (n+m) c 41)) (w.drew.alloc (.cells ((cs.take (i*2)).toArray++Builtin.zeroCells (Value.agg #[.int .i64 0,.slice none 0 0]).cells (n+m-i)++Builtin.zeroCells (Value.agg #[.int .i64 0,.slice none 0 0]).cells (grownCap w (n+m) c 41-(n+m))) 41)):=fun ty=>by
  have h:=Lib.run_append_grow_zeros w 27 3 ty 41 i0 _ .i64 .i64 Tryz.underlying27 Tryz.underlying3 hi0 hz0 (some ⟨b,off,none⟩) i c (cs.take (i*2)) hold (n+m-i) (by omega) (by omega) (by omega) (by omega) (by rw[hzb];omega) (by rw[hzb,hik];exact growslice_fits hroom hbig);rw[hik]at h;rw[hkk];exact h
 obtain⟨G,hG⟩:∃G,G=grownCap w (n+m) c 41:=⟨_,rfl⟩;obtain⟨ROW,hROW⟩:∃ROW:Array Value,ROW=(cs.take (i*2)).toArray++Builtin.zeroCells (Value.agg #[.int .i64 0,.slice none 0 0]).cells (n+m-i)++Builtin.zeroCells (Value.agg #[.int .i64 0,.slice none 0 0]).cells (G-(n+m)):=⟨_,rfl⟩;rw[←hG]at hrz ⊢;rw[←hROW]at hrz ⊢
 have hRl:(n+m)*2≤ROW.size:=by
  rw[hROW];simp[Builtin.zeroCells,Value.cells];omega
 obtain⟨W1,hW1⟩:∃W1,W1=w.drew.alloc (.cells ROW 41):=⟨_,rfl⟩;rw[←hW1]at hrz
 have hN:∀j,j<(n+m)*2→(W1.cell? ⟨w.heap.size,j,none⟩).isSome=true:=fun j hj=>by
  rw[hW1,World.cell?_alloc_at (w:=w.drew) ROW _ w.heap.size j rfl,Array.getElem?_eq_getElem (by omega)];rfl
 have hNf:∀j,W1.frozen? ⟨w.heap.size,j,none⟩=false:=fun j=>by rw[hW1];exact World.frozen?_alloc_at (w:=w.drew) ROW _ w.heap.size j rfl
 have hOb:∀j v,w.cell? ⟨b,j,none⟩=some v→W1.cell? ⟨b,j,none⟩=some v:=fun j v h=>by rw[hW1,World.cell?_alloc_past (w:=w.drew) _ b j hbw];exact h
 have hOv:∀j v,w.cell? ⟨vb,j,none⟩=some v→W1.cell? ⟨vb,j,none⟩=some v:=fun j v h=>by rw[hW1,World.cell?_alloc_past (w:=w.drew) _ vb j hvw];exact h
 have hcpA:∀(W:World),(∀x,W.cell? x=W1.cell? x)→(∀x,W.frozen? x=W1.frozen? x)→∀ty dc,(Builtin.copy_ #[27,27] ty #[.slice (some ⟨w.heap.size,i*2,none⟩) (n+m-i) dc,.slice (some ⟨vb,voff,none⟩) m vc]).run Tryz.prog W = .ok (goInt m) (W.setCells w.heap.size (i*2) vs):=fun W hWc hWf ty dc =>
  bx W _ _ ty 41 w.heap.size (i*2) (n+m-i) dc ⟨vb,voff,none⟩ m vc m vs Tryz.underlying27 hsz (by simp only[Nat.min_def];split<;>omega) hvl
   (fun j v hj=>by rw[Addr.add_lit,hWc];exact hOv _ v (hvs j v hj))
   (fun j hj=>by rw[hWc];exact hN _ (by omega)) (fun j hj=>by rw[hWf];exact hNf _) h1v
 have hGn:n+m≤G:=by rw[hG];exact grownCap_ge w _ _ _
 have hG63:G≤9223372036854775807:=by
  have:=grownCap_le_maxLen w (n+m) c 41 (by unfold maxLen;omega);rw[←hG]at this;unfold maxLen at this;omega
 have hGi:¬(G=i):=by omega
 have hGim:¬(G=i+m):=by omega
 have hci:¬(c=i):=by omega
 have hbN:b≠w.heap.size:=by omega
 have hdl:(cs.drop (i*2)).length=(n-i)*2:=by rw[ld,hcl];omega
 have hcpB:∀(W:World),(∀x,W.cell? x=(W1.setCells w.heap.size (i*2) vs).cell? x)→(∀x,W.frozen? x=(W1.setCells w.heap.size (i*2) vs).frozen? x)→∀ty dc sc,(Builtin.copy_ #[27,27] ty #[.slice (some ⟨w.heap.size,(i+m)*2,none⟩) (n+m-(i+m)) dc,.slice (some ⟨b,off+i*2,none⟩) (n-i) sc]).run Tryz.prog W = .ok (goInt (n-i:Nat)) (W.setCells w.heap.size ((i+m)*2) (cs.drop (i*2))):=fun W hWc hWf ty dc sc =>
  bx W _ _ ty 41 w.heap.size ((i+m)*2) (n+m-(i+m)) dc ⟨b,off+i*2,none⟩ (n-i) sc (n-i) (cs.drop (i*2)) Tryz.underlying27 hsz (by simp only[Nat.min_def];split<;>omega) hdl
   (fun j v hj=>by
    rw[Addr.add_lit,hWc,World.cell?_setCells_out _ _ _ _ _ (fun h _=>absurd h hbN),lG]
    exact hOb _ v (hcs (i*2+j) v (by rwa [kq]at hj)))
   (fun j hj=>by rw[hWc];exact eG _ _ _ _ (fun t ht=>hN _ (by omega)) _ (hN _ (by omega)))
   (fun j hj=>by rw[hWf,World.frozen?_setCells];exact hNf _) (fun v hv=>h1c v (lI hv))
 subst hW1
 have hE1:∀x,((w.alloc (.cells ROW 41)).drew).cell? x=(w.drew.alloc (.cells ROW 41)).cell? x:=fun x=>rfl
 have hE2:∀x,((w.alloc (.cells ROW 41)).drew).frozen? x=(w.drew.alloc (.cells ROW 41)).frozen? x:=fun x=>rfl
 have hF1:∀x,(((w.alloc (.cells ROW 41)).drew.setCells w.heap.size (i*2) vs).drew).cell? x=((w.drew.alloc (.cells ROW 41)).setCells w.heap.size (i*2) vs).cell? x:=fun x=>rfl
 have hF2:∀x,(((w.alloc (.cells ROW 41)).drew.setCells w.heap.size (i*2) vs).drew).frozen? x=((w.drew.alloc (.cells ROW 41)).setCells w.heap.size (i*2) vs).frozen? x:=fun x=>rfl
 have hw1:IntKind.i64.wrap ((i:Int)+(m:Int))=(i:Int)+(m:Int):=by rw[IntKind.wrap_i64];omega
 have hb1:(0:Int)≤(i:Int)+(m:Int):=by omega
 have hin:i≤n:=by omega
 have htn:((i:Int)+(m:Int)).toNat=i+m:=by omega
 have hb3:(i:Int)≤(n:Int):=by omega
 clear hkk hik hold hROW hG hRl
 go_enter Tryz.func111,Tryz.ntmps111
 go_wp2_with (first
  | (at_builtin;refine Lib.wpList_append_run _ rfl _ _ _ _ rfl _ _ rfl rfl _ _ (hrz _) ?_)
  | (at_builtin;refine cH _ rfl _ _ 27 27 rfl _ _ rfl rfl (hcpA _ hE1 hE2 _ _) ?_)
  | (at_builtin;refine cH _ rfl _ _ 27 27 rfl _ _ rfl rfl (hcpB _ (fun _=>rfl) (fun _=>rfl) _ _ _) ?_))
 go_region_law_o (refine eQ rfl _ _ 27 27 rfl (.slice (some ⟨w.heap.size,(i+m)*2,none⟩) (n+m-(i+m)) (G-(i+m))) (.slice (some ⟨b,off+i*2,none⟩) (n-i) (c-i)) (by simp[Act.eval,Act.put]) (by simp[Act.eval,Act.put]) (hcpB _ hF1 hF2 3 (G-(i+m)) (c-i)) ?_)
 go_wp2
 go_ret
 exact⟨rfl,rfl⟩
end
end Go.Proofs.YtpedcgdgjoblkaaGreatDoor
end
namespace Go.Proofs.YtpedcgdgjoblkaaGreatDoor
section
open Go Go.AM Go.RowKit Go.Lib
theorem iE{w:World}{b e:Nat}{vs:Array Value}{z:Nat×Nat}(h:w.heap[b]?=some (.cells vs e z))(j:Nat):w.cell? ⟨b,j,none⟩=vs[j]?:=by
 simp[World.cell?,h]
theorem mid_takeR{α:Type}(vs cs us:List α)(i n:Nat)(hu:us.length=2)(hi:i≤n)(hn:(n+1)*2≤vs.length)(hc:cs=vs.take (n*2)):
  (((vs.take ((i+1)*2)++cs.drop (i*2)++vs.drop ((i+1)*2+(cs.drop (i*2)).length)).take (i*2)++us++(vs.take ((i+1)*2)++cs.drop (i*2)++vs.drop ((i+1)*2+(cs.drop (i*2)).length)).drop (i*2+us.length)))=cs.take (i*2)++us++cs.drop (i*2)++vs.drop ((n+1)*2):=by
 have h2:(cs.drop (i*2)).length=(n-i)*2:=by rw[hc,ld,lC];omega
 have h4:(vs.take (i*2)).length=i*2:=by rw[lC];omega
 have h5:cs.take (i*2)=vs.take (i*2):=by rw[hc,List.take_take,li (by omega)]
 have h3:vs.take ((i+1)*2)=vs.take (i*2)++(vs.drop (i*2)).take 2:=by
  rw[show(i+1)*2=i*2+2 by omega,List.take_add]
 have h6:((vs.drop (i*2)).take 2).length=2:=by rw[lC,ld];omega
 rw[h2,show(i+1)*2+(n-i)*2=(n+1)*2 by omega,h3,h5,hu];generalize vs.take (i*2)=P at h4;generalize (vs.drop (i*2)).take 2=X at h6;generalize vs.drop ((n+1)*2)=D;generalize cs.drop (i*2)=C;rw[←h4]
 have e1:(P++X++C++D).take P.length=P:=by simp[kv]
 have e2:(P++X++C++D).drop (P.length+2)=C++D:=by
  rw[←h6,←kr];simp[kv]
 rw[e1,e2];simp[kv]
theorem insR_con(H:List B)(k:Nat)(xs:List V)(i:Nat)(f:Bool)(v:V)(hk:H[k]?=some (.buf 41 2 xs false))(hi:i≤xs.length)(hn:xs.length≤1000000):
  aT Tryz.prog 111 [.buf k 0 xs.length xs.length,.int .i64 i,.lst 2 f [v]] H fun r H'=>r = .buf k 0 (xs.length+1) (xs.length+1)∧H'=H.set k (.buf 41 2 (xs.take i++v::xs.drop i) false):=by
 refine⟨⟨Tryz.f111,Tryz.func111,rfl,rfl⟩,fun s vals hA hg hsz hrel=>?_⟩;obtain⟨rfl,hZ⟩:=hA
 obtain⟨u0,u1,u2,rfl⟩:∃u0 u1 u2,vals = #[u0,u1,u2]:=by
  obtain⟨l⟩:=vals
  match l,hsz with
  | [a,b,c],_=>exact⟨a,b,c,rfl⟩
 have r0:=hrel 0 _ u0 rfl rfl;have r1:=hrel 1 _ u1 rfl rfl;have r2:=hrel 2 _ u2 rfl rfl;cases r1
 cases r0 with
 | buf _ _ _ _ e z xs2 fz A l c hk2 ht hh =>
 rw[hk]at hk2;cases hk2;obtain⟨hA,rfl,hcap,_⟩:=hh rfl
 cases r2 with
 | lst _ _ _ A2 cap2 vb voff uf hcap2 hfull2 hA2 hz2 hcell2 hrel2 =>
 obtain⟨rfl,hP⟩:=hA2 (by simp);obtain⟨hv1,hvo⟩:=hz2 v (by simp)
 obtain⟨d0,d1,hd⟩:∃d0 d1,v.cells=[d0,d1]:=by
  generalize v.cells=l at hv1
  match l,hv1 with
  | [a,b],_=>exact⟨a,b,rfl⟩
 obtain⟨uv,huv⟩:∃uv:List Value,uv=[uf 0 0,uf 0 1]:=⟨_,rfl⟩
 have huvl:uv.length=2:=by rw[huv];rfl
 have hcv:∀(j:Nat) u,uv[j]?=some u→s.w.cell? ⟨vb,voff+j,none⟩=some u:=fun j u hj=>by
  rw[huv]at hj
  match j with
  | 0 =>
   have:=hcell2 0 v 0 d0 rfl (by rw[hd];rfl);simp at hj;subst hj;simpa using this
  | 1 =>
   have:=hcell2 0 v 1 d1 rfl (by rw[hd];rfl);simp at hj;subst hj;simpa using this
  | j+2=>simp at hj
 have hrv:∀(t:Nat) dd u,v.cells[t]?=some dd→uv[t]?=some u→Rel s dd u:=fun t dd u h1 h2=>by
  rw[hd]at h1;rw[huv]at h2
  match t with
  | 0 =>
   simp at h1 h2;subst h1;subst h2;exact hrel2 0 v 0 d0 rfl (by rw[hd];rfl)
  | 1 =>
   simp at h1 h2;subst h1;subst h2;exact hrel2 0 v 1 d1 rfl (by rw[hd];rfl)
  | t+2=>simp at h2
 clear huv;obtain⟨vs,g2,g3,g4,g5,g6,g7⟩:=hg.blk k _ hk;rw[ky]at hcap
 have hcap':c=s.κ k:=by omega
 obtain⟨n,hnl⟩:∃n,n=xs.length:=⟨_,rfl⟩;obtain⟨cs,hcs⟩:∃cs,cs=vs.toList.take (n*2):=⟨_,rfl⟩
 have hcl:cs.length=n*2:=by rw[hcs,lC,lL];omega
 have hcsat:∀(j:Nat) u,cs[j]?=some u→j<n*2∧vs[j]?=some u:=fun j u hj=>by
  rw[hcs,kg]at hj;split at hj
  ·rename_i hjn;exact⟨hjn,by simpa using hj⟩
  ·cases hj
 have hrelc:∀(j:Nat) x (t:Nat) dd u,xs[j]?=some x→x.cells[t]?=some dd→cs[j*2+t]?=some u→Rel s dd u:=fun j x t dd u hx hdd hu=>g7 j x t dd u hx hdd (hcsat _ u hu).2
 have onev:∀u∈uv,u.oneCell'=true:=fun u hu=>by
  obtain⟨j,hj⟩:=List.mem_iff_getElem?.1 hu;have hjl:=aB hj
  have hvl:j<v.cells.length:=by omega
  exact(hrv j _ u (kJ hvl) hj).oneCell (hvo _ (kN hvl))
 have onec:∀u∈cs,u.oneCell'=true:=fun u hu=>by
  obtain⟨j,hj⟩:=List.mem_iff_getElem?.1 hu;have hjn:=(hcsat j u hj).1;have hx:xs[j / 2]?=some (xs[j / 2]'(by omega)):=kJ (by omega);obtain⟨hxl,hxo⟩:=g6 _ (kK hx)
  have htl:j % 2<(xs[j / 2]'(by omega)).cells.length:=by omega
  have hdd:(xs[j / 2]'(by omega)).cells[j % 2]?=some _:=kJ htl;exact(hrelc (j / 2) _ (j % 2) _ u hx hdd (by rw[show j / 2*2+j % 2=j by omega];exact hj)).oneCell (hxo _ (kN htl))
 have hyl:(xs.take i++v::xs.drop i).length=n+1:=by simp;omega
 have hyel:∀y∈xs.take i++v::xs.drop i,y.cells.length=2∧∀d∈y.cells,d.one=true:=fun y hy=>by
  simp only[mR,kZ]at hy
  rcases hy with h | rfl | h
  ·exact g6 y (lF h)
  ·exact⟨hv1,hvo⟩
  ·exact g6 y (lI h)
 have hyrel:∀(j:Nat) y (t:Nat) dd u,(xs.take i++v::xs.drop i)[j]?=some y→y.cells[t]?=some dd→(cs.take (i*2)++uv++cs.drop (i*2))[j*2+t]?=some u→Rel s dd u:=fun j y t dd u hy hdd hu=>by
  have l1:(xs.take i).length=i:=by simp;omega
  have l2:(cs.take (i*2)).length=i*2:=by simp;omega
  have ht2:t<2:=by have:=aB hdd;rw[(hyel y (kK hy)).1]at this;exact this
  rw[kv]at hu
  rcases mg j i with h | h | h
  ·rw[kL (by omega),kg,if_pos h]at hy;rw[kL (by omega),kg,if_pos (by omega)]at hu;exact hrelc j y t dd u hy hdd hu
  ·subst h;rw[kO (by omega),l1,mX]at hy;rw[kO (by omega),l2,show j*2+t-j*2=t by omega,kL (by omega)]at hu;simp at hy;subst hy;exact hrv t dd u hdd hu
  ·obtain⟨m,rfl⟩:∃m,j=i+(m+1):=⟨j-i-1,by omega⟩;rw[kO (by omega),l1,Nat.add_sub_cancel_left,kp,kq]at hy;rw[kO (by omega),l2,kO (by omega),huvl,kq]at hu;exact hrelc (i+m) y t dd u hy hdd (by rw[←hu];congr 1;omega)
 have fin:∀(e:Ending) (w':World) (g c':Nat) (us:Array Value),e = .returned (.slice (some ⟨g,0,none⟩) (n+1) c')→w'.os=s.w.os→w'.tape=s.w.tape→w'.output=s.w.output→s.w.heap.size≤w'.heap.size →
   (∀b,b<s.w.heap.size→(s.κ k≠0→b≠s.φ k)→w'.heap[b]?=s.w.heap[b]?)→((g=s.φ k∧s.κ k≠0)∨s.w.heap.size≤g)→w'.heap[g]?=some (.cells us 41 (0,0))→us.size=c'*2→n+1≤c'→c'≤maxLen→(∀j,j<(n+1)*2→us[j]?=(cs.take (i*2)++uv++cs.drop (i*2))[j]?)→
   ∃(u:Value) (s':AM.St) (r:V),e = .returned u∧s'.w=w'∧AM.Good s'∧AM.Step s s'∧Rel s' r u∧r = .buf k 0 (xs.length+1) (xs.length+1)∧s'.H=s.H.set k (.buf 41 2 (xs.take i++v::xs.drop i) false):=fun e w' g c' us he h1 h2 h3 h4 h5 h6 h7 h8 h9 h10 h11=>by
  obtain⟨k1,k2,k3⟩:=regrowZ (c:=c') hg hk (by rw[hyl];omega) h1 h2 h3 h4 h5 h6 h7 h8 (by rw[hyl];exact h9) h10 hyel (fun j y t dd u hy hdd hu=>hyrel j y t dd u hy hdd (by
   rw[←h11 _ (by
    have a1:=aB hy;have a2:=aB hdd;rw[(hyel y (kK hy)).1]at a2
    omega)]
   exact hu))
  rw[hyl]at k3;refine⟨_,_,.buf k 0 (n+1) (n+1),he,rfl,k1,k2,k3,by rw[hnl],rfl⟩
 have hmx:s.κ k≤maxLen:=g5;by_cases hκ:s.κ k=0
 ·have hn0:n=0:=by omega
  have hi0:i=0:=by omega
  have hc00:c=0:=by omega
  have hcs0:cs=[]:=lK (by omega);subst hi0
  have harg0:Value.slice A xs.length c=Value.slice A 0 0:=by rw[←hnl,hn0,hc00]
  rw[harg0];rw[hn0,hcs0]at fin
  refine(gG A 0 0 vb voff 1 cap2 [] uv s.w (by omega) (by omega) (by omega) (by omega) rfl huvl (fun _=>rfl) (fun a ha j u hj=>by simp at hj) hcv onev).mono fun e w' hew=>?_
  obtain⟨h1,h2⟩:=hew;subst h2;have hgc:=grownCap_ge s.w (0+1) 0 41;refine fin _ (s.w.drew.alloc _) s.w.heap.size _ _ h1 rfl rfl rfl (by simp) (fun b hb hne=>AM.alloc_old s.w.drew _ b hb) (.inr (kM _)) (AM.alloc_new s.w.drew _) ?_ hgc (grownCap_le_maxLen s.w _ _ _ (by unfold maxLen;omega)) (fun j hj=>?_)
  ·have hgc':1≤grownCap s.w 1 0 41:=hgc;simp[Builtin.zeroCells,Value.cells,huvl];omega
  ·rw[lB,if_pos (by simp;omega)];simp
 have hA:=hA hκ;subst hA;have g2:=g2 hκ
 have hvb:vb≠s.φ k:=fun e=>by
  obtain⟨_,_,_,h⟩:=hP.2.2 k (lvB hk hκ) e.symm;rw[hk]at h;cases h
 have harg:(Value.slice (some { block:=s.φ k,off:=0*2 }) xs.length c)=Value.slice (some ⟨s.φ k,0,none⟩) n c:=by rw[hnl,lq]
 rw[harg]
 have hc0:∀j u,cs[j]?=some u→s.w.cell? ⟨s.φ k,0+j,none⟩=some u:=fun j u hj=>by rw[iE g2,ky];exact(hcsat j u hj).2
 have hfz:∀j,s.w.frozen? ⟨s.φ k,j,none⟩=false:=fun j=>by simp[World.frozen?,g2]
 have seg:∀(us L:List Value) (j:Nat),us=cs.take (i*2)++uv++cs.drop (i*2)++L→j<(n+1)*2→us[j]?=(cs.take (i*2)++uv++cs.drop (i*2))[j]?:=fun us L j h hj=>by
  rw[h,kL (by simp;omega)]
 have hshv:∃tA kA,s.w.shape? vb=some (tA,kA)∧kA≠0:=by
  have hcv0:=hcv 0 _ (kJ (by omega));unfold World.cell? at hcv0;split at hcv0
  ·rename_i cc t z hh;simp at hcv0;refine⟨t,cc.size,by simp[World.shape?,hh],fun h0=>?_⟩;have:=(Array.getElem?_eq_some_iff.1 hcv0).1;omega
  ·cases hcv0
 obtain⟨tA,kA,hsA,hkA⟩:=hshv
 have hsB:s.w.shape? (s.φ k)=some (41,vs.size):=by simp[World.shape?,g2]
 rcases lJ i n with hin | hin
 ·rcases lJ c (n+1) with hroom | hroom
  ·
   refine(ins_grow (s.φ k) 0 n c i vb voff 1 cap2 cs uv s.w hin (by omega) (by omega) hroom (by omega) hcl huvl hc0 hcv onec onev).mono fun e w' ⟨h1,h2⟩=>?_
   subst h2;have hgc:=grownCap_ge s.w (n+1) c 41;obtain⟨G,hG⟩:∃G,G=grownCap s.w (n+1) c 41:=⟨_,rfl⟩;rw[←hG]at h1 hgc ⊢;obtain⟨ROW,hROW⟩:∃ROW:Array Value,ROW=(cs.take (i*2)).toArray++Builtin.zeroCells (Value.agg #[.int .i64 0,.slice none 0 0]).cells (n+1-i)++Builtin.zeroCells (Value.agg #[.int .i64 0,.slice none 0 0]).cells (G-(n+1)):=⟨_,rfl⟩;rw[←hROW]
   have hRs:ROW.size=G*2:=by rw[hROW];simp[Builtin.zeroCells,Value.cells];omega
   have hRt:ROW.toList.take (i*2)=cs.take (i*2):=by
    rw[hROW];simp only[Array.toList_append,kv];rw[mD (by simp;omega),lE (by simp;omega)]
   have hw0:((s.w.alloc (.cells ROW 41)).drew).heap[s.w.heap.size]?=some (.cells ROW 41 (0,0)):=AM.alloc_new s.w _;rw[bU s.w.heap.size 41 uv (i*2) ROW _ hw0 (by omega)];have hw1:=setRow_heap _ s.w.heap.size ROW (ROW.toList.take (i*2)++uv++ROW.toList.drop (i*2+uv.length)).toArray 41 (0,0) hw0;obtain⟨R1,hR1⟩:∃R1:Array Value,R1=(ROW.toList.take (i*2)++uv++ROW.toList.drop (i*2+uv.length)).toArray:=⟨_,rfl⟩;rw[←hR1]at hw1 ⊢
   have hR1s:R1.size=G*2:=by rw[hR1];simp;omega
   have hw1':(((s.w.alloc (.cells ROW 41)).drew.setRow s.w.heap.size R1).drew).heap[s.w.heap.size]?=some (.cells R1 41 (0,0)):=hw1
   have hdl:(cs.drop (i*2)).length=(n-i)*2:=by rw[ld,hcl];omega
   rw[bU s.w.heap.size 41 (cs.drop (i*2)) ((i+1)*2) R1 _ hw1' (by omega)];have hw2:=setRow_heap _ s.w.heap.size R1 (R1.toList.take ((i+1)*2)++cs.drop (i*2)++R1.toList.drop ((i+1)*2+(cs.drop (i*2)).length)).toArray 41 (0,0) hw1'
   have hmid:R1.toList.take ((i+1)*2)=cs.take (i*2)++uv:=by
    rw[hR1];simp only[hRt];rw[mD (by simp;omega),lE (by simp;omega)]
   refine fin _ _ s.w.heap.size G _ h1 rfl rfl rfl (by simp) (fun b hb hne=>?_) (.inr (kM _)) hw2 ?_ hgc (by rw[hG];exact grownCap_le_maxLen s.w _ _ _ (by unfold maxLen;omega)) (fun j hj=>?_)
   ·rw[setRow_other _ _ _ _ (by omega)];show((s.w.alloc (.cells ROW 41)).drew.setRow s.w.heap.size R1).heap[b]?=_;rw[setRow_other _ _ _ _ (by omega)];exact AM.alloc_old s.w _ b hb
   ·simp;omega
   ·rw[mI];refine seg _ (R1.toList.drop ((i+1)*2+(cs.drop (i*2)).length)) j ?_ hj;rw[hmid]
  ·
   refine(ins_shift (s.φ k) 0 n c i vb voff 1 cap2 cs uv s.w hin (by omega) hroom (by unfold maxLen at hmx;omega) hvb hcl huvl hc0 (fun j hj=>by rw[iE g2,ky];simp;omega) (fun j hj=>by rw[ky];exact hfz j) hcv onec onev tA 41 kA vs.size hsA hsB (by omega) hkA (hfz _)).mono fun e w' ⟨h1,h2⟩=>?_
   subst h2
   have hdl:(cs.drop (i*2)).length=(n-i)*2:=by rw[ld,hcl];omega
   have e1:=bU (s.φ k) 41 (cs.drop (i*2)) (0+(i+1)*2) vs s.w.drew g2 (by omega);rw[e1];have hw1:=setRow_heap s.w.drew (s.φ k) vs (vs.toList.take (0+(i+1)*2)++cs.drop (i*2)++vs.toList.drop (0+(i+1)*2+(cs.drop (i*2)).length)).toArray 41 (0,0) g2;have e2:=bU (s.φ k) 41 uv (0+i*2) _ _ hw1 (by simp;omega);rw[e2];have hw2:=setRow_heap _ (s.φ k) _ (((vs.toList.take (0+(i+1)*2)++cs.drop (i*2)++vs.toList.drop (0+(i+1)*2+(cs.drop (i*2)).length)).toArray.toList.take (0+i*2)++uv++(vs.toList.take (0+(i+1)*2)++cs.drop (i*2)++vs.toList.drop (0+(i+1)*2+(cs.drop (i*2)).length)).toArray.toList.drop (0+i*2+uv.length)).toArray) 41 (0,0) hw1;have hmid:=mid_takeR vs.toList cs uv i n huvl (by omega) (by rw[lL];omega) hcs;refine fin _ _ (s.φ k) c _ h1 rfl rfl rfl (by simp) (fun b hb hne=>by rw[setRow_other _ _ _ _ (hne hκ),setRow_other _ _ _ _ (hne hκ)];rfl) (.inl ⟨rfl,hκ⟩) hw2 ?_ hroom (by omega) (fun j hj=>?_)
   ·have:=congrArg List.length hmid;simp only[ky,mf];rw[this];simp;omega
   ·rw[mI];simp only[ky];rw[hmid];exact seg _ _ j rfl hj
 ·have hin':i=n:=by omega
  subst hin'
  have htl:cs.take (i*2)++uv++cs.drop (i*2)=cs++uv:=by rw[lE (by omega),kf (by omega),kX]
  rcases lJ c (i+1) with hroom | hroom
  ·refine(gG (some ⟨s.φ k,0,none⟩) i c vb voff 1 cap2 cs uv s.w (by omega) (by omega) hroom (by omega) hcl huvl (fun h=>by cases h) (fun a ha j u hj=>by cases ha;rw[Addr.add_lit];exact hc0 j u hj) hcv onev).mono fun e w' ⟨h1,h2⟩=>?_
   subst h2;have hgc:=grownCap_ge s.w (i+1) c 41;refine fin _ _ s.w.heap.size _ _ h1 rfl rfl rfl (by simp) (fun b hb hne=>AM.alloc_old s.w.drew _ b hb) (.inr (kM _)) (AM.alloc_new s.w.drew _) ?_ hgc (grownCap_le_maxLen s.w _ _ _ (by unfold maxLen;omega)) (fun j hj=>?_)
   ·simp[Builtin.zeroCells,Value.cells,hcl,huvl];omega
   ·rw[htl,lB,if_pos (by simp;omega)];simp
  ·refine(ins_end_room (s.φ k) 0 i c vb voff 1 cap2 uv s.w (by omega) hroom (by unfold maxLen at hmx;omega) huvl (fun j hj=>by rw[iE g2];simp;omega) (fun j hj=>hfz _) hcv onev).mono fun e w' ⟨h1,h2⟩=>?_
   subst h2;rw[bU (s.φ k) 41 uv (0+i*2) vs s.w g2 (by omega)];have hw1:=setRow_heap s.w (s.φ k) vs (vs.toList.take (0+i*2)++uv++vs.toList.drop (0+i*2+uv.length)).toArray 41 (0,0) g2;refine fin _ _ (s.φ k) c _ h1 rfl rfl rfl (by simp) (fun b hb hne=>by rw[setRow_other _ _ _ _ (hne hκ)]) (.inl ⟨rfl,hκ⟩) hw1 ?_ hroom (by omega) (fun j hj=>?_)
   ·simp;omega
   ·rw[mI];refine seg _ (vs.toList.drop (0+i*2+uv.length)) j ?_ hj;rw[htl,ky,←hcs]
end
end Go.Proofs.YtpedcgdgjoblkaaGreatDoor
namespace Go.Proofs.YtpedcgdgjoblkaaGreatDoor
section
open Go Go.AM
theorem rel_lst_le{s:AM.St}{z:Nat}{xs ys:List V}{fl:Bool}{u:Value}(h:Rel s (.lst z fl xs) u)(hl:xs.length=ys.length)(hz:∀y∈ys,y.cells.length=z∧∀c∈y.cells,c.one=true)
  (hle:∀(i:Nat) x y,xs[i]?=some x→ys[i]?=some y→∀(j:Nat) c,y.cells[j]?=some c→∃d,x.cells[j]?=some d∧lfB d c):Rel s (.lst z fl ys) u:=by
 cases h with
 | lst _ _ _ A cap b off u hcap hfull hA hz0 hcell hrel =>
  rw[hl];refine .lst z fl ys A cap b off u (by omega) (fun h=>by rw[←hl];exact hfull h) (fun h=>hA (by omega)) hz (fun i y j c hy hc=>?_) (fun i y j c hy hc=>?_)
  ·have hx:xs[i]?=some (xs[i]'(by have:=aB hy;omega)):=kJ _;obtain⟨d,hd,_⟩:=hle i _ y hx hy j c hc;exact hcell i _ j d hx hd
  ·have hx:xs[i]?=some (xs[i]'(by have:=aB hy;omega)):=kJ _;obtain⟨d,hd,h2⟩:=hle i _ y hx hy j c hc;exact lf_rel (hrel i _ j d hx hd) h2
theorem conP_resR{P:Program}{f:FuncId}{args:List V}{K K':V→Prop}(h:aK P f args K)(hk:∀s u r,K r→Rel s r u→∃r',Rel s r' u∧AM.Pure r'∧K' r'):aK P f args K':=by
 refine⟨h.1,fun F w vals hZ hF hsz hrel=>(h.2 F w vals hZ hF hsz hrel).mono fun e w' ⟨u,r,a1,a2,a3,a4,a5⟩=>?_⟩;obtain⟨r',b1,b2,b3⟩:=hk _ u r a5 a3;exact⟨u,r',a1,b2,b1,a4,b3⟩
end
end Go.Proofs.YtpedcgdgjoblkaaGreatDoor
namespace Go.Proofs.YtpedcgdgjoblkaaGreatDoor
section
open Go Go.AM Go.RowKit Go.Lib
theorem infoG_Z:(Tryz.prog.info? 2).map (fun i=>(i.zero,i.size,i.bytes))=some (some (.int .i64 0),1,8):=by kernel_rfl
theorem growPos_Z(n:Nat)(w:World)(h0:0<n)(hn:n≤1000000):Calls Tryz.prog 315 #[.slice none 0 0,.int .i64 n] w fun e w' =>
   e = .returned (.slice (some ⟨w.heap.size,0,none⟩) 0 (grownCap w n 0 2))∧w'=w.drew.alloc (.cells (Builtin.zeroCells (.int .i64 0:Value).cells n++Builtin.zeroCells (.int .i64 0:Value).cells (grownCap w n 0 2-n)) 2):=by
 obtain⟨i0,hi0,hz0,hs0,hby⟩:=info_parts infoG_Z
 have h1:¬((n:Int)<0):=by omega
 have hz25:∀w,(Go.sizeOf 2).run Tryz.prog w = .ok 1 w:=fun w=>by simp[Go.sizeOf,typeInfo,hi0,hs0]
 have hold:(Builtin.firstCells i0.size 0 (.slice none 0 0)).run Tryz.prog w.drew = .ok ([]:List Value).toArray w.drew:=run_firstCells_none w.drew i0.size 0 0 0
 have hbig:(0+n)*i0.bytes≤140737488355328:=by rw[hby];omega
 have hrz:∀ty,(Builtin.append_ #[59,3] ty #[.slice none 0 0,.int .i64 (n:Int)]).run Tryz.prog w =
   .ok (.slice (some ⟨w.heap.size,0,none⟩) n (grownCap w n 0 2)) (w.drew.alloc (.cells (Builtin.zeroCells (.int .i64 0:Value).cells n++Builtin.zeroCells (.int .i64 0:Value).cells (grownCap w n 0 2-n)) 2)):=fun ty=>by
  have h:=Lib.run_append_grow_zeros (P:=Tryz.prog) w 59 3 ty 2 i0 _ .i64 .i64 Tryz.underlying59 Tryz.underlying3 hi0 hz0 none 0 0 [] hold n h0 (by omega) (by omega) (by omega)
   (by rw[hby];omega)
   (growslice_fits (by omega) hbig)
  simpa using h
 have hGn:n≤grownCap w n 0 2:=grownCap_ge w _ _ _;obtain⟨G,hG⟩:∃G,G=grownCap w n 0 2:=⟨_,rfl⟩;rw[←hG]at hrz hGn ⊢
 have hG63:G≤9223372036854775807:=by
  have:=grownCap_le_maxLen w n 0 2 (by unfold maxLen;omega);rw[←hG]at this;unfold maxLen at this;omega
 have h2:RowKit.wrap64 ((0:Int)-0)=0:=by unfold RowKit.wrap64;omega
 have h3:RowKit.wrap64 ((n:Int)-0)=(n:Int):=by unfold RowKit.wrap64;omega
 have h4:(n:Int)> 0:=by omega
 clear hold hG hbig
 go_enter Tryz.func315,Tryz.ntmps315
 go_wp2_with (at_builtin;refine Lib.wpList_append_run _ rfl _ _ _ _ rfl _ _ rfl rfl _ _ (hrz _) ?_)
 all_goals (go_ret;exact⟨rfl,rfl⟩)
theorem growNil_Z(w:World):Calls Tryz.prog 315 #[.slice none 0 0,.int .i64 0] w fun e w'=>e = .returned (.slice none 0 0)∧w'=w:=by
 go_enter Tryz.func315,Tryz.ntmps315
 go_wp2
 go_ret
 exact⟨rfl,rfl⟩
theorem grow_con_Z(n:Nat)(hn:n≤1000000):df Tryz.prog 315 [.nilS,.int .i64 n] fun e z ys=>e=2∧z=1∧ys=[]:=by
 refine et ⟨Tryz.f315,Tryz.func315,rfl,rfl⟩ (fun F w vals hsz hrel=>?_)
 obtain⟨u0,u1,rfl⟩:∃u0 u1,vals = #[u0,u1]:=by
  obtain⟨l⟩:=vals
  match l,hsz with
  | [a,b],_=>exact⟨a,b,rfl⟩
 have r0:=hrel 0 _ u0 rfl rfl;have r1:=hrel 1 _ u1 rfl rfl;cases r0;cases r1;by_cases h0:n=0
 ·subst h0
  exact(growNil_Z w).mono fun e w' ⟨h1,h2⟩=>⟨_,h1,by subst h2;exact Below.refl _ _,.inl rfl⟩
 ·refine(growPos_Z n w (by omega) hn).mono fun e w' ⟨h1,h2⟩=>?_
  subst h2;have hge:=grownCap_ge w n 0 2;refine⟨_,h1,((Below.refl _ _).drew).alloc (kM _) _,.inr ⟨w.heap.size,grownCap w n 0 2,Builtin.zeroCells (.int .i64 0:Value).cells n++Builtin.zeroCells (.int .i64 0:Value).cells (grownCap w n 0 2-n),rfl,kM _,?_,by omega,grownCap_le_maxLen w n 0 2 (by unfold maxLen;omega),?_⟩⟩
  ·exact mC (xs:=w.heap)
  ·rw[lr,size_zeroCells,size_zeroCells,←kd,mO hge];rfl
theorem grow_nil_Z:aK Tryz.prog 315 [.nilS,.int .i64 0] fun r=>r = .nilS:=by
 refine⟨⟨Tryz.f315,Tryz.func315,rfl,rfl⟩,fun F w vals hZ hF hsz hrel=>?_⟩
 obtain⟨u0,u1,rfl⟩:∃u0 u1,vals = #[u0,u1]:=by
  obtain⟨l⟩:=vals
  match l,hsz with
  | [a,b],_=>exact⟨a,b,rfl⟩
 have r0:=hrel 0 _ u0 rfl rfl;have r1:=hrel 1 _ u1 rfl rfl;cases r0;cases r1
 refine(growNil_Z w).mono fun e w' ⟨h1,h2⟩=>⟨_,_,h1,.nilS,.nilS,by subst h2;exact Below.refl _ _,rfl⟩
end
end Go.Proofs.YtpedcgdgjoblkaaGreatDoor
section

end
namespace Go.Proofs.YtpedcgdgjoblkaaGreatDoor
section
open Go Go.AM Go.RowKit Go.Lib
theorem infoG_C:(Tryz.prog.info? 116).map (fun i=>(i.zero,i.size,i.bytes))=some (some (.agg #[.int .i64 0,.int .i64 0]),2,16):=by kernel_rfl
theorem growPos_C(n:Nat)(w:World)(h0:0<n)(hn:n≤1000000):Calls Tryz.prog 194 #[.slice none 0 0,.int .i64 n] w fun e w' =>
   e = .returned (.slice (some ⟨w.heap.size,0,none⟩) 0 (grownCap w n 0 116))∧w'=w.drew.alloc (.cells (Builtin.zeroCells (.agg #[.int .i64 0,.int .i64 0]:Value).cells n++Builtin.zeroCells (.agg #[.int .i64 0,.int .i64 0]:Value).cells (grownCap w n 0 116-n)) 116):=by
 obtain⟨i0,hi0,hz0,hs0,hby⟩:=info_parts infoG_C
 have h1:¬((n:Int)<0):=by omega
 have hz25:∀w,(Go.sizeOf 116).run Tryz.prog w = .ok 2 w:=fun w=>by simp[Go.sizeOf,typeInfo,hi0,hs0]
 have hold:(Builtin.firstCells i0.size 0 (.slice none 0 0)).run Tryz.prog w.drew = .ok ([]:List Value).toArray w.drew:=run_firstCells_none w.drew i0.size 0 0 0
 have hbig:(0+n)*i0.bytes≤140737488355328:=by rw[hby];omega
 have hrz:∀ty,(Builtin.append_ #[67,3] ty #[.slice none 0 0,.int .i64 (n:Int)]).run Tryz.prog w =
   .ok (.slice (some ⟨w.heap.size,0,none⟩) n (grownCap w n 0 116)) (w.drew.alloc (.cells (Builtin.zeroCells (.agg #[.int .i64 0,.int .i64 0]:Value).cells n++Builtin.zeroCells (.agg #[.int .i64 0,.int .i64 0]:Value).cells (grownCap w n 0 116-n)) 116)):=fun ty=>by
  have h:=Lib.run_append_grow_zeros (P:=Tryz.prog) w 67 3 ty 116 i0 _ .i64 .i64 Tryz.underlying67 Tryz.underlying3 hi0 hz0 none 0 0 [] hold n h0 (by omega) (by omega) (by omega)
   (by rw[hby];omega)
   (growslice_fits (by omega) hbig)
  simpa using h
 have hGn:n≤grownCap w n 0 116:=grownCap_ge w _ _ _;obtain⟨G,hG⟩:∃G,G=grownCap w n 0 116:=⟨_,rfl⟩;rw[←hG]at hrz hGn ⊢
 have hG63:G≤9223372036854775807:=by
  have:=grownCap_le_maxLen w n 0 116 (by unfold maxLen;omega);rw[←hG]at this;unfold maxLen at this;omega
 have h2:RowKit.wrap64 ((0:Int)-0)=0:=by unfold RowKit.wrap64;omega
 have h3:RowKit.wrap64 ((n:Int)-0)=(n:Int):=by unfold RowKit.wrap64;omega
 have h4:(n:Int)> 0:=by omega
 clear hold hG hbig
 go_enter Tryz.func194,Tryz.ntmps194
 go_wp2_with (at_builtin;refine Lib.wpList_append_run _ rfl _ _ _ _ rfl _ _ rfl rfl _ _ (hrz _) ?_)
 all_goals (go_ret;exact⟨rfl,rfl⟩)
theorem growNil_C(w:World):Calls Tryz.prog 194 #[.slice none 0 0,.int .i64 0] w fun e w'=>e = .returned (.slice none 0 0)∧w'=w:=by
 go_enter Tryz.func194,Tryz.ntmps194
 go_wp2
 go_ret
 exact⟨rfl,rfl⟩
theorem grow_con_C(n:Nat)(hn:n≤1000000):df Tryz.prog 194 [.nilS,.int .i64 n] fun e z ys=>e=116∧z=2∧ys=[]:=by
 refine et ⟨Tryz.f194,Tryz.func194,rfl,rfl⟩ (fun F w vals hsz hrel=>?_)
 obtain⟨u0,u1,rfl⟩:∃u0 u1,vals = #[u0,u1]:=by
  obtain⟨l⟩:=vals
  match l,hsz with
  | [a,b],_=>exact⟨a,b,rfl⟩
 have r0:=hrel 0 _ u0 rfl rfl;have r1:=hrel 1 _ u1 rfl rfl;cases r0;cases r1;by_cases h0:n=0
 ·subst h0
  exact(growNil_C w).mono fun e w' ⟨h1,h2⟩=>⟨_,h1,by subst h2;exact Below.refl _ _,.inl rfl⟩
 ·refine(growPos_C n w (by omega) hn).mono fun e w' ⟨h1,h2⟩=>?_
  subst h2;have hge:=grownCap_ge w n 0 116;refine⟨_,h1,((Below.refl _ _).drew).alloc (kM _) _,.inr ⟨w.heap.size,grownCap w n 0 116,Builtin.zeroCells (.agg #[.int .i64 0,.int .i64 0]:Value).cells n++Builtin.zeroCells (.agg #[.int .i64 0,.int .i64 0]:Value).cells (grownCap w n 0 116-n),rfl,kM _,?_,by omega,grownCap_le_maxLen w n 0 116 (by unfold maxLen;omega),?_⟩⟩
  ·exact mC (xs:=w.heap)
  ·rw[lr,size_zeroCells,size_zeroCells,←kd,mO hge];rfl
theorem grow_nil_C:aK Tryz.prog 194 [.nilS,.int .i64 0] fun r=>r = .nilS:=by
 refine⟨⟨Tryz.f194,Tryz.func194,rfl,rfl⟩,fun F w vals hZ hF hsz hrel=>?_⟩
 obtain⟨u0,u1,rfl⟩:∃u0 u1,vals = #[u0,u1]:=by
  obtain⟨l⟩:=vals
  match l,hsz with
  | [a,b],_=>exact⟨a,b,rfl⟩
 have r0:=hrel 0 _ u0 rfl rfl;have r1:=hrel 1 _ u1 rfl rfl;cases r0;cases r1
 refine(growNil_C w).mono fun e w' ⟨h1,h2⟩=>⟨_,_,h1,.nilS,.nilS,by subst h2;exact Below.refl _ _,rfl⟩
end
end Go.Proofs.YtpedcgdgjoblkaaGreatDoor
