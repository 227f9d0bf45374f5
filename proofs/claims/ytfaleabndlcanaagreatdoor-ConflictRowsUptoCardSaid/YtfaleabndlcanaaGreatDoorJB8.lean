/- JB8: own texts of this seat, joined by pack2.py: Lay, C1, Ins, C2, C3, W1, W2, Pl1, Enc, Open, Opb, Bulk, W6, W7, W8, W9, W10, Pl2, W12, W13, W16, W17, K0, T1, T2, T3, T4, T5, Wk, T6, T7, T8, Ve, W3, Pl3, Pl4. -/
import Derived.Test.YtfaleabndlcanaaGreatDoorJB7
import Derived.Test.YtfaleabndlcanaaGreatDoorRows
import Derived.ProofKit
import Derived.LaidMore
import Derived.OpenShut
import Derived.Stop.Joined
import Derived.Laws.BitsAllLaws
import Derived.Laws.BitsLemmas
import Derived.Laws.Externs
import Derived.Lib.Bytealg
import Derived.Laws.IdiomCopy
import Derived.Laws.NewBlocks
import Derived.Lib.AppendZeros
import Derived.Lib.AppendZerosOnto
import Derived.Lib.JoinLaws
import Derived.Lib.Overlaps
import Derived.Lib.SliceRun
import Derived.Lib.Walk
import Derived.Shelf.RegionOpenPlain
import Derived.WalkKit
import Derived.WalkSpells
import Derived.WalkLawsBesides
import Derived.Lib.Hide
import Derived.Maps.AppendAt
set_option linter.unusedVariables false
set_option linter.unusedSimpArgs false
set_option maxRecDepth 100000
set_option maxHeartbeats 64000000
namespace Go.Proofs.YtfaleabndlcanaaGreatDoor
section
open Go.ChangeShapes Go.WideShapes Go.ChangeAt Go.WideMaps Go.WideElems Go.RowKit Go.AM
theorem own:ownKnob Tryz.prog.godebug=none:=by kernel_rfl
theorem laidOut:laidOutB Tryz.prog=true:=by kernel_rfl
theorem gTab:Tryz.prog.globalNamed "math/bits.deBruijn32tab" = some 0:=by kernel_rfl
theorem tTab:(Tryz.prog.globals[0]?).map (·.type)=some 240:=by kernel_rfl
def laid1 {H:Type} : List (String×DataW H):=[("math/bits.deBruijn32tab",Rows.laid_math_bits_deBruijn32tab)]
theorem door_met (os:Os) (args:Array Value):laidMetH Tryz.prog laid1 ((World.doorLaid Tryz.prog 400 os).forCall (fun _ _=>0) ⟨#[],args,[]⟩).memory :=
 laidMetH_of_parts3 (fuel:=8) (laidMet_of_run' 8 (by kernel_rfl) (by kernel_rfl)) (by kernel_rfl) (by kernel_rfl)
theorem of_laid {W:World} (h:laidMetH Tryz.prog laid1 W):∀(i:Nat) x,bitsTab[i]?=some x→W.cell? ⟨0,i,none⟩=some (.int .u8 x):=by
 rw [MakeChecks.laidMetH_plain _ _ _ (by kernel_rfl)] at h
 obtain ⟨ps,⟨g0,t0,cs0,f0,p0,q0,hg0,ht0,hv0,hd0,_,_⟩,_,_⟩:=h
 obtain rfl:=Option.some.inj (gTab.symm.trans hg0)
 obtain rfl:=Option.some.inj (tTab.symm.trans ht0)
 obtain ⟨xs,m1,rfl,hx1,hlen,hn3,hel⟩:=DataW.trod_array Tryz.underlying240 hd0
 have c5:Tryz.prog.cellsOf 5=1:=by kernel_rfl
 simp only [Prod.mk.injEq,Rows.laid_math_bits_deBruijn32tab,DataW.agg.injEq] at hx1
 intro i x hx
 have hi:i<32:=by have:=getElem?_lt hx; simpa [bitsTab] using this
 have h1:=hel i hi
 rw [c5,Nat.mul_one,List.getElem?_eq_getElem (by omega)] at h1
 obtain ⟨k,e1,e2,_⟩:=DataW.trod_int Tryz.underlying5 h1
 have hk:k=x:=by
  have hl:(bitsTab.map fun y=>DataW.lit (.int .u8 y))=xs.map (·.1):=hx1.1
  have h3:=congrArg (fun l=>l[i]?) hl
  simp only [List.getElem?_map,List.getElem?_eq_getElem (show i<xs.length by omega),Option.map_some,hx,e2,Option.some.injEq,DataW.lit.injEq,Lit.int.injEq,true_and] at h3
  exact h3.symm
 subst hk
 have hcell:=World.var?_cell hg0 hv0 i
 rw [hcell]
 have e3:(cs0.toList.drop i).take 1=[.int .u8 k]:=e1
 have:cs0.toList[i]?=some (.int .u8 k):=by
  have h4:=congrArg (fun l=>l[0]?) e3
  simpa [List.getElem?_take,List.getElem?_drop] using h4
 simpa using this
theorem gok {W:World} (h:laidMetH Tryz.prog laid1 W):GOk Tryz.prog (AM.base (fun _=>False) W):=fun g hg=>by
 obtain rfl:=Option.some.inj (gTab.symm.trans hg)
 have hc:=of_laid h
 refine ⟨⟨?_,fun h=>h,fun k hk=>by have:=hk.1; simp [AM.base] at this⟩,hc⟩
 exact World.block_lt_of_cell? W _ (hc 0 0 rfl)
theorem cells_ok:∀t i,T t=some i→Tryz.prog.cellsOf t=i.size:=fun t i hi=>by
 obtain ⟨inf,h1,h2,_⟩:=tok.info t i hi
 simp [Program.cellsOf,h1,h2]
end
end Go.Proofs.YtfaleabndlcanaaGreatDoor
namespace Go.Proofs.YtfaleabndlcanaaGreatDoor
section
open Go Go.AM Go.RowKit
def tzIx (x:Int):Nat:=(bits BinOp.and IntKind.u32 x (-x % 4294967296)*125613361 % 4294967296 / 134217728).toNat
def tzI (x:Int):Int:=if x=0 then 32 else (bitsTab[tzIx x]?).getD 0
theorem tab_lt (i:Nat) (h:i<32):∃y,bitsTab[i]?=some y∧0≤y∧y<32:=by
 have:∀i:Fin 32,∃y,bitsTab[i.1]?=some y∧0≤y∧y<32:=by decide
 exact this ⟨i,h⟩
theorem tz_any (x:Int) (w:World) (hz:∀(i:Nat) y,bitsTab[i]?=some y→w.cell? ⟨0,i,none⟩=some (.int .u8 y)) :
  Calls Tryz.prog 155 #[.int .u32 x] w fun e w'=>e = .returned (.int .i64 (tzI x))∧w'=w:=by
 by_cases hx:x=0
 ·have hb:(x == 0)=true:=by simpa using hx
  go_enter Tryz.func155,Tryz.ntmps155
  go_wp2
  go_ret
  exact ⟨by simp [tzI,hx],rfl⟩
 ·have hb:(x == 0)=false:=by simpa using hx
  have h0:0≤bits BinOp.and IntKind.u32 x (-x % 4294967296)*125613361 % 4294967296 / 134217728:=by omega
  have h1:bits BinOp.and IntKind.u32 x (-x % 4294967296)*125613361 % 4294967296 / 134217728<32:=by omega
  obtain ⟨y,hy,y0,y1⟩:=tab_lt (tzIx x) (by unfold tzIx; omega)
  have hc:=hz _ y hy
  unfold tzIx at hc
  have hy':tzI x=y:=by simp [tzI,hx,hy]
  clear hz
  go_enter Tryz.func155,Tryz.ntmps155
  go_wp2
  go_ret
  exact ⟨by rw [hy']; simp,rfl⟩
theorem tz_con (x:Int):ConP Tryz.prog 155 [.int .u32 x] fun r=>r = .int .i64 (tzI x):=by
 refine ⟨⟨Tryz.f155,Tryz.func155,rfl,rfl⟩,fun F w vals hZ hF hsz hrel=>?_⟩
 obtain ⟨v0,rfl⟩:∃v0,vals = #[v0]:=by
  obtain ⟨l⟩:=vals
  match l,hsz with
  | [a],_=>exact ⟨a,rfl⟩
 have h0:=hrel 0 _ v0 rfl rfl
 cases h0
 refine (tz_any x w (hZ 0 (by kernel_rfl)).2).mono fun e w' ⟨h1,h2⟩=>⟨_,_,h1,.int _ _,.int _ _,by subst h2; exact Below.refl _ _,rfl⟩
def cmpS (a b:ByteArray):Int:=Lib.compareBytes a.data.toList b.data.toList
theorem cmp_any (a b:ByteArray) (w:World):Calls Tryz.prog 220 #[.string a,.string b] w fun e w'=>e = .returned (.int .i64 (cmpS a b))∧w'=w:=by
 have hc:∀w,(callFunc 222 #[.string a,.string b]).run Tryz.prog w = .ok (.value (.int .i64 (cmpS a b))) w:=fun w=>by
  rw [run_callFunc_extern Tryz.func222 (by kernel_rfl) (by kernel_rfl) (by kernel_rfl) (e:=Extern.BytealgCompare.compare) (by kernel_rfl),Lib.run_compareString]
  rfl
 go_enter Tryz.func220,Tryz.ntmps220
 go_wp2_with (simp only [hc])
 go_ret
 exact ⟨rfl,rfl⟩
theorem cmp_con (a b:ByteArray):ConP Tryz.prog 220 [.str a,.str b] fun r=>r = .int .i64 (cmpS a b):=by
 refine ⟨⟨Tryz.f220,Tryz.func220,rfl,rfl⟩,fun F w vals hZ hF hsz hrel=>?_⟩
 obtain ⟨v0,v1,rfl⟩:∃v0 v1,vals = #[v0,v1]:=by
  obtain ⟨l⟩:=vals
  match l,hsz with
  | [a,b],_=>exact ⟨a,b,rfl⟩
 have h0:=hrel 0 _ v0 rfl rfl
 have h1:=hrel 1 _ v1 rfl rfl
 cases h0
 cases h1
 refine (cmp_any a b w).mono fun e w' ⟨h1,h2⟩=>⟨_,_,h1,.int _ _,.int _ _,by subst h2; exact Below.refl _ _,rfl⟩
end
end Go.Proofs.YtfaleabndlcanaaGreatDoor
namespace Go.Proofs.YtfaleabndlcanaaGreatDoor
section
open Go Go.Shelf Go.RowKit Go.Lib
section
section
variable {P:Program}
theorem run_overlaps_own (w:World) (tS tR e:TypeId) (ht:P.underlying tS=some (.slice e)) (size:Nat) (hz:∀w,(Go.sizeOf e).run P w = .ok size w)
  (a b:Addr) (la ca lb cb:Nat) (hne:a.block≠b.block) (tA tB:TypeId) (kA kB:Nat)
  (hsa:w.shape? a.block=some (tA,kA)) (hsb:w.shape? b.block=some (tB,kB)) (hkA:kA≠0) (hkB:kB≠0)
  (hfb:w.frozen? b=false) (hfe:w.frozen? { block:=b.block,off:=kB } = false) :
  (Extern.SlicesOverlaps.overlaps #[tS,tS] #[tR] #[.slice (some a) la ca,.slice (some b) lb cb]).run P w = .ok (.bool false) w:=by
 have hnb:(a.block != b.block)=true:=by simpa using hne
 have hnb':(a.block == b.block)=false:=by simpa using hne
 change Sem.run P (α:=Value) (do
  let some t:=(#[tS,tS]:Array TypeId)[0]? | stuck "slices.overlaps: no parameter types"
  let .slice elem ←underlying t | stuck "slices.overlaps: slice type expected"
  let size ←sizeOf elem
  match (some a:Option Addr),(some b:Option Addr) with
  | some a,some b =>
   if la=0∨lb=0∨size=0 then pure (Value.bool false)
   else if a.block != b.block&&(←frozen a)&&(←frozen b) then unsupported .addressObserved
   else do
    if a.block != b.block then do
     noView a; noView b
     if ←mayBeOne a b then return Value.bool ((←choose (.extern "sameAddr.stringBytes" 2)) == 1)
    pure (Value.bool (a.block == b.block&&a.off<b.off+lb*size&&b.off<a.off+la*size))
  | _,_=>pure (Value.bool false)) w=_
 by_cases h0:la=0∨lb=0∨size=0
 ·simp [run_underlying ht,hz,h0]
 ·cases kB with
  | zero=>exact absurd rfl hkB
  | succ kB =>
   cases kA with
   | zero=>exact absurd rfl hkA
   | succ kA=>simp [run_underlying ht,hz,h0,hnb,hnb',frozen,noView,viewAt,mayBeOne,stringish,shape,Sem.run,hsa,hsb,hfb,hfe]
theorem insI:(Tryz.prog.info? 2).map (fun i=>(i.zero,i.size,i.bytes))=some (some (Value.int IntKind.i64 0),1,8):=by kernel_rfl
theorem insZ:∀w,(Go.sizeOf 2).run Tryz.prog w = .ok 1 w:=fun w=>AM.run_sizeOf tok T_2 w
theorem insM:Tryz.prog.follows .mixedOrders=true:=by kernel_rfl
theorem wp_copy_runI (w:World) {o:Oper} {a:Act} {K:Act→World→Prop} {Q:Exit→Act→World→Prop} (d s:Operand) (t t':TypeId)
  (ho:o.op = .call { callee:=.builtin .copy,args:=#[d,s],argTypes:=#[t,t'] }) (v u:Value) (hd:a.eval d=v) (hs:a.eval s=u) {v':Value} {w':World}
  (hr:(Builtin.copy_ #[t,t'] o.type #[v,u]).run P w = .ok v' w') (h:K (a.put o.dst v') w'):o.wp P a w K Q:=by
 unfold Oper.wp execOp
 simp only [ho,resolve,invoke,builtin,Sem.run_bind,Sem.run_pure,Result.andThen_ok,List.map_toArray,List.map_cons,List.map_nil,hd,hs,hr]
 exact h
theorem wpList_copy_runI (w:World) {ops:Array Oper} {rest:List Oper} {o:Oper} {a:Act} {Q:Exit→Act→World→Prop} (hgd:o.guard=none) (d s:Operand) (t t':TypeId)
  (ho:o.op = .call { callee:=.builtin .copy,args:=#[d,s],argTypes:=#[t,t'] }) (v u:Value) (hd:a.eval d=v) (hs:a.eval s=u) {v':Value} {w':World}
  (hr:(Builtin.copy_ #[t,t'] o.type #[v,u]).run P w = .ok v' w') (h:wpList P ops Q rest (a.put o.dst v') w'):wpList P ops Q (o::rest) a w :=
 wpList_plain hgd fun _ hK=>wp_copy_runI w d s t t' ho v u hd hs hr (hK _ _ h)
theorem step_copy_runI {ops:Array Oper} {o:Oper} {a:Act} {w:World} {K:Act→World→Prop} {Q:Exit→Act→World→Prop} {E:Prop}
  (hg:o.guard=none) (d x:Operand) (dT sT:TypeId) (hop:o.op=Op.call { callee:=Callee.builtin Builtin.copy,args:=#[d,x],argTypes:=#[dT,sT] })
  (v u:Value) (hd:a.eval d=v) (hx:a.eval x=u) {v':Value} {w':World} (hr:(Builtin.copy_ #[dT,sT] o.type #[v,u]).run P w = .ok v' w') (hK:K (a.put o.dst v') w') :
  if Region.wanted o (yielded ops a.tmps)=true then Oper.wp P o a w K Q else E:=by
 have hw:Region.wanted o (yielded ops a.tmps)=true:=by simp [Region.wanted,hg]
 rw [if_pos hw]
 unfold Oper.wp
 simp [execOp,hop,resolve,invoke,builtin,hd,hx,hr,Result.andThen]
 exact hK
theorem isSome_setCells (b:Nat) (vs:List Value) (o:Nat) (w:World) (h:∀j,j<vs.length→(w.cell? ⟨b,o+j,none⟩).isSome=true) (k:Nat) (hk:(w.cell? ⟨b,k,none⟩).isSome=true):((w.setCells b o vs).cell? ⟨b,k,none⟩).isSome=true:=by
 by_cases hin:o≤k∧k<o+vs.length
 ·have:=World.cell?_setCells_in b vs o w h (k - o) (by omega)
  rw [show o+(k - o)=k by omega] at this
  rw [this]; rfl
 ·rw [World.cell?_setCells_out b vs o w ⟨b,k,none⟩ (fun _ _=>by show k<o∨o+vs.length≤k; omega)]
  exact hk
theorem ins_shift (b off n c i vb voff m vc:Nat) (cs vs:List Value) (w:World) (hi:i<n) (hm:0<m) (hroom:n+m≤c) (hc63:c≤9223372036854775807) (hvb:vb≠b)
  (hcl:cs.length=n) (hvl:vs.length=m)
  (hcs:∀j v,cs[j]?=some v→w.cell? ⟨b,off+j,none⟩=some v) (hsp:∀j,j<n+m→(w.cell? ⟨b,off+j,none⟩).isSome=true) (hfz:∀j,j<n+m→w.frozen? ⟨b,off+j,none⟩=false)
  (hvs:∀j v,vs[j]?=some v→w.cell? ⟨vb,voff+j,none⟩=some v) (h1c:∀v∈cs,v.oneCell'=true) (h1v:∀v∈vs,v.oneCell'=true)
  (tA tB:TypeId) (kA kB:Nat) (hsa:w.shape? vb=some (tA,kA)) (hsb:w.shape? b=some (tB,kB)) (hkB:kB≠0) (hkA:kA≠0) (hfe:w.frozen? ⟨b,kB,none⟩=false) :
  Calls Tryz.prog 56 #[.slice (some ⟨b,off,none⟩) n c,.int .i64 i,.slice (some ⟨vb,voff,none⟩) m vc] w fun e w' =>
   e = .returned (.slice (some ⟨b,off,none⟩) (n+m) c)∧w'=(w.drew.setCells b (off+(i+m)) (cs.drop i)).setCells b (off+i) vs:=by
 have hz1:¬((m:Int)=0):=by omega
 have hz2:¬((i:Int)=(n:Int)):=by omega
 have hsz:(Tryz.prog.info? 2).map (·.size)=some 1:=by
  obtain ⟨i0,hi0,h0,h1,h2⟩:=info_parts insI
  rw [hi0]; simp [h1]
 have hov:∀lb cb,(callFunc 98 #[.slice (some ⟨vb,voff,none⟩) m vc,.slice (some ⟨b,off+(i+m),none⟩) lb cb]).run Tryz.prog w = .ok (.value (.bool false)) w:=fun lb cb=>by
  rw [run_callFunc_extern Tryz.func98 (by kernel_rfl) (by kernel_rfl) (by kernel_rfl) (e:=Extern.SlicesOverlaps.overlaps #[46,46] #[4]) (by kernel_rfl),
   run_overlaps_own w 46 4 2 Tryz.underlying46 1 insZ ⟨vb,voff,none⟩ ⟨b,off+(i+m),none⟩ m vc lb cb hvb tA tB kA kB hsa hsb hkA hkB (hfz (i+m) (by omega)) hfe]
  rfl
 have hdl:(cs.drop i).length=n - i:=by rw [List.length_drop,hcl]
 have mixed:=insM
 have hw1:IntKind.i64.wrap ((i:Int)+(m:Int))=(i:Int)+(m:Int):=by rw [IntKind.wrap_i64]; omega
 have hb1:(0:Int)≤(i:Int)+(m:Int):=by omega
 have hin:i≤n:=by omega
 have htn:((i:Int)+(m:Int)).toNat=i+m:=by omega
 have hb2:¬(c=i+m):=by omega
 have hb3:(i:Int)≤(n:Int)+(m:Int):=by omega
 have hb4:¬(c=i):=by omega
 have hcp1:∀ty dc sc,(Builtin.copy_ #[46,46] ty #[.slice (some ⟨b,off+(i+m),none⟩) (n+m - (i+m)) dc,.slice (some ⟨b,off+i,none⟩) (n+m - i) sc]).run Tryz.prog w.drew = .ok (goInt (cs.drop i).length) (w.drew.setCells b (off+(i+m)) (cs.drop i)):=fun ty dc sc =>
  run_copy_cells w.drew _ _ ty 2 b (off+(i+m)) (n+m - (i+m)) dc ⟨b,off+i,none⟩ (n+m - i) sc (cs.drop i) Tryz.underlying46 hsz (by rw [hdl]; simp only [Nat.min_def]; split<;>omega)
   (fun j v hj=>by rw [Addr.add_lit,Nat.add_assoc]; exact hcs (i+j) v (by rwa [List.getElem?_drop] at hj))
   (fun j hj=>by rw [Nat.add_assoc]; exact hsp _ (by omega)) (fun j hj=>by rw [Nat.add_assoc]; exact hfz _ (by omega)) (fun v hv=>h1c v (List.mem_of_mem_drop hv))
 obtain ⟨W1,hW1⟩:∃W1,W1=w.drew.setCells b (off+(i+m)) (cs.drop i):=⟨_,rfl⟩
 have hsp1:∀k,k<n+m→(W1.cell? ⟨b,off+k,none⟩).isSome=true:=fun k hk=>by
  rw [hW1]
  exact isSome_setCells b _ _ _ (fun j hj=>by rw [Nat.add_assoc]; exact hsp _ (by omega)) _ (hsp k hk)
 have hcp2:∀(W:World),(∀x,W.cell? x=W1.cell? x)→(∀x,W.frozen? x=W1.frozen? x)→∀ty dc,(Builtin.copy_ #[46,46] ty #[.slice (some ⟨b,off+i,none⟩) (n+m - i) dc,.slice (some ⟨vb,voff,none⟩) m vc]).run Tryz.prog W = .ok (goInt vs.length) (W.setCells b (off+i) vs):=fun W hWc hWf ty dc =>
  run_copy_cells W _ _ ty 2 b (off+i) (n+m - i) dc ⟨vb,voff,none⟩ m vc vs Tryz.underlying46 hsz (by rw [hvl]; simp only [Nat.min_def]; split<;>omega)
   (fun j v hj=>by
    rw [Addr.add_lit,hWc,hW1,World.cell?_setCells_out b _ _ _ _ (fun h _=>absurd h hvb)]
    exact hvs j v hj)
   (fun j hj=>by rw [hWc,Nat.add_assoc]; exact hsp1 _ (by omega)) (fun j hj=>by rw [hWf,hW1,World.frozen?_setCells,Nat.add_assoc]; exact hfz _ (by omega)) h1v
 rw [←hW1] at hcp1
 go_enter Tryz.func56,Tryz.ntmps56
 go_wp2_with (simp only [hov])
 go_region_law_o (refine step_copy_runI rfl _ _ 46 46 rfl _ _ (by simp [Act.eval,Act.put]) (by simp [Act.eval,Act.put]) (hcp1 _ _ _) ?_)
 go_wp2_with (at_builtin; refine wpList_copy_runI _ rfl _ _ 46 46 rfl _ _ rfl rfl (hcp2 _ (fun _=>rfl) (fun _=>rfl) _ _) ?_)
 go_ret
 first | exact ⟨rfl,rfl⟩ | exact ⟨rfl,by rw [hW1]⟩
theorem ins_end_room (b off n c vb voff m vc:Nat) (vs:List Value) (w:World) (hm:0<m) (hroom:n+m≤c) (hc63:c≤9223372036854775807)
  (hvl:vs.length=m) (hsp:∀j,j<m→(w.cell? ⟨b,off+n+j,none⟩).isSome=true) (hfz:∀j,j<m→w.frozen? ⟨b,off+n+j,none⟩=false)
  (hvs:∀j v,vs[j]?=some v→w.cell? ⟨vb,voff+j,none⟩=some v) (h1v:∀v∈vs,v.oneCell'=true) :
  Calls Tryz.prog 56 #[.slice (some ⟨b,off,none⟩) n c,.int .i64 n,.slice (some ⟨vb,voff,none⟩) m vc] w fun e w' =>
   e = .returned (.slice (some ⟨b,off,none⟩) (n+m) c)∧w'=w.setCells b (off+n) vs:=by
 have mixed:=insM
 have hz1:¬((m:Int)=0):=by omega
 have hsrc:Src Tryz.prog 1 46 (.slice (some ⟨vb,voff,none⟩) m vc) m vs w:=Src.ofSlice w Tryz.underlying46 ⟨vb,voff,none⟩ m vc vs (by omega) (fun j u hj=>by rw [Addr.add_lit]; exact hvs j u hj) h1v
 go_enter Tryz.func56,Tryz.ntmps56
 go_wp2_with (at_builtin; refine wpList_append_room1 _ rfl _ _ 46 46 rfl 2 _ _ Tryz.underlying46 insI b off n c rfl _ rfl m vs hsrc hroom (by rw [hvl]; exact hsp) (by rw [hvl]; exact hfz) ?_)
 go_ret
 exact ⟨rfl,rfl⟩
theorem ins_end_grow (base:Option Addr) (n c vb voff m vc:Nat) (cs vs:List Value) (w:World) (hm:0<m) (hnc:n≤c) (hroom:c<n+m) (hbig:(n+m)*8≤140737488355328)
  (hcl:cs.length=n) (hvl:vs.length=m) (hnil:base=none→n=0)
  (hcs:∀a,base=some a→∀j v,cs[j]?=some v→w.cell? (a.add j)=some v)
  (hvs:∀j v,vs[j]?=some v→w.cell? ⟨vb,voff+j,none⟩=some v) (h1v:∀v∈vs,v.oneCell'=true) :
  Calls Tryz.prog 56 #[.slice base n c,.int .i64 n,.slice (some ⟨vb,voff,none⟩) m vc] w fun e w' =>
   e = .returned (.slice (some ⟨w.heap.size,0,none⟩) (n+m) (grownCap w (n+m) c 2)) ∧
   w'=w.drew.alloc (.cells ((cs++vs).toArray++Builtin.zeroCells (Value.int .i64 0).cells (grownCap w (n+m) c 2 - (n+m))) 2):=by
 have mixed:=insM
 obtain ⟨i0,hi0,hz0,hzs,hzb⟩:=info_parts insI
 have hz1:¬((m:Int)=0):=by omega
 have hsrc:Src Tryz.prog i0.size 46 (.slice (some ⟨vb,voff,none⟩) m vc) m vs w:=by
  rw [hzs]
  exact Src.ofSlice w Tryz.underlying46 ⟨vb,voff,none⟩ m vc vs (by omega) (fun j u hj=>by rw [Addr.add_lit]; exact hvs j u hj) h1v
 have hold:(Builtin.firstCells i0.size n (.slice base n c)).run Tryz.prog w.drew = .ok cs.toArray w.drew:=by
  rw [hzs]
  cases base with
  | none =>
   have h0:=hnil rfl
   subst h0
   rw [List.length_eq_zero_iff.1 hcl]
   exact run_firstCells_none w.drew 1 0 0 c
  | some a=>exact run_firstCells_some w.drew 1 n a n c cs (by omega) (fun j v hj=>hcs a rfl j v hj)
 have hrun:∀ty,(Builtin.append_ #[46,46] ty #[.slice base n c,.slice (some ⟨vb,voff,none⟩) m vc]).run Tryz.prog w=_:=fun ty =>
  run_append_grow_src w 46 46 ty 2 i0 _ Tryz.underlying46 hi0 hz0 base n c cs hold _ m vs hsrc hroom (by omega) (by rw [hzb]; exact growslice_fits hroom hbig)
 go_enter Tryz.func56,Tryz.ntmps56
 cases base with
 | none =>
  have h0:=hnil rfl
  subst h0
  go_wp2_with (at_builtin; refine Lib.wpList_append_run _ rfl _ _ _ _ rfl _ _ rfl rfl _ _ (hrun _) ?_)
  go_ret
  exact ⟨rfl,rfl⟩
 | some a =>
  obtain ⟨ab,ao,asp⟩:=a
  go_wp2_with (at_builtin; refine Lib.wpList_append_run _ rfl _ _ _ _ rfl _ _ rfl rfl _ _ (hrun _) ?_)
  all_goals (go_ret; exact ⟨rfl,rfl⟩)
theorem ins_grow (b off n c i vb voff m vc:Nat) (cs vs:List Value) (w:World) (hi:i<n) (hm:0<m) (hnc:n≤c) (hroom:c<n+m) (hbig:(n+m)*8≤140737488355328)
  (hcl:cs.length=n) (hvl:vs.length=m)
  (hcs:∀j v,cs[j]?=some v→w.cell? ⟨b,off+j,none⟩=some v)
  (hvs:∀j v,vs[j]?=some v→w.cell? ⟨vb,voff+j,none⟩=some v) (h1c:∀v∈cs,v.oneCell'=true) (h1v:∀v∈vs,v.oneCell'=true) :
  Calls Tryz.prog 56 #[.slice (some ⟨b,off,none⟩) n c,.int .i64 i,.slice (some ⟨vb,voff,none⟩) m vc] w fun e w' =>
   e = .returned (.slice (some ⟨w.heap.size,0,none⟩) (n+m) (grownCap w (n+m) c 2)) ∧
   w'=(((w.alloc (.cells ((cs.take i).toArray++Builtin.zeroCells (Value.int .i64 0).cells (n+m - i)++Builtin.zeroCells (Value.int .i64 0).cells (grownCap w (n+m) c 2 - (n+m))) 2)).drew.setCells w.heap.size i vs).drew).setCells w.heap.size (i+m) (cs.drop i):=by
 have mixed:=insM
 obtain ⟨i0,hi0,hz0,hzs,hzb⟩:=info_parts insI
 have hz1:¬((m:Int)=0):=by omega
 have hz2:¬((i:Int)=(n:Int)):=by omega
 have hz3:(c:Int)<(n:Int)+(m:Int):=by omega
 have hsz:(Tryz.prog.info? 2).map (·.size)=some 1:=by rw [hi0]; simp [hzs]
 have hbw:b<w.heap.size:=block_lt_of_cell (hcs 0 _ (List.getElem?_eq_getElem (by omega)))
 have hvw:vb<w.heap.size:=block_lt_of_cell (hvs 0 _ (List.getElem?_eq_getElem (by omega)))
 have hkk:(n:Int)+(m:Int) - (i:Int)=((n+m - i:Nat):Int):=by omega
 have hik:i+(n+m - i)=n+m:=by omega
 have hold:(Builtin.firstCells i0.size i (.slice (some ⟨b,off,none⟩) i c)).run Tryz.prog w.drew = .ok (cs.take i).toArray w.drew:=by
  rw [hzs]
  exact run_firstCells_some w.drew 1 i ⟨b,off,none⟩ i c (cs.take i) (by rw [List.length_take]; omega) (fun j v hj=>by
   rw [Addr.add_lit]
   rw [List.getElem?_take] at hj
   split at hj
   ·exact hcs j v hj
   ·cases hj)
 have hrz:∀ty,(Builtin.append_ #[46,3] ty #[.slice (some ⟨b,off,none⟩) i c,.int .i64 ((n:Int)+(m:Int) - (i:Int))]).run Tryz.prog w =
   .ok (.slice (some ⟨w.heap.size,0,none⟩) (n+m) (grownCap w (n+m) c 2)) (w.drew.alloc (.cells ((cs.take i).toArray++Builtin.zeroCells (Value.int .i64 0).cells (n+m - i)++Builtin.zeroCells (Value.int .i64 0).cells (grownCap w (n+m) c 2 - (n+m))) 2)):=fun ty=>by
  have h:=Lib.run_append_grow_zeros w 46 3 ty 2 i0 _ .i64 .i64 Tryz.underlying46 Tryz.underlying3 hi0 hz0 (some ⟨b,off,none⟩) i c (cs.take i) hold (n+m - i) (by omega) (by omega) (by omega) (by omega) (by rw [hzb]; omega) (by rw [hzb,hik]; exact growslice_fits hroom hbig)
  rw [hik] at h
  rw [hkk]
  exact h
 obtain ⟨G,hG⟩:∃G,G=grownCap w (n+m) c 2:=⟨_,rfl⟩
 obtain ⟨ROW,hROW⟩:∃ROW:Array Value,ROW=(cs.take i).toArray++Builtin.zeroCells (Value.int .i64 0).cells (n+m - i)++Builtin.zeroCells (Value.int .i64 0).cells (G - (n+m)):=⟨_,rfl⟩
 rw [←hG] at hrz ⊢
 rw [←hROW] at hrz ⊢
 have hRl:n+m≤ROW.size:=by
  rw [hROW]
  simp [Builtin.zeroCells,Value.cells]
  omega
 obtain ⟨W1,hW1⟩:∃W1,W1=w.drew.alloc (.cells ROW 2):=⟨_,rfl⟩
 rw [←hW1] at hrz
 have hN:∀j,j<n+m→(W1.cell? ⟨w.heap.size,j,none⟩).isSome=true:=fun j hj=>by
  rw [hW1,World.cell?_alloc_at (w:=w.drew) ROW _ w.heap.size j rfl,Array.getElem?_eq_getElem (by omega)]; rfl
 have hNf:∀j,W1.frozen? ⟨w.heap.size,j,none⟩=false:=fun j=>by rw [hW1]; exact World.frozen?_alloc_at (w:=w.drew) ROW _ w.heap.size j rfl
 have hOb:∀j v,w.cell? ⟨b,j,none⟩=some v→W1.cell? ⟨b,j,none⟩=some v:=fun j v h=>by rw [hW1,World.cell?_alloc_past (w:=w.drew) _ b j hbw]; exact h
 have hOv:∀j v,w.cell? ⟨vb,j,none⟩=some v→W1.cell? ⟨vb,j,none⟩=some v:=fun j v h=>by rw [hW1,World.cell?_alloc_past (w:=w.drew) _ vb j hvw]; exact h
 have hcpA:∀(W:World),(∀x,W.cell? x=W1.cell? x)→(∀x,W.frozen? x=W1.frozen? x)→∀ty dc,(Builtin.copy_ #[46,46] ty #[.slice (some ⟨w.heap.size,i,none⟩) (n+m - i) dc,.slice (some ⟨vb,voff,none⟩) m vc]).run Tryz.prog W = .ok (goInt vs.length) (W.setCells w.heap.size i vs):=fun W hWc hWf ty dc =>
  run_copy_cells W _ _ ty 2 w.heap.size i (n+m - i) dc ⟨vb,voff,none⟩ m vc vs Tryz.underlying46 hsz (by rw [hvl]; simp only [Nat.min_def]; split<;>omega)
   (fun j v hj=>by rw [Addr.add_lit,hWc]; exact hOv _ v (hvs j v hj))
   (fun j hj=>by rw [hWc]; exact hN _ (by omega)) (fun j hj=>by rw [hWf]; exact hNf _) h1v
 have hGn:n+m≤G:=by rw [hG]; exact grownCap_ge w _ _ _
 have hG63:G≤9223372036854775807:=by
  have:=grownCap_le_maxLen w (n+m) c 2 (by unfold maxLen; omega)
  rw [←hG] at this
  unfold maxLen at this
  omega
 have hGi:¬(G=i):=by omega
 have hGim:¬(G=i+m):=by omega
 have hci:¬(c=i):=by omega
 have hbN:b≠w.heap.size:=by omega
 have hdl:(cs.drop i).length=n - i:=by rw [List.length_drop,hcl]
 have hcpB:∀(W:World),(∀x,W.cell? x=(W1.setCells w.heap.size i vs).cell? x)→(∀x,W.frozen? x=(W1.setCells w.heap.size i vs).frozen? x)→∀ty dc sc,(Builtin.copy_ #[46,46] ty #[.slice (some ⟨w.heap.size,i+m,none⟩) (n+m - (i+m)) dc,.slice (some ⟨b,off+i,none⟩) (n - i) sc]).run Tryz.prog W = .ok (goInt (cs.drop i).length) (W.setCells w.heap.size (i+m) (cs.drop i)):=fun W hWc hWf ty dc sc =>
  run_copy_cells W _ _ ty 2 w.heap.size (i+m) (n+m - (i+m)) dc ⟨b,off+i,none⟩ (n - i) sc (cs.drop i) Tryz.underlying46 hsz (by rw [hdl]; simp only [Nat.min_def]; split<;>omega)
   (fun j v hj=>by
    rw [Addr.add_lit,hWc,World.cell?_setCells_out _ _ _ _ _ (fun h _=>absurd h hbN),Nat.add_assoc]
    exact hOb _ v (hcs (i+j) v (by rwa [List.getElem?_drop] at hj)))
   (fun j hj=>by rw [hWc]; exact isSome_setCells _ _ _ _ (fun t ht=>hN _ (by omega)) _ (hN _ (by omega)))
   (fun j hj=>by rw [hWf,World.frozen?_setCells]; exact hNf _) (fun v hv=>h1c v (List.mem_of_mem_drop hv))
 subst hW1
 have hE1:∀x,((w.alloc (.cells ROW 2)).drew).cell? x=(w.drew.alloc (.cells ROW 2)).cell? x:=fun x=>rfl
 have hE2:∀x,((w.alloc (.cells ROW 2)).drew).frozen? x=(w.drew.alloc (.cells ROW 2)).frozen? x:=fun x=>rfl
 have hF1:∀x,(((w.alloc (.cells ROW 2)).drew.setCells w.heap.size i vs).drew).cell? x=((w.drew.alloc (.cells ROW 2)).setCells w.heap.size i vs).cell? x:=fun x=>rfl
 have hF2:∀x,(((w.alloc (.cells ROW 2)).drew.setCells w.heap.size i vs).drew).frozen? x=((w.drew.alloc (.cells ROW 2)).setCells w.heap.size i vs).frozen? x:=fun x=>rfl
 have hw1:IntKind.i64.wrap ((i:Int)+(m:Int))=(i:Int)+(m:Int):=by rw [IntKind.wrap_i64]; omega
 have hb1:(0:Int)≤(i:Int)+(m:Int):=by omega
 have hin:i≤n:=by omega
 have htn:((i:Int)+(m:Int)).toNat=i+m:=by omega
 have hb3:(i:Int)≤(n:Int):=by omega
 clear hkk hik hold hROW hG hRl
 go_enter Tryz.func56,Tryz.ntmps56
 go_wp2_with (first
  | (at_builtin; refine Lib.wpList_append_run _ rfl _ _ _ _ rfl _ _ rfl rfl _ _ (hrz _) ?_)
  | (at_builtin; refine wpList_copy_runI _ rfl _ _ 46 46 rfl _ _ rfl rfl (hcpA _ hE1 hE2 _ _) ?_)
  | (at_builtin; refine wpList_copy_runI _ rfl _ _ 46 46 rfl _ _ rfl rfl (hcpB _ (fun _=>rfl) (fun _=>rfl) _ _ _) ?_))
 go_region_law_o (refine step_copy_runI rfl _ _ 46 46 rfl (.slice (some ⟨w.heap.size,i+m,none⟩) (n+m - (i+m)) (G - (i+m))) (.slice (some ⟨b,off+i,none⟩) (n - i) (c - i)) (by simp [Act.eval,Act.put]) (by simp [Act.eval,Act.put]) (hcpB _ hF1 hF2 3 (G - (i+m)) (c - i)) ?_)
 go_wp2
 go_ret
 exact ⟨rfl,rfl⟩
end
end
end
end Go.Proofs.YtfaleabndlcanaaGreatDoor
namespace Go.Proofs.YtfaleabndlcanaaGreatDoor
section
open Go Go.AM Go.RowKit Go.Lib
theorem cell_row {w:World} {b e:Nat} {vs:Array Value} {z:Nat×Nat} (h:w.heap[b]?=some (.cells vs e z)) (j:Nat):w.cell? ⟨b,j,none⟩=vs[j]?:=by
 simp [World.cell?,h]
theorem mid_take {α:Type} (vs cs:List α) (i n:Nat) (u:α) (hi:i≤n) (hn:n<vs.length) (hc:cs=vs.take n) :
  (((vs.take (i+1)++cs.drop i++vs.drop (i+1+(cs.drop i).length)).take i++[u]++(vs.take (i+1)++cs.drop i++vs.drop (i+1+(cs.drop i).length)).drop (i+[u].length)))=cs.take i++u::cs.drop i++vs.drop (n+1):=by
 have h2:(cs.drop i).length=n - i:=by rw [hc,List.length_drop,List.length_take]; omega
 have h3:vs.take (i+1)=vs.take i++[vs[i]'(by omega)]:=by rw [List.take_succ_eq_append_getElem (by omega)]
 have h4:(vs.take i).length=i:=by rw [List.length_take]; omega
 have h5:cs.take i=vs.take i:=by rw [hc,List.take_take,Nat.min_eq_left hi]
 rw [h2,show i+1+(n - i)=n+1 by omega,h3,h5]
 generalize vs.take i=P at h4
 generalize vs.drop (n+1)=D
 generalize cs.drop i=C
 subst h4
 simp [List.drop_append]
theorem ins_con (H:List B) (k:Nat) (xs:List V) (i:Nat) (f:Bool) (v:V) (hk:H[k]?=some (.buf 2 1 xs false)) (hi:i≤xs.length) (hn:xs.length≤1000000) :
  ConH Tryz.prog 56 [.buf k 0 xs.length xs.length,.int .i64 i,.lst 1 f [v]] H fun r H'=>r = .buf k 0 (xs.length+1) (xs.length+1)∧H'=H.set k (.buf 2 1 (xs.take i++v::xs.drop i) false):=by
 refine ⟨⟨Tryz.f56,Tryz.func56,rfl,rfl⟩,fun s vals hA hg hsz hrel=>?_⟩
 obtain ⟨rfl,hZ⟩:=hA
 obtain ⟨u0,u1,u2,rfl⟩:∃u0 u1 u2,vals = #[u0,u1,u2]:=by
  obtain ⟨l⟩:=vals
  match l,hsz with
  | [a,b,c],_=>exact ⟨a,b,c,rfl⟩
 have r0:=hrel 0 _ u0 rfl rfl
 have r1:=hrel 1 _ u1 rfl rfl
 have r2:=hrel 2 _ u2 rfl rfl
 cases r1
 cases r0 with
 | buf _ _ _ _ e z xs2 fz A l c hk2 ht hh =>
 rw [hk] at hk2
 cases hk2
 obtain ⟨hA,rfl,hcap,_⟩:=hh rfl
 cases r2 with
 | lst _ _ _ A2 cap2 vb voff uf hcap2 hfull2 hA2 hz2 hcell2 hrel2 =>
 obtain ⟨rfl,hP⟩:=hA2 (by simp)
 obtain ⟨hv1,hvo⟩:=hz2 v (by simp)
 obtain ⟨d,hd⟩:∃d,v.cells=[d]:=List.length_eq_one_iff.1 hv1
 have hcv:s.w.cell? ⟨vb,voff,none⟩=some (uf 0 0):=by have:=hcell2 0 v 0 d rfl (by rw [hd]; rfl); simpa using this
 have hrv:Rel s d (uf 0 0):=hrel2 0 v 0 d rfl (by rw [hd]; rfl)
 have hdo:d.one=true:=hvo d (by rw [hd]; simp)
 obtain ⟨vs,g2,g3,g4,g5,g6,g7⟩:=hg.blk k _ hk
 rw [Nat.zero_add] at hcap
 rw [Nat.mul_one] at g3
 have hcap':c=s.κ k:=by omega
 obtain ⟨n,hnl⟩:∃n,n=xs.length:=⟨_,rfl⟩
 obtain ⟨cs,hcs⟩:∃cs,cs=vs.toList.take n:=⟨_,rfl⟩
 obtain ⟨uv,huv⟩:∃uv,uv=uf 0 0:=⟨_,rfl⟩
 rw [←huv] at hcv hrv
 have hcl:cs.length=n:=by rw [hcs,List.length_take,Array.length_toList]; omega
 have hcsat:∀(j:Nat) u,cs[j]?=some u→j<n∧vs[j]?=some u:=fun j u hj=>by
  rw [hcs,List.getElem?_take] at hj
  split at hj
  ·rename_i hjn; exact ⟨hjn,by simpa using hj⟩
  ·cases hj
 have hrelc:∀(j:Nat) x dd u,xs[j]?=some x→x.cells[0]?=some dd→cs[j]?=some u→Rel s dd u:=fun j x dd u hx hdd hu=>g7 j x 0 dd u hx hdd (by simpa using (hcsat j u hu).2)
 have one1:uv.oneCell'=true:=hrv.oneCell hdo
 have onec:∀u∈cs,u.oneCell'=true:=fun u hu=>by
  obtain ⟨j,hj⟩:=List.mem_iff_getElem?.1 hu
  have hjn:=(hcsat j u hj).1
  have hx:xs[j]?=some xs[j]:=List.getElem?_eq_getElem (by omega)
  obtain ⟨hxl,hxo⟩:=g6 _ (List.mem_of_getElem? hx)
  obtain ⟨dd,hdd⟩:∃dd,(xs[j]'(by omega)).cells=[dd]:=List.length_eq_one_iff.1 hxl
  exact (hrelc j _ dd u hx (by rw [hdd]; rfl) hj).oneCell (hxo dd (by rw [hdd]; simp))
 have hyl:(xs.take i++v::xs.drop i).length=n+1:=by simp; omega
 have hyel:∀y∈xs.take i++v::xs.drop i,y.cells.length=1∧∀d∈y.cells,d.one=true:=fun y hy=>by
  simp only [List.mem_append,List.mem_cons] at hy
  rcases hy with h | rfl | h
  ·exact g6 y (List.mem_of_mem_take h)
  ·exact ⟨hv1,hvo⟩
  ·exact g6 y (List.mem_of_mem_drop h)
 have hyrel:∀(j:Nat) y dd u,(xs.take i++v::xs.drop i)[j]?=some y→y.cells[0]?=some dd→(cs.take i++uv::cs.drop i)[j]?=some u→Rel s dd u:=fun j y dd u hy hdd hu=>by
  have l1:(xs.take i).length=i:=by simp; omega
  have l2:(cs.take i).length=i:=by simp; omega
  rcases Nat.lt_trichotomy j i with h | h | h
  ·rw [List.getElem?_append_left (by omega),List.getElem?_take,if_pos h] at hy hu
   exact hrelc j y dd u hy hdd hu
  ·subst h
   rw [List.getElem?_append_right (by omega),l1,Nat.sub_self] at hy
   rw [List.getElem?_append_right (by omega),l2,Nat.sub_self] at hu
   simp at hy hu
   subst hy; subst hu
   rw [hd] at hdd
   simp at hdd
   subst hdd
   exact hrv
  ·obtain ⟨m,rfl⟩:∃m,j=i+(m+1):=⟨j - i - 1,by omega⟩
   rw [List.getElem?_append_right (by omega),l1,Nat.add_sub_cancel_left,List.getElem?_cons_succ,List.getElem?_drop] at hy
   rw [List.getElem?_append_right (by omega),l2,Nat.add_sub_cancel_left,List.getElem?_cons_succ,List.getElem?_drop] at hu
   exact hrelc (i+m) y dd u hy hdd hu
 have fin:∀(e:Ending) (w':World) (g c':Nat) (us:Array Value),e = .returned (.slice (some ⟨g,0,none⟩) (n+1) c')→w'.os=s.w.os→w'.tape=s.w.tape→w'.output=s.w.output→s.w.heap.size≤w'.heap.size →
   (∀b,b<s.w.heap.size→(s.κ k≠0→b≠s.φ k)→w'.heap[b]?=s.w.heap[b]?)→((g=s.φ k∧s.κ k≠0)∨s.w.heap.size≤g)→w'.heap[g]?=some (.cells us 2 (0,0))→us.size=c'→n+1≤c'→c'≤maxLen→(∀j,j<n+1→us[j]?=(cs.take i++uv::cs.drop i)[j]?) →
   ∃(u:Value) (s':AM.St) (r:V),e = .returned u∧s'.w=w'∧AM.Good s'∧AM.Step s s'∧Rel s' r u∧r = .buf k 0 (xs.length+1) (xs.length+1)∧s'.H=s.H.set k (.buf 2 1 (xs.take i++v::xs.drop i) false):=fun e w' g c' us he h1 h2 h3 h4 h5 h6 h7 h8 h9 h10 h11=>by
  obtain ⟨k1,k2,k3⟩:=regrow (c:=c') hg hk (by rw [hyl]; omega) h1 h2 h3 h4 h5 h6 h7 h8 (by rw [hyl]; exact h9) h10 hyel (fun j y dd u hy hdd hu=>hyrel j y dd u hy hdd (by rw [←h11 j (by have:=getElem?_lt hy; omega)]; exact hu))
  rw [hyl] at k3
  refine ⟨_,_,.buf k 0 (n+1) (n+1),he,rfl,k1,k2,k3,by rw [hnl],rfl⟩
 have hmx:s.κ k≤maxLen:=g5
 have hv0:∀j u,[uv][j]?=some u→s.w.cell? ⟨vb,voff+j,none⟩=some u:=fun j u hj=>by
  have:j=0:=by have:=getElem?_lt hj; simpa using this
  subst this
  simp at hj
  subst hj
  exact hcv
 have hov:∀u∈[uv],u.oneCell'=true:=fun u hu=>by simp at hu; subst hu; exact one1
 by_cases hκ:s.κ k=0
 ·have hn0:n=0:=by omega
  have hi0:i=0:=by omega
  have hc00:c=0:=by omega
  have hcs0:cs=[]:=List.eq_nil_of_length_eq_zero (by omega)
  subst hi0
  have harg0:Value.slice A xs.length c=Value.slice A 0 0:=by rw [←hnl,hn0,hc00]
  rw [harg0]
  rw [hn0,hcs0] at fin
  refine (ins_end_grow A 0 0 vb voff 1 cap2 [] [uv] s.w (by omega) (by omega) (by omega) (by omega) rfl rfl (fun _=>rfl) (fun a ha j u hj=>by simp at hj) hv0 hov).mono fun e w' hew=>?_
  obtain ⟨h1,h2⟩:=hew
  subst h2
  have hgc:=grownCap_ge s.w (0+1) 0 2
  refine fin _ (s.w.drew.alloc _) s.w.heap.size _ _ h1 rfl rfl rfl (by simp) (fun b hb hne=>AM.alloc_old s.w.drew _ b hb) (.inr (Nat.le_refl _)) (AM.alloc_new s.w.drew _) ?_ hgc (grownCap_le_maxLen s.w _ _ _ (by unfold maxLen; omega)) (fun j hj=>?_)
  ·have hgc':1≤grownCap s.w 1 0 2:=hgc
   simp [Builtin.zeroCells,Value.cells]; omega
  ·rw [Array.getElem?_append,if_pos (by simp; omega)]; simp
 have hA:=hA hκ
 subst hA
 have g2:=g2 hκ
 have hvb:vb≠s.φ k:=fun e=>by
  obtain ⟨_,_,_,h⟩:=hP.2.2 k (lvB hk hκ) e.symm
  rw [hk] at h; cases h
 have harg:(Value.slice (some { block:=s.φ k,off:=0*1 }) xs.length c)=Value.slice (some ⟨s.φ k,0,none⟩) n c:=by rw [hnl,Nat.zero_mul]
 rw [harg]
 have hc0:∀j u,cs[j]?=some u→s.w.cell? ⟨s.φ k,0+j,none⟩=some u:=fun j u hj=>by rw [cell_row g2,Nat.zero_add]; exact (hcsat j u hj).2
 have hfz:∀j,s.w.frozen? ⟨s.φ k,j,none⟩=false:=fun j=>by simp [World.frozen?,g2]
 have hrow0:∀w:World,w.heap=s.w.heap→w.heap[s.φ k]?=some (.cells vs 2 (0,0)):=fun w h=>by rw [h]; exact g2
 have seg:∀(us L:List Value) (j:Nat),us=cs.take i++uv::cs.drop i++L→j<n+1→us[j]?=(cs.take i++uv::cs.drop i)[j]?:=fun us L j h hj=>by
  rw [h,List.getElem?_append_left (by simp; omega)]
 have hshv:∃tA kA,s.w.shape? vb=some (tA,kA)∧kA≠0:=by
  unfold World.cell? at hcv
  split at hcv
  ·rename_i cc t z hh
   simp at hcv
   refine ⟨t,cc.size,by simp [World.shape?,hh],fun h0=>?_⟩
   have:=(Array.getElem?_eq_some_iff.1 hcv).1
   omega
  ·cases hcv
 obtain ⟨tA,kA,hsA,hkA⟩:=hshv
 have hsB:s.w.shape? (s.φ k)=some (2,vs.size):=by simp [World.shape?,g2]
 rcases Nat.lt_or_ge i n with hin | hin
 ·rcases Nat.lt_or_ge c (n+1) with hroom | hroom
  ·
   refine (ins_grow (s.φ k) 0 n c i vb voff 1 cap2 cs [uv] s.w hin (by omega) (by omega) hroom (by omega) hcl rfl hc0 hv0 onec hov).mono fun e w' ⟨h1,h2⟩=>?_
   subst h2
   have hgc:=grownCap_ge s.w (n+1) c 2
   obtain ⟨G,hG⟩:∃G,G=grownCap s.w (n+1) c 2:=⟨_,rfl⟩
   rw [←hG] at h1 hgc ⊢
   obtain ⟨ROW,hROW⟩:∃ROW:Array Value,ROW=(cs.take i).toArray++Builtin.zeroCells (Value.int .i64 0).cells (n+1 - i)++Builtin.zeroCells (Value.int .i64 0).cells (G - (n+1)):=⟨_,rfl⟩
   rw [←hROW]
   have hRs:ROW.size=G:=by rw [hROW]; simp [Builtin.zeroCells,Value.cells]; omega
   have hRt:ROW.toList.take i=cs.take i:=by
    rw [hROW]
    simp only [Array.toList_append,List.append_assoc]
    rw [List.take_append_of_le_length (by simp; omega),List.take_of_length_le (by simp; omega)]
   have hw0:((s.w.alloc (.cells ROW 2)).drew).heap[s.w.heap.size]?=some (.cells ROW 2 (0,0)):=AM.alloc_new s.w _
   rw [setCells_eq s.w.heap.size 2 [uv] i ROW _ hw0 (by simp; omega)]
   have hw1:=setRow_heap _ s.w.heap.size ROW (ROW.toList.take i++[uv]++ROW.toList.drop (i+[uv].length)).toArray 2 (0,0) hw0
   obtain ⟨R1,hR1⟩:∃R1:Array Value,R1=(ROW.toList.take i++[uv]++ROW.toList.drop (i+[uv].length)).toArray:=⟨_,rfl⟩
   rw [←hR1] at hw1 ⊢
   have hR1s:R1.size=G:=by rw [hR1]; simp; omega
   have hw1':(((s.w.alloc (.cells ROW 2)).drew.setRow s.w.heap.size R1).drew).heap[s.w.heap.size]?=some (.cells R1 2 (0,0)):=hw1
   rw [setCells_eq s.w.heap.size 2 (cs.drop i) (i+1) R1 _ hw1' (by simp; omega)]
   have hw2:=setRow_heap _ s.w.heap.size R1 (R1.toList.take (i+1)++cs.drop i++R1.toList.drop (i+1+(cs.drop i).length)).toArray 2 (0,0) hw1'
   have hmid:R1.toList.take (i+1)=cs.take i++[uv]:=by
    rw [hR1]
    simp only [hRt]
    rw [List.take_append_of_le_length (by simp; omega),List.take_of_length_le (by simp; omega)]
   refine fin _ _ s.w.heap.size G _ h1 rfl rfl rfl (by simp) (fun b hb hne=>?_) (.inr (Nat.le_refl _)) hw2 ?_ hgc (by rw [hG]; exact grownCap_le_maxLen s.w _ _ _ (by unfold maxLen; omega)) (fun j hj=>?_)
   ·rw [setRow_other _ _ _ _ (by omega)]
    show ((s.w.alloc (.cells ROW 2)).drew.setRow s.w.heap.size R1).heap[b]?=_
    rw [setRow_other _ _ _ _ (by omega)]
    exact AM.alloc_old s.w _ b hb
   ·simp; omega
   ·rw [List.getElem?_toArray]
    refine seg _ (R1.toList.drop (i+1+(cs.drop i).length)) j ?_ hj
    rw [hmid]
    simp
  ·
   refine (ins_shift (s.φ k) 0 n c i vb voff 1 cap2 cs [uv] s.w hin (by omega) hroom (by unfold maxLen at hmx; omega) hvb hcl rfl hc0 (fun j hj=>by rw [cell_row g2,Nat.zero_add]; simp; omega) (fun j hj=>by rw [Nat.zero_add]; exact hfz j) hv0 onec hov tA 2 kA vs.size hsA hsB (by omega) hkA (hfz _)).mono fun e w' ⟨h1,h2⟩=>?_
   subst h2
   have e1:=setCells_eq (s.φ k) 2 (cs.drop i) (0+(i+1)) vs s.w.drew g2 (by simp; omega)
   rw [e1]
   have hw1:=setRow_heap s.w.drew (s.φ k) vs (vs.toList.take (0+(i+1))++cs.drop i++vs.toList.drop (0+(i+1)+(cs.drop i).length)).toArray 2 (0,0) g2
   have e2:=setCells_eq (s.φ k) 2 [uv] (0+i) _ _ hw1 (by simp; omega)
   rw [e2]
   have hw2:=setRow_heap _ (s.φ k) _ (((vs.toList.take (0+(i+1))++cs.drop i++vs.toList.drop (0+(i+1)+(cs.drop i).length)).toArray.toList.take (0+i)++[uv]++(vs.toList.take (0+(i+1))++cs.drop i++vs.toList.drop (0+(i+1)+(cs.drop i).length)).toArray.toList.drop (0+i+[uv].length)).toArray) 2 (0,0) hw1
   have hmid:=mid_take vs.toList cs i n uv (by omega) (by simp; omega) hcs
   refine fin _ _ (s.φ k) c _ h1 rfl rfl rfl (by simp) (fun b hb hne=>by rw [setRow_other _ _ _ _ (hne hκ),setRow_other _ _ _ _ (hne hκ)]; rfl) (.inl ⟨rfl,hκ⟩) hw2 ?_ hroom (by omega) (fun j hj=>?_)
   ·have:=congrArg List.length hmid
    simp only [Nat.zero_add,List.size_toArray]
    rw [this]
    simp
    omega
   ·rw [List.getElem?_toArray]
    simp only [Nat.zero_add]
    rw [hmid]
    exact seg _ _ j rfl hj
 ·have hin':i=n:=by omega
  subst hin'
  have htl:cs.take i++uv::cs.drop i=cs++[uv]:=by rw [List.take_of_length_le (by omega),List.drop_of_length_le (by omega)]
  rcases Nat.lt_or_ge c (i+1) with hroom | hroom
  ·refine (ins_end_grow (some ⟨s.φ k,0,none⟩) i c vb voff 1 cap2 cs [uv] s.w (by omega) (by omega) hroom (by omega) hcl rfl (fun h=>by cases h) (fun a ha j u hj=>by cases ha; rw [Addr.add_lit]; exact hc0 j u hj) hv0 hov).mono fun e w' ⟨h1,h2⟩=>?_
   subst h2
   have hgc:=grownCap_ge s.w (i+1) c 2
   refine fin _ _ s.w.heap.size _ _ h1 rfl rfl rfl (by simp) (fun b hb hne=>AM.alloc_old s.w.drew _ b hb) (.inr (Nat.le_refl _)) (AM.alloc_new s.w.drew _) ?_ hgc (grownCap_le_maxLen s.w _ _ _ (by unfold maxLen; omega)) (fun j hj=>?_)
   ·simp [Builtin.zeroCells,Value.cells]; omega
   ·rw [htl,Array.getElem?_append,if_pos (by simp; omega)]; simp
  ·refine (ins_end_room (s.φ k) 0 i c vb voff 1 cap2 [uv] s.w (by omega) hroom (by unfold maxLen at hmx; omega) rfl (fun j hj=>by rw [cell_row g2]; simp; omega) (fun j hj=>hfz _) hv0 hov).mono fun e w' ⟨h1,h2⟩=>?_
   subst h2
   rw [setCells_eq (s.φ k) 2 [uv] (0+i) vs s.w g2 (by simp; omega)]
   have hw1:=setRow_heap s.w (s.φ k) vs (vs.toList.take (0+i)++[uv]++vs.toList.drop (0+i+[uv].length)).toArray 2 (0,0) g2
   refine fin _ _ (s.φ k) c _ h1 rfl rfl rfl (by simp) (fun b hb hne=>by rw [setRow_other _ _ _ _ (hne hκ)]) (.inl ⟨rfl,hκ⟩) hw1 ?_ hroom (by omega) (fun j hj=>?_)
   ·simp; omega
   ·rw [List.getElem?_toArray]
    refine seg _ (vs.toList.drop (0+i+[uv].length)) j ?_ hj
    rw [htl,Nat.zero_add,←hcs]
end
end Go.Proofs.YtfaleabndlcanaaGreatDoor
namespace Go.Proofs.YtfaleabndlcanaaGreatDoor
section
open Go Go.AM Go.RowKit
theorem mixed:Tryz.prog.follows .mixedOrders=true:=by kernel_rfl
theorem wx {c:Code} {Q:Exit→List V→List B→Prop} {fr:List V} {H:List B} (h:WX T (WCall Tryz.prog) (LW Tryz.prog) c Q fr H):W Tryz.prog c Q fr H:=W_x tok mixed h
def ext:ExtF:=fun f args H=>match f,args with
 | 155,[.int .u32 x]=>some (.int .i64 (tzI x),H)
 | 220,[.str a,.str b]=>some (.int .i64 (cmpS a b),H)
 | 56,[.buf k 0 n m,.int .i64 i,.lst 1 _ [v]]=>match H[k]? with
  | some (.buf 2 1 xs false)=>if n=xs.length∧m=xs.length∧0≤i∧i.toNat≤xs.length∧xs.length≤1000000 then some (.buf k 0 (n+1) (n+1),H.set k (.buf 2 1 (xs.take i.toNat++v::xs.drop i.toNat) false)) else none
  | _=>none
 | _,_=>none
theorem ext_ok:ExtOk Tryz.prog ext:=fun f args H r H' h=>by
 unfold ext at h
 split at h
 ·cases h
  rename_i x
  have:=callP (H:=H) (tz_con x) (by simp)
  simpa only [WCall,List.append_nil] using this
 ·cases h
  rename_i a b
  have:=callP (H:=H) (cmp_con a b) (by simp)
  simpa only [WCall,List.append_nil] using this
 ·rename_i k n m i f v
  split at h
  ·rename_i xs hk
   split at h
   ·rename_i hc
    obtain ⟨rfl,rfl,h0,h1,h2⟩:=hc
    cases h
    have:=ins_con H k xs i.toNat f v hk h1 h2
    rw [Int.toNat_of_nonneg h0] at this
    exact this
   ·cases h
  ·cases h
 ·cases h
theorem allNamed:(Tryz.prog.funcs.toList.all fun fn=>!(fn.name == "runtime.NumGoroutine"))=true:=by kernel_rfl
theorem named:∀(f:Nat) (fn:Func),Tryz.prog.funcs[f]?=some fn→(fn.name == "runtime.NumGoroutine")=false:=fun f fn h=>by
 have:=List.all_eq_true.1 allNamed fn (by rw [Array.mem_toList_iff]; exact Array.mem_of_getElem? h)
 simpa using this
end
end Go.Proofs.YtfaleabndlcanaaGreatDoor
namespace Go.Proofs.YtfaleabndlcanaaGreatDoor
section
open Go Go.AM
def encI (n:Int):V:=.int .i64 n
def L1 (f:Bool) (xs:List Int):V:=.lst 1 f (xs.map encI)
@[simp] theorem encI_pure (n:Int):AM.Pure (encI n):=by simp [encI]
@[simp] theorem L1_pure (f:Bool) (xs:List Int):AM.Pure (L1 f xs):=by simp [L1,encI]
theorem wrap64 {n:Int} (h1 : -9223372036854775808≤n) (h2:n<9223372036854775808):IntKind.i64.wrap n=n:=by rw [IntKind.wrap_i64]; omega
theorem wrapS (i:Nat) (h:i<9223372036854775807):IntKind.i64.wrap ((i:Int)+1)=((i+1:Nat):Int):=by rw [wrap64 (by omega) (by omega)]; rfl
theorem wrapP (i:Nat) (h:i<9223372036854775807) (h1:1≤i):IntKind.i64.wrap ((i:Int) - 1)=((i - 1:Nat):Int):=by rw [wrap64 (by omega) (by omega)]; omega
def memB (xs:List Int) (x:Int):Bool:=xs.contains x
theorem memB_cons (y x:Int) (xs:List Int):memB (y::xs) x=(x == y||memB xs x):=by simp only [memB,List.contains_cons]
theorem memB_nil (x:Int):memB [] x=false:=rfl
theorem memB_iff {xs:List Int} {x:Int} : memB xs x=true↔x∈xs:=by simp [memB]
def ascFrom (xs:List Int) (i:Nat):Bool:=if h:i<xs.length then (if xs[i]≤xs[i - 1] then false else ascFrom xs (i+1)) else true
termination_by xs.length - i
def asc (xs:List Int):Bool:=ascFrom xs 1
theorem asc_c (xs:List Int) (f:Bool) (hl:xs.length≤1000000):ConP Tryz.prog 48 [L1 f xs] fun r=>r = .bool (asc xs):=by
 refine conP_of_conH (conH_of_W tok Tryz.func48 rfl rfl ?_)
 refine wx ?_
 simp -implicitDefEqProofs -dsimp [Tryz.f48,List.replicate]
 refine lw_of (W_loopG [2,3,4,5,6,7,8,9,10,11,12,13,14,15,16,17,18,19] (σ:=Nat) (fun i=>1≤i∧ascFrom xs i=asc xs) (fun i=>xs.length - i) (fun i=>[(3,.int .i64 i)]) (fun _=>[]) 1 ⟨by omega,rfl⟩ (by simp) rfl (by simp) ?_)
 rintro i ⟨hi,hx⟩
 by_cases hb:i<xs.length
 ·have hb2:i - 1<xs.length:=by omega
  rw [ascFrom,dif_pos hb] at hx
  refine wx ?_
  simp -implicitDefEqProofs -dsimp [L1,encI,hb,hb2,wrapS i (by omega),wrapP i (by omega) hi]
  refine .inr ⟨stop_of (by kernel_rfl),?_⟩
  split
  ·rename_i h; rw [if_pos h] at hx; exact hx.symm
  ·rename_i h
   rw [if_neg h] at hx
   refine stop_of ?_
   refine ⟨i+1,⟨by omega,hx⟩,by omega,?_,⟨[],rfl⟩,?_,?_⟩<;>simp [L1,encI]
 ·rw [ascFrom,dif_neg hb] at hx
  refine wx ?_
  simp -implicitDefEqProofs -dsimp [hb,L1]
  exact hx.symm
theorem has03 (xs:List Int) (x:Int) (f:Bool) (hl:xs.length≤1000000):ConP Tryz.prog 64 [L1 f xs,.int .i64 x] fun r=>r = .bool (memB xs x):=by
 refine conP_of_conH (conH_of_W tok Tryz.func64 rfl rfl ?_)
 refine wx ?_
 simp -implicitDefEqProofs -dsimp [Tryz.f64,List.replicate]
 refine lw_of (W_loopG [4,5,6,7,8,9,10,11,12,13,14,15,16,17] (σ:=Nat) (fun i=>memB (xs.drop i) x=memB xs x) (fun i=>xs.length - i) (fun i=>[(5,.int .i64 i)]) (fun _=>[]) 0 rfl (by simp) rfl (by simp) ?_)
 intro i hx
 by_cases hb:i<xs.length
 ·rw [List.drop_eq_getElem_cons hb,memB_cons] at hx
  by_cases hq:xs[i]=x
  ·refine wx ?_
   simp -implicitDefEqProofs -dsimp [L1,encI,hb,hq]
   rw [hq] at hx
   simpa using hx.symm
  ·have hq2:(x == xs[i])=false:=by simpa using fun h:x=xs[i]=>hq h.symm
   rw [hq2,Bool.false_or] at hx
   refine wx ?_
   simp -implicitDefEqProofs -dsimp [L1,encI,hb,hq,wrapS i (by omega)]
   refine stop_of ?_
   refine ⟨i+1,hx,by omega,?_,⟨[],rfl⟩,?_,?_⟩<;>simp [L1,encI]
 ·rw [List.drop_of_length_le (by omega),memB_nil] at hx
  refine wx ?_
  simp -implicitDefEqProofs -dsimp [hb,L1]
  exact hx.symm
theorem has37 (xs:List Int) (x:Int) (f:Bool) (hl:xs.length≤1000000):ConP Tryz.prog 57 [L1 f xs,.int .i64 x] fun r=>r = .bool (memB xs x):=by
 refine conP_of_conH (conH_of_W tok Tryz.func57 rfl rfl ?_)
 refine wx ?_
 simp -implicitDefEqProofs -dsimp [Tryz.f57,List.replicate]
 refine (callP (has03 xs x f hl) (by simp)).mono ?_
 rintro r H' ⟨rfl,rfl⟩
 simp -implicitDefEqProofs -dsimp [L1]
def within (us bs:List Int):Bool:=us.all fun x=>memB bs x
theorem within37 (us bs:List Int) (f g:Bool) (hl:us.length≤1000000) (hl2:bs.length≤1000000):ConP Tryz.prog 53 [L1 f us,L1 g bs] fun r=>r = .bool (within us bs):=by
 refine conP_of_conH (conH_of_W tok Tryz.func53 rfl rfl ?_)
 refine wx ?_
 simp -implicitDefEqProofs -dsimp [Tryz.f53,List.replicate]
 refine lw_of (W_loopG [4,5,6,7,8,9,10,11,12,13,14,15,16,17,18] (σ:=Nat) (fun i=>within (us.drop i) bs=within us bs) (fun i=>us.length - i) (fun i=>[(5,.int .i64 i)]) (fun _=>[]) 0 rfl (by simp) rfl (by simp) ?_)
 intro i hx
 by_cases hb:i<us.length
 ·rw [List.drop_eq_getElem_cons hb] at hx
  have hx':(memB bs us[i]&&within (us.drop (i+1)) bs)=within us bs:=hx
  refine wx ?_
  cases hq:memB bs us[i]
  ·rw [hq] at hx'
   have hc:=has37 bs us[i] g hl2
   rw [hq] at hc
   simp -implicitDefEqProofs -dsimp [L1,hb,encI]
   refine (callP (hc) (by simp)).mono ?_
   rintro r H' ⟨rfl,rfl⟩
   simp -implicitDefEqProofs -dsimp [hb]
   simpa using hx'.symm
  ·rw [hq] at hx'
   have hc:=has37 bs us[i] g hl2
   rw [hq] at hc
   simp -implicitDefEqProofs -dsimp [L1,hb,encI]
   refine (callP (hc) (by simp)).mono ?_
   rintro r H' ⟨rfl,rfl⟩
   simp -implicitDefEqProofs -dsimp [hb,wrapS i (by omega)]
   refine stop_of ?_
   refine ⟨i+1,by simpa using hx',by omega,?_,⟨[],rfl⟩,?_,?_⟩<;>simp [L1,encI]
 ·rw [List.drop_of_length_le (by omega)] at hx
  refine wx ?_
  simp -implicitDefEqProofs -dsimp [hb,L1]
  simpa [within] using hx.symm
def lexLt:List Int→List Int→Bool
 | [],[]=>false
 | [],_::_=>true
 | _::_,[]=>false
 | x::xs,y::ys=>if x=y then lexLt xs ys else decide (x<y)
theorem before37 (us bs:List Int) (f g:Bool) (hl:us.length≤1000000) (hl2:bs.length≤1000000):ConP Tryz.prog 61 [L1 f us,L1 g bs] fun r=>r = .bool (lexLt us bs):=by
 refine conP_of_conH (conH_of_W tok Tryz.func61 rfl rfl ?_)
 refine wx ?_
 simp -implicitDefEqProofs -dsimp [Tryz.f61,List.replicate]
 refine lw_of (W_loopG [4,5,6,7,8,9,10,11,12,13,14,15,16,17,18,19,20,21,22,23,24,25,26,27,28,29,30,31,32,33,34,35] (σ:=Nat) (fun i=>i≤us.length∧i≤bs.length∧lexLt (us.drop i) (bs.drop i)=lexLt us bs) (fun i=>us.length - i) (fun i=>[(5,.int .i64 i)]) (fun _=>[]) 0 ⟨by omega,by omega,rfl⟩ (by simp) rfl (by simp) ?_)
 rintro i ⟨h1,h2,hx⟩
 by_cases ha:i<us.length
 ·by_cases hb:i<bs.length
  ·rw [List.drop_eq_getElem_cons ha,List.drop_eq_getElem_cons hb,lexLt] at hx
   by_cases hq:us[i]=bs[i]
   ·rw [if_pos hq] at hx
    refine wx ?_
    simp -implicitDefEqProofs -dsimp [L1,encI,ha,hb,hq,wrapS i (by omega)]
    refine .inr ⟨stop_of (by kernel_rfl),?_⟩
    refine stop_of ?_
    refine ⟨i+1,⟨by omega,by omega,hx⟩,by omega,?_,⟨[],rfl⟩,?_,?_⟩<;>simp [L1,encI]
   ·rw [if_neg hq] at hx
    refine wx ?_
    simp -implicitDefEqProofs -dsimp [L1,encI,ha,hb,hq]
    refine .inr ⟨stop_of (by kernel_rfl),?_⟩
    refine .inr ⟨stop_of (by kernel_rfl),?_⟩
    exact hx
  ·rw [List.drop_eq_getElem_cons ha,List.drop_of_length_le (l:=bs) (by omega),lexLt] at hx
   refine wx ?_
   simp -implicitDefEqProofs -dsimp [L1,ha,hb]
   rw [←hx]
   simp
   omega
 ·by_cases hb:i<bs.length
  ·rw [List.drop_eq_getElem_cons hb,List.drop_of_length_le (l:=us) (by omega),lexLt] at hx
   refine wx ?_
   simp -implicitDefEqProofs -dsimp [L1,ha,hb]
   rw [←hx]
   simp
   omega
  ·rw [List.drop_of_length_le (l:=us) (by omega),List.drop_of_length_le (l:=bs) (by omega),lexLt] at hx
   refine wx ?_
   simp -implicitDefEqProofs -dsimp [L1,ha,hb]
   rw [←hx]
   simp
   omega
theorem nan_c (x:Int):ConP Tryz.prog 150 [.int .i64 x] fun r=>r = .bool false:=by
 refine conP_of_conH (conH_of_W tok Tryz.func150 rfl rfl ?_)
 refine wx ?_
 simp -implicitDefEqProofs -dsimp [Tryz.f150,List.replicate]
theorem nan_s (x:Int):ConP Tryz.prog 97 [.int .i64 x] fun r=>r = .bool false:=by
 refine conP_of_conH (conH_of_W tok Tryz.func97 rfl rfl ?_)
 refine wx ?_
 simp -implicitDefEqProofs -dsimp [Tryz.f97,List.replicate]
theorem less64 (x y:Int):ConP Tryz.prog 96 [.int .i64 x,.int .i64 y] fun r=>r = .bool (decide (x<y)):=by
 refine conP_of_conH (conH_of_W tok Tryz.func96 rfl rfl ?_)
 refine wx ?_
 simp -implicitDefEqProofs -dsimp [Tryz.f96,List.replicate]
 refine (callP (nan_c x) (by simp)).mono ?_
 rintro r H' ⟨rfl,rfl⟩
 simp -implicitDefEqProofs -dsimp []
def cmpI (x y:Int):Int:=if x<y then -1 else if y<x then 1 else 0
theorem cmp64 (x y:Int):ConP Tryz.prog 104 [.int .i64 x,.int .i64 y] fun r=>r = .int .i64 (cmpI x y):=by
 refine conP_of_conH (conH_of_W tok Tryz.func104 rfl rfl ?_)
 refine wx ?_
 simp -implicitDefEqProofs -dsimp [Tryz.f104,List.replicate]
 refine (callP (nan_c x) (by simp)).mono ?_
 rintro r H' ⟨rfl,rfl⟩
 simp -implicitDefEqProofs -dsimp []
 refine (callP (nan_c y) (by simp)).mono ?_
 rintro r H' ⟨rfl,rfl⟩
 simp -implicitDefEqProofs -dsimp []
 unfold cmpI
 split
 ·rfl
 ·split<;>rfl
def cmpL:List Int→List Int→Int
 | [],[]=>0
 | [],_::_=>-1
 | _::_,[]=>1
 | x::xs,y::ys=>if cmpI x y=0 then cmpL xs ys else cmpI x y
theorem cmpL64 (us bs:List Int) (f g:Bool) (hl:us.length≤1000000) (hl2:bs.length≤1000000):ConP Tryz.prog 60 [L1 f us,L1 g bs] fun r=>r = .int .i64 (cmpL us bs):=by
 refine conP_of_conH (conH_of_W tok Tryz.func60 rfl rfl ?_)
 refine wx ?_
 simp -implicitDefEqProofs -dsimp [Tryz.f60,List.replicate,L1]
 refine lw_of (W_loopG [4,5,6,7,8,11,12,13,14,15,16,17,18,19,20,21,22,23,24,25,26,27,28,29,30] (σ:=Nat) (fun i=>i≤us.length∧i≤bs.length∧cmpL (us.drop i) (bs.drop i)=cmpL us bs) (fun i=>us.length - i) (fun i=>[(11,.int .i64 i)]) (fun _=>[]) 0 ⟨by omega,by omega,rfl⟩ (by simp) rfl (by simp) ?_)
 rintro i ⟨h1,h2,hx⟩
 by_cases ha:i<us.length
 ·by_cases hb:i<bs.length
  ·rw [List.drop_eq_getElem_cons ha,List.drop_eq_getElem_cons hb,cmpL] at hx
   have hc:=cmp64 us[i] bs[i]
   by_cases hq:cmpI us[i] bs[i]=0
   ·rw [if_pos hq] at hx
    rw [hq] at hc
    refine wx ?_
    simp -implicitDefEqProofs -dsimp [L1,encI,ha,hb,show ¬(bs.length≤i) by omega]
    refine (callP (hc) (by simp)).mono ?_
    rintro r H' ⟨rfl,rfl⟩
    simp -implicitDefEqProofs -dsimp [wrapS i (by omega)]
    refine stop_of ?_
    refine ⟨i+1,⟨by omega,by omega,hx⟩,by omega,?_,⟨[],rfl⟩,?_,?_⟩<;>simp [L1,encI]
   ·rw [if_neg hq] at hx
    refine wx ?_
    simp -implicitDefEqProofs -dsimp [L1,encI,ha,hb,show ¬(bs.length≤i) by omega]
    refine (callP (hc) (by simp)).mono ?_
    rintro r H' ⟨rfl,rfl⟩
    simp -implicitDefEqProofs -dsimp [hq]
    exact hx
  ·rw [List.drop_eq_getElem_cons ha,List.drop_of_length_le (l:=bs) (by omega),cmpL] at hx
   refine wx ?_
   simp -implicitDefEqProofs -dsimp [L1,encI,ha,show bs.length≤i by omega]
   exact hx
 ·by_cases hb:i<bs.length
  ·rw [List.drop_eq_getElem_cons hb,List.drop_of_length_le (l:=us) (by omega),cmpL] at hx
   refine wx ?_
   simp -implicitDefEqProofs -dsimp [L1,encI,ha,show us.length<bs.length by omega]
   exact hx
  ·rw [List.drop_of_length_le (l:=us) (by omega),List.drop_of_length_le (l:=bs) (by omega),cmpL] at hx
   refine wx ?_
   simp -implicitDefEqProofs -dsimp [L1,encI,ha,show ¬(us.length<bs.length) by omega]
   exact hx
def bsI (xs:List Int) (x:Int) (lo hi:Nat):Nat :=
 if h:lo<hi then (if (xs[(lo+hi) / 2]?).getD 0<x then bsI xs x ((lo+hi) / 2+1) hi else bsI xs x lo ((lo+hi) / 2)) else lo
termination_by hi - lo
def bsP (xs:List Int) (x:Int):Nat:=bsI xs x 0 xs.length
def bsF (xs:List Int) (x:Int):Bool:=xs[bsP xs x]? == some x
theorem shr1 (lo hi:Nat) (h:lo+hi<2000002):IntKind.i64.wrap ((IntKind.u64.wrap ((lo:Int)+(hi:Int))).fdiv (2^min 1 IntKind.u64.bits))=(((lo+hi) / 2:Nat):Int):=by
 have h2:(2:Int)^min 1 IntKind.u64.bits=2:=by decide
 have h1:IntKind.u64.wrap ((lo:Int)+(hi:Int))=(lo:Int)+(hi:Int):=by rw [IntKind.wrap_u64]; omega
 rw [h2,h1,Int.fdiv_eq_ediv_of_nonneg _ (by omega),wrap64 (by omega) (by omega)]
 omega
theorem bsearch64 (xs:List Int) (x:Int) (f:Bool) (hl:xs.length≤1000000):ConP Tryz.prog 55 [L1 f xs,.int .i64 x] fun r=>r = .tup [.int .i64 (bsP xs x),.bool (bsF xs x)]:=by
 refine conP_of_conH (conH_of_W tok Tryz.func55 rfl rfl ?_)
 refine wx ?_
 simp -implicitDefEqProofs -dsimp [Tryz.f55,List.replicate,L1]
 refine lw_of (W_loopG [7,8,9,13,14,15,16,17,18,19,20,21,22,23,24,25,26,27,28,29,30] (σ:=Nat×Nat) (fun p=>p.1≤p.2∧p.2≤xs.length∧bsI xs x p.1 p.2=bsP xs x) (fun p=>p.2 - p.1) (fun p=>[(7,.int .i64 p.1),(8,.int .i64 p.2)]) (fun _=>[]) (0,xs.length) ⟨by omega,by omega,rfl⟩ (by simp) rfl (by simp) ?_)
 rintro ⟨lo,hi⟩ ⟨h1,h2,hx⟩
 simp only at h1 h2 hx
 by_cases hb:lo<hi
 ·have hw:IntKind.i64.wrap ((lo:Int)+(hi:Int))=((lo+hi:Nat):Int):=by rw [wrap64 (by omega) (by omega)]; rfl
  have hs:=shr1 lo hi (by omega)
  rw [bsI,dif_pos hb] at hx
  obtain ⟨m,em⟩:∃m,m=(lo+hi) / 2:=⟨_,rfl⟩
  rw [←em] at hs hx
  have hm:m<xs.length:=by omega
  rw [List.getElem?_eq_getElem hm,Option.getD_some] at hx
  have hc:=less64 xs[m] x
  have hs1:=wrapS m (by omega)
  by_cases hq:xs[m]<x
  ·rw [if_pos hq] at hx
   rw [decide_eq_true hq] at hc
   refine wx ?_
   simp -implicitDefEqProofs -dsimp [L1,encI,hb,hw,hs,hm]
   refine (callP (hc) (by simp)).mono ?_
   rintro r H' ⟨rfl,rfl⟩
   simp -implicitDefEqProofs -dsimp [hs1]
   refine stop_of ?_
   refine ⟨(m+1,hi),⟨by simp only; omega,h2,hx⟩,by omega,?_,⟨[],rfl⟩,?_,?_⟩<;>simp [L1,encI]
  ·rw [if_neg hq] at hx
   rw [decide_eq_false hq] at hc
   refine wx ?_
   simp -implicitDefEqProofs -dsimp [L1,encI,hb,hw,hs,hm]
   refine (callP (hc) (by simp)).mono ?_
   rintro r H' ⟨rfl,rfl⟩
   simp -implicitDefEqProofs -dsimp []
   refine stop_of ?_
   refine ⟨(lo,m),⟨by simp only; omega,by simp only; omega,hx⟩,by omega,?_,⟨[],rfl⟩,?_,?_⟩<;>simp [L1,encI]
 ·rw [bsI,dif_neg hb] at hx
  by_cases hn:lo<xs.length
  ·by_cases hq:xs[lo]=x
   ·refine wx ?_
    simp -implicitDefEqProofs -dsimp [L1,encI,hb,hn,hq]
    simp [hx.symm,bsF,hn,hq]
   ·refine wx ?_
    simp -implicitDefEqProofs -dsimp [L1,encI,hb,hn,hq]
    refine (callP (nan_s xs[lo]) (by simp)).mono ?_
    rintro r H' ⟨rfl,rfl⟩
    simp -implicitDefEqProofs -dsimp []
    simp [hx.symm,bsF,hn,hq]
  ·refine wx ?_
   simp -implicitDefEqProofs -dsimp [L1,encI,hb,hn]
   simp [hx.symm,bsF,hn]
theorem all_drop (p:Int→Bool) (xs:List Int) (i:Nat) (h:i<xs.length):(xs.drop i).all p=(p xs[i]&&(xs.drop (i+1)).all p):=by rw [List.drop_eq_getElem_cons h]; rfl
def contB (xs ps:List Int):Bool:=ps.all fun x=>bsF xs x
theorem cont_c (xs ps:List Int) (f g:Bool) (hl:xs.length≤1000000) (hl2:ps.length≤1000000):ConP Tryz.prog 49 [L1 f xs,L1 g ps] fun r=>r = .bool (contB xs ps):=by
 refine conP_of_conH (conH_of_W tok Tryz.func49 rfl rfl ?_)
 refine wx ?_
 simp -implicitDefEqProofs -dsimp [Tryz.f49,List.replicate,L1]
 refine lw_of (W_loopG [4,6,7,8,11,12,13,14,15,16,17,18,19,20,21,22,23] (σ:=Nat) (fun i=>contB xs (ps.drop i)=contB xs ps) (fun i=>ps.length - i) (fun i=>[(11,.int .i64 i)]) (fun _=>[]) 0 rfl (by simp) rfl (by simp) ?_)
 intro i hx
 by_cases hb:i<ps.length
 ·have hx':(bsF xs ps[i]&&contB xs (ps.drop (i+1)))=contB xs ps:=by rw [←hx]; exact (all_drop _ ps i hb).symm
  have hc:=bsearch64 xs ps[i] f hl
  cases hq:bsF xs ps[i]
  ·rw [hq] at hx' hc
   refine wx ?_
   simp -implicitDefEqProofs -dsimp [L1,encI,hb]
   refine (callP (hc) (by simp)).mono ?_
   rintro r H' ⟨rfl,rfl⟩
   simp -implicitDefEqProofs -dsimp []
   simpa using hx'
  ·rw [hq] at hx' hc
   refine wx ?_
   simp -implicitDefEqProofs -dsimp [L1,encI,hb]
   refine (callP (hc) (by simp)).mono ?_
   rintro r H' ⟨rfl,rfl⟩
   simp -implicitDefEqProofs -dsimp [wrapS i (by omega)]
   refine stop_of ?_
   refine ⟨i+1,by simpa using hx',by omega,?_,⟨[],rfl⟩,?_,?_⟩<;>simp [L1,encI]
 ·rw [List.drop_of_length_le (by omega)] at hx
  refine wx ?_
  simp -implicitDefEqProofs -dsimp [L1,hb]
  simpa [contB] using hx
theorem ascFrom_iff (xs:List Int) (i:Nat) (h1:1≤i):ascFrom xs i=true↔∀j,i≤j→∀(h:j<xs.length),xs[j - 1]<xs[j]:=by
 fun_induction ascFrom xs i with
 | case1 i h h0=>simp only [Bool.false_eq_true,false_iff]; intro hh; have:=hh i (Nat.le_refl _) h; omega
 | case2 i h h0 ih =>
  rw [ih (by omega)]
  constructor
  ·intro hh j hj hl
   rcases Nat.lt_or_ge i j with h2 | h2
   ·exact hh j (by omega) hl
   ·obtain rfl:j=i:=by omega
    omega
  ·intro hh j hj hl; exact hh j (by omega) hl
 | case3 i h=>simp only [true_iff]; intro j hj hl; omega
theorem asc_lt {xs:List Int} (h:asc xs=true):∀(i j:Nat) (hi:i<xs.length) (hj:j<xs.length),i<j→xs[i]<xs[j]:=by
 have h1:=(ascFrom_iff xs 1 (by omega)).1 h
 intro i j hi hj hij
 induction j with
 | zero=>omega
 | succ j ih =>
  have h2:=h1 (j+1) (by omega) hj
  simp only [Nat.add_sub_cancel] at h2
  rcases Nat.lt_or_ge i j with h3 | h3
  ·have:=ih (by omega) h3; omega
  ·obtain rfl:i=j:=by omega
   exact h2
theorem bsI_ok {xs:List Int} (hs:asc xs=true) (x:Int) (lo hi:Nat) (hlh:lo≤hi) (hhl:hi≤xs.length) (h1:∀j (h:j<xs.length),j<lo→xs[j]<x) (h2:∀j (h:j<xs.length),hi≤j→x≤xs[j]) :
  (∀j (h:j<xs.length),j<bsI xs x lo hi→xs[j]<x)∧∀j (h:j<xs.length),bsI xs x lo hi≤j→x≤xs[j]:=by
 fun_induction bsI xs x lo hi with
 | case1 lo hi h0 hq ih =>
  have hm:(lo+hi) / 2<xs.length:=by omega
  rw [List.getElem?_eq_getElem hm,Option.getD_some] at hq
  refine ih (by omega) hhl (fun j h hj=>?_) h2
  rcases Nat.lt_or_ge j ((lo+hi) / 2) with h3 | h3
  ·have:=asc_lt hs j _ h hm h3; omega
  ·obtain rfl:j=(lo+hi) / 2:=by omega
   exact hq
 | case2 lo hi h0 hq ih =>
  have hm:(lo+hi) / 2<xs.length:=by omega
  rw [List.getElem?_eq_getElem hm,Option.getD_some] at hq
  refine ih (by omega) (by omega) h1 (fun j h hj=>?_)
  rcases Nat.lt_or_ge ((lo+hi) / 2) j with h3 | h3
  ·have:=asc_lt hs _ j hm h h3; omega
  ·obtain rfl:j=(lo+hi) / 2:=by omega
   omega
 | case3 lo hi h0=>exact ⟨fun j h hj=>h1 j h hj,fun j h hj=>h2 j h (by omega)⟩
theorem bsF_mem {xs:List Int} (hs:asc xs=true) (x:Int):bsF xs x=memB xs x:=by
 obtain ⟨h1,h2⟩:=bsI_ok hs x 0 xs.length (by omega) (by omega) (fun j h hj=>absurd hj (by omega)) (fun j h hj=>absurd h (by omega))
 rw [Bool.eq_iff_iff,memB_iff]
 unfold bsF bsP
 constructor
 ·intro h
  have:=beq_iff_eq.1 h
  exact List.mem_of_getElem? this
 ·intro h
  obtain ⟨j,hj,rfl⟩:=List.mem_iff_getElem.1 h
  have a1:bsI xs xs[j] 0 xs.length≤j:=by
   rcases Nat.lt_or_ge j (bsI xs xs[j] 0 xs.length) with h3 | h3
   ·have:=h1 j hj h3; omega
   ·exact h3
  have a2:j≤bsI xs xs[j] 0 xs.length:=by
   rcases Nat.lt_or_ge (bsI xs xs[j] 0 xs.length) j with h3 | h3
   ·have h4:=h2 _ (by omega) (Nat.le_refl _)
    have:=asc_lt hs _ j (by omega) hj h3
    omega
   ·exact h3
  rw [show bsI xs xs[j] 0 xs.length=j by omega]
  simp [hj]
theorem contB_within {xs:List Int} (hs:asc xs=true) (ps:List Int):contB xs ps=within ps xs:=by
 unfold contB within
 congr 1
 funext x
 exact bsF_mem hs x
theorem cmpL_lex:∀us bs:List Int,decide (0≤cmpL us bs) = !lexLt us bs
 | [],[]=>rfl
 | [],_::_=>rfl
 | _::_,[]=>rfl
 | x::xs,y::ys=>by
  have ih:=cmpL_lex xs ys
  simp only [cmpL,lexLt,cmpI]
  by_cases h:x=y
  ·subst h; simp [ih]
  ·rcases Int.lt_or_gt_of_ne h with h1 | h1
   ·simp [h,h1]
   ·have h2:¬x<y:=by omega
    simp [h,h1,h2]
def LL (g:Bool) (es:List (List Int)):V:=.lst 1 g (es.map (L1 false))
def encH (f g:Bool) (vs:List Int) (es:List (List Int)):V:=.agg [L1 f vs,LL g es]
@[simp] theorem LL_pure (g:Bool) (es:List (List Int)):AM.Pure (LL g es):=by simp [LL]
@[simp] theorem encH_pure (f g:Bool) (vs:List Int) (es:List (List Int)):AM.Pure (encH f g vs es):=by simp [encH]
def Small (vs:List Int) (es:List (List Int)):Prop:=vs.length≤1000000∧es.length≤1000000∧∀e∈es,e.length≤1000000
@[simp] theorem encI_oneV (n:Int):oneV (encI n)=true:=rfl
@[simp] theorem L1_oneV (f:Bool) (xs:List Int):oneV (L1 f xs)=true:=rfl
def eAt (es:List (List Int)) (i:Nat):List Int:=es.getD i []
theorem getD_at {es:List (List Int)} {i:Nat} (h:i<es.length):eAt es i=es[i]:=by simp [eAt,h]
theorem agg_rel {w:World} {vs:List V} {us:Array Value} (h:CR w vs us.toList):Rel (AM.base (fun _=>False) w) (.agg vs) (.agg us) :=
 .agg vs us (by simpa using h.len.symm) h.one (fun i c u hc hu=>h.rel i c u hc (by simpa using hu))
end
end Go.Proofs.YtfaleabndlcanaaGreatDoor
namespace Go.AM
section
open Go Go.Deep
section
structure BulkOk {H:Type} (bk:DataW H→Nat):Prop where
 len:∀es sp,es.length≤bk (.slice es sp)
 elem:∀es sp d,d∈es→bk d≤bk (.slice es sp)
 part:∀ps d,d∈ps→bk d≤bk (.agg ps)
def ShB (T:Ty) (Bd:Nat):Nat→TypeId→List V→Prop
 | 0,_,_=>False
 | n+1,t,vs=>match T t with
  | none=>False
  | some i=>match i.desc with
   | .bool=>∃b,vs=[.bool b]
   | .int k=>∃m,vs=[.int k m]∧(Lit.int k m).wf=true
   | .string=>∃s,vs=[.str s]∧s.size≤maxLen
   | .slice e=>match T e with
    | some j=>∃xs,vs=[.lst j.size false xs]∧xs.length≤maxLen∧xs.length≤Bd∧∀x∈xs,∃ws,ShB T Bd n e ws∧ws.length=j.size∧x=(if isAggD j.desc then .agg ws else ws.headD .undef)
    | none=>False
   | .struct fs=>vs.length=i.size∧∀f∈fs.toList,∃j,T f.type=some j∧ShB T Bd n f.type ((vs.drop f.offset).take j.size)
   | _=>False
section
variable {P:Program} {T:Ty} {Bd:Nat} {Hd:Type} {enc:TypeId×Value→Hd} {w:World} {held:Bool}
theorem opn_fieldsB {n tot:Nat} {cs:List Value} (hlen:cs.length=tot):∀(l:List Field) (off:Nat),layB T tot off l=true→off≤tot →
  (∀f∈l,∀j,T f.type=some j→∃vs,CR w vs ((cs.drop f.offset).take j.size)∧ShB T Bd n f.type vs) →
  ∃vs,CR w vs (cs.drop off)∧∀f∈l,∃j,T f.type=some j∧off≤f.offset∧ShB T Bd n f.type ((vs.drop (f.offset - off)).take j.size)
 | [],off,h,hle,_=>by
  simp only [layB,beq_iff_eq] at h
  refine ⟨[],⟨by simp; omega,by simp,by simp⟩,by simp⟩
 | f::r,off,h,hle,hf=>by
  simp only [layB] at h
  split at h
  ·rename_i j hj
   simp only [Bool.and_eq_true,beq_iff_eq] at h
   obtain ⟨hoff,h⟩:=h
   have hle2:off+j.size≤tot:=lay_le r _ h
   obtain ⟨vs,hcr,hsh⟩:=hf f (by simp) j hj
   obtain ⟨ws,hcr2,hws⟩:=opn_fieldsB hlen r (off+j.size) h hle2 (fun g hg=>hf g (by simp [hg]))
   have hvl:vs.length=j.size:=by rw [hcr.len,hoff,List.length_take,List.length_drop]; omega
   refine ⟨vs++ws,?_,fun g hg=>?_⟩
   ·have:=hcr.append hcr2
    rwa [hoff,←List.drop_drop,List.take_append_drop] at this
   ·rcases List.mem_cons.1 hg with rfl | hg
    ·refine ⟨j,hj,by omega,?_⟩
     rw [hoff,Nat.sub_self,List.drop_zero,List.take_append_of_le_length (by omega),List.take_of_length_le (by omega)]
     exact hsh
    ·obtain ⟨j2,hj2,hle3,hs2⟩:=hws g hg
     refine ⟨j2,hj2,by omega,?_⟩
     rw [List.drop_append,List.drop_of_length_le (by omega),List.nil_append,hvl,show g.offset - off - j.size=g.offset - (off+j.size) by omega]
     exact hs2
  ·cases h
where
 lay_le {tot:Nat} : ∀(l:List Field) (off:Nat),layB T tot off l=true→off≤tot
  | [],off,h=>by simp only [layB,beq_iff_eq] at h; omega
  | f::r,off,h=>by
   simp only [layB] at h
   split at h
   ·simp only [Bool.and_eq_true] at h
    have:=lay_le r _ h.2
    omega
   ·cases h
theorem opnB {bk:DataW Hd→Nat} (hB:BulkOk bk) (hT:TOk P T) (hc:∀t i,T t=some i→P.cellsOf t=i.size):∀(n fuel:Nat) (t:TypeId) (cs:List Value) (x:DataW Hd×List MemPlace),ShOk T n t=true→DataW.trod enc P w 0 (fun _=>true) held fuel t cs=some x→bk x.1≤Bd→∃vs,CR w vs cs∧ShB T Bd n t vs
 | 0,_,_,_,_,h,_,_=>by simp [ShOk] at h
 | n+1,fuel,t,cs,x,h,ht,hbd=>by
  simp only [ShOk] at h
  split at h
  ·cases h
  ·rename_i i hi
   have hu:=hT.und t i hi
   have hcell:=hc t i hi
   split at h
   ·rename_i hd
    rw [hd] at hu
    cases fuel with
    | zero=>simp [DataW.trod] at ht
    | succ m =>
     unfold DataW.trod at ht
     rw [hu] at ht
     split at ht<;>simp_all
     exact ⟨_,CR.single (.bool _) rfl,by simp [ShB,hi,hd]⟩
   ·rename_i k hd
    rw [hd] at hu
    cases fuel with
    | zero=>simp [DataW.trod] at ht
    | succ m =>
     unfold DataW.trod at ht
     rw [hu] at ht
     split at ht<;>simp_all
     exact ⟨_,CR.single (.int _ _) rfl,by simp [ShB, *]⟩
   ·rename_i hd
    rw [hd] at hu
    cases fuel with
    | zero=>simp [DataW.trod] at ht
    | succ m =>
     unfold DataW.trod at ht
     rw [hu] at ht
     split at ht<;>simp_all
     exact ⟨_,CR.single (.str _) rfl,by simp [ShB, *]⟩
   ·rename_i e hd
    rw [hd] at hu
    split at h
    ·rename_i j hj
     simp only [Bool.and_eq_true,decide_eq_true_eq,Bool.or_eq_true,beq_iff_eq] at h
     obtain ⟨⟨hz,hag⟩,hok⟩:=h
     rcases open_slice hu ht with ⟨rfl,_⟩ | ⟨a,len,cap,m,q,D,Pl,rfl,_,hle,hcap,hm,hxe,hel⟩
     ·exact ⟨[.lst j.size false []],CR.single (rel_empty _ false _ _ (by simp)) rfl,by simp only [ShB,hi,hd,hj]; exact ⟨[],rfl,by simp,by simp,by simp⟩⟩
     ·simp only [if_true] at hm
      subst hm
      rw [hc e j hj] at hel
      have hxb:∀i,i<len→bk (D i)≤Bd:=fun i hi'=>Nat.le_trans (hB.elem _ _ (D i) (List.mem_map.2 ⟨i,List.mem_range.2 hi',rfl⟩)) (by rw [hxe] at hbd; exact hbd)
      have hlb:len≤Bd:=by
       have h1:=hB.len ((List.range len).map D) ((List.range (m - len)).map fun j=>D (len+j))
       rw [List.length_map,List.length_range] at h1
       rw [hxe] at hbd
       exact Nat.le_trans h1 hbd
      have hex:∀i,i<len→∃ws:List V,ShB T Bd n e ws∧ws.length=j.size∧(∀v∈ws,v.one=true)∧∀(l:Nat) v,ws[l]?=some v→∃c,w.cell? (a.add (i*j.size+l))=some c∧Rel (base (fun _=>False) w) v c:=fun i hil=>by
       obtain ⟨cs',h1,h2⟩:=hel i (by omega)
       obtain ⟨ws,hcr,hsh⟩:=opnB hB hT hc n q e cs' _ hok h2 (hxb i hil)
       obtain ⟨_,hcl,hat⟩:=World.cells?_some h1
       refine ⟨ws,hsh,by rw [hcr.len,hcl],hcr.one,fun l v hv=>?_⟩
       have hl:l<j.size:=by have:=getElem?_lt hv; rw [hcr.len,hcl] at this; exact this
       have hcv:cs'[l]?=some (cs'[l]'(by omega)):=List.getElem?_eq_getElem (by omega)
       have:=hat l hl
       rw [hcv,add_add] at this
       exact ⟨_,this,hcr.rel l v _ hv hcv⟩
      obtain ⟨W,hW⟩:=choose_lt hex
      obtain ⟨xs,hxs⟩:∃xs:List V,xs=(List.range len).map fun i=>(if isAggD j.desc then V.agg (W i) else (W i).headD .undef):=⟨_,rfl⟩
      have hxl:xs.length=len:=by simp [hxs]
      have hxat:∀(i:Nat) y,xs[i]?=some y→i<len∧y=(if isAggD j.desc then V.agg (W i) else (W i).headD .undef)∧y.cells=W i:=fun i y hy=>by
       have hil:i<len:=by have:=getElem?_lt hy; omega
       rw [hxs,List.getElem?_map,List.getElem?_range hil] at hy
       simp only [Option.map_some,Option.some.injEq] at hy
       obtain ⟨_,hwl,hw1,_⟩:=hW i hil
       refine ⟨hil,hy.symm,?_⟩
       rw [←hy]
       split
       ·rfl
       ·rename_i hna
        have hz1:j.size=1:=by rcases hag with h | h; exact absurd h hna; exact h
        obtain ⟨v,hv⟩:=List.length_eq_one_iff.1 (hwl.trans hz1)
        rw [hv]
        exact one_cells (hw1 v (by rw [hv]; simp))
      have hsh:∀y∈xs,∃ws,ShB T Bd n e ws∧ws.length=j.size∧y=(if isAggD j.desc then V.agg ws else ws.headD .undef):=fun y hy=>by
       obtain ⟨i,hi'⟩:=List.mem_iff_getElem?.1 hy
       obtain ⟨hil,hye,_⟩:=hxat i y hi'
       exact ⟨W i,(hW i hil).1,(hW i hil).2.1,hye⟩
      refine ⟨[.lst j.size false xs],CR.single ?_ rfl,by simp only [ShB,hi,hd,hj]; exact ⟨xs,rfl,by omega,by omega,hsh⟩⟩
      ·have hspot:0<len→a.spot=none∧a.block<w.heap.size:=fun h0=>by
        obtain ⟨_,hwl,_,hcv⟩:=hW 0 h0
        obtain ⟨c,hcc,_⟩:=hcv 0 (W 0)[0] (List.getElem?_eq_getElem (by omega))
        simp only [Nat.zero_mul,Nat.add_zero] at hcc
        have hb:=World.block_lt_of_cell? w _ hcc
        have hs:=spot_cell hcc
        simpa [Addr.add] using And.intro hs hb
       have:=Rel.lst (s:=base (fun _=>False) w) j.size false xs (some a) m a.block a.off (fun i l=>(w.cell? ⟨a.block,a.off+i*j.size+l,none⟩).getD undef) (by omega) (by simp) (fun h0=>by
         obtain ⟨h1,h2⟩:=hspot (by omega)
         exact ⟨by cases a; simp_all,h2,fun h=>h,fun k hk=>by have:=hk.1; simp [base] at this⟩)
        (fun y hy=>by
         obtain ⟨i,hi'⟩:=List.mem_iff_getElem?.1 hy
         obtain ⟨hil,_,hyc⟩:=hxat i y hi'
         rw [hyc]
         exact ⟨(hW i hil).2.1,(hW i hil).2.2.1⟩)
        (fun i y l c hy hcc=>by
         obtain ⟨hil,_,hyc⟩:=hxat i y hy
         rw [hyc] at hcc
         obtain ⟨u,hu1,_⟩:=(hW i hil).2.2.2 l c hcc
         rw [addr_at (hspot (by omega)).1,←Nat.add_assoc] at hu1
         show w.cell? _=_
         rw [hu1]; rfl)
        (fun i y l c hy hcc=>by
         obtain ⟨hil,_,hyc⟩:=hxat i y hy
         rw [hyc] at hcc
         obtain ⟨u,hu1,hu2⟩:=(hW i hil).2.2.2 l c hcc
         rw [addr_at (hspot (by omega)).1,←Nat.add_assoc] at hu1
         rw [hu1]
         exact hu2)
       rwa [hxl] at this
    ·cases h
   ·rename_i fs hd
    rw [hd] at hu
    simp only [Bool.and_eq_true,List.all_eq_true] at h
    obtain ⟨xs,q,_,hxe,hlen,hxl,hf⟩:=DataW.trod_struct hu ht
    rw [hcell] at hlen
    obtain ⟨vs,hcr,hvs⟩:=opn_fieldsB (T:=T) (Bd:=Bd) (w:=w) (n:=n) hlen fs.toList 0 h.1 (Nat.zero_le _) (fun f hfm j hj=>by
     obtain ⟨k,hk⟩:=List.mem_iff_getElem?.1 hfm
     have hk':fs[k]?=some f:=by simpa using hk
     have h1:=hf k f hk'
     have hkl:k<xs.length:=by rw [hxl]; exact (Array.getElem?_eq_some_iff.1 hk').1
     rw [List.getElem?_eq_getElem hkl,hc f.type j hj] at h1
     exact opnB hB hT hc n q f.type _ _ (h.2 f hfm) h1 (Nat.le_trans (hB.part _ _ (List.mem_map.2 ⟨_,List.getElem_mem hkl,rfl⟩)) (by rw [hxe] at hbd; exact hbd)))
    rw [List.drop_zero] at hcr
    refine ⟨vs,hcr,?_⟩
    simp only [ShB,hi,hd]
    refine ⟨by rw [hcr.len,hlen],fun f hfm=>?_⟩
    obtain ⟨j,hj,_,hs⟩:=hvs f hfm
    exact ⟨j,hj,by simpa using hs⟩
   ·cases h
end
end
end
end Go.AM
namespace Go.Proofs.YtfaleabndlcanaaGreatDoor
section
open Go Go.AM
theorem bulk_one {H:Type} (d:DataW H):1≤Rows.uptoBulk d:=by
 cases d with
 | lit l=>cases l<;>simp [Rows.uptoBulk]
 | nil=>simp [Rows.uptoBulk]
 | ptr d=>simp [Rows.uptoBulk]
 | slice a b=>simp [Rows.uptoBulk]
 | agg l=>simp [Rows.uptoBulk]
 | iface t d=>simp [Rows.uptoBulk]
 | map l=>simp [Rows.uptoBulk]
 | held h=>simp [Rows.uptoBulk]
theorem bulk_mem {H:Type} {d:DataW H} : ∀{l:List (DataW H)},d∈l→Rows.uptoBulk d≤Rows.uptoBulkAll l
 | [],h=>by cases h
 | x::r,h=>by
  rw [Rows.uptoBulkAll]
  rcases List.mem_cons.1 h with rfl | h
  ·omega
  ·have:=bulk_mem h; omega
theorem bulk_len {H:Type} : ∀l:List (DataW H),l.length≤Rows.uptoBulkAll l
 | []=>by simp
 | x::r=>by
  rw [Rows.uptoBulkAll,List.length_cons]
  have:=bulk_one x
  have:=bulk_len r
  omega
theorem bulk_ok {H:Type} : BulkOk (H:=H) Rows.uptoBulk where
 len es sp:=by rw [Rows.uptoBulk]; have:=bulk_len es; omega
 elem es sp d h:=by rw [Rows.uptoBulk]; have:=bulk_mem h; omega
 part ps d h:=by rw [Rows.uptoBulk]; have:=bulk_mem h; omega
theorem bulk_le {H:Type} {l:List (DataW H)} (h:Rows.uptoSmall H l=true):Rows.uptoBulkAll l≤1048576:=of_decide_eq_true h
def ixI (xs:List Int) (x:Int) (i:Nat):Int:=if h:i<xs.length then (if x=xs[i] then (i:Int) else ixI xs x (i+1)) else -1
termination_by xs.length - i
theorem ixI_mem (xs:List Int) (x:Int) (i:Nat):decide (0≤ixI xs x i)=memB (xs.drop i) x:=by
 fun_induction ixI xs x i with
 | case1 i h h0=>rw [List.drop_eq_getElem_cons h,memB_cons]; simp [h0]
 | case2 i h h0 ih=>rw [List.drop_eq_getElem_cons h,memB_cons,ih]; simp [h0]
 | case3 i h=>rw [List.drop_of_length_le (by omega)]; rfl
theorem index64 (xs:List Int) (x:Int) (f:Bool) (hl:xs.length≤1000000):ConP Tryz.prog 63 [L1 f xs,.int .i64 x] fun r=>r = .int .i64 (ixI xs x 0):=by
 refine conP_of_conH (conH_of_W tok Tryz.func63 rfl rfl ?_)
 refine wx ?_
 simp -implicitDefEqProofs -dsimp [Tryz.f63,List.replicate,L1]
 refine lw_of (W_loopG [4,5,8,9,10,11,12,13,14,15,16,17,18] (σ:=Nat) (fun i=>ixI xs x i=ixI xs x 0) (fun i=>xs.length - i) (fun i=>[(8,.int .i64 i)]) (fun _=>[]) 0 rfl (by simp) rfl (by simp) ?_)
 intro i hx
 by_cases hb:i<xs.length
 ·rw [ixI,dif_pos hb] at hx
  by_cases hq:x=xs[i]
  ·rw [if_pos hq] at hx
   refine wx ?_
   simp -implicitDefEqProofs -dsimp [L1,encI,hb,hq]
   rw [←hq]
   exact hx
  ·rw [if_neg hq] at hx
   refine wx ?_
   simp -implicitDefEqProofs -dsimp [L1,encI,hb,hq,wrapS i (by omega)]
   refine stop_of ?_
   refine ⟨i+1,hx,by omega,?_,⟨[],rfl⟩,?_,?_⟩<;>simp [L1,encI]
 ·rw [ixI,dif_neg hb] at hx
  refine wx ?_
  simp -implicitDefEqProofs -dsimp [L1,hb]
  exact hx
theorem contains64 (xs:List Int) (x:Int) (f:Bool) (hl:xs.length≤1000000):ConP Tryz.prog 31 [L1 f xs,.int .i64 x] fun r=>r = .bool (memB xs x):=by
 have h0:=ixI_mem xs x 0
 rw [List.drop_zero] at h0
 refine conP_of_conH (conH_of_W tok Tryz.func31 rfl rfl ?_)
 refine wx ?_
 simp -implicitDefEqProofs -dsimp [Tryz.f31,List.replicate]
 refine (callP (index64 xs x f hl) (by simp)).mono ?_
 rintro r H' ⟨rfl,rfl⟩
 simp -implicitDefEqProofs -dsimp []
 rw [←h0]
theorem equal64 (us bs:List Int) (f g:Bool) (hl:us.length≤1000000) (hl2:bs.length≤1000000):ConP Tryz.prog 24 [L1 f us,L1 g bs] fun r=>r = .bool (decide (us=bs)):=by
 by_cases hn:us.length=bs.length
 ·refine conP_of_conH (conH_of_W tok Tryz.func24 rfl rfl ?_)
  refine wx ?_
  simp -implicitDefEqProofs -dsimp [Tryz.f24,List.replicate,L1,hn]
  refine lw_of (W_loopG [4,5,13,14,15,16,17,18,19,20,21,22,23,24,25] (σ:=Nat) (fun i=>i≤us.length∧us.take i=bs.take i) (fun i=>us.length - i) (fun i=>[(13,.int .i64 i)]) (fun _=>[]) 0 ⟨by omega,by simp⟩ (by simp) rfl (by simp) ?_)
  rintro i ⟨h1,h2⟩
  by_cases hb:i<bs.length
  ·have ha:i<us.length:=by omega
   by_cases hq:us[i]=bs[i]
   ·refine wx ?_
    simp -implicitDefEqProofs -dsimp [L1,encI,ha,hb,hq,wrapS i (by omega)]
    refine .inr ⟨stop_of (by kernel_rfl),?_⟩
    refine stop_of ?_
    refine ⟨i+1,⟨by omega,by rw [List.take_succ_eq_append_getElem ha,List.take_succ_eq_append_getElem hb,h2,hq]⟩,by omega,?_,⟨[],rfl⟩,?_,?_⟩<;>simp [L1,encI]
   ·refine wx ?_
    simp -implicitDefEqProofs -dsimp [L1,encI,ha,hb,hq]
    refine .inr ⟨stop_of (by kernel_rfl),?_⟩
    rintro rfl
    exact hq rfl
  ·refine wx ?_
   simp -implicitDefEqProofs -dsimp [L1,hb]
   rw [List.take_of_length_le (by omega),List.take_of_length_le (by omega)] at h2
   exact h2
 ·have hne:¬us=bs:=fun h=>hn (by rw [h])
  refine conP_of_conH (conH_of_W tok Tryz.func24 rfl rfl ?_)
  refine wx ?_
  simp -implicitDefEqProofs -dsimp [Tryz.f24,List.replicate,L1,hn,show ¬((us.length:Int)=bs.length) by omega]
  exact hne
def hasB (s:Int) (i:Nat):Bool:=IntKind.u32.wrap ↑((s.fdiv (2^min i IntKind.u32.bits) % 2^IntKind.u32.bits).toNat &&& 1 % 2^IntKind.u32.bits) == 1
theorem has02 (s:Int) (i:Nat) (hi:i<32):ConP Tryz.prog 62 [.int .u32 s,.int .i64 i] fun r=>r = .bool (hasB s i):=by
 refine conP_of_conH (conH_of_W tok Tryz.func62 rfl rfl ?_)
 refine wx ?_
 simp -implicitDefEqProofs -dsimp [Tryz.f62,List.replicate,show (i:Int)<32 by omega]
 rfl
theorem cap8 (n:Nat) (h:n≤1000000000):n≤9223372036854775806∧(n+1)*8≤140737488355328:=by omega
theorem cap24 (n:Nat) (h:n≤1000000000):n≤9223372036854775806∧(n+1)*24≤140737488355328:=by omega
theorem capL8 (n:Nat) (h:n≤1000000000):n≤9223372036854775807∧n*8≤140737488355328:=by omega
theorem wrapN (n:Nat) (h:n<9223372036854775807):IntKind.i64.wrap (n:Int)=n:=wrap64 (by omega) (by omega)
def pickTo (vs:List Int) (s:Int):Nat→List Int
 | 0=>[]
 | i+1=>if hasB (IntKind.u32.wrap s) i then pickTo vs s i++[vs.getD i 0] else pickTo vs s i
def pickF (vs:List Int) (s:Int):List Int:=pickTo vs s (min vs.length 8)
theorem pickTo_len (vs:List Int) (s:Int):∀i,(pickTo vs s i).length≤i
 | 0=>by simp [pickTo]
 | i+1=>by
  have:=pickTo_len vs s i
  simp only [pickTo]
  split
  ·simp; omega
  ·omega
theorem pick37 (vs:List Int) (es:List (List Int)) (s:Int) (f g:Bool) (hs:Small vs es):ConP Tryz.prog 30 [encH f g vs es,.int .u8 s] fun r=>r=L1 false (pickF vs s):=by
 obtain ⟨hv,he,hes⟩:=hs
 refine conP_of_conH (conH_of_W tok Tryz.func30 rfl rfl ?_)
 refine wx ?_
 simp -implicitDefEqProofs -dsimp [Tryz.f30,List.replicate,encH,LL]
 refine lw_of (W_own 2 1 [5] (by simp) (W_loopM 30 [5,6,7,8,9,10,11,12,13,14,15,16,17,18,19,20,21,22,23,24,25,26,27,28,29] (by simp [mB]<;>rfl) (σ:=Nat) (fun i=>i≤min vs.length 8) (fun i=>8 - i) (fun i=>[(6,.int .i64 i),(5,.buf 1 0 (pickTo vs s i).length (pickTo vs s i).length)]) (fun i=>[B.cells [L1 f vs,LL g es],B.buf 2 1 ((pickTo vs s i).map encI) false]) 0 (by omega) (by simp [pickTo]) (by simp [LL,pickTo]) (by simp) ?_))
 intro i hi N Q hN hQ
 by_cases hb:i<vs.length
 ·by_cases h8:i<8
  ·have hc:=has02 (IntKind.u32.wrap s) i (by omega)
   have hl:=pickTo_len vs s i
   have hp:pickTo vs s (i+1)=if hasB (IntKind.u32.wrap s) i then pickTo vs s i++[vs[i]] else pickTo vs s i:=by simp [pickTo,hb]
   cases hq:hasB (IntKind.u32.wrap s) i
   ·rw [hq] at hc hp
    refine wx ?_
    simp -implicitDefEqProofs -dsimp [L1,hb,show (i:Int)<8 by omega]
    refine (callP (hc) (by simp)).mono ?_
    rintro r H' ⟨rfl,rfl⟩
    simp -implicitDefEqProofs -dsimp [wrapS i (by omega)]
    refine hN (i+1) _ _ (by omega) (by omega) ?_ ⟨[],?_⟩ ?_ ?_<;>simp [or_imp,forall_and,L1,encI,LL,hp]
   ·rw [hq] at hc hp
    refine wx ?_
    simp -implicitDefEqProofs -dsimp [L1,hb,show (i:Int)<8 by omega]
    refine (callP (hc) (by simp)).mono ?_
    rintro r H' ⟨rfl,rfl⟩
    simp -implicitDefEqProofs -dsimp [wrapS i (by omega),hb,encI,cap8 (pickTo vs s i).length (by omega)]
    refine hN (i+1) _ _ (by omega) (by omega) ?_ ⟨[],?_⟩ ?_ ?_<;>simp [or_imp,forall_and,L1,encI,LL,hp]
  ·have hp:pickTo vs s i=pickF vs s:=by unfold pickF; congr 1; omega
   refine wx ?_
   simp -implicitDefEqProofs -dsimp [L1,hb,show ¬((i:Int)<8) by omega]
   refine hQ _ _ _ ?_
   simp -implicitDefEqProofs -dsimp []
   rw [←hp]
   exact exp_buf rfl (by simp) (by simp [encI])
 ·have hp:pickTo vs s i=pickF vs s:=by unfold pickF; congr 1; omega
  refine wx ?_
  simp -implicitDefEqProofs -dsimp [L1,hb]
  refine hQ _ _ _ ?_
  simp -implicitDefEqProofs -dsimp []
  rw [←hp]
  exact exp_buf rfl (by simp) (by simp [encI])
def dropE (l:List (List Int)) (i k:Nat):Bool:=within (eAt l k) (eAt l i)&&(decide ((eAt l k).length<(eAt l i).length)||decide (k<i))
def keepTo (l:List (List Int)) (i:Nat):Nat→Bool
 | 0=>true
 | k+1=>keepTo l i k&&!dropE l i k
def keepE (l:List (List Int)) (i:Nat):Bool:=keepTo l i l.length
def insPos (acc:List (List Int)) (e:List Int):Nat→Nat
 | 0=>0
 | k+1=>if lexLt e (eAt acc k) then insPos acc e k else k+1
def insAt (acc:List (List Int)) (e:List Int) (k:Nat):List (List Int):=acc.take k++e::acc.drop k
def insE (acc:List (List Int)) (e:List Int):List (List Int):=insAt acc e (insPos acc e acc.length)
def edgesTo (l:List (List Int)):Nat→List (List Int)
 | 0=>[]
 | i+1=>if keepE l i then insE (edgesTo l i) (eAt l i) else edgesTo l i
def edgesF (l:List (List Int)):List (List Int):=edgesTo l l.length
theorem insE_len (acc:List (List Int)) (e:List Int):(insE acc e).length=acc.length+1:=by simp [insE,insAt]; omega
theorem edgesTo_len (l:List (List Int)):∀i,(edgesTo l i).length≤i
 | 0=>by simp [edgesTo]
 | i+1=>by
  have:=edgesTo_len l i
  simp only [edgesTo]
  split
  ·rw [insE_len]; omega
  ·omega
theorem insE_mem {acc:List (List Int)} {e x:List Int} (h:x∈insE acc e):x=e∨x∈acc:=by
 simp only [insE,insAt,List.mem_append,List.mem_cons] at h
 rcases h with h | h | h
 ·exact .inr (List.mem_of_mem_take h)
 ·exact .inl h
 ·exact .inr (List.mem_of_mem_drop h)
theorem edgesTo_mem {l:List (List Int)} : ∀{i:Nat},i≤l.length→∀{x:List Int},x∈edgesTo l i→x∈l
 | 0,_,x,h=>by simp [edgesTo] at h
 | i+1,hi,x,h=>by
  simp only [edgesTo] at h
  split at h
  ·rcases insE_mem h with rfl | h
   ·rw [getD_at (by omega)]; exact List.getElem_mem _
   ·exact edgesTo_mem (by omega) h
  ·exact edgesTo_mem (by omega) h
theorem insAt_k (acc:List (List Int)) (e:List Int) (k:Nat) (hk:k≤acc.length) (h:k<(insAt acc e k).length):(insAt acc e k)[k]=e:=by
 simp [insAt,hk]
theorem insAt_p (acc:List (List Int)) (e:List Int) (k:Nat) (hk:k≤acc.length) (h1:1≤k) (h:k - 1<(insAt acc e k).length):(insAt acc e k)[k - 1]=eAt acc (k - 1):=by
 have:k - 1<acc.length:=by omega
 have hl:k - 1<(acc.take k).length:=by simp; omega
 simp only [insAt]
 rw [List.getElem_append_left hl]
 simp [eAt,this]
theorem insAt_len (acc:List (List Int)) (e:List Int) (k:Nat):(insAt acc e k).length=acc.length+1:=by simp [insAt]; omega
theorem insAt_swap (acc:List (List Int)) (e:List Int) (k:Nat) (hk:k≤acc.length) (h1:1≤k):((insAt acc e k).set k (eAt acc (k - 1))).set (k - 1) e=insAt acc e (k - 1):=by
 obtain ⟨m,rfl⟩:∃m,k=m+1:=⟨k - 1,by omega⟩
 have hm:m<acc.length:=by omega
 have hl:(acc.take m).length=m:=by simp; omega
 have e1:acc.take (m+1)=acc.take m++[acc[m]]:=List.take_succ_eq_append_getElem hm
 have e2:acc.drop m=acc[m]::acc.drop (m+1):=List.drop_eq_getElem_cons hm
 have e3:eAt acc m=acc[m]:=by simp [eAt,hm]
 simp only [insAt,Nat.add_sub_cancel,e1,e2,e3]
 generalize acc.take m=A at hl
 generalize acc.drop (m+1)=D
 subst hl
 simp [List.set_append]
theorem edges37 (l:List (List Int)) (g:Bool) (hl:l.length≤1000000) (hls:∀e∈l,e.length≤1000000) (hne:∀e∈l,e≠[]):ConP Tryz.prog 45 [LL g l] fun r=>r=LL false (edgesF l):=by
 refine conP_of_conH (conH_of_W (tok_flag tok (fun t=>t == 46)) Tryz.func45 rfl rfl ?_)
 refine W_x (tok_flag tok (fun t=>t == 46)) mixed ?_
 simp -implicitDefEqProofs -dsimp [Tryz.f45,List.replicate,LL,L1,flagT]
 refine lw_of (W_own 46 1 [3] (by simp) (W_loopM 93 [3,4,5,6,7,8,9,10,11,12,13,14,15,16,17,18,19,20,21,22,23,24,25,26,27,28,29,30,31,32,33,34,35,36,37,38,39,40,41,42,43,44,45,46,47,48,49,50,51,52,53,54,55,56,57,58,59,60,61,62,63,64,65,66,67,68,69,70,71,72,73,74,75,76,77,78,79,80,81,82,83,84,85,86,87,88,89,90,91,92] (by simp [mB]<;>rfl) (σ:=Nat) (fun i=>i≤l.length) (fun i=>l.length - i) (fun i=>[(4,.int .i64 i),(3,.buf 0 0 (edgesTo l i).length (edgesTo l i).length)]) (fun i=>[B.buf 46 1 ((edgesTo l i).map (L1 false)) false]) 0 (by omega) (by simp [edgesTo]) (by simp [edgesTo]) (by simp) ?_))
 intro i hi N Q hN hQ
 by_cases hb:i<l.length
 ·have hei:=hls l[i] (List.getElem_mem hb)
  have hni:=hne l[i] (List.getElem_mem hb)
  have hal:=edgesTo_len l i
  have hsi:edgesTo l (i+1)=if keepE l i then insE (edgesTo l i) (eAt l i) else edgesTo l i:=rfl
  have hEi:eAt l i=l[i]:=getD_at hb
  rw [hEi] at hsi
  obtain ⟨acc,hacc⟩:∃acc,acc=edgesTo l i:=⟨_,rfl⟩
  rw [←hacc] at hal hsi ⊢
  refine W_x (tok_flag tok (fun t=>t == 46)) mixed ?_
  simp -implicitDefEqProofs -dsimp [LL,hb,L1,flagT]
  refine lw_of (W_loopM 47 [5,6,14,15,16,17,18,19,20,21,22,23,24,25,26,27,28,29,30,31,32,33,34,35,36,37,38,39,40,41,42,43,44,45,46] (by simp [mB]<;>rfl) (σ:=Nat) (fun k=>k≤l.length) (fun k=>l.length - k) (fun k=>[(6,.int .i64 k),(5,.bool (keepTo l i k))]) (fun _=>[B.buf 46 1 (acc.map (L1 false)) false]) 0 (by omega) (by simp [keepTo]) (by simp) (by simp) ?_)
  intro k hk N2 Q2 hN2 hQ2
  by_cases hkb:k<l.length
  ·
   have hek:=hls l[k] (List.getElem_mem hkb)
   have hc:=within37 l[k] l[i] false false hek hei
   have hEk:eAt l k=l[k]:=getD_at hkb
   have hd:keepTo l i (k+1)=(keepTo l i k&&!(within l[k] l[i]&&(decide (l[k].length<l[i].length)||decide (k<i)))):=by simp only [keepTo,dropE,hEk,hEi]
   simp only [L1] at hc
   refine W_x (tok_flag tok (fun t=>t == 46)) mixed ?_
   simp -implicitDefEqProofs -dsimp [LL,L1,hb,hkb,L1,flagT]
   refine .inr ⟨stop_of (by kernel_rfl),?_⟩
   refine cy_of _ (callP (hc) (by simp)) ?_
   cases h1:within l[k] l[i]
   ·rw [h1] at hd
    simp -implicitDefEqProofs -dsimp [wrapS k (by omega),L1,flagT]
    refine hN2 (k+1) _ _ (by omega) (by omega) ?_ ⟨[],?_⟩ ?_ ?_<;>simp [or_imp,forall_and,L1,encI,hd]
   ·by_cases h2:l[k].length<l[i].length
    ·simp -implicitDefEqProofs -dsimp [wrapS k (by omega),hb,hkb,h2,L1,flagT]
     refine hN2 (k+1) _ _ (by omega) (by omega) ?_ ⟨[],?_⟩ ?_ ?_<;>simp [or_imp,forall_and,L1,encI,hd,h1,h2]
    ·by_cases h3:k<i
     ·simp -implicitDefEqProofs -dsimp [wrapS k (by omega),hb,hkb,h2,h3,L1,flagT]
      refine hN2 (k+1) _ _ (by omega) (by omega) ?_ ⟨[],?_⟩ ?_ ?_<;>simp [or_imp,forall_and,L1,encI,hd,h1,h2,h3]
     ·simp -implicitDefEqProofs -dsimp [wrapS k (by omega),hb,hkb,h2,h3,L1,flagT]
      refine hN2 (k+1) _ _ (by omega) (by omega) ?_ ⟨[],?_⟩ ?_ ?_<;>simp [or_imp,forall_and,L1,encI,hd,h1,h2,h3]
  ·obtain rfl:k=l.length:=by omega
   have hke:keepTo l i l.length=keepE l i:=rfl
   refine W_x (tok_flag tok (fun t=>t == 46)) mixed ?_
   simp -implicitDefEqProofs -dsimp [hkb,L1,flagT]
   refine hQ2 _ _ _ ?_
   simp -implicitDefEqProofs -dsimp [L1,flagT]
   cases hkp:keepE l i
   ·rw [hkp] at hsi hke
    simp -implicitDefEqProofs -dsimp [hke,wrapS i (by omega),L1,flagT]
    refine hN (i+1) _ _ (by omega) (by omega) ?_ ⟨[],?_⟩ ?_ ?_<;>simp [or_imp,forall_and,L1,encI,hsi]
   ·rw [hkp] at hsi hke
    simp -implicitDefEqProofs -dsimp [hke,hb,hni,cap24 acc.length (by omega),capL8 l[i].length (by omega),wrapN acc.length (by omega),L1,flagT]
    refine lw_of (W_loopM 93 [7,61,62,63,64,65,66,67,68,69,70,71,72,73,74,75,76,77,78,79,80,81,82,83,84,85,86,87,88,89,90,91,92] (by simp [mB]<;>rfl) (σ:=Nat) (fun k=>k≤acc.length∧insPos acc l[i] k=insPos acc l[i] acc.length) (fun k=>k) (fun k=>[(7,.int .i64 k)]) (fun k=>[B.buf 46 1 ((insAt acc l[i] k).map (L1 false)) false]) acc.length ⟨by omega,rfl⟩ (by simp) (by simp [insAt,L1]) (by simp) ?_)
    rintro k ⟨hk1,hk2⟩ N3 Q3 hN3 hQ3
    by_cases hk0:k=0
    ·subst hk0
     have hfin:edgesTo l (i+1)=insAt acc l[i] 0:=by rw [hsi,if_pos rfl,insE,←hk2]; rfl
     refine W_x (tok_flag tok (fun t=>t == 46)) mixed ?_
     simp -implicitDefEqProofs -dsimp [L1,flagT]
     refine .inr ⟨stop_of (by kernel_rfl),?_⟩
     refine hQ3 _ _ _ ?_
     simp -implicitDefEqProofs -dsimp [wrapS i (by omega),L1,flagT]
     refine hN (i+1) _ _ (by omega) (by omega) ?_ ⟨[],?_⟩ ?_ ?_<;>simp [or_imp,forall_and,L1,encI,hfin,insAt_len]
    ·have hcl:=insAt_len acc l[i] k
     have hck:=insAt_k acc l[i] k hk1 (by omega)
     have hcp:=insAt_p acc l[i] k hk1 (by omega) (by omega)
     have hsw:=insAt_swap acc l[i] k hk1 (by omega)
     have hbk:k<(insAt acc l[i] k).length:=by omega
     have hbp:k - 1<(insAt acc l[i] k).length:=by omega
     obtain ⟨a,ha⟩:∃a,a=eAt acc (k - 1):=⟨_,rfl⟩
     rw [←ha] at hcp hsw
     have hal2:a.length≤1000000:=hls a (edgesTo_mem hi (by rw [←hacc,ha,getD_at (by omega)]; exact List.getElem_mem _))
     have hc:=before37 l[i] a false false hei hal2
     obtain ⟨cur,hcur⟩:∃cur,cur=insAt acc l[i] k:=⟨_,rfl⟩
     rw [←hcur] at hcl hsw hbk hbp ⊢
     have hck:cur[k]=l[i]:=by subst hcur; exact hck
     have hcp:cur[k - 1]=a:=by subst hcur; exact hcp
     have hpos:insPos acc l[i] k=if lexLt l[i] a then insPos acc l[i] (k - 1) else k:=by
      obtain ⟨m,rfl⟩:∃m,k=m+1:=⟨k - 1,by omega⟩
      rw [ha]; rfl
     simp only [L1] at hc
     have hgk:cur[k]?=some l[i]:=by rw [List.getElem?_eq_getElem hbk,hck]
     have hgp:cur[k - 1]?=some a:=by rw [List.getElem?_eq_getElem hbp,hcp]
     have hi1:(k:Int)<(acc.length:Int)+1:=by omega
     have hi2:((k - 1:Nat):Int)<(acc.length:Int)+1:=by omega
     cases hlt:lexLt l[i] a
     ·rw [hlt] at hc hpos
      have hfin:edgesTo l (i+1)=cur:=by rw [hsi,if_pos rfl,insE,←hk2,hpos,hcur]; rfl
      refine W_x (tok_flag tok (fun t=>t == 46)) mixed ?_
      simp -implicitDefEqProofs -dsimp [hgk,hgp,hcl,hi1,hi2,wrapP k (by omega) (by omega),show 0<k by omega,L1,flagT]
      refine .inr ⟨stop_of (by kernel_rfl),?_⟩
      refine cy_of _ (callP (hc) (by simp)) ?_
      simp -implicitDefEqProofs -dsimp [L1,flagT]
      refine hQ3 _ _ _ ?_
      simp -implicitDefEqProofs -dsimp [wrapS i (by omega),L1,flagT]
      refine hN (i+1) _ _ (by omega) (by omega) ?_ ⟨[],?_⟩ ?_ ?_<;>simp [or_imp,forall_and,L1,encI,hfin,hcl]
     ·rw [hlt] at hc hpos
      refine W_x (tok_flag tok (fun t=>t == 46)) mixed ?_
      simp -implicitDefEqProofs -dsimp [hgk,hgp,hcl,hi1,hi2,wrapP k (by omega) (by omega),show 0<k by omega,L1,flagT]
      refine .inr ⟨stop_of (by kernel_rfl),?_⟩
      refine cy_of _ (callP (hc) (by simp)) ?_
      simp -implicitDefEqProofs -dsimp [L1,flagT]
      have hs1:((cur.map (L1 false)).set k (V.lst 1 false (a.map encI)))[k - 1]?=some (V.lst 1 false (a.map encI)):=by
       rw [List.getElem?_set_ne (by omega),List.getElem?_map,hgp]; rfl
      have hs2:((cur.map (L1 false)).set k (V.lst 1 false (a.map encI))).set (k - 1) (V.lst 1 false (l[i].map encI))=(insAt acc l[i] (k - 1)).map (L1 false):=by
       rw [←hsw]; simp only [List.map_set,L1]
      refine lw_of (W_drawT (tok_flag tok (fun t=>t == 46)) mixed [15,17] [(2,[1]),(3,[1]),(4,[1])] [] (by kernel_rfl) fun C K hC hK=>?_)
      simp -implicitDefEqProofs [hgk,hgp,hcl,hi1,hi2,wrapP k (by omega) (by omega),hs1,hs2,L1,flagT]
      refine hK _ _ ?_
      simp -implicitDefEqProofs -dsimp [wrapP k (by omega) (by omega),L1,flagT]
      refine hN3 (k - 1) _ _ ⟨by omega,by rw [←hk2,hpos]; rfl⟩ (by omega) ?_ ⟨[],?_⟩ ?_ ?_<;>simp [or_imp,forall_and,L1,encI]
 ·have hp:edgesTo l i=edgesF l:=by unfold edgesF; congr 1; omega
  refine W_x (tok_flag tok (fun t=>t == 46)) mixed ?_
  simp -implicitDefEqProofs -dsimp [hb,L1,flagT]
  refine hQ _ _ _ ?_
  simp -implicitDefEqProofs -dsimp [L1,flagT]
  rw [←hp]
  exact exp_buf rfl (by simp) (by simp)
def encU (n:Int):V:=.int .u8 n
@[simp] theorem encU_pure (n:Int):AM.Pure (encU n):=by simp [encU]
theorem pickTo_sub (vs:List Int) (s:Int):∀i,i≤vs.length→(pickTo vs s i).Sublist (vs.take i)
 | 0,_=>by simp [pickTo]
 | i+1,h=>by
  have ih:=pickTo_sub vs s i (by omega)
  have hl:i<vs.length:=by omega
  rw [List.take_succ_eq_append_getElem hl]
  simp only [pickTo]
  split
  ·rw [show vs.getD i 0=vs[i] by simp [hl]]
   exact ih.append (List.Sublist.refl _)
  ·exact ih.trans (List.sublist_append_left _ _)
theorem pickF_sub (vs:List Int) (s:Int):(pickF vs s).Sublist vs:=(pickTo_sub vs s _ (by omega)).trans (List.take_sublist _ _)
theorem asc_pair (xs:List Int):asc xs=true↔xs.Pairwise (· < ·):=by
 rw [List.pairwise_iff_getElem]
 constructor
 ·intro h i j hi hj hij; exact asc_lt h i j hi hj hij
 ·intro h
  exact (ascFrom_iff xs 1 (by omega)).2 fun j hj hl=>h (j - 1) j (by omega) hl (by omega)
def ixF (p:List Int→Bool) (es:List (List Int)) (i:Nat):Int:=if h:i<es.length then (if p es[i] then (i:Int) else ixF p es (i+1)) else -1
termination_by es.length - i
theorem ixF_any (p:List Int→Bool) (es:List (List Int)) (i:Nat):decide (0≤ixF p es i)=(es.drop i).any p:=by
 fun_induction ixF p es i with
 | case1 i h h0=>rw [List.drop_eq_getElem_cons h,List.any_cons,h0]; simp
 | case2 i h h0 ih=>rw [List.drop_eq_getElem_cons h,List.any_cons,ih]; simp [h0]
 | case3 i h=>rw [List.drop_of_length_le (by omega)]; rfl
theorem idxFunc (H:List B) (fv:V) (p:List Int→Bool) (es:List (List Int)) (g:Bool) (hes:es.length≤1000000) (hH:∀bl∈H,rbB H.length bl) (hfv:rb H.length fv)
  (hp:∀m∈es,WCall Tryz.prog fv [L1 false m] H fun r H'=>r = .bool (p m)∧H'=H):ConH Tryz.prog 95 [LL g es,fv] H fun r H'=>r = .int .i64 (ixF p es 0)∧H'=H:=by
 refine conH_of_W tok Tryz.func95 rfl rfl ?_
 refine wx ?_
 simp -implicitDefEqProofs -dsimp [Tryz.f95,List.replicate,LL]
 refine lw_of (W_loopM 19 [4,5,8,9,10,11,12,13,14,15,16,17,18] (by simp [mB]<;>rfl) (σ:=Nat) (fun i=>ixF p es i=ixF p es 0) (fun i=>es.length - i) (fun i=>[(8,.int .i64 i)]) (fun _=>H) 0 rfl (by simp) rfl (by simp) ?_)
 intro i hx N Q hN hQ
 by_cases hb:i<es.length
 ·rw [ixF,dif_pos hb] at hx
  have hc:=hp es[i] (List.getElem_mem hb)
  cases hq:p es[i]
  ·rw [hq] at hc hx
   refine wx ?_
   simp -implicitDefEqProofs -dsimp [hb]
   refine hc.mono ?_
   rintro r H' ⟨rfl,rfl⟩
   simp -implicitDefEqProofs -dsimp [wrapS i (by omega)]
   refine hN (i+1) _ _ (by simpa using hx) (by omega) (by simp) ⟨[],by simp⟩ (by simp; exact hfv) hH
  ·rw [hq] at hc hx
   refine wx ?_
   simp -implicitDefEqProofs -dsimp [hb]
   refine hc.mono ?_
   rintro r H' ⟨rfl,rfl⟩
   simp -implicitDefEqProofs -dsimp []
   refine hQ _ _ _ ?_
   simp -implicitDefEqProofs -dsimp []
   simpa using hx
 ·rw [ixF,dif_neg hb] at hx
  refine wx ?_
  simp -implicitDefEqProofs -dsimp [hb]
  refine hQ _ _ _ ?_
  simp -implicitDefEqProofs -dsimp []
  simpa using hx
theorem contFunc (H:List B) (fv:V) (p:List Int→Bool) (es:List (List Int)) (g:Bool) (hes:es.length≤1000000) (hH:∀bl∈H,rbB H.length bl) (hfv:rb H.length fv)
  (hp:∀m∈es,WCall Tryz.prog fv [L1 false m] H fun r H'=>r = .bool (p m)∧H'=H):ConH Tryz.prog 50 [LL g es,fv] H fun r H'=>r = .bool (es.any p)∧H'=H:=by
 have h0:=ixF_any p es 0
 rw [List.drop_zero] at h0
 have hc:=idxFunc H fv p es g hes hH hfv hp
 refine conH_of_W tok Tryz.func50 rfl rfl ?_
 refine wx ?_
 simp -implicitDefEqProofs -dsimp [Tryz.f50,List.replicate]
 refine (show WCall Tryz.prog (.fn 95 []) _ H _ from by simpa [WCall] using hc).mono ?_
 rintro r H' ⟨rfl,rfl⟩
 simp -implicitDefEqProofs -dsimp []
 rw [←h0]
def indC (vs:List Int) (es:List (List Int)) (l:List Int):Bool:=asc l&&contB vs l&&!(es.any fun m=>contB l m)
theorem indep_c (vs:List Int) (es:List (List Int)) (l:List Int) (f g f2:Bool) (hs:Small vs es) (hl:l.length≤1000000):ConP Tryz.prog 17 [encH f g vs es,L1 f2 l] fun r=>r = .bool (indC vs es l):=by
 obtain ⟨hv,he,hes⟩:=hs
 have hclo:∀m∈es,WCall Tryz.prog (.fn 51 [.ptr 1 0]) [L1 false m] [B.cells [L1 f vs,LL g es],B.cells [L1 f2 l]] fun r H'=>r = .bool (contB l m)∧H'=[B.cells [L1 f vs,LL g es],B.cells [L1 f2 l]]:=fun m hm=>by
  have hc:=cont_c l m f2 false hl (hes m hm)
  simp only [WCall,List.cons_append,List.nil_append]
  refine conH_of_W tok Tryz.func51 rfl rfl ?_
  refine wx ?_
  simp -implicitDefEqProofs -dsimp [Tryz.f51,List.replicate]
  refine (callP (hc) (by simp)).mono ?_
  rintro r H' ⟨rfl,rfl⟩
  simp -implicitDefEqProofs -dsimp []
 have hcf:=contFunc [B.cells [L1 f vs,LL g es],B.cells [L1 f2 l]] (.fn 51 [.ptr 1 0]) (fun m=>contB l m) es g he (by simp [L1,LL,encI]) (by simp) hclo
 have hca:=asc_c l f2 hl
 have hcc:=cont_c vs l f f2 hv hl
 refine conP_of_conH (conH_of_W tok Tryz.func17 rfl rfl ?_)
 refine wx ?_
 simp -implicitDefEqProofs -dsimp [Tryz.f17,List.replicate,encH,L1]
 refine (callP (hca) (by simp)).mono ?_
 rintro r H' ⟨rfl,rfl⟩
 cases h1:asc l
 ·simp -implicitDefEqProofs -dsimp [L1]
  simp [indC,h1]
 ·simp -implicitDefEqProofs -dsimp [L1]
  refine (callP (hcc) (by simp)).mono ?_
  rintro r H' ⟨rfl,rfl⟩
  cases h2:contB vs l
  ·simp -implicitDefEqProofs -dsimp [L1]
   simp [indC,h2]
  ·simp -implicitDefEqProofs -dsimp [L1]
   refine WCall.mono (K:=fun r H'=>r = .bool (es.any fun m=>contB l m)∧H'=[B.cells [L1 f vs,LL g es],B.cells [L1 f2 l]]) hcf ?_
   rintro r H' ⟨rfl,rfl⟩
   simp -implicitDefEqProofs -dsimp [L1]
   simp [indC,h1,h2]
def freeR (es:List (List Int)) (l:List Int):Bool:=es.all fun e=>!within e l
def indR (vs:List Int) (es:List (List Int)) (l:List Int):Bool:=asc l&&within l vs&&freeR es l
end
end Go.Proofs.YtfaleabndlcanaaGreatDoor
namespace Go.Proofs.YtfaleabndlcanaaGreatDoor
section
open Go Go.AM Go.RowKit
theorem infoC2:(Tryz.prog.info? 2).map (fun i=>(i.zero,i.size,i.bytes))=some (some (.int .i64 0),1,8):=by kernel_rfl
theorem cloneE (A:Option Addr) (cap:Nat) (w:World) :
  Calls Tryz.prog 18 #[.slice A 0 cap] w fun e w'=>∃v,e = .returned v∧w'.ownsRow w.heap.size 2 1 v 0 []∧Below w.heap.size w w':=by
 have hnil:=fun W A n c=>Lib.run_eql_slice_nil (P:=Tryz.prog) W 46 2 A n c 0 0 Tryz.underlying46
 cases A with
 | none =>
  go_enter Tryz.func18,Tryz.ntmps18
  go_wp2
  go_ret
  exact ⟨_,rfl,World.ownsRow_nil _ _ _ _,Below.refl _ _⟩
 | some ad =>
  obtain ⟨i0,hi,hz0,hz1,hz2⟩:=info_parts infoC2
  have hown:(w.alloc (.cells #[] 2)).ownsRow w.heap.size 2 1 (.slice (some ⟨w.heap.size,0,none⟩) 0 0) 0 []:=World.ownsRow_lit w #[] 0 (Nat.le_refl _) (by simp [maxLen]) (by simp)
  have hnews:∀j u,([]:List Value)[j]?=some u→(w.alloc (.cells #[] 2)).cell? (ad.add j)=some u:=by
   intro j u hu
   simp at hu
  have hone:∀u∈([]:List Value),u.oneCell'=true:=by intro u hu; cases hu
  have h63:0+0≤maxLen:=by simp [maxLen]
  have hby:(0+0)*8≤140737488355328:=by omega
  have hlen:([]:List Value).length=0*1:=by simp
  have Hi:=Lib.hid (show Tryz.prog.info? 2=some i0∧i0.zero=some _∧i0.size=1∧i0.bytes=8 from ⟨hi,hz0,hz1,hz2⟩)
  have Hw:=Lib.hid (And.intro hown (And.intro hnews (And.intro hone (And.intro h63 (And.intro hby hlen)))))
  clear hnews hone hown hi hz0 hz1 hz2 h63 hby hlen
  go_enter Tryz.func18,Tryz.ntmps18
  go_wp2_with (at_builtin; refine wpList_append_own _ rfl _ _ 46 rfl w.heap.size 2 i0 _ 1 8 Tryz.underlying46 Hi.out.1 Hi.out.2.1 Hi.out.2.2.1 Hi.out.2.2.2 rfl (by omega) (.slice (some ⟨w.heap.size,0,none⟩) 0 0) 0 [] rfl Hw.out.1 ad 0 cap [] rfl Hw.out.2.2.2.2.2 Hw.out.2.1 Hw.out.2.2.1 Hw.out.2.2.2.1 Hw.out.2.2.2.2.1 (by simp) ?_; intro v1 w1 ho hg hn; have Ho:=Lib.hid ho; have Hg:=Lib.hid hg; have Hn:=Lib.hid hn; clear ho hg hn)
  go_ret
  exact ⟨v1,rfl,by have:=Ho.out; simpa using this,((Below.refl _ _).alloc (Nat.le_refl _) _).grown Hg.out (by simp) (by simp [Value.ownBlock])⟩
theorem conO_own {f:FuncId} {args:List V} {e:Nat} (hE:AM.Enters Tryz.prog f) (h:∀(F:Nat→Prop) (w:World) (vals:Array Value),vals.size=args.length→(∀(i:Nat) a u,args[i]?=some a→vals[i]?=some u→Rel (AM.base F w) a u) →
  Calls Tryz.prog f vals w fun e' w'=>∃v,e' = .returned v∧w'.ownsRow w.heap.size e 1 v 0 []∧Below w.heap.size w w'):ConO Tryz.prog f args fun e' z ys=>e'=e∧z=1∧ys=[]:=by
 refine ⟨hE,fun F w vals hZ hF hsz hrel=>(h F w vals hsz hrel).mono fun e' w' ⟨v,he,hown,hb⟩=>?_⟩
 obtain ⟨_,⟨hv,_⟩ | ⟨g,c,cur,hv,hg,hc,hn,hm,hs,_⟩⟩:=hown
 ·have hF':∀b,F b→b<w'.heap.size:=fun b hb'=>Nat.lt_of_lt_of_le (hF b hb') hb.size
  obtain ⟨p1,_⟩:=push0 (AM.base_good hF') (w:=w') 0 e 1 false rfl rfl rfl (Nat.le_refl _) (fun _ _=>rfl)
  refine ⟨v,e,1,[],none,0,0,he,hv,fun h=>absurd rfl h,by simp,fun h=>absurd rfl h,?_,hb,rfl,rfl,rfl⟩
  refine ⟨hF',fun k hk=>absurd (hk.2 e 1 [] false (by have:=hk.1; simp at this; subst this; rfl)) (by simp),fun j k hj hk _=>by have:=hj.1; have:=hk.1; simp at *; omega,fun k bl hk=>?_⟩
  have hk0:k=0:=by have:=getElem?_lt hk; simp at this; omega
  subst hk0
  simp at hk
  subst hk
  exact ⟨#[],fun h=>absurd rfl h,by simp,by simp,by simp [maxLen],(fun x hx=>by cases hx),(fun i x j c u hx=>by simp at hx)⟩
 ·have hF':∀b,F b→b<w'.heap.size:=fun b hb'=>Nat.lt_of_lt_of_le (hF b hb') hb.size
  refine ⟨v,e,1,[],some ⟨g,0,none⟩,g,c,he,hv,fun _=>rfl,by simp,fun _=>hg,?_,hb,rfl,rfl,rfl⟩
  refine ⟨hF',fun k hk=>⟨(Array.getElem?_eq_some_iff.1 hc).1,fun hf=>by have:=hF g hf; omega⟩,fun j k hj hk _=>by have:=hj.1; have:=hk.1; simp at *; omega,fun k bl hk=>?_⟩
  have hk0:k=0:=by have:=getElem?_lt hk; simp at this; omega
  subst hk0
  simp at hk
  subst hk
  exact ⟨cur,fun _=>hc,by simpa using hs,by simp,hm,(fun x hx=>by cases hx),(fun i x j c u hx=>by simp at hx)⟩
theorem clone64 (xs:List Int) (f:Bool) (hl:xs.length≤1000000):ConO Tryz.prog 18 [L1 f xs] fun e z ys=>e=2∧z=1∧ys=xs.map encI:=by
 cases xs with
 | nil =>
  refine conO_own ⟨Tryz.f18,Tryz.func18,rfl,rfl⟩ (fun F w vals hsz hrel=>?_)
  obtain ⟨u0,rfl⟩:∃u0,vals = #[u0]:=by
   obtain ⟨l⟩:=vals
   match l,hsz with
   | [a],_=>exact ⟨a,rfl⟩
  have r0:=hrel 0 _ u0 rfl rfl
  simp only [L1,List.map_nil] at r0
  cases r0
  exact cloneE _ _ _
 | cons x xs =>
  have hl':xs.length≤1000000:=by simp only [List.length_cons] at hl; omega
  refine conO_of_conH (conH_of_W tok Tryz.func18 rfl rfl ?_)
  refine wx ?_
  simp -implicitDefEqProofs -dsimp [Tryz.f18,List.replicate,L1,eqA2,cap8 xs.length (by omega)]
  exact ⟨0,2,1,encI x::xs.map encI,by simp,rfl,by simp,rfl,rfl,rfl⟩
theorem clone64p (xs:List Int) (f:Bool) (hl:xs.length≤1000000):ConP Tryz.prog 18 [L1 f xs] fun r=>r=L1 false xs :=
 ⟨(clone64 xs f hl).1,fun F w vals hZ hF hsz hrel=>((conP_of_conO (clone64 xs f hl)).2 F w vals hZ hF hsz hrel).mono fun e w' ⟨u,r,h1,h2,h3,h4,e',z,ys,h5,h6,h7,h8⟩=>by
  subst h6; subst h7; subst h8
  exact ⟨u,r,h1,h2,h3,h4,h5⟩⟩
end
end Go.Proofs.YtfaleabndlcanaaGreatDoor
namespace Go.Proofs.YtfaleabndlcanaaGreatDoor
section
open Go Go.AM
theorem ids03 (us bs:List Int) (f g:Bool) (hl:us.length≤1000000) (hl2:bs.length≤1000000):ConP Tryz.prog 46 [L1 f us,L1 g bs] fun r=>r = .bool (decide (us=bs)):=by
 by_cases hn:us.length=bs.length
 ·refine conP_of_conH (conH_of_W tok Tryz.func46 rfl rfl ?_)
  refine wx ?_
  simp -implicitDefEqProofs -dsimp [Tryz.f46,List.replicate,L1,hn]
  refine lw_of (W_loopM 26 [4,5,11,12,13,14,15,16,17,18,19,20,21,22,23,24,25] (by simp [mB]<;>rfl) (σ:=Nat) (fun i=>i≤us.length∧us.take i=bs.take i) (fun i=>us.length - i) (fun i=>[(5,.int .i64 i)]) (fun _=>[]) 0 ⟨by omega,by simp⟩ (by simp) rfl (by simp) ?_)
  rintro i ⟨h1,h2⟩ N Q hN hQ
  by_cases hb:i<bs.length
  ·have ha:i<us.length:=by omega
   by_cases hq:us[i]=bs[i]
   ·refine wx ?_
    simp -implicitDefEqProofs -dsimp [L1,encI,ha,hb,hq,wrapS i (by omega)]
    refine .inr ⟨stop_of (by kernel_rfl),?_⟩
    refine hN (i+1) _ _ ⟨by omega,by rw [List.take_succ_eq_append_getElem ha,List.take_succ_eq_append_getElem hb,h2,hq]⟩ (by omega) ?_ ⟨[],?_⟩ ?_ ?_<;>simp [or_imp,forall_and,L1,encI]
   ·refine wx ?_
    simp -implicitDefEqProofs -dsimp [L1,encI,ha,hb,hq]
    refine .inr ⟨stop_of (by kernel_rfl),?_⟩
    refine hQ _ _ _ ?_
    simp -implicitDefEqProofs -dsimp []
    rintro rfl
    exact hq rfl
  ·refine wx ?_
   simp -implicitDefEqProofs -dsimp [L1,hb,hn]
   refine hQ _ _ _ ?_
   simp -implicitDefEqProofs -dsimp []
   rw [List.take_of_length_le (by omega),List.take_of_length_le (by omega)] at h2
   exact h2
 ·have hne:¬us=bs:=fun h=>hn (by rw [h])
  refine conP_of_conH (conH_of_W tok Tryz.func46 rfl rfl ?_)
  refine wx ?_
  simp -implicitDefEqProofs -dsimp [Tryz.f46,List.replicate,L1,hn,show ¬((us.length:Int)=bs.length) by omega]
  exact hne
theorem pairs17 (us bs:List (List Int)) (f g:Bool) (hl:us.length≤1000000) (hl2:bs.length≤1000000) (hu:∀e∈us,e.length≤1000000) (hbs:∀e∈bs,e.length≤1000000):ConP Tryz.prog 47 [LL f us,LL g bs] fun r=>r = .bool (decide (us=bs)):=by
 by_cases hn:us.length=bs.length
 ·refine conP_of_conH (conH_of_W tok Tryz.func47 rfl rfl ?_)
  refine wx ?_
  simp -implicitDefEqProofs -dsimp [Tryz.f47,List.replicate,LL,hn]
  refine lw_of (W_loopM 27 [4,5,11,12,13,14,15,16,17,18,19,20,21,22,23,24,25,26] (by simp [mB]<;>rfl) (σ:=Nat) (fun i=>i≤us.length∧us.take i=bs.take i) (fun i=>us.length - i) (fun i=>[(5,.int .i64 i)]) (fun _=>[]) 0 ⟨by omega,by simp⟩ (by simp) rfl (by simp) ?_)
  rintro i ⟨h1,h2⟩ N Q hN hQ
  by_cases hb:i<bs.length
  ·have ha:i<us.length:=by omega
   have hc:=ids03 us[i] bs[i] false false (hu _ (List.getElem_mem ha)) (hbs _ (List.getElem_mem hb))
   simp only [L1] at hc
   by_cases hq:us[i]=bs[i]
   ·rw [decide_eq_true hq] at hc
    refine wx ?_
    simp -implicitDefEqProofs -dsimp [L1,ha,hb]
    refine .inr ⟨stop_of (by kernel_rfl),?_⟩
    refine cy_of _ (callP (hc) (by simp)) ?_
    simp -implicitDefEqProofs -dsimp [wrapS i (by omega)]
    refine hN (i+1) _ _ ⟨by omega,by rw [List.take_succ_eq_append_getElem ha,List.take_succ_eq_append_getElem hb,h2,hq]⟩ (by omega) ?_ ⟨[],?_⟩ ?_ ?_<;>simp [or_imp,forall_and,L1,encI]
   ·rw [decide_eq_false hq] at hc
    refine wx ?_
    simp -implicitDefEqProofs -dsimp [L1,ha,hb]
    refine .inr ⟨stop_of (by kernel_rfl),?_⟩
    refine cy_of _ (callP (hc) (by simp)) ?_
    simp -implicitDefEqProofs -dsimp []
    refine hQ _ _ _ ?_
    simp -implicitDefEqProofs -dsimp []
    rintro rfl
    exact hq rfl
  ·refine wx ?_
   simp -implicitDefEqProofs -dsimp [hb,hn]
   refine hQ _ _ _ ?_
   simp -implicitDefEqProofs -dsimp []
   rw [List.take_of_length_le (by omega),List.take_of_length_le (by omega)] at h2
   exact h2
 ·have hne:¬us=bs:=fun h=>hn (by rw [h])
  refine conP_of_conH (conH_of_W tok Tryz.func47 rfl rfl ?_)
  refine wx ?_
  simp -implicitDefEqProofs -dsimp [Tryz.f47,List.replicate,LL,hn,show ¬((us.length:Int)=bs.length) by omega]
  exact hne
theorem same37 (va vb:List Int) (ea eb:List (List Int)) (f1 g1 f2 g2:Bool) (hs:Small va ea) (hs2:Small vb eb):ConP Tryz.prog 15 [encH f1 g1 va ea,encH f2 g2 vb eb] fun r=>r = .bool (decide (va=vb)&&decide (ea=eb)):=by
 have hc1:=ids03 va vb f1 f2 hs.1 hs2.1
 have hc2:=pairs17 ea eb g1 g2 hs.2.1 hs2.2.1 hs.2.2 hs2.2.2
 refine conP_of_conH (conH_of_W tok Tryz.func15 rfl rfl ?_)
 refine wx ?_
 simp -implicitDefEqProofs -dsimp [Tryz.f15,List.replicate,encH]
 refine (callP (hc1) (by simp)).mono ?_
 rintro r H' ⟨rfl,rfl⟩
 by_cases hq:va=vb
 ·simp -implicitDefEqProofs -dsimp [hq]
  refine (callP (hc2) (by simp)).mono ?_
  rintro r H' ⟨rfl,rfl⟩
  simp -implicitDefEqProofs -dsimp [hq]
 ·simp -implicitDefEqProofs -dsimp [hq]
def partV (vs l:List Int):List Int:=vs.filter fun v=>memB l v
def partE (es:List (List Int)) (l:List Int):List (List Int):=es.filter fun e=>within e l
theorem partV_take (vs l:List Int) (i:Nat) (h:i<vs.length):partV (vs.take (i+1)) l=if memB l vs[i] then partV (vs.take i) l++[vs[i]] else partV (vs.take i) l:=by
 unfold partV
 rw [List.take_succ_eq_append_getElem h,List.filter_append]
 cases hm:memB l vs[i]<;>simp [List.filter,hm]
theorem partV_len (vs l:List Int) (i:Nat):(partV (vs.take i) l).length≤i:=Nat.le_trans (List.length_filter_le _ _) (by simp; omega)
theorem partE_take (es:List (List Int)) (l:List Int) (i:Nat) (h:i<es.length):partE (es.take (i+1)) l=if within es[i] l then partE (es.take i) l++[es[i]] else partE (es.take i) l:=by
 unfold partE
 rw [List.take_succ_eq_append_getElem h,List.filter_append]
 cases hm:within es[i] l<;>simp [List.filter,hm]
theorem partE_len (es:List (List Int)) (l:List Int) (i:Nat):(partE (es.take i) l).length≤i:=Nat.le_trans (List.length_filter_le _ _) (by simp; omega)
theorem part37 (vs:List Int) (es:List (List Int)) (l:List Int) (f g f2:Bool) (hs:Small vs es) (hl:l.length≤1000000) (hne:∀e∈es,e≠[]):ConP Tryz.prog 68 [encH f g vs es,L1 f2 l] fun r=>r=encH false false (partV vs l) (partE es l):=by
 obtain ⟨hv,he,hes⟩:=hs
 refine conP_of_conX (conH_of_W (tok_flag tok (fun t=>t == 46)) Tryz.func68 rfl rfl ?_)
 refine W_x (tok_flag tok (fun t=>t == 46)) mixed ?_
 simp -implicitDefEqProofs -dsimp [Tryz.f68,List.replicate,encH,LL,L1,flagT]
 refine lw_of (W_ownC 2 1 [] 2 [0] rfl (by simp) (by simp) (W_loopM 32 [6,8,9,10,11,12,13,14,15,16,17,18,19,20,21,22,23,24,25,26,27,28,29,30,31] (by simp [mB]<;>rfl) (σ:=Nat) (fun i=>i≤vs.length) (fun i=>vs.length - i) (fun i=>[(6,.int .i64 i)]) (fun i=>[B.cells [L1 f vs,LL g es],B.cells [.nilS,.nilS],B.cells [.buf 3 0 (partV (vs.take i) l).length (partV (vs.take i) l).length,.nilS],B.buf 2 1 ((partV (vs.take i) l).map encI) false]) 0 (by omega) (by simp) (by simp [partV,L1,LL]) (by simp) ?_))
 intro i hi N Q hN hQ
 by_cases hb:i<vs.length
 ·have hc:=has37 l vs[i] f2 hl
  have hp:=partV_take vs l i hb
  have hpl:=partV_len vs l i
  simp only [L1] at hc
  cases hm:memB l vs[i]
  ·rw [hm] at hc hp
   refine W_x (tok_flag tok (fun t=>t == 46)) mixed ?_
   simp -implicitDefEqProofs -dsimp [hb,encI,L1,flagT]
   refine (callP (hc) (by simp)).mono ?_
   rintro r H' ⟨rfl,rfl⟩
   simp -implicitDefEqProofs -dsimp [wrapS i (by omega),L1,flagT]
   refine hN (i+1) _ _ (by omega) (by omega) ?_ ⟨[],?_⟩ ?_ ?_<;>simp [or_imp,forall_and,L1,encI,LL,hp]
  ·rw [hm] at hc hp
   refine W_x (tok_flag tok (fun t=>t == 46)) mixed ?_
   simp -implicitDefEqProofs -dsimp [hb,encI,L1,flagT]
   refine (callP (hc) (by simp)).mono ?_
   rintro r H' ⟨rfl,rfl⟩
   simp -implicitDefEqProofs -dsimp [L1,flagT]
   refine lw_of (W_drawT (tok_flag tok (fun t=>t == 46)) mixed [8,10] [] [] (by kernel_rfl) fun C K hC hK=>?_)
   simp -implicitDefEqProofs [hb,encI,cap8 (partV (vs.take i) l).length (by omega),L1,flagT]
   refine hK _ _ ?_
   simp -implicitDefEqProofs -dsimp [wrapS i (by omega),L1,flagT]
   refine hN (i+1) _ _ (by omega) (by omega) ?_ ⟨[],?_⟩ ?_ ?_<;>simp [or_imp,forall_and,L1,encI,LL,hp]
 ·obtain rfl:i=vs.length:=by omega
  rw [List.take_length]
  refine W_x (tok_flag tok (fun t=>t == 46)) mixed ?_
  simp -implicitDefEqProofs -dsimp [hb,L1,flagT]
  refine hQ _ _ _ ?_
  simp -implicitDefEqProofs -dsimp [L1,flagT]
  refine lw_of (W_ownC 46 1 [] 2 [1] rfl (by simp) (by simp) (W_loopM 58 [7,32,33,34,35,36,37,38,39,40,41,42,43,44,45,46,47,48,49,50,51,52,53,54,55,56,57] (by simp [mB]<;>rfl) (σ:=Nat) (fun i=>i≤es.length) (fun i=>es.length - i) (fun i=>[(7,.int .i64 i)]) (fun i=>[B.cells [L1 f vs,LL g es],B.cells [.nilS,.nilS],B.cells [.buf 3 0 (partV vs l).length (partV vs l).length,.buf 4 0 (partE (es.take i) l).length (partE (es.take i) l).length],B.buf 2 1 ((partV vs l).map encI) false,B.buf 46 1 ((partE (es.take i) l).map (L1 false)) false]) 0 (by omega) (by simp) (by simp [partE,L1,LL]) (by simp) ?_))
  intro j hj N2 Q2 hN2 hQ2
  by_cases hjb:j<es.length
  ·have hej:=hes es[j] (List.getElem_mem hjb)
   have hnj:=hne es[j] (List.getElem_mem hjb)
   have hc:=within37 es[j] l false f2 hej hl
   have hp:=partE_take es l j hjb
   have hpl:=partE_len es l j
   simp only [L1] at hc
   cases hm:within es[j] l
   ·rw [hm] at hc hp
    refine W_x (tok_flag tok (fun t=>t == 46)) mixed ?_
    simp -implicitDefEqProofs -dsimp [hjb,LL,L1,flagT]
    refine (callP (hc) (by simp)).mono ?_
    rintro r H' ⟨rfl,rfl⟩
    simp -implicitDefEqProofs -dsimp [wrapS j (by omega),L1,flagT]
    refine hN2 (j+1) _ _ (by omega) (by omega) ?_ ⟨[],?_⟩ ?_ ?_<;>simp [or_imp,forall_and,L1,encI,LL,hp]
   ·rw [hm] at hc hp
    refine W_x (tok_flag tok (fun t=>t == 46)) mixed ?_
    simp -implicitDefEqProofs -dsimp [hjb,LL,L1,flagT]
    refine (callP (hc) (by simp)).mono ?_
    rintro r H' ⟨rfl,rfl⟩
    simp -implicitDefEqProofs -dsimp [L1,flagT]
    refine lw_of (W_drawT (tok_flag tok (fun t=>t == 46)) mixed [8,10,12] [(0,[1]),(1,[1])] [] (by kernel_rfl) fun C K hC hK=>?_)
    simp -implicitDefEqProofs [hjb,LL,hnj,cap24 (partE (es.take j) l).length (by omega),capL8 es[j].length (by omega),L1,flagT]
    refine hK _ _ ?_
    simp -implicitDefEqProofs -dsimp [wrapS j (by omega),L1,flagT]
    refine hN2 (j+1) _ _ (by omega) (by omega) ?_ ⟨[],?_⟩ ?_ ?_<;>simp [or_imp,forall_and,L1,encI,LL,hp]
  ·obtain rfl:j=es.length:=by omega
   rw [List.take_length]
   refine W_x (tok_flag tok (fun t=>t == 46)) mixed ?_
   simp -implicitDefEqProofs -dsimp [hjb,LL,L1,flagT]
   refine hQ2 _ _ _ ?_
   simp -implicitDefEqProofs -dsimp [L1,flagT]
   exact ExpX.agg2 (expx_buf rfl (by simp) (by simp)) (expx_buf rfl (by simp) (by simp))
def woV (vs ids:List Int):List Int:=vs.filter fun v=>!memB ids v
def woE (es:List (List Int)) (ids:List Int):List (List Int):=es.filter fun e=>!(e.any fun v=>memB ids v)
theorem woV_take (vs l:List Int) (i:Nat) (h:i<vs.length):woV (vs.take (i+1)) l=if memB l vs[i] then woV (vs.take i) l else woV (vs.take i) l++[vs[i]]:=by
 unfold woV
 rw [List.take_succ_eq_append_getElem h,List.filter_append]
 cases hm:memB l vs[i]<;>simp [List.filter,hm]
theorem woV_len (vs l:List Int) (i:Nat):(woV (vs.take i) l).length≤i:=Nat.le_trans (List.length_filter_le _ _) (by simp; omega)
theorem woV_len' (vs l:List Int):(woV vs l).length≤vs.length:=List.length_filter_le _ _
theorem woE_take (es:List (List Int)) (l:List Int) (i:Nat) (h:i<es.length):woE (es.take (i+1)) l=if (es[i].any fun v=>memB l v) then woE (es.take i) l else woE (es.take i) l++[es[i]]:=by
 unfold woE
 rw [List.take_succ_eq_append_getElem h,List.filter_append]
 cases hm:es[i].any fun v=>memB l v<;>simp [List.filter,hm]
theorem woE_len (es:List (List Int)) (l:List Int) (i:Nat):(woE (es.take i) l).length≤i:=Nat.le_trans (List.length_filter_le _ _) (by simp; omega)
theorem without_r (vs:List Int) (es:List (List Int)) (ids:List Int) (f g f2:Bool) (hs:Small vs es) (hl:ids.length≤1000000) (hne:∀e∈es,e≠[]):ConP Tryz.prog 34 [encH f g vs es,L1 f2 ids] fun r=>r=encH false false (partV vs (woV vs ids)) (partE es (woV vs ids)):=by
 have hs':=hs
 obtain ⟨hv,he,hes⟩:=hs
 refine conP_of_conH (conH_of_W tok Tryz.func34 rfl rfl ?_)
 refine wx ?_
 simp -implicitDefEqProofs -dsimp [Tryz.f34,List.replicate,encH,L1]
 refine lw_of (W_own 2 1 [5] (by simp) (W_loopM 30 [5,6,7,8,9,10,11,12,13,14,15,16,17,18,19,20,21,22,23,24,25,26,27,28,29] (by simp [mB]<;>rfl) (σ:=Nat) (fun i=>i≤vs.length) (fun i=>vs.length - i) (fun i=>[(6,.int .i64 i),(5,.buf 2 0 (woV (vs.take i) ids).length (woV (vs.take i) ids).length)]) (fun i=>[B.cells [L1 f vs,LL g es],B.cells [.nilS,.nilS],B.buf 2 1 ((woV (vs.take i) ids).map encI) false]) 0 (by omega) (by simp [woV]) (by simp [woV,L1]) (by simp) ?_))
 intro i hi N Q hN hQ
 by_cases hb:i<vs.length
 ·have hc:=has37 ids vs[i] f2 hl
  have hp:=woV_take vs ids i hb
  have hpl:=woV_len vs ids i
  simp only [L1] at hc
  cases hm:memB ids vs[i]
  ·rw [hm] at hc hp
   refine wx ?_
   simp -implicitDefEqProofs -dsimp [hb,encI,L1]
   refine (callP (hc) (by simp)).mono ?_
   rintro r H' ⟨rfl,rfl⟩
   simp -implicitDefEqProofs -dsimp [wrapS i (by omega),hb,encI,cap8 (woV (vs.take i) ids).length (by omega),L1]
   refine hN (i+1) _ _ (by omega) (by omega) ?_ ⟨[],?_⟩ ?_ ?_<;>simp [or_imp,forall_and,L1,encI,LL,hp]
  ·rw [hm] at hc hp
   refine wx ?_
   simp -implicitDefEqProofs -dsimp [hb,encI,L1]
   refine (callP (hc) (by simp)).mono ?_
   rintro r H' ⟨rfl,rfl⟩
   simp -implicitDefEqProofs -dsimp [wrapS i (by omega),L1]
   refine hN (i+1) _ _ (by omega) (by omega) ?_ ⟨[],?_⟩ ?_ ?_<;>simp [or_imp,forall_and,L1,encI,LL,hp]
 ·obtain rfl:i=vs.length:=by omega
  rw [List.take_length]
  have hwl:=woV_len' vs ids
  have hc:=part37 vs es (woV vs ids) f g false hs' (by omega) hne
  refine wx ?_
  simp -implicitDefEqProofs -dsimp [hb,L1]
  refine hQ _ _ _ ?_
  simp -implicitDefEqProofs -dsimp [L1]
  refine (callF 2 rfl hc (by simp [encH,L1]) (by simp)).mono ?_
  rintro r H' ⟨rfl,rfl⟩
  simp -implicitDefEqProofs -dsimp [encH,LL,L1]
def ixG (p:Int→Bool) (es:List Int) (i:Nat):Int:=if h:i<es.length then (if p es[i] then (i:Int) else ixG p es (i+1)) else -1
termination_by es.length - i
theorem ixG_any (p:Int→Bool) (es:List Int) (i:Nat):decide (0≤ixG p es i)=(es.drop i).any p:=by
 fun_induction ixG p es i with
 | case1 i h h0=>rw [List.drop_eq_getElem_cons h,List.any_cons,h0]; simp
 | case2 i h h0 ih=>rw [List.drop_eq_getElem_cons h,List.any_cons,ih]; simp [h0]
 | case3 i h=>rw [List.drop_of_length_le (by omega)]; rfl
theorem idxFunc64 (H:List B) (fv:V) (p:Int→Bool) (es:List Int) (g:Bool) (hes:es.length≤1000000) (hH:∀bl∈H,rbB H.length bl) (hfv:rb H.length fv)
  (hp:∀m∈es,WCall Tryz.prog fv [.int .i64 m] H fun r H'=>r = .bool (p m)∧H'=H):ConH Tryz.prog 106 [L1 g es,fv] H fun r H'=>r = .int .i64 (ixG p es 0)∧H'=H:=by
 refine conH_of_W tok Tryz.func106 rfl rfl ?_
 refine wx ?_
 simp -implicitDefEqProofs -dsimp [Tryz.f106,List.replicate,L1]
 refine lw_of (W_loopM 19 [4,5,8,9,10,11,12,13,14,15,16,17,18] (by simp [mB]<;>rfl) (σ:=Nat) (fun i=>ixG p es i=ixG p es 0) (fun i=>es.length - i) (fun i=>[(8,.int .i64 i)]) (fun _=>H) 0 rfl (by simp) rfl (by simp) ?_)
 intro i hx N Q hN hQ
 by_cases hb:i<es.length
 ·rw [ixG,dif_pos hb] at hx
  have hc:=hp es[i] (List.getElem_mem hb)
  cases hq:p es[i]
  ·rw [hq] at hc hx
   refine wx ?_
   simp -implicitDefEqProofs -dsimp [hb,encI]
   refine hc.mono ?_
   rintro r H' ⟨rfl,rfl⟩
   simp -implicitDefEqProofs -dsimp [wrapS i (by omega)]
   refine hN (i+1) _ _ (by simpa using hx) (by omega) (by simp) ⟨[],by simp⟩ (by simp; exact hfv) hH
  ·rw [hq] at hc hx
   refine wx ?_
   simp -implicitDefEqProofs -dsimp [hb,encI]
   refine hc.mono ?_
   rintro r H' ⟨rfl,rfl⟩
   simp -implicitDefEqProofs -dsimp []
   refine hQ _ _ _ ?_
   simp -implicitDefEqProofs -dsimp []
   simpa using hx
 ·rw [ixG,dif_neg hb] at hx
  refine wx ?_
  simp -implicitDefEqProofs -dsimp [hb]
  refine hQ _ _ _ ?_
  simp -implicitDefEqProofs -dsimp []
  simpa using hx
theorem contFunc64 (H:List B) (fv:V) (p:Int→Bool) (es:List Int) (g:Bool) (hes:es.length≤1000000) (hH:∀bl∈H,rbB H.length bl) (hfv:rb H.length fv)
  (hp:∀m∈es,WCall Tryz.prog fv [.int .i64 m] H fun r H'=>r = .bool (p m)∧H'=H):ConH Tryz.prog 66 [L1 g es,fv] H fun r H'=>r = .bool (es.any p)∧H'=H:=by
 have h0:=ixG_any p es 0
 rw [List.drop_zero] at h0
 have hc:=idxFunc64 H fv p es g hes hH hfv hp
 refine conH_of_W tok Tryz.func66 rfl rfl ?_
 refine wx ?_
 simp -implicitDefEqProofs -dsimp [Tryz.f66,List.replicate]
 refine WCall.mono (K:=fun r H'=>r = .int .i64 (ixG p es 0)∧H'=H) hc ?_
 rintro r H' ⟨rfl,rfl⟩
 simp -implicitDefEqProofs -dsimp []
 rw [←h0]
def mE (us:List Int):List (V×V):=us.map fun x=>(V.int .i64 x,V.bool true)
theorem mE_snoc (us:List Int) (x:Int):mE (us++[x])=mE us++[(V.int .i64 x,V.bool true)]:=by simp [mE]
@[simp ↓ high] theorem rbB_mE (n:Nat) (kk:KK) (us:List Int):rbB n (.map kk (mE us))↔True:=by
 refine ⟨fun _=>trivial,fun _ p hp=>?_⟩
 obtain ⟨x,_,rfl⟩:=List.mem_map.1 hp
 exact ⟨trivial,trivial⟩
@[simp ↓ high] theorem rbB_mE2 (n:Nat) (kk:KK) (us:List Int) (x:Int):rbB n (.map kk (mE us++[(V.int .i64 x,V.bool true)]))↔True:=by
 rw [←mE_snoc]; exact rbB_mE n kk _
@[simp ↓ high] theorem forall_rbB_cons (n:Nat) (b:B) (l:List B):(∀bl∈b::l,rbB n bl)↔(rbB n b∧∀bl∈l,rbB n bl):=List.forall_mem_cons
@[simp ↓ high] theorem forall_rbB_nil (n:Nat):(∀bl∈([]:List B),rbB n bl)↔True:=by simp
theorem findA_cons (x u:Int) (us:List Int) (i:Nat):findA (.int .i64 x) (mE (u::us)) i=if (x == u)=true then some (i,.bool true) else findA (.int .i64 x) (mE us) (i+1):=rfl
theorem find_no (x:Int):∀(us:List Int) (i:Nat),memB us x=false→findA (.int .i64 x) (mE us) i=none
 | [],_,_=>rfl
 | u::us,i,h=>by
  rw [memB_cons,Bool.or_eq_false_iff] at h
  rw [findA_cons,h.1,if_neg (by simp)]
  exact find_no x us (i+1) h.2
theorem find_yes (x:Int):∀(us:List Int) (i:Nat),memB us x=true→∃j,findA (.int .i64 x) (mE us) i=some (i+j,.bool true)∧us[j]?=some x
 | [],_,h=>by simp [memB] at h
 | u::us,i,h=>by
  rw [findA_cons]
  cases hq:x == u
  ·rw [memB_cons,hq,Bool.false_or] at h
   obtain ⟨j,h1,h2⟩:=find_yes x us (i+1) h
   exact ⟨j+1,by rw [if_neg (by simp)]; rw [show i+(j+1)=i+1+j by omega]; exact h1,by simpa using h2⟩
  ·exact ⟨0,by simp,by simp [(beq_iff_eq.1 hq)]⟩
theorem set_mE (us:List Int) (x:Int) (j:Nat) (h:us[j]?=some x):(mE us).set j (V.int .i64 x,V.bool true)=mE us:=by
 unfold mE
 apply List.ext_getElem?
 intro k
 by_cases hk:j=k
 ·subst hk
  have hl:=getElem?_lt h
  rw [List.getElem?_set_self (by simpa using hl),List.getElem?_map,h]; rfl
 ·rw [List.getElem?_set_ne hk]
def goneTo (ids:List Int):Nat→List Int
 | 0=>[]
 | i+1=>if memB (goneTo ids i) (ids.getD i 0) then goneTo ids i else goneTo ids i++[ids.getD i 0]
theorem goneTo_mem (ids:List Int):∀i,i≤ids.length→∀x,memB (goneTo ids i) x=memB (ids.take i) x
 | 0,_,x=>by simp [goneTo]
 | i+1,h,x=>by
  have ih:=goneTo_mem ids i (by omega)
  have hl:i<ids.length:=by omega
  have hg:ids.getD i 0=ids[i]:=by simp [hl]
  simp only [goneTo,hg]
  rw [List.take_succ_eq_append_getElem hl]
  have happ:∀(a:List Int) (b:Int),memB (a++[b]) x=(memB a x||x == b):=fun a b=>by
   rw [Bool.eq_iff_iff,memB_iff,Bool.or_eq_true,memB_iff]; simp
  split
  ·rename_i hm
   rw [happ,ih]
   cases hx:x == ids[i]
   ·simp
   ·rw [beq_iff_eq.1 hx,←ih,hm]; rfl
  ·rw [happ,happ,ih]
theorem without_c (vs:List Int) (es:List (List Int)) (ids:List Int) (f g f2:Bool) (hs:Small vs es) (hl:ids.length≤1000000):ConP Tryz.prog 33 [encH f g vs es,L1 f2 ids] fun r=>r=encH false false (woV vs ids) (woE es ids):=by
 obtain ⟨hv,he,hes⟩:=hs
 refine conP_of_conX (conH_of_W tok Tryz.func33 rfl rfl ?_)
 refine wx ?_
 simp -implicitDefEqProofs -dsimp [Tryz.f33,List.replicate,encH,L1]
 refine lw_of (W_loopM 23 [7,16,17,18,19,20,21,22] (by simp [mB]<;>rfl) (σ:=Nat) (fun i=>i≤ids.length) (fun i=>ids.length - i) (fun i=>[(16,.int .i64 i)]) (fun i=>[B.cells [L1 f vs,LL g es],B.cells [.nilS,.nilS],B.map (.int .i64) (mE (goneTo ids i)),B.cells [.map 2]]) 0 (by omega) (by simp) (by simp [goneTo,mE,L1]) (by simp) ?_)
 intro i hi N Q hN hQ
 by_cases hb:i<ids.length
 ·have hgs:goneTo ids (i+1)=if memB (goneTo ids i) ids[i] then goneTo ids i else goneTo ids i++[ids[i]]:=by simp [goneTo,hb]
  cases hm:memB (goneTo ids i) ids[i]
  ·rw [hm] at hgs
   have hf:=find_no ids[i] (goneTo ids i) 0 hm
   refine wx ?_
   simp -implicitDefEqProofs -dsimp [hb,encI,hf,wrapS i (by omega),L1]
   refine hN (i+1) _ _ (by omega) (by omega) ?_ ⟨[],?_⟩ ?_ ?_<;>simp [or_imp,forall_and,L1,encI,LL,hgs,mE_snoc]
  ·rw [hm] at hgs
   obtain ⟨j,hf,hj⟩:=find_yes ids[i] (goneTo ids i) 0 hm
   have hset:=set_mE (goneTo ids i) ids[i] j hj
   rw [Nat.zero_add] at hf
   refine wx ?_
   simp -implicitDefEqProofs -dsimp [hb,encI,hf,hset,wrapS i (by omega),L1]
   refine hN (i+1) _ _ (by omega) (by omega) ?_ ⟨[],?_⟩ ?_ ?_<;>simp [or_imp,forall_and,L1,encI,LL,hgs,mE_snoc]
 ·obtain rfl:i=ids.length:=by omega
  have hgm:∀x,memB (goneTo ids ids.length) x=memB ids x:=fun x=>by rw [goneTo_mem ids ids.length (by omega),List.take_length]
  generalize goneTo ids ids.length=us at hgm
  refine wx ?_
  simp -implicitDefEqProofs -dsimp [hb,L1]
  refine hQ _ _ _ ?_
  simp -implicitDefEqProofs -dsimp [L1]
  refine lw_of (W_ownC 2 1 [] 4 [0] rfl (by simp) (by simp) (W_loopM 41 [10,26,27,28,29,30,31,32,33,34,35,36,37,38,39,40] (by simp [mB]<;>rfl) (σ:=Nat) (fun i=>i≤vs.length) (fun i=>vs.length - i) (fun i=>[(26,.int .i64 i)]) (fun i=>[B.cells [L1 f vs,LL g es],B.cells [.nilS,.nilS],B.map (.int .i64) (mE us),B.cells [.map 2],B.cells [.buf 5 0 (woV (vs.take i) ids).length (woV (vs.take i) ids).length,.nilS],B.buf 2 1 ((woV (vs.take i) ids).map encI) false]) 0 (by omega) (by simp) (by simp [woV,L1]) (by simp) ?_))
  intro i hi N2 Q2 hN2 hQ2
  by_cases hb:i<vs.length
  ·have hp:=woV_take vs ids i hb
   have hpl:=woV_len vs ids i
   have hgi:=hgm vs[i]
   cases hm:memB ids vs[i]
   ·rw [hm] at hp hgi
    have hf:=find_no vs[i] us 0 hgi
    refine wx ?_
    simp -implicitDefEqProofs -dsimp [hb,encI,hf,wrapS i (by omega),cap8 (woV (vs.take i) ids).length (by omega),L1]
    refine hN2 (i+1) _ _ (by omega) (by omega) ?_ ⟨[],?_⟩ ?_ ?_<;>simp [or_imp,forall_and,L1,encI,LL,hp]
   ·rw [hm] at hp hgi
    obtain ⟨j,hf,hj⟩:=find_yes vs[i] us 0 hgi
    refine wx ?_
    simp -implicitDefEqProofs -dsimp [hb,encI,hf,wrapS i (by omega),L1]
    refine hN2 (i+1) _ _ (by omega) (by omega) ?_ ⟨[],?_⟩ ?_ ?_<;>simp [or_imp,forall_and,L1,encI,LL,hp]
  ·obtain rfl:i=vs.length:=by omega
   rw [List.take_length]
   refine wx ?_
   simp -implicitDefEqProofs -dsimp [hb,L1]
   refine hQ2 _ _ _ ?_
   simp -implicitDefEqProofs -dsimp [LL,L1]
   refine lw_of (W_ownC 46 1 [] 4 [1] rfl (by simp) (by simp) (W_loopM 60 [12,44,45,46,47,48,49,50,51,52,53,54,55,56,57,58,59] (by simp [mB]<;>rfl) (σ:=Nat) (fun i=>i≤es.length) (fun i=>es.length - i) (fun i=>[(44,.int .i64 i)]) (fun i=>[B.cells [L1 f vs,LL g es],B.cells [.nilS,.nilS],B.map (.int .i64) (mE us),B.cells [.map 2],B.cells [.buf 5 0 (woV vs ids).length (woV vs ids).length,.buf 6 0 (woE (es.take i) ids).length (woE (es.take i) ids).length],B.buf 2 1 ((woV vs ids).map encI) false,B.buf 46 1 ((woE (es.take i) ids).map (L1 false)) false]) 0 (by omega) (by simp) (by simp [woE,L1,LL]) (by simp) ?_))
   intro j hj N3 Q3 hN3 hQ3
   by_cases hjb:j<es.length
   ·have hej:=hes es[j] (List.getElem_mem hjb)
    have hp:=woE_take es ids j hjb
    have hpl:=woE_len es ids j
    have hcl:=clone64p es[j] false hej
    have hclo:∀m∈es[j],WCall Tryz.prog (.fn 67 [.ptr 3 0]) [.int .i64 m] [B.cells [L1 f vs,LL g es],B.cells [.nilS,.nilS],B.map (.int .i64) (mE us),B.cells [.map 2],B.cells [.buf 5 0 (woV vs ids).length (woV vs ids).length,.buf 6 0 (woE (es.take j) ids).length (woE (es.take j) ids).length],B.buf 2 1 ((woV vs ids).map encI) false,B.buf 46 1 ((woE (es.take j) ids).map (L1 false)) false] fun r H'=>r = .bool (memB ids m)∧H'=[B.cells [L1 f vs,LL g es],B.cells [.nilS,.nilS],B.map (.int .i64) (mE us),B.cells [.map 2],B.cells [.buf 5 0 (woV vs ids).length (woV vs ids).length,.buf 6 0 (woE (es.take j) ids).length (woE (es.take j) ids).length],B.buf 2 1 ((woV vs ids).map encI) false,B.buf 46 1 ((woE (es.take j) ids).map (L1 false)) false]:=fun m hm=>by
     have hgi:=hgm m
     simp only [WCall,List.cons_append,List.nil_append]
     cases hmm:memB ids m
     ·rw [hmm] at hgi
      have hf:=find_no m us 0 hgi
      refine conH_of_W tok Tryz.func67 rfl rfl ?_
      refine wx ?_
      simp -implicitDefEqProofs -dsimp [Tryz.f67,List.replicate,hf,L1]
     ·rw [hmm] at hgi
      obtain ⟨k,hf,hk⟩:=find_yes m us 0 hgi
      refine conH_of_W tok Tryz.func67 rfl rfl ?_
      refine wx ?_
      simp -implicitDefEqProofs -dsimp [Tryz.f67,List.replicate,hf,L1]
    have hcf:=contFunc64 _ (.fn 67 [.ptr 3 0]) (fun m=>memB ids m) es[j] false hej (by simp [L1,LL,encI]) (by simp) hclo
    simp only [L1] at hcl
    cases hm:es[j].any fun v=>memB ids v
    ·rw [hm] at hp
     refine wx ?_
     simp -implicitDefEqProofs -dsimp [hjb,LL,L1]
     refine WCall.mono (K:=fun r H'=>r = .bool (es[j].any fun v=>memB ids v)∧H'=_) hcf ?_
     rintro r H' ⟨rfl,rfl⟩
     simp -implicitDefEqProofs -dsimp [hm,L1]
     refine lw_of (W_drawT tok mixed [5,7] [] [(L1 false es[j],[])] (by kernel_rfl) fun C K hC hK=>?_)
     simp -implicitDefEqProofs [LL,cap24 (woE (es.take j) ids).length (by omega),L1]
     refine ⟨hC _ _ _ _ (callP hcl (by simp)),hK _ _ ?_⟩
     simp -implicitDefEqProofs -dsimp [wrapS j (by omega),L1]
     refine hN3 (j+1) _ _ (by omega) (by omega) ?_ ⟨[],?_⟩ ?_ ?_<;>simp [or_imp,forall_and,L1,encI,LL,hp]
    ·rw [hm] at hp
     refine wx ?_
     simp -implicitDefEqProofs -dsimp [hjb,LL,L1]
     refine WCall.mono (K:=fun r H'=>r = .bool (es[j].any fun v=>memB ids v)∧H'=_) hcf ?_
     rintro r H' ⟨rfl,rfl⟩
     simp -implicitDefEqProofs -dsimp [hm,wrapS j (by omega),L1]
     refine hN3 (j+1) _ _ (by omega) (by omega) ?_ ⟨[],?_⟩ ?_ ?_<;>simp [or_imp,forall_and,L1,encI,LL,hp]
   ·obtain rfl:j=es.length:=by omega
    rw [List.take_length]
    refine wx ?_
    simp -implicitDefEqProofs -dsimp [hjb,LL,L1]
    refine hQ3 _ _ _ ?_
    simp -implicitDefEqProofs -dsimp [L1]
    exact ExpX.agg2 (expx_buf rfl (by simp) (by simp)) (expx_buf rfl (by simp) (by simp))
end
end Go.Proofs.YtfaleabndlcanaaGreatDoor
section

end
namespace Go.Proofs.YtfaleabndlcanaaGreatDoor
section
open Go Go.AM
def seq (a b:ByteArray):Bool:=a.toList == b.toList
def letterB (c:Int):Bool:=decide (97≤c)&&decide (c≤122)||decide (65≤c)&&decide (c≤90)||decide (c=95)
theorem letter_cases (c:Int):(97≤c∧c≤122∧letterB c=true)∨(97≤c∧¬c≤122∧65≤c∧¬c≤90∧¬c=95∧letterB c=false)∨(¬97≤c∧65≤c∧c≤90∧letterB c=true)∨(¬97≤c∧65≤c∧¬c≤90∧c=95∧letterB c=true)∨(¬97≤c∧65≤c∧¬c≤90∧¬c=95∧letterB c=false)∨(¬97≤c∧¬65≤c∧¬c=95∧letterB c=false):=by
 have h:letterB c=decide ((97≤c∧c≤122)∨(65≤c∧c≤90)∨c=95):=by
  unfold letterB
  simp only [Bool.decide_or,Bool.decide_and,Bool.or_assoc]
 rw [h]
 simp only [decide_eq_true_eq,decide_eq_false_iff_not]
 omega
theorem letter_con (c:Int):ConP Tryz.prog 134 [.int .u8 c] fun r=>r = .bool (letterB c):=by
 rcases letter_cases c with ⟨h1,h2,h⟩ | ⟨h1,h2,h3,h4,h5,h⟩ | ⟨h1,h2,h3,h⟩ | ⟨h1,h2,h3,h4,h⟩ | ⟨h1,h2,h3,h4,h⟩ | ⟨h1,h2,h3,h⟩
 all_goals
  rw [h]
  refine conP_of_conH (conH_of_W tok Tryz.func134 rfl rfl ?_)
  refine wx ?_
  simp -implicitDefEqProofs -dsimp [Tryz.f134,List.replicate, *]
def byteAt (s:ByteArray) (i:Nat):Int:=((s[i]?).map fun b=>(b.toNat:Int)).getD 0
theorem byteAt_in {s:ByteArray} {i:Nat} (h:i<s.size):s[i]?=some s[i]∧(s[i].toNat:Int)=byteAt s i:=by
 have h1:s[i]?=some s[i]:=getElem?_pos s i h
 exact ⟨h1,by unfold byteAt; rw [h1]; rfl⟩
theorem ba_len (bs:ByteArray):bs.data.toList.length=bs.size:=by simp
theorem ba_loop (bs:ByteArray):∀(n i:Nat) (r:List UInt8),bs.size - i=n→ByteArray.toList.loop bs i r=r.reverse++bs.data.toList.drop i
 | 0,i,r,h=>by
  have hl:=ba_len bs
  rw [ByteArray.toList.loop,if_neg (by omega),List.drop_of_length_le (by omega),List.append_nil]
 | n+1,i,r,h=>by
  have hl:=ba_len bs
  have hi:i<bs.size:=by omega
  have hi2:i<bs.data.toList.length:=by omega
  rw [ByteArray.toList.loop,if_pos hi,ba_loop bs n (i+1) _ (by omega),List.drop_eq_getElem_cons hi2,List.reverse_cons,List.append_assoc]
  congr 2
  have hi3:i<bs.data.size:=by simpa using hi2
  rw [ByteArray.get!,getElem!_pos bs.data i hi3]; rfl
theorem ba_toList (bs:ByteArray):bs.toList=bs.data.toList:=by
 unfold ByteArray.toList
 rw [ba_loop bs _ 0 [] rfl]; rfl
theorem ba_nil (s:ByteArray):s.toList=[]↔s.size=0:=by
 rw [ba_toList]
 rw [←List.length_eq_zero_iff,ba_len]
def okAt (s:ByteArray) (i:Nat):Bool:=letterB (byteAt s i)||(decide (i≠0)&&(decide (48≤byteAt s i)&&decide (byteAt s i≤57)))
def nameB (s:ByteArray):Bool:=!decide (s.toList=[])&&decide (s.size≤24)&&!(s.toList == [110,117,108,108])&&(List.range s.size).all (okAt s)
theorem allno {p:Nat→Bool} {n i:Nat} (h:i<n) (hp:p i=false):(List.range n).all p=false:=by
 rw [List.all_eq_false]
 exact ⟨i,by simpa using h,by simp [hp]⟩
theorem all_succ {p:Nat→Bool} {i:Nat} (h:(List.range i).all p=true) (hp:p i=true):(List.range (i+1)).all p=true:=by
 rw [List.range_succ,List.all_append,h]; simp [hp]
theorem isName_con (s:ByteArray) (hsz:s.size≤maxLen):ConP Tryz.prog 73 [.str s] fun r=>r = .bool (nameB s):=by
 by_cases h0:s.toList=[]
 ·rw [show nameB s=false by simp [nameB,h0]]
  refine conP_of_conH (conH_of_W tok Tryz.func73 rfl rfl ?_)
  refine wx ?_
  simp -implicitDefEqProofs -dsimp [Tryz.f73,List.replicate,h0]
 ·by_cases h24:s.size≤24
  ·cases hnl:(s.toList == [110,117,108,108])
   ·rw [show nameB s=(List.range s.size).all (okAt s) by simp [nameB,h0,h24,hnl]]
    refine conP_of_conH (conH_of_W tok Tryz.func73 rfl rfl ?_)
    refine wx ?_
    simp -implicitDefEqProofs -dsimp [Tryz.f73,List.replicate,h0,hnl,show ¬(24:Int)<s.size by omega]
    refine lw_of (W_loopM 58 [2,3,4,5,19,20,21,22,23,24,25,26,27,28,29,30,31,32,33,34,35,36,37,38,39,40,41,42,43,44,45,46,47,48,49,50,51,52,53,54,55,56,57] (by simp [mB]<;>rfl) (σ:=Nat) (fun i=>i≤s.size∧(List.range i).all (okAt s)=true) (fun i=>s.size - i) (fun i=>[(19,.int .i64 i)]) (fun _=>[]) 0 ⟨by omega,rfl⟩ (by simp) rfl (by simp) ?_)
    rintro i ⟨hi,hall⟩ N Q hN hQ
    by_cases hb:i<s.size
    ·obtain ⟨hx1,hx2⟩:=byteAt_in hb
     have hok:okAt s i=(letterB (byteAt s i)||(decide (i≠0)&&(decide (48≤byteAt s i)&&decide (byteAt s i≤57)))):=rfl
     obtain ⟨c,hc⟩:∃c,c=byteAt s i:=⟨_,rfl⟩
     rw [←hc] at hx2 hok
     rcases letter_cases c with ⟨h1,h2,h⟩ | ⟨h1,h2,h3,h4,h5,h⟩ | ⟨h1,h2,h3,h⟩ | ⟨h1,h2,h3,h4,h⟩ | ⟨h1,h2,h3,h4,h⟩ | ⟨h1,h2,h3,h⟩
     ·rw [h,Bool.true_or] at hok
      refine wx ?_
      simp -implicitDefEqProofs -dsimp [hb,hx1,hx2,h1,h2,wrapS i (by unfold maxLen at hsz; omega)]
      refine hN (i+1) _ _ ⟨by omega,all_succ hall hok⟩ (by omega) ?_ ⟨[],?_⟩ ?_ ?_<;>simp [or_imp,forall_and,L1,encI]
     ·by_cases hi0:i=0
      ·subst hi0
       rw [h,Bool.false_or,decide_eq_false (by simp),Bool.false_and] at hok
       refine wx ?_
       simp -implicitDefEqProofs -dsimp [hb,hx1,hx2,h1,h2,h3,h4,h5]
       refine hQ _ _ _ ?_
       simp -implicitDefEqProofs -dsimp []
       exact ⟨_,hb,hok⟩
      ·rw [h,Bool.false_or,decide_eq_true hi0,Bool.true_and,decide_eq_false (show ¬c≤57 by omega),Bool.and_false] at hok
       refine wx ?_
       simp -implicitDefEqProofs -dsimp [hb,hx1,hx2,h1,h2,h3,h4,h5,hi0,show ¬c<48 by omega,show 57<c by omega]
       refine hQ _ _ _ ?_
       simp -implicitDefEqProofs -dsimp []
       exact ⟨_,hb,hok⟩
     ·rw [h,Bool.true_or] at hok
      refine wx ?_
      simp -implicitDefEqProofs -dsimp [hb,hx1,hx2,h1,h2,h3,wrapS i (by unfold maxLen at hsz; omega)]
      refine hN (i+1) _ _ ⟨by omega,all_succ hall hok⟩ (by omega) ?_ ⟨[],?_⟩ ?_ ?_<;>simp [or_imp,forall_and,L1,encI]
     ·rw [h,Bool.true_or] at hok
      refine wx ?_
      simp -implicitDefEqProofs -dsimp [hb,hx1,hx2,h1,h2,h3,h4,wrapS i (by unfold maxLen at hsz; omega)]
      refine hN (i+1) _ _ ⟨by omega,all_succ hall hok⟩ (by omega) ?_ ⟨[],?_⟩ ?_ ?_<;>simp [or_imp,forall_and,L1,encI]
     ·by_cases hi0:i=0
      ·subst hi0
       rw [h,Bool.false_or,decide_eq_false (by simp),Bool.false_and] at hok
       refine wx ?_
       simp -implicitDefEqProofs -dsimp [hb,hx1,hx2,h1,h2,h3,h4]
       refine hQ _ _ _ ?_
       simp -implicitDefEqProofs -dsimp []
       exact ⟨_,hb,hok⟩
      ·rw [h,Bool.false_or,decide_eq_true hi0,Bool.true_and,decide_eq_false (show ¬c≤57 by omega),Bool.and_false] at hok
       refine wx ?_
       simp -implicitDefEqProofs -dsimp [hb,hx1,hx2,h1,h2,h3,h4,hi0,show ¬c<48 by omega,show 57<c by omega]
       refine hQ _ _ _ ?_
       simp -implicitDefEqProofs -dsimp []
       exact ⟨_,hb,hok⟩
     ·by_cases hi0:i=0
      ·subst hi0
       rw [h,Bool.false_or,decide_eq_false (by simp),Bool.false_and] at hok
       refine wx ?_
       simp -implicitDefEqProofs -dsimp [hb,hx1,hx2,h1,h2,h3]
       refine hQ _ _ _ ?_
       simp -implicitDefEqProofs -dsimp []
       exact ⟨_,hb,hok⟩
      ·by_cases h48:c<48
       ·rw [h,Bool.false_or,decide_eq_false (show ¬48≤c by omega),Bool.false_and,Bool.and_false] at hok
        refine wx ?_
        simp -implicitDefEqProofs -dsimp [hb,hx1,hx2,h1,h2,h3,hi0,h48]
        refine hQ _ _ _ ?_
        simp -implicitDefEqProofs -dsimp []
        exact ⟨_,hb,hok⟩
       ·by_cases h57:57<c
        ·rw [h,Bool.false_or,decide_eq_true hi0,Bool.true_and,decide_eq_false (show ¬c≤57 by omega),Bool.and_false] at hok
         refine wx ?_
         simp -implicitDefEqProofs -dsimp [hb,hx1,hx2,h1,h2,h3,hi0,h48,h57]
         refine hQ _ _ _ ?_
         simp -implicitDefEqProofs -dsimp []
         exact ⟨_,hb,hok⟩
        ·rw [h,Bool.false_or,decide_eq_true hi0,Bool.true_and,decide_eq_true (show c≤57 by omega),decide_eq_true (show 48≤c by omega),Bool.and_true] at hok
         refine wx ?_
         simp -implicitDefEqProofs -dsimp [hb,hx1,hx2,h1,h2,h3,hi0,h48,h57,wrapS i (by unfold maxLen at hsz; omega)]
         refine hN (i+1) _ _ ⟨by omega,all_succ hall hok⟩ (by omega) ?_ ⟨[],?_⟩ ?_ ?_<;>simp [or_imp,forall_and,L1,encI]
    ·obtain rfl:i=s.size:=by omega
     refine wx ?_
     simp -implicitDefEqProofs -dsimp [hb]
     refine hQ _ _ _ ?_
     simp -implicitDefEqProofs -dsimp []
     simpa using hall
   ·rw [show nameB s=false by simp [nameB,hnl]]
    refine conP_of_conH (conH_of_W tok Tryz.func73 rfl rfl ?_)
    refine wx ?_
    simp -implicitDefEqProofs -dsimp [Tryz.f73,List.replicate,h0,hnl,show ¬(24:Int)<s.size by omega]
  ·rw [show nameB s=false by simp [nameB,h24]]
   refine conP_of_conH (conH_of_W tok Tryz.func73 rfl rfl ?_)
   refine wx ?_
   simp -implicitDefEqProofs -dsimp [Tryz.f73,List.replicate,h0,show (24:Int)<s.size by omega]
theorem name03_con (s:ByteArray) (hsz:s.size≤maxLen):ConP Tryz.prog 88 [.str s] fun r=>r = .bool (nameB s):=by
 by_cases h0:s.toList=[]
 ·rw [show nameB s=false by simp [nameB,h0]]
  have h00:=(ba_nil s).1 h0
  refine conP_of_conH (conH_of_W tok Tryz.func88 rfl rfl ?_)
  refine wx ?_
  simp -implicitDefEqProofs -dsimp [Tryz.f88,List.replicate,h00]
 ·have h00:¬s.size=0:=fun h=>h0 ((ba_nil s).2 h)
  have hpos:0<s.size:=by omega
  obtain ⟨hx1,hx2⟩:=byteAt_in hpos
  have hl0:=letter_con (byteAt s 0)
  rw [←hx2] at hl0
  by_cases h24:s.size≤24
  ·cases hlt:letterB (byteAt s 0)
   ·have hok0:okAt s 0=false:=by unfold okAt; rw [hlt]; simp
    rw [show nameB s=false by unfold nameB; rw [allno hpos hok0,Bool.and_false]]
    rw [hx2,hlt] at hl0
    rw [←hx2] at hl0
    refine conP_of_conH (conH_of_W tok Tryz.func88 rfl rfl ?_)
    refine wx ?_
    simp -implicitDefEqProofs -dsimp [Tryz.f88,List.replicate,h00,show ¬(24:Int)<s.size by omega,hx1]
    refine (callP (hl0) (by simp)).mono ?_
    rintro r H' ⟨rfl,rfl⟩
    simp -implicitDefEqProofs -dsimp []
   ·rw [hx2,hlt] at hl0
    rw [←hx2] at hl0
    cases hnl:(s.toList == [110,117,108,108])
    ·rw [show nameB s=(List.range s.size).all (okAt s) by simp [nameB,h0,h24,hnl]]
     refine conP_of_conH (conH_of_W tok Tryz.func88 rfl rfl ?_)
     refine wx ?_
     simp -implicitDefEqProofs -dsimp [Tryz.f88,List.replicate,h00,show ¬(24:Int)<s.size by omega,hx1]
     refine (callP (hl0) (by simp)).mono ?_
     rintro r H' ⟨rfl,rfl⟩
     simp -implicitDefEqProofs -dsimp [hnl]
     refine lw_of (W_loopM 45 [2,3,22,23,24,25,26,27,28,29,30,31,32,33,34,35,36,37,38,39,40,41,42,43,44] (by simp [mB]<;>rfl) (σ:=Nat) (fun i=>i≤s.size∧(List.range i).all (okAt s)=true) (fun i=>s.size - i) (fun i=>[(3,.int .i64 i)]) (fun _=>[]) 0 ⟨by omega,rfl⟩ (by simp) rfl (by simp) ?_)
     rintro i ⟨hi,hall⟩ N Q hN hQ
     by_cases hb:i<s.size
     ·obtain ⟨hy1,hy2⟩:=byteAt_in hb
      have hok:okAt s i=(letterB (byteAt s i)||(decide (i≠0)&&(decide (48≤byteAt s i)&&decide (byteAt s i≤57)))):=rfl
      obtain ⟨c,hc⟩:∃c,c=byteAt s i:=⟨_,rfl⟩
      rw [←hc] at hy2 hok
      have hlc:=letter_con c
      cases h:letterB c
      ·have hi0:¬i=0:=fun e=>by subst e; rw [←hc] at hlt; rw [hlt] at h; cases h
       rw [h] at hlc
       rw [h,Bool.false_or,decide_eq_true hi0,Bool.true_and] at hok
       by_cases h48:c<48
       ·rw [decide_eq_false (show ¬48≤c by omega),Bool.false_and] at hok
        refine wx ?_
        simp -implicitDefEqProofs -dsimp [hb,hy1,hy2]
        refine (callP (hlc) (by simp)).mono ?_
        rintro r H' ⟨rfl,rfl⟩
        simp -implicitDefEqProofs -dsimp [hb,hy1,hy2,h48]
        refine hQ _ _ _ ?_
        simp -implicitDefEqProofs -dsimp []
        exact ⟨_,hb,hok⟩
       ·by_cases h57:57<c
        ·rw [decide_eq_false (show ¬c≤57 by omega),Bool.and_false] at hok
         refine wx ?_
         simp -implicitDefEqProofs -dsimp [hb,hy1,hy2]
         refine (callP (hlc) (by simp)).mono ?_
         rintro r H' ⟨rfl,rfl⟩
         simp -implicitDefEqProofs -dsimp [hb,hy1,hy2,h48,h57]
         refine hQ _ _ _ ?_
         simp -implicitDefEqProofs -dsimp []
         exact ⟨_,hb,hok⟩
        ·rw [decide_eq_true (show c≤57 by omega),decide_eq_true (show 48≤c by omega),Bool.and_true] at hok
         refine wx ?_
         simp -implicitDefEqProofs -dsimp [hb,hy1,hy2]
         refine (callP (hlc) (by simp)).mono ?_
         rintro r H' ⟨rfl,rfl⟩
         simp -implicitDefEqProofs -dsimp [hb,hy1,hy2,h48,h57,wrapS i (by unfold maxLen at hsz; omega)]
         refine hN (i+1) _ _ ⟨by omega,all_succ hall hok⟩ (by omega) ?_ ⟨[],?_⟩ ?_ ?_<;>simp [or_imp,forall_and,L1,encI]
      ·rw [h] at hlc
       rw [h,Bool.true_or] at hok
       refine wx ?_
       simp -implicitDefEqProofs -dsimp [hb,hy1,hy2]
       refine (callP (hlc) (by simp)).mono ?_
       rintro r H' ⟨rfl,rfl⟩
       simp -implicitDefEqProofs -dsimp [wrapS i (by unfold maxLen at hsz; omega)]
       refine hN (i+1) _ _ ⟨by omega,all_succ hall hok⟩ (by omega) ?_ ⟨[],?_⟩ ?_ ?_<;>simp [or_imp,forall_and,L1,encI]
     ·obtain rfl:i=s.size:=by omega
      refine wx ?_
      simp -implicitDefEqProofs -dsimp [hb]
      refine hQ _ _ _ ?_
      simp -implicitDefEqProofs -dsimp []
      simpa using hall
    ·rw [show nameB s=false by simp [nameB,hnl]]
     refine conP_of_conH (conH_of_W tok Tryz.func88 rfl rfl ?_)
     refine wx ?_
     simp -implicitDefEqProofs -dsimp [Tryz.f88,List.replicate,h00,show ¬(24:Int)<s.size by omega,hx1]
     refine (callP (hl0) (by simp)).mono ?_
     rintro r H' ⟨rfl,rfl⟩
     simp -implicitDefEqProofs -dsimp [hnl]
  ·rw [show nameB s=false by simp [nameB,h24]]
   refine conP_of_conH (conH_of_W tok Tryz.func88 rfl rfl ?_)
   refine wx ?_
   simp -implicitDefEqProofs -dsimp [Tryz.f88,List.replicate,h00,show (24:Int)<s.size by omega]
def LS (f:Bool) (ss:List ByteArray):V:=.lst 1 f (ss.map V.str)
@[simp] theorem LS_pure (f:Bool) (ss:List ByteArray):AM.Pure (LS f ss):=by simp [LS]
@[simp] theorem pure_takeS (i:Nat) (ss:List ByteArray):(∀x,x∈List.take i (List.map V.str ss)→AM.Pure x)↔True:=iff_true_intro fun x hx=>by
 obtain ⟨s,_,rfl⟩:=List.mem_map.1 (List.mem_of_mem_take hx)
 exact .str s
def ixS (ss:List ByteArray) (x:ByteArray) (i:Nat):Int:=if h:i<ss.length then (if (x.toList == ss[i].toList)=true then (i:Int) else ixS ss x (i+1)) else -1
termination_by ss.length - i
def memS (ss:List ByteArray) (x:ByteArray):Bool:=ss.any fun e=>x.toList == e.toList
theorem ixS_mem (ss:List ByteArray) (x:ByteArray) (i:Nat):decide (0≤ixS ss x i)=memS (ss.drop i) x:=by
 unfold memS
 fun_induction ixS ss x i with
 | case1 i h h0=>rw [List.drop_eq_getElem_cons h,List.any_cons,h0]; simp
 | case2 i h h0 ih=>rw [List.drop_eq_getElem_cons h,List.any_cons,ih]; simp [h0]
 | case3 i h=>rw [List.drop_of_length_le (by omega)]; rfl
theorem indexS (ss:List ByteArray) (x:ByteArray) (f:Bool) (hl:ss.length≤1000000):ConP Tryz.prog 107 [LS f ss,.str x] fun r=>r = .int .i64 (ixS ss x 0):=by
 refine conP_of_conH (conH_of_W tok Tryz.func107 rfl rfl ?_)
 refine wx ?_
 simp -implicitDefEqProofs -dsimp [Tryz.f107,List.replicate,LS]
 refine lw_of (W_loopM 19 [4,5,8,9,10,11,12,13,14,15,16,17,18] (by simp [mB]<;>rfl) (σ:=Nat) (fun i=>ixS ss x i=ixS ss x 0) (fun i=>ss.length - i) (fun i=>[(8,.int .i64 i)]) (fun _=>[]) 0 rfl (by simp) rfl (by simp) ?_)
 intro i hx N Q hN hQ
 by_cases hb:i<ss.length
 ·rw [ixS,dif_pos hb] at hx
  cases hq:(x.toList == ss[i].toList)
  ·rw [hq,if_neg (by simp)] at hx
   refine wx ?_
   simp -implicitDefEqProofs -dsimp [hb,hq]
   simp -implicitDefEqProofs -dsimp [wrapS i (by omega)]
   refine hN (i+1) _ _ hx (by omega) (by simp) ⟨[],rfl⟩ (by simp) (by simp)
  ·rw [hq,if_pos rfl] at hx
   refine wx ?_
   simp -implicitDefEqProofs -dsimp [hb,hq]
   refine hQ _ _ _ ?_
   simp -implicitDefEqProofs -dsimp []
   exact hx
 ·rw [ixS,dif_neg hb] at hx
  refine wx ?_
  simp -implicitDefEqProofs -dsimp [hb]
  refine hQ _ _ _ ?_
  simp -implicitDefEqProofs -dsimp []
  exact hx
theorem containsS (ss:List ByteArray) (x:ByteArray) (f:Bool) (hl:ss.length≤1000000):ConP Tryz.prog 74 [LS f ss,.str x] fun r=>r = .bool (memS ss x):=by
 have h0:=ixS_mem ss x 0
 rw [List.drop_zero] at h0
 refine conP_of_conH (conH_of_W tok Tryz.func74 rfl rfl ?_)
 refine wx ?_
 simp -implicitDefEqProofs -dsimp [Tryz.f74,List.replicate]
 refine (callP (indexS ss x f hl) (by simp)).mono ?_
 rintro r H' ⟨rfl,rfl⟩
 simp -implicitDefEqProofs -dsimp []
 rw [←h0]
theorem beq_comm' (a b:List UInt8):(a == b)=(b == a):=by rw [Bool.eq_iff_iff,beq_iff_eq,beq_iff_eq]; exact eq_comm
theorem attrS (ss:List ByteArray) (x:ByteArray) (f:Bool) (hl:ss.length≤1000000):ConP Tryz.prog 135 [LS f ss,.str x] fun r=>r = .int .i64 (ixS ss x 0):=by
 refine conP_of_conH (conH_of_W tok Tryz.func135 rfl rfl ?_)
 refine wx ?_
 simp -implicitDefEqProofs -dsimp [Tryz.f135,List.replicate,LS]
 refine lw_of (W_loopM 19 [4,5,6,7,8,9,10,11,12,13,14,15,16,17,18] (by simp [mB]<;>rfl) (σ:=Nat) (fun i=>ixS ss x i=ixS ss x 0) (fun i=>ss.length - i) (fun i=>[(5,.int .i64 i)]) (fun _=>[]) 0 rfl (by simp) rfl (by simp) ?_)
 intro i hx N Q hN hQ
 by_cases hb:i<ss.length
 ·rw [ixS,dif_pos hb,beq_comm'] at hx
  cases hq:(ss[i].toList == x.toList)
  ·rw [hq,if_neg (by simp)] at hx
   refine wx ?_
   simp -implicitDefEqProofs -dsimp [hb,hq]
   simp -implicitDefEqProofs -dsimp [wrapS i (by omega)]
   refine hN (i+1) _ _ hx (by omega) (by simp) ⟨[],rfl⟩ (by simp) (by simp)
  ·rw [hq,if_pos rfl] at hx
   refine wx ?_
   simp -implicitDefEqProofs -dsimp [hb,hq]
   refine hQ _ _ _ ?_
   simp -implicitDefEqProofs -dsimp []
   exact hx
 ·rw [ixS,dif_neg hb] at hx
  refine wx ?_
  simp -implicitDefEqProofs -dsimp [hb]
  refine hQ _ _ _ ?_
  simp -implicitDefEqProofs -dsimp []
  exact hx
def sAt (ss:List ByteArray) (i:Nat):ByteArray:=ss.getD i ByteArray.empty
def nmAt (ss:List ByteArray) (i:Nat):Bool:=nameB (sAt ss i)&&!memS (ss.take i) (sAt ss i)
def namesB (ss:List ByteArray):Bool:=(List.range ss.length).all (nmAt ss)
theorem names03 (ss:List ByteArray) (f:Bool) (hl:ss.length≤1000000) (hs:∀s∈ss,s.size≤maxLen):ConP Tryz.prog 89 [LS f ss] fun r=>r = .bool (namesB ss):=by
 unfold namesB
 refine conP_of_conH (conH_of_W tok Tryz.func89 rfl rfl ?_)
 refine wx ?_
 simp -implicitDefEqProofs -dsimp [Tryz.f89,List.replicate,LS]
 refine lw_of (W_loopM 27 [2,3,4,5,6,7,8,9,10,11,12,13,14,15,16,17,18,19,20,21,22,23,24,25,26] (by simp [mB]<;>rfl) (σ:=Nat) (fun i=>i≤ss.length∧(List.range i).all (nmAt ss)=true) (fun i=>ss.length - i) (fun i=>[(3,.int .i64 i)]) (fun _=>[]) 0 ⟨by omega,rfl⟩ (by simp) rfl (by simp) ?_)
 rintro i ⟨hi,hall⟩ N Q hN hQ
 by_cases hb:i<ss.length
 ·have hsi:sAt ss i=ss[i]:=by simp [sAt,hb]
  have hok:nmAt ss i=(nameB ss[i]&&!memS (ss.take i) ss[i]):=by unfold nmAt; rw [hsi]
  have hc1:=name03_con ss[i] (hs _ (List.getElem_mem hb))
  have hc2:=attrS (ss.take i) ss[i] (f&&i == ss.length) (by simp; omega)
  have hm:=ixS_mem (ss.take i) ss[i] 0
  rw [List.drop_zero] at hm
  simp only [LS,List.map_take] at hc2
  cases h1:nameB ss[i]
  ·rw [h1,Bool.false_and] at hok
   rw [h1] at hc1
   refine wx ?_
   simp -implicitDefEqProofs -dsimp [hb]
   refine .inr ⟨stop_of (by kernel_rfl),?_⟩
   refine cy_of _ (callP (hc1) (by simp)) ?_
   simp -implicitDefEqProofs -dsimp []
   refine hQ _ _ _ ?_
   simp -implicitDefEqProofs -dsimp []
   exact ⟨_,hb,hok⟩
  ·rw [h1,Bool.true_and] at hok
   rw [h1] at hc1
   cases h2:memS (ss.take i) ss[i]
   ·rw [h2] at hok hm
    have hneg:=of_decide_eq_false hm
    refine wx ?_
    simp -implicitDefEqProofs -dsimp [hb]
    refine .inr ⟨stop_of (by kernel_rfl),?_⟩
    refine cy_of _ (callP (hc1) (by simp)) ?_
    simp -implicitDefEqProofs -dsimp [hb,show i≤ss.length by omega]
    refine cy_of _ (callP (hc2) (by simp)) ?_
    simp -implicitDefEqProofs -dsimp [show ¬0≤ixS (ss.take i) ss[i] 0 by omega,wrapS i (by omega)]
    refine hN (i+1) _ _ ⟨by omega,all_succ hall (by rw [hok]; rfl)⟩ (by omega) ?_ ⟨[],?_⟩ ?_ ?_<;>simp [or_imp,forall_and,L1,encI]
   ·rw [h2] at hok hm
    have hneg:=of_decide_eq_true hm
    refine wx ?_
    simp -implicitDefEqProofs -dsimp [hb]
    refine .inr ⟨stop_of (by kernel_rfl),?_⟩
    refine cy_of _ (callP (hc1) (by simp)) ?_
    simp -implicitDefEqProofs -dsimp [hb,show i≤ss.length by omega]
    refine cy_of _ (callP (hc2) (by simp)) ?_
    simp -implicitDefEqProofs -dsimp [hneg]
    refine hQ _ _ _ ?_
    simp -implicitDefEqProofs -dsimp []
    exact ⟨_,hb,hok⟩
 ·obtain rfl:i=ss.length:=by omega
  refine wx ?_
  simp -implicitDefEqProofs -dsimp [hb]
  refine hQ _ _ _ ?_
  simp -implicitDefEqProofs -dsimp []
  simpa using hall
structure Vl where
 k:Int
 n:Int
 s:ByteArray
def encV (v:Vl):V:=.agg [.int .i64 v.k,.int .i64 v.n,.str v.s]
def LV (f:Bool) (vs:List Vl):V:=.lst 3 f (vs.map encV)
@[simp] theorem encV_pure (v:Vl):AM.Pure (encV v):=by simp [encV]
@[simp] theorem LV_pure (f:Bool) (vs:List Vl):AM.Pure (LV f vs):=by simp [LV]
@[simp] theorem encV_oneV (v:Vl):oneV (encV v)=true:=rfl
def validV (v:Vl):Bool :=
 if v.k=0 then decide (v.n=0)&&v.s.toList.isEmpty else if v.k=1 then v.s.toList.isEmpty else
 if v.k=2 then decide (v.n=0)&&decide (v.s.size≤200) else decide (v.k=3)&&(decide (1≤v.n)&&v.s.toList.isEmpty)
theorem valid01 (v:Vl):ConP Tryz.prog 136 [encV v] fun r=>r = .bool (validV v):=by
 unfold validV
 by_cases h0:v.k=0
 ·by_cases hn:v.n=0
  ·rw [if_pos h0,decide_eq_true hn,Bool.true_and]
   refine conP_of_conH (conH_of_W tok Tryz.func136 rfl rfl ?_)
   refine wx ?_
   simp -implicitDefEqProofs -dsimp [Tryz.f136,List.replicate,encV,h0,hn]
  ·rw [if_pos h0,decide_eq_false hn,Bool.false_and]
   refine conP_of_conH (conH_of_W tok Tryz.func136 rfl rfl ?_)
   refine wx ?_
   simp -implicitDefEqProofs -dsimp [Tryz.f136,List.replicate,encV,h0,hn]
 ·rw [if_neg h0]
  by_cases h1:v.k=1
  ·rw [if_pos h1]
   refine conP_of_conH (conH_of_W tok Tryz.func136 rfl rfl ?_)
   refine wx ?_
   simp -implicitDefEqProofs -dsimp [Tryz.f136,List.replicate,encV,h1]
  ·rw [if_neg h1]
   by_cases h2:v.k=2
   ·rw [if_pos h2]
    by_cases hn:v.n=0
    ·rw [decide_eq_true hn,Bool.true_and]
     by_cases hz:v.s.size≤200
     ·rw [decide_eq_true hz]
      refine conP_of_conH (conH_of_W tok Tryz.func136 rfl rfl ?_)
      refine wx ?_
      simp -implicitDefEqProofs -dsimp [Tryz.f136,List.replicate,encV,h2,hn,show (v.s.size:Int)≤200 by omega]
     ·rw [decide_eq_false hz]
      refine conP_of_conH (conH_of_W tok Tryz.func136 rfl rfl ?_)
      refine wx ?_
      simp -implicitDefEqProofs -dsimp [Tryz.f136,List.replicate,encV,h2,hn,show ¬(v.s.size:Int)≤200 by omega]
    ·rw [decide_eq_false hn,Bool.false_and]
     refine conP_of_conH (conH_of_W tok Tryz.func136 rfl rfl ?_)
     refine wx ?_
     simp -implicitDefEqProofs -dsimp [Tryz.f136,List.replicate,encV,h2,hn]
   ·rw [if_neg h2]
    by_cases h3:v.k=3
    ·rw [decide_eq_true h3,Bool.true_and]
     by_cases hn:1≤v.n
     ·rw [decide_eq_true hn,Bool.true_and]
      refine conP_of_conH (conH_of_W tok Tryz.func136 rfl rfl ?_)
      refine wx ?_
      simp -implicitDefEqProofs -dsimp [Tryz.f136,List.replicate,encV,h3,hn]
     ·rw [decide_eq_false hn,Bool.false_and]
      refine conP_of_conH (conH_of_W tok Tryz.func136 rfl rfl ?_)
      refine wx ?_
      simp -implicitDefEqProofs -dsimp [Tryz.f136,List.replicate,encV,h3,hn]
    ·rw [decide_eq_false h3,Bool.false_and]
     refine conP_of_conH (conH_of_W tok Tryz.func136 rfl rfl ?_)
     refine wx ?_
     simp -implicitDefEqProofs -dsimp [Tryz.f136,List.replicate,encV,h0,h1,h2,h3]
theorem validV_con (v:Vl):ConP Tryz.prog 110 [encV v] fun r=>r = .bool (validV v):=by
 unfold validV
 by_cases h0:v.k=0
 ·by_cases hn:v.n=0
  ·rw [if_pos h0,decide_eq_true hn,Bool.true_and]
   refine conP_of_conH (conH_of_W tok Tryz.func110 rfl rfl ?_)
   refine wx ?_
   simp -implicitDefEqProofs -dsimp [Tryz.f110,List.replicate,encV,h0,hn]
  ·rw [if_pos h0,decide_eq_false hn,Bool.false_and]
   refine conP_of_conH (conH_of_W tok Tryz.func110 rfl rfl ?_)
   refine wx ?_
   simp -implicitDefEqProofs -dsimp [Tryz.f110,List.replicate,encV,h0,hn]
 ·rw [if_neg h0]
  by_cases h1:v.k=1
  ·rw [if_pos h1]
   refine conP_of_conH (conH_of_W tok Tryz.func110 rfl rfl ?_)
   refine wx ?_
   simp -implicitDefEqProofs -dsimp [Tryz.f110,List.replicate,encV,h1]
  ·rw [if_neg h1]
   by_cases h2:v.k=2
   ·rw [if_pos h2]
    by_cases hn:v.n=0
    ·rw [decide_eq_true hn,Bool.true_and]
     by_cases hz:v.s.size≤200
     ·rw [decide_eq_true hz]
      refine conP_of_conH (conH_of_W tok Tryz.func110 rfl rfl ?_)
      refine wx ?_
      simp -implicitDefEqProofs -dsimp [Tryz.f110,List.replicate,encV,h2,hn,show (v.s.size:Int)≤200 by omega]
     ·rw [decide_eq_false hz]
      refine conP_of_conH (conH_of_W tok Tryz.func110 rfl rfl ?_)
      refine wx ?_
      simp -implicitDefEqProofs -dsimp [Tryz.f110,List.replicate,encV,h2,hn,show ¬(v.s.size:Int)≤200 by omega]
    ·rw [decide_eq_false hn,Bool.false_and]
     refine conP_of_conH (conH_of_W tok Tryz.func110 rfl rfl ?_)
     refine wx ?_
     simp -implicitDefEqProofs -dsimp [Tryz.f110,List.replicate,encV,h2,hn]
   ·rw [if_neg h2]
    by_cases h3:v.k=3
    ·rw [decide_eq_true h3,Bool.true_and]
     by_cases hn:1≤v.n
     ·rw [decide_eq_true hn,Bool.true_and]
      refine conP_of_conH (conH_of_W tok Tryz.func110 rfl rfl ?_)
      refine wx ?_
      simp -implicitDefEqProofs -dsimp [Tryz.f110,List.replicate,encV,h3,hn]
     ·rw [decide_eq_false hn,Bool.false_and]
      refine conP_of_conH (conH_of_W tok Tryz.func110 rfl rfl ?_)
      refine wx ?_
      simp -implicitDefEqProofs -dsimp [Tryz.f110,List.replicate,encV,h3,hn]
    ·rw [decide_eq_false h3,Bool.false_and]
     refine conP_of_conH (conH_of_W tok Tryz.func110 rfl rfl ?_)
     refine wx ?_
     simp -implicitDefEqProofs -dsimp [Tryz.f110,List.replicate,encV,h0,h1,h2,h3]
theorem any_drop (p:Vl→Bool) (vs:List Vl) (i:Nat) (h:i<vs.length):(vs.drop i).all p=(p vs[i]&&(vs.drop (i+1)).all p):=by rw [List.drop_eq_getElem_cons h]; rfl
theorem valids01 (vs:List Vl) (f:Bool) (hl:vs.length≤1000000):ConP Tryz.prog 90 [LV f vs] fun r=>r = .bool (vs.all validV):=by
 obtain ⟨E,hE⟩:∃E,E=vs.all validV:=⟨_,rfl⟩
 rw [←hE]
 refine conP_of_conH (conH_of_W tok Tryz.func90 rfl rfl ?_)
 refine wx ?_
 simp -implicitDefEqProofs -dsimp [Tryz.f90,List.replicate,LV]
 refine lw_of (W_loopM 16 [2,3,4,5,6,7,8,9,10,11,12,13,14,15] (by simp [mB]<;>rfl) (σ:=Nat) (fun i=>(vs.drop i).all validV=E) (fun i=>vs.length - i) (fun i=>[(3,.int .i64 i)]) (fun _=>[]) 0 (by rw [List.drop_zero,hE]) (by simp) rfl (by simp) ?_)
 rintro i hx N Q hN hQ
 by_cases hb:i<vs.length
 ·rw [any_drop _ _ _ hb] at hx
  have hc:=valid01 vs[i]
  cases h1:validV vs[i]
  ·rw [h1] at hc
   rw [h1,Bool.false_and] at hx
   refine wx ?_
   simp -implicitDefEqProofs -dsimp [hb]
   refine (callP (hc) (by simp)).mono ?_
   rintro r H' ⟨rfl,rfl⟩
   simp -implicitDefEqProofs -dsimp []
   refine hQ _ _ _ ?_
   simp -implicitDefEqProofs -dsimp []
   simpa using hx
  ·rw [h1] at hc
   rw [h1,Bool.true_and] at hx
   refine wx ?_
   simp -implicitDefEqProofs -dsimp [hb]
   refine (callP (hc) (by simp)).mono ?_
   rintro r H' ⟨rfl,rfl⟩
   simp -implicitDefEqProofs -dsimp [wrapS i (by omega)]
   refine hN (i+1) _ _ hx (by omega) (by simp) ⟨[],rfl⟩ (by simp) (by simp)
 ·rw [List.drop_of_length_le (by omega)] at hx
  refine wx ?_
  simp -implicitDefEqProofs -dsimp [hb]
  refine hQ _ _ _ ?_
  simp -implicitDefEqProofs -dsimp []
  simpa using hx
def ixV (p:Vl→Bool) (vs:List Vl) (i:Nat):Int:=if h:i<vs.length then (if p vs[i] then (i:Int) else ixV p vs (i+1)) else -1
termination_by vs.length - i
theorem ixV_any (p:Vl→Bool) (vs:List Vl) (i:Nat):decide (0≤ixV p vs i)=(vs.drop i).any p:=by
 fun_induction ixV p vs i with
 | case1 i h h0=>rw [List.drop_eq_getElem_cons h,List.any_cons,h0]; simp
 | case2 i h h0 ih=>rw [List.drop_eq_getElem_cons h,List.any_cons,ih]; simp [h0]
 | case3 i h=>rw [List.drop_of_length_le (by omega)]; rfl
theorem idxFuncV (H:List B) (fv:V) (p:Vl→Bool) (vs:List Vl) (g:Bool) (hes:vs.length≤1000000) (hH:∀bl∈H,rbB H.length bl) (hfv:rb H.length fv)
  (hp:∀m∈vs,WCall Tryz.prog fv [encV m] H fun r H'=>r = .bool (p m)∧H'=H):ConH Tryz.prog 154 [LV g vs,fv] H fun r H'=>r = .int .i64 (ixV p vs 0)∧H'=H:=by
 refine conH_of_W tok Tryz.func154 rfl rfl ?_
 refine wx ?_
 simp -implicitDefEqProofs -dsimp [Tryz.f154,List.replicate,LV]
 refine lw_of (W_loopM 19 [4,5,8,9,10,11,12,13,14,15,16,17,18] (by simp [mB]<;>rfl) (σ:=Nat) (fun i=>ixV p vs i=ixV p vs 0) (fun i=>vs.length - i) (fun i=>[(8,.int .i64 i)]) (fun _=>H) 0 rfl (by simp) rfl (by simp) ?_)
 intro i hx N Q hN hQ
 by_cases hb:i<vs.length
 ·rw [ixV,dif_pos hb] at hx
  have hc:=hp vs[i] (List.getElem_mem hb)
  cases hq:p vs[i]
  ·rw [hq] at hc hx
   refine wx ?_
   simp -implicitDefEqProofs -dsimp [hb]
   refine hc.mono ?_
   rintro r H' ⟨rfl,rfl⟩
   simp -implicitDefEqProofs -dsimp [wrapS i (by omega)]
   refine hN (i+1) _ _ (by simpa using hx) (by omega) (by simp) ⟨[],by simp⟩ (by simp; exact hfv) hH
  ·rw [hq] at hc hx
   refine wx ?_
   simp -implicitDefEqProofs -dsimp [hb]
   refine hc.mono ?_
   rintro r H' ⟨rfl,rfl⟩
   simp -implicitDefEqProofs -dsimp []
   refine hQ _ _ _ ?_
   simp -implicitDefEqProofs -dsimp []
   simpa using hx
 ·rw [ixV,dif_neg hb] at hx
  refine wx ?_
  simp -implicitDefEqProofs -dsimp [hb]
  refine hQ _ _ _ ?_
  simp -implicitDefEqProofs -dsimp []
  simpa using hx
theorem contFuncV (H:List B) (fv:V) (p:Vl→Bool) (vs:List Vl) (g:Bool) (hes:vs.length≤1000000) (hH:∀bl∈H,rbB H.length bl) (hfv:rb H.length fv)
  (hp:∀m∈vs,WCall Tryz.prog fv [encV m] H fun r H'=>r = .bool (p m)∧H'=H):ConH Tryz.prog 108 [LV g vs,fv] H fun r H'=>r = .bool (vs.any p)∧H'=H:=by
 have h0:=ixV_any p vs 0
 rw [List.drop_zero] at h0
 have hc:=idxFuncV H fv p vs g hes hH hfv hp
 refine conH_of_W tok Tryz.func108 rfl rfl ?_
 refine wx ?_
 simp -implicitDefEqProofs -dsimp [Tryz.f108,List.replicate]
 refine WCall.mono (K:=fun r H'=>r = .int .i64 (ixV p vs 0)∧H'=H) hc ?_
 rintro r H' ⟨rfl,rfl⟩
 simp -implicitDefEqProofs -dsimp []
 rw [←h0]
theorem notValid (v:Vl):ConP Tryz.prog 109 [encV v] fun r=>r = .bool (!validV v):=by
 have hc:=validV_con v
 simp only [encV] at hc
 refine conP_of_conH (conH_of_W tok Tryz.func109 rfl rfl ?_)
 refine wx ?_
 simp -implicitDefEqProofs -dsimp [Tryz.f109,List.replicate,encV]
 refine (callP (hc) (by simp)).mono ?_
 rintro r H' ⟨rfl,rfl⟩
 simp -implicitDefEqProofs -dsimp []
theorem validVals (vs:List Vl) (f:Bool) (hl:vs.length≤1000000):ConP Tryz.prog 75 [LV f vs] fun r=>r = .bool (vs.all validV):=by
 have hc:=contFuncV [] (.fn 109 []) (fun v=>!validV v) vs f hl (by simp) (by simp) (fun m _=>callP (notValid m) (by simp))
 have he:vs.all validV = !vs.any fun v=>!validV v:=by
  induction vs with
  | nil=>rfl
  | cons v vs ih=>simp only [List.all_cons,List.any_cons,Bool.not_or,Bool.not_not]; rw [ih (by simp at hl; omega) (contFuncV [] (.fn 109 []) (fun v=>!validV v) vs f (by simp at hl; omega) (by simp) (by simp) (fun m _=>callP (notValid m) (by simp)))]
 rw [he]
 refine conP_of_conH (conH_of_W tok Tryz.func75 rfl rfl ?_)
 refine wx ?_
 simp -implicitDefEqProofs -dsimp [Tryz.f75,List.replicate]
 refine WCall.mono (K:=fun r H'=>r = .bool (vs.any fun v=>!validV v)∧H'=[]) hc ?_
 rintro r H' ⟨rfl,rfl⟩
 simp -implicitDefEqProofs -dsimp []
structure Rw where
 id:Int
 vals:List Vl
structure Tb where
 name:ByteArray
 attrs:List ByteArray
 rows:List Rw
def encRw (r:Rw):V:=.agg [.int .i64 r.id,LV false r.vals]
def LR (g:Bool) (rs:List Rw):V:=.lst 2 g (rs.map encRw)
def encTb (f g:Bool) (t:Tb):V:=.agg [.str t.name,LS f t.attrs,LR g t.rows]
@[simp] theorem encRw_pure (r:Rw):AM.Pure (encRw r):=by simp [encRw]
@[simp] theorem LR_pure (g:Bool) (rs:List Rw):AM.Pure (LR g rs):=by simp [LR]
@[simp] theorem encTb_pure (f g:Bool) (t:Tb):AM.Pure (encTb f g t):=by simp [encTb]
@[simp] theorem encRw_oneV (r:Rw):oneV (encRw r)=true:=rfl
def rowsErr (n:Nat):Int→List Rw→Int
 | _,[]=>0
 | last,r::rs=>if r.id≤last then 1 else if r.vals.length≠n then 6 else if r.vals.all validV then rowsErr n r.id rs else 1
def validT (t:Tb):Int:=if nameB t.name then (if 16<t.attrs.length∨1000<t.rows.length then 3 else if namesB t.attrs then rowsErr t.attrs.length 0 t.rows else 1) else 1
structure TbOk (t:Tb):Prop where
 name:t.name.size≤maxLen
 attrs:t.attrs.length≤1000000
 rows:t.rows.length≤1000000
 strs:∀s∈t.attrs,s.size≤maxLen
theorem valid03 (t:Tb) (f g:Bool) (h:TbOk t):ConP Tryz.prog 42 [encTb f g t] fun r=>r = .int .i64 (validT t):=by
 obtain ⟨hn,ha,hr,hs⟩:=h
 have hc1:=name03_con t.name hn
 cases h1:nameB t.name
 ·rw [h1] at hc1
  rw [show validT t=1 by simp [validT,h1]]
  refine conP_of_conH (conH_of_W tok Tryz.func42 rfl rfl ?_)
  refine wx ?_
  simp -implicitDefEqProofs -dsimp [Tryz.f42,List.replicate,encTb,LR,LS]
  refine (callP (hc1) (by simp)).mono ?_
  rintro r H' ⟨rfl,rfl⟩
  simp -implicitDefEqProofs -dsimp []
 ·rw [h1] at hc1
  by_cases h2:16<t.attrs.length
  ·rw [show validT t=3 by simp [validT,h1,h2]]
   refine conP_of_conH (conH_of_W tok Tryz.func42 rfl rfl ?_)
   refine wx ?_
   simp -implicitDefEqProofs -dsimp [Tryz.f42,List.replicate,encTb,LR,LS]
   refine (callP (hc1) (by simp)).mono ?_
   rintro r H' ⟨rfl,rfl⟩
   simp -implicitDefEqProofs -dsimp [show (16:Int)<t.attrs.length by omega]
  ·by_cases h3:1000<t.rows.length
   ·rw [show validT t=3 by simp [validT,h1,h3]]
    refine conP_of_conH (conH_of_W tok Tryz.func42 rfl rfl ?_)
    refine wx ?_
    simp -implicitDefEqProofs -dsimp [Tryz.f42,List.replicate,encTb,LR,LS]
    refine (callP (hc1) (by simp)).mono ?_
    rintro r H' ⟨rfl,rfl⟩
    simp -implicitDefEqProofs -dsimp [show ¬(16:Int)<t.attrs.length by omega,show (1000:Int)<t.rows.length by omega]
   ·have hc2:=names03 t.attrs f ha hs
    simp only [LS] at hc2
    cases h4:namesB t.attrs
    ·rw [h4] at hc2
     rw [show validT t=1 by simp [validT,h1,h2,h3,h4]]
     refine conP_of_conH (conH_of_W tok Tryz.func42 rfl rfl ?_)
     refine wx ?_
     simp -implicitDefEqProofs -dsimp [Tryz.f42,List.replicate,encTb,LR,LS]
     refine (callP (hc1) (by simp)).mono ?_
     rintro r H' ⟨rfl,rfl⟩
     simp -implicitDefEqProofs -dsimp [show ¬(16:Int)<t.attrs.length by omega,show ¬(1000:Int)<t.rows.length by omega]
     refine (callP (hc2) (by simp)).mono ?_
     rintro r H' ⟨rfl,rfl⟩
     simp -implicitDefEqProofs -dsimp []
    ·rw [h4] at hc2
     have hE:rowsErr t.attrs.length 0 t.rows=validT t:=by simp [validT,h1,h2,h3,h4]
     obtain ⟨E,hEe⟩:∃E,E=validT t:=⟨_,rfl⟩
     rw [←hEe] at hE ⊢
     refine conP_of_conH (conH_of_W tok Tryz.func42 rfl rfl ?_)
     refine wx ?_
     simp -implicitDefEqProofs -dsimp [Tryz.f42,List.replicate,encTb,LR,LS]
     refine (callP (hc1) (by simp)).mono ?_
     rintro r H' ⟨rfl,rfl⟩
     simp -implicitDefEqProofs -dsimp [show ¬(16:Int)<t.attrs.length by omega,show ¬(1000:Int)<t.rows.length by omega]
     refine (callP (hc2) (by simp)).mono ?_
     rintro r H' ⟨rfl,rfl⟩
     simp -implicitDefEqProofs -dsimp []
     refine lw_of (W_loopM 53 [2,3,4,5,24,25,26,27,28,29,30,31,32,33,34,35,36,37,38,39,40,41,42,43,44,45,46,47,48,49,50,51,52] (by simp [mB]<;>rfl) (σ:=Nat×Int) (fun p=>p.1≤t.rows.length∧rowsErr t.attrs.length p.2 (t.rows.drop p.1)=E) (fun p=>t.rows.length - p.1) (fun p=>[(4,.int .i64 p.1),(3,.int .i64 p.2)]) (fun _=>[B.cells [.str t.name,LS f t.attrs,LR g t.rows]]) (0,0) ⟨by simp,hE⟩ (by simp) (by simp [LS,LR]) (by simp) ?_)
     rintro ⟨i,last⟩ ⟨hi,hx⟩ N Q hN hQ
     simp only at hi hx hN
     by_cases hb:i<t.rows.length
     ·rw [List.drop_eq_getElem_cons hb] at hx
      simp only [rowsErr] at hx
      by_cases h5:t.rows[i].id≤last
      ·rw [if_pos h5] at hx
       refine wx ?_
       simp -implicitDefEqProofs -dsimp [hb,LS,LR,encRw,h5,LV]
       refine hQ _ _ _ ?_
       simp -implicitDefEqProofs -dsimp []
       exact hx
      ·rw [if_neg h5] at hx
       by_cases h6:t.rows[i].vals.length=t.attrs.length
       ·rw [if_neg (fun h=>h h6)] at hx
        have hc3:=valids01 t.rows[i].vals false (by omega)
        cases h7:t.rows[i].vals.all validV
        ·rw [h7] at hc3 hx
         refine wx ?_
         simp -implicitDefEqProofs -dsimp [hb,LS,LR,encRw,h5,LV,h6]
         simp only [LV] at hc3
         refine (callP (hc3) (by simp)).mono ?_
         rintro r H' ⟨rfl,rfl⟩
         simp -implicitDefEqProofs -dsimp []
         refine hQ _ _ _ ?_
         simp -implicitDefEqProofs -dsimp []
         simpa using hx
        ·rw [h7,if_pos rfl] at hx
         rw [h7] at hc3
         refine wx ?_
         simp -implicitDefEqProofs -dsimp [hb,LS,LR,encRw,h5,LV,h6]
         simp only [LV] at hc3
         refine (callP (hc3) (by simp)).mono ?_
         rintro r H' ⟨rfl,rfl⟩
         simp -implicitDefEqProofs -dsimp [wrapS i (by omega)]
         refine hN (i+1,t.rows[i].id) _ _ ⟨by simp; omega,hx⟩ (by omega) ?_ ⟨[B.cells [.int .i64 t.rows[i].id,LV false t.rows[i].vals]],?_⟩ ?_ ?_<;>simp [or_imp,forall_and,L1,encI,LS,LR,LV]
       ·rw [if_pos h6] at hx
        refine wx ?_
        simp -implicitDefEqProofs -dsimp [hb,LS,LR,encRw,h5,LV,show ¬(t.rows[i].vals.length:Int)=t.attrs.length by omega]
        refine hQ _ _ _ ?_
        simp -implicitDefEqProofs -dsimp []
        exact hx
     ·rw [List.drop_of_length_le (by omega)] at hx
      refine wx ?_
      simp -implicitDefEqProofs -dsimp [hb,LS,LR]
      refine hQ _ _ _ ?_
      simp -implicitDefEqProofs -dsimp []
      exact hx
theorem tableValid (t:Tb) (f g:Bool) (h:TbOk t):ConP Tryz.prog 38 [encTb f g t] fun r=>r = .int .i64 (validT t):=by
 obtain ⟨hn,ha,hr,hs⟩:=h
 have hc1:=isName_con t.name hn
 cases h1:nameB t.name
 ·rw [h1] at hc1
  rw [show validT t=1 by simp [validT,h1]]
  refine conP_of_conH (conH_of_W tok Tryz.func38 rfl rfl ?_)
  refine wx ?_
  simp -implicitDefEqProofs -dsimp [Tryz.f38,List.replicate,encTb,LR,LS]
  refine (callP (hc1) (by simp)).mono ?_
  rintro r H' ⟨rfl,rfl⟩
  simp -implicitDefEqProofs -dsimp []
 ·rw [h1] at hc1
  by_cases h2:16<t.attrs.length
  ·rw [show validT t=3 by simp [validT,h1,h2]]
   refine conP_of_conH (conH_of_W tok Tryz.func38 rfl rfl ?_)
   refine wx ?_
   simp -implicitDefEqProofs -dsimp [Tryz.f38,List.replicate,encTb,LR,LS]
   refine (callP (hc1) (by simp)).mono ?_
   rintro r H' ⟨rfl,rfl⟩
   simp -implicitDefEqProofs -dsimp [show (16:Int)<t.attrs.length by omega]
  ·by_cases h3:1000<t.rows.length
   ·rw [show validT t=3 by simp [validT,h1,h3]]
    refine conP_of_conH (conH_of_W tok Tryz.func38 rfl rfl ?_)
    refine wx ?_
    simp -implicitDefEqProofs -dsimp [Tryz.f38,List.replicate,encTb,LR,LS]
    refine (callP (hc1) (by simp)).mono ?_
    rintro r H' ⟨rfl,rfl⟩
    simp -implicitDefEqProofs -dsimp [show ¬(16:Int)<t.attrs.length by omega,show (1000:Int)<t.rows.length by omega]
   ·have hE:(if namesB t.attrs then rowsErr t.attrs.length 0 t.rows else 1)=validT t:=by simp [validT,h1,h2,h3]
    obtain ⟨E,hEe⟩:∃E,E=validT t:=⟨_,rfl⟩
    rw [←hEe] at hE ⊢
    refine conP_of_conH (conH_of_W tok Tryz.func38 rfl rfl ?_)
    refine wx ?_
    simp -implicitDefEqProofs -dsimp [Tryz.f38,List.replicate,encTb,LR,LS]
    refine (callP (hc1) (by simp)).mono ?_
    rintro r H' ⟨rfl,rfl⟩
    simp -implicitDefEqProofs -dsimp [show ¬(16:Int)<t.attrs.length by omega,show ¬(1000:Int)<t.rows.length by omega]
    refine lw_of (W_loopM 42 [2,3,4,25,26,27,28,29,30,31,32,33,34,35,36,37,38,39,40,41] (by simp [mB]<;>rfl) (σ:=Nat) (fun i=>i≤t.attrs.length∧(List.range i).all (nmAt t.attrs)=true) (fun i=>t.attrs.length - i) (fun i=>[(25,.int .i64 i)]) (fun _=>[B.cells [.str t.name,LS f t.attrs,LR g t.rows]]) 0 ⟨by omega,rfl⟩ (by simp) (by simp [LS,LR]) (by simp) ?_)
    rintro i ⟨hi,hall⟩ N Q hN hQ
    by_cases hb:i<t.attrs.length
    ·have hsi:sAt t.attrs i=t.attrs[i]:=by simp [sAt,hb]
     have hok:nmAt t.attrs i=(nameB t.attrs[i]&&!memS (t.attrs.take i) t.attrs[i]):=by unfold nmAt; rw [hsi]
     have hd1:=isName_con t.attrs[i] (hs _ (List.getElem_mem hb))
     have hd2:=containsS (t.attrs.take i) t.attrs[i] (f&&i == t.attrs.length) (by simp; omega)
     simp only [LS,List.map_take] at hd2
     cases h5:nameB t.attrs[i]
     ·rw [h5,Bool.false_and] at hok
      rw [h5] at hd1
      rw [show namesB t.attrs=false from allno hb hok] at hE
      refine wx ?_
      simp -implicitDefEqProofs -dsimp [hb,LS,LR]
      refine (callP (hd1) (by simp)).mono ?_
      rintro r H' ⟨rfl,rfl⟩
      simp -implicitDefEqProofs -dsimp []
      refine hQ _ _ _ ?_
      simp -implicitDefEqProofs -dsimp []
      simpa using hE
     ·rw [h5,Bool.true_and] at hok
      rw [h5] at hd1
      cases h6:memS (t.attrs.take i) t.attrs[i]
      ·rw [h6] at hd2 hok
       refine wx ?_
       simp -implicitDefEqProofs -dsimp [hb,LS,LR]
       refine (callP (hd1) (by simp)).mono ?_
       rintro r H' ⟨rfl,rfl⟩
       simp -implicitDefEqProofs -dsimp [show i≤t.attrs.length by omega]
       refine (callP (hd2) (by simp)).mono ?_
       rintro r H' ⟨rfl,rfl⟩
       simp -implicitDefEqProofs -dsimp [wrapS i (by omega)]
       refine hN (i+1) _ _ ⟨by omega,all_succ hall (by rw [hok]; rfl)⟩ (by omega) ?_ ⟨[],?_⟩ ?_ ?_<;>simp [or_imp,forall_and,L1,encI,LS,LR]
      ·rw [h6] at hd2 hok
       rw [show namesB t.attrs=false from allno hb hok] at hE
       refine wx ?_
       simp -implicitDefEqProofs -dsimp [hb,LS,LR]
       refine (callP (hd1) (by simp)).mono ?_
       rintro r H' ⟨rfl,rfl⟩
       simp -implicitDefEqProofs -dsimp [show i≤t.attrs.length by omega]
       refine (callP (hd2) (by simp)).mono ?_
       rintro r H' ⟨rfl,rfl⟩
       simp -implicitDefEqProofs -dsimp []
       refine hQ _ _ _ ?_
       simp -implicitDefEqProofs -dsimp []
       simpa using hE
    ·obtain rfl:i=t.attrs.length:=by omega
     rw [show namesB t.attrs=true from hall,if_pos rfl] at hE
     refine wx ?_
     simp -implicitDefEqProofs -dsimp [hb,LS,LR]
     refine hQ _ _ _ ?_
     simp -implicitDefEqProofs -dsimp [LS,LR]
     refine lw_of (W_loopM 70 [2,5,7,45,46,47,48,49,50,51,52,53,54,55,56,57,58,59,60,61,62,63,64,65,66,67,68,69] (by simp [mB]<;>rfl) (σ:=Nat×Int) (fun p=>p.1≤t.rows.length∧rowsErr t.attrs.length p.2 (t.rows.drop p.1)=E) (fun p=>t.rows.length - p.1) (fun p=>[(45,.int .i64 p.1),(5,.int .i64 p.2)]) (fun _=>[B.cells [.str t.name,LS f t.attrs,LR g t.rows]]) (0,0) ⟨by simp,hE⟩ (by simp) (by simp [LS,LR]) (by simp) ?_)
     rintro ⟨j,last⟩ ⟨hj,hx⟩ N2 Q2 hN2 hQ2
     simp only at hj hx hN2
     by_cases hjb:j<t.rows.length
     ·rw [List.drop_eq_getElem_cons hjb] at hx
      simp only [rowsErr] at hx
      by_cases h5:t.rows[j].id≤last
      ·rw [if_pos h5] at hx
       refine wx ?_
       simp -implicitDefEqProofs -dsimp [hjb,LS,LR,encRw,h5,LV]
       refine hQ2 _ _ _ ?_
       simp -implicitDefEqProofs -dsimp []
       exact hx
      ·rw [if_neg h5] at hx
       by_cases h6:t.rows[j].vals.length=t.attrs.length
       ·rw [if_neg (fun h=>h h6)] at hx
        have hc3:=validVals t.rows[j].vals false (by omega)
        simp only [LV] at hc3
        cases h7:t.rows[j].vals.all validV
        ·rw [h7] at hc3 hx
         refine wx ?_
         simp -implicitDefEqProofs -dsimp [hjb,LS,LR,encRw,h5,LV,h6]
         refine (callP (hc3) (by simp)).mono ?_
         rintro r H' ⟨rfl,rfl⟩
         simp -implicitDefEqProofs -dsimp []
         refine hQ2 _ _ _ ?_
         simp -implicitDefEqProofs -dsimp []
         simpa using hx
        ·rw [h7,if_pos rfl] at hx
         rw [h7] at hc3
         refine wx ?_
         simp -implicitDefEqProofs -dsimp [hjb,LS,LR,encRw,h5,LV,h6]
         refine (callP (hc3) (by simp)).mono ?_
         rintro r H' ⟨rfl,rfl⟩
         simp -implicitDefEqProofs -dsimp [wrapS j (by omega)]
         refine hN2 (j+1,t.rows[j].id) _ _ ⟨by simp; omega,hx⟩ (by omega) ?_ ⟨[B.cells [.int .i64 t.rows[j].id,LV false t.rows[j].vals]],?_⟩ ?_ ?_<;>simp [or_imp,forall_and,L1,encI,LS,LR,LV]
       ·rw [if_pos h6] at hx
        refine wx ?_
        simp -implicitDefEqProofs -dsimp [hjb,LS,LR,encRw,h5,LV,show ¬(t.rows[j].vals.length:Int)=t.attrs.length by omega]
        refine hQ2 _ _ _ ?_
        simp -implicitDefEqProofs -dsimp []
        exact hx
     ·rw [List.drop_of_length_le (by omega)] at hx
      refine wx ?_
      simp -implicitDefEqProofs -dsimp [hjb,LS,LR]
      refine hQ2 _ _ _ ?_
      simp -implicitDefEqProofs -dsimp []
      exact hx
def ofV (m:Int):Vl :=
 if m=0 then ⟨1,0,ByteArray.empty⟩ else
 if m=1 then ⟨1,1,ByteArray.empty⟩ else
 if m=2 then ⟨1,2,ByteArray.empty⟩ else
 if m=3 then ⟨0,0,ByteArray.empty⟩ else
 if m=4 then ⟨2,0,⟨#[97]⟩⟩ else
 if m=5 then ⟨2,0,⟨#[98]⟩⟩ else
 if m=6 then ⟨2,0,ByteArray.empty⟩ else
 if m=7 then ⟨3,1,ByteArray.empty⟩ else
 if m=8 then ⟨1,-1,ByteArray.empty⟩ else
 if m=9 then ⟨2,0,⟨#[97,98]⟩⟩ else
 if m=10 then ⟨3,2,ByteArray.empty⟩ else
 ⟨1,7,ByteArray.empty⟩
def ofC (c:Int):Vl:=ofV (c.tmod 12)
theorem of01 (c:Int):ConP Tryz.prog 72 [.int .u8 c] fun r=>r=encV (ofC c):=by
 unfold ofC
 obtain ⟨m,hm⟩:∃m,m=c.tmod 12:=⟨_,rfl⟩
 rw [←hm]
 have hm:=hm.symm
 by_cases h0:m=0
 ·have e:ofV m=ofV 0:=by rw [h0]
  rw [e]
  refine conP_of_conH (conH_of_W tok Tryz.func72 rfl rfl ?_)
  refine wx ?_
  simp -implicitDefEqProofs -dsimp [Tryz.f72,List.replicate,hm,h0]
  rfl
 by_cases h1:m=1
 ·have e:ofV m=ofV 1:=by rw [h1]
  rw [e]
  refine conP_of_conH (conH_of_W tok Tryz.func72 rfl rfl ?_)
  refine wx ?_
  simp -implicitDefEqProofs -dsimp [Tryz.f72,List.replicate,hm,h1]
  rfl
 by_cases h2:m=2
 ·have e:ofV m=ofV 2:=by rw [h2]
  rw [e]
  refine conP_of_conH (conH_of_W tok Tryz.func72 rfl rfl ?_)
  refine wx ?_
  simp -implicitDefEqProofs -dsimp [Tryz.f72,List.replicate,hm,h2]
  rfl
 by_cases h3:m=3
 ·have e:ofV m=ofV 3:=by rw [h3]
  rw [e]
  refine conP_of_conH (conH_of_W tok Tryz.func72 rfl rfl ?_)
  refine wx ?_
  simp -implicitDefEqProofs -dsimp [Tryz.f72,List.replicate,hm,h3]
  rfl
 by_cases h4:m=4
 ·have e:ofV m=ofV 4:=by rw [h4]
  rw [e]
  refine conP_of_conH (conH_of_W tok Tryz.func72 rfl rfl ?_)
  refine wx ?_
  simp -implicitDefEqProofs -dsimp [Tryz.f72,List.replicate,hm,h4]
  rfl
 by_cases h5:m=5
 ·have e:ofV m=ofV 5:=by rw [h5]
  rw [e]
  refine conP_of_conH (conH_of_W tok Tryz.func72 rfl rfl ?_)
  refine wx ?_
  simp -implicitDefEqProofs -dsimp [Tryz.f72,List.replicate,hm,h5]
  rfl
 by_cases h6:m=6
 ·have e:ofV m=ofV 6:=by rw [h6]
  rw [e]
  refine conP_of_conH (conH_of_W tok Tryz.func72 rfl rfl ?_)
  refine wx ?_
  simp -implicitDefEqProofs -dsimp [Tryz.f72,List.replicate,hm,h6]
  rfl
 by_cases h7:m=7
 ·have e:ofV m=ofV 7:=by rw [h7]
  rw [e]
  refine conP_of_conH (conH_of_W tok Tryz.func72 rfl rfl ?_)
  refine wx ?_
  simp -implicitDefEqProofs -dsimp [Tryz.f72,List.replicate,hm,h7]
  rfl
 by_cases h8:m=8
 ·have e:ofV m=ofV 8:=by rw [h8]
  rw [e]
  refine conP_of_conH (conH_of_W tok Tryz.func72 rfl rfl ?_)
  refine wx ?_
  simp -implicitDefEqProofs -dsimp [Tryz.f72,List.replicate,hm,h8]
  rfl
 by_cases h9:m=9
 ·have e:ofV m=ofV 9:=by rw [h9]
  rw [e]
  refine conP_of_conH (conH_of_W tok Tryz.func72 rfl rfl ?_)
  refine wx ?_
  simp -implicitDefEqProofs -dsimp [Tryz.f72,List.replicate,hm,h9]
  rfl
 by_cases h10:m=10
 ·have e:ofV m=ofV 10:=by rw [h10]
  rw [e]
  refine conP_of_conH (conH_of_W tok Tryz.func72 rfl rfl ?_)
  refine wx ?_
  simp -implicitDefEqProofs -dsimp [Tryz.f72,List.replicate,hm,h10]
  rfl
 have e:ofV m=⟨1,7,ByteArray.empty⟩:=by unfold ofV; simp [h0,h1,h2,h3,h4,h5,h6,h7,h8,h9,h10]
 rw [e]
 refine conP_of_conH (conH_of_W tok Tryz.func72 rfl rfl ?_)
 refine wx ?_
 simp -implicitDefEqProofs -dsimp [Tryz.f72,List.replicate,hm,h0,h1,h2,h3,h4,h5,h6,h7,h8,h9,h10]
 rfl
def lfB:V→V→Prop
 | x,y=>y=x∨(∃z xs,x = .lst z true xs∧y = .lst z false xs)∨(∃z,x = .nilS∧y = .lst z false [])
def LfL:List V→List V→Prop
 | [],[]=>True
 | x::xs,y::ys=>lfB x y∧LfL xs ys
 | _,_=>False
theorem LfL.len:∀{xs ys:List V},LfL xs ys→xs.length=ys.length
 | [],[],_=>rfl
 | [],_::_,h=>h.elim
 | _::_,[],h=>h.elim
 | _::_,_::_,h=>by simp [h.2.len]
theorem LfL.at_:∀{xs ys:List V},LfL xs ys→∀(i:Nat) x y,xs[i]?=some x→ys[i]?=some y→lfB x y
 | [],_,_,i,x,y,h,_=>by simp at h
 | _::_,[],h,_,_,_,_,_=>h.elim
 | a::xs,b::ys,h,0,x,y,h1,h2=>by simp at h1 h2; subst h1; subst h2; exact h.1
 | a::xs,b::ys,h,i+1,x,y,h1,h2=>h.2.at_ i x y (by simpa using h1) (by simpa using h2)
theorem lf_rel {s:AM.St} {x y:V} {u:Value} (h:Rel s x u) (hl:lfB x y):Rel s y u:=by
 rcases hl with rfl | ⟨z,xs,rfl,rfl⟩ | ⟨z,rfl,rfl⟩
 ·exact h
 ·cases h with
  | lst _ _ _ A cap b off u hcap hfull hA hz hcell hrel=>exact .lst z false xs A cap b off u hcap (fun h=>by cases h) hA hz hcell hrel
 ·cases h
  exact rel_empty z false none 0 (fun _=>rfl)
theorem lf_one {x y:V} (hl:lfB x y) (h:x.one=true):y.one=true:=by
 rcases hl with rfl | ⟨z,xs,rfl,rfl⟩ | ⟨z,rfl,rfl⟩
 ·exact h
 ·rfl
 ·rfl
theorem W_lf {P:Program} (k0:Nat) (fr' cs':List V) {c:Code} {Q:Exit→List V→List B→Prop} {fr:List V} {H:List B} {cs:List V} (hk:H[k0]?=some (.cells cs)) (ho:LfL fr fr') (hc:LfL cs cs')
  (h:W P c Q fr' (H.set k0 (.cells cs'))):W P c Q fr H:=by
 intro s a hA hg hf hd
 obtain ⟨rfl,hZ⟩:=hA
 have hst:=setB_step (w:=s.w) (bl':=.cells cs') hg hk (lvC hk) trivial rfl rfl rfl (Nat.le_refl _) (fun _ _ _=>rfl)
 have hl:=ho.len
 have hlc:=hc.len
 have hgd:AM.Good (s.setB s.w k0 (.cells cs')):=by
  refine setB_good hg hk (lvC hk) trivial rfl rfl rfl (Nat.le_refl _) (fun _ _ _=>rfl) (fun hst=>?_)
  obtain ⟨h1,vs,t,h2,h3,h4⟩:=hg.blk k0 _ hk
  refine ⟨fun d hd=>?_,vs,t,h2,by omega,fun i d u hd hu=>?_⟩
  ·obtain ⟨i,hi⟩:=List.mem_iff_getElem?.1 hd
   have hx:cs[i]?=some (cs[i]'(by have:=getElem?_lt hi; omega)):=List.getElem?_eq_getElem _
   exact lf_one (hc.at_ i _ d hx hi) (h1 _ (List.getElem_mem _))
  ·have hx:cs[i]?=some (cs[i]'(by have:=getElem?_lt hd; omega)):=List.getElem?_eq_getElem _
   exact (lf_rel (h4 i _ u hx hu) (hc.at_ i _ d hx hd)).step hst
 have:=h (s.setB s.w k0 (.cells cs')) a ⟨rfl,hZ.step hst⟩ hgd ⟨by rw [hf.len,hl],fun i v u hv hu=>by
  have hx:fr[i]?=some (fr[i]'(by have:=getElem?_lt hv; omega)):=List.getElem?_eq_getElem _
  exact (lf_rel (hf.rel i _ u hx hu) (ho.at_ i _ v hx hv)).step hst⟩ hd
 exact wp_mono this fun _ _ _ hl=>leaves_trans hst hl
theorem lfB_refl (x:V):lfB x x:=.inl rfl
theorem lfL_refl:∀xs:List V,LfL xs xs
 | []=>trivial
 | x::xs=>⟨lfB_refl x,lfL_refl xs⟩
structure Rcp where
 a:Int
 gap:Int
 rows:List (List Int)
def LU (xs:List Int):V:=.lst 1 false (xs.map encU)
def encRcp (f:Bool) (x:Rcp):V:=.agg [.int .u8 x.a,.int .u8 x.gap,.lst 1 f (x.rows.map LU)]
@[simp] theorem LU_pure (xs:List Int):AM.Pure (LU xs):=by simp [LU]
@[simp] theorem encRcp_pure (f:Bool) (x:Rcp):AM.Pure (encRcp f x):=by simp [encRcp]
def L8:List ByteArray:=[⟨#[97]⟩,⟨#[98]⟩,⟨#[99]⟩,⟨#[100]⟩,⟨#[101]⟩,⟨#[102]⟩,⟨#[103]⟩,⟨#[104]⟩]
def wVals (cs:List Int) (k:Nat):List Vl:=(List.range k).map fun j=>ofC (cs.getD j 0)
def wRow (gap:Int) (cs:List Int) (n i:Nat):Rw:=⟨1+(i:Int)*(1+gap.tmod 3),wVals cs n⟩
def wRows (x:Rcp) (n i:Nat):List Rw:=(List.range i).map fun j=>wRow x.gap (x.rows.getD j []) n j
def wideT (x:Rcp) (n:Nat):Tb:=⟨⟨#[114]⟩,L8.take n,wRows x n x.rows.length⟩
theorem wVals_succ (cs:List Int) (k:Nat):wVals cs (k+1)=wVals cs k++[ofC (cs.getD k 0)]:=by simp [wVals,List.range_succ]
theorem wVals_len (cs:List Int) (k:Nat):(wVals cs k).length=k:=by simp [wVals]
theorem wRows_succ (x:Rcp) (n i:Nat):wRows x n (i+1)=wRows x n i++[wRow x.gap (x.rows.getD i []) n i]:=by simp [wRows,List.range_succ]
theorem wRows_len (x:Rcp) (n i:Nat):(wRows x n i).length=i:=by simp [wRows]
theorem cap32 (n:Nat) (h:n≤1000000000):n≤9223372036854775806∧(n+1)*32≤140737488355328:=by omega
theorem L8_take (n:Nat):List.take n [V.str ⟨#[97]⟩,V.str ⟨#[98]⟩,V.str ⟨#[99]⟩,V.str ⟨#[100]⟩,V.str ⟨#[101]⟩,V.str ⟨#[102]⟩,V.str ⟨#[103]⟩,V.str ⟨#[104]⟩]=(L8.take n).map V.str:=by rw [List.map_take]; rfl
theorem ownF_refl (k:Nat):∀xs:List V,OwnF k xs xs
 | []=>trivial
 | x::xs=>⟨.inl rfl,ownF_refl k xs⟩
theorem ownAt_nil (k:Nat):∀(i:Nat) (xs:List V),ownAt k [] i xs=xs
 | _,[]=>rfl
 | i,x::xs=>by simp only [ownAt,List.contains_nil,Bool.false_eq_true,if_false,ownAt_nil k (i+1) xs]
theorem lfL_own (k:Nat) (xs:List V):OwnF k xs (ownAt k [] 0 xs):=by rw [ownAt_nil]; exact ownF_refl k xs
theorem wide03 (x:Rcp) (n:Nat) (f:Bool) (hn:n≤8) (hr:x.rows.length≤1000000) (hc:∀r∈x.rows,r.length≤9223372036854775807) (h0:0≤x.gap) :
  ConP Tryz.prog 58 [encRcp f x,.int .i64 n] fun r=>r=encTb false false (wideT x n):=by
 have hg:=Int.tmod_nonneg 3 h0
 have hg2:=Int.tmod_lt_of_pos x.gap (show (0:Int)<3 by omega)
 obtain ⟨g,hge⟩:∃g,g=x.gap.tmod 3:=⟨_,rfl⟩
 rw [←hge] at hg hg2
 have hgs:=hge.symm
 have hw1:IntKind.i64.wrap g=g:=wrap64 (by omega) (by omega)
 have hw2:IntKind.i64.wrap (1+g)=1+g:=wrap64 (by omega) (by omega)
 have hl8:(L8.take n).length=n:=by simp [L8]; omega
 have hne:(n=0∧List.take n (L8.map V.str)=[])∨(¬n=0∧¬List.take n (L8.map V.str)=[]):=by
  by_cases hz:n=0
  ·exact .inl ⟨hz,by rw [hz]; rfl⟩
  ·refine .inr ⟨hz,fun h=>?_⟩
   have:=congrArg List.length h
   rw [←List.map_take,List.length_map,hl8] at this
   exact hz this
 have hlt:(List.take n (L8.map V.str)).length=n:=by rw [←List.map_take,List.length_map,hl8]
 have hcp:n≤9223372036854775807∧n*16≤140737488355328:=by omega
 rcases hne with ⟨hz,hne⟩ | ⟨hz,hne⟩
 case' inl =>
  refine conP_of_conH (conH_of_W (tok_flag tok (fun t=>t == 22)) Tryz.func58 rfl rfl ?_)
  refine W_x (tok_flag tok (fun t=>t == 22)) mixed ?_
  simp -implicitDefEqProofs -dsimp [Tryz.f58,List.replicate,encRcp,L8_take,hn,hne,flagT]
 case' inr =>
  refine conP_of_conH (conH_of_W (tok_flag tok (fun t=>t == 22)) Tryz.func58 rfl rfl ?_)
  refine W_x (tok_flag tok (fun t=>t == 22)) mixed ?_
  simp -implicitDefEqProofs -dsimp [Tryz.f58,List.replicate,encRcp,L8_take,hn,hz,hne,hlt,hcp,flagT]
 all_goals
  refine lw_of (W_lf 2 _ [.str ⟨#[114]⟩,.lst 1 false (List.take n (L8.map V.str)),.nilS] rfl (lfL_refl _) (by simp [LfL,lfB,hne]) (W_ownC 97 2 [] 2 [2] rfl (lfL_own _ _) (by simp) (W_loopM 66 [6,7,8,9,10,11,13,14,15,16,17,18,19,20,21,22,23,24,25,26,27,28,29,30,31,32,33,34,35,36,37,38,39,40,41,42,43,44,45,46,47,48,49,50,51,52,53,54,55,56,57,58,59,60,61,62,63,64,65] (by simp [mB]<;>rfl) (σ:=Nat) (fun i=>i≤x.rows.length) (fun i=>x.rows.length - i) (fun i=>[(6,.int .i64 i)]) (fun i=>[B.cells [.int .u8 x.a,.int .u8 x.gap,.lst 1 f (x.rows.map LU)],B.cells [.str ByteArray.empty,.nilS,.nilS],B.cells [.str ⟨#[114]⟩,.lst 1 false (List.take n (L8.map V.str)),.buf 3 0 i i],B.buf 97 2 ((wRows x n i).map encRw) false]) 0 (by omega) (by simp) (by simp [wRows]) (by simp) ?_)))
  intro i hi N Q hN hQ
  have hwl:=wRows_len x n i
  by_cases hb:i<x.rows.length
  ·have hg0:x.rows.getD i []=x.rows[i]:=by simp [hb]
   have hws:=wRows_succ x n i
   rw [hg0] at hws
   have hcl:=hc x.rows[i] (List.getElem_mem hb)
   obtain ⟨cs,hcs⟩:∃cs,cs=x.rows[i]:=⟨_,rfl⟩
   rw [←hcs] at hws hcl
   have hcs':=hcs.symm
   have hp0:0≤(i:Int)*(1+g):=Int.mul_nonneg (by omega) (by omega)
   have hp1:(i:Int)*(1+g)≤i*3:=Int.mul_le_mul_of_nonneg_left (by omega) (by omega)
   have hw3:IntKind.i64.wrap ((i:Int)*(1+g))=(i:Int)*(1+g):=wrap64 (by omega) (by omega)
   have hw4:IntKind.i64.wrap (1+(i:Int)*(1+g))=1+(i:Int)*(1+g):=wrap64 (by omega) (by omega)
   have hrow:wRow x.gap cs n i=⟨1+(i:Int)*(1+g),wVals cs n⟩:=by rw [hge]; rfl
   rw [hrow] at hws
   obtain ⟨id,hid⟩:∃id,id=1+(i:Int)*(1+g):=⟨_,rfl⟩
   rw [←hid] at hws hw4
   have hw5:IntKind.i64.wrap (1+(i:Int)*(1+g))=id:=by rw [←hid]; exact hw4
   refine W_x (tok_flag tok (fun t=>t == 22)) mixed ?_
   simp -implicitDefEqProofs -dsimp [hb,hgs,hw1,hw2,hw3,hw5,flagT]
   refine lw_of (W_ownC 132 3 [] 4 [1] rfl (lfL_own _ _) (by simp) (W_loopM 60 [8,9,32,33,34,35,36,37,38,39,40,41,42,43,44,45,46,47,48,49,50,51,52,53,54,55,56,57,58,59] (by simp [mB]<;>rfl) (σ:=Nat) (fun k=>k≤n) (fun k=>n - k) (fun k=>[(8,.int .i64 k)]) (fun k=>[B.cells [.int .u8 x.a,.int .u8 x.gap,.lst 1 f (x.rows.map LU)],B.cells [.str ByteArray.empty,.nilS,.nilS],B.cells [.str ⟨#[114]⟩,.lst 1 false (List.take n (L8.map V.str)),.buf 3 0 i i],B.buf 97 2 ((wRows x n i).map encRw) false,B.cells [.int .i64 id,.buf 5 0 k k],B.buf 132 3 ((wVals cs k).map encV) false]) 0 (by omega) (by simp) (by simp [wVals]) (by simp) ?_))
   intro k hk N2 Q2 hN2 hQ2
   have hvl:=wVals_len cs k
   have hvs:=wVals_succ cs k
   by_cases hkb:k<n
   ·by_cases hkc:k<cs.length
    ·have hg1:cs.getD k 0=cs[k]:=by simp [hkc]
     rw [hg1] at hvs
     have hco:=of01 cs[k]
     refine W_x (tok_flag tok (fun t=>t == 22)) mixed ?_
     simp -implicitDefEqProofs -dsimp [hkb,hb,LU,hcs',hkc,encU,flagT]
     refine lw_of (W_drawT (tok_flag tok (fun t=>t == 22)) mixed [5,7] [] [(encV (ofC cs[k]),[])] (by kernel_rfl) fun C K hC hK=>?_)
     simp -implicitDefEqProofs [cap32 k (by omega),hvl,encV,flagT]
     refine ⟨hC _ _ _ _ (callP hco (by simp)),hK _ _ ?_⟩
     simp -implicitDefEqProofs -dsimp [wrapS k (by omega),flagT]
     refine hN2 (k+1) _ _ (by omega) (by omega) ?_ ⟨[],?_⟩ ?_ ?_<;>simp [or_imp,forall_and,L1,encI,hvs,LS,encV,encRw,LV]
    ·have hg1:cs.getD k 0=0:=by simp [hkc]
     rw [hg1] at hvs
     have hco:=of01 0
     refine W_x (tok_flag tok (fun t=>t == 22)) mixed ?_
     simp -implicitDefEqProofs -dsimp [hkb,hb,LU,hcs',hkc,encU,flagT]
     refine lw_of (W_drawT (tok_flag tok (fun t=>t == 22)) mixed [5,7] [] [(encV (ofC 0),[])] (by kernel_rfl) fun C K hC hK=>?_)
     simp -implicitDefEqProofs [cap32 k (by omega),hvl,encV,flagT]
     refine ⟨hC _ _ _ _ (callP hco (by simp)),hK _ _ ?_⟩
     simp -implicitDefEqProofs -dsimp [wrapS k (by omega),flagT]
     refine hN2 (k+1) _ _ (by omega) (by omega) ?_ ⟨[],?_⟩ ?_ ?_<;>simp [or_imp,forall_and,L1,encI,hvs,LS,encV,encRw,LV]
   ·obtain rfl:k=n:=by omega
    refine W_frzC 5 [] 4 [1] rfl rfl (by simp) (by simp [hvl]) ?_
    refine W_x (tok_flag tok (fun t=>t == 22)) mixed ?_
    simp -implicitDefEqProofs -dsimp [hkb,flagT]
    refine hQ2 _ _ _ ?_
    simp -implicitDefEqProofs -dsimp [hwl,cap32 i (by omega),wrapS i (by omega),flagT]
    refine hN (i+1) _ _ (by omega) (by omega) ?_ ⟨[B.cells [.int .i64 id,LV false (wVals cs k)],B.buf 132 3 ((wVals cs k).map encV) true],?_⟩ ?_ ?_<;>simp [or_imp,forall_and,L1,encI,hws,encRw,LV]
  ·obtain rfl:i=x.rows.length:=by omega
   refine W_frzC 3 [] 2 [2] rfl rfl (by simp) (by simp [hwl]) ?_
   refine W_x (tok_flag tok (fun t=>t == 22)) mixed ?_
   simp -implicitDefEqProofs -dsimp [hb,flagT]
   refine hQ _ _ _ ?_
   simp -implicitDefEqProofs -dsimp [flagT]
   simp only [encTb,wideT,LS,LR,List.map_take]
theorem nanInt (x:Int):ConP Tryz.prog 219 [.int .i64 x] fun r=>r = .bool false:=by
 refine conP_of_conH (conH_of_W tok Tryz.func219 rfl rfl ?_)
 refine wx ?_
 simp -implicitDefEqProofs -dsimp [Tryz.f219,List.replicate]
theorem cmpInt (x y:Int):ConP Tryz.prog 213 [.int .i64 x,.int .i64 y] fun r=>r = .int .i64 (cmpI x y):=by
 refine conP_of_conH (conH_of_W tok Tryz.func213 rfl rfl ?_)
 refine wx ?_
 simp -implicitDefEqProofs -dsimp [Tryz.f213,List.replicate]
 refine (callP (nanInt x) (by simp)).mono ?_
 rintro r H' ⟨rfl,rfl⟩
 simp -implicitDefEqProofs -dsimp []
 refine (callP (nanInt y) (by simp)).mono ?_
 rintro r H' ⟨rfl,rfl⟩
 simp -implicitDefEqProofs -dsimp []
 unfold cmpI
 split
 ·rfl
 ·split<;>rfl
theorem sign01 (x y:Int):ConP Tryz.prog 207 [.int .i64 x,.int .i64 y] fun r=>r = .int .i64 (cmpI x y):=by
 refine conP_of_conH (conH_of_W tok Tryz.func207 rfl rfl ?_)
 refine wx ?_
 simp -implicitDefEqProofs -dsimp [Tryz.f207,List.replicate]
 unfold cmpI
 split
 ·rfl
 ·split<;>rfl
theorem cmpS_drop (a b:ByteArray) (i:Nat) (ha:i<a.size) (hb:i<b.size):Lib.compareBytes (a.data.toList.drop i) (b.data.toList.drop i)=if a[i]<b[i] then -1 else if b[i]<a[i] then 1 else Lib.compareBytes (a.data.toList.drop (i+1)) (b.data.toList.drop (i+1)):=by
 have h1:i<a.data.toList.length:=by rw [ba_len]; exact ha
 have h2:i<b.data.toList.length:=by rw [ba_len]; exact hb
 rw [List.drop_eq_getElem_cons h1,List.drop_eq_getElem_cons h2,Lib.compareBytes]
 rfl
theorem cmpS_end (a b:ByteArray) (i:Nat) (hi:i≤a.size) (hj:i≤b.size) (h:¬(i<a.size∧i<b.size)):Lib.compareBytes (a.data.toList.drop i) (b.data.toList.drop i)=cmpI a.size b.size:=by
 have l1:=ba_len a
 have l2:=ba_len b
 by_cases h1:i<a.size
 ·have h2:i=b.size:=by omega
  have h3:i<a.data.toList.length:=by omega
  rw [List.drop_eq_getElem_cons h3,List.drop_of_length_le (l:=b.data.toList) (by omega),Lib.compareBytes]
  unfold cmpI
  rw [if_neg (by omega),if_pos (by omega)]
 ·rw [List.drop_of_length_le (l:=a.data.toList) (by omega)]
  by_cases h2:i<b.size
  ·have h3:i<b.data.toList.length:=by omega
   rw [List.drop_eq_getElem_cons h3,Lib.compareBytes]
   unfold cmpI
   rw [if_pos (by omega)]
  ·rw [List.drop_of_length_le (l:=b.data.toList) (by omega),Lib.compareBytes]
   unfold cmpI
   rw [if_neg (by omega),if_neg (by omega)]
theorem strings01 (a b:ByteArray) (ha:a.size≤maxLen):ConP Tryz.prog 208 [.str a,.str b] fun r=>r = .int .i64 (cmpS a b):=by
 refine conP_of_conH (conH_of_W tok Tryz.func208 rfl rfl ?_)
 refine wx ?_
 simp -implicitDefEqProofs -dsimp [Tryz.f208,List.replicate]
 refine lw_of (W_loopM 34 [4,5,6,7,8,9,10,11,12,13,14,15,16,17,18,19,20,21,22,23,24,25,26,27,28,29,30,31,32,33] (by simp [mB]<;>rfl) (σ:=Nat) (fun i=>i≤a.size∧i≤b.size∧Lib.compareBytes (a.data.toList.drop i) (b.data.toList.drop i)=cmpS a b) (fun i=>a.size - i) (fun i=>[(5,.int .i64 i)]) (fun _=>[]) 0 ⟨by omega,by omega,rfl⟩ (by simp) rfl (by simp) ?_)
 rintro i ⟨hi,hj,hx⟩ N Q hN hQ
 by_cases h:i<a.size∧i<b.size
 ·obtain ⟨h1,h2⟩:=h
  rw [cmpS_drop a b i h1 h2] at hx
  obtain ⟨x1,x2⟩:=byteAt_in h1
  obtain ⟨y1,y2⟩:=byteAt_in h2
  by_cases hq:byteAt a i=byteAt b i
  ·have e1:¬a[i]<b[i]:=fun h=>by have:=UInt8.lt_iff_toNat_lt.1 h; omega
   have e2:¬b[i]<a[i]:=fun h=>by have:=UInt8.lt_iff_toNat_lt.1 h; omega
   rw [if_neg e1,if_neg e2] at hx
   refine wx ?_
   simp -implicitDefEqProofs -dsimp [h1,h2,x1,y1,x2,y2,hq]
   refine .inr ⟨stop_of (by kernel_rfl),?_⟩
   simp -implicitDefEqProofs -dsimp [wrapS i (by unfold maxLen at ha; omega)]
   refine hN (i+1) _ _ ⟨by omega,by omega,hx⟩ (by omega) ?_ ⟨[],?_⟩ ?_ ?_<;>simp [or_imp,forall_and,L1,encI]
  ·have hs:cmpI (byteAt a i) (byteAt b i)=cmpS a b:=by
    rw [←hx,←x2,←y2]
    unfold cmpI
    by_cases e1:a[i]<b[i]
    ·have e1':(a[i].toNat:Int)<b[i].toNat:=by have:=UInt8.lt_iff_toNat_lt.1 e1; omega
     rw [if_pos e1,if_pos e1']
    ·have e1':¬((a[i].toNat:Int)<b[i].toNat):=fun h=>e1 (UInt8.lt_iff_toNat_lt.2 (by omega))
     have e2:b[i]<a[i]:=UInt8.lt_iff_toNat_lt.2 (by omega)
     have e2':(b[i].toNat:Int)<a[i].toNat:=by have:=UInt8.lt_iff_toNat_lt.1 e2; omega
     rw [if_neg e1,if_neg e1',if_pos e2,if_pos e2']
   have hw1:IntKind.i64.wrap (byteAt a i)=byteAt a i:=by rw [←x2]; exact wrap64 (by omega) (by have:=UInt8.toNat_lt a[i]; omega)
   have hw2:IntKind.i64.wrap (byteAt b i)=byteAt b i:=by rw [←y2]; exact wrap64 (by omega) (by have:=UInt8.toNat_lt b[i]; omega)
   have hc:=sign01 (byteAt a i) (byteAt b i)
   refine wx ?_
   simp -implicitDefEqProofs -dsimp [h1,h2,x1,y1,x2,y2,hq]
   refine .inr ⟨stop_of (by kernel_rfl),?_⟩
   simp -implicitDefEqProofs -dsimp [h1,h2,x1,y1,x2,y2,hw1,hw2]
   refine .inr ⟨stop_of (by kernel_rfl),?_⟩
   refine cy_of _ (callP (hc) (by simp)) ?_
   simp -implicitDefEqProofs -dsimp []
   refine hQ _ _ _ ?_
   simp -implicitDefEqProofs -dsimp []
   exact hs
 ·rw [cmpS_end a b i hi hj h] at hx
  have hc:=sign01 a.size b.size
  by_cases h1:i<a.size
  ·have h2:¬i<b.size:=fun h2=>h ⟨h1,h2⟩
   refine wx ?_
   simp -implicitDefEqProofs -dsimp [h1,h2]
   refine hQ _ _ _ ?_
   simp -implicitDefEqProofs -dsimp []
   refine (callP (hc) (by simp)).mono ?_
   rintro r H' ⟨rfl,rfl⟩
   simp -implicitDefEqProofs -dsimp []
   exact hx
  ·refine wx ?_
   simp -implicitDefEqProofs -dsimp [h1]
   refine hQ _ _ _ ?_
   simp -implicitDefEqProofs -dsimp []
   refine (callP (hc) (by simp)).mono ?_
   rintro r H' ⟨rfl,rfl⟩
   simp -implicitDefEqProofs -dsimp []
   exact hx
def cmpV (a b:Vl):Int:=if cmpI a.k b.k=0 then (if cmpI a.n b.n=0 then cmpS a.s b.s else cmpI a.n b.n) else cmpI a.k b.k
theorem compare01 (a b:Vl) (ha:a.s.size≤maxLen):ConP Tryz.prog 182 [encV a,encV b] fun r=>r = .int .i64 (cmpV a b):=by
 have hc1:=sign01 a.k b.k
 have hc2:=sign01 a.n b.n
 have hc3:=strings01 a.s b.s ha
 unfold cmpV
 by_cases h1:cmpI a.k b.k=0
 ·by_cases h2:cmpI a.n b.n=0
  ·rw [if_pos h1,if_pos h2]
   refine conP_of_conH (conH_of_W tok Tryz.func182 rfl rfl ?_)
   refine wx ?_
   simp -implicitDefEqProofs -dsimp [Tryz.f182,List.replicate,encV]
   refine (callP (hc1) (by simp)).mono ?_
   rintro r H' ⟨rfl,rfl⟩
   simp -implicitDefEqProofs -dsimp [h1]
   refine (callP (hc2) (by simp)).mono ?_
   rintro r H' ⟨rfl,rfl⟩
   simp -implicitDefEqProofs -dsimp [h2]
   refine (callP (hc3) (by simp)).mono ?_
   rintro r H' ⟨rfl,rfl⟩
   simp -implicitDefEqProofs -dsimp []
  ·rw [if_pos h1,if_neg h2]
   refine conP_of_conH (conH_of_W tok Tryz.func182 rfl rfl ?_)
   refine wx ?_
   simp -implicitDefEqProofs -dsimp [Tryz.f182,List.replicate,encV]
   refine (callP (hc1) (by simp)).mono ?_
   rintro r H' ⟨rfl,rfl⟩
   simp -implicitDefEqProofs -dsimp [h1]
   refine (callP (hc2) (by simp)).mono ?_
   rintro r H' ⟨rfl,rfl⟩
   simp -implicitDefEqProofs -dsimp [h2]
 ·rw [if_neg h1]
  refine conP_of_conH (conH_of_W tok Tryz.func182 rfl rfl ?_)
  refine wx ?_
  simp -implicitDefEqProofs -dsimp [Tryz.f182,List.replicate,encV]
  refine (callP (hc1) (by simp)).mono ?_
  rintro r H' ⟨rfl,rfl⟩
  simp -implicitDefEqProofs -dsimp [h1]
def cmpVs:List Vl→List Vl→Int
 | [],[]=>0
 | [],_::_=>-1
 | _::_,[]=>1
 | x::xs,y::ys=>if cmpV x y=0 then cmpVs xs ys else cmpV x y
theorem cmpVs_end (us bs:List Vl) (i:Nat) (h1:i≤us.length) (h2:i≤bs.length) (h:¬(i<us.length∧i<bs.length)):cmpVs (us.drop i) (bs.drop i)=cmpI us.length bs.length:=by
 unfold cmpI
 by_cases ha:i<us.length
 ·rw [List.drop_eq_getElem_cons ha,List.drop_of_length_le (l:=bs) (by omega),cmpVs,if_neg (by omega),if_pos (by omega)]
 ·rw [List.drop_of_length_le (l:=us) (by omega)]
  by_cases hb:i<bs.length
  ·rw [List.drop_eq_getElem_cons hb,cmpVs,if_pos (by omega)]
  ·rw [List.drop_of_length_le (l:=bs) (by omega),cmpVs,if_neg (by omega),if_neg (by omega)]
theorem lists01 (us bs:List Vl) (f g:Bool) (hl:us.length≤1000000) (hs:∀v∈us,v.s.size≤maxLen):ConP Tryz.prog 206 [LV f us,LV g bs] fun r=>r = .int .i64 (cmpVs us bs):=by
 obtain ⟨E,hE⟩:∃E,E=cmpVs us bs:=⟨_,rfl⟩
 rw [←hE]
 refine conP_of_conH (conH_of_W tok Tryz.func206 rfl rfl ?_)
 refine wx ?_
 simp -implicitDefEqProofs -dsimp [Tryz.f206,List.replicate,LV]
 refine lw_of (W_loopM 31 [4,5,6,7,8,9,10,11,12,13,14,15,16,17,18,19,20,21,22,23,24,25,26,27,28,29,30] (by simp [mB]<;>rfl) (σ:=Nat) (fun i=>i≤us.length∧i≤bs.length∧cmpVs (us.drop i) (bs.drop i)=E) (fun i=>us.length - i) (fun i=>[(5,.int .i64 i)]) (fun _=>[]) 0 ⟨by omega,by omega,hE.symm⟩ (by simp) rfl (by simp) ?_)
 rintro i ⟨hi,hj,hx⟩ N Q hN hQ
 by_cases h:i<us.length∧i<bs.length
 ·obtain ⟨h1,h2⟩:=h
  have hc:=compare01 us[i] bs[i] (hs _ (List.getElem_mem h1))
  simp only [encV] at hc
  rw [List.drop_eq_getElem_cons h1,List.drop_eq_getElem_cons h2,cmpVs] at hx
  by_cases h3:cmpV us[i] bs[i]=0
  ·rw [if_pos h3] at hx
   refine wx ?_
   simp -implicitDefEqProofs -dsimp [h1,h2,encV]
   refine .inr ⟨stop_of (by kernel_rfl),?_⟩
   refine cy_of _ (callP (hc) (by simp)) ?_
   simp -implicitDefEqProofs -dsimp [h3,wrapS i (by omega)]
   refine hN (i+1) _ _ ⟨by omega,by omega,hx⟩ (by omega) ?_ ⟨[],?_⟩ ?_ ?_<;>simp [or_imp,forall_and,L1,encI]
  ·rw [if_neg h3] at hx
   refine wx ?_
   simp -implicitDefEqProofs -dsimp [h1,h2,encV]
   refine .inr ⟨stop_of (by kernel_rfl),?_⟩
   refine cy_of _ (callP (hc) (by simp)) ?_
   simp -implicitDefEqProofs -dsimp [h3]
   refine hQ _ _ _ ?_
   simp -implicitDefEqProofs -dsimp []
   exact hx
 ·rw [cmpVs_end us bs i hi hj h] at hx
  have hc:=sign01 us.length bs.length
  by_cases h1:i<us.length
  ·have h2:¬i<bs.length:=fun h2=>h ⟨h1,h2⟩
   refine wx ?_
   simp -implicitDefEqProofs -dsimp [h1,h2]
   refine hQ _ _ _ ?_
   simp -implicitDefEqProofs -dsimp []
   refine (callP (hc) (by simp)).mono ?_
   rintro r H' ⟨rfl,rfl⟩
   simp -implicitDefEqProofs -dsimp []
   exact hx
  ·refine wx ?_
   simp -implicitDefEqProofs -dsimp [h1]
   refine hQ _ _ _ ?_
   simp -implicitDefEqProofs -dsimp []
   refine (callP (hc) (by simp)).mono ?_
   rintro r H' ⟨rfl,rfl⟩
   simp -implicitDefEqProofs -dsimp []
   exact hx
theorem same01 (us bs:List Vl) (f g:Bool) (hl:us.length≤1000000) (hs:∀v∈us,v.s.size≤maxLen):ConP Tryz.prog 178 [LV f us,LV g bs] fun r=>r = .bool (cmpVs us bs == 0):=by
 have hc:=lists01 us bs f g hl hs
 refine conP_of_conH (conH_of_W tok Tryz.func178 rfl rfl ?_)
 refine wx ?_
 simp -implicitDefEqProofs -dsimp [Tryz.f178,List.replicate]
 refine (callP (hc) (by simp)).mono ?_
 rintro r H' ⟨rfl,rfl⟩
 simp -implicitDefEqProofs -dsimp []
def orI:List Int→Int
 | []=>0
 | x::xs=>if x=0 then orI xs else x
theorem orInt (xs:List Int) (f:Bool) (hl:xs.length≤1000000):ConP Tryz.prog 212 [L1 f xs] fun r=>r = .int .i64 (orI xs):=by
 obtain ⟨E,hE⟩:∃E,E=orI xs:=⟨_,rfl⟩
 rw [←hE]
 refine conP_of_conH (conH_of_W tok Tryz.func212 rfl rfl ?_)
 refine wx ?_
 simp -implicitDefEqProofs -dsimp [Tryz.f212,List.replicate,L1]
 refine lw_of (W_loopM 17 [2,5,8,9,10,11,12,13,14,15,16] (by simp [mB]<;>rfl) (σ:=Nat) (fun i=>orI (xs.drop i)=E) (fun i=>xs.length - i) (fun i=>[(8,.int .i64 i)]) (fun _=>[]) 0 hE.symm (by simp) rfl (by simp) ?_)
 intro i hx N Q hN hQ
 by_cases hb:i<xs.length
 ·rw [List.drop_eq_getElem_cons hb,orI] at hx
  by_cases h0:xs[i]=0
  ·rw [if_pos h0] at hx
   refine wx ?_
   simp -implicitDefEqProofs -dsimp [hb,encI,h0]
   simp -implicitDefEqProofs -dsimp [wrapS i (by omega)]
   refine hN (i+1) _ _ hx (by omega) (by simp) ⟨[],rfl⟩ (by simp [L1,encI]) (by simp)
  ·rw [if_neg h0] at hx
   refine wx ?_
   simp -implicitDefEqProofs -dsimp [hb,encI,h0]
   refine hQ _ _ _ ?_
   simp -implicitDefEqProofs -dsimp []
   exact hx
 ·rw [List.drop_of_length_le (by omega)] at hx
  refine wx ?_
  simp -implicitDefEqProofs -dsimp [hb]
  refine hQ _ _ _ ?_
  simp -implicitDefEqProofs -dsimp []
  exact hx
theorem stringsCompare (a b:ByteArray):ConP Tryz.prog 214 [.str a,.str b] fun r=>r = .int .i64 (cmpS a b):=by
 have hc:=cmp_con a b
 refine conP_of_conH (conH_of_W tok Tryz.func214 rfl rfl ?_)
 refine wx ?_
 simp -implicitDefEqProofs -dsimp [Tryz.f214,List.replicate]
 refine (callP (hc) (by simp)).mono ?_
 rintro r H' ⟨rfl,rfl⟩
 simp -implicitDefEqProofs -dsimp []
theorem valueCompare (a b:Vl):ConP Tryz.prog 190 [encV a,encV b] fun r=>r = .int .i64 (cmpV a b):=by
 have hc1:=cmpInt a.k b.k
 have hc2:=cmp64 a.n b.n
 have hc3:=stringsCompare a.s b.s
 have hc4:=orInt [cmpI a.k b.k,cmpI a.n b.n,cmpS a.s b.s] true (by simp)
 have he:orI [cmpI a.k b.k,cmpI a.n b.n,cmpS a.s b.s]=cmpV a b:=by
  unfold cmpV
  simp only [orI]
  split
  ·split
   ·split
    ·rename_i h; exact h.symm
    ·rfl
   ·rfl
  ·rfl
 rw [he] at hc4
 simp only [L1,List.map_cons,List.map_nil,encI] at hc4
 refine conP_of_conH (conH_of_W tok Tryz.func190 rfl rfl ?_)
 refine wx ?_
 simp -implicitDefEqProofs -dsimp [Tryz.f190,List.replicate,encV]
 refine .inr ⟨stop_of (by kernel_rfl),?_⟩
 refine cy_of _ (callP (hc1) (by simp)) ?_
 simp -implicitDefEqProofs -dsimp []
 refine cy_of _ (callP (hc2) (by simp)) ?_
 simp -implicitDefEqProofs -dsimp []
 refine cy_of _ (callP (hc3) (by simp)) ?_
 simp -implicitDefEqProofs -dsimp []
 refine cy_of _ (callP (hc4) (by simp)) ?_
 simp -implicitDefEqProofs -dsimp []
def vTo2 (vs:List Vl) (s:Int):Nat→List Vl
 | 0=>[]
 | i+1=>if hasB s i then vTo2 vs s i++[vs.getD i ⟨0,0,ByteArray.empty⟩] else vTo2 vs s i
def valsOf (vs:List Vl) (s:Int):List Vl:=vTo2 vs s vs.length
theorem vTo2_len (vs:List Vl) (s:Int):∀i,(vTo2 vs s i).length≤i
 | 0=>by simp [vTo2]
 | i+1=>by
  have:=vTo2_len vs s i
  simp only [vTo2]
  split
  ·simp; omega
  ·omega
theorem vTo2_mem (vs:List Vl) (s:Int):∀i,i≤vs.length→∀v∈vTo2 vs s i,v∈vs
 | 0,_,v,h=>by simp [vTo2] at h
 | i+1,hi,v,h=>by
  simp only [vTo2] at h
  split at h
  ·rcases List.mem_append.1 h with h | h
   ·exact vTo2_mem vs s i (by omega) v h
   ·simp only [List.mem_singleton] at h
    subst h
    have hb:i<vs.length:=by omega
    have:vs.getD i ⟨0,0,ByteArray.empty⟩=vs[i]:=by simp [hb]
    rw [this]
    exact List.getElem_mem hb
  ·exact vTo2_mem vs s i (by omega) v h
theorem values03 (r:Rw) (s:Int) (hl:r.vals.length≤31):ConP Tryz.prog 179 [encRw r,.int .u32 s] fun x=>x=LV false (valsOf r.vals s):=by
 refine conP_of_conH (conH_of_W tok Tryz.func179 rfl rfl ?_)
 refine wx ?_
 simp -implicitDefEqProofs -dsimp [Tryz.f179,List.replicate,encRw,LV]
 refine lw_of (W_own 132 3 [5] (by simp) (W_loopM 25 [5,6,7,8,9,10,11,12,13,14,15,16,17,18,19,20,21,22,23,24] (by simp [mB]<;>rfl) (σ:=Nat) (fun i=>i≤r.vals.length) (fun i=>r.vals.length - i) (fun i=>[(6,.int .i64 i),(5,.buf 1 0 (vTo2 r.vals s i).length (vTo2 r.vals s i).length)]) (fun i=>[B.cells [.int .i64 r.id,.lst 3 false (r.vals.map encV)],B.buf 132 3 ((vTo2 r.vals s i).map encV) false]) 0 (by omega) (by simp [vTo2]) (by simp [vTo2]) (by simp) ?_))
 intro i hi N Q hN hQ
 have hvl:=vTo2_len r.vals s i
 by_cases hb:i<r.vals.length
 ·have hst:vTo2 r.vals s (i+1)=if hasB s i then vTo2 r.vals s i++[r.vals[i]] else vTo2 r.vals s i:=by simp [vTo2,hb]
  have hc:=has02 s i (by omega)
  cases hh:hasB s i
  ·rw [hh] at hc hst
   refine wx ?_
   simp -implicitDefEqProofs -dsimp [hb]
   refine (callP (hc) (by simp)).mono ?_
   rintro r H' ⟨rfl,rfl⟩
   simp -implicitDefEqProofs -dsimp [wrapS i (by omega)]
   refine hN (i+1) _ _ (by omega) (by omega) ?_ ⟨[],?_⟩ ?_ ?_<;>simp [or_imp,forall_and,L1,encI,hst,encV]
  ·rw [hh] at hc hst
   refine wx ?_
   simp -implicitDefEqProofs -dsimp [hb]
   refine (callP (hc) (by simp)).mono ?_
   rintro r H' ⟨rfl,rfl⟩
   simp -implicitDefEqProofs -dsimp [hb,encV,cap32 (vTo2 r.vals s i).length (by omega),wrapS i (by omega)]
   refine hN (i+1) _ _ (by omega) (by omega) ?_ ⟨[],?_⟩ ?_ ?_<;>simp [or_imp,forall_and,L1,encI,hst,encV]
 ·obtain rfl:i=r.vals.length:=by omega
  refine wx ?_
  simp -implicitDefEqProofs -dsimp [hb]
  refine hQ _ _ _ ?_
  simp -implicitDefEqProofs -dsimp []
  exact exp_buf rfl (by simp [valsOf]) (by simp)
def agreeR (a b:Rw) (s:Int):Bool:=cmpVs (valsOf a.vals s) (valsOf b.vals s) == 0
theorem agree03 (a b:Rw) (s:Int) (hl:a.vals.length≤31) (hl2:b.vals.length≤31) (hs:∀v∈a.vals,v.s.size≤maxLen):ConP Tryz.prog 139 [encRw a,encRw b,.int .u32 s] fun x=>x = .bool (agreeR a b s):=by
 have hc1:=values03 a s hl
 have hc2:=values03 b s hl2
 have h1:=vTo2_len a.vals s a.vals.length
 have hc3:=same01 (valsOf a.vals s) (valsOf b.vals s) false false (by unfold valsOf; omega) (fun v hv=>hs v (vTo2_mem _ _ _ (Nat.le_refl _) v hv))
 simp only [encRw,LV] at hc1 hc2 hc3
 refine conP_of_conH (conH_of_W tok Tryz.func139 rfl rfl ?_)
 refine wx ?_
 simp -implicitDefEqProofs -dsimp [Tryz.f139,List.replicate,encRw,LV]
 refine .inr ⟨stop_of (by kernel_rfl),?_⟩
 refine cy_of _ (callP (hc1) (by simp)) ?_
 simp -implicitDefEqProofs -dsimp []
 refine cy_of _ (callP (hc2) (by simp)) ?_
 simp -implicitDefEqProofs -dsimp []
 refine cy_of _ (callP (hc3) (by simp)) ?_
 simp -implicitDefEqProofs -dsimp []
 rfl
theorem cmpI_eq (x y:Int):cmpI x y=0↔x=y:=by
 unfold cmpI; split
 ·simp; omega
 ·split<;>simp<;>omega
theorem cmpB_zero:∀(a b:List UInt8),Lib.compareBytes a b=0↔a=b
 | [],[]=>by simp [Lib.compareBytes]
 | [],_::_=>by simp [Lib.compareBytes]
 | _::_,[]=>by simp [Lib.compareBytes]
 | a::xs,b::bs=>by
  rw [Lib.compareBytes,List.cons.injEq]
  split
  ·rename_i h
   constructor
   ·intro h2; cases h2
   ·rintro ⟨rfl,_⟩; exact absurd h (UInt8.lt_irrefl _)
  ·split
   ·rename_i h
    constructor
    ·intro h2; cases h2
    ·rintro ⟨rfl,_⟩; exact absurd h (UInt8.lt_irrefl _)
   ·rename_i h1 h2
    rw [cmpB_zero xs bs]
    constructor
    ·intro h; exact ⟨UInt8.le_antisymm (UInt8.not_lt.1 h2) (UInt8.not_lt.1 h1),h⟩
    ·exact fun h=>h.2
theorem cmpS_zero (a b:ByteArray):cmpS a b=0↔a=b:=by
 unfold cmpS
 rw [cmpB_zero]
 constructor
 ·intro h
  cases a; cases b
  simp only [ByteArray.mk.injEq]
  exact Array.ext' h
 ·rintro rfl; rfl
theorem cmpV_zero (a b:Vl):cmpV a b=0↔a=b:=by
 unfold cmpV
 have h1:=cmpI_eq a.k b.k
 have h2:=cmpI_eq a.n b.n
 have h3:=cmpS_zero a.s b.s
 have he:a=b↔a.k=b.k∧a.n=b.n∧a.s=b.s:=by cases a; cases b; simp
 rw [he]
 split
 ·rename_i g1
  split
  ·rename_i g2
   rw [h3]
   exact ⟨fun h=>⟨h1.1 g1,h2.1 g2,h⟩,fun h=>h.2.2⟩
  ·rename_i g2
   exact ⟨fun h=>absurd h g2,fun h=>absurd (h2.2 h.2.1) g2⟩
 ·rename_i g1
  exact ⟨fun h=>absurd h g1,fun h=>absurd (h1.2 h.1) g1⟩
def vAt (vs:List Vl) (a:Nat):Vl:=vs.getD a ⟨0,0,ByteArray.empty⟩
theorem vAt_in {vs:List Vl} {i:Nat} (h:i<vs.length):vAt vs i=vs[i]:=by simp [vAt,h]
theorem vTo2_eq {us vs:List Vl} {s:Int} : ∀{i:Nat},vTo2 us s i=vTo2 vs s i↔∀k,k<i→hasB s k=true→vAt us k=vAt vs k
 | 0=>by simp [vTo2]
 | i+1=>by
  have ih:=vTo2_eq (us:=us) (vs:=vs) (s:=s) (i:=i)
  simp only [vTo2]
  cases hb:hasB s i with
  | true =>
   simp only [if_true]
   constructor
   ·intro h
    obtain ⟨h1,h2⟩:=List.append_inj' h rfl
    intro k hk hs
    rcases Nat.lt_or_ge k i with e | e
    ·exact ih.1 h1 k e hs
    ·have:k=i:=by omega
     subst this
     exact List.cons.inj h2 |>.1
   ·intro h
    rw [ih.2 (fun k hk hs=>h k (by omega) hs)]
    have:=h i (by omega) hb
    unfold vAt at this
    rw [this]
  | false =>
   simp only [Bool.false_eq_true,if_false]
   rw [ih]
   constructor
   ·intro h k hk hs
    rcases Nat.lt_or_ge k i with e | e
    ·exact h k e hs
    ·have:k=i:=by omega
     subst this; rw [hb] at hs; cases hs
   ·intro h k hk hs; exact h k (by omega) hs
theorem cmpVs_zero:∀{us vs:List Vl},cmpVs us vs=0↔us=vs
 | [],[]=>by simp [cmpVs]
 | [],_::_=>by simp [cmpVs]
 | _::_,[]=>by simp [cmpVs]
 | u::us,v::vs=>by
  rw [cmpVs,List.cons.injEq]
  have h1:=cmpV_zero u v
  have h2:=cmpVs_zero (us:=us) (vs:=vs)
  split
  ·rename_i h
   rw [h2]
   exact ⟨fun h3=>⟨h1.1 h,h3⟩,fun h3=>h3.2⟩
  ·rename_i h
   exact ⟨fun h3=>absurd h3 h,fun h3=>absurd (h1.2 h3.1) h⟩
theorem agreeR_iff {a b:Rw} {s:Int} (h:a.vals.length=b.vals.length):agreeR a b s=true↔∀k,k<a.vals.length→hasB s k=true→vAt a.vals k=vAt b.vals k:=by
 unfold agreeR valsOf
 rw [beq_iff_eq,cmpVs_zero,←h]
 exact vTo2_eq
def ok1 (vs:List Int) (es:List (List Int)) (i:Nat):Bool:=!((eAt es i).length == 0)&&asc (eAt es i)&&contB vs (eAt es i)&&!(decide (0<i)&&decide (0≤cmpL (eAt es (i - 1)) (eAt es i)))
def ok2 (es:List (List Int)) (i k:Nat):Bool:=i == k||!contB (eAt es i) (eAt es k)
def valC (vs:List Int) (es:List (List Int)):Bool:=asc vs&&decide (es.length≤20000)&&((List.range es.length).all fun i=>ok1 vs es i)&&(List.range es.length).all fun i=>(List.range es.length).all fun k=>ok2 es i k
theorem all_no {p:Nat→Bool} {n i:Nat} (h:i<n) (hp:p i=false):(List.range n).all p=false:=by
 rw [Bool.eq_false_iff]; intro ha
 have:=List.all_eq_true.1 ha i (by simpa using h)
 rw [hp] at this; cases this
theorem all_yes {p:Nat→Bool} {n:Nat} (h:∀i,i<n→p i=true):(List.range n).all p=true:=List.all_eq_true.2 fun i hi=>h i (by simpa using hi)
theorem valid_c (vs:List Int) (es:List (List Int)) (f g:Bool) (hs:Small vs es):ConP Tryz.prog 28 [encH f g vs es] fun r=>r = .bool (valC vs es):=by
 obtain ⟨hv,he,hes⟩:=hs
 refine conP_of_conH (conH_of_W tok Tryz.func28 rfl rfl ?_)
 refine wx ?_
 simp -implicitDefEqProofs -dsimp [Tryz.f28,List.replicate,encH,LL]
 refine (callP (asc_c vs f hv) (by simp)).mono ?_
 rintro r H' ⟨rfl,rfl⟩
 cases ha:asc vs
 ·simp -implicitDefEqProofs -dsimp []
  simp [valC,ha]
 by_cases hn:20000<es.length
 ·simp -implicitDefEqProofs -dsimp [LL,show ¬((es.length:Int)≤20000) by omega,show (20000:Int)<es.length by omega]
  simp [valC,show ¬es.length≤20000 by omega]
 simp -implicitDefEqProofs -dsimp [LL,show (es.length:Int)≤20000 by omega,show ¬((20000:Int)<es.length) by omega]
 refine lw_of (W_loopG [2,3,4,22,23,24,25,26,27,28,29,30,31,32,33,34,35,36,37,38,39,40,41,42,43,44,45,46,47,48,49,50,51,52,53,54,55,56,57] (σ:=Nat) (fun i=>i≤es.length∧∀j,j<i→ok1 vs es j=true) (fun i=>es.length - i) (fun i=>[(22,.int .i64 i)]) (fun _=>[B.cells [L1 f vs,LL g es]]) 0 ⟨by omega,by simp⟩ (by simp) rfl (by simp) ?_)
 rintro i ⟨h1,h2⟩
 by_cases hb:i<es.length
 ·have hei:=hes es[i] (List.getElem_mem hb)
  have hd:=getD_at hb
  have bad:ok1 vs es i=false→valC vs es=false:=fun h=>by simp [valC,all_no hb h]
  by_cases h0:es[i].length=0
  ·refine wx ?_
   simp -implicitDefEqProofs -dsimp [LL,L1,hb,h0]
   exact bad (by simp [ok1,hd,h0])
  ·have h0':((es[i].length:Int) == 0)=false:=by simpa using h0
   cases h3:asc es[i]
   ·have hc:=asc_c es[i] false hei
    rw [h3] at hc
    refine wx ?_
    simp -implicitDefEqProofs -dsimp [LL,L1,hb,h0]
    refine (callP (hc) (by simp)).mono ?_
    rintro r H' ⟨rfl,rfl⟩
    simp -implicitDefEqProofs -dsimp [hb,h0]
    exact bad (by simp [ok1,hd,h3])
   ·have hc:=asc_c es[i] false hei
    rw [h3] at hc
    cases h4:contB vs es[i]
    ·have hc2:=cont_c vs es[i] f false hv hei
     rw [h4] at hc2
     refine wx ?_
     simp -implicitDefEqProofs -dsimp [LL,L1,hb,h0]
     refine (callP (hc) (by simp)).mono ?_
     rintro r H' ⟨rfl,rfl⟩
     simp -implicitDefEqProofs -dsimp [hb,h0]
     refine (callP (hc2) (by simp)).mono ?_
     rintro r H' ⟨rfl,rfl⟩
     simp -implicitDefEqProofs -dsimp [hb,h0]
     exact bad (by simp [ok1,hd,h4])
    ·have hc2:=cont_c vs es[i] f false hv hei
     rw [h4] at hc2
     by_cases h5:0<i
     ·have hb1:i - 1<es.length:=by omega
      have hc3:=cmpL64 es[i - 1] es[i] false false (hes _ (List.getElem_mem hb1)) hei
      have hd1:=getD_at hb1
      by_cases h6:0≤cmpL es[i - 1] es[i]
      ·refine wx ?_
       simp -implicitDefEqProofs -dsimp [LL,L1,hb,h0]
       refine (callP (hc) (by simp)).mono ?_
       rintro r H' ⟨rfl,rfl⟩
       simp -implicitDefEqProofs -dsimp [hb,h0]
       refine (callP (hc2) (by simp)).mono ?_
       rintro r H' ⟨rfl,rfl⟩
       simp -implicitDefEqProofs -dsimp [hb,h0,h5,wrapP i (by omega) h5,hb1]
       refine (callP (hc3) (by simp)).mono ?_
       rintro r H' ⟨rfl,rfl⟩
       simp -implicitDefEqProofs -dsimp [h6]
       exact bad (by simp [ok1,hd,hd1,h5,h6])
      ·refine wx ?_
       simp -implicitDefEqProofs -dsimp [LL,L1,hb,h0]
       refine (callP (hc) (by simp)).mono ?_
       rintro r H' ⟨rfl,rfl⟩
       simp -implicitDefEqProofs -dsimp [hb,h0]
       refine (callP (hc2) (by simp)).mono ?_
       rintro r H' ⟨rfl,rfl⟩
       simp -implicitDefEqProofs -dsimp [hb,h0,h5,wrapP i (by omega) h5,hb1]
       refine (callP (hc3) (by simp)).mono ?_
       rintro r H' ⟨rfl,rfl⟩
       simp -implicitDefEqProofs -dsimp [h6,wrapS i (by omega)]
       refine stop_of ?_
       refine ⟨i+1,⟨by omega,fun j hj=>by rcases Nat.lt_or_ge j i with h | h; exact h2 j h; (obtain rfl:j=i:=by omega); simp [ok1,hd,hd1,h0,h3,h4,h6]⟩,by omega,?_,⟨[],rfl⟩,?_,?_⟩<;>simp [L1,encI,LL]
     ·refine wx ?_
      simp -implicitDefEqProofs -dsimp [LL,L1,hb,h0]
      refine (callP (hc) (by simp)).mono ?_
      rintro r H' ⟨rfl,rfl⟩
      simp -implicitDefEqProofs -dsimp [hb,h0]
      refine (callP (hc2) (by simp)).mono ?_
      rintro r H' ⟨rfl,rfl⟩
      simp -implicitDefEqProofs -dsimp [hb,h0,h5,wrapS i (by omega)]
      refine stop_of ?_
      refine ⟨i+1,⟨by omega,fun j hj=>by rcases Nat.lt_or_ge j i with h | h; exact h2 j h; (obtain rfl:j=i:=by omega); simp [ok1,hd,h0,h3,h4,h5]⟩,by omega,?_,⟨[],rfl⟩,?_,?_⟩<;>simp [L1,encI,LL]
 obtain rfl:i=es.length:=by omega
 refine wx ?_
 simp -implicitDefEqProofs -dsimp [LL]
 have hall1:=all_yes h2
 refine lw_of (W_loopG [2,5,6,7,8,61,62,63,64,65,66,67,68,69,70,71,72,73,74,75,76,77,78,79,80,81,82,83] (σ:=Nat) (fun i=>i≤es.length∧∀j,j<i→((List.range es.length).all fun k=>ok2 es j k)=true) (fun i=>es.length - i) (fun i=>[(61,.int .i64 i)]) (fun _=>[B.cells [L1 f vs,LL g es]]) 0 ⟨by omega,by simp⟩ (by simp [LL]) rfl (by simp) ?_)
 rintro i ⟨h1,h3⟩
 by_cases hb:i<es.length
 ·have hei:=hes es[i] (List.getElem_mem hb)
  have hd:=getD_at hb
  refine wx ?_
  simp -implicitDefEqProofs -dsimp [LL,hb]
  refine lw_of (W_loopG [2,7,8,69,70,71,72,73,74,75,76,77,78,79,80,81,82] (σ:=Nat) (fun k=>k≤es.length∧∀j,j<k→ok2 es i j=true) (fun k=>es.length - k) (fun k=>[(69,.int .i64 k)]) (fun _=>[B.cells [L1 f vs,LL g es]]) 0 ⟨by omega,by simp⟩ (by simp [LL]) rfl (by simp) ?_)
  rintro k ⟨h4,h5⟩
  by_cases hk:k<es.length
  ·have hek:=hes es[k] (List.getElem_mem hk)
   have hdk:=getD_at hk
   by_cases hik:i=k
   ·subst hik
    refine wx ?_
    simp -implicitDefEqProofs -dsimp [LL,hb,wrapS i (by omega)]
    refine stop_of ?_
    refine ⟨i+1,⟨by omega,fun j hj=>by rcases Nat.lt_or_ge j i with h | h; exact h5 j h; (obtain rfl:j=i:=by omega); simp [ok2]⟩,by omega,?_,⟨[],rfl⟩,?_,?_⟩<;>simp [L1,encI,LL]
   ·have hc:=cont_c es[i] es[k] false false hei hek
    have hik2:¬((i:Int)=(k:Int)):=by omega
    cases h6:contB es[i] es[k]
    ·rw [h6] at hc
     refine wx ?_
     simp -implicitDefEqProofs -dsimp [LL,L1,hb,hk,hik,hik2]
     refine (callP (hc) (by simp)).mono ?_
     rintro r H' ⟨rfl,rfl⟩
     simp -implicitDefEqProofs -dsimp [wrapS k (by omega)]
     refine stop_of ?_
     refine ⟨k+1,⟨by omega,fun j hj=>by rcases Nat.lt_or_ge j k with h | h; exact h5 j h; (obtain rfl:j=k:=by omega); simp [ok2,hd,hdk,h6]⟩,by omega,?_,⟨[],rfl⟩,?_,?_⟩<;>simp [L1,encI,LL]
    ·rw [h6] at hc
     refine wx ?_
     simp -implicitDefEqProofs -dsimp [LL,L1,hb,hk,hik,hik2]
     refine (callP (hc) (by simp)).mono ?_
     rintro r H' ⟨rfl,rfl⟩
     simp -implicitDefEqProofs -dsimp [hik2]
     have hf:ok2 es i k=false:=by simp [ok2,hd,hdk,h6,hik]
     simp [valC,all_no (p:=fun i=>(List.range es.length).all fun k=>ok2 es i k) hb (all_no (p:=fun k=>ok2 es i k) hk hf)]
  ·obtain rfl:k=es.length:=by omega
   refine wx ?_
   simp -implicitDefEqProofs -dsimp [LL,hk,wrapS i (by omega)]
   refine stop_of ?_
   refine ⟨i+1,⟨by omega,fun j hj=>by rcases Nat.lt_or_ge j i with h | h; exact h3 j h; (obtain rfl:j=i:=by omega); exact all_yes h5⟩,by omega,?_,⟨[],rfl⟩,?_,?_⟩<;>simp [L1,encI,LL]
 ·obtain rfl:i=es.length:=by omega
  refine wx ?_
  simp -implicitDefEqProofs -dsimp [LL,hb]
  simp [valC,ha,hall1,all_yes h3,show es.length≤20000 by omega]
theorem ind_eq {vs:List Int} (hv:asc vs=true) (es:List (List Int)) (l:List Int):indC vs es l=indR vs es l:=by
 unfold indC indR freeR
 rw [contB_within hv]
 cases ha:asc l
 ·simp
 ·have h1:(fun m=>contB l m)=fun m=>within m l:=by funext m; exact contB_within ha m
  rw [h1]
  congr 1
  induction es with
  | nil=>rfl
  | cons e es ih=>simp only [List.any_cons,List.all_cons,Bool.not_or,ih]
theorem within_iff {a b:List Int} : within a b=true↔∀x∈a,x∈b:=by
 unfold within
 rw [List.all_eq_true]
 exact ⟨fun h x hx=>memB_iff.1 (h x hx),fun h x hx=>memB_iff.2 (h x hx)⟩
theorem lex_irr:∀a:List Int,lexLt a a=false
 | []=>rfl
 | x::xs=>by simp only [lexLt,if_true]; exact lex_irr xs
theorem lex_tri:∀a b:List Int,a≠b→lexLt a b=false→lexLt b a=true
 | [],[],h,_=>absurd rfl h
 | [],_::_,_,h=>by simp [lexLt] at h
 | _::_,[],_,_=>rfl
 | x::xs,y::ys,h,hl=>by
  simp only [lexLt] at hl ⊢
  by_cases hxy:x=y
  ·subst hxy
   rw [if_pos rfl] at hl ⊢
   exact lex_tri xs ys (fun e=>h (by rw [e])) hl
  ·rw [if_neg hxy] at hl
   rw [if_neg (fun e=>hxy e.symm)]
   simp only [decide_eq_false_iff_not] at hl
   simp only [decide_eq_true_eq]
   omega
theorem lex_trans:∀a b c:List Int,lexLt a b=true→lexLt b c=true→lexLt a c=true
 | [],[],_,h,_=>by simp [lexLt] at h
 | [],_::_,[],_,h=>by simp [lexLt] at h
 | [],_::_,_::_,_,_=>rfl
 | _::_,[],_,h,_=>by simp [lexLt] at h
 | _::_,_::_,[],_,h=>by simp [lexLt] at h
 | x::xs,y::ys,z::zs,h1,h2=>by
  simp only [lexLt] at h1 h2 ⊢
  by_cases hxy:x=y
  ·subst hxy
   rw [if_pos rfl] at h1
   by_cases hxz:x=z
   ·subst hxz
    rw [if_pos rfl] at h2 ⊢
    exact lex_trans xs ys zs h1 h2
   ·rw [if_neg hxz] at h2 ⊢
    exact h2
  ·rw [if_neg hxy] at h1
   simp only [decide_eq_true_eq] at h1
   by_cases hyz:y=z
   ·subst hyz
    rw [if_neg hxy]
    simpa using h1
   ·rw [if_neg hyz] at h2
    simp only [decide_eq_true_eq] at h2
    rw [if_neg (by omega)]
    simp only [decide_eq_true_eq]
    omega
structure Hyp (vs:List Int) (es:List (List Int)):Prop where
 va:vs.Pairwise (· < ·)
 ne:∀e∈es,e≠[]
 ea:∀e∈es,e.Pairwise (· < ·)
 sub:∀e∈es,∀x∈e,x∈vs
 lex:es.Pairwise fun a b=>lexLt a b=true
 min:es.Pairwise fun a b=>¬(∀x∈a,x∈b)∧¬(∀x∈b,x∈a)
theorem Hyp.val {vs:List Int} {es:List (List Int)} (h:Hyp vs es) (hl:es.length≤20000):valC vs es=true:=by
 have hva:=(asc_pair vs).2 h.va
 unfold valC
 rw [hva,decide_eq_true hl]
 simp only [Bool.true_and,Bool.and_eq_true]
 have hasc:∀i (hi:i<es.length),asc es[i]=true:=fun i hi=>(asc_pair _).2 (h.ea _ (List.getElem_mem hi))
 refine ⟨all_yes fun i hi=>?_,all_yes fun i hi=>all_yes fun k hk=>?_⟩
 ·unfold ok1
  rw [getD_at hi,hasc i hi,contB_within hva,cmpL_lex]
  have h1:es[i].length≠0:=fun e=>h.ne _ (List.getElem_mem hi) (List.eq_nil_of_length_eq_zero e)
  have h2:within es[i] vs=true:=within_iff.2 (h.sub _ (List.getElem_mem hi))
  rw [h2]
  by_cases hi0:0<i
  ·have h3:=List.pairwise_iff_getElem.1 h.lex (i - 1) i (by omega) hi (by omega)
   rw [getD_at (by omega),h3]
   simp [h1]
  ·simp [h1,hi0]
 ·unfold ok2
  by_cases hik:i=k
  ·simp [hik]
  ·rw [getD_at hi,getD_at hk,contB_within (hasc i hi)]
   have:within es[k] es[i]=false:=by
    rw [Bool.eq_false_iff]; intro hw
    rw [within_iff] at hw
    rcases Nat.lt_or_ge i k with hlt | hge
    ·exact (List.pairwise_iff_getElem.1 h.min i k hi hk hlt).2 hw
    ·exact (List.pairwise_iff_getElem.1 h.min k i hk hi (by omega)).1 hw
   simp [this]
theorem keepTo_at {l:List (List Int)} {i:Nat} : ∀{n:Nat},keepTo l i n=true→∀k,k<n→dropE l i k=false
 | 0,_,k,hk=>absurd hk (by omega)
 | n+1,h,k,hk=>by
  simp only [keepTo,Bool.and_eq_true,Bool.not_eq_true'] at h
  rcases Nat.lt_or_ge k n with h1 | h1
  ·exact keepTo_at h.1 k h1
  ·obtain rfl:k=n:=by omega
   exact h.2
theorem insPos_le (acc:List (List Int)) (e:List Int):∀k,insPos acc e k≤k
 | 0=>by simp [insPos]
 | k+1=>by
  simp only [insPos]
  split
  ·have:=insPos_le acc e k; omega
  ·omega
theorem insPos_hi (acc:List (List Int)) (e:List Int):∀k,∀j,insPos acc e k≤j→j<k→lexLt e (eAt acc j)=true
 | 0,j,_,h=>absurd h (by omega)
 | k+1,j,h1,h2=>by
  simp only [insPos] at h1
  split at h1
  ·rename_i hlt
   rcases Nat.lt_or_ge j k with h3 | h3
   ·exact insPos_hi acc e k j h1 h3
   ·obtain rfl:j=k:=by omega
    exact hlt
  ·omega
theorem insPos_lo (acc:List (List Int)) (e:List Int):∀k,0<insPos acc e k→lexLt e (eAt acc (insPos acc e k - 1))=false
 | 0,h=>by simp [insPos] at h
 | k+1,h=>by
  simp only [insPos] at h ⊢
  split
  ·rename_i hlt
   rw [if_pos hlt] at h
   exact insPos_lo acc e k h
  ·rename_i hlt
   simpa using hlt
theorem ins_lex {acc:List (List Int)} {e:List Int} (h:acc.Pairwise fun a b=>lexLt a b=true) (hne:∀a∈acc,a≠e):(insE acc e).Pairwise fun a b=>lexLt a b=true:=by
 have hp:=insPos_le acc e acc.length
 have hi:=insPos_hi acc e acc.length
 have lo:=insPos_lo acc e acc.length
 unfold insE insAt
 generalize insPos acc e acc.length=p at hp hi lo
 have t2:∀a∈acc.drop p,lexLt e a=true:=fun a ha=>by
  obtain ⟨j,hj,rfl⟩:=List.mem_iff_getElem.1 ha
  simp only [List.length_drop] at hj
  simp only [List.getElem_drop]
  have:=hi (p+j) (by omega) (by omega)
  rwa [getD_at (by omega)] at this
 have t1:∀a∈acc.take p,lexLt a e=true:=fun a ha=>by
  obtain ⟨j,hj,rfl⟩:=List.mem_iff_getElem.1 ha
  simp only [List.length_take] at hj
  simp only [List.getElem_take]
  have h0:=lo (by omega)
  rw [getD_at (by omega)] at h0
  have h1:=lex_tri e acc[p - 1] (fun he=>hne _ (List.getElem_mem _) he.symm) h0
  rcases Nat.lt_or_ge j (p - 1) with h3 | h3
  ·exact lex_trans _ _ _ (List.pairwise_iff_getElem.1 h j (p - 1) (by omega) (by omega) h3) h1
  ·obtain rfl:j=p - 1:=by omega
   exact h1
 rw [List.pairwise_append,List.pairwise_cons]
 refine ⟨h.sublist (List.take_sublist _ _),⟨t2,h.sublist (List.drop_sublist _ _)⟩,fun a ha b hb=>?_⟩
 rcases List.mem_cons.1 hb with rfl | hb
 ·exact t1 a ha
 ·exact lex_trans _ _ _ (t1 a ha) (t2 b hb)
theorem edges_inv {l:List (List Int)} : ∀{i:Nat},i≤l.length→((edgesTo l i).Pairwise fun a b=>lexLt a b=true)∧∀e∈edgesTo l i,∃j,j<i∧keepE l j=true∧e=eAt l j
 | 0,_=>by simp [edgesTo]
 | i+1,hi=>by
  obtain ⟨h1,h2⟩:=edges_inv (l:=l) (i:=i) (by omega)
  simp only [edgesTo]
  split
  ·rename_i hk
   refine ⟨ins_lex h1 (fun a ha he=>?_),fun e he=>?_⟩
   ·obtain ⟨j,hj,_,rfl⟩:=h2 a ha
    have:=keepTo_at hk j (by omega)
    have hw:within (eAt l j) (eAt l i)=true:=by rw [he]; exact within_iff.2 fun x hx=>hx
    simp [dropE,hw,hj] at this
   ·rcases insE_mem he with rfl | he
    ·exact ⟨i,by omega,hk,rfl⟩
    ·obtain ⟨j,hj,hk',rfl⟩:=h2 e he
     exact ⟨j,by omega,hk',rfl⟩
  ·exact ⟨h1,fun e he=>by obtain ⟨j,hj,hk',rfl⟩:=h2 e he; exact ⟨j,by omega,hk',rfl⟩⟩
theorem woE_len' (es:List (List Int)) (l:List Int):(woE es l).length≤es.length:=List.length_filter_le _ _
theorem wo_small {vs:List Int} {es:List (List Int)} (h:Small vs es) (ids:List Int):Small (woV vs ids) (woE es ids) :=
 ⟨Nat.le_trans (woV_len' vs ids) h.1,Nat.le_trans (woE_len' es ids) h.2.1,fun e he=>h.2.2 e (List.mem_filter.1 he).1⟩
end
end Go.Proofs.YtfaleabndlcanaaGreatDoor
