/- JS8: own texts of this seat, joined by pack2.py: Lay, C1, C3, W1, W2, Pl1, Enc, Open, Opb, Bulk, W6, W7, W8, W9, W10, Pl2, W12, W13, W16, W17, K0, T1, T2, T3, T4, T5, Wk, T6, T7, T8, Ve, W3, Pl3, Pl4, Mn, T9, T10, G1, Vp, Vf, SO1, SO2, LayI, SO3, Vb. -/
import Derived.Test.YtjogkbekekdkjaaGreatDoorJS7
import Derived.Test.YtjogkbekekdkjaaGreatDoorRows
import Derived.ProofKit
import Derived.LaidMore
import Derived.OpenShut
import Derived.Stop.Joined
import Derived.Laws.BitsAllLaws
import Derived.Laws.BitsLemmas
import Derived.Laws.Externs
import Derived.Lib.Bytealg
import Derived.WalkSpells
import Derived.WalkLawsBesides
import Derived.Lib.Hide
import Derived.Maps.AppendAt
import Derived.Deep.LoopGhost
import Derived.Shelf.SlicesQ.Load
import Derived.Shelf.SlSortCmp.Kit1
import Derived.Sort.Grow
import Derived.Shelf.SlSortCmp.NoneTotal
set_option linter.unusedVariables false
set_option linter.unusedSimpArgs false
set_option maxRecDepth 100000
set_option maxHeartbeats 64000000
namespace Go.Proofs.YtjogkbekekdkjaaGreatDoor
section
open Go.ChangeShapes Go.WideShapes Go.ChangeAt Go.WideMaps Go.WideElems Go.RowKit Go.AM
theorem own:ownKnob Tryz.prog.godebug=none:=by kernel_rfl
theorem laidOut:laidOutB Tryz.prog=true:=by kernel_rfl
theorem gTab:Tryz.prog.globalNamed "math/bits.deBruijn32tab" = some 0:=by kernel_rfl
theorem tTab:(Tryz.prog.globals[0]?).map (·.type)=some 338:=by kernel_rfl
def laid1 {H:Type} : List (String×DataW H):=[("math/bits.deBruijn32tab",Rows.laid_math_bits_deBruijn32tab)]
theorem door_met (os:Os) (args:Array Value):laidMetH Tryz.prog laid1 ((World.doorLaid Tryz.prog 400 os).forCall (fun _ _=>0) ⟨#[],args,[]⟩).memory :=
 laidMetH_of_parts3 (fuel:=8) (laidMet_of_run' 8 (by kernel_rfl) (by kernel_rfl)) (by kernel_rfl) (by kernel_rfl)
theorem of_laid {W:World} (h:laidMetH Tryz.prog laid1 W):∀(i:Nat) x,bitsTab[i]?=some x→W.cell? ⟨0,i,none⟩=some (.int .u8 x):=by
 rw [MakeChecks.laidMetH_plain _ _ _ (by kernel_rfl)] at h
 obtain ⟨ps,⟨g0,t0,cs0,f0,p0,q0,hg0,ht0,hv0,hd0,_,_⟩,_,_⟩:=h
 obtain rfl:=Option.some.inj (gTab.symm.trans hg0)
 obtain rfl:=Option.some.inj (tTab.symm.trans ht0)
 obtain ⟨xs,m1,rfl,hx1,hlen,hn3,hel⟩:=DataW.trod_array Tryz.underlying338 hd0
 have c5:Tryz.prog.cellsOf 5=1:=by kernel_rfl
 simp only [Prod.mk.injEq,Rows.laid_math_bits_deBruijn32tab,DataW.agg.injEq] at hx1
 intro i x hx
 have hi:i<32:=by have:=getElem?_lt hx; simpa [bitsTab] using this
 have h1:=hel i hi
 rw [c5,Nat.mul_one,List.getElem?_eq_getElem (by omega)] at h1
 obtain ⟨k,e1,e2,_⟩:=DataW.trod_int Tryz.underlying5 h1
 have hk:k=x:=by
  have hl:(bitsTab.map fun y=>DataW.lit (.int .u8 y))=xs.map (·.1):=hx1.1
  have h3:=congrArg (fun l=>l[i]?) hl
  simp only [List.getElem?_map,List.getElem?_eq_getElem (show i<xs.length by omega),Option.map_some,hx,e2,Option.some.injEq,DataW.lit.injEq,Lit.int.injEq,true_and] at h3
  exact h3.symm
 subst hk
 have hcell:=World.var?_cell hg0 hv0 i
 rw [hcell]
 have e3:(cs0.toList.drop i).take 1=[.int .u8 k]:=e1
 have:cs0.toList[i]?=some (.int .u8 k):=by
  have h4:=congrArg (fun l=>l[0]?) e3
  simpa [List.getElem?_take,List.getElem?_drop] using h4
 simpa using this
theorem gok {W:World} (h:laidMetH Tryz.prog laid1 W):GOk Tryz.prog (AM.base (fun _=>False) W):=fun g hg=>by
 obtain rfl:=Option.some.inj (gTab.symm.trans hg)
 have hc:=of_laid h
 refine ⟨⟨?_,fun h=>h,fun k hk=>by have:=hk.1; simp [AM.base] at this⟩,hc⟩
 exact World.block_lt_of_cell? W _ (hc 0 0 rfl)
theorem cells_ok:∀t i,T t=some i→Tryz.prog.cellsOf t=i.size:=fun t i hi=>by
 obtain ⟨inf,h1,h2,_⟩:=tok.info t i hi
 simp [Program.cellsOf,h1,h2]
end
end Go.Proofs.YtjogkbekekdkjaaGreatDoor
namespace Go.Proofs.YtjogkbekekdkjaaGreatDoor
section
open Go Go.AM Go.RowKit
def tzIx (x:Int):Nat:=(bits BinOp.and IntKind.u32 x (-x % 4294967296)*125613361 % 4294967296 / 134217728).toNat
def tzI (x:Int):Int:=if x=0 then 32 else (bitsTab[tzIx x]?).getD 0
theorem tab_lt (i:Nat) (h:i<32):∃y,bitsTab[i]?=some y∧0≤y∧y<32:=by
 have:∀i:Fin 32,∃y,bitsTab[i.1]?=some y∧0≤y∧y<32:=by decide
 exact this ⟨i,h⟩
theorem tz_any (x:Int) (w:World) (hz:∀(i:Nat) y,bitsTab[i]?=some y→w.cell? ⟨0,i,none⟩=some (.int .u8 y)) :
  Calls Tryz.prog 235 #[.int .u32 x] w fun e w'=>e = .returned (.int .i64 (tzI x))∧w'=w:=by
 by_cases hx:x=0
 ·have hb:(x == 0)=true:=by simpa using hx
  go_enter Tryz.func235,Tryz.ntmps235
  go_wp2
  go_ret
  exact ⟨by simp [tzI,hx],rfl⟩
 ·have hb:(x == 0)=false:=by simpa using hx
  have h0:0≤bits BinOp.and IntKind.u32 x (-x % 4294967296)*125613361 % 4294967296 / 134217728:=by omega
  have h1:bits BinOp.and IntKind.u32 x (-x % 4294967296)*125613361 % 4294967296 / 134217728<32:=by omega
  obtain ⟨y,hy,y0,y1⟩:=tab_lt (tzIx x) (by unfold tzIx; omega)
  have hc:=hz _ y hy
  unfold tzIx at hc
  have hy':tzI x=y:=by simp [tzI,hx,hy]
  clear hz
  go_enter Tryz.func235,Tryz.ntmps235
  go_wp2
  go_ret
  exact ⟨by rw [hy']; simp,rfl⟩
theorem tz_con (x:Int):ConP Tryz.prog 235 [.int .u32 x] fun r=>r = .int .i64 (tzI x):=by
 refine ⟨⟨Tryz.f235,Tryz.func235,rfl,rfl⟩,fun F w vals hZ hF hsz hrel=>?_⟩
 obtain ⟨v0,rfl⟩:∃v0,vals = #[v0]:=by
  obtain ⟨l⟩:=vals
  match l,hsz with
  | [a],_=>exact ⟨a,rfl⟩
 have h0:=hrel 0 _ v0 rfl rfl
 cases h0
 refine (tz_any x w (hZ 0 (by kernel_rfl)).2).mono fun e w' ⟨h1,h2⟩=>⟨_,_,h1,.int _ _,.int _ _,by subst h2; exact Below.refl _ _,rfl⟩
def cmpS (a b:ByteArray):Int:=Lib.compareBytes a.data.toList b.data.toList
theorem cmp_any (a b:ByteArray) (w:World):Calls Tryz.prog 287 #[.string a,.string b] w fun e w'=>e = .returned (.int .i64 (cmpS a b))∧w'=w:=by
 have hc:∀w,(callFunc 288 #[.string a,.string b]).run Tryz.prog w = .ok (.value (.int .i64 (cmpS a b))) w:=fun w=>by
  rw [run_callFunc_extern Tryz.func288 (by kernel_rfl) (by kernel_rfl) (by kernel_rfl) (e:=Extern.BytealgCompare.compare) (by kernel_rfl),Lib.run_compareString]
  rfl
 go_enter Tryz.func287,Tryz.ntmps287
 go_wp2_with (simp only [hc])
 go_ret
 exact ⟨rfl,rfl⟩
theorem cmp_con (a b:ByteArray):ConP Tryz.prog 287 [.str a,.str b] fun r=>r = .int .i64 (cmpS a b):=by
 refine ⟨⟨Tryz.f287,Tryz.func287,rfl,rfl⟩,fun F w vals hZ hF hsz hrel=>?_⟩
 obtain ⟨v0,v1,rfl⟩:∃v0 v1,vals = #[v0,v1]:=by
  obtain ⟨l⟩:=vals
  match l,hsz with
  | [a,b],_=>exact ⟨a,b,rfl⟩
 have h0:=hrel 0 _ v0 rfl rfl
 have h1:=hrel 1 _ v1 rfl rfl
 cases h0
 cases h1
 refine (cmp_any a b w).mono fun e w' ⟨h1,h2⟩=>⟨_,_,h1,.int _ _,.int _ _,by subst h2; exact Below.refl _ _,rfl⟩
theorem mixed:Tryz.prog.follows .mixedOrders=true:=by kernel_rfl
theorem wx {c:Code} {Q:Exit→List V→List B→Prop} {fr:List V} {H:List B} (h:WX T (WCall Tryz.prog) (LW Tryz.prog) c Q fr H):W Tryz.prog c Q fr H:=W_x tok mixed h
def ext:ExtF:=fun f args H=>match f,args with
 | 235,[.int .u32 x]=>some (.int .i64 (tzI x),H)
 | 287,[.str a,.str b]=>some (.int .i64 (cmpS a b),H)
 | _,_=>none
theorem ext_ok:ExtOk Tryz.prog ext:=fun f args H r H' h=>by
 unfold ext at h
 split at h
 ·cases h
  rename_i x
  have:=callP (H:=H) (tz_con x) (by simp)
  simpa only [WCall,List.append_nil] using this
 ·cases h
  rename_i a b
  have:=callP (H:=H) (cmp_con a b) (by simp)
  simpa only [WCall,List.append_nil] using this
 ·cases h
theorem allNamed:(Tryz.prog.funcs.toList.all fun fn=>!(fn.name == "runtime.NumGoroutine"))=true:=by kernel_rfl
theorem named:∀(f:Nat) (fn:Func),Tryz.prog.funcs[f]?=some fn→(fn.name == "runtime.NumGoroutine")=false:=fun f fn h=>by
 have:=List.all_eq_true.1 allNamed fn (by rw [Array.mem_toList_iff]; exact Array.mem_of_getElem? h)
 simpa using this
def buf1 (H:List B):List V→List V→Option (Nat×Nat×Nat×List V)
 | a::as',b::bs=>if eqV 40 a b=true then buf1 H as' bs else match a with
  | .buf k 0 n m=>match H[k]? with
   | some (.buf e z xs _)=>if n=xs.length∧m=xs.length∧eqV 40 (.lst z false xs) b=true∧eqL (eqV 40) as' bs=true then some (k,e,z,xs) else none
   | _=>none
  | _=>none
 | _,_=>none
theorem repF_refl (p q:V):∀xs:List V,RepF p q xs xs
 | []=>trivial
 | _::xs=>⟨.inl rfl,repF_refl p q xs⟩
theorem buf1_ok {H:List B} : ∀{args ga:List V} {k e z:Nat} {xs:List V},buf1 H args ga=some (k,e,z,xs)→(∃fz,H[k]?=some (.buf e z xs fz))∧RepF (.buf k 0 xs.length xs.length) (.lst z false xs) args ga
 | [],_,_,_,_,_,h=>by simp [buf1] at h
 | _::_,[],_,_,_,_,h=>by simp [buf1] at h
 | a::as',b::bs,k,e,z,xs,h=>by
  unfold buf1 at h
  split at h
  ·rename_i he
   obtain ⟨h1,h2⟩:=buf1_ok h
   exact ⟨h1,.inl (eqV_eq _ _ _ he).symm,h2⟩
  ·split at h
   ·rename_i k' n m
    split at h
    ·rename_i e' z' xs' fz hk
     split at h
     ·rename_i hc
      obtain ⟨rfl,rfl,h3,h4⟩:=hc
      cases h
      refine ⟨⟨fz,hk⟩,.inr ⟨rfl,(eqV_eq _ _ _ h3).symm⟩,?_⟩
      rw [eqL_eq (eqV_eq 40) h4]
      exact repF_refl _ _ _
     ·cases h
    ·cases h
   ·cases h
def extS (g:FuncId) (ga:List V) (gr:V) (ext:ExtF):ExtF:=fun f args H=>if Nat.beq f g then (if eqL (eqV 40) args ga then some (gr,H) else match buf1 H args ga with
 | some _=>some (gr,H)
 | none=>ext f args H) else ext f args H
theorem pure_of_lst {z:Nat} {f:Bool} {xs:List V} (h:AM.Pure (.lst z f xs)):∀x∈xs,AM.Pure x:=by cases h; assumption
theorem extS_ok {ext:ExtF} (he:ExtOk Tryz.prog ext) {g:FuncId} {ga:List V} {gr:V} (hc:ConP Tryz.prog g ga fun x=>x=gr) (hq:∀a∈ga,AM.Pure a) (hs:Scalar gr):ExtOk Tryz.prog (extS g ga gr ext):=fun f args H r H' h=>by
 unfold extS at h
 split at h
 ·rename_i hf
  have hfg:f=g:=Nat.eq_of_beq_eq_true hf
  subst hfg
  split at h
  ·rename_i ha
   have ha:=eqL_eq (eqV_eq 40) ha
   cases h
   subst ha
   have:=callP (H:=H) hc hq
   simpa only [WCall,List.append_nil] using this
  ·split at h
   ·rename_i o ho
    obtain ⟨k,e,z,xs⟩:=o
    cases h
    obtain ⟨⟨fz,hk⟩,hr⟩:=buf1_ok ho
    have:=callX (H:=H) (args:=args) hc hr.len (fun i a a' h1 h2=>by
     have hp:=hq a' (List.mem_of_getElem? h2)
     rcases hr.at_ i a a' h1 h2 with rfl | ⟨rfl,rfl⟩
     ·exact .pure _ hp
     ·exact exp_buf hk rfl (pure_of_lst hp)) hs
    simpa only [WCall,List.append_nil] using this
   ·exact he f args H r H' h
 ·exact he f args H r H' h
end
end Go.Proofs.YtjogkbekekdkjaaGreatDoor
namespace Go.Proofs.YtjogkbekekdkjaaGreatDoor
section
open Go Go.AM
def encI (n:Int):V:=.int .i64 n
def L1 (f:Bool) (xs:List Int):V:=.lst 1 f (xs.map encI)
@[simp] theorem encI_pure (n:Int):AM.Pure (encI n):=by simp [encI]
@[simp] theorem L1_pure (f:Bool) (xs:List Int):AM.Pure (L1 f xs):=by simp [L1,encI]
theorem wrap64 {n:Int} (h1 : -9223372036854775808≤n) (h2:n<9223372036854775808):IntKind.i64.wrap n=n:=by rw [IntKind.wrap_i64]; omega
theorem wrapS (i:Nat) (h:i<9223372036854775807):IntKind.i64.wrap ((i:Int)+1)=((i+1:Nat):Int):=by rw [wrap64 (by omega) (by omega)]; rfl
theorem wrapP (i:Nat) (h:i<9223372036854775807) (h1:1≤i):IntKind.i64.wrap ((i:Int) - 1)=((i - 1:Nat):Int):=by rw [wrap64 (by omega) (by omega)]; omega
def memB (xs:List Int) (x:Int):Bool:=xs.contains x
theorem memB_cons (y x:Int) (xs:List Int):memB (y::xs) x=(x == y||memB xs x):=by simp only [memB,List.contains_cons]
theorem memB_nil (x:Int):memB [] x=false:=rfl
theorem memB_iff {xs:List Int} {x:Int} : memB xs x=true↔x∈xs:=by simp [memB]
def ascFrom (xs:List Int) (i:Nat):Bool:=if h:i<xs.length then (if xs[i]≤xs[i - 1] then false else ascFrom xs (i+1)) else true
termination_by xs.length - i
def asc (xs:List Int):Bool:=ascFrom xs 1
theorem asc_r (xs:List Int) (f:Bool) (hl:xs.length≤1000000):ConP Tryz.prog 91 [L1 f xs] fun r=>r = .bool (asc xs):=by
 refine conP_of_conH (conH_of_W tok Tryz.func91 rfl rfl ?_)
 refine wx ?_
 simp -implicitDefEqProofs -dsimp [Tryz.f91,List.replicate]
 refine lw_of (W_loopG [2,3,4,5,6,7,8,9,10,11,12,13,14,15,16,17,18,19] (σ:=Nat) (fun i=>1≤i∧ascFrom xs i=asc xs) (fun i=>xs.length - i) (fun i=>[(3,.int .i64 i)]) (fun _=>[]) 1 ⟨by omega,rfl⟩ (by simp) rfl (by simp) ?_)
 rintro i ⟨hi,hx⟩
 by_cases hb:i<xs.length
 ·have hb2:i - 1<xs.length:=by omega
  rw [ascFrom,dif_pos hb] at hx
  refine wx ?_
  simp -implicitDefEqProofs -dsimp [L1,encI,hb,hb2,wrapS i (by omega),wrapP i (by omega) hi]
  refine .inr ⟨stop_of (by kernel_rfl),?_⟩
  split
  ·rename_i h; rw [if_pos h] at hx; exact hx.symm
  ·rename_i h
   rw [if_neg h] at hx
   refine stop_of ?_
   refine ⟨i+1,⟨by omega,hx⟩,by omega,?_,⟨[],rfl⟩,?_,?_⟩<;>simp [L1,encI]
 ·rw [ascFrom,dif_neg hb] at hx
  refine wx ?_
  simp -implicitDefEqProofs -dsimp [hb,L1]
  exact hx.symm
theorem has03 (xs:List Int) (x:Int) (f:Bool) (hl:xs.length≤1000000):ConP Tryz.prog 66 [L1 f xs,.int .i64 x] fun r=>r = .bool (memB xs x):=by
 refine conP_of_conH (conH_of_W tok Tryz.func66 rfl rfl ?_)
 refine wx ?_
 simp -implicitDefEqProofs -dsimp [Tryz.f66,List.replicate]
 refine lw_of (W_loopG [4,5,6,7,8,9,10,11,12,13,14,15,16,17] (σ:=Nat) (fun i=>memB (xs.drop i) x=memB xs x) (fun i=>xs.length - i) (fun i=>[(5,.int .i64 i)]) (fun _=>[]) 0 rfl (by simp) rfl (by simp) ?_)
 intro i hx
 by_cases hb:i<xs.length
 ·rw [List.drop_eq_getElem_cons hb,memB_cons] at hx
  by_cases hq:xs[i]=x
  ·refine wx ?_
   simp -implicitDefEqProofs -dsimp [L1,encI,hb,hq]
   rw [hq] at hx
   simpa using hx.symm
  ·have hq2:(x == xs[i])=false:=by simpa using fun h:x=xs[i]=>hq h.symm
   rw [hq2,Bool.false_or] at hx
   refine wx ?_
   simp -implicitDefEqProofs -dsimp [L1,encI,hb,hq,wrapS i (by omega)]
   refine stop_of ?_
   refine ⟨i+1,hx,by omega,?_,⟨[],rfl⟩,?_,?_⟩<;>simp [L1,encI]
 ·rw [List.drop_of_length_le (by omega),memB_nil] at hx
  refine wx ?_
  simp -implicitDefEqProofs -dsimp [hb,L1]
  exact hx.symm
theorem has37 (xs:List Int) (x:Int) (f:Bool) (hl:xs.length≤1000000):ConP Tryz.prog 214 [L1 f xs,.int .i64 x] fun r=>r = .bool (memB xs x):=by
 refine conP_of_conH (conH_of_W tok Tryz.func214 rfl rfl ?_)
 refine wx ?_
 simp -implicitDefEqProofs -dsimp [Tryz.f214,List.replicate]
 refine (callP (has03 xs x f hl) (by simp)).mono ?_
 rintro r H' ⟨rfl,rfl⟩
 simp -implicitDefEqProofs -dsimp [L1]
def within (us bs:List Int):Bool:=us.all fun x=>memB bs x
theorem within37 (us bs:List Int) (f g:Bool) (hl:us.length≤1000000) (hl2:bs.length≤1000000):ConP Tryz.prog 147 [L1 f us,L1 g bs] fun r=>r = .bool (within us bs):=by
 refine conP_of_conH (conH_of_W tok Tryz.func147 rfl rfl ?_)
 refine wx ?_
 simp -implicitDefEqProofs -dsimp [Tryz.f147,List.replicate]
 refine lw_of (W_loopG [4,5,6,7,8,9,10,11,12,13,14,15,16,17,18] (σ:=Nat) (fun i=>within (us.drop i) bs=within us bs) (fun i=>us.length - i) (fun i=>[(5,.int .i64 i)]) (fun _=>[]) 0 rfl (by simp) rfl (by simp) ?_)
 intro i hx
 by_cases hb:i<us.length
 ·rw [List.drop_eq_getElem_cons hb] at hx
  have hx':(memB bs us[i]&&within (us.drop (i+1)) bs)=within us bs:=hx
  refine wx ?_
  cases hq:memB bs us[i]
  ·rw [hq] at hx'
   have hc:=has37 bs us[i] g hl2
   rw [hq] at hc
   simp -implicitDefEqProofs -dsimp [L1,hb,encI]
   refine (callP (hc) (by simp)).mono ?_
   rintro r H' ⟨rfl,rfl⟩
   simp -implicitDefEqProofs -dsimp [hb]
   simpa using hx'.symm
  ·rw [hq] at hx'
   have hc:=has37 bs us[i] g hl2
   rw [hq] at hc
   simp -implicitDefEqProofs -dsimp [L1,hb,encI]
   refine (callP (hc) (by simp)).mono ?_
   rintro r H' ⟨rfl,rfl⟩
   simp -implicitDefEqProofs -dsimp [hb,wrapS i (by omega)]
   refine stop_of ?_
   refine ⟨i+1,by simpa using hx',by omega,?_,⟨[],rfl⟩,?_,?_⟩<;>simp [L1,encI]
 ·rw [List.drop_of_length_le (by omega)] at hx
  refine wx ?_
  simp -implicitDefEqProofs -dsimp [hb,L1]
  simpa [within] using hx.symm
def lexLt:List Int→List Int→Bool
 | [],[]=>false
 | [],_::_=>true
 | _::_,[]=>false
 | x::xs,y::ys=>if x=y then lexLt xs ys else decide (x<y)
theorem before37 (us bs:List Int) (f g:Bool) (hl:us.length≤1000000) (hl2:bs.length≤1000000):ConP Tryz.prog 148 [L1 f us,L1 g bs] fun r=>r = .bool (lexLt us bs):=by
 refine conP_of_conH (conH_of_W tok Tryz.func148 rfl rfl ?_)
 refine wx ?_
 simp -implicitDefEqProofs -dsimp [Tryz.f148,List.replicate]
 refine lw_of (W_loopG [4,5,6,7,8,9,10,11,12,13,14,15,16,17,18,19,20,21,22,23,24,25,26,27,28,29,30,31,32,33,34,35] (σ:=Nat) (fun i=>i≤us.length∧i≤bs.length∧lexLt (us.drop i) (bs.drop i)=lexLt us bs) (fun i=>us.length - i) (fun i=>[(5,.int .i64 i)]) (fun _=>[]) 0 ⟨by omega,by omega,rfl⟩ (by simp) rfl (by simp) ?_)
 rintro i ⟨h1,h2,hx⟩
 by_cases ha:i<us.length
 ·by_cases hb:i<bs.length
  ·rw [List.drop_eq_getElem_cons ha,List.drop_eq_getElem_cons hb,lexLt] at hx
   by_cases hq:us[i]=bs[i]
   ·rw [if_pos hq] at hx
    refine wx ?_
    simp -implicitDefEqProofs -dsimp [L1,encI,ha,hb,hq,wrapS i (by omega)]
    refine .inr ⟨stop_of (by kernel_rfl),?_⟩
    refine stop_of ?_
    refine ⟨i+1,⟨by omega,by omega,hx⟩,by omega,?_,⟨[],rfl⟩,?_,?_⟩<;>simp [L1,encI]
   ·rw [if_neg hq] at hx
    refine wx ?_
    simp -implicitDefEqProofs -dsimp [L1,encI,ha,hb,hq]
    refine .inr ⟨stop_of (by kernel_rfl),?_⟩
    refine .inr ⟨stop_of (by kernel_rfl),?_⟩
    exact hx
  ·rw [List.drop_eq_getElem_cons ha,List.drop_of_length_le (l:=bs) (by omega),lexLt] at hx
   refine wx ?_
   simp -implicitDefEqProofs -dsimp [L1,ha,hb]
   rw [←hx]
   simp
   omega
 ·by_cases hb:i<bs.length
  ·rw [List.drop_eq_getElem_cons hb,List.drop_of_length_le (l:=us) (by omega),lexLt] at hx
   refine wx ?_
   simp -implicitDefEqProofs -dsimp [L1,ha,hb]
   rw [←hx]
   simp
   omega
  ·rw [List.drop_of_length_le (l:=us) (by omega),List.drop_of_length_le (l:=bs) (by omega),lexLt] at hx
   refine wx ?_
   simp -implicitDefEqProofs -dsimp [L1,ha,hb]
   rw [←hx]
   simp
   omega
theorem nan_c (x:Int):ConP Tryz.prog 139 [.int .i64 x] fun r=>r = .bool false:=by
 refine conP_of_conH (conH_of_W tok Tryz.func139 rfl rfl ?_)
 refine wx ?_
 simp -implicitDefEqProofs -dsimp [Tryz.f139,List.replicate]
theorem nan_s (x:Int):ConP Tryz.prog 82 [.int .i64 x] fun r=>r = .bool false:=by
 refine conP_of_conH (conH_of_W tok Tryz.func82 rfl rfl ?_)
 refine wx ?_
 simp -implicitDefEqProofs -dsimp [Tryz.f82,List.replicate]
theorem less64 (x y:Int):ConP Tryz.prog 81 [.int .i64 x,.int .i64 y] fun r=>r = .bool (decide (x<y)):=by
 refine conP_of_conH (conH_of_W tok Tryz.func81 rfl rfl ?_)
 refine wx ?_
 simp -implicitDefEqProofs -dsimp [Tryz.f81,List.replicate]
 refine (callP (nan_c x) (by simp)).mono ?_
 rintro r H' ⟨rfl,rfl⟩
 simp -implicitDefEqProofs -dsimp []
def cmpI (x y:Int):Int:=if x<y then -1 else if y<x then 1 else 0
theorem cmp64 (x y:Int):ConP Tryz.prog 198 [.int .i64 x,.int .i64 y] fun r=>r = .int .i64 (cmpI x y):=by
 refine conP_of_conH (conH_of_W tok Tryz.func198 rfl rfl ?_)
 refine wx ?_
 simp -implicitDefEqProofs -dsimp [Tryz.f198,List.replicate]
 refine (callP (nan_c x) (by simp)).mono ?_
 rintro r H' ⟨rfl,rfl⟩
 simp -implicitDefEqProofs -dsimp []
 refine (callP (nan_c y) (by simp)).mono ?_
 rintro r H' ⟨rfl,rfl⟩
 simp -implicitDefEqProofs -dsimp []
 unfold cmpI
 split
 ·rfl
 ·split<;>rfl
def cmpL:List Int→List Int→Int
 | [],[]=>0
 | [],_::_=>-1
 | _::_,[]=>1
 | x::xs,y::ys=>if cmpI x y=0 then cmpL xs ys else cmpI x y
def bsI (xs:List Int) (x:Int) (lo hi:Nat):Nat :=
 if h:lo<hi then (if (xs[(lo+hi) / 2]?).getD 0<x then bsI xs x ((lo+hi) / 2+1) hi else bsI xs x lo ((lo+hi) / 2)) else lo
termination_by hi - lo
def bsP (xs:List Int) (x:Int):Nat:=bsI xs x 0 xs.length
def bsF (xs:List Int) (x:Int):Bool:=xs[bsP xs x]? == some x
theorem shr1 (lo hi:Nat) (h:lo+hi<2000002):IntKind.i64.wrap ((IntKind.u64.wrap ((lo:Int)+(hi:Int))).fdiv (2^min 1 IntKind.u64.bits))=(((lo+hi) / 2:Nat):Int):=by
 have h2:(2:Int)^min 1 IntKind.u64.bits=2:=by decide
 have h1:IntKind.u64.wrap ((lo:Int)+(hi:Int))=(lo:Int)+(hi:Int):=by rw [IntKind.wrap_u64]; omega
 rw [h2,h1,Int.fdiv_eq_ediv_of_nonneg _ (by omega),wrap64 (by omega) (by omega)]
 omega
theorem bsearch64 (xs:List Int) (x:Int) (f:Bool) (hl:xs.length≤1000000):ConP Tryz.prog 40 [L1 f xs,.int .i64 x] fun r=>r = .tup [.int .i64 (bsP xs x),.bool (bsF xs x)]:=by
 refine conP_of_conH (conH_of_W tok Tryz.func40 rfl rfl ?_)
 refine wx ?_
 simp -implicitDefEqProofs -dsimp [Tryz.f40,List.replicate,L1]
 refine lw_of (W_loopG [7,8,9,13,14,15,16,17,18,19,20,21,22,23,24,25,26,27,28,29,30] (σ:=Nat×Nat) (fun p=>p.1≤p.2∧p.2≤xs.length∧bsI xs x p.1 p.2=bsP xs x) (fun p=>p.2 - p.1) (fun p=>[(7,.int .i64 p.1),(8,.int .i64 p.2)]) (fun _=>[]) (0,xs.length) ⟨by omega,by omega,rfl⟩ (by simp) rfl (by simp) ?_)
 rintro ⟨lo,hi⟩ ⟨h1,h2,hx⟩
 simp only at h1 h2 hx
 by_cases hb:lo<hi
 ·have hw:IntKind.i64.wrap ((lo:Int)+(hi:Int))=((lo+hi:Nat):Int):=by rw [wrap64 (by omega) (by omega)]; rfl
  have hs:=shr1 lo hi (by omega)
  rw [bsI,dif_pos hb] at hx
  obtain ⟨m,em⟩:∃m,m=(lo+hi) / 2:=⟨_,rfl⟩
  rw [←em] at hs hx
  have hm:m<xs.length:=by omega
  rw [List.getElem?_eq_getElem hm,Option.getD_some] at hx
  have hc:=less64 xs[m] x
  have hs1:=wrapS m (by omega)
  by_cases hq:xs[m]<x
  ·rw [if_pos hq] at hx
   rw [decide_eq_true hq] at hc
   refine wx ?_
   simp -implicitDefEqProofs -dsimp [L1,encI,hb,hw,hs,hm]
   refine (callP (hc) (by simp)).mono ?_
   rintro r H' ⟨rfl,rfl⟩
   simp -implicitDefEqProofs -dsimp [hs1]
   refine stop_of ?_
   refine ⟨(m+1,hi),⟨by simp only; omega,h2,hx⟩,by omega,?_,⟨[],rfl⟩,?_,?_⟩<;>simp [L1,encI]
  ·rw [if_neg hq] at hx
   rw [decide_eq_false hq] at hc
   refine wx ?_
   simp -implicitDefEqProofs -dsimp [L1,encI,hb,hw,hs,hm]
   refine (callP (hc) (by simp)).mono ?_
   rintro r H' ⟨rfl,rfl⟩
   simp -implicitDefEqProofs -dsimp []
   refine stop_of ?_
   refine ⟨(lo,m),⟨by simp only; omega,by simp only; omega,hx⟩,by omega,?_,⟨[],rfl⟩,?_,?_⟩<;>simp [L1,encI]
 ·rw [bsI,dif_neg hb] at hx
  by_cases hn:lo<xs.length
  ·by_cases hq:xs[lo]=x
   ·refine wx ?_
    simp -implicitDefEqProofs -dsimp [L1,encI,hb,hn,hq]
    simp [hx.symm,bsF,hn,hq]
   ·refine wx ?_
    simp -implicitDefEqProofs -dsimp [L1,encI,hb,hn,hq]
    refine (callP (nan_s xs[lo]) (by simp)).mono ?_
    rintro r H' ⟨rfl,rfl⟩
    simp -implicitDefEqProofs -dsimp []
    simp [hx.symm,bsF,hn,hq]
  ·refine wx ?_
   simp -implicitDefEqProofs -dsimp [L1,encI,hb,hn]
   simp [hx.symm,bsF,hn]
theorem ascFrom_iff (xs:List Int) (i:Nat) (h1:1≤i):ascFrom xs i=true↔∀j,i≤j→∀(h:j<xs.length),xs[j - 1]<xs[j]:=by
 fun_induction ascFrom xs i with
 | case1 i h h0=>simp only [Bool.false_eq_true,false_iff]; intro hh; have:=hh i (Nat.le_refl _) h; omega
 | case2 i h h0 ih =>
  rw [ih (by omega)]
  constructor
  ·intro hh j hj hl
   rcases Nat.lt_or_ge i j with h2 | h2
   ·exact hh j (by omega) hl
   ·obtain rfl:j=i:=by omega
    omega
  ·intro hh j hj hl; exact hh j (by omega) hl
 | case3 i h=>simp only [true_iff]; intro j hj hl; omega
theorem asc_lt {xs:List Int} (h:asc xs=true):∀(i j:Nat) (hi:i<xs.length) (hj:j<xs.length),i<j→xs[i]<xs[j]:=by
 have h1:=(ascFrom_iff xs 1 (by omega)).1 h
 intro i j hi hj hij
 induction j with
 | zero=>omega
 | succ j ih =>
  have h2:=h1 (j+1) (by omega) hj
  simp only [Nat.add_sub_cancel] at h2
  rcases Nat.lt_or_ge i j with h3 | h3
  ·have:=ih (by omega) h3; omega
  ·obtain rfl:i=j:=by omega
   exact h2
theorem bsI_ok {xs:List Int} (hs:asc xs=true) (x:Int) (lo hi:Nat) (hlh:lo≤hi) (hhl:hi≤xs.length) (h1:∀j (h:j<xs.length),j<lo→xs[j]<x) (h2:∀j (h:j<xs.length),hi≤j→x≤xs[j]) :
  (∀j (h:j<xs.length),j<bsI xs x lo hi→xs[j]<x)∧∀j (h:j<xs.length),bsI xs x lo hi≤j→x≤xs[j]:=by
 fun_induction bsI xs x lo hi with
 | case1 lo hi h0 hq ih =>
  have hm:(lo+hi) / 2<xs.length:=by omega
  rw [List.getElem?_eq_getElem hm,Option.getD_some] at hq
  refine ih (by omega) hhl (fun j h hj=>?_) h2
  rcases Nat.lt_or_ge j ((lo+hi) / 2) with h3 | h3
  ·have:=asc_lt hs j _ h hm h3; omega
  ·obtain rfl:j=(lo+hi) / 2:=by omega
   exact hq
 | case2 lo hi h0 hq ih =>
  have hm:(lo+hi) / 2<xs.length:=by omega
  rw [List.getElem?_eq_getElem hm,Option.getD_some] at hq
  refine ih (by omega) (by omega) h1 (fun j h hj=>?_)
  rcases Nat.lt_or_ge ((lo+hi) / 2) j with h3 | h3
  ·have:=asc_lt hs _ j hm h h3; omega
  ·obtain rfl:j=(lo+hi) / 2:=by omega
   omega
 | case3 lo hi h0=>exact ⟨fun j h hj=>h1 j h hj,fun j h hj=>h2 j h (by omega)⟩
theorem bsF_mem {xs:List Int} (hs:asc xs=true) (x:Int):bsF xs x=memB xs x:=by
 obtain ⟨h1,h2⟩:=bsI_ok hs x 0 xs.length (by omega) (by omega) (fun j h hj=>absurd hj (by omega)) (fun j h hj=>absurd h (by omega))
 rw [Bool.eq_iff_iff,memB_iff]
 unfold bsF bsP
 constructor
 ·intro h
  have:=beq_iff_eq.1 h
  exact List.mem_of_getElem? this
 ·intro h
  obtain ⟨j,hj,rfl⟩:=List.mem_iff_getElem.1 h
  have a1:bsI xs xs[j] 0 xs.length≤j:=by
   rcases Nat.lt_or_ge j (bsI xs xs[j] 0 xs.length) with h3 | h3
   ·have:=h1 j hj h3; omega
   ·exact h3
  have a2:j≤bsI xs xs[j] 0 xs.length:=by
   rcases Nat.lt_or_ge (bsI xs xs[j] 0 xs.length) j with h3 | h3
   ·have h4:=h2 _ (by omega) (Nat.le_refl _)
    have:=asc_lt hs _ j (by omega) hj h3
    omega
   ·exact h3
  rw [show bsI xs xs[j] 0 xs.length=j by omega]
  simp [hj]
theorem cmpL_lex:∀us bs:List Int,decide (0≤cmpL us bs) = !lexLt us bs
 | [],[]=>rfl
 | [],_::_=>rfl
 | _::_,[]=>rfl
 | x::xs,y::ys=>by
  have ih:=cmpL_lex xs ys
  simp only [cmpL,lexLt,cmpI]
  by_cases h:x=y
  ·subst h; simp [ih]
  ·rcases Int.lt_or_gt_of_ne h with h1 | h1
   ·simp [h,h1]
   ·have h2:¬x<y:=by omega
    simp [h,h1,h2]
def LL (g:Bool) (es:List (List Int)):V:=.lst 1 g (es.map (L1 false))
def encH (f g:Bool) (vs:List Int) (es:List (List Int)):V:=.agg [L1 f vs,LL g es]
@[simp] theorem LL_pure (g:Bool) (es:List (List Int)):AM.Pure (LL g es):=by simp [LL]
@[simp] theorem encH_pure (f g:Bool) (vs:List Int) (es:List (List Int)):AM.Pure (encH f g vs es):=by simp [encH]
def Small (vs:List Int) (es:List (List Int)):Prop:=vs.length≤1000000∧es.length≤1000000∧∀e∈es,e.length≤1000000
@[simp] theorem encI_oneV (n:Int):oneV (encI n)=true:=rfl
@[simp] theorem L1_oneV (f:Bool) (xs:List Int):oneV (L1 f xs)=true:=rfl
def eAt (es:List (List Int)) (i:Nat):List Int:=es.getD i []
theorem getD_at {es:List (List Int)} {i:Nat} (h:i<es.length):eAt es i=es[i]:=by simp [eAt,h]
theorem agg_rel {w:World} {vs:List V} {us:Array Value} (h:CR w vs us.toList):Rel (AM.base (fun _=>False) w) (.agg vs) (.agg us) :=
 .agg vs us (by simpa using h.len.symm) h.one (fun i c u hc hu=>h.rel i c u hc (by simpa using hu))
end
end Go.Proofs.YtjogkbekekdkjaaGreatDoor
namespace Go.AM
section
open Go Go.Deep
section
structure BulkOk {H:Type} (bk:DataW H→Nat):Prop where
 len:∀es sp,es.length≤bk (.slice es sp)
 elem:∀es sp d,d∈es→bk d≤bk (.slice es sp)
 part:∀ps d,d∈ps→bk d≤bk (.agg ps)
def ShB (T:Ty) (Bd:Nat):Nat→TypeId→List V→Prop
 | 0,_,_=>False
 | n+1,t,vs=>match T t with
  | none=>False
  | some i=>match i.desc with
   | .bool=>∃b,vs=[.bool b]
   | .int k=>∃m,vs=[.int k m]∧(Lit.int k m).wf=true
   | .string=>∃s,vs=[.str s]∧s.size≤maxLen
   | .slice e=>match T e with
    | some j=>∃xs,vs=[.lst j.size false xs]∧xs.length≤maxLen∧xs.length≤Bd∧∀x∈xs,∃ws,ShB T Bd n e ws∧ws.length=j.size∧x=(if isAggD j.desc then .agg ws else ws.headD .undef)
    | none=>False
   | .struct fs=>vs.length=i.size∧∀f∈fs.toList,∃j,T f.type=some j∧ShB T Bd n f.type ((vs.drop f.offset).take j.size)
   | _=>False
section
variable {P:Program} {T:Ty} {Bd:Nat} {Hd:Type} {enc:TypeId×Value→Hd} {w:World} {held:Bool}
theorem opn_fieldsB {n tot:Nat} {cs:List Value} (hlen:cs.length=tot):∀(l:List Field) (off:Nat),layB T tot off l=true→off≤tot →
  (∀f∈l,∀j,T f.type=some j→∃vs,CR w vs ((cs.drop f.offset).take j.size)∧ShB T Bd n f.type vs) →
  ∃vs,CR w vs (cs.drop off)∧∀f∈l,∃j,T f.type=some j∧off≤f.offset∧ShB T Bd n f.type ((vs.drop (f.offset - off)).take j.size)
 | [],off,h,hle,_=>by
  simp only [layB,beq_iff_eq] at h
  refine ⟨[],⟨by simp; omega,by simp,by simp⟩,by simp⟩
 | f::r,off,h,hle,hf=>by
  simp only [layB] at h
  split at h
  ·rename_i j hj
   simp only [Bool.and_eq_true,beq_iff_eq] at h
   obtain ⟨hoff,h⟩:=h
   have hle2:off+j.size≤tot:=lay_le r _ h
   obtain ⟨vs,hcr,hsh⟩:=hf f (by simp) j hj
   obtain ⟨ws,hcr2,hws⟩:=opn_fieldsB hlen r (off+j.size) h hle2 (fun g hg=>hf g (by simp [hg]))
   have hvl:vs.length=j.size:=by rw [hcr.len,hoff,List.length_take,List.length_drop]; omega
   refine ⟨vs++ws,?_,fun g hg=>?_⟩
   ·have:=hcr.append hcr2
    rwa [hoff,←List.drop_drop,List.take_append_drop] at this
   ·rcases List.mem_cons.1 hg with rfl | hg
    ·refine ⟨j,hj,by omega,?_⟩
     rw [hoff,Nat.sub_self,List.drop_zero,List.take_append_of_le_length (by omega),List.take_of_length_le (by omega)]
     exact hsh
    ·obtain ⟨j2,hj2,hle3,hs2⟩:=hws g hg
     refine ⟨j2,hj2,by omega,?_⟩
     rw [List.drop_append,List.drop_of_length_le (by omega),List.nil_append,hvl,show g.offset - off - j.size=g.offset - (off+j.size) by omega]
     exact hs2
  ·cases h
where
 lay_le {tot:Nat} : ∀(l:List Field) (off:Nat),layB T tot off l=true→off≤tot
  | [],off,h=>by simp only [layB,beq_iff_eq] at h; omega
  | f::r,off,h=>by
   simp only [layB] at h
   split at h
   ·simp only [Bool.and_eq_true] at h
    have:=lay_le r _ h.2
    omega
   ·cases h
theorem opnB {bk:DataW Hd→Nat} (hB:BulkOk bk) (hT:TOk P T) (hc:∀t i,T t=some i→P.cellsOf t=i.size):∀(n fuel:Nat) (t:TypeId) (cs:List Value) (x:DataW Hd×List MemPlace),ShOk T n t=true→DataW.trod enc P w 0 (fun _=>true) held fuel t cs=some x→bk x.1≤Bd→∃vs,CR w vs cs∧ShB T Bd n t vs
 | 0,_,_,_,_,h,_,_=>by simp [ShOk] at h
 | n+1,fuel,t,cs,x,h,ht,hbd=>by
  simp only [ShOk] at h
  split at h
  ·cases h
  ·rename_i i hi
   have hu:=hT.und t i hi
   have hcell:=hc t i hi
   split at h
   ·rename_i hd
    rw [hd] at hu
    cases fuel with
    | zero=>simp [DataW.trod] at ht
    | succ m =>
     unfold DataW.trod at ht
     rw [hu] at ht
     split at ht<;>simp_all
     exact ⟨_,CR.single (.bool _) rfl,by simp [ShB,hi,hd]⟩
   ·rename_i k hd
    rw [hd] at hu
    cases fuel with
    | zero=>simp [DataW.trod] at ht
    | succ m =>
     unfold DataW.trod at ht
     rw [hu] at ht
     split at ht<;>simp_all
     exact ⟨_,CR.single (.int _ _) rfl,by simp [ShB, *]⟩
   ·rename_i hd
    rw [hd] at hu
    cases fuel with
    | zero=>simp [DataW.trod] at ht
    | succ m =>
     unfold DataW.trod at ht
     rw [hu] at ht
     split at ht<;>simp_all
     exact ⟨_,CR.single (.str _) rfl,by simp [ShB, *]⟩
   ·rename_i e hd
    rw [hd] at hu
    split at h
    ·rename_i j hj
     simp only [Bool.and_eq_true,decide_eq_true_eq,Bool.or_eq_true,beq_iff_eq] at h
     obtain ⟨⟨hz,hag⟩,hok⟩:=h
     rcases open_slice hu ht with ⟨rfl,_⟩ | ⟨a,len,cap,m,q,D,Pl,rfl,_,hle,hcap,hm,hxe,hel⟩
     ·exact ⟨[.lst j.size false []],CR.single (rel_empty _ false _ _ (by simp)) rfl,by simp only [ShB,hi,hd,hj]; exact ⟨[],rfl,by simp,by simp,by simp⟩⟩
     ·simp only [if_true] at hm
      subst hm
      rw [hc e j hj] at hel
      have hxb:∀i,i<len→bk (D i)≤Bd:=fun i hi'=>Nat.le_trans (hB.elem _ _ (D i) (List.mem_map.2 ⟨i,List.mem_range.2 hi',rfl⟩)) (by rw [hxe] at hbd; exact hbd)
      have hlb:len≤Bd:=by
       have h1:=hB.len ((List.range len).map D) ((List.range (m - len)).map fun j=>D (len+j))
       rw [List.length_map,List.length_range] at h1
       rw [hxe] at hbd
       exact Nat.le_trans h1 hbd
      have hex:∀i,i<len→∃ws:List V,ShB T Bd n e ws∧ws.length=j.size∧(∀v∈ws,v.one=true)∧∀(l:Nat) v,ws[l]?=some v→∃c,w.cell? (a.add (i*j.size+l))=some c∧Rel (base (fun _=>False) w) v c:=fun i hil=>by
       obtain ⟨cs',h1,h2⟩:=hel i (by omega)
       obtain ⟨ws,hcr,hsh⟩:=opnB hB hT hc n q e cs' _ hok h2 (hxb i hil)
       obtain ⟨_,hcl,hat⟩:=World.cells?_some h1
       refine ⟨ws,hsh,by rw [hcr.len,hcl],hcr.one,fun l v hv=>?_⟩
       have hl:l<j.size:=by have:=getElem?_lt hv; rw [hcr.len,hcl] at this; exact this
       have hcv:cs'[l]?=some (cs'[l]'(by omega)):=List.getElem?_eq_getElem (by omega)
       have:=hat l hl
       rw [hcv,add_add] at this
       exact ⟨_,this,hcr.rel l v _ hv hcv⟩
      obtain ⟨W,hW⟩:=choose_lt hex
      obtain ⟨xs,hxs⟩:∃xs:List V,xs=(List.range len).map fun i=>(if isAggD j.desc then V.agg (W i) else (W i).headD .undef):=⟨_,rfl⟩
      have hxl:xs.length=len:=by simp [hxs]
      have hxat:∀(i:Nat) y,xs[i]?=some y→i<len∧y=(if isAggD j.desc then V.agg (W i) else (W i).headD .undef)∧y.cells=W i:=fun i y hy=>by
       have hil:i<len:=by have:=getElem?_lt hy; omega
       rw [hxs,List.getElem?_map,List.getElem?_range hil] at hy
       simp only [Option.map_some,Option.some.injEq] at hy
       obtain ⟨_,hwl,hw1,_⟩:=hW i hil
       refine ⟨hil,hy.symm,?_⟩
       rw [←hy]
       split
       ·rfl
       ·rename_i hna
        have hz1:j.size=1:=by rcases hag with h | h; exact absurd h hna; exact h
        obtain ⟨v,hv⟩:=List.length_eq_one_iff.1 (hwl.trans hz1)
        rw [hv]
        exact one_cells (hw1 v (by rw [hv]; simp))
      have hsh:∀y∈xs,∃ws,ShB T Bd n e ws∧ws.length=j.size∧y=(if isAggD j.desc then V.agg ws else ws.headD .undef):=fun y hy=>by
       obtain ⟨i,hi'⟩:=List.mem_iff_getElem?.1 hy
       obtain ⟨hil,hye,_⟩:=hxat i y hi'
       exact ⟨W i,(hW i hil).1,(hW i hil).2.1,hye⟩
      refine ⟨[.lst j.size false xs],CR.single ?_ rfl,by simp only [ShB,hi,hd,hj]; exact ⟨xs,rfl,by omega,by omega,hsh⟩⟩
      ·have hspot:0<len→a.spot=none∧a.block<w.heap.size:=fun h0=>by
        obtain ⟨_,hwl,_,hcv⟩:=hW 0 h0
        obtain ⟨c,hcc,_⟩:=hcv 0 (W 0)[0] (List.getElem?_eq_getElem (by omega))
        simp only [Nat.zero_mul,Nat.add_zero] at hcc
        have hb:=World.block_lt_of_cell? w _ hcc
        have hs:=spot_cell hcc
        simpa [Addr.add] using And.intro hs hb
       have:=Rel.lst (s:=base (fun _=>False) w) j.size false xs (some a) m a.block a.off (fun i l=>(w.cell? ⟨a.block,a.off+i*j.size+l,none⟩).getD undef) (by omega) (by simp) (fun h0=>by
         obtain ⟨h1,h2⟩:=hspot (by omega)
         exact ⟨by cases a; simp_all,h2,fun h=>h,fun k hk=>by have:=hk.1; simp [base] at this⟩)
        (fun y hy=>by
         obtain ⟨i,hi'⟩:=List.mem_iff_getElem?.1 hy
         obtain ⟨hil,_,hyc⟩:=hxat i y hi'
         rw [hyc]
         exact ⟨(hW i hil).2.1,(hW i hil).2.2.1⟩)
        (fun i y l c hy hcc=>by
         obtain ⟨hil,_,hyc⟩:=hxat i y hy
         rw [hyc] at hcc
         obtain ⟨u,hu1,_⟩:=(hW i hil).2.2.2 l c hcc
         rw [addr_at (hspot (by omega)).1,←Nat.add_assoc] at hu1
         show w.cell? _=_
         rw [hu1]; rfl)
        (fun i y l c hy hcc=>by
         obtain ⟨hil,_,hyc⟩:=hxat i y hy
         rw [hyc] at hcc
         obtain ⟨u,hu1,hu2⟩:=(hW i hil).2.2.2 l c hcc
         rw [addr_at (hspot (by omega)).1,←Nat.add_assoc] at hu1
         rw [hu1]
         exact hu2)
       rwa [hxl] at this
    ·cases h
   ·rename_i fs hd
    rw [hd] at hu
    simp only [Bool.and_eq_true,List.all_eq_true] at h
    obtain ⟨xs,q,_,hxe,hlen,hxl,hf⟩:=DataW.trod_struct hu ht
    rw [hcell] at hlen
    obtain ⟨vs,hcr,hvs⟩:=opn_fieldsB (T:=T) (Bd:=Bd) (w:=w) (n:=n) hlen fs.toList 0 h.1 (Nat.zero_le _) (fun f hfm j hj=>by
     obtain ⟨k,hk⟩:=List.mem_iff_getElem?.1 hfm
     have hk':fs[k]?=some f:=by simpa using hk
     have h1:=hf k f hk'
     have hkl:k<xs.length:=by rw [hxl]; exact (Array.getElem?_eq_some_iff.1 hk').1
     rw [List.getElem?_eq_getElem hkl,hc f.type j hj] at h1
     exact opnB hB hT hc n q f.type _ _ (h.2 f hfm) h1 (Nat.le_trans (hB.part _ _ (List.mem_map.2 ⟨_,List.getElem_mem hkl,rfl⟩)) (by rw [hxe] at hbd; exact hbd)))
    rw [List.drop_zero] at hcr
    refine ⟨vs,hcr,?_⟩
    simp only [ShB,hi,hd]
    refine ⟨by rw [hcr.len,hlen],fun f hfm=>?_⟩
    obtain ⟨j,hj,_,hs⟩:=hvs f hfm
    exact ⟨j,hj,by simpa using hs⟩
   ·cases h
end
end
end
end Go.AM
namespace Go.Proofs.YtjogkbekekdkjaaGreatDoor
section
open Go Go.AM
theorem bulk_one {H:Type} (d:DataW H):1≤Rows.uptoBulk d:=by
 cases d with
 | lit l=>cases l<;>simp [Rows.uptoBulk]
 | nil=>simp [Rows.uptoBulk]
 | ptr d=>simp [Rows.uptoBulk]
 | slice a b=>simp [Rows.uptoBulk]
 | agg l=>simp [Rows.uptoBulk]
 | iface t d=>simp [Rows.uptoBulk]
 | map l=>simp [Rows.uptoBulk]
 | held h=>simp [Rows.uptoBulk]
theorem bulk_mem {H:Type} {d:DataW H} : ∀{l:List (DataW H)},d∈l→Rows.uptoBulk d≤Rows.uptoBulkAll l
 | [],h=>by cases h
 | x::r,h=>by
  rw [Rows.uptoBulkAll]
  rcases List.mem_cons.1 h with rfl | h
  ·omega
  ·have:=bulk_mem h; omega
theorem bulk_len {H:Type} : ∀l:List (DataW H),l.length≤Rows.uptoBulkAll l
 | []=>by simp
 | x::r=>by
  rw [Rows.uptoBulkAll,List.length_cons]
  have:=bulk_one x
  have:=bulk_len r
  omega
theorem bulk_ok {H:Type} : BulkOk (H:=H) Rows.uptoBulk where
 len es sp:=by rw [Rows.uptoBulk]; have:=bulk_len es; omega
 elem es sp d h:=by rw [Rows.uptoBulk]; have:=bulk_mem h; omega
 part ps d h:=by rw [Rows.uptoBulk]; have:=bulk_mem h; omega
theorem bulk_le {H:Type} {l:List (DataW H)} (h:Rows.uptoSmall H l=true):Rows.uptoBulkAll l≤1048576:=of_decide_eq_true h
def ixI (xs:List Int) (x:Int) (i:Nat):Int:=if h:i<xs.length then (if x=xs[i] then (i:Int) else ixI xs x (i+1)) else -1
termination_by xs.length - i
theorem ixI_mem (xs:List Int) (x:Int) (i:Nat):decide (0≤ixI xs x i)=memB (xs.drop i) x:=by
 fun_induction ixI xs x i with
 | case1 i h h0=>rw [List.drop_eq_getElem_cons h,memB_cons]; simp [h0]
 | case2 i h h0 ih=>rw [List.drop_eq_getElem_cons h,memB_cons,ih]; simp [h0]
 | case3 i h=>rw [List.drop_of_length_le (by omega)]; rfl
theorem index64 (xs:List Int) (x:Int) (f:Bool) (hl:xs.length≤1000000):ConP Tryz.prog 59 [L1 f xs,.int .i64 x] fun r=>r = .int .i64 (ixI xs x 0):=by
 refine conP_of_conH (conH_of_W tok Tryz.func59 rfl rfl ?_)
 refine wx ?_
 simp -implicitDefEqProofs -dsimp [Tryz.f59,List.replicate,L1]
 refine lw_of (W_loopG [4,5,8,9,10,11,12,13,14,15,16,17,18] (σ:=Nat) (fun i=>ixI xs x i=ixI xs x 0) (fun i=>xs.length - i) (fun i=>[(8,.int .i64 i)]) (fun _=>[]) 0 rfl (by simp) rfl (by simp) ?_)
 intro i hx
 by_cases hb:i<xs.length
 ·rw [ixI,dif_pos hb] at hx
  by_cases hq:x=xs[i]
  ·rw [if_pos hq] at hx
   refine wx ?_
   simp -implicitDefEqProofs -dsimp [L1,encI,hb,hq]
   rw [←hq]
   exact hx
  ·rw [if_neg hq] at hx
   refine wx ?_
   simp -implicitDefEqProofs -dsimp [L1,encI,hb,hq,wrapS i (by omega)]
   refine stop_of ?_
   refine ⟨i+1,hx,by omega,?_,⟨[],rfl⟩,?_,?_⟩<;>simp [L1,encI]
 ·rw [ixI,dif_neg hb] at hx
  refine wx ?_
  simp -implicitDefEqProofs -dsimp [L1,hb]
  exact hx
theorem contains64 (xs:List Int) (x:Int) (f:Bool) (hl:xs.length≤1000000):ConP Tryz.prog 23 [L1 f xs,.int .i64 x] fun r=>r = .bool (memB xs x):=by
 have h0:=ixI_mem xs x 0
 rw [List.drop_zero] at h0
 refine conP_of_conH (conH_of_W tok Tryz.func23 rfl rfl ?_)
 refine wx ?_
 simp -implicitDefEqProofs -dsimp [Tryz.f23,List.replicate]
 refine (callP (index64 xs x f hl) (by simp)).mono ?_
 rintro r H' ⟨rfl,rfl⟩
 simp -implicitDefEqProofs -dsimp []
 rw [←h0]
theorem equal64 (us bs:List Int) (f g:Bool) (hl:us.length≤1000000) (hl2:bs.length≤1000000):ConP Tryz.prog 35 [L1 f us,L1 g bs] fun r=>r = .bool (decide (us=bs)):=by
 by_cases hn:us.length=bs.length
 ·refine conP_of_conH (conH_of_W tok Tryz.func35 rfl rfl ?_)
  refine wx ?_
  simp -implicitDefEqProofs -dsimp [Tryz.f35,List.replicate,L1,hn]
  refine lw_of (W_loopG [4,5,13,14,15,16,17,18,19,20,21,22,23,24,25] (σ:=Nat) (fun i=>i≤us.length∧us.take i=bs.take i) (fun i=>us.length - i) (fun i=>[(13,.int .i64 i)]) (fun _=>[]) 0 ⟨by omega,by simp⟩ (by simp) rfl (by simp) ?_)
  rintro i ⟨h1,h2⟩
  by_cases hb:i<bs.length
  ·have ha:i<us.length:=by omega
   by_cases hq:us[i]=bs[i]
   ·refine wx ?_
    simp -implicitDefEqProofs -dsimp [L1,encI,ha,hb,hq,wrapS i (by omega)]
    refine .inr ⟨stop_of (by kernel_rfl),?_⟩
    refine stop_of ?_
    refine ⟨i+1,⟨by omega,by rw [List.take_succ_eq_append_getElem ha,List.take_succ_eq_append_getElem hb,h2,hq]⟩,by omega,?_,⟨[],rfl⟩,?_,?_⟩<;>simp [L1,encI]
   ·refine wx ?_
    simp -implicitDefEqProofs -dsimp [L1,encI,ha,hb,hq]
    refine .inr ⟨stop_of (by kernel_rfl),?_⟩
    rintro rfl
    exact hq rfl
  ·refine wx ?_
   simp -implicitDefEqProofs -dsimp [L1,hb]
   rw [List.take_of_length_le (by omega),List.take_of_length_le (by omega)] at h2
   exact h2
 ·have hne:¬us=bs:=fun h=>hn (by rw [h])
  refine conP_of_conH (conH_of_W tok Tryz.func35 rfl rfl ?_)
  refine wx ?_
  simp -implicitDefEqProofs -dsimp [Tryz.f35,List.replicate,L1,hn,show ¬((us.length:Int)=bs.length) by omega]
  exact hne
def hasB (s:Int) (i:Nat):Bool:=IntKind.u32.wrap ↑((s.fdiv (2^min i IntKind.u32.bits) % 2^IntKind.u32.bits).toNat &&& 1 % 2^IntKind.u32.bits) == 1
theorem has02 (s:Int) (i:Nat) (hi:i<32):ConP Tryz.prog 106 [.int .u32 s,.int .i64 i] fun r=>r = .bool (hasB s i):=by
 refine conP_of_conH (conH_of_W tok Tryz.func106 rfl rfl ?_)
 refine wx ?_
 simp -implicitDefEqProofs -dsimp [Tryz.f106,List.replicate,show (i:Int)<32 by omega]
 rfl
theorem cap8 (n:Nat) (h:n≤1000000000):n≤9223372036854775806∧(n+1)*8≤140737488355328:=by omega
theorem cap24 (n:Nat) (h:n≤1000000000):n≤9223372036854775806∧(n+1)*24≤140737488355328:=by omega
theorem capL8 (n:Nat) (h:n≤1000000000):n≤9223372036854775807∧n*8≤140737488355328:=by omega
theorem wrapN (n:Nat) (h:n<9223372036854775807):IntKind.i64.wrap (n:Int)=n:=wrap64 (by omega) (by omega)
def dropE (l:List (List Int)) (i k:Nat):Bool:=within (eAt l k) (eAt l i)&&(decide ((eAt l k).length<(eAt l i).length)||decide (k<i))
def keepTo (l:List (List Int)) (i:Nat):Nat→Bool
 | 0=>true
 | k+1=>keepTo l i k&&!dropE l i k
def keepE (l:List (List Int)) (i:Nat):Bool:=keepTo l i l.length
def insPos (acc:List (List Int)) (e:List Int):Nat→Nat
 | 0=>0
 | k+1=>if lexLt e (eAt acc k) then insPos acc e k else k+1
def insAt (acc:List (List Int)) (e:List Int) (k:Nat):List (List Int):=acc.take k++e::acc.drop k
def insE (acc:List (List Int)) (e:List Int):List (List Int):=insAt acc e (insPos acc e acc.length)
def edgesTo (l:List (List Int)):Nat→List (List Int)
 | 0=>[]
 | i+1=>if keepE l i then insE (edgesTo l i) (eAt l i) else edgesTo l i
def edgesF (l:List (List Int)):List (List Int):=edgesTo l l.length
theorem insE_len (acc:List (List Int)) (e:List Int):(insE acc e).length=acc.length+1:=by simp [insE,insAt]; omega
theorem edgesTo_len (l:List (List Int)):∀i,(edgesTo l i).length≤i
 | 0=>by simp [edgesTo]
 | i+1=>by
  have:=edgesTo_len l i
  simp only [edgesTo]
  split
  ·rw [insE_len]; omega
  ·omega
theorem insE_mem {acc:List (List Int)} {e x:List Int} (h:x∈insE acc e):x=e∨x∈acc:=by
 simp only [insE,insAt,List.mem_append,List.mem_cons] at h
 rcases h with h | h | h
 ·exact .inr (List.mem_of_mem_take h)
 ·exact .inl h
 ·exact .inr (List.mem_of_mem_drop h)
theorem edgesTo_mem {l:List (List Int)} : ∀{i:Nat},i≤l.length→∀{x:List Int},x∈edgesTo l i→x∈l
 | 0,_,x,h=>by simp [edgesTo] at h
 | i+1,hi,x,h=>by
  simp only [edgesTo] at h
  split at h
  ·rcases insE_mem h with rfl | h
   ·rw [getD_at (by omega)]; exact List.getElem_mem _
   ·exact edgesTo_mem (by omega) h
  ·exact edgesTo_mem (by omega) h
theorem insAt_k (acc:List (List Int)) (e:List Int) (k:Nat) (hk:k≤acc.length) (h:k<(insAt acc e k).length):(insAt acc e k)[k]=e:=by
 simp [insAt,hk]
theorem insAt_p (acc:List (List Int)) (e:List Int) (k:Nat) (hk:k≤acc.length) (h1:1≤k) (h:k - 1<(insAt acc e k).length):(insAt acc e k)[k - 1]=eAt acc (k - 1):=by
 have:k - 1<acc.length:=by omega
 have hl:k - 1<(acc.take k).length:=by simp; omega
 simp only [insAt]
 rw [List.getElem_append_left hl]
 simp [eAt,this]
theorem insAt_len (acc:List (List Int)) (e:List Int) (k:Nat):(insAt acc e k).length=acc.length+1:=by simp [insAt]; omega
theorem insAt_swap (acc:List (List Int)) (e:List Int) (k:Nat) (hk:k≤acc.length) (h1:1≤k):((insAt acc e k).set k (eAt acc (k - 1))).set (k - 1) e=insAt acc e (k - 1):=by
 obtain ⟨m,rfl⟩:∃m,k=m+1:=⟨k - 1,by omega⟩
 have hm:m<acc.length:=by omega
 have hl:(acc.take m).length=m:=by simp; omega
 have e1:acc.take (m+1)=acc.take m++[acc[m]]:=List.take_succ_eq_append_getElem hm
 have e2:acc.drop m=acc[m]::acc.drop (m+1):=List.drop_eq_getElem_cons hm
 have e3:eAt acc m=acc[m]:=by simp [eAt,hm]
 simp only [insAt,Nat.add_sub_cancel,e1,e2,e3]
 generalize acc.take m=A at hl
 generalize acc.drop (m+1)=D
 subst hl
 simp [List.set_append]
theorem edges37 (l:List (List Int)) (g:Bool) (hl:l.length≤1000000) (hls:∀e∈l,e.length≤1000000) (hne:∀e∈l,e≠[]):ConP Tryz.prog 86 [LL g l] fun r=>r=LL false (edgesF l):=by
 refine conP_of_conH (conH_of_W (tok_flag tok (fun t=>t == 34)) Tryz.func86 rfl rfl ?_)
 refine W_x (tok_flag tok (fun t=>t == 34)) mixed ?_
 simp -implicitDefEqProofs -dsimp [Tryz.f86,List.replicate,LL,L1,flagT]
 refine lw_of (W_own 34 1 [3] (by simp) (W_loopM 93 [3,4,5,6,7,8,9,10,11,12,13,14,15,16,17,18,19,20,21,22,23,24,25,26,27,28,29,30,31,32,33,34,35,36,37,38,39,40,41,42,43,44,45,46,47,48,49,50,51,52,53,54,55,56,57,58,59,60,61,62,63,64,65,66,67,68,69,70,71,72,73,74,75,76,77,78,79,80,81,82,83,84,85,86,87,88,89,90,91,92] (by simp [mB]<;>rfl) (σ:=Nat) (fun i=>i≤l.length) (fun i=>l.length - i) (fun i=>[(4,.int .i64 i),(3,.buf 0 0 (edgesTo l i).length (edgesTo l i).length)]) (fun i=>[B.buf 34 1 ((edgesTo l i).map (L1 false)) false]) 0 (by omega) (by simp [edgesTo]) (by simp [edgesTo]) (by simp) ?_))
 intro i hi N Q hN hQ
 by_cases hb:i<l.length
 ·have hei:=hls l[i] (List.getElem_mem hb)
  have hni:=hne l[i] (List.getElem_mem hb)
  have hal:=edgesTo_len l i
  have hsi:edgesTo l (i+1)=if keepE l i then insE (edgesTo l i) (eAt l i) else edgesTo l i:=rfl
  have hEi:eAt l i=l[i]:=getD_at hb
  rw [hEi] at hsi
  obtain ⟨acc,hacc⟩:∃acc,acc=edgesTo l i:=⟨_,rfl⟩
  rw [←hacc] at hal hsi ⊢
  refine W_x (tok_flag tok (fun t=>t == 34)) mixed ?_
  simp -implicitDefEqProofs -dsimp [LL,hb,L1,flagT]
  refine lw_of (W_loopM 47 [5,6,14,15,16,17,18,19,20,21,22,23,24,25,26,27,28,29,30,31,32,33,34,35,36,37,38,39,40,41,42,43,44,45,46] (by simp [mB]<;>rfl) (σ:=Nat) (fun k=>k≤l.length) (fun k=>l.length - k) (fun k=>[(6,.int .i64 k),(5,.bool (keepTo l i k))]) (fun _=>[B.buf 34 1 (acc.map (L1 false)) false]) 0 (by omega) (by simp [keepTo]) (by simp) (by simp) ?_)
  intro k hk N2 Q2 hN2 hQ2
  by_cases hkb:k<l.length
  ·
   have hek:=hls l[k] (List.getElem_mem hkb)
   have hc:=within37 l[k] l[i] false false hek hei
   have hEk:eAt l k=l[k]:=getD_at hkb
   have hd:keepTo l i (k+1)=(keepTo l i k&&!(within l[k] l[i]&&(decide (l[k].length<l[i].length)||decide (k<i)))):=by simp only [keepTo,dropE,hEk,hEi]
   simp only [L1] at hc
   refine W_x (tok_flag tok (fun t=>t == 34)) mixed ?_
   simp -implicitDefEqProofs -dsimp [LL,L1,hb,hkb,L1,flagT]
   refine .inr ⟨stop_of (by kernel_rfl),?_⟩
   refine cy_of _ (callP (hc) (by simp)) ?_
   cases h1:within l[k] l[i]
   ·rw [h1] at hd
    simp -implicitDefEqProofs -dsimp [wrapS k (by omega),L1,flagT]
    refine hN2 (k+1) _ _ (by omega) (by omega) ?_ ⟨[],?_⟩ ?_ ?_<;>simp [or_imp,forall_and,L1,encI,hd]
   ·by_cases h2:l[k].length<l[i].length
    ·simp -implicitDefEqProofs -dsimp [wrapS k (by omega),hb,hkb,h2,L1,flagT]
     refine hN2 (k+1) _ _ (by omega) (by omega) ?_ ⟨[],?_⟩ ?_ ?_<;>simp [or_imp,forall_and,L1,encI,hd,h1,h2]
    ·by_cases h3:k<i
     ·simp -implicitDefEqProofs -dsimp [wrapS k (by omega),hb,hkb,h2,h3,L1,flagT]
      refine hN2 (k+1) _ _ (by omega) (by omega) ?_ ⟨[],?_⟩ ?_ ?_<;>simp [or_imp,forall_and,L1,encI,hd,h1,h2,h3]
     ·simp -implicitDefEqProofs -dsimp [wrapS k (by omega),hb,hkb,h2,h3,L1,flagT]
      refine hN2 (k+1) _ _ (by omega) (by omega) ?_ ⟨[],?_⟩ ?_ ?_<;>simp [or_imp,forall_and,L1,encI,hd,h1,h2,h3]
  ·obtain rfl:k=l.length:=by omega
   have hke:keepTo l i l.length=keepE l i:=rfl
   refine W_x (tok_flag tok (fun t=>t == 34)) mixed ?_
   simp -implicitDefEqProofs -dsimp [hkb,L1,flagT]
   refine hQ2 _ _ _ ?_
   simp -implicitDefEqProofs -dsimp [L1,flagT]
   cases hkp:keepE l i
   ·rw [hkp] at hsi hke
    simp -implicitDefEqProofs -dsimp [hke,wrapS i (by omega),L1,flagT]
    refine hN (i+1) _ _ (by omega) (by omega) ?_ ⟨[],?_⟩ ?_ ?_<;>simp [or_imp,forall_and,L1,encI,hsi]
   ·rw [hkp] at hsi hke
    simp -implicitDefEqProofs -dsimp [hke,hb,hni,cap24 acc.length (by omega),capL8 l[i].length (by omega),wrapN acc.length (by omega),L1,flagT]
    refine lw_of (W_loopM 93 [7,61,62,63,64,65,66,67,68,69,70,71,72,73,74,75,76,77,78,79,80,81,82,83,84,85,86,87,88,89,90,91,92] (by simp [mB]<;>rfl) (σ:=Nat) (fun k=>k≤acc.length∧insPos acc l[i] k=insPos acc l[i] acc.length) (fun k=>k) (fun k=>[(7,.int .i64 k)]) (fun k=>[B.buf 34 1 ((insAt acc l[i] k).map (L1 false)) false]) acc.length ⟨by omega,rfl⟩ (by simp) (by simp [insAt,L1]) (by simp) ?_)
    rintro k ⟨hk1,hk2⟩ N3 Q3 hN3 hQ3
    by_cases hk0:k=0
    ·subst hk0
     have hfin:edgesTo l (i+1)=insAt acc l[i] 0:=by rw [hsi,if_pos rfl,insE,←hk2]; rfl
     refine W_x (tok_flag tok (fun t=>t == 34)) mixed ?_
     simp -implicitDefEqProofs -dsimp [L1,flagT]
     refine .inr ⟨stop_of (by kernel_rfl),?_⟩
     refine hQ3 _ _ _ ?_
     simp -implicitDefEqProofs -dsimp [wrapS i (by omega),L1,flagT]
     refine hN (i+1) _ _ (by omega) (by omega) ?_ ⟨[],?_⟩ ?_ ?_<;>simp [or_imp,forall_and,L1,encI,hfin,insAt_len]
    ·have hcl:=insAt_len acc l[i] k
     have hck:=insAt_k acc l[i] k hk1 (by omega)
     have hcp:=insAt_p acc l[i] k hk1 (by omega) (by omega)
     have hsw:=insAt_swap acc l[i] k hk1 (by omega)
     have hbk:k<(insAt acc l[i] k).length:=by omega
     have hbp:k - 1<(insAt acc l[i] k).length:=by omega
     obtain ⟨a,ha⟩:∃a,a=eAt acc (k - 1):=⟨_,rfl⟩
     rw [←ha] at hcp hsw
     have hal2:a.length≤1000000:=hls a (edgesTo_mem hi (by rw [←hacc,ha,getD_at (by omega)]; exact List.getElem_mem _))
     have hc:=before37 l[i] a false false hei hal2
     obtain ⟨cur,hcur⟩:∃cur,cur=insAt acc l[i] k:=⟨_,rfl⟩
     rw [←hcur] at hcl hsw hbk hbp ⊢
     have hck:cur[k]=l[i]:=by subst hcur; exact hck
     have hcp:cur[k - 1]=a:=by subst hcur; exact hcp
     have hpos:insPos acc l[i] k=if lexLt l[i] a then insPos acc l[i] (k - 1) else k:=by
      obtain ⟨m,rfl⟩:∃m,k=m+1:=⟨k - 1,by omega⟩
      rw [ha]; rfl
     simp only [L1] at hc
     have hgk:cur[k]?=some l[i]:=by rw [List.getElem?_eq_getElem hbk,hck]
     have hgp:cur[k - 1]?=some a:=by rw [List.getElem?_eq_getElem hbp,hcp]
     have hi1:(k:Int)<(acc.length:Int)+1:=by omega
     have hi2:((k - 1:Nat):Int)<(acc.length:Int)+1:=by omega
     cases hlt:lexLt l[i] a
     ·rw [hlt] at hc hpos
      have hfin:edgesTo l (i+1)=cur:=by rw [hsi,if_pos rfl,insE,←hk2,hpos,hcur]; rfl
      refine W_x (tok_flag tok (fun t=>t == 34)) mixed ?_
      simp -implicitDefEqProofs -dsimp [hgk,hgp,hcl,hi1,hi2,wrapP k (by omega) (by omega),show 0<k by omega,L1,flagT]
      refine .inr ⟨stop_of (by kernel_rfl),?_⟩
      refine cy_of _ (callP (hc) (by simp)) ?_
      simp -implicitDefEqProofs -dsimp [L1,flagT]
      refine hQ3 _ _ _ ?_
      simp -implicitDefEqProofs -dsimp [wrapS i (by omega),L1,flagT]
      refine hN (i+1) _ _ (by omega) (by omega) ?_ ⟨[],?_⟩ ?_ ?_<;>simp [or_imp,forall_and,L1,encI,hfin,hcl]
     ·rw [hlt] at hc hpos
      refine W_x (tok_flag tok (fun t=>t == 34)) mixed ?_
      simp -implicitDefEqProofs -dsimp [hgk,hgp,hcl,hi1,hi2,wrapP k (by omega) (by omega),show 0<k by omega,L1,flagT]
      refine .inr ⟨stop_of (by kernel_rfl),?_⟩
      refine cy_of _ (callP (hc) (by simp)) ?_
      simp -implicitDefEqProofs -dsimp [L1,flagT]
      have hs1:((cur.map (L1 false)).set k (V.lst 1 false (a.map encI)))[k - 1]?=some (V.lst 1 false (a.map encI)):=by
       rw [List.getElem?_set_ne (by omega),List.getElem?_map,hgp]; rfl
      have hs2:((cur.map (L1 false)).set k (V.lst 1 false (a.map encI))).set (k - 1) (V.lst 1 false (l[i].map encI))=(insAt acc l[i] (k - 1)).map (L1 false):=by
       rw [←hsw]; simp only [List.map_set,L1]
      refine lw_of (W_drawT (tok_flag tok (fun t=>t == 34)) mixed [15,17] [(2,[1]),(3,[1]),(4,[1])] [] (by kernel_rfl) fun C K hC hK=>?_)
      simp -implicitDefEqProofs [hgk,hgp,hcl,hi1,hi2,wrapP k (by omega) (by omega),hs1,hs2,L1,flagT]
      refine hK _ _ ?_
      simp -implicitDefEqProofs -dsimp [wrapP k (by omega) (by omega),L1,flagT]
      refine hN3 (k - 1) _ _ ⟨by omega,by rw [←hk2,hpos]; rfl⟩ (by omega) ?_ ⟨[],?_⟩ ?_ ?_<;>simp [or_imp,forall_and,L1,encI]
 ·have hp:edgesTo l i=edgesF l:=by unfold edgesF; congr 1; omega
  refine W_x (tok_flag tok (fun t=>t == 34)) mixed ?_
  simp -implicitDefEqProofs -dsimp [hb,L1,flagT]
  refine hQ _ _ _ ?_
  simp -implicitDefEqProofs -dsimp [L1,flagT]
  rw [←hp]
  exact exp_buf rfl (by simp) (by simp)
def encU (n:Int):V:=.int .u8 n
@[simp] theorem encU_pure (n:Int):AM.Pure (encU n):=by simp [encU]
theorem asc_pair (xs:List Int):asc xs=true↔xs.Pairwise (· < ·):=by
 rw [List.pairwise_iff_getElem]
 constructor
 ·intro h i j hi hj hij; exact asc_lt h i j hi hj hij
 ·intro h
  exact (ascFrom_iff xs 1 (by omega)).2 fun j hj hl=>h (j - 1) j (by omega) hl (by omega)
def ixF (p:List Int→Bool) (es:List (List Int)) (i:Nat):Int:=if h:i<es.length then (if p es[i] then (i:Int) else ixF p es (i+1)) else -1
termination_by es.length - i
theorem ixF_any (p:List Int→Bool) (es:List (List Int)) (i:Nat):decide (0≤ixF p es i)=(es.drop i).any p:=by
 fun_induction ixF p es i with
 | case1 i h h0=>rw [List.drop_eq_getElem_cons h,List.any_cons,h0]; simp
 | case2 i h h0 ih=>rw [List.drop_eq_getElem_cons h,List.any_cons,ih]; simp [h0]
 | case3 i h=>rw [List.drop_of_length_le (by omega)]; rfl
theorem idxFunc (H:List B) (fv:V) (p:List Int→Bool) (es:List (List Int)) (g:Bool) (hes:es.length≤1000000) (hH:∀bl∈H,rbB H.length bl) (hfv:rb H.length fv)
  (hp:∀m∈es,WCall Tryz.prog fv [L1 false m] H fun r H'=>r = .bool (p m)∧H'=H):ConH Tryz.prog 172 [LL g es,fv] H fun r H'=>r = .int .i64 (ixF p es 0)∧H'=H:=by
 refine conH_of_W tok Tryz.func172 rfl rfl ?_
 refine wx ?_
 simp -implicitDefEqProofs -dsimp [Tryz.f172,List.replicate,LL]
 refine lw_of (W_loopM 19 [4,5,8,9,10,11,12,13,14,15,16,17,18] (by simp [mB]<;>rfl) (σ:=Nat) (fun i=>ixF p es i=ixF p es 0) (fun i=>es.length - i) (fun i=>[(8,.int .i64 i)]) (fun _=>H) 0 rfl (by simp) rfl (by simp) ?_)
 intro i hx N Q hN hQ
 by_cases hb:i<es.length
 ·rw [ixF,dif_pos hb] at hx
  have hc:=hp es[i] (List.getElem_mem hb)
  cases hq:p es[i]
  ·rw [hq] at hc hx
   refine wx ?_
   simp -implicitDefEqProofs -dsimp [hb]
   refine hc.mono ?_
   rintro r H' ⟨rfl,rfl⟩
   simp -implicitDefEqProofs -dsimp [wrapS i (by omega)]
   refine hN (i+1) _ _ (by simpa using hx) (by omega) (by simp) ⟨[],by simp⟩ (by simp; exact hfv) hH
  ·rw [hq] at hc hx
   refine wx ?_
   simp -implicitDefEqProofs -dsimp [hb]
   refine hc.mono ?_
   rintro r H' ⟨rfl,rfl⟩
   simp -implicitDefEqProofs -dsimp []
   refine hQ _ _ _ ?_
   simp -implicitDefEqProofs -dsimp []
   simpa using hx
 ·rw [ixF,dif_neg hb] at hx
  refine wx ?_
  simp -implicitDefEqProofs -dsimp [hb]
  refine hQ _ _ _ ?_
  simp -implicitDefEqProofs -dsimp []
  simpa using hx
theorem contFunc (H:List B) (fv:V) (p:List Int→Bool) (es:List (List Int)) (g:Bool) (hes:es.length≤1000000) (hH:∀bl∈H,rbB H.length bl) (hfv:rb H.length fv)
  (hp:∀m∈es,WCall Tryz.prog fv [L1 false m] H fun r H'=>r = .bool (p m)∧H'=H):ConH Tryz.prog 117 [LL g es,fv] H fun r H'=>r = .bool (es.any p)∧H'=H:=by
 have h0:=ixF_any p es 0
 rw [List.drop_zero] at h0
 have hc:=idxFunc H fv p es g hes hH hfv hp
 refine conH_of_W tok Tryz.func117 rfl rfl ?_
 refine wx ?_
 simp -implicitDefEqProofs -dsimp [Tryz.f117,List.replicate]
 refine (show WCall Tryz.prog (.fn 172 []) _ H _ from by simpa [WCall] using hc).mono ?_
 rintro r H' ⟨rfl,rfl⟩
 simp -implicitDefEqProofs -dsimp []
 rw [←h0]
end
end Go.Proofs.YtjogkbekekdkjaaGreatDoor
namespace Go.Proofs.YtjogkbekekdkjaaGreatDoor
section
open Go Go.AM Go.RowKit
theorem infoC2:(Tryz.prog.info? 2).map (fun i=>(i.zero,i.size,i.bytes))=some (some (.int .i64 0),1,8):=by kernel_rfl
theorem cloneE (A:Option Addr) (cap:Nat) (w:World) :
  Calls Tryz.prog 15 #[.slice A 0 cap] w fun e w'=>∃v,e = .returned v∧w'.ownsRow w.heap.size 2 1 v 0 []∧Below w.heap.size w w':=by
 have hnil:=fun W A n c=>Lib.run_eql_slice_nil (P:=Tryz.prog) W 34 2 A n c 0 0 Tryz.underlying34
 cases A with
 | none =>
  go_enter Tryz.func15,Tryz.ntmps15
  go_wp2
  go_ret
  exact ⟨_,rfl,World.ownsRow_nil _ _ _ _,Below.refl _ _⟩
 | some ad =>
  obtain ⟨i0,hi,hz0,hz1,hz2⟩:=info_parts infoC2
  have hown:(w.alloc (.cells #[] 2)).ownsRow w.heap.size 2 1 (.slice (some ⟨w.heap.size,0,none⟩) 0 0) 0 []:=World.ownsRow_lit w #[] 0 (Nat.le_refl _) (by simp [maxLen]) (by simp)
  have hnews:∀j u,([]:List Value)[j]?=some u→(w.alloc (.cells #[] 2)).cell? (ad.add j)=some u:=by
   intro j u hu
   simp at hu
  have hone:∀u∈([]:List Value),u.oneCell'=true:=by intro u hu; cases hu
  have h63:0+0≤maxLen:=by simp [maxLen]
  have hby:(0+0)*8≤140737488355328:=by omega
  have hlen:([]:List Value).length=0*1:=by simp
  have Hi:=Lib.hid (show Tryz.prog.info? 2=some i0∧i0.zero=some _∧i0.size=1∧i0.bytes=8 from ⟨hi,hz0,hz1,hz2⟩)
  have Hw:=Lib.hid (And.intro hown (And.intro hnews (And.intro hone (And.intro h63 (And.intro hby hlen)))))
  clear hnews hone hown hi hz0 hz1 hz2 h63 hby hlen
  go_enter Tryz.func15,Tryz.ntmps15
  go_wp2_with (at_builtin; refine wpList_append_own _ rfl _ _ 34 rfl w.heap.size 2 i0 _ 1 8 Tryz.underlying34 Hi.out.1 Hi.out.2.1 Hi.out.2.2.1 Hi.out.2.2.2 rfl (by omega) (.slice (some ⟨w.heap.size,0,none⟩) 0 0) 0 [] rfl Hw.out.1 ad 0 cap [] rfl Hw.out.2.2.2.2.2 Hw.out.2.1 Hw.out.2.2.1 Hw.out.2.2.2.1 Hw.out.2.2.2.2.1 (by simp) ?_; intro v1 w1 ho hg hn; have Ho:=Lib.hid ho; have Hg:=Lib.hid hg; have Hn:=Lib.hid hn; clear ho hg hn)
  go_ret
  exact ⟨v1,rfl,by have:=Ho.out; simpa using this,((Below.refl _ _).alloc (Nat.le_refl _) _).grown Hg.out (by simp) (by simp [Value.ownBlock])⟩
theorem conO_own {f:FuncId} {args:List V} {e:Nat} (hE:AM.Enters Tryz.prog f) (h:∀(F:Nat→Prop) (w:World) (vals:Array Value),vals.size=args.length→(∀(i:Nat) a u,args[i]?=some a→vals[i]?=some u→Rel (AM.base F w) a u) →
  Calls Tryz.prog f vals w fun e' w'=>∃v,e' = .returned v∧w'.ownsRow w.heap.size e 1 v 0 []∧Below w.heap.size w w'):ConO Tryz.prog f args fun e' z ys=>e'=e∧z=1∧ys=[]:=by
 refine ⟨hE,fun F w vals hZ hF hsz hrel=>(h F w vals hsz hrel).mono fun e' w' ⟨v,he,hown,hb⟩=>?_⟩
 obtain ⟨_,⟨hv,_⟩ | ⟨g,c,cur,hv,hg,hc,hn,hm,hs,_⟩⟩:=hown
 ·have hF':∀b,F b→b<w'.heap.size:=fun b hb'=>Nat.lt_of_lt_of_le (hF b hb') hb.size
  obtain ⟨p1,_⟩:=push0 (AM.base_good hF') (w:=w') 0 e 1 false rfl rfl rfl (Nat.le_refl _) (fun _ _=>rfl)
  refine ⟨v,e,1,[],none,0,0,he,hv,fun h=>absurd rfl h,by simp,fun h=>absurd rfl h,?_,hb,rfl,rfl,rfl⟩
  refine ⟨hF',fun k hk=>absurd (hk.2 e 1 [] false (by have:=hk.1; simp at this; subst this; rfl)) (by simp),fun j k hj hk _=>by have:=hj.1; have:=hk.1; simp at *; omega,fun k bl hk=>?_⟩
  have hk0:k=0:=by have:=getElem?_lt hk; simp at this; omega
  subst hk0
  simp at hk
  subst hk
  exact ⟨#[],fun h=>absurd rfl h,by simp,by simp,by simp [maxLen],(fun x hx=>by cases hx),(fun i x j c u hx=>by simp at hx)⟩
 ·have hF':∀b,F b→b<w'.heap.size:=fun b hb'=>Nat.lt_of_lt_of_le (hF b hb') hb.size
  refine ⟨v,e,1,[],some ⟨g,0,none⟩,g,c,he,hv,fun _=>rfl,by simp,fun _=>hg,?_,hb,rfl,rfl,rfl⟩
  refine ⟨hF',fun k hk=>⟨(Array.getElem?_eq_some_iff.1 hc).1,fun hf=>by have:=hF g hf; omega⟩,fun j k hj hk _=>by have:=hj.1; have:=hk.1; simp at *; omega,fun k bl hk=>?_⟩
  have hk0:k=0:=by have:=getElem?_lt hk; simp at this; omega
  subst hk0
  simp at hk
  subst hk
  exact ⟨cur,fun _=>hc,by simpa using hs,by simp,hm,(fun x hx=>by cases hx),(fun i x j c u hx=>by simp at hx)⟩
theorem clone64 (xs:List Int) (f:Bool) (hl:xs.length≤1000000):ConO Tryz.prog 15 [L1 f xs] fun e z ys=>e=2∧z=1∧ys=xs.map encI:=by
 cases xs with
 | nil =>
  refine conO_own ⟨Tryz.f15,Tryz.func15,rfl,rfl⟩ (fun F w vals hsz hrel=>?_)
  obtain ⟨u0,rfl⟩:∃u0,vals = #[u0]:=by
   obtain ⟨l⟩:=vals
   match l,hsz with
   | [a],_=>exact ⟨a,rfl⟩
  have r0:=hrel 0 _ u0 rfl rfl
  simp only [L1,List.map_nil] at r0
  cases r0
  exact cloneE _ _ _
 | cons x xs =>
  have hl':xs.length≤1000000:=by simp only [List.length_cons] at hl; omega
  refine conO_of_conH (conH_of_W tok Tryz.func15 rfl rfl ?_)
  refine wx ?_
  simp -implicitDefEqProofs -dsimp [Tryz.f15,List.replicate,L1,eqA2,cap8 xs.length (by omega)]
  exact ⟨0,2,1,encI x::xs.map encI,by simp,rfl,by simp,rfl,rfl,rfl⟩
theorem clone64p (xs:List Int) (f:Bool) (hl:xs.length≤1000000):ConP Tryz.prog 15 [L1 f xs] fun r=>r=L1 false xs :=
 ⟨(clone64 xs f hl).1,fun F w vals hZ hF hsz hrel=>((conP_of_conO (clone64 xs f hl)).2 F w vals hZ hF hsz hrel).mono fun e w' ⟨u,r,h1,h2,h3,h4,e',z,ys,h5,h6,h7,h8⟩=>by
  subst h6; subst h7; subst h8
  exact ⟨u,r,h1,h2,h3,h4,h5⟩⟩
end
end Go.Proofs.YtjogkbekekdkjaaGreatDoor
namespace Go.Proofs.YtjogkbekekdkjaaGreatDoor
section
open Go Go.AM
theorem ids03 (us bs:List Int) (f g:Bool) (hl:us.length≤1000000) (hl2:bs.length≤1000000):ConP Tryz.prog 45 [L1 f us,L1 g bs] fun r=>r = .bool (decide (us=bs)):=by
 by_cases hn:us.length=bs.length
 ·refine conP_of_conH (conH_of_W tok Tryz.func45 rfl rfl ?_)
  refine wx ?_
  simp -implicitDefEqProofs -dsimp [Tryz.f45,List.replicate,L1,hn]
  refine lw_of (W_loopM 26 [4,5,11,12,13,14,15,16,17,18,19,20,21,22,23,24,25] (by simp [mB]<;>rfl) (σ:=Nat) (fun i=>i≤us.length∧us.take i=bs.take i) (fun i=>us.length - i) (fun i=>[(5,.int .i64 i)]) (fun _=>[]) 0 ⟨by omega,by simp⟩ (by simp) rfl (by simp) ?_)
  rintro i ⟨h1,h2⟩ N Q hN hQ
  by_cases hb:i<bs.length
  ·have ha:i<us.length:=by omega
   by_cases hq:us[i]=bs[i]
   ·refine wx ?_
    simp -implicitDefEqProofs -dsimp [L1,encI,ha,hb,hq,wrapS i (by omega)]
    refine .inr ⟨stop_of (by kernel_rfl),?_⟩
    refine hN (i+1) _ _ ⟨by omega,by rw [List.take_succ_eq_append_getElem ha,List.take_succ_eq_append_getElem hb,h2,hq]⟩ (by omega) ?_ ⟨[],?_⟩ ?_ ?_<;>simp [or_imp,forall_and,L1,encI]
   ·refine wx ?_
    simp -implicitDefEqProofs -dsimp [L1,encI,ha,hb,hq]
    refine .inr ⟨stop_of (by kernel_rfl),?_⟩
    refine hQ _ _ _ ?_
    simp -implicitDefEqProofs -dsimp []
    rintro rfl
    exact hq rfl
  ·refine wx ?_
   simp -implicitDefEqProofs -dsimp [L1,hb,hn]
   refine hQ _ _ _ ?_
   simp -implicitDefEqProofs -dsimp []
   rw [List.take_of_length_le (by omega),List.take_of_length_le (by omega)] at h2
   exact h2
 ·have hne:¬us=bs:=fun h=>hn (by rw [h])
  refine conP_of_conH (conH_of_W tok Tryz.func45 rfl rfl ?_)
  refine wx ?_
  simp -implicitDefEqProofs -dsimp [Tryz.f45,List.replicate,L1,hn,show ¬((us.length:Int)=bs.length) by omega]
  exact hne
def ixG (p:Int→Bool) (es:List Int) (i:Nat):Int:=if h:i<es.length then (if p es[i] then (i:Int) else ixG p es (i+1)) else -1
termination_by es.length - i
theorem ixG_any (p:Int→Bool) (es:List Int) (i:Nat):decide (0≤ixG p es i)=(es.drop i).any p:=by
 fun_induction ixG p es i with
 | case1 i h h0=>rw [List.drop_eq_getElem_cons h,List.any_cons,h0]; simp
 | case2 i h h0 ih=>rw [List.drop_eq_getElem_cons h,List.any_cons,ih]; simp [h0]
 | case3 i h=>rw [List.drop_of_length_le (by omega)]; rfl
theorem idxFunc64 (H:List B) (fv:V) (p:Int→Bool) (es:List Int) (g:Bool) (hes:es.length≤1000000) (hH:∀bl∈H,rbB H.length bl) (hfv:rb H.length fv)
  (hp:∀m∈es,WCall Tryz.prog fv [.int .i64 m] H fun r H'=>r = .bool (p m)∧H'=H):ConH Tryz.prog 120 [L1 g es,fv] H fun r H'=>r = .int .i64 (ixG p es 0)∧H'=H:=by
 refine conH_of_W tok Tryz.func120 rfl rfl ?_
 refine wx ?_
 simp -implicitDefEqProofs -dsimp [Tryz.f120,List.replicate,L1]
 refine lw_of (W_loopM 19 [4,5,8,9,10,11,12,13,14,15,16,17,18] (by simp [mB]<;>rfl) (σ:=Nat) (fun i=>ixG p es i=ixG p es 0) (fun i=>es.length - i) (fun i=>[(8,.int .i64 i)]) (fun _=>H) 0 rfl (by simp) rfl (by simp) ?_)
 intro i hx N Q hN hQ
 by_cases hb:i<es.length
 ·rw [ixG,dif_pos hb] at hx
  have hc:=hp es[i] (List.getElem_mem hb)
  cases hq:p es[i]
  ·rw [hq] at hc hx
   refine wx ?_
   simp -implicitDefEqProofs -dsimp [hb,encI]
   refine hc.mono ?_
   rintro r H' ⟨rfl,rfl⟩
   simp -implicitDefEqProofs -dsimp [wrapS i (by omega)]
   refine hN (i+1) _ _ (by simpa using hx) (by omega) (by simp) ⟨[],by simp⟩ (by simp; exact hfv) hH
  ·rw [hq] at hc hx
   refine wx ?_
   simp -implicitDefEqProofs -dsimp [hb,encI]
   refine hc.mono ?_
   rintro r H' ⟨rfl,rfl⟩
   simp -implicitDefEqProofs -dsimp []
   refine hQ _ _ _ ?_
   simp -implicitDefEqProofs -dsimp []
   simpa using hx
 ·rw [ixG,dif_neg hb] at hx
  refine wx ?_
  simp -implicitDefEqProofs -dsimp [hb]
  refine hQ _ _ _ ?_
  simp -implicitDefEqProofs -dsimp []
  simpa using hx
theorem contFunc64 (H:List B) (fv:V) (p:Int→Bool) (es:List Int) (g:Bool) (hes:es.length≤1000000) (hH:∀bl∈H,rbB H.length bl) (hfv:rb H.length fv)
  (hp:∀m∈es,WCall Tryz.prog fv [.int .i64 m] H fun r H'=>r = .bool (p m)∧H'=H):ConH Tryz.prog 72 [L1 g es,fv] H fun r H'=>r = .bool (es.any p)∧H'=H:=by
 have h0:=ixG_any p es 0
 rw [List.drop_zero] at h0
 have hc:=idxFunc64 H fv p es g hes hH hfv hp
 refine conH_of_W tok Tryz.func72 rfl rfl ?_
 refine wx ?_
 simp -implicitDefEqProofs -dsimp [Tryz.f72,List.replicate]
 refine WCall.mono (K:=fun r H'=>r = .int .i64 (ixG p es 0)∧H'=H) hc ?_
 rintro r H' ⟨rfl,rfl⟩
 simp -implicitDefEqProofs -dsimp []
 rw [←h0]
def mE (us:List Int):List (V×V):=us.map fun x=>(V.int .i64 x,V.bool true)
theorem mE_snoc (us:List Int) (x:Int):mE (us++[x])=mE us++[(V.int .i64 x,V.bool true)]:=by simp [mE]
@[simp ↓ high] theorem rbB_mE (n:Nat) (kk:KK) (us:List Int):rbB n (.map kk (mE us))↔True:=by
 refine ⟨fun _=>trivial,fun _ p hp=>?_⟩
 obtain ⟨x,_,rfl⟩:=List.mem_map.1 hp
 exact ⟨trivial,trivial⟩
@[simp ↓ high] theorem rbB_mE2 (n:Nat) (kk:KK) (us:List Int) (x:Int):rbB n (.map kk (mE us++[(V.int .i64 x,V.bool true)]))↔True:=by
 rw [←mE_snoc]; exact rbB_mE n kk _
@[simp ↓ high] theorem forall_rbB_cons (n:Nat) (b:B) (l:List B):(∀bl∈b::l,rbB n bl)↔(rbB n b∧∀bl∈l,rbB n bl):=List.forall_mem_cons
@[simp ↓ high] theorem forall_rbB_nil (n:Nat):(∀bl∈([]:List B),rbB n bl)↔True:=by simp
end
end Go.Proofs.YtjogkbekekdkjaaGreatDoor
section

end
namespace Go.Proofs.YtjogkbekekdkjaaGreatDoor
section
open Go Go.AM
def seq (a b:ByteArray):Bool:=a.toList == b.toList
def letterB (c:Int):Bool:=decide (97≤c)&&decide (c≤122)||decide (65≤c)&&decide (c≤90)||decide (c=95)
theorem letter_cases (c:Int):(97≤c∧c≤122∧letterB c=true)∨(97≤c∧¬c≤122∧65≤c∧¬c≤90∧¬c=95∧letterB c=false)∨(¬97≤c∧65≤c∧c≤90∧letterB c=true)∨(¬97≤c∧65≤c∧¬c≤90∧c=95∧letterB c=true)∨(¬97≤c∧65≤c∧¬c≤90∧¬c=95∧letterB c=false)∨(¬97≤c∧¬65≤c∧¬c=95∧letterB c=false):=by
 have h:letterB c=decide ((97≤c∧c≤122)∨(65≤c∧c≤90)∨c=95):=by
  unfold letterB
  simp only [Bool.decide_or,Bool.decide_and,Bool.or_assoc]
 rw [h]
 simp only [decide_eq_true_eq,decide_eq_false_iff_not]
 omega
theorem letter_con (c:Int):ConP Tryz.prog 199 [.int .u8 c] fun r=>r = .bool (letterB c):=by
 rcases letter_cases c with ⟨h1,h2,h⟩ | ⟨h1,h2,h3,h4,h5,h⟩ | ⟨h1,h2,h3,h⟩ | ⟨h1,h2,h3,h4,h⟩ | ⟨h1,h2,h3,h4,h⟩ | ⟨h1,h2,h3,h⟩
 all_goals
  rw [h]
  refine conP_of_conH (conH_of_W tok Tryz.func199 rfl rfl ?_)
  refine wx ?_
  simp -implicitDefEqProofs -dsimp [Tryz.f199,List.replicate, *]
def byteAt (s:ByteArray) (i:Nat):Int:=((s[i]?).map fun b=>(b.toNat:Int)).getD 0
theorem byteAt_in {s:ByteArray} {i:Nat} (h:i<s.size):s[i]?=some s[i]∧(s[i].toNat:Int)=byteAt s i:=by
 have h1:s[i]?=some s[i]:=getElem?_pos s i h
 exact ⟨h1,by unfold byteAt; rw [h1]; rfl⟩
theorem ba_len (bs:ByteArray):bs.data.toList.length=bs.size:=by simp
theorem ba_loop (bs:ByteArray):∀(n i:Nat) (r:List UInt8),bs.size - i=n→ByteArray.toList.loop bs i r=r.reverse++bs.data.toList.drop i
 | 0,i,r,h=>by
  have hl:=ba_len bs
  rw [ByteArray.toList.loop,if_neg (by omega),List.drop_of_length_le (by omega),List.append_nil]
 | n+1,i,r,h=>by
  have hl:=ba_len bs
  have hi:i<bs.size:=by omega
  have hi2:i<bs.data.toList.length:=by omega
  rw [ByteArray.toList.loop,if_pos hi,ba_loop bs n (i+1) _ (by omega),List.drop_eq_getElem_cons hi2,List.reverse_cons,List.append_assoc]
  congr 2
  have hi3:i<bs.data.size:=by simpa using hi2
  rw [ByteArray.get!,getElem!_pos bs.data i hi3]; rfl
theorem ba_toList (bs:ByteArray):bs.toList=bs.data.toList:=by
 unfold ByteArray.toList
 rw [ba_loop bs _ 0 [] rfl]; rfl
theorem ba_nil (s:ByteArray):s.toList=[]↔s.size=0:=by
 rw [ba_toList]
 rw [←List.length_eq_zero_iff,ba_len]
def okAt (s:ByteArray) (i:Nat):Bool:=letterB (byteAt s i)||(decide (i≠0)&&(decide (48≤byteAt s i)&&decide (byteAt s i≤57)))
def nameB (s:ByteArray):Bool:=!decide (s.toList=[])&&decide (s.size≤24)&&!(s.toList == [110,117,108,108])&&(List.range s.size).all (okAt s)
theorem allno {p:Nat→Bool} {n i:Nat} (h:i<n) (hp:p i=false):(List.range n).all p=false:=by
 rw [List.all_eq_false]
 exact ⟨i,by simpa using h,by simp [hp]⟩
theorem all_succ {p:Nat→Bool} {i:Nat} (h:(List.range i).all p=true) (hp:p i=true):(List.range (i+1)).all p=true:=by
 rw [List.range_succ,List.all_append,h]; simp [hp]
theorem isName_con (s:ByteArray) (hsz:s.size≤maxLen):ConP Tryz.prog 123 [.str s] fun r=>r = .bool (nameB s):=by
 by_cases h0:s.toList=[]
 ·rw [show nameB s=false by simp [nameB,h0]]
  refine conP_of_conH (conH_of_W tok Tryz.func123 rfl rfl ?_)
  refine wx ?_
  simp -implicitDefEqProofs -dsimp [Tryz.f123,List.replicate,h0]
 ·by_cases h24:s.size≤24
  ·cases hnl:(s.toList == [110,117,108,108])
   ·rw [show nameB s=(List.range s.size).all (okAt s) by simp [nameB,h0,h24,hnl]]
    refine conP_of_conH (conH_of_W tok Tryz.func123 rfl rfl ?_)
    refine wx ?_
    simp -implicitDefEqProofs -dsimp [Tryz.f123,List.replicate,h0,hnl,show ¬(24:Int)<s.size by omega]
    refine lw_of (W_loopM 58 [2,3,4,5,19,20,21,22,23,24,25,26,27,28,29,30,31,32,33,34,35,36,37,38,39,40,41,42,43,44,45,46,47,48,49,50,51,52,53,54,55,56,57] (by simp [mB]<;>rfl) (σ:=Nat) (fun i=>i≤s.size∧(List.range i).all (okAt s)=true) (fun i=>s.size - i) (fun i=>[(19,.int .i64 i)]) (fun _=>[]) 0 ⟨by omega,rfl⟩ (by simp) rfl (by simp) ?_)
    rintro i ⟨hi,hall⟩ N Q hN hQ
    by_cases hb:i<s.size
    ·obtain ⟨hx1,hx2⟩:=byteAt_in hb
     have hok:okAt s i=(letterB (byteAt s i)||(decide (i≠0)&&(decide (48≤byteAt s i)&&decide (byteAt s i≤57)))):=rfl
     obtain ⟨c,hc⟩:∃c,c=byteAt s i:=⟨_,rfl⟩
     rw [←hc] at hx2 hok
     rcases letter_cases c with ⟨h1,h2,h⟩ | ⟨h1,h2,h3,h4,h5,h⟩ | ⟨h1,h2,h3,h⟩ | ⟨h1,h2,h3,h4,h⟩ | ⟨h1,h2,h3,h4,h⟩ | ⟨h1,h2,h3,h⟩
     ·rw [h,Bool.true_or] at hok
      refine wx ?_
      simp -implicitDefEqProofs -dsimp [hb,hx1,hx2,h1,h2,wrapS i (by unfold maxLen at hsz; omega)]
      refine hN (i+1) _ _ ⟨by omega,all_succ hall hok⟩ (by omega) ?_ ⟨[],?_⟩ ?_ ?_<;>simp [or_imp,forall_and,L1,encI]
     ·by_cases hi0:i=0
      ·subst hi0
       rw [h,Bool.false_or,decide_eq_false (by simp),Bool.false_and] at hok
       refine wx ?_
       simp -implicitDefEqProofs -dsimp [hb,hx1,hx2,h1,h2,h3,h4,h5]
       refine hQ _ _ _ ?_
       simp -implicitDefEqProofs -dsimp []
       exact ⟨_,hb,hok⟩
      ·rw [h,Bool.false_or,decide_eq_true hi0,Bool.true_and,decide_eq_false (show ¬c≤57 by omega),Bool.and_false] at hok
       refine wx ?_
       simp -implicitDefEqProofs -dsimp [hb,hx1,hx2,h1,h2,h3,h4,h5,hi0,show ¬c<48 by omega,show 57<c by omega]
       refine hQ _ _ _ ?_
       simp -implicitDefEqProofs -dsimp []
       exact ⟨_,hb,hok⟩
     ·rw [h,Bool.true_or] at hok
      refine wx ?_
      simp -implicitDefEqProofs -dsimp [hb,hx1,hx2,h1,h2,h3,wrapS i (by unfold maxLen at hsz; omega)]
      refine hN (i+1) _ _ ⟨by omega,all_succ hall hok⟩ (by omega) ?_ ⟨[],?_⟩ ?_ ?_<;>simp [or_imp,forall_and,L1,encI]
     ·rw [h,Bool.true_or] at hok
      refine wx ?_
      simp -implicitDefEqProofs -dsimp [hb,hx1,hx2,h1,h2,h3,h4,wrapS i (by unfold maxLen at hsz; omega)]
      refine hN (i+1) _ _ ⟨by omega,all_succ hall hok⟩ (by omega) ?_ ⟨[],?_⟩ ?_ ?_<;>simp [or_imp,forall_and,L1,encI]
     ·by_cases hi0:i=0
      ·subst hi0
       rw [h,Bool.false_or,decide_eq_false (by simp),Bool.false_and] at hok
       refine wx ?_
       simp -implicitDefEqProofs -dsimp [hb,hx1,hx2,h1,h2,h3,h4]
       refine hQ _ _ _ ?_
       simp -implicitDefEqProofs -dsimp []
       exact ⟨_,hb,hok⟩
      ·rw [h,Bool.false_or,decide_eq_true hi0,Bool.true_and,decide_eq_false (show ¬c≤57 by omega),Bool.and_false] at hok
       refine wx ?_
       simp -implicitDefEqProofs -dsimp [hb,hx1,hx2,h1,h2,h3,h4,hi0,show ¬c<48 by omega,show 57<c by omega]
       refine hQ _ _ _ ?_
       simp -implicitDefEqProofs -dsimp []
       exact ⟨_,hb,hok⟩
     ·by_cases hi0:i=0
      ·subst hi0
       rw [h,Bool.false_or,decide_eq_false (by simp),Bool.false_and] at hok
       refine wx ?_
       simp -implicitDefEqProofs -dsimp [hb,hx1,hx2,h1,h2,h3]
       refine hQ _ _ _ ?_
       simp -implicitDefEqProofs -dsimp []
       exact ⟨_,hb,hok⟩
      ·by_cases h48:c<48
       ·rw [h,Bool.false_or,decide_eq_false (show ¬48≤c by omega),Bool.false_and,Bool.and_false] at hok
        refine wx ?_
        simp -implicitDefEqProofs -dsimp [hb,hx1,hx2,h1,h2,h3,hi0,h48]
        refine hQ _ _ _ ?_
        simp -implicitDefEqProofs -dsimp []
        exact ⟨_,hb,hok⟩
       ·by_cases h57:57<c
        ·rw [h,Bool.false_or,decide_eq_true hi0,Bool.true_and,decide_eq_false (show ¬c≤57 by omega),Bool.and_false] at hok
         refine wx ?_
         simp -implicitDefEqProofs -dsimp [hb,hx1,hx2,h1,h2,h3,hi0,h48,h57]
         refine hQ _ _ _ ?_
         simp -implicitDefEqProofs -dsimp []
         exact ⟨_,hb,hok⟩
        ·rw [h,Bool.false_or,decide_eq_true hi0,Bool.true_and,decide_eq_true (show c≤57 by omega),decide_eq_true (show 48≤c by omega),Bool.and_true] at hok
         refine wx ?_
         simp -implicitDefEqProofs -dsimp [hb,hx1,hx2,h1,h2,h3,hi0,h48,h57,wrapS i (by unfold maxLen at hsz; omega)]
         refine hN (i+1) _ _ ⟨by omega,all_succ hall hok⟩ (by omega) ?_ ⟨[],?_⟩ ?_ ?_<;>simp [or_imp,forall_and,L1,encI]
    ·obtain rfl:i=s.size:=by omega
     refine wx ?_
     simp -implicitDefEqProofs -dsimp [hb]
     refine hQ _ _ _ ?_
     simp -implicitDefEqProofs -dsimp []
     simpa using hall
   ·rw [show nameB s=false by simp [nameB,hnl]]
    refine conP_of_conH (conH_of_W tok Tryz.func123 rfl rfl ?_)
    refine wx ?_
    simp -implicitDefEqProofs -dsimp [Tryz.f123,List.replicate,h0,hnl,show ¬(24:Int)<s.size by omega]
  ·rw [show nameB s=false by simp [nameB,h24]]
   refine conP_of_conH (conH_of_W tok Tryz.func123 rfl rfl ?_)
   refine wx ?_
   simp -implicitDefEqProofs -dsimp [Tryz.f123,List.replicate,h0,show (24:Int)<s.size by omega]
theorem name03_con (s:ByteArray) (hsz:s.size≤maxLen):ConP Tryz.prog 140 [.str s] fun r=>r = .bool (nameB s):=by
 by_cases h0:s.toList=[]
 ·rw [show nameB s=false by simp [nameB,h0]]
  have h00:=(ba_nil s).1 h0
  refine conP_of_conH (conH_of_W tok Tryz.func140 rfl rfl ?_)
  refine wx ?_
  simp -implicitDefEqProofs -dsimp [Tryz.f140,List.replicate,h00]
 ·have h00:¬s.size=0:=fun h=>h0 ((ba_nil s).2 h)
  have hpos:0<s.size:=by omega
  obtain ⟨hx1,hx2⟩:=byteAt_in hpos
  have hl0:=letter_con (byteAt s 0)
  rw [←hx2] at hl0
  by_cases h24:s.size≤24
  ·cases hlt:letterB (byteAt s 0)
   ·have hok0:okAt s 0=false:=by unfold okAt; rw [hlt]; simp
    rw [show nameB s=false by unfold nameB; rw [allno hpos hok0,Bool.and_false]]
    rw [hx2,hlt] at hl0
    rw [←hx2] at hl0
    refine conP_of_conH (conH_of_W tok Tryz.func140 rfl rfl ?_)
    refine wx ?_
    simp -implicitDefEqProofs -dsimp [Tryz.f140,List.replicate,h00,show ¬(24:Int)<s.size by omega,hx1]
    refine (callP (hl0) (by simp)).mono ?_
    rintro r H' ⟨rfl,rfl⟩
    simp -implicitDefEqProofs -dsimp []
   ·rw [hx2,hlt] at hl0
    rw [←hx2] at hl0
    cases hnl:(s.toList == [110,117,108,108])
    ·rw [show nameB s=(List.range s.size).all (okAt s) by simp [nameB,h0,h24,hnl]]
     refine conP_of_conH (conH_of_W tok Tryz.func140 rfl rfl ?_)
     refine wx ?_
     simp -implicitDefEqProofs -dsimp [Tryz.f140,List.replicate,h00,show ¬(24:Int)<s.size by omega,hx1]
     refine (callP (hl0) (by simp)).mono ?_
     rintro r H' ⟨rfl,rfl⟩
     simp -implicitDefEqProofs -dsimp [hnl]
     refine lw_of (W_loopM 45 [2,3,22,23,24,25,26,27,28,29,30,31,32,33,34,35,36,37,38,39,40,41,42,43,44] (by simp [mB]<;>rfl) (σ:=Nat) (fun i=>i≤s.size∧(List.range i).all (okAt s)=true) (fun i=>s.size - i) (fun i=>[(3,.int .i64 i)]) (fun _=>[]) 0 ⟨by omega,rfl⟩ (by simp) rfl (by simp) ?_)
     rintro i ⟨hi,hall⟩ N Q hN hQ
     by_cases hb:i<s.size
     ·obtain ⟨hy1,hy2⟩:=byteAt_in hb
      have hok:okAt s i=(letterB (byteAt s i)||(decide (i≠0)&&(decide (48≤byteAt s i)&&decide (byteAt s i≤57)))):=rfl
      obtain ⟨c,hc⟩:∃c,c=byteAt s i:=⟨_,rfl⟩
      rw [←hc] at hy2 hok
      have hlc:=letter_con c
      cases h:letterB c
      ·have hi0:¬i=0:=fun e=>by subst e; rw [←hc] at hlt; rw [hlt] at h; cases h
       rw [h] at hlc
       rw [h,Bool.false_or,decide_eq_true hi0,Bool.true_and] at hok
       by_cases h48:c<48
       ·rw [decide_eq_false (show ¬48≤c by omega),Bool.false_and] at hok
        refine wx ?_
        simp -implicitDefEqProofs -dsimp [hb,hy1,hy2]
        refine (callP (hlc) (by simp)).mono ?_
        rintro r H' ⟨rfl,rfl⟩
        simp -implicitDefEqProofs -dsimp [hb,hy1,hy2,h48]
        refine hQ _ _ _ ?_
        simp -implicitDefEqProofs -dsimp []
        exact ⟨_,hb,hok⟩
       ·by_cases h57:57<c
        ·rw [decide_eq_false (show ¬c≤57 by omega),Bool.and_false] at hok
         refine wx ?_
         simp -implicitDefEqProofs -dsimp [hb,hy1,hy2]
         refine (callP (hlc) (by simp)).mono ?_
         rintro r H' ⟨rfl,rfl⟩
         simp -implicitDefEqProofs -dsimp [hb,hy1,hy2,h48,h57]
         refine hQ _ _ _ ?_
         simp -implicitDefEqProofs -dsimp []
         exact ⟨_,hb,hok⟩
        ·rw [decide_eq_true (show c≤57 by omega),decide_eq_true (show 48≤c by omega),Bool.and_true] at hok
         refine wx ?_
         simp -implicitDefEqProofs -dsimp [hb,hy1,hy2]
         refine (callP (hlc) (by simp)).mono ?_
         rintro r H' ⟨rfl,rfl⟩
         simp -implicitDefEqProofs -dsimp [hb,hy1,hy2,h48,h57,wrapS i (by unfold maxLen at hsz; omega)]
         refine hN (i+1) _ _ ⟨by omega,all_succ hall hok⟩ (by omega) ?_ ⟨[],?_⟩ ?_ ?_<;>simp [or_imp,forall_and,L1,encI]
      ·rw [h] at hlc
       rw [h,Bool.true_or] at hok
       refine wx ?_
       simp -implicitDefEqProofs -dsimp [hb,hy1,hy2]
       refine (callP (hlc) (by simp)).mono ?_
       rintro r H' ⟨rfl,rfl⟩
       simp -implicitDefEqProofs -dsimp [wrapS i (by unfold maxLen at hsz; omega)]
       refine hN (i+1) _ _ ⟨by omega,all_succ hall hok⟩ (by omega) ?_ ⟨[],?_⟩ ?_ ?_<;>simp [or_imp,forall_and,L1,encI]
     ·obtain rfl:i=s.size:=by omega
      refine wx ?_
      simp -implicitDefEqProofs -dsimp [hb]
      refine hQ _ _ _ ?_
      simp -implicitDefEqProofs -dsimp []
      simpa using hall
    ·rw [show nameB s=false by simp [nameB,hnl]]
     refine conP_of_conH (conH_of_W tok Tryz.func140 rfl rfl ?_)
     refine wx ?_
     simp -implicitDefEqProofs -dsimp [Tryz.f140,List.replicate,h00,show ¬(24:Int)<s.size by omega,hx1]
     refine (callP (hl0) (by simp)).mono ?_
     rintro r H' ⟨rfl,rfl⟩
     simp -implicitDefEqProofs -dsimp [hnl]
  ·rw [show nameB s=false by simp [nameB,h24]]
   refine conP_of_conH (conH_of_W tok Tryz.func140 rfl rfl ?_)
   refine wx ?_
   simp -implicitDefEqProofs -dsimp [Tryz.f140,List.replicate,h00,show (24:Int)<s.size by omega]
def LS (f:Bool) (ss:List ByteArray):V:=.lst 1 f (ss.map V.str)
@[simp] theorem LS_pure (f:Bool) (ss:List ByteArray):AM.Pure (LS f ss):=by simp [LS]
@[simp] theorem pure_takeS (i:Nat) (ss:List ByteArray):(∀x,x∈List.take i (List.map V.str ss)→AM.Pure x)↔True:=iff_true_intro fun x hx=>by
 obtain ⟨s,_,rfl⟩:=List.mem_map.1 (List.mem_of_mem_take hx)
 exact .str s
def ixS (ss:List ByteArray) (x:ByteArray) (i:Nat):Int:=if h:i<ss.length then (if (x.toList == ss[i].toList)=true then (i:Int) else ixS ss x (i+1)) else -1
termination_by ss.length - i
def memS (ss:List ByteArray) (x:ByteArray):Bool:=ss.any fun e=>x.toList == e.toList
theorem ixS_mem (ss:List ByteArray) (x:ByteArray) (i:Nat):decide (0≤ixS ss x i)=memS (ss.drop i) x:=by
 unfold memS
 fun_induction ixS ss x i with
 | case1 i h h0=>rw [List.drop_eq_getElem_cons h,List.any_cons,h0]; simp
 | case2 i h h0 ih=>rw [List.drop_eq_getElem_cons h,List.any_cons,ih]; simp [h0]
 | case3 i h=>rw [List.drop_of_length_le (by omega)]; rfl
theorem indexS (ss:List ByteArray) (x:ByteArray) (f:Bool) (hl:ss.length≤1000000):ConP Tryz.prog 173 [LS f ss,.str x] fun r=>r = .int .i64 (ixS ss x 0):=by
 refine conP_of_conH (conH_of_W tok Tryz.func173 rfl rfl ?_)
 refine wx ?_
 simp -implicitDefEqProofs -dsimp [Tryz.f173,List.replicate,LS]
 refine lw_of (W_loopM 19 [4,5,8,9,10,11,12,13,14,15,16,17,18] (by simp [mB]<;>rfl) (σ:=Nat) (fun i=>ixS ss x i=ixS ss x 0) (fun i=>ss.length - i) (fun i=>[(8,.int .i64 i)]) (fun _=>[]) 0 rfl (by simp) rfl (by simp) ?_)
 intro i hx N Q hN hQ
 by_cases hb:i<ss.length
 ·rw [ixS,dif_pos hb] at hx
  cases hq:(x.toList == ss[i].toList)
  ·rw [hq,if_neg (by simp)] at hx
   refine wx ?_
   simp -implicitDefEqProofs -dsimp [hb,hq]
   simp -implicitDefEqProofs -dsimp [wrapS i (by omega)]
   refine hN (i+1) _ _ hx (by omega) (by simp) ⟨[],rfl⟩ (by simp) (by simp)
  ·rw [hq,if_pos rfl] at hx
   refine wx ?_
   simp -implicitDefEqProofs -dsimp [hb,hq]
   refine hQ _ _ _ ?_
   simp -implicitDefEqProofs -dsimp []
   exact hx
 ·rw [ixS,dif_neg hb] at hx
  refine wx ?_
  simp -implicitDefEqProofs -dsimp [hb]
  refine hQ _ _ _ ?_
  simp -implicitDefEqProofs -dsimp []
  exact hx
theorem containsS (ss:List ByteArray) (x:ByteArray) (f:Bool) (hl:ss.length≤1000000):ConP Tryz.prog 124 [LS f ss,.str x] fun r=>r = .bool (memS ss x):=by
 have h0:=ixS_mem ss x 0
 rw [List.drop_zero] at h0
 refine conP_of_conH (conH_of_W tok Tryz.func124 rfl rfl ?_)
 refine wx ?_
 simp -implicitDefEqProofs -dsimp [Tryz.f124,List.replicate]
 refine (callP (indexS ss x f hl) (by simp)).mono ?_
 rintro r H' ⟨rfl,rfl⟩
 simp -implicitDefEqProofs -dsimp []
 rw [←h0]
theorem beq_comm' (a b:List UInt8):(a == b)=(b == a):=by rw [Bool.eq_iff_iff,beq_iff_eq,beq_iff_eq]; exact eq_comm
theorem attrS (ss:List ByteArray) (x:ByteArray) (f:Bool) (hl:ss.length≤1000000):ConP Tryz.prog 200 [LS f ss,.str x] fun r=>r = .int .i64 (ixS ss x 0):=by
 refine conP_of_conH (conH_of_W tok Tryz.func200 rfl rfl ?_)
 refine wx ?_
 simp -implicitDefEqProofs -dsimp [Tryz.f200,List.replicate,LS]
 refine lw_of (W_loopM 19 [4,5,6,7,8,9,10,11,12,13,14,15,16,17,18] (by simp [mB]<;>rfl) (σ:=Nat) (fun i=>ixS ss x i=ixS ss x 0) (fun i=>ss.length - i) (fun i=>[(5,.int .i64 i)]) (fun _=>[]) 0 rfl (by simp) rfl (by simp) ?_)
 intro i hx N Q hN hQ
 by_cases hb:i<ss.length
 ·rw [ixS,dif_pos hb,beq_comm'] at hx
  cases hq:(ss[i].toList == x.toList)
  ·rw [hq,if_neg (by simp)] at hx
   refine wx ?_
   simp -implicitDefEqProofs -dsimp [hb,hq]
   simp -implicitDefEqProofs -dsimp [wrapS i (by omega)]
   refine hN (i+1) _ _ hx (by omega) (by simp) ⟨[],rfl⟩ (by simp) (by simp)
  ·rw [hq,if_pos rfl] at hx
   refine wx ?_
   simp -implicitDefEqProofs -dsimp [hb,hq]
   refine hQ _ _ _ ?_
   simp -implicitDefEqProofs -dsimp []
   exact hx
 ·rw [ixS,dif_neg hb] at hx
  refine wx ?_
  simp -implicitDefEqProofs -dsimp [hb]
  refine hQ _ _ _ ?_
  simp -implicitDefEqProofs -dsimp []
  exact hx
def sAt (ss:List ByteArray) (i:Nat):ByteArray:=ss.getD i ByteArray.empty
def nmAt (ss:List ByteArray) (i:Nat):Bool:=nameB (sAt ss i)&&!memS (ss.take i) (sAt ss i)
def namesB (ss:List ByteArray):Bool:=(List.range ss.length).all (nmAt ss)
theorem names03 (ss:List ByteArray) (f:Bool) (hl:ss.length≤1000000) (hs:∀s∈ss,s.size≤maxLen):ConP Tryz.prog 141 [LS f ss] fun r=>r = .bool (namesB ss):=by
 unfold namesB
 refine conP_of_conH (conH_of_W tok Tryz.func141 rfl rfl ?_)
 refine wx ?_
 simp -implicitDefEqProofs -dsimp [Tryz.f141,List.replicate,LS]
 refine lw_of (W_loopM 27 [2,3,4,5,6,7,8,9,10,11,12,13,14,15,16,17,18,19,20,21,22,23,24,25,26] (by simp [mB]<;>rfl) (σ:=Nat) (fun i=>i≤ss.length∧(List.range i).all (nmAt ss)=true) (fun i=>ss.length - i) (fun i=>[(3,.int .i64 i)]) (fun _=>[]) 0 ⟨by omega,rfl⟩ (by simp) rfl (by simp) ?_)
 rintro i ⟨hi,hall⟩ N Q hN hQ
 by_cases hb:i<ss.length
 ·have hsi:sAt ss i=ss[i]:=by simp [sAt,hb]
  have hok:nmAt ss i=(nameB ss[i]&&!memS (ss.take i) ss[i]):=by unfold nmAt; rw [hsi]
  have hc1:=name03_con ss[i] (hs _ (List.getElem_mem hb))
  have hc2:=attrS (ss.take i) ss[i] (f&&i == ss.length) (by simp; omega)
  have hm:=ixS_mem (ss.take i) ss[i] 0
  rw [List.drop_zero] at hm
  simp only [LS,List.map_take] at hc2
  cases h1:nameB ss[i]
  ·rw [h1,Bool.false_and] at hok
   rw [h1] at hc1
   refine wx ?_
   simp -implicitDefEqProofs -dsimp [hb]
   refine .inr ⟨stop_of (by kernel_rfl),?_⟩
   refine cy_of _ (callP (hc1) (by simp)) ?_
   simp -implicitDefEqProofs -dsimp []
   refine hQ _ _ _ ?_
   simp -implicitDefEqProofs -dsimp []
   exact ⟨_,hb,hok⟩
  ·rw [h1,Bool.true_and] at hok
   rw [h1] at hc1
   cases h2:memS (ss.take i) ss[i]
   ·rw [h2] at hok hm
    have hneg:=of_decide_eq_false hm
    refine wx ?_
    simp -implicitDefEqProofs -dsimp [hb]
    refine .inr ⟨stop_of (by kernel_rfl),?_⟩
    refine cy_of _ (callP (hc1) (by simp)) ?_
    simp -implicitDefEqProofs -dsimp [hb,show i≤ss.length by omega]
    refine cy_of _ (callP (hc2) (by simp)) ?_
    simp -implicitDefEqProofs -dsimp [show ¬0≤ixS (ss.take i) ss[i] 0 by omega,wrapS i (by omega)]
    refine hN (i+1) _ _ ⟨by omega,all_succ hall (by rw [hok]; rfl)⟩ (by omega) ?_ ⟨[],?_⟩ ?_ ?_<;>simp [or_imp,forall_and,L1,encI]
   ·rw [h2] at hok hm
    have hneg:=of_decide_eq_true hm
    refine wx ?_
    simp -implicitDefEqProofs -dsimp [hb]
    refine .inr ⟨stop_of (by kernel_rfl),?_⟩
    refine cy_of _ (callP (hc1) (by simp)) ?_
    simp -implicitDefEqProofs -dsimp [hb,show i≤ss.length by omega]
    refine cy_of _ (callP (hc2) (by simp)) ?_
    simp -implicitDefEqProofs -dsimp [hneg]
    refine hQ _ _ _ ?_
    simp -implicitDefEqProofs -dsimp []
    exact ⟨_,hb,hok⟩
 ·obtain rfl:i=ss.length:=by omega
  refine wx ?_
  simp -implicitDefEqProofs -dsimp [hb]
  refine hQ _ _ _ ?_
  simp -implicitDefEqProofs -dsimp []
  simpa using hall
structure Vl where
 k:Int
 n:Int
 s:ByteArray
def encV (v:Vl):V:=.agg [.int .i64 v.k,.int .i64 v.n,.str v.s]
def LV (f:Bool) (vs:List Vl):V:=.lst 3 f (vs.map encV)
@[simp] theorem encV_pure (v:Vl):AM.Pure (encV v):=by simp [encV]
@[simp] theorem LV_pure (f:Bool) (vs:List Vl):AM.Pure (LV f vs):=by simp [LV]
@[simp] theorem encV_oneV (v:Vl):oneV (encV v)=true:=rfl
def validV (v:Vl):Bool :=
 if v.k=0 then decide (v.n=0)&&v.s.toList.isEmpty else if v.k=1 then v.s.toList.isEmpty else
 if v.k=2 then decide (v.n=0)&&decide (v.s.size≤200) else decide (v.k=3)&&(decide (1≤v.n)&&v.s.toList.isEmpty)
theorem valid01 (v:Vl):ConP Tryz.prog 201 [encV v] fun r=>r = .bool (validV v):=by
 unfold validV
 by_cases h0:v.k=0
 ·by_cases hn:v.n=0
  ·rw [if_pos h0,decide_eq_true hn,Bool.true_and]
   refine conP_of_conH (conH_of_W tok Tryz.func201 rfl rfl ?_)
   refine wx ?_
   simp -implicitDefEqProofs -dsimp [Tryz.f201,List.replicate,encV,h0,hn]
  ·rw [if_pos h0,decide_eq_false hn,Bool.false_and]
   refine conP_of_conH (conH_of_W tok Tryz.func201 rfl rfl ?_)
   refine wx ?_
   simp -implicitDefEqProofs -dsimp [Tryz.f201,List.replicate,encV,h0,hn]
 ·rw [if_neg h0]
  by_cases h1:v.k=1
  ·rw [if_pos h1]
   refine conP_of_conH (conH_of_W tok Tryz.func201 rfl rfl ?_)
   refine wx ?_
   simp -implicitDefEqProofs -dsimp [Tryz.f201,List.replicate,encV,h1]
  ·rw [if_neg h1]
   by_cases h2:v.k=2
   ·rw [if_pos h2]
    by_cases hn:v.n=0
    ·rw [decide_eq_true hn,Bool.true_and]
     by_cases hz:v.s.size≤200
     ·rw [decide_eq_true hz]
      refine conP_of_conH (conH_of_W tok Tryz.func201 rfl rfl ?_)
      refine wx ?_
      simp -implicitDefEqProofs -dsimp [Tryz.f201,List.replicate,encV,h2,hn,show (v.s.size:Int)≤200 by omega]
     ·rw [decide_eq_false hz]
      refine conP_of_conH (conH_of_W tok Tryz.func201 rfl rfl ?_)
      refine wx ?_
      simp -implicitDefEqProofs -dsimp [Tryz.f201,List.replicate,encV,h2,hn,show ¬(v.s.size:Int)≤200 by omega]
    ·rw [decide_eq_false hn,Bool.false_and]
     refine conP_of_conH (conH_of_W tok Tryz.func201 rfl rfl ?_)
     refine wx ?_
     simp -implicitDefEqProofs -dsimp [Tryz.f201,List.replicate,encV,h2,hn]
   ·rw [if_neg h2]
    by_cases h3:v.k=3
    ·rw [decide_eq_true h3,Bool.true_and]
     by_cases hn:1≤v.n
     ·rw [decide_eq_true hn,Bool.true_and]
      refine conP_of_conH (conH_of_W tok Tryz.func201 rfl rfl ?_)
      refine wx ?_
      simp -implicitDefEqProofs -dsimp [Tryz.f201,List.replicate,encV,h3,hn]
     ·rw [decide_eq_false hn,Bool.false_and]
      refine conP_of_conH (conH_of_W tok Tryz.func201 rfl rfl ?_)
      refine wx ?_
      simp -implicitDefEqProofs -dsimp [Tryz.f201,List.replicate,encV,h3,hn]
    ·rw [decide_eq_false h3,Bool.false_and]
     refine conP_of_conH (conH_of_W tok Tryz.func201 rfl rfl ?_)
     refine wx ?_
     simp -implicitDefEqProofs -dsimp [Tryz.f201,List.replicate,encV,h0,h1,h2,h3]
theorem validV_con (v:Vl):ConP Tryz.prog 176 [encV v] fun r=>r = .bool (validV v):=by
 unfold validV
 by_cases h0:v.k=0
 ·by_cases hn:v.n=0
  ·rw [if_pos h0,decide_eq_true hn,Bool.true_and]
   refine conP_of_conH (conH_of_W tok Tryz.func176 rfl rfl ?_)
   refine wx ?_
   simp -implicitDefEqProofs -dsimp [Tryz.f176,List.replicate,encV,h0,hn]
  ·rw [if_pos h0,decide_eq_false hn,Bool.false_and]
   refine conP_of_conH (conH_of_W tok Tryz.func176 rfl rfl ?_)
   refine wx ?_
   simp -implicitDefEqProofs -dsimp [Tryz.f176,List.replicate,encV,h0,hn]
 ·rw [if_neg h0]
  by_cases h1:v.k=1
  ·rw [if_pos h1]
   refine conP_of_conH (conH_of_W tok Tryz.func176 rfl rfl ?_)
   refine wx ?_
   simp -implicitDefEqProofs -dsimp [Tryz.f176,List.replicate,encV,h1]
  ·rw [if_neg h1]
   by_cases h2:v.k=2
   ·rw [if_pos h2]
    by_cases hn:v.n=0
    ·rw [decide_eq_true hn,Bool.true_and]
     by_cases hz:v.s.size≤200
     ·rw [decide_eq_true hz]
      refine conP_of_conH (conH_of_W tok Tryz.func176 rfl rfl ?_)
      refine wx ?_
      simp -implicitDefEqProofs -dsimp [Tryz.f176,List.replicate,encV,h2,hn,show (v.s.size:Int)≤200 by omega]
     ·rw [decide_eq_false hz]
      refine conP_of_conH (conH_of_W tok Tryz.func176 rfl rfl ?_)
      refine wx ?_
      simp -implicitDefEqProofs -dsimp [Tryz.f176,List.replicate,encV,h2,hn,show ¬(v.s.size:Int)≤200 by omega]
    ·rw [decide_eq_false hn,Bool.false_and]
     refine conP_of_conH (conH_of_W tok Tryz.func176 rfl rfl ?_)
     refine wx ?_
     simp -implicitDefEqProofs -dsimp [Tryz.f176,List.replicate,encV,h2,hn]
   ·rw [if_neg h2]
    by_cases h3:v.k=3
    ·rw [decide_eq_true h3,Bool.true_and]
     by_cases hn:1≤v.n
     ·rw [decide_eq_true hn,Bool.true_and]
      refine conP_of_conH (conH_of_W tok Tryz.func176 rfl rfl ?_)
      refine wx ?_
      simp -implicitDefEqProofs -dsimp [Tryz.f176,List.replicate,encV,h3,hn]
     ·rw [decide_eq_false hn,Bool.false_and]
      refine conP_of_conH (conH_of_W tok Tryz.func176 rfl rfl ?_)
      refine wx ?_
      simp -implicitDefEqProofs -dsimp [Tryz.f176,List.replicate,encV,h3,hn]
    ·rw [decide_eq_false h3,Bool.false_and]
     refine conP_of_conH (conH_of_W tok Tryz.func176 rfl rfl ?_)
     refine wx ?_
     simp -implicitDefEqProofs -dsimp [Tryz.f176,List.replicate,encV,h0,h1,h2,h3]
theorem any_drop (p:Vl→Bool) (vs:List Vl) (i:Nat) (h:i<vs.length):(vs.drop i).all p=(p vs[i]&&(vs.drop (i+1)).all p):=by rw [List.drop_eq_getElem_cons h]; rfl
theorem valids01 (vs:List Vl) (f:Bool) (hl:vs.length≤1000000):ConP Tryz.prog 142 [LV f vs] fun r=>r = .bool (vs.all validV):=by
 obtain ⟨E,hE⟩:∃E,E=vs.all validV:=⟨_,rfl⟩
 rw [←hE]
 refine conP_of_conH (conH_of_W tok Tryz.func142 rfl rfl ?_)
 refine wx ?_
 simp -implicitDefEqProofs -dsimp [Tryz.f142,List.replicate,LV]
 refine lw_of (W_loopM 16 [2,3,4,5,6,7,8,9,10,11,12,13,14,15] (by simp [mB]<;>rfl) (σ:=Nat) (fun i=>(vs.drop i).all validV=E) (fun i=>vs.length - i) (fun i=>[(3,.int .i64 i)]) (fun _=>[]) 0 (by rw [List.drop_zero,hE]) (by simp) rfl (by simp) ?_)
 rintro i hx N Q hN hQ
 by_cases hb:i<vs.length
 ·rw [any_drop _ _ _ hb] at hx
  have hc:=valid01 vs[i]
  cases h1:validV vs[i]
  ·rw [h1] at hc
   rw [h1,Bool.false_and] at hx
   refine wx ?_
   simp -implicitDefEqProofs -dsimp [hb]
   refine (callP (hc) (by simp)).mono ?_
   rintro r H' ⟨rfl,rfl⟩
   simp -implicitDefEqProofs -dsimp []
   refine hQ _ _ _ ?_
   simp -implicitDefEqProofs -dsimp []
   simpa using hx
  ·rw [h1] at hc
   rw [h1,Bool.true_and] at hx
   refine wx ?_
   simp -implicitDefEqProofs -dsimp [hb]
   refine (callP (hc) (by simp)).mono ?_
   rintro r H' ⟨rfl,rfl⟩
   simp -implicitDefEqProofs -dsimp [wrapS i (by omega)]
   refine hN (i+1) _ _ hx (by omega) (by simp) ⟨[],rfl⟩ (by simp) (by simp)
 ·rw [List.drop_of_length_le (by omega)] at hx
  refine wx ?_
  simp -implicitDefEqProofs -dsimp [hb]
  refine hQ _ _ _ ?_
  simp -implicitDefEqProofs -dsimp []
  simpa using hx
def ixV (p:Vl→Bool) (vs:List Vl) (i:Nat):Int:=if h:i<vs.length then (if p vs[i] then (i:Int) else ixV p vs (i+1)) else -1
termination_by vs.length - i
theorem ixV_any (p:Vl→Bool) (vs:List Vl) (i:Nat):decide (0≤ixV p vs i)=(vs.drop i).any p:=by
 fun_induction ixV p vs i with
 | case1 i h h0=>rw [List.drop_eq_getElem_cons h,List.any_cons,h0]; simp
 | case2 i h h0 ih=>rw [List.drop_eq_getElem_cons h,List.any_cons,ih]; simp [h0]
 | case3 i h=>rw [List.drop_of_length_le (by omega)]; rfl
theorem idxFuncV (H:List B) (fv:V) (p:Vl→Bool) (vs:List Vl) (g:Bool) (hes:vs.length≤1000000) (hH:∀bl∈H,rbB H.length bl) (hfv:rb H.length fv)
  (hp:∀m∈vs,WCall Tryz.prog fv [encV m] H fun r H'=>r = .bool (p m)∧H'=H):ConH Tryz.prog 234 [LV g vs,fv] H fun r H'=>r = .int .i64 (ixV p vs 0)∧H'=H:=by
 refine conH_of_W tok Tryz.func234 rfl rfl ?_
 refine wx ?_
 simp -implicitDefEqProofs -dsimp [Tryz.f234,List.replicate,LV]
 refine lw_of (W_loopM 19 [4,5,8,9,10,11,12,13,14,15,16,17,18] (by simp [mB]<;>rfl) (σ:=Nat) (fun i=>ixV p vs i=ixV p vs 0) (fun i=>vs.length - i) (fun i=>[(8,.int .i64 i)]) (fun _=>H) 0 rfl (by simp) rfl (by simp) ?_)
 intro i hx N Q hN hQ
 by_cases hb:i<vs.length
 ·rw [ixV,dif_pos hb] at hx
  have hc:=hp vs[i] (List.getElem_mem hb)
  cases hq:p vs[i]
  ·rw [hq] at hc hx
   refine wx ?_
   simp -implicitDefEqProofs -dsimp [hb]
   refine hc.mono ?_
   rintro r H' ⟨rfl,rfl⟩
   simp -implicitDefEqProofs -dsimp [wrapS i (by omega)]
   refine hN (i+1) _ _ (by simpa using hx) (by omega) (by simp) ⟨[],by simp⟩ (by simp; exact hfv) hH
  ·rw [hq] at hc hx
   refine wx ?_
   simp -implicitDefEqProofs -dsimp [hb]
   refine hc.mono ?_
   rintro r H' ⟨rfl,rfl⟩
   simp -implicitDefEqProofs -dsimp []
   refine hQ _ _ _ ?_
   simp -implicitDefEqProofs -dsimp []
   simpa using hx
 ·rw [ixV,dif_neg hb] at hx
  refine wx ?_
  simp -implicitDefEqProofs -dsimp [hb]
  refine hQ _ _ _ ?_
  simp -implicitDefEqProofs -dsimp []
  simpa using hx
theorem contFuncV (H:List B) (fv:V) (p:Vl→Bool) (vs:List Vl) (g:Bool) (hes:vs.length≤1000000) (hH:∀bl∈H,rbB H.length bl) (hfv:rb H.length fv)
  (hp:∀m∈vs,WCall Tryz.prog fv [encV m] H fun r H'=>r = .bool (p m)∧H'=H):ConH Tryz.prog 174 [LV g vs,fv] H fun r H'=>r = .bool (vs.any p)∧H'=H:=by
 have h0:=ixV_any p vs 0
 rw [List.drop_zero] at h0
 have hc:=idxFuncV H fv p vs g hes hH hfv hp
 refine conH_of_W tok Tryz.func174 rfl rfl ?_
 refine wx ?_
 simp -implicitDefEqProofs -dsimp [Tryz.f174,List.replicate]
 refine WCall.mono (K:=fun r H'=>r = .int .i64 (ixV p vs 0)∧H'=H) hc ?_
 rintro r H' ⟨rfl,rfl⟩
 simp -implicitDefEqProofs -dsimp []
 rw [←h0]
theorem notValid (v:Vl):ConP Tryz.prog 175 [encV v] fun r=>r = .bool (!validV v):=by
 have hc:=validV_con v
 simp only [encV] at hc
 refine conP_of_conH (conH_of_W tok Tryz.func175 rfl rfl ?_)
 refine wx ?_
 simp -implicitDefEqProofs -dsimp [Tryz.f175,List.replicate,encV]
 refine (callP (hc) (by simp)).mono ?_
 rintro r H' ⟨rfl,rfl⟩
 simp -implicitDefEqProofs -dsimp []
theorem validVals (vs:List Vl) (f:Bool) (hl:vs.length≤1000000):ConP Tryz.prog 125 [LV f vs] fun r=>r = .bool (vs.all validV):=by
 have hc:=contFuncV [] (.fn 175 []) (fun v=>!validV v) vs f hl (by simp) (by simp) (fun m _=>callP (notValid m) (by simp))
 have he:vs.all validV = !vs.any fun v=>!validV v:=by
  induction vs with
  | nil=>rfl
  | cons v vs ih=>simp only [List.all_cons,List.any_cons,Bool.not_or,Bool.not_not]; rw [ih (by simp at hl; omega) (contFuncV [] (.fn 175 []) (fun v=>!validV v) vs f (by simp at hl; omega) (by simp) (by simp) (fun m _=>callP (notValid m) (by simp)))]
 rw [he]
 refine conP_of_conH (conH_of_W tok Tryz.func125 rfl rfl ?_)
 refine wx ?_
 simp -implicitDefEqProofs -dsimp [Tryz.f125,List.replicate]
 refine WCall.mono (K:=fun r H'=>r = .bool (vs.any fun v=>!validV v)∧H'=[]) hc ?_
 rintro r H' ⟨rfl,rfl⟩
 simp -implicitDefEqProofs -dsimp []
structure Rw where
 id:Int
 vals:List Vl
structure Tb where
 name:ByteArray
 attrs:List ByteArray
 rows:List Rw
def encRw (r:Rw):V:=.agg [.int .i64 r.id,LV false r.vals]
def LR (g:Bool) (rs:List Rw):V:=.lst 2 g (rs.map encRw)
def encTb (f g:Bool) (t:Tb):V:=.agg [.str t.name,LS f t.attrs,LR g t.rows]
@[simp] theorem encRw_pure (r:Rw):AM.Pure (encRw r):=by simp [encRw]
@[simp] theorem LR_pure (g:Bool) (rs:List Rw):AM.Pure (LR g rs):=by simp [LR]
@[simp] theorem encTb_pure (f g:Bool) (t:Tb):AM.Pure (encTb f g t):=by simp [encTb]
@[simp] theorem encRw_oneV (r:Rw):oneV (encRw r)=true:=rfl
def rowsErr (n:Nat):Int→List Rw→Int
 | _,[]=>0
 | last,r::rs=>if r.id≤last then 1 else if r.vals.length≠n then 6 else if r.vals.all validV then rowsErr n r.id rs else 1
def validT (t:Tb):Int:=if nameB t.name then (if 16<t.attrs.length∨1000<t.rows.length then 3 else if namesB t.attrs then rowsErr t.attrs.length 0 t.rows else 1) else 1
structure TbOk (t:Tb):Prop where
 name:t.name.size≤maxLen
 attrs:t.attrs.length≤1000000
 rows:t.rows.length≤1000000
 strs:∀s∈t.attrs,s.size≤maxLen
theorem valid03 (t:Tb) (f g:Bool) (h:TbOk t):ConP Tryz.prog 83 [encTb f g t] fun r=>r = .int .i64 (validT t):=by
 obtain ⟨hn,ha,hr,hs⟩:=h
 have hc1:=name03_con t.name hn
 cases h1:nameB t.name
 ·rw [h1] at hc1
  rw [show validT t=1 by simp [validT,h1]]
  refine conP_of_conH (conH_of_W tok Tryz.func83 rfl rfl ?_)
  refine wx ?_
  simp -implicitDefEqProofs -dsimp [Tryz.f83,List.replicate,encTb,LR,LS]
  refine (callP (hc1) (by simp)).mono ?_
  rintro r H' ⟨rfl,rfl⟩
  simp -implicitDefEqProofs -dsimp []
 ·rw [h1] at hc1
  by_cases h2:16<t.attrs.length
  ·rw [show validT t=3 by simp [validT,h1,h2]]
   refine conP_of_conH (conH_of_W tok Tryz.func83 rfl rfl ?_)
   refine wx ?_
   simp -implicitDefEqProofs -dsimp [Tryz.f83,List.replicate,encTb,LR,LS]
   refine (callP (hc1) (by simp)).mono ?_
   rintro r H' ⟨rfl,rfl⟩
   simp -implicitDefEqProofs -dsimp [show (16:Int)<t.attrs.length by omega]
  ·by_cases h3:1000<t.rows.length
   ·rw [show validT t=3 by simp [validT,h1,h3]]
    refine conP_of_conH (conH_of_W tok Tryz.func83 rfl rfl ?_)
    refine wx ?_
    simp -implicitDefEqProofs -dsimp [Tryz.f83,List.replicate,encTb,LR,LS]
    refine (callP (hc1) (by simp)).mono ?_
    rintro r H' ⟨rfl,rfl⟩
    simp -implicitDefEqProofs -dsimp [show ¬(16:Int)<t.attrs.length by omega,show (1000:Int)<t.rows.length by omega]
   ·have hc2:=names03 t.attrs f ha hs
    simp only [LS] at hc2
    cases h4:namesB t.attrs
    ·rw [h4] at hc2
     rw [show validT t=1 by simp [validT,h1,h2,h3,h4]]
     refine conP_of_conH (conH_of_W tok Tryz.func83 rfl rfl ?_)
     refine wx ?_
     simp -implicitDefEqProofs -dsimp [Tryz.f83,List.replicate,encTb,LR,LS]
     refine (callP (hc1) (by simp)).mono ?_
     rintro r H' ⟨rfl,rfl⟩
     simp -implicitDefEqProofs -dsimp [show ¬(16:Int)<t.attrs.length by omega,show ¬(1000:Int)<t.rows.length by omega]
     refine (callP (hc2) (by simp)).mono ?_
     rintro r H' ⟨rfl,rfl⟩
     simp -implicitDefEqProofs -dsimp []
    ·rw [h4] at hc2
     have hE:rowsErr t.attrs.length 0 t.rows=validT t:=by simp [validT,h1,h2,h3,h4]
     obtain ⟨E,hEe⟩:∃E,E=validT t:=⟨_,rfl⟩
     rw [←hEe] at hE ⊢
     refine conP_of_conH (conH_of_W tok Tryz.func83 rfl rfl ?_)
     refine wx ?_
     simp -implicitDefEqProofs -dsimp [Tryz.f83,List.replicate,encTb,LR,LS]
     refine (callP (hc1) (by simp)).mono ?_
     rintro r H' ⟨rfl,rfl⟩
     simp -implicitDefEqProofs -dsimp [show ¬(16:Int)<t.attrs.length by omega,show ¬(1000:Int)<t.rows.length by omega]
     refine (callP (hc2) (by simp)).mono ?_
     rintro r H' ⟨rfl,rfl⟩
     simp -implicitDefEqProofs -dsimp []
     refine lw_of (W_loopM 53 [2,3,4,5,24,25,26,27,28,29,30,31,32,33,34,35,36,37,38,39,40,41,42,43,44,45,46,47,48,49,50,51,52] (by simp [mB]<;>rfl) (σ:=Nat×Int) (fun p=>p.1≤t.rows.length∧rowsErr t.attrs.length p.2 (t.rows.drop p.1)=E) (fun p=>t.rows.length - p.1) (fun p=>[(4,.int .i64 p.1),(3,.int .i64 p.2)]) (fun _=>[B.cells [.str t.name,LS f t.attrs,LR g t.rows]]) (0,0) ⟨by simp,hE⟩ (by simp) (by simp [LS,LR]) (by simp) ?_)
     rintro ⟨i,last⟩ ⟨hi,hx⟩ N Q hN hQ
     simp only at hi hx hN
     by_cases hb:i<t.rows.length
     ·rw [List.drop_eq_getElem_cons hb] at hx
      simp only [rowsErr] at hx
      by_cases h5:t.rows[i].id≤last
      ·rw [if_pos h5] at hx
       refine wx ?_
       simp -implicitDefEqProofs -dsimp [hb,LS,LR,encRw,h5,LV]
       refine hQ _ _ _ ?_
       simp -implicitDefEqProofs -dsimp []
       exact hx
      ·rw [if_neg h5] at hx
       by_cases h6:t.rows[i].vals.length=t.attrs.length
       ·rw [if_neg (fun h=>h h6)] at hx
        have hc3:=valids01 t.rows[i].vals false (by omega)
        cases h7:t.rows[i].vals.all validV
        ·rw [h7] at hc3 hx
         refine wx ?_
         simp -implicitDefEqProofs -dsimp [hb,LS,LR,encRw,h5,LV,h6]
         simp only [LV] at hc3
         refine (callP (hc3) (by simp)).mono ?_
         rintro r H' ⟨rfl,rfl⟩
         simp -implicitDefEqProofs -dsimp []
         refine hQ _ _ _ ?_
         simp -implicitDefEqProofs -dsimp []
         simpa using hx
        ·rw [h7,if_pos rfl] at hx
         rw [h7] at hc3
         refine wx ?_
         simp -implicitDefEqProofs -dsimp [hb,LS,LR,encRw,h5,LV,h6]
         simp only [LV] at hc3
         refine (callP (hc3) (by simp)).mono ?_
         rintro r H' ⟨rfl,rfl⟩
         simp -implicitDefEqProofs -dsimp [wrapS i (by omega)]
         refine hN (i+1,t.rows[i].id) _ _ ⟨by simp; omega,hx⟩ (by omega) ?_ ⟨[B.cells [.int .i64 t.rows[i].id,LV false t.rows[i].vals]],?_⟩ ?_ ?_<;>simp [or_imp,forall_and,L1,encI,LS,LR,LV]
       ·rw [if_pos h6] at hx
        refine wx ?_
        simp -implicitDefEqProofs -dsimp [hb,LS,LR,encRw,h5,LV,show ¬(t.rows[i].vals.length:Int)=t.attrs.length by omega]
        refine hQ _ _ _ ?_
        simp -implicitDefEqProofs -dsimp []
        exact hx
     ·rw [List.drop_of_length_le (by omega)] at hx
      refine wx ?_
      simp -implicitDefEqProofs -dsimp [hb,LS,LR]
      refine hQ _ _ _ ?_
      simp -implicitDefEqProofs -dsimp []
      exact hx
theorem tableValid (t:Tb) (f g:Bool) (h:TbOk t):ConP Tryz.prog 77 [encTb f g t] fun r=>r = .int .i64 (validT t):=by
 obtain ⟨hn,ha,hr,hs⟩:=h
 have hc1:=isName_con t.name hn
 cases h1:nameB t.name
 ·rw [h1] at hc1
  rw [show validT t=1 by simp [validT,h1]]
  refine conP_of_conH (conH_of_W tok Tryz.func77 rfl rfl ?_)
  refine wx ?_
  simp -implicitDefEqProofs -dsimp [Tryz.f77,List.replicate,encTb,LR,LS]
  refine (callP (hc1) (by simp)).mono ?_
  rintro r H' ⟨rfl,rfl⟩
  simp -implicitDefEqProofs -dsimp []
 ·rw [h1] at hc1
  by_cases h2:16<t.attrs.length
  ·rw [show validT t=3 by simp [validT,h1,h2]]
   refine conP_of_conH (conH_of_W tok Tryz.func77 rfl rfl ?_)
   refine wx ?_
   simp -implicitDefEqProofs -dsimp [Tryz.f77,List.replicate,encTb,LR,LS]
   refine (callP (hc1) (by simp)).mono ?_
   rintro r H' ⟨rfl,rfl⟩
   simp -implicitDefEqProofs -dsimp [show (16:Int)<t.attrs.length by omega]
  ·by_cases h3:1000<t.rows.length
   ·rw [show validT t=3 by simp [validT,h1,h3]]
    refine conP_of_conH (conH_of_W tok Tryz.func77 rfl rfl ?_)
    refine wx ?_
    simp -implicitDefEqProofs -dsimp [Tryz.f77,List.replicate,encTb,LR,LS]
    refine (callP (hc1) (by simp)).mono ?_
    rintro r H' ⟨rfl,rfl⟩
    simp -implicitDefEqProofs -dsimp [show ¬(16:Int)<t.attrs.length by omega,show (1000:Int)<t.rows.length by omega]
   ·have hE:(if namesB t.attrs then rowsErr t.attrs.length 0 t.rows else 1)=validT t:=by simp [validT,h1,h2,h3]
    obtain ⟨E,hEe⟩:∃E,E=validT t:=⟨_,rfl⟩
    rw [←hEe] at hE ⊢
    refine conP_of_conH (conH_of_W tok Tryz.func77 rfl rfl ?_)
    refine wx ?_
    simp -implicitDefEqProofs -dsimp [Tryz.f77,List.replicate,encTb,LR,LS]
    refine (callP (hc1) (by simp)).mono ?_
    rintro r H' ⟨rfl,rfl⟩
    simp -implicitDefEqProofs -dsimp [show ¬(16:Int)<t.attrs.length by omega,show ¬(1000:Int)<t.rows.length by omega]
    refine lw_of (W_loopM 42 [2,3,4,25,26,27,28,29,30,31,32,33,34,35,36,37,38,39,40,41] (by simp [mB]<;>rfl) (σ:=Nat) (fun i=>i≤t.attrs.length∧(List.range i).all (nmAt t.attrs)=true) (fun i=>t.attrs.length - i) (fun i=>[(25,.int .i64 i)]) (fun _=>[B.cells [.str t.name,LS f t.attrs,LR g t.rows]]) 0 ⟨by omega,rfl⟩ (by simp) (by simp [LS,LR]) (by simp) ?_)
    rintro i ⟨hi,hall⟩ N Q hN hQ
    by_cases hb:i<t.attrs.length
    ·have hsi:sAt t.attrs i=t.attrs[i]:=by simp [sAt,hb]
     have hok:nmAt t.attrs i=(nameB t.attrs[i]&&!memS (t.attrs.take i) t.attrs[i]):=by unfold nmAt; rw [hsi]
     have hd1:=isName_con t.attrs[i] (hs _ (List.getElem_mem hb))
     have hd2:=containsS (t.attrs.take i) t.attrs[i] (f&&i == t.attrs.length) (by simp; omega)
     simp only [LS,List.map_take] at hd2
     cases h5:nameB t.attrs[i]
     ·rw [h5,Bool.false_and] at hok
      rw [h5] at hd1
      rw [show namesB t.attrs=false from allno hb hok] at hE
      refine wx ?_
      simp -implicitDefEqProofs -dsimp [hb,LS,LR]
      refine (callP (hd1) (by simp)).mono ?_
      rintro r H' ⟨rfl,rfl⟩
      simp -implicitDefEqProofs -dsimp []
      refine hQ _ _ _ ?_
      simp -implicitDefEqProofs -dsimp []
      simpa using hE
     ·rw [h5,Bool.true_and] at hok
      rw [h5] at hd1
      cases h6:memS (t.attrs.take i) t.attrs[i]
      ·rw [h6] at hd2 hok
       refine wx ?_
       simp -implicitDefEqProofs -dsimp [hb,LS,LR]
       refine (callP (hd1) (by simp)).mono ?_
       rintro r H' ⟨rfl,rfl⟩
       simp -implicitDefEqProofs -dsimp [show i≤t.attrs.length by omega]
       refine (callP (hd2) (by simp)).mono ?_
       rintro r H' ⟨rfl,rfl⟩
       simp -implicitDefEqProofs -dsimp [wrapS i (by omega)]
       refine hN (i+1) _ _ ⟨by omega,all_succ hall (by rw [hok]; rfl)⟩ (by omega) ?_ ⟨[],?_⟩ ?_ ?_<;>simp [or_imp,forall_and,L1,encI,LS,LR]
      ·rw [h6] at hd2 hok
       rw [show namesB t.attrs=false from allno hb hok] at hE
       refine wx ?_
       simp -implicitDefEqProofs -dsimp [hb,LS,LR]
       refine (callP (hd1) (by simp)).mono ?_
       rintro r H' ⟨rfl,rfl⟩
       simp -implicitDefEqProofs -dsimp [show i≤t.attrs.length by omega]
       refine (callP (hd2) (by simp)).mono ?_
       rintro r H' ⟨rfl,rfl⟩
       simp -implicitDefEqProofs -dsimp []
       refine hQ _ _ _ ?_
       simp -implicitDefEqProofs -dsimp []
       simpa using hE
    ·obtain rfl:i=t.attrs.length:=by omega
     rw [show namesB t.attrs=true from hall,if_pos rfl] at hE
     refine wx ?_
     simp -implicitDefEqProofs -dsimp [hb,LS,LR]
     refine hQ _ _ _ ?_
     simp -implicitDefEqProofs -dsimp [LS,LR]
     refine lw_of (W_loopM 70 [2,5,7,45,46,47,48,49,50,51,52,53,54,55,56,57,58,59,60,61,62,63,64,65,66,67,68,69] (by simp [mB]<;>rfl) (σ:=Nat×Int) (fun p=>p.1≤t.rows.length∧rowsErr t.attrs.length p.2 (t.rows.drop p.1)=E) (fun p=>t.rows.length - p.1) (fun p=>[(45,.int .i64 p.1),(5,.int .i64 p.2)]) (fun _=>[B.cells [.str t.name,LS f t.attrs,LR g t.rows]]) (0,0) ⟨by simp,hE⟩ (by simp) (by simp [LS,LR]) (by simp) ?_)
     rintro ⟨j,last⟩ ⟨hj,hx⟩ N2 Q2 hN2 hQ2
     simp only at hj hx hN2
     by_cases hjb:j<t.rows.length
     ·rw [List.drop_eq_getElem_cons hjb] at hx
      simp only [rowsErr] at hx
      by_cases h5:t.rows[j].id≤last
      ·rw [if_pos h5] at hx
       refine wx ?_
       simp -implicitDefEqProofs -dsimp [hjb,LS,LR,encRw,h5,LV]
       refine hQ2 _ _ _ ?_
       simp -implicitDefEqProofs -dsimp []
       exact hx
      ·rw [if_neg h5] at hx
       by_cases h6:t.rows[j].vals.length=t.attrs.length
       ·rw [if_neg (fun h=>h h6)] at hx
        have hc3:=validVals t.rows[j].vals false (by omega)
        simp only [LV] at hc3
        cases h7:t.rows[j].vals.all validV
        ·rw [h7] at hc3 hx
         refine wx ?_
         simp -implicitDefEqProofs -dsimp [hjb,LS,LR,encRw,h5,LV,h6]
         refine (callP (hc3) (by simp)).mono ?_
         rintro r H' ⟨rfl,rfl⟩
         simp -implicitDefEqProofs -dsimp []
         refine hQ2 _ _ _ ?_
         simp -implicitDefEqProofs -dsimp []
         simpa using hx
        ·rw [h7,if_pos rfl] at hx
         rw [h7] at hc3
         refine wx ?_
         simp -implicitDefEqProofs -dsimp [hjb,LS,LR,encRw,h5,LV,h6]
         refine (callP (hc3) (by simp)).mono ?_
         rintro r H' ⟨rfl,rfl⟩
         simp -implicitDefEqProofs -dsimp [wrapS j (by omega)]
         refine hN2 (j+1,t.rows[j].id) _ _ ⟨by simp; omega,hx⟩ (by omega) ?_ ⟨[B.cells [.int .i64 t.rows[j].id,LV false t.rows[j].vals]],?_⟩ ?_ ?_<;>simp [or_imp,forall_and,L1,encI,LS,LR,LV]
       ·rw [if_pos h6] at hx
        refine wx ?_
        simp -implicitDefEqProofs -dsimp [hjb,LS,LR,encRw,h5,LV,show ¬(t.rows[j].vals.length:Int)=t.attrs.length by omega]
        refine hQ2 _ _ _ ?_
        simp -implicitDefEqProofs -dsimp []
        exact hx
     ·rw [List.drop_of_length_le (by omega)] at hx
      refine wx ?_
      simp -implicitDefEqProofs -dsimp [hjb,LS,LR]
      refine hQ2 _ _ _ ?_
      simp -implicitDefEqProofs -dsimp []
      exact hx
def ofV (m:Int):Vl :=
 if m=0 then ⟨1,0,ByteArray.empty⟩ else
 if m=1 then ⟨1,1,ByteArray.empty⟩ else
 if m=2 then ⟨1,2,ByteArray.empty⟩ else
 if m=3 then ⟨0,0,ByteArray.empty⟩ else
 if m=4 then ⟨2,0,⟨#[97]⟩⟩ else
 if m=5 then ⟨2,0,⟨#[98]⟩⟩ else
 if m=6 then ⟨2,0,ByteArray.empty⟩ else
 if m=7 then ⟨3,1,ByteArray.empty⟩ else
 if m=8 then ⟨1,-1,ByteArray.empty⟩ else
 if m=9 then ⟨2,0,⟨#[97,98]⟩⟩ else
 if m=10 then ⟨3,2,ByteArray.empty⟩ else
 ⟨1,7,ByteArray.empty⟩
def ofC (c:Int):Vl:=ofV (c.tmod 12)
theorem of01 (c:Int):ConP Tryz.prog 107 [.int .u8 c] fun r=>r=encV (ofC c):=by
 unfold ofC
 obtain ⟨m,hm⟩:∃m,m=c.tmod 12:=⟨_,rfl⟩
 rw [←hm]
 have hm:=hm.symm
 by_cases h0:m=0
 ·have e:ofV m=ofV 0:=by rw [h0]
  rw [e]
  refine conP_of_conH (conH_of_W tok Tryz.func107 rfl rfl ?_)
  refine wx ?_
  simp -implicitDefEqProofs -dsimp [Tryz.f107,List.replicate,hm,h0]
  rfl
 by_cases h1:m=1
 ·have e:ofV m=ofV 1:=by rw [h1]
  rw [e]
  refine conP_of_conH (conH_of_W tok Tryz.func107 rfl rfl ?_)
  refine wx ?_
  simp -implicitDefEqProofs -dsimp [Tryz.f107,List.replicate,hm,h1]
  rfl
 by_cases h2:m=2
 ·have e:ofV m=ofV 2:=by rw [h2]
  rw [e]
  refine conP_of_conH (conH_of_W tok Tryz.func107 rfl rfl ?_)
  refine wx ?_
  simp -implicitDefEqProofs -dsimp [Tryz.f107,List.replicate,hm,h2]
  rfl
 by_cases h3:m=3
 ·have e:ofV m=ofV 3:=by rw [h3]
  rw [e]
  refine conP_of_conH (conH_of_W tok Tryz.func107 rfl rfl ?_)
  refine wx ?_
  simp -implicitDefEqProofs -dsimp [Tryz.f107,List.replicate,hm,h3]
  rfl
 by_cases h4:m=4
 ·have e:ofV m=ofV 4:=by rw [h4]
  rw [e]
  refine conP_of_conH (conH_of_W tok Tryz.func107 rfl rfl ?_)
  refine wx ?_
  simp -implicitDefEqProofs -dsimp [Tryz.f107,List.replicate,hm,h4]
  rfl
 by_cases h5:m=5
 ·have e:ofV m=ofV 5:=by rw [h5]
  rw [e]
  refine conP_of_conH (conH_of_W tok Tryz.func107 rfl rfl ?_)
  refine wx ?_
  simp -implicitDefEqProofs -dsimp [Tryz.f107,List.replicate,hm,h5]
  rfl
 by_cases h6:m=6
 ·have e:ofV m=ofV 6:=by rw [h6]
  rw [e]
  refine conP_of_conH (conH_of_W tok Tryz.func107 rfl rfl ?_)
  refine wx ?_
  simp -implicitDefEqProofs -dsimp [Tryz.f107,List.replicate,hm,h6]
  rfl
 by_cases h7:m=7
 ·have e:ofV m=ofV 7:=by rw [h7]
  rw [e]
  refine conP_of_conH (conH_of_W tok Tryz.func107 rfl rfl ?_)
  refine wx ?_
  simp -implicitDefEqProofs -dsimp [Tryz.f107,List.replicate,hm,h7]
  rfl
 by_cases h8:m=8
 ·have e:ofV m=ofV 8:=by rw [h8]
  rw [e]
  refine conP_of_conH (conH_of_W tok Tryz.func107 rfl rfl ?_)
  refine wx ?_
  simp -implicitDefEqProofs -dsimp [Tryz.f107,List.replicate,hm,h8]
  rfl
 by_cases h9:m=9
 ·have e:ofV m=ofV 9:=by rw [h9]
  rw [e]
  refine conP_of_conH (conH_of_W tok Tryz.func107 rfl rfl ?_)
  refine wx ?_
  simp -implicitDefEqProofs -dsimp [Tryz.f107,List.replicate,hm,h9]
  rfl
 by_cases h10:m=10
 ·have e:ofV m=ofV 10:=by rw [h10]
  rw [e]
  refine conP_of_conH (conH_of_W tok Tryz.func107 rfl rfl ?_)
  refine wx ?_
  simp -implicitDefEqProofs -dsimp [Tryz.f107,List.replicate,hm,h10]
  rfl
 have e:ofV m=⟨1,7,ByteArray.empty⟩:=by unfold ofV; simp [h0,h1,h2,h3,h4,h5,h6,h7,h8,h9,h10]
 rw [e]
 refine conP_of_conH (conH_of_W tok Tryz.func107 rfl rfl ?_)
 refine wx ?_
 simp -implicitDefEqProofs -dsimp [Tryz.f107,List.replicate,hm,h0,h1,h2,h3,h4,h5,h6,h7,h8,h9,h10]
 rfl
def lfB:V→V→Prop
 | x,y=>y=x∨(∃z xs,x = .lst z true xs∧y = .lst z false xs)∨(∃z,x = .nilS∧y = .lst z false [])
def LfL:List V→List V→Prop
 | [],[]=>True
 | x::xs,y::ys=>lfB x y∧LfL xs ys
 | _,_=>False
theorem LfL.len:∀{xs ys:List V},LfL xs ys→xs.length=ys.length
 | [],[],_=>rfl
 | [],_::_,h=>h.elim
 | _::_,[],h=>h.elim
 | _::_,_::_,h=>by simp [h.2.len]
theorem LfL.at_:∀{xs ys:List V},LfL xs ys→∀(i:Nat) x y,xs[i]?=some x→ys[i]?=some y→lfB x y
 | [],_,_,i,x,y,h,_=>by simp at h
 | _::_,[],h,_,_,_,_,_=>h.elim
 | a::xs,b::ys,h,0,x,y,h1,h2=>by simp at h1 h2; subst h1; subst h2; exact h.1
 | a::xs,b::ys,h,i+1,x,y,h1,h2=>h.2.at_ i x y (by simpa using h1) (by simpa using h2)
theorem lf_rel {s:AM.St} {x y:V} {u:Value} (h:Rel s x u) (hl:lfB x y):Rel s y u:=by
 rcases hl with rfl | ⟨z,xs,rfl,rfl⟩ | ⟨z,rfl,rfl⟩
 ·exact h
 ·cases h with
  | lst _ _ _ A cap b off u hcap hfull hA hz hcell hrel=>exact .lst z false xs A cap b off u hcap (fun h=>by cases h) hA hz hcell hrel
 ·cases h
  exact rel_empty z false none 0 (fun _=>rfl)
theorem lf_one {x y:V} (hl:lfB x y) (h:x.one=true):y.one=true:=by
 rcases hl with rfl | ⟨z,xs,rfl,rfl⟩ | ⟨z,rfl,rfl⟩
 ·exact h
 ·rfl
 ·rfl
theorem W_lf {P:Program} (k0:Nat) (fr' cs':List V) {c:Code} {Q:Exit→List V→List B→Prop} {fr:List V} {H:List B} {cs:List V} (hk:H[k0]?=some (.cells cs)) (ho:LfL fr fr') (hc:LfL cs cs')
  (h:W P c Q fr' (H.set k0 (.cells cs'))):W P c Q fr H:=by
 intro s a hA hg hf hd
 obtain ⟨rfl,hZ⟩:=hA
 have hst:=setB_step (w:=s.w) (bl':=.cells cs') hg hk (lvC hk) trivial rfl rfl rfl (Nat.le_refl _) (fun _ _ _=>rfl)
 have hl:=ho.len
 have hlc:=hc.len
 have hgd:AM.Good (s.setB s.w k0 (.cells cs')):=by
  refine setB_good hg hk (lvC hk) trivial rfl rfl rfl (Nat.le_refl _) (fun _ _ _=>rfl) (fun hst=>?_)
  obtain ⟨h1,vs,t,h2,h3,h4⟩:=hg.blk k0 _ hk
  refine ⟨fun d hd=>?_,vs,t,h2,by omega,fun i d u hd hu=>?_⟩
  ·obtain ⟨i,hi⟩:=List.mem_iff_getElem?.1 hd
   have hx:cs[i]?=some (cs[i]'(by have:=getElem?_lt hi; omega)):=List.getElem?_eq_getElem _
   exact lf_one (hc.at_ i _ d hx hi) (h1 _ (List.getElem_mem _))
  ·have hx:cs[i]?=some (cs[i]'(by have:=getElem?_lt hd; omega)):=List.getElem?_eq_getElem _
   exact (lf_rel (h4 i _ u hx hu) (hc.at_ i _ d hx hd)).step hst
 have:=h (s.setB s.w k0 (.cells cs')) a ⟨rfl,hZ.step hst⟩ hgd ⟨by rw [hf.len,hl],fun i v u hv hu=>by
  have hx:fr[i]?=some (fr[i]'(by have:=getElem?_lt hv; omega)):=List.getElem?_eq_getElem _
  exact (lf_rel (hf.rel i _ u hx hu) (ho.at_ i _ v hx hv)).step hst⟩ hd
 exact wp_mono this fun _ _ _ hl=>leaves_trans hst hl
theorem lfB_refl (x:V):lfB x x:=.inl rfl
theorem lfL_refl:∀xs:List V,LfL xs xs
 | []=>trivial
 | x::xs=>⟨lfB_refl x,lfL_refl xs⟩
structure Rcp where
 a:Int
 gap:Int
 rows:List (List Int)
def LU (xs:List Int):V:=.lst 1 false (xs.map encU)
def encRcp (f:Bool) (x:Rcp):V:=.agg [.int .u8 x.a,.int .u8 x.gap,.lst 1 f (x.rows.map LU)]
@[simp] theorem LU_pure (xs:List Int):AM.Pure (LU xs):=by simp [LU]
@[simp] theorem encRcp_pure (f:Bool) (x:Rcp):AM.Pure (encRcp f x):=by simp [encRcp]
def L8:List ByteArray:=[⟨#[97]⟩,⟨#[98]⟩,⟨#[99]⟩,⟨#[100]⟩,⟨#[101]⟩,⟨#[102]⟩,⟨#[103]⟩,⟨#[104]⟩]
def wVals (cs:List Int) (k:Nat):List Vl:=(List.range k).map fun j=>ofC (cs.getD j 0)
def wRow (gap:Int) (cs:List Int) (n i:Nat):Rw:=⟨1+(i:Int)*(1+gap.tmod 3),wVals cs n⟩
def wRows (x:Rcp) (n i:Nat):List Rw:=(List.range i).map fun j=>wRow x.gap (x.rows.getD j []) n j
def wideT (x:Rcp) (n:Nat):Tb:=⟨⟨#[114]⟩,L8.take n,wRows x n x.rows.length⟩
theorem wVals_succ (cs:List Int) (k:Nat):wVals cs (k+1)=wVals cs k++[ofC (cs.getD k 0)]:=by simp [wVals,List.range_succ]
theorem wVals_len (cs:List Int) (k:Nat):(wVals cs k).length=k:=by simp [wVals]
theorem wRows_succ (x:Rcp) (n i:Nat):wRows x n (i+1)=wRows x n i++[wRow x.gap (x.rows.getD i []) n i]:=by simp [wRows,List.range_succ]
theorem wRows_len (x:Rcp) (n i:Nat):(wRows x n i).length=i:=by simp [wRows]
theorem cap32 (n:Nat) (h:n≤1000000000):n≤9223372036854775806∧(n+1)*32≤140737488355328:=by omega
theorem L8_take (n:Nat):List.take n [V.str ⟨#[97]⟩,V.str ⟨#[98]⟩,V.str ⟨#[99]⟩,V.str ⟨#[100]⟩,V.str ⟨#[101]⟩,V.str ⟨#[102]⟩,V.str ⟨#[103]⟩,V.str ⟨#[104]⟩]=(L8.take n).map V.str:=by rw [List.map_take]; rfl
theorem ownF_refl (k:Nat):∀xs:List V,OwnF k xs xs
 | []=>trivial
 | x::xs=>⟨.inl rfl,ownF_refl k xs⟩
theorem ownAt_nil (k:Nat):∀(i:Nat) (xs:List V),ownAt k [] i xs=xs
 | _,[]=>rfl
 | i,x::xs=>by simp only [ownAt,List.contains_nil,Bool.false_eq_true,if_false,ownAt_nil k (i+1) xs]
theorem lfL_own (k:Nat) (xs:List V):OwnF k xs (ownAt k [] 0 xs):=by rw [ownAt_nil]; exact ownF_refl k xs
theorem wide03 (x:Rcp) (n:Nat) (f:Bool) (hn:n≤8) (hr:x.rows.length≤1000000) (hc:∀r∈x.rows,r.length≤9223372036854775807) (h0:0≤x.gap) :
  ConP Tryz.prog 75 [encRcp f x,.int .i64 n] fun r=>r=encTb false false (wideT x n):=by
 have hg:=Int.tmod_nonneg 3 h0
 have hg2:=Int.tmod_lt_of_pos x.gap (show (0:Int)<3 by omega)
 obtain ⟨g,hge⟩:∃g,g=x.gap.tmod 3:=⟨_,rfl⟩
 rw [←hge] at hg hg2
 have hgs:=hge.symm
 have hw1:IntKind.i64.wrap g=g:=wrap64 (by omega) (by omega)
 have hw2:IntKind.i64.wrap (1+g)=1+g:=wrap64 (by omega) (by omega)
 have hl8:(L8.take n).length=n:=by simp [L8]; omega
 have hne:(n=0∧List.take n (L8.map V.str)=[])∨(¬n=0∧¬List.take n (L8.map V.str)=[]):=by
  by_cases hz:n=0
  ·exact .inl ⟨hz,by rw [hz]; rfl⟩
  ·refine .inr ⟨hz,fun h=>?_⟩
   have:=congrArg List.length h
   rw [←List.map_take,List.length_map,hl8] at this
   exact hz this
 have hlt:(List.take n (L8.map V.str)).length=n:=by rw [←List.map_take,List.length_map,hl8]
 have hcp:n≤9223372036854775807∧n*16≤140737488355328:=by omega
 rcases hne with ⟨hz,hne⟩ | ⟨hz,hne⟩
 case' inl =>
  refine conP_of_conH (conH_of_W (tok_flag tok (fun t=>t == 29)) Tryz.func75 rfl rfl ?_)
  refine W_x (tok_flag tok (fun t=>t == 29)) mixed ?_
  simp -implicitDefEqProofs -dsimp [Tryz.f75,List.replicate,encRcp,L8_take,hn,hne,flagT]
 case' inr =>
  refine conP_of_conH (conH_of_W (tok_flag tok (fun t=>t == 29)) Tryz.func75 rfl rfl ?_)
  refine W_x (tok_flag tok (fun t=>t == 29)) mixed ?_
  simp -implicitDefEqProofs -dsimp [Tryz.f75,List.replicate,encRcp,L8_take,hn,hz,hne,hlt,hcp,flagT]
 all_goals
  refine lw_of (W_lf 2 _ [.str ⟨#[114]⟩,.lst 1 false (List.take n (L8.map V.str)),.nilS] rfl (lfL_refl _) (by simp [LfL,lfB,hne]) (W_ownC 80 2 [] 2 [2] rfl (lfL_own _ _) (by simp) (W_loopM 66 [6,7,8,9,10,11,13,14,15,16,17,18,19,20,21,22,23,24,25,26,27,28,29,30,31,32,33,34,35,36,37,38,39,40,41,42,43,44,45,46,47,48,49,50,51,52,53,54,55,56,57,58,59,60,61,62,63,64,65] (by simp [mB]<;>rfl) (σ:=Nat) (fun i=>i≤x.rows.length) (fun i=>x.rows.length - i) (fun i=>[(6,.int .i64 i)]) (fun i=>[B.cells [.int .u8 x.a,.int .u8 x.gap,.lst 1 f (x.rows.map LU)],B.cells [.str ByteArray.empty,.nilS,.nilS],B.cells [.str ⟨#[114]⟩,.lst 1 false (List.take n (L8.map V.str)),.buf 3 0 i i],B.buf 80 2 ((wRows x n i).map encRw) false]) 0 (by omega) (by simp) (by simp [wRows]) (by simp) ?_)))
  intro i hi N Q hN hQ
  have hwl:=wRows_len x n i
  by_cases hb:i<x.rows.length
  ·have hg0:x.rows.getD i []=x.rows[i]:=by simp [hb]
   have hws:=wRows_succ x n i
   rw [hg0] at hws
   have hcl:=hc x.rows[i] (List.getElem_mem hb)
   obtain ⟨cs,hcs⟩:∃cs,cs=x.rows[i]:=⟨_,rfl⟩
   rw [←hcs] at hws hcl
   have hcs':=hcs.symm
   have hp0:0≤(i:Int)*(1+g):=Int.mul_nonneg (by omega) (by omega)
   have hp1:(i:Int)*(1+g)≤i*3:=Int.mul_le_mul_of_nonneg_left (by omega) (by omega)
   have hw3:IntKind.i64.wrap ((i:Int)*(1+g))=(i:Int)*(1+g):=wrap64 (by omega) (by omega)
   have hw4:IntKind.i64.wrap (1+(i:Int)*(1+g))=1+(i:Int)*(1+g):=wrap64 (by omega) (by omega)
   have hrow:wRow x.gap cs n i=⟨1+(i:Int)*(1+g),wVals cs n⟩:=by rw [hge]; rfl
   rw [hrow] at hws
   obtain ⟨id,hid⟩:∃id,id=1+(i:Int)*(1+g):=⟨_,rfl⟩
   rw [←hid] at hws hw4
   have hw5:IntKind.i64.wrap (1+(i:Int)*(1+g))=id:=by rw [←hid]; exact hw4
   refine W_x (tok_flag tok (fun t=>t == 29)) mixed ?_
   simp -implicitDefEqProofs -dsimp [hb,hgs,hw1,hw2,hw3,hw5,flagT]
   refine lw_of (W_ownC 200 3 [] 4 [1] rfl (lfL_own _ _) (by simp) (W_loopM 60 [8,9,32,33,34,35,36,37,38,39,40,41,42,43,44,45,46,47,48,49,50,51,52,53,54,55,56,57,58,59] (by simp [mB]<;>rfl) (σ:=Nat) (fun k=>k≤n) (fun k=>n - k) (fun k=>[(8,.int .i64 k)]) (fun k=>[B.cells [.int .u8 x.a,.int .u8 x.gap,.lst 1 f (x.rows.map LU)],B.cells [.str ByteArray.empty,.nilS,.nilS],B.cells [.str ⟨#[114]⟩,.lst 1 false (List.take n (L8.map V.str)),.buf 3 0 i i],B.buf 80 2 ((wRows x n i).map encRw) false,B.cells [.int .i64 id,.buf 5 0 k k],B.buf 200 3 ((wVals cs k).map encV) false]) 0 (by omega) (by simp) (by simp [wVals]) (by simp) ?_))
   intro k hk N2 Q2 hN2 hQ2
   have hvl:=wVals_len cs k
   have hvs:=wVals_succ cs k
   by_cases hkb:k<n
   ·by_cases hkc:k<cs.length
    ·have hg1:cs.getD k 0=cs[k]:=by simp [hkc]
     rw [hg1] at hvs
     have hco:=of01 cs[k]
     refine W_x (tok_flag tok (fun t=>t == 29)) mixed ?_
     simp -implicitDefEqProofs -dsimp [hkb,hb,LU,hcs',hkc,encU,flagT]
     refine lw_of (W_drawT (tok_flag tok (fun t=>t == 29)) mixed [5,7] [] [(encV (ofC cs[k]),[])] (by kernel_rfl) fun C K hC hK=>?_)
     simp -implicitDefEqProofs [cap32 k (by omega),hvl,encV,flagT]
     refine ⟨hC _ _ _ _ (callP hco (by simp)),hK _ _ ?_⟩
     simp -implicitDefEqProofs -dsimp [wrapS k (by omega),flagT]
     refine hN2 (k+1) _ _ (by omega) (by omega) ?_ ⟨[],?_⟩ ?_ ?_<;>simp [or_imp,forall_and,L1,encI,hvs,LS,encV,encRw,LV]
    ·have hg1:cs.getD k 0=0:=by simp [hkc]
     rw [hg1] at hvs
     have hco:=of01 0
     refine W_x (tok_flag tok (fun t=>t == 29)) mixed ?_
     simp -implicitDefEqProofs -dsimp [hkb,hb,LU,hcs',hkc,encU,flagT]
     refine lw_of (W_drawT (tok_flag tok (fun t=>t == 29)) mixed [5,7] [] [(encV (ofC 0),[])] (by kernel_rfl) fun C K hC hK=>?_)
     simp -implicitDefEqProofs [cap32 k (by omega),hvl,encV,flagT]
     refine ⟨hC _ _ _ _ (callP hco (by simp)),hK _ _ ?_⟩
     simp -implicitDefEqProofs -dsimp [wrapS k (by omega),flagT]
     refine hN2 (k+1) _ _ (by omega) (by omega) ?_ ⟨[],?_⟩ ?_ ?_<;>simp [or_imp,forall_and,L1,encI,hvs,LS,encV,encRw,LV]
   ·obtain rfl:k=n:=by omega
    refine W_frzC 5 [] 4 [1] rfl rfl (by simp) (by simp [hvl]) ?_
    refine W_x (tok_flag tok (fun t=>t == 29)) mixed ?_
    simp -implicitDefEqProofs -dsimp [hkb,flagT]
    refine hQ2 _ _ _ ?_
    simp -implicitDefEqProofs -dsimp [hwl,cap32 i (by omega),wrapS i (by omega),flagT]
    refine hN (i+1) _ _ (by omega) (by omega) ?_ ⟨[B.cells [.int .i64 id,LV false (wVals cs k)],B.buf 200 3 ((wVals cs k).map encV) true],?_⟩ ?_ ?_<;>simp [or_imp,forall_and,L1,encI,hws,encRw,LV]
  ·obtain rfl:i=x.rows.length:=by omega
   refine W_frzC 3 [] 2 [2] rfl rfl (by simp) (by simp [hwl]) ?_
   refine W_x (tok_flag tok (fun t=>t == 29)) mixed ?_
   simp -implicitDefEqProofs -dsimp [hb,flagT]
   refine hQ _ _ _ ?_
   simp -implicitDefEqProofs -dsimp [flagT]
   simp only [encTb,wideT,LS,LR,List.map_take]
theorem nanInt (x:Int):ConP Tryz.prog 269 [.int .i64 x] fun r=>r = .bool false:=by
 refine conP_of_conH (conH_of_W tok Tryz.func269 rfl rfl ?_)
 refine wx ?_
 simp -implicitDefEqProofs -dsimp [Tryz.f269,List.replicate]
theorem cmpInt (x y:Int):ConP Tryz.prog 284 [.int .i64 x,.int .i64 y] fun r=>r = .int .i64 (cmpI x y):=by
 refine conP_of_conH (conH_of_W tok Tryz.func284 rfl rfl ?_)
 refine wx ?_
 simp -implicitDefEqProofs -dsimp [Tryz.f284,List.replicate]
 refine (callP (nanInt x) (by simp)).mono ?_
 rintro r H' ⟨rfl,rfl⟩
 simp -implicitDefEqProofs -dsimp []
 refine (callP (nanInt y) (by simp)).mono ?_
 rintro r H' ⟨rfl,rfl⟩
 simp -implicitDefEqProofs -dsimp []
 unfold cmpI
 split
 ·rfl
 ·split<;>rfl
theorem sign01 (x y:Int):ConP Tryz.prog 276 [.int .i64 x,.int .i64 y] fun r=>r = .int .i64 (cmpI x y):=by
 refine conP_of_conH (conH_of_W tok Tryz.func276 rfl rfl ?_)
 refine wx ?_
 simp -implicitDefEqProofs -dsimp [Tryz.f276,List.replicate]
 unfold cmpI
 split
 ·rfl
 ·split<;>rfl
theorem cmpS_drop (a b:ByteArray) (i:Nat) (ha:i<a.size) (hb:i<b.size):Lib.compareBytes (a.data.toList.drop i) (b.data.toList.drop i)=if a[i]<b[i] then -1 else if b[i]<a[i] then 1 else Lib.compareBytes (a.data.toList.drop (i+1)) (b.data.toList.drop (i+1)):=by
 have h1:i<a.data.toList.length:=by rw [ba_len]; exact ha
 have h2:i<b.data.toList.length:=by rw [ba_len]; exact hb
 rw [List.drop_eq_getElem_cons h1,List.drop_eq_getElem_cons h2,Lib.compareBytes]
 rfl
theorem cmpS_end (a b:ByteArray) (i:Nat) (hi:i≤a.size) (hj:i≤b.size) (h:¬(i<a.size∧i<b.size)):Lib.compareBytes (a.data.toList.drop i) (b.data.toList.drop i)=cmpI a.size b.size:=by
 have l1:=ba_len a
 have l2:=ba_len b
 by_cases h1:i<a.size
 ·have h2:i=b.size:=by omega
  have h3:i<a.data.toList.length:=by omega
  rw [List.drop_eq_getElem_cons h3,List.drop_of_length_le (l:=b.data.toList) (by omega),Lib.compareBytes]
  unfold cmpI
  rw [if_neg (by omega),if_pos (by omega)]
 ·rw [List.drop_of_length_le (l:=a.data.toList) (by omega)]
  by_cases h2:i<b.size
  ·have h3:i<b.data.toList.length:=by omega
   rw [List.drop_eq_getElem_cons h3,Lib.compareBytes]
   unfold cmpI
   rw [if_pos (by omega)]
  ·rw [List.drop_of_length_le (l:=b.data.toList) (by omega),Lib.compareBytes]
   unfold cmpI
   rw [if_neg (by omega),if_neg (by omega)]
theorem strings01 (a b:ByteArray) (ha:a.size≤maxLen):ConP Tryz.prog 277 [.str a,.str b] fun r=>r = .int .i64 (cmpS a b):=by
 refine conP_of_conH (conH_of_W tok Tryz.func277 rfl rfl ?_)
 refine wx ?_
 simp -implicitDefEqProofs -dsimp [Tryz.f277,List.replicate]
 refine lw_of (W_loopM 34 [4,5,6,7,8,9,10,11,12,13,14,15,16,17,18,19,20,21,22,23,24,25,26,27,28,29,30,31,32,33] (by simp [mB]<;>rfl) (σ:=Nat) (fun i=>i≤a.size∧i≤b.size∧Lib.compareBytes (a.data.toList.drop i) (b.data.toList.drop i)=cmpS a b) (fun i=>a.size - i) (fun i=>[(5,.int .i64 i)]) (fun _=>[]) 0 ⟨by omega,by omega,rfl⟩ (by simp) rfl (by simp) ?_)
 rintro i ⟨hi,hj,hx⟩ N Q hN hQ
 by_cases h:i<a.size∧i<b.size
 ·obtain ⟨h1,h2⟩:=h
  rw [cmpS_drop a b i h1 h2] at hx
  obtain ⟨x1,x2⟩:=byteAt_in h1
  obtain ⟨y1,y2⟩:=byteAt_in h2
  by_cases hq:byteAt a i=byteAt b i
  ·have e1:¬a[i]<b[i]:=fun h=>by have:=UInt8.lt_iff_toNat_lt.1 h; omega
   have e2:¬b[i]<a[i]:=fun h=>by have:=UInt8.lt_iff_toNat_lt.1 h; omega
   rw [if_neg e1,if_neg e2] at hx
   refine wx ?_
   simp -implicitDefEqProofs -dsimp [h1,h2,x1,y1,x2,y2,hq]
   refine .inr ⟨stop_of (by kernel_rfl),?_⟩
   simp -implicitDefEqProofs -dsimp [wrapS i (by unfold maxLen at ha; omega)]
   refine hN (i+1) _ _ ⟨by omega,by omega,hx⟩ (by omega) ?_ ⟨[],?_⟩ ?_ ?_<;>simp [or_imp,forall_and,L1,encI]
  ·have hs:cmpI (byteAt a i) (byteAt b i)=cmpS a b:=by
    rw [←hx,←x2,←y2]
    unfold cmpI
    by_cases e1:a[i]<b[i]
    ·have e1':(a[i].toNat:Int)<b[i].toNat:=by have:=UInt8.lt_iff_toNat_lt.1 e1; omega
     rw [if_pos e1,if_pos e1']
    ·have e1':¬((a[i].toNat:Int)<b[i].toNat):=fun h=>e1 (UInt8.lt_iff_toNat_lt.2 (by omega))
     have e2:b[i]<a[i]:=UInt8.lt_iff_toNat_lt.2 (by omega)
     have e2':(b[i].toNat:Int)<a[i].toNat:=by have:=UInt8.lt_iff_toNat_lt.1 e2; omega
     rw [if_neg e1,if_neg e1',if_pos e2,if_pos e2']
   have hw1:IntKind.i64.wrap (byteAt a i)=byteAt a i:=by rw [←x2]; exact wrap64 (by omega) (by have:=UInt8.toNat_lt a[i]; omega)
   have hw2:IntKind.i64.wrap (byteAt b i)=byteAt b i:=by rw [←y2]; exact wrap64 (by omega) (by have:=UInt8.toNat_lt b[i]; omega)
   have hc:=sign01 (byteAt a i) (byteAt b i)
   refine wx ?_
   simp -implicitDefEqProofs -dsimp [h1,h2,x1,y1,x2,y2,hq]
   refine .inr ⟨stop_of (by kernel_rfl),?_⟩
   simp -implicitDefEqProofs -dsimp [h1,h2,x1,y1,x2,y2,hw1,hw2]
   refine .inr ⟨stop_of (by kernel_rfl),?_⟩
   refine cy_of _ (callP (hc) (by simp)) ?_
   simp -implicitDefEqProofs -dsimp []
   refine hQ _ _ _ ?_
   simp -implicitDefEqProofs -dsimp []
   exact hs
 ·rw [cmpS_end a b i hi hj h] at hx
  have hc:=sign01 a.size b.size
  by_cases h1:i<a.size
  ·have h2:¬i<b.size:=fun h2=>h ⟨h1,h2⟩
   refine wx ?_
   simp -implicitDefEqProofs -dsimp [h1,h2]
   refine hQ _ _ _ ?_
   simp -implicitDefEqProofs -dsimp []
   refine (callP (hc) (by simp)).mono ?_
   rintro r H' ⟨rfl,rfl⟩
   simp -implicitDefEqProofs -dsimp []
   exact hx
  ·refine wx ?_
   simp -implicitDefEqProofs -dsimp [h1]
   refine hQ _ _ _ ?_
   simp -implicitDefEqProofs -dsimp []
   refine (callP (hc) (by simp)).mono ?_
   rintro r H' ⟨rfl,rfl⟩
   simp -implicitDefEqProofs -dsimp []
   exact hx
def cmpV (a b:Vl):Int:=if cmpI a.k b.k=0 then (if cmpI a.n b.n=0 then cmpS a.s b.s else cmpI a.n b.n) else cmpI a.k b.k
theorem compare01 (a b:Vl) (ha:a.s.size≤maxLen):ConP Tryz.prog 258 [encV a,encV b] fun r=>r = .int .i64 (cmpV a b):=by
 have hc1:=sign01 a.k b.k
 have hc2:=sign01 a.n b.n
 have hc3:=strings01 a.s b.s ha
 unfold cmpV
 by_cases h1:cmpI a.k b.k=0
 ·by_cases h2:cmpI a.n b.n=0
  ·rw [if_pos h1,if_pos h2]
   refine conP_of_conH (conH_of_W tok Tryz.func258 rfl rfl ?_)
   refine wx ?_
   simp -implicitDefEqProofs -dsimp [Tryz.f258,List.replicate,encV]
   refine (callP (hc1) (by simp)).mono ?_
   rintro r H' ⟨rfl,rfl⟩
   simp -implicitDefEqProofs -dsimp [h1]
   refine (callP (hc2) (by simp)).mono ?_
   rintro r H' ⟨rfl,rfl⟩
   simp -implicitDefEqProofs -dsimp [h2]
   refine (callP (hc3) (by simp)).mono ?_
   rintro r H' ⟨rfl,rfl⟩
   simp -implicitDefEqProofs -dsimp []
  ·rw [if_pos h1,if_neg h2]
   refine conP_of_conH (conH_of_W tok Tryz.func258 rfl rfl ?_)
   refine wx ?_
   simp -implicitDefEqProofs -dsimp [Tryz.f258,List.replicate,encV]
   refine (callP (hc1) (by simp)).mono ?_
   rintro r H' ⟨rfl,rfl⟩
   simp -implicitDefEqProofs -dsimp [h1]
   refine (callP (hc2) (by simp)).mono ?_
   rintro r H' ⟨rfl,rfl⟩
   simp -implicitDefEqProofs -dsimp [h2]
 ·rw [if_neg h1]
  refine conP_of_conH (conH_of_W tok Tryz.func258 rfl rfl ?_)
  refine wx ?_
  simp -implicitDefEqProofs -dsimp [Tryz.f258,List.replicate,encV]
  refine (callP (hc1) (by simp)).mono ?_
  rintro r H' ⟨rfl,rfl⟩
  simp -implicitDefEqProofs -dsimp [h1]
def cmpVs:List Vl→List Vl→Int
 | [],[]=>0
 | [],_::_=>-1
 | _::_,[]=>1
 | x::xs,y::ys=>if cmpV x y=0 then cmpVs xs ys else cmpV x y
theorem cmpVs_end (us bs:List Vl) (i:Nat) (h1:i≤us.length) (h2:i≤bs.length) (h:¬(i<us.length∧i<bs.length)):cmpVs (us.drop i) (bs.drop i)=cmpI us.length bs.length:=by
 unfold cmpI
 by_cases ha:i<us.length
 ·rw [List.drop_eq_getElem_cons ha,List.drop_of_length_le (l:=bs) (by omega),cmpVs,if_neg (by omega),if_pos (by omega)]
 ·rw [List.drop_of_length_le (l:=us) (by omega)]
  by_cases hb:i<bs.length
  ·rw [List.drop_eq_getElem_cons hb,cmpVs,if_pos (by omega)]
  ·rw [List.drop_of_length_le (l:=bs) (by omega),cmpVs,if_neg (by omega),if_neg (by omega)]
theorem lists01 (us bs:List Vl) (f g:Bool) (hl:us.length≤1000000) (hs:∀v∈us,v.s.size≤maxLen):ConP Tryz.prog 275 [LV f us,LV g bs] fun r=>r = .int .i64 (cmpVs us bs):=by
 obtain ⟨E,hE⟩:∃E,E=cmpVs us bs:=⟨_,rfl⟩
 rw [←hE]
 refine conP_of_conH (conH_of_W tok Tryz.func275 rfl rfl ?_)
 refine wx ?_
 simp -implicitDefEqProofs -dsimp [Tryz.f275,List.replicate,LV]
 refine lw_of (W_loopM 31 [4,5,6,7,8,9,10,11,12,13,14,15,16,17,18,19,20,21,22,23,24,25,26,27,28,29,30] (by simp [mB]<;>rfl) (σ:=Nat) (fun i=>i≤us.length∧i≤bs.length∧cmpVs (us.drop i) (bs.drop i)=E) (fun i=>us.length - i) (fun i=>[(5,.int .i64 i)]) (fun _=>[]) 0 ⟨by omega,by omega,hE.symm⟩ (by simp) rfl (by simp) ?_)
 rintro i ⟨hi,hj,hx⟩ N Q hN hQ
 by_cases h:i<us.length∧i<bs.length
 ·obtain ⟨h1,h2⟩:=h
  have hc:=compare01 us[i] bs[i] (hs _ (List.getElem_mem h1))
  simp only [encV] at hc
  rw [List.drop_eq_getElem_cons h1,List.drop_eq_getElem_cons h2,cmpVs] at hx
  by_cases h3:cmpV us[i] bs[i]=0
  ·rw [if_pos h3] at hx
   refine wx ?_
   simp -implicitDefEqProofs -dsimp [h1,h2,encV]
   refine .inr ⟨stop_of (by kernel_rfl),?_⟩
   refine cy_of _ (callP (hc) (by simp)) ?_
   simp -implicitDefEqProofs -dsimp [h3,wrapS i (by omega)]
   refine hN (i+1) _ _ ⟨by omega,by omega,hx⟩ (by omega) ?_ ⟨[],?_⟩ ?_ ?_<;>simp [or_imp,forall_and,L1,encI]
  ·rw [if_neg h3] at hx
   refine wx ?_
   simp -implicitDefEqProofs -dsimp [h1,h2,encV]
   refine .inr ⟨stop_of (by kernel_rfl),?_⟩
   refine cy_of _ (callP (hc) (by simp)) ?_
   simp -implicitDefEqProofs -dsimp [h3]
   refine hQ _ _ _ ?_
   simp -implicitDefEqProofs -dsimp []
   exact hx
 ·rw [cmpVs_end us bs i hi hj h] at hx
  have hc:=sign01 us.length bs.length
  by_cases h1:i<us.length
  ·have h2:¬i<bs.length:=fun h2=>h ⟨h1,h2⟩
   refine wx ?_
   simp -implicitDefEqProofs -dsimp [h1,h2]
   refine hQ _ _ _ ?_
   simp -implicitDefEqProofs -dsimp []
   refine (callP (hc) (by simp)).mono ?_
   rintro r H' ⟨rfl,rfl⟩
   simp -implicitDefEqProofs -dsimp []
   exact hx
  ·refine wx ?_
   simp -implicitDefEqProofs -dsimp [h1]
   refine hQ _ _ _ ?_
   simp -implicitDefEqProofs -dsimp []
   refine (callP (hc) (by simp)).mono ?_
   rintro r H' ⟨rfl,rfl⟩
   simp -implicitDefEqProofs -dsimp []
   exact hx
theorem same01 (us bs:List Vl) (f g:Bool) (hl:us.length≤1000000) (hs:∀v∈us,v.s.size≤maxLen):ConP Tryz.prog 254 [LV f us,LV g bs] fun r=>r = .bool (cmpVs us bs == 0):=by
 have hc:=lists01 us bs f g hl hs
 refine conP_of_conH (conH_of_W tok Tryz.func254 rfl rfl ?_)
 refine wx ?_
 simp -implicitDefEqProofs -dsimp [Tryz.f254,List.replicate]
 refine (callP (hc) (by simp)).mono ?_
 rintro r H' ⟨rfl,rfl⟩
 simp -implicitDefEqProofs -dsimp []
def orI:List Int→Int
 | []=>0
 | x::xs=>if x=0 then orI xs else x
theorem orInt (xs:List Int) (f:Bool) (hl:xs.length≤1000000):ConP Tryz.prog 283 [L1 f xs] fun r=>r = .int .i64 (orI xs):=by
 obtain ⟨E,hE⟩:∃E,E=orI xs:=⟨_,rfl⟩
 rw [←hE]
 refine conP_of_conH (conH_of_W tok Tryz.func283 rfl rfl ?_)
 refine wx ?_
 simp -implicitDefEqProofs -dsimp [Tryz.f283,List.replicate,L1]
 refine lw_of (W_loopM 17 [2,5,8,9,10,11,12,13,14,15,16] (by simp [mB]<;>rfl) (σ:=Nat) (fun i=>orI (xs.drop i)=E) (fun i=>xs.length - i) (fun i=>[(8,.int .i64 i)]) (fun _=>[]) 0 hE.symm (by simp) rfl (by simp) ?_)
 intro i hx N Q hN hQ
 by_cases hb:i<xs.length
 ·rw [List.drop_eq_getElem_cons hb,orI] at hx
  by_cases h0:xs[i]=0
  ·rw [if_pos h0] at hx
   refine wx ?_
   simp -implicitDefEqProofs -dsimp [hb,encI,h0]
   simp -implicitDefEqProofs -dsimp [wrapS i (by omega)]
   refine hN (i+1) _ _ hx (by omega) (by simp) ⟨[],rfl⟩ (by simp [L1,encI]) (by simp)
  ·rw [if_neg h0] at hx
   refine wx ?_
   simp -implicitDefEqProofs -dsimp [hb,encI,h0]
   refine hQ _ _ _ ?_
   simp -implicitDefEqProofs -dsimp []
   exact hx
 ·rw [List.drop_of_length_le (by omega)] at hx
  refine wx ?_
  simp -implicitDefEqProofs -dsimp [hb]
  refine hQ _ _ _ ?_
  simp -implicitDefEqProofs -dsimp []
  exact hx
theorem stringsCompare (a b:ByteArray):ConP Tryz.prog 285 [.str a,.str b] fun r=>r = .int .i64 (cmpS a b):=by
 have hc:=cmp_con a b
 refine conP_of_conH (conH_of_W tok Tryz.func285 rfl rfl ?_)
 refine wx ?_
 simp -implicitDefEqProofs -dsimp [Tryz.f285,List.replicate]
 refine (callP (hc) (by simp)).mono ?_
 rintro r H' ⟨rfl,rfl⟩
 simp -implicitDefEqProofs -dsimp []
theorem valueCompare (a b:Vl):ConP Tryz.prog 270 [encV a,encV b] fun r=>r = .int .i64 (cmpV a b):=by
 have hc1:=cmpInt a.k b.k
 have hc2:=cmp64 a.n b.n
 have hc3:=stringsCompare a.s b.s
 have hc4:=orInt [cmpI a.k b.k,cmpI a.n b.n,cmpS a.s b.s] true (by simp)
 have he:orI [cmpI a.k b.k,cmpI a.n b.n,cmpS a.s b.s]=cmpV a b:=by
  unfold cmpV
  simp only [orI]
  split
  ·split
   ·split
    ·rename_i h; exact h.symm
    ·rfl
   ·rfl
  ·rfl
 rw [he] at hc4
 simp only [L1,List.map_cons,List.map_nil,encI] at hc4
 refine conP_of_conH (conH_of_W tok Tryz.func270 rfl rfl ?_)
 refine wx ?_
 simp -implicitDefEqProofs -dsimp [Tryz.f270,List.replicate,encV]
 refine .inr ⟨stop_of (by kernel_rfl),?_⟩
 refine cy_of _ (callP (hc1) (by simp)) ?_
 simp -implicitDefEqProofs -dsimp []
 refine cy_of _ (callP (hc2) (by simp)) ?_
 simp -implicitDefEqProofs -dsimp []
 refine cy_of _ (callP (hc3) (by simp)) ?_
 simp -implicitDefEqProofs -dsimp []
 refine cy_of _ (callP (hc4) (by simp)) ?_
 simp -implicitDefEqProofs -dsimp []
def vTo2 (vs:List Vl) (s:Int):Nat→List Vl
 | 0=>[]
 | i+1=>if hasB s i then vTo2 vs s i++[vs.getD i ⟨0,0,ByteArray.empty⟩] else vTo2 vs s i
def valsOf (vs:List Vl) (s:Int):List Vl:=vTo2 vs s vs.length
theorem vTo2_len (vs:List Vl) (s:Int):∀i,(vTo2 vs s i).length≤i
 | 0=>by simp [vTo2]
 | i+1=>by
  have:=vTo2_len vs s i
  simp only [vTo2]
  split
  ·simp; omega
  ·omega
theorem vTo2_mem (vs:List Vl) (s:Int):∀i,i≤vs.length→∀v∈vTo2 vs s i,v∈vs
 | 0,_,v,h=>by simp [vTo2] at h
 | i+1,hi,v,h=>by
  simp only [vTo2] at h
  split at h
  ·rcases List.mem_append.1 h with h | h
   ·exact vTo2_mem vs s i (by omega) v h
   ·simp only [List.mem_singleton] at h
    subst h
    have hb:i<vs.length:=by omega
    have:vs.getD i ⟨0,0,ByteArray.empty⟩=vs[i]:=by simp [hb]
    rw [this]
    exact List.getElem_mem hb
  ·exact vTo2_mem vs s i (by omega) v h
theorem values03 (r:Rw) (s:Int) (hl:r.vals.length≤31):ConP Tryz.prog 255 [encRw r,.int .u32 s] fun x=>x=LV false (valsOf r.vals s):=by
 refine conP_of_conH (conH_of_W tok Tryz.func255 rfl rfl ?_)
 refine wx ?_
 simp -implicitDefEqProofs -dsimp [Tryz.f255,List.replicate,encRw,LV]
 refine lw_of (W_own 200 3 [5] (by simp) (W_loopM 25 [5,6,7,8,9,10,11,12,13,14,15,16,17,18,19,20,21,22,23,24] (by simp [mB]<;>rfl) (σ:=Nat) (fun i=>i≤r.vals.length) (fun i=>r.vals.length - i) (fun i=>[(6,.int .i64 i),(5,.buf 1 0 (vTo2 r.vals s i).length (vTo2 r.vals s i).length)]) (fun i=>[B.cells [.int .i64 r.id,.lst 3 false (r.vals.map encV)],B.buf 200 3 ((vTo2 r.vals s i).map encV) false]) 0 (by omega) (by simp [vTo2]) (by simp [vTo2]) (by simp) ?_))
 intro i hi N Q hN hQ
 have hvl:=vTo2_len r.vals s i
 by_cases hb:i<r.vals.length
 ·have hst:vTo2 r.vals s (i+1)=if hasB s i then vTo2 r.vals s i++[r.vals[i]] else vTo2 r.vals s i:=by simp [vTo2,hb]
  have hc:=has02 s i (by omega)
  cases hh:hasB s i
  ·rw [hh] at hc hst
   refine wx ?_
   simp -implicitDefEqProofs -dsimp [hb]
   refine (callP (hc) (by simp)).mono ?_
   rintro r H' ⟨rfl,rfl⟩
   simp -implicitDefEqProofs -dsimp [wrapS i (by omega)]
   refine hN (i+1) _ _ (by omega) (by omega) ?_ ⟨[],?_⟩ ?_ ?_<;>simp [or_imp,forall_and,L1,encI,hst,encV]
  ·rw [hh] at hc hst
   refine wx ?_
   simp -implicitDefEqProofs -dsimp [hb]
   refine (callP (hc) (by simp)).mono ?_
   rintro r H' ⟨rfl,rfl⟩
   simp -implicitDefEqProofs -dsimp [hb,encV,cap32 (vTo2 r.vals s i).length (by omega),wrapS i (by omega)]
   refine hN (i+1) _ _ (by omega) (by omega) ?_ ⟨[],?_⟩ ?_ ?_<;>simp [or_imp,forall_and,L1,encI,hst,encV]
 ·obtain rfl:i=r.vals.length:=by omega
  refine wx ?_
  simp -implicitDefEqProofs -dsimp [hb]
  refine hQ _ _ _ ?_
  simp -implicitDefEqProofs -dsimp []
  exact exp_buf rfl (by simp [valsOf]) (by simp)
def agreeR (a b:Rw) (s:Int):Bool:=cmpVs (valsOf a.vals s) (valsOf b.vals s) == 0
theorem agree03 (a b:Rw) (s:Int) (hl:a.vals.length≤31) (hl2:b.vals.length≤31) (hs:∀v∈a.vals,v.s.size≤maxLen):ConP Tryz.prog 203 [encRw a,encRw b,.int .u32 s] fun x=>x = .bool (agreeR a b s):=by
 have hc1:=values03 a s hl
 have hc2:=values03 b s hl2
 have h1:=vTo2_len a.vals s a.vals.length
 have hc3:=same01 (valsOf a.vals s) (valsOf b.vals s) false false (by unfold valsOf; omega) (fun v hv=>hs v (vTo2_mem _ _ _ (Nat.le_refl _) v hv))
 simp only [encRw,LV] at hc1 hc2 hc3
 refine conP_of_conH (conH_of_W tok Tryz.func203 rfl rfl ?_)
 refine wx ?_
 simp -implicitDefEqProofs -dsimp [Tryz.f203,List.replicate,encRw,LV]
 refine .inr ⟨stop_of (by kernel_rfl),?_⟩
 refine cy_of _ (callP (hc1) (by simp)) ?_
 simp -implicitDefEqProofs -dsimp []
 refine cy_of _ (callP (hc2) (by simp)) ?_
 simp -implicitDefEqProofs -dsimp []
 refine cy_of _ (callP (hc3) (by simp)) ?_
 simp -implicitDefEqProofs -dsimp []
 rfl
theorem cmpI_eq (x y:Int):cmpI x y=0↔x=y:=by
 unfold cmpI; split
 ·simp; omega
 ·split<;>simp<;>omega
theorem cmpB_zero:∀(a b:List UInt8),Lib.compareBytes a b=0↔a=b
 | [],[]=>by simp [Lib.compareBytes]
 | [],_::_=>by simp [Lib.compareBytes]
 | _::_,[]=>by simp [Lib.compareBytes]
 | a::xs,b::bs=>by
  rw [Lib.compareBytes,List.cons.injEq]
  split
  ·rename_i h
   constructor
   ·intro h2; cases h2
   ·rintro ⟨rfl,_⟩; exact absurd h (UInt8.lt_irrefl _)
  ·split
   ·rename_i h
    constructor
    ·intro h2; cases h2
    ·rintro ⟨rfl,_⟩; exact absurd h (UInt8.lt_irrefl _)
   ·rename_i h1 h2
    rw [cmpB_zero xs bs]
    constructor
    ·intro h; exact ⟨UInt8.le_antisymm (UInt8.not_lt.1 h2) (UInt8.not_lt.1 h1),h⟩
    ·exact fun h=>h.2
theorem cmpS_zero (a b:ByteArray):cmpS a b=0↔a=b:=by
 unfold cmpS
 rw [cmpB_zero]
 constructor
 ·intro h
  cases a; cases b
  simp only [ByteArray.mk.injEq]
  exact Array.ext' h
 ·rintro rfl; rfl
theorem cmpV_zero (a b:Vl):cmpV a b=0↔a=b:=by
 unfold cmpV
 have h1:=cmpI_eq a.k b.k
 have h2:=cmpI_eq a.n b.n
 have h3:=cmpS_zero a.s b.s
 have he:a=b↔a.k=b.k∧a.n=b.n∧a.s=b.s:=by cases a; cases b; simp
 rw [he]
 split
 ·rename_i g1
  split
  ·rename_i g2
   rw [h3]
   exact ⟨fun h=>⟨h1.1 g1,h2.1 g2,h⟩,fun h=>h.2.2⟩
  ·rename_i g2
   exact ⟨fun h=>absurd h g2,fun h=>absurd (h2.2 h.2.1) g2⟩
 ·rename_i g1
  exact ⟨fun h=>absurd h g1,fun h=>absurd (h1.2 h.1) g1⟩
def vAt (vs:List Vl) (a:Nat):Vl:=vs.getD a ⟨0,0,ByteArray.empty⟩
theorem vAt_in {vs:List Vl} {i:Nat} (h:i<vs.length):vAt vs i=vs[i]:=by simp [vAt,h]
theorem vTo2_eq {us vs:List Vl} {s:Int} : ∀{i:Nat},vTo2 us s i=vTo2 vs s i↔∀k,k<i→hasB s k=true→vAt us k=vAt vs k
 | 0=>by simp [vTo2]
 | i+1=>by
  have ih:=vTo2_eq (us:=us) (vs:=vs) (s:=s) (i:=i)
  simp only [vTo2]
  cases hb:hasB s i with
  | true =>
   simp only [if_true]
   constructor
   ·intro h
    obtain ⟨h1,h2⟩:=List.append_inj' h rfl
    intro k hk hs
    rcases Nat.lt_or_ge k i with e | e
    ·exact ih.1 h1 k e hs
    ·have:k=i:=by omega
     subst this
     exact List.cons.inj h2 |>.1
   ·intro h
    rw [ih.2 (fun k hk hs=>h k (by omega) hs)]
    have:=h i (by omega) hb
    unfold vAt at this
    rw [this]
  | false =>
   simp only [Bool.false_eq_true,if_false]
   rw [ih]
   constructor
   ·intro h k hk hs
    rcases Nat.lt_or_ge k i with e | e
    ·exact h k e hs
    ·have:k=i:=by omega
     subst this; rw [hb] at hs; cases hs
   ·intro h k hk hs; exact h k (by omega) hs
theorem cmpVs_zero:∀{us vs:List Vl},cmpVs us vs=0↔us=vs
 | [],[]=>by simp [cmpVs]
 | [],_::_=>by simp [cmpVs]
 | _::_,[]=>by simp [cmpVs]
 | u::us,v::vs=>by
  rw [cmpVs,List.cons.injEq]
  have h1:=cmpV_zero u v
  have h2:=cmpVs_zero (us:=us) (vs:=vs)
  split
  ·rename_i h
   rw [h2]
   exact ⟨fun h3=>⟨h1.1 h,h3⟩,fun h3=>h3.2⟩
  ·rename_i h
   exact ⟨fun h3=>absurd h3 h,fun h3=>absurd (h1.2 h3.1) h⟩
theorem agreeR_iff {a b:Rw} {s:Int} (h:a.vals.length=b.vals.length):agreeR a b s=true↔∀k,k<a.vals.length→hasB s k=true→vAt a.vals k=vAt b.vals k:=by
 unfold agreeR valsOf
 rw [beq_iff_eq,cmpVs_zero,←h]
 exact vTo2_eq
end
end Go.Proofs.YtjogkbekekdkjaaGreatDoor
section
namespace Go.Proofs.YtjogkbekekdkjaaGreatDoor
open Go Go.AM
end Go.Proofs.YtjogkbekekdkjaaGreatDoor
end
namespace Go.Proofs.YtjogkbekekdkjaaGreatDoor
section
open Go Go.AM
theorem within_iff {a b:List Int} : within a b=true↔∀x∈a,x∈b:=by
 unfold within
 rw [List.all_eq_true]
 exact ⟨fun h x hx=>memB_iff.1 (h x hx),fun h x hx=>memB_iff.2 (h x hx)⟩
theorem lex_irr:∀a:List Int,lexLt a a=false
 | []=>rfl
 | x::xs=>by simp only [lexLt,if_true]; exact lex_irr xs
theorem lex_tri:∀a b:List Int,a≠b→lexLt a b=false→lexLt b a=true
 | [],[],h,_=>absurd rfl h
 | [],_::_,_,h=>by simp [lexLt] at h
 | _::_,[],_,_=>rfl
 | x::xs,y::ys,h,hl=>by
  simp only [lexLt] at hl ⊢
  by_cases hxy:x=y
  ·subst hxy
   rw [if_pos rfl] at hl ⊢
   exact lex_tri xs ys (fun e=>h (by rw [e])) hl
  ·rw [if_neg hxy] at hl
   rw [if_neg (fun e=>hxy e.symm)]
   simp only [decide_eq_false_iff_not] at hl
   simp only [decide_eq_true_eq]
   omega
theorem lex_trans:∀a b c:List Int,lexLt a b=true→lexLt b c=true→lexLt a c=true
 | [],[],_,h,_=>by simp [lexLt] at h
 | [],_::_,[],_,h=>by simp [lexLt] at h
 | [],_::_,_::_,_,_=>rfl
 | _::_,[],_,h,_=>by simp [lexLt] at h
 | _::_,_::_,[],_,h=>by simp [lexLt] at h
 | x::xs,y::ys,z::zs,h1,h2=>by
  simp only [lexLt] at h1 h2 ⊢
  by_cases hxy:x=y
  ·subst hxy
   rw [if_pos rfl] at h1
   by_cases hxz:x=z
   ·subst hxz
    rw [if_pos rfl] at h2 ⊢
    exact lex_trans xs ys zs h1 h2
   ·rw [if_neg hxz] at h2 ⊢
    exact h2
  ·rw [if_neg hxy] at h1
   simp only [decide_eq_true_eq] at h1
   by_cases hyz:y=z
   ·subst hyz
    rw [if_neg hxy]
    simpa using h1
   ·rw [if_neg hyz] at h2
    simp only [decide_eq_true_eq] at h2
    rw [if_neg (by omega)]
    simp only [decide_eq_true_eq]
    omega
structure Hyp (vs:List Int) (es:List (List Int)):Prop where
 va:vs.Pairwise (· < ·)
 ne:∀e∈es,e≠[]
 ea:∀e∈es,e.Pairwise (· < ·)
 sub:∀e∈es,∀x∈e,x∈vs
 lex:es.Pairwise fun a b=>lexLt a b=true
 min:es.Pairwise fun a b=>¬(∀x∈a,x∈b)∧¬(∀x∈b,x∈a)
theorem keepTo_at {l:List (List Int)} {i:Nat} : ∀{n:Nat},keepTo l i n=true→∀k,k<n→dropE l i k=false
 | 0,_,k,hk=>absurd hk (by omega)
 | n+1,h,k,hk=>by
  simp only [keepTo,Bool.and_eq_true,Bool.not_eq_true'] at h
  rcases Nat.lt_or_ge k n with h1 | h1
  ·exact keepTo_at h.1 k h1
  ·obtain rfl:k=n:=by omega
   exact h.2
theorem insPos_le (acc:List (List Int)) (e:List Int):∀k,insPos acc e k≤k
 | 0=>by simp [insPos]
 | k+1=>by
  simp only [insPos]
  split
  ·have:=insPos_le acc e k; omega
  ·omega
theorem insPos_hi (acc:List (List Int)) (e:List Int):∀k,∀j,insPos acc e k≤j→j<k→lexLt e (eAt acc j)=true
 | 0,j,_,h=>absurd h (by omega)
 | k+1,j,h1,h2=>by
  simp only [insPos] at h1
  split at h1
  ·rename_i hlt
   rcases Nat.lt_or_ge j k with h3 | h3
   ·exact insPos_hi acc e k j h1 h3
   ·obtain rfl:j=k:=by omega
    exact hlt
  ·omega
theorem insPos_lo (acc:List (List Int)) (e:List Int):∀k,0<insPos acc e k→lexLt e (eAt acc (insPos acc e k - 1))=false
 | 0,h=>by simp [insPos] at h
 | k+1,h=>by
  simp only [insPos] at h ⊢
  split
  ·rename_i hlt
   rw [if_pos hlt] at h
   exact insPos_lo acc e k h
  ·rename_i hlt
   simpa using hlt
theorem ins_lex {acc:List (List Int)} {e:List Int} (h:acc.Pairwise fun a b=>lexLt a b=true) (hne:∀a∈acc,a≠e):(insE acc e).Pairwise fun a b=>lexLt a b=true:=by
 have hp:=insPos_le acc e acc.length
 have hi:=insPos_hi acc e acc.length
 have lo:=insPos_lo acc e acc.length
 unfold insE insAt
 generalize insPos acc e acc.length=p at hp hi lo
 have t2:∀a∈acc.drop p,lexLt e a=true:=fun a ha=>by
  obtain ⟨j,hj,rfl⟩:=List.mem_iff_getElem.1 ha
  simp only [List.length_drop] at hj
  simp only [List.getElem_drop]
  have:=hi (p+j) (by omega) (by omega)
  rwa [getD_at (by omega)] at this
 have t1:∀a∈acc.take p,lexLt a e=true:=fun a ha=>by
  obtain ⟨j,hj,rfl⟩:=List.mem_iff_getElem.1 ha
  simp only [List.length_take] at hj
  simp only [List.getElem_take]
  have h0:=lo (by omega)
  rw [getD_at (by omega)] at h0
  have h1:=lex_tri e acc[p - 1] (fun he=>hne _ (List.getElem_mem _) he.symm) h0
  rcases Nat.lt_or_ge j (p - 1) with h3 | h3
  ·exact lex_trans _ _ _ (List.pairwise_iff_getElem.1 h j (p - 1) (by omega) (by omega) h3) h1
  ·obtain rfl:j=p - 1:=by omega
   exact h1
 rw [List.pairwise_append,List.pairwise_cons]
 refine ⟨h.sublist (List.take_sublist _ _),⟨t2,h.sublist (List.drop_sublist _ _)⟩,fun a ha b hb=>?_⟩
 rcases List.mem_cons.1 hb with rfl | hb
 ·exact t1 a ha
 ·exact lex_trans _ _ _ (t1 a ha) (t2 b hb)
theorem edges_inv {l:List (List Int)} : ∀{i:Nat},i≤l.length→((edgesTo l i).Pairwise fun a b=>lexLt a b=true)∧∀e∈edgesTo l i,∃j,j<i∧keepE l j=true∧e=eAt l j
 | 0,_=>by simp [edgesTo]
 | i+1,hi=>by
  obtain ⟨h1,h2⟩:=edges_inv (l:=l) (i:=i) (by omega)
  simp only [edgesTo]
  split
  ·rename_i hk
   refine ⟨ins_lex h1 (fun a ha he=>?_),fun e he=>?_⟩
   ·obtain ⟨j,hj,_,rfl⟩:=h2 a ha
    have:=keepTo_at hk j (by omega)
    have hw:within (eAt l j) (eAt l i)=true:=by rw [he]; exact within_iff.2 fun x hx=>hx
    simp [dropE,hw,hj] at this
   ·rcases insE_mem he with rfl | he
    ·exact ⟨i,by omega,hk,rfl⟩
    ·obtain ⟨j,hj,hk',rfl⟩:=h2 e he
     exact ⟨j,by omega,hk',rfl⟩
  ·exact ⟨h1,fun e he=>by obtain ⟨j,hj,hk',rfl⟩:=h2 e he; exact ⟨j,by omega,hk',rfl⟩⟩
def MinM (l:List (List Int)) (e:List Int):Prop:=e∈l∧∀d∈l,(∀x∈d,x∈e)→e.length≤d.length
structure LexSet (es:List (List Int)) (p:List Int→Prop):Prop where
 ord:es.Pairwise fun a b=>lexLt a b=true
 mem:∀e,e∈es↔p e
theorem lex_ext:∀(a b:List (List Int)),(a.Pairwise fun x y=>lexLt x y=true)→(b.Pairwise fun x y=>lexLt x y=true)→(∀e,e∈a↔e∈b)→a=b
 | [],[],_,_,_=>rfl
 | [],y::_,_,_,h=>absurd ((h y).2 (List.mem_cons_self ..)) (by simp)
 | x::_,[],_,_,h=>absurd ((h x).1 (List.mem_cons_self ..)) (by simp)
 | x::xs,y::ys,hx,hy,h=>by
  rw [List.pairwise_cons] at hx hy
  have hxy:x=y:=by
   rcases List.mem_cons.1 ((h x).1 (List.mem_cons_self ..)) with e | e
   ·exact e
   ·rcases List.mem_cons.1 ((h y).2 (List.mem_cons_self ..)) with e2 | e2
    ·exact e2.symm
    ·have h1:=hy.1 x e
     have h2:=hx.1 y e2
     have h3:=lex_trans _ _ _ h1 h2
     rw [lex_irr] at h3
     cases h3
  subst hxy
  congr 1
  refine lex_ext xs ys hx.2 hy.2 (fun e=>?_)
  constructor
  ·intro he
   rcases List.mem_cons.1 ((h e).1 (List.mem_cons_of_mem _ he)) with e2 | e2
   ·subst e2
    have:=hx.1 _ he
    rw [lex_irr] at this
    cases this
   ·exact e2
  ·intro he
   rcases List.mem_cons.1 ((h e).2 (List.mem_cons_of_mem _ he)) with e2 | e2
   ·subst e2
    have:=hy.1 _ he
    rw [lex_irr] at this
    cases this
   ·exact e2
theorem LexSet.eq {a b:List (List Int)} {p q:List Int→Prop} (ha:LexSet a p) (hb:LexSet b q) (h:∀e,p e↔q e):a=b :=
 lex_ext a b ha.ord hb.ord (fun e=>by rw [ha.mem,hb.mem,h])
theorem first_nat {p:Nat→Prop} : ∀n,p n→∃j,p j∧∀k,k<j→¬p k:=by
 intro n
 induction n using Nat.strongRecOn with
 | ind n ih =>
  intro h
  by_cases hk:∃k,k<n∧p k
  ·obtain ⟨k,h1,h2⟩:=hk
   exact ih k h1 h2
  ·exact ⟨n,h,fun k hk' hp=>hk ⟨k,hk',hp⟩⟩
theorem insE_in {acc:List (List Int)} {e x:List Int} (h:x=e∨x∈acc):x∈insE acc e:=by
 unfold insE insAt
 rcases h with rfl | h
 ·simp
 ·have h2:=List.take_append_drop (insPos acc e acc.length) acc
  rw [←h2] at h
  rcases List.mem_append.1 h with h | h
  ·exact List.mem_append_left _ h
  ·exact List.mem_append_right _ (List.mem_cons_of_mem _ h)
theorem edges_all {l:List (List Int)} : ∀{i:Nat},i≤l.length→∀j,j<i→keepE l j=true→eAt l j∈edgesTo l i
 | 0,_,j,h,_=>by omega
 | i+1,hi,j,hj,hk=>by
  simp only [edgesTo]
  by_cases hji:j=i
  ·subst hji
   rw [if_pos hk]
   exact insE_in (.inl rfl)
  ·have:=edges_all (l:=l) (i:=i) (by omega) j (by omega) hk
   split
   ·exact insE_in (.inr this)
   ·exact this
theorem keepTo_of {l:List (List Int)} {i:Nat} : ∀{n:Nat},(∀k,k<n→dropE l i k=false)→keepTo l i n=true
 | 0,_=>rfl
 | n+1,h=>by
  rw [keepTo,keepTo_of (n:=n) (fun k hk=>h k (by omega)),h n (by omega)]
  rfl
theorem asc_sublist:∀(b a:List Int),a.Pairwise (· < ·)→b.Pairwise (· < ·)→(∀x∈a,x∈b)→a.Sublist b
 | [],a,_,_,hs=>by
  cases a with
  | nil=>exact List.Sublist.slnil
  | cons x a=>exact absurd (hs x (List.mem_cons_self ..)) (by simp)
 | y::b,a,ha,hb,hs=>by
  cases a with
  | nil=>exact List.nil_sublist _
  | cons x a =>
   rw [List.pairwise_cons] at ha hb
   rcases List.mem_cons.1 (hs x (List.mem_cons_self ..)) with e | e
   ·subst e
    exact (asc_sublist b a ha.2 hb.2 (fun z hz=>by
     rcases List.mem_cons.1 (hs z (List.mem_cons_of_mem _ hz)) with e | e
     ·have:=ha.1 z hz; omega
     ·exact e)).cons_cons x
   ·have hyx:=hb.1 x e
    exact (asc_sublist b (x::a) (List.pairwise_cons.2 ha) hb.2 (fun z hz=>by
     rcases List.mem_cons.1 (hs z hz) with e2 | e2
     ·rcases List.mem_cons.1 hz with e3 | e3
      ·omega
      ·have:=ha.1 z e3; omega
     ·exact e2)).cons y
theorem asc_sub_eq {a b:List Int} (ha:a.Pairwise (· < ·)) (hb:b.Pairwise (· < ·)) (hs:∀x∈a,x∈b) (hl:b.length≤a.length):a=b:=by
 have hna:a.Nodup:=ha.imp fun {x y} h=>by omega
 have hnb:b.Nodup:=hb.imp fun {x y} h=>by omega
 exact (asc_sublist b a ha hb hs).eq_of_length_le hl
theorem edges_min {l:List (List Int)} (hl:∀e∈l,e.Pairwise (· < ·)):LexSet (edgesF l) (MinM l):=by
 obtain ⟨h1,h2⟩:=edges_inv (l:=l) (i:=l.length) (Nat.le_refl _)
 have hm:∀j,j<l.length→eAt l j∈l:=fun j hj=>by rw [getD_at hj]; exact List.getElem_mem hj
 refine ⟨h1,fun e=>⟨fun he=>?_,fun he=>?_⟩⟩
 ·obtain ⟨j,hj,hk,rfl⟩:=h2 e he
  refine ⟨hm j hj,fun d hd hs=>?_⟩
  obtain ⟨k,hk2,rfl⟩:=List.mem_iff_getElem.1 hd
  have:=keepTo_at hk k hk2
  unfold dropE at this
  rw [getD_at hk2,within_iff.2 hs,Bool.true_and,Bool.or_eq_false_iff] at this
  have:=of_decide_eq_false this.1
  omega
 ·obtain ⟨hel,hmin⟩:=he
  obtain ⟨j0,hj0,rfl⟩:=List.mem_iff_getElem.1 hel
  obtain ⟨j,⟨hj,hje⟩,hfirst⟩:=first_nat (p:=fun j=>j<l.length∧eAt l j=l[j0]) j0 ⟨hj0,getD_at hj0⟩
  rw [←hje]
  refine edges_all (Nat.le_refl _) j hj (keepTo_of fun k hk=>?_)
  unfold dropE
  rw [Bool.and_eq_false_iff]
  cases hw:within (eAt l k) (eAt l j) with
  | false=>exact .inl rfl
  | true =>
   right
   have hs:=within_iff.1 hw
   rw [hje] at hs ⊢
   have hle:=hmin _ (hm k hk) hs
   rw [Bool.or_eq_false_iff,decide_eq_false_iff_not,decide_eq_false_iff_not]
   refine ⟨by omega,fun hkj=>hfirst k hkj ⟨hk,?_⟩⟩
   exact asc_sub_eq (hl _ (hm k hk)) (hl _ hel) hs hle
def smK (all:List (List Int)) (l:List Int):Bool:=(List.range l.length).any fun i=>decide (1<l.length)&&all.contains [l.getD i 0]||decide (2<l.length)&&all.contains (l.eraseIdx i)
theorem contL {all:List (List Int)} {e:List Int} : all.contains e=true↔e∈all:=by simp
theorem erase_sub (l:List Int) (i:Nat):∀x∈l.eraseIdx i,x∈l:=fun x h=>List.mem_of_mem_eraseIdx h
theorem miss_erase:∀(d l:List Int),l.Pairwise (· < ·)→d.Pairwise (· < ·)→(∀x∈d,x∈l)→d.length+1=l.length→∃i,i<l.length∧d=l.eraseIdx i:=fun d l hl hd hs hlen=>by
 have hnl:l.Nodup:=hl.imp fun {x y} h=>by omega
 have hex:∃i,i<l.length∧∀x∈d,x∈l.eraseIdx i:=by
  refine Classical.byContradiction fun hno=>?_
  have hall:∀x∈l,x∈d:=fun x hx=>by
   obtain ⟨i,hi,rfl⟩:=List.mem_iff_getElem.1 hx
   refine Classical.byContradiction fun hx2=>hno ⟨i,hi,fun y hy=>?_⟩
   rw [List.mem_eraseIdx_iff_getElem]
   obtain ⟨j,hj,rfl⟩:=List.mem_iff_getElem.1 (hs y hy)
   exact ⟨j,hj,fun e=>hx2 (by subst e; exact hy),rfl⟩
  have:=hnl.length_le_of_subset hall
  omega
 obtain ⟨i,hi,h⟩:=hex
 have hle:(l.eraseIdx i).length+1=l.length:=by rw [List.length_eraseIdx_of_lt hi]; omega
 exact ⟨i,hi,asc_sub_eq hd (hl.sublist (List.eraseIdx_sublist ..)) h (by omega)⟩
theorem sm_min {all:List (List Int)} (hA:∀d∈all,d.Pairwise (· < ·)∧d≠[]∧d.length≤3) (l:List Int):(l∈all∧smK all l=false)↔MinM all l:=by
 constructor
 ·rintro ⟨hl,hsm⟩
  refine ⟨hl,fun d hd hs=>?_⟩
  refine Classical.byContradiction fun hlt=>?_
  obtain ⟨a1,a2,a3⟩:=hA l hl
  obtain ⟨d1,d2,d3⟩:=hA d hd
  have hd0:0<d.length:=List.length_pos_iff.2 d2
  have hsm2:smK all l=true:=by
   unfold smK
   rw [List.any_eq_true]
   by_cases hd1:d.length=1
   ·obtain ⟨x,rfl⟩:=List.length_eq_one_iff.1 hd1
    obtain ⟨i,hi,hx⟩:=List.mem_iff_getElem.1 (hs x (by simp))
    refine ⟨i,List.mem_range.2 hi,?_⟩
    rw [Bool.or_eq_true]
    left
    rw [show l.getD i 0=l[i] by simp [List.getD,hi],hx,decide_eq_true (by omega),Bool.true_and]
    exact contL.2 hd
   ·obtain ⟨i,hi,hde⟩:=miss_erase d l a1 d1 hs (by omega)
    refine ⟨i,List.mem_range.2 hi,?_⟩
    rw [Bool.or_eq_true]
    right
    rw [←hde,decide_eq_true (by omega),Bool.true_and]
    exact contL.2 hd
  rw [hsm2] at hsm
  cases hsm
 ·rintro ⟨hl,hmin⟩
  refine ⟨hl,?_⟩
  cases hsm:smK all l with
  | false=>rfl
  | true =>
   exfalso
   unfold smK at hsm
   rw [List.any_eq_true] at hsm
   obtain ⟨i,hi,h⟩:=hsm
   rw [List.mem_range] at hi
   rw [Bool.or_eq_true] at h
   rcases h with h | h
   ·rw [Bool.and_eq_true,show l.getD i 0=l[i] by simp [List.getD,hi]] at h
    have:=hmin _ (contL.1 h.2) (fun x hx=>by rw [List.mem_singleton] at hx; subst hx; exact List.getElem_mem hi)
    have:=of_decide_eq_true h.1
    simp at *
    omega
   ·rw [Bool.and_eq_true] at h
    have:=hmin _ (contL.1 h.2) (erase_sub l i)
    rw [List.length_eraseIdx_of_lt hi] at this
    omega
def cpL (l:List (List Int)):Nat→List (List Int)
 | 0=>[]
 | 1=>[eAt l 0]
 | p+2=>if eAt l p=eAt l (p+1) then cpL l (p+1) else cpL l (p+1)++[eAt l (p+1)]
def compL (l:List (List Int)):List (List Int):=if l=[] then [] else cpL l l.length
theorem take_snocL {l:List (List Int)} {k:Nat} (h:k<l.length):l.take (k+1)=l.take k++[eAt l k]:=by rw [List.take_succ_eq_append_getElem h,getD_at h]
theorem cpL_ok {l:List (List Int)} (hs:l.Pairwise fun x y=>lexLt y x=false):∀p,1≤p→p≤l.length→(∃L,cpL l p=L++[eAt l (p - 1)])∧((cpL l p).Pairwise fun x y=>lexLt x y=true)∧∀x,x∈cpL l p↔x∈l.take p
 | 0,h,_=>by omega
 | 1,_,hl=>by
  refine ⟨⟨[],rfl⟩,by simp [cpL],fun x=>?_⟩
  rw [take_snocL (k:=0) (by omega)]
  simp [cpL]
 | p+2,_,hl=>by
  obtain ⟨⟨L,h1⟩,h2,h3⟩:=cpL_ok hs (p+1) (by omega) (by omega)
  rw [Nat.add_sub_cancel] at h1
  rw [cpL,show p+2 - 1=p+1 by omega]
  have hmem:∀x,x∈l.take (p+2)↔x∈l.take (p+1)∨x=eAt l (p+1):=fun x=>by
   rw [take_snocL (k:=p+1) (by omega)]; simp
  split
  ·rename_i he
   refine ⟨⟨L,by rw [h1,he]⟩,h2,fun x=>?_⟩
   rw [hmem,h3]
   constructor
   ·exact .inl
   ·rintro (h | h)
    ·exact h
    ·rw [h,←he,←h3,h1]; simp
  ·rename_i he
   refine ⟨⟨_,rfl⟩,?_,fun x=>?_⟩
   ·have hlt:lexLt (eAt l p) (eAt l (p+1))=true:=by
     have:=List.pairwise_iff_getElem.1 hs p (p+1) (by omega) (by omega) (by omega)
     rw [←getD_at (show p<l.length by omega),←getD_at (show p+1<l.length by omega)] at this
     exact lex_tri _ _ (fun e=>he e.symm) this
    refine List.pairwise_append.2 ⟨h2,by simp,fun a ha b hb=>?_⟩
    rw [List.mem_singleton] at hb
    subst hb
    rw [h1] at ha h2
    rcases List.mem_append.1 ha with h | h
    ·exact lex_trans _ _ _ ((List.pairwise_append.1 h2).2.2 a h _ (by simp)) hlt
    ·rw [List.mem_singleton] at h; subst h; exact hlt
   ·rw [hmem,List.mem_append,h3,List.mem_singleton]
theorem compL_ok {l:List (List Int)} (hs:l.Pairwise fun x y=>lexLt y x=false):LexSet (compL l) (·∈l):=by
 unfold compL
 by_cases h:l=[]
 ·subst h; exact ⟨by simp,by simp⟩
 ·rw [if_neg h]
  obtain ⟨_,h1,h2⟩:=cpL_ok hs l.length (List.length_pos_iff.2 h) (Nat.le_refl _)
  rw [List.take_length] at h2
  exact ⟨h1,h2⟩
theorem cmpL_lt (a b:List Int):cmpL a b<0↔lexLt a b=true:=by
 have:=cmpL_lex a b
 cases h:lexLt a b with
 | true=>rw [h] at this; have:=of_decide_eq_false this; simp; omega
 | false=>rw [h] at this; have:=of_decide_eq_true this; simp; omega
theorem cmpL_irr (a:List Int):¬cmpL a a<0:=by rw [cmpL_lt,lex_irr]; simp
theorem cmpL_trans (a b c:List Int):cmpL a b<0→cmpL b c<0→cmpL a c<0:=by rw [cmpL_lt,cmpL_lt,cmpL_lt]; exact lex_trans a b c
theorem cmpL_tri (a b:List Int):cmpL a b<0∨a=b∨cmpL b a<0:=by
 rw [cmpL_lt,cmpL_lt]
 by_cases he:a=b
 ·exact .inr (.inl he)
 ·cases h:lexLt a b with
  | true=>exact .inl rfl
  | false=>exact .inr (.inr (lex_tri a b he h))
theorem cmpL_ntrans {a b c:List Int} (h:¬cmpL a b<0) (g:¬cmpL b c<0):¬cmpL a c<0:=by
 intro hac
 rcases cmpL_tri a b with h1 | h1 | h1
 ·exact h h1
 ·subst h1; exact g hac
 ·exact g (cmpL_trans _ _ _ h1 hac)
theorem u32w (a:Nat) (h:a<4294967296):IntKind.u32.wrap (a:Int)=a:=by rw [IntKind.wrap_u32]; omega
theorem mod32 (a:Nat) (h:a<4294967296):((a:Int) % 2^IntKind.u32.bits).toNat=a:=by
 have:(2:Int)^IntKind.u32.bits=4294967296:=rfl
 rw [this]; omega
theorem modN (a:Nat) (h:a<4294967296):a % 2^IntKind.u32.bits=a:=Nat.mod_eq_of_lt h
theorem or32 (a b:Nat) (ha:a<4294967296) (hb:b<4294967296):IntKind.u32.wrap ((a % 2^IntKind.u32.bits ||| b % 2^IntKind.u32.bits:Nat):Int)=((a ||| b:Nat):Int):=by
 rw [modN a ha,modN b hb]
 exact u32w _ (Nat.or_lt_two_pow (n:=32) ha hb)
theorem and32 (a b:Nat) (ha:a<4294967296) (hb:b<4294967296):IntKind.u32.wrap ((a % 2^IntKind.u32.bits &&& b % 2^IntKind.u32.bits:Nat):Int)=((a &&& b:Nat):Int):=by
 rw [modN a ha,modN b hb]
 exact u32w _ (Nat.lt_of_le_of_lt Nat.and_le_left ha)
theorem shl32 (i:Nat) (h:i<32):IntKind.u32.wrap (2^min i IntKind.u32.bits:Int)=((2^i:Nat):Int):=by
 have h1:min i IntKind.u32.bits=i:=Nat.min_eq_left (by show i≤32; omega)
 have h2:2^i<4294967296:=Nat.pow_lt_pow_right (by omega) h
 rw [h1,←u32w _ h2]
 congr 1
def fullN:Nat→Nat
 | 0=>0
 | i+1=>fullN i ||| 2^i
theorem fullN_lt:∀n,n≤32→fullN n<4294967296
 | 0,_=>by simp [fullN]
 | i+1,h=>Nat.or_lt_two_pow (n:=32) (fullN_lt i (by omega)) (Nat.pow_lt_pow_right (by omega) (by omega))
theorem fullN_bit:∀n k,(fullN n).testBit k=decide (k<n)
 | 0,k=>by simp [fullN]
 | i+1,k=>by
  rw [fullN,Nat.testBit_or,fullN_bit i k,Nat.testBit_two_pow]
  rw [Bool.eq_iff_iff]
  simp only [Bool.or_eq_true,decide_eq_true_eq]
  omega
theorem full02 (n:Nat) (hn:n≤32):ConP Tryz.prog 110 [.int .i64 n] fun r=>r = .int .u32 (fullN n):=by
 refine conP_of_conH (conH_of_W tok Tryz.func110 rfl rfl ?_)
 refine wx ?_
 simp -implicitDefEqProofs -dsimp [Tryz.f110,List.replicate]
 refine lw_of (W_loopM 18 [3,4,5,6,7,8,9,10,11,12,13,14,15,16,17] (by simp [mB]<;>rfl) (σ:=Nat) (fun i=>i≤n) (fun i=>n - i) (fun i=>[(4,.int .i64 i),(3,.int .u32 (fullN i))]) (fun _=>[]) 0 (by omega) (by simp [fullN]) rfl (by simp) ?_)
 intro i hi N Q hN hQ
 by_cases hb:i<n
 ·have h1:=shl32 i (by omega)
  have h2:=fullN_lt i (by omega)
  have h3:2^i<4294967296:=Nat.pow_lt_pow_right (by omega) (show i<32 by omega)
  have hf:fullN (i+1)=fullN i ||| 2^i:=rfl
  obtain ⟨p,hp⟩:∃p,p=2^i:=⟨_,rfl⟩
  rw [←hp] at h1 h3 hf
  have h4:=or32 (fullN i) p h2 h3
  rw [←hf] at h4
  refine wx ?_
  simp -implicitDefEqProofs -dsimp [hb,show (i:Int)<32 by omega,wrapS i (by omega),h1,h4]
  refine hN (i+1) _ _ (by omega) (by omega) ?_ ⟨[],?_⟩ ?_ ?_<;>simp [or_imp,forall_and,L1,encI]
 ·obtain rfl:i=n:=by omega
  refine wx ?_
  simp -implicitDefEqProofs -dsimp [hb]
  refine hQ _ _ _ ?_
  simp -implicitDefEqProofs -dsimp []
theorem sub02 (a b:Nat) (ha:a<4294967296) (hb:b<4294967296):ConP Tryz.prog 202 [.int .u32 a,.int .u32 b] fun r=>r = .bool (decide (a &&& b=a)):=by
 refine conP_of_conH (conH_of_W tok Tryz.func202 rfl rfl ?_)
 refine wx ?_
 simp -implicitDefEqProofs -dsimp [Tryz.f202,List.replicate,and32 a b ha hb]
 rw [Bool.eq_iff_iff,beq_iff_eq,decide_eq_true_iff]
 omega
theorem hasB_bit (s i:Nat) (hs:s<4294967296) (hi:i<32):hasB s i=s.testBit i:=by
 have h1:min i IntKind.u32.bits=i:=Nat.min_eq_left (by show i≤32; omega)
 have h2:((s:Int).fdiv (2^i) % 2^IntKind.u32.bits).toNat=s / 2^i:=by
  have h3:(s:Int).fdiv (2^i)=((s / 2^i:Nat):Int):=by
   rw [Int.fdiv_eq_ediv_of_nonneg _ (by have:(0:Int)<2^i:=Int.pow_pos (by omega); omega)]
   simp
  rw [h3]
  exact mod32 _ (Nat.lt_of_le_of_lt (Nat.div_le_self _ _) hs)
 have h4:(1 % 2^IntKind.u32.bits:Nat)=1:=rfl
 unfold hasB
 rw [h1,h2,h4,Nat.and_one_is_mod,u32w _ (by omega),Nat.testBit_eq_decide_div_mod_eq]
 rw [Bool.eq_iff_iff,beq_iff_eq,decide_eq_true_iff]
 omega
structure Fd where
 l:Nat
 r:Nat
def encD (d:Fd):V:=.agg [.int .u8 (d.l:Int),.int .u8 (d.r:Int)]
def encF (d:Fd):V:=.agg [.int .u32 (d.l:Int),.int .u32 (d.r:Int)]
@[simp] theorem encD_pure (d:Fd):AM.Pure (encD d):=by simp [encD]
@[simp] theorem encF_pure (d:Fd):AM.Pure (encF d):=by simp [encF]
@[simp] theorem encF_oneV (d:Fd):oneV (encF d)=true:=rfl
def LF (f:Bool) (ds:List Fd):V:=.lst 2 f (ds.map encF)
@[simp] theorem LF_pure (f:Bool) (ds:List Fd):AM.Pure (LF f ds):=by simp [LF]
def fdOf (n:Nat) (d:Fd):Fd:=⟨d.l &&& fullN n,d.r &&& fullN n⟩
def fdsTo (n:Nat) (ds:List Fd) (i:Nat):List Fd:=(ds.take i).map (fdOf n)
theorem fdsTo_len (n:Nat) (ds:List Fd) (i:Nat) (h:i≤ds.length):(fdsTo n ds i).length=i:=by simp [fdsTo]; omega
theorem fdsTo_succ (n:Nat) (ds:List Fd) (i:Nat) (h:i<ds.length):fdsTo n ds (i+1)=fdsTo n ds i++[fdOf n ds[i]]:=by
 unfold fdsTo
 rw [List.take_succ_eq_append_getElem h,List.map_append]; rfl
theorem cap8b (n:Nat) (h:n≤1000000000):n≤9223372036854775806∧(n+1)*8≤140737488355328:=by omega
theorem list09 (n:Nat) (ds:List Fd) (f:Bool) (hn:n≤32) (hl:ds.length≤1000000) (hd:∀d∈ds,d.l<256∧d.r<256):ConP Tryz.prog 65 [.int .i64 n,.lst 2 f (ds.map encD)] fun r=>r=LF false (ds.map (fdOf n)):=by
 have hF:=fullN_lt n hn
 have hc:=full02 n hn
 refine conP_of_conH (conH_of_W tok Tryz.func65 rfl rfl ?_)
 refine wx ?_
 simp -implicitDefEqProofs -dsimp [Tryz.f65,List.replicate]
 refine (callP (hc) (by simp)).mono ?_
 rintro r H' ⟨rfl,rfl⟩
 simp -implicitDefEqProofs -dsimp []
 refine lw_of (W_own 48 2 [6] (by simp) (W_loopM 36 [6,7,10,11,12,13,14,15,16,17,18,19,20,21,22,23,24,25,26,27,28,29,30,31,32,33,34,35] (by simp [mB]<;>rfl) (σ:=Nat) (fun i=>i≤ds.length) (fun i=>ds.length - i) (fun i=>[(7,.int .i64 i),(6,.buf 0 0 i i)]) (fun i=>[B.buf 48 2 ((fdsTo n ds i).map encF) false]) 0 (by omega) (by simp) (by simp [fdsTo]) (by simp) ?_))
 intro i hi N Q hN hQ
 have hli:=fdsTo_len n ds i hi
 by_cases hb:i<ds.length
 ·obtain ⟨h1,h2⟩:=hd ds[i] (List.getElem_mem hb)
  have hst:=fdsTo_succ n ds i hb
  have e1:=and32 ds[i].l (fullN n) (by omega) hF
  have e2:=and32 ds[i].r (fullN n) (by omega) hF
  have w1:=u32w ds[i].l (by omega)
  have w2:=u32w ds[i].r (by omega)
  refine wx ?_
  simp -implicitDefEqProofs -dsimp [hb]
  refine lw_of (W_drawT tok mixed [19] [] [] (by kernel_rfl) fun C K hC hK=>?_)
  simp -implicitDefEqProofs [hb,encD,w1,w2,e1,e2,cap8b i (by omega),hli]
  refine hK _ _ ?_
  simp -implicitDefEqProofs -dsimp [wrapS i (by omega)]
  refine hN (i+1) _ _ (by omega) (by omega) ?_ ⟨[],?_⟩ ?_ ?_<;>simp [or_imp,forall_and,L1,encI,hst,encF,fdOf,encD]
 ·obtain rfl:i=ds.length:=by omega
  refine wx ?_
  simp -implicitDefEqProofs -dsimp [hb]
  refine hQ _ _ _ ?_
  simp -implicitDefEqProofs -dsimp []
  rw [show LF false (ds.map (fdOf n))=LF false (fdsTo n ds ds.length) by unfold fdsTo; rw [List.take_length]]
  exact exp_buf rfl (by rw [List.length_map]; exact hli.symm) (by simp)
structure Tm where
 v:Int
 a:Int
 x:Vl
structure At where
 l:Tm
 op:Int
 r:Tm
structure Dn where
 vars:Int
 atoms:List At
structure Cl where
 any:Bool
 x:Vl
structure Cfd where
 l:List Int
 r:Int
 p:List Cl
structure Od where
 l:List Int
 r:List Int
def encTm (t:Tm):V:=.agg [.int .i64 t.v,.int .i64 t.a,.int .i64 t.x.k,.int .i64 t.x.n,.str t.x.s]
def encAt (a:At):V:=.agg [.int .i64 a.l.v,.int .i64 a.l.a,.int .i64 a.l.x.k,.int .i64 a.l.x.n,.str a.l.x.s,.int .i64 a.op,.int .i64 a.r.v,.int .i64 a.r.a,.int .i64 a.r.x.k,.int .i64 a.r.x.n,.str a.r.x.s]
def encCl (c:Cl):V:=.agg [.bool c.any,.int .i64 c.x.k,.int .i64 c.x.n,.str c.x.s]
@[simp] theorem encTm_pure (t:Tm):AM.Pure (encTm t):=by simp [encTm]
@[simp] theorem encAt_pure (a:At):AM.Pure (encAt a):=by simp [encAt]
@[simp] theorem encCl_pure (c:Cl):AM.Pure (encCl c):=by simp [encCl]
@[simp] theorem encAt_oneV (a:At):oneV (encAt a)=true:=rfl
@[simp] theorem encCl_oneV (c:Cl):oneV (encCl c)=true:=rfl
def LA (f:Bool) (al:List At):V:=.lst 11 f (al.map encAt)
def LCl (f:Bool) (cs:List Cl):V:=.lst 4 f (cs.map encCl)
@[simp] theorem LA_pure (f:Bool) (al:List At):AM.Pure (LA f al):=by simp [LA]
@[simp] theorem LCl_pure (f:Bool) (cs:List Cl):AM.Pure (LCl f cs):=by simp [LCl]
def encDn (f:Bool) (d:Dn):V:=.agg [.int .i64 d.vars,LA f d.atoms]
def encCfd (f g:Bool) (c:Cfd):V:=.agg [L1 f c.l,.int .i64 c.r,LCl g c.p]
def encOd (f g:Bool) (d:Od):V:=.agg [L1 f d.l,L1 g d.r]
@[simp] theorem encDn_pure (f:Bool) (d:Dn):AM.Pure (encDn f d):=by simp [encDn]
@[simp] theorem encCfd_pure (f g:Bool) (c:Cfd):AM.Pure (encCfd f g c):=by simp [encCfd]
@[simp] theorem encOd_pure (f g:Bool) (d:Od):AM.Pure (encOd f g d):=by simp [encOd]
def eqVB (x y:Vl):Bool:=x.k == y.k&&(x.n == y.n&&x.s == y.s)
theorem ba_beq2 (a b:ByteArray):(a == b)=true↔a=b:=by
 cases a; cases b
 rename_i x y
 rw [ByteArray.mk.injEq,show ((ByteArray.mk x == ByteArray.mk y)=(x == y)) from rfl]
 exact beq_iff_eq
theorem eqVB_iff (x y:Vl):eqVB x y=true↔x=y:=by
 unfold eqVB
 obtain ⟨a,b,c⟩:=x
 obtain ⟨a',b',c'⟩:=y
 rw [Bool.and_eq_true,Bool.and_eq_true,ba_beq2,beq_iff_eq,beq_iff_eq,Vl.mk.injEq]
theorem eqVl (H:List B) (k n:Int) (t:ByteArray) (k' n':Int) (t':ByteArray):eqA2 T H 200 (.agg [.int .i64 k,.int .i64 n,.str t]) (.agg [.int .i64 k',.int .i64 n',.str t'])=some (eqVB ⟨k,n,t⟩ ⟨k',n',t'⟩):=by
 have h2:∀x y:Int,eqD T 9999 2 (.int .i64 x) (.int .i64 y)=some (x == y):=fun x y=>by simp [eqD]
 have h1:∀x y:Int,eqD T 9999 3 (.int .i64 x) (.int .i64 y)=some (x == y):=fun x y=>by simp [eqD]
 have h3:∀x y:ByteArray,eqD T 9999 9 (.str x) (.str y)=some (x == y):=fun x y=>by simp [eqD]
 simp only [eqA2]
 rw [show (10000:Nat)=9999+1 from rfl,eqD]
 simp only [T_200]
 simp only [if_true,eqFs,cutA,T_2,T_3,T_9,isAggD,List.getElem?_cons_zero,List.getElem?_cons_succ,Bool.false_eq_true,if_false,h1,h2,h3,eqVB]
 cases (k == k')<;>cases (n == n')<;>cases (t == t')<;>simp
def zeroV (v:Vl):Bool:=eqVB v ⟨0,0,ByteArray.empty⟩
def tmB (n vars:Int) (t:Tm):Bool:=if t.v=0 then decide (t.a=0)&&validV t.x else decide (1≤t.v)&&(decide (t.v≤vars)&&(decide (0≤t.a)&&(decide (t.a<n)&&zeroV t.x)))
def atB (n vars:Int) (a:At):Bool:=decide (1≤a.op)&&(decide (a.op≤4)&&(tmB n vars a.l&&tmB n vars a.r))
def dnB (n:Int) (d:Dn):Bool:=decide (1≤d.vars)&&(decide (d.vars≤3)&&(decide (d.atoms.length≤20)&&d.atoms.all (atB n d.vars)))
def tmV (rs:List Rw) (t:Tm):Vl:=if t.v=0 then t.x else ((rs.getD (t.v - 1).toNat ⟨0,[]⟩).vals).getD t.a.toNat ⟨0,0,ByteArray.empty⟩
def atS (rs:List Rw) (a:At):Bool:=if a.op=1 then decide (cmpV (tmV rs a.l) (tmV rs a.r)=0) else if a.op=2 then !decide (cmpV (tmV rs a.l) (tmV rs a.r)=0) else if a.op=3 then decide (cmpV (tmV rs a.l) (tmV rs a.r)<0) else decide (cmpV (tmV rs a.l) (tmV rs a.r)≤0)
def allS (d:Dn) (rs:List Rw):Bool:=d.atoms.all (atS rs)
def ascI (n r:Int):Int→List Int→Bool
 | _,[]=>true
 | b,a::l=>decide (b<a)&&(decide (a<n)&&(!decide (a=r)&&ascI n r a l))
def clB (c:Cl):Bool:=if c.any=true then zeroV c.x else validV c.x
def cfB (n:Int) (c:Cfd):Bool:=decide (0≤c.r)&&(decide (c.r<n)&&(decide (c.p.length=c.l.length+1)&&(ascI n c.r (-1) c.l&&c.p.all clB)))
def inB (n:Int) (a:Int):Bool:=decide (0≤a)&&decide (a<n)
def olB (n:Int) (l:List Int):Bool:=decide (l.length≤8)&&l.all (inB n)
def odB (n:Int) (d:Od):Bool:=olB n d.l&&olB n d.r
structure Cn where
 name:ByteArray
 table:ByteArray
 kind:Int
 fd:Fd
 m1:Int
 m2:Int
 i1:ByteArray
 i2:List Int
 i3:ByteArray
 i4:List Int
 cfd:Cfd
 od:Od
 dn:Dn
def encCn (c:Cn):V:=.agg [.str c.name,.str c.table,.int .i64 c.kind,.int .u32 (c.fd.l:Int),.int .u32 (c.fd.r:Int),.int .u32 c.m1,.int .u32 c.m2,.str c.i1,L1 false c.i2,.str c.i3,L1 false c.i4,L1 false c.cfd.l,.int .i64 c.cfd.r,LCl false c.cfd.p,L1 false c.od.l,L1 false c.od.r,.int .i64 c.dn.vars,LA false c.dn.atoms]
def LCn (f:Bool) (cs:List Cn):V:=.lst 18 f (cs.map encCn)
@[simp] theorem encCn_pure (c:Cn):AM.Pure (encCn c):=by simp [encCn]
@[simp] theorem LCn_pure (f:Bool) (cs:List Cn):AM.Pure (LCn f cs):=by simp [LCn]
@[simp] theorem encCn_oneV (c:Cn):oneV (encCn c)=true:=by simp [encCn,oneV,L1,LCl,LA,V.one]
def fdOk1 (n:Nat) (d:Fd):Bool:=decide ((d.l ||| d.r) / 2^n=0)
def cnErr (t:Tb) (c:Cn):Int :=
 if c.table.toList == t.name.toList&&(decide (1≤c.kind)&&decide (c.kind≤6)) then
  if c.kind=2∨c.kind=3 then 14 else if c.kind=1 then (if fdOk1 t.attrs.length c.fd=true then 0 else 1) else
  if c.kind=4 then (if cfB t.attrs.length c.cfd=true then 0 else 1) else if c.kind=5 then (if odB t.attrs.length c.od=true then 0 else 1) else (if dnB t.attrs.length c.dn=true then 0 else 1)
 else 1
def srt (l:List Int):List Int:=l.mergeSort fun a b=>decide (a≤b)
theorem srt_perm (l:List Int):(srt l).Perm l:=List.mergeSort_perm _ _
theorem srt_sorted (l:List Int):(srt l).Pairwise (·≤·):=by
 have:=List.pairwise_mergeSort (le:=fun a b:Int=>decide (a≤b)) (fun a b c h g=>by
  simp only [decide_eq_true_eq] at h g ⊢; omega) (fun a b=>by
  rcases Int.le_total a b with h | h
  ·simp [h]
  ·simp [h]) l
 exact this.imp (fun h=>by simpa using h)
theorem srt_eq {l m:List Int} (hp:m.Perm l) (hs:m.Pairwise (·≤·)):m=srt l :=
 (hp.trans (srt_perm l).symm).eq_of_pairwise (le:=fun x y:Int=>x≤y) (fun x y _ _ h1 h2=>by omega) hs (srt_sorted l)
theorem srt_len (l:List Int):(srt l).length=l.length:=(srt_perm l).length_eq
theorem srt_asc {l:List Int} (h:l.Nodup):(srt l).Pairwise (· < ·):=by
 have h2:(srt l).Nodup:=(srt_perm l).nodup_iff.2 h
 exact ((srt_sorted l).and h2).imp (fun ⟨a,b⟩=>by omega)
theorem srt_pair {a b:Int} (h:a<b):srt [a,b]=[a,b]∧srt [b,a]=[a,b] :=
 ⟨(srt_eq (List.Perm.refl _) (by simp; omega)).symm,(srt_eq (List.Perm.swap _ _ _) (by simp; omega)).symm⟩
def idsR (rs:List Rw):List Int:=rs.map (·.id)
theorem idsR_len (rs:List Rw):(idsR rs).length=rs.length:=by simp [idsR]
def usedR (p:List Rw) (r:Rw):Bool:=p.any fun x=>x.id == r.id
theorem used_iff {p:List Rw} {r:Rw} : usedR p r=true↔r.id∈idsR p:=by
 unfold usedR idsR
 rw [List.any_eq_true,List.mem_map]
 exact ⟨fun ⟨x,h1,h2⟩=>⟨x,h1,by simpa using h2⟩,fun ⟨x,h1,h2⟩=>⟨x,h1,by simpa using h2⟩⟩
def ExtA (R:List Rw):List Rw→List Rw→Prop
 | _,[]=>True
 | p,r::q=>r∈R∧usedR p r=false∧ExtA R (p++[r]) q
theorem extA_snoc {R:List Rw} {r:Rw} : ∀{q p:List Rw},ExtA R p (q++[r])↔ExtA R p q∧r∈R∧usedR (p++q) r=false
 | [],p=>by simp [ExtA]
 | x::q,p=>by
  rw [List.cons_append,ExtA,ExtA,extA_snoc (q:=q) (p:=p++[x])]
  rw [List.append_assoc,List.singleton_append]
  exact ⟨fun ⟨a,b,c,d⟩=>⟨⟨a,b,c⟩,d⟩,fun ⟨⟨a,b,c⟩,d⟩=>⟨a,b,c,d⟩⟩
theorem extA_mem {R:List Rw} : ∀{q p:List Rw},ExtA R p q→∀r∈q,r∈R
 | [],_,_,r,h=>by cases h
 | x::q,p,h,r,hr=>by
  rcases List.mem_cons.1 hr with rfl | hr
  ·exact h.1
  ·exact extA_mem h.2.2 r hr
theorem extA_nodup {R:List Rw} : ∀{q p:List Rw},(idsR p).Nodup→ExtA R p q→(idsR (p++q)).Nodup
 | [],p,hp,_=>by simpa using hp
 | x::q,p,hp,h=>by
  have hx:x.id∉idsR p:=fun hm=>by have:=used_iff.2 hm; rw [h.2.1] at this; cases this
  have h2:(idsR (p++[x])).Nodup:=by
   unfold idsR at hp hx ⊢
   rw [List.map_append,List.nodup_append]
   refine ⟨hp,by simp,?_⟩
   intro a ha b hb
   simp at hb
   subst hb
   rintro rfl
   exact hx ha
  have:=extA_nodup h2 h.2.2
  rwa [List.append_assoc,List.singleton_append] at this
theorem foldl_mem {α β:Type} {f:List β→α→List β} {Q:α→β→Prop} (h:∀o r x,x∈f o r↔x∈o∨Q r x):∀(R:List α) (out:List β) (x:β),x∈R.foldl f out↔x∈out∨∃r∈R,Q r x
 | [],out,x=>by simp
 | r::R,out,x=>by
  rw [List.foldl_cons,foldl_mem h R (f out r) x,h]
  simp only [List.mem_cons,exists_eq_or_imp]
  rw [or_assoc]
def putN (out:List (List Int)) (l:List Int):List (List Int):=if out.contains l then out else out++[l]
theorem putN_mem {out:List (List Int)} {l x:List Int} : x∈putN out l↔x∈out∨x=l:=by
 unfold putN
 by_cases h:l∈out
 ·rw [if_pos (by simpa using h)]
  exact ⟨.inl,fun h2=>h2.elim id (fun e=>e▸h)⟩
 ·rw [if_neg (by simpa using h)]; simp
theorem putN_len (out:List (List Int)) (l:List Int):(putN out l).length≤out.length+1:=by
 unfold putN; split<;>simp
def stV (d:Dn) (out:List (List Int)) (rs:List Rw):List (List Int):=if allS d rs then putN out (srt (idsR rs)) else out
theorem stV_len (d:Dn) (out:List (List Int)) (rs:List Rw):(stV d out rs).length≤out.length+1:=by
 unfold stV; split
 ·exact putN_len _ _
 ·omega
def visF (d:Dn) (R:List Rw):Nat→List Rw→List (List Int)→List (List Int)
 | 0,p,out=>stV d out p
 | k+1,p,out=>R.foldl (fun o r=>if usedR p r then o else visF d R k (p++[r]) o) out
theorem visF_mem {d:Dn} {R:List Rw} : ∀(k:Nat) (p:List Rw) (out:List (List Int)) (x:List Int),x∈visF d R k p out↔x∈out∨∃q,q.length=k∧ExtA R p q∧allS d (p++q)=true∧x=srt (idsR (p++q))
 | 0,p,out,x=>by
  unfold visF stV
  constructor
  ·intro h
   split at h
   ·rename_i ha
    rcases putN_mem.1 h with h | h
    ·exact .inl h
    ·exact .inr ⟨[],rfl,trivial,by simpa using ha,by simpa using h⟩
   ·exact .inl h
  ·rintro (h | ⟨q,h1,_,h3,h4⟩)
   ·split
    ·exact putN_mem.2 (.inl h)
    ·exact h
   ·have:=List.length_eq_zero_iff.1 h1
    subst this
    rw [List.append_nil] at h3 h4
    rw [if_pos h3]
    exact putN_mem.2 (.inr h4)
 | k+1,p,out,x=>by
  unfold visF
  rw [foldl_mem (Q:=fun r x=>usedR p r=false∧∃q,q.length=k∧ExtA R (p++[r]) q∧allS d (p++[r]++q)=true∧x=srt (idsR (p++[r]++q))) (fun o r x=>by
   by_cases hu:usedR p r=true
   ·rw [if_pos hu,hu]; simp
   ·rw [if_neg hu,visF_mem k (p++[r]) o x]
    simp only [Bool.not_eq_true] at hu
    rw [hu]; simp)]
  constructor
  ·rintro (h | ⟨r,hr,hu,q,h1,h2,h3,h4⟩)
   ·exact .inl h
   ·exact .inr ⟨r::q,by simp [h1],⟨hr,hu,h2⟩,by simpa using h3,by simpa using h4⟩
  ·rintro (h | ⟨q,h1,h2,h3,h4⟩)
   ·exact .inl h
   ·cases q with
    | nil=>simp at h1
    | cons r q=>exact .inr ⟨r,h2.1,h2.2.1,q,by simpa using h1,h2.2.2,by simpa using h3,by simpa using h4⟩
theorem visF_len {d:Dn} {R:List Rw} : ∀(k:Nat) (p:List Rw) (out:List (List Int)),(visF d R k p out).length≤out.length+R.length^k
 | 0,p,out=>by unfold visF; exact stV_len d out p
 | k+1,p,out=>by
  unfold visF
  have key:∀(S:List Rw) (o:List (List Int)),(S.foldl (fun o r=>if usedR p r then o else visF d R k (p++[r]) o) o).length≤o.length+S.length*R.length^k:=fun S=>by
   induction S with
   | nil=>intro o; simp
   | cons s S ih =>
    intro o
    rw [List.foldl_cons]
    refine Nat.le_trans (ih _) ?_
    rw [List.length_cons,Nat.succ_mul]
    split
    ·omega
    ·have:=visF_len (d:=d) (R:=R) k (p++[s]) o; omega
  have:=key R out
  rw [Nat.pow_succ,Nat.mul_comm]
  exact this
def stepA (R:List Rw) (o:List Rw):List (List Rw):=(R.filter fun r=>!usedR o r).map fun r=>o++[r]
def asR (R:List Rw):Nat→List (List Rw)
 | 0=>[[]]
 | k+1=>(asR R k).flatMap (stepA R)
theorem asR_mem {R:List Rw} : ∀{k:Nat} {rs:List Rw},rs∈asR R k↔rs.length=k∧ExtA R [] rs
 | 0,rs=>by
  simp only [asR,List.mem_singleton]
  constructor
  ·rintro rfl; exact ⟨rfl,trivial⟩
  ·intro h; exact List.length_eq_zero_iff.1 h.1
 | k+1,rs=>by
  simp only [asR,List.mem_flatMap,stepA,List.mem_map,List.mem_filter]
  constructor
  ·rintro ⟨o,ho,r,⟨hr,hu⟩,rfl⟩
   obtain ⟨h1,h2⟩:=asR_mem.1 ho
   exact ⟨by simp [h1],extA_snoc.2 ⟨h2,hr,by simpa using hu⟩⟩
  ·rintro ⟨h1,h2⟩
   have hne:rs≠[]:=by rintro rfl; simp at h1
   rw [←List.dropLast_concat_getLast hne] at h2
   obtain ⟨h3,h4,h5⟩:=extA_snoc.1 h2
   exact ⟨rs.dropLast,asR_mem.2 ⟨by simp [h1],h3⟩,rs.getLast hne,⟨h4,by simpa using h5⟩,List.dropLast_concat_getLast hne⟩
theorem asR_len (R:List Rw):∀k,(asR R k).length≤R.length^k
 | 0=>by simp [asR]
 | k+1=>by
  have ih:=asR_len R k
  have key:∀l:List (List Rw),(l.flatMap (stepA R)).length≤l.length*R.length:=fun l=>by
   induction l with
   | nil=>simp
   | cons o l ihl =>
    rw [List.flatMap_cons,List.length_append,List.length_cons,Nat.succ_mul]
    have:(stepA R o).length≤R.length:=by unfold stepA; rw [List.length_map]; exact List.length_filter_le _ _
    omega
  unfold asR
  rw [Nat.pow_succ]
  exact Nat.le_trans (key _) (Nat.mul_le_mul_right _ ih)
def putR (l:List (List Int)) (x:List Int):List (List Int):=if l.any (fun y=>!lexLt y x&&!lexLt x y) then l else insE l x
theorem same_lex {x y:List Int} : (!lexLt y x&&!lexLt x y)=true↔y=x:=by
 constructor
 ·intro h
  rw [Bool.and_eq_true,Bool.not_eq_true',Bool.not_eq_true'] at h
  refine Classical.byContradiction fun hne=>?_
  have:=lex_tri y x hne h.1
  rw [h.2] at this; cases this
 ·rintro rfl; rw [lex_irr]; rfl
theorem insE_iff {acc:List (List Int)} {e x:List Int} : x∈insE acc e↔x=e∨x∈acc:=by
 refine ⟨fun h=>?_,insE_in⟩
 unfold insE insAt at h
 simp only [List.mem_append,List.mem_cons] at h
 rcases h with h | h | h
 ·exact .inr (List.mem_of_mem_take h)
 ·exact .inl h
 ·exact .inr (List.mem_of_mem_drop h)
theorem putR_mem {l:List (List Int)} {y x:List Int} : x∈putR l y↔x∈l∨x=y:=by
 unfold putR
 split
 ·rename_i h
  obtain ⟨z,hz,he⟩:=List.any_eq_true.1 h
  have:=same_lex.1 he
  subst this
  exact ⟨.inl,fun h=>h.elim id (fun e=>e▸hz)⟩
 ·rw [insE_iff,or_comm]
theorem putR_len (l:List (List Int)) (y:List Int):(putR l y).length≤l.length+1:=by
 unfold putR
 split
 ·omega
 ·unfold insE insAt
  simp
  omega
def stR (d:Dn) (out:List (List Int)) (rs:List Rw):List (List Int):=if allS d rs then putR out (srt (idsR rs)) else out
def VD (R:List Rw) (d:Dn) (x:List Int):Prop:=∃rs,rs.length=d.vars.toNat∧ExtA R [] rs∧allS d rs=true∧x=srt (idsR rs)
theorem vd_prog {R:List Rw} {d:Dn} {x:List Int} : x∈visF d R d.vars.toNat [] []↔VD R d x:=by
 rw [visF_mem]; simp [VD]
theorem vd_ref {R:List Rw} {d:Dn} {x:List Int} : x∈(asR R d.vars.toNat).foldl (stR d) []↔VD R d x:=by
 rw [foldl_mem (Q:=fun rs x=>allS d rs=true∧x=srt (idsR rs)) (fun o rs x=>by
  unfold stR
  by_cases h:allS d rs=true
  ·rw [if_pos h,putR_mem,h]; simp
  ·rw [if_neg h]; simp [h])]
 constructor
 ·rintro (h | ⟨rs,h1,h2,h3⟩)
  ·cases h
  ·obtain ⟨h4,h5⟩:=asR_mem.1 h1
   exact ⟨rs,h4,h5,h2,h3⟩
 ·rintro ⟨rs,h1,h2,h3,h4⟩
  exact .inr ⟨rs,asR_mem.2 ⟨h1,h2⟩,h3,h4⟩
def EdgL (R:List Rw) (x:List Int):Prop:=x.Pairwise (· < ·)∧x≠[]∧x.length≤3∧∀a∈x,a∈idsR R
theorem VD.edge {R:List Rw} {d:Dn} {x:List Int} (h:VD R d x) (h1:1≤d.vars) (h3:d.vars≤3):EdgL R x:=by
 obtain ⟨rs,hl,he,_,rfl⟩:=h
 have hn:(idsR rs).Nodup:=by simpa using extA_nodup (p:=[]) (by simp [idsR]) he
 refine ⟨srt_asc hn,fun e=>?_,by rw [srt_len,idsR_len]; omega,fun a ha=>?_⟩
 ·have:=srt_len (idsR rs); rw [e,idsR_len] at this; simp at this; omega
 ·have ha2:=(srt_perm _).mem_iff.1 ha
  unfold idsR at ha2 ⊢
  obtain ⟨r,hr,rfl⟩:=List.mem_map.1 ha2
  exact List.mem_map.2 ⟨r,extA_mem he r hr,rfl⟩
def prL (P:Rw→Rw→Bool):List Rw→List (List Int)
 | []=>[]
 | r::rs=>((rs.filter (P r)).map fun s=>[r.id,s.id])++prL P rs
theorem prL_mem {P:Rw→Rw→Bool} {x:List Int} : ∀{R:List Rw},(R.Pairwise fun r s=>r.id<s.id)→(x∈prL P R↔∃r∈R,∃s∈R,r.id<s.id∧P r s=true∧x=[r.id,s.id])
 | [],_=>by simp [prL]
 | a::R,h=>by
  rw [List.pairwise_cons] at h
  rw [prL,List.mem_append,prL_mem h.2]
  constructor
  ·rintro (h1 | ⟨r,hr,s,hs,h1⟩)
   ·obtain ⟨s,hs,rfl⟩:=List.mem_map.1 h1
    obtain ⟨hs1,hs2⟩:=List.mem_filter.1 hs
    exact ⟨a,List.mem_cons_self ..,s,List.mem_cons_of_mem _ hs1,h.1 s hs1,hs2,rfl⟩
   ·exact ⟨r,List.mem_cons_of_mem _ hr,s,List.mem_cons_of_mem _ hs,h1⟩
  ·rintro ⟨r,hr,s,hs,h1,h2,h3⟩
   rcases List.mem_cons.1 hr with e | hr2
   ·rcases List.mem_cons.1 hs with e2 | hs2
    ·rw [e,e2] at h1; omega
    ·rw [e] at h2 h3
     exact .inl (List.mem_map.2 ⟨s,List.mem_filter.2 ⟨hs2,h2⟩,h3.symm⟩)
   ·rcases List.mem_cons.1 hs with e2 | hs2
    ·have:=h.1 r hr2; rw [e2] at h1; omega
    ·exact .inr ⟨r,hr2,s,hs2,h1,h2,h3⟩
theorem prL_filter {P:Rw→Rw→Bool} {p:Rw→Bool} : ∀R:List Rw,prL P (R.filter p)=prL (fun r s=>p r&&(p s&&P r s)) R
 | []=>rfl
 | a::R=>by
  rw [prL]
  by_cases h:p a=true
  ·rw [List.filter_cons_of_pos h,prL,prL_filter R,List.filter_filter]
   congr 3
   funext s
   rw [h,Bool.true_and]
   exact Bool.and_comm _ _
  ·rw [List.filter_cons_of_neg h,prL_filter R]
   simp only [Bool.not_eq_true] at h
   simp [h]
theorem prL_edge {P:Rw→Rw→Bool} {x:List Int} {R:List Rw} (hR:R.Pairwise fun r s=>r.id<s.id) (h:x∈prL P R):EdgL R x:=by
 obtain ⟨r,hr,s,hs,h1,_,rfl⟩:=(prL_mem hR).1 h
 refine ⟨by simpa using h1,by simp,by simp,fun a ha=>?_⟩
 unfold idsR
 simp at ha
 rcases ha with rfl | rfl
 ·exact List.mem_map.2 ⟨r,hr,rfl⟩
 ·exact List.mem_map.2 ⟨s,hs,rfl⟩
theorem prL_len {P:Rw→Rw→Bool} : ∀R:List Rw,(prL P R).length≤R.length*R.length
 | []=>by simp [prL]
 | a::R=>by
  rw [prL,List.length_append,List.length_map,List.length_cons]
  have h1:=List.length_filter_le (P a) R
  have h2:=prL_len (P:=P) R
  have h3:(R.length+1)*(R.length+1)=R.length*R.length+R.length+R.length+1:=by rw [Nat.add_mul,Nat.mul_add]; omega
  omega
def bitsF (n s:Nat):List Nat:=(List.range n).filter s.testBit
theorem bitsF_mem {n s k:Nat} : k∈bitsF n s↔k<n∧s.testBit k=true:=by simp [bitsF]
theorem bitsF_len (n s:Nat):(bitsF n s).length≤n:=by
 have:=List.length_filter_le s.testBit (List.range n)
 simpa [bitsF] using this
theorem bitsF_succ (n s:Nat):bitsF (n+1) s=bitsF n s++(if s.testBit n then [n] else []):=by
 unfold bitsF
 rw [List.range_succ,List.filter_append]
 congr 1
 by_cases h:s.testBit n=true
 ·rw [if_pos h,List.filter_cons_of_pos h]; rfl
 ·rw [if_neg h,List.filter_cons_of_neg h]; rfl
theorem bitsF_none {s:Nat} : ∀{n:Nat},(∀j,j<n→s.testBit j=false)→bitsF n s=[]
 | 0,_=>rfl
 | n+1,h=>by rw [bitsF_succ,bitsF_none (fun j hj=>h j (by omega)),h n (by omega)]; rfl
theorem bits_low {x y t:Nat} (h1:∀j,j<t→x.testBit j=false) (h2:x.testBit t=true) (h3:∀j,j≤t→y.testBit j=false) (h4:∀j,t<j→y.testBit j=x.testBit j):∀n,t<n→bitsF n x=t::bitsF n y
 | 0,h=>by omega
 | n+1,h=>by
  rw [bitsF_succ,bitsF_succ]
  by_cases hn:n=t
  ·subst hn
   rw [bitsF_none h1,bitsF_none (fun j hj=>h3 j (by omega)),h2,h3 n (by omega)]
   rfl
  ·rw [bits_low h1 h2 h3 h4 n (by omega),h4 n (by omega)]; rfl
theorem low_bit:∀x:Nat,0<x→∃t m,x=2^(t+1)*m+2^t:=by
 intro x
 induction x using Nat.strongRecOn with
 | _ x ih =>
  intro h
  rcases Nat.mod_two_eq_zero_or_one x with h2 | h2
  ·obtain ⟨t,m,e⟩:=ih (x / 2) (by omega) (by omega)
   refine ⟨t+1,m,?_⟩
   have e1:x=2*(x / 2):=by omega
   rw [e1,e,Nat.mul_add,←Nat.mul_assoc,←Nat.pow_succ',←Nat.pow_succ']
  ·exact ⟨0,x / 2,by omega⟩
theorem low_test {t m j:Nat} : (2^(t+1)*m+2^t).testBit j=if j<t+1 then decide (t=j) else m.testBit (j - (t+1)):=by
 rw [Nat.testBit_two_pow_mul_add _ (Nat.pow_lt_pow_right (by omega) (by omega))]
 split
 ·rw [Nat.testBit_two_pow]
 ·rfl
theorem low_pred {t m j:Nat} : (2^(t+1)*m+2^t - 1).testBit j=if j<t+1 then decide (j<t) else m.testBit (j - (t+1)):=by
 have h0:0<2^t:=Nat.two_pow_pos t
 have h1:2^(t+1)*m+2^t - 1=2^(t+1)*m+(2^t - 1):=by omega
 rw [h1,Nat.testBit_two_pow_mul_add _ (by rw [Nat.pow_succ]; omega)]
 split
 ·rw [Nat.testBit_two_pow_sub_one]
 ·rfl
theorem bits_step {x:Nat} (h:0<x) (h2:x<4294967296):∃t,t<32∧x.testBit t=true∧bitsF 32 x=t::bitsF 32 (x &&& (x - 1))∧x &&& (4294967296 - x)=2^t∧x &&& (x - 1)<x:=by
 obtain ⟨t,m,e⟩:=low_bit x h
 have ht:t<32:=by
  refine Classical.byContradiction fun hn=>?_
  have:2^32≤2^t:=Nat.pow_le_pow_right (by omega) (by omega)
  have h5:0≤2^(t+1)*m:=Nat.zero_le _
  omega
 have hx:∀j,x.testBit j=if j<t+1 then decide (t=j) else m.testBit (j - (t+1)):=fun j=>by rw [e]; exact low_test
 have hy:∀j,(x - 1).testBit j=if j<t+1 then decide (j<t) else m.testBit (j - (t+1)):=fun j=>by rw [e]; exact low_pred
 have hz:∀j,(x &&& (x - 1)).testBit j=if j<t+1 then false else m.testBit (j - (t+1)):=fun j=>by
  rw [Nat.testBit_and,hx,hy]
  split
  ·by_cases h:t=j
   ·subst h; simp
   ·simp [h]
  ·simp
 refine ⟨t,ht,by rw [hx]; simp,bits_low (fun j hj=>?_) (by rw [hx]; simp) (fun j hj=>?_) (fun j hj=>?_) 32 ht,?_,?_⟩
 ·rw [hx,if_pos (by omega)]; simp; omega
 ·rw [hz,if_pos (by omega)]
 ·rw [hz,hx,if_neg (by omega),if_neg (by omega)]
 ·apply Nat.eq_of_testBit_eq
  intro j
  have h6:(4294967296 - x).testBit j=(decide (j<32)&&!(x - 1).testBit j):=by
   have:=Nat.testBit_two_pow_sub_succ (x:=x - 1) (n:=32) (by omega) j
   rw [show (2:Nat)^32 - (x - 1+1)=4294967296 - x by omega] at this
   exact this
  rw [Nat.testBit_and,h6,hx,hy,Nat.testBit_two_pow]
  by_cases h7:j<t+1
  ·rw [if_pos h7,if_pos h7]
   by_cases h8:t=j
   ·subst h8; simp [ht]
   ·simp [h8]
  ·rw [if_neg h7,if_neg h7]
   have:¬t=j:=by omega
   cases m.testBit (j - (t+1))<;>simp [this]
 ·have:=Nat.and_le_right (n:=x) (m:=x - 1)
  omega
def zV:Vl:=⟨0,0,ByteArray.empty⟩
def bothA (op:Int) (a:Nat):At:=⟨⟨1,(a:Int),zV⟩,op,⟨2,(a:Int),zV⟩⟩
def fdDn (L:List Nat) (b:Nat):Dn:=⟨2,L.map (bothA 1)++[bothA 2 b]⟩
theorem atS_eq (x y:Rw) (a:Nat):atS [x,y] (bothA 1 a)=true↔vAt x.vals a=vAt y.vals a:=by
 rw [←cmpV_zero]
 simp [atS,bothA,tmV,vAt]
theorem atS_ne (x y:Rw) (a:Nat):atS [x,y] (bothA 2 a)=true↔vAt x.vals a≠vAt y.vals a:=by
 rw [Ne,←cmpV_zero]
 simp [atS,bothA,tmV,vAt]
theorem vd_fd {R:List Rw} {L:List Nat} {b:Nat} {x:List Int} : VD R (fdDn L b) x↔∃r∈R,∃s∈R,r.id≠s.id∧(∀a∈L,vAt r.vals a=vAt s.vals a)∧vAt r.vals b≠vAt s.vals b∧x=srt [r.id,s.id]:=by
 have hall:∀r s,allS (fdDn L b) [r,s]=true↔(∀a∈L,vAt r.vals a=vAt s.vals a)∧vAt r.vals b≠vAt s.vals b:=fun r s=>by
  unfold allS fdDn
  simp only [List.all_append,List.all_map,Bool.and_eq_true,List.all_eq_true,List.all_cons,List.all_nil,Function.comp,atS_eq,atS_ne,and_true]
 constructor
 ·rintro ⟨rs,h1,h2,h3,h4⟩
  obtain ⟨r,s,rfl⟩:∃r s,rs=[r,s]:=by
   match rs,h1 with
   | [r,s],_=>exact ⟨r,s,rfl⟩
  obtain ⟨h5,h6⟩:=(hall r s).1 h3
  refine ⟨r,h2.1,s,h2.2.2.1,?_,h5,h6,by simpa [idsR] using h4⟩
  have:=h2.2.2.2.1
  simpa [usedR] using this
 ·rintro ⟨r,hr,s,hs,h1,h2,h3,rfl⟩
  exact ⟨[r,s],rfl,⟨hr,by simp [usedR],hs,by simpa [usedR] using h1,trivial⟩,(hall r s).2 ⟨h2,h3⟩,by simp [idsR]⟩
def fdP (l r:Nat) (a b:Rw):Bool:=agreeR a b l&&!agreeR a b r
theorem fd_mem {R:List Rw} {n l r:Nat} {x:List Int} {L M:List Nat} (hR:R.Pairwise fun r s=>r.id<s.id) (hv:∀w∈R,w.vals.length=n) (hn:n≤32) (hl:l<2^n) (hr:r<2^n) (hL:∀k,k∈L↔l.testBit k=true) (hM:∀k,k∈M↔r.testBit k=true∧l.testBit k=false) :
  (∃b∈M,VD R (fdDn L b) x)↔x∈prL (fdP l r) R:=by
 have hp:(2:Nat)^n≤2^32:=Nat.pow_le_pow_right (by omega) hn
 have lt:∀s k,s<2^n→s.testBit k=true→k<n:=fun s k hs hk=>by
  refine Classical.byContradiction fun hc=>?_
  have:s<2^k:=Nat.lt_of_lt_of_le hs (Nat.pow_le_pow_right (by omega) (by omega))
  rw [Nat.testBit_lt_two_pow this] at hk; cases hk
 have ag:∀s:Nat,s<2^n→∀a∈R,∀b∈R,(agreeR a b s=true↔∀k,s.testBit k=true→vAt a.vals k=vAt b.vals k):=fun s hs a ha b hb=>by
  rw [agreeR_iff (by rw [hv a ha,hv b hb]),hv a ha]
  constructor
  ·intro h k hk
   have hkn:=lt s k hs hk
   exact h k hkn (by rw [hasB_bit s k (by omega) (by omega)]; exact hk)
  ·intro h k hkn hk
   rw [hasB_bit s k (by omega) (by omega)] at hk
   exact h k hk
 rw [prL_mem hR]
 constructor
 ·rintro ⟨b,hb,hx⟩
  obtain ⟨u,hu,w,hw,h1,h2,h3,rfl⟩:=vd_fd.1 hx
  obtain ⟨hb1,hb2⟩:=(hM b).1 hb
  rcases Int.lt_or_gt_of_ne h1 with h4 | h4
  ·refine ⟨u,hu,w,hw,h4,?_,(srt_pair h4).1⟩
   unfold fdP
   rw [Bool.and_eq_true,ag l hl u hu w hw,Bool.not_eq_true',←Bool.not_eq_true,ag r hr u hu w hw]
   exact ⟨fun k hk=>h2 k ((hL k).2 hk),fun h=>h3 (h b hb1)⟩
  ·refine ⟨w,hw,u,hu,h4,?_,(srt_pair h4).2⟩
   unfold fdP
   rw [Bool.and_eq_true,ag l hl w hw u hu,Bool.not_eq_true',←Bool.not_eq_true,ag r hr w hw u hu]
   exact ⟨fun k hk=>(h2 k ((hL k).2 hk)).symm,fun h=>h3 (h b hb1).symm⟩
 ·rintro ⟨u,hu,w,hw,h1,h2,rfl⟩
  unfold fdP at h2
  rw [Bool.and_eq_true,ag l hl u hu w hw,Bool.not_eq_true',←Bool.not_eq_true,ag r hr u hu w hw] at h2
  obtain ⟨h3,h4⟩:=h2
  obtain ⟨b,hb⟩:=Classical.not_forall.1 h4
  obtain ⟨hb1,hb2⟩:=Classical.not_imp.1 hb
  have hb3:l.testBit b=false:=by
   rw [←Bool.not_eq_true]
   exact fun h=>hb2 (h3 b h)
  exact ⟨b,(hM b).2 ⟨hb1,hb3⟩,vd_fd.2 ⟨u,hu,w,hw,by omega,fun a ha=>h3 a ((hL a).1 ha),hb2,(srt_pair h1).1.symm⟩⟩
def clF (c:Cl) (v:Vl):Bool:=c.any||eqVB c.x v
def clAt (p:List Cl) (i:Nat):Cl:=p.getD i ⟨true,zV⟩
def leftT (c:Cfd) (r:Rw):Nat→List Int→Bool
 | _,[]=>true
 | i,a::l=>clF (clAt c.p i) (vAt r.vals a.toNat)&&leftT c r (i+1) l
def leftF (c:Cfd) (r:Rw):Bool:=leftT c r 0 c.l
def rightF (c:Cfd) (r:Rw):Bool:=clF (clAt c.p c.l.length) (vAt r.vals c.r.toNat)
def pairF (c:Cfd) (a b:Rw):Bool:=!eqVB (vAt a.vals c.r.toNat) (vAt b.vals c.r.toNat)&&c.l.all fun k=>eqVB (vAt a.vals k.toNat) (vAt b.vals k.toNat)
def cfdV (c:Cfd) (R:List Rw):List (List Int):=((R.filter (leftF c)).filter fun r=>!rightF c r).map (fun r=>[r.id])++prL (pairF c) (R.filter (leftF c))
def aloneF (c:Cfd) (r:Rw):Bool:=leftF c r&&!rightF c r
def pair2F (c:Cfd) (a b:Rw):Bool:=leftF c a&&(leftF c b&&pairF c a b)
theorem cfdV_ref (c:Cfd) (R:List Rw):cfdV c R=(R.filter (aloneF c)).map (fun r=>[r.id])++prL (pair2F c) R:=by
 unfold cfdV
 rw [prL_filter,List.filter_filter]
 congr 3
 funext r
 unfold aloneF
 exact Bool.and_comm _ _
theorem eqVB_cmp (x y:Vl):eqVB x y=decide (cmpV x y=0):=by
 rw [Bool.eq_iff_iff,eqVB_iff,decide_eq_true_eq,cmpV_zero]
theorem cfdV_edge {c:Cfd} {R:List Rw} {x:List Int} (hR:R.Pairwise fun r s=>r.id<s.id) (h:x∈cfdV c R):EdgL R x:=by
 rw [cfdV_ref,List.mem_append] at h
 rcases h with h | h
 ·obtain ⟨r,hr,rfl⟩:=List.mem_map.1 h
  refine ⟨by simp,by simp,by simp,fun a ha=>?_⟩
  simp at ha
  subst ha
  exact List.mem_map.2 ⟨r,(List.mem_filter.1 hr).1,rfl⟩
 ·exact prL_edge hR h
theorem cfdV_len (c:Cfd) (R:List Rw):(cfdV c R).length≤R.length+R.length*R.length:=by
 rw [cfdV_ref,List.length_append,List.length_map]
 have h1:=List.length_filter_le (aloneF c) R
 have h2:=prL_len (P:=pair2F c) R
 omega
def cmpO (a b:Rw):List Int→Int
 | []=>0
 | i::l=>if cmpV (vAt a.vals i.toNat) (vAt b.vals i.toNat)=0 then cmpO a b l else cmpV (vAt a.vals i.toNat) (vAt b.vals i.toNat)
theorem cmpI_rng (x y:Int) : -1≤cmpI x y∧cmpI x y≤1:=by
 unfold cmpI; split
 ·omega
 ·split<;>omega
theorem cmpB_rng:∀(a b:List UInt8),-1≤Lib.compareBytes a b∧Lib.compareBytes a b≤1
 | [],[]=>by simp [Lib.compareBytes]
 | [],_::_=>by simp [Lib.compareBytes]
 | _::_,[]=>by simp [Lib.compareBytes]
 | a::xs,b::bs=>by
  rw [Lib.compareBytes]
  split
  ·omega
  ·split
   ·omega
   ·exact cmpB_rng xs bs
theorem cmpV_rng (x y:Vl) : -1≤cmpV x y∧cmpV x y≤1:=by
 unfold cmpV
 split
 ·split
  ·exact cmpB_rng _ _
  ·exact cmpI_rng _ _
 ·exact cmpI_rng _ _
theorem cmpO_rng (a b:Rw):∀l,-1≤cmpO a b l∧cmpO a b l≤1
 | []=>by simp [cmpO]
 | i::l=>by
  rw [cmpO]
  split
  ·exact cmpO_rng a b l
  ·exact cmpV_rng _ _
def kindO (d:Od) (a b:Rw):Int:=if cmpO a b d.l=0∧¬cmpO a b d.r=0 then 1 else if cmpO a b d.l*cmpO a b d.r<0 then 2 else 0
def odP (d:Od) (a b:Rw):Bool:=!decide (kindO d a b=0)
end
end Go.Proofs.YtjogkbekekdkjaaGreatDoor
namespace Go.Proofs.YtjogkbekekdkjaaGreatDoor
section
open Go Go.AM Go.RowKit Go.Lib Go.Sort
theorem nanK64 (x:Int) (W:World):Calls Tryz.prog 139 #[.int .i64 x] W fun e w'=>e = .returned (.bool false)∧w'=W:=by
 go_enter Tryz.func139,Tryz.ntmps139
 go_wp2
 go_ret
 exact ⟨rfl,rfl⟩
theorem cmpK64 (x y:Int) (W:World):Calls Tryz.prog 198 #[.int .i64 x,.int .i64 y] W fun e w'=>e = .returned (.int .i64 (cmpI x y))∧w'=W:=by
 have h1:=nanK64 x W
 have h2:=nanK64 y W
 by_cases c1:x<y
 ·rw [show cmpI x y = -1 by unfold cmpI; rw [if_pos c1]]
  go_enter Tryz.func198,Tryz.ntmps198
  go_wp2_with (go_at_call 139; first | (refine h1.mono ?_; rintro e w' ⟨rfl,rfl⟩) | (refine h2.mono ?_; rintro e w' ⟨rfl,rfl⟩))
  go_ret
  exact ⟨rfl,rfl⟩
 ·by_cases c2:y<x
  ·rw [show cmpI x y=1 by unfold cmpI; rw [if_neg c1,if_pos c2]]
   have c3:x > y:=c2
   go_enter Tryz.func198,Tryz.ntmps198
   go_wp2_with (go_at_call 139; first | (refine h1.mono ?_; rintro e w' ⟨rfl,rfl⟩) | (refine h2.mono ?_; rintro e w' ⟨rfl,rfl⟩))
   go_ret
   exact ⟨rfl,rfl⟩
  ·rw [show cmpI x y=0 by unfold cmpI; rw [if_neg c1,if_neg c2]]
   have c3:¬x > y:=c2
   go_enter Tryz.func198,Tryz.ntmps198
   go_wp2_with (go_at_call 139; first | (refine h1.mono ?_; rintro e w' ⟨rfl,rfl⟩) | (refine h2.mono ?_; rintro e w' ⟨rfl,rfl⟩))
   go_ret
   exact ⟨rfl,rfl⟩
def AtI (w:World) (A:Option Addr) (l:List Int):Prop:=∀(i:Nat) (h:i<l.length),∃b o,A=some ⟨b,o,none⟩∧b<w.heap.size∧w.cell? ⟨b,o+i,none⟩=some (.int .i64 l[i])
theorem AtI.grown {w:World} {A:Option Addr} {l:List Int} (h:AtI w A l) (q:Nat) (os:Array Obj):AtI (grow (w.drewN q) os) A l:=fun i hi=>by
 obtain ⟨b,o,h1,h2,h3⟩:=h i hi
 refine ⟨b,o,h1,?_,?_⟩
 ·rw [size_grow]; exact Nat.lt_of_lt_of_le h2 (Nat.le_add_right _ _)
 ·rw [cell?_grow _ _ _ (by exact h2)]; exact h3
def GW (W w:World):Prop:=∃q os,w=grow (W.drewN q) os
theorem GW.refl (W:World):GW W W:=⟨0,#[],by rw [grow_empty]; rfl⟩
theorem GW.at {W w:World} (h:GW W w) {A:Option Addr} {l:List Int} (g:AtI W A l):AtI w A l:=by
 obtain ⟨q,os,rfl⟩:=h
 exact g.grown q os
theorem compareIK (a b:List Int) (A B:Option Addr) (ca cb:Nat) (W:World) (hA:AtI W A a) (hB:AtI W B b) (ha:a.length≤1000000) (hb:b.length≤1000000) :
  Calls Tryz.prog 137 #[.slice A a.length ca,.slice B b.length cb] W fun e w'=>e = .returned (.int .i64 (cmpL a b))∧∃q os',w'=grow (W.drewN q) os':=by
 have hc:=fun x y W=>cmpK64 x y W
 obtain ⟨r,hr⟩:∃r,r=cmpL a b:=⟨_,rfl⟩
 rw [←hr]
 go_enter Tryz.func137,Tryz.ntmps137
 go_wp2
 go_loopg [11] a.length (fun g s11 wr=>∃(i:Nat),s11 = .int .i64 i∧i≤a.length∧i≤b.length∧a.length - i≤g∧Aside (GW W wr)∧cmpL (a.drop i) (b.drop i)=r)
 case atStart=>exact ⟨0,rfl,by omega,by omega,by omega,GW.refl W,by rw [List.drop_zero,List.drop_zero,hr]⟩
 clear hr
 case round =>
  obtain ⟨i,rfl,hi,hi2,hg,hwr,hx⟩:=hrel
  by_cases h1:i<a.length
  ·obtain ⟨ba,oa,hAe,hba,ca0⟩:=(hwr.out.at hA) i h1
   subst hAe
   by_cases h2:i<b.length
   ·obtain ⟨bb,ob,hBe,hbb,cb0⟩:=(hwr.out.at hB) i h2
    subst hBe
    rw [List.drop_eq_getElem_cons h1,List.drop_eq_getElem_cons h2,cmpL] at hx
    generalize a[i]=x at ca0 hx
    generalize b[i]=y at cb0 hx
    obtain ⟨z,hz⟩:∃z,z=cmpI x y:=⟨_,rfl⟩
    have hcc:=fun W=>hc x y W
    rw [←hz] at hx hcc
    clear hz hc hA hB
    by_cases hq:z=0
    ·rw [if_pos hq] at hx
     subst hq
     go_wp2_with (go_at_call 198; refine (hcc _).mono ?_; rintro e w' ⟨rfl,rfl⟩)
     go_roundg (a.length - (i+1))
     case measure=>omega
     case rel=>exact ⟨i+1,by go_num,by omega,by omega,Nat.le_refl _,hwr.out,hx⟩
    ·rw [if_neg hq] at hx
     go_wp2_with (go_at_call 198; refine (hcc _).mono ?_; rintro e w' ⟨rfl,rfl⟩)
     go_ret
     exact ⟨by first | rfl | (rw [hx]; rfl),hwr.out⟩
   ·rw [List.drop_eq_getElem_cons h1,List.drop_of_length_le (show b.length≤i by omega),cmpL] at hx
    have h2':¬(i:Int)<b.length:=by omega
    go_wp2_with fail
    go_ret
    exact ⟨by first | rfl | (rw [hx]; rfl),hwr.out⟩
  ·rw [List.drop_of_length_le (show a.length≤i by omega)] at hx
   by_cases h2:a.length<b.length
   ·rw [List.drop_eq_getElem_cons (show i<b.length by omega),cmpL] at hx
    go_wp2_with fail
    go_ret
    exact ⟨by rw [hx]; rfl,hwr.out⟩
   ·rw [List.drop_of_length_le (show b.length≤i by omega),cmpL] at hx
    go_wp2_with fail
    go_ret
    exact ⟨by rw [hx]; rfl,hwr.out⟩
theorem putRow_id {α:Type} [Inhabited α] (enc:α→Value) (w:World) (blk off:Nat) (d:Array α):putRow enc w blk off d=putRow id w blk off (d.map enc):=by
 unfold putRow
 refine mapBlock_congr _ _ _ _ fun c _ _ _=>?_
 apply Array.ext_getElem?
 intro k
 simp only [putCells,Array.getElem?_mapIdx,Array.size_map]
 cases c[k]? with
 | none=>rfl
 | some y =>
  simp only [Option.map_some]
  by_cases h:off≤k∧k<off+d.size
  ·rw [if_pos h,if_pos h]
   have hk:k - off<d.size:=by omega
   rw [getElem!_pos d (k - off) hk,getElem!_pos (d.map enc) (k - off) (by simpa using hk)]
   simp
  ·rw [if_neg h,if_neg h]
theorem row_turned {s:AM.St} (hg:AM.Good s) {k e z:Nat} {xs ys:List V} (hk:s.H[k]?=some (.buf e z xs false)) (hκ:s.κ k≠0) (F:Array Value) (n:Nat) (os:Array Obj) (hl:ys.length=xs.length) (hF:F.size=xs.length*z)
  (hy:∀y∈ys,y.cells.length=z∧∀c∈y.cells,c.one=true) (hr:∀i y j c,ys[i]?=some y→y.cells[j]?=some c→Rel s c F[i*z+j]!) (W:World) (hW:W=grow (putRow id (Go.Sort.ahead s.w n) (s.φ k) 0 F) os) :
  AM.Good (s.setB W k (.buf e z ys false))∧AM.Step s (s.setB W k (.buf e z ys false)):=by
 have hlk:=lvB hk hκ
 have hlt:=(hg.lt k hlk).1
 obtain ⟨vs,h1,h2,h3,h4,h5,h6⟩:=hg.blk k _ hk
 have hb:=h1 hκ
 have ho:∀b,b<s.w.heap.size→b≠s.φ k→W.heap[b]?=s.w.heap[b]?:=fun b hb' hne=>by
  subst hW
  rw [heap_grow_old _ _ (by rw [Go.Proofs.size_putRow]; exact hb')]
  simp only [putRow,mapBlock,Go.Sort.ahead,Array.getElem?_modify,if_neg (Ne.symm hne)]
 have hbk:W.heap[s.φ k]?=some (.cells (putCells id 0 F vs) e (0,0)):=by
  subst hW
  rw [heap_grow_old _ _ (by rw [Go.Proofs.size_putRow]; exact hlt)]
  simp [putRow,mapBlock,Go.Sort.ahead,Array.getElem?_modify,hb,onCells]
 have hsz:s.w.heap.size≤W.heap.size:=by
  subst hW
  rw [size_grow,Go.Proofs.size_putRow]
  exact Nat.le_add_right _ _
 have ha:B.alike (.buf e z xs false) (.buf e z ys false):=⟨rfl,rfl,hl.symm,rfl,rfl⟩
 have e1:W.os=s.w.os:=by subst hW; rfl
 have e2:W.tape=s.w.tape:=by subst hW; rfl
 have e3:W.output=s.w.output:=by subst hW; rfl
 clear hW
 have hst:=setB_step (w:=W) hg hk hlk ha e1 e2 e3 hsz ho
 refine ⟨setB_good hg hk hlk ha e1 e2 e3 hsz ho (fun _=>?_),hst⟩
 refine ⟨putCells id 0 F vs,fun _=>hbk,by simp only [putCells,Array.size_mapIdx]; exact h2,by rw [hl]; exact h3,h4,hy,fun i x j c u hi hj hu=>?_⟩
 have hil:=getElem?_lt hi
 have hjl:=getElem?_lt hj
 rw [(hy x (List.mem_of_getElem? hi)).1] at hjl
 have hlt2:i*z+j<F.size:=by
  rw [hF]
  have:=Nat.mul_le_mul_right z (show i+1≤xs.length by omega)
  rw [Nat.add_mul,Nat.one_mul] at this
  omega
 have hu2:u=F[i*z+j]!:=by
  simp only [putCells,Array.getElem?_mapIdx] at hu
  cases hv:vs[i*z+j]? with
  | none=>rw [hv] at hu; cases hu
  | some v =>
   rw [hv,Option.map_some,if_pos ⟨by omega,by omega⟩,Nat.sub_zero] at hu
   exact (Option.some.inj hu).symm
 rw [hu2]
 exact (hr i x j c hi hj).step hst
end
end Go.Proofs.YtjogkbekekdkjaaGreatDoor
namespace Go.Proofs.YtjogkbekekdkjaaGreatDoor
section
open Go Go.Shelf
def renI:Go.Shelf.Ren:=⟨fun n=>match n with
  | 6=>136
  | 14=>197
  | 15=>105
  | 20=>246
  | 21=>247
  | 22=>248
  | 23=>249
  | 24=>250
  | 25=>251
  | 26=>252
  | 27=>253
  | 28=>167
  | 29=>168
  | 46=>272
  | 47=>218
  | 48=>219
  | 49=>273
  | 50=>274
  | 57=>286
  | n=>n,fun n=>match n with
  | 0=>0
  | 3=>3
  | 4=>4
  | 5=>5
  | 9=>9
  | 22=>122
  | 24=>34
  | 25=>239
  | 39=>172
  | 45=>254
  | 46=>255
  | 50=>127
  | 53=>45
  | 55=>262
  | 66=>301
  | 70=>305
  | 76=>333
  | 77=>334
  | n=>n,fun n=>n⟩
theorem layI:Go.Proofs.SlLaysF0.n6 Tryz.prog renI:={
 mixed:=by kernel_rfl
 f6:=⟨Tryz.f136.name,by decide,Tryz.func136.trans (congrArg some (by kernel_rfl))⟩
 f14:=⟨Tryz.f197.name,by decide,Tryz.func197.trans (congrArg some (by kernel_rfl))⟩
 f15:=Tryz.func105.trans (congrArg some (by kernel_rfl))
 f20:=⟨Tryz.f246.name,by decide,Tryz.func246.trans (congrArg some (by kernel_rfl))⟩
 f21:=⟨Tryz.f247.name,by decide,Tryz.func247.trans (congrArg some (by kernel_rfl))⟩
 f22:=⟨Tryz.f248.name,by decide,Tryz.func248.trans (congrArg some (by kernel_rfl))⟩
 f23:=⟨Tryz.f249.name,by decide,Tryz.func249.trans (congrArg some (by kernel_rfl))⟩
 f24:=⟨Tryz.f250.name,by decide,Tryz.func250.trans (congrArg some (by kernel_rfl))⟩
 f25:=⟨Tryz.f251.name,by decide,Tryz.func251.trans (congrArg some (by kernel_rfl))⟩
 f26:=⟨Tryz.f252.name,by decide,Tryz.func252.trans (congrArg some (by kernel_rfl))⟩
 f27:=⟨Tryz.f253.name,by decide,Tryz.func253.trans (congrArg some (by kernel_rfl))⟩
 f28:=Tryz.func167.trans (congrArg some (by kernel_rfl))
 f29:=Tryz.func168.trans (congrArg some (by kernel_rfl))
 f46:=⟨Tryz.f272.name,by decide,Tryz.func272.trans (congrArg some (by kernel_rfl))⟩
 f47:=Tryz.func218.trans (congrArg some (by kernel_rfl))
 f48:=Tryz.func219.trans (congrArg some (by kernel_rfl))
 f49:=⟨Tryz.f273.name,by decide,Tryz.func273.trans (congrArg some (by kernel_rfl))⟩
 f50:=⟨Tryz.f274.name,by decide,Tryz.func274.trans (congrArg some (by kernel_rfl))⟩
 f57:=⟨Tryz.f286.name,by decide,Tryz.func286.trans (congrArg some (by kernel_rfl))⟩
 t0:=Tryz.underlying0
 a0:=Tryz.isAgg0
 z0:=Tryz.sizeOf0
 v0:=Tryz.zeroValue0
 t3:=Tryz.underlying3
 a3:=Tryz.isAgg3
 z3:=Tryz.sizeOf3
 v3:=Tryz.zeroValue3
 t4:=Tryz.underlying4
 a4:=Tryz.isAgg4
 z4:=Tryz.sizeOf4
 v4:=Tryz.zeroValue4
 t5:=Tryz.underlying5
 a5:=Tryz.isAgg5
 z5:=Tryz.sizeOf5
 v5:=Tryz.zeroValue5
 t9:=Tryz.underlying9
 a9:=Tryz.isAgg9
 z9:=Tryz.sizeOf9
 v9:=Tryz.zeroValue9
 t22:=Tryz.underlying122
 a22:=Tryz.isAgg122
 z22:=Tryz.sizeOf122
 v22:=Tryz.zeroValue122
 t25:=Tryz.underlying239
 a25:=Tryz.isAgg239
 z25:=Tryz.sizeOf239
 v25:=Tryz.zeroValue239
 t39:=Tryz.underlying172
 a39:=Tryz.isAgg172
 z39:=Tryz.sizeOf172
 v39:=Tryz.zeroValue172
 t45:=Tryz.underlying254
 a45:=Tryz.isAgg254
 z45:=Tryz.sizeOf254
 v45:=Tryz.zeroValue254
 t46:=Tryz.underlying255
 a46:=Tryz.isAgg255
 z46:=Tryz.sizeOf255
 v46:=Tryz.zeroValue255
 t50:=Tryz.underlying127
 a50:=Tryz.isAgg127
 z50:=Tryz.sizeOf127
 v50:=Tryz.zeroValue127
 t53:=Tryz.underlying45
 a53:=Tryz.isAgg45
 z53:=Tryz.sizeOf45
 v53:=Tryz.zeroValue45
 t55:=Tryz.underlying262
 a55:=Tryz.isAgg262
 z55:=Tryz.sizeOf262
 v55:=Tryz.zeroValue262
 t66:=Tryz.underlying301
 a66:=Tryz.isAgg301
 z66:=Tryz.sizeOf301
 v66:=Tryz.zeroValue301
 t70:=Tryz.underlying305
 a70:=Tryz.isAgg305
 z70:=Tryz.sizeOf305
 v70:=Tryz.zeroValue305
 t76:=Tryz.underlying333
 a76:=Tryz.isAgg333
 z76:=Tryz.sizeOf333
 v76:=Tryz.zeroValue333
 t77:=Tryz.underlying334
 a77:=Tryz.isAgg334
 z77:=Tryz.sizeOf334
 v77:=Tryz.zeroValue334 }
end
end Go.Proofs.YtjogkbekekdkjaaGreatDoor
namespace Go.Proofs.YtjogkbekekdkjaaGreatDoor
section
open Go Go.AM Go.RowKit Go.Lib Go.Sort
def sortLi (ls:List (List Int)):List (List Int):=ls.mergeSort fun x y=>!(ltOf cmpL) y x
theorem sortLi_perm (l:List (List Int)):(sortLi l).Perm l:=List.mergeSort_perm _ _
theorem sortLi_len (l:List (List Int)):(sortLi l).length=l.length:=(sortLi_perm l).length_eq
theorem swoI:SWO (ltOf cmpL) where
 irrefl x:=by unfold ltOf; exact decide_eq_false (cmpL_irr x)
 trans x y z h g:=by unfold ltOf at *; exact decide_eq_true (cmpL_trans _ _ _ (of_decide_eq_true h) (of_decide_eq_true g))
 ntrans x y z h g:=by unfold ltOf at *; exact decide_eq_false (cmpL_ntrans (of_decide_eq_false h) (of_decide_eq_false g))
theorem totI (x y:List Int) (h:ltOf cmpL x y=false) (g:ltOf cmpL y x=false):x=y:=by
 unfold ltOf at *
 rcases cmpL_tri x y with h1 | h1 | h1
 ·exact absurd h1 (of_decide_eq_false h)
 ·exact h1
 ·exact absurd h1 (of_decide_eq_false g)
theorem sortLi_sorted (l:List (List Int)):(sortLi l).Pairwise fun x y=>¬cmpL y x<0:=by
 have:=List.pairwise_mergeSort (le:=fun x y=>!(ltOf cmpL) y x) (fun a b c h g=>by
  simp only [Bool.not_eq_true',ltOf,decide_eq_false_iff_not] at *
  exact cmpL_ntrans g h) (fun a b=>by
  simp only [Bool.or_eq_true,Bool.not_eq_true',ltOf,decide_eq_false_iff_not]
  by_cases h:cmpL b a<0
  ·right; intro g; exact cmpL_irr a (cmpL_trans _ _ _ g h)
  ·exact .inl h) l
 refine this.imp fun {x y} h=>?_
 simpa [ltOf] using h
def AI (s:AM.St) (f:Bool):Type:={ p:List Int×Value // p.1.length≤1000000∧Rel s (L1 f p.1) p.2 }
instance (s:AM.St) (f:Bool):Inhabited (AI s f):=⟨⟨([],.slice none 0 0),by simp,by
 refine .lst 1 f [] none 0 0 0 (fun _ _=>undef) (Nat.le_refl _) (fun _=>rfl) (fun h=>by simp at h) (by simp) (by simp) (by simp)⟩⟩
theorem AI.sl {s:AM.St} {f:Bool} {k e z:Nat} {xs:List V} (hk:s.H[k]?=some (.buf e z xs false)) (hκ:s.κ k≠0) (a:AI s f):∃A cap,a.1.2 = .slice A a.1.1.length cap ∧
  ∀(i:Nat) (h:i<a.1.1.length),∃b o,A=some ⟨b,o,none⟩∧b≠s.φ k∧b<s.w.heap.size∧s.w.cell? ⟨b,o+i,none⟩=some (.int .i64 a.1.1[i]):=by
 obtain ⟨⟨l,u⟩,hl,hr⟩:=a
 simp only at hl hr ⊢
 simp only [L1] at hr
 generalize hxs:l.map encI=ys at hr
 have hyl:ys.length=l.length:=by rw [←hxs]; simp
 cases hr with
 | lst _ _ _ A cap b off uf hcap hfull hA hz hcell hrel =>
  refine ⟨A,cap,by rw [hyl],fun i hi=>?_⟩
  obtain ⟨rfl,hP⟩:=hA (by omega)
  have hy:ys[i]?=some (encI l[i]):=by rw [←hxs]; simp [hi]
  refine ⟨b,off,rfl,?_,hP.1,?_⟩
  ·intro he
   obtain ⟨e',z',xs',hb⟩:=hP.2.2 k (lvB hk hκ) he.symm
   rw [hk] at hb; cases hb
  ·have h1:=hcell i _ 0 _ hy rfl
   have h2:=hrel i _ 0 _ hy rfl
   rw [Nat.add_zero,Nat.mul_one] at h1
   generalize uf i 0=u at h1 h2
   cases h2
   exact h1
def encAI {s:AM.St} {f:Bool} (a:AI s f):Value:=a.1.2
def cfAI {s:AM.St} {f:Bool} (a b:AI s f):Int:=cmpL a.1.1 b.1.1
theorem permIn_map {α β:Type} [Inhabited α] [Inhabited β] (f:α→β) {n:Nat} {d d':Array α} (hn:d.size=n) (h:PermIn 0 n d d'):PermIn 0 n (d.map f) (d'.map f):=by
 obtain ⟨h1,h2,h3⟩:=h
 refine ⟨by simp [h1],fun i hi=>?_,?_⟩
 ·rw [getElem!_neg _ _ (by simp; omega),getElem!_neg _ _ (by simp; omega)]
 ·have e1:(d.map f).extract 0 n=(d.extract 0 n).map f:=by simp
  have e2:(d'.map f).extract 0 n=(d'.extract 0 n).map f:=by simp
  rw [e1,e2,Array.toList_map,Array.toList_map]
  exact h3.map f
theorem sortedIn_map {α β:Type} [Inhabited α] [Inhabited β] (f:α→β) {lt:β→β→Bool} {n:Nat} {d:Array α} (hn:d.size=n) (h:SortedIn (fun x y=>lt (f x) (f y)) 0 n d):SortedIn lt 0 n (d.map f):=fun i j h1 h2 h3=>by
 have:=h i j h1 h2 h3
 have hj:j<d.size:=by omega
 have hi:i<d.size:=by omega
 rw [getElem!_pos d j hj,getElem!_pos d i hi] at this
 rw [getElem!_pos (d.map f) j (by simpa using hj),getElem!_pos (d.map f) i (by simpa using hi),Array.getElem_map,Array.getElem_map]
 exact this
theorem layI1:SlLaysF.n6 Tryz.prog renI:={ layI with a24:=Tryz.isAgg34,z24:=Tryz.sizeOf34 }
def LBi (H:List B) (k e:Nat) (f:Bool) (ls:List (List Int)):List B:=H.set k (.buf e 1 (ls.map (L1 f)) false)
theorem sortLi_u {H:List B} {k e:Nat} {f:Bool} (ls:List (List Int)) (n:Nat) (hn:ls.length=n) (hk:k<H.length) (hl:n<4611686018427387904) (hls:∀l∈ls,l.length≤1000000) :
  ConH Tryz.prog 136 [.buf k 0 n n,.fn 137 []] (LBi H k e f ls) fun r H'=>r = .tup []∧H'=LBi H k e f (sortLi ls):=by
 subst hn
 have hH:(LBi H k e f ls)[k]?=some (.buf e 1 (ls.map (L1 f)) false):=by unfold LBi; rw [List.getElem?_set_self hk]
 rw [show LBi H k e f (sortLi ls)=(LBi H k e f ls).set k (.buf e 1 ((sortLi ls).map (L1 f)) false) by unfold LBi; rw [List.set_set]]
 generalize LBi H k e f ls=H at hH
 refine ⟨⟨Tryz.f136,Tryz.func136,rfl,rfl⟩,fun s vals hA hg hsz hrel=>?_⟩
 obtain ⟨rfl,hZ⟩:=hA
 obtain ⟨u0,u1,rfl⟩:∃u0 u1,vals = #[u0,u1]:=by
  obtain ⟨l⟩:=vals
  match l,hsz with
  | [a,b],_=>exact ⟨a,b,rfl⟩
 have r0:=hrel 0 _ u0 rfl rfl
 have r1:=hrel 1 _ u1 rfl rfl
 cases r1 with
 | fn _ _ us hul _ =>
 obtain rfl:us = #[]:=Array.eq_empty_of_size_eq_zero (by simpa using hul)
 cases r0 with
 | buf _ _ _ _ e2 z2 xs2 fz2 A n c hk2 ht hh =>
 rw [hH] at hk2
 cases hk2
 obtain ⟨hA,rfl,hcap,_⟩:=hh (by simp)
 rw [Nat.zero_add] at hcap
 by_cases h0:ls=[]
 ·subst h0
  refine (AnyF.slices_SortFunc_none layI A c _ s.w).mono ?_
  rintro e' w' ⟨rfl,rfl⟩
  refine ⟨_,s,.tup [],rfl,rfl,hg,Step.refl s,.tup [] #[] rfl (by simp),rfl,?_⟩
  rw [show sortLi []=[] by simp [sortLi]]
  apply List.ext_getElem?
  intro i
  rw [List.getElem?_set]
  split
  ·rename_i h; subst h; rw [if_pos (getElem?_lt hH),hH]
  ·rfl
 ·have hpos:0<ls.length:=List.length_pos_iff.2 h0
  obtain ⟨vs,g2,g3,g4,g5,g6,g7⟩:=hg.blk k _ hH
  rw [List.length_map] at g4
  have hκ:s.κ k≠0:=by omega
  have hA:=hA hκ
  subst hA
  have g2:=g2 hκ
  have hlt:=(hg.lt k (lvB hH hκ)).1
  have hel:∀i (h:i<ls.length),∃u,vs[i]?=some u∧Rel s (L1 f ls[i]) u:=fun i h=>by
   obtain ⟨u,hu⟩:∃u,vs[i]?=some u:=⟨_,Array.getElem?_eq_getElem (show i<vs.size by omega)⟩
   exact ⟨u,hu,g7 i _ 0 _ u (show (ls.map (L1 f))[i]?=some (L1 f ls[i]) by simp [h]) rfl (by simpa using hu)⟩
  obtain ⟨d,hds,hdl,hdv⟩:∃d:Array (AI s f),d.size=ls.length∧d.map (fun a=>a.1.1)=ls.toArray∧∀i,i<ls.length→vs[i]?=some (encAI d[i]!):=by
   have hx:∀i:Fin ls.length,∃a:AI s f,a.1.1=ls[i]∧vs[i.1]?=some (encAI a):=fun i=>by
    obtain ⟨u,hu,hr⟩:=hel i.1 i.2
    exact ⟨⟨(ls[i],u),hls _ (List.getElem_mem _),hr⟩,rfl,hu⟩
   refine ⟨Array.ofFn fun i=>Classical.choose (hx i),by simp,?_,fun i hi=>?_⟩
   ·apply Array.ext
    ·simp
    ·intro i h1 h2
     simp only [Array.getElem_map,Array.getElem_ofFn]
     have:=(Classical.choose_spec (hx ⟨i,by simpa using h2⟩)).1
     rw [this]; simp
   ·rw [getElem!_pos _ _ (by simpa using hi),Array.getElem_ofFn]
    exact (Classical.choose_spec (hx ⟨i,hi⟩)).2
  have hOne:OneCell (encAI (s:=s) (f:=f)):=fun a=>by
   obtain ⟨A,cap,h1,_⟩:=AI.sl hH hκ a
   unfold encAI
   rw [h1]; rfl
  have hHo:Holds (encAI:AI s f→Value) s.w (s.φ k) (0*1) d:=by
   intro t ht
   rw [hds] at ht
   refine ⟨?_,?_⟩
   ·simp only [World.cell?,g2,Nat.zero_mul,Nat.zero_add]
    simpa using hdv t ht
   ·simp [World.frozen?,g2]
  have hcmp:CmpLays1 Tryz.prog 137 #[] (encAI:AI s f→Value) cfAI (s.φ k) (0*1) d.size s.w:=fun m os dk _ x y=>by
   obtain ⟨A,ca,a1,a2⟩:=AI.sl hH hκ x
   obtain ⟨B,cb,b1,b2⟩:=AI.sl hH hκ y
   have hat:∀(A:Option Addr) (l:List Int),(∀(i:Nat) (h:i<l.length),∃b o,A=some ⟨b,o,none⟩∧b≠s.φ k∧b<s.w.heap.size∧s.w.cell? ⟨b,o+i,none⟩=some (.int .i64 l[i])) →
     AtI (sortWorld (encAI:AI s f→Value) s.w (s.φ k) (0*1) m dk os) A l:=fun A l h i hi=>by
    obtain ⟨b,o,h1,h2,h3,h4⟩:=h i hi
    have hc:∀t,(sortWorld (encAI:AI s f→Value) s.w (s.φ k) (0*1) m dk os).cell? ⟨b,t,none⟩=s.w.cell? ⟨b,t,none⟩:=fun t=>by
     unfold sortWorld
     rw [cell?_grow _ _ _ (by rw [Go.Proofs.size_putRow]; exact h3),cell?_putRow_other _ _ _ _ _ _ (.inl h2)]
     rfl
    refine ⟨b,o,h1,?_,by rw [hc]; exact h4⟩
    unfold sortWorld
    rw [size_grow,Go.Proofs.size_putRow]
    exact Nat.lt_of_lt_of_le h3 (Nat.le_add_right _ _)
   have:=compareIK x.1.1 y.1.1 A B ca cb (sortWorld (encAI:AI s f→Value) s.w (s.φ k) (0*1) m dk os) (hat A _ a2) (hat B _ b2) x.2.1 y.2.1
   rw [←a1,←b1] at this
   exact this
  have hs:=Any.slices_SortFunc layI1 (encAI:AI s f→Value) hOne cfAI ⟨fun x=>swoI.irrefl x.1.1,fun x y z=>swoI.trans x.1.1 y.1.1 z.1.1,fun x y z=>swoI.ntrans x.1.1 y.1.1 z.1.1⟩ 137 #[] (s.φ k) (0*1) c d s.w
   (fun args w=>rfl) hcmp hHo hlt (by rw [hds]; simpa using hl)
  rw [hds] at hs
  refine hs.mono ?_
  rintro e' w' ⟨rfl,d',n,os,hp,hso,hw⟩
  have hp2:=permIn_map (fun a:AI s f=>a.1.1) hds hp
  have hd':d'.size=ls.length:=by rw [hp.1]; exact hds
  have hso2:=sortedIn_map (lt:=ltOf cmpL) (fun a:AI s f=>a.1.1) hd' hso
  rw [hdl] at hp2
  have hu:=sorted_unique_holds swoI totI ls.toArray (d'.map fun a=>a.1.1) (by simpa using hp2) (by simpa using hso2)
  have hys:(sortLi ls).map (L1 f)=d'.toList.map fun a=>L1 f a.1.1:=by
   have:sortLi ls=(d'.map fun a=>a.1.1).toList:=by rw [hu]; simp [sortLi]
   rw [this,Array.toList_map,List.map_map]
   rfl
  have hw2:w'=grow (putRow id (Go.Sort.ahead s.w n) (s.φ k) 0 (d'.map encAI)) os:=by
   rw [hw,Nat.zero_mul]
   unfold sortWorld
   rw [putRow_id]
  rw [hys]
  obtain ⟨f1,f2⟩:=row_turned (ys:=d'.toList.map fun a=>L1 f a.1.1) hg hH hκ (d'.map encAI) n os (by simp [hd']) (by simp [hd'])
   (fun y hy=>by obtain ⟨c,_,rfl⟩:=List.mem_map.1 hy; exact ⟨rfl,by simp [L1,V.cells,V.one]⟩) (fun i y j dd hy hd=>by
    have hil:=getElem?_lt hy
    simp only [List.length_map,Array.length_toList] at hil
    have hj:j=0:=by
     rw [List.getElem?_map,Array.getElem?_toList,Array.getElem?_eq_getElem hil,Option.map_some] at hy
     cases hy
     have:=getElem?_lt hd
     simp [L1,V.cells] at this
     omega
    subst hj
    rw [List.getElem?_map,Array.getElem?_toList,Array.getElem?_eq_getElem hil,Option.map_some] at hy
    cases hy
    have:dd=L1 f d'[i].1.1:=by simpa [L1,V.cells] using hd.symm
    subst this
    rw [Nat.mul_one,Nat.add_zero,getElem!_pos _ _ (by simpa using hil),Array.getElem_map]
    exact d'[i].2.2) w' hw2
  exact ⟨_,_,.tup [],rfl,rfl,f1,f2,.tup [] #[] rfl (by simp),rfl,rfl⟩
end
end Go.Proofs.YtjogkbekekdkjaaGreatDoor
namespace Go.Proofs.YtjogkbekekdkjaaGreatDoor
section
open Go Go.AM
structure TbC (t:Tb):Prop where
 ids:t.rows.Pairwise fun r s=>r.id<s.id
 pos:∀r∈t.rows,0<r.id
 len:∀r∈t.rows,r.vals.length=t.attrs.length
 val:∀r∈t.rows,r.vals.all validV=true
 wide:t.attrs.length≤16
theorem rowsErr_ok {n:Nat} : ∀{rs:List Rw} {last:Int},rowsErr n last rs=0→(∀r∈rs,last<r.id)∧(rs.Pairwise fun r s=>r.id<s.id)∧(∀r∈rs,r.vals.length=n)∧∀r∈rs,r.vals.all validV=true
 | [],_,_=>by simp
 | r::rs,last,h=>by
  rw [rowsErr] at h
  split at h
  ·cases h
  ·rename_i h1
   split at h
   ·cases h
   ·rename_i h2
    split at h
    ·rename_i h3
     obtain ⟨a,b,c,d⟩:=rowsErr_ok h
     refine ⟨fun x hx=>?_,List.pairwise_cons.2 ⟨a,b⟩,fun x hx=>?_,fun x hx=>?_⟩
     ·rcases List.mem_cons.1 hx with rfl | hx
      ·omega
      ·have:=a x hx; omega
     ·rcases List.mem_cons.1 hx with rfl | hx
      ·simpa using h2
      ·exact c x hx
     ·rcases List.mem_cons.1 hx with rfl | hx
      ·exact h3
      ·exact d x hx
    ·cases h
theorem tbC {t:Tb} (h:validT t=0):TbC t:=by
 unfold validT at h
 split at h
 ·split at h
  ·cases h
  ·rename_i h2
   split at h
   ·obtain ⟨a,b,c,d⟩:=rowsErr_ok h
    exact ⟨b,fun r hr=>a r hr,c,d,by omega⟩
   ·cases h
 ·cases h
def diffN (r l:Nat):Nat:=r &&& (4294967295 - l)
def fdLs (l:Nat):List Nat:=bitsF 32 l
def fdMs (l r:Nat):List Nat:=(bitsF 32 r).filter fun b=>!l.testBit b
def fdV (R:List Rw) (l r:Nat):List (List Int):=(fdMs l r).flatMap fun b=>sortLi (visF (fdDn (fdLs l) b) R 2 [] [])
def cnV (t:Tb) (c:Cn):List (List Int) :=
 if c.kind=1 then fdV t.rows c.fd.l c.fd.r else if c.kind=4 then cfdV c.cfd t.rows else if c.kind=5 then prL (odP c.od) t.rows else sortLi (visF c.dn t.rows c.dn.vars.toNat [] [])
def cnR (t:Tb) (c:Cn):List (List Int) :=
 if c.kind=1 then prL (fdP c.fd.l c.fd.r) t.rows else if c.kind=4 then cfdV c.cfd t.rows else if c.kind=5 then prL (odP c.od) t.rows else (asR t.rows c.dn.vars.toNat).foldl (stR c.dn) []
theorem pow16 {n:Nat} (h:n≤16):(2:Nat)^n≤65536:=by
 have h1:(2:Nat)^n≤2^16:=Nat.pow_le_pow_right (by omega) h
 omega
theorem fd_lt {n:Nat} {d:Fd} (h:fdOk1 n d=true):d.l<2^n∧d.r<2^n:=by
 unfold fdOk1 at h
 have h1:(d.l ||| d.r) / 2^n=0:=by simpa using h
 have h2:(d.l ||| d.r)<2^n:=by
  rcases Nat.div_eq_zero_iff.1 h1 with h | h
  ·have:=Nat.two_pow_pos n; omega
  ·exact h
 exact ⟨Nat.lt_of_le_of_lt Nat.left_le_or h2,Nat.lt_of_le_of_lt Nat.right_le_or h2⟩
theorem fdV_mem {t:Tb} (g:TbC t) {d:Fd} (h:fdOk1 t.attrs.length d=true) {x:List Int} : x∈fdV t.rows d.l d.r↔x∈prL (fdP d.l d.r) t.rows:=by
 obtain ⟨h1,h2⟩:=fd_lt h
 have hp:=pow16 g.wide
 have lt:∀s k,s<2^t.attrs.length→s.testBit k=true→k<32:=fun s k hs hk=>by
  refine Classical.byContradiction fun hc=>?_
  have h16:(2:Nat)^16≤2^k:=Nat.pow_le_pow_right (by omega) (by omega)
  have:s<2^k:=by omega
  rw [Nat.testBit_lt_two_pow this] at hk; cases hk
 rw [←fd_mem (n:=t.attrs.length) (L:=fdLs d.l) (M:=fdMs d.l d.r) g.ids g.len (by have:=g.wide; omega) h1 h2 (fun k=>?_) (fun k=>?_)]
 ·unfold fdV
  rw [List.mem_flatMap]
  constructor
  ·rintro ⟨b,hb,hx⟩
   exact ⟨b,hb,vd_prog.1 ((sortLi_perm _).mem_iff.1 hx)⟩
  ·rintro ⟨b,hb,hx⟩
   exact ⟨b,hb,(sortLi_perm _).mem_iff.2 (vd_prog.2 hx)⟩
 ·unfold fdLs
  rw [bitsF_mem]
  exact ⟨fun h=>h.2,fun h=>⟨lt _ _ h1 h,h⟩⟩
 ·unfold fdMs
  rw [List.mem_filter,bitsF_mem]
  constructor
  ·rintro ⟨⟨_,h3⟩,h4⟩; exact ⟨h3,by simpa using h4⟩
  ·rintro ⟨h3,h4⟩; exact ⟨⟨lt _ _ h2 h3,h3⟩,by simpa using h4⟩
theorem cn_ok {t:Tb} {c:Cn} (h:cnErr t c=0):(c.kind=1∧fdOk1 t.attrs.length c.fd=true)∨(c.kind=4∧cfB t.attrs.length c.cfd=true)∨(c.kind=5∧odB t.attrs.length c.od=true)∨(c.kind=6∧dnB t.attrs.length c.dn=true):=by
 unfold cnErr at h
 split at h
 ·rename_i h0
  rw [Bool.and_eq_true,Bool.and_eq_true,decide_eq_true_eq,decide_eq_true_eq] at h0
  split at h
  ·cases h
  ·split at h
   ·rename_i h1; split at h
    ·rename_i h2; exact .inl ⟨h1,h2⟩
    ·cases h
   ·split at h
    ·rename_i h1; split at h
     ·rename_i h2; exact .inr (.inl ⟨h1,h2⟩)
     ·cases h
    ·split at h
     ·rename_i h1; split at h
      ·rename_i h2; exact .inr (.inr (.inl ⟨h1,h2⟩))
      ·cases h
     ·split at h
      ·rename_i h2; exact .inr (.inr (.inr ⟨by omega,h2⟩))
      ·cases h
 ·cases h
theorem dn_vars {n:Int} {d:Dn} (h:dnB n d=true):1≤d.vars∧d.vars≤3:=by
 unfold dnB at h
 rw [Bool.and_eq_true,Bool.and_eq_true,decide_eq_true_eq,decide_eq_true_eq] at h
 exact ⟨h.1,h.2.1⟩
theorem cn_mem {t:Tb} (g:TbC t) {c:Cn} (h:cnErr t c=0) {x:List Int} : x∈cnV t c↔x∈cnR t c:=by
 unfold cnV cnR
 rcases cn_ok h with ⟨h1,h2⟩ | ⟨h1,h2⟩ | ⟨h1,h2⟩ | ⟨h1,h2⟩
 ·rw [if_pos h1,if_pos h1]; exact fdV_mem g h2
 ·rw [if_neg (by omega),if_pos h1,if_neg (by omega),if_pos h1]
 ·rw [if_neg (by omega),if_neg (by omega),if_pos h1,if_neg (by omega),if_neg (by omega),if_pos h1]
 ·rw [if_neg (by omega),if_neg (by omega),if_neg (by omega),if_neg (by omega),if_neg (by omega),if_neg (by omega),vd_ref,←vd_prog]
  exact (sortLi_perm _).mem_iff
theorem cn_edge {t:Tb} (g:TbC t) {c:Cn} (h:cnErr t c=0) {x:List Int} (hx:x∈cnR t c):EdgL t.rows x:=by
 unfold cnR at hx
 rcases cn_ok h with ⟨h1,h2⟩ | ⟨h1,h2⟩ | ⟨h1,h2⟩ | ⟨h1,h2⟩
 ·rw [if_pos h1] at hx; exact prL_edge g.ids hx
 ·rw [if_neg (by omega),if_pos h1] at hx; exact cfdV_edge g.ids hx
 ·rw [if_neg (by omega),if_neg (by omega),if_pos h1] at hx; exact prL_edge g.ids hx
 ·rw [if_neg (by omega),if_neg (by omega),if_neg (by omega)] at hx
  obtain ⟨h3,h4⟩:=dn_vars h2
  exact (vd_ref.1 hx).edge h3 h4
theorem pow_k {m k:Nat} (h:m≤8) (hk:k≤3):m^k≤512:=by
 have h1:m^k≤8^k:=Nat.pow_le_pow_left h k
 have h2:8^k≤8^3:=Nat.pow_le_pow_right (by omega) hk
 omega
theorem sq8 {m:Nat} (h:m≤8):m*m≤64:=Nat.mul_le_mul h h
theorem flat_len {α:Type} {f:α→List (List Int)} {k:Nat} : ∀l:List α,(∀x∈l,(f x).length≤k)→(l.flatMap f).length≤l.length*k
 | [],_=>by simp
 | x::l,h=>by
  rw [List.flatMap_cons,List.length_append,List.length_cons,Nat.succ_mul]
  have h1:=h x (List.mem_cons_self ..)
  have h2:=flat_len l (fun y hy=>h y (List.mem_cons_of_mem _ hy))
  omega
theorem cnV_len {t:Tb} (hr:t.rows.length≤8) {c:Cn} (h:cnErr t c=0):(cnV t c).length≤4000:=by
 unfold cnV
 rcases cn_ok h with ⟨h1,h2⟩ | ⟨h1,h2⟩ | ⟨h1,h2⟩ | ⟨h1,h2⟩
 ·rw [if_pos h1]
  have h3:=flat_len (f:=fun b=>sortLi (visF (fdDn (fdLs c.fd.l) b) t.rows 2 [] [])) (k:=64) (fdMs c.fd.l c.fd.r) (fun b _=>by
   rw [sortLi_len]
   have:=visF_len (d:=fdDn (fdLs c.fd.l) b) (R:=t.rows) 2 [] []
   rw [Nat.pow_two] at this
   have h5:=sq8 hr
   simp only [List.length_nil] at this
   omega)
  have h4:(fdMs c.fd.l c.fd.r).length≤32:=Nat.le_trans (List.length_filter_le _ _) (bitsF_len _ _)
  unfold fdV
  omega
 ·rw [if_neg (by omega),if_pos h1]
  have:=cfdV_len c.cfd t.rows
  have h5:=sq8 hr
  omega
 ·rw [if_neg (by omega),if_neg (by omega),if_pos h1]
  have:=prL_len (P:=odP c.od) t.rows
  have h5:=sq8 hr
  omega
 ·rw [if_neg (by omega),if_neg (by omega),if_neg (by omega),sortLi_len]
  obtain ⟨h3,h4⟩:=dn_vars h2
  have:=visF_len (d:=c.dn) (R:=t.rows) c.dn.vars.toNat [] []
  have h5:=pow_k (k:=c.dn.vars.toNat) hr (by omega)
  simp only [List.length_nil] at this
  omega
theorem cnR_len {t:Tb} (hr:t.rows.length≤8) {c:Cn} (h:cnErr t c=0):(cnR t c).length≤4000:=by
 unfold cnR
 have h5:=sq8 hr
 rcases cn_ok h with ⟨h1,h2⟩ | ⟨h1,h2⟩ | ⟨h1,h2⟩ | ⟨h1,h2⟩
 ·rw [if_pos h1]
  have:=prL_len (P:=fdP c.fd.l c.fd.r) t.rows
  omega
 ·rw [if_neg (by omega),if_pos h1]
  have:=cfdV_len c.cfd t.rows
  omega
 ·rw [if_neg (by omega),if_neg (by omega),if_pos h1]
  have:=prL_len (P:=odP c.od) t.rows
  omega
 ·rw [if_neg (by omega),if_neg (by omega),if_neg (by omega)]
  obtain ⟨h3,h4⟩:=dn_vars h2
  have h6:=asR_len t.rows c.dn.vars.toNat
  have h7:=pow_k (k:=c.dn.vars.toNat) hr (by omega)
  have key:∀(l:List (List Rw)) (o:List (List Int)),(l.foldl (stR c.dn) o).length≤o.length+l.length:=fun l=>by
   induction l with
   | nil=>intro o; simp
   | cons a l ih =>
    intro o
    rw [List.foldl_cons,List.length_cons]
    have h8:(stR c.dn o a).length≤o.length+1:=by
     unfold stR; split
     ·exact putR_len _ _
     ·omega
    have:=ih (stR c.dn o a)
    omega
  have:=key (asR t.rows c.dn.vars.toNat) []
  simp only [List.length_nil] at this
  omega
def progE (all:List (List Int)):List (List Int):=compL (sortLi (all.filter fun l=>!smK all l))
theorem progE_lex {all:List (List Int)} (hA:∀d∈all,d.Pairwise (· < ·)∧d≠[]∧d.length≤3):LexSet (progE all) (MinM all):=by
 have hs:(sortLi (all.filter fun l=>!smK all l)).Pairwise fun x y=>lexLt y x=false:=(sortLi_sorted _).imp (fun {x y} h=>by
  rw [←Bool.not_eq_true,←cmpL_lt]; exact h)
 have h:=compL_ok hs
 refine ⟨h.ord,fun e=>?_⟩
 show e∈compL _↔_
 rw [h.mem,(sortLi_perm _).mem_iff,List.mem_filter,←sm_min hA,Bool.not_eq_true']
theorem min_congr {a b:List (List Int)} (h:∀x,x∈a↔x∈b) (e:List Int):MinM a e↔MinM b e:=by
 unfold MinM
 rw [h e]
 exact ⟨fun ⟨h1,h2⟩=>⟨h1,fun d hd=>h2 d ((h d).2 hd)⟩,fun ⟨h1,h2⟩=>⟨h1,fun d hd=>h2 d ((h d).1 hd)⟩⟩
def allV (t:Tb) (cs:List Cn):List (List Int):=cs.flatMap (cnV t)
def allR (t:Tb) (cs:List Cn):List (List Int):=cs.flatMap (cnR t)
theorem all_mem {t:Tb} (g:TbC t) {cs:List Cn} (h:∀c∈cs,cnErr t c=0) {x:List Int} : x∈allV t cs↔x∈allR t cs:=by
 unfold allV allR
 rw [List.mem_flatMap,List.mem_flatMap]
 exact ⟨fun ⟨c,h1,h2⟩=>⟨c,h1,(cn_mem g (h c h1)).1 h2⟩,fun ⟨c,h1,h2⟩=>⟨c,h1,(cn_mem g (h c h1)).2 h2⟩⟩
theorem all_edge {t:Tb} (g:TbC t) {cs:List Cn} (h:∀c∈cs,cnErr t c=0) {x:List Int} (hx:x∈allR t cs):EdgL t.rows x:=by
 obtain ⟨c,h1,h2⟩:=List.mem_flatMap.1 hx
 exact cn_edge g (h c h1) h2
theorem edges_same {t:Tb} (g:TbC t) {cs:List Cn} (h:∀c∈cs,cnErr t c=0):progE (allV t cs)=edgesF (allR t cs):=by
 have hm:∀x,x∈allV t cs↔x∈allR t cs:=fun x=>all_mem g h
 have hE:∀d∈allR t cs,EdgL t.rows d:=fun d hd=>all_edge g h hd
 exact (progE_lex fun d hd=>⟨(hE d ((hm d).1 hd)).1,(hE d ((hm d).1 hd)).2.1,(hE d ((hm d).1 hd)).2.2.1⟩).eq (edges_min fun e he=>(hE e he).1) (min_congr hm)
def cnsErr (t:Tb):List Cn→Int
 | []=>0
 | c::cs=>if cnErr t c=0 then cnsErr t cs else cnErr t c
theorem cnsErr_ok {t:Tb} : ∀{cs:List Cn},cnsErr t cs=0→∀c∈cs,cnErr t c=0
 | [],_,c,hc=>by cases hc
 | c::cs,h,c',hc=>by
  rw [cnsErr] at h
  split at h
  ·rename_i h1
   rcases List.mem_cons.1 hc with rfl | hc
   ·exact h1
   ·exact cnsErr_ok h c' hc
  ·rename_i h1; exact absurd h h1
def buildErr (t:Tb) (cs:List Cn):Int:=if validT t=0 then (if 200<t.rows.length then 3 else cnsErr t cs) else validT t
end
end Go.Proofs.YtjogkbekekdkjaaGreatDoor
