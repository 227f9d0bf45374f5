/- JX8: own texts of this seat, joined and shortened by pack4.py: Lay, C1, C3, W1, W2, Pl1, Enc, Open, W6, W7, W8, W3, SO1, SO2. -/
import Derived.Test.YtjogkbekekdkjaaGreatDoorJX6
import Derived.Test.YtjogkbekekdkjaaGreatDoorJX7
import Derived.Test.YtjogkbekekdkjaaGreatDoorRows
import Derived.ProofKit
import Derived.LaidMore
import Derived.OpenShut
import Derived.Stop.Joined
import Derived.Laws.BitsAllLaws
import Derived.Laws.BitsLemmas
import Derived.Laws.Externs
import Derived.Lib.Bytealg
import Derived.Deep.LoopGhost
import Derived.Shelf.SlicesQ.Load
import Derived.Shelf.SlSortCmp.Kit1
import Derived.Sort.Grow
import Derived.Shelf.SlSortCmp.NoneTotal
set_option linter.unusedVariables false
set_option linter.unusedSimpArgs false
set_option maxRecDepth 100000
set_option maxHeartbeats 64000000
open Bool renaming false_eq_true→rn,eq_iff_iff→sb,false_or→sf
open List renaming replicate→rO,drop_eq_getElem_cons→rP,getElem_mem→rQ,drop_of_length_le→rR,getElem?_eq_getElem→rT,mem_cons→rU,take_succ_eq_append_getElem→rV,mem_of_getElem?→rW,append_nil→rj,drop_zero→rk,take_of_length_le→rt,mem_of_mem_take→sD,getElem?_map→sQ,mem_of_mem_drop→sh,getElem?_take→sw,mem_append→sx,getElem?_drop→tN
open Nat renaming le_refl→rd,mul_le_mul_right→ro,lt_of_lt_of_le→sI,add_mul→sM,lt_or_ge→sy,beq→tA,add_sub_cancel→tz,sub_zero→uY,eq_of_beq_eq_true→ue,mul_one→vM
open Option renaming map_some→sU,getD_some→uN
namespace Go.Proofs.YtjogkbekekdkjaaGreatDoor
section
open Go.ChangeShapes Go.WideShapes Go.ChangeAt Go.WideMaps Go.WideElems Go.RowKit Go.AM
theorem own:ownKnob Tryz.prog.godebug=none:=by kernel_rfl
theorem laidOut:laidOutB Tryz.prog=true:=by kernel_rfl
theorem gTab:Tryz.prog.globalNamed "math/bits.deBruijn32tab" = some 0:=by kernel_rfl
theorem tTab:(Tryz.prog.globals[0]?).map (·.type)=some 338:=by kernel_rfl
def laid1{H:Type} : List (String×DataW H):=[("math/bits.deBruijn32tab",Rows.laid_math_bits_deBruijn32tab)]
theorem door_met(os:Os)(args:Array Value):laidMetH Tryz.prog laid1 ((World.doorLaid Tryz.prog 400 os).forCall (fun _ _=>0) ⟨#[],args,[]⟩).memory :=
 laidMetH_of_parts3 (fuel:=8) (laidMet_of_run' 8 (by kernel_rfl) (by kernel_rfl)) (by kernel_rfl) (by kernel_rfl)
theorem of_laid{W:World}(h:laidMetH Tryz.prog laid1 W):∀(i:Nat) x,fP[i]?=some x→W.cell? ⟨0,i,none⟩=some (.int .u8 x):=by
 rw[MakeChecks.laidMetH_plain _ _ _ (by kernel_rfl)]at h;obtain⟨ps,⟨g0,t0,cs0,f0,p0,q0,hg0,ht0,hv0,hd0,_,_⟩,_,_⟩:=h;obtain rfl:=Option.some.inj (gTab.symm.trans hg0);obtain rfl:=Option.some.inj (tTab.symm.trans ht0);obtain⟨xs,m1,rfl,hx1,hlen,hn3,hel⟩:=DataW.trod_array Tryz.underlying338 hd0
 have c5:Tryz.prog.cellsOf 5=1:=by kernel_rfl
 simp only[Prod.mk.injEq,Rows.laid_math_bits_deBruijn32tab,DataW.agg.injEq]at hx1;intro i x hx
 have hi:i<32:=by have:=aB hx;simpa[fP] using this
 have h1:=hel i hi;rw[c5,vM,rT (by omega)]at h1;obtain⟨k,e1,e2,_⟩:=DataW.trod_int Tryz.underlying5 h1
 have hk:k=x:=by
  have hl:(fP.map fun y=>DataW.lit (.int .u8 y))=xs.map (·.1):=hx1.1;have h3:=congrArg (fun l=>l[i]?) hl;simp only[sQ,rT (show i<xs.length by omega),sU,hx,e2,Option.some.injEq,DataW.lit.injEq,Lit.int.injEq,true_and]at h3;exact h3.symm
 subst hk;have hcell:=World.var?_cell hg0 hv0 i;rw[hcell];have e3:(cs0.toList.drop i).take 1=[.int .u8 k]:=e1
 have:cs0.toList[i]?=some (.int .u8 k):=by
  have h4:=congrArg (fun l=>l[0]?) e3;simpa[sw,tN] using h4
 simpa using this
theorem gok{W:World}(h:laidMetH Tryz.prog laid1 W):GOk Tryz.prog (AM.base (fun _=>False) W):=fun g hg=>by
 obtain rfl:=Option.some.inj (gTab.symm.trans hg);have hc:=of_laid h;refine⟨⟨?_,fun h=>h,fun k hk=>by have:=hk.1;simp[AM.base]at this⟩,hc⟩;exact World.block_lt_of_cell? W _ (hc 0 0 rfl)
theorem cells_ok:∀t i,T t=some i→Tryz.prog.cellsOf t=i.size:=fun t i hi=>by
 obtain⟨inf,h1,h2,_⟩:=tok.info t i hi;simp[Program.cellsOf,h1,h2]
end
end Go.Proofs.YtjogkbekekdkjaaGreatDoor
namespace Go.Proofs.YtjogkbekekdkjaaGreatDoor
section
open Go Go.AM Go.RowKit
def tzIx(x:Int):Nat:=(bits BinOp.and IntKind.u32 x (-x % 4294967296)*125613361 % 4294967296 / 134217728).toNat
def tzI(x:Int):Int:=if x=0 then 32 else(fP[tzIx x]?).getD 0
theorem tab_lt(i:Nat)(h:i<32):∃y,fP[i]?=some y∧0≤y∧y<32:=by
 have:∀i:Fin 32,∃y,fP[i.1]?=some y∧0≤y∧y<32:=by decide
 exact this ⟨i,h⟩
theorem tz_any(x:Int)(w:World)(hz:∀(i:Nat) y,fP[i]?=some y→w.cell? ⟨0,i,none⟩=some (.int .u8 y)):
  Calls Tryz.prog 235 #[.int .u32 x] w fun e w'=>e = .returned (.int .i64 (tzI x))∧w'=w:=by
 by_cases hx:x=0
 ·have hb:(x == 0)=true:=by simpa using hx
  go_enter Tryz.func235,Tryz.ntmps235
  go_wp2
  go_ret
  exact⟨by simp[tzI,hx],rfl⟩
 ·have hb:(x == 0)=false:=by simpa using hx
  have h0:0≤bits BinOp.and IntKind.u32 x (-x % 4294967296)*125613361 % 4294967296 / 134217728:=by omega
  have h1:bits BinOp.and IntKind.u32 x (-x % 4294967296)*125613361 % 4294967296 / 134217728<32:=by omega
  obtain⟨y,hy,y0,y1⟩:=tab_lt (tzIx x) (by unfold tzIx;omega);have hc:=hz _ y hy;unfold tzIx at hc
  have hy':tzI x=y:=by simp[tzI,hx,hy]
  clear hz
  go_enter Tryz.func235,Tryz.ntmps235
  go_wp2
  go_ret
  exact⟨by rw[hy'];simp,rfl⟩
theorem tz_con(x:Int):aL Tryz.prog 235 [.int .u32 x] fun r=>r = .int .i64 (tzI x):=by
 refine⟨⟨Tryz.f235,Tryz.func235,rfl,rfl⟩,fun F w vals hZ hF hsz hrel=>?_⟩
 obtain⟨v0,rfl⟩:∃v0,vals = #[v0]:=by
  obtain⟨l⟩:=vals
  match l,hsz with
  | [a],_=>exact⟨a,rfl⟩
 have h0:=hrel 0 _ v0 rfl rfl;cases h0
 refine(tz_any x w (hZ 0 (by kernel_rfl)).2).mono fun e w' ⟨h1,h2⟩=>⟨_,_,h1,.int _ _,.int _ _,by subst h2;exact Below.refl _ _,rfl⟩
def nc(a b:ByteArray):Int:=Lib.compareBytes a.data.toList b.data.toList
theorem cmp_any(a b:ByteArray)(w:World):Calls Tryz.prog 287 #[.string a,.string b] w fun e w'=>e = .returned (.int .i64 (nc a b))∧w'=w:=by
 have hc:∀w,(callFunc 288 #[.string a,.string b]).run Tryz.prog w = .ok (.value (.int .i64 (nc a b))) w:=fun w=>by
  rw[run_callFunc_extern Tryz.func288 (by kernel_rfl) (by kernel_rfl) (by kernel_rfl) (e:=Extern.BytealgCompare.compare) (by kernel_rfl),Lib.run_compareString];rfl
 go_enter Tryz.func287,Tryz.ntmps287
 go_wp2_with (simp only[hc])
 go_ret
 exact⟨rfl,rfl⟩
theorem cmp_con(a b:ByteArray):aL Tryz.prog 287 [.str a,.str b] fun r=>r = .int .i64 (nc a b):=by
 refine⟨⟨Tryz.f287,Tryz.func287,rfl,rfl⟩,fun F w vals hZ hF hsz hrel=>?_⟩
 obtain⟨v0,v1,rfl⟩:∃v0 v1,vals = #[v0,v1]:=by
  obtain⟨l⟩:=vals
  match l,hsz with
  | [a,b],_=>exact⟨a,b,rfl⟩
 have h0:=hrel 0 _ v0 rfl rfl;have h1:=hrel 1 _ v1 rfl rfl;cases h0;cases h1
 refine(cmp_any a b w).mono fun e w' ⟨h1,h2⟩=>⟨_,_,h1,.int _ _,.int _ _,by subst h2;exact Below.refl _ _,rfl⟩
theorem mixed:Tryz.prog.follows .mixedOrders=true:=by kernel_rfl
theorem wx{c:Code}{Q:Exit→List V→List B→Prop}{fr:List V}{H:List B}(h:WX T (aQ Tryz.prog) (LW Tryz.prog) c Q fr H):W Tryz.prog c Q fr H:=W_x tok mixed h
theorem sPx{f:FuncId}{fn:Func}{c:Code}(hf:Tryz.prog.funcs[f]?=some fn)(hb:fn.body=some c)(hn:(fn.name == "runtime.NumGoroutine")=false){args:List V}{K:V→Prop}(h:WX T (aQ Tryz.prog) (LW Tryz.prog) c (retQ T fn.results.toList fun r H=>∃r',Exp H r r'∧AM.Pure r'∧K r') (args++rO (fn.ntmps-args.length) (.tup [])) []):aL Tryz.prog f args K:=ay (aF tok hf hb hn (wx h))
theorem sOx{f:FuncId}{fn:Func}{c:Code}(hf:Tryz.prog.funcs[f]?=some fn)(hb:fn.body=some c)(hn:(fn.name == "runtime.NumGoroutine")=false){args:List V}{K:Nat→Nat→List V→Prop}(h:WX T (aQ Tryz.prog) (LW Tryz.prog) c (retQ T fn.results.toList fun r H=>∃k e z xs,r = .buf k 0 xs.length xs.length∧H[k]?=some (.buf e z xs false)∧(∀x∈xs,AM.Pure x)∧K e z xs) (args++rO (fn.ntmps-args.length) (.tup [])) []):gy Tryz.prog f args K:=conO_of_conH (aF tok hf hb hn (wx h))
theorem tkf(n:Nat):TOk Tryz.prog (aM T fun t=>t == n):=tok_flag tok _
def ext:cH:=fun f args H=>match f,args with
 | 235,[.int .u32 x]=>some (.int .i64 (tzI x),H)
 | 287,[.str a,.str b]=>some (.int .i64 (nc a b),H)
 | _,_=>none
theorem bc:bN Tryz.prog ext:=fun f args H r H' h=>by
 unfold ext at h;split at h
 ·cases h;rename_i x;have:=aK (H:=H) (tz_con x) (by simp);simpa only[aQ,rj] using this
 ·cases h;rename_i a b;have:=aK (H:=H) (cmp_con a b) (by simp);simpa only[aQ,rj] using this
 ·cases h
theorem allNamed:(Tryz.prog.funcs.toList.all fun fn=>!(fn.name == "runtime.NumGoroutine"))=true:=by kernel_rfl
theorem au:∀(f:Nat) (fn:Func),Tryz.prog.funcs[f]?=some fn→(fn.name == "runtime.NumGoroutine")=false:=fun f fn h=>by
 have:=List.all_eq_true.1 allNamed fn (by rw[Array.mem_toList_iff];exact Array.mem_of_getElem? h);simpa using this
def buf1(H:List B):List V→List V→Option (Nat×Nat×Nat×List V)
 | a::as',b::bs=>if eqV 40 a b=true then buf1 H as' bs else match a with
  | .buf k 0 n m=>match H[k]? with
   | some (.buf e z xs _)=>if n=xs.length∧m=xs.length∧eqV 40 (.lst z false xs) b=true∧eqL (eqV 40) as' bs=true then some (k,e,z,xs) else none
   | _=>none
  | _=>none
 | _,_=>none
theorem repF_refl(p q:V):∀xs:List V,oP p q xs xs
 | []=>trivial
 | _::xs=>⟨.inl rfl,repF_refl p q xs⟩
theorem buf1_ok{H:List B} : ∀{args ga:List V} {k e z:Nat} {xs:List V},buf1 H args ga=some (k,e,z,xs)→(∃fz,H[k]?=some (.buf e z xs fz))∧oP (.buf k 0 xs.length xs.length) (.lst z false xs) args ga
 | [],_,_,_,_,_,h=>by simp[buf1]at h
 | _::_,[],_,_,_,_,h=>by simp[buf1]at h
 | a::as',b::bs,k,e,z,xs,h=>by
  unfold buf1 at h;split at h
  ·rename_i he;obtain⟨h1,h2⟩:=buf1_ok h;exact⟨h1,.inl (ef _ _ _ he).symm,h2⟩
  ·split at h
   ·rename_i k' n m;split at h
    ·rename_i e' z' xs' fz hk;split at h
     ·rename_i hc;obtain⟨rfl,rfl,h3,h4⟩:=hc;cases h;refine⟨⟨fz,hk⟩,.inr ⟨rfl,(ef _ _ _ h3).symm⟩,?_⟩;rw[gE (ef 40) h4];exact repF_refl _ _ _
     ·cases h
    ·cases h
   ·cases h
def mZ(g:FuncId)(ga:List V)(gr:V)(ext:cH):cH:=fun f args H=>if tA f g then(if eqL (eqV 40) args ga then some (gr,H) else match buf1 H args ga with
 | some _=>some (gr,H)
 | none=>ext f args H) else ext f args H
theorem pure_of_lst{z:Nat}{f:Bool}{xs:List V}(h:AM.Pure (.lst z f xs)):∀x∈xs,AM.Pure x:=by cases h;assumption
theorem dx{ext:cH}(he:bN Tryz.prog ext){g:FuncId}{ga:List V}{gr:V}(hc:aL Tryz.prog g ga fun x=>x=gr)(hq:∀a∈ga,AM.Pure a)(hs:Scalar gr):bN Tryz.prog (mZ g ga gr ext):=fun f args H r H' h=>by
 unfold mZ at h;split at h
 ·rename_i hf;have hfg:f=g:=ue hf;subst hfg;split at h
  ·rename_i ha;have ha:=gE (ef 40) ha;cases h;subst ha;have:=aK (H:=H) hc hq;simpa only[aQ,rj] using this
  ·split at h
   ·rename_i o ho;obtain⟨k,e,z,xs⟩:=o;cases h;obtain⟨⟨fz,hk⟩,hr⟩:=buf1_ok ho
    have:=callX (H:=H) (args:=args) hc hr.len (fun i a a' h1 h2=>by
     have hp:=hq a' (rW h2)
     rcases hr.at_ i a a' h1 h2 with rfl | ⟨rfl,rfl⟩
     ·exact .pure _ hp
     ·exact dP hk rfl (pure_of_lst hp)) hs
    simpa only[aQ,rj] using this
   ·exact he f args H r H' h
 ·exact he f args H r H' h
end
end Go.Proofs.YtjogkbekekdkjaaGreatDoor
namespace Go.Proofs.YtjogkbekekdkjaaGreatDoor
section
open Go Go.AM
def aE(n:Int):V:=.int .i64 n
def L1(f:Bool)(xs:List Int):V:=.lst 1 f (xs.map aE)
@[simp] theorem encI_pure (n:Int):AM.Pure (aE n):=by simp[aE]
@[simp] theorem L1_pure (f:Bool) (xs:List Int):AM.Pure (L1 f xs):=by simp[L1,aE]
theorem wrap64{n:Int}(h1 : -9223372036854775808≤n)(h2:n<9223372036854775808):IntKind.i64.wrap n=n:=by rw[IntKind.wrap_i64];omega
theorem aH(i:Nat)(h:i<9223372036854775807):IntKind.i64.wrap ((i:Int)+1)=((i+1:Nat):Int):=by rw[wrap64 (by omega) (by omega)];rfl
theorem hU(i:Nat)(h:i<9223372036854775807)(h1:1≤i):IntKind.i64.wrap ((i:Int)-1)=((i-1:Nat):Int):=by rw[wrap64 (by omega) (by omega)];omega
def bj(xs:List Int)(x:Int):Bool:=xs.contains x
theorem nO(y x:Int)(xs:List Int):bj (y::xs) x=(x == y||bj xs x):=by simp only[bj,List.contains_cons]
theorem memB_nil(x:Int):bj [] x=false:=rfl
theorem bI{xs:List Int}{x:Int} : bj xs x=true↔x∈xs:=by simp[bj]
def eu(xs:List Int)(i:Nat):Bool:=if h:i<xs.length then(if xs[i]≤xs[i-1] then false else eu xs (i+1)) else true
termination_by xs.length-i
def asc(xs:List Int):Bool:=eu xs 1
theorem asc_r(xs:List Int)(f:Bool)(hl:xs.length≤1000000):aL Tryz.prog 91 [L1 f xs] fun r=>r = .bool (asc xs):=by
 refine sPx Tryz.func91 rfl rfl ?_;simp -dsimp[Tryz.f91,rO];refine aG (gc [2,3,4,5,6,7,8,9,10,11,12,13,14,15,16,17,18,19] (σ:=Nat) (fun i=>1≤i∧eu xs i=asc xs) (fun i=>xs.length-i) (fun i=>[(3,.int .i64 i)]) (fun _=>[]) 1 ⟨by omega,rfl⟩ (by simp) rfl (by simp) ?_);rintro i ⟨hi,hx⟩;by_cases hb:i<xs.length
 ·have hb2:i-1<xs.length:=by omega
  rw[eu,dif_pos hb]at hx;refine wx ?_;simp -dsimp[L1,aE,hb,hb2,aH i (by omega),hU i (by omega) hi];refine .inr ⟨aC (by kernel_rfl),?_⟩;split
  ·rename_i h;rw[if_pos h]at hx;exact hx.symm
  ·rename_i h;rw[if_neg h]at hx;refine aC ?_;refine⟨i+1,⟨by omega,hx⟩,by omega,?_,⟨[],rfl⟩,?_,?_⟩<;>simp[L1,aE]
 ·rw[eu,dif_neg hb]at hx;refine wx ?_;simp -dsimp[hb,L1];exact hx.symm
theorem has03(xs:List Int)(x:Int)(f:Bool)(hl:xs.length≤1000000):aL Tryz.prog 66 [L1 f xs,.int .i64 x] fun r=>r = .bool (bj xs x):=by
 refine sPx Tryz.func66 rfl rfl ?_;simp -dsimp[Tryz.f66,rO];refine aG (gc [4,5,6,7,8,9,10,11,12,13,14,15,16,17] (σ:=Nat) (fun i=>bj (xs.drop i) x=bj xs x) (fun i=>xs.length-i) (fun i=>[(5,.int .i64 i)]) (fun _=>[]) 0 rfl (by simp) rfl (by simp) ?_);intro i hx;by_cases hb:i<xs.length
 ·rw[rP hb,nO]at hx;by_cases hq:xs[i]=x
  ·refine wx ?_;simp -dsimp[L1,aE,hb,hq];rw[hq]at hx;simpa using hx.symm
  ·have hq2:(x == xs[i])=false:=by simpa using fun h:x=xs[i]=>hq h.symm
   rw[hq2,sf]at hx;refine wx ?_;simp -dsimp[L1,aE,hb,hq,aH i (by omega)];refine aC ?_;refine⟨i+1,hx,by omega,?_,⟨[],rfl⟩,?_,?_⟩<;>simp[L1,aE]
 ·rw[rR (by omega),memB_nil]at hx;refine wx ?_;simp -dsimp[hb,L1];exact hx.symm
theorem has37(xs:List Int)(x:Int)(f:Bool)(hl:xs.length≤1000000):aL Tryz.prog 214 [L1 f xs,.int .i64 x] fun r=>r = .bool (bj xs x):=by
 refine sPx Tryz.func214 rfl rfl ?_;simp -dsimp[Tryz.f214,rO];refine cPx (has03 xs x f hl) (by simp) ?_;simp -dsimp[L1]
def dM(us bs:List Int):Bool:=us.all fun x=>bj bs x
theorem within37(us bs:List Int)(f g:Bool)(hl:us.length≤1000000)(hl2:bs.length≤1000000):aL Tryz.prog 147 [L1 f us,L1 g bs] fun r=>r = .bool (dM us bs):=by
 refine sPx Tryz.func147 rfl rfl ?_;simp -dsimp[Tryz.f147,rO];refine aG (gc [4,5,6,7,8,9,10,11,12,13,14,15,16,17,18] (σ:=Nat) (fun i=>dM (us.drop i) bs=dM us bs) (fun i=>us.length-i) (fun i=>[(5,.int .i64 i)]) (fun _=>[]) 0 rfl (by simp) rfl (by simp) ?_);intro i hx;by_cases hb:i<us.length
 ·rw[rP hb]at hx;have hx':(bj bs us[i]&&dM (us.drop (i+1)) bs)=dM us bs:=hx;refine wx ?_;cases hq:bj bs us[i]
  ·rw[hq]at hx';have hc:=has37 bs us[i] g hl2;rw[hq]at hc;simp -dsimp[L1,hb,aE];refine cPx (hc) (by simp) ?_;simp -dsimp[hb];simpa using hx'.symm
  ·rw[hq]at hx';have hc:=has37 bs us[i] g hl2;rw[hq]at hc;simp -dsimp[L1,hb,aE];refine cPx (hc) (by simp) ?_;simp -dsimp[hb,aH i (by omega)];refine aC ?_;refine⟨i+1,by simpa using hx',by omega,?_,⟨[],rfl⟩,?_,?_⟩<;>simp[L1,aE]
 ·rw[rR (by omega)]at hx;refine wx ?_;simp -dsimp[hb,L1];simpa[dM] using hx.symm
def ap:List Int→List Int→Bool
 | [],[]=>false
 | [],_::_=>true
 | _::_,[]=>false
 | x::xs,y::ys=>if x=y then ap xs ys else decide (x<y)
theorem before37(us bs:List Int)(f g:Bool)(hl:us.length≤1000000)(hl2:bs.length≤1000000):aL Tryz.prog 148 [L1 f us,L1 g bs] fun r=>r = .bool (ap us bs):=by
 refine sPx Tryz.func148 rfl rfl ?_;simp -dsimp[Tryz.f148,rO];refine aG (gc [4,5,6,7,8,9,10,11,12,13,14,15,16,17,18,19,20,21,22,23,24,25,26,27,28,29,30,31,32,33,34,35] (σ:=Nat) (fun i=>i≤us.length∧i≤bs.length∧ap (us.drop i) (bs.drop i)=ap us bs) (fun i=>us.length-i) (fun i=>[(5,.int .i64 i)]) (fun _=>[]) 0 ⟨by omega,by omega,rfl⟩ (by simp) rfl (by simp) ?_);rintro i ⟨h1,h2,hx⟩;by_cases ha:i<us.length
 ·by_cases hb:i<bs.length
  ·rw[rP ha,rP hb,ap]at hx;by_cases hq:us[i]=bs[i]
   ·rw[if_pos hq]at hx;refine wx ?_;simp -dsimp[L1,aE,ha,hb,hq,aH i (by omega)];refine .inr ⟨aC (by kernel_rfl),?_⟩;refine aC ?_;refine⟨i+1,⟨by omega,by omega,hx⟩,by omega,?_,⟨[],rfl⟩,?_,?_⟩<;>simp[L1,aE]
   ·rw[if_neg hq]at hx;refine wx ?_;simp -dsimp[L1,aE,ha,hb,hq];refine .inr ⟨aC (by kernel_rfl),?_⟩;refine .inr ⟨aC (by kernel_rfl),?_⟩;exact hx
  ·rw[rP ha,rR (l:=bs) (by omega),ap]at hx;refine wx ?_;simp -dsimp[L1,ha,hb];rw[←hx];simp;omega
 ·by_cases hb:i<bs.length
  ·rw[rP hb,rR (l:=us) (by omega),ap]at hx;refine wx ?_;simp -dsimp[L1,ha,hb];rw[←hx];simp;omega
  ·rw[rR (l:=us) (by omega),rR (l:=bs) (by omega),ap]at hx;refine wx ?_;simp -dsimp[L1,ha,hb];rw[←hx];simp;omega
theorem nan_c(x:Int):aL Tryz.prog 139 [.int .i64 x] fun r=>r = .bool false:=by
 refine sPx Tryz.func139 rfl rfl ?_;simp -dsimp[Tryz.f139,rO]
theorem nan_s(x:Int):aL Tryz.prog 82 [.int .i64 x] fun r=>r = .bool false:=by
 refine sPx Tryz.func82 rfl rfl ?_;simp -dsimp[Tryz.f82,rO]
theorem less64(x y:Int):aL Tryz.prog 81 [.int .i64 x,.int .i64 y] fun r=>r = .bool (decide (x<y)):=by
 refine sPx Tryz.func81 rfl rfl ?_;simp -dsimp[Tryz.f81,rO];refine cPx (nan_c x) (by simp) ?_;simp -dsimp[]
def cx(x y:Int):Int:=if x<y then -1 else if y<x then 1 else 0
theorem cmp64(x y:Int):aL Tryz.prog 198 [.int .i64 x,.int .i64 y] fun r=>r = .int .i64 (cx x y):=by
 refine sPx Tryz.func198 rfl rfl ?_;simp -dsimp[Tryz.f198,rO];refine cPx (nan_c x) (by simp) ?_;simp -dsimp[];refine cPx (nan_c y) (by simp) ?_;simp -dsimp[];unfold cx;split
 ·rfl
 ·split<;>rfl
def eP:List Int→List Int→Int
 | [],[]=>0
 | [],_::_=>-1
 | _::_,[]=>1
 | x::xs,y::ys=>if cx x y=0 then eP xs ys else cx x y
def bsI(xs:List Int)(x:Int)(lo hi:Nat):Nat :=
 if h:lo<hi then(if(xs[(lo+hi) / 2]?).getD 0<x then bsI xs x ((lo+hi) / 2+1) hi else bsI xs x lo ((lo+hi) / 2)) else lo
termination_by hi-lo
def bsP(xs:List Int)(x:Int):Nat:=bsI xs x 0 xs.length
def bsF(xs:List Int)(x:Int):Bool:=xs[bsP xs x]? == some x
theorem shr1(lo hi:Nat)(h:lo+hi<2000002):IntKind.i64.wrap ((IntKind.u64.wrap ((lo:Int)+(hi:Int))).fdiv (2^min 1 IntKind.u64.bits))=(((lo+hi) / 2:Nat):Int):=by
 have h2:(2:Int)^min 1 IntKind.u64.bits=2:=by decide
 have h1:IntKind.u64.wrap ((lo:Int)+(hi:Int))=(lo:Int)+(hi:Int):=by rw[IntKind.wrap_u64];omega
 rw[h2,h1,Int.fdiv_eq_ediv_of_nonneg _ (by omega),wrap64 (by omega) (by omega)];omega
theorem bsearch64(xs:List Int)(x:Int)(f:Bool)(hl:xs.length≤1000000):aL Tryz.prog 40 [L1 f xs,.int .i64 x] fun r=>r = .tup [.int .i64 (bsP xs x),.bool (bsF xs x)]:=by
 refine sPx Tryz.func40 rfl rfl ?_;simp -dsimp[Tryz.f40,rO,L1];refine aG (gc [7,8,9,13,14,15,16,17,18,19,20,21,22,23,24,25,26,27,28,29,30] (σ:=Nat×Nat) (fun p=>p.1≤p.2∧p.2≤xs.length∧bsI xs x p.1 p.2=bsP xs x) (fun p=>p.2-p.1) (fun p=>[(7,.int .i64 p.1),(8,.int .i64 p.2)]) (fun _=>[]) (0,xs.length) ⟨by omega,by omega,rfl⟩ (by simp) rfl (by simp) ?_);rintro⟨lo,hi⟩ ⟨h1,h2,hx⟩;simp only at h1 h2 hx;by_cases hb:lo<hi
 ·have hw:IntKind.i64.wrap ((lo:Int)+(hi:Int))=((lo+hi:Nat):Int):=by rw[wrap64 (by omega) (by omega)];rfl
  have hs:=shr1 lo hi (by omega);rw[bsI,dif_pos hb]at hx;obtain⟨m,em⟩:∃m,m=(lo+hi) / 2:=⟨_,rfl⟩;rw[←em]at hs hx
  have hm:m<xs.length:=by omega
  rw[rT hm,uN]at hx;have hc:=less64 xs[m] x;have hs1:=aH m (by omega);by_cases hq:xs[m]<x
  ·rw[if_pos hq]at hx;rw[decide_eq_true hq]at hc;refine wx ?_;simp -dsimp[L1,aE,hb,hw,hs,hm];refine cPx (hc) (by simp) ?_;simp -dsimp[hs1];refine aC ?_;refine⟨(m+1,hi),⟨by simp only;omega,h2,hx⟩,by omega,?_,⟨[],rfl⟩,?_,?_⟩<;>simp[L1,aE]
  ·rw[if_neg hq]at hx;rw[decide_eq_false hq]at hc;refine wx ?_;simp -dsimp[L1,aE,hb,hw,hs,hm];refine cPx (hc) (by simp) ?_;simp -dsimp[];refine aC ?_;refine⟨(lo,m),⟨by simp only;omega,by simp only;omega,hx⟩,by omega,?_,⟨[],rfl⟩,?_,?_⟩<;>simp[L1,aE]
 ·rw[bsI,dif_neg hb]at hx;by_cases hn:lo<xs.length
  ·by_cases hq:xs[lo]=x
   ·refine wx ?_;simp -dsimp[L1,aE,hb,hn,hq];simp[hx.symm,bsF,hn,hq]
   ·refine wx ?_;simp -dsimp[L1,aE,hb,hn,hq];refine cPx (nan_s xs[lo]) (by simp) ?_;simp -dsimp[];simp[hx.symm,bsF,hn,hq]
  ·refine wx ?_;simp -dsimp[L1,aE,hb,hn];simp[hx.symm,bsF,hn]
theorem oG(xs:List Int)(i:Nat)(h1:1≤i):eu xs i=true↔∀j,i≤j→∀(h:j<xs.length),xs[j-1]<xs[j]:=by
 fun_induction eu xs i with
 | case1 i h h0=>simp only[rn,false_iff];intro hh;have:=hh i (rd _) h;omega
 | case2 i h h0 ih =>
  rw[ih (by omega)];constructor
  ·intro hh j hj hl
   rcases sy i j with h2 | h2
   ·exact hh j (by omega) hl
   ·obtain rfl:j=i:=by omega
    omega
  ·intro hh j hj hl;exact hh j (by omega) hl
 | case3 i h=>simp only[true_iff];intro j hj hl;omega
theorem lV{xs:List Int}(h:asc xs=true):∀(i j:Nat) (hi:i<xs.length) (hj:j<xs.length),i<j→xs[i]<xs[j]:=by
 have h1:=(oG xs 1 (by omega)).1 h;intro i j hi hj hij
 induction j with
 | zero=>omega
 | succ j ih =>
  have h2:=h1 (j+1) (by omega) hj;simp only[tz]at h2
  rcases sy i j with h3 | h3
  ·have:=ih (by omega) h3;omega
  ·obtain rfl:i=j:=by omega
   exact h2
theorem bsI_ok{xs:List Int}(hs:asc xs=true)(x:Int)(lo hi:Nat)(hlh:lo≤hi)(hhl:hi≤xs.length)(h1:∀j (h:j<xs.length),j<lo→xs[j]<x)(h2:∀j (h:j<xs.length),hi≤j→x≤xs[j]):
  (∀j (h:j<xs.length),j<bsI xs x lo hi→xs[j]<x)∧∀j (h:j<xs.length),bsI xs x lo hi≤j→x≤xs[j]:=by
 fun_induction bsI xs x lo hi with
 | case1 lo hi h0 hq ih =>
  have hm:(lo+hi) / 2<xs.length:=by omega
  rw[rT hm,uN]at hq;refine ih (by omega) hhl (fun j h hj=>?_) h2
  rcases sy j ((lo+hi) / 2) with h3 | h3
  ·have:=lV hs j _ h hm h3;omega
  ·obtain rfl:j=(lo+hi) / 2:=by omega
   exact hq
 | case2 lo hi h0 hq ih =>
  have hm:(lo+hi) / 2<xs.length:=by omega
  rw[rT hm,uN]at hq;refine ih (by omega) (by omega) h1 (fun j h hj=>?_)
  rcases sy ((lo+hi) / 2) j with h3 | h3
  ·have:=lV hs _ j hm h h3;omega
  ·obtain rfl:j=(lo+hi) / 2:=by omega
   omega
 | case3 lo hi h0=>exact⟨fun j h hj=>h1 j h hj,fun j h hj=>h2 j h (by omega)⟩
theorem bsF_mem{xs:List Int}(hs:asc xs=true)(x:Int):bsF xs x=bj xs x:=by
 obtain⟨h1,h2⟩:=bsI_ok hs x 0 xs.length (by omega) (by omega) (fun j h hj=>absurd hj (by omega)) (fun j h hj=>absurd h (by omega));rw[sb,bI];unfold bsF bsP;constructor
 ·intro h;have:=beq_iff_eq.1 h;exact rW this
 ·intro h;obtain⟨j,hj,rfl⟩:=List.mem_iff_getElem.1 h
  have a1:bsI xs xs[j] 0 xs.length≤j:=by
   rcases sy j (bsI xs xs[j] 0 xs.length) with h3 | h3
   ·have:=h1 j hj h3;omega
   ·exact h3
  have a2:j≤bsI xs xs[j] 0 xs.length:=by
   rcases sy (bsI xs xs[j] 0 xs.length) j with h3 | h3
   ·have h4:=h2 _ (by omega) (rd _);have:=lV hs _ j (by omega) hj h3;omega
   ·exact h3
  rw[show bsI xs xs[j] 0 xs.length=j by omega];simp[hj]
theorem cmpL_lex:∀us bs:List Int,decide (0≤eP us bs)= !ap us bs
 | [],[]=>rfl
 | [],_::_=>rfl
 | _::_,[]=>rfl
 | x::xs,y::ys=>by
  have ih:=cmpL_lex xs ys;simp only[eP,ap,cx];by_cases h:x=y
  ·subst h;simp[ih]
  ·rcases Int.lt_or_gt_of_ne h with h1 | h1
   ·simp[h,h1]
   ·have h2:¬x<y:=by omega
    simp[h,h1,h2]
def LL(g:Bool)(es:List (List Int)):V:=.lst 1 g (es.map (L1 false))
def iK(f g:Bool)(vs:List Int)(es:List (List Int)):V:=.agg [L1 f vs,LL g es]
@[simp] theorem LL_pure (g:Bool) (es:List (List Int)):AM.Pure (LL g es):=by simp[LL]
@[simp] theorem encH_pure (f g:Bool) (vs:List Int) (es:List (List Int)):AM.Pure (iK f g vs es):=by simp[iK]
def Small(vs:List Int)(es:List (List Int)):Prop:=vs.length≤1000000∧es.length≤1000000∧∀e∈es,e.length≤1000000
@[simp] theorem encI_oneV (n:Int):dV (aE n)=true:=rfl
@[simp] theorem L1_oneV (f:Bool) (xs:List Int):dV (L1 f xs)=true:=rfl
def eAt(es:List (List Int))(i:Nat):List Int:=es.getD i []
theorem dO{es:List (List Int)}{i:Nat}(h:i<es.length):eAt es i=es[i]:=by simp[eAt,h]
theorem agg_rel{w:World}{vs:List V}{us:Array Value}(h:CR w vs us.toList):Rel (AM.base (fun _=>False) w) (.agg vs) (.agg us):=
 .agg vs us (by simpa using h.len.symm) h.one (fun i c u hc hu=>h.rel i c u hc (by simpa using hu))
def ixI(xs:List Int)(x:Int)(i:Nat):Int:=if h:i<xs.length then(if x=xs[i] then(i:Int) else ixI xs x (i+1)) else -1
termination_by xs.length-i
theorem ixI_mem(xs:List Int)(x:Int)(i:Nat):decide (0≤ixI xs x i)=bj (xs.drop i) x:=by
 fun_induction ixI xs x i with
 | case1 i h h0=>rw[rP h,nO];simp[h0]
 | case2 i h h0 ih=>rw[rP h,nO,ih];simp[h0]
 | case3 i h=>rw[rR (by omega)];rfl
theorem index64(xs:List Int)(x:Int)(f:Bool)(hl:xs.length≤1000000):aL Tryz.prog 59 [L1 f xs,.int .i64 x] fun r=>r = .int .i64 (ixI xs x 0):=by
 refine sPx Tryz.func59 rfl rfl ?_;simp -dsimp[Tryz.f59,rO,L1];refine aG (gc [4,5,8,9,10,11,12,13,14,15,16,17,18] (σ:=Nat) (fun i=>ixI xs x i=ixI xs x 0) (fun i=>xs.length-i) (fun i=>[(8,.int .i64 i)]) (fun _=>[]) 0 rfl (by simp) rfl (by simp) ?_);intro i hx;by_cases hb:i<xs.length
 ·rw[ixI,dif_pos hb]at hx;by_cases hq:x=xs[i]
  ·rw[if_pos hq]at hx;refine wx ?_;simp -dsimp[L1,aE,hb,hq];rw[←hq];exact hx
  ·rw[if_neg hq]at hx;refine wx ?_;simp -dsimp[L1,aE,hb,hq,aH i (by omega)];refine aC ?_;refine⟨i+1,hx,by omega,?_,⟨[],rfl⟩,?_,?_⟩<;>simp[L1,aE]
 ·rw[ixI,dif_neg hb]at hx;refine wx ?_;simp -dsimp[L1,hb];exact hx
theorem qb(xs:List Int)(x:Int)(f:Bool)(hl:xs.length≤1000000):aL Tryz.prog 23 [L1 f xs,.int .i64 x] fun r=>r = .bool (bj xs x):=by
 have h0:=ixI_mem xs x 0;rw[rk]at h0;refine sPx Tryz.func23 rfl rfl ?_;simp -dsimp[Tryz.f23,rO];refine cPx (index64 xs x f hl) (by simp) ?_;simp -dsimp[];rw[←h0]
theorem equal64(us bs:List Int)(f g:Bool)(hl:us.length≤1000000)(hl2:bs.length≤1000000):aL Tryz.prog 35 [L1 f us,L1 g bs] fun r=>r = .bool (decide (us=bs)):=by
 by_cases hn:us.length=bs.length
 ·refine sPx Tryz.func35 rfl rfl ?_;simp -dsimp[Tryz.f35,rO,L1,hn];refine aG (gc [4,5,13,14,15,16,17,18,19,20,21,22,23,24,25] (σ:=Nat) (fun i=>i≤us.length∧us.take i=bs.take i) (fun i=>us.length-i) (fun i=>[(13,.int .i64 i)]) (fun _=>[]) 0 ⟨by omega,by simp⟩ (by simp) rfl (by simp) ?_);rintro i ⟨h1,h2⟩;by_cases hb:i<bs.length
  ·have ha:i<us.length:=by omega
   by_cases hq:us[i]=bs[i]
   ·refine wx ?_;simp -dsimp[L1,aE,ha,hb,hq,aH i (by omega)];refine .inr ⟨aC (by kernel_rfl),?_⟩;refine aC ?_;refine⟨i+1,⟨by omega,by rw[rV ha,rV hb,h2,hq]⟩,by omega,?_,⟨[],rfl⟩,?_,?_⟩<;>simp[L1,aE]
   ·refine wx ?_;simp -dsimp[L1,aE,ha,hb,hq];refine .inr ⟨aC (by kernel_rfl),?_⟩;rintro rfl;exact hq rfl
  ·refine wx ?_;simp -dsimp[L1,hb];rw[rt (by omega),rt (by omega)]at h2;exact h2
 ·have hne:¬us=bs:=fun h=>hn (by rw[h])
  refine sPx Tryz.func35 rfl rfl ?_;simp -dsimp[Tryz.f35,rO,L1,hn,show ¬((us.length:Int)=bs.length) by omega];exact hne
def ko(s:Int)(i:Nat):Bool:=IntKind.u32.wrap ↑((s.fdiv (2^min i IntKind.u32.bits) % 2^IntKind.u32.bits).toNat &&& 1 % 2^IntKind.u32.bits)== 1
theorem has02(s:Int)(i:Nat)(hi:i<32):aL Tryz.prog 106 [.int .u32 s,.int .i64 i] fun r=>r = .bool (ko s i):=by
 refine sPx Tryz.func106 rfl rfl ?_;simp -dsimp[Tryz.f106,rO,show(i:Int)<32 by omega];rfl
theorem go(n:Nat)(h:n≤1000000000):n≤9223372036854775806∧(n+1)*8≤140737488355328:=by omega
theorem fI(n:Nat)(h:n≤1000000000):n≤9223372036854775806∧(n+1)*24≤140737488355328:=by omega
theorem capL8(n:Nat)(h:n≤1000000000):n≤9223372036854775807∧n*8≤140737488355328:=by omega
theorem ai(n:Nat)(h:n<9223372036854775807):IntKind.i64.wrap (n:Int)=n:=wrap64 (by omega) (by omega)
def qX(l:List (List Int))(i k:Nat):Bool:=dM (eAt l k) (eAt l i)&&(decide ((eAt l k).length<(eAt l i).length)||decide (k<i))
def fB(l:List (List Int))(i:Nat):Nat→Bool
 | 0=>true
 | k+1=>fB l i k&&!qX l i k
def keepE(l:List (List Int))(i:Nat):Bool:=fB l i l.length
def cO(acc:List (List Int))(e:List Int):Nat→Nat
 | 0=>0
 | k+1=>if ap e (eAt acc k) then cO acc e k else k+1
def bx(acc:List (List Int))(e:List Int)(k:Nat):List (List Int):=acc.take k++e::acc.drop k
def io(acc:List (List Int))(e:List Int):List (List Int):=bx acc e (cO acc e acc.length)
def bH(l:List (List Int)):Nat→List (List Int)
 | 0=>[]
 | i+1=>if keepE l i then io (bH l i) (eAt l i) else bH l i
def ak(l:List (List Int)):List (List Int):=bH l l.length
theorem insE_len(acc:List (List Int))(e:List Int):(io acc e).length=acc.length+1:=by simp[io,bx];omega
theorem jp(l:List (List Int)):∀i,(bH l i).length≤i
 | 0=>by simp[bH]
 | i+1=>by
  have:=jp l i;simp only[bH];split
  ·rw[insE_len];omega
  ·omega
theorem insE_mem{acc:List (List Int)}{e x:List Int}(h:x∈io acc e):x=e∨x∈acc:=by
 simp only[io,bx,sx,rU]at h
 rcases h with h | h | h
 ·exact .inr (sD h)
 ·exact .inl h
 ·exact .inr (sh h)
theorem jo{l:List (List Int)} : ∀{i:Nat},i≤l.length→∀{x:List Int},x∈bH l i→x∈l
 | 0,_,x,h=>by simp[bH]at h
 | i+1,hi,x,h=>by
  simp only[bH]at h;split at h
  ·rcases insE_mem h with rfl | h
   ·rw[dO (by omega)];exact rQ _
   ·exact jo (by omega) h
  ·exact jo (by omega) h
theorem insAt_k(acc:List (List Int))(e:List Int)(k:Nat)(hk:k≤acc.length)(h:k<(bx acc e k).length):(bx acc e k)[k]=e:=by
 simp[bx,hk]
theorem insAt_p(acc:List (List Int))(e:List Int)(k:Nat)(hk:k≤acc.length)(h1:1≤k)(h:k-1<(bx acc e k).length):(bx acc e k)[k-1]=eAt acc (k-1):=by
 have:k-1<acc.length:=by omega
 have hl:k-1<(acc.take k).length:=by simp;omega
 simp only[bx];rw[List.getElem_append_left hl];simp[eAt,this]
theorem kQ(acc:List (List Int))(e:List Int)(k:Nat):(bx acc e k).length=acc.length+1:=by simp[bx];omega
theorem qC(acc:List (List Int))(e:List Int)(k:Nat)(hk:k≤acc.length)(h1:1≤k):((bx acc e k).set k (eAt acc (k-1))).set (k-1) e=bx acc e (k-1):=by
 obtain⟨m,rfl⟩:∃m,k=m+1:=⟨k-1,by omega⟩
 have hm:m<acc.length:=by omega
 have hl:(acc.take m).length=m:=by simp;omega
 have e1:acc.take (m+1)=acc.take m++[acc[m]]:=rV hm;have e2:acc.drop m=acc[m]::acc.drop (m+1):=rP hm
 have e3:eAt acc m=acc[m]:=by simp[eAt,hm]
 simp only[bx,tz,e1,e2,e3];generalize acc.take m=A at hl;generalize acc.drop (m+1)=D;subst hl;simp[List.set_append]
end
end Go.Proofs.YtjogkbekekdkjaaGreatDoor
section
namespace Go.Proofs.YtjogkbekekdkjaaGreatDoor
open Go Go.AM
end Go.Proofs.YtjogkbekekdkjaaGreatDoor
end
namespace Go.Proofs.YtjogkbekekdkjaaGreatDoor
section
open Go Go.AM Go.RowKit Go.Lib Go.Sort
theorem nanK64(x:Int)(W:World):Calls Tryz.prog 139 #[.int .i64 x] W fun e w'=>e = .returned (.bool false)∧w'=W:=by
 go_enter Tryz.func139,Tryz.ntmps139
 go_wp2
 go_ret
 exact⟨rfl,rfl⟩
theorem cmpK64(x y:Int)(W:World):Calls Tryz.prog 198 #[.int .i64 x,.int .i64 y] W fun e w'=>e = .returned (.int .i64 (cx x y))∧w'=W:=by
 have h1:=nanK64 x W;have h2:=nanK64 y W;by_cases c1:x<y
 ·rw[show cx x y = -1 by unfold cx;rw[if_pos c1]]
  go_enter Tryz.func198,Tryz.ntmps198
  go_wp2_with (go_at_call 139;first | (refine h1.mono ?_;rintro e w' ⟨rfl,rfl⟩) | (refine h2.mono ?_;rintro e w' ⟨rfl,rfl⟩))
  go_ret
  exact⟨rfl,rfl⟩
 ·by_cases c2:y<x
  ·rw[show cx x y=1 by unfold cx;rw[if_neg c1,if_pos c2]];have c3:x > y:=c2
   go_enter Tryz.func198,Tryz.ntmps198
   go_wp2_with (go_at_call 139;first | (refine h1.mono ?_;rintro e w' ⟨rfl,rfl⟩) | (refine h2.mono ?_;rintro e w' ⟨rfl,rfl⟩))
   go_ret
   exact⟨rfl,rfl⟩
  ·rw[show cx x y=0 by unfold cx;rw[if_neg c1,if_neg c2]];have c3:¬x > y:=c2
   go_enter Tryz.func198,Tryz.ntmps198
   go_wp2_with (go_at_call 139;first | (refine h1.mono ?_;rintro e w' ⟨rfl,rfl⟩) | (refine h2.mono ?_;rintro e w' ⟨rfl,rfl⟩))
   go_ret
   exact⟨rfl,rfl⟩
def AtI(w:World)(A:Option Addr)(l:List Int):Prop:=∀(i:Nat) (h:i<l.length),∃b o,A=some ⟨b,o,none⟩∧b<w.heap.size∧w.cell? ⟨b,o+i,none⟩=some (.int .i64 l[i])
theorem AtI.grown{w:World}{A:Option Addr}{l:List Int}(h:AtI w A l)(q:Nat)(os:Array Obj):AtI (grow (w.drewN q) os) A l:=fun i hi=>by
 obtain⟨b,o,h1,h2,h3⟩:=h i hi;refine⟨b,o,h1,?_,?_⟩
 ·rw[size_grow];exact sI h2 (Nat.le_add_right _ _)
 ·rw[cell?_grow _ _ _ (by exact h2)];exact h3
def GW(W w:World):Prop:=∃q os,w=grow (W.drewN q) os
theorem GW.refl(W:World):GW W W:=⟨0,#[],by rw[grow_empty];rfl⟩
theorem GW.at{W w:World}(h:GW W w){A:Option Addr}{l:List Int}(g:AtI W A l):AtI w A l:=by
 obtain⟨q,os,rfl⟩:=h;exact g.grown q os
theorem compareIK(a b:List Int)(A B:Option Addr)(ca cb:Nat)(W:World)(hA:AtI W A a)(hB:AtI W B b)(ha:a.length≤1000000)(hb:b.length≤1000000):
  Calls Tryz.prog 137 #[.slice A a.length ca,.slice B b.length cb] W fun e w'=>e = .returned (.int .i64 (eP a b))∧∃q os',w'=grow (W.drewN q) os':=by
 have hc:=fun x y W=>cmpK64 x y W
 obtain⟨r,hr⟩:∃r,r=eP a b:=⟨_,rfl⟩;rw[←hr]
 go_enter Tryz.func137,Tryz.ntmps137
 go_wp2
 go_loopg [11] a.length (fun g s11 wr=>∃(i:Nat),s11 = .int .i64 i∧i≤a.length∧i≤b.length∧a.length-i≤g∧Aside (GW W wr)∧eP (a.drop i) (b.drop i)=r)
 case atStart=>exact⟨0,rfl,by omega,by omega,by omega,GW.refl W,by rw[rk,rk,hr]⟩
 clear hr
 case round =>
  obtain⟨i,rfl,hi,hi2,hg,hwr,hx⟩:=hrel;by_cases h1:i<a.length
  ·obtain⟨ba,oa,hAe,hba,ca0⟩:=(hwr.out.at hA) i h1;subst hAe;by_cases h2:i<b.length
   ·obtain⟨bb,ob,hBe,hbb,cb0⟩:=(hwr.out.at hB) i h2;subst hBe;rw[rP h1,rP h2,eP]at hx;generalize a[i]=x at ca0 hx;generalize b[i]=y at cb0 hx;obtain⟨z,hz⟩:∃z,z=cx x y:=⟨_,rfl⟩
    have hcc:=fun W=>hc x y W
    rw[←hz]at hx hcc;clear hz hc hA hB;by_cases hq:z=0
    ·rw[if_pos hq]at hx;subst hq
     go_wp2_with (go_at_call 198;refine(hcc _).mono ?_;rintro e w' ⟨rfl,rfl⟩)
     go_roundg (a.length-(i+1))
     case measure=>omega
     case rel=>exact⟨i+1,by go_num,by omega,by omega,rd _,hwr.out,hx⟩
    ·rw[if_neg hq]at hx
     go_wp2_with (go_at_call 198;refine(hcc _).mono ?_;rintro e w' ⟨rfl,rfl⟩)
     go_ret
     exact⟨by first | rfl | (rw[hx];rfl),hwr.out⟩
   ·rw[rP h1,rR (show b.length≤i by omega),eP]at hx
    have h2':¬(i:Int)<b.length:=by omega
    go_wp2_with fail
    go_ret
    exact⟨by first | rfl | (rw[hx];rfl),hwr.out⟩
  ·rw[rR (show a.length≤i by omega)]at hx;by_cases h2:a.length<b.length
   ·rw[rP (show i<b.length by omega),eP]at hx
    go_wp2_with fail
    go_ret
    exact⟨by rw[hx];rfl,hwr.out⟩
   ·rw[rR (show b.length≤i by omega),eP]at hx
    go_wp2_with fail
    go_ret
    exact⟨by rw[hx];rfl,hwr.out⟩
theorem putRow_id{α:Type} [Inhabited α] (enc:α→Value)(w:World)(blk off:Nat)(d:Array α):putRow enc w blk off d=putRow id w blk off (d.map enc):=by
 unfold putRow
 refine mapBlock_congr _ _ _ _ fun c _ _ _=>?_
 apply Array.ext_getElem?;intro k;simp only[putCells,Array.getElem?_mapIdx,Array.size_map]
 cases c[k]? with
 | none=>rfl
 | some y =>
  simp only[sU];by_cases h:off≤k∧k<off+d.size
  ·rw[if_pos h,if_pos h]
   have hk:k-off<d.size:=by omega
   rw[getElem!_pos d (k-off) hk,getElem!_pos (d.map enc) (k-off) (by simpa using hk)];simp
  ·rw[if_neg h,if_neg h]
theorem row_turned{s:AM.St}(hg:AM.Good s){k e z:Nat}{xs ys:List V}(hk:s.H[k]?=some (.buf e z xs false))(hκ:s.κ k≠0)(F:Array Value)(n:Nat)(os:Array Obj)(hl:ys.length=xs.length)(hF:F.size=xs.length*z)
  (hy:∀y∈ys,y.cells.length=z∧∀c∈y.cells,c.one=true) (hr:∀i y j c,ys[i]?=some y→y.cells[j]?=some c→Rel s c F[i*z+j]!) (W:World) (hW:W=grow (putRow id (Go.Sort.ahead s.w n) (s.φ k) 0 F) os):
  AM.Good (s.setB W k (.buf e z ys false))∧AM.Step s (s.setB W k (.buf e z ys false)):=by
 have hlk:=lvB hk hκ;have hlt:=(hg.lt k hlk).1;obtain⟨vs,h1,h2,h3,h4,h5,h6⟩:=hg.blk k _ hk;have hb:=h1 hκ
 have ho:∀b,b<s.w.heap.size→b≠s.φ k→W.heap[b]?=s.w.heap[b]?:=fun b hb' hne=>by
  subst hW;rw[heap_grow_old _ _ (by rw[Go.Proofs.size_putRow];exact hb')];simp only[putRow,mapBlock,Go.Sort.ahead,Array.getElem?_modify,if_neg (Ne.symm hne)]
 have hbk:W.heap[s.φ k]?=some (.cells (putCells id 0 F vs) e (0,0)):=by
  subst hW;rw[heap_grow_old _ _ (by rw[Go.Proofs.size_putRow];exact hlt)];simp[putRow,mapBlock,Go.Sort.ahead,Array.getElem?_modify,hb,onCells]
 have hsz:s.w.heap.size≤W.heap.size:=by
  subst hW;rw[size_grow,Go.Proofs.size_putRow];exact Nat.le_add_right _ _
 have ha:B.alike (.buf e z xs false) (.buf e z ys false):=⟨rfl,rfl,hl.symm,rfl,rfl⟩
 have e1:W.os=s.w.os:=by subst hW;rfl
 have e2:W.tape=s.w.tape:=by subst hW;rfl
 have e3:W.output=s.w.output:=by subst hW;rfl
 clear hW;have hst:=cB (w:=W) hg hk hlk ha e1 e2 e3 hsz ho;refine⟨cJ hg hk hlk ha e1 e2 e3 hsz ho (fun _=>?_),hst⟩;refine⟨putCells id 0 F vs,fun _=>hbk,by simp only[putCells,Array.size_mapIdx];exact h2,by rw[hl];exact h3,h4,hy,fun i x j c u hi hj hu=>?_⟩;have hil:=aB hi;have hjl:=aB hj;rw[(hy x (rW hi)).1]at hjl
 have hlt2:i*z+j<F.size:=by
  rw[hF];have:=ro z (show i+1≤xs.length by omega);rw[sM,Nat.one_mul]at this;omega
 have hu2:u=F[i*z+j]!:=by
  simp only[putCells,Array.getElem?_mapIdx]at hu
  cases hv:vs[i*z+j]? with
  | none=>rw[hv]at hu;cases hu
  | some v =>
   rw[hv,sU,if_pos ⟨by omega,by omega⟩,uY]at hu;exact(Option.some.inj hu).symm
 rw[hu2];exact(hr i x j c hi hj).step hst
end
end Go.Proofs.YtjogkbekekdkjaaGreatDoor
