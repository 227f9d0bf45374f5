/- JQ8: own texts of this seat, joined and shortened by pack.py: C4, X6, X9, P4, Q9, P6, S3, LayL, S7, Q11, H25, P7, P2, P8, P9, P5, Y7, Z3, U8, Z4, X10, X11, Z6, P10. -/
import Derived.Test.YteijbpppalhihaaGreatJQ7
import Derived.Deep.LoopGhost
import Derived.Shelf.SlicesQ.Load
import Derived.Shelf.SlSortCmp.Kit1
import Derived.Shelf.SlSortCmp.NoneTotal
set_option linter.unusedVariables false
set_option linter.unusedSimpArgs false
set_option maxRecDepth 100000
set_option maxHeartbeats 64000000
namespace Go.Proofs.YteijbpppalhihaaGreat
section
open Go Go.AM
def xt0:bG:=fun f args H=>if Nat.beq f 40 then(if eqL (eqV 40) args clA0 then some (clR0,H) else ext f args H) else ext f args H
theorem xt0_ok:ao Tryz.prog xt0:=ar aj cl0 clQ0
def xt1:bG:=iz 43 clA1 clR1 xt0
theorem xt1_ok:ao Tryz.prog xt1:=cC xt0_ok cl1 clQ1 (by unfold clR1;constructor)
def xt2:bG:=mH 22 clA2 clR2 xt1
theorem xt2_ok:ao Tryz.prog xt2:=du xt1_ok cl2 clQ2
def xt3:bG:=iz 43 clA3 clR3 xt2
theorem xt3_ok:ao Tryz.prog xt3:=cC xt2_ok cl3 clQ3 (by unfold clR3;constructor)
def xt4:bG:=mH 22 clA4 clR4 xt3
theorem xt4_ok:ao Tryz.prog xt4:=du xt3_ok cl4 clQ4
def xt5:bG:=fun f args H=>if Nat.beq f 18 then(if eqL (eqV 40) args clA5 then some (clR5,H) else xt4 f args H) else xt4 f args H
theorem xt5_ok:ao Tryz.prog xt5:=ar xt4_ok cl5 clQ5
def xt6:bG:=iz 43 clA6 clR6 xt5
theorem xt6_ok:ao Tryz.prog xt6:=cC xt5_ok cl6 clQ6 (by unfold clR6;constructor)
def xt7:bG:=mH 66 clA7 clR7 xt6
theorem xt7_ok:ao Tryz.prog xt7:=du xt6_ok cl7 clQ7
def xt8:bG:=iz 44 clA8 clR8 xt7
theorem xt8_ok:ao Tryz.prog xt8:=cC xt7_ok cl8 clQ8 (by unfold clR8;constructor)
def xt10:bG:=fun f args H=>if Nat.beq f 82 then(if eqL (eqV 40) args clA10 then some (clR10,H) else xt8 f args H) else xt8 f args H
theorem xt10_ok:ao Tryz.prog xt10:=ar xt8_ok cl10 clQ10
def xt11:bG:=mH 66 clA11 clR11 xt10
theorem xt11_ok:ao Tryz.prog xt11:=du xt10_ok cl11 clQ11
def xt12:bG:=iz 44 clA12 clR12 xt11
theorem xt12_ok:ao Tryz.prog xt12:=cC xt11_ok cl12 clQ12 (by unfold clR12;constructor)
def xt14:bG:=fun f args H=>if Nat.beq f 82 then(if eqL (eqV 40) args clA14 then some (clR14,H) else xt12 f args H) else xt12 f args H
theorem xt14_ok:ao Tryz.prog xt14:=ar xt12_ok cl14 clQ14
def xt15:bG:=mH 66 clA15 clR15 xt14
theorem xt15_ok:ao Tryz.prog xt15:=du xt14_ok cl15 clQ15
def xt16:bG:=iz 44 clA16 clR16 xt15
theorem xt16_ok:ao Tryz.prog xt16:=cC xt15_ok cl16 clQ16 (by unfold clR16;constructor)
def xt18:bG:=fun f args H=>if Nat.beq f 82 then(if eqL (eqV 40) args clA18 then some (clR18,H) else xt16 f args H) else xt16 f args H
theorem xt18_ok:ao Tryz.prog xt18:=ar xt16_ok cl18 clQ18
def xt19:bG:=mH 66 clA19 clR19 xt18
theorem xt19_ok:ao Tryz.prog xt19:=du xt18_ok cl19 clQ19
def xt20:bG:=iz 44 clA20 clR20 xt19
theorem xt20_ok:ao Tryz.prog xt20:=cC xt19_ok cl20 clQ20 (by unfold clR20;constructor)
def xt22:bG:=fun f args H=>if Nat.beq f 82 then(if eqL (eqV 40) args clA22 then some (clR22,H) else xt20 f args H) else xt20 f args H
theorem xt22_ok:ao Tryz.prog xt22:=ar xt20_ok cl22 clQ22
def xt23:bG:=mH 66 clA23 clR23 xt22
theorem xt23_ok:ao Tryz.prog xt23:=du xt22_ok cl23 clQ23
def xt24:bG:=iz 44 clA24 clR24 xt23
theorem xt24_ok:ao Tryz.prog xt24:=cC xt23_ok cl24 clQ24 (by unfold clR24;constructor)
def xt28:bG:=iz 43 clA28 clR28 xt24
theorem xt28_ok:ao Tryz.prog xt28:=cC xt24_ok cl28 clQ28 (by unfold clR28;constructor)
def xt29:bG:=iz 44 clA29 clR29 xt28
theorem xt29_ok:ao Tryz.prog xt29:=cC xt28_ok cl29 clQ29 (by unfold clR29;constructor)
def xt31:bG:=iz 44 clA31 clR31 xt29
theorem xt31_ok:ao Tryz.prog xt31:=cC xt29_ok cl31 clQ31 (by unfold clR31;constructor)
def xt33:bG:=fun f args H=>if Nat.beq f 82 then(if eqL (eqV 40) args clA33 then some (clR33,H) else xt31 f args H) else xt31 f args H
theorem xt33_ok:ao Tryz.prog xt33:=ar xt31_ok cl33 clQ33
def xt34:bG:=mH 66 clA34 clR34 xt33
theorem xt34_ok:ao Tryz.prog xt34:=du xt33_ok cl34 clQ34
def xt35:bG:=iz 44 clA35 clR35 xt34
theorem xt35_ok:ao Tryz.prog xt35:=cC xt34_ok cl35 clQ35 (by unfold clR35;constructor)
def xt37:bG:=fun f args H=>if Nat.beq f 82 then(if eqL (eqV 40) args clA37 then some (clR37,H) else xt35 f args H) else xt35 f args H
theorem xt37_ok:ao Tryz.prog xt37:=ar xt35_ok cl37 clQ37
def xt38:bG:=mH 66 clA38 clR38 xt37
theorem xt38_ok:ao Tryz.prog xt38:=du xt37_ok cl38 clQ38
def xt39:bG:=iz 44 clA39 clR39 xt38
theorem xt39_ok:ao Tryz.prog xt39:=cC xt38_ok cl39 clQ39 (by unfold clR39;constructor)
def xt41:bG:=fun f args H=>if Nat.beq f 82 then(if eqL (eqV 40) args clA41 then some (clR41,H) else xt39 f args H) else xt39 f args H
theorem xt41_ok:ao Tryz.prog xt41:=ar xt39_ok cl41 clQ41
def xt42:bG:=mH 66 clA42 clR42 xt41
theorem xt42_ok:ao Tryz.prog xt42:=du xt41_ok cl42 clQ42
def xt43:bG:=iz 44 clA43 clR43 xt42
theorem xt43_ok:ao Tryz.prog xt43:=cC xt42_ok cl43 clQ43 (by unfold clR43;constructor)
def xt47:bG:=iz 43 clA47 clR47 xt43
theorem xt47_ok:ao Tryz.prog xt47:=cC xt43_ok cl47 clQ47 (by unfold clR47;constructor)
def xt50:bG:=mH 66 clA50 clR50 xt47
theorem xt50_ok:ao Tryz.prog xt50:=du xt47_ok cl50 clQ50
def xt51:bG:=iz 43 clA51 clR51 xt50
theorem xt51_ok:ao Tryz.prog xt51:=cC xt50_ok cl51 clQ51 (by unfold clR51;constructor)
def xt52:bG:=mH 22 clA52 clR52 xt51
theorem xt52_ok:ao Tryz.prog xt52:=du xt51_ok cl52 clQ52
def xt55:bG:=iz 44 clA55 clR55 xt52
theorem xt55_ok:ao Tryz.prog xt55:=cC xt52_ok cl55 clQ55 (by unfold clR55;constructor)
def clA9:List V:=[.agg [.str ⟨#[114]⟩,.lst 1 true [.str ⟨#[97]⟩,.str ⟨#[98]⟩],.lst 2 false [.agg [.int .i64 1,.lst 3 false [.agg [.int .i64 1,.int .i64 1,.str ⟨#[]⟩],.agg [.int .i64 1,.int .i64 1,.str ⟨#[]⟩]]],.agg [.int .i64 2,.lst 3 false [.agg [.int .i64 1,.int .i64 1,.str ⟨#[]⟩],.agg [.int .i64 1,.int .i64 2,.str ⟨#[]⟩]]]]],.lst 2 true [.agg [.int .u32 1,.int .u32 2]],.lst 2 false [.agg [.int .i64 1,.int .i64 0],.agg [.int .i64 1,.int .i64 1],.agg [.int .i64 2,.int .i64 0],.agg [.int .i64 2,.int .i64 1]]]
def clR9:V:=.bool true
theorem clP9:AM.Pure clR9:=by simp[clR9]
theorem clQ9:∀a∈clA9,AM.Pure a:=by simp[clA9]
theorem cl9:aR Tryz.prog 48 clA9 fun x=>x=clR9:=aH tok mixed ai xt55_ok (fuel:=1000) (d:=40) (by kernel_rfl) clP9
def xt9:bG:=fun f args H=>if Nat.beq f 48 then(if eqL (eqV 40) args clA9 then some (clR9,H) else xt55 f args H) else xt55 f args H
theorem xt9_ok:ao Tryz.prog xt9:=ar xt55_ok cl9 clQ9
def clA13:List V:=[.agg [.str ⟨#[114]⟩,.lst 1 true [.str ⟨#[97]⟩,.str ⟨#[98]⟩],.lst 2 false [.agg [.int .i64 1,.lst 3 false [.agg [.int .i64 1,.int .i64 1,.str ⟨#[]⟩],.agg [.int .i64 1,.int .i64 1,.str ⟨#[]⟩]]],.agg [.int .i64 2,.lst 3 false [.agg [.int .i64 1,.int .i64 1,.str ⟨#[]⟩],.agg [.int .i64 1,.int .i64 2,.str ⟨#[]⟩]]]]],.lst 2 true [.agg [.int .u32 1,.int .u32 2]],.lst 2 false [.agg [.int .i64 1,.int .i64 1],.agg [.int .i64 2,.int .i64 0],.agg [.int .i64 2,.int .i64 1]]]
def clR13:V:=.bool false
theorem clP13:AM.Pure clR13:=by simp[clR13]
theorem clQ13:∀a∈clA13,AM.Pure a:=by simp[clA13]
theorem cl13:aR Tryz.prog 48 clA13 fun x=>x=clR13:=aH tok mixed ai xt9_ok (fuel:=1000) (d:=40) (by kernel_rfl) clP13
def xt13:bG:=fun f args H=>if Nat.beq f 48 then(if eqL (eqV 40) args clA13 then some (clR13,H) else xt9 f args H) else xt9 f args H
theorem xt13_ok:ao Tryz.prog xt13:=ar xt9_ok cl13 clQ13
def clA17:List V:=[.agg [.str ⟨#[114]⟩,.lst 1 true [.str ⟨#[97]⟩,.str ⟨#[98]⟩],.lst 2 false [.agg [.int .i64 1,.lst 3 false [.agg [.int .i64 1,.int .i64 1,.str ⟨#[]⟩],.agg [.int .i64 1,.int .i64 1,.str ⟨#[]⟩]]],.agg [.int .i64 2,.lst 3 false [.agg [.int .i64 1,.int .i64 1,.str ⟨#[]⟩],.agg [.int .i64 1,.int .i64 2,.str ⟨#[]⟩]]]]],.lst 2 true [.agg [.int .u32 1,.int .u32 2]],.lst 2 false [.agg [.int .i64 1,.int .i64 0],.agg [.int .i64 2,.int .i64 0],.agg [.int .i64 2,.int .i64 1]]]
def clR17:V:=.bool false
theorem clP17:AM.Pure clR17:=by simp[clR17]
theorem clQ17:∀a∈clA17,AM.Pure a:=by simp[clA17]
theorem cl17:aR Tryz.prog 48 clA17 fun x=>x=clR17:=aH tok mixed ai xt13_ok (fuel:=1000) (d:=40) (by kernel_rfl) clP17
def xt17:bG:=fun f args H=>if Nat.beq f 48 then(if eqL (eqV 40) args clA17 then some (clR17,H) else xt13 f args H) else xt13 f args H
theorem xt17_ok:ao Tryz.prog xt17:=ar xt13_ok cl17 clQ17
def clA21:List V:=[.agg [.str ⟨#[114]⟩,.lst 1 true [.str ⟨#[97]⟩,.str ⟨#[98]⟩],.lst 2 false [.agg [.int .i64 1,.lst 3 false [.agg [.int .i64 1,.int .i64 1,.str ⟨#[]⟩],.agg [.int .i64 1,.int .i64 1,.str ⟨#[]⟩]]],.agg [.int .i64 2,.lst 3 false [.agg [.int .i64 1,.int .i64 1,.str ⟨#[]⟩],.agg [.int .i64 1,.int .i64 2,.str ⟨#[]⟩]]]]],.lst 2 true [.agg [.int .u32 1,.int .u32 2]],.lst 2 false [.agg [.int .i64 1,.int .i64 0],.agg [.int .i64 1,.int .i64 1],.agg [.int .i64 2,.int .i64 1]]]
def clR21:V:=.bool false
theorem clP21:AM.Pure clR21:=by simp[clR21]
theorem clQ21:∀a∈clA21,AM.Pure a:=by simp[clA21]
theorem cl21:aR Tryz.prog 48 clA21 fun x=>x=clR21:=aH tok mixed ai xt17_ok (fuel:=1000) (d:=40) (by kernel_rfl) clP21
def xt21:bG:=fun f args H=>if Nat.beq f 48 then(if eqL (eqV 40) args clA21 then some (clR21,H) else xt17 f args H) else xt17 f args H
theorem xt21_ok:ao Tryz.prog xt21:=ar xt17_ok cl21 clQ21
def clA25:List V:=[.agg [.str ⟨#[114]⟩,.lst 1 true [.str ⟨#[97]⟩,.str ⟨#[98]⟩],.lst 2 false [.agg [.int .i64 1,.lst 3 false [.agg [.int .i64 1,.int .i64 1,.str ⟨#[]⟩],.agg [.int .i64 1,.int .i64 1,.str ⟨#[]⟩]]],.agg [.int .i64 2,.lst 3 false [.agg [.int .i64 1,.int .i64 1,.str ⟨#[]⟩],.agg [.int .i64 1,.int .i64 2,.str ⟨#[]⟩]]]]],.lst 2 true [.agg [.int .u32 1,.int .u32 2]],.lst 2 false [.agg [.int .i64 1,.int .i64 0],.agg [.int .i64 1,.int .i64 1],.agg [.int .i64 2,.int .i64 0]]]
def clR25:V:=.bool false
theorem clP25:AM.Pure clR25:=by simp[clR25]
theorem clQ25:∀a∈clA25,AM.Pure a:=by simp[clA25]
theorem cl25:aR Tryz.prog 48 clA25 fun x=>x=clR25:=aH tok mixed ai xt21_ok (fuel:=1000) (d:=40) (by kernel_rfl) clP25
def xt25:bG:=fun f args H=>if Nat.beq f 48 then(if eqL (eqV 40) args clA25 then some (clR25,H) else xt21 f args H) else xt21 f args H
theorem xt25_ok:ao Tryz.prog xt25:=ar xt21_ok cl25 clQ25
def clA26:List V:=[.agg [.str ⟨#[114]⟩,.lst 1 true [.str ⟨#[97]⟩,.str ⟨#[98]⟩],.lst 2 false [.agg [.int .i64 1,.lst 3 false [.agg [.int .i64 1,.int .i64 1,.str ⟨#[]⟩],.agg [.int .i64 1,.int .i64 1,.str ⟨#[]⟩]]],.agg [.int .i64 2,.lst 3 false [.agg [.int .i64 1,.int .i64 1,.str ⟨#[]⟩],.agg [.int .i64 1,.int .i64 2,.str ⟨#[]⟩]]]]],.lst 2 true [.agg [.int .u32 1,.int .u32 2]],.lst 2 false [.agg [.int .i64 1,.int .i64 0],.agg [.int .i64 1,.int .i64 1],.agg [.int .i64 2,.int .i64 0],.agg [.int .i64 2,.int .i64 1]]]
def clR26:V:=.lst 2 false [.agg [.int .i64 1,.int .i64 0],.agg [.int .i64 1,.int .i64 1],.agg [.int .i64 2,.int .i64 0],.agg [.int .i64 2,.int .i64 1]]
theorem clP26:AM.Pure clR26:=by simp[clR26]
theorem clQ26:∀a∈clA26,AM.Pure a:=by simp[clA26]
theorem cl26:aR Tryz.prog 49 clA26 fun x=>x=clR26:=aH tok mixed ai xt25_ok (fuel:=1000) (d:=40) (by kernel_rfl) clP26
def xt26:bG:=fun f args H=>if Nat.beq f 49 then(if eqL (eqV 40) args clA26 then some (clR26,H) else xt25 f args H) else xt25 f args H
theorem xt26_ok:ao Tryz.prog xt26:=ar xt25_ok cl26 clQ26
def clA27:List V:=[.agg [.str ⟨#[114]⟩,.lst 1 true [.str ⟨#[97]⟩,.str ⟨#[98]⟩],.lst 2 false [.agg [.int .i64 1,.lst 3 false [.agg [.int .i64 1,.int .i64 1,.str ⟨#[]⟩],.agg [.int .i64 1,.int .i64 1,.str ⟨#[]⟩]]],.agg [.int .i64 2,.lst 3 false [.agg [.int .i64 1,.int .i64 1,.str ⟨#[]⟩],.agg [.int .i64 1,.int .i64 2,.str ⟨#[]⟩]]]]],.lst 2 true [.agg [.int .u32 1,.int .u32 2]],.lst 2 false [.agg [.int .i64 1,.int .i64 0],.agg [.int .i64 1,.int .i64 1],.agg [.int .i64 2,.int .i64 0],.agg [.int .i64 2,.int .i64 1]]]
def clR27:V:=.tup [.lst 2 false [.agg [.int .i64 1,.int .i64 0],.agg [.int .i64 1,.int .i64 1],.agg [.int .i64 2,.int .i64 0],.agg [.int .i64 2,.int .i64 1]],.int .i64 0]
theorem clP27:AM.Pure clR27:=by simp[clR27]
theorem clQ27:∀a∈clA27,AM.Pure a:=by simp[clA27]
theorem cl27:aR Tryz.prog 20 clA27 fun x=>x=clR27:=aH tok mixed ai xt26_ok (fuel:=1000) (d:=40) (by kernel_rfl) clP27
def xt27:bG:=fun f args H=>if Nat.beq f 20 then(if eqL (eqV 40) args clA27 then some (clR27,H) else xt26 f args H) else xt26 f args H
theorem xt27_ok:ao Tryz.prog xt27:=ar xt26_ok cl27 clQ27
def clA30:List V:=[.agg [.str ⟨#[114]⟩,.lst 1 true [.str ⟨#[97]⟩,.str ⟨#[98]⟩],.lst 2 false [.agg [.int .i64 1,.lst 3 false [.agg [.int .i64 1,.int .i64 1,.str ⟨#[]⟩],.agg [.int .i64 1,.int .i64 1,.str ⟨#[]⟩]]],.agg [.int .i64 2,.lst 3 false [.agg [.int .i64 1,.int .i64 1,.str ⟨#[]⟩],.agg [.int .i64 1,.int .i64 2,.str ⟨#[]⟩]]]]],.lst 2 true [.agg [.int .u32 0,.int .u32 2]],.lst 2 false [.agg [.int .i64 1,.int .i64 0],.agg [.int .i64 1,.int .i64 1],.agg [.int .i64 2,.int .i64 0],.agg [.int .i64 2,.int .i64 1]]]
def clR30:V:=.bool true
theorem clP30:AM.Pure clR30:=by simp[clR30]
theorem clQ30:∀a∈clA30,AM.Pure a:=by simp[clA30]
theorem cl30:aR Tryz.prog 48 clA30 fun x=>x=clR30:=aH tok mixed ai xt27_ok (fuel:=1000) (d:=40) (by kernel_rfl) clP30
def xt30:bG:=fun f args H=>if Nat.beq f 48 then(if eqL (eqV 40) args clA30 then some (clR30,H) else xt27 f args H) else xt27 f args H
theorem xt30_ok:ao Tryz.prog xt30:=ar xt27_ok cl30 clQ30
def clA32:List V:=[.agg [.str ⟨#[114]⟩,.lst 1 true [.str ⟨#[97]⟩,.str ⟨#[98]⟩],.lst 2 false [.agg [.int .i64 1,.lst 3 false [.agg [.int .i64 1,.int .i64 1,.str ⟨#[]⟩],.agg [.int .i64 1,.int .i64 1,.str ⟨#[]⟩]]],.agg [.int .i64 2,.lst 3 false [.agg [.int .i64 1,.int .i64 1,.str ⟨#[]⟩],.agg [.int .i64 1,.int .i64 2,.str ⟨#[]⟩]]]]],.lst 2 true [.agg [.int .u32 0,.int .u32 2]],.lst 2 false [.agg [.int .i64 1,.int .i64 1],.agg [.int .i64 2,.int .i64 0],.agg [.int .i64 2,.int .i64 1]]]
def clR32:V:=.bool true
theorem clP32:AM.Pure clR32:=by simp[clR32]
theorem clQ32:∀a∈clA32,AM.Pure a:=by simp[clA32]
theorem cl32:aR Tryz.prog 48 clA32 fun x=>x=clR32:=aH tok mixed ai xt30_ok (fuel:=1000) (d:=40) (by kernel_rfl) clP32
def xt32:bG:=fun f args H=>if Nat.beq f 48 then(if eqL (eqV 40) args clA32 then some (clR32,H) else xt30 f args H) else xt30 f args H
theorem xt32_ok:ao Tryz.prog xt32:=ar xt30_ok cl32 clQ32
def clA36:List V:=[.agg [.str ⟨#[114]⟩,.lst 1 true [.str ⟨#[97]⟩,.str ⟨#[98]⟩],.lst 2 false [.agg [.int .i64 1,.lst 3 false [.agg [.int .i64 1,.int .i64 1,.str ⟨#[]⟩],.agg [.int .i64 1,.int .i64 1,.str ⟨#[]⟩]]],.agg [.int .i64 2,.lst 3 false [.agg [.int .i64 1,.int .i64 1,.str ⟨#[]⟩],.agg [.int .i64 1,.int .i64 2,.str ⟨#[]⟩]]]]],.lst 2 true [.agg [.int .u32 0,.int .u32 2]],.lst 2 false [.agg [.int .i64 2,.int .i64 0],.agg [.int .i64 2,.int .i64 1]]]
def clR36:V:=.bool false
theorem clP36:AM.Pure clR36:=by simp[clR36]
theorem clQ36:∀a∈clA36,AM.Pure a:=by simp[clA36]
theorem cl36:aR Tryz.prog 48 clA36 fun x=>x=clR36:=aH tok mixed ai xt32_ok (fuel:=1000) (d:=40) (by kernel_rfl) clP36
def xt36:bG:=fun f args H=>if Nat.beq f 48 then(if eqL (eqV 40) args clA36 then some (clR36,H) else xt32 f args H) else xt32 f args H
theorem xt36_ok:ao Tryz.prog xt36:=ar xt32_ok cl36 clQ36
def clA40:List V:=[.agg [.str ⟨#[114]⟩,.lst 1 true [.str ⟨#[97]⟩,.str ⟨#[98]⟩],.lst 2 false [.agg [.int .i64 1,.lst 3 false [.agg [.int .i64 1,.int .i64 1,.str ⟨#[]⟩],.agg [.int .i64 1,.int .i64 1,.str ⟨#[]⟩]]],.agg [.int .i64 2,.lst 3 false [.agg [.int .i64 1,.int .i64 1,.str ⟨#[]⟩],.agg [.int .i64 1,.int .i64 2,.str ⟨#[]⟩]]]]],.lst 2 true [.agg [.int .u32 0,.int .u32 2]],.lst 2 false [.agg [.int .i64 1,.int .i64 1],.agg [.int .i64 2,.int .i64 1]]]
def clR40:V:=.bool true
theorem clP40:AM.Pure clR40:=by simp[clR40]
theorem clQ40:∀a∈clA40,AM.Pure a:=by simp[clA40]
theorem cl40:aR Tryz.prog 48 clA40 fun x=>x=clR40:=aH tok mixed ai xt36_ok (fuel:=1000) (d:=40) (by kernel_rfl) clP40
def xt40:bG:=fun f args H=>if Nat.beq f 48 then(if eqL (eqV 40) args clA40 then some (clR40,H) else xt36 f args H) else xt36 f args H
theorem xt40_ok:ao Tryz.prog xt40:=ar xt36_ok cl40 clQ40
def clA44:List V:=[.agg [.str ⟨#[114]⟩,.lst 1 true [.str ⟨#[97]⟩,.str ⟨#[98]⟩],.lst 2 false [.agg [.int .i64 1,.lst 3 false [.agg [.int .i64 1,.int .i64 1,.str ⟨#[]⟩],.agg [.int .i64 1,.int .i64 1,.str ⟨#[]⟩]]],.agg [.int .i64 2,.lst 3 false [.agg [.int .i64 1,.int .i64 1,.str ⟨#[]⟩],.agg [.int .i64 1,.int .i64 2,.str ⟨#[]⟩]]]]],.lst 2 true [.agg [.int .u32 0,.int .u32 2]],.lst 2 false [.agg [.int .i64 1,.int .i64 1]]]
def clR44:V:=.bool false
theorem clP44:AM.Pure clR44:=by simp[clR44]
theorem clQ44:∀a∈clA44,AM.Pure a:=by simp[clA44]
theorem cl44:aR Tryz.prog 48 clA44 fun x=>x=clR44:=aH tok mixed ai xt40_ok (fuel:=1000) (d:=40) (by kernel_rfl) clP44
def xt44:bG:=fun f args H=>if Nat.beq f 48 then(if eqL (eqV 40) args clA44 then some (clR44,H) else xt40 f args H) else xt40 f args H
theorem xt44_ok:ao Tryz.prog xt44:=ar xt40_ok cl44 clQ44
def clA45:List V:=[.agg [.str ⟨#[114]⟩,.lst 1 true [.str ⟨#[97]⟩,.str ⟨#[98]⟩],.lst 2 false [.agg [.int .i64 1,.lst 3 false [.agg [.int .i64 1,.int .i64 1,.str ⟨#[]⟩],.agg [.int .i64 1,.int .i64 1,.str ⟨#[]⟩]]],.agg [.int .i64 2,.lst 3 false [.agg [.int .i64 1,.int .i64 1,.str ⟨#[]⟩],.agg [.int .i64 1,.int .i64 2,.str ⟨#[]⟩]]]]],.lst 2 true [.agg [.int .u32 0,.int .u32 2]],.lst 2 false [.agg [.int .i64 1,.int .i64 0],.agg [.int .i64 1,.int .i64 1],.agg [.int .i64 2,.int .i64 0],.agg [.int .i64 2,.int .i64 1]]]
def clR45:V:=.lst 2 false [.agg [.int .i64 1,.int .i64 1],.agg [.int .i64 2,.int .i64 1]]
theorem clP45:AM.Pure clR45:=by simp[clR45]
theorem clQ45:∀a∈clA45,AM.Pure a:=by simp[clA45]
theorem cl45:aR Tryz.prog 49 clA45 fun x=>x=clR45:=aH tok mixed ai xt44_ok (fuel:=1000) (d:=40) (by kernel_rfl) clP45
def xt45:bG:=fun f args H=>if Nat.beq f 49 then(if eqL (eqV 40) args clA45 then some (clR45,H) else xt44 f args H) else xt44 f args H
theorem xt45_ok:ao Tryz.prog xt45:=ar xt44_ok cl45 clQ45
def clA46:List V:=[.agg [.str ⟨#[114]⟩,.lst 1 true [.str ⟨#[97]⟩,.str ⟨#[98]⟩],.lst 2 false [.agg [.int .i64 1,.lst 3 false [.agg [.int .i64 1,.int .i64 1,.str ⟨#[]⟩],.agg [.int .i64 1,.int .i64 1,.str ⟨#[]⟩]]],.agg [.int .i64 2,.lst 3 false [.agg [.int .i64 1,.int .i64 1,.str ⟨#[]⟩],.agg [.int .i64 1,.int .i64 2,.str ⟨#[]⟩]]]]],.lst 2 true [.agg [.int .u32 0,.int .u32 2]],.lst 2 false [.agg [.int .i64 1,.int .i64 0],.agg [.int .i64 1,.int .i64 1],.agg [.int .i64 2,.int .i64 0],.agg [.int .i64 2,.int .i64 1]]]
def clR46:V:=.tup [.lst 2 false [.agg [.int .i64 1,.int .i64 1],.agg [.int .i64 2,.int .i64 1]],.int .i64 0]
theorem clP46:AM.Pure clR46:=by simp[clR46]
theorem clQ46:∀a∈clA46,AM.Pure a:=by simp[clA46]
theorem cl46:aR Tryz.prog 20 clA46 fun x=>x=clR46:=aH tok mixed ai xt45_ok (fuel:=1000) (d:=40) (by kernel_rfl) clP46
def xt46:bG:=fun f args H=>if Nat.beq f 20 then(if eqL (eqV 40) args clA46 then some (clR46,H) else xt45 f args H) else xt45 f args H
theorem xt46_ok:ao Tryz.prog xt46:=ar xt45_ok cl46 clQ46
def clA48:List V:=[.nilS]
def clR48:V:=.tup [.agg [.nilS,.nilS],.nilS]
theorem clP48:AM.Pure clR48:=by simp[clR48]
theorem clQ48:∀a∈clA48,AM.Pure a:=by simp[clA48]
theorem cl48:aR Tryz.prog 63 clA48 fun x=>x=clR48:=aH tok mixed ai xt46_ok (fuel:=1000) (d:=40) (by kernel_rfl) clP48
def xt48:bG:=fun f args H=>if Nat.beq f 63 then(if eqL (eqV 40) args clA48 then some (clR48,H) else xt46 f args H) else xt46 f args H
theorem xt48_ok:ao Tryz.prog xt48:=ar xt46_ok cl48 clQ48
def clA49:List V:=[.agg [.nilS,.nilS],.int .i64 20000]
def clR49:V:=.tup [.nilS,.int .i64 0,.int .i64 0]
theorem clP49:AM.Pure clR49:=by simp[clR49]
theorem clQ49:∀a∈clA49,AM.Pure a:=by simp[clA49]
theorem cl49:aR Tryz.prog 64 clA49 fun x=>x=clR49:=aH tok mixed ai xt48_ok (fuel:=1000) (d:=40) (by kernel_rfl) clP49
def xt49:bG:=fun f args H=>if Nat.beq f 64 then(if eqL (eqV 40) args clA49 then some (clR49,H) else xt48 f args H) else xt48 f args H
theorem xt49_ok:ao Tryz.prog xt49:=ar xt48_ok cl49 clQ49
def clA53:List V:=[.agg [.str ⟨#[114]⟩,.lst 1 true [.str ⟨#[97]⟩,.str ⟨#[98]⟩],.lst 2 false [.agg [.int .i64 1,.lst 3 false [.agg [.int .i64 1,.int .i64 1,.str ⟨#[]⟩],.agg [.int .i64 1,.int .i64 1,.str ⟨#[]⟩]]],.agg [.int .i64 2,.lst 3 false [.agg [.int .i64 1,.int .i64 1,.str ⟨#[]⟩],.agg [.int .i64 1,.int .i64 2,.str ⟨#[]⟩]]]]],.lst 2 true [.agg [.int .u32 1,.int .u32 2]],.int .i64 20000]
def clR53:V:=.tup [.agg [.lst 2 false [.agg [.int .i64 2,.int .i64 1]],.str ⟨#[114]⟩,.lst 1 false [.str ⟨#[97]⟩,.str ⟨#[98]⟩],.lst 2 false [.agg [.int .i64 1,.lst 3 false [.agg [.int .i64 1,.int .i64 1,.str ⟨#[]⟩],.agg [.int .i64 1,.int .i64 1,.str ⟨#[]⟩]]],.agg [.int .i64 2,.lst 3 false [.agg [.int .i64 1,.int .i64 1,.str ⟨#[]⟩],.agg [.int .i64 1,.int .i64 1,.str ⟨#[]⟩]]]],.lst 1 false [.lst 2 false [.agg [.int .i64 1,.int .i64 0],.agg [.int .i64 1,.int .i64 1],.agg [.int .i64 2,.int .i64 0],.agg [.int .i64 2,.int .i64 1]]],.lst 2 true [.agg [.int .i64 (-1),.lst 2 false [.agg [.int .i64 0,.int .i64 1]]]]],.int .i64 0]
theorem clP53:AM.Pure clR53:=by simp[clR53]
theorem clQ53:∀a∈clA53,AM.Pure a:=by simp[clA53]
theorem cl53:aR Tryz.prog 28 clA53 fun x=>x=clR53:=aH tok mixed ai xt49_ok (fuel:=1000) (d:=40) (by kernel_rfl) clP53
def xt53:bG:=fun f args H=>if Nat.beq f 28 then(if eqL (eqV 40) args clA53 then some (clR53,H) else xt49 f args H) else xt49 f args H
theorem xt53_ok:ao Tryz.prog xt53:=ar xt49_ok cl53 clQ53
def clA54:List V:=[.lst 1 false [.lst 2 false [.agg [.int .i64 1,.int .i64 0],.agg [.int .i64 1,.int .i64 1],.agg [.int .i64 2,.int .i64 0],.agg [.int .i64 2,.int .i64 1]]]]
def clR54:V:=.tup [.agg [.lst 1 false [.int .i64 1,.int .i64 1,.int .i64 1,.int .i64 1],.lst 1 false [.lst 1 false [.int .i64 0,.int .i64 1,.int .i64 2,.int .i64 3]]],.lst 2 false [.agg [.int .i64 1,.int .i64 0],.agg [.int .i64 1,.int .i64 1],.agg [.int .i64 2,.int .i64 0],.agg [.int .i64 2,.int .i64 1]]]
theorem clP54:AM.Pure clR54:=by simp[clR54]
theorem clQ54:∀a∈clA54,AM.Pure a:=by simp[clA54]
theorem cl54:aR Tryz.prog 63 clA54 fun x=>x=clR54:=aH tok mixed ai xt53_ok (fuel:=1000) (d:=40) (by kernel_rfl) clP54
def xt54:bG:=fun f args H=>if Nat.beq f 63 then(if eqL (eqV 40) args clA54 then some (clR54,H) else xt53 f args H) else xt53 f args H
theorem xt54_ok:ao Tryz.prog xt54:=ar xt53_ok cl54 clQ54
def clA56:List V:=[.agg [.lst 1 false [.int .i64 1,.int .i64 1,.int .i64 1,.int .i64 1],.lst 1 false [.lst 1 false [.int .i64 0,.int .i64 1,.int .i64 2,.int .i64 3]]],.int .i64 1,.lst 2 true [.agg [.int .i64 (-1),.lst 2 false [.agg [.int .i64 0,.int .i64 1]]]]]
def clR56:V:=.bool true
theorem clP56:AM.Pure clR56:=by simp[clR56]
theorem clQ56:∀a∈clA56,AM.Pure a:=by simp[clA56]
theorem cl56:aR Tryz.prog 76 clA56 fun x=>x=clR56:=aH tok mixed ai xt54_ok (fuel:=1000) (d:=40) (by kernel_rfl) clP56
def xt56:bG:=fun f args H=>if Nat.beq f 76 then(if eqL (eqV 40) args clA56 then some (clR56,H) else xt54 f args H) else xt54 f args H
theorem xt56_ok:ao Tryz.prog xt56:=ar xt54_ok cl56 clQ56
def clA57:List V:=[.agg [.str ⟨#[114]⟩,.lst 1 true [.str ⟨#[97]⟩,.str ⟨#[98]⟩],.lst 2 false [.agg [.int .i64 1,.lst 3 false [.agg [.int .i64 1,.int .i64 1,.str ⟨#[]⟩],.agg [.int .i64 1,.int .i64 1,.str ⟨#[]⟩]]],.agg [.int .i64 2,.lst 3 false [.agg [.int .i64 1,.int .i64 1,.str ⟨#[]⟩],.agg [.int .i64 1,.int .i64 2,.str ⟨#[]⟩]]]]],.lst 2 true [.agg [.int .u32 1,.int .u32 2]],.agg [.lst 2 false [.agg [.int .i64 2,.int .i64 1]],.str ⟨#[114]⟩,.lst 1 false [.str ⟨#[97]⟩,.str ⟨#[98]⟩],.lst 2 false [.agg [.int .i64 1,.lst 3 false [.agg [.int .i64 1,.int .i64 1,.str ⟨#[]⟩],.agg [.int .i64 1,.int .i64 1,.str ⟨#[]⟩]]],.agg [.int .i64 2,.lst 3 false [.agg [.int .i64 1,.int .i64 1,.str ⟨#[]⟩],.agg [.int .i64 1,.int .i64 1,.str ⟨#[]⟩]]]],.lst 1 false [.lst 2 false [.agg [.int .i64 1,.int .i64 0],.agg [.int .i64 1,.int .i64 1],.agg [.int .i64 2,.int .i64 0],.agg [.int .i64 2,.int .i64 1]]],.lst 2 true [.agg [.int .i64 (-1),.lst 2 false [.agg [.int .i64 0,.int .i64 1]]]]]]
def clR57:V:=.bool true
theorem clP57:AM.Pure clR57:=by simp[clR57]
theorem clQ57:∀a∈clA57,AM.Pure a:=by simp[clA57]
theorem cl57:aR Tryz.prog 30 clA57 fun x=>x=clR57:=aH tok mixed ai xt56_ok (fuel:=1000) (d:=40) (by kernel_rfl) clP57
def xt57:bG:=fun f args H=>if Nat.beq f 30 then(if eqL (eqV 40) args clA57 then some (clR57,H) else xt56 f args H) else xt56 f args H
theorem xt57_ok:ao Tryz.prog xt57:=ar xt56_ok cl57 clQ57
theorem awake_con:aR Tryz.prog 12 [] fun x=>x = .bool true:=aH tok mixed ai xt57_ok (fuel:=1000) (d:=40) (by kernel_rfl) (.bool _)
end
end Go.Proofs.YteijbpppalhihaaGreat
section
namespace Go.Proofs.YteijbpppalhihaaGreat
open Go Go.AM
end Go.Proofs.YteijbpppalhihaaGreat
end
namespace Go.Proofs.YteijbpppalhihaaGreat
section
open Go Go.AM
theorem jo{t:Tb}{fds:List Fd}{l:List Cr}(h:¬IsCoreP t fds l):coreB t fds l=false:=by
 cases hb:coreB t fds l
 ·rfl
 ·exact absurd (nN.1 hb) h
theorem gc(t:Tb)(ff gg df cf:Bool)(fds:List Fd)(l:List Cr)(hv:TbV t)(hF:bU fds)(hl:l.length≤1000000):
  aR Tryz.prog 35 [aG ff gg t,LF df fds,LC cf l] fun r=>r = .bool (lX t fds l):=by
 have c1:=others_r t ff gg cf l hv.rows (by have:=hv.attrs;omega) hl;have c2:=enough_r t ff gg df false fds (bg t l) hv hF (fy t hv l);rw[necB_eq];simp only[aG,LS,LR,LC,LF]at c1 c2;refine aC (aD tok Tryz.func35 rfl rfl ?_);refine wx ?_;simp -implicitDefEqProofs -dsimp[Tryz.f35,List.replicate,aG,LS,LR,LC,LF];refine .inr ⟨aI (by kernel_rfl),?_⟩;refine ae _ (aF (c1) (by simp)) ?_;simp -implicitDefEqProofs -dsimp[];refine ae _ (aF (c2) (by simp)) ?_;simp -implicitDefEqProofs -dsimp[]
noncomputable def inC(cores:List (List Cr))(c:Cr):Bool:=cores.any fun K=>eA K c
noncomputable def vtx(cores:List (List Cr))(A:List Cr)(i:Nat):List Cr:=(A.take i).filter (inC cores)
theorem vtx_succ(cores:List (List Cr))(A:List Cr)(i:Nat)(h:i<A.length):vtx cores A (i+1)=vtx cores A i++if inC cores A[i]=true then [A[i]] else []:=by
 unfold vtx;rw[List.take_succ_eq_append_getElem h,List.filter_append];congr 1;by_cases hh:inC cores A[i]=true<;>simp[hh]
theorem vtx_len(cores:List (List Cr))(A:List Cr)(i:Nat):(vtx cores A i).length≤i:=by
 unfold vtx;exact Nat.le_trans (List.length_filter_le _ _) (by simp;omega)
theorem vtx_not{cores:List (List Cr)}{A:List Cr}(hA:A.Nodup){i:Nat}(h:i<A.length):A[i]∉vtx cores A i:=by
 unfold vtx;intro hm;have h1:=(List.mem_filter.1 hm).1;obtain⟨j,hj,he⟩:=List.mem_iff_getElem.1 h1;rw[List.length_take]at hj;rw[List.getElem_take]at he
 have h5:j<A.length:=by omega
 exact List.pairwise_iff_getElem.1 hA j i h5 h (by omega) he
theorem any_take{α:Type}(p:α→Bool)(l:List α)(k:Nat)(h:k<l.length):(l.take (k+1)).any p=((l.take k).any p||p l[k]):=by
 rw[List.take_succ_eq_append_getElem h,List.any_append];simp
noncomputable def vt2(cores:List (List Cr))(V:List Cr)(c:Cr)(k:Nat):List Cr:=V++if(cores.take k).any (fun K=>eA K c)=true then [c] else []
theorem vt2_same{cores:List (List Cr)}{V:List Cr}{c:Cr}{k:Nat}(h:k<cores.length)(hq:eA cores[k] c=false∨(cores.take k).any (fun K=>eA K c)=true):vt2 cores V c (k+1)=vt2 cores V c k:=by
 unfold vt2;rw[any_take _ _ _ h]
 rcases hq with hq | hq
 ·rw[hq,Bool.or_false]
 ·rw[hq,Bool.true_or]
theorem vt2_new{cores:List (List Cr)}{V:List Cr}{c:Cr}{k:Nat}(h:k<cores.length)(hq:eA cores[k] c=true)(ha:(cores.take k).any (fun K=>eA K c)=false):vt2 cores V c k=V∧vt2 cores V c (k+1)=V++[c]:=by
 unfold vt2;rw[any_take _ _ _ h,hq,ha];simp
theorem vt2_has{cores:List (List Cr)}{V:List Cr}{c:Cr}{k:Nat}(hc:c∉V):eA (vt2 cores V c k) c=(cores.take k).any (fun K=>eA K c):=by
 unfold vt2
 cases h:(cores.take k).any (fun K=>eA K c) with
 | true=>exact bW.2 (by simp)
 | false =>
  cases h2:eA (V++if false=true then [c] else []) c
  ·rfl
  ·have:=bW.1 h2;simp at this;exact absurd this hc
noncomputable def edR(vs K:List Cr)(x:Nat):List Nat:=(List.range x).filter fun v=>eA K (dg vs v)
theorem edR_yes{vs K:List Cr}{x:Nat}(h:eA K (dg vs x)=true):edR vs K (x+1)=edR vs K x++[x]:=by
 unfold edR;rw[List.range_succ,List.filter_append];simp[h]
theorem edR_no{vs K:List Cr}{x:Nat}(h:eA K (dg vs x)=false):edR vs K (x+1)=edR vs K x:=by
 unfold edR;rw[List.range_succ,List.filter_append];simp[h]
theorem edR_len(vs K:List Cr)(x:Nat):(edR vs K x).length≤x:=by
 unfold edR;exact Nat.le_trans (List.length_filter_le _ _) (by simp)
noncomputable def oI(t:Tb)(fds:List Fd)(u:Upd):Bool :=
 if dO t fds u.cells≠0 then false else if difB t u.tab u.cells=false then false else if satB u.tab fds=false then false else if corB t fds u.cores=false then false else
  fJ (aX (vtx u.cores (ak t) (ak t).length).length) (u.cores.map fun K=>edR (vtx u.cores (ak t) (ak t).length) K (vtx u.cores (ak t) (ak t).length).length) u.cells.length u.prf
theorem expC{H:List B}{k L e:Nat}{fz:Bool}{l:List Cr}(hk:H[k]?=some (.buf e 2 (crL l) fz))(hL:L=l.length):Exp H (.buf k 0 L L) (.lst 2 false (l.map aN)):=by
 subst hL;exact exp_pre (zs:=[]) (vs:=l) hk (by simp) rfl rfl
theorem eqSt_comm(a b:ByteArray):ej a b=ej b a:=by unfold ej;exact Bool.beq_comm
theorem eqSs_comm(a b:List ByteArray):jk a b=jk b a:=by
 unfold jk;by_cases h:a.length=b.length
 ·rw[decide_eq_true h,decide_eq_true h.symm,h];congr 1;refine congrArg _ ?_;funext i;exact eqSt_comm _ _
 ·rw[decide_eq_false h,decide_eq_false (fun e=>h e.symm),Bool.false_and,Bool.false_and]
theorem idsB_comm:∀a b:List Rw,kV a b=kV b a
 | [],[]=>rfl
 | [],_::_=>rfl
 | _::_,[]=>rfl
 | x::a,y::b=>by
  rw[kV,kV,idsB_comm a b];congr 1;by_cases h:x.id=y.id
  ·rw[decide_eq_true h,decide_eq_true h.symm]
  ·rw[decide_eq_false h,decide_eq_false (fun e=>h e.symm)]
theorem form_same{t u:Tb}{l:List Cr}(hu:validT u=0):(gR t u&&(bT t u (t.rows.length*t.attrs.length)).all (eA l))=difB t u l:=by
 unfold difB gR;rw[decide_eq_true hu,Bool.true_and,eqSt_comm t.name,eqSs_comm t.attrs,idsB_comm t.rows,Bool.and_assoc,Bool.and_assoc];congr 1;congr 1;by_cases h:u.rows.length=t.rows.length
 ·rw[decide_eq_true h,Bool.true_and,Bool.eq_iff_iff,Bool.and_eq_true,idsB_at _ _ h,dfB_iff,List.all_eq_true];constructor
  ·rintro⟨h1,h2⟩;refine⟨fun i hi hi2=>h1 i hi hi2,fun x hx=>?_⟩;by_cases hq:fI (bC u x) (bC t x)=0
   ·exact .inl hq
   ·refine .inr (bW.1 (h2 _ ?_));unfold bT;refine List.mem_map.2 ⟨x,List.mem_filter.2 ⟨List.mem_range.2 hx,?_⟩,rfl⟩
    have:¬fI (bC t x) (bC u x)=0:=fun e=>hq ((dF _ _).2 ((dF _ _).1 e).symm)
    simpa using this
  ·rintro⟨h1,h2⟩;refine⟨fun i hi hi2=>h1 i hi hi2,fun c hc=>?_⟩;unfold bT at hc;obtain⟨x,hx,rfl⟩:=List.mem_map.1 hc;rw[List.mem_filter,List.mem_range]at hx
   rcases h2 x hx.1 with h3 | h3
   ·have h4:fI (bC t x) (bC u x)=0:=(dF _ _).2 ((dF _ _).1 h3).symm;have:=hx.2;rw[h4]at this;cases this
   ·exact bW.2 h3
 ·rw[decide_eq_false h,Bool.false_and,ln _ _ h,Bool.false_and]
end
end Go.Proofs.YteijbpppalhihaaGreat
namespace Go.Proofs.YteijbpppalhihaaGreat
section
open Go Go.AM Go.Sort
theorem lM(l:List Cr):(fu l).Pairwise fun x y=>¬cLt y x:=by
 have:=List.pairwise_mergeSort (le:=fun x y=>!(Go.Proofs.ltOf bp) y x) (fun a b c h g=>by
  simp only[Bool.not_eq_true',Go.Proofs.ltOf,decide_eq_false_iff_not]at *
  exact ny g h) (fun a b=>by
  simp only[Bool.or_eq_true,Bool.not_eq_true',Go.Proofs.ltOf,decide_eq_false_iff_not];by_cases h:bp b a<0
  ·right;intro g;exact cmpC_irr a (jE g h)
  ·exact .inl h) l
 refine this.imp fun {x y} h=>?_
 rw[←eR];simpa[Go.Proofs.ltOf] using h
theorem cpF_ok{l:List Cr}(hs:l.Pairwise fun x y=>¬cLt y x):∀p,1≤p→p≤l.length→(∃L,cpF l p=L++[cAt l (p-1)])∧aY (cpF l p)∧∀x,x∈cpF l p↔x∈l.take p
 | 0,h,_=>by omega
 | 1,_,hl=>by
  refine⟨⟨[],rfl⟩,by simp[cpF,aY],fun x=>?_⟩;rw[iG (k:=0) (by omega)];simp[cpF]
 | p+2,_,hl=>by
  obtain⟨⟨L,h1⟩,h2,h3⟩:=cpF_ok hs (p+1) (by omega) (by omega);rw[Nat.add_sub_cancel]at h1;rw[cpF,show p+2-1=p+1 by omega]
  have hmem:∀x,x∈l.take (p+2)↔x∈l.take (p+1)∨x=cAt l (p+1):=fun x=>by
   rw[iG (k:=p+1) (by omega)];simp
  split
  ·rename_i he;refine⟨⟨L,by rw[h1,he]⟩,h2,fun x=>?_⟩;rw[hmem,h3];constructor
   ·exact .inl
   ·rintro(h | h)
    ·exact h
    ·rw[h,he,←h3,h1];simp
  ·rename_i he;refine⟨⟨_,rfl⟩,?_,fun x=>?_⟩
   ·have hlt:cLt (cAt l p) (cAt l (p+1)):=by
     have:=List.pairwise_iff_getElem.1 hs p (p+1) (by omega) (by omega) (by omega);rw[←jF (show p<l.length by omega),←jF (show p+1<l.length by omega)]at this
     rcases cLt_tri (cAt l p) (cAt l (p+1)) with h | h | h
     ·exact h
     ·exact absurd h.symm he
     ·exact absurd h this
    refine List.pairwise_append.2 ⟨h2,by simp,fun a ha b hb=>?_⟩;rw[List.mem_singleton]at hb;subst hb;rw[h1]at ha h2
    rcases List.mem_append.1 ha with h | h
    ·exact ek ((List.pairwise_append.1 h2).2.2 a h _ (by simp)) hlt
    ·rw[List.mem_singleton]at h;subst h;exact hlt
   ·rw[hmem,List.mem_append,h3,List.mem_singleton]
theorem compC_ok{l:List Cr}(hs:l.Pairwise fun x y=>¬cLt y x):aY (eW l)∧∀x,x∈eW l↔x∈l:=by
 unfold eW;by_cases h:l=[]
 ·subst h;simp[cpF,aY]
 ·obtain⟨_,h1,h2⟩:=cpF_ok hs l.length (List.length_pos_iff.2 h) (Nat.le_refl _);rw[List.take_length]at h2;exact⟨h1,h2⟩
theorem dw(cores:List (List Cr)):aY (vsC cores):=(compC_ok (lM _)).1
theorem oN(cores:List (List Cr))(c:Cr):c∈vsC cores↔∃K∈cores,c∈K:=by
 unfold vsC;rw[(compC_ok (lM _)).2,(pC _).mem_iff,List.mem_flatten]
theorem vtx_vs{t:Tb}{cores:List (List Cr)}(hv:TbV t)(hc:∀K∈cores,∀c∈K,c∈ak t):vtx cores (ak t) (ak t).length=vsC cores:=by
 refine gV _ _ (List.Pairwise.filter _ (by rw[List.take_length];exact hv.sorted)) (dw _) (fun x=>?_);unfold vtx;rw[List.take_length,List.mem_filter,oN];unfold inC;rw[List.any_eq_true];constructor
 ·rintro⟨_,K,hK,h⟩;exact⟨K,hK,bW.1 h⟩
 ·rintro⟨K,hK,h⟩;exact⟨hc K hK x h,K,hK,bW.2 h⟩
theorem edR_edge(vs K:List Cr):edR vs K vs.length=cP vs K:=by
 unfold edR cP;exact congrArg (fun p=>List.filter p _) (funext fun v=>by rw[Bool.eq_iff_iff,bW,decide_eq_true_iff])
theorem sat_okq{u:Tb}{fds:List Fd}(hv:TbV u)(hF:bU fds):satB u fds=okB (aS u fds []):=by
 rw[Bool.eq_iff_iff,lN,fQ,pE hv.len hv.attrs hF];constructor
 ·intro hs;refine⟨fun y=>.inl (bC u y),fun y v hy hk=>by rw[(ee hk).1],fun d hd i k hi hk hl a ha hb=>?_⟩;exact congrArg Sum.inl (hs d hd i k hi hk (fun b hb1 hb2=>Sum.inl.inj (hl b hb1 hb2)) a ha hb)
 ·rintro⟨σ,h⟩ d hd i k hi hk hl a ha hb
  have hfix:∀y,y<u.rows.length*u.attrs.length→σ y = .inl (bC u y):=fun y hy=>h.fix y _ hy (ef (by simp))
  have:=h.dep d hd i k hi hk (fun b hb1 hb2=>by
   show σ (i*u.attrs.length+b)=σ (k*u.attrs.length+b);rw[hfix _ (aq hi hb1),hfix _ (aq (by omega) hb1)]
   exact congrArg Sum.inl (hl b hb1 hb2)) a ha hb
  have h2:σ (i*u.attrs.length+a)=σ (k*u.attrs.length+a):=this;rw[hfix _ (aq hi ha),hfix _ (aq (by omega) ha)]at h2;exact Sum.inl.inj h2
theorem corB_in{t:Tb}{fds:List Fd}{cores:List (List Cr)}(hv:TbV t)(h:corB t fds cores=true):∀K∈cores,aY K∧(∀c∈K,c∈ak t)∧lX t fds K=true:=fun K hK=>by
 obtain⟨j,hj,rfl⟩:=List.mem_iff_getElem.1 hK;have:=List.all_eq_true.1 h j (by simpa using hj);unfold nO at this;rw[show cores.getD j []=cores[j] by simp[hj]]at this;simp only[Bool.and_eq_true]at this;obtain⟨_,_,_,h4,h5⟩:=kO hv.ok (of_decide_eq_true this.1.1);exact⟨h4,fun c hc=>(qX hv).1 (List.all_eq_true.1 h5 c hc),this.1.2⟩
theorem chk_same{t:Tb}{fds:List Fd}{u:Upd}(hv:TbV t)(hF:bU fds)(hu:UpdOk u):mb t fds u=oI t fds u:=by
 unfold mb oI;by_cases h1:dO t fds u.cells=0
 ·have hs:=(kO hv.ok h1).2.2.2.1
  have hbs:∀x,bsF u.cells x=eA u.cells x:=fun x=>by rw[Bool.eq_iff_iff,mf hs,bW]
  have hda:(bT t u.tab (t.rows.length*t.attrs.length)).all (bsF u.cells)=(bT t u.tab (t.rows.length*t.attrs.length)).all (eA u.cells):=by congr 1;funext x;exact hbs x
  rw[hda];clear hda hbs;by_cases h2:validT u.tab=0
  ·have huv:=jS hu.tab h2;have hfs:=form_same (t:=t) (l:=u.cells) h2;rw[sat_okq huv hF];rw[h1,h2];generalize hd:(bT t u.tab (t.rows.length*t.attrs.length)).all (eA u.cells)=dA at hfs
   cases h3:gR t u.tab with
   | false =>
    rw[h3,Bool.false_and]at hfs;rw[←hfs];simp
   | true =>
    rw[h3,Bool.true_and]at hfs;rw[hfs]
    cases h4:difB t u.tab u.cells with
    | false=>simp
    | true =>
     cases h5:corB t fds u.cores with
     | false=>simp
     | true =>
      cases h6:okB (aS u.tab fds []) with
      | false=>simp
      | true =>
       have hin:=corB_in hv h5
       have hp:prfB u=fJ (aX (vtx u.cores (ak t) (ak t).length).length) (u.cores.map fun K=>edR (vtx u.cores (ak t) (ak t).length) K (vtx u.cores (ak t) (ak t).length).length) u.cells.length u.prf:=by
        unfold prfB;rw[vtx_vs hv (fun K hK=>(hin K hK).2.1)];congr 1
        refine List.map_congr_left fun K hK=>?_
        rw[edR_edge,edge_map (dw _) (hin K hK).1 (fun c hc=>(oN _ _).2 ⟨K,hK,hc⟩)]
       rw[←hp];simp
  ·have:difB t u.tab u.cells=false:=by unfold difB;rw[decide_eq_false h2,Bool.false_and]
   rw[this,h1];simp[h2]
 ·simp[h1]
end
end Go.Proofs.YteijbpppalhihaaGreat
namespace Go.Proofs.YteijbpppalhihaaGreat
section
open Go Go.AM Go.RowKit Go.Lib Go.Sort
def AtC(w:World)(A:Option Addr)(l:List Cr):Prop:=∀(i:Nat) (h:i<l.length),∃b o,A=some ⟨b,o,none⟩∧b<w.heap.size∧w.cell? ⟨b,o+i*2,none⟩=some (.int .i64 l[i].id)∧w.cell? ⟨b,o+i*2+1,none⟩=some (.int .i64 l[i].attr)
theorem AtC.grown{w:World}{A:Option Addr}{l:List Cr}(h:AtC w A l)(q:Nat)(os:Array Obj):AtC (grow (w.drewN q) os) A l:=fun i hi=>by
 obtain⟨b,o,h1,h2,h3,h4⟩:=h i hi;refine⟨b,o,h1,?_,?_,?_⟩
 ·rw[size_grow];exact Nat.lt_of_lt_of_le h2 (Nat.le_add_right _ _)
 ·rw[cell?_grow _ _ _ (by exact h2)];exact h3
 ·rw[cell?_grow _ _ _ (by exact h2)];exact h4
def GW(W w:World):Prop:=∃q os,w=grow (W.drewN q) os
theorem GW.refl(W:World):GW W W:=⟨0,#[],by rw[grow_empty];rfl⟩
theorem GW.more{W w w':World}(h:GW W w)(g:∃q os,w'=grow (w.drewN q) os):GW W w':=by
 obtain⟨q,os,rfl⟩:=h;obtain⟨q2,os2,rfl⟩:=g
 exact⟨q+q2,os++os2,by
  rw[←grow_grow]
  simp only[grow,World.drewN,Nat.add_assoc]⟩
theorem GW.alloc{W w:World}(h:GW W w)(o:Obj):GW W (w.alloc o):=h.more ⟨0,#[o],by rw[alloc_eq_grow];rfl⟩
theorem GW.at{W w:World}(h:GW W w){A:Option Addr}{l:List Cr}(g:AtC W A l):AtC w A l:=by
 obtain⟨q,os,rfl⟩:=h;exact g.grown q os
theorem cmpFuncK(a b:List Cr)(A B:Option Addr)(ca cb:Nat)(W:World)(hA:AtC W A a)(hB:AtC W B b)(ha:a.length≤1000000)(hb:b.length≤1000000):
  Calls Tryz.prog 111 #[.slice A a.length ca,.slice B b.length cb,.func (.func 75) #[] #[]] W fun e w'=>e = .returned (.int .i64 (au a b))∧∃q os',w'=grow (W.drewN q) os':=by
 have hc:=fun x y W=>compareK x y W
 obtain⟨r,hr⟩:∃r,r=au a b:=⟨_,rfl⟩;rw[←hr]
 go_enter Tryz.func111,Tryz.ntmps111
 go_wp2
 go_loopg [13] a.length (fun g s13 wr=>∃(i:Nat),s13 = .int .i64 i∧i≤a.length∧i≤b.length∧a.length-i≤g∧Aside (GW W wr)∧au (a.drop i) (b.drop i)=r)
 case atStart=>exact⟨0,rfl,by omega,by omega,by omega,GW.refl W,by rw[List.drop_zero,List.drop_zero,hr]⟩
 clear hr
 case round =>
  obtain⟨i,rfl,hi,hi2,hg,hwr,hx⟩:=hrel;by_cases h1:i<a.length
  ·obtain⟨ba,oa,hAe,hba,ca0,ca1⟩:=(hwr.out.at hA) i h1;subst hAe;by_cases h2:i<b.length
   ·obtain⟨bb,ob,hBe,hbb,cb0,cb1⟩:=(hwr.out.at hB) i h2;subst hBe
    have cc0:∀o,(wr.alloc o).cell? ⟨bb,ob+i*2,none⟩=some (.int .i64 b[i].id):=fun o=>by rw[alloc_eq_grow,cell?_grow _ _ _ (by exact hbb)];exact cb0
    have cc1:∀o,(wr.alloc o).cell? ⟨bb,ob+i*2+1,none⟩=some (.int .i64 b[i].attr):=fun o=>by rw[alloc_eq_grow,cell?_grow _ _ _ (by exact hbb)];exact cb1
    rw[List.drop_eq_getElem_cons h1,List.drop_eq_getElem_cons h2,au]at hx;generalize a[i]=x at ca0 ca1 hx;generalize b[i]=y at cb0 cb1 cc0 cc1 hx;obtain⟨z,hz⟩:∃z,z=bp x y:=⟨_,rfl⟩
    have hcc:=fun W=>hc x y W
    rw[←hz]at hx hcc;clear hz hc hA hB;by_cases hq:z=0
    ·rw[if_pos hq]at hx;subst hq
     go_wp2_with (go_at_call 75;refine(hcc _).mono ?_;rintro e w' ⟨rfl,q,os',rfl⟩)
     go_roundg (a.length-(i+1))
     case measure=>omega
     case rel=>exact⟨i+1,by go_num,by omega,by omega,Nat.le_refl _,((hwr.out.alloc _).alloc _).more ⟨q,os',rfl⟩,hx⟩
    ·rw[if_neg hq]at hx
     go_wp2_with (go_at_call 75;refine(hcc _).mono ?_;rintro e w' ⟨rfl,q,os',rfl⟩)
     go_ret
     exact⟨by first | rfl | (rw[hx];rfl),((hwr.out.alloc _).alloc _).more ⟨q,os',rfl⟩⟩
   ·rw[List.drop_eq_getElem_cons h1,List.drop_of_length_le (show b.length≤i by omega),au]at hx
    have h2':¬(i:Int)<b.length:=by omega
    go_wp2_with fail
    go_ret
    exact⟨by first | rfl | (rw[hx];rfl),hwr.out.alloc _⟩
  ·rw[List.drop_of_length_le (show a.length≤i by omega)]at hx;by_cases h2:a.length<b.length
   ·rw[List.drop_eq_getElem_cons (show i<b.length by omega),au]at hx
    go_wp2_with fail
    go_ret
    exact⟨by rw[hx];rfl,hwr.out⟩
   ·rw[List.drop_of_length_le (show b.length≤i by omega),au]at hx
    go_wp2_with fail
    go_ret
    exact⟨by rw[hx];rfl,hwr.out⟩
theorem listsK(a b:List Cr)(A B:Option Addr)(ca cb:Nat)(W:World)(hA:AtC W A a)(hB:AtC W B b)(ha:a.length≤1000000)(hb:b.length≤1000000):
  Calls Tryz.prog 68 #[.slice A a.length ca,.slice B b.length cb] W fun e w'=>e = .returned (.int .i64 (au a b))∧∃q os',w'=grow (W.drewN q) os':=by
 have hc:=cmpFuncK a b A B ca cb W hA hB ha hb;clear hA hB
 go_enter Tryz.func68,Tryz.ntmps68
 go_wp2_with (go_at_call 111;refine hc.mono ?_;rintro e w' ⟨rfl,q,os',rfl⟩)
 go_ret
 exact⟨rfl,q,os',rfl⟩
end
end Go.Proofs.YteijbpppalhihaaGreat
namespace Go.Proofs.YteijbpppalhihaaGreat
section
open Go Go.Shelf
def renL:Go.Shelf.Ren:=⟨fun n=>match n with
  | 6=>67
  | 14=>109
  | 15=>110
  | 20=>150
  | 21=>151
  | 22=>152
  | 23=>153
  | 24=>154
  | 25=>155
  | 26=>156
  | 27=>157
  | 28=>158
  | 29=>159
  | 46=>192
  | 47=>193
  | 48=>194
  | 49=>195
  | 50=>196
  | 57=>216
  | n=>n,fun n=>match n with
  | 0=>0
  | 3=>3
  | 4=>4
  | 5=>5
  | 9=>9
  | 22=>71
  | 24=>37
  | 25=>137
  | 39=>186
  | 45=>222
  | 46=>223
  | 50=>141
  | 53=>43
  | 55=>230
  | 66=>251
  | 70=>255
  | 76=>269
  | 77=>270
  | n=>n,fun n=>n⟩
theorem layL:Go.Proofs.SlLaysF0.n6 Tryz.prog renL:={
 mixed:=by kernel_rfl
 f6:=⟨Tryz.f67.name,by decide,Tryz.func67.trans (congrArg some (by kernel_rfl))⟩
 f14:=⟨Tryz.f109.name,by decide,Tryz.func109.trans (congrArg some (by kernel_rfl))⟩
 f15:=Tryz.func110.trans (congrArg some (by kernel_rfl))
 f20:=⟨Tryz.f150.name,by decide,Tryz.func150.trans (congrArg some (by kernel_rfl))⟩
 f21:=⟨Tryz.f151.name,by decide,Tryz.func151.trans (congrArg some (by kernel_rfl))⟩
 f22:=⟨Tryz.f152.name,by decide,Tryz.func152.trans (congrArg some (by kernel_rfl))⟩
 f23:=⟨Tryz.f153.name,by decide,Tryz.func153.trans (congrArg some (by kernel_rfl))⟩
 f24:=⟨Tryz.f154.name,by decide,Tryz.func154.trans (congrArg some (by kernel_rfl))⟩
 f25:=⟨Tryz.f155.name,by decide,Tryz.func155.trans (congrArg some (by kernel_rfl))⟩
 f26:=⟨Tryz.f156.name,by decide,Tryz.func156.trans (congrArg some (by kernel_rfl))⟩
 f27:=⟨Tryz.f157.name,by decide,Tryz.func157.trans (congrArg some (by kernel_rfl))⟩
 f28:=Tryz.func158.trans (congrArg some (by kernel_rfl))
 f29:=Tryz.func159.trans (congrArg some (by kernel_rfl))
 f46:=⟨Tryz.f192.name,by decide,Tryz.func192.trans (congrArg some (by kernel_rfl))⟩
 f47:=Tryz.func193.trans (congrArg some (by kernel_rfl))
 f48:=Tryz.func194.trans (congrArg some (by kernel_rfl))
 f49:=⟨Tryz.f195.name,by decide,Tryz.func195.trans (congrArg some (by kernel_rfl))⟩
 f50:=⟨Tryz.f196.name,by decide,Tryz.func196.trans (congrArg some (by kernel_rfl))⟩
 f57:=⟨Tryz.f216.name,by decide,Tryz.func216.trans (congrArg some (by kernel_rfl))⟩
 t0:=Tryz.underlying0
 a0:=Tryz.isAgg0
 z0:=Tryz.sizeOf0
 v0:=Tryz.zeroValue0
 t3:=Tryz.underlying3
 a3:=Tryz.isAgg3
 z3:=Tryz.sizeOf3
 v3:=Tryz.zeroValue3
 t4:=Tryz.underlying4
 a4:=Tryz.isAgg4
 z4:=Tryz.sizeOf4
 v4:=Tryz.zeroValue4
 t5:=Tryz.underlying5
 a5:=Tryz.isAgg5
 z5:=Tryz.sizeOf5
 v5:=Tryz.zeroValue5
 t9:=Tryz.underlying9
 a9:=Tryz.isAgg9
 z9:=Tryz.sizeOf9
 v9:=Tryz.zeroValue9
 t22:=Tryz.underlying71
 a22:=Tryz.isAgg71
 z22:=Tryz.sizeOf71
 v22:=Tryz.zeroValue71
 t25:=Tryz.underlying137
 a25:=Tryz.isAgg137
 z25:=Tryz.sizeOf137
 v25:=Tryz.zeroValue137
 t39:=Tryz.underlying186
 a39:=Tryz.isAgg186
 z39:=Tryz.sizeOf186
 v39:=Tryz.zeroValue186
 t45:=Tryz.underlying222
 a45:=Tryz.isAgg222
 z45:=Tryz.sizeOf222
 v45:=Tryz.zeroValue222
 t46:=Tryz.underlying223
 a46:=Tryz.isAgg223
 z46:=Tryz.sizeOf223
 v46:=Tryz.zeroValue223
 t50:=Tryz.underlying141
 a50:=Tryz.isAgg141
 z50:=Tryz.sizeOf141
 v50:=Tryz.zeroValue141
 t53:=Tryz.underlying43
 a53:=Tryz.isAgg43
 z53:=Tryz.sizeOf43
 v53:=Tryz.zeroValue43
 t55:=Tryz.underlying230
 a55:=Tryz.isAgg230
 z55:=Tryz.sizeOf230
 v55:=Tryz.zeroValue230
 t66:=Tryz.underlying251
 a66:=Tryz.isAgg251
 z66:=Tryz.sizeOf251
 v66:=Tryz.zeroValue251
 t70:=Tryz.underlying255
 a70:=Tryz.isAgg255
 z70:=Tryz.sizeOf255
 v70:=Tryz.zeroValue255
 t76:=Tryz.underlying269
 a76:=Tryz.isAgg269
 z76:=Tryz.sizeOf269
 v76:=Tryz.zeroValue269
 t77:=Tryz.underlying270
 a77:=Tryz.isAgg270
 z77:=Tryz.sizeOf270
 v77:=Tryz.zeroValue270 }
end
end Go.Proofs.YteijbpppalhihaaGreat
namespace Go.Proofs.YteijbpppalhihaaGreat
section
open Go Go.AM Go.RowKit Go.Lib Go.Sort
def cV(ls:List (List Cr)):List (List Cr):=ls.mergeSort fun x y=>!(ltOf au) y x
theorem jT(l:List (List Cr)):(cV l).Perm l:=List.mergeSort_perm _ _
theorem sortLs_len(l:List (List Cr)):(cV l).length=l.length:=(jT l).length_eq
theorem swoL:SWO (ltOf au) where
 irrefl x:=by unfold ltOf;exact decide_eq_false (nU x)
 trans x y z h g:=by unfold ltOf at *;exact decide_eq_true (gh _ _ _ (of_decide_eq_true h) (of_decide_eq_true g))
 ntrans x y z h g:=by unfold ltOf at *;exact decide_eq_false (mY (of_decide_eq_false h) (of_decide_eq_false g))
theorem totL(x y:List Cr)(h:ltOf au x y=false)(g:ltOf au y x=false):x=y:=by
 unfold ltOf at *
 rcases kM x y with h1 | h1 | h1
 ·exact absurd h1 (of_decide_eq_false h)
 ·exact h1
 ·exact absurd h1 (of_decide_eq_false g)
theorem sortLs_sorted(l:List (List Cr)):(cV l).Pairwise fun x y=>¬au y x<0:=by
 have:=List.pairwise_mergeSort (le:=fun x y=>!(ltOf au) y x) (fun a b c h g=>by
  simp only[Bool.not_eq_true',ltOf,decide_eq_false_iff_not]at *
  exact mY g h) (fun a b=>by
  simp only[Bool.or_eq_true,Bool.not_eq_true',ltOf,decide_eq_false_iff_not];by_cases h:au b a<0
  ·right;intro g;exact nU a (gh _ _ _ g h)
  ·exact .inl h) l
 refine this.imp fun {x y} h=>?_
 simpa[ltOf] using h
def AL(s:AM.St)(f:Bool):Type:={ p:List Cr×Value // p.1.length≤1000000∧Rel s (LC f p.1) p.2 }
instance (s:AM.St) (f:Bool):Inhabited (AL s f):=⟨⟨([],.slice none 0 0),by simp,by
 refine .lst 2 f [] none 0 0 0 (fun _ _=>undef) (Nat.le_refl _) (fun _=>rfl) (fun h=>by simp at h) (by simp) (by simp) (by simp)⟩⟩
theorem AL.sl{s:AM.St}{f:Bool}{k e z:Nat}{xs:List V}(hk:s.H[k]?=some (.buf e z xs false))(hκ:s.κ k≠0)(a:AL s f):∃A cap,a.1.2 = .slice A a.1.1.length cap ∧
  ∀(i:Nat) (h:i<a.1.1.length),∃b o,A=some ⟨b,o,none⟩∧b≠s.φ k∧b<s.w.heap.size∧s.w.cell? ⟨b,o+i*2,none⟩=some (.int .i64 a.1.1[i].id)∧s.w.cell? ⟨b,o+i*2+1,none⟩=some (.int .i64 a.1.1[i].attr):=by
 obtain⟨⟨l,u⟩,hl,hr⟩:=a;simp only at hl hr ⊢;simp only[LC]at hr;generalize hxs:l.map aN=ys at hr
 have hyl:ys.length=l.length:=by rw[←hxs];simp
 cases hr with
 | lst _ _ _ A cap b off uf hcap hfull hA hz hcell hrel =>
  refine⟨A,cap,by rw[hyl],fun i hi=>?_⟩;obtain⟨rfl,hP⟩:=hA (by omega)
  have hy:ys[i]?=some (aN l[i]):=by rw[←hxs];simp[hi]
  refine⟨b,off,rfl,?_,hP.1,?_,?_⟩
  ·intro he;obtain⟨e',z',xs',hb⟩:=hP.2.2 k (lvB hk hκ) he.symm;rw[hk]at hb;cases hb
  ·have h1:=hcell i _ 0 _ hy rfl;have h2:=hrel i _ 0 _ hy rfl;rw[Nat.add_zero]at h1;generalize uf i 0=u at h1 h2;cases h2;exact h1
  ·have h1:=hcell i _ 1 _ hy rfl;have h2:=hrel i _ 1 _ hy rfl;generalize uf i 1=u at h1 h2;cases h2;exact h1
def jM{s:AM.St}{f:Bool}(a:AL s f):Value:=a.1.2
def cfAL{s:AM.St}{f:Bool}(a b:AL s f):Int:=au a.1.1 b.1.1
theorem permIn_map{α β:Type} [Inhabited α] [Inhabited β] (f:α→β){n:Nat}{d d':Array α}(hn:d.size=n)(h:PermIn 0 n d d'):PermIn 0 n (d.map f) (d'.map f):=by
 obtain⟨h1,h2,h3⟩:=h;refine⟨by simp[h1],fun i hi=>?_,?_⟩
 ·rw[getElem!_neg _ _ (by simp;omega),getElem!_neg _ _ (by simp;omega)]
 ·have e1:(d.map f).extract 0 n=(d.extract 0 n).map f:=by simp
  have e2:(d'.map f).extract 0 n=(d'.extract 0 n).map f:=by simp
  rw[e1,e2,Array.toList_map,Array.toList_map];exact h3.map f
theorem sortedIn_map{α β:Type} [Inhabited α] [Inhabited β] (f:α→β){lt:β→β→Bool}{n:Nat}{d:Array α}(hn:d.size=n)(h:SortedIn (fun x y=>lt (f x) (f y)) 0 n d):SortedIn lt 0 n (d.map f):=fun i j h1 h2 h3=>by
 have:=h i j h1 h2 h3
 have hj:j<d.size:=by omega
 have hi:i<d.size:=by omega
 rw[getElem!_pos d j hj,getElem!_pos d i hi]at this;rw[getElem!_pos (d.map f) j (by simpa using hj),getElem!_pos (d.map f) i (by simpa using hi),Array.getElem_map,Array.getElem_map];exact this
theorem layL1:SlLaysF.n6 Tryz.prog renL:={ layL with a24:=Tryz.isAgg37,z24:=Tryz.sizeOf37 }
def LB(H:List B)(k e:Nat)(f:Bool)(ls:List (List Cr)):List B:=H.set k (.buf e 1 (ls.map (LC f)) false)
theorem sortLists_u{H:List B}{k e:Nat}{f:Bool}(ls:List (List Cr))(n:Nat)(hn:ls.length=n)(hk:k<H.length)(hl:n<4611686018427387904)(hls:∀l∈ls,l.length≤1000000):
  bA Tryz.prog 67 [.buf k 0 n n,.fn 68 []] (LB H k e f ls) fun r H'=>r = .tup []∧H'=LB H k e f (cV ls):=by
 subst hn
 have hH:(LB H k e f ls)[k]?=some (.buf e 1 (ls.map (LC f)) false):=by unfold LB;rw[List.getElem?_set_self hk]
 rw[show LB H k e f (cV ls)=(LB H k e f ls).set k (.buf e 1 ((cV ls).map (LC f)) false) by unfold LB;rw[List.set_set]];generalize LB H k e f ls=H at hH;refine⟨⟨Tryz.f67,Tryz.func67,rfl,rfl⟩,fun s vals hA hg hsz hrel=>?_⟩;obtain⟨rfl,hZ⟩:=hA
 obtain⟨u0,u1,rfl⟩:∃u0 u1,vals = #[u0,u1]:=by
  obtain⟨l⟩:=vals
  match l,hsz with
  | [a,b],_=>exact⟨a,b,rfl⟩
 have r0:=hrel 0 _ u0 rfl rfl;have r1:=hrel 1 _ u1 rfl rfl
 cases r1 with
 | fn _ _ us hul _ =>
 obtain rfl:us = #[]:=Array.eq_empty_of_size_eq_zero (by simpa using hul)
 cases r0 with
 | buf _ _ _ _ e2 z2 xs2 fz2 A n c hk2 ht hh =>
 rw[hH]at hk2;cases hk2;obtain⟨hA,rfl,hcap,_⟩:=hh (by simp);rw[Nat.zero_add]at hcap;by_cases h0:ls=[]
 ·subst h0;refine(AnyF.slices_SortFunc_none layL A c _ s.w).mono ?_;rintro e' w' ⟨rfl,rfl⟩;refine⟨_,s,.tup [],rfl,rfl,hg,Step.refl s,.tup [] #[] rfl (by simp),rfl,?_⟩;rw[show cV []=[] by simp[cV]];apply List.ext_getElem?;intro i;rw[List.getElem?_set];split
  ·rename_i h;subst h;rw[if_pos (aE hH),hH]
  ·rfl
 ·have hpos:0<ls.length:=List.length_pos_iff.2 h0;obtain⟨vs,g2,g3,g4,g5,g6,g7⟩:=hg.blk k _ hH;rw[List.length_map]at g4
  have hκ:s.κ k≠0:=by omega
  have hA:=hA hκ;subst hA;have g2:=g2 hκ;have hlt:=(hg.lt k (lvB hH hκ)).1
  have hel:∀i (h:i<ls.length),∃u,vs[i]?=some u∧Rel s (LC f ls[i]) u:=fun i h=>by
   obtain⟨u,hu⟩:∃u,vs[i]?=some u:=⟨_,Array.getElem?_eq_getElem (show i<vs.size by omega)⟩;exact⟨u,hu,g7 i _ 0 _ u (show(ls.map (LC f))[i]?=some (LC f ls[i]) by simp[h]) rfl (by simpa using hu)⟩
  obtain⟨d,hds,hdl,hdv⟩:∃d:Array (AL s f),d.size=ls.length∧d.map (fun a=>a.1.1)=ls.toArray∧∀i,i<ls.length→vs[i]?=some (jM d[i]!):=by
   have hx:∀i:Fin ls.length,∃a:AL s f,a.1.1=ls[i]∧vs[i.1]?=some (jM a):=fun i=>by
    obtain⟨u,hu,hr⟩:=hel i.1 i.2;exact⟨⟨(ls[i],u),hls _ (List.getElem_mem _),hr⟩,rfl,hu⟩
   refine⟨Array.ofFn fun i=>Classical.choose (hx i),by simp,?_,fun i hi=>?_⟩
   ·apply Array.ext
    ·simp
    ·intro i h1 h2;simp only[Array.getElem_map,Array.getElem_ofFn];have:=(Classical.choose_spec (hx ⟨i,by simpa using h2⟩)).1;rw[this];simp
   ·rw[getElem!_pos _ _ (by simpa using hi),Array.getElem_ofFn];exact(Classical.choose_spec (hx ⟨i,hi⟩)).2
  have hOne:OneCell (jM (s:=s) (f:=f)):=fun a=>by
   obtain⟨A,cap,h1,_⟩:=AL.sl hH hκ a;unfold jM;rw[h1];rfl
  have hHo:Holds (jM:AL s f→Value) s.w (s.φ k) (0*1) d:=by
   intro t ht;rw[hds]at ht;refine⟨?_,?_⟩
   ·simp only[World.cell?,g2,Nat.zero_mul,Nat.zero_add];simpa using hdv t ht
   ·simp[World.frozen?,g2]
  have hcmp:CmpLays1 Tryz.prog 68 #[] (jM:AL s f→Value) cfAL (s.φ k) (0*1) d.size s.w:=fun m os dk _ x y=>by
   obtain⟨A,ca,a1,a2⟩:=AL.sl hH hκ x;obtain⟨B,cb,b1,b2⟩:=AL.sl hH hκ y
   have hat:∀(A:Option Addr) (l:List Cr),(∀(i:Nat) (h:i<l.length),∃b o,A=some ⟨b,o,none⟩∧b≠s.φ k∧b<s.w.heap.size∧s.w.cell? ⟨b,o+i*2,none⟩=some (.int .i64 l[i].id)∧s.w.cell? ⟨b,o+i*2+1,none⟩=some (.int .i64 l[i].attr))→
     AtC (sortWorld (jM:AL s f→Value) s.w (s.φ k) (0*1) m dk os) A l:=fun A l h i hi=>by
    obtain⟨b,o,h1,h2,h3,h4,h5⟩:=h i hi
    have hc:∀t,(sortWorld (jM:AL s f→Value) s.w (s.φ k) (0*1) m dk os).cell? ⟨b,t,none⟩=s.w.cell? ⟨b,t,none⟩:=fun t=>by
     unfold sortWorld;rw[cell?_grow _ _ _ (by rw[Go.Proofs.size_putRow];exact h3),cell?_putRow_other _ _ _ _ _ _ (.inl h2)];rfl
    refine⟨b,o,h1,?_,by rw[hc];exact h4,by rw[hc];exact h5⟩;unfold sortWorld;rw[size_grow,Go.Proofs.size_putRow];exact Nat.lt_of_lt_of_le h3 (Nat.le_add_right _ _)
   have:=listsK x.1.1 y.1.1 A B ca cb (sortWorld (jM:AL s f→Value) s.w (s.φ k) (0*1) m dk os) (hat A _ a2) (hat B _ b2) x.2.1 y.2.1;rw[←a1,←b1]at this;exact this
  have hs:=Any.slices_SortFunc layL1 (jM:AL s f→Value) hOne cfAL ⟨fun x=>swoL.irrefl x.1.1,fun x y z=>swoL.trans x.1.1 y.1.1 z.1.1,fun x y z=>swoL.ntrans x.1.1 y.1.1 z.1.1⟩ 68 #[] (s.φ k) (0*1) c d s.w
   (fun args w=>rfl) hcmp hHo hlt (by rw[hds];simpa using hl)
  rw[hds]at hs;refine hs.mono ?_;rintro e' w' ⟨rfl,d',n,os,hp,hso,hw⟩;have hp2:=permIn_map (fun a:AL s f=>a.1.1) hds hp
  have hd':d'.size=ls.length:=by rw[hp.1];exact hds
  have hso2:=sortedIn_map (lt:=ltOf au) (fun a:AL s f=>a.1.1) hd' hso;rw[hdl]at hp2;have hu:=sorted_unique_holds swoL totL ls.toArray (d'.map fun a=>a.1.1) (by simpa using hp2) (by simpa using hso2)
  have hys:(cV ls).map (LC f)=d'.toList.map fun a=>LC f a.1.1:=by
   have:cV ls=(d'.map fun a=>a.1.1).toList:=by rw[hu];simp[cV]
   rw[this,Array.toList_map,List.map_map];rfl
  have hw2:w'=grow (putRow id (Go.Sort.ahead s.w n) (s.φ k) 0 (d'.map jM)) os:=by
   rw[hw,Nat.zero_mul];unfold sortWorld;rw[putRow_id]
  rw[hys]
  obtain⟨f1,f2⟩:=pJ (ys:=d'.toList.map fun a=>LC f a.1.1) hg hH hκ (d'.map jM) n os (by simp[hd']) (by simp[hd'])
   (fun y hy=>by obtain⟨c,_,rfl⟩:=List.mem_map.1 hy;exact⟨rfl,by simp[LC,V.cells,V.one]⟩) (fun i y j dd hy hd=>by
    have hil:=aE hy;simp only[List.length_map,Array.length_toList]at hil
    have hj:j=0:=by
     rw[List.getElem?_map,Array.getElem?_toList,Array.getElem?_eq_getElem hil,Option.map_some]at hy;cases hy;have:=aE hd;simp[LC,V.cells]at this;omega
    subst hj;rw[List.getElem?_map,Array.getElem?_toList,Array.getElem?_eq_getElem hil,Option.map_some]at hy;cases hy
    have:dd=LC f d'[i].1.1:=by simpa[LC,V.cells] using hd.symm
    subst this;rw[Nat.mul_one,Nat.add_zero,getElem!_pos _ _ (by simpa using hil),Array.getElem_map]
    exact d'[i].2.2) w' hw2
  exact⟨_,_,.tup [],rfl,rfl,f1,f2,.tup [] #[] rfl (by simp),rfl,rfl⟩
end
end Go.Proofs.YteijbpppalhihaaGreat
namespace Go.Proofs.YteijbpppalhihaaGreat
section
open Go Go.AM
section
open Classical in
noncomputable def numL(t:Tb)(K:List Cr):Nat:=bnF (fun x=>decide (bP t x∈K)) (t.rows.length*t.attrs.length)
theorem numL_inj{t:Tb}{K K':List Cr}(h1:aY K)(h2:aY K')(c1:∀c∈K,c∈ak t)(c2:∀c∈K',c∈ak t)(he:numL t K=numL t K'):K=K':=by
 classical
 have hb:∀x,x<t.rows.length*t.attrs.length→(bP t x∈K↔bP t x∈K'):=fun x hx=>by
  have e1:=mh (fun x=>decide (bP t x∈K)) _ x hx;have e2:=mh (fun x=>decide (bP t x∈K')) _ x hx;unfold numL at he;rw[he]at e1;have e3:=e1.symm.trans e2;simp only[decide_eq_decide]at e3;exact e3
 refine gV K K' h1 h2 (fun c=>⟨fun hc=>?_,fun hc=>?_⟩)
 ·obtain⟨x,hx,rfl⟩:=List.mem_map.1 (c1 c hc);exact(hb x (List.mem_range.1 hx)).1 hc
 ·obtain⟨x,hx,rfl⟩:=List.mem_map.1 (c2 c hc);exact(hb x (List.mem_range.1 hx)).2 hc
theorem cores_le{t:Tb}{cores:List (List Cr)}(hn:cores.Nodup)(hs:∀K∈cores,aY K)(hc:∀K∈cores,∀c∈K,c∈ak t):cores.length≤2^(t.rows.length*t.attrs.length):=by
 have hnd:(cores.map (numL t)).Nodup:=iN hn (fun a ha b hb he=>numL_inj (hs a ha) (hs b hb) (hc a ha) (hc b hb) he)
 have:=hnd.length_le_of_subset (l₂:=List.range (2^(t.rows.length*t.attrs.length))) (fun x hx=>by
  obtain⟨K,_,rfl⟩:=List.mem_map.1 hx;rw[List.mem_range]
  exact bnF_lt _ _)
 simpa using this
end
theorem mu{ws:List Int}{es:List (List Nat)}{P:List Nde×Int} : ∀(k:Nat) (m:List Nat) (lf b:Int),iK ws es k m lf b=some P→(P.1.length:Int)≤lf-P.2
 | 0,_,_,_,h=>by simp[iK]at h
 | k+1,m,lf,b,h=>by
  rw[iK]at h;split at h
  ·cases h
  ·split at h
   ·cases h;simp only[List.length_cons,List.length_nil];omega
   ·split at h
    ·cases h;simp only[List.length_cons,List.length_nil];omega
    ·split at h
     ·cases h
     ·split at h
      ·cases h
      ·rename_i p hp;split at h
       ·cases h
       ·rename_i q hq;have h1:=mu (P:=p) k _ _ _ hp;have h2:=mu (P:=q) k _ _ _ hq;cases h;simp only[List.length_cons,List.length_append];omega
theorem wsum_range{ws:List Int}{n:Nat}(hw:∀v<n,1≤ws.getD v 0∧ws.getD v 0≤1000000)(T:Nat→Bool):0≤dv ws T n∧dv ws T n≤1000000*(n:Int):=by
 rw[gU];have h:=wl_le hw ((List.range n).filter T) (fun v hv=>List.mem_range.1 (List.mem_filter.1 hv).1);have:=List.length_filter_le T (List.range n);rw[List.length_range]at this;omega
theorem prove_all{ws:List Int}{es:List (List Nat)}(hb:HsB ws es){lf:Int}(hlf:2^(ws.length+1)-1≤lf){T:Nat→Bool}(hT:MinOk ws.length ws es T):
  ∃P,iK ws es (ws.length+1) (List.replicate ws.length 0) lf (dv ws T ws.length)=some P∧lf-(2^(ws.length+1)-1)≤P.2∧(P.1.length:Int)≤2^(ws.length+1)-1∧fJ ws es (dv ws T ws.length) P.1=true:=by
 have h0:∀v,(List.replicate ws.length 0).getD v 0=0:=fun v=>by
  simp only[List.getD,List.getElem?_replicate];split<;>rfl
 have g:Wok ws.length ws (List.replicate ws.length 0):=⟨rfl,by simp,fun v hv=>(hb.w v hv).1,fun v _=>by rw[h0];omega⟩
 obtain⟨l,lf',p1,p2,p3⟩:=prv_ok hb.ed (by have:=hb.ne;omega) (ws.length+1) (List.replicate ws.length 0) lf (dv ws T ws.length) g (by rw[fh];omega) (by rw[fh];exact hlf) (fun T' hX=>by
  rw[pT]
  exact hT.m T' hX.h)
 rw[fh]at p2;have hn:=mu _ _ _ _ p1;simp only at hn;refine⟨(l,lf'),p1,p2,by simp only;omega,?_⟩;have hr:=wsum_range hb.w T;have hn2:=hb.n;unfold fJ;rw[if_pos (fY.2 hb),if_neg (by omega)];unfold qU;have:=p3 [] (l.length+1) (by omega);rw[List.append_nil]at this;simp only;rw[this];rfl
end
end Go.Proofs.YteijbpppalhihaaGreat
namespace Go.Proofs.YteijbpppalhihaaGreat
section
open Go Go.AM Go.Sort
structure CoresOk (t:Tb) (fds:List Fd) (cores:List (List Cr)):Prop where
 core:∀K∈cores,IsCoreP t fds K
 srt:∀K∈cores,aY K
 sub:∀K∈cores,∀c∈K,c∈ak t
 ord:cores.Pairwise fun a b=>au a b<0
theorem CoresOk.nil(t:Tb)(fds:List Fd):CoresOk t fds []:=⟨by simp,by simp,by simp,.nil⟩
theorem CoresOk.nodup{t:Tb}{fds:List Fd}{cores:List (List Cr)}(h:CoresOk t fds cores):cores.Nodup:=h.ord.imp fun {a b} h e=>by subst e;exact nU _ h
theorem nec_nil(t:Tb)(fds:List Fd):¬Nec t fds []:=by
 unfold Nec;intro h;refine h ⟨fun _=>.inr 0,fun x v hx hk=>?_,fun d _ i k _ _ _ a _ _=>rfl⟩;obtain⟨_,hno⟩:=ee hk;exact absurd (cU.2 ⟨iq hx,by simp⟩) hno
theorem CoresOk.ne{t:Tb}{fds:List Fd}{cores:List (List Cr)}(h:CoresOk t fds cores):∀K∈cores,K≠[]:=fun K hK e=>by
 subst e;exact nec_nil t fds (h.core _ hK).nec
theorem CoresOk.vsub{t:Tb}{fds:List Fd}{cores:List (List Cr)}(h:CoresOk t fds cores):∀c∈vsC cores,c∈ak t:=fun c hc=>by
 obtain⟨K,hK,hc⟩:=(oN _ _).1 hc;exact h.sub K hK c hc
theorem vs_sub(cores:List (List Cr)):∀K∈cores,∀c∈K,c∈vsC cores:=fun K hK c hc=>(oN _ _).2 ⟨K,hK,hc⟩
theorem ju{t:Tb}{l:List Cr}(hn:l.Nodup)(hs:∀c∈l,c∈ak t):l.length≤t.rows.length*t.attrs.length:=by
 have:=hn.length_le_of_subset (l₂:=ak t) hs
 rwa [gO]at this
theorem CoresOk.vlen{t:Tb}{fds:List Fd}{cores:List (List Cr)}(h:CoresOk t fds cores):(vsC cores).length≤t.rows.length*t.attrs.length:=ju (bc (dw _)) h.vsub
theorem CoresOk.klen{t:Tb}{fds:List Fd}{cores:List (List Cr)}(h:CoresOk t fds cores):∀K∈cores,K.length≤t.rows.length*t.attrs.length:=fun K hK=>ju (bc (h.srt K hK)) (h.sub K hK)
theorem CoresOk.len{t:Tb}{fds:List Fd}{cores:List (List Cr)}(h:CoresOk t fds cores)(hN:t.rows.length*t.attrs.length≤9):cores.length≤512:=by
 have:=cores_le h.nodup h.srt h.sub;have h2:2^(t.rows.length*t.attrs.length)≤2^9:=Nat.pow_le_pow_right (by omega) hN;omega
theorem flat_len(k:Nat):∀ls:List (List Cr),(∀l∈ls,l.length≤k)→ls.flatten.length≤ls.length*k
 | [],_=>by simp
 | l::ls,h=>by
  have h1:=flat_len k ls (fun x hx=>h x (by simp[hx]));have h2:=h l (by simp);rw[List.flatten_cons,List.length_append,List.length_cons,Nat.add_mul];omega
theorem CoresOk.flen{t:Tb}{fds:List Fd}{cores:List (List Cr)}(h:CoresOk t fds cores)(hN:t.rows.length*t.attrs.length≤9):cores.flatten.length≤1000000:=by
 have h1:=flat_len 9 cores (fun K hK=>Nat.le_trans (h.klen K hK) hN);have h2:=h.len hN;omega
theorem CoresOk.edges{t:Tb}{fds:List Fd}{cores:List (List Cr)}(h:CoresOk t fds cores):(cores.map fun K=>K.map (eG (vsC cores)))=cores.map (cP (vsC cores)):=
 List.map_congr_left fun K hK=>edge_map (dw _) (h.srt K hK) (vs_sub cores K hK)
theorem CoresOk.hsb{t:Tb}{fds:List Fd}{cores:List (List Cr)}(h:CoresOk t fds cores)(hN:t.rows.length*t.attrs.length≤9):HsB (aX (vsC cores).length) (cores.map (cP (vsC cores))):=
 hsb_cores (by have:=h.vlen;omega) (by have:=h.len hN;omega) h.ne (vs_sub cores)
theorem ke{vs:List Cr}(hs:aY vs)(T:Nat→Bool):aY (ck vs T):=by
 unfold ck aY;rw[List.pairwise_map]
 refine(List.pairwise_lt_range.filter _).imp_of_mem fun {a b} ha hb h=>?_
 have h1:=List.mem_range.1 (List.mem_filter.1 ha).1;have h2:=List.mem_range.1 (List.mem_filter.1 hb).1;have:=dy hs h1 h2 h
 rwa [show dg vs a=vs[a] by simp[dg,h1],show dg vs b=vs[b] by simp[dg,h2]]
theorem qV{vs:List Cr}{T:Nat→Bool} : ∀c∈ck vs T,c∈vs:=fun c hc=>by
 obtain⟨v,hv,_,rfl⟩:=qW.1 hc;rw[show dg vs v=vs[v] by simp[dg,hv]];exact List.getElem_mem _
theorem coreG_flag{t:Tb}{fds:List Fd}(f:Bool)(l:List Cr)(i:Nat)(hf:f=false):(fM t fds f l i).1=false:=by
 fun_induction fM t fds f l i with
 | case1 f l i h1 h2 ih=>exact ih rfl
 | case2 f l i h1 h2 ih=>exact ih hf
 | case3 f l i h1=>exact hf
noncomputable def oC(t:Tb)(fds:List Fd)(L:List Cr):List Cr:=(fM t fds false (bg t L) 0).2
theorem newK_ok{t:Tb}{fds:List Fd}{L:List Cr}(hv:TbV t)(h:¬Okq (aS t fds L)):IsCoreP t fds (oC t fds L)∧(∀c∈oC t fds L,c∈bg t L)∧aY (oC t fds L):=by
 refine coreG_ok (fixed:=bg t L) false (bg t L) 0 ⟨by omega,fun c hc=>hc,hv.sorted_others L,?_,by omega⟩;unfold Nec;rw[others_others];exact h
theorem CoresOk.add{t:Tb}{fds:List Fd}{cores:List (List Cr)}(h:CoresOk t fds cores)(hv:TbV t){T:Nat→Bool}(hT:MinOk (vsC cores).length (aX (vsC cores).length) (cores.map (cP (vsC cores))) T)
  (hno:¬Okq (aS t fds (ck (vsC cores) T))):CoresOk t fds (cV (cores++[oC t fds (ck (vsC cores) T)]))∧(cV (cores++[oC t fds (ck (vsC cores) T)])).length=cores.length+1:=by
 obtain⟨k1,k2,k3⟩:=newK_ok hv hno;have hnew:=core_new (t:=t) (fds:=fds) (vs_sub cores) hT.h (K:=oC t fds (ck (vsC cores) T)) (fun c hc=>(cU.1 (k2 c hc)).2);generalize oC t fds (ck (vsC cores) T)=K at k1 k2 k3 hnew ⊢
 have hm:∀x,x∈cV (cores++[K])↔x∈cores∨x=K:=fun x=>by rw[(jT _).mem_iff];simp
 have hnd:(cV (cores++[K])).Nodup:=by
  refine(jT _).nodup_iff.2 ?_;refine List.nodup_append.2 ⟨h.nodup,by simp,fun a ha b hb e=>?_⟩;rw[List.mem_singleton]at hb;subst hb;subst e;exact hnew ha
 refine⟨⟨fun x hx=>?_,fun x hx=>?_,fun x hx=>?_,?_⟩,by rw[sortLs_len];simp⟩
 ·rcases(hm x).1 hx with h1 | rfl
  ·exact h.core x h1
  ·exact k1
 ·rcases(hm x).1 hx with h1 | rfl
  ·exact h.srt x h1
  ·exact k3
 ·rcases(hm x).1 hx with h1 | rfl
  ·exact h.sub x h1
  ·exact fun c hc=>(cU.1 (k2 c hc)).1
 ·refine((sortLs_sorted (cores++[K])).and hnd).imp fun {a b} ⟨h1,h2⟩=>?_
  rcases kM a b with g | g | g
  ·exact g
  ·exact absurd g h2
  ·exact absurd g h1
structure OptR (t:Tb) (fds:List Fd) (u:Upd) (T:Nat→Bool):Prop where
 cores:CoresOk t fds u.cores
 hit:MinOk (vsC u.cores).length (aX (vsC u.cores).length) (u.cores.map (cP (vsC u.cores))) T
 cells:u.cells=ck (vsC u.cores) T
 enough:okB (aS t fds u.cells)=true
 tab:u.tab=iR t fds u.cells
 prf:fJ (aX (vsC u.cores).length) (u.cores.map (cP (vsC u.cores))) u.cells.length u.prf=true
 plen:u.prf.length≤1023
noncomputable def oB(cores:List (List Cr)):List Cr:=(nB (aX (vsC cores).length) (cores.map (cP (vsC cores))) 20000).map (dg (vsC cores))
noncomputable def optP(cores:List (List Cr)):List Nde:=((iK (aX (vsC cores).length) (cores.map (cP (vsC cores))) ((vsC cores).length+1) (List.replicate (vsC cores).length 0) 20000 (wl (aX (vsC cores).length) (nB (aX (vsC cores).length) (cores.map (cP (vsC cores))) 20000))).getD ([],0)).1
noncomputable def optG(t:Tb)(fds:List Fd):Nat→List (List Cr)→Upd
 | 0,cores=>⟨[],t,cores,[]⟩
 | f+1,cores=>if okB (aS t fds (oB cores))=true then⟨oB cores,iR t fds (oB cores),cores,optP cores⟩ else optG t fds f (cV (cores++[oC t fds (oB cores)]))
noncomputable def optU(t:Tb)(fds:List Fd):Upd:=optG t fds 514 []
theorem kD(n:Nat):(aX n).length=n:=by simp[aX]
theorem optL_ok{t:Tb}{fds:List Fd}{cores:List (List Cr)}(hc:CoresOk t fds cores)(hN:t.rows.length*t.attrs.length≤9):∃T,MinOk (vsC cores).length (aX (vsC cores).length) (cores.map (cP (vsC cores))) T∧nB (aX (vsC cores).length) (cores.map (cP (vsC cores))) 20000=(List.range (vsC cores).length).filter T∧oB cores=ck (vsC cores) T ∧
  (iK (aX (vsC cores).length) (cores.map (cP (vsC cores))) ((vsC cores).length+1) (List.replicate (vsC cores).length 0) 20000 (wl (aX (vsC cores).length) (nB (aX (vsC cores).length) (cores.map (cP (vsC cores))) 20000))).isSome=true ∧
  (optP cores).length≤1023∧fJ (aX (vsC cores).length) (cores.map (cP (vsC cores))) (oB cores).length (optP cores)=true:=by
 have hv9:=hc.vlen
 have hpw:(2:Int)^((vsC cores).length+1)≤1024:=by
  have h1:(2:Nat)^((vsC cores).length+1)≤2^10:=Nat.pow_le_pow_right (by omega) (by omega)
  exact_mod_cast h1
 obtain⟨T,hT,hml⟩:=minL_ok (hc.hsb hN) (by rw[kD];omega) (lf:=20000) (by rw[kD];omega);have hpa:=prove_all (hc.hsb hN) (lf:=20000) (by rw[kD];omega) (T:=T) hT;rw[kD]at hT hml hpa;obtain⟨P,hP1,hP2,hP3,hP4⟩:=hpa
 have hLl:oB cores=ck (vsC cores) T:=by unfold oB;rw[hml];rfl
 have hw:dv (aX (vsC cores).length) T (vsC cores).length=wl (aX (vsC cores).length) (nB (aX (vsC cores).length) (cores.map (cP (vsC cores))) 20000):=by rw[gU,hml]
 have hw2:dv (aX (vsC cores).length) T (vsC cores).length=((oB cores).length:Nat):=by rw[mj,hLl];simp[ck]
 have hPe:optP cores=P.1:=by unfold optP;rw[←hw,hP1];rfl
 refine⟨T,hT,hml,hLl,by rw[←hw,hP1];rfl,by rw[hPe];omega,?_⟩;rw[hPe,←hw2];exact hP4
theorem optG_ok{t:Tb}{fds:List Fd}(hv:TbV t)(hN:t.rows.length*t.attrs.length≤9):∀(f:Nat) (cores:List (List Cr)),CoresOk t fds cores→513≤f+cores.length→∃T,OptR t fds (optG t fds f cores) T
 | 0,cores,hc,h=>by have:=hc.len hN;omega
 | f+1,cores,hc,h=>by
  obtain⟨T,h1,h2,h3,h4,h5,h6⟩:=optL_ok hc hN;rw[optG];by_cases hok:okB (aS t fds (oB cores))=true
  ·rw[if_pos hok];exact⟨T,hc,h1,h3,hok,rfl,h6,h5⟩
  ·rw[if_neg hok];have hadd:=hc.add hv h1 (by rw[←h3];exact fun h=>hok (fQ.2 h));rw[←h3]at hadd;exact optG_ok hv hN f _ hadd.1 (by omega)
theorem optU_ok{t:Tb}{fds:List Fd}(hv:TbV t)(hN:t.rows.length*t.attrs.length≤9):∃T,OptR t fds (optU t fds) T:=optG_ok hv hN 514 [] (CoresOk.nil t fds) (by omega)
end
end Go.Proofs.YteijbpppalhihaaGreat
namespace Go.Proofs.YteijbpppalhihaaGreat
section
open Go Go.AM
def CO(cores:List (List Cr)):B:=.buf 37 1 (cores.map (LC false)) false
theorem CO_rb(n:Nat)(cores:List (List Cr)):rbB n (CO cores):=(rbB_buf1 (fun x hx=>by obtain⟨K,_,rfl⟩:=List.mem_map.1 hx;exact⟨LC_pure _ _,rfl⟩)).2 trivial
theorem problem_l0(cores:List (List Cr))(X0 X1 X2:B)(hX:∀k,4≤k→rbB k X0∧rbB k X1∧rbB k X2)(n:Nat)(hn:cores.length=n)(hn2:n≤100000)(hK:∀K∈cores,K.length≤100000)(hT:cores.flatten.length≤1000000):
  bA Tryz.prog 63 [.buf 3 0 n n] [X0,X1,X2,.buf 37 1 (cores.map (LC false)) false] fun x y=>∃G r',y=[X0,X1,X2,.buf 37 1 (cores.map (LC false)) false]++G∧ExpN y 4 x r'∧AM.Pure r'∧r'=PRB cores:=by
 have hcat0:=mS cores false false hn hn2 hK hT;obtain⟨F,hF⟩:∃F,F=cores.flatten:=⟨_,rfl⟩;obtain⟨N,hN⟩:∃N,F.length=N:=⟨_,rfl⟩;obtain⟨S,hS⟩:∃S,S=fu F:=⟨_,rfl⟩
 have hSl:S.length=N:=by rw[hS,jv,hN]
 obtain⟨vs,hvs⟩:∃vs,vs=eW S:=⟨_,rfl⟩
 have hvv:vsC cores=vs:=by unfold vsC;rw[←hF,←hS,hvs]
 obtain⟨m,hm⟩:∃m,vs.length=m:=⟨_,rfl⟩
 have hmN:m≤N:=by rw[←hm,hvs,←hSl];exact cpF_len S S.length
 obtain⟨VZ,hVZ⟩:∃VZ,VZ=vs++List.replicate (N-m) (⟨0,0⟩:Cr):=⟨_,rfl⟩
 have hVl:VZ.length=N:=by rw[hVZ,List.length_append,List.length_replicate];omega
 have hcl:=bd VZ
 have hNb:N≤1000000:=by rw[←hN,hF];exact hT
 rw[←hF]at hcat0
 have hX5:∀k,rbB k (.buf 37 1 (cores.map (LC false)) false):=fun k=>CO_rb k cores
 have hZ:∀k,rbB k (B.cells [.nilS,.nilS]):=fun k c hc=>by simp at hc;rcases hc with rfl | rfl<;>simp[rb]
 have hrb1:∀bl∈[X0,X1,X2,.buf 37 1 (cores.map (LC false)) false,B.cells [.nilS,.nilS],.buf 49 2 (crL S) false],rbB 6 bl:=by
  intro bl hbl;simp only[List.mem_cons,List.not_mem_nil,or_false]at hbl
  rcases hbl with rfl | rfl | rfl | rfl | rfl | rfl
  ·exact(hX 6 (by omega)).1
  ·exact(hX 6 (by omega)).2.1
  ·exact(hX 6 (by omega)).2.2
  ·exact hX5 _
  ·exact hZ _
  ·exact gN _ _ _ _
 have hsort:=na (H:=[X0,X1,X2,.buf 37 1 (cores.map (LC false)) false,B.cells [.nilS,.nilS],.buf 49 2 (crL F) false]) (k:=5) F N hN (by simp) (by omega);rw[←hS]at hsort;have hcomp:=compact_h (H:=[X0,X1,X2,.buf 37 1 (cores.map (LC false)) false,B.cells [.nilS,.nilS],.buf 49 2 (crL S) false]) (k0:=5) (by simp) hrb1 S N hSl hNb;rw[←hvs,hm,←hVZ]at hcomp;simp only[CB,List.set_cons_succ,List.set_cons_zero]at hsort hcomp;simp only[LLC]at hcat0;refine aD tok Tryz.func63 rfl rfl ?_;refine wx ?_;simp -implicitDefEqProofs -dsimp[Tryz.f63,List.replicate,LC,LLC]
 refine bK (conH_of_conOL (args:=[.buf 3 0 n n]) hcat0 rfl (fun i a a' h1 h2=>by
  match i with
  | 0=>simp at h1 h2;subst h1;subst h2;exact exp_CO (e:=37) (fz:=false) rfl hn
  | i+1=>simp at h1) (fun e z xs hx=>by obtain⟨_,_,rfl⟩:=hx;exact crL_scalar F)) ?_
 rintro r H' ⟨e,z,xs,rfl,rfl,_,rfl,rfl,rfl⟩;rw[bd,hN];simp -implicitDefEqProofs -dsimp[LC,LLC];refine bK hsort ?_;rintro r H' ⟨rfl,rfl⟩;simp -implicitDefEqProofs -dsimp[LC,LLC];refine bK hcomp ?_;rintro r H' ⟨rfl,rfl⟩;simp -implicitDefEqProofs -dsimp[hcl,hVl,LC,LLC]
 have hrI:∀(k:Nat) (l:List Int) (fz:Bool),rbB k (.buf 2 1 (l.map aW) fz):=fun k l fz=>(rbB_buf1 (fun x hx=>by obtain⟨y,_,rfl⟩:=List.mem_map.1 hx;exact⟨by simp[aW],rfl⟩)).2 trivial
 have hrN:∀(k:Nat) (l:List Nat) (fz:Bool),rbB k (.buf 3 1 (nuL l) fz):=fun k l fz=>(rbB_buf1 (cx l)).2 trivial
 have hrE:∀(k:Nat) (es:List (List Nat)) (fz:Bool),rbB k (.buf 109 1 (es.map (Ln false)) fz):=fun k es fz=>(rbB_buf1 (fun x hx=>by obtain⟨e,_,rfl⟩:=List.mem_map.1 hx;exact⟨by simp,rfl⟩)).2 trivial
 have hrW:∀i:Nat,∀bl∈[X0,X1,X2,.buf 37 1 (cores.map (LC false)) false,B.cells [.nilS,.nilS],.buf 49 2 (crL VZ) false,B.cells [.buf 7 0 i i,.nilS],.buf 2 1 ((aX i).map aW) false],rbB 8 bl:=by
  intro i bl hbl;simp only[List.mem_cons,List.not_mem_nil,or_false]at hbl
  rcases hbl with rfl | rfl | rfl | rfl | rfl | rfl | rfl | rfl
  ·exact(hX 8 (by omega)).1
  ·exact(hX 8 (by omega)).2.1
  ·exact(hX 8 (by omega)).2.2
  ·exact hX5 _
  ·exact hZ _
  ·exact gN _ _ _ _
  ·intro c hc;simp at hc;rcases hc with rfl | rfl<;>simp[rb]
  ·exact hrI _ _ _
 have hrV:∀(i j:Nat) (es:List (List Nat)),∀bl∈[X0,X1,X2,.buf 37 1 (cores.map (LC false)) false,B.cells [.nilS,.nilS],.buf 49 2 (crL VZ) false,B.cells [.buf 7 0 i i,.buf 8 0 j j],.buf 2 1 ((aX i).map aW) false,.buf 109 1 (es.map (Ln false)) false],rbB 9 bl:=by
  intro i j es bl hbl;simp only[List.mem_cons,List.not_mem_nil,or_false]at hbl
  rcases hbl with rfl | rfl | rfl | rfl | rfl | rfl | rfl | rfl | rfl
  ·exact(hX 9 (by omega)).1
  ·exact(hX 9 (by omega)).2.1
  ·exact(hX 9 (by omega)).2.2
  ·exact hX5 _
  ·exact hZ _
  ·exact gN _ _ _ _
  ·intro c hc;simp at hc;rcases hc with rfl | rfl<;>simp[rb]
  ·exact hrI _ _ _
  ·exact hrE _ _ _
 have hrU:∀(i j:Nat) (es:List (List Nat)) (l:List Nat),∀bl∈[X0,X1,X2,.buf 37 1 (cores.map (LC false)) false,B.cells [.nilS,.nilS],.buf 49 2 (crL VZ) false,B.cells [.buf 7 0 i i,.buf 8 0 j j],.buf 2 1 ((aX i).map aW) false,.buf 109 1 (es.map (Ln false)) false,.buf 3 1 (nuL l) false],rbB 10 bl:=by
  intro i j es l bl hbl;simp only[List.mem_cons,List.not_mem_nil,or_false]at hbl
  rcases hbl with rfl | rfl | rfl | rfl | rfl | rfl | rfl | rfl | rfl | rfl
  ·exact(hX 10 (by omega)).1
  ·exact(hX 10 (by omega)).2.1
  ·exact(hX 10 (by omega)).2.2
  ·exact hX5 _
  ·exact hZ _
  ·exact gN _ _ _ _
  ·intro c hc;simp at hc;rcases hc with rfl | rfl<;>simp[rb]
  ·exact hrI _ _ _
  ·exact hrE _ _ _
  ·exact hrN _ _ _
 refine aK (co 2 1 [] 6 [0] rfl (by simp) (by simp) (W_loopM 29 [21,22,23,24,25,26,27,28] (by simp[mB]<;>rfl) (σ:=Nat) (fun i=>i≤m) (fun i=>m-i) (fun i=>[(21,.int .i64 i)]) (fun i=>[X0,X1,X2,.buf 37 1 (cores.map (LC false)) false,B.cells [.nilS,.nilS],.buf 49 2 (crL VZ) false,B.cells [.buf 7 0 i i,.nilS],.buf 2 1 ((aX i).map aW) false]) 0 (by omega) (by simp) (by simp[aX]) (by simp) ?_));intro i hi N1 Q1 hN1 hQ1
 have hol:(aX i).length=i:=by simp[aX]
 by_cases hb:i<m
 ·have hos:aX (i+1)=aX i++[1]:=by unfold aX;rw[List.replicate_succ']
  refine wx ?_;simp -implicitDefEqProofs -dsimp[hb,show(i:Int)<m by omega,aJ i (by omega),hol,cap8 i (by omega),LC,LLC];refine hN1 (i+1) _ _ (by omega) (by omega) (by simp) ⟨[],by simp[hos,aW]⟩ (by simp) (hrW (i+1))
 ·obtain rfl:i=m:=by omega
  obtain⟨eF,heF⟩:∃eF:Nat→List (List Nat),eF=fun j=>(cores.take j).map fun K=>K.map (eG vs):=⟨_,rfl⟩
  have hel:∀j,j≤n→(eF j).length=j:=fun j hj=>by rw[heF];simp;omega
  refine wx ?_;simp -implicitDefEqProofs -dsimp[hb,show ¬(i:Int)<i by omega,LC,LLC];refine hQ1 _ _ _ ?_;simp -implicitDefEqProofs -dsimp[hn,LC,LLC];refine aK (co 109 1 [] 6 [1] rfl (by simp) (by simp) (W_loopM 59 [7,8,10,11,12,31,32,33,34,35,36,37,38,39,40,41,42,43,44,45,46,47,48,49,50,51,52,53,54,55,56,57,58] (by simp[mB]<;>rfl) (σ:=Nat) (fun j=>j≤n) (fun j=>n-j) (fun j=>[(31,.int .i64 j)]) (fun j=>[X0,X1,X2,.buf 37 1 (cores.map (LC false)) false,B.cells [.nilS,.nilS],.buf 49 2 (crL VZ) false,B.cells [.buf 7 0 i i,.buf 8 0 j j],.buf 2 1 ((aX i).map aW) false,.buf 109 1 ((eF j).map (Ln false)) false]) 0 (by omega) (by simp[hn]) (by simp[heF]) (by simp) ?_));intro j hj N2 Q2 hN2 hQ2;have hej:=hel j hj;by_cases hbj:j<n
  ·have hbc:j<cores.length:=by omega
   obtain⟨K,hKe⟩:∃K,K=cores[j]:=⟨_,rfl⟩
   have hKl:K.length≤100000:=by rw[hKe];exact hK _ (List.getElem_mem _)
   have hes:eF (j+1)=eF j++[K.map (eG vs)]:=by rw[heF];simp only;rw[List.take_succ_eq_append_getElem hbc,List.map_append,←hKe];rfl
   refine wx ?_;simp -implicitDefEqProofs -dsimp[hbj,hbc,hn,hKe.symm,aN,show(j:Int)<n by omega,LC,LLC]
   obtain⟨iF,hiF⟩:∃iF:Nat→List Nat,iF=fun x=>(K.take x).map (eG vs):=⟨_,rfl⟩
   have hil:∀x,x≤K.length→(iF x).length=x:=fun x hx=>by rw[hiF];simp;omega
   refine aK (eY 3 1 [8] (by simp) (W_loopM 52 [8,10,11,12,37,38,39,40,41,42,43,44,45,46,47,48,49,50,51] (by simp[mB]<;>rfl) (σ:=Nat) (fun x=>x≤K.length) (fun x=>K.length-x) (fun x=>[(37,.int .i64 x),(8,.buf 9 0 x x)]) (fun x=>[X0,X1,X2,.buf 37 1 (cores.map (LC false)) false,B.cells [.nilS,.nilS],.buf 49 2 (crL VZ) false,B.cells [.buf 7 0 i i,.buf 8 0 j j],.buf 2 1 ((aX i).map aW) false,.buf 109 1 ((eF j).map (Ln false)) false,.buf 3 1 (nuL (iF x)) false]) 0 (by omega) (by simp) (by simp[hiF,nuL]) (by simp) ?_));intro x hx N3 Q3 hN3 hQ3;have hix:=hil x hx
   have hnl:(nuL (iF x)).length=x:=by rw[aw,hix]
   by_cases hbx:x<K.length
   ·obtain⟨c,hc⟩:∃c,c=K[x]:=⟨_,rfl⟩
    have his:iF (x+1)=iF x++[eG vs c]:=by rw[hiF];simp only;rw[List.take_succ_eq_append_getElem hbx,List.map_append,←hc];rfl
    have hcb:=iY vs c false (by omega);obtain⟨w,hw⟩:∃w,w=eG vs c:=⟨_,rfl⟩
    have hw2:bsC vs c 0 vs.length=w:=by rw[hw];rfl
    rw[←hw]at his;rw[hw2]at hcb;simp only[aN]at hcb;refine wx ?_;simp -implicitDefEqProofs -dsimp[hbx,hc.symm,aN,show(x:Int)<K.length by omega,LC,LLC];refine(callX (args:=[.buf 5 0 i N,.agg [.int .i64 c.id,.int .i64 c.attr],.fn 75 []]) hcb rfl (fun a v v' h1 h2=>?_) (.tup _ (fun v hv=>by simp at hv;rcases hv with rfl | rfl<;>constructor))).mono ?_
    ·match a with
     | 0=>simp at h1 h2;subst h1;subst h2;exact exp_pre (e:=49) (fz:=false) rfl hVZ hm hVl
     | 1=>simp at h1 h2;subst h1;subst h2;exact .pure _ (by simp)
     | 2=>simp at h1 h2;subst h1;subst h2;exact .pure _ (by simp)
     | a+3=>simp at h1
    rintro r H' ⟨rfl,rfl⟩;simp -implicitDefEqProofs -dsimp[hnl,cap8 x (by omega),aJ x (by omega),LC,LLC];refine hN3 (x+1) _ _ (by omega) (by omega) (by simp) ⟨_,by simp[his,nuL,eN];rfl⟩ (by simp) (hrU i j (eF j) (iF (x+1)))
   ·obtain rfl:x=K.length:=by omega
    have hiK:iF K.length=K.map (eG vs):=by rw[hiF];simp
    rw[←hiK]at hes;refine qb 9 [8] rfl (by simp[hnl]) ?_;refine wx ?_;simp -implicitDefEqProofs -dsimp[hbx,show ¬(K.length:Int)<K.length by omega,LC,LLC];refine hQ3 _ _ _ ?_;simp -implicitDefEqProofs -dsimp[hej,cap24 j (by omega),aJ j (by omega),LC,LLC];refine hN2 (j+1) _ _ (by omega) (by omega) (by simp[hn]) ⟨_,by simp[hes,Ln,nuL];rfl⟩ (by simp) (hrV i (j+1) (eF (j+1)))
  ·obtain rfl:j=n:=by omega
   have hen:eF j=cores.map fun K=>K.map (eG vs):=by rw[heF];simp only;rw[List.take_of_length_le (by omega)]
   refine wx ?_;simp -implicitDefEqProofs -dsimp[hbj,hn,show ¬(j:Int)<j by omega,LC,LLC];refine hQ2 _ _ _ ?_;simp -implicitDefEqProofs -dsimp[LC,LLC]
   have hP:PRB cores = .tup [.agg [.lst 1 false ((aX i).map aW),.lst 1 false ((eF j).map (Ln false))],LC false vs]:=by
    unfold PRB;rw[hvv,hm,hen];rfl
   refine⟨?_,by rw[hP];simp[aW]⟩;rw[hP];refine .tup _ _ rfl (jh (.agg _ _ rfl (jh ?_ ?_)) ?_)
   ·have:=gI (n:=4) (k:=7) (len:=i) (tot:=i) (show 4≤7 by omega) (H:=[X0,X1,X2,.buf 37 1 (cores.map (LC false)) false,B.cells [.buf 7 0 i i,.buf 8 0 j j],.buf 49 2 (crL VZ) false,B.cells [.buf 7 0 i i,.buf 8 0 j j],.buf 2 1 ((aX i).map aW) false,.buf 109 1 ((eF j).map (Ln false)) false]) (e:=2) (z:=1) (fz:=false) rfl (by simp[aX]) (Nat.le_refl _) (fun x hx=>by obtain⟨y,_,rfl⟩:=List.mem_map.1 hx;simp[aW])
    rwa [List.take_of_length_le (by simp[aX])]at this
   ·have:=gI (n:=4) (k:=8) (len:=j) (tot:=j) (show 4≤8 by omega) (H:=[X0,X1,X2,.buf 37 1 (cores.map (LC false)) false,B.cells [.buf 7 0 i i,.buf 8 0 j j],.buf 49 2 (crL VZ) false,B.cells [.buf 7 0 i i,.buf 8 0 j j],.buf 2 1 ((aX i).map aW) false,.buf 109 1 ((eF j).map (Ln false)) false]) (e:=109) (z:=1) (fz:=false) rfl (by rw[List.length_map,hej]) (Nat.le_refl _) (fun x hx=>by obtain⟨y,_,rfl⟩:=List.mem_map.1 hx;simp)
    rwa [List.take_of_length_le (by rw[List.length_map,hej];exact Nat.le_refl _)]at this
   ·have:=gI (n:=4) (k:=5) (len:=i) (tot:=N) (show 4≤5 by omega) (H:=[X0,X1,X2,.buf 37 1 (cores.map (LC false)) false,B.cells [.buf 7 0 i i,.buf 8 0 j j],.buf 49 2 (crL VZ) false,B.cells [.buf 7 0 i i,.buf 8 0 j j],.buf 2 1 ((aX i).map aW) false,.buf 109 1 ((eF j).map (Ln false)) false]) (e:=49) (z:=2) (fz:=false) rfl (by rw[bd,hVl]) hmN (fun x hx=>(mP VZ x hx).1)
    have e1:(crL VZ).take i=vs.map aN:=by
     rw[hVZ];unfold crL;rw[List.map_append,List.take_left' (by rw[List.length_map,hm])]
    rwa [e1]at this
theorem problem_l(cores:List (List Cr))(X0 X1 X2:B)(hX:∀k,4≤k→rbB k X0∧rbB k X1∧rbB k X2)(n:Nat)(hn:cores.length=n)(hn2:n≤100000)(hK:∀K∈cores,K.length≤100000)(hT:cores.flatten.length≤1000000):
  bA Tryz.prog 63 [.buf 3 0 n n] [X0,X1,X2,CO cores] fun r H'=>r=PRB cores∧AM.Pure r∧H'=[X0,X1,X2,CO cores] :=
 lD (K:=fun r=>r=PRB cores) (problem_l0 cores X0 X1 X2 hX n hn hn2 hK hT)
theorem prove_f{ws:List Int}{es:List (List Nat)}(hb:HsB ws es)(f g:Bool)(b lf:Int)(P:List Nde×Int)(h:iK ws es (ws.length+1) (List.replicate ws.length 0) lf b=some P)(h1:1≤lf)(h2:lf≤9000000000000000000)(h3 : -1000000000000000≤b)(h4:b≤1000000000000000)(hP : -9000000000000000000≤P.2)(hl:P.1.length≤1000000):
  aR Tryz.prog 65 [ab f g ws es,.int .i64 b,.int .i64 lf] fun r=>r = .tup [LNd false P.1,.int .i64 0]:=by
 refine nP (prove_u hb f g b lf P h h1 h2 h3 h4 hP hl) (fun s u r hr hrel=>?_);obtain⟨fl,rfl⟩:=hr;refine⟨_,?_,by simp,rfl⟩
 cases hrel with
 | tup _ us hl hh =>
  refine .tup _ us hl (fun i c u hc hu=>?_)
  match i with
  | 0 =>
   simp only[List.getElem?_cons_zero,Option.some.injEq]at hc;subst hc;refine nE (hh 0 _ u rfl hu) ?_;cases fl
   ·exact .inl rfl
   ·exact .inr (.inl ⟨2,_,rfl,rfl⟩)
  | 1=>exact hh 1 c u hc hu
  | i+2=>simp at hc
theorem minimum_f{ws:List Int}{es:List (List Nat)}(hb:HsB ws es)(f g:Bool)(hn:ws.length≤12)(lf:Int)(hlf:2^(ws.length+1)-1≤lf)(h1:1≤lf)(h2:lf≤9000000000000000000):
  aR Tryz.prog 64 [ab f g ws es,.int .i64 lf] fun r=>r = .tup [.lst 1 false ((nB ws es lf).map eN),.int .i64 (wl ws (nB ws es lf)),.int .i64 0]:=by
 refine nP (minimum_u hb f g hn lf hlf h1 h2) (fun s u r hr hrel=>?_);obtain⟨fl,rfl⟩:=hr;refine⟨_,?_,by simp[eN],rfl⟩
 cases hrel with
 | tup _ us hl hh =>
  refine .tup _ us hl (fun i c u hc hu=>?_)
  match i with
  | 0 =>
   simp only[List.getElem?_cons_zero,Option.some.injEq]at hc;subst hc;refine nE (hh 0 _ u rfl hu) ?_;cases fl
   ·exact .inl rfl
   ·exact .inr (.inl ⟨1,_,rfl,rfl⟩)
  | 1=>exact hh 1 c u hc hu
  | 2=>exact hh 2 c u hc hu
  | i+3=>simp at hc
theorem Optimal_u(t:Tb)(ff gg df:Bool)(fds:List Fd)(hv:TbV t)(hB:TbN t)(hval:validT t=0)(hF:bU fds)(hfe:cG t.attrs.length fds=0)(hNN:t.rows.length*t.attrs.length≤9):
  aR Tryz.prog 28 [aG ff gg t,LF df fds,.int .i64 20000] fun r=>r = .tup [aV (optU t fds),.int .i64 0]:=by
 obtain⟨U,hU⟩:∃U,U=optU t fds:=⟨_,rfl⟩;rw[←hU];have ht:=hv.ok;have c0:=check_nil t ff gg df fds ht hF
 have hb0:jq t fds=0:=by unfold jq;simp[hval,hfe,show ¬60<t.rows.length*t.attrs.length by omega]
 rw[hb0]at c0;simp only[aG,LS,LR,LC,LF]at c0;refine kd (lD (K:=fun r=>r = .tup [aV U,.int .i64 0]) ?_);refine aD tok Tryz.func28 rfl rfl ?_;refine wx ?_;simp -implicitDefEqProofs -dsimp[Tryz.f28,List.replicate,aG,LS,LR,LC,LF];refine(aF (c0) (by simp)).mono ?_;rintro r H' ⟨rfl,rfl⟩;simp -implicitDefEqProofs -dsimp[aG,LS,LR,LC,LF];refine aK (co 37 1 [] 2 [4] rfl (by simp) (by simp) (W_loopM 101 [7,10,11,12,13,14,16,27,28,29,30,31,32,33,34,35,36,37,38,39,40,41,42,43,44,45,46,47,48,49,50,51,52,53,54,55,56,57,58,59,60,61,62,63,64,65,66,67,68,69,70,71,72,73,74,75,76,77,78,79,80,81,82,83,84,85,86,87,88,89,90,91,92,93,94,95,96,97,98,99,100] (by simp[mB]<;>rfl) (σ:=List (List Cr)×V) (fun p=>CoresOk t fds p.1∧(p.2 = .nilS∨∃L,p.2=LC false L)∧optG t fds (514-p.1.length) p.1=U) (fun p=>513-p.1.length) (fun p=>[]) (fun p=>[B.cells [.str t.name,.lst 1 ff (t.attrs.map V.str),.lst 2 gg (t.rows.map aL)],B.cells [.nilS,.str ByteArray.empty,.nilS,.nilS,.nilS,.nilS],B.cells [p.2,.str ByteArray.empty,.nilS,.nilS,.buf 3 0 p.1.length p.1.length,.nilS],B.buf 37 1 (p.1.map (LC false)) false]) ([],.nilS) ⟨CoresOk.nil t fds,.inl rfl,hU.symm⟩ (by simp) (by simp) (by simp) ?_));rintro⟨cores,cv⟩ ⟨hc,hcv,hgh⟩ N Q hN hQ;simp only at hc hcv hgh hN;obtain⟨n,hn⟩:∃n,cores.length=n:=⟨_,rfl⟩;rw[hn]
 have hn512:n≤512:=by rw[←hn];exact hc.len hNN
 have hcvp:AM.Pure cv∧cv.one=true:=by
  rcases hcv with rfl | ⟨L,rfl⟩
  ·exact⟨.nilS,rfl⟩
  ·exact⟨LC_pure _ _,rfl⟩
 obtain⟨hcv1,hcv2⟩:=hcvp
 have hx0:∀k,rbB k (B.cells [.str t.name,.lst 1 ff (t.attrs.map V.str),.lst 2 gg (t.rows.map aL)]):=fun k=>by simp
 have hx1:∀k,rbB k (B.cells [.nilS,.str ByteArray.empty,.nilS,.nilS,.nilS,.nilS]):=fun k=>by simp
 have hx2:∀(v:V) (k n:Nat),AM.Pure v→v.one=true→3<k→rbB k (B.cells [v,.str ByteArray.empty,.nilS,.nilS,.buf 3 0 n n,.nilS]):=fun v k n h1 h2 hk c hcm=>by
  simp only[List.mem_cons,List.not_mem_nil,or_false]at hcm
  rcases hcm with rfl | rfl | rfl | rfl | rfl | rfl
  ·exact cI h1 h2
  all_goals simp[rb]
  all_goals omega
 have hxC:∀(k:Nat) (cs:List (List Cr)),rbB k (B.buf 37 1 (cs.map (LC false)) false):=fun k cs=>CO_rb k cs
 have cp:=problem_l cores (B.cells [.str t.name,.lst 1 ff (t.attrs.map V.str),.lst 2 gg (t.rows.map aL)]) (B.cells [.nilS,.str ByteArray.empty,.nilS,.nilS,.nilS,.nilS]) (B.cells [cv,.str ByteArray.empty,.nilS,.nilS,.buf 3 0 n n,.nilS]) (fun k hk=>⟨hx0 k,hx1 k,hx2 cv k n hcv1 hcv2 (by omega)⟩) n hn (by omega) (fun K hK=>by have:=hc.klen K hK;omega) (hc.flen hNN);obtain⟨vs,hvs⟩:∃vs,vs=vsC cores:=⟨_,rfl⟩;obtain⟨m,hm⟩:∃m,vs.length=m:=⟨_,rfl⟩;obtain⟨es,hes⟩:∃es,es=cores.map (cP vs):=⟨_,rfl⟩
 have hm9:m≤9:=by rw[←hm,hvs];have:=hc.vlen;omega
 have hsb:=hc.hsb hNN
 have hPR:PRB cores = .tup [ab false false (aX m) es,LC false vs]:=by
  unfold PRB;rw[hc.edges,←hvs,hm,←hes]
 rw[hPR]at cp;rw[←hvs,hm,←hes]at hsb
 have hol:(aX m).length=m:=by simp[aX]
 have hpw:(2:Int)^(m+1)≤1024:=by
  have h1:(2:Nat)^(m+1)≤2^10:=Nat.pow_le_pow_right (by omega) (by omega)
  exact_mod_cast h1
 have cm:=minimum_f hsb false false (by rw[hol];omega) 20000 (by rw[hol];omega) (by omega) (by omega);obtain⟨T,hT,hml,hLo,hsome,hPlen,hPchk⟩:=optL_ok hc hNN;rw[←hvs,hm,←hes]at hT hml hsome hPchk;rw[←hvs]at hLo;rw[hml]at cm hsome;simp only[ab,L1,LLn,LC,CO]at cp cm;refine wx ?_;simp -implicitDefEqProofs -dsimp[hn,aG,LS,LR,LC,LF];refine bK cp ?_;rintro r H' ⟨rfl,_,rfl⟩;simp -implicitDefEqProofs -dsimp[aG,LS,LR,LC,LF];refine(aF cm (by simp)).mono ?_;rintro r H' ⟨rfl,rfl⟩;simp -implicitDefEqProofs -dsimp[aG,LS,LR,LC,LF]
 have hrI:∀(k:Nat) (l:List Int) (fz:Bool),rbB k (.buf 2 1 (l.map aW) fz):=fun k l fz=>(rbB_buf1 (fun x hx=>by obtain⟨y,_,rfl⟩:=List.mem_map.1 hx;exact⟨by simp[aW],rfl⟩)).2 trivial
 have hr5:∀(x:Nat) (l:List Cr),∀bl∈[B.cells [.str t.name,.lst 1 ff (t.attrs.map V.str),.lst 2 gg (t.rows.map aL)],B.cells [.nilS,.str ByteArray.empty,.nilS,.nilS,.nilS,.nilS],B.cells [.buf 5 0 x x,.str ByteArray.empty,.nilS,.nilS,.buf 3 0 n n,.nilS],B.buf 37 1 (cores.map (LC false)) false,B.cells [.lst 1 false ((aX m).map aW),.lst 1 false (es.map (Ln false))],B.buf 49 2 (crL l) false],rbB 6 bl:=by
  intro x l bl hbl;simp only[List.mem_cons,List.not_mem_nil,or_false]at hbl
  rcases hbl with rfl | rfl | rfl | rfl | rfl | rfl
  ·exact hx0 _
  ·exact hx1 _
  ·intro c hcm;simp only[List.mem_cons,List.not_mem_nil,or_false]at hcm
   rcases hcm with rfl | rfl | rfl | rfl | rfl | rfl<;>simp[rb]
  ·exact hxC _ _
  ·intro c hcm;simp only[List.mem_cons,List.not_mem_nil,or_false]at hcm
   rcases hcm with rfl | rfl
   ·exact cI (by simp[aW]) rfl
   ·exact cI (by simp) rfl
  ·exact gN _ _ _ _
 obtain⟨ix,hix⟩:∃ix,ix=(List.range m).filter T:=⟨_,rfl⟩;rw[←hix]at hsome
 have hixl:ix.length≤m:=by rw[hix];exact Nat.le_trans (List.length_filter_le _ _) (by simp)
 obtain⟨pF,hpF⟩:∃pF:Nat→List Cr,pF=fun x=>(ix.take x).map (dg vs):=⟨_,rfl⟩
 have hpl:∀x,x≤ix.length→(pF x).length=x:=fun x hx=>by rw[hpF];simp;omega
 rw[←hix];refine aK (co 49 2 [] 2 [0] rfl (by simp) (by simp) (W_loopM 60 [16,27,30,46,47,48,49,50,51,52,53,54,55,56,57,58,59] (by simp[mB]<;>rfl) (σ:=Nat) (fun x=>x≤ix.length) (fun x=>ix.length-x) (fun x=>[(46,.int .i64 x)]) (fun x=>[B.cells [.str t.name,.lst 1 ff (t.attrs.map V.str),.lst 2 gg (t.rows.map aL)],B.cells [.nilS,.str ByteArray.empty,.nilS,.nilS,.nilS,.nilS],B.cells [.buf 5 0 x x,.str ByteArray.empty,.nilS,.nilS,.buf 3 0 n n,.nilS],B.buf 37 1 (cores.map (LC false)) false,B.cells [.lst 1 false ((aX m).map aW),.lst 1 false (es.map (Ln false))],B.buf 49 2 (crL (pF x)) false]) 0 (by omega) (by simp) (by simp[hpF,crL]) (by simp) ?_));intro x hx N2 Q2 hN2 hQ2;have hxl:=hpl x hx;have hcl:=bd (pF x);by_cases hb:x<ix.length
 ·obtain⟨v,hve⟩:∃v,v=ix[x]:=⟨_,rfl⟩
  have hvm:v<m:=by
   have h1:v∈ix:=by rw[hve];exact List.getElem_mem _
   rw[hix]at h1;exact List.mem_range.1 (List.mem_filter.1 h1).1
  have hvl:v<vs.length:=by omega
  obtain⟨c,hce⟩:∃c,c=vs[v]:=⟨_,rfl⟩
  have hcD:dg vs v=c:=by rw[hce];simp[dg,hvl]
  have hps:pF (x+1)=pF x++[c]:=by rw[hpF];simp only;rw[List.take_succ_eq_append_getElem hb,List.map_append,←hve,List.map_singleton,hcD]
  refine wx ?_;simp -implicitDefEqProofs -dsimp[hb,hve.symm,eN,show(x:Int)<ix.length by omega,aG,LS,LR,LC,LF];refine aK (am tok mixed [7,9] [] [] (by kernel_rfl) fun C K hC hK=>?_);simp -implicitDefEqProofs [hvm,hvl,hm,hce.symm,aN,hcl,hxl,oA x (by omega),aG,LS,LR,LC,LF];refine hK _ _ ?_;simp -implicitDefEqProofs -dsimp[aJ x (by omega),aG,LS,LR,LC,LF];refine hN2 (x+1) _ _ (by omega) (by omega) (by simp) ⟨[],by simp[hps,crL,aN]⟩ (by simp[hcv1,hcv2]) (hr5 _ _)
 ·obtain rfl:x=ix.length:=by omega
  obtain⟨L,hL⟩:∃L,L=pF ix.length:=⟨_,rfl⟩
  have hLV:L=ck vs T:=by rw[hL,hpF];simp only;rw[List.take_length,hix,←hm];rfl
  have hvss:aY vs:=by rw[hvs];exact dw _
  have hLs:aY L:=by rw[hLV];exact ke hvss T
  have hLsub:∀c∈L,c∈ak t:=fun c hc2=>by
   rw[hLV]at hc2;have:=qV c hc2;rw[hvs]at this;exact hc.vsub c this
  have hLl:L.length≤9:=by have:=ju (bc hLs) hLsub;omega
  have hLx:L.length=ix.length:=by rw[hL];exact hxl
  rw[←hL]at hxl hcl ⊢;have ce:=qI t ff gg df false fds L hv hF hLs (by omega);simp only[aG,LS,LR,LC,LF]at ce;refine iA 5 [] 2 [0] rfl rfl (by simp) (by simp[hcl,hxl]) ?_
  cases hok:okB (aS t fds L) with
  | true =>
   rw[hok]at ce;refine wx ?_;simp -implicitDefEqProofs -dsimp[hb,show ¬(ix.length:Int)<ix.length by omega,aG,LS,LR,LC,LF];refine hQ2 _ _ _ ?_;simp -implicitDefEqProofs -dsimp[aG,LS,LR,LC,LF]
   have hw:wl (aX m) ix=(L.length:Nat):=by rw[wl_ones m ix (fun v hv=>by rw[hix]at hv;exact List.mem_range.1 (List.mem_filter.1 hv).1),hLx]
   have hLoe:oB cores=L:=by rw[hLo,hLV]
   obtain⟨P,hP⟩:=Option.isSome_iff_exists.1 hsome
   have hPe:optP cores=P.1:=by unfold optP;rw[←hvs,hm,←hes,hml,←hix,hP];rfl
   rw[hPe]at hPlen hPchk;rw[hLoe]at hPchk;have hpa:=prove_all hsb (lf:=20000) (by rw[hol];omega) (T:=T) (by rw[hol];exact hT);rw[hol,gU,←hix,hP]at hpa;obtain⟨P',hP1,hP2,_,_⟩:=hpa;cases hP1
   have hUe:U=⟨L,iR t fds L,cores,P.1⟩:=by
    rw[←hgh,show 514-cores.length=(513-cores.length)+1 by omega,optG,hLoe,if_pos hok,hPe]
   have cpf:=prove_f hsb false false (wl (aX m) ix) 20000 P (by rw[hol];exact hP) (by omega) (by omega) (by rw[hw];omega) (by rw[hw];omega) (by omega) (by omega);have cf:=Fill_u t ff gg df false fds L ht hB hF (by omega);unfold qf at cf;rw[if_pos (chk_ok hv hval hfe (by omega) ⟨hLs,hLsub,by omega⟩),hok,if_pos rfl]at cf;obtain⟨T2,hT2⟩:∃T2,T2=iR t fds L:=⟨_,rfl⟩;rw[←hT2]at cf;simp only[ab,L1,LLn,LNd,aG,LS,LR,LC,LF]at cpf cf;refine(aF (ce) (by simp)).mono ?_;rintro r H' ⟨rfl,rfl⟩;simp -implicitDefEqProofs -dsimp[aG,LS,LR,LC,LF];refine(aF (cpf) (by simp)).mono ?_;rintro r H' ⟨rfl,rfl⟩;simp -implicitDefEqProofs -dsimp[aG,LS,LR,LC,LF];refine(aF (cf) (by simp)).mono ?_;rintro r H' ⟨rfl,rfl⟩;simp -implicitDefEqProofs -dsimp[aG,LS,LR,LC,LF];refine hQ _ _ _ ?_;simp -implicitDefEqProofs -dsimp[aG,LS,LR,LC,LF];rw[hUe,←hT2];refine⟨?_,by unfold aV;simp⟩
   ·refine .tup _ _ rfl (jh (.agg _ _ rfl (fun i c d h1 h2=>?_)) (.pure _ (by simp)))
    match i with
    | 0=>simp at h1 h2;subst h1;subst h2;exact .pure _ (LC_pure false L)
    | 1=>simp at h1 h2;subst h1;subst h2;exact .pure _ (by simp)
    | 2=>simp at h1 h2;subst h1;subst h2;exact .pure _ (LS_pure false T2.attrs)
    | 3=>simp at h1 h2;subst h1;subst h2;exact .pure _ (LR_pure false T2.rows)
    | 4 =>
     simp at h1 h2;subst h1;subst h2;have:=gI (n:=0) (k:=3) (len:=n) (tot:=n) (Nat.zero_le _) (H:=[B.cells [.str t.name,.lst 1 ff (t.attrs.map V.str),.lst 2 gg (t.rows.map aL)],B.cells [.lst 2 false (crL L),.str T2.name,.lst 1 false (T2.attrs.map V.str),.lst 2 false (T2.rows.map aL),.buf 3 0 n n,.lst 2 false (P.1.map aa)],B.cells [.lst 2 false (crL L),.str T2.name,.lst 1 false (T2.attrs.map V.str),.lst 2 false (T2.rows.map aL),.buf 3 0 n n,.lst 2 false (P.1.map aa)],B.buf 37 1 (cores.map (LC false)) false,B.cells [.lst 1 false ((aX m).map aW),.lst 1 false (es.map (Ln false))],B.buf 49 2 (crL L) true]) (e:=37) (z:=1) (fz:=false) rfl (by simp[hn]) (Nat.le_refl _) (fun x hx=>by obtain⟨y,_,rfl⟩:=List.mem_map.1 hx;simp)
     rwa [List.take_of_length_le (by simp[hn])]at this
    | 5=>simp at h1 h2;subst h1;subst h2;exact .pure _ (by simp)
    | i+6=>simp at h1
  | false =>
   rw[hok]at ce;refine wx ?_;simp -implicitDefEqProofs -dsimp[hb,show ¬(ix.length:Int)<ix.length by omega,aG,LS,LR,LC,LF];refine hQ2 _ _ _ ?_;simp -implicitDefEqProofs -dsimp[aG,LS,LR,LC,LF]
   have hno:¬Okq (aS t fds L):=fun h=>by rw[fQ.2 h]at hok;cases hok
   have ca:=all_u t ff gg false L hv hLs (by omega);have cc:=core_u t ff gg df false fds (bg t L) hv hF (hv.sorted_others L) (fy t hv L);rw[coreG_flag _ _ _ rfl]at cc;have hKe:(fM t fds false (bg t L) 0).2=oC t fds L:=rfl;rw[hKe]at cc;have hadd:=hc.add hv (T:=T) (by rw[←hvs,hm,←hes];exact hT) (by rw[←hvs,←hLV];exact hno);rw[←hvs,←hLV]at hadd;have hKo:=newK_ok hv hno
   have hgh2:optG t fds (514-(cV (cores++[oC t fds L])).length) (cV (cores++[oC t fds L]))=U:=by
    rw[hadd.2,←hgh,show 514-cores.length=(514-(cores.length+1))+1 by omega,optG,show oB cores=L by rw[hLo,hLV],if_neg (by rw[hok];simp)]
   generalize oC t fds L=KN at hgh2 cc hadd hKo;obtain⟨k1,k2,k3⟩:=hKo;obtain⟨hc2,hc3⟩:=hadd
   have hKl:KN.length≤9:=by have:=ju (bc k3) (fun c hc=>(cU.1 (k2 c hc)).1);omega
   obtain⟨O,hO⟩:∃O,O=bg t L:=⟨_,rfl⟩;rw[←hO]at ca cc;simp only[aG,LS,LR,LC,LF]at ca cc
   have hs:=sortLists_u (H:=[B.cells [.str t.name,.lst 1 ff (t.attrs.map V.str),.lst 2 gg (t.rows.map aL)],B.cells [.nilS,.str ByteArray.empty,.nilS,.nilS,.nilS,.nilS],B.cells [.lst 2 false (crL L),.str ByteArray.empty,.nilS,.nilS,.buf 3 0 (n+1) (n+1),.nilS],B.buf 37 1 (cores.map (LC false)) false,B.cells [.lst 1 false ((aX m).map aW),.lst 1 false (es.map (Ln false))],B.buf 49 2 (crL L) true]) (k:=3) (e:=37) (f:=false) (cores++[KN]) (n+1) (by simp[hn]) (by simp) (by omega) (fun l hl=>by
    rcases List.mem_append.1 hl with h | h
    ·have:=hc.klen l h;omega
    ·rw[List.mem_singleton]at h;subst h;omega)
   simp only[LB,List.set_cons_succ,List.set_cons_zero,List.map_append,List.map_cons,List.map_nil,LC]at hs;refine(aF (ce) (by simp)).mono ?_;rintro r H' ⟨rfl,rfl⟩;simp -implicitDefEqProofs -dsimp[aG,LS,LR,LC,LF];refine aK (am tok mixed [10,12] [] [(.lst 2 false (O.map aN),[]),(.lst 2 false (KN.map aN),[])] (by kernel_rfl) fun C K hC hK=>?_);simp -implicitDefEqProofs [hn,cap24 n (by omega),aG,LS,LR,LC,LF];refine⟨by(repeat' apply And.intro)<;>first | exact hC _ _ _ _ (aF ca (by simp[crL])) | exact hC _ _ _ _ (aF cc (by simp)),hK _ _ ?_⟩;simp -implicitDefEqProofs -dsimp[aG,LS,LR,LC,LF];refine bK hs ?_;rintro r H' ⟨rfl,rfl⟩;simp -implicitDefEqProofs -dsimp[aG,LS,LR,LC,LF];obtain⟨cs2,hcs2⟩:∃cs2,cs2=cV (cores++[KN]):=⟨_,rfl⟩;rw[←hcs2]at hc2 hc3 hgh2 ⊢;refine hN (cs2,LC false L) _ _ ⟨hc2,.inr ⟨L,rfl⟩,hgh2⟩ (by simp only;omega) (by simp) ⟨_,by simp[hc3,hn,LC,crL];rfl⟩ (by simp) (fun bl hbl=>?_);simp only[List.mem_cons,List.not_mem_nil,or_false]at hbl
   rcases hbl with rfl | rfl | rfl | rfl
   ·exact hx0 _
   ·exact hx1 _
   ·exact hx2 _ _ _ (LC_pure _ _) rfl (by simp)
   ·exact hxC _ _
structure CaseV (t:Tb) (fds:List Fd):Prop where
 tv:TbV t
 num:TbN t
 valid:validT t=0
 small:t.rows.length*t.attrs.length≤9
 fok:bU fds
 ferr:cG t.attrs.length fds=0
 flen:fds.length≤3
 size:∀y,y<t.rows.length*t.attrs.length→(bC t y).s.size≤maxLen
 vals:∀y,y<t.rows.length*t.attrs.length→bV (bC t y)=true
 pos:∀r∈t.rows,0<r.id
theorem at_cell{t:Tb}(hv:TbV t){y:Nat}(hy:y<t.rows.length*t.attrs.length):∃(i a:Nat) (hi:i<t.rows.length) (ha:a<t.rows[i].vals.length),bC t y=t.rows[i].vals[a]:=by
 have hn:0<t.attrs.length:=by
  rcases Nat.eq_zero_or_pos t.attrs.length with h | h
  ·rw[h]at hy;omega
  ·exact h
 have hm:y / t.attrs.length<t.rows.length:=by rw[Nat.div_lt_iff_lt_mul hn];exact hy
 have hl:=hv.len _ (List.getElem_mem hm)
 have ha:y % t.attrs.length<t.rows[y / t.attrs.length].vals.length:=by rw[hl];exact Nat.mod_lt _ hn
 refine⟨_,_,hm,ha,?_⟩;unfold bC;rw[av hm,fC ha]
theorem caseV{c:Cs}(v:CsV c):CaseV (csT c) (csF c):=by
 refine⟨v.tv,v.num,v.valid,v.small,v.fok,v.ferr,v.flen,fun y hy=>?_,fun y hy=>?_,?_⟩
 ·obtain⟨i,a,hi,ha,e⟩:=at_cell v.tv hy;obtain⟨k,hk⟩:=vl_of _ (List.getElem_mem hi) _ (List.getElem_mem ha);rw[e,hk];exact Nat.le_trans (ofV_n k).2 (by simp[maxLen])
 ·obtain⟨i,a,hi,ha,e⟩:=at_cell v.tv hy;rw[e];exact v.tv.vals _ (List.getElem_mem hi) _ (List.getElem_mem ha)
 ·have hv:=v.valid;unfold Go.Proofs.YteijbpppalhihaaGreat.validT at hv;rw[v.tv.name,if_pos rfl,if_neg (by have:=v.tv.attrs;have:=v.tv.rows;omega),v.tv.names,if_pos rfl]at hv;exact(ij hv).1
structure Like (t u:Tb):Prop where
 name:u.name=t.name
 attrs:u.attrs=t.attrs
 rows:u.rows.length=t.rows.length
 ids:∀(i:Nat) (h:i<t.rows.length) (h2:i<u.rows.length),u.rows[i].id=t.rows[i].id
theorem fil_like(t:Tb)(c:Nat→Dm):Like t (ei t c):=⟨rfl,rfl,iS t c,fun i h h2=>by
 simp only[ei,List.getElem_map,List.getElem_range,gG,av h]⟩
theorem Like.alike{t u:Tb}(h:Like t u):gR t u=true:=by
 unfold gR;rw[h.name,h.attrs,nJ,eqSs_self,Bool.true_and,Bool.true_and];exact(idsB_at _ _ h.rows.symm).2 (fun i h1 h2=>(h.ids i h1 h2).symm)
theorem out_valid{t:Tb}{fds:List Fd}{l:List Cr}{c:Nat→Dm}(h:GenS (aS t fds l) c)(hB:TbN t)(hs:∀y,y<t.rows.length*t.attrs.length→bV (bC t y)=true){x:Nat}(hx:x<t.rows.length*t.attrs.length):bV (fw (fD t) c x)=true:=by
 by_cases h1:bM (c x)
 ·rw[fP h1]
  have hgt:0<cls (fD t) c x:=by
   unfold cls;rw[da];have h2:=(oW hB.bnd (by omega) (bO c (fp c x))).1;have h3:=(nA hB.bnd (da (fD t) (bO c (fp c x)))).1.gt;omega
  unfold bV;simp[show 1≤cls (fD t) c x by omega]
 ·obtain⟨v,hv⟩:=fj h1;rw[er hv];obtain⟨z,hz,hk⟩:=h.val_in hx hv;rw[(ee hk).1];exact hs z hz
theorem fil_valid{t:Tb}{fds:List Fd}{l:List Cr}{c:Nat→Dm}(g:CaseV t fds)(h:GenS (aS t fds l) c):TbV (ei t c)∧validT (ei t c)=0∧∀r∈(ei t c).rows,∀v∈r.vals,v.s.size≤maxLen:=by
 have hl:=fil_like t c
 have hcell:∀r∈(ei t c).rows,∀v∈r.vals,∃x,x<t.rows.length*t.attrs.length∧v=fw (fD t) c x:=fun r hr v hv=>by
  obtain⟨i,hi,rfl⟩:=List.mem_map.1 hr;obtain⟨a,ha,rfl⟩:=List.mem_map.1 hv;exact⟨_,aq (by simpa using hi) (by simpa using ha),rfl⟩
 have hT:TbV (ei t c):=by
  refine⟨⟨g.tv.ok.name,g.tv.ok.attrs,by rw[hl.rows];exact g.tv.ok.rows,g.tv.ok.strs⟩,g.tv.attrs,by rw[hl.rows];exact g.tv.rows,g.tv.names,g.tv.name,qE t c,fun r hr v hv=>?_,?_⟩
  ·obtain⟨x,hx,rfl⟩:=hcell r hr v hv;exact out_valid h g.num g.vals hx
  ·refine List.pairwise_iff_getElem.2 (fun i j hi hj hij=>?_);rw[hl.ids i (by rw[←hl.rows];exact hi) hi,hl.ids j (by rw[←hl.rows];exact hj) hj];exact List.pairwise_iff_getElem.1 g.tv.asc i j _ _ hij
 refine⟨hT,hT.validT (fun r hr=>?_),fun r hr v hv=>?_⟩
 ·obtain⟨i,hi,rfl⟩:=List.mem_iff_getElem.1 hr;rw[hl.ids i (by rw[←hl.rows];exact hi) hi];exact g.pos _ (List.getElem_mem _)
 ·obtain⟨x,hx,rfl⟩:=hcell r hr v hv;exact out_size h g.size hx
theorem fil_dif{t:Tb}{fds:List Fd}{l:List Cr}{c:Nat→Dm}(h:GenS (aS t fds l) c):∀x∈bT t (ei t c) (t.rows.length*t.attrs.length),x∈l:=fun x hx=>by
 unfold bT at hx;obtain⟨y,hy,rfl⟩:=List.mem_map.1 hx;rw[List.mem_filter,List.mem_range]at hy
 have hn:0<t.attrs.length:=by
  rcases Nat.eq_zero_or_pos t.attrs.length with e | e
  ·rw[e]at hy;omega
  ·exact e
 have hm:y / t.attrs.length<t.rows.length:=by rw[Nat.div_lt_iff_lt_mul hn];exact hy.1
 have hyy:y / t.attrs.length*t.attrs.length+y % t.attrs.length=y:=by rw[Nat.mul_comm];exact Nat.div_add_mod _ _
 have:=filT_only h (i:=y / t.attrs.length) (a:=y % t.attrs.length) hm (Nat.mod_lt _ hn);rw[hyy]at this;refine this (fun e=>?_);have h2:=hy.2;rw[e,(dF _ _).2 rfl]at h2;simp at h2
theorem OptR.cellsOk{t:Tb}{fds:List Fd}{u:Upd}{T:Nat→Bool}(g:CaseV t fds)(r:OptR t fds u T):CellsOk t u.cells∧u.cells.length≤9:=by
 have hs:aY u.cells:=by rw[r.cells];exact ke (dw _) T
 have hsub:∀c∈u.cells,c∈ak t:=fun c hc=>by
  rw[r.cells]at hc;exact r.cores.vsub c (qV c hc)
 have hl:=ju (bc hs) hsub;have:=g.small;exact⟨⟨hs,hsub,by omega⟩,by omega⟩
theorem CaseV.chk{t:Tb}{fds:List Fd}(g:CaseV t fds){l:List Cr}(h:CellsOk t l):dO t fds l=0:=chk_ok g.tv g.valid g.ferr (by have:=g.small;omega) h
theorem OptR.updOk{t:Tb}{fds:List Fd}{u:Upd}{T:Nat→Bool}(g:CaseV t fds)(r:OptR t fds u T):UpdOk u∧(∀r∈u.tab.rows,∀v∈r.vals,v.s.size≤maxLen)∧validT u.tab=0∧TbV u.tab:=by
 obtain⟨c,hc⟩:=genS_ok (fQ.1 r.enough);obtain⟨h1,h2,h3⟩:=fil_valid g hc;rw[←jg hc,←r.tab]at h1 h2 h3;have hN:=g.small;refine⟨⟨h1.ok,by have:=(r.cellsOk g).2;omega,by have:=r.cores.len hN;omega,fun K hK=>by have:=r.cores.klen K hK;omega,r.cores.flen hN,by have:=r.plen;omega⟩,h3,h2,h1⟩
theorem OptR.corB{t:Tb}{fds:List Fd}{u:Upd}{T:Nat→Bool}(g:CaseV t fds)(r:OptR t fds u T):corB t fds u.cores=true:=by
 refine List.all_eq_true.2 (fun j hj=>?_);rw[List.mem_range]at hj;have hm:=List.getElem_mem hj;have hN:=g.small;have hck:=g.chk ⟨r.cores.srt _ hm,r.cores.sub _ hm,by have:=r.cores.klen _ hm;omega⟩
 have hd:u.cores.getD j []=u.cores[j]:=by simp[hj]
 unfold nO;rw[hd,decide_eq_true hck,cN.2 (r.cores.core _ hm).nec];by_cases h0:j=0
 ·simp[h0]
 ·have hj1:j-1<u.cores.length:=by omega
  rw[show u.cores.getD (j-1) []=u.cores[j-1] by simp[hj1]];have:=List.pairwise_iff_getElem.1 r.cores.ord (j-1) j hj1 hj (by omega);simp[this]
theorem OptR.check{t:Tb}{fds:List Fd}{u:Upd}{T:Nat→Bool}(g:CaseV t fds)(r:OptR t fds u T):mb t fds u=true∧oI t fds u=true:=by
 obtain⟨hu,hsz,hval,htv⟩:=r.updOk g;obtain⟨hco,hcl⟩:=r.cellsOk g
 have h1:mb t fds u=true:=by
  obtain⟨c,hc⟩:=genS_ok (fQ.1 r.enough);have hfe:=jg hc
  have hal:gR t u.tab=true:=by rw[r.tab,hfe];exact(fil_like t c).alike
  have hda:(bT t u.tab (t.rows.length*t.attrs.length)).all (bsF u.cells)=true:=List.all_eq_true.2 (fun x hx=>by
   rw[r.tab,hfe]at hx
   exact(mf hco.sorted x).2 (fil_dif hc x hx))
  have hok:okB (aS u.tab fds [])=true:=by
   rw[←sat_okq htv g.fok,r.tab,hfe];exact lN.2 (filT_sat hc g.num g.tv g.fok)
  have hp:prfB u=true:=by
   unfold prfB;rw[r.cores.edges];exact r.prf
  unfold mb;rw[if_neg (by simp[g.chk hco]),if_neg (by simp[hval]),if_neg (by simp[hal]),if_neg (by simp[hda]),if_neg (by simp[r.corB g]),hok,hp];rfl
 exact⟨h1,by rw[←chk_same g.tv g.fok hu];exact h1⟩
theorem hit_least{t:Tb}{fds:List Fd}{u:Upd}{T:Nat→Bool}(r:OptR t fds u T){L:List Cr}(hL:Okq (aS t fds L))(hLc:∀c∈L,c∈ak t)(hLn:L.Nodup):u.cells.length≤L.length:=by
 rw[r.cells];exact hit_le (bc (dw _)) (vs_sub _) (fun K hK=>(r.cores.core K hK).nec) r.hit hL hLc hLn
theorem sel_nodup{t:Tb}(hv:TbV t)(b:Int):(bN t b (t.rows.length*t.attrs.length)).Nodup:=by
 unfold bN;refine iN (List.nodup_range.filter _) (fun a ha b hb he=>?_);exact hv.crAt_inj (List.mem_range.1 (List.mem_filter.1 ha).1) (List.mem_range.1 (List.mem_filter.1 hb).1) he
theorem sel_sub{t:Tb}(b:Int):∀c∈bN t b (t.rows.length*t.attrs.length),c∈ak t:=fun c hc=>by
 unfold bN at hc;obtain⟨x,hx,rfl⟩:=List.mem_map.1 hc;exact iq (List.mem_range.1 (List.mem_filter.1 hx).1)
theorem OptR.least{t:Tb}{fds:List Fd}{u:Upd}{T:Nat→Bool}(g:CaseV t fds)(r:OptR t fds u T):u.cells.length=lsF t fds (t.rows.length*t.attrs.length) (2^(t.rows.length*t.attrs.length)):=by
 classical
 obtain⟨hco,hcl⟩:=r.cellsOk g;refine Nat.le_antisymm ?_ ?_
 ·rcases lsF_at (t:=t) (fds:=fds) (N:=t.rows.length*t.attrs.length) (2^(t.rows.length*t.attrs.length)) with h | ⟨b,hb,hok,he⟩
  ·rw[h];exact ju (bc hco.sorted) hco.mem
  ·rw[he];exact hit_least r (fQ.1 hok) (sel_sub _) (sel_nodup g.tv _)
 ·obtain⟨b,hb,hs⟩:=sel_all (t:=t) g.small (fun x=>decide (bP t x∈u.cells))
  have hse:bN t (b:Int) (t.rows.length*t.attrs.length)=u.cells:=by
   refine gV _ _ ?_ hco.sorted (fun c=>?_)
   ·rw[hs];unfold aY;rw[List.pairwise_map]
    refine(List.pairwise_lt_range.filter _).imp_of_mem fun {x y} hx hy h=>?_
    exact g.tv.cells_lt h (List.mem_range.1 (List.mem_filter.1 hy).1)
   ·rw[hs,List.mem_map];constructor
    ·rintro⟨x,hx,rfl⟩;exact of_decide_eq_true (List.mem_filter.1 hx).2
    ·intro hc;obtain⟨x,hx,rfl⟩:=List.mem_map.1 (hco.mem c hc);exact⟨x,List.mem_filter.2 ⟨hx,decide_eq_true hc⟩,rfl⟩
  have:=lsF_le (t:=t) (fds:=fds) (N:=t.rows.length*t.attrs.length) (2^(t.rows.length*t.attrs.length)) b hb (by rw[hse];exact r.enough)
  rwa [hse]at this
theorem OptR.changes{t:Tb}{fds:List Fd}{u:Upd}{T:Nat→Bool}(g:CaseV t fds)(r:OptR t fds u T):(bT t u.tab (t.rows.length*t.attrs.length)).length=u.cells.length:=by
 obtain⟨c,hc⟩:=genS_ok (fQ.1 r.enough);have hfe:=jg hc;obtain⟨hu,hsz,hval,htv⟩:=r.updOk g;rw[r.tab,hfe]at htv ⊢;refine least_changes g.tv rfl (iS t c) htv.len htv.attrs g.fok (filT_sat hc g.num g.tv g.fok) (fun L h1 h2 h3=>hit_least r h1 h2 h3) (fil_dif hc)
theorem Check_r(t:Tb)(ff gg df:Bool)(fds:List Fd)(u:Upd)(hv:TbV t)(hF:bU fds)(hfl:fds.length≤1000000)(hu:UpdOk u)(hul:∀r∈u.tab.rows,∀v∈r.vals,v.s.size≤maxLen):aR Tryz.prog 29 [aG ff gg t,LF df fds,aV u] fun r=>r = .bool (oI t fds u):=by
 have ht:=hv.ok;obtain⟨hut,hucl,hucn,hucK,hucf,hup⟩:=hu;have c1:=error_r t ff gg df false fds u.cells ht hF (by omega);have c2:=differs_r t u.tab ff gg false false false u.cells hv hut (by omega) (fun h r hr=>⟨(jS hut h).len r hr,hul r hr⟩);simp only[aG,LS,LR,LC,LF]at c1 c2;by_cases h1:dO t fds u.cells=0
 ·rw[h1]at c1
  cases h2:difB t u.tab u.cells with
  | false =>
   rw[show oI t fds u=false by unfold oI;rw[if_neg (by simp[h1]),if_pos h2]];rw[h2]at c2;refine aC (aD tok Tryz.func29 rfl rfl ?_);refine wx ?_;simp -implicitDefEqProofs -dsimp[Tryz.f29,List.replicate,aG,LS,LR,LC,LF,aV,LLC,LNd];refine(aF (c1) (by simp)).mono ?_;rintro r H' ⟨rfl,rfl⟩;simp -implicitDefEqProofs -dsimp[aG,LS,LR,LC,LF,aV,LLC,LNd];refine(aF (c2) (by simp)).mono ?_;rintro r H' ⟨rfl,rfl⟩;simp -implicitDefEqProofs -dsimp[aG,LS,LR,LC,LF,aV,LLC,LNd]
  | true =>
   rw[h2]at c2
   have h2v:validT u.tab=0:=by
    unfold difB at h2;rw[Bool.and_eq_true]at h2;exact of_decide_eq_true h2.1
   have huv:=jS hut h2v;have c3:=satisfies_r u.tab false false df fds huv.rows (fun r hr=>⟨by rw[huv.len r hr];have:=huv.attrs;omega,hul r hr⟩) hfl;simp only[aG,LS,LR,LC,LF]at c3
   cases h3:satB u.tab fds with
   | false =>
    rw[show oI t fds u=false by unfold oI;rw[if_neg (by simp[h1]),if_neg (by simp[h2]),if_pos h3]];rw[h3]at c3;refine aC (aD tok Tryz.func29 rfl rfl ?_);refine wx ?_;simp -implicitDefEqProofs -dsimp[Tryz.f29,List.replicate,aG,LS,LR,LC,LF,aV,LLC,LNd];refine(aF (c1) (by simp)).mono ?_;rintro r H' ⟨rfl,rfl⟩;simp -implicitDefEqProofs -dsimp[aG,LS,LR,LC,LF,aV,LLC,LNd];refine(aF (c2) (by simp)).mono ?_;rintro r H' ⟨rfl,rfl⟩;simp -implicitDefEqProofs -dsimp[aG,LS,LR,LC,LF,aV,LLC,LNd];refine(aF (c3) (by simp)).mono ?_;rintro r H' ⟨rfl,rfl⟩;simp -implicitDefEqProofs -dsimp[aG,LS,LR,LC,LF,aV,LLC,LNd]
   | true =>
    rw[h3]at c3;have c4:=ol t ff gg hv.rows (by have:=hv.attrs;omega);obtain⟨A,hA⟩:∃A,A=ak t:=⟨_,rfl⟩
    have hAn:A.Nodup:=by rw[hA];exact bc hv.sorted
    have hAl:A.length≤60:=by rw[hA,gO];exact(kO ht h1).2.2.1
    rw[←hA]at c4;obtain⟨n,hn⟩:∃n,u.cores.length=n:=⟨_,rfl⟩;obtain⟨cB,hcB⟩:∃b,b=corB t fds u.cores:=⟨_,rfl⟩;obtain⟨vs,hvs⟩:∃vs,vs=vtx u.cores A A.length:=⟨_,rfl⟩;obtain⟨m,hm⟩:∃m,vs.length=m:=⟨_,rfl⟩
    have hm60:m≤60:=by rw[←hm,hvs];exact Nat.le_trans (vtx_len _ _ _) hAl
    obtain⟨E,hE⟩:∃b,b=oI t fds u:=⟨_,rfl⟩
    have hE0:E=if cB=false then false else fJ (aX m) (u.cores.map fun K=>edR vs K m) u.cells.length u.prf:=by
     rw[hE];unfold oI;rw[if_neg (by simp[h1]),if_neg (by simp[h2]),if_neg (by simp[h3]),←hcB,←hA,←hvs,hm]
    rw[←hE];clear hE
    have hrC:∀(k:Nat) (l:List Cr) (fz:Bool),rbB k (.buf 49 2 (crL l) fz):=fun k l fz=>gN _ _ _ _
    have hrI:∀(k:Nat) (l:List Int) (fz:Bool),rbB k (.buf 2 1 (l.map aW) fz):=fun k l fz=>(rbB_buf1 (fun x hx=>by obtain⟨y,_,rfl⟩:=List.mem_map.1 hx;exact⟨by simp[aW],rfl⟩)).2 trivial
    have hrN:∀(k:Nat) (l:List Nat) (fz:Bool),rbB k (.buf 3 1 (nuL l) fz):=fun k l fz=>(rbB_buf1 (cx l)).2 trivial
    have hrE:∀(k:Nat) (es:List (List Nat)) (fz:Bool),rbB k (.buf 109 1 (es.map (Ln false)) fz):=fun k es fz=>(rbB_buf1 (fun x hx=>by obtain⟨e,_,rfl⟩:=List.mem_map.1 hx;exact⟨by simp,rfl⟩)).2 trivial
    have hr0:∀k,rbB k (B.cells [.str t.name,.lst 1 ff (t.attrs.map V.str),.lst 2 gg (t.rows.map aL)]):=fun k=>by simp
    have hr1:∀k,rbB k (B.cells [.lst 2 false (u.cells.map aN),.str u.tab.name,.lst 1 false (u.tab.attrs.map V.str),.lst 2 false (u.tab.rows.map aL),.lst 1 false (u.cores.map (LC false)),.lst 2 false (u.prf.map aa)]):=fun k=>by simp
    have hrA2:∀(i j:Nat) (ws:List Int) (es:List (List Nat)) (c0 c1:V),(c0 = .buf 4 0 i i)→(c1 = .nilS)→∀bl∈[B.cells [.str t.name,.lst 1 ff (t.attrs.map V.str),.lst 2 gg (t.rows.map aL)],B.cells [.lst 2 false (u.cells.map aN),.str u.tab.name,.lst 1 false (u.tab.attrs.map V.str),.lst 2 false (u.tab.rows.map aL),.lst 1 false (u.cores.map (LC false)),.lst 2 false (u.prf.map aa)],B.buf 49 2 (vs.map aN) true,.cells [c0,c1],.buf 2 1 (ws.map aW) false],rbB 5 bl:=by
     intro i j ws es c0 c1 e0 e1 bl hbl;subst e0;subst e1;simp only[List.mem_cons,List.not_mem_nil,or_false]at hbl
     rcases hbl with rfl | rfl | rfl | rfl | rfl
     ·exact hr0 _
     ·exact hr1 _
     ·exact hrC _ _ _
     ·intro c hc;simp at hc;rcases hc with rfl | rfl<;>simp[rb]
     ·exact hrI _ _ _
    have hrA3:∀(j:Nat) (es:List (List Nat)),∀bl∈[B.cells [.str t.name,.lst 1 ff (t.attrs.map V.str),.lst 2 gg (t.rows.map aL)],B.cells [.lst 2 false (u.cells.map aN),.str u.tab.name,.lst 1 false (u.tab.attrs.map V.str),.lst 2 false (u.tab.rows.map aL),.lst 1 false (u.cores.map (LC false)),.lst 2 false (u.prf.map aa)],B.buf 49 2 (vs.map aN) true,.cells [L1 false (aX m),.buf 5 0 j j],.buf 2 1 ((aX m).map aW) true,.buf 109 1 (es.map (Ln false)) false],rbB 6 bl:=by
     intro j es bl hbl;simp only[List.mem_cons,List.not_mem_nil,or_false]at hbl
     rcases hbl with rfl | rfl | rfl | rfl | rfl | rfl
     ·exact hr0 _
     ·exact hr1 _
     ·exact hrC _ _ _
     ·intro c hc;simp at hc;rcases hc with rfl | rfl<;>simp[rb,L1,aW]
     ·exact hrI _ _ _
     ·exact hrE _ _ _
    have hrA4:∀(j:Nat) (es:List (List Nat)) (l:List Nat),∀bl∈[B.cells [.str t.name,.lst 1 ff (t.attrs.map V.str),.lst 2 gg (t.rows.map aL)],B.cells [.lst 2 false (u.cells.map aN),.str u.tab.name,.lst 1 false (u.tab.attrs.map V.str),.lst 2 false (u.tab.rows.map aL),.lst 1 false (u.cores.map (LC false)),.lst 2 false (u.prf.map aa)],B.buf 49 2 (vs.map aN) true,.cells [L1 false (aX m),.buf 5 0 j j],.buf 2 1 ((aX m).map aW) true,.buf 109 1 (es.map (Ln false)) false,.buf 3 1 (nuL l) false],rbB 7 bl:=by
     intro j es l bl hbl;simp only[List.mem_cons,List.not_mem_nil,or_false]at hbl
     rcases hbl with rfl | rfl | rfl | rfl | rfl | rfl | rfl
     ·exact hr0 _
     ·exact hr1 _
     ·exact hrC _ _ _
     ·intro c hc;simp at hc;rcases hc with rfl | rfl<;>simp[rb,L1,aW]
     ·exact hrI _ _ _
     ·exact hrE _ _ _
     ·exact hrN _ _ _
    have hrA:∀l fz,∀bl∈[B.cells [.str t.name,.lst 1 ff (t.attrs.map V.str),.lst 2 gg (t.rows.map aL)],B.cells [.lst 2 false (u.cells.map aN),.str u.tab.name,.lst 1 false (u.tab.attrs.map V.str),.lst 2 false (u.tab.rows.map aL),.lst 1 false (u.cores.map (LC false)),.lst 2 false (u.prf.map aa)],B.buf 49 2 (crL l) fz],rbB 3 bl:=by
     intro l fz bl hbl;simp only[List.mem_cons,List.not_mem_nil,or_false]at hbl
     rcases hbl with rfl | rfl | rfl
     ·exact hr0 _
     ·exact hr1 _
     ·exact hrC _ _ _
    simp only[aG,LS,LR,LC,LF]at c4;refine aC (aD tok Tryz.func29 rfl rfl ?_);refine wx ?_;simp -implicitDefEqProofs -dsimp[Tryz.f29,List.replicate,aG,LS,LR,LC,LF,aV,LLC,LNd];refine(aF (c1) (by simp)).mono ?_;rintro r H' ⟨rfl,rfl⟩;simp -implicitDefEqProofs -dsimp[aG,LS,LR,LC,LF,aV,LLC,LNd];refine(aF (c2) (by simp)).mono ?_;rintro r H' ⟨rfl,rfl⟩;simp -implicitDefEqProofs -dsimp[aG,LS,LR,LC,LF,aV,LLC,LNd];refine(aF (c3) (by simp)).mono ?_;rintro r H' ⟨rfl,rfl⟩;simp -implicitDefEqProofs -dsimp[aG,LS,LR,LC,LF,aV,LLC,LNd];refine(aF (c4) (by simp)).mono ?_;rintro r H' ⟨rfl,rfl⟩;simp -implicitDefEqProofs -dsimp[aG,LS,LR,LC,LF,aV,LLC,LNd];refine aK (eY 49 2 [8] (by simp) (W_loopM 79 [8,9,10,40,41,42,43,44,45,46,47,48,49,50,51,52,53,54,55,56,57,58,59,60,61,62,63,64,65,66,67,68,69,70,71,72,73,74,75,76,77,78] (by simp[mB]<;>rfl) (σ:=Nat) (fun i=>i≤A.length) (fun i=>A.length-i) (fun i=>[(9,.int .i64 i),(8,.buf 2 0 (vtx u.cores A i).length (vtx u.cores A i).length)]) (fun i=>[B.cells [.str t.name,.lst 1 ff (t.attrs.map V.str),.lst 2 gg (t.rows.map aL)],B.cells [.lst 2 false (u.cells.map aN),.str u.tab.name,.lst 1 false (u.tab.attrs.map V.str),.lst 2 false (u.tab.rows.map aL),.lst 1 false (u.cores.map (LC false)),.lst 2 false (u.prf.map aa)],B.buf 49 2 (crL (vtx u.cores A i)) false]) 0 (by omega) (by simp[vtx]) (by simp[vtx,crL]) (by simp) ?_));intro i hi N Q hN hQ;by_cases hb:i<A.length
    ·obtain⟨c,hc⟩:∃c,c=A[i]:=⟨_,rfl⟩;obtain⟨V0,hV0⟩:∃V0,V0=vtx u.cores A i:=⟨_,rfl⟩
     have hcV:c∉V0:=by rw[hc,hV0];exact vtx_not hAn hb
     have hV0l:V0.length≤i:=by rw[hV0];exact vtx_len _ _ _
     have hVs:vtx u.cores A (i+1)=vt2 u.cores V0 c n:=by
      rw[vtx_succ _ _ _ hb,←hV0,←hc];unfold vt2 inC;rw[List.take_of_length_le (by omega)]
     rw[←hV0];refine wx ?_;simp -implicitDefEqProofs -dsimp[hb,show(i:Int)<A.length by omega,aG,LS,LR,LC,LF,aV,LLC,LNd];refine aK (W_loopM 79 [8,10,46,47,48,49,50,51,52,53,54,55,56,57,58,59,60,61,62,63,64,65,66,67,68,69,70,71,72,73,74,75,76,77,78] (by simp[mB]<;>rfl) (σ:=Nat) (fun k=>k≤n) (fun k=>n-k) (fun k=>[(10,.int .i64 k),(8,.buf 2 0 (vt2 u.cores V0 c k).length (vt2 u.cores V0 c k).length)]) (fun k=>[B.cells [.str t.name,.lst 1 ff (t.attrs.map V.str),.lst 2 gg (t.rows.map aL)],B.cells [.lst 2 false (u.cells.map aN),.str u.tab.name,.lst 1 false (u.tab.attrs.map V.str),.lst 2 false (u.tab.rows.map aL),.lst 1 false (u.cores.map (LC false)),.lst 2 false (u.prf.map aa)],B.buf 49 2 (crL (vt2 u.cores V0 c k)) false]) 0 (by omega) (by simp[vt2]) (by simp[vt2]) (by simp) ?_);intro k hk N2 Q2 hN2 hQ2;by_cases hbk:k<n
     ·have hbc:k<u.cores.length:=by omega
      obtain⟨K,hKe⟩:∃K,K=u.cores[k]:=⟨_,rfl⟩
      have hKl:K.length≤100000:=by rw[hKe];exact hucK _ (List.getElem_mem _)
      have d1:=nn K c false (by omega)
      have hV2l:(vt2 u.cores V0 c k).length≤i+1:=by unfold vt2;split<;>simp<;>omega
      have d2:=nn (vt2 u.cores V0 c k) c false (by omega);rw[vt2_has hcV]at d2;have hcl:=bd (vt2 u.cores V0 c k);simp only[LC,aN]at d1 d2
      cases q1:eA K c with
      | false =>
       have hst:=vt2_same (V:=V0) hbc (.inl (by rw[←hKe];exact q1));rw[q1]at d1;refine wx ?_;simp -implicitDefEqProofs -dsimp[hbk,hbc,hn,hKe.symm,hb,hc.symm,aN,show(k:Int)<n by omega,aG,LS,LR,LC,LF,aV,LLC,LNd];refine .inr ⟨aI (by kernel_rfl),?_⟩;refine ae _ (aF (d1) (by simp)) ?_;simp -implicitDefEqProofs -dsimp[aJ k (by omega),aG,LS,LR,LC,LF,aV,LLC,LNd];refine hN2 (k+1) _ _ (by omega) (by omega) (by simp[hst]) ⟨[],by simp[hst]⟩ (by simp) (hrA _ _)
      | true =>
       rw[q1]at d1
       cases q2:(u.cores.take k).any (fun K=>eA K c) with
       | true =>
        have hst:=vt2_same (V:=V0) hbc (.inr q2);rw[q2]at d2;refine wx ?_;simp -implicitDefEqProofs -dsimp[hbk,hbc,hn,hKe.symm,hb,hc.symm,aN,show(k:Int)<n by omega,aG,LS,LR,LC,LF,aV,LLC,LNd];refine .inr ⟨aI (by kernel_rfl),?_⟩;refine ae _ (aF (d1) (by simp)) ?_;simp -implicitDefEqProofs -dsimp[hb,hc.symm,aN,aG,LS,LR,LC,LF,aV,LLC,LNd];refine ae _ (callX (args:=[.buf 2 0 (vt2 u.cores V0 c k).length (vt2 u.cores V0 c k).length,.agg [.int .i64 c.id,.int .i64 c.attr]]) d2 rfl (fun a v v' e1 e2=>?_) (.bool _)) ?_
        ·match a with
         | 0=>simp at e1 e2;subst e1;subst e2;exact expC (e:=49) (fz:=false) rfl rfl
         | 1=>simp at e1 e2;subst e1;subst e2;exact .pure _ (by simp)
         | a+2=>simp at e1
        simp -implicitDefEqProofs -dsimp[aJ k (by omega),aG,LS,LR,LC,LF,aV,LLC,LNd];refine hN2 (k+1) _ _ (by omega) (by omega) (by simp[hst]) ⟨[],by simp[hst]⟩ (by simp) (hrA _ _)
       | false =>
        obtain⟨e1,e2⟩:=vt2_new (V:=V0) hbc (by rw[←hKe];exact q1) q2;rw[q2]at d2;rw[e1]at d2 hcl ⊢;refine wx ?_;simp -implicitDefEqProofs -dsimp[hbk,hbc,hn,hKe.symm,hb,hc.symm,aN,show(k:Int)<n by omega,aG,LS,LR,LC,LF,aV,LLC,LNd];refine .inr ⟨aI (by kernel_rfl),?_⟩;refine ae _ (aF (d1) (by simp)) ?_;simp -implicitDefEqProofs -dsimp[hb,hc.symm,aN,aG,LS,LR,LC,LF,aV,LLC,LNd];refine ae _ (callX (args:=[.buf 2 0 V0.length V0.length,.agg [.int .i64 c.id,.int .i64 c.attr]]) d2 rfl (fun a v v' e1 e2=>?_) (.bool _)) ?_
        ·match a with
         | 0=>simp at e1 e2;subst e1;subst e2;exact expC (e:=49) (fz:=false) rfl rfl
         | 1=>simp at e1 e2;subst e1;subst e2;exact .pure _ (by simp)
         | a+2=>simp at e1
        simp -implicitDefEqProofs -dsimp[hb,hc.symm,aN,hcl,oA V0.length (by omega),aJ k (by omega),aG,LS,LR,LC,LF,aV,LLC,LNd];refine hN2 (k+1) _ _ (by omega) (by omega) (by simp[e2]) ⟨[],by simp[e2,crL,aN]⟩ (by simp) (hrA _ _)
     ·obtain rfl:k=n:=by omega
      refine wx ?_;simp -implicitDefEqProofs -dsimp[hbk,hn,aG,LS,LR,LC,LF,aV,LLC,LNd];refine hQ2 _ _ _ ?_;simp -implicitDefEqProofs -dsimp[aJ i (by omega),aG,LS,LR,LC,LF,aV,LLC,LNd];refine hN (i+1) _ _ (by omega) (by omega) (by simp[hVs]) ⟨[],by simp[hVs]⟩ (by simp) (hrA _ _)
    ·obtain rfl:i=A.length:=by omega
     rw[←hvs,hm];have hcl:=bd vs;refine qb 2 [8] rfl (by simp[hcl,hm]) ?_;simp only[crL]at hcl ⊢;refine wx ?_;simp -implicitDefEqProofs -dsimp[hb,aG,LS,LR,LC,LF,aV,LLC,LNd];refine hQ _ _ _ ?_;simp -implicitDefEqProofs -dsimp[aG,LS,LR,LC,LF,aV,LLC,LNd];refine aK (co 2 1 [] 3 [0] rfl (by simp) (by simp) (W_loopM 90 [12,79,80,81,82,83,84,85,86,87,88,89] (by simp[mB]<;>rfl) (σ:=Nat) (fun x=>x≤m) (fun x=>m-x) (fun x=>[(12,.int .i64 x)]) (fun x=>[B.cells [.str t.name,.lst 1 ff (t.attrs.map V.str),.lst 2 gg (t.rows.map aL)],B.cells [.lst 2 false (u.cells.map aN),.str u.tab.name,.lst 1 false (u.tab.attrs.map V.str),.lst 2 false (u.tab.rows.map aL),.lst 1 false (u.cores.map (LC false)),.lst 2 false (u.prf.map aa)],B.buf 49 2 (vs.map aN) true,B.cells [.buf 4 0 x x,.nilS],.buf 2 1 ((aX x).map aW) false]) 0 (by omega) (by simp[hm,hcl]) (by simp[aX]) (by simp) ?_));intro x hx N2 Q2 hN2 hQ2
     have hol:(aX x).length=x:=by simp[aX]
     by_cases hbx:x<m
     ·have hos:aX (x+1)=aX x++[1]:=by unfold aX;rw[List.replicate_succ']
      refine wx ?_;simp -implicitDefEqProofs -dsimp[hbx,hcl,hm,show(x:Int)<m by omega,aJ x (by omega),hol,cap8 x (by omega),aG,LS,LR,LC,LF,aV,LLC,LNd];refine hN2 (x+1) _ _ (by omega) (by omega) (by simp) ⟨[],by simp[hos,aW]⟩ (by simp) (hrA2 (x+1) 0 _ [] _ _ rfl rfl)
     ·obtain rfl:x=m:=by omega
      refine iA 4 [] 3 [0] rfl rfl (by simp) (by simp[hol]) ?_;refine wx ?_;simp -implicitDefEqProofs -dsimp[hbx,hcl,hm,aG,LS,LR,LC,LF,aV,LLC,LNd];refine hQ2 _ _ _ ?_;simp -implicitDefEqProofs -dsimp[aG,LS,LR,LC,LF,aV,LLC,LNd]
      obtain⟨eF,heF⟩:∃eF:Nat→List (List Nat),eF=fun j=>(u.cores.take j).map fun K=>edR vs K x:=⟨_,rfl⟩
      have hel:∀j,j≤n→(eF j).length=j:=fun j hj=>by rw[heF];simp;omega
      refine aK (co 109 1 [] 3 [1] rfl (by simp) (by simp) (W_loopM 162 [6,13,14,15,90,91,92,93,94,95,96,97,98,99,100,101,102,103,104,105,106,107,108,109,110,111,112,113,114,115,116,117,118,119,120,121,122,123,124,125,126,127,128,129,130,131,132,133,134,135,136,137,138,139,140,141,142,143,144,145,146,147,148,149,150,151,152,153,154,155,156,157,158,159,160,161] (by simp[mB]<;>rfl) (σ:=Nat) (fun j=>j≤n∧((List.range n).drop j).all (nO t fds u.cores)=cB) (fun j=>n-j) (fun j=>[(13,.int .i64 j)]) (fun j=>[B.cells [.str t.name,.lst 1 ff (t.attrs.map V.str),.lst 2 gg (t.rows.map aL)],B.cells [.lst 2 false (u.cells.map aN),.str u.tab.name,.lst 1 false (u.tab.attrs.map V.str),.lst 2 false (u.tab.rows.map aL),.lst 1 false (u.cores.map (LC false)),.lst 2 false (u.prf.map aa)],B.buf 49 2 (vs.map aN) true,B.cells [L1 false (aX x),.buf 5 0 j j],.buf 2 1 ((aX x).map aW) true,.buf 109 1 ((eF j).map (Ln false)) false]) 0 ⟨by omega,by rw[List.drop_zero,hcB,←hn];rfl⟩ (by simp) (by simp[heF,L1]) (by simp) ?_));rintro j ⟨hj,hy⟩ N3 Q3 hN3 hQ3;have hej:=hel j hj;by_cases hbj:j<n
      ·have hbc:j<u.cores.length:=by omega
       obtain⟨K,hKe⟩:∃K,K=u.cores[j]:=⟨_,rfl⟩
       have hKl:K.length≤100000:=by rw[hKe];exact hucK _ (List.getElem_mem _)
       have hKd:u.cores.getD j []=K:=by rw[hKe];simp[hbc]
       have hes:eF (j+1)=eF j++[edR vs K x]:=by rw[heF];simp only;rw[List.take_succ_eq_append_getElem hbc,List.map_append,←hKe];rfl
       rw[pO n j hbj,List.all_cons]at hy
       have hf:nO t fds u.cores j=false→E=false:=fun h=>by
        rw[h,Bool.false_and]at hy;rw[hE0,if_pos hy.symm]
       have hg:nO t fds u.cores j=true→((List.range n).drop (j+1)).all (nO t fds u.cores)=cB:=fun h=>by
        rw[h,Bool.true_and]at hy;exact hy
       clear hy;unfold nO at hf hg;rw[hKd]at hf hg;have d1:=error_r t ff gg df false fds K ht hF (by omega);simp only[aG,LS,LR,LC,LF]at d1;by_cases k1:dO t fds K=0
       ·rw[k1]at d1;have d2:=gc t ff gg df false fds K hv hF (by omega);simp only[aG,LS,LR,LC,LF]at d2
        cases k2:lX t fds K with
        | true =>
         rw[k2]at d2;rw[k1,k2]at hf hg;have w1:IntKind.i64.wrap (1:Int)=1:=wrap64 (by omega) (by omega);by_cases k3:j=0
         case' pos =>
          have hg:=hg (by simp[k3])
          have k3':¬(0:Int)<(j:Int):=by omega
          have k3n:¬0<j:=by omega
          refine wx ?_;simp -implicitDefEqProofs -dsimp[hbj,hbc,hn,hKe.symm,aG,LS,LR,LC,LF,aV,LLC,LNd];refine .inr ⟨aI (by kernel_rfl),?_⟩;refine ae _ (aF (d1) (by simp)) ?_;simp -implicitDefEqProofs -dsimp[hbj,hbc,hn,hKe.symm,aG,LS,LR,LC,LF,aV,LLC,LNd];refine ae _ (aF (d2) (by simp)) ?_;simp -implicitDefEqProofs -dsimp[k3',k3n,aG,LS,LR,LC,LF,aV,LLC,LNd]
         case' neg =>
          obtain⟨p,hjp⟩:∃p,j=p+1:=⟨j-1,by omega⟩;obtain⟨K',hKe'⟩:∃K',K'=u.cores[p]:=⟨_,rfl⟩
          have hKl':K'.length≤100000:=by rw[hKe'];exact hucK _ (List.getElem_mem _)
          have hKd':u.cores.getD p []=K':=by rw[hKe'];simp[show p<u.cores.length by omega]
          rw[show j-1=p by omega,hKd']at hf hg;have d4:=lessCells_r K' K false false (by omega) (by omega);rw[ltLs_eq]at d4;simp only[LC]at d4
          have wp:IntKind.i64.wrap ((j:Int)-1)=(p:Int):=by rw[wrap64 (by omega) (by omega)];omega
          have hp:p<u.cores.length:=by omega
          have hp2:p<n:=by omega
          have hj0:(0:Int)<(j:Int):=by omega
          have hj1:0<j:=by omega
          by_cases k4:au K' K<0
          case' neg =>
           have hf:=hf (by simp[k4,k3]);rw[decide_eq_false k4]at d4;refine wx ?_;simp -implicitDefEqProofs -dsimp[hbj,hbc,hn,hKe.symm,aG,LS,LR,LC,LF,aV,LLC,LNd];refine .inr ⟨aI (by kernel_rfl),?_⟩;refine ae _ (aF (d1) (by simp)) ?_;simp -implicitDefEqProofs -dsimp[hbj,hbc,hn,hKe.symm,aG,LS,LR,LC,LF,aV,LLC,LNd];refine ae _ (aF (d2) (by simp)) ?_;simp -implicitDefEqProofs -dsimp[hj0,hj1,wp,hKe'.symm,hp,hp2,hn,hbj,hKe.symm,hbc,aG,LS,LR,LC,LF,aV,LLC,LNd];refine ae _ (aF (d4) (by simp)) ?_;simp -implicitDefEqProofs -dsimp[aG,LS,LR,LC,LF,aV,LLC,LNd];refine hQ3 _ _ _ ?_;simp -implicitDefEqProofs -dsimp[aG,LS,LR,LC,LF,aV,LLC,LNd];exact hf
          have hg:=hg (by simp[k4]);rw[decide_eq_true k4]at d4;refine wx ?_;simp -implicitDefEqProofs -dsimp[hbj,hbc,hn,hKe.symm,aG,LS,LR,LC,LF,aV,LLC,LNd];refine .inr ⟨aI (by kernel_rfl),?_⟩;refine ae _ (aF (d1) (by simp)) ?_;simp -implicitDefEqProofs -dsimp[hbj,hbc,hn,hKe.symm,aG,LS,LR,LC,LF,aV,LLC,LNd];refine ae _ (aF (d2) (by simp)) ?_;simp -implicitDefEqProofs -dsimp[hj0,hj1,wp,hKe'.symm,hp,hp2,hn,hbj,hKe.symm,hbc,aG,LS,LR,LC,LF,aV,LLC,LNd];refine ae _ (aF (d4) (by simp)) ?_;simp -implicitDefEqProofs -dsimp[aG,LS,LR,LC,LF,aV,LLC,LNd]
         all_goals
          refine aK (eY 3 1 [14] (by simp) (W_loopM 156 [14,15,136,137,138,139,140,141,142,143,144,145,146,147,148,149,150,151,152,153,154,155] (by simp[mB]<;>rfl) (σ:=Nat) (fun y=>y≤x) (fun y=>x-y) (fun y=>[(15,.int .i64 y),(14,.buf 6 0 (edR vs K y).length (edR vs K y).length)]) (fun y=>[B.cells [.str t.name,.lst 1 ff (t.attrs.map V.str),.lst 2 gg (t.rows.map aL)],B.cells [.lst 2 false (u.cells.map aN),.str u.tab.name,.lst 1 false (u.tab.attrs.map V.str),.lst 2 false (u.tab.rows.map aL),.lst 1 false (u.cores.map (LC false)),.lst 2 false (u.prf.map aa)],B.buf 49 2 (vs.map aN) true,B.cells [L1 false (aX x),.buf 5 0 j j],.buf 2 1 ((aX x).map aW) true,.buf 109 1 ((eF j).map (Ln false)) false,.buf 3 1 (nuL (edR vs K y)) false]) 0 (by omega) (by simp[edR]) (by simp[edR,nuL,L1]) (by simp) ?_));intro y hy N4 Q4 hN4 hQ4;have hnl:=aw (edR vs K y);have hyl:=edR_len vs K y;by_cases hby:y<x
          ·have hbv:y<vs.length:=by omega
           obtain⟨c,hc⟩:∃c,c=vs[y]:=⟨_,rfl⟩
           have hcD:dg vs y=c:=by rw[hc];simp[dg,hbv]
           have d3:=nn K c false (by omega);simp only[LC,aN]at d3
           cases q1:eA K c with
           | true =>
            rw[q1]at d3;have hst:=edR_yes (vs:=vs) (K:=K) (x:=y) (by rw[hcD];exact q1);refine wx ?_;simp -implicitDefEqProofs -dsimp[hby,hbv,hm,hc.symm,aN,hbj,hbc,hn,hKe.symm,aG,LS,LR,LC,LF,aV,LLC,LNd];refine .inr ⟨aI (by kernel_rfl),?_⟩;refine ae _ (aF (d3) (by simp)) ?_;simp -implicitDefEqProofs -dsimp[hnl,cap8 (edR vs K y).length (by omega),aJ y (by omega),aG,LS,LR,LC,LF,aV,LLC,LNd];refine hN4 (y+1) _ _ (by omega) (by omega) (by simp[hst,hm]) ⟨[],by simp[hst,nuL,eN]⟩ (by simp) (hrA4 j (eF j) _)
           | false =>
            rw[q1]at d3;have hst:=edR_no (vs:=vs) (K:=K) (x:=y) (by rw[hcD];exact q1);refine wx ?_;simp -implicitDefEqProofs -dsimp[hby,hbv,hm,hc.symm,aN,hbj,hbc,hn,hKe.symm,aG,LS,LR,LC,LF,aV,LLC,LNd];refine .inr ⟨aI (by kernel_rfl),?_⟩;refine ae _ (aF (d3) (by simp)) ?_;simp -implicitDefEqProofs -dsimp[aJ y (by omega),aG,LS,LR,LC,LF,aV,LLC,LNd];refine hN4 (y+1) _ _ (by omega) (by omega) (by simp[hst,hm]) ⟨[],by simp[hst]⟩ (by simp) (hrA4 j (eF j) _)
          ·obtain rfl:y=x:=by omega
           refine qb 6 [14] rfl (by simp[hnl]) ?_;refine wx ?_;simp -implicitDefEqProofs -dsimp[hby,hm,aG,LS,LR,LC,LF,aV,LLC,LNd];refine hQ4 _ _ _ ?_;simp -implicitDefEqProofs -dsimp[hej,cap24 j (by omega),aJ j (by omega),aG,LS,LR,LC,LF,aV,LLC,LNd];refine hN3 (j+1) _ _ ⟨by omega,hg⟩ (by omega) (by simp[hn,hm]) ⟨_,by simp[hes,Ln,nuL];rfl⟩ (by simp) (hrA3 (j+1) (eF (j+1)))
        | false =>
         rw[k2]at d2;rw[k1,k2]at hf;have hf:=hf (by simp);refine wx ?_;simp -implicitDefEqProofs -dsimp[hbj,hbc,hn,hKe.symm,aG,LS,LR,LC,LF,aV,LLC,LNd];refine .inr ⟨aI (by kernel_rfl),?_⟩;refine ae _ (aF (d1) (by simp)) ?_;simp -implicitDefEqProofs -dsimp[hbj,hbc,hn,hKe.symm,aG,LS,LR,LC,LF,aV,LLC,LNd];refine ae _ (aF (d2) (by simp)) ?_;simp -implicitDefEqProofs -dsimp[aG,LS,LR,LC,LF,aV,LLC,LNd];refine hQ3 _ _ _ ?_;simp -implicitDefEqProofs -dsimp[aG,LS,LR,LC,LF,aV,LLC,LNd];exact hf
       ·have hf:=hf (by simp[k1]);refine wx ?_;simp -implicitDefEqProofs -dsimp[hbj,hbc,hn,hKe.symm,aG,LS,LR,LC,LF,aV,LLC,LNd];refine .inr ⟨aI (by kernel_rfl),?_⟩;refine ae _ (aF (d1) (by simp)) ?_;simp -implicitDefEqProofs -dsimp[k1,aG,LS,LR,LC,LF,aV,LLC,LNd];refine hQ3 _ _ _ ?_;simp -implicitDefEqProofs -dsimp[aG,LS,LR,LC,LF,aV,LLC,LNd];exact hf
      ·obtain rfl:j=n:=by omega
       rw[List.drop_of_length_le (by simp),List.all_nil]at hy;rw[if_neg (by rw[←hy];simp)]at hE0
       have hen:eF j=u.cores.map fun K=>edR vs K x:=by rw[heF];simp only;rw[List.take_of_length_le (by omega)]
       rw[←hen]at hE0;have c7:=check39 (aX x) (eF j) false false false (u.cells.length:Int) u.prf (fun e he=>by rw[hen]at he;obtain⟨K,hK,rfl⟩:=List.mem_map.1 he;have:=edR_len vs K x;omega) hup;rw[←hE0]at c7;simp only[ab,L1,LLn,LNd]at c7;refine iA 5 [] 3 [1] rfl rfl (by simp) (by simp[hej,L1]) ?_;refine wx ?_;simp -implicitDefEqProofs -dsimp[hbj,hn,aG,LS,LR,LC,LF,aV,LLC,LNd];refine hQ3 _ _ _ ?_;simp -implicitDefEqProofs -dsimp[iD u.cells.length (by omega),L1,aG,LS,LR,LC,LF,aV,LLC,LNd];refine(aF (c7) (by simp)).mono ?_;rintro r H' ⟨rfl,rfl⟩;simp -implicitDefEqProofs -dsimp[aG,LS,LR,LC,LF,aV,LLC,LNd]
 ·rw[show oI t fds u=false by unfold oI;rw[if_pos h1]];refine aC (aD tok Tryz.func29 rfl rfl ?_);refine wx ?_;simp -implicitDefEqProofs -dsimp[Tryz.f29,List.replicate,aG,LS,LR,LC,LF,aV,LLC,LNd];refine(aF (c1) (by simp)).mono ?_;rintro r H' ⟨rfl,rfl⟩;simp -implicitDefEqProofs -dsimp[h1,aG,LS,LR,LC,LF,aV,LLC,LNd]
def StepQ(q:Prob)(H:List B)(b:Nat)(S:Nat)(e:Nat→En)(r:V)(H':List B):Prop :=
 (r = .int .i64 0∧fX q (fun x=>toD (e x))∧∃G,H'=He H b q.m q.n e++G)∨(r = .int .i64 (-1)∧¬Okq q∧∃G,H'=He H b q.m q.n e++G)∨
 (r = .int .i64 1∧∃e' G,H'=He H b q.m q.n e'++G∧Ent q (fun x=>toD (e' x))∧EnOk e' (q.m*q.n) S∧oH (q.m*q.n) (S+1) (fun x=>toD (e' x))<oH (q.m*q.n) (S+1) (fun x=>toD (e x)))
theorem step_q{q:Prob}{H:List B}{ko b m n S:Nat}(hme:q.m=m)(hne:q.n=n)(g:EOk H ko b m n)(e:Nat→En)(hE:Ent q (fun x=>toD (e x)))(hO:EnOk e (q.m*q.n) S)(hn:n≤16)(hm:m≤1000)(ff:Bool)(hF:bU q.fds):
  bA Tryz.prog 91 [.buf ko 0 m m,LF ff q.fds] (He H b m n e) (StepQ q H b S e):=by
 obtain⟨hF1,hF2⟩:=hF;have hclo:=qS hO (by omega) hF2;obtain⟨fds,hfds⟩:∃fds,fds=q.fds:=⟨_,rfl⟩;have hout:=pq g e;have hol:=eL b m n;have hlenA:=cO H b m n e;have hrb:=lq g e;have hlt:=g.lt
 have hkl:ko<(He H b m n e).length:=by rw[hlenA];have:=g.no;omega
 rw[←hfds]at hF1 hF2 hclo ⊢;refine aD tok Tryz.func91 rfl rfl ?_;refine wx ?_;simp -implicitDefEqProofs -dsimp[Tryz.f91,List.replicate,LF];refine aK (W_loopM 99 [4,5,6,7,8,9,10,11,12,13,14,15,16,17,18,19,20,21,22,23,24,25,26,27,28,29,30,31,32,33,34,35,36,37,38,39,40,41,42,43,44,45,46,47,48,49,50,51,52,53,54,55,56,57,58,59,60,61,62,63,64,65,66,67,68,69,70,71,72,73,74,75,76,77,78,79,80,81,82,83,84,85,86,87,88,89,90,91,92,93,94,95,96,97,98] (by simp[mB]<;>rfl) (σ:=Nat) (fun j=>j≤fds.length∧∀d∈fds.take j,∀i k,i<m→k<i→ClsN q e d i k) (fun j=>fds.length-j) (fun j=>[(5,.int .i64 j)]) (fun _=>He H b m n e) 0 ⟨by omega,by simp⟩ (by simp) rfl (by simp) ?_);rintro j ⟨hj,hx⟩ N Q hN hQ;by_cases hjb:j<fds.length
 ·obtain⟨d,hd⟩:∃d,d=fds[j]:=⟨_,rfl⟩;have hd':=hd.symm;have hdm:d∈fds:=hd▸List.getElem_mem hjb;have hdb:=hF2 d hdm;refine wx ?_;simp -implicitDefEqProofs -dsimp[hjb];refine aK (W_loopM 99 [4,6,7,8,9,10,17,18,19,20,21,22,23,24,25,26,27,28,29,30,31,32,33,34,35,36,37,38,39,40,41,42,43,44,45,46,47,48,49,50,51,52,53,54,55,56,57,58,59,60,61,62,63,64,65,66,67,68,69,70,71,72,73,74,75,76,77,78,79,80,81,82,83,84,85,86,87,88,89,90,91,92,93,94,95,96,97,98] (by simp[mB]<;>rfl) (σ:=Nat) (fun i=>i≤m∧∀i' k,i'<i→k<i'→ClsN q e d i' k) (fun i=>m-i) (fun i=>[(6,.int .i64 i)]) (fun _=>He H b m n e) 0 ⟨by omega,fun i' k h=>by omega⟩ (by simp) rfl (by simp) ?_);rintro i ⟨hi,hx2⟩ N2 Q2 hN2 hQ2;by_cases hib:i<m
  ·have hog:=fun h=>iL (b:=b) (m:=m) (n:=n) (i:=i) h
   have hrow:=gw g e hib;have hrl:=cM e n i
   have hbl:b+i<(He H b m n e).length:=by rw[hlenA];omega
   refine wx ?_;simp -implicitDefEqProofs -dsimp[hout,hol,hib];refine aK (W_loopM 99 [4,7,8,9,10,23,24,25,26,27,28,29,30,31,32,33,34,35,36,37,38,39,40,41,42,43,44,45,46,47,48,49,50,51,52,53,54,55,56,57,58,59,60,61,62,63,64,65,66,67,68,69,70,71,72,73,74,75,76,77,78,79,80,81,82,83,84,85,86,87,88,89,90,91,92,93,94,95,96,97,98] (by simp[mB]<;>rfl) (σ:=Nat) (fun k=>k≤i∧∀k',k'<k→ClsN q e d i k') (fun k=>i-k) (fun k=>[(7,.int .i64 k)]) (fun _=>He H b m n e) 0 ⟨by omega,fun k h=>by omega⟩ (by simp) rfl (by simp) ?_);rintro k ⟨hk,hx3⟩ N3 Q3 hN3 hQ3;by_cases hkb:k<i
   ·have hkm:k<m:=by omega
    have hog2:=fun h=>iL (b:=b) (m:=m) (n:=n) (i:=k) h
    have hrow2:=gw g e hkm;have hrl2:=cM e n k
    have hbl2:b+k<(He H b m n e).length:=by rw[hlenA];omega
    have ca:=agree_e g e i k (d.l:Int) hib hkm hn
    cases ha1:agN e i k d.l n with
    | false =>
     rw[ha1]at ca;refine wx ?_;simp -implicitDefEqProofs -dsimp[hkb,hout,hol,hib,hkm,hog,hog2,hjb,hd',cT];refine .inr ⟨aI (by kernel_rfl),?_⟩;refine ae _ ca ?_;simp -implicitDefEqProofs -dsimp[aJ k (by omega)];refine hN3 (k+1) _ _ ⟨by omega,fun k' hk'=>?_⟩ (by omega) (by simp) ⟨[],by simp⟩ (by simp[hkl]) hrb
     rcases Nat.lt_or_ge k' k with h1 | h1
     ·exact hx3 k' h1
     ·have:k'=k:=by omega
      subst this;intro hy;rw[hne]at hy;rw[kS.2 hy]at ha1;cases ha1
    | true =>
     rw[ha1]at ca;have hag:=kS.1 ha1;refine wx ?_;simp -implicitDefEqProofs -dsimp[hkb,hout,hol,hib,hkm,hog,hog2,hjb,hd',cT];refine .inr ⟨aI (by kernel_rfl),?_⟩;refine ae _ ca ?_;simp -implicitDefEqProofs -dsimp[];refine aK (W_loopM 99 [4,8,9,10,43,44,45,46,47,48,49,50,51,52,53,54,55,56,57,58,59,60,61,62,63,64,65,66,67,68,69,70,71,72,73,74,75,76,77,78,79,80,81,82,83,84,85,86,87,88,89,90,91,92,93,94,95,96,97,98] (by simp[mB]<;>rfl) (σ:=Nat) (fun a=>a≤n∧AgrN e i k d.r n a) (fun a=>n-a) (fun a=>[(8,.int .i64 a)]) (fun _=>He H b m n e) 0 ⟨by omega,fun a h=>by omega⟩ (by simp) rfl (by simp) ?_);rintro a ⟨ha,hx4⟩ N4 Q4 hN4 hQ4;by_cases hab:a<n
     ·have x1:=fun h=>eJ (e:=e) (n:=n) (i:=i) (a:=a) h
      have x2:=fun h=>eJ (e:=e) (n:=n) (i:=k) (a:=a) h
      obtain⟨p,hp⟩:∃p,p=e (i*n+a):=⟨_,rfl⟩;obtain⟨r,hr⟩:∃r,r=e (k*n+a):=⟨_,rfl⟩;rw[←hp]at x1;rw[←hr]at x2
      have ho1:∀G,(He H b m n e++G)[ko]?=some (B.buf 115 1 (eh b m n) false):=fun G=>by rw[List.getElem?_append_left hkl];exact hout
      have ho2:∀G,(He H b m n e++G)[b+i]?=some (B.buf 117 4 (dR e n i) false):=fun G=>by rw[List.getElem?_append_left hbl];exact hrow
      have ho3:∀G,(He H b m n e++G)[b+k]?=some (B.buf 117 4 (dR e n k) false):=fun G=>by rw[List.getElem?_append_left hbl2];exact hrow2
      refine wx ?_;simp -implicitDefEqProofs -dsimp[hout,hol,hib,hog,hrow,hrl,hab]
      refine aK (W_draw2 tok mixed [14,15,16,17] [15,14,16,17] []
       [He H b m n e++[.cells [.int .i64 0,.int .i64 0,.str ByteArray.empty,.int .i64 0]],He H b m n e++[.cells [.int .i64 0,.int .i64 0,.str ByteArray.empty,.int .i64 0],.cells [.int .i64 0,.int .i64 0,.str ByteArray.empty,.int .i64 0]],
        He H b m n e++[.cells [.int .i64 p.v.k,.int .i64 p.v.n,.str p.v.s,.int .i64 p.s],.cells [.int .i64 0,.int .i64 0,.str ByteArray.empty,.int .i64 0]],He H b m n e++[.cells [.int .i64 p.v.k,.int .i64 p.v.n,.str p.v.s,.int .i64 p.s],.cells [.int .i64 r.v.k,.int .i64 r.v.n,.str r.v.s,.int .i64 r.s]]]
       [He H b m n e++[.cells [.int .i64 0,.int .i64 0,.str ByteArray.empty,.int .i64 0]],He H b m n e++[.cells [.int .i64 0,.int .i64 0,.str ByteArray.empty,.int .i64 0],.cells [.int .i64 0,.int .i64 0,.str ByteArray.empty,.int .i64 0]],
        He H b m n e++[.cells [.int .i64 0,.int .i64 0,.str ByteArray.empty,.int .i64 0],.cells [.int .i64 p.v.k,.int .i64 p.v.n,.str p.v.s,.int .i64 p.s]],He H b m n e++[.cells [.int .i64 r.v.k,.int .i64 r.v.n,.str r.v.s,.int .i64 r.s],.cells [.int .i64 p.v.k,.int .i64 p.v.n,.str p.v.s,.int .i64 p.s]]]
       (by kernel_rfl) fun K hK=>?_)
      simp -implicitDefEqProofs [hout,hol,hib,hkm,hog,hog2,hrow,hrow2,hrl,hrl2,hab,x1,x2,ho1,ho2,ho3,bX,hlenA,r5,ia1,ia2,ia3,ia4,ib1,ib2,ib3,ib4];obtain⟨L,hL⟩:∃L,L=H.length:=⟨_,rfl⟩;rw[←hL]at hlenA ⊢;obtain⟨P4,hP4⟩:∃P4,P4=B.cells [.int .i64 p.v.k,.int .i64 p.v.n,.str p.v.s,.int .i64 p.s]:=⟨_,rfl⟩;obtain⟨R4,hR4⟩:∃R4,R4=B.cells [.int .i64 r.v.k,.int .i64 r.v.n,.str r.v.s,.int .i64 r.s]:=⟨_,rfl⟩
      have y1:(He H b m n e++[P4,R4])[L]?=some (B.cells [.int .i64 p.v.k,.int .i64 p.v.n,.str p.v.s,.int .i64 p.s]):=by rw[List.getElem?_append_right (by omega),hlenA,hP4];simp
      have y2:(He H b m n e++[P4,R4])[L+1]?=some (B.cells [.int .i64 r.v.k,.int .i64 r.v.n,.str r.v.s,.int .i64 r.s]):=by rw[List.getElem?_append_right (by omega),hlenA,hR4];simp
      have y3:(He H b m n e++[R4,P4])[L+1]?=some (B.cells [.int .i64 p.v.k,.int .i64 p.v.n,.str p.v.s,.int .i64 p.s]):=by rw[List.getElem?_append_right (by omega),hlenA,hP4];simp
      have y4:(He H b m n e++[R4,P4])[L]?=some (B.cells [.int .i64 r.v.k,.int .i64 r.v.n,.str r.v.s,.int .i64 r.s]):=by rw[List.getElem?_append_right (by omega),hlenA,hR4];simp
      have rbP:∀k,rbB k P4:=fun k=>by rw[hP4];simp
      have rbR:∀k,rbB k R4:=fun k=>by rw[hR4];simp
      rw[←hP4,←hR4]
      have again:(fF (d.r:Int) a=true→p=r)→AgrN e i k d.r n (a+1):=fun h c hc1 hc2=>by
       rcases Nat.lt_or_ge c a with h1 | h1
       ·exact hx4 c h1 hc2
       ·have:c=a:=by omega
        subst this;rw[←hp,←hr];exact h hc2
      cases hh:fF (d.r:Int) a with
      | false =>
       have hag2:=again (fun h=>by rw[hh]at h;cases h);refine⟨hK _ _ ?_,hK _ _ ?_⟩
       all_goals
        simp -implicitDefEqProofs -dsimp[hjb,hd',cT,cA,hh,show(a:Int)<32 by omega,aJ a (by omega)];refine hN4 (a+1) _ _ ⟨by omega,hag2⟩ (by omega) (by simp) ⟨_,rfl⟩ (by simp[hkl,hbl,hbl2]) hrb
      | true =>
       cases heq:nu p r with
       | true =>
        have hag2:=again (fun _=>(eB p r).1 heq);refine⟨hK _ _ ?_,hK _ _ ?_⟩
        all_goals
         simp -implicitDefEqProofs -dsimp[hjb,hd',cT,cA,hh,show(a:Int)<32 by omega,y1,y2,y3,y4,kW,heq,aJ a (by omega)];refine hN4 (a+1) _ _ ⟨by omega,hag2⟩ (by omega) (by simp) ⟨_,rfl⟩ (by simp[hkl,hbl,hbl2]) hrb
       | false =>
        have hpr:e (i*n+a)≠e (k*n+a):=fun h=>by
         rw[hp,hr,(eB _ _).2 h]at heq;cases heq
        have li:=aq hib hab;have lk:=aq hkm hab;have hsem:=step_sem hE hO (by omega) (hfds▸hdm) hdb (show i<q.m by omega) hkb (by rw[hne];exact hag) (by rw[hne];exact hab) hh;rw[hne]at hsem
        have hq1:i*n+a<q.m*q.n:=by rw[hme,hne];exact li
        have hq2:k*n+a<q.m*q.n:=by rw[hme,hne];exact lk
        by_cases s1:p.s=0
        ·by_cases s2:r.s=0
         ·have z1:(p.s == 0)=true:=by simp[s1]
          have z2:(r.s == 0)=true:=by simp[s2]
          have hno:=pB hE (S:=S) hq1 hq2 (by rw[←hp];exact s1) (by rw[←hr];exact s2) hpr hsem;refine⟨hK _ _ ?_,hK _ _ ?_⟩
          all_goals
           simp -implicitDefEqProofs -dsimp[hjb,hd',cT,cA,hh,show(a:Int)<32 by omega,y1,y2,y3,y4,kW,heq,z1,z2];refine hQ4 _ _ _ ?_;simp -implicitDefEqProofs -dsimp[];refine hQ3 _ _ _ ?_;simp -implicitDefEqProofs -dsimp[];refine hQ2 _ _ _ ?_;simp -implicitDefEqProofs -dsimp[];refine hQ _ _ _ ?_;simp -implicitDefEqProofs -dsimp[];exact .inr (.inl ⟨rfl,hno,by rw[hme,hne];exact⟨_,rfl⟩⟩)
         ·have z1:(p.s == 0)=true:=by simp[s1]
          have z2:(r.s == 0)=false:=by simp[s2]
          have hrep:=lL hE hO hq2 hq1 (by rw[←hr];exact s2) (fun h=>hpr h.symm) (fun σ hσ=>(hsem σ hσ).symm);rw[hme,hne,←hp,←hr]at hrep;have c1:=dW (g.app [P4,R4] (by simp[↓rbP,↓rbR])) e r p hn hm;have c2:=dW (g.app [R4,P4] (by simp[↓rbP,↓rbR])) e r p hn hm;rw[←dc g]at c1 c2
          have a1:=fun G=>congrArg (·++G) (dc g [P4,R4] (bF e r p (m*n))).symm
          have a2:=fun G=>congrArg (·++G) (dc g [R4,P4] (bF e r p (m*n))).symm
          simp only[bX]at c1 c2;refine⟨hK _ _ ?_,hK _ _ ?_⟩
          ·simp -implicitDefEqProofs -dsimp[hjb,hd',cT,cA,hh,show(a:Int)<32 by omega,y1,y2,kW,heq,z1,z2];refine aT.mono (K:=fun r' H'=>∃G,H'=He (H++[P4,R4]) b m n (bF e r p (m*n))++G) c1 ?_;rintro r' H' ⟨G,rfl⟩;simp -implicitDefEqProofs -dsimp[];refine hQ4 _ _ _ ?_;simp -implicitDefEqProofs -dsimp[];refine hQ3 _ _ _ ?_;simp -implicitDefEqProofs -dsimp[];refine hQ2 _ _ _ ?_;simp -implicitDefEqProofs -dsimp[];refine hQ _ _ _ ?_;simp -implicitDefEqProofs -dsimp[];exact .inr (.inr ⟨rfl,_,_,by rw[hme,hne];exact(a1 G).trans (List.append_assoc _ _ _),by simpa only[hme,hne] using hrep⟩)
          ·simp -implicitDefEqProofs -dsimp[hjb,hd',cT,cA,hh,show(a:Int)<32 by omega,y3,y4,kW,heq,z1,z2];refine aT.mono (K:=fun r' H'=>∃G,H'=He (H++[R4,P4]) b m n (bF e r p (m*n))++G) c2 ?_;rintro r' H' ⟨G,rfl⟩;simp -implicitDefEqProofs -dsimp[];refine hQ4 _ _ _ ?_;simp -implicitDefEqProofs -dsimp[];refine hQ3 _ _ _ ?_;simp -implicitDefEqProofs -dsimp[];refine hQ2 _ _ _ ?_;simp -implicitDefEqProofs -dsimp[];refine hQ _ _ _ ?_;simp -implicitDefEqProofs -dsimp[];exact .inr (.inr ⟨rfl,_,_,by rw[hme,hne];exact(a2 G).trans (List.append_assoc _ _ _),by simpa only[hme,hne] using hrep⟩)
        ·have z1:(p.s == 0)=false:=by simp[s1]
         have z2:True:=trivial;have hrep:=lL hE hO hq1 hq2 (by rw[←hp];exact s1) hpr hsem;rw[hme,hne,←hp,←hr]at hrep;have c1:=dW (g.app [P4,R4] (by simp[↓rbP,↓rbR])) e p r hn hm;have c2:=dW (g.app [R4,P4] (by simp[↓rbP,↓rbR])) e p r hn hm;rw[←dc g]at c1 c2
         have a1:=fun G=>congrArg (·++G) (dc g [P4,R4] (bF e p r (m*n))).symm
         have a2:=fun G=>congrArg (·++G) (dc g [R4,P4] (bF e p r (m*n))).symm
         simp only[bX]at c1 c2;refine⟨hK _ _ ?_,hK _ _ ?_⟩
         ·simp -implicitDefEqProofs -dsimp[hjb,hd',cT,cA,hh,show(a:Int)<32 by omega,y1,y2,kW,heq,z1,z2];refine aT.mono (K:=fun r' H'=>∃G,H'=He (H++[P4,R4]) b m n (bF e p r (m*n))++G) c1 ?_;rintro r' H' ⟨G,rfl⟩;simp -implicitDefEqProofs -dsimp[];refine hQ4 _ _ _ ?_;simp -implicitDefEqProofs -dsimp[];refine hQ3 _ _ _ ?_;simp -implicitDefEqProofs -dsimp[];refine hQ2 _ _ _ ?_;simp -implicitDefEqProofs -dsimp[];refine hQ _ _ _ ?_;simp -implicitDefEqProofs -dsimp[];exact .inr (.inr ⟨rfl,_,_,by rw[hme,hne];exact(a1 G).trans (List.append_assoc _ _ _),by simpa only[hme,hne] using hrep⟩)
         ·simp -implicitDefEqProofs -dsimp[hjb,hd',cT,cA,hh,show(a:Int)<32 by omega,y3,y4,kW,heq,z1,z2];refine aT.mono (K:=fun r' H'=>∃G,H'=He (H++[R4,P4]) b m n (bF e p r (m*n))++G) c2 ?_;rintro r' H' ⟨G,rfl⟩;simp -implicitDefEqProofs -dsimp[];refine hQ4 _ _ _ ?_;simp -implicitDefEqProofs -dsimp[];refine hQ3 _ _ _ ?_;simp -implicitDefEqProofs -dsimp[];refine hQ2 _ _ _ ?_;simp -implicitDefEqProofs -dsimp[];refine hQ _ _ _ ?_;simp -implicitDefEqProofs -dsimp[];exact .inr (.inr ⟨rfl,_,_,by rw[hme,hne];exact(a2 G).trans (List.append_assoc _ _ _),by simpa only[hme,hne] using hrep⟩)
     ·obtain rfl:a=n:=by omega
      refine wx ?_;simp -implicitDefEqProofs -dsimp[hout,hol,hib,hog,hrow,hrl,hab];refine hQ4 _ _ _ ?_;simp -implicitDefEqProofs -dsimp[aJ k (by omega)];refine hN3 (k+1) _ _ ⟨by omega,fun k' hk'=>?_⟩ (by omega) (by simp) ⟨[],by simp⟩ (by simp[hkl]) hrb
      rcases Nat.lt_or_ge k' k with h1 | h1
      ·exact hx3 k' h1
      ·have:k'=k:=by omega
       subst this;intro _;rw[hne];exact hx4
   ·obtain rfl:k=i:=by omega
    refine wx ?_;simp -implicitDefEqProofs -dsimp[hkb];refine hQ3 _ _ _ ?_;simp -implicitDefEqProofs -dsimp[aJ k (by omega)];refine hN2 (k+1) _ _ ⟨by omega,fun i' k' hi' hk'=>?_⟩ (by omega) (by simp) ⟨[],by simp⟩ (by simp[hkl]) hrb
    rcases Nat.lt_or_ge i' k with h1 | h1
    ·exact hx2 i' k' h1 hk'
    ·have:i'=k:=by omega
     subst this;exact hx3 k' hk'
  ·obtain rfl:i=m:=by omega
   refine wx ?_;simp -implicitDefEqProofs -dsimp[hout,hol,hib];refine hQ2 _ _ _ ?_;simp -implicitDefEqProofs -dsimp[aJ j (by omega)];refine hN (j+1) _ _ ⟨by omega,fun d' hd'=>?_⟩ (by omega) (by simp) ⟨[],by simp⟩ (by simp[hkl]) hrb;rw[List.take_succ_eq_append_getElem hjb]at hd'
   rcases List.mem_append.1 hd' with h1 | h1
   ·exact hx d' h1
   ·simp only[List.mem_singleton]at h1;rw[h1,←hd];exact hx2
 ·obtain rfl:j=fds.length:=by omega
  rw[List.take_length]at hx;refine wx ?_;simp -implicitDefEqProofs -dsimp[hjb];refine hQ _ _ _ ?_;simp -implicitDefEqProofs -dsimp[];exact .inl ⟨rfl,hclo (by rw[hme];exact hx),[],by rw[hme,hne,List.append_nil]⟩
def outS(i n:Nat):B:=.buf 115 1 (eh 4 i n) false
def HZf(b0 b1 tb:B)(e:Nat→En)(n i:Nat):List B:=[b0,b1,tb,outS i n]++(List.range i).map (rowB e n)
theorem gD(b0 b1 tb:B)(e:Nat→En)(n i:Nat):(HZf b0 b1 tb e n i).length=4+i:=by simp[HZf];omega
theorem hs_0(b0 b1 tb:B)(e:Nat→En)(n i:Nat)(G:List B):(HZf b0 b1 tb e n i++G)[2]?=some tb:=by simp[HZf]
theorem hs_1(b0 b1 tb:B)(e:Nat→En)(n i:Nat)(G:List B):(HZf b0 b1 tb e n i++G)[3]?=some (.buf 115 1 (eh 4 i n) false):=by simp[HZf,outS]
theorem hs_00(b0 b1 tb:B)(e:Nat→En)(n i:Nat):(HZf b0 b1 tb e n i)[2]?=some tb:=by simp[HZf]
theorem hs_11(b0 b1 tb:B)(e:Nat→En)(n i:Nat):(HZf b0 b1 tb e n i)[3]?=some (.buf 115 1 (eh 4 i n) false):=by simp[HZf,outS]
theorem hs_x(b0 b1 tb:B)(e:Nat→En)(n i:Nat)(X:B):(HZf b0 b1 tb e n i++[X])[4+i]?=some X:=by
 rw[List.getElem?_append_right (by rw[gD];omega),gD];simp
theorem hs_sx(b0 b1 tb:B)(e:Nat→En)(n i:Nat)(X Y:B):(HZf b0 b1 tb e n i++[X]).set (4+i) Y=HZf b0 b1 tb e n i++[Y]:=by
 rw[List.set_append_right _ _ (by rw[gD];omega),gD];simp
theorem hs_next(b0 b1 tb:B)(e:Nat→En)(n i:Nat):(HZf b0 b1 tb e n i++[B.buf 117 4 (eU e n i n) false]).set 3 (B.buf 115 1 (eh 4 i n++[V.buf (4+i) 0 n n]) false)=HZf b0 b1 tb e n (i+1):=by
 rw[←outE_succ];simp[HZf,List.range_succ,outS,rowB,dR,eU]
theorem hs_rb{b0 b1 tb:B}(ha:∀k,rbB k b0)(hb1:∀k,rbB k b1)(hb:∀k,rbB k tb)(e:Nat→En)(n i:Nat):∀bl∈HZf b0 b1 tb e n i,rbB (HZf b0 b1 tb e n i).length bl:=by
 intro bl hbl;rw[gD];unfold HZf at hbl;simp only[List.cons_append,List.nil_append,List.mem_cons,List.mem_map,List.mem_range]at hbl
 rcases hbl with rfl | rfl | rfl | rfl | ⟨j,hj,rfl⟩
 ·exact ha _
 ·exact hb1 _
 ·exact hb _
 ·intro x hx c hc;obtain⟨j,hj,rfl⟩:=List.mem_map.1 hx;have hj:=List.mem_range.1 hj;simp[V.cells]at hc;subst hc;show 4+j<4+i;omega
 ·unfold rowB;rw[rbB_buf1 (iI e n _)];trivial
theorem hs_ok{b0 b1 tb:B}(ha:∀k,rbB k b0)(hb1:∀k,rbB k b1)(hb:∀k,rbB k tb)(e:Nat→En)(n m:Nat):EOk (HZf b0 b1 tb e n m) 3 4 m n:=⟨hs_11 b0 b1 tb e n m,by rw[gD];omega,by omega,hs_rb ha hb1 hb e n m⟩
theorem hs_he{b0 b1 tb:B}(e:Nat→En)(n m:Nat):He (HZf b0 b1 tb e n m) 4 m n e=HZf b0 b1 tb e n m:=by
 apply List.ext_getElem?;intro k;unfold He;rw[List.getElem?_map,gD];by_cases hk:k<4+m
 ·rw[List.getElem?_range hk,Option.map_some];by_cases h2:4≤k
  ·rw[if_pos ⟨h2,hk⟩];unfold HZf;rw[List.getElem?_append_right (by simpa using h2)];simp only[List.length_cons,List.length_nil];rw[List.getElem?_map,List.getElem?_range (by omega)];rfl
  ·rw[if_neg (fun h=>h2 h.1),List.getElem?_eq_getElem (by rw[gD];exact hk)];rfl
 ·rw[List.getElem?_eq_none (by simp;omega),List.getElem?_eq_none (by rw[gD];omega)];rfl
def FilS(q:Prob)(b0 b1 tb:B)(e0:Nat→En)(r:V)(H':List B):Prop :=
 (r = .tup [.nilS,.bool false]∧¬Okq q∧∃e G,H'=He (HZf b0 b1 tb e0 q.n q.m) 4 q.m q.n e++G)∨
 (r = .tup [.buf 3 0 q.m q.m,.bool true]∧∃e G,H'=He (HZf b0 b1 tb e0 q.n q.m) 4 q.m q.n e++G∧Ent q (fun x=>toD (e x))∧EnOk e (q.m*q.n) (q.m*q.n)∧fX q (fun x=>toD (e x)))
theorem filled_s(t:Tb)(ff gg df cf:Bool)(fds:List Fd)(l:List Cr)(hv:TbV t)(hF:bU fds)(hl:l.length≤1000000)(b0 b1:B)(h0t:∀k,rbB k b0)(h1t:∀k,rbB k b1):
  bA Tryz.prog 45 [aG ff gg t,LF df fds,LC cf l] [b0,b1] (FilS (aS t fds l) b0 b1 (.cells [.str t.name,.lst 1 ff (t.attrs.map V.str),.lst 2 gg (t.rows.map aL)]) (e0 t l)):=by
 obtain⟨tb,htb⟩:∃tb,tb=B.cells [.str t.name,.lst 1 ff (t.attrs.map V.str),.lst 2 gg (t.rows.map aL)]:=⟨_,rfl⟩
 have hbt:∀k,rbB k tb:=fun k=>by rw[htb];simp
 rw[←htb];have hm:=hv.rows;have hn:=hv.attrs;have hE0:=e0_ent t fds l;have hO0:=e0_ok t l (t.rows.length*t.attrs.length);obtain⟨n,hne⟩:∃n,n=t.attrs.length:=⟨_,rfl⟩;obtain⟨m,hme⟩:∃m,m=t.rows.length:=⟨_,rfl⟩;have hne':=hne.symm;have hme':=hme.symm;rw[hne']at hn;rw[hme']at hm;have hqm:(aS t fds l).m=m:=hme';have hqn:(aS t fds l).n=n:=hne';have hqf:(aS t fds l).fds=fds:=rfl;have hO:EnOk (e0 t l) ((aS t fds l).m*(aS t fds l).n) ((aS t fds l).m*(aS t fds l).n):=hO0;obtain⟨q,hq⟩:∃q,q=aS t fds l:=⟨_,rfl⟩;rw[←hq]at hqm hqn hqf hE0 hO ⊢
 have hb00:=fun e n i=>hs_00 b0 b1 tb e n i
 have hb0:=fun e n i G=>hs_0 b0 b1 tb e n i G
 rw[htb]at hb00 hb0;rw[←htb]at hb00 hb0;have t0:=hs_00 b0 b1 tb (e0 t l) n;have t0':=hs_0 b0 b1 tb (e0 t l) n;rw[show some tb=some (B.cells [.str t.name,.lst 1 ff (t.attrs.map V.str),.lst 2 gg (t.rows.map aL)]) by rw[htb]]at t0 t0';have t1:=hs_11 b0 b1 tb (e0 t l) n;have t1':=hs_1 b0 b1 tb (e0 t l) n;have tl:=gD b0 b1 tb (e0 t l) n
 have t1l:=fun i=>eL 4 i n
 refine aD tok Tryz.func45 rfl rfl ?_;refine wx ?_;simp -implicitDefEqProofs -dsimp[Tryz.f45,List.replicate,aG,LS,LR,LC,LF];refine aK (eY 115 1 [8] (by simp) (W_loopM 61 [8,9,10,11,12,13,14,15,16,17,18,19,20,21,22,23,24,25,26,27,28,29,30,31,32,33,34,35,36,37,38,39,40,41,42,43,44,45,46,47,48,49,50,51,52,53,54,55,56,57,58,59,60] (by simp[mB]<;>rfl) (σ:=Nat×Nat) (fun p=>p.1≤m∧p.2=p.1*n) (fun p=>m-p.1) (fun p=>[(10,.int .i64 p.1),(8,.buf 3 0 p.1 p.1),(9,.int .i64 (cy t l p.2))]) (fun p=>HZf b0 b1 tb (e0 t l) n p.1) (0,0) ⟨by simp,by simp⟩ (by simp[cy]) (by simp[HZf,outS,eh,htb]) (by simp[tl]) ?_));rintro⟨i,c⟩ ⟨hi,hc⟩ N Q hN hQ;simp only at hi hc hN;by_cases hib:i<m
 ·have hit:i<t.rows.length:=by omega
  obtain⟨rw,hrw⟩:∃rw,rw=t.rows[i]:=⟨_,rfl⟩;have hrw':=hrw.symm
  have hvl:rw.vals.length=n:=by rw[hrw,hne];exact hv.len _ (List.getElem_mem hit)
  refine wx ?_;simp -implicitDefEqProofs -dsimp[t0,hme',hib];refine aK (eY 117 4 [11] (by simp) (W_loopM 57 [9,11,12,20,21,22,23,24,25,26,27,28,29,30,31,32,33,34,35,36,37,38,39,40,41,42,43,44,45,46,47,48,49,50,51,52,53,54,55,56] (by simp[mB]<;>rfl) (σ:=Nat×Nat) (fun p=>p.1≤n∧p.2=i*n+p.1) (fun p=>n-p.1) (fun p=>[(12,.int .i64 p.1),(11,.buf (4+i) 0 p.1 p.1),(9,.int .i64 (cy t l p.2))]) (fun p=>HZf b0 b1 tb (e0 t l) n i++[B.buf 117 4 (eU (e0 t l) n i p.1) false]) (0,c) ⟨by simp,by simp[hc]⟩ (by simp[tl]) (by simp[eU]) (by simp[tl]) ?_));rintro⟨a,c2⟩ ⟨ha,hc2⟩ N2 Q2 hN2 hQ2;simp only at ha hc2 hN2
  have hrb2:∀a',∀bl∈HZf b0 b1 tb (e0 t l) n i++[B.buf 117 4 (eU (e0 t l) n i a') false],rbB (HZf b0 b1 tb (e0 t l) n i++[B.buf 117 4 (eU (e0 t l) n i a') false]).length bl:=fun a' bl hbl=>by
   rcases List.mem_append.1 hbl with h | h
   ·exact eK (by simp) (hs_rb h0t h1t hbt (e0 t l) n i bl h)
   ·simp only[List.mem_singleton]at h;subst h;rw[rbB_buf1 (parE_pure _ _ _ _)];trivial
  have w0:=dG (t0' i [B.buf 117 4 (eU (e0 t l) n i a) false]);have w1:=dG (t1' i [B.buf 117 4 (eU (e0 t l) n i a) false]);have w1x:=dG (hs_x b0 b1 tb (e0 t l) n i (B.buf 117 4 (eU (e0 t l) n i a) false));by_cases hab:a<n
  ·have hlt:=aq hib hab;have hbig:m*n≤1000*16:=Nat.mul_le_mul hm hn
   have hat:bP t c2=⟨rw.id,(a:Int)⟩:=by
    rw[hc2,hne,fS t (hne▸hab),av hit,←hrw]
   have hva:a<rw.vals.length:=by omega
   have hvt:bC t c2=rw.vals[a]:=by
    rw[hc2,hne,dr t (hne▸hab),av hit,←hrw,fC hva]
   have hch:=nn l ⟨rw.id,(a:Int)⟩ cf hl;simp only[LC,aN]at hch;have hx:=hs_x b0 b1 tb (e0 t l) n i (B.buf 117 4 (eU (e0 t l) n i a) false)
   have hsx:=fun Y=>hs_sx b0 b1 tb (e0 t l) n i (B.buf 117 4 (eU (e0 t l) n i a) false) Y
   have hpl:=parE_len (e0 t l) n i a;have hps:=parE_succ (e0 t l) n i a;rw[←hc2]at hps;have hcn:=mW t l c2
   cases hqh:eA l ⟨rw.id,(a:Int)⟩ with
   | true =>
    rw[hqh]at hch;obtain⟨k1,k2⟩:=mO (t:=t) (l:=l) (x:=c2) (by rw[hat];exact bW.1 hqh);rw[k1]at hps;obtain⟨cn,hcn'⟩:∃cn,cn=cy t l c2:=⟨_,rfl⟩;rw[←hcn']at hps k2 hcn;have hcn2:=hcn'.symm;refine wx ?_;simp -implicitDefEqProofs -dsimp[w0,t0',tl,hne',hab,hit,hrw',aL,hcn2];refine(aF (hch) (by simp)).mono ?_;rintro r H' ⟨rfl,rfl⟩;simp -implicitDefEqProofs -dsimp[hcn2,aJ cn (by omega),w1x,tl,hx,hsx,hpl,cap40 a (by omega),aJ a (by omega)];refine hN2 (a+1,c2+1) _ _ ⟨by simp only;omega,by simp only;omega⟩ (by simp only;omega) (by simp[k2]) ⟨[],by simp[hps,bX,zV]⟩ (by simp[tl,LC];omega) (hrb2 _)
   | false =>
    rw[hqh]at hch;obtain⟨k1,k2⟩:=lC (t:=t) (l:=l) (x:=c2) (by rw[hat];exact fun h=>by rw[bW.2 h]at hqh;cases hqh);rw[k1,hvt]at hps;refine wx ?_;simp -implicitDefEqProofs -dsimp[w0,t0',tl,hne',hab,hit,hrw',aL];refine(aF (hch) (by simp)).mono ?_;rintro r H' ⟨rfl,rfl⟩;simp -implicitDefEqProofs -dsimp[w0,t0',tl,w1x,hit,hrw',aL,LV,hva,ap,hx,hsx,hpl,cap40 a (by omega),aJ a (by omega)];refine hN2 (a+1,c2+1) _ _ ⟨by simp only;omega,by simp only;omega⟩ (by simp only;omega) (by simp[k2]) ⟨[],by simp[hps,bX]⟩ (by simp[tl,LC];omega) (hrb2 _)
  ·obtain rfl:a=n:=by omega
   have hnx:=hs_next b0 b1 tb (e0 t l) a i;refine wx ?_;simp -implicitDefEqProofs -dsimp[w0,t0',tl,hne',hab];refine hQ2 _ _ _ ?_;simp -implicitDefEqProofs -dsimp[w1,t1',tl,t1l,cap24 i (by omega),hnx,aJ i (by omega)];refine hN (i+1,c2) _ _ ⟨by simp only;omega,by simp only;rw[hc2,Nat.add_mul];omega⟩ (by simp only;omega) (by simp) ⟨[],by simp⟩ (by simp[tl,LC];omega) (hs_rb h0t h1t hbt _ _ _)
 ·have him:i=m:=by omega
  subst him;have gH:=hs_ok h0t h1t hbt (e0 t l) n i;have hFq:bU q.fds:=hqf▸hF;refine wx ?_;simp -implicitDefEqProofs -dsimp[t0,hme',hib];refine hQ _ _ _ ?_;simp -implicitDefEqProofs -dsimp[];refine aK (W_loopM 69 [6,7,61,62,63,64,65,66,67,68] (by simp[mB]<;>rfl) (σ:=Nat→En) (fun e=>Ent q (fun x=>toD (e x))∧EnOk e (q.m*q.n) (q.m*q.n)) (fun e=>oH (q.m*q.n) (q.m*q.n+1) (fun x=>toD (e x))) (fun _=>[]) (fun e=>He (HZf b0 b1 tb (e0 t l) n i) 4 i n e) (e0 t l) ⟨hE0,hO⟩ (by simp) (by rw[hs_he]) (by simp[cO]) ?_);rintro e ⟨hE,hOe⟩ N2 Q2 hN2 hQ2;have cs:=step_q hqm hqn gH e hE hOe hn hm df hFq;rw[hqf]at cs;simp only[LF]at cs;refine wx ?_;simp -implicitDefEqProofs -dsimp[];refine aT.mono (K:=StepQ q (HZf b0 b1 tb (e0 t l) n i) 4 (q.m*q.n) e) cs ?_;rintro r' H' (⟨rfl,hcl,G,rfl⟩ | ⟨rfl,hno,G,rfl⟩ | ⟨rfl,e',G,rfl,h1,h2,h3⟩)
  ·simp -implicitDefEqProofs -dsimp[];refine hQ2 _ _ _ ?_;simp -implicitDefEqProofs -dsimp[];refine .inr ⟨by rw[hqm],e,G,by rw[hqm,hqn],hE,hOe,hcl⟩
  ·simp -implicitDefEqProofs -dsimp[];refine hQ2 _ _ _ ?_;simp -implicitDefEqProofs -dsimp[];exact .inl ⟨rfl,hno,e,G,by rw[hqm,hqn]⟩
  ·simp -implicitDefEqProofs -dsimp[];refine hN2 e' _ _ ⟨h1,h2⟩ h3 (by simp) ⟨G,by rw[hqm,hqn]⟩ (by simp[cO,tl,LC];omega) (lq gH e')
section
def cE(e:Nat→En):Nat→Dm:=fun z=>toD (e z)
theorem oY{e:Nat→En}{x:Nat} : bM (cE e x)↔(e x).s≠0:=by
 unfold cE toD bM;by_cases h:(e x).s=0
 ·rw[if_pos h];simp[h]
 ·rw[if_neg h];simp[h]
noncomputable def newE(u:Int→Bool)(e:Nat→En)(y:Nat):En:=⟨⟨3,cls u (cE e) y,ByteArray.empty⟩,0⟩
open Classical in
noncomputable def eX(u:Int→Bool)(e:Nat→En)(x y:Nat):En:=if bM (cE e y)∧fp (cE e) y<x then newE u e y else e y
theorem eX_zero(u:Int→Bool)(e:Nat→En):eX u e 0=e:=by funext y;unfold eX;rw[if_neg (fun h=>by omega)]
theorem lB{u:Int→Bool}{e:Nat→En}{x y:Nat}(h1:bM (cE e y))(h2:fp (cE e) y<x):eX u e x y=newE u e y:=by unfold eX;rw[if_pos ⟨h1,h2⟩]
theorem qJ{u:Int→Bool}{e:Nat→En}{x y:Nat}(h:¬(bM (cE e y)∧fp (cE e) y<x)):eX u e x y=e y:=by unfold eX;rw[if_neg h]
theorem eX_old{u:Int→Bool}{e:Nat→En}{x:Nat}(h:¬(bM (cE e x)∧fp (cE e) x=x)):eX u e (x+1)=eX u e x:=by
 funext y;by_cases h1:bM (cE e y)∧fp (cE e) y<x
 ·rw[lB h1.1 h1.2,lB h1.1 (by omega)]
 ·rw[qJ h1,qJ (fun h2=>h1 ⟨h2.1,?_⟩)]
  have hne:fp (cE e) y≠x:=fun h3=>h ⟨by
   have:=ew (cE e) y;rw[h3]at this
   rw[this];exact h2.1,by
   have:=fp_fp (cE e) y
   rwa [h3]at this⟩
  omega
theorem eX_at{u:Int→Bool}{e:Nat→En}{x:Nat}(h:fp (cE e) x=x):eX u e x x=e x:=qJ (fun h2=>by omega)
theorem eX_new{u:Int→Bool}{e:Nat→En}{x N S:Nat}(hO:EnOk e N S)(hx:x<N)(h1:bM (cE e x))(h2:fp (cE e) x=x){y:Nat}(hy:y<N):eX u e (x+1) y=bF (eX u e x) (e x) (newE u e x) N y:=by
 unfold bF;by_cases h3:bM (cE e y)∧fp (cE e) y<x
 ·have hne:¬newE u e y=e x:=fun h=>by
   have:=oY.1 h1;rw[←h]at this;exact this rfl
  rw[lB h3.1 h3.2,lB h3.1 (by omega),if_neg (fun h=>hne h.2)]
 ·rw[qJ h3];by_cases h4:e y=e x
  ·rw[if_pos ⟨hy,h4⟩]
   have hc:cE e y=cE e x:=by unfold cE;rw[h4]
   rw[lB (by rw[hc];exact h1) (by rw[lu hc];omega)];unfold newE;rw[qR hc]
  ·rw[if_neg (fun h=>h4 h.2),qJ (fun h5=>h4 ?_)]
   have h6:fp (cE e) y=x:=by
    have:¬fp (cE e) y<x:=fun h=>h3 ⟨h5.1,h⟩
    omega
   have h7:=ew (cE e) y;rw[h6]at h7;exact((oO hO hx hy).1 h7).symm
theorem eX_sym{u:Int→Bool}{e:Nat→En}{x N S:Nat}(hO:EnOk e N S)(hx:x<N):0<(eX u e x x).s↔bM (cE e x)∧fp (cE e) x=x:=by
 have hl:=hO.lo x hx;constructor
 ·intro h;by_cases h1:bM (cE e x)∧fp (cE e) x<x
  ·rw[lB h1.1 h1.2]at h;exact absurd h (by show ¬(0:Int)<0;omega)
  ·rw[qJ h1]at h;have hs:bM (cE e x):=oY.2 (by omega);have:=fp_le (cE e) x;refine⟨hs,?_⟩
   have:¬fp (cE e) x<x:=fun h2=>h1 ⟨hs,h2⟩
   omega
 ·rintro⟨h1,h2⟩;rw[eX_at h2];have:=oY.1 h1;omega
theorem eX_val{u:Int→Bool}{e:Nat→En}{x:Nat} : (eX u e (x+1) x).v=fw u (cE e) x:=by
 by_cases h:bM (cE e x)
 ·rw[lB h (by have:=fp_le (cE e) x;omega),fP h];rfl
 ·have h0:(e x).s=0:=Classical.not_not.1 (fun h1=>h (oY.2 h1));rw[qJ (fun h1=>h h1.1)];exact(er (show cE e x = .inl (e x).v by unfold cE toD;rw[if_pos h0])).symm
end
structure REnv (HE:(Nat→En)→List B) (L m n:Nat) (TB ZB:B):Prop where
 len:∀e,(HE e).length=L
 p0:∀e,(HE e)[0]?=some TB
 p1:∀e,(HE e)[1]?=some ZB
 p3:∀e,(HE e)[3]?=some (.buf 115 1 (eh 4 m n) false)
 pr:∀e i,i<m→(HE e)[4+i]?=some (.buf 117 4 (dR e n i) false)
 rb:∀e,∀bl∈HE e,rbB L bl
 rep:∀e old new X,(∀bl∈X,rbB (L+X.length) bl)→bA Tryz.prog 56 [.buf 3 0 m m,bX old,bX new] (HE e++X) fun r H'=>r = .undef∧H'=HE (bF e old new (m*n))++X
 congr:∀e e',(∀x,x<m*n→e x=e' x)→HE e=HE e'
 l4:4+m≤L
theorem renv_of{H2:List B}{m n:Nat}{TB ZB:B}(g:EOk H2 3 4 m n)(h0:H2[0]?=some TB)(h1:H2[1]?=some ZB)(hn:n≤16)(hm:m≤1000):REnv (fun e=>He H2 4 m n e) H2.length m n TB ZB:=by
 refine⟨fun e=>cO _ _ _ _ _,fun e=>pt e h0 (.inl (by omega)),fun e=>pt e h1 (.inl (by omega)),fun e=>pq g e,fun e i hi=>gw g e hi,fun e bl hbl=>?_,fun e old new X hX=>?_,fun e e' h=>he_congr H2 4 m n h,g.lt⟩
 ·have:=lq g e bl hbl
  rwa [cO]at this
 ·have gX:=g.app X (by rw[List.length_append];exact hX);have hr:=dW gX e old new hn hm;rw[←dc g]at hr
  have hr2:=conH_cutU (Hf:=He H2 4 m n (bF e old new (m*n))++X) (hr.mono fun r H' ⟨G,hG⟩=>⟨G,by rw[hG,dc g]⟩) (by simp[cO]) (fun bl hbl=>by
   rw[dc g]at hbl ⊢
   exact lq gX _ bl hbl)
  exact hr2
theorem filled_c(t:Tb)(ff gg df cf:Bool)(fds:List Fd)(l:List Cr)(hv:TbV t)(hF:bU fds)(hl:l.length≤1000000)(b0 b1:B)(h0t:∀k,rbB k b0)(h1t:∀k,rbB k b1):
  bA Tryz.prog 45 [aG ff gg t,LF df fds,LC cf l] [b0,b1] fun r H'=>∃HE L,REnv HE L t.rows.length t.attrs.length b0 b1∧∃e,H'=HE e ∧
   ((r = .tup [.nilS,.bool false]∧¬Okq (aS t fds l))∨(r = .tup [.buf 3 0 t.rows.length t.rows.length,.bool true]∧Ent (aS t fds l) (fun x=>toD (e x))∧EnOk e (t.rows.length*t.attrs.length) (t.rows.length*t.attrs.length)∧fX (aS t fds l) (fun x=>toD (e x)))):=by
 obtain⟨tb,htb⟩:∃tb,tb=B.cells [.str t.name,.lst 1 ff (t.attrs.map V.str),.lst 2 gg (t.rows.map aL)]:=⟨_,rfl⟩
 have hbt:∀k,rbB k tb:=fun k=>by rw[htb];simp
 have h:=filled_s t ff gg df cf fds l hv hF hl b0 b1 h0t h1t;rw[←htb]at h;have g:=hs_ok h0t h1t hbt (e0 t l) t.attrs.length t.rows.length
 have hlen:∀e,(He (HZf b0 b1 tb (e0 t l) t.attrs.length t.rows.length) 4 t.rows.length t.attrs.length e).length=4+t.rows.length:=fun e=>by rw[cO,gD]
 have hc:=kK (σ:=Bool×(Nat→En)) (ok:=fun x=>if x.1 then Ent (aS t fds l) (fun y=>toD (x.2 y))∧EnOk x.2 (t.rows.length*t.attrs.length) (t.rows.length*t.attrs.length)∧fX (aS t fds l) (fun y=>toD (x.2 y)) else ¬Okq (aS t fds l)) (rf:=fun x=>if x.1 then .tup [.buf 3 0 t.rows.length t.rows.length,.bool true] else .tup [.nilS,.bool false]) (Hf:=fun x=>He (HZf b0 b1 tb (e0 t l) t.attrs.length t.rows.length) 4 t.rows.length t.attrs.length x.2) (h.mono fun r H' hh=>by
   rcases hh with⟨h1,h2,e,G,h3⟩ | ⟨h1,e,G,h2,h3,h4,h5⟩
   ·exact⟨(false,e),h2,h1,G,h3⟩
   ·exact⟨(true,e),⟨h3,h4,h5⟩,h1,G,h2⟩) (fun x _=>by rw[hlen];simp;omega) (fun x _=>by
    rw[hlen]
    cases x.1 with
    | true=>simp;omega
    | false=>simp) (fun x _ bl hbl=>lq g x.2 bl hbl)
 refine hc.mono fun r H' ⟨⟨b,e⟩,k1,k2,k3⟩=>?_
 refine⟨fun e=>He (HZf b0 b1 tb (e0 t l) t.attrs.length t.rows.length) 4 t.rows.length t.attrs.length e,_,renv_of g (by simp[HZf]) (by simp[HZf]) hv.attrs hv.rows,e,k3,?_⟩
 cases b with
 | false=>exact .inl ⟨k2,k1⟩
 | true=>exact .inr ⟨k2,k1⟩
theorem cap32'(n:Nat)(h:n≤1000000000):n≤9223372036854775806∧(n+1)*32≤140737488355328:=by omega
theorem Fill_r(t:Tb)(ff gg df cf:Bool)(fds:List Fd)(l:List Cr)(hv:TbV t)(hB:TbN t)(hF:bU fds)(hcl:l.length≤1000000)(hchk:dO t fds l=0):
  aR Tryz.prog 23 [aG ff gg t,LF df fds,LC cf l] fun r=>r=qf t fds l:=by
 have c1:=error_r t ff gg df cf fds l hv.ok hF hcl;rw[hchk]at c1;unfold qf;rw[if_pos hchk];obtain⟨TB,hTB⟩:∃TB,TB=B.cells [.str t.name,.lst 1 ff (t.attrs.map V.str),.lst 2 gg (t.rows.map aL)]:=⟨_,rfl⟩;obtain⟨ZB,hZB⟩:∃ZB,ZB=B.cells [.str ByteArray.empty,.nilS,.nilS]:=⟨_,rfl⟩;have cf2:=filled_c t ff gg df cf fds l hv hF hcl TB ZB (fun k=>by rw[hTB];simp) (fun k=>by rw[hZB];simp);obtain⟨n,hne⟩:∃n,n=t.attrs.length:=⟨_,rfl⟩;obtain⟨m,hme⟩:∃m,m=t.rows.length:=⟨_,rfl⟩;obtain⟨q,hq⟩:∃q,q=aS t fds l:=⟨_,rfl⟩;have hne':=hne.symm;have hme':=hme.symm;have hm:=hv.rows;have hn:=hv.attrs;rw[hme']at hm;rw[hne']at hn;have hbig:m*n≤1000*16:=Nat.mul_le_mul hm hn;rw[hne',hme',←hq]at cf2;rw[←hq]
 have hqm:q.m=m:=by rw[hq,hme];rfl
 have hqn:q.n=n:=by rw[hq,hne];rfl
 rw[hTB,hZB]at cf2;simp only[aG,LS,LR,LC,LF]at c1 cf2;refine aC (aD tok Tryz.func23 rfl rfl ?_);refine wx ?_;simp -implicitDefEqProofs -dsimp[Tryz.f23,List.replicate,aG,LS,LR,LC,LF];refine(aF (c1) (by simp)).mono ?_;rintro r H' ⟨rfl,rfl⟩;simp -implicitDefEqProofs -dsimp[];refine eH cf2 ?_;rintro r' H' ⟨HE,L,env,e,rfl,hcase⟩;obtain⟨elen,ep0,ep1,ep3,epr,erb,erep,econg,el4⟩:=env
 have p0:∀e X,(HE e++X)[0]?=some (B.cells [.str t.name,.lst 1 ff (t.attrs.map V.str),.lst 2 gg (t.rows.map aL)]):=fun e X=>by rw[List.getElem?_append_left (by rw[elen];omega)];exact ep0 e
 have p0':=fun e X=>dG (p0 e X)
 have p00':=fun e=>dG (ep0 e)
 have p1':=fun e=>dG (ep1 e)
 have p1z:∀e Y,((HE e).set 1 Y)[1]?=some Y:=fun e Y=>by rw[List.getElem?_set_self (by rw[elen];omega)]
 have p1z':=fun e Y=>dG (p1z e Y)
 have hl1:∀e,1<(HE e).length:=fun e=>by rw[elen];omega
 rcases hcase with⟨rfl,hno⟩ | ⟨rfl,hE,hO,hC⟩
 ·rw[mz hno,if_neg (by simp)];simp -implicitDefEqProofs -dsimp[ep1,hl1,p1',p1z,p1z',elen,show 1<L by omega];rfl
 ·rw[pX ⟨_,hE.sol hC⟩,if_pos rfl];have hgen:GenS q (cE e):=hE.gen hC;have hfT:iR t fds l=ei t (cE e):=jg (hq▸hgen);obtain⟨c,hc⟩:∃c,c=cE e:=⟨_,rfl⟩;obtain⟨u,hu⟩:∃u,u=fD t:=⟨_,rfl⟩
  have hnum:∀k,0≤da u k∧da u k≤1000000+k:=fun k=>by rw[hu];exact oW hB.bnd (by omega) k
  have hu1:=hB.bnd;rw[←hu]at hu1;rw[←hc]at hfT hgen;have hol:=eL 4 m n
  have p3:∀e X,(HE e++X)[3]?=some (.buf 115 1 (eh 4 m n) false):=fun e X=>by rw[List.getElem?_append_left (by rw[elen];omega)];exact ep3 e
  have p3':=fun e X=>dG (p3 e X)
  have pL:∀e X,(HE e++X)[L]?=X[0]?:=fun e X=>by rw[List.getElem?_append_right (by rw[elen];omega),elen];simp
  have pL1:∀e X,(HE e++X)[L+1]?=X[1]?:=fun e X=>by rw[List.getElem?_append_right (by rw[elen];omega),elen];congr 1;omega
  have pL2:∀e X,(HE e++X)[L+2]?=X[2]?:=fun e X=>by rw[List.getElem?_append_right (by rw[elen];omega),elen];congr 1;omega
  have pL3:∀e X,(HE e++X)[L+3]?=X[3]?:=fun e X=>by rw[List.getElem?_append_right (by rw[elen];omega),elen];congr 1;omega
  have pLg:∀e A X,∀h:L<(HE e++A::X).length,(HE e++A::X)[L]=A:=fun e A X=>dG (by rw[pL];rfl)
  have pL1g:∀e A A1 X,∀h:L+1<(HE e++A::A1::X).length,(HE e++A::A1::X)[L+1]=A1:=fun e A A1 X=>dG (by rw[pL1];rfl)
  have pL2g:∀e A A1 A2 X,∀h:L+2<(HE e++A::A1::A2::X).length,(HE e++A::A1::A2::X)[L+2]=A2:=fun e A A1 A2 X=>dG (by rw[pL2];rfl)
  have pL3g:∀e A A1 A2 A3 X,∀h:L+3<(HE e++A::A1::A2::A3::X).length,(HE e++A::A1::A2::A3::X)[L+3]=A3:=fun e A A1 A2 A3 X=>dG (by rw[pL3];rfl)
  have sL:∀e X Y,(HE e++X).set L Y=HE e++X.set 0 Y:=fun e X Y=>by rw[List.set_append_right _ _ (by rw[elen];omega),elen];simp
  have sL1:∀e X Y,(HE e++X).set (L+1) Y=HE e++X.set 1 Y:=fun e X Y=>by rw[List.set_append_right _ _ (by rw[elen];omega),elen];congr 2;omega
  have sL2:∀e X Y,(HE e++X).set (L+2) Y=HE e++X.set 2 Y:=fun e X Y=>by rw[List.set_append_right _ _ (by rw[elen];omega),elen];congr 2;omega
  have sL3:∀e X Y,(HE e++X).set (L+3) Y=HE e++X.set 3 Y:=fun e X Y=>by rw[List.set_append_right _ _ (by rw[elen];omega),elen];congr 2;omega
  have rbX:∀e X,(∀bl∈X,rbB (L+X.length) bl)→∀bl∈HE e++X,rbB (HE e++X).length bl:=fun e X hX bl hbl=>by
   rw[List.length_append,elen]
   rcases List.mem_append.1 hbl with h | h
   ·exact eK (by omega) (erb e bl h)
   ·exact hX bl h
  have hl2:∀e X,1<(HE e++X).length:=fun e X=>by rw[List.length_append,elen];omega
  have p1a:∀e X,(HE e++X)[1]?=some (B.cells [.str ByteArray.empty,.nilS,.nilS]):=fun e X=>by rw[List.getElem?_append_left (by rw[elen];omega)];exact ep1 e
  have p1a':=fun e X=>dG (p1a e X)
  have p1s:∀e X Y,((HE e++X).set 1 Y)[1]?=some Y:=fun e X Y=>by rw[List.getElem?_set_self (hl2 e X)]
  have p1s':=fun e X Y=>dG (p1s e X Y)
  simp -implicitDefEqProofs -dsimp[];refine aK (eY 66 2 [11] (by simp[elen]) (W_loopM 97 [11,12,13,14,15,16,35,36,37,38,39,40,41,42,43,44,45,46,47,48,49,50,51,52,53,54,55,56,57,58,59,60,61,62,63,64,65,66,67,68,69,70,71,72,73,74,75,76,77,78,79,80,81,82,83,84,85,86,87,88,89,90,91,92,93,94,95,96] (by simp[mB]<;>rfl) (σ:=Nat) (fun i=>i≤m) (fun i=>m-i) (fun i=>[(13,.int .i64 i),(12,.int .i64 (da u (bO c (i*n)))),(11,.buf L 0 i i)]) (fun i=>HE (eX u e (i*n))++[B.buf 66 2 ((ii t c i).map aL) false]) 0 (by omega) (by simp[bO,da,elen]) (by simp[eX_zero,ii]) (by simp[elen]) ?_));intro i hi N1 Q1 hN1 hQ1;have hrl:=pG t c i;by_cases hib:i<m
  ·have hit:i<t.rows.length:=by omega
   obtain⟨rw,hrw⟩:∃rw,rw=t.rows[i]:=⟨_,rfl⟩;have hrw':=hrw.symm
   have hog:=fun h=>iL (b:=4) (m:=m) (n:=n) (i:=i) h
   have prow:∀e X,(HE e++X)[4+i]?=some (.buf 117 4 (dR e n i) false):=fun e X=>by rw[List.getElem?_append_left (by rw[elen];omega)];exact epr e i hib
   have prow':=fun e X=>dG (prow e X)
   have h4L:4+i<L:=by omega
   refine wx ?_;simp -implicitDefEqProofs -dsimp[p3,p3',hol,hib,p0',hit,hrw',aL,LV,elen];refine aK (co (cs:=[V.int .i64 rw.id,.nilS]) 68 3 [] (L+1) [1] (by rw[pL1];rfl) (et _ _) (by simp[elen]) (W_loopM 93 [12,15,16,48,49,50,51,52,53,54,55,56,57,58,59,60,61,62,63,64,65,66,67,68,69,70,71,72,73,74,75,76,77,78,79,80,81,82,83,84,85,86,87,88,89,90,91,92] (by simp[mB]<;>rfl) (σ:=Nat×Nat) (fun p=>p.1≤n∧p.2=i*n+p.1) (fun p=>n-p.1) (fun p=>[(15,.int .i64 p.1),(12,.int .i64 (da u (bO c p.2)))]) (fun p=>HE (eX u e p.2)++[B.buf 66 2 ((ii t c i).map aL) false,B.cells [.int .i64 rw.id,.buf (L+2) 0 p.1 p.1],B.buf 68 3 ((gk u c (i*n) p.1).map ap) false]) (0,i*n) ⟨by simp,by simp⟩ (by simp) (by simp[gk,sL1,elen]) (by simp[elen]) ?_));rintro⟨a,x⟩ ⟨ha,hx⟩ N2 Q2 hN2 hQ2;simp only at ha hx hN2
   have hrbX:∀e a,∀bl∈HE e++[B.buf 66 2 ((ii t c i).map aL) false,B.cells [.int .i64 rw.id,.buf (L+2) 0 a a],B.buf 68 3 ((gk u c (i*n) a).map ap) false],rbB (HE e++[B.buf 66 2 ((ii t c i).map aL) false,B.cells [.int .i64 rw.id,.buf (L+2) 0 a a],B.buf 68 3 ((gk u c (i*n) a).map ap) false]).length bl:=fun e a=>rbX e _ (by simp)
   by_cases hab:a<n
   ·have hltn:=aq hib hab
    have hlt:x<m*n:=by rw[hx];exact hltn
    have hget:∀h:a<(dR (eX u e x) n i).length,(dR (eX u e x) n i)[a]=bX (eX u e x x):=fun h=>by rw[eJ h,←hx]
    have hget1:∀h:a<(dR (eX u e (x+1)) n i).length,(dR (eX u e (x+1)) n i)[a]=bX (eX u e (x+1) x):=fun h=>by rw[eJ h,←hx]
    have hlr:=fun e=>cM e n i
    have hval:=eX_val (u:=u) (e:=e) (x:=x);rw[←hc]at hval;have hsy:=eX_sym (u:=u) (x:=x) hO hlt;rw[←hc]at hsy;have hvlen:=lH u c (i*n) a;have hvs:=vlTo_succ u c (i*n) a;rw[←hx,←hval]at hvs;have hrkl:=rank_le c x;obtain⟨nu1,nu2⟩:=hnum (bO c x);obtain⟨y1,hy1⟩:∃y1,y1=eX u e (x+1) x:=⟨_,rfl⟩;rw[←hy1]at hget1 hvs;by_cases hs:bM (c x)∧fp c x=x
    ·have hpos:=hsy.2 hs;rw[eX_at (by rw[←hc];exact hs.2)]at hpos hget
     have hnw:=fun y hy=>eX_new (u:=u) hO hlt (by rw[←hc];exact hs.1) (by rw[←hc];exact hs.2) (y:=y) hy
     have hHE:=econg _ _ hnw;have hrk:=lR hs.1 hs.2;have hcl:=cls_new (u:=u) hs.2;obtain⟨nx1,nx2⟩:=nA hu1 (da u (bO c x))
     have hnp:da u (bO c (x+1))=cls u c x:=by rw[hrk,hcl];rfl
     rw[←hcl]at nx1 nx2
     have hnewE:bX (newE u e x)= .agg [.int .i64 3,.int .i64 (cls u c x),.str ByteArray.empty,.int .i64 0]:=by rw[hc];rfl
     obtain⟨n0,hn0⟩:∃n0,n0=da u (bO c x):=⟨_,rfl⟩;obtain⟨nx,hnx⟩:∃nx,nx=cls u c x:=⟨_,rfl⟩;rw[←hnx]at nx1 nx2 hnp hnewE;rw[←hn0]at nx1 nx2 nu1 nu2;have hn0':=hn0.symm;obtain⟨old,hold⟩:∃old,old=e x:=⟨_,rfl⟩;rw[←hold]at hget hpos hHE;have crep:=erep (eX u e x) old (newE u e x) [B.buf 66 2 ((ii t c i).map aL) false,B.cells [.int .i64 rw.id,.buf (L+2) 0 a a],B.buf 68 3 ((gk u c (i*n) a).map ap) false,B.cells [.int .i64 old.v.k,.int .i64 old.v.n,.str old.v.s,.int .i64 old.s]] (by simp);rw[←hHE,hnewE]at crep;simp only[bX,List.cons_append,List.nil_append]at crep;refine wx ?_;simp -implicitDefEqProofs -dsimp[p3,p3',hol,hib,hog,prow,prow',h4L,hlr,hab,hget,bX,elen,hpos,hn0',pL3g,wrap64 (n:=n0+1) (by omega) (by omega)];refine aK (W_loopM 74 [12,69,70,71,72,73] (by simp[mB]<;>rfl) (σ:=Int) (fun k=>n0<k∧k≤nx) (fun k=>(nx-k).toNat) (fun k=>[(12,.int .i64 k)]) (fun _=>HE (eX u e x)++[B.buf 66 2 ((ii t c i).map aL) false,B.cells [.int .i64 rw.id,.buf (L+2) 0 a a],B.buf 68 3 ((gk u c (i*n) a).map ap) false,B.cells [.int .i64 old.v.k,.int .i64 old.v.n,.str old.v.s,.int .i64 old.s]]) (n0+1) ⟨by omega,by have:=nx1.gt;omega⟩ (by simp) (by simp) (by simp[elen]) ?_);rintro k ⟨hk1,hk2⟩ N3 Q3 hN3 hQ3;have cu:=used_r t ff gg k hv;rw[←hu]at cu;simp only[aG,LS,LR]at cu;by_cases hkx:k=nx
     ·subst hkx;rw[nx1.free]at cu;refine wx ?_;simp -implicitDefEqProofs -dsimp[p0'];refine(aF (cu) (by simp)).mono ?_;rintro r H' ⟨rfl,rfl⟩;simp -implicitDefEqProofs -dsimp[];refine hQ3 _ _ _ ?_;simp -implicitDefEqProofs -dsimp[pL3g,elen];refine eH crep ?_;rintro r' H' ⟨rfl,rfl⟩;simp -implicitDefEqProofs -dsimp[];refine aK (am tok mixed [11,13] [] [] (by kernel_rfl) fun C K hC hK=>?_);simp -implicitDefEqProofs [p3,p3',hol,hib,hog,prow,prow',h4L,hlr,hab,hget1,bX,elen,pL1g,pL2g,sL1,sL2,hvlen,cap32' a (by omega)];refine hK _ _ ?_;simp -implicitDefEqProofs -dsimp[aJ a (by omega)];refine hN2 (a+1,x+1) _ _ ⟨by simp only;omega,by simp only;omega⟩ (by simp only;omega) (by simp[hnp]) ⟨[B.cells [.int .i64 old.v.k,.int .i64 old.v.n,.str old.v.s,.int .i64 old.s]],by simp[hvs,ap]⟩ (by simp[elen];omega) (hrbX _ _)
     ·rw[nx1.all k hk1 (by omega)]at cu;refine wx ?_;simp -implicitDefEqProofs -dsimp[p0'];refine(aF (cu) (by simp)).mono ?_;rintro r H' ⟨rfl,rfl⟩;simp -implicitDefEqProofs -dsimp[wrap64 (n:=k+1) (by omega) (by omega)];refine hN3 (k+1) _ _ ⟨by omega,by omega⟩ (by omega) (by simp) ⟨[],by simp⟩ (by simp[elen];omega) (rbX _ _ (by simp))
    ·have hpos:¬0<(eX u e x x).s:=fun h=>hs (hsy.1 h)
     have hold:=eX_old (u:=u) (e:=e) (x:=x) (by rw[←hc];exact hs);have hrk:=lQ hs;rw[hold]at hy1;rw[←hy1]at hget hpos;refine wx ?_;simp -implicitDefEqProofs -dsimp[p3,p3',hol,hib,hog,prow,prow',h4L,hlr,hab,hget,bX,elen,hpos,pL3g];refine aK (am tok mixed [11,13] [] [] (by kernel_rfl) fun C K hC hK=>?_);simp -implicitDefEqProofs [p3,p3',hol,hib,hog,prow,prow',h4L,hlr,hab,hget,bX,elen,pL1g,pL2g,sL1,sL2,hvlen,cap32' a (by omega)];refine hK _ _ ?_;simp -implicitDefEqProofs -dsimp[aJ a (by omega)];refine hN2 (a+1,x+1) _ _ ⟨by simp only;omega,by simp only;omega⟩ (by simp only;omega) (by simp[hrk]) ⟨[B.cells [.int .i64 y1.v.k,.int .i64 y1.v.n,.str y1.v.s,.int .i64 y1.s]],by simp[hvs,ap,hold]⟩ (by simp[elen];omega) (hrbX _ _)
   ·obtain rfl:a=n:=by omega
    have hvlen:=lH u c (i*a) a
    have hxe:(i+1)*a=x:=by rw[Nat.add_mul];omega
    have hrs:=rwTo_succ t c i
    have hlr:=fun e=>cM e a i
    have hfr:aL (gG t c i)= .agg [.int .i64 rw.id,.lst 3 false ((gk u c (i*a) a).map ap)]:=by
     rw[filRow_eq,av hit,←hrw,←hne,←hu];rfl
    refine iA (L+2) [] (L+1) [1] (pL2 _ _) (pL1 _ _) (by simp) (by simp[hvlen]) ?_;refine wx ?_;simp -implicitDefEqProofs -dsimp[p3,p3',hol,hib,hog,prow,prow',h4L,hlr,elen,sL1,sL2];refine hQ2 _ _ _ ?_;simp -implicitDefEqProofs -dsimp[pL1g,pLg,sL,elen,hrl,cap32' i (by omega),aJ i (by omega)];refine hN1 (i+1) _ _ (by omega) (by omega) (by simp[hxe]) ⟨[B.cells [.int .i64 rw.id,.lst 3 false ((gk u c (i*a) a).map ap)],B.buf 68 3 ((gk u c (i*a) a).map ap) true],by simp[hxe,hrs,hfr]⟩ (by simp[elen];omega) (rbX _ _ (by simp))
  ·obtain rfl:i=m:=by omega
   have cw:=with03 t (ii t c i) ff gg false hv.ok.attrs (by omega) (fun r hr=>by
    obtain⟨j,_,rfl⟩:=List.mem_map.1 hr;have:=hv.attrs
    simp[gG];omega)
   simp only[aG,LS,LR]at cw;refine qb L [11] (pL _ _) (by simp[hrl]) ?_;refine wx ?_;simp -implicitDefEqProofs -dsimp[p3,p3',hol,hib,hrl,sL];refine hQ1 _ _ _ ?_;simp -implicitDefEqProofs -dsimp[p0',elen];refine(aF (cw) (by simp)).mono ?_;rintro r H' ⟨rfl,rfl⟩;simp -implicitDefEqProofs -dsimp[elen,p1a,p1a',p1s,p1s',hl2,show 1<L+1 by omega,show 0<L by omega];rw[hfT];simp[aG,LS,LR,ei,ii,hme]
theorem isCore_r(t:Tb)(ff gg df cf:Bool)(fds:List Fd)(l:List Cr)(hv:TbV t)(hF:bU fds)(hl:l.length≤1000000):
  aR Tryz.prog 32 [aG ff gg t,LF df fds,LC cf l] fun r=>r = .bool (coreB t fds l):=by
 have c2:=gc t ff gg df cf fds l hv hF hl;simp only[aG,LS,LR,LC,LF]at c2
 cases hn:lX t fds l with
 | false =>
  rw[hn]at c2;rw[jo (fun hc=>by rw[cN.2 hc.nec]at hn;cases hn)];refine aC (aD tok Tryz.func32 rfl rfl ?_);refine wx ?_;simp -implicitDefEqProofs -dsimp[Tryz.f32,List.replicate,aG,LS,LR,LC,LF];refine(aF (c2) (by simp)).mono ?_;rintro r H' ⟨rfl,rfl⟩;simp -implicitDefEqProofs -dsimp[]
 | true =>
  rw[hn]at c2;obtain⟨E,hE⟩:∃E,E=coreB t fds l:=⟨_,rfl⟩;rw[←hE];refine aC (aD tok Tryz.func32 rfl rfl ?_);refine wx ?_;simp -implicitDefEqProofs -dsimp[Tryz.f32,List.replicate,aG,LS,LR,LC,LF];refine(aF (c2) (by simp)).mono ?_;rintro r H' ⟨rfl,rfl⟩;simp -implicitDefEqProofs -dsimp[];refine aK (W_loopM 32 [6,7,13,14,15,16,17,18,19,20,21,22,23,24,25,26,27,28,29,30,31] (by simp[mB]<;>rfl) (σ:=Nat) (fun i=>i≤l.length∧∀j,j<i→¬Nec t fds (l.eraseIdx j)) (fun i=>l.length-i) (fun i=>[(7,.int .i64 i)]) (fun _=>[B.cells [.str t.name,.lst 1 ff (t.attrs.map V.str),.lst 2 gg (t.rows.map aL)]]) 0 ⟨by omega,fun j hj=>by omega⟩ (by simp) (by simp) (by simp) ?_);rintro i ⟨hi,hx⟩ N Q hN hQ;by_cases hb:i<l.length
  ·have hi1:i≤l.length:=by omega
   have hi2:i+1≤l.length:=by omega
   have htl:(List.map aN l).take l.length=List.map aN l:=by rw[←List.length_map (f:=aN)];exact List.take_length
   have k2:=gc t ff gg df false fds (l.eraseIdx i) hv hF (by rw[List.length_eraseIdx_of_lt hb];omega);simp only[aG,LS,LR,LC,LF]at k2
   have hmap:List.take i (List.map aN l)++List.drop (i+1) (List.map aN l)=(l.eraseIdx i).map aN:=by rw[←List.map_take,←List.map_drop,←List.map_append,jH]
   have hlen:((l.eraseIdx i).map aN).length=l.length-1:=by rw[List.length_map,List.length_eraseIdx_of_lt hb]
   obtain⟨v,hve⟩:∃v,v=lX t fds (l.eraseIdx i):=⟨_,rfl⟩;rw[←hve]at k2;obtain⟨es,hes⟩:∃es,es=(l.eraseIdx i).map aN:=⟨_,rfl⟩;rw[←hes]at k2 hmap hlen;have hesp:∀x∈es,AM.Pure x:=hes▸pS _
   have kb:∀(H:List B) (m:Nat),H[1]?=some (.buf 49 2 es false)→m=es.length→aT Tryz.prog (.fn 35 []) [.agg [.str t.name,.lst 1 ff (t.attrs.map V.str),.lst 2 gg (t.rows.map aL)],.lst 2 df (fds.map cT),.buf 1 0 m m] H fun r H'=>r = .bool v∧H'=H:=fun H m hH hm=>by
    refine callX k2 rfl (fun j a a' h1 h2=>?_) (.bool _)
    match j with
    | 0=>simp at h1 h2;subst h1;subst h2;exact .pure _ (by simp)
    | 1=>simp at h1 h2;subst h1;subst h2;exact .pure _ (by simp)
    | 2=>simp at h1 h2;subst h1;subst h2;exact dK hH hm hesp
    | n+3=>simp at h1
   refine wx ?_;simp -implicitDefEqProofs -dsimp[hb];by_cases h0:i=0
   ·subst h0;have kt:=gc t ff gg df true fds (l.eraseIdx 0) hv hF (by rw[List.length_eraseIdx_of_lt hb];omega);rw[←hve]at kt;simp only[aG,LS,LR,LC,LF]at kt;rw[←hes]at kt
    have hm0:List.drop 1 (List.map aN l)=es:=by rw[←hmap];simp
    by_cases h9:l.length=1
    ·have hes0:es=[]:=List.length_eq_zero_iff.1 (by omega);rw[hes0]at kt;refine aK (am tok mixed [6,11] [(0,[1,2]),(1,[1,2]),(7,[0]),(8,[0]),(9,[0]),(10,[0])] [(.bool v,[])] (by kernel_rfl) fun C K hC hK=>?_);simp -implicitDefEqProofs [hi1,hi2,htl,hb,wrap64 (n:=1) (by omega) (by omega),show(1:Nat)≤l.length by omega,show l.length-1=0 by omega,hm0,h9];refine⟨hC _ _ _ _ (aF kt (by simp)),hK _ _ ?_⟩
     cases v with
     | true =>
      have hno:¬IsCoreP t fds l:=fun hc=>hc.min 0 hb (cN.1 hve.symm)
      rw[jo hno]at hE;simp -implicitDefEqProofs -dsimp[];refine hQ _ _ _ ?_;simp -implicitDefEqProofs -dsimp[];exact hE
     | false =>
      simp -implicitDefEqProofs -dsimp[aJ 0 (by omega)];refine hN (0+1) _ _ ⟨by omega,fun j hj hc=>?_⟩ (by omega) (by simp[show IntKind.i64.wrap (1:Int)=1 from wrap64 (by omega) (by omega)]) ⟨_,rfl⟩ (by simp) (by simp)
      rcases Nat.lt_or_ge j 0 with e1 | e1
      ·exact hx j e1 hc
      ·have:j=0:=by omega
       subst this;rw[cN.2 hc]at hve;cases hve
    ·refine aK (am tok mixed [6,11] [(0,[1,2]),(1,[1,2]),(7,[0]),(8,[0]),(9,[0]),(10,[0])] [(.bool v,[])] (by kernel_rfl) fun C K hC hK=>?_);simp -implicitDefEqProofs [hi1,hi2,htl,hb,wrap64 (n:=1) (by omega) (by omega),show(1:Nat)≤l.length by omega,show ¬l.length-1=0 by omega,show l.length-1≤9223372036854775807 by omega,show(l.length-1)*16≤140737488355328 by omega,hm0,show ¬es=[] by(intro h;rw[h]at hlen;simp at hlen;omega),show es.length≤9223372036854775807 by omega,show es.length*16≤140737488355328 by omega];refine⟨hC _ _ _ _ (kb _ _ rfl (by omega)),hK _ _ ?_⟩
     cases v with
     | true =>
      have hno:¬IsCoreP t fds l:=fun hc=>hc.min 0 hb (cN.1 hve.symm)
      rw[jo hno]at hE;simp -implicitDefEqProofs -dsimp[];refine hQ _ _ _ ?_;simp -implicitDefEqProofs -dsimp[];exact hE
     | false =>
      simp -implicitDefEqProofs -dsimp[aJ 0 (by omega)];refine hN (0+1) _ _ ⟨by omega,fun j hj hc=>?_⟩ (by omega) (by simp[show IntKind.i64.wrap (1:Int)=1 from wrap64 (by omega) (by omega)]) ⟨_,rfl⟩ (by simp) (by simp)
      rcases Nat.lt_or_ge j 0 with e1 | e1
      ·exact hx j e1 hc
      ·have:j=0:=by omega
       subst this;rw[cN.2 hc]at hve;cases hve
   ·by_cases h9:i+1=l.length
    ·have hm0:List.take i (List.map aN l)=es:=by rw[←hmap,List.drop_of_length_le (by rw[List.length_map];omega),List.append_nil]
     refine aK (am tok mixed [6,11] [(0,[1,2]),(1,[1,2]),(7,[0]),(8,[0]),(9,[0]),(10,[0])] [(.bool v,[])] (by kernel_rfl) fun C K hC hK=>?_);simp -implicitDefEqProofs [hi1,hi2,htl,h0,aJ i (by omega),show(0:Int)≤(i:Int)+1 by omega,hb,show i≤9223372036854775807 by omega,show i*16≤140737488355328 by omega,show l.length-(i+1)=0 by omega,hm0,show ¬es=[] by(intro h;rw[h]at hlen;simp at hlen;omega),show es.length≤9223372036854775807 by omega,show es.length*16≤140737488355328 by omega];refine⟨hC _ _ _ _ (kb _ _ rfl (by omega)),hK _ _ ?_⟩
     cases v with
     | true =>
      have hno:¬IsCoreP t fds l:=fun hc=>hc.min i hb (cN.1 hve.symm)
      rw[jo hno]at hE;simp -implicitDefEqProofs -dsimp[];refine hQ _ _ _ ?_;simp -implicitDefEqProofs -dsimp[];exact hE
     | false =>
      simp -implicitDefEqProofs -dsimp[aJ i (by omega)];refine hN (i+1) _ _ ⟨by omega,fun j hj hc=>?_⟩ (by omega) (by simp) ⟨_,rfl⟩ (by simp) (by simp)
      rcases Nat.lt_or_ge j i with e1 | e1
      ·exact hx j e1 hc
      ·have:j=i:=by omega
       subst this;rw[cN.2 hc]at hve;cases hve
    ·refine aK (am tok mixed [6,11] [(0,[1,2]),(1,[1,2]),(7,[0]),(8,[0]),(9,[0]),(10,[0])] [(.bool v,[])] (by kernel_rfl) fun C K hC hK=>?_);simp -implicitDefEqProofs [hi1,hi2,htl,h0,aJ i (by omega),show(0:Int)≤(i:Int)+1 by omega,hb,cap16b i (l.length-(i+1)) (by omega),show i≤9223372036854775807 by omega,show i*16≤140737488355328 by omega,show ¬l.length-(i+1)=0 by omega,hmap];refine⟨hC _ _ _ _ (kb _ _ rfl (by omega)),hK _ _ ?_⟩
     cases v with
     | true =>
      have hno:¬IsCoreP t fds l:=fun hc=>hc.min i hb (cN.1 hve.symm)
      rw[jo hno]at hE;simp -implicitDefEqProofs -dsimp[];refine hQ _ _ _ ?_;simp -implicitDefEqProofs -dsimp[];exact hE
     | false =>
      simp -implicitDefEqProofs -dsimp[aJ i (by omega)];refine hN (i+1) _ _ ⟨by omega,fun j hj hc=>?_⟩ (by omega) (by simp) ⟨_,rfl⟩ (by simp) (by simp)
      rcases Nat.lt_or_ge j i with e1 | e1
      ·exact hx j e1 hc
      ·have:j=i:=by omega
       subst this;rw[cN.2 hc]at hve;cases hve
  ·have hyes:IsCoreP t fds l:=⟨cN.1 hn,fun j hj=>hx j (by omega)⟩;rw[nN.2 hyes]at hE;refine wx ?_;simp -implicitDefEqProofs -dsimp[hb];refine hQ _ _ _ ?_;simp -implicitDefEqProofs -dsimp[];exact hE
end
end Go.Proofs.YteijbpppalhihaaGreat
section
namespace Go.Proofs.YteijbpppalhihaaGreat
open Go Go.AM
end Go.Proofs.YteijbpppalhihaaGreat
end
section
namespace Go.Proofs.YteijbpppalhihaaGreat
open Go Go.AM
end Go.Proofs.YteijbpppalhihaaGreat
end
namespace Go.Proofs.YteijbpppalhihaaGreat
section
open Go Go.AM
theorem lawOptimal(c:Cs)(f g:Bool)(h:CsOk c):aR Tryz.prog 7 [gf f g c] fun r=>r = .bool true:=by
 have ca:=awake_con
 cases hb:csB c with
 | false =>
  have c1:=of_no c f g h hb;simp only[gf,offV]at c1;refine aC (aD tok Tryz.func7 rfl rfl ?_);refine wx ?_;simp -implicitDefEqProofs -dsimp[Tryz.f7,List.replicate,gf];refine(aF (c1) (by simp)).mono ?_;rintro r H' ⟨rfl,rfl⟩;simp -implicitDefEqProofs -dsimp[];refine(aF (ca) (by simp)).mono ?_;rintro r H' ⟨rfl,rfl⟩;simp -implicitDefEqProofs -dsimp[];refine(aF (ca) (by simp)).mono ?_;rintro r H' ⟨rfl,rfl⟩;simp -implicitDefEqProofs -dsimp[]
 | true =>
  have v:=csV h hb;have c1:=of_yes c f g h hb;have gv:=caseV v;obtain⟨t,ht⟩:∃t,t=csT c:=⟨_,rfl⟩;obtain⟨fds,hfds⟩:∃fds,fds=csF c:=⟨_,rfl⟩;rw[←ht,←hfds]at gv;rw[←ht,←hfds]at c1;have hN:=gv.small;have hfl:=gv.flen;obtain⟨T,r⟩:=optU_ok (fds:=fds) gv.tv hN;have c2:=Optimal_u t false false false fds gv.tv gv.num gv.valid gv.fok gv.ferr hN;obtain⟨u,hu⟩:∃u,u=optU t fds:=⟨_,rfl⟩;rw[←hu]at r c2;obtain⟨hUo,hsz,hval,htv⟩:=r.updOk gv;obtain⟨hco,hcl⟩:=r.cellsOk gv;obtain⟨k1,k2⟩:=r.check gv;have c3:=Check_r t false false false fds u gv.tv gv.fok (by omega) hUo hsz;have c4:=Check_u t false false false fds u gv.tv gv.fok hUo;have c5:=least_r t false false false fds gv.tv gv.fok hN;rw[k2]at c3;rw[k1]at c4;rw[←r.least gv]at c5;have c6:=Fill_r t false false false false fds u.cells gv.tv gv.num gv.fok hco.len (gv.chk hco);have c7:=Apply_u t false false false false fds u.cells gv.tv.ok gv.num gv.fok hco.len;unfold qf at c6;unfold ApplyR at c7;rw[if_pos (gv.chk hco),if_pos r.enough,←r.tab]at c6;rw[if_pos (gv.chk hco),if_pos r.enough,←r.tab,r.changes gv]at c7;have c8:=equal03 u.tab u.tab false false false false (by have:=htv.attrs;omega) (by have:=htv.rows;omega) (fun x hx=>⟨by rw[htv.len x hx];have:=htv.attrs;omega,hsz x hx⟩);rw[eqTb_self]at c8;have c9:=clone_F fds false (by omega);simp only[gf,aG,LS,LR,LC,LF]at c1;simp only[aG,LS,LR,LC,LF,aV,LLC,LNd]at c2 c3 c4 c5 c6 c7 c8 c9;refine aC (aD tok Tryz.func7 rfl rfl ?_);refine wx ?_;simp -implicitDefEqProofs -dsimp[Tryz.f7,List.replicate,gf];refine(aF (c1) (by simp)).mono ?_;rintro r H' ⟨rfl,rfl⟩;simp -implicitDefEqProofs -dsimp[];refine(aF (ca) (by simp)).mono ?_;rintro r H' ⟨rfl,rfl⟩;simp -implicitDefEqProofs -dsimp[];refine aK (am tok mixed [7,8] [(0,[1]),(1,[1]),(2,[1]),(3,[1]),(4,[1]),(5,[1]),(6,[1,2])] [(.lst 2 false (fds.map cT),[]),(.tup [.agg [.lst 2 false (u.cells.map aN),.str u.tab.name,.lst 1 false (u.tab.attrs.map V.str),.lst 2 false (u.tab.rows.map aL),.lst 1 false (u.cores.map (LC false)),.lst 2 false (u.prf.map aa)],.int .i64 0],[])] (by kernel_rfl) fun C K hC hK=>?_);simp -implicitDefEqProofs [];refine⟨by(repeat' apply And.intro)<;>first | exact hC _ _ _ _ (aF c9 (by simp)) | exact hC _ _ _ _ (aF c2 (by simp)),hK _ _ ?_⟩;simp -implicitDefEqProofs -dsimp[];refine .inr ⟨aI (by kernel_rfl),?_⟩;refine ae _ (aF (c3) (by simp)) ?_;simp -implicitDefEqProofs -dsimp[];refine ae _ (aF (c4) (by simp)) ?_;simp -implicitDefEqProofs -dsimp[];refine ae _ (aF (c5) (by simp)) ?_;simp -implicitDefEqProofs -dsimp[];obtain⟨n,hn⟩:∃n,u.cores.length=n:=⟨_,rfl⟩
  have hn512:n≤512:=by rw[←hn];exact r.cores.len hN
  refine aK (W_loopM 72 [2,9,14,16,27,31,62,63,64,65,66,67,68,69,70,71] (by simp[mB]<;>rfl) (σ:=Nat) (fun j=>j≤n) (fun j=>n-j) (fun j=>[(62,.int .i64 j)]) (fun _=>[B.cells [.int .u8 c.r.a,.int .u8 c.r.gap,.lst 1 f (c.r.rows.map LU),.lst 2 g (c.d.map encD)],B.cells [.str t.name,.lst 1 false (t.attrs.map V.str),.lst 2 false (t.rows.map aL)],B.cells [.lst 2 false (u.cells.map aN),.str u.tab.name,.lst 1 false (u.tab.attrs.map V.str),.lst 2 false (u.tab.rows.map aL),.lst 1 false (u.cores.map (LC false)),.lst 2 false (u.prf.map aa)]]) 0 (by omega) (by simp[hn]) (by simp) (by simp) ?_);intro j hj N Q hN hQ;by_cases hbj:j<n
  ·have hbc:j<u.cores.length:=by omega
   have hKm:=List.getElem_mem hbc;have cK:=isCore_r t false false false false fds u.cores[j] gv.tv gv.fok (by have:=r.cores.klen _ hKm;omega);rw[nN.2 (r.cores.core _ hKm)]at cK;obtain⟨K,hKe⟩:∃K,K=u.cores[j]:=⟨_,rfl⟩;rw[←hKe]at cK;simp only[aG,LS,LR,LC,LF]at cK;refine wx ?_;simp -implicitDefEqProofs -dsimp[hbj,hbc,hn,hKe.symm,LC,show(j:Int)<n by omega];refine(aF (cK) (by simp)).mono ?_;rintro r H' ⟨rfl,rfl⟩;simp -implicitDefEqProofs -dsimp[aJ j (by omega)];refine hN (j+1) _ _ (by omega) (by omega) (by simp[hn]) ⟨[],by simp⟩ (by simp) (by simp)
  ·obtain rfl:j=n:=by omega
   refine wx ?_;simp -implicitDefEqProofs -dsimp[hbj,hn];refine hQ _ _ _ ?_;simp -implicitDefEqProofs -dsimp[];refine(aF (c6) (by simp)).mono ?_;rintro r H' ⟨rfl,rfl⟩;simp -implicitDefEqProofs -dsimp[];refine(aF (c7) (by simp)).mono ?_;rintro r H' ⟨rfl,rfl⟩;simp -implicitDefEqProofs -dsimp[];refine(aF (c8) (by simp)).mono ?_;rintro r H' ⟨rfl,rfl⟩;simp -implicitDefEqProofs -dsimp[]
end
end Go.Proofs.YteijbpppalhihaaGreat
