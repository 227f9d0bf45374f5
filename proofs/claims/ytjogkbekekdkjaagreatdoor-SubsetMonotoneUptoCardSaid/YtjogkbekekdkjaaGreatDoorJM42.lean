/- JM42: own texts of this seat, joined and shortened by pack4.py: C4. -/
import Derived.Test.YtjogkbekekdkjaaGreatDoorJM40
import Derived.Test.YtjogkbekekdkjaaGreatDoorJM41
set_option linter.unusedVariables false
set_option linter.unusedSimpArgs false
set_option maxRecDepth 100000
set_option maxHeartbeats 64000000
open Nat renaming beq→qC
namespace Go.Proofs.YtjogkbekekdkjaaGreatDoor
section
open Go Go.AM
def xt0:aU:=fun f args H=>if qC f 38 then(if eqL (eqV 40) args clA0 then some (clR0,H) else extG f args H) else extG f args H
theorem xt0_ok:aL Tryz.prog xt0:=aM aS cl0 clQ0
def xt1:aU:=fun f args H=>if qC f 77 then(if eqL (eqV 40) args clA1 then some (clR1,H) else xt0 f args H) else xt0 f args H
theorem xt1_ok:aL Tryz.prog xt1:=aM xt0_ok cl1 clQ1
def xt2:aU:=fun f args H=>if qC f 126 then(if eqL (eqV 40) args clA2 then some (clR2,H) else xt1 f args H) else xt1 f args H
theorem xt2_ok:aL Tryz.prog xt2:=aM xt1_ok cl2 clQ2
def xt4:aU:=lx 242 clA4 clR4 xt2
theorem xt4_ok:aL Tryz.prog xt4:=bB xt2_ok cl4 clQ4 (by unfold clR4;constructor)
def xt5:aU:=lx 242 clA5 clR5 xt4
theorem xt5_ok:aL Tryz.prog xt5:=bB xt4_ok cl5 clQ5 (by unfold clR5;constructor)
def xt6:aU:=lx 242 clA6 clR6 xt5
theorem xt6_ok:aL Tryz.prog xt6:=bB xt5_ok cl6 clQ6 (by unfold clR6;constructor)
def xt7:aU:=lx 242 clA7 clR7 xt6
theorem xt7_ok:aL Tryz.prog xt7:=bB xt6_ok cl7 clQ7 (by unfold clR7;constructor)
def xt8:aU:=lx 242 clA8 clR8 xt7
theorem xt8_ok:aL Tryz.prog xt8:=bB xt7_ok cl8 clQ8 (by unfold clR8;constructor)
def xt9:aU:=lx 242 clA9 clR9 xt8
theorem xt9_ok:aL Tryz.prog xt9:=bB xt8_ok cl9 clQ9 (by unfold clR9;constructor)
def xt10:aU:=lx 242 clA10 clR10 xt9
theorem xt10_ok:aL Tryz.prog xt10:=bB xt9_ok cl10 clQ10 (by unfold clR10;constructor)
def xt11:aU:=lx 242 clA11 clR11 xt10
theorem xt11_ok:aL Tryz.prog xt11:=bB xt10_ok cl11 clQ11 (by unfold clR11;constructor)
def xt12:aU:=lx 242 clA12 clR12 xt11
theorem xt12_ok:aL Tryz.prog xt12:=bB xt11_ok cl12 clQ12 (by unfold clR12;constructor)
def xt13:aU:=lx 242 clA13 clR13 xt12
theorem xt13_ok:aL Tryz.prog xt13:=bB xt12_ok cl13 clQ13 (by unfold clR13;constructor)
def xt14:aU:=lx 242 clA14 clR14 xt13
theorem xt14_ok:aL Tryz.prog xt14:=bB xt13_ok cl14 clQ14 (by unfold clR14;constructor)
def xt15:aU:=lx 242 clA15 clR15 xt14
theorem xt15_ok:aL Tryz.prog xt15:=bB xt14_ok cl15 clQ15 (by unfold clR15;constructor)
def xt18:aU:=fun f args H=>if qC f 40 then(if eqL (eqV 40) args clA18 then some (clR18,H) else xt15 f args H) else xt15 f args H
theorem xt18_ok:aL Tryz.prog xt18:=aM xt15_ok cl18 clQ18
def xt19:aU:=fun f args H=>if qC f 40 then(if eqL (eqV 40) args clA19 then some (clR19,H) else xt18 f args H) else xt18 f args H
theorem xt19_ok:aL Tryz.prog xt19:=aM xt18_ok cl19 clQ19
def xt20:aU:=fun f args H=>if qC f 40 then(if eqL (eqV 40) args clA20 then some (clR20,H) else xt19 f args H) else xt19 f args H
theorem xt20_ok:aL Tryz.prog xt20:=aM xt19_ok cl20 clQ20
def xt22:aU:=fun f args H=>if qC f 69 then(if eqL (eqV 40) args clA22 then some (clR22,H) else xt20 f args H) else xt20 f args H
theorem xt22_ok:aL Tryz.prog xt22:=aM xt20_ok cl22 clQ22
def xt23:aU:=fun f args H=>if qC f 56 then(if eqL (eqV 40) args clA23 then some (clR23,H) else xt22 f args H) else xt22 f args H
theorem xt23_ok:aL Tryz.prog xt23:=aM xt22_ok cl23 clQ23
def xt25:aU:=fun f args H=>if qC f 47 then(if eqL (eqV 40) args clA25 then some (clR25,H) else xt23 f args H) else xt23 f args H
theorem xt25_ok:aL Tryz.prog xt25:=aM xt23_ok cl25 clQ25
def xt27:aU:=fun f args H=>if qC f 54 then(if eqL (eqV 40) args clA27 then some (clR27,H) else xt25 f args H) else xt25 f args H
theorem xt27_ok:aL Tryz.prog xt27:=aM xt25_ok cl27 clQ27
def xt28:aU:=fun f args H=>if qC f 55 then(if eqL (eqV 40) args clA28 then some (clR28,H) else xt27 f args H) else xt27 f args H
theorem xt28_ok:aL Tryz.prog xt28:=aM xt27_ok cl28 clQ28
def xt29:aU:=fun f args H=>if qC f 57 then(if eqL (eqV 40) args clA29 then some (clR29,H) else xt28 f args H) else xt28 f args H
theorem xt29_ok:aL Tryz.prog xt29:=aM xt28_ok cl29 clQ29
def xt30:aU:=fun f args H=>if qC f 54 then(if eqL (eqV 40) args clA30 then some (clR30,H) else xt29 f args H) else xt29 f args H
theorem xt30_ok:aL Tryz.prog xt30:=aM xt29_ok cl30 clQ30
def xt31:aU:=fun f args H=>if qC f 57 then(if eqL (eqV 40) args clA31 then some (clR31,H) else xt30 f args H) else xt30 f args H
theorem xt31_ok:aL Tryz.prog xt31:=aM xt30_ok cl31 clQ31
def clA3:List V:=[.agg [.str ⟨#[114]⟩,.lst 1 true [.str ⟨#[97]⟩,.str ⟨#[98]⟩],.lst 2 false [.agg [.int .i64 1,.lst 3 false [.agg [.int .i64 1,.int .i64 1,.str ⟨#[]⟩],.agg [.int .i64 1,.int .i64 1,.str ⟨#[]⟩]]],.agg [.int .i64 2,.lst 3 false [.agg [.int .i64 1,.int .i64 1,.str ⟨#[]⟩],.agg [.int .i64 1,.int .i64 2,.str ⟨#[]⟩]]],.agg [.int .i64 3,.lst 3 false [.agg [.int .i64 1,.int .i64 1,.str ⟨#[]⟩],.agg [.int .i64 1,.int .i64 7,.str ⟨#[]⟩]]],.agg [.int .i64 4,.lst 3 false [.agg [.int .i64 1,.int .i64 2,.str ⟨#[]⟩],.agg [.int .i64 1,.int .i64 1,.str ⟨#[]⟩]]]]],.agg [.int .i64 2,.lst 11 false [.agg [.int .i64 1,.int .i64 0,.int .i64 0,.int .i64 0,.str ⟨#[]⟩,.int .i64 1,.int .i64 2,.int .i64 0,.int .i64 0,.int .i64 0,.str ⟨#[]⟩],.agg [.int .i64 1,.int .i64 1,.int .i64 0,.int .i64 0,.str ⟨#[]⟩,.int .i64 2,.int .i64 2,.int .i64 1,.int .i64 0,.int .i64 0,.str ⟨#[]⟩]]]]
def clR3:V:=.int .i64 0
theorem clP3:AM.Pure clR3:=by simp[clR3]
theorem clQ3:∀a∈clA3,AM.Pure a:=by simp[clA3]
theorem cl3:aE Tryz.prog 193 clA3 fun x=>x=clR3:=aC tok mixed aN xt31_ok (fuel:=1000) (d:=40) (by kernel_rfl) clP3
def xt3:aU:=fun f args H=>if qC f 193 then(if eqL (eqV 40) args clA3 then some (clR3,H) else xt31 f args H) else xt31 f args H
theorem xt3_ok:aL Tryz.prog xt3:=aM xt31_ok cl3 clQ3
def clA16:List V:=[.agg [.str ⟨#[114]⟩,.lst 1 true [.str ⟨#[97]⟩,.str ⟨#[98]⟩],.lst 2 false [.agg [.int .i64 1,.lst 3 false [.agg [.int .i64 1,.int .i64 1,.str ⟨#[]⟩],.agg [.int .i64 1,.int .i64 1,.str ⟨#[]⟩]]],.agg [.int .i64 2,.lst 3 false [.agg [.int .i64 1,.int .i64 1,.str ⟨#[]⟩],.agg [.int .i64 1,.int .i64 2,.str ⟨#[]⟩]]],.agg [.int .i64 3,.lst 3 false [.agg [.int .i64 1,.int .i64 1,.str ⟨#[]⟩],.agg [.int .i64 1,.int .i64 7,.str ⟨#[]⟩]]],.agg [.int .i64 4,.lst 3 false [.agg [.int .i64 1,.int .i64 2,.str ⟨#[]⟩],.agg [.int .i64 1,.int .i64 1,.str ⟨#[]⟩]]]]],.agg [.str ⟨#[]⟩,.str ⟨#[114]⟩,.int .i64 1,.int .u32 1,.int .u32 2,.int .u32 0,.int .u32 0,.str ⟨#[]⟩,.nilS,.str ⟨#[]⟩,.nilS,.nilS,.int .i64 0,.nilS,.nilS,.nilS,.int .i64 0,.nilS]]
def clR16:V:=.tup [.lst 1 false [.lst 1 false [.int .i64 1,.int .i64 2],.lst 1 false [.int .i64 1,.int .i64 3],.lst 1 false [.int .i64 2,.int .i64 3]],.int .i64 0]
theorem clP16:AM.Pure clR16:=by simp[clR16]
theorem clQ16:∀a∈clA16,AM.Pure a:=by simp[clA16]
theorem cl16:aE Tryz.prog 79 clA16 fun x=>x=clR16:=aC tok mixed aN xt3_ok (fuel:=1000) (d:=40) (by kernel_rfl) clP16
def xt16:aU:=fun f args H=>if qC f 79 then(if eqL (eqV 40) args clA16 then some (clR16,H) else xt3 f args H) else xt3 f args H
theorem xt16_ok:aL Tryz.prog xt16:=aM xt3_ok cl16 clQ16
def clA17:List V:=[.agg [.str ⟨#[114]⟩,.lst 1 true [.str ⟨#[97]⟩,.str ⟨#[98]⟩],.lst 2 false [.agg [.int .i64 1,.lst 3 false [.agg [.int .i64 1,.int .i64 1,.str ⟨#[]⟩],.agg [.int .i64 1,.int .i64 1,.str ⟨#[]⟩]]],.agg [.int .i64 2,.lst 3 false [.agg [.int .i64 1,.int .i64 1,.str ⟨#[]⟩],.agg [.int .i64 1,.int .i64 2,.str ⟨#[]⟩]]],.agg [.int .i64 3,.lst 3 false [.agg [.int .i64 1,.int .i64 1,.str ⟨#[]⟩],.agg [.int .i64 1,.int .i64 7,.str ⟨#[]⟩]]],.agg [.int .i64 4,.lst 3 false [.agg [.int .i64 1,.int .i64 2,.str ⟨#[]⟩],.agg [.int .i64 1,.int .i64 1,.str ⟨#[]⟩]]]]],.lst 18 true [.agg [.str ⟨#[]⟩,.str ⟨#[114]⟩,.int .i64 1,.int .u32 1,.int .u32 2,.int .u32 0,.int .u32 0,.str ⟨#[]⟩,.nilS,.str ⟨#[]⟩,.nilS,.nilS,.int .i64 0,.nilS,.nilS,.nilS,.int .i64 0,.nilS]]]
def clR17:V:=.tup [.agg [.lst 1 false [.int .i64 1,.int .i64 2,.int .i64 3,.int .i64 4],.lst 1 false [.lst 1 false [.int .i64 1,.int .i64 2],.lst 1 false [.int .i64 1,.int .i64 3],.lst 1 false [.int .i64 2,.int .i64 3]]],.int .i64 0]
theorem clP17:AM.Pure clR17:=by simp[clR17]
theorem clQ17:∀a∈clA17,AM.Pure a:=by simp[clA17]
theorem cl17:aE Tryz.prog 39 clA17 fun x=>x=clR17:=aC tok mixed aN xt16_ok (fuel:=1000) (d:=40) (by kernel_rfl) clP17
def xt17:aU:=fun f args H=>if qC f 39 then(if eqL (eqV 40) args clA17 then some (clR17,H) else xt16 f args H) else xt16 f args H
theorem xt17_ok:aL Tryz.prog xt17:=aM xt16_ok cl17 clQ17
def clA21:List V:=[.agg [.str ⟨#[114]⟩,.lst 1 true [.str ⟨#[97]⟩,.str ⟨#[98]⟩],.lst 2 false [.agg [.int .i64 1,.lst 3 false [.agg [.int .i64 1,.int .i64 1,.str ⟨#[]⟩],.agg [.int .i64 1,.int .i64 1,.str ⟨#[]⟩]]],.agg [.int .i64 2,.lst 3 false [.agg [.int .i64 1,.int .i64 1,.str ⟨#[]⟩],.agg [.int .i64 1,.int .i64 2,.str ⟨#[]⟩]]],.agg [.int .i64 3,.lst 3 false [.agg [.int .i64 1,.int .i64 1,.str ⟨#[]⟩],.agg [.int .i64 1,.int .i64 7,.str ⟨#[]⟩]]],.agg [.int .i64 4,.lst 3 false [.agg [.int .i64 1,.int .i64 2,.str ⟨#[]⟩],.agg [.int .i64 1,.int .i64 1,.str ⟨#[]⟩]]]]],.lst 18 true [.agg [.str ⟨#[]⟩,.str ⟨#[114]⟩,.int .i64 1,.int .u32 1,.int .u32 2,.int .u32 0,.int .u32 0,.str ⟨#[]⟩,.nilS,.str ⟨#[]⟩,.nilS,.nilS,.int .i64 0,.nilS,.nilS,.nilS,.int .i64 0,.nilS]],.lst 1 true [.int .i64 5,.int .i64 1,.int .i64 1,.int .i64 1]]
def clR21:V:=.tup [.agg [.lst 1 false [.int .i64 5,.int .i64 1,.int .i64 1,.int .i64 1],.lst 1 false [.lst 1 false [.int .i64 0,.int .i64 1],.lst 1 false [.int .i64 0,.int .i64 2],.lst 1 false [.int .i64 1,.int .i64 2]]],.int .i64 0]
theorem clP21:AM.Pure clR21:=by simp[clR21]
theorem clQ21:∀a∈clA21,AM.Pure a:=by simp[clA21]
theorem cl21:aE Tryz.prog 13 clA21 fun x=>x=clR21:=aC tok mixed aN xt17_ok (fuel:=1000) (d:=40) (by kernel_rfl) clP21
def xt21:aU:=fun f args H=>if qC f 13 then(if eqL (eqV 40) args clA21 then some (clR21,H) else xt17 f args H) else xt17 f args H
theorem xt21_ok:aL Tryz.prog xt21:=aM xt17_ok cl21 clQ21
def clA24:List V:=[.agg [.lst 1 false [.int .i64 5,.int .i64 1,.int .i64 1,.int .i64 1],.lst 1 false [.lst 1 false [.int .i64 0,.int .i64 1],.lst 1 false [.int .i64 0,.int .i64 2],.lst 1 false [.int .i64 1,.int .i64 2]]],.int .i64 10000]
def clR24:V:=.tup [.lst 1 false [.int .i64 1,.int .i64 2],.int .i64 2,.int .i64 0]
theorem clP24:AM.Pure clR24:=by simp[clR24]
theorem clQ24:∀a∈clA24,AM.Pure a:=by simp[clA24]
theorem cl24:aE Tryz.prog 46 clA24 fun x=>x=clR24:=aC tok mixed aN xt21_ok (fuel:=1000) (d:=40) (by kernel_rfl) clP24
def xt24:aU:=fun f args H=>if qC f 46 then(if eqL (eqV 40) args clA24 then some (clR24,H) else xt21 f args H) else xt21 f args H
theorem xt24_ok:aL Tryz.prog xt24:=aM xt21_ok cl24 clQ24
def clA26:List V:=[.agg [.str ⟨#[114]⟩,.lst 1 true [.str ⟨#[97]⟩,.str ⟨#[98]⟩],.lst 2 false [.agg [.int .i64 1,.lst 3 false [.agg [.int .i64 1,.int .i64 1,.str ⟨#[]⟩],.agg [.int .i64 1,.int .i64 1,.str ⟨#[]⟩]]],.agg [.int .i64 2,.lst 3 false [.agg [.int .i64 1,.int .i64 1,.str ⟨#[]⟩],.agg [.int .i64 1,.int .i64 2,.str ⟨#[]⟩]]],.agg [.int .i64 3,.lst 3 false [.agg [.int .i64 1,.int .i64 1,.str ⟨#[]⟩],.agg [.int .i64 1,.int .i64 7,.str ⟨#[]⟩]]],.agg [.int .i64 4,.lst 3 false [.agg [.int .i64 1,.int .i64 2,.str ⟨#[]⟩],.agg [.int .i64 1,.int .i64 1,.str ⟨#[]⟩]]]]],.lst 18 true [.agg [.str ⟨#[]⟩,.str ⟨#[114]⟩,.int .i64 1,.int .u32 1,.int .u32 2,.int .u32 0,.int .u32 0,.str ⟨#[]⟩,.nilS,.str ⟨#[]⟩,.nilS,.nilS,.int .i64 0,.nilS,.nilS,.nilS,.int .i64 0,.nilS]],.lst 1 true [.int .i64 5,.int .i64 1,.int .i64 1,.int .i64 1],.int .i64 10000]
def clR26:V:=.tup [.agg [.lst 1 false [.int .i64 2,.int .i64 3],.int .i64 2,.lst 2 true [.agg [.int .i64 (-1),.lst 2 false [.agg [.int .i64 0,.int .i64 1],.agg [.int .i64 1,.int .i64 1]]]]],.int .i64 0]
theorem clP26:AM.Pure clR26:=by simp[clR26]
theorem clQ26:∀a∈clA26,AM.Pure a:=by simp[clA26]
theorem cl26:aE Tryz.prog 18 clA26 fun x=>x=clR26:=aC tok mixed aN xt24_ok (fuel:=1000) (d:=40) (by kernel_rfl) clP26
def xt26:aU:=fun f args H=>if qC f 18 then(if eqL (eqV 40) args clA26 then some (clR26,H) else xt24 f args H) else xt24 f args H
theorem xt26_ok:aL Tryz.prog xt26:=aM xt24_ok cl26 clQ26
theorem cj:aE Tryz.prog 12 [] fun x=>x = .bool true:=aC tok mixed aN xt26_ok (fuel:=1000) (d:=40) (by kernel_rfl) (.bool _)
end
end Go.Proofs.YtjogkbekekdkjaaGreatDoor
