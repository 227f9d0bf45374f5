/- JM45: own texts of this seat, joined and shortened by pack4.py: C4. -/
import Derived.Test.YtdnhplencamncaaGreatDoorJM43
import Derived.Test.YtdnhplencamncaaGreatDoorJM44
set_option linter.unusedVariables false
set_option linter.unusedSimpArgs false
set_option maxRecDepth 100000
set_option maxHeartbeats 64000000
open Nat renaming beq→pO
namespace Go.Proofs.YtdnhplencamncaaGreatDoor
section
open Go Go.AM
def xt0:am:=fun f args H=>if pO f 70 then(if eqL (eqV 40) args clA0 then some (clR0,H) else extG f args H) else extG f args H
theorem xt0_ok:aa Tryz.prog xt0:=ac ai cl0 clQ0
def xt1:am:=fun f args H=>if pO f 70 then(if eqL (eqV 40) args clA1 then some (clR1,H) else xt0 f args H) else xt0 f args H
theorem xt1_ok:aa Tryz.prog xt1:=ac xt0_ok cl1 clQ1
def xt2:am:=fun f args H=>if pO f 70 then(if eqL (eqV 40) args clA2 then some (clR2,H) else xt1 f args H) else xt1 f args H
theorem xt2_ok:aa Tryz.prog xt2:=ac xt1_ok cl2 clQ2
def xt6:am:=fun f args H=>if pO f 145 then(if eqL (eqV 40) args clA6 then some (clR6,H) else xt2 f args H) else xt2 f args H
theorem xt6_ok:aa Tryz.prog xt6:=ac xt2_ok cl6 clQ6
def xt9:am:=fun f args H=>if pO f 251 then(if eqL (eqV 40) args clA9 then some (clR9,H) else xt6 f args H) else xt6 f args H
theorem xt9_ok:aa Tryz.prog xt9:=ac xt6_ok cl9 clQ9
def xt14:am:=fun f args H=>if pO f 139 then(if eqL (eqV 40) args clA14 then some (clR14,H) else xt9 f args H) else xt9 f args H
theorem xt14_ok:aa Tryz.prog xt14:=ac xt9_ok cl14 clQ14
def xt20:am:=fun f args H=>if pO f 145 then(if eqL (eqV 40) args clA20 then some (clR20,H) else xt14 f args H) else xt14 f args H
theorem xt20_ok:aa Tryz.prog xt20:=ac xt14_ok cl20 clQ20
def xt22:am:=fun f args H=>if pO f 147 then(if eqL (eqV 40) args clA22 then some (clR22,H) else xt20 f args H) else xt20 f args H
theorem xt22_ok:aa Tryz.prog xt22:=ac xt20_ok cl22 clQ22
def xt23:am:=fun f args H=>if pO f 139 then(if eqL (eqV 40) args clA23 then some (clR23,H) else xt22 f args H) else xt22 f args H
theorem xt23_ok:aa Tryz.prog xt23:=ac xt22_ok cl23 clQ23
def xt27:am:=gx 82 clA27 clR27 xt23
theorem xt27_ok:aa Tryz.prog xt27:=bm xt23_ok cl27 clQ27 (by unfold clR27;constructor)
def xt28:am:=nR 85 clA28 clR28 xt27
theorem xt28_ok:aa Tryz.prog xt28:=eJ xt27_ok cl28 clQ28
def xt29:am:=fun f args H=>if pO f 147 then(if eqL (eqV 40) args clA29 then some (clR29,H) else xt28 f args H) else xt28 f args H
theorem xt29_ok:aa Tryz.prog xt29:=ac xt28_ok cl29 clQ29
def xt30:am:=nR 85 clA30 clR30 xt29
theorem xt30_ok:aa Tryz.prog xt30:=eJ xt29_ok cl30 clQ30
def xt31:am:=gx 82 clA31 clR31 xt30
theorem xt31_ok:aa Tryz.prog xt31:=bm xt30_ok cl31 clQ31 (by unfold clR31;constructor)
def xt33:am:=fun f args H=>if pO f 147 then(if eqL (eqV 40) args clA33 then some (clR33,H) else xt31 f args H) else xt31 f args H
theorem xt33_ok:aa Tryz.prog xt33:=ac xt31_ok cl33 clQ33
def xt34:am:=nR 85 clA34 clR34 xt33
theorem xt34_ok:aa Tryz.prog xt34:=eJ xt33_ok cl34 clQ34
def xt35:am:=gx 82 clA35 clR35 xt34
theorem xt35_ok:aa Tryz.prog xt35:=bm xt34_ok cl35 clQ35 (by unfold clR35;constructor)
def xt37:am:=fun f args H=>if pO f 147 then(if eqL (eqV 40) args clA37 then some (clR37,H) else xt35 f args H) else xt35 f args H
theorem xt37_ok:aa Tryz.prog xt37:=ac xt35_ok cl37 clQ37
def xt38:am:=nR 85 clA38 clR38 xt37
theorem xt38_ok:aa Tryz.prog xt38:=eJ xt37_ok cl38 clQ38
def xt39:am:=gx 82 clA39 clR39 xt38
theorem xt39_ok:aa Tryz.prog xt39:=bm xt38_ok cl39 clQ39 (by unfold clR39;constructor)
def xt41:am:=fun f args H=>if pO f 147 then(if eqL (eqV 40) args clA41 then some (clR41,H) else xt39 f args H) else xt39 f args H
theorem xt41_ok:aa Tryz.prog xt41:=ac xt39_ok cl41 clQ41
def xt42:am:=nR 85 clA42 clR42 xt41
theorem xt42_ok:aa Tryz.prog xt42:=eJ xt41_ok cl42 clQ42
def xt43:am:=gx 82 clA43 clR43 xt42
theorem xt43_ok:aa Tryz.prog xt43:=bm xt42_ok cl43 clQ43 (by unfold clR43;constructor)
def xt45:am:=fun f args H=>if pO f 147 then(if eqL (eqV 40) args clA45 then some (clR45,H) else xt43 f args H) else xt43 f args H
theorem xt45_ok:aa Tryz.prog xt45:=ac xt43_ok cl45 clQ45
def xt46:am:=nR 85 clA46 clR46 xt45
theorem xt46_ok:aa Tryz.prog xt46:=eJ xt45_ok cl46 clQ46
def xt47:am:=gx 82 clA47 clR47 xt46
theorem xt47_ok:aa Tryz.prog xt47:=bm xt46_ok cl47 clQ47 (by unfold clR47;constructor)
def xt49:am:=fun f args H=>if pO f 147 then(if eqL (eqV 40) args clA49 then some (clR49,H) else xt47 f args H) else xt47 f args H
theorem xt49_ok:aa Tryz.prog xt49:=ac xt47_ok cl49 clQ49
def xt50:am:=nR 85 clA50 clR50 xt49
theorem xt50_ok:aa Tryz.prog xt50:=eJ xt49_ok cl50 clQ50
def xt51:am:=gx 82 clA51 clR51 xt50
theorem xt51_ok:aa Tryz.prog xt51:=bm xt50_ok cl51 clQ51 (by unfold clR51;constructor)
def clA3:List V:=[.agg [.str ⟨#[114]⟩,.lst 1 true [.str ⟨#[97]⟩,.str ⟨#[98]⟩],.lst 2 true [.agg [.int .i64 1,.lst 3 true [.agg [.int .i64 1,.int .i64 5,.str ⟨#[]⟩],.agg [.int .i64 1,.int .i64 1,.str ⟨#[]⟩]]],.agg [.int .i64 2,.lst 3 true [.agg [.int .i64 1,.int .i64 5,.str ⟨#[]⟩],.agg [.int .i64 1,.int .i64 2,.str ⟨#[]⟩]]],.agg [.int .i64 3,.lst 3 true [.agg [.int .i64 1,.int .i64 6,.str ⟨#[]⟩],.agg [.int .i64 1,.int .i64 1,.str ⟨#[]⟩]]]]]]
def clR3:V:=.int .i64 0
theorem clP3:AM.Pure clR3:=by simp[clR3]
theorem clQ3:∀a∈clA3,AM.Pure a:=by simp[clA3]
theorem cl3:aJ Tryz.prog 31 clA3 fun x=>x=clR3:=aH tok mixed af xt51_ok (fuel:=1000) (d:=40) (by kernel_rfl) clP3
def xt3:am:=fun f args H=>if pO f 31 then(if eqL (eqV 40) args clA3 then some (clR3,H) else xt51 f args H) else xt51 f args H
theorem xt3_ok:aa Tryz.prog xt3:=ac xt51_ok cl3 clQ3
def clA4:List V:=[.agg [.str ⟨#[114]⟩,.lst 1 true [.str ⟨#[97]⟩,.str ⟨#[98]⟩],.lst 2 true [.agg [.int .i64 2,.lst 3 true [.agg [.int .i64 1,.int .i64 5,.str ⟨#[]⟩],.agg [.int .i64 1,.int .i64 1,.str ⟨#[]⟩]]],.agg [.int .i64 3,.lst 3 true [.agg [.int .i64 1,.int .i64 6,.str ⟨#[]⟩],.agg [.int .i64 1,.int .i64 1,.str ⟨#[]⟩]]],.agg [.int .i64 4,.lst 3 true [.agg [.int .i64 1,.int .i64 7,.str ⟨#[]⟩],.agg [.int .i64 1,.int .i64 7,.str ⟨#[]⟩]]]]]]
def clR4:V:=.int .i64 0
theorem clP4:AM.Pure clR4:=by simp[clR4]
theorem clQ4:∀a∈clA4,AM.Pure a:=by simp[clA4]
theorem cl4:aJ Tryz.prog 31 clA4 fun x=>x=clR4:=aH tok mixed af xt3_ok (fuel:=1000) (d:=40) (by kernel_rfl) clP4
def xt4:am:=fun f args H=>if pO f 31 then(if eqL (eqV 40) args clA4 then some (clR4,H) else xt3 f args H) else xt3 f args H
theorem xt4_ok:aa Tryz.prog xt4:=ac xt3_ok cl4 clQ4
def clA5:List V:=[.agg [.str ⟨#[114]⟩,.lst 1 true [.str ⟨#[97]⟩,.str ⟨#[98]⟩],.lst 2 true [.agg [.int .i64 1,.lst 3 true [.agg [.int .i64 1,.int .i64 5,.str ⟨#[]⟩],.agg [.int .i64 1,.int .i64 1,.str ⟨#[]⟩]]],.agg [.int .i64 2,.lst 3 true [.agg [.int .i64 1,.int .i64 5,.str ⟨#[]⟩],.agg [.int .i64 1,.int .i64 2,.str ⟨#[]⟩]]],.agg [.int .i64 3,.lst 3 true [.agg [.int .i64 1,.int .i64 6,.str ⟨#[]⟩],.agg [.int .i64 1,.int .i64 1,.str ⟨#[]⟩]]]]],.agg [.str ⟨#[114]⟩,.lst 1 true [.str ⟨#[97]⟩,.str ⟨#[98]⟩],.lst 2 true [.agg [.int .i64 2,.lst 3 true [.agg [.int .i64 1,.int .i64 5,.str ⟨#[]⟩],.agg [.int .i64 1,.int .i64 1,.str ⟨#[]⟩]]],.agg [.int .i64 3,.lst 3 true [.agg [.int .i64 1,.int .i64 6,.str ⟨#[]⟩],.agg [.int .i64 1,.int .i64 1,.str ⟨#[]⟩]]],.agg [.int .i64 4,.lst 3 true [.agg [.int .i64 1,.int .i64 7,.str ⟨#[]⟩],.agg [.int .i64 1,.int .i64 7,.str ⟨#[]⟩]]]]]]
def clR5:V:=.tup [.lst 11 false [.agg [.int .i64 3,.str ⟨#[114]⟩,.str ⟨#[]⟩,.nilS,.nilS,.int .i64 1,.lst 3 false [.agg [.int .i64 1,.int .i64 5,.str ⟨#[]⟩],.agg [.int .i64 1,.int .i64 1,.str ⟨#[]⟩]],.int .i64 0,.int .i64 0,.int .i64 0,.str ⟨#[]⟩],.agg [.int .i64 4,.str ⟨#[114]⟩,.str ⟨#[]⟩,.nilS,.nilS,.int .i64 2,.lst 3 false [.agg [.int .i64 1,.int .i64 5,.str ⟨#[]⟩],.agg [.int .i64 1,.int .i64 2,.str ⟨#[]⟩]],.int .i64 1,.int .i64 1,.int .i64 1,.str ⟨#[]⟩],.agg [.int .i64 2,.str ⟨#[114]⟩,.str ⟨#[]⟩,.nilS,.nilS,.int .i64 4,.lst 3 false [.agg [.int .i64 1,.int .i64 7,.str ⟨#[]⟩],.agg [.int .i64 1,.int .i64 7,.str ⟨#[]⟩]],.int .i64 0,.int .i64 0,.int .i64 0,.str ⟨#[]⟩]],.int .i64 0]
theorem clP5:AM.Pure clR5:=by simp[clR5]
theorem clQ5:∀a∈clA5,AM.Pure a:=by simp[clA5]
theorem cl5:aJ Tryz.prog 14 clA5 fun x=>x=clR5:=aH tok mixed af xt4_ok (fuel:=1000) (d:=40) (by kernel_rfl) clP5
def xt5:am:=fun f args H=>if pO f 14 then(if eqL (eqV 40) args clA5 then some (clR5,H) else xt4 f args H) else xt4 f args H
theorem xt5_ok:aa Tryz.prog xt5:=ac xt4_ok cl5 clQ5
def clA7:List V:=[.int .i64 2,.agg [.int .u32 1,.int .u32 2]]
def clR7:V:=.tup [.lst 2 false [.agg [.int .i64 2,.lst 11 false [.agg [.int .i64 1,.int .i64 0,.int .i64 0,.int .i64 0,.str ⟨#[]⟩,.int .i64 1,.int .i64 2,.int .i64 0,.int .i64 0,.int .i64 0,.str ⟨#[]⟩],.agg [.int .i64 1,.int .i64 1,.int .i64 0,.int .i64 0,.str ⟨#[]⟩,.int .i64 2,.int .i64 2,.int .i64 1,.int .i64 0,.int .i64 0,.str ⟨#[]⟩]]]],.int .i64 0]
theorem clP7:AM.Pure clR7:=by simp[clR7]
theorem clQ7:∀a∈clA7,AM.Pure a:=by simp[clA7]
theorem cl7:aJ Tryz.prog 250 clA7 fun x=>x=clR7:=aH tok mixed af xt5_ok (fuel:=1000) (d:=40) (by kernel_rfl) clP7
def xt7:am:=fun f args H=>if pO f 250 then(if eqL (eqV 40) args clA7 then some (clR7,H) else xt5 f args H) else xt5 f args H
theorem xt7_ok:aa Tryz.prog xt7:=ac xt5_ok cl7 clQ7
def clA8:List V:=[.agg [.str ⟨#[114]⟩,.lst 1 true [.str ⟨#[97]⟩,.str ⟨#[98]⟩],.lst 2 true [.agg [.int .i64 1,.lst 3 true [.agg [.int .i64 1,.int .i64 5,.str ⟨#[]⟩],.agg [.int .i64 1,.int .i64 1,.str ⟨#[]⟩]]],.agg [.int .i64 2,.lst 3 true [.agg [.int .i64 1,.int .i64 5,.str ⟨#[]⟩],.agg [.int .i64 1,.int .i64 2,.str ⟨#[]⟩]]],.agg [.int .i64 3,.lst 3 true [.agg [.int .i64 1,.int .i64 6,.str ⟨#[]⟩],.agg [.int .i64 1,.int .i64 1,.str ⟨#[]⟩]]]]],.agg [.str ⟨#[99]⟩,.str ⟨#[114]⟩,.int .i64 1,.int .u32 1,.int .u32 2,.int .u32 0,.int .u32 0,.str ⟨#[]⟩,.nilS,.str ⟨#[]⟩,.nilS,.nilS,.int .i64 0,.nilS,.nilS,.nilS,.int .i64 0,.nilS]]
def clR8:V:=.tup [.lst 2 false [.agg [.int .i64 2,.lst 11 false [.agg [.int .i64 1,.int .i64 0,.int .i64 0,.int .i64 0,.str ⟨#[]⟩,.int .i64 1,.int .i64 2,.int .i64 0,.int .i64 0,.int .i64 0,.str ⟨#[]⟩],.agg [.int .i64 1,.int .i64 1,.int .i64 0,.int .i64 0,.str ⟨#[]⟩,.int .i64 2,.int .i64 2,.int .i64 1,.int .i64 0,.int .i64 0,.str ⟨#[]⟩]]]],.int .i64 0]
theorem clP8:AM.Pure clR8:=by simp[clR8]
theorem clQ8:∀a∈clA8,AM.Pure a:=by simp[clA8]
theorem cl8:aJ Tryz.prog 205 clA8 fun x=>x=clR8:=aH tok mixed af xt7_ok (fuel:=1000) (d:=40) (by kernel_rfl) clP8
def xt8:am:=fun f args H=>if pO f 205 then(if eqL (eqV 40) args clA8 then some (clR8,H) else xt7 f args H) else xt7 f args H
theorem xt8_ok:aa Tryz.prog xt8:=ac xt7_ok cl8 clQ8
def clA10:List V:=[.agg [.str ⟨#[114]⟩,.lst 1 true [.str ⟨#[97]⟩,.str ⟨#[98]⟩],.lst 2 true [.agg [.int .i64 1,.lst 3 true [.agg [.int .i64 1,.int .i64 5,.str ⟨#[]⟩],.agg [.int .i64 1,.int .i64 1,.str ⟨#[]⟩]]],.agg [.int .i64 2,.lst 3 true [.agg [.int .i64 1,.int .i64 5,.str ⟨#[]⟩],.agg [.int .i64 1,.int .i64 2,.str ⟨#[]⟩]]],.agg [.int .i64 3,.lst 3 true [.agg [.int .i64 1,.int .i64 6,.str ⟨#[]⟩],.agg [.int .i64 1,.int .i64 1,.str ⟨#[]⟩]]]]],.agg [.int .i64 2,.lst 11 false [.agg [.int .i64 1,.int .i64 0,.int .i64 0,.int .i64 0,.str ⟨#[]⟩,.int .i64 1,.int .i64 2,.int .i64 0,.int .i64 0,.int .i64 0,.str ⟨#[]⟩],.agg [.int .i64 1,.int .i64 1,.int .i64 0,.int .i64 0,.str ⟨#[]⟩,.int .i64 2,.int .i64 2,.int .i64 1,.int .i64 0,.int .i64 0,.str ⟨#[]⟩]]]]
def clR10:V:=.tup [.lst 1 false [.lst 1 false [.int .i64 1,.int .i64 2]],.int .i64 0]
theorem clP10:AM.Pure clR10:=by simp[clR10]
theorem clQ10:∀a∈clA10,AM.Pure a:=by simp[clA10]
theorem cl10:aJ Tryz.prog 256 clA10 fun x=>x=clR10:=aH tok mixed af xt8_ok (fuel:=1000) (d:=40) (by kernel_rfl) clP10
def xt10:am:=fun f args H=>if pO f 256 then(if eqL (eqV 40) args clA10 then some (clR10,H) else xt8 f args H) else xt8 f args H
theorem xt10_ok:aa Tryz.prog xt10:=ac xt8_ok cl10 clQ10
def clA11:List V:=[.agg [.str ⟨#[114]⟩,.lst 1 true [.str ⟨#[97]⟩,.str ⟨#[98]⟩],.lst 2 true [.agg [.int .i64 1,.lst 3 true [.agg [.int .i64 1,.int .i64 5,.str ⟨#[]⟩],.agg [.int .i64 1,.int .i64 1,.str ⟨#[]⟩]]],.agg [.int .i64 2,.lst 3 true [.agg [.int .i64 1,.int .i64 5,.str ⟨#[]⟩],.agg [.int .i64 1,.int .i64 2,.str ⟨#[]⟩]]],.agg [.int .i64 3,.lst 3 true [.agg [.int .i64 1,.int .i64 6,.str ⟨#[]⟩],.agg [.int .i64 1,.int .i64 1,.str ⟨#[]⟩]]]]],.agg [.str ⟨#[99]⟩,.str ⟨#[114]⟩,.int .i64 1,.int .u32 1,.int .u32 2,.int .u32 0,.int .u32 0,.str ⟨#[]⟩,.nilS,.str ⟨#[]⟩,.nilS,.nilS,.int .i64 0,.nilS,.nilS,.nilS,.int .i64 0,.nilS]]
def clR11:V:=.tup [.lst 1 false [.lst 1 false [.int .i64 1,.int .i64 2]],.int .i64 0]
theorem clP11:AM.Pure clR11:=by simp[clR11]
theorem clQ11:∀a∈clA11,AM.Pure a:=by simp[clA11]
theorem cl11:aJ Tryz.prog 206 clA11 fun x=>x=clR11:=aH tok mixed af xt10_ok (fuel:=1000) (d:=40) (by kernel_rfl) clP11
def xt11:am:=fun f args H=>if pO f 206 then(if eqL (eqV 40) args clA11 then some (clR11,H) else xt10 f args H) else xt10 f args H
theorem xt11_ok:aa Tryz.prog xt11:=ac xt10_ok cl11 clQ11
def clA12:List V:=[.agg [.str ⟨#[114]⟩,.lst 1 true [.str ⟨#[97]⟩,.str ⟨#[98]⟩],.lst 2 true [.agg [.int .i64 1,.lst 3 true [.agg [.int .i64 1,.int .i64 5,.str ⟨#[]⟩],.agg [.int .i64 1,.int .i64 1,.str ⟨#[]⟩]]],.agg [.int .i64 2,.lst 3 true [.agg [.int .i64 1,.int .i64 5,.str ⟨#[]⟩],.agg [.int .i64 1,.int .i64 2,.str ⟨#[]⟩]]],.agg [.int .i64 3,.lst 3 true [.agg [.int .i64 1,.int .i64 6,.str ⟨#[]⟩],.agg [.int .i64 1,.int .i64 1,.str ⟨#[]⟩]]]]],.lst 18 true [.agg [.str ⟨#[99]⟩,.str ⟨#[114]⟩,.int .i64 1,.int .u32 1,.int .u32 2,.int .u32 0,.int .u32 0,.str ⟨#[]⟩,.nilS,.str ⟨#[]⟩,.nilS,.nilS,.int .i64 0,.nilS,.nilS,.nilS,.int .i64 0,.nilS]]]
def clR12:V:=.tup [.agg [.lst 1 false [.int .i64 1,.int .i64 2,.int .i64 3],.lst 1 false [.lst 1 false [.int .i64 1,.int .i64 2]]],.int .i64 0]
theorem clP12:AM.Pure clR12:=by simp[clR12]
theorem clQ12:∀a∈clA12,AM.Pure a:=by simp[clA12]
theorem cl12:aJ Tryz.prog 137 clA12 fun x=>x=clR12:=aH tok mixed af xt11_ok (fuel:=1000) (d:=40) (by kernel_rfl) clP12
def xt12:am:=fun f args H=>if pO f 137 then(if eqL (eqV 40) args clA12 then some (clR12,H) else xt11 f args H) else xt11 f args H
theorem xt12_ok:aa Tryz.prog xt12:=ac xt11_ok cl12 clQ12
def clA13:List V:=[.agg [.str ⟨#[114]⟩,.lst 1 true [.str ⟨#[97]⟩,.str ⟨#[98]⟩],.lst 2 true [.agg [.int .i64 1,.lst 3 true [.agg [.int .i64 1,.int .i64 5,.str ⟨#[]⟩],.agg [.int .i64 1,.int .i64 1,.str ⟨#[]⟩]]],.agg [.int .i64 2,.lst 3 true [.agg [.int .i64 1,.int .i64 5,.str ⟨#[]⟩],.agg [.int .i64 1,.int .i64 2,.str ⟨#[]⟩]]],.agg [.int .i64 3,.lst 3 true [.agg [.int .i64 1,.int .i64 6,.str ⟨#[]⟩],.agg [.int .i64 1,.int .i64 1,.str ⟨#[]⟩]]]]],.lst 18 true [.agg [.str ⟨#[99]⟩,.str ⟨#[114]⟩,.int .i64 1,.int .u32 1,.int .u32 2,.int .u32 0,.int .u32 0,.str ⟨#[]⟩,.nilS,.str ⟨#[]⟩,.nilS,.nilS,.int .i64 0,.nilS,.nilS,.nilS,.int .i64 0,.nilS]],.nilS]
def clR13:V:=.tup [.agg [.lst 1 false [.int .i64 1,.int .i64 1,.int .i64 1],.lst 1 false [.lst 1 false [.int .i64 0,.int .i64 1]]],.int .i64 0]
theorem clP13:AM.Pure clR13:=by simp[clR13]
theorem clQ13:∀a∈clA13,AM.Pure a:=by simp[clA13]
theorem cl13:aJ Tryz.prog 77 clA13 fun x=>x=clR13:=aH tok mixed af xt12_ok (fuel:=1000) (d:=40) (by kernel_rfl) clP13
def xt13:am:=fun f args H=>if pO f 77 then(if eqL (eqV 40) args clA13 then some (clR13,H) else xt12 f args H) else xt12 f args H
theorem xt13_ok:aa Tryz.prog xt13:=ac xt12_ok cl13 clQ13
def clA15:List V:=[.agg [.lst 1 false [.int .i64 1,.int .i64 1,.int .i64 1],.lst 1 false [.lst 1 false [.int .i64 0,.int .i64 1]]]]
def clR15:V:=.tup [.lst 1 false [.int .i64 1],.int .i64 0]
theorem clP15:AM.Pure clR15:=by simp[clR15]
theorem clQ15:∀a∈clA15,AM.Pure a:=by simp[clA15]
theorem cl15:aJ Tryz.prog 140 clA15 fun x=>x=clR15:=aH tok mixed af xt13_ok (fuel:=1000) (d:=40) (by kernel_rfl) clP15
def xt15:am:=fun f args H=>if pO f 140 then(if eqL (eqV 40) args clA15 then some (clR15,H) else xt13 f args H) else xt13 f args H
theorem xt15_ok:aa Tryz.prog xt15:=ac xt13_ok cl15 clQ15
def clA16:List V:=[.agg [.lst 1 false [.int .i64 1,.int .i64 1,.int .i64 1],.lst 1 false [.lst 1 false [.int .i64 0,.int .i64 1]]],.lst 1 false [.int .i64 1]]
def clR16:V:=.tup [.int .i64 1,.int .i64 0]
theorem clP16:AM.Pure clR16:=by simp[clR16]
theorem clQ16:∀a∈clA16,AM.Pure a:=by simp[clA16]
theorem cl16:aJ Tryz.prog 141 clA16 fun x=>x=clR16:=aH tok mixed af xt15_ok (fuel:=1000) (d:=40) (by kernel_rfl) clP16
def xt16:am:=fun f args H=>if pO f 141 then(if eqL (eqV 40) args clA16 then some (clR16,H) else xt15 f args H) else xt15 f args H
theorem xt16_ok:aa Tryz.prog xt16:=ac xt15_ok cl16 clQ16
def clA17:List V:=[.agg [.lst 1 false [.int .i64 1,.int .i64 1,.int .i64 1],.lst 1 false [.lst 1 false [.int .i64 0,.int .i64 1]]],.int .i64 20000]
def clR17:V:=.tup [.lst 1 false [.int .i64 1],.int .i64 1,.int .i64 0]
theorem clP17:AM.Pure clR17:=by simp[clR17]
theorem clQ17:∀a∈clA17,AM.Pure a:=by simp[clA17]
theorem cl17:aJ Tryz.prog 78 clA17 fun x=>x=clR17:=aH tok mixed af xt16_ok (fuel:=1000) (d:=40) (by kernel_rfl) clP17
def xt17:am:=fun f args H=>if pO f 78 then(if eqL (eqV 40) args clA17 then some (clR17,H) else xt16 f args H) else xt16 f args H
theorem xt17_ok:aa Tryz.prog xt17:=ac xt16_ok cl17 clQ17
def clA18:List V:=[.agg [.lst 1 false [.int .i64 1,.int .i64 1,.int .i64 1],.lst 1 false [.lst 1 false [.int .i64 0,.int .i64 1]]],.int .i64 1,.int .i64 20000]
def clR18:V:=.tup [.lst 2 true [.agg [.int .i64 (-1),.lst 2 false [.agg [.int .i64 0,.int .i64 1]]]],.int .i64 0]
theorem clP18:AM.Pure clR18:=by simp[clR18]
theorem clQ18:∀a∈clA18,AM.Pure a:=by simp[clA18]
theorem cl18:aJ Tryz.prog 79 clA18 fun x=>x=clR18:=aH tok mixed af xt17_ok (fuel:=1000) (d:=40) (by kernel_rfl) clP18
def xt18:am:=fun f args H=>if pO f 79 then(if eqL (eqV 40) args clA18 then some (clR18,H) else xt17 f args H) else xt17 f args H
theorem xt18_ok:aa Tryz.prog xt18:=ac xt17_ok cl18 clQ18
def clA19:List V:=[.agg [.str ⟨#[114]⟩,.lst 1 true [.str ⟨#[97]⟩,.str ⟨#[98]⟩],.lst 2 true [.agg [.int .i64 1,.lst 3 true [.agg [.int .i64 1,.int .i64 5,.str ⟨#[]⟩],.agg [.int .i64 1,.int .i64 1,.str ⟨#[]⟩]]],.agg [.int .i64 2,.lst 3 true [.agg [.int .i64 1,.int .i64 5,.str ⟨#[]⟩],.agg [.int .i64 1,.int .i64 2,.str ⟨#[]⟩]]],.agg [.int .i64 3,.lst 3 true [.agg [.int .i64 1,.int .i64 6,.str ⟨#[]⟩],.agg [.int .i64 1,.int .i64 1,.str ⟨#[]⟩]]]]],.lst 18 true [.agg [.str ⟨#[99]⟩,.str ⟨#[114]⟩,.int .i64 1,.int .u32 1,.int .u32 2,.int .u32 0,.int .u32 0,.str ⟨#[]⟩,.nilS,.str ⟨#[]⟩,.nilS,.nilS,.int .i64 0,.nilS,.nilS,.nilS,.int .i64 0,.nilS]],.nilS,.int .i64 20000]
def clR19:V:=.tup [.agg [.lst 1 false [.int .i64 2],.int .i64 1,.lst 2 true [.agg [.int .i64 (-1),.lst 2 false [.agg [.int .i64 0,.int .i64 1]]]]],.int .i64 0]
theorem clP19:AM.Pure clR19:=by simp[clR19]
theorem clQ19:∀a∈clA19,AM.Pure a:=by simp[clA19]
theorem cl19:aJ Tryz.prog 36 clA19 fun x=>x=clR19:=aH tok mixed af xt18_ok (fuel:=1000) (d:=40) (by kernel_rfl) clP19
def xt19:am:=fun f args H=>if pO f 36 then(if eqL (eqV 40) args clA19 then some (clR19,H) else xt18 f args H) else xt18 f args H
theorem xt19_ok:aa Tryz.prog xt19:=ac xt18_ok cl19 clQ19
def clA21:List V:=[.agg [.str ⟨#[114]⟩,.lst 1 true [.str ⟨#[97]⟩,.str ⟨#[98]⟩],.lst 2 true [.agg [.int .i64 1,.lst 3 true [.agg [.int .i64 1,.int .i64 5,.str ⟨#[]⟩],.agg [.int .i64 1,.int .i64 1,.str ⟨#[]⟩]]],.agg [.int .i64 2,.lst 3 true [.agg [.int .i64 1,.int .i64 5,.str ⟨#[]⟩],.agg [.int .i64 1,.int .i64 2,.str ⟨#[]⟩]]],.agg [.int .i64 3,.lst 3 true [.agg [.int .i64 1,.int .i64 6,.str ⟨#[]⟩],.agg [.int .i64 1,.int .i64 1,.str ⟨#[]⟩]]]]],.lst 2 false [.agg [.int .u32 1,.int .u32 2]],.nilS]
def clR21:V:=.int .i64 0
theorem clP21:AM.Pure clR21:=by simp[clR21]
theorem clQ21:∀a∈clA21,AM.Pure a:=by simp[clA21]
theorem cl21:aJ Tryz.prog 80 clA21 fun x=>x=clR21:=aH tok mixed af xt19_ok (fuel:=1000) (d:=40) (by kernel_rfl) clP21
def xt21:am:=gx 80 clA21 clR21 xt19
theorem xt21_ok:aa Tryz.prog xt21:=bm xt19_ok cl21 clQ21 (by unfold clR21;constructor)
def clA24:List V:=[.agg [.nilS,.nilS]]
def clR24:V:=.tup [.nilS,.int .i64 0]
theorem clP24:AM.Pure clR24:=by simp[clR24]
theorem clQ24:∀a∈clA24,AM.Pure a:=by simp[clA24]
theorem cl24:aJ Tryz.prog 140 clA24 fun x=>x=clR24:=aH tok mixed af xt21_ok (fuel:=1000) (d:=40) (by kernel_rfl) clP24
def xt24:am:=fun f args H=>if pO f 140 then(if eqL (eqV 40) args clA24 then some (clR24,H) else xt21 f args H) else xt21 f args H
theorem xt24_ok:aa Tryz.prog xt24:=ac xt21_ok cl24 clQ24
def clA25:List V:=[.agg [.nilS,.nilS],.nilS]
def clR25:V:=.tup [.int .i64 0,.int .i64 0]
theorem clP25:AM.Pure clR25:=by simp[clR25]
theorem clQ25:∀a∈clA25,AM.Pure a:=by simp[clA25]
theorem cl25:aJ Tryz.prog 141 clA25 fun x=>x=clR25:=aH tok mixed af xt24_ok (fuel:=1000) (d:=40) (by kernel_rfl) clP25
def xt25:am:=fun f args H=>if pO f 141 then(if eqL (eqV 40) args clA25 then some (clR25,H) else xt24 f args H) else xt24 f args H
theorem xt25_ok:aa Tryz.prog xt25:=ac xt24_ok cl25 clQ25
def clA26:List V:=[.agg [.nilS,.nilS],.int .i64 20000]
def clR26:V:=.tup [.nilS,.int .i64 0,.int .i64 0]
theorem clP26:AM.Pure clR26:=by simp[clR26]
theorem clQ26:∀a∈clA26,AM.Pure a:=by simp[clA26]
theorem cl26:aJ Tryz.prog 78 clA26 fun x=>x=clR26:=aH tok mixed af xt25_ok (fuel:=1000) (d:=40) (by kernel_rfl) clP26
def xt26:am:=fun f args H=>if pO f 78 then(if eqL (eqV 40) args clA26 then some (clR26,H) else xt25 f args H) else xt25 f args H
theorem xt26_ok:aa Tryz.prog xt26:=ac xt25_ok cl26 clQ26
def clA32:List V:=[.agg [.str ⟨#[114]⟩,.lst 1 true [.str ⟨#[97]⟩,.str ⟨#[98]⟩],.lst 2 true [.agg [.int .i64 1,.lst 3 true [.agg [.int .i64 1,.int .i64 5,.str ⟨#[]⟩],.agg [.int .i64 1,.int .i64 1,.str ⟨#[]⟩]]],.agg [.int .i64 2,.lst 3 true [.agg [.int .i64 1,.int .i64 5,.str ⟨#[]⟩],.agg [.int .i64 1,.int .i64 2,.str ⟨#[]⟩]]],.agg [.int .i64 3,.lst 3 true [.agg [.int .i64 1,.int .i64 6,.str ⟨#[]⟩],.agg [.int .i64 1,.int .i64 1,.str ⟨#[]⟩]]]]],.lst 2 false [.agg [.int .u32 1,.int .u32 2]],.lst 2 false [.agg [.int .i64 1,.int .i64 1],.agg [.int .i64 2,.int .i64 0],.agg [.int .i64 2,.int .i64 1],.agg [.int .i64 3,.int .i64 0],.agg [.int .i64 3,.int .i64 1]]]
def clR32:V:=.bool false
theorem clP32:AM.Pure clR32:=by simp[clR32]
theorem clQ32:∀a∈clA32,AM.Pure a:=by simp[clA32]
theorem cl32:aJ Tryz.prog 156 clA32 fun x=>x=clR32:=aH tok mixed af xt26_ok (fuel:=1000) (d:=40) (by kernel_rfl) clP32
def xt32:am:=gx 156 clA32 clR32 xt26
theorem xt32_ok:aa Tryz.prog xt32:=bm xt26_ok cl32 clQ32 (by unfold clR32;constructor)
def clA36:List V:=[.agg [.str ⟨#[114]⟩,.lst 1 true [.str ⟨#[97]⟩,.str ⟨#[98]⟩],.lst 2 true [.agg [.int .i64 1,.lst 3 true [.agg [.int .i64 1,.int .i64 5,.str ⟨#[]⟩],.agg [.int .i64 1,.int .i64 1,.str ⟨#[]⟩]]],.agg [.int .i64 2,.lst 3 true [.agg [.int .i64 1,.int .i64 5,.str ⟨#[]⟩],.agg [.int .i64 1,.int .i64 2,.str ⟨#[]⟩]]],.agg [.int .i64 3,.lst 3 true [.agg [.int .i64 1,.int .i64 6,.str ⟨#[]⟩],.agg [.int .i64 1,.int .i64 1,.str ⟨#[]⟩]]]]],.lst 2 false [.agg [.int .u32 1,.int .u32 2]],.lst 2 false [.agg [.int .i64 1,.int .i64 0],.agg [.int .i64 2,.int .i64 0],.agg [.int .i64 2,.int .i64 1],.agg [.int .i64 3,.int .i64 0],.agg [.int .i64 3,.int .i64 1]]]
def clR36:V:=.bool false
theorem clP36:AM.Pure clR36:=by simp[clR36]
theorem clQ36:∀a∈clA36,AM.Pure a:=by simp[clA36]
theorem cl36:aJ Tryz.prog 156 clA36 fun x=>x=clR36:=aH tok mixed af xt32_ok (fuel:=1000) (d:=40) (by kernel_rfl) clP36
def xt36:am:=gx 156 clA36 clR36 xt32
theorem xt36_ok:aa Tryz.prog xt36:=bm xt32_ok cl36 clQ36 (by unfold clR36;constructor)
def clA40:List V:=[.agg [.str ⟨#[114]⟩,.lst 1 true [.str ⟨#[97]⟩,.str ⟨#[98]⟩],.lst 2 true [.agg [.int .i64 1,.lst 3 true [.agg [.int .i64 1,.int .i64 5,.str ⟨#[]⟩],.agg [.int .i64 1,.int .i64 1,.str ⟨#[]⟩]]],.agg [.int .i64 2,.lst 3 true [.agg [.int .i64 1,.int .i64 5,.str ⟨#[]⟩],.agg [.int .i64 1,.int .i64 2,.str ⟨#[]⟩]]],.agg [.int .i64 3,.lst 3 true [.agg [.int .i64 1,.int .i64 6,.str ⟨#[]⟩],.agg [.int .i64 1,.int .i64 1,.str ⟨#[]⟩]]]]],.lst 2 false [.agg [.int .u32 1,.int .u32 2]],.lst 2 false [.agg [.int .i64 1,.int .i64 0],.agg [.int .i64 1,.int .i64 1],.agg [.int .i64 2,.int .i64 1],.agg [.int .i64 3,.int .i64 0],.agg [.int .i64 3,.int .i64 1]]]
def clR40:V:=.bool false
theorem clP40:AM.Pure clR40:=by simp[clR40]
theorem clQ40:∀a∈clA40,AM.Pure a:=by simp[clA40]
theorem cl40:aJ Tryz.prog 156 clA40 fun x=>x=clR40:=aH tok mixed af xt36_ok (fuel:=1000) (d:=40) (by kernel_rfl) clP40
def xt40:am:=gx 156 clA40 clR40 xt36
theorem xt40_ok:aa Tryz.prog xt40:=bm xt36_ok cl40 clQ40 (by unfold clR40;constructor)
def clA44:List V:=[.agg [.str ⟨#[114]⟩,.lst 1 true [.str ⟨#[97]⟩,.str ⟨#[98]⟩],.lst 2 true [.agg [.int .i64 1,.lst 3 true [.agg [.int .i64 1,.int .i64 5,.str ⟨#[]⟩],.agg [.int .i64 1,.int .i64 1,.str ⟨#[]⟩]]],.agg [.int .i64 2,.lst 3 true [.agg [.int .i64 1,.int .i64 5,.str ⟨#[]⟩],.agg [.int .i64 1,.int .i64 2,.str ⟨#[]⟩]]],.agg [.int .i64 3,.lst 3 true [.agg [.int .i64 1,.int .i64 6,.str ⟨#[]⟩],.agg [.int .i64 1,.int .i64 1,.str ⟨#[]⟩]]]]],.lst 2 false [.agg [.int .u32 1,.int .u32 2]],.lst 2 false [.agg [.int .i64 1,.int .i64 0],.agg [.int .i64 1,.int .i64 1],.agg [.int .i64 2,.int .i64 0],.agg [.int .i64 3,.int .i64 0],.agg [.int .i64 3,.int .i64 1]]]
def clR44:V:=.bool false
theorem clP44:AM.Pure clR44:=by simp[clR44]
theorem clQ44:∀a∈clA44,AM.Pure a:=by simp[clA44]
theorem cl44:aJ Tryz.prog 156 clA44 fun x=>x=clR44:=aH tok mixed af xt40_ok (fuel:=1000) (d:=40) (by kernel_rfl) clP44
def xt44:am:=gx 156 clA44 clR44 xt40
theorem xt44_ok:aa Tryz.prog xt44:=bm xt40_ok cl44 clQ44 (by unfold clR44;constructor)
def clA48:List V:=[.agg [.str ⟨#[114]⟩,.lst 1 true [.str ⟨#[97]⟩,.str ⟨#[98]⟩],.lst 2 true [.agg [.int .i64 1,.lst 3 true [.agg [.int .i64 1,.int .i64 5,.str ⟨#[]⟩],.agg [.int .i64 1,.int .i64 1,.str ⟨#[]⟩]]],.agg [.int .i64 2,.lst 3 true [.agg [.int .i64 1,.int .i64 5,.str ⟨#[]⟩],.agg [.int .i64 1,.int .i64 2,.str ⟨#[]⟩]]],.agg [.int .i64 3,.lst 3 true [.agg [.int .i64 1,.int .i64 6,.str ⟨#[]⟩],.agg [.int .i64 1,.int .i64 1,.str ⟨#[]⟩]]]]],.lst 2 false [.agg [.int .u32 1,.int .u32 2]],.lst 2 false [.agg [.int .i64 1,.int .i64 0],.agg [.int .i64 1,.int .i64 1],.agg [.int .i64 2,.int .i64 0],.agg [.int .i64 2,.int .i64 1],.agg [.int .i64 3,.int .i64 1]]]
def clR48:V:=.bool true
theorem clP48:AM.Pure clR48:=by simp[clR48]
theorem clQ48:∀a∈clA48,AM.Pure a:=by simp[clA48]
theorem cl48:aJ Tryz.prog 156 clA48 fun x=>x=clR48:=aH tok mixed af xt44_ok (fuel:=1000) (d:=40) (by kernel_rfl) clP48
def xt48:am:=gx 156 clA48 clR48 xt44
theorem xt48_ok:aa Tryz.prog xt48:=bm xt44_ok cl48 clQ48 (by unfold clR48;constructor)
def clA52:List V:=[.agg [.str ⟨#[114]⟩,.lst 1 true [.str ⟨#[97]⟩,.str ⟨#[98]⟩],.lst 2 true [.agg [.int .i64 1,.lst 3 true [.agg [.int .i64 1,.int .i64 5,.str ⟨#[]⟩],.agg [.int .i64 1,.int .i64 1,.str ⟨#[]⟩]]],.agg [.int .i64 2,.lst 3 true [.agg [.int .i64 1,.int .i64 5,.str ⟨#[]⟩],.agg [.int .i64 1,.int .i64 2,.str ⟨#[]⟩]]],.agg [.int .i64 3,.lst 3 true [.agg [.int .i64 1,.int .i64 6,.str ⟨#[]⟩],.agg [.int .i64 1,.int .i64 1,.str ⟨#[]⟩]]]]],.lst 2 false [.agg [.int .u32 1,.int .u32 2]],.lst 2 false [.agg [.int .i64 1,.int .i64 0],.agg [.int .i64 1,.int .i64 1],.agg [.int .i64 2,.int .i64 0],.agg [.int .i64 2,.int .i64 1]]]
def clR52:V:=.bool true
theorem clP52:AM.Pure clR52:=by simp[clR52]
theorem clQ52:∀a∈clA52,AM.Pure a:=by simp[clA52]
theorem cl52:aJ Tryz.prog 156 clA52 fun x=>x=clR52:=aH tok mixed af xt48_ok (fuel:=1000) (d:=40) (by kernel_rfl) clP52
def xt52:am:=gx 156 clA52 clR52 xt48
theorem xt52_ok:aa Tryz.prog xt52:=bm xt48_ok cl52 clQ52 (by unfold clR52;constructor)
def clA53:List V:=[.agg [.str ⟨#[114]⟩,.lst 1 true [.str ⟨#[97]⟩,.str ⟨#[98]⟩],.lst 2 true [.agg [.int .i64 1,.lst 3 true [.agg [.int .i64 1,.int .i64 5,.str ⟨#[]⟩],.agg [.int .i64 1,.int .i64 1,.str ⟨#[]⟩]]],.agg [.int .i64 2,.lst 3 true [.agg [.int .i64 1,.int .i64 5,.str ⟨#[]⟩],.agg [.int .i64 1,.int .i64 2,.str ⟨#[]⟩]]],.agg [.int .i64 3,.lst 3 true [.agg [.int .i64 1,.int .i64 6,.str ⟨#[]⟩],.agg [.int .i64 1,.int .i64 1,.str ⟨#[]⟩]]]]],.lst 2 false [.agg [.int .u32 1,.int .u32 2]],.lst 2 false [.agg [.int .i64 2,.int .i64 1]]]
def clR53:V:=.int .i64 0
theorem clP53:AM.Pure clR53:=by simp[clR53]
theorem clQ53:∀a∈clA53,AM.Pure a:=by simp[clA53]
theorem cl53:aJ Tryz.prog 80 clA53 fun x=>x=clR53:=aH tok mixed af xt52_ok (fuel:=1000) (d:=40) (by kernel_rfl) clP53
def xt53:am:=gx 80 clA53 clR53 xt52
theorem xt53_ok:aa Tryz.prog xt53:=bm xt52_ok cl53 clQ53 (by unfold clR53;constructor)
def clA54:List V:=[.agg [.str ⟨#[114]⟩,.lst 1 true [.str ⟨#[97]⟩,.str ⟨#[98]⟩],.lst 2 true [.agg [.int .i64 1,.lst 3 true [.agg [.int .i64 1,.int .i64 5,.str ⟨#[]⟩],.agg [.int .i64 1,.int .i64 1,.str ⟨#[]⟩]]],.agg [.int .i64 2,.lst 3 true [.agg [.int .i64 1,.int .i64 5,.str ⟨#[]⟩],.agg [.int .i64 1,.int .i64 2,.str ⟨#[]⟩]]],.agg [.int .i64 3,.lst 3 true [.agg [.int .i64 1,.int .i64 6,.str ⟨#[]⟩],.agg [.int .i64 1,.int .i64 1,.str ⟨#[]⟩]]]]],.lst 2 false [.agg [.int .u32 1,.int .u32 2]],.lst 2 false [.agg [.int .i64 2,.int .i64 1]]]
def clR54:V:=.tup [.agg [.str ⟨#[114]⟩,.lst 1 false [.str ⟨#[97]⟩,.str ⟨#[98]⟩],.lst 2 false [.agg [.int .i64 1,.lst 3 false [.agg [.int .i64 1,.int .i64 5,.str ⟨#[]⟩],.agg [.int .i64 1,.int .i64 1,.str ⟨#[]⟩]]],.agg [.int .i64 2,.lst 3 false [.agg [.int .i64 1,.int .i64 5,.str ⟨#[]⟩],.agg [.int .i64 1,.int .i64 1,.str ⟨#[]⟩]]],.agg [.int .i64 3,.lst 3 false [.agg [.int .i64 1,.int .i64 6,.str ⟨#[]⟩],.agg [.int .i64 1,.int .i64 1,.str ⟨#[]⟩]]]]],.int .i64 0]
theorem clP54:AM.Pure clR54:=by simp[clR54]
theorem clQ54:∀a∈clA54,AM.Pure a:=by simp[clA54]
theorem cl54:aJ Tryz.prog 83 clA54 fun x=>x=clR54:=aH tok mixed af xt53_ok (fuel:=1000) (d:=40) (by kernel_rfl) clP54
def xt54:am:=nR 83 clA54 clR54 xt53
theorem xt54_ok:aa Tryz.prog xt54:=eJ xt53_ok cl54 clQ54
def clA55:List V:=[.agg [.str ⟨#[114]⟩,.lst 1 true [.str ⟨#[97]⟩,.str ⟨#[98]⟩],.lst 2 true [.agg [.int .i64 1,.lst 3 true [.agg [.int .i64 1,.int .i64 5,.str ⟨#[]⟩],.agg [.int .i64 1,.int .i64 1,.str ⟨#[]⟩]]],.agg [.int .i64 2,.lst 3 true [.agg [.int .i64 1,.int .i64 5,.str ⟨#[]⟩],.agg [.int .i64 1,.int .i64 2,.str ⟨#[]⟩]]],.agg [.int .i64 3,.lst 3 true [.agg [.int .i64 1,.int .i64 6,.str ⟨#[]⟩],.agg [.int .i64 1,.int .i64 1,.str ⟨#[]⟩]]]]],.lst 2 false [.agg [.int .u32 1,.int .u32 2]],.int .i64 20000]
def clR55:V:=.tup [.agg [.lst 2 false [.agg [.int .i64 2,.int .i64 1]],.str ⟨#[114]⟩,.lst 1 false [.str ⟨#[97]⟩,.str ⟨#[98]⟩],.lst 2 false [.agg [.int .i64 1,.lst 3 false [.agg [.int .i64 1,.int .i64 5,.str ⟨#[]⟩],.agg [.int .i64 1,.int .i64 1,.str ⟨#[]⟩]]],.agg [.int .i64 2,.lst 3 false [.agg [.int .i64 1,.int .i64 5,.str ⟨#[]⟩],.agg [.int .i64 1,.int .i64 1,.str ⟨#[]⟩]]],.agg [.int .i64 3,.lst 3 false [.agg [.int .i64 1,.int .i64 6,.str ⟨#[]⟩],.agg [.int .i64 1,.int .i64 1,.str ⟨#[]⟩]]]],.lst 1 false [.lst 2 false [.agg [.int .i64 1,.int .i64 0],.agg [.int .i64 1,.int .i64 1],.agg [.int .i64 2,.int .i64 0],.agg [.int .i64 2,.int .i64 1]]],.lst 2 true [.agg [.int .i64 (-1),.lst 2 false [.agg [.int .i64 0,.int .i64 1]]]]],.int .i64 0]
theorem clP55:AM.Pure clR55:=by simp[clR55]
theorem clQ55:∀a∈clA55,AM.Pure a:=by simp[clA55]
theorem cl55:aJ Tryz.prog 37 clA55 fun x=>x=clR55:=aH tok mixed af xt54_ok (fuel:=1000) (d:=40) (by kernel_rfl) clP55
def xt55:am:=nR 37 clA55 clR55 xt54
theorem xt55_ok:aa Tryz.prog xt55:=eJ xt54_ok cl55 clQ55
theorem cu:aJ Tryz.prog 5 [] fun x=>x = .bool true:=aH tok mixed af xt55_ok (fuel:=1000) (d:=40) (by kernel_rfl) (.bool _)
end
end Go.Proofs.YtdnhplencamncaaGreatDoor
