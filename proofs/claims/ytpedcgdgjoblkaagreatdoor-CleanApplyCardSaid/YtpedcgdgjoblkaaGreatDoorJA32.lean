/- JA32: own texts of this seat, joined and shortened by pack4.py: C4c, C4. -/
import Derived.Test.YtpedcgdgjoblkaaGreatDoorJA31
set_option linter.unusedVariables false
set_option linter.unusedSimpArgs false
set_option maxRecDepth 100000
set_option maxHeartbeats 64000000
open Nat renaming beq→ku
namespace Go.Proofs.YtpedcgdgjoblkaaGreatDoor
section
open Go Go.AM
def clA51:List V:=[.agg [.str ⟨#[114]⟩,.lst 1 true [.str ⟨#[97]⟩,.str ⟨#[98]⟩],.lst 2 true [.agg [.int .i64 1,.lst 3 true [.agg [.int .i64 1,.int .i64 5,.str ⟨#[]⟩],.agg [.int .i64 1,.int .i64 1,.str ⟨#[]⟩]]],.agg [.int .i64 2,.lst 3 true [.agg [.int .i64 1,.int .i64 5,.str ⟨#[]⟩],.agg [.int .i64 1,.int .i64 2,.str ⟨#[]⟩]]],.agg [.int .i64 3,.lst 3 true [.agg [.int .i64 1,.int .i64 6,.str ⟨#[]⟩],.agg [.int .i64 1,.int .i64 1,.str ⟨#[]⟩]]]]],.lst 2 false [.agg [.int .u32 1,.int .u32 2]],.lst 2 false [.agg [.int .i64 3,.int .i64 0],.agg [.int .i64 3,.int .i64 1]]]
def clR51:V:=.bool false
theorem clP51:AM.Pure clR51:=by simp[clR51]
theorem clQ51:∀a∈clA51,AM.Pure a:=by simp[clA51]
theorem cl51:aK Tryz.prog 99 clA51 fun x=>x=clR51:=aF tok mixed aY af (fuel:=1000) (d:=40) (by kernel_rfl) clP51
def clA30:List V:=[.agg [.str ⟨#[114]⟩,.lst 1 true [.str ⟨#[97]⟩,.str ⟨#[98]⟩],.lst 2 true [.agg [.int .i64 1,.lst 3 true [.agg [.int .i64 1,.int .i64 5,.str ⟨#[]⟩],.agg [.int .i64 1,.int .i64 1,.str ⟨#[]⟩]]],.agg [.int .i64 2,.lst 3 true [.agg [.int .i64 1,.int .i64 5,.str ⟨#[]⟩],.agg [.int .i64 1,.int .i64 2,.str ⟨#[]⟩]]],.agg [.int .i64 3,.lst 3 true [.agg [.int .i64 1,.int .i64 6,.str ⟨#[]⟩],.agg [.int .i64 1,.int .i64 1,.str ⟨#[]⟩]]]]],.lst 2 false [.agg [.int .i64 1,.int .i64 1],.agg [.int .i64 2,.int .i64 0],.agg [.int .i64 2,.int .i64 1],.agg [.int .i64 3,.int .i64 0],.agg [.int .i64 3,.int .i64 1]]]
def clR30:V:=.lst 2 false [.agg [.int .i64 1,.int .i64 0]]
theorem clP30:AM.Pure clR30:=by simp[clR30]
theorem clQ30:∀a∈clA30,AM.Pure a:=by simp[clA30]
theorem cl30:aK Tryz.prog 102 clA30 fun x=>x=clR30:=aF tok mixed aY af (fuel:=1000) (d:=40) (by kernel_rfl) clP30
def clA42:List V:=[.agg [.str ⟨#[114]⟩,.lst 1 true [.str ⟨#[97]⟩,.str ⟨#[98]⟩],.lst 2 true [.agg [.int .i64 1,.lst 3 true [.agg [.int .i64 1,.int .i64 5,.str ⟨#[]⟩],.agg [.int .i64 1,.int .i64 1,.str ⟨#[]⟩]]],.agg [.int .i64 2,.lst 3 true [.agg [.int .i64 1,.int .i64 5,.str ⟨#[]⟩],.agg [.int .i64 1,.int .i64 2,.str ⟨#[]⟩]]],.agg [.int .i64 3,.lst 3 true [.agg [.int .i64 1,.int .i64 6,.str ⟨#[]⟩],.agg [.int .i64 1,.int .i64 1,.str ⟨#[]⟩]]]]],.lst 2 false [.agg [.int .i64 1,.int .i64 0],.agg [.int .i64 1,.int .i64 1],.agg [.int .i64 2,.int .i64 0],.agg [.int .i64 3,.int .i64 0],.agg [.int .i64 3,.int .i64 1]]]
def clR42:V:=.lst 2 false [.agg [.int .i64 2,.int .i64 1]]
theorem clP42:AM.Pure clR42:=by simp[clR42]
theorem clQ42:∀a∈clA42,AM.Pure a:=by simp[clA42]
theorem cl42:aK Tryz.prog 102 clA42 fun x=>x=clR42:=aF tok mixed aY af (fuel:=1000) (d:=40) (by kernel_rfl) clP42
def clA50:List V:=[.agg [.str ⟨#[114]⟩,.lst 1 true [.str ⟨#[97]⟩,.str ⟨#[98]⟩],.lst 2 true [.agg [.int .i64 1,.lst 3 true [.agg [.int .i64 1,.int .i64 5,.str ⟨#[]⟩],.agg [.int .i64 1,.int .i64 1,.str ⟨#[]⟩]]],.agg [.int .i64 2,.lst 3 true [.agg [.int .i64 1,.int .i64 5,.str ⟨#[]⟩],.agg [.int .i64 1,.int .i64 2,.str ⟨#[]⟩]]],.agg [.int .i64 3,.lst 3 true [.agg [.int .i64 1,.int .i64 6,.str ⟨#[]⟩],.agg [.int .i64 1,.int .i64 1,.str ⟨#[]⟩]]]]],.lst 2 false [.agg [.int .i64 1,.int .i64 0],.agg [.int .i64 1,.int .i64 1],.agg [.int .i64 2,.int .i64 0],.agg [.int .i64 2,.int .i64 1]]]
def clR50:V:=.lst 2 false [.agg [.int .i64 3,.int .i64 0],.agg [.int .i64 3,.int .i64 1]]
theorem clP50:AM.Pure clR50:=by simp[clR50]
theorem clQ50:∀a∈clA50,AM.Pure a:=by simp[clA50]
theorem cl50:aK Tryz.prog 102 clA50 fun x=>x=clR50:=aF tok mixed aY af (fuel:=1000) (d:=40) (by kernel_rfl) clP50
def clA9:List V:=[.int .i64 2,.agg [.int .i64 2,.lst 11 false [.agg [.int .i64 1,.int .i64 0,.int .i64 0,.int .i64 0,.str ⟨#[]⟩,.int .i64 1,.int .i64 2,.int .i64 0,.int .i64 0,.int .i64 0,.str ⟨#[]⟩],.agg [.int .i64 1,.int .i64 1,.int .i64 0,.int .i64 0,.str ⟨#[]⟩,.int .i64 2,.int .i64 2,.int .i64 1,.int .i64 0,.int .i64 0,.str ⟨#[]⟩]]]]
def clR9:V:=.bool true
theorem clP9:AM.Pure clR9:=by simp[clR9]
theorem clQ9:∀a∈clA9,AM.Pure a:=by simp[clA9]
theorem cl9:aK Tryz.prog 233 clA9 fun x=>x=clR9:=aF tok mixed aY af (fuel:=1000) (d:=40) (by kernel_rfl) clP9
def clA29:List V:=[.lst 1 true [.lst 2 false [],.lst 2 false [.agg [.int .i64 1,.int .i64 1],.agg [.int .i64 2,.int .i64 0],.agg [.int .i64 2,.int .i64 1],.agg [.int .i64 3,.int .i64 0],.agg [.int .i64 3,.int .i64 1]]]]
def clR29:V:=.lst 2 false [.agg [.int .i64 1,.int .i64 1],.agg [.int .i64 2,.int .i64 0],.agg [.int .i64 2,.int .i64 1],.agg [.int .i64 3,.int .i64 0],.agg [.int .i64 3,.int .i64 1]]
theorem clP29:AM.Pure clR29:=by simp[clR29]
theorem clQ29:∀a∈clA29,AM.Pure a:=by simp[clA29]
theorem cl29:aK Tryz.prog 140 clA29 fun x=>x=clR29:=aF tok mixed aY af (fuel:=1000) (d:=40) (by kernel_rfl) clP29
def clA33:List V:=[.lst 1 true [.lst 2 false [.agg [.int .i64 1,.int .i64 0]],.lst 2 false [.agg [.int .i64 2,.int .i64 0],.agg [.int .i64 2,.int .i64 1],.agg [.int .i64 3,.int .i64 0],.agg [.int .i64 3,.int .i64 1]]]]
def clR33:V:=.lst 2 false [.agg [.int .i64 1,.int .i64 0],.agg [.int .i64 2,.int .i64 0],.agg [.int .i64 2,.int .i64 1],.agg [.int .i64 3,.int .i64 0],.agg [.int .i64 3,.int .i64 1]]
theorem clP33:AM.Pure clR33:=by simp[clR33]
theorem clQ33:∀a∈clA33,AM.Pure a:=by simp[clA33]
theorem cl33:aK Tryz.prog 140 clA33 fun x=>x=clR33:=aF tok mixed aY af (fuel:=1000) (d:=40) (by kernel_rfl) clP33
def clA41:List V:=[.lst 1 true [.lst 2 false [.agg [.int .i64 1,.int .i64 0],.agg [.int .i64 1,.int .i64 1],.agg [.int .i64 2,.int .i64 0]],.lst 2 false [.agg [.int .i64 3,.int .i64 0],.agg [.int .i64 3,.int .i64 1]]]]
def clR41:V:=.lst 2 false [.agg [.int .i64 1,.int .i64 0],.agg [.int .i64 1,.int .i64 1],.agg [.int .i64 2,.int .i64 0],.agg [.int .i64 3,.int .i64 0],.agg [.int .i64 3,.int .i64 1]]
theorem clP41:AM.Pure clR41:=by simp[clR41]
theorem clQ41:∀a∈clA41,AM.Pure a:=by simp[clA41]
theorem cl41:aK Tryz.prog 140 clA41 fun x=>x=clR41:=aF tok mixed aY af (fuel:=1000) (d:=40) (by kernel_rfl) clP41
def clA49:List V:=[.lst 1 true [.lst 2 false [.agg [.int .i64 1,.int .i64 0],.agg [.int .i64 1,.int .i64 1],.agg [.int .i64 2,.int .i64 0],.agg [.int .i64 2,.int .i64 1]],.lst 2 false []]]
def clR49:V:=.lst 2 false [.agg [.int .i64 1,.int .i64 0],.agg [.int .i64 1,.int .i64 1],.agg [.int .i64 2,.int .i64 0],.agg [.int .i64 2,.int .i64 1]]
theorem clP49:AM.Pure clR49:=by simp[clR49]
theorem clQ49:∀a∈clA49,AM.Pure a:=by simp[clA49]
theorem cl49:aK Tryz.prog 140 clA49 fun x=>x=clR49:=aF tok mixed aY af (fuel:=1000) (d:=40) (by kernel_rfl) clP49
def clA1:List V:=[.str ⟨#[97]⟩]
def clR1:V:=.bool true
theorem clP1:AM.Pure clR1:=by simp[clR1]
theorem clQ1:∀a∈clA1,AM.Pure a:=by simp[clA1]
theorem cl1:aK Tryz.prog 84 clA1 fun x=>x=clR1:=aF tok mixed aY af (fuel:=1000) (d:=40) (by kernel_rfl) clP1
def clA6:List V:=[.int .i64 2,.lst 2 true [.agg [.int .u32 1,.int .u32 2]]]
def clR6:V:=.int .i64 0
theorem clP6:AM.Pure clR6:=by simp[clR6]
theorem clQ6:∀a∈clA6,AM.Pure a:=by simp[clA6]
theorem cl6:aK Tryz.prog 138 clA6 fun x=>x=clR6:=aF tok mixed aY af (fuel:=1000) (d:=40) (by kernel_rfl) clP6
def clA23:List V:=[.agg [.nilS,.nilS]]
def clR23:V:=.int .i64 0
theorem clP23:AM.Pure clR23:=by simp[clR23]
theorem clQ23:∀a∈clA23,AM.Pure a:=by simp[clA23]
theorem cl23:aK Tryz.prog 131 clA23 fun x=>x=clR23:=aF tok mixed aY af (fuel:=1000) (d:=40) (by kernel_rfl) clP23
def xt0:ag:=fun f args H=>if ku f 84 then(if eqL (eqV 40) args clA0 then some (clR0,H) else extG f args H) else extG f args H
theorem xt0_ok:aU Tryz.prog xt0:=aW af cl0 clQ0
def xt1:ag:=fun f args H=>if ku f 84 then(if eqL (eqV 40) args clA1 then some (clR1,H) else xt0 f args H) else xt0 f args H
theorem xt1_ok:aU Tryz.prog xt1:=aW xt0_ok cl1 clQ1
def xt2:ag:=fun f args H=>if ku f 84 then(if eqL (eqV 40) args clA2 then some (clR2,H) else xt1 f args H) else xt1 f args H
theorem xt2_ok:aU Tryz.prog xt2:=aW xt1_ok cl2 clQ2
def xt6:ag:=fun f args H=>if ku f 138 then(if eqL (eqV 40) args clA6 then some (clR6,H) else xt2 f args H) else xt2 f args H
theorem xt6_ok:aU Tryz.prog xt6:=aW xt2_ok cl6 clQ6
def xt9:ag:=fun f args H=>if ku f 233 then(if eqL (eqV 40) args clA9 then some (clR9,H) else xt6 f args H) else xt6 f args H
theorem xt9_ok:aU Tryz.prog xt9:=aW xt6_ok cl9 clQ9
def xt14:ag:=fun f args H=>if ku f 131 then(if eqL (eqV 40) args clA14 then some (clR14,H) else xt9 f args H) else xt9 f args H
theorem xt14_ok:aU Tryz.prog xt14:=aW xt9_ok cl14 clQ14
def xt20:ag:=fun f args H=>if ku f 138 then(if eqL (eqV 40) args clA20 then some (clR20,H) else xt14 f args H) else xt14 f args H
theorem xt20_ok:aU Tryz.prog xt20:=aW xt14_ok cl20 clQ20
def xt22:ag:=fun f args H=>if ku f 140 then(if eqL (eqV 40) args clA22 then some (clR22,H) else xt20 f args H) else xt20 f args H
theorem xt22_ok:aU Tryz.prog xt22:=aW xt20_ok cl22 clQ22
def xt23:ag:=fun f args H=>if ku f 131 then(if eqL (eqV 40) args clA23 then some (clR23,H) else xt22 f args H) else xt22 f args H
theorem xt23_ok:aU Tryz.prog xt23:=aW xt22_ok cl23 clQ23
def xt27:ag:=er 99 clA27 clR27 xt23
theorem xt27_ok:aU Tryz.prog xt27:=bY xt23_ok cl27 clQ27 (by unfold clR27;constructor)
def xt28:ag:=jn 102 clA28 clR28 xt27
theorem xt28_ok:aU Tryz.prog xt28:=cY xt27_ok cl28 clQ28
def xt29:ag:=fun f args H=>if ku f 140 then(if eqL (eqV 40) args clA29 then some (clR29,H) else xt28 f args H) else xt28 f args H
theorem xt29_ok:aU Tryz.prog xt29:=aW xt28_ok cl29 clQ29
def xt30:ag:=jn 102 clA30 clR30 xt29
theorem xt30_ok:aU Tryz.prog xt30:=cY xt29_ok cl30 clQ30
def xt31:ag:=er 99 clA31 clR31 xt30
theorem xt31_ok:aU Tryz.prog xt31:=bY xt30_ok cl31 clQ31 (by unfold clR31;constructor)
def xt33:ag:=fun f args H=>if ku f 140 then(if eqL (eqV 40) args clA33 then some (clR33,H) else xt31 f args H) else xt31 f args H
theorem xt33_ok:aU Tryz.prog xt33:=aW xt31_ok cl33 clQ33
def xt34:ag:=jn 102 clA34 clR34 xt33
theorem xt34_ok:aU Tryz.prog xt34:=cY xt33_ok cl34 clQ34
def xt35:ag:=er 99 clA35 clR35 xt34
theorem xt35_ok:aU Tryz.prog xt35:=bY xt34_ok cl35 clQ35 (by unfold clR35;constructor)
def xt37:ag:=fun f args H=>if ku f 140 then(if eqL (eqV 40) args clA37 then some (clR37,H) else xt35 f args H) else xt35 f args H
theorem xt37_ok:aU Tryz.prog xt37:=aW xt35_ok cl37 clQ37
def xt38:ag:=jn 102 clA38 clR38 xt37
theorem xt38_ok:aU Tryz.prog xt38:=cY xt37_ok cl38 clQ38
def xt39:ag:=er 99 clA39 clR39 xt38
theorem xt39_ok:aU Tryz.prog xt39:=bY xt38_ok cl39 clQ39 (by unfold clR39;constructor)
def xt41:ag:=fun f args H=>if ku f 140 then(if eqL (eqV 40) args clA41 then some (clR41,H) else xt39 f args H) else xt39 f args H
theorem xt41_ok:aU Tryz.prog xt41:=aW xt39_ok cl41 clQ41
def xt42:ag:=jn 102 clA42 clR42 xt41
theorem xt42_ok:aU Tryz.prog xt42:=cY xt41_ok cl42 clQ42
def xt43:ag:=er 99 clA43 clR43 xt42
theorem xt43_ok:aU Tryz.prog xt43:=bY xt42_ok cl43 clQ43 (by unfold clR43;constructor)
def xt45:ag:=fun f args H=>if ku f 140 then(if eqL (eqV 40) args clA45 then some (clR45,H) else xt43 f args H) else xt43 f args H
theorem xt45_ok:aU Tryz.prog xt45:=aW xt43_ok cl45 clQ45
def xt46:ag:=jn 102 clA46 clR46 xt45
theorem xt46_ok:aU Tryz.prog xt46:=cY xt45_ok cl46 clQ46
def xt47:ag:=er 99 clA47 clR47 xt46
theorem xt47_ok:aU Tryz.prog xt47:=bY xt46_ok cl47 clQ47 (by unfold clR47;constructor)
def xt49:ag:=fun f args H=>if ku f 140 then(if eqL (eqV 40) args clA49 then some (clR49,H) else xt47 f args H) else xt47 f args H
theorem xt49_ok:aU Tryz.prog xt49:=aW xt47_ok cl49 clQ49
def xt50:ag:=jn 102 clA50 clR50 xt49
theorem xt50_ok:aU Tryz.prog xt50:=cY xt49_ok cl50 clQ50
def xt51:ag:=er 99 clA51 clR51 xt50
theorem xt51_ok:aU Tryz.prog xt51:=bY xt50_ok cl51 clQ51 (by unfold clR51;constructor)
def clA3:List V:=[.agg [.str ⟨#[114]⟩,.lst 1 true [.str ⟨#[97]⟩,.str ⟨#[98]⟩],.lst 2 true [.agg [.int .i64 1,.lst 3 true [.agg [.int .i64 1,.int .i64 5,.str ⟨#[]⟩],.agg [.int .i64 1,.int .i64 1,.str ⟨#[]⟩]]],.agg [.int .i64 2,.lst 3 true [.agg [.int .i64 1,.int .i64 5,.str ⟨#[]⟩],.agg [.int .i64 1,.int .i64 2,.str ⟨#[]⟩]]],.agg [.int .i64 3,.lst 3 true [.agg [.int .i64 1,.int .i64 6,.str ⟨#[]⟩],.agg [.int .i64 1,.int .i64 1,.str ⟨#[]⟩]]]]]]
def clR3:V:=.int .i64 0
theorem clP3:AM.Pure clR3:=by simp[clR3]
theorem clQ3:∀a∈clA3,AM.Pure a:=by simp[clA3]
theorem cl3:aK Tryz.prog 43 clA3 fun x=>x=clR3:=aF tok mixed aY xt51_ok (fuel:=1000) (d:=40) (by kernel_rfl) clP3
def xt3:ag:=fun f args H=>if ku f 43 then(if eqL (eqV 40) args clA3 then some (clR3,H) else xt51 f args H) else xt51 f args H
theorem xt3_ok:aU Tryz.prog xt3:=aW xt51_ok cl3 clQ3
def clA4:List V:=[.agg [.str ⟨#[114]⟩,.lst 1 true [.str ⟨#[97]⟩,.str ⟨#[98]⟩],.lst 2 true [.agg [.int .i64 2,.lst 3 true [.agg [.int .i64 1,.int .i64 5,.str ⟨#[]⟩],.agg [.int .i64 1,.int .i64 1,.str ⟨#[]⟩]]],.agg [.int .i64 3,.lst 3 true [.agg [.int .i64 1,.int .i64 6,.str ⟨#[]⟩],.agg [.int .i64 1,.int .i64 1,.str ⟨#[]⟩]]],.agg [.int .i64 4,.lst 3 true [.agg [.int .i64 1,.int .i64 7,.str ⟨#[]⟩],.agg [.int .i64 1,.int .i64 7,.str ⟨#[]⟩]]]]]]
def clR4:V:=.int .i64 0
theorem clP4:AM.Pure clR4:=by simp[clR4]
theorem clQ4:∀a∈clA4,AM.Pure a:=by simp[clA4]
theorem cl4:aK Tryz.prog 43 clA4 fun x=>x=clR4:=aF tok mixed aY xt3_ok (fuel:=1000) (d:=40) (by kernel_rfl) clP4
def xt4:ag:=fun f args H=>if ku f 43 then(if eqL (eqV 40) args clA4 then some (clR4,H) else xt3 f args H) else xt3 f args H
theorem xt4_ok:aU Tryz.prog xt4:=aW xt3_ok cl4 clQ4
def clA5:List V:=[.agg [.str ⟨#[114]⟩,.lst 1 true [.str ⟨#[97]⟩,.str ⟨#[98]⟩],.lst 2 true [.agg [.int .i64 1,.lst 3 true [.agg [.int .i64 1,.int .i64 5,.str ⟨#[]⟩],.agg [.int .i64 1,.int .i64 1,.str ⟨#[]⟩]]],.agg [.int .i64 2,.lst 3 true [.agg [.int .i64 1,.int .i64 5,.str ⟨#[]⟩],.agg [.int .i64 1,.int .i64 2,.str ⟨#[]⟩]]],.agg [.int .i64 3,.lst 3 true [.agg [.int .i64 1,.int .i64 6,.str ⟨#[]⟩],.agg [.int .i64 1,.int .i64 1,.str ⟨#[]⟩]]]]],.agg [.str ⟨#[114]⟩,.lst 1 true [.str ⟨#[97]⟩,.str ⟨#[98]⟩],.lst 2 true [.agg [.int .i64 2,.lst 3 true [.agg [.int .i64 1,.int .i64 5,.str ⟨#[]⟩],.agg [.int .i64 1,.int .i64 1,.str ⟨#[]⟩]]],.agg [.int .i64 3,.lst 3 true [.agg [.int .i64 1,.int .i64 6,.str ⟨#[]⟩],.agg [.int .i64 1,.int .i64 1,.str ⟨#[]⟩]]],.agg [.int .i64 4,.lst 3 true [.agg [.int .i64 1,.int .i64 7,.str ⟨#[]⟩],.agg [.int .i64 1,.int .i64 7,.str ⟨#[]⟩]]]]]]
def clR5:V:=.tup [.lst 11 false [.agg [.int .i64 3,.str ⟨#[114]⟩,.str ⟨#[]⟩,.nilS,.nilS,.int .i64 1,.lst 3 false [.agg [.int .i64 1,.int .i64 5,.str ⟨#[]⟩],.agg [.int .i64 1,.int .i64 1,.str ⟨#[]⟩]],.int .i64 0,.int .i64 0,.int .i64 0,.str ⟨#[]⟩],.agg [.int .i64 4,.str ⟨#[114]⟩,.str ⟨#[]⟩,.nilS,.nilS,.int .i64 2,.lst 3 false [.agg [.int .i64 1,.int .i64 5,.str ⟨#[]⟩],.agg [.int .i64 1,.int .i64 2,.str ⟨#[]⟩]],.int .i64 1,.int .i64 1,.int .i64 1,.str ⟨#[]⟩],.agg [.int .i64 2,.str ⟨#[114]⟩,.str ⟨#[]⟩,.nilS,.nilS,.int .i64 4,.lst 3 false [.agg [.int .i64 1,.int .i64 7,.str ⟨#[]⟩],.agg [.int .i64 1,.int .i64 7,.str ⟨#[]⟩]],.int .i64 0,.int .i64 0,.int .i64 0,.str ⟨#[]⟩]],.int .i64 0]
theorem clP5:AM.Pure clR5:=by simp[clR5]
theorem clQ5:∀a∈clA5,AM.Pure a:=by simp[clA5]
theorem cl5:aK Tryz.prog 15 clA5 fun x=>x=clR5:=aF tok mixed aY xt4_ok (fuel:=1000) (d:=40) (by kernel_rfl) clP5
def xt5:ag:=fun f args H=>if ku f 15 then(if eqL (eqV 40) args clA5 then some (clR5,H) else xt4 f args H) else xt4 f args H
theorem xt5_ok:aU Tryz.prog xt5:=aW xt4_ok cl5 clQ5
def clA7:List V:=[.int .i64 2,.agg [.int .u32 1,.int .u32 2]]
def clR7:V:=.tup [.lst 2 false [.agg [.int .i64 2,.lst 11 false [.agg [.int .i64 1,.int .i64 0,.int .i64 0,.int .i64 0,.str ⟨#[]⟩,.int .i64 1,.int .i64 2,.int .i64 0,.int .i64 0,.int .i64 0,.str ⟨#[]⟩],.agg [.int .i64 1,.int .i64 1,.int .i64 0,.int .i64 0,.str ⟨#[]⟩,.int .i64 2,.int .i64 2,.int .i64 1,.int .i64 0,.int .i64 0,.str ⟨#[]⟩]]]],.int .i64 0]
theorem clP7:AM.Pure clR7:=by simp[clR7]
theorem clQ7:∀a∈clA7,AM.Pure a:=by simp[clA7]
theorem cl7:aK Tryz.prog 232 clA7 fun x=>x=clR7:=aF tok mixed aY xt5_ok (fuel:=1000) (d:=40) (by kernel_rfl) clP7
def xt7:ag:=fun f args H=>if ku f 232 then(if eqL (eqV 40) args clA7 then some (clR7,H) else xt5 f args H) else xt5 f args H
theorem xt7_ok:aU Tryz.prog xt7:=aW xt5_ok cl7 clQ7
def clA8:List V:=[.agg [.str ⟨#[114]⟩,.lst 1 true [.str ⟨#[97]⟩,.str ⟨#[98]⟩],.lst 2 true [.agg [.int .i64 1,.lst 3 true [.agg [.int .i64 1,.int .i64 5,.str ⟨#[]⟩],.agg [.int .i64 1,.int .i64 1,.str ⟨#[]⟩]]],.agg [.int .i64 2,.lst 3 true [.agg [.int .i64 1,.int .i64 5,.str ⟨#[]⟩],.agg [.int .i64 1,.int .i64 2,.str ⟨#[]⟩]]],.agg [.int .i64 3,.lst 3 true [.agg [.int .i64 1,.int .i64 6,.str ⟨#[]⟩],.agg [.int .i64 1,.int .i64 1,.str ⟨#[]⟩]]]]],.agg [.str ⟨#[99]⟩,.str ⟨#[114]⟩,.int .i64 1,.int .u32 1,.int .u32 2,.int .u32 0,.int .u32 0,.str ⟨#[]⟩,.nilS,.str ⟨#[]⟩,.nilS,.nilS,.int .i64 0,.nilS,.nilS,.nilS,.int .i64 0,.nilS]]
def clR8:V:=.tup [.lst 2 false [.agg [.int .i64 2,.lst 11 false [.agg [.int .i64 1,.int .i64 0,.int .i64 0,.int .i64 0,.str ⟨#[]⟩,.int .i64 1,.int .i64 2,.int .i64 0,.int .i64 0,.int .i64 0,.str ⟨#[]⟩],.agg [.int .i64 1,.int .i64 1,.int .i64 0,.int .i64 0,.str ⟨#[]⟩,.int .i64 2,.int .i64 2,.int .i64 1,.int .i64 0,.int .i64 0,.str ⟨#[]⟩]]]],.int .i64 0]
theorem clP8:AM.Pure clR8:=by simp[clR8]
theorem clQ8:∀a∈clA8,AM.Pure a:=by simp[clA8]
theorem cl8:aK Tryz.prog 179 clA8 fun x=>x=clR8:=aF tok mixed aY xt7_ok (fuel:=1000) (d:=40) (by kernel_rfl) clP8
def xt8:ag:=fun f args H=>if ku f 179 then(if eqL (eqV 40) args clA8 then some (clR8,H) else xt7 f args H) else xt7 f args H
theorem xt8_ok:aU Tryz.prog xt8:=aW xt7_ok cl8 clQ8
def clA10:List V:=[.agg [.str ⟨#[114]⟩,.lst 1 true [.str ⟨#[97]⟩,.str ⟨#[98]⟩],.lst 2 true [.agg [.int .i64 1,.lst 3 true [.agg [.int .i64 1,.int .i64 5,.str ⟨#[]⟩],.agg [.int .i64 1,.int .i64 1,.str ⟨#[]⟩]]],.agg [.int .i64 2,.lst 3 true [.agg [.int .i64 1,.int .i64 5,.str ⟨#[]⟩],.agg [.int .i64 1,.int .i64 2,.str ⟨#[]⟩]]],.agg [.int .i64 3,.lst 3 true [.agg [.int .i64 1,.int .i64 6,.str ⟨#[]⟩],.agg [.int .i64 1,.int .i64 1,.str ⟨#[]⟩]]]]],.agg [.int .i64 2,.lst 11 false [.agg [.int .i64 1,.int .i64 0,.int .i64 0,.int .i64 0,.str ⟨#[]⟩,.int .i64 1,.int .i64 2,.int .i64 0,.int .i64 0,.int .i64 0,.str ⟨#[]⟩],.agg [.int .i64 1,.int .i64 1,.int .i64 0,.int .i64 0,.str ⟨#[]⟩,.int .i64 2,.int .i64 2,.int .i64 1,.int .i64 0,.int .i64 0,.str ⟨#[]⟩]]]]
def clR10:V:=.tup [.lst 1 false [.lst 1 false [.int .i64 1,.int .i64 2]],.int .i64 0]
theorem clP10:AM.Pure clR10:=by simp[clR10]
theorem clQ10:∀a∈clA10,AM.Pure a:=by simp[clA10]
theorem cl10:aK Tryz.prog 238 clA10 fun x=>x=clR10:=aF tok mixed aY xt8_ok (fuel:=1000) (d:=40) (by kernel_rfl) clP10
def xt10:ag:=fun f args H=>if ku f 238 then(if eqL (eqV 40) args clA10 then some (clR10,H) else xt8 f args H) else xt8 f args H
theorem xt10_ok:aU Tryz.prog xt10:=aW xt8_ok cl10 clQ10
def clA11:List V:=[.agg [.str ⟨#[114]⟩,.lst 1 true [.str ⟨#[97]⟩,.str ⟨#[98]⟩],.lst 2 true [.agg [.int .i64 1,.lst 3 true [.agg [.int .i64 1,.int .i64 5,.str ⟨#[]⟩],.agg [.int .i64 1,.int .i64 1,.str ⟨#[]⟩]]],.agg [.int .i64 2,.lst 3 true [.agg [.int .i64 1,.int .i64 5,.str ⟨#[]⟩],.agg [.int .i64 1,.int .i64 2,.str ⟨#[]⟩]]],.agg [.int .i64 3,.lst 3 true [.agg [.int .i64 1,.int .i64 6,.str ⟨#[]⟩],.agg [.int .i64 1,.int .i64 1,.str ⟨#[]⟩]]]]],.agg [.str ⟨#[99]⟩,.str ⟨#[114]⟩,.int .i64 1,.int .u32 1,.int .u32 2,.int .u32 0,.int .u32 0,.str ⟨#[]⟩,.nilS,.str ⟨#[]⟩,.nilS,.nilS,.int .i64 0,.nilS,.nilS,.nilS,.int .i64 0,.nilS]]
def clR11:V:=.tup [.lst 1 false [.lst 1 false [.int .i64 1,.int .i64 2]],.int .i64 0]
theorem clP11:AM.Pure clR11:=by simp[clR11]
theorem clQ11:∀a∈clA11,AM.Pure a:=by simp[clA11]
theorem cl11:aK Tryz.prog 180 clA11 fun x=>x=clR11:=aF tok mixed aY xt10_ok (fuel:=1000) (d:=40) (by kernel_rfl) clP11
def xt11:ag:=fun f args H=>if ku f 180 then(if eqL (eqV 40) args clA11 then some (clR11,H) else xt10 f args H) else xt10 f args H
theorem xt11_ok:aU Tryz.prog xt11:=aW xt10_ok cl11 clQ11
def clA12:List V:=[.agg [.str ⟨#[114]⟩,.lst 1 true [.str ⟨#[97]⟩,.str ⟨#[98]⟩],.lst 2 true [.agg [.int .i64 1,.lst 3 true [.agg [.int .i64 1,.int .i64 5,.str ⟨#[]⟩],.agg [.int .i64 1,.int .i64 1,.str ⟨#[]⟩]]],.agg [.int .i64 2,.lst 3 true [.agg [.int .i64 1,.int .i64 5,.str ⟨#[]⟩],.agg [.int .i64 1,.int .i64 2,.str ⟨#[]⟩]]],.agg [.int .i64 3,.lst 3 true [.agg [.int .i64 1,.int .i64 6,.str ⟨#[]⟩],.agg [.int .i64 1,.int .i64 1,.str ⟨#[]⟩]]]]],.lst 18 true [.agg [.str ⟨#[99]⟩,.str ⟨#[114]⟩,.int .i64 1,.int .u32 1,.int .u32 2,.int .u32 0,.int .u32 0,.str ⟨#[]⟩,.nilS,.str ⟨#[]⟩,.nilS,.nilS,.int .i64 0,.nilS,.nilS,.nilS,.int .i64 0,.nilS]]]
def clR12:V:=.tup [.agg [.lst 1 false [.int .i64 1,.int .i64 2,.int .i64 3],.lst 1 false [.lst 1 false [.int .i64 1,.int .i64 2]]],.int .i64 0]
theorem clP12:AM.Pure clR12:=by simp[clR12]
theorem clQ12:∀a∈clA12,AM.Pure a:=by simp[clA12]
theorem cl12:aK Tryz.prog 128 clA12 fun x=>x=clR12:=aF tok mixed aY xt11_ok (fuel:=1000) (d:=40) (by kernel_rfl) clP12
def xt12:ag:=fun f args H=>if ku f 128 then(if eqL (eqV 40) args clA12 then some (clR12,H) else xt11 f args H) else xt11 f args H
theorem xt12_ok:aU Tryz.prog xt12:=aW xt11_ok cl12 clQ12
def clA13:List V:=[.agg [.str ⟨#[114]⟩,.lst 1 true [.str ⟨#[97]⟩,.str ⟨#[98]⟩],.lst 2 true [.agg [.int .i64 1,.lst 3 true [.agg [.int .i64 1,.int .i64 5,.str ⟨#[]⟩],.agg [.int .i64 1,.int .i64 1,.str ⟨#[]⟩]]],.agg [.int .i64 2,.lst 3 true [.agg [.int .i64 1,.int .i64 5,.str ⟨#[]⟩],.agg [.int .i64 1,.int .i64 2,.str ⟨#[]⟩]]],.agg [.int .i64 3,.lst 3 true [.agg [.int .i64 1,.int .i64 6,.str ⟨#[]⟩],.agg [.int .i64 1,.int .i64 1,.str ⟨#[]⟩]]]]],.lst 18 true [.agg [.str ⟨#[99]⟩,.str ⟨#[114]⟩,.int .i64 1,.int .u32 1,.int .u32 2,.int .u32 0,.int .u32 0,.str ⟨#[]⟩,.nilS,.str ⟨#[]⟩,.nilS,.nilS,.int .i64 0,.nilS,.nilS,.nilS,.int .i64 0,.nilS]],.nilS]
def clR13:V:=.tup [.agg [.lst 1 false [.int .i64 1,.int .i64 1,.int .i64 1],.lst 1 false [.lst 1 false [.int .i64 0,.int .i64 1]]],.int .i64 0]
theorem clP13:AM.Pure clR13:=by simp[clR13]
theorem clQ13:∀a∈clA13,AM.Pure a:=by simp[clA13]
theorem cl13:aK Tryz.prog 92 clA13 fun x=>x=clR13:=aF tok mixed aY xt12_ok (fuel:=1000) (d:=40) (by kernel_rfl) clP13
def xt13:ag:=fun f args H=>if ku f 92 then(if eqL (eqV 40) args clA13 then some (clR13,H) else xt12 f args H) else xt12 f args H
theorem xt13_ok:aU Tryz.prog xt13:=aW xt12_ok cl13 clQ13
def clA15:List V:=[.agg [.lst 1 false [.int .i64 1,.int .i64 1,.int .i64 1],.lst 1 false [.lst 1 false [.int .i64 0,.int .i64 1]]]]
def clR15:V:=.tup [.lst 1 false [.int .i64 1],.int .i64 0]
theorem clP15:AM.Pure clR15:=by simp[clR15]
theorem clQ15:∀a∈clA15,AM.Pure a:=by simp[clA15]
theorem cl15:aK Tryz.prog 132 clA15 fun x=>x=clR15:=aF tok mixed aY xt13_ok (fuel:=1000) (d:=40) (by kernel_rfl) clP15
def xt15:ag:=fun f args H=>if ku f 132 then(if eqL (eqV 40) args clA15 then some (clR15,H) else xt13 f args H) else xt13 f args H
theorem xt15_ok:aU Tryz.prog xt15:=aW xt13_ok cl15 clQ15
def clA16:List V:=[.agg [.lst 1 false [.int .i64 1,.int .i64 1,.int .i64 1],.lst 1 false [.lst 1 false [.int .i64 0,.int .i64 1]]],.lst 1 false [.int .i64 1]]
def clR16:V:=.tup [.int .i64 1,.int .i64 0]
theorem clP16:AM.Pure clR16:=by simp[clR16]
theorem clQ16:∀a∈clA16,AM.Pure a:=by simp[clA16]
theorem cl16:aK Tryz.prog 133 clA16 fun x=>x=clR16:=aF tok mixed aY xt15_ok (fuel:=1000) (d:=40) (by kernel_rfl) clP16
def xt16:ag:=fun f args H=>if ku f 133 then(if eqL (eqV 40) args clA16 then some (clR16,H) else xt15 f args H) else xt15 f args H
theorem xt16_ok:aU Tryz.prog xt16:=aW xt15_ok cl16 clQ16
def clA17:List V:=[.agg [.lst 1 false [.int .i64 1,.int .i64 1,.int .i64 1],.lst 1 false [.lst 1 false [.int .i64 0,.int .i64 1]]],.int .i64 20000]
def clR17:V:=.tup [.lst 1 false [.int .i64 1],.int .i64 1,.int .i64 0]
theorem clP17:AM.Pure clR17:=by simp[clR17]
theorem clQ17:∀a∈clA17,AM.Pure a:=by simp[clA17]
theorem cl17:aK Tryz.prog 93 clA17 fun x=>x=clR17:=aF tok mixed aY xt16_ok (fuel:=1000) (d:=40) (by kernel_rfl) clP17
def xt17:ag:=fun f args H=>if ku f 93 then(if eqL (eqV 40) args clA17 then some (clR17,H) else xt16 f args H) else xt16 f args H
theorem xt17_ok:aU Tryz.prog xt17:=aW xt16_ok cl17 clQ17
def clA18:List V:=[.agg [.lst 1 false [.int .i64 1,.int .i64 1,.int .i64 1],.lst 1 false [.lst 1 false [.int .i64 0,.int .i64 1]]],.int .i64 1,.int .i64 20000]
def clR18:V:=.tup [.lst 2 true [.agg [.int .i64 (-1),.lst 2 false [.agg [.int .i64 0,.int .i64 1]]]],.int .i64 0]
theorem clP18:AM.Pure clR18:=by simp[clR18]
theorem clQ18:∀a∈clA18,AM.Pure a:=by simp[clA18]
theorem cl18:aK Tryz.prog 94 clA18 fun x=>x=clR18:=aF tok mixed aY xt17_ok (fuel:=1000) (d:=40) (by kernel_rfl) clP18
def xt18:ag:=fun f args H=>if ku f 94 then(if eqL (eqV 40) args clA18 then some (clR18,H) else xt17 f args H) else xt17 f args H
theorem xt18_ok:aU Tryz.prog xt18:=aW xt17_ok cl18 clQ18
def clA19:List V:=[.agg [.str ⟨#[114]⟩,.lst 1 true [.str ⟨#[97]⟩,.str ⟨#[98]⟩],.lst 2 true [.agg [.int .i64 1,.lst 3 true [.agg [.int .i64 1,.int .i64 5,.str ⟨#[]⟩],.agg [.int .i64 1,.int .i64 1,.str ⟨#[]⟩]]],.agg [.int .i64 2,.lst 3 true [.agg [.int .i64 1,.int .i64 5,.str ⟨#[]⟩],.agg [.int .i64 1,.int .i64 2,.str ⟨#[]⟩]]],.agg [.int .i64 3,.lst 3 true [.agg [.int .i64 1,.int .i64 6,.str ⟨#[]⟩],.agg [.int .i64 1,.int .i64 1,.str ⟨#[]⟩]]]]],.lst 18 true [.agg [.str ⟨#[99]⟩,.str ⟨#[114]⟩,.int .i64 1,.int .u32 1,.int .u32 2,.int .u32 0,.int .u32 0,.str ⟨#[]⟩,.nilS,.str ⟨#[]⟩,.nilS,.nilS,.int .i64 0,.nilS,.nilS,.nilS,.int .i64 0,.nilS]],.nilS,.int .i64 20000]
def clR19:V:=.tup [.agg [.lst 1 false [.int .i64 2],.int .i64 1,.lst 2 true [.agg [.int .i64 (-1),.lst 2 false [.agg [.int .i64 0,.int .i64 1]]]]],.int .i64 0]
theorem clP19:AM.Pure clR19:=by simp[clR19]
theorem clQ19:∀a∈clA19,AM.Pure a:=by simp[clA19]
theorem cl19:aK Tryz.prog 51 clA19 fun x=>x=clR19:=aF tok mixed aY xt18_ok (fuel:=1000) (d:=40) (by kernel_rfl) clP19
def xt19:ag:=fun f args H=>if ku f 51 then(if eqL (eqV 40) args clA19 then some (clR19,H) else xt18 f args H) else xt18 f args H
theorem xt19_ok:aU Tryz.prog xt19:=aW xt18_ok cl19 clQ19
def clA21:List V:=[.agg [.str ⟨#[114]⟩,.lst 1 true [.str ⟨#[97]⟩,.str ⟨#[98]⟩],.lst 2 true [.agg [.int .i64 1,.lst 3 true [.agg [.int .i64 1,.int .i64 5,.str ⟨#[]⟩],.agg [.int .i64 1,.int .i64 1,.str ⟨#[]⟩]]],.agg [.int .i64 2,.lst 3 true [.agg [.int .i64 1,.int .i64 5,.str ⟨#[]⟩],.agg [.int .i64 1,.int .i64 2,.str ⟨#[]⟩]]],.agg [.int .i64 3,.lst 3 true [.agg [.int .i64 1,.int .i64 6,.str ⟨#[]⟩],.agg [.int .i64 1,.int .i64 1,.str ⟨#[]⟩]]]]],.lst 2 false [.agg [.int .u32 1,.int .u32 2]],.nilS]
def clR21:V:=.int .i64 0
theorem clP21:AM.Pure clR21:=by simp[clR21]
theorem clQ21:∀a∈clA21,AM.Pure a:=by simp[clA21]
theorem cl21:aK Tryz.prog 97 clA21 fun x=>x=clR21:=aF tok mixed aY xt19_ok (fuel:=1000) (d:=40) (by kernel_rfl) clP21
def xt21:ag:=er 97 clA21 clR21 xt19
theorem xt21_ok:aU Tryz.prog xt21:=bY xt19_ok cl21 clQ21 (by unfold clR21;constructor)
def clA24:List V:=[.agg [.nilS,.nilS]]
def clR24:V:=.tup [.nilS,.int .i64 0]
theorem clP24:AM.Pure clR24:=by simp[clR24]
theorem clQ24:∀a∈clA24,AM.Pure a:=by simp[clA24]
theorem cl24:aK Tryz.prog 132 clA24 fun x=>x=clR24:=aF tok mixed aY xt21_ok (fuel:=1000) (d:=40) (by kernel_rfl) clP24
def xt24:ag:=fun f args H=>if ku f 132 then(if eqL (eqV 40) args clA24 then some (clR24,H) else xt21 f args H) else xt21 f args H
theorem xt24_ok:aU Tryz.prog xt24:=aW xt21_ok cl24 clQ24
def clA25:List V:=[.agg [.nilS,.nilS],.nilS]
def clR25:V:=.tup [.int .i64 0,.int .i64 0]
theorem clP25:AM.Pure clR25:=by simp[clR25]
theorem clQ25:∀a∈clA25,AM.Pure a:=by simp[clA25]
theorem cl25:aK Tryz.prog 133 clA25 fun x=>x=clR25:=aF tok mixed aY xt24_ok (fuel:=1000) (d:=40) (by kernel_rfl) clP25
def xt25:ag:=fun f args H=>if ku f 133 then(if eqL (eqV 40) args clA25 then some (clR25,H) else xt24 f args H) else xt24 f args H
theorem xt25_ok:aU Tryz.prog xt25:=aW xt24_ok cl25 clQ25
def clA26:List V:=[.agg [.nilS,.nilS],.int .i64 20000]
def clR26:V:=.tup [.nilS,.int .i64 0,.int .i64 0]
theorem clP26:AM.Pure clR26:=by simp[clR26]
theorem clQ26:∀a∈clA26,AM.Pure a:=by simp[clA26]
theorem cl26:aK Tryz.prog 93 clA26 fun x=>x=clR26:=aF tok mixed aY xt25_ok (fuel:=1000) (d:=40) (by kernel_rfl) clP26
def xt26:ag:=fun f args H=>if ku f 93 then(if eqL (eqV 40) args clA26 then some (clR26,H) else xt25 f args H) else xt25 f args H
theorem xt26_ok:aU Tryz.prog xt26:=aW xt25_ok cl26 clQ26
def clA32:List V:=[.agg [.str ⟨#[114]⟩,.lst 1 true [.str ⟨#[97]⟩,.str ⟨#[98]⟩],.lst 2 true [.agg [.int .i64 1,.lst 3 true [.agg [.int .i64 1,.int .i64 5,.str ⟨#[]⟩],.agg [.int .i64 1,.int .i64 1,.str ⟨#[]⟩]]],.agg [.int .i64 2,.lst 3 true [.agg [.int .i64 1,.int .i64 5,.str ⟨#[]⟩],.agg [.int .i64 1,.int .i64 2,.str ⟨#[]⟩]]],.agg [.int .i64 3,.lst 3 true [.agg [.int .i64 1,.int .i64 6,.str ⟨#[]⟩],.agg [.int .i64 1,.int .i64 1,.str ⟨#[]⟩]]]]],.lst 2 false [.agg [.int .u32 1,.int .u32 2]],.lst 2 false [.agg [.int .i64 1,.int .i64 1],.agg [.int .i64 2,.int .i64 0],.agg [.int .i64 2,.int .i64 1],.agg [.int .i64 3,.int .i64 0],.agg [.int .i64 3,.int .i64 1]]]
def clR32:V:=.bool false
theorem clP32:AM.Pure clR32:=by simp[clR32]
theorem clQ32:∀a∈clA32,AM.Pure a:=by simp[clA32]
theorem cl32:aK Tryz.prog 149 clA32 fun x=>x=clR32:=aF tok mixed aY xt26_ok (fuel:=1000) (d:=40) (by kernel_rfl) clP32
def xt32:ag:=er 149 clA32 clR32 xt26
theorem xt32_ok:aU Tryz.prog xt32:=bY xt26_ok cl32 clQ32 (by unfold clR32;constructor)
def clA36:List V:=[.agg [.str ⟨#[114]⟩,.lst 1 true [.str ⟨#[97]⟩,.str ⟨#[98]⟩],.lst 2 true [.agg [.int .i64 1,.lst 3 true [.agg [.int .i64 1,.int .i64 5,.str ⟨#[]⟩],.agg [.int .i64 1,.int .i64 1,.str ⟨#[]⟩]]],.agg [.int .i64 2,.lst 3 true [.agg [.int .i64 1,.int .i64 5,.str ⟨#[]⟩],.agg [.int .i64 1,.int .i64 2,.str ⟨#[]⟩]]],.agg [.int .i64 3,.lst 3 true [.agg [.int .i64 1,.int .i64 6,.str ⟨#[]⟩],.agg [.int .i64 1,.int .i64 1,.str ⟨#[]⟩]]]]],.lst 2 false [.agg [.int .u32 1,.int .u32 2]],.lst 2 false [.agg [.int .i64 1,.int .i64 0],.agg [.int .i64 2,.int .i64 0],.agg [.int .i64 2,.int .i64 1],.agg [.int .i64 3,.int .i64 0],.agg [.int .i64 3,.int .i64 1]]]
def clR36:V:=.bool false
theorem clP36:AM.Pure clR36:=by simp[clR36]
theorem clQ36:∀a∈clA36,AM.Pure a:=by simp[clA36]
theorem cl36:aK Tryz.prog 149 clA36 fun x=>x=clR36:=aF tok mixed aY xt32_ok (fuel:=1000) (d:=40) (by kernel_rfl) clP36
def xt36:ag:=er 149 clA36 clR36 xt32
theorem xt36_ok:aU Tryz.prog xt36:=bY xt32_ok cl36 clQ36 (by unfold clR36;constructor)
def clA40:List V:=[.agg [.str ⟨#[114]⟩,.lst 1 true [.str ⟨#[97]⟩,.str ⟨#[98]⟩],.lst 2 true [.agg [.int .i64 1,.lst 3 true [.agg [.int .i64 1,.int .i64 5,.str ⟨#[]⟩],.agg [.int .i64 1,.int .i64 1,.str ⟨#[]⟩]]],.agg [.int .i64 2,.lst 3 true [.agg [.int .i64 1,.int .i64 5,.str ⟨#[]⟩],.agg [.int .i64 1,.int .i64 2,.str ⟨#[]⟩]]],.agg [.int .i64 3,.lst 3 true [.agg [.int .i64 1,.int .i64 6,.str ⟨#[]⟩],.agg [.int .i64 1,.int .i64 1,.str ⟨#[]⟩]]]]],.lst 2 false [.agg [.int .u32 1,.int .u32 2]],.lst 2 false [.agg [.int .i64 1,.int .i64 0],.agg [.int .i64 1,.int .i64 1],.agg [.int .i64 2,.int .i64 1],.agg [.int .i64 3,.int .i64 0],.agg [.int .i64 3,.int .i64 1]]]
def clR40:V:=.bool false
theorem clP40:AM.Pure clR40:=by simp[clR40]
theorem clQ40:∀a∈clA40,AM.Pure a:=by simp[clA40]
theorem cl40:aK Tryz.prog 149 clA40 fun x=>x=clR40:=aF tok mixed aY xt36_ok (fuel:=1000) (d:=40) (by kernel_rfl) clP40
def xt40:ag:=er 149 clA40 clR40 xt36
theorem xt40_ok:aU Tryz.prog xt40:=bY xt36_ok cl40 clQ40 (by unfold clR40;constructor)
def clA44:List V:=[.agg [.str ⟨#[114]⟩,.lst 1 true [.str ⟨#[97]⟩,.str ⟨#[98]⟩],.lst 2 true [.agg [.int .i64 1,.lst 3 true [.agg [.int .i64 1,.int .i64 5,.str ⟨#[]⟩],.agg [.int .i64 1,.int .i64 1,.str ⟨#[]⟩]]],.agg [.int .i64 2,.lst 3 true [.agg [.int .i64 1,.int .i64 5,.str ⟨#[]⟩],.agg [.int .i64 1,.int .i64 2,.str ⟨#[]⟩]]],.agg [.int .i64 3,.lst 3 true [.agg [.int .i64 1,.int .i64 6,.str ⟨#[]⟩],.agg [.int .i64 1,.int .i64 1,.str ⟨#[]⟩]]]]],.lst 2 false [.agg [.int .u32 1,.int .u32 2]],.lst 2 false [.agg [.int .i64 1,.int .i64 0],.agg [.int .i64 1,.int .i64 1],.agg [.int .i64 2,.int .i64 0],.agg [.int .i64 3,.int .i64 0],.agg [.int .i64 3,.int .i64 1]]]
def clR44:V:=.bool false
theorem clP44:AM.Pure clR44:=by simp[clR44]
theorem clQ44:∀a∈clA44,AM.Pure a:=by simp[clA44]
theorem cl44:aK Tryz.prog 149 clA44 fun x=>x=clR44:=aF tok mixed aY xt40_ok (fuel:=1000) (d:=40) (by kernel_rfl) clP44
def xt44:ag:=er 149 clA44 clR44 xt40
theorem xt44_ok:aU Tryz.prog xt44:=bY xt40_ok cl44 clQ44 (by unfold clR44;constructor)
def clA48:List V:=[.agg [.str ⟨#[114]⟩,.lst 1 true [.str ⟨#[97]⟩,.str ⟨#[98]⟩],.lst 2 true [.agg [.int .i64 1,.lst 3 true [.agg [.int .i64 1,.int .i64 5,.str ⟨#[]⟩],.agg [.int .i64 1,.int .i64 1,.str ⟨#[]⟩]]],.agg [.int .i64 2,.lst 3 true [.agg [.int .i64 1,.int .i64 5,.str ⟨#[]⟩],.agg [.int .i64 1,.int .i64 2,.str ⟨#[]⟩]]],.agg [.int .i64 3,.lst 3 true [.agg [.int .i64 1,.int .i64 6,.str ⟨#[]⟩],.agg [.int .i64 1,.int .i64 1,.str ⟨#[]⟩]]]]],.lst 2 false [.agg [.int .u32 1,.int .u32 2]],.lst 2 false [.agg [.int .i64 1,.int .i64 0],.agg [.int .i64 1,.int .i64 1],.agg [.int .i64 2,.int .i64 0],.agg [.int .i64 2,.int .i64 1],.agg [.int .i64 3,.int .i64 1]]]
def clR48:V:=.bool true
theorem clP48:AM.Pure clR48:=by simp[clR48]
theorem clQ48:∀a∈clA48,AM.Pure a:=by simp[clA48]
theorem cl48:aK Tryz.prog 149 clA48 fun x=>x=clR48:=aF tok mixed aY xt44_ok (fuel:=1000) (d:=40) (by kernel_rfl) clP48
def xt48:ag:=er 149 clA48 clR48 xt44
theorem xt48_ok:aU Tryz.prog xt48:=bY xt44_ok cl48 clQ48 (by unfold clR48;constructor)
def clA52:List V:=[.agg [.str ⟨#[114]⟩,.lst 1 true [.str ⟨#[97]⟩,.str ⟨#[98]⟩],.lst 2 true [.agg [.int .i64 1,.lst 3 true [.agg [.int .i64 1,.int .i64 5,.str ⟨#[]⟩],.agg [.int .i64 1,.int .i64 1,.str ⟨#[]⟩]]],.agg [.int .i64 2,.lst 3 true [.agg [.int .i64 1,.int .i64 5,.str ⟨#[]⟩],.agg [.int .i64 1,.int .i64 2,.str ⟨#[]⟩]]],.agg [.int .i64 3,.lst 3 true [.agg [.int .i64 1,.int .i64 6,.str ⟨#[]⟩],.agg [.int .i64 1,.int .i64 1,.str ⟨#[]⟩]]]]],.lst 2 false [.agg [.int .u32 1,.int .u32 2]],.lst 2 false [.agg [.int .i64 1,.int .i64 0],.agg [.int .i64 1,.int .i64 1],.agg [.int .i64 2,.int .i64 0],.agg [.int .i64 2,.int .i64 1]]]
def clR52:V:=.bool true
theorem clP52:AM.Pure clR52:=by simp[clR52]
theorem clQ52:∀a∈clA52,AM.Pure a:=by simp[clA52]
theorem cl52:aK Tryz.prog 149 clA52 fun x=>x=clR52:=aF tok mixed aY xt48_ok (fuel:=1000) (d:=40) (by kernel_rfl) clP52
def xt52:ag:=er 149 clA52 clR52 xt48
theorem xt52_ok:aU Tryz.prog xt52:=bY xt48_ok cl52 clQ52 (by unfold clR52;constructor)
def clA53:List V:=[.agg [.str ⟨#[114]⟩,.lst 1 true [.str ⟨#[97]⟩,.str ⟨#[98]⟩],.lst 2 true [.agg [.int .i64 1,.lst 3 true [.agg [.int .i64 1,.int .i64 5,.str ⟨#[]⟩],.agg [.int .i64 1,.int .i64 1,.str ⟨#[]⟩]]],.agg [.int .i64 2,.lst 3 true [.agg [.int .i64 1,.int .i64 5,.str ⟨#[]⟩],.agg [.int .i64 1,.int .i64 2,.str ⟨#[]⟩]]],.agg [.int .i64 3,.lst 3 true [.agg [.int .i64 1,.int .i64 6,.str ⟨#[]⟩],.agg [.int .i64 1,.int .i64 1,.str ⟨#[]⟩]]]]],.lst 2 false [.agg [.int .u32 1,.int .u32 2]],.lst 2 false [.agg [.int .i64 2,.int .i64 1]]]
def clR53:V:=.int .i64 0
theorem clP53:AM.Pure clR53:=by simp[clR53]
theorem clQ53:∀a∈clA53,AM.Pure a:=by simp[clA53]
theorem cl53:aK Tryz.prog 97 clA53 fun x=>x=clR53:=aF tok mixed aY xt52_ok (fuel:=1000) (d:=40) (by kernel_rfl) clP53
def xt53:ag:=er 97 clA53 clR53 xt52
theorem xt53_ok:aU Tryz.prog xt53:=bY xt52_ok cl53 clQ53 (by unfold clR53;constructor)
def clA54:List V:=[.agg [.str ⟨#[114]⟩,.lst 1 true [.str ⟨#[97]⟩,.str ⟨#[98]⟩],.lst 2 true [.agg [.int .i64 1,.lst 3 true [.agg [.int .i64 1,.int .i64 5,.str ⟨#[]⟩],.agg [.int .i64 1,.int .i64 1,.str ⟨#[]⟩]]],.agg [.int .i64 2,.lst 3 true [.agg [.int .i64 1,.int .i64 5,.str ⟨#[]⟩],.agg [.int .i64 1,.int .i64 2,.str ⟨#[]⟩]]],.agg [.int .i64 3,.lst 3 true [.agg [.int .i64 1,.int .i64 6,.str ⟨#[]⟩],.agg [.int .i64 1,.int .i64 1,.str ⟨#[]⟩]]]]],.lst 2 false [.agg [.int .u32 1,.int .u32 2]],.lst 2 false [.agg [.int .i64 2,.int .i64 1]]]
def clR54:V:=.tup [.agg [.str ⟨#[114]⟩,.lst 1 false [.str ⟨#[97]⟩,.str ⟨#[98]⟩],.lst 2 false [.agg [.int .i64 1,.lst 3 false [.agg [.int .i64 1,.int .i64 5,.str ⟨#[]⟩],.agg [.int .i64 1,.int .i64 1,.str ⟨#[]⟩]]],.agg [.int .i64 2,.lst 3 false [.agg [.int .i64 1,.int .i64 5,.str ⟨#[]⟩],.agg [.int .i64 1,.int .i64 1,.str ⟨#[]⟩]]],.agg [.int .i64 3,.lst 3 false [.agg [.int .i64 1,.int .i64 6,.str ⟨#[]⟩],.agg [.int .i64 1,.int .i64 1,.str ⟨#[]⟩]]]]],.int .i64 0]
theorem clP54:AM.Pure clR54:=by simp[clR54]
theorem clQ54:∀a∈clA54,AM.Pure a:=by simp[clA54]
theorem cl54:aK Tryz.prog 100 clA54 fun x=>x=clR54:=aF tok mixed aY xt53_ok (fuel:=1000) (d:=40) (by kernel_rfl) clP54
def xt54:ag:=jn 100 clA54 clR54 xt53
theorem xt54_ok:aU Tryz.prog xt54:=cY xt53_ok cl54 clQ54
def clA55:List V:=[.agg [.str ⟨#[114]⟩,.lst 1 true [.str ⟨#[97]⟩,.str ⟨#[98]⟩],.lst 2 true [.agg [.int .i64 1,.lst 3 true [.agg [.int .i64 1,.int .i64 5,.str ⟨#[]⟩],.agg [.int .i64 1,.int .i64 1,.str ⟨#[]⟩]]],.agg [.int .i64 2,.lst 3 true [.agg [.int .i64 1,.int .i64 5,.str ⟨#[]⟩],.agg [.int .i64 1,.int .i64 2,.str ⟨#[]⟩]]],.agg [.int .i64 3,.lst 3 true [.agg [.int .i64 1,.int .i64 6,.str ⟨#[]⟩],.agg [.int .i64 1,.int .i64 1,.str ⟨#[]⟩]]]]],.lst 2 false [.agg [.int .u32 1,.int .u32 2]],.int .i64 20000]
def clR55:V:=.tup [.agg [.lst 2 false [.agg [.int .i64 2,.int .i64 1]],.str ⟨#[114]⟩,.lst 1 false [.str ⟨#[97]⟩,.str ⟨#[98]⟩],.lst 2 false [.agg [.int .i64 1,.lst 3 false [.agg [.int .i64 1,.int .i64 5,.str ⟨#[]⟩],.agg [.int .i64 1,.int .i64 1,.str ⟨#[]⟩]]],.agg [.int .i64 2,.lst 3 false [.agg [.int .i64 1,.int .i64 5,.str ⟨#[]⟩],.agg [.int .i64 1,.int .i64 1,.str ⟨#[]⟩]]],.agg [.int .i64 3,.lst 3 false [.agg [.int .i64 1,.int .i64 6,.str ⟨#[]⟩],.agg [.int .i64 1,.int .i64 1,.str ⟨#[]⟩]]]],.lst 1 false [.lst 2 false [.agg [.int .i64 1,.int .i64 0],.agg [.int .i64 1,.int .i64 1],.agg [.int .i64 2,.int .i64 0],.agg [.int .i64 2,.int .i64 1]]],.lst 2 true [.agg [.int .i64 (-1),.lst 2 false [.agg [.int .i64 0,.int .i64 1]]]]],.int .i64 0]
theorem clP55:AM.Pure clR55:=by simp[clR55]
theorem clQ55:∀a∈clA55,AM.Pure a:=by simp[clA55]
theorem cl55:aK Tryz.prog 54 clA55 fun x=>x=clR55:=aF tok mixed aY xt54_ok (fuel:=1000) (d:=40) (by kernel_rfl) clP55
def xt55:ag:=jn 54 clA55 clR55 xt54
theorem xt55_ok:aU Tryz.prog xt55:=cY xt54_ok cl55 clQ55
theorem cN:aK Tryz.prog 7 [] fun x=>x = .bool true:=aF tok mixed aY xt55_ok (fuel:=1000) (d:=40) (by kernel_rfl) (.bool _)
end
end Go.Proofs.YtpedcgdgjoblkaaGreatDoor
