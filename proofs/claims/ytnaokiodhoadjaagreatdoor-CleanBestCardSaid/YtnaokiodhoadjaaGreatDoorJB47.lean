/- JB47: texts C4, joined and shortened by pack6.py. -/
import Derived.Test.YtnaokiodhoadjaaGreatDoorJB45
import Derived.Test.YtnaokiodhoadjaaGreatDoorJB46
set_option linter.all false
set_option maxRecDepth 100000
set_option maxHeartbeats 64000000
open Nat renaming beq→vB
namespace Go.Proofs.YtnaokiodhoadjaaGreatDoor
section
open Go Go.AM Go.Proofs.Tryz
def xt0:bC:=fun f args H=>if vB f 49 then(if eqL (eqV 40) args clA0 then some (clR0,H) else extG f args H) else extG f args H
def xt0_ok:aa prog xt0:=af bB cl0 clQ0
def xt1:bC:=fun f args H=>if vB f 49 then(if eqL (eqV 40) args clA1 then some (clR1,H) else xt0 f args H) else xt0 f args H
def xt1_ok:aa prog xt1:=af xt0_ok cl1 clQ1
def xt2:bC:=fun f args H=>if vB f 49 then(if eqL (eqV 40) args clA2 then some (clR2,H) else xt1 f args H) else xt1 f args H
def xt2_ok:aa prog xt2:=af xt1_ok cl2 clQ2
def xt6:bC:=fun f args H=>if vB f 65 then(if eqL (eqV 40) args clA6 then some (clR6,H) else xt2 f args H) else xt2 f args H
def xt6_ok:aa prog xt6:=af xt2_ok cl6 clQ6
def xt9:bC:=fun f args H=>if vB f 149 then(if eqL (eqV 40) args clA9 then some (clR9,H) else xt6 f args H) else xt6 f args H
def xt9_ok:aa prog xt9:=af xt6_ok cl9 clQ9
def xt14:bC:=fun f args H=>if vB f 59 then(if eqL (eqV 40) args clA14 then some (clR14,H) else xt9 f args H) else xt9 f args H
def xt14_ok:aa prog xt14:=af xt9_ok cl14 clQ14
def xt20:bC:=fun f args H=>if vB f 65 then(if eqL (eqV 40) args clA20 then some (clR20,H) else xt14 f args H) else xt14 f args H
def xt20_ok:aa prog xt20:=af xt14_ok cl20 clQ20
def xt22:bC:=fun f args H=>if vB f 67 then(if eqL (eqV 40) args clA22 then some (clR22,H) else xt20 f args H) else xt20 f args H
def xt22_ok:aa prog xt22:=af xt20_ok cl22 clQ22
def xt23:bC:=fun f args H=>if vB f 59 then(if eqL (eqV 40) args clA23 then some (clR23,H) else xt22 f args H) else xt22 f args H
def xt23_ok:aa prog xt23:=af xt22_ok cl23 clQ23
def xt27:bC:=ka 36 clA27 clR27 xt23
def xt27_ok:aa prog xt27:=dD xt23_ok cl27 clQ27 (by unfold clR27;constructor)
def xt28:bC:=sZ 39 clA28 clR28 xt27
def xt28_ok:aa prog xt28:=fj xt27_ok cl28 clQ28
def xt29:bC:=fun f args H=>if vB f 67 then(if eqL (eqV 40) args clA29 then some (clR29,H) else xt28 f args H) else xt28 f args H
def xt29_ok:aa prog xt29:=af xt28_ok cl29 clQ29
def xt30:bC:=sZ 39 clA30 clR30 xt29
def xt30_ok:aa prog xt30:=fj xt29_ok cl30 clQ30
def xt31:bC:=ka 36 clA31 clR31 xt30
def xt31_ok:aa prog xt31:=dD xt30_ok cl31 clQ31 (by unfold clR31;constructor)
def xt33:bC:=fun f args H=>if vB f 67 then(if eqL (eqV 40) args clA33 then some (clR33,H) else xt31 f args H) else xt31 f args H
def xt33_ok:aa prog xt33:=af xt31_ok cl33 clQ33
def xt34:bC:=sZ 39 clA34 clR34 xt33
def xt34_ok:aa prog xt34:=fj xt33_ok cl34 clQ34
def xt35:bC:=ka 36 clA35 clR35 xt34
def xt35_ok:aa prog xt35:=dD xt34_ok cl35 clQ35 (by unfold clR35;constructor)
def xt37:bC:=fun f args H=>if vB f 67 then(if eqL (eqV 40) args clA37 then some (clR37,H) else xt35 f args H) else xt35 f args H
def xt37_ok:aa prog xt37:=af xt35_ok cl37 clQ37
def xt38:bC:=sZ 39 clA38 clR38 xt37
def xt38_ok:aa prog xt38:=fj xt37_ok cl38 clQ38
def xt39:bC:=ka 36 clA39 clR39 xt38
def xt39_ok:aa prog xt39:=dD xt38_ok cl39 clQ39 (by unfold clR39;constructor)
def xt41:bC:=fun f args H=>if vB f 67 then(if eqL (eqV 40) args clA41 then some (clR41,H) else xt39 f args H) else xt39 f args H
def xt41_ok:aa prog xt41:=af xt39_ok cl41 clQ41
def xt42:bC:=sZ 39 clA42 clR42 xt41
def xt42_ok:aa prog xt42:=fj xt41_ok cl42 clQ42
def xt43:bC:=ka 36 clA43 clR43 xt42
def xt43_ok:aa prog xt43:=dD xt42_ok cl43 clQ43 (by unfold clR43;constructor)
def xt45:bC:=fun f args H=>if vB f 67 then(if eqL (eqV 40) args clA45 then some (clR45,H) else xt43 f args H) else xt43 f args H
def xt45_ok:aa prog xt45:=af xt43_ok cl45 clQ45
def xt46:bC:=sZ 39 clA46 clR46 xt45
def xt46_ok:aa prog xt46:=fj xt45_ok cl46 clQ46
def xt47:bC:=ka 36 clA47 clR47 xt46
def xt47_ok:aa prog xt47:=dD xt46_ok cl47 clQ47 (by unfold clR47;constructor)
def xt49:bC:=fun f args H=>if vB f 67 then(if eqL (eqV 40) args clA49 then some (clR49,H) else xt47 f args H) else xt47 f args H
def xt49_ok:aa prog xt49:=af xt47_ok cl49 clQ49
def xt50:bC:=sZ 39 clA50 clR50 xt49
def xt50_ok:aa prog xt50:=fj xt49_ok cl50 clQ50
def xt51:bC:=ka 36 clA51 clR51 xt50
def xt51_ok:aa prog xt51:=dD xt50_ok cl51 clQ51 (by unfold clR51;constructor)
def clA3:List V:=[.agg [.str ⟨#[114]⟩,.lst 1 true [.str ⟨#[97]⟩,.str ⟨#[98]⟩],.lst 2 true [.agg [.int .i64 1,.lst 3 true [.agg [.int .i64 1,.int .i64 5,.str ⟨#[]⟩],.agg [.int .i64 1,.int .i64 1,.str ⟨#[]⟩]]],.agg [.int .i64 2,.lst 3 true [.agg [.int .i64 1,.int .i64 5,.str ⟨#[]⟩],.agg [.int .i64 1,.int .i64 2,.str ⟨#[]⟩]]],.agg [.int .i64 3,.lst 3 true [.agg [.int .i64 1,.int .i64 6,.str ⟨#[]⟩],.agg [.int .i64 1,.int .i64 1,.str ⟨#[]⟩]]]]]]
def clR3:V:=.int .i64 0
def clP3:AM.Pure clR3:=by simp[clR3]
def clQ3:∀a∈clA3,AM.Pure a:=by simp[clA3]
def cl3:aK prog 26 clA3 fun x=>x=clR3:=aC tok mixed aT xt51_ok (fuel:=1000) (d:=40) υ clP3
def xt3:bC:=fun f args H=>if vB f 26 then(if eqL (eqV 40) args clA3 then some (clR3,H) else xt51 f args H) else xt51 f args H
def xt3_ok:aa prog xt3:=af xt51_ok cl3 clQ3
def clA4:List V:=[.agg [.str ⟨#[114]⟩,.lst 1 true [.str ⟨#[97]⟩,.str ⟨#[98]⟩],.lst 2 true [.agg [.int .i64 2,.lst 3 true [.agg [.int .i64 1,.int .i64 5,.str ⟨#[]⟩],.agg [.int .i64 1,.int .i64 1,.str ⟨#[]⟩]]],.agg [.int .i64 3,.lst 3 true [.agg [.int .i64 1,.int .i64 6,.str ⟨#[]⟩],.agg [.int .i64 1,.int .i64 1,.str ⟨#[]⟩]]],.agg [.int .i64 4,.lst 3 true [.agg [.int .i64 1,.int .i64 7,.str ⟨#[]⟩],.agg [.int .i64 1,.int .i64 7,.str ⟨#[]⟩]]]]]]
def clR4:V:=.int .i64 0
def clP4:AM.Pure clR4:=by simp[clR4]
def clQ4:∀a∈clA4,AM.Pure a:=by simp[clA4]
def cl4:aK prog 26 clA4 fun x=>x=clR4:=aC tok mixed aT xt3_ok (fuel:=1000) (d:=40) υ clP4
def xt4:bC:=fun f args H=>if vB f 26 then(if eqL (eqV 40) args clA4 then some (clR4,H) else xt3 f args H) else xt3 f args H
def xt4_ok:aa prog xt4:=af xt3_ok cl4 clQ4
def clA5:List V:=[.agg [.str ⟨#[114]⟩,.lst 1 true [.str ⟨#[97]⟩,.str ⟨#[98]⟩],.lst 2 true [.agg [.int .i64 1,.lst 3 true [.agg [.int .i64 1,.int .i64 5,.str ⟨#[]⟩],.agg [.int .i64 1,.int .i64 1,.str ⟨#[]⟩]]],.agg [.int .i64 2,.lst 3 true [.agg [.int .i64 1,.int .i64 5,.str ⟨#[]⟩],.agg [.int .i64 1,.int .i64 2,.str ⟨#[]⟩]]],.agg [.int .i64 3,.lst 3 true [.agg [.int .i64 1,.int .i64 6,.str ⟨#[]⟩],.agg [.int .i64 1,.int .i64 1,.str ⟨#[]⟩]]]]],.agg [.str ⟨#[114]⟩,.lst 1 true [.str ⟨#[97]⟩,.str ⟨#[98]⟩],.lst 2 true [.agg [.int .i64 2,.lst 3 true [.agg [.int .i64 1,.int .i64 5,.str ⟨#[]⟩],.agg [.int .i64 1,.int .i64 1,.str ⟨#[]⟩]]],.agg [.int .i64 3,.lst 3 true [.agg [.int .i64 1,.int .i64 6,.str ⟨#[]⟩],.agg [.int .i64 1,.int .i64 1,.str ⟨#[]⟩]]],.agg [.int .i64 4,.lst 3 true [.agg [.int .i64 1,.int .i64 7,.str ⟨#[]⟩],.agg [.int .i64 1,.int .i64 7,.str ⟨#[]⟩]]]]]]
def clR5:V:=.tup [.lst 11 false [.agg [.int .i64 3,.str ⟨#[114]⟩,.str ⟨#[]⟩,.nilS,.nilS,.int .i64 1,.lst 3 false [.agg [.int .i64 1,.int .i64 5,.str ⟨#[]⟩],.agg [.int .i64 1,.int .i64 1,.str ⟨#[]⟩]],.int .i64 0,.int .i64 0,.int .i64 0,.str ⟨#[]⟩],.agg [.int .i64 4,.str ⟨#[114]⟩,.str ⟨#[]⟩,.nilS,.nilS,.int .i64 2,.lst 3 false [.agg [.int .i64 1,.int .i64 5,.str ⟨#[]⟩],.agg [.int .i64 1,.int .i64 2,.str ⟨#[]⟩]],.int .i64 1,.int .i64 1,.int .i64 1,.str ⟨#[]⟩],.agg [.int .i64 2,.str ⟨#[114]⟩,.str ⟨#[]⟩,.nilS,.nilS,.int .i64 4,.lst 3 false [.agg [.int .i64 1,.int .i64 7,.str ⟨#[]⟩],.agg [.int .i64 1,.int .i64 7,.str ⟨#[]⟩]],.int .i64 0,.int .i64 0,.int .i64 0,.str ⟨#[]⟩]],.int .i64 0]
def clP5:AM.Pure clR5:=by simp[clR5]
def clQ5:∀a∈clA5,AM.Pure a:=by simp[clA5]
def cl5:aK prog 13 clA5 fun x=>x=clR5:=aC tok mixed aT xt4_ok (fuel:=1000) (d:=40) υ clP5
def xt5:bC:=fun f args H=>if vB f 13 then(if eqL (eqV 40) args clA5 then some (clR5,H) else xt4 f args H) else xt4 f args H
def xt5_ok:aa prog xt5:=af xt4_ok cl5 clQ5
def clA7:List V:=[.int .i64 2,.agg [.int .u32 1,.int .u32 2]]
def clR7:V:=.tup [.lst 2 false [.agg [.int .i64 2,.lst 11 false [.agg [.int .i64 1,.int .i64 0,.int .i64 0,.int .i64 0,.str ⟨#[]⟩,.int .i64 1,.int .i64 2,.int .i64 0,.int .i64 0,.int .i64 0,.str ⟨#[]⟩],.agg [.int .i64 1,.int .i64 1,.int .i64 0,.int .i64 0,.str ⟨#[]⟩,.int .i64 2,.int .i64 2,.int .i64 1,.int .i64 0,.int .i64 0,.str ⟨#[]⟩]]]],.int .i64 0]
def clP7:AM.Pure clR7:=by simp[clR7]
def clQ7:∀a∈clA7,AM.Pure a:=by simp[clA7]
def cl7:aK prog 148 clA7 fun x=>x=clR7:=aC tok mixed aT xt5_ok (fuel:=1000) (d:=40) υ clP7
def xt7:bC:=fun f args H=>if vB f 148 then(if eqL (eqV 40) args clA7 then some (clR7,H) else xt5 f args H) else xt5 f args H
def xt7_ok:aa prog xt7:=af xt5_ok cl7 clQ7
def clA8:List V:=[.agg [.str ⟨#[114]⟩,.lst 1 true [.str ⟨#[97]⟩,.str ⟨#[98]⟩],.lst 2 true [.agg [.int .i64 1,.lst 3 true [.agg [.int .i64 1,.int .i64 5,.str ⟨#[]⟩],.agg [.int .i64 1,.int .i64 1,.str ⟨#[]⟩]]],.agg [.int .i64 2,.lst 3 true [.agg [.int .i64 1,.int .i64 5,.str ⟨#[]⟩],.agg [.int .i64 1,.int .i64 2,.str ⟨#[]⟩]]],.agg [.int .i64 3,.lst 3 true [.agg [.int .i64 1,.int .i64 6,.str ⟨#[]⟩],.agg [.int .i64 1,.int .i64 1,.str ⟨#[]⟩]]]]],.agg [.str ⟨#[99]⟩,.str ⟨#[114]⟩,.int .i64 1,.int .u32 1,.int .u32 2,.int .u32 0,.int .u32 0,.str ⟨#[]⟩,.nilS,.str ⟨#[]⟩,.nilS,.nilS,.int .i64 0,.nilS,.nilS,.nilS,.int .i64 0,.nilS]]
def clR8:V:=.tup [.lst 2 false [.agg [.int .i64 2,.lst 11 false [.agg [.int .i64 1,.int .i64 0,.int .i64 0,.int .i64 0,.str ⟨#[]⟩,.int .i64 1,.int .i64 2,.int .i64 0,.int .i64 0,.int .i64 0,.str ⟨#[]⟩],.agg [.int .i64 1,.int .i64 1,.int .i64 0,.int .i64 0,.str ⟨#[]⟩,.int .i64 2,.int .i64 2,.int .i64 1,.int .i64 0,.int .i64 0,.str ⟨#[]⟩]]]],.int .i64 0]
def clP8:AM.Pure clR8:=by simp[clR8]
def clQ8:∀a∈clA8,AM.Pure a:=by simp[clA8]
def cl8:aK prog 96 clA8 fun x=>x=clR8:=aC tok mixed aT xt7_ok (fuel:=1000) (d:=40) υ clP8
def xt8:bC:=fun f args H=>if vB f 96 then(if eqL (eqV 40) args clA8 then some (clR8,H) else xt7 f args H) else xt7 f args H
def xt8_ok:aa prog xt8:=af xt7_ok cl8 clQ8
def clA10:List V:=[.agg [.str ⟨#[114]⟩,.lst 1 true [.str ⟨#[97]⟩,.str ⟨#[98]⟩],.lst 2 true [.agg [.int .i64 1,.lst 3 true [.agg [.int .i64 1,.int .i64 5,.str ⟨#[]⟩],.agg [.int .i64 1,.int .i64 1,.str ⟨#[]⟩]]],.agg [.int .i64 2,.lst 3 true [.agg [.int .i64 1,.int .i64 5,.str ⟨#[]⟩],.agg [.int .i64 1,.int .i64 2,.str ⟨#[]⟩]]],.agg [.int .i64 3,.lst 3 true [.agg [.int .i64 1,.int .i64 6,.str ⟨#[]⟩],.agg [.int .i64 1,.int .i64 1,.str ⟨#[]⟩]]]]],.agg [.int .i64 2,.lst 11 false [.agg [.int .i64 1,.int .i64 0,.int .i64 0,.int .i64 0,.str ⟨#[]⟩,.int .i64 1,.int .i64 2,.int .i64 0,.int .i64 0,.int .i64 0,.str ⟨#[]⟩],.agg [.int .i64 1,.int .i64 1,.int .i64 0,.int .i64 0,.str ⟨#[]⟩,.int .i64 2,.int .i64 2,.int .i64 1,.int .i64 0,.int .i64 0,.str ⟨#[]⟩]]]]
def clR10:V:=.tup [.lst 1 false [.lst 1 false [.int .i64 1,.int .i64 2]],.int .i64 0]
def clP10:AM.Pure clR10:=by simp[clR10]
def clQ10:∀a∈clA10,AM.Pure a:=by simp[clA10]
def cl10:aK prog 154 clA10 fun x=>x=clR10:=aC tok mixed aT xt8_ok (fuel:=1000) (d:=40) υ clP10
def xt10:bC:=fun f args H=>if vB f 154 then(if eqL (eqV 40) args clA10 then some (clR10,H) else xt8 f args H) else xt8 f args H
def xt10_ok:aa prog xt10:=af xt8_ok cl10 clQ10
def clA11:List V:=[.agg [.str ⟨#[114]⟩,.lst 1 true [.str ⟨#[97]⟩,.str ⟨#[98]⟩],.lst 2 true [.agg [.int .i64 1,.lst 3 true [.agg [.int .i64 1,.int .i64 5,.str ⟨#[]⟩],.agg [.int .i64 1,.int .i64 1,.str ⟨#[]⟩]]],.agg [.int .i64 2,.lst 3 true [.agg [.int .i64 1,.int .i64 5,.str ⟨#[]⟩],.agg [.int .i64 1,.int .i64 2,.str ⟨#[]⟩]]],.agg [.int .i64 3,.lst 3 true [.agg [.int .i64 1,.int .i64 6,.str ⟨#[]⟩],.agg [.int .i64 1,.int .i64 1,.str ⟨#[]⟩]]]]],.agg [.str ⟨#[99]⟩,.str ⟨#[114]⟩,.int .i64 1,.int .u32 1,.int .u32 2,.int .u32 0,.int .u32 0,.str ⟨#[]⟩,.nilS,.str ⟨#[]⟩,.nilS,.nilS,.int .i64 0,.nilS,.nilS,.nilS,.int .i64 0,.nilS]]
def clR11:V:=.tup [.lst 1 false [.lst 1 false [.int .i64 1,.int .i64 2]],.int .i64 0]
def clP11:AM.Pure clR11:=by simp[clR11]
def clQ11:∀a∈clA11,AM.Pure a:=by simp[clA11]
def cl11:aK prog 97 clA11 fun x=>x=clR11:=aC tok mixed aT xt10_ok (fuel:=1000) (d:=40) υ clP11
def xt11:bC:=fun f args H=>if vB f 97 then(if eqL (eqV 40) args clA11 then some (clR11,H) else xt10 f args H) else xt10 f args H
def xt11_ok:aa prog xt11:=af xt10_ok cl11 clQ11
def clA12:List V:=[.agg [.str ⟨#[114]⟩,.lst 1 true [.str ⟨#[97]⟩,.str ⟨#[98]⟩],.lst 2 true [.agg [.int .i64 1,.lst 3 true [.agg [.int .i64 1,.int .i64 5,.str ⟨#[]⟩],.agg [.int .i64 1,.int .i64 1,.str ⟨#[]⟩]]],.agg [.int .i64 2,.lst 3 true [.agg [.int .i64 1,.int .i64 5,.str ⟨#[]⟩],.agg [.int .i64 1,.int .i64 2,.str ⟨#[]⟩]]],.agg [.int .i64 3,.lst 3 true [.agg [.int .i64 1,.int .i64 6,.str ⟨#[]⟩],.agg [.int .i64 1,.int .i64 1,.str ⟨#[]⟩]]]]],.lst 18 true [.agg [.str ⟨#[99]⟩,.str ⟨#[114]⟩,.int .i64 1,.int .u32 1,.int .u32 2,.int .u32 0,.int .u32 0,.str ⟨#[]⟩,.nilS,.str ⟨#[]⟩,.nilS,.nilS,.int .i64 0,.nilS,.nilS,.nilS,.int .i64 0,.nilS]]]
def clR12:V:=.tup [.agg [.lst 1 false [.int .i64 1,.int .i64 2,.int .i64 3],.lst 1 false [.lst 1 false [.int .i64 1,.int .i64 2]]],.int .i64 0]
def clP12:AM.Pure clR12:=by simp[clR12]
def clQ12:∀a∈clA12,AM.Pure a:=by simp[clA12]
def cl12:aK prog 56 clA12 fun x=>x=clR12:=aC tok mixed aT xt11_ok (fuel:=1000) (d:=40) υ clP12
def xt12:bC:=fun f args H=>if vB f 56 then(if eqL (eqV 40) args clA12 then some (clR12,H) else xt11 f args H) else xt11 f args H
def xt12_ok:aa prog xt12:=af xt11_ok cl12 clQ12
def clA13:List V:=[.agg [.str ⟨#[114]⟩,.lst 1 true [.str ⟨#[97]⟩,.str ⟨#[98]⟩],.lst 2 true [.agg [.int .i64 1,.lst 3 true [.agg [.int .i64 1,.int .i64 5,.str ⟨#[]⟩],.agg [.int .i64 1,.int .i64 1,.str ⟨#[]⟩]]],.agg [.int .i64 2,.lst 3 true [.agg [.int .i64 1,.int .i64 5,.str ⟨#[]⟩],.agg [.int .i64 1,.int .i64 2,.str ⟨#[]⟩]]],.agg [.int .i64 3,.lst 3 true [.agg [.int .i64 1,.int .i64 6,.str ⟨#[]⟩],.agg [.int .i64 1,.int .i64 1,.str ⟨#[]⟩]]]]],.lst 18 true [.agg [.str ⟨#[99]⟩,.str ⟨#[114]⟩,.int .i64 1,.int .u32 1,.int .u32 2,.int .u32 0,.int .u32 0,.str ⟨#[]⟩,.nilS,.str ⟨#[]⟩,.nilS,.nilS,.int .i64 0,.nilS,.nilS,.nilS,.int .i64 0,.nilS]],.nilS]
def clR13:V:=.tup [.agg [.lst 1 false [.int .i64 1,.int .i64 1,.int .i64 1],.lst 1 false [.lst 1 false [.int .i64 0,.int .i64 1]]],.int .i64 0]
def clP13:AM.Pure clR13:=by simp[clR13]
def clQ13:∀a∈clA13,AM.Pure a:=by simp[clA13]
def cl13:aK prog 31 clA13 fun x=>x=clR13:=aC tok mixed aT xt12_ok (fuel:=1000) (d:=40) υ clP13
def xt13:bC:=fun f args H=>if vB f 31 then(if eqL (eqV 40) args clA13 then some (clR13,H) else xt12 f args H) else xt12 f args H
def xt13_ok:aa prog xt13:=af xt12_ok cl13 clQ13
def clA15:List V:=[.agg [.lst 1 false [.int .i64 1,.int .i64 1,.int .i64 1],.lst 1 false [.lst 1 false [.int .i64 0,.int .i64 1]]]]
def clR15:V:=.tup [.lst 1 false [.int .i64 1],.int .i64 0]
def clP15:AM.Pure clR15:=by simp[clR15]
def clQ15:∀a∈clA15,AM.Pure a:=by simp[clA15]
def cl15:aK prog 60 clA15 fun x=>x=clR15:=aC tok mixed aT xt13_ok (fuel:=1000) (d:=40) υ clP15
def xt15:bC:=fun f args H=>if vB f 60 then(if eqL (eqV 40) args clA15 then some (clR15,H) else xt13 f args H) else xt13 f args H
def xt15_ok:aa prog xt15:=af xt13_ok cl15 clQ15
def clA16:List V:=[.agg [.lst 1 false [.int .i64 1,.int .i64 1,.int .i64 1],.lst 1 false [.lst 1 false [.int .i64 0,.int .i64 1]]],.lst 1 false [.int .i64 1]]
def clR16:V:=.tup [.int .i64 1,.int .i64 0]
def clP16:AM.Pure clR16:=by simp[clR16]
def clQ16:∀a∈clA16,AM.Pure a:=by simp[clA16]
def cl16:aK prog 61 clA16 fun x=>x=clR16:=aC tok mixed aT xt15_ok (fuel:=1000) (d:=40) υ clP16
def xt16:bC:=fun f args H=>if vB f 61 then(if eqL (eqV 40) args clA16 then some (clR16,H) else xt15 f args H) else xt15 f args H
def xt16_ok:aa prog xt16:=af xt15_ok cl16 clQ16
def clA17:List V:=[.agg [.lst 1 false [.int .i64 1,.int .i64 1,.int .i64 1],.lst 1 false [.lst 1 false [.int .i64 0,.int .i64 1]]],.int .i64 20000]
def clR17:V:=.tup [.lst 1 false [.int .i64 1],.int .i64 1,.int .i64 0]
def clP17:AM.Pure clR17:=by simp[clR17]
def clQ17:∀a∈clA17,AM.Pure a:=by simp[clA17]
def cl17:aK prog 32 clA17 fun x=>x=clR17:=aC tok mixed aT xt16_ok (fuel:=1000) (d:=40) υ clP17
def xt17:bC:=fun f args H=>if vB f 32 then(if eqL (eqV 40) args clA17 then some (clR17,H) else xt16 f args H) else xt16 f args H
def xt17_ok:aa prog xt17:=af xt16_ok cl17 clQ17
def clA18:List V:=[.agg [.lst 1 false [.int .i64 1,.int .i64 1,.int .i64 1],.lst 1 false [.lst 1 false [.int .i64 0,.int .i64 1]]],.int .i64 1,.int .i64 20000]
def clR18:V:=.tup [.lst 2 true [.agg [.int .i64 (-1),.lst 2 false [.agg [.int .i64 0,.int .i64 1]]]],.int .i64 0]
def clP18:AM.Pure clR18:=by simp[clR18]
def clQ18:∀a∈clA18,AM.Pure a:=by simp[clA18]
def cl18:aK prog 33 clA18 fun x=>x=clR18:=aC tok mixed aT xt17_ok (fuel:=1000) (d:=40) υ clP18
def xt18:bC:=fun f args H=>if vB f 33 then(if eqL (eqV 40) args clA18 then some (clR18,H) else xt17 f args H) else xt17 f args H
def xt18_ok:aa prog xt18:=af xt17_ok cl18 clQ18
def clA19:List V:=[.agg [.str ⟨#[114]⟩,.lst 1 true [.str ⟨#[97]⟩,.str ⟨#[98]⟩],.lst 2 true [.agg [.int .i64 1,.lst 3 true [.agg [.int .i64 1,.int .i64 5,.str ⟨#[]⟩],.agg [.int .i64 1,.int .i64 1,.str ⟨#[]⟩]]],.agg [.int .i64 2,.lst 3 true [.agg [.int .i64 1,.int .i64 5,.str ⟨#[]⟩],.agg [.int .i64 1,.int .i64 2,.str ⟨#[]⟩]]],.agg [.int .i64 3,.lst 3 true [.agg [.int .i64 1,.int .i64 6,.str ⟨#[]⟩],.agg [.int .i64 1,.int .i64 1,.str ⟨#[]⟩]]]]],.lst 18 true [.agg [.str ⟨#[99]⟩,.str ⟨#[114]⟩,.int .i64 1,.int .u32 1,.int .u32 2,.int .u32 0,.int .u32 0,.str ⟨#[]⟩,.nilS,.str ⟨#[]⟩,.nilS,.nilS,.int .i64 0,.nilS,.nilS,.nilS,.int .i64 0,.nilS]],.nilS,.int .i64 20000]
def clR19:V:=.tup [.agg [.lst 1 false [.int .i64 2],.int .i64 1,.lst 2 true [.agg [.int .i64 (-1),.lst 2 false [.agg [.int .i64 0,.int .i64 1]]]]],.int .i64 0]
def clP19:AM.Pure clR19:=by simp[clR19]
def clQ19:∀a∈clA19,AM.Pure a:=by simp[clA19]
def cl19:aK prog 14 clA19 fun x=>x=clR19:=aC tok mixed aT xt18_ok (fuel:=1000) (d:=40) υ clP19
def xt19:bC:=fun f args H=>if vB f 14 then(if eqL (eqV 40) args clA19 then some (clR19,H) else xt18 f args H) else xt18 f args H
def xt19_ok:aa prog xt19:=af xt18_ok cl19 clQ19
def clA21:List V:=[.agg [.str ⟨#[114]⟩,.lst 1 true [.str ⟨#[97]⟩,.str ⟨#[98]⟩],.lst 2 true [.agg [.int .i64 1,.lst 3 true [.agg [.int .i64 1,.int .i64 5,.str ⟨#[]⟩],.agg [.int .i64 1,.int .i64 1,.str ⟨#[]⟩]]],.agg [.int .i64 2,.lst 3 true [.agg [.int .i64 1,.int .i64 5,.str ⟨#[]⟩],.agg [.int .i64 1,.int .i64 2,.str ⟨#[]⟩]]],.agg [.int .i64 3,.lst 3 true [.agg [.int .i64 1,.int .i64 6,.str ⟨#[]⟩],.agg [.int .i64 1,.int .i64 1,.str ⟨#[]⟩]]]]],.lst 2 false [.agg [.int .u32 1,.int .u32 2]],.nilS]
def clR21:V:=.int .i64 0
def clP21:AM.Pure clR21:=by simp[clR21]
def clQ21:∀a∈clA21,AM.Pure a:=by simp[clA21]
def cl21:aK prog 34 clA21 fun x=>x=clR21:=aC tok mixed aT xt19_ok (fuel:=1000) (d:=40) υ clP21
def xt21:bC:=ka 34 clA21 clR21 xt19
def xt21_ok:aa prog xt21:=dD xt19_ok cl21 clQ21 (by unfold clR21;constructor)
def clA24:List V:=[.agg [.nilS,.nilS]]
def clR24:V:=.tup [.nilS,.int .i64 0]
def clP24:AM.Pure clR24:=by simp[clR24]
def clQ24:∀a∈clA24,AM.Pure a:=by simp[clA24]
def cl24:aK prog 60 clA24 fun x=>x=clR24:=aC tok mixed aT xt21_ok (fuel:=1000) (d:=40) υ clP24
def xt24:bC:=fun f args H=>if vB f 60 then(if eqL (eqV 40) args clA24 then some (clR24,H) else xt21 f args H) else xt21 f args H
def xt24_ok:aa prog xt24:=af xt21_ok cl24 clQ24
def clA25:List V:=[.agg [.nilS,.nilS],.nilS]
def clR25:V:=.tup [.int .i64 0,.int .i64 0]
def clP25:AM.Pure clR25:=by simp[clR25]
def clQ25:∀a∈clA25,AM.Pure a:=by simp[clA25]
def cl25:aK prog 61 clA25 fun x=>x=clR25:=aC tok mixed aT xt24_ok (fuel:=1000) (d:=40) υ clP25
def xt25:bC:=fun f args H=>if vB f 61 then(if eqL (eqV 40) args clA25 then some (clR25,H) else xt24 f args H) else xt24 f args H
def xt25_ok:aa prog xt25:=af xt24_ok cl25 clQ25
def clA26:List V:=[.agg [.nilS,.nilS],.int .i64 20000]
def clR26:V:=.tup [.nilS,.int .i64 0,.int .i64 0]
def clP26:AM.Pure clR26:=by simp[clR26]
def clQ26:∀a∈clA26,AM.Pure a:=by simp[clA26]
def cl26:aK prog 32 clA26 fun x=>x=clR26:=aC tok mixed aT xt25_ok (fuel:=1000) (d:=40) υ clP26
def xt26:bC:=fun f args H=>if vB f 32 then(if eqL (eqV 40) args clA26 then some (clR26,H) else xt25 f args H) else xt25 f args H
def xt26_ok:aa prog xt26:=af xt25_ok cl26 clQ26
def clA32:List V:=[.agg [.str ⟨#[114]⟩,.lst 1 true [.str ⟨#[97]⟩,.str ⟨#[98]⟩],.lst 2 true [.agg [.int .i64 1,.lst 3 true [.agg [.int .i64 1,.int .i64 5,.str ⟨#[]⟩],.agg [.int .i64 1,.int .i64 1,.str ⟨#[]⟩]]],.agg [.int .i64 2,.lst 3 true [.agg [.int .i64 1,.int .i64 5,.str ⟨#[]⟩],.agg [.int .i64 1,.int .i64 2,.str ⟨#[]⟩]]],.agg [.int .i64 3,.lst 3 true [.agg [.int .i64 1,.int .i64 6,.str ⟨#[]⟩],.agg [.int .i64 1,.int .i64 1,.str ⟨#[]⟩]]]]],.lst 2 false [.agg [.int .u32 1,.int .u32 2]],.lst 2 false [.agg [.int .i64 1,.int .i64 1],.agg [.int .i64 2,.int .i64 0],.agg [.int .i64 2,.int .i64 1],.agg [.int .i64 3,.int .i64 0],.agg [.int .i64 3,.int .i64 1]]]
def clR32:V:=.bool false
def clP32:AM.Pure clR32:=by simp[clR32]
def clQ32:∀a∈clA32,AM.Pure a:=by simp[clA32]
def cl32:aK prog 77 clA32 fun x=>x=clR32:=aC tok mixed aT xt26_ok (fuel:=1000) (d:=40) υ clP32
def xt32:bC:=ka 77 clA32 clR32 xt26
def xt32_ok:aa prog xt32:=dD xt26_ok cl32 clQ32 (by unfold clR32;constructor)
def clA36:List V:=[.agg [.str ⟨#[114]⟩,.lst 1 true [.str ⟨#[97]⟩,.str ⟨#[98]⟩],.lst 2 true [.agg [.int .i64 1,.lst 3 true [.agg [.int .i64 1,.int .i64 5,.str ⟨#[]⟩],.agg [.int .i64 1,.int .i64 1,.str ⟨#[]⟩]]],.agg [.int .i64 2,.lst 3 true [.agg [.int .i64 1,.int .i64 5,.str ⟨#[]⟩],.agg [.int .i64 1,.int .i64 2,.str ⟨#[]⟩]]],.agg [.int .i64 3,.lst 3 true [.agg [.int .i64 1,.int .i64 6,.str ⟨#[]⟩],.agg [.int .i64 1,.int .i64 1,.str ⟨#[]⟩]]]]],.lst 2 false [.agg [.int .u32 1,.int .u32 2]],.lst 2 false [.agg [.int .i64 1,.int .i64 0],.agg [.int .i64 2,.int .i64 0],.agg [.int .i64 2,.int .i64 1],.agg [.int .i64 3,.int .i64 0],.agg [.int .i64 3,.int .i64 1]]]
def clR36:V:=.bool false
def clP36:AM.Pure clR36:=by simp[clR36]
def clQ36:∀a∈clA36,AM.Pure a:=by simp[clA36]
def cl36:aK prog 77 clA36 fun x=>x=clR36:=aC tok mixed aT xt32_ok (fuel:=1000) (d:=40) υ clP36
def xt36:bC:=ka 77 clA36 clR36 xt32
def xt36_ok:aa prog xt36:=dD xt32_ok cl36 clQ36 (by unfold clR36;constructor)
def clA40:List V:=[.agg [.str ⟨#[114]⟩,.lst 1 true [.str ⟨#[97]⟩,.str ⟨#[98]⟩],.lst 2 true [.agg [.int .i64 1,.lst 3 true [.agg [.int .i64 1,.int .i64 5,.str ⟨#[]⟩],.agg [.int .i64 1,.int .i64 1,.str ⟨#[]⟩]]],.agg [.int .i64 2,.lst 3 true [.agg [.int .i64 1,.int .i64 5,.str ⟨#[]⟩],.agg [.int .i64 1,.int .i64 2,.str ⟨#[]⟩]]],.agg [.int .i64 3,.lst 3 true [.agg [.int .i64 1,.int .i64 6,.str ⟨#[]⟩],.agg [.int .i64 1,.int .i64 1,.str ⟨#[]⟩]]]]],.lst 2 false [.agg [.int .u32 1,.int .u32 2]],.lst 2 false [.agg [.int .i64 1,.int .i64 0],.agg [.int .i64 1,.int .i64 1],.agg [.int .i64 2,.int .i64 1],.agg [.int .i64 3,.int .i64 0],.agg [.int .i64 3,.int .i64 1]]]
def clR40:V:=.bool false
def clP40:AM.Pure clR40:=by simp[clR40]
def clQ40:∀a∈clA40,AM.Pure a:=by simp[clA40]
def cl40:aK prog 77 clA40 fun x=>x=clR40:=aC tok mixed aT xt36_ok (fuel:=1000) (d:=40) υ clP40
def xt40:bC:=ka 77 clA40 clR40 xt36
def xt40_ok:aa prog xt40:=dD xt36_ok cl40 clQ40 (by unfold clR40;constructor)
def clA44:List V:=[.agg [.str ⟨#[114]⟩,.lst 1 true [.str ⟨#[97]⟩,.str ⟨#[98]⟩],.lst 2 true [.agg [.int .i64 1,.lst 3 true [.agg [.int .i64 1,.int .i64 5,.str ⟨#[]⟩],.agg [.int .i64 1,.int .i64 1,.str ⟨#[]⟩]]],.agg [.int .i64 2,.lst 3 true [.agg [.int .i64 1,.int .i64 5,.str ⟨#[]⟩],.agg [.int .i64 1,.int .i64 2,.str ⟨#[]⟩]]],.agg [.int .i64 3,.lst 3 true [.agg [.int .i64 1,.int .i64 6,.str ⟨#[]⟩],.agg [.int .i64 1,.int .i64 1,.str ⟨#[]⟩]]]]],.lst 2 false [.agg [.int .u32 1,.int .u32 2]],.lst 2 false [.agg [.int .i64 1,.int .i64 0],.agg [.int .i64 1,.int .i64 1],.agg [.int .i64 2,.int .i64 0],.agg [.int .i64 3,.int .i64 0],.agg [.int .i64 3,.int .i64 1]]]
def clR44:V:=.bool false
def clP44:AM.Pure clR44:=by simp[clR44]
def clQ44:∀a∈clA44,AM.Pure a:=by simp[clA44]
def cl44:aK prog 77 clA44 fun x=>x=clR44:=aC tok mixed aT xt40_ok (fuel:=1000) (d:=40) υ clP44
def xt44:bC:=ka 77 clA44 clR44 xt40
def xt44_ok:aa prog xt44:=dD xt40_ok cl44 clQ44 (by unfold clR44;constructor)
def clA48:List V:=[.agg [.str ⟨#[114]⟩,.lst 1 true [.str ⟨#[97]⟩,.str ⟨#[98]⟩],.lst 2 true [.agg [.int .i64 1,.lst 3 true [.agg [.int .i64 1,.int .i64 5,.str ⟨#[]⟩],.agg [.int .i64 1,.int .i64 1,.str ⟨#[]⟩]]],.agg [.int .i64 2,.lst 3 true [.agg [.int .i64 1,.int .i64 5,.str ⟨#[]⟩],.agg [.int .i64 1,.int .i64 2,.str ⟨#[]⟩]]],.agg [.int .i64 3,.lst 3 true [.agg [.int .i64 1,.int .i64 6,.str ⟨#[]⟩],.agg [.int .i64 1,.int .i64 1,.str ⟨#[]⟩]]]]],.lst 2 false [.agg [.int .u32 1,.int .u32 2]],.lst 2 false [.agg [.int .i64 1,.int .i64 0],.agg [.int .i64 1,.int .i64 1],.agg [.int .i64 2,.int .i64 0],.agg [.int .i64 2,.int .i64 1],.agg [.int .i64 3,.int .i64 1]]]
def clR48:V:=.bool true
def clP48:AM.Pure clR48:=by simp[clR48]
def clQ48:∀a∈clA48,AM.Pure a:=by simp[clA48]
def cl48:aK prog 77 clA48 fun x=>x=clR48:=aC tok mixed aT xt44_ok (fuel:=1000) (d:=40) υ clP48
def xt48:bC:=ka 77 clA48 clR48 xt44
def xt48_ok:aa prog xt48:=dD xt44_ok cl48 clQ48 (by unfold clR48;constructor)
def clA52:List V:=[.agg [.str ⟨#[114]⟩,.lst 1 true [.str ⟨#[97]⟩,.str ⟨#[98]⟩],.lst 2 true [.agg [.int .i64 1,.lst 3 true [.agg [.int .i64 1,.int .i64 5,.str ⟨#[]⟩],.agg [.int .i64 1,.int .i64 1,.str ⟨#[]⟩]]],.agg [.int .i64 2,.lst 3 true [.agg [.int .i64 1,.int .i64 5,.str ⟨#[]⟩],.agg [.int .i64 1,.int .i64 2,.str ⟨#[]⟩]]],.agg [.int .i64 3,.lst 3 true [.agg [.int .i64 1,.int .i64 6,.str ⟨#[]⟩],.agg [.int .i64 1,.int .i64 1,.str ⟨#[]⟩]]]]],.lst 2 false [.agg [.int .u32 1,.int .u32 2]],.lst 2 false [.agg [.int .i64 1,.int .i64 0],.agg [.int .i64 1,.int .i64 1],.agg [.int .i64 2,.int .i64 0],.agg [.int .i64 2,.int .i64 1]]]
def clR52:V:=.bool true
def clP52:AM.Pure clR52:=by simp[clR52]
def clQ52:∀a∈clA52,AM.Pure a:=by simp[clA52]
def cl52:aK prog 77 clA52 fun x=>x=clR52:=aC tok mixed aT xt48_ok (fuel:=1000) (d:=40) υ clP52
def xt52:bC:=ka 77 clA52 clR52 xt48
def xt52_ok:aa prog xt52:=dD xt48_ok cl52 clQ52 (by unfold clR52;constructor)
def clA53:List V:=[.agg [.str ⟨#[114]⟩,.lst 1 true [.str ⟨#[97]⟩,.str ⟨#[98]⟩],.lst 2 true [.agg [.int .i64 1,.lst 3 true [.agg [.int .i64 1,.int .i64 5,.str ⟨#[]⟩],.agg [.int .i64 1,.int .i64 1,.str ⟨#[]⟩]]],.agg [.int .i64 2,.lst 3 true [.agg [.int .i64 1,.int .i64 5,.str ⟨#[]⟩],.agg [.int .i64 1,.int .i64 2,.str ⟨#[]⟩]]],.agg [.int .i64 3,.lst 3 true [.agg [.int .i64 1,.int .i64 6,.str ⟨#[]⟩],.agg [.int .i64 1,.int .i64 1,.str ⟨#[]⟩]]]]],.lst 2 false [.agg [.int .u32 1,.int .u32 2]],.lst 2 false [.agg [.int .i64 2,.int .i64 1]]]
def clR53:V:=.int .i64 0
def clP53:AM.Pure clR53:=by simp[clR53]
def clQ53:∀a∈clA53,AM.Pure a:=by simp[clA53]
def cl53:aK prog 34 clA53 fun x=>x=clR53:=aC tok mixed aT xt52_ok (fuel:=1000) (d:=40) υ clP53
def xt53:bC:=ka 34 clA53 clR53 xt52
def xt53_ok:aa prog xt53:=dD xt52_ok cl53 clQ53 (by unfold clR53;constructor)
def clA54:List V:=[.agg [.str ⟨#[114]⟩,.lst 1 true [.str ⟨#[97]⟩,.str ⟨#[98]⟩],.lst 2 true [.agg [.int .i64 1,.lst 3 true [.agg [.int .i64 1,.int .i64 5,.str ⟨#[]⟩],.agg [.int .i64 1,.int .i64 1,.str ⟨#[]⟩]]],.agg [.int .i64 2,.lst 3 true [.agg [.int .i64 1,.int .i64 5,.str ⟨#[]⟩],.agg [.int .i64 1,.int .i64 2,.str ⟨#[]⟩]]],.agg [.int .i64 3,.lst 3 true [.agg [.int .i64 1,.int .i64 6,.str ⟨#[]⟩],.agg [.int .i64 1,.int .i64 1,.str ⟨#[]⟩]]]]],.lst 2 false [.agg [.int .u32 1,.int .u32 2]],.lst 2 false [.agg [.int .i64 2,.int .i64 1]]]
def clR54:V:=.tup [.agg [.str ⟨#[114]⟩,.lst 1 false [.str ⟨#[97]⟩,.str ⟨#[98]⟩],.lst 2 false [.agg [.int .i64 1,.lst 3 false [.agg [.int .i64 1,.int .i64 5,.str ⟨#[]⟩],.agg [.int .i64 1,.int .i64 1,.str ⟨#[]⟩]]],.agg [.int .i64 2,.lst 3 false [.agg [.int .i64 1,.int .i64 5,.str ⟨#[]⟩],.agg [.int .i64 1,.int .i64 1,.str ⟨#[]⟩]]],.agg [.int .i64 3,.lst 3 false [.agg [.int .i64 1,.int .i64 6,.str ⟨#[]⟩],.agg [.int .i64 1,.int .i64 1,.str ⟨#[]⟩]]]]],.int .i64 0]
def clP54:AM.Pure clR54:=by simp[clR54]
def clQ54:∀a∈clA54,AM.Pure a:=by simp[clA54]
def cl54:aK prog 37 clA54 fun x=>x=clR54:=aC tok mixed aT xt53_ok (fuel:=1000) (d:=40) υ clP54
def xt54:bC:=sZ 37 clA54 clR54 xt53
def xt54_ok:aa prog xt54:=fj xt53_ok cl54 clQ54
def clA55:List V:=[.agg [.str ⟨#[114]⟩,.lst 1 true [.str ⟨#[97]⟩,.str ⟨#[98]⟩],.lst 2 true [.agg [.int .i64 1,.lst 3 true [.agg [.int .i64 1,.int .i64 5,.str ⟨#[]⟩],.agg [.int .i64 1,.int .i64 1,.str ⟨#[]⟩]]],.agg [.int .i64 2,.lst 3 true [.agg [.int .i64 1,.int .i64 5,.str ⟨#[]⟩],.agg [.int .i64 1,.int .i64 2,.str ⟨#[]⟩]]],.agg [.int .i64 3,.lst 3 true [.agg [.int .i64 1,.int .i64 6,.str ⟨#[]⟩],.agg [.int .i64 1,.int .i64 1,.str ⟨#[]⟩]]]]],.lst 2 false [.agg [.int .u32 1,.int .u32 2]],.int .i64 20000]
def clR55:V:=.tup [.agg [.lst 2 false [.agg [.int .i64 2,.int .i64 1]],.str ⟨#[114]⟩,.lst 1 false [.str ⟨#[97]⟩,.str ⟨#[98]⟩],.lst 2 false [.agg [.int .i64 1,.lst 3 false [.agg [.int .i64 1,.int .i64 5,.str ⟨#[]⟩],.agg [.int .i64 1,.int .i64 1,.str ⟨#[]⟩]]],.agg [.int .i64 2,.lst 3 false [.agg [.int .i64 1,.int .i64 5,.str ⟨#[]⟩],.agg [.int .i64 1,.int .i64 1,.str ⟨#[]⟩]]],.agg [.int .i64 3,.lst 3 false [.agg [.int .i64 1,.int .i64 6,.str ⟨#[]⟩],.agg [.int .i64 1,.int .i64 1,.str ⟨#[]⟩]]]],.lst 1 false [.lst 2 false [.agg [.int .i64 1,.int .i64 0],.agg [.int .i64 1,.int .i64 1],.agg [.int .i64 2,.int .i64 0],.agg [.int .i64 2,.int .i64 1]]],.lst 2 true [.agg [.int .i64 (-1),.lst 2 false [.agg [.int .i64 0,.int .i64 1]]]]],.int .i64 0]
def clP55:AM.Pure clR55:=by simp[clR55]
def clQ55:∀a∈clA55,AM.Pure a:=by simp[clA55]
def cl55:aK prog 15 clA55 fun x=>x=clR55:=aC tok mixed aT xt54_ok (fuel:=1000) (d:=40) υ clP55
def xt55:bC:=sZ 15 clA55 clR55 xt54
def xt55_ok:aa prog xt55:=fj xt54_ok cl55 clQ55
def awake_con:aK prog 5 [] fun x=>x = .bool true:=aC tok mixed aT xt55_ok (fuel:=1000) (d:=40) υ (.bool _)
end
end Go.Proofs.YtnaokiodhoadjaaGreatDoor
