/- JG40: own texts of this seat, joined and shortened by pack4.py: C4. -/
import Derived.Test.YtdhgchekdkjcpaaGreatDoorJG13
set_option linter.unusedVariables false
set_option linter.unusedSimpArgs false
set_option maxRecDepth 100000
set_option maxHeartbeats 64000000
open Nat renaming beq→lO
namespace Go.Proofs.YtdhgchekdkjcpaaGreatDoor
section
open Go Go.AM
def xt0:dK:=fun f args H=>if lO f 17 then(if eqL (eqV 40) args clA0 then some (clR0,H) else extK f args H) else extK f args H
theorem xt0_ok:cH Tryz.prog xt0:=bY dl cl0 clQ0
def xt1:dK:=fun f args H=>if lO f 7 then(if eqL (eqV 40) args clA1 then some (clR1,H) else xt0 f args H) else xt0 f args H
theorem xt1_ok:cH Tryz.prog xt1:=bY xt0_ok cl1 clQ1
def xt2:dK:=fun f args H=>if lO f 131 then(if eqL (eqV 40) args clA2 then some (clR2,H) else xt1 f args H) else xt1 f args H
theorem xt2_ok:cH Tryz.prog xt2:=bY xt1_ok cl2 clQ2
def xt4:dK:=fun f args H=>if lO f 134 then(if eqL (eqV 40) args clA4 then some (clR4,H) else xt2 f args H) else xt2 f args H
theorem xt4_ok:cH Tryz.prog xt4:=bY xt2_ok cl4 clQ4
def xt8:dK:=fun f args H=>if lO f 7 then(if eqL (eqV 40) args clA8 then some (clR8,H) else xt4 f args H) else xt4 f args H
theorem xt8_ok:cH Tryz.prog xt8:=bY xt4_ok cl8 clQ8
def xt11:dK:=fun f args H=>if lO f 7 then(if eqL (eqV 40) args clA11 then some (clR11,H) else xt8 f args H) else xt8 f args H
theorem xt11_ok:cH Tryz.prog xt11:=bY xt8_ok cl11 clQ11
def xt12:dK:=fun f args H=>if lO f 146 then(if eqL (eqV 40) args clA12 then some (clR12,H) else xt11 f args H) else xt11 f args H
theorem xt12_ok:cH Tryz.prog xt12:=bY xt11_ok cl12 clQ12
def clA3:List V:=[.agg [.str ⟨#[114]⟩,.lst 1 false [.str ⟨#[97]⟩,.str ⟨#[98]⟩],.lst 2 false [.agg [.int .i64 1,.lst 3 false [.agg [.int .i64 1,.int .i64 1,.str ⟨#[]⟩],.agg [.int .i64 1,.int .i64 1,.str ⟨#[]⟩]]],.agg [.int .i64 2,.lst 3 false [.agg [.int .i64 1,.int .i64 1,.str ⟨#[]⟩],.agg [.int .i64 1,.int .i64 2,.str ⟨#[]⟩]]]]],.lst 18 true [.agg [.str ⟨#[102]⟩,.str ⟨#[114]⟩,.int .i64 1,.int .u32 1,.int .u32 2,.int .u32 0,.int .u32 0,.str ⟨#[]⟩,.nilS,.str ⟨#[]⟩,.nilS,.nilS,.int .i64 0,.nilS,.nilS,.nilS,.int .i64 0,.nilS]],.nilS]
def clR3:V:=.tup [.agg [.lst 1 false [.int .i64 1,.int .i64 1],.lst 1 false [.lst 1 false [.int .i64 0,.int .i64 1]]],.int .i64 0]
theorem clP3:AM.Pure clR3:=by simp[clR3]
theorem clQ3:∀a∈clA3,AM.Pure a:=by simp[clA3]
theorem cl3:ab Tryz.prog 84 clA3 fun x=>x=clR3:=aR tok mixed bZ xt12_ok (fuel:=1000) (d:=40) (by kernel_rfl) clP3
def xt3:dK:=fun f args H=>if lO f 84 then(if eqL (eqV 40) args clA3 then some (clR3,H) else xt12 f args H) else xt12 f args H
theorem xt3_ok:cH Tryz.prog xt3:=bY xt12_ok cl3 clQ3
def clA5:List V:=[.agg [.lst 1 false [.int .i64 1,.int .i64 1],.lst 1 false [.lst 1 false [.int .i64 0,.int .i64 1]]],.int .i64 1,.lst 2 false [.agg [.int .i64 (-1),.lst 2 false [.agg [.int .i64 0,.int .i64 1]]]]]
def clR5:V:=.bool true
theorem clP5:AM.Pure clR5:=by simp[clR5]
theorem clQ5:∀a∈clA5,AM.Pure a:=by simp[clA5]
theorem cl5:ab Tryz.prog 88 clA5 fun x=>x=clR5:=aR tok mixed bZ xt3_ok (fuel:=1000) (d:=40) (by kernel_rfl) clP5
def xt5:dK:=fun f args H=>if lO f 88 then(if eqL (eqV 40) args clA5 then some (clR5,H) else xt3 f args H) else xt3 f args H
theorem xt5_ok:cH Tryz.prog xt5:=bY xt3_ok cl5 clQ5
def clA6:List V:=[.agg [.str ⟨#[114]⟩,.lst 1 false [.str ⟨#[97]⟩,.str ⟨#[98]⟩],.lst 2 false [.agg [.int .i64 1,.lst 3 false [.agg [.int .i64 1,.int .i64 1,.str ⟨#[]⟩],.agg [.int .i64 1,.int .i64 1,.str ⟨#[]⟩]]],.agg [.int .i64 2,.lst 3 false [.agg [.int .i64 1,.int .i64 1,.str ⟨#[]⟩],.agg [.int .i64 1,.int .i64 2,.str ⟨#[]⟩]]]]],.lst 18 true [.agg [.str ⟨#[102]⟩,.str ⟨#[114]⟩,.int .i64 1,.int .u32 1,.int .u32 2,.int .u32 0,.int .u32 0,.str ⟨#[]⟩,.nilS,.str ⟨#[]⟩,.nilS,.nilS,.int .i64 0,.nilS,.nilS,.nilS,.int .i64 0,.nilS]],.nilS,.agg [.lst 1 false [.int .i64 2],.int .i64 1,.lst 2 false [.agg [.int .i64 (-1),.lst 2 false [.agg [.int .i64 0,.int .i64 1]]]]]]
def clR6:V:=.bool true
theorem clP6:AM.Pure clR6:=by simp[clR6]
theorem clQ6:∀a∈clA6,AM.Pure a:=by simp[clA6]
theorem cl6:ab Tryz.prog 65 clA6 fun x=>x=clR6:=aR tok mixed bZ xt5_ok (fuel:=1000) (d:=40) (by kernel_rfl) clP6
def xt6:dK:=fun f args H=>if lO f 65 then(if eqL (eqV 40) args clA6 then some (clR6,H) else xt5 f args H) else xt5 f args H
theorem xt6_ok:cH Tryz.prog xt6:=bY xt5_ok cl6 clQ6
def clA7:List V:=[.agg [.str ⟨#[114]⟩,.lst 1 false [.str ⟨#[97]⟩,.str ⟨#[98]⟩],.lst 2 false [.agg [.int .i64 1,.lst 3 false [.agg [.int .i64 1,.int .i64 1,.str ⟨#[]⟩],.agg [.int .i64 1,.int .i64 1,.str ⟨#[]⟩]]],.agg [.int .i64 2,.lst 3 false [.agg [.int .i64 1,.int .i64 1,.str ⟨#[]⟩],.agg [.int .i64 1,.int .i64 2,.str ⟨#[]⟩]]]]],.lst 18 true [.agg [.str ⟨#[102]⟩,.str ⟨#[114]⟩,.int .i64 1,.int .u32 1,.int .u32 2,.int .u32 0,.int .u32 0,.str ⟨#[]⟩,.nilS,.str ⟨#[]⟩,.nilS,.nilS,.int .i64 0,.nilS,.nilS,.nilS,.int .i64 0,.nilS]],.nilS,.str ⟨#[100,101,108,101,116,101,115,32,49,10,114,111,119,32,50,10,108,101,97,102,32,48,32,49,10,101,110,100,10]⟩]
def clR7:V:=.tup [.bool true,.int .i64 0]
theorem clP7:AM.Pure clR7:=by simp[clR7]
theorem clQ7:∀a∈clA7,AM.Pure a:=by simp[clA7]
theorem cl7:ab Tryz.prog 18 clA7 fun x=>x=clR7:=aR tok mixed bZ xt6_ok (fuel:=1000) (d:=40) (by kernel_rfl) clP7
def xt7:dK:=fun f args H=>if lO f 18 then(if eqL (eqV 40) args clA7 then some (clR7,H) else xt6 f args H) else xt6 f args H
theorem xt7_ok:cH Tryz.prog xt7:=bY xt6_ok cl7 clQ7
def clA9:List V:=[.agg [.str ⟨#[114]⟩,.lst 1 false [.str ⟨#[97]⟩,.str ⟨#[98]⟩],.lst 2 false [.agg [.int .i64 1,.lst 3 false [.agg [.int .i64 1,.int .i64 1,.str ⟨#[]⟩],.agg [.int .i64 1,.int .i64 1,.str ⟨#[]⟩]]],.agg [.int .i64 2,.lst 3 false [.agg [.int .i64 1,.int .i64 1,.str ⟨#[]⟩],.agg [.int .i64 1,.int .i64 2,.str ⟨#[]⟩]]]]],.lst 18 true [.agg [.str ⟨#[102]⟩,.str ⟨#[114]⟩,.int .i64 1,.int .u32 1,.int .u32 2,.int .u32 0,.int .u32 0,.str ⟨#[]⟩,.nilS,.str ⟨#[]⟩,.nilS,.nilS,.int .i64 0,.nilS,.nilS,.nilS,.int .i64 0,.nilS]],.nilS,.agg [.lst 1 false [.int .i64 1,.int .i64 2],.int .i64 1,.lst 2 false [.agg [.int .i64 (-1),.lst 2 false [.agg [.int .i64 0,.int .i64 1]]]]]]
def clR9:V:=.bool false
theorem clP9:AM.Pure clR9:=by simp[clR9]
theorem clQ9:∀a∈clA9,AM.Pure a:=by simp[clA9]
theorem cl9:ab Tryz.prog 65 clA9 fun x=>x=clR9:=aR tok mixed bZ xt7_ok (fuel:=1000) (d:=40) (by kernel_rfl) clP9
def xt9:dK:=fun f args H=>if lO f 65 then(if eqL (eqV 40) args clA9 then some (clR9,H) else xt7 f args H) else xt7 f args H
theorem xt9_ok:cH Tryz.prog xt9:=bY xt7_ok cl9 clQ9
def clA10:List V:=[.agg [.str ⟨#[114]⟩,.lst 1 false [.str ⟨#[97]⟩,.str ⟨#[98]⟩],.lst 2 false [.agg [.int .i64 1,.lst 3 false [.agg [.int .i64 1,.int .i64 1,.str ⟨#[]⟩],.agg [.int .i64 1,.int .i64 1,.str ⟨#[]⟩]]],.agg [.int .i64 2,.lst 3 false [.agg [.int .i64 1,.int .i64 1,.str ⟨#[]⟩],.agg [.int .i64 1,.int .i64 2,.str ⟨#[]⟩]]]]],.lst 18 true [.agg [.str ⟨#[102]⟩,.str ⟨#[114]⟩,.int .i64 1,.int .u32 1,.int .u32 2,.int .u32 0,.int .u32 0,.str ⟨#[]⟩,.nilS,.str ⟨#[]⟩,.nilS,.nilS,.int .i64 0,.nilS,.nilS,.nilS,.int .i64 0,.nilS]],.nilS,.str ⟨#[100,101,108,101,116,101,115,32,49,10,114,111,119,32,49,10,114,111,119,32,50,10,108,101,97,102,32,48,32,49,10,101,110,100,10]⟩]
def clR10:V:=.tup [.bool false,.int .i64 0]
theorem clP10:AM.Pure clR10:=by simp[clR10]
theorem clQ10:∀a∈clA10,AM.Pure a:=by simp[clA10]
theorem cl10:ab Tryz.prog 18 clA10 fun x=>x=clR10:=aR tok mixed bZ xt9_ok (fuel:=1000) (d:=40) (by kernel_rfl) clP10
def xt10:dK:=fun f args H=>if lO f 18 then(if eqL (eqV 40) args clA10 then some (clR10,H) else xt9 f args H) else xt9 f args H
theorem xt10_ok:cH Tryz.prog xt10:=bY xt9_ok cl10 clQ10
def clA13:List V:=[.agg [.str ⟨#[114]⟩,.lst 1 false [.str ⟨#[97]⟩,.str ⟨#[98]⟩],.lst 2 false [.agg [.int .i64 1,.lst 3 false [.agg [.int .i64 1,.int .i64 1,.str ⟨#[]⟩],.agg [.int .i64 1,.int .i64 1,.str ⟨#[]⟩]]],.agg [.int .i64 2,.lst 3 false [.agg [.int .i64 1,.int .i64 1,.str ⟨#[]⟩],.agg [.int .i64 1,.int .i64 2,.str ⟨#[]⟩]]]]],.lst 1 false [.int .u32 2],.lst 3 false [.agg [.int .u32 1,.int .i64 1,.int .i64 2]]]
def clR13:V:=.bool true
theorem clP13:AM.Pure clR13:=by simp[clR13]
theorem clQ13:∀a∈clA13,AM.Pure a:=by simp[clA13]
theorem cl13:ab Tryz.prog 66 clA13 fun x=>x=clR13:=aR tok mixed bZ xt10_ok (fuel:=1000) (d:=40) (by kernel_rfl) clP13
def xt13:dK:=fun f args H=>if lO f 66 then(if eqL (eqV 40) args clA13 then some (clR13,H) else xt10 f args H) else xt10 f args H
theorem xt13_ok:cH Tryz.prog xt13:=bY xt10_ok cl13 clQ13
def clA14:List V:=[.agg [.str ⟨#[114]⟩,.lst 1 false [.str ⟨#[97]⟩,.str ⟨#[98]⟩],.lst 2 false [.agg [.int .i64 1,.lst 3 false [.agg [.int .i64 1,.int .i64 1,.str ⟨#[]⟩],.agg [.int .i64 1,.int .i64 1,.str ⟨#[]⟩]]],.agg [.int .i64 2,.lst 3 false [.agg [.int .i64 1,.int .i64 1,.str ⟨#[]⟩],.agg [.int .i64 1,.int .i64 2,.str ⟨#[]⟩]]]]],.lst 18 true [.agg [.str ⟨#[102]⟩,.str ⟨#[114]⟩,.int .i64 1,.int .u32 1,.int .u32 2,.int .u32 0,.int .u32 0,.str ⟨#[]⟩,.nilS,.str ⟨#[]⟩,.nilS,.nilS,.int .i64 0,.nilS,.nilS,.nilS,.int .i64 0,.nilS]],.nilS,.str ⟨#[107,101,121,115,10,115,101,116,32,50,10,112,97,105,114,32,49,32,49,32,50,10,101,110,100,10]⟩]
def clR14:V:=.tup [.bool true,.int .i64 0]
theorem clP14:AM.Pure clR14:=by simp[clR14]
theorem clQ14:∀a∈clA14,AM.Pure a:=by simp[clA14]
theorem cl14:ab Tryz.prog 18 clA14 fun x=>x=clR14:=aR tok mixed bZ xt13_ok (fuel:=1000) (d:=40) (by kernel_rfl) clP14
def xt14:dK:=fun f args H=>if lO f 18 then(if eqL (eqV 40) args clA14 then some (clR14,H) else xt13 f args H) else xt13 f args H
theorem xt14_ok:cH Tryz.prog xt14:=bY xt13_ok cl14 clQ14
theorem bi:ab Tryz.prog 6 [] fun x=>x = .bool true:=aR tok mixed bZ xt14_ok (fuel:=1000) (d:=40) (by kernel_rfl) (.bool _)
end
end Go.Proofs.YtdhgchekdkjcpaaGreatDoor
