/- JM44: own texts of this seat, joined and shortened by pack4.py: C4c. -/
import Derived.Test.YtdnhplencamncaaGreatDoorJM42
set_option linter.unusedVariables false
set_option linter.unusedSimpArgs false
set_option maxRecDepth 100000
set_option maxHeartbeats 64000000
namespace Go.Proofs.YtdnhplencamncaaGreatDoor
section
open Go Go.AM
def clA51:List V:=[.agg [.str ⟨#[114]⟩,.lst 1 true [.str ⟨#[97]⟩,.str ⟨#[98]⟩],.lst 2 true [.agg [.int .i64 1,.lst 3 true [.agg [.int .i64 1,.int .i64 5,.str ⟨#[]⟩],.agg [.int .i64 1,.int .i64 1,.str ⟨#[]⟩]]],.agg [.int .i64 2,.lst 3 true [.agg [.int .i64 1,.int .i64 5,.str ⟨#[]⟩],.agg [.int .i64 1,.int .i64 2,.str ⟨#[]⟩]]],.agg [.int .i64 3,.lst 3 true [.agg [.int .i64 1,.int .i64 6,.str ⟨#[]⟩],.agg [.int .i64 1,.int .i64 1,.str ⟨#[]⟩]]]]],.lst 2 false [.agg [.int .u32 1,.int .u32 2]],.lst 2 false [.agg [.int .i64 3,.int .i64 0],.agg [.int .i64 3,.int .i64 1]]]
def clR51:V:=.bool false
theorem clP51:AM.Pure clR51:=by simp[clR51]
theorem clQ51:∀a∈clA51,AM.Pure a:=by simp[clA51]
theorem cl51:aJ Tryz.prog 82 clA51 fun x=>x=clR51:=aH tok mixed af ai (fuel:=1000) (d:=40) (by kernel_rfl) clP51
def clA30:List V:=[.agg [.str ⟨#[114]⟩,.lst 1 true [.str ⟨#[97]⟩,.str ⟨#[98]⟩],.lst 2 true [.agg [.int .i64 1,.lst 3 true [.agg [.int .i64 1,.int .i64 5,.str ⟨#[]⟩],.agg [.int .i64 1,.int .i64 1,.str ⟨#[]⟩]]],.agg [.int .i64 2,.lst 3 true [.agg [.int .i64 1,.int .i64 5,.str ⟨#[]⟩],.agg [.int .i64 1,.int .i64 2,.str ⟨#[]⟩]]],.agg [.int .i64 3,.lst 3 true [.agg [.int .i64 1,.int .i64 6,.str ⟨#[]⟩],.agg [.int .i64 1,.int .i64 1,.str ⟨#[]⟩]]]]],.lst 2 false [.agg [.int .i64 1,.int .i64 1],.agg [.int .i64 2,.int .i64 0],.agg [.int .i64 2,.int .i64 1],.agg [.int .i64 3,.int .i64 0],.agg [.int .i64 3,.int .i64 1]]]
def clR30:V:=.lst 2 false [.agg [.int .i64 1,.int .i64 0]]
theorem clP30:AM.Pure clR30:=by simp[clR30]
theorem clQ30:∀a∈clA30,AM.Pure a:=by simp[clA30]
theorem cl30:aJ Tryz.prog 85 clA30 fun x=>x=clR30:=aH tok mixed af ai (fuel:=1000) (d:=40) (by kernel_rfl) clP30
def clA42:List V:=[.agg [.str ⟨#[114]⟩,.lst 1 true [.str ⟨#[97]⟩,.str ⟨#[98]⟩],.lst 2 true [.agg [.int .i64 1,.lst 3 true [.agg [.int .i64 1,.int .i64 5,.str ⟨#[]⟩],.agg [.int .i64 1,.int .i64 1,.str ⟨#[]⟩]]],.agg [.int .i64 2,.lst 3 true [.agg [.int .i64 1,.int .i64 5,.str ⟨#[]⟩],.agg [.int .i64 1,.int .i64 2,.str ⟨#[]⟩]]],.agg [.int .i64 3,.lst 3 true [.agg [.int .i64 1,.int .i64 6,.str ⟨#[]⟩],.agg [.int .i64 1,.int .i64 1,.str ⟨#[]⟩]]]]],.lst 2 false [.agg [.int .i64 1,.int .i64 0],.agg [.int .i64 1,.int .i64 1],.agg [.int .i64 2,.int .i64 0],.agg [.int .i64 3,.int .i64 0],.agg [.int .i64 3,.int .i64 1]]]
def clR42:V:=.lst 2 false [.agg [.int .i64 2,.int .i64 1]]
theorem clP42:AM.Pure clR42:=by simp[clR42]
theorem clQ42:∀a∈clA42,AM.Pure a:=by simp[clA42]
theorem cl42:aJ Tryz.prog 85 clA42 fun x=>x=clR42:=aH tok mixed af ai (fuel:=1000) (d:=40) (by kernel_rfl) clP42
def clA50:List V:=[.agg [.str ⟨#[114]⟩,.lst 1 true [.str ⟨#[97]⟩,.str ⟨#[98]⟩],.lst 2 true [.agg [.int .i64 1,.lst 3 true [.agg [.int .i64 1,.int .i64 5,.str ⟨#[]⟩],.agg [.int .i64 1,.int .i64 1,.str ⟨#[]⟩]]],.agg [.int .i64 2,.lst 3 true [.agg [.int .i64 1,.int .i64 5,.str ⟨#[]⟩],.agg [.int .i64 1,.int .i64 2,.str ⟨#[]⟩]]],.agg [.int .i64 3,.lst 3 true [.agg [.int .i64 1,.int .i64 6,.str ⟨#[]⟩],.agg [.int .i64 1,.int .i64 1,.str ⟨#[]⟩]]]]],.lst 2 false [.agg [.int .i64 1,.int .i64 0],.agg [.int .i64 1,.int .i64 1],.agg [.int .i64 2,.int .i64 0],.agg [.int .i64 2,.int .i64 1]]]
def clR50:V:=.lst 2 false [.agg [.int .i64 3,.int .i64 0],.agg [.int .i64 3,.int .i64 1]]
theorem clP50:AM.Pure clR50:=by simp[clR50]
theorem clQ50:∀a∈clA50,AM.Pure a:=by simp[clA50]
theorem cl50:aJ Tryz.prog 85 clA50 fun x=>x=clR50:=aH tok mixed af ai (fuel:=1000) (d:=40) (by kernel_rfl) clP50
def clA9:List V:=[.int .i64 2,.agg [.int .i64 2,.lst 11 false [.agg [.int .i64 1,.int .i64 0,.int .i64 0,.int .i64 0,.str ⟨#[]⟩,.int .i64 1,.int .i64 2,.int .i64 0,.int .i64 0,.int .i64 0,.str ⟨#[]⟩],.agg [.int .i64 1,.int .i64 1,.int .i64 0,.int .i64 0,.str ⟨#[]⟩,.int .i64 2,.int .i64 2,.int .i64 1,.int .i64 0,.int .i64 0,.str ⟨#[]⟩]]]]
def clR9:V:=.bool true
theorem clP9:AM.Pure clR9:=by simp[clR9]
theorem clQ9:∀a∈clA9,AM.Pure a:=by simp[clA9]
theorem cl9:aJ Tryz.prog 251 clA9 fun x=>x=clR9:=aH tok mixed af ai (fuel:=1000) (d:=40) (by kernel_rfl) clP9
def clA29:List V:=[.lst 1 true [.lst 2 false [],.lst 2 false [.agg [.int .i64 1,.int .i64 1],.agg [.int .i64 2,.int .i64 0],.agg [.int .i64 2,.int .i64 1],.agg [.int .i64 3,.int .i64 0],.agg [.int .i64 3,.int .i64 1]]]]
def clR29:V:=.lst 2 false [.agg [.int .i64 1,.int .i64 1],.agg [.int .i64 2,.int .i64 0],.agg [.int .i64 2,.int .i64 1],.agg [.int .i64 3,.int .i64 0],.agg [.int .i64 3,.int .i64 1]]
theorem clP29:AM.Pure clR29:=by simp[clR29]
theorem clQ29:∀a∈clA29,AM.Pure a:=by simp[clA29]
theorem cl29:aJ Tryz.prog 147 clA29 fun x=>x=clR29:=aH tok mixed af ai (fuel:=1000) (d:=40) (by kernel_rfl) clP29
def clA33:List V:=[.lst 1 true [.lst 2 false [.agg [.int .i64 1,.int .i64 0]],.lst 2 false [.agg [.int .i64 2,.int .i64 0],.agg [.int .i64 2,.int .i64 1],.agg [.int .i64 3,.int .i64 0],.agg [.int .i64 3,.int .i64 1]]]]
def clR33:V:=.lst 2 false [.agg [.int .i64 1,.int .i64 0],.agg [.int .i64 2,.int .i64 0],.agg [.int .i64 2,.int .i64 1],.agg [.int .i64 3,.int .i64 0],.agg [.int .i64 3,.int .i64 1]]
theorem clP33:AM.Pure clR33:=by simp[clR33]
theorem clQ33:∀a∈clA33,AM.Pure a:=by simp[clA33]
theorem cl33:aJ Tryz.prog 147 clA33 fun x=>x=clR33:=aH tok mixed af ai (fuel:=1000) (d:=40) (by kernel_rfl) clP33
def clA41:List V:=[.lst 1 true [.lst 2 false [.agg [.int .i64 1,.int .i64 0],.agg [.int .i64 1,.int .i64 1],.agg [.int .i64 2,.int .i64 0]],.lst 2 false [.agg [.int .i64 3,.int .i64 0],.agg [.int .i64 3,.int .i64 1]]]]
def clR41:V:=.lst 2 false [.agg [.int .i64 1,.int .i64 0],.agg [.int .i64 1,.int .i64 1],.agg [.int .i64 2,.int .i64 0],.agg [.int .i64 3,.int .i64 0],.agg [.int .i64 3,.int .i64 1]]
theorem clP41:AM.Pure clR41:=by simp[clR41]
theorem clQ41:∀a∈clA41,AM.Pure a:=by simp[clA41]
theorem cl41:aJ Tryz.prog 147 clA41 fun x=>x=clR41:=aH tok mixed af ai (fuel:=1000) (d:=40) (by kernel_rfl) clP41
def clA49:List V:=[.lst 1 true [.lst 2 false [.agg [.int .i64 1,.int .i64 0],.agg [.int .i64 1,.int .i64 1],.agg [.int .i64 2,.int .i64 0],.agg [.int .i64 2,.int .i64 1]],.lst 2 false []]]
def clR49:V:=.lst 2 false [.agg [.int .i64 1,.int .i64 0],.agg [.int .i64 1,.int .i64 1],.agg [.int .i64 2,.int .i64 0],.agg [.int .i64 2,.int .i64 1]]
theorem clP49:AM.Pure clR49:=by simp[clR49]
theorem clQ49:∀a∈clA49,AM.Pure a:=by simp[clA49]
theorem cl49:aJ Tryz.prog 147 clA49 fun x=>x=clR49:=aH tok mixed af ai (fuel:=1000) (d:=40) (by kernel_rfl) clP49
def clA1:List V:=[.str ⟨#[97]⟩]
def clR1:V:=.bool true
theorem clP1:AM.Pure clR1:=by simp[clR1]
theorem clQ1:∀a∈clA1,AM.Pure a:=by simp[clA1]
theorem cl1:aJ Tryz.prog 70 clA1 fun x=>x=clR1:=aH tok mixed af ai (fuel:=1000) (d:=40) (by kernel_rfl) clP1
def clA6:List V:=[.int .i64 2,.lst 2 true [.agg [.int .u32 1,.int .u32 2]]]
def clR6:V:=.int .i64 0
theorem clP6:AM.Pure clR6:=by simp[clR6]
theorem clQ6:∀a∈clA6,AM.Pure a:=by simp[clA6]
theorem cl6:aJ Tryz.prog 145 clA6 fun x=>x=clR6:=aH tok mixed af ai (fuel:=1000) (d:=40) (by kernel_rfl) clP6
def clA23:List V:=[.agg [.nilS,.nilS]]
def clR23:V:=.int .i64 0
theorem clP23:AM.Pure clR23:=by simp[clR23]
theorem clQ23:∀a∈clA23,AM.Pure a:=by simp[clA23]
theorem cl23:aJ Tryz.prog 139 clA23 fun x=>x=clR23:=aH tok mixed af ai (fuel:=1000) (d:=40) (by kernel_rfl) clP23
end
end Go.Proofs.YtdnhplencamncaaGreatDoor
