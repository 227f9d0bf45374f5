/- JM43: own texts of this seat, joined and shortened by pack4.py: C4b. -/
import Derived.Test.YtdnhplencamncaaGreatDoorJM42
set_option linter.unusedVariables false
set_option linter.unusedSimpArgs false
set_option maxRecDepth 100000
set_option maxHeartbeats 64000000
namespace Go.Proofs.YtdnhplencamncaaGreatDoor
section
open Go Go.AM
def clA35:List V:=[.agg [.str ⟨#[114]⟩,.lst 1 true [.str ⟨#[97]⟩,.str ⟨#[98]⟩],.lst 2 true [.agg [.int .i64 1,.lst 3 true [.agg [.int .i64 1,.int .i64 5,.str ⟨#[]⟩],.agg [.int .i64 1,.int .i64 1,.str ⟨#[]⟩]]],.agg [.int .i64 2,.lst 3 true [.agg [.int .i64 1,.int .i64 5,.str ⟨#[]⟩],.agg [.int .i64 1,.int .i64 2,.str ⟨#[]⟩]]],.agg [.int .i64 3,.lst 3 true [.agg [.int .i64 1,.int .i64 6,.str ⟨#[]⟩],.agg [.int .i64 1,.int .i64 1,.str ⟨#[]⟩]]]]],.lst 2 false [.agg [.int .u32 1,.int .u32 2]],.lst 2 false [.agg [.int .i64 1,.int .i64 1]]]
def clR35:V:=.bool true
theorem clP35:AM.Pure clR35:=by simp[clR35]
theorem clQ35:∀a∈clA35,AM.Pure a:=by simp[clA35]
theorem cl35:aJ Tryz.prog 82 clA35 fun x=>x=clR35:=aH tok mixed af ai (fuel:=1000) (d:=40) (by kernel_rfl) clP35
def clA34:List V:=[.agg [.str ⟨#[114]⟩,.lst 1 true [.str ⟨#[97]⟩,.str ⟨#[98]⟩],.lst 2 true [.agg [.int .i64 1,.lst 3 true [.agg [.int .i64 1,.int .i64 5,.str ⟨#[]⟩],.agg [.int .i64 1,.int .i64 1,.str ⟨#[]⟩]]],.agg [.int .i64 2,.lst 3 true [.agg [.int .i64 1,.int .i64 5,.str ⟨#[]⟩],.agg [.int .i64 1,.int .i64 2,.str ⟨#[]⟩]]],.agg [.int .i64 3,.lst 3 true [.agg [.int .i64 1,.int .i64 6,.str ⟨#[]⟩],.agg [.int .i64 1,.int .i64 1,.str ⟨#[]⟩]]]]],.lst 2 false [.agg [.int .i64 1,.int .i64 0],.agg [.int .i64 2,.int .i64 0],.agg [.int .i64 2,.int .i64 1],.agg [.int .i64 3,.int .i64 0],.agg [.int .i64 3,.int .i64 1]]]
def clR34:V:=.lst 2 false [.agg [.int .i64 1,.int .i64 1]]
theorem clP34:AM.Pure clR34:=by simp[clR34]
theorem clQ34:∀a∈clA34,AM.Pure a:=by simp[clA34]
theorem cl34:aJ Tryz.prog 85 clA34 fun x=>x=clR34:=aH tok mixed af ai (fuel:=1000) (d:=40) (by kernel_rfl) clP34
def clA38:List V:=[.agg [.str ⟨#[114]⟩,.lst 1 true [.str ⟨#[97]⟩,.str ⟨#[98]⟩],.lst 2 true [.agg [.int .i64 1,.lst 3 true [.agg [.int .i64 1,.int .i64 5,.str ⟨#[]⟩],.agg [.int .i64 1,.int .i64 1,.str ⟨#[]⟩]]],.agg [.int .i64 2,.lst 3 true [.agg [.int .i64 1,.int .i64 5,.str ⟨#[]⟩],.agg [.int .i64 1,.int .i64 2,.str ⟨#[]⟩]]],.agg [.int .i64 3,.lst 3 true [.agg [.int .i64 1,.int .i64 6,.str ⟨#[]⟩],.agg [.int .i64 1,.int .i64 1,.str ⟨#[]⟩]]]]],.lst 2 false [.agg [.int .i64 1,.int .i64 0],.agg [.int .i64 1,.int .i64 1],.agg [.int .i64 2,.int .i64 1],.agg [.int .i64 3,.int .i64 0],.agg [.int .i64 3,.int .i64 1]]]
def clR38:V:=.lst 2 false [.agg [.int .i64 2,.int .i64 0]]
theorem clP38:AM.Pure clR38:=by simp[clR38]
theorem clQ38:∀a∈clA38,AM.Pure a:=by simp[clA38]
theorem cl38:aJ Tryz.prog 85 clA38 fun x=>x=clR38:=aH tok mixed af ai (fuel:=1000) (d:=40) (by kernel_rfl) clP38
def clA31:List V:=[.agg [.str ⟨#[114]⟩,.lst 1 true [.str ⟨#[97]⟩,.str ⟨#[98]⟩],.lst 2 true [.agg [.int .i64 1,.lst 3 true [.agg [.int .i64 1,.int .i64 5,.str ⟨#[]⟩],.agg [.int .i64 1,.int .i64 1,.str ⟨#[]⟩]]],.agg [.int .i64 2,.lst 3 true [.agg [.int .i64 1,.int .i64 5,.str ⟨#[]⟩],.agg [.int .i64 1,.int .i64 2,.str ⟨#[]⟩]]],.agg [.int .i64 3,.lst 3 true [.agg [.int .i64 1,.int .i64 6,.str ⟨#[]⟩],.agg [.int .i64 1,.int .i64 1,.str ⟨#[]⟩]]]]],.lst 2 false [.agg [.int .u32 1,.int .u32 2]],.lst 2 false [.agg [.int .i64 1,.int .i64 0]]]
def clR31:V:=.bool true
theorem clP31:AM.Pure clR31:=by simp[clR31]
theorem clQ31:∀a∈clA31,AM.Pure a:=by simp[clA31]
theorem cl31:aJ Tryz.prog 82 clA31 fun x=>x=clR31:=aH tok mixed af ai (fuel:=1000) (d:=40) (by kernel_rfl) clP31
def clA27:List V:=[.agg [.str ⟨#[114]⟩,.lst 1 true [.str ⟨#[97]⟩,.str ⟨#[98]⟩],.lst 2 true [.agg [.int .i64 1,.lst 3 true [.agg [.int .i64 1,.int .i64 5,.str ⟨#[]⟩],.agg [.int .i64 1,.int .i64 1,.str ⟨#[]⟩]]],.agg [.int .i64 2,.lst 3 true [.agg [.int .i64 1,.int .i64 5,.str ⟨#[]⟩],.agg [.int .i64 1,.int .i64 2,.str ⟨#[]⟩]]],.agg [.int .i64 3,.lst 3 true [.agg [.int .i64 1,.int .i64 6,.str ⟨#[]⟩],.agg [.int .i64 1,.int .i64 1,.str ⟨#[]⟩]]]]],.lst 2 false [.agg [.int .u32 1,.int .u32 2]],.nilS]
def clR27:V:=.bool false
theorem clP27:AM.Pure clR27:=by simp[clR27]
theorem clQ27:∀a∈clA27,AM.Pure a:=by simp[clA27]
theorem cl27:aJ Tryz.prog 82 clA27 fun x=>x=clR27:=aH tok mixed af ai (fuel:=1000) (d:=40) (by kernel_rfl) clP27
end
end Go.Proofs.YtdnhplencamncaaGreatDoor
