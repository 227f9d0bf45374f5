/- JM40: own texts of this seat, joined and shortened by pack4.py: C4b. -/
import Derived.Test.YtjogkbekekdkjaaGreatDoorJM39
set_option linter.unusedVariables false
set_option linter.unusedSimpArgs false
set_option maxRecDepth 100000
set_option maxHeartbeats 64000000
namespace Go.Proofs.YtjogkbekekdkjaaGreatDoor
section
open Go Go.AM
def clA22:List V:=[.agg [.lst 1 false [.int .i64 5,.int .i64 1,.int .i64 1,.int .i64 1],.lst 1 false [.lst 1 false [.int .i64 0,.int .i64 1],.lst 1 false [.int .i64 0,.int .i64 2],.lst 1 false [.int .i64 1,.int .i64 2]]]]
def clR22:V:=.tup [.lst 1 false [.int .i64 1,.int .i64 2],.int .i64 0]
theorem clP22:AM.Pure clR22:=by simp[clR22]
theorem clQ22:∀a∈clA22,AM.Pure a:=by simp[clA22]
theorem cl22:aE Tryz.prog 69 clA22 fun x=>x=clR22:=aC tok mixed aN aS (fuel:=1000) (d:=40) (by kernel_rfl) clP22
def clA1:List V:=[.agg [.str ⟨#[114]⟩,.lst 1 true [.str ⟨#[97]⟩,.str ⟨#[98]⟩],.lst 2 false [.agg [.int .i64 1,.lst 3 false [.agg [.int .i64 1,.int .i64 1,.str ⟨#[]⟩],.agg [.int .i64 1,.int .i64 1,.str ⟨#[]⟩]]],.agg [.int .i64 2,.lst 3 false [.agg [.int .i64 1,.int .i64 1,.str ⟨#[]⟩],.agg [.int .i64 1,.int .i64 2,.str ⟨#[]⟩]]],.agg [.int .i64 3,.lst 3 false [.agg [.int .i64 1,.int .i64 1,.str ⟨#[]⟩],.agg [.int .i64 1,.int .i64 7,.str ⟨#[]⟩]]],.agg [.int .i64 4,.lst 3 false [.agg [.int .i64 1,.int .i64 2,.str ⟨#[]⟩],.agg [.int .i64 1,.int .i64 1,.str ⟨#[]⟩]]]]]]
def clR1:V:=.int .i64 0
theorem clP1:AM.Pure clR1:=by simp[clR1]
theorem clQ1:∀a∈clA1,AM.Pure a:=by simp[clA1]
theorem cl1:aE Tryz.prog 77 clA1 fun x=>x=clR1:=aC tok mixed aN aS (fuel:=1000) (d:=40) (by kernel_rfl) clP1
def clA11:List V:=[.lst 2 false [.agg [.int .i64 3,.lst 3 false [.agg [.int .i64 1,.int .i64 1,.str ⟨#[]⟩],.agg [.int .i64 1,.int .i64 7,.str ⟨#[]⟩]]],.agg [.int .i64 2,.lst 3 false [.agg [.int .i64 1,.int .i64 1,.str ⟨#[]⟩],.agg [.int .i64 1,.int .i64 2,.str ⟨#[]⟩]]]],.lst 11 false [.agg [.int .i64 1,.int .i64 0,.int .i64 0,.int .i64 0,.str ⟨#[]⟩,.int .i64 1,.int .i64 2,.int .i64 0,.int .i64 0,.int .i64 0,.str ⟨#[]⟩],.agg [.int .i64 1,.int .i64 1,.int .i64 0,.int .i64 0,.str ⟨#[]⟩,.int .i64 2,.int .i64 2,.int .i64 1,.int .i64 0,.int .i64 0,.str ⟨#[]⟩]]]
def clR11:V:=.bool true
theorem clP11:AM.Pure clR11:=by simp[clR11]
theorem clQ11:∀a∈clA11,AM.Pure a:=by simp[clA11]
theorem cl11:aE Tryz.prog 242 clA11 fun x=>x=clR11:=aC tok mixed aN aS (fuel:=1000) (d:=40) (by kernel_rfl) clP11
def clA8:List V:=[.lst 2 false [.agg [.int .i64 2,.lst 3 false [.agg [.int .i64 1,.int .i64 1,.str ⟨#[]⟩],.agg [.int .i64 1,.int .i64 2,.str ⟨#[]⟩]]],.agg [.int .i64 3,.lst 3 false [.agg [.int .i64 1,.int .i64 1,.str ⟨#[]⟩],.agg [.int .i64 1,.int .i64 7,.str ⟨#[]⟩]]]],.lst 11 false [.agg [.int .i64 1,.int .i64 0,.int .i64 0,.int .i64 0,.str ⟨#[]⟩,.int .i64 1,.int .i64 2,.int .i64 0,.int .i64 0,.int .i64 0,.str ⟨#[]⟩],.agg [.int .i64 1,.int .i64 1,.int .i64 0,.int .i64 0,.str ⟨#[]⟩,.int .i64 2,.int .i64 2,.int .i64 1,.int .i64 0,.int .i64 0,.str ⟨#[]⟩]]]
def clR8:V:=.bool true
theorem clP8:AM.Pure clR8:=by simp[clR8]
theorem clQ8:∀a∈clA8,AM.Pure a:=by simp[clA8]
theorem cl8:aE Tryz.prog 242 clA8 fun x=>x=clR8:=aC tok mixed aN aS (fuel:=1000) (d:=40) (by kernel_rfl) clP8
def clA13:List V:=[.lst 2 false [.agg [.int .i64 4,.lst 3 false [.agg [.int .i64 1,.int .i64 2,.str ⟨#[]⟩],.agg [.int .i64 1,.int .i64 1,.str ⟨#[]⟩]]],.agg [.int .i64 1,.lst 3 false [.agg [.int .i64 1,.int .i64 1,.str ⟨#[]⟩],.agg [.int .i64 1,.int .i64 1,.str ⟨#[]⟩]]]],.lst 11 false [.agg [.int .i64 1,.int .i64 0,.int .i64 0,.int .i64 0,.str ⟨#[]⟩,.int .i64 1,.int .i64 2,.int .i64 0,.int .i64 0,.int .i64 0,.str ⟨#[]⟩],.agg [.int .i64 1,.int .i64 1,.int .i64 0,.int .i64 0,.str ⟨#[]⟩,.int .i64 2,.int .i64 2,.int .i64 1,.int .i64 0,.int .i64 0,.str ⟨#[]⟩]]]
def clR13:V:=.bool false
theorem clP13:AM.Pure clR13:=by simp[clR13]
theorem clQ13:∀a∈clA13,AM.Pure a:=by simp[clA13]
theorem cl13:aE Tryz.prog 242 clA13 fun x=>x=clR13:=aC tok mixed aN aS (fuel:=1000) (d:=40) (by kernel_rfl) clP13
def clA14:List V:=[.lst 2 false [.agg [.int .i64 4,.lst 3 false [.agg [.int .i64 1,.int .i64 2,.str ⟨#[]⟩],.agg [.int .i64 1,.int .i64 1,.str ⟨#[]⟩]]],.agg [.int .i64 2,.lst 3 false [.agg [.int .i64 1,.int .i64 1,.str ⟨#[]⟩],.agg [.int .i64 1,.int .i64 2,.str ⟨#[]⟩]]]],.lst 11 false [.agg [.int .i64 1,.int .i64 0,.int .i64 0,.int .i64 0,.str ⟨#[]⟩,.int .i64 1,.int .i64 2,.int .i64 0,.int .i64 0,.int .i64 0,.str ⟨#[]⟩],.agg [.int .i64 1,.int .i64 1,.int .i64 0,.int .i64 0,.str ⟨#[]⟩,.int .i64 2,.int .i64 2,.int .i64 1,.int .i64 0,.int .i64 0,.str ⟨#[]⟩]]]
def clR14:V:=.bool false
theorem clP14:AM.Pure clR14:=by simp[clR14]
theorem clQ14:∀a∈clA14,AM.Pure a:=by simp[clA14]
theorem cl14:aE Tryz.prog 242 clA14 fun x=>x=clR14:=aC tok mixed aN aS (fuel:=1000) (d:=40) (by kernel_rfl) clP14
def clA27:List V:=[.agg [.str ⟨#[114]⟩,.lst 1 true [.str ⟨#[97]⟩,.str ⟨#[98]⟩],.lst 2 false [.agg [.int .i64 1,.lst 3 false [.agg [.int .i64 1,.int .i64 1,.str ⟨#[]⟩],.agg [.int .i64 1,.int .i64 1,.str ⟨#[]⟩]]],.agg [.int .i64 2,.lst 3 false [.agg [.int .i64 1,.int .i64 1,.str ⟨#[]⟩],.agg [.int .i64 1,.int .i64 2,.str ⟨#[]⟩]]],.agg [.int .i64 3,.lst 3 false [.agg [.int .i64 1,.int .i64 1,.str ⟨#[]⟩],.agg [.int .i64 1,.int .i64 7,.str ⟨#[]⟩]]],.agg [.int .i64 4,.lst 3 false [.agg [.int .i64 1,.int .i64 2,.str ⟨#[]⟩],.agg [.int .i64 1,.int .i64 1,.str ⟨#[]⟩]]]]],.lst 1 true [.int .i64 2,.int .i64 3]]
def clR27:V:=.tup [.lst 1 false [.int .i64 1,.int .i64 2],.int .i64 0]
theorem clP27:AM.Pure clR27:=by simp[clR27]
theorem clQ27:∀a∈clA27,AM.Pure a:=by simp[clA27]
theorem cl27:aE Tryz.prog 54 clA27 fun x=>x=clR27:=aC tok mixed aN aS (fuel:=1000) (d:=40) (by kernel_rfl) clP27
def clA9:List V:=[.lst 2 false [.agg [.int .i64 2,.lst 3 false [.agg [.int .i64 1,.int .i64 1,.str ⟨#[]⟩],.agg [.int .i64 1,.int .i64 2,.str ⟨#[]⟩]]],.agg [.int .i64 4,.lst 3 false [.agg [.int .i64 1,.int .i64 2,.str ⟨#[]⟩],.agg [.int .i64 1,.int .i64 1,.str ⟨#[]⟩]]]],.lst 11 false [.agg [.int .i64 1,.int .i64 0,.int .i64 0,.int .i64 0,.str ⟨#[]⟩,.int .i64 1,.int .i64 2,.int .i64 0,.int .i64 0,.int .i64 0,.str ⟨#[]⟩],.agg [.int .i64 1,.int .i64 1,.int .i64 0,.int .i64 0,.str ⟨#[]⟩,.int .i64 2,.int .i64 2,.int .i64 1,.int .i64 0,.int .i64 0,.str ⟨#[]⟩]]]
def clR9:V:=.bool false
theorem clP9:AM.Pure clR9:=by simp[clR9]
theorem clQ9:∀a∈clA9,AM.Pure a:=by simp[clA9]
theorem cl9:aE Tryz.prog 242 clA9 fun x=>x=clR9:=aC tok mixed aN aS (fuel:=1000) (d:=40) (by kernel_rfl) clP9
def clA18:List V:=[.lst 1 false [.int .i64 1,.int .i64 2,.int .i64 3,.int .i64 4],.int .i64 1]
def clR18:V:=.tup [.int .i64 0,.bool true]
theorem clP18:AM.Pure clR18:=by simp[clR18]
theorem clQ18:∀a∈clA18,AM.Pure a:=by simp[clA18]
theorem cl18:aE Tryz.prog 40 clA18 fun x=>x=clR18:=aC tok mixed aN aS (fuel:=1000) (d:=40) (by kernel_rfl) clP18
end
end Go.Proofs.YtjogkbekekdkjaaGreatDoor
