/- JM41: own texts of this seat, joined and shortened by pack4.py: C4c. -/
import Derived.Test.YtjogkbekekdkjaaGreatDoorJM39
set_option linter.unusedVariables false
set_option linter.unusedSimpArgs false
set_option maxRecDepth 100000
set_option maxHeartbeats 64000000
namespace Go.Proofs.YtjogkbekekdkjaaGreatDoor
section
open Go Go.AM
def clA29:List V:=[.agg [.lst 1 false [.int .i64 5,.int .i64 1,.int .i64 1,.int .i64 1],.lst 1 false [.lst 1 false [.int .i64 0,.int .i64 1],.lst 1 false [.int .i64 0,.int .i64 2],.lst 1 false [.int .i64 1,.int .i64 2]]],.int .i64 2,.lst 2 true [.agg [.int .i64 (-1),.lst 2 true [.agg [.int .i64 0,.int .i64 1],.agg [.int .i64 1,.int .i64 1]]]]]
def clR29:V:=.bool true
theorem clP29:AM.Pure clR29:=by simp[clR29]
theorem clQ29:∀a∈clA29,AM.Pure a:=by simp[clA29]
theorem cl29:aE Tryz.prog 57 clA29 fun x=>x=clR29:=aC tok mixed aN aS (fuel:=1000) (d:=40) (by kernel_rfl) clP29
def clA31:List V:=[.agg [.lst 1 false [.int .i64 5,.int .i64 1,.int .i64 1,.int .i64 1],.lst 1 false [.lst 1 false [.int .i64 0,.int .i64 1],.lst 1 false [.int .i64 0,.int .i64 2],.lst 1 false [.int .i64 1,.int .i64 2]]],.int .i64 2,.lst 2 true [.agg [.int .i64 (-1),.lst 2 false [.agg [.int .i64 0,.int .i64 1],.agg [.int .i64 1,.int .i64 1]]]]]
def clR31:V:=.bool true
theorem clP31:AM.Pure clR31:=by simp[clR31]
theorem clQ31:∀a∈clA31,AM.Pure a:=by simp[clA31]
theorem cl31:aE Tryz.prog 57 clA31 fun x=>x=clR31:=aC tok mixed aN aS (fuel:=1000) (d:=40) (by kernel_rfl) clP31
def clA7:List V:=[.lst 2 false [.agg [.int .i64 2,.lst 3 false [.agg [.int .i64 1,.int .i64 1,.str ⟨#[]⟩],.agg [.int .i64 1,.int .i64 2,.str ⟨#[]⟩]]],.agg [.int .i64 1,.lst 3 false [.agg [.int .i64 1,.int .i64 1,.str ⟨#[]⟩],.agg [.int .i64 1,.int .i64 1,.str ⟨#[]⟩]]]],.lst 11 false [.agg [.int .i64 1,.int .i64 0,.int .i64 0,.int .i64 0,.str ⟨#[]⟩,.int .i64 1,.int .i64 2,.int .i64 0,.int .i64 0,.int .i64 0,.str ⟨#[]⟩],.agg [.int .i64 1,.int .i64 1,.int .i64 0,.int .i64 0,.str ⟨#[]⟩,.int .i64 2,.int .i64 2,.int .i64 1,.int .i64 0,.int .i64 0,.str ⟨#[]⟩]]]
def clR7:V:=.bool true
theorem clP7:AM.Pure clR7:=by simp[clR7]
theorem clQ7:∀a∈clA7,AM.Pure a:=by simp[clA7]
theorem cl7:aE Tryz.prog 242 clA7 fun x=>x=clR7:=aC tok mixed aN aS (fuel:=1000) (d:=40) (by kernel_rfl) clP7
def clA4:List V:=[.lst 2 false [.agg [.int .i64 1,.lst 3 false [.agg [.int .i64 1,.int .i64 1,.str ⟨#[]⟩],.agg [.int .i64 1,.int .i64 1,.str ⟨#[]⟩]]],.agg [.int .i64 2,.lst 3 false [.agg [.int .i64 1,.int .i64 1,.str ⟨#[]⟩],.agg [.int .i64 1,.int .i64 2,.str ⟨#[]⟩]]]],.lst 11 false [.agg [.int .i64 1,.int .i64 0,.int .i64 0,.int .i64 0,.str ⟨#[]⟩,.int .i64 1,.int .i64 2,.int .i64 0,.int .i64 0,.int .i64 0,.str ⟨#[]⟩],.agg [.int .i64 1,.int .i64 1,.int .i64 0,.int .i64 0,.str ⟨#[]⟩,.int .i64 2,.int .i64 2,.int .i64 1,.int .i64 0,.int .i64 0,.str ⟨#[]⟩]]]
def clR4:V:=.bool true
theorem clP4:AM.Pure clR4:=by simp[clR4]
theorem clQ4:∀a∈clA4,AM.Pure a:=by simp[clA4]
theorem cl4:aE Tryz.prog 242 clA4 fun x=>x=clR4:=aC tok mixed aN aS (fuel:=1000) (d:=40) (by kernel_rfl) clP4
def clA23:List V:=[.agg [.lst 1 false [.int .i64 5,.int .i64 1,.int .i64 1,.int .i64 1],.lst 1 false [.lst 1 false [.int .i64 0,.int .i64 1],.lst 1 false [.int .i64 0,.int .i64 2],.lst 1 false [.int .i64 1,.int .i64 2]]],.lst 1 false [.int .i64 1,.int .i64 2]]
def clR23:V:=.tup [.int .i64 2,.int .i64 0]
theorem clP23:AM.Pure clR23:=by simp[clR23]
theorem clQ23:∀a∈clA23,AM.Pure a:=by simp[clA23]
theorem cl23:aE Tryz.prog 56 clA23 fun x=>x=clR23:=aC tok mixed aN aS (fuel:=1000) (d:=40) (by kernel_rfl) clP23
def clA15:List V:=[.lst 2 false [.agg [.int .i64 4,.lst 3 false [.agg [.int .i64 1,.int .i64 2,.str ⟨#[]⟩],.agg [.int .i64 1,.int .i64 1,.str ⟨#[]⟩]]],.agg [.int .i64 3,.lst 3 false [.agg [.int .i64 1,.int .i64 1,.str ⟨#[]⟩],.agg [.int .i64 1,.int .i64 7,.str ⟨#[]⟩]]]],.lst 11 false [.agg [.int .i64 1,.int .i64 0,.int .i64 0,.int .i64 0,.str ⟨#[]⟩,.int .i64 1,.int .i64 2,.int .i64 0,.int .i64 0,.int .i64 0,.str ⟨#[]⟩],.agg [.int .i64 1,.int .i64 1,.int .i64 0,.int .i64 0,.str ⟨#[]⟩,.int .i64 2,.int .i64 2,.int .i64 1,.int .i64 0,.int .i64 0,.str ⟨#[]⟩]]]
def clR15:V:=.bool false
theorem clP15:AM.Pure clR15:=by simp[clR15]
theorem clQ15:∀a∈clA15,AM.Pure a:=by simp[clA15]
theorem cl15:aE Tryz.prog 242 clA15 fun x=>x=clR15:=aC tok mixed aN aS (fuel:=1000) (d:=40) (by kernel_rfl) clP15
def clA30:List V:=[.agg [.str ⟨#[114]⟩,.lst 1 true [.str ⟨#[97]⟩,.str ⟨#[98]⟩],.lst 2 false [.agg [.int .i64 1,.lst 3 false [.agg [.int .i64 1,.int .i64 1,.str ⟨#[]⟩],.agg [.int .i64 1,.int .i64 1,.str ⟨#[]⟩]]],.agg [.int .i64 2,.lst 3 false [.agg [.int .i64 1,.int .i64 1,.str ⟨#[]⟩],.agg [.int .i64 1,.int .i64 2,.str ⟨#[]⟩]]],.agg [.int .i64 3,.lst 3 false [.agg [.int .i64 1,.int .i64 1,.str ⟨#[]⟩],.agg [.int .i64 1,.int .i64 7,.str ⟨#[]⟩]]],.agg [.int .i64 4,.lst 3 false [.agg [.int .i64 1,.int .i64 2,.str ⟨#[]⟩],.agg [.int .i64 1,.int .i64 1,.str ⟨#[]⟩]]]]],.lst 1 false [.int .i64 2,.int .i64 3]]
def clR30:V:=.tup [.lst 1 false [.int .i64 1,.int .i64 2],.int .i64 0]
theorem clP30:AM.Pure clR30:=by simp[clR30]
theorem clQ30:∀a∈clA30,AM.Pure a:=by simp[clA30]
theorem cl30:aE Tryz.prog 54 clA30 fun x=>x=clR30:=aC tok mixed aN aS (fuel:=1000) (d:=40) (by kernel_rfl) clP30
def clA12:List V:=[.lst 2 false [.agg [.int .i64 3,.lst 3 false [.agg [.int .i64 1,.int .i64 1,.str ⟨#[]⟩],.agg [.int .i64 1,.int .i64 7,.str ⟨#[]⟩]]],.agg [.int .i64 4,.lst 3 false [.agg [.int .i64 1,.int .i64 2,.str ⟨#[]⟩],.agg [.int .i64 1,.int .i64 1,.str ⟨#[]⟩]]]],.lst 11 false [.agg [.int .i64 1,.int .i64 0,.int .i64 0,.int .i64 0,.str ⟨#[]⟩,.int .i64 1,.int .i64 2,.int .i64 0,.int .i64 0,.int .i64 0,.str ⟨#[]⟩],.agg [.int .i64 1,.int .i64 1,.int .i64 0,.int .i64 0,.str ⟨#[]⟩,.int .i64 2,.int .i64 2,.int .i64 1,.int .i64 0,.int .i64 0,.str ⟨#[]⟩]]]
def clR12:V:=.bool false
theorem clP12:AM.Pure clR12:=by simp[clR12]
theorem clQ12:∀a∈clA12,AM.Pure a:=by simp[clA12]
theorem cl12:aE Tryz.prog 242 clA12 fun x=>x=clR12:=aC tok mixed aN aS (fuel:=1000) (d:=40) (by kernel_rfl) clP12
def clA20:List V:=[.lst 1 false [.int .i64 1,.int .i64 2,.int .i64 3,.int .i64 4],.int .i64 3]
def clR20:V:=.tup [.int .i64 2,.bool true]
theorem clP20:AM.Pure clR20:=by simp[clR20]
theorem clQ20:∀a∈clA20,AM.Pure a:=by simp[clA20]
theorem cl20:aE Tryz.prog 40 clA20 fun x=>x=clR20:=aC tok mixed aN aS (fuel:=1000) (d:=40) (by kernel_rfl) clP20
end
end Go.Proofs.YtjogkbekekdkjaaGreatDoor
