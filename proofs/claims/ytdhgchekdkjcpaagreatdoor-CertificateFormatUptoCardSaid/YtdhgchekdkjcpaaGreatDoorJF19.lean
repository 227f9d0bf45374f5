/- JF19: own texts of this seat, joined and shortened by pack4.py: C4a. -/
import Derived.Test.YtdhgchekdkjcpaaGreatDoorJF10
set_option linter.unusedVariables false
set_option linter.unusedSimpArgs false
set_option maxRecDepth 100000
set_option maxHeartbeats 64000000
namespace Go.Proofs.YtdhgchekdkjcpaaGreatDoor
section
open Go Go.AM
def clA2:List V:=[.agg [.str ⟨#[114]⟩,.lst 1 false [.str ⟨#[97]⟩,.str ⟨#[98]⟩],.lst 2 false [.agg [.int .i64 1,.lst 3 false [.agg [.int .i64 1,.int .i64 1,.str ⟨#[]⟩],.agg [.int .i64 1,.int .i64 1,.str ⟨#[]⟩]]],.agg [.int .i64 2,.lst 3 false [.agg [.int .i64 1,.int .i64 1,.str ⟨#[]⟩],.agg [.int .i64 1,.int .i64 2,.str ⟨#[]⟩]]]]],.lst 18 true [.agg [.str ⟨#[102]⟩,.str ⟨#[114]⟩,.int .i64 1,.int .u32 1,.int .u32 2,.int .u32 0,.int .u32 0,.str ⟨#[]⟩,.nilS,.str ⟨#[]⟩,.nilS,.nilS,.int .i64 0,.nilS,.nilS,.nilS,.int .i64 0,.nilS]]]
def clR2:V:=.tup [.agg [.lst 1 false [.int .i64 1,.int .i64 2],.lst 1 false [.lst 1 false [.int .i64 1,.int .i64 2]]],.int .i64 0]
theorem clP2:AM.Pure clR2:=by simp[clR2]
theorem clQ2:∀a∈clA2,AM.Pure a:=by simp[clA2]
theorem cl2:aS Tryz.prog 131 clA2 fun x=>x=clR2:=aJ tok mixed bd cW (fuel:=1000) (d:=40) (by kernel_rfl) clP2
end
end Go.Proofs.YtdhgchekdkjcpaaGreatDoor
