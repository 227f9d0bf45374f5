/- JB45: texts C4b, joined and shortened by pack6.py. -/
import Derived.Test.YtnaokiodhoadjaaGreatDoorJB41
set_option linter.all false
set_option maxRecDepth 100000
set_option maxHeartbeats 64000000
namespace Go.Proofs.YtnaokiodhoadjaaGreatDoor
section
open Go Go.AM Go.Proofs.Tryz
def clA35:List V:=[.agg [.str ⟨#[114]⟩,.lst 1 true [.str ⟨#[97]⟩,.str ⟨#[98]⟩],.lst 2 true [.agg [.int .i64 1,.lst 3 true [.agg [.int .i64 1,.int .i64 5,.str ⟨#[]⟩],.agg [.int .i64 1,.int .i64 1,.str ⟨#[]⟩]]],.agg [.int .i64 2,.lst 3 true [.agg [.int .i64 1,.int .i64 5,.str ⟨#[]⟩],.agg [.int .i64 1,.int .i64 2,.str ⟨#[]⟩]]],.agg [.int .i64 3,.lst 3 true [.agg [.int .i64 1,.int .i64 6,.str ⟨#[]⟩],.agg [.int .i64 1,.int .i64 1,.str ⟨#[]⟩]]]]],.lst 2 false [.agg [.int .u32 1,.int .u32 2]],.lst 2 false [.agg [.int .i64 1,.int .i64 1]]]
def clR35:V:=.bool true
def clP35:AM.Pure clR35:=by simp[clR35]
def clQ35:∀a∈clA35,AM.Pure a:=by simp[clA35]
def cl35:aK prog 36 clA35 fun x=>x=clR35:=aC tok mixed aT bB (fuel:=1000) (d:=40) υ clP35
def clA34:List V:=[.agg [.str ⟨#[114]⟩,.lst 1 true [.str ⟨#[97]⟩,.str ⟨#[98]⟩],.lst 2 true [.agg [.int .i64 1,.lst 3 true [.agg [.int .i64 1,.int .i64 5,.str ⟨#[]⟩],.agg [.int .i64 1,.int .i64 1,.str ⟨#[]⟩]]],.agg [.int .i64 2,.lst 3 true [.agg [.int .i64 1,.int .i64 5,.str ⟨#[]⟩],.agg [.int .i64 1,.int .i64 2,.str ⟨#[]⟩]]],.agg [.int .i64 3,.lst 3 true [.agg [.int .i64 1,.int .i64 6,.str ⟨#[]⟩],.agg [.int .i64 1,.int .i64 1,.str ⟨#[]⟩]]]]],.lst 2 false [.agg [.int .i64 1,.int .i64 0],.agg [.int .i64 2,.int .i64 0],.agg [.int .i64 2,.int .i64 1],.agg [.int .i64 3,.int .i64 0],.agg [.int .i64 3,.int .i64 1]]]
def clR34:V:=.lst 2 false [.agg [.int .i64 1,.int .i64 1]]
def clP34:AM.Pure clR34:=by simp[clR34]
def clQ34:∀a∈clA34,AM.Pure a:=by simp[clA34]
def cl34:aK prog 39 clA34 fun x=>x=clR34:=aC tok mixed aT bB (fuel:=1000) (d:=40) υ clP34
def clA38:List V:=[.agg [.str ⟨#[114]⟩,.lst 1 true [.str ⟨#[97]⟩,.str ⟨#[98]⟩],.lst 2 true [.agg [.int .i64 1,.lst 3 true [.agg [.int .i64 1,.int .i64 5,.str ⟨#[]⟩],.agg [.int .i64 1,.int .i64 1,.str ⟨#[]⟩]]],.agg [.int .i64 2,.lst 3 true [.agg [.int .i64 1,.int .i64 5,.str ⟨#[]⟩],.agg [.int .i64 1,.int .i64 2,.str ⟨#[]⟩]]],.agg [.int .i64 3,.lst 3 true [.agg [.int .i64 1,.int .i64 6,.str ⟨#[]⟩],.agg [.int .i64 1,.int .i64 1,.str ⟨#[]⟩]]]]],.lst 2 false [.agg [.int .i64 1,.int .i64 0],.agg [.int .i64 1,.int .i64 1],.agg [.int .i64 2,.int .i64 1],.agg [.int .i64 3,.int .i64 0],.agg [.int .i64 3,.int .i64 1]]]
def clR38:V:=.lst 2 false [.agg [.int .i64 2,.int .i64 0]]
def clP38:AM.Pure clR38:=by simp[clR38]
def clQ38:∀a∈clA38,AM.Pure a:=by simp[clA38]
def cl38:aK prog 39 clA38 fun x=>x=clR38:=aC tok mixed aT bB (fuel:=1000) (d:=40) υ clP38
def clA31:List V:=[.agg [.str ⟨#[114]⟩,.lst 1 true [.str ⟨#[97]⟩,.str ⟨#[98]⟩],.lst 2 true [.agg [.int .i64 1,.lst 3 true [.agg [.int .i64 1,.int .i64 5,.str ⟨#[]⟩],.agg [.int .i64 1,.int .i64 1,.str ⟨#[]⟩]]],.agg [.int .i64 2,.lst 3 true [.agg [.int .i64 1,.int .i64 5,.str ⟨#[]⟩],.agg [.int .i64 1,.int .i64 2,.str ⟨#[]⟩]]],.agg [.int .i64 3,.lst 3 true [.agg [.int .i64 1,.int .i64 6,.str ⟨#[]⟩],.agg [.int .i64 1,.int .i64 1,.str ⟨#[]⟩]]]]],.lst 2 false [.agg [.int .u32 1,.int .u32 2]],.lst 2 false [.agg [.int .i64 1,.int .i64 0]]]
def clR31:V:=.bool true
def clP31:AM.Pure clR31:=by simp[clR31]
def clQ31:∀a∈clA31,AM.Pure a:=by simp[clA31]
def cl31:aK prog 36 clA31 fun x=>x=clR31:=aC tok mixed aT bB (fuel:=1000) (d:=40) υ clP31
def clA27:List V:=[.agg [.str ⟨#[114]⟩,.lst 1 true [.str ⟨#[97]⟩,.str ⟨#[98]⟩],.lst 2 true [.agg [.int .i64 1,.lst 3 true [.agg [.int .i64 1,.int .i64 5,.str ⟨#[]⟩],.agg [.int .i64 1,.int .i64 1,.str ⟨#[]⟩]]],.agg [.int .i64 2,.lst 3 true [.agg [.int .i64 1,.int .i64 5,.str ⟨#[]⟩],.agg [.int .i64 1,.int .i64 2,.str ⟨#[]⟩]]],.agg [.int .i64 3,.lst 3 true [.agg [.int .i64 1,.int .i64 6,.str ⟨#[]⟩],.agg [.int .i64 1,.int .i64 1,.str ⟨#[]⟩]]]]],.lst 2 false [.agg [.int .u32 1,.int .u32 2]],.nilS]
def clR27:V:=.bool false
def clP27:AM.Pure clR27:=by simp[clR27]
def clQ27:∀a∈clA27,AM.Pure a:=by simp[clA27]
def cl27:aK prog 36 clA27 fun x=>x=clR27:=aC tok mixed aT bB (fuel:=1000) (d:=40) υ clP27
end
end Go.Proofs.YtnaokiodhoadjaaGreatDoor
