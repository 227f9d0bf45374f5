/- JB46: texts C4c, joined and shortened by pack6.py. -/
import Derived.Test.YtnaokiodhoadjaaGreatDoorJB41
set_option linter.all false
set_option maxRecDepth 100000
set_option maxHeartbeats 64000000
namespace Go.Proofs.YtnaokiodhoadjaaGreatDoor
section
open Go Go.AM Go.Proofs.Tryz
def clA51:List V:=[.agg [.str ⟨#[114]⟩,.lst 1 true [.str ⟨#[97]⟩,.str ⟨#[98]⟩],.lst 2 true [.agg [.int .i64 1,.lst 3 true [.agg [.int .i64 1,.int .i64 5,.str ⟨#[]⟩],.agg [.int .i64 1,.int .i64 1,.str ⟨#[]⟩]]],.agg [.int .i64 2,.lst 3 true [.agg [.int .i64 1,.int .i64 5,.str ⟨#[]⟩],.agg [.int .i64 1,.int .i64 2,.str ⟨#[]⟩]]],.agg [.int .i64 3,.lst 3 true [.agg [.int .i64 1,.int .i64 6,.str ⟨#[]⟩],.agg [.int .i64 1,.int .i64 1,.str ⟨#[]⟩]]]]],.lst 2 false [.agg [.int .u32 1,.int .u32 2]],.lst 2 false [.agg [.int .i64 3,.int .i64 0],.agg [.int .i64 3,.int .i64 1]]]
def clR51:V:=.bool false
def clP51:AM.Pure clR51:=by simp[clR51]
def clQ51:∀a∈clA51,AM.Pure a:=by simp[clA51]
def cl51:aK prog 36 clA51 fun x=>x=clR51:=aC tok mixed aT bB (fuel:=1000) (d:=40) υ clP51
def clA30:List V:=[.agg [.str ⟨#[114]⟩,.lst 1 true [.str ⟨#[97]⟩,.str ⟨#[98]⟩],.lst 2 true [.agg [.int .i64 1,.lst 3 true [.agg [.int .i64 1,.int .i64 5,.str ⟨#[]⟩],.agg [.int .i64 1,.int .i64 1,.str ⟨#[]⟩]]],.agg [.int .i64 2,.lst 3 true [.agg [.int .i64 1,.int .i64 5,.str ⟨#[]⟩],.agg [.int .i64 1,.int .i64 2,.str ⟨#[]⟩]]],.agg [.int .i64 3,.lst 3 true [.agg [.int .i64 1,.int .i64 6,.str ⟨#[]⟩],.agg [.int .i64 1,.int .i64 1,.str ⟨#[]⟩]]]]],.lst 2 false [.agg [.int .i64 1,.int .i64 1],.agg [.int .i64 2,.int .i64 0],.agg [.int .i64 2,.int .i64 1],.agg [.int .i64 3,.int .i64 0],.agg [.int .i64 3,.int .i64 1]]]
def clR30:V:=.lst 2 false [.agg [.int .i64 1,.int .i64 0]]
def clP30:AM.Pure clR30:=by simp[clR30]
def clQ30:∀a∈clA30,AM.Pure a:=by simp[clA30]
def cl30:aK prog 39 clA30 fun x=>x=clR30:=aC tok mixed aT bB (fuel:=1000) (d:=40) υ clP30
def clA42:List V:=[.agg [.str ⟨#[114]⟩,.lst 1 true [.str ⟨#[97]⟩,.str ⟨#[98]⟩],.lst 2 true [.agg [.int .i64 1,.lst 3 true [.agg [.int .i64 1,.int .i64 5,.str ⟨#[]⟩],.agg [.int .i64 1,.int .i64 1,.str ⟨#[]⟩]]],.agg [.int .i64 2,.lst 3 true [.agg [.int .i64 1,.int .i64 5,.str ⟨#[]⟩],.agg [.int .i64 1,.int .i64 2,.str ⟨#[]⟩]]],.agg [.int .i64 3,.lst 3 true [.agg [.int .i64 1,.int .i64 6,.str ⟨#[]⟩],.agg [.int .i64 1,.int .i64 1,.str ⟨#[]⟩]]]]],.lst 2 false [.agg [.int .i64 1,.int .i64 0],.agg [.int .i64 1,.int .i64 1],.agg [.int .i64 2,.int .i64 0],.agg [.int .i64 3,.int .i64 0],.agg [.int .i64 3,.int .i64 1]]]
def clR42:V:=.lst 2 false [.agg [.int .i64 2,.int .i64 1]]
def clP42:AM.Pure clR42:=by simp[clR42]
def clQ42:∀a∈clA42,AM.Pure a:=by simp[clA42]
def cl42:aK prog 39 clA42 fun x=>x=clR42:=aC tok mixed aT bB (fuel:=1000) (d:=40) υ clP42
def clA50:List V:=[.agg [.str ⟨#[114]⟩,.lst 1 true [.str ⟨#[97]⟩,.str ⟨#[98]⟩],.lst 2 true [.agg [.int .i64 1,.lst 3 true [.agg [.int .i64 1,.int .i64 5,.str ⟨#[]⟩],.agg [.int .i64 1,.int .i64 1,.str ⟨#[]⟩]]],.agg [.int .i64 2,.lst 3 true [.agg [.int .i64 1,.int .i64 5,.str ⟨#[]⟩],.agg [.int .i64 1,.int .i64 2,.str ⟨#[]⟩]]],.agg [.int .i64 3,.lst 3 true [.agg [.int .i64 1,.int .i64 6,.str ⟨#[]⟩],.agg [.int .i64 1,.int .i64 1,.str ⟨#[]⟩]]]]],.lst 2 false [.agg [.int .i64 1,.int .i64 0],.agg [.int .i64 1,.int .i64 1],.agg [.int .i64 2,.int .i64 0],.agg [.int .i64 2,.int .i64 1]]]
def clR50:V:=.lst 2 false [.agg [.int .i64 3,.int .i64 0],.agg [.int .i64 3,.int .i64 1]]
def clP50:AM.Pure clR50:=by simp[clR50]
def clQ50:∀a∈clA50,AM.Pure a:=by simp[clA50]
def cl50:aK prog 39 clA50 fun x=>x=clR50:=aC tok mixed aT bB (fuel:=1000) (d:=40) υ clP50
def clA9:List V:=[.int .i64 2,.agg [.int .i64 2,.lst 11 false [.agg [.int .i64 1,.int .i64 0,.int .i64 0,.int .i64 0,.str ⟨#[]⟩,.int .i64 1,.int .i64 2,.int .i64 0,.int .i64 0,.int .i64 0,.str ⟨#[]⟩],.agg [.int .i64 1,.int .i64 1,.int .i64 0,.int .i64 0,.str ⟨#[]⟩,.int .i64 2,.int .i64 2,.int .i64 1,.int .i64 0,.int .i64 0,.str ⟨#[]⟩]]]]
def clR9:V:=.bool true
def clP9:AM.Pure clR9:=by simp[clR9]
def clQ9:∀a∈clA9,AM.Pure a:=by simp[clA9]
def cl9:aK prog 149 clA9 fun x=>x=clR9:=aC tok mixed aT bB (fuel:=1000) (d:=40) υ clP9
def clA29:List V:=[.lst 1 true [.lst 2 false [],.lst 2 false [.agg [.int .i64 1,.int .i64 1],.agg [.int .i64 2,.int .i64 0],.agg [.int .i64 2,.int .i64 1],.agg [.int .i64 3,.int .i64 0],.agg [.int .i64 3,.int .i64 1]]]]
def clR29:V:=.lst 2 false [.agg [.int .i64 1,.int .i64 1],.agg [.int .i64 2,.int .i64 0],.agg [.int .i64 2,.int .i64 1],.agg [.int .i64 3,.int .i64 0],.agg [.int .i64 3,.int .i64 1]]
def clP29:AM.Pure clR29:=by simp[clR29]
def clQ29:∀a∈clA29,AM.Pure a:=by simp[clA29]
def cl29:aK prog 67 clA29 fun x=>x=clR29:=aC tok mixed aT bB (fuel:=1000) (d:=40) υ clP29
def clA33:List V:=[.lst 1 true [.lst 2 false [.agg [.int .i64 1,.int .i64 0]],.lst 2 false [.agg [.int .i64 2,.int .i64 0],.agg [.int .i64 2,.int .i64 1],.agg [.int .i64 3,.int .i64 0],.agg [.int .i64 3,.int .i64 1]]]]
def clR33:V:=.lst 2 false [.agg [.int .i64 1,.int .i64 0],.agg [.int .i64 2,.int .i64 0],.agg [.int .i64 2,.int .i64 1],.agg [.int .i64 3,.int .i64 0],.agg [.int .i64 3,.int .i64 1]]
def clP33:AM.Pure clR33:=by simp[clR33]
def clQ33:∀a∈clA33,AM.Pure a:=by simp[clA33]
def cl33:aK prog 67 clA33 fun x=>x=clR33:=aC tok mixed aT bB (fuel:=1000) (d:=40) υ clP33
def clA41:List V:=[.lst 1 true [.lst 2 false [.agg [.int .i64 1,.int .i64 0],.agg [.int .i64 1,.int .i64 1],.agg [.int .i64 2,.int .i64 0]],.lst 2 false [.agg [.int .i64 3,.int .i64 0],.agg [.int .i64 3,.int .i64 1]]]]
def clR41:V:=.lst 2 false [.agg [.int .i64 1,.int .i64 0],.agg [.int .i64 1,.int .i64 1],.agg [.int .i64 2,.int .i64 0],.agg [.int .i64 3,.int .i64 0],.agg [.int .i64 3,.int .i64 1]]
def clP41:AM.Pure clR41:=by simp[clR41]
def clQ41:∀a∈clA41,AM.Pure a:=by simp[clA41]
def cl41:aK prog 67 clA41 fun x=>x=clR41:=aC tok mixed aT bB (fuel:=1000) (d:=40) υ clP41
def clA49:List V:=[.lst 1 true [.lst 2 false [.agg [.int .i64 1,.int .i64 0],.agg [.int .i64 1,.int .i64 1],.agg [.int .i64 2,.int .i64 0],.agg [.int .i64 2,.int .i64 1]],.lst 2 false []]]
def clR49:V:=.lst 2 false [.agg [.int .i64 1,.int .i64 0],.agg [.int .i64 1,.int .i64 1],.agg [.int .i64 2,.int .i64 0],.agg [.int .i64 2,.int .i64 1]]
def clP49:AM.Pure clR49:=by simp[clR49]
def clQ49:∀a∈clA49,AM.Pure a:=by simp[clA49]
def cl49:aK prog 67 clA49 fun x=>x=clR49:=aC tok mixed aT bB (fuel:=1000) (d:=40) υ clP49
def clA1:List V:=[.str ⟨#[97]⟩]
def clR1:V:=.bool true
def clP1:AM.Pure clR1:=by simp[clR1]
def clQ1:∀a∈clA1,AM.Pure a:=by simp[clA1]
def cl1:aK prog 49 clA1 fun x=>x=clR1:=aC tok mixed aT bB (fuel:=1000) (d:=40) υ clP1
def clA6:List V:=[.int .i64 2,.lst 2 true [.agg [.int .u32 1,.int .u32 2]]]
def clR6:V:=.int .i64 0
def clP6:AM.Pure clR6:=by simp[clR6]
def clQ6:∀a∈clA6,AM.Pure a:=by simp[clA6]
def cl6:aK prog 65 clA6 fun x=>x=clR6:=aC tok mixed aT bB (fuel:=1000) (d:=40) υ clP6
def clA23:List V:=[.agg [.nilS,.nilS]]
def clR23:V:=.int .i64 0
def clP23:AM.Pure clR23:=by simp[clR23]
def clQ23:∀a∈clA23,AM.Pure a:=by simp[clA23]
def cl23:aK prog 59 clA23 fun x=>x=clR23:=aC tok mixed aT bB (fuel:=1000) (d:=40) υ clP23
end
end Go.Proofs.YtnaokiodhoadjaaGreatDoor
