/- JM39: own texts of this seat, joined and shortened by pack4.py: C5, C4a. -/
import Derived.Test.YtjogkbekekdkjaaGreatDoorJM27
set_option linter.unusedVariables false
set_option linter.unusedSimpArgs false
set_option maxRecDepth 100000
set_option maxHeartbeats 64000000
open Int renaming toNat_of_nonneg→rz
open List renaming append_nil→pL
namespace Go.Proofs.YtjogkbekekdkjaaGreatDoor
section
open Go Go.AM Go.RowKit
def extG:aU:=fun f args H=>match f,args with
 | 196,[.nilS,.int .i64 n]=>if n=0 then some (.nilS,H) else if 0≤n∧n≤1000000 then some (.buf H.length 0 0 0,H++[.buf 2 1 [] false]) else none
 | 216,[.nilS,.int .i64 n]=>if n=0 then some (.nilS,H) else if 0≤n∧n≤1000000 then some (.buf H.length 0 0 0,H++[.buf 77 2 [] false]) else none
 | f,args=>ext f args H
theorem aS:aL Tryz.prog extG:=fun f args H r H' h=>by
 unfold extG at h;split at h
 ·rename_i n;split at h
  ·rename_i h0;subst h0;cases h;have:=aW (H:=H) grow_nil_Z (by simp);simpa only[aI,pL] using this
  split at h
  ·rename_i hc;cases h;have:=mJ (H:=H) (oB n.toNat (by omega)) (by simp);rw[rz hc.1]at this
   have h2:=aI.mono this (K':=fun x y=>x = .buf H.length 0 0 0∧y=H++[.buf 2 1 [] false]) (by
    rintro r H' ⟨e,z,xs,rfl,rfl,_,rfl,rfl,rfl⟩
    exact⟨rfl,rfl⟩)
   simpa only[aI,pL] using h2
  ·cases h
 ·rename_i n;split at h
  ·rename_i h0;subst h0;cases h;have:=aW (H:=H) grow_nil_N (by simp);simpa only[aI,pL] using this
  split at h
  ·rename_i hc;cases h;have:=mJ (H:=H) (oC n.toNat (by omega)) (by simp);rw[rz hc.1]at this
   have h2:=aI.mono this (K':=fun x y=>x = .buf H.length 0 0 0∧y=H++[.buf 77 2 [] false]) (by
    rintro r H' ⟨e,z,xs,rfl,rfl,_,rfl,rfl,rfl⟩
    exact⟨rfl,rfl⟩)
   simpa only[aI,pL] using h2
  ·cases h
 ·exact gq _ _ H r H' h
end
end Go.Proofs.YtjogkbekekdkjaaGreatDoor
namespace Go.Proofs.YtjogkbekekdkjaaGreatDoor
section
open Go Go.AM
def clA25:List V:=[.agg [.lst 1 false [.int .i64 5,.int .i64 1,.int .i64 1,.int .i64 1],.lst 1 false [.lst 1 false [.int .i64 0,.int .i64 1],.lst 1 false [.int .i64 0,.int .i64 2],.lst 1 false [.int .i64 1,.int .i64 2]]],.int .i64 2,.int .i64 10000]
def clR25:V:=.tup [.lst 2 true [.agg [.int .i64 (-1),.lst 2 false [.agg [.int .i64 0,.int .i64 1],.agg [.int .i64 1,.int .i64 1]]]],.int .i64 0]
theorem clP25:AM.Pure clR25:=by simp[clR25]
theorem clQ25:∀a∈clA25,AM.Pure a:=by simp[clA25]
theorem cl25:aE Tryz.prog 47 clA25 fun x=>x=clR25:=aC tok mixed aN aS (fuel:=1000) (d:=40) (by kernel_rfl) clP25
def clA0:List V:=[]
def clR0:V:=.tup [.agg [.str ⟨#[114]⟩,.lst 1 true [.str ⟨#[97]⟩,.str ⟨#[98]⟩],.lst 2 false [.agg [.int .i64 1,.lst 3 false [.agg [.int .i64 1,.int .i64 1,.str ⟨#[]⟩],.agg [.int .i64 1,.int .i64 1,.str ⟨#[]⟩]]],.agg [.int .i64 2,.lst 3 false [.agg [.int .i64 1,.int .i64 1,.str ⟨#[]⟩],.agg [.int .i64 1,.int .i64 2,.str ⟨#[]⟩]]],.agg [.int .i64 3,.lst 3 false [.agg [.int .i64 1,.int .i64 1,.str ⟨#[]⟩],.agg [.int .i64 1,.int .i64 7,.str ⟨#[]⟩]]],.agg [.int .i64 4,.lst 3 false [.agg [.int .i64 1,.int .i64 2,.str ⟨#[]⟩],.agg [.int .i64 1,.int .i64 1,.str ⟨#[]⟩]]]]],.lst 18 true [.agg [.str ⟨#[]⟩,.str ⟨#[114]⟩,.int .i64 1,.int .u32 1,.int .u32 2,.int .u32 0,.int .u32 0,.str ⟨#[]⟩,.nilS,.str ⟨#[]⟩,.nilS,.nilS,.int .i64 0,.nilS,.nilS,.nilS,.int .i64 0,.nilS]]]
theorem clP0:AM.Pure clR0:=by simp[clR0]
theorem clQ0:∀a∈clA0,AM.Pure a:=by simp[clA0]
theorem cl0:aE Tryz.prog 38 clA0 fun x=>x=clR0:=aC tok mixed aN aS (fuel:=1000) (d:=40) (by kernel_rfl) clP0
def clA10:List V:=[.lst 2 false [.agg [.int .i64 3,.lst 3 false [.agg [.int .i64 1,.int .i64 1,.str ⟨#[]⟩],.agg [.int .i64 1,.int .i64 7,.str ⟨#[]⟩]]],.agg [.int .i64 1,.lst 3 false [.agg [.int .i64 1,.int .i64 1,.str ⟨#[]⟩],.agg [.int .i64 1,.int .i64 1,.str ⟨#[]⟩]]]],.lst 11 false [.agg [.int .i64 1,.int .i64 0,.int .i64 0,.int .i64 0,.str ⟨#[]⟩,.int .i64 1,.int .i64 2,.int .i64 0,.int .i64 0,.int .i64 0,.str ⟨#[]⟩],.agg [.int .i64 1,.int .i64 1,.int .i64 0,.int .i64 0,.str ⟨#[]⟩,.int .i64 2,.int .i64 2,.int .i64 1,.int .i64 0,.int .i64 0,.str ⟨#[]⟩]]]
def clR10:V:=.bool true
theorem clP10:AM.Pure clR10:=by simp[clR10]
theorem clQ10:∀a∈clA10,AM.Pure a:=by simp[clA10]
theorem cl10:aE Tryz.prog 242 clA10 fun x=>x=clR10:=aC tok mixed aN aS (fuel:=1000) (d:=40) (by kernel_rfl) clP10
def clA5:List V:=[.lst 2 false [.agg [.int .i64 1,.lst 3 false [.agg [.int .i64 1,.int .i64 1,.str ⟨#[]⟩],.agg [.int .i64 1,.int .i64 1,.str ⟨#[]⟩]]],.agg [.int .i64 3,.lst 3 false [.agg [.int .i64 1,.int .i64 1,.str ⟨#[]⟩],.agg [.int .i64 1,.int .i64 7,.str ⟨#[]⟩]]]],.lst 11 false [.agg [.int .i64 1,.int .i64 0,.int .i64 0,.int .i64 0,.str ⟨#[]⟩,.int .i64 1,.int .i64 2,.int .i64 0,.int .i64 0,.int .i64 0,.str ⟨#[]⟩],.agg [.int .i64 1,.int .i64 1,.int .i64 0,.int .i64 0,.str ⟨#[]⟩,.int .i64 2,.int .i64 2,.int .i64 1,.int .i64 0,.int .i64 0,.str ⟨#[]⟩]]]
def clR5:V:=.bool true
theorem clP5:AM.Pure clR5:=by simp[clR5]
theorem clQ5:∀a∈clA5,AM.Pure a:=by simp[clA5]
theorem cl5:aE Tryz.prog 242 clA5 fun x=>x=clR5:=aC tok mixed aN aS (fuel:=1000) (d:=40) (by kernel_rfl) clP5
def clA28:List V:=[.agg [.lst 1 false [.int .i64 5,.int .i64 1,.int .i64 1,.int .i64 1],.lst 1 false [.lst 1 false [.int .i64 0,.int .i64 1],.lst 1 false [.int .i64 0,.int .i64 2],.lst 1 false [.int .i64 1,.int .i64 2]]],.lst 1 false [.int .i64 1,.int .i64 2]]
def clR28:V:=.bool true
theorem clP28:AM.Pure clR28:=by simp[clR28]
theorem clQ28:∀a∈clA28,AM.Pure a:=by simp[clA28]
theorem cl28:aE Tryz.prog 55 clA28 fun x=>x=clR28:=aC tok mixed aN aS (fuel:=1000) (d:=40) (by kernel_rfl) clP28
def clA2:List V:=[.int .i64 2,.agg [.int .u32 1,.int .u32 2]]
def clR2:V:=.tup [.lst 2 false [.agg [.int .i64 2,.lst 11 false [.agg [.int .i64 1,.int .i64 0,.int .i64 0,.int .i64 0,.str ⟨#[]⟩,.int .i64 1,.int .i64 2,.int .i64 0,.int .i64 0,.int .i64 0,.str ⟨#[]⟩],.agg [.int .i64 1,.int .i64 1,.int .i64 0,.int .i64 0,.str ⟨#[]⟩,.int .i64 2,.int .i64 2,.int .i64 1,.int .i64 0,.int .i64 0,.str ⟨#[]⟩]]]],.int .i64 0]
theorem clP2:AM.Pure clR2:=by simp[clR2]
theorem clQ2:∀a∈clA2,AM.Pure a:=by simp[clA2]
theorem cl2:aE Tryz.prog 126 clA2 fun x=>x=clR2:=aC tok mixed aN aS (fuel:=1000) (d:=40) (by kernel_rfl) clP2
def clA6:List V:=[.lst 2 false [.agg [.int .i64 1,.lst 3 false [.agg [.int .i64 1,.int .i64 1,.str ⟨#[]⟩],.agg [.int .i64 1,.int .i64 1,.str ⟨#[]⟩]]],.agg [.int .i64 4,.lst 3 false [.agg [.int .i64 1,.int .i64 2,.str ⟨#[]⟩],.agg [.int .i64 1,.int .i64 1,.str ⟨#[]⟩]]]],.lst 11 false [.agg [.int .i64 1,.int .i64 0,.int .i64 0,.int .i64 0,.str ⟨#[]⟩,.int .i64 1,.int .i64 2,.int .i64 0,.int .i64 0,.int .i64 0,.str ⟨#[]⟩],.agg [.int .i64 1,.int .i64 1,.int .i64 0,.int .i64 0,.str ⟨#[]⟩,.int .i64 2,.int .i64 2,.int .i64 1,.int .i64 0,.int .i64 0,.str ⟨#[]⟩]]]
def clR6:V:=.bool false
theorem clP6:AM.Pure clR6:=by simp[clR6]
theorem clQ6:∀a∈clA6,AM.Pure a:=by simp[clA6]
theorem cl6:aE Tryz.prog 242 clA6 fun x=>x=clR6:=aC tok mixed aN aS (fuel:=1000) (d:=40) (by kernel_rfl) clP6
def clA19:List V:=[.lst 1 false [.int .i64 1,.int .i64 2,.int .i64 3,.int .i64 4],.int .i64 2]
def clR19:V:=.tup [.int .i64 1,.bool true]
theorem clP19:AM.Pure clR19:=by simp[clR19]
theorem clQ19:∀a∈clA19,AM.Pure a:=by simp[clA19]
theorem cl19:aE Tryz.prog 40 clA19 fun x=>x=clR19:=aC tok mixed aN aS (fuel:=1000) (d:=40) (by kernel_rfl) clP19
end
end Go.Proofs.YtjogkbekekdkjaaGreatDoor
