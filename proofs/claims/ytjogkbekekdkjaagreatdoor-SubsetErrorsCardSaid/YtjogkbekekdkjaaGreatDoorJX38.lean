/- JX38: own texts of this seat, joined and shortened by pack4.py: C5, C4a, C4b, C4c, C4. -/
import Derived.Test.YtjogkbekekdkjaaGreatDoorJX14
set_option linter.unusedVariables false
set_option linter.unusedSimpArgs false
set_option maxRecDepth 100000
set_option maxHeartbeats 64000000
open Int renaming toNat_of_nonneg→uK
open List renaming append_nil→rj
open Nat renaming beq→tA
namespace Go.Proofs.YtjogkbekekdkjaaGreatDoor
section
open Go Go.AM Go.RowKit
def extG:cH:=fun f args H=>match f,args with
 | 196,[.nilS,.int .i64 n]=>if n=0 then some (.nilS,H) else if 0≤n∧n≤1000000 then some (.buf H.length 0 0 0,H++[.buf 2 1 [] false]) else none
 | 216,[.nilS,.int .i64 n]=>if n=0 then some (.nilS,H) else if 0≤n∧n≤1000000 then some (.buf H.length 0 0 0,H++[.buf 77 2 [] false]) else none
 | f,args=>ext f args H
theorem bG:bN Tryz.prog extG:=fun f args H r H' h=>by
 unfold extG at h;split at h
 ·rename_i n;split at h
  ·rename_i h0;subst h0;cases h;have:=aK (H:=H) grow_nil_Z (by simp);simpa only[aQ,rj] using this
  split at h
  ·rename_i hc;cases h;have:=eY (H:=H) (qF n.toNat (by omega)) (by simp);rw[uK hc.1]at this
   have h2:=aQ.mono this (K':=fun x y=>x = .buf H.length 0 0 0∧y=H++[.buf 2 1 [] false]) (by
    rintro r H' ⟨e,z,xs,rfl,rfl,_,rfl,rfl,rfl⟩
    exact⟨rfl,rfl⟩)
   simpa only[aQ,rj] using h2
  ·cases h
 ·rename_i n;split at h
  ·rename_i h0;subst h0;cases h;have:=aK (H:=H) grow_nil_N (by simp);simpa only[aQ,rj] using this
  split at h
  ·rename_i hc;cases h;have:=eY (H:=H) (qG n.toNat (by omega)) (by simp);rw[uK hc.1]at this
   have h2:=aQ.mono this (K':=fun x y=>x = .buf H.length 0 0 0∧y=H++[.buf 77 2 [] false]) (by
    rintro r H' ⟨e,z,xs,rfl,rfl,_,rfl,rfl,rfl⟩
    exact⟨rfl,rfl⟩)
   simpa only[aQ,rj] using h2
  ·cases h
 ·exact bc _ _ H r H' h
end
end Go.Proofs.YtjogkbekekdkjaaGreatDoor
namespace Go.Proofs.YtjogkbekekdkjaaGreatDoor
section
open Go Go.AM
def clA25:List V:=[.agg [.lst 1 false [.int .i64 5,.int .i64 1,.int .i64 1,.int .i64 1],.lst 1 false [.lst 1 false [.int .i64 0,.int .i64 1],.lst 1 false [.int .i64 0,.int .i64 2],.lst 1 false [.int .i64 1,.int .i64 2]]],.int .i64 2,.int .i64 10000]
def clR25:V:=.tup [.lst 2 true [.agg [.int .i64 (-1),.lst 2 false [.agg [.int .i64 0,.int .i64 1],.agg [.int .i64 1,.int .i64 1]]]],.int .i64 0]
theorem clP25:AM.Pure clR25:=by simp[clR25]
theorem clQ25:∀a∈clA25,AM.Pure a:=by simp[clA25]
theorem cl25:aL Tryz.prog 47 clA25 fun x=>x=clR25:=aO tok mixed au bG (fuel:=1000) (d:=40) (by kernel_rfl) clP25
def clA0:List V:=[]
def clR0:V:=.tup [.agg [.str ⟨#[114]⟩,.lst 1 true [.str ⟨#[97]⟩,.str ⟨#[98]⟩],.lst 2 false [.agg [.int .i64 1,.lst 3 false [.agg [.int .i64 1,.int .i64 1,.str ⟨#[]⟩],.agg [.int .i64 1,.int .i64 1,.str ⟨#[]⟩]]],.agg [.int .i64 2,.lst 3 false [.agg [.int .i64 1,.int .i64 1,.str ⟨#[]⟩],.agg [.int .i64 1,.int .i64 2,.str ⟨#[]⟩]]],.agg [.int .i64 3,.lst 3 false [.agg [.int .i64 1,.int .i64 1,.str ⟨#[]⟩],.agg [.int .i64 1,.int .i64 7,.str ⟨#[]⟩]]],.agg [.int .i64 4,.lst 3 false [.agg [.int .i64 1,.int .i64 2,.str ⟨#[]⟩],.agg [.int .i64 1,.int .i64 1,.str ⟨#[]⟩]]]]],.lst 18 true [.agg [.str ⟨#[]⟩,.str ⟨#[114]⟩,.int .i64 1,.int .u32 1,.int .u32 2,.int .u32 0,.int .u32 0,.str ⟨#[]⟩,.nilS,.str ⟨#[]⟩,.nilS,.nilS,.int .i64 0,.nilS,.nilS,.nilS,.int .i64 0,.nilS]]]
theorem clP0:AM.Pure clR0:=by simp[clR0]
theorem clQ0:∀a∈clA0,AM.Pure a:=by simp[clA0]
theorem cl0:aL Tryz.prog 38 clA0 fun x=>x=clR0:=aO tok mixed au bG (fuel:=1000) (d:=40) (by kernel_rfl) clP0
def clA10:List V:=[.lst 2 false [.agg [.int .i64 3,.lst 3 false [.agg [.int .i64 1,.int .i64 1,.str ⟨#[]⟩],.agg [.int .i64 1,.int .i64 7,.str ⟨#[]⟩]]],.agg [.int .i64 1,.lst 3 false [.agg [.int .i64 1,.int .i64 1,.str ⟨#[]⟩],.agg [.int .i64 1,.int .i64 1,.str ⟨#[]⟩]]]],.lst 11 false [.agg [.int .i64 1,.int .i64 0,.int .i64 0,.int .i64 0,.str ⟨#[]⟩,.int .i64 1,.int .i64 2,.int .i64 0,.int .i64 0,.int .i64 0,.str ⟨#[]⟩],.agg [.int .i64 1,.int .i64 1,.int .i64 0,.int .i64 0,.str ⟨#[]⟩,.int .i64 2,.int .i64 2,.int .i64 1,.int .i64 0,.int .i64 0,.str ⟨#[]⟩]]]
def clR10:V:=.bool true
theorem clP10:AM.Pure clR10:=by simp[clR10]
theorem clQ10:∀a∈clA10,AM.Pure a:=by simp[clA10]
theorem cl10:aL Tryz.prog 242 clA10 fun x=>x=clR10:=aO tok mixed au bG (fuel:=1000) (d:=40) (by kernel_rfl) clP10
def clA5:List V:=[.lst 2 false [.agg [.int .i64 1,.lst 3 false [.agg [.int .i64 1,.int .i64 1,.str ⟨#[]⟩],.agg [.int .i64 1,.int .i64 1,.str ⟨#[]⟩]]],.agg [.int .i64 3,.lst 3 false [.agg [.int .i64 1,.int .i64 1,.str ⟨#[]⟩],.agg [.int .i64 1,.int .i64 7,.str ⟨#[]⟩]]]],.lst 11 false [.agg [.int .i64 1,.int .i64 0,.int .i64 0,.int .i64 0,.str ⟨#[]⟩,.int .i64 1,.int .i64 2,.int .i64 0,.int .i64 0,.int .i64 0,.str ⟨#[]⟩],.agg [.int .i64 1,.int .i64 1,.int .i64 0,.int .i64 0,.str ⟨#[]⟩,.int .i64 2,.int .i64 2,.int .i64 1,.int .i64 0,.int .i64 0,.str ⟨#[]⟩]]]
def clR5:V:=.bool true
theorem clP5:AM.Pure clR5:=by simp[clR5]
theorem clQ5:∀a∈clA5,AM.Pure a:=by simp[clA5]
theorem cl5:aL Tryz.prog 242 clA5 fun x=>x=clR5:=aO tok mixed au bG (fuel:=1000) (d:=40) (by kernel_rfl) clP5
def clA28:List V:=[.agg [.lst 1 false [.int .i64 5,.int .i64 1,.int .i64 1,.int .i64 1],.lst 1 false [.lst 1 false [.int .i64 0,.int .i64 1],.lst 1 false [.int .i64 0,.int .i64 2],.lst 1 false [.int .i64 1,.int .i64 2]]],.lst 1 false [.int .i64 1,.int .i64 2]]
def clR28:V:=.bool true
theorem clP28:AM.Pure clR28:=by simp[clR28]
theorem clQ28:∀a∈clA28,AM.Pure a:=by simp[clA28]
theorem cl28:aL Tryz.prog 55 clA28 fun x=>x=clR28:=aO tok mixed au bG (fuel:=1000) (d:=40) (by kernel_rfl) clP28
def clA2:List V:=[.int .i64 2,.agg [.int .u32 1,.int .u32 2]]
def clR2:V:=.tup [.lst 2 false [.agg [.int .i64 2,.lst 11 false [.agg [.int .i64 1,.int .i64 0,.int .i64 0,.int .i64 0,.str ⟨#[]⟩,.int .i64 1,.int .i64 2,.int .i64 0,.int .i64 0,.int .i64 0,.str ⟨#[]⟩],.agg [.int .i64 1,.int .i64 1,.int .i64 0,.int .i64 0,.str ⟨#[]⟩,.int .i64 2,.int .i64 2,.int .i64 1,.int .i64 0,.int .i64 0,.str ⟨#[]⟩]]]],.int .i64 0]
theorem clP2:AM.Pure clR2:=by simp[clR2]
theorem clQ2:∀a∈clA2,AM.Pure a:=by simp[clA2]
theorem cl2:aL Tryz.prog 126 clA2 fun x=>x=clR2:=aO tok mixed au bG (fuel:=1000) (d:=40) (by kernel_rfl) clP2
def clA6:List V:=[.lst 2 false [.agg [.int .i64 1,.lst 3 false [.agg [.int .i64 1,.int .i64 1,.str ⟨#[]⟩],.agg [.int .i64 1,.int .i64 1,.str ⟨#[]⟩]]],.agg [.int .i64 4,.lst 3 false [.agg [.int .i64 1,.int .i64 2,.str ⟨#[]⟩],.agg [.int .i64 1,.int .i64 1,.str ⟨#[]⟩]]]],.lst 11 false [.agg [.int .i64 1,.int .i64 0,.int .i64 0,.int .i64 0,.str ⟨#[]⟩,.int .i64 1,.int .i64 2,.int .i64 0,.int .i64 0,.int .i64 0,.str ⟨#[]⟩],.agg [.int .i64 1,.int .i64 1,.int .i64 0,.int .i64 0,.str ⟨#[]⟩,.int .i64 2,.int .i64 2,.int .i64 1,.int .i64 0,.int .i64 0,.str ⟨#[]⟩]]]
def clR6:V:=.bool false
theorem clP6:AM.Pure clR6:=by simp[clR6]
theorem clQ6:∀a∈clA6,AM.Pure a:=by simp[clA6]
theorem cl6:aL Tryz.prog 242 clA6 fun x=>x=clR6:=aO tok mixed au bG (fuel:=1000) (d:=40) (by kernel_rfl) clP6
def clA19:List V:=[.lst 1 false [.int .i64 1,.int .i64 2,.int .i64 3,.int .i64 4],.int .i64 2]
def clR19:V:=.tup [.int .i64 1,.bool true]
theorem clP19:AM.Pure clR19:=by simp[clR19]
theorem clQ19:∀a∈clA19,AM.Pure a:=by simp[clA19]
theorem cl19:aL Tryz.prog 40 clA19 fun x=>x=clR19:=aO tok mixed au bG (fuel:=1000) (d:=40) (by kernel_rfl) clP19
def clA22:List V:=[.agg [.lst 1 false [.int .i64 5,.int .i64 1,.int .i64 1,.int .i64 1],.lst 1 false [.lst 1 false [.int .i64 0,.int .i64 1],.lst 1 false [.int .i64 0,.int .i64 2],.lst 1 false [.int .i64 1,.int .i64 2]]]]
def clR22:V:=.tup [.lst 1 false [.int .i64 1,.int .i64 2],.int .i64 0]
theorem clP22:AM.Pure clR22:=by simp[clR22]
theorem clQ22:∀a∈clA22,AM.Pure a:=by simp[clA22]
theorem cl22:aL Tryz.prog 69 clA22 fun x=>x=clR22:=aO tok mixed au bG (fuel:=1000) (d:=40) (by kernel_rfl) clP22
def clA1:List V:=[.agg [.str ⟨#[114]⟩,.lst 1 true [.str ⟨#[97]⟩,.str ⟨#[98]⟩],.lst 2 false [.agg [.int .i64 1,.lst 3 false [.agg [.int .i64 1,.int .i64 1,.str ⟨#[]⟩],.agg [.int .i64 1,.int .i64 1,.str ⟨#[]⟩]]],.agg [.int .i64 2,.lst 3 false [.agg [.int .i64 1,.int .i64 1,.str ⟨#[]⟩],.agg [.int .i64 1,.int .i64 2,.str ⟨#[]⟩]]],.agg [.int .i64 3,.lst 3 false [.agg [.int .i64 1,.int .i64 1,.str ⟨#[]⟩],.agg [.int .i64 1,.int .i64 7,.str ⟨#[]⟩]]],.agg [.int .i64 4,.lst 3 false [.agg [.int .i64 1,.int .i64 2,.str ⟨#[]⟩],.agg [.int .i64 1,.int .i64 1,.str ⟨#[]⟩]]]]]]
def clR1:V:=.int .i64 0
theorem clP1:AM.Pure clR1:=by simp[clR1]
theorem clQ1:∀a∈clA1,AM.Pure a:=by simp[clA1]
theorem cl1:aL Tryz.prog 77 clA1 fun x=>x=clR1:=aO tok mixed au bG (fuel:=1000) (d:=40) (by kernel_rfl) clP1
def clA11:List V:=[.lst 2 false [.agg [.int .i64 3,.lst 3 false [.agg [.int .i64 1,.int .i64 1,.str ⟨#[]⟩],.agg [.int .i64 1,.int .i64 7,.str ⟨#[]⟩]]],.agg [.int .i64 2,.lst 3 false [.agg [.int .i64 1,.int .i64 1,.str ⟨#[]⟩],.agg [.int .i64 1,.int .i64 2,.str ⟨#[]⟩]]]],.lst 11 false [.agg [.int .i64 1,.int .i64 0,.int .i64 0,.int .i64 0,.str ⟨#[]⟩,.int .i64 1,.int .i64 2,.int .i64 0,.int .i64 0,.int .i64 0,.str ⟨#[]⟩],.agg [.int .i64 1,.int .i64 1,.int .i64 0,.int .i64 0,.str ⟨#[]⟩,.int .i64 2,.int .i64 2,.int .i64 1,.int .i64 0,.int .i64 0,.str ⟨#[]⟩]]]
def clR11:V:=.bool true
theorem clP11:AM.Pure clR11:=by simp[clR11]
theorem clQ11:∀a∈clA11,AM.Pure a:=by simp[clA11]
theorem cl11:aL Tryz.prog 242 clA11 fun x=>x=clR11:=aO tok mixed au bG (fuel:=1000) (d:=40) (by kernel_rfl) clP11
def clA8:List V:=[.lst 2 false [.agg [.int .i64 2,.lst 3 false [.agg [.int .i64 1,.int .i64 1,.str ⟨#[]⟩],.agg [.int .i64 1,.int .i64 2,.str ⟨#[]⟩]]],.agg [.int .i64 3,.lst 3 false [.agg [.int .i64 1,.int .i64 1,.str ⟨#[]⟩],.agg [.int .i64 1,.int .i64 7,.str ⟨#[]⟩]]]],.lst 11 false [.agg [.int .i64 1,.int .i64 0,.int .i64 0,.int .i64 0,.str ⟨#[]⟩,.int .i64 1,.int .i64 2,.int .i64 0,.int .i64 0,.int .i64 0,.str ⟨#[]⟩],.agg [.int .i64 1,.int .i64 1,.int .i64 0,.int .i64 0,.str ⟨#[]⟩,.int .i64 2,.int .i64 2,.int .i64 1,.int .i64 0,.int .i64 0,.str ⟨#[]⟩]]]
def clR8:V:=.bool true
theorem clP8:AM.Pure clR8:=by simp[clR8]
theorem clQ8:∀a∈clA8,AM.Pure a:=by simp[clA8]
theorem cl8:aL Tryz.prog 242 clA8 fun x=>x=clR8:=aO tok mixed au bG (fuel:=1000) (d:=40) (by kernel_rfl) clP8
def clA13:List V:=[.lst 2 false [.agg [.int .i64 4,.lst 3 false [.agg [.int .i64 1,.int .i64 2,.str ⟨#[]⟩],.agg [.int .i64 1,.int .i64 1,.str ⟨#[]⟩]]],.agg [.int .i64 1,.lst 3 false [.agg [.int .i64 1,.int .i64 1,.str ⟨#[]⟩],.agg [.int .i64 1,.int .i64 1,.str ⟨#[]⟩]]]],.lst 11 false [.agg [.int .i64 1,.int .i64 0,.int .i64 0,.int .i64 0,.str ⟨#[]⟩,.int .i64 1,.int .i64 2,.int .i64 0,.int .i64 0,.int .i64 0,.str ⟨#[]⟩],.agg [.int .i64 1,.int .i64 1,.int .i64 0,.int .i64 0,.str ⟨#[]⟩,.int .i64 2,.int .i64 2,.int .i64 1,.int .i64 0,.int .i64 0,.str ⟨#[]⟩]]]
def clR13:V:=.bool false
theorem clP13:AM.Pure clR13:=by simp[clR13]
theorem clQ13:∀a∈clA13,AM.Pure a:=by simp[clA13]
theorem cl13:aL Tryz.prog 242 clA13 fun x=>x=clR13:=aO tok mixed au bG (fuel:=1000) (d:=40) (by kernel_rfl) clP13
def clA14:List V:=[.lst 2 false [.agg [.int .i64 4,.lst 3 false [.agg [.int .i64 1,.int .i64 2,.str ⟨#[]⟩],.agg [.int .i64 1,.int .i64 1,.str ⟨#[]⟩]]],.agg [.int .i64 2,.lst 3 false [.agg [.int .i64 1,.int .i64 1,.str ⟨#[]⟩],.agg [.int .i64 1,.int .i64 2,.str ⟨#[]⟩]]]],.lst 11 false [.agg [.int .i64 1,.int .i64 0,.int .i64 0,.int .i64 0,.str ⟨#[]⟩,.int .i64 1,.int .i64 2,.int .i64 0,.int .i64 0,.int .i64 0,.str ⟨#[]⟩],.agg [.int .i64 1,.int .i64 1,.int .i64 0,.int .i64 0,.str ⟨#[]⟩,.int .i64 2,.int .i64 2,.int .i64 1,.int .i64 0,.int .i64 0,.str ⟨#[]⟩]]]
def clR14:V:=.bool false
theorem clP14:AM.Pure clR14:=by simp[clR14]
theorem clQ14:∀a∈clA14,AM.Pure a:=by simp[clA14]
theorem cl14:aL Tryz.prog 242 clA14 fun x=>x=clR14:=aO tok mixed au bG (fuel:=1000) (d:=40) (by kernel_rfl) clP14
def clA27:List V:=[.agg [.str ⟨#[114]⟩,.lst 1 true [.str ⟨#[97]⟩,.str ⟨#[98]⟩],.lst 2 false [.agg [.int .i64 1,.lst 3 false [.agg [.int .i64 1,.int .i64 1,.str ⟨#[]⟩],.agg [.int .i64 1,.int .i64 1,.str ⟨#[]⟩]]],.agg [.int .i64 2,.lst 3 false [.agg [.int .i64 1,.int .i64 1,.str ⟨#[]⟩],.agg [.int .i64 1,.int .i64 2,.str ⟨#[]⟩]]],.agg [.int .i64 3,.lst 3 false [.agg [.int .i64 1,.int .i64 1,.str ⟨#[]⟩],.agg [.int .i64 1,.int .i64 7,.str ⟨#[]⟩]]],.agg [.int .i64 4,.lst 3 false [.agg [.int .i64 1,.int .i64 2,.str ⟨#[]⟩],.agg [.int .i64 1,.int .i64 1,.str ⟨#[]⟩]]]]],.lst 1 true [.int .i64 2,.int .i64 3]]
def clR27:V:=.tup [.lst 1 false [.int .i64 1,.int .i64 2],.int .i64 0]
theorem clP27:AM.Pure clR27:=by simp[clR27]
theorem clQ27:∀a∈clA27,AM.Pure a:=by simp[clA27]
theorem cl27:aL Tryz.prog 54 clA27 fun x=>x=clR27:=aO tok mixed au bG (fuel:=1000) (d:=40) (by kernel_rfl) clP27
def clA9:List V:=[.lst 2 false [.agg [.int .i64 2,.lst 3 false [.agg [.int .i64 1,.int .i64 1,.str ⟨#[]⟩],.agg [.int .i64 1,.int .i64 2,.str ⟨#[]⟩]]],.agg [.int .i64 4,.lst 3 false [.agg [.int .i64 1,.int .i64 2,.str ⟨#[]⟩],.agg [.int .i64 1,.int .i64 1,.str ⟨#[]⟩]]]],.lst 11 false [.agg [.int .i64 1,.int .i64 0,.int .i64 0,.int .i64 0,.str ⟨#[]⟩,.int .i64 1,.int .i64 2,.int .i64 0,.int .i64 0,.int .i64 0,.str ⟨#[]⟩],.agg [.int .i64 1,.int .i64 1,.int .i64 0,.int .i64 0,.str ⟨#[]⟩,.int .i64 2,.int .i64 2,.int .i64 1,.int .i64 0,.int .i64 0,.str ⟨#[]⟩]]]
def clR9:V:=.bool false
theorem clP9:AM.Pure clR9:=by simp[clR9]
theorem clQ9:∀a∈clA9,AM.Pure a:=by simp[clA9]
theorem cl9:aL Tryz.prog 242 clA9 fun x=>x=clR9:=aO tok mixed au bG (fuel:=1000) (d:=40) (by kernel_rfl) clP9
def clA18:List V:=[.lst 1 false [.int .i64 1,.int .i64 2,.int .i64 3,.int .i64 4],.int .i64 1]
def clR18:V:=.tup [.int .i64 0,.bool true]
theorem clP18:AM.Pure clR18:=by simp[clR18]
theorem clQ18:∀a∈clA18,AM.Pure a:=by simp[clA18]
theorem cl18:aL Tryz.prog 40 clA18 fun x=>x=clR18:=aO tok mixed au bG (fuel:=1000) (d:=40) (by kernel_rfl) clP18
def clA29:List V:=[.agg [.lst 1 false [.int .i64 5,.int .i64 1,.int .i64 1,.int .i64 1],.lst 1 false [.lst 1 false [.int .i64 0,.int .i64 1],.lst 1 false [.int .i64 0,.int .i64 2],.lst 1 false [.int .i64 1,.int .i64 2]]],.int .i64 2,.lst 2 true [.agg [.int .i64 (-1),.lst 2 true [.agg [.int .i64 0,.int .i64 1],.agg [.int .i64 1,.int .i64 1]]]]]
def clR29:V:=.bool true
theorem clP29:AM.Pure clR29:=by simp[clR29]
theorem clQ29:∀a∈clA29,AM.Pure a:=by simp[clA29]
theorem cl29:aL Tryz.prog 57 clA29 fun x=>x=clR29:=aO tok mixed au bG (fuel:=1000) (d:=40) (by kernel_rfl) clP29
def clA31:List V:=[.agg [.lst 1 false [.int .i64 5,.int .i64 1,.int .i64 1,.int .i64 1],.lst 1 false [.lst 1 false [.int .i64 0,.int .i64 1],.lst 1 false [.int .i64 0,.int .i64 2],.lst 1 false [.int .i64 1,.int .i64 2]]],.int .i64 2,.lst 2 true [.agg [.int .i64 (-1),.lst 2 false [.agg [.int .i64 0,.int .i64 1],.agg [.int .i64 1,.int .i64 1]]]]]
def clR31:V:=.bool true
theorem clP31:AM.Pure clR31:=by simp[clR31]
theorem clQ31:∀a∈clA31,AM.Pure a:=by simp[clA31]
theorem cl31:aL Tryz.prog 57 clA31 fun x=>x=clR31:=aO tok mixed au bG (fuel:=1000) (d:=40) (by kernel_rfl) clP31
def clA7:List V:=[.lst 2 false [.agg [.int .i64 2,.lst 3 false [.agg [.int .i64 1,.int .i64 1,.str ⟨#[]⟩],.agg [.int .i64 1,.int .i64 2,.str ⟨#[]⟩]]],.agg [.int .i64 1,.lst 3 false [.agg [.int .i64 1,.int .i64 1,.str ⟨#[]⟩],.agg [.int .i64 1,.int .i64 1,.str ⟨#[]⟩]]]],.lst 11 false [.agg [.int .i64 1,.int .i64 0,.int .i64 0,.int .i64 0,.str ⟨#[]⟩,.int .i64 1,.int .i64 2,.int .i64 0,.int .i64 0,.int .i64 0,.str ⟨#[]⟩],.agg [.int .i64 1,.int .i64 1,.int .i64 0,.int .i64 0,.str ⟨#[]⟩,.int .i64 2,.int .i64 2,.int .i64 1,.int .i64 0,.int .i64 0,.str ⟨#[]⟩]]]
def clR7:V:=.bool true
theorem clP7:AM.Pure clR7:=by simp[clR7]
theorem clQ7:∀a∈clA7,AM.Pure a:=by simp[clA7]
theorem cl7:aL Tryz.prog 242 clA7 fun x=>x=clR7:=aO tok mixed au bG (fuel:=1000) (d:=40) (by kernel_rfl) clP7
def clA4:List V:=[.lst 2 false [.agg [.int .i64 1,.lst 3 false [.agg [.int .i64 1,.int .i64 1,.str ⟨#[]⟩],.agg [.int .i64 1,.int .i64 1,.str ⟨#[]⟩]]],.agg [.int .i64 2,.lst 3 false [.agg [.int .i64 1,.int .i64 1,.str ⟨#[]⟩],.agg [.int .i64 1,.int .i64 2,.str ⟨#[]⟩]]]],.lst 11 false [.agg [.int .i64 1,.int .i64 0,.int .i64 0,.int .i64 0,.str ⟨#[]⟩,.int .i64 1,.int .i64 2,.int .i64 0,.int .i64 0,.int .i64 0,.str ⟨#[]⟩],.agg [.int .i64 1,.int .i64 1,.int .i64 0,.int .i64 0,.str ⟨#[]⟩,.int .i64 2,.int .i64 2,.int .i64 1,.int .i64 0,.int .i64 0,.str ⟨#[]⟩]]]
def clR4:V:=.bool true
theorem clP4:AM.Pure clR4:=by simp[clR4]
theorem clQ4:∀a∈clA4,AM.Pure a:=by simp[clA4]
theorem cl4:aL Tryz.prog 242 clA4 fun x=>x=clR4:=aO tok mixed au bG (fuel:=1000) (d:=40) (by kernel_rfl) clP4
def clA23:List V:=[.agg [.lst 1 false [.int .i64 5,.int .i64 1,.int .i64 1,.int .i64 1],.lst 1 false [.lst 1 false [.int .i64 0,.int .i64 1],.lst 1 false [.int .i64 0,.int .i64 2],.lst 1 false [.int .i64 1,.int .i64 2]]],.lst 1 false [.int .i64 1,.int .i64 2]]
def clR23:V:=.tup [.int .i64 2,.int .i64 0]
theorem clP23:AM.Pure clR23:=by simp[clR23]
theorem clQ23:∀a∈clA23,AM.Pure a:=by simp[clA23]
theorem cl23:aL Tryz.prog 56 clA23 fun x=>x=clR23:=aO tok mixed au bG (fuel:=1000) (d:=40) (by kernel_rfl) clP23
def clA15:List V:=[.lst 2 false [.agg [.int .i64 4,.lst 3 false [.agg [.int .i64 1,.int .i64 2,.str ⟨#[]⟩],.agg [.int .i64 1,.int .i64 1,.str ⟨#[]⟩]]],.agg [.int .i64 3,.lst 3 false [.agg [.int .i64 1,.int .i64 1,.str ⟨#[]⟩],.agg [.int .i64 1,.int .i64 7,.str ⟨#[]⟩]]]],.lst 11 false [.agg [.int .i64 1,.int .i64 0,.int .i64 0,.int .i64 0,.str ⟨#[]⟩,.int .i64 1,.int .i64 2,.int .i64 0,.int .i64 0,.int .i64 0,.str ⟨#[]⟩],.agg [.int .i64 1,.int .i64 1,.int .i64 0,.int .i64 0,.str ⟨#[]⟩,.int .i64 2,.int .i64 2,.int .i64 1,.int .i64 0,.int .i64 0,.str ⟨#[]⟩]]]
def clR15:V:=.bool false
theorem clP15:AM.Pure clR15:=by simp[clR15]
theorem clQ15:∀a∈clA15,AM.Pure a:=by simp[clA15]
theorem cl15:aL Tryz.prog 242 clA15 fun x=>x=clR15:=aO tok mixed au bG (fuel:=1000) (d:=40) (by kernel_rfl) clP15
def clA30:List V:=[.agg [.str ⟨#[114]⟩,.lst 1 true [.str ⟨#[97]⟩,.str ⟨#[98]⟩],.lst 2 false [.agg [.int .i64 1,.lst 3 false [.agg [.int .i64 1,.int .i64 1,.str ⟨#[]⟩],.agg [.int .i64 1,.int .i64 1,.str ⟨#[]⟩]]],.agg [.int .i64 2,.lst 3 false [.agg [.int .i64 1,.int .i64 1,.str ⟨#[]⟩],.agg [.int .i64 1,.int .i64 2,.str ⟨#[]⟩]]],.agg [.int .i64 3,.lst 3 false [.agg [.int .i64 1,.int .i64 1,.str ⟨#[]⟩],.agg [.int .i64 1,.int .i64 7,.str ⟨#[]⟩]]],.agg [.int .i64 4,.lst 3 false [.agg [.int .i64 1,.int .i64 2,.str ⟨#[]⟩],.agg [.int .i64 1,.int .i64 1,.str ⟨#[]⟩]]]]],.lst 1 false [.int .i64 2,.int .i64 3]]
def clR30:V:=.tup [.lst 1 false [.int .i64 1,.int .i64 2],.int .i64 0]
theorem clP30:AM.Pure clR30:=by simp[clR30]
theorem clQ30:∀a∈clA30,AM.Pure a:=by simp[clA30]
theorem cl30:aL Tryz.prog 54 clA30 fun x=>x=clR30:=aO tok mixed au bG (fuel:=1000) (d:=40) (by kernel_rfl) clP30
def clA12:List V:=[.lst 2 false [.agg [.int .i64 3,.lst 3 false [.agg [.int .i64 1,.int .i64 1,.str ⟨#[]⟩],.agg [.int .i64 1,.int .i64 7,.str ⟨#[]⟩]]],.agg [.int .i64 4,.lst 3 false [.agg [.int .i64 1,.int .i64 2,.str ⟨#[]⟩],.agg [.int .i64 1,.int .i64 1,.str ⟨#[]⟩]]]],.lst 11 false [.agg [.int .i64 1,.int .i64 0,.int .i64 0,.int .i64 0,.str ⟨#[]⟩,.int .i64 1,.int .i64 2,.int .i64 0,.int .i64 0,.int .i64 0,.str ⟨#[]⟩],.agg [.int .i64 1,.int .i64 1,.int .i64 0,.int .i64 0,.str ⟨#[]⟩,.int .i64 2,.int .i64 2,.int .i64 1,.int .i64 0,.int .i64 0,.str ⟨#[]⟩]]]
def clR12:V:=.bool false
theorem clP12:AM.Pure clR12:=by simp[clR12]
theorem clQ12:∀a∈clA12,AM.Pure a:=by simp[clA12]
theorem cl12:aL Tryz.prog 242 clA12 fun x=>x=clR12:=aO tok mixed au bG (fuel:=1000) (d:=40) (by kernel_rfl) clP12
def clA20:List V:=[.lst 1 false [.int .i64 1,.int .i64 2,.int .i64 3,.int .i64 4],.int .i64 3]
def clR20:V:=.tup [.int .i64 2,.bool true]
theorem clP20:AM.Pure clR20:=by simp[clR20]
theorem clQ20:∀a∈clA20,AM.Pure a:=by simp[clA20]
theorem cl20:aL Tryz.prog 40 clA20 fun x=>x=clR20:=aO tok mixed au bG (fuel:=1000) (d:=40) (by kernel_rfl) clP20
def xt0:cH:=fun f args H=>if tA f 38 then(if eqL (eqV 40) args clA0 then some (clR0,H) else extG f args H) else extG f args H
theorem xt0_ok:bN Tryz.prog xt0:=bO bG cl0 clQ0
def xt1:cH:=fun f args H=>if tA f 77 then(if eqL (eqV 40) args clA1 then some (clR1,H) else xt0 f args H) else xt0 f args H
theorem xt1_ok:bN Tryz.prog xt1:=bO xt0_ok cl1 clQ1
def xt2:cH:=fun f args H=>if tA f 126 then(if eqL (eqV 40) args clA2 then some (clR2,H) else xt1 f args H) else xt1 f args H
theorem xt2_ok:bN Tryz.prog xt2:=bO xt1_ok cl2 clQ2
def xt4:cH:=mZ 242 clA4 clR4 xt2
theorem xt4_ok:bN Tryz.prog xt4:=dx xt2_ok cl4 clQ4 (by unfold clR4;constructor)
def xt5:cH:=mZ 242 clA5 clR5 xt4
theorem xt5_ok:bN Tryz.prog xt5:=dx xt4_ok cl5 clQ5 (by unfold clR5;constructor)
def xt6:cH:=mZ 242 clA6 clR6 xt5
theorem xt6_ok:bN Tryz.prog xt6:=dx xt5_ok cl6 clQ6 (by unfold clR6;constructor)
def xt7:cH:=mZ 242 clA7 clR7 xt6
theorem xt7_ok:bN Tryz.prog xt7:=dx xt6_ok cl7 clQ7 (by unfold clR7;constructor)
def xt8:cH:=mZ 242 clA8 clR8 xt7
theorem xt8_ok:bN Tryz.prog xt8:=dx xt7_ok cl8 clQ8 (by unfold clR8;constructor)
def xt9:cH:=mZ 242 clA9 clR9 xt8
theorem xt9_ok:bN Tryz.prog xt9:=dx xt8_ok cl9 clQ9 (by unfold clR9;constructor)
def xt10:cH:=mZ 242 clA10 clR10 xt9
theorem xt10_ok:bN Tryz.prog xt10:=dx xt9_ok cl10 clQ10 (by unfold clR10;constructor)
def xt11:cH:=mZ 242 clA11 clR11 xt10
theorem xt11_ok:bN Tryz.prog xt11:=dx xt10_ok cl11 clQ11 (by unfold clR11;constructor)
def xt12:cH:=mZ 242 clA12 clR12 xt11
theorem xt12_ok:bN Tryz.prog xt12:=dx xt11_ok cl12 clQ12 (by unfold clR12;constructor)
def xt13:cH:=mZ 242 clA13 clR13 xt12
theorem xt13_ok:bN Tryz.prog xt13:=dx xt12_ok cl13 clQ13 (by unfold clR13;constructor)
def xt14:cH:=mZ 242 clA14 clR14 xt13
theorem xt14_ok:bN Tryz.prog xt14:=dx xt13_ok cl14 clQ14 (by unfold clR14;constructor)
def xt15:cH:=mZ 242 clA15 clR15 xt14
theorem xt15_ok:bN Tryz.prog xt15:=dx xt14_ok cl15 clQ15 (by unfold clR15;constructor)
def xt18:cH:=fun f args H=>if tA f 40 then(if eqL (eqV 40) args clA18 then some (clR18,H) else xt15 f args H) else xt15 f args H
theorem xt18_ok:bN Tryz.prog xt18:=bO xt15_ok cl18 clQ18
def xt19:cH:=fun f args H=>if tA f 40 then(if eqL (eqV 40) args clA19 then some (clR19,H) else xt18 f args H) else xt18 f args H
theorem xt19_ok:bN Tryz.prog xt19:=bO xt18_ok cl19 clQ19
def xt20:cH:=fun f args H=>if tA f 40 then(if eqL (eqV 40) args clA20 then some (clR20,H) else xt19 f args H) else xt19 f args H
theorem xt20_ok:bN Tryz.prog xt20:=bO xt19_ok cl20 clQ20
def xt22:cH:=fun f args H=>if tA f 69 then(if eqL (eqV 40) args clA22 then some (clR22,H) else xt20 f args H) else xt20 f args H
theorem xt22_ok:bN Tryz.prog xt22:=bO xt20_ok cl22 clQ22
def xt23:cH:=fun f args H=>if tA f 56 then(if eqL (eqV 40) args clA23 then some (clR23,H) else xt22 f args H) else xt22 f args H
theorem xt23_ok:bN Tryz.prog xt23:=bO xt22_ok cl23 clQ23
def xt25:cH:=fun f args H=>if tA f 47 then(if eqL (eqV 40) args clA25 then some (clR25,H) else xt23 f args H) else xt23 f args H
theorem xt25_ok:bN Tryz.prog xt25:=bO xt23_ok cl25 clQ25
def xt27:cH:=fun f args H=>if tA f 54 then(if eqL (eqV 40) args clA27 then some (clR27,H) else xt25 f args H) else xt25 f args H
theorem xt27_ok:bN Tryz.prog xt27:=bO xt25_ok cl27 clQ27
def xt28:cH:=fun f args H=>if tA f 55 then(if eqL (eqV 40) args clA28 then some (clR28,H) else xt27 f args H) else xt27 f args H
theorem xt28_ok:bN Tryz.prog xt28:=bO xt27_ok cl28 clQ28
def xt29:cH:=fun f args H=>if tA f 57 then(if eqL (eqV 40) args clA29 then some (clR29,H) else xt28 f args H) else xt28 f args H
theorem xt29_ok:bN Tryz.prog xt29:=bO xt28_ok cl29 clQ29
def xt30:cH:=fun f args H=>if tA f 54 then(if eqL (eqV 40) args clA30 then some (clR30,H) else xt29 f args H) else xt29 f args H
theorem xt30_ok:bN Tryz.prog xt30:=bO xt29_ok cl30 clQ30
def xt31:cH:=fun f args H=>if tA f 57 then(if eqL (eqV 40) args clA31 then some (clR31,H) else xt30 f args H) else xt30 f args H
theorem xt31_ok:bN Tryz.prog xt31:=bO xt30_ok cl31 clQ31
def clA3:List V:=[.agg [.str ⟨#[114]⟩,.lst 1 true [.str ⟨#[97]⟩,.str ⟨#[98]⟩],.lst 2 false [.agg [.int .i64 1,.lst 3 false [.agg [.int .i64 1,.int .i64 1,.str ⟨#[]⟩],.agg [.int .i64 1,.int .i64 1,.str ⟨#[]⟩]]],.agg [.int .i64 2,.lst 3 false [.agg [.int .i64 1,.int .i64 1,.str ⟨#[]⟩],.agg [.int .i64 1,.int .i64 2,.str ⟨#[]⟩]]],.agg [.int .i64 3,.lst 3 false [.agg [.int .i64 1,.int .i64 1,.str ⟨#[]⟩],.agg [.int .i64 1,.int .i64 7,.str ⟨#[]⟩]]],.agg [.int .i64 4,.lst 3 false [.agg [.int .i64 1,.int .i64 2,.str ⟨#[]⟩],.agg [.int .i64 1,.int .i64 1,.str ⟨#[]⟩]]]]],.agg [.int .i64 2,.lst 11 false [.agg [.int .i64 1,.int .i64 0,.int .i64 0,.int .i64 0,.str ⟨#[]⟩,.int .i64 1,.int .i64 2,.int .i64 0,.int .i64 0,.int .i64 0,.str ⟨#[]⟩],.agg [.int .i64 1,.int .i64 1,.int .i64 0,.int .i64 0,.str ⟨#[]⟩,.int .i64 2,.int .i64 2,.int .i64 1,.int .i64 0,.int .i64 0,.str ⟨#[]⟩]]]]
def clR3:V:=.int .i64 0
theorem clP3:AM.Pure clR3:=by simp[clR3]
theorem clQ3:∀a∈clA3,AM.Pure a:=by simp[clA3]
theorem cl3:aL Tryz.prog 193 clA3 fun x=>x=clR3:=aO tok mixed au xt31_ok (fuel:=1000) (d:=40) (by kernel_rfl) clP3
def xt3:cH:=fun f args H=>if tA f 193 then(if eqL (eqV 40) args clA3 then some (clR3,H) else xt31 f args H) else xt31 f args H
theorem xt3_ok:bN Tryz.prog xt3:=bO xt31_ok cl3 clQ3
def clA16:List V:=[.agg [.str ⟨#[114]⟩,.lst 1 true [.str ⟨#[97]⟩,.str ⟨#[98]⟩],.lst 2 false [.agg [.int .i64 1,.lst 3 false [.agg [.int .i64 1,.int .i64 1,.str ⟨#[]⟩],.agg [.int .i64 1,.int .i64 1,.str ⟨#[]⟩]]],.agg [.int .i64 2,.lst 3 false [.agg [.int .i64 1,.int .i64 1,.str ⟨#[]⟩],.agg [.int .i64 1,.int .i64 2,.str ⟨#[]⟩]]],.agg [.int .i64 3,.lst 3 false [.agg [.int .i64 1,.int .i64 1,.str ⟨#[]⟩],.agg [.int .i64 1,.int .i64 7,.str ⟨#[]⟩]]],.agg [.int .i64 4,.lst 3 false [.agg [.int .i64 1,.int .i64 2,.str ⟨#[]⟩],.agg [.int .i64 1,.int .i64 1,.str ⟨#[]⟩]]]]],.agg [.str ⟨#[]⟩,.str ⟨#[114]⟩,.int .i64 1,.int .u32 1,.int .u32 2,.int .u32 0,.int .u32 0,.str ⟨#[]⟩,.nilS,.str ⟨#[]⟩,.nilS,.nilS,.int .i64 0,.nilS,.nilS,.nilS,.int .i64 0,.nilS]]
def clR16:V:=.tup [.lst 1 false [.lst 1 false [.int .i64 1,.int .i64 2],.lst 1 false [.int .i64 1,.int .i64 3],.lst 1 false [.int .i64 2,.int .i64 3]],.int .i64 0]
theorem clP16:AM.Pure clR16:=by simp[clR16]
theorem clQ16:∀a∈clA16,AM.Pure a:=by simp[clA16]
theorem cl16:aL Tryz.prog 79 clA16 fun x=>x=clR16:=aO tok mixed au xt3_ok (fuel:=1000) (d:=40) (by kernel_rfl) clP16
def xt16:cH:=fun f args H=>if tA f 79 then(if eqL (eqV 40) args clA16 then some (clR16,H) else xt3 f args H) else xt3 f args H
theorem xt16_ok:bN Tryz.prog xt16:=bO xt3_ok cl16 clQ16
def clA17:List V:=[.agg [.str ⟨#[114]⟩,.lst 1 true [.str ⟨#[97]⟩,.str ⟨#[98]⟩],.lst 2 false [.agg [.int .i64 1,.lst 3 false [.agg [.int .i64 1,.int .i64 1,.str ⟨#[]⟩],.agg [.int .i64 1,.int .i64 1,.str ⟨#[]⟩]]],.agg [.int .i64 2,.lst 3 false [.agg [.int .i64 1,.int .i64 1,.str ⟨#[]⟩],.agg [.int .i64 1,.int .i64 2,.str ⟨#[]⟩]]],.agg [.int .i64 3,.lst 3 false [.agg [.int .i64 1,.int .i64 1,.str ⟨#[]⟩],.agg [.int .i64 1,.int .i64 7,.str ⟨#[]⟩]]],.agg [.int .i64 4,.lst 3 false [.agg [.int .i64 1,.int .i64 2,.str ⟨#[]⟩],.agg [.int .i64 1,.int .i64 1,.str ⟨#[]⟩]]]]],.lst 18 true [.agg [.str ⟨#[]⟩,.str ⟨#[114]⟩,.int .i64 1,.int .u32 1,.int .u32 2,.int .u32 0,.int .u32 0,.str ⟨#[]⟩,.nilS,.str ⟨#[]⟩,.nilS,.nilS,.int .i64 0,.nilS,.nilS,.nilS,.int .i64 0,.nilS]]]
def clR17:V:=.tup [.agg [.lst 1 false [.int .i64 1,.int .i64 2,.int .i64 3,.int .i64 4],.lst 1 false [.lst 1 false [.int .i64 1,.int .i64 2],.lst 1 false [.int .i64 1,.int .i64 3],.lst 1 false [.int .i64 2,.int .i64 3]]],.int .i64 0]
theorem clP17:AM.Pure clR17:=by simp[clR17]
theorem clQ17:∀a∈clA17,AM.Pure a:=by simp[clA17]
theorem cl17:aL Tryz.prog 39 clA17 fun x=>x=clR17:=aO tok mixed au xt16_ok (fuel:=1000) (d:=40) (by kernel_rfl) clP17
def xt17:cH:=fun f args H=>if tA f 39 then(if eqL (eqV 40) args clA17 then some (clR17,H) else xt16 f args H) else xt16 f args H
theorem xt17_ok:bN Tryz.prog xt17:=bO xt16_ok cl17 clQ17
def clA21:List V:=[.agg [.str ⟨#[114]⟩,.lst 1 true [.str ⟨#[97]⟩,.str ⟨#[98]⟩],.lst 2 false [.agg [.int .i64 1,.lst 3 false [.agg [.int .i64 1,.int .i64 1,.str ⟨#[]⟩],.agg [.int .i64 1,.int .i64 1,.str ⟨#[]⟩]]],.agg [.int .i64 2,.lst 3 false [.agg [.int .i64 1,.int .i64 1,.str ⟨#[]⟩],.agg [.int .i64 1,.int .i64 2,.str ⟨#[]⟩]]],.agg [.int .i64 3,.lst 3 false [.agg [.int .i64 1,.int .i64 1,.str ⟨#[]⟩],.agg [.int .i64 1,.int .i64 7,.str ⟨#[]⟩]]],.agg [.int .i64 4,.lst 3 false [.agg [.int .i64 1,.int .i64 2,.str ⟨#[]⟩],.agg [.int .i64 1,.int .i64 1,.str ⟨#[]⟩]]]]],.lst 18 true [.agg [.str ⟨#[]⟩,.str ⟨#[114]⟩,.int .i64 1,.int .u32 1,.int .u32 2,.int .u32 0,.int .u32 0,.str ⟨#[]⟩,.nilS,.str ⟨#[]⟩,.nilS,.nilS,.int .i64 0,.nilS,.nilS,.nilS,.int .i64 0,.nilS]],.lst 1 true [.int .i64 5,.int .i64 1,.int .i64 1,.int .i64 1]]
def clR21:V:=.tup [.agg [.lst 1 false [.int .i64 5,.int .i64 1,.int .i64 1,.int .i64 1],.lst 1 false [.lst 1 false [.int .i64 0,.int .i64 1],.lst 1 false [.int .i64 0,.int .i64 2],.lst 1 false [.int .i64 1,.int .i64 2]]],.int .i64 0]
theorem clP21:AM.Pure clR21:=by simp[clR21]
theorem clQ21:∀a∈clA21,AM.Pure a:=by simp[clA21]
theorem cl21:aL Tryz.prog 13 clA21 fun x=>x=clR21:=aO tok mixed au xt17_ok (fuel:=1000) (d:=40) (by kernel_rfl) clP21
def xt21:cH:=fun f args H=>if tA f 13 then(if eqL (eqV 40) args clA21 then some (clR21,H) else xt17 f args H) else xt17 f args H
theorem xt21_ok:bN Tryz.prog xt21:=bO xt17_ok cl21 clQ21
def clA24:List V:=[.agg [.lst 1 false [.int .i64 5,.int .i64 1,.int .i64 1,.int .i64 1],.lst 1 false [.lst 1 false [.int .i64 0,.int .i64 1],.lst 1 false [.int .i64 0,.int .i64 2],.lst 1 false [.int .i64 1,.int .i64 2]]],.int .i64 10000]
def clR24:V:=.tup [.lst 1 false [.int .i64 1,.int .i64 2],.int .i64 2,.int .i64 0]
theorem clP24:AM.Pure clR24:=by simp[clR24]
theorem clQ24:∀a∈clA24,AM.Pure a:=by simp[clA24]
theorem cl24:aL Tryz.prog 46 clA24 fun x=>x=clR24:=aO tok mixed au xt21_ok (fuel:=1000) (d:=40) (by kernel_rfl) clP24
def xt24:cH:=fun f args H=>if tA f 46 then(if eqL (eqV 40) args clA24 then some (clR24,H) else xt21 f args H) else xt21 f args H
theorem xt24_ok:bN Tryz.prog xt24:=bO xt21_ok cl24 clQ24
def clA26:List V:=[.agg [.str ⟨#[114]⟩,.lst 1 true [.str ⟨#[97]⟩,.str ⟨#[98]⟩],.lst 2 false [.agg [.int .i64 1,.lst 3 false [.agg [.int .i64 1,.int .i64 1,.str ⟨#[]⟩],.agg [.int .i64 1,.int .i64 1,.str ⟨#[]⟩]]],.agg [.int .i64 2,.lst 3 false [.agg [.int .i64 1,.int .i64 1,.str ⟨#[]⟩],.agg [.int .i64 1,.int .i64 2,.str ⟨#[]⟩]]],.agg [.int .i64 3,.lst 3 false [.agg [.int .i64 1,.int .i64 1,.str ⟨#[]⟩],.agg [.int .i64 1,.int .i64 7,.str ⟨#[]⟩]]],.agg [.int .i64 4,.lst 3 false [.agg [.int .i64 1,.int .i64 2,.str ⟨#[]⟩],.agg [.int .i64 1,.int .i64 1,.str ⟨#[]⟩]]]]],.lst 18 true [.agg [.str ⟨#[]⟩,.str ⟨#[114]⟩,.int .i64 1,.int .u32 1,.int .u32 2,.int .u32 0,.int .u32 0,.str ⟨#[]⟩,.nilS,.str ⟨#[]⟩,.nilS,.nilS,.int .i64 0,.nilS,.nilS,.nilS,.int .i64 0,.nilS]],.lst 1 true [.int .i64 5,.int .i64 1,.int .i64 1,.int .i64 1],.int .i64 10000]
def clR26:V:=.tup [.agg [.lst 1 false [.int .i64 2,.int .i64 3],.int .i64 2,.lst 2 true [.agg [.int .i64 (-1),.lst 2 false [.agg [.int .i64 0,.int .i64 1],.agg [.int .i64 1,.int .i64 1]]]]],.int .i64 0]
theorem clP26:AM.Pure clR26:=by simp[clR26]
theorem clQ26:∀a∈clA26,AM.Pure a:=by simp[clA26]
theorem cl26:aL Tryz.prog 18 clA26 fun x=>x=clR26:=aO tok mixed au xt24_ok (fuel:=1000) (d:=40) (by kernel_rfl) clP26
def xt26:cH:=fun f args H=>if tA f 18 then(if eqL (eqV 40) args clA26 then some (clR26,H) else xt24 f args H) else xt24 f args H
theorem xt26_ok:bN Tryz.prog xt26:=bO xt24_ok cl26 clQ26
theorem aw:aL Tryz.prog 12 [] fun x=>x = .bool true:=aO tok mixed au xt26_ok (fuel:=1000) (d:=40) (by kernel_rfl) (.bool _)
end
end Go.Proofs.YtjogkbekekdkjaaGreatDoor
