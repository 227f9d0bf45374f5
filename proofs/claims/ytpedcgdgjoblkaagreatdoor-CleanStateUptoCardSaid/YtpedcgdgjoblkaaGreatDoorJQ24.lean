/- JQ24: own texts of this seat, joined and shortened by pack4.py: C5, C4a, C4c. -/
import Derived.Test.YtpedcgdgjoblkaaGreatDoorJQ23
set_option linter.unusedVariables false
set_option linter.unusedSimpArgs false
set_option maxRecDepth 100000
set_option maxHeartbeats 64000000
open Int renaming toNat_of_nonneg→pF
open List renaming append_nil→eD
namespace Go.Proofs.YtpedcgdgjoblkaaGreatDoor
section
open Go Go.AM Go.RowKit
def extG:aU:=fun f args H=>match f,args with
 | 315,[.nilS,.int .i64 n]=>if n=0 then some (.nilS,H) else if 0≤n∧n≤1000000 then some (.buf H.length 0 0 0,H++[.buf 2 1 [] false]) else none
 | 250,[.nilS,.int .i64 n]=>if n=0 then some (.nilS,H) else if 0≤n∧n≤1000000 then some (.buf H.length 0 0 0,H++[.buf 319 2 [] false]) else none
 | 90,[.nilS,.int .i64 n]=>if n=0 then some (.nilS,H) else if 0≤n∧n≤1000000 then some (.buf H.length 0 0 0,H++[.buf 45 11 [] false]) else none
 | 194,[.nilS,.int .i64 n]=>if n=0 then some (.nilS,H) else if 0≤n∧n≤1000000 then some (.buf H.length 0 0 0,H++[.buf 116 2 [] false]) else none
 | f,args=>ext f args H
theorem aS:aL Tryz.prog extG:=fun f args H r H' h=>by
 unfold extG at h;split at h
 ·rename_i n;split at h
  ·rename_i h0;subst h0;cases h;have:=aW (H:=H) grow_nil_Z (by simp);simpa only[aI,eD] using this
  split at h
  ·rename_i hc;cases h;have:=callO (H:=H) (grow_con_Z n.toNat (by omega)) (by simp);rw[pF hc.1]at this
   have h2:=aI.mono this (K':=fun x y=>x = .buf H.length 0 0 0∧y=H++[.buf 2 1 [] false]) (by
    rintro r H' ⟨e,z,xs,rfl,rfl,_,rfl,rfl,rfl⟩
    exact⟨rfl,rfl⟩)
   simpa only[aI,eD] using h2
  ·cases h
 ·rename_i n;split at h
  ·rename_i h0;subst h0;cases h;have:=aW (H:=H) grow_nil_N (by simp);simpa only[aI,eD] using this
  split at h
  ·rename_i hc;cases h;have:=callO (H:=H) (grow_con_N n.toNat (by omega)) (by simp);rw[pF hc.1]at this
   have h2:=aI.mono this (K':=fun x y=>x = .buf H.length 0 0 0∧y=H++[.buf 319 2 [] false]) (by
    rintro r H' ⟨e,z,xs,rfl,rfl,_,rfl,rfl,rfl⟩
    exact⟨rfl,rfl⟩)
   simpa only[aI,eD] using h2
  ·cases h
 ·rename_i n;split at h
  ·rename_i h0;subst h0;cases h;have:=aW (H:=H) grow_nil_G (by simp);simpa only[aI,eD] using this
  split at h
  ·rename_i hc;cases h;have:=callO (H:=H) (grow_con_G n.toNat (by omega)) (by simp);rw[pF hc.1]at this
   have h2:=aI.mono this (K':=fun x y=>x = .buf H.length 0 0 0∧y=H++[.buf 45 11 [] false]) (by
    rintro r H' ⟨e,z,xs,rfl,rfl,_,rfl,rfl,rfl⟩
    exact⟨rfl,rfl⟩)
   simpa only[aI,eD] using h2
  ·cases h
 ·rename_i n;split at h
  ·rename_i h0;subst h0;cases h;have:=aW (H:=H) grow_nil_C (by simp);simpa only[aI,eD] using this
  split at h
  ·rename_i hc;cases h;have:=callO (H:=H) (grow_con_C n.toNat (by omega)) (by simp);rw[pF hc.1]at this
   have h2:=aI.mono this (K':=fun x y=>x = .buf H.length 0 0 0∧y=H++[.buf 116 2 [] false]) (by
    rintro r H' ⟨e,z,xs,rfl,rfl,_,rfl,rfl,rfl⟩
    exact⟨rfl,rfl⟩)
   simpa only[aI,eD] using h2
  ·cases h
 ·exact ext_ok _ _ H r H' h
end
end Go.Proofs.YtpedcgdgjoblkaaGreatDoor
namespace Go.Proofs.YtpedcgdgjoblkaaGreatDoor
section
open Go Go.AM
def clA43:List V:=[.agg [.str ⟨#[114]⟩,.lst 1 true [.str ⟨#[97]⟩,.str ⟨#[98]⟩],.lst 2 true [.agg [.int .i64 1,.lst 3 true [.agg [.int .i64 1,.int .i64 5,.str ⟨#[]⟩],.agg [.int .i64 1,.int .i64 1,.str ⟨#[]⟩]]],.agg [.int .i64 2,.lst 3 true [.agg [.int .i64 1,.int .i64 5,.str ⟨#[]⟩],.agg [.int .i64 1,.int .i64 2,.str ⟨#[]⟩]]],.agg [.int .i64 3,.lst 3 true [.agg [.int .i64 1,.int .i64 6,.str ⟨#[]⟩],.agg [.int .i64 1,.int .i64 1,.str ⟨#[]⟩]]]]],.lst 2 false [.agg [.int .u32 1,.int .u32 2]],.lst 2 false [.agg [.int .i64 2,.int .i64 1]]]
def clR43:V:=.bool true
theorem clP43:AM.Pure clR43:=by simp[clR43]
theorem clQ43:∀a∈clA43,AM.Pure a:=by simp[clA43]
theorem cl43:aE Tryz.prog 99 clA43 fun x=>x=clR43:=aC tok mixed aN aS (fuel:=1000) (d:=40) (by kernel_rfl) clP43
def clA46:List V:=[.agg [.str ⟨#[114]⟩,.lst 1 true [.str ⟨#[97]⟩,.str ⟨#[98]⟩],.lst 2 true [.agg [.int .i64 1,.lst 3 true [.agg [.int .i64 1,.int .i64 5,.str ⟨#[]⟩],.agg [.int .i64 1,.int .i64 1,.str ⟨#[]⟩]]],.agg [.int .i64 2,.lst 3 true [.agg [.int .i64 1,.int .i64 5,.str ⟨#[]⟩],.agg [.int .i64 1,.int .i64 2,.str ⟨#[]⟩]]],.agg [.int .i64 3,.lst 3 true [.agg [.int .i64 1,.int .i64 6,.str ⟨#[]⟩],.agg [.int .i64 1,.int .i64 1,.str ⟨#[]⟩]]]]],.lst 2 false [.agg [.int .i64 1,.int .i64 0],.agg [.int .i64 1,.int .i64 1],.agg [.int .i64 2,.int .i64 0],.agg [.int .i64 2,.int .i64 1],.agg [.int .i64 3,.int .i64 1]]]
def clR46:V:=.lst 2 false [.agg [.int .i64 3,.int .i64 0]]
theorem clP46:AM.Pure clR46:=by simp[clR46]
theorem clQ46:∀a∈clA46,AM.Pure a:=by simp[clA46]
theorem cl46:aE Tryz.prog 102 clA46 fun x=>x=clR46:=aC tok mixed aN aS (fuel:=1000) (d:=40) (by kernel_rfl) clP46
def clA47:List V:=[.agg [.str ⟨#[114]⟩,.lst 1 true [.str ⟨#[97]⟩,.str ⟨#[98]⟩],.lst 2 true [.agg [.int .i64 1,.lst 3 true [.agg [.int .i64 1,.int .i64 5,.str ⟨#[]⟩],.agg [.int .i64 1,.int .i64 1,.str ⟨#[]⟩]]],.agg [.int .i64 2,.lst 3 true [.agg [.int .i64 1,.int .i64 5,.str ⟨#[]⟩],.agg [.int .i64 1,.int .i64 2,.str ⟨#[]⟩]]],.agg [.int .i64 3,.lst 3 true [.agg [.int .i64 1,.int .i64 6,.str ⟨#[]⟩],.agg [.int .i64 1,.int .i64 1,.str ⟨#[]⟩]]]]],.lst 2 false [.agg [.int .u32 1,.int .u32 2]],.lst 2 false [.agg [.int .i64 3,.int .i64 0]]]
def clR47:V:=.bool false
theorem clP47:AM.Pure clR47:=by simp[clR47]
theorem clQ47:∀a∈clA47,AM.Pure a:=by simp[clA47]
theorem cl47:aE Tryz.prog 99 clA47 fun x=>x=clR47:=aC tok mixed aN aS (fuel:=1000) (d:=40) (by kernel_rfl) clP47
def clA39:List V:=[.agg [.str ⟨#[114]⟩,.lst 1 true [.str ⟨#[97]⟩,.str ⟨#[98]⟩],.lst 2 true [.agg [.int .i64 1,.lst 3 true [.agg [.int .i64 1,.int .i64 5,.str ⟨#[]⟩],.agg [.int .i64 1,.int .i64 1,.str ⟨#[]⟩]]],.agg [.int .i64 2,.lst 3 true [.agg [.int .i64 1,.int .i64 5,.str ⟨#[]⟩],.agg [.int .i64 1,.int .i64 2,.str ⟨#[]⟩]]],.agg [.int .i64 3,.lst 3 true [.agg [.int .i64 1,.int .i64 6,.str ⟨#[]⟩],.agg [.int .i64 1,.int .i64 1,.str ⟨#[]⟩]]]]],.lst 2 false [.agg [.int .u32 1,.int .u32 2]],.lst 2 false [.agg [.int .i64 2,.int .i64 0]]]
def clR39:V:=.bool true
theorem clP39:AM.Pure clR39:=by simp[clR39]
theorem clQ39:∀a∈clA39,AM.Pure a:=by simp[clA39]
theorem cl39:aE Tryz.prog 99 clA39 fun x=>x=clR39:=aC tok mixed aN aS (fuel:=1000) (d:=40) (by kernel_rfl) clP39
def clA28:List V:=[.agg [.str ⟨#[114]⟩,.lst 1 true [.str ⟨#[97]⟩,.str ⟨#[98]⟩],.lst 2 true [.agg [.int .i64 1,.lst 3 true [.agg [.int .i64 1,.int .i64 5,.str ⟨#[]⟩],.agg [.int .i64 1,.int .i64 1,.str ⟨#[]⟩]]],.agg [.int .i64 2,.lst 3 true [.agg [.int .i64 1,.int .i64 5,.str ⟨#[]⟩],.agg [.int .i64 1,.int .i64 2,.str ⟨#[]⟩]]],.agg [.int .i64 3,.lst 3 true [.agg [.int .i64 1,.int .i64 6,.str ⟨#[]⟩],.agg [.int .i64 1,.int .i64 1,.str ⟨#[]⟩]]]]],.nilS]
def clR28:V:=.lst 2 false [.agg [.int .i64 1,.int .i64 0],.agg [.int .i64 1,.int .i64 1],.agg [.int .i64 2,.int .i64 0],.agg [.int .i64 2,.int .i64 1],.agg [.int .i64 3,.int .i64 0],.agg [.int .i64 3,.int .i64 1]]
theorem clP28:AM.Pure clR28:=by simp[clR28]
theorem clQ28:∀a∈clA28,AM.Pure a:=by simp[clA28]
theorem cl28:aE Tryz.prog 102 clA28 fun x=>x=clR28:=aC tok mixed aN aS (fuel:=1000) (d:=40) (by kernel_rfl) clP28
def clA14:List V:=[.agg [.lst 1 false [.int .i64 1,.int .i64 1,.int .i64 1],.lst 1 false [.lst 1 false [.int .i64 0,.int .i64 1]]]]
def clR14:V:=.int .i64 0
theorem clP14:AM.Pure clR14:=by simp[clR14]
theorem clQ14:∀a∈clA14,AM.Pure a:=by simp[clA14]
theorem cl14:aE Tryz.prog 131 clA14 fun x=>x=clR14:=aC tok mixed aN aS (fuel:=1000) (d:=40) (by kernel_rfl) clP14
def clA37:List V:=[.lst 1 true [.lst 2 false [.agg [.int .i64 1,.int .i64 0],.agg [.int .i64 1,.int .i64 1]],.lst 2 false [.agg [.int .i64 2,.int .i64 1],.agg [.int .i64 3,.int .i64 0],.agg [.int .i64 3,.int .i64 1]]]]
def clR37:V:=.lst 2 false [.agg [.int .i64 1,.int .i64 0],.agg [.int .i64 1,.int .i64 1],.agg [.int .i64 2,.int .i64 1],.agg [.int .i64 3,.int .i64 0],.agg [.int .i64 3,.int .i64 1]]
theorem clP37:AM.Pure clR37:=by simp[clR37]
theorem clQ37:∀a∈clA37,AM.Pure a:=by simp[clA37]
theorem cl37:aE Tryz.prog 140 clA37 fun x=>x=clR37:=aC tok mixed aN aS (fuel:=1000) (d:=40) (by kernel_rfl) clP37
def clA45:List V:=[.lst 1 true [.lst 2 false [.agg [.int .i64 1,.int .i64 0],.agg [.int .i64 1,.int .i64 1],.agg [.int .i64 2,.int .i64 0],.agg [.int .i64 2,.int .i64 1]],.lst 2 false [.agg [.int .i64 3,.int .i64 1]]]]
def clR45:V:=.lst 2 false [.agg [.int .i64 1,.int .i64 0],.agg [.int .i64 1,.int .i64 1],.agg [.int .i64 2,.int .i64 0],.agg [.int .i64 2,.int .i64 1],.agg [.int .i64 3,.int .i64 1]]
theorem clP45:AM.Pure clR45:=by simp[clR45]
theorem clQ45:∀a∈clA45,AM.Pure a:=by simp[clA45]
theorem cl45:aE Tryz.prog 140 clA45 fun x=>x=clR45:=aC tok mixed aN aS (fuel:=1000) (d:=40) (by kernel_rfl) clP45
def clA0:List V:=[.str ⟨#[114]⟩]
def clR0:V:=.bool true
theorem clP0:AM.Pure clR0:=by simp[clR0]
theorem clQ0:∀a∈clA0,AM.Pure a:=by simp[clA0]
theorem cl0:aE Tryz.prog 84 clA0 fun x=>x=clR0:=aC tok mixed aN aS (fuel:=1000) (d:=40) (by kernel_rfl) clP0
def clA2:List V:=[.str ⟨#[98]⟩]
def clR2:V:=.bool true
theorem clP2:AM.Pure clR2:=by simp[clR2]
theorem clQ2:∀a∈clA2,AM.Pure a:=by simp[clA2]
theorem cl2:aE Tryz.prog 84 clA2 fun x=>x=clR2:=aC tok mixed aN aS (fuel:=1000) (d:=40) (by kernel_rfl) clP2
def clA20:List V:=[.int .i64 2,.lst 2 false [.agg [.int .u32 1,.int .u32 2]]]
def clR20:V:=.int .i64 0
theorem clP20:AM.Pure clR20:=by simp[clR20]
theorem clQ20:∀a∈clA20,AM.Pure a:=by simp[clA20]
theorem cl20:aE Tryz.prog 138 clA20 fun x=>x=clR20:=aC tok mixed aN aS (fuel:=1000) (d:=40) (by kernel_rfl) clP20
def clA22:List V:=[.nilS]
def clR22:V:=.nilS
theorem clP22:AM.Pure clR22:=by simp[clR22]
theorem clQ22:∀a∈clA22,AM.Pure a:=by simp[clA22]
theorem cl22:aE Tryz.prog 140 clA22 fun x=>x=clR22:=aC tok mixed aN aS (fuel:=1000) (d:=40) (by kernel_rfl) clP22
def clA51:List V:=[.agg [.str ⟨#[114]⟩,.lst 1 true [.str ⟨#[97]⟩,.str ⟨#[98]⟩],.lst 2 true [.agg [.int .i64 1,.lst 3 true [.agg [.int .i64 1,.int .i64 5,.str ⟨#[]⟩],.agg [.int .i64 1,.int .i64 1,.str ⟨#[]⟩]]],.agg [.int .i64 2,.lst 3 true [.agg [.int .i64 1,.int .i64 5,.str ⟨#[]⟩],.agg [.int .i64 1,.int .i64 2,.str ⟨#[]⟩]]],.agg [.int .i64 3,.lst 3 true [.agg [.int .i64 1,.int .i64 6,.str ⟨#[]⟩],.agg [.int .i64 1,.int .i64 1,.str ⟨#[]⟩]]]]],.lst 2 false [.agg [.int .u32 1,.int .u32 2]],.lst 2 false [.agg [.int .i64 3,.int .i64 0],.agg [.int .i64 3,.int .i64 1]]]
def clR51:V:=.bool false
theorem clP51:AM.Pure clR51:=by simp[clR51]
theorem clQ51:∀a∈clA51,AM.Pure a:=by simp[clA51]
theorem cl51:aE Tryz.prog 99 clA51 fun x=>x=clR51:=aC tok mixed aN aS (fuel:=1000) (d:=40) (by kernel_rfl) clP51
def clA30:List V:=[.agg [.str ⟨#[114]⟩,.lst 1 true [.str ⟨#[97]⟩,.str ⟨#[98]⟩],.lst 2 true [.agg [.int .i64 1,.lst 3 true [.agg [.int .i64 1,.int .i64 5,.str ⟨#[]⟩],.agg [.int .i64 1,.int .i64 1,.str ⟨#[]⟩]]],.agg [.int .i64 2,.lst 3 true [.agg [.int .i64 1,.int .i64 5,.str ⟨#[]⟩],.agg [.int .i64 1,.int .i64 2,.str ⟨#[]⟩]]],.agg [.int .i64 3,.lst 3 true [.agg [.int .i64 1,.int .i64 6,.str ⟨#[]⟩],.agg [.int .i64 1,.int .i64 1,.str ⟨#[]⟩]]]]],.lst 2 false [.agg [.int .i64 1,.int .i64 1],.agg [.int .i64 2,.int .i64 0],.agg [.int .i64 2,.int .i64 1],.agg [.int .i64 3,.int .i64 0],.agg [.int .i64 3,.int .i64 1]]]
def clR30:V:=.lst 2 false [.agg [.int .i64 1,.int .i64 0]]
theorem clP30:AM.Pure clR30:=by simp[clR30]
theorem clQ30:∀a∈clA30,AM.Pure a:=by simp[clA30]
theorem cl30:aE Tryz.prog 102 clA30 fun x=>x=clR30:=aC tok mixed aN aS (fuel:=1000) (d:=40) (by kernel_rfl) clP30
def clA42:List V:=[.agg [.str ⟨#[114]⟩,.lst 1 true [.str ⟨#[97]⟩,.str ⟨#[98]⟩],.lst 2 true [.agg [.int .i64 1,.lst 3 true [.agg [.int .i64 1,.int .i64 5,.str ⟨#[]⟩],.agg [.int .i64 1,.int .i64 1,.str ⟨#[]⟩]]],.agg [.int .i64 2,.lst 3 true [.agg [.int .i64 1,.int .i64 5,.str ⟨#[]⟩],.agg [.int .i64 1,.int .i64 2,.str ⟨#[]⟩]]],.agg [.int .i64 3,.lst 3 true [.agg [.int .i64 1,.int .i64 6,.str ⟨#[]⟩],.agg [.int .i64 1,.int .i64 1,.str ⟨#[]⟩]]]]],.lst 2 false [.agg [.int .i64 1,.int .i64 0],.agg [.int .i64 1,.int .i64 1],.agg [.int .i64 2,.int .i64 0],.agg [.int .i64 3,.int .i64 0],.agg [.int .i64 3,.int .i64 1]]]
def clR42:V:=.lst 2 false [.agg [.int .i64 2,.int .i64 1]]
theorem clP42:AM.Pure clR42:=by simp[clR42]
theorem clQ42:∀a∈clA42,AM.Pure a:=by simp[clA42]
theorem cl42:aE Tryz.prog 102 clA42 fun x=>x=clR42:=aC tok mixed aN aS (fuel:=1000) (d:=40) (by kernel_rfl) clP42
def clA50:List V:=[.agg [.str ⟨#[114]⟩,.lst 1 true [.str ⟨#[97]⟩,.str ⟨#[98]⟩],.lst 2 true [.agg [.int .i64 1,.lst 3 true [.agg [.int .i64 1,.int .i64 5,.str ⟨#[]⟩],.agg [.int .i64 1,.int .i64 1,.str ⟨#[]⟩]]],.agg [.int .i64 2,.lst 3 true [.agg [.int .i64 1,.int .i64 5,.str ⟨#[]⟩],.agg [.int .i64 1,.int .i64 2,.str ⟨#[]⟩]]],.agg [.int .i64 3,.lst 3 true [.agg [.int .i64 1,.int .i64 6,.str ⟨#[]⟩],.agg [.int .i64 1,.int .i64 1,.str ⟨#[]⟩]]]]],.lst 2 false [.agg [.int .i64 1,.int .i64 0],.agg [.int .i64 1,.int .i64 1],.agg [.int .i64 2,.int .i64 0],.agg [.int .i64 2,.int .i64 1]]]
def clR50:V:=.lst 2 false [.agg [.int .i64 3,.int .i64 0],.agg [.int .i64 3,.int .i64 1]]
theorem clP50:AM.Pure clR50:=by simp[clR50]
theorem clQ50:∀a∈clA50,AM.Pure a:=by simp[clA50]
theorem cl50:aE Tryz.prog 102 clA50 fun x=>x=clR50:=aC tok mixed aN aS (fuel:=1000) (d:=40) (by kernel_rfl) clP50
def clA9:List V:=[.int .i64 2,.agg [.int .i64 2,.lst 11 false [.agg [.int .i64 1,.int .i64 0,.int .i64 0,.int .i64 0,.str ⟨#[]⟩,.int .i64 1,.int .i64 2,.int .i64 0,.int .i64 0,.int .i64 0,.str ⟨#[]⟩],.agg [.int .i64 1,.int .i64 1,.int .i64 0,.int .i64 0,.str ⟨#[]⟩,.int .i64 2,.int .i64 2,.int .i64 1,.int .i64 0,.int .i64 0,.str ⟨#[]⟩]]]]
def clR9:V:=.bool true
theorem clP9:AM.Pure clR9:=by simp[clR9]
theorem clQ9:∀a∈clA9,AM.Pure a:=by simp[clA9]
theorem cl9:aE Tryz.prog 233 clA9 fun x=>x=clR9:=aC tok mixed aN aS (fuel:=1000) (d:=40) (by kernel_rfl) clP9
def clA29:List V:=[.lst 1 true [.lst 2 false [],.lst 2 false [.agg [.int .i64 1,.int .i64 1],.agg [.int .i64 2,.int .i64 0],.agg [.int .i64 2,.int .i64 1],.agg [.int .i64 3,.int .i64 0],.agg [.int .i64 3,.int .i64 1]]]]
def clR29:V:=.lst 2 false [.agg [.int .i64 1,.int .i64 1],.agg [.int .i64 2,.int .i64 0],.agg [.int .i64 2,.int .i64 1],.agg [.int .i64 3,.int .i64 0],.agg [.int .i64 3,.int .i64 1]]
theorem clP29:AM.Pure clR29:=by simp[clR29]
theorem clQ29:∀a∈clA29,AM.Pure a:=by simp[clA29]
theorem cl29:aE Tryz.prog 140 clA29 fun x=>x=clR29:=aC tok mixed aN aS (fuel:=1000) (d:=40) (by kernel_rfl) clP29
def clA33:List V:=[.lst 1 true [.lst 2 false [.agg [.int .i64 1,.int .i64 0]],.lst 2 false [.agg [.int .i64 2,.int .i64 0],.agg [.int .i64 2,.int .i64 1],.agg [.int .i64 3,.int .i64 0],.agg [.int .i64 3,.int .i64 1]]]]
def clR33:V:=.lst 2 false [.agg [.int .i64 1,.int .i64 0],.agg [.int .i64 2,.int .i64 0],.agg [.int .i64 2,.int .i64 1],.agg [.int .i64 3,.int .i64 0],.agg [.int .i64 3,.int .i64 1]]
theorem clP33:AM.Pure clR33:=by simp[clR33]
theorem clQ33:∀a∈clA33,AM.Pure a:=by simp[clA33]
theorem cl33:aE Tryz.prog 140 clA33 fun x=>x=clR33:=aC tok mixed aN aS (fuel:=1000) (d:=40) (by kernel_rfl) clP33
def clA41:List V:=[.lst 1 true [.lst 2 false [.agg [.int .i64 1,.int .i64 0],.agg [.int .i64 1,.int .i64 1],.agg [.int .i64 2,.int .i64 0]],.lst 2 false [.agg [.int .i64 3,.int .i64 0],.agg [.int .i64 3,.int .i64 1]]]]
def clR41:V:=.lst 2 false [.agg [.int .i64 1,.int .i64 0],.agg [.int .i64 1,.int .i64 1],.agg [.int .i64 2,.int .i64 0],.agg [.int .i64 3,.int .i64 0],.agg [.int .i64 3,.int .i64 1]]
theorem clP41:AM.Pure clR41:=by simp[clR41]
theorem clQ41:∀a∈clA41,AM.Pure a:=by simp[clA41]
theorem cl41:aE Tryz.prog 140 clA41 fun x=>x=clR41:=aC tok mixed aN aS (fuel:=1000) (d:=40) (by kernel_rfl) clP41
def clA49:List V:=[.lst 1 true [.lst 2 false [.agg [.int .i64 1,.int .i64 0],.agg [.int .i64 1,.int .i64 1],.agg [.int .i64 2,.int .i64 0],.agg [.int .i64 2,.int .i64 1]],.lst 2 false []]]
def clR49:V:=.lst 2 false [.agg [.int .i64 1,.int .i64 0],.agg [.int .i64 1,.int .i64 1],.agg [.int .i64 2,.int .i64 0],.agg [.int .i64 2,.int .i64 1]]
theorem clP49:AM.Pure clR49:=by simp[clR49]
theorem clQ49:∀a∈clA49,AM.Pure a:=by simp[clA49]
theorem cl49:aE Tryz.prog 140 clA49 fun x=>x=clR49:=aC tok mixed aN aS (fuel:=1000) (d:=40) (by kernel_rfl) clP49
def clA1:List V:=[.str ⟨#[97]⟩]
def clR1:V:=.bool true
theorem clP1:AM.Pure clR1:=by simp[clR1]
theorem clQ1:∀a∈clA1,AM.Pure a:=by simp[clA1]
theorem cl1:aE Tryz.prog 84 clA1 fun x=>x=clR1:=aC tok mixed aN aS (fuel:=1000) (d:=40) (by kernel_rfl) clP1
def clA6:List V:=[.int .i64 2,.lst 2 true [.agg [.int .u32 1,.int .u32 2]]]
def clR6:V:=.int .i64 0
theorem clP6:AM.Pure clR6:=by simp[clR6]
theorem clQ6:∀a∈clA6,AM.Pure a:=by simp[clA6]
theorem cl6:aE Tryz.prog 138 clA6 fun x=>x=clR6:=aC tok mixed aN aS (fuel:=1000) (d:=40) (by kernel_rfl) clP6
def clA23:List V:=[.agg [.nilS,.nilS]]
def clR23:V:=.int .i64 0
theorem clP23:AM.Pure clR23:=by simp[clR23]
theorem clQ23:∀a∈clA23,AM.Pure a:=by simp[clA23]
theorem cl23:aE Tryz.prog 131 clA23 fun x=>x=clR23:=aC tok mixed aN aS (fuel:=1000) (d:=40) (by kernel_rfl) clP23
end
end Go.Proofs.YtpedcgdgjoblkaaGreatDoor
