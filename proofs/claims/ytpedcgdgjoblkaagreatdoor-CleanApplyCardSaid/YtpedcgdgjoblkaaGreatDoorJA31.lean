/- JA31: own texts of this seat, joined and shortened by pack4.py: C5, C4a, C4b. -/
import Derived.Test.YtpedcgdgjoblkaaGreatDoorJA30
set_option linter.unusedVariables false
set_option linter.unusedSimpArgs false
set_option maxRecDepth 100000
set_option maxHeartbeats 64000000
open Int renaming toNat_of_nonneg→ma
open List renaming append_nil→kX
namespace Go.Proofs.YtpedcgdgjoblkaaGreatDoor
section
open Go Go.AM Go.RowKit
def extG:ag:=fun f args H=>match f,args with
 | 315,[.nilS,.int .i64 n]=>if n=0 then some (.nilS,H) else if 0≤n∧n≤1000000 then some (.buf H.length 0 0 0,H++[.buf 2 1 [] false]) else none
 | 250,[.nilS,.int .i64 n]=>if n=0 then some (.nilS,H) else if 0≤n∧n≤1000000 then some (.buf H.length 0 0 0,H++[.buf 319 2 [] false]) else none
 | 90,[.nilS,.int .i64 n]=>if n=0 then some (.nilS,H) else if 0≤n∧n≤1000000 then some (.buf H.length 0 0 0,H++[.buf 45 11 [] false]) else none
 | 194,[.nilS,.int .i64 n]=>if n=0 then some (.nilS,H) else if 0≤n∧n≤1000000 then some (.buf H.length 0 0 0,H++[.buf 116 2 [] false]) else none
 | f,args=>ext f args H
theorem af:aU Tryz.prog extG:=fun f args H r H' h=>by
 unfold extG at h;split at h
 ·rename_i n;split at h
  ·rename_i h0;subst h0;cases h;have:=aP (H:=H) grow_nil_Z (by simp);simpa only[aM,kX] using this
  split at h
  ·rename_i hc;cases h;have:=gX (H:=H) (grow_con_Z n.toNat (by omega)) (by simp);rw[ma hc.1]at this
   have h2:=aM.mono this (K':=fun x y=>x = .buf H.length 0 0 0∧y=H++[.buf 2 1 [] false]) (by
    rintro r H' ⟨e,z,xs,rfl,rfl,_,rfl,rfl,rfl⟩
    exact⟨rfl,rfl⟩)
   simpa only[aM,kX] using h2
  ·cases h
 ·rename_i n;split at h
  ·rename_i h0;subst h0;cases h;have:=aP (H:=H) grow_nil_N (by simp);simpa only[aM,kX] using this
  split at h
  ·rename_i hc;cases h;have:=gX (H:=H) (grow_con_N n.toNat (by omega)) (by simp);rw[ma hc.1]at this
   have h2:=aM.mono this (K':=fun x y=>x = .buf H.length 0 0 0∧y=H++[.buf 319 2 [] false]) (by
    rintro r H' ⟨e,z,xs,rfl,rfl,_,rfl,rfl,rfl⟩
    exact⟨rfl,rfl⟩)
   simpa only[aM,kX] using h2
  ·cases h
 ·rename_i n;split at h
  ·rename_i h0;subst h0;cases h;have:=aP (H:=H) grow_nil_G (by simp);simpa only[aM,kX] using this
  split at h
  ·rename_i hc;cases h;have:=gX (H:=H) (grow_con_G n.toNat (by omega)) (by simp);rw[ma hc.1]at this
   have h2:=aM.mono this (K':=fun x y=>x = .buf H.length 0 0 0∧y=H++[.buf 45 11 [] false]) (by
    rintro r H' ⟨e,z,xs,rfl,rfl,_,rfl,rfl,rfl⟩
    exact⟨rfl,rfl⟩)
   simpa only[aM,kX] using h2
  ·cases h
 ·rename_i n;split at h
  ·rename_i h0;subst h0;cases h;have:=aP (H:=H) grow_nil_C (by simp);simpa only[aM,kX] using this
  split at h
  ·rename_i hc;cases h;have:=gX (H:=H) (grow_con_C n.toNat (by omega)) (by simp);rw[ma hc.1]at this
   have h2:=aM.mono this (K':=fun x y=>x = .buf H.length 0 0 0∧y=H++[.buf 116 2 [] false]) (by
    rintro r H' ⟨e,z,xs,rfl,rfl,_,rfl,rfl,rfl⟩
    exact⟨rfl,rfl⟩)
   simpa only[aM,kX] using h2
  ·cases h
 ·exact ext_ok _ _ H r H' h
end
end Go.Proofs.YtpedcgdgjoblkaaGreatDoor
namespace Go.Proofs.YtpedcgdgjoblkaaGreatDoor
section
open Go Go.AM
def clA43:List V:=[.agg [.str ⟨#[114]⟩,.lst 1 true [.str ⟨#[97]⟩,.str ⟨#[98]⟩],.lst 2 true [.agg [.int .i64 1,.lst 3 true [.agg [.int .i64 1,.int .i64 5,.str ⟨#[]⟩],.agg [.int .i64 1,.int .i64 1,.str ⟨#[]⟩]]],.agg [.int .i64 2,.lst 3 true [.agg [.int .i64 1,.int .i64 5,.str ⟨#[]⟩],.agg [.int .i64 1,.int .i64 2,.str ⟨#[]⟩]]],.agg [.int .i64 3,.lst 3 true [.agg [.int .i64 1,.int .i64 6,.str ⟨#[]⟩],.agg [.int .i64 1,.int .i64 1,.str ⟨#[]⟩]]]]],.lst 2 false [.agg [.int .u32 1,.int .u32 2]],.lst 2 false [.agg [.int .i64 2,.int .i64 1]]]
def clR43:V:=.bool true
theorem clP43:AM.Pure clR43:=by simp[clR43]
theorem clQ43:∀a∈clA43,AM.Pure a:=by simp[clA43]
theorem cl43:aK Tryz.prog 99 clA43 fun x=>x=clR43:=aF tok mixed aY af (fuel:=1000) (d:=40) (by kernel_rfl) clP43
def clA46:List V:=[.agg [.str ⟨#[114]⟩,.lst 1 true [.str ⟨#[97]⟩,.str ⟨#[98]⟩],.lst 2 true [.agg [.int .i64 1,.lst 3 true [.agg [.int .i64 1,.int .i64 5,.str ⟨#[]⟩],.agg [.int .i64 1,.int .i64 1,.str ⟨#[]⟩]]],.agg [.int .i64 2,.lst 3 true [.agg [.int .i64 1,.int .i64 5,.str ⟨#[]⟩],.agg [.int .i64 1,.int .i64 2,.str ⟨#[]⟩]]],.agg [.int .i64 3,.lst 3 true [.agg [.int .i64 1,.int .i64 6,.str ⟨#[]⟩],.agg [.int .i64 1,.int .i64 1,.str ⟨#[]⟩]]]]],.lst 2 false [.agg [.int .i64 1,.int .i64 0],.agg [.int .i64 1,.int .i64 1],.agg [.int .i64 2,.int .i64 0],.agg [.int .i64 2,.int .i64 1],.agg [.int .i64 3,.int .i64 1]]]
def clR46:V:=.lst 2 false [.agg [.int .i64 3,.int .i64 0]]
theorem clP46:AM.Pure clR46:=by simp[clR46]
theorem clQ46:∀a∈clA46,AM.Pure a:=by simp[clA46]
theorem cl46:aK Tryz.prog 102 clA46 fun x=>x=clR46:=aF tok mixed aY af (fuel:=1000) (d:=40) (by kernel_rfl) clP46
def clA47:List V:=[.agg [.str ⟨#[114]⟩,.lst 1 true [.str ⟨#[97]⟩,.str ⟨#[98]⟩],.lst 2 true [.agg [.int .i64 1,.lst 3 true [.agg [.int .i64 1,.int .i64 5,.str ⟨#[]⟩],.agg [.int .i64 1,.int .i64 1,.str ⟨#[]⟩]]],.agg [.int .i64 2,.lst 3 true [.agg [.int .i64 1,.int .i64 5,.str ⟨#[]⟩],.agg [.int .i64 1,.int .i64 2,.str ⟨#[]⟩]]],.agg [.int .i64 3,.lst 3 true [.agg [.int .i64 1,.int .i64 6,.str ⟨#[]⟩],.agg [.int .i64 1,.int .i64 1,.str ⟨#[]⟩]]]]],.lst 2 false [.agg [.int .u32 1,.int .u32 2]],.lst 2 false [.agg [.int .i64 3,.int .i64 0]]]
def clR47:V:=.bool false
theorem clP47:AM.Pure clR47:=by simp[clR47]
theorem clQ47:∀a∈clA47,AM.Pure a:=by simp[clA47]
theorem cl47:aK Tryz.prog 99 clA47 fun x=>x=clR47:=aF tok mixed aY af (fuel:=1000) (d:=40) (by kernel_rfl) clP47
def clA39:List V:=[.agg [.str ⟨#[114]⟩,.lst 1 true [.str ⟨#[97]⟩,.str ⟨#[98]⟩],.lst 2 true [.agg [.int .i64 1,.lst 3 true [.agg [.int .i64 1,.int .i64 5,.str ⟨#[]⟩],.agg [.int .i64 1,.int .i64 1,.str ⟨#[]⟩]]],.agg [.int .i64 2,.lst 3 true [.agg [.int .i64 1,.int .i64 5,.str ⟨#[]⟩],.agg [.int .i64 1,.int .i64 2,.str ⟨#[]⟩]]],.agg [.int .i64 3,.lst 3 true [.agg [.int .i64 1,.int .i64 6,.str ⟨#[]⟩],.agg [.int .i64 1,.int .i64 1,.str ⟨#[]⟩]]]]],.lst 2 false [.agg [.int .u32 1,.int .u32 2]],.lst 2 false [.agg [.int .i64 2,.int .i64 0]]]
def clR39:V:=.bool true
theorem clP39:AM.Pure clR39:=by simp[clR39]
theorem clQ39:∀a∈clA39,AM.Pure a:=by simp[clA39]
theorem cl39:aK Tryz.prog 99 clA39 fun x=>x=clR39:=aF tok mixed aY af (fuel:=1000) (d:=40) (by kernel_rfl) clP39
def clA28:List V:=[.agg [.str ⟨#[114]⟩,.lst 1 true [.str ⟨#[97]⟩,.str ⟨#[98]⟩],.lst 2 true [.agg [.int .i64 1,.lst 3 true [.agg [.int .i64 1,.int .i64 5,.str ⟨#[]⟩],.agg [.int .i64 1,.int .i64 1,.str ⟨#[]⟩]]],.agg [.int .i64 2,.lst 3 true [.agg [.int .i64 1,.int .i64 5,.str ⟨#[]⟩],.agg [.int .i64 1,.int .i64 2,.str ⟨#[]⟩]]],.agg [.int .i64 3,.lst 3 true [.agg [.int .i64 1,.int .i64 6,.str ⟨#[]⟩],.agg [.int .i64 1,.int .i64 1,.str ⟨#[]⟩]]]]],.nilS]
def clR28:V:=.lst 2 false [.agg [.int .i64 1,.int .i64 0],.agg [.int .i64 1,.int .i64 1],.agg [.int .i64 2,.int .i64 0],.agg [.int .i64 2,.int .i64 1],.agg [.int .i64 3,.int .i64 0],.agg [.int .i64 3,.int .i64 1]]
theorem clP28:AM.Pure clR28:=by simp[clR28]
theorem clQ28:∀a∈clA28,AM.Pure a:=by simp[clA28]
theorem cl28:aK Tryz.prog 102 clA28 fun x=>x=clR28:=aF tok mixed aY af (fuel:=1000) (d:=40) (by kernel_rfl) clP28
def clA14:List V:=[.agg [.lst 1 false [.int .i64 1,.int .i64 1,.int .i64 1],.lst 1 false [.lst 1 false [.int .i64 0,.int .i64 1]]]]
def clR14:V:=.int .i64 0
theorem clP14:AM.Pure clR14:=by simp[clR14]
theorem clQ14:∀a∈clA14,AM.Pure a:=by simp[clA14]
theorem cl14:aK Tryz.prog 131 clA14 fun x=>x=clR14:=aF tok mixed aY af (fuel:=1000) (d:=40) (by kernel_rfl) clP14
def clA37:List V:=[.lst 1 true [.lst 2 false [.agg [.int .i64 1,.int .i64 0],.agg [.int .i64 1,.int .i64 1]],.lst 2 false [.agg [.int .i64 2,.int .i64 1],.agg [.int .i64 3,.int .i64 0],.agg [.int .i64 3,.int .i64 1]]]]
def clR37:V:=.lst 2 false [.agg [.int .i64 1,.int .i64 0],.agg [.int .i64 1,.int .i64 1],.agg [.int .i64 2,.int .i64 1],.agg [.int .i64 3,.int .i64 0],.agg [.int .i64 3,.int .i64 1]]
theorem clP37:AM.Pure clR37:=by simp[clR37]
theorem clQ37:∀a∈clA37,AM.Pure a:=by simp[clA37]
theorem cl37:aK Tryz.prog 140 clA37 fun x=>x=clR37:=aF tok mixed aY af (fuel:=1000) (d:=40) (by kernel_rfl) clP37
def clA45:List V:=[.lst 1 true [.lst 2 false [.agg [.int .i64 1,.int .i64 0],.agg [.int .i64 1,.int .i64 1],.agg [.int .i64 2,.int .i64 0],.agg [.int .i64 2,.int .i64 1]],.lst 2 false [.agg [.int .i64 3,.int .i64 1]]]]
def clR45:V:=.lst 2 false [.agg [.int .i64 1,.int .i64 0],.agg [.int .i64 1,.int .i64 1],.agg [.int .i64 2,.int .i64 0],.agg [.int .i64 2,.int .i64 1],.agg [.int .i64 3,.int .i64 1]]
theorem clP45:AM.Pure clR45:=by simp[clR45]
theorem clQ45:∀a∈clA45,AM.Pure a:=by simp[clA45]
theorem cl45:aK Tryz.prog 140 clA45 fun x=>x=clR45:=aF tok mixed aY af (fuel:=1000) (d:=40) (by kernel_rfl) clP45
def clA0:List V:=[.str ⟨#[114]⟩]
def clR0:V:=.bool true
theorem clP0:AM.Pure clR0:=by simp[clR0]
theorem clQ0:∀a∈clA0,AM.Pure a:=by simp[clA0]
theorem cl0:aK Tryz.prog 84 clA0 fun x=>x=clR0:=aF tok mixed aY af (fuel:=1000) (d:=40) (by kernel_rfl) clP0
def clA2:List V:=[.str ⟨#[98]⟩]
def clR2:V:=.bool true
theorem clP2:AM.Pure clR2:=by simp[clR2]
theorem clQ2:∀a∈clA2,AM.Pure a:=by simp[clA2]
theorem cl2:aK Tryz.prog 84 clA2 fun x=>x=clR2:=aF tok mixed aY af (fuel:=1000) (d:=40) (by kernel_rfl) clP2
def clA20:List V:=[.int .i64 2,.lst 2 false [.agg [.int .u32 1,.int .u32 2]]]
def clR20:V:=.int .i64 0
theorem clP20:AM.Pure clR20:=by simp[clR20]
theorem clQ20:∀a∈clA20,AM.Pure a:=by simp[clA20]
theorem cl20:aK Tryz.prog 138 clA20 fun x=>x=clR20:=aF tok mixed aY af (fuel:=1000) (d:=40) (by kernel_rfl) clP20
def clA22:List V:=[.nilS]
def clR22:V:=.nilS
theorem clP22:AM.Pure clR22:=by simp[clR22]
theorem clQ22:∀a∈clA22,AM.Pure a:=by simp[clA22]
theorem cl22:aK Tryz.prog 140 clA22 fun x=>x=clR22:=aF tok mixed aY af (fuel:=1000) (d:=40) (by kernel_rfl) clP22
def clA35:List V:=[.agg [.str ⟨#[114]⟩,.lst 1 true [.str ⟨#[97]⟩,.str ⟨#[98]⟩],.lst 2 true [.agg [.int .i64 1,.lst 3 true [.agg [.int .i64 1,.int .i64 5,.str ⟨#[]⟩],.agg [.int .i64 1,.int .i64 1,.str ⟨#[]⟩]]],.agg [.int .i64 2,.lst 3 true [.agg [.int .i64 1,.int .i64 5,.str ⟨#[]⟩],.agg [.int .i64 1,.int .i64 2,.str ⟨#[]⟩]]],.agg [.int .i64 3,.lst 3 true [.agg [.int .i64 1,.int .i64 6,.str ⟨#[]⟩],.agg [.int .i64 1,.int .i64 1,.str ⟨#[]⟩]]]]],.lst 2 false [.agg [.int .u32 1,.int .u32 2]],.lst 2 false [.agg [.int .i64 1,.int .i64 1]]]
def clR35:V:=.bool true
theorem clP35:AM.Pure clR35:=by simp[clR35]
theorem clQ35:∀a∈clA35,AM.Pure a:=by simp[clA35]
theorem cl35:aK Tryz.prog 99 clA35 fun x=>x=clR35:=aF tok mixed aY af (fuel:=1000) (d:=40) (by kernel_rfl) clP35
def clA34:List V:=[.agg [.str ⟨#[114]⟩,.lst 1 true [.str ⟨#[97]⟩,.str ⟨#[98]⟩],.lst 2 true [.agg [.int .i64 1,.lst 3 true [.agg [.int .i64 1,.int .i64 5,.str ⟨#[]⟩],.agg [.int .i64 1,.int .i64 1,.str ⟨#[]⟩]]],.agg [.int .i64 2,.lst 3 true [.agg [.int .i64 1,.int .i64 5,.str ⟨#[]⟩],.agg [.int .i64 1,.int .i64 2,.str ⟨#[]⟩]]],.agg [.int .i64 3,.lst 3 true [.agg [.int .i64 1,.int .i64 6,.str ⟨#[]⟩],.agg [.int .i64 1,.int .i64 1,.str ⟨#[]⟩]]]]],.lst 2 false [.agg [.int .i64 1,.int .i64 0],.agg [.int .i64 2,.int .i64 0],.agg [.int .i64 2,.int .i64 1],.agg [.int .i64 3,.int .i64 0],.agg [.int .i64 3,.int .i64 1]]]
def clR34:V:=.lst 2 false [.agg [.int .i64 1,.int .i64 1]]
theorem clP34:AM.Pure clR34:=by simp[clR34]
theorem clQ34:∀a∈clA34,AM.Pure a:=by simp[clA34]
theorem cl34:aK Tryz.prog 102 clA34 fun x=>x=clR34:=aF tok mixed aY af (fuel:=1000) (d:=40) (by kernel_rfl) clP34
def clA38:List V:=[.agg [.str ⟨#[114]⟩,.lst 1 true [.str ⟨#[97]⟩,.str ⟨#[98]⟩],.lst 2 true [.agg [.int .i64 1,.lst 3 true [.agg [.int .i64 1,.int .i64 5,.str ⟨#[]⟩],.agg [.int .i64 1,.int .i64 1,.str ⟨#[]⟩]]],.agg [.int .i64 2,.lst 3 true [.agg [.int .i64 1,.int .i64 5,.str ⟨#[]⟩],.agg [.int .i64 1,.int .i64 2,.str ⟨#[]⟩]]],.agg [.int .i64 3,.lst 3 true [.agg [.int .i64 1,.int .i64 6,.str ⟨#[]⟩],.agg [.int .i64 1,.int .i64 1,.str ⟨#[]⟩]]]]],.lst 2 false [.agg [.int .i64 1,.int .i64 0],.agg [.int .i64 1,.int .i64 1],.agg [.int .i64 2,.int .i64 1],.agg [.int .i64 3,.int .i64 0],.agg [.int .i64 3,.int .i64 1]]]
def clR38:V:=.lst 2 false [.agg [.int .i64 2,.int .i64 0]]
theorem clP38:AM.Pure clR38:=by simp[clR38]
theorem clQ38:∀a∈clA38,AM.Pure a:=by simp[clA38]
theorem cl38:aK Tryz.prog 102 clA38 fun x=>x=clR38:=aF tok mixed aY af (fuel:=1000) (d:=40) (by kernel_rfl) clP38
def clA31:List V:=[.agg [.str ⟨#[114]⟩,.lst 1 true [.str ⟨#[97]⟩,.str ⟨#[98]⟩],.lst 2 true [.agg [.int .i64 1,.lst 3 true [.agg [.int .i64 1,.int .i64 5,.str ⟨#[]⟩],.agg [.int .i64 1,.int .i64 1,.str ⟨#[]⟩]]],.agg [.int .i64 2,.lst 3 true [.agg [.int .i64 1,.int .i64 5,.str ⟨#[]⟩],.agg [.int .i64 1,.int .i64 2,.str ⟨#[]⟩]]],.agg [.int .i64 3,.lst 3 true [.agg [.int .i64 1,.int .i64 6,.str ⟨#[]⟩],.agg [.int .i64 1,.int .i64 1,.str ⟨#[]⟩]]]]],.lst 2 false [.agg [.int .u32 1,.int .u32 2]],.lst 2 false [.agg [.int .i64 1,.int .i64 0]]]
def clR31:V:=.bool true
theorem clP31:AM.Pure clR31:=by simp[clR31]
theorem clQ31:∀a∈clA31,AM.Pure a:=by simp[clA31]
theorem cl31:aK Tryz.prog 99 clA31 fun x=>x=clR31:=aF tok mixed aY af (fuel:=1000) (d:=40) (by kernel_rfl) clP31
def clA27:List V:=[.agg [.str ⟨#[114]⟩,.lst 1 true [.str ⟨#[97]⟩,.str ⟨#[98]⟩],.lst 2 true [.agg [.int .i64 1,.lst 3 true [.agg [.int .i64 1,.int .i64 5,.str ⟨#[]⟩],.agg [.int .i64 1,.int .i64 1,.str ⟨#[]⟩]]],.agg [.int .i64 2,.lst 3 true [.agg [.int .i64 1,.int .i64 5,.str ⟨#[]⟩],.agg [.int .i64 1,.int .i64 2,.str ⟨#[]⟩]]],.agg [.int .i64 3,.lst 3 true [.agg [.int .i64 1,.int .i64 6,.str ⟨#[]⟩],.agg [.int .i64 1,.int .i64 1,.str ⟨#[]⟩]]]]],.lst 2 false [.agg [.int .u32 1,.int .u32 2]],.nilS]
def clR27:V:=.bool false
theorem clP27:AM.Pure clR27:=by simp[clR27]
theorem clQ27:∀a∈clA27,AM.Pure a:=by simp[clA27]
theorem cl27:aK Tryz.prog 99 clA27 fun x=>x=clR27:=aF tok mixed aY af (fuel:=1000) (d:=40) (by kernel_rfl) clP27
end
end Go.Proofs.YtpedcgdgjoblkaaGreatDoor
