/- JM42: own texts of this seat, joined and shortened by pack4.py: C5, C4a. -/
import Derived.Test.YtdnhplencamncaaGreatDoorJM22
import Derived.Test.YtdnhplencamncaaGreatDoorJM41
set_option linter.unusedVariables false
set_option linter.unusedSimpArgs false
set_option maxRecDepth 100000
set_option maxHeartbeats 64000000
open Int renaming toNat_of_nonneg→rJ
open List renaming append_nil→oU
namespace Go.Proofs.YtdnhplencamncaaGreatDoor
section
open Go Go.AM Go.RowKit
def extG:am:=fun f args H=>match f,args with
 | 319,[.nilS,.int .i64 n]=>if n=0 then some (.nilS,H) else if 0≤n∧n≤1000000 then some (.buf H.length 0 0 0,H++[.buf 2 1 [] false]) else none
 | 267,[.nilS,.int .i64 n]=>if n=0 then some (.nilS,H) else if 0≤n∧n≤1000000 then some (.buf H.length 0 0 0,H++[.buf 325 2 [] false]) else none
 | 76,[.nilS,.int .i64 n]=>if n=0 then some (.nilS,H) else if 0≤n∧n≤1000000 then some (.buf H.length 0 0 0,H++[.buf 81 11 [] false]) else none
 | 219,[.nilS,.int .i64 n]=>if n=0 then some (.nilS,H) else if 0≤n∧n≤1000000 then some (.buf H.length 0 0 0,H++[.buf 172 2 [] false]) else none
 | f,args=>ext f args H
theorem ai:aa Tryz.prog extG:=fun f args H r H' h=>by
 unfold extG at h;split at h
 ·rename_i n;split at h
  ·rename_i h0;subst h0;cases h;have:=aT (H:=H) grow_nil_Z (by simp);simpa only[aL,oU] using this
  split at h
  ·rename_i hc;cases h;have:=fb (H:=H) (grow_con_Z n.toNat (by omega)) (by simp);rw[rJ hc.1]at this
   have h2:=aL.mono this (K':=fun x y=>x = .buf H.length 0 0 0∧y=H++[.buf 2 1 [] false]) (by
    rintro r H' ⟨e,z,xs,rfl,rfl,_,rfl,rfl,rfl⟩
    exact⟨rfl,rfl⟩)
   simpa only[aL,oU] using h2
  ·cases h
 ·rename_i n;split at h
  ·rename_i h0;subst h0;cases h;have:=aT (H:=H) grow_nil_N (by simp);simpa only[aL,oU] using this
  split at h
  ·rename_i hc;cases h;have:=fb (H:=H) (grow_con_N n.toNat (by omega)) (by simp);rw[rJ hc.1]at this
   have h2:=aL.mono this (K':=fun x y=>x = .buf H.length 0 0 0∧y=H++[.buf 325 2 [] false]) (by
    rintro r H' ⟨e,z,xs,rfl,rfl,_,rfl,rfl,rfl⟩
    exact⟨rfl,rfl⟩)
   simpa only[aL,oU] using h2
  ·cases h
 ·rename_i n;split at h
  ·rename_i h0;subst h0;cases h;have:=aT (H:=H) grow_nil_G (by simp);simpa only[aL,oU] using this
  split at h
  ·rename_i hc;cases h;have:=fb (H:=H) (nC n.toNat (by omega)) (by simp);rw[rJ hc.1]at this
   have h2:=aL.mono this (K':=fun x y=>x = .buf H.length 0 0 0∧y=H++[.buf 81 11 [] false]) (by
    rintro r H' ⟨e,z,xs,rfl,rfl,_,rfl,rfl,rfl⟩
    exact⟨rfl,rfl⟩)
   simpa only[aL,oU] using h2
  ·cases h
 ·rename_i n;split at h
  ·rename_i h0;subst h0;cases h;have:=aT (H:=H) grow_nil_C (by simp);simpa only[aL,oU] using this
  split at h
  ·rename_i hc;cases h;have:=fb (H:=H) (grow_con_C n.toNat (by omega)) (by simp);rw[rJ hc.1]at this
   have h2:=aL.mono this (K':=fun x y=>x = .buf H.length 0 0 0∧y=H++[.buf 172 2 [] false]) (by
    rintro r H' ⟨e,z,xs,rfl,rfl,_,rfl,rfl,rfl⟩
    exact⟨rfl,rfl⟩)
   simpa only[aL,oU] using h2
  ·cases h
 ·exact ext_ok _ _ H r H' h
end
end Go.Proofs.YtdnhplencamncaaGreatDoor
namespace Go.Proofs.YtdnhplencamncaaGreatDoor
section
open Go Go.AM
def clA43:List V:=[.agg [.str ⟨#[114]⟩,.lst 1 true [.str ⟨#[97]⟩,.str ⟨#[98]⟩],.lst 2 true [.agg [.int .i64 1,.lst 3 true [.agg [.int .i64 1,.int .i64 5,.str ⟨#[]⟩],.agg [.int .i64 1,.int .i64 1,.str ⟨#[]⟩]]],.agg [.int .i64 2,.lst 3 true [.agg [.int .i64 1,.int .i64 5,.str ⟨#[]⟩],.agg [.int .i64 1,.int .i64 2,.str ⟨#[]⟩]]],.agg [.int .i64 3,.lst 3 true [.agg [.int .i64 1,.int .i64 6,.str ⟨#[]⟩],.agg [.int .i64 1,.int .i64 1,.str ⟨#[]⟩]]]]],.lst 2 false [.agg [.int .u32 1,.int .u32 2]],.lst 2 false [.agg [.int .i64 2,.int .i64 1]]]
def clR43:V:=.bool true
theorem clP43:AM.Pure clR43:=by simp[clR43]
theorem clQ43:∀a∈clA43,AM.Pure a:=by simp[clA43]
theorem cl43:aJ Tryz.prog 82 clA43 fun x=>x=clR43:=aH tok mixed af ai (fuel:=1000) (d:=40) (by kernel_rfl) clP43
def clA46:List V:=[.agg [.str ⟨#[114]⟩,.lst 1 true [.str ⟨#[97]⟩,.str ⟨#[98]⟩],.lst 2 true [.agg [.int .i64 1,.lst 3 true [.agg [.int .i64 1,.int .i64 5,.str ⟨#[]⟩],.agg [.int .i64 1,.int .i64 1,.str ⟨#[]⟩]]],.agg [.int .i64 2,.lst 3 true [.agg [.int .i64 1,.int .i64 5,.str ⟨#[]⟩],.agg [.int .i64 1,.int .i64 2,.str ⟨#[]⟩]]],.agg [.int .i64 3,.lst 3 true [.agg [.int .i64 1,.int .i64 6,.str ⟨#[]⟩],.agg [.int .i64 1,.int .i64 1,.str ⟨#[]⟩]]]]],.lst 2 false [.agg [.int .i64 1,.int .i64 0],.agg [.int .i64 1,.int .i64 1],.agg [.int .i64 2,.int .i64 0],.agg [.int .i64 2,.int .i64 1],.agg [.int .i64 3,.int .i64 1]]]
def clR46:V:=.lst 2 false [.agg [.int .i64 3,.int .i64 0]]
theorem clP46:AM.Pure clR46:=by simp[clR46]
theorem clQ46:∀a∈clA46,AM.Pure a:=by simp[clA46]
theorem cl46:aJ Tryz.prog 85 clA46 fun x=>x=clR46:=aH tok mixed af ai (fuel:=1000) (d:=40) (by kernel_rfl) clP46
def clA47:List V:=[.agg [.str ⟨#[114]⟩,.lst 1 true [.str ⟨#[97]⟩,.str ⟨#[98]⟩],.lst 2 true [.agg [.int .i64 1,.lst 3 true [.agg [.int .i64 1,.int .i64 5,.str ⟨#[]⟩],.agg [.int .i64 1,.int .i64 1,.str ⟨#[]⟩]]],.agg [.int .i64 2,.lst 3 true [.agg [.int .i64 1,.int .i64 5,.str ⟨#[]⟩],.agg [.int .i64 1,.int .i64 2,.str ⟨#[]⟩]]],.agg [.int .i64 3,.lst 3 true [.agg [.int .i64 1,.int .i64 6,.str ⟨#[]⟩],.agg [.int .i64 1,.int .i64 1,.str ⟨#[]⟩]]]]],.lst 2 false [.agg [.int .u32 1,.int .u32 2]],.lst 2 false [.agg [.int .i64 3,.int .i64 0]]]
def clR47:V:=.bool false
theorem clP47:AM.Pure clR47:=by simp[clR47]
theorem clQ47:∀a∈clA47,AM.Pure a:=by simp[clA47]
theorem cl47:aJ Tryz.prog 82 clA47 fun x=>x=clR47:=aH tok mixed af ai (fuel:=1000) (d:=40) (by kernel_rfl) clP47
def clA39:List V:=[.agg [.str ⟨#[114]⟩,.lst 1 true [.str ⟨#[97]⟩,.str ⟨#[98]⟩],.lst 2 true [.agg [.int .i64 1,.lst 3 true [.agg [.int .i64 1,.int .i64 5,.str ⟨#[]⟩],.agg [.int .i64 1,.int .i64 1,.str ⟨#[]⟩]]],.agg [.int .i64 2,.lst 3 true [.agg [.int .i64 1,.int .i64 5,.str ⟨#[]⟩],.agg [.int .i64 1,.int .i64 2,.str ⟨#[]⟩]]],.agg [.int .i64 3,.lst 3 true [.agg [.int .i64 1,.int .i64 6,.str ⟨#[]⟩],.agg [.int .i64 1,.int .i64 1,.str ⟨#[]⟩]]]]],.lst 2 false [.agg [.int .u32 1,.int .u32 2]],.lst 2 false [.agg [.int .i64 2,.int .i64 0]]]
def clR39:V:=.bool true
theorem clP39:AM.Pure clR39:=by simp[clR39]
theorem clQ39:∀a∈clA39,AM.Pure a:=by simp[clA39]
theorem cl39:aJ Tryz.prog 82 clA39 fun x=>x=clR39:=aH tok mixed af ai (fuel:=1000) (d:=40) (by kernel_rfl) clP39
def clA28:List V:=[.agg [.str ⟨#[114]⟩,.lst 1 true [.str ⟨#[97]⟩,.str ⟨#[98]⟩],.lst 2 true [.agg [.int .i64 1,.lst 3 true [.agg [.int .i64 1,.int .i64 5,.str ⟨#[]⟩],.agg [.int .i64 1,.int .i64 1,.str ⟨#[]⟩]]],.agg [.int .i64 2,.lst 3 true [.agg [.int .i64 1,.int .i64 5,.str ⟨#[]⟩],.agg [.int .i64 1,.int .i64 2,.str ⟨#[]⟩]]],.agg [.int .i64 3,.lst 3 true [.agg [.int .i64 1,.int .i64 6,.str ⟨#[]⟩],.agg [.int .i64 1,.int .i64 1,.str ⟨#[]⟩]]]]],.nilS]
def clR28:V:=.lst 2 false [.agg [.int .i64 1,.int .i64 0],.agg [.int .i64 1,.int .i64 1],.agg [.int .i64 2,.int .i64 0],.agg [.int .i64 2,.int .i64 1],.agg [.int .i64 3,.int .i64 0],.agg [.int .i64 3,.int .i64 1]]
theorem clP28:AM.Pure clR28:=by simp[clR28]
theorem clQ28:∀a∈clA28,AM.Pure a:=by simp[clA28]
theorem cl28:aJ Tryz.prog 85 clA28 fun x=>x=clR28:=aH tok mixed af ai (fuel:=1000) (d:=40) (by kernel_rfl) clP28
def clA14:List V:=[.agg [.lst 1 false [.int .i64 1,.int .i64 1,.int .i64 1],.lst 1 false [.lst 1 false [.int .i64 0,.int .i64 1]]]]
def clR14:V:=.int .i64 0
theorem clP14:AM.Pure clR14:=by simp[clR14]
theorem clQ14:∀a∈clA14,AM.Pure a:=by simp[clA14]
theorem cl14:aJ Tryz.prog 139 clA14 fun x=>x=clR14:=aH tok mixed af ai (fuel:=1000) (d:=40) (by kernel_rfl) clP14
def clA37:List V:=[.lst 1 true [.lst 2 false [.agg [.int .i64 1,.int .i64 0],.agg [.int .i64 1,.int .i64 1]],.lst 2 false [.agg [.int .i64 2,.int .i64 1],.agg [.int .i64 3,.int .i64 0],.agg [.int .i64 3,.int .i64 1]]]]
def clR37:V:=.lst 2 false [.agg [.int .i64 1,.int .i64 0],.agg [.int .i64 1,.int .i64 1],.agg [.int .i64 2,.int .i64 1],.agg [.int .i64 3,.int .i64 0],.agg [.int .i64 3,.int .i64 1]]
theorem clP37:AM.Pure clR37:=by simp[clR37]
theorem clQ37:∀a∈clA37,AM.Pure a:=by simp[clA37]
theorem cl37:aJ Tryz.prog 147 clA37 fun x=>x=clR37:=aH tok mixed af ai (fuel:=1000) (d:=40) (by kernel_rfl) clP37
def clA45:List V:=[.lst 1 true [.lst 2 false [.agg [.int .i64 1,.int .i64 0],.agg [.int .i64 1,.int .i64 1],.agg [.int .i64 2,.int .i64 0],.agg [.int .i64 2,.int .i64 1]],.lst 2 false [.agg [.int .i64 3,.int .i64 1]]]]
def clR45:V:=.lst 2 false [.agg [.int .i64 1,.int .i64 0],.agg [.int .i64 1,.int .i64 1],.agg [.int .i64 2,.int .i64 0],.agg [.int .i64 2,.int .i64 1],.agg [.int .i64 3,.int .i64 1]]
theorem clP45:AM.Pure clR45:=by simp[clR45]
theorem clQ45:∀a∈clA45,AM.Pure a:=by simp[clA45]
theorem cl45:aJ Tryz.prog 147 clA45 fun x=>x=clR45:=aH tok mixed af ai (fuel:=1000) (d:=40) (by kernel_rfl) clP45
def clA0:List V:=[.str ⟨#[114]⟩]
def clR0:V:=.bool true
theorem clP0:AM.Pure clR0:=by simp[clR0]
theorem clQ0:∀a∈clA0,AM.Pure a:=by simp[clA0]
theorem cl0:aJ Tryz.prog 70 clA0 fun x=>x=clR0:=aH tok mixed af ai (fuel:=1000) (d:=40) (by kernel_rfl) clP0
def clA2:List V:=[.str ⟨#[98]⟩]
def clR2:V:=.bool true
theorem clP2:AM.Pure clR2:=by simp[clR2]
theorem clQ2:∀a∈clA2,AM.Pure a:=by simp[clA2]
theorem cl2:aJ Tryz.prog 70 clA2 fun x=>x=clR2:=aH tok mixed af ai (fuel:=1000) (d:=40) (by kernel_rfl) clP2
def clA20:List V:=[.int .i64 2,.lst 2 false [.agg [.int .u32 1,.int .u32 2]]]
def clR20:V:=.int .i64 0
theorem clP20:AM.Pure clR20:=by simp[clR20]
theorem clQ20:∀a∈clA20,AM.Pure a:=by simp[clA20]
theorem cl20:aJ Tryz.prog 145 clA20 fun x=>x=clR20:=aH tok mixed af ai (fuel:=1000) (d:=40) (by kernel_rfl) clP20
def clA22:List V:=[.nilS]
def clR22:V:=.nilS
theorem clP22:AM.Pure clR22:=by simp[clR22]
theorem clQ22:∀a∈clA22,AM.Pure a:=by simp[clA22]
theorem cl22:aJ Tryz.prog 147 clA22 fun x=>x=clR22:=aH tok mixed af ai (fuel:=1000) (d:=40) (by kernel_rfl) clP22
end
end Go.Proofs.YtdnhplencamncaaGreatDoor
