/- C4: the example of the chapter, its calls by evaluation. Printed by mkclosed2.py. -/
import Derived.Test.YteijbpppalhihaaGreatC4a
import Derived.Test.YteijbpppalhihaaGreatC4b
import Derived.Test.YteijbpppalhihaaGreatC4c
set_option linter.unusedVariables false
set_option linter.unusedSimpArgs false
namespace Go.Proofs.YteijbpppalhihaaGreat
open Go Go.AM
def xt0 : ExtF := fun f args H => if Nat.beq f 40 then (if eqL (eqV 40) args clA0 then some (clR0, H) else ext f args H) else ext f args H
theorem xt0_ok : ExtOk Tryz.prog xt0 := ext_more ext_ok cl0 clQ0
def xt1 : ExtF := extS 43 clA1 clR1 xt0
theorem xt1_ok : ExtOk Tryz.prog xt1 := extS_ok xt0_ok cl1 clQ1 (by unfold clR1; constructor)
def xt2 : ExtF := extZ 22 clA2 clR2 xt1
theorem xt2_ok : ExtOk Tryz.prog xt2 := extZ_ok xt1_ok cl2 clQ2
def xt3 : ExtF := extS 43 clA3 clR3 xt2
theorem xt3_ok : ExtOk Tryz.prog xt3 := extS_ok xt2_ok cl3 clQ3 (by unfold clR3; constructor)
def xt4 : ExtF := extZ 22 clA4 clR4 xt3
theorem xt4_ok : ExtOk Tryz.prog xt4 := extZ_ok xt3_ok cl4 clQ4
def xt5 : ExtF := fun f args H => if Nat.beq f 18 then (if eqL (eqV 40) args clA5 then some (clR5, H) else xt4 f args H) else xt4 f args H
theorem xt5_ok : ExtOk Tryz.prog xt5 := ext_more xt4_ok cl5 clQ5
def xt6 : ExtF := extS 43 clA6 clR6 xt5
theorem xt6_ok : ExtOk Tryz.prog xt6 := extS_ok xt5_ok cl6 clQ6 (by unfold clR6; constructor)
def xt7 : ExtF := extZ 66 clA7 clR7 xt6
theorem xt7_ok : ExtOk Tryz.prog xt7 := extZ_ok xt6_ok cl7 clQ7
def xt8 : ExtF := extS 44 clA8 clR8 xt7
theorem xt8_ok : ExtOk Tryz.prog xt8 := extS_ok xt7_ok cl8 clQ8 (by unfold clR8; constructor)
def xt10 : ExtF := fun f args H => if Nat.beq f 82 then (if eqL (eqV 40) args clA10 then some (clR10, H) else xt8 f args H) else xt8 f args H
theorem xt10_ok : ExtOk Tryz.prog xt10 := ext_more xt8_ok cl10 clQ10
def xt11 : ExtF := extZ 66 clA11 clR11 xt10
theorem xt11_ok : ExtOk Tryz.prog xt11 := extZ_ok xt10_ok cl11 clQ11
def xt12 : ExtF := extS 44 clA12 clR12 xt11
theorem xt12_ok : ExtOk Tryz.prog xt12 := extS_ok xt11_ok cl12 clQ12 (by unfold clR12; constructor)
def xt14 : ExtF := fun f args H => if Nat.beq f 82 then (if eqL (eqV 40) args clA14 then some (clR14, H) else xt12 f args H) else xt12 f args H
theorem xt14_ok : ExtOk Tryz.prog xt14 := ext_more xt12_ok cl14 clQ14
def xt15 : ExtF := extZ 66 clA15 clR15 xt14
theorem xt15_ok : ExtOk Tryz.prog xt15 := extZ_ok xt14_ok cl15 clQ15
def xt16 : ExtF := extS 44 clA16 clR16 xt15
theorem xt16_ok : ExtOk Tryz.prog xt16 := extS_ok xt15_ok cl16 clQ16 (by unfold clR16; constructor)
def xt18 : ExtF := fun f args H => if Nat.beq f 82 then (if eqL (eqV 40) args clA18 then some (clR18, H) else xt16 f args H) else xt16 f args H
theorem xt18_ok : ExtOk Tryz.prog xt18 := ext_more xt16_ok cl18 clQ18
def xt19 : ExtF := extZ 66 clA19 clR19 xt18
theorem xt19_ok : ExtOk Tryz.prog xt19 := extZ_ok xt18_ok cl19 clQ19
def xt20 : ExtF := extS 44 clA20 clR20 xt19
theorem xt20_ok : ExtOk Tryz.prog xt20 := extS_ok xt19_ok cl20 clQ20 (by unfold clR20; constructor)
def xt22 : ExtF := fun f args H => if Nat.beq f 82 then (if eqL (eqV 40) args clA22 then some (clR22, H) else xt20 f args H) else xt20 f args H
theorem xt22_ok : ExtOk Tryz.prog xt22 := ext_more xt20_ok cl22 clQ22
def xt23 : ExtF := extZ 66 clA23 clR23 xt22
theorem xt23_ok : ExtOk Tryz.prog xt23 := extZ_ok xt22_ok cl23 clQ23
def xt24 : ExtF := extS 44 clA24 clR24 xt23
theorem xt24_ok : ExtOk Tryz.prog xt24 := extS_ok xt23_ok cl24 clQ24 (by unfold clR24; constructor)
def xt28 : ExtF := extS 43 clA28 clR28 xt24
theorem xt28_ok : ExtOk Tryz.prog xt28 := extS_ok xt24_ok cl28 clQ28 (by unfold clR28; constructor)
def xt29 : ExtF := extS 44 clA29 clR29 xt28
theorem xt29_ok : ExtOk Tryz.prog xt29 := extS_ok xt28_ok cl29 clQ29 (by unfold clR29; constructor)
def xt31 : ExtF := extS 44 clA31 clR31 xt29
theorem xt31_ok : ExtOk Tryz.prog xt31 := extS_ok xt29_ok cl31 clQ31 (by unfold clR31; constructor)
def xt33 : ExtF := fun f args H => if Nat.beq f 82 then (if eqL (eqV 40) args clA33 then some (clR33, H) else xt31 f args H) else xt31 f args H
theorem xt33_ok : ExtOk Tryz.prog xt33 := ext_more xt31_ok cl33 clQ33
def xt34 : ExtF := extZ 66 clA34 clR34 xt33
theorem xt34_ok : ExtOk Tryz.prog xt34 := extZ_ok xt33_ok cl34 clQ34
def xt35 : ExtF := extS 44 clA35 clR35 xt34
theorem xt35_ok : ExtOk Tryz.prog xt35 := extS_ok xt34_ok cl35 clQ35 (by unfold clR35; constructor)
def xt37 : ExtF := fun f args H => if Nat.beq f 82 then (if eqL (eqV 40) args clA37 then some (clR37, H) else xt35 f args H) else xt35 f args H
theorem xt37_ok : ExtOk Tryz.prog xt37 := ext_more xt35_ok cl37 clQ37
def xt38 : ExtF := extZ 66 clA38 clR38 xt37
theorem xt38_ok : ExtOk Tryz.prog xt38 := extZ_ok xt37_ok cl38 clQ38
def xt39 : ExtF := extS 44 clA39 clR39 xt38
theorem xt39_ok : ExtOk Tryz.prog xt39 := extS_ok xt38_ok cl39 clQ39 (by unfold clR39; constructor)
def xt41 : ExtF := fun f args H => if Nat.beq f 82 then (if eqL (eqV 40) args clA41 then some (clR41, H) else xt39 f args H) else xt39 f args H
theorem xt41_ok : ExtOk Tryz.prog xt41 := ext_more xt39_ok cl41 clQ41
def xt42 : ExtF := extZ 66 clA42 clR42 xt41
theorem xt42_ok : ExtOk Tryz.prog xt42 := extZ_ok xt41_ok cl42 clQ42
def xt43 : ExtF := extS 44 clA43 clR43 xt42
theorem xt43_ok : ExtOk Tryz.prog xt43 := extS_ok xt42_ok cl43 clQ43 (by unfold clR43; constructor)
def xt47 : ExtF := extS 43 clA47 clR47 xt43
theorem xt47_ok : ExtOk Tryz.prog xt47 := extS_ok xt43_ok cl47 clQ47 (by unfold clR47; constructor)
def xt50 : ExtF := extZ 66 clA50 clR50 xt47
theorem xt50_ok : ExtOk Tryz.prog xt50 := extZ_ok xt47_ok cl50 clQ50
def xt51 : ExtF := extS 43 clA51 clR51 xt50
theorem xt51_ok : ExtOk Tryz.prog xt51 := extS_ok xt50_ok cl51 clQ51 (by unfold clR51; constructor)
def xt52 : ExtF := extZ 22 clA52 clR52 xt51
theorem xt52_ok : ExtOk Tryz.prog xt52 := extZ_ok xt51_ok cl52 clQ52
def xt55 : ExtF := extS 44 clA55 clR55 xt52
theorem xt55_ok : ExtOk Tryz.prog xt55 := extS_ok xt52_ok cl55 clQ55 (by unfold clR55; constructor)
def clA9 : List V := [.agg [.str ⟨#[114]⟩, .lst 1 true [.str ⟨#[97]⟩, .str ⟨#[98]⟩], .lst 2 false [.agg [.int .i64 1, .lst 3 false [.agg [.int .i64 1, .int .i64 1, .str ⟨#[]⟩], .agg [.int .i64 1, .int .i64 1, .str ⟨#[]⟩]]], .agg [.int .i64 2, .lst 3 false [.agg [.int .i64 1, .int .i64 1, .str ⟨#[]⟩], .agg [.int .i64 1, .int .i64 2, .str ⟨#[]⟩]]]]], .lst 2 true [.agg [.int .u32 1, .int .u32 2]], .lst 2 false [.agg [.int .i64 1, .int .i64 0], .agg [.int .i64 1, .int .i64 1], .agg [.int .i64 2, .int .i64 0], .agg [.int .i64 2, .int .i64 1]]]
def clR9 : V := .bool true
theorem clP9 : AM.Pure clR9 := by simp [clR9]
theorem clQ9 : ∀ a ∈ clA9, AM.Pure a := by simp [clA9]
theorem cl9 : ConP Tryz.prog 48 clA9 fun x => x = clR9 := closed_conT tok mixed named xt55_ok (fuel := 1000) (d := 40) (by kernel_rfl) clP9
def xt9 : ExtF := fun f args H => if Nat.beq f 48 then (if eqL (eqV 40) args clA9 then some (clR9, H) else xt55 f args H) else xt55 f args H
theorem xt9_ok : ExtOk Tryz.prog xt9 := ext_more xt55_ok cl9 clQ9
def clA13 : List V := [.agg [.str ⟨#[114]⟩, .lst 1 true [.str ⟨#[97]⟩, .str ⟨#[98]⟩], .lst 2 false [.agg [.int .i64 1, .lst 3 false [.agg [.int .i64 1, .int .i64 1, .str ⟨#[]⟩], .agg [.int .i64 1, .int .i64 1, .str ⟨#[]⟩]]], .agg [.int .i64 2, .lst 3 false [.agg [.int .i64 1, .int .i64 1, .str ⟨#[]⟩], .agg [.int .i64 1, .int .i64 2, .str ⟨#[]⟩]]]]], .lst 2 true [.agg [.int .u32 1, .int .u32 2]], .lst 2 false [.agg [.int .i64 1, .int .i64 1], .agg [.int .i64 2, .int .i64 0], .agg [.int .i64 2, .int .i64 1]]]
def clR13 : V := .bool false
theorem clP13 : AM.Pure clR13 := by simp [clR13]
theorem clQ13 : ∀ a ∈ clA13, AM.Pure a := by simp [clA13]
theorem cl13 : ConP Tryz.prog 48 clA13 fun x => x = clR13 := closed_conT tok mixed named xt9_ok (fuel := 1000) (d := 40) (by kernel_rfl) clP13
def xt13 : ExtF := fun f args H => if Nat.beq f 48 then (if eqL (eqV 40) args clA13 then some (clR13, H) else xt9 f args H) else xt9 f args H
theorem xt13_ok : ExtOk Tryz.prog xt13 := ext_more xt9_ok cl13 clQ13
def clA17 : List V := [.agg [.str ⟨#[114]⟩, .lst 1 true [.str ⟨#[97]⟩, .str ⟨#[98]⟩], .lst 2 false [.agg [.int .i64 1, .lst 3 false [.agg [.int .i64 1, .int .i64 1, .str ⟨#[]⟩], .agg [.int .i64 1, .int .i64 1, .str ⟨#[]⟩]]], .agg [.int .i64 2, .lst 3 false [.agg [.int .i64 1, .int .i64 1, .str ⟨#[]⟩], .agg [.int .i64 1, .int .i64 2, .str ⟨#[]⟩]]]]], .lst 2 true [.agg [.int .u32 1, .int .u32 2]], .lst 2 false [.agg [.int .i64 1, .int .i64 0], .agg [.int .i64 2, .int .i64 0], .agg [.int .i64 2, .int .i64 1]]]
def clR17 : V := .bool false
theorem clP17 : AM.Pure clR17 := by simp [clR17]
theorem clQ17 : ∀ a ∈ clA17, AM.Pure a := by simp [clA17]
theorem cl17 : ConP Tryz.prog 48 clA17 fun x => x = clR17 := closed_conT tok mixed named xt13_ok (fuel := 1000) (d := 40) (by kernel_rfl) clP17
def xt17 : ExtF := fun f args H => if Nat.beq f 48 then (if eqL (eqV 40) args clA17 then some (clR17, H) else xt13 f args H) else xt13 f args H
theorem xt17_ok : ExtOk Tryz.prog xt17 := ext_more xt13_ok cl17 clQ17
def clA21 : List V := [.agg [.str ⟨#[114]⟩, .lst 1 true [.str ⟨#[97]⟩, .str ⟨#[98]⟩], .lst 2 false [.agg [.int .i64 1, .lst 3 false [.agg [.int .i64 1, .int .i64 1, .str ⟨#[]⟩], .agg [.int .i64 1, .int .i64 1, .str ⟨#[]⟩]]], .agg [.int .i64 2, .lst 3 false [.agg [.int .i64 1, .int .i64 1, .str ⟨#[]⟩], .agg [.int .i64 1, .int .i64 2, .str ⟨#[]⟩]]]]], .lst 2 true [.agg [.int .u32 1, .int .u32 2]], .lst 2 false [.agg [.int .i64 1, .int .i64 0], .agg [.int .i64 1, .int .i64 1], .agg [.int .i64 2, .int .i64 1]]]
def clR21 : V := .bool false
theorem clP21 : AM.Pure clR21 := by simp [clR21]
theorem clQ21 : ∀ a ∈ clA21, AM.Pure a := by simp [clA21]
theorem cl21 : ConP Tryz.prog 48 clA21 fun x => x = clR21 := closed_conT tok mixed named xt17_ok (fuel := 1000) (d := 40) (by kernel_rfl) clP21
def xt21 : ExtF := fun f args H => if Nat.beq f 48 then (if eqL (eqV 40) args clA21 then some (clR21, H) else xt17 f args H) else xt17 f args H
theorem xt21_ok : ExtOk Tryz.prog xt21 := ext_more xt17_ok cl21 clQ21
def clA25 : List V := [.agg [.str ⟨#[114]⟩, .lst 1 true [.str ⟨#[97]⟩, .str ⟨#[98]⟩], .lst 2 false [.agg [.int .i64 1, .lst 3 false [.agg [.int .i64 1, .int .i64 1, .str ⟨#[]⟩], .agg [.int .i64 1, .int .i64 1, .str ⟨#[]⟩]]], .agg [.int .i64 2, .lst 3 false [.agg [.int .i64 1, .int .i64 1, .str ⟨#[]⟩], .agg [.int .i64 1, .int .i64 2, .str ⟨#[]⟩]]]]], .lst 2 true [.agg [.int .u32 1, .int .u32 2]], .lst 2 false [.agg [.int .i64 1, .int .i64 0], .agg [.int .i64 1, .int .i64 1], .agg [.int .i64 2, .int .i64 0]]]
def clR25 : V := .bool false
theorem clP25 : AM.Pure clR25 := by simp [clR25]
theorem clQ25 : ∀ a ∈ clA25, AM.Pure a := by simp [clA25]
theorem cl25 : ConP Tryz.prog 48 clA25 fun x => x = clR25 := closed_conT tok mixed named xt21_ok (fuel := 1000) (d := 40) (by kernel_rfl) clP25
def xt25 : ExtF := fun f args H => if Nat.beq f 48 then (if eqL (eqV 40) args clA25 then some (clR25, H) else xt21 f args H) else xt21 f args H
theorem xt25_ok : ExtOk Tryz.prog xt25 := ext_more xt21_ok cl25 clQ25
def clA26 : List V := [.agg [.str ⟨#[114]⟩, .lst 1 true [.str ⟨#[97]⟩, .str ⟨#[98]⟩], .lst 2 false [.agg [.int .i64 1, .lst 3 false [.agg [.int .i64 1, .int .i64 1, .str ⟨#[]⟩], .agg [.int .i64 1, .int .i64 1, .str ⟨#[]⟩]]], .agg [.int .i64 2, .lst 3 false [.agg [.int .i64 1, .int .i64 1, .str ⟨#[]⟩], .agg [.int .i64 1, .int .i64 2, .str ⟨#[]⟩]]]]], .lst 2 true [.agg [.int .u32 1, .int .u32 2]], .lst 2 false [.agg [.int .i64 1, .int .i64 0], .agg [.int .i64 1, .int .i64 1], .agg [.int .i64 2, .int .i64 0], .agg [.int .i64 2, .int .i64 1]]]
def clR26 : V := .lst 2 false [.agg [.int .i64 1, .int .i64 0], .agg [.int .i64 1, .int .i64 1], .agg [.int .i64 2, .int .i64 0], .agg [.int .i64 2, .int .i64 1]]
theorem clP26 : AM.Pure clR26 := by simp [clR26]
theorem clQ26 : ∀ a ∈ clA26, AM.Pure a := by simp [clA26]
theorem cl26 : ConP Tryz.prog 49 clA26 fun x => x = clR26 := closed_conT tok mixed named xt25_ok (fuel := 1000) (d := 40) (by kernel_rfl) clP26
def xt26 : ExtF := fun f args H => if Nat.beq f 49 then (if eqL (eqV 40) args clA26 then some (clR26, H) else xt25 f args H) else xt25 f args H
theorem xt26_ok : ExtOk Tryz.prog xt26 := ext_more xt25_ok cl26 clQ26
def clA27 : List V := [.agg [.str ⟨#[114]⟩, .lst 1 true [.str ⟨#[97]⟩, .str ⟨#[98]⟩], .lst 2 false [.agg [.int .i64 1, .lst 3 false [.agg [.int .i64 1, .int .i64 1, .str ⟨#[]⟩], .agg [.int .i64 1, .int .i64 1, .str ⟨#[]⟩]]], .agg [.int .i64 2, .lst 3 false [.agg [.int .i64 1, .int .i64 1, .str ⟨#[]⟩], .agg [.int .i64 1, .int .i64 2, .str ⟨#[]⟩]]]]], .lst 2 true [.agg [.int .u32 1, .int .u32 2]], .lst 2 false [.agg [.int .i64 1, .int .i64 0], .agg [.int .i64 1, .int .i64 1], .agg [.int .i64 2, .int .i64 0], .agg [.int .i64 2, .int .i64 1]]]
def clR27 : V := .tup [.lst 2 false [.agg [.int .i64 1, .int .i64 0], .agg [.int .i64 1, .int .i64 1], .agg [.int .i64 2, .int .i64 0], .agg [.int .i64 2, .int .i64 1]], .int .i64 0]
theorem clP27 : AM.Pure clR27 := by simp [clR27]
theorem clQ27 : ∀ a ∈ clA27, AM.Pure a := by simp [clA27]
theorem cl27 : ConP Tryz.prog 20 clA27 fun x => x = clR27 := closed_conT tok mixed named xt26_ok (fuel := 1000) (d := 40) (by kernel_rfl) clP27
def xt27 : ExtF := fun f args H => if Nat.beq f 20 then (if eqL (eqV 40) args clA27 then some (clR27, H) else xt26 f args H) else xt26 f args H
theorem xt27_ok : ExtOk Tryz.prog xt27 := ext_more xt26_ok cl27 clQ27
def clA30 : List V := [.agg [.str ⟨#[114]⟩, .lst 1 true [.str ⟨#[97]⟩, .str ⟨#[98]⟩], .lst 2 false [.agg [.int .i64 1, .lst 3 false [.agg [.int .i64 1, .int .i64 1, .str ⟨#[]⟩], .agg [.int .i64 1, .int .i64 1, .str ⟨#[]⟩]]], .agg [.int .i64 2, .lst 3 false [.agg [.int .i64 1, .int .i64 1, .str ⟨#[]⟩], .agg [.int .i64 1, .int .i64 2, .str ⟨#[]⟩]]]]], .lst 2 true [.agg [.int .u32 0, .int .u32 2]], .lst 2 false [.agg [.int .i64 1, .int .i64 0], .agg [.int .i64 1, .int .i64 1], .agg [.int .i64 2, .int .i64 0], .agg [.int .i64 2, .int .i64 1]]]
def clR30 : V := .bool true
theorem clP30 : AM.Pure clR30 := by simp [clR30]
theorem clQ30 : ∀ a ∈ clA30, AM.Pure a := by simp [clA30]
theorem cl30 : ConP Tryz.prog 48 clA30 fun x => x = clR30 := closed_conT tok mixed named xt27_ok (fuel := 1000) (d := 40) (by kernel_rfl) clP30
def xt30 : ExtF := fun f args H => if Nat.beq f 48 then (if eqL (eqV 40) args clA30 then some (clR30, H) else xt27 f args H) else xt27 f args H
theorem xt30_ok : ExtOk Tryz.prog xt30 := ext_more xt27_ok cl30 clQ30
def clA32 : List V := [.agg [.str ⟨#[114]⟩, .lst 1 true [.str ⟨#[97]⟩, .str ⟨#[98]⟩], .lst 2 false [.agg [.int .i64 1, .lst 3 false [.agg [.int .i64 1, .int .i64 1, .str ⟨#[]⟩], .agg [.int .i64 1, .int .i64 1, .str ⟨#[]⟩]]], .agg [.int .i64 2, .lst 3 false [.agg [.int .i64 1, .int .i64 1, .str ⟨#[]⟩], .agg [.int .i64 1, .int .i64 2, .str ⟨#[]⟩]]]]], .lst 2 true [.agg [.int .u32 0, .int .u32 2]], .lst 2 false [.agg [.int .i64 1, .int .i64 1], .agg [.int .i64 2, .int .i64 0], .agg [.int .i64 2, .int .i64 1]]]
def clR32 : V := .bool true
theorem clP32 : AM.Pure clR32 := by simp [clR32]
theorem clQ32 : ∀ a ∈ clA32, AM.Pure a := by simp [clA32]
theorem cl32 : ConP Tryz.prog 48 clA32 fun x => x = clR32 := closed_conT tok mixed named xt30_ok (fuel := 1000) (d := 40) (by kernel_rfl) clP32
def xt32 : ExtF := fun f args H => if Nat.beq f 48 then (if eqL (eqV 40) args clA32 then some (clR32, H) else xt30 f args H) else xt30 f args H
theorem xt32_ok : ExtOk Tryz.prog xt32 := ext_more xt30_ok cl32 clQ32
def clA36 : List V := [.agg [.str ⟨#[114]⟩, .lst 1 true [.str ⟨#[97]⟩, .str ⟨#[98]⟩], .lst 2 false [.agg [.int .i64 1, .lst 3 false [.agg [.int .i64 1, .int .i64 1, .str ⟨#[]⟩], .agg [.int .i64 1, .int .i64 1, .str ⟨#[]⟩]]], .agg [.int .i64 2, .lst 3 false [.agg [.int .i64 1, .int .i64 1, .str ⟨#[]⟩], .agg [.int .i64 1, .int .i64 2, .str ⟨#[]⟩]]]]], .lst 2 true [.agg [.int .u32 0, .int .u32 2]], .lst 2 false [.agg [.int .i64 2, .int .i64 0], .agg [.int .i64 2, .int .i64 1]]]
def clR36 : V := .bool false
theorem clP36 : AM.Pure clR36 := by simp [clR36]
theorem clQ36 : ∀ a ∈ clA36, AM.Pure a := by simp [clA36]
theorem cl36 : ConP Tryz.prog 48 clA36 fun x => x = clR36 := closed_conT tok mixed named xt32_ok (fuel := 1000) (d := 40) (by kernel_rfl) clP36
def xt36 : ExtF := fun f args H => if Nat.beq f 48 then (if eqL (eqV 40) args clA36 then some (clR36, H) else xt32 f args H) else xt32 f args H
theorem xt36_ok : ExtOk Tryz.prog xt36 := ext_more xt32_ok cl36 clQ36
def clA40 : List V := [.agg [.str ⟨#[114]⟩, .lst 1 true [.str ⟨#[97]⟩, .str ⟨#[98]⟩], .lst 2 false [.agg [.int .i64 1, .lst 3 false [.agg [.int .i64 1, .int .i64 1, .str ⟨#[]⟩], .agg [.int .i64 1, .int .i64 1, .str ⟨#[]⟩]]], .agg [.int .i64 2, .lst 3 false [.agg [.int .i64 1, .int .i64 1, .str ⟨#[]⟩], .agg [.int .i64 1, .int .i64 2, .str ⟨#[]⟩]]]]], .lst 2 true [.agg [.int .u32 0, .int .u32 2]], .lst 2 false [.agg [.int .i64 1, .int .i64 1], .agg [.int .i64 2, .int .i64 1]]]
def clR40 : V := .bool true
theorem clP40 : AM.Pure clR40 := by simp [clR40]
theorem clQ40 : ∀ a ∈ clA40, AM.Pure a := by simp [clA40]
theorem cl40 : ConP Tryz.prog 48 clA40 fun x => x = clR40 := closed_conT tok mixed named xt36_ok (fuel := 1000) (d := 40) (by kernel_rfl) clP40
def xt40 : ExtF := fun f args H => if Nat.beq f 48 then (if eqL (eqV 40) args clA40 then some (clR40, H) else xt36 f args H) else xt36 f args H
theorem xt40_ok : ExtOk Tryz.prog xt40 := ext_more xt36_ok cl40 clQ40
def clA44 : List V := [.agg [.str ⟨#[114]⟩, .lst 1 true [.str ⟨#[97]⟩, .str ⟨#[98]⟩], .lst 2 false [.agg [.int .i64 1, .lst 3 false [.agg [.int .i64 1, .int .i64 1, .str ⟨#[]⟩], .agg [.int .i64 1, .int .i64 1, .str ⟨#[]⟩]]], .agg [.int .i64 2, .lst 3 false [.agg [.int .i64 1, .int .i64 1, .str ⟨#[]⟩], .agg [.int .i64 1, .int .i64 2, .str ⟨#[]⟩]]]]], .lst 2 true [.agg [.int .u32 0, .int .u32 2]], .lst 2 false [.agg [.int .i64 1, .int .i64 1]]]
def clR44 : V := .bool false
theorem clP44 : AM.Pure clR44 := by simp [clR44]
theorem clQ44 : ∀ a ∈ clA44, AM.Pure a := by simp [clA44]
theorem cl44 : ConP Tryz.prog 48 clA44 fun x => x = clR44 := closed_conT tok mixed named xt40_ok (fuel := 1000) (d := 40) (by kernel_rfl) clP44
def xt44 : ExtF := fun f args H => if Nat.beq f 48 then (if eqL (eqV 40) args clA44 then some (clR44, H) else xt40 f args H) else xt40 f args H
theorem xt44_ok : ExtOk Tryz.prog xt44 := ext_more xt40_ok cl44 clQ44
def clA45 : List V := [.agg [.str ⟨#[114]⟩, .lst 1 true [.str ⟨#[97]⟩, .str ⟨#[98]⟩], .lst 2 false [.agg [.int .i64 1, .lst 3 false [.agg [.int .i64 1, .int .i64 1, .str ⟨#[]⟩], .agg [.int .i64 1, .int .i64 1, .str ⟨#[]⟩]]], .agg [.int .i64 2, .lst 3 false [.agg [.int .i64 1, .int .i64 1, .str ⟨#[]⟩], .agg [.int .i64 1, .int .i64 2, .str ⟨#[]⟩]]]]], .lst 2 true [.agg [.int .u32 0, .int .u32 2]], .lst 2 false [.agg [.int .i64 1, .int .i64 0], .agg [.int .i64 1, .int .i64 1], .agg [.int .i64 2, .int .i64 0], .agg [.int .i64 2, .int .i64 1]]]
def clR45 : V := .lst 2 false [.agg [.int .i64 1, .int .i64 1], .agg [.int .i64 2, .int .i64 1]]
theorem clP45 : AM.Pure clR45 := by simp [clR45]
theorem clQ45 : ∀ a ∈ clA45, AM.Pure a := by simp [clA45]
theorem cl45 : ConP Tryz.prog 49 clA45 fun x => x = clR45 := closed_conT tok mixed named xt44_ok (fuel := 1000) (d := 40) (by kernel_rfl) clP45
def xt45 : ExtF := fun f args H => if Nat.beq f 49 then (if eqL (eqV 40) args clA45 then some (clR45, H) else xt44 f args H) else xt44 f args H
theorem xt45_ok : ExtOk Tryz.prog xt45 := ext_more xt44_ok cl45 clQ45
def clA46 : List V := [.agg [.str ⟨#[114]⟩, .lst 1 true [.str ⟨#[97]⟩, .str ⟨#[98]⟩], .lst 2 false [.agg [.int .i64 1, .lst 3 false [.agg [.int .i64 1, .int .i64 1, .str ⟨#[]⟩], .agg [.int .i64 1, .int .i64 1, .str ⟨#[]⟩]]], .agg [.int .i64 2, .lst 3 false [.agg [.int .i64 1, .int .i64 1, .str ⟨#[]⟩], .agg [.int .i64 1, .int .i64 2, .str ⟨#[]⟩]]]]], .lst 2 true [.agg [.int .u32 0, .int .u32 2]], .lst 2 false [.agg [.int .i64 1, .int .i64 0], .agg [.int .i64 1, .int .i64 1], .agg [.int .i64 2, .int .i64 0], .agg [.int .i64 2, .int .i64 1]]]
def clR46 : V := .tup [.lst 2 false [.agg [.int .i64 1, .int .i64 1], .agg [.int .i64 2, .int .i64 1]], .int .i64 0]
theorem clP46 : AM.Pure clR46 := by simp [clR46]
theorem clQ46 : ∀ a ∈ clA46, AM.Pure a := by simp [clA46]
theorem cl46 : ConP Tryz.prog 20 clA46 fun x => x = clR46 := closed_conT tok mixed named xt45_ok (fuel := 1000) (d := 40) (by kernel_rfl) clP46
def xt46 : ExtF := fun f args H => if Nat.beq f 20 then (if eqL (eqV 40) args clA46 then some (clR46, H) else xt45 f args H) else xt45 f args H
theorem xt46_ok : ExtOk Tryz.prog xt46 := ext_more xt45_ok cl46 clQ46
def clA48 : List V := [.nilS]
def clR48 : V := .tup [.agg [.nilS, .nilS], .nilS]
theorem clP48 : AM.Pure clR48 := by simp [clR48]
theorem clQ48 : ∀ a ∈ clA48, AM.Pure a := by simp [clA48]
theorem cl48 : ConP Tryz.prog 63 clA48 fun x => x = clR48 := closed_conT tok mixed named xt46_ok (fuel := 1000) (d := 40) (by kernel_rfl) clP48
def xt48 : ExtF := fun f args H => if Nat.beq f 63 then (if eqL (eqV 40) args clA48 then some (clR48, H) else xt46 f args H) else xt46 f args H
theorem xt48_ok : ExtOk Tryz.prog xt48 := ext_more xt46_ok cl48 clQ48
def clA49 : List V := [.agg [.nilS, .nilS], .int .i64 20000]
def clR49 : V := .tup [.nilS, .int .i64 0, .int .i64 0]
theorem clP49 : AM.Pure clR49 := by simp [clR49]
theorem clQ49 : ∀ a ∈ clA49, AM.Pure a := by simp [clA49]
theorem cl49 : ConP Tryz.prog 64 clA49 fun x => x = clR49 := closed_conT tok mixed named xt48_ok (fuel := 1000) (d := 40) (by kernel_rfl) clP49
def xt49 : ExtF := fun f args H => if Nat.beq f 64 then (if eqL (eqV 40) args clA49 then some (clR49, H) else xt48 f args H) else xt48 f args H
theorem xt49_ok : ExtOk Tryz.prog xt49 := ext_more xt48_ok cl49 clQ49
def clA53 : List V := [.agg [.str ⟨#[114]⟩, .lst 1 true [.str ⟨#[97]⟩, .str ⟨#[98]⟩], .lst 2 false [.agg [.int .i64 1, .lst 3 false [.agg [.int .i64 1, .int .i64 1, .str ⟨#[]⟩], .agg [.int .i64 1, .int .i64 1, .str ⟨#[]⟩]]], .agg [.int .i64 2, .lst 3 false [.agg [.int .i64 1, .int .i64 1, .str ⟨#[]⟩], .agg [.int .i64 1, .int .i64 2, .str ⟨#[]⟩]]]]], .lst 2 true [.agg [.int .u32 1, .int .u32 2]], .int .i64 20000]
def clR53 : V := .tup [.agg [.lst 2 false [.agg [.int .i64 2, .int .i64 1]], .str ⟨#[114]⟩, .lst 1 false [.str ⟨#[97]⟩, .str ⟨#[98]⟩], .lst 2 false [.agg [.int .i64 1, .lst 3 false [.agg [.int .i64 1, .int .i64 1, .str ⟨#[]⟩], .agg [.int .i64 1, .int .i64 1, .str ⟨#[]⟩]]], .agg [.int .i64 2, .lst 3 false [.agg [.int .i64 1, .int .i64 1, .str ⟨#[]⟩], .agg [.int .i64 1, .int .i64 1, .str ⟨#[]⟩]]]], .lst 1 false [.lst 2 false [.agg [.int .i64 1, .int .i64 0], .agg [.int .i64 1, .int .i64 1], .agg [.int .i64 2, .int .i64 0], .agg [.int .i64 2, .int .i64 1]]], .lst 2 true [.agg [.int .i64 (-1), .lst 2 false [.agg [.int .i64 0, .int .i64 1]]]]], .int .i64 0]
theorem clP53 : AM.Pure clR53 := by simp [clR53]
theorem clQ53 : ∀ a ∈ clA53, AM.Pure a := by simp [clA53]
theorem cl53 : ConP Tryz.prog 28 clA53 fun x => x = clR53 := closed_conT tok mixed named xt49_ok (fuel := 1000) (d := 40) (by kernel_rfl) clP53
def xt53 : ExtF := fun f args H => if Nat.beq f 28 then (if eqL (eqV 40) args clA53 then some (clR53, H) else xt49 f args H) else xt49 f args H
theorem xt53_ok : ExtOk Tryz.prog xt53 := ext_more xt49_ok cl53 clQ53
def clA54 : List V := [.lst 1 false [.lst 2 false [.agg [.int .i64 1, .int .i64 0], .agg [.int .i64 1, .int .i64 1], .agg [.int .i64 2, .int .i64 0], .agg [.int .i64 2, .int .i64 1]]]]
def clR54 : V := .tup [.agg [.lst 1 false [.int .i64 1, .int .i64 1, .int .i64 1, .int .i64 1], .lst 1 false [.lst 1 false [.int .i64 0, .int .i64 1, .int .i64 2, .int .i64 3]]], .lst 2 false [.agg [.int .i64 1, .int .i64 0], .agg [.int .i64 1, .int .i64 1], .agg [.int .i64 2, .int .i64 0], .agg [.int .i64 2, .int .i64 1]]]
theorem clP54 : AM.Pure clR54 := by simp [clR54]
theorem clQ54 : ∀ a ∈ clA54, AM.Pure a := by simp [clA54]
theorem cl54 : ConP Tryz.prog 63 clA54 fun x => x = clR54 := closed_conT tok mixed named xt53_ok (fuel := 1000) (d := 40) (by kernel_rfl) clP54
def xt54 : ExtF := fun f args H => if Nat.beq f 63 then (if eqL (eqV 40) args clA54 then some (clR54, H) else xt53 f args H) else xt53 f args H
theorem xt54_ok : ExtOk Tryz.prog xt54 := ext_more xt53_ok cl54 clQ54
def clA56 : List V := [.agg [.lst 1 false [.int .i64 1, .int .i64 1, .int .i64 1, .int .i64 1], .lst 1 false [.lst 1 false [.int .i64 0, .int .i64 1, .int .i64 2, .int .i64 3]]], .int .i64 1, .lst 2 true [.agg [.int .i64 (-1), .lst 2 false [.agg [.int .i64 0, .int .i64 1]]]]]
def clR56 : V := .bool true
theorem clP56 : AM.Pure clR56 := by simp [clR56]
theorem clQ56 : ∀ a ∈ clA56, AM.Pure a := by simp [clA56]
theorem cl56 : ConP Tryz.prog 76 clA56 fun x => x = clR56 := closed_conT tok mixed named xt54_ok (fuel := 1000) (d := 40) (by kernel_rfl) clP56
def xt56 : ExtF := fun f args H => if Nat.beq f 76 then (if eqL (eqV 40) args clA56 then some (clR56, H) else xt54 f args H) else xt54 f args H
theorem xt56_ok : ExtOk Tryz.prog xt56 := ext_more xt54_ok cl56 clQ56
def clA57 : List V := [.agg [.str ⟨#[114]⟩, .lst 1 true [.str ⟨#[97]⟩, .str ⟨#[98]⟩], .lst 2 false [.agg [.int .i64 1, .lst 3 false [.agg [.int .i64 1, .int .i64 1, .str ⟨#[]⟩], .agg [.int .i64 1, .int .i64 1, .str ⟨#[]⟩]]], .agg [.int .i64 2, .lst 3 false [.agg [.int .i64 1, .int .i64 1, .str ⟨#[]⟩], .agg [.int .i64 1, .int .i64 2, .str ⟨#[]⟩]]]]], .lst 2 true [.agg [.int .u32 1, .int .u32 2]], .agg [.lst 2 false [.agg [.int .i64 2, .int .i64 1]], .str ⟨#[114]⟩, .lst 1 false [.str ⟨#[97]⟩, .str ⟨#[98]⟩], .lst 2 false [.agg [.int .i64 1, .lst 3 false [.agg [.int .i64 1, .int .i64 1, .str ⟨#[]⟩], .agg [.int .i64 1, .int .i64 1, .str ⟨#[]⟩]]], .agg [.int .i64 2, .lst 3 false [.agg [.int .i64 1, .int .i64 1, .str ⟨#[]⟩], .agg [.int .i64 1, .int .i64 1, .str ⟨#[]⟩]]]], .lst 1 false [.lst 2 false [.agg [.int .i64 1, .int .i64 0], .agg [.int .i64 1, .int .i64 1], .agg [.int .i64 2, .int .i64 0], .agg [.int .i64 2, .int .i64 1]]], .lst 2 true [.agg [.int .i64 (-1), .lst 2 false [.agg [.int .i64 0, .int .i64 1]]]]]]
def clR57 : V := .bool true
theorem clP57 : AM.Pure clR57 := by simp [clR57]
theorem clQ57 : ∀ a ∈ clA57, AM.Pure a := by simp [clA57]
theorem cl57 : ConP Tryz.prog 30 clA57 fun x => x = clR57 := closed_conT tok mixed named xt56_ok (fuel := 1000) (d := 40) (by kernel_rfl) clP57
def xt57 : ExtF := fun f args H => if Nat.beq f 30 then (if eqL (eqV 40) args clA57 then some (clR57, H) else xt56 f args H) else xt56 f args H
theorem xt57_ok : ExtOk Tryz.prog xt57 := ext_more xt56_ok cl57 clQ57
theorem awake_con : ConP Tryz.prog 12 [] fun x => x = .bool true := closed_conT tok mixed named xt57_ok (fuel := 1000) (d := 40) (by kernel_rfl) (.bool _)
end Go.Proofs.YteijbpppalhihaaGreat
