/- C4c: the example of the chapter, its calls by evaluation. Printed by mkclosed2.py. -/
import Derived.Test.YteijbpppalhihaaGreatC3
set_option linter.unusedVariables false
set_option linter.unusedSimpArgs false
namespace Go.Proofs.YteijbpppalhihaaGreat
open Go Go.AM
def clA43 : List V := [.agg [.str ⟨#[114]⟩, .lst 1 true [.str ⟨#[97]⟩, .str ⟨#[98]⟩], .lst 2 false [.agg [.int .i64 1, .lst 3 false [.agg [.int .i64 1, .int .i64 1, .str ⟨#[]⟩], .agg [.int .i64 1, .int .i64 1, .str ⟨#[]⟩]]], .agg [.int .i64 2, .lst 3 false [.agg [.int .i64 1, .int .i64 1, .str ⟨#[]⟩], .agg [.int .i64 1, .int .i64 2, .str ⟨#[]⟩]]]]], .lst 2 true [.agg [.int .u32 0, .int .u32 2]], .lst 2 false [.agg [.int .i64 1, .int .i64 0], .agg [.int .i64 2, .int .i64 0], .agg [.int .i64 2, .int .i64 1]]]
def clR43 : V := .bool true
theorem clP43 : AM.Pure clR43 := by simp [clR43]
theorem clQ43 : ∀ a ∈ clA43, AM.Pure a := by simp [clA43]
theorem cl43 : ConP Tryz.prog 44 clA43 fun x => x = clR43 := closed_conT tok mixed named ext_ok (fuel := 1000) (d := 40) (by kernel_rfl) clP43
def clA24 : List V := [.agg [.str ⟨#[114]⟩, .lst 1 true [.str ⟨#[97]⟩, .str ⟨#[98]⟩], .lst 2 false [.agg [.int .i64 1, .lst 3 false [.agg [.int .i64 1, .int .i64 1, .str ⟨#[]⟩], .agg [.int .i64 1, .int .i64 1, .str ⟨#[]⟩]]], .agg [.int .i64 2, .lst 3 false [.agg [.int .i64 1, .int .i64 1, .str ⟨#[]⟩], .agg [.int .i64 1, .int .i64 2, .str ⟨#[]⟩]]]]], .lst 2 true [.agg [.int .u32 1, .int .u32 2]], .lst 2 false [.agg [.int .i64 2, .int .i64 1]]]
def clR24 : V := .bool true
theorem clP24 : AM.Pure clR24 := by simp [clR24]
theorem clQ24 : ∀ a ∈ clA24, AM.Pure a := by simp [clA24]
theorem cl24 : ConP Tryz.prog 44 clA24 fun x => x = clR24 := closed_conT tok mixed named ext_ok (fuel := 1000) (d := 40) (by kernel_rfl) clP24
def clA7 : List V := [.agg [.str ⟨#[114]⟩, .lst 1 true [.str ⟨#[97]⟩, .str ⟨#[98]⟩], .lst 2 false [.agg [.int .i64 1, .lst 3 false [.agg [.int .i64 1, .int .i64 1, .str ⟨#[]⟩], .agg [.int .i64 1, .int .i64 1, .str ⟨#[]⟩]]], .agg [.int .i64 2, .lst 3 false [.agg [.int .i64 1, .int .i64 1, .str ⟨#[]⟩], .agg [.int .i64 1, .int .i64 2, .str ⟨#[]⟩]]]]], .lst 2 false [.agg [.int .i64 1, .int .i64 0], .agg [.int .i64 1, .int .i64 1], .agg [.int .i64 2, .int .i64 0], .agg [.int .i64 2, .int .i64 1]]]
def clR7 : V := .nilS
theorem clP7 : AM.Pure clR7 := by simp [clR7]
theorem clQ7 : ∀ a ∈ clA7, AM.Pure a := by simp [clA7]
theorem cl7 : ConP Tryz.prog 66 clA7 fun x => x = clR7 := closed_conT tok mixed named ext_ok (fuel := 1000) (d := 40) (by kernel_rfl) clP7
def clA31 : List V := [.agg [.str ⟨#[114]⟩, .lst 1 true [.str ⟨#[97]⟩, .str ⟨#[98]⟩], .lst 2 false [.agg [.int .i64 1, .lst 3 false [.agg [.int .i64 1, .int .i64 1, .str ⟨#[]⟩], .agg [.int .i64 1, .int .i64 1, .str ⟨#[]⟩]]], .agg [.int .i64 2, .lst 3 false [.agg [.int .i64 1, .int .i64 1, .str ⟨#[]⟩], .agg [.int .i64 1, .int .i64 2, .str ⟨#[]⟩]]]]], .lst 2 true [.agg [.int .u32 0, .int .u32 2]], .lst 2 false [.agg [.int .i64 1, .int .i64 0]]]
def clR31 : V := .bool false
theorem clP31 : AM.Pure clR31 := by simp [clR31]
theorem clQ31 : ∀ a ∈ clA31, AM.Pure a := by simp [clA31]
theorem cl31 : ConP Tryz.prog 44 clA31 fun x => x = clR31 := closed_conT tok mixed named ext_ok (fuel := 1000) (d := 40) (by kernel_rfl) clP31
def clA34 : List V := [.agg [.str ⟨#[114]⟩, .lst 1 true [.str ⟨#[97]⟩, .str ⟨#[98]⟩], .lst 2 false [.agg [.int .i64 1, .lst 3 false [.agg [.int .i64 1, .int .i64 1, .str ⟨#[]⟩], .agg [.int .i64 1, .int .i64 1, .str ⟨#[]⟩]]], .agg [.int .i64 2, .lst 3 false [.agg [.int .i64 1, .int .i64 1, .str ⟨#[]⟩], .agg [.int .i64 1, .int .i64 2, .str ⟨#[]⟩]]]]], .lst 2 false [.agg [.int .i64 2, .int .i64 0], .agg [.int .i64 2, .int .i64 1]]]
def clR34 : V := .lst 2 false [.agg [.int .i64 1, .int .i64 0], .agg [.int .i64 1, .int .i64 1]]
theorem clP34 : AM.Pure clR34 := by simp [clR34]
theorem clQ34 : ∀ a ∈ clA34, AM.Pure a := by simp [clA34]
theorem cl34 : ConP Tryz.prog 66 clA34 fun x => x = clR34 := closed_conT tok mixed named ext_ok (fuel := 1000) (d := 40) (by kernel_rfl) clP34
def clA20 : List V := [.agg [.str ⟨#[114]⟩, .lst 1 true [.str ⟨#[97]⟩, .str ⟨#[98]⟩], .lst 2 false [.agg [.int .i64 1, .lst 3 false [.agg [.int .i64 1, .int .i64 1, .str ⟨#[]⟩], .agg [.int .i64 1, .int .i64 1, .str ⟨#[]⟩]]], .agg [.int .i64 2, .lst 3 false [.agg [.int .i64 1, .int .i64 1, .str ⟨#[]⟩], .agg [.int .i64 1, .int .i64 2, .str ⟨#[]⟩]]]]], .lst 2 true [.agg [.int .u32 1, .int .u32 2]], .lst 2 false [.agg [.int .i64 2, .int .i64 0]]]
def clR20 : V := .bool true
theorem clP20 : AM.Pure clR20 := by simp [clR20]
theorem clQ20 : ∀ a ∈ clA20, AM.Pure a := by simp [clA20]
theorem cl20 : ConP Tryz.prog 44 clA20 fun x => x = clR20 := closed_conT tok mixed named ext_ok (fuel := 1000) (d := 40) (by kernel_rfl) clP20
def clA28 : List V := [.agg [.str ⟨#[114]⟩, .lst 1 true [.str ⟨#[97]⟩, .str ⟨#[98]⟩], .lst 2 false [.agg [.int .i64 1, .lst 3 false [.agg [.int .i64 1, .int .i64 1, .str ⟨#[]⟩], .agg [.int .i64 1, .int .i64 1, .str ⟨#[]⟩]]], .agg [.int .i64 2, .lst 3 false [.agg [.int .i64 1, .int .i64 1, .str ⟨#[]⟩], .agg [.int .i64 1, .int .i64 2, .str ⟨#[]⟩]]]]], .lst 2 true [.agg [.int .u32 0, .int .u32 2]], .lst 2 false [.agg [.int .i64 1, .int .i64 0], .agg [.int .i64 1, .int .i64 1], .agg [.int .i64 2, .int .i64 0], .agg [.int .i64 2, .int .i64 1]]]
def clR28 : V := .int .i64 0
theorem clP28 : AM.Pure clR28 := by simp [clR28]
theorem clQ28 : ∀ a ∈ clA28, AM.Pure a := by simp [clA28]
theorem cl28 : ConP Tryz.prog 43 clA28 fun x => x = clR28 := closed_conT tok mixed named ext_ok (fuel := 1000) (d := 40) (by kernel_rfl) clP28
def clA55 : List V := [.agg [.str ⟨#[114]⟩, .lst 1 false [.str ⟨#[97]⟩, .str ⟨#[98]⟩], .lst 2 false [.agg [.int .i64 1, .lst 3 false [.agg [.int .i64 1, .int .i64 1, .str ⟨#[]⟩], .agg [.int .i64 1, .int .i64 1, .str ⟨#[]⟩]]], .agg [.int .i64 2, .lst 3 false [.agg [.int .i64 1, .int .i64 1, .str ⟨#[]⟩], .agg [.int .i64 1, .int .i64 1, .str ⟨#[]⟩]]]]], .lst 2 true [.agg [.int .u32 1, .int .u32 2]], .nilS]
def clR55 : V := .bool true
theorem clP55 : AM.Pure clR55 := by simp [clR55]
theorem clQ55 : ∀ a ∈ clA55, AM.Pure a := by simp [clA55]
theorem cl55 : ConP Tryz.prog 44 clA55 fun x => x = clR55 := closed_conT tok mixed named ext_ok (fuel := 1000) (d := 40) (by kernel_rfl) clP55
def clA3 : List V := [.agg [.str ⟨#[114]⟩, .lst 1 true [.str ⟨#[97]⟩, .str ⟨#[98]⟩], .lst 2 false [.agg [.int .i64 1, .lst 3 false [.agg [.int .i64 1, .int .i64 1, .str ⟨#[]⟩], .agg [.int .i64 1, .int .i64 1, .str ⟨#[]⟩]]], .agg [.int .i64 2, .lst 3 false [.agg [.int .i64 1, .int .i64 1, .str ⟨#[]⟩], .agg [.int .i64 1, .int .i64 2, .str ⟨#[]⟩]]]]], .lst 2 true [.agg [.int .u32 1, .int .u32 2]], .lst 2 true [.agg [.int .i64 1, .int .i64 0]]]
def clR3 : V := .int .i64 0
theorem clP3 : AM.Pure clR3 := by simp [clR3]
theorem clQ3 : ∀ a ∈ clA3, AM.Pure a := by simp [clA3]
theorem cl3 : ConP Tryz.prog 43 clA3 fun x => x = clR3 := closed_conT tok mixed named ext_ok (fuel := 1000) (d := 40) (by kernel_rfl) clP3
def clA50 : List V := [.agg [.str ⟨#[114]⟩, .lst 1 true [.str ⟨#[97]⟩, .str ⟨#[98]⟩], .lst 2 false [.agg [.int .i64 1, .lst 3 false [.agg [.int .i64 1, .int .i64 1, .str ⟨#[]⟩], .agg [.int .i64 1, .int .i64 1, .str ⟨#[]⟩]]], .agg [.int .i64 2, .lst 3 false [.agg [.int .i64 1, .int .i64 1, .str ⟨#[]⟩], .agg [.int .i64 1, .int .i64 2, .str ⟨#[]⟩]]]]], .nilS]
def clR50 : V := .lst 2 false [.agg [.int .i64 1, .int .i64 0], .agg [.int .i64 1, .int .i64 1], .agg [.int .i64 2, .int .i64 0], .agg [.int .i64 2, .int .i64 1]]
theorem clP50 : AM.Pure clR50 := by simp [clR50]
theorem clQ50 : ∀ a ∈ clA50, AM.Pure a := by simp [clA50]
theorem cl50 : ConP Tryz.prog 66 clA50 fun x => x = clR50 := closed_conT tok mixed named ext_ok (fuel := 1000) (d := 40) (by kernel_rfl) clP50
def clA10 : List V := [.lst 2 false [.agg [.int .i64 1, .int .i64 0], .agg [.int .i64 1, .int .i64 1], .agg [.int .i64 2, .int .i64 0], .agg [.int .i64 2, .int .i64 1]], .int .i64 0]
def clR10 : V := .lst 2 false [.agg [.int .i64 1, .int .i64 1], .agg [.int .i64 2, .int .i64 0], .agg [.int .i64 2, .int .i64 1]]
theorem clP10 : AM.Pure clR10 := by simp [clR10]
theorem clQ10 : ∀ a ∈ clA10, AM.Pure a := by simp [clA10]
theorem cl10 : ConP Tryz.prog 82 clA10 fun x => x = clR10 := closed_conT tok mixed named ext_ok (fuel := 1000) (d := 40) (by kernel_rfl) clP10
def clA18 : List V := [.lst 2 false [.agg [.int .i64 1, .int .i64 0], .agg [.int .i64 1, .int .i64 1], .agg [.int .i64 2, .int .i64 0], .agg [.int .i64 2, .int .i64 1]], .int .i64 2]
def clR18 : V := .lst 2 false [.agg [.int .i64 1, .int .i64 0], .agg [.int .i64 1, .int .i64 1], .agg [.int .i64 2, .int .i64 1]]
theorem clP18 : AM.Pure clR18 := by simp [clR18]
theorem clQ18 : ∀ a ∈ clA18, AM.Pure a := by simp [clA18]
theorem cl18 : ConP Tryz.prog 82 clA18 fun x => x = clR18 := closed_conT tok mixed named ext_ok (fuel := 1000) (d := 40) (by kernel_rfl) clP18
def clA33 : List V := [.lst 2 false [.agg [.int .i64 1, .int .i64 1], .agg [.int .i64 2, .int .i64 0], .agg [.int .i64 2, .int .i64 1]], .int .i64 0]
def clR33 : V := .lst 2 false [.agg [.int .i64 2, .int .i64 0], .agg [.int .i64 2, .int .i64 1]]
theorem clP33 : AM.Pure clR33 := by simp [clR33]
theorem clQ33 : ∀ a ∈ clA33, AM.Pure a := by simp [clA33]
theorem cl33 : ConP Tryz.prog 82 clA33 fun x => x = clR33 := closed_conT tok mixed named ext_ok (fuel := 1000) (d := 40) (by kernel_rfl) clP33
def clA41 : List V := [.lst 2 false [.agg [.int .i64 1, .int .i64 1], .agg [.int .i64 2, .int .i64 1]], .int .i64 1]
def clR41 : V := .lst 2 false [.agg [.int .i64 1, .int .i64 1]]
theorem clP41 : AM.Pure clR41 := by simp [clR41]
theorem clQ41 : ∀ a ∈ clA41, AM.Pure a := by simp [clA41]
theorem cl41 : ConP Tryz.prog 82 clA41 fun x => x = clR41 := closed_conT tok mixed named ext_ok (fuel := 1000) (d := 40) (by kernel_rfl) clP41
end Go.Proofs.YteijbpppalhihaaGreat
