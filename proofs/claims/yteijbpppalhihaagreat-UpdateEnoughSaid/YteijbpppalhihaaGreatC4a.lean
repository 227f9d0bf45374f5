/- C4a: the example of the chapter, its calls by evaluation. Printed by mkclosed2.py. -/
import Derived.Test.YteijbpppalhihaaGreatC3
set_option linter.unusedVariables false
set_option linter.unusedSimpArgs false
namespace Go.Proofs.YteijbpppalhihaaGreat
open Go Go.AM
def clA52 : List V := [.agg [.str ⟨#[114]⟩, .lst 1 true [.str ⟨#[97]⟩, .str ⟨#[98]⟩], .lst 2 false [.agg [.int .i64 1, .lst 3 false [.agg [.int .i64 1, .int .i64 1, .str ⟨#[]⟩], .agg [.int .i64 1, .int .i64 1, .str ⟨#[]⟩]]], .agg [.int .i64 2, .lst 3 false [.agg [.int .i64 1, .int .i64 1, .str ⟨#[]⟩], .agg [.int .i64 1, .int .i64 2, .str ⟨#[]⟩]]]]], .lst 2 true [.agg [.int .u32 1, .int .u32 2]], .lst 2 false [.agg [.int .i64 2, .int .i64 1]]]
def clR52 : V := .tup [.agg [.str ⟨#[114]⟩, .lst 1 false [.str ⟨#[97]⟩, .str ⟨#[98]⟩], .lst 2 false [.agg [.int .i64 1, .lst 3 false [.agg [.int .i64 1, .int .i64 1, .str ⟨#[]⟩], .agg [.int .i64 1, .int .i64 1, .str ⟨#[]⟩]]], .agg [.int .i64 2, .lst 3 false [.agg [.int .i64 1, .int .i64 1, .str ⟨#[]⟩], .agg [.int .i64 1, .int .i64 1, .str ⟨#[]⟩]]]]], .int .i64 0]
theorem clP52 : AM.Pure clR52 := by simp [clR52]
theorem clQ52 : ∀ a ∈ clA52, AM.Pure a := by simp [clA52]
theorem cl52 : ConP Tryz.prog 22 clA52 fun x => x = clR52 := closed_conT tok mixed named ext_ok (fuel := 1000) (d := 40) (by kernel_rfl) clP52
def clA39 : List V := [.agg [.str ⟨#[114]⟩, .lst 1 true [.str ⟨#[97]⟩, .str ⟨#[98]⟩], .lst 2 false [.agg [.int .i64 1, .lst 3 false [.agg [.int .i64 1, .int .i64 1, .str ⟨#[]⟩], .agg [.int .i64 1, .int .i64 1, .str ⟨#[]⟩]]], .agg [.int .i64 2, .lst 3 false [.agg [.int .i64 1, .int .i64 1, .str ⟨#[]⟩], .agg [.int .i64 1, .int .i64 2, .str ⟨#[]⟩]]]]], .lst 2 true [.agg [.int .u32 0, .int .u32 2]], .lst 2 false [.agg [.int .i64 1, .int .i64 0], .agg [.int .i64 2, .int .i64 0]]]
def clR39 : V := .bool false
theorem clP39 : AM.Pure clR39 := by simp [clR39]
theorem clQ39 : ∀ a ∈ clA39, AM.Pure a := by simp [clA39]
theorem cl39 : ConP Tryz.prog 44 clA39 fun x => x = clR39 := closed_conT tok mixed named ext_ok (fuel := 1000) (d := 40) (by kernel_rfl) clP39
def clA19 : List V := [.agg [.str ⟨#[114]⟩, .lst 1 true [.str ⟨#[97]⟩, .str ⟨#[98]⟩], .lst 2 false [.agg [.int .i64 1, .lst 3 false [.agg [.int .i64 1, .int .i64 1, .str ⟨#[]⟩], .agg [.int .i64 1, .int .i64 1, .str ⟨#[]⟩]]], .agg [.int .i64 2, .lst 3 false [.agg [.int .i64 1, .int .i64 1, .str ⟨#[]⟩], .agg [.int .i64 1, .int .i64 2, .str ⟨#[]⟩]]]]], .lst 2 false [.agg [.int .i64 1, .int .i64 0], .agg [.int .i64 1, .int .i64 1], .agg [.int .i64 2, .int .i64 1]]]
def clR19 : V := .lst 2 false [.agg [.int .i64 2, .int .i64 0]]
theorem clP19 : AM.Pure clR19 := by simp [clR19]
theorem clQ19 : ∀ a ∈ clA19, AM.Pure a := by simp [clA19]
theorem cl19 : ConP Tryz.prog 66 clA19 fun x => x = clR19 := closed_conT tok mixed named ext_ok (fuel := 1000) (d := 40) (by kernel_rfl) clP19
def clA11 : List V := [.agg [.str ⟨#[114]⟩, .lst 1 true [.str ⟨#[97]⟩, .str ⟨#[98]⟩], .lst 2 false [.agg [.int .i64 1, .lst 3 false [.agg [.int .i64 1, .int .i64 1, .str ⟨#[]⟩], .agg [.int .i64 1, .int .i64 1, .str ⟨#[]⟩]]], .agg [.int .i64 2, .lst 3 false [.agg [.int .i64 1, .int .i64 1, .str ⟨#[]⟩], .agg [.int .i64 1, .int .i64 2, .str ⟨#[]⟩]]]]], .lst 2 false [.agg [.int .i64 1, .int .i64 1], .agg [.int .i64 2, .int .i64 0], .agg [.int .i64 2, .int .i64 1]]]
def clR11 : V := .lst 2 false [.agg [.int .i64 1, .int .i64 0]]
theorem clP11 : AM.Pure clR11 := by simp [clR11]
theorem clQ11 : ∀ a ∈ clA11, AM.Pure a := by simp [clA11]
theorem cl11 : ConP Tryz.prog 66 clA11 fun x => x = clR11 := closed_conT tok mixed named ext_ok (fuel := 1000) (d := 40) (by kernel_rfl) clP11
def clA15 : List V := [.agg [.str ⟨#[114]⟩, .lst 1 true [.str ⟨#[97]⟩, .str ⟨#[98]⟩], .lst 2 false [.agg [.int .i64 1, .lst 3 false [.agg [.int .i64 1, .int .i64 1, .str ⟨#[]⟩], .agg [.int .i64 1, .int .i64 1, .str ⟨#[]⟩]]], .agg [.int .i64 2, .lst 3 false [.agg [.int .i64 1, .int .i64 1, .str ⟨#[]⟩], .agg [.int .i64 1, .int .i64 2, .str ⟨#[]⟩]]]]], .lst 2 false [.agg [.int .i64 1, .int .i64 0], .agg [.int .i64 2, .int .i64 0], .agg [.int .i64 2, .int .i64 1]]]
def clR15 : V := .lst 2 false [.agg [.int .i64 1, .int .i64 1]]
theorem clP15 : AM.Pure clR15 := by simp [clR15]
theorem clQ15 : ∀ a ∈ clA15, AM.Pure a := by simp [clA15]
theorem cl15 : ConP Tryz.prog 66 clA15 fun x => x = clR15 := closed_conT tok mixed named ext_ok (fuel := 1000) (d := 40) (by kernel_rfl) clP15
def clA23 : List V := [.agg [.str ⟨#[114]⟩, .lst 1 true [.str ⟨#[97]⟩, .str ⟨#[98]⟩], .lst 2 false [.agg [.int .i64 1, .lst 3 false [.agg [.int .i64 1, .int .i64 1, .str ⟨#[]⟩], .agg [.int .i64 1, .int .i64 1, .str ⟨#[]⟩]]], .agg [.int .i64 2, .lst 3 false [.agg [.int .i64 1, .int .i64 1, .str ⟨#[]⟩], .agg [.int .i64 1, .int .i64 2, .str ⟨#[]⟩]]]]], .lst 2 false [.agg [.int .i64 1, .int .i64 0], .agg [.int .i64 1, .int .i64 1], .agg [.int .i64 2, .int .i64 0]]]
def clR23 : V := .lst 2 false [.agg [.int .i64 2, .int .i64 1]]
theorem clP23 : AM.Pure clR23 := by simp [clR23]
theorem clQ23 : ∀ a ∈ clA23, AM.Pure a := by simp [clA23]
theorem cl23 : ConP Tryz.prog 66 clA23 fun x => x = clR23 := closed_conT tok mixed named ext_ok (fuel := 1000) (d := 40) (by kernel_rfl) clP23
def clA8 : List V := [.agg [.str ⟨#[114]⟩, .lst 1 true [.str ⟨#[97]⟩, .str ⟨#[98]⟩], .lst 2 false [.agg [.int .i64 1, .lst 3 false [.agg [.int .i64 1, .int .i64 1, .str ⟨#[]⟩], .agg [.int .i64 1, .int .i64 1, .str ⟨#[]⟩]]], .agg [.int .i64 2, .lst 3 false [.agg [.int .i64 1, .int .i64 1, .str ⟨#[]⟩], .agg [.int .i64 1, .int .i64 2, .str ⟨#[]⟩]]]]], .lst 2 true [.agg [.int .u32 1, .int .u32 2]], .nilS]
def clR8 : V := .bool false
theorem clP8 : AM.Pure clR8 := by simp [clR8]
theorem clQ8 : ∀ a ∈ clA8, AM.Pure a := by simp [clA8]
theorem cl8 : ConP Tryz.prog 44 clA8 fun x => x = clR8 := closed_conT tok mixed named ext_ok (fuel := 1000) (d := 40) (by kernel_rfl) clP8
def clA42 : List V := [.agg [.str ⟨#[114]⟩, .lst 1 true [.str ⟨#[97]⟩, .str ⟨#[98]⟩], .lst 2 false [.agg [.int .i64 1, .lst 3 false [.agg [.int .i64 1, .int .i64 1, .str ⟨#[]⟩], .agg [.int .i64 1, .int .i64 1, .str ⟨#[]⟩]]], .agg [.int .i64 2, .lst 3 false [.agg [.int .i64 1, .int .i64 1, .str ⟨#[]⟩], .agg [.int .i64 1, .int .i64 2, .str ⟨#[]⟩]]]]], .lst 2 false [.agg [.int .i64 1, .int .i64 1]]]
def clR42 : V := .lst 2 false [.agg [.int .i64 1, .int .i64 0], .agg [.int .i64 2, .int .i64 0], .agg [.int .i64 2, .int .i64 1]]
theorem clP42 : AM.Pure clR42 := by simp [clR42]
theorem clQ42 : ∀ a ∈ clA42, AM.Pure a := by simp [clA42]
theorem cl42 : ConP Tryz.prog 66 clA42 fun x => x = clR42 := closed_conT tok mixed named ext_ok (fuel := 1000) (d := 40) (by kernel_rfl) clP42
def clA1 : List V := [.agg [.str ⟨#[114]⟩, .lst 1 true [.str ⟨#[97]⟩, .str ⟨#[98]⟩], .lst 2 false [.agg [.int .i64 1, .lst 3 false [.agg [.int .i64 1, .int .i64 1, .str ⟨#[]⟩], .agg [.int .i64 1, .int .i64 1, .str ⟨#[]⟩]]], .agg [.int .i64 2, .lst 3 false [.agg [.int .i64 1, .int .i64 1, .str ⟨#[]⟩], .agg [.int .i64 1, .int .i64 2, .str ⟨#[]⟩]]]]], .lst 2 true [.agg [.int .u32 1, .int .u32 2]], .lst 2 true [.agg [.int .i64 1, .int .i64 1]]]
def clR1 : V := .int .i64 0
theorem clP1 : AM.Pure clR1 := by simp [clR1]
theorem clQ1 : ∀ a ∈ clA1, AM.Pure a := by simp [clA1]
theorem cl1 : ConP Tryz.prog 43 clA1 fun x => x = clR1 := closed_conT tok mixed named ext_ok (fuel := 1000) (d := 40) (by kernel_rfl) clP1
def clA47 : List V := [.agg [.str ⟨#[114]⟩, .lst 1 true [.str ⟨#[97]⟩, .str ⟨#[98]⟩], .lst 2 false [.agg [.int .i64 1, .lst 3 false [.agg [.int .i64 1, .int .i64 1, .str ⟨#[]⟩], .agg [.int .i64 1, .int .i64 1, .str ⟨#[]⟩]]], .agg [.int .i64 2, .lst 3 false [.agg [.int .i64 1, .int .i64 1, .str ⟨#[]⟩], .agg [.int .i64 1, .int .i64 2, .str ⟨#[]⟩]]]]], .lst 2 true [.agg [.int .u32 1, .int .u32 2]], .nilS]
def clR47 : V := .int .i64 0
theorem clP47 : AM.Pure clR47 := by simp [clR47]
theorem clQ47 : ∀ a ∈ clA47, AM.Pure a := by simp [clA47]
theorem cl47 : ConP Tryz.prog 43 clA47 fun x => x = clR47 := closed_conT tok mixed named ext_ok (fuel := 1000) (d := 40) (by kernel_rfl) clP47
end Go.Proofs.YteijbpppalhihaaGreat
