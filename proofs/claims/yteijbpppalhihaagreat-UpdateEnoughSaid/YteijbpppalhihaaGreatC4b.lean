/- C4b: the example of the chapter, its calls by evaluation. Printed by mkclosed2.py. -/
import Derived.Test.YteijbpppalhihaaGreatC3
set_option linter.unusedVariables false
set_option linter.unusedSimpArgs false
namespace Go.Proofs.YteijbpppalhihaaGreat
open Go Go.AM
def clA2 : List V := [.agg [.str ⟨#[114]⟩, .lst 1 true [.str ⟨#[97]⟩, .str ⟨#[98]⟩], .lst 2 false [.agg [.int .i64 1, .lst 3 false [.agg [.int .i64 1, .int .i64 1, .str ⟨#[]⟩], .agg [.int .i64 1, .int .i64 1, .str ⟨#[]⟩]]], .agg [.int .i64 2, .lst 3 false [.agg [.int .i64 1, .int .i64 1, .str ⟨#[]⟩], .agg [.int .i64 1, .int .i64 2, .str ⟨#[]⟩]]]]], .lst 2 true [.agg [.int .u32 1, .int .u32 2]], .lst 2 true [.agg [.int .i64 1, .int .i64 1]]]
def clR2 : V := .tup [.agg [.str ⟨#[114]⟩, .lst 1 false [.str ⟨#[97]⟩, .str ⟨#[98]⟩], .lst 2 false [.agg [.int .i64 1, .lst 3 false [.agg [.int .i64 1, .int .i64 1, .str ⟨#[]⟩], .agg [.int .i64 1, .int .i64 2, .str ⟨#[]⟩]]], .agg [.int .i64 2, .lst 3 false [.agg [.int .i64 1, .int .i64 1, .str ⟨#[]⟩], .agg [.int .i64 1, .int .i64 2, .str ⟨#[]⟩]]]]], .int .i64 0]
theorem clP2 : AM.Pure clR2 := by simp [clR2]
theorem clQ2 : ∀ a ∈ clA2, AM.Pure a := by simp [clA2]
theorem cl2 : ConP Tryz.prog 22 clA2 fun x => x = clR2 := closed_conT tok mixed named ext_ok (fuel := 1000) (d := 40) (by kernel_rfl) clP2
def clA16 : List V := [.agg [.str ⟨#[114]⟩, .lst 1 true [.str ⟨#[97]⟩, .str ⟨#[98]⟩], .lst 2 false [.agg [.int .i64 1, .lst 3 false [.agg [.int .i64 1, .int .i64 1, .str ⟨#[]⟩], .agg [.int .i64 1, .int .i64 1, .str ⟨#[]⟩]]], .agg [.int .i64 2, .lst 3 false [.agg [.int .i64 1, .int .i64 1, .str ⟨#[]⟩], .agg [.int .i64 1, .int .i64 2, .str ⟨#[]⟩]]]]], .lst 2 true [.agg [.int .u32 1, .int .u32 2]], .lst 2 false [.agg [.int .i64 1, .int .i64 1]]]
def clR16 : V := .bool true
theorem clP16 : AM.Pure clR16 := by simp [clR16]
theorem clQ16 : ∀ a ∈ clA16, AM.Pure a := by simp [clA16]
theorem cl16 : ConP Tryz.prog 44 clA16 fun x => x = clR16 := closed_conT tok mixed named ext_ok (fuel := 1000) (d := 40) (by kernel_rfl) clP16
def clA35 : List V := [.agg [.str ⟨#[114]⟩, .lst 1 true [.str ⟨#[97]⟩, .str ⟨#[98]⟩], .lst 2 false [.agg [.int .i64 1, .lst 3 false [.agg [.int .i64 1, .int .i64 1, .str ⟨#[]⟩], .agg [.int .i64 1, .int .i64 1, .str ⟨#[]⟩]]], .agg [.int .i64 2, .lst 3 false [.agg [.int .i64 1, .int .i64 1, .str ⟨#[]⟩], .agg [.int .i64 1, .int .i64 2, .str ⟨#[]⟩]]]]], .lst 2 true [.agg [.int .u32 0, .int .u32 2]], .lst 2 false [.agg [.int .i64 1, .int .i64 0], .agg [.int .i64 1, .int .i64 1]]]
def clR35 : V := .bool true
theorem clP35 : AM.Pure clR35 := by simp [clR35]
theorem clQ35 : ∀ a ∈ clA35, AM.Pure a := by simp [clA35]
theorem cl35 : ConP Tryz.prog 44 clA35 fun x => x = clR35 := closed_conT tok mixed named ext_ok (fuel := 1000) (d := 40) (by kernel_rfl) clP35
def clA38 : List V := [.agg [.str ⟨#[114]⟩, .lst 1 true [.str ⟨#[97]⟩, .str ⟨#[98]⟩], .lst 2 false [.agg [.int .i64 1, .lst 3 false [.agg [.int .i64 1, .int .i64 1, .str ⟨#[]⟩], .agg [.int .i64 1, .int .i64 1, .str ⟨#[]⟩]]], .agg [.int .i64 2, .lst 3 false [.agg [.int .i64 1, .int .i64 1, .str ⟨#[]⟩], .agg [.int .i64 1, .int .i64 2, .str ⟨#[]⟩]]]]], .lst 2 false [.agg [.int .i64 1, .int .i64 1], .agg [.int .i64 2, .int .i64 1]]]
def clR38 : V := .lst 2 false [.agg [.int .i64 1, .int .i64 0], .agg [.int .i64 2, .int .i64 0]]
theorem clP38 : AM.Pure clR38 := by simp [clR38]
theorem clQ38 : ∀ a ∈ clA38, AM.Pure a := by simp [clA38]
theorem cl38 : ConP Tryz.prog 66 clA38 fun x => x = clR38 := closed_conT tok mixed named ext_ok (fuel := 1000) (d := 40) (by kernel_rfl) clP38
def clA4 : List V := [.agg [.str ⟨#[114]⟩, .lst 1 true [.str ⟨#[97]⟩, .str ⟨#[98]⟩], .lst 2 false [.agg [.int .i64 1, .lst 3 false [.agg [.int .i64 1, .int .i64 1, .str ⟨#[]⟩], .agg [.int .i64 1, .int .i64 1, .str ⟨#[]⟩]]], .agg [.int .i64 2, .lst 3 false [.agg [.int .i64 1, .int .i64 1, .str ⟨#[]⟩], .agg [.int .i64 1, .int .i64 2, .str ⟨#[]⟩]]]]], .lst 2 true [.agg [.int .u32 1, .int .u32 2]], .lst 2 true [.agg [.int .i64 1, .int .i64 0]]]
def clR4 : V := .tup [.agg [.str ⟨#[114]⟩, .lst 1 false [.str ⟨#[97]⟩, .str ⟨#[98]⟩], .lst 2 false [.agg [.int .i64 1, .lst 3 false [.agg [.int .i64 3, .int .i64 1, .str ⟨#[]⟩], .agg [.int .i64 1, .int .i64 1, .str ⟨#[]⟩]]], .agg [.int .i64 2, .lst 3 false [.agg [.int .i64 1, .int .i64 1, .str ⟨#[]⟩], .agg [.int .i64 1, .int .i64 2, .str ⟨#[]⟩]]]]], .int .i64 0]
theorem clP4 : AM.Pure clR4 := by simp [clR4]
theorem clQ4 : ∀ a ∈ clA4, AM.Pure a := by simp [clA4]
theorem cl4 : ConP Tryz.prog 22 clA4 fun x => x = clR4 := closed_conT tok mixed named ext_ok (fuel := 1000) (d := 40) (by kernel_rfl) clP4
def clA6 : List V := [.agg [.str ⟨#[114]⟩, .lst 1 true [.str ⟨#[97]⟩, .str ⟨#[98]⟩], .lst 2 false [.agg [.int .i64 1, .lst 3 false [.agg [.int .i64 1, .int .i64 1, .str ⟨#[]⟩], .agg [.int .i64 1, .int .i64 1, .str ⟨#[]⟩]]], .agg [.int .i64 2, .lst 3 false [.agg [.int .i64 1, .int .i64 1, .str ⟨#[]⟩], .agg [.int .i64 1, .int .i64 2, .str ⟨#[]⟩]]]]], .lst 2 true [.agg [.int .u32 1, .int .u32 2]], .lst 2 false [.agg [.int .i64 1, .int .i64 0], .agg [.int .i64 1, .int .i64 1], .agg [.int .i64 2, .int .i64 0], .agg [.int .i64 2, .int .i64 1]]]
def clR6 : V := .int .i64 0
theorem clP6 : AM.Pure clR6 := by simp [clR6]
theorem clQ6 : ∀ a ∈ clA6, AM.Pure a := by simp [clA6]
theorem cl6 : ConP Tryz.prog 43 clA6 fun x => x = clR6 := closed_conT tok mixed named ext_ok (fuel := 1000) (d := 40) (by kernel_rfl) clP6
def clA12 : List V := [.agg [.str ⟨#[114]⟩, .lst 1 true [.str ⟨#[97]⟩, .str ⟨#[98]⟩], .lst 2 false [.agg [.int .i64 1, .lst 3 false [.agg [.int .i64 1, .int .i64 1, .str ⟨#[]⟩], .agg [.int .i64 1, .int .i64 1, .str ⟨#[]⟩]]], .agg [.int .i64 2, .lst 3 false [.agg [.int .i64 1, .int .i64 1, .str ⟨#[]⟩], .agg [.int .i64 1, .int .i64 2, .str ⟨#[]⟩]]]]], .lst 2 true [.agg [.int .u32 1, .int .u32 2]], .lst 2 false [.agg [.int .i64 1, .int .i64 0]]]
def clR12 : V := .bool true
theorem clP12 : AM.Pure clR12 := by simp [clR12]
theorem clQ12 : ∀ a ∈ clA12, AM.Pure a := by simp [clA12]
theorem cl12 : ConP Tryz.prog 44 clA12 fun x => x = clR12 := closed_conT tok mixed named ext_ok (fuel := 1000) (d := 40) (by kernel_rfl) clP12
def clA29 : List V := [.agg [.str ⟨#[114]⟩, .lst 1 true [.str ⟨#[97]⟩, .str ⟨#[98]⟩], .lst 2 false [.agg [.int .i64 1, .lst 3 false [.agg [.int .i64 1, .int .i64 1, .str ⟨#[]⟩], .agg [.int .i64 1, .int .i64 1, .str ⟨#[]⟩]]], .agg [.int .i64 2, .lst 3 false [.agg [.int .i64 1, .int .i64 1, .str ⟨#[]⟩], .agg [.int .i64 1, .int .i64 2, .str ⟨#[]⟩]]]]], .lst 2 true [.agg [.int .u32 0, .int .u32 2]], .nilS]
def clR29 : V := .bool false
theorem clP29 : AM.Pure clR29 := by simp [clR29]
theorem clQ29 : ∀ a ∈ clA29, AM.Pure a := by simp [clA29]
theorem cl29 : ConP Tryz.prog 44 clA29 fun x => x = clR29 := closed_conT tok mixed named ext_ok (fuel := 1000) (d := 40) (by kernel_rfl) clP29
def clA51 : List V := [.agg [.str ⟨#[114]⟩, .lst 1 true [.str ⟨#[97]⟩, .str ⟨#[98]⟩], .lst 2 false [.agg [.int .i64 1, .lst 3 false [.agg [.int .i64 1, .int .i64 1, .str ⟨#[]⟩], .agg [.int .i64 1, .int .i64 1, .str ⟨#[]⟩]]], .agg [.int .i64 2, .lst 3 false [.agg [.int .i64 1, .int .i64 1, .str ⟨#[]⟩], .agg [.int .i64 1, .int .i64 2, .str ⟨#[]⟩]]]]], .lst 2 true [.agg [.int .u32 1, .int .u32 2]], .lst 2 false [.agg [.int .i64 2, .int .i64 1]]]
def clR51 : V := .int .i64 0
theorem clP51 : AM.Pure clR51 := by simp [clR51]
theorem clQ51 : ∀ a ∈ clA51, AM.Pure a := by simp [clA51]
theorem cl51 : ConP Tryz.prog 43 clA51 fun x => x = clR51 := closed_conT tok mixed named ext_ok (fuel := 1000) (d := 40) (by kernel_rfl) clP51
def clA0 : List V := []
def clR0 : V := .agg [.str ⟨#[114]⟩, .lst 1 true [.str ⟨#[97]⟩, .str ⟨#[98]⟩], .lst 2 false [.agg [.int .i64 1, .lst 3 false [.agg [.int .i64 1, .int .i64 1, .str ⟨#[]⟩], .agg [.int .i64 1, .int .i64 1, .str ⟨#[]⟩]]], .agg [.int .i64 2, .lst 3 false [.agg [.int .i64 1, .int .i64 1, .str ⟨#[]⟩], .agg [.int .i64 1, .int .i64 2, .str ⟨#[]⟩]]]]]
theorem clP0 : AM.Pure clR0 := by simp [clR0]
theorem clQ0 : ∀ a ∈ clA0, AM.Pure a := by simp [clA0]
theorem cl0 : ConP Tryz.prog 40 clA0 fun x => x = clR0 := closed_conT tok mixed named ext_ok (fuel := 1000) (d := 40) (by kernel_rfl) clP0
def clA5 : List V := [.agg [.str ⟨#[114]⟩, .lst 1 true [.str ⟨#[97]⟩, .str ⟨#[98]⟩], .lst 2 false [.agg [.int .i64 1, .lst 3 false [.agg [.int .i64 1, .int .i64 1, .str ⟨#[]⟩], .agg [.int .i64 1, .int .i64 1, .str ⟨#[]⟩]]], .agg [.int .i64 2, .lst 3 false [.agg [.int .i64 1, .int .i64 1, .str ⟨#[]⟩], .agg [.int .i64 1, .int .i64 2, .str ⟨#[]⟩]]]]]]
def clR5 : V := .lst 2 false [.agg [.int .i64 1, .int .i64 0], .agg [.int .i64 1, .int .i64 1], .agg [.int .i64 2, .int .i64 0], .agg [.int .i64 2, .int .i64 1]]
theorem clP5 : AM.Pure clR5 := by simp [clR5]
theorem clQ5 : ∀ a ∈ clA5, AM.Pure a := by simp [clA5]
theorem cl5 : ConP Tryz.prog 18 clA5 fun x => x = clR5 := closed_conT tok mixed named ext_ok (fuel := 1000) (d := 40) (by kernel_rfl) clP5
def clA14 : List V := [.lst 2 false [.agg [.int .i64 1, .int .i64 0], .agg [.int .i64 1, .int .i64 1], .agg [.int .i64 2, .int .i64 0], .agg [.int .i64 2, .int .i64 1]], .int .i64 1]
def clR14 : V := .lst 2 false [.agg [.int .i64 1, .int .i64 0], .agg [.int .i64 2, .int .i64 0], .agg [.int .i64 2, .int .i64 1]]
theorem clP14 : AM.Pure clR14 := by simp [clR14]
theorem clQ14 : ∀ a ∈ clA14, AM.Pure a := by simp [clA14]
theorem cl14 : ConP Tryz.prog 82 clA14 fun x => x = clR14 := closed_conT tok mixed named ext_ok (fuel := 1000) (d := 40) (by kernel_rfl) clP14
def clA22 : List V := [.lst 2 false [.agg [.int .i64 1, .int .i64 0], .agg [.int .i64 1, .int .i64 1], .agg [.int .i64 2, .int .i64 0], .agg [.int .i64 2, .int .i64 1]], .int .i64 3]
def clR22 : V := .lst 2 false [.agg [.int .i64 1, .int .i64 0], .agg [.int .i64 1, .int .i64 1], .agg [.int .i64 2, .int .i64 0]]
theorem clP22 : AM.Pure clR22 := by simp [clR22]
theorem clQ22 : ∀ a ∈ clA22, AM.Pure a := by simp [clA22]
theorem cl22 : ConP Tryz.prog 82 clA22 fun x => x = clR22 := closed_conT tok mixed named ext_ok (fuel := 1000) (d := 40) (by kernel_rfl) clP22
def clA37 : List V := [.lst 2 false [.agg [.int .i64 1, .int .i64 1], .agg [.int .i64 2, .int .i64 0], .agg [.int .i64 2, .int .i64 1]], .int .i64 1]
def clR37 : V := .lst 2 false [.agg [.int .i64 1, .int .i64 1], .agg [.int .i64 2, .int .i64 1]]
theorem clP37 : AM.Pure clR37 := by simp [clR37]
theorem clQ37 : ∀ a ∈ clA37, AM.Pure a := by simp [clA37]
theorem cl37 : ConP Tryz.prog 82 clA37 fun x => x = clR37 := closed_conT tok mixed named ext_ok (fuel := 1000) (d := 40) (by kernel_rfl) clP37
end Go.Proofs.YteijbpppalhihaaGreat
