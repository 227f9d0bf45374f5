/- C4: the example of the chapter, its calls by evaluation. Printed by mkclosed.py. -/
import Derived.Test.YtfaleabndlcanaaGreatDoorC3
namespace Go.Proofs.YtfaleabndlcanaaGreatDoor
open Go Go.AM

def clA0 : List V := []
def clR0 : V := .tup [.agg [.str ⟨#[114]⟩, .lst 1 true [.str ⟨#[97]⟩, .str ⟨#[98]⟩], .lst 2 false [.agg [.int .i64 1, .lst 3 false [.agg [.int .i64 1, .int .i64 1, .str ⟨#[]⟩], .agg [.int .i64 1, .int .i64 1, .str ⟨#[]⟩]]], .agg [.int .i64 2, .lst 3 false [.agg [.int .i64 1, .int .i64 1, .str ⟨#[]⟩], .agg [.int .i64 1, .int .i64 2, .str ⟨#[]⟩]]], .agg [.int .i64 3, .lst 3 false [.agg [.int .i64 1, .int .i64 2, .str ⟨#[]⟩], .agg [.int .i64 1, .int .i64 1, .str ⟨#[]⟩]]]]], .lst 18 true [.agg [.str ⟨#[]⟩, .str ⟨#[114]⟩, .int .i64 1, .int .u32 1, .int .u32 2, .int .u32 0, .int .u32 0, .str ⟨#[]⟩, .nilS, .str ⟨#[]⟩, .nilS, .nilS, .int .i64 0, .nilS, .nilS, .nilS, .int .i64 0, .nilS], .agg [.str ⟨#[]⟩, .str ⟨#[114]⟩, .int .i64 6, .int .u32 0, .int .u32 0, .int .u32 0, .int .u32 0, .str ⟨#[]⟩, .nilS, .str ⟨#[]⟩, .nilS, .nilS, .int .i64 0, .nilS, .nilS, .nilS, .int .i64 1, .lst 11 true [.agg [.int .i64 1, .int .i64 1, .int .i64 0, .int .i64 0, .str ⟨#[]⟩, .int .i64 1, .int .i64 0, .int .i64 0, .int .i64 1, .int .i64 2, .str ⟨#[]⟩]]]]]
def clA1 : List V := [.agg [.str ⟨#[114]⟩, .lst 1 true [.str ⟨#[97]⟩, .str ⟨#[98]⟩], .lst 2 false [.agg [.int .i64 1, .lst 3 false [.agg [.int .i64 1, .int .i64 1, .str ⟨#[]⟩], .agg [.int .i64 1, .int .i64 1, .str ⟨#[]⟩]]], .agg [.int .i64 2, .lst 3 false [.agg [.int .i64 1, .int .i64 1, .str ⟨#[]⟩], .agg [.int .i64 1, .int .i64 2, .str ⟨#[]⟩]]], .agg [.int .i64 3, .lst 3 false [.agg [.int .i64 1, .int .i64 2, .str ⟨#[]⟩], .agg [.int .i64 1, .int .i64 1, .str ⟨#[]⟩]]]]], .lst 18 false [.agg [.str ⟨#[]⟩, .str ⟨#[114]⟩, .int .i64 1, .int .u32 1, .int .u32 2, .int .u32 0, .int .u32 0, .str ⟨#[]⟩, .nilS, .str ⟨#[]⟩, .nilS, .nilS, .int .i64 0, .nilS, .nilS, .nilS, .int .i64 0, .nilS]]]
def clR1 : V := .tup [.agg [.lst 1 false [.int .i64 1, .int .i64 2, .int .i64 3], .lst 1 false [.lst 1 false [.int .i64 1, .int .i64 2]]], .int .i64 0]
def clA2 : List V := [.agg [.str ⟨#[114]⟩, .lst 1 true [.str ⟨#[97]⟩, .str ⟨#[98]⟩], .lst 2 false [.agg [.int .i64 1, .lst 3 false [.agg [.int .i64 1, .int .i64 1, .str ⟨#[]⟩], .agg [.int .i64 1, .int .i64 1, .str ⟨#[]⟩]]], .agg [.int .i64 2, .lst 3 false [.agg [.int .i64 1, .int .i64 1, .str ⟨#[]⟩], .agg [.int .i64 1, .int .i64 2, .str ⟨#[]⟩]]], .agg [.int .i64 3, .lst 3 false [.agg [.int .i64 1, .int .i64 2, .str ⟨#[]⟩], .agg [.int .i64 1, .int .i64 1, .str ⟨#[]⟩]]]]], .lst 18 true [.agg [.str ⟨#[]⟩, .str ⟨#[114]⟩, .int .i64 1, .int .u32 1, .int .u32 2, .int .u32 0, .int .u32 0, .str ⟨#[]⟩, .nilS, .str ⟨#[]⟩, .nilS, .nilS, .int .i64 0, .nilS, .nilS, .nilS, .int .i64 0, .nilS], .agg [.str ⟨#[]⟩, .str ⟨#[114]⟩, .int .i64 6, .int .u32 0, .int .u32 0, .int .u32 0, .int .u32 0, .str ⟨#[]⟩, .nilS, .str ⟨#[]⟩, .nilS, .nilS, .int .i64 0, .nilS, .nilS, .nilS, .int .i64 1, .lst 11 true [.agg [.int .i64 1, .int .i64 1, .int .i64 0, .int .i64 0, .str ⟨#[]⟩, .int .i64 1, .int .i64 0, .int .i64 0, .int .i64 1, .int .i64 2, .str ⟨#[]⟩]]]]]
def clR2 : V := .tup [.agg [.lst 1 false [.int .i64 1, .int .i64 2, .int .i64 3], .lst 1 false [.lst 1 false [.int .i64 2]]], .int .i64 0]
def ext0 : ExtF := ext
theorem ext0_ok : ExtOk Tryz.prog ext0 := ext_ok
theorem clP0 : AM.Pure clR0 := by simp [clR0]
theorem clQ0 : ∀ a ∈ clA0, AM.Pure a := by simp [clA0]
theorem cl0 : ConP Tryz.prog 37 clA0 fun x => x = clR0 := closed_conT tok mixed named ext0_ok (fuel := 1000) (d := 40) (by kernel_rfl) clP0
def ext1 : ExtF := fun f args H => if Nat.beq f 37 then (if eqL (eqV 40) args clA0 then some (clR0, H) else ext0 f args H) else ext0 f args H
theorem ext1_ok : ExtOk Tryz.prog ext1 := ext_more ext0_ok cl0 clQ0
theorem clP1 : AM.Pure clR1 := by simp [clR1]
theorem clQ1 : ∀ a ∈ clA1, AM.Pure a := by simp [clA1]
theorem cl1 : ConP Tryz.prog 12 clA1 fun x => x = clR1 := closed_conT tok mixed named ext1_ok (fuel := 1000) (d := 40) (by kernel_rfl) clP1
def ext2 : ExtF := fun f args H => if Nat.beq f 12 then (if eqL (eqV 40) args clA1 then some (clR1, H) else ext1 f args H) else ext1 f args H
theorem ext2_ok : ExtOk Tryz.prog ext2 := ext_more ext1_ok cl1 clQ1
theorem clP2 : AM.Pure clR2 := by simp [clR2]
theorem clQ2 : ∀ a ∈ clA2, AM.Pure a := by simp [clA2]
theorem cl2 : ConP Tryz.prog 12 clA2 fun x => x = clR2 := closed_conT tok mixed named ext2_ok (fuel := 1000) (d := 40) (by kernel_rfl) clP2
def ext3 : ExtF := fun f args H => if Nat.beq f 12 then (if eqL (eqV 40) args clA2 then some (clR2, H) else ext2 f args H) else ext2 f args H
theorem ext3_ok : ExtOk Tryz.prog ext3 := ext_more ext2_ok cl2 clQ2
theorem awake_con : ConP Tryz.prog 11 [] fun x => x = .bool true := closed_conT tok mixed named ext3_ok (fuel := 1000) (d := 40) (by kernel_rfl) (.bool _)
end Go.Proofs.YtfaleabndlcanaaGreatDoor
