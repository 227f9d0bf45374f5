/- V1: the order of cells in the program. Expanded by pp.py. -/
import Derived.Test.YteijbpppalhihaaGreatU3
set_option linter.unusedVariables false
set_option linter.unusedSimpArgs false
set_option maxRecDepth 100000
namespace Go.Proofs.YteijbpppalhihaaGreat
open Go Go.AM
def encCr (c : Cr) : V := .agg [.int .i64 c.id, .int .i64 c.attr]
@[simp] theorem encCr_pure (c : Cr) : AM.Pure (encCr c) := by simp [encCr]
@[simp] theorem encCr_oneV (c : Cr) : oneV (encCr c) = true := rfl
def LC (f : Bool) (l : List Cr) : V := .lst 2 f (l.map encCr)
@[simp] theorem LC_pure (f : Bool) (l : List Cr) : AM.Pure (LC f l) := by simp [LC]
set_option maxHeartbeats 4000000 in
theorem compare_c (a b : Cr) : ConP Tryz.prog 75 [encCr a, encCr b] fun r => r = .int .i64 (cmpC a b) := by
  have hc1 := cmp64 a.id b.id
  have hc2 := cmpInt a.attr b.attr
  have hc3 := orInt [cmpI a.id b.id, cmpI a.attr b.attr] true (by simp)
  have he : orI [cmpI a.id b.id, cmpI a.attr b.attr] = cmpC a b := by
    unfold cmpC
    simp only [orI]
    split
    · split
      · rename_i h; exact h.symm
      · rfl
    · rfl
  rw [he] at hc3
  simp only [L1, List.map_cons, List.map_nil, encI] at hc3
  refine conP_of_conH (conH_of_W tok Tryz.func75 rfl rfl ?_)
  refine W_x tok mixed ?_
  simp -implicitDefEqProofs -dsimp [Tryz.f75, List.replicate, encCr]
  refine .inr ⟨stop_of (by kernel_rfl), ?_⟩
  refine cy_of _ (callP (hc1) (by simp)) ?_
  simp -implicitDefEqProofs -dsimp []
  refine cy_of _ (callP (hc2) (by simp)) ?_
  simp -implicitDefEqProofs -dsimp []
  refine cy_of _ (callP (hc3) (by simp)) ?_
  simp -implicitDefEqProofs -dsimp []
end Go.Proofs.YteijbpppalhihaaGreat
