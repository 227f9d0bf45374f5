/- T5: values of codes. Expanded by pp.py. -/
import Derived.Test.YteijbpppalhihaaGreatT4
set_option linter.unusedVariables false
set_option linter.unusedSimpArgs false
set_option maxRecDepth 100000
namespace Go.Proofs.YteijbpppalhihaaGreat
open Go Go.AM
/-- The value of a code. -/
def ofV (m : Int) : Vl :=
  if m = 0 then ⟨1, 0, ByteArray.empty⟩ else
  if m = 1 then ⟨1, 1, ByteArray.empty⟩ else
  if m = 2 then ⟨1, 2, ByteArray.empty⟩ else
  if m = 3 then ⟨0, 0, ByteArray.empty⟩ else
  if m = 4 then ⟨2, 0, ⟨#[97]⟩⟩ else
  if m = 5 then ⟨2, 0, ⟨#[98]⟩⟩ else
  if m = 6 then ⟨2, 0, ByteArray.empty⟩ else
  if m = 7 then ⟨3, 1, ByteArray.empty⟩ else
  if m = 8 then ⟨1, -1, ByteArray.empty⟩ else
  if m = 9 then ⟨2, 0, ⟨#[97, 98]⟩⟩ else
  if m = 10 then ⟨3, 2, ByteArray.empty⟩ else
  ⟨1, 7, ByteArray.empty⟩
def ofC (c : Int) : Vl := ofV (c.tmod 12)
set_option maxHeartbeats 16000000 in
theorem of01 (c : Int) : ConP Tryz.prog 41 [.int .u8 c] fun r => r = encV (ofC c) := by
  unfold ofC
  obtain ⟨m, hm⟩ : ∃ m, m = c.tmod 12 := ⟨_, rfl⟩
  rw [← hm]
  have hm := hm.symm
  by_cases h0 : m = 0
  · have e : ofV m = ofV 0 := by rw [h0]
    rw [e]
    refine conP_of_conH (conH_of_W tok Tryz.func41 rfl rfl ?_)
    refine W_x tok mixed ?_
    simp -implicitDefEqProofs -dsimp [Tryz.f41, List.replicate, hm, h0]
    rfl
  by_cases h1 : m = 1
  · have e : ofV m = ofV 1 := by rw [h1]
    rw [e]
    refine conP_of_conH (conH_of_W tok Tryz.func41 rfl rfl ?_)
    refine W_x tok mixed ?_
    simp -implicitDefEqProofs -dsimp [Tryz.f41, List.replicate, hm, h1]
    rfl
  by_cases h2 : m = 2
  · have e : ofV m = ofV 2 := by rw [h2]
    rw [e]
    refine conP_of_conH (conH_of_W tok Tryz.func41 rfl rfl ?_)
    refine W_x tok mixed ?_
    simp -implicitDefEqProofs -dsimp [Tryz.f41, List.replicate, hm, h2]
    rfl
  by_cases h3 : m = 3
  · have e : ofV m = ofV 3 := by rw [h3]
    rw [e]
    refine conP_of_conH (conH_of_W tok Tryz.func41 rfl rfl ?_)
    refine W_x tok mixed ?_
    simp -implicitDefEqProofs -dsimp [Tryz.f41, List.replicate, hm, h3]
    rfl
  by_cases h4 : m = 4
  · have e : ofV m = ofV 4 := by rw [h4]
    rw [e]
    refine conP_of_conH (conH_of_W tok Tryz.func41 rfl rfl ?_)
    refine W_x tok mixed ?_
    simp -implicitDefEqProofs -dsimp [Tryz.f41, List.replicate, hm, h4]
    rfl
  by_cases h5 : m = 5
  · have e : ofV m = ofV 5 := by rw [h5]
    rw [e]
    refine conP_of_conH (conH_of_W tok Tryz.func41 rfl rfl ?_)
    refine W_x tok mixed ?_
    simp -implicitDefEqProofs -dsimp [Tryz.f41, List.replicate, hm, h5]
    rfl
  by_cases h6 : m = 6
  · have e : ofV m = ofV 6 := by rw [h6]
    rw [e]
    refine conP_of_conH (conH_of_W tok Tryz.func41 rfl rfl ?_)
    refine W_x tok mixed ?_
    simp -implicitDefEqProofs -dsimp [Tryz.f41, List.replicate, hm, h6]
    rfl
  by_cases h7 : m = 7
  · have e : ofV m = ofV 7 := by rw [h7]
    rw [e]
    refine conP_of_conH (conH_of_W tok Tryz.func41 rfl rfl ?_)
    refine W_x tok mixed ?_
    simp -implicitDefEqProofs -dsimp [Tryz.f41, List.replicate, hm, h7]
    rfl
  by_cases h8 : m = 8
  · have e : ofV m = ofV 8 := by rw [h8]
    rw [e]
    refine conP_of_conH (conH_of_W tok Tryz.func41 rfl rfl ?_)
    refine W_x tok mixed ?_
    simp -implicitDefEqProofs -dsimp [Tryz.f41, List.replicate, hm, h8]
    rfl
  by_cases h9 : m = 9
  · have e : ofV m = ofV 9 := by rw [h9]
    rw [e]
    refine conP_of_conH (conH_of_W tok Tryz.func41 rfl rfl ?_)
    refine W_x tok mixed ?_
    simp -implicitDefEqProofs -dsimp [Tryz.f41, List.replicate, hm, h9]
    rfl
  by_cases h10 : m = 10
  · have e : ofV m = ofV 10 := by rw [h10]
    rw [e]
    refine conP_of_conH (conH_of_W tok Tryz.func41 rfl rfl ?_)
    refine W_x tok mixed ?_
    simp -implicitDefEqProofs -dsimp [Tryz.f41, List.replicate, hm, h10]
    rfl
  have e : ofV m = ⟨1, 7, ByteArray.empty⟩ := by unfold ofV; simp [h0, h1, h2, h3, h4, h5, h6, h7, h8, h9, h10]
  rw [e]
  refine conP_of_conH (conH_of_W tok Tryz.func41 rfl rfl ?_)
  refine W_x tok mixed ?_
  simp -implicitDefEqProofs -dsimp [Tryz.f41, List.replicate, hm, h0, h1, h2, h3, h4, h5, h6, h7, h8, h9, h10]
  rfl
end Go.Proofs.YteijbpppalhihaaGreat
