/- T8: rows that agree; copies of rows. Expanded by pp.py. -/
import Derived.Test.YteijbpppalhihaaGreatT7
set_option linter.unusedVariables false
set_option linter.unusedSimpArgs false
set_option maxRecDepth 100000
namespace Go.Proofs.YteijbpppalhihaaGreat
open Go Go.AM
def vTo2 (vs : List Vl) (s : Int) : Nat → List Vl
  | 0 => []
  | i + 1 => if hasB s i then vTo2 vs s i ++ [vs.getD i ⟨0, 0, ByteArray.empty⟩] else vTo2 vs s i
def valsOf (vs : List Vl) (s : Int) : List Vl := vTo2 vs s vs.length
theorem vTo2_len (vs : List Vl) (s : Int) : ∀ i, (vTo2 vs s i).length ≤ i
  | 0 => by simp [vTo2]
  | i + 1 => by
    have := vTo2_len vs s i
    simp only [vTo2]
    split
    · simp; omega
    · omega
theorem vTo2_mem (vs : List Vl) (s : Int) : ∀ i, i ≤ vs.length → ∀ v ∈ vTo2 vs s i, v ∈ vs
  | 0, _, v, h => by simp [vTo2] at h
  | i + 1, hi, v, h => by
    simp only [vTo2] at h
    split at h
    · rcases List.mem_append.1 h with h | h
      · exact vTo2_mem vs s i (by omega) v h
      · simp only [List.mem_singleton] at h
        subst h
        have hb : i < vs.length := by omega
        have : vs.getD i ⟨0, 0, ByteArray.empty⟩ = vs[i] := by simp [hb]
        rw [this]
        exact List.getElem_mem hb
    · exact vTo2_mem vs s i (by omega) v h
set_option maxHeartbeats 8000000 in
theorem values03 (r : Rw) (s : Int) (hl : r.vals.length ≤ 31) : ConP Tryz.prog 99 [encRw r, .int .u32 s] fun x => x = LV false (valsOf r.vals s) := by
  refine conP_of_conH (conH_of_W tok Tryz.func99 rfl rfl ?_)
  refine W_x tok mixed ?_
  simp -implicitDefEqProofs -dsimp [Tryz.f99, List.replicate, encRw, LV]
  refine lw_of (W_own 68 3 [5] (by simp) (W_loopV [false, false, false, false, false, true, true, true, true, true, true, true, true, true, true, true, true, true, true, true, true, true, true, true, true] (σ := Nat) (fun i => i ≤ r.vals.length) (fun i => r.vals.length - i) (fun i => [(6, .int .i64 i), (5, .buf 1 0 (vTo2 r.vals s i).length (vTo2 r.vals s i).length)]) (fun i => [B.cells [.int .i64 r.id, .lst 3 false (r.vals.map encV)], B.buf 68 3 ((vTo2 r.vals s i).map encV) false]) 0 (by omega) (by simp [vTo2]) (by simp [vTo2]) (by simp) ?_))
  intro i hi N Q hN hQ
  have hvl := vTo2_len r.vals s i
  by_cases hb : i < r.vals.length
  · have hst : vTo2 r.vals s (i + 1) = if hasB s i then vTo2 r.vals s i ++ [r.vals[i]] else vTo2 r.vals s i := by simp [vTo2, hb]
    have hc := has02 s i (by omega)
    cases hh : hasB s i
    · rw [hh] at hc hst
      refine W_x tok mixed ?_
      simp -implicitDefEqProofs -dsimp [hb]
      refine (callP (hc) (by simp)).mono ?_
      rintro r H' ⟨rfl, rfl⟩
      simp -implicitDefEqProofs -dsimp [wrapS i (by omega)]
      refine hN (i + 1) _ _ (by omega) (by omega) ?_ ⟨[], ?_⟩ ?_ ?_ <;> simp [or_imp, forall_and, L1, encI, hst, encV]
    · rw [hh] at hc hst
      refine W_x tok mixed ?_
      simp -implicitDefEqProofs -dsimp [hb]
      refine (callP (hc) (by simp)).mono ?_
      rintro r H' ⟨rfl, rfl⟩
      simp -implicitDefEqProofs -dsimp [hb, encV, cap32 (vTo2 r.vals s i).length (by omega), wrapS i (by omega)]
      refine hN (i + 1) _ _ (by omega) (by omega) ?_ ⟨[], ?_⟩ ?_ ?_ <;> simp [or_imp, forall_and, L1, encI, hst, encV]
  · obtain rfl : i = r.vals.length := by omega
    refine W_x tok mixed ?_
    simp -implicitDefEqProofs -dsimp [hb]
    refine hQ _ _ _ ?_
    simp -implicitDefEqProofs -dsimp []
    exact exp_buf rfl (by simp [valsOf]) (by simp)
def agreeR (a b : Rw) (s : Int) : Bool := cmpVs (valsOf a.vals s) (valsOf b.vals s) == 0
set_option maxHeartbeats 8000000 in
theorem agree03 (a b : Rw) (s : Int) (hl : a.vals.length ≤ 31) (hl2 : b.vals.length ≤ 31) (hs : ∀ v ∈ a.vals, v.s.size ≤ maxLen) : ConP Tryz.prog 62 [encRw a, encRw b, .int .u32 s] fun x => x = .bool (agreeR a b s) := by
  have hc1 := values03 a s hl
  have hc2 := values03 b s hl2
  have h1 := vTo2_len a.vals s a.vals.length
  have hc3 := same01 (valsOf a.vals s) (valsOf b.vals s) false false (by unfold valsOf; omega) (fun v hv => hs v (vTo2_mem _ _ _ (Nat.le_refl _) v hv))
  simp only [encRw, LV] at hc1 hc2 hc3
  refine conP_of_conH (conH_of_W tok Tryz.func62 rfl rfl ?_)
  refine W_x tok mixed ?_
  simp -implicitDefEqProofs -dsimp [Tryz.f62, List.replicate, encRw, LV]
  refine .inr ⟨stop_of (by kernel_rfl), ?_⟩
  refine cy_of _ (callP (hc1) (by simp)) ?_
  simp -implicitDefEqProofs -dsimp []
  refine cy_of _ (callP (hc2) (by simp)) ?_
  simp -implicitDefEqProofs -dsimp []
  refine cy_of _ (callP (hc3) (by simp)) ?_
  simp -implicitDefEqProofs -dsimp []
  rfl
end Go.Proofs.YteijbpppalhihaaGreat
