/- W7: Has, Pick, Free. Expanded by pp.py. -/
import Derived.Test.YtfaleabndlcanaaGreatDoorW6
set_option linter.unusedSimpArgs false
set_option maxRecDepth 100000
namespace Go.Proofs.YtfaleabndlcanaaGreatDoor
open Go Go.AM
/-- The bit of a set. -/
def hasB (s : Int) (i : Nat) : Bool := IntKind.u32.wrap ↑((s.fdiv (2 ^ min i IntKind.u32.bits) % 2 ^ IntKind.u32.bits).toNat &&& 1 % 2 ^ IntKind.u32.bits) == 1
set_option maxHeartbeats 4000000 in
theorem has02 (s : Int) (i : Nat) (hi : i < 32) : ConP Tryz.prog 62 [.int .u32 s, .int .i64 i] fun r => r = .bool (hasB s i) := by
  refine conP_of_conH (conH_of_W tok Tryz.func62 rfl rfl ?_)
  refine W_x tok mixed ?_
  simp -implicitDefEqProofs -dsimp [Tryz.f62, List.replicate, show (i : Int) < 32 by omega]
  rfl
theorem cap8 (n : Nat) (h : n ≤ 1000000000) : n ≤ 9223372036854775806 ∧ (n + 1) * 8 ≤ 140737488355328 := by omega
theorem cap24 (n : Nat) (h : n ≤ 1000000000) : n ≤ 9223372036854775806 ∧ (n + 1) * 24 ≤ 140737488355328 := by omega
theorem capL8 (n : Nat) (h : n ≤ 1000000000) : n ≤ 9223372036854775807 ∧ n * 8 ≤ 140737488355328 := by omega
theorem wrapN (n : Nat) (h : n < 9223372036854775807) : IntKind.i64.wrap (n : Int) = n := wrap64 (by omega) (by omega)
def pickTo (vs : List Int) (s : Int) : Nat → List Int
  | 0 => []
  | i + 1 => if hasB (IntKind.u32.wrap s) i then pickTo vs s i ++ [vs.getD i 0] else pickTo vs s i
def pickF (vs : List Int) (s : Int) : List Int := pickTo vs s (min vs.length 8)
theorem pickTo_len (vs : List Int) (s : Int) : ∀ i, (pickTo vs s i).length ≤ i
  | 0 => by simp [pickTo]
  | i + 1 => by
    have := pickTo_len vs s i
    simp only [pickTo]
    split
    · simp; omega
    · omega
set_option maxHeartbeats 8000000 in
theorem pick37 (vs : List Int) (es : List (List Int)) (s : Int) (f g : Bool) (hs : Small vs es) : ConP Tryz.prog 30 [encH f g vs es, .int .u8 s] fun r => r = L1 false (pickF vs s) := by
  obtain ⟨hv, he, hes⟩ := hs
  refine conP_of_conH (conH_of_W tok Tryz.func30 rfl rfl ?_)
  refine W_x tok mixed ?_
  simp -implicitDefEqProofs -dsimp [Tryz.f30, List.replicate, encH, LL]
  refine lw_of (W_own 2 1 [5] (by simp) (W_loopV [false, false, false, false, false, true, true, true, true, true, true, true, true, true, true, true, true, true, true, true, true, true, true, true, true, true, true, true, true, true] (σ := Nat) (fun i => i ≤ min vs.length 8) (fun i => 8 - i) (fun i => [(6, .int .i64 i), (5, .buf 1 0 (pickTo vs s i).length (pickTo vs s i).length)]) (fun i => [B.cells [L1 f vs, LL g es], B.buf 2 1 ((pickTo vs s i).map encI) false]) 0 (by omega) (by simp [pickTo]) (by simp [LL, pickTo]) (by simp) ?_))
  intro i hi N Q hN hQ
  by_cases hb : i < vs.length
  · by_cases h8 : i < 8
    · have hc := has02 (IntKind.u32.wrap s) i (by omega)
      have hl := pickTo_len vs s i
      have hp : pickTo vs s (i + 1) = if hasB (IntKind.u32.wrap s) i then pickTo vs s i ++ [vs[i]] else pickTo vs s i := by simp [pickTo, hb]
      cases hq : hasB (IntKind.u32.wrap s) i
      · rw [hq] at hc hp
        refine W_x tok mixed ?_
        simp -implicitDefEqProofs -dsimp [L1, hb, show (i : Int) < 8 by omega]
        refine (callP (hc) (by simp)).mono ?_
        rintro r H' ⟨rfl, rfl⟩
        simp -implicitDefEqProofs -dsimp [wrapS i (by omega)]
        refine hN (i + 1) _ _ (by omega) (by omega) ?_ ⟨[], ?_⟩ ?_ ?_ <;> simp [or_imp, forall_and, L1, encI, LL, hp]
      · rw [hq] at hc hp
        refine W_x tok mixed ?_
        simp -implicitDefEqProofs -dsimp [L1, hb, show (i : Int) < 8 by omega]
        refine (callP (hc) (by simp)).mono ?_
        rintro r H' ⟨rfl, rfl⟩
        simp -implicitDefEqProofs -dsimp [wrapS i (by omega), hb, encI, cap8 (pickTo vs s i).length (by omega)]
        refine hN (i + 1) _ _ (by omega) (by omega) ?_ ⟨[], ?_⟩ ?_ ?_ <;> simp [or_imp, forall_and, L1, encI, LL, hp]
    · have hp : pickTo vs s i = pickF vs s := by unfold pickF; congr 1; omega
      refine W_x tok mixed ?_
      simp -implicitDefEqProofs -dsimp [L1, hb, show ¬ ((i : Int) < 8) by omega]
      refine hQ _ _ _ ?_
      simp -implicitDefEqProofs -dsimp []
      rw [← hp]
      exact exp_buf rfl (by simp) (by simp [encI])
  · have hp : pickTo vs s i = pickF vs s := by unfold pickF; congr 1; omega
    refine W_x tok mixed ?_
    simp -implicitDefEqProofs -dsimp [L1, hb]
    refine hQ _ _ _ ?_
    simp -implicitDefEqProofs -dsimp []
    rw [← hp]
    exact exp_buf rfl (by simp) (by simp [encI])
end Go.Proofs.YtfaleabndlcanaaGreatDoor
