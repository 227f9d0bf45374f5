/- T9: sets of attributes, lists of dependencies. Expanded by pp.py. -/
import Derived.Test.YteijbpppalhihaaGreatT8
set_option linter.unusedVariables false
set_option linter.unusedSimpArgs false
set_option maxRecDepth 100000
namespace Go.Proofs.YteijbpppalhihaaGreat
open Go Go.AM
/- Sets are numbers below 2 ^ 32. -/
theorem u32w (a : Nat) (h : a < 4294967296) : IntKind.u32.wrap (a : Int) = a := by rw [IntKind.wrap_u32]; omega
theorem mod32 (a : Nat) (h : a < 4294967296) : ((a : Int) % 2 ^ IntKind.u32.bits).toNat = a := by
  have : (2 : Int) ^ IntKind.u32.bits = 4294967296 := rfl
  rw [this]; omega
theorem modN (a : Nat) (h : a < 4294967296) : a % 2 ^ IntKind.u32.bits = a := Nat.mod_eq_of_lt h
theorem or32 (a b : Nat) (ha : a < 4294967296) (hb : b < 4294967296) : IntKind.u32.wrap ((a % 2 ^ IntKind.u32.bits ||| b % 2 ^ IntKind.u32.bits : Nat) : Int) = ((a ||| b : Nat) : Int) := by
  rw [modN a ha, modN b hb]
  exact u32w _ (Nat.or_lt_two_pow (n := 32) ha hb)
theorem and32 (a b : Nat) (ha : a < 4294967296) (hb : b < 4294967296) : IntKind.u32.wrap ((a % 2 ^ IntKind.u32.bits &&& b % 2 ^ IntKind.u32.bits : Nat) : Int) = ((a &&& b : Nat) : Int) := by
  rw [modN a ha, modN b hb]
  exact u32w _ (Nat.lt_of_le_of_lt Nat.and_le_left ha)
theorem shl32 (i : Nat) (h : i < 32) : IntKind.u32.wrap (2 ^ min i IntKind.u32.bits : Int) = ((2 ^ i : Nat) : Int) := by
  have h1 : min i IntKind.u32.bits = i := Nat.min_eq_left (by show i ≤ 32; omega)
  have h2 : 2 ^ i < 4294967296 := Nat.pow_lt_pow_right (by omega) h
  rw [h1, ← u32w _ h2]
  congr 1
/-- The set of the attributes below n. -/
def fullN : Nat → Nat
  | 0 => 0
  | i + 1 => fullN i ||| 2 ^ i
theorem fullN_lt : ∀ n, n ≤ 32 → fullN n < 4294967296
  | 0, _ => by simp [fullN]
  | i + 1, h => Nat.or_lt_two_pow (n := 32) (fullN_lt i (by omega)) (Nat.pow_lt_pow_right (by omega) (by omega))
theorem fullN_bit : ∀ n k, (fullN n).testBit k = decide (k < n)
  | 0, k => by simp [fullN]
  | i + 1, k => by
    rw [fullN, Nat.testBit_or, fullN_bit i k, Nat.testBit_two_pow]
    rw [Bool.eq_iff_iff]
    simp only [Bool.or_eq_true, decide_eq_true_eq]
    omega
set_option maxHeartbeats 8000000 in
theorem full02 (n : Nat) (hn : n ≤ 32) : ConP Tryz.prog 86 [.int .i64 n] fun r => r = .int .u32 (fullN n) := by
  refine conP_of_conH (conH_of_W tok Tryz.func86 rfl rfl ?_)
  refine W_x tok mixed ?_
  simp -implicitDefEqProofs -dsimp [Tryz.f86, List.replicate]
  refine lw_of (W_loopV [false, false, false, true, true, true, true, true, true, true, true, true, true, true, true, true, true, true] (σ := Nat) (fun i => i ≤ n) (fun i => n - i) (fun i => [(4, .int .i64 i), (3, .int .u32 (fullN i))]) (fun _ => []) 0 (by omega) (by simp [fullN]) rfl (by simp) ?_)
  intro i hi N Q hN hQ
  by_cases hb : i < n
  · have h1 := shl32 i (by omega)
    have h2 := fullN_lt i (by omega)
    have h3 : 2 ^ i < 4294967296 := Nat.pow_lt_pow_right (by omega) (show i < 32 by omega)
    have hf : fullN (i + 1) = fullN i ||| 2 ^ i := rfl
    obtain ⟨p, hp⟩ : ∃ p, p = 2 ^ i := ⟨_, rfl⟩
    rw [← hp] at h1 h3 hf
    have h4 := or32 (fullN i) p h2 h3
    rw [← hf] at h4
    refine W_x tok mixed ?_
    simp -implicitDefEqProofs -dsimp [hb, show (i : Int) < 32 by omega, wrapS i (by omega), h1, h4]
    refine hN (i + 1) _ _ (by omega) (by omega) ?_ ⟨[], ?_⟩ ?_ ?_ <;> simp [or_imp, forall_and, L1, encI]
  · obtain rfl : i = n := by omega
    refine W_x tok mixed ?_
    simp -implicitDefEqProofs -dsimp [hb]
    refine hQ _ _ _ ?_
    simp -implicitDefEqProofs -dsimp []
theorem sub02 (a b : Nat) (ha : a < 4294967296) (hb : b < 4294967296) : ConP Tryz.prog 129 [.int .u32 a, .int .u32 b] fun r => r = .bool (decide (a &&& b = a)) := by
  refine conP_of_conH (conH_of_W tok Tryz.func129 rfl rfl ?_)
  refine W_x tok mixed ?_
  simp -implicitDefEqProofs -dsimp [Tryz.f129, List.replicate, and32 a b ha hb]
  rw [Bool.eq_iff_iff, beq_iff_eq, decide_eq_true_iff]
  omega
/-- The bit of a set, as the program asks for it. -/
theorem hasB_bit (s i : Nat) (hs : s < 4294967296) (hi : i < 32) : hasB s i = s.testBit i := by
  have h1 : min i IntKind.u32.bits = i := Nat.min_eq_left (by show i ≤ 32; omega)
  have h2 : ((s : Int).fdiv (2 ^ i) % 2 ^ IntKind.u32.bits).toNat = s / 2 ^ i := by
    have h3 : (s : Int).fdiv (2 ^ i) = ((s / 2 ^ i : Nat) : Int) := by
      rw [Int.fdiv_eq_ediv_of_nonneg _ (by have : (0 : Int) < 2 ^ i := Int.pow_pos (by omega); omega)]
      simp
    rw [h3]
    exact mod32 _ (Nat.lt_of_le_of_lt (Nat.div_le_self _ _) hs)
  have h4 : (1 % 2 ^ IntKind.u32.bits : Nat) = 1 := rfl
  unfold hasB
  rw [h1, h2, h4, Nat.and_one_is_mod, u32w _ (by omega), Nat.testBit_eq_decide_div_mod_eq]
  rw [Bool.eq_iff_iff, beq_iff_eq, decide_eq_true_iff]
  omega
end Go.Proofs.YteijbpppalhihaaGreat
