/- W1: walks over lists of numbers: ascending, contains, search, order. Expanded by pp.py. -/
import Derived.Test.YtfaleabndlcanaaGreatDoorC3
import Derived.Test.YtfaleabndlcanaaGreatDoorAMf
set_option linter.unusedSimpArgs false
set_option maxRecDepth 100000
namespace Go.Proofs.YtfaleabndlcanaaGreatDoor
open Go Go.AM
def encI (n : Int) : V := .int .i64 n
def L1 (f : Bool) (xs : List Int) : V := .lst 1 f (xs.map encI)
@[simp] theorem encI_pure (n : Int) : AM.Pure (encI n) := by simp [encI]
@[simp] theorem L1_pure (f : Bool) (xs : List Int) : AM.Pure (L1 f xs) := by simp [L1, encI]
theorem wrap64 {n : Int} (h1 : -9223372036854775808 ≤ n) (h2 : n < 9223372036854775808) : IntKind.i64.wrap n = n := by rw [IntKind.wrap_i64]; omega
theorem wrapS (i : Nat) (h : i < 9223372036854775807) : IntKind.i64.wrap ((i : Int) + 1) = ((i + 1 : Nat) : Int) := by rw [wrap64 (by omega) (by omega)]; rfl
theorem wrapP (i : Nat) (h : i < 9223372036854775807) (h1 : 1 ≤ i) : IntKind.i64.wrap ((i : Int) - 1) = ((i - 1 : Nat) : Int) := by rw [wrap64 (by omega) (by omega)]; omega
def memB (xs : List Int) (x : Int) : Bool := xs.contains x
theorem memB_cons (y x : Int) (xs : List Int) : memB (y :: xs) x = (x == y || memB xs x) := by simp only [memB, List.contains_cons]
theorem memB_nil (x : Int) : memB [] x = false := rfl
theorem memB_iff {xs : List Int} {x : Int} : memB xs x = true ↔ x ∈ xs := by simp [memB]
def ascFrom (xs : List Int) (i : Nat) : Bool := if h : i < xs.length then (if xs[i] ≤ xs[i - 1] then false else ascFrom xs (i + 1)) else true
termination_by xs.length - i
def asc (xs : List Int) : Bool := ascFrom xs 1
set_option maxHeartbeats 4000000 in
theorem asc_c (xs : List Int) (f : Bool) (hl : xs.length ≤ 1000000) : ConP Tryz.prog 48 [L1 f xs] fun r => r = .bool (asc xs) := by
  refine conP_of_conH (conH_of_W tok Tryz.func48 rfl rfl ?_)
  refine W_x tok mixed ?_
  simp -implicitDefEqProofs -dsimp [Tryz.f48, List.replicate]
  refine lw_of (W_loopG [2, 3, 4, 5, 6, 7, 8, 9, 10, 11, 12, 13, 14, 15, 16, 17, 18, 19] (σ := Nat) (fun i => 1 ≤ i ∧ ascFrom xs i = asc xs) (fun i => xs.length - i) (fun i => [(3, .int .i64 i)]) (fun _ => []) 1 ⟨by omega, rfl⟩ (by simp) rfl (by simp) ?_)
  rintro i ⟨hi, hx⟩
  by_cases hb : i < xs.length
  · have hb2 : i - 1 < xs.length := by omega
    rw [ascFrom, dif_pos hb] at hx
    refine W_x tok mixed ?_
    simp -implicitDefEqProofs -dsimp [L1, encI, hb, hb2, wrapS i (by omega), wrapP i (by omega) hi]
    refine .inr ⟨stop_of (by kernel_rfl), ?_⟩
    split
    · rename_i h; rw [if_pos h] at hx; exact hx.symm
    · rename_i h
      rw [if_neg h] at hx
      refine stop_of ?_
      refine ⟨i + 1, ⟨by omega, hx⟩, by omega, ?_, ⟨[], rfl⟩, ?_, ?_⟩ <;> simp [L1, encI]
  · rw [ascFrom, dif_neg hb] at hx
    refine W_x tok mixed ?_
    simp -implicitDefEqProofs -dsimp [hb, L1]
    exact hx.symm
set_option maxHeartbeats 4000000 in
theorem asc_r (xs : List Int) (f : Bool) (hl : xs.length ≤ 1000000) : ConP Tryz.prog 52 [L1 f xs] fun r => r = .bool (asc xs) := by
  refine conP_of_conH (conH_of_W tok Tryz.func52 rfl rfl ?_)
  refine W_x tok mixed ?_
  simp -implicitDefEqProofs -dsimp [Tryz.f52, List.replicate]
  refine lw_of (W_loopG [2, 3, 4, 5, 6, 7, 8, 9, 10, 11, 12, 13, 14, 15, 16, 17, 18, 19] (σ := Nat) (fun i => 1 ≤ i ∧ ascFrom xs i = asc xs) (fun i => xs.length - i) (fun i => [(3, .int .i64 i)]) (fun _ => []) 1 ⟨by omega, rfl⟩ (by simp) rfl (by simp) ?_)
  rintro i ⟨hi, hx⟩
  by_cases hb : i < xs.length
  · have hb2 : i - 1 < xs.length := by omega
    rw [ascFrom, dif_pos hb] at hx
    refine W_x tok mixed ?_
    simp -implicitDefEqProofs -dsimp [L1, encI, hb, hb2, wrapS i (by omega), wrapP i (by omega) hi]
    refine .inr ⟨stop_of (by kernel_rfl), ?_⟩
    split
    · rename_i h; rw [if_pos h] at hx; exact hx.symm
    · rename_i h
      rw [if_neg h] at hx
      refine stop_of ?_
      refine ⟨i + 1, ⟨by omega, hx⟩, by omega, ?_, ⟨[], rfl⟩, ?_, ?_⟩ <;> simp [L1, encI]
  · rw [ascFrom, dif_neg hb] at hx
    refine W_x tok mixed ?_
    simp -implicitDefEqProofs -dsimp [hb, L1]
    exact hx.symm
set_option maxHeartbeats 4000000 in
theorem has03 (xs : List Int) (x : Int) (f : Bool) (hl : xs.length ≤ 1000000) : ConP Tryz.prog 64 [L1 f xs, .int .i64 x] fun r => r = .bool (memB xs x) := by
  refine conP_of_conH (conH_of_W tok Tryz.func64 rfl rfl ?_)
  refine W_x tok mixed ?_
  simp -implicitDefEqProofs -dsimp [Tryz.f64, List.replicate]
  refine lw_of (W_loopG [4, 5, 6, 7, 8, 9, 10, 11, 12, 13, 14, 15, 16, 17] (σ := Nat) (fun i => memB (xs.drop i) x = memB xs x) (fun i => xs.length - i) (fun i => [(5, .int .i64 i)]) (fun _ => []) 0 rfl (by simp) rfl (by simp) ?_)
  intro i hx
  by_cases hb : i < xs.length
  · rw [List.drop_eq_getElem_cons hb, memB_cons] at hx
    by_cases hq : xs[i] = x
    · refine W_x tok mixed ?_
      simp -implicitDefEqProofs -dsimp [L1, encI, hb, hq]
      rw [hq] at hx
      simpa using hx.symm
    · have hq2 : (x == xs[i]) = false := by simpa using fun h : x = xs[i] => hq h.symm
      rw [hq2, Bool.false_or] at hx
      refine W_x tok mixed ?_
      simp -implicitDefEqProofs -dsimp [L1, encI, hb, hq, wrapS i (by omega)]
      refine stop_of ?_
      refine ⟨i + 1, hx, by omega, ?_, ⟨[], rfl⟩, ?_, ?_⟩ <;> simp [L1, encI]
  · rw [List.drop_of_length_le (by omega), memB_nil] at hx
    refine W_x tok mixed ?_
    simp -implicitDefEqProofs -dsimp [hb, L1]
    exact hx.symm
set_option maxHeartbeats 4000000 in
theorem has37 (xs : List Int) (x : Int) (f : Bool) (hl : xs.length ≤ 1000000) : ConP Tryz.prog 57 [L1 f xs, .int .i64 x] fun r => r = .bool (memB xs x) := by
  refine conP_of_conH (conH_of_W tok Tryz.func57 rfl rfl ?_)
  refine W_x tok mixed ?_
  simp -implicitDefEqProofs -dsimp [Tryz.f57, List.replicate]
  refine (callP (has03 xs x f hl) (by simp)).mono ?_
  rintro r H' ⟨rfl, rfl⟩
  simp -implicitDefEqProofs -dsimp [L1]
def within (us bs : List Int) : Bool := us.all fun x => memB bs x
set_option maxHeartbeats 4000000 in
theorem within37 (us bs : List Int) (f g : Bool) (hl : us.length ≤ 1000000) (hl2 : bs.length ≤ 1000000) : ConP Tryz.prog 53 [L1 f us, L1 g bs] fun r => r = .bool (within us bs) := by
  refine conP_of_conH (conH_of_W tok Tryz.func53 rfl rfl ?_)
  refine W_x tok mixed ?_
  simp -implicitDefEqProofs -dsimp [Tryz.f53, List.replicate]
  refine lw_of (W_loopG [4, 5, 6, 7, 8, 9, 10, 11, 12, 13, 14, 15, 16, 17, 18] (σ := Nat) (fun i => within (us.drop i) bs = within us bs) (fun i => us.length - i) (fun i => [(5, .int .i64 i)]) (fun _ => []) 0 rfl (by simp) rfl (by simp) ?_)
  intro i hx
  by_cases hb : i < us.length
  · rw [List.drop_eq_getElem_cons hb] at hx
    have hx' : (memB bs us[i] && within (us.drop (i + 1)) bs) = within us bs := hx
    refine W_x tok mixed ?_
    cases hq : memB bs us[i]
    · rw [hq] at hx'
      have hc := has37 bs us[i] g hl2
      rw [hq] at hc
      simp -implicitDefEqProofs -dsimp [L1, hb, encI]
      refine (callP (hc) (by simp)).mono ?_
      rintro r H' ⟨rfl, rfl⟩
      simp -implicitDefEqProofs -dsimp [hb]
      simpa using hx'.symm
    · rw [hq] at hx'
      have hc := has37 bs us[i] g hl2
      rw [hq] at hc
      simp -implicitDefEqProofs -dsimp [L1, hb, encI]
      refine (callP (hc) (by simp)).mono ?_
      rintro r H' ⟨rfl, rfl⟩
      simp -implicitDefEqProofs -dsimp [hb, wrapS i (by omega)]
      refine stop_of ?_
      refine ⟨i + 1, by simpa using hx', by omega, ?_, ⟨[], rfl⟩, ?_, ?_⟩ <;> simp [L1, encI]
  · rw [List.drop_of_length_le (by omega)] at hx
    refine W_x tok mixed ?_
    simp -implicitDefEqProofs -dsimp [hb, L1]
    simpa [within] using hx.symm
def lexLt : List Int → List Int → Bool
  | [], [] => false
  | [], _ :: _ => true
  | _ :: _, [] => false
  | x :: xs, y :: ys => if x = y then lexLt xs ys else decide (x < y)
set_option maxHeartbeats 4000000 in
theorem before37 (us bs : List Int) (f g : Bool) (hl : us.length ≤ 1000000) (hl2 : bs.length ≤ 1000000) : ConP Tryz.prog 61 [L1 f us, L1 g bs] fun r => r = .bool (lexLt us bs) := by
  refine conP_of_conH (conH_of_W tok Tryz.func61 rfl rfl ?_)
  refine W_x tok mixed ?_
  simp -implicitDefEqProofs -dsimp [Tryz.f61, List.replicate]
  refine lw_of (W_loopG [4, 5, 6, 7, 8, 9, 10, 11, 12, 13, 14, 15, 16, 17, 18, 19, 20, 21, 22, 23, 24, 25, 26, 27, 28, 29, 30, 31, 32, 33, 34, 35] (σ := Nat) (fun i => i ≤ us.length ∧ i ≤ bs.length ∧ lexLt (us.drop i) (bs.drop i) = lexLt us bs) (fun i => us.length - i) (fun i => [(5, .int .i64 i)]) (fun _ => []) 0 ⟨by omega, by omega, rfl⟩ (by simp) rfl (by simp) ?_)
  rintro i ⟨h1, h2, hx⟩
  by_cases ha : i < us.length
  · by_cases hb : i < bs.length
    · rw [List.drop_eq_getElem_cons ha, List.drop_eq_getElem_cons hb, lexLt] at hx
      by_cases hq : us[i] = bs[i]
      · rw [if_pos hq] at hx
        refine W_x tok mixed ?_
        simp -implicitDefEqProofs -dsimp [L1, encI, ha, hb, hq, wrapS i (by omega)]
        refine .inr ⟨stop_of (by kernel_rfl), ?_⟩
        refine stop_of ?_
        refine ⟨i + 1, ⟨by omega, by omega, hx⟩, by omega, ?_, ⟨[], rfl⟩, ?_, ?_⟩ <;> simp [L1, encI]
      · rw [if_neg hq] at hx
        refine W_x tok mixed ?_
        simp -implicitDefEqProofs -dsimp [L1, encI, ha, hb, hq]
        refine .inr ⟨stop_of (by kernel_rfl), ?_⟩
        refine .inr ⟨stop_of (by kernel_rfl), ?_⟩
        exact hx
    · rw [List.drop_eq_getElem_cons ha, List.drop_of_length_le (l := bs) (by omega), lexLt] at hx
      refine W_x tok mixed ?_
      simp -implicitDefEqProofs -dsimp [L1, ha, hb]
      rw [← hx]
      simp
      omega
  · by_cases hb : i < bs.length
    · rw [List.drop_eq_getElem_cons hb, List.drop_of_length_le (l := us) (by omega), lexLt] at hx
      refine W_x tok mixed ?_
      simp -implicitDefEqProofs -dsimp [L1, ha, hb]
      rw [← hx]
      simp
      omega
    · rw [List.drop_of_length_le (l := us) (by omega), List.drop_of_length_le (l := bs) (by omega), lexLt] at hx
      refine W_x tok mixed ?_
      simp -implicitDefEqProofs -dsimp [L1, ha, hb]
      rw [← hx]
      simp
      omega
end Go.Proofs.YtfaleabndlcanaaGreatDoor
