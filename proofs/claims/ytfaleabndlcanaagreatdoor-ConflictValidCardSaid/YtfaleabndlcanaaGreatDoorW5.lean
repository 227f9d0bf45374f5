/- W5: the law ConflictValid. Expanded by pp.py. -/
import Derived.Test.YtfaleabndlcanaaGreatDoorW4
import Derived.Test.YtfaleabndlcanaaGreatDoorPl1
set_option linter.unusedSimpArgs false
set_option maxRecDepth 100000
namespace Go.Proofs.YtfaleabndlcanaaGreatDoor
open Go Go.AM
theorem val_eq (vs : List Int) (es : List (List Int)) : valC vs es = valR vs es := by
  unfold valC valR
  cases ha : asc vs
  · simp
  cases hn : decide (es.length ≤ 20000)
  · simp
  simp only [Bool.true_and]
  have h1 : ∀ i, ok1 vs es i = rk1 vs es i := fun i => by unfold ok1 rk1; rw [contB_within ha, cmpL_lex]
  have h2 : ∀ i k, ok1 vs es i = true → ok2 es i k = rk2 es i k := fun i k h => by
    simp only [ok1, Bool.and_eq_true] at h
    unfold ok2 rk2
    rw [contB_within h.1.1.2]
  rw [Bool.eq_iff_iff]
  simp only [Bool.and_eq_true, List.all_eq_true, List.mem_range, rkk]
  constructor
  · rintro ⟨a, b⟩ i hi
    exact ⟨by rw [← h1]; exact a i hi, fun k hk => by rw [← h2 i k (a i hi)]; exact b i hi k hk⟩
  · intro h
    have a : ∀ i, i < es.length → ok1 vs es i = true := fun i hi => by rw [h1]; exact (h i hi).1
    exact ⟨a, fun i hi k hk => by rw [h2 i k (a i hi)]; exact (h i hi).2 k hk⟩
set_option maxHeartbeats 16000000 in
theorem lawValid (vs : List Int) (es : List (List Int)) (_hl : vs.length ≤ 9223372036854775807) (_hl2 : es.length ≤ 9223372036854775807) (_hl3 : ∀ e ∈ es, e.length ≤ 9223372036854775807) : ConP Tryz.prog 7 [encH false false vs es] fun r => r = .bool true := by
  refine conP_of_conH (conH_of_W tok Tryz.func7 rfl rfl ?_)
  refine W_x tok mixed ?_
  simp -implicitDefEqProofs -dsimp [Tryz.f7, List.replicate, encH, LL]
  refine (callP (awake_con) (by simp)).mono ?_
  rintro r H' ⟨rfl, rfl⟩
  by_cases h1 : 12 < vs.length
  · simp -implicitDefEqProofs -dsimp [L1, LL, show (12 : Int) < vs.length by omega]
    refine (callP (awake_con) (by simp)).mono ?_
    rintro r H' ⟨rfl, rfl⟩
    simp -implicitDefEqProofs -dsimp []
  by_cases h2 : 12 < es.length
  · simp -implicitDefEqProofs -dsimp [L1, LL, show ¬ ((12 : Int) < vs.length) by omega, show (12 : Int) < es.length by omega]
    refine (callP (awake_con) (by simp)).mono ?_
    rintro r H' ⟨rfl, rfl⟩
    simp -implicitDefEqProofs -dsimp []
  simp -implicitDefEqProofs -dsimp [L1, LL, show ¬ ((12 : Int) < vs.length) by omega, show ¬ ((12 : Int) < es.length) by omega]
  refine lw_of (W_loopG [2, 4, 23, 24, 25, 26, 27, 28, 29, 30] (σ := Nat) (fun i => i ≤ es.length ∧ ∀ j (h : j < es.length), j < i → es[j].length ≤ 8) (fun i => es.length - i) (fun i => [(23, .int .i64 i)]) (fun _ => [B.cells [L1 false vs, LL false es]]) 0 ⟨by omega, by simp⟩ (by simp [L1, LL]) (by simp [L1, LL]) (by simp) ?_)
  rintro i ⟨h3, h4⟩
  by_cases hb : i < es.length
  · by_cases h5 : 8 < es[i].length
    · refine W_x tok mixed ?_
      simp -implicitDefEqProofs -dsimp [LL, L1, hb, show (8 : Int) < es[i].length by omega]
    · refine W_x tok mixed ?_
      simp -implicitDefEqProofs -dsimp [LL, L1, hb, show ¬ ((8 : Int) < es[i].length) by omega, wrapS i (by omega)]
      refine stop_of ?_
      refine ⟨i + 1, ⟨by omega, fun j h hj => by rcases Nat.lt_or_ge j i with h6 | h6; exact h4 j h h6; (obtain rfl : j = i := by omega); omega⟩, by omega, ?_, ⟨[], rfl⟩, ?_, ?_⟩ <;> simp [L1, encI, LL]
  · obtain rfl : i = es.length := by omega
    have hs : Small vs es := ⟨by omega, by omega, fun e he => by obtain ⟨j, hj, rfl⟩ := List.mem_iff_getElem.1 he; have := h4 j hj hj; omega⟩
    have hc1 := valid_c vs es false false hs
    have hc2 := valid_r vs es false false hs
    rw [val_eq] at hc1
    simp only [encH] at hc1 hc2
    refine W_x tok mixed ?_
    simp -implicitDefEqProofs -dsimp [LL, L1, hb]
    refine ⟨stop_of (by kernel_rfl), ?_⟩
    refine cy_of _ (callP (hc1) (by simp)) ?_
    simp -implicitDefEqProofs -dsimp [LL, L1]
    refine cy_of _ (callP (hc2) (by simp)) ?_
    simp -implicitDefEqProofs -dsimp [eqA2]
end Go.Proofs.YtfaleabndlcanaaGreatDoor
