/- V3: the program's forest: same, join. Expanded by pp.py. -/
import Derived.Test.YteijbpppalhihaaGreatV2
set_option linter.unusedVariables false
set_option linter.unusedSimpArgs false
set_option maxRecDepth 100000
namespace Go.Proofs.YteijbpppalhihaaGreat
open Go Go.AM
open Classical in
noncomputable def eqvB (q : Prob) (r : Nat → Nat) (x y : Nat) : Bool := decide (eqv q r x y)
theorem eqvB_iff {q : Prob} {r : Nat → Nat} {x y : Nat} : eqvB q r x y = true ↔ eqv q r x y := by unfold eqvB; simp
theorem eqvB_same {q : Prob} {r : Nat → Nat} {x y : Nat} (h : r x = r y) : eqvB q r x y = true := eqvB_iff.2 (.inl h)
theorem eqvB_vals {q : Prob} {r : Nat → Nat} {x y : Nat} {v w : Vl} (h : q.K (r x) = some v) (g : q.K (r y) = some w) : eqvB q r x y = (cmpV v w == 0) := by
  rw [Bool.eq_iff_iff, eqvB_iff, beq_iff_eq, cmpV_zero]
  constructor
  · rintro (e | ⟨u, h1, h2⟩)
    · rw [e, g] at h; exact (Option.some.inj h).symm
    · rw [h] at h1; rw [g] at h2
      exact (Option.some.inj h1).trans (Option.some.inj h2).symm
  · rintro rfl; exact .inr ⟨v, h, g⟩
theorem eqvB_none {q : Prob} {r : Nat → Nat} {x y : Nat} (hne : r x ≠ r y) (h : q.K (r x) = none ∨ q.K (r y) = none) : eqvB q r x y = false := by
  cases hb : eqvB q r x y
  · rfl
  · rcases eqvB_iff.1 hb with e | ⟨u, h1, h2⟩
    · exact absurd e hne
    · rcases h with h | h
      · rw [h] at h1; cases h1
      · rw [h] at h2; cases h2
set_option maxHeartbeats 16000000 in
theorem same_u {q : Prob} {P : List Nat} {r h : Nat → Nat} (f : Frt q P r h) {H : List B} {k0 kp kq n N : Nat} (hNe : q.m * q.n = N) (g : HOk H k0 kp kq n N q.K) (hN : N ≤ 1000000) (x y : Nat) (hx : x < N) (hy : y < N) :
    ConH Tryz.prog 133 [.ptr k0 0, .int .i64 x, .int .i64 y] (Ht H kp P) fun r' H' => r' = .bool (eqvB q r x y) ∧ H' = Ht H kp P := by
  have h0 := g.at0 P
  have h2 := g.atq P
  have hkl := knL_len q.K N
  have c1 := root_u f hNe g hN x hx
  have c2 := root_u f hNe g hN y hy
  have lx : r x < N := hNe ▸ f.lt x (hNe ▸ hx)
  have ly : r y < N := hNe ▸ f.lt y (hNe ▸ hy)
  have ax := fun h => knL_get q.K (N := N) (x := r x) h
  have ay := fun h => knL_get q.K (N := N) (x := r y) h
  by_cases he : r x = r y
  · rw [eqvB_same he]
    refine conH_of_W tok Tryz.func133 rfl rfl ?_
    refine W_x tok mixed ?_
    simp -implicitDefEqProofs -dsimp [Tryz.f133, List.replicate]
    refine WCall.mono (K := fun r' H' => r' = .int .i64 (r x) ∧ H' = Ht H kp P) c1 ?_
    rintro _ _ ⟨rfl, rfl⟩
    simp -implicitDefEqProofs -dsimp []
    refine WCall.mono (K := fun r' H' => r' = .int .i64 (r y) ∧ H' = Ht H kp P) c2 ?_
    rintro _ _ ⟨rfl, rfl⟩
    simp -implicitDefEqProofs -dsimp [he]
    exact .inr (stop_of (by kernel_rfl))
  · have hne : ¬ ((r x : Int) = r y) := by omega
    cases hk1 : q.K (r x) with
    | none =>
      rw [hk1] at ax
      rw [eqvB_none he (.inl hk1)]
      refine conH_of_W tok Tryz.func133 rfl rfl ?_
      refine W_x tok mixed ?_
      simp -implicitDefEqProofs -dsimp [Tryz.f133, List.replicate]
      refine WCall.mono (K := fun r' H' => r' = .int .i64 (r x) ∧ H' = Ht H kp P) c1 ?_
      rintro _ _ ⟨rfl, rfl⟩
      simp -implicitDefEqProofs -dsimp []
      refine WCall.mono (K := fun r' H' => r' = .int .i64 (r y) ∧ H' = Ht H kp P) c2 ?_
      rintro _ _ ⟨rfl, rfl⟩
      simp -implicitDefEqProofs -dsimp [hne, h0, h2, ax, hkl, lx, encK, eqA2]
      exact .inr (stop_of (by kernel_rfl))
    | some v =>
      rw [hk1] at ax
      cases hk2 : q.K (r y) with
      | none =>
        rw [hk2] at ay
        rw [eqvB_none he (.inr hk2)]
        refine conH_of_W tok Tryz.func133 rfl rfl ?_
        refine W_x tok mixed ?_
        simp -implicitDefEqProofs -dsimp [Tryz.f133, List.replicate]
        refine WCall.mono (K := fun r' H' => r' = .int .i64 (r x) ∧ H' = Ht H kp P) c1 ?_
        rintro _ _ ⟨rfl, rfl⟩
        simp -implicitDefEqProofs -dsimp []
        refine WCall.mono (K := fun r' H' => r' = .int .i64 (r y) ∧ H' = Ht H kp P) c2 ?_
        rintro _ _ ⟨rfl, rfl⟩
        simp -implicitDefEqProofs -dsimp [hne, h0, h2, ax, ay, hkl, lx, ly, encK, eqA2]
        exact .inr (stop_of (by kernel_rfl))
      | some w =>
        rw [hk2] at ay
        rw [eqvB_vals hk1 hk2]
        have c3 := valueCompare v w
        simp only [encV] at c3
        refine conH_of_W tok Tryz.func133 rfl rfl ?_
        refine W_x tok mixed ?_
        simp -implicitDefEqProofs -dsimp [Tryz.f133, List.replicate]
        refine WCall.mono (K := fun r' H' => r' = .int .i64 (r x) ∧ H' = Ht H kp P) c1 ?_
        rintro _ _ ⟨rfl, rfl⟩
        simp -implicitDefEqProofs -dsimp []
        refine WCall.mono (K := fun r' H' => r' = .int .i64 (r y) ∧ H' = Ht H kp P) c2 ?_
        rintro _ _ ⟨rfl, rfl⟩
        simp -implicitDefEqProofs -dsimp [hne, h0, h2, ax, ay, hkl, lx, ly, encK, eqA2]
        refine .inr ⟨stop_of (by kernel_rfl), ?_⟩
        refine cy_of _ (callP (c3) (by simp)) ?_
        simp -implicitDefEqProofs -dsimp [hne]
end Go.Proofs.YteijbpppalhihaaGreat
