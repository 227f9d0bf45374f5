/- W15: the law ConflictIndependent. Expanded by pp.py. -/
import Derived.Test.YtfaleabndlcanaaGreatDoorW14
import Derived.Test.YtfaleabndlcanaaGreatDoorC4
set_option linter.unusedSimpArgs false
set_option maxRecDepth 100000
namespace Go.Proofs.YtfaleabndlcanaaGreatDoor
open Go Go.AM
set_option maxHeartbeats 16000000 in
theorem lawIndependent (n : Int) (cs : List Int) (l : List Int) (f f2 : Bool) (hn : 0 ≤ n) (hn2 : n < 256) (hcs : cs.length ≤ 9223372036854775807) : ConP Tryz.prog 4 [encG f n cs, L1 f2 l] fun r => r = .bool true := by
  have hs := hyp_small n cs hn
  have hva := hypV_asc n
  have hc := hyper37 n cs f hn hn2 hcs
  generalize hypV n = vs at hs hva hc
  generalize hypE n cs = es at hs hc
  have he1 := ind_eq hva es l
  have he2 := max_eq hva es l
  simp only [encG, encH] at hc
  refine conP_of_conH (conH_of_W tok Tryz.func4 rfl rfl ?_)
  refine W_x tok mixed ?_
  simp -implicitDefEqProofs -dsimp [Tryz.f4, List.replicate, encG, L1]
  refine (callP (hc) (by simp)).mono ?_
  rintro r H' ⟨rfl, rfl⟩
  simp -implicitDefEqProofs -dsimp [LL, L1]
  refine (callP (awake_con) (by simp)).mono ?_
  rintro r H' ⟨rfl, rfl⟩
  by_cases h12 : cs.length ≤ 12
  · by_cases hl : 12 < l.length
    · simp -implicitDefEqProofs -dsimp [h12, show (12 : Int) < l.length by omega, L1]
      refine (callP (awake_con) (by simp)).mono ?_
      rintro r H' ⟨rfl, rfl⟩
      simp -implicitDefEqProofs -dsimp [L1]
    · have hcl := clone64p l f2 (by omega)
      have hi1 := indep_c vs es l false false false hs (by omega)
      have hi2 := indep_r vs es l false false f2 hs (by omega)
      have hm1 := maximal_c vs es l false false false hs (by omega)
      have hm2 := maximal_r vs es l false false f2 hs (by omega)
      rw [he1] at hi1
      rw [he2] at hm1
      simp only [encH] at hi1 hi2 hm1 hm2
      simp -implicitDefEqProofs -dsimp [h12, show ¬ ((12 : Int) < l.length) by omega, L1]
      refine .inr ⟨stop_of (by kernel_rfl), ?_⟩
      refine cy_of _ (callP (hcl) (by simp)) ?_
      simp -implicitDefEqProofs -dsimp [LL, L1]
      refine cy_of _ (callP (hi1) (by simp)) ?_
      simp -implicitDefEqProofs -dsimp [LL, L1]
      refine cy_of _ (callP (hi2) (by simp)) ?_
      simp -implicitDefEqProofs -dsimp [LL, eqA2, L1]
      refine cy_of _ (callP (hcl) (by simp)) ?_
      simp -implicitDefEqProofs -dsimp [LL, L1]
      refine cy_of _ (callP (hm1) (by simp)) ?_
      simp -implicitDefEqProofs -dsimp [LL, L1]
      refine cy_of _ (callP (hm2) (by simp)) ?_
      simp -implicitDefEqProofs -dsimp [eqA2, L1]
  · simp -implicitDefEqProofs -dsimp [h12, L1]
    refine (callP (awake_con) (by simp)).mono ?_
    rintro r H' ⟨rfl, rfl⟩
    simp -implicitDefEqProofs -dsimp [L1]
end Go.Proofs.YtfaleabndlcanaaGreatDoor
