/- W18: the law ConflictWithout. Expanded by pp.py. -/
import Derived.Test.YtfaleabndlcanaaGreatDoorPl4
import Derived.Test.YtfaleabndlcanaaGreatDoorC4
set_option linter.unusedSimpArgs false
set_option maxRecDepth 100000
namespace Go.Proofs.YtfaleabndlcanaaGreatDoor
open Go Go.AM
set_option maxHeartbeats 16000000 in
theorem lawWithout (n : Int) (cs : List Int) (l : List Int) (f f2 : Bool) (hn : 0 ≤ n) (hn2 : n < 256) (hcs : cs.length ≤ 9223372036854775807) : ConP Tryz.prog 9 [encG f n cs, L1 f2 l] fun r => r = .bool true := by
  have hs := hyp_small n cs hn
  have hh := hyp_hyp n cs
  have hel := hypE_len n cs
  have hc := hyper37 n cs f hn hn2 hcs
  generalize hypV n = vs at hs hh hc
  generalize hypE n cs = es at hs hh hel hc
  simp only [encG, encH] at hc
  refine conP_of_conH (conH_of_W tok Tryz.func9 rfl rfl ?_)
  refine W_x tok mixed ?_
  simp -implicitDefEqProofs -dsimp [Tryz.f9, List.replicate, encG, L1]
  refine (callP (hc) (by simp)).mono ?_
  rintro r H' ⟨rfl, rfl⟩
  simp -implicitDefEqProofs -dsimp [LL, L1]
  refine (callP (awake_con) (by simp)).mono ?_
  rintro r H' ⟨rfl, rfl⟩
  by_cases h12 : cs.length ≤ 12
  · by_cases hl : 12 < l.length
    · simp -implicitDefEqProofs -dsimp [h12, show (12 : Int) < l.length by omega, L1]
      refine (callP (awake_con) (by simp)).mono ?_
      rintro r H' ⟨rfl, rfl⟩
      simp -implicitDefEqProofs -dsimp [L1]
    · have hcl := clone64p l f2 (by omega)
      have hw1 := without_c vs es l false false false hs (by omega)
      have hw2 := without_r vs es l false false f2 hs (by omega) hh.ne
      rw [part_V, part_E hh] at hw2
      have hsm := wo_small hs l
      have hsame := same37 (woV vs l) (woV vs l) (woE es l) (woE es l) false false false false hsm hsm
      have hval := valid_c (woV vs l) (woE es l) false false hsm
      rw [(hh.without l).val (by have := woE_len' es l; omega)] at hval
      simp only [decide_true, Bool.and_self] at hsame
      simp only [encH] at hw1 hw2 hsame hval
      simp -implicitDefEqProofs -dsimp [h12, show ¬ ((12 : Int) < l.length) by omega, L1]
      refine lw_of (W_drawT tok mixed [4, 5] [(0, [1]), (1, [1]), (2, [1]), (3, [1])] [(L1 false l, []), (encH false false (woV vs l) (woE es l), [])] (by kernel_rfl) fun C K hC hK => ?_)
      simp -implicitDefEqProofs [encH, LL, L1]
      refine ⟨⟨⟨hC _ _ _ _ (callP hcl (by simp)), hC _ _ _ _ (callP hcl (by simp))⟩, hC _ _ _ _ (callP hw1 (by simp)), hC _ _ _ _ (callP hw1 (by simp))⟩, hK _ _ ?_⟩
      simp -implicitDefEqProofs -dsimp [L1]
      refine .inr ⟨stop_of (by kernel_rfl), ?_⟩
      refine cy_of _ (callP (hw2) (by simp)) ?_
      simp -implicitDefEqProofs -dsimp [LL, L1]
      refine cy_of _ (callP (hsame) (by simp)) ?_
      simp -implicitDefEqProofs -dsimp [LL, L1]
      refine cy_of _ (callP (hval) (by simp)) ?_
      simp -implicitDefEqProofs -dsimp [LL, L1]
      refine lw_of (W_loopV [false, false, false, false, false, false, false, false, false, true, true, false, true, false, false, false, false, false, false, false, false, false, false, false, false, false, false, false, false, false, false, false, false, false, false, false, false, false, false, false, false, false, false, false, true, true, true, true, true, true, true, true, true] (σ := Nat) (fun i => i ≤ l.length) (fun i => l.length - i) (fun i => [(44, .int .i64 i)]) (fun i => [B.cells [.int .u8 n, .lst 1 f (cs.map encU)], B.cells [L1 false (woV vs (l.take i)), LL false (woE es (l.take i))], B.cells [L1 false (woV vs l), LL false (woE es l)]]) 0 (by omega) (by simp) (by simp [(wo_nil vs es).1, (wo_nil vs es).2, L1, LL]) (by simp) ?_)
      intro i hi N Q hN hQ
      by_cases hb : i < l.length
      · have hwi := without_c (woV vs (l.take i)) (woE es (l.take i)) [l[i]] false false true (wo_small hs _) (by simp)
        rw [wo_V, wo_E, ← List.take_succ_eq_append_getElem hb] at hwi
        simp only [encH, L1, List.map_cons, List.map_nil, encI] at hwi
        refine W_x tok mixed ?_
        simp -implicitDefEqProofs -dsimp [hb, encI, L1]
        refine (callP (hwi) (by simp)).mono ?_
        rintro r H' ⟨rfl, rfl⟩
        simp -implicitDefEqProofs -dsimp [LL, wrapS i (by omega), L1]
        refine hN (i + 1) _ _ (by omega) (by omega) ?_ ⟨[], ?_⟩ ?_ ?_ <;> simp [or_imp, forall_and, L1, encI, LL]
      · obtain rfl : i = l.length := by omega
        rw [List.take_length]
        refine W_x tok mixed ?_
        simp -implicitDefEqProofs -dsimp [hb, L1]
        refine hQ _ _ _ ?_
        simp -implicitDefEqProofs -dsimp [LL, L1]
        refine (callP (hsame) (by simp)).mono ?_
        rintro r H' ⟨rfl, rfl⟩
        simp -implicitDefEqProofs -dsimp [L1]
  · simp -implicitDefEqProofs -dsimp [h12, L1]
    refine (callP (awake_con) (by simp)).mono ?_
    rintro r H' ⟨rfl, rfl⟩
    simp -implicitDefEqProofs -dsimp [L1]
end Go.Proofs.YtfaleabndlcanaaGreatDoor
