/- T3: valid values. Expanded by pp.py. -/
import Derived.Test.YteijbpppalhihaaGreatT2
set_option linter.unusedVariables false
set_option linter.unusedSimpArgs false
set_option maxRecDepth 100000
namespace Go.Proofs.YteijbpppalhihaaGreat
open Go Go.AM
set_option maxHeartbeats 16000000 in
theorem valid01 (v : Vl) : ConP Tryz.prog 93 [encV v] fun r => r = .bool (validV v) := by
  unfold validV
  by_cases h0 : v.k = 0
  · by_cases hn : v.n = 0
    · rw [if_pos h0, decide_eq_true hn, Bool.true_and]
      refine conP_of_conH (conH_of_W tok Tryz.func93 rfl rfl ?_)
      refine W_x tok mixed ?_
      simp -implicitDefEqProofs -dsimp [Tryz.f93, List.replicate, encV, h0, hn]
    · rw [if_pos h0, decide_eq_false hn, Bool.false_and]
      refine conP_of_conH (conH_of_W tok Tryz.func93 rfl rfl ?_)
      refine W_x tok mixed ?_
      simp -implicitDefEqProofs -dsimp [Tryz.f93, List.replicate, encV, h0, hn]
  · rw [if_neg h0]
    by_cases h1 : v.k = 1
    · rw [if_pos h1]
      refine conP_of_conH (conH_of_W tok Tryz.func93 rfl rfl ?_)
      refine W_x tok mixed ?_
      simp -implicitDefEqProofs -dsimp [Tryz.f93, List.replicate, encV, h1]
    · rw [if_neg h1]
      by_cases h2 : v.k = 2
      · rw [if_pos h2]
        by_cases hn : v.n = 0
        · rw [decide_eq_true hn, Bool.true_and]
          by_cases hz : v.s.size ≤ 200
          · rw [decide_eq_true hz]
            refine conP_of_conH (conH_of_W tok Tryz.func93 rfl rfl ?_)
            refine W_x tok mixed ?_
            simp -implicitDefEqProofs -dsimp [Tryz.f93, List.replicate, encV, h2, hn, show (v.s.size : Int) ≤ 200 by omega]
          · rw [decide_eq_false hz]
            refine conP_of_conH (conH_of_W tok Tryz.func93 rfl rfl ?_)
            refine W_x tok mixed ?_
            simp -implicitDefEqProofs -dsimp [Tryz.f93, List.replicate, encV, h2, hn, show ¬ (v.s.size : Int) ≤ 200 by omega]
        · rw [decide_eq_false hn, Bool.false_and]
          refine conP_of_conH (conH_of_W tok Tryz.func93 rfl rfl ?_)
          refine W_x tok mixed ?_
          simp -implicitDefEqProofs -dsimp [Tryz.f93, List.replicate, encV, h2, hn]
      · rw [if_neg h2]
        by_cases h3 : v.k = 3
        · rw [decide_eq_true h3, Bool.true_and]
          by_cases hn : 1 ≤ v.n
          · rw [decide_eq_true hn, Bool.true_and]
            refine conP_of_conH (conH_of_W tok Tryz.func93 rfl rfl ?_)
            refine W_x tok mixed ?_
            simp -implicitDefEqProofs -dsimp [Tryz.f93, List.replicate, encV, h3, hn]
          · rw [decide_eq_false hn, Bool.false_and]
            refine conP_of_conH (conH_of_W tok Tryz.func93 rfl rfl ?_)
            refine W_x tok mixed ?_
            simp -implicitDefEqProofs -dsimp [Tryz.f93, List.replicate, encV, h3, hn]
        · rw [decide_eq_false h3, Bool.false_and]
          refine conP_of_conH (conH_of_W tok Tryz.func93 rfl rfl ?_)
          refine W_x tok mixed ?_
          simp -implicitDefEqProofs -dsimp [Tryz.f93, List.replicate, encV, h0, h1, h2, h3]
set_option maxHeartbeats 16000000 in
theorem validV_con (v : Vl) : ConP Tryz.prog 168 [encV v] fun r => r = .bool (validV v) := by
  unfold validV
  by_cases h0 : v.k = 0
  · by_cases hn : v.n = 0
    · rw [if_pos h0, decide_eq_true hn, Bool.true_and]
      refine conP_of_conH (conH_of_W tok Tryz.func168 rfl rfl ?_)
      refine W_x tok mixed ?_
      simp -implicitDefEqProofs -dsimp [Tryz.f168, List.replicate, encV, h0, hn]
    · rw [if_pos h0, decide_eq_false hn, Bool.false_and]
      refine conP_of_conH (conH_of_W tok Tryz.func168 rfl rfl ?_)
      refine W_x tok mixed ?_
      simp -implicitDefEqProofs -dsimp [Tryz.f168, List.replicate, encV, h0, hn]
  · rw [if_neg h0]
    by_cases h1 : v.k = 1
    · rw [if_pos h1]
      refine conP_of_conH (conH_of_W tok Tryz.func168 rfl rfl ?_)
      refine W_x tok mixed ?_
      simp -implicitDefEqProofs -dsimp [Tryz.f168, List.replicate, encV, h1]
    · rw [if_neg h1]
      by_cases h2 : v.k = 2
      · rw [if_pos h2]
        by_cases hn : v.n = 0
        · rw [decide_eq_true hn, Bool.true_and]
          by_cases hz : v.s.size ≤ 200
          · rw [decide_eq_true hz]
            refine conP_of_conH (conH_of_W tok Tryz.func168 rfl rfl ?_)
            refine W_x tok mixed ?_
            simp -implicitDefEqProofs -dsimp [Tryz.f168, List.replicate, encV, h2, hn, show (v.s.size : Int) ≤ 200 by omega]
          · rw [decide_eq_false hz]
            refine conP_of_conH (conH_of_W tok Tryz.func168 rfl rfl ?_)
            refine W_x tok mixed ?_
            simp -implicitDefEqProofs -dsimp [Tryz.f168, List.replicate, encV, h2, hn, show ¬ (v.s.size : Int) ≤ 200 by omega]
        · rw [decide_eq_false hn, Bool.false_and]
          refine conP_of_conH (conH_of_W tok Tryz.func168 rfl rfl ?_)
          refine W_x tok mixed ?_
          simp -implicitDefEqProofs -dsimp [Tryz.f168, List.replicate, encV, h2, hn]
      · rw [if_neg h2]
        by_cases h3 : v.k = 3
        · rw [decide_eq_true h3, Bool.true_and]
          by_cases hn : 1 ≤ v.n
          · rw [decide_eq_true hn, Bool.true_and]
            refine conP_of_conH (conH_of_W tok Tryz.func168 rfl rfl ?_)
            refine W_x tok mixed ?_
            simp -implicitDefEqProofs -dsimp [Tryz.f168, List.replicate, encV, h3, hn]
          · rw [decide_eq_false hn, Bool.false_and]
            refine conP_of_conH (conH_of_W tok Tryz.func168 rfl rfl ?_)
            refine W_x tok mixed ?_
            simp -implicitDefEqProofs -dsimp [Tryz.f168, List.replicate, encV, h3, hn]
        · rw [decide_eq_false h3, Bool.false_and]
          refine conP_of_conH (conH_of_W tok Tryz.func168 rfl rfl ?_)
          refine W_x tok mixed ?_
          simp -implicitDefEqProofs -dsimp [Tryz.f168, List.replicate, encV, h0, h1, h2, h3]
theorem any_drop (p : Vl → Bool) (vs : List Vl) (i : Nat) (h : i < vs.length) : (vs.drop i).all p = (p vs[i] && (vs.drop (i + 1)).all p) := by rw [List.drop_eq_getElem_cons h]; rfl
set_option maxHeartbeats 8000000 in
theorem valids01 (vs : List Vl) (f : Bool) (hl : vs.length ≤ 1000000) : ConP Tryz.prog 128 [LV f vs] fun r => r = .bool (vs.all validV) := by
  obtain ⟨E, hE⟩ : ∃ E, E = vs.all validV := ⟨_, rfl⟩
  rw [← hE]
  refine conP_of_conH (conH_of_W tok Tryz.func128 rfl rfl ?_)
  refine W_x tok mixed ?_
  simp -implicitDefEqProofs -dsimp [Tryz.f128, List.replicate, LV]
  refine lw_of (W_loopV [false, false, true, true, true, true, true, true, true, true, true, true, true, true, true, true] (σ := Nat) (fun i => (vs.drop i).all validV = E) (fun i => vs.length - i) (fun i => [(3, .int .i64 i)]) (fun _ => []) 0 (by rw [List.drop_zero, hE]) (by simp) rfl (by simp) ?_)
  rintro i hx N Q hN hQ
  by_cases hb : i < vs.length
  · rw [any_drop _ _ _ hb] at hx
    have hc := valid01 vs[i]
    cases h1 : validV vs[i]
    · rw [h1] at hc
      rw [h1, Bool.false_and] at hx
      refine W_x tok mixed ?_
      simp -implicitDefEqProofs -dsimp [hb]
      refine (callP (hc) (by simp)).mono ?_
      rintro r H' ⟨rfl, rfl⟩
      simp -implicitDefEqProofs -dsimp []
      refine hQ _ _ _ ?_
      simp -implicitDefEqProofs -dsimp []
      simpa using hx
    · rw [h1] at hc
      rw [h1, Bool.true_and] at hx
      refine W_x tok mixed ?_
      simp -implicitDefEqProofs -dsimp [hb]
      refine (callP (hc) (by simp)).mono ?_
      rintro r H' ⟨rfl, rfl⟩
      simp -implicitDefEqProofs -dsimp [wrapS i (by omega)]
      refine hN (i + 1) _ _ hx (by omega) (by simp) ⟨[], rfl⟩ (by simp) (by simp)
  · rw [List.drop_of_length_le (by omega)] at hx
    refine W_x tok mixed ?_
    simp -implicitDefEqProofs -dsimp [hb]
    refine hQ _ _ _ ?_
    simp -implicitDefEqProofs -dsimp []
    simpa using hx
def ixV (p : Vl → Bool) (vs : List Vl) (i : Nat) : Int := if h : i < vs.length then (if p vs[i] then (i : Int) else ixV p vs (i + 1)) else -1
termination_by vs.length - i
theorem ixV_any (p : Vl → Bool) (vs : List Vl) (i : Nat) : decide (0 ≤ ixV p vs i) = (vs.drop i).any p := by
  fun_induction ixV p vs i with
  | case1 i h h0 => rw [List.drop_eq_getElem_cons h, List.any_cons, h0]; simp
  | case2 i h h0 ih => rw [List.drop_eq_getElem_cons h, List.any_cons, ih]; simp [h0]
  | case3 i h => rw [List.drop_of_length_le (by omega)]; rfl
set_option maxHeartbeats 8000000 in
theorem idxFuncV (H : List B) (fv : V) (p : Vl → Bool) (vs : List Vl) (g : Bool) (hes : vs.length ≤ 1000000) (hH : ∀ bl ∈ H, rbB H.length bl) (hfv : rb H.length fv)
    (hp : ∀ m ∈ vs, WCall Tryz.prog fv [encV m] H fun r H' => r = .bool (p m) ∧ H' = H) : ConH Tryz.prog 198 [LV g vs, fv] H fun r H' => r = .int .i64 (ixV p vs 0) ∧ H' = H := by
  refine conH_of_W tok Tryz.func198 rfl rfl ?_
  refine W_x tok mixed ?_
  simp -implicitDefEqProofs -dsimp [Tryz.f198, List.replicate, LV]
  refine lw_of (W_loopV [false, false, false, false, true, true, false, false, true, true, true, true, true, true, true, true, true, true, true] (σ := Nat) (fun i => ixV p vs i = ixV p vs 0) (fun i => vs.length - i) (fun i => [(8, .int .i64 i)]) (fun _ => H) 0 rfl (by simp) rfl (by simp) ?_)
  intro i hx N Q hN hQ
  by_cases hb : i < vs.length
  · rw [ixV, dif_pos hb] at hx
    have hc := hp vs[i] (List.getElem_mem hb)
    cases hq : p vs[i]
    · rw [hq] at hc hx
      refine W_x tok mixed ?_
      simp -implicitDefEqProofs -dsimp [hb]
      refine hc.mono ?_
      rintro r H' ⟨rfl, rfl⟩
      simp -implicitDefEqProofs -dsimp [wrapS i (by omega)]
      refine hN (i + 1) _ _ (by simpa using hx) (by omega) (by simp) ⟨[], by simp⟩ (by simp; exact hfv) hH
    · rw [hq] at hc hx
      refine W_x tok mixed ?_
      simp -implicitDefEqProofs -dsimp [hb]
      refine hc.mono ?_
      rintro r H' ⟨rfl, rfl⟩
      simp -implicitDefEqProofs -dsimp []
      refine hQ _ _ _ ?_
      simp -implicitDefEqProofs -dsimp []
      simpa using hx
  · rw [ixV, dif_neg hb] at hx
    refine W_x tok mixed ?_
    simp -implicitDefEqProofs -dsimp [hb]
    refine hQ _ _ _ ?_
    simp -implicitDefEqProofs -dsimp []
    simpa using hx
set_option maxHeartbeats 4000000 in
theorem contFuncV (H : List B) (fv : V) (p : Vl → Bool) (vs : List Vl) (g : Bool) (hes : vs.length ≤ 1000000) (hH : ∀ bl ∈ H, rbB H.length bl) (hfv : rb H.length fv)
    (hp : ∀ m ∈ vs, WCall Tryz.prog fv [encV m] H fun r H' => r = .bool (p m) ∧ H' = H) : ConH Tryz.prog 166 [LV g vs, fv] H fun r H' => r = .bool (vs.any p) ∧ H' = H := by
  have h0 := ixV_any p vs 0
  rw [List.drop_zero] at h0
  have hc := idxFuncV H fv p vs g hes hH hfv hp
  refine conH_of_W tok Tryz.func166 rfl rfl ?_
  refine W_x tok mixed ?_
  simp -implicitDefEqProofs -dsimp [Tryz.f166, List.replicate]
  refine WCall.mono (K := fun r H' => r = .int .i64 (ixV p vs 0) ∧ H' = H) hc ?_
  rintro r H' ⟨rfl, rfl⟩
  simp -implicitDefEqProofs -dsimp []
  rw [← h0]
set_option maxHeartbeats 4000000 in
theorem notValid (v : Vl) : ConP Tryz.prog 167 [encV v] fun r => r = .bool (!validV v) := by
  have hc := validV_con v
  simp only [encV] at hc
  refine conP_of_conH (conH_of_W tok Tryz.func167 rfl rfl ?_)
  refine W_x tok mixed ?_
  simp -implicitDefEqProofs -dsimp [Tryz.f167, List.replicate, encV]
  refine (callP (hc) (by simp)).mono ?_
  rintro r H' ⟨rfl, rfl⟩
  simp -implicitDefEqProofs -dsimp []
set_option maxHeartbeats 4000000 in
theorem validVals (vs : List Vl) (f : Bool) (hl : vs.length ≤ 1000000) : ConP Tryz.prog 118 [LV f vs] fun r => r = .bool (vs.all validV) := by
  have hc := contFuncV [] (.fn 167 []) (fun v => !validV v) vs f hl (by simp) (by simp) (fun m _ => callP (notValid m) (by simp))
  have he : vs.all validV = !vs.any fun v => !validV v := by
    induction vs with
    | nil => rfl
    | cons v vs ih => simp only [List.all_cons, List.any_cons, Bool.not_or, Bool.not_not]; rw [ih (by simp at hl; omega) (contFuncV [] (.fn 167 []) (fun v => !validV v) vs f (by simp at hl; omega) (by simp) (by simp) (fun m _ => callP (notValid m) (by simp)))]
  rw [he]
  refine conP_of_conH (conH_of_W tok Tryz.func118 rfl rfl ?_)
  refine W_x tok mixed ?_
  simp -implicitDefEqProofs -dsimp [Tryz.f118, List.replicate]
  refine WCall.mono (K := fun r H' => r = .bool (vs.any fun v => !validV v) ∧ H' = []) hc ?_
  rintro r H' ⟨rfl, rfl⟩
  simp -implicitDefEqProofs -dsimp []
end Go.Proofs.YteijbpppalhihaaGreat
