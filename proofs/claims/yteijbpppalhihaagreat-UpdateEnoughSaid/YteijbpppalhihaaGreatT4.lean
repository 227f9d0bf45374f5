/- T4: valid tables. Expanded by pp.py. -/
import Derived.Test.YteijbpppalhihaaGreatT3
set_option linter.unusedVariables false
set_option linter.unusedSimpArgs false
set_option maxRecDepth 100000
namespace Go.Proofs.YteijbpppalhihaaGreat
open Go Go.AM
structure Rw where
  id : Int
  vals : List Vl
structure Tb where
  name : ByteArray
  attrs : List ByteArray
  rows : List Rw
def encRw (r : Rw) : V := .agg [.int .i64 r.id, LV false r.vals]
def LR (g : Bool) (rs : List Rw) : V := .lst 2 g (rs.map encRw)
def encTb (f g : Bool) (t : Tb) : V := .agg [.str t.name, LS f t.attrs, LR g t.rows]
@[simp] theorem encRw_pure (r : Rw) : AM.Pure (encRw r) := by simp [encRw]
@[simp] theorem LR_pure (g : Bool) (rs : List Rw) : AM.Pure (LR g rs) := by simp [LR]
@[simp] theorem encTb_pure (f g : Bool) (t : Tb) : AM.Pure (encTb f g t) := by simp [encTb]
@[simp] theorem encRw_oneV (r : Rw) : oneV (encRw r) = true := rfl
def rowsErr (n : Nat) : Int → List Rw → Int
  | _, [] => 0
  | last, r :: rs => if r.id ≤ last then 1 else if r.vals.length ≠ n then 6 else if r.vals.all validV then rowsErr n r.id rs else 1
def validT (t : Tb) : Int := if nameB t.name then (if 16 < t.attrs.length ∨ 1000 < t.rows.length then 3 else if namesB t.attrs then rowsErr t.attrs.length 0 t.rows else 1) else 1
/-- What is asked of a table that is an argument. -/
structure TbOk (t : Tb) : Prop where
  name : t.name.size ≤ maxLen
  attrs : t.attrs.length ≤ 1000000
  rows : t.rows.length ≤ 1000000
  strs : ∀ s ∈ t.attrs, s.size ≤ maxLen
set_option maxHeartbeats 32000000 in
theorem valid03 (t : Tb) (f g : Bool) (h : TbOk t) : ConP Tryz.prog 84 [encTb f g t] fun r => r = .int .i64 (validT t) := by
  obtain ⟨hn, ha, hr, hs⟩ := h
  have hc1 := name03_con t.name hn
  cases h1 : nameB t.name
  · rw [h1] at hc1
    rw [show validT t = 1 by simp [validT, h1]]
    refine conP_of_conH (conH_of_W tok Tryz.func84 rfl rfl ?_)
    refine W_x tok mixed ?_
    simp -implicitDefEqProofs -dsimp [Tryz.f84, List.replicate, encTb, LR, LS]
    refine (callP (hc1) (by simp)).mono ?_
    rintro r H' ⟨rfl, rfl⟩
    simp -implicitDefEqProofs -dsimp []
  · rw [h1] at hc1
    by_cases h2 : 16 < t.attrs.length
    · rw [show validT t = 3 by simp [validT, h1, h2]]
      refine conP_of_conH (conH_of_W tok Tryz.func84 rfl rfl ?_)
      refine W_x tok mixed ?_
      simp -implicitDefEqProofs -dsimp [Tryz.f84, List.replicate, encTb, LR, LS]
      refine (callP (hc1) (by simp)).mono ?_
      rintro r H' ⟨rfl, rfl⟩
      simp -implicitDefEqProofs -dsimp [show (16 : Int) < t.attrs.length by omega]
    · by_cases h3 : 1000 < t.rows.length
      · rw [show validT t = 3 by simp [validT, h1, h3]]
        refine conP_of_conH (conH_of_W tok Tryz.func84 rfl rfl ?_)
        refine W_x tok mixed ?_
        simp -implicitDefEqProofs -dsimp [Tryz.f84, List.replicate, encTb, LR, LS]
        refine (callP (hc1) (by simp)).mono ?_
        rintro r H' ⟨rfl, rfl⟩
        simp -implicitDefEqProofs -dsimp [show ¬ (16 : Int) < t.attrs.length by omega, show (1000 : Int) < t.rows.length by omega]
      · have hc2 := names03 t.attrs f ha hs
        simp only [LS] at hc2
        cases h4 : namesB t.attrs
        · rw [h4] at hc2
          rw [show validT t = 1 by simp [validT, h1, h2, h3, h4]]
          refine conP_of_conH (conH_of_W tok Tryz.func84 rfl rfl ?_)
          refine W_x tok mixed ?_
          simp -implicitDefEqProofs -dsimp [Tryz.f84, List.replicate, encTb, LR, LS]
          refine (callP (hc1) (by simp)).mono ?_
          rintro r H' ⟨rfl, rfl⟩
          simp -implicitDefEqProofs -dsimp [show ¬ (16 : Int) < t.attrs.length by omega, show ¬ (1000 : Int) < t.rows.length by omega]
          refine (callP (hc2) (by simp)).mono ?_
          rintro r H' ⟨rfl, rfl⟩
          simp -implicitDefEqProofs -dsimp []
        · rw [h4] at hc2
          have hE : rowsErr t.attrs.length 0 t.rows = validT t := by simp [validT, h1, h2, h3, h4]
          obtain ⟨E, hEe⟩ : ∃ E, E = validT t := ⟨_, rfl⟩
          rw [← hEe] at hE ⊢
          refine conP_of_conH (conH_of_W tok Tryz.func84 rfl rfl ?_)
          refine W_x tok mixed ?_
          simp -implicitDefEqProofs -dsimp [Tryz.f84, List.replicate, encTb, LR, LS]
          refine (callP (hc1) (by simp)).mono ?_
          rintro r H' ⟨rfl, rfl⟩
          simp -implicitDefEqProofs -dsimp [show ¬ (16 : Int) < t.attrs.length by omega, show ¬ (1000 : Int) < t.rows.length by omega]
          refine (callP (hc2) (by simp)).mono ?_
          rintro r H' ⟨rfl, rfl⟩
          simp -implicitDefEqProofs -dsimp []
          refine lw_of (W_loopV [false, false, true, true, true, true, false, false, false, false, false, false, false, false, false, false, false, false, false, false, false, false, false, false, true, true, true, true, true, true, true, true, true, true, true, true, true, true, true, true, true, true, true, true, true, true, true, true, true, true, true, true, true] (σ := Nat × Int) (fun p => p.1 ≤ t.rows.length ∧ rowsErr t.attrs.length p.2 (t.rows.drop p.1) = E) (fun p => t.rows.length - p.1) (fun p => [(4, .int .i64 p.1), (3, .int .i64 p.2)]) (fun _ => [B.cells [.str t.name, LS f t.attrs, LR g t.rows]]) (0, 0) ⟨by simp, hE⟩ (by simp) (by simp [LS, LR]) (by simp) ?_)
          rintro ⟨i, last⟩ ⟨hi, hx⟩ N Q hN hQ
          simp only at hi hx hN
          by_cases hb : i < t.rows.length
          · rw [List.drop_eq_getElem_cons hb] at hx
            simp only [rowsErr] at hx
            by_cases h5 : t.rows[i].id ≤ last
            · rw [if_pos h5] at hx
              refine W_x tok mixed ?_
              simp -implicitDefEqProofs -dsimp [hb, LS, LR, encRw, h5, LV]
              refine hQ _ _ _ ?_
              simp -implicitDefEqProofs -dsimp []
              exact hx
            · rw [if_neg h5] at hx
              by_cases h6 : t.rows[i].vals.length = t.attrs.length
              · rw [if_neg (fun h => h h6)] at hx
                have hc3 := valids01 t.rows[i].vals false (by omega)
                cases h7 : t.rows[i].vals.all validV
                · rw [h7] at hc3 hx
                  refine W_x tok mixed ?_
                  simp -implicitDefEqProofs -dsimp [hb, LS, LR, encRw, h5, LV, h6]
                  simp only [LV] at hc3
                  refine (callP (hc3) (by simp)).mono ?_
                  rintro r H' ⟨rfl, rfl⟩
                  simp -implicitDefEqProofs -dsimp []
                  refine hQ _ _ _ ?_
                  simp -implicitDefEqProofs -dsimp []
                  simpa using hx
                · rw [h7, if_pos rfl] at hx
                  rw [h7] at hc3
                  refine W_x tok mixed ?_
                  simp -implicitDefEqProofs -dsimp [hb, LS, LR, encRw, h5, LV, h6]
                  simp only [LV] at hc3
                  refine (callP (hc3) (by simp)).mono ?_
                  rintro r H' ⟨rfl, rfl⟩
                  simp -implicitDefEqProofs -dsimp [wrapS i (by omega)]
                  refine hN (i + 1, t.rows[i].id) _ _ ⟨by simp; omega, hx⟩ (by omega) ?_ ⟨[B.cells [.int .i64 t.rows[i].id, LV false t.rows[i].vals]], ?_⟩ ?_ ?_ <;> simp [or_imp, forall_and, L1, encI, LS, LR, LV]
              · rw [if_pos h6] at hx
                refine W_x tok mixed ?_
                simp -implicitDefEqProofs -dsimp [hb, LS, LR, encRw, h5, LV, show ¬ (t.rows[i].vals.length : Int) = t.attrs.length by omega]
                refine hQ _ _ _ ?_
                simp -implicitDefEqProofs -dsimp []
                exact hx
          · rw [List.drop_of_length_le (by omega)] at hx
            refine W_x tok mixed ?_
            simp -implicitDefEqProofs -dsimp [hb, LS, LR]
            refine hQ _ _ _ ?_
            simp -implicitDefEqProofs -dsimp []
            exact hx
set_option maxHeartbeats 32000000 in
theorem tableValid (t : Tb) (f g : Bool) (h : TbOk t) : ConP Tryz.prog 72 [encTb f g t] fun r => r = .int .i64 (validT t) := by
  obtain ⟨hn, ha, hr, hs⟩ := h
  have hc1 := isName_con t.name hn
  cases h1 : nameB t.name
  · rw [h1] at hc1
    rw [show validT t = 1 by simp [validT, h1]]
    refine conP_of_conH (conH_of_W tok Tryz.func72 rfl rfl ?_)
    refine W_x tok mixed ?_
    simp -implicitDefEqProofs -dsimp [Tryz.f72, List.replicate, encTb, LR, LS]
    refine (callP (hc1) (by simp)).mono ?_
    rintro r H' ⟨rfl, rfl⟩
    simp -implicitDefEqProofs -dsimp []
  · rw [h1] at hc1
    by_cases h2 : 16 < t.attrs.length
    · rw [show validT t = 3 by simp [validT, h1, h2]]
      refine conP_of_conH (conH_of_W tok Tryz.func72 rfl rfl ?_)
      refine W_x tok mixed ?_
      simp -implicitDefEqProofs -dsimp [Tryz.f72, List.replicate, encTb, LR, LS]
      refine (callP (hc1) (by simp)).mono ?_
      rintro r H' ⟨rfl, rfl⟩
      simp -implicitDefEqProofs -dsimp [show (16 : Int) < t.attrs.length by omega]
    · by_cases h3 : 1000 < t.rows.length
      · rw [show validT t = 3 by simp [validT, h1, h3]]
        refine conP_of_conH (conH_of_W tok Tryz.func72 rfl rfl ?_)
        refine W_x tok mixed ?_
        simp -implicitDefEqProofs -dsimp [Tryz.f72, List.replicate, encTb, LR, LS]
        refine (callP (hc1) (by simp)).mono ?_
        rintro r H' ⟨rfl, rfl⟩
        simp -implicitDefEqProofs -dsimp [show ¬ (16 : Int) < t.attrs.length by omega, show (1000 : Int) < t.rows.length by omega]
      · have hE : (if namesB t.attrs then rowsErr t.attrs.length 0 t.rows else 1) = validT t := by simp [validT, h1, h2, h3]
        obtain ⟨E, hEe⟩ : ∃ E, E = validT t := ⟨_, rfl⟩
        rw [← hEe] at hE ⊢
        refine conP_of_conH (conH_of_W tok Tryz.func72 rfl rfl ?_)
        refine W_x tok mixed ?_
        simp -implicitDefEqProofs -dsimp [Tryz.f72, List.replicate, encTb, LR, LS]
        refine (callP (hc1) (by simp)).mono ?_
        rintro r H' ⟨rfl, rfl⟩
        simp -implicitDefEqProofs -dsimp [show ¬ (16 : Int) < t.attrs.length by omega, show ¬ (1000 : Int) < t.rows.length by omega]
        refine lw_of (W_loopV [false, false, true, true, true, false, false, false, false, false, false, false, false, false, false, false, false, false, false, false, false, false, false, false, false, true, true, true, true, true, true, true, true, true, true, true, true, true, true, true, true, true] (σ := Nat) (fun i => i ≤ t.attrs.length ∧ (List.range i).all (nmAt t.attrs) = true) (fun i => t.attrs.length - i) (fun i => [(25, .int .i64 i)]) (fun _ => [B.cells [.str t.name, LS f t.attrs, LR g t.rows]]) 0 ⟨by omega, rfl⟩ (by simp) (by simp [LS, LR]) (by simp) ?_)
        rintro i ⟨hi, hall⟩ N Q hN hQ
        by_cases hb : i < t.attrs.length
        · have hsi : sAt t.attrs i = t.attrs[i] := by simp [sAt, hb]
          have hok : nmAt t.attrs i = (nameB t.attrs[i] && !memS (t.attrs.take i) t.attrs[i]) := by unfold nmAt; rw [hsi]
          have hd1 := isName_con t.attrs[i] (hs _ (List.getElem_mem hb))
          have hd2 := containsS (t.attrs.take i) t.attrs[i] (f && i == t.attrs.length) (by simp; omega)
          simp only [LS, List.map_take] at hd2
          cases h5 : nameB t.attrs[i]
          · rw [h5, Bool.false_and] at hok
            rw [h5] at hd1
            rw [show namesB t.attrs = false from allno hb hok] at hE
            refine W_x tok mixed ?_
            simp -implicitDefEqProofs -dsimp [hb, LS, LR]
            refine (callP (hd1) (by simp)).mono ?_
            rintro r H' ⟨rfl, rfl⟩
            simp -implicitDefEqProofs -dsimp []
            refine hQ _ _ _ ?_
            simp -implicitDefEqProofs -dsimp []
            simpa using hE
          · rw [h5, Bool.true_and] at hok
            rw [h5] at hd1
            cases h6 : memS (t.attrs.take i) t.attrs[i]
            · rw [h6] at hd2 hok
              refine W_x tok mixed ?_
              simp -implicitDefEqProofs -dsimp [hb, LS, LR]
              refine (callP (hd1) (by simp)).mono ?_
              rintro r H' ⟨rfl, rfl⟩
              simp -implicitDefEqProofs -dsimp [show i ≤ t.attrs.length by omega]
              refine (callP (hd2) (by simp)).mono ?_
              rintro r H' ⟨rfl, rfl⟩
              simp -implicitDefEqProofs -dsimp [wrapS i (by omega)]
              refine hN (i + 1) _ _ ⟨by omega, all_succ hall (by rw [hok]; rfl)⟩ (by omega) ?_ ⟨[], ?_⟩ ?_ ?_ <;> simp [or_imp, forall_and, L1, encI, LS, LR]
            · rw [h6] at hd2 hok
              rw [show namesB t.attrs = false from allno hb hok] at hE
              refine W_x tok mixed ?_
              simp -implicitDefEqProofs -dsimp [hb, LS, LR]
              refine (callP (hd1) (by simp)).mono ?_
              rintro r H' ⟨rfl, rfl⟩
              simp -implicitDefEqProofs -dsimp [show i ≤ t.attrs.length by omega]
              refine (callP (hd2) (by simp)).mono ?_
              rintro r H' ⟨rfl, rfl⟩
              simp -implicitDefEqProofs -dsimp []
              refine hQ _ _ _ ?_
              simp -implicitDefEqProofs -dsimp []
              simpa using hE
        · obtain rfl : i = t.attrs.length := by omega
          rw [show namesB t.attrs = true from hall, if_pos rfl] at hE
          refine W_x tok mixed ?_
          simp -implicitDefEqProofs -dsimp [hb, LS, LR]
          refine hQ _ _ _ ?_
          simp -implicitDefEqProofs -dsimp [LS, LR]
          refine lw_of (W_loopV [false, false, true, false, false, true, false, true, false, false, false, false, false, false, false, false, false, false, false, false, false, false, false, false, false, false, false, false, false, false, false, false, false, false, false, false, false, false, false, false, false, false, false, false, false, true, true, true, true, true, true, true, true, true, true, true, true, true, true, true, true, true, true, true, true, true, true, true, true, true] (σ := Nat × Int) (fun p => p.1 ≤ t.rows.length ∧ rowsErr t.attrs.length p.2 (t.rows.drop p.1) = E) (fun p => t.rows.length - p.1) (fun p => [(45, .int .i64 p.1), (5, .int .i64 p.2)]) (fun _ => [B.cells [.str t.name, LS f t.attrs, LR g t.rows]]) (0, 0) ⟨by simp, hE⟩ (by simp) (by simp [LS, LR]) (by simp) ?_)
          rintro ⟨j, last⟩ ⟨hj, hx⟩ N2 Q2 hN2 hQ2
          simp only at hj hx hN2
          by_cases hjb : j < t.rows.length
          · rw [List.drop_eq_getElem_cons hjb] at hx
            simp only [rowsErr] at hx
            by_cases h5 : t.rows[j].id ≤ last
            · rw [if_pos h5] at hx
              refine W_x tok mixed ?_
              simp -implicitDefEqProofs -dsimp [hjb, LS, LR, encRw, h5, LV]
              refine hQ2 _ _ _ ?_
              simp -implicitDefEqProofs -dsimp []
              exact hx
            · rw [if_neg h5] at hx
              by_cases h6 : t.rows[j].vals.length = t.attrs.length
              · rw [if_neg (fun h => h h6)] at hx
                have hc3 := validVals t.rows[j].vals false (by omega)
                simp only [LV] at hc3
                cases h7 : t.rows[j].vals.all validV
                · rw [h7] at hc3 hx
                  refine W_x tok mixed ?_
                  simp -implicitDefEqProofs -dsimp [hjb, LS, LR, encRw, h5, LV, h6]
                  refine (callP (hc3) (by simp)).mono ?_
                  rintro r H' ⟨rfl, rfl⟩
                  simp -implicitDefEqProofs -dsimp []
                  refine hQ2 _ _ _ ?_
                  simp -implicitDefEqProofs -dsimp []
                  simpa using hx
                · rw [h7, if_pos rfl] at hx
                  rw [h7] at hc3
                  refine W_x tok mixed ?_
                  simp -implicitDefEqProofs -dsimp [hjb, LS, LR, encRw, h5, LV, h6]
                  refine (callP (hc3) (by simp)).mono ?_
                  rintro r H' ⟨rfl, rfl⟩
                  simp -implicitDefEqProofs -dsimp [wrapS j (by omega)]
                  refine hN2 (j + 1, t.rows[j].id) _ _ ⟨by simp; omega, hx⟩ (by omega) ?_ ⟨[B.cells [.int .i64 t.rows[j].id, LV false t.rows[j].vals]], ?_⟩ ?_ ?_ <;> simp [or_imp, forall_and, L1, encI, LS, LR, LV]
              · rw [if_pos h6] at hx
                refine W_x tok mixed ?_
                simp -implicitDefEqProofs -dsimp [hjb, LS, LR, encRw, h5, LV, show ¬ (t.rows[j].vals.length : Int) = t.attrs.length by omega]
                refine hQ2 _ _ _ ?_
                simp -implicitDefEqProofs -dsimp []
                exact hx
          · rw [List.drop_of_length_le (by omega)] at hx
            refine W_x tok mixed ?_
            simp -implicitDefEqProofs -dsimp [hjb, LS, LR]
            refine hQ2 _ _ _ ?_
            simp -implicitDefEqProofs -dsimp []
            exact hx
end Go.Proofs.YteijbpppalhihaaGreat
