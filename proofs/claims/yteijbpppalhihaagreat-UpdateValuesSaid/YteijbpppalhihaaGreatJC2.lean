/- JC2: T4, T5, Wk, T6, joined by chunk.py. -/
import Derived.Test.YteijbpppalhihaaGreatJC1
set_option linter.unusedVariables false
set_option linter.unusedSimpArgs false
section
/- T4: valid tables. Expanded by pp.py. -/
set_option linter.unusedSimpArgs false
set_option maxRecDepth 100000
namespace Go.Proofs.YteijbpppalhihaaGreat
open Go Go.AM
structure Rw where
  id : Int
  vals : List Vl
structure Tb where
  name : ByteArray
  attrs : List ByteArray
  rows : List Rw
def encRw (r : Rw) : V := .agg [.int .i64 r.id, LV false r.vals]
def LR (g : Bool) (rs : List Rw) : V := .lst 2 g (rs.map encRw)
def encTb (f g : Bool) (t : Tb) : V := .agg [.str t.name, LS f t.attrs, LR g t.rows]
@[simp] theorem encRw_pure (r : Rw) : AM.Pure (encRw r) := by simp [encRw]
@[simp] theorem LR_pure (g : Bool) (rs : List Rw) : AM.Pure (LR g rs) := by simp [LR]
@[simp] theorem encTb_pure (f g : Bool) (t : Tb) : AM.Pure (encTb f g t) := by simp [encTb]
@[simp] theorem encRw_oneV (r : Rw) : oneV (encRw r) = true := rfl
def rowsErr (n : Nat) : Int → List Rw → Int
  | _, [] => 0
  | last, r :: rs => if r.id ≤ last then 1 else if r.vals.length ≠ n then 6 else if r.vals.all validV then rowsErr n r.id rs else 1
def validT (t : Tb) : Int := if nameB t.name then (if 16 < t.attrs.length ∨ 1000 < t.rows.length then 3 else if namesB t.attrs then rowsErr t.attrs.length 0 t.rows else 1) else 1
/-- What is asked of a table that is an argument. -/
structure TbOk (t : Tb) : Prop where
  name : t.name.size ≤ maxLen
  attrs : t.attrs.length ≤ 1000000
  rows : t.rows.length ≤ 1000000
  strs : ∀ s ∈ t.attrs, s.size ≤ maxLen
set_option maxHeartbeats 32000000 in
theorem valid03 (t : Tb) (f g : Bool) (h : TbOk t) : ConP Tryz.prog 84 [encTb f g t] fun r => r = .int .i64 (validT t) := by
  obtain ⟨hn, ha, hr, hs⟩ := h
  have hc1 := name03_con t.name hn
  cases h1 : nameB t.name
  · rw [h1] at hc1
    rw [show validT t = 1 by simp [validT, h1]]
    refine conP_of_conH (conH_of_W tok Tryz.func84 rfl rfl ?_)
    refine W_x tok mixed ?_
    simp -implicitDefEqProofs -dsimp [Tryz.f84, List.replicate, encTb, LR, LS]
    refine (callP (hc1) (by simp)).mono ?_
    rintro r H' ⟨rfl, rfl⟩
    simp -implicitDefEqProofs -dsimp []
  · rw [h1] at hc1
    by_cases h2 : 16 < t.attrs.length
    · rw [show validT t = 3 by simp [validT, h1, h2]]
      refine conP_of_conH (conH_of_W tok Tryz.func84 rfl rfl ?_)
      refine W_x tok mixed ?_
      simp -implicitDefEqProofs -dsimp [Tryz.f84, List.replicate, encTb, LR, LS]
      refine (callP (hc1) (by simp)).mono ?_
      rintro r H' ⟨rfl, rfl⟩
      simp -implicitDefEqProofs -dsimp [show (16 : Int) < t.attrs.length by omega]
    · by_cases h3 : 1000 < t.rows.length
      · rw [show validT t = 3 by simp [validT, h1, h3]]
        refine conP_of_conH (conH_of_W tok Tryz.func84 rfl rfl ?_)
        refine W_x tok mixed ?_
        simp -implicitDefEqProofs -dsimp [Tryz.f84, List.replicate, encTb, LR, LS]
        refine (callP (hc1) (by simp)).mono ?_
        rintro r H' ⟨rfl, rfl⟩
        simp -implicitDefEqProofs -dsimp [show ¬ (16 : Int) < t.attrs.length by omega, show (1000 : Int) < t.rows.length by omega]
      · have hc2 := names03 t.attrs f ha hs
        simp only [LS] at hc2
        cases h4 : namesB t.attrs
        · rw [h4] at hc2
          rw [show validT t = 1 by simp [validT, h1, h2, h3, h4]]
          refine conP_of_conH (conH_of_W tok Tryz.func84 rfl rfl ?_)
          refine W_x tok mixed ?_
          simp -implicitDefEqProofs -dsimp [Tryz.f84, List.replicate, encTb, LR, LS]
          refine (callP (hc1) (by simp)).mono ?_
          rintro r H' ⟨rfl, rfl⟩
          simp -implicitDefEqProofs -dsimp [show ¬ (16 : Int) < t.attrs.length by omega, show ¬ (1000 : Int) < t.rows.length by omega]
          refine (callP (hc2) (by simp)).mono ?_
          rintro r H' ⟨rfl, rfl⟩
          simp -implicitDefEqProofs -dsimp []
        · rw [h4] at hc2
          have hE : rowsErr t.attrs.length 0 t.rows = validT t := by simp [validT, h1, h2, h3, h4]
          obtain ⟨E, hEe⟩ : ∃ E, E = validT t := ⟨_, rfl⟩
          rw [← hEe] at hE ⊢
          refine conP_of_conH (conH_of_W tok Tryz.func84 rfl rfl ?_)
          refine W_x tok mixed ?_
          simp -implicitDefEqProofs -dsimp [Tryz.f84, List.replicate, encTb, LR, LS]
          refine (callP (hc1) (by simp)).mono ?_
          rintro r H' ⟨rfl, rfl⟩
          simp -implicitDefEqProofs -dsimp [show ¬ (16 : Int) < t.attrs.length by omega, show ¬ (1000 : Int) < t.rows.length by omega]
          refine (callP (hc2) (by simp)).mono ?_
          rintro r H' ⟨rfl, rfl⟩
          simp -implicitDefEqProofs -dsimp []
          refine lw_of (W_loopV [false, false, true, true, true, true, false, false, false, false, false, false, false, false, false, false, false, false, false, false, false, false, false, false, true, true, true, true, true, true, true, true, true, true, true, true, true, true, true, true, true, true, true, true, true, true, true, true, true, true, true, true, true] (σ := Nat × Int) (fun p => p.1 ≤ t.rows.length ∧ rowsErr t.attrs.length p.2 (t.rows.drop p.1) = E) (fun p => t.rows.length - p.1) (fun p => [(4, .int .i64 p.1), (3, .int .i64 p.2)]) (fun _ => [B.cells [.str t.name, LS f t.attrs, LR g t.rows]]) (0, 0) ⟨by simp, hE⟩ (by simp) (by simp [LS, LR]) (by simp) ?_)
          rintro ⟨i, last⟩ ⟨hi, hx⟩ N Q hN hQ
          simp only at hi hx hN
          by_cases hb : i < t.rows.length
          · rw [List.drop_eq_getElem_cons hb] at hx
            simp only [rowsErr] at hx
            by_cases h5 : t.rows[i].id ≤ last
            · rw [if_pos h5] at hx
              refine W_x tok mixed ?_
              simp -implicitDefEqProofs -dsimp [hb, LS, LR, encRw, h5, LV]
              refine hQ _ _ _ ?_
              simp -implicitDefEqProofs -dsimp []
              exact hx
            · rw [if_neg h5] at hx
              by_cases h6 : t.rows[i].vals.length = t.attrs.length
              · rw [if_neg (fun h => h h6)] at hx
                have hc3 := valids01 t.rows[i].vals false (by omega)
                cases h7 : t.rows[i].vals.all validV
                · rw [h7] at hc3 hx
                  refine W_x tok mixed ?_
                  simp -implicitDefEqProofs -dsimp [hb, LS, LR, encRw, h5, LV, h6]
                  simp only [LV] at hc3
                  refine (callP (hc3) (by simp)).mono ?_
                  rintro r H' ⟨rfl, rfl⟩
                  simp -implicitDefEqProofs -dsimp []
                  refine hQ _ _ _ ?_
                  simp -implicitDefEqProofs -dsimp []
                  simpa using hx
                · rw [h7, if_pos rfl] at hx
                  rw [h7] at hc3
                  refine W_x tok mixed ?_
                  simp -implicitDefEqProofs -dsimp [hb, LS, LR, encRw, h5, LV, h6]
                  simp only [LV] at hc3
                  refine (callP (hc3) (by simp)).mono ?_
                  rintro r H' ⟨rfl, rfl⟩
                  simp -implicitDefEqProofs -dsimp [wrapS i (by omega)]
                  refine hN (i + 1, t.rows[i].id) _ _ ⟨by simp; omega, hx⟩ (by omega) ?_ ⟨[B.cells [.int .i64 t.rows[i].id, LV false t.rows[i].vals]], ?_⟩ ?_ ?_ <;> simp [or_imp, forall_and, L1, encI, LS, LR, LV]
              · rw [if_pos h6] at hx
                refine W_x tok mixed ?_
                simp -implicitDefEqProofs -dsimp [hb, LS, LR, encRw, h5, LV, show ¬ (t.rows[i].vals.length : Int) = t.attrs.length by omega]
                refine hQ _ _ _ ?_
                simp -implicitDefEqProofs -dsimp []
                exact hx
          · rw [List.drop_of_length_le (by omega)] at hx
            refine W_x tok mixed ?_
            simp -implicitDefEqProofs -dsimp [hb, LS, LR]
            refine hQ _ _ _ ?_
            simp -implicitDefEqProofs -dsimp []
            exact hx
set_option maxHeartbeats 32000000 in
theorem tableValid (t : Tb) (f g : Bool) (h : TbOk t) : ConP Tryz.prog 72 [encTb f g t] fun r => r = .int .i64 (validT t) := by
  obtain ⟨hn, ha, hr, hs⟩ := h
  have hc1 := isName_con t.name hn
  cases h1 : nameB t.name
  · rw [h1] at hc1
    rw [show validT t = 1 by simp [validT, h1]]
    refine conP_of_conH (conH_of_W tok Tryz.func72 rfl rfl ?_)
    refine W_x tok mixed ?_
    simp -implicitDefEqProofs -dsimp [Tryz.f72, List.replicate, encTb, LR, LS]
    refine (callP (hc1) (by simp)).mono ?_
    rintro r H' ⟨rfl, rfl⟩
    simp -implicitDefEqProofs -dsimp []
  · rw [h1] at hc1
    by_cases h2 : 16 < t.attrs.length
    · rw [show validT t = 3 by simp [validT, h1, h2]]
      refine conP_of_conH (conH_of_W tok Tryz.func72 rfl rfl ?_)
      refine W_x tok mixed ?_
      simp -implicitDefEqProofs -dsimp [Tryz.f72, List.replicate, encTb, LR, LS]
      refine (callP (hc1) (by simp)).mono ?_
      rintro r H' ⟨rfl, rfl⟩
      simp -implicitDefEqProofs -dsimp [show (16 : Int) < t.attrs.length by omega]
    · by_cases h3 : 1000 < t.rows.length
      · rw [show validT t = 3 by simp [validT, h1, h3]]
        refine conP_of_conH (conH_of_W tok Tryz.func72 rfl rfl ?_)
        refine W_x tok mixed ?_
        simp -implicitDefEqProofs -dsimp [Tryz.f72, List.replicate, encTb, LR, LS]
        refine (callP (hc1) (by simp)).mono ?_
        rintro r H' ⟨rfl, rfl⟩
        simp -implicitDefEqProofs -dsimp [show ¬ (16 : Int) < t.attrs.length by omega, show (1000 : Int) < t.rows.length by omega]
      · have hE : (if namesB t.attrs then rowsErr t.attrs.length 0 t.rows else 1) = validT t := by simp [validT, h1, h2, h3]
        obtain ⟨E, hEe⟩ : ∃ E, E = validT t := ⟨_, rfl⟩
        rw [← hEe] at hE ⊢
        refine conP_of_conH (conH_of_W tok Tryz.func72 rfl rfl ?_)
        refine W_x tok mixed ?_
        simp -implicitDefEqProofs -dsimp [Tryz.f72, List.replicate, encTb, LR, LS]
        refine (callP (hc1) (by simp)).mono ?_
        rintro r H' ⟨rfl, rfl⟩
        simp -implicitDefEqProofs -dsimp [show ¬ (16 : Int) < t.attrs.length by omega, show ¬ (1000 : Int) < t.rows.length by omega]
        refine lw_of (W_loopV [false, false, true, true, true, false, false, false, false, false, false, false, false, false, false, false, false, false, false, false, false, false, false, false, false, true, true, true, true, true, true, true, true, true, true, true, true, true, true, true, true, true] (σ := Nat) (fun i => i ≤ t.attrs.length ∧ (List.range i).all (nmAt t.attrs) = true) (fun i => t.attrs.length - i) (fun i => [(25, .int .i64 i)]) (fun _ => [B.cells [.str t.name, LS f t.attrs, LR g t.rows]]) 0 ⟨by omega, rfl⟩ (by simp) (by simp [LS, LR]) (by simp) ?_)
        rintro i ⟨hi, hall⟩ N Q hN hQ
        by_cases hb : i < t.attrs.length
        · have hsi : sAt t.attrs i = t.attrs[i] := by simp [sAt, hb]
          have hok : nmAt t.attrs i = (nameB t.attrs[i] && !memS (t.attrs.take i) t.attrs[i]) := by unfold nmAt; rw [hsi]
          have hd1 := isName_con t.attrs[i] (hs _ (List.getElem_mem hb))
          have hd2 := containsS (t.attrs.take i) t.attrs[i] (f && i == t.attrs.length) (by simp; omega)
          simp only [LS, List.map_take] at hd2
          cases h5 : nameB t.attrs[i]
          · rw [h5, Bool.false_and] at hok
            rw [h5] at hd1
            rw [show namesB t.attrs = false from allno hb hok] at hE
            refine W_x tok mixed ?_
            simp -implicitDefEqProofs -dsimp [hb, LS, LR]
            refine (callP (hd1) (by simp)).mono ?_
            rintro r H' ⟨rfl, rfl⟩
            simp -implicitDefEqProofs -dsimp []
            refine hQ _ _ _ ?_
            simp -implicitDefEqProofs -dsimp []
            simpa using hE
          · rw [h5, Bool.true_and] at hok
            rw [h5] at hd1
            cases h6 : memS (t.attrs.take i) t.attrs[i]
            · rw [h6] at hd2 hok
              refine W_x tok mixed ?_
              simp -implicitDefEqProofs -dsimp [hb, LS, LR]
              refine (callP (hd1) (by simp)).mono ?_
              rintro r H' ⟨rfl, rfl⟩
              simp -implicitDefEqProofs -dsimp [show i ≤ t.attrs.length by omega]
              refine (callP (hd2) (by simp)).mono ?_
              rintro r H' ⟨rfl, rfl⟩
              simp -implicitDefEqProofs -dsimp [wrapS i (by omega)]
              refine hN (i + 1) _ _ ⟨by omega, all_succ hall (by rw [hok]; rfl)⟩ (by omega) ?_ ⟨[], ?_⟩ ?_ ?_ <;> simp [or_imp, forall_and, L1, encI, LS, LR]
            · rw [h6] at hd2 hok
              rw [show namesB t.attrs = false from allno hb hok] at hE
              refine W_x tok mixed ?_
              simp -implicitDefEqProofs -dsimp [hb, LS, LR]
              refine (callP (hd1) (by simp)).mono ?_
              rintro r H' ⟨rfl, rfl⟩
              simp -implicitDefEqProofs -dsimp [show i ≤ t.attrs.length by omega]
              refine (callP (hd2) (by simp)).mono ?_
              rintro r H' ⟨rfl, rfl⟩
              simp -implicitDefEqProofs -dsimp []
              refine hQ _ _ _ ?_
              simp -implicitDefEqProofs -dsimp []
              simpa using hE
        · obtain rfl : i = t.attrs.length := by omega
          rw [show namesB t.attrs = true from hall, if_pos rfl] at hE
          refine W_x tok mixed ?_
          simp -implicitDefEqProofs -dsimp [hb, LS, LR]
          refine hQ _ _ _ ?_
          simp -implicitDefEqProofs -dsimp [LS, LR]
          refine lw_of (W_loopV [false, false, true, false, false, true, false, true, false, false, false, false, false, false, false, false, false, false, false, false, false, false, false, false, false, false, false, false, false, false, false, false, false, false, false, false, false, false, false, false, false, false, false, false, false, true, true, true, true, true, true, true, true, true, true, true, true, true, true, true, true, true, true, true, true, true, true, true, true, true] (σ := Nat × Int) (fun p => p.1 ≤ t.rows.length ∧ rowsErr t.attrs.length p.2 (t.rows.drop p.1) = E) (fun p => t.rows.length - p.1) (fun p => [(45, .int .i64 p.1), (5, .int .i64 p.2)]) (fun _ => [B.cells [.str t.name, LS f t.attrs, LR g t.rows]]) (0, 0) ⟨by simp, hE⟩ (by simp) (by simp [LS, LR]) (by simp) ?_)
          rintro ⟨j, last⟩ ⟨hj, hx⟩ N2 Q2 hN2 hQ2
          simp only at hj hx hN2
          by_cases hjb : j < t.rows.length
          · rw [List.drop_eq_getElem_cons hjb] at hx
            simp only [rowsErr] at hx
            by_cases h5 : t.rows[j].id ≤ last
            · rw [if_pos h5] at hx
              refine W_x tok mixed ?_
              simp -implicitDefEqProofs -dsimp [hjb, LS, LR, encRw, h5, LV]
              refine hQ2 _ _ _ ?_
              simp -implicitDefEqProofs -dsimp []
              exact hx
            · rw [if_neg h5] at hx
              by_cases h6 : t.rows[j].vals.length = t.attrs.length
              · rw [if_neg (fun h => h h6)] at hx
                have hc3 := validVals t.rows[j].vals false (by omega)
                simp only [LV] at hc3
                cases h7 : t.rows[j].vals.all validV
                · rw [h7] at hc3 hx
                  refine W_x tok mixed ?_
                  simp -implicitDefEqProofs -dsimp [hjb, LS, LR, encRw, h5, LV, h6]
                  refine (callP (hc3) (by simp)).mono ?_
                  rintro r H' ⟨rfl, rfl⟩
                  simp -implicitDefEqProofs -dsimp []
                  refine hQ2 _ _ _ ?_
                  simp -implicitDefEqProofs -dsimp []
                  simpa using hx
                · rw [h7, if_pos rfl] at hx
                  rw [h7] at hc3
                  refine W_x tok mixed ?_
                  simp -implicitDefEqProofs -dsimp [hjb, LS, LR, encRw, h5, LV, h6]
                  refine (callP (hc3) (by simp)).mono ?_
                  rintro r H' ⟨rfl, rfl⟩
                  simp -implicitDefEqProofs -dsimp [wrapS j (by omega)]
                  refine hN2 (j + 1, t.rows[j].id) _ _ ⟨by simp; omega, hx⟩ (by omega) ?_ ⟨[B.cells [.int .i64 t.rows[j].id, LV false t.rows[j].vals]], ?_⟩ ?_ ?_ <;> simp [or_imp, forall_and, L1, encI, LS, LR, LV]
              · rw [if_pos h6] at hx
                refine W_x tok mixed ?_
                simp -implicitDefEqProofs -dsimp [hjb, LS, LR, encRw, h5, LV, show ¬ (t.rows[j].vals.length : Int) = t.attrs.length by omega]
                refine hQ2 _ _ _ ?_
                simp -implicitDefEqProofs -dsimp []
                exact hx
          · rw [List.drop_of_length_le (by omega)] at hx
            refine W_x tok mixed ?_
            simp -implicitDefEqProofs -dsimp [hjb, LS, LR]
            refine hQ2 _ _ _ ?_
            simp -implicitDefEqProofs -dsimp []
            exact hx
end Go.Proofs.YteijbpppalhihaaGreat
end

section
/- T5: values of codes. Expanded by pp.py. -/
set_option linter.unusedSimpArgs false
set_option maxRecDepth 100000
namespace Go.Proofs.YteijbpppalhihaaGreat
open Go Go.AM
/-- The value of a code. -/
def ofV (m : Int) : Vl :=
  if m = 0 then ⟨1, 0, ByteArray.empty⟩ else
  if m = 1 then ⟨1, 1, ByteArray.empty⟩ else
  if m = 2 then ⟨1, 2, ByteArray.empty⟩ else
  if m = 3 then ⟨0, 0, ByteArray.empty⟩ else
  if m = 4 then ⟨2, 0, ⟨#[97]⟩⟩ else
  if m = 5 then ⟨2, 0, ⟨#[98]⟩⟩ else
  if m = 6 then ⟨2, 0, ByteArray.empty⟩ else
  if m = 7 then ⟨3, 1, ByteArray.empty⟩ else
  if m = 8 then ⟨1, -1, ByteArray.empty⟩ else
  if m = 9 then ⟨2, 0, ⟨#[97, 98]⟩⟩ else
  if m = 10 then ⟨3, 2, ByteArray.empty⟩ else
  ⟨1, 7, ByteArray.empty⟩
def ofC (c : Int) : Vl := ofV (c.tmod 12)
set_option maxHeartbeats 16000000 in
theorem of01 (c : Int) : ConP Tryz.prog 41 [.int .u8 c] fun r => r = encV (ofC c) := by
  unfold ofC
  obtain ⟨m, hm⟩ : ∃ m, m = c.tmod 12 := ⟨_, rfl⟩
  rw [← hm]
  have hm := hm.symm
  by_cases h0 : m = 0
  · have e : ofV m = ofV 0 := by rw [h0]
    rw [e]
    refine conP_of_conH (conH_of_W tok Tryz.func41 rfl rfl ?_)
    refine W_x tok mixed ?_
    simp -implicitDefEqProofs -dsimp [Tryz.f41, List.replicate, hm, h0]
    rfl
  by_cases h1 : m = 1
  · have e : ofV m = ofV 1 := by rw [h1]
    rw [e]
    refine conP_of_conH (conH_of_W tok Tryz.func41 rfl rfl ?_)
    refine W_x tok mixed ?_
    simp -implicitDefEqProofs -dsimp [Tryz.f41, List.replicate, hm, h1]
    rfl
  by_cases h2 : m = 2
  · have e : ofV m = ofV 2 := by rw [h2]
    rw [e]
    refine conP_of_conH (conH_of_W tok Tryz.func41 rfl rfl ?_)
    refine W_x tok mixed ?_
    simp -implicitDefEqProofs -dsimp [Tryz.f41, List.replicate, hm, h2]
    rfl
  by_cases h3 : m = 3
  · have e : ofV m = ofV 3 := by rw [h3]
    rw [e]
    refine conP_of_conH (conH_of_W tok Tryz.func41 rfl rfl ?_)
    refine W_x tok mixed ?_
    simp -implicitDefEqProofs -dsimp [Tryz.f41, List.replicate, hm, h3]
    rfl
  by_cases h4 : m = 4
  · have e : ofV m = ofV 4 := by rw [h4]
    rw [e]
    refine conP_of_conH (conH_of_W tok Tryz.func41 rfl rfl ?_)
    refine W_x tok mixed ?_
    simp -implicitDefEqProofs -dsimp [Tryz.f41, List.replicate, hm, h4]
    rfl
  by_cases h5 : m = 5
  · have e : ofV m = ofV 5 := by rw [h5]
    rw [e]
    refine conP_of_conH (conH_of_W tok Tryz.func41 rfl rfl ?_)
    refine W_x tok mixed ?_
    simp -implicitDefEqProofs -dsimp [Tryz.f41, List.replicate, hm, h5]
    rfl
  by_cases h6 : m = 6
  · have e : ofV m = ofV 6 := by rw [h6]
    rw [e]
    refine conP_of_conH (conH_of_W tok Tryz.func41 rfl rfl ?_)
    refine W_x tok mixed ?_
    simp -implicitDefEqProofs -dsimp [Tryz.f41, List.replicate, hm, h6]
    rfl
  by_cases h7 : m = 7
  · have e : ofV m = ofV 7 := by rw [h7]
    rw [e]
    refine conP_of_conH (conH_of_W tok Tryz.func41 rfl rfl ?_)
    refine W_x tok mixed ?_
    simp -implicitDefEqProofs -dsimp [Tryz.f41, List.replicate, hm, h7]
    rfl
  by_cases h8 : m = 8
  · have e : ofV m = ofV 8 := by rw [h8]
    rw [e]
    refine conP_of_conH (conH_of_W tok Tryz.func41 rfl rfl ?_)
    refine W_x tok mixed ?_
    simp -implicitDefEqProofs -dsimp [Tryz.f41, List.replicate, hm, h8]
    rfl
  by_cases h9 : m = 9
  · have e : ofV m = ofV 9 := by rw [h9]
    rw [e]
    refine conP_of_conH (conH_of_W tok Tryz.func41 rfl rfl ?_)
    refine W_x tok mixed ?_
    simp -implicitDefEqProofs -dsimp [Tryz.f41, List.replicate, hm, h9]
    rfl
  by_cases h10 : m = 10
  · have e : ofV m = ofV 10 := by rw [h10]
    rw [e]
    refine conP_of_conH (conH_of_W tok Tryz.func41 rfl rfl ?_)
    refine W_x tok mixed ?_
    simp -implicitDefEqProofs -dsimp [Tryz.f41, List.replicate, hm, h10]
    rfl
  have e : ofV m = ⟨1, 7, ByteArray.empty⟩ := by unfold ofV; simp [h0, h1, h2, h3, h4, h5, h6, h7, h8, h9, h10]
  rw [e]
  refine conP_of_conH (conH_of_W tok Tryz.func41 rfl rfl ?_)
  refine W_x tok mixed ?_
  simp -implicitDefEqProofs -dsimp [Tryz.f41, List.replicate, hm, h0, h1, h2, h3, h4, h5, h6, h7, h8, h9, h10]
  rfl
end Go.Proofs.YteijbpppalhihaaGreat
end

section
/- Wk: values may be weakened: a full list to any, a nil list to an empty one. -/
namespace Go.Proofs.YteijbpppalhihaaGreat
open Go Go.AM
def lfB : V → V → Prop
  | x, y => y = x ∨ (∃ z xs, x = .lst z true xs ∧ y = .lst z false xs) ∨ (∃ z, x = .nilS ∧ y = .lst z false [])
def LfL : List V → List V → Prop
  | [], [] => True
  | x :: xs, y :: ys => lfB x y ∧ LfL xs ys
  | _, _ => False
theorem LfL.len : ∀ {xs ys : List V}, LfL xs ys → xs.length = ys.length
  | [], [], _ => rfl
  | [], _ :: _, h => h.elim
  | _ :: _, [], h => h.elim
  | _ :: _, _ :: _, h => by simp [h.2.len]
theorem LfL.at_ : ∀ {xs ys : List V}, LfL xs ys → ∀ (i : Nat) x y, xs[i]? = some x → ys[i]? = some y → lfB x y
  | [], _, _, i, x, y, h, _ => by simp at h
  | _ :: _, [], h, _, _, _, _, _ => h.elim
  | a :: xs, b :: ys, h, 0, x, y, h1, h2 => by simp at h1 h2; subst h1; subst h2; exact h.1
  | a :: xs, b :: ys, h, i + 1, x, y, h1, h2 => h.2.at_ i x y (by simpa using h1) (by simpa using h2)
theorem lf_rel {s : AM.St} {x y : V} {u : Value} (h : Rel s x u) (hl : lfB x y) : Rel s y u := by
  rcases hl with rfl | ⟨z, xs, rfl, rfl⟩ | ⟨z, rfl, rfl⟩
  · exact h
  · cases h with
    | lst _ _ _ A cap b off u hcap hfull hA hz hcell hrel => exact .lst z false xs A cap b off u hcap (fun h => by cases h) hA hz hcell hrel
  · cases h
    exact rel_empty z false none 0 (fun _ => rfl)
theorem lf_one {x y : V} (hl : lfB x y) (h : x.one = true) : y.one = true := by
  rcases hl with rfl | ⟨z, xs, rfl, rfl⟩ | ⟨z, rfl, rfl⟩
  · exact h
  · rfl
  · rfl
/-- The slots of the frame and the cells of block k0 are weakened. -/
theorem W_lf {P : Program} (k0 : Nat) (fr' cs' : List V) {c : Code} {Q : Exit → List V → List B → Prop} {fr : List V} {H : List B} {cs : List V} (hk : H[k0]? = some (.cells cs)) (ho : LfL fr fr') (hc : LfL cs cs')
    (h : W P c Q fr' (H.set k0 (.cells cs'))) : W P c Q fr H := by
  intro s a hA hg hf hd
  obtain ⟨rfl, hZ⟩ := hA
  have hst := setB_step (w := s.w) (bl' := .cells cs') hg hk (lvC hk) trivial rfl rfl rfl (Nat.le_refl _) (fun _ _ _ => rfl)
  have hl := ho.len
  have hlc := hc.len
  have hgd : AM.Good (s.setB s.w k0 (.cells cs')) := by
    refine setB_good hg hk (lvC hk) trivial rfl rfl rfl (Nat.le_refl _) (fun _ _ _ => rfl) (fun hst => ?_)
    obtain ⟨h1, vs, t, h2, h3, h4⟩ := hg.blk k0 _ hk
    refine ⟨fun d hd => ?_, vs, t, h2, by omega, fun i d u hd hu => ?_⟩
    · obtain ⟨i, hi⟩ := List.mem_iff_getElem?.1 hd
      have hx : cs[i]? = some (cs[i]'(by have := getElem?_lt hi; omega)) := List.getElem?_eq_getElem _
      exact lf_one (hc.at_ i _ d hx hi) (h1 _ (List.getElem_mem _))
    · have hx : cs[i]? = some (cs[i]'(by have := getElem?_lt hd; omega)) := List.getElem?_eq_getElem _
      exact (lf_rel (h4 i _ u hx hu) (hc.at_ i _ d hx hd)).step hst
  have := h (s.setB s.w k0 (.cells cs')) a ⟨rfl, hZ.step hst⟩ hgd ⟨by rw [hf.len, hl], fun i v u hv hu => by
    have hx : fr[i]? = some (fr[i]'(by have := getElem?_lt hv; omega)) := List.getElem?_eq_getElem _
    exact (lf_rel (hf.rel i _ u hx hu) (ho.at_ i _ v hx hv)).step hst⟩ hd
  exact wp_mono this fun _ _ _ hl => leaves_trans hst hl
theorem lfB_refl (x : V) : lfB x x := .inl rfl
theorem lfL_refl : ∀ xs : List V, LfL xs xs
  | [] => trivial
  | x :: xs => ⟨lfB_refl x, lfL_refl xs⟩
end Go.Proofs.YteijbpppalhihaaGreat
end

section
/- T6: tables of recipes. Expanded by pp.py. -/
set_option linter.unusedSimpArgs false
set_option maxRecDepth 100000
namespace Go.Proofs.YteijbpppalhihaaGreat
open Go Go.AM
structure Rcp where
  a : Int
  gap : Int
  rows : List (List Int)
def LU (xs : List Int) : V := .lst 1 false (xs.map encU)
def encRcp (f : Bool) (x : Rcp) : V := .agg [.int .u8 x.a, .int .u8 x.gap, .lst 1 f (x.rows.map LU)]
@[simp] theorem LU_pure (xs : List Int) : AM.Pure (LU xs) := by simp [LU]
@[simp] theorem encRcp_pure (f : Bool) (x : Rcp) : AM.Pure (encRcp f x) := by simp [encRcp]
def L8 : List ByteArray := [⟨#[97]⟩, ⟨#[98]⟩, ⟨#[99]⟩, ⟨#[100]⟩, ⟨#[101]⟩, ⟨#[102]⟩, ⟨#[103]⟩, ⟨#[104]⟩]
def wVals (cs : List Int) (k : Nat) : List Vl := (List.range k).map fun j => ofC (cs.getD j 0)
def wRow (gap : Int) (cs : List Int) (n i : Nat) : Rw := ⟨1 + (i : Int) * (1 + gap.tmod 3), wVals cs n⟩
def wRows (x : Rcp) (n i : Nat) : List Rw := (List.range i).map fun j => wRow x.gap (x.rows.getD j []) n j
def wideT (x : Rcp) (n : Nat) : Tb := ⟨⟨#[114]⟩, L8.take n, wRows x n x.rows.length⟩
theorem wVals_succ (cs : List Int) (k : Nat) : wVals cs (k + 1) = wVals cs k ++ [ofC (cs.getD k 0)] := by simp [wVals, List.range_succ]
theorem wVals_len (cs : List Int) (k : Nat) : (wVals cs k).length = k := by simp [wVals]
theorem wRows_succ (x : Rcp) (n i : Nat) : wRows x n (i + 1) = wRows x n i ++ [wRow x.gap (x.rows.getD i []) n i] := by simp [wRows, List.range_succ]
theorem wRows_len (x : Rcp) (n i : Nat) : (wRows x n i).length = i := by simp [wRows]
theorem cap32 (n : Nat) (h : n ≤ 1000000000) : n ≤ 9223372036854775806 ∧ (n + 1) * 32 ≤ 140737488355328 := by omega
theorem L8_take (n : Nat) : List.take n [V.str ⟨#[97]⟩, V.str ⟨#[98]⟩, V.str ⟨#[99]⟩, V.str ⟨#[100]⟩, V.str ⟨#[101]⟩, V.str ⟨#[102]⟩, V.str ⟨#[103]⟩, V.str ⟨#[104]⟩] = (L8.take n).map V.str := by rw [List.map_take]; rfl
theorem ownF_refl (k : Nat) : ∀ xs : List V, OwnF k xs xs
  | [] => trivial
  | x :: xs => ⟨.inl rfl, ownF_refl k xs⟩
theorem ownAt_nil (k : Nat) : ∀ (i : Nat) (xs : List V), ownAt k [] i xs = xs
  | _, [] => rfl
  | i, x :: xs => by simp only [ownAt, List.contains_nil, Bool.false_eq_true, if_false, ownAt_nil k (i + 1) xs]
theorem lfL_own (k : Nat) (xs : List V) : OwnF k xs (ownAt k [] 0 xs) := by rw [ownAt_nil]; exact ownF_refl k xs
set_option maxHeartbeats 32000000 in
theorem wide03 (x : Rcp) (n : Nat) (f : Bool) (hn : n ≤ 8) (hr : x.rows.length ≤ 1000000) (hc : ∀ r ∈ x.rows, r.length ≤ 9223372036854775807) (h0 : 0 ≤ x.gap) :
    ConP Tryz.prog 38 [encRcp f x, .int .i64 n] fun r => r = encTb false false (wideT x n) := by
  have hg := Int.tmod_nonneg 3 h0
  have hg2 := Int.tmod_lt_of_pos x.gap (show (0 : Int) < 3 by omega)
  obtain ⟨g, hge⟩ : ∃ g, g = x.gap.tmod 3 := ⟨_, rfl⟩
  rw [← hge] at hg hg2
  have hgs := hge.symm
  have hw1 : IntKind.i64.wrap g = g := wrap64 (by omega) (by omega)
  have hw2 : IntKind.i64.wrap (1 + g) = 1 + g := wrap64 (by omega) (by omega)
  have hl8 : (L8.take n).length = n := by simp [L8]; omega
  have hne : (n = 0 ∧ List.take n (L8.map V.str) = []) ∨ (¬ n = 0 ∧ ¬ List.take n (L8.map V.str) = []) := by
    by_cases hz : n = 0
    · exact .inl ⟨hz, by rw [hz]; rfl⟩
    · refine .inr ⟨hz, fun h => ?_⟩
      have := congrArg List.length h
      rw [← List.map_take, List.length_map, hl8] at this
      exact hz this
  have hlt : (List.take n (L8.map V.str)).length = n := by rw [← List.map_take, List.length_map, hl8]
  have hcp : n ≤ 9223372036854775807 ∧ n * 16 ≤ 140737488355328 := by omega
  rcases hne with ⟨hz, hne⟩ | ⟨hz, hne⟩
  case' inl =>
    refine conP_of_conH (conH_of_W (tok_flag tok (fun t => t == 29)) Tryz.func38 rfl rfl ?_)
    refine W_x (tok_flag tok (fun t => t == 29)) mixed ?_
    simp -implicitDefEqProofs -dsimp [Tryz.f38, List.replicate, encRcp, L8_take, hn, hne, flagT]
  case' inr =>
    refine conP_of_conH (conH_of_W (tok_flag tok (fun t => t == 29)) Tryz.func38 rfl rfl ?_)
    refine W_x (tok_flag tok (fun t => t == 29)) mixed ?_
    simp -implicitDefEqProofs -dsimp [Tryz.f38, List.replicate, encRcp, L8_take, hn, hz, hne, hlt, hcp, flagT]
  all_goals
    refine lw_of (W_lf 2 _ [.str ⟨#[114]⟩, .lst 1 false (List.take n (L8.map V.str)), .nilS] rfl (lfL_refl _) (by simp [LfL, lfB, hne]) (W_ownC 66 2 [] 2 [2] rfl (lfL_own _ _) (by simp) (W_loopV [false, false, false, false, false, false, true, true, true, true, true, true, false, true, true, true, true, true, true, true, true, true, true, true, true, true, true, true, true, true, true, true, true, true, true, true, true, true, true, true, true, true, true, true, true, true, true, true, true, true, true, true, true, true, true, true, true, true, true, true, true, true, true, true, true, true] (σ := Nat) (fun i => i ≤ x.rows.length) (fun i => x.rows.length - i) (fun i => [(6, .int .i64 i)]) (fun i => [B.cells [.int .u8 x.a, .int .u8 x.gap, .lst 1 f (x.rows.map LU)], B.cells [.str ByteArray.empty, .nilS, .nilS], B.cells [.str ⟨#[114]⟩, .lst 1 false (List.take n (L8.map V.str)), .buf 3 0 i i], B.buf 66 2 ((wRows x n i).map encRw) false]) 0 (by omega) (by simp) (by simp [wRows]) (by simp) ?_)))
    intro i hi N Q hN hQ
    have hwl := wRows_len x n i
    by_cases hb : i < x.rows.length
    · have hg0 : x.rows.getD i [] = x.rows[i] := by simp [hb]
      have hws := wRows_succ x n i
      rw [hg0] at hws
      have hcl := hc x.rows[i] (List.getElem_mem hb)
      obtain ⟨cs, hcs⟩ : ∃ cs, cs = x.rows[i] := ⟨_, rfl⟩
      rw [← hcs] at hws hcl
      have hcs' := hcs.symm
      have hp0 : 0 ≤ (i : Int) * (1 + g) := Int.mul_nonneg (by omega) (by omega)
      have hp1 : (i : Int) * (1 + g) ≤ i * 3 := Int.mul_le_mul_of_nonneg_left (by omega) (by omega)
      have hw3 : IntKind.i64.wrap ((i : Int) * (1 + g)) = (i : Int) * (1 + g) := wrap64 (by omega) (by omega)
      have hw4 : IntKind.i64.wrap (1 + (i : Int) * (1 + g)) = 1 + (i : Int) * (1 + g) := wrap64 (by omega) (by omega)
      have hrow : wRow x.gap cs n i = ⟨1 + (i : Int) * (1 + g), wVals cs n⟩ := by rw [hge]; rfl
      rw [hrow] at hws
      obtain ⟨id, hid⟩ : ∃ id, id = 1 + (i : Int) * (1 + g) := ⟨_, rfl⟩
      rw [← hid] at hws hw4
      have hw5 : IntKind.i64.wrap (1 + (i : Int) * (1 + g)) = id := by rw [← hid]; exact hw4
      refine W_x (tok_flag tok (fun t => t == 29)) mixed ?_
      simp -implicitDefEqProofs -dsimp [hb, hgs, hw1, hw2, hw3, hw5, flagT]
      refine lw_of (W_ownC 68 3 [] 4 [1] rfl (lfL_own _ _) (by simp) (W_loopV [false, false, false, false, false, false, false, false, true, true, false, false, false, false, false, false, false, false, false, false, false, false, false, false, false, false, false, false, false, false, false, false, true, true, true, true, true, true, true, true, true, true, true, true, true, true, true, true, true, true, true, true, true, true, true, true, true, true, true, true] (σ := Nat) (fun k => k ≤ n) (fun k => n - k) (fun k => [(8, .int .i64 k)]) (fun k => [B.cells [.int .u8 x.a, .int .u8 x.gap, .lst 1 f (x.rows.map LU)], B.cells [.str ByteArray.empty, .nilS, .nilS], B.cells [.str ⟨#[114]⟩, .lst 1 false (List.take n (L8.map V.str)), .buf 3 0 i i], B.buf 66 2 ((wRows x n i).map encRw) false, B.cells [.int .i64 id, .buf 5 0 k k], B.buf 68 3 ((wVals cs k).map encV) false]) 0 (by omega) (by simp) (by simp [wVals]) (by simp) ?_))
      intro k hk N2 Q2 hN2 hQ2
      have hvl := wVals_len cs k
      have hvs := wVals_succ cs k
      by_cases hkb : k < n
      · by_cases hkc : k < cs.length
        · have hg1 : cs.getD k 0 = cs[k] := by simp [hkc]
          rw [hg1] at hvs
          have hco := of01 cs[k]
          refine W_x (tok_flag tok (fun t => t == 29)) mixed ?_
          simp -implicitDefEqProofs -dsimp [hkb, hb, LU, hcs', hkc, encU, flagT]
          refine lw_of (W_drawT (tok_flag tok (fun t => t == 29)) mixed [5, 7] [] [(encV (ofC cs[k]), [])] (by kernel_rfl) fun C K hC hK => ?_)
          simp -implicitDefEqProofs [cap32 k (by omega), hvl, encV, flagT]
          refine ⟨hC _ _ _ _ (callP hco (by simp)), hK _ _ ?_⟩
          simp -implicitDefEqProofs -dsimp [wrapS k (by omega), flagT]
          refine hN2 (k + 1) _ _ (by omega) (by omega) ?_ ⟨[], ?_⟩ ?_ ?_ <;> simp [or_imp, forall_and, L1, encI, hvs, LS, encV, encRw, LV]
        · have hg1 : cs.getD k 0 = 0 := by simp [hkc]
          rw [hg1] at hvs
          have hco := of01 0
          refine W_x (tok_flag tok (fun t => t == 29)) mixed ?_
          simp -implicitDefEqProofs -dsimp [hkb, hb, LU, hcs', hkc, encU, flagT]
          refine lw_of (W_drawT (tok_flag tok (fun t => t == 29)) mixed [5, 7] [] [(encV (ofC 0), [])] (by kernel_rfl) fun C K hC hK => ?_)
          simp -implicitDefEqProofs [cap32 k (by omega), hvl, encV, flagT]
          refine ⟨hC _ _ _ _ (callP hco (by simp)), hK _ _ ?_⟩
          simp -implicitDefEqProofs -dsimp [wrapS k (by omega), flagT]
          refine hN2 (k + 1) _ _ (by omega) (by omega) ?_ ⟨[], ?_⟩ ?_ ?_ <;> simp [or_imp, forall_and, L1, encI, hvs, LS, encV, encRw, LV]
      · obtain rfl : k = n := by omega
        refine W_frzC 5 [] 4 [1] rfl rfl (by simp) (by simp [hvl]) ?_
        refine W_x (tok_flag tok (fun t => t == 29)) mixed ?_
        simp -implicitDefEqProofs -dsimp [hkb, flagT]
        refine hQ2 _ _ _ ?_
        simp -implicitDefEqProofs -dsimp [hwl, cap32 i (by omega), wrapS i (by omega), flagT]
        refine hN (i + 1) _ _ (by omega) (by omega) ?_ ⟨[B.cells [.int .i64 id, LV false (wVals cs k)], B.buf 68 3 ((wVals cs k).map encV) true], ?_⟩ ?_ ?_ <;> simp [or_imp, forall_and, L1, encI, hws, encRw, LV]
    · obtain rfl : i = x.rows.length := by omega
      refine W_frzC 3 [] 2 [2] rfl rfl (by simp) (by simp [hwl]) ?_
      refine W_x (tok_flag tok (fun t => t == 29)) mixed ?_
      simp -implicitDefEqProofs -dsimp [hb, flagT]
      refine hQ _ _ _ ?_
      simp -implicitDefEqProofs -dsimp [flagT]
      simp only [encTb, wideT, LS, LR, List.map_take]
end Go.Proofs.YteijbpppalhihaaGreat
end
