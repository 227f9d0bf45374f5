/- V8: the start of the forest. Expanded by pp.py; printed by genV8.py. -/
import Derived.Test.YteijbpppalhihaaGreatV7
import Derived.Test.YteijbpppalhihaaGreatV5
set_option linter.unusedVariables false
set_option linter.unusedSimpArgs false
set_option maxRecDepth 100000
namespace Go.Proofs.YteijbpppalhihaaGreat
open Go Go.AM
def paR (c : Nat) : List V := paL (List.range c)
theorem paR_zero : paR 0 = [] := rfl
theorem knL_zero (K : Nat → Option Vl) : knL K 0 = [] := rfl
theorem paR_pure (c : Nat) : ∀ x ∈ paR c, AM.Pure x ∧ oneV x = true := paL_pure _
@[simp ↓ high] theorem rb_paR (k e z c : Nat) (fz : Bool) : rbB k (.buf e z (paR c) fz) ↔ True := rbB_buf1 (paR_pure c)
@[simp ↓ high] theorem rb_paL (k e z : Nat) (P : List Nat) (fz : Bool) : rbB k (.buf e z (paL P) fz) ↔ True := rbB_buf1 (paL_pure P)
@[simp ↓ high] theorem rb_knL (K : Nat → Option Vl) (k e z c : Nat) (fz : Bool) : rbB k (.buf e z (knL K c) fz) ↔ True := rbB_buf1 (knL_pure K c)
theorem paR_len (c : Nat) : (paR c).length = c := by simp [paR, paL]
theorem paR_succ (c : Nat) : paR (c + 1) = paR c ++ [.int .i64 c] := by simp [paR, paL, List.range_succ, encN]
theorem knL_succ (K : Nat → Option Vl) (c : Nat) : knL K (c + 1) = knL K c ++ [encK (K c)] := by simp [knL, List.range_succ]
/-- The heap behind begin. -/
def begH (H : List B) (ff gg : Bool) (t : Tb) (K : Nat → Option Vl) : List B := H ++ [B.cells [.str t.name, LS ff t.attrs, LR gg t.rows], B.cells [.int .i64 t.attrs.length, .buf (H.length + 2) 0 (t.rows.length * t.attrs.length) (t.rows.length * t.attrs.length), .buf (H.length + 3) 0 (t.rows.length * t.attrs.length) (t.rows.length * t.attrs.length)], B.buf 3 1 (paR (t.rows.length * t.attrs.length)) false, B.buf 113 1 (knL K (t.rows.length * t.attrs.length)) false]
set_option maxHeartbeats 32000000 in
theorem begin1 (t : Tb) (ff gg cf : Bool) (fds : List Fd) (cells : List Cr) (hv : TbV t) (hs : sortedC cells) (hcl : cells.length ≤ 1000000) (b0 : B) (hb : ∀ bl ∈ [b0], rbB 1 bl) :
    ConH Tryz.prog 51 [encTb ff gg t, LC cf cells] [b0] fun r' H' => r' = .ptr 2 0 ∧ H' = begH [b0] ff gg t (probT t fds cells).K := by
  have hm := hv.rows
  have hn := hv.attrs
  obtain ⟨K, hKe⟩ : ∃ K, K = (probT t fds cells).K := ⟨_, rfl⟩
  rw [← hKe]
  obtain ⟨n, hne⟩ : ∃ n, n = t.attrs.length := ⟨_, rfl⟩
  obtain ⟨m, hme⟩ : ∃ m, m = t.rows.length := ⟨_, rfl⟩
  have hne' := hne.symm
  have hme' := hme.symm
  rw [hne'] at hn
  rw [hme'] at hm
  have hb0 : ∀ k, 1 ≤ k → rbB k b0 := fun k hk => rbB_mono hk (hb _ (by simp))
  refine conH_of_W tok Tryz.func51 rfl rfl ?_
  refine W_x tok mixed ?_
  simp -implicitDefEqProofs -dsimp [Tryz.f51, List.replicate, encTb, LS, LR, hne', hme']
  refine lw_of (W_ownC 3 1 [] 2 [1] rfl (lfL_own _ _) (by simp) (W_ownC 113 1 [] 2 [2] rfl (lfL_own _ _) (by simp) (W_loopV [false, false, false, false, false, false, false, true, true, true, true, false, false, false, false, false, false, false, false, true, true, true, true, true, true, true, true, true, true, true, true, true, true, true, true, true, true, true, true, true, true, true, true, true, true, true, true, true, true, true, true, true, true, true, true, true, true, true, true, true, true, true, true, true, true, true, true, true, true, true, true, true, true, true, true, true, true] (σ := Nat × Nat) (fun p => p.1 ≤ m ∧ p.2 = p.1 * n) (fun p => m - p.1) (fun p => [(19, .int .i64 p.1)]) (fun p => [b0, B.cells [.str t.name, .lst 1 ff (t.attrs.map V.str), .lst 2 gg (t.rows.map encRw)], B.cells [.int .i64 n, .buf 3 0 p.2 p.2, .buf 4 0 p.2 p.2], B.buf 3 1 (paR p.2) false, B.buf 113 1 (knL K p.2) false]) (0, 0) ⟨by simp, by simp⟩ (by simp) (by simp [paR_zero, knL_zero]) (by simp) ?_)))
  rintro ⟨i, c⟩ ⟨hi, hc⟩ N Q hN hQ
  simp only at hi hc hN
  by_cases hib : i < m
  · have hit : i < t.rows.length := by omega
    obtain ⟨rw, hrw⟩ : ∃ rw, rw = t.rows[i] := ⟨_, rfl⟩
    have hrw' := hrw.symm
    have hvl : rw.vals.length = n := by rw [hrw, hne]; exact hv.len _ (List.getElem_mem hit)
    refine W_x tok mixed ?_
    simp -implicitDefEqProofs -dsimp [hib, hrw', encRw, hit, LV, hne']
    refine lw_of (W_loopV [false, false, false, false, false, false, false, false, true, true, true, false, false, false, false, false, false, false, false, false, false, false, false, false, false, false, true, true, true, true, true, true, true, true, true, true, true, true, true, true, true, true, true, true, true, true, true, true, true, true, true, true, true, true, true, true, true, true, true, true, true, true, true, true, true, true, true, true, true, true, true, true, true, true, true, true] (σ := Nat × Nat) (fun p => p.1 ≤ n ∧ p.2 = i * n + p.1) (fun p => n - p.1) (fun p => [(26, .int .i64 p.1)]) (fun p => [b0, B.cells [.str t.name, .lst 1 ff (t.attrs.map V.str), .lst 2 gg (t.rows.map encRw)], B.cells [.int .i64 n, .buf 3 0 p.2 p.2, .buf 4 0 p.2 p.2], B.buf 3 1 (paR p.2) false, B.buf 113 1 (knL K p.2) false, B.cells [.int .i64 rw.id, .lst 3 false (rw.vals.map encV)]]) (0, c) ⟨by simp, by simp [hc]⟩ (by simp) (by simp) (by simp) ?_)
    rintro ⟨a, c2⟩ ⟨ha, hc2⟩ N2 Q2 hN2 hQ2
    simp only at ha hc2 hN2
    by_cases hab : a < n
    · have hlt := cell_lt hib hab
      have hbig : m * n ≤ 1000 * 16 := Nat.mul_le_mul hm hn
      have hpl := paR_len c2
      have hkl := knL_len K c2
      have hps := paR_succ c2
      have hks := knL_succ K c2
      have hat : crAt t (i * n + a) = ⟨rw.id, (a : Int)⟩ := by
        rw [hne, crAt_at t (hne ▸ hab), rwAt_in hit, ← hrw]
      have hvt : vlAt t (i * n + a) = vAt rw.vals a := by
        rw [hne, vlAt_at t (hne ▸ hab), rwAt_in hit, ← hrw]
      have hbs := bsearchC cells ⟨rw.id, (a : Int)⟩ cf hcl
      simp only [encCr] at hbs
      have hmem := bsF_mem hs ⟨rw.id, (a : Int)⟩
      have hcap := cap8 c2 (by omega)
      cases hq : bsF cells ⟨rw.id, (a : Int)⟩ with
      | true =>
        rw [hq] at hbs
        have hKc : K c2 = none := by rw [hKe, hc2]; exact probK_in (by rw [hat]; exact hmem.1 hq)
        rw [hKc] at hks
        refine W_x tok mixed ?_
        simp -implicitDefEqProofs -dsimp [hab]
        refine lw_of (W_drawT tok mixed [11, 14] [(0, [1])] [] (by kernel_rfl) fun C K hC hK => ?_)
        simp -implicitDefEqProofs [hpl, hcap]
        refine hK _ _ ?_
        simp -implicitDefEqProofs -dsimp []
        refine (callP (hbs) (by simp)).mono ?_
        rintro r H' ⟨rfl, rfl⟩
        simp -implicitDefEqProofs -dsimp [hkl, hcap, wrapS a (by omega), encK]
        refine hN2 (a + 1, c2 + 1) _ _ ⟨by simp only; omega, by simp only; omega⟩ (by simp only; omega) (by simp) ⟨[], by simp [hps, hks, encK]⟩ (by simp [LC]) (by simp [↓hb0])
      | false =>
        rw [hq] at hbs
        have hKc : K c2 = some (vAt rw.vals a) := by rw [hKe, hc2, ← hvt]; exact probK_out (by rw [hat]; exact fun h => by rw [hmem.2 h] at hq; cases hq)
        rw [hKc] at hks
        have hva : a < rw.vals.length := by omega
        have hvi := vAt_in hva
        rw [hvi] at hks
        refine W_x tok mixed ?_
        simp -implicitDefEqProofs -dsimp [hab]
        refine lw_of (W_drawT tok mixed [11, 14] [(0, [1])] [] (by kernel_rfl) fun C K hC hK => ?_)
        simp -implicitDefEqProofs [hpl, hcap]
        refine hK _ _ ?_
        simp -implicitDefEqProofs -dsimp []
        refine (callP (hbs) (by simp)).mono ?_
        rintro r H' ⟨rfl, rfl⟩
        simp -implicitDefEqProofs -dsimp []
        refine lw_of (W_drawT tok mixed [10, 13] [(0, [1])] [] (by kernel_rfl) fun C K hC hK => ?_)
        simp -implicitDefEqProofs [hkl, hcap, hva, encV, encK]
        refine hK _ _ ?_
        simp -implicitDefEqProofs -dsimp [wrapS a (by omega)]
        refine hN2 (a + 1, c2 + 1) _ _ ⟨by simp only; omega, by simp only; omega⟩ (by simp only; omega) (by simp) ⟨[], by simp [hps, hks, encK]⟩ (by simp [LC]) (by simp [↓hb0])
    · have hae : a = n := by omega
      subst hae
      refine W_x tok mixed ?_
      simp -implicitDefEqProofs -dsimp [hab]
      refine hQ2 _ _ _ ?_
      simp -implicitDefEqProofs -dsimp [wrapS i (by omega)]
      refine hN (i + 1, c2) _ _ ⟨by simp only; omega, by simp only; rw [hc2, Nat.add_mul]; omega⟩ (by simp only; omega) (by simp) ⟨_, rfl⟩ (by simp [LC]) (by simp [↓hb0])
  · have hie : i = m := by omega
    subst hie
    refine W_x tok mixed ?_
    simp -implicitDefEqProofs -dsimp [hib]
    refine hQ _ _ _ ?_
    simp -implicitDefEqProofs -dsimp []
    simp [begH, LS, LR, ← hme, ← hne, hc]
end Go.Proofs.YteijbpppalhihaaGreat
