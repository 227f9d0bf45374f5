/- X1: the reference's lists of cells: Has, Cells, Others, Choose. Expanded by pp.py. -/
import Derived.Test.YteijbpppalhihaaGreatV11
set_option linter.unusedVariables false
set_option linter.unusedSimpArgs false
set_option maxRecDepth 100000
namespace Go.Proofs.YteijbpppalhihaaGreat
open Go Go.AM
open Classical in
noncomputable def hasC (l : List Cr) (c : Cr) : Bool := decide (c ∈ l)
theorem hasC_iff {l : List Cr} {c : Cr} : hasC l c = true ↔ c ∈ l := by unfold hasC; simp
theorem eqCr (H : List B) (a b c d : Int) : eqA2 T H 49 (.agg [.int .i64 a, .int .i64 b]) (.agg [.int .i64 c, .int .i64 d]) = some (a == c && b == d) := by
  have h1 : ∀ x y : Int, eqD T 9999 2 (.int .i64 x) (.int .i64 y) = some (x == y) := fun x y => by simp [eqD]
  have h2 : ∀ x y : Int, eqD T 9999 3 (.int .i64 x) (.int .i64 y) = some (x == y) := fun x y => by simp [eqD]
  simp only [eqA2]
  rw [show (10000 : Nat) = 9999 + 1 from rfl, eqD]
  simp only [T_49]
  simp only [if_true, eqFs, cutA, T_2, T_3, isAggD, List.getElem?_cons_zero, List.getElem?_cons_succ, Bool.false_eq_true, if_false, h1, h2]
  cases (a == c) <;> cases (b == d) <;> simp
set_option maxHeartbeats 16000000 in
theorem has_r (l : List Cr) (c : Cr) (f : Bool) (hl : l.length ≤ 1000000) : ConP Tryz.prog 50 [LC f l, encCr c] fun r => r = .bool (hasC l c) := by
  obtain ⟨E, hE⟩ : ∃ E, E = hasC l c := ⟨_, rfl⟩
  rw [← hE]
  refine conP_of_conH (conH_of_W tok Tryz.func50 rfl rfl ?_)
  refine W_x tok mixed ?_
  simp -implicitDefEqProofs -dsimp [Tryz.f50, List.replicate, LC, encCr]
  refine lw_of (W_loopV [false, false, false, false, true, true, true, true, true, true, true, true, true, true, true, true, true, true] (σ := Nat) (fun i => ∀ j (h : j < l.length), j < i → l[j] ≠ c) (fun i => l.length - i) (fun i => [(5, .int .i64 i)]) (fun _ => [B.cells [.int .i64 c.id, .int .i64 c.attr]]) 0 (fun j _ h => by omega) (by simp) rfl (by simp) ?_)
  intro i hx N Q hN hQ
  by_cases hb : i < l.length
  · cases hq : (l[i].id == c.id && l[i].attr == c.attr) with
    | true =>
      have he : l[i] = c := by
        rw [Bool.and_eq_true, beq_iff_eq, beq_iff_eq] at hq
        exact Cr.eq_iff.2 hq
      rw [hasC_iff.2 (he ▸ List.getElem_mem hb)] at hE
      refine W_x tok mixed ?_
      simp -implicitDefEqProofs -dsimp [hb, encCr, eqCr, hq]
      refine .inr ⟨stop_of (by kernel_rfl), ?_⟩
      refine hQ _ _ _ ?_
      simp -implicitDefEqProofs -dsimp []
      exact hE
    | false =>
      have he : l[i] ≠ c := fun h => by subst h; simp at hq
      refine W_x tok mixed ?_
      simp -implicitDefEqProofs -dsimp [hb, encCr, eqCr, hq]
      refine .inr ⟨stop_of (by kernel_rfl), ?_⟩
      simp -implicitDefEqProofs -dsimp [wrapS i (by omega)]
      refine hN (i + 1) _ _ (fun j h hj => ?_) (by omega) (by simp) ⟨[], rfl⟩ (by simp) (by simp)
      rcases Nat.lt_or_ge j i with h1 | h1
      · exact hx j h h1
      · have : j = i := by omega
        subst this; exact he
  · have hno : hasC l c = false := by
      cases hh : hasC l c
      · rfl
      · obtain ⟨j, hj, h2⟩ := List.mem_iff_getElem.1 (hasC_iff.1 hh)
        exact absurd h2 (hx j hj (by omega))
    rw [hno] at hE
    refine W_x tok mixed ?_
    simp -implicitDefEqProofs -dsimp [hb]
    refine hQ _ _ _ ?_
    simp -implicitDefEqProofs -dsimp []
    exact hE
def cellsTo (t : Tb) (c : Nat) : List Cr := (List.range c).map (crAt t)
theorem cellsTo_succ (t : Tb) (c : Nat) : cellsTo t (c + 1) = cellsTo t c ++ [crAt t c] := by simp [cellsTo, List.range_succ]
theorem cellsTo_len (t : Tb) (c : Nat) : (cellsTo t c).length = c := by simp [cellsTo]
theorem cellsT_len (t : Tb) : (cellsT t).length = t.rows.length * t.attrs.length := by simp [cellsT]
set_option maxHeartbeats 32000000 in
theorem cells_r (t : Tb) (ff gg : Bool) (hr : t.rows.length ≤ 1000) (hn : t.attrs.length ≤ 1000) : ConP Tryz.prog 18 [encTb ff gg t] fun r => r = LC false (cellsT t) := by
  obtain ⟨n, hne⟩ : ∃ n, n = t.attrs.length := ⟨_, rfl⟩
  obtain ⟨m, hme⟩ : ∃ m, m = t.rows.length := ⟨_, rfl⟩
  have hne' := hne.symm
  have hme' := hme.symm
  rw [hne'] at hn
  rw [hme'] at hr
  refine conP_of_conH (conH_of_W tok Tryz.func18 rfl rfl ?_)
  refine W_x tok mixed ?_
  simp -implicitDefEqProofs -dsimp [Tryz.f18, List.replicate, encTb, LS, LR]
  refine lw_of (W_own 49 2 [3] (by simp) (W_loopV [false, false, false, true, true, true, true, true, true, true, true, true, true, true, true, true, true, true, true, true, true, true, true, true, true, true, true, true, true, true, true] (σ := Nat × Nat) (fun p => p.1 ≤ m ∧ p.2 = p.1 * n) (fun p => m - p.1) (fun p => [(4, .int .i64 p.1), (3, .buf 1 0 p.2 p.2)]) (fun p => [B.cells [.str t.name, .lst 1 ff (t.attrs.map V.str), .lst 2 gg (t.rows.map encRw)], B.buf 49 2 ((cellsTo t p.2).map encCr) false]) (0, 0) ⟨by simp, by simp⟩ (by simp) (by simp [cellsTo]) (by simp) ?_))
  rintro ⟨i, c⟩ ⟨hi, hc⟩ N Q hN hQ
  simp only at hi hc hN
  by_cases hib : i < m
  · have hit : i < t.rows.length := by omega
    obtain ⟨rw, hrw⟩ : ∃ rw, rw = t.rows[i] := ⟨_, rfl⟩
    have hrw' := hrw.symm
    refine W_x tok mixed ?_
    simp -implicitDefEqProofs -dsimp [hib, hme']
    refine lw_of (W_loopV [false, false, false, true, false, true, false, false, false, false, false, false, false, true, true, true, true, true, true, true, true, true, true, true, true, true, true, true, true, true, true] (σ := Nat × Nat) (fun p => p.1 ≤ n ∧ p.2 = i * n + p.1) (fun p => n - p.1) (fun p => [(5, .int .i64 p.1), (3, .buf 1 0 p.2 p.2)]) (fun p => [B.cells [.str t.name, .lst 1 ff (t.attrs.map V.str), .lst 2 gg (t.rows.map encRw)], B.buf 49 2 ((cellsTo t p.2).map encCr) false]) (0, c) ⟨by simp, by simp [hc]⟩ (by simp) (by simp) (by simp) ?_)
    rintro ⟨a, c2⟩ ⟨ha, hc2⟩ N2 Q2 hN2 hQ2
    simp only at ha hc2 hN2
    by_cases hab : a < n
    · have hlt := cell_lt hib hab
      have hbig : m * n ≤ 1000 * 1000 := Nat.mul_le_mul hr hn
      have hol := cellsTo_len t c2
      have hat : crAt t c2 = ⟨rw.id, (a : Int)⟩ := by
        rw [hc2, hne, crAt_at t (hne ▸ hab), rwAt_in hit, ← hrw]
      have hst := cellsTo_succ t c2
      rw [hat] at hst
      refine W_x tok mixed ?_
      simp -implicitDefEqProofs -dsimp [hab, hne', hit, hrw', encRw, hol, cap16 c2 (by omega), wrapS a (by omega)]
      refine hN2 (a + 1, c2 + 1) _ _ ⟨by simp only; omega, by simp only; omega⟩ (by simp only; omega) (by simp) ⟨[], by simp [hst, encCr]⟩ (by simp) (by simp)
    · have hae : a = n := by omega
      subst hae
      refine W_x tok mixed ?_
      simp -implicitDefEqProofs -dsimp [hab, hne']
      refine hQ2 _ _ _ ?_
      simp -implicitDefEqProofs -dsimp [wrapS i (by omega)]
      refine hN (i + 1, c2) _ _ ⟨by simp only; omega, by simp only; rw [hc2, Nat.add_mul]; omega⟩ (by simp only; omega) (by simp) ⟨[], by simp⟩ (by simp) (by simp)
  · have hie : i = m := by omega
    subst hie
    refine W_x tok mixed ?_
    simp -implicitDefEqProofs -dsimp [hib, hme']
    refine hQ _ _ _ ?_
    simp -implicitDefEqProofs -dsimp []
    rw [show cellsT t = cellsTo t c by unfold cellsT cellsTo; rw [hc, ← hme, ← hne]]
    exact exp_buf rfl (by simp [cellsTo_len]) (by simp)
end Go.Proofs.YteijbpppalhihaaGreat
