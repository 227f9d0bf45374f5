/- X2: the reference's Others, Choose, Of. Expanded by pp.py. -/
import Derived.Test.YteijbpppalhihaaGreatX1
set_option linter.unusedVariables false
set_option linter.unusedSimpArgs false
set_option maxRecDepth 100000
namespace Go.Proofs.YteijbpppalhihaaGreat
open Go Go.AM
theorem cellsT_at {t : Tb} {i : Nat} (h : i < (cellsT t).length) : (cellsT t)[i] = crAt t i := by simp [cellsT]
set_option maxHeartbeats 32000000 in
theorem others_r (t : Tb) (ff gg cf : Bool) (l : List Cr) (hr : t.rows.length ≤ 1000) (hn : t.attrs.length ≤ 1000) (hl : l.length ≤ 1000000) : ConP Tryz.prog 21 [encTb ff gg t, LC cf l] fun r => r = LC false (othersT t l) := by
  have c1 := cells_r t ff gg hr hn
  have hbig : t.rows.length * t.attrs.length ≤ 1000 * 1000 := Nat.mul_le_mul hr hn
  obtain ⟨all, hall⟩ : ∃ all, all = cellsT t := ⟨_, rfl⟩
  have hlen : all.length = t.rows.length * t.attrs.length := by rw [hall, cellsT_len]
  have hat : ∀ i (h : i < all.length), all[i] = crAt t i := fun i h => by subst hall; exact cellsT_at h
  rw [← hall] at c1
  simp only [encTb, LS, LR, LC] at c1
  rw [← othTo_all, ← hlen]
  refine conP_of_conH (conH_of_W tok Tryz.func21 rfl rfl ?_)
  refine W_x tok mixed ?_
  simp -implicitDefEqProofs -dsimp [Tryz.f21, List.replicate, encTb, LS, LR, LC]
  refine (callP (c1) (by simp)).mono ?_
  rintro r H' ⟨rfl, rfl⟩
  simp -implicitDefEqProofs -dsimp []
  refine lw_of (W_own 49 2 [6] (by simp) (W_loopV [false, false, false, false, false, false, true, true, false, false, true, true, true, true, true, true, true, true, true, true, true, true, true, true, true, true, true, true, true, true] (σ := Nat) (fun i => i ≤ all.length) (fun i => all.length - i) (fun i => [(7, .int .i64 i), (6, .buf 1 0 (othTo t l i).length (othTo t l i).length)]) (fun i => [B.cells [.str t.name, .lst 1 ff (t.attrs.map V.str), .lst 2 gg (t.rows.map encRw)], B.buf 49 2 ((othTo t l i).map encCr) false]) 0 (by omega) (by simp [othTo_zero]) (by simp [othTo_zero]) (by simp) ?_))
  intro i hi N Q hN hQ
  by_cases hb : i < all.length
  · have h1 := hat i hb
    obtain ⟨x, hx⟩ : ∃ x, x = all[i] := ⟨_, rfl⟩
    rw [← hx] at h1
    have hx' := hx.symm
    have hol := othTo_len t l i
    have hc := has_r l x cf hl
    simp only [LC, encCr] at hc
    cases hq : hasC l x with
    | true =>
      rw [hq] at hc
      have hst := othTo_in (t := t) (l := l) (x := i) (h1 ▸ hasC_iff.1 hq)
      refine W_x tok mixed ?_
      simp -implicitDefEqProofs -dsimp [hb, hx', encCr]
      refine (callP (hc) (by simp)).mono ?_
      rintro r H' ⟨rfl, rfl⟩
      simp -implicitDefEqProofs -dsimp [wrapS i (by omega)]
      refine hN (i + 1) _ _ (by omega) (by omega) (by simp [hst]) ⟨[], by simp [hst]⟩ (by simp [LC]) (by simp)
    | false =>
      rw [hq] at hc
      have hst := othTo_out (t := t) (l := l) (x := i) (h1 ▸ fun h => by rw [hasC_iff.2 h] at hq; cases hq)
      rw [← h1] at hst
      refine W_x tok mixed ?_
      simp -implicitDefEqProofs -dsimp [hb, hx', encCr]
      refine (callP (hc) (by simp)).mono ?_
      rintro r H' ⟨rfl, rfl⟩
      simp -implicitDefEqProofs -dsimp [hb, hx', encCr, cap16 (othTo t l i).length (by omega), wrapS i (by omega)]
      refine hN (i + 1) _ _ (by omega) (by omega) (by simp [hst]) ⟨[], by simp [hst, encCr]⟩ (by simp [LC]) (by simp)
  · obtain rfl : i = all.length := by omega
    refine W_x tok mixed ?_
    simp -implicitDefEqProofs -dsimp [hb]
    refine hQ _ _ _ ?_
    simp -implicitDefEqProofs -dsimp []
    exact exp_buf rfl (by simp) (by simp)
def hasW (s : Int) (i : Nat) : Bool := IntKind.u16.wrap ↑((s.fdiv (2 ^ min i IntKind.u16.bits) % 2 ^ IntKind.u16.bits).toNat &&& 1 % 2 ^ IntKind.u16.bits) == 1
theorem hasW_def (s : Int) (a : Nat) : (IntKind.u16.wrap ↑((s.fdiv (2 ^ min a IntKind.u16.bits) % 2 ^ IntKind.u16.bits).toNat &&& 1 % 2 ^ IntKind.u16.bits) == 1) = hasW s a := rfl
def chTo (t : Tb) (s : Int) (i : Nat) : List Cr := ((List.range i).filter (hasW s)).map (crAt t)
def chooseT (t : Tb) (s : Int) : List Cr := chTo t s (min (t.rows.length * t.attrs.length) 16)
theorem chTo_yes {t : Tb} {s : Int} {i : Nat} (h : hasW s i = true) : chTo t s (i + 1) = chTo t s i ++ [crAt t i] := by
  unfold chTo
  rw [List.range_succ, List.filter_append]
  simp [h]
theorem chTo_no {t : Tb} {s : Int} {i : Nat} (h : hasW s i = false) : chTo t s (i + 1) = chTo t s i := by
  unfold chTo
  rw [List.range_succ, List.filter_append]
  simp [h]
theorem chTo_len (t : Tb) (s : Int) (i : Nat) : (chTo t s i).length ≤ i := by
  unfold chTo
  rw [List.length_map]
  exact Nat.le_trans (List.length_filter_le _ _) (by simp)
set_option maxHeartbeats 32000000 in
theorem choose_r (t : Tb) (ff gg : Bool) (s : Int) (hr : t.rows.length ≤ 1000) (hn : t.attrs.length ≤ 1000) : ConP Tryz.prog 13 [encTb ff gg t, .int .u16 s] fun r => r = LC false (chooseT t s) := by
  have c1 := cells_r t ff gg hr hn
  have hbig : t.rows.length * t.attrs.length ≤ 1000 * 1000 := Nat.mul_le_mul hr hn
  obtain ⟨all, hall⟩ : ∃ all, all = cellsT t := ⟨_, rfl⟩
  have hlen : all.length = t.rows.length * t.attrs.length := by rw [hall, cellsT_len]
  have hat : ∀ i (h : i < all.length), all[i] = crAt t i := fun i h => by subst hall; exact cellsT_at h
  rw [← hall] at c1
  simp only [encTb, LS, LR, LC] at c1
  unfold chooseT
  rw [← hlen]
  obtain ⟨k, hk⟩ : ∃ k, k = min all.length 16 := ⟨_, rfl⟩
  rw [← hk]
  refine conP_of_conH (conH_of_W tok Tryz.func13 rfl rfl ?_)
  refine W_x tok mixed ?_
  simp -implicitDefEqProofs -dsimp [Tryz.f13, List.replicate, encTb, LS, LR, LC]
  refine (callP (c1) (by simp)).mono ?_
  rintro r H' ⟨rfl, rfl⟩
  simp -implicitDefEqProofs -dsimp []
  refine lw_of (W_own 49 2 [6] (by simp) (W_loopV [false, false, false, false, false, false, true, true, false, false, true, true, true, true, true, true, true, true, true, true, true, true, true, true, true, true, true, true, true, true, true, true] (σ := Nat) (fun i => i ≤ k) (fun i => k - i) (fun i => [(7, .int .i64 i), (6, .buf 1 0 (chTo t s i).length (chTo t s i).length)]) (fun i => [B.cells [.str t.name, .lst 1 ff (t.attrs.map V.str), .lst 2 gg (t.rows.map encRw)], B.buf 49 2 ((chTo t s i).map encCr) false]) 0 (by omega) (by simp [chTo]) (by simp [chTo]) (by simp) ?_))
  intro i hi N Q hN hQ
  by_cases hb : i < k
  · have hb1 : i < all.length := by omega
    have hb2 : (i : Int) < 16 := by omega
    have h1 := hat i hb1
    obtain ⟨x, hx⟩ : ∃ x, x = all[i] := ⟨_, rfl⟩
    rw [← hx] at h1
    have hx' := hx.symm
    have hol := chTo_len t s i
    cases hq : hasW s i with
    | true =>
      have hst := chTo_yes (t := t) hq
      rw [← h1] at hst
      refine W_x tok mixed ?_
      simp -implicitDefEqProofs -dsimp [hb1, hb2, hx', encCr, hasW_def, hq, cap16 (chTo t s i).length (by omega), wrapS i (by omega)]
      refine hN (i + 1) _ _ (by omega) (by omega) (by simp [hst]) ⟨[], by simp [hst, encCr]⟩ (by simp [LC]) (by simp)
    | false =>
      have hst := chTo_no (t := t) hq
      refine W_x tok mixed ?_
      simp -implicitDefEqProofs -dsimp [hb1, hb2, hx', encCr, hasW_def, hq, wrapS i (by omega)]
      refine hN (i + 1) _ _ (by omega) (by omega) (by simp [hst]) ⟨[], by simp [hst]⟩ (by simp [LC]) (by simp)
  · obtain rfl : i = k := by omega
    by_cases hb1 : i < all.length
    · refine W_x tok mixed ?_
      simp -implicitDefEqProofs -dsimp [hb1, show ¬ (i : Int) < 16 by omega]
      refine hQ _ _ _ ?_
      simp -implicitDefEqProofs -dsimp []
      exact exp_buf rfl (by simp) (by simp)
    · refine W_x tok mixed ?_
      simp -implicitDefEqProofs -dsimp [hb1]
      refine hQ _ _ _ ?_
      simp -implicitDefEqProofs -dsimp []
      exact exp_buf rfl (by simp) (by simp)
end Go.Proofs.YteijbpppalhihaaGreat
