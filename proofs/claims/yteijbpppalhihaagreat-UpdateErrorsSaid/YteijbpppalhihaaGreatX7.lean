/- X7: the reference's errors; what the program's functions answer to arguments that are not right. Expanded by pp.py. -/
import Derived.Test.YteijbpppalhihaaGreatX5
set_option linter.unusedVariables false
set_option linter.unusedSimpArgs false
set_option maxRecDepth 100000
namespace Go.Proofs.YteijbpppalhihaaGreat
open Go Go.AM
theorem sub_full (a n : Nat) : decide (a &&& fullN n = a) = decide (a < 2 ^ n) := by
  rw [Bool.eq_iff_iff, decide_eq_true_iff, decide_eq_true_iff]
  constructor
  · intro h
    rw [← h]
    exact Nat.lt_of_le_of_lt Nat.and_le_right (fullN_small n)
  · intro h
    refine Nat.eq_of_testBit_eq fun i => ?_
    rw [Nat.testBit_and, fullN_bit]
    by_cases hi : i < n
    · simp [hi]
    · have : a.testBit i = false := Nat.testBit_lt_two_pow (Nat.lt_of_lt_of_le h (Nat.pow_le_pow_right (by omega) (by omega)))
      simp [this]
set_option maxHeartbeats 16000000 in
theorem valid09 (n : Nat) (fds : List Fd) (f : Bool) (hn : n ≤ 16) (hF : FdsOk fds) : ConP Tryz.prog 85 [.int .i64 n, LF f fds] fun r => r = .int .i64 (fdsErr n fds) := by
  obtain ⟨hF1, hF2⟩ := hF
  have hn1 : ¬ (16 : Int) < n := by omega
  have hn0 : ¬ (n : Int) < 0 := by omega
  have hfl := fullN_lt n (by omega)
  unfold fdsErr
  by_cases h64 : 64 < fds.length
  · rw [if_pos h64]
    refine conP_of_conH (conH_of_W tok Tryz.func85 rfl rfl ?_)
    refine W_x tok mixed ?_
    simp -implicitDefEqProofs -dsimp [Tryz.f85, List.replicate, LF, hn0, hn1, show (64 : Int) < fds.length by omega]
  · rw [if_neg h64]
    obtain ⟨E, hE⟩ : ∃ E : Int, E = if fds.all (fdOk n) then 0 else 1 := ⟨_, rfl⟩
    rw [← hE]
    have cf := full02 n (by omega)
    refine conP_of_conH (conH_of_W tok Tryz.func85 rfl rfl ?_)
    refine W_x tok mixed ?_
    simp -implicitDefEqProofs -dsimp [Tryz.f85, List.replicate, LF, hn0, hn1, show ¬ (64 : Int) < fds.length by omega]
    refine (callP (cf) (by simp)).mono ?_
    rintro r H' ⟨rfl, rfl⟩
    simp -implicitDefEqProofs -dsimp []
    refine lw_of (W_loopV [false, false, false, false, true, false, true, false, false, false, false, false, false, false, false, false, false, false, true, true, true, true, true, true, true, true, true, true, true, true, true, true, true, true, true, true, true, true, true, true, true, true] (σ := Nat) (fun i => i ≤ fds.length ∧ (if (fds.drop i).all (fdOk n) then (0 : Int) else 1) = E) (fun i => fds.length - i) (fun i => [(6, .int .i64 i)]) (fun _ => []) 0 ⟨by omega, by rw [hE, List.drop_zero]⟩ (by simp) rfl (by simp) ?_)
    rintro i ⟨hi, hx⟩ N Q hN hQ
    by_cases hb : i < fds.length
    · rw [List.drop_eq_getElem_cons hb, List.all_cons] at hx
      obtain ⟨h1, h2⟩ := hF2 fds[i] (List.getElem_mem hb)
      have d1 := sub02 fds[i].l (fullN n) h1 hfl
      have d2 := sub02 fds[i].r (fullN n) h2 hfl
      rw [sub_full] at d1 d2
      cases q1 : decide (fds[i].l < 2 ^ n) with
      | false =>
        rw [q1] at d1
        rw [show fdOk n fds[i] = false by unfold fdOk; rw [q1]; rfl, Bool.false_and, if_neg (by simp)] at hx
        refine W_x tok mixed ?_
        simp -implicitDefEqProofs -dsimp [hb, encF]
        refine (callP (d1) (by simp)).mono ?_
        rintro r H' ⟨rfl, rfl⟩
        simp -implicitDefEqProofs -dsimp []
        refine hQ _ _ _ ?_
        simp -implicitDefEqProofs -dsimp []
        exact hx
      | true =>
        rw [q1] at d1
        cases q2 : decide (fds[i].r < 2 ^ n) with
        | false =>
          rw [q2] at d2
          rw [show fdOk n fds[i] = false by unfold fdOk; rw [q1, q2]; rfl, Bool.false_and, if_neg (by simp)] at hx
          refine W_x tok mixed ?_
          simp -implicitDefEqProofs -dsimp [hb, encF]
          refine (callP (d1) (by simp)).mono ?_
          rintro r H' ⟨rfl, rfl⟩
          simp -implicitDefEqProofs -dsimp [hb, encF]
          refine (callP (d2) (by simp)).mono ?_
          rintro r H' ⟨rfl, rfl⟩
          simp -implicitDefEqProofs -dsimp []
          refine hQ _ _ _ ?_
          simp -implicitDefEqProofs -dsimp []
          exact hx
        | true =>
          rw [q2] at d2
          rw [show fdOk n fds[i] = true by unfold fdOk; rw [q1, q2]; rfl, Bool.true_and] at hx
          refine W_x tok mixed ?_
          simp -implicitDefEqProofs -dsimp [hb, encF]
          refine (callP (d1) (by simp)).mono ?_
          rintro r H' ⟨rfl, rfl⟩
          simp -implicitDefEqProofs -dsimp [hb, encF]
          refine (callP (d2) (by simp)).mono ?_
          rintro r H' ⟨rfl, rfl⟩
          simp -implicitDefEqProofs -dsimp [wrapS i (by omega)]
          refine hN (i + 1) _ _ ⟨by omega, hx⟩ (by omega) ?_ ⟨[], ?_⟩ ?_ ?_ <;> simp [or_imp, forall_and, L1, encI, LF]
    · rw [List.drop_of_length_le (by omega)] at hx
      refine W_x tok mixed ?_
      simp -implicitDefEqProofs -dsimp [hb]
      refine hQ _ _ _ ?_
      simp -implicitDefEqProofs -dsimp []
      simpa using hx
def ltC (a b : Cr) : Bool := decide (a.id < b.id ∨ (a.id = b.id ∧ a.attr < b.attr))
theorem ltC_iff {a b : Cr} : ltC a b = true ↔ cLt a b := by unfold ltC cLt; simp
set_option maxHeartbeats 8000000 in
theorem before_r (a b : Cr) : ConP Tryz.prog 83 [encCr a, encCr b] fun r => r = .bool (ltC a b) := by
  unfold ltC
  by_cases h1 : a.id < b.id
  · rw [decide_eq_true (.inl h1)]
    refine conP_of_conH (conH_of_W tok Tryz.func83 rfl rfl ?_)
    refine W_x tok mixed ?_
    simp -implicitDefEqProofs -dsimp [Tryz.f83, List.replicate, encCr, h1]
  · by_cases h2 : a.id = b.id
    · by_cases h3 : a.attr < b.attr
      · rw [decide_eq_true (.inr ⟨h2, h3⟩)]
        refine conP_of_conH (conH_of_W tok Tryz.func83 rfl rfl ?_)
        refine W_x tok mixed ?_
        simp -implicitDefEqProofs -dsimp [Tryz.f83, List.replicate, encCr, h1, h2, h3]
      · rw [decide_eq_false (by omega)]
        refine conP_of_conH (conH_of_W tok Tryz.func83 rfl rfl ?_)
        refine W_x tok mixed ?_
        simp -implicitDefEqProofs -dsimp [Tryz.f83, List.replicate, encCr, h1, h2, h3]
    · rw [decide_eq_false (by omega)]
      refine conP_of_conH (conH_of_W tok Tryz.func83 rfl rfl ?_)
      refine W_x tok mixed ?_
      simp -implicitDefEqProofs -dsimp [Tryz.f83, List.replicate, encCr, h1, h2]
noncomputable def baseE (t : Tb) (fds : List Fd) : Int := open Classical in if validT t ≠ 0 then validT t else if fdsErr t.attrs.length fds ≠ 0 then fdsErr t.attrs.length fds else if 60 < t.rows.length * t.attrs.length then 3 else 0
noncomputable def listE (t : Tb) (cells : List Cr) : Int := open Classical in if ¬ sortedC cells then 1 else if cells.all (cellB t) then 0 else 4
theorem chkE_eq (t : Tb) (fds : List Fd) (cells : List Cr) : chkE t fds cells = if baseE t fds = 0 then listE t cells else baseE t fds := by
  unfold chkE baseE listE
  by_cases h1 : validT t = 0
  · rw [if_neg (show ¬ validT t ≠ 0 by simp [h1]), if_neg (show ¬ validT t ≠ 0 by simp [h1])]
    by_cases h2 : fdsErr t.attrs.length fds = 0
    · rw [if_neg (show ¬ fdsErr t.attrs.length fds ≠ 0 by simp [h2]), if_neg (show ¬ fdsErr t.attrs.length fds ≠ 0 by simp [h2])]
      by_cases h3 : 60 < t.rows.length * t.attrs.length
      · rw [if_pos h3, if_pos h3, if_neg (by omega)]
      · rw [if_neg h3, if_neg h3, if_pos rfl]
    · rw [if_pos h2, if_pos h2, if_neg h2]
  · rw [if_pos h1, if_pos h1, if_neg h1]
theorem chkE_nil (t : Tb) (fds : List Fd) : chkE t fds [] = baseE t fds := by
  rw [chkE_eq]
  split
  · rename_i h
    rw [h]
    unfold listE
    rw [if_neg (by simp [sortedC]), if_pos (by simp)]
  · rfl
set_option maxHeartbeats 16000000 in
theorem base_r (t : Tb) (ff gg df : Bool) (fds : List Fd) (ht : TbOk t) (hF : FdsOk fds) : ConP Tryz.prog 37 [encTb ff gg t, LF df fds] fun r => r = .int .i64 (baseE t fds) := by
  have c1 := valid03 t ff gg ht
  simp only [encTb, LS, LR] at c1
  unfold baseE
  by_cases h1 : validT t = 0
  · have hv := tbV_of ht h1
    rw [h1] at c1
    rw [if_neg (show ¬ validT t ≠ 0 by simp [h1])]
    have c2 := valid09 t.attrs.length fds df hv.attrs hF
    by_cases h2 : fdsErr t.attrs.length fds = 0
    · rw [h2] at c2
      rw [if_neg (show ¬ fdsErr t.attrs.length fds ≠ 0 by simp [h2])]
      have hmn := Nat.mul_le_mul hv.rows hv.attrs
      have hw : IntKind.i64.wrap ((t.rows.length : Int) * (t.attrs.length : Int)) = ((t.rows.length * t.attrs.length : Nat) : Int) := by rw [wrap64 (by rw [← Int.natCast_mul]; omega) (by rw [← Int.natCast_mul]; omega)]; push_cast; rfl
      obtain ⟨mn, hmn'⟩ : ∃ mn, mn = t.rows.length * t.attrs.length := ⟨_, rfl⟩
      rw [← hmn'] at hw ⊢
      by_cases h3 : 60 < mn
      · rw [if_pos h3]
        refine conP_of_conH (conH_of_W tok Tryz.func37 rfl rfl ?_)
        refine W_x tok mixed ?_
        simp -implicitDefEqProofs -dsimp [Tryz.f37, List.replicate, encTb, LS, LR]
        refine (callP (c1) (by simp)).mono ?_
        rintro r H' ⟨rfl, rfl⟩
        simp -implicitDefEqProofs -dsimp []
        refine (callP (c2) (by simp)).mono ?_
        rintro r H' ⟨rfl, rfl⟩
        simp -implicitDefEqProofs -dsimp [hw, show (60 : Int) < mn by omega]
      · rw [if_neg h3]
        refine conP_of_conH (conH_of_W tok Tryz.func37 rfl rfl ?_)
        refine W_x tok mixed ?_
        simp -implicitDefEqProofs -dsimp [Tryz.f37, List.replicate, encTb, LS, LR]
        refine (callP (c1) (by simp)).mono ?_
        rintro r H' ⟨rfl, rfl⟩
        simp -implicitDefEqProofs -dsimp []
        refine (callP (c2) (by simp)).mono ?_
        rintro r H' ⟨rfl, rfl⟩
        simp -implicitDefEqProofs -dsimp [hw, show ¬ (60 : Int) < mn by omega]
    · rw [if_pos h2]
      refine conP_of_conH (conH_of_W tok Tryz.func37 rfl rfl ?_)
      refine W_x tok mixed ?_
      simp -implicitDefEqProofs -dsimp [Tryz.f37, List.replicate, encTb, LS, LR]
      refine (callP (c1) (by simp)).mono ?_
      rintro r H' ⟨rfl, rfl⟩
      simp -implicitDefEqProofs -dsimp []
      refine (callP (c2) (by simp)).mono ?_
      rintro r H' ⟨rfl, rfl⟩
      simp -implicitDefEqProofs -dsimp [h2]
  · rw [if_pos h1]
    refine conP_of_conH (conH_of_W tok Tryz.func37 rfl rfl ?_)
    refine W_x tok mixed ?_
    simp -implicitDefEqProofs -dsimp [Tryz.f37, List.replicate, encTb, LS, LR]
    refine (callP (c1) (by simp)).mono ?_
    rintro r H' ⟨rfl, rfl⟩
    simp -implicitDefEqProofs -dsimp [h1]
set_option maxHeartbeats 32000000 in
theorem error_r (t : Tb) (ff gg df cf : Bool) (fds : List Fd) (l : List Cr) (ht : TbOk t) (hF : FdsOk fds) (hl : l.length ≤ 1000000) : ConP Tryz.prog 36 [encTb ff gg t, LF df fds, LC cf l] fun r => r = .int .i64 (chkE t fds l) := by
  have c1 := base_r t ff gg df fds ht hF
  simp only [encTb, LS, LR] at c1
  rw [chkE_eq]
  by_cases h0 : baseE t fds = 0
  · rw [if_pos h0]
    rw [h0] at c1
    have hv : TbV t := tbV_of ht (by
      unfold baseE at h0
      by_cases h1 : validT t = 0
      · exact h1
      · rw [if_pos h1] at h0; exact h0)
    obtain ⟨E, hE⟩ : ∃ E, E = listE t l := ⟨_, rfl⟩
    rw [← hE]
    refine conP_of_conH (conH_of_W tok Tryz.func36 rfl rfl ?_)
    refine W_x tok mixed ?_
    simp -implicitDefEqProofs -dsimp [Tryz.f36, List.replicate, encTb, LS, LR, LC]
    refine (callP (c1) (by simp)).mono ?_
    rintro r H' ⟨rfl, rfl⟩
    simp -implicitDefEqProofs -dsimp []
    refine lw_of (W_loopV [false, false, false, false, false, false, true, false, true, false, false, false, false, false, false, false, false, true, true, true, true, true, true, true, true, true, true, true, true, true, true, true, true, true] (σ := Nat) (fun i => 1 ≤ i ∧ ∀ j (h : j + 1 < l.length), j + 1 < i → cLt l[j] l[j + 1]) (fun i => l.length - i) (fun i => [(8, .int .i64 i)]) (fun _ => [B.cells [.str t.name, .lst 1 ff (t.attrs.map V.str), .lst 2 gg (t.rows.map encRw)]]) 1 ⟨by omega, fun j _ h => by omega⟩ (by simp) (by simp) (by simp) ?_)
    rintro i ⟨hi, hx⟩ N Q hN hQ
    by_cases hb : i < l.length
    · obtain ⟨k, hki⟩ : ∃ k, i = k + 1 := ⟨i - 1, by omega⟩
      have hk : k < l.length := by omega
      have hc := before_r l[k] l[i]
      have hw : IntKind.i64.wrap ((i : Int) - 1) = (k : Int) := by rw [wrapP i (by omega) hi]; omega
      simp only [encCr] at hc
      cases hq : ltC l[k] l[i] with
      | true =>
        rw [hq] at hc
        have hlt := ltC_iff.1 hq
        refine W_x tok mixed ?_
        simp -implicitDefEqProofs -dsimp [hb, hw, hk, encCr]
        refine .inr ⟨stop_of (by kernel_rfl), ?_⟩
        refine cy_of _ (callP (hc) (by simp)) ?_
        simp -implicitDefEqProofs -dsimp [wrapS i (by omega)]
        refine hN (i + 1) _ _ ⟨by omega, fun j h hj => ?_⟩ (by omega) (by simp) ⟨[], by simp⟩ (by simp [LF]) (by simp)
        rcases Nat.lt_or_ge j k with h1 | h1
        · exact hx j h (by omega)
        · have : j = k := by omega
          subst this; subst hki; exact hlt
      | false =>
        rw [hq] at hc
        have hno : ¬ sortedC l := fun hs => by
          subst hki
          have := sortedC_lt hs hk hb (by omega)
          rw [ltC_iff.2 this] at hq; cases hq
        have hE1 : (1 : Int) = E := by rw [hE]; unfold listE; rw [if_pos hno]
        refine W_x tok mixed ?_
        simp -implicitDefEqProofs -dsimp [hb, hw, hk, encCr]
        refine .inr ⟨stop_of (by kernel_rfl), ?_⟩
        refine cy_of _ (callP (hc) (by simp)) ?_
        simp -implicitDefEqProofs -dsimp []
        refine hQ _ _ _ ?_
        simp -implicitDefEqProofs -dsimp []
        exact hE1
    · have hs : sortedC l := sorted_of_chain fun j h => hx j h (by omega)
      have hE3 : listE t l = if l.all (cellB t) then (0 : Int) else 4 := by unfold listE; rw [if_neg (by simp [hs])]
      have hE2 : (if l.all (cellB t) then (0 : Int) else 4) = E := by rw [hE, hE3]
      have c2 := cells_r t ff gg hv.rows (by have := hv.attrs; omega)
      simp only [encTb, LS, LR, LC] at c2
      have hcl : (cellsT t).length ≤ 1000000 := by rw [cellsT_len]; exact prob_small hv
      refine W_x tok mixed ?_
      simp -implicitDefEqProofs -dsimp [hb]
      refine hQ _ _ _ ?_
      simp -implicitDefEqProofs -dsimp []
      refine (callP (c2) (by simp)).mono ?_
      rintro r H' ⟨rfl, rfl⟩
      simp -implicitDefEqProofs -dsimp []
      refine lw_of (W_loopV [false, false, false, false, false, false, true, false, false, false, true, false, false, false, false, false, false, false, false, false, false, false, false, false, false, false, false, false, false, false, false, false, false, false, false, false, true, true, true, true, true, true, true, true, true, true, true, true, true] (σ := Nat) (fun i => i ≤ l.length ∧ (if (l.drop i).all (cellB t) then (0 : Int) else 4) = E) (fun i => l.length - i) (fun i => [(10, .int .i64 i)]) (fun _ => [B.cells [.str t.name, .lst 1 ff (t.attrs.map V.str), .lst 2 gg (t.rows.map encRw)]]) 0 ⟨by omega, by rw [List.drop_zero]; exact hE2⟩ (by simp) (by simp) (by simp) ?_)
      rintro i ⟨hi, hx⟩ N Q hN hQ
      by_cases hb : i < l.length
      · rw [List.drop_eq_getElem_cons hb, List.all_cons] at hx
        obtain ⟨c, hc⟩ : ∃ c, c = l[i] := ⟨_, rfl⟩
        rw [← hc] at hx
        have hc' := hc.symm
        have c3 := has_r (cellsT t) c false hcl
        simp only [LC, encCr] at c3
        have he : hasC (cellsT t) c = cellB t c := by rw [Bool.eq_iff_iff, hasC_iff, cellB_in hv]
        rw [he] at c3
        cases hq : cellB t c with
        | true =>
          rw [hq] at c3
          rw [hq, Bool.true_and] at hx
          refine W_x tok mixed ?_
          simp -implicitDefEqProofs -dsimp [hb, hc', encCr]
          refine (callP (c3) (by simp)).mono ?_
          rintro r H' ⟨rfl, rfl⟩
          simp -implicitDefEqProofs -dsimp [wrapS i (by omega)]
          refine hN (i + 1) _ _ ⟨by omega, hx⟩ (by omega) (by simp) ⟨[], by simp⟩ (by simp [LF]) (by simp)
        | false =>
          rw [hq] at c3
          rw [hq, Bool.false_and, if_neg (by simp)] at hx
          refine W_x tok mixed ?_
          simp -implicitDefEqProofs -dsimp [hb, hc', encCr]
          refine (callP (c3) (by simp)).mono ?_
          rintro r H' ⟨rfl, rfl⟩
          simp -implicitDefEqProofs -dsimp []
          refine hQ _ _ _ ?_
          simp -implicitDefEqProofs -dsimp []
          exact hx
      · rw [List.drop_of_length_le (by omega)] at hx
        refine W_x tok mixed ?_
        simp -implicitDefEqProofs -dsimp [hb]
        refine hQ _ _ _ ?_
        simp -implicitDefEqProofs -dsimp []
        simpa using hx
  · rw [if_neg h0]
    refine conP_of_conH (conH_of_W tok Tryz.func36 rfl rfl ?_)
    refine W_x tok mixed ?_
    simp -implicitDefEqProofs -dsimp [Tryz.f36, List.replicate, encTb, LS, LR, LC]
    refine (callP (c1) (by simp)).mono ?_
    rintro r H' ⟨rfl, rfl⟩
    simp -implicitDefEqProofs -dsimp [h0]
def zTb : V := .agg [.str ByteArray.empty, .nilS, .nilS]
set_option maxHeartbeats 16000000 in
theorem fill_err (t : Tb) (ff gg df cf : Bool) (fds : List Fd) (l : List Cr) (ht : TbOk t) (hF : FdsOk fds) (hl : l.length ≤ 1000000) (h : chkE t fds l ≠ 0) : ConP Tryz.prog 22 [encTb ff gg t, LF df fds, LC cf l] fun r => r = .tup [zTb, .int .i64 (chkE t fds l)] := by
  have c1 := check_u t ff gg df cf fds l ht hF hl
  simp only [encTb, LS, LR, LC, LF] at c1
  refine conP_of_conH (conH_of_W tok Tryz.func22 rfl rfl ?_)
  refine W_x tok mixed ?_
  simp -implicitDefEqProofs -dsimp [Tryz.f22, List.replicate, encTb, LS, LR, LC, LF]
  refine (callP (c1) (by simp)).mono ?_
  rintro r H' ⟨rfl, rfl⟩
  simp -implicitDefEqProofs -dsimp [h]
  rfl
set_option maxHeartbeats 16000000 in
theorem apply_err (t : Tb) (ff gg df cf : Bool) (fds : List Fd) (l : List Cr) (ht : TbOk t) (hF : FdsOk fds) (hl : l.length ≤ 1000000) (h : chkE t fds l ≠ 0) : ConP Tryz.prog 24 [encTb ff gg t, LF df fds, LC cf l] fun r => r = .tup [.int .i64 0, .int .i64 (chkE t fds l)] := by
  have c1 := fill_err t ff gg df cf fds l ht hF hl h
  simp only [encTb, LS, LR, LC, LF, zTb] at c1
  refine conP_of_conH (conH_of_W tok Tryz.func24 rfl rfl ?_)
  refine W_x tok mixed ?_
  simp -implicitDefEqProofs -dsimp [Tryz.f24, List.replicate, encTb, LS, LR, LC, LF]
  refine (callP (c1) (by simp)).mono ?_
  rintro r H' ⟨rfl, rfl⟩
  simp -implicitDefEqProofs -dsimp [h]
set_option maxHeartbeats 16000000 in
theorem isCore_err (t : Tb) (ff gg df cf : Bool) (fds : List Fd) (l : List Cr) (ht : TbOk t) (hF : FdsOk fds) (hl : l.length ≤ 1000000) (h : chkE t fds l ≠ 0) : ConP Tryz.prog 34 [encTb ff gg t, LF df fds, LC cf l] fun r => r = .tup [.bool false, .int .i64 (chkE t fds l)] := by
  have c1 := check_u t ff gg df cf fds l ht hF hl
  simp only [encTb, LS, LR, LC, LF] at c1
  refine conP_of_conH (conH_of_W tok Tryz.func34 rfl rfl ?_)
  refine W_x tok mixed ?_
  simp -implicitDefEqProofs -dsimp [Tryz.f34, List.replicate, encTb, LS, LR, LC, LF]
  refine (callP (c1) (by simp)).mono ?_
  rintro r H' ⟨rfl, rfl⟩
  simp -implicitDefEqProofs -dsimp [h]
theorem check_nil (t : Tb) (ff gg df : Bool) (fds : List Fd) (ht : TbOk t) (hF : FdsOk fds) : ConP Tryz.prog 43 [encTb ff gg t, LF df fds, .nilS] fun r => r = .int .i64 (baseE t fds) := by
  have c1 := check_u t ff gg df false fds [] ht hF (by simp)
  rw [chkE_nil] at c1
  refine conP_args c1 rfl (fun i a b ha hb => ?_)
  match i with
  | 0 => simp at ha hb; subst ha; subst hb; exact .refl _
  | 1 => simp at ha hb; subst ha; subst hb; exact .refl _
  | 2 => simp at ha hb; subst ha; subst hb; exact .nil _ _
  | k + 3 => simp at ha
def zUp : V := .agg [.nilS, .str ByteArray.empty, .nilS, .nilS, .nilS, .nilS]
set_option maxHeartbeats 16000000 in
theorem optimal_err (t : Tb) (ff gg df : Bool) (fds : List Fd) (b : Int) (ht : TbOk t) (hF : FdsOk fds) (h : baseE t fds ≠ 0) : ConP Tryz.prog 28 [encTb ff gg t, LF df fds, .int .i64 b] fun r => r = .tup [zUp, .int .i64 (baseE t fds)] := by
  have c1 := check_nil t ff gg df fds ht hF
  simp only [encTb, LS, LR, LF] at c1
  refine conP_of_conH (conH_of_W tok Tryz.func28 rfl rfl ?_)
  refine W_x tok mixed ?_
  simp -implicitDefEqProofs -dsimp [Tryz.f28, List.replicate, encTb, LS, LR, LF]
  refine (callP (c1) (by simp)).mono ?_
  rintro r H' ⟨rfl, rfl⟩
  simp -implicitDefEqProofs -dsimp [h]
  rfl
set_option maxHeartbeats 16000000 in
theorem check_err (t : Tb) (ff gg df : Bool) (fds : List Fd) (ht : TbOk t) (hF : FdsOk fds) (h : baseE t fds ≠ 0) : ConP Tryz.prog 30 [encTb ff gg t, LF df fds, .agg [.nilS, .str t.name, LS ff t.attrs, LR gg t.rows, .nilS, .lst 2 true [.agg [.int .i64 (-1), .nilS]]]] fun r => r = .bool false := by
  have c1 := check_nil t ff gg df fds ht hF
  simp only [encTb, LS, LR, LF] at c1
  refine conP_of_conH (conH_of_W tok Tryz.func30 rfl rfl ?_)
  refine W_x tok mixed ?_
  simp -implicitDefEqProofs -dsimp [Tryz.f30, List.replicate, encTb, LS, LR, LF]
  refine (callP (c1) (by simp)).mono ?_
  rintro r H' ⟨rfl, rfl⟩
  simp -implicitDefEqProofs -dsimp [h]
end Go.Proofs.YteijbpppalhihaaGreat
