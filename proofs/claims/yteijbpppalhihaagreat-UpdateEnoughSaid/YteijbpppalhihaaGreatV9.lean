/- V9: enough; all cells but some; necessary. Expanded by pp.py. -/
import Derived.Test.YteijbpppalhihaaGreatV8
set_option linter.unusedVariables false
set_option linter.unusedSimpArgs false
set_option maxRecDepth 100000
namespace Go.Proofs.YteijbpppalhihaaGreat
open Go Go.AM
@[simp ↓ high] theorem rbB_LC (n e z : Nat) (l : List Cr) (fz : Bool) : rbB n (.buf e z (l.map encCr) fz) ↔ True := rbB_buf1 (fun x hx => by
  obtain ⟨c, _, rfl⟩ := List.mem_map.1 hx
  exact ⟨encCr_pure c, rfl⟩)
theorem begOk (H : List B) (ff gg : Bool) (t : Tb) (K : Nat → Option Vl) (hb : ∀ bl ∈ H, rbB H.length bl) : HOk (begH H ff gg t K) (H.length + 1) (H.length + 2) (H.length + 3) t.attrs.length (t.rows.length * t.attrs.length) K := by
  have hlen : (begH H ff gg t K).length = H.length + 4 := by simp [begH]
  refine ⟨?_, by omega, ?_, by omega, by omega, fun P bl hbl => ?_⟩
  · unfold begH; rw [List.getElem?_append_right (by omega)]; simp
  · unfold begH; rw [List.getElem?_append_right (by omega)]; simp
  · rw [hlen]
    unfold Ht begH at hbl
    rw [List.set_append_right _ _ (by omega)] at hbl
    rcases List.mem_append.1 hbl with h | h
    · exact rbB_mono (by omega) (hb bl h)
    · simp only [show H.length + 2 - H.length = 2 by omega, List.set_cons_succ, List.set_cons_zero, List.mem_cons, List.not_mem_nil, or_false] at h
      rcases h with rfl | rfl | rfl | rfl
      · simp [LS, LR]
      · simp
      · simp
      · simp
theorem begHt (H : List B) (ff gg : Bool) (t : Tb) (K : Nat → Option Vl) : Ht (begH H ff gg t K) (H.length + 2) (List.range (t.rows.length * t.attrs.length)) = begH H ff gg t K := by
  unfold Ht begH
  rw [List.set_append_right _ _ (by omega)]
  simp only [show H.length + 2 - H.length = 2 by omega, List.set_cons_succ, List.set_cons_zero]
  rfl
theorem prob_small {t : Tb} (hv : TbV t) : t.rows.length * t.attrs.length ≤ 1000000 := by
  have := Nat.mul_le_mul hv.rows hv.attrs
  omega
set_option maxHeartbeats 32000000 in
theorem enough_u (t : Tb) (ff gg df cf : Bool) (fds : List Fd) (cells : List Cr) (hv : TbV t) (hF : FdsOk fds) (hs : sortedC cells) (hcl : cells.length ≤ 1000000) :
    ConP Tryz.prog 44 [encTb ff gg t, LF df fds, LC cf cells] fun r => r = .bool (okB (probT t fds cells)) := by
  obtain ⟨b0, hb0⟩ : ∃ b0, b0 = B.cells [.str t.name, .lst 1 ff (t.attrs.map V.str), .lst 2 gg (t.rows.map encRw)] := ⟨_, rfl⟩
  have hrb : ∀ bl ∈ [b0], rbB 1 bl := by rw [hb0]; simp
  have c1 := begin1 t ff gg cf fds cells hv hs hcl b0 hrb
  have g := begOk [b0] ff gg t (probT t fds cells).K hrb
  have c2 := fill_u (frt_init (probT t fds cells)) (rfl : (probT t fds cells).m * (probT t fds cells).n = _) rfl g (prob_small hv) hv.attrs (by have := hv.rows; show t.rows.length ≤ _; omega) df hF
  have hht := begHt [b0] ff gg t (probT t fds cells).K
  rw [show List.range ((probT t fds cells).m * (probT t fds cells).n) = List.range (t.rows.length * t.attrs.length) from rfl] at c2
  rw [hht] at c2
  have c2 := c2.mono (K' := fun r' H' => r' = .bool (okB (probT t fds cells)) ∧ H' = Ht (begH [b0] ff gg t (probT t fds cells).K) 3 (fillP (probT t fds cells) (List.range (t.rows.length * t.attrs.length))) ++ fillT (probT t fds cells) (List.range (t.rows.length * t.attrs.length))) (fun r H ⟨a, b, _⟩ => ⟨a, b⟩)
  obtain ⟨H1, hH1⟩ : ∃ H1, H1 = begH [b0] ff gg t (probT t fds cells).K := ⟨_, rfl⟩
  obtain ⟨H2, hH2⟩ : ∃ H2, H2 = Ht (begH [b0] ff gg t (probT t fds cells).K) 3 (fillP (probT t fds cells) (List.range (t.rows.length * t.attrs.length))) ++ fillT (probT t fds cells) (List.range (t.rows.length * t.attrs.length)) := ⟨_, rfl⟩
  obtain ⟨R, hR⟩ : ∃ R, R = okB (probT t fds cells) := ⟨_, rfl⟩
  rw [← hH1] at c1
  rw [← hH2, ← hR, ← hH1] at c2
  rw [← hR]
  have hat : H1[0]? = some b0 := by rw [hH1]; rfl
  rw [hb0] at hat
  rw [hb0] at c1
  simp only [show (probT t fds cells).m = t.rows.length from rfl, show (probT t fds cells).fds = fds from rfl] at c2
  simp only [encTb, LS, LR, LC] at c1
  simp only [LF] at c2
  refine conP_of_conH (conH_of_W tok Tryz.func44 rfl rfl ?_)
  refine W_x tok mixed ?_
  simp -implicitDefEqProofs -dsimp [Tryz.f44, List.replicate, encTb, LS, LR, LC, LF]
  refine .inl (lw_of (W_drawT tok mixed [2, 7] [(4, [0]), (5, [0])] [(.ptr 2 0, H1), (.bool R, H2)] (by kernel_rfl) fun C K hC hK => ?_))
  simp -implicitDefEqProofs [hat]
  refine ⟨⟨hC _ _ _ _ c1, hC _ _ _ _ c2⟩, hK _ _ ?_⟩
  simp -implicitDefEqProofs -dsimp []
/-- The cells before x that are not in a list. -/
noncomputable def othTo (t : Tb) (l : List Cr) (x : Nat) : List Cr := open Classical in ((List.range x).map (crAt t)).filter fun c => decide (c ∉ l)
theorem othTo_all (t : Tb) (l : List Cr) : othTo t l (t.rows.length * t.attrs.length) = othersT t l := rfl
theorem othTo_zero (t : Tb) (l : List Cr) : othTo t l 0 = [] := rfl
theorem othTo_in {t : Tb} {l : List Cr} {x : Nat} (h : crAt t x ∈ l) : othTo t l (x + 1) = othTo t l x := by
  unfold othTo
  rw [List.range_succ, List.map_append, List.filter_append]
  simp [h]
theorem othTo_out {t : Tb} {l : List Cr} {x : Nat} (h : crAt t x ∉ l) : othTo t l (x + 1) = othTo t l x ++ [crAt t x] := by
  unfold othTo
  rw [List.range_succ, List.map_append, List.filter_append]
  simp [h]
theorem othTo_len (t : Tb) (l : List Cr) (x : Nat) : (othTo t l x).length ≤ x := by
  unfold othTo
  exact Nat.le_trans (List.length_filter_le _ _) (by simp)
theorem cap16 (n : Nat) (h : n ≤ 1000000000) : n ≤ 9223372036854775806 ∧ (n + 1) * 16 ≤ 140737488355328 := by omega
set_option maxHeartbeats 32000000 in
theorem all_u (t : Tb) (ff gg cf : Bool) (but : List Cr) (hv : TbV t) (hs : sortedC but) (hcl : but.length ≤ 1000000) : ConP Tryz.prog 66 [encTb ff gg t, LC cf but] fun r => r = LC false (othersT t but) := by
  have hm := hv.rows
  have hn := hv.attrs
  obtain ⟨n, hne⟩ : ∃ n, n = t.attrs.length := ⟨_, rfl⟩
  obtain ⟨m, hme⟩ : ∃ m, m = t.rows.length := ⟨_, rfl⟩
  have hne' := hne.symm
  have hme' := hme.symm
  rw [hne'] at hn
  rw [hme'] at hm
  refine conP_of_conH (conH_of_W tok Tryz.func66 rfl rfl ?_)
  refine W_x tok mixed ?_
  simp -implicitDefEqProofs -dsimp [Tryz.f66, List.replicate, encTb, LS, LR, hne', hme']
  refine lw_of (W_own 49 2 [5] (by simp) (W_loopV [false, false, false, false, false, true, false, true, true, true, true, true, false, false, false, true, true, true, true, true, true, true, true, true, true, true, true, true, true, true, true, true, true, true, true, true, true, true, true, true, true, true, true] (σ := Nat × Nat) (fun p => p.1 ≤ m ∧ p.2 = p.1 * n) (fun p => m - p.1) (fun p => [(15, .int .i64 p.1), (5, .buf 1 0 (othTo t but p.2).length (othTo t but p.2).length)]) (fun p => [B.cells [.str t.name, .lst 1 ff (t.attrs.map V.str), .lst 2 gg (t.rows.map encRw)], B.buf 49 2 ((othTo t but p.2).map encCr) false]) (0, 0) ⟨by simp, by simp⟩ (by simp [othTo_zero]) (by simp [othTo_zero]) (by simp) ?_))
  rintro ⟨i, c⟩ ⟨hi, hc⟩ N Q hN hQ
  simp only at hi hc hN
  by_cases hib : i < m
  · have hit : i < t.rows.length := by omega
    obtain ⟨rw, hrw⟩ : ∃ rw, rw = t.rows[i] := ⟨_, rfl⟩
    have hrw' := hrw.symm
    refine W_x tok mixed ?_
    simp -implicitDefEqProofs -dsimp [hib, hrw', encRw, hit, LV, hne']
    refine lw_of (W_loopV [false, false, false, false, false, true, false, false, true, true, true, true, false, false, false, false, false, false, false, false, false, false, true, true, true, true, true, true, true, true, true, true, true, true, true, true, true, true, true, true, true, true] (σ := Nat × Nat) (fun p => p.1 ≤ n ∧ p.2 = i * n + p.1) (fun p => n - p.1) (fun p => [(22, .int .i64 p.1), (5, .buf 1 0 (othTo t but p.2).length (othTo t but p.2).length)]) (fun p => [B.cells [.str t.name, .lst 1 ff (t.attrs.map V.str), .lst 2 gg (t.rows.map encRw)], B.buf 49 2 ((othTo t but p.2).map encCr) false, B.cells [.int .i64 rw.id, .lst 3 false (rw.vals.map encV)]]) (0, c) ⟨by simp, by simp [hc]⟩ (by simp) (by simp) (by simp) ?_)
    rintro ⟨a, c2⟩ ⟨ha, hc2⟩ N2 Q2 hN2 hQ2
    simp only at ha hc2 hN2
    by_cases hab : a < n
    · have hlt := cell_lt hib hab
      have hbig : m * n ≤ 1000 * 16 := Nat.mul_le_mul hm hn
      have hol := othTo_len t but c2
      have hat : crAt t c2 = ⟨rw.id, (a : Int)⟩ := by
        rw [hc2, hne, crAt_at t (hne ▸ hab), rwAt_in hit, ← hrw]
      have hbs := bsearchC but ⟨rw.id, (a : Int)⟩ cf hcl
      simp only [encCr] at hbs
      have hmem := bsF_mem hs ⟨rw.id, (a : Int)⟩
      cases hq : bsF but ⟨rw.id, (a : Int)⟩ with
      | true =>
        rw [hq] at hbs
        have hst := othTo_in (t := t) (l := but) (x := c2) (by rw [hat]; exact hmem.1 hq)
        refine W_x tok mixed ?_
        simp -implicitDefEqProofs -dsimp [hab]
        refine (callP (hbs) (by simp)).mono ?_
        rintro r H' ⟨rfl, rfl⟩
        simp -implicitDefEqProofs -dsimp [wrapS a (by omega)]
        refine hN2 (a + 1, c2 + 1) _ _ ⟨by simp only; omega, by simp only; omega⟩ (by simp only; omega) (by simp [hst]) ⟨[B.cells [.int .i64 rw.id, .int .i64 a]], by simp [hst]⟩ (by simp [LC]) (by simp)
      | false =>
        rw [hq] at hbs
        have hst := othTo_out (t := t) (l := but) (x := c2) (by rw [hat]; exact fun h => by rw [hmem.2 h] at hq; cases hq)
        rw [hat] at hst
        refine W_x tok mixed ?_
        simp -implicitDefEqProofs -dsimp [hab]
        refine (callP (hbs) (by simp)).mono ?_
        rintro r H' ⟨rfl, rfl⟩
        simp -implicitDefEqProofs -dsimp [cap16 (othTo t but c2).length (by omega), wrapS a (by omega)]
        refine hN2 (a + 1, c2 + 1) _ _ ⟨by simp only; omega, by simp only; omega⟩ (by simp only; omega) (by simp [hst]) ⟨[B.cells [.int .i64 rw.id, .int .i64 a]], by simp [hst, encCr]⟩ (by simp [LC]) (by simp)
    · have hae : a = n := by omega
      subst hae
      refine W_x tok mixed ?_
      simp -implicitDefEqProofs -dsimp [hab]
      refine hQ2 _ _ _ ?_
      simp -implicitDefEqProofs -dsimp [wrapS i (by omega)]
      refine hN (i + 1, c2) _ _ ⟨by simp only; omega, by simp only; rw [hc2, Nat.add_mul]; omega⟩ (by simp only; omega) (by simp) ⟨_, rfl⟩ (by simp [LC]) (by simp)
  · have hie : i = m := by omega
    subst hie
    refine W_x tok mixed ?_
    simp -implicitDefEqProofs -dsimp [hib]
    refine hQ _ _ _ ?_
    simp -implicitDefEqProofs -dsimp []
    rw [← othTo_all, ← hme, ← hne, ← hc]
    exact exp_buf rfl (by simp) (by simp)
theorem mem_len_others (t : Tb) (hv : TbV t) (l : List Cr) : (othersT t l).length ≤ 1000000 := by
  have h := othTo_len t l (t.rows.length * t.attrs.length)
  rw [othTo_all] at h
  have := prob_small hv
  omega
set_option maxHeartbeats 32000000 in
theorem necessary_u (t : Tb) (ff gg df cf : Bool) (fds : List Fd) (cells : List Cr) (hv : TbV t) (hF : FdsOk fds) (hs : sortedC cells) (hcl : cells.length ≤ 1000000) :
    ConP Tryz.prog 48 [encTb ff gg t, LF df fds, LC cf cells] fun r => r = .bool (necB t fds cells) := by
  have c1 := all_u t ff gg cf cells hv hs hcl
  have c2 := enough_u t ff gg df false fds (othersT t cells) hv hF (hv.sorted_others cells) (mem_len_others t hv cells)
  rw [necB_eq]
  simp only [encTb, LS, LR, LC, LF] at c1 c2
  refine conP_of_conH (conH_of_W tok Tryz.func48 rfl rfl ?_)
  refine W_x tok mixed ?_
  simp -implicitDefEqProofs -dsimp [Tryz.f48, List.replicate, encTb, LS, LR, LC, LF]
  refine .inr ⟨stop_of (by kernel_rfl), ?_⟩
  refine cy_of _ (callP (c1) (by simp)) ?_
  simp -implicitDefEqProofs -dsimp []
  refine cy_of _ (callP (c2) (by simp)) ?_
  simp -implicitDefEqProofs -dsimp []
end Go.Proofs.YteijbpppalhihaaGreat
