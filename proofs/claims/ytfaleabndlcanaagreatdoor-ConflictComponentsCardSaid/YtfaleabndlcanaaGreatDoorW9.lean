/- W9: drossref37.Edges. Expanded by pp.py. -/
import Derived.Test.YtfaleabndlcanaaGreatDoorW8
set_option linter.unusedSimpArgs false
set_option maxRecDepth 100000
namespace Go.Proofs.YtfaleabndlcanaaGreatDoor
open Go Go.AM
set_option maxHeartbeats 16000000 in
theorem edges37 (l : List (List Int)) (g : Bool) (hl : l.length ≤ 1000000) (hls : ∀ e ∈ l, e.length ≤ 1000000) (hne : ∀ e ∈ l, e ≠ []) : ConP Tryz.prog 45 [LL g l] fun r => r = LL false (edgesF l) := by
  refine conP_of_conH (conH_of_W (tok_flag tok (fun t => t == 46)) Tryz.func45 rfl rfl ?_)
  refine W_x (tok_flag tok (fun t => t == 46)) mixed ?_
  simp -implicitDefEqProofs -dsimp [Tryz.f45, List.replicate, LL, L1, flagT]
  refine lw_of (W_own 46 1 [3] (by simp) (W_loopV [false, false, false, true, true, true, true, true, true, true, true, true, true, true, true, true, true, true, true, true, true, true, true, true, true, true, true, true, true, true, true, true, true, true, true, true, true, true, true, true, true, true, true, true, true, true, true, true, true, true, true, true, true, true, true, true, true, true, true, true, true, true, true, true, true, true, true, true, true, true, true, true, true, true, true, true, true, true, true, true, true, true, true, true, true, true, true, true, true, true, true, true, true] (σ := Nat) (fun i => i ≤ l.length) (fun i => l.length - i) (fun i => [(4, .int .i64 i), (3, .buf 0 0 (edgesTo l i).length (edgesTo l i).length)]) (fun i => [B.buf 46 1 ((edgesTo l i).map (L1 false)) false]) 0 (by omega) (by simp [edgesTo]) (by simp [edgesTo]) (by simp) ?_))
  intro i hi N Q hN hQ
  by_cases hb : i < l.length
  · have hei := hls l[i] (List.getElem_mem hb)
    have hni := hne l[i] (List.getElem_mem hb)
    have hal := edgesTo_len l i
    have hsi : edgesTo l (i + 1) = if keepE l i then insE (edgesTo l i) (eAt l i) else edgesTo l i := rfl
    have hEi : eAt l i = l[i] := getD_at hb
    rw [hEi] at hsi
    obtain ⟨acc, hacc⟩ : ∃ acc, acc = edgesTo l i := ⟨_, rfl⟩
    rw [← hacc] at hal hsi ⊢
    refine W_x (tok_flag tok (fun t => t == 46)) mixed ?_
    simp -implicitDefEqProofs -dsimp [LL, hb, L1, flagT]
    refine lw_of (W_loopV [false, false, false, false, false, true, true, false, false, false, false, false, false, false, true, true, true, true, true, true, true, true, true, true, true, true, true, true, true, true, true, true, true, true, true, true, true, true, true, true, true, true, true, true, true, true, true] (σ := Nat) (fun k => k ≤ l.length) (fun k => l.length - k) (fun k => [(6, .int .i64 k), (5, .bool (keepTo l i k))]) (fun _ => [B.buf 46 1 (acc.map (L1 false)) false]) 0 (by omega) (by simp [keepTo]) (by simp) (by simp) ?_)
    intro k hk N2 Q2 hN2 hQ2
    by_cases hkb : k < l.length
    · 
      have hek := hls l[k] (List.getElem_mem hkb)
      have hc := within37 l[k] l[i] false false hek hei
      have hEk : eAt l k = l[k] := getD_at hkb
      have hd : keepTo l i (k + 1) = (keepTo l i k && !(within l[k] l[i] && (decide (l[k].length < l[i].length) || decide (k < i)))) := by simp only [keepTo, dropE, hEk, hEi]
      simp only [L1] at hc
      refine W_x (tok_flag tok (fun t => t == 46)) mixed ?_
      simp -implicitDefEqProofs -dsimp [LL, L1, hb, hkb, L1, flagT]
      refine .inr ⟨stop_of (by kernel_rfl), ?_⟩
      refine cy_of _ (callP (hc) (by simp)) ?_
      cases h1 : within l[k] l[i]
      · rw [h1] at hd
        simp -implicitDefEqProofs -dsimp [wrapS k (by omega), L1, flagT]
        refine hN2 (k + 1) _ _ (by omega) (by omega) ?_ ⟨[], ?_⟩ ?_ ?_ <;> simp [or_imp, forall_and, L1, encI, hd]
      · by_cases h2 : l[k].length < l[i].length
        · simp -implicitDefEqProofs -dsimp [wrapS k (by omega), hb, hkb, h2, L1, flagT]
          refine hN2 (k + 1) _ _ (by omega) (by omega) ?_ ⟨[], ?_⟩ ?_ ?_ <;> simp [or_imp, forall_and, L1, encI, hd, h1, h2]
        · by_cases h3 : k < i
          · simp -implicitDefEqProofs -dsimp [wrapS k (by omega), hb, hkb, h2, h3, L1, flagT]
            refine hN2 (k + 1) _ _ (by omega) (by omega) ?_ ⟨[], ?_⟩ ?_ ?_ <;> simp [or_imp, forall_and, L1, encI, hd, h1, h2, h3]
          · simp -implicitDefEqProofs -dsimp [wrapS k (by omega), hb, hkb, h2, h3, L1, flagT]
            refine hN2 (k + 1) _ _ (by omega) (by omega) ?_ ⟨[], ?_⟩ ?_ ?_ <;> simp [or_imp, forall_and, L1, encI, hd, h1, h2, h3]
    · obtain rfl : k = l.length := by omega
      have hke : keepTo l i l.length = keepE l i := rfl
      refine W_x (tok_flag tok (fun t => t == 46)) mixed ?_
      simp -implicitDefEqProofs -dsimp [hkb, L1, flagT]
      refine hQ2 _ _ _ ?_
      simp -implicitDefEqProofs -dsimp [L1, flagT]
      cases hkp : keepE l i
      · rw [hkp] at hsi hke
        simp -implicitDefEqProofs -dsimp [hke, wrapS i (by omega), L1, flagT]
        refine hN (i + 1) _ _ (by omega) (by omega) ?_ ⟨[], ?_⟩ ?_ ?_ <;> simp [or_imp, forall_and, L1, encI, hsi]
      · rw [hkp] at hsi hke
        simp -implicitDefEqProofs -dsimp [hke, hb, hni, cap24 acc.length (by omega), capL8 l[i].length (by omega), wrapN acc.length (by omega), L1, flagT]
        refine lw_of (W_loopV [false, false, false, false, false, false, false, true, false, false, false, false, false, false, false, false, false, false, false, false, false, false, false, false, false, false, false, false, false, false, false, false, false, false, false, false, false, false, false, false, false, false, false, false, false, false, false, false, false, false, false, false, false, false, false, false, false, false, false, false, false, true, true, true, true, true, true, true, true, true, true, true, true, true, true, true, true, true, true, true, true, true, true, true, true, true, true, true, true, true, true, true, true] (σ := Nat) (fun k => k ≤ acc.length ∧ insPos acc l[i] k = insPos acc l[i] acc.length) (fun k => k) (fun k => [(7, .int .i64 k)]) (fun k => [B.buf 46 1 ((insAt acc l[i] k).map (L1 false)) false]) acc.length ⟨by omega, rfl⟩ (by simp) (by simp [insAt, L1]) (by simp) ?_)
        rintro k ⟨hk1, hk2⟩ N3 Q3 hN3 hQ3
        by_cases hk0 : k = 0
        · subst hk0
          have hfin : edgesTo l (i + 1) = insAt acc l[i] 0 := by rw [hsi, if_pos rfl, insE, ← hk2]; rfl
          refine W_x (tok_flag tok (fun t => t == 46)) mixed ?_
          simp -implicitDefEqProofs -dsimp [L1, flagT]
          refine .inr ⟨stop_of (by kernel_rfl), ?_⟩
          refine hQ3 _ _ _ ?_
          simp -implicitDefEqProofs -dsimp [wrapS i (by omega), L1, flagT]
          refine hN (i + 1) _ _ (by omega) (by omega) ?_ ⟨[], ?_⟩ ?_ ?_ <;> simp [or_imp, forall_and, L1, encI, hfin, insAt_len]
        · have hcl := insAt_len acc l[i] k
          have hck := insAt_k acc l[i] k hk1 (by omega)
          have hcp := insAt_p acc l[i] k hk1 (by omega) (by omega)
          have hsw := insAt_swap acc l[i] k hk1 (by omega)
          have hbk : k < (insAt acc l[i] k).length := by omega
          have hbp : k - 1 < (insAt acc l[i] k).length := by omega
          obtain ⟨a, ha⟩ : ∃ a, a = eAt acc (k - 1) := ⟨_, rfl⟩
          rw [← ha] at hcp hsw
          have hal2 : a.length ≤ 1000000 := hls a (edgesTo_mem hi (by rw [← hacc, ha, getD_at (by omega)]; exact List.getElem_mem _))
          have hc := before37 l[i] a false false hei hal2
          obtain ⟨cur, hcur⟩ : ∃ cur, cur = insAt acc l[i] k := ⟨_, rfl⟩
          rw [← hcur] at hcl hsw hbk hbp ⊢
          have hck : cur[k] = l[i] := by subst hcur; exact hck
          have hcp : cur[k - 1] = a := by subst hcur; exact hcp
          have hpos : insPos acc l[i] k = if lexLt l[i] a then insPos acc l[i] (k - 1) else k := by
            obtain ⟨m, rfl⟩ : ∃ m, k = m + 1 := ⟨k - 1, by omega⟩
            rw [ha]; rfl
          simp only [L1] at hc
          have hgk : cur[k]? = some l[i] := by rw [List.getElem?_eq_getElem hbk, hck]
          have hgp : cur[k - 1]? = some a := by rw [List.getElem?_eq_getElem hbp, hcp]
          have hi1 : (k : Int) < (acc.length : Int) + 1 := by omega
          have hi2 : ((k - 1 : Nat) : Int) < (acc.length : Int) + 1 := by omega
          cases hlt : lexLt l[i] a
          · rw [hlt] at hc hpos
            have hfin : edgesTo l (i + 1) = cur := by rw [hsi, if_pos rfl, insE, ← hk2, hpos, hcur]; rfl
            refine W_x (tok_flag tok (fun t => t == 46)) mixed ?_
            simp -implicitDefEqProofs -dsimp [hgk, hgp, hcl, hi1, hi2, wrapP k (by omega) (by omega), show 0 < k by omega, L1, flagT]
            refine .inr ⟨stop_of (by kernel_rfl), ?_⟩
            refine cy_of _ (callP (hc) (by simp)) ?_
            simp -implicitDefEqProofs -dsimp [L1, flagT]
            refine hQ3 _ _ _ ?_
            simp -implicitDefEqProofs -dsimp [wrapS i (by omega), L1, flagT]
            refine hN (i + 1) _ _ (by omega) (by omega) ?_ ⟨[], ?_⟩ ?_ ?_ <;> simp [or_imp, forall_and, L1, encI, hfin, hcl]
          · rw [hlt] at hc hpos
            refine W_x (tok_flag tok (fun t => t == 46)) mixed ?_
            simp -implicitDefEqProofs -dsimp [hgk, hgp, hcl, hi1, hi2, wrapP k (by omega) (by omega), show 0 < k by omega, L1, flagT]
            refine .inr ⟨stop_of (by kernel_rfl), ?_⟩
            refine cy_of _ (callP (hc) (by simp)) ?_
            simp -implicitDefEqProofs -dsimp [L1, flagT]
            have hs1 : ((cur.map (L1 false)).set k (V.lst 1 false (a.map encI)))[k - 1]? = some (V.lst 1 false (a.map encI)) := by
              rw [List.getElem?_set_ne (by omega), List.getElem?_map, hgp]; rfl
            have hs2 : ((cur.map (L1 false)).set k (V.lst 1 false (a.map encI))).set (k - 1) (V.lst 1 false (l[i].map encI)) = (insAt acc l[i] (k - 1)).map (L1 false) := by
              rw [← hsw]; simp only [List.map_set, L1]
            refine lw_of (W_drawT (tok_flag tok (fun t => t == 46)) mixed [15, 17] [(2, [1]), (3, [1]), (4, [1])] [] (by kernel_rfl) fun C K hC hK => ?_)
            simp -implicitDefEqProofs [hgk, hgp, hcl, hi1, hi2, wrapP k (by omega) (by omega), hs1, hs2, L1, flagT]
            refine hK _ _ ?_
            simp -implicitDefEqProofs -dsimp [wrapP k (by omega) (by omega), L1, flagT]
            refine hN3 (k - 1) _ _ ⟨by omega, by rw [← hk2, hpos]; rfl⟩ (by omega) ?_ ⟨[], ?_⟩ ?_ ?_ <;> simp [or_imp, forall_and, L1, encI]
  · have hp : edgesTo l i = edgesF l := by unfold edgesF; congr 1; omega
    refine W_x (tok_flag tok (fun t => t == 46)) mixed ?_
    simp -implicitDefEqProofs -dsimp [hb, L1, flagT]
    refine hQ _ _ _ ?_
    simp -implicitDefEqProofs -dsimp [L1, flagT]
    rw [← hp]
    exact exp_buf rfl (by simp) (by simp)
end Go.Proofs.YtfaleabndlcanaaGreatDoor
