/- V11: check, Enough. Expanded by pp.py. -/
import Derived.Test.YteijbpppalhihaaGreatV10
set_option linter.unusedVariables false
set_option linter.unusedSimpArgs false
set_option maxRecDepth 100000
namespace Go.Proofs.YteijbpppalhihaaGreat
open Go Go.AM
/-- The reference of a cell of the table. -/
def cellB (t : Tb) (c : Cr) : Bool := hasId t c.id && (decide (0 ≤ c.attr) && decide (c.attr < t.attrs.length))
noncomputable def chkE (t : Tb) (fds : List Fd) (cells : List Cr) : Int := open Classical in if validT t ≠ 0 then validT t else if fdsErr t.attrs.length fds ≠ 0 then fdsErr t.attrs.length fds else if 60 < t.rows.length * t.attrs.length then 3 else if ¬ sortedC cells then 1 else if cells.all (cellB t) then 0 else 4
theorem chkE_ok {t : Tb} {fds : List Fd} {cells : List Cr} (h : TbOk t) (he : chkE t fds cells = 0) : TbV t ∧ fdsErr t.attrs.length fds = 0 ∧ t.rows.length * t.attrs.length ≤ 60 ∧ sortedC cells ∧ cells.all (cellB t) = true := by
  unfold chkE at he
  split at he
  · rename_i h1; exact absurd he h1
  · rename_i h1
    split at he
    · rename_i h2; exact absurd he h2
    · rename_i h2
      split at he
      · cases he
      · rename_i h3
        split at he
        · cases he
        · rename_i h4
          split at he
          · rename_i h5
            exact ⟨tbV_of h (Classical.not_not.1 h1), Classical.not_not.1 h2, by omega, Classical.not_not.1 h4, h5⟩
          · cases he
set_option maxHeartbeats 32000000 in
theorem check_u (t : Tb) (ff gg df cf : Bool) (fds : List Fd) (cells : List Cr) (ht : TbOk t) (hF : FdsOk fds) (hcl : cells.length ≤ 1000000) :
    ConP Tryz.prog 43 [encTb ff gg t, LF df fds, LC cf cells] fun r => r = .int .i64 (chkE t fds cells) := by
  have c1 := tableValid t ff gg ht
  simp only [encTb, LS, LR] at c1
  by_cases h1 : validT t = 0
  · have hv := tbV_of ht h1
    rw [h1] at c1
    have c2 := closureValid t.attrs.length fds df hv.attrs hF
    by_cases h2 : fdsErr t.attrs.length fds = 0
    · rw [h2] at c2
      have hm := hv.rows
      have hn := hv.attrs
      have hmn := Nat.mul_le_mul hm hn
      have hw : IntKind.i64.wrap ((t.rows.length : Int) * (t.attrs.length : Int)) = ((t.rows.length * t.attrs.length : Nat) : Int) := by rw [wrap64 (by rw [← Int.natCast_mul]; omega) (by rw [← Int.natCast_mul]; omega)]; push_cast; rfl
      obtain ⟨mn, hmn'⟩ : ∃ mn, mn = t.rows.length * t.attrs.length := ⟨_, rfl⟩
      rw [← hmn'] at hw
      by_cases h3 : 60 < mn
      · rw [show chkE t fds cells = 3 by unfold chkE; rw [if_neg (by simp [h1]), if_neg (by simp [h2]), if_pos (by omega)]]
        refine conP_of_conH (conH_of_W tok Tryz.func43 rfl rfl ?_)
        refine W_x tok mixed ?_
        simp -implicitDefEqProofs -dsimp [Tryz.f43, List.replicate, encTb, LS, LR]
        refine (callP (c1) (by simp)).mono ?_
        rintro r H' ⟨rfl, rfl⟩
        simp -implicitDefEqProofs -dsimp []
        refine (callP (c2) (by simp)).mono ?_
        rintro r H' ⟨rfl, rfl⟩
        simp -implicitDefEqProofs -dsimp [hw, show (60 : Int) < mn by omega]
      · have c3 := ordered_u cells cf hcl
        by_cases h4 : sortedC cells
        · rw [sortB_iff.2 h4] at c3
          obtain ⟨E, hE⟩ : ∃ E, E = chkE t fds cells := ⟨_, rfl⟩
          have hE1 : chkE t fds cells = if cells.all (cellB t) then (0 : Int) else 4 := by unfold chkE; rw [if_neg (by simp [h1]), if_neg (by simp [h2]), if_neg (by omega), if_neg (by simp [h4])]
          have hE2 : (if cells.all (cellB t) then (0 : Int) else 4) = E := by rw [hE, hE1]
          rw [← hE]
          simp only [LC] at c3
          refine conP_of_conH (conH_of_W tok Tryz.func43 rfl rfl ?_)
          refine W_x tok mixed ?_
          simp -implicitDefEqProofs -dsimp [Tryz.f43, List.replicate, encTb, LS, LR, LC]
          refine (callP (c1) (by simp)).mono ?_
          rintro r H' ⟨rfl, rfl⟩
          simp -implicitDefEqProofs -dsimp []
          refine (callP (c2) (by simp)).mono ?_
          rintro r H' ⟨rfl, rfl⟩
          simp -implicitDefEqProofs -dsimp [hw, show ¬ (60 : Int) < mn by omega]
          refine (callP (c3) (by simp)).mono ?_
          rintro r H' ⟨rfl, rfl⟩
          simp -implicitDefEqProofs -dsimp []
          refine lw_of (W_loopV [false, false, false, false, false, false, true, false, false, false, true, true, true, false, false, false, false, false, false, false, false, false, false, false, false, false, false, false, false, false, false, false, false, false, false, false, false, false, false, true, true, true, true, true, true, true, true, true, true, true, true, true, true, true, true, true, true, true, true, true, true, true, true, true, true, true] (σ := Nat) (fun i => i ≤ cells.length ∧ (if (cells.drop i).all (cellB t) then (0 : Int) else 4) = E) (fun i => cells.length - i) (fun i => [(39, .int .i64 i)]) (fun _ => [B.cells [.str t.name, .lst 1 ff (t.attrs.map V.str), .lst 2 gg (t.rows.map encRw)]]) 0 ⟨by omega, by rw [List.drop_zero]; exact hE2⟩ (by simp) (by simp) (by simp) ?_)
          rintro i ⟨hi, hx⟩ N Q hN hQ
          by_cases hb : i < cells.length
          · rw [List.drop_eq_getElem_cons hb, List.all_cons] at hx
            obtain ⟨c, hc⟩ : ∃ c, c = cells[i] := ⟨_, rfl⟩
            rw [← hc] at hx
            have hc' := hc.symm
            have c4 := find_t t ff gg c.id ht.rows
            simp only [encTb, LS, LR] at c4
            obtain ⟨fi, hfi⟩ : ∃ fi, fi = (if 0 ≤ findI t c.id then findI t c.id else 0) := ⟨_, rfl⟩
            rw [← hfi] at c4
            cases h5 : hasId t c.id with
            | false =>
              rw [h5] at c4
              rw [show cellB t c = false by simp [cellB, h5], Bool.false_and, if_neg (by simp)] at hx
              refine W_x tok mixed ?_
              simp -implicitDefEqProofs -dsimp [hb, hc', encCr]
              refine (callP (c4) (by simp)).mono ?_
              rintro r H' ⟨rfl, rfl⟩
              simp -implicitDefEqProofs -dsimp []
              refine hQ _ _ _ ?_
              simp -implicitDefEqProofs -dsimp []
              exact hx
            | true =>
              rw [h5] at c4
              by_cases h6 : 0 ≤ c.attr
              · by_cases h7 : c.attr < t.attrs.length
                · rw [show cellB t c = true by simp [cellB, h5, h6, h7], Bool.true_and] at hx
                  refine W_x tok mixed ?_
                  simp -implicitDefEqProofs -dsimp [hb, hc', encCr]
                  refine (callP (c4) (by simp)).mono ?_
                  rintro r H' ⟨rfl, rfl⟩
                  simp -implicitDefEqProofs -dsimp [show ¬ c.attr < 0 by omega, show ¬ (t.attrs.length : Int) ≤ c.attr by omega, wrapS i (by omega)]
                  refine hN (i + 1) _ _ ⟨by omega, hx⟩ (by omega) ?_ ⟨[B.cells [.int .i64 c.id, .int .i64 c.attr]], ?_⟩ ?_ ?_ <;> simp [or_imp, forall_and, L1, encI, LF, LC]
                · rw [show cellB t c = false by simp [cellB, h7], Bool.false_and, if_neg (by simp)] at hx
                  refine W_x tok mixed ?_
                  simp -implicitDefEqProofs -dsimp [hb, hc', encCr]
                  refine (callP (c4) (by simp)).mono ?_
                  rintro r H' ⟨rfl, rfl⟩
                  simp -implicitDefEqProofs -dsimp [show ¬ c.attr < 0 by omega, show (t.attrs.length : Int) ≤ c.attr by omega]
                  refine hQ _ _ _ ?_
                  simp -implicitDefEqProofs -dsimp []
                  exact hx
              · rw [show cellB t c = false by simp [cellB, h6], Bool.false_and, if_neg (by simp)] at hx
                refine W_x tok mixed ?_
                simp -implicitDefEqProofs -dsimp [hb, hc', encCr]
                refine (callP (c4) (by simp)).mono ?_
                rintro r H' ⟨rfl, rfl⟩
                simp -implicitDefEqProofs -dsimp [show c.attr < 0 by omega]
                refine hQ _ _ _ ?_
                simp -implicitDefEqProofs -dsimp []
                exact hx
          · rw [List.drop_of_length_le (by omega)] at hx
            refine W_x tok mixed ?_
            simp -implicitDefEqProofs -dsimp [hb]
            refine hQ _ _ _ ?_
            simp -implicitDefEqProofs -dsimp []
            simpa using hx
        · have hno : sortB cells = false := by
            cases hb : sortB cells
            · rfl
            · exact absurd (sortB_iff.1 hb) h4
          rw [hno] at c3
          rw [show chkE t fds cells = 1 by unfold chkE; rw [if_neg (by simp [h1]), if_neg (by simp [h2]), if_neg (by omega), if_pos h4]]
          refine conP_of_conH (conH_of_W tok Tryz.func43 rfl rfl ?_)
          refine W_x tok mixed ?_
          simp -implicitDefEqProofs -dsimp [Tryz.f43, List.replicate, encTb, LS, LR]
          refine (callP (c1) (by simp)).mono ?_
          rintro r H' ⟨rfl, rfl⟩
          simp -implicitDefEqProofs -dsimp []
          refine (callP (c2) (by simp)).mono ?_
          rintro r H' ⟨rfl, rfl⟩
          simp -implicitDefEqProofs -dsimp [hw, show ¬ (60 : Int) < mn by omega]
          refine (callP (c3) (by simp)).mono ?_
          rintro r H' ⟨rfl, rfl⟩
          simp -implicitDefEqProofs -dsimp []
    · rw [show chkE t fds cells = fdsErr t.attrs.length fds by unfold chkE; rw [if_neg (by simp [h1]), if_pos h2]]
      refine conP_of_conH (conH_of_W tok Tryz.func43 rfl rfl ?_)
      refine W_x tok mixed ?_
      simp -implicitDefEqProofs -dsimp [Tryz.f43, List.replicate, encTb, LS, LR]
      refine (callP (c1) (by simp)).mono ?_
      rintro r H' ⟨rfl, rfl⟩
      simp -implicitDefEqProofs -dsimp []
      refine (callP (c2) (by simp)).mono ?_
      rintro r H' ⟨rfl, rfl⟩
      simp -implicitDefEqProofs -dsimp [h2]
  · rw [show chkE t fds cells = validT t by unfold chkE; rw [if_pos h1]]
    refine conP_of_conH (conH_of_W tok Tryz.func43 rfl rfl ?_)
    refine W_x tok mixed ?_
    simp -implicitDefEqProofs -dsimp [Tryz.f43, List.replicate, encTb, LS, LR]
    refine (callP (c1) (by simp)).mono ?_
    rintro r H' ⟨rfl, rfl⟩
    simp -implicitDefEqProofs -dsimp [h1]
theorem fds_ok {fds : List Fd} {n : Nat} (h : fdsErr n fds = 0) : fds.length ≤ 64 := by
  unfold fdsErr at h
  split at h
  · cases h
  · omega
set_option maxHeartbeats 32000000 in
theorem Enough_u (t : Tb) (ff gg df cf : Bool) (fds : List Fd) (cells : List Cr) (ht : TbOk t) (hF : FdsOk fds) (hcl : cells.length ≤ 1000000) :
    ConP Tryz.prog 14 [encTb ff gg t, LF df fds, LC cf cells] fun r => r = .tup [.bool (if chkE t fds cells = 0 then okB (probT t fds cells) else false), .int .i64 (chkE t fds cells)] := by
  have c1 := check_u t ff gg df cf fds cells ht hF hcl
  simp only [encTb, LS, LR, LC, LF] at c1
  by_cases h : chkE t fds cells = 0
  · obtain ⟨hv, h1, h2, h3, h4⟩ := chkE_ok ht h
    rw [if_pos h]
    rw [h] at c1 ⊢
    have c2 := enough_u t ff gg df cf fds cells hv hF h3 hcl
    simp only [encTb, LS, LR, LC, LF] at c2
    refine conP_of_conH (conH_of_W tok Tryz.func14 rfl rfl ?_)
    refine W_x tok mixed ?_
    simp -implicitDefEqProofs -dsimp [Tryz.f14, List.replicate, encTb, LS, LR, LC, LF]
    refine (callP (c1) (by simp)).mono ?_
    rintro r H' ⟨rfl, rfl⟩
    simp -implicitDefEqProofs -dsimp []
    refine (callP (c2) (by simp)).mono ?_
    rintro r H' ⟨rfl, rfl⟩
    simp -implicitDefEqProofs -dsimp []
  · rw [if_neg h]
    refine conP_of_conH (conH_of_W tok Tryz.func14 rfl rfl ?_)
    refine W_x tok mixed ?_
    simp -implicitDefEqProofs -dsimp [Tryz.f14, List.replicate, encTb, LS, LR, LC, LF]
    refine (callP (c1) (by simp)).mono ?_
    rintro r H' ⟨rfl, rfl⟩
    simp -implicitDefEqProofs -dsimp [h]
end Go.Proofs.YteijbpppalhihaaGreat
