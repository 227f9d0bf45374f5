/- X8: the law UpdateErrors. Expanded by pp.py. -/
import Derived.Test.YteijbpppalhihaaGreatX7
import Derived.Test.YteijbpppalhihaaGreatC4
set_option linter.unusedVariables false
set_option linter.unusedSimpArgs false
set_option maxRecDepth 100000
namespace Go.Proofs.YteijbpppalhihaaGreat
open Go Go.AM
set_option maxHeartbeats 64000000 in
theorem lawErrors (t : Tb) (fds : List Fd) (l : List Cr) (ff gg df cf : Bool) (h1 : t.name.size ≤ maxLen) (h2 : ∀ s ∈ t.attrs, s.size ≤ maxLen) (h3 : ∀ d ∈ fds, d.l < 4294967296 ∧ d.r < 4294967296) : ConP Tryz.prog 10 [encTb ff gg t, LF df fds, LC cf l] fun r => r = .bool true := by
  have ca := awake_con
  by_cases g1 : 70 < t.rows.length
  · refine conP_of_conH (conH_of_W tok Tryz.func10 rfl rfl ?_)
    refine W_x tok mixed ?_
    simp -implicitDefEqProofs -dsimp [Tryz.f10, List.replicate, encTb, LS, LR, LC, LF]
    refine (callP (ca) (by simp)).mono ?_
    rintro r H' ⟨rfl, rfl⟩
    simp -implicitDefEqProofs -dsimp [show (70 : Int) < t.rows.length by omega]
    refine (callP (ca) (by simp)).mono ?_
    rintro r H' ⟨rfl, rfl⟩
    simp -implicitDefEqProofs -dsimp []
  by_cases g2 : 20 < t.attrs.length
  · refine conP_of_conH (conH_of_W tok Tryz.func10 rfl rfl ?_)
    refine W_x tok mixed ?_
    simp -implicitDefEqProofs -dsimp [Tryz.f10, List.replicate, encTb, LS, LR, LC, LF]
    refine (callP (ca) (by simp)).mono ?_
    rintro r H' ⟨rfl, rfl⟩
    simp -implicitDefEqProofs -dsimp [show ¬ (70 : Int) < t.rows.length by omega, show (20 : Int) < t.attrs.length by omega]
    refine (callP (ca) (by simp)).mono ?_
    rintro r H' ⟨rfl, rfl⟩
    simp -implicitDefEqProofs -dsimp []
  by_cases g3 : 70 < fds.length
  · refine conP_of_conH (conH_of_W tok Tryz.func10 rfl rfl ?_)
    refine W_x tok mixed ?_
    simp -implicitDefEqProofs -dsimp [Tryz.f10, List.replicate, encTb, LS, LR, LC, LF]
    refine (callP (ca) (by simp)).mono ?_
    rintro r H' ⟨rfl, rfl⟩
    simp -implicitDefEqProofs -dsimp [show ¬ (70 : Int) < t.rows.length by omega, show ¬ (20 : Int) < t.attrs.length by omega, show (70 : Int) < fds.length by omega]
    refine (callP (ca) (by simp)).mono ?_
    rintro r H' ⟨rfl, rfl⟩
    simp -implicitDefEqProofs -dsimp []
  by_cases g4 : 20 < l.length
  · refine conP_of_conH (conH_of_W tok Tryz.func10 rfl rfl ?_)
    refine W_x tok mixed ?_
    simp -implicitDefEqProofs -dsimp [Tryz.f10, List.replicate, encTb, LS, LR, LC, LF]
    refine (callP (ca) (by simp)).mono ?_
    rintro r H' ⟨rfl, rfl⟩
    simp -implicitDefEqProofs -dsimp [show ¬ (70 : Int) < t.rows.length by omega, show ¬ (20 : Int) < t.attrs.length by omega, show ¬ (70 : Int) < fds.length by omega, show (20 : Int) < l.length by omega]
    refine (callP (ca) (by simp)).mono ?_
    rintro r H' ⟨rfl, rfl⟩
    simp -implicitDefEqProofs -dsimp []
  have i1 : ¬ (70 : Int) < t.rows.length := by omega
  have i2 : ¬ (20 : Int) < t.attrs.length := by omega
  have i3 : ¬ (70 : Int) < fds.length := by omega
  have i4 : ¬ (20 : Int) < l.length := by omega
  have ht : TbOk t := ⟨h1, by omega, by omega, h2⟩
  have hF : FdsOk fds := ⟨by omega, h3⟩
  have hl : l.length ≤ 1000000 := by omega
  have c0 := error_r t ff gg df cf fds l ht hF hl
  by_cases hz : chkE t fds l = 0
  · rw [hz] at c0
    simp only [encTb, LS, LR, LC, LF] at c0
    refine conP_of_conH (conH_of_W tok Tryz.func10 rfl rfl ?_)
    refine W_x tok mixed ?_
    simp -implicitDefEqProofs -dsimp [Tryz.f10, List.replicate, encTb, LS, LR, LC, LF]
    refine (callP (ca) (by simp)).mono ?_
    rintro r H' ⟨rfl, rfl⟩
    simp -implicitDefEqProofs -dsimp [i1, i2, i3, i4]
    refine (callP (c0) (by simp)).mono ?_
    rintro r H' ⟨rfl, rfl⟩
    simp -implicitDefEqProofs -dsimp []
  have k0 := clone_C l cf hl
  have k1 := Enough_u t ff gg df false fds l ht hF hl
  have k2 := fill_err t ff gg df false fds l ht hF hl hz
  have k3 := Core_u t ff gg df false fds l ht hF hl
  have k4 := isCore_err t ff gg df false fds l ht hF hl hz
  have k5 := apply_err t ff gg df false fds l ht hF hl hz
  have k6 := base_r t ff gg df fds ht hF
  rw [if_neg hz] at k1
  rw [CoreR, if_neg hz] at k3
  obtain ⟨E, hE⟩ : ∃ E, E = chkE t fds l := ⟨_, rfl⟩
  rw [← hE] at c0 hz k1 k2 k3 k4 k5
  by_cases hb : baseE t fds = 0
  · rw [hb] at k6
    simp only [encTb, LS, LR, LC, LF, zTb] at c0 k0 k1 k2 k3 k4 k5 k6
    refine conP_of_conH (conH_of_W tok Tryz.func10 rfl rfl ?_)
    refine W_x tok mixed ?_
    simp -implicitDefEqProofs -dsimp [Tryz.f10, List.replicate, encTb, LS, LR, LC, LF]
    refine (callP (ca) (by simp)).mono ?_
    rintro r H' ⟨rfl, rfl⟩
    simp -implicitDefEqProofs -dsimp [i1, i2, i3, i4]
    refine (callP (c0) (by simp)).mono ?_
    rintro r H' ⟨rfl, rfl⟩
    simp -implicitDefEqProofs -dsimp [hz]
    refine .inr ⟨stop_of (by kernel_rfl), ?_⟩
    refine cy_of _ (callP (k0) (by simp)) ?_
    simp -implicitDefEqProofs -dsimp []
    refine cy_of _ (callP (k1) (by simp)) ?_
    simp -implicitDefEqProofs -dsimp []
    refine lw_of (W_drawT tok mixed [8, 9] [(0, [1]), (1, [1]), (2, [1]), (3, [1]), (4, [1]), (5, [1]), (6, [1]), (7, [1, 2])] [(.lst 2 false (l.map encCr), []), (.tup [.agg [.str ByteArray.empty, .nilS, .nilS], .int .i64 E], [])] (by kernel_rfl) fun C K hC hK => ?_)
    simp -implicitDefEqProofs []
    refine ⟨⟨⟨hC _ _ _ _ (callP k0 (by simp)), hC _ _ _ _ (callP k0 (by simp))⟩, hC _ _ _ _ (callP k2 (by simp)), hC _ _ _ _ (callP k2 (by simp))⟩, hK _ _ ?_⟩
    simp -implicitDefEqProofs -dsimp []
    refine .inr ⟨stop_of (by kernel_rfl), ?_⟩
    refine cy_of _ (callP (k0) (by simp)) ?_
    simp -implicitDefEqProofs -dsimp []
    refine cy_of _ (callP (k3) (by simp)) ?_
    simp -implicitDefEqProofs -dsimp []
    refine .inr ⟨stop_of (by kernel_rfl), ?_⟩
    refine cy_of _ (callP (k0) (by simp)) ?_
    simp -implicitDefEqProofs -dsimp []
    refine cy_of _ (callP (k4) (by simp)) ?_
    simp -implicitDefEqProofs -dsimp []
    refine .inr ⟨stop_of (by kernel_rfl), ?_⟩
    refine cy_of _ (callP (k0) (by simp)) ?_
    simp -implicitDefEqProofs -dsimp []
    refine cy_of _ (callP (k5) (by simp)) ?_
    simp -implicitDefEqProofs -dsimp []
    refine (callP (k6) (by simp)).mono ?_
    rintro r H' ⟨rfl, rfl⟩
    simp -implicitDefEqProofs -dsimp []
  · have w00 : IntKind.i64.wrap (0 : Int) = 0 := wrap64 (by omega) (by omega)
    have k7 := optimal_err t ff gg df fds 20000 ht hF hb
    have k8 := check_err t ff gg df fds ht hF hb
    obtain ⟨D, hD⟩ : ∃ D, D = baseE t fds := ⟨_, rfl⟩
    rw [← hD] at k6 k7 hb
    simp only [encTb, LS, LR, LC, LF, zTb, zUp] at c0 k0 k1 k2 k3 k4 k5 k6 k7 k8
    refine conP_of_conH (conH_of_W tok Tryz.func10 rfl rfl ?_)
    refine W_x tok mixed ?_
    simp -implicitDefEqProofs -dsimp [Tryz.f10, List.replicate, encTb, LS, LR, LC, LF]
    refine (callP (ca) (by simp)).mono ?_
    rintro r H' ⟨rfl, rfl⟩
    simp -implicitDefEqProofs -dsimp [i1, i2, i3, i4]
    refine (callP (c0) (by simp)).mono ?_
    rintro r H' ⟨rfl, rfl⟩
    simp -implicitDefEqProofs -dsimp [hz]
    refine .inr ⟨stop_of (by kernel_rfl), ?_⟩
    refine cy_of _ (callP (k0) (by simp)) ?_
    simp -implicitDefEqProofs -dsimp []
    refine cy_of _ (callP (k1) (by simp)) ?_
    simp -implicitDefEqProofs -dsimp []
    refine lw_of (W_drawT tok mixed [8, 9] [(0, [1]), (1, [1]), (2, [1]), (3, [1]), (4, [1]), (5, [1]), (6, [1]), (7, [1, 2])] [(.lst 2 false (l.map encCr), []), (.tup [.agg [.str ByteArray.empty, .nilS, .nilS], .int .i64 E], [])] (by kernel_rfl) fun C K hC hK => ?_)
    simp -implicitDefEqProofs []
    refine ⟨⟨⟨hC _ _ _ _ (callP k0 (by simp)), hC _ _ _ _ (callP k0 (by simp))⟩, hC _ _ _ _ (callP k2 (by simp)), hC _ _ _ _ (callP k2 (by simp))⟩, hK _ _ ?_⟩
    simp -implicitDefEqProofs -dsimp []
    refine .inr ⟨stop_of (by kernel_rfl), ?_⟩
    refine cy_of _ (callP (k0) (by simp)) ?_
    simp -implicitDefEqProofs -dsimp []
    refine cy_of _ (callP (k3) (by simp)) ?_
    simp -implicitDefEqProofs -dsimp []
    refine .inr ⟨stop_of (by kernel_rfl), ?_⟩
    refine cy_of _ (callP (k0) (by simp)) ?_
    simp -implicitDefEqProofs -dsimp []
    refine cy_of _ (callP (k4) (by simp)) ?_
    simp -implicitDefEqProofs -dsimp []
    refine .inr ⟨stop_of (by kernel_rfl), ?_⟩
    refine cy_of _ (callP (k0) (by simp)) ?_
    simp -implicitDefEqProofs -dsimp []
    refine cy_of _ (callP (k5) (by simp)) ?_
    simp -implicitDefEqProofs -dsimp []
    refine (callP (k6) (by simp)).mono ?_
    rintro r H' ⟨rfl, rfl⟩
    simp -implicitDefEqProofs -dsimp [hb]
    refine (callP (k7) (by simp)).mono ?_
    rintro r H' ⟨rfl, rfl⟩
    simp -implicitDefEqProofs -dsimp []
    refine (callP (k6) (by simp)).mono ?_
    rintro r H' ⟨rfl, rfl⟩
    simp -implicitDefEqProofs -dsimp [w00]
    refine (callP (k8) (by simp)).mono ?_
    rintro r H' ⟨rfl, rfl⟩
    simp -implicitDefEqProofs -dsimp []
end Go.Proofs.YteijbpppalhihaaGreat
