/- X6: the law UpdateHit. Expanded by pp.py. -/
import Derived.Test.YteijbpppalhihaaGreatX5
import Derived.Test.YteijbpppalhihaaGreatC4
set_option linter.unusedVariables false
set_option linter.unusedSimpArgs false
set_option maxRecDepth 100000
namespace Go.Proofs.YteijbpppalhihaaGreat
open Go Go.AM
theorem enough_val {c : Cs} (v : CsV c) {l : List Cr} (hl : CellsOk (csT c) l) (cf : Bool) (df : Bool) : ConP Tryz.prog 14 [encTb false false (csT c), LF df (csF c), LC cf l] fun r => r = .tup [.bool (okB (probT (csT c) (csF c) l)), .int .i64 0] := by
  have h := Enough_u (csT c) false false df cf (csF c) l v.tv.ok v.fok hl.len
  have hc := chk_ok v.tv v.valid v.ferr (by have := v.small; omega) hl
  rw [hc, if_pos rfl] at h
  exact h
theorem necB_others (t : Tb) (fds : List Fd) (l : List Cr) : necB t fds (othersT t l) = !okB (probT t fds l) := by
  rw [necB_eq]
  congr 1
  rw [Bool.eq_iff_iff, okB_iff, okB_iff]
  exact others_others
set_option maxHeartbeats 32000000 in
theorem lawHit (c : Cs) (s : Int) (f g : Bool) (h : CsOk c) : ConP Tryz.prog 5 [encCs f g c, .int .u16 s] fun r => r = .bool true := by
  have ca := awake_con
  cases hb : csB c with
  | false =>
    have c1 := of_no c f g h hb
    simp only [encCs, offV] at c1
    refine conP_of_conH (conH_of_W tok Tryz.func5 rfl rfl ?_)
    refine W_x tok mixed ?_
    simp -implicitDefEqProofs -dsimp [Tryz.f5, List.replicate, encCs]
    refine (callP (c1) (by simp)).mono ?_
    rintro r H' ⟨rfl, rfl⟩
    simp -implicitDefEqProofs -dsimp []
    refine (callP (ca) (by simp)).mono ?_
    rintro r H' ⟨rfl, rfl⟩
    simp -implicitDefEqProofs -dsimp []
    refine (callP (ca) (by simp)).mono ?_
    rintro r H' ⟨rfl, rfl⟩
    simp -implicitDefEqProofs -dsimp []
  | true =>
    have v := csV h hb
    have c1 := of_yes c f g h hb
    have m1 : (csT c).rows.length ≤ 1000 := v.tv.rows
    have m2 : (csT c).attrs.length ≤ 1000 := by have := v.tv.attrs; omega
    have c2 := choose_r (csT c) false false s m1 m2
    have hcl := chooseT_ok v.tv s
    obtain ⟨cells, hcells⟩ : ∃ cells, cells = chooseT (csT c) s := ⟨_, rfl⟩
    rw [← hcells] at c2 hcl
    have c3 := enough_val v hcl false false
    have c4 := others_r (csT c) false false false cells m1 m2 hcl.len
    have hol := others_ok v.tv cells
    have c5 := Core_u (csT c) false false false false (csF c) (othersT (csT c) cells) v.tv.ok v.fok hol.len
    have hno := necB_others (csT c) (csF c) cells
    rw [CoreR, if_pos (chk_ok v.tv v.valid v.ferr (by have := v.small; omega) hol)] at c5
    simp only [encCs, encTb, LS, LR] at c1
    simp only [encTb, LS, LR] at c2 c3 c4 c5
    cases hq : okB (probT (csT c) (csF c) cells) with
    | false =>
      rw [hq] at c3 hno
      rw [hno, Bool.not_false, if_pos rfl] at c5
      refine conP_of_conH (conH_of_W tok Tryz.func5 rfl rfl ?_)
      refine W_x tok mixed ?_
      simp -implicitDefEqProofs -dsimp [Tryz.f5, List.replicate, encCs]
      refine (callP (c1) (by simp)).mono ?_
      rintro r H' ⟨rfl, rfl⟩
      simp -implicitDefEqProofs -dsimp []
      refine (callP (ca) (by simp)).mono ?_
      rintro r H' ⟨rfl, rfl⟩
      simp -implicitDefEqProofs -dsimp []
      refine (callP (c2) (by simp)).mono ?_
      rintro r H' ⟨rfl, rfl⟩
      simp -implicitDefEqProofs -dsimp []
      refine (callP (c3) (by simp)).mono ?_
      rintro r H' ⟨rfl, rfl⟩
      simp -implicitDefEqProofs -dsimp []
      refine .inr ⟨stop_of (by kernel_rfl), ?_⟩
      refine cy_of _ (callP (c4) (by simp)) ?_
      simp -implicitDefEqProofs -dsimp []
      refine cy_of _ (callP (c5) (by simp)) ?_
      simp -implicitDefEqProofs -dsimp [eqA2]
    | true =>
      rw [hq] at c3 hno
      rw [hno, Bool.not_true, if_neg (by simp)] at c5
      refine conP_of_conH (conH_of_W tok Tryz.func5 rfl rfl ?_)
      refine W_x tok mixed ?_
      simp -implicitDefEqProofs -dsimp [Tryz.f5, List.replicate, encCs]
      refine (callP (c1) (by simp)).mono ?_
      rintro r H' ⟨rfl, rfl⟩
      simp -implicitDefEqProofs -dsimp []
      refine (callP (ca) (by simp)).mono ?_
      rintro r H' ⟨rfl, rfl⟩
      simp -implicitDefEqProofs -dsimp []
      refine (callP (c2) (by simp)).mono ?_
      rintro r H' ⟨rfl, rfl⟩
      simp -implicitDefEqProofs -dsimp []
      refine (callP (c3) (by simp)).mono ?_
      rintro r H' ⟨rfl, rfl⟩
      simp -implicitDefEqProofs -dsimp []
      refine .inr ⟨stop_of (by kernel_rfl), ?_⟩
      refine cy_of _ (callP (c4) (by simp)) ?_
      simp -implicitDefEqProofs -dsimp []
      refine cy_of _ (callP (c5) (by simp)) ?_
      simp -implicitDefEqProofs -dsimp [eqA2]
end Go.Proofs.YteijbpppalhihaaGreat
