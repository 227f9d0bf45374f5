/- X3: the reference's Of; tables of recipes are valid. Expanded by pp.py. -/
import Derived.Test.YteijbpppalhihaaGreatX2
set_option linter.unusedVariables false
set_option linter.unusedSimpArgs false
set_option maxRecDepth 100000
namespace Go.Proofs.YteijbpppalhihaaGreat
open Go Go.AM
structure Cs where
  r : Rcp
  d : List Fd
def encCs (f g : Bool) (c : Cs) : V := .agg [.int .u8 c.r.a, .int .u8 c.r.gap, .lst 1 f (c.r.rows.map LU), .lst 2 g (c.d.map encD)]
@[simp] theorem encCs_pure (f g : Bool) (c : Cs) : AM.Pure (encCs f g c) := by simp [encCs]
structure CsOk (c : Cs) : Prop where
  a : 0 ≤ c.r.a ∧ c.r.a < 256
  gap : 0 ≤ c.r.gap
  rows : ∀ r ∈ c.r.rows, r.length ≤ 9223372036854775807
  rlen : c.r.rows.length ≤ 9223372036854775807
  dlen : c.d.length ≤ 9223372036854775807
  deps : ∀ d ∈ c.d, d.l < 256 ∧ d.r < 256
def csN (c : Cs) : Nat := (c.r.a.tmod 4).toNat
def csB (c : Cs) : Bool := decide (c.r.rows.length ≤ 4) && (decide (c.r.rows.length * csN c ≤ 9) && decide (c.d.length ≤ 3))
def csT (c : Cs) : Tb := wideT c.r (csN c)
def csF (c : Cs) : List Fd := c.d.map (fdOf (csN c))
theorem csN_lt {c : Cs} (h : CsOk c) : csN c < 4 ∧ c.r.a.tmod 4 = (csN c : Int) := by
  have h1 := Int.tmod_nonneg 4 h.a.1
  have h2 := Int.tmod_lt_of_pos c.r.a (show (0 : Int) < 4 by omega)
  unfold csN
  omega
def offV : V := .tup [.agg [.str ByteArray.empty, .nilS, .nilS], .nilS, .bool false]
set_option maxHeartbeats 16000000 in
theorem of_no (c : Cs) (f g : Bool) (h : CsOk c) (hb : csB c = false) : ConP Tryz.prog 11 [encCs f g c] fun r => r = offV := by
  obtain ⟨h1, h2⟩ := csN_lt h
  obtain ⟨n, hn⟩ : ∃ n, n = csN c := ⟨_, rfl⟩
  rw [← hn] at h1 h2
  have hw : IntKind.i64.wrap (n : Int) = n := wrapN n (by omega)
  unfold csB at hb
  rw [← hn] at hb
  by_cases r1 : c.r.rows.length ≤ 4
  · have hmn : c.r.rows.length * n ≤ 4 * 4 := Nat.mul_le_mul r1 (by omega)
    have hw2 : IntKind.i64.wrap ((c.r.rows.length : Int) * (n : Int)) = ((c.r.rows.length * n : Nat) : Int) := by rw [wrap64 (by rw [← Int.natCast_mul]; omega) (by rw [← Int.natCast_mul]; omega)]; push_cast; rfl
    obtain ⟨mn, hmn'⟩ : ∃ mn, mn = c.r.rows.length * n := ⟨_, rfl⟩
    rw [← hmn'] at hw2 hb
    by_cases r2 : mn ≤ 9
    · have r3 : ¬ c.d.length ≤ 3 := by
        intro r3
        rw [decide_eq_true r1, decide_eq_true r2, decide_eq_true r3] at hb; cases hb
      refine conP_of_conH (conH_of_W tok Tryz.func11 rfl rfl ?_)
      refine W_x tok mixed ?_
      simp -implicitDefEqProofs -dsimp [Tryz.f11, List.replicate, encCs, h2, hw, hw2, show ¬ (4 : Int) < c.r.rows.length by omega, show ¬ (9 : Int) < mn by omega, show (3 : Int) < c.d.length by omega]
      rfl
    · refine conP_of_conH (conH_of_W tok Tryz.func11 rfl rfl ?_)
      refine W_x tok mixed ?_
      simp -implicitDefEqProofs -dsimp [Tryz.f11, List.replicate, encCs, h2, hw, hw2, show ¬ (4 : Int) < c.r.rows.length by omega, show (9 : Int) < mn by omega]
      rfl
  · refine conP_of_conH (conH_of_W tok Tryz.func11 rfl rfl ?_)
    refine W_x tok mixed ?_
    simp -implicitDefEqProofs -dsimp [Tryz.f11, List.replicate, encCs, h2, hw, show (4 : Int) < c.r.rows.length by omega]
    rfl
set_option maxHeartbeats 16000000 in
theorem of_yes (c : Cs) (f g : Bool) (h : CsOk c) (hb : csB c = true) : ConP Tryz.prog 11 [encCs f g c] fun r => r = .tup [encTb false false (csT c), LF false (csF c), .bool true] := by
  obtain ⟨h1, h2⟩ := csN_lt h
  unfold csT csF
  obtain ⟨n, hn⟩ : ∃ n, n = csN c := ⟨_, rfl⟩
  rw [← hn] at h1 h2 ⊢
  have hw : IntKind.i64.wrap (n : Int) = n := wrapN n (by omega)
  unfold csB at hb
  rw [← hn] at hb
  simp only [Bool.and_eq_true, decide_eq_true_iff] at hb
  obtain ⟨r1, r2, r3⟩ := hb
  have hw2 : IntKind.i64.wrap ((c.r.rows.length : Int) * (n : Int)) = ((c.r.rows.length * n : Nat) : Int) := by rw [wrap64 (by rw [← Int.natCast_mul]; omega) (by rw [← Int.natCast_mul]; omega)]; push_cast; rfl
  obtain ⟨mn, hmn'⟩ : ∃ mn, mn = c.r.rows.length * n := ⟨_, rfl⟩
  rw [← hmn'] at hw2 r2
  have c1 := wide03 c.r n f (by omega) (by omega) h.rows h.gap
  have c2 := list09 n c.d g (by omega) (by omega) h.deps
  simp only [encRcp, encTb, LS, LR] at c1
  obtain ⟨w, hwt⟩ : ∃ w, w = wideT c.r n := ⟨_, rfl⟩
  rw [← hwt] at c1 ⊢
  refine conP_of_conH (conH_of_W tok Tryz.func11 rfl rfl ?_)
  refine W_x tok mixed ?_
  simp -implicitDefEqProofs -dsimp [Tryz.f11, List.replicate, encCs, h2, hw, hw2, show ¬ (4 : Int) < c.r.rows.length by omega, show ¬ (9 : Int) < mn by omega, show ¬ (3 : Int) < c.d.length by omega]
  refine lw_of (W_drawT tok mixed [8] [] [(.agg [.str w.name, .lst 1 false (w.attrs.map V.str), .lst 2 false (w.rows.map encRw)], []), (LF false (c.d.map (fdOf n)), [])] (by kernel_rfl) fun C K hC hK => ?_)
  simp -implicitDefEqProofs []
  refine ⟨⟨hC _ _ _ _ (callP c1 (by simp)), hC _ _ _ _ (callP c2 (by simp))⟩, hK _ _ ?_⟩
  simp -implicitDefEqProofs -dsimp [encTb, LS, LR]
end Go.Proofs.YteijbpppalhihaaGreat
