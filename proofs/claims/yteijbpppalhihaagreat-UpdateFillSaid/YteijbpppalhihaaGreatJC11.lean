/- JC11: X11, joined by chunk.py. -/
import Derived.Test.YteijbpppalhihaaGreatJC10
set_option linter.unusedVariables false
set_option linter.unusedSimpArgs false
section
/- X11: slices.Index and slices.Contains of cells; the law UpdateCore. Expanded by pp.py. -/
set_option linter.unusedSimpArgs false
set_option maxRecDepth 100000
namespace Go.Proofs.YteijbpppalhihaaGreat
open Go Go.AM
def ixC (l : List Cr) (c : Cr) (i : Nat) : Int := if h : i < l.length then (if (c.id == l[i].id && c.attr == l[i].attr) = true then (i : Int) else ixC l c (i + 1)) else -1
termination_by l.length - i
theorem beqC {c d : Cr} : (c.id == d.id && c.attr == d.attr) = true ↔ c = d := by
  rw [Bool.and_eq_true, beq_iff_eq, beq_iff_eq, Cr.eq_iff]
theorem ixC_mem (l : List Cr) (c : Cr) (i : Nat) : 0 ≤ ixC l c i ↔ c ∈ l.drop i := by
  fun_induction ixC l c i with
  | case1 i h h0 => rw [List.drop_eq_getElem_cons h, List.mem_cons]; exact ⟨fun _ => .inl (beqC.1 h0), fun _ => by omega⟩
  | case2 i h h0 ih => rw [List.drop_eq_getElem_cons h, List.mem_cons, ih]; exact ⟨.inr, fun g => g.elim (fun g => absurd (beqC.2 g) h0) id⟩
  | case3 i h => rw [List.drop_of_length_le (by omega)]; simp
theorem ixC_has (l : List Cr) (c : Cr) : decide (0 ≤ ixC l c 0) = hasC l c := by
  have h := ixC_mem l c 0
  rw [List.drop_zero] at h
  unfold hasC
  exact decide_eq_decide.2 h
set_option maxHeartbeats 8000000 in
theorem indexC (l : List Cr) (c : Cr) (f : Bool) (hl : l.length ≤ 1000000) : ConP Tryz.prog 61 [LC f l, encCr c] fun r => r = .int .i64 (ixC l c 0) := by
  obtain ⟨E, hE⟩ : ∃ E, E = ixC l c 0 := ⟨_, rfl⟩
  rw [← hE]
  refine conP_of_conH (conH_of_W tok Tryz.func61 rfl rfl ?_)
  refine W_x tok mixed ?_
  simp -implicitDefEqProofs -dsimp [Tryz.f61, List.replicate, LC, encCr]
  refine lw_of (W_loopV [false, false, false, false, true, true, false, false, true, true, true, true, true, true, true, true, true, true, true] (σ := Nat) (fun i => ixC l c i = E) (fun i => l.length - i) (fun i => [(8, .int .i64 i)]) (fun _ => [B.cells [.int .i64 c.id, .int .i64 c.attr]]) 0 hE.symm (by simp) rfl (by simp) ?_)
  intro i hx N Q hN hQ
  by_cases hb : i < l.length
  · rw [ixC, dif_pos hb] at hx
    cases hq : (c.id == l[i].id && c.attr == l[i].attr) with
    | false =>
      rw [hq, if_neg (by simp)] at hx
      refine W_x tok mixed ?_
      simp -implicitDefEqProofs -dsimp [hb, encCr, eqCr, hq]
      refine .inr ⟨stop_of (by kernel_rfl), ?_⟩
      simp -implicitDefEqProofs -dsimp [wrapS i (by omega)]
      refine hN (i + 1) _ _ hx (by omega) (by simp) ⟨[], rfl⟩ (by simp) (by simp)
    | true =>
      rw [hq, if_pos rfl] at hx
      refine W_x tok mixed ?_
      simp -implicitDefEqProofs -dsimp [hb, encCr, eqCr, hq]
      refine .inr ⟨stop_of (by kernel_rfl), ?_⟩
      refine hQ _ _ _ ?_
      simp -implicitDefEqProofs -dsimp []
      exact hx
  · rw [ixC, dif_neg hb] at hx
    refine W_x tok mixed ?_
    simp -implicitDefEqProofs -dsimp [hb]
    refine hQ _ _ _ ?_
    simp -implicitDefEqProofs -dsimp []
    exact hx
set_option maxHeartbeats 4000000 in
theorem containsC (l : List Cr) (c : Cr) (f : Bool) (hl : l.length ≤ 1000000) : ConP Tryz.prog 26 [LC f l, encCr c] fun r => r = .bool (hasC l c) := by
  have h0 := ixC_has l c
  have c1 := indexC l c f hl
  simp only [LC, encCr] at c1
  refine conP_of_conH (conH_of_W tok Tryz.func26 rfl rfl ?_)
  refine W_x tok mixed ?_
  simp -implicitDefEqProofs -dsimp [Tryz.f26, List.replicate, LC, encCr]
  refine (callP (c1) (by simp)).mono ?_
  rintro r H' ⟨rfl, rfl⟩
  simp -implicitDefEqProofs -dsimp []
  rw [← h0]
theorem CellsOk.core {t : Tb} {l l' : List Cr} (h : CellsOk t l) (hs : sortedC l') (hl : l'.length ≤ l.length) (hsub : ∀ c ∈ l', c ∈ l) : CellsOk t l' := ⟨hs, fun c hc => h.mem c (hsub c hc), Nat.le_trans hl h.len⟩
set_option maxHeartbeats 64000000 in
theorem lawCore (c : Cs) (a b : Int) (f g : Bool) (h : CsOk c) : ConP Tryz.prog 9 [encCs f g c, .int .u16 a, .int .u16 b] fun r => r = .bool true := by
  have ca := awake_con
  cases hb : csB c with
  | false =>
    have c1 := of_no c f g h hb
    simp only [encCs, offV] at c1
    refine conP_of_conH (conH_of_W tok Tryz.func9 rfl rfl ?_)
    refine W_x tok mixed ?_
    simp -implicitDefEqProofs -dsimp [Tryz.f9, List.replicate, encCs]
    refine (callP (c1) (by simp)).mono ?_
    rintro r H' ⟨rfl, rfl⟩
    simp -implicitDefEqProofs -dsimp []
    refine (callP (ca) (by simp)).mono ?_
    rintro r H' ⟨rfl, rfl⟩
    simp -implicitDefEqProofs -dsimp []
    refine (callP (ca) (by simp)).mono ?_
    rintro r H' ⟨rfl, rfl⟩
    simp -implicitDefEqProofs -dsimp []
  | true =>
    have v := csV h hb
    have c1 := of_yes c f g h hb
    have m1 : (csT c).rows.length ≤ 1000 := v.tv.rows
    have m2 : (csT c).attrs.length ≤ 1000 := by have := v.tv.attrs; omega
    have sm : (csT c).rows.length * (csT c).attrs.length ≤ 60 := by have := v.small; omega
    have c2 := choose_r (csT c) false false a m1 m2
    have c3 := choose_r (csT c) false false b m1 m2
    have hcl := chooseT_ok v.tv a
    have hcl' := chooseT_ok v.tv b
    obtain ⟨l, hl⟩ : ∃ l, l = chooseT (csT c) a := ⟨_, rfl⟩
    obtain ⟨l', hl'⟩ : ∃ l', l' = chooseT (csT c) b := ⟨_, rfl⟩
    rw [← hl] at c2 hcl
    rw [← hl'] at c3 hcl'
    have k1 := clone_F (csF c) false (by have := v.flen; omega)
    have k2 := clone_C l false hcl.len
    have k3 := clone_C l' false hcl'.len
    have c5 := Core_u (csT c) false false false false (csF c) l v.tv.ok v.fok hcl.len
    have c6 := IsCore_u (csT c) false false false false (csF c) l' v.tv.ok v.fok hcl'.len (chk_ok v.tv v.valid v.ferr sm hcl')
    have c7 := isCore_r (csT c) false false false false (csF c) l' v.tv v.fok hcl'.len
    have c8 := necessary_r (csT c) false false false false (csF c) l v.tv v.fok hcl.len
    rw [CoreR, if_pos (chk_ok v.tv v.valid v.ferr sm hcl)] at c5
    obtain ⟨B1, hB1⟩ : ∃ B1, B1 = coreB (csT c) (csF c) l' := ⟨_, rfl⟩
    rw [← hB1] at c6 c7
    simp only [encCs, encTb, LS, LR] at c1
    simp only [encTb, LS, LR] at c2 c3 c5 c6 c7 c8
    cases hq : necB (csT c) (csF c) l with
    | false =>
      rw [hq] at c8
      rw [hq, if_neg (by simp)] at c5
      refine conP_of_conH (conH_of_W tok Tryz.func9 rfl rfl ?_)
      refine W_x tok mixed ?_
      simp -implicitDefEqProofs -dsimp [Tryz.f9, List.replicate, encCs]
      refine (callP (c1) (by simp)).mono ?_
      rintro r H' ⟨rfl, rfl⟩
      simp -implicitDefEqProofs -dsimp []
      refine (callP (ca) (by simp)).mono ?_
      rintro r H' ⟨rfl, rfl⟩
      simp -implicitDefEqProofs -dsimp []
      refine .inr ⟨stop_of (by kernel_rfl), ?_⟩
      refine cy_of _ (callP (c2) (by simp)) ?_
      simp -implicitDefEqProofs -dsimp []
      refine cy_of _ (callP (c3) (by simp)) ?_
      simp -implicitDefEqProofs -dsimp []
      refine .inr ⟨stop_of (by kernel_rfl), ?_⟩
      refine cy_of _ (callP (k1) (by simp)) ?_
      simp -implicitDefEqProofs -dsimp []
      refine cy_of _ (callP (k2) (by simp)) ?_
      simp -implicitDefEqProofs -dsimp []
      refine cy_of _ (callP (c5) (by simp)) ?_
      simp -implicitDefEqProofs -dsimp []
      refine .inr ⟨stop_of (by kernel_rfl), ?_⟩
      refine cy_of _ (callP (k1) (by simp)) ?_
      simp -implicitDefEqProofs -dsimp []
      refine cy_of _ (callP (k3) (by simp)) ?_
      simp -implicitDefEqProofs -dsimp []
      refine cy_of _ (callP (c6) (by simp)) ?_
      simp -implicitDefEqProofs -dsimp []
      refine (callP (c7) (by simp)).mono ?_
      rintro r H' ⟨rfl, rfl⟩
      simp -implicitDefEqProofs -dsimp [eqA2]
      refine (callP (c8) (by simp)).mono ?_
      rintro r H' ⟨rfl, rfl⟩
      simp -implicitDefEqProofs -dsimp []
    | true =>
      rw [hq] at c8
      rw [hq, if_pos rfl] at c5
      obtain ⟨g1, g2, g3⟩ := coreG_ok (t := csT c) (fds := csF c) (fixed := l) false l 0 ⟨by omega, fun c hc => hc, hcl.sorted, necB_iff.1 hq, fun j hj => by omega⟩
      have g4 := coreG_len (t := csT c) (fds := csF c) false l 0
      obtain ⟨L, hL⟩ : ∃ L, L = (coreG (csT c) (csF c) false l 0).2 := ⟨_, rfl⟩
      rw [← hL] at g1 g2 g3 g4 c5
      have hcL := hcl.core g3 g4 g2
      have c9 := IsCore_u (csT c) false false false false (csF c) L v.tv.ok v.fok hcL.len (chk_ok v.tv v.valid v.ferr sm hcL)
      have c10 := isCore_r (csT c) false false false false (csF c) L v.tv v.fok hcL.len
      have c11 := error_r (csT c) false false false false (csF c) L v.tv.ok v.fok hcL.len
      have hlen := hcL.len
      rw [coreB_iff.2 g1] at c9 c10
      rw [chk_ok v.tv v.valid v.ferr sm hcL] at c11
      simp only [encTb, LS, LR, LC, LF] at c9 c10 c11
      simp only [LC, LF] at c1 c2 c3 c5 c6 c7 c8 k1 k2 k3
      refine conP_of_conH (conH_of_W tok Tryz.func9 rfl rfl ?_)
      refine W_x tok mixed ?_
      simp -implicitDefEqProofs -dsimp [Tryz.f9, List.replicate, encCs]
      refine (callP (c1) (by simp)).mono ?_
      rintro r H' ⟨rfl, rfl⟩
      simp -implicitDefEqProofs -dsimp []
      refine (callP (ca) (by simp)).mono ?_
      rintro r H' ⟨rfl, rfl⟩
      simp -implicitDefEqProofs -dsimp []
      refine .inr ⟨stop_of (by kernel_rfl), ?_⟩
      refine cy_of _ (callP (c2) (by simp)) ?_
      simp -implicitDefEqProofs -dsimp []
      refine cy_of _ (callP (c3) (by simp)) ?_
      simp -implicitDefEqProofs -dsimp []
      refine .inr ⟨stop_of (by kernel_rfl), ?_⟩
      refine cy_of _ (callP (k1) (by simp)) ?_
      simp -implicitDefEqProofs -dsimp []
      refine cy_of _ (callP (k2) (by simp)) ?_
      simp -implicitDefEqProofs -dsimp []
      refine cy_of _ (callP (c5) (by simp)) ?_
      simp -implicitDefEqProofs -dsimp []
      refine .inr ⟨stop_of (by kernel_rfl), ?_⟩
      refine cy_of _ (callP (k1) (by simp)) ?_
      simp -implicitDefEqProofs -dsimp []
      refine cy_of _ (callP (k3) (by simp)) ?_
      simp -implicitDefEqProofs -dsimp []
      refine cy_of _ (callP (c6) (by simp)) ?_
      simp -implicitDefEqProofs -dsimp []
      refine (callP (c7) (by simp)).mono ?_
      rintro r H' ⟨rfl, rfl⟩
      simp -implicitDefEqProofs -dsimp [eqA2]
      refine (callP (c8) (by simp)).mono ?_
      rintro r H' ⟨rfl, rfl⟩
      simp -implicitDefEqProofs -dsimp []
      refine lw_of (W_loopV [false, false, false, false, false, false, true, false, false, false, false, false, false, false, false, false, false, true, false, false, true, false, true, false, false, false, false, false, false, false, false, false, false, false, false, false, false, false, false, false, false, false, false, false, false, false, false, false, false, false, false, false, false, false, false, false, false, false, false, false, false, false, false, false, false, false, false, false, false, false, false, false, false, false, false, false, false, false, false, false, false, true, true, true, true, true, true, true, true, true] (σ := Nat) (fun i => i ≤ L.length) (fun i => L.length - i) (fun i => [(81, .int .i64 i)]) (fun _ => [B.cells [.int .u8 c.r.a, .int .u8 c.r.gap, .lst 1 f (c.r.rows.map LU), .lst 2 g (c.d.map encD)], B.cells [.str (csT c).name, .lst 1 false ((csT c).attrs.map V.str), .lst 2 false ((csT c).rows.map encRw)]]) 0 (by omega) (by simp) (by simp) (by simp) ?_)
      intro i hi N Q hN hQ
      by_cases hbi : i < L.length
      · have hmem := g2 L[i] (List.getElem_mem hbi)
        obtain ⟨x, hx⟩ : ∃ x, x = L[i] := ⟨_, rfl⟩
        rw [← hx] at hmem
        have hx' := hx.symm
        have ck := containsC l x false hcl.len
        rw [hasC_iff.2 hmem] at ck
        simp only [LC, encCr] at ck
        refine W_x tok mixed ?_
        simp -implicitDefEqProofs -dsimp [hbi, hx', encCr, LC]
        refine (callP (ck) (by simp)).mono ?_
        rintro r H' ⟨rfl, rfl⟩
        simp -implicitDefEqProofs -dsimp [wrapS i (by omega)]
        refine hN (i + 1) _ _ (by omega) (by omega) (by simp) ⟨[B.cells [.int .i64 x.id, .int .i64 x.attr]], by simp⟩ (by simp) (by simp)
      · refine W_x tok mixed ?_
        simp -implicitDefEqProofs -dsimp [hbi]
        refine hQ _ _ _ ?_
        simp -implicitDefEqProofs -dsimp []
        refine (callP (c9) (by simp)).mono ?_
        rintro r H' ⟨rfl, rfl⟩
        simp -implicitDefEqProofs -dsimp []
        refine (callP (c11) (by simp)).mono ?_
        rintro r H' ⟨rfl, rfl⟩
        simp -implicitDefEqProofs -dsimp []
        refine (callP (c10) (by simp)).mono ?_
        rintro r H' ⟨rfl, rfl⟩
        simp -implicitDefEqProofs -dsimp []
end Go.Proofs.YteijbpppalhihaaGreat
end
