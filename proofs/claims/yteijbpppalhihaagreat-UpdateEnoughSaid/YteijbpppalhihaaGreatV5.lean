/- V5: lists of cells: search, order. Expanded by pp.py. -/
import Derived.Test.YteijbpppalhihaaGreatU6
set_option linter.unusedVariables false
set_option linter.unusedSimpArgs false
set_option maxRecDepth 100000
namespace Go.Proofs.YteijbpppalhihaaGreat
open Go Go.AM
theorem shr1 (lo hi : Nat) (h : lo + hi ≤ 4000000) : IntKind.i64.wrap ((IntKind.u64.wrap ((lo + hi : Nat) : Int)).fdiv (2 ^ min 1 IntKind.u64.bits)) = (((lo + hi) / 2 : Nat) : Int) := by
  have h1 : (2 : Int) ^ min 1 IntKind.u64.bits = 2 := rfl
  have h2 : IntKind.u64.wrap ((lo + hi : Nat) : Int) = ((lo + hi : Nat) : Int) := by rw [IntKind.wrap_u64]; omega
  rw [h2, h1, Int.fdiv_eq_ediv_of_nonneg _ (by omega), wrap64 (by omega) (by omega)]
  omega
def bsF (l : List Cr) (x : Cr) : Bool := decide (bsC l x 0 l.length < l.length) && (cmpC (cAt l (bsC l x 0 l.length)) x == 0)
theorem bsF_mem {l : List Cr} (hs : sortedC l) (x : Cr) : bsF l x = true ↔ x ∈ l := by
  rw [← bsC_mem hs x]
  unfold bsF
  rw [Bool.and_eq_true, decide_eq_true_iff, beq_iff_eq]
  constructor
  · rintro ⟨h1, h2⟩; exact ⟨h1, by rwa [cAt_in h1] at h2⟩
  · rintro ⟨h1, h2⟩; exact ⟨h1, by rwa [cAt_in h1]⟩
set_option maxHeartbeats 16000000 in
theorem bsearchC (l : List Cr) (x : Cr) (f : Bool) (hl : l.length ≤ 1000000) : ConP Tryz.prog 74 [LC f l, encCr x, .fn 75 []] fun r => r = .tup [.int .i64 (bsC l x 0 l.length), .bool (bsF l x)] := by
  obtain ⟨E, hE⟩ : ∃ E, E = bsC l x 0 l.length := ⟨_, rfl⟩
  have hF : bsF l x = (decide (E < l.length) && (cmpC (cAt l E) x == 0)) := by rw [hE]; rfl
  rw [← hE]
  refine conP_of_conH (conH_of_W tok Tryz.func74 rfl rfl ?_)
  refine W_x tok mixed ?_
  simp -implicitDefEqProofs -dsimp [Tryz.f74, List.replicate, LC, encCr]
  refine lw_of (W_loopV [false, false, false, false, false, false, false, false, false, true, true, true, false, false, false, true, true, true, true, true, true, true, true, true, true, true, true, true, true, true, true, true, true, true, true] (σ := Nat × Nat) (fun p => p.1 ≤ p.2 ∧ p.2 ≤ l.length ∧ bsC l x p.1 p.2 = E) (fun p => p.2 - p.1) (fun p => [(9, .int .i64 p.1), (10, .int .i64 p.2)]) (fun _ => [B.cells [.int .i64 x.id, .int .i64 x.attr]]) (0, l.length) ⟨by omega, by omega, hE.symm⟩ (by simp) rfl (by simp) ?_)
  rintro ⟨lo, hi⟩ ⟨h1, h2, hx⟩ N Q hN hQ
  simp only at h1 h2 hx
  by_cases hb : lo < hi
  · have hw : IntKind.i64.wrap ((lo : Int) + (hi : Int)) = ((lo + hi : Nat) : Int) := by rw [wrap64 (by omega) (by omega)]; rfl
    have hs := shr1 lo hi (by omega)
    rw [bsC, if_pos hb] at hx
    obtain ⟨m, em⟩ : ∃ m, m = (lo + hi) / 2 := ⟨_, rfl⟩
    rw [← em] at hs hx
    obtain ⟨sm, esm⟩ : ∃ sm, sm = lo + hi := ⟨_, rfl⟩
    rw [← esm] at hs hw em
    have hm : m < l.length := by omega
    rw [cAt_in hm] at hx
    have hc := compare_c l[m] x
    simp only [encCr] at hc
    have hs1 := wrapS m (by omega)
    by_cases hq : cmpC l[m] x < 0
    · rw [if_pos hq] at hx
      refine W_x tok mixed ?_
      simp -implicitDefEqProofs -dsimp [hb, hw, hs, hm, encCr]
      refine .inr ⟨stop_of (by kernel_rfl), ?_⟩
      refine cy_of _ (callP (hc) (by simp)) ?_
      simp -implicitDefEqProofs -dsimp [hq, hs1]
      refine hN (m + 1, hi) _ _ ⟨by simp only; omega, h2, hx⟩ (by omega) ?_ ⟨[], ?_⟩ ?_ ?_ <;> simp [or_imp, forall_and, L1, encI]
    · rw [if_neg hq] at hx
      refine W_x tok mixed ?_
      simp -implicitDefEqProofs -dsimp [hb, hw, hs, hm, encCr]
      refine .inr ⟨stop_of (by kernel_rfl), ?_⟩
      refine cy_of _ (callP (hc) (by simp)) ?_
      simp -implicitDefEqProofs -dsimp [hq, hs1]
      refine hN (lo, m) _ _ ⟨by simp only; omega, by simp only; omega, hx⟩ (by omega) ?_ ⟨[], ?_⟩ ?_ ?_ <;> simp [or_imp, forall_and, L1, encI]
  · rw [bsC, if_neg hb] at hx
    subst hx
    by_cases hn : lo < l.length
    · have hc := compare_c l[lo] x
      simp only [encCr] at hc
      rw [cAt_in hn] at hF
      refine W_x tok mixed ?_
      simp -implicitDefEqProofs -dsimp [hb]
      refine hQ _ _ _ ?_
      simp -implicitDefEqProofs -dsimp [hn, encCr]
      refine .inr ⟨stop_of (by kernel_rfl), ?_⟩
      refine cy_of _ (callP (hc) (by simp)) ?_
      simp -implicitDefEqProofs -dsimp [hn]
      rw [hF]; simp [hn]
    · refine W_x tok mixed ?_
      simp -implicitDefEqProofs -dsimp [hb]
      refine hQ _ _ _ ?_
      simp -implicitDefEqProofs -dsimp [hn, encCr]
      refine .inr ⟨stop_of (by kernel_rfl), ?_⟩
      rw [hF]; simp [hn]
end Go.Proofs.YteijbpppalhihaaGreat
