/- V6: the program's forest: agree, fill. Expanded by pp.py. -/
import Derived.Test.YteijbpppalhihaaGreatV4
set_option linter.unusedVariables false
set_option linter.unusedSimpArgs false
set_option maxRecDepth 100000
namespace Go.Proofs.YteijbpppalhihaaGreat
open Go Go.AM
def AgrE (q : Prob) (r : Nat → Nat) (i k : Nat) (s : Int) (n : Nat) : Prop := ∀ a, a < n → hasB s a = true → eqv q r (i * q.n + a) (k * q.n + a)
open Classical in
noncomputable def agB (q : Prob) (r : Nat → Nat) (i k : Nat) (s : Int) : Bool := decide (AgrE q r i k s q.n)
theorem agB_iff {q : Prob} {r : Nat → Nat} {i k : Nat} {s : Int} : agB q r i k s = true ↔ AgrE q r i k s q.n := by unfold agB; simp
theorem agB_no {q : Prob} {r : Nat → Nat} {i k : Nat} {s : Int} {a : Nat} (ha : a < q.n) (hb : hasB s a = true) (he : eqvB q r (i * q.n + a) (k * q.n + a) = false) : agB q r i k s = false := by
  cases hc : agB q r i k s
  · rfl
  · have := eqvB_iff.2 (agB_iff.1 hc a ha hb)
    rw [he] at this; cases this
theorem hasB_def (s : Int) (a : Nat) : (IntKind.u32.wrap ↑((s.fdiv (2 ^ min a IntKind.u32.bits) % 2 ^ IntKind.u32.bits).toNat &&& 1 % 2 ^ IntKind.u32.bits) == 1) = hasB s a := rfl
theorem ptrRb {H : List B} {k0 kp kq n N : Nat} {K : Nat → Option Vl} (g : HOk H k0 kp kq n N K) (P : List Nat) : k0 < (Ht H kp P).length := by rw [ht_len]; exact g.lt0
set_option maxHeartbeats 16000000 in
theorem agree_u {q : Prob} {P : List Nat} {r h : Nat → Nat} (f : Frt q P r h) {H : List B} {k0 kp kq n N : Nat} (hNe : q.m * q.n = N) (hn : q.n = n) (g : HOk H k0 kp kq n N q.K) (hN : N ≤ 1000000) (i k : Nat) (s : Int) (hi : i < q.m) (hk : k < q.m) (hn2 : n ≤ 16) :
    ConH Tryz.prog 94 [.ptr k0 0, .int .i64 i, .int .i64 k, .int .u32 s] (Ht H kp P) fun r' H' => r' = .bool (agB q r i k s) ∧ H' = Ht H kp P := by
  obtain ⟨E, hE⟩ : ∃ E, E = agB q r i k s := ⟨_, rfl⟩
  rw [← hE]
  have h0 := g.at0 P
  have hrb := g.rbs P
  have hl0 := ptrRb g P
  refine conH_of_W tok Tryz.func94 rfl rfl ?_
  refine W_x tok mixed ?_
  simp -implicitDefEqProofs -dsimp [Tryz.f94, List.replicate, h0]
  refine lw_of (W_loopV [false, false, false, false, false, false, false, false, true, true, false, false, false, false, true, true, true, true, true, true, true, true, true, true, true, true, true, true, true, true, true, true, true, true, true, true, true, true, true, true, true, true, true, true] (σ := Nat) (fun a => a ≤ n ∧ AgrE q r i k s a) (fun a => n - a) (fun a => [(14, .int .i64 a)]) (fun _ => Ht H kp P) 0 ⟨by omega, fun a ha => by omega⟩ (by simp) rfl (by simp) ?_)
  rintro a ⟨ha, hx⟩ N2 Q hN2 hQ
  by_cases hb : a < n
  · have li := cell_lt hi (hn ▸ hb)
    have lk := cell_lt hk (hn ▸ hb)
    have ci := same_u f hNe g hN (i * q.n + a) (k * q.n + a) (hNe ▸ li) (hNe ▸ lk)
    have hx2 : AgrE q r i k s a := hx
    cases hh : hasB s a
    · refine W_x tok mixed ?_
      simp -implicitDefEqProofs -dsimp [h0, hb, hasB_def, hh, show (a : Int) < 32 by omega]
      refine .inr ⟨stop_of (by kernel_rfl), ?_⟩
      simp -implicitDefEqProofs -dsimp [wrapS a (by omega)]
      refine hN2 (a + 1) _ _ ⟨by omega, fun b hb1 hb2 => ?_⟩ (by omega) (by simp) ⟨[], by simp⟩ (by simp [hl0]) hrb
      rcases Nat.lt_or_ge b a with h1 | h1
      · exact hx b h1 hb2
      · have : b = a := by omega
        subst this; rw [hh] at hb2; cases hb2
    · rw [hn] at li lk ci
      have hNe2 : q.m * n = N := by rw [← hn]; exact hNe
      rw [hNe2] at li lk
      have w1 : IntKind.i64.wrap ((i : Int) * n) = ((i * n : Nat) : Int) := by rw [wrap64 (by omega) (by omega)]; push_cast; rfl
      have w2 : IntKind.i64.wrap ((k : Int) * n) = ((k * n : Nat) : Int) := by rw [wrap64 (by omega) (by omega)]; push_cast; rfl
      have w3 : IntKind.i64.wrap (((i * n : Nat) : Int) + (a : Int)) = ((i * n + a : Nat) : Int) := by rw [wrap64 (by omega) (by omega)]; push_cast; rfl
      have w4 : IntKind.i64.wrap (((k * n : Nat) : Int) + (a : Int)) = ((k * n + a : Nat) : Int) := by rw [wrap64 (by omega) (by omega)]; push_cast; rfl
      have e1 : i * q.n + a = i * n + a := by rw [hn]
      have e2 : k * q.n + a = k * n + a := by rw [hn]
      obtain ⟨xi, hxi⟩ : ∃ xi, xi = i * n + a := ⟨_, rfl⟩
      obtain ⟨xk, hxk⟩ : ∃ xk, xk = k * n + a := ⟨_, rfl⟩
      obtain ⟨yi, hyi⟩ : ∃ yi, yi = i * n := ⟨_, rfl⟩
      obtain ⟨yk, hyk⟩ : ∃ yk, yk = k * n := ⟨_, rfl⟩
      rw [← hxi] at w3 e1 ci
      rw [← hxk] at w4 e2 ci
      rw [← hyi] at w1 w3
      rw [← hyk] at w2 w4
      cases he : eqvB q r xi xk
      · rw [he] at ci
        have hno := agB_no (k := k) (i := i) (hn ▸ hb) hh (by rw [e1, e2]; exact he)
        rw [hno] at hE
        refine W_x tok mixed ?_
        simp -implicitDefEqProofs -dsimp [h0, hb, hasB_def, hh, show (a : Int) < 32 by omega, w1, w2, w3, w4]
        refine .inr ⟨stop_of (by kernel_rfl), ?_⟩
        refine cy_of _ ci ?_
        simp -implicitDefEqProofs -dsimp [hh]
        refine hQ _ _ _ ?_
        simp -implicitDefEqProofs -dsimp []
        exact hE
      · rw [he] at ci
        refine W_x tok mixed ?_
        simp -implicitDefEqProofs -dsimp [h0, hb, hasB_def, hh, show (a : Int) < 32 by omega, w1, w2, w3, w4]
        refine .inr ⟨stop_of (by kernel_rfl), ?_⟩
        refine cy_of _ ci ?_
        simp -implicitDefEqProofs -dsimp [hh, wrapS a (by omega)]
        refine hN2 (a + 1) _ _ ⟨by omega, fun b hb1 hb2 => ?_⟩ (by omega) (by simp) ⟨[], by simp⟩ (by simp [hl0]) hrb
        rcases Nat.lt_or_ge b a with h1 | h1
        · exact hx b h1 hb2
        · have : b = a := by omega
          subst this; rw [e1, e2]; exact eqvB_iff.1 he
  · have hyes : agB q r i k s = true := agB_iff.2 fun b hb1 hb2 => hx b (by omega) hb2
    rw [hyes] at hE
    refine W_x tok mixed ?_
    simp -implicitDefEqProofs -dsimp [hb]
    refine hQ _ _ _ ?_
    simp -implicitDefEqProofs -dsimp []
    exact hE
end Go.Proofs.YteijbpppalhihaaGreat
