/- B2: Of, Normal. Expanded by pp.py. -/
import Derived.Test.YtmjicfafjjgekaaB1
set_option linter.unusedSimpArgs false
set_option maxRecDepth 100000
namespace Go.Proofs.Ytmjicfafjjgekaa
open Go Go.AM Go.Dr
@[simp ↓ high] theorem forall_rbB_cons (n : Nat) (b : B) (l : List B) : (∀ bl ∈ b :: l, rbB n bl) ↔ (rbB n b ∧ ∀ bl ∈ l, rbB n bl) := List.forall_mem_cons
@[simp ↓ high] theorem forall_rbB_nil (n : Nat) : (∀ bl ∈ ([] : List B), rbB n bl) ↔ True := by simp
def encB (n : Int) : V := .int .i8 n
def encR (f : Bool) (n : Int) (ws : List Int) : V := .agg [.int .u8 n, .lst 1 f (ws.map encB)]
@[simp] theorem encB_pure (n : Int) : AM.Pure (encB n) := by simp [encB]
theorem ofJ_snd (ws : List Int) (i : Nat) (s : List P3 × Nat) : ∀ c, (ofJ ws i s c).2 = s.2 + c
  | 0 => rfl
  | c + 1 => by
    have := ofJ_snd ws i s c
    simp only [ofJ, ofStep]
    omega
theorem ofI_snd (ws : List Int) (n : Nat) : ∀ i, (ofI ws n i).2 ≤ i * n
  | 0 => by simp [ofI]
  | i + 1 => by
    have := ofI_snd ws n i
    rw [ofI, ofJ_snd, Nat.add_mul]
    omega
set_option maxHeartbeats 8000000 in
theorem of_no54 (N : Nat) (ws : List Int) (f : Bool) (hN : 8 < N) (hN2 : N ≤ 255) : ConP Try.prog 15 [encR f N ws, .int .i64 8] fun r => r = .tup [.int .i64 0, .nilS, .bool false] := by
  have hw : IntKind.i64.wrap (N : Int) = N := wrap64 (by omega) (by omega)
  refine conP_of_conH (conH_of_W tok Try.func15 rfl rfl ?_)
  refine W_x tok mixed ?_
  simp -implicitDefEqProofs -dsimp [Try.f15, List.replicate, encR, hw, show (8 : Int) < N by omega]
set_option maxHeartbeats 8000000 in
theorem of_yes54 (N : Nat) (ws : List Int) (f : Bool) (hN : N ≤ 8) (hwf : ∀ x ∈ ws, -128 ≤ x ∧ x ≤ 127) : ConP Try.prog 15 [encR f N ws, .int .i64 8] fun r => r = .tup [.int .i64 N, LP false (ofL N ws), .bool true] := by
  have hw : IntKind.i64.wrap (N : Int) = N := wrap64 (by omega) (by omega)
  refine conP_of_conX (conH_of_W tok Try.func15 rfl rfl ?_)
  refine W_x tok mixed ?_
  simp -implicitDefEqProofs -dsimp [Try.f15, List.replicate, encR, hw, show ¬ (8 : Int) < N by omega]
  refine lw_of (W_own 28 3 [8] (by simp) (W_loopV [false, false, false, false, false, false, false, false, true, true, true, true, false, false, false, false, false, false, true, true, true, true, true, true, true, true, true, true, true, true, true, true, true, true, true, true, true, true, true, true, true, true, true, true, true, true, true, true, true, true, true, true, true, true, true, true, true] (σ := Nat) (fun i => i ≤ N) (fun i => N - i) (fun i => [(10, .int .i64 i), (8, .buf 1 0 (ofI ws N i).1.length (ofI ws N i).1.length), (9, .int .i64 (ofI ws N i).2)]) (fun i => [B.cells [.int .u8 N, .lst 1 f (ws.map encB)], B.buf 28 3 ((ofI ws N i).1.map encP) false]) 0 (by omega) (by simp [ofI]) (by simp [ofI]) (by simp) ?_))
  intro i hi Nx Q hN2 hQ
  by_cases hb : i < N
  · have h1 := ofI_snd ws N i
    have h2 := ofI_len (ws := ws) (n := N) i
    have h3 : i * N ≤ 8 * 8 := Nat.mul_le_mul (by omega) hN
    have hS : ofI ws N (i + 1) = ofJ ws i (ofI ws N i) (N - i - 1) := rfl
    obtain ⟨S, hSe⟩ : ∃ S, S = ofI ws N i := ⟨_, rfl⟩
    rw [← hSe] at h1 h2 hS ⊢
    refine W_x tok mixed ?_
    simp -implicitDefEqProofs -dsimp [hb, wrapS i (by omega)]
    refine lw_of (W_loopV [false, false, false, false, false, false, false, false, true, true, false, true, false, false, false, false, false, false, false, false, false, false, false, false, false, true, true, true, true, true, true, true, true, true, true, true, true, true, true, true, true, true, true, true, true, true, true, true, true, true, true, true, true, true, true, true, true] (σ := Nat) (fun c => c ≤ N - i - 1) (fun c => N - i - 1 - c) (fun c => [(11, .int .i64 ((i + 1 + c : Nat) : Int)), (8, .buf 1 0 (ofJ ws i S c).1.length (ofJ ws i S c).1.length), (9, .int .i64 (ofJ ws i S c).2)]) (fun c => [B.cells [.int .u8 N, .lst 1 f (ws.map encB)], B.buf 28 3 ((ofJ ws i S c).1.map encP) false]) 0 (by omega) (by simp [ofJ]) (by simp [ofJ]) (by simp) ?_)
    intro c hc N2 Q2 hN3 hQ2
    have g1 := ofJ_snd ws i S c
    have g2 := ofJ_len (ws := ws) (i := i) (s := S) c
    have gS : ofJ ws i S (c + 1) = ofStep ws i (i + 1 + c) (ofJ ws i S c) := rfl
    obtain ⟨k, hk⟩ : ∃ k, k = i + 1 + c := ⟨_, rfl⟩
    obtain ⟨m, hm⟩ : ∃ m, m = (ofJ ws i S c).2 := ⟨_, rfl⟩
    obtain ⟨l, hl⟩ : ∃ l, l = (ofJ ws i S c).1 := ⟨_, rfl⟩
    rw [← hk] at gS ⊢
    rw [← hm] at g1
    rw [← hl] at g2
    have gS2 : ofJ ws i S (c + 1) = (if m < ws.length ∧ ws.getD m 0 ≠ 0 then l ++ [⟨i, k, ws.getD m 0⟩] else l, m + 1) := by rw [gS, ofStep, ← hm, ← hl]
    rw [← hl, ← hm]
    have hk2 : i + 1 + (c + 1) = k + 1 := by omega
    by_cases hcb : k < N
    · by_cases hm1 : m < ws.length
      · have hg : ws.getD m 0 = ws[m] := by simp [hm1]
        have hx := hwf ws[m] (List.getElem_mem hm1)
        have hwx : IntKind.i64.wrap ws[m] = ws[m] := wrap64 (by omega) (by omega)
        rw [hg] at gS2
        by_cases hz : ws[m] = 0
        · rw [if_neg (by simp [hz])] at gS2
          refine W_x tok mixed ?_
          simp -implicitDefEqProofs -dsimp [hcb, hm1, hz, encB, wrapS m (by omega), wrapS k (by omega)]
          refine hN3 (c + 1) _ _ (by omega) (by omega) ?_ ⟨[], ?_⟩ ?_ ?_ <;> simp [or_imp, forall_and, L1, encI, gS2, hk2, encP]
        · rw [if_pos ⟨hm1, hz⟩] at gS2
          refine W_x tok mixed ?_
          simp -implicitDefEqProofs -dsimp [hcb, hm1, hz, encB, hwx, cap24 l.length (by omega), wrapS m (by omega), wrapS k (by omega)]
          refine hN3 (c + 1) _ _ (by omega) (by omega) ?_ ⟨[], ?_⟩ ?_ ?_ <;> simp [or_imp, forall_and, L1, encI, gS2, hk2, encP]
      · rw [if_neg (fun h => hm1 h.1)] at gS2
        refine W_x tok mixed ?_
        simp -implicitDefEqProofs -dsimp [hcb, hm1, wrapS m (by omega), wrapS k (by omega)]
        refine hN3 (c + 1) _ _ (by omega) (by omega) ?_ ⟨[], ?_⟩ ?_ ?_ <;> simp [or_imp, forall_and, L1, encI, gS2, hk2, encP]
    · have hce : c = N - i - 1 := by omega
      rw [← hce] at hS
      refine W_x tok mixed ?_
      simp -implicitDefEqProofs -dsimp [hcb]
      refine hQ2 _ _ _ ?_
      simp -implicitDefEqProofs -dsimp [wrapS i (by omega)]
      refine hN2 (i + 1) _ _ (by omega) (by omega) ?_ ⟨[], ?_⟩ ?_ ?_ <;> simp [or_imp, forall_and, L1, encI, hS, ← hl, ← hm, encP]
  · obtain rfl : i = N := by omega
    refine W_x tok mixed ?_
    simp -implicitDefEqProofs -dsimp [hb]
    refine hQ _ _ _ ?_
    simp -implicitDefEqProofs -dsimp []
    refine .tup _ _ rfl fun j c d hc hd => ?_
    match j with
    | 0 => simp at hc hd; subst hc; subst hd; exact .pure _ (.int _ _)
    | 1 => simp at hc hd; subst hc; subst hd; exact expx_buf (k := 1) (e := 28) (fz := false) rfl (by simp [ofL]) (by simp)
    | 2 => simp at hc hd; subst hc; subst hd; exact .pure _ (.bool _)
    | j + 3 => simp at hc
/-- The label that is found so far. -/
def labA (xs : List Int) (u : List Int) (x : Int) (k : Nat) : Int := if x ∈ xs.take k then (u.idxOf x : Int) else -1
set_option maxHeartbeats 8000000 in
theorem normal54 (xs : List Int) (f : Bool) (hl : xs.length ≤ 1000) : ConP Try.prog 27 [L1 f xs] fun r => r = L1 false (nf xs) := by
  refine conP_of_conH (conH_of_W tok Try.func27 rfl rfl ?_)
  refine W_x tok mixed ?_
  simp -implicitDefEqProofs -dsimp [Try.f27, List.replicate, L1]
  refine lw_of (W_own 3 1 [3] (by simp) (W_loopV [false, false, false, true, true, true, true, true, true, true, true, true, true, true, true, true, true, true, true, true, true, true, true, true, true, true, true, true, true, true, true, true, true, true, true, true, true, true, true, true, true] (σ := Nat) (fun i => i ≤ xs.length) (fun i => xs.length - i) (fun i => [(5, .int .i64 i), (3, .buf 0 0 i i), (4, .int .i64 ((nfTo xs i).2.length : Nat))]) (fun i => [B.buf 3 1 ((nfTo xs i).1.map encI) false]) 0 (by omega) (by simp [nfTo]) (by simp [nfTo]) (by simp) ?_))
  intro i hi N Q hN hQ
  have hok := nfTo_ok xs i hi
  by_cases hb : i < xs.length
  · have hs : nfTo xs (i + 1) = nfStep (nfTo xs i) xs[i] := nfTo_succ (List.getElem?_eq_getElem hb)
    obtain ⟨s, hse⟩ : ∃ s, s = nfTo xs i := ⟨_, rfl⟩
    rw [← hse] at hs hok ⊢
    have hmem := hok.mem xs[i]
    have hsl := hok.len
    have hul : s.2.length ≤ 1000 := Nat.le_trans hok.slen (by omega)
    refine W_x tok mixed ?_
    simp -implicitDefEqProofs -dsimp [hb, L1]
    refine lw_of (W_loopV [false, false, false, false, false, false, true, true, false, false, false, false, false, false, true, true, true, true, true, true, true, true, true, true, true, true, true, true, true, true, true, true] (σ := Nat) (fun k => k ≤ i) (fun k => i - k) (fun k => [(7, .int .i64 k), (6, .int .i64 (labA xs s.2 xs[i] k))]) (fun _ => [B.buf 3 1 (s.1.map encI) false]) 0 (by omega) (by simp [labA]) (by simp) (by simp) ?_)
    intro k hk N2 Q2 hN2 hQ2
    by_cases hkb : k < i
    · have hkl : k < xs.length := by omega
      have hat := hok.at_ k xs[k] hkb (List.getElem?_eq_getElem hkl)
      by_cases hq : xs[k] = xs[i]
      · have hlab : labA xs s.2 xs[i] (k + 1) = (s.2.idxOf xs[i] : Int) := by
          unfold labA
          rw [List.take_succ_eq_append_getElem hkl, if_pos (by simp [hq])]
        rw [hq] at hat
        have hks : k < s.1.length := by omega
        have hat2 : s.1[k] = (s.2.idxOf xs[i] : Int) := by rw [List.getElem?_eq_getElem hks] at hat; exact Option.some.inj hat
        refine W_x tok mixed ?_
        simp -implicitDefEqProofs -dsimp [hkb, hkl, hb, encI, hq, L1]
        refine .inr ⟨stop_of (by kernel_rfl), ?_⟩
        simp -implicitDefEqProofs -dsimp [hks, hsl, hkb, hat2, encI, wrapS k (by omega), L1]
        refine hN2 (k + 1) _ _ (by omega) (by omega) ?_ ⟨[], ?_⟩ ?_ ?_ <;> simp [or_imp, forall_and, L1, encI, hlab]
      · have hlab : labA xs s.2 xs[i] (k + 1) = labA xs s.2 xs[i] k := by
          unfold labA
          rw [List.take_succ_eq_append_getElem hkl]
          have : xs[i] ∈ xs.take k ++ [xs[k]] ↔ xs[i] ∈ xs.take k := by
            rw [List.mem_append, List.mem_singleton]
            exact ⟨fun h => h.resolve_right (fun e => hq e.symm), .inl⟩
          simp only [this]
        refine W_x tok mixed ?_
        simp -implicitDefEqProofs -dsimp [hkb, hkl, hb, encI, hq, L1]
        refine .inr ⟨stop_of (by kernel_rfl), ?_⟩
        simp -implicitDefEqProofs -dsimp [wrapS k (by omega), L1]
        refine hN2 (k + 1) _ _ (by omega) (by omega) ?_ ⟨[], ?_⟩ ?_ ?_ <;> simp [or_imp, forall_and, L1, encI, hlab]
    · obtain rfl : k = i := by omega
      by_cases hm : xs[k] ∈ s.2
      · have hlab : labA xs s.2 xs[k] k = (s.2.idxOf xs[k] : Int) := by unfold labA; rw [if_pos (hmem.1 hm)]
        have hst : nfStep s xs[k] = (s.1 ++ [(s.2.idxOf xs[k] : Int)], s.2) := by unfold nfStep; rw [if_pos hm]
        rw [hst] at hs
        rw [hlab]
        refine W_x tok mixed ?_
        simp -implicitDefEqProofs -dsimp [hkb, L1]
        refine hQ2 _ _ _ ?_
        simp -implicitDefEqProofs -dsimp [show ¬ ((s.2.idxOf xs[k] : Int) < 0) by omega, hsl, cap8 k (by omega), wrapS k (by omega), L1]
        refine hN (k + 1) _ _ (by omega) (by omega) ?_ ⟨[], ?_⟩ ?_ ?_ <;> simp [or_imp, forall_and, L1, encI, hs]
      · have hlab : labA xs s.2 xs[k] k = -1 := by unfold labA; rw [if_neg (fun h => hm (hmem.2 h))]
        have hst : nfStep s xs[k] = (s.1 ++ [(s.2.length : Int)], s.2 ++ [xs[k]]) := by unfold nfStep; rw [if_neg hm]
        rw [hst] at hs
        rw [hlab]
        refine W_x tok mixed ?_
        simp -implicitDefEqProofs -dsimp [hkb, L1]
        refine hQ2 _ _ _ ?_
        simp -implicitDefEqProofs -dsimp [hsl, cap8 k (by omega), wrapS k (by omega), wrapS s.2.length (by omega), L1]
        refine hN (k + 1) _ _ (by omega) (by omega) ?_ ⟨[], ?_⟩ ?_ ?_ <;> simp [or_imp, forall_and, L1, encI, hs]
  · obtain rfl : i = xs.length := by omega
    refine W_x tok mixed ?_
    simp -implicitDefEqProofs -dsimp [hb, L1]
    refine hQ _ _ _ ?_
    simp -implicitDefEqProofs -dsimp [L1]
    exact exp_buf rfl (by have := hok.len; simp [nf, this]) (by simp [encI])
end Go.Proofs.Ytmjicfafjjgekaa
