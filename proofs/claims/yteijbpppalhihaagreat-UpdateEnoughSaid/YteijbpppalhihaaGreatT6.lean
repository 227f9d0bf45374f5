/- T6: tables of recipes. Expanded by pp.py. -/
import Derived.Test.YteijbpppalhihaaGreatT5
import Derived.Test.YteijbpppalhihaaGreatWk
set_option linter.unusedVariables false
set_option linter.unusedSimpArgs false
set_option maxRecDepth 100000
namespace Go.Proofs.YteijbpppalhihaaGreat
open Go Go.AM
structure Rcp where
  a : Int
  gap : Int
  rows : List (List Int)
def LU (xs : List Int) : V := .lst 1 false (xs.map encU)
def encRcp (f : Bool) (x : Rcp) : V := .agg [.int .u8 x.a, .int .u8 x.gap, .lst 1 f (x.rows.map LU)]
@[simp] theorem LU_pure (xs : List Int) : AM.Pure (LU xs) := by simp [LU]
@[simp] theorem encRcp_pure (f : Bool) (x : Rcp) : AM.Pure (encRcp f x) := by simp [encRcp]
def L8 : List ByteArray := [⟨#[97]⟩, ⟨#[98]⟩, ⟨#[99]⟩, ⟨#[100]⟩, ⟨#[101]⟩, ⟨#[102]⟩, ⟨#[103]⟩, ⟨#[104]⟩]
def wVals (cs : List Int) (k : Nat) : List Vl := (List.range k).map fun j => ofC (cs.getD j 0)
def wRow (gap : Int) (cs : List Int) (n i : Nat) : Rw := ⟨1 + (i : Int) * (1 + gap.tmod 3), wVals cs n⟩
def wRows (x : Rcp) (n i : Nat) : List Rw := (List.range i).map fun j => wRow x.gap (x.rows.getD j []) n j
def wideT (x : Rcp) (n : Nat) : Tb := ⟨⟨#[114]⟩, L8.take n, wRows x n x.rows.length⟩
theorem wVals_succ (cs : List Int) (k : Nat) : wVals cs (k + 1) = wVals cs k ++ [ofC (cs.getD k 0)] := by simp [wVals, List.range_succ]
theorem wVals_len (cs : List Int) (k : Nat) : (wVals cs k).length = k := by simp [wVals]
theorem wRows_succ (x : Rcp) (n i : Nat) : wRows x n (i + 1) = wRows x n i ++ [wRow x.gap (x.rows.getD i []) n i] := by simp [wRows, List.range_succ]
theorem wRows_len (x : Rcp) (n i : Nat) : (wRows x n i).length = i := by simp [wRows]
theorem cap32 (n : Nat) (h : n ≤ 1000000000) : n ≤ 9223372036854775806 ∧ (n + 1) * 32 ≤ 140737488355328 := by omega
theorem L8_take (n : Nat) : List.take n [V.str ⟨#[97]⟩, V.str ⟨#[98]⟩, V.str ⟨#[99]⟩, V.str ⟨#[100]⟩, V.str ⟨#[101]⟩, V.str ⟨#[102]⟩, V.str ⟨#[103]⟩, V.str ⟨#[104]⟩] = (L8.take n).map V.str := by rw [List.map_take]; rfl
theorem ownF_refl (k : Nat) : ∀ xs : List V, OwnF k xs xs
  | [] => trivial
  | x :: xs => ⟨.inl rfl, ownF_refl k xs⟩
theorem ownAt_nil (k : Nat) : ∀ (i : Nat) (xs : List V), ownAt k [] i xs = xs
  | _, [] => rfl
  | i, x :: xs => by simp only [ownAt, List.contains_nil, Bool.false_eq_true, if_false, ownAt_nil k (i + 1) xs]
theorem lfL_own (k : Nat) (xs : List V) : OwnF k xs (ownAt k [] 0 xs) := by rw [ownAt_nil]; exact ownF_refl k xs
set_option maxHeartbeats 32000000 in
theorem wide03 (x : Rcp) (n : Nat) (f : Bool) (hn : n ≤ 8) (hr : x.rows.length ≤ 1000000) (hc : ∀ r ∈ x.rows, r.length ≤ 9223372036854775807) (h0 : 0 ≤ x.gap) :
    ConP Tryz.prog 38 [encRcp f x, .int .i64 n] fun r => r = encTb false false (wideT x n) := by
  have hg := Int.tmod_nonneg 3 h0
  have hg2 := Int.tmod_lt_of_pos x.gap (show (0 : Int) < 3 by omega)
  obtain ⟨g, hge⟩ : ∃ g, g = x.gap.tmod 3 := ⟨_, rfl⟩
  rw [← hge] at hg hg2
  have hgs := hge.symm
  have hw1 : IntKind.i64.wrap g = g := wrap64 (by omega) (by omega)
  have hw2 : IntKind.i64.wrap (1 + g) = 1 + g := wrap64 (by omega) (by omega)
  have hl8 : (L8.take n).length = n := by simp [L8]; omega
  have hne : (n = 0 ∧ List.take n (L8.map V.str) = []) ∨ (¬ n = 0 ∧ ¬ List.take n (L8.map V.str) = []) := by
    by_cases hz : n = 0
    · exact .inl ⟨hz, by rw [hz]; rfl⟩
    · refine .inr ⟨hz, fun h => ?_⟩
      have := congrArg List.length h
      rw [← List.map_take, List.length_map, hl8] at this
      exact hz this
  have hlt : (List.take n (L8.map V.str)).length = n := by rw [← List.map_take, List.length_map, hl8]
  have hcp : n ≤ 9223372036854775807 ∧ n * 16 ≤ 140737488355328 := by omega
  rcases hne with ⟨hz, hne⟩ | ⟨hz, hne⟩
  case' inl =>
    refine conP_of_conH (conH_of_W (tok_flag tok (fun t => t == 29)) Tryz.func38 rfl rfl ?_)
    refine W_x (tok_flag tok (fun t => t == 29)) mixed ?_
    simp -implicitDefEqProofs -dsimp [Tryz.f38, List.replicate, encRcp, L8_take, hn, hne, flagT]
  case' inr =>
    refine conP_of_conH (conH_of_W (tok_flag tok (fun t => t == 29)) Tryz.func38 rfl rfl ?_)
    refine W_x (tok_flag tok (fun t => t == 29)) mixed ?_
    simp -implicitDefEqProofs -dsimp [Tryz.f38, List.replicate, encRcp, L8_take, hn, hz, hne, hlt, hcp, flagT]
  all_goals
    refine lw_of (W_lf 2 _ [.str ⟨#[114]⟩, .lst 1 false (List.take n (L8.map V.str)), .nilS] rfl (lfL_refl _) (by simp [LfL, lfB, hne]) (W_ownC 66 2 [] 2 [2] rfl (lfL_own _ _) (by simp) (W_loopV [false, false, false, false, false, false, true, true, true, true, true, true, false, true, true, true, true, true, true, true, true, true, true, true, true, true, true, true, true, true, true, true, true, true, true, true, true, true, true, true, true, true, true, true, true, true, true, true, true, true, true, true, true, true, true, true, true, true, true, true, true, true, true, true, true, true] (σ := Nat) (fun i => i ≤ x.rows.length) (fun i => x.rows.length - i) (fun i => [(6, .int .i64 i)]) (fun i => [B.cells [.int .u8 x.a, .int .u8 x.gap, .lst 1 f (x.rows.map LU)], B.cells [.str ByteArray.empty, .nilS, .nilS], B.cells [.str ⟨#[114]⟩, .lst 1 false (List.take n (L8.map V.str)), .buf 3 0 i i], B.buf 66 2 ((wRows x n i).map encRw) false]) 0 (by omega) (by simp) (by simp [wRows]) (by simp) ?_)))
    intro i hi N Q hN hQ
    have hwl := wRows_len x n i
    by_cases hb : i < x.rows.length
    · have hg0 : x.rows.getD i [] = x.rows[i] := by simp [hb]
      have hws := wRows_succ x n i
      rw [hg0] at hws
      have hcl := hc x.rows[i] (List.getElem_mem hb)
      obtain ⟨cs, hcs⟩ : ∃ cs, cs = x.rows[i] := ⟨_, rfl⟩
      rw [← hcs] at hws hcl
      have hcs' := hcs.symm
      have hp0 : 0 ≤ (i : Int) * (1 + g) := Int.mul_nonneg (by omega) (by omega)
      have hp1 : (i : Int) * (1 + g) ≤ i * 3 := Int.mul_le_mul_of_nonneg_left (by omega) (by omega)
      have hw3 : IntKind.i64.wrap ((i : Int) * (1 + g)) = (i : Int) * (1 + g) := wrap64 (by omega) (by omega)
      have hw4 : IntKind.i64.wrap (1 + (i : Int) * (1 + g)) = 1 + (i : Int) * (1 + g) := wrap64 (by omega) (by omega)
      have hrow : wRow x.gap cs n i = ⟨1 + (i : Int) * (1 + g), wVals cs n⟩ := by rw [hge]; rfl
      rw [hrow] at hws
      obtain ⟨id, hid⟩ : ∃ id, id = 1 + (i : Int) * (1 + g) := ⟨_, rfl⟩
      rw [← hid] at hws hw4
      have hw5 : IntKind.i64.wrap (1 + (i : Int) * (1 + g)) = id := by rw [← hid]; exact hw4
      refine W_x (tok_flag tok (fun t => t == 29)) mixed ?_
      simp -implicitDefEqProofs -dsimp [hb, hgs, hw1, hw2, hw3, hw5, flagT]
      refine lw_of (W_ownC 68 3 [] 4 [1] rfl (lfL_own _ _) (by simp) (W_loopV [false, false, false, false, false, false, false, false, true, true, false, false, false, false, false, false, false, false, false, false, false, false, false, false, false, false, false, false, false, false, false, false, true, true, true, true, true, true, true, true, true, true, true, true, true, true, true, true, true, true, true, true, true, true, true, true, true, true, true, true] (σ := Nat) (fun k => k ≤ n) (fun k => n - k) (fun k => [(8, .int .i64 k)]) (fun k => [B.cells [.int .u8 x.a, .int .u8 x.gap, .lst 1 f (x.rows.map LU)], B.cells [.str ByteArray.empty, .nilS, .nilS], B.cells [.str ⟨#[114]⟩, .lst 1 false (List.take n (L8.map V.str)), .buf 3 0 i i], B.buf 66 2 ((wRows x n i).map encRw) false, B.cells [.int .i64 id, .buf 5 0 k k], B.buf 68 3 ((wVals cs k).map encV) false]) 0 (by omega) (by simp) (by simp [wVals]) (by simp) ?_))
      intro k hk N2 Q2 hN2 hQ2
      have hvl := wVals_len cs k
      have hvs := wVals_succ cs k
      by_cases hkb : k < n
      · by_cases hkc : k < cs.length
        · have hg1 : cs.getD k 0 = cs[k] := by simp [hkc]
          rw [hg1] at hvs
          have hco := of01 cs[k]
          refine W_x (tok_flag tok (fun t => t == 29)) mixed ?_
          simp -implicitDefEqProofs -dsimp [hkb, hb, LU, hcs', hkc, encU, flagT]
          refine lw_of (W_drawT (tok_flag tok (fun t => t == 29)) mixed [5, 7] [] [(encV (ofC cs[k]), [])] (by kernel_rfl) fun C K hC hK => ?_)
          simp -implicitDefEqProofs [cap32 k (by omega), hvl, encV, flagT]
          refine ⟨hC _ _ _ _ (callP hco (by simp)), hK _ _ ?_⟩
          simp -implicitDefEqProofs -dsimp [wrapS k (by omega), flagT]
          refine hN2 (k + 1) _ _ (by omega) (by omega) ?_ ⟨[], ?_⟩ ?_ ?_ <;> simp [or_imp, forall_and, L1, encI, hvs, LS, encV, encRw, LV]
        · have hg1 : cs.getD k 0 = 0 := by simp [hkc]
          rw [hg1] at hvs
          have hco := of01 0
          refine W_x (tok_flag tok (fun t => t == 29)) mixed ?_
          simp -implicitDefEqProofs -dsimp [hkb, hb, LU, hcs', hkc, encU, flagT]
          refine lw_of (W_drawT (tok_flag tok (fun t => t == 29)) mixed [5, 7] [] [(encV (ofC 0), [])] (by kernel_rfl) fun C K hC hK => ?_)
          simp -implicitDefEqProofs [cap32 k (by omega), hvl, encV, flagT]
          refine ⟨hC _ _ _ _ (callP hco (by simp)), hK _ _ ?_⟩
          simp -implicitDefEqProofs -dsimp [wrapS k (by omega), flagT]
          refine hN2 (k + 1) _ _ (by omega) (by omega) ?_ ⟨[], ?_⟩ ?_ ?_ <;> simp [or_imp, forall_and, L1, encI, hvs, LS, encV, encRw, LV]
      · obtain rfl : k = n := by omega
        refine W_frzC 5 [] 4 [1] rfl rfl (by simp) (by simp [hvl]) ?_
        refine W_x (tok_flag tok (fun t => t == 29)) mixed ?_
        simp -implicitDefEqProofs -dsimp [hkb, flagT]
        refine hQ2 _ _ _ ?_
        simp -implicitDefEqProofs -dsimp [hwl, cap32 i (by omega), wrapS i (by omega), flagT]
        refine hN (i + 1) _ _ (by omega) (by omega) ?_ ⟨[B.cells [.int .i64 id, LV false (wVals cs k)], B.buf 68 3 ((wVals cs k).map encV) true], ?_⟩ ?_ ?_ <;> simp [or_imp, forall_and, L1, encI, hws, encRw, LV]
    · obtain rfl : i = x.rows.length := by omega
      refine W_frzC 3 [] 2 [2] rfl rfl (by simp) (by simp [hwl]) ?_
      refine W_x (tok_flag tok (fun t => t == 29)) mixed ?_
      simp -implicitDefEqProofs -dsimp [hb, flagT]
      refine hQ _ _ _ ?_
      simp -implicitDefEqProofs -dsimp [flagT]
      simp only [encTb, wideT, LS, LR, List.map_take]
end Go.Proofs.YteijbpppalhihaaGreat
