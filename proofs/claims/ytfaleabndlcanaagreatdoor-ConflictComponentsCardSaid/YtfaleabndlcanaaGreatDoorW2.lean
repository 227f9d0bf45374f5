/- W2: walks over the library's order: BinarySearch, Compare; conflict.contains. Expanded by pp.py. -/
import Derived.Test.YtfaleabndlcanaaGreatDoorW1
set_option linter.unusedSimpArgs false
set_option maxRecDepth 100000
namespace Go.Proofs.YtfaleabndlcanaaGreatDoor
open Go Go.AM
theorem nan_c (x : Int) : ConP Tryz.prog 150 [.int .i64 x] fun r => r = .bool false := by
  refine conP_of_conH (conH_of_W tok Tryz.func150 rfl rfl ?_)
  refine W_x tok mixed ?_
  simp -implicitDefEqProofs -dsimp [Tryz.f150, List.replicate]
theorem nan_s (x : Int) : ConP Tryz.prog 97 [.int .i64 x] fun r => r = .bool false := by
  refine conP_of_conH (conH_of_W tok Tryz.func97 rfl rfl ?_)
  refine W_x tok mixed ?_
  simp -implicitDefEqProofs -dsimp [Tryz.f97, List.replicate]
set_option maxHeartbeats 4000000 in
theorem less64 (x y : Int) : ConP Tryz.prog 96 [.int .i64 x, .int .i64 y] fun r => r = .bool (decide (x < y)) := by
  refine conP_of_conH (conH_of_W tok Tryz.func96 rfl rfl ?_)
  refine W_x tok mixed ?_
  simp -implicitDefEqProofs -dsimp [Tryz.f96, List.replicate]
  refine (callP (nan_c x) (by simp)).mono ?_
  rintro r H' ⟨rfl, rfl⟩
  simp -implicitDefEqProofs -dsimp []
def cmpI (x y : Int) : Int := if x < y then -1 else if y < x then 1 else 0
set_option maxHeartbeats 4000000 in
theorem cmp64 (x y : Int) : ConP Tryz.prog 104 [.int .i64 x, .int .i64 y] fun r => r = .int .i64 (cmpI x y) := by
  refine conP_of_conH (conH_of_W tok Tryz.func104 rfl rfl ?_)
  refine W_x tok mixed ?_
  simp -implicitDefEqProofs -dsimp [Tryz.f104, List.replicate]
  refine (callP (nan_c x) (by simp)).mono ?_
  rintro r H' ⟨rfl, rfl⟩
  simp -implicitDefEqProofs -dsimp []
  refine (callP (nan_c y) (by simp)).mono ?_
  rintro r H' ⟨rfl, rfl⟩
  simp -implicitDefEqProofs -dsimp []
  unfold cmpI
  split
  · rfl
  · split <;> rfl
def cmpL : List Int → List Int → Int
  | [], [] => 0
  | [], _ :: _ => -1
  | _ :: _, [] => 1
  | x :: xs, y :: ys => if cmpI x y = 0 then cmpL xs ys else cmpI x y
set_option maxHeartbeats 4000000 in
theorem cmpL64 (us bs : List Int) (f g : Bool) (hl : us.length ≤ 1000000) (hl2 : bs.length ≤ 1000000) : ConP Tryz.prog 60 [L1 f us, L1 g bs] fun r => r = .int .i64 (cmpL us bs) := by
  refine conP_of_conH (conH_of_W tok Tryz.func60 rfl rfl ?_)
  refine W_x tok mixed ?_
  simp -implicitDefEqProofs -dsimp [Tryz.f60, List.replicate, L1]
  refine lw_of (W_loopG [4, 5, 6, 7, 8, 11, 12, 13, 14, 15, 16, 17, 18, 19, 20, 21, 22, 23, 24, 25, 26, 27, 28, 29, 30] (σ := Nat) (fun i => i ≤ us.length ∧ i ≤ bs.length ∧ cmpL (us.drop i) (bs.drop i) = cmpL us bs) (fun i => us.length - i) (fun i => [(11, .int .i64 i)]) (fun _ => []) 0 ⟨by omega, by omega, rfl⟩ (by simp) rfl (by simp) ?_)
  rintro i ⟨h1, h2, hx⟩
  by_cases ha : i < us.length
  · by_cases hb : i < bs.length
    · rw [List.drop_eq_getElem_cons ha, List.drop_eq_getElem_cons hb, cmpL] at hx
      have hc := cmp64 us[i] bs[i]
      by_cases hq : cmpI us[i] bs[i] = 0
      · rw [if_pos hq] at hx
        rw [hq] at hc
        refine W_x tok mixed ?_
        simp -implicitDefEqProofs -dsimp [L1, encI, ha, hb, show ¬ (bs.length ≤ i) by omega]
        refine (callP (hc) (by simp)).mono ?_
        rintro r H' ⟨rfl, rfl⟩
        simp -implicitDefEqProofs -dsimp [wrapS i (by omega)]
        refine stop_of ?_
        refine ⟨i + 1, ⟨by omega, by omega, hx⟩, by omega, ?_, ⟨[], rfl⟩, ?_, ?_⟩ <;> simp [L1, encI]
      · rw [if_neg hq] at hx
        refine W_x tok mixed ?_
        simp -implicitDefEqProofs -dsimp [L1, encI, ha, hb, show ¬ (bs.length ≤ i) by omega]
        refine (callP (hc) (by simp)).mono ?_
        rintro r H' ⟨rfl, rfl⟩
        simp -implicitDefEqProofs -dsimp [hq]
        exact hx
    · rw [List.drop_eq_getElem_cons ha, List.drop_of_length_le (l := bs) (by omega), cmpL] at hx
      refine W_x tok mixed ?_
      simp -implicitDefEqProofs -dsimp [L1, encI, ha, show bs.length ≤ i by omega]
      exact hx
  · by_cases hb : i < bs.length
    · rw [List.drop_eq_getElem_cons hb, List.drop_of_length_le (l := us) (by omega), cmpL] at hx
      refine W_x tok mixed ?_
      simp -implicitDefEqProofs -dsimp [L1, encI, ha, show us.length < bs.length by omega]
      exact hx
    · rw [List.drop_of_length_le (l := us) (by omega), List.drop_of_length_le (l := bs) (by omega), cmpL] at hx
      refine W_x tok mixed ?_
      simp -implicitDefEqProofs -dsimp [L1, encI, ha, show ¬ (us.length < bs.length) by omega]
      exact hx
/-- The place that the search finds. -/
def bsI (xs : List Int) (x : Int) (lo hi : Nat) : Nat :=
  if h : lo < hi then (if (xs[(lo + hi) / 2]?).getD 0 < x then bsI xs x ((lo + hi) / 2 + 1) hi else bsI xs x lo ((lo + hi) / 2)) else lo
termination_by hi - lo
def bsP (xs : List Int) (x : Int) : Nat := bsI xs x 0 xs.length
def bsF (xs : List Int) (x : Int) : Bool := xs[bsP xs x]? == some x
theorem bsI_le (xs : List Int) (x : Int) (lo hi : Nat) (h : lo ≤ hi) : lo ≤ bsI xs x lo hi ∧ bsI xs x lo hi ≤ hi := by
  fun_induction bsI xs x lo hi with
  | case1 lo hi h0 h1 ih => have := ih (by omega); omega
  | case2 lo hi h0 h1 ih => have := ih (by omega); omega
  | case3 lo hi h0 => omega
theorem shr1 (lo hi : Nat) (h : lo + hi < 2000002) : IntKind.i64.wrap ((IntKind.u64.wrap ((lo : Int) + (hi : Int))).fdiv (2 ^ min 1 IntKind.u64.bits)) = (((lo + hi) / 2 : Nat) : Int) := by
  have h2 : (2 : Int) ^ min 1 IntKind.u64.bits = 2 := by decide
  have h1 : IntKind.u64.wrap ((lo : Int) + (hi : Int)) = (lo : Int) + (hi : Int) := by rw [IntKind.wrap_u64]; omega
  rw [h2, h1, Int.fdiv_eq_ediv_of_nonneg _ (by omega), wrap64 (by omega) (by omega)]
  omega
set_option maxHeartbeats 8000000 in
theorem bsearch64 (xs : List Int) (x : Int) (f : Bool) (hl : xs.length ≤ 1000000) : ConP Tryz.prog 55 [L1 f xs, .int .i64 x] fun r => r = .tup [.int .i64 (bsP xs x), .bool (bsF xs x)] := by
  refine conP_of_conH (conH_of_W tok Tryz.func55 rfl rfl ?_)
  refine W_x tok mixed ?_
  simp -implicitDefEqProofs -dsimp [Tryz.f55, List.replicate, L1]
  refine lw_of (W_loopG [7, 8, 9, 13, 14, 15, 16, 17, 18, 19, 20, 21, 22, 23, 24, 25, 26, 27, 28, 29, 30] (σ := Nat × Nat) (fun p => p.1 ≤ p.2 ∧ p.2 ≤ xs.length ∧ bsI xs x p.1 p.2 = bsP xs x) (fun p => p.2 - p.1) (fun p => [(7, .int .i64 p.1), (8, .int .i64 p.2)]) (fun _ => []) (0, xs.length) ⟨by omega, by omega, rfl⟩ (by simp) rfl (by simp) ?_)
  rintro ⟨lo, hi⟩ ⟨h1, h2, hx⟩
  simp only at h1 h2 hx
  by_cases hb : lo < hi
  · have hw : IntKind.i64.wrap ((lo : Int) + (hi : Int)) = ((lo + hi : Nat) : Int) := by rw [wrap64 (by omega) (by omega)]; rfl
    have hs := shr1 lo hi (by omega)
    rw [bsI, dif_pos hb] at hx
    obtain ⟨m, em⟩ : ∃ m, m = (lo + hi) / 2 := ⟨_, rfl⟩
    rw [← em] at hs hx
    have hm : m < xs.length := by omega
    rw [List.getElem?_eq_getElem hm, Option.getD_some] at hx
    have hc := less64 xs[m] x
    have hs1 := wrapS m (by omega)
    by_cases hq : xs[m] < x
    · rw [if_pos hq] at hx
      rw [decide_eq_true hq] at hc
      refine W_x tok mixed ?_
      simp -implicitDefEqProofs -dsimp [L1, encI, hb, hw, hs, hm]
      refine (callP (hc) (by simp)).mono ?_
      rintro r H' ⟨rfl, rfl⟩
      simp -implicitDefEqProofs -dsimp [hs1]
      refine stop_of ?_
      refine ⟨(m + 1, hi), ⟨by simp only; omega, h2, hx⟩, by omega, ?_, ⟨[], rfl⟩, ?_, ?_⟩ <;> simp [L1, encI]
    · rw [if_neg hq] at hx
      rw [decide_eq_false hq] at hc
      refine W_x tok mixed ?_
      simp -implicitDefEqProofs -dsimp [L1, encI, hb, hw, hs, hm]
      refine (callP (hc) (by simp)).mono ?_
      rintro r H' ⟨rfl, rfl⟩
      simp -implicitDefEqProofs -dsimp []
      refine stop_of ?_
      refine ⟨(lo, m), ⟨by simp only; omega, by simp only; omega, hx⟩, by omega, ?_, ⟨[], rfl⟩, ?_, ?_⟩ <;> simp [L1, encI]
  · rw [bsI, dif_neg hb] at hx
    by_cases hn : lo < xs.length
    · by_cases hq : xs[lo] = x
      · refine W_x tok mixed ?_
        simp -implicitDefEqProofs -dsimp [L1, encI, hb, hn, hq]
        simp [hx.symm, bsF, hn, hq]
      · refine W_x tok mixed ?_
        simp -implicitDefEqProofs -dsimp [L1, encI, hb, hn, hq]
        refine (callP (nan_s xs[lo]) (by simp)).mono ?_
        rintro r H' ⟨rfl, rfl⟩
        simp -implicitDefEqProofs -dsimp []
        simp [hx.symm, bsF, hn, hq]
    · refine W_x tok mixed ?_
      simp -implicitDefEqProofs -dsimp [L1, encI, hb, hn]
      simp [hx.symm, bsF, hn]
theorem all_drop (p : Int → Bool) (xs : List Int) (i : Nat) (h : i < xs.length) : (xs.drop i).all p = (p xs[i] && (xs.drop (i + 1)).all p) := by rw [List.drop_eq_getElem_cons h]; rfl
def contB (xs ps : List Int) : Bool := ps.all fun x => bsF xs x
set_option maxHeartbeats 8000000 in
theorem cont_c (xs ps : List Int) (f g : Bool) (hl : xs.length ≤ 1000000) (hl2 : ps.length ≤ 1000000) : ConP Tryz.prog 49 [L1 f xs, L1 g ps] fun r => r = .bool (contB xs ps) := by
  refine conP_of_conH (conH_of_W tok Tryz.func49 rfl rfl ?_)
  refine W_x tok mixed ?_
  simp -implicitDefEqProofs -dsimp [Tryz.f49, List.replicate, L1]
  refine lw_of (W_loopG [4, 6, 7, 8, 11, 12, 13, 14, 15, 16, 17, 18, 19, 20, 21, 22, 23] (σ := Nat) (fun i => contB xs (ps.drop i) = contB xs ps) (fun i => ps.length - i) (fun i => [(11, .int .i64 i)]) (fun _ => []) 0 rfl (by simp) rfl (by simp) ?_)
  intro i hx
  by_cases hb : i < ps.length
  · have hx' : (bsF xs ps[i] && contB xs (ps.drop (i + 1))) = contB xs ps := by rw [← hx]; exact (all_drop _ ps i hb).symm
    have hc := bsearch64 xs ps[i] f hl
    cases hq : bsF xs ps[i]
    · rw [hq] at hx' hc
      refine W_x tok mixed ?_
      simp -implicitDefEqProofs -dsimp [L1, encI, hb]
      refine (callP (hc) (by simp)).mono ?_
      rintro r H' ⟨rfl, rfl⟩
      simp -implicitDefEqProofs -dsimp []
      simpa using hx'
    · rw [hq] at hx' hc
      refine W_x tok mixed ?_
      simp -implicitDefEqProofs -dsimp [L1, encI, hb]
      refine (callP (hc) (by simp)).mono ?_
      rintro r H' ⟨rfl, rfl⟩
      simp -implicitDefEqProofs -dsimp [wrapS i (by omega)]
      refine stop_of ?_
      refine ⟨i + 1, by simpa using hx', by omega, ?_, ⟨[], rfl⟩, ?_, ?_⟩ <;> simp [L1, encI]
  · rw [List.drop_of_length_le (by omega)] at hx
    refine W_x tok mixed ?_
    simp -implicitDefEqProofs -dsimp [L1, hb]
    simpa [contB] using hx
end Go.Proofs.YtfaleabndlcanaaGreatDoor
