/- T7: the order of values. Expanded by pp.py. -/
import Derived.Test.YteijbpppalhihaaGreatT6
set_option linter.unusedVariables false
set_option linter.unusedSimpArgs false
set_option maxRecDepth 100000
namespace Go.Proofs.YteijbpppalhihaaGreat
open Go Go.AM
theorem nanInt (x : Int) : ConP Tryz.prog 170 [.int .i64 x] fun r => r = .bool false := by
  refine conP_of_conH (conH_of_W tok Tryz.func170 rfl rfl ?_)
  refine W_x tok mixed ?_
  simp -implicitDefEqProofs -dsimp [Tryz.f170, List.replicate]
set_option maxHeartbeats 4000000 in
theorem cmpInt (x y : Int) : ConP Tryz.prog 124 [.int .i64 x, .int .i64 y] fun r => r = .int .i64 (cmpI x y) := by
  refine conP_of_conH (conH_of_W tok Tryz.func124 rfl rfl ?_)
  refine W_x tok mixed ?_
  simp -implicitDefEqProofs -dsimp [Tryz.f124, List.replicate]
  refine (callP (nanInt x) (by simp)).mono ?_
  rintro r H' ⟨rfl, rfl⟩
  simp -implicitDefEqProofs -dsimp []
  refine (callP (nanInt y) (by simp)).mono ?_
  rintro r H' ⟨rfl, rfl⟩
  simp -implicitDefEqProofs -dsimp []
  unfold cmpI
  split
  · rfl
  · split <;> rfl
set_option maxHeartbeats 4000000 in
theorem sign01 (x y : Int) : ConP Tryz.prog 160 [.int .i64 x, .int .i64 y] fun r => r = .int .i64 (cmpI x y) := by
  refine conP_of_conH (conH_of_W tok Tryz.func160 rfl rfl ?_)
  refine W_x tok mixed ?_
  simp -implicitDefEqProofs -dsimp [Tryz.f160, List.replicate]
  unfold cmpI
  split
  · rfl
  · split <;> rfl
theorem cmpS_drop (a b : ByteArray) (i : Nat) (ha : i < a.size) (hb : i < b.size) : Lib.compareBytes (a.data.toList.drop i) (b.data.toList.drop i) = if a[i] < b[i] then -1 else if b[i] < a[i] then 1 else Lib.compareBytes (a.data.toList.drop (i + 1)) (b.data.toList.drop (i + 1)) := by
  have h1 : i < a.data.toList.length := by rw [ba_len]; exact ha
  have h2 : i < b.data.toList.length := by rw [ba_len]; exact hb
  rw [List.drop_eq_getElem_cons h1, List.drop_eq_getElem_cons h2, Lib.compareBytes]
  rfl
theorem cmpS_end (a b : ByteArray) (i : Nat) (hi : i ≤ a.size) (hj : i ≤ b.size) (h : ¬ (i < a.size ∧ i < b.size)) : Lib.compareBytes (a.data.toList.drop i) (b.data.toList.drop i) = cmpI a.size b.size := by
  have l1 := ba_len a
  have l2 := ba_len b
  by_cases h1 : i < a.size
  · have h2 : i = b.size := by omega
    have h3 : i < a.data.toList.length := by omega
    rw [List.drop_eq_getElem_cons h3, List.drop_of_length_le (l := b.data.toList) (by omega), Lib.compareBytes]
    unfold cmpI
    rw [if_neg (by omega), if_pos (by omega)]
  · rw [List.drop_of_length_le (l := a.data.toList) (by omega)]
    by_cases h2 : i < b.size
    · have h3 : i < b.data.toList.length := by omega
      rw [List.drop_eq_getElem_cons h3, Lib.compareBytes]
      unfold cmpI
      rw [if_pos (by omega)]
    · rw [List.drop_of_length_le (l := b.data.toList) (by omega), Lib.compareBytes]
      unfold cmpI
      rw [if_neg (by omega), if_neg (by omega)]
set_option maxHeartbeats 8000000 in
theorem strings01 (a b : ByteArray) (ha : a.size ≤ maxLen) : ConP Tryz.prog 161 [.str a, .str b] fun r => r = .int .i64 (cmpS a b) := by
  refine conP_of_conH (conH_of_W tok Tryz.func161 rfl rfl ?_)
  refine W_x tok mixed ?_
  simp -implicitDefEqProofs -dsimp [Tryz.f161, List.replicate]
  refine lw_of (W_loopV [false, false, false, false, true, true, true, true, true, true, true, true, true, true, true, true, true, true, true, true, true, true, true, true, true, true, true, true, true, true, true, true, true, true] (σ := Nat) (fun i => i ≤ a.size ∧ i ≤ b.size ∧ Lib.compareBytes (a.data.toList.drop i) (b.data.toList.drop i) = cmpS a b) (fun i => a.size - i) (fun i => [(5, .int .i64 i)]) (fun _ => []) 0 ⟨by omega, by omega, rfl⟩ (by simp) rfl (by simp) ?_)
  rintro i ⟨hi, hj, hx⟩ N Q hN hQ
  by_cases h : i < a.size ∧ i < b.size
  · obtain ⟨h1, h2⟩ := h
    rw [cmpS_drop a b i h1 h2] at hx
    obtain ⟨x1, x2⟩ := byteAt_in h1
    obtain ⟨y1, y2⟩ := byteAt_in h2
    by_cases hq : byteAt a i = byteAt b i
    · have e1 : ¬ a[i] < b[i] := fun h => by have := UInt8.lt_iff_toNat_lt.1 h; omega
      have e2 : ¬ b[i] < a[i] := fun h => by have := UInt8.lt_iff_toNat_lt.1 h; omega
      rw [if_neg e1, if_neg e2] at hx
      refine W_x tok mixed ?_
      simp -implicitDefEqProofs -dsimp [h1, h2, x1, y1, x2, y2, hq]
      refine .inr ⟨stop_of (by kernel_rfl), ?_⟩
      simp -implicitDefEqProofs -dsimp [wrapS i (by unfold maxLen at ha; omega)]
      refine hN (i + 1) _ _ ⟨by omega, by omega, hx⟩ (by omega) ?_ ⟨[], ?_⟩ ?_ ?_ <;> simp [or_imp, forall_and, L1, encI]
    · have hs : cmpI (byteAt a i) (byteAt b i) = cmpS a b := by
        rw [← hx, ← x2, ← y2]
        unfold cmpI
        by_cases e1 : a[i] < b[i]
        · have e1' : (a[i].toNat : Int) < b[i].toNat := by have := UInt8.lt_iff_toNat_lt.1 e1; omega
          rw [if_pos e1, if_pos e1']
        · have e1' : ¬ ((a[i].toNat : Int) < b[i].toNat) := fun h => e1 (UInt8.lt_iff_toNat_lt.2 (by omega))
          have e2 : b[i] < a[i] := UInt8.lt_iff_toNat_lt.2 (by omega)
          have e2' : (b[i].toNat : Int) < a[i].toNat := by have := UInt8.lt_iff_toNat_lt.1 e2; omega
          rw [if_neg e1, if_neg e1', if_pos e2, if_pos e2']
      have hw1 : IntKind.i64.wrap (byteAt a i) = byteAt a i := by rw [← x2]; exact wrap64 (by omega) (by have := UInt8.toNat_lt a[i]; omega)
      have hw2 : IntKind.i64.wrap (byteAt b i) = byteAt b i := by rw [← y2]; exact wrap64 (by omega) (by have := UInt8.toNat_lt b[i]; omega)
      have hc := sign01 (byteAt a i) (byteAt b i)
      refine W_x tok mixed ?_
      simp -implicitDefEqProofs -dsimp [h1, h2, x1, y1, x2, y2, hq]
      refine .inr ⟨stop_of (by kernel_rfl), ?_⟩
      simp -implicitDefEqProofs -dsimp [h1, h2, x1, y1, x2, y2, hw1, hw2]
      refine .inr ⟨stop_of (by kernel_rfl), ?_⟩
      refine cy_of _ (callP (hc) (by simp)) ?_
      simp -implicitDefEqProofs -dsimp []
      refine hQ _ _ _ ?_
      simp -implicitDefEqProofs -dsimp []
      exact hs
  · rw [cmpS_end a b i hi hj h] at hx
    have hc := sign01 a.size b.size
    by_cases h1 : i < a.size
    · have h2 : ¬ i < b.size := fun h2 => h ⟨h1, h2⟩
      refine W_x tok mixed ?_
      simp -implicitDefEqProofs -dsimp [h1, h2]
      refine hQ _ _ _ ?_
      simp -implicitDefEqProofs -dsimp []
      refine (callP (hc) (by simp)).mono ?_
      rintro r H' ⟨rfl, rfl⟩
      simp -implicitDefEqProofs -dsimp []
      exact hx
    · refine W_x tok mixed ?_
      simp -implicitDefEqProofs -dsimp [h1]
      refine hQ _ _ _ ?_
      simp -implicitDefEqProofs -dsimp []
      refine (callP (hc) (by simp)).mono ?_
      rintro r H' ⟨rfl, rfl⟩
      simp -implicitDefEqProofs -dsimp []
      exact hx
def cmpV (a b : Vl) : Int := if cmpI a.k b.k = 0 then (if cmpI a.n b.n = 0 then cmpS a.s b.s else cmpI a.n b.n) else cmpI a.k b.k
set_option maxHeartbeats 8000000 in
theorem compare01 (a b : Vl) (ha : a.s.size ≤ maxLen) : ConP Tryz.prog 112 [encV a, encV b] fun r => r = .int .i64 (cmpV a b) := by
  have hc1 := sign01 a.k b.k
  have hc2 := sign01 a.n b.n
  have hc3 := strings01 a.s b.s ha
  unfold cmpV
  by_cases h1 : cmpI a.k b.k = 0
  · by_cases h2 : cmpI a.n b.n = 0
    · rw [if_pos h1, if_pos h2]
      refine conP_of_conH (conH_of_W tok Tryz.func112 rfl rfl ?_)
      refine W_x tok mixed ?_
      simp -implicitDefEqProofs -dsimp [Tryz.f112, List.replicate, encV]
      refine (callP (hc1) (by simp)).mono ?_
      rintro r H' ⟨rfl, rfl⟩
      simp -implicitDefEqProofs -dsimp [h1]
      refine (callP (hc2) (by simp)).mono ?_
      rintro r H' ⟨rfl, rfl⟩
      simp -implicitDefEqProofs -dsimp [h2]
      refine (callP (hc3) (by simp)).mono ?_
      rintro r H' ⟨rfl, rfl⟩
      simp -implicitDefEqProofs -dsimp []
    · rw [if_pos h1, if_neg h2]
      refine conP_of_conH (conH_of_W tok Tryz.func112 rfl rfl ?_)
      refine W_x tok mixed ?_
      simp -implicitDefEqProofs -dsimp [Tryz.f112, List.replicate, encV]
      refine (callP (hc1) (by simp)).mono ?_
      rintro r H' ⟨rfl, rfl⟩
      simp -implicitDefEqProofs -dsimp [h1]
      refine (callP (hc2) (by simp)).mono ?_
      rintro r H' ⟨rfl, rfl⟩
      simp -implicitDefEqProofs -dsimp [h2]
  · rw [if_neg h1]
    refine conP_of_conH (conH_of_W tok Tryz.func112 rfl rfl ?_)
    refine W_x tok mixed ?_
    simp -implicitDefEqProofs -dsimp [Tryz.f112, List.replicate, encV]
    refine (callP (hc1) (by simp)).mono ?_
    rintro r H' ⟨rfl, rfl⟩
    simp -implicitDefEqProofs -dsimp [h1]
def cmpVs : List Vl → List Vl → Int
  | [], [] => 0
  | [], _ :: _ => -1
  | _ :: _, [] => 1
  | x :: xs, y :: ys => if cmpV x y = 0 then cmpVs xs ys else cmpV x y
theorem cmpVs_end (us bs : List Vl) (i : Nat) (h1 : i ≤ us.length) (h2 : i ≤ bs.length) (h : ¬ (i < us.length ∧ i < bs.length)) : cmpVs (us.drop i) (bs.drop i) = cmpI us.length bs.length := by
  unfold cmpI
  by_cases ha : i < us.length
  · rw [List.drop_eq_getElem_cons ha, List.drop_of_length_le (l := bs) (by omega), cmpVs, if_neg (by omega), if_pos (by omega)]
  · rw [List.drop_of_length_le (l := us) (by omega)]
    by_cases hb : i < bs.length
    · rw [List.drop_eq_getElem_cons hb, cmpVs, if_pos (by omega)]
    · rw [List.drop_of_length_le (l := bs) (by omega), cmpVs, if_neg (by omega), if_neg (by omega)]
set_option maxHeartbeats 8000000 in
theorem lists01 (us bs : List Vl) (f g : Bool) (hl : us.length ≤ 1000000) (hs : ∀ v ∈ us, v.s.size ≤ maxLen) : ConP Tryz.prog 135 [LV f us, LV g bs] fun r => r = .int .i64 (cmpVs us bs) := by
  obtain ⟨E, hE⟩ : ∃ E, E = cmpVs us bs := ⟨_, rfl⟩
  rw [← hE]
  refine conP_of_conH (conH_of_W tok Tryz.func135 rfl rfl ?_)
  refine W_x tok mixed ?_
  simp -implicitDefEqProofs -dsimp [Tryz.f135, List.replicate, LV]
  refine lw_of (W_loopV [false, false, false, false, true, true, true, true, true, true, true, true, true, true, true, true, true, true, true, true, true, true, true, true, true, true, true, true, true, true, true] (σ := Nat) (fun i => i ≤ us.length ∧ i ≤ bs.length ∧ cmpVs (us.drop i) (bs.drop i) = E) (fun i => us.length - i) (fun i => [(5, .int .i64 i)]) (fun _ => []) 0 ⟨by omega, by omega, hE.symm⟩ (by simp) rfl (by simp) ?_)
  rintro i ⟨hi, hj, hx⟩ N Q hN hQ
  by_cases h : i < us.length ∧ i < bs.length
  · obtain ⟨h1, h2⟩ := h
    have hc := compare01 us[i] bs[i] (hs _ (List.getElem_mem h1))
    simp only [encV] at hc
    rw [List.drop_eq_getElem_cons h1, List.drop_eq_getElem_cons h2, cmpVs] at hx
    by_cases h3 : cmpV us[i] bs[i] = 0
    · rw [if_pos h3] at hx
      refine W_x tok mixed ?_
      simp -implicitDefEqProofs -dsimp [h1, h2, encV]
      refine .inr ⟨stop_of (by kernel_rfl), ?_⟩
      refine cy_of _ (callP (hc) (by simp)) ?_
      simp -implicitDefEqProofs -dsimp [h3, wrapS i (by omega)]
      refine hN (i + 1) _ _ ⟨by omega, by omega, hx⟩ (by omega) ?_ ⟨[], ?_⟩ ?_ ?_ <;> simp [or_imp, forall_and, L1, encI]
    · rw [if_neg h3] at hx
      refine W_x tok mixed ?_
      simp -implicitDefEqProofs -dsimp [h1, h2, encV]
      refine .inr ⟨stop_of (by kernel_rfl), ?_⟩
      refine cy_of _ (callP (hc) (by simp)) ?_
      simp -implicitDefEqProofs -dsimp [h3]
      refine hQ _ _ _ ?_
      simp -implicitDefEqProofs -dsimp []
      exact hx
  · rw [cmpVs_end us bs i hi hj h] at hx
    have hc := sign01 us.length bs.length
    by_cases h1 : i < us.length
    · have h2 : ¬ i < bs.length := fun h2 => h ⟨h1, h2⟩
      refine W_x tok mixed ?_
      simp -implicitDefEqProofs -dsimp [h1, h2]
      refine hQ _ _ _ ?_
      simp -implicitDefEqProofs -dsimp []
      refine (callP (hc) (by simp)).mono ?_
      rintro r H' ⟨rfl, rfl⟩
      simp -implicitDefEqProofs -dsimp []
      exact hx
    · refine W_x tok mixed ?_
      simp -implicitDefEqProofs -dsimp [h1]
      refine hQ _ _ _ ?_
      simp -implicitDefEqProofs -dsimp []
      refine (callP (hc) (by simp)).mono ?_
      rintro r H' ⟨rfl, rfl⟩
      simp -implicitDefEqProofs -dsimp []
      exact hx
set_option maxHeartbeats 4000000 in
theorem same01 (us bs : List Vl) (f g : Bool) (hl : us.length ≤ 1000000) (hs : ∀ v ∈ us, v.s.size ≤ maxLen) : ConP Tryz.prog 98 [LV f us, LV g bs] fun r => r = .bool (cmpVs us bs == 0) := by
  have hc := lists01 us bs f g hl hs
  refine conP_of_conH (conH_of_W tok Tryz.func98 rfl rfl ?_)
  refine W_x tok mixed ?_
  simp -implicitDefEqProofs -dsimp [Tryz.f98, List.replicate]
  refine (callP (hc) (by simp)).mono ?_
  rintro r H' ⟨rfl, rfl⟩
  simp -implicitDefEqProofs -dsimp []
def orI : List Int → Int
  | [] => 0
  | x :: xs => if x = 0 then orI xs else x
set_option maxHeartbeats 8000000 in
theorem orInt (xs : List Int) (f : Bool) (hl : xs.length ≤ 1000000) : ConP Tryz.prog 122 [L1 f xs] fun r => r = .int .i64 (orI xs) := by
  obtain ⟨E, hE⟩ : ∃ E, E = orI xs := ⟨_, rfl⟩
  rw [← hE]
  refine conP_of_conH (conH_of_W tok Tryz.func122 rfl rfl ?_)
  refine W_x tok mixed ?_
  simp -implicitDefEqProofs -dsimp [Tryz.f122, List.replicate, L1]
  refine lw_of (W_loopV [false, false, true, false, false, true, false, false, true, true, true, true, true, true, true, true, true] (σ := Nat) (fun i => orI (xs.drop i) = E) (fun i => xs.length - i) (fun i => [(8, .int .i64 i)]) (fun _ => []) 0 hE.symm (by simp) rfl (by simp) ?_)
  intro i hx N Q hN hQ
  by_cases hb : i < xs.length
  · rw [List.drop_eq_getElem_cons hb, orI] at hx
    by_cases h0 : xs[i] = 0
    · rw [if_pos h0] at hx
      refine W_x tok mixed ?_
      simp -implicitDefEqProofs -dsimp [hb, encI, h0]
      simp -implicitDefEqProofs -dsimp [wrapS i (by omega)]
      refine hN (i + 1) _ _ hx (by omega) (by simp) ⟨[], rfl⟩ (by simp [L1, encI]) (by simp)
    · rw [if_neg h0] at hx
      refine W_x tok mixed ?_
      simp -implicitDefEqProofs -dsimp [hb, encI, h0]
      refine hQ _ _ _ ?_
      simp -implicitDefEqProofs -dsimp []
      exact hx
  · rw [List.drop_of_length_le (by omega)] at hx
    refine W_x tok mixed ?_
    simp -implicitDefEqProofs -dsimp [hb]
    refine hQ _ _ _ ?_
    simp -implicitDefEqProofs -dsimp []
    exact hx
theorem stringsCompare (a b : ByteArray) : ConP Tryz.prog 134 [.str a, .str b] fun r => r = .int .i64 (cmpS a b) := by
  have hc := cmp_con a b
  refine conP_of_conH (conH_of_W tok Tryz.func134 rfl rfl ?_)
  refine W_x tok mixed ?_
  simp -implicitDefEqProofs -dsimp [Tryz.f134, List.replicate]
  refine (callP (hc) (by simp)).mono ?_
  rintro r H' ⟨rfl, rfl⟩
  simp -implicitDefEqProofs -dsimp []
set_option maxHeartbeats 8000000 in
theorem valueCompare (a b : Vl) : ConP Tryz.prog 97 [encV a, encV b] fun r => r = .int .i64 (cmpV a b) := by
  have hc1 := cmpInt a.k b.k
  have hc2 := cmp64 a.n b.n
  have hc3 := stringsCompare a.s b.s
  have hc4 := orInt [cmpI a.k b.k, cmpI a.n b.n, cmpS a.s b.s] true (by simp)
  have he : orI [cmpI a.k b.k, cmpI a.n b.n, cmpS a.s b.s] = cmpV a b := by
    unfold cmpV
    simp only [orI]
    split
    · split
      · split
        · rename_i h; exact h.symm
        · rfl
      · rfl
    · rfl
  rw [he] at hc4
  simp only [L1, List.map_cons, List.map_nil, encI] at hc4
  refine conP_of_conH (conH_of_W tok Tryz.func97 rfl rfl ?_)
  refine W_x tok mixed ?_
  simp -implicitDefEqProofs -dsimp [Tryz.f97, List.replicate, encV]
  refine .inr ⟨stop_of (by kernel_rfl), ?_⟩
  refine cy_of _ (callP (hc1) (by simp)) ?_
  simp -implicitDefEqProofs -dsimp []
  refine cy_of _ (callP (hc2) (by simp)) ?_
  simp -implicitDefEqProofs -dsimp []
  refine cy_of _ (callP (hc3) (by simp)) ?_
  simp -implicitDefEqProofs -dsimp []
  refine cy_of _ (callP (hc4) (by simp)) ?_
  simp -implicitDefEqProofs -dsimp []
end Go.Proofs.YteijbpppalhihaaGreat
