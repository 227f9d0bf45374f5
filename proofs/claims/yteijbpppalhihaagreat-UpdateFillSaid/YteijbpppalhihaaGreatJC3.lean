/- JC3: T7, T8, T9, T10, Wd, T11, U3, V1, U1, U2, U4, U5, V2, V3, V4, V6, joined by chunk.py. -/
import Derived.Test.YteijbpppalhihaaGreatJC2
set_option linter.unusedVariables false
set_option linter.unusedSimpArgs false
section
/- T7: the order of values. Expanded by pp.py. -/
set_option linter.unusedSimpArgs false
set_option maxRecDepth 100000
namespace Go.Proofs.YteijbpppalhihaaGreat
open Go Go.AM
theorem nanInt (x : Int) : ConP Tryz.prog 170 [.int .i64 x] fun r => r = .bool false := by
  refine conP_of_conH (conH_of_W tok Tryz.func170 rfl rfl ?_)
  refine W_x tok mixed ?_
  simp -implicitDefEqProofs -dsimp [Tryz.f170, List.replicate]
set_option maxHeartbeats 4000000 in
theorem cmpInt (x y : Int) : ConP Tryz.prog 124 [.int .i64 x, .int .i64 y] fun r => r = .int .i64 (cmpI x y) := by
  refine conP_of_conH (conH_of_W tok Tryz.func124 rfl rfl ?_)
  refine W_x tok mixed ?_
  simp -implicitDefEqProofs -dsimp [Tryz.f124, List.replicate]
  refine (callP (nanInt x) (by simp)).mono ?_
  rintro r H' ⟨rfl, rfl⟩
  simp -implicitDefEqProofs -dsimp []
  refine (callP (nanInt y) (by simp)).mono ?_
  rintro r H' ⟨rfl, rfl⟩
  simp -implicitDefEqProofs -dsimp []
  unfold cmpI
  split
  · rfl
  · split <;> rfl
set_option maxHeartbeats 4000000 in
theorem sign01 (x y : Int) : ConP Tryz.prog 160 [.int .i64 x, .int .i64 y] fun r => r = .int .i64 (cmpI x y) := by
  refine conP_of_conH (conH_of_W tok Tryz.func160 rfl rfl ?_)
  refine W_x tok mixed ?_
  simp -implicitDefEqProofs -dsimp [Tryz.f160, List.replicate]
  unfold cmpI
  split
  · rfl
  · split <;> rfl
theorem cmpS_drop (a b : ByteArray) (i : Nat) (ha : i < a.size) (hb : i < b.size) : Lib.compareBytes (a.data.toList.drop i) (b.data.toList.drop i) = if a[i] < b[i] then -1 else if b[i] < a[i] then 1 else Lib.compareBytes (a.data.toList.drop (i + 1)) (b.data.toList.drop (i + 1)) := by
  have h1 : i < a.data.toList.length := by rw [ba_len]; exact ha
  have h2 : i < b.data.toList.length := by rw [ba_len]; exact hb
  rw [List.drop_eq_getElem_cons h1, List.drop_eq_getElem_cons h2, Lib.compareBytes]
  rfl
theorem cmpS_end (a b : ByteArray) (i : Nat) (hi : i ≤ a.size) (hj : i ≤ b.size) (h : ¬ (i < a.size ∧ i < b.size)) : Lib.compareBytes (a.data.toList.drop i) (b.data.toList.drop i) = cmpI a.size b.size := by
  have l1 := ba_len a
  have l2 := ba_len b
  by_cases h1 : i < a.size
  · have h2 : i = b.size := by omega
    have h3 : i < a.data.toList.length := by omega
    rw [List.drop_eq_getElem_cons h3, List.drop_of_length_le (l := b.data.toList) (by omega), Lib.compareBytes]
    unfold cmpI
    rw [if_neg (by omega), if_pos (by omega)]
  · rw [List.drop_of_length_le (l := a.data.toList) (by omega)]
    by_cases h2 : i < b.size
    · have h3 : i < b.data.toList.length := by omega
      rw [List.drop_eq_getElem_cons h3, Lib.compareBytes]
      unfold cmpI
      rw [if_pos (by omega)]
    · rw [List.drop_of_length_le (l := b.data.toList) (by omega), Lib.compareBytes]
      unfold cmpI
      rw [if_neg (by omega), if_neg (by omega)]
set_option maxHeartbeats 8000000 in
theorem strings01 (a b : ByteArray) (ha : a.size ≤ maxLen) : ConP Tryz.prog 161 [.str a, .str b] fun r => r = .int .i64 (cmpS a b) := by
  refine conP_of_conH (conH_of_W tok Tryz.func161 rfl rfl ?_)
  refine W_x tok mixed ?_
  simp -implicitDefEqProofs -dsimp [Tryz.f161, List.replicate]
  refine lw_of (W_loopV [false, false, false, false, true, true, true, true, true, true, true, true, true, true, true, true, true, true, true, true, true, true, true, true, true, true, true, true, true, true, true, true, true, true] (σ := Nat) (fun i => i ≤ a.size ∧ i ≤ b.size ∧ Lib.compareBytes (a.data.toList.drop i) (b.data.toList.drop i) = cmpS a b) (fun i => a.size - i) (fun i => [(5, .int .i64 i)]) (fun _ => []) 0 ⟨by omega, by omega, rfl⟩ (by simp) rfl (by simp) ?_)
  rintro i ⟨hi, hj, hx⟩ N Q hN hQ
  by_cases h : i < a.size ∧ i < b.size
  · obtain ⟨h1, h2⟩ := h
    rw [cmpS_drop a b i h1 h2] at hx
    obtain ⟨x1, x2⟩ := byteAt_in h1
    obtain ⟨y1, y2⟩ := byteAt_in h2
    by_cases hq : byteAt a i = byteAt b i
    · have e1 : ¬ a[i] < b[i] := fun h => by have := UInt8.lt_iff_toNat_lt.1 h; omega
      have e2 : ¬ b[i] < a[i] := fun h => by have := UInt8.lt_iff_toNat_lt.1 h; omega
      rw [if_neg e1, if_neg e2] at hx
      refine W_x tok mixed ?_
      simp -implicitDefEqProofs -dsimp [h1, h2, x1, y1, x2, y2, hq]
      refine .inr ⟨stop_of (by kernel_rfl), ?_⟩
      simp -implicitDefEqProofs -dsimp [wrapS i (by unfold maxLen at ha; omega)]
      refine hN (i + 1) _ _ ⟨by omega, by omega, hx⟩ (by omega) ?_ ⟨[], ?_⟩ ?_ ?_ <;> simp [or_imp, forall_and, L1, encI]
    · have hs : cmpI (byteAt a i) (byteAt b i) = cmpS a b := by
        rw [← hx, ← x2, ← y2]
        unfold cmpI
        by_cases e1 : a[i] < b[i]
        · have e1' : (a[i].toNat : Int) < b[i].toNat := by have := UInt8.lt_iff_toNat_lt.1 e1; omega
          rw [if_pos e1, if_pos e1']
        · have e1' : ¬ ((a[i].toNat : Int) < b[i].toNat) := fun h => e1 (UInt8.lt_iff_toNat_lt.2 (by omega))
          have e2 : b[i] < a[i] := UInt8.lt_iff_toNat_lt.2 (by omega)
          have e2' : (b[i].toNat : Int) < a[i].toNat := by have := UInt8.lt_iff_toNat_lt.1 e2; omega
          rw [if_neg e1, if_neg e1', if_pos e2, if_pos e2']
      have hw1 : IntKind.i64.wrap (byteAt a i) = byteAt a i := by rw [← x2]; exact wrap64 (by omega) (by have := UInt8.toNat_lt a[i]; omega)
      have hw2 : IntKind.i64.wrap (byteAt b i) = byteAt b i := by rw [← y2]; exact wrap64 (by omega) (by have := UInt8.toNat_lt b[i]; omega)
      have hc := sign01 (byteAt a i) (byteAt b i)
      refine W_x tok mixed ?_
      simp -implicitDefEqProofs -dsimp [h1, h2, x1, y1, x2, y2, hq]
      refine .inr ⟨stop_of (by kernel_rfl), ?_⟩
      simp -implicitDefEqProofs -dsimp [h1, h2, x1, y1, x2, y2, hw1, hw2]
      refine .inr ⟨stop_of (by kernel_rfl), ?_⟩
      refine cy_of _ (callP (hc) (by simp)) ?_
      simp -implicitDefEqProofs -dsimp []
      refine hQ _ _ _ ?_
      simp -implicitDefEqProofs -dsimp []
      exact hs
  · rw [cmpS_end a b i hi hj h] at hx
    have hc := sign01 a.size b.size
    by_cases h1 : i < a.size
    · have h2 : ¬ i < b.size := fun h2 => h ⟨h1, h2⟩
      refine W_x tok mixed ?_
      simp -implicitDefEqProofs -dsimp [h1, h2]
      refine hQ _ _ _ ?_
      simp -implicitDefEqProofs -dsimp []
      refine (callP (hc) (by simp)).mono ?_
      rintro r H' ⟨rfl, rfl⟩
      simp -implicitDefEqProofs -dsimp []
      exact hx
    · refine W_x tok mixed ?_
      simp -implicitDefEqProofs -dsimp [h1]
      refine hQ _ _ _ ?_
      simp -implicitDefEqProofs -dsimp []
      refine (callP (hc) (by simp)).mono ?_
      rintro r H' ⟨rfl, rfl⟩
      simp -implicitDefEqProofs -dsimp []
      exact hx
def cmpV (a b : Vl) : Int := if cmpI a.k b.k = 0 then (if cmpI a.n b.n = 0 then cmpS a.s b.s else cmpI a.n b.n) else cmpI a.k b.k
set_option maxHeartbeats 8000000 in
theorem compare01 (a b : Vl) (ha : a.s.size ≤ maxLen) : ConP Tryz.prog 112 [encV a, encV b] fun r => r = .int .i64 (cmpV a b) := by
  have hc1 := sign01 a.k b.k
  have hc2 := sign01 a.n b.n
  have hc3 := strings01 a.s b.s ha
  unfold cmpV
  by_cases h1 : cmpI a.k b.k = 0
  · by_cases h2 : cmpI a.n b.n = 0
    · rw [if_pos h1, if_pos h2]
      refine conP_of_conH (conH_of_W tok Tryz.func112 rfl rfl ?_)
      refine W_x tok mixed ?_
      simp -implicitDefEqProofs -dsimp [Tryz.f112, List.replicate, encV]
      refine (callP (hc1) (by simp)).mono ?_
      rintro r H' ⟨rfl, rfl⟩
      simp -implicitDefEqProofs -dsimp [h1]
      refine (callP (hc2) (by simp)).mono ?_
      rintro r H' ⟨rfl, rfl⟩
      simp -implicitDefEqProofs -dsimp [h2]
      refine (callP (hc3) (by simp)).mono ?_
      rintro r H' ⟨rfl, rfl⟩
      simp -implicitDefEqProofs -dsimp []
    · rw [if_pos h1, if_neg h2]
      refine conP_of_conH (conH_of_W tok Tryz.func112 rfl rfl ?_)
      refine W_x tok mixed ?_
      simp -implicitDefEqProofs -dsimp [Tryz.f112, List.replicate, encV]
      refine (callP (hc1) (by simp)).mono ?_
      rintro r H' ⟨rfl, rfl⟩
      simp -implicitDefEqProofs -dsimp [h1]
      refine (callP (hc2) (by simp)).mono ?_
      rintro r H' ⟨rfl, rfl⟩
      simp -implicitDefEqProofs -dsimp [h2]
  · rw [if_neg h1]
    refine conP_of_conH (conH_of_W tok Tryz.func112 rfl rfl ?_)
    refine W_x tok mixed ?_
    simp -implicitDefEqProofs -dsimp [Tryz.f112, List.replicate, encV]
    refine (callP (hc1) (by simp)).mono ?_
    rintro r H' ⟨rfl, rfl⟩
    simp -implicitDefEqProofs -dsimp [h1]
def cmpVs : List Vl → List Vl → Int
  | [], [] => 0
  | [], _ :: _ => -1
  | _ :: _, [] => 1
  | x :: xs, y :: ys => if cmpV x y = 0 then cmpVs xs ys else cmpV x y
theorem cmpVs_end (us bs : List Vl) (i : Nat) (h1 : i ≤ us.length) (h2 : i ≤ bs.length) (h : ¬ (i < us.length ∧ i < bs.length)) : cmpVs (us.drop i) (bs.drop i) = cmpI us.length bs.length := by
  unfold cmpI
  by_cases ha : i < us.length
  · rw [List.drop_eq_getElem_cons ha, List.drop_of_length_le (l := bs) (by omega), cmpVs, if_neg (by omega), if_pos (by omega)]
  · rw [List.drop_of_length_le (l := us) (by omega)]
    by_cases hb : i < bs.length
    · rw [List.drop_eq_getElem_cons hb, cmpVs, if_pos (by omega)]
    · rw [List.drop_of_length_le (l := bs) (by omega), cmpVs, if_neg (by omega), if_neg (by omega)]
set_option maxHeartbeats 8000000 in
theorem lists01 (us bs : List Vl) (f g : Bool) (hl : us.length ≤ 1000000) (hs : ∀ v ∈ us, v.s.size ≤ maxLen) : ConP Tryz.prog 135 [LV f us, LV g bs] fun r => r = .int .i64 (cmpVs us bs) := by
  obtain ⟨E, hE⟩ : ∃ E, E = cmpVs us bs := ⟨_, rfl⟩
  rw [← hE]
  refine conP_of_conH (conH_of_W tok Tryz.func135 rfl rfl ?_)
  refine W_x tok mixed ?_
  simp -implicitDefEqProofs -dsimp [Tryz.f135, List.replicate, LV]
  refine lw_of (W_loopV [false, false, false, false, true, true, true, true, true, true, true, true, true, true, true, true, true, true, true, true, true, true, true, true, true, true, true, true, true, true, true] (σ := Nat) (fun i => i ≤ us.length ∧ i ≤ bs.length ∧ cmpVs (us.drop i) (bs.drop i) = E) (fun i => us.length - i) (fun i => [(5, .int .i64 i)]) (fun _ => []) 0 ⟨by omega, by omega, hE.symm⟩ (by simp) rfl (by simp) ?_)
  rintro i ⟨hi, hj, hx⟩ N Q hN hQ
  by_cases h : i < us.length ∧ i < bs.length
  · obtain ⟨h1, h2⟩ := h
    have hc := compare01 us[i] bs[i] (hs _ (List.getElem_mem h1))
    simp only [encV] at hc
    rw [List.drop_eq_getElem_cons h1, List.drop_eq_getElem_cons h2, cmpVs] at hx
    by_cases h3 : cmpV us[i] bs[i] = 0
    · rw [if_pos h3] at hx
      refine W_x tok mixed ?_
      simp -implicitDefEqProofs -dsimp [h1, h2, encV]
      refine .inr ⟨stop_of (by kernel_rfl), ?_⟩
      refine cy_of _ (callP (hc) (by simp)) ?_
      simp -implicitDefEqProofs -dsimp [h3, wrapS i (by omega)]
      refine hN (i + 1) _ _ ⟨by omega, by omega, hx⟩ (by omega) ?_ ⟨[], ?_⟩ ?_ ?_ <;> simp [or_imp, forall_and, L1, encI]
    · rw [if_neg h3] at hx
      refine W_x tok mixed ?_
      simp -implicitDefEqProofs -dsimp [h1, h2, encV]
      refine .inr ⟨stop_of (by kernel_rfl), ?_⟩
      refine cy_of _ (callP (hc) (by simp)) ?_
      simp -implicitDefEqProofs -dsimp [h3]
      refine hQ _ _ _ ?_
      simp -implicitDefEqProofs -dsimp []
      exact hx
  · rw [cmpVs_end us bs i hi hj h] at hx
    have hc := sign01 us.length bs.length
    by_cases h1 : i < us.length
    · have h2 : ¬ i < bs.length := fun h2 => h ⟨h1, h2⟩
      refine W_x tok mixed ?_
      simp -implicitDefEqProofs -dsimp [h1, h2]
      refine hQ _ _ _ ?_
      simp -implicitDefEqProofs -dsimp []
      refine (callP (hc) (by simp)).mono ?_
      rintro r H' ⟨rfl, rfl⟩
      simp -implicitDefEqProofs -dsimp []
      exact hx
    · refine W_x tok mixed ?_
      simp -implicitDefEqProofs -dsimp [h1]
      refine hQ _ _ _ ?_
      simp -implicitDefEqProofs -dsimp []
      refine (callP (hc) (by simp)).mono ?_
      rintro r H' ⟨rfl, rfl⟩
      simp -implicitDefEqProofs -dsimp []
      exact hx
set_option maxHeartbeats 4000000 in
theorem same01 (us bs : List Vl) (f g : Bool) (hl : us.length ≤ 1000000) (hs : ∀ v ∈ us, v.s.size ≤ maxLen) : ConP Tryz.prog 98 [LV f us, LV g bs] fun r => r = .bool (cmpVs us bs == 0) := by
  have hc := lists01 us bs f g hl hs
  refine conP_of_conH (conH_of_W tok Tryz.func98 rfl rfl ?_)
  refine W_x tok mixed ?_
  simp -implicitDefEqProofs -dsimp [Tryz.f98, List.replicate]
  refine (callP (hc) (by simp)).mono ?_
  rintro r H' ⟨rfl, rfl⟩
  simp -implicitDefEqProofs -dsimp []
def orI : List Int → Int
  | [] => 0
  | x :: xs => if x = 0 then orI xs else x
set_option maxHeartbeats 8000000 in
theorem orInt (xs : List Int) (f : Bool) (hl : xs.length ≤ 1000000) : ConP Tryz.prog 122 [L1 f xs] fun r => r = .int .i64 (orI xs) := by
  obtain ⟨E, hE⟩ : ∃ E, E = orI xs := ⟨_, rfl⟩
  rw [← hE]
  refine conP_of_conH (conH_of_W tok Tryz.func122 rfl rfl ?_)
  refine W_x tok mixed ?_
  simp -implicitDefEqProofs -dsimp [Tryz.f122, List.replicate, L1]
  refine lw_of (W_loopV [false, false, true, false, false, true, false, false, true, true, true, true, true, true, true, true, true] (σ := Nat) (fun i => orI (xs.drop i) = E) (fun i => xs.length - i) (fun i => [(8, .int .i64 i)]) (fun _ => []) 0 hE.symm (by simp) rfl (by simp) ?_)
  intro i hx N Q hN hQ
  by_cases hb : i < xs.length
  · rw [List.drop_eq_getElem_cons hb, orI] at hx
    by_cases h0 : xs[i] = 0
    · rw [if_pos h0] at hx
      refine W_x tok mixed ?_
      simp -implicitDefEqProofs -dsimp [hb, encI, h0]
      simp -implicitDefEqProofs -dsimp [wrapS i (by omega)]
      refine hN (i + 1) _ _ hx (by omega) (by simp) ⟨[], rfl⟩ (by simp [L1, encI]) (by simp)
    · rw [if_neg h0] at hx
      refine W_x tok mixed ?_
      simp -implicitDefEqProofs -dsimp [hb, encI, h0]
      refine hQ _ _ _ ?_
      simp -implicitDefEqProofs -dsimp []
      exact hx
  · rw [List.drop_of_length_le (by omega)] at hx
    refine W_x tok mixed ?_
    simp -implicitDefEqProofs -dsimp [hb]
    refine hQ _ _ _ ?_
    simp -implicitDefEqProofs -dsimp []
    exact hx
theorem stringsCompare (a b : ByteArray) : ConP Tryz.prog 134 [.str a, .str b] fun r => r = .int .i64 (cmpS a b) := by
  have hc := cmp_con a b
  refine conP_of_conH (conH_of_W tok Tryz.func134 rfl rfl ?_)
  refine W_x tok mixed ?_
  simp -implicitDefEqProofs -dsimp [Tryz.f134, List.replicate]
  refine (callP (hc) (by simp)).mono ?_
  rintro r H' ⟨rfl, rfl⟩
  simp -implicitDefEqProofs -dsimp []
set_option maxHeartbeats 8000000 in
theorem valueCompare (a b : Vl) : ConP Tryz.prog 97 [encV a, encV b] fun r => r = .int .i64 (cmpV a b) := by
  have hc1 := cmpInt a.k b.k
  have hc2 := cmp64 a.n b.n
  have hc3 := stringsCompare a.s b.s
  have hc4 := orInt [cmpI a.k b.k, cmpI a.n b.n, cmpS a.s b.s] true (by simp)
  have he : orI [cmpI a.k b.k, cmpI a.n b.n, cmpS a.s b.s] = cmpV a b := by
    unfold cmpV
    simp only [orI]
    split
    · split
      · split
        · rename_i h; exact h.symm
        · rfl
      · rfl
    · rfl
  rw [he] at hc4
  simp only [L1, List.map_cons, List.map_nil, encI] at hc4
  refine conP_of_conH (conH_of_W tok Tryz.func97 rfl rfl ?_)
  refine W_x tok mixed ?_
  simp -implicitDefEqProofs -dsimp [Tryz.f97, List.replicate, encV]
  refine .inr ⟨stop_of (by kernel_rfl), ?_⟩
  refine cy_of _ (callP (hc1) (by simp)) ?_
  simp -implicitDefEqProofs -dsimp []
  refine cy_of _ (callP (hc2) (by simp)) ?_
  simp -implicitDefEqProofs -dsimp []
  refine cy_of _ (callP (hc3) (by simp)) ?_
  simp -implicitDefEqProofs -dsimp []
  refine cy_of _ (callP (hc4) (by simp)) ?_
  simp -implicitDefEqProofs -dsimp []
end Go.Proofs.YteijbpppalhihaaGreat
end

section
/- T8: rows that agree; copies of rows. Expanded by pp.py. -/
set_option linter.unusedSimpArgs false
set_option maxRecDepth 100000
namespace Go.Proofs.YteijbpppalhihaaGreat
open Go Go.AM
def vTo2 (vs : List Vl) (s : Int) : Nat → List Vl
  | 0 => []
  | i + 1 => if hasB s i then vTo2 vs s i ++ [vs.getD i ⟨0, 0, ByteArray.empty⟩] else vTo2 vs s i
def valsOf (vs : List Vl) (s : Int) : List Vl := vTo2 vs s vs.length
theorem vTo2_len (vs : List Vl) (s : Int) : ∀ i, (vTo2 vs s i).length ≤ i
  | 0 => by simp [vTo2]
  | i + 1 => by
    have := vTo2_len vs s i
    simp only [vTo2]
    split
    · simp; omega
    · omega
theorem vTo2_mem (vs : List Vl) (s : Int) : ∀ i, i ≤ vs.length → ∀ v ∈ vTo2 vs s i, v ∈ vs
  | 0, _, v, h => by simp [vTo2] at h
  | i + 1, hi, v, h => by
    simp only [vTo2] at h
    split at h
    · rcases List.mem_append.1 h with h | h
      · exact vTo2_mem vs s i (by omega) v h
      · simp only [List.mem_singleton] at h
        subst h
        have hb : i < vs.length := by omega
        have : vs.getD i ⟨0, 0, ByteArray.empty⟩ = vs[i] := by simp [hb]
        rw [this]
        exact List.getElem_mem hb
    · exact vTo2_mem vs s i (by omega) v h
set_option maxHeartbeats 8000000 in
theorem values03 (r : Rw) (s : Int) (hl : r.vals.length ≤ 31) : ConP Tryz.prog 99 [encRw r, .int .u32 s] fun x => x = LV false (valsOf r.vals s) := by
  refine conP_of_conH (conH_of_W tok Tryz.func99 rfl rfl ?_)
  refine W_x tok mixed ?_
  simp -implicitDefEqProofs -dsimp [Tryz.f99, List.replicate, encRw, LV]
  refine lw_of (W_own 68 3 [5] (by simp) (W_loopV [false, false, false, false, false, true, true, true, true, true, true, true, true, true, true, true, true, true, true, true, true, true, true, true, true] (σ := Nat) (fun i => i ≤ r.vals.length) (fun i => r.vals.length - i) (fun i => [(6, .int .i64 i), (5, .buf 1 0 (vTo2 r.vals s i).length (vTo2 r.vals s i).length)]) (fun i => [B.cells [.int .i64 r.id, .lst 3 false (r.vals.map encV)], B.buf 68 3 ((vTo2 r.vals s i).map encV) false]) 0 (by omega) (by simp [vTo2]) (by simp [vTo2]) (by simp) ?_))
  intro i hi N Q hN hQ
  have hvl := vTo2_len r.vals s i
  by_cases hb : i < r.vals.length
  · have hst : vTo2 r.vals s (i + 1) = if hasB s i then vTo2 r.vals s i ++ [r.vals[i]] else vTo2 r.vals s i := by simp [vTo2, hb]
    have hc := has02 s i (by omega)
    cases hh : hasB s i
    · rw [hh] at hc hst
      refine W_x tok mixed ?_
      simp -implicitDefEqProofs -dsimp [hb]
      refine (callP (hc) (by simp)).mono ?_
      rintro r H' ⟨rfl, rfl⟩
      simp -implicitDefEqProofs -dsimp [wrapS i (by omega)]
      refine hN (i + 1) _ _ (by omega) (by omega) ?_ ⟨[], ?_⟩ ?_ ?_ <;> simp [or_imp, forall_and, L1, encI, hst, encV]
    · rw [hh] at hc hst
      refine W_x tok mixed ?_
      simp -implicitDefEqProofs -dsimp [hb]
      refine (callP (hc) (by simp)).mono ?_
      rintro r H' ⟨rfl, rfl⟩
      simp -implicitDefEqProofs -dsimp [hb, encV, cap32 (vTo2 r.vals s i).length (by omega), wrapS i (by omega)]
      refine hN (i + 1) _ _ (by omega) (by omega) ?_ ⟨[], ?_⟩ ?_ ?_ <;> simp [or_imp, forall_and, L1, encI, hst, encV]
  · obtain rfl : i = r.vals.length := by omega
    refine W_x tok mixed ?_
    simp -implicitDefEqProofs -dsimp [hb]
    refine hQ _ _ _ ?_
    simp -implicitDefEqProofs -dsimp []
    exact exp_buf rfl (by simp [valsOf]) (by simp)
def agreeR (a b : Rw) (s : Int) : Bool := cmpVs (valsOf a.vals s) (valsOf b.vals s) == 0
set_option maxHeartbeats 8000000 in
theorem agree03 (a b : Rw) (s : Int) (hl : a.vals.length ≤ 31) (hl2 : b.vals.length ≤ 31) (hs : ∀ v ∈ a.vals, v.s.size ≤ maxLen) : ConP Tryz.prog 62 [encRw a, encRw b, .int .u32 s] fun x => x = .bool (agreeR a b s) := by
  have hc1 := values03 a s hl
  have hc2 := values03 b s hl2
  have h1 := vTo2_len a.vals s a.vals.length
  have hc3 := same01 (valsOf a.vals s) (valsOf b.vals s) false false (by unfold valsOf; omega) (fun v hv => hs v (vTo2_mem _ _ _ (Nat.le_refl _) v hv))
  simp only [encRw, LV] at hc1 hc2 hc3
  refine conP_of_conH (conH_of_W tok Tryz.func62 rfl rfl ?_)
  refine W_x tok mixed ?_
  simp -implicitDefEqProofs -dsimp [Tryz.f62, List.replicate, encRw, LV]
  refine .inr ⟨stop_of (by kernel_rfl), ?_⟩
  refine cy_of _ (callP (hc1) (by simp)) ?_
  simp -implicitDefEqProofs -dsimp []
  refine cy_of _ (callP (hc2) (by simp)) ?_
  simp -implicitDefEqProofs -dsimp []
  refine cy_of _ (callP (hc3) (by simp)) ?_
  simp -implicitDefEqProofs -dsimp []
  rfl
end Go.Proofs.YteijbpppalhihaaGreat
end

section
/- T9: sets of attributes, lists of dependencies. Expanded by pp.py. -/
set_option linter.unusedSimpArgs false
set_option maxRecDepth 100000
namespace Go.Proofs.YteijbpppalhihaaGreat
open Go Go.AM
/- Sets are numbers below 2 ^ 32. -/
theorem u32w (a : Nat) (h : a < 4294967296) : IntKind.u32.wrap (a : Int) = a := by rw [IntKind.wrap_u32]; omega
theorem mod32 (a : Nat) (h : a < 4294967296) : ((a : Int) % 2 ^ IntKind.u32.bits).toNat = a := by
  have : (2 : Int) ^ IntKind.u32.bits = 4294967296 := rfl
  rw [this]; omega
theorem modN (a : Nat) (h : a < 4294967296) : a % 2 ^ IntKind.u32.bits = a := Nat.mod_eq_of_lt h
theorem or32 (a b : Nat) (ha : a < 4294967296) (hb : b < 4294967296) : IntKind.u32.wrap ((a % 2 ^ IntKind.u32.bits ||| b % 2 ^ IntKind.u32.bits : Nat) : Int) = ((a ||| b : Nat) : Int) := by
  rw [modN a ha, modN b hb]
  exact u32w _ (Nat.or_lt_two_pow (n := 32) ha hb)
theorem and32 (a b : Nat) (ha : a < 4294967296) (hb : b < 4294967296) : IntKind.u32.wrap ((a % 2 ^ IntKind.u32.bits &&& b % 2 ^ IntKind.u32.bits : Nat) : Int) = ((a &&& b : Nat) : Int) := by
  rw [modN a ha, modN b hb]
  exact u32w _ (Nat.lt_of_le_of_lt Nat.and_le_left ha)
theorem shl32 (i : Nat) (h : i < 32) : IntKind.u32.wrap (2 ^ min i IntKind.u32.bits : Int) = ((2 ^ i : Nat) : Int) := by
  have h1 : min i IntKind.u32.bits = i := Nat.min_eq_left (by show i ≤ 32; omega)
  have h2 : 2 ^ i < 4294967296 := Nat.pow_lt_pow_right (by omega) h
  rw [h1, ← u32w _ h2]
  congr 1
/-- The set of the attributes below n. -/
def fullN : Nat → Nat
  | 0 => 0
  | i + 1 => fullN i ||| 2 ^ i
theorem fullN_lt : ∀ n, n ≤ 32 → fullN n < 4294967296
  | 0, _ => by simp [fullN]
  | i + 1, h => Nat.or_lt_two_pow (n := 32) (fullN_lt i (by omega)) (Nat.pow_lt_pow_right (by omega) (by omega))
theorem fullN_bit : ∀ n k, (fullN n).testBit k = decide (k < n)
  | 0, k => by simp [fullN]
  | i + 1, k => by
    rw [fullN, Nat.testBit_or, fullN_bit i k, Nat.testBit_two_pow]
    rw [Bool.eq_iff_iff]
    simp only [Bool.or_eq_true, decide_eq_true_eq]
    omega
set_option maxHeartbeats 8000000 in
theorem full02 (n : Nat) (hn : n ≤ 32) : ConP Tryz.prog 86 [.int .i64 n] fun r => r = .int .u32 (fullN n) := by
  refine conP_of_conH (conH_of_W tok Tryz.func86 rfl rfl ?_)
  refine W_x tok mixed ?_
  simp -implicitDefEqProofs -dsimp [Tryz.f86, List.replicate]
  refine lw_of (W_loopV [false, false, false, true, true, true, true, true, true, true, true, true, true, true, true, true, true, true] (σ := Nat) (fun i => i ≤ n) (fun i => n - i) (fun i => [(4, .int .i64 i), (3, .int .u32 (fullN i))]) (fun _ => []) 0 (by omega) (by simp [fullN]) rfl (by simp) ?_)
  intro i hi N Q hN hQ
  by_cases hb : i < n
  · have h1 := shl32 i (by omega)
    have h2 := fullN_lt i (by omega)
    have h3 : 2 ^ i < 4294967296 := Nat.pow_lt_pow_right (by omega) (show i < 32 by omega)
    have hf : fullN (i + 1) = fullN i ||| 2 ^ i := rfl
    obtain ⟨p, hp⟩ : ∃ p, p = 2 ^ i := ⟨_, rfl⟩
    rw [← hp] at h1 h3 hf
    have h4 := or32 (fullN i) p h2 h3
    rw [← hf] at h4
    refine W_x tok mixed ?_
    simp -implicitDefEqProofs -dsimp [hb, show (i : Int) < 32 by omega, wrapS i (by omega), h1, h4]
    refine hN (i + 1) _ _ (by omega) (by omega) ?_ ⟨[], ?_⟩ ?_ ?_ <;> simp [or_imp, forall_and, L1, encI]
  · obtain rfl : i = n := by omega
    refine W_x tok mixed ?_
    simp -implicitDefEqProofs -dsimp [hb]
    refine hQ _ _ _ ?_
    simp -implicitDefEqProofs -dsimp []
theorem sub02 (a b : Nat) (ha : a < 4294967296) (hb : b < 4294967296) : ConP Tryz.prog 129 [.int .u32 a, .int .u32 b] fun r => r = .bool (decide (a &&& b = a)) := by
  refine conP_of_conH (conH_of_W tok Tryz.func129 rfl rfl ?_)
  refine W_x tok mixed ?_
  simp -implicitDefEqProofs -dsimp [Tryz.f129, List.replicate, and32 a b ha hb]
  rw [Bool.eq_iff_iff, beq_iff_eq, decide_eq_true_iff]
  omega
/-- The bit of a set, as the program asks for it. -/
theorem hasB_bit (s i : Nat) (hs : s < 4294967296) (hi : i < 32) : hasB s i = s.testBit i := by
  have h1 : min i IntKind.u32.bits = i := Nat.min_eq_left (by show i ≤ 32; omega)
  have h2 : ((s : Int).fdiv (2 ^ i) % 2 ^ IntKind.u32.bits).toNat = s / 2 ^ i := by
    have h3 : (s : Int).fdiv (2 ^ i) = ((s / 2 ^ i : Nat) : Int) := by
      rw [Int.fdiv_eq_ediv_of_nonneg _ (by have : (0 : Int) < 2 ^ i := Int.pow_pos (by omega); omega)]
      simp
    rw [h3]
    exact mod32 _ (Nat.lt_of_le_of_lt (Nat.div_le_self _ _) hs)
  have h4 : (1 % 2 ^ IntKind.u32.bits : Nat) = 1 := rfl
  unfold hasB
  rw [h1, h2, h4, Nat.and_one_is_mod, u32w _ (by omega), Nat.testBit_eq_decide_div_mod_eq]
  rw [Bool.eq_iff_iff, beq_iff_eq, decide_eq_true_iff]
  omega
end Go.Proofs.YteijbpppalhihaaGreat
end

section
/- T10: lists of dependencies of recipes. Expanded by pp.py. -/
set_option linter.unusedSimpArgs false
set_option maxRecDepth 100000
namespace Go.Proofs.YteijbpppalhihaaGreat
open Go Go.AM
/-- A dependency: two sets. -/
structure Fd where
  l : Nat
  r : Nat
def encD (d : Fd) : V := .agg [.int .u8 (d.l : Int), .int .u8 (d.r : Int)]
def encF (d : Fd) : V := .agg [.int .u32 (d.l : Int), .int .u32 (d.r : Int)]
@[simp] theorem encD_pure (d : Fd) : AM.Pure (encD d) := by simp [encD]
@[simp] theorem encF_pure (d : Fd) : AM.Pure (encF d) := by simp [encF]
@[simp] theorem encF_oneV (d : Fd) : oneV (encF d) = true := rfl
def LF (f : Bool) (ds : List Fd) : V := .lst 2 f (ds.map encF)
@[simp] theorem LF_pure (f : Bool) (ds : List Fd) : AM.Pure (LF f ds) := by simp [LF]
def fdOf (n : Nat) (d : Fd) : Fd := ⟨d.l &&& fullN n, d.r &&& fullN n⟩
def fdsTo (n : Nat) (ds : List Fd) (i : Nat) : List Fd := (ds.take i).map (fdOf n)
theorem fdsTo_len (n : Nat) (ds : List Fd) (i : Nat) (h : i ≤ ds.length) : (fdsTo n ds i).length = i := by simp [fdsTo]; omega
theorem fdsTo_succ (n : Nat) (ds : List Fd) (i : Nat) (h : i < ds.length) : fdsTo n ds (i + 1) = fdsTo n ds i ++ [fdOf n ds[i]] := by
  unfold fdsTo
  rw [List.take_succ_eq_append_getElem h, List.map_append]; rfl
theorem cap8b (n : Nat) (h : n ≤ 1000000000) : n ≤ 9223372036854775806 ∧ (n + 1) * 8 ≤ 140737488355328 := by omega
set_option maxHeartbeats 8000000 in
theorem list09 (n : Nat) (ds : List Fd) (f : Bool) (hn : n ≤ 32) (hl : ds.length ≤ 1000000) (hd : ∀ d ∈ ds, d.l < 256 ∧ d.r < 256) : ConP Tryz.prog 39 [.int .i64 n, .lst 2 f (ds.map encD)] fun r => r = LF false (ds.map (fdOf n)) := by
  have hF := fullN_lt n hn
  have hc := full02 n hn
  refine conP_of_conH (conH_of_W tok Tryz.func39 rfl rfl ?_)
  refine W_x tok mixed ?_
  simp -implicitDefEqProofs -dsimp [Tryz.f39, List.replicate]
  refine (callP (hc) (by simp)).mono ?_
  rintro r H' ⟨rfl, rfl⟩
  simp -implicitDefEqProofs -dsimp []
  refine lw_of (W_own 46 2 [6] (by simp) (W_loopV [false, false, false, false, false, false, true, true, false, false, true, true, true, true, true, true, true, true, true, true, true, true, true, true, true, true, true, true, true, true, true, true, true, true, true, true] (σ := Nat) (fun i => i ≤ ds.length) (fun i => ds.length - i) (fun i => [(7, .int .i64 i), (6, .buf 0 0 i i)]) (fun i => [B.buf 46 2 ((fdsTo n ds i).map encF) false]) 0 (by omega) (by simp) (by simp [fdsTo]) (by simp) ?_))
  intro i hi N Q hN hQ
  have hli := fdsTo_len n ds i hi
  by_cases hb : i < ds.length
  · obtain ⟨h1, h2⟩ := hd ds[i] (List.getElem_mem hb)
    have hst := fdsTo_succ n ds i hb
    have e1 := and32 ds[i].l (fullN n) (by omega) hF
    have e2 := and32 ds[i].r (fullN n) (by omega) hF
    have w1 := u32w ds[i].l (by omega)
    have w2 := u32w ds[i].r (by omega)
    refine W_x tok mixed ?_
    simp -implicitDefEqProofs -dsimp [hb]
    refine lw_of (W_drawT tok mixed [19] [] [] (by kernel_rfl) fun C K hC hK => ?_)
    simp -implicitDefEqProofs [hb, encD, w1, w2, e1, e2, cap8b i (by omega), hli]
    refine hK _ _ ?_
    simp -implicitDefEqProofs -dsimp [wrapS i (by omega)]
    refine hN (i + 1) _ _ (by omega) (by omega) ?_ ⟨[], ?_⟩ ?_ ?_ <;> simp [or_imp, forall_and, L1, encI, hst, encF, fdOf, encD]
  · obtain rfl : i = ds.length := by omega
    refine W_x tok mixed ?_
    simp -implicitDefEqProofs -dsimp [hb]
    refine hQ _ _ _ ?_
    simp -implicitDefEqProofs -dsimp []
    rw [show LF false (ds.map (fdOf n)) = LF false (fdsTo n ds ds.length) by unfold fdsTo; rw [List.take_length]]
    exact exp_buf rfl (by rw [List.length_map]; exact hli.symm) (by simp)
end Go.Proofs.YteijbpppalhihaaGreat
end

section
/- Wd: a drawn region in which an append that is pure needs no order. -/
namespace Go.Proofs.YteijbpppalhihaaGreat
open Go Go.AM
def isApp : Go.Op → Bool
  | .call c => match c.callee with
    | .builtin .append => true
    | _ => false
  | _ => false
def statP (ops : Array Oper) (E : List Nat) (tab : List (Nat × List Nat)) : Bool :=
  stat1 ops && stat2 ops E && (List.range ops.size).all fun i => E.contains i || (match ops[i]? with
    | some o => (stillOp o.op || isApp o.op) && (scalOp o.op || (List.range (E.length + 1)).all fun c => !posB (masksFrom [] ops.toList) E i c || c == cntE E i || (tabAt tab i).contains c)
    | none => true)
def oblP (T : AM.Ty) (ops : Array Oper) (C : V → List V → List B → (V → List B → Prop) → Prop) (E : List Nat) (tab : List (Nat × List Nat)) (Hs : Nat → List B) : List Oper → Nat → Nat → List V → List V → Prop
  | [], _, _, _, _ => True
  | _ :: _, _, _, _, [] => False
  | o :: rest, i, c, fr, v :: vs =>
    (match wantA ops fr o with
      | some true => match callOf o.op with
        | some (f, args) => if E.contains i then C (evalA fr f) (args.map (evalA fr)) (Hs c) (fun r H' => r = v ∧ H' = Hs (c + 1))
          else allC (fun c' => C (evalA fr f) (args.map (evalA fr)) (Hs c') (fun r H' => r = v ∧ H' = Hs c')) (c :: tabAt tab i)
        | none => if E.contains i || scalOp o.op then True else allC (fun c' => aop T o.op (evalA fr) (Hs c') = some (v, Hs c')) (if stillOp o.op then tabAt tab i else c :: tabAt tab i)
      | _ => True) ∧ oblP T ops C E tab Hs rest (i + 1) (if E.contains i then c + 1 else c) (putF fr o.dst v) vs
def DrawP (T : AM.Ty) (ops : Array Oper) (E : List Nat) (tab : List (Nat × List Nat)) (cv : List (V × List B)) (C : V → List V → List B → (V → List B → Prop) → Prop) (K : List V → List B → Prop) (fr : List V) (H : List B) : Prop :=
  match AM.runT T ops E ops.toList 0 fr H cv with
  | none => False
  | some (vs, hs, f) => hs.length = E.length ∧ oblP T ops C E tab (fun c => (H :: hs)[c]?.getD []) ops.toList 0 0 fr vs ∧ K f ((H :: hs)[E.length]?.getD [])
section
variable {P : Program} {T : AM.Ty}
theorem oblP_ok {ops : Array Oper} {C : V → List V → List B → (V → List B → Prop) → Prop} {E : List Nat} {tab : List (Nat × List Nat)} {Hs : Nat → List B} (hasc : ascB E = true)
    (hst : ∀ i o, ops[i]? = some o → E.contains i = false → (stillOp o.op = true ∨ isApp o.op = true) ∧ (scalOp o.op = true ∨ ∀ c, c < E.length + 1 → posB (masksFrom [] ops.toList) E i c = true → c = cntE E i ∨ c ∈ tabAt tab i)) :
    ∀ (l : List Oper) (i : Nat) (fr : List V) (H : List B) (cv : List (V × List B)) (vs : List V) (hs : List (List B)) (f : List V), l = ops.toList.drop i → AM.runT T ops E l i fr H cv = some (vs, hs, f) → (∀ k, k ≤ hs.length → Hs (cntE E i + k) = ((H :: hs)[k]?).getD []) →
      oblP T ops C E tab Hs l i (cntE E i) fr vs → oblOps T ops C (masksFrom [] ops.toList) E Hs l i fr vs
  | [], i, fr, H, cv, vs, hs, f, hl, hr, hH, h => trivial
  | o :: rest, i, fr, H, cv, vs, hs, f, hl, hr, hH, h => by
    have ho : ops[i]? = some o := by
      have := congrArg (fun l => l[0]?) hl
      simp at this
      exact this.symm
    have hrest : rest = ops.toList.drop (i + 1) := by
      have := congrArg List.tail hl
      simpa using this
    have hHi : Hs (cntE E i) = H := by have := hH 0 (Nat.zero_le _); simpa using this
    simp only [AM.runT] at hr
    cases hw : wantA ops fr o with
    | none => rw [hw] at hr; cases hr
    | some b =>
    rw [hw] at hr
    cases b with
    | false =>
      simp only at hr
      split at hr
      · cases hr
      rename_i hE
      have hE : E.contains i = false := by simpa using hE
      split at hr
      · rename_i vs' hs' f' hr'
        cases hr
        simp only [oblP, hw, hE, Bool.false_eq_true, if_false] at h
        simp only [oblOps, hw]
        refine ⟨⟨by first | trivial | rfl, hE⟩, oblP_ok hasc hst rest (i + 1) _ H cv vs' _ _ hrest hr' (fun k hk => ?_) ?_⟩
        · rw [cnt_succ hasc, hE]; simpa using hH k hk
        · rw [cnt_succ hasc, hE]; simpa using h.2
      · cases hr
    | true =>
      simp only at hr
      -- the value and the heap behind it
      have fin : ∀ (v : V) (H' : List B) (cv' : List (V × List B)), (if E.contains i then (match AM.runT T ops E rest (i + 1) (putF fr o.dst v) H' cv' with
            | some (vs, hs, f) => some (v :: vs, H' :: hs, f)
            | none => none)
          else (match AM.runT T ops E rest (i + 1) (putF fr o.dst v) H cv' with
            | some (vs, hs, f) => some (v :: vs, hs, f)
            | none => none)) = some (vs, hs, f) →
          ∃ vs', vs = v :: vs' ∧ (E.contains i = true → Hs (cntE E i + 1) = H') ∧ (oblP T ops C E tab Hs rest (i + 1) (if E.contains i then cntE E i + 1 else cntE E i) (putF fr o.dst v) vs' → oblOps T ops C (masksFrom [] ops.toList) E Hs rest (i + 1) (putF fr o.dst v) vs') := fun v H' cv' hq => by
        cases hE : E.contains i with
        | true =>
          rw [hE] at hq
          simp only [if_true] at hq
          split at hq
          · rename_i vs' hs' f' hr'
            cases hq
            refine ⟨vs', rfl, fun _ => ?_, fun hh => ?_⟩
            · have := hH 1 (by simp); simpa using this
            · refine oblP_ok hasc hst rest (i + 1) _ H' cv' vs' hs' _ hrest hr' (fun k hk => ?_) ?_
              · rw [cnt_succ hasc, hE]
                have := hH (k + 1) (by simp; omega)
                simp only [if_true, List.getElem?_cons_succ] at this ⊢
                rw [show cntE E i + 1 + k = cntE E i + (k + 1) by omega]; exact this
              · rw [cnt_succ hasc, hE]; simpa using hh
          · cases hq
        | false =>
          rw [hE] at hq
          simp only [Bool.false_eq_true, if_false] at hq
          split at hq
          · rename_i vs' hs' f' hr'
            cases hq
            refine ⟨vs', rfl, (fun h => by cases h), fun hh => ?_⟩
            refine oblP_ok hasc hst rest (i + 1) _ H cv' vs' hs _ hrest hr' (fun k hk => ?_) ?_
            · rw [cnt_succ hasc, hE]; simpa using hH k hk
            · rw [cnt_succ hasc, hE]; simpa using hh
          · cases hq
      cases hc : callOf o.op with
      | some p =>
        obtain ⟨g, args⟩ := p
        rw [hc] at hr
        simp only at hr
        split at hr
        · rename_i v H' cv'
          obtain ⟨vs', rfl, hEH, hrec⟩ := fin v H' cv' hr
          simp only [oblP, hw, hc] at h
          simp only [oblOps, hw, hc]
          refine ⟨?_, hrec h.2⟩
          cases hE : E.contains i with
          | true =>
            rw [hE] at h
            simp only [if_true] at h ⊢
            rw [cnt_idx hasc hE]
            exact h.1
          | false =>
            rw [hE] at h
            simp only [Bool.false_eq_true, if_false] at h ⊢
            obtain ⟨_, s2⟩ := hst i o ho hE
            have hns : scalOp o.op = false := by
              cases hop : o.op <;> rw [hop] at hc <;> simp only [callOf] at hc <;> first | (cases hc; done) | rfl
            rw [hns] at s2
            have s2 := s2.resolve_left (by simp)
            refine allC_of (fun c hcm => ?_)
            split
            · rename_i hp
              rcases s2 c (by simpa using hcm) hp with rfl | hm
              · exact allC_at h.1 _ (by simp)
              · exact allC_at h.1 _ (by simp [hm])
            · trivial
        · cases hr
      | none =>
        rw [hc] at hr
        simp only at hr
        cases hop : aop T o.op (evalA fr) H with
        | none => rw [hop] at hr; cases hr
        | some q =>
          obtain ⟨v, H'⟩ := q
          rw [hop] at hr
          simp only at hr
          obtain ⟨vs', rfl, hEH, hrec⟩ := fin v H' cv hr
          simp only [oblP, hw, hc] at h
          simp only [oblOps, hw, hc]
          refine ⟨?_, hrec h.2⟩
          cases hE : E.contains i with
          | true =>
            simp only [if_true]
            rw [cnt_idx hasc hE, hHi, hEH hE]
            exact hop
          | false =>
            rw [hE] at h
            simp only [Bool.false_eq_true, if_false, Bool.false_or] at h ⊢
            obtain ⟨s1, s2⟩ := hst i o ho hE
            refine allC_of (fun c hcm => ?_)
            split
            · rename_i hp
              cases hsc : scalOp o.op with
              | true => exact scalOp_ok hsc hop _
              | false =>
                rw [hsc] at h s2
                simp only [Bool.false_eq_true, if_false] at h
                cases hso : stillOp o.op with
                | true =>
                  rw [hso, if_pos rfl] at h
                  have hHH := stillOp_ok hso hop
                  subst hHH
                  rcases (s2.resolve_left (by simp)) c (by simpa using hcm) hp with rfl | hm
                  · rw [hHi]; exact hop
                  · exact allC_at h.1 _ hm
                | false =>
                  rw [hso, if_neg (by simp)] at h
                  rcases (s2.resolve_left (by simp)) c (by simpa using hcm) hp with rfl | hm
                  · exact allC_at h.1 _ (by simp)
                  · exact allC_at h.1 _ (by simp [hm])
            · trivial
where
  allC_of {p : Nat → Prop} : ∀ {l : List Nat}, (∀ c ∈ l, p c) → allC p l
    | [], _ => trivial
    | c :: l, h => ⟨h c (by simp), allC_of (fun d hd => h d (by simp [hd]))⟩
theorem W_drawP (hT : TOk P T) (hm : P.follows .mixedOrders = true) {id : Nat} {ops : Array Oper} {Q : Exit → List V → List B → Prop} {fr : List V} {H : List B} (E : List Nat) (tab : List (Nat × List Nat)) (cv : List (V × List B)) (hst : statP ops E tab = true)
    (h : ∀ (C : V → List V → List B → (V → List B → Prop) → Prop) (K : List V → List B → Prop), (∀ fv args H K', WCall P fv args H K' → C fv args H K') → (∀ fr H, Q .normal fr H → K fr H) → DrawP T ops E tab cv C K fr H) : W P (.region id ops true) Q fr H := by
  refine W_draw hT hm E cv fun C K hC hK => ?_
  have h1 := h C K hC hK
  unfold DrawP at h1
  unfold DrawOb
  simp only [statP, Bool.and_eq_true] at hst
  obtain ⟨⟨st1, st2⟩, st3⟩ := hst
  split at h1
  · exact h1.elim
  · rename_i vs hs f hr
    rw [hr]
    obtain ⟨a1, a2, a3⟩ := h1
    have hasc : ascB E = true := by
      unfold stat2 at st2
      simp only [Bool.and_eq_true] at st2
      exact st2.1.1
    have h00 : cntE E 0 = 0 := by cases E <;> simp [cntE]
    refine ⟨⟨stat_ok st1 st2, a1⟩, ?_, a3⟩
    refine oblP_ok hasc (fun i o ho hE => ?_) ops.toList 0 fr H cv vs hs f (by simp) hr (fun k hk => by rw [h00, Nat.zero_add]) (by rw [h00]; exact a2)
    have hil : i < ops.size := (Array.getElem?_eq_some_iff.1 ho).1
    have := List.all_eq_true.1 st3 i (by simpa using hil)
    rw [hE, ho, Bool.false_or] at this
    simp only [Bool.and_eq_true, Bool.or_eq_true] at this
    refine ⟨this.1, this.2.imp (fun h => h) (fun hall c hc hp => ?_)⟩
    have h3 := List.all_eq_true.1 hall c (by simpa using hc)
    simp only [Bool.or_eq_true, Bool.not_eq_true', beq_iff_eq] at h3
    rcases h3 with (h3 | h3) | h3
    · rw [hp] at h3; cases h3
    · exact .inl h3
    · exact .inr (List.contains_iff_mem.1 h3)
end
attribute [simp] DrawP oblP
end Go.Proofs.YteijbpppalhihaaGreat
end

section
/- T11: copies of rows and tables. Expanded by pp.py. -/
set_option linter.unusedSimpArgs false
set_option maxRecDepth 100000
namespace Go.Proofs.YteijbpppalhihaaGreat
open Go Go.AM
theorem rel_agg_lf {s : AM.St} {cs ds : List V} {u : Value} (h : Rel s (.agg cs) u) (hl : LfL cs ds) : Rel s (.agg ds) u := by
  cases h with
  | agg _ us h1 h2 h3 =>
    have hlen := hl.len
    refine .agg ds us (by omega) (fun d hd => ?_) (fun i d u hd hu => ?_)
    · obtain ⟨i, hi⟩ := List.mem_iff_getElem?.1 hd
      have hc : cs[i]? = some (cs[i]'(by have := getElem?_lt hi; omega)) := List.getElem?_eq_getElem _
      exact lf_one (hl.at_ i _ d hc hi) (h2 _ (List.mem_of_getElem? hc))
    · have hc : cs[i]? = some (cs[i]'(by have := getElem?_lt hd; omega)) := List.getElem?_eq_getElem _
      exact lf_rel (h3 i _ u hc hu) (hl.at_ i _ d hc hd)
theorem conP_lf {P : Program} {f : FuncId} {args : List V} {v v' : V} (h : ConP P f args fun r => r = v) (hr : ∀ (s : AM.St) u, Rel s v u → Rel s v' u) (hp : AM.Pure v') : ConP P f args fun r => r = v' := by
  refine ⟨h.1, fun F w vals hZ hF hsz hrel => (h.2 F w vals hZ hF hsz hrel).mono fun e w' ⟨u, r, a1, a2, a3, a4, a5⟩ => ?_⟩
  subst a5
  exact ⟨u, v', a1, hp, hr _ u a3, a4, rfl⟩
theorem cap32l (n : Nat) (h : n ≤ 1000000000) : n ≤ 9223372036854775807 ∧ n * 32 ≤ 140737488355328 := by omega
set_option maxHeartbeats 8000000 in
theorem cp03 (r : Rw) (hl : r.vals.length ≤ 1000000) : ConP Tryz.prog 96 [encRw r] fun x => x = encRw r := by
  by_cases h0 : r.vals = []
  · refine conP_lf (v := .agg [.int .i64 r.id, .lst 3 true []]) ?_ (fun s u h => ?_) (by simp)
    · refine conP_of_conH (conH_of_W (tok_flag tok (fun t => t == 64)) Tryz.func96 rfl rfl ?_)
      refine W_x (tok_flag tok (fun t => t == 64)) mixed ?_
      simp -implicitDefEqProofs -dsimp [Tryz.f96, List.replicate, encRw, LV, flagT]
      refine lw_of (W_drawP (tok_flag tok (fun t => t == 64)) mixed [7] [] [] (by kernel_rfl) fun C K hC hK => ?_)
      simp -implicitDefEqProofs [h0, flagT]
      refine hK _ _ ?_
      simp -implicitDefEqProofs -dsimp [flagT]
    · have := rel_agg_lf (ds := [.int .i64 r.id, .lst 3 false []]) h (by simp [LfL, lfB])
      simpa [encRw, LV, h0] using this
  · refine conP_of_conH (conH_of_W (tok_flag tok (fun t => t == 64)) Tryz.func96 rfl rfl ?_)
    refine W_x (tok_flag tok (fun t => t == 64)) mixed ?_
    simp -implicitDefEqProofs -dsimp [Tryz.f96, List.replicate, encRw, LV, flagT]
    refine lw_of (W_drawP (tok_flag tok (fun t => t == 64)) mixed [7] [] [] (by kernel_rfl) fun C K hC hK => ?_)
    simp -implicitDefEqProofs [h0, cap32l r.vals.length (by omega), flagT]
    refine hK _ _ ?_
    simp -implicitDefEqProofs -dsimp [flagT]
    rfl
theorem cap16l (n : Nat) (h : n ≤ 1000000000) : n ≤ 9223372036854775807 ∧ n * 16 ≤ 140737488355328 := by omega
set_option maxHeartbeats 16000000 in
theorem with03 (t : Tb) (rs : List Rw) (f g h : Bool) (ha : t.attrs.length ≤ 1000000) (hr : rs.length ≤ 1000000) (hv : ∀ r ∈ rs, r.vals.length ≤ 1000000) : ConP Tryz.prog 57 [encTb f g t, LR h rs] fun x => x = encTb false false ⟨t.name, t.attrs, rs⟩ := by
  have hne : t.attrs = [] ∨ ¬ t.attrs = [] := by by_cases h : t.attrs = []; exact .inl h; exact .inr h
  rcases hne with hne | hne
  case' inl =>
    refine conP_of_conH (conH_of_W (tok_flag tok (fun t => t == 29)) Tryz.func57 rfl rfl ?_)
    refine W_x (tok_flag tok (fun t => t == 29)) mixed ?_
    simp -implicitDefEqProofs -dsimp [Tryz.f57, List.replicate, encTb, LS, LR, flagT]
    refine lw_of (W_drawP (tok_flag tok (fun t => t == 29)) mixed [7, 8] [(1, [1]), (2, [1]), (4, [1]), (5, [1])] [] (by kernel_rfl) fun C K hC hK => ?_)
    simp -implicitDefEqProofs [hne, flagT]
    refine hK _ _ ?_
    simp -implicitDefEqProofs -dsimp [flagT]
  case' inr =>
    refine conP_of_conH (conH_of_W (tok_flag tok (fun t => t == 29)) Tryz.func57 rfl rfl ?_)
    refine W_x (tok_flag tok (fun t => t == 29)) mixed ?_
    simp -implicitDefEqProofs -dsimp [Tryz.f57, List.replicate, encTb, LS, LR, flagT]
    refine lw_of (W_drawP (tok_flag tok (fun t => t == 29)) mixed [7, 8] [(1, [1]), (2, [1]), (4, [1]), (5, [1])] [] (by kernel_rfl) fun C K hC hK => ?_)
    simp -implicitDefEqProofs [hne, cap16l t.attrs.length (by omega), flagT]
    refine hK _ _ ?_
    simp -implicitDefEqProofs -dsimp [flagT]
  all_goals
    refine lw_of (W_lf 2 _ [.str t.name, .lst 1 false (t.attrs.map V.str), .nilS] rfl (lfL_refl _) (by simp [LfL, lfB, hne]) (W_ownC 66 2 [] 2 [2] rfl (lfL_own _ _) (by simp) (W_loopV [false, false, false, false, false, false, true, false, false, true, false, true, true, true, true, true, true, true, true, true, true, true, true, true, true, true, true, true, true, true] (σ := Nat) (fun i => i ≤ rs.length) (fun i => rs.length - i) (fun i => [(6, .int .i64 i)]) (fun i => [B.cells [.str t.name, .lst 1 f (t.attrs.map V.str), .lst 2 g (t.rows.map encRw)], B.cells [.str ByteArray.empty, .nilS, .nilS], B.cells [.str t.name, .lst 1 false (t.attrs.map V.str), .buf 3 0 i i], B.buf 66 2 ((rs.take i).map encRw) false]) 0 (by omega) (by simp [hne]) (by simp [hne]) (by simp) ?_)))
    intro i hi N Q hN hQ
    have hli : (rs.take i).length = i := by simp; omega
    by_cases hb : i < rs.length
    · have hst : rs.take (i + 1) = rs.take i ++ [rs[i]] := List.take_succ_eq_append_getElem hb
      have hc := cp03 rs[i] (hv _ (List.getElem_mem hb))
      obtain ⟨l, hl⟩ : ∃ l, l = rs.take i := ⟨_, rfl⟩
      rw [← hl] at hst hli ⊢
      refine W_x (tok_flag tok (fun t => t == 29)) mixed ?_
      simp -implicitDefEqProofs -dsimp [hb, flagT]
      refine lw_of (W_drawT (tok_flag tok (fun t => t == 29)) mixed [8, 10] [] [(encRw rs[i], [])] (by kernel_rfl) fun C K hC hK => ?_)
      simp -implicitDefEqProofs [hb, encRw, LV, hli, cap32 i (by omega), flagT]
      refine ⟨hC _ _ _ _ (callP hc (by simp)), hK _ _ ?_⟩
      simp -implicitDefEqProofs -dsimp [wrapS i (by omega), flagT]
      refine hN (i + 1) _ _ (by omega) (by omega) ?_ ⟨[], ?_⟩ ?_ ?_ <;> simp [or_imp, forall_and, L1, encI, hst, encRw, LV]
    · obtain rfl : i = rs.length := by omega
      rw [List.take_length]
      refine W_frzC 3 [] 2 [2] rfl rfl (by simp) (by simp) ?_
      refine W_x (tok_flag tok (fun t => t == 29)) mixed ?_
      simp -implicitDefEqProofs -dsimp [hb, flagT]
      refine hQ _ _ _ ?_
      simp -implicitDefEqProofs -dsimp [flagT]
      simp only [encTb, LS, LR]
end Go.Proofs.YteijbpppalhihaaGreat
end

section
/- U3: references to cells: their order, the search in a sorted list. -/
set_option linter.unusedSimpArgs false
namespace Go.Proofs.YteijbpppalhihaaGreat
open Go Go.AM
structure Cr where
  id : Int
  attr : Int
theorem Cr.eq_iff {a b : Cr} : a = b ↔ a.id = b.id ∧ a.attr = b.attr := by
  cases a; cases b; simp
def cLt (a b : Cr) : Prop := a.id < b.id ∨ (a.id = b.id ∧ a.attr < b.attr)
theorem cLt_irr (a : Cr) : ¬ cLt a a := by unfold cLt; omega
theorem cLt_trans {a b c : Cr} (h : cLt a b) (g : cLt b c) : cLt a c := by unfold cLt at *; omega
theorem cLt_tri (a b : Cr) : cLt a b ∨ a = b ∨ cLt b a := by
  rw [Cr.eq_iff]; unfold cLt; omega
def cmpC (a b : Cr) : Int := if cmpI a.id b.id = 0 then cmpI a.attr b.attr else cmpI a.id b.id
theorem cmpI_lt (x y : Int) : cmpI x y < 0 ↔ x < y := by
  unfold cmpI; split
  · simp; omega
  · split <;> simp <;> omega
theorem cmpI_eq (x y : Int) : cmpI x y = 0 ↔ x = y := by
  unfold cmpI; split
  · simp; omega
  · split <;> simp <;> omega
theorem cmpC_lt (a b : Cr) : cmpC a b < 0 ↔ cLt a b := by
  unfold cmpC cLt
  have h1 := cmpI_eq a.id b.id
  split
  · rename_i h
    rw [cmpI_lt]
    have := h1.1 h
    omega
  · rename_i h
    rw [cmpI_lt]
    have : ¬ a.id = b.id := fun e => h (h1.2 e)
    omega
theorem cmpC_eq (a b : Cr) : cmpC a b = 0 ↔ a = b := by
  unfold cmpC
  rw [Cr.eq_iff]
  have h1 := cmpI_eq a.id b.id
  split
  · rename_i h
    rw [cmpI_eq]
    exact ⟨fun h2 => ⟨h1.1 h, h2⟩, fun h2 => h2.2⟩
  · rename_i h
    exact ⟨fun h2 => absurd h2 h, fun h2 => absurd (h1.2 h2.1) h⟩
def sortedC (l : List Cr) : Prop := l.Pairwise cLt
theorem sortedC_lt {l : List Cr} (h : sortedC l) {i j : Nat} (hi : i < l.length) (hj : j < l.length) (hij : i < j) : cLt l[i] l[j] := List.pairwise_iff_getElem.1 h i j hi hj hij
def cAt (l : List Cr) (i : Nat) : Cr := l.getD i ⟨0, 0⟩
def bsC (l : List Cr) (x : Cr) (lo hi : Nat) : Nat :=
  if lo < hi then (if cmpC (cAt l ((lo + hi) / 2)) x < 0 then bsC l x ((lo + hi) / 2 + 1) hi else bsC l x lo ((lo + hi) / 2)) else lo
termination_by hi - lo
theorem bsC_le (l : List Cr) (x : Cr) (lo hi : Nat) (h : lo ≤ hi) : lo ≤ bsC l x lo hi ∧ bsC l x lo hi ≤ hi := by
  fun_induction bsC l x lo hi with
  | case1 lo hi h0 h1 ih => have := ih (by omega); omega
  | case2 lo hi h0 h1 ih => have := ih (by omega); omega
  | case3 lo hi h0 => omega
theorem cAt_in {l : List Cr} {i : Nat} (h : i < l.length) : cAt l i = l[i] := by simp [cAt, h]
theorem bsC_ok {l : List Cr} (hs : sortedC l) (x : Cr) (lo hi : Nat) (hlh : lo ≤ hi) (hhl : hi ≤ l.length) (h1 : ∀ j (h : j < l.length), j < lo → cLt l[j] x) (h2 : ∀ j (h : j < l.length), hi ≤ j → ¬ cLt l[j] x) :
    (∀ j (h : j < l.length), j < bsC l x lo hi → cLt l[j] x) ∧ ∀ j (h : j < l.length), bsC l x lo hi ≤ j → ¬ cLt l[j] x := by
  fun_induction bsC l x lo hi with
  | case1 lo hi h0 hq ih =>
    have hm : (lo + hi) / 2 < l.length := by omega
    rw [cAt_in hm, cmpC_lt] at hq
    refine ih (by omega) hhl (fun j h hj => ?_) h2
    rcases Nat.lt_or_ge j ((lo + hi) / 2) with h3 | h3
    · exact cLt_trans (sortedC_lt hs h hm h3) hq
    · have : j = (lo + hi) / 2 := by omega
      subst this
      exact hq
  | case2 lo hi h0 hq ih =>
    have hm : (lo + hi) / 2 < l.length := by omega
    rw [cAt_in hm, cmpC_lt] at hq
    refine ih (by omega) (by omega) h1 (fun j h hj hc => ?_)
    rcases Nat.lt_or_ge ((lo + hi) / 2) j with h3 | h3
    · exact hq (cLt_trans (sortedC_lt hs hm h h3) hc)
    · have : j = (lo + hi) / 2 := by omega
      subst this
      exact hq hc
  | case3 lo hi h0 => exact ⟨fun j h hj => h1 j h hj, fun j h hj => h2 j h (by omega)⟩
open Classical in
noncomputable def memC (l : List Cr) (x : Cr) : Bool := decide (x ∈ l)
theorem bsC_mem {l : List Cr} (hs : sortedC l) (x : Cr) : (∃ h : bsC l x 0 l.length < l.length, cmpC l[bsC l x 0 l.length] x = 0) ↔ x ∈ l := by
  obtain ⟨h1, h2⟩ := bsC_ok hs x 0 l.length (by omega) (by omega) (fun j h hj => absurd hj (by omega)) (fun j h hj => absurd h (by omega))
  constructor
  · rintro ⟨h, hc⟩
    rw [cmpC_eq] at hc
    exact hc ▸ List.getElem_mem h
  · intro h
    obtain ⟨j, hj, rfl⟩ := List.mem_iff_getElem.1 h
    have a1 : bsC l l[j] 0 l.length ≤ j := by
      rcases Nat.lt_or_ge j (bsC l l[j] 0 l.length) with h3 | h3
      · exact absurd (h1 j hj h3) (cLt_irr _)
      · exact h3
    have a2 : j ≤ bsC l l[j] 0 l.length := by
      rcases Nat.lt_or_ge (bsC l l[j] 0 l.length) j with h3 | h3
      · have hb : bsC l l[j] 0 l.length < l.length := by omega
        exact absurd (sortedC_lt hs hb hj h3) (h2 _ hb (Nat.le_refl _))
      · exact h3
    have e : bsC l l[j] 0 l.length = j := by omega
    exact ⟨by omega, by rw [cmpC_eq]; congr 1⟩
end Go.Proofs.YteijbpppalhihaaGreat
end

section
/- V1: the order of cells in the program. Expanded by pp.py. -/
set_option linter.unusedSimpArgs false
set_option maxRecDepth 100000
namespace Go.Proofs.YteijbpppalhihaaGreat
open Go Go.AM
def encCr (c : Cr) : V := .agg [.int .i64 c.id, .int .i64 c.attr]
@[simp] theorem encCr_pure (c : Cr) : AM.Pure (encCr c) := by simp [encCr]
@[simp] theorem encCr_oneV (c : Cr) : oneV (encCr c) = true := rfl
def LC (f : Bool) (l : List Cr) : V := .lst 2 f (l.map encCr)
@[simp] theorem LC_pure (f : Bool) (l : List Cr) : AM.Pure (LC f l) := by simp [LC]
set_option maxHeartbeats 4000000 in
theorem compare_c (a b : Cr) : ConP Tryz.prog 75 [encCr a, encCr b] fun r => r = .int .i64 (cmpC a b) := by
  have hc1 := cmp64 a.id b.id
  have hc2 := cmpInt a.attr b.attr
  have hc3 := orInt [cmpI a.id b.id, cmpI a.attr b.attr] true (by simp)
  have he : orI [cmpI a.id b.id, cmpI a.attr b.attr] = cmpC a b := by
    unfold cmpC
    simp only [orI]
    split
    · split
      · rename_i h; exact h.symm
      · rfl
    · rfl
  rw [he] at hc3
  simp only [L1, List.map_cons, List.map_nil, encI] at hc3
  refine conP_of_conH (conH_of_W tok Tryz.func75 rfl rfl ?_)
  refine W_x tok mixed ?_
  simp -implicitDefEqProofs -dsimp [Tryz.f75, List.replicate, encCr]
  refine .inr ⟨stop_of (by kernel_rfl), ?_⟩
  refine cy_of _ (callP (hc1) (by simp)) ?_
  simp -implicitDefEqProofs -dsimp []
  refine cy_of _ (callP (hc2) (by simp)) ?_
  simp -implicitDefEqProofs -dsimp []
  refine cy_of _ (callP (hc3) (by simp)) ?_
  simp -implicitDefEqProofs -dsimp []
end Go.Proofs.YteijbpppalhihaaGreat
end

section
/- U1: when there are values for open cells: solutions, and the program's forest. -/
set_option linter.unusedSimpArgs false
namespace Go.Proofs.YteijbpppalhihaaGreat
open Go Go.AM
/-- A value, or one of infinitely many new ones. -/
abbrev Dm := Vl ⊕ Nat
/-- The cells of a table with m rows and n attributes: their fixed values, if any; dependencies. -/
structure Prob where
  m : Nat
  n : Nat
  K : Nat → Option Vl
  fds : List Fd
def Agr (q : Prob) (σ : Nat → Dm) (i k s : Nat) : Prop := ∀ a, a < q.n → s.testBit a = true → σ (i * q.n + a) = σ (k * q.n + a)
structure Sol (q : Prob) (σ : Nat → Dm) : Prop where
  fix : ∀ x v, x < q.m * q.n → q.K x = some v → σ x = .inl v
  dep : ∀ d ∈ q.fds, ∀ i k, i < q.m → k < i → Agr q σ i k d.l → Agr q σ i k d.r
def Okq (q : Prob) : Prop := ∃ σ, Sol q σ
theorem cell_lt {m n i a : Nat} (hi : i < m) (ha : a < n) : i * n + a < m * n := by
  have : (i + 1) * n ≤ m * n := Nat.mul_le_mul_right n hi
  rw [Nat.add_mul] at this
  omega
/-- A forest of parents, with its roots. -/
structure Frt (q : Prob) (P : List Nat) (r h : Nat → Nat) : Prop where
  len : P.length = q.m * q.n
  lt : ∀ x, x < q.m * q.n → r x < q.m * q.n
  root : ∀ x, x < q.m * q.n → P.getD (r x) 0 = r x
  self : ∀ x, x < q.m * q.n → P.getD x 0 = x → r x = x
  step : ∀ x, x < q.m * q.n → P.getD x 0 ≠ x → P.getD x 0 < q.m * q.n ∧ r (P.getD x 0) = r x ∧ h (P.getD x 0) < h x
  known : ∀ x, x < q.m * q.n → q.K x ≠ none → r x = x
  sem : ∀ σ, Sol q σ → ∀ x, x < q.m * q.n → σ x = σ (r x)
def eqv (q : Prob) (r : Nat → Nat) (x y : Nat) : Prop := r x = r y ∨ ∃ v, q.K (r x) = some v ∧ q.K (r y) = some v
def star (q : Prob) (r : Nat → Nat) (x : Nat) : Dm := match q.K (r x) with
  | some v => .inl v
  | none => .inr (r x)
theorem eqv_iff (q : Prob) (r : Nat → Nat) (x y : Nat) : star q r x = star q r y ↔ eqv q r x y := by
  unfold star eqv
  cases h1 : q.K (r x) with
  | some v =>
    cases h2 : q.K (r y) with
    | some w =>
      simp only [Sum.inl.injEq, Option.some.injEq]
      constructor
      · rintro rfl; exact .inr ⟨v, rfl, rfl⟩
      · rintro (h | ⟨u, h3, h4⟩)
        · rw [h, h2] at h1; exact (Option.some.inj h1).symm
        · exact h3.trans h4.symm
    | none =>
      simp only [reduceCtorEq, false_iff]
      rintro (h | ⟨u, h3, h4⟩)
      · rw [h, h2] at h1; cases h1
      · cases h4
  | none =>
    cases h2 : q.K (r y) with
    | some w =>
      simp only [reduceCtorEq, false_iff]
      rintro (h | ⟨u, h3, h4⟩)
      · rw [h, h2] at h1; cases h1
      · cases h3
    | none =>
      simp only [Sum.inr.injEq]
      constructor
      · exact .inl
      · rintro (h | ⟨u, h3, h4⟩)
        · exact h
        · cases h3
section
variable {q : Prob} {P : List Nat} {r h : Nat → Nat}
theorem Frt.eqv_sem (f : Frt q P r h) {σ : Nat → Dm} (hs : Sol q σ) {x y : Nat} (hx : x < q.m * q.n) (hy : y < q.m * q.n) (he : eqv q r x y) : σ x = σ y := by
  rw [f.sem σ hs x hx, f.sem σ hs y hy]
  rcases he with he | ⟨v, h1, h2⟩
  · rw [he]
  · rw [hs.fix _ v (f.lt x hx) h1, hs.fix _ v (f.lt y hy) h2]
/-- The dependencies hold in the forest. -/
def Closed (q : Prob) (r : Nat → Nat) : Prop := ∀ d ∈ q.fds, ∀ i k, i < q.m → k < i → (∀ a, a < q.n → d.l.testBit a = true → eqv q r (i * q.n + a) (k * q.n + a)) → ∀ a, a < q.n → d.r.testBit a = true → eqv q r (i * q.n + a) (k * q.n + a)
theorem Frt.sol (f : Frt q P r h) (hc : Closed q r) : Sol q (star q r) := by
  refine ⟨fun x v hx hk => ?_, fun d hd i k hi hk hl a ha hb => ?_⟩
  · unfold star
    rw [f.known x hx (by rw [hk]; simp), hk]
  · exact (eqv_iff q r _ _).2 (hc d hd i k hi hk (fun b hb1 hb2 => (eqv_iff q r _ _).1 (hl b hb1 hb2)) a ha hb)
/-- What is equal in the forest at its end is what is equal in all solutions. -/
theorem Frt.forced (f : Frt q P r h) (hc : Closed q r) {x y : Nat} (hx : x < q.m * q.n) (hy : y < q.m * q.n) : eqv q r x y ↔ ∀ σ, Sol q σ → σ x = σ y :=
  ⟨fun he σ hs => f.eqv_sem hs hx hy he, fun hf => (eqv_iff q r x y).1 (hf _ (f.sol hc))⟩
theorem frt_init (q : Prob) : Frt q (List.range (q.m * q.n)) (fun x => x) (fun _ => 0) := by
  have hg : ∀ x, x < q.m * q.n → (List.range (q.m * q.n)).getD x 0 = x := fun x hx => by simp [hx]
  refine ⟨by simp, fun x hx => hx, fun x hx => hg x hx, fun x hx _ => rfl, fun x hx hne => absurd (hg x hx) hne, fun x hx _ => rfl, fun σ hs x hx => rfl⟩
theorem getD_set0 (P : List Nat) (k v x : Nat) (hk : k < P.length) : (P.set k v).getD x 0 = if x = k then v else P.getD x 0 := by
  by_cases hx : x = k
  · subst hx; simp [hk]
  · rw [if_neg hx]
    simp only [List.getD_eq_getElem?_getD]
    rw [List.getElem?_set_ne (Ne.symm hx)]
/-- Root k goes below root i. -/
theorem Frt.join (f : Frt q P r h) {i k : Nat} (hi : i < q.m * q.n) (hk : k < q.m * q.n) (hri : r i = i) (hrk : r k = k) (hne : i ≠ k) (hK : q.K k = none) (hs : ∀ σ, Sol q σ → σ i = σ k) :
    Frt q (P.set k i) (fun x => if r x = k then i else r x) (fun x => if r x = k then h x + h i + 1 else h x) := by
  have hkl : k < P.length := by rw [f.len]; exact hk
  have hpk : P.getD k 0 = k := by have := f.root k hk; rwa [hrk] at this
  have hpi : P.getD i 0 = i := by have := f.root i hi; rwa [hri] at this
  refine ⟨by rw [List.length_set]; exact f.len, fun x hx => ?_, fun x hx => ?_, fun x hx hp => ?_, fun x hx hp => ?_, fun x hx hkx => ?_, fun σ hσ x hx => ?_⟩
  · split
    · exact hi
    · exact f.lt x hx
  · rw [getD_set0 _ _ _ _ hkl]
    split
    · first | exact hpi | (rw [if_neg hne]; exact hpi)
    · rename_i h1
      first | exact f.root x hx | (rw [if_neg h1]; exact f.root x hx)
  · rw [getD_set0 _ _ _ _ hkl] at hp
    by_cases hxk : x = k
    · rw [if_pos hxk] at hp
      exact absurd (hp.trans hxk) hne
    · rw [if_neg hxk] at hp
      have := f.self x hx hp
      rw [this, if_neg hxk]
  · rw [getD_set0 _ _ _ _ hkl] at hp ⊢
    by_cases hxk : x = k
    · subst hxk
      rw [if_pos rfl] at hp ⊢
      refine ⟨hi, ?_, ?_⟩
      · rw [hri, hrk, if_neg hne, if_pos rfl]
      · rw [hri, hrk, if_neg hne, if_pos rfl]; omega
    · rw [if_neg hxk] at hp ⊢
      obtain ⟨h1, h2, h3⟩ := f.step x hx hp
      refine ⟨h1, by rw [h2], ?_⟩
      rw [h2]
      split
      · omega
      · exact h3
  · have := f.known x hx hkx
    rw [this]
    by_cases hxk : x = k
    · subst hxk; exact absurd hK hkx
    · rw [if_neg hxk]
  · rw [f.sem σ hσ x hx]
    split
    · rename_i h1
      rw [h1]; exact (hs σ hσ).symm
    · rfl
/-- The number of roots. -/
def cntR (P : List Nat) : Nat := ((List.range P.length).filter fun x => P.getD x 0 == x).length
theorem cntR_le (P : List Nat) : cntR P ≤ P.length := Nat.le_trans (List.length_filter_le _ _) (by simp)
theorem filter_le {p p' : Nat → Bool} : ∀ {l : List Nat}, (∀ x ∈ l, p' x = true → p x = true) → (l.filter p').length ≤ (l.filter p).length
  | [], _ => Nat.le_refl _
  | a :: l, hle => by
    have ih := filter_le (l := l) (fun x hx => hle x (List.mem_cons_of_mem _ hx))
    have ha := hle a List.mem_cons_self
    simp only [List.filter_cons]
    cases hp' : p' a with
    | false => cases hp : p a <;> simp <;> omega
    | true => rw [ha hp']; simp; omega
theorem filter_lt {p p' : Nat → Bool} {k : Nat} (h1 : p k = true) (h2 : p' k = false) : ∀ {l : List Nat}, (∀ x ∈ l, p' x = true → p x = true) → k ∈ l → (l.filter p').length < (l.filter p).length
  | [], _, hk => by cases hk
  | a :: l, hle, hk => by
    have hle' : ∀ x ∈ l, p' x = true → p x = true := fun x hx => hle x (List.mem_cons_of_mem _ hx)
    have ha := hle a List.mem_cons_self
    have hq := filter_le hle'
    simp only [List.filter_cons]
    rcases List.mem_cons.1 hk with hk | hk
    · rw [← hk, h1, h2]; simp; omega
    · have ih := filter_lt h1 h2 hle' hk
      cases hp' : p' a with
      | false => cases hp : p a <;> simp <;> omega
      | true => rw [ha hp']; simp; omega
theorem cntR_join {P : List Nat} {i k : Nat} (hk : k < P.length) (hpk : P.getD k 0 = k) (hne : i ≠ k) : cntR (P.set k i) < cntR P := by
  unfold cntR
  rw [List.length_set]
  refine filter_lt (k := k) (by simpa using hpk) ?_ (fun x _ hx => ?_) (by simpa using hk)
  rotate_left
  · rw [getD_set0 _ _ _ _ hk] at hx
    by_cases hxk : x = k
    · rw [if_pos hxk, beq_iff_eq] at hx
      exact absurd (hx.trans hxk) hne
    · rwa [if_neg hxk] at hx
  · rw [getD_set0 _ _ _ _ hk, if_pos rfl, beq_eq_false_iff_ne]
    exact hne
end
end Go.Proofs.YteijbpppalhihaaGreat
end

section
/- U2: the reference's entries: values and symbols. -/
set_option linter.unusedSimpArgs false
namespace Go.Proofs.YteijbpppalhihaaGreat
open Go Go.AM
def app (τ : Nat → Dm) : Dm → Dm
  | .inl v => .inl v
  | .inr s => τ s
/-- The entries of the cells while they are filled. -/
structure Ent (q : Prob) (e : Nat → Dm) : Prop where
  fix : ∀ x v, x < q.m * q.n → q.K x = some v → e x = .inl v
  sem : ∀ σ, Sol q σ → ∃ τ : Nat → Dm, ∀ x, x < q.m * q.n → σ x = app τ (e x)
def ClosedE (q : Prob) (e : Nat → Dm) : Prop := ∀ d ∈ q.fds, ∀ i k, i < q.m → k < i → Agr q e i k d.l → Agr q e i k d.r
theorem Ent.sol {q : Prob} {e : Nat → Dm} (h : Ent q e) (hc : ClosedE q e) : Sol q e := ⟨h.fix, hc⟩
theorem Ent.forced {q : Prob} {e : Nat → Dm} (h : Ent q e) (hc : ClosedE q e) {x y : Nat} (hx : x < q.m * q.n) (hy : y < q.m * q.n) : e x = e y ↔ ∀ σ, Sol q σ → σ x = σ y :=
  ⟨fun he σ hs => by
    obtain ⟨τ, ht⟩ := h.sem σ hs
    rw [ht x hx, ht y hy, he], fun hf => hf e (h.sol hc)⟩
open Classical in
/-- A symbol is replaced everywhere. -/
noncomputable def repE (e : Nat → Dm) (s : Nat) (y : Dm) (x : Nat) : Dm := if e x = .inr s then y else e x
theorem Ent.rep {q : Prob} {e : Nat → Dm} (h : Ent q e) {x0 y0 s : Nat} (hx : x0 < q.m * q.n) (hy : y0 < q.m * q.n) (he : e x0 = .inr s) (hs : ∀ σ, Sol q σ → σ x0 = σ y0) : Ent q (repE e s (e y0)) := by
  refine ⟨fun x v hxn hk => ?_, fun σ hσ => ?_⟩
  · unfold repE
    rw [h.fix x v hxn hk, if_neg (by simp)]
  · obtain ⟨τ, ht⟩ := h.sem σ hσ
    refine ⟨τ, fun x hxn => ?_⟩
    unfold repE
    split
    · rename_i h1
      have h2 := hs σ hσ
      rw [ht x0 hx, ht y0 hy, he] at h2
      rw [ht x hxn, h1, h2]
    · exact ht x hxn
/-- Two cells with different values cannot be equal. -/
theorem Ent.clash {q : Prob} {e : Nat → Dm} (h : Ent q e) {x y : Nat} {v w : Vl} (hx : x < q.m * q.n) (hy : y < q.m * q.n) (h1 : e x = .inl v) (h2 : e y = .inl w) (hne : v ≠ w) (hs : ∀ σ, Sol q σ → σ x = σ y) : ¬ Okq q := by
  rintro ⟨σ, hσ⟩
  obtain ⟨τ, ht⟩ := h.sem σ hσ
  have := hs σ hσ
  rw [ht x hx, ht y hy, h1, h2] at this
  exact hne (Sum.inl.inj this)
open Classical in
noncomputable def hasSym (N : Nat) (e : Nat → Dm) (s : Nat) : Bool := decide (∃ x, x < N ∧ e x = .inr s)
noncomputable def cntS (N S : Nat) (e : Nat → Dm) : Nat := ((List.range S).filter (hasSym N e)).length
open Classical in
theorem cntS_rep {N S s y0 : Nat} {e : Nat → Dm} {x0 : Nat} (hx : x0 < N) (hy : y0 < N) (he : e x0 = .inr s) (hne : e y0 ≠ .inr s) (hs : s < S) : cntS N S (repE e s (e y0)) < cntS N S e := by
  unfold cntS
  refine filter_lt (k := s) ?_ ?_ (fun s' _ h => ?_) (by simpa using hs)
  rotate_left 2
  · unfold hasSym at h ⊢
    obtain ⟨x, hxN, h1⟩ := of_decide_eq_true h
    unfold repE at h1
    refine decide_eq_true ?_
    split at h1
    · exact ⟨y0, hy, h1⟩
    · exact ⟨x, hxN, h1⟩
  · exact decide_eq_true ⟨x0, hx, he⟩
  · refine decide_eq_false ?_
    rintro ⟨x, hxN, h1⟩
    unfold repE at h1
    split at h1
    · exact hne h1
    · rename_i h2; exact h2 h1
/-- At the start the open cells have symbols of their own. -/
theorem ent_init {q : Prob} {e : Nat → Dm} (hf : ∀ x v, x < q.m * q.n → q.K x = some v → e x = .inl v) (ho : ∀ x, x < q.m * q.n → q.K x = none → ∃ s, e x = .inr s) (hi : ∀ x y s, x < q.m * q.n → y < q.m * q.n → e x = .inr s → e y = .inr s → x = y) : Ent q e := by
  refine ⟨hf, fun σ hσ => ?_⟩
  refine ⟨fun s => open Classical in if h : ∃ x, x < q.m * q.n ∧ e x = .inr s then σ h.choose else .inr 0, fun x hx => ?_⟩
  cases hk : q.K x with
  | some v => rw [hf x v hx hk, hσ.fix x v hx hk]; rfl
  | none =>
    obtain ⟨s, hs⟩ := ho x hx hk
    rw [hs]
    have hex : ∃ x, x < q.m * q.n ∧ e x = .inr s := ⟨x, hx, hs⟩
    simp only [app, dif_pos hex]
    have := hex.choose_spec
    rw [hi x hex.choose s hx this.1 hs this.2]
end Go.Proofs.YteijbpppalhihaaGreat
end

section
/- U4: the filled table: new numbers for the unknown classes, in the order of their first cells. -/
set_option linter.unusedSimpArgs false
namespace Go.Proofs.YteijbpppalhihaaGreat
open Go Go.AM
structure IsNxt (u : Int → Bool) (n m : Int) : Prop where
  gt : n < m
  free : u m = false
  all : ∀ k, n < k → k < m → u k = true
theorem IsNxt.uniq {u : Int → Bool} {n a b : Int} (h : IsNxt u n a) (g : IsNxt u n b) : a = b := by
  rcases Int.lt_trichotomy a b with h1 | h1 | h1
  · have := g.all a h.gt h1; rw [h.free] at this; cases this
  · exact h1
  · have := h.all b g.gt h1; rw [g.free] at this; cases this
open Classical in
noncomputable def nxt (u : Int → Bool) (n : Int) : Int := if h : ∃ m, IsNxt u n m then h.choose else n + 1
theorem nxt_eq {u : Int → Bool} {n m : Int} (h : IsNxt u n m) : nxt u n = m := by
  unfold nxt
  have hex : ∃ m, IsNxt u n m := ⟨m, h⟩
  rw [dif_pos hex]
  exact hex.choose_spec.uniq h
/-- The numbers that are given, in order; the first stands at 1. -/
noncomputable def numP (u : Int → Bool) : Nat → Int
  | 0 => 0
  | k + 1 => nxt u (numP u k)
open Classical in
noncomputable def fp (c : Nat → Dm) (x : Nat) : Nat := ((List.range (x + 1)).find? fun y => decide (c y = c x)).getD x
open Classical in
noncomputable def rankC (c : Nat → Dm) (y : Nat) : Nat := ((List.range y).filter fun z => decide ((∃ s, c z = .inr s) ∧ fp c z = z)).length
noncomputable def outV (u : Int → Bool) (c : Nat → Dm) (x : Nat) : Vl := match c x with
  | .inl v => v
  | .inr _ => ⟨3, numP u (rankC c (fp c x) + 1), ByteArray.empty⟩
theorem fp_le (c : Nat → Dm) (x : Nat) : fp c x ≤ x := by
  unfold fp
  cases h : (List.range (x + 1)).find? fun y => open Classical in decide (c y = c x) with
  | none => simp
  | some y =>
    have := List.mem_of_find?_eq_some h
    simp at this
    simp; omega
theorem fp_same (c : Nat → Dm) (x : Nat) : c (fp c x) = c x := by
  unfold fp
  cases h : (List.range (x + 1)).find? fun y => open Classical in decide (c y = c x) with
  | none => simp
  | some y =>
    have := List.find?_some h
    simpa using this
section
variable {c c' : Nat → Dm} {N : Nat} (he : ∀ x y, x < N → y < N → (c x = c y ↔ c' x = c' y)) (hv : ∀ x v, x < N → (c x = .inl v ↔ c' x = .inl v))
include he in
theorem fp_eq {x : Nat} (hx : x < N) : fp c x = fp c' x := by
  unfold fp
  congr 1
  refine find_congr fun y hy => ?_
  have hy : y < x + 1 := by simpa using hy
  exact decide_eq_decide.2 (he y x (by omega) hx)
where
  find_congr {l : List Nat} {p p' : Nat → Bool} (h : ∀ y ∈ l, p y = p' y) : l.find? p = l.find? p' := by
    induction l with
    | nil => rfl
    | cons a l ih =>
      simp only [List.find?_cons, h a List.mem_cons_self, ih (fun y hy => h y (List.mem_cons_of_mem _ hy))]
include hv in
theorem inr_eq {x : Nat} (hx : x < N) : (∃ s, c x = .inr s) ↔ ∃ s, c' x = .inr s := by
  constructor
  · rintro ⟨s, hs⟩
    cases h : c' x with
    | inl v => have := (hv x v hx).2 h; rw [hs] at this; cases this
    | inr s' => exact ⟨s', rfl⟩
  · rintro ⟨s, hs⟩
    cases h : c x with
    | inl v => have := (hv x v hx).1 h; rw [hs] at this; cases this
    | inr s' => exact ⟨s', rfl⟩
include he hv in
theorem rank_eq {y : Nat} (hy : y ≤ N) : rankC c y = rankC c' y := by
  unfold rankC
  congr 1
  refine List.filter_congr fun z hz => ?_
  have hz : z < y := by simpa using hz
  refine decide_eq_decide.2 ?_
  rw [inr_eq hv (show z < N by omega), fp_eq he (show z < N by omega)]
include he hv in
theorem out_eq (u : Int → Bool) {x : Nat} (hx : x < N) : outV u c x = outV u c' x := by
  unfold outV
  cases h : c x with
  | inl v => rw [(hv x v hx).1 h]
  | inr s =>
    obtain ⟨s', h'⟩ := (inr_eq hv hx).1 ⟨s, h⟩
    rw [h']
    have hf := fp_eq he hx
    have hfl := fp_le c x
    simp only
    rw [← hf, rank_eq he hv (show fp c x ≤ N by omega)]
end
end Go.Proofs.YteijbpppalhihaaGreat
end

section
/- U5: the problem of a table, dependencies and open cells. -/
set_option linter.unusedSimpArgs false
namespace Go.Proofs.YteijbpppalhihaaGreat
open Go Go.AM
theorem cmpL_zero : ∀ (a b : List UInt8), Lib.compareBytes a b = 0 ↔ a = b
  | [], [] => by simp [Lib.compareBytes]
  | [], _ :: _ => by simp [Lib.compareBytes]
  | _ :: _, [] => by simp [Lib.compareBytes]
  | a :: xs, b :: bs => by
    rw [Lib.compareBytes, List.cons.injEq]
    split
    · rename_i h
      constructor
      · intro h2; cases h2
      · rintro ⟨rfl, _⟩; exact absurd h (UInt8.lt_irrefl _)
    · split
      · rename_i h
        constructor
        · intro h2; cases h2
        · rintro ⟨rfl, _⟩; exact absurd h (UInt8.lt_irrefl _)
      · rename_i h1 h2
        rw [cmpL_zero xs bs]
        constructor
        · intro h; exact ⟨UInt8.le_antisymm (UInt8.not_lt.1 h2) (UInt8.not_lt.1 h1), h⟩
        · exact fun h => h.2
theorem cmpS_zero (a b : ByteArray) : cmpS a b = 0 ↔ a = b := by
  unfold cmpS
  rw [cmpL_zero]
  constructor
  · intro h
    cases a; cases b
    simp only [ByteArray.mk.injEq]
    exact Array.ext' h
  · rintro rfl; rfl
theorem cmpV_zero (a b : Vl) : cmpV a b = 0 ↔ a = b := by
  unfold cmpV
  have h1 := cmpI_eq a.k b.k
  have h2 := cmpI_eq a.n b.n
  have h3 := cmpS_zero a.s b.s
  have he : a = b ↔ a.k = b.k ∧ a.n = b.n ∧ a.s = b.s := by cases a; cases b; simp
  rw [he]
  split
  · rename_i g1
    split
    · rename_i g2
      rw [h3]
      exact ⟨fun h => ⟨h1.1 g1, h2.1 g2, h⟩, fun h => h.2.2⟩
    · rename_i g2
      exact ⟨fun h => absurd h g2, fun h => absurd (h2.2 h.2.1) g2⟩
  · rename_i g1
    exact ⟨fun h => absurd h g1, fun h => absurd (h1.2 h.1) g1⟩
def rwAt (t : Tb) (i : Nat) : Rw := t.rows.getD i ⟨0, []⟩
def crAt (t : Tb) (x : Nat) : Cr := ⟨(rwAt t (x / t.attrs.length)).id, ((x % t.attrs.length : Nat) : Int)⟩
def vAt (vs : List Vl) (a : Nat) : Vl := vs.getD a ⟨0, 0, ByteArray.empty⟩
def vlAt (t : Tb) (x : Nat) : Vl := vAt (rwAt t (x / t.attrs.length)).vals (x % t.attrs.length)
theorem cellDiv {n i a : Nat} (h : a < n) : (i * n + a) / n = i ∧ (i * n + a) % n = a := by
  constructor
  · rw [Nat.mul_comm, Nat.mul_add_div (by omega), Nat.div_eq_of_lt h]; rfl
  · rw [Nat.mul_comm, Nat.mul_add_mod, Nat.mod_eq_of_lt h]
theorem crAt_at (t : Tb) {i a : Nat} (ha : a < t.attrs.length) : crAt t (i * t.attrs.length + a) = ⟨(rwAt t i).id, (a : Int)⟩ := by
  obtain ⟨h1, h2⟩ := cellDiv (i := i) ha
  unfold crAt; rw [h1, h2]
theorem vlAt_at (t : Tb) {i a : Nat} (ha : a < t.attrs.length) : vlAt t (i * t.attrs.length + a) = vAt (rwAt t i).vals a := by
  obtain ⟨h1, h2⟩ := cellDiv (i := i) ha
  unfold vlAt; rw [h1, h2]
theorem rwAt_in {t : Tb} {i : Nat} (h : i < t.rows.length) : rwAt t i = t.rows[i] := by simp [rwAt, h]
theorem vAt_in {vs : List Vl} {i : Nat} (h : i < vs.length) : vAt vs i = vs[i] := by simp [vAt, h]
open Classical in
noncomputable def probT (t : Tb) (fds : List Fd) (cells : List Cr) : Prob := ⟨t.rows.length, t.attrs.length, fun x => if crAt t x ∈ cells then none else some (vlAt t x), fds⟩
theorem probK_in {t : Tb} {fds : List Fd} {l : List Cr} {x : Nat} (h : crAt t x ∈ l) : (probT t fds l).K x = none := by simp only [probT, if_pos h]
theorem probK_out {t : Tb} {fds : List Fd} {l : List Cr} {x : Nat} (h : ¬ crAt t x ∈ l) : (probT t fds l).K x = some (vlAt t x) := by simp only [probT, if_neg h]
open Classical in
noncomputable def okB (q : Prob) : Bool := decide (Okq q)
theorem okB_iff {q : Prob} : okB q = true ↔ Okq q := by unfold okB; simp
theorem okB_true {q : Prob} (h : Okq q) : okB q = true := okB_iff.2 h
theorem okB_false {q : Prob} (h : ¬ Okq q) : okB q = false := by
  cases hb : okB q
  · rfl
  · exact absurd (okB_iff.1 hb) h
theorem okq_mono {t : Tb} {fds : List Fd} {l l' : List Cr} (h : ∀ c ∈ l, c ∈ l') : Okq (probT t fds l) → Okq (probT t fds l') := by
  rintro ⟨σ, hs⟩
  refine ⟨σ, fun x v hx hk => hs.fix x v hx ?_, hs.dep⟩
  unfold probT at hk ⊢
  simp only at hk ⊢
  by_cases h1 : crAt t x ∈ l'
  · rw [if_pos h1] at hk; cases hk
  · rw [if_neg h1] at hk
    rw [if_neg (fun h2 => h1 (h _ h2))]
    exact hk
/-- Only the cells of the table count. -/
theorem okq_congr {t : Tb} {fds : List Fd} {l l' : List Cr} (h : ∀ x, x < t.rows.length * t.attrs.length → (crAt t x ∈ l ↔ crAt t x ∈ l')) : Okq (probT t fds l) ↔ Okq (probT t fds l') := by
  have one : ∀ l l' : List Cr, (∀ x, x < t.rows.length * t.attrs.length → (crAt t x ∈ l ↔ crAt t x ∈ l')) → Okq (probT t fds l) → Okq (probT t fds l') := by
    rintro l l' h ⟨σ, hs⟩
    refine ⟨σ, fun x v hx hk => hs.fix x v hx ?_, hs.dep⟩
    unfold probT at hk ⊢
    simp only at hk ⊢
    rw [← hk]
    by_cases h1 : crAt t x ∈ l
    · rw [if_pos h1, if_pos ((h x hx).1 h1)]
    · rw [if_neg h1, if_neg (fun h2 => h1 ((h x hx).2 h2))]
  exact ⟨one l l' h, one l' l fun x hx => (h x hx).symm⟩
def cellsT (t : Tb) : List Cr := (List.range (t.rows.length * t.attrs.length)).map (crAt t)
open Classical in
noncomputable def othersT (t : Tb) (l : List Cr) : List Cr := (cellsT t).filter fun c => decide (c ∉ l)
theorem mem_cellsT {t : Tb} {x : Nat} (h : x < t.rows.length * t.attrs.length) : crAt t x ∈ cellsT t := List.mem_map.2 ⟨x, by simpa using h, rfl⟩
theorem mem_othersT {t : Tb} {l : List Cr} {c : Cr} : c ∈ othersT t l ↔ c ∈ cellsT t ∧ c ∉ l := by simp [othersT]
/-- All cells but those of a list are not enough. -/
def Nec (t : Tb) (fds : List Fd) (l : List Cr) : Prop := ¬ Okq (probT t fds (othersT t l))
open Classical in
noncomputable def necB (t : Tb) (fds : List Fd) (l : List Cr) : Bool := decide (Nec t fds l)
theorem necB_iff {t : Tb} {fds : List Fd} {l : List Cr} : necB t fds l = true ↔ Nec t fds l := by unfold necB; simp
theorem necB_eq (t : Tb) (fds : List Fd) (l : List Cr) : necB t fds l = !okB (probT t fds (othersT t l)) := by
  unfold necB Nec okB; simp
theorem nec_mono {t : Tb} {fds : List Fd} {l l' : List Cr} (h : ∀ c ∈ l, c ∈ l') (hn : Nec t fds l) : Nec t fds l' := fun ho => hn (okq_mono (fun c hc => by
  rw [mem_othersT] at hc ⊢
  exact ⟨hc.1, fun h2 => hc.2 (h c h2)⟩) ho)
/-- The rows of a valid table. -/
structure TbV (t : Tb) : Prop where
  ok : TbOk t
  attrs : t.attrs.length ≤ 16
  rows : t.rows.length ≤ 1000
  names : namesB t.attrs = true
  name : nameB t.name = true
  len : ∀ r ∈ t.rows, r.vals.length = t.attrs.length
  vals : ∀ r ∈ t.rows, ∀ v ∈ r.vals, validV v = true
  asc : t.rows.Pairwise fun a b => a.id < b.id
theorem rowsErr_zero {n : Nat} : ∀ {rs : List Rw} {last : Int}, rowsErr n last rs = 0 → (∀ r ∈ rs, last < r.id) ∧ (∀ r ∈ rs, r.vals.length = n) ∧ (∀ r ∈ rs, ∀ v ∈ r.vals, validV v = true) ∧ rs.Pairwise fun a b => a.id < b.id
  | [], _, _ => by simp
  | r :: rs, last, h => by
    rw [rowsErr] at h
    split at h
    · cases h
    · rename_i h1
      split at h
      · cases h
      · rename_i h2
        split at h
        · rename_i h3
          obtain ⟨a, b, c, d⟩ := rowsErr_zero h
          refine ⟨?_, ?_, ?_, ?_⟩
          · intro r' hr
            rcases List.mem_cons.1 hr with rfl | hr
            · omega
            · have := a r' hr; omega
          · intro r' hr
            rcases List.mem_cons.1 hr with rfl | hr
            · omega
            · exact b r' hr
          · intro r' hr
            rcases List.mem_cons.1 hr with rfl | hr
            · exact fun v hv => (List.all_eq_true.1 h3) v hv
            · exact c r' hr
          · exact List.pairwise_cons.2 ⟨a, d⟩
        · cases h
theorem tbV_of {t : Tb} (h : TbOk t) (hv : validT t = 0) : TbV t := by
  unfold validT at hv
  split at hv
  · rename_i h1
    split at hv
    · cases hv
    · rename_i h2
      split at hv
      · rename_i h3
        obtain ⟨a, b, c, d⟩ := rowsErr_zero hv
        exact ⟨h, by omega, by omega, h3, h1, b, c, d⟩
      · cases hv
  · cases hv
theorem TbV.row {t : Tb} (h : TbV t) {i : Nat} (hi : i < t.rows.length) : (rwAt t i).vals.length = t.attrs.length := by rw [rwAt_in hi]; exact h.len _ (List.getElem_mem hi)
theorem TbV.ids {t : Tb} (h : TbV t) {i k : Nat} (hik : i < k) (hk : k < t.rows.length) : (rwAt t i).id < (rwAt t k).id := by
  rw [rwAt_in hk, rwAt_in (show i < t.rows.length by omega)]
  exact List.pairwise_iff_getElem.1 h.asc i k (by omega) hk hik
/-- The cells stand in order. -/
theorem TbV.cells_lt {t : Tb} (h : TbV t) {x y : Nat} (hxy : x < y) (hy : y < t.rows.length * t.attrs.length) : cLt (crAt t x) (crAt t y) := by
  have hn : 0 < t.attrs.length := by
    rcases Nat.eq_zero_or_pos t.attrs.length with h0 | h0
    · rw [h0] at hy; omega
    · exact h0
  have e1 := Nat.div_add_mod x t.attrs.length
  have e2 := Nat.div_add_mod y t.attrs.length
  have l1 := Nat.mod_lt x hn
  have l2 := Nat.mod_lt y hn
  have hd : x / t.attrs.length ≤ y / t.attrs.length := Nat.div_le_div_right (by omega)
  have hm : y / t.attrs.length < t.rows.length := by rw [Nat.div_lt_iff_lt_mul hn]; exact hy
  rcases Nat.lt_or_ge (x / t.attrs.length) (y / t.attrs.length) with h1 | h1
  · exact .inl (h.ids h1 hm)
  · have : x / t.attrs.length = y / t.attrs.length := by omega
    unfold cLt crAt
    refine .inr ⟨by rw [this], ?_⟩
    simp only
    rw [this] at e1
    omega
theorem TbV.crAt_inj {t : Tb} (h : TbV t) {x y : Nat} (hx : x < t.rows.length * t.attrs.length) (hy : y < t.rows.length * t.attrs.length) (he : crAt t x = crAt t y) : x = y := by
  rcases Nat.lt_trichotomy x y with h1 | h1 | h1
  · exact absurd (he ▸ h.cells_lt h1 hy) (cLt_irr _)
  · exact h1
  · exact absurd (he ▸ h.cells_lt h1 hx) (cLt_irr _)
theorem TbV.sorted {t : Tb} (h : TbV t) : sortedC (cellsT t) := by
  unfold cellsT sortedC
  rw [List.pairwise_map, List.pairwise_iff_getElem]
  intro i j hi hj hij
  simp only [List.length_range] at hi hj
  rw [List.getElem_range, List.getElem_range]
  exact h.cells_lt hij hj
theorem TbV.sorted_others {t : Tb} (h : TbV t) (l : List Cr) : sortedC (othersT t l) := List.Pairwise.filter _ h.sorted
end Go.Proofs.YteijbpppalhihaaGreat
end

section
/- V2: the program's forest: root. Expanded by pp.py. -/
set_option linter.unusedSimpArgs false
set_option maxRecDepth 100000
namespace Go.Proofs.YteijbpppalhihaaGreat
open Go Go.AM
def encN (n : Nat) : V := .int .i64 (n : Int)
@[simp] theorem encN_pure (n : Nat) : AM.Pure (encN n) := by simp [encN]
@[simp] theorem encN_oneV (n : Nat) : oneV (encN n) = true := rfl
/-- A known value: a pointer to it, or none. -/
def encK : Option Vl → V
  | none => .nilP
  | some v => .pin [.int .i64 v.k, .int .i64 v.n, .str v.s] 0
@[simp] theorem encK_pure (o : Option Vl) : AM.Pure (encK o) := by cases o <;> simp [encK]
@[simp] theorem encK_oneV (o : Option Vl) : oneV (encK o) = true := by cases o <;> rfl
def knL (K : Nat → Option Vl) (N : Nat) : List V := (List.range N).map fun x => encK (K x)
def paL (P : List Nat) : List V := P.map encN
theorem knL_len (K : Nat → Option Vl) (N : Nat) : (knL K N).length = N := by simp [knL]
theorem paL_len (P : List Nat) : (paL P).length = P.length := by simp [paL]
theorem knL_at (K : Nat → Option Vl) {N x : Nat} (h : x < N) : (knL K N)[x]? = some (encK (K x)) := by simp [knL, h]
theorem paL_at {P : List Nat} {x : Nat} (h : x < P.length) : (paL P)[x]? = some (.int .i64 (P.getD x 0 : Nat)) := by simp [paL, h, encN]
theorem knL_get (K : Nat → Option Vl) {N x : Nat} (h : x < (knL K N).length) : (knL K N)[x] = encK (K x) := by simp [knL]
theorem paL_get {P : List Nat} {x : Nat} (h : x < (paL P).length) : (paL P)[x] = .int .i64 (P.getD x 0 : Nat) := by
  have h2 : x < P.length := by simpa [paL] using h
  simp [paL, encN, h2]
theorem paL_set (P : List Nat) (x v : Nat) : (paL P).set x (.int .i64 (v : Int)) = paL (P.set x v) := by
  unfold paL
  rw [List.map_set]; rfl
theorem paL_pure (P : List Nat) : ∀ x ∈ paL P, AM.Pure x ∧ oneV x = true := by
  intro x hx
  obtain ⟨n, _, rfl⟩ := List.mem_map.1 hx
  exact ⟨encN_pure n, encN_oneV n⟩
theorem knL_pure (K : Nat → Option Vl) (N : Nat) : ∀ x ∈ knL K N, AM.Pure x ∧ oneV x = true := by
  intro x hx
  obtain ⟨n, _, rfl⟩ := List.mem_map.1 hx
  exact ⟨encK_pure _, encK_oneV _⟩
/-- The heap of the entries, with parents P. -/
def Ht (H : List B) (kp : Nat) (P : List Nat) : List B := H.set kp (.buf 3 1 (paL P) false)
structure HOk (H : List B) (k0 kp kq n N : Nat) (K : Nat → Option Vl) : Prop where
  h0 : H[k0]? = some (.cells [.int .i64 n, .buf kp 0 N N, .buf kq 0 N N])
  hp : kp < H.length
  hq : H[kq]? = some (.buf 113 1 (knL K N) false)
  n0 : kp ≠ k0
  nq : kp ≠ kq
  rb : ∀ P, ∀ bl ∈ Ht H kp P, rbB H.length bl
theorem ht_len (H : List B) (kp : Nat) (P : List Nat) : (Ht H kp P).length = H.length := by simp [Ht]
section
variable {H : List B} {k0 kp kq n N : Nat} {K : Nat → Option Vl} (g : HOk H k0 kp kq n N K)
include g
theorem HOk.at0 (P : List Nat) : (Ht H kp P)[k0]? = some (.cells [.int .i64 n, .buf kp 0 N N, .buf kq 0 N N]) := by
  unfold Ht; rw [List.getElem?_set_ne g.n0]; exact g.h0
theorem HOk.atp (P : List Nat) : (Ht H kp P)[kp]? = some (.buf 3 1 (paL P) false) := by
  unfold Ht; rw [List.getElem?_set_self g.hp]
theorem HOk.atq (P : List Nat) : (Ht H kp P)[kq]? = some (.buf 113 1 (knL K N) false) := by
  unfold Ht; rw [List.getElem?_set_ne g.nq]; exact g.hq
omit g in
theorem ht_set (P P' : List Nat) : (Ht H kp P).set kp (.buf 3 1 (paL P') false) = Ht H kp P' := by
  unfold Ht; rw [List.set_set]
theorem HOk.rbs (P : List Nat) : ∀ bl ∈ Ht H kp P, rbB (Ht H kp P).length bl := by rw [ht_len]; exact g.rb P
theorem HOk.lt0 : k0 < H.length := getElem?_lt g.h0
end
set_option maxHeartbeats 8000000 in
theorem root_u {q : Prob} {P : List Nat} {r h : Nat → Nat} (f : Frt q P r h) {H : List B} {k0 kp kq n N : Nat} (hNe : q.m * q.n = N) (g : HOk H k0 kp kq n N q.K) (hN : N ≤ 1000000) (x : Nat) (hx : x < N) :
    ConH Tryz.prog 54 [.ptr k0 0, .int .i64 x] (Ht H kp P) fun r' H' => r' = .int .i64 (r x) ∧ H' = Ht H kp P := by
  have h0 := g.at0 P
  have h1 := g.atp P
  have hrb := g.rbs P
  have hl0 : k0 < (Ht H kp P).length := by rw [ht_len]; exact g.lt0
  obtain ⟨flen, flt, froot, fself, fstep, fknown, fsem⟩ := f
  simp only [hNe] at flen flt froot fself fstep
  have hpl : (paL P).length = N := by rw [paL_len, flen]
  refine conH_of_W tok Tryz.func54 rfl rfl ?_
  refine W_x tok mixed ?_
  simp -implicitDefEqProofs -dsimp [Tryz.f54, List.replicate]
  refine lw_of (W_loopV [false, true, false, false, false, true, true, true, true, true, true, true, true, true, true, true, true, true, true, true, true] (σ := Nat) (fun j => j < N ∧ r j = r x) (fun j => h j) (fun j => [(1, .int .i64 j)]) (fun _ => Ht H kp P) x ⟨hx, rfl⟩ (by simp) rfl (by simp) ?_)
  rintro j ⟨hj, hx2⟩ N2 Q hN2 hQ
  have hat := fun h => paL_get (P := P) (x := j) h
  by_cases he : P.getD j 0 = j
  · have hs := fself j hj he
    rw [he] at hat
    refine W_x tok mixed ?_
    simp -implicitDefEqProofs -dsimp [h0, h1, hat, hpl, hj]
    refine hQ _ _ _ ?_
    simp -implicitDefEqProofs -dsimp []
    omega
  · obtain ⟨s1, s2, s3⟩ := fstep j hj he
    obtain ⟨p, hp⟩ : ∃ p, p = P.getD j 0 := ⟨_, rfl⟩
    rw [← hp] at hat he s1 s2 s3
    refine W_x tok mixed ?_
    simp -implicitDefEqProofs -dsimp [h0, h1, hat, hpl, hj, show ¬ ((p : Int) = j) by omega]
    refine hN2 p _ _ ⟨s1, by rw [s2]; exact hx2⟩ s3 (by simp) ⟨[], by simp⟩ (by simp [hl0]) hrb
end Go.Proofs.YteijbpppalhihaaGreat
end

section
/- V3: the program's forest: same, join. Expanded by pp.py. -/
set_option linter.unusedSimpArgs false
set_option maxRecDepth 100000
namespace Go.Proofs.YteijbpppalhihaaGreat
open Go Go.AM
open Classical in
noncomputable def eqvB (q : Prob) (r : Nat → Nat) (x y : Nat) : Bool := decide (eqv q r x y)
theorem eqvB_iff {q : Prob} {r : Nat → Nat} {x y : Nat} : eqvB q r x y = true ↔ eqv q r x y := by unfold eqvB; simp
theorem eqvB_same {q : Prob} {r : Nat → Nat} {x y : Nat} (h : r x = r y) : eqvB q r x y = true := eqvB_iff.2 (.inl h)
theorem eqvB_vals {q : Prob} {r : Nat → Nat} {x y : Nat} {v w : Vl} (h : q.K (r x) = some v) (g : q.K (r y) = some w) : eqvB q r x y = (cmpV v w == 0) := by
  rw [Bool.eq_iff_iff, eqvB_iff, beq_iff_eq, cmpV_zero]
  constructor
  · rintro (e | ⟨u, h1, h2⟩)
    · rw [e, g] at h; exact (Option.some.inj h).symm
    · rw [h] at h1; rw [g] at h2
      exact (Option.some.inj h1).trans (Option.some.inj h2).symm
  · rintro rfl; exact .inr ⟨v, h, g⟩
theorem eqvB_none {q : Prob} {r : Nat → Nat} {x y : Nat} (hne : r x ≠ r y) (h : q.K (r x) = none ∨ q.K (r y) = none) : eqvB q r x y = false := by
  cases hb : eqvB q r x y
  · rfl
  · rcases eqvB_iff.1 hb with e | ⟨u, h1, h2⟩
    · exact absurd e hne
    · rcases h with h | h
      · rw [h] at h1; cases h1
      · rw [h] at h2; cases h2
set_option maxHeartbeats 16000000 in
theorem same_u {q : Prob} {P : List Nat} {r h : Nat → Nat} (f : Frt q P r h) {H : List B} {k0 kp kq n N : Nat} (hNe : q.m * q.n = N) (g : HOk H k0 kp kq n N q.K) (hN : N ≤ 1000000) (x y : Nat) (hx : x < N) (hy : y < N) :
    ConH Tryz.prog 133 [.ptr k0 0, .int .i64 x, .int .i64 y] (Ht H kp P) fun r' H' => r' = .bool (eqvB q r x y) ∧ H' = Ht H kp P := by
  have h0 := g.at0 P
  have h2 := g.atq P
  have hkl := knL_len q.K N
  have c1 := root_u f hNe g hN x hx
  have c2 := root_u f hNe g hN y hy
  have lx : r x < N := hNe ▸ f.lt x (hNe ▸ hx)
  have ly : r y < N := hNe ▸ f.lt y (hNe ▸ hy)
  have ax := fun h => knL_get q.K (N := N) (x := r x) h
  have ay := fun h => knL_get q.K (N := N) (x := r y) h
  by_cases he : r x = r y
  · rw [eqvB_same he]
    refine conH_of_W tok Tryz.func133 rfl rfl ?_
    refine W_x tok mixed ?_
    simp -implicitDefEqProofs -dsimp [Tryz.f133, List.replicate]
    refine WCall.mono (K := fun r' H' => r' = .int .i64 (r x) ∧ H' = Ht H kp P) c1 ?_
    rintro _ _ ⟨rfl, rfl⟩
    simp -implicitDefEqProofs -dsimp []
    refine WCall.mono (K := fun r' H' => r' = .int .i64 (r y) ∧ H' = Ht H kp P) c2 ?_
    rintro _ _ ⟨rfl, rfl⟩
    simp -implicitDefEqProofs -dsimp [he]
    exact .inr (stop_of (by kernel_rfl))
  · have hne : ¬ ((r x : Int) = r y) := by omega
    cases hk1 : q.K (r x) with
    | none =>
      rw [hk1] at ax
      rw [eqvB_none he (.inl hk1)]
      refine conH_of_W tok Tryz.func133 rfl rfl ?_
      refine W_x tok mixed ?_
      simp -implicitDefEqProofs -dsimp [Tryz.f133, List.replicate]
      refine WCall.mono (K := fun r' H' => r' = .int .i64 (r x) ∧ H' = Ht H kp P) c1 ?_
      rintro _ _ ⟨rfl, rfl⟩
      simp -implicitDefEqProofs -dsimp []
      refine WCall.mono (K := fun r' H' => r' = .int .i64 (r y) ∧ H' = Ht H kp P) c2 ?_
      rintro _ _ ⟨rfl, rfl⟩
      simp -implicitDefEqProofs -dsimp [hne, h0, h2, ax, hkl, lx, encK, eqA2]
      exact .inr (stop_of (by kernel_rfl))
    | some v =>
      rw [hk1] at ax
      cases hk2 : q.K (r y) with
      | none =>
        rw [hk2] at ay
        rw [eqvB_none he (.inr hk2)]
        refine conH_of_W tok Tryz.func133 rfl rfl ?_
        refine W_x tok mixed ?_
        simp -implicitDefEqProofs -dsimp [Tryz.f133, List.replicate]
        refine WCall.mono (K := fun r' H' => r' = .int .i64 (r x) ∧ H' = Ht H kp P) c1 ?_
        rintro _ _ ⟨rfl, rfl⟩
        simp -implicitDefEqProofs -dsimp []
        refine WCall.mono (K := fun r' H' => r' = .int .i64 (r y) ∧ H' = Ht H kp P) c2 ?_
        rintro _ _ ⟨rfl, rfl⟩
        simp -implicitDefEqProofs -dsimp [hne, h0, h2, ax, ay, hkl, lx, ly, encK, eqA2]
        exact .inr (stop_of (by kernel_rfl))
      | some w =>
        rw [hk2] at ay
        rw [eqvB_vals hk1 hk2]
        have c3 := valueCompare v w
        simp only [encV] at c3
        refine conH_of_W tok Tryz.func133 rfl rfl ?_
        refine W_x tok mixed ?_
        simp -implicitDefEqProofs -dsimp [Tryz.f133, List.replicate]
        refine WCall.mono (K := fun r' H' => r' = .int .i64 (r x) ∧ H' = Ht H kp P) c1 ?_
        rintro _ _ ⟨rfl, rfl⟩
        simp -implicitDefEqProofs -dsimp []
        refine WCall.mono (K := fun r' H' => r' = .int .i64 (r y) ∧ H' = Ht H kp P) c2 ?_
        rintro _ _ ⟨rfl, rfl⟩
        simp -implicitDefEqProofs -dsimp [hne, h0, h2, ax, ay, hkl, lx, ly, encK, eqA2]
        refine .inr ⟨stop_of (by kernel_rfl), ?_⟩
        refine cy_of _ (callP (c3) (by simp)) ?_
        simp -implicitDefEqProofs -dsimp [hne]
end Go.Proofs.YteijbpppalhihaaGreat
end

section
/- V4: the program's forest: join, agree. Expanded by pp.py. -/
set_option linter.unusedSimpArgs false
set_option maxRecDepth 100000
namespace Go.Proofs.YteijbpppalhihaaGreat
open Go Go.AM
/-- What join has done. -/
def JoinPost (q : Prob) (P : List Nat) (r : Nat → Nat) (x y : Nat) (b : Bool) (P' : List Nat) : Prop :=
  (b = false ∧ ¬ Okq q) ∨ (b = true ∧ eqv q r x y ∧ P' = P) ∨ (b = true ∧ cntR P' < cntR P ∧ ∃ r' h', Frt q P' r' h')
theorem join_vals {q : Prob} {P : List Nat} {r h : Nat → Nat} (f : Frt q P r h) {x y : Nat} (hx : x < q.m * q.n) (hy : y < q.m * q.n) (hs : ∀ σ, Sol q σ → σ x = σ y) {v w : Vl} (h1 : q.K (r x) = some v) (h2 : q.K (r y) = some w) : JoinPost q P r x y (cmpV v w == 0) P := by
  by_cases he : v = w
  · refine .inr (.inl ⟨by rw [beq_iff_eq, cmpV_zero]; exact he, ?_, rfl⟩)
    subst he; exact .inr ⟨v, h1, h2⟩
  · refine .inl ⟨by rw [beq_eq_false_iff_ne]; exact fun h => he ((cmpV_zero v w).1 h), ?_⟩
    rintro ⟨σ, hσ⟩
    have e := hs σ hσ
    rw [f.sem σ hσ x hx, f.sem σ hσ y hy, hσ.fix _ v (f.lt x hx) h1, hσ.fix _ w (f.lt y hy) h2] at e
    exact he (Sum.inl.inj e)
theorem join_set {q : Prob} {P : List Nat} {r h : Nat → Nat} (f : Frt q P r h) {x y i k : Nat} (hx : x < q.m * q.n) (hy : y < q.m * q.n) (hs : ∀ σ, Sol q σ → σ x = σ y) (hik : (i = r x ∧ k = r y) ∨ (i = r y ∧ k = r x)) (hK : q.K k = none) : JoinPost q P r x y true (P.set k i) := by
  have hi : i < q.m * q.n := by rcases hik with ⟨rfl, _⟩ | ⟨rfl, _⟩; exact f.lt x hx; exact f.lt y hy
  have hk : k < q.m * q.n := by rcases hik with ⟨_, rfl⟩ | ⟨_, rfl⟩; exact f.lt y hy; exact f.lt x hx
  have rr : ∀ z, z < q.m * q.n → r (r z) = r z := fun z hz => f.self (r z) (f.lt z hz) (f.root z hz)
  have hri : r i = i := by rcases hik with ⟨rfl, _⟩ | ⟨rfl, _⟩; exact rr x hx; exact rr y hy
  have hrk : r k = k := by rcases hik with ⟨_, rfl⟩ | ⟨_, rfl⟩; exact rr y hy; exact rr x hx
  have hpk : P.getD k 0 = k := by have := f.root k hk; rwa [hrk] at this
  have hkl : k < P.length := by rw [f.len]; exact hk
  by_cases he : i = k
  · refine .inr (.inl ⟨rfl, ?_, ?_⟩)
    · rcases hik with ⟨h1, h2⟩ | ⟨h1, h2⟩
      · exact .inl (by omega)
      · exact .inl (by omega)
    · subst he
      have : P[i] = i := by simpa [hkl] using hpk
      conv => rhs; rw [← List.set_getElem_self hkl]
      rw [this]
  · refine .inr (.inr ⟨rfl, cntR_join hkl hpk he, _, _, f.join hi hk hri hrk he hK fun σ hσ => ?_⟩)
    have e := hs σ hσ
    rw [f.sem σ hσ x hx, f.sem σ hσ y hy] at e
    rcases hik with ⟨rfl, rfl⟩ | ⟨rfl, rfl⟩
    · exact e
    · exact e.symm
def joinB (q : Prob) (r : Nat → Nat) (x y : Nat) : Bool := match q.K (r x), q.K (r y) with
  | some v, some w => cmpV v w == 0
  | _, _ => true
def joinP (q : Prob) (P : List Nat) (r : Nat → Nat) (x y : Nat) : List Nat := match q.K (r x), q.K (r y) with
  | some _, some _ => P
  | some _, none => P.set (r y) (r x)
  | none, _ => P.set (r x) (r y)
theorem join_post {q : Prob} {P : List Nat} {r h : Nat → Nat} (f : Frt q P r h) {x y : Nat} (hx : x < q.m * q.n) (hy : y < q.m * q.n) (hs : ∀ σ, Sol q σ → σ x = σ y) : JoinPost q P r x y (joinB q r x y) (joinP q P r x y) := by
  unfold joinB joinP
  cases hk1 : q.K (r x) with
  | none => exact join_set f hx hy hs (.inr ⟨rfl, rfl⟩) hk1
  | some v =>
    cases hk2 : q.K (r y) with
    | none => exact join_set f hx hy hs (.inl ⟨rfl, rfl⟩) hk2
    | some w => exact join_vals f hx hy hs hk1 hk2
set_option maxHeartbeats 16000000 in
theorem join_u {q : Prob} {P : List Nat} {r h : Nat → Nat} (f : Frt q P r h) {H : List B} {k0 kp kq n N : Nat} (hNe : q.m * q.n = N) (g : HOk H k0 kp kq n N q.K) (hN : N ≤ 1000000) (x y : Nat) (hx : x < N) (hy : y < N) :
    ConH Tryz.prog 95 [.ptr k0 0, .int .i64 x, .int .i64 y] (Ht H kp P) fun r' H' => r' = .bool (joinB q r x y) ∧ H' = Ht H kp (joinP q P r x y) := by
  have h0 := g.at0 P
  have h1 := g.atp P
  have h2 := g.atq P
  have hset := ht_set (H := H) (kp := kp) P
  have hkl := knL_len q.K N
  have c1 := root_u f hNe g hN x hx
  have c2 := root_u f hNe g hN y hy
  have lx : r x < N := hNe ▸ f.lt x (hNe ▸ hx)
  have ly : r y < N := hNe ▸ f.lt y (hNe ▸ hy)
  have ax := fun h => knL_get q.K (N := N) (x := r x) h
  have ay := fun h => knL_get q.K (N := N) (x := r y) h
  have hpl : (paL P).length = N := by rw [paL_len, f.len, hNe]
  have bx := fun h => paL_get (P := P) (x := r x) h
  have bY := fun h => paL_get (P := P) (x := r y) h
  have sx := paL_set P (r x) (r y)
  have sy := paL_set P (r y) (r x)
  unfold joinB joinP
  cases hk1 : q.K (r x) with
  | none =>
    rw [hk1] at ax
    refine conH_of_W tok Tryz.func95 rfl rfl ?_
    refine W_x tok mixed ?_
    simp -implicitDefEqProofs -dsimp [Tryz.f95, List.replicate]
    refine WCall.mono (K := fun r' H' => r' = .int .i64 (r x) ∧ H' = Ht H kp P) c1 ?_
    rintro _ _ ⟨rfl, rfl⟩
    simp -implicitDefEqProofs -dsimp []
    refine WCall.mono (K := fun r' H' => r' = .int .i64 (r y) ∧ H' = Ht H kp P) c2 ?_
    rintro _ _ ⟨rfl, rfl⟩
    simp -implicitDefEqProofs -dsimp [h0, h2, ax, hkl, lx, encK, eqA2, h1, hpl, bx, sx, hset]
  | some v =>
    rw [hk1] at ax
    cases hk2 : q.K (r y) with
    | none =>
      rw [hk2] at ay
      refine conH_of_W tok Tryz.func95 rfl rfl ?_
      refine W_x tok mixed ?_
      simp -implicitDefEqProofs -dsimp [Tryz.f95, List.replicate]
      refine WCall.mono (K := fun r' H' => r' = .int .i64 (r x) ∧ H' = Ht H kp P) c1 ?_
      rintro _ _ ⟨rfl, rfl⟩
      simp -implicitDefEqProofs -dsimp []
      refine WCall.mono (K := fun r' H' => r' = .int .i64 (r y) ∧ H' = Ht H kp P) c2 ?_
      rintro _ _ ⟨rfl, rfl⟩
      simp -implicitDefEqProofs -dsimp [h0, h2, ax, ay, hkl, lx, ly, encK, eqA2, h1, hpl, bY, sy, hset]
    | some w =>
      rw [hk2] at ay
      have c3 := valueCompare v w
      simp only [encV] at c3
      refine conH_of_W tok Tryz.func95 rfl rfl ?_
      refine W_x tok mixed ?_
      simp -implicitDefEqProofs -dsimp [Tryz.f95, List.replicate]
      refine WCall.mono (K := fun r' H' => r' = .int .i64 (r x) ∧ H' = Ht H kp P) c1 ?_
      rintro _ _ ⟨rfl, rfl⟩
      simp -implicitDefEqProofs -dsimp []
      refine WCall.mono (K := fun r' H' => r' = .int .i64 (r y) ∧ H' = Ht H kp P) c2 ?_
      rintro _ _ ⟨rfl, rfl⟩
      simp -implicitDefEqProofs -dsimp [h0, h2, ax, ay, hkl, lx, ly, encK, eqA2]
      refine .inr ⟨stop_of (by kernel_rfl), ?_⟩
      refine cy_of _ (callP (c3) (by simp)) ?_
      simp -implicitDefEqProofs -dsimp []
end Go.Proofs.YteijbpppalhihaaGreat
end

section
/- V6: the program's forest: agree, fill. Expanded by pp.py. -/
set_option linter.unusedSimpArgs false
set_option maxRecDepth 100000
namespace Go.Proofs.YteijbpppalhihaaGreat
open Go Go.AM
def AgrE (q : Prob) (r : Nat → Nat) (i k : Nat) (s : Int) (n : Nat) : Prop := ∀ a, a < n → hasB s a = true → eqv q r (i * q.n + a) (k * q.n + a)
open Classical in
noncomputable def agB (q : Prob) (r : Nat → Nat) (i k : Nat) (s : Int) : Bool := decide (AgrE q r i k s q.n)
theorem agB_iff {q : Prob} {r : Nat → Nat} {i k : Nat} {s : Int} : agB q r i k s = true ↔ AgrE q r i k s q.n := by unfold agB; simp
theorem agB_no {q : Prob} {r : Nat → Nat} {i k : Nat} {s : Int} {a : Nat} (ha : a < q.n) (hb : hasB s a = true) (he : eqvB q r (i * q.n + a) (k * q.n + a) = false) : agB q r i k s = false := by
  cases hc : agB q r i k s
  · rfl
  · have := eqvB_iff.2 (agB_iff.1 hc a ha hb)
    rw [he] at this; cases this
theorem hasB_def (s : Int) (a : Nat) : (IntKind.u32.wrap ↑((s.fdiv (2 ^ min a IntKind.u32.bits) % 2 ^ IntKind.u32.bits).toNat &&& 1 % 2 ^ IntKind.u32.bits) == 1) = hasB s a := rfl
theorem ptrRb {H : List B} {k0 kp kq n N : Nat} {K : Nat → Option Vl} (g : HOk H k0 kp kq n N K) (P : List Nat) : k0 < (Ht H kp P).length := by rw [ht_len]; exact g.lt0
set_option maxHeartbeats 16000000 in
theorem agree_u {q : Prob} {P : List Nat} {r h : Nat → Nat} (f : Frt q P r h) {H : List B} {k0 kp kq n N : Nat} (hNe : q.m * q.n = N) (hn : q.n = n) (g : HOk H k0 kp kq n N q.K) (hN : N ≤ 1000000) (i k : Nat) (s : Int) (hi : i < q.m) (hk : k < q.m) (hn2 : n ≤ 16) :
    ConH Tryz.prog 94 [.ptr k0 0, .int .i64 i, .int .i64 k, .int .u32 s] (Ht H kp P) fun r' H' => r' = .bool (agB q r i k s) ∧ H' = Ht H kp P := by
  obtain ⟨E, hE⟩ : ∃ E, E = agB q r i k s := ⟨_, rfl⟩
  rw [← hE]
  have h0 := g.at0 P
  have hrb := g.rbs P
  have hl0 := ptrRb g P
  refine conH_of_W tok Tryz.func94 rfl rfl ?_
  refine W_x tok mixed ?_
  simp -implicitDefEqProofs -dsimp [Tryz.f94, List.replicate, h0]
  refine lw_of (W_loopV [false, false, false, false, false, false, false, false, true, true, false, false, false, false, true, true, true, true, true, true, true, true, true, true, true, true, true, true, true, true, true, true, true, true, true, true, true, true, true, true, true, true, true, true] (σ := Nat) (fun a => a ≤ n ∧ AgrE q r i k s a) (fun a => n - a) (fun a => [(14, .int .i64 a)]) (fun _ => Ht H kp P) 0 ⟨by omega, fun a ha => by omega⟩ (by simp) rfl (by simp) ?_)
  rintro a ⟨ha, hx⟩ N2 Q hN2 hQ
  by_cases hb : a < n
  · have li := cell_lt hi (hn ▸ hb)
    have lk := cell_lt hk (hn ▸ hb)
    have ci := same_u f hNe g hN (i * q.n + a) (k * q.n + a) (hNe ▸ li) (hNe ▸ lk)
    have hx2 : AgrE q r i k s a := hx
    cases hh : hasB s a
    · refine W_x tok mixed ?_
      simp -implicitDefEqProofs -dsimp [h0, hb, hasB_def, hh, show (a : Int) < 32 by omega]
      refine .inr ⟨stop_of (by kernel_rfl), ?_⟩
      simp -implicitDefEqProofs -dsimp [wrapS a (by omega)]
      refine hN2 (a + 1) _ _ ⟨by omega, fun b hb1 hb2 => ?_⟩ (by omega) (by simp) ⟨[], by simp⟩ (by simp [hl0]) hrb
      rcases Nat.lt_or_ge b a with h1 | h1
      · exact hx b h1 hb2
      · have : b = a := by omega
        subst this; rw [hh] at hb2; cases hb2
    · rw [hn] at li lk ci
      have hNe2 : q.m * n = N := by rw [← hn]; exact hNe
      rw [hNe2] at li lk
      have w1 : IntKind.i64.wrap ((i : Int) * n) = ((i * n : Nat) : Int) := by rw [wrap64 (by omega) (by omega)]; push_cast; rfl
      have w2 : IntKind.i64.wrap ((k : Int) * n) = ((k * n : Nat) : Int) := by rw [wrap64 (by omega) (by omega)]; push_cast; rfl
      have w3 : IntKind.i64.wrap (((i * n : Nat) : Int) + (a : Int)) = ((i * n + a : Nat) : Int) := by rw [wrap64 (by omega) (by omega)]; push_cast; rfl
      have w4 : IntKind.i64.wrap (((k * n : Nat) : Int) + (a : Int)) = ((k * n + a : Nat) : Int) := by rw [wrap64 (by omega) (by omega)]; push_cast; rfl
      have e1 : i * q.n + a = i * n + a := by rw [hn]
      have e2 : k * q.n + a = k * n + a := by rw [hn]
      obtain ⟨xi, hxi⟩ : ∃ xi, xi = i * n + a := ⟨_, rfl⟩
      obtain ⟨xk, hxk⟩ : ∃ xk, xk = k * n + a := ⟨_, rfl⟩
      obtain ⟨yi, hyi⟩ : ∃ yi, yi = i * n := ⟨_, rfl⟩
      obtain ⟨yk, hyk⟩ : ∃ yk, yk = k * n := ⟨_, rfl⟩
      rw [← hxi] at w3 e1 ci
      rw [← hxk] at w4 e2 ci
      rw [← hyi] at w1 w3
      rw [← hyk] at w2 w4
      cases he : eqvB q r xi xk
      · rw [he] at ci
        have hno := agB_no (k := k) (i := i) (hn ▸ hb) hh (by rw [e1, e2]; exact he)
        rw [hno] at hE
        refine W_x tok mixed ?_
        simp -implicitDefEqProofs -dsimp [h0, hb, hasB_def, hh, show (a : Int) < 32 by omega, w1, w2, w3, w4]
        refine .inr ⟨stop_of (by kernel_rfl), ?_⟩
        refine cy_of _ ci ?_
        simp -implicitDefEqProofs -dsimp [hh]
        refine hQ _ _ _ ?_
        simp -implicitDefEqProofs -dsimp []
        exact hE
      · rw [he] at ci
        refine W_x tok mixed ?_
        simp -implicitDefEqProofs -dsimp [h0, hb, hasB_def, hh, show (a : Int) < 32 by omega, w1, w2, w3, w4]
        refine .inr ⟨stop_of (by kernel_rfl), ?_⟩
        refine cy_of _ ci ?_
        simp -implicitDefEqProofs -dsimp [hh, wrapS a (by omega)]
        refine hN2 (a + 1) _ _ ⟨by omega, fun b hb1 hb2 => ?_⟩ (by omega) (by simp) ⟨[], by simp⟩ (by simp [hl0]) hrb
        rcases Nat.lt_or_ge b a with h1 | h1
        · exact hx b h1 hb2
        · have : b = a := by omega
          subst this; rw [e1, e2]; exact eqvB_iff.1 he
  · have hyes : agB q r i k s = true := agB_iff.2 fun b hb1 hb2 => hx b (by omega) hb2
    rw [hyes] at hE
    refine W_x tok mixed ?_
    simp -implicitDefEqProofs -dsimp [hb]
    refine hQ _ _ _ ?_
    simp -implicitDefEqProofs -dsimp []
    exact hE
end Go.Proofs.YteijbpppalhihaaGreat
end
