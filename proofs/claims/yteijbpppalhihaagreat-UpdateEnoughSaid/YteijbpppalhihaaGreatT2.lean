/- T2: lists of strings, values. Expanded by pp.py. -/
import Derived.Test.YteijbpppalhihaaGreatT1
set_option linter.unusedVariables false
set_option linter.unusedSimpArgs false
set_option maxRecDepth 100000
namespace Go.Proofs.YteijbpppalhihaaGreat
open Go Go.AM
def LS (f : Bool) (ss : List ByteArray) : V := .lst 1 f (ss.map V.str)
@[simp] theorem LS_pure (f : Bool) (ss : List ByteArray) : AM.Pure (LS f ss) := by simp [LS]
@[simp] theorem pure_takeS (i : Nat) (ss : List ByteArray) : (∀ x, x ∈ List.take i (List.map V.str ss) → AM.Pure x) ↔ True := iff_true_intro fun x hx => by
  obtain ⟨s, _, rfl⟩ := List.mem_map.1 (List.mem_of_mem_take hx)
  exact .str s
def ixS (ss : List ByteArray) (x : ByteArray) (i : Nat) : Int := if h : i < ss.length then (if (x.toList == ss[i].toList) = true then (i : Int) else ixS ss x (i + 1)) else -1
termination_by ss.length - i
def memS (ss : List ByteArray) (x : ByteArray) : Bool := ss.any fun e => x.toList == e.toList
theorem ixS_mem (ss : List ByteArray) (x : ByteArray) (i : Nat) : decide (0 ≤ ixS ss x i) = memS (ss.drop i) x := by
  unfold memS
  fun_induction ixS ss x i with
  | case1 i h h0 => rw [List.drop_eq_getElem_cons h, List.any_cons, h0]; simp
  | case2 i h h0 ih => rw [List.drop_eq_getElem_cons h, List.any_cons, ih]; simp [h0]
  | case3 i h => rw [List.drop_of_length_le (by omega)]; rfl
set_option maxHeartbeats 8000000 in
theorem indexS (ss : List ByteArray) (x : ByteArray) (f : Bool) (hl : ss.length ≤ 1000000) : ConP Tryz.prog 165 [LS f ss, .str x] fun r => r = .int .i64 (ixS ss x 0) := by
  refine conP_of_conH (conH_of_W tok Tryz.func165 rfl rfl ?_)
  refine W_x tok mixed ?_
  simp -implicitDefEqProofs -dsimp [Tryz.f165, List.replicate, LS]
  refine lw_of (W_loopV [false, false, false, false, true, true, false, false, true, true, true, true, true, true, true, true, true, true, true] (σ := Nat) (fun i => ixS ss x i = ixS ss x 0) (fun i => ss.length - i) (fun i => [(8, .int .i64 i)]) (fun _ => []) 0 rfl (by simp) rfl (by simp) ?_)
  intro i hx N Q hN hQ
  by_cases hb : i < ss.length
  · rw [ixS, dif_pos hb] at hx
    cases hq : (x.toList == ss[i].toList)
    · rw [hq, if_neg (by simp)] at hx
      refine W_x tok mixed ?_
      simp -implicitDefEqProofs -dsimp [hb, hq]
      simp -implicitDefEqProofs -dsimp [wrapS i (by omega)]
      refine hN (i + 1) _ _ hx (by omega) (by simp) ⟨[], rfl⟩ (by simp) (by simp)
    · rw [hq, if_pos rfl] at hx
      refine W_x tok mixed ?_
      simp -implicitDefEqProofs -dsimp [hb, hq]
      refine hQ _ _ _ ?_
      simp -implicitDefEqProofs -dsimp []
      exact hx
  · rw [ixS, dif_neg hb] at hx
    refine W_x tok mixed ?_
    simp -implicitDefEqProofs -dsimp [hb]
    refine hQ _ _ _ ?_
    simp -implicitDefEqProofs -dsimp []
    exact hx
set_option maxHeartbeats 4000000 in
theorem containsS (ss : List ByteArray) (x : ByteArray) (f : Bool) (hl : ss.length ≤ 1000000) : ConP Tryz.prog 117 [LS f ss, .str x] fun r => r = .bool (memS ss x) := by
  have h0 := ixS_mem ss x 0
  rw [List.drop_zero] at h0
  refine conP_of_conH (conH_of_W tok Tryz.func117 rfl rfl ?_)
  refine W_x tok mixed ?_
  simp -implicitDefEqProofs -dsimp [Tryz.f117, List.replicate]
  refine (callP (indexS ss x f hl) (by simp)).mono ?_
  rintro r H' ⟨rfl, rfl⟩
  simp -implicitDefEqProofs -dsimp []
  rw [← h0]
theorem beq_comm' (a b : List UInt8) : (a == b) = (b == a) := by rw [Bool.eq_iff_iff, beq_iff_eq, beq_iff_eq]; exact eq_comm
set_option maxHeartbeats 8000000 in
theorem attrS (ss : List ByteArray) (x : ByteArray) (f : Bool) (hl : ss.length ≤ 1000000) : ConP Tryz.prog 173 [LS f ss, .str x] fun r => r = .int .i64 (ixS ss x 0) := by
  refine conP_of_conH (conH_of_W tok Tryz.func173 rfl rfl ?_)
  refine W_x tok mixed ?_
  simp -implicitDefEqProofs -dsimp [Tryz.f173, List.replicate, LS]
  refine lw_of (W_loopV [false, false, false, false, true, true, true, true, true, true, true, true, true, true, true, true, true, true, true] (σ := Nat) (fun i => ixS ss x i = ixS ss x 0) (fun i => ss.length - i) (fun i => [(5, .int .i64 i)]) (fun _ => []) 0 rfl (by simp) rfl (by simp) ?_)
  intro i hx N Q hN hQ
  by_cases hb : i < ss.length
  · rw [ixS, dif_pos hb, beq_comm'] at hx
    cases hq : (ss[i].toList == x.toList)
    · rw [hq, if_neg (by simp)] at hx
      refine W_x tok mixed ?_
      simp -implicitDefEqProofs -dsimp [hb, hq]
      simp -implicitDefEqProofs -dsimp [wrapS i (by omega)]
      refine hN (i + 1) _ _ hx (by omega) (by simp) ⟨[], rfl⟩ (by simp) (by simp)
    · rw [hq, if_pos rfl] at hx
      refine W_x tok mixed ?_
      simp -implicitDefEqProofs -dsimp [hb, hq]
      refine hQ _ _ _ ?_
      simp -implicitDefEqProofs -dsimp []
      exact hx
  · rw [ixS, dif_neg hb] at hx
    refine W_x tok mixed ?_
    simp -implicitDefEqProofs -dsimp [hb]
    refine hQ _ _ _ ?_
    simp -implicitDefEqProofs -dsimp []
    exact hx
def sAt (ss : List ByteArray) (i : Nat) : ByteArray := ss.getD i ByteArray.empty
def nmAt (ss : List ByteArray) (i : Nat) : Bool := nameB (sAt ss i) && !memS (ss.take i) (sAt ss i)
def namesB (ss : List ByteArray) : Bool := (List.range ss.length).all (nmAt ss)
set_option maxHeartbeats 8000000 in
theorem names03 (ss : List ByteArray) (f : Bool) (hl : ss.length ≤ 1000000) (hs : ∀ s ∈ ss, s.size ≤ maxLen) : ConP Tryz.prog 127 [LS f ss] fun r => r = .bool (namesB ss) := by
  unfold namesB
  refine conP_of_conH (conH_of_W tok Tryz.func127 rfl rfl ?_)
  refine W_x tok mixed ?_
  simp -implicitDefEqProofs -dsimp [Tryz.f127, List.replicate, LS]
  refine lw_of (W_loopV [false, false, true, true, true, true, true, true, true, true, true, true, true, true, true, true, true, true, true, true, true, true, true, true, true, true, true] (σ := Nat) (fun i => i ≤ ss.length ∧ (List.range i).all (nmAt ss) = true) (fun i => ss.length - i) (fun i => [(3, .int .i64 i)]) (fun _ => []) 0 ⟨by omega, rfl⟩ (by simp) rfl (by simp) ?_)
  rintro i ⟨hi, hall⟩ N Q hN hQ
  by_cases hb : i < ss.length
  · have hsi : sAt ss i = ss[i] := by simp [sAt, hb]
    have hok : nmAt ss i = (nameB ss[i] && !memS (ss.take i) ss[i]) := by unfold nmAt; rw [hsi]
    have hc1 := name03_con ss[i] (hs _ (List.getElem_mem hb))
    have hc2 := attrS (ss.take i) ss[i] (f && i == ss.length) (by simp; omega)
    have hm := ixS_mem (ss.take i) ss[i] 0
    rw [List.drop_zero] at hm
    simp only [LS, List.map_take] at hc2
    cases h1 : nameB ss[i]
    · rw [h1, Bool.false_and] at hok
      rw [h1] at hc1
      refine W_x tok mixed ?_
      simp -implicitDefEqProofs -dsimp [hb]
      refine .inr ⟨stop_of (by kernel_rfl), ?_⟩
      refine cy_of _ (callP (hc1) (by simp)) ?_
      simp -implicitDefEqProofs -dsimp []
      refine hQ _ _ _ ?_
      simp -implicitDefEqProofs -dsimp []
      exact ⟨_, hb, hok⟩
    · rw [h1, Bool.true_and] at hok
      rw [h1] at hc1
      cases h2 : memS (ss.take i) ss[i]
      · rw [h2] at hok hm
        have hneg := of_decide_eq_false hm
        refine W_x tok mixed ?_
        simp -implicitDefEqProofs -dsimp [hb]
        refine .inr ⟨stop_of (by kernel_rfl), ?_⟩
        refine cy_of _ (callP (hc1) (by simp)) ?_
        simp -implicitDefEqProofs -dsimp [hb, show i ≤ ss.length by omega]
        refine cy_of _ (callP (hc2) (by simp)) ?_
        simp -implicitDefEqProofs -dsimp [show ¬ 0 ≤ ixS (ss.take i) ss[i] 0 by omega, wrapS i (by omega)]
        refine hN (i + 1) _ _ ⟨by omega, all_succ hall (by rw [hok]; rfl)⟩ (by omega) ?_ ⟨[], ?_⟩ ?_ ?_ <;> simp [or_imp, forall_and, L1, encI]
      · rw [h2] at hok hm
        have hneg := of_decide_eq_true hm
        refine W_x tok mixed ?_
        simp -implicitDefEqProofs -dsimp [hb]
        refine .inr ⟨stop_of (by kernel_rfl), ?_⟩
        refine cy_of _ (callP (hc1) (by simp)) ?_
        simp -implicitDefEqProofs -dsimp [hb, show i ≤ ss.length by omega]
        refine cy_of _ (callP (hc2) (by simp)) ?_
        simp -implicitDefEqProofs -dsimp [hneg]
        refine hQ _ _ _ ?_
        simp -implicitDefEqProofs -dsimp []
        exact ⟨_, hb, hok⟩
  · obtain rfl : i = ss.length := by omega
    refine W_x tok mixed ?_
    simp -implicitDefEqProofs -dsimp [hb]
    refine hQ _ _ _ ?_
    simp -implicitDefEqProofs -dsimp []
    simpa using hall
structure Vl where
  k : Int
  n : Int
  s : ByteArray
def encV (v : Vl) : V := .agg [.int .i64 v.k, .int .i64 v.n, .str v.s]
def LV (f : Bool) (vs : List Vl) : V := .lst 3 f (vs.map encV)
@[simp] theorem encV_pure (v : Vl) : AM.Pure (encV v) := by simp [encV]
@[simp] theorem LV_pure (f : Bool) (vs : List Vl) : AM.Pure (LV f vs) := by simp [LV]
@[simp] theorem encV_oneV (v : Vl) : oneV (encV v) = true := rfl
def validV (v : Vl) : Bool :=
  if v.k = 0 then decide (v.n = 0) && v.s.toList.isEmpty else if v.k = 1 then v.s.toList.isEmpty else
  if v.k = 2 then decide (v.n = 0) && decide (v.s.size ≤ 200) else decide (v.k = 3) && (decide (1 ≤ v.n) && v.s.toList.isEmpty)
end Go.Proofs.YteijbpppalhihaaGreat
