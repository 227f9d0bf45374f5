/- W11: the law ConflictDegree. Expanded by pp.py. -/
import Derived.Test.YtfaleabndlcanaaGreatDoorPl2
import Derived.Test.YtfaleabndlcanaaGreatDoorC4
set_option linter.unusedSimpArgs false
set_option maxRecDepth 100000
namespace Go.Proofs.YtfaleabndlcanaaGreatDoor
open Go Go.AM
def degS (vs : List Int) (es : List (List Int)) : Nat := (vs.map (deg es)).sum
theorem degS_take (vs : List Int) (es : List (List Int)) (i : Nat) (h : i < vs.length) : degS (vs.take (i + 1)) es = degS (vs.take i) es + deg es vs[i] := by
  unfold degS; rw [List.take_succ_eq_append_getElem h]
  simp only [List.map_append, List.sum_append, List.map_cons, List.map_nil, List.sum_cons, List.sum_nil, Nat.add_zero]
theorem degS_le (vs : List Int) (es : List (List Int)) (i : Nat) : degS (vs.take i) es ≤ i * es.length := by
  have h1 := sum_take_le ((vs.take i).map (deg es)) es.length (fun x hx => by
    obtain ⟨v, _, rfl⟩ := List.mem_map.1 hx
    have := deg_le es v es.length
    rwa [List.take_length] at this)
  refine Nat.le_trans h1 (Nat.mul_le_mul_right _ ?_)
  simp; omega
def sizeS (es : List (List Int)) : Nat := (es.map List.length).sum
theorem sizeS_take (es : List (List Int)) (i : Nat) (h : i < es.length) : sizeS (es.take (i + 1)) = sizeS (es.take i) + es[i].length := by
  unfold sizeS; rw [List.take_succ_eq_append_getElem h]
  simp only [List.map_append, List.sum_append, List.map_cons, List.map_nil, List.sum_cons, List.sum_nil, Nat.add_zero]
theorem sizeS_le (es : List (List Int)) (b : Nat) (hb : ∀ e ∈ es, e.length ≤ b) (i : Nat) : sizeS (es.take i) ≤ i * b := by
  have h1 := sum_take_le ((es.take i).map List.length) b (fun x hx => by
    obtain ⟨v, hv, rfl⟩ := List.mem_map.1 hx
    exact hb v (List.mem_of_mem_take hv))
  refine Nat.le_trans h1 (Nat.mul_le_mul_right _ ?_)
  simp; omega
set_option maxHeartbeats 16000000 in
theorem lawDegree (n : Int) (cs : List Int) (x : Int) (f : Bool) (hn : 0 ≤ n) (hn2 : n < 256) (hcs : cs.length ≤ 9223372036854775807) : ConP Tryz.prog 5 [encG f n cs, .int .i64 x] fun r => r = .bool true := by
  have hs := hyp_small n cs hn
  have hel := hypE_len n cs
  have hvl := hypV_len n hn
  have hem : ∀ e ∈ hypE n cs, e.length ≤ 8 := fun e he => (hypE_mem he).2.2
  have hsum := sum_deg (hypV n) (asc_nodup (hypV_asc n)) (hypE n cs) (fun e he => (hypE_mem he).1)
  have hc := hyper37 n cs f hn hn2 hcs
  generalize hypV n = vs at hs hvl hsum hc
  generalize hypE n cs = es at hs hel hem hsum hc
  have hdc := fun v => degree_c vs es v false false hs
  have hdr := fun v => degree_r vs es v false false hs
  have hfr := free_c vs es false false hs
  simp only [encG, encH] at hc hdc hdr hfr
  refine conP_of_conH (conH_of_W tok Tryz.func5 rfl rfl ?_)
  refine W_x tok mixed ?_
  simp -implicitDefEqProofs -dsimp [Tryz.f5, List.replicate, encG, L1]
  refine (callP (hc) (by simp)).mono ?_
  rintro r H' ⟨rfl, rfl⟩
  simp -implicitDefEqProofs -dsimp [LL, L1]
  refine (callP (awake_con) (by simp)).mono ?_
  rintro r H' ⟨rfl, rfl⟩
  by_cases h12 : cs.length ≤ 12
  · simp -implicitDefEqProofs -dsimp [h12, L1]
    refine lw_of (W_own 2 1 [9] (by simp) (W_loopV [false, false, false, false, false, false, false, true, false, true, false, true, true, false, false, true, false, true, false, false, false, false, false, false, false, false, false, false, false, false, true, true, true, true, true, true, true, true, true, true, true, true, true, true, true, true, true] (σ := Nat) (fun i => i ≤ vs.length) (fun i => vs.length - i) (fun i => [(30, .int .i64 i), (7, .int .i64 (degS (vs.take i) es)), (9, .buf 2 0 (freeF (vs.take i) es).length (freeF (vs.take i) es).length)]) (fun i => [B.cells [.int .u8 n, .lst 1 f (cs.map encU)], B.cells [L1 false vs, LL false es], B.buf 2 1 ((freeF (vs.take i) es).map encI) false]) 0 (by omega) (by simp [freeF, degS]) (by simp [freeF, L1, LL]) (by simp) ?_))
    intro i hi N Q hN hQ
    have hdl := degS_le vs es i
    have hdb : degS (vs.take i) es ≤ 8 * 12 := Nat.le_trans hdl (Nat.mul_le_mul (by omega) hel)
    by_cases hb : i < vs.length
    · have hp := freeF_take vs es i hb
      have hl := freeF_len vs es i
      have hd1 := degS_take vs es i hb
      have hd2 : deg es vs[i] ≤ es.length := by have := deg_le es vs[i] es.length; rwa [List.take_length] at this
      have hw : IntKind.i64.wrap ((degS (vs.take i) es : Int) + (deg es vs[i] : Int)) = ((degS (vs.take i) es + deg es vs[i] : Nat) : Int) := by rw [wrap64 (by omega) (by omega)]; rfl
      refine W_x tok mixed ?_
      simp -implicitDefEqProofs -dsimp [hb, encI, L1]
      refine (callP (hdc vs[i]) (by simp)).mono ?_
      rintro r H' ⟨rfl, rfl⟩
      by_cases h0 : deg es vs[i] = 0
      · rw [if_pos h0] at hp
        simp -implicitDefEqProofs -dsimp [wrapS i (by omega), wrapN (degS (vs.take i) es) (by omega), h0, cap8 (freeF (vs.take i) es).length (by omega), L1]
        refine hN (i + 1) _ _ (by omega) (by omega) ?_ ⟨[], ?_⟩ ?_ ?_ <;> simp [or_imp, forall_and, L1, encI, LL, hp, hd1, h0]
      · rw [if_neg h0] at hp
        simp -implicitDefEqProofs -dsimp [wrapS i (by omega), hw, h0, L1]
        refine hN (i + 1) _ _ (by omega) (by omega) ?_ ⟨[], ?_⟩ ?_ ?_ <;> simp [or_imp, forall_and, L1, encI, LL, hp, hd1]
    · obtain rfl : i = vs.length := by omega
      rw [List.take_length] at hdb ⊢
      refine W_x tok mixed ?_
      simp -implicitDefEqProofs -dsimp [hb, L1]
      refine hQ _ _ _ ?_
      simp -implicitDefEqProofs -dsimp [LL, L1]
      refine lw_of (W_loopV [false, false, false, false, false, false, false, false, true, false, false, false, false, false, true, false, false, false, false, false, false, false, false, false, false, false, false, false, false, false, false, false, false, false, false, false, false, false, false, false, false, false, false, false, false, false, false, false, false, false, true, true, true, true, true, true, true, true, true] (σ := Nat) (fun j => j ≤ es.length) (fun j => es.length - j) (fun j => [(50, .int .i64 j), (8, .int .i64 (sizeS (es.take j)))]) (fun _ => [B.cells [.int .u8 n, .lst 1 f (cs.map encU)], B.cells [L1 false vs, LL false es], B.buf 2 1 ((freeF vs es).map encI) false]) 0 (by omega) (by simp [sizeS]) (by simp [L1, LL]) (by simp) ?_)
      intro j hj N2 Q2 hN2 hQ2
      have hzl := sizeS_le es 8 hem j
      by_cases hjb : j < es.length
      · have hz := sizeS_take es j hjb
        have hz2 := hem es[j] (List.getElem_mem hjb)
        have hw : IntKind.i64.wrap ((sizeS (es.take j) : Int) + (es[j].length : Int)) = ((sizeS (es.take j) + es[j].length : Nat) : Int) := by rw [wrap64 (by omega) (by omega)]; rfl
        refine W_x tok mixed ?_
        simp -implicitDefEqProofs -dsimp [hjb, LL, wrapS j (by omega), hw, L1]
        refine hN2 (j + 1) _ _ (by omega) (by omega) ?_ ⟨[], ?_⟩ ?_ ?_ <;> simp [or_imp, forall_and, L1, encI, LL, hz]
      · obtain rfl : j = es.length := by omega
        rw [List.take_length]
        have hsum' : degS vs es = sizeS es := hsum
        have hfl := freeF_len vs es vs.length
        rw [List.take_length] at hfl
        refine W_x tok mixed ?_
        simp -implicitDefEqProofs -dsimp [hjb, LL, L1]
        refine hQ2 _ _ _ ?_
        simp -implicitDefEqProofs -dsimp [LL, L1]
        refine ⟨stop_of (by kernel_rfl), ?_⟩
        refine cy_of _ (callP (hdc x) (by simp)) ?_
        simp -implicitDefEqProofs -dsimp [LL, L1]
        refine cy_of _ (callP (hdr x) (by simp)) ?_
        simp -implicitDefEqProofs -dsimp [hsum', LL, L1]
        refine cy_of _ (callP (hfr) (by simp)) ?_
        simp -implicitDefEqProofs -dsimp [L1]
        have hq := equal64 (freeF vs es) (freeF vs es) false false (by omega) (by omega)
        rw [show decide (freeF vs es = freeF vs es) = true from decide_eq_true rfl] at hq
        refine cy_of (.bool true) (callX hq rfl (fun i a a' ha ha' => ?_) (.bool true)) ?_
        · match i with
          | 0 => simp at ha ha'; subst ha; subst ha'; exact .pure _ (by simp [L1])
          | 1 => simp at ha ha'; subst ha; subst ha'; exact exp_buf rfl (by simp) (by simp [encI])
          | i + 2 => simp at ha
        simp -implicitDefEqProofs -dsimp [L1]
  · simp -implicitDefEqProofs -dsimp [h12, L1]
    refine (callP (awake_con) (by simp)).mono ?_
    rintro r H' ⟨rfl, rfl⟩
    simp -implicitDefEqProofs -dsimp [L1]
end Go.Proofs.YtfaleabndlcanaaGreatDoor
