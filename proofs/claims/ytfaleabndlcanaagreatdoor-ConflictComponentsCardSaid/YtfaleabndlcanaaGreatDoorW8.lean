/- W8: conflict.Free, drossref37.Edges. Expanded by pp.py. -/
import Derived.Test.YtfaleabndlcanaaGreatDoorW7
set_option linter.unusedSimpArgs false
set_option maxRecDepth 100000
namespace Go.Proofs.YtfaleabndlcanaaGreatDoor
open Go Go.AM
def freeF (vs : List Int) (es : List (List Int)) : List Int := vs.filter fun v => deg es v == 0
theorem freeF_take (vs : List Int) (es : List (List Int)) (i : Nat) (h : i < vs.length) : freeF (vs.take (i + 1)) es = if deg es vs[i] = 0 then freeF (vs.take i) es ++ [vs[i]] else freeF (vs.take i) es := by
  unfold freeF
  rw [List.take_succ_eq_append_getElem h, List.filter_append]
  by_cases h0 : deg es vs[i] = 0
  · simp [List.filter, h0]
  · have h1 : (deg es vs[i] == 0) = false := by simpa using h0
    simp [List.filter, h0, h1]
theorem freeF_len (vs : List Int) (es : List (List Int)) (i : Nat) : (freeF (vs.take i) es).length ≤ i := Nat.le_trans (List.length_filter_le _ _) (by simp; omega)
set_option maxHeartbeats 8000000 in
theorem free_c (vs : List Int) (es : List (List Int)) (f g : Bool) (hs : Small vs es) : ConP Tryz.prog 25 [encH f g vs es] fun r => r = L1 false (freeF vs es) := by
  have hs' := hs
  obtain ⟨hv, he, hes⟩ := hs
  refine conP_of_conH (conH_of_W tok Tryz.func25 rfl rfl ?_)
  refine W_x tok mixed ?_
  simp -implicitDefEqProofs -dsimp [Tryz.f25, List.replicate, encH, LL, L1]
  refine lw_of (W_own 2 1 [3] (by simp) (W_loopV [false, false, false, true, false, true, false, false, false, true, true, true, true, true, true, true, true, true, true, true, true, true] (σ := Nat) (fun i => i ≤ vs.length) (fun i => vs.length - i) (fun i => [(9, .int .i64 i), (3, .buf 1 0 (freeF (vs.take i) es).length (freeF (vs.take i) es).length)]) (fun i => [B.cells [L1 f vs, LL g es], B.buf 2 1 ((freeF (vs.take i) es).map encI) false]) 0 (by omega) (by simp [freeF]) (by simp [LL, L1, freeF]) (by simp) ?_))
  intro i hi N Q hN hQ
  by_cases hb : i < vs.length
  · have hc := degree_c vs es vs[i] f g hs'
    have hp := freeF_take vs es i hb
    have hl := freeF_len vs es i
    simp only [encH] at hc
    by_cases h0 : deg es vs[i] = 0
    · rw [if_pos h0] at hp
      rw [h0] at hc
      refine W_x tok mixed ?_
      simp -implicitDefEqProofs -dsimp [hb, encI]
      refine (callP (hc) (by simp)).mono ?_
      rintro r H' ⟨rfl, rfl⟩
      simp -implicitDefEqProofs -dsimp [wrapS i (by omega), cap8 (freeF (vs.take i) es).length (by omega)]
      refine hN (i + 1) _ _ (by omega) (by omega) ?_ ⟨[], ?_⟩ ?_ ?_ <;> simp [or_imp, forall_and, L1, encI, LL, hp]
    · rw [if_neg h0] at hp
      have h0' : ¬ ((deg es vs[i] : Int) = 0) := by omega
      refine W_x tok mixed ?_
      simp -implicitDefEqProofs -dsimp [hb, encI]
      refine (callP (hc) (by simp)).mono ?_
      rintro r H' ⟨rfl, rfl⟩
      simp -implicitDefEqProofs -dsimp [wrapS i (by omega), h0', h0]
      refine hN (i + 1) _ _ (by omega) (by omega) ?_ ⟨[], ?_⟩ ?_ ?_ <;> simp [or_imp, forall_and, L1, encI, LL, hp]
  · have hp : freeF (vs.take i) es = freeF vs es := by rw [List.take_of_length_le (by omega)]
    refine W_x tok mixed ?_
    simp -implicitDefEqProofs -dsimp [hb]
    refine hQ _ _ _ ?_
    simp -implicitDefEqProofs -dsimp []
    rw [← hp]
    exact exp_buf rfl (by simp) (by simp [encI])
/-- List k shuts list i out. -/
def dropE (l : List (List Int)) (i k : Nat) : Bool := within (eAt l k) (eAt l i) && (decide ((eAt l k).length < (eAt l i).length) || decide (k < i))
def keepTo (l : List (List Int)) (i : Nat) : Nat → Bool
  | 0 => true
  | k + 1 => keepTo l i k && !dropE l i k
def keepE (l : List (List Int)) (i : Nat) : Bool := keepTo l i l.length
def insPos (acc : List (List Int)) (e : List Int) : Nat → Nat
  | 0 => 0
  | k + 1 => if lexLt e (eAt acc k) then insPos acc e k else k + 1
def insAt (acc : List (List Int)) (e : List Int) (k : Nat) : List (List Int) := acc.take k ++ e :: acc.drop k
def insE (acc : List (List Int)) (e : List Int) : List (List Int) := insAt acc e (insPos acc e acc.length)
def edgesTo (l : List (List Int)) : Nat → List (List Int)
  | 0 => []
  | i + 1 => if keepE l i then insE (edgesTo l i) (eAt l i) else edgesTo l i
def edgesF (l : List (List Int)) : List (List Int) := edgesTo l l.length
theorem insE_len (acc : List (List Int)) (e : List Int) : (insE acc e).length = acc.length + 1 := by simp [insE, insAt]; omega
theorem edgesTo_len (l : List (List Int)) : ∀ i, (edgesTo l i).length ≤ i
  | 0 => by simp [edgesTo]
  | i + 1 => by
    have := edgesTo_len l i
    simp only [edgesTo]
    split
    · rw [insE_len]; omega
    · omega
theorem insE_mem {acc : List (List Int)} {e x : List Int} (h : x ∈ insE acc e) : x = e ∨ x ∈ acc := by
  simp only [insE, insAt, List.mem_append, List.mem_cons] at h
  rcases h with h | h | h
  · exact .inr (List.mem_of_mem_take h)
  · exact .inl h
  · exact .inr (List.mem_of_mem_drop h)
theorem edgesTo_mem {l : List (List Int)} : ∀ {i : Nat}, i ≤ l.length → ∀ {x : List Int}, x ∈ edgesTo l i → x ∈ l
  | 0, _, x, h => by simp [edgesTo] at h
  | i + 1, hi, x, h => by
    simp only [edgesTo] at h
    split at h
    · rcases insE_mem h with rfl | h
      · rw [getD_at (by omega)]; exact List.getElem_mem _
      · exact edgesTo_mem (by omega) h
    · exact edgesTo_mem (by omega) h
theorem insAt_k (acc : List (List Int)) (e : List Int) (k : Nat) (hk : k ≤ acc.length) (h : k < (insAt acc e k).length) : (insAt acc e k)[k] = e := by
  simp [insAt, hk]
theorem insAt_p (acc : List (List Int)) (e : List Int) (k : Nat) (hk : k ≤ acc.length) (h1 : 1 ≤ k) (h : k - 1 < (insAt acc e k).length) : (insAt acc e k)[k - 1] = eAt acc (k - 1) := by
  have : k - 1 < acc.length := by omega
  have hl : k - 1 < (acc.take k).length := by simp; omega
  simp only [insAt]
  rw [List.getElem_append_left hl]
  simp [eAt, this]
theorem insAt_len (acc : List (List Int)) (e : List Int) (k : Nat) : (insAt acc e k).length = acc.length + 1 := by simp [insAt]; omega
theorem insAt_swap (acc : List (List Int)) (e : List Int) (k : Nat) (hk : k ≤ acc.length) (h1 : 1 ≤ k) : ((insAt acc e k).set k (eAt acc (k - 1))).set (k - 1) e = insAt acc e (k - 1) := by
  obtain ⟨m, rfl⟩ : ∃ m, k = m + 1 := ⟨k - 1, by omega⟩
  have hm : m < acc.length := by omega
  have hl : (acc.take m).length = m := by simp; omega
  have e1 : acc.take (m + 1) = acc.take m ++ [acc[m]] := List.take_succ_eq_append_getElem hm
  have e2 : acc.drop m = acc[m] :: acc.drop (m + 1) := List.drop_eq_getElem_cons hm
  have e3 : eAt acc m = acc[m] := by simp [eAt, hm]
  simp only [insAt, Nat.add_sub_cancel, e1, e2, e3]
  generalize acc.take m = A at hl
  generalize acc.drop (m + 1) = D
  subst hl
  simp [List.set_append]
end Go.Proofs.YtfaleabndlcanaaGreatDoor
