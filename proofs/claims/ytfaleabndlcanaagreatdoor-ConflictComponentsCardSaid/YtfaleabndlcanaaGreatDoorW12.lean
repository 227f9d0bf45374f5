/- W12: Independent of both sides, ContainsFunc, drossref37.Free. Expanded by pp.py. -/
import Derived.Test.YtfaleabndlcanaaGreatDoorPl2
set_option linter.unusedSimpArgs false
set_option maxRecDepth 100000
namespace Go.Proofs.YtfaleabndlcanaaGreatDoor
open Go Go.AM
def ixF (p : List Int → Bool) (es : List (List Int)) (i : Nat) : Int := if h : i < es.length then (if p es[i] then (i : Int) else ixF p es (i + 1)) else -1
termination_by es.length - i
theorem ixF_any (p : List Int → Bool) (es : List (List Int)) (i : Nat) : decide (0 ≤ ixF p es i) = (es.drop i).any p := by
  fun_induction ixF p es i with
  | case1 i h h0 => rw [List.drop_eq_getElem_cons h, List.any_cons, h0]; simp
  | case2 i h h0 ih => rw [List.drop_eq_getElem_cons h, List.any_cons, ih]; simp [h0]
  | case3 i h => rw [List.drop_of_length_le (by omega)]; rfl
set_option maxHeartbeats 8000000 in
theorem idxFunc (H : List B) (fv : V) (p : List Int → Bool) (es : List (List Int)) (g : Bool) (hes : es.length ≤ 1000000) (hH : ∀ bl ∈ H, rbB H.length bl) (hfv : rb H.length fv)
    (hp : ∀ m ∈ es, WCall Tryz.prog fv [L1 false m] H fun r H' => r = .bool (p m) ∧ H' = H) : ConH Tryz.prog 95 [LL g es, fv] H fun r H' => r = .int .i64 (ixF p es 0) ∧ H' = H := by
  refine conH_of_W tok Tryz.func95 rfl rfl ?_
  refine W_x tok mixed ?_
  simp -implicitDefEqProofs -dsimp [Tryz.f95, List.replicate, LL]
  refine lw_of (W_loopV [false, false, false, false, true, true, false, false, true, true, true, true, true, true, true, true, true, true, true] (σ := Nat) (fun i => ixF p es i = ixF p es 0) (fun i => es.length - i) (fun i => [(8, .int .i64 i)]) (fun _ => H) 0 rfl (by simp) rfl (by simp) ?_)
  intro i hx N Q hN hQ
  by_cases hb : i < es.length
  · rw [ixF, dif_pos hb] at hx
    have hc := hp es[i] (List.getElem_mem hb)
    cases hq : p es[i]
    · rw [hq] at hc hx
      refine W_x tok mixed ?_
      simp -implicitDefEqProofs -dsimp [hb]
      refine hc.mono ?_
      rintro r H' ⟨rfl, rfl⟩
      simp -implicitDefEqProofs -dsimp [wrapS i (by omega)]
      refine hN (i + 1) _ _ (by simpa using hx) (by omega) (by simp) ⟨[], by simp⟩ (by simp; exact hfv) hH
    · rw [hq] at hc hx
      refine W_x tok mixed ?_
      simp -implicitDefEqProofs -dsimp [hb]
      refine hc.mono ?_
      rintro r H' ⟨rfl, rfl⟩
      simp -implicitDefEqProofs -dsimp []
      refine hQ _ _ _ ?_
      simp -implicitDefEqProofs -dsimp []
      simpa using hx
  · rw [ixF, dif_neg hb] at hx
    refine W_x tok mixed ?_
    simp -implicitDefEqProofs -dsimp [hb]
    refine hQ _ _ _ ?_
    simp -implicitDefEqProofs -dsimp []
    simpa using hx
set_option maxHeartbeats 4000000 in
theorem contFunc (H : List B) (fv : V) (p : List Int → Bool) (es : List (List Int)) (g : Bool) (hes : es.length ≤ 1000000) (hH : ∀ bl ∈ H, rbB H.length bl) (hfv : rb H.length fv)
    (hp : ∀ m ∈ es, WCall Tryz.prog fv [L1 false m] H fun r H' => r = .bool (p m) ∧ H' = H) : ConH Tryz.prog 50 [LL g es, fv] H fun r H' => r = .bool (es.any p) ∧ H' = H := by
  have h0 := ixF_any p es 0
  rw [List.drop_zero] at h0
  have hc := idxFunc H fv p es g hes hH hfv hp
  refine conH_of_W tok Tryz.func50 rfl rfl ?_
  refine W_x tok mixed ?_
  simp -implicitDefEqProofs -dsimp [Tryz.f50, List.replicate]
  refine (show WCall Tryz.prog (.fn 95 []) _ H _ from by simpa [WCall] using hc).mono ?_
  rintro r H' ⟨rfl, rfl⟩
  simp -implicitDefEqProofs -dsimp []
  rw [← h0]
def indC (vs : List Int) (es : List (List Int)) (l : List Int) : Bool := asc l && contB vs l && !(es.any fun m => contB l m)
set_option maxHeartbeats 8000000 in
theorem indep_c (vs : List Int) (es : List (List Int)) (l : List Int) (f g f2 : Bool) (hs : Small vs es) (hl : l.length ≤ 1000000) : ConP Tryz.prog 17 [encH f g vs es, L1 f2 l] fun r => r = .bool (indC vs es l) := by
  obtain ⟨hv, he, hes⟩ := hs
  have hclo : ∀ m ∈ es, WCall Tryz.prog (.fn 51 [.ptr 1 0]) [L1 false m] [B.cells [L1 f vs, LL g es], B.cells [L1 f2 l]] fun r H' => r = .bool (contB l m) ∧ H' = [B.cells [L1 f vs, LL g es], B.cells [L1 f2 l]] := fun m hm => by
    have hc := cont_c l m f2 false hl (hes m hm)
    simp only [WCall, List.cons_append, List.nil_append]
    refine conH_of_W tok Tryz.func51 rfl rfl ?_
    refine W_x tok mixed ?_
    simp -implicitDefEqProofs -dsimp [Tryz.f51, List.replicate]
    refine (callP (hc) (by simp)).mono ?_
    rintro r H' ⟨rfl, rfl⟩
    simp -implicitDefEqProofs -dsimp []
  have hcf := contFunc [B.cells [L1 f vs, LL g es], B.cells [L1 f2 l]] (.fn 51 [.ptr 1 0]) (fun m => contB l m) es g he (by simp [L1, LL, encI]) (by simp) hclo
  have hca := asc_c l f2 hl
  have hcc := cont_c vs l f f2 hv hl
  refine conP_of_conH (conH_of_W tok Tryz.func17 rfl rfl ?_)
  refine W_x tok mixed ?_
  simp -implicitDefEqProofs -dsimp [Tryz.f17, List.replicate, encH, L1]
  refine (callP (hca) (by simp)).mono ?_
  rintro r H' ⟨rfl, rfl⟩
  cases h1 : asc l
  · simp -implicitDefEqProofs -dsimp [L1]
    simp [indC, h1]
  · simp -implicitDefEqProofs -dsimp [L1]
    refine (callP (hcc) (by simp)).mono ?_
    rintro r H' ⟨rfl, rfl⟩
    cases h2 : contB vs l
    · simp -implicitDefEqProofs -dsimp [L1]
      simp [indC, h2]
    · simp -implicitDefEqProofs -dsimp [L1]
      refine WCall.mono (K := fun r H' => r = .bool (es.any fun m => contB l m) ∧ H' = [B.cells [L1 f vs, LL g es], B.cells [L1 f2 l]]) hcf ?_
      rintro r H' ⟨rfl, rfl⟩
      simp -implicitDefEqProofs -dsimp [L1]
      simp [indC, h1, h2]
def freeR (es : List (List Int)) (l : List Int) : Bool := es.all fun e => !within e l
set_option maxHeartbeats 8000000 in
theorem free_r (vs : List Int) (es : List (List Int)) (l : List Int) (f g f2 : Bool) (hs : Small vs es) (hl : l.length ≤ 1000000) : ConP Tryz.prog 54 [encH f g vs es, L1 f2 l] fun r => r = .bool (freeR es l) := by
  obtain ⟨hv, he, hes⟩ := hs
  refine conP_of_conH (conH_of_W tok Tryz.func54 rfl rfl ?_)
  refine W_x tok mixed ?_
  simp -implicitDefEqProofs -dsimp [Tryz.f54, List.replicate, encH, LL]
  refine lw_of (W_loopV [false, false, false, false, true, true, true, true, true, true, true, true, true, true, true, true, true, true, true, true] (σ := Nat) (fun i => freeR (es.drop i) l = freeR es l) (fun i => es.length - i) (fun i => [(5, .int .i64 i)]) (fun _ => [B.cells [L1 f vs, LL g es]]) 0 rfl (by simp) (by simp [LL]) (by simp) ?_)
  intro i hx N Q hN hQ
  by_cases hb : i < es.length
  · rw [List.drop_eq_getElem_cons hb] at hx
    have hx' : (!within es[i] l && freeR (es.drop (i + 1)) l) = freeR es l := hx
    have hc := within37 es[i] l false f2 (hes es[i] (List.getElem_mem hb)) hl
    cases hq : within es[i] l
    · rw [hq] at hx' hc
      refine W_x tok mixed ?_
      simp -implicitDefEqProofs -dsimp [LL, hb]
      refine (callP (hc) (by simp)).mono ?_
      rintro r H' ⟨rfl, rfl⟩
      simp -implicitDefEqProofs -dsimp [wrapS i (by omega)]
      refine hN (i + 1) _ _ (by simpa using hx') (by omega) ?_ ⟨[], ?_⟩ ?_ ?_ <;> simp [or_imp, forall_and, L1, encI, LL]
    · rw [hq] at hx' hc
      refine W_x tok mixed ?_
      simp -implicitDefEqProofs -dsimp [LL, hb]
      refine (callP (hc) (by simp)).mono ?_
      rintro r H' ⟨rfl, rfl⟩
      simp -implicitDefEqProofs -dsimp []
      refine hQ _ _ _ ?_
      simp -implicitDefEqProofs -dsimp []
      simpa using hx'
  · rw [List.drop_of_length_le (by omega)] at hx
    refine W_x tok mixed ?_
    simp -implicitDefEqProofs -dsimp [LL, hb]
    refine hQ _ _ _ ?_
    simp -implicitDefEqProofs -dsimp []
    simpa [freeR] using hx
def indR (vs : List Int) (es : List (List Int)) (l : List Int) : Bool := asc l && within l vs && freeR es l
set_option maxHeartbeats 8000000 in
theorem indep_r (vs : List Int) (es : List (List Int)) (l : List Int) (f g f2 : Bool) (hs : Small vs es) (hl : l.length ≤ 1000000) : ConP Tryz.prog 19 [encH f g vs es, L1 f2 l] fun r => r = .bool (indR vs es l) := by
  have hs' := hs
  obtain ⟨hv, he, hes⟩ := hs
  have hca := asc_r l f2 hl
  have hcw := within37 l vs f2 f hl hv
  have hcf := free_r vs es l f g f2 hs' hl
  simp only [encH] at hcf
  refine conP_of_conH (conH_of_W tok Tryz.func19 rfl rfl ?_)
  refine W_x tok mixed ?_
  simp -implicitDefEqProofs -dsimp [Tryz.f19, List.replicate, encH]
  refine (callP (hca) (by simp)).mono ?_
  rintro r H' ⟨rfl, rfl⟩
  cases h1 : asc l
  · simp -implicitDefEqProofs -dsimp []
    simp [indR, h1]
  · simp -implicitDefEqProofs -dsimp []
    refine (callP (hcw) (by simp)).mono ?_
    rintro r H' ⟨rfl, rfl⟩
    cases h2 : within l vs
    · simp -implicitDefEqProofs -dsimp []
      simp [indR, h2]
    · simp -implicitDefEqProofs -dsimp []
      refine (callP (hcf) (by simp)).mono ?_
      rintro r H' ⟨rfl, rfl⟩
      simp -implicitDefEqProofs -dsimp []
      simp [indR, h1, h2]
end Go.Proofs.YtfaleabndlcanaaGreatDoor
