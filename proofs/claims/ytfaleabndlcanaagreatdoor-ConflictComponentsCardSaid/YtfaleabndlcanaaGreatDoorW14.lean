/- W14: Maximal of both sides. Expanded by pp.py. -/
import Derived.Test.YtfaleabndlcanaaGreatDoorW13
import Derived.Test.YtfaleabndlcanaaGreatDoorPl3
import Derived.Test.YtfaleabndlcanaaGreatDoorAMi
set_option linter.unusedSimpArgs false
set_option maxRecDepth 100000
namespace Go.Proofs.YtfaleabndlcanaaGreatDoor
open Go Go.AM
def okM (vs : List Int) (es : List (List Int)) (l : List Int) (v : Int) : Bool := bsF l v || !indC vs es (insB l v)
theorem insB_len (l : List Int) (v : Int) : (insB l v).length = l.length + 1 := by simp [insB]; omega
set_option maxHeartbeats 16000000 in
theorem maximal_c (vs : List Int) (es : List (List Int)) (l : List Int) (f g f2 : Bool) (hs : Small vs es) (hl : l.length ≤ 999999) : ConP Tryz.prog 20 [encH f g vs es, L1 f2 l] fun r => r = .bool (maxC vs es l) := by
  have hs' := hs
  obtain ⟨hv, he, hes⟩ := hs
  have hci := indep_c vs es l f g f2 hs' (by omega)
  have hmx : maxC vs es l = (indC vs es l && vs.all (okM vs es l)) := rfl
  simp only [encH] at hci
  refine conP_of_conH (conH_of_W tok Tryz.func20 rfl rfl ?_)
  refine W_x tok mixed ?_
  simp -implicitDefEqProofs -dsimp [Tryz.f20, List.replicate, encH, L1]
  refine (callP (hci) (by simp)).mono ?_
  rintro r H' ⟨rfl, rfl⟩
  cases h1 : indC vs es l
  · rw [h1] at hmx
    simp -implicitDefEqProofs -dsimp [L1]
    simpa using hmx
  · rw [h1, Bool.true_and] at hmx
    simp -implicitDefEqProofs -dsimp [L1]
    refine lw_of (W_loopV [false, false, false, false, true, false, true, true, true, false, false, false, false, false, false, false, true, true, true, true, true, true, true, true, true, true, true, true, true, true, true, true, true, true, true, true, true, true, true] (σ := Nat) (fun i => (vs.drop i).all (okM vs es l) = maxC vs es l) (fun i => vs.length - i) (fun i => [(16, .int .i64 i)]) (fun _ => [B.cells [L1 f vs, LL g es]]) 0 (by simpa using hmx.symm) (by simp) (by simp [L1]) (by simp) ?_)
    intro i hx N Q hN hQ
    by_cases hb : i < vs.length
    · rw [all_drop _ _ _ hb] at hx
      have hcb := bsearch64 l vs[i] f2 (by omega)
      have hple := (bsI_le l vs[i] 0 l.length (by omega)).2
      cases h2 : bsF l vs[i]
      · have hok : okM vs es l vs[i] = !indC vs es (insB l vs[i]) := by simp [okM, h2]
        rw [hok] at hx
        rw [h2] at hcb
        have hlen := insB_len l vs[i]
        have hcj := indep_c vs es (insB l vs[i]) f g false hs' (by omega)
        refine W_x tok mixed ?_
        simp -implicitDefEqProofs -dsimp [hb, encI, L1]
        refine (callP (hcb) (by simp)).mono ?_
        rintro r H' ⟨rfl, rfl⟩
        simp -implicitDefEqProofs -dsimp [L1]
        refine .inl (lw_of (W_drawT tok mixed [5, 9] [(3, [1, 2]), (8, [0])] [(.buf 1 0 l.length l.length, [B.cells [L1 f vs, LL g es], .buf 2 1 (l.map encI) false]), (.buf 1 0 (l.length + 1) (l.length + 1), [B.cells [L1 f vs, LL g es], .buf 2 1 ((insB l vs[i]).map encI) false]), (.bool (indC vs es (insB l vs[i])), [])] (by kernel_rfl) fun C K hC hK => ?_))
        simp -implicitDefEqProofs [L1]
        refine ⟨⟨hC _ _ _ _ ?_, hC _ _ _ _ ?_, hC _ _ _ _ ?_⟩, hK _ _ ?_⟩
        · refine (callO (clone64 l f2 (by omega)) (by simp [L1])).mono ?_
          rintro r H' ⟨e, z, xs, rfl, rfl, _, rfl, rfl, rfl⟩
          exact ⟨by simp, by simp [L1]⟩
        · have hin := ins_con [B.cells [L1 f vs, LL g es], B.buf 2 1 (l.map encI) false] 1 (l.map encI) (bsP l vs[i]) true (.int .i64 vs[i]) rfl (by rw [List.length_map]; exact hple) (by simp; omega)
          simp only [List.length_map] at hin
          refine WCall.mono (K := fun r H' => r = V.buf 1 0 (l.length + 1) (l.length + 1) ∧ H' = [B.cells [L1 f vs, LL g es], B.buf 2 1 (l.map encI) false].set 1 (.buf 2 1 ((l.map encI).take (bsP l vs[i]) ++ .int .i64 vs[i] :: (l.map encI).drop (bsP l vs[i])) false)) hin ?_
          rintro r H' ⟨rfl, rfl⟩
          exact ⟨rfl, by simp [insB, encI, L1]⟩
        · refine callX hcj rfl (fun i a a' ha ha' => ?_) (.bool _)
          match i with
          | 0 => simp at ha ha'; subst ha; subst ha'; exact .pure _ (by simp [L1])
          | 1 => simp at ha ha'; subst ha; subst ha'; exact exp_buf rfl (by simp [hlen]) (by simp [encI])
          | i + 2 => simp at ha
        · cases h3 : indC vs es (insB l vs[i])
          · rw [h3] at hx
            simp -implicitDefEqProofs -dsimp [wrapS i (by omega), L1]
            refine hN (i + 1) _ _ (by simpa using hx) (by omega) ?_ ⟨[.buf 2 1 ((insB l vs[i]).map encI) false], ?_⟩ ?_ ?_ <;> simp [or_imp, forall_and, L1, encI, LL]
          · rw [h3] at hx
            simp -implicitDefEqProofs -dsimp [L1]
            refine hQ _ _ _ ?_
            simp -implicitDefEqProofs -dsimp [L1]
            simpa using hx
      · have hok : okM vs es l vs[i] = true := by simp [okM, h2]
        rw [hok, Bool.true_and] at hx
        rw [h2] at hcb
        refine W_x tok mixed ?_
        simp -implicitDefEqProofs -dsimp [hb, encI, L1]
        refine (callP (hcb) (by simp)).mono ?_
        rintro r H' ⟨rfl, rfl⟩
        simp -implicitDefEqProofs -dsimp [L1]
        refine .inr ⟨stop_of (by kernel_rfl), ?_⟩
        simp -implicitDefEqProofs -dsimp [wrapS i (by omega), L1]
        refine hN (i + 1) _ _ hx (by omega) ?_ ⟨[], ?_⟩ ?_ ?_ <;> simp [or_imp, forall_and, L1, encI, LL]
    · rw [List.drop_of_length_le (by omega)] at hx
      refine W_x tok mixed ?_
      simp -implicitDefEqProofs -dsimp [hb, L1]
      refine hQ _ _ _ ?_
      simp -implicitDefEqProofs -dsimp [L1]
      simpa using hx
def okR (es : List (List Int)) (l : List Int) (v : Int) : Bool := memB l v || !freeR es (l ++ [v])
set_option maxHeartbeats 16000000 in
theorem maximal_r (vs : List Int) (es : List (List Int)) (l : List Int) (f g f2 : Bool) (hs : Small vs es) (hl : l.length ≤ 999999) : ConP Tryz.prog 21 [encH f g vs es, L1 f2 l] fun r => r = .bool (maxR vs es l) := by
  have hs' := hs
  obtain ⟨hv, he, hes⟩ := hs
  have hci := indep_r vs es l f g f2 hs' (by omega)
  have hmx : maxR vs es l = (indR vs es l && vs.all (okR es l)) := rfl
  simp only [encH] at hci
  refine conP_of_conH (conH_of_W tok Tryz.func21 rfl rfl ?_)
  refine W_x tok mixed ?_
  simp -implicitDefEqProofs -dsimp [Tryz.f21, List.replicate, encH, L1]
  refine (callP (hci) (by simp)).mono ?_
  rintro r H' ⟨rfl, rfl⟩
  cases h1 : indR vs es l
  · rw [h1] at hmx
    simp -implicitDefEqProofs -dsimp [L1]
    simpa using hmx
  · rw [h1, Bool.true_and] at hmx
    simp -implicitDefEqProofs -dsimp [L1]
    refine lw_of (W_loopV [false, false, false, false, true, true, false, false, false, false, true, true, true, true, true, true, true, true, true, true, true, true, true, true, true, true, true, true, true, true, true, true, true, true, true, true, true, true, true] (σ := Nat) (fun i => (vs.drop i).all (okR es l) = maxR vs es l) (fun i => vs.length - i) (fun i => [(5, .int .i64 i)]) (fun _ => [B.cells [L1 f vs, LL g es]]) 0 (by simpa using hmx.symm) (by simp) (by simp [L1]) (by simp) ?_)
    intro i hx N Q hN hQ
    by_cases hb : i < vs.length
    · rw [all_drop _ _ _ hb] at hx
      have hch := has37 l vs[i] f2 (by omega)
      cases h2 : memB l vs[i]
      · have hok : okR es l vs[i] = !freeR es (l ++ [vs[i]]) := by simp [okR, h2]
        rw [hok] at hx
        rw [h2] at hch
        have hcj := free_r vs es (l ++ [vs[i]]) f g false hs' (by simp; omega)
        cases l with
        | nil =>
          refine W_x tok mixed ?_
          simp -implicitDefEqProofs -dsimp [hb, encI, L1]
          refine lw_of (W_drawT tok mixed [12, 19] [(9, [1, 2]), (13, [0]), (14, [0]), (15, [0]), (16, [0]), (17, [0]), (18, [0])] [(.bool false, []), (.bool (freeR es ([] ++ [vs[i]])), [])] (by kernel_rfl) fun C K hC hK => ?_)
          simp -implicitDefEqProofs [hb, encI, L1]
          refine ⟨⟨hC _ _ _ _ (callP hch (by simp [L1])), hC _ _ _ _ (callX hcj rfl (fun i a a' ha ha' => ?_) (.bool _))⟩, hK _ _ ?_⟩
          · match i with
            | 0 => simp at ha ha'; subst ha; subst ha'; exact .pure _ (by simp [L1])
            | 1 => simp at ha ha'; subst ha; subst ha'; exact exp_buf rfl (by simp) (by simp [encI])
            | i + 2 => simp at ha
          · cases h3 : freeR es ([] ++ [vs[i]])
            · rw [h3] at hx
              simp only [List.nil_append, List.cons_append] at h3
              simp -implicitDefEqProofs -dsimp [h3, wrapS i (by omega), L1]
              refine hN (i + 1) _ _ (by simpa using hx) (by omega) ?_ ⟨[.buf 2 1 [.int .i64 vs[i]] false], ?_⟩ ?_ ?_ <;> simp [or_imp, forall_and, L1, encI, LL]
            · rw [h3] at hx
              simp only [List.nil_append, List.cons_append] at h3
              simp -implicitDefEqProofs -dsimp [h3, L1]
              refine hQ _ _ _ ?_
              simp -implicitDefEqProofs -dsimp [L1]
              simpa using hx
        | cons y ys =>
          refine W_x tok mixed ?_
          simp -implicitDefEqProofs -dsimp [hb, encI, L1]
          refine lw_of (W_drawT tok mixed [12, 19] [(9, [1, 2]), (13, [0]), (14, [0]), (15, [0]), (16, [0]), (17, [0]), (18, [0])] [(.bool false, []), (.bool (freeR es (y :: ys ++ [vs[i]])), [])] (by kernel_rfl) fun C K hC hK => ?_)
          simp -implicitDefEqProofs [hb, encI, cap8 ys.length (by simp at hl; omega), cap8 (ys.length + 1) (by simp at hl; omega), show ys.length ≤ 9223372036854775805 by simp at hl; omega, L1]
          refine ⟨⟨hC _ _ _ _ (callP hch (by simp [L1])), hC _ _ _ _ (callX hcj rfl (fun i a a' ha ha' => ?_) (.bool _))⟩, hK _ _ ?_⟩
          · match i with
            | 0 => simp at ha ha'; subst ha; subst ha'; exact .pure _ (by simp [L1])
            | 1 => simp at ha ha'; subst ha; subst ha'; exact exp_buf (e := 2) (fz := false) (by simp [encI]) (by simp) (by simp [encI, or_imp, forall_and])
            | i + 2 => simp at ha
          · cases h3 : freeR es (y :: ys ++ [vs[i]])
            · rw [h3] at hx
              simp only [List.nil_append, List.cons_append] at h3
              simp -implicitDefEqProofs -dsimp [h3, wrapS i (by omega), L1]
              refine hN (i + 1) _ _ (by simpa using hx) (by omega) ?_ ⟨[.buf 2 1 (.int .i64 y :: (ys.map encI ++ [.int .i64 vs[i]])) false], ?_⟩ ?_ ?_ <;> simp [or_imp, forall_and, L1, encI, LL]
            · rw [h3] at hx
              simp only [List.nil_append, List.cons_append] at h3
              simp -implicitDefEqProofs -dsimp [h3, L1]
              refine hQ _ _ _ ?_
              simp -implicitDefEqProofs -dsimp [L1]
              simpa using hx
      · have hok : okR es l vs[i] = true := by simp [okR, h2]
        rw [hok, Bool.true_and] at hx
        rw [h2] at hch
        refine W_x tok mixed ?_
        simp -implicitDefEqProofs -dsimp [hb, encI, L1]
        refine lw_of (W_drawS tok mixed [] [12, 19] [] [(.bool true, [])] (by kernel_rfl) fun C K hC hK => ?_)
        simp -implicitDefEqProofs [hb, encI, L1]
        refine ⟨hC _ _ _ _ (callP hch (by simp [L1])), hK _ _ ?_⟩
        simp -implicitDefEqProofs -dsimp [wrapS i (by omega), L1]
        refine hN (i + 1) _ _ hx (by omega) ?_ ⟨[], ?_⟩ ?_ ?_ <;> simp [or_imp, forall_and, L1, encI, LL]
    · rw [List.drop_of_length_le (by omega)] at hx
      refine W_x tok mixed ?_
      simp -implicitDefEqProofs -dsimp [hb, L1]
      refine hQ _ _ _ ?_
      simp -implicitDefEqProofs -dsimp [L1]
      simpa using hx
end Go.Proofs.YtfaleabndlcanaaGreatDoor
