/- W22: the law ConflictComponents. Expanded by pp.py. -/
import Derived.Test.YtfaleabndlcanaaGreatDoorW21
import Derived.Test.YtfaleabndlcanaaGreatDoorW14
import Derived.Test.YtfaleabndlcanaaGreatDoorC4
set_option linter.unusedSimpArgs false
set_option maxRecDepth 100000
namespace Go.Proofs.YtfaleabndlcanaaGreatDoor
open Go Go.AM
theorem exp_hl {H : List B} {k e : Nat} {G : List Int} {fz : Bool} {x : V} (hk : H[k]? = some (.buf e 1 (G.map encI) fz)) (hx : AM.Pure x) :
    ∀ (i : Nat) a a', [x, V.buf k 0 G.length G.length][i]? = some a → [x, L1 false G][i]? = some a' → Exp H a a' := fun i a a' ha ha' => by
  match i with
  | 0 => simp at ha ha'; subst ha; subst ha'; exact .pure _ hx
  | 1 => simp at ha ha'; subst ha; subst ha'; exact exp_buf hk (by simp) (by simp)
  | i + 2 => simp at ha
set_option maxHeartbeats 16000000 in
theorem lawComponents (n : Int) (cs : List Int) (s : Int) (f : Bool) (hn : 0 ≤ n) (hn2 : n < 256) (hcs : cs.length ≤ 9223372036854775807) : ConP Tryz.prog 10 [encG f n cs, .int .u8 s] fun r => r = .bool true := by
  have hs := hyp_small n cs hn
  have hva := hypV_asc n
  have hvl := hypV_len n hn
  have hsub : ∀ e ∈ hypE n cs, ∀ x ∈ e, x ∈ hypV n := fun e he x hx => (hypE_mem he).1.subset hx
  have hne : ∀ e ∈ hypE n cs, e ≠ [] := fun e he => (hypE_mem he).2.1
  have hS := pickF_sub (hypV n) s
  have hc := hyper37 n cs f hn hn2 hcs
  generalize hypV n = vs at *
  generalize hypE n cs = es at *
  have hpk := pick37 vs es s false false hs
  have hcc := comps_c vs es false false hs (by omega) hva hsub hne
  have hcr := comps_r vs es false false hs (by omega) hsub hne
  have e1 : compsC vs es = compsTo vs es vs.length := compsC_eq hva hsub hne
  have e2 : compsR vs es = compsTo vs es vs.length := (stR_ok hsub vs.length (Nat.le_refl _)).2.1
  rw [e1] at hcc
  rw [e2] at hcr
  have hCl := compsTo_len vs es vs.length
  have hind := ind_split (es := es) hva hsub hne hS
  have hmax := max_split (es := es) hva hsub hne hS
  have hCi := compsTo_is vs es vs.length (Nat.le_refl _)
  generalize compsTo vs es vs.length = CS at hcc hcr hCl hind hmax hCi
  generalize pickF vs s = S at hpk hS hind hmax
  have hSl : S.length ≤ 8 := Nat.le_trans hS.length_le hvl
  have hi1 := indep_c vs es S false false false hs (by omega)
  have hm1 := maximal_c vs es S false false false hs (by omega)
  rw [ind_eq hva es S, hind] at hi1
  rw [max_eq hva es S, hmax] at hm1
  have hA := fun (p : Cm → Bool) (i : Nat) (h : i < CS.length) => show (CS.take (i + 1)).all p = ((CS.take i).all p && p CS[i]) by
    rw [List.take_succ_eq_append_getElem h, List.all_append]; simp
  simp only [encG, encH] at hc hcc hcr hi1 hm1 hpk
  have hpc : (∀ x, x ∈ CS.map encC → AM.Pure x) ↔ True := iff_true_intro fun x hx => by
    obtain ⟨p, _, rfl⟩ := List.mem_map.1 hx
    exact encC_pure p
  refine conP_of_conH (conH_of_W tok Tryz.func10 rfl rfl ?_)
  refine W_x tok mixed ?_
  simp -implicitDefEqProofs -dsimp [Tryz.f10, List.replicate, encG, L1]
  refine (callP (hc) (by simp)).mono ?_
  rintro r H' ⟨rfl, rfl⟩
  simp -implicitDefEqProofs -dsimp [LL, L1]
  refine (callP (awake_con) (by simp)).mono ?_
  rintro r H' ⟨rfl, rfl⟩
  by_cases h12 : cs.length ≤ 12
  · simp -implicitDefEqProofs -dsimp [h12, L1]
    refine (callP (hcc) (by simp)).mono ?_
    rintro r H' ⟨rfl, rfl⟩
    simp -implicitDefEqProofs -dsimp [L1]
    refine (callP (hcr) (by simp)).mono ?_
    rintro r H' ⟨rfl, rfl⟩
    simp -implicitDefEqProofs -dsimp [L1]
    refine (callP (hpk) (by simp)).mono ?_
    rintro r H' ⟨rfl, rfl⟩
    simp -implicitDefEqProofs -dsimp [L1]
    obtain ⟨I, hI⟩ : ∃ I : Cm → Bool, I = fun c => indR c.1 c.2 (partS c.1 S) := ⟨_, rfl⟩
    obtain ⟨M, hM⟩ : ∃ M : Cm → Bool, M = fun c => maxR c.1 c.2 (partS c.1 S) := ⟨_, rfl⟩
    rw [← hI] at hi1
    rw [← hM] at hm1
    refine lw_of (W_loopV [false, false, false, false, true, false, false, false, false, false, true, true, true, true, true, false, true, true, false, true, false, false, false, false, false, false, false, false, false, false, false, false, false, false, false, false, false, false, false, false, false, false, false, true, true, true, true, true, true, true, true, true, true, true, true, true, true, true, true, true, true, true, true, true, true, true, true, true, true, true, true, true, true, true, true, true, true, true, true, true, true, true, true] (σ := Nat) (fun i => i ≤ CS.length) (fun i => CS.length - i) (fun i => [(43, .int .i64 i), (10, .bool ((CS.take i).all I)), (11, .bool ((CS.take i).all M))]) (fun i => [B.cells [.int .u8 n, .lst 1 f (cs.map encU)], B.cells [L1 false vs, LL false es]]) 0 (by omega) (by simp) (by simp [L1, LL]) (by simp) ?_)
    intro i hi N Q hN hQ
    obtain ⟨b1, hb1⟩ : ∃ b, b = (CS.take i).all I := ⟨_, rfl⟩
    obtain ⟨b2, hb2⟩ : ∃ b, b = (CS.take i).all M := ⟨_, rfl⟩
    rw [← hb1, ← hb2]
    by_cases hb : i < CS.length
    · have h1 := hA I i hb
      have h2 := hA M i hb
      obtain ⟨v, hv, hcv⟩ := hCi CS[i] (List.getElem_mem hb)
      obtain ⟨cv, hcv1⟩ : ∃ cv, cv = conV vs es v := ⟨_, rfl⟩
      obtain ⟨ce, hce1⟩ : ∃ ce, ce = conE es v := ⟨_, rfl⟩
      have hvs : cv.Sublist vs := by rw [hcv1]; exact List.filter_sublist
      have hcl : cv.length ≤ 8 := Nat.le_trans hvs.length_le hvl
      have hces : ∀ e ∈ ce, e ∈ es := fun e he => by rw [hce1] at he; exact (conE_mem.1 he).1
      have hcel : ce.length ≤ es.length := by rw [hce1]; exact List.length_filter_le _ _
      have hsm : Small cv ce := ⟨by omega, Nat.le_trans hcel hs.2.1, fun e he => hs.2.2 e (hces e he)⟩
      have hca : asc cv = true := asc_sub hvs hva
      rw [← hcv1, ← hce1] at hcv
      rw [hcv, ← hb1] at h1
      rw [hcv, ← hb2] at h2
      have hsame := same37 cv cv ce ce false false false false hsm hsm
      simp only [decide_true, Bool.and_self, encH] at hsame
      have hpl := partS_len cv S S.length
      rw [List.take_length] at hpl
      have hci := indep_c cv ce (partS cv S) false false false hsm (by omega)
      have hcm := maximal_c cv ce (partS cv S) false false false hsm (by omega)
      rw [ind_eq hca ce (partS cv S), show indR cv ce (partS cv S) = I (cv, ce) by rw [hI]] at hci
      rw [max_eq hca ce (partS cv S), show maxR cv ce (partS cv S) = M (cv, ce) by rw [hM]] at hcm
      refine W_x tok mixed ?_
      simp -implicitDefEqProofs -dsimp [hb, hcv, encC, encH, LL, L1]
      refine .inr ⟨stop_of (by kernel_rfl), ?_⟩
      refine cy_of _ (callP (hsame) (by simp)) ?_
      simp -implicitDefEqProofs -dsimp [L1]
      refine lw_of (W_own 2 1 [14] (by simp) (W_loopV [false, false, false, false, false, false, false, false, false, false, false, false, false, false, true, false, true, false, false, false, false, false, false, false, false, false, false, false, false, false, false, false, false, false, false, false, false, false, false, false, false, false, false, false, false, false, false, false, false, false, false, false, false, false, false, false, false, true, true, true, true, true, true, true, true, true, true, true, true, true] (σ := Nat) (fun k => k ≤ S.length) (fun k => S.length - k) (fun k => [(57, .int .i64 k), (14, .buf 3 0 (partS cv (S.take k)).length (partS cv (S.take k)).length)]) (fun k => [B.cells [.int .u8 n, .lst 1 f (cs.map encU)], B.cells [L1 false vs, LL false es], B.cells [L1 false cv, LL false ce], B.buf 2 1 ((partS cv (S.take k)).map encI) false]) 0 (by omega) (by simp [partS]) (by simp [L1, LL, partS]) (by simp) ?_))
      intro k hk N2 Q2 hN2 hQ2
      by_cases hkb : k < S.length
      · have hp := partS_take cv S k hkb
        have hpk2 := partS_len cv S k
        have hct := contains64 cv S[k] false (by omega)
        simp only [L1] at hct
        cases hm : memB cv S[k]
        · rw [hm] at hct hp
          refine W_x tok mixed ?_
          simp -implicitDefEqProofs -dsimp [hkb, encI, L1]
          refine (callP (hct) (by simp)).mono ?_
          rintro r H' ⟨rfl, rfl⟩
          simp -implicitDefEqProofs -dsimp [wrapS k (by omega), L1]
          refine hN2 (k + 1) _ _ (by omega) (by omega) ?_ ⟨[], ?_⟩ ?_ ?_ <;> simp [or_imp, forall_and, L1, encI, LL, hp, ↓hpc]
        · rw [hm] at hct hp
          refine W_x tok mixed ?_
          simp -implicitDefEqProofs -dsimp [hkb, encI, L1]
          refine (callP (hct) (by simp)).mono ?_
          rintro r H' ⟨rfl, rfl⟩
          simp -implicitDefEqProofs -dsimp [cap8 (partS cv (S.take k)).length (by omega), wrapS k (by omega), L1]
          refine hN2 (k + 1) _ _ (by omega) (by omega) ?_ ⟨[], ?_⟩ ?_ ?_ <;> simp [or_imp, forall_and, L1, encI, LL, hp, ↓hpc]
      · obtain rfl : k = S.length := by omega
        rw [List.take_length]
        have hci2 : WCall Tryz.prog (.fn 17 []) [encH false false cv ce, .buf 3 0 (partS cv S).length (partS cv S).length] [B.cells [.int .u8 n, .lst 1 f (cs.map encU)], B.cells [L1 false vs, LL false es], B.cells [L1 false cv, LL false ce], B.buf 2 1 ((partS cv S).map encI) false] fun r H' => r = .bool (I (cv, ce)) ∧ H' = [B.cells [.int .u8 n, .lst 1 f (cs.map encU)], B.cells [L1 false vs, LL false es], B.cells [L1 false cv, LL false ce], B.buf 2 1 ((partS cv S).map encI) false] := callX hci rfl (exp_hl rfl (encH_pure false false cv ce)) (.bool _)
        have hcm2 : WCall Tryz.prog (.fn 20 []) [encH false false cv ce, .buf 3 0 (partS cv S).length (partS cv S).length] [B.cells [.int .u8 n, .lst 1 f (cs.map encU)], B.cells [L1 false vs, LL false es], B.cells [L1 false cv, LL false ce], B.buf 2 1 ((partS cv S).map encI) false] fun r H' => r = .bool (M (cv, ce)) ∧ H' = [B.cells [.int .u8 n, .lst 1 f (cs.map encU)], B.cells [L1 false vs, LL false es], B.cells [L1 false cv, LL false ce], B.buf 2 1 ((partS cv S).map encI) false] := callX hcm rfl (exp_hl rfl (encH_pure false false cv ce)) (.bool _)
        cases b1 <;> cases b2
        · refine W_x tok mixed ?_
          simp -implicitDefEqProofs -dsimp [hkb, L1]
          refine hQ2 _ _ _ ?_
          simp -implicitDefEqProofs -dsimp [wrapS i (by omega), L1]
          refine hN (i + 1) _ _ (by omega) (by omega) ?_ ⟨[B.cells [L1 false cv, LL false ce], B.buf 2 1 ((partS cv S).map encI) false], ?_⟩ ?_ ?_ <;> simp [or_imp, forall_and, L1, encI, LL, h1, h2, ↓hpc]
        · refine W_x tok mixed ?_
          simp -implicitDefEqProofs -dsimp [hkb, L1]
          refine hQ2 _ _ _ ?_
          simp -implicitDefEqProofs -dsimp [LL, L1]
          refine hcm2.mono ?_
          rintro r H' ⟨rfl, rfl⟩
          simp -implicitDefEqProofs -dsimp [wrapS i (by omega), L1]
          refine hN (i + 1) _ _ (by omega) (by omega) ?_ ⟨[B.cells [L1 false cv, LL false ce], B.buf 2 1 ((partS cv S).map encI) false], ?_⟩ ?_ ?_ <;> simp [or_imp, forall_and, L1, encI, LL, h1, h2, ↓hpc]
        · refine W_x tok mixed ?_
          simp -implicitDefEqProofs -dsimp [hkb, L1]
          refine hQ2 _ _ _ ?_
          simp -implicitDefEqProofs -dsimp [LL, L1]
          refine hci2.mono ?_
          rintro r H' ⟨rfl, rfl⟩
          simp -implicitDefEqProofs -dsimp [wrapS i (by omega), L1]
          refine hN (i + 1) _ _ (by omega) (by omega) ?_ ⟨[B.cells [L1 false cv, LL false ce], B.buf 2 1 ((partS cv S).map encI) false], ?_⟩ ?_ ?_ <;> simp [or_imp, forall_and, L1, encI, LL, h1, h2, ↓hpc]
        · refine W_x tok mixed ?_
          simp -implicitDefEqProofs -dsimp [hkb, L1]
          refine hQ2 _ _ _ ?_
          simp -implicitDefEqProofs -dsimp [LL, L1]
          refine hci2.mono ?_
          rintro r H' ⟨rfl, rfl⟩
          simp -implicitDefEqProofs -dsimp [LL, L1]
          refine hcm2.mono ?_
          rintro r H' ⟨rfl, rfl⟩
          simp -implicitDefEqProofs -dsimp [wrapS i (by omega), L1]
          refine hN (i + 1) _ _ (by omega) (by omega) ?_ ⟨[B.cells [L1 false cv, LL false ce], B.buf 2 1 ((partS cv S).map encI) false], ?_⟩ ?_ ?_ <;> simp [or_imp, forall_and, L1, encI, LL, h1, h2, ↓hpc]
    · obtain rfl : i = CS.length := by omega
      rw [List.take_length] at hb1 hb2
      rw [← hb1] at hi1
      rw [← hb2] at hm1
      refine W_x tok mixed ?_
      simp -implicitDefEqProofs -dsimp [hb, L1]
      refine hQ _ _ _ ?_
      simp -implicitDefEqProofs -dsimp [LL, L1]
      refine (callP (hi1) (by simp)).mono ?_
      rintro r H' ⟨rfl, rfl⟩
      simp -implicitDefEqProofs -dsimp [eqA2, LL, L1]
      refine (callP (hm1) (by simp)).mono ?_
      rintro r H' ⟨rfl, rfl⟩
      simp -implicitDefEqProofs -dsimp [eqA2, L1]
  · simp -implicitDefEqProofs -dsimp [h12, L1]
    refine (callP (awake_con) (by simp)).mono ?_
    rintro r H' ⟨rfl, rfl⟩
    simp -implicitDefEqProofs -dsimp [L1]
end Go.Proofs.YtfaleabndlcanaaGreatDoor
