/- L9: the law ClusterLeast. Expanded by pp.py. -/
import Derived.Test.YtmjicfafjjgekaaB2
set_option linter.unusedSimpArgs false
set_option maxRecDepth 100000
namespace Go.Proofs.Ytmjicfafjjgekaa
open Go Go.AM Go.Dr
def encU (n : Int) : V := .int .u8 n
@[simp] theorem encU_pure (n : Int) : AM.Pure (encU n) := by simp [encU]
theorem ofL_w {ws : List Int} {N : Nat} (hw : ∀ x ∈ ws, -128 ≤ x ∧ x ≤ 127) : ∀ p ∈ ofL N ws, -128 ≤ p.x ∧ p.x ≤ 127 := by
  have step : ∀ (i k : Nat) (s : List P3 × Nat), (∀ p ∈ s.1, -128 ≤ p.x ∧ p.x ≤ 127) → ∀ p ∈ (ofStep ws i k s).1, -128 ≤ p.x ∧ p.x ≤ 127 := fun i k s h p hp => by
    simp only [ofStep] at hp
    split at hp
    · rename_i hc
      rcases List.mem_append.1 hp with hp | hp
      · exact h p hp
      · simp at hp
        subst hp
        have : ws.getD s.2 0 = ws[s.2]'hc.1 := by simp [List.getD_eq_getElem?_getD, hc.1]
        simp only
        have h2 := hw _ (List.getElem_mem hc.1)
        simpa [hc.1] using h2
    · exact h p hp
  have stepJ : ∀ (i : Nat) (s : List P3 × Nat), (∀ p ∈ s.1, -128 ≤ p.x ∧ p.x ≤ 127) → ∀ c, ∀ p ∈ (ofJ ws i s c).1, -128 ≤ p.x ∧ p.x ≤ 127 := fun i s h c => by
    induction c with
    | zero => exact h
    | succ c ih => exact step _ _ _ ih
  have stepI : ∀ i, ∀ p ∈ (ofI ws N i).1, -128 ≤ p.x ∧ p.x ≤ 127 := fun i => by
    induction i with
    | zero => intro p hp; simp [ofI] at hp
    | succ i ih => exact stepJ _ _ ih _
  exact stepI N
def othTo (ls : List Int) (N i : Nat) : List Int := (List.range N).map fun j => if j < i ∧ j < ls.length then (ls.getD j 0).tmod 8 else 0
theorem othTo_len (ls : List Int) (N i : Nat) : (othTo ls N i).length = N := by simp [othTo]
theorem othTo_zero (ls : List Int) (N : Nat) : (othTo ls N 0).map encI = List.replicate N (.int .i64 0) := by
  apply List.ext_getElem
  · simp [othTo]
  · intro i h1 h2; simp [othTo, encI]
theorem othTo_set (ls : List Int) (N i : Nat) (h : i < N) (hl : i < ls.length) : ((othTo ls N i).map encI).set i (.int .i64 (ls[i].tmod 8)) = (othTo ls N (i + 1)).map encI := by
  apply List.ext_getElem
  · simp [othTo]
  · intro k h1 h2
    rw [List.getElem_set]
    split
    · rename_i hk; subst hk; simp [othTo, encI, hl]
    · rename_i hk
      simp only [othTo, List.getElem_map, List.getElem_range]
      by_cases h3 : k < i
      · simp [h3, show k < i + 1 by omega]
      · simp [h3, show ¬ k < i + 1 by omega]
theorem othTo_keep (ls : List Int) (N i : Nat) (hl : ¬ i < ls.length) : othTo ls N (i + 1) = othTo ls N i := by
  unfold othTo
  refine List.map_congr_left fun j _ => ?_
  by_cases h3 : j < i ∧ j < ls.length
  · rw [if_pos h3, if_pos ⟨by omega, h3.2⟩]
  · rw [if_neg h3, if_neg (fun h => h3 ⟨by omega, h.2⟩)]
theorem exp_mid {H : List B} {k e : Nat} {G : List Int} {fz : Bool} {x y : V} (hk : H[k]? = some (.buf e 1 (G.map encI) fz)) (hx : AM.Pure x) (hy : AM.Pure y) :
    ∀ (i : Nat) a a', [x, y, V.buf k 0 G.length G.length][i]? = some a → [x, y, L1 false G][i]? = some a' → Exp H a a' := fun i a a' ha ha' => by
  match i with
  | 0 => simp at ha ha'; subst ha; subst ha'; exact .pure _ hx
  | 1 => simp at ha ha'; subst ha; subst ha'; exact .pure _ hy
  | 2 => simp at ha ha'; subst ha; subst ha'; exact exp_buf hk (by simp) (by simp)
  | i + 3 => simp at ha
theorem callCost {H : List B} (N : Nat) (ps : List P3) (xs : List Int) (f : Bool) (k e : Nat) (fz : Bool) (hv : valid N ps = 0) (hl : ps.length ≤ 100000) (hx : xs.length = N) (hN : N ≤ 10) (hk : H[k]? = some (.buf e 1 (xs.map encI) fz)) :
    WCall Try.prog (.fn 22 []) [.int .i64 N, LP f ps, .buf k 0 N N] H fun r H' => r = .tup [.int .i64 (costOf ps xs), .int .i64 0] ∧ H' = H := by
  have hc := cost_c N ps xs f false hl (by omega)
  rw [costR_ok hv (by omega)] at hc
  subst hx
  refine callX hc rfl (exp_mid hk (.int _ _) (LP_pure f ps)) (.tup _ (fun v hv => ?_))
  simp at hv
  rcases hv with rfl | rfl
  · exact .int _ _
  · exact .int _ _
set_option maxHeartbeats 16000000 in
theorem lawLeast_con (N : Nat) (ws ls : List Int) (b : Int) (f g : Bool) (hN : N ≤ 255) (hwf : ∀ x ∈ ws, -128 ≤ x ∧ x ≤ 127) (hlw : ∀ x ∈ ls, 0 ≤ x ∧ x ≤ 255) (hb0 : 0 ≤ b) (hb1 : b ≤ 255) :
    ConP Try.prog 8 [encR f N ws, .lst 1 g (ls.map encU), .int .u8 b] fun r => r = .bool true := by
  by_cases hN8 : N ≤ 8
  · have hof := of_yes54 N ws f hN8 hwf
    by_cases hbz : b = 0
    · simp only [encR] at hof
      refine conP_of_conH (conH_of_W tok Try.func8 rfl rfl ?_)
      refine W_x tok mixed ?_
      simp -implicitDefEqProofs -dsimp [Try.f8, List.replicate, encR]
      refine (callP (hof) (by simp)).mono ?_
      rintro r H' ⟨rfl, rfl⟩
      simp -implicitDefEqProofs -dsimp []
      refine (callP (awake_con) (by simp)).mono ?_
      rintro r H' ⟨rfl, rfl⟩
      simp -implicitDefEqProofs -dsimp [hbz]
      refine (callP (awake_con) (by simp)).mono ?_
      rintro r H' ⟨rfl, rfl⟩
      simp -implicitDefEqProofs -dsimp []
    · by_cases hb7 : 7 < b
      · simp only [encR] at hof
        refine conP_of_conH (conH_of_W tok Try.func8 rfl rfl ?_)
        refine W_x tok mixed ?_
        simp -implicitDefEqProofs -dsimp [Try.f8, List.replicate, encR]
        refine (callP (hof) (by simp)).mono ?_
        rintro r H' ⟨rfl, rfl⟩
        simp -implicitDefEqProofs -dsimp []
        refine (callP (awake_con) (by simp)).mono ?_
        rintro r H' ⟨rfl, rfl⟩
        simp -implicitDefEqProofs -dsimp [hbz, hb7]
        refine (callP (awake_con) (by simp)).mono ?_
        rintro r H' ⟨rfl, rfl⟩
        simp -implicitDefEqProofs -dsimp []
      · obtain ⟨hval, hpl⟩ := ofL_valid (n := N) hwf (by omega)
        have hpw := ofL_w (N := N) hwf
        have hgood : good N (ofL N ws) = true := by
          rcases valid_cases (N : Int) (ofL N ws) with h | h
          · rw [hval] at h; simp at h
          · exact h.2.2.2.2
        obtain ⟨ps, hps⟩ : ∃ ps, ps = ofL N ws := ⟨_, rfl⟩
        rw [← hps] at hof hval hpl hpw hgood
        have hsb := search_best hgood
        have hgood2 := scale_good (n := N) (b := b) (by omega) (by omega) hpw hgood
        have hsb2 := search_best hgood2
        have hsl : (scaleP b ps).length = ps.length := by simp [scaleP]
        have hval2 : valid N (scaleP b ps) = 0 := by
          unfold valid
          rw [if_neg (by omega), if_neg (by omega), if_pos hgood2]
        have hsc : ∀ x, costOf (scaleP b ps) x = b * costOf ps x := fun x => cost_scale b (by omega) x ps
        rw [bestOf_scale (costOf ps) (costOf (scaleP b ps)) b (by omega) hsc, hsc] at hsb2
        have hall : bestOf (costOf ps) (allN N) ∈ allN N := bestTo_mem _ (by have := allN_pos N; omega)
        have hleast := fun xs hxs => best_least (xs := xs) hgood hxs
        obtain ⟨bb, hbb⟩ : ∃ bb, bb = bestOf (costOf ps) (allN N) := ⟨_, rfl⟩
        rw [← hbb] at hsb hsb2 hall hleast
        have hbl : bb.length = N := (allN_ok N _ hall).1
        have hnf := nf_self hall
        have hbd := costOf_bd (n := N) (ps := ps) bb (good_all hgood)
        obtain ⟨L, hL⟩ : ∃ L, L = costOf ps bb := ⟨_, rfl⟩
        rw [← hL] at hsb hsb2 hleast hbd
        have hop := opt_c N ps false (by omega) hval (by omega)
        rw [hsb.1, hsb.2] at hop
        have hop2 := opt_c N (scaleP b ps) false (by omega) hval2 (by omega)
        rw [hsb2.1, hsb2.2] at hop2
        have hno := normal54 bb false (by omega)
        rw [hnf] at hno
        have heq := equal54 bb bb false false (by omega) (by omega)
        simp only [decide_true] at heq
        have hcr := cost_r N ps bb false false (by omega) (by omega)
        rw [costR_ok hval (by omega), ← hL] at hcr
        have hwb : IntKind.i64.wrap b = b := wrap64 (by omega) (by omega)
        have hLb : 0 ≤ L * b ∧ L * b ≤ 100000 * 7 := ⟨Int.mul_nonneg hbd.1 (by omega), Int.mul_le_mul (by omega) (by omega) (by omega) (by omega)⟩
        have hwL : IntKind.i64.wrap (L * b) = L * b := wrap64 (by omega) (by omega)
        have hLc : b * L = L * b := Int.mul_comm _ _
        rw [hLc] at hop2
        simp only [encR] at hof
        refine conP_of_conH (conH_of_W tok Try.func8 rfl rfl ?_)
        refine W_x tok mixed ?_
        simp -implicitDefEqProofs -dsimp [Try.f8, List.replicate, encR]
        refine (callP (hof) (by simp)).mono ?_
        rintro r H' ⟨rfl, rfl⟩
        simp -implicitDefEqProofs -dsimp []
        refine (callP (awake_con) (by simp)).mono ?_
        rintro r H' ⟨rfl, rfl⟩
        simp -implicitDefEqProofs -dsimp [hbz, hb7]
        refine (callP (hop) (by simp)).mono ?_
        rintro r H' ⟨rfl, rfl⟩
        simp -implicitDefEqProofs -dsimp [L1, hbl]
        refine (callP (hno) (by simp)).mono ?_
        rintro r H' ⟨rfl, rfl⟩
        simp -implicitDefEqProofs -dsimp []
        refine (callP (heq) (by simp)).mono ?_
        rintro r H' ⟨rfl, rfl⟩
        simp -implicitDefEqProofs -dsimp []
        refine (callP (hcr) (by simp)).mono ?_
        rintro r H' ⟨rfl, rfl⟩
        simp -implicitDefEqProofs -dsimp [show (8 : Int) * N ≤ 281474976710656 ∧ (N : Int) ≤ 9223372036854775807 by omega]
        refine lw_of (W_loopV [false, false, false, false, false, false, false, false, false, false, false, false, false, false, false, false, true, false, false, false, false, false, false, false, false, false, false, false, false, false, true, false, true, false, false, false, false, false, false, false, false, false, false, false, false, false, false, false, false, false, false, true, false, false, true, false, false, false, false, false, false, false, false, false, false, false, false, false, false, false, false, false, false, true, false, false, false, true, false, false, false, false, false, false, false, false, false, true, true, true, true, true, true, true, true, true, true, true, true, true, true, true, true, true] (σ := Nat) (fun i => i ≤ N) (fun i => N - i) (fun i => [(87, .int .i64 i)]) (fun i => [B.cells [.int .u8 N, .lst 1 f (ws.map encB)], B.buf 3 1 ((othTo ls N i).map encI) false]) 0 (by omega) (by simp) (by simp [othTo_zero]) (by simp) ?_)
        intro i hi N1 Q1 hN1 hQ1
        have hol := othTo_len ls N i
        by_cases hib : i < N
        · by_cases hil : i < ls.length
          · have hm8 : IntKind.i64.wrap (ls[i].tmod 8) = ls[i].tmod 8 := by
              have h1 := hlw ls[i] (List.getElem_mem hil)
              have h2 := Int.tmod_nonneg 8 h1.1
              have h3 := Int.tmod_lt_of_pos ls[i] (show (0 : Int) < 8 by omega)
              exact wrap64 (by omega) (by omega)
            have hset := othTo_set ls N i hib hil
            refine W_x tok mixed ?_
            simp -implicitDefEqProofs -dsimp [hib, hil, encU, hol, hm8, hset, encI, wrapS i (by omega)]
            refine hN1 (i + 1) _ _ (by omega) (by omega) ?_ ⟨[], ?_⟩ ?_ ?_ <;> simp (maxSteps := 2000000) [or_imp, forall_and, L1, encI, hbl, LP, encP]
          · have hkp := othTo_keep ls N i hil
            refine W_x tok mixed ?_
            simp -implicitDefEqProofs -dsimp [hib, hil, encU, wrapS i (by omega)]
            refine hN1 (i + 1) _ _ (by omega) (by omega) ?_ ⟨[], ?_⟩ ?_ ?_ <;> simp (maxSteps := 2000000) [or_imp, forall_and, L1, encI, hbl, hkp, LP, encP]
        · obtain rfl : i = N := by omega
          have hlo := hleast (othTo ls i i) hol
          refine W_x tok mixed ?_
          simp -implicitDefEqProofs -dsimp [hib]
          refine hQ1 _ _ _ ?_
          simp -implicitDefEqProofs -dsimp []
          refine (callCost i ps (othTo ls i i) false 1 3 false hval (by omega) hol (by omega) rfl).mono ?_
          rintro r H' ⟨rfl, rfl⟩
          simp -implicitDefEqProofs -dsimp [show ¬ (costOf ps (othTo ls i i) < L) by omega]
          refine lw_of (W_loopV [false, false, false, false, false, false, true, false, false, false, false, false, false, false, false, false, false, false, false, true, true, true, true, true, false, false, false, false, false, false, false, false, false, false, false, false, false, false, false, false, false, false, false, false, false, false, false, false, false, false, false, false, false, false, false, false, false, false, false, false, false, false, false, false, false, false, false, false, false, false, false, false, false, false, false, false, false, false, false, false, false, false, false, false, false, false, false, false, false, false, false, false, false, false, false, false, false, false, false, false, false, false, false, false, false, false, false, false, false, false, false, false, false, false, false, false, false, false, false, false, true, true, true, true, true, true, true, true, true, true, true, true, true, true, true, true, true, true, true, true, true, true, true, true, true, true, true, true, true, true] (σ := Nat) (fun j => j ≤ i) (fun j => i - j) (fun j => [(120, .int .i64 j)]) (fun _ => [B.cells [.int .u8 i, .lst 1 f (ws.map encB)], B.buf 3 1 ((othTo ls i i).map encI) false]) 0 (by omega) (by simp) (by simp) (by simp) ?_)
          intro j hj N2 Q2 hN2 hQ2
          by_cases hjb : j < i
          · have hwi : IntKind.i64.wrap ((i : Int) + 1) = ((i + 1 : Nat) : Int) := wrapS i (by omega)
            refine W_x tok mixed ?_
            simp -implicitDefEqProofs -dsimp [hjb, hbl, hwi]
            refine lw_of (W_loopV [false, false, false, false, false, false, true, false, false, false, false, false, false, false, false, false, false, false, false, false, true, true, true, true, false, false, false, false, false, false, false, false, false, false, false, false, false, false, false, false, false, false, false, false, false, false, false, false, false, false, false, false, false, false, false, false, false, false, false, false, false, false, false, false, false, false, false, false, false, false, false, false, false, false, false, false, false, false, false, false, false, false, false, false, false, false, false, false, false, false, false, false, false, false, false, false, false, false, false, false, false, false, false, false, false, false, false, false, false, false, false, false, false, false, false, false, false, false, false, false, false, false, false, false, false, true, true, true, true, true, true, true, true, true, true, true, true, true, true, true, true, true, true, true, true, true, true, true, true] (σ := Nat) (fun c => c ≤ i + 1) (fun c => i + 1 - c) (fun c => [(125, .int .i64 c)]) (fun _ => [B.cells [.int .u8 i, .lst 1 f (ws.map encB)], B.buf 3 1 ((othTo ls i i).map encI) false]) 0 (by omega) (by simp) (by simp) (by simp) ?_)
            intro c hc N3 Q3 hN3 hQ3
            by_cases hcb : c < i + 1
            · have hsl2 : (bb.set j (c : Int)).length = i := by simpa using hbl
              have hlm := hleast (bb.set j (c : Int)) hsl2
              have hset : (bb.map encI).set j (.int .i64 (c : Int)) = (bb.set j (c : Int)).map encI := by rw [List.map_set]; rfl
              obtain ⟨mv, hmv⟩ : ∃ mv, mv = bb.set j (c : Int) := ⟨_, rfl⟩
              rw [← hmv] at hsl2 hlm hset
              refine W_x tok mixed ?_
              simp -implicitDefEqProofs -dsimp [show (c : Int) < (i : Int) + 1 by omega]
              refine (callO (clone54 bb false (by omega)) (by simp [L1])).mono ?_
              rintro r H' ⟨e, z, xs, rfl, rfl, _, rfl, rfl, rfl⟩
              simp -implicitDefEqProofs -dsimp [hbl, hjb, hset, encI]
              refine (callCost i ps (mv) false 2 3 false hval (by omega) hsl2 (by omega) rfl).mono ?_
              rintro r H' ⟨rfl, rfl⟩
              simp -implicitDefEqProofs -dsimp [show ¬ (costOf ps (mv) < L) by omega, wrapS c (by omega)]
              refine hN3 (c + 1) _ _ (by omega) (by omega) ?_ ⟨[B.buf 3 1 ((mv).map encI) false], ?_⟩ ?_ ?_ <;> simp (maxSteps := 2000000) [or_imp, forall_and, L1, encI, hbl, LP, encP]
            · refine W_x tok mixed ?_
              simp -implicitDefEqProofs -dsimp [show ¬ (c : Int) < (i : Int) + 1 by omega]
              refine hQ3 _ _ _ ?_
              simp -implicitDefEqProofs -dsimp [wrapS j (by omega)]
              refine hN2 (j + 1) _ _ (by omega) (by omega) ?_ ⟨[], ?_⟩ ?_ ?_ <;> simp (maxSteps := 2000000) [or_imp, forall_and, L1, encI, hbl, LP, encP]
          · refine W_x tok mixed ?_
            simp -implicitDefEqProofs -dsimp [hjb, hbl]
            refine hQ2 _ _ _ ?_
            simp -implicitDefEqProofs -dsimp [LP]
            refine lw_of (W_own 28 3 [24] (by simp) (W_loopV [false, false, false, false, false, false, false, false, false, false, false, false, false, false, false, false, false, false, false, false, false, false, false, false, true, false, true, false, false, false, false, false, false, false, false, false, false, false, false, false, false, false, false, false, false, false, false, false, false, false, false, false, false, false, false, false, false, false, false, false, false, false, false, false, false, false, false, false, false, false, false, false, false, false, false, false, false, false, false, false, false, false, false, false, false, false, false, false, false, false, false, false, false, false, false, false, false, false, false, false, false, false, false, false, false, false, false, false, false, false, false, false, false, false, false, false, false, false, false, false, false, false, false, false, false, false, false, false, false, false, false, false, false, false, false, false, false, false, false, false, false, false, false, false, false, false, false, false, false, false, false, false, true, true, true, true, true, true, true, true, true, true, true, true, true, true, true, true, true, true] (σ := Nat) (fun m => m ≤ ps.length) (fun m => ps.length - m) (fun m => [(152, .int .i64 m), (24, .buf 2 0 (scaleP b (ps.take m)).length (scaleP b (ps.take m)).length)]) (fun m => [B.cells [.int .u8 i, .lst 1 f (ws.map encB)], B.buf 3 1 ((othTo ls i i).map encI) false, B.buf 28 3 ((scaleP b (ps.take m)).map encP) false]) 0 (by omega) (by simp [scaleP]) (by simp [scaleP]) (by simp) ?_))
            intro m hm N3 Q3 hN3 hQ3
            by_cases hmb : m < ps.length
            · have hst : scaleP b (ps.take (m + 1)) = scaleP b (ps.take m) ++ [⟨ps[m].i, ps[m].k, ps[m].x * b⟩] := by
                unfold scaleP
                rw [List.take_succ_eq_append_getElem hmb, List.map_append]; rfl
              have hsl3 : (scaleP b (ps.take m)).length = m := by simp [scaleP]; omega
              have hpm := hpw ps[m] (List.getElem_mem hmb)
              have hwx : IntKind.i64.wrap (ps[m].x * b) = ps[m].x * b := by
                rcases Int.le_total 0 ps[m].x with h | h
                · have h1 := Int.mul_nonneg h hb0
                  have h2 := Int.mul_le_mul hpm.2 (show b ≤ 7 by omega) hb0 (by omega)
                  exact wrap64 (by omega) (by omega)
                · have h1 := Int.mul_nonpos_of_nonpos_of_nonneg h hb0
                  have h2 := Int.mul_le_mul (show -ps[m].x ≤ 128 by omega) (show b ≤ 7 by omega) hb0 (by omega)
                  rw [Int.neg_mul] at h2
                  exact wrap64 (by omega) (by omega)
              refine W_x tok mixed ?_
              simp -implicitDefEqProofs -dsimp [hmb, encP, hwb, hwx, hsl3, cap24 m (by omega), wrapS m (by omega)]
              refine hN3 (m + 1) _ _ (by omega) (by omega) ?_ ⟨[B.cells [.int .i64 ps[m].i, .int .i64 ps[m].k, .int .i64 ps[m].x]], ?_⟩ ?_ ?_ <;> simp (maxSteps := 2000000) [or_imp, forall_and, L1, encI, hbl, hst, hsl3, encP]
            · obtain rfl : m = ps.length := by omega
              rw [List.take_length]
              refine W_x tok mixed ?_
              simp -implicitDefEqProofs -dsimp [hmb]
              refine hQ3 _ _ _ ?_
              simp -implicitDefEqProofs -dsimp []
              refine (callF 2 rfl hop2 (by simp [LP]) (by simp)).mono ?_
              rintro r H' ⟨rfl, rfl⟩
              simp -implicitDefEqProofs -dsimp []
              refine (callP (heq) (by simp)).mono ?_
              rintro r H' ⟨rfl, rfl⟩
              simp -implicitDefEqProofs -dsimp [hwb, hwL]
  · have hof := of_no54 N ws f (by omega) hN
    simp only [encR] at hof
    refine conP_of_conH (conH_of_W tok Try.func8 rfl rfl ?_)
    refine W_x tok mixed ?_
    simp -implicitDefEqProofs -dsimp [Try.f8, List.replicate, encR]
    refine (callP (hof) (by simp)).mono ?_
    rintro r H' ⟨rfl, rfl⟩
    simp -implicitDefEqProofs -dsimp []
    refine (callP (awake_con) (by simp)).mono ?_
    rintro r H' ⟨rfl, rfl⟩
    simp -implicitDefEqProofs -dsimp []
    refine (callP (awake_con) (by simp)).mono ?_
    rintro r H' ⟨rfl, rfl⟩
    simp -implicitDefEqProofs -dsimp []
end Go.Proofs.Ytmjicfafjjgekaa
