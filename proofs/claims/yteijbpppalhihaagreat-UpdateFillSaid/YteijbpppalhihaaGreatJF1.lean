/- JF1: Y7, Z3, V12, U7, Mp, T12, ClS, joined by chunk.py. -/
import Derived.Test.YteijbpppalhihaaGreatJC11
set_option linter.unusedVariables false
set_option linter.unusedSimpArgs false
section
/- Y7: the reference's step, with its heap behind a failure. Expanded by pp.py; turned from Y5. -/
set_option linter.unusedSimpArgs false
set_option maxRecDepth 100000
namespace Go.Proofs.YteijbpppalhihaaGreat
open Go Go.AM
/-- What step has done. -/
def StepQ (q : Prob) (H : List B) (b : Nat) (S : Nat) (e : Nat → En) (r : V) (H' : List B) : Prop :=
  (r = .int .i64 0 ∧ ClosedE q (fun x => toD (e x)) ∧ ∃ G, H' = He H b q.m q.n e ++ G) ∨ (r = .int .i64 (-1) ∧ ¬ Okq q ∧ ∃ G, H' = He H b q.m q.n e ++ G) ∨
  (r = .int .i64 1 ∧ ∃ e' G, H' = He H b q.m q.n e' ++ G ∧ Ent q (fun x => toD (e' x)) ∧ EnOk e' (q.m * q.n) S ∧ cntS (q.m * q.n) (S + 1) (fun x => toD (e' x)) < cntS (q.m * q.n) (S + 1) (fun x => toD (e x)))
set_option maxHeartbeats 64000000 in
theorem step_q {q : Prob} {H : List B} {ko b m n S : Nat} (hme : q.m = m) (hne : q.n = n) (g : EOk H ko b m n) (e : Nat → En) (hE : Ent q (fun x => toD (e x))) (hO : EnOk e (q.m * q.n) S) (hn : n ≤ 16) (hm : m ≤ 1000) (ff : Bool) (hF : FdsOk q.fds) :
    ConH Tryz.prog 91 [.buf ko 0 m m, LF ff q.fds] (He H b m n e) (StepQ q H b S e) := by
  obtain ⟨hF1, hF2⟩ := hF
  have hclo := closedE_of hO (by omega) hF2
  obtain ⟨fds, hfds⟩ : ∃ fds, fds = q.fds := ⟨_, rfl⟩
  have hout := he_out g e
  have hol := outE_len b m n
  have hlenA := he_len H b m n e
  have hrb := he_rb g e
  have hlt := g.lt
  have hkl : ko < (He H b m n e).length := by rw [hlenA]; have := g.no; omega
  rw [← hfds] at hF1 hF2 hclo ⊢
  refine conH_of_W tok Tryz.func91 rfl rfl ?_
  refine W_x tok mixed ?_
  simp -implicitDefEqProofs -dsimp [Tryz.f91, List.replicate, LF]
  refine lw_of (W_loopV [false, false, false, false, true, true, true, true, true, true, true, true, true, true, true, true, true, true, true, true, true, true, true, true, true, true, true, true, true, true, true, true, true, true, true, true, true, true, true, true, true, true, true, true, true, true, true, true, true, true, true, true, true, true, true, true, true, true, true, true, true, true, true, true, true, true, true, true, true, true, true, true, true, true, true, true, true, true, true, true, true, true, true, true, true, true, true, true, true, true, true, true, true, true, true, true, true, true, true] (σ := Nat) (fun j => j ≤ fds.length ∧ ∀ d ∈ fds.take j, ∀ i k, i < m → k < i → ClsN q e d i k) (fun j => fds.length - j) (fun j => [(5, .int .i64 j)]) (fun _ => He H b m n e) 0 ⟨by omega, by simp⟩ (by simp) rfl (by simp) ?_)
  rintro j ⟨hj, hx⟩ N Q hN hQ
  by_cases hjb : j < fds.length
  · obtain ⟨d, hd⟩ : ∃ d, d = fds[j] := ⟨_, rfl⟩
    have hd' := hd.symm
    have hdm : d ∈ fds := hd ▸ List.getElem_mem hjb
    have hdb := hF2 d hdm
    refine W_x tok mixed ?_
    simp -implicitDefEqProofs -dsimp [hjb]
    refine lw_of (W_loopV [false, false, false, false, true, false, true, true, true, true, true, false, false, false, false, false, false, true, true, true, true, true, true, true, true, true, true, true, true, true, true, true, true, true, true, true, true, true, true, true, true, true, true, true, true, true, true, true, true, true, true, true, true, true, true, true, true, true, true, true, true, true, true, true, true, true, true, true, true, true, true, true, true, true, true, true, true, true, true, true, true, true, true, true, true, true, true, true, true, true, true, true, true, true, true, true, true, true, true] (σ := Nat) (fun i => i ≤ m ∧ ∀ i' k, i' < i → k < i' → ClsN q e d i' k) (fun i => m - i) (fun i => [(6, .int .i64 i)]) (fun _ => He H b m n e) 0 ⟨by omega, fun i' k h => by omega⟩ (by simp) rfl (by simp) ?_)
    rintro i ⟨hi, hx2⟩ N2 Q2 hN2 hQ2
    by_cases hib : i < m
    · have hog := fun h => outE_get (b := b) (m := m) (n := n) (i := i) h
      have hrow := he_row g e hib
      have hrl := rowE_len e n i
      have hbl : b + i < (He H b m n e).length := by rw [hlenA]; omega
      refine W_x tok mixed ?_
      simp -implicitDefEqProofs -dsimp [hout, hol, hib]
      refine lw_of (W_loopV [false, false, false, false, true, false, false, true, true, true, true, false, false, false, false, false, false, false, false, false, false, false, false, true, true, true, true, true, true, true, true, true, true, true, true, true, true, true, true, true, true, true, true, true, true, true, true, true, true, true, true, true, true, true, true, true, true, true, true, true, true, true, true, true, true, true, true, true, true, true, true, true, true, true, true, true, true, true, true, true, true, true, true, true, true, true, true, true, true, true, true, true, true, true, true, true, true, true, true] (σ := Nat) (fun k => k ≤ i ∧ ∀ k', k' < k → ClsN q e d i k') (fun k => i - k) (fun k => [(7, .int .i64 k)]) (fun _ => He H b m n e) 0 ⟨by omega, fun k h => by omega⟩ (by simp) rfl (by simp) ?_)
      rintro k ⟨hk, hx3⟩ N3 Q3 hN3 hQ3
      by_cases hkb : k < i
      · have hkm : k < m := by omega
        have hog2 := fun h => outE_get (b := b) (m := m) (n := n) (i := k) h
        have hrow2 := he_row g e hkm
        have hrl2 := rowE_len e n k
        have hbl2 : b + k < (He H b m n e).length := by rw [hlenA]; omega
        have ca := agree_e g e i k (d.l : Int) hib hkm hn
        cases ha1 : agN e i k d.l n with
        | false =>
          rw [ha1] at ca
          refine W_x tok mixed ?_
          simp -implicitDefEqProofs -dsimp [hkb, hout, hol, hib, hkm, hog, hog2, hjb, hd', encF]
          refine .inr ⟨stop_of (by kernel_rfl), ?_⟩
          refine cy_of _ ca ?_
          simp -implicitDefEqProofs -dsimp [wrapS k (by omega)]
          refine hN3 (k + 1) _ _ ⟨by omega, fun k' hk' => ?_⟩ (by omega) (by simp) ⟨[], by simp⟩ (by simp [hkl]) hrb
          rcases Nat.lt_or_ge k' k with h1 | h1
          · exact hx3 k' h1
          · have : k' = k := by omega
            subst this
            intro hy
            rw [hne] at hy
            rw [agN_iff.2 hy] at ha1; cases ha1
        | true =>
          rw [ha1] at ca
          have hag := agN_iff.1 ha1
          refine W_x tok mixed ?_
          simp -implicitDefEqProofs -dsimp [hkb, hout, hol, hib, hkm, hog, hog2, hjb, hd', encF]
          refine .inr ⟨stop_of (by kernel_rfl), ?_⟩
          refine cy_of _ ca ?_
          simp -implicitDefEqProofs -dsimp []
          refine lw_of (W_loopV [false, false, false, false, true, false, false, false, true, true, true, false, false, false, false, false, false, false, false, false, false, false, false, false, false, false, false, false, false, false, false, false, false, false, false, false, false, false, false, false, false, false, false, true, true, true, true, true, true, true, true, true, true, true, true, true, true, true, true, true, true, true, true, true, true, true, true, true, true, true, true, true, true, true, true, true, true, true, true, true, true, true, true, true, true, true, true, true, true, true, true, true, true, true, true, true, true, true, true] (σ := Nat) (fun a => a ≤ n ∧ AgrN e i k d.r n a) (fun a => n - a) (fun a => [(8, .int .i64 a)]) (fun _ => He H b m n e) 0 ⟨by omega, fun a h => by omega⟩ (by simp) rfl (by simp) ?_)
          rintro a ⟨ha, hx4⟩ N4 Q4 hN4 hQ4
          by_cases hab : a < n
          · have x1 := fun h => rowE_get (e := e) (n := n) (i := i) (a := a) h
            have x2 := fun h => rowE_get (e := e) (n := n) (i := k) (a := a) h
            obtain ⟨p, hp⟩ : ∃ p, p = e (i * n + a) := ⟨_, rfl⟩
            obtain ⟨r, hr⟩ : ∃ r, r = e (k * n + a) := ⟨_, rfl⟩
            rw [← hp] at x1
            rw [← hr] at x2
            have ho1 : ∀ G, (He H b m n e ++ G)[ko]? = some (B.buf 115 1 (outE b m n) false) := fun G => by rw [List.getElem?_append_left hkl]; exact hout
            have ho2 : ∀ G, (He H b m n e ++ G)[b + i]? = some (B.buf 117 4 (rowE e n i) false) := fun G => by rw [List.getElem?_append_left hbl]; exact hrow
            have ho3 : ∀ G, (He H b m n e ++ G)[b + k]? = some (B.buf 117 4 (rowE e n k) false) := fun G => by rw [List.getElem?_append_left hbl2]; exact hrow2
            refine W_x tok mixed ?_
            simp -implicitDefEqProofs -dsimp [hout, hol, hib, hog, hrow, hrl, hab]
            refine lw_of (W_draw2 tok mixed [14, 15, 16, 17] [15, 14, 16, 17] []
              [He H b m n e ++ [.cells [.int .i64 0, .int .i64 0, .str ByteArray.empty, .int .i64 0]], He H b m n e ++ [.cells [.int .i64 0, .int .i64 0, .str ByteArray.empty, .int .i64 0], .cells [.int .i64 0, .int .i64 0, .str ByteArray.empty, .int .i64 0]],
                He H b m n e ++ [.cells [.int .i64 p.v.k, .int .i64 p.v.n, .str p.v.s, .int .i64 p.s], .cells [.int .i64 0, .int .i64 0, .str ByteArray.empty, .int .i64 0]], He H b m n e ++ [.cells [.int .i64 p.v.k, .int .i64 p.v.n, .str p.v.s, .int .i64 p.s], .cells [.int .i64 r.v.k, .int .i64 r.v.n, .str r.v.s, .int .i64 r.s]]]
              [He H b m n e ++ [.cells [.int .i64 0, .int .i64 0, .str ByteArray.empty, .int .i64 0]], He H b m n e ++ [.cells [.int .i64 0, .int .i64 0, .str ByteArray.empty, .int .i64 0], .cells [.int .i64 0, .int .i64 0, .str ByteArray.empty, .int .i64 0]],
                He H b m n e ++ [.cells [.int .i64 0, .int .i64 0, .str ByteArray.empty, .int .i64 0], .cells [.int .i64 p.v.k, .int .i64 p.v.n, .str p.v.s, .int .i64 p.s]], He H b m n e ++ [.cells [.int .i64 r.v.k, .int .i64 r.v.n, .str r.v.s, .int .i64 r.s], .cells [.int .i64 p.v.k, .int .i64 p.v.n, .str p.v.s, .int .i64 p.s]]]
              (by kernel_rfl) fun K hK => ?_)
            simp -implicitDefEqProofs [hout, hol, hib, hkm, hog, hog2, hrow, hrow2, hrl, hrl2, hab, x1, x2, ho1, ho2, ho3, encEn, hlenA, r5, ia1, ia2, ia3, ia4, ib1, ib2, ib3, ib4]
            obtain ⟨L, hL⟩ : ∃ L, L = H.length := ⟨_, rfl⟩
            rw [← hL] at hlenA ⊢
            obtain ⟨P4, hP4⟩ : ∃ P4, P4 = B.cells [.int .i64 p.v.k, .int .i64 p.v.n, .str p.v.s, .int .i64 p.s] := ⟨_, rfl⟩
            obtain ⟨R4, hR4⟩ : ∃ R4, R4 = B.cells [.int .i64 r.v.k, .int .i64 r.v.n, .str r.v.s, .int .i64 r.s] := ⟨_, rfl⟩
            have y1 : (He H b m n e ++ [P4, R4])[L]? = some (B.cells [.int .i64 p.v.k, .int .i64 p.v.n, .str p.v.s, .int .i64 p.s]) := by rw [List.getElem?_append_right (by omega), hlenA, hP4]; simp
            have y2 : (He H b m n e ++ [P4, R4])[L + 1]? = some (B.cells [.int .i64 r.v.k, .int .i64 r.v.n, .str r.v.s, .int .i64 r.s]) := by rw [List.getElem?_append_right (by omega), hlenA, hR4]; simp
            have y3 : (He H b m n e ++ [R4, P4])[L + 1]? = some (B.cells [.int .i64 p.v.k, .int .i64 p.v.n, .str p.v.s, .int .i64 p.s]) := by rw [List.getElem?_append_right (by omega), hlenA, hP4]; simp
            have y4 : (He H b m n e ++ [R4, P4])[L]? = some (B.cells [.int .i64 r.v.k, .int .i64 r.v.n, .str r.v.s, .int .i64 r.s]) := by rw [List.getElem?_append_right (by omega), hlenA, hR4]; simp
            have rbP : ∀ k, rbB k P4 := fun k => by rw [hP4]; simp
            have rbR : ∀ k, rbB k R4 := fun k => by rw [hR4]; simp
            rw [← hP4, ← hR4]
            have again : (hasB (d.r : Int) a = true → p = r) → AgrN e i k d.r n (a + 1) := fun h c hc1 hc2 => by
              rcases Nat.lt_or_ge c a with h1 | h1
              · exact hx4 c h1 hc2
              · have : c = a := by omega
                subst this; rw [← hp, ← hr]; exact h hc2
            cases hh : hasB (d.r : Int) a with
            | false =>
              have hag2 := again (fun h => by rw [hh] at h; cases h)
              refine ⟨hK _ _ ?_, hK _ _ ?_⟩
              all_goals
                simp -implicitDefEqProofs -dsimp [hjb, hd', encF, hasZ_def, hh, show (a : Int) < 32 by omega, wrapS a (by omega)]
                refine hN4 (a + 1) _ _ ⟨by omega, hag2⟩ (by omega) (by simp) ⟨_, rfl⟩ (by simp [hkl, hbl, hbl2]) hrb
            | true =>
              cases heq : eqEnB p r with
              | true =>
                have hag2 := again (fun _ => (eqEnB_iff p r).1 heq)
                refine ⟨hK _ _ ?_, hK _ _ ?_⟩
                all_goals
                  simp -implicitDefEqProofs -dsimp [hjb, hd', encF, hasZ_def, hh, show (a : Int) < 32 by omega, y1, y2, y3, y4, eqEn, heq, wrapS a (by omega)]
                  refine hN4 (a + 1) _ _ ⟨by omega, hag2⟩ (by omega) (by simp) ⟨_, rfl⟩ (by simp [hkl, hbl, hbl2]) hrb
              | false =>
                have hpr : e (i * n + a) ≠ e (k * n + a) := fun h => by
                  rw [hp, hr, (eqEnB_iff _ _).2 h] at heq; cases heq
                have li := cell_lt hib hab
                have lk := cell_lt hkm hab
                have hsem := step_sem hE hO (by omega) (hfds ▸ hdm) hdb (show i < q.m by omega) hkb (by rw [hne]; exact hag) (by rw [hne]; exact hab) hh
                rw [hne] at hsem
                have hq1 : i * n + a < q.m * q.n := by rw [hme, hne]; exact li
                have hq2 : k * n + a < q.m * q.n := by rw [hme, hne]; exact lk
                by_cases s1 : p.s = 0
                · by_cases s2 : r.s = 0
                  · have z1 : (p.s == 0) = true := by simp [s1]
                    have z2 : (r.s == 0) = true := by simp [s2]
                    have hno := step_clash hE (S := S) hq1 hq2 (by rw [← hp]; exact s1) (by rw [← hr]; exact s2) hpr hsem
                    refine ⟨hK _ _ ?_, hK _ _ ?_⟩
                    all_goals
                      simp -implicitDefEqProofs -dsimp [hjb, hd', encF, hasZ_def, hh, show (a : Int) < 32 by omega, y1, y2, y3, y4, eqEn, heq, z1, z2]
                      refine hQ4 _ _ _ ?_
                      simp -implicitDefEqProofs -dsimp []
                      refine hQ3 _ _ _ ?_
                      simp -implicitDefEqProofs -dsimp []
                      refine hQ2 _ _ _ ?_
                      simp -implicitDefEqProofs -dsimp []
                      refine hQ _ _ _ ?_
                      simp -implicitDefEqProofs -dsimp []
                      exact .inr (.inl ⟨rfl, hno, by rw [hme, hne]; exact ⟨_, rfl⟩⟩)
                  · have z1 : (p.s == 0) = true := by simp [s1]
                    have z2 : (r.s == 0) = false := by simp [s2]
                    have hrep := step_rep hE hO hq2 hq1 (by rw [← hr]; exact s2) (fun h => hpr h.symm) (fun σ hσ => (hsem σ hσ).symm)
                    rw [hme, hne, ← hp, ← hr] at hrep
                    have c1 := replace_r (g.app [P4, R4] (by simp [↓rbP, ↓rbR])) e r p hn hm
                    have c2 := replace_r (g.app [R4, P4] (by simp [↓rbP, ↓rbR])) e r p hn hm
                    rw [← he_app g] at c1 c2
                    have a1 := fun G => congrArg (· ++ G) (he_app g [P4, R4] (repTo e r p (m * n))).symm
                    have a2 := fun G => congrArg (· ++ G) (he_app g [R4, P4] (repTo e r p (m * n))).symm
                    simp only [encEn] at c1 c2
                    refine ⟨hK _ _ ?_, hK _ _ ?_⟩
                    · simp -implicitDefEqProofs -dsimp [hjb, hd', encF, hasZ_def, hh, show (a : Int) < 32 by omega, y1, y2, eqEn, heq, z1, z2]
                      refine WCall.mono (K := fun r' H' => ∃ G, H' = He (H ++ [P4, R4]) b m n (repTo e r p (m * n)) ++ G) c1 ?_
                      rintro r' H' ⟨G, rfl⟩
                      simp -implicitDefEqProofs -dsimp []
                      refine hQ4 _ _ _ ?_
                      simp -implicitDefEqProofs -dsimp []
                      refine hQ3 _ _ _ ?_
                      simp -implicitDefEqProofs -dsimp []
                      refine hQ2 _ _ _ ?_
                      simp -implicitDefEqProofs -dsimp []
                      refine hQ _ _ _ ?_
                      simp -implicitDefEqProofs -dsimp []
                      exact .inr (.inr ⟨rfl, _, _, by rw [hme, hne]; exact (a1 G).trans (List.append_assoc _ _ _), by simpa only [hme, hne] using hrep⟩)
                    · simp -implicitDefEqProofs -dsimp [hjb, hd', encF, hasZ_def, hh, show (a : Int) < 32 by omega, y3, y4, eqEn, heq, z1, z2]
                      refine WCall.mono (K := fun r' H' => ∃ G, H' = He (H ++ [R4, P4]) b m n (repTo e r p (m * n)) ++ G) c2 ?_
                      rintro r' H' ⟨G, rfl⟩
                      simp -implicitDefEqProofs -dsimp []
                      refine hQ4 _ _ _ ?_
                      simp -implicitDefEqProofs -dsimp []
                      refine hQ3 _ _ _ ?_
                      simp -implicitDefEqProofs -dsimp []
                      refine hQ2 _ _ _ ?_
                      simp -implicitDefEqProofs -dsimp []
                      refine hQ _ _ _ ?_
                      simp -implicitDefEqProofs -dsimp []
                      exact .inr (.inr ⟨rfl, _, _, by rw [hme, hne]; exact (a2 G).trans (List.append_assoc _ _ _), by simpa only [hme, hne] using hrep⟩)
                · have z1 : (p.s == 0) = false := by simp [s1]
                  have z2 : True := trivial
                  have hrep := step_rep hE hO hq1 hq2 (by rw [← hp]; exact s1) hpr hsem
                  rw [hme, hne, ← hp, ← hr] at hrep
                  have c1 := replace_r (g.app [P4, R4] (by simp [↓rbP, ↓rbR])) e p r hn hm
                  have c2 := replace_r (g.app [R4, P4] (by simp [↓rbP, ↓rbR])) e p r hn hm
                  rw [← he_app g] at c1 c2
                  have a1 := fun G => congrArg (· ++ G) (he_app g [P4, R4] (repTo e p r (m * n))).symm
                  have a2 := fun G => congrArg (· ++ G) (he_app g [R4, P4] (repTo e p r (m * n))).symm
                  simp only [encEn] at c1 c2
                  refine ⟨hK _ _ ?_, hK _ _ ?_⟩
                  · simp -implicitDefEqProofs -dsimp [hjb, hd', encF, hasZ_def, hh, show (a : Int) < 32 by omega, y1, y2, eqEn, heq, z1, z2]
                    refine WCall.mono (K := fun r' H' => ∃ G, H' = He (H ++ [P4, R4]) b m n (repTo e p r (m * n)) ++ G) c1 ?_
                    rintro r' H' ⟨G, rfl⟩
                    simp -implicitDefEqProofs -dsimp []
                    refine hQ4 _ _ _ ?_
                    simp -implicitDefEqProofs -dsimp []
                    refine hQ3 _ _ _ ?_
                    simp -implicitDefEqProofs -dsimp []
                    refine hQ2 _ _ _ ?_
                    simp -implicitDefEqProofs -dsimp []
                    refine hQ _ _ _ ?_
                    simp -implicitDefEqProofs -dsimp []
                    exact .inr (.inr ⟨rfl, _, _, by rw [hme, hne]; exact (a1 G).trans (List.append_assoc _ _ _), by simpa only [hme, hne] using hrep⟩)
                  · simp -implicitDefEqProofs -dsimp [hjb, hd', encF, hasZ_def, hh, show (a : Int) < 32 by omega, y3, y4, eqEn, heq, z1, z2]
                    refine WCall.mono (K := fun r' H' => ∃ G, H' = He (H ++ [R4, P4]) b m n (repTo e p r (m * n)) ++ G) c2 ?_
                    rintro r' H' ⟨G, rfl⟩
                    simp -implicitDefEqProofs -dsimp []
                    refine hQ4 _ _ _ ?_
                    simp -implicitDefEqProofs -dsimp []
                    refine hQ3 _ _ _ ?_
                    simp -implicitDefEqProofs -dsimp []
                    refine hQ2 _ _ _ ?_
                    simp -implicitDefEqProofs -dsimp []
                    refine hQ _ _ _ ?_
                    simp -implicitDefEqProofs -dsimp []
                    exact .inr (.inr ⟨rfl, _, _, by rw [hme, hne]; exact (a2 G).trans (List.append_assoc _ _ _), by simpa only [hme, hne] using hrep⟩)
          · obtain rfl : a = n := by omega
            refine W_x tok mixed ?_
            simp -implicitDefEqProofs -dsimp [hout, hol, hib, hog, hrow, hrl, hab]
            refine hQ4 _ _ _ ?_
            simp -implicitDefEqProofs -dsimp [wrapS k (by omega)]
            refine hN3 (k + 1) _ _ ⟨by omega, fun k' hk' => ?_⟩ (by omega) (by simp) ⟨[], by simp⟩ (by simp [hkl]) hrb
            rcases Nat.lt_or_ge k' k with h1 | h1
            · exact hx3 k' h1
            · have : k' = k := by omega
              subst this
              intro _
              rw [hne]
              exact hx4
      · obtain rfl : k = i := by omega
        refine W_x tok mixed ?_
        simp -implicitDefEqProofs -dsimp [hkb]
        refine hQ3 _ _ _ ?_
        simp -implicitDefEqProofs -dsimp [wrapS k (by omega)]
        refine hN2 (k + 1) _ _ ⟨by omega, fun i' k' hi' hk' => ?_⟩ (by omega) (by simp) ⟨[], by simp⟩ (by simp [hkl]) hrb
        rcases Nat.lt_or_ge i' k with h1 | h1
        · exact hx2 i' k' h1 hk'
        · have : i' = k := by omega
          subst this; exact hx3 k' hk'
    · obtain rfl : i = m := by omega
      refine W_x tok mixed ?_
      simp -implicitDefEqProofs -dsimp [hout, hol, hib]
      refine hQ2 _ _ _ ?_
      simp -implicitDefEqProofs -dsimp [wrapS j (by omega)]
      refine hN (j + 1) _ _ ⟨by omega, fun d' hd' => ?_⟩ (by omega) (by simp) ⟨[], by simp⟩ (by simp [hkl]) hrb
      rw [List.take_succ_eq_append_getElem hjb] at hd'
      rcases List.mem_append.1 hd' with h1 | h1
      · exact hx d' h1
      · simp only [List.mem_singleton] at h1
        rw [h1, ← hd]; exact hx2
  · obtain rfl : j = fds.length := by omega
    rw [List.take_length] at hx
    refine W_x tok mixed ?_
    simp -implicitDefEqProofs -dsimp [hjb]
    refine hQ _ _ _ ?_
    simp -implicitDefEqProofs -dsimp []
    exact .inl ⟨rfl, hclo (by rw [hme]; exact hx), [], by rw [hme, hne, List.append_nil]⟩
end Go.Proofs.YteijbpppalhihaaGreat
end

section
/- Z3: the reference's filled on a heap of two blocks. Expanded by pp.py; turned from Y5. -/
set_option linter.unusedSimpArgs false
set_option maxRecDepth 100000
namespace Go.Proofs.YteijbpppalhihaaGreat
open Go Go.AM
def outS (i n : Nat) : B := .buf 115 1 (outE 4 i n) false
def HS (b0 b1 tb : B) (e : Nat → En) (n i : Nat) : List B := [b0, b1, tb, outS i n] ++ (List.range i).map (rowB e n)
theorem hs_len (b0 b1 tb : B) (e : Nat → En) (n i : Nat) : (HS b0 b1 tb e n i).length = 4 + i := by simp [HS]; omega
theorem hs_0 (b0 b1 tb : B) (e : Nat → En) (n i : Nat) (G : List B) : (HS b0 b1 tb e n i ++ G)[2]? = some tb := by simp [HS]
theorem hs_1 (b0 b1 tb : B) (e : Nat → En) (n i : Nat) (G : List B) : (HS b0 b1 tb e n i ++ G)[3]? = some (.buf 115 1 (outE 4 i n) false) := by simp [HS, outS]
theorem hs_00 (b0 b1 tb : B) (e : Nat → En) (n i : Nat) : (HS b0 b1 tb e n i)[2]? = some tb := by simp [HS]
theorem hs_11 (b0 b1 tb : B) (e : Nat → En) (n i : Nat) : (HS b0 b1 tb e n i)[3]? = some (.buf 115 1 (outE 4 i n) false) := by simp [HS, outS]
theorem hs_x (b0 b1 tb : B) (e : Nat → En) (n i : Nat) (X : B) : (HS b0 b1 tb e n i ++ [X])[4 + i]? = some X := by
  rw [List.getElem?_append_right (by rw [hs_len]; omega), hs_len]; simp
theorem hs_sx (b0 b1 tb : B) (e : Nat → En) (n i : Nat) (X Y : B) : (HS b0 b1 tb e n i ++ [X]).set (4 + i) Y = HS b0 b1 tb e n i ++ [Y] := by
  rw [List.set_append_right _ _ (by rw [hs_len]; omega), hs_len]; simp
theorem hs_next (b0 b1 tb : B) (e : Nat → En) (n i : Nat) : (HS b0 b1 tb e n i ++ [B.buf 117 4 (parE e n i n) false]).set 3 (B.buf 115 1 (outE 4 i n ++ [V.buf (4 + i) 0 n n]) false) = HS b0 b1 tb e n (i + 1) := by
  rw [← outE_succ]
  simp [HS, List.range_succ, outS, rowB, rowE, parE]
theorem hs_rb {b0 b1 tb : B} (ha : ∀ k, rbB k b0) (hb1 : ∀ k, rbB k b1) (hb : ∀ k, rbB k tb) (e : Nat → En) (n i : Nat) : ∀ bl ∈ HS b0 b1 tb e n i, rbB (HS b0 b1 tb e n i).length bl := by
  intro bl hbl
  rw [hs_len]
  unfold HS at hbl
  simp only [List.cons_append, List.nil_append, List.mem_cons, List.mem_map, List.mem_range] at hbl
  rcases hbl with rfl | rfl | rfl | rfl | ⟨j, hj, rfl⟩
  · exact ha _
  · exact hb1 _
  · exact hb _
  · intro x hx c hc
    obtain ⟨j, hj, rfl⟩ := List.mem_map.1 hx
    have hj := List.mem_range.1 hj
    simp [V.cells] at hc
    subst hc
    show 4 + j < 4 + i
    omega
  · unfold rowB; rw [rbB_buf1 (rowE_pure e n _)]; trivial
theorem hs_ok {b0 b1 tb : B} (ha : ∀ k, rbB k b0) (hb1 : ∀ k, rbB k b1) (hb : ∀ k, rbB k tb) (e : Nat → En) (n m : Nat) : EOk (HS b0 b1 tb e n m) 3 4 m n := ⟨hs_11 b0 b1 tb e n m, by rw [hs_len]; omega, by omega, hs_rb ha hb1 hb e n m⟩
theorem hs_he {b0 b1 tb : B} (e : Nat → En) (n m : Nat) : He (HS b0 b1 tb e n m) 4 m n e = HS b0 b1 tb e n m := by
  apply List.ext_getElem?
  intro k
  unfold He
  rw [List.getElem?_map, hs_len]
  by_cases hk : k < 4 + m
  · rw [List.getElem?_range hk, Option.map_some]
    by_cases h2 : 4 ≤ k
    · rw [if_pos ⟨h2, hk⟩]
      unfold HS
      rw [List.getElem?_append_right (by simpa using h2)]
      simp only [List.length_cons, List.length_nil]
      rw [List.getElem?_map, List.getElem?_range (by omega)]
      rfl
    · rw [if_neg (fun h => h2 h.1), List.getElem?_eq_getElem (by rw [hs_len]; exact hk)]
      rfl
  · rw [List.getElem?_eq_none (by simp; omega), List.getElem?_eq_none (by rw [hs_len]; omega)]; rfl
def FilS (q : Prob) (b0 b1 tb : B) (e0 : Nat → En) (r : V) (H' : List B) : Prop :=
  (r = .tup [.nilS, .bool false] ∧ ¬ Okq q ∧ ∃ e G, H' = He (HS b0 b1 tb e0 q.n q.m) 4 q.m q.n e ++ G) ∨
  (r = .tup [.buf 3 0 q.m q.m, .bool true] ∧ ∃ e G, H' = He (HS b0 b1 tb e0 q.n q.m) 4 q.m q.n e ++ G ∧ Ent q (fun x => toD (e x)) ∧ EnOk e (q.m * q.n) (q.m * q.n) ∧ ClosedE q (fun x => toD (e x)))
set_option maxHeartbeats 64000000 in
theorem filled_s (t : Tb) (ff gg df cf : Bool) (fds : List Fd) (l : List Cr) (hv : TbV t) (hF : FdsOk fds) (hl : l.length ≤ 1000000) (b0 b1 : B) (h0t : ∀ k, rbB k b0) (h1t : ∀ k, rbB k b1) :
    ConH Tryz.prog 45 [encTb ff gg t, LF df fds, LC cf l] [b0, b1] (FilS (probT t fds l) b0 b1 (.cells [.str t.name, .lst 1 ff (t.attrs.map V.str), .lst 2 gg (t.rows.map encRw)]) (e0 t l)) := by
  obtain ⟨tb, htb⟩ : ∃ tb, tb = B.cells [.str t.name, .lst 1 ff (t.attrs.map V.str), .lst 2 gg (t.rows.map encRw)] := ⟨_, rfl⟩
  have hbt : ∀ k, rbB k tb := fun k => by rw [htb]; simp
  rw [← htb]
  have hm := hv.rows
  have hn := hv.attrs
  have hE0 := e0_ent t fds l
  have hO0 := e0_ok t l (t.rows.length * t.attrs.length)
  obtain ⟨n, hne⟩ : ∃ n, n = t.attrs.length := ⟨_, rfl⟩
  obtain ⟨m, hme⟩ : ∃ m, m = t.rows.length := ⟨_, rfl⟩
  have hne' := hne.symm
  have hme' := hme.symm
  rw [hne'] at hn
  rw [hme'] at hm
  have hqm : (probT t fds l).m = m := hme'
  have hqn : (probT t fds l).n = n := hne'
  have hqf : (probT t fds l).fds = fds := rfl
  have hO : EnOk (e0 t l) ((probT t fds l).m * (probT t fds l).n) ((probT t fds l).m * (probT t fds l).n) := hO0
  obtain ⟨q, hq⟩ : ∃ q, q = probT t fds l := ⟨_, rfl⟩
  rw [← hq] at hqm hqn hqf hE0 hO ⊢
  have hb00 := fun e n i => hs_00 b0 b1 tb e n i
  have hb0 := fun e n i G => hs_0 b0 b1 tb e n i G
  rw [htb] at hb00 hb0
  rw [← htb] at hb00 hb0
  have t0 := hs_00 b0 b1 tb (e0 t l) n
  have t0' := hs_0 b0 b1 tb (e0 t l) n
  rw [show some tb = some (B.cells [.str t.name, .lst 1 ff (t.attrs.map V.str), .lst 2 gg (t.rows.map encRw)]) by rw [htb]] at t0 t0'
  have t1 := hs_11 b0 b1 tb (e0 t l) n
  have t1' := hs_1 b0 b1 tb (e0 t l) n
  have tl := hs_len b0 b1 tb (e0 t l) n
  have t1l := fun i => outE_len 4 i n
  refine conH_of_W tok Tryz.func45 rfl rfl ?_
  refine W_x tok mixed ?_
  simp -implicitDefEqProofs -dsimp [Tryz.f45, List.replicate, encTb, LS, LR, LC, LF]
  refine lw_of (W_own 115 1 [8] (by simp) (W_loopV [false, false, false, false, false, false, false, false, true, true, true, true, true, true, true, true, true, true, true, true, true, true, true, true, true, true, true, true, true, true, true, true, true, true, true, true, true, true, true, true, true, true, true, true, true, true, true, true, true, true, true, true, true, true, true, true, true, true, true, true, true] (σ := Nat × Nat) (fun p => p.1 ≤ m ∧ p.2 = p.1 * n) (fun p => m - p.1) (fun p => [(10, .int .i64 p.1), (8, .buf 3 0 p.1 p.1), (9, .int .i64 (cntTo t l p.2))]) (fun p => HS b0 b1 tb (e0 t l) n p.1) (0, 0) ⟨by simp, by simp⟩ (by simp [cntTo]) (by simp [HS, outS, outE, htb]) (by simp [tl]) ?_))
  rintro ⟨i, c⟩ ⟨hi, hc⟩ N Q hN hQ
  simp only at hi hc hN
  by_cases hib : i < m
  · have hit : i < t.rows.length := by omega
    obtain ⟨rw, hrw⟩ : ∃ rw, rw = t.rows[i] := ⟨_, rfl⟩
    have hrw' := hrw.symm
    have hvl : rw.vals.length = n := by rw [hrw, hne]; exact hv.len _ (List.getElem_mem hit)
    refine W_x tok mixed ?_
    simp -implicitDefEqProofs -dsimp [t0, hme', hib]
    refine lw_of (W_own 117 4 [11] (by simp) (W_loopV [false, false, false, false, false, false, false, false, false, true, false, true, true, false, false, false, false, false, false, false, true, true, true, true, true, true, true, true, true, true, true, true, true, true, true, true, true, true, true, true, true, true, true, true, true, true, true, true, true, true, true, true, true, true, true, true, true] (σ := Nat × Nat) (fun p => p.1 ≤ n ∧ p.2 = i * n + p.1) (fun p => n - p.1) (fun p => [(12, .int .i64 p.1), (11, .buf (4 + i) 0 p.1 p.1), (9, .int .i64 (cntTo t l p.2))]) (fun p => HS b0 b1 tb (e0 t l) n i ++ [B.buf 117 4 (parE (e0 t l) n i p.1) false]) (0, c) ⟨by simp, by simp [hc]⟩ (by simp [tl]) (by simp [parE]) (by simp [tl]) ?_))
    rintro ⟨a, c2⟩ ⟨ha, hc2⟩ N2 Q2 hN2 hQ2
    simp only at ha hc2 hN2
    have hrb2 : ∀ a', ∀ bl ∈ HS b0 b1 tb (e0 t l) n i ++ [B.buf 117 4 (parE (e0 t l) n i a') false], rbB (HS b0 b1 tb (e0 t l) n i ++ [B.buf 117 4 (parE (e0 t l) n i a') false]).length bl := fun a' bl hbl => by
      rcases List.mem_append.1 hbl with h | h
      · exact rbB_mono (by simp) (hs_rb h0t h1t hbt (e0 t l) n i bl h)
      · simp only [List.mem_singleton] at h
        subst h
        rw [rbB_buf1 (parE_pure _ _ _ _)]; trivial
    have w0 := get_of (t0' i [B.buf 117 4 (parE (e0 t l) n i a) false])
    have w1 := get_of (t1' i [B.buf 117 4 (parE (e0 t l) n i a) false])
    have wx := get_of (hs_x b0 b1 tb (e0 t l) n i (B.buf 117 4 (parE (e0 t l) n i a) false))
    by_cases hab : a < n
    · have hlt := cell_lt hib hab
      have hbig : m * n ≤ 1000 * 16 := Nat.mul_le_mul hm hn
      have hat : crAt t c2 = ⟨rw.id, (a : Int)⟩ := by
        rw [hc2, hne, crAt_at t (hne ▸ hab), rwAt_in hit, ← hrw]
      have hva : a < rw.vals.length := by omega
      have hvt : vlAt t c2 = rw.vals[a] := by
        rw [hc2, hne, vlAt_at t (hne ▸ hab), rwAt_in hit, ← hrw, vAt_in hva]
      have hch := has_r l ⟨rw.id, (a : Int)⟩ cf hl
      simp only [LC, encCr] at hch
      have hx := hs_x b0 b1 tb (e0 t l) n i (B.buf 117 4 (parE (e0 t l) n i a) false)
      have hsx := fun Y => hs_sx b0 b1 tb (e0 t l) n i (B.buf 117 4 (parE (e0 t l) n i a) false) Y
      have hpl := parE_len (e0 t l) n i a
      have hps := parE_succ (e0 t l) n i a
      rw [← hc2] at hps
      have hcn := cntTo_le t l c2
      cases hqh : hasC l ⟨rw.id, (a : Int)⟩ with
      | true =>
        rw [hqh] at hch
        obtain ⟨k1, k2⟩ := e0_in (t := t) (l := l) (x := c2) (by rw [hat]; exact hasC_iff.1 hqh)
        rw [k1] at hps
        obtain ⟨cn, hcn'⟩ : ∃ cn, cn = cntTo t l c2 := ⟨_, rfl⟩
        rw [← hcn'] at hps k2 hcn
        have hcn2 := hcn'.symm
        refine W_x tok mixed ?_
        simp -implicitDefEqProofs -dsimp [w0, t0', tl, hne', hab, hit, hrw', encRw, hcn2]
        refine (callP (hch) (by simp)).mono ?_
        rintro r H' ⟨rfl, rfl⟩
        simp -implicitDefEqProofs -dsimp [hcn2, wrapS cn (by omega), wx, tl, hx, hsx, hpl, cap40 a (by omega), wrapS a (by omega)]
        refine hN2 (a + 1, c2 + 1) _ _ ⟨by simp only; omega, by simp only; omega⟩ (by simp only; omega) (by simp [k2]) ⟨[], by simp [hps, encEn, zV]⟩ (by simp [tl, LC]; omega) (hrb2 _)
      | false =>
        rw [hqh] at hch
        obtain ⟨k1, k2⟩ := e0_out (t := t) (l := l) (x := c2) (by rw [hat]; exact fun h => by rw [hasC_iff.2 h] at hqh; cases hqh)
        rw [k1, hvt] at hps
        refine W_x tok mixed ?_
        simp -implicitDefEqProofs -dsimp [w0, t0', tl, hne', hab, hit, hrw', encRw]
        refine (callP (hch) (by simp)).mono ?_
        rintro r H' ⟨rfl, rfl⟩
        simp -implicitDefEqProofs -dsimp [w0, t0', tl, wx, hit, hrw', encRw, LV, hva, encV, hx, hsx, hpl, cap40 a (by omega), wrapS a (by omega)]
        refine hN2 (a + 1, c2 + 1) _ _ ⟨by simp only; omega, by simp only; omega⟩ (by simp only; omega) (by simp [k2]) ⟨[], by simp [hps, encEn]⟩ (by simp [tl, LC]; omega) (hrb2 _)
    · obtain rfl : a = n := by omega
      have hnx := hs_next b0 b1 tb (e0 t l) a i
      refine W_x tok mixed ?_
      simp -implicitDefEqProofs -dsimp [w0, t0', tl, hne', hab]
      refine hQ2 _ _ _ ?_
      simp -implicitDefEqProofs -dsimp [w1, t1', tl, t1l, cap24 i (by omega), hnx, wrapS i (by omega)]
      refine hN (i + 1, c2) _ _ ⟨by simp only; omega, by simp only; rw [hc2, Nat.add_mul]; omega⟩ (by simp only; omega) (by simp) ⟨[], by simp⟩ (by simp [tl, LC]; omega) (hs_rb h0t h1t hbt _ _ _)
  · have him : i = m := by omega
    subst him
    have gH := hs_ok h0t h1t hbt (e0 t l) n i
    have hFq : FdsOk q.fds := hqf ▸ hF
    refine W_x tok mixed ?_
    simp -implicitDefEqProofs -dsimp [t0, hme', hib]
    refine hQ _ _ _ ?_
    simp -implicitDefEqProofs -dsimp []
    refine lw_of (W_loopV [false, false, false, false, false, false, true, true, false, false, false, false, false, false, false, false, false, false, false, false, false, false, false, false, false, false, false, false, false, false, false, false, false, false, false, false, false, false, false, false, false, false, false, false, false, false, false, false, false, false, false, false, false, false, false, false, false, false, false, false, false, true, true, true, true, true, true, true, true] (σ := Nat → En) (fun e => Ent q (fun x => toD (e x)) ∧ EnOk e (q.m * q.n) (q.m * q.n)) (fun e => cntS (q.m * q.n) (q.m * q.n + 1) (fun x => toD (e x))) (fun _ => []) (fun e => He (HS b0 b1 tb (e0 t l) n i) 4 i n e) (e0 t l) ⟨hE0, hO⟩ (by simp) (by rw [hs_he]) (by simp [he_len]) ?_)
    rintro e ⟨hE, hOe⟩ N2 Q2 hN2 hQ2
    have cs := step_q hqm hqn gH e hE hOe hn hm df hFq
    rw [hqf] at cs
    simp only [LF] at cs
    refine W_x tok mixed ?_
    simp -implicitDefEqProofs -dsimp []
    refine WCall.mono (K := StepQ q (HS b0 b1 tb (e0 t l) n i) 4 (q.m * q.n) e) cs ?_
    rintro r' H' (⟨rfl, hcl, G, rfl⟩ | ⟨rfl, hno, G, rfl⟩ | ⟨rfl, e', G, rfl, h1, h2, h3⟩)
    · simp -implicitDefEqProofs -dsimp []
      refine hQ2 _ _ _ ?_
      simp -implicitDefEqProofs -dsimp []
      refine .inr ⟨by rw [hqm], e, G, by rw [hqm, hqn], hE, hOe, hcl⟩
    · simp -implicitDefEqProofs -dsimp []
      refine hQ2 _ _ _ ?_
      simp -implicitDefEqProofs -dsimp []
      exact .inl ⟨rfl, hno, e, G, by rw [hqm, hqn]⟩
    · simp -implicitDefEqProofs -dsimp []
      refine hN2 e' _ _ ⟨h1, h2⟩ h3 (by simp) ⟨G, by rw [hqm, hqn]⟩ (by simp [he_len, tl, LC]; omega) (he_rb gH e')
end Go.Proofs.YteijbpppalhihaaGreat
end

section
/- V12: begin at a heap of two blocks. Expanded by pp.py; printed by genV8.py. -/
set_option linter.unusedSimpArgs false
set_option maxRecDepth 100000
namespace Go.Proofs.YteijbpppalhihaaGreat
open Go Go.AM
set_option maxHeartbeats 32000000 in
theorem begin2 (t : Tb) (ff gg cf : Bool) (fds : List Fd) (cells : List Cr) (hv : TbV t) (hs : sortedC cells) (hcl : cells.length ≤ 1000000) (b0 b1 : B) (hb : ∀ bl ∈ [b0, b1], rbB 1 bl) :
    ConH Tryz.prog 51 [encTb ff gg t, LC cf cells] [b0, b1] fun r' H' => r' = .ptr 3 0 ∧ H' = begH [b0, b1] ff gg t (probT t fds cells).K := by
  have hm := hv.rows
  have hn := hv.attrs
  obtain ⟨K, hKe⟩ : ∃ K, K = (probT t fds cells).K := ⟨_, rfl⟩
  rw [← hKe]
  obtain ⟨n, hne⟩ : ∃ n, n = t.attrs.length := ⟨_, rfl⟩
  obtain ⟨m, hme⟩ : ∃ m, m = t.rows.length := ⟨_, rfl⟩
  have hne' := hne.symm
  have hme' := hme.symm
  rw [hne'] at hn
  rw [hme'] at hm
  have hb0 : ∀ k, 1 ≤ k → rbB k b0 := fun k hk => rbB_mono hk (hb _ (by simp))
  have hb1 : ∀ k, 1 ≤ k → rbB k b1 := fun k hk => rbB_mono hk (hb _ (by simp))
  refine conH_of_W tok Tryz.func51 rfl rfl ?_
  refine W_x tok mixed ?_
  simp -implicitDefEqProofs -dsimp [Tryz.f51, List.replicate, encTb, LS, LR, hne', hme']
  refine lw_of (W_ownC 3 1 [] 3 [1] rfl (lfL_own _ _) (by simp) (W_ownC 113 1 [] 3 [2] rfl (lfL_own _ _) (by simp) (W_loopV [false, false, false, false, false, false, false, true, true, true, true, false, false, false, false, false, false, false, false, true, true, true, true, true, true, true, true, true, true, true, true, true, true, true, true, true, true, true, true, true, true, true, true, true, true, true, true, true, true, true, true, true, true, true, true, true, true, true, true, true, true, true, true, true, true, true, true, true, true, true, true, true, true, true, true, true, true] (σ := Nat × Nat) (fun p => p.1 ≤ m ∧ p.2 = p.1 * n) (fun p => m - p.1) (fun p => [(19, .int .i64 p.1)]) (fun p => [b0, b1, B.cells [.str t.name, .lst 1 ff (t.attrs.map V.str), .lst 2 gg (t.rows.map encRw)], B.cells [.int .i64 n, .buf 4 0 p.2 p.2, .buf 5 0 p.2 p.2], B.buf 3 1 (paR p.2) false, B.buf 113 1 (knL K p.2) false]) (0, 0) ⟨by simp, by simp⟩ (by simp) (by simp [paR_zero, knL_zero]) (by simp) ?_)))
  rintro ⟨i, c⟩ ⟨hi, hc⟩ N Q hN hQ
  simp only at hi hc hN
  by_cases hib : i < m
  · have hit : i < t.rows.length := by omega
    obtain ⟨rw, hrw⟩ : ∃ rw, rw = t.rows[i] := ⟨_, rfl⟩
    have hrw' := hrw.symm
    have hvl : rw.vals.length = n := by rw [hrw, hne]; exact hv.len _ (List.getElem_mem hit)
    refine W_x tok mixed ?_
    simp -implicitDefEqProofs -dsimp [hib, hrw', encRw, hit, LV, hne']
    refine lw_of (W_loopV [false, false, false, false, false, false, false, false, true, true, true, false, false, false, false, false, false, false, false, false, false, false, false, false, false, false, true, true, true, true, true, true, true, true, true, true, true, true, true, true, true, true, true, true, true, true, true, true, true, true, true, true, true, true, true, true, true, true, true, true, true, true, true, true, true, true, true, true, true, true, true, true, true, true, true, true] (σ := Nat × Nat) (fun p => p.1 ≤ n ∧ p.2 = i * n + p.1) (fun p => n - p.1) (fun p => [(26, .int .i64 p.1)]) (fun p => [b0, b1, B.cells [.str t.name, .lst 1 ff (t.attrs.map V.str), .lst 2 gg (t.rows.map encRw)], B.cells [.int .i64 n, .buf 4 0 p.2 p.2, .buf 5 0 p.2 p.2], B.buf 3 1 (paR p.2) false, B.buf 113 1 (knL K p.2) false, B.cells [.int .i64 rw.id, .lst 3 false (rw.vals.map encV)]]) (0, c) ⟨by simp, by simp [hc]⟩ (by simp) (by simp) (by simp) ?_)
    rintro ⟨a, c2⟩ ⟨ha, hc2⟩ N2 Q2 hN2 hQ2
    simp only at ha hc2 hN2
    by_cases hab : a < n
    · have hlt := cell_lt hib hab
      have hbig : m * n ≤ 1000 * 16 := Nat.mul_le_mul hm hn
      have hpl := paR_len c2
      have hkl := knL_len K c2
      have hps := paR_succ c2
      have hks := knL_succ K c2
      have hat : crAt t (i * n + a) = ⟨rw.id, (a : Int)⟩ := by
        rw [hne, crAt_at t (hne ▸ hab), rwAt_in hit, ← hrw]
      have hvt : vlAt t (i * n + a) = vAt rw.vals a := by
        rw [hne, vlAt_at t (hne ▸ hab), rwAt_in hit, ← hrw]
      have hbs := bsearchC cells ⟨rw.id, (a : Int)⟩ cf hcl
      simp only [encCr] at hbs
      have hmem := bsF_mem hs ⟨rw.id, (a : Int)⟩
      have hcap := cap8 c2 (by omega)
      cases hq : bsF cells ⟨rw.id, (a : Int)⟩ with
      | true =>
        rw [hq] at hbs
        have hKc : K c2 = none := by rw [hKe, hc2]; exact probK_in (by rw [hat]; exact hmem.1 hq)
        rw [hKc] at hks
        refine W_x tok mixed ?_
        simp -implicitDefEqProofs -dsimp [hab]
        refine lw_of (W_drawT tok mixed [11, 14] [(0, [1])] [] (by kernel_rfl) fun C K hC hK => ?_)
        simp -implicitDefEqProofs [hpl, hcap]
        refine hK _ _ ?_
        simp -implicitDefEqProofs -dsimp []
        refine (callP (hbs) (by simp)).mono ?_
        rintro r H' ⟨rfl, rfl⟩
        simp -implicitDefEqProofs -dsimp [hkl, hcap, wrapS a (by omega), encK]
        refine hN2 (a + 1, c2 + 1) _ _ ⟨by simp only; omega, by simp only; omega⟩ (by simp only; omega) (by simp) ⟨[], by simp [hps, hks, encK]⟩ (by simp [LC]) (by simp [↓hb0, ↓hb1])
      | false =>
        rw [hq] at hbs
        have hKc : K c2 = some (vAt rw.vals a) := by rw [hKe, hc2, ← hvt]; exact probK_out (by rw [hat]; exact fun h => by rw [hmem.2 h] at hq; cases hq)
        rw [hKc] at hks
        have hva : a < rw.vals.length := by omega
        have hvi := vAt_in hva
        rw [hvi] at hks
        refine W_x tok mixed ?_
        simp -implicitDefEqProofs -dsimp [hab]
        refine lw_of (W_drawT tok mixed [11, 14] [(0, [1])] [] (by kernel_rfl) fun C K hC hK => ?_)
        simp -implicitDefEqProofs [hpl, hcap]
        refine hK _ _ ?_
        simp -implicitDefEqProofs -dsimp []
        refine (callP (hbs) (by simp)).mono ?_
        rintro r H' ⟨rfl, rfl⟩
        simp -implicitDefEqProofs -dsimp []
        refine lw_of (W_drawT tok mixed [10, 13] [(0, [1])] [] (by kernel_rfl) fun C K hC hK => ?_)
        simp -implicitDefEqProofs [hkl, hcap, hva, encV, encK]
        refine hK _ _ ?_
        simp -implicitDefEqProofs -dsimp [wrapS a (by omega)]
        refine hN2 (a + 1, c2 + 1) _ _ ⟨by simp only; omega, by simp only; omega⟩ (by simp only; omega) (by simp) ⟨[], by simp [hps, hks, encK]⟩ (by simp [LC]) (by simp [↓hb0, ↓hb1])
    · have hae : a = n := by omega
      subst hae
      refine W_x tok mixed ?_
      simp -implicitDefEqProofs -dsimp [hab]
      refine hQ2 _ _ _ ?_
      simp -implicitDefEqProofs -dsimp [wrapS i (by omega)]
      refine hN (i + 1, c2) _ _ ⟨by simp only; omega, by simp only; rw [hc2, Nat.add_mul]; omega⟩ (by simp only; omega) (by simp) ⟨_, rfl⟩ (by simp [LC]) (by simp [↓hb0, ↓hb1])
  · have hie : i = m := by omega
    subst hie
    refine W_x tok mixed ?_
    simp -implicitDefEqProofs -dsimp [hib]
    refine hQ _ _ _ ?_
    simp -implicitDefEqProofs -dsimp []
    simp [begH, LS, LR, ← hme, ← hne, hc]
end Go.Proofs.YteijbpppalhihaaGreat
end

section
/- U7: the filled table, whatever the search was. -/
set_option linter.unusedSimpArgs false
namespace Go.Proofs.YteijbpppalhihaaGreat
open Go Go.AM
/-- A solution of which all others are instances. -/
structure GenS (q : Prob) (c : Nat → Dm) : Prop where
  sol : Sol q c
  gen : ∀ σ, Sol q σ → ∃ τ : Nat → Dm, ∀ x, x < q.m * q.n → σ x = app τ (c x)
theorem GenS.eq_iff {q : Prob} {c : Nat → Dm} (h : GenS q c) {x y : Nat} (hx : x < q.m * q.n) (hy : y < q.m * q.n) : c x = c y ↔ ∀ σ, Sol q σ → σ x = σ y :=
  ⟨fun he σ hs => by
    obtain ⟨τ, ht⟩ := h.gen σ hs
    rw [ht x hx, ht y hy, he], fun hf => hf c h.sol⟩
theorem GenS.val_iff {q : Prob} {c : Nat → Dm} (h : GenS q c) {x : Nat} {v : Vl} (hx : x < q.m * q.n) : c x = .inl v ↔ ∀ σ, Sol q σ → σ x = .inl v :=
  ⟨fun he σ hs => by
    obtain ⟨τ, ht⟩ := h.gen σ hs
    rw [ht x hx, he]; rfl, fun hf => hf c h.sol⟩
theorem GenS.out {q : Prob} {c c' : Nat → Dm} (h : GenS q c) (g : GenS q c') (u : Int → Bool) {x : Nat} (hx : x < q.m * q.n) : outV u c x = outV u c' x :=
  out_eq (N := q.m * q.n) (fun _ _ hx hy => (h.eq_iff hx hy).trans (g.eq_iff hx hy).symm) (fun _ _ hx => (h.val_iff hx).trans (g.val_iff hx).symm) u hx
theorem Frt.gen {q : Prob} {P : List Nat} {r h : Nat → Nat} (f : Frt q P r h) (hc : Closed q r) : GenS q (star q r) := by
  refine ⟨f.sol hc, fun σ hσ => ⟨σ, fun x hx => ?_⟩⟩
  unfold star
  rw [f.sem σ hσ x hx]
  cases hk : q.K (r x) with
  | some v => exact hσ.fix _ v (f.lt x hx) hk
  | none => rfl
theorem Ent.gen {q : Prob} {e : Nat → Dm} (h : Ent q e) (hc : ClosedE q e) : GenS q e := ⟨h.sol hc, h.sem⟩
open Classical in
noncomputable def genC (q : Prob) : Nat → Dm := if h : ∃ c, GenS q c then h.choose else fun _ => .inr 0
theorem genC_ok {q : Prob} {c : Nat → Dm} (h : GenS q c) : GenS q (genC q) := by
  have hex : ∃ c, GenS q c := ⟨c, h⟩
  unfold genC
  rw [dif_pos hex]
  exact hex.choose_spec
/-- The numbers of the unknown values of a table. -/
def unkT (t : Tb) (k : Int) : Bool := (List.range (t.rows.length * t.attrs.length)).any fun y => decide ((vlAt t y).k = 3) && decide ((vlAt t y).n = k)
noncomputable def filRow (t : Tb) (c : Nat → Dm) (i : Nat) : Rw := ⟨(rwAt t i).id, (List.range t.attrs.length).map fun a => outV (unkT t) c (i * t.attrs.length + a)⟩
noncomputable def filT (t : Tb) (c : Nat → Dm) : Tb := ⟨t.name, t.attrs, (List.range t.rows.length).map (filRow t c)⟩
theorem filT_congr {t : Tb} {fds : List Fd} {l : List Cr} {c c' : Nat → Dm} (h : GenS (probT t fds l) c) (g : GenS (probT t fds l) c') : filT t c = filT t c' := by
  unfold filT
  congr 1
  refine List.map_congr_left fun i hi => ?_
  unfold filRow
  congr 1
  refine List.map_congr_left fun a ha => ?_
  exact h.out g _ (cell_lt (m := (probT t fds l).m) (n := (probT t fds l).n) (List.mem_range.1 hi) (List.mem_range.1 ha))
/-- The filled table. -/
noncomputable def filTb (t : Tb) (fds : List Fd) (l : List Cr) : Tb := filT t (genC (probT t fds l))
theorem filTb_eq {t : Tb} {fds : List Fd} {l : List Cr} {c : Nat → Dm} (h : GenS (probT t fds l) c) : filTb t fds l = filT t c := filT_congr (genC_ok h) h
/- New numbers. -/
def Bnd (u : Int → Bool) (b : Int) : Prop := ∀ k, u k = true → k ≤ b
theorem nxt_exists {u : Int → Bool} {b : Int} (hu : Bnd u b) (n : Int) : ∀ (d : Nat) (k : Int), n < k → (∀ j, n < j → j < k → u j = true) → b + 1 - k ≤ d → ∃ m, IsNxt u n m ∧ m ≤ max k (b + 1)
  | 0, k, h1, h2, h3 => by
    refine ⟨k, ⟨h1, ?_, h2⟩, by omega⟩
    cases hk : u k
    · rfl
    · have := hu k hk; omega
  | d + 1, k, h1, h2, h3 => by
    cases hk : u k with
    | false => exact ⟨k, ⟨h1, hk, h2⟩, by omega⟩
    | true =>
      have hb := hu k hk
      obtain ⟨m, hm, hl⟩ := nxt_exists hu n d (k + 1) (by omega) (fun j hj1 hj2 => by
        rcases Int.lt_or_le j k with h | h
        · exact h2 j hj1 h
        · have : j = k := by omega
          subst this; exact hk) (by omega)
      exact ⟨m, hm, by omega⟩
theorem nxt_ok {u : Int → Bool} {b : Int} (hu : Bnd u b) (n : Int) : IsNxt u n (nxt u n) ∧ nxt u n ≤ max (n + 1) (b + 1) := by
  obtain ⟨m, hm, hl⟩ := nxt_exists hu n (b + 1 - (n + 1)).toNat (n + 1) (by omega) (fun j h1 h2 => by omega) (by omega)
  rw [nxt_eq hm]
  exact ⟨hm, hl⟩
theorem numP_le {u : Int → Bool} {b : Int} (hu : Bnd u b) (hb : 0 ≤ b) : ∀ k : Nat, 0 ≤ numP u k ∧ numP u k ≤ b + k
  | 0 => by simp [numP]; exact hb
  | k + 1 => by
    have ih := numP_le hu hb k
    have h := nxt_ok hu (numP u k)
    have := h.1.gt
    rw [numP]
    omega
theorem fp_min (c : Nat → Dm) (x : Nat) : ∀ z, z < fp c x → c z ≠ c x := by
  intro z hz he
  unfold fp at hz
  cases h : (List.range (x + 1)).find? fun y => open Classical in decide (c y = c x) with
  | none =>
    rw [h] at hz
    have := List.find?_eq_none.1 h x (by simp)
    simp at this
  | some y =>
    rw [h] at hz
    simp only [Option.getD_some] at hz
    obtain ⟨_, as', bs, h3, h4⟩ := List.find?_eq_some_iff_append.1 h
    have hzm : z ∈ as' := by
      have hy : y < x + 1 := by have := List.mem_of_find?_eq_some h; simpa using this
      have hall : z ∈ as' ++ y :: bs := by rw [← h3]; simp; omega
      rcases List.mem_append.1 hall with h5 | h5
      · exact h5
      · exfalso
        have hp : (as' ++ y :: bs).Pairwise (· < ·) := by rw [← h3]; exact List.pairwise_lt_range
        rw [List.pairwise_append] at hp
        rcases List.mem_cons.1 h5 with h6 | h6
        · omega
        · have := (List.pairwise_cons.1 hp.2.1).1 z h6; omega
    have := h4 z hzm
    simp [he] at this
theorem fp_uniq {c : Nat → Dm} {x y : Nat} (h : c y = c x) : fp c y = fp c x := by
  have h1 := fp_min c x
  have h2 := fp_min c y
  have h3 := fp_same c x
  have h4 := fp_same c y
  rcases Nat.lt_trichotomy (fp c y) (fp c x) with e | e | e
  · exact absurd (h4.trans h) (h1 _ e)
  · exact e
  · exact absurd (h3.trans h.symm) (h2 _ e)
def isSym (d : Dm) : Prop := ∃ s, d = .inr s
theorem isSym_inl {d : Dm} {v : Vl} (h : d = .inl v) : ¬ isSym d := by rintro ⟨s, hs⟩; rw [h] at hs; cases hs
theorem not_isSym {d : Dm} (h : ¬ isSym d) : ∃ v, d = .inl v := by
  cases d with
  | inl v => exact ⟨v, rfl⟩
  | inr s => exact absurd ⟨s, rfl⟩ h
theorem rank_new {c : Nat → Dm} {x : Nat} (h1 : isSym (c x)) (h2 : fp c x = x) : rankC c (x + 1) = rankC c x + 1 := by
  unfold rankC
  rw [List.range_succ, List.filter_append, List.length_append]
  congr 1
  rw [List.filter_cons, if_pos (by simpa [isSym] using And.intro h1 h2)]
  rfl
theorem rank_old {c : Nat → Dm} {x : Nat} (h : ¬ (isSym (c x) ∧ fp c x = x)) : rankC c (x + 1) = rankC c x := by
  unfold rankC
  rw [List.range_succ, List.filter_append, List.length_append]
  rw [show List.filter _ [x] = [] by rw [List.filter_cons, if_neg (by simpa [isSym] using h)]; rfl]
  rfl
theorem rank_le (c : Nat → Dm) (x : Nat) : rankC c x ≤ x := by
  unfold rankC
  exact Nat.le_trans (List.length_filter_le _ _) (by simp)
/-- The number of a cell's class. -/
noncomputable def cls (u : Int → Bool) (c : Nat → Dm) (x : Nat) : Int := numP u (rankC c (fp c x) + 1)
theorem out_inl {u : Int → Bool} {c : Nat → Dm} {x : Nat} {v : Vl} (h : c x = .inl v) : outV u c x = v := by unfold outV; rw [h]
theorem out_inr {u : Int → Bool} {c : Nat → Dm} {x : Nat} (h : isSym (c x)) : outV u c x = ⟨3, cls u c x, ByteArray.empty⟩ := by
  obtain ⟨s, hs⟩ := h
  unfold outV; rw [hs]; rfl
theorem cls_new {u : Int → Bool} {c : Nat → Dm} {x : Nat} (h : fp c x = x) : cls u c x = nxt u (numP u (rankC c x)) := by
  unfold cls; rw [h]; rfl
theorem cls_uniq {u : Int → Bool} {c : Nat → Dm} {x y : Nat} (h : c y = c x) : cls u c y = cls u c x := by
  unfold cls; rw [fp_uniq h]
open Classical in
/-- The roots of the unknown classes that stand before x. -/
noncomputable def nmL (c : Nat → Dm) (r : Nat → Nat) (x : Nat) : List Nat := ((List.range x).filter fun y => decide (isSym (c y) ∧ fp c y = y)).map r
theorem nmL_zero (c : Nat → Dm) (r : Nat → Nat) : nmL c r 0 = [] := rfl
theorem nmL_new {c : Nat → Dm} {r : Nat → Nat} {x : Nat} (h1 : isSym (c x)) (h2 : fp c x = x) : nmL c r (x + 1) = nmL c r x ++ [r x] := by
  unfold nmL
  rw [List.range_succ, List.filter_append, List.map_append]
  congr 1
  rw [List.filter_cons, if_pos (by simpa using And.intro h1 h2)]
  rfl
theorem nmL_old {c : Nat → Dm} {r : Nat → Nat} {x : Nat} (h : ¬ (isSym (c x) ∧ fp c x = x)) : nmL c r (x + 1) = nmL c r x := by
  unfold nmL
  rw [List.range_succ, List.filter_append, List.map_append]
  rw [show List.filter _ [x] = [] by rw [List.filter_cons, if_neg (by simpa using h)]; rfl]
  simp
theorem nmL_mem {q : Prob} {r : Nat → Nat} {x : Nat} (h : isSym (star q r x)) : r x ∈ nmL (star q r) r x ↔ fp (star q r) x ≠ x := by
  have hr : ∀ y, star q r y = star q r x → r y = r x := fun y he => by
    obtain ⟨s, hs⟩ := h
    have h1 : star q r x = .inr (r x) := by
      unfold star at hs ⊢
      cases hk : q.K (r x) with
      | some v => rw [hk] at hs; cases hs
      | none => rfl
    rw [h1] at he
    unfold star at he
    cases hk : q.K (r y) with
    | some v => rw [hk] at he; cases he
    | none => rw [hk] at he; exact Sum.inr.inj he
  have hle := fp_le (star q r) x
  constructor
  · intro hm
    obtain ⟨y, hy, hyr⟩ := List.mem_map.1 hm
    obtain ⟨h1, h2⟩ := List.mem_filter.1 hy
    have hlt : y < x := by simpa using h1
    obtain ⟨h3, h4⟩ : isSym (star q r y) ∧ fp (star q r) y = y := by simpa using h2
    have : star q r y = star q r x := by unfold star; rw [hyr]
    have := fp_uniq this
    omega
  · intro hne
    have h1 := fp_same (star q r) x
    refine List.mem_map.2 ⟨fp (star q r) x, List.mem_filter.2 ⟨by simp; omega, by simpa using And.intro (show isSym (star q r (fp (star q r) x)) by rw [h1]; exact h) (fp_uniq h1)⟩, hr _ h1⟩
/-- The entries of the reference while the numbers are given. -/
theorem fp_fp (c : Nat → Dm) (x : Nat) : fp c (fp c x) = fp c x := fp_uniq (fp_same c x)
end Go.Proofs.YteijbpppalhihaaGreat
end

section
/- Mp: maps with numbers as keys, whose values are a function of the key. Expanded by pp.py. -/
set_option linter.unusedSimpArgs false
namespace Go.Proofs.YteijbpppalhihaaGreat
open Go Go.AM
def mF (enc : Int → V) (us : List Int) : List (V × V) := us.map fun x => (V.int .i64 x, enc x)
theorem mF_nil (enc : Int → V) : mF enc [] = [] := rfl
theorem mF_snoc (enc : Int → V) (us : List Int) (x : Int) : mF enc (us ++ [x]) = mF enc us ++ [(V.int .i64 x, enc x)] := by simp [mF]
theorem findF_cons (enc : Int → V) (x u : Int) (us : List Int) (i : Nat) : findA (.int .i64 x) (mF enc (u :: us)) i = if (x == u) = true then some (i, enc u) else findA (.int .i64 x) (mF enc us) (i + 1) := rfl
theorem findF_no {enc : Int → V} {x : Int} : ∀ {us : List Int} {i : Nat}, memB us x = false → findA (.int .i64 x) (mF enc us) i = none
  | [], _, _ => rfl
  | u :: us, i, h => by
    rw [memB_cons, Bool.or_eq_false_iff] at h
    rw [findF_cons, h.1, if_neg (by simp)]
    exact findF_no h.2
theorem findF_yes {enc : Int → V} {x : Int} : ∀ {us : List Int} {i : Nat}, memB us x = true → ∃ j, findA (.int .i64 x) (mF enc us) i = some (i + j, enc x) ∧ us[j]? = some x
  | [], _, h => by simp [memB] at h
  | u :: us, i, h => by
    rw [findF_cons]
    cases hq : x == u
    · rw [memB_cons, hq, Bool.false_or] at h
      obtain ⟨j, h1, h2⟩ := findF_yes (enc := enc) (i := i + 1) h
      exact ⟨j + 1, by rw [if_neg (by simp)]; rw [show i + (j + 1) = i + 1 + j by omega]; exact h1, by simpa using h2⟩
    · exact ⟨0, by simp [beq_iff_eq.1 hq], by simp [beq_iff_eq.1 hq]⟩
theorem set_mF {enc : Int → V} {us : List Int} {x : Int} {j : Nat} (h : us[j]? = some x) : (mF enc us).set j (V.int .i64 x, enc x) = mF enc us := by
  unfold mF
  apply List.ext_getElem?
  intro k
  by_cases hk : j = k
  · subst hk
    have hl := getElem?_lt h
    rw [List.getElem?_set_self (by simpa using hl), List.getElem?_map, h]; rfl
  · rw [List.getElem?_set_ne hk]
theorem rbB_mF {enc : Int → V} (he : ∀ n x, rb n (enc x)) (n : Nat) (kk : KK) (us : List Int) : rbB n (.map kk (mF enc us)) ↔ True := by
  refine ⟨fun _ => trivial, fun _ p hp => ?_⟩
  obtain ⟨x, _, rfl⟩ := List.mem_map.1 hp
  exact ⟨trivial, he n x⟩
def addK (us : List Int) (k : Int) : List Int := if memB us k = true then us else us ++ [k]
theorem addK_yes {us : List Int} {k : Int} (h : memB us k = true) : addK us k = us := by unfold addK; rw [if_pos h]
theorem addK_no {us : List Int} {k : Int} (h : memB us k = false) : addK us k = us ++ [k] := by unfold addK; rw [if_neg (by rw [h]; simp)]
theorem addK_mem {us : List Int} {k x : Int} : x ∈ addK us k ↔ x ∈ us ∨ x = k := by
  cases h : memB us k with
  | true =>
    rw [addK_yes h]
    exact ⟨.inl, fun g => g.elim id fun e => by rw [e]; exact memB_iff.1 h⟩
  | false => rw [addK_no h]; simp
theorem wcall_of {P : Program} {f : FuncId} {args : List V} {H : List B} {K K' : V → List B → Prop} (h : ConH P f args H K) (hk : ∀ r H', K r H' → K' r H') : WCall P (.fn f []) args H K' := by
  simp only [WCall, List.append_nil]
  exact h.mono hk
end Go.Proofs.YteijbpppalhihaaGreat
end

section
/- T12: equal lists of strings, rows, tables. Expanded by pp.py. -/
set_option linter.unusedSimpArgs false
set_option maxRecDepth 100000
namespace Go.Proofs.YteijbpppalhihaaGreat
open Go Go.AM
def eqSt (a b : ByteArray) : Bool := a.toList == b.toList
theorem eqSt_self (a : ByteArray) : eqSt a a = true := by simp [eqSt]
def eqSs (a b : List ByteArray) : Bool := decide (a.length = b.length) && (List.range a.length).all fun i => eqSt (sAt a i) (sAt b i)
theorem eqSs_self (a : List ByteArray) : eqSs a a = true := by simp [eqSs, eqSt_self]
set_option maxHeartbeats 8000000 in
theorem strings03 (a b : List ByteArray) (f g : Bool) (hl : a.length ≤ 1000000) : ConP Tryz.prog 59 [LS f a, LS g b] fun r => r = .bool (eqSs a b) := by
  unfold eqSs
  by_cases h0 : a.length = b.length
  · rw [decide_eq_true h0, Bool.true_and]
    obtain ⟨E, hE⟩ : ∃ E, E = (List.range a.length).all fun i => eqSt (sAt a i) (sAt b i) := ⟨_, rfl⟩
    rw [← hE]
    refine conP_of_conH (conH_of_W tok Tryz.func59 rfl rfl ?_)
    refine W_x tok mixed ?_
    simp -implicitDefEqProofs -dsimp [Tryz.f59, List.replicate, LS, h0]
    refine lw_of (W_loopV [false, false, false, false, true, true, false, false, false, false, false, true, true, true, true, true, true, true, true, true, true, true, true, true, true, true] (σ := Nat) (fun i => i ≤ a.length ∧ (List.range i).all (fun i => eqSt (sAt a i) (sAt b i)) = true) (fun i => a.length - i) (fun i => [(5, .int .i64 i)]) (fun _ => []) 0 ⟨by omega, rfl⟩ (by simp) rfl (by simp) ?_)
    rintro i ⟨hi, hall⟩ N Q hN hQ
    by_cases hb : i < a.length
    · have hb2 : i < b.length := by omega
      have ha1 : sAt a i = a[i] := by simp [sAt, hb]
      have ha2 : sAt b i = b[i] := by simp [sAt, hb2]
      cases hq : (a[i].toList == b[i].toList) with
      | true =>
        refine W_x tok mixed ?_
        simp -implicitDefEqProofs -dsimp [hb, hb2, hq]
        refine .inr ⟨stop_of (by kernel_rfl), ?_⟩
        simp -implicitDefEqProofs -dsimp [wrapS i (by omega)]
        refine hN (i + 1) _ _ ⟨by omega, all_succ hall (by unfold eqSt; rw [ha1, ha2, hq])⟩ (by omega) (by simp) ⟨[], rfl⟩ (by simp) (by simp)
      | false =>
        have hno : (List.range a.length).all (fun i => eqSt (sAt a i) (sAt b i)) = false := by
          cases hh : (List.range a.length).all (fun i => eqSt (sAt a i) (sAt b i))
          · rfl
          · have := List.all_eq_true.1 hh i (by simpa using hb)
            rw [eqSt, ha1, ha2, hq] at this; cases this
        rw [hno] at hE
        refine W_x tok mixed ?_
        simp -implicitDefEqProofs -dsimp [hb, hb2, hq]
        refine .inr ⟨stop_of (by kernel_rfl), ?_⟩
        refine hQ _ _ _ ?_
        simp -implicitDefEqProofs -dsimp []
        exact hE
    · obtain rfl : i = a.length := by omega
      rw [hall] at hE
      refine W_x tok mixed ?_
      simp -implicitDefEqProofs -dsimp [hb]
      refine hQ _ _ _ ?_
      simp -implicitDefEqProofs -dsimp []
      exact hE
  · rw [decide_eq_false h0, Bool.false_and]
    refine conP_of_conH (conH_of_W tok Tryz.func59 rfl rfl ?_)
    refine W_x tok mixed ?_
    simp -implicitDefEqProofs -dsimp [Tryz.f59, List.replicate, LS, show ¬ ((a.length : Int) = b.length) by omega]
def eqRw (a b : Rw) : Bool := decide (a.id = b.id) && cmpVs a.vals b.vals == 0
theorem cmpI_self (x : Int) : cmpI x x = 0 := by unfold cmpI; simp
theorem cmpB_self : ∀ a : List UInt8, Lib.compareBytes a a = 0
  | [] => by simp [Lib.compareBytes]
  | x :: xs => by
    rw [Lib.compareBytes, if_neg (UInt8.lt_irrefl _), if_neg (UInt8.lt_irrefl _)]
    exact cmpB_self xs
theorem cmpV_self (v : Vl) : cmpV v v = 0 := by
  unfold cmpV
  rw [if_pos (cmpI_self _), if_pos (cmpI_self _)]
  exact cmpB_self _
set_option maxHeartbeats 8000000 in
theorem equalRows03 (a b : Rw) (hl : a.vals.length ≤ 1000000) (hs : ∀ v ∈ a.vals, v.s.size ≤ maxLen) : ConP Tryz.prog 60 [encRw a, encRw b] fun r => r = .bool (eqRw a b) := by
  have c1 := same01 a.vals b.vals false false hl hs
  simp only [LV] at c1
  unfold eqRw
  by_cases h : a.id = b.id
  · rw [decide_eq_true h, Bool.true_and]
    refine conP_of_conH (conH_of_W tok Tryz.func60 rfl rfl ?_)
    refine W_x tok mixed ?_
    simp -implicitDefEqProofs -dsimp [Tryz.f60, List.replicate, encRw, LV, h]
    refine (callP (c1) (by simp)).mono ?_
    rintro r H' ⟨rfl, rfl⟩
    simp -implicitDefEqProofs -dsimp []
  · rw [decide_eq_false h, Bool.false_and]
    refine conP_of_conH (conH_of_W tok Tryz.func60 rfl rfl ?_)
    refine W_x tok mixed ?_
    simp -implicitDefEqProofs -dsimp [Tryz.f60, List.replicate, encRw, LV, h]
def rwG (rs : List Rw) (i : Nat) : Rw := rs.getD i ⟨0, []⟩
def eqRs (a b : List Rw) : Bool := (List.range a.length).all fun i => eqRw (rwG a i) (rwG b i)
def eqTb (t u : Tb) : Bool := eqSt t.name u.name && (eqSs t.attrs u.attrs && (decide (t.rows.length = u.rows.length) && eqRs t.rows u.rows))
set_option maxHeartbeats 16000000 in
theorem equal03 (t u : Tb) (f g f2 g2 : Bool) (ha : t.attrs.length ≤ 1000000) (hr : t.rows.length ≤ 1000000) (hl : ∀ r ∈ t.rows, r.vals.length ≤ 1000000 ∧ ∀ v ∈ r.vals, v.s.size ≤ maxLen) : ConP Tryz.prog 25 [encTb f g t, encTb f2 g2 u] fun r => r = .bool (eqTb t u) := by
  have c1 := strings03 t.attrs u.attrs f f2 ha
  simp only [LS] at c1
  unfold eqTb
  cases h1 : (t.name.toList == u.name.toList) with
  | false =>
    rw [eqSt, h1, Bool.false_and]
    refine conP_of_conH (conH_of_W tok Tryz.func25 rfl rfl ?_)
    refine W_x tok mixed ?_
    simp -implicitDefEqProofs -dsimp [Tryz.f25, List.replicate, encTb, LS, LR, h1]
  | true =>
    rw [eqSt, h1, Bool.true_and]
    cases h2 : eqSs t.attrs u.attrs with
    | false =>
      rw [h2] at c1
      rw [Bool.false_and]
      refine conP_of_conH (conH_of_W tok Tryz.func25 rfl rfl ?_)
      refine W_x tok mixed ?_
      simp -implicitDefEqProofs -dsimp [Tryz.f25, List.replicate, encTb, LS, LR, h1]
      refine (callP (c1) (by simp)).mono ?_
      rintro r H' ⟨rfl, rfl⟩
      simp -implicitDefEqProofs -dsimp []
    | true =>
      rw [h2] at c1
      rw [Bool.true_and]
      by_cases h3 : t.rows.length = u.rows.length
      · rw [decide_eq_true h3, Bool.true_and]
        unfold eqRs
        obtain ⟨E, hE⟩ : ∃ E, E = (List.range t.rows.length).all fun i => eqRw (rwG t.rows i) (rwG u.rows i) := ⟨_, rfl⟩
        rw [← hE]
        refine conP_of_conH (conH_of_W tok Tryz.func25 rfl rfl ?_)
        refine W_x tok mixed ?_
        simp -implicitDefEqProofs -dsimp [Tryz.f25, List.replicate, encTb, LS, LR, h1]
        refine (callP (c1) (by simp)).mono ?_
        rintro r H' ⟨rfl, rfl⟩
        simp -implicitDefEqProofs -dsimp [h3]
        refine lw_of (W_loopV [false, false, false, false, true, true, false, false, false, false, false, false, false, false, false, false, false, false, false, false, false, false, false, false, false, false, false, false, true, true, true, true, true, true, true, true, true, true, true, true, true, true, true, true, true, true, true] (σ := Nat) (fun i => i ≤ t.rows.length ∧ (List.range i).all (fun i => eqRw (rwG t.rows i) (rwG u.rows i)) = true) (fun i => t.rows.length - i) (fun i => [(5, .int .i64 i)]) (fun _ => [B.cells [.str t.name, .lst 1 f (t.attrs.map V.str), .lst 2 g (t.rows.map encRw)], B.cells [.str u.name, .lst 1 f2 (u.attrs.map V.str), .lst 2 g2 (u.rows.map encRw)]]) 0 ⟨by omega, rfl⟩ (by simp) (by simp) (by simp) ?_)
        rintro i ⟨hi, hall⟩ N Q hN hQ
        by_cases hb : i < t.rows.length
        · have hb2 : i < u.rows.length := by omega
          have ha1 : rwG t.rows i = t.rows[i] := by simp [rwG, hb]
          have ha2 : rwG u.rows i = u.rows[i] := by simp [rwG, hb2]
          obtain ⟨hx1, hx2⟩ := hl t.rows[i] (List.getElem_mem hb)
          have c2 := equalRows03 t.rows[i] u.rows[i] hx1 hx2
          obtain ⟨x, hx⟩ : ∃ x, x = t.rows[i] := ⟨_, rfl⟩
          obtain ⟨y, hy⟩ : ∃ y, y = u.rows[i] := ⟨_, rfl⟩
          rw [← hx] at ha1 c2
          rw [← hy] at ha2 c2
          have hx' := hx.symm
          have hy' := hy.symm
          simp only [encRw, LV] at c2
          cases hq : eqRw x y with
          | true =>
            rw [hq] at c2
            refine W_x tok mixed ?_
            simp -implicitDefEqProofs -dsimp [hb, hb2, hx', hy', encRw, LV]
            refine .inr ⟨stop_of (by kernel_rfl), ?_⟩
            refine cy_of _ (callP (c2) (by simp)) ?_
            simp -implicitDefEqProofs -dsimp [wrapS i (by omega)]
            refine hN (i + 1) _ _ ⟨by omega, all_succ hall (by rw [ha1, ha2, hq])⟩ (by omega) (by simp) ⟨[], by simp⟩ (by simp) (by simp)
          | false =>
            rw [hq] at c2
            have hno : (List.range t.rows.length).all (fun i => eqRw (rwG t.rows i) (rwG u.rows i)) = false := by
              cases hh : (List.range t.rows.length).all (fun i => eqRw (rwG t.rows i) (rwG u.rows i))
              · rfl
              · have := List.all_eq_true.1 hh i (by simpa using hb)
                rw [ha1, ha2, hq] at this; cases this
            rw [hno] at hE
            refine W_x tok mixed ?_
            simp -implicitDefEqProofs -dsimp [hb, hb2, hx', hy', encRw, LV]
            refine .inr ⟨stop_of (by kernel_rfl), ?_⟩
            refine cy_of _ (callP (c2) (by simp)) ?_
            simp -implicitDefEqProofs -dsimp []
            refine hQ _ _ _ ?_
            simp -implicitDefEqProofs -dsimp []
            exact hE
        · obtain rfl : i = t.rows.length := by omega
          rw [hall] at hE
          refine W_x tok mixed ?_
          simp -implicitDefEqProofs -dsimp [hb]
          refine hQ _ _ _ ?_
          simp -implicitDefEqProofs -dsimp []
          exact hE
      · rw [decide_eq_false h3, Bool.false_and]
        refine conP_of_conH (conH_of_W tok Tryz.func25 rfl rfl ?_)
        refine W_x tok mixed ?_
        simp -implicitDefEqProofs -dsimp [Tryz.f25, List.replicate, encTb, LS, LR, h1]
        refine (callP (c1) (by simp)).mono ?_
        rintro r H' ⟨rfl, rfl⟩
        simp -implicitDefEqProofs -dsimp [show ¬ ((t.rows.length : Int) = u.rows.length) by omega]
theorem cmpVs_self : ∀ vs : List Vl, cmpVs vs vs = 0
  | [] => rfl
  | v :: vs => by
    simp only [cmpVs, cmpV_self]
    simpa using cmpVs_self vs
theorem eqRs_self (a : List Rw) : eqRs a a = true := by simp [eqRs, eqRw, cmpVs_self]
theorem eqTb_self (t : Tb) : eqTb t t = true := by simp [eqTb, eqSt_self, eqSs_self, eqRs_self]
@[simp ↓ high] theorem rbB_rws (n e z : Nat) (l : List Rw) (fz : Bool) : rbB n (.buf e z (l.map encRw) fz) ↔ True := by
  refine ⟨fun _ => trivial, fun _ x hx c hc => ?_⟩
  obtain ⟨r, _, rfl⟩ := List.mem_map.1 hx
  simp [encRw, LV, V.cells] at hc
  rcases hc with rfl | rfl <;> simp
@[simp ↓ high] theorem rbB_vls (n e z : Nat) (l : List Vl) (fz : Bool) : rbB n (.buf e z (l.map encV) fz) ↔ True := by
  refine ⟨fun _ => trivial, fun _ x hx c hc => ?_⟩
  obtain ⟨r, _, rfl⟩ := List.mem_map.1 hx
  simp [encV, V.cells] at hc
  rcases hc with rfl | rfl | rfl <;> simp
end Go.Proofs.YteijbpppalhihaaGreat
end

section
/- ClS: slices.Clone of lists of strings. Printed by genCl.py, expanded by pp.py. -/
set_option linter.unusedSimpArgs false
set_option maxRecDepth 100000
namespace Go.Proofs.YteijbpppalhihaaGreat
open Go Go.AM Go.RowKit
theorem infoD_S : (Tryz.prog.info? 9).map (fun i => (i.zero, i.size, i.bytes)) = some (some (.string ⟨#[]⟩), 1, 16) := by kernel_rfl
set_option maxHeartbeats 400000 in
theorem cloneE_S (A : Option Addr) (cap : Nat) (w : World) :
    Calls Tryz.prog 53 #[.slice A 0 cap] w fun e w' => ∃ v, e = .returned v ∧ w'.ownsRow w.heap.size 9 1 v 0 [] ∧ Below w.heap.size w w' := by
  have hnil := fun W A n c => Lib.run_eql_slice_nil (P := Tryz.prog) W 29 9 A n c 0 0 Tryz.underlying29
  cases A with
  | none =>
    go_enter Tryz.func53, Tryz.ntmps53
    go_wp2
    go_ret
    exact ⟨_, rfl, World.ownsRow_nil _ _ _ _, Below.refl _ _⟩
  | some ad =>
    obtain ⟨i0, hi, hz0, hz1, hz2⟩ := info_parts infoD_S
    have hown : (w.alloc (.cells #[] 9)).ownsRow w.heap.size 9 1 (.slice (some ⟨w.heap.size, 0, none⟩) 0 0) 0 [] := World.ownsRow_lit w #[] 0 (Nat.le_refl _) (by simp [maxLen]) (by simp)
    have hnews : ∀ j u, ([] : List Value)[j]? = some u → (w.alloc (.cells #[] 9)).cell? (ad.add j) = some u := by
      intro j u hu
      simp at hu
    have hone : ∀ u ∈ ([] : List Value), u.oneCell' = true := by intro u hu; cases hu
    have h63 : 0 + 0 ≤ maxLen := by simp [maxLen]
    have hby : (0 + 0) * 16 ≤ 140737488355328 := by omega
    have hlen : ([] : List Value).length = 0 * 1 := by simp
    have Hi := Lib.hid (show Tryz.prog.info? 9 = some i0 ∧ i0.zero = some _ ∧ i0.size = 1 ∧ i0.bytes = 16 from ⟨hi, hz0, hz1, hz2⟩)
    have Hw := Lib.hid (And.intro hown (And.intro hnews (And.intro hone (And.intro h63 (And.intro hby hlen)))))
    clear hnews hone hown hi hz0 hz1 hz2 h63 hby hlen
    go_enter Tryz.func53, Tryz.ntmps53
    go_wp2_with (at_builtin; refine wpList_append_own _ rfl _ _ 29 rfl w.heap.size 9 i0 _ 1 16 Tryz.underlying29 Hi.out.1 Hi.out.2.1 Hi.out.2.2.1 Hi.out.2.2.2 rfl (by omega) (.slice (some ⟨w.heap.size, 0, none⟩) 0 0) 0 [] rfl Hw.out.1 ad 0 cap [] rfl Hw.out.2.2.2.2.2 Hw.out.2.1 Hw.out.2.2.1 Hw.out.2.2.2.1 Hw.out.2.2.2.2.1 (by simp) ?_; intro v1 w1 ho hg hn; have Ho := Lib.hid ho; have Hg := Lib.hid hg; have Hn := Lib.hid hn; clear ho hg hn)
    go_ret
    exact ⟨v1, rfl, by have := Ho.out; simpa using this, ((Below.refl _ _).alloc (Nat.le_refl _) _).grown Hg.out (by simp) (by simp [Value.ownBlock])⟩
theorem cloneN_S : ∀ (f : Bool), ConP Tryz.prog 53 [.lst 1 f []] fun r => r = .lst 1 false [] := fun f => by
  have hO : ConO Tryz.prog 53 [.lst 1 f []] fun e z ys => e = 9 ∧ z = 1 ∧ ys = [] := conO_row0 ⟨Tryz.f53, Tryz.func53, rfl, rfl⟩ (fun F w vals hsz hrel => by
    obtain ⟨u0, rfl⟩ : ∃ u0, vals = #[u0] := by
      obtain ⟨l⟩ := vals
      match l, hsz with
      | [a], _ => exact ⟨a, rfl⟩
    have r0 := hrel 0 _ u0 rfl rfl
    cases r0
    refine (cloneE_S _ _ _).mono fun e' w' ⟨v, he, hown, hb⟩ => ⟨v, he, hb, ?_⟩
    obtain ⟨_, ⟨hv, _⟩ | ⟨g, c, cur, hv, hg, hc, hn, hm, hs, _⟩⟩ := hown
    · exact .inl hv
    · exact .inr ⟨g, c, cur, hv, hg, hc, hm, hs⟩)
  refine ⟨hO.1, fun F w vals hZ hF hsz hrel => ((conP_of_conO hO).2 F w vals hZ hF hsz hrel).mono fun e w' ⟨u, r, h1, h2, h3, h4, e', z, ys, h5, h6, h7, h8⟩ => ?_⟩
  subst h6; subst h7; subst h8
  exact ⟨u, r, h1, h2, h3, h4, h5⟩
set_option maxHeartbeats 4000000 in
theorem clone_S (l : List ByteArray) (f : Bool) (hl : l.length ≤ 1000000) : ConP Tryz.prog 53 [LS f l] fun r => r = LS false l := by
  cases l with
  | nil => exact cloneN_S f
  | cons x xs =>
    have hl' : xs.length ≤ 1000000 := by simp only [List.length_cons] at hl; omega
    refine conP_of_conH (conH_of_W tok Tryz.func53 rfl rfl ?_)
    refine W_x tok mixed ?_
    simp -implicitDefEqProofs -dsimp [Tryz.f53, List.replicate, LS, eqA2, cap16 xs.length (by omega), List.map]
    exact exp_buf rfl (by simp) (by simp)
end Go.Proofs.YteijbpppalhihaaGreat
end
