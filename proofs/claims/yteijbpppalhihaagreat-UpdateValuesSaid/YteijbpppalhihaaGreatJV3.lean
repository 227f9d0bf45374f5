/- JV3: Z2, Z8, Z5, Z9, Z10, Op3, joined by chunk.py. -/
import Derived.Test.YteijbpppalhihaaGreatJV2
import Derived.OpenShut
set_option linter.unusedVariables false
set_option linter.unusedSimpArgs false
section
/- Z2: the cells in which tables differ, Apply; used, Satisfies of the reference. Expanded by pp.py. -/
set_option linter.unusedSimpArgs false
set_option maxRecDepth 100000
namespace Go.Proofs.YteijbpppalhihaaGreat
open Go Go.AM
set_option maxHeartbeats 16000000 in
theorem used_r (t : Tb) (ff gg : Bool) (k : Int) (hv : TbV t) : ConP Tryz.prog 55 [encTb ff gg t, .int .i64 k] fun r => r = .bool (unkT t k) := by
  have hm := hv.rows
  have hn := hv.attrs
  obtain ⟨E, hE⟩ : ∃ E, E = unkT t k := ⟨_, rfl⟩
  rw [← hE]
  have hiff := unkT_iff (t := t) (k := k)
  rw [← hE] at hiff
  obtain ⟨n, hne⟩ : ∃ n, n = t.attrs.length := ⟨_, rfl⟩
  obtain ⟨m, hme⟩ : ∃ m, m = t.rows.length := ⟨_, rfl⟩
  have hne' := hne.symm
  have hme' := hme.symm
  rw [hne'] at hn
  rw [hme'] at hm
  rw [hne', hme'] at hiff
  refine conP_of_conH (conH_of_W tok Tryz.func55 rfl rfl ?_)
  refine W_x tok mixed ?_
  simp -implicitDefEqProofs -dsimp [Tryz.f55, List.replicate, encTb, LS, LR]
  refine lw_of (W_loopV [false, false, false, false, true, true, true, true, true, true, true, true, true, true, true, true, true, true, true, true, true, true, true, true, true, true, true, true, true, true, true, true, true, true, true, true, true, true, true, true] (σ := Nat) (fun i => i ≤ m ∧ ∀ y, y < i * n → ¬ ((vlAt t y).k = 3 ∧ (vlAt t y).n = k)) (fun i => m - i) (fun i => [(5, .int .i64 i)]) (fun _ => [B.cells [.str t.name, .lst 1 ff (t.attrs.map V.str), .lst 2 gg (t.rows.map encRw)]]) 0 ⟨by omega, fun y hy => by omega⟩ (by simp) rfl (by simp) ?_)
  rintro i ⟨hi, hall⟩ N1 Q1 hN1 hQ1
  by_cases hib : i < m
  · have hit : i < t.rows.length := by omega
    obtain ⟨rw, hrw⟩ : ∃ rw, rw = t.rows[i] := ⟨_, rfl⟩
    have hrw' := hrw.symm
    have hvl : rw.vals.length = n := by rw [hrw, hne]; exact hv.len _ (List.getElem_mem hit)
    refine W_x tok mixed ?_
    simp -implicitDefEqProofs -dsimp [hib, hme']
    refine lw_of (W_loopV [false, false, false, false, true, false, true, true, false, false, false, false, false, false, false, true, true, true, true, true, true, true, true, true, true, true, true, true, true, true, true, true, true, true, true, true, true, true, true, true] (σ := Nat × Nat) (fun p => p.1 ≤ n ∧ p.2 = i * n + p.1 ∧ ∀ y, y < p.2 → ¬ ((vlAt t y).k = 3 ∧ (vlAt t y).n = k)) (fun p => n - p.1) (fun p => [(6, .int .i64 p.1)]) (fun _ => [B.cells [.str t.name, .lst 1 ff (t.attrs.map V.str), .lst 2 gg (t.rows.map encRw)]]) (0, i * n) ⟨by simp, by simp, hall⟩ (by simp) (by simp) (by simp) ?_)
    rintro ⟨a, x⟩ ⟨ha, hx, hall2⟩ N2 Q2 hN2 hQ2
    simp only at ha hx hN2 hall2
    by_cases hab : a < n
    · have hva : a < rw.vals.length := by omega
      obtain ⟨v, hve⟩ : ∃ v, v = rw.vals[a] := ⟨_, rfl⟩
      have hve' := hve.symm
      have hvt : vlAt t x = v := by
        rw [hx, hne, vlAt_at t (hne ▸ hab), rwAt_in hit, ← hrw, vAt_in hva, hve]
      have hstep : ¬ (v.k = 3 ∧ v.n = k) → ∀ y, y < x + 1 → ¬ ((vlAt t y).k = 3 ∧ (vlAt t y).n = k) := fun h y hy => by
        rcases Nat.lt_or_ge y x with e | e
        · exact hall2 y e
        · have : y = x := by omega
          subst this; rw [hvt]; exact h
      by_cases hk : v.k = 3
      · by_cases hkn : v.n = k
        · have hyes : E = true := hiff.2 ⟨x, by rw [hx]; exact cell_lt hib hab, by rw [hvt]; exact hk, by rw [hvt]; exact hkn⟩
          refine W_x tok mixed ?_
          simp -implicitDefEqProofs -dsimp [hab, hne', hme', hib, hit, hrw', encRw, LV, hva, hve', encV, hk, hkn]
          refine hQ2 _ _ _ ?_
          simp -implicitDefEqProofs -dsimp []
          refine hQ1 _ _ _ ?_
          simp -implicitDefEqProofs -dsimp []
          exact hyes
        · have hst := hstep (fun h => hkn h.2)
          refine W_x tok mixed ?_
          simp -implicitDefEqProofs -dsimp [hab, hne', hme', hib, hit, hrw', encRw, LV, hva, hve', encV, hk, hkn, wrapS a (by omega)]
          refine hN2 (a + 1, x + 1) _ _ ⟨by simp only; omega, by simp only; omega, hst⟩ (by simp only; omega) (by simp) ⟨[B.cells [.int .i64 v.k, .int .i64 v.n, .str v.s]], by simp [hk]⟩ (by simp) (by simp)
      · have hst := hstep (fun h => hk h.1)
        refine W_x tok mixed ?_
        simp -implicitDefEqProofs -dsimp [hab, hne', hme', hib, hit, hrw', encRw, LV, hva, hve', encV, hk, wrapS a (by omega)]
        refine hN2 (a + 1, x + 1) _ _ ⟨by simp only; omega, by simp only; omega, hst⟩ (by simp only; omega) (by simp) ⟨[B.cells [.int .i64 v.k, .int .i64 v.n, .str v.s]], by simp⟩ (by simp) (by simp)
    · have hxe : (i + 1) * n = x := by rw [Nat.add_mul]; omega
      refine W_x tok mixed ?_
      simp -implicitDefEqProofs -dsimp [hab, hne']
      refine hQ2 _ _ _ ?_
      simp -implicitDefEqProofs -dsimp [wrapS i (by omega)]
      refine hN1 (i + 1) _ _ ⟨by omega, by rw [hxe]; exact hall2⟩ (by omega) (by simp) ⟨[], by simp⟩ (by simp) (by simp)
  · obtain rfl : i = m := by omega
    have hno : E = false := by
      cases hEb : E with
      | false => rfl
      | true =>
        obtain ⟨y, h1, h2, h3⟩ := hiff.1 hEb
        exact absurd ⟨h2, h3⟩ (hall y h1)
    refine W_x tok mixed ?_
    simp -implicitDefEqProofs -dsimp [hib, hme']
    refine hQ1 _ _ _ ?_
    simp -implicitDefEqProofs -dsimp []
    exact hno
/-- The cells before x in which two tables differ. -/
def difTo (t u : Tb) (x : Nat) : List Cr := ((List.range x).filter fun y => !(cmpV (vlAt t y) (vlAt u y) == 0)).map (crAt t)
theorem difTo_zero (t u : Tb) : difTo t u 0 = [] := rfl
theorem difTo_same {t u : Tb} {x : Nat} (h : cmpV (vlAt t x) (vlAt u x) = 0) : difTo t u (x + 1) = difTo t u x := by
  unfold difTo
  rw [List.range_succ, List.filter_append]
  simp [h]
theorem difTo_new {t u : Tb} {x : Nat} (h : cmpV (vlAt t x) (vlAt u x) ≠ 0) : difTo t u (x + 1) = difTo t u x ++ [crAt t x] := by
  unfold difTo
  rw [List.range_succ, List.filter_append]
  simp [h]
theorem difTo_len (t u : Tb) (x : Nat) : (difTo t u x).length ≤ x := by
  unfold difTo
  rw [List.length_map]
  exact Nat.le_trans (List.length_filter_le _ _) (by simp)
set_option maxHeartbeats 32000000 in
theorem differing_u (t u : Tb) (f g f2 g2 : Bool) (hv : TbV t) (ha : u.attrs.length = t.attrs.length) (hr : u.rows.length = t.rows.length) (hul : ∀ r ∈ u.rows, r.vals.length = t.attrs.length) :
    ConP Tryz.prog 58 [encTb f g t, encTb f2 g2 u] fun r => r = LC false (difTo t u (t.rows.length * t.attrs.length)) := by
  have hm := hv.rows
  have hn := hv.attrs
  obtain ⟨n, hne⟩ : ∃ n, n = t.attrs.length := ⟨_, rfl⟩
  obtain ⟨m, hme⟩ : ∃ m, m = t.rows.length := ⟨_, rfl⟩
  have hne' := hne.symm
  have hme' := hme.symm
  rw [hne'] at hn
  rw [hme'] at hm
  rw [hne', hme']
  refine conP_of_conH (conH_of_W tok Tryz.func58 rfl rfl ?_)
  refine W_x tok mixed ?_
  simp -implicitDefEqProofs -dsimp [Tryz.f58, List.replicate, encTb, LS, LR, hme']
  refine lw_of (W_own 49 2 [5] (by simp) (W_loopV [false, false, false, false, false, true, true, true, true, true, false, false, false, true, true, true, true, true, true, true, true, true, true, true, true, true, true, true, true, true, true, true, true, true, true, true, true, true, true, true, true, true, true, true, true, true, true] (σ := Nat × Nat) (fun p => p.1 ≤ m ∧ p.2 = p.1 * n) (fun p => m - p.1) (fun p => [(13, .int .i64 p.1), (5, .buf 2 0 (difTo t u p.2).length (difTo t u p.2).length)]) (fun p => [B.cells [.str t.name, .lst 1 f (t.attrs.map V.str), .lst 2 g (t.rows.map encRw)], B.cells [.str u.name, .lst 1 f2 (u.attrs.map V.str), .lst 2 g2 (u.rows.map encRw)], B.buf 49 2 ((difTo t u p.2).map encCr) false]) (0, 0) ⟨by simp, by simp⟩ (by simp [difTo_zero]) (by simp [difTo_zero]) (by simp) ?_))
  rintro ⟨i, c⟩ ⟨hi, hc⟩ N1 Q1 hN1 hQ1
  simp only at hi hc hN1
  by_cases hib : i < m
  · have hit : i < t.rows.length := by omega
    have hiu : i < u.rows.length := by omega
    obtain ⟨rw, hrw⟩ : ∃ rw, rw = t.rows[i] := ⟨_, rfl⟩
    obtain ⟨ru, hru⟩ : ∃ ru, ru = u.rows[i] := ⟨_, rfl⟩
    have hrw' := hrw.symm
    have hru' := hru.symm
    have hvl : rw.vals.length = n := by rw [hrw, hne]; exact hv.len _ (List.getElem_mem hit)
    have hvu : ru.vals.length = n := by rw [hru, hne]; exact hul _ (List.getElem_mem hiu)
    refine W_x tok mixed ?_
    simp -implicitDefEqProofs -dsimp [hib, hme', hit, hrw', encRw, LV, hvl]
    refine lw_of (W_loopV [false, false, false, false, false, true, false, false, true, true, false, false, false, false, false, false, false, false, false, false, false, true, true, true, true, true, true, true, true, true, true, true, true, true, true, true, true, true, true, true, true, true, true, true, true, true] (σ := Nat × Nat) (fun p => p.1 ≤ n ∧ p.2 = i * n + p.1) (fun p => n - p.1) (fun p => [(21, .int .i64 p.1), (5, .buf 2 0 (difTo t u p.2).length (difTo t u p.2).length)]) (fun p => [B.cells [.str t.name, .lst 1 f (t.attrs.map V.str), .lst 2 g (t.rows.map encRw)], B.cells [.str u.name, .lst 1 f2 (u.attrs.map V.str), .lst 2 g2 (u.rows.map encRw)], B.buf 49 2 ((difTo t u p.2).map encCr) false, B.cells [.int .i64 rw.id, .lst 3 false (rw.vals.map encV)]]) (0, c) ⟨by simp, by simp [hc]⟩ (by simp) (by simp) (by simp) ?_)
    rintro ⟨a, x⟩ ⟨ha2, hx⟩ N2 Q2 hN2 hQ2
    simp only at ha2 hx hN2
    by_cases hab : a < n
    · have hlt := cell_lt hib hab
      have hbig : m * n ≤ 1000 * 16 := Nat.mul_le_mul hm hn
      have hva : a < rw.vals.length := by omega
      have hva2 : a < ru.vals.length := by omega
      obtain ⟨v, hve⟩ : ∃ v, v = rw.vals[a] := ⟨_, rfl⟩
      obtain ⟨w, hwe⟩ : ∃ w, w = ru.vals[a] := ⟨_, rfl⟩
      have hve' := hve.symm
      have hwe' := hwe.symm
      have hvt : vlAt t x = v := by
        rw [hx, hne, vlAt_at t (hne ▸ hab), rwAt_in hit, ← hrw, vAt_in hva, hve]
      have hvu2 : vlAt u x = w := by
        rw [hx, hne, ← ha, vlAt_at u (by omega), rwAt_in hiu, ← hru, vAt_in hva2, hwe]
      have hat : crAt t x = ⟨rw.id, (a : Int)⟩ := by
        rw [hx, hne, crAt_at t (hne ▸ hab), rwAt_in hit, ← hrw]
      have hdl := difTo_len t u x
      have c1 := valueCompare v w
      simp only [encV] at c1
      by_cases hq : cmpV v w = 0
      · have hst := difTo_same (t := t) (u := u) (x := x) (by rw [hvt, hvu2]; exact hq)
        refine W_x tok mixed ?_
        simp -implicitDefEqProofs -dsimp [hab, hvl, hva, hve', encV, hiu, hru', encRw, LV, hva2, hwe']
        refine .inr ⟨stop_of (by kernel_rfl), ?_⟩
        refine cy_of _ (callP (c1) (by simp)) ?_
        simp -implicitDefEqProofs -dsimp [hq, wrapS a (by omega)]
        refine hN2 (a + 1, x + 1) _ _ ⟨by simp only; omega, by simp only; omega⟩ (by simp only; omega) (by simp [hst]) ⟨[B.cells [.int .i64 v.k, .int .i64 v.n, .str v.s]], by simp [hst]⟩ (by simp) (by simp)
      · have hst := difTo_new (t := t) (u := u) (x := x) (by rw [hvt, hvu2]; exact hq)
        rw [hat] at hst
        refine W_x tok mixed ?_
        simp -implicitDefEqProofs -dsimp [hab, hvl, hva, hve', encV, hiu, hru', encRw, LV, hva2, hwe']
        refine .inr ⟨stop_of (by kernel_rfl), ?_⟩
        refine cy_of _ (callP (c1) (by simp)) ?_
        simp -implicitDefEqProofs -dsimp [hq, cap16 (difTo t u x).length (by omega), wrapS a (by omega)]
        refine hN2 (a + 1, x + 1) _ _ ⟨by simp only; omega, by simp only; omega⟩ (by simp only; omega) (by simp [hst]) ⟨[B.cells [.int .i64 v.k, .int .i64 v.n, .str v.s]], by simp [hst, encCr]⟩ (by simp) (by simp)
    · obtain rfl : a = n := by omega
      refine W_x tok mixed ?_
      simp -implicitDefEqProofs -dsimp [hab, hvl]
      refine hQ2 _ _ _ ?_
      simp -implicitDefEqProofs -dsimp [wrapS i (by omega)]
      refine hN1 (i + 1, x) _ _ ⟨by simp only; omega, by simp only; rw [hx, Nat.add_mul]; omega⟩ (by simp only; omega) (by simp) ⟨[B.cells [.int .i64 rw.id, .lst 3 false (rw.vals.map encV)]], by simp⟩ (by simp) (by simp)
  · obtain rfl : i = m := by omega
    refine W_x tok mixed ?_
    simp -implicitDefEqProofs -dsimp [hib, hme']
    refine hQ1 _ _ _ ?_
    simp -implicitDefEqProofs -dsimp []
    rw [← hc]
    exact exp_buf rfl (by simp) (by simp)
theorem filT_rows (t : Tb) (c : Nat → Dm) : (filT t c).rows.length = t.rows.length := by simp [filT]
theorem filT_len (t : Tb) (c : Nat → Dm) : ∀ r ∈ (filT t c).rows, r.vals.length = t.attrs.length := by
  intro r hr
  obtain ⟨i, _, rfl⟩ := List.mem_map.1 hr
  simp [filRow]
noncomputable def ApplyR (t : Tb) (fds : List Fd) (l : List Cr) : V := if chkE t fds l = 0 then (if okB (probT t fds l) then .tup [.int .i64 (difTo t (filTb t fds l) (t.rows.length * t.attrs.length)).length, .int .i64 0] else .tup [.int .i64 0, .int .i64 15]) else .tup [.int .i64 0, .int .i64 (chkE t fds l)]
set_option maxHeartbeats 32000000 in
theorem Apply_u (t : Tb) (ff gg df cf : Bool) (fds : List Fd) (l : List Cr) (ht : TbOk t) (hB : TbN t) (hF : FdsOk fds) (hcl : l.length ≤ 1000000) :
    ConP Tryz.prog 24 [encTb ff gg t, LF df fds, LC cf l] fun r => r = ApplyR t fds l := by
  have c1 := Fill_u t ff gg df cf fds l ht hB hF hcl
  unfold FillR at c1
  unfold ApplyR
  by_cases h : chkE t fds l = 0
  · obtain ⟨hv, _⟩ := chkE_ok ht h
    rw [if_pos h] at c1 ⊢
    cases hok : okB (probT t fds l) with
    | true =>
      rw [hok, if_pos rfl] at c1
      rw [if_pos rfl]
      have c2 := differing_u t (filTb t fds l) ff gg false false hv rfl (filT_rows _ _) (filT_len _ _)
      have hdl := difTo_len t (filTb t fds l) (t.rows.length * t.attrs.length)
      have hsm := prob_small hv
      obtain ⟨D, hD⟩ : ∃ D, D = difTo t (filTb t fds l) (t.rows.length * t.attrs.length) := ⟨_, rfl⟩
      rw [← hD] at c2 hdl ⊢
      obtain ⟨T2, hT2⟩ : ∃ T2, T2 = filTb t fds l := ⟨_, rfl⟩
      rw [← hT2] at c1 c2
      simp only [encTb, LS, LR, LC, LF] at c1 c2
      refine conP_of_conH (conH_of_W tok Tryz.func24 rfl rfl ?_)
      refine W_x tok mixed ?_
      simp -implicitDefEqProofs -dsimp [Tryz.f24, List.replicate, encTb, LS, LR, LC, LF]
      refine (callP (c1) (by simp)).mono ?_
      rintro r H' ⟨rfl, rfl⟩
      simp -implicitDefEqProofs -dsimp []
      refine (callP (c2) (by simp)).mono ?_
      rintro r H' ⟨rfl, rfl⟩
      simp -implicitDefEqProofs -dsimp []
    | false =>
      rw [hok, if_neg (by simp)] at c1
      rw [if_neg (by simp)]
      simp only [encTb, LS, LR, LC, LF, zeroT] at c1
      refine conP_of_conH (conH_of_W tok Tryz.func24 rfl rfl ?_)
      refine W_x tok mixed ?_
      simp -implicitDefEqProofs -dsimp [Tryz.f24, List.replicate, encTb, LS, LR, LC, LF]
      refine (callP (c1) (by simp)).mono ?_
      rintro r H' ⟨rfl, rfl⟩
      simp -implicitDefEqProofs -dsimp []
  · rw [if_neg h] at c1 ⊢
    simp only [encTb, LS, LR, LC, LF, zeroT] at c1
    refine conP_of_conH (conH_of_W tok Tryz.func24 rfl rfl ?_)
    refine W_x tok mixed ?_
    simp -implicitDefEqProofs -dsimp [Tryz.f24, List.replicate, encTb, LS, LR, LC, LF]
    refine (callP (c1) (by simp)).mono ?_
    rintro r H' ⟨rfl, rfl⟩
    simp -implicitDefEqProofs -dsimp [h]
/-- All dependencies hold. -/
def SatP (u : Tb) (fds : List Fd) : Prop := ∀ d ∈ fds, ∀ i k, i < u.rows.length → k < i → agreeR (rwAt u i) (rwAt u k) d.l = true → agreeR (rwAt u i) (rwAt u k) d.r = true
open Classical in
noncomputable def satB (u : Tb) (fds : List Fd) : Bool := decide (SatP u fds)
theorem satB_iff {u : Tb} {fds : List Fd} : satB u fds = true ↔ SatP u fds := by unfold satB; simp
set_option maxHeartbeats 32000000 in
theorem satisfies_r (u : Tb) (f g df : Bool) (fds : List Fd) (hr : u.rows.length ≤ 1000) (hul : ∀ r ∈ u.rows, r.vals.length ≤ 31 ∧ ∀ v ∈ r.vals, v.s.size ≤ maxLen) (hF : fds.length ≤ 1000000) :
    ConP Tryz.prog 27 [encTb f g u, LF df fds] fun r => r = .bool (satB u fds) := by
  obtain ⟨E, hE⟩ : ∃ E, E = satB u fds := ⟨_, rfl⟩
  rw [← hE]
  obtain ⟨m, hme⟩ : ∃ m, m = u.rows.length := ⟨_, rfl⟩
  have hme' := hme.symm
  rw [hme'] at hr
  have hyes : SatP u fds → E = true := fun h => by rw [hE]; exact satB_iff.2 h
  have hno : ¬ SatP u fds → E = false := fun h => by
    rw [hE]
    cases hb : satB u fds
    · rfl
    · exact absurd (satB_iff.1 hb) h
  refine conP_of_conH (conH_of_W tok Tryz.func27 rfl rfl ?_)
  refine W_x tok mixed ?_
  simp -implicitDefEqProofs -dsimp [Tryz.f27, List.replicate, encTb, LS, LR, LF]
  refine lw_of (W_loopV [false, false, false, false, true, true, true, true, true, true, true, true, true, true, true, true, true, true, true, true, true, true, true, true, true, true, true, true, true, true, true, true, true, true, true, true, true, true, true, true, true, true, true, true, true, true, true, true, true, true, true, true, true, true, true, true, true, true, true, true, true] (σ := Nat) (fun j => j ≤ fds.length ∧ ∀ d ∈ fds.take j, ∀ i k, i < m → k < i → agreeR (rwAt u i) (rwAt u k) d.l = true → agreeR (rwAt u i) (rwAt u k) d.r = true) (fun j => fds.length - j) (fun j => [(5, .int .i64 j)]) (fun _ => [B.cells [.str u.name, .lst 1 f (u.attrs.map V.str), .lst 2 g (u.rows.map encRw)]]) 0 ⟨by omega, by simp⟩ (by simp) rfl (by simp) ?_)
  rintro j ⟨hj, hx⟩ N1 Q1 hN1 hQ1
  by_cases hjb : j < fds.length
  · obtain ⟨d, hd⟩ : ∃ d, d = fds[j] := ⟨_, rfl⟩
    have hd' := hd.symm
    have hdm : d ∈ fds := hd ▸ List.getElem_mem hjb
    refine W_x tok mixed ?_
    simp -implicitDefEqProofs -dsimp [hjb]
    refine lw_of (W_loopV [false, false, false, false, true, false, true, true, false, false, false, false, false, false, true, true, true, true, true, true, true, true, true, true, true, true, true, true, true, true, true, true, true, true, true, true, true, true, true, true, true, true, true, true, true, true, true, true, true, true, true, true, true, true, true, true, true, true, true, true, true] (σ := Nat) (fun i => i ≤ m ∧ ∀ i' k, i' < i → k < i' → agreeR (rwAt u i') (rwAt u k) d.l = true → agreeR (rwAt u i') (rwAt u k) d.r = true) (fun i => m - i) (fun i => [(6, .int .i64 i)]) (fun _ => [B.cells [.str u.name, .lst 1 f (u.attrs.map V.str), .lst 2 g (u.rows.map encRw)]]) 0 ⟨by omega, fun i' k h => by omega⟩ (by simp) (by simp) (by simp) ?_)
    rintro i ⟨hi, hx2⟩ N2 Q2 hN2 hQ2
    by_cases hib : i < m
    · have hit : i < u.rows.length := by omega
      have ri := rwAt_in hit
      refine W_x tok mixed ?_
      simp -implicitDefEqProofs -dsimp [hib, hme']
      refine lw_of (W_loopV [false, false, false, false, true, false, false, true, false, false, false, false, false, false, false, false, false, false, false, false, false, true, true, true, true, true, true, true, true, true, true, true, true, true, true, true, true, true, true, true, true, true, true, true, true, true, true, true, true, true, true, true, true, true, true, true, true, true, true, true, true] (σ := Nat) (fun k => k ≤ i ∧ ∀ k', k' < k → agreeR (rwAt u i) (rwAt u k') d.l = true → agreeR (rwAt u i) (rwAt u k') d.r = true) (fun k => i - k) (fun k => [(7, .int .i64 k)]) (fun _ => [B.cells [.str u.name, .lst 1 f (u.attrs.map V.str), .lst 2 g (u.rows.map encRw)]]) 0 ⟨by omega, fun k h => by omega⟩ (by simp) (by simp) (by simp) ?_)
      rintro k ⟨hk, hx3⟩ N3 Q3 hN3 hQ3
      by_cases hkb : k < i
      · have hkt : k < u.rows.length := by omega
        have rk := rwAt_in hkt
        obtain ⟨l1, l2⟩ := hul u.rows[i] (List.getElem_mem hit)
        obtain ⟨l3, l4⟩ := hul u.rows[k] (List.getElem_mem hkt)
        have c1 := agree03 u.rows[i] u.rows[k] (d.l : Int) l1 l3 l2
        have c2 := agree03 u.rows[i] u.rows[k] (d.r : Int) l1 l3 l2
        have hstep : ∀ x y, rwAt u i = x → rwAt u k = y → (agreeR x y d.l = true → agreeR x y d.r = true) → ∀ k', k' < k + 1 → agreeR (rwAt u i) (rwAt u k') d.l = true → agreeR (rwAt u i) (rwAt u k') d.r = true := fun x y e1 e2 h k' hk' => by
          rcases Nat.lt_or_ge k' k with e | e
          · exact hx3 k' e
          · have : k' = k := by omega
            subst this; rw [e1, e2]; exact h
        have hbad : agreeR (rwAt u i) (rwAt u k) d.l = true → agreeR (rwAt u i) (rwAt u k) d.r = false → E = false := fun h1 h2 => hno fun h => by
          have := h d hdm i k hit hkb h1
          rw [h2] at this; cases this
        rw [ri, rk] at hbad
        obtain ⟨x, hxe⟩ : ∃ x, x = u.rows[i] := ⟨_, rfl⟩
        obtain ⟨y, hye⟩ : ∃ y, y = u.rows[k] := ⟨_, rfl⟩
        rw [← hxe, ← hye] at c1 c2 hbad
        rw [← hxe] at ri
        rw [← hye] at rk
        have hxe' := hxe.symm
        have hye' := hye.symm
        simp only [encRw, LV] at c1 c2
        cases q1 : agreeR x y d.l with
        | false =>
          rw [q1] at c1
          have hst := hstep x y ri rk (fun h => by rw [q1] at h; cases h)
          refine W_x tok mixed ?_
          simp -implicitDefEqProofs -dsimp [hkb, hjb, hd', hit, hkt, hxe', hye', encRw, LV, encF]
          refine .inr ⟨stop_of (by kernel_rfl), ?_⟩
          refine cy_of _ (callP (c1) (by simp)) ?_
          simp -implicitDefEqProofs -dsimp [wrapS k (by omega)]
          refine hN3 (k + 1) _ _ ⟨by omega, hst⟩ (by omega) (by simp) ⟨[], by simp⟩ (by simp) (by simp)
        | true =>
          rw [q1] at c1
          cases q2 : agreeR x y d.r with
          | true =>
            rw [q2] at c2
            have hst := hstep x y ri rk (fun _ => q2)
            refine W_x tok mixed ?_
            simp -implicitDefEqProofs -dsimp [hkb, hjb, hd', hit, hkt, hxe', hye', encRw, LV, encF]
            refine .inr ⟨stop_of (by kernel_rfl), ?_⟩
            refine cy_of _ (callP (c1) (by simp)) ?_
            simp -implicitDefEqProofs -dsimp [hjb, hd', hit, hkt, hxe', hye', encRw, LV, encF]
            refine cy_of _ (callP (c2) (by simp)) ?_
            simp -implicitDefEqProofs -dsimp [wrapS k (by omega)]
            refine hN3 (k + 1) _ _ ⟨by omega, hst⟩ (by omega) (by simp) ⟨[], by simp⟩ (by simp) (by simp)
          | false =>
            rw [q2] at c2
            have hb := hbad q1 q2
            refine W_x tok mixed ?_
            simp -implicitDefEqProofs -dsimp [hkb, hjb, hd', hit, hkt, hxe', hye', encRw, LV, encF]
            refine .inr ⟨stop_of (by kernel_rfl), ?_⟩
            refine cy_of _ (callP (c1) (by simp)) ?_
            simp -implicitDefEqProofs -dsimp [hjb, hd', hit, hkt, hxe', hye', encRw, LV, encF]
            refine cy_of _ (callP (c2) (by simp)) ?_
            simp -implicitDefEqProofs -dsimp []
            refine hQ3 _ _ _ ?_
            simp -implicitDefEqProofs -dsimp []
            refine hQ2 _ _ _ ?_
            simp -implicitDefEqProofs -dsimp []
            refine hQ1 _ _ _ ?_
            simp -implicitDefEqProofs -dsimp []
            exact hb
      · obtain rfl : k = i := by omega
        refine W_x tok mixed ?_
        simp -implicitDefEqProofs -dsimp [hkb]
        refine hQ3 _ _ _ ?_
        simp -implicitDefEqProofs -dsimp [wrapS k (by omega)]
        refine hN2 (k + 1) _ _ ⟨by omega, fun i' k' h1 h2 => ?_⟩ (by omega) (by simp) ⟨[], by simp⟩ (by simp) (by simp)
        rcases Nat.lt_or_ge i' k with e | e
        · exact hx2 i' k' e h2
        · have : i' = k := by omega
          subst this; exact hx3 k' h2
    · obtain rfl : i = m := by omega
      refine W_x tok mixed ?_
      simp -implicitDefEqProofs -dsimp [hib, hme']
      refine hQ2 _ _ _ ?_
      simp -implicitDefEqProofs -dsimp [wrapS j (by omega)]
      refine hN1 (j + 1) _ _ ⟨by omega, fun d' hd' => ?_⟩ (by omega) (by simp) ⟨[], by simp⟩ (by simp) (by simp)
      rw [List.take_succ_eq_append_getElem hjb] at hd'
      rcases List.mem_append.1 hd' with e | e
      · exact hx d' e
      · simp only [List.mem_singleton] at e
        rw [e, ← hd]; exact hx2
  · obtain rfl : j = fds.length := by omega
    rw [List.take_length] at hx
    refine W_x tok mixed ?_
    simp -implicitDefEqProofs -dsimp [hjb]
    refine hQ1 _ _ _ ?_
    simp -implicitDefEqProofs -dsimp []
    exact hyes (by rw [SatP, ← hme]; exact hx)
end Go.Proofs.YteijbpppalhihaaGreat
end

section
/- Z8: the reference's Change, value, Exists. Expanded by pp.py. -/
set_option linter.unusedSimpArgs false
set_option maxRecDepth 100000
namespace Go.Proofs.YteijbpppalhihaaGreat
open Go Go.AM
def setT (t : Tb) (i a : Nat) (v : Vl) : Tb := ⟨t.name, t.attrs, t.rows.set i (setV (rwG t.rows i) a v)⟩
/-- A valid table. -/
structure TbG (t : Tb) : Prop where
  v : TbV t
  pos : ∀ r ∈ t.rows, 0 < r.id
  sz : ∀ r ∈ t.rows, ∀ v ∈ r.vals, v.s.size ≤ maxLen
theorem TbG.ok {t : Tb} (h : TbG t) : validT t = 0 := h.v.validT h.pos
theorem expT {H : List B} {nm : ByteArray} {ats : List V} {m : Nat} {l : V} (hp : ∀ x ∈ ats, AM.Pure x) (h : ExpX H (.buf 7 0 m m) l) : ExpX H (.tup [.agg [.str nm, .lst 1 false ats, .buf 7 0 m m], .int .i64 0]) (.tup [.agg [.str nm, .lst 1 false ats, l], .int .i64 0]) := by
  refine .tup _ _ rfl (fun i c d hc hd => ?_)
  match i with
  | 0 =>
    simp at hc hd
    subst hc
    subst hd
    refine .agg _ _ rfl (fun j c d hc hd => ?_)
    match j with
    | 0 => simp at hc hd; subst hc; subst hd; exact .pure _ (by simp)
    | 1 => simp at hc hd; subst hc; subst hd; exact .pure _ (by simpa using hp)
    | 2 => simp at hc hd; subst hc; subst hd; exact h
    | k + 3 => simp at hc
  | 1 => simp at hc hd; subst hc; subst hd; exact .pure _ (by simp)
  | k + 2 => simp at hc
set_option maxHeartbeats 32000000 in
theorem change_ok (t : Tb) (f g : Bool) (i a : Nat) (v : Vl) (h : TbG t) (hi : i < t.rows.length) (ha : a < t.attrs.length) (hv : validV v = true) : ConP Tryz.prog 47 [encTb f g t, encCr ⟨(rwG t.rows i).id, (a : Int)⟩, encV v] fun r => r = .tup [encTb false false (setT t i a v), .int .i64 0] := by
  have htv := h.v
  have hm := htv.rows
  have hn := htv.attrs
  have c1 := valid03 t f g htv.ok
  rw [h.ok] at c1
  have hgi := rwG_in hi
  have c2 := find03 t f g (rwG t.rows i).id (by omega)
  rw [hgi, fnd_at hi htv.asc i 0 (by omega)] at c2
  have c3 := valid01 v
  rw [hv] at c3
  obtain ⟨n, hne⟩ : ∃ n, n = t.attrs.length := ⟨_, rfl⟩
  have hne' := hne.symm
  have hln : ∀ j, j < t.rows.length → (rwG t.rows j).vals.length = n := fun j hj => by rw [rwG_in hj, hne]; exact htv.len _ (List.getElem_mem hj)
  have hli := hln i hi
  obtain ⟨r, hr⟩ : ∃ r, r = rwG t.rows i := ⟨_, rfl⟩
  rw [← hr] at hgi hli ⊢
  rw [← hgi] at c2
  obtain ⟨TB, hTB⟩ : ∃ TB, TB = B.cells [.str t.name, .lst 1 f (t.attrs.map V.str), .lst 2 g (t.rows.map encRw)] := ⟨_, rfl⟩
  obtain ⟨CB, hCB⟩ : ∃ CB, CB = B.cells [.int .i64 r.id, .int .i64 (a : Int)] := ⟨_, rfl⟩
  obtain ⟨VB, hVB⟩ : ∃ VB, VB = B.cells [.int .i64 v.k, .int .i64 v.n, .str v.s] := ⟨_, rfl⟩
  obtain ⟨ZB, hZB⟩ : ∃ ZB, ZB = B.cells [.str ByteArray.empty, .nilS, .nilS] := ⟨_, rfl⟩
  have c4 := with_h t t.rows f g g (by omega) (fun e => by rw [e] at ha; simp at ha) (by omega) (fun r' hr' => by
    have := htv.len r' hr'
    exact ⟨by omega, fun e => by rw [e] at this; simp at this; omega⟩) TB CB VB ZB (fun k => by rw [hTB]; simp) (fun k => by rw [hCB]; simp) (fun k => by rw [hVB]; simp) (fun k => by rw [hZB]; simp)
  rw [hTB, hCB, hVB, hZB] at c4
  simp only [encTb, LS, LR] at c1 c2 c4
  simp only [encV] at c3
  refine conP_of_conX (conH_of_W tok Tryz.func47 rfl rfl ?_)
  refine W_x tok mixed ?_
  simp -implicitDefEqProofs -dsimp [Tryz.f47, List.replicate, encTb, LS, LR, encCr, encV]
  refine (callP (c1) (by simp)).mono ?_
  rintro r H' ⟨rfl, rfl⟩
  simp -implicitDefEqProofs -dsimp []
  refine (callP (c2) (by simp)).mono ?_
  rintro r H' ⟨rfl, rfl⟩
  simp -implicitDefEqProofs -dsimp [show ¬ ((a : Int) < 0) by omega, hne', show ¬ ((n : Int) ≤ (a : Int)) by omega]
  refine (callP (c3) (by simp)).mono ?_
  rintro r H' ⟨rfl, rfl⟩
  simp -implicitDefEqProofs -dsimp []
  refine wcall_of c4 ?_
  rintro r' H' ⟨rfl, A, A1, A2, hH, hrb⟩
  have htb : TbH H' 7 (fun j => 10 + 3 * j) t.rows := by rw [hH]; exact wh_tbh _ _ _ _ _ _ _ _
  have e0 : H'[0]? = some (B.cells [.str t.name, .lst 1 f (t.attrs.map V.str), .lst 2 g (t.rows.map encRw)]) := by rw [hH]; rfl
  have e1 : H'[1]? = some (B.cells [.int .i64 r.id, .int .i64 (a : Int)]) := by rw [hH]; rfl
  have e2 : H'[2]? = some (B.cells [.int .i64 v.k, .int .i64 v.n, .str v.s]) := by rw [hH]; rfl
  have e3 : H'[3]? = some (B.cells [.str ByteArray.empty, .nilS, .nilS]) := by rw [hH]; rfl
  have hlen : H'.length = 8 + 3 * t.rows.length := by rw [hH]; simp [cpG_len]; omega
  clear hH
  obtain ⟨L, hL⟩ : ∃ L, L = 8 + 3 * t.rows.length := ⟨_, rfl⟩
  obtain ⟨k, hk⟩ : ∃ k, k = 10 + 3 * i := ⟨_, rfl⟩
  rw [← hL] at hlen
  have hkL : k < L := by omega
  have hki : (fun j => 10 + 3 * j) i = k := hk.symm
  have e7 := htb.hk
  have ek : H'[k]? = some (.buf 68 3 (r.vals.map encV) false) := by rw [hk, hr]; exact htb.row i hi
  have gl : ∀ {x : Nat} {b : B}, H'[x]? = some b → ∀ X, (H' ++ X)[x]? = some b := fun {x b} hx X => by rw [List.getElem?_append_left (getElem?_lt hx)]; exact hx
  obtain ⟨T11, hT11⟩ : ∃ T11, T11 = B.cells [.str t.name, .lst 1 false (t.attrs.map V.str), .buf 7 0 t.rows.length t.rows.length] := ⟨_, rfl⟩
  obtain ⟨EL, hEL⟩ : ∃ EL, EL = (List.range t.rows.length).map fun j => V.agg [.int .i64 (rwG t.rows j).id, .buf (10 + 3 * j) 0 (rwG t.rows j).vals.length (rwG t.rows j).vals.length] := ⟨_, rfl⟩
  have hELl : EL.length = t.rows.length := by rw [hEL]; simp
  have hELi : ∀ h : i < EL.length, EL[i] = .agg [.int .i64 r.id, .buf k 0 n n] := fun h => by subst hEL; simp [hk, ← hr, hli]
  have e7' : H'[7]? = some (B.buf 66 2 EL false) := by rw [hEL]; exact e7
  have x1 := fun X => gl e1 X
  have x2 := fun X => gl e2 X
  have x3 := fun X => gl e3 X
  have x7 := fun X => gl e7' X
  have xk := fun X => gl ek X
  have x1' := fun X => get_of (x1 X)
  have x2' := fun X => get_of (x2 X)
  have x7' := fun X => get_of (x7 X)
  have xk' := fun X => get_of (xk X)
  have xL : ∀ X : List B, (H' ++ X)[L]? = X[0]? := fun X => by rw [← hlen]; exact getX0 H' X
  have xL' : ∀ A X, ∀ h, (H' ++ A :: X)[L]'h = A := fun A X => get_of (by rw [xL]; rfl)
  have hvs : ((r.vals.map encV).set a (V.agg [.int .i64 v.k, .int .i64 v.n, .str v.s])) = (r.vals.map encV).set a (encV v) := rfl
  have hlk : ∀ Y, (H'.set k Y).length = L := fun Y => by rw [List.length_set, hlen]
  have hlk3 : ∀ Y Z, ((H'.set k Y).set 3 Z).length = L := fun Y Z => by rw [List.length_set, List.length_set, hlen]
  have yL : ∀ Y X, (H'.set k Y ++ X)[L]? = X[0]? := fun Y X => by
    have := getX0 (H'.set k Y) X
    rwa [hlk] at this
  have y3 : ∀ Y X, (H'.set k Y ++ X)[3]? = some (B.cells [.str ByteArray.empty, .nilS, .nilS]) := fun Y X => by
    rw [List.getElem?_append_left (by rw [hlk]; omega), List.getElem?_set_ne (by omega)]; exact e3
  have yL' : ∀ Y A X, ∀ h, (H'.set k Y ++ A :: X)[L]'h = A := fun Y A X => get_of (by rw [yL]; rfl)
  have y3' := fun Y X => get_of (y3 Y X)
  have z3 : ∀ Y Z X, ((H'.set k Y).set 3 Z ++ X)[3]? = some Z := fun Y Z X => by rw [List.getElem?_append_left (by rw [hlk3]; omega), List.getElem?_set_self (by rw [hlk]; omega)]
  have z3' := fun Y Z X => get_of (z3 Y Z X)
  have hLb : 7 < L ∧ 3 < L := by omega
  simp -implicitDefEqProofs -dsimp [hlen]
  refine lw_of (W_drawT tok mixed [10] [] [] (by kernel_rfl) fun C K hC hK => ?_)
  simp -implicitDefEqProofs [x1, x2, x7, xk, x1', x2', x7', xk', xL, xL', hELl, hELi, hi, hlen, hLb, hkL, hli, hne', ha, show a < n by omega, encV]
  refine hK _ _ ?_
  simp -implicitDefEqProofs -dsimp [yL, yL', y3, y3', hlk, hlk3, z3, z3', hlen, hLb, hkL, show 3 < L + 1 by omega]
  have t1 := ((htb.set (a := a) hi v).other (x := 3) (by omega) (fun j _ => by show 3 ≠ 10 + 3 * j; omega) (B.cells [V.str t.name, V.lst 1 false (List.map V.str t.attrs), V.buf 7 0 t.rows.length t.rows.length])).app [B.cells [V.str t.name, V.lst 1 false (List.map V.str t.attrs), V.buf 7 0 t.rows.length t.rows.length]]
  simp only [encTb, LS, setT, ← hr]
  refine expT (by simp) ?_
  have t2 := t1.exp
  rw [List.length_set, ← hr] at t2
  rw [hk]
  exact t2
set_option maxHeartbeats 16000000 in
theorem value_r (t : Tb) (f g : Bool) (h : TbG t) (x : Nat) (hx : x < t.rows.length * t.attrs.length) : ConP Tryz.prog 46 [encTb f g t, encCr (crAt t x)] fun r => r = encV (vlAt t x) := by
  have hn0 : 0 < t.attrs.length := by
    rcases Nat.eq_zero_or_pos t.attrs.length with e | e
    · rw [e] at hx; omega
    · exact e
  obtain ⟨i, hie⟩ : ∃ i, i = x / t.attrs.length := ⟨_, rfl⟩
  obtain ⟨a, hae⟩ : ∃ a, a = x % t.attrs.length := ⟨_, rfl⟩
  have hi : i < t.rows.length := by rw [hie, Nat.div_lt_iff_lt_mul hn0]; exact hx
  have ha : a < t.attrs.length := by rw [hae]; exact Nat.mod_lt _ hn0
  have hc : crAt t x = ⟨t.rows[i].id, (a : Int)⟩ := by unfold crAt; rw [← hie, ← hae, rwAt_in hi]
  have hv : vlAt t x = vAt t.rows[i].vals a := by unfold vlAt; rw [← hie, ← hae, rwAt_in hi]
  have c2 := find03 t f g t.rows[i].id (by have := h.v.rows; omega)
  rw [fnd_at hi h.v.asc i 0 (by omega)] at c2
  have hl : t.rows[i].vals.length = t.attrs.length := h.v.len _ (List.getElem_mem hi)
  obtain ⟨r, hr⟩ : ∃ r, r = t.rows[i] := ⟨_, rfl⟩
  rw [← hr] at hc hv c2 hl
  have hr' := hr.symm
  have hva : a < r.vals.length := by omega
  rw [hc, hv, vAt_in hva]
  obtain ⟨w, hw⟩ : ∃ w, w = r.vals[a] := ⟨_, rfl⟩
  rw [← hw]
  have hw' := hw.symm
  simp only [encTb, LS, LR] at c2
  refine conP_of_conH (conH_of_W tok Tryz.func46 rfl rfl ?_)
  refine W_x tok mixed ?_
  simp -implicitDefEqProofs -dsimp [Tryz.f46, List.replicate, encTb, LS, LR, encCr]
  refine (callP (c2) (by simp)).mono ?_
  rintro r H' ⟨rfl, rfl⟩
  simp -implicitDefEqProofs -dsimp []
  refine lw_of (W_drawT tok mixed [10] [] [] (by kernel_rfl) fun C K hC hK => ?_)
  simp -implicitDefEqProofs [hi, hr', encRw, LV, hva, hw', encV]
  refine hK _ _ ?_
  simp -implicitDefEqProofs -dsimp []
  rfl
def nuV (k : Nat) : Vl := ⟨1, 1000 + (k : Int), ByteArray.empty⟩
def chg (t : Tb) (x : Nat) (v : Vl) : Tb := setT t (x / t.attrs.length) (x % t.attrs.length) v
def candV (t : Tb) (k i : Nat) : Vl := if i < t.rows.length * t.attrs.length then vlAt t i else nuV k
noncomputable def exB (fds : List Fd) : List Nat → Tb → Bool
  | [], t => satB t fds
  | x :: xs, t => (List.range (t.rows.length * t.attrs.length + 1)).any fun i => exB fds xs (chg t x (candV t (xs.length + 1) i))
theorem chg_attrs (t : Tb) (x : Nat) (v : Vl) : (chg t x v).attrs = t.attrs := rfl
theorem chg_rows (t : Tb) (x : Nat) (v : Vl) : (chg t x v).rows.length = t.rows.length := by simp [chg, setT]
theorem chg_row {t : Tb} {x : Nat} {v : Vl} {j : Nat} (hj : j < t.rows.length) : rwAt (chg t x v) j = if j = x / t.attrs.length then setV (rwAt t j) (x % t.attrs.length) v else rwAt t j := by
  rw [rwAt_in (by rw [chg_rows]; exact hj)]
  simp only [chg, setT, List.getElem_set]
  by_cases h : j = x / t.attrs.length
  · subst h; rw [if_pos rfl, if_pos rfl]; rfl
  · rw [if_neg (Ne.symm h), if_neg h, rwAt_in hj]
theorem chg_id {t : Tb} {x : Nat} {v : Vl} {j : Nat} (hj : j < t.rows.length) : (rwAt (chg t x v) j).id = (rwAt t j).id := by
  rw [chg_row hj]; split <;> rfl
theorem cell_div {t : Tb} {y : Nat} (hy : y < t.rows.length * t.attrs.length) : 0 < t.attrs.length ∧ y / t.attrs.length < t.rows.length := by
  have hn0 : 0 < t.attrs.length := by
    rcases Nat.eq_zero_or_pos t.attrs.length with e | e
    · rw [e] at hy; omega
    · exact e
  exact ⟨hn0, by rw [Nat.div_lt_iff_lt_mul hn0]; exact hy⟩
theorem chg_cr {t : Tb} {x : Nat} {v : Vl} {y : Nat} (hy : y < t.rows.length * t.attrs.length) : crAt (chg t x v) y = crAt t y := by
  unfold crAt
  rw [chg_attrs, chg_id (cell_div hy).2]
theorem chg_vl {t : Tb} (h : TbV t) {x : Nat} {v : Vl} {y : Nat} (hx : x < t.rows.length * t.attrs.length) (hy : y < t.rows.length * t.attrs.length) : vlAt (chg t x v) y = if y = x then v else vlAt t y := by
  obtain ⟨hn0, hyr⟩ := cell_div hy
  unfold vlAt
  rw [chg_attrs, chg_row hyr]
  have hxa := Nat.mod_lt x hn0
  have hya := Nat.mod_lt y hn0
  have e1 := Nat.div_add_mod x t.attrs.length
  have e2 := Nat.div_add_mod y t.attrs.length
  by_cases hd : y / t.attrs.length = x / t.attrs.length
  · rw [if_pos hd]
    have hl := h.row hyr
    unfold setV vAt
    simp only [List.getD_eq_getElem?_getD]
    by_cases hm : y % t.attrs.length = x % t.attrs.length
    · have : y = x := by rw [hd, hm] at e2; omega
      rw [if_pos this, hm, List.getElem?_set_self (by rw [hl]; exact hxa)]
      rfl
    · rw [List.getElem?_set_ne (Ne.symm hm), if_neg (fun e => hm (by rw [e]))]
  · rw [if_neg hd, if_neg (fun e => hd (by rw [e]))]
theorem chg_mem {t : Tb} {x : Nat} {v : Vl} {r : Rw} (hr : r ∈ (chg t x v).rows) : ∃ r0 ∈ t.rows, r.id = r0.id ∧ r.vals.length = r0.vals.length ∧ ∀ w ∈ r.vals, w = v ∨ w ∈ r0.vals := by
  obtain ⟨j, hj, rfl⟩ := List.mem_iff_getElem.1 hr
  have hj' : j < t.rows.length := by rw [chg_rows] at hj; exact hj
  have := chg_row (x := x) (v := v) hj'
  rw [rwAt_in hj, rwAt_in hj'] at this
  refine ⟨t.rows[j], List.getElem_mem hj', ?_⟩
  rw [this]
  split
  · refine ⟨rfl, by simp [setV], fun w hw => ?_⟩
    rcases List.mem_or_eq_of_mem_set hw with e | e
    · exact .inr e
    · exact .inl e
  · exact ⟨rfl, rfl, fun w hw => .inr hw⟩
theorem TbG.chg {t : Tb} (h : TbG t) {x : Nat} {v : Vl} (hv : validV v = true) (hs : v.s.size ≤ maxLen) : TbG (chg t x v) := by
  refine ⟨⟨⟨h.v.ok.name, h.v.ok.attrs, by rw [chg_rows]; exact h.v.ok.rows, h.v.ok.strs⟩, h.v.attrs, by rw [chg_rows]; exact h.v.rows, h.v.names, h.v.name, fun r hr => ?_, fun r hr w hw => ?_, ?_⟩, fun r hr => ?_, fun r hr w hw => ?_⟩
  · obtain ⟨r0, h0, h1, h2, h3⟩ := chg_mem hr
    rw [h2]; exact h.v.len r0 h0
  · obtain ⟨r0, h0, h1, h2, h3⟩ := chg_mem hr
    rcases h3 w hw with e | e
    · rw [e]; exact hv
    · exact h.v.vals r0 h0 w e
  · rw [List.pairwise_iff_getElem]
    intro i j hi hj hij
    have hi' : i < t.rows.length := by rw [chg_rows] at hi; exact hi
    have hj' : j < t.rows.length := by rw [chg_rows] at hj; exact hj
    have e1 := chg_id (x := x) (v := v) hi'
    have e2 := chg_id (x := x) (v := v) hj'
    rw [rwAt_in hi, rwAt_in hi'] at e1
    rw [rwAt_in hj, rwAt_in hj'] at e2
    rw [e1, e2]
    exact List.pairwise_iff_getElem.1 h.v.asc i j hi' hj' hij
  · obtain ⟨r0, h0, h1, h2, h3⟩ := chg_mem hr
    rw [h1]; exact h.pos r0 h0
  · obtain ⟨r0, h0, h1, h2, h3⟩ := chg_mem hr
    rcases h3 w hw with e | e
    · rw [e]; exact hs
    · exact h.sz r0 h0 w e
theorem vl_in {t : Tb} (h : TbV t) {y : Nat} (hy : y < t.rows.length * t.attrs.length) : ∃ r ∈ t.rows, vlAt t y ∈ r.vals := by
  obtain ⟨hn0, hyr⟩ := cell_div hy
  unfold vlAt
  rw [rwAt_in hyr]
  have hl := h.len _ (List.getElem_mem hyr)
  rw [vAt_in (by rw [hl]; exact Nat.mod_lt _ hn0)]
  exact ⟨_, List.getElem_mem hyr, List.getElem_mem _⟩
theorem cand_ok {t : Tb} (h : TbG t) (k i : Nat) : validV (candV t k i) = true ∧ (candV t k i).s.size ≤ maxLen := by
  unfold candV
  split
  · rename_i hi
    obtain ⟨r, hr, hv⟩ := vl_in h.v hi
    exact ⟨h.v.vals r hr _ hv, h.sz r hr _ hv⟩
  · exact ⟨by simp [nuV, validV], Nat.zero_le _⟩
theorem change_x (t : Tb) (f g : Bool) (x : Nat) (v : Vl) (h : TbG t) (hx : x < t.rows.length * t.attrs.length) (hv : validV v = true) : ConP Tryz.prog 47 [encTb f g t, encCr (crAt t x), encV v] fun r => r = .tup [encTb false false (chg t x v), .int .i64 0] := by
  obtain ⟨hn0, hi⟩ := cell_div hx
  have := change_ok t f g (x / t.attrs.length) (x % t.attrs.length) v h hi (Nat.mod_lt _ hn0) hv
  exact this
set_option maxHeartbeats 64000000 in
theorem exists_r (fds : List Fd) (hF : FdsOk fds) (df : Bool) : ∀ (xs : List Nat) (t : Tb) (f g cf : Bool), TbG t → (∀ x ∈ xs, x < t.rows.length * t.attrs.length) → xs.length ≤ 1000 → ConP Tryz.prog 19 [encTb f g t, LF df fds, LC cf (xs.map (crAt t))] fun r => r = .bool (exB fds xs t)
  | [], t, f, g, cf, h, hx, hl => by
    have c1 := satisfies_r t f g df fds h.v.rows (fun r hr => ⟨by have := h.v.len r hr; have := h.v.attrs; omega, h.sz r hr⟩) hF.1
    unfold exB
    simp only [encTb, LS, LR, LF] at c1
    refine conP_of_conH (conH_of_W tok Tryz.func19 rfl rfl ?_)
    refine W_x tok mixed ?_
    simp -implicitDefEqProofs -dsimp [Tryz.f19, List.replicate, encTb, LS, LR, LF, LC]
    refine (callP (c1) (by simp)).mono ?_
    rintro r H' ⟨rfl, rfl⟩
    simp -implicitDefEqProofs -dsimp []
  | x :: xs, t, f, g, cf, h, hx, hl => by
    have ih := exists_r fds hF df xs
    have hxN := hx x List.mem_cons_self
    have hxs : ∀ y ∈ xs, y < t.rows.length * t.attrs.length := fun y hy => hx y (List.mem_cons_of_mem _ hy)
    have hlx : xs.length ≤ 999 := by simp only [List.length_cons] at hl; omega
    have c1 := cells_r t f g h.v.rows (by have := h.v.attrs; omega)
    have hsm := prob_small h.v
    have hclen := cellsT_len t
    have hcat := fun i hi => cellsT_at (t := t) (i := i) hi
    have hk : candV t (xs.length + 1) = candV t (xs.length + 1) := rfl
    obtain ⟨E, hE⟩ : ∃ E, E = exB fds (x :: xs) t := ⟨_, rfl⟩
    rw [← hE]
    rw [exB] at hE
    obtain ⟨N, hN⟩ : ∃ N, N = t.rows.length * t.attrs.length := ⟨_, rfl⟩
    rw [← hN] at hE hxN hxs hsm hclen
    have hyes : ∀ i, i ≤ N → exB fds xs (chg t x (candV t (xs.length + 1) i)) = true → E = true := fun i hi he => by
      rw [hE]; exact List.any_eq_true.2 ⟨i, by simp; omega, he⟩
    have hno : (∀ i, i ≤ N → exB fds xs (chg t x (candV t (xs.length + 1) i)) = false) → E = false := fun he => by
      rw [hE]
      cases hb : (List.range (N + 1)).any fun i => exB fds xs (chg t x (candV t (xs.length + 1) i)) with
      | false => rfl
      | true =>
        obtain ⟨i, hi, h2⟩ := List.any_eq_true.1 hb
        rw [he i (by simp at hi; omega)] at h2; cases h2
    have hw : IntKind.i64.wrap (1000 + ((xs.length : Int) + 1)) = 1000 + ((xs.length : Int) + 1) := wrap64 (by omega) (by omega)
    obtain ⟨all, hall⟩ : ∃ all, all = cellsT t := ⟨_, rfl⟩
    rw [← hall] at c1 hclen hcat
    have hmap : (xs.map (crAt t)).map encCr = xs.map (fun y => encCr (crAt t y)) := by simp
    simp only [encTb, LS, LR, LC] at c1
    refine conP_of_conH (conH_of_W tok Tryz.func19 rfl rfl ?_)
    refine W_x tok mixed ?_
    simp -implicitDefEqProofs -dsimp [Tryz.f19, List.replicate, encTb, LS, LR, LF, LC]
    refine (callP (c1) (by simp)).mono ?_
    rintro r H' ⟨rfl, rfl⟩
    simp -implicitDefEqProofs -dsimp []
    refine lw_of (W_loopV [false, false, false, false, false, false, true, false, true, true, true, true, false, false, false, false, false, false, false, false, true, true, true, true, true, true, true, true, true, true, true, true, true, true, true, true, true, true, true, true, true, true, true, true, true, true, true, true, true, true, true, true, true, true, true, true, true, true] (σ := Nat) (fun i => i ≤ N + 1 ∧ ∀ j, j < i → exB fds xs (chg t x (candV t (xs.length + 1) j)) = false) (fun i => N + 1 - i) (fun i => [(8, .int .i64 i)]) (fun _ => [B.cells [.str t.name, .lst 1 f (t.attrs.map V.str), .lst 2 g (t.rows.map encRw)]]) 0 ⟨by omega, fun j hj => by omega⟩ (by simp) (by simp) (by simp) ?_)
    rintro i ⟨hi, hx2⟩ N1 Q1 hN1 hQ1
    have htl : List.take xs.length (List.map (encCr ∘ crAt t) xs) = List.map (encCr ∘ crAt t) xs := List.take_of_length_le (by simp)
    by_cases hb : i ≤ N
    · obtain ⟨v, hv⟩ : ∃ v, v = candV t (xs.length + 1) i := ⟨_, rfl⟩
      have g1 := cand_ok h (xs.length + 1) i
      rw [← hv] at g1
      have hg' := h.chg (x := x) g1.1 g1.2
      have c3 := change_x t f g x v h (hN ▸ hxN) g1.1
      have c4 := ih (chg t x v) false false cf hg' (fun y hy => by rw [chg_rows, chg_attrs, ← hN]; exact hxs y hy) (by omega)
      rw [show xs.map (crAt (chg t x v)) = xs.map (crAt t) from List.map_congr_left fun y hy => chg_cr (hN ▸ hxs y hy)] at c4
      have hyes' := hyes i hb
      have hst : exB fds xs (chg t x (candV t (xs.length + 1) i)) = false → ∀ j, j < i + 1 → exB fds xs (chg t x (candV t (xs.length + 1) j)) = false := fun e j hj => by
        rcases Nat.lt_or_ge j i with e1 | e1
        · exact hx2 j e1
        · have : j = i := by omega
          subst this; exact e
      rw [← hv] at hyes' hst
      obtain ⟨u, hu⟩ : ∃ u, u = chg t x v := ⟨_, rfl⟩
      rw [← hu] at c3 c4 hyes' hst
      simp only [encTb, LS, LR, LC, LF, encCr, encV, List.map_map] at c3 c4
      by_cases hi2 : i < N
      · have hvv : v = vlAt t i := by rw [hv, candV, if_pos (hN ▸ hi2)]
        have cv := value_r t f g h i (hN ▸ hi2)
        rw [← hvv] at cv
        simp only [encTb, LS, LR, encCr, encV] at cv
        cases q : exB fds xs u with
        | true =>
          rw [q] at c4
          refine W_x tok mixed ?_
          simp -implicitDefEqProofs -dsimp [hb, hclen, hw, hi2]
          refine lw_of (W_drawT tok mixed [6] [] [(.agg [.int .i64 v.k, .int .i64 v.n, .str v.s], [])] (by kernel_rfl) fun C K hC hK => ?_)
          simp -implicitDefEqProofs [hcat, hclen, hi2, encCr]
          refine ⟨hC _ _ _ _ (callP cv (by simp)), hK _ _ ?_⟩
          simp -implicitDefEqProofs -dsimp []
          refine lw_of (W_drawT tok mixed [9, 10] [(0, [1]), (1, [1]), (2, [1]), (3, [1]), (4, [1]), (5, [1]), (6, [1]), (7, [1]), (8, [1, 2])] [(.tup [V.agg [.str u.name, .lst 1 false (u.attrs.map V.str), .lst 2 false (u.rows.map encRw)], .int .i64 0], [])] (by kernel_rfl) fun C K hC hK => ?_)
          simp -implicitDefEqProofs [encCr, show (0 : Int) < (xs.length : Int) + 1 by omega]
          refine ⟨by (repeat' apply And.intro) <;> exact hC _ _ _ _ (callP c3 (by simp)), hK _ _ ?_⟩
          simp -implicitDefEqProofs -dsimp [htl]
          refine .inr ⟨stop_of (by kernel_rfl), ?_⟩
          refine cy_of _ (callP (c4) (by simp)) ?_
          simp -implicitDefEqProofs -dsimp []
          refine hQ1 _ _ _ ?_
          simp -implicitDefEqProofs -dsimp []
          exact hyes' q
        | false =>
          rw [q] at c4
          refine W_x tok mixed ?_
          simp -implicitDefEqProofs -dsimp [hb, hclen, hw, hi2]
          refine lw_of (W_drawT tok mixed [6] [] [(.agg [.int .i64 v.k, .int .i64 v.n, .str v.s], [])] (by kernel_rfl) fun C K hC hK => ?_)
          simp -implicitDefEqProofs [hcat, hclen, hi2, encCr]
          refine ⟨hC _ _ _ _ (callP cv (by simp)), hK _ _ ?_⟩
          simp -implicitDefEqProofs -dsimp []
          refine lw_of (W_drawT tok mixed [9, 10] [(0, [1]), (1, [1]), (2, [1]), (3, [1]), (4, [1]), (5, [1]), (6, [1]), (7, [1]), (8, [1, 2])] [(.tup [V.agg [.str u.name, .lst 1 false (u.attrs.map V.str), .lst 2 false (u.rows.map encRw)], .int .i64 0], [])] (by kernel_rfl) fun C K hC hK => ?_)
          simp -implicitDefEqProofs [encCr, show (0 : Int) < (xs.length : Int) + 1 by omega]
          refine ⟨by (repeat' apply And.intro) <;> exact hC _ _ _ _ (callP c3 (by simp)), hK _ _ ?_⟩
          simp -implicitDefEqProofs -dsimp [htl]
          refine .inr ⟨stop_of (by kernel_rfl), ?_⟩
          refine cy_of _ (callP (c4) (by simp)) ?_
          simp -implicitDefEqProofs -dsimp [wrapS i (by omega)]
          refine hN1 (i + 1) _ _ ⟨by omega, hst q⟩ (by omega) (by simp [encCr]) ⟨[B.cells [.int .i64 v.k, .int .i64 v.n, .str v.s], B.cells [.str u.name, .lst 1 false (u.attrs.map V.str), .lst 2 false (u.rows.map encRw)]], by simp⟩ (by simp) (by simp)

      · have hvv : v = nuV (xs.length + 1) := by rw [hv, candV, if_neg (by omega)]
        have hk1 : v.k = 1 := by rw [hvv]; rfl
        have hk2 : v.n = 1000 + ((xs.length : Int) + 1) := by rw [hvv]; simp [nuV]
        have hk3 : v.s = ByteArray.empty := by rw [hvv]; rfl
        rw [hk1, hk2, hk3] at c3
        cases q : exB fds xs u with
        | true =>
          rw [q] at c4
          refine W_x tok mixed ?_
          simp -implicitDefEqProofs -dsimp [hb, hclen, hw, hi2]
          refine lw_of (W_drawT tok mixed [9, 10] [(0, [1]), (1, [1]), (2, [1]), (3, [1]), (4, [1]), (5, [1]), (6, [1]), (7, [1]), (8, [1, 2])] [(.tup [V.agg [.str u.name, .lst 1 false (u.attrs.map V.str), .lst 2 false (u.rows.map encRw)], .int .i64 0], [])] (by kernel_rfl) fun C K hC hK => ?_)
          simp -implicitDefEqProofs [encCr, show (0 : Int) < (xs.length : Int) + 1 by omega]
          refine ⟨by (repeat' apply And.intro) <;> exact hC _ _ _ _ (callP c3 (by simp)), hK _ _ ?_⟩
          simp -implicitDefEqProofs -dsimp [htl]
          refine .inr ⟨stop_of (by kernel_rfl), ?_⟩
          refine cy_of _ (callP (c4) (by simp)) ?_
          simp -implicitDefEqProofs -dsimp []
          refine hQ1 _ _ _ ?_
          simp -implicitDefEqProofs -dsimp []
          exact hyes' q
        | false =>
          rw [q] at c4
          refine W_x tok mixed ?_
          simp -implicitDefEqProofs -dsimp [hb, hclen, hw, hi2]
          refine lw_of (W_drawT tok mixed [9, 10] [(0, [1]), (1, [1]), (2, [1]), (3, [1]), (4, [1]), (5, [1]), (6, [1]), (7, [1]), (8, [1, 2])] [(.tup [V.agg [.str u.name, .lst 1 false (u.attrs.map V.str), .lst 2 false (u.rows.map encRw)], .int .i64 0], [])] (by kernel_rfl) fun C K hC hK => ?_)
          simp -implicitDefEqProofs [encCr, show (0 : Int) < (xs.length : Int) + 1 by omega]
          refine ⟨by (repeat' apply And.intro) <;> exact hC _ _ _ _ (callP c3 (by simp)), hK _ _ ?_⟩
          simp -implicitDefEqProofs -dsimp [htl]
          refine .inr ⟨stop_of (by kernel_rfl), ?_⟩
          refine cy_of _ (callP (c4) (by simp)) ?_
          simp -implicitDefEqProofs -dsimp [wrapS i (by omega)]
          refine hN1 (i + 1) _ _ ⟨by omega, hst q⟩ (by omega) (by simp [encCr]) ⟨[B.cells [.int .i64 1, .int .i64 (1000 + ((xs.length : Int) + 1)), .str ByteArray.empty], B.cells [.str u.name, .lst 1 false (u.attrs.map V.str), .lst 2 false (u.rows.map encRw)]], by simp⟩ (by simp) (by simp)

    · obtain rfl : i = N + 1 := by omega
      have hend := hno (fun j hj => hx2 j (by omega))
      refine W_x tok mixed ?_
      simp -implicitDefEqProofs -dsimp [hb, hclen, show ¬ (N + 1 ≤ N) by omega, show ¬ ((N : Int) + 1 ≤ N) by omega]
      refine hQ1 _ _ _ ?_
      simp -implicitDefEqProofs -dsimp []
      exact hend
end Go.Proofs.YteijbpppalhihaaGreat
end

section
/- Z5: the filled table satisfies the dependencies and differs only in open cells. -/
set_option linter.unusedSimpArgs false
namespace Go.Proofs.YteijbpppalhihaaGreat
open Go Go.AM
/-- A solution whose values are renamed. -/
theorem sol_map {q : Prob} {c : Nat → Dm} (h : Sol q c) (f : Dm → Dm) (hi : ∀ x y, x < q.m * q.n → y < q.m * q.n → f (c x) = f (c y) → c x = c y) (hf : ∀ x v, x < q.m * q.n → q.K x = some v → f (.inl v) = .inl v) : Sol q (fun x => f (c x)) :=
  ⟨fun x v hx hk => by
    show f (c x) = _
    rw [h.fix x v hx hk]; exact hf x v hx hk, fun d hd i k hi' hk hl a ha hb => congrArg f (h.dep d hd i k hi' hk (fun b hb1 hb2 => hi _ _ (cell_lt hi' hb1) (cell_lt (by omega) hb1) (hl b hb1 hb2)) a ha hb)⟩
theorem fresh (c : Nat → Dm) : ∀ N : Nat, ∃ S, ∀ y s, y < N → c y = .inr s → s < S
  | 0 => ⟨0, fun y s h => by omega⟩
  | N + 1 => by
    obtain ⟨S, hS⟩ := fresh c N
    cases hc : c N with
    | inl v => exact ⟨S, fun y s hy h => by
        rcases Nat.lt_or_ge y N with e | e
        · exact hS y s e h
        · have : y = N := by omega
          subst this; rw [hc] at h; cases h⟩
    | inr s0 => exact ⟨max S (s0 + 1), fun y s hy h => by
        rcases Nat.lt_or_ge y N with e | e
        · have := hS y s e h; omega
        · have : y = N := by omega
          subst this
          rw [hc] at h
          have := Sum.inr.inj h; omega⟩
theorem GenS.val_in {q : Prob} {c : Nat → Dm} (h : GenS q c) {x : Nat} {v : Vl} (hx : x < q.m * q.n) (hv : c x = .inl v) : ∃ y, y < q.m * q.n ∧ q.K y = some v := by
  refine Classical.byContradiction fun hno => ?_
  obtain ⟨S, hS⟩ := fresh c (q.m * q.n)
  have hfr : ∀ y, y < q.m * q.n → c y ≠ .inr S := fun y hy he => by have := hS y S hy he; omega
  obtain ⟨f, f1, f2⟩ : ∃ f : Dm → Dm, f (.inl v) = .inr S ∧ ∀ d, d ≠ .inl v → f d = d := by
    refine ⟨fun d => open Classical in if d = .inl v then .inr S else d, if_pos rfl, fun d hd => if_neg hd⟩
  have hs := sol_map h.sol f (fun a b ha hb he => by
    by_cases h1 : c a = .inl v
    · by_cases h2 : c b = .inl v
      · rw [h1, h2]
      · rw [h1, f1, f2 _ h2] at he
        exact absurd he.symm (hfr b hb)
    · by_cases h2 : c b = .inl v
      · rw [h2, f1, f2 _ h1] at he
        exact absurd he (hfr a ha)
      · rwa [f2 _ h1, f2 _ h2] at he) (fun a w ha hk => f2 _ (fun he => hno ⟨a, ha, by rw [hk, Sum.inl.inj he]⟩))
  obtain ⟨τ, ht⟩ := h.gen _ hs
  have := ht x hx
  simp only [hv, f1, app] at this
  cases this
theorem numP_lt {u : Int → Bool} {b : Int} (hu : Bnd u b) {j k : Nat} (h : j < k) : numP u j < numP u k := by
  induction k with
  | zero => omega
  | succ k ih =>
    have h1 := (nxt_ok hu (numP u k)).1.gt
    rcases Nat.lt_or_ge j k with e | e
    · have := ih e
      rw [numP]; omega
    · have : j = k := by omega
      subst this
      rw [numP]; omega
theorem rank_mono (c : Nat → Dm) {a b : Nat} (h : a ≤ b) : rankC c a ≤ rankC c b := by
  induction b with
  | zero => have : a = 0 := by omega
            subst this; exact Nat.le_refl _
  | succ b ih =>
    rcases Nat.lt_or_ge a (b + 1) with e | e
    · have := ih (by omega)
      by_cases hs : isSym (c b) ∧ fp c b = b
      · rw [rank_new hs.1 hs.2]; omega
      · rw [rank_old hs]; exact this
    · have : a = b + 1 := by omega
      subst this; exact Nat.le_refl _
theorem rank_lt {c : Nat → Dm} {y z : Nat} (h1 : isSym (c y)) (h2 : fp c y = y) (h : y < z) : rankC c y < rankC c z := by
  have := rank_mono c (show y + 1 ≤ z by omega)
  rw [rank_new h1 h2] at this
  omega
theorem cls_inj {u : Int → Bool} {b : Int} (hu : Bnd u b) {c : Nat → Dm} {x y : Nat} (hx : isSym (c x)) (hy : isSym (c y)) (h : cls u c x = cls u c y) : c x = c y := by
  have hx' : isSym (c (fp c x)) := by rw [fp_same c x]; exact hx
  have hy' : isSym (c (fp c y)) := by rw [fp_same c y]; exact hy
  have hr : rankC c (fp c x) = rankC c (fp c y) := by
    unfold cls at h
    rcases Nat.lt_trichotomy (rankC c (fp c x)) (rankC c (fp c y)) with e | e | e
    · have := numP_lt hu (show rankC c (fp c x) + 1 < rankC c (fp c y) + 1 by omega); omega
    · exact e
    · have := numP_lt hu (show rankC c (fp c y) + 1 < rankC c (fp c x) + 1 by omega); omega
  have hf : fp c x = fp c y := by
    rcases Nat.lt_trichotomy (fp c x) (fp c y) with e | e | e
    · have := rank_lt hx' (fp_fp c x) e; omega
    · exact e
    · have := rank_lt hy' (fp_fp c y) e; omega
  rw [← fp_same c x, ← fp_same c y, hf]
theorem cls_free {u : Int → Bool} {b : Int} (hu : Bnd u b) (c : Nat → Dm) (x : Nat) : u (cls u c x) = false := (nxt_ok hu (numP u (rankC c (fp c x)))).1.free
theorem probK_some {t : Tb} {fds : List Fd} {l : List Cr} {x : Nat} {v : Vl} (h : (probT t fds l).K x = some v) : v = vlAt t x ∧ crAt t x ∉ l := by
  by_cases hc : crAt t x ∈ l
  · rw [probK_in hc] at h; cases h
  · rw [probK_out hc] at h; exact ⟨(Option.some.inj h).symm, hc⟩
theorem out_inj {t : Tb} {fds : List Fd} {l : List Cr} {c : Nat → Dm} (h : GenS (probT t fds l) c) (hB : TbN t) {x y : Nat} (hx : x < t.rows.length * t.attrs.length) (hy : y < t.rows.length * t.attrs.length) (he : outV (unkT t) c x = outV (unkT t) c y) : c x = c y := by
  have key : ∀ x y v, x < t.rows.length * t.attrs.length → c x = .inl v → isSym (c y) → outV (unkT t) c x ≠ outV (unkT t) c y := fun x y v hx hv hs he => by
    rw [out_inl hv, out_inr hs] at he
    obtain ⟨z, hz, hk⟩ := h.val_in hx hv
    have h1 := (probK_some hk).1
    have : unkT t (cls (unkT t) c y) = true := unkT_iff.2 ⟨z, hz, by rw [← h1, he], by rw [← h1, he]⟩
    rw [cls_free hB.bnd] at this
    cases this
  by_cases h1 : isSym (c x)
  · by_cases h2 : isSym (c y)
    · rw [out_inr h1, out_inr h2] at he
      refine cls_inj hB.bnd h1 h2 ?_
      injection he
    · obtain ⟨v, hv⟩ := not_isSym h2
      exact absurd he.symm (key y x v hy hv h1)
  · obtain ⟨v, hv⟩ := not_isSym h1
    by_cases h2 : isSym (c y)
    · exact absurd he (key x y v hx hv h2)
    · obtain ⟨w, hw⟩ := not_isSym h2
      rw [out_inl hv, out_inl hw] at he
      rw [hv, hw, he]
theorem filT_at {t : Tb} {c : Nat → Dm} {i a : Nat} (hi : i < t.rows.length) (ha : a < t.attrs.length) : vlAt (filT t c) (i * t.attrs.length + a) = outV (unkT t) c (i * t.attrs.length + a) := by
  have := vlAt_at (filT t c) (i := i) (a := a) ha
  rw [show (filT t c).attrs.length = t.attrs.length from rfl] at this
  rw [this, rwAt_in (by rw [filT_rows]; exact hi)]
  simp [filT, filRow, vAt, ha]
/-- Rows agree if their values at a set are equal. -/
theorem vTo2_eq {us vs : List Vl} {s : Int} : ∀ {i : Nat}, vTo2 us s i = vTo2 vs s i ↔ ∀ k, k < i → hasB s k = true → vAt us k = vAt vs k
  | 0 => by simp [vTo2]
  | i + 1 => by
    have ih := vTo2_eq (us := us) (vs := vs) (s := s) (i := i)
    simp only [vTo2]
    cases hb : hasB s i with
    | true =>
      simp only [if_true]
      constructor
      · intro h
        obtain ⟨h1, h2⟩ := List.append_inj' h rfl
        intro k hk hs
        rcases Nat.lt_or_ge k i with e | e
        · exact ih.1 h1 k e hs
        · have : k = i := by omega
          subst this
          exact List.cons.inj h2 |>.1
      · intro h
        rw [ih.2 (fun k hk hs => h k (by omega) hs)]
        have := h i (by omega) hb
        unfold vAt at this
        rw [this]
    | false =>
      simp only [Bool.false_eq_true, if_false]
      rw [ih]
      constructor
      · intro h k hk hs
        rcases Nat.lt_or_ge k i with e | e
        · exact h k e hs
        · have : k = i := by omega
          subst this; rw [hb] at hs; cases hs
      · intro h k hk hs; exact h k (by omega) hs
theorem cmpVs_zero : ∀ {us vs : List Vl}, cmpVs us vs = 0 ↔ us = vs
  | [], [] => by simp [cmpVs]
  | [], _ :: _ => by simp [cmpVs]
  | _ :: _, [] => by simp [cmpVs]
  | u :: us, v :: vs => by
    rw [cmpVs, List.cons.injEq]
    have h1 := cmpV_zero u v
    have h2 := cmpVs_zero (us := us) (vs := vs)
    split
    · rename_i h
      rw [h2]
      exact ⟨fun h3 => ⟨h1.1 h, h3⟩, fun h3 => h3.2⟩
    · rename_i h
      exact ⟨fun h3 => absurd h3 h, fun h3 => absurd (h1.2 h3.1) h⟩
theorem agreeR_iff {a b : Rw} {s : Int} (h : a.vals.length = b.vals.length) : agreeR a b s = true ↔ ∀ k, k < a.vals.length → hasB s k = true → vAt a.vals k = vAt b.vals k := by
  unfold agreeR valsOf
  rw [beq_iff_eq, cmpVs_zero, ← h]
  exact vTo2_eq
theorem rwAt_vals {t : Tb} {i a : Nat} (ha : a < t.attrs.length) : vAt (rwAt t i).vals a = vlAt t (i * t.attrs.length + a) := (vlAt_at t ha).symm
/-- What all dependencies mean for the cells. -/
theorem satP_iff {u : Tb} {fds : List Fd} (hl : ∀ r ∈ u.rows, r.vals.length = u.attrs.length) (hn : u.attrs.length ≤ 16) (hF : FdsOk fds) : SatP u fds ↔ ∀ d ∈ fds, ∀ i k, i < u.rows.length → k < i → (∀ a, a < u.attrs.length → d.l.testBit a = true → vlAt u (i * u.attrs.length + a) = vlAt u (k * u.attrs.length + a)) → ∀ a, a < u.attrs.length → d.r.testBit a = true → vlAt u (i * u.attrs.length + a) = vlAt u (k * u.attrs.length + a) := by
  have key : ∀ (s : Nat), s < 4294967296 → ∀ i k, i < u.rows.length → k < i → (agreeR (rwAt u i) (rwAt u k) s = true ↔ ∀ a, a < u.attrs.length → s.testBit a = true → vlAt u (i * u.attrs.length + a) = vlAt u (k * u.attrs.length + a)) := fun s hs i k hi hk => by
    have h1 : (rwAt u i).vals.length = u.attrs.length := by rw [rwAt_in hi]; exact hl _ (List.getElem_mem hi)
    have h2 : (rwAt u k).vals.length = u.attrs.length := by rw [rwAt_in (show k < u.rows.length by omega)]; exact hl _ (List.getElem_mem _)
    rw [agreeR_iff (by rw [h1, h2]), h1]
    constructor
    · intro h a ha hb
      rw [← rwAt_vals ha, ← rwAt_vals ha]
      exact h a ha (by rw [hasB_bit _ _ hs (by omega)]; exact hb)
    · intro h a ha hb
      rw [rwAt_vals ha, rwAt_vals ha]
      exact h a ha (by rw [hasB_bit _ _ hs (by omega)] at hb; exact hb)
  unfold SatP
  constructor
  · intro h d hd i k hi hk hl
    obtain ⟨b1, b2⟩ := hF.2 d hd
    exact (key d.r b2 i k hi hk).1 (h d hd i k hi hk ((key d.l b1 i k hi hk).2 hl))
  · intro h d hd i k hi hk hl
    obtain ⟨b1, b2⟩ := hF.2 d hd
    exact (key d.r b2 i k hi hk).2 (h d hd i k hi hk ((key d.l b1 i k hi hk).1 hl))
theorem filT_sat {t : Tb} {fds : List Fd} {l : List Cr} {c : Nat → Dm} (h : GenS (probT t fds l) c) (hB : TbN t) (hv : TbV t) (hF : FdsOk fds) : SatP (filT t c) fds := by
  rw [satP_iff (filT_len t c) hv.attrs hF]
  intro d hd i k hi hk hl a ha hb
  have hi' : i < t.rows.length := by rw [filT_rows] at hi; exact hi
  have hk' : k < t.rows.length := by omega
  have e : (filT t c).attrs.length = t.attrs.length := rfl
  rw [e] at hl ha ⊢
  rw [filT_at hi' ha, filT_at hk' ha]
  have := h.sol.dep d hd i k hi' hk (fun b hb1 hb2 => out_inj h hB (cell_lt hi' hb1) (cell_lt hk' hb1) (by
    have := hl b hb1 hb2
    rwa [filT_at hi' hb1, filT_at hk' hb1] at this)) a ha hb
  have h2 : ∀ x y, c x = c y → outV (unkT t) c x = outV (unkT t) c y := fun x y he => by
    by_cases h1 : isSym (c x)
    · rw [out_inr h1, out_inr (by rw [← he]; exact h1), cls_uniq he]
    · obtain ⟨v, hv⟩ := not_isSym h1
      rw [out_inl hv, out_inl (he ▸ hv)]
  exact h2 _ _ this
theorem filT_only {t : Tb} {fds : List Fd} {l : List Cr} {c : Nat → Dm} (h : GenS (probT t fds l) c) {i a : Nat} (hi : i < t.rows.length) (ha : a < t.attrs.length) (hne : vlAt (filT t c) (i * t.attrs.length + a) ≠ vlAt t (i * t.attrs.length + a)) : crAt t (i * t.attrs.length + a) ∈ l := by
  refine Classical.byContradiction fun hc => hne ?_
  rw [filT_at hi ha]
  exact out_inl (h.sol.fix _ _ (cell_lt hi ha) (probK_out hc))
open Classical in
noncomputable def pick (p : Vl → Prop) (r : Nat → Prop) : Dm := if h : ∃ v, p v then .inl h.choose else .inr (Classical.epsilon r)
/-- If there is a solution, then there is one of which all others are instances: what is forced to be equal is equal. -/
theorem genS_ok {q : Prob} (h : Okq q) : ∃ c, GenS q c := by
  obtain ⟨σ0, h0⟩ := h
  let Fq : Nat → Nat → Prop := fun x y => ∀ σ, Sol q σ → σ x = σ y
  let Vq : Nat → Vl → Prop := fun x v => ∀ σ, Sol q σ → σ x = .inl v
  let c : Nat → Dm := fun x => pick (Vq x) (fun y => Fq y x)
  have hc : ∀ x, c x = pick (Vq x) (fun y => Fq y x) := fun _ => rfl
  have h1 : ∀ x y, Fq x y → c x = c y := fun x y hf => by
    have e1 : Vq x = Vq y := funext fun v => propext ⟨fun g σ hσ => by rw [← hf σ hσ]; exact g σ hσ, fun g σ hσ => by rw [hf σ hσ]; exact g σ hσ⟩
    have e2 : (fun z => Fq z x) = fun z => Fq z y := funext fun z => propext ⟨fun g σ hσ => (g σ hσ).trans (hf σ hσ), fun g σ hσ => (g σ hσ).trans (hf σ hσ).symm⟩
    rw [hc, hc, e1, e2]
  have h2 : ∀ x v, c x = .inl v → Vq x v := fun x v he => by
    rw [hc] at he
    unfold pick at he
    split at he
    · rename_i hv
      have := hv.choose_spec
      rw [Sum.inl.inj he] at this
      exact this
    · cases he
  have h3 : ∀ x s, c x = .inr s → Fq s x := fun x s he => by
    rw [hc] at he
    unfold pick at he
    split at he
    · cases he
    · have hx : ∃ y, Fq y x := ⟨x, fun _ _ => rfl⟩
      have := Classical.epsilon_spec hx
      rw [Sum.inr.inj he] at this
      exact this
  have h4 : ∀ x y, c x = c y → Fq x y := fun x y he σ hσ => by
    cases hx : c x with
    | inl v => rw [h2 x v hx σ hσ, h2 y v (he ▸ hx) σ hσ]
    | inr s => rw [← h3 x s hx σ hσ, h3 y s (he ▸ hx) σ hσ]
  refine ⟨c, ⟨fun x v hx hk => ?_, fun d hd i k hi hk hl a ha hb => h1 _ _ fun σ hσ => hσ.dep d hd i k hi hk (fun b hb1 hb2 => h4 _ _ (hl b hb1 hb2) σ hσ) a ha hb⟩, fun σ hσ => ⟨σ, fun x hx => ?_⟩⟩
  · have hV : Vq x v := fun σ hσ => hσ.fix x v hx hk
    cases hcx : c x with
    | inl w =>
      have := h2 x w hcx σ0 h0
      rw [hV σ0 h0] at this
      exact this.symm
    | inr s =>
      rw [hc] at hcx
      unfold pick at hcx
      rw [dif_pos ⟨v, hV⟩] at hcx
      cases hcx
  · cases hcx : c x with
    | inl w => exact h2 x w hcx σ hσ
    | inr s => exact (h3 x s hcx σ hσ).symm
/-- Values of recipes. -/
theorem vl_of {x : Rcp} {n : Nat} : ∀ r ∈ (wideT x n).rows, ∀ v ∈ r.vals, ∃ m, v = ofV m := by
  intro r hr v hv
  obtain ⟨i, hi, rfl⟩ := List.mem_map.1 hr
  obtain ⟨j, _, rfl⟩ := List.mem_map.1 hv
  exact ⟨_, rfl⟩
theorem ofV_n (m : Int) : (ofV m).n ≤ 7 ∧ (ofV m).s.size ≤ 2 := by
  unfold ofV
  repeat' split
  all_goals exact ⟨by decide, by decide⟩
theorem CsV.num {c : Cs} (v : CsV c) : TbN (csT c) := by
  intro y hy
  have hn : 0 < (csT c).attrs.length := by
    rcases Nat.eq_zero_or_pos (csT c).attrs.length with h | h
    · rw [h] at hy; omega
    · exact h
  have hm : y / (csT c).attrs.length < (csT c).rows.length := by rw [Nat.div_lt_iff_lt_mul hn]; exact hy
  unfold vlAt
  rw [rwAt_in hm]
  have hl := v.tv.len _ (List.getElem_mem hm)
  have ha : y % (csT c).attrs.length < (csT c).rows[y / (csT c).attrs.length].vals.length := by rw [hl]; exact Nat.mod_lt _ hn
  rw [vAt_in ha]
  obtain ⟨k, hk⟩ := vl_of _ (List.getElem_mem hm) _ (List.getElem_mem ha)
  rw [hk]
  have := (ofV_n k).1
  omega
theorem out_size {t : Tb} {fds : List Fd} {l : List Cr} {c : Nat → Dm} (h : GenS (probT t fds l) c) (hs : ∀ y, y < t.rows.length * t.attrs.length → (vlAt t y).s.size ≤ maxLen) {x : Nat} (hx : x < t.rows.length * t.attrs.length) : (outV (unkT t) c x).s.size ≤ maxLen := by
  by_cases h1 : isSym (c x)
  · rw [out_inr h1]; exact Nat.zero_le _
  · obtain ⟨v, hv⟩ := not_isSym h1
    rw [out_inl hv]
    obtain ⟨z, hz, hk⟩ := h.val_in hx hv
    rw [(probK_some hk).1]
    exact hs z hz
end Go.Proofs.YteijbpppalhihaaGreat
end

section
/- Z9: some values make all dependencies hold exactly if the cells are enough. -/
set_option linter.unusedSimpArgs false
namespace Go.Proofs.YteijbpppalhihaaGreat
open Go Go.AM
theorem mem_crs {t : Tb} (h : TbV t) {xs : List Nat} (hxs : ∀ x ∈ xs, x < t.rows.length * t.attrs.length) {y : Nat} (hy : y < t.rows.length * t.attrs.length) : crAt t y ∈ xs.map (crAt t) ↔ y ∈ xs := by
  constructor
  · intro hm
    obtain ⟨x, hx, he⟩ := List.mem_map.1 hm
    rw [← h.crAt_inj (hxs x hx) hy he]; exact hx
  · intro hm; exact List.mem_map.2 ⟨y, hm, rfl⟩
theorem sol_down {t : Tb} {fds : List Fd} (h : TbG t) {x : Nat} {xs : List Nat} {v : Vl} (hv : validV v = true) (hs : v.s.size ≤ maxLen) (hx : x < t.rows.length * t.attrs.length) (hxs : ∀ y ∈ xs, y < t.rows.length * t.attrs.length) {σ : Nat → Dm} (hσ : Sol (probT t fds ((x :: xs).map (crAt t))) σ) (hσx : σ x = .inl v) : Sol (probT (chg t x v) fds (xs.map (crAt (chg t x v)))) σ := by
  have hu := (h.chg (x := x) hv hs).v
  refine ⟨fun y w hy hk => ?_, fun d hd i k hi hk hl a ha hb => ?_⟩
  · have hy' : y < t.rows.length * t.attrs.length := by
      have : y < (chg t x v).rows.length * t.attrs.length := hy
      rwa [chg_rows] at this
    obtain ⟨e1, e2⟩ := probK_some hk
    have hn : ¬ y ∈ xs := fun hm => e2 ((mem_crs hu (fun z hz => by rw [chg_rows, chg_attrs]; exact hxs z hz) (by rw [chg_rows, chg_attrs]; exact hy')).2 hm)
    rw [chg_vl h.v hx hy'] at e1
    by_cases hyx : y = x
    · rw [if_pos hyx] at e1
      rw [hyx, hσx, e1]
    · rw [if_neg hyx] at e1
      rw [e1]
      refine hσ.fix y _ hy' (probK_out fun hm => ?_)
      rcases List.mem_cons.1 ((mem_crs h.v (fun z hz => (List.mem_cons.1 hz).elim (fun e => e ▸ hx) (hxs z)) hy').1 hm) with e | e
      · exact hyx e
      · exact hn e
  · have hi' : i < t.rows.length := by
      have : i < (chg t x v).rows.length := hi
      rwa [chg_rows] at this
    exact hσ.dep d hd i k hi' hk hl a ha hb
theorem sol_up {t : Tb} {fds : List Fd} (h : TbG t) {x : Nat} {xs : List Nat} {v : Vl} (hv : validV v = true) (hs : v.s.size ≤ maxLen) (hx : x < t.rows.length * t.attrs.length) (hxs : ∀ y ∈ xs, y < t.rows.length * t.attrs.length) {σ : Nat → Dm} (hσ : Sol (probT (chg t x v) fds (xs.map (crAt (chg t x v)))) σ) : Sol (probT t fds ((x :: xs).map (crAt t))) σ := by
  have hu := (h.chg (x := x) hv hs).v
  refine ⟨fun y w hy hk => ?_, fun d hd i k hi hk hl a ha hb => ?_⟩
  · have hy' : y < t.rows.length * t.attrs.length := hy
    obtain ⟨e1, e2⟩ := probK_some hk
    have hn : ¬ y ∈ x :: xs := fun hm => e2 ((mem_crs h.v (fun z hz => (List.mem_cons.1 hz).elim (fun e => e ▸ hx) (hxs z)) hy').2 hm)
    have hyx : y ≠ x := fun e => hn (by rw [e]; exact List.mem_cons_self)
    have hys : ¬ y ∈ xs := fun e => hn (List.mem_cons_of_mem _ e)
    have := hσ.fix y (vlAt (chg t x v) y) (show y < (chg t x v).rows.length * t.attrs.length by rw [chg_rows]; exact hy') (probK_out fun hm => hys ((mem_crs hu (fun z hz => by rw [chg_rows, chg_attrs]; exact hxs z hz) (by rw [chg_rows, chg_attrs]; exact hy')).1 hm))
    rw [this, chg_vl h.v hx hy', if_neg hyx, e1]
  · exact hσ.dep d hd i k (show i < (chg t x v).rows.length by rw [chg_rows]; exact hi) hk hl a ha hb
open Classical in
theorem okq_step {t : Tb} {fds : List Fd} (h : TbG t) {x : Nat} {xs : List Nat} (k : Nat) (hx : x < t.rows.length * t.attrs.length) (hxs : ∀ y ∈ xs, y < t.rows.length * t.attrs.length) (hnew : ∀ y, y < t.rows.length * t.attrs.length → vlAt t y ≠ nuV k) :
    Okq (probT t fds ((x :: xs).map (crAt t))) ↔ ∃ i, i < t.rows.length * t.attrs.length + 1 ∧ Okq (probT (chg t x (candV t k i)) fds (xs.map (crAt (chg t x (candV t k i))))) := by
  constructor
  · rintro ⟨σ, hσ⟩
    by_cases hd : ∃ i, i < t.rows.length * t.attrs.length ∧ σ x = .inl (vlAt t i)
    · obtain ⟨i, hi, he⟩ := hd
      have hc : candV t k i = vlAt t i := by unfold candV; rw [if_pos hi]
      obtain ⟨a1, a2⟩ := cand_ok h k i
      exact ⟨i, by omega, σ, sol_down h a1 a2 hx hxs hσ (by rw [hc]; exact he)⟩
    · have hc : candV t k (t.rows.length * t.attrs.length) = nuV k := by unfold candV; rw [if_neg (Nat.lt_irrefl _)]
      obtain ⟨a1, a2⟩ := cand_ok h k (t.rows.length * t.attrs.length)
      obtain ⟨f, f1, f2, f3⟩ : ∃ f : Dm → Dm, f (σ x) = .inl (nuV k) ∧ (∀ z, z ≠ σ x → z ≠ .inl (nuV k) → f z = z) ∧ ∀ z z', f z = f z' → z = z' := by
        refine ⟨fun z => if z = σ x then .inl (nuV k) else if z = .inl (nuV k) then σ x else z, if_pos rfl, fun z h1 h2 => ?_, fun z z' he => ?_⟩
        · show (if _ then _ else _) = _
          rw [if_neg h1, if_neg h2]
        · by_cases e1 : z = σ x
          · by_cases e2 : z' = σ x
            · rw [e1, e2]
            · simp only [if_pos e1, if_neg e2] at he
              by_cases e3 : z' = .inl (nuV k)
              · rw [if_pos e3] at he
                rw [e1, e3, ← he]
              · rw [if_neg e3] at he
                exact absurd he.symm e3
          · by_cases e2 : z' = σ x
            · simp only [if_neg e1, if_pos e2] at he
              by_cases e3 : z = .inl (nuV k)
              · rw [if_pos e3] at he
                rw [e2, e3, he]
              · rw [if_neg e3] at he
                exact absurd he e3
            · simp only [if_neg e1, if_neg e2] at he
              by_cases e3 : z = .inl (nuV k)
              · by_cases e4 : z' = .inl (nuV k)
                · rw [e3, e4]
                · rw [if_pos e3, if_neg e4] at he
                  exact absurd he.symm e2
              · by_cases e4 : z' = .inl (nuV k)
                · rw [if_neg e3, if_pos e4] at he
                  exact absurd he e1
                · rw [if_neg e3, if_neg e4] at he
                  exact he
      have hs := sol_map hσ f (fun a b _ _ he => f3 _ _ he) (fun y w hy hk => by
        have e1 := (probK_some hk).1
        exact f2 _ (fun e => hd ⟨y, hy, by rw [← e, e1]⟩) (fun e => hnew y hy (by rw [← e1]; exact Sum.inl.inj e)))
      exact ⟨_, Nat.lt_succ_self _, _, sol_down h a1 a2 hx hxs hs (by rw [hc]; exact f1)⟩
  · rintro ⟨i, _, σ, hσ⟩
    obtain ⟨a1, a2⟩ := cand_ok h k i
    exact ⟨σ, sol_up h a1 a2 hx hxs hσ⟩
theorem nuV_inj {j k : Nat} (h : nuV j = nuV k) : j = k := by
  unfold nuV at h
  injection h with h1 h2 h3
  omega
theorem exB_iff {fds : List Fd} (hF : FdsOk fds) : ∀ (xs : List Nat) (t : Tb), TbG t → (∀ x ∈ xs, x < t.rows.length * t.attrs.length) → (∀ y, y < t.rows.length * t.attrs.length → ∀ k, 1 ≤ k → k ≤ xs.length → vlAt t y ≠ nuV k) → (exB fds xs t = true ↔ Okq (probT t fds (xs.map (crAt t))))
  | [], t, h, _, _ => by
    rw [exB, satB_iff, satP_iff h.v.len h.v.attrs hF]
    constructor
    · intro hs
      refine ⟨fun y => .inl (vlAt t y), fun y v hy hk => by rw [(probK_some hk).1], fun d hd i k hi hk hl a ha hb => ?_⟩
      exact congrArg Sum.inl (hs d hd i k hi hk (fun b hb1 hb2 => Sum.inl.inj (hl b hb1 hb2)) a ha hb)
    · rintro ⟨σ, hσ⟩ d hd i k hi hk hl a ha hb
      have hfix : ∀ y, y < t.rows.length * t.attrs.length → σ y = .inl (vlAt t y) := fun y hy => hσ.fix y _ hy (probK_out (by simp))
      have hk' : k < t.rows.length := by omega
      have := hσ.dep d hd i k hi hk (fun b hb1 hb2 => by
        show σ (i * t.attrs.length + b) = σ (k * t.attrs.length + b)
        rw [hfix _ (cell_lt hi hb1), hfix _ (cell_lt hk' hb1), hl b hb1 hb2]) a ha hb
      have this : σ (i * t.attrs.length + a) = σ (k * t.attrs.length + a) := this
      rw [hfix _ (cell_lt hi ha), hfix _ (cell_lt hk' ha)] at this
      exact Sum.inl.inj this
  | x :: xs, t, h, hx, hnew => by
    have hxN := hx x List.mem_cons_self
    have hxs : ∀ y ∈ xs, y < t.rows.length * t.attrs.length := fun y hy => hx y (List.mem_cons_of_mem _ hy)
    have step := okq_step (fds := fds) h (xs.length + 1) hxN hxs (fun y hy => hnew y hy (xs.length + 1) (by omega) (by simp))
    rw [step, exB, List.any_eq_true]
    have key : ∀ i, exB fds xs (chg t x (candV t (xs.length + 1) i)) = true ↔ Okq (probT (chg t x (candV t (xs.length + 1) i)) fds (xs.map (crAt (chg t x (candV t (xs.length + 1) i))))) := fun i => by
      obtain ⟨a1, a2⟩ := cand_ok h (xs.length + 1) i
      refine exB_iff hF xs _ (h.chg a1 a2) (fun y hy => by rw [chg_rows, chg_attrs]; exact hxs y hy) (fun y hy k hk1 hk2 => ?_)
      rw [chg_rows, chg_attrs] at hy
      rw [chg_vl h.v hxN hy]
      split
      · unfold candV
        split
        · rename_i hi
          exact hnew i hi k hk1 (by simp; omega)
        · exact fun e => by have := nuV_inj e; omega
      · exact hnew y hy k hk1 (by simp; omega)
    constructor
    · rintro ⟨i, hi, he⟩; exact ⟨i, List.mem_range.1 hi, (key i).1 he⟩
    · rintro ⟨i, hi, he⟩; exact ⟨i, List.mem_range.2 hi, (key i).2 he⟩
end Go.Proofs.YteijbpppalhihaaGreat
end

section
/- Z10: the law UpdateValues. Expanded by pp.py. -/
set_option linter.unusedSimpArgs false
set_option maxRecDepth 100000
namespace Go.Proofs.YteijbpppalhihaaGreat
open Go Go.AM
theorem cellsZero : ConP Tryz.prog 18 [zeroT] fun r => r = LC false [] := by
  have c := cells_r ⟨ByteArray.empty, [], []⟩ false false (by simp) (by simp)
  rw [show cellsT ⟨ByteArray.empty, [], []⟩ = [] from rfl] at c
  have hle : Le zeroT (encTb false false ⟨ByteArray.empty, [], []⟩) := by
    refine .agg _ _ rfl (fun i a b ha hb => ?_)
    match i with
    | 0 => simp at ha hb; subst ha; subst hb; exact .refl _
    | 1 => simp at ha hb; subst ha; subst hb; exact .nil _ _
    | 2 => simp at ha hb; subst ha; subst hb; exact .nil _ _
    | k + 3 => simp at ha
  refine conP_args c rfl (fun i a b ha hb => ?_)
  match i with
  | 0 => simp at ha hb; subst ha; subst hb; exact hle
  | k + 1 => simp at ha
theorem CsV.good {c : Cs} (h : CsOk c) (v : CsV c) : TbG (csT c) := by
  obtain ⟨w1, w2⟩ := wide_rows (x := c.r) (n := csN c) h.gap
  refine ⟨v.tv, fun r hr => (w1 r hr).1, fun r hr w hw => ?_⟩
  obtain ⟨m, rfl⟩ := vl_of r hr w hw
  exact Nat.le_trans (ofV_n m).2 (by simp [maxLen])
theorem CsV.new {c : Cs} (v : CsV c) {y : Nat} (hy : y < (csT c).rows.length * (csT c).attrs.length) (k : Nat) : vlAt (csT c) y ≠ nuV k := by
  obtain ⟨r, hr, hv⟩ := vl_in v.tv hy
  obtain ⟨m, hm⟩ := vl_of r hr _ hv
  rw [hm]
  intro e
  have h1 := (ofV_n m).1
  rw [e] at h1
  simp only [nuV] at h1
  omega
theorem values_ok {c : Cs} (h : CsOk c) (v : CsV c) {xs : List Nat} (hx : ∀ x ∈ xs, x < (csT c).rows.length * (csT c).attrs.length) : exB (csF c) xs (csT c) = okB (probT (csT c) (csF c) (xs.map (crAt (csT c)))) := by
  have := exB_iff v.fok xs (csT c) (v.good h) hx (fun y hy k _ _ => v.new hy k)
  rw [Bool.eq_iff_iff, this, okB_iff]
set_option maxHeartbeats 64000000 in
theorem lawValues (c : Cs) (a b : Nat) (f g : Bool) (h : CsOk c) (ha : a < 256) (hb8 : b < 256) : ConP Tryz.prog 4 [encCs f g c, .agg [.int .u8 a, .int .u8 b]] fun r => r = .bool true := by
  have ca := awake_con
  cases hb : csB c with
  | false =>
    have c1 := of_no c f g h hb
    have c2 := cellsZero
    simp only [encCs, offV] at c1
    simp only [zeroT, LC, List.map_nil] at c2
    refine conP_of_conH (conH_of_W (tok_flag tok (fun t => t == 37)) Tryz.func4 rfl rfl ?_)
    refine W_x (tok_flag tok (fun t => t == 37)) mixed ?_
    simp -implicitDefEqProofs -dsimp [Tryz.f4, List.replicate, encCs, flagT]
    refine (callP (c1) (by simp)).mono ?_
    rintro r H' ⟨rfl, rfl⟩
    simp -implicitDefEqProofs -dsimp [flagT]
    refine (callP (c2) (by simp)).mono ?_
    rintro r H' ⟨rfl, rfl⟩
    simp -implicitDefEqProofs -dsimp [flagT]
    refine (callP (ca) (by simp)).mono ?_
    rintro r H' ⟨rfl, rfl⟩
    simp -implicitDefEqProofs -dsimp [flagT]
    refine (callP (ca) (by simp)).mono ?_
    rintro r H' ⟨rfl, rfl⟩
    simp -implicitDefEqProofs -dsimp [flagT]
  | true =>
    have v := csV h hb
    have gd := v.good h
    have c1 := of_yes c f g h hb
    have m1 : (csT c).rows.length ≤ 1000 := v.tv.rows
    have m2 : (csT c).attrs.length ≤ 1000 := by have := v.tv.attrs; omega
    have c2 := cells_r (csT c) false false m1 m2
    have hsm := v.small
    have hlen := cellsT_len (csT c)
    have hat := fun i hi => cellsT_at (t := csT c) (i := i) hi
    obtain ⟨all, hall⟩ : ∃ all, all = cellsT (csT c) := ⟨_, rfl⟩
    rw [← hall] at c2 hlen hat
    simp only [encCs, encTb, LS, LR, LC, LF] at c1
    simp only [encTb, LS, LR, LC, LF] at c2
    by_cases h0 : (csT c).rows.length * (csT c).attrs.length = 0
    · have hz : all.length = 0 := by omega
      refine conP_of_conH (conH_of_W (tok_flag tok (fun t => t == 37)) Tryz.func4 rfl rfl ?_)
      refine W_x (tok_flag tok (fun t => t == 37)) mixed ?_
      simp -implicitDefEqProofs -dsimp [Tryz.f4, List.replicate, encCs, flagT]
      refine (callP (c1) (by simp)).mono ?_
      rintro r H' ⟨rfl, rfl⟩
      simp -implicitDefEqProofs -dsimp [flagT]
      refine (callP (c2) (by simp)).mono ?_
      rintro r H' ⟨rfl, rfl⟩
      simp -implicitDefEqProofs -dsimp [flagT]
      refine (callP (ca) (by simp)).mono ?_
      rintro r H' ⟨rfl, rfl⟩
      simp -implicitDefEqProofs -dsimp [hz, flagT]
      refine (callP (ca) (by simp)).mono ?_
      rintro r H' ⟨rfl, rfl⟩
      simp -implicitDefEqProofs -dsimp [flagT]
    · obtain ⟨N, hN⟩ : ∃ N, N = (csT c).rows.length * (csT c).attrs.length := ⟨_, rfl⟩
      rw [← hN] at hlen h0 hsm
      obtain ⟨i, hi⟩ : ∃ i, i = a % N := ⟨_, rfl⟩
      obtain ⟨k, hk⟩ : ∃ k, k = b % N := ⟨_, rfl⟩
      have hiN : i < N := by rw [hi]; exact Nat.mod_lt _ (by omega)
      have hkN : k < N := by rw [hk]; exact Nat.mod_lt _ (by omega)
      have ti : ((a : Int)).tmod (N : Int) = (i : Int) := by rw [hi]; rfl
      have tk : ((b : Int)).tmod (N : Int) = (k : Int) := by rw [hk]; rfl
      rcases Nat.lt_trichotomy i k with hik | hik | hik
      · have hlt : cLt (crAt (csT c) i) (crAt (csT c) k) := gd.v.cells_lt hik (by omega)
        have hxs : ∀ x ∈ [i, k], x < (csT c).rows.length * (csT c).attrs.length := by simp; omega
        have hv := values_ok h v hxs
        have hcl : CellsOk (csT c) (([i, k] : List Nat).map (crAt (csT c))) := ⟨by simp [sortedC, hlt], fun x hx => by
          obtain ⟨y, hy, rfl⟩ := List.mem_map.1 hx
          exact mem_cellsT (hxs y hy), by simp⟩
        have k2 := clone_C _ false hcl.len
        have c3 := enough_val v hcl false false
        have cE := exists_r (csF c) v.fok false [i, k] (csT c) false false false gd hxs (by simp)
        rw [hv] at cE
        obtain ⟨O, hO⟩ : ∃ O, O = okB (probT (csT c) (csF c) (([i, k] : List Nat).map (crAt (csT c)))) := ⟨_, rfl⟩
        rw [← hO] at c3 cE
        simp only [encTb, LS, LR, LC, LF, List.map_cons, List.map_nil, encCr] at k2 c3 cE
        have e1 : all[i]'(by omega) = crAt (csT c) i := hat i (by omega)
        have e2 : all[k]'(by omega) = crAt (csT c) k := hat k (by omega)
        refine conP_of_conH (conH_of_W (tok_flag tok (fun t => t == 37)) Tryz.func4 rfl rfl ?_)
        refine W_x (tok_flag tok (fun t => t == 37)) mixed ?_
        simp -implicitDefEqProofs -dsimp [Tryz.f4, List.replicate, encCs, flagT]
        refine (callP (c1) (by simp)).mono ?_
        rintro r H' ⟨rfl, rfl⟩
        simp -implicitDefEqProofs -dsimp [flagT]
        refine (callP (c2) (by simp)).mono ?_
        rintro r H' ⟨rfl, rfl⟩
        simp -implicitDefEqProofs -dsimp [flagT]
        refine (callP (ca) (by simp)).mono ?_
        rintro r H' ⟨rfl, rfl⟩
        simp -implicitDefEqProofs -dsimp [hlen, h0, ti, tk, flagT]
        refine .inr ⟨stop_of (by kernel_rfl), ?_⟩
        simp -implicitDefEqProofs -dsimp [wrapN a (by omega), wrapN b (by omega), ti, tk, hlen, h0, hiN, hkN, encCr, show ¬ k < i by omega, hik, show ¬ (i : Int) = (k : Int) by omega, e1, e2, flagT]
        refine .inr ⟨stop_of (by kernel_rfl), ?_⟩
        refine cy_of _ (callP (k2) (by simp)) ?_
        simp -implicitDefEqProofs -dsimp [flagT]
        refine cy_of _ (callP (c3) (by simp)) ?_
        simp -implicitDefEqProofs -dsimp [flagT]
        refine (callP (cE) (by simp)).mono ?_
        rintro r H' ⟨rfl, rfl⟩
        simp -implicitDefEqProofs -dsimp [eqA2, flagT]
      · subst hik
        have hlt : True := trivial
        have hxs : ∀ x ∈ [i], x < (csT c).rows.length * (csT c).attrs.length := by simp; omega
        have hv := values_ok h v hxs
        have hcl : CellsOk (csT c) (([i] : List Nat).map (crAt (csT c))) := ⟨by simp [sortedC, hlt], fun x hx => by
          obtain ⟨y, hy, rfl⟩ := List.mem_map.1 hx
          exact mem_cellsT (hxs y hy), by simp⟩
        have k2 := clone_C _ true hcl.len
        have c3 := enough_val v hcl false false
        have cE := exists_r (csF c) v.fok false [i] (csT c) false false true gd hxs (by simp)
        rw [hv] at cE
        obtain ⟨O, hO⟩ : ∃ O, O = okB (probT (csT c) (csF c) (([i] : List Nat).map (crAt (csT c)))) := ⟨_, rfl⟩
        rw [← hO] at c3 cE
        simp only [encTb, LS, LR, LC, LF, List.map_cons, List.map_nil, encCr] at k2 c3 cE
        have e1 : all[i]'(by omega) = crAt (csT c) i := hat i (by omega)
        refine conP_of_conH (conH_of_W (tok_flag tok (fun t => t == 37)) Tryz.func4 rfl rfl ?_)
        refine W_x (tok_flag tok (fun t => t == 37)) mixed ?_
        simp -implicitDefEqProofs -dsimp [Tryz.f4, List.replicate, encCs, flagT]
        refine (callP (c1) (by simp)).mono ?_
        rintro r H' ⟨rfl, rfl⟩
        simp -implicitDefEqProofs -dsimp [flagT]
        refine (callP (c2) (by simp)).mono ?_
        rintro r H' ⟨rfl, rfl⟩
        simp -implicitDefEqProofs -dsimp [flagT]
        refine (callP (ca) (by simp)).mono ?_
        rintro r H' ⟨rfl, rfl⟩
        simp -implicitDefEqProofs -dsimp [hlen, h0, ti, tk, flagT]
        refine .inr ⟨stop_of (by kernel_rfl), ?_⟩
        simp -implicitDefEqProofs -dsimp [wrapN a (by omega), wrapN b (by omega), ti, tk, hlen, h0, hiN, hkN, encCr, e1, flagT]
        refine .inr ⟨stop_of (by kernel_rfl), ?_⟩
        refine cy_of _ (callP (k2) (by simp)) ?_
        simp -implicitDefEqProofs -dsimp [flagT]
        refine cy_of _ (callP (c3) (by simp)) ?_
        simp -implicitDefEqProofs -dsimp [flagT]
        refine (callP (cE) (by simp)).mono ?_
        rintro r H' ⟨rfl, rfl⟩
        simp -implicitDefEqProofs -dsimp [eqA2, flagT]
      · have hlt : cLt (crAt (csT c) k) (crAt (csT c) i) := gd.v.cells_lt hik (by omega)
        have hxs : ∀ x ∈ [k, i], x < (csT c).rows.length * (csT c).attrs.length := by simp; omega
        have hv := values_ok h v hxs
        have hcl : CellsOk (csT c) (([k, i] : List Nat).map (crAt (csT c))) := ⟨by simp [sortedC, hlt], fun x hx => by
          obtain ⟨y, hy, rfl⟩ := List.mem_map.1 hx
          exact mem_cellsT (hxs y hy), by simp⟩
        have k2 := clone_C _ false hcl.len
        have c3 := enough_val v hcl false false
        have cE := exists_r (csF c) v.fok false [k, i] (csT c) false false false gd hxs (by simp)
        rw [hv] at cE
        obtain ⟨O, hO⟩ : ∃ O, O = okB (probT (csT c) (csF c) (([k, i] : List Nat).map (crAt (csT c)))) := ⟨_, rfl⟩
        rw [← hO] at c3 cE
        simp only [encTb, LS, LR, LC, LF, List.map_cons, List.map_nil, encCr] at k2 c3 cE
        have e1 : all[i]'(by omega) = crAt (csT c) i := hat i (by omega)
        have e2 : all[k]'(by omega) = crAt (csT c) k := hat k (by omega)
        refine conP_of_conH (conH_of_W (tok_flag tok (fun t => t == 37)) Tryz.func4 rfl rfl ?_)
        refine W_x (tok_flag tok (fun t => t == 37)) mixed ?_
        simp -implicitDefEqProofs -dsimp [Tryz.f4, List.replicate, encCs, flagT]
        refine (callP (c1) (by simp)).mono ?_
        rintro r H' ⟨rfl, rfl⟩
        simp -implicitDefEqProofs -dsimp [flagT]
        refine (callP (c2) (by simp)).mono ?_
        rintro r H' ⟨rfl, rfl⟩
        simp -implicitDefEqProofs -dsimp [flagT]
        refine (callP (ca) (by simp)).mono ?_
        rintro r H' ⟨rfl, rfl⟩
        simp -implicitDefEqProofs -dsimp [hlen, h0, ti, tk, flagT]
        refine .inr ⟨stop_of (by kernel_rfl), ?_⟩
        simp -implicitDefEqProofs -dsimp [wrapN a (by omega), wrapN b (by omega), ti, tk, hlen, h0, hiN, hkN, encCr, show ¬ i < k by omega, hik, show ¬ (i : Int) = (k : Int) by omega, e1, e2, flagT]
        refine .inr ⟨stop_of (by kernel_rfl), ?_⟩
        refine cy_of _ (callP (k2) (by simp)) ?_
        simp -implicitDefEqProofs -dsimp [flagT]
        refine cy_of _ (callP (c3) (by simp)) ?_
        simp -implicitDefEqProofs -dsimp [flagT]
        refine (callP (cE) (by simp)).mono ?_
        rintro r H' ⟨rfl, rfl⟩
        simp -implicitDefEqProofs -dsimp [eqA2, flagT]
end Go.Proofs.YteijbpppalhihaaGreat
end

section
/- Op3: an argument of two bytes, opened. Expanded by pp.py. -/
set_option linter.unusedSimpArgs false
set_option maxRecDepth 100000
namespace Go.Proofs.YteijbpppalhihaaGreat
open Go Go.AM
theorem open_u8x2 {Hd : Type} {enc : TypeId × Value → Hd} {W : World} {m : Nat} {cs : List Value} {x : DataW Hd × List MemPlace} (h : DataW.trod enc Tryz.prog W 0 (fun _ => true) true m 52 cs = some x) : ∃ a b : Nat, CR W [.int .u8 a, .int .u8 b] cs ∧ a < 256 ∧ b < 256 := by
  obtain ⟨xs, n, _, _, hlen, hl, hel⟩ := DataW.trod_array Tryz.underlying52 h
  have hc5 : Tryz.prog.cellsOf 5 = 1 := cells_ok 5 _ T_5
  have hc52 : Tryz.prog.cellsOf 52 = 2 := cells_ok 52 _ T_52
  rw [hc52] at hlen
  have one : ∀ i, i < 2 → ∃ a : Nat, CR W [.int .u8 a] ((cs.drop i).take 1) ∧ a < 256 := fun i hi => by
    have h1 := hel i (by omega)
    rw [hc5, Nat.mul_one, List.getElem?_eq_getElem (by omega)] at h1
    obtain ⟨vs, hcr, hsh⟩ := opn (T := T) tok cells_ok 8 n 5 _ _ (by kernel_rfl) h1
    obtain ⟨k, rfl, hk1, hk2⟩ := sh_u8 hsh
    obtain ⟨a, rfl⟩ := Int.eq_ofNat_of_zero_le hk1
    exact ⟨a, hcr, by omega⟩
  obtain ⟨a, ha, ha2⟩ := one 0 (by omega)
  obtain ⟨b, hb, hb2⟩ := one 1 (by omega)
  refine ⟨a, b, ?_, ha2, hb2⟩
  have := ha.append hb
  have e : (cs.drop 0).take 1 ++ (cs.drop 1).take 1 = cs := by
    match cs, hlen with
    | [p, q], _ => rfl
  rw [e] at this
  exact this
end Go.Proofs.YteijbpppalhihaaGreat
end
