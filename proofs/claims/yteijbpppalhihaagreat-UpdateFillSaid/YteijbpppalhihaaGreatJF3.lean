/- JF3: Z2, U8, Cut, Z4, Z5, Z6, joined by chunk.py. -/
import Derived.Test.YteijbpppalhihaaGreatJF2
import Derived.Test.YteijbpppalhihaaGreatAMf
set_option linter.unusedVariables false
set_option linter.unusedSimpArgs false
section
/- Z2: the cells in which tables differ, Apply; used, Satisfies of the reference. Expanded by pp.py. -/
set_option linter.unusedSimpArgs false
set_option maxRecDepth 100000
namespace Go.Proofs.YteijbpppalhihaaGreat
open Go Go.AM
set_option maxHeartbeats 16000000 in
theorem used_r (t : Tb) (ff gg : Bool) (k : Int) (hv : TbV t) : ConP Tryz.prog 55 [encTb ff gg t, .int .i64 k] fun r => r = .bool (unkT t k) := by
  have hm := hv.rows
  have hn := hv.attrs
  obtain ⟨E, hE⟩ : ∃ E, E = unkT t k := ⟨_, rfl⟩
  rw [← hE]
  have hiff := unkT_iff (t := t) (k := k)
  rw [← hE] at hiff
  obtain ⟨n, hne⟩ : ∃ n, n = t.attrs.length := ⟨_, rfl⟩
  obtain ⟨m, hme⟩ : ∃ m, m = t.rows.length := ⟨_, rfl⟩
  have hne' := hne.symm
  have hme' := hme.symm
  rw [hne'] at hn
  rw [hme'] at hm
  rw [hne', hme'] at hiff
  refine conP_of_conH (conH_of_W tok Tryz.func55 rfl rfl ?_)
  refine W_x tok mixed ?_
  simp -implicitDefEqProofs -dsimp [Tryz.f55, List.replicate, encTb, LS, LR]
  refine lw_of (W_loopV [false, false, false, false, true, true, true, true, true, true, true, true, true, true, true, true, true, true, true, true, true, true, true, true, true, true, true, true, true, true, true, true, true, true, true, true, true, true, true, true] (σ := Nat) (fun i => i ≤ m ∧ ∀ y, y < i * n → ¬ ((vlAt t y).k = 3 ∧ (vlAt t y).n = k)) (fun i => m - i) (fun i => [(5, .int .i64 i)]) (fun _ => [B.cells [.str t.name, .lst 1 ff (t.attrs.map V.str), .lst 2 gg (t.rows.map encRw)]]) 0 ⟨by omega, fun y hy => by omega⟩ (by simp) rfl (by simp) ?_)
  rintro i ⟨hi, hall⟩ N1 Q1 hN1 hQ1
  by_cases hib : i < m
  · have hit : i < t.rows.length := by omega
    obtain ⟨rw, hrw⟩ : ∃ rw, rw = t.rows[i] := ⟨_, rfl⟩
    have hrw' := hrw.symm
    have hvl : rw.vals.length = n := by rw [hrw, hne]; exact hv.len _ (List.getElem_mem hit)
    refine W_x tok mixed ?_
    simp -implicitDefEqProofs -dsimp [hib, hme']
    refine lw_of (W_loopV [false, false, false, false, true, false, true, true, false, false, false, false, false, false, false, true, true, true, true, true, true, true, true, true, true, true, true, true, true, true, true, true, true, true, true, true, true, true, true, true] (σ := Nat × Nat) (fun p => p.1 ≤ n ∧ p.2 = i * n + p.1 ∧ ∀ y, y < p.2 → ¬ ((vlAt t y).k = 3 ∧ (vlAt t y).n = k)) (fun p => n - p.1) (fun p => [(6, .int .i64 p.1)]) (fun _ => [B.cells [.str t.name, .lst 1 ff (t.attrs.map V.str), .lst 2 gg (t.rows.map encRw)]]) (0, i * n) ⟨by simp, by simp, hall⟩ (by simp) (by simp) (by simp) ?_)
    rintro ⟨a, x⟩ ⟨ha, hx, hall2⟩ N2 Q2 hN2 hQ2
    simp only at ha hx hN2 hall2
    by_cases hab : a < n
    · have hva : a < rw.vals.length := by omega
      obtain ⟨v, hve⟩ : ∃ v, v = rw.vals[a] := ⟨_, rfl⟩
      have hve' := hve.symm
      have hvt : vlAt t x = v := by
        rw [hx, hne, vlAt_at t (hne ▸ hab), rwAt_in hit, ← hrw, vAt_in hva, hve]
      have hstep : ¬ (v.k = 3 ∧ v.n = k) → ∀ y, y < x + 1 → ¬ ((vlAt t y).k = 3 ∧ (vlAt t y).n = k) := fun h y hy => by
        rcases Nat.lt_or_ge y x with e | e
        · exact hall2 y e
        · have : y = x := by omega
          subst this; rw [hvt]; exact h
      by_cases hk : v.k = 3
      · by_cases hkn : v.n = k
        · have hyes : E = true := hiff.2 ⟨x, by rw [hx]; exact cell_lt hib hab, by rw [hvt]; exact hk, by rw [hvt]; exact hkn⟩
          refine W_x tok mixed ?_
          simp -implicitDefEqProofs -dsimp [hab, hne', hme', hib, hit, hrw', encRw, LV, hva, hve', encV, hk, hkn]
          refine hQ2 _ _ _ ?_
          simp -implicitDefEqProofs -dsimp []
          refine hQ1 _ _ _ ?_
          simp -implicitDefEqProofs -dsimp []
          exact hyes
        · have hst := hstep (fun h => hkn h.2)
          refine W_x tok mixed ?_
          simp -implicitDefEqProofs -dsimp [hab, hne', hme', hib, hit, hrw', encRw, LV, hva, hve', encV, hk, hkn, wrapS a (by omega)]
          refine hN2 (a + 1, x + 1) _ _ ⟨by simp only; omega, by simp only; omega, hst⟩ (by simp only; omega) (by simp) ⟨[B.cells [.int .i64 v.k, .int .i64 v.n, .str v.s]], by simp [hk]⟩ (by simp) (by simp)
      · have hst := hstep (fun h => hk h.1)
        refine W_x tok mixed ?_
        simp -implicitDefEqProofs -dsimp [hab, hne', hme', hib, hit, hrw', encRw, LV, hva, hve', encV, hk, wrapS a (by omega)]
        refine hN2 (a + 1, x + 1) _ _ ⟨by simp only; omega, by simp only; omega, hst⟩ (by simp only; omega) (by simp) ⟨[B.cells [.int .i64 v.k, .int .i64 v.n, .str v.s]], by simp⟩ (by simp) (by simp)
    · have hxe : (i + 1) * n = x := by rw [Nat.add_mul]; omega
      refine W_x tok mixed ?_
      simp -implicitDefEqProofs -dsimp [hab, hne']
      refine hQ2 _ _ _ ?_
      simp -implicitDefEqProofs -dsimp [wrapS i (by omega)]
      refine hN1 (i + 1) _ _ ⟨by omega, by rw [hxe]; exact hall2⟩ (by omega) (by simp) ⟨[], by simp⟩ (by simp) (by simp)
  · obtain rfl : i = m := by omega
    have hno : E = false := by
      cases hEb : E with
      | false => rfl
      | true =>
        obtain ⟨y, h1, h2, h3⟩ := hiff.1 hEb
        exact absurd ⟨h2, h3⟩ (hall y h1)
    refine W_x tok mixed ?_
    simp -implicitDefEqProofs -dsimp [hib, hme']
    refine hQ1 _ _ _ ?_
    simp -implicitDefEqProofs -dsimp []
    exact hno
/-- The cells before x in which two tables differ. -/
def difTo (t u : Tb) (x : Nat) : List Cr := ((List.range x).filter fun y => !(cmpV (vlAt t y) (vlAt u y) == 0)).map (crAt t)
theorem difTo_zero (t u : Tb) : difTo t u 0 = [] := rfl
theorem difTo_same {t u : Tb} {x : Nat} (h : cmpV (vlAt t x) (vlAt u x) = 0) : difTo t u (x + 1) = difTo t u x := by
  unfold difTo
  rw [List.range_succ, List.filter_append]
  simp [h]
theorem difTo_new {t u : Tb} {x : Nat} (h : cmpV (vlAt t x) (vlAt u x) ≠ 0) : difTo t u (x + 1) = difTo t u x ++ [crAt t x] := by
  unfold difTo
  rw [List.range_succ, List.filter_append]
  simp [h]
theorem difTo_len (t u : Tb) (x : Nat) : (difTo t u x).length ≤ x := by
  unfold difTo
  rw [List.length_map]
  exact Nat.le_trans (List.length_filter_le _ _) (by simp)
set_option maxHeartbeats 32000000 in
theorem differing_u (t u : Tb) (f g f2 g2 : Bool) (hv : TbV t) (ha : u.attrs.length = t.attrs.length) (hr : u.rows.length = t.rows.length) (hul : ∀ r ∈ u.rows, r.vals.length = t.attrs.length) :
    ConP Tryz.prog 58 [encTb f g t, encTb f2 g2 u] fun r => r = LC false (difTo t u (t.rows.length * t.attrs.length)) := by
  have hm := hv.rows
  have hn := hv.attrs
  obtain ⟨n, hne⟩ : ∃ n, n = t.attrs.length := ⟨_, rfl⟩
  obtain ⟨m, hme⟩ : ∃ m, m = t.rows.length := ⟨_, rfl⟩
  have hne' := hne.symm
  have hme' := hme.symm
  rw [hne'] at hn
  rw [hme'] at hm
  rw [hne', hme']
  refine conP_of_conH (conH_of_W tok Tryz.func58 rfl rfl ?_)
  refine W_x tok mixed ?_
  simp -implicitDefEqProofs -dsimp [Tryz.f58, List.replicate, encTb, LS, LR, hme']
  refine lw_of (W_own 49 2 [5] (by simp) (W_loopV [false, false, false, false, false, true, true, true, true, true, false, false, false, true, true, true, true, true, true, true, true, true, true, true, true, true, true, true, true, true, true, true, true, true, true, true, true, true, true, true, true, true, true, true, true, true, true] (σ := Nat × Nat) (fun p => p.1 ≤ m ∧ p.2 = p.1 * n) (fun p => m - p.1) (fun p => [(13, .int .i64 p.1), (5, .buf 2 0 (difTo t u p.2).length (difTo t u p.2).length)]) (fun p => [B.cells [.str t.name, .lst 1 f (t.attrs.map V.str), .lst 2 g (t.rows.map encRw)], B.cells [.str u.name, .lst 1 f2 (u.attrs.map V.str), .lst 2 g2 (u.rows.map encRw)], B.buf 49 2 ((difTo t u p.2).map encCr) false]) (0, 0) ⟨by simp, by simp⟩ (by simp [difTo_zero]) (by simp [difTo_zero]) (by simp) ?_))
  rintro ⟨i, c⟩ ⟨hi, hc⟩ N1 Q1 hN1 hQ1
  simp only at hi hc hN1
  by_cases hib : i < m
  · have hit : i < t.rows.length := by omega
    have hiu : i < u.rows.length := by omega
    obtain ⟨rw, hrw⟩ : ∃ rw, rw = t.rows[i] := ⟨_, rfl⟩
    obtain ⟨ru, hru⟩ : ∃ ru, ru = u.rows[i] := ⟨_, rfl⟩
    have hrw' := hrw.symm
    have hru' := hru.symm
    have hvl : rw.vals.length = n := by rw [hrw, hne]; exact hv.len _ (List.getElem_mem hit)
    have hvu : ru.vals.length = n := by rw [hru, hne]; exact hul _ (List.getElem_mem hiu)
    refine W_x tok mixed ?_
    simp -implicitDefEqProofs -dsimp [hib, hme', hit, hrw', encRw, LV, hvl]
    refine lw_of (W_loopV [false, false, false, false, false, true, false, false, true, true, false, false, false, false, false, false, false, false, false, false, false, true, true, true, true, true, true, true, true, true, true, true, true, true, true, true, true, true, true, true, true, true, true, true, true, true] (σ := Nat × Nat) (fun p => p.1 ≤ n ∧ p.2 = i * n + p.1) (fun p => n - p.1) (fun p => [(21, .int .i64 p.1), (5, .buf 2 0 (difTo t u p.2).length (difTo t u p.2).length)]) (fun p => [B.cells [.str t.name, .lst 1 f (t.attrs.map V.str), .lst 2 g (t.rows.map encRw)], B.cells [.str u.name, .lst 1 f2 (u.attrs.map V.str), .lst 2 g2 (u.rows.map encRw)], B.buf 49 2 ((difTo t u p.2).map encCr) false, B.cells [.int .i64 rw.id, .lst 3 false (rw.vals.map encV)]]) (0, c) ⟨by simp, by simp [hc]⟩ (by simp) (by simp) (by simp) ?_)
    rintro ⟨a, x⟩ ⟨ha2, hx⟩ N2 Q2 hN2 hQ2
    simp only at ha2 hx hN2
    by_cases hab : a < n
    · have hlt := cell_lt hib hab
      have hbig : m * n ≤ 1000 * 16 := Nat.mul_le_mul hm hn
      have hva : a < rw.vals.length := by omega
      have hva2 : a < ru.vals.length := by omega
      obtain ⟨v, hve⟩ : ∃ v, v = rw.vals[a] := ⟨_, rfl⟩
      obtain ⟨w, hwe⟩ : ∃ w, w = ru.vals[a] := ⟨_, rfl⟩
      have hve' := hve.symm
      have hwe' := hwe.symm
      have hvt : vlAt t x = v := by
        rw [hx, hne, vlAt_at t (hne ▸ hab), rwAt_in hit, ← hrw, vAt_in hva, hve]
      have hvu2 : vlAt u x = w := by
        rw [hx, hne, ← ha, vlAt_at u (by omega), rwAt_in hiu, ← hru, vAt_in hva2, hwe]
      have hat : crAt t x = ⟨rw.id, (a : Int)⟩ := by
        rw [hx, hne, crAt_at t (hne ▸ hab), rwAt_in hit, ← hrw]
      have hdl := difTo_len t u x
      have c1 := valueCompare v w
      simp only [encV] at c1
      by_cases hq : cmpV v w = 0
      · have hst := difTo_same (t := t) (u := u) (x := x) (by rw [hvt, hvu2]; exact hq)
        refine W_x tok mixed ?_
        simp -implicitDefEqProofs -dsimp [hab, hvl, hva, hve', encV, hiu, hru', encRw, LV, hva2, hwe']
        refine .inr ⟨stop_of (by kernel_rfl), ?_⟩
        refine cy_of _ (callP (c1) (by simp)) ?_
        simp -implicitDefEqProofs -dsimp [hq, wrapS a (by omega)]
        refine hN2 (a + 1, x + 1) _ _ ⟨by simp only; omega, by simp only; omega⟩ (by simp only; omega) (by simp [hst]) ⟨[B.cells [.int .i64 v.k, .int .i64 v.n, .str v.s]], by simp [hst]⟩ (by simp) (by simp)
      · have hst := difTo_new (t := t) (u := u) (x := x) (by rw [hvt, hvu2]; exact hq)
        rw [hat] at hst
        refine W_x tok mixed ?_
        simp -implicitDefEqProofs -dsimp [hab, hvl, hva, hve', encV, hiu, hru', encRw, LV, hva2, hwe']
        refine .inr ⟨stop_of (by kernel_rfl), ?_⟩
        refine cy_of _ (callP (c1) (by simp)) ?_
        simp -implicitDefEqProofs -dsimp [hq, cap16 (difTo t u x).length (by omega), wrapS a (by omega)]
        refine hN2 (a + 1, x + 1) _ _ ⟨by simp only; omega, by simp only; omega⟩ (by simp only; omega) (by simp [hst]) ⟨[B.cells [.int .i64 v.k, .int .i64 v.n, .str v.s]], by simp [hst, encCr]⟩ (by simp) (by simp)
    · obtain rfl : a = n := by omega
      refine W_x tok mixed ?_
      simp -implicitDefEqProofs -dsimp [hab, hvl]
      refine hQ2 _ _ _ ?_
      simp -implicitDefEqProofs -dsimp [wrapS i (by omega)]
      refine hN1 (i + 1, x) _ _ ⟨by simp only; omega, by simp only; rw [hx, Nat.add_mul]; omega⟩ (by simp only; omega) (by simp) ⟨[B.cells [.int .i64 rw.id, .lst 3 false (rw.vals.map encV)]], by simp⟩ (by simp) (by simp)
  · obtain rfl : i = m := by omega
    refine W_x tok mixed ?_
    simp -implicitDefEqProofs -dsimp [hib, hme']
    refine hQ1 _ _ _ ?_
    simp -implicitDefEqProofs -dsimp []
    rw [← hc]
    exact exp_buf rfl (by simp) (by simp)
theorem filT_rows (t : Tb) (c : Nat → Dm) : (filT t c).rows.length = t.rows.length := by simp [filT]
theorem filT_len (t : Tb) (c : Nat → Dm) : ∀ r ∈ (filT t c).rows, r.vals.length = t.attrs.length := by
  intro r hr
  obtain ⟨i, _, rfl⟩ := List.mem_map.1 hr
  simp [filRow]
noncomputable def ApplyR (t : Tb) (fds : List Fd) (l : List Cr) : V := if chkE t fds l = 0 then (if okB (probT t fds l) then .tup [.int .i64 (difTo t (filTb t fds l) (t.rows.length * t.attrs.length)).length, .int .i64 0] else .tup [.int .i64 0, .int .i64 15]) else .tup [.int .i64 0, .int .i64 (chkE t fds l)]
set_option maxHeartbeats 32000000 in
theorem Apply_u (t : Tb) (ff gg df cf : Bool) (fds : List Fd) (l : List Cr) (ht : TbOk t) (hB : TbN t) (hF : FdsOk fds) (hcl : l.length ≤ 1000000) :
    ConP Tryz.prog 24 [encTb ff gg t, LF df fds, LC cf l] fun r => r = ApplyR t fds l := by
  have c1 := Fill_u t ff gg df cf fds l ht hB hF hcl
  unfold FillR at c1
  unfold ApplyR
  by_cases h : chkE t fds l = 0
  · obtain ⟨hv, _⟩ := chkE_ok ht h
    rw [if_pos h] at c1 ⊢
    cases hok : okB (probT t fds l) with
    | true =>
      rw [hok, if_pos rfl] at c1
      rw [if_pos rfl]
      have c2 := differing_u t (filTb t fds l) ff gg false false hv rfl (filT_rows _ _) (filT_len _ _)
      have hdl := difTo_len t (filTb t fds l) (t.rows.length * t.attrs.length)
      have hsm := prob_small hv
      obtain ⟨D, hD⟩ : ∃ D, D = difTo t (filTb t fds l) (t.rows.length * t.attrs.length) := ⟨_, rfl⟩
      rw [← hD] at c2 hdl ⊢
      obtain ⟨T2, hT2⟩ : ∃ T2, T2 = filTb t fds l := ⟨_, rfl⟩
      rw [← hT2] at c1 c2
      simp only [encTb, LS, LR, LC, LF] at c1 c2
      refine conP_of_conH (conH_of_W tok Tryz.func24 rfl rfl ?_)
      refine W_x tok mixed ?_
      simp -implicitDefEqProofs -dsimp [Tryz.f24, List.replicate, encTb, LS, LR, LC, LF]
      refine (callP (c1) (by simp)).mono ?_
      rintro r H' ⟨rfl, rfl⟩
      simp -implicitDefEqProofs -dsimp []
      refine (callP (c2) (by simp)).mono ?_
      rintro r H' ⟨rfl, rfl⟩
      simp -implicitDefEqProofs -dsimp []
    | false =>
      rw [hok, if_neg (by simp)] at c1
      rw [if_neg (by simp)]
      simp only [encTb, LS, LR, LC, LF, zeroT] at c1
      refine conP_of_conH (conH_of_W tok Tryz.func24 rfl rfl ?_)
      refine W_x tok mixed ?_
      simp -implicitDefEqProofs -dsimp [Tryz.f24, List.replicate, encTb, LS, LR, LC, LF]
      refine (callP (c1) (by simp)).mono ?_
      rintro r H' ⟨rfl, rfl⟩
      simp -implicitDefEqProofs -dsimp []
  · rw [if_neg h] at c1 ⊢
    simp only [encTb, LS, LR, LC, LF, zeroT] at c1
    refine conP_of_conH (conH_of_W tok Tryz.func24 rfl rfl ?_)
    refine W_x tok mixed ?_
    simp -implicitDefEqProofs -dsimp [Tryz.f24, List.replicate, encTb, LS, LR, LC, LF]
    refine (callP (c1) (by simp)).mono ?_
    rintro r H' ⟨rfl, rfl⟩
    simp -implicitDefEqProofs -dsimp [h]
/-- All dependencies hold. -/
def SatP (u : Tb) (fds : List Fd) : Prop := ∀ d ∈ fds, ∀ i k, i < u.rows.length → k < i → agreeR (rwAt u i) (rwAt u k) d.l = true → agreeR (rwAt u i) (rwAt u k) d.r = true
open Classical in
noncomputable def satB (u : Tb) (fds : List Fd) : Bool := decide (SatP u fds)
theorem satB_iff {u : Tb} {fds : List Fd} : satB u fds = true ↔ SatP u fds := by unfold satB; simp
set_option maxHeartbeats 32000000 in
theorem satisfies_r (u : Tb) (f g df : Bool) (fds : List Fd) (hr : u.rows.length ≤ 1000) (hul : ∀ r ∈ u.rows, r.vals.length ≤ 31 ∧ ∀ v ∈ r.vals, v.s.size ≤ maxLen) (hF : fds.length ≤ 1000000) :
    ConP Tryz.prog 27 [encTb f g u, LF df fds] fun r => r = .bool (satB u fds) := by
  obtain ⟨E, hE⟩ : ∃ E, E = satB u fds := ⟨_, rfl⟩
  rw [← hE]
  obtain ⟨m, hme⟩ : ∃ m, m = u.rows.length := ⟨_, rfl⟩
  have hme' := hme.symm
  rw [hme'] at hr
  have hyes : SatP u fds → E = true := fun h => by rw [hE]; exact satB_iff.2 h
  have hno : ¬ SatP u fds → E = false := fun h => by
    rw [hE]
    cases hb : satB u fds
    · rfl
    · exact absurd (satB_iff.1 hb) h
  refine conP_of_conH (conH_of_W tok Tryz.func27 rfl rfl ?_)
  refine W_x tok mixed ?_
  simp -implicitDefEqProofs -dsimp [Tryz.f27, List.replicate, encTb, LS, LR, LF]
  refine lw_of (W_loopV [false, false, false, false, true, true, true, true, true, true, true, true, true, true, true, true, true, true, true, true, true, true, true, true, true, true, true, true, true, true, true, true, true, true, true, true, true, true, true, true, true, true, true, true, true, true, true, true, true, true, true, true, true, true, true, true, true, true, true, true, true] (σ := Nat) (fun j => j ≤ fds.length ∧ ∀ d ∈ fds.take j, ∀ i k, i < m → k < i → agreeR (rwAt u i) (rwAt u k) d.l = true → agreeR (rwAt u i) (rwAt u k) d.r = true) (fun j => fds.length - j) (fun j => [(5, .int .i64 j)]) (fun _ => [B.cells [.str u.name, .lst 1 f (u.attrs.map V.str), .lst 2 g (u.rows.map encRw)]]) 0 ⟨by omega, by simp⟩ (by simp) rfl (by simp) ?_)
  rintro j ⟨hj, hx⟩ N1 Q1 hN1 hQ1
  by_cases hjb : j < fds.length
  · obtain ⟨d, hd⟩ : ∃ d, d = fds[j] := ⟨_, rfl⟩
    have hd' := hd.symm
    have hdm : d ∈ fds := hd ▸ List.getElem_mem hjb
    refine W_x tok mixed ?_
    simp -implicitDefEqProofs -dsimp [hjb]
    refine lw_of (W_loopV [false, false, false, false, true, false, true, true, false, false, false, false, false, false, true, true, true, true, true, true, true, true, true, true, true, true, true, true, true, true, true, true, true, true, true, true, true, true, true, true, true, true, true, true, true, true, true, true, true, true, true, true, true, true, true, true, true, true, true, true, true] (σ := Nat) (fun i => i ≤ m ∧ ∀ i' k, i' < i → k < i' → agreeR (rwAt u i') (rwAt u k) d.l = true → agreeR (rwAt u i') (rwAt u k) d.r = true) (fun i => m - i) (fun i => [(6, .int .i64 i)]) (fun _ => [B.cells [.str u.name, .lst 1 f (u.attrs.map V.str), .lst 2 g (u.rows.map encRw)]]) 0 ⟨by omega, fun i' k h => by omega⟩ (by simp) (by simp) (by simp) ?_)
    rintro i ⟨hi, hx2⟩ N2 Q2 hN2 hQ2
    by_cases hib : i < m
    · have hit : i < u.rows.length := by omega
      have ri := rwAt_in hit
      refine W_x tok mixed ?_
      simp -implicitDefEqProofs -dsimp [hib, hme']
      refine lw_of (W_loopV [false, false, false, false, true, false, false, true, false, false, false, false, false, false, false, false, false, false, false, false, false, true, true, true, true, true, true, true, true, true, true, true, true, true, true, true, true, true, true, true, true, true, true, true, true, true, true, true, true, true, true, true, true, true, true, true, true, true, true, true, true] (σ := Nat) (fun k => k ≤ i ∧ ∀ k', k' < k → agreeR (rwAt u i) (rwAt u k') d.l = true → agreeR (rwAt u i) (rwAt u k') d.r = true) (fun k => i - k) (fun k => [(7, .int .i64 k)]) (fun _ => [B.cells [.str u.name, .lst 1 f (u.attrs.map V.str), .lst 2 g (u.rows.map encRw)]]) 0 ⟨by omega, fun k h => by omega⟩ (by simp) (by simp) (by simp) ?_)
      rintro k ⟨hk, hx3⟩ N3 Q3 hN3 hQ3
      by_cases hkb : k < i
      · have hkt : k < u.rows.length := by omega
        have rk := rwAt_in hkt
        obtain ⟨l1, l2⟩ := hul u.rows[i] (List.getElem_mem hit)
        obtain ⟨l3, l4⟩ := hul u.rows[k] (List.getElem_mem hkt)
        have c1 := agree03 u.rows[i] u.rows[k] (d.l : Int) l1 l3 l2
        have c2 := agree03 u.rows[i] u.rows[k] (d.r : Int) l1 l3 l2
        have hstep : ∀ x y, rwAt u i = x → rwAt u k = y → (agreeR x y d.l = true → agreeR x y d.r = true) → ∀ k', k' < k + 1 → agreeR (rwAt u i) (rwAt u k') d.l = true → agreeR (rwAt u i) (rwAt u k') d.r = true := fun x y e1 e2 h k' hk' => by
          rcases Nat.lt_or_ge k' k with e | e
          · exact hx3 k' e
          · have : k' = k := by omega
            subst this; rw [e1, e2]; exact h
        have hbad : agreeR (rwAt u i) (rwAt u k) d.l = true → agreeR (rwAt u i) (rwAt u k) d.r = false → E = false := fun h1 h2 => hno fun h => by
          have := h d hdm i k hit hkb h1
          rw [h2] at this; cases this
        rw [ri, rk] at hbad
        obtain ⟨x, hxe⟩ : ∃ x, x = u.rows[i] := ⟨_, rfl⟩
        obtain ⟨y, hye⟩ : ∃ y, y = u.rows[k] := ⟨_, rfl⟩
        rw [← hxe, ← hye] at c1 c2 hbad
        rw [← hxe] at ri
        rw [← hye] at rk
        have hxe' := hxe.symm
        have hye' := hye.symm
        simp only [encRw, LV] at c1 c2
        cases q1 : agreeR x y d.l with
        | false =>
          rw [q1] at c1
          have hst := hstep x y ri rk (fun h => by rw [q1] at h; cases h)
          refine W_x tok mixed ?_
          simp -implicitDefEqProofs -dsimp [hkb, hjb, hd', hit, hkt, hxe', hye', encRw, LV, encF]
          refine .inr ⟨stop_of (by kernel_rfl), ?_⟩
          refine cy_of _ (callP (c1) (by simp)) ?_
          simp -implicitDefEqProofs -dsimp [wrapS k (by omega)]
          refine hN3 (k + 1) _ _ ⟨by omega, hst⟩ (by omega) (by simp) ⟨[], by simp⟩ (by simp) (by simp)
        | true =>
          rw [q1] at c1
          cases q2 : agreeR x y d.r with
          | true =>
            rw [q2] at c2
            have hst := hstep x y ri rk (fun _ => q2)
            refine W_x tok mixed ?_
            simp -implicitDefEqProofs -dsimp [hkb, hjb, hd', hit, hkt, hxe', hye', encRw, LV, encF]
            refine .inr ⟨stop_of (by kernel_rfl), ?_⟩
            refine cy_of _ (callP (c1) (by simp)) ?_
            simp -implicitDefEqProofs -dsimp [hjb, hd', hit, hkt, hxe', hye', encRw, LV, encF]
            refine cy_of _ (callP (c2) (by simp)) ?_
            simp -implicitDefEqProofs -dsimp [wrapS k (by omega)]
            refine hN3 (k + 1) _ _ ⟨by omega, hst⟩ (by omega) (by simp) ⟨[], by simp⟩ (by simp) (by simp)
          | false =>
            rw [q2] at c2
            have hb := hbad q1 q2
            refine W_x tok mixed ?_
            simp -implicitDefEqProofs -dsimp [hkb, hjb, hd', hit, hkt, hxe', hye', encRw, LV, encF]
            refine .inr ⟨stop_of (by kernel_rfl), ?_⟩
            refine cy_of _ (callP (c1) (by simp)) ?_
            simp -implicitDefEqProofs -dsimp [hjb, hd', hit, hkt, hxe', hye', encRw, LV, encF]
            refine cy_of _ (callP (c2) (by simp)) ?_
            simp -implicitDefEqProofs -dsimp []
            refine hQ3 _ _ _ ?_
            simp -implicitDefEqProofs -dsimp []
            refine hQ2 _ _ _ ?_
            simp -implicitDefEqProofs -dsimp []
            refine hQ1 _ _ _ ?_
            simp -implicitDefEqProofs -dsimp []
            exact hb
      · obtain rfl : k = i := by omega
        refine W_x tok mixed ?_
        simp -implicitDefEqProofs -dsimp [hkb]
        refine hQ3 _ _ _ ?_
        simp -implicitDefEqProofs -dsimp [wrapS k (by omega)]
        refine hN2 (k + 1) _ _ ⟨by omega, fun i' k' h1 h2 => ?_⟩ (by omega) (by simp) ⟨[], by simp⟩ (by simp) (by simp)
        rcases Nat.lt_or_ge i' k with e | e
        · exact hx2 i' k' e h2
        · have : i' = k := by omega
          subst this; exact hx3 k' h2
    · obtain rfl : i = m := by omega
      refine W_x tok mixed ?_
      simp -implicitDefEqProofs -dsimp [hib, hme']
      refine hQ2 _ _ _ ?_
      simp -implicitDefEqProofs -dsimp [wrapS j (by omega)]
      refine hN1 (j + 1) _ _ ⟨by omega, fun d' hd' => ?_⟩ (by omega) (by simp) ⟨[], by simp⟩ (by simp) (by simp)
      rw [List.take_succ_eq_append_getElem hjb] at hd'
      rcases List.mem_append.1 hd' with e | e
      · exact hx d' e
      · simp only [List.mem_singleton] at e
        rw [e, ← hd]; exact hx2
  · obtain rfl : j = fds.length := by omega
    rw [List.take_length] at hx
    refine W_x tok mixed ?_
    simp -implicitDefEqProofs -dsimp [hjb]
    refine hQ1 _ _ _ ?_
    simp -implicitDefEqProofs -dsimp []
    exact hyes (by rw [SatP, ← hme]; exact hx)
end Go.Proofs.YteijbpppalhihaaGreat
end

section
/- U8: the reference's entries while the numbers are given. -/
set_option linter.unusedSimpArgs false
namespace Go.Proofs.YteijbpppalhihaaGreat
open Go Go.AM
def cE (e : Nat → En) : Nat → Dm := fun z => toD (e z)
theorem isSym_s {e : Nat → En} {x : Nat} : isSym (cE e x) ↔ (e x).s ≠ 0 := by
  unfold cE toD isSym
  by_cases h : (e x).s = 0
  · rw [if_pos h]; simp [h]
  · rw [if_neg h]; simp [h]
noncomputable def newE (u : Int → Bool) (e : Nat → En) (y : Nat) : En := ⟨⟨3, cls u (cE e) y, ByteArray.empty⟩, 0⟩
open Classical in
noncomputable def eX (u : Int → Bool) (e : Nat → En) (x y : Nat) : En := if isSym (cE e y) ∧ fp (cE e) y < x then newE u e y else e y
theorem eX_zero (u : Int → Bool) (e : Nat → En) : eX u e 0 = e := by funext y; unfold eX; rw [if_neg (fun h => by omega)]
theorem eX_yes {u : Int → Bool} {e : Nat → En} {x y : Nat} (h1 : isSym (cE e y)) (h2 : fp (cE e) y < x) : eX u e x y = newE u e y := by unfold eX; rw [if_pos ⟨h1, h2⟩]
theorem eX_no {u : Int → Bool} {e : Nat → En} {x y : Nat} (h : ¬ (isSym (cE e y) ∧ fp (cE e) y < x)) : eX u e x y = e y := by unfold eX; rw [if_neg h]
theorem eX_old {u : Int → Bool} {e : Nat → En} {x : Nat} (h : ¬ (isSym (cE e x) ∧ fp (cE e) x = x)) : eX u e (x + 1) = eX u e x := by
  funext y
  by_cases h1 : isSym (cE e y) ∧ fp (cE e) y < x
  · rw [eX_yes h1.1 h1.2, eX_yes h1.1 (by omega)]
  · rw [eX_no h1, eX_no (fun h2 => h1 ⟨h2.1, ?_⟩)]
    have hne : fp (cE e) y ≠ x := fun h3 => h ⟨by
      have := fp_same (cE e) y
      rw [h3] at this
      rw [this]; exact h2.1, by
      have := fp_fp (cE e) y
      rwa [h3] at this⟩
    omega
theorem eX_at {u : Int → Bool} {e : Nat → En} {x : Nat} (h : fp (cE e) x = x) : eX u e x x = e x := eX_no (fun h2 => by omega)
theorem eX_new {u : Int → Bool} {e : Nat → En} {x N S : Nat} (hO : EnOk e N S) (hx : x < N) (h1 : isSym (cE e x)) (h2 : fp (cE e) x = x) {y : Nat} (hy : y < N) : eX u e (x + 1) y = repTo (eX u e x) (e x) (newE u e x) N y := by
  unfold repTo
  by_cases h3 : isSym (cE e y) ∧ fp (cE e) y < x
  · have hne : ¬ newE u e y = e x := fun h => by
      have := isSym_s.1 h1
      rw [← h] at this
      exact this rfl
    rw [eX_yes h3.1 h3.2, eX_yes h3.1 (by omega), if_neg (fun h => hne h.2)]
  · rw [eX_no h3]
    by_cases h4 : e y = e x
    · rw [if_pos ⟨hy, h4⟩]
      have hc : cE e y = cE e x := by unfold cE; rw [h4]
      rw [eX_yes (by rw [hc]; exact h1) (by rw [fp_uniq hc]; omega)]
      unfold newE
      rw [cls_uniq hc]
    · rw [if_neg (fun h => h4 h.2), eX_no (fun h5 => h4 ?_)]
      have h6 : fp (cE e) y = x := by
        have : ¬ fp (cE e) y < x := fun h => h3 ⟨h5.1, h⟩
        omega
      have h7 := fp_same (cE e) y
      rw [h6] at h7
      exact ((toD_inj hO hx hy).1 h7).symm
theorem eX_sym {u : Int → Bool} {e : Nat → En} {x N S : Nat} (hO : EnOk e N S) (hx : x < N) : 0 < (eX u e x x).s ↔ isSym (cE e x) ∧ fp (cE e) x = x := by
  have hl := hO.lo x hx
  constructor
  · intro h
    by_cases h1 : isSym (cE e x) ∧ fp (cE e) x < x
    · rw [eX_yes h1.1 h1.2] at h; exact absurd h (by show ¬ (0 : Int) < 0; omega)
    · rw [eX_no h1] at h
      have hs : isSym (cE e x) := isSym_s.2 (by omega)
      have := fp_le (cE e) x
      refine ⟨hs, ?_⟩
      have : ¬ fp (cE e) x < x := fun h2 => h1 ⟨hs, h2⟩
      omega
  · rintro ⟨h1, h2⟩
    rw [eX_at h2]
    have := isSym_s.1 h1
    omega
theorem eX_val {u : Int → Bool} {e : Nat → En} {x : Nat} : (eX u e (x + 1) x).v = outV u (cE e) x := by
  by_cases h : isSym (cE e x)
  · rw [eX_yes h (by have := fp_le (cE e) x; omega), out_inr h]; rfl
  · have h0 : (e x).s = 0 := Classical.not_not.1 (fun h1 => h (isSym_s.2 h1))
    rw [eX_no (fun h1 => h h1.1)]
    exact (out_inl (show cE e x = .inl (e x).v by unfold cE toD; rw [if_pos h0])).symm
theorem rankE_new {e : Nat → En} {x : Nat} (h : isSym (cE e x) ∧ fp (cE e) x = x) : rankC (cE e) (x + 1) = rankC (cE e) x + 1 := rank_new h.1 h.2
end Go.Proofs.YteijbpppalhihaaGreat
end

section
/- Cut: blocks that a callee leaves behind are dropped. Expanded by pp.py. -/
set_option linter.unusedSimpArgs false
namespace Go.Proofs.YteijbpppalhihaaGreat
open Go Go.AM
theorem conH_cutE {P : Program} {f : FuncId} {args : List V} {H : List B} {σ : Type} {ok : σ → Prop} {rf : σ → V} {Hf : σ → List B} (h : ConH P f args H fun r H' => ∃ x, ok x ∧ r = rf x ∧ ∃ G, H' = Hf x ++ G) (hl : ∀ x, ok x → H.length ≤ (Hf x).length) (hr : ∀ x, ok x → rb (Hf x).length (rf x)) (hb : ∀ x, ok x → ∀ bl ∈ Hf x, rbB (Hf x).length bl) : ConH P f args H fun r H' => ∃ x, ok x ∧ r = rf x ∧ H' = Hf x := by
  refine ⟨h.1, fun s vals h1 h2 h3 h4 => (h.2 s vals h1 h2 h3 h4).mono fun e w' ⟨u, s', r, a, b, c, d, e1, x, k1, k2, G, k3⟩ => ?_⟩
  subst k2
  exact ⟨u, s'.cut (Hf x), rf x, a, b, cut_good c k3 (hb x k1), cut_step c k3 (Step.refl _) s d (by rw [h1.1]; exact hl x k1), cut_rel k3 e1 (hr x k1), x, k1, rfl, rfl⟩
theorem conH_cutU {P : Program} {f : FuncId} {args : List V} {H Hf : List B} (h : ConH P f args H fun _ H' => ∃ G, H' = Hf ++ G) (hl : H.length ≤ Hf.length) (hb : ∀ bl ∈ Hf, rbB Hf.length bl) : ConH P f args H fun r H' => r = .undef ∧ H' = Hf := by
  refine ⟨h.1, fun s vals h1 h2 h3 h4 => (h.2 s vals h1 h2 h3 h4).mono fun e w' ⟨u, s', r, a, b, c, d, e1, G, k3⟩ => ?_⟩
  exact ⟨u, s'.cut Hf, .undef, a, b, cut_good c k3 hb, cut_step c k3 (Step.refl _) s d (by rw [h1.1]; exact hl), .undef _, rfl, rfl⟩
end Go.Proofs.YteijbpppalhihaaGreat
end

section
/- Z4: the reference's Fill. Expanded by pp.py. -/
set_option linter.unusedSimpArgs false
set_option maxRecDepth 100000
namespace Go.Proofs.YteijbpppalhihaaGreat
open Go Go.AM
/-- The heap behind filled, with entries e. -/
structure REnv (HE : (Nat → En) → List B) (L m n : Nat) (TB ZB : B) : Prop where
  len : ∀ e, (HE e).length = L
  p0 : ∀ e, (HE e)[0]? = some TB
  p1 : ∀ e, (HE e)[1]? = some ZB
  p3 : ∀ e, (HE e)[3]? = some (.buf 115 1 (outE 4 m n) false)
  pr : ∀ e i, i < m → (HE e)[4 + i]? = some (.buf 117 4 (rowE e n i) false)
  rb : ∀ e, ∀ bl ∈ HE e, rbB L bl
  rep : ∀ e old new X, (∀ bl ∈ X, rbB (L + X.length) bl) → ConH Tryz.prog 56 [.buf 3 0 m m, encEn old, encEn new] (HE e ++ X) fun r H' => r = .undef ∧ H' = HE (repTo e old new (m * n)) ++ X
  congr : ∀ e e', (∀ x, x < m * n → e x = e' x) → HE e = HE e'
  l4 : 4 + m ≤ L
theorem renv_of {H2 : List B} {m n : Nat} {TB ZB : B} (g : EOk H2 3 4 m n) (h0 : H2[0]? = some TB) (h1 : H2[1]? = some ZB) (hn : n ≤ 16) (hm : m ≤ 1000) : REnv (fun e => He H2 4 m n e) H2.length m n TB ZB := by
  refine ⟨fun e => he_len _ _ _ _ _, fun e => he_other e h0 (.inl (by omega)), fun e => he_other e h1 (.inl (by omega)), fun e => he_out g e, fun e i hi => he_row g e hi, fun e bl hbl => ?_, fun e old new X hX => ?_, fun e e' h => he_congr H2 4 m n h, g.lt⟩
  · have := he_rb g e bl hbl
    rwa [he_len] at this
  · have gX := g.app X (by rw [List.length_append]; exact hX)
    have hr := replace_r gX e old new hn hm
    rw [← he_app g] at hr
    have hr2 := conH_cutU (Hf := He H2 4 m n (repTo e old new (m * n)) ++ X) (hr.mono fun r H' ⟨G, hG⟩ => ⟨G, by rw [hG, he_app g]⟩) (by simp [he_len]) (fun bl hbl => by
      rw [he_app g] at hbl ⊢
      exact he_rb gX _ bl hbl)
    exact hr2
theorem filled_c (t : Tb) (ff gg df cf : Bool) (fds : List Fd) (l : List Cr) (hv : TbV t) (hF : FdsOk fds) (hl : l.length ≤ 1000000) (b0 b1 : B) (h0t : ∀ k, rbB k b0) (h1t : ∀ k, rbB k b1) :
    ConH Tryz.prog 45 [encTb ff gg t, LF df fds, LC cf l] [b0, b1] fun r H' => ∃ HE L, REnv HE L t.rows.length t.attrs.length b0 b1 ∧ ∃ e, H' = HE e ∧
      ((r = .tup [.nilS, .bool false] ∧ ¬ Okq (probT t fds l)) ∨ (r = .tup [.buf 3 0 t.rows.length t.rows.length, .bool true] ∧ Ent (probT t fds l) (fun x => toD (e x)) ∧ EnOk e (t.rows.length * t.attrs.length) (t.rows.length * t.attrs.length) ∧ ClosedE (probT t fds l) (fun x => toD (e x)))) := by
  obtain ⟨tb, htb⟩ : ∃ tb, tb = B.cells [.str t.name, .lst 1 ff (t.attrs.map V.str), .lst 2 gg (t.rows.map encRw)] := ⟨_, rfl⟩
  have hbt : ∀ k, rbB k tb := fun k => by rw [htb]; simp
  have h := filled_s t ff gg df cf fds l hv hF hl b0 b1 h0t h1t
  rw [← htb] at h
  have g := hs_ok h0t h1t hbt (e0 t l) t.attrs.length t.rows.length
  have hlen : ∀ e, (He (HS b0 b1 tb (e0 t l) t.attrs.length t.rows.length) 4 t.rows.length t.attrs.length e).length = 4 + t.rows.length := fun e => by rw [he_len, hs_len]
  have hc := conH_cutE (σ := Bool × (Nat → En)) (ok := fun x => if x.1 then Ent (probT t fds l) (fun y => toD (x.2 y)) ∧ EnOk x.2 (t.rows.length * t.attrs.length) (t.rows.length * t.attrs.length) ∧ ClosedE (probT t fds l) (fun y => toD (x.2 y)) else ¬ Okq (probT t fds l)) (rf := fun x => if x.1 then .tup [.buf 3 0 t.rows.length t.rows.length, .bool true] else .tup [.nilS, .bool false]) (Hf := fun x => He (HS b0 b1 tb (e0 t l) t.attrs.length t.rows.length) 4 t.rows.length t.attrs.length x.2) (h.mono fun r H' hh => by
      rcases hh with ⟨h1, h2, e, G, h3⟩ | ⟨h1, e, G, h2, h3, h4, h5⟩
      · exact ⟨(false, e), h2, h1, G, h3⟩
      · exact ⟨(true, e), ⟨h3, h4, h5⟩, h1, G, h2⟩) (fun x _ => by rw [hlen]; simp; omega) (fun x _ => by
        rw [hlen]
        cases x.1 with
        | true => simp; omega
        | false => simp) (fun x _ bl hbl => he_rb g x.2 bl hbl)
  refine hc.mono fun r H' ⟨⟨b, e⟩, k1, k2, k3⟩ => ?_
  refine ⟨fun e => He (HS b0 b1 tb (e0 t l) t.attrs.length t.rows.length) 4 t.rows.length t.attrs.length e, _, renv_of g (by simp [HS]) (by simp [HS]) hv.attrs hv.rows, e, k3, ?_⟩
  cases b with
  | false => exact .inl ⟨k2, k1⟩
  | true => exact .inr ⟨k2, k1⟩
theorem cap32' (n : Nat) (h : n ≤ 1000000000) : n ≤ 9223372036854775806 ∧ (n + 1) * 32 ≤ 140737488355328 := by omega
set_option maxHeartbeats 64000000 in
theorem Fill_r (t : Tb) (ff gg df cf : Bool) (fds : List Fd) (l : List Cr) (hv : TbV t) (hB : TbN t) (hF : FdsOk fds) (hcl : l.length ≤ 1000000) (hchk : chkE t fds l = 0) :
    ConP Tryz.prog 23 [encTb ff gg t, LF df fds, LC cf l] fun r => r = FillR t fds l := by
  have c1 := error_r t ff gg df cf fds l hv.ok hF hcl
  rw [hchk] at c1
  unfold FillR
  rw [if_pos hchk]
  obtain ⟨TB, hTB⟩ : ∃ TB, TB = B.cells [.str t.name, .lst 1 ff (t.attrs.map V.str), .lst 2 gg (t.rows.map encRw)] := ⟨_, rfl⟩
  obtain ⟨ZB, hZB⟩ : ∃ ZB, ZB = B.cells [.str ByteArray.empty, .nilS, .nilS] := ⟨_, rfl⟩
  have cf2 := filled_c t ff gg df cf fds l hv hF hcl TB ZB (fun k => by rw [hTB]; simp) (fun k => by rw [hZB]; simp)
  obtain ⟨n, hne⟩ : ∃ n, n = t.attrs.length := ⟨_, rfl⟩
  obtain ⟨m, hme⟩ : ∃ m, m = t.rows.length := ⟨_, rfl⟩
  obtain ⟨q, hq⟩ : ∃ q, q = probT t fds l := ⟨_, rfl⟩
  have hne' := hne.symm
  have hme' := hme.symm
  have hm := hv.rows
  have hn := hv.attrs
  rw [hme'] at hm
  rw [hne'] at hn
  have hbig : m * n ≤ 1000 * 16 := Nat.mul_le_mul hm hn
  rw [hne', hme', ← hq] at cf2
  rw [← hq]
  have hqm : q.m = m := by rw [hq, hme]; rfl
  have hqn : q.n = n := by rw [hq, hne]; rfl
  rw [hTB, hZB] at cf2
  simp only [encTb, LS, LR, LC, LF] at c1 cf2
  refine conP_of_conH (conH_of_W tok Tryz.func23 rfl rfl ?_)
  refine W_x tok mixed ?_
  simp -implicitDefEqProofs -dsimp [Tryz.f23, List.replicate, encTb, LS, LR, LC, LF]
  refine (callP (c1) (by simp)).mono ?_
  rintro r H' ⟨rfl, rfl⟩
  simp -implicitDefEqProofs -dsimp []
  refine wcall_of cf2 ?_
  rintro r' H' ⟨HE, L, env, e, rfl, hcase⟩
  obtain ⟨elen, ep0, ep1, ep3, epr, erb, erep, econg, el4⟩ := env
  have p0 : ∀ e X, (HE e ++ X)[0]? = some (B.cells [.str t.name, .lst 1 ff (t.attrs.map V.str), .lst 2 gg (t.rows.map encRw)]) := fun e X => by rw [List.getElem?_append_left (by rw [elen]; omega)]; exact ep0 e
  have p0' := fun e X => get_of (p0 e X)
  have p00' := fun e => get_of (ep0 e)
  have p1' := fun e => get_of (ep1 e)
  have p1z : ∀ e Y, ((HE e).set 1 Y)[1]? = some Y := fun e Y => by rw [List.getElem?_set_self (by rw [elen]; omega)]
  have p1z' := fun e Y => get_of (p1z e Y)
  have hl1 : ∀ e, 1 < (HE e).length := fun e => by rw [elen]; omega
  rcases hcase with ⟨rfl, hno⟩ | ⟨rfl, hE, hO, hC⟩
  · rw [okB_false hno, if_neg (by simp)]
    simp -implicitDefEqProofs -dsimp [ep1, hl1, p1', p1z, p1z', elen, show 1 < L by omega]
    rfl
  · rw [okB_true ⟨_, hE.sol hC⟩, if_pos rfl]
    have hgen : GenS q (cE e) := hE.gen hC
    have hfT : filTb t fds l = filT t (cE e) := filTb_eq (hq ▸ hgen)
    obtain ⟨c, hc⟩ : ∃ c, c = cE e := ⟨_, rfl⟩
    obtain ⟨u, hu⟩ : ∃ u, u = unkT t := ⟨_, rfl⟩
    have hnum : ∀ k, 0 ≤ numP u k ∧ numP u k ≤ 1000000 + k := fun k => by rw [hu]; exact numP_le hB.bnd (by omega) k
    have hu1 := hB.bnd
    rw [← hu] at hu1
    rw [← hc] at hfT hgen
    have hol := outE_len 4 m n
    have p3 : ∀ e X, (HE e ++ X)[3]? = some (.buf 115 1 (outE 4 m n) false) := fun e X => by rw [List.getElem?_append_left (by rw [elen]; omega)]; exact ep3 e
    have p3' := fun e X => get_of (p3 e X)
    have pL : ∀ e X, (HE e ++ X)[L]? = X[0]? := fun e X => by rw [List.getElem?_append_right (by rw [elen]; omega), elen]; simp
    have pL1 : ∀ e X, (HE e ++ X)[L + 1]? = X[1]? := fun e X => by rw [List.getElem?_append_right (by rw [elen]; omega), elen]; congr 1; omega
    have pL2 : ∀ e X, (HE e ++ X)[L + 2]? = X[2]? := fun e X => by rw [List.getElem?_append_right (by rw [elen]; omega), elen]; congr 1; omega
    have pL3 : ∀ e X, (HE e ++ X)[L + 3]? = X[3]? := fun e X => by rw [List.getElem?_append_right (by rw [elen]; omega), elen]; congr 1; omega
    have pLg : ∀ e A X, ∀ h : L < (HE e ++ A :: X).length, (HE e ++ A :: X)[L] = A := fun e A X => get_of (by rw [pL]; rfl)
    have pL1g : ∀ e A A1 X, ∀ h : L + 1 < (HE e ++ A :: A1 :: X).length, (HE e ++ A :: A1 :: X)[L + 1] = A1 := fun e A A1 X => get_of (by rw [pL1]; rfl)
    have pL2g : ∀ e A A1 A2 X, ∀ h : L + 2 < (HE e ++ A :: A1 :: A2 :: X).length, (HE e ++ A :: A1 :: A2 :: X)[L + 2] = A2 := fun e A A1 A2 X => get_of (by rw [pL2]; rfl)
    have pL3g : ∀ e A A1 A2 A3 X, ∀ h : L + 3 < (HE e ++ A :: A1 :: A2 :: A3 :: X).length, (HE e ++ A :: A1 :: A2 :: A3 :: X)[L + 3] = A3 := fun e A A1 A2 A3 X => get_of (by rw [pL3]; rfl)
    have sL : ∀ e X Y, (HE e ++ X).set L Y = HE e ++ X.set 0 Y := fun e X Y => by rw [List.set_append_right _ _ (by rw [elen]; omega), elen]; simp
    have sL1 : ∀ e X Y, (HE e ++ X).set (L + 1) Y = HE e ++ X.set 1 Y := fun e X Y => by rw [List.set_append_right _ _ (by rw [elen]; omega), elen]; congr 2; omega
    have sL2 : ∀ e X Y, (HE e ++ X).set (L + 2) Y = HE e ++ X.set 2 Y := fun e X Y => by rw [List.set_append_right _ _ (by rw [elen]; omega), elen]; congr 2; omega
    have sL3 : ∀ e X Y, (HE e ++ X).set (L + 3) Y = HE e ++ X.set 3 Y := fun e X Y => by rw [List.set_append_right _ _ (by rw [elen]; omega), elen]; congr 2; omega
    have rbX : ∀ e X, (∀ bl ∈ X, rbB (L + X.length) bl) → ∀ bl ∈ HE e ++ X, rbB (HE e ++ X).length bl := fun e X hX bl hbl => by
      rw [List.length_append, elen]
      rcases List.mem_append.1 hbl with h | h
      · exact rbB_mono (by omega) (erb e bl h)
      · exact hX bl h
    have hl2 : ∀ e X, 1 < (HE e ++ X).length := fun e X => by rw [List.length_append, elen]; omega
    have p1a : ∀ e X, (HE e ++ X)[1]? = some (B.cells [.str ByteArray.empty, .nilS, .nilS]) := fun e X => by rw [List.getElem?_append_left (by rw [elen]; omega)]; exact ep1 e
    have p1a' := fun e X => get_of (p1a e X)
    have p1s : ∀ e X Y, ((HE e ++ X).set 1 Y)[1]? = some Y := fun e X Y => by rw [List.getElem?_set_self (hl2 e X)]
    have p1s' := fun e X Y => get_of (p1s e X Y)
    simp -implicitDefEqProofs -dsimp []
    refine lw_of (W_own 66 2 [11] (by simp [elen]) (W_loopV [false, false, false, false, false, false, false, false, false, false, false, true, true, true, true, true, true, false, false, false, false, false, false, false, false, false, false, false, false, false, false, false, false, false, false, true, true, true, true, true, true, true, true, true, true, true, true, true, true, true, true, true, true, true, true, true, true, true, true, true, true, true, true, true, true, true, true, true, true, true, true, true, true, true, true, true, true, true, true, true, true, true, true, true, true, true, true, true, true, true, true, true, true, true, true, true, true] (σ := Nat) (fun i => i ≤ m) (fun i => m - i) (fun i => [(13, .int .i64 i), (12, .int .i64 (numP u (rankC c (i * n)))), (11, .buf L 0 i i)]) (fun i => HE (eX u e (i * n)) ++ [B.buf 66 2 ((rwTo t c i).map encRw) false]) 0 (by omega) (by simp [rankC, numP, elen]) (by simp [eX_zero, rwTo]) (by simp [elen]) ?_))
    intro i hi N1 Q1 hN1 hQ1
    have hrl := rwTo_len t c i
    by_cases hib : i < m
    · have hit : i < t.rows.length := by omega
      obtain ⟨rw, hrw⟩ : ∃ rw, rw = t.rows[i] := ⟨_, rfl⟩
      have hrw' := hrw.symm
      have hog := fun h => outE_get (b := 4) (m := m) (n := n) (i := i) h
      have prow : ∀ e X, (HE e ++ X)[4 + i]? = some (.buf 117 4 (rowE e n i) false) := fun e X => by rw [List.getElem?_append_left (by rw [elen]; omega)]; exact epr e i hib
      have prow' := fun e X => get_of (prow e X)
      have h4L : 4 + i < L := by omega
      refine W_x tok mixed ?_
      simp -implicitDefEqProofs -dsimp [p3, p3', hol, hib, p0', hit, hrw', encRw, LV, elen]
      refine lw_of (W_ownC (cs := [V.int .i64 rw.id, .nilS]) 68 3 [] (L + 1) [1] (by rw [pL1]; rfl) (lfL_own _ _) (by simp [elen]) (W_loopV [false, false, false, false, false, false, false, false, false, false, false, false, true, false, false, true, true, false, false, false, false, false, false, false, false, false, false, false, false, false, false, false, false, false, false, false, false, false, false, false, false, false, false, false, false, false, false, false, true, true, true, true, true, true, true, true, true, true, true, true, true, true, true, true, true, true, true, true, true, true, true, true, true, true, true, true, true, true, true, true, true, true, true, true, true, true, true, true, true, true, true, true, true] (σ := Nat × Nat) (fun p => p.1 ≤ n ∧ p.2 = i * n + p.1) (fun p => n - p.1) (fun p => [(15, .int .i64 p.1), (12, .int .i64 (numP u (rankC c p.2)))]) (fun p => HE (eX u e p.2) ++ [B.buf 66 2 ((rwTo t c i).map encRw) false, B.cells [.int .i64 rw.id, .buf (L + 2) 0 p.1 p.1], B.buf 68 3 ((vlTo u c (i * n) p.1).map encV) false]) (0, i * n) ⟨by simp, by simp⟩ (by simp) (by simp [vlTo, sL1, elen]) (by simp [elen]) ?_))
      rintro ⟨a, x⟩ ⟨ha, hx⟩ N2 Q2 hN2 hQ2
      simp only at ha hx hN2
      have hrbX : ∀ e a, ∀ bl ∈ HE e ++ [B.buf 66 2 ((rwTo t c i).map encRw) false, B.cells [.int .i64 rw.id, .buf (L + 2) 0 a a], B.buf 68 3 ((vlTo u c (i * n) a).map encV) false], rbB (HE e ++ [B.buf 66 2 ((rwTo t c i).map encRw) false, B.cells [.int .i64 rw.id, .buf (L + 2) 0 a a], B.buf 68 3 ((vlTo u c (i * n) a).map encV) false]).length bl := fun e a => rbX e _ (by simp)
      by_cases hab : a < n
      · have hltn := cell_lt hib hab
        have hlt : x < m * n := by rw [hx]; exact hltn
        have hget : ∀ h : a < (rowE (eX u e x) n i).length, (rowE (eX u e x) n i)[a] = encEn (eX u e x x) := fun h => by rw [rowE_get h, ← hx]
        have hget1 : ∀ h : a < (rowE (eX u e (x + 1)) n i).length, (rowE (eX u e (x + 1)) n i)[a] = encEn (eX u e (x + 1) x) := fun h => by rw [rowE_get h, ← hx]
        have hlr := fun e => rowE_len e n i
        have hval := eX_val (u := u) (e := e) (x := x)
        rw [← hc] at hval
        have hsy := eX_sym (u := u) (x := x) hO hlt
        rw [← hc] at hsy
        have hvlen := vlTo_len u c (i * n) a
        have hvs := vlTo_succ u c (i * n) a
        rw [← hx, ← hval] at hvs
        have hrkl := rank_le c x
        obtain ⟨nu1, nu2⟩ := hnum (rankC c x)
        obtain ⟨y1, hy1⟩ : ∃ y1, y1 = eX u e (x + 1) x := ⟨_, rfl⟩
        rw [← hy1] at hget1 hvs
        by_cases hs : isSym (c x) ∧ fp c x = x
        · have hpos := hsy.2 hs
          rw [eX_at (by rw [← hc]; exact hs.2)] at hpos hget
          have hnw := fun y hy => eX_new (u := u) hO hlt (by rw [← hc]; exact hs.1) (by rw [← hc]; exact hs.2) (y := y) hy
          have hHE := econg _ _ hnw
          have hrk := rank_new hs.1 hs.2
          have hcl := cls_new (u := u) hs.2
          obtain ⟨nx1, nx2⟩ := nxt_ok hu1 (numP u (rankC c x))
          have hnp : numP u (rankC c (x + 1)) = cls u c x := by rw [hrk, hcl]; rfl
          rw [← hcl] at nx1 nx2
          have hnewE : encEn (newE u e x) = .agg [.int .i64 3, .int .i64 (cls u c x), .str ByteArray.empty, .int .i64 0] := by rw [hc]; rfl
          obtain ⟨n0, hn0⟩ : ∃ n0, n0 = numP u (rankC c x) := ⟨_, rfl⟩
          obtain ⟨nx, hnx⟩ : ∃ nx, nx = cls u c x := ⟨_, rfl⟩
          rw [← hnx] at nx1 nx2 hnp hnewE
          rw [← hn0] at nx1 nx2 nu1 nu2
          have hn0' := hn0.symm
          obtain ⟨old, hold⟩ : ∃ old, old = e x := ⟨_, rfl⟩
          rw [← hold] at hget hpos hHE
          have crep := erep (eX u e x) old (newE u e x) [B.buf 66 2 ((rwTo t c i).map encRw) false, B.cells [.int .i64 rw.id, .buf (L + 2) 0 a a], B.buf 68 3 ((vlTo u c (i * n) a).map encV) false, B.cells [.int .i64 old.v.k, .int .i64 old.v.n, .str old.v.s, .int .i64 old.s]] (by simp)
          rw [← hHE, hnewE] at crep
          simp only [encEn, List.cons_append, List.nil_append] at crep
          refine W_x tok mixed ?_
          simp -implicitDefEqProofs -dsimp [p3, p3', hol, hib, hog, prow, prow', h4L, hlr, hab, hget, encEn, elen, hpos, hn0', pL3g, wrap64 (n := n0 + 1) (by omega) (by omega)]
          refine lw_of (W_loopV [false, false, false, false, false, false, false, false, false, false, false, false, true, false, false, false, false, false, false, false, false, false, false, false, false, false, false, false, false, false, false, false, false, false, false, false, false, false, false, false, false, false, false, false, false, false, false, false, false, false, false, false, false, false, false, false, false, false, false, false, false, false, false, false, false, false, false, false, false, true, true, true, true, true] (σ := Int) (fun k => n0 < k ∧ k ≤ nx) (fun k => (nx - k).toNat) (fun k => [(12, .int .i64 k)]) (fun _ => HE (eX u e x) ++ [B.buf 66 2 ((rwTo t c i).map encRw) false, B.cells [.int .i64 rw.id, .buf (L + 2) 0 a a], B.buf 68 3 ((vlTo u c (i * n) a).map encV) false, B.cells [.int .i64 old.v.k, .int .i64 old.v.n, .str old.v.s, .int .i64 old.s]]) (n0 + 1) ⟨by omega, by have := nx1.gt; omega⟩ (by simp) (by simp) (by simp [elen]) ?_)
          rintro k ⟨hk1, hk2⟩ N3 Q3 hN3 hQ3
          have cu := used_r t ff gg k hv
          rw [← hu] at cu
          simp only [encTb, LS, LR] at cu
          by_cases hkx : k = nx
          · subst hkx
            rw [nx1.free] at cu
            refine W_x tok mixed ?_
            simp -implicitDefEqProofs -dsimp [p0']
            refine (callP (cu) (by simp)).mono ?_
            rintro r H' ⟨rfl, rfl⟩
            simp -implicitDefEqProofs -dsimp []
            refine hQ3 _ _ _ ?_
            simp -implicitDefEqProofs -dsimp [pL3g, elen]
            refine wcall_of crep ?_
            rintro r' H' ⟨rfl, rfl⟩
            simp -implicitDefEqProofs -dsimp []
            refine lw_of (W_drawT tok mixed [11, 13] [] [] (by kernel_rfl) fun C K hC hK => ?_)
            simp -implicitDefEqProofs [p3, p3', hol, hib, hog, prow, prow', h4L, hlr, hab, hget1, encEn, elen, pL1g, pL2g, sL1, sL2, hvlen, cap32' a (by omega)]
            refine hK _ _ ?_
            simp -implicitDefEqProofs -dsimp [wrapS a (by omega)]
            refine hN2 (a + 1, x + 1) _ _ ⟨by simp only; omega, by simp only; omega⟩ (by simp only; omega) (by simp [hnp]) ⟨[B.cells [.int .i64 old.v.k, .int .i64 old.v.n, .str old.v.s, .int .i64 old.s]], by simp [hvs, encV]⟩ (by simp [elen]; omega) (hrbX _ _)
          · rw [nx1.all k hk1 (by omega)] at cu
            refine W_x tok mixed ?_
            simp -implicitDefEqProofs -dsimp [p0']
            refine (callP (cu) (by simp)).mono ?_
            rintro r H' ⟨rfl, rfl⟩
            simp -implicitDefEqProofs -dsimp [wrap64 (n := k + 1) (by omega) (by omega)]
            refine hN3 (k + 1) _ _ ⟨by omega, by omega⟩ (by omega) (by simp) ⟨[], by simp⟩ (by simp [elen]; omega) (rbX _ _ (by simp))
        · have hpos : ¬ 0 < (eX u e x x).s := fun h => hs (hsy.1 h)
          have hold := eX_old (u := u) (e := e) (x := x) (by rw [← hc]; exact hs)
          have hrk := rank_old hs
          rw [hold] at hy1
          rw [← hy1] at hget hpos
          refine W_x tok mixed ?_
          simp -implicitDefEqProofs -dsimp [p3, p3', hol, hib, hog, prow, prow', h4L, hlr, hab, hget, encEn, elen, hpos, pL3g]
          refine lw_of (W_drawT tok mixed [11, 13] [] [] (by kernel_rfl) fun C K hC hK => ?_)
          simp -implicitDefEqProofs [p3, p3', hol, hib, hog, prow, prow', h4L, hlr, hab, hget, encEn, elen, pL1g, pL2g, sL1, sL2, hvlen, cap32' a (by omega)]
          refine hK _ _ ?_
          simp -implicitDefEqProofs -dsimp [wrapS a (by omega)]
          refine hN2 (a + 1, x + 1) _ _ ⟨by simp only; omega, by simp only; omega⟩ (by simp only; omega) (by simp [hrk]) ⟨[B.cells [.int .i64 y1.v.k, .int .i64 y1.v.n, .str y1.v.s, .int .i64 y1.s]], by simp [hvs, encV, hold]⟩ (by simp [elen]; omega) (hrbX _ _)
      · obtain rfl : a = n := by omega
        have hvlen := vlTo_len u c (i * a) a
        have hxe : (i + 1) * a = x := by rw [Nat.add_mul]; omega
        have hrs := rwTo_succ t c i
        have hlr := fun e => rowE_len e a i
        have hfr : encRw (filRow t c i) = .agg [.int .i64 rw.id, .lst 3 false ((vlTo u c (i * a) a).map encV)] := by
          rw [filRow_eq, rwAt_in hit, ← hrw, ← hne, ← hu]; rfl
        refine W_frzC (L + 2) [] (L + 1) [1] (pL2 _ _) (pL1 _ _) (by simp) (by simp [hvlen]) ?_
        refine W_x tok mixed ?_
        simp -implicitDefEqProofs -dsimp [p3, p3', hol, hib, hog, prow, prow', h4L, hlr, elen, sL1, sL2]
        refine hQ2 _ _ _ ?_
        simp -implicitDefEqProofs -dsimp [pL1g, pLg, sL, elen, hrl, cap32' i (by omega), wrapS i (by omega)]
        refine hN1 (i + 1) _ _ (by omega) (by omega) (by simp [hxe]) ⟨[B.cells [.int .i64 rw.id, .lst 3 false ((vlTo u c (i * a) a).map encV)], B.buf 68 3 ((vlTo u c (i * a) a).map encV) true], by simp [hxe, hrs, hfr]⟩ (by simp [elen]; omega) (rbX _ _ (by simp))
    · obtain rfl : i = m := by omega
      have cw := with03 t (rwTo t c i) ff gg false hv.ok.attrs (by omega) (fun r hr => by
        obtain ⟨j, _, rfl⟩ := List.mem_map.1 hr
        have := hv.attrs
        simp [filRow]; omega)
      simp only [encTb, LS, LR] at cw
      refine W_frz L [11] (pL _ _) (by simp [hrl]) ?_
      refine W_x tok mixed ?_
      simp -implicitDefEqProofs -dsimp [p3, p3', hol, hib, hrl, sL]
      refine hQ1 _ _ _ ?_
      simp -implicitDefEqProofs -dsimp [p0', elen]
      refine (callP (cw) (by simp)).mono ?_
      rintro r H' ⟨rfl, rfl⟩
      simp -implicitDefEqProofs -dsimp [elen, p1a, p1a', p1s, p1s', hl2, show 1 < L + 1 by omega, show 0 < L by omega]
      rw [hfT]
      simp [encTb, LS, LR, filT, rwTo, hme]
end Go.Proofs.YteijbpppalhihaaGreat
end

section
/- Z5: the filled table satisfies the dependencies and differs only in open cells. -/
set_option linter.unusedSimpArgs false
namespace Go.Proofs.YteijbpppalhihaaGreat
open Go Go.AM
/-- A solution whose values are renamed. -/
theorem sol_map {q : Prob} {c : Nat → Dm} (h : Sol q c) (f : Dm → Dm) (hi : ∀ x y, x < q.m * q.n → y < q.m * q.n → f (c x) = f (c y) → c x = c y) (hf : ∀ x v, x < q.m * q.n → q.K x = some v → f (.inl v) = .inl v) : Sol q (fun x => f (c x)) :=
  ⟨fun x v hx hk => by
    show f (c x) = _
    rw [h.fix x v hx hk]; exact hf x v hx hk, fun d hd i k hi' hk hl a ha hb => congrArg f (h.dep d hd i k hi' hk (fun b hb1 hb2 => hi _ _ (cell_lt hi' hb1) (cell_lt (by omega) hb1) (hl b hb1 hb2)) a ha hb)⟩
theorem fresh (c : Nat → Dm) : ∀ N : Nat, ∃ S, ∀ y s, y < N → c y = .inr s → s < S
  | 0 => ⟨0, fun y s h => by omega⟩
  | N + 1 => by
    obtain ⟨S, hS⟩ := fresh c N
    cases hc : c N with
    | inl v => exact ⟨S, fun y s hy h => by
        rcases Nat.lt_or_ge y N with e | e
        · exact hS y s e h
        · have : y = N := by omega
          subst this; rw [hc] at h; cases h⟩
    | inr s0 => exact ⟨max S (s0 + 1), fun y s hy h => by
        rcases Nat.lt_or_ge y N with e | e
        · have := hS y s e h; omega
        · have : y = N := by omega
          subst this
          rw [hc] at h
          have := Sum.inr.inj h; omega⟩
theorem GenS.val_in {q : Prob} {c : Nat → Dm} (h : GenS q c) {x : Nat} {v : Vl} (hx : x < q.m * q.n) (hv : c x = .inl v) : ∃ y, y < q.m * q.n ∧ q.K y = some v := by
  refine Classical.byContradiction fun hno => ?_
  obtain ⟨S, hS⟩ := fresh c (q.m * q.n)
  have hfr : ∀ y, y < q.m * q.n → c y ≠ .inr S := fun y hy he => by have := hS y S hy he; omega
  obtain ⟨f, f1, f2⟩ : ∃ f : Dm → Dm, f (.inl v) = .inr S ∧ ∀ d, d ≠ .inl v → f d = d := by
    refine ⟨fun d => open Classical in if d = .inl v then .inr S else d, if_pos rfl, fun d hd => if_neg hd⟩
  have hs := sol_map h.sol f (fun a b ha hb he => by
    by_cases h1 : c a = .inl v
    · by_cases h2 : c b = .inl v
      · rw [h1, h2]
      · rw [h1, f1, f2 _ h2] at he
        exact absurd he.symm (hfr b hb)
    · by_cases h2 : c b = .inl v
      · rw [h2, f1, f2 _ h1] at he
        exact absurd he (hfr a ha)
      · rwa [f2 _ h1, f2 _ h2] at he) (fun a w ha hk => f2 _ (fun he => hno ⟨a, ha, by rw [hk, Sum.inl.inj he]⟩))
  obtain ⟨τ, ht⟩ := h.gen _ hs
  have := ht x hx
  simp only [hv, f1, app] at this
  cases this
theorem numP_lt {u : Int → Bool} {b : Int} (hu : Bnd u b) {j k : Nat} (h : j < k) : numP u j < numP u k := by
  induction k with
  | zero => omega
  | succ k ih =>
    have h1 := (nxt_ok hu (numP u k)).1.gt
    rcases Nat.lt_or_ge j k with e | e
    · have := ih e
      rw [numP]; omega
    · have : j = k := by omega
      subst this
      rw [numP]; omega
theorem rank_mono (c : Nat → Dm) {a b : Nat} (h : a ≤ b) : rankC c a ≤ rankC c b := by
  induction b with
  | zero => have : a = 0 := by omega
            subst this; exact Nat.le_refl _
  | succ b ih =>
    rcases Nat.lt_or_ge a (b + 1) with e | e
    · have := ih (by omega)
      by_cases hs : isSym (c b) ∧ fp c b = b
      · rw [rank_new hs.1 hs.2]; omega
      · rw [rank_old hs]; exact this
    · have : a = b + 1 := by omega
      subst this; exact Nat.le_refl _
theorem rank_lt {c : Nat → Dm} {y z : Nat} (h1 : isSym (c y)) (h2 : fp c y = y) (h : y < z) : rankC c y < rankC c z := by
  have := rank_mono c (show y + 1 ≤ z by omega)
  rw [rank_new h1 h2] at this
  omega
theorem cls_inj {u : Int → Bool} {b : Int} (hu : Bnd u b) {c : Nat → Dm} {x y : Nat} (hx : isSym (c x)) (hy : isSym (c y)) (h : cls u c x = cls u c y) : c x = c y := by
  have hx' : isSym (c (fp c x)) := by rw [fp_same c x]; exact hx
  have hy' : isSym (c (fp c y)) := by rw [fp_same c y]; exact hy
  have hr : rankC c (fp c x) = rankC c (fp c y) := by
    unfold cls at h
    rcases Nat.lt_trichotomy (rankC c (fp c x)) (rankC c (fp c y)) with e | e | e
    · have := numP_lt hu (show rankC c (fp c x) + 1 < rankC c (fp c y) + 1 by omega); omega
    · exact e
    · have := numP_lt hu (show rankC c (fp c y) + 1 < rankC c (fp c x) + 1 by omega); omega
  have hf : fp c x = fp c y := by
    rcases Nat.lt_trichotomy (fp c x) (fp c y) with e | e | e
    · have := rank_lt hx' (fp_fp c x) e; omega
    · exact e
    · have := rank_lt hy' (fp_fp c y) e; omega
  rw [← fp_same c x, ← fp_same c y, hf]
theorem cls_free {u : Int → Bool} {b : Int} (hu : Bnd u b) (c : Nat → Dm) (x : Nat) : u (cls u c x) = false := (nxt_ok hu (numP u (rankC c (fp c x)))).1.free
theorem probK_some {t : Tb} {fds : List Fd} {l : List Cr} {x : Nat} {v : Vl} (h : (probT t fds l).K x = some v) : v = vlAt t x ∧ crAt t x ∉ l := by
  by_cases hc : crAt t x ∈ l
  · rw [probK_in hc] at h; cases h
  · rw [probK_out hc] at h; exact ⟨(Option.some.inj h).symm, hc⟩
theorem out_inj {t : Tb} {fds : List Fd} {l : List Cr} {c : Nat → Dm} (h : GenS (probT t fds l) c) (hB : TbN t) {x y : Nat} (hx : x < t.rows.length * t.attrs.length) (hy : y < t.rows.length * t.attrs.length) (he : outV (unkT t) c x = outV (unkT t) c y) : c x = c y := by
  have key : ∀ x y v, x < t.rows.length * t.attrs.length → c x = .inl v → isSym (c y) → outV (unkT t) c x ≠ outV (unkT t) c y := fun x y v hx hv hs he => by
    rw [out_inl hv, out_inr hs] at he
    obtain ⟨z, hz, hk⟩ := h.val_in hx hv
    have h1 := (probK_some hk).1
    have : unkT t (cls (unkT t) c y) = true := unkT_iff.2 ⟨z, hz, by rw [← h1, he], by rw [← h1, he]⟩
    rw [cls_free hB.bnd] at this
    cases this
  by_cases h1 : isSym (c x)
  · by_cases h2 : isSym (c y)
    · rw [out_inr h1, out_inr h2] at he
      refine cls_inj hB.bnd h1 h2 ?_
      injection he
    · obtain ⟨v, hv⟩ := not_isSym h2
      exact absurd he.symm (key y x v hy hv h1)
  · obtain ⟨v, hv⟩ := not_isSym h1
    by_cases h2 : isSym (c y)
    · exact absurd he (key x y v hx hv h2)
    · obtain ⟨w, hw⟩ := not_isSym h2
      rw [out_inl hv, out_inl hw] at he
      rw [hv, hw, he]
theorem filT_at {t : Tb} {c : Nat → Dm} {i a : Nat} (hi : i < t.rows.length) (ha : a < t.attrs.length) : vlAt (filT t c) (i * t.attrs.length + a) = outV (unkT t) c (i * t.attrs.length + a) := by
  have := vlAt_at (filT t c) (i := i) (a := a) ha
  rw [show (filT t c).attrs.length = t.attrs.length from rfl] at this
  rw [this, rwAt_in (by rw [filT_rows]; exact hi)]
  simp [filT, filRow, vAt, ha]
/-- Rows agree if their values at a set are equal. -/
theorem vTo2_eq {us vs : List Vl} {s : Int} : ∀ {i : Nat}, vTo2 us s i = vTo2 vs s i ↔ ∀ k, k < i → hasB s k = true → vAt us k = vAt vs k
  | 0 => by simp [vTo2]
  | i + 1 => by
    have ih := vTo2_eq (us := us) (vs := vs) (s := s) (i := i)
    simp only [vTo2]
    cases hb : hasB s i with
    | true =>
      simp only [if_true]
      constructor
      · intro h
        obtain ⟨h1, h2⟩ := List.append_inj' h rfl
        intro k hk hs
        rcases Nat.lt_or_ge k i with e | e
        · exact ih.1 h1 k e hs
        · have : k = i := by omega
          subst this
          exact List.cons.inj h2 |>.1
      · intro h
        rw [ih.2 (fun k hk hs => h k (by omega) hs)]
        have := h i (by omega) hb
        unfold vAt at this
        rw [this]
    | false =>
      simp only [Bool.false_eq_true, if_false]
      rw [ih]
      constructor
      · intro h k hk hs
        rcases Nat.lt_or_ge k i with e | e
        · exact h k e hs
        · have : k = i := by omega
          subst this; rw [hb] at hs; cases hs
      · intro h k hk hs; exact h k (by omega) hs
theorem cmpVs_zero : ∀ {us vs : List Vl}, cmpVs us vs = 0 ↔ us = vs
  | [], [] => by simp [cmpVs]
  | [], _ :: _ => by simp [cmpVs]
  | _ :: _, [] => by simp [cmpVs]
  | u :: us, v :: vs => by
    rw [cmpVs, List.cons.injEq]
    have h1 := cmpV_zero u v
    have h2 := cmpVs_zero (us := us) (vs := vs)
    split
    · rename_i h
      rw [h2]
      exact ⟨fun h3 => ⟨h1.1 h, h3⟩, fun h3 => h3.2⟩
    · rename_i h
      exact ⟨fun h3 => absurd h3 h, fun h3 => absurd (h1.2 h3.1) h⟩
theorem agreeR_iff {a b : Rw} {s : Int} (h : a.vals.length = b.vals.length) : agreeR a b s = true ↔ ∀ k, k < a.vals.length → hasB s k = true → vAt a.vals k = vAt b.vals k := by
  unfold agreeR valsOf
  rw [beq_iff_eq, cmpVs_zero, ← h]
  exact vTo2_eq
theorem rwAt_vals {t : Tb} {i a : Nat} (ha : a < t.attrs.length) : vAt (rwAt t i).vals a = vlAt t (i * t.attrs.length + a) := (vlAt_at t ha).symm
/-- What all dependencies mean for the cells. -/
theorem satP_iff {u : Tb} {fds : List Fd} (hl : ∀ r ∈ u.rows, r.vals.length = u.attrs.length) (hn : u.attrs.length ≤ 16) (hF : FdsOk fds) : SatP u fds ↔ ∀ d ∈ fds, ∀ i k, i < u.rows.length → k < i → (∀ a, a < u.attrs.length → d.l.testBit a = true → vlAt u (i * u.attrs.length + a) = vlAt u (k * u.attrs.length + a)) → ∀ a, a < u.attrs.length → d.r.testBit a = true → vlAt u (i * u.attrs.length + a) = vlAt u (k * u.attrs.length + a) := by
  have key : ∀ (s : Nat), s < 4294967296 → ∀ i k, i < u.rows.length → k < i → (agreeR (rwAt u i) (rwAt u k) s = true ↔ ∀ a, a < u.attrs.length → s.testBit a = true → vlAt u (i * u.attrs.length + a) = vlAt u (k * u.attrs.length + a)) := fun s hs i k hi hk => by
    have h1 : (rwAt u i).vals.length = u.attrs.length := by rw [rwAt_in hi]; exact hl _ (List.getElem_mem hi)
    have h2 : (rwAt u k).vals.length = u.attrs.length := by rw [rwAt_in (show k < u.rows.length by omega)]; exact hl _ (List.getElem_mem _)
    rw [agreeR_iff (by rw [h1, h2]), h1]
    constructor
    · intro h a ha hb
      rw [← rwAt_vals ha, ← rwAt_vals ha]
      exact h a ha (by rw [hasB_bit _ _ hs (by omega)]; exact hb)
    · intro h a ha hb
      rw [rwAt_vals ha, rwAt_vals ha]
      exact h a ha (by rw [hasB_bit _ _ hs (by omega)] at hb; exact hb)
  unfold SatP
  constructor
  · intro h d hd i k hi hk hl
    obtain ⟨b1, b2⟩ := hF.2 d hd
    exact (key d.r b2 i k hi hk).1 (h d hd i k hi hk ((key d.l b1 i k hi hk).2 hl))
  · intro h d hd i k hi hk hl
    obtain ⟨b1, b2⟩ := hF.2 d hd
    exact (key d.r b2 i k hi hk).2 (h d hd i k hi hk ((key d.l b1 i k hi hk).1 hl))
theorem filT_sat {t : Tb} {fds : List Fd} {l : List Cr} {c : Nat → Dm} (h : GenS (probT t fds l) c) (hB : TbN t) (hv : TbV t) (hF : FdsOk fds) : SatP (filT t c) fds := by
  rw [satP_iff (filT_len t c) hv.attrs hF]
  intro d hd i k hi hk hl a ha hb
  have hi' : i < t.rows.length := by rw [filT_rows] at hi; exact hi
  have hk' : k < t.rows.length := by omega
  have e : (filT t c).attrs.length = t.attrs.length := rfl
  rw [e] at hl ha ⊢
  rw [filT_at hi' ha, filT_at hk' ha]
  have := h.sol.dep d hd i k hi' hk (fun b hb1 hb2 => out_inj h hB (cell_lt hi' hb1) (cell_lt hk' hb1) (by
    have := hl b hb1 hb2
    rwa [filT_at hi' hb1, filT_at hk' hb1] at this)) a ha hb
  have h2 : ∀ x y, c x = c y → outV (unkT t) c x = outV (unkT t) c y := fun x y he => by
    by_cases h1 : isSym (c x)
    · rw [out_inr h1, out_inr (by rw [← he]; exact h1), cls_uniq he]
    · obtain ⟨v, hv⟩ := not_isSym h1
      rw [out_inl hv, out_inl (he ▸ hv)]
  exact h2 _ _ this
theorem filT_only {t : Tb} {fds : List Fd} {l : List Cr} {c : Nat → Dm} (h : GenS (probT t fds l) c) {i a : Nat} (hi : i < t.rows.length) (ha : a < t.attrs.length) (hne : vlAt (filT t c) (i * t.attrs.length + a) ≠ vlAt t (i * t.attrs.length + a)) : crAt t (i * t.attrs.length + a) ∈ l := by
  refine Classical.byContradiction fun hc => hne ?_
  rw [filT_at hi ha]
  exact out_inl (h.sol.fix _ _ (cell_lt hi ha) (probK_out hc))
open Classical in
noncomputable def pick (p : Vl → Prop) (r : Nat → Prop) : Dm := if h : ∃ v, p v then .inl h.choose else .inr (Classical.epsilon r)
/-- If there is a solution, then there is one of which all others are instances: what is forced to be equal is equal. -/
theorem genS_ok {q : Prob} (h : Okq q) : ∃ c, GenS q c := by
  obtain ⟨σ0, h0⟩ := h
  let Fq : Nat → Nat → Prop := fun x y => ∀ σ, Sol q σ → σ x = σ y
  let Vq : Nat → Vl → Prop := fun x v => ∀ σ, Sol q σ → σ x = .inl v
  let c : Nat → Dm := fun x => pick (Vq x) (fun y => Fq y x)
  have hc : ∀ x, c x = pick (Vq x) (fun y => Fq y x) := fun _ => rfl
  have h1 : ∀ x y, Fq x y → c x = c y := fun x y hf => by
    have e1 : Vq x = Vq y := funext fun v => propext ⟨fun g σ hσ => by rw [← hf σ hσ]; exact g σ hσ, fun g σ hσ => by rw [hf σ hσ]; exact g σ hσ⟩
    have e2 : (fun z => Fq z x) = fun z => Fq z y := funext fun z => propext ⟨fun g σ hσ => (g σ hσ).trans (hf σ hσ), fun g σ hσ => (g σ hσ).trans (hf σ hσ).symm⟩
    rw [hc, hc, e1, e2]
  have h2 : ∀ x v, c x = .inl v → Vq x v := fun x v he => by
    rw [hc] at he
    unfold pick at he
    split at he
    · rename_i hv
      have := hv.choose_spec
      rw [Sum.inl.inj he] at this
      exact this
    · cases he
  have h3 : ∀ x s, c x = .inr s → Fq s x := fun x s he => by
    rw [hc] at he
    unfold pick at he
    split at he
    · cases he
    · have hx : ∃ y, Fq y x := ⟨x, fun _ _ => rfl⟩
      have := Classical.epsilon_spec hx
      rw [Sum.inr.inj he] at this
      exact this
  have h4 : ∀ x y, c x = c y → Fq x y := fun x y he σ hσ => by
    cases hx : c x with
    | inl v => rw [h2 x v hx σ hσ, h2 y v (he ▸ hx) σ hσ]
    | inr s => rw [← h3 x s hx σ hσ, h3 y s (he ▸ hx) σ hσ]
  refine ⟨c, ⟨fun x v hx hk => ?_, fun d hd i k hi hk hl a ha hb => h1 _ _ fun σ hσ => hσ.dep d hd i k hi hk (fun b hb1 hb2 => h4 _ _ (hl b hb1 hb2) σ hσ) a ha hb⟩, fun σ hσ => ⟨σ, fun x hx => ?_⟩⟩
  · have hV : Vq x v := fun σ hσ => hσ.fix x v hx hk
    cases hcx : c x with
    | inl w =>
      have := h2 x w hcx σ0 h0
      rw [hV σ0 h0] at this
      exact this.symm
    | inr s =>
      rw [hc] at hcx
      unfold pick at hcx
      rw [dif_pos ⟨v, hV⟩] at hcx
      cases hcx
  · cases hcx : c x with
    | inl w => exact h2 x w hcx σ hσ
    | inr s => exact (h3 x s hcx σ hσ).symm
/-- Values of recipes. -/
theorem vl_of {x : Rcp} {n : Nat} : ∀ r ∈ (wideT x n).rows, ∀ v ∈ r.vals, ∃ m, v = ofV m := by
  intro r hr v hv
  obtain ⟨i, hi, rfl⟩ := List.mem_map.1 hr
  obtain ⟨j, _, rfl⟩ := List.mem_map.1 hv
  exact ⟨_, rfl⟩
theorem ofV_n (m : Int) : (ofV m).n ≤ 7 ∧ (ofV m).s.size ≤ 2 := by
  unfold ofV
  repeat' split
  all_goals exact ⟨by decide, by decide⟩
theorem CsV.num {c : Cs} (v : CsV c) : TbN (csT c) := by
  intro y hy
  have hn : 0 < (csT c).attrs.length := by
    rcases Nat.eq_zero_or_pos (csT c).attrs.length with h | h
    · rw [h] at hy; omega
    · exact h
  have hm : y / (csT c).attrs.length < (csT c).rows.length := by rw [Nat.div_lt_iff_lt_mul hn]; exact hy
  unfold vlAt
  rw [rwAt_in hm]
  have hl := v.tv.len _ (List.getElem_mem hm)
  have ha : y % (csT c).attrs.length < (csT c).rows[y / (csT c).attrs.length].vals.length := by rw [hl]; exact Nat.mod_lt _ hn
  rw [vAt_in ha]
  obtain ⟨k, hk⟩ := vl_of _ (List.getElem_mem hm) _ (List.getElem_mem ha)
  rw [hk]
  have := (ofV_n k).1
  omega
theorem out_size {t : Tb} {fds : List Fd} {l : List Cr} {c : Nat → Dm} (h : GenS (probT t fds l) c) (hs : ∀ y, y < t.rows.length * t.attrs.length → (vlAt t y).s.size ≤ maxLen) {x : Nat} (hx : x < t.rows.length * t.attrs.length) : (outV (unkT t) c x).s.size ≤ maxLen := by
  by_cases h1 : isSym (c x)
  · rw [out_inr h1]; exact Nat.zero_le _
  · obtain ⟨v, hv⟩ := not_isSym h1
    rw [out_inl hv]
    obtain ⟨z, hz, hk⟩ := h.val_in hx hv
    rw [(probK_some hk).1]
    exact hs z hz
end Go.Proofs.YteijbpppalhihaaGreat
end

section
/- Z6: the law UpdateFill. Expanded by pp.py. -/
set_option linter.unusedSimpArgs false
set_option maxRecDepth 100000
namespace Go.Proofs.YteijbpppalhihaaGreat
open Go Go.AM
def eqVlB (v w : Vl) : Bool := v.k == w.k && (v.n == w.n && (v.s == w.s))
theorem eqVlB_iff (v w : Vl) : eqVlB v w = true ↔ v = w := by
  unfold eqVlB
  obtain ⟨a, b, c⟩ := v
  obtain ⟨a', b', c'⟩ := w
  simp [and_assoc, ba_beq]
theorem eqVl (H : List B) (k n : Int) (t : ByteArray) (k' n' : Int) (t' : ByteArray) : eqA2 T H 68 (.agg [.int .i64 k, .int .i64 n, .str t]) (.agg [.int .i64 k', .int .i64 n', .str t']) = some (eqVlB ⟨k, n, t⟩ ⟨k', n', t'⟩) := by
  have h1 : ∀ x y : Int, eqD T 9999 2 (.int .i64 x) (.int .i64 y) = some (x == y) := fun x y => by simp [eqD]
  have h2 : ∀ x y : Int, eqD T 9999 3 (.int .i64 x) (.int .i64 y) = some (x == y) := fun x y => by simp [eqD]
  have h3 : ∀ x y : ByteArray, eqD T 9999 9 (.str x) (.str y) = some (x == y) := fun x y => by simp [eqD]
  simp only [eqA2]
  rw [show (10000 : Nat) = 9999 + 1 from rfl, eqD]
  simp only [T_68]
  simp only [if_true, eqFs, cutA, T_2, T_3, T_9, isAggD, List.getElem?_cons_zero, List.getElem?_cons_succ, Bool.false_eq_true, if_false, h1, h2, h3]
  unfold eqVlB
  cases (k == k') <;> cases (n == n') <;> cases (t == t') <;> simp
theorem eqZero : ConP Tryz.prog 25 [zeroT, zeroT] fun r => r = .bool true := by
  have c := equal03 ⟨ByteArray.empty, [], []⟩ ⟨ByteArray.empty, [], []⟩ false false false false (by simp) (by simp) (by simp)
  rw [eqTb_self] at c
  have hle : Le zeroT (encTb false false ⟨ByteArray.empty, [], []⟩) := by
    refine .agg _ _ rfl (fun i a b ha hb => ?_)
    match i with
    | 0 => simp at ha hb; subst ha; subst hb; exact .refl _
    | 1 => simp at ha hb; subst ha; subst hb; exact .nil _ _
    | 2 => simp at ha hb; subst ha; subst hb; exact .nil _ _
    | k + 3 => simp at ha
  refine conP_args c rfl (fun i a b ha hb => ?_)
  match i with
  | 0 => simp at ha hb; subst ha; subst hb; exact hle
  | 1 => simp at ha hb; subst ha; subst hb; exact hle
  | k + 2 => simp at ha
set_option maxHeartbeats 64000000 in
theorem lawFill (c : Cs) (s : Int) (f g : Bool) (h : CsOk c) : ConP Tryz.prog 6 [encCs f g c, .int .u16 s] fun r => r = .bool true := by
  have ca := awake_con
  cases hb : csB c with
  | false =>
    have c1 := of_no c f g h hb
    simp only [encCs, offV] at c1
    refine conP_of_conH (conH_of_W tok Tryz.func6 rfl rfl ?_)
    refine W_x tok mixed ?_
    simp -implicitDefEqProofs -dsimp [Tryz.f6, List.replicate, encCs]
    refine (callP (c1) (by simp)).mono ?_
    rintro r H' ⟨rfl, rfl⟩
    simp -implicitDefEqProofs -dsimp []
    refine (callP (ca) (by simp)).mono ?_
    rintro r H' ⟨rfl, rfl⟩
    simp -implicitDefEqProofs -dsimp []
    refine (callP (ca) (by simp)).mono ?_
    rintro r H' ⟨rfl, rfl⟩
    simp -implicitDefEqProofs -dsimp []
  | true =>
    have v := csV h hb
    have c1 := of_yes c f g h hb
    have m1 : (csT c).rows.length ≤ 1000 := v.tv.rows
    have m2 : (csT c).attrs.length ≤ 1000 := by have := v.tv.attrs; omega
    have sm : (csT c).rows.length * (csT c).attrs.length ≤ 60 := by have := v.small; omega
    have c2 := choose_r (csT c) false false s m1 m2
    have hcl := chooseT_ok v.tv s
    have hsz : ∀ y, y < (csT c).rows.length * (csT c).attrs.length → (vlAt (csT c) y).s.size ≤ maxLen := fun y hy => by
      have hn : 0 < (csT c).attrs.length := by
        rcases Nat.eq_zero_or_pos (csT c).attrs.length with e | e
        · rw [e] at hy; omega
        · exact e
      have hm : y / (csT c).attrs.length < (csT c).rows.length := by rw [Nat.div_lt_iff_lt_mul hn]; exact hy
      unfold vlAt
      rw [rwAt_in hm]
      have hl := v.tv.len _ (List.getElem_mem hm)
      have ha : y % (csT c).attrs.length < (csT c).rows[y / (csT c).attrs.length].vals.length := by rw [hl]; exact Nat.mod_lt _ hn
      rw [vAt_in ha]
      obtain ⟨k, hk⟩ := vl_of _ (List.getElem_mem hm) _ (List.getElem_mem ha)
      rw [hk]
      have := (ofV_n k).2
      exact Nat.le_trans this (by simp [maxLen])
    have hnum := v.num
    have hvl := v.valid
    have hfe := v.ferr
    have hfo := v.fok
    have hfl := v.flen
    have htv := v.tv
    obtain ⟨t, ht⟩ : ∃ t, t = csT c := ⟨_, rfl⟩
    obtain ⟨fds, hfds⟩ : ∃ fds, fds = csF c := ⟨_, rfl⟩
    rw [← ht] at m1 m2 sm c1 c2 hcl hsz hnum hvl hfe htv
    rw [← hfds] at c1 hfe hfo hfl
    obtain ⟨l, hl⟩ : ∃ l, l = chooseT t s := ⟨_, rfl⟩
    rw [← hl] at c2 hcl
    have hchk := chk_ok htv hvl hfe sm hcl
    have k1 := clone_F fds false (by omega)
    have k2 := clone_C l false hcl.len
    have c3 := Fill_u t false false false false fds l htv.ok hnum hfo hcl.len
    have c4 := Fill_r t false false false false fds l htv hnum hfo hcl.len hchk
    have c5 := Apply_u t false false false false fds l htv.ok hnum hfo hcl.len
    unfold FillR at c3 c4
    unfold ApplyR at c5
    rw [if_pos hchk] at c3 c4 c5
    cases hok : okB (probT t fds l) with
    | false =>
      rw [hok, if_neg (by simp)] at c3 c4 c5
      have c6 := eqZero
      simp only [encCs, encTb, LS, LR] at c1
      simp only [encTb, LS, LR, LC, LF, zeroT] at c2 c3 c4 c5 c6 k1 k2
      refine conP_of_conH (conH_of_W tok Tryz.func6 rfl rfl ?_)
      refine W_x tok mixed ?_
      simp -implicitDefEqProofs -dsimp [Tryz.f6, List.replicate, encCs]
      refine (callP (c1) (by simp)).mono ?_
      rintro r H' ⟨rfl, rfl⟩
      simp -implicitDefEqProofs -dsimp []
      refine (callP (ca) (by simp)).mono ?_
      rintro r H' ⟨rfl, rfl⟩
      simp -implicitDefEqProofs -dsimp []
      refine (callP (c2) (by simp)).mono ?_
      rintro r H' ⟨rfl, rfl⟩
      simp -implicitDefEqProofs -dsimp []
      refine lw_of (W_drawT tok mixed [9, 10] [(0, [1]), (1, [1]), (2, [1]), (3, [1]), (4, [1]), (5, [1]), (6, [1]), (7, [1]), (8, [1, 2])] [(.lst 2 false (fds.map encF), []), (.lst 2 false (l.map encCr), []), (.tup [.agg [.str ByteArray.empty, .nilS, .nilS], .int .i64 15], [])] (by kernel_rfl) fun C K hC hK => ?_)
      simp -implicitDefEqProofs []
      refine ⟨by (repeat' apply And.intro) <;> first | exact hC _ _ _ _ (callP k1 (by simp)) | exact hC _ _ _ _ (callP k2 (by simp)) | exact hC _ _ _ _ (callP c3 (by simp)), hK _ _ ?_⟩
      simp -implicitDefEqProofs -dsimp []
      refine (callP (c4) (by simp)).mono ?_
      rintro r H' ⟨rfl, rfl⟩
      simp -implicitDefEqProofs -dsimp []
      refine .inr ⟨stop_of (by kernel_rfl), ?_⟩
      refine cy_of _ (callP (k1) (by simp)) ?_
      simp -implicitDefEqProofs -dsimp []
      refine cy_of _ (callP (k2) (by simp)) ?_
      simp -implicitDefEqProofs -dsimp []
      refine cy_of _ (callP (c5) (by simp)) ?_
      simp -implicitDefEqProofs -dsimp []
      refine (callP (c6) (by simp)).mono ?_
      rintro r H' ⟨rfl, rfl⟩
      simp -implicitDefEqProofs -dsimp []
      refine (callP (c6) (by simp)).mono ?_
      rintro r H' ⟨rfl, rfl⟩
      simp -implicitDefEqProofs -dsimp []
    | true =>
      rw [hok, if_pos rfl] at c3 c4 c5
      obtain ⟨cc, hgen⟩ := genS_ok (okB_iff.1 hok)
      have hfT := filTb_eq hgen
      have hsat := filT_sat hgen hnum htv hfo
      have hrl := filT_rows t cc
      have hll := filT_len t cc
      have honly := fun i a hi ha => filT_only hgen (i := i) (a := a) hi ha
      have hos : ∀ r ∈ (filT t cc).rows, r.vals.length ≤ 31 ∧ ∀ w ∈ r.vals, w.s.size ≤ maxLen := fun r hr => by
        refine ⟨by rw [hll r hr]; have := htv.attrs; omega, fun w hw => ?_⟩
        obtain ⟨i, hi, rfl⟩ := List.mem_map.1 hr
        obtain ⟨a, ha, rfl⟩ := List.mem_map.1 hw
        exact out_size hgen hsz (cell_lt (by simpa using hi) (by simpa using ha))
      have hal : (filT t cc).attrs.length = t.attrs.length := rfl
      rw [hfT] at c3 c4 c5
      obtain ⟨T2, hT2⟩ : ∃ T2, T2 = filT t cc := ⟨_, rfl⟩
      rw [← hT2] at c3 c4 c5 hsat hrl hll honly hos hal
      have c6 := equal03 T2 T2 false false false false (by rw [hal]; omega) (by rw [hrl]; omega) (fun r hr => ⟨by have := (hos r hr).1; omega, (hos r hr).2⟩)
      rw [eqTb_self] at c6
      have c7 := satisfies_r T2 false false false fds (by rw [hrl]; exact m1) hos (by omega)
      rw [satB_iff.2 hsat] at c7
      obtain ⟨n, hne⟩ : ∃ n, n = t.attrs.length := ⟨_, rfl⟩
      obtain ⟨m, hme⟩ : ∃ m, m = t.rows.length := ⟨_, rfl⟩
      have hne' := hne.symm
      have hme' := hme.symm
      have hm := htv.rows
      have hn := htv.attrs
      rw [hme'] at hm hrl
      rw [hne'] at hn
      have hdN := difTo_len t T2 (m * n)
      have hbig : m * n ≤ 1000 * 16 := Nat.mul_le_mul hm hn
      rw [hne', hme'] at c5
      simp only [encCs, encTb, LS, LR, LC, LF] at c1
      simp only [encTb, LS, LR, LC, LF] at c2 c3 c4 c5 c6 c7 k1 k2
      refine conP_of_conH (conH_of_W tok Tryz.func6 rfl rfl ?_)
      refine W_x tok mixed ?_
      simp -implicitDefEqProofs -dsimp [Tryz.f6, List.replicate, encCs]
      refine (callP (c1) (by simp)).mono ?_
      rintro r H' ⟨rfl, rfl⟩
      simp -implicitDefEqProofs -dsimp []
      refine (callP (ca) (by simp)).mono ?_
      rintro r H' ⟨rfl, rfl⟩
      simp -implicitDefEqProofs -dsimp []
      refine (callP (c2) (by simp)).mono ?_
      rintro r H' ⟨rfl, rfl⟩
      simp -implicitDefEqProofs -dsimp []
      refine lw_of (W_drawT tok mixed [9, 10] [(0, [1]), (1, [1]), (2, [1]), (3, [1]), (4, [1]), (5, [1]), (6, [1]), (7, [1]), (8, [1, 2])] [(.lst 2 false (fds.map encF), []), (.lst 2 false (l.map encCr), []), (.tup [.agg [.str T2.name, .lst 1 false (T2.attrs.map V.str), .lst 2 false (T2.rows.map encRw)], .int .i64 0], [])] (by kernel_rfl) fun C K hC hK => ?_)
      simp -implicitDefEqProofs []
      refine ⟨by (repeat' apply And.intro) <;> first | exact hC _ _ _ _ (callP k1 (by simp)) | exact hC _ _ _ _ (callP k2 (by simp)) | exact hC _ _ _ _ (callP c3 (by simp)), hK _ _ ?_⟩
      simp -implicitDefEqProofs -dsimp []
      refine (callP (c4) (by simp)).mono ?_
      rintro r H' ⟨rfl, rfl⟩
      simp -implicitDefEqProofs -dsimp []
      refine .inr ⟨stop_of (by kernel_rfl), ?_⟩
      refine cy_of _ (callP (k1) (by simp)) ?_
      simp -implicitDefEqProofs -dsimp []
      refine cy_of _ (callP (k2) (by simp)) ?_
      simp -implicitDefEqProofs -dsimp []
      refine cy_of _ (callP (c5) (by simp)) ?_
      simp -implicitDefEqProofs -dsimp []
      refine (callP (c6) (by simp)).mono ?_
      rintro r H' ⟨rfl, rfl⟩
      simp -implicitDefEqProofs -dsimp [hme']
      refine lw_of (W_loopV [false, false, false, false, true, false, false, false, false, false, false, false, false, false, false, true, true, true, true, true, true, false, true, false, false, false, false, false, false, false, false, false, false, false, false, false, true, false, false, false, false, false, true, false, false, true, false, false, false, true, false, false, false, false, false, false, false, false, false, false, false, false, false, false, false, false, false, false, false, false, false, false, false, false, false, false, false, false, false, false, false, false, false, false, false, false, false, false, false, false, false, false, false, false, false, true, true, true, true, true, true, true, true, true, true, true, true, true, true, true, true, true, true, true, true, true, true, true, true, true, true, true, true, true, true, true, true, true, true, true] (σ := Nat) (fun i => i ≤ m) (fun i => m - i) (fun i => [(95, .int .i64 i), (15, .int .i64 (difTo t T2 (i * n)).length)]) (fun _ => [B.cells [.int .u8 c.r.a, .int .u8 c.r.gap, .lst 1 f (c.r.rows.map LU), .lst 2 g (c.d.map encD)], B.cells [.str t.name, .lst 1 false (t.attrs.map V.str), .lst 2 false (t.rows.map encRw)], B.cells [.str T2.name, .lst 1 false (T2.attrs.map V.str), .lst 2 false (T2.rows.map encRw)], B.cells [.str T2.name, .lst 1 false (T2.attrs.map V.str), .lst 2 false (T2.rows.map encRw)]]) 0 (by omega) (by simp [difTo_zero]) (by simp) (by simp) ?_)
      intro i hi N1 Q1 hN1 hQ1
      by_cases hib : i < m
      · have hit : i < t.rows.length := by omega
        have hiu : i < T2.rows.length := by omega
        obtain ⟨rw, hrw⟩ : ∃ rw, rw = t.rows[i] := ⟨_, rfl⟩
        obtain ⟨ru, hru⟩ : ∃ ru, ru = T2.rows[i] := ⟨_, rfl⟩
        have hrw' := hrw.symm
        have hru' := hru.symm
        have hvl2 : rw.vals.length = n := by rw [hrw, hne]; exact htv.len _ (List.getElem_mem hit)
        have hvu : ru.vals.length = n := by rw [hru, hne]; exact hll _ (List.getElem_mem hiu)
        refine W_x tok mixed ?_
        simp -implicitDefEqProofs -dsimp [hib, hme', hit, hrw', encRw, LV, hvl2]
        refine lw_of (W_loopV [false, false, false, false, true, false, false, false, false, false, false, false, false, false, false, true, false, false, true, true, true, false, true, false, false, false, false, false, false, false, false, false, false, false, false, false, true, false, false, false, false, false, true, false, false, true, false, false, false, true, false, false, false, false, false, false, false, false, false, false, false, false, false, false, false, false, false, false, false, false, false, false, false, false, false, false, false, false, false, false, false, false, false, false, false, false, false, false, false, false, false, false, false, false, false, false, false, false, false, false, false, false, false, true, true, true, true, true, true, true, true, true, true, true, true, true, true, true, true, true, true, true, true, true, true, true, true, true, true] (σ := Nat × Nat) (fun p => p.1 ≤ n ∧ p.2 = i * n + p.1) (fun p => n - p.1) (fun p => [(103, .int .i64 p.1), (15, .int .i64 (difTo t T2 p.2).length)]) (fun _ => [B.cells [.int .u8 c.r.a, .int .u8 c.r.gap, .lst 1 f (c.r.rows.map LU), .lst 2 g (c.d.map encD)], B.cells [.str t.name, .lst 1 false (t.attrs.map V.str), .lst 2 false (t.rows.map encRw)], B.cells [.str T2.name, .lst 1 false (T2.attrs.map V.str), .lst 2 false (T2.rows.map encRw)], B.cells [.str T2.name, .lst 1 false (T2.attrs.map V.str), .lst 2 false (T2.rows.map encRw)], B.cells [.int .i64 rw.id, .lst 3 false (rw.vals.map encV)]]) (0, i * n) ⟨by simp, by simp⟩ (by simp) (by simp) (by simp) ?_)
        rintro ⟨a, x⟩ ⟨ha2, hx⟩ N2 Q2 hN2 hQ2
        simp only at ha2 hx hN2
        by_cases hab : a < n
        · have hlt := cell_lt hib hab
          have hva : a < rw.vals.length := by omega
          have hva2 : a < ru.vals.length := by omega
          obtain ⟨p, hpe⟩ : ∃ p, p = rw.vals[a] := ⟨_, rfl⟩
          obtain ⟨w, hwe⟩ : ∃ w, w = ru.vals[a] := ⟨_, rfl⟩
          have hpe' := hpe.symm
          have hwe' := hwe.symm
          have hvt : vlAt t x = p := by
            rw [hx, hne, vlAt_at t (hne ▸ hab), rwAt_in hit, ← hrw, vAt_in hva, hpe]
          have hvu2 : vlAt T2 x = w := by
            rw [hx, hne, ← hal, vlAt_at T2 (by omega), rwAt_in hiu, ← hru, vAt_in hva2, hwe]
          have hat : crAt t x = ⟨rw.id, (a : Int)⟩ := by
            rw [hx, hne, crAt_at t (hne ▸ hab), rwAt_in hit, ← hrw]
          have hdl := difTo_len t T2 x
          cases hq : eqVlB w p with
          | true =>
            have hwp := (eqVlB_iff w p).1 hq
            have hst := difTo_same (t := t) (u := T2) (x := x) (by rw [hvt, hvu2, hwp]; exact cmpV_self p)
            refine W_x tok mixed ?_
            simp -implicitDefEqProofs -dsimp [hab, hvl2, hva, hpe', encV, hiu, hru', encRw, LV, hva2, hwe', eqVl, hq]
            refine .inr ⟨stop_of (by kernel_rfl), ?_⟩
            simp -implicitDefEqProofs -dsimp [wrapS a (by omega)]
            refine hN2 (a + 1, x + 1) _ _ ⟨by simp only; omega, by simp only; omega⟩ (by simp only; omega) (by simp [hst]) ⟨[B.cells [.int .i64 p.k, .int .i64 p.n, .str p.s]], by simp⟩ (by simp) (by simp)
          | false =>
            have hwp : w ≠ p := fun e => by rw [(eqVlB_iff w p).2 e] at hq; cases hq
            have hst := difTo_new (t := t) (u := T2) (x := x) (by
              rw [hvt, hvu2]
              exact fun e => hwp ((cmpV_zero p w).1 e).symm)
            have hmem : (⟨rw.id, (a : Int)⟩ : Cr) ∈ l := by
              have := honly i a hit (by rw [← hne]; exact hab) (by rw [← hne, ← hx, hvt, hvu2]; exact hwp)
              rw [← hne, ← hx, hat] at this
              exact this
            have ck := containsC l ⟨rw.id, (a : Int)⟩ false hcl.len
            rw [hasC_iff.2 hmem] at ck
            simp only [LC, encCr] at ck
            have hsl : (difTo t T2 (x + 1)).length = (difTo t T2 x).length + 1 := by rw [hst]; simp
            refine W_x tok mixed ?_
            simp -implicitDefEqProofs -dsimp [hab, hvl2, hva, hpe', encV, hiu, hru', encRw, LV, hva2, hwe', eqVl, hq]
            refine .inr ⟨stop_of (by kernel_rfl), ?_⟩
            simp -implicitDefEqProofs -dsimp [wrapS (difTo t T2 x).length (by omega)]
            refine (callP (ck) (by simp)).mono ?_
            rintro r H' ⟨rfl, rfl⟩
            simp -implicitDefEqProofs -dsimp [wrapS a (by omega)]
            refine hN2 (a + 1, x + 1) _ _ ⟨by simp only; omega, by simp only; omega⟩ (by simp only; omega) (by simp [hsl]) ⟨[B.cells [.int .i64 p.k, .int .i64 p.n, .str p.s]], by simp⟩ (by simp) (by simp)
        · have hxe : (i + 1) * n = x := by rw [Nat.add_mul]; omega
          refine W_x tok mixed ?_
          simp -implicitDefEqProofs -dsimp [hab, hvl2]
          refine hQ2 _ _ _ ?_
          simp -implicitDefEqProofs -dsimp [wrapS i (by omega)]
          refine hN1 (i + 1) _ _ (by omega) (by omega) (by simp [hxe]) ⟨[B.cells [.int .i64 rw.id, .lst 3 false (rw.vals.map encV)]], by simp⟩ (by simp) (by simp)
      · obtain rfl : i = m := by omega
        refine W_x tok mixed ?_
        simp -implicitDefEqProofs -dsimp [hib, hme']
        refine hQ1 _ _ _ ?_
        simp -implicitDefEqProofs -dsimp []
        refine (callP (c7) (by simp)).mono ?_
        rintro r H' ⟨rfl, rfl⟩
        simp -implicitDefEqProofs -dsimp []
end Go.Proofs.YteijbpppalhihaaGreat
end
