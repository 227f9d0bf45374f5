/- JV1: T12, Z7, V12, U7, Mp, ClS, joined by chunk.py. -/
import Derived.Test.YteijbpppalhihaaGreatJC11
set_option linter.unusedVariables false
set_option linter.unusedSimpArgs false
section
/- T12: equal lists of strings, rows, tables. Expanded by pp.py. -/
set_option linter.unusedSimpArgs false
set_option maxRecDepth 100000
namespace Go.Proofs.YteijbpppalhihaaGreat
open Go Go.AM
def eqSt (a b : ByteArray) : Bool := a.toList == b.toList
theorem eqSt_self (a : ByteArray) : eqSt a a = true := by simp [eqSt]
def eqSs (a b : List ByteArray) : Bool := decide (a.length = b.length) && (List.range a.length).all fun i => eqSt (sAt a i) (sAt b i)
theorem eqSs_self (a : List ByteArray) : eqSs a a = true := by simp [eqSs, eqSt_self]
set_option maxHeartbeats 8000000 in
theorem strings03 (a b : List ByteArray) (f g : Bool) (hl : a.length ≤ 1000000) : ConP Tryz.prog 59 [LS f a, LS g b] fun r => r = .bool (eqSs a b) := by
  unfold eqSs
  by_cases h0 : a.length = b.length
  · rw [decide_eq_true h0, Bool.true_and]
    obtain ⟨E, hE⟩ : ∃ E, E = (List.range a.length).all fun i => eqSt (sAt a i) (sAt b i) := ⟨_, rfl⟩
    rw [← hE]
    refine conP_of_conH (conH_of_W tok Tryz.func59 rfl rfl ?_)
    refine W_x tok mixed ?_
    simp -implicitDefEqProofs -dsimp [Tryz.f59, List.replicate, LS, h0]
    refine lw_of (W_loopV [false, false, false, false, true, true, false, false, false, false, false, true, true, true, true, true, true, true, true, true, true, true, true, true, true, true] (σ := Nat) (fun i => i ≤ a.length ∧ (List.range i).all (fun i => eqSt (sAt a i) (sAt b i)) = true) (fun i => a.length - i) (fun i => [(5, .int .i64 i)]) (fun _ => []) 0 ⟨by omega, rfl⟩ (by simp) rfl (by simp) ?_)
    rintro i ⟨hi, hall⟩ N Q hN hQ
    by_cases hb : i < a.length
    · have hb2 : i < b.length := by omega
      have ha1 : sAt a i = a[i] := by simp [sAt, hb]
      have ha2 : sAt b i = b[i] := by simp [sAt, hb2]
      cases hq : (a[i].toList == b[i].toList) with
      | true =>
        refine W_x tok mixed ?_
        simp -implicitDefEqProofs -dsimp [hb, hb2, hq]
        refine .inr ⟨stop_of (by kernel_rfl), ?_⟩
        simp -implicitDefEqProofs -dsimp [wrapS i (by omega)]
        refine hN (i + 1) _ _ ⟨by omega, all_succ hall (by unfold eqSt; rw [ha1, ha2, hq])⟩ (by omega) (by simp) ⟨[], rfl⟩ (by simp) (by simp)
      | false =>
        have hno : (List.range a.length).all (fun i => eqSt (sAt a i) (sAt b i)) = false := by
          cases hh : (List.range a.length).all (fun i => eqSt (sAt a i) (sAt b i))
          · rfl
          · have := List.all_eq_true.1 hh i (by simpa using hb)
            rw [eqSt, ha1, ha2, hq] at this; cases this
        rw [hno] at hE
        refine W_x tok mixed ?_
        simp -implicitDefEqProofs -dsimp [hb, hb2, hq]
        refine .inr ⟨stop_of (by kernel_rfl), ?_⟩
        refine hQ _ _ _ ?_
        simp -implicitDefEqProofs -dsimp []
        exact hE
    · obtain rfl : i = a.length := by omega
      rw [hall] at hE
      refine W_x tok mixed ?_
      simp -implicitDefEqProofs -dsimp [hb]
      refine hQ _ _ _ ?_
      simp -implicitDefEqProofs -dsimp []
      exact hE
  · rw [decide_eq_false h0, Bool.false_and]
    refine conP_of_conH (conH_of_W tok Tryz.func59 rfl rfl ?_)
    refine W_x tok mixed ?_
    simp -implicitDefEqProofs -dsimp [Tryz.f59, List.replicate, LS, show ¬ ((a.length : Int) = b.length) by omega]
def eqRw (a b : Rw) : Bool := decide (a.id = b.id) && cmpVs a.vals b.vals == 0
theorem cmpI_self (x : Int) : cmpI x x = 0 := by unfold cmpI; simp
theorem cmpB_self : ∀ a : List UInt8, Lib.compareBytes a a = 0
  | [] => by simp [Lib.compareBytes]
  | x :: xs => by
    rw [Lib.compareBytes, if_neg (UInt8.lt_irrefl _), if_neg (UInt8.lt_irrefl _)]
    exact cmpB_self xs
theorem cmpV_self (v : Vl) : cmpV v v = 0 := by
  unfold cmpV
  rw [if_pos (cmpI_self _), if_pos (cmpI_self _)]
  exact cmpB_self _
set_option maxHeartbeats 8000000 in
theorem equalRows03 (a b : Rw) (hl : a.vals.length ≤ 1000000) (hs : ∀ v ∈ a.vals, v.s.size ≤ maxLen) : ConP Tryz.prog 60 [encRw a, encRw b] fun r => r = .bool (eqRw a b) := by
  have c1 := same01 a.vals b.vals false false hl hs
  simp only [LV] at c1
  unfold eqRw
  by_cases h : a.id = b.id
  · rw [decide_eq_true h, Bool.true_and]
    refine conP_of_conH (conH_of_W tok Tryz.func60 rfl rfl ?_)
    refine W_x tok mixed ?_
    simp -implicitDefEqProofs -dsimp [Tryz.f60, List.replicate, encRw, LV, h]
    refine (callP (c1) (by simp)).mono ?_
    rintro r H' ⟨rfl, rfl⟩
    simp -implicitDefEqProofs -dsimp []
  · rw [decide_eq_false h, Bool.false_and]
    refine conP_of_conH (conH_of_W tok Tryz.func60 rfl rfl ?_)
    refine W_x tok mixed ?_
    simp -implicitDefEqProofs -dsimp [Tryz.f60, List.replicate, encRw, LV, h]
def rwG (rs : List Rw) (i : Nat) : Rw := rs.getD i ⟨0, []⟩
def eqRs (a b : List Rw) : Bool := (List.range a.length).all fun i => eqRw (rwG a i) (rwG b i)
def eqTb (t u : Tb) : Bool := eqSt t.name u.name && (eqSs t.attrs u.attrs && (decide (t.rows.length = u.rows.length) && eqRs t.rows u.rows))
set_option maxHeartbeats 16000000 in
theorem equal03 (t u : Tb) (f g f2 g2 : Bool) (ha : t.attrs.length ≤ 1000000) (hr : t.rows.length ≤ 1000000) (hl : ∀ r ∈ t.rows, r.vals.length ≤ 1000000 ∧ ∀ v ∈ r.vals, v.s.size ≤ maxLen) : ConP Tryz.prog 25 [encTb f g t, encTb f2 g2 u] fun r => r = .bool (eqTb t u) := by
  have c1 := strings03 t.attrs u.attrs f f2 ha
  simp only [LS] at c1
  unfold eqTb
  cases h1 : (t.name.toList == u.name.toList) with
  | false =>
    rw [eqSt, h1, Bool.false_and]
    refine conP_of_conH (conH_of_W tok Tryz.func25 rfl rfl ?_)
    refine W_x tok mixed ?_
    simp -implicitDefEqProofs -dsimp [Tryz.f25, List.replicate, encTb, LS, LR, h1]
  | true =>
    rw [eqSt, h1, Bool.true_and]
    cases h2 : eqSs t.attrs u.attrs with
    | false =>
      rw [h2] at c1
      rw [Bool.false_and]
      refine conP_of_conH (conH_of_W tok Tryz.func25 rfl rfl ?_)
      refine W_x tok mixed ?_
      simp -implicitDefEqProofs -dsimp [Tryz.f25, List.replicate, encTb, LS, LR, h1]
      refine (callP (c1) (by simp)).mono ?_
      rintro r H' ⟨rfl, rfl⟩
      simp -implicitDefEqProofs -dsimp []
    | true =>
      rw [h2] at c1
      rw [Bool.true_and]
      by_cases h3 : t.rows.length = u.rows.length
      · rw [decide_eq_true h3, Bool.true_and]
        unfold eqRs
        obtain ⟨E, hE⟩ : ∃ E, E = (List.range t.rows.length).all fun i => eqRw (rwG t.rows i) (rwG u.rows i) := ⟨_, rfl⟩
        rw [← hE]
        refine conP_of_conH (conH_of_W tok Tryz.func25 rfl rfl ?_)
        refine W_x tok mixed ?_
        simp -implicitDefEqProofs -dsimp [Tryz.f25, List.replicate, encTb, LS, LR, h1]
        refine (callP (c1) (by simp)).mono ?_
        rintro r H' ⟨rfl, rfl⟩
        simp -implicitDefEqProofs -dsimp [h3]
        refine lw_of (W_loopV [false, false, false, false, true, true, false, false, false, false, false, false, false, false, false, false, false, false, false, false, false, false, false, false, false, false, false, false, true, true, true, true, true, true, true, true, true, true, true, true, true, true, true, true, true, true, true] (σ := Nat) (fun i => i ≤ t.rows.length ∧ (List.range i).all (fun i => eqRw (rwG t.rows i) (rwG u.rows i)) = true) (fun i => t.rows.length - i) (fun i => [(5, .int .i64 i)]) (fun _ => [B.cells [.str t.name, .lst 1 f (t.attrs.map V.str), .lst 2 g (t.rows.map encRw)], B.cells [.str u.name, .lst 1 f2 (u.attrs.map V.str), .lst 2 g2 (u.rows.map encRw)]]) 0 ⟨by omega, rfl⟩ (by simp) (by simp) (by simp) ?_)
        rintro i ⟨hi, hall⟩ N Q hN hQ
        by_cases hb : i < t.rows.length
        · have hb2 : i < u.rows.length := by omega
          have ha1 : rwG t.rows i = t.rows[i] := by simp [rwG, hb]
          have ha2 : rwG u.rows i = u.rows[i] := by simp [rwG, hb2]
          obtain ⟨hx1, hx2⟩ := hl t.rows[i] (List.getElem_mem hb)
          have c2 := equalRows03 t.rows[i] u.rows[i] hx1 hx2
          obtain ⟨x, hx⟩ : ∃ x, x = t.rows[i] := ⟨_, rfl⟩
          obtain ⟨y, hy⟩ : ∃ y, y = u.rows[i] := ⟨_, rfl⟩
          rw [← hx] at ha1 c2
          rw [← hy] at ha2 c2
          have hx' := hx.symm
          have hy' := hy.symm
          simp only [encRw, LV] at c2
          cases hq : eqRw x y with
          | true =>
            rw [hq] at c2
            refine W_x tok mixed ?_
            simp -implicitDefEqProofs -dsimp [hb, hb2, hx', hy', encRw, LV]
            refine .inr ⟨stop_of (by kernel_rfl), ?_⟩
            refine cy_of _ (callP (c2) (by simp)) ?_
            simp -implicitDefEqProofs -dsimp [wrapS i (by omega)]
            refine hN (i + 1) _ _ ⟨by omega, all_succ hall (by rw [ha1, ha2, hq])⟩ (by omega) (by simp) ⟨[], by simp⟩ (by simp) (by simp)
          | false =>
            rw [hq] at c2
            have hno : (List.range t.rows.length).all (fun i => eqRw (rwG t.rows i) (rwG u.rows i)) = false := by
              cases hh : (List.range t.rows.length).all (fun i => eqRw (rwG t.rows i) (rwG u.rows i))
              · rfl
              · have := List.all_eq_true.1 hh i (by simpa using hb)
                rw [ha1, ha2, hq] at this; cases this
            rw [hno] at hE
            refine W_x tok mixed ?_
            simp -implicitDefEqProofs -dsimp [hb, hb2, hx', hy', encRw, LV]
            refine .inr ⟨stop_of (by kernel_rfl), ?_⟩
            refine cy_of _ (callP (c2) (by simp)) ?_
            simp -implicitDefEqProofs -dsimp []
            refine hQ _ _ _ ?_
            simp -implicitDefEqProofs -dsimp []
            exact hE
        · obtain rfl : i = t.rows.length := by omega
          rw [hall] at hE
          refine W_x tok mixed ?_
          simp -implicitDefEqProofs -dsimp [hb]
          refine hQ _ _ _ ?_
          simp -implicitDefEqProofs -dsimp []
          exact hE
      · rw [decide_eq_false h3, Bool.false_and]
        refine conP_of_conH (conH_of_W tok Tryz.func25 rfl rfl ?_)
        refine W_x tok mixed ?_
        simp -implicitDefEqProofs -dsimp [Tryz.f25, List.replicate, encTb, LS, LR, h1]
        refine (callP (c1) (by simp)).mono ?_
        rintro r H' ⟨rfl, rfl⟩
        simp -implicitDefEqProofs -dsimp [show ¬ ((t.rows.length : Int) = u.rows.length) by omega]
theorem cmpVs_self : ∀ vs : List Vl, cmpVs vs vs = 0
  | [] => rfl
  | v :: vs => by
    simp only [cmpVs, cmpV_self]
    simpa using cmpVs_self vs
theorem eqRs_self (a : List Rw) : eqRs a a = true := by simp [eqRs, eqRw, cmpVs_self]
theorem eqTb_self (t : Tb) : eqTb t t = true := by simp [eqTb, eqSt_self, eqSs_self, eqRs_self]
@[simp ↓ high] theorem rbB_rws (n e z : Nat) (l : List Rw) (fz : Bool) : rbB n (.buf e z (l.map encRw) fz) ↔ True := by
  refine ⟨fun _ => trivial, fun _ x hx c hc => ?_⟩
  obtain ⟨r, _, rfl⟩ := List.mem_map.1 hx
  simp [encRw, LV, V.cells] at hc
  rcases hc with rfl | rfl <;> simp
@[simp ↓ high] theorem rbB_vls (n e z : Nat) (l : List Vl) (fz : Bool) : rbB n (.buf e z (l.map encV) fz) ↔ True := by
  refine ⟨fun _ => trivial, fun _ x hx c hc => ?_⟩
  obtain ⟨r, _, rfl⟩ := List.mem_map.1 hx
  simp [encV, V.cells] at hc
  rcases hc with rfl | rfl | rfl <;> simp
end Go.Proofs.YteijbpppalhihaaGreat
end

section
/- Z7: the reference's copies of rows and tables with lists of their own; Find, Change. Expanded by pp.py. -/
set_option linter.unusedSimpArgs false
set_option maxRecDepth 100000
namespace Go.Proofs.YteijbpppalhihaaGreat
open Go Go.AM
theorem getX0 (H X : List B) : (H ++ X)[H.length]? = X[0]? := by rw [List.getElem?_append_right (Nat.le_refl _)]; simp
theorem getX1 (H X : List B) : (H ++ X)[H.length + 1]? = X[1]? := by rw [List.getElem?_append_right (by omega)]; congr 1; omega
theorem getX2 (H X : List B) : (H ++ X)[H.length + 2]? = X[2]? := by rw [List.getElem?_append_right (by omega)]; congr 1; omega
theorem setX0 (H X : List B) (Y : B) : (H ++ X).set H.length Y = H ++ X.set 0 Y := by rw [List.set_append_right _ _ (Nat.le_refl _)]; simp
theorem setX1 (H X : List B) (Y : B) : (H ++ X).set (H.length + 1) Y = H ++ X.set 1 Y := by rw [List.set_append_right _ _ (by omega)]; congr 2; omega
theorem getX0' (H X : List B) (A : B) : ∀ h, (H ++ A :: X)[H.length]'h = A := get_of (by rw [getX0]; rfl)
theorem getX1' (H X : List B) (A A1 : B) : ∀ h, (H ++ A :: A1 :: X)[H.length + 1]'h = A1 := get_of (by rw [getX1]; rfl)
theorem getX2' (H X : List B) (A A1 A2 : B) : ∀ h, (H ++ A :: A1 :: A2 :: X)[H.length + 2]'h = A2 := get_of (by rw [getX2]; rfl)
/-- What cp leaves on the heap. -/
def cpT (L : Nat) (r : Rw) : List B := [B.cells [.int .i64 r.id, .lst 3 false (r.vals.map encV)], B.cells [.int .i64 r.id, .buf (L + 2) 0 r.vals.length r.vals.length], B.buf 68 3 (r.vals.map encV) false]
set_option maxHeartbeats 16000000 in
theorem cp_h (H : List B) (r : Rw) (h0 : r.vals ≠ []) (hl : r.vals.length ≤ 1000000) : ConH Tryz.prog 96 [encRw r] H fun x H' => x = .agg [.int .i64 r.id, .buf (H.length + 2) 0 r.vals.length r.vals.length] ∧ H' = H ++ cpT H.length r := by
  refine conH_of_W tok Tryz.func96 rfl rfl ?_
  refine W_x tok mixed ?_
  simp -implicitDefEqProofs -dsimp [Tryz.f96, List.replicate, encRw, LV]
  refine lw_of (W_drawT tok mixed [5, 7] [(0, [1]), (1, [1])] [] (by kernel_rfl) fun C K hC hK => ?_)
  simp -implicitDefEqProofs [h0, cap32l r.vals.length (by omega), getX0', getX1', getX2', setX0, setX1]
  refine hK _ _ ?_
  simp -implicitDefEqProofs -dsimp [getX0', getX1', getX2', setX0, setX1]
  simp [cpT]
/-- A table whose rows are lists of their own. -/
structure TbH (H : List B) (k : Nat) (bk : Nat → Nat) (rs : List Rw) : Prop where
  hk : H[k]? = some (.buf 66 2 ((List.range rs.length).map fun j => .agg [.int .i64 (rwG rs j).id, .buf (bk j) 0 (rwG rs j).vals.length (rwG rs j).vals.length]) false)
  row : ∀ j, j < rs.length → H[bk j]? = some (.buf 68 3 ((rwG rs j).vals.map encV) false)
  inj : ∀ i j, i < rs.length → j < rs.length → bk i = bk j → i = j
  ne : ∀ j, j < rs.length → bk j ≠ k
theorem rwG_in {rs : List Rw} {i : Nat} (h : i < rs.length) : rwG rs i = rs[i] := by simp [rwG, h]
theorem TbH.exp {H : List B} {k : Nat} {bk : Nat → Nat} {rs : List Rw} (h : TbH H k bk rs) : ExpX H (.buf k 0 rs.length rs.length) (LR false rs) := by
  have := ExpX.bufx (H := H) k _ _ _ (rs.map encRw) false h.hk (by simp) (fun i c d hc hd => by
    by_cases hi : i < rs.length
    · simp [hi] at hc hd
      subst hc
      subst hd
      rw [← rwG_in hi]
      have hr := h.row i hi
      exact ExpX.agg2 (.pure _ (by simp)) (expx_buf hr (by simp) (by simp))
    · rw [List.getElem?_eq_none (by simp; omega)] at hc; cases hc)
  simp only [List.length_map, List.length_range] at this
  exact this
def setV (r : Rw) (a : Nat) (v : Vl) : Rw := ⟨r.id, r.vals.set a v⟩
theorem TbH.set {H : List B} {k : Nat} {bk : Nat → Nat} {rs : List Rw} (h : TbH H k bk rs) {i a : Nat} (hi : i < rs.length) (v : Vl) : TbH (H.set (bk i) (.buf 68 3 (((rwG rs i).vals.map encV).set a (encV v)) false)) k bk (rs.set i (setV (rwG rs i) a v)) := by
  have hg : ∀ j, j < rs.length → rwG (rs.set i (setV (rwG rs i) a v)) j = if j = i then setV (rwG rs i) a v else rwG rs j := fun j hj => by
    rw [rwG_in (by rw [List.length_set]; exact hj), List.getElem_set]
    by_cases hji : j = i
    · subst hji; simp
    · rw [if_neg (Ne.symm hji), if_neg hji, rwG_in hj]
  refine ⟨?_, fun j hj => ?_, fun i' j hi' hj => h.inj i' j (by simpa using hi') (by simpa using hj), fun j hj => h.ne j (by simpa using hj)⟩
  · rw [List.getElem?_set_ne (h.ne i hi), h.hk, List.length_set]
    congr 2
    refine List.map_congr_left fun j hj => ?_
    have hj := List.mem_range.1 hj
    rw [hg j hj]
    split
    · rename_i e; subst e; simp [setV]
    · rfl
  · rw [List.length_set] at hj
    rw [hg j hj]
    split
    · rename_i e
      subst e
      rw [List.getElem?_set_self (getElem?_lt (h.row j hj))]
      simp [setV, List.map_set]
    · rename_i e
      rw [List.getElem?_set_ne (fun e2 => e (h.inj i j hi hj e2).symm), h.row j hj]
theorem TbH.app {H : List B} {k : Nat} {bk : Nat → Nat} {rs : List Rw} (h : TbH H k bk rs) (G : List B) : TbH (H ++ G) k bk rs :=
  ⟨by rw [List.getElem?_append_left (getElem?_lt h.hk)]; exact h.hk, fun j hj => by rw [List.getElem?_append_left (getElem?_lt (h.row j hj))]; exact h.row j hj, h.inj, h.ne⟩
theorem TbH.other {H : List B} {k : Nat} {bk : Nat → Nat} {rs : List Rw} (h : TbH H k bk rs) {x : Nat} (hx : x ≠ k) (hx2 : ∀ j, j < rs.length → x ≠ bk j) (Y : B) : TbH (H.set x Y) k bk rs :=
  ⟨by rw [List.getElem?_set_ne hx]; exact h.hk, fun j hj => by rw [List.getElem?_set_ne (hx2 j hj)]; exact h.row j hj, h.inj, h.ne⟩
/-- Row buffers behind the first 8 blocks. -/
def elE (rs : List Rw) (i : Nat) : List V := (List.range i).map fun j => .agg [.int .i64 (rwG rs j).id, .buf (10 + 3 * j) 0 (rwG rs j).vals.length (rwG rs j).vals.length]
def cpG (rs : List Rw) (i : Nat) : List B := (List.range i).flatMap fun j => cpT (8 + 3 * j) (rwG rs j)
theorem cpG_len (rs : List Rw) (i : Nat) : (cpG rs i).length = 3 * i := by
  induction i with
  | zero => rfl
  | succ i ih => simp only [cpG, List.range_succ, List.flatMap_append, List.length_append] at ih ⊢; rw [ih]; simp [cpT]; omega
theorem cpG_succ (rs : List Rw) (i : Nat) : cpG rs (i + 1) = cpG rs i ++ cpT (8 + 3 * i) (rwG rs i) := by simp [cpG, List.range_succ]
theorem elE_succ (rs : List Rw) (i : Nat) : elE rs (i + 1) = elE rs i ++ [.agg [.int .i64 (rwG rs i).id, .buf (10 + 3 * i) 0 (rwG rs i).vals.length (rwG rs i).vals.length]] := by simp [elE, List.range_succ]
theorem elE_len (rs : List Rw) (i : Nat) : (elE rs i).length = i := by simp [elE]
theorem cpG_at (rs : List Rw) {i j : Nat} (h : j < i) : (cpG rs i)[3 * j + 2]? = some (.buf 68 3 ((rwG rs j).vals.map encV) false) := by
  induction i with
  | zero => omega
  | succ i ih =>
    rw [cpG_succ]
    rcases Nat.lt_or_ge j i with e | e
    · rw [List.getElem?_append_left (by rw [cpG_len]; omega)]
      exact ih e
    · have : j = i := by omega
      subst this
      rw [List.getElem?_append_right (by rw [cpG_len]; omega), cpG_len, show 3 * j + 2 - 3 * j = 2 by omega]
      rfl
theorem cpG_rb (rs : List Rw) (i : Nat) : ∀ bl ∈ cpG rs i, rbB (8 + 3 * i) bl := by
  induction i with
  | zero => intro bl h; cases h
  | succ i ih =>
    intro bl h
    rw [cpG_succ] at h
    rcases List.mem_append.1 h with h | h
    · exact rbB_mono (by omega) (ih bl h)
    · unfold cpT at h
      simp only [List.mem_cons, List.not_mem_nil, or_false] at h
      rcases h with rfl | rfl | rfl
      · simp
      · simp; omega
      · simp
theorem elE_rb (rs : List Rw) (e i : Nat) (fz : Bool) : rbB (8 + 3 * i) (.buf e 2 (elE rs i) fz) := by
  intro x hx c hc
  obtain ⟨j, hj, rfl⟩ := List.mem_map.1 hx
  have hj := List.mem_range.1 hj
  simp [V.cells] at hc
  rcases hc with rfl | rfl
  · trivial
  · show 10 + 3 * j < 8 + 3 * i
    omega
theorem wh_rb {t : Tb} {rs : List Rw} {f g : Bool} {c0 c1 c2 c3 : B} (hb0 : ∀ k, rbB k c0) (hb1 : ∀ k, rbB k c1) (hb2 : ∀ k, rbB k c2) (hb3 : ∀ k, rbB k c3) (i : Nat) : ∀ bl ∈ c0 :: c1 :: c2 :: c3 :: B.cells [.str t.name, .lst 1 f (t.attrs.map V.str), .lst 2 g (t.rows.map encRw)] :: B.cells [.str ByteArray.empty, .nilS, .nilS] :: B.cells [.str t.name, .lst 1 false (t.attrs.map V.str), .buf 7 0 i i] :: B.buf 66 2 (elE rs i) false :: cpG rs i, rbB (c0 :: c1 :: c2 :: c3 :: B.cells [.str t.name, .lst 1 f (t.attrs.map V.str), .lst 2 g (t.rows.map encRw)] :: B.cells [.str ByteArray.empty, .nilS, .nilS] :: B.cells [.str t.name, .lst 1 false (t.attrs.map V.str), .buf 7 0 i i] :: B.buf 66 2 (elE rs i) false :: cpG rs i).length bl := by
  have hlen : (c0 :: c1 :: c2 :: c3 :: B.cells [.str t.name, .lst 1 f (t.attrs.map V.str), .lst 2 g (t.rows.map encRw)] :: B.cells [.str ByteArray.empty, .nilS, .nilS] :: B.cells [.str t.name, .lst 1 false (t.attrs.map V.str), .buf 7 0 i i] :: B.buf 66 2 (elE rs i) false :: cpG rs i).length = 8 + 3 * i := by simp [cpG_len]; omega
  rw [hlen]
  intro bl h
  rcases List.mem_cons.1 h with rfl | h
  · exact hb0 _
  rcases List.mem_cons.1 h with rfl | h
  · exact hb1 _
  rcases List.mem_cons.1 h with rfl | h
  · exact hb2 _
  rcases List.mem_cons.1 h with rfl | h
  · exact hb3 _
  rcases List.mem_cons.1 h with rfl | h
  · simp
  rcases List.mem_cons.1 h with rfl | h
  · simp
  rcases List.mem_cons.1 h with rfl | h
  · simp; omega
  rcases List.mem_cons.1 h with rfl | h
  · exact elE_rb rs _ i _
  · exact cpG_rb rs i bl h
set_option maxHeartbeats 32000000 in
theorem with_h (t : Tb) (rs : List Rw) (f g h : Bool) (ha : t.attrs.length ≤ 1000000) (hne : t.attrs ≠ []) (hr : rs.length ≤ 1000000) (hv : ∀ r ∈ rs, r.vals.length ≤ 1000000 ∧ r.vals ≠ []) (c0 c1 c2 c3 : B) (hb0 : ∀ k, rbB k c0) (hb1 : ∀ k, rbB k c1) (hb2 : ∀ k, rbB k c2) (hb3 : ∀ k, rbB k c3) :
    ConH Tryz.prog 57 [encTb f g t, LR h rs] [c0, c1, c2, c3] fun x H' => x = .agg [.str t.name, .lst 1 false (t.attrs.map V.str), .buf 7 0 rs.length rs.length] ∧ ∃ A A1 A2, H' = c0 :: c1 :: c2 :: c3 :: A :: A1 :: A2 :: B.buf 66 2 (elE rs rs.length) false :: cpG rs rs.length ∧ (∀ k, 7 < k → rbB k A ∧ rbB k A1 ∧ rbB k A2) := by
  refine conH_of_W (tok_flag tok (fun t => t == 29)) Tryz.func57 rfl rfl ?_
  refine W_x (tok_flag tok (fun t => t == 29)) mixed ?_
  simp -implicitDefEqProofs -dsimp [Tryz.f57, List.replicate, encTb, LS, LR, flagT]
  refine lw_of (W_drawP (tok_flag tok (fun t => t == 29)) mixed [7, 8] [(1, [1]), (2, [1]), (4, [1]), (5, [1])] [] (by kernel_rfl) fun C K hC hK => ?_)
  simp -implicitDefEqProofs [hne, cap16l t.attrs.length (by omega), flagT]
  refine hK _ _ ?_
  simp -implicitDefEqProofs -dsimp [flagT]
  refine lw_of (W_lf 6 _ [.str t.name, .lst 1 false (t.attrs.map V.str), .nilS] rfl (lfL_refl _) (by simp [LfL, lfB]) (W_ownC 66 2 [] 6 [2] rfl (lfL_own _ _) (by simp) (W_loopV [false, false, false, false, false, false, true, false, false, true, false, true, true, true, true, true, true, true, true, true, true, true, true, true, true, true, true, true, true, true] (σ := Nat) (fun i => i ≤ rs.length) (fun i => rs.length - i) (fun i => [(6, .int .i64 i)]) (fun i => c0 :: c1 :: c2 :: c3 :: B.cells [.str t.name, .lst 1 f (t.attrs.map V.str), .lst 2 g (t.rows.map encRw)] :: B.cells [.str ByteArray.empty, .nilS, .nilS] :: B.cells [.str t.name, .lst 1 false (t.attrs.map V.str), .buf 7 0 i i] :: B.buf 66 2 (elE rs i) false :: cpG rs i) 0 (by omega) (by simp [hne]) (by simp [hne, elE, cpG]) (by simp) ?_)))
  intro i hi N Q hN hQ
  have hll := elE_len rs i
  have hgl := cpG_len rs i
  by_cases hb : i < rs.length
  · obtain ⟨h1, h2⟩ := hv rs[i] (List.getElem_mem hb)
    have hgi := rwG_in hb
    obtain ⟨r, hre⟩ : ∃ r, r = rs[i] := ⟨_, rfl⟩
    rw [← hre] at h1 h2 hgi
    have hre' := hre.symm
    have hc := cp_h (c0 :: c1 :: c2 :: c3 :: B.cells [.str t.name, .lst 1 f (t.attrs.map V.str), .lst 2 g (t.rows.map encRw)] :: B.cells [.str ByteArray.empty, .nilS, .nilS] :: B.cells [.str t.name, .lst 1 false (t.attrs.map V.str), .buf 7 0 i i] :: B.buf 66 2 (elE rs i) false :: cpG rs i) r h2 h1
    have hes := elE_succ rs i
    have hgs := cpG_succ rs i
    rw [hgi] at hes hgs
    have hlen : (c0 :: c1 :: c2 :: c3 :: B.cells [.str t.name, .lst 1 f (t.attrs.map V.str), .lst 2 g (t.rows.map encRw)] :: B.cells [.str ByteArray.empty, .nilS, .nilS] :: B.cells [.str t.name, .lst 1 false (t.attrs.map V.str), .buf 7 0 i i] :: B.buf 66 2 (elE rs i) false :: cpG rs i).length = 8 + 3 * i := by simp [hgl]; omega
    rw [hlen, show 8 + 3 * i + 2 = 10 + 3 * i by omega] at hc
    simp only [encRw, LV, List.cons_append, ← hgs] at hc
    have hrb := wh_rb (t := t) (rs := rs) (f := f) (g := g) hb0 hb1 hb2 hb3 (i + 1)
    refine W_x (tok_flag tok (fun t => t == 29)) mixed ?_
    simp -implicitDefEqProofs -dsimp [hb, flagT]
    refine lw_of (W_drawT (tok_flag tok (fun t => t == 29)) mixed [6, 8, 10] [(1, [1])] [(.agg [.int .i64 r.id, .buf (10 + 3 * i) 0 r.vals.length r.vals.length], c0 :: c1 :: c2 :: c3 :: B.cells [.str t.name, .lst 1 f (t.attrs.map V.str), .lst 2 g (t.rows.map encRw)] :: B.cells [.str ByteArray.empty, .nilS, .nilS] :: B.cells [.str t.name, .lst 1 false (t.attrs.map V.str), .buf 7 0 i i] :: B.buf 66 2 (elE rs i) false :: cpG rs (i + 1))] (by kernel_rfl) fun C K hC hK => ?_)
    simp -implicitDefEqProofs [hb, hre', encRw, LV, hll, cap32 i (by omega), flagT]
    refine ⟨hC _ _ _ _ hc, hK _ _ ?_⟩
    simp -implicitDefEqProofs -dsimp [wrapS i (by omega), flagT]
    refine hN (i + 1) _ _ (by omega) (by omega) (by simp) ⟨[], by simp [hes]⟩ (by simp) hrb
  · obtain rfl : i = rs.length := by omega
    refine W_x (tok_flag tok (fun t => t == 29)) mixed ?_
    simp -implicitDefEqProofs -dsimp [hb, flagT]
    refine hQ _ _ _ ?_
    simp -implicitDefEqProofs -dsimp [flagT]
    exact ⟨_, _, _, ⟨rfl, rfl, rfl⟩, fun k hk => ⟨by simp, by simp; exact hk, by simp; exact hk⟩⟩
theorem elE_eq (rs : List Rw) : elE rs rs.length = (List.range rs.length).map fun j => .agg [.int .i64 (rwG rs j).id, .buf (10 + 3 * j) 0 (rwG rs j).vals.length (rwG rs j).vals.length] := rfl
theorem wh_tbh (rs : List Rw) (c0 c1 c2 c3 c4 c5 c6 : B) : TbH (c0 :: c1 :: c2 :: c3 :: c4 :: c5 :: c6 :: B.buf 66 2 (elE rs rs.length) false :: cpG rs rs.length) 7 (fun j => 10 + 3 * j) rs := by
  refine ⟨rfl, fun j hj => ?_, fun i j _ _ h => by have h : 10 + 3 * i = 10 + 3 * j := h; omega, fun j _ => by show 10 + 3 * j ≠ 7; omega⟩
  have := cpG_at rs hj
  show (c0 :: c1 :: c2 :: c3 :: c4 :: c5 :: c6 :: B.buf 66 2 (elE rs rs.length) false :: cpG rs rs.length)[10 + 3 * j]? = _
  rw [show 10 + 3 * j = (3 * j + 2) + 8 by omega]
  simp only [List.getElem?_cons_succ]
  exact this
def fnd (rs : List Rw) (id : Int) (i : Nat) : Nat × Bool := if h : i < rs.length then (if rs[i].id = id then (i, true) else fnd rs id (i + 1)) else (0, false)
termination_by rs.length - i
set_option maxHeartbeats 8000000 in
theorem find03 (t : Tb) (f g : Bool) (id : Int) (hr : t.rows.length ≤ 1000000) : ConP Tryz.prog 92 [encTb f g t, .int .i64 id] fun r => r = .tup [.int .i64 (fnd t.rows id 0).1, .bool (fnd t.rows id 0).2] := by
  obtain ⟨E, hE⟩ : ∃ E, E = fnd t.rows id 0 := ⟨_, rfl⟩
  rw [← hE]
  refine conP_of_conH (conH_of_W tok Tryz.func92 rfl rfl ?_)
  refine W_x tok mixed ?_
  simp -implicitDefEqProofs -dsimp [Tryz.f92, List.replicate, encTb, LS, LR]
  refine lw_of (W_loopV [false, false, false, false, true, true, true, true, true, true, true, true, true, true, true, true, true, true, true, true, true, true, true] (σ := Nat) (fun i => fnd t.rows id i = E) (fun i => t.rows.length - i) (fun i => [(6, .int .i64 i)]) (fun _ => [B.cells [.str t.name, .lst 1 f (t.attrs.map V.str), .lst 2 g (t.rows.map encRw)]]) 0 hE.symm (by simp) (by simp) (by simp) ?_)
  intro i hx N Q hN hQ
  by_cases hb : i < t.rows.length
  · rw [fnd, dif_pos hb] at hx
    by_cases hq : t.rows[i].id = id
    · rw [if_pos hq] at hx
      subst hx
      refine W_x tok mixed ?_
      simp -implicitDefEqProofs -dsimp [hb, encRw, LV, hq]
      refine hQ _ _ _ ?_
      simp -implicitDefEqProofs -dsimp []
    · rw [if_neg hq] at hx
      refine W_x tok mixed ?_
      simp -implicitDefEqProofs -dsimp [hb, encRw, LV, hq]
      simp -implicitDefEqProofs -dsimp [wrapS i (by omega)]
      refine hN (i + 1) _ _ hx (by omega) (by simp) ⟨[], by simp⟩ (by simp) (by simp)
  · rw [fnd, dif_neg hb] at hx
    subst hx
    refine W_x tok mixed ?_
    simp -implicitDefEqProofs -dsimp [hb]
    refine hQ _ _ _ ?_
    simp -implicitDefEqProofs -dsimp []
theorem fnd_at {rs : List Rw} {i : Nat} (h : i < rs.length) (hp : rs.Pairwise fun a b => a.id < b.id) (d : Nat) : ∀ j, j + d = i → fnd rs rs[i].id j = (i, true) := by
  induction d with
  | zero =>
    intro j e
    obtain rfl : j = i := by omega
    rw [fnd, dif_pos h, if_pos rfl]
  | succ d ih =>
    intro j e
    rw [fnd, dif_pos (by omega), if_neg]
    · exact ih (j + 1) (by omega)
    · have := List.pairwise_iff_getElem.1 hp j i (by omega) h (by omega)
      omega
end Go.Proofs.YteijbpppalhihaaGreat
end

section
/- V12: begin at a heap of two blocks. Expanded by pp.py; printed by genV8.py. -/
set_option linter.unusedSimpArgs false
set_option maxRecDepth 100000
namespace Go.Proofs.YteijbpppalhihaaGreat
open Go Go.AM
set_option maxHeartbeats 32000000 in
theorem begin2 (t : Tb) (ff gg cf : Bool) (fds : List Fd) (cells : List Cr) (hv : TbV t) (hs : sortedC cells) (hcl : cells.length ≤ 1000000) (b0 b1 : B) (hb : ∀ bl ∈ [b0, b1], rbB 1 bl) :
    ConH Tryz.prog 51 [encTb ff gg t, LC cf cells] [b0, b1] fun r' H' => r' = .ptr 3 0 ∧ H' = begH [b0, b1] ff gg t (probT t fds cells).K := by
  have hm := hv.rows
  have hn := hv.attrs
  obtain ⟨K, hKe⟩ : ∃ K, K = (probT t fds cells).K := ⟨_, rfl⟩
  rw [← hKe]
  obtain ⟨n, hne⟩ : ∃ n, n = t.attrs.length := ⟨_, rfl⟩
  obtain ⟨m, hme⟩ : ∃ m, m = t.rows.length := ⟨_, rfl⟩
  have hne' := hne.symm
  have hme' := hme.symm
  rw [hne'] at hn
  rw [hme'] at hm
  have hb0 : ∀ k, 1 ≤ k → rbB k b0 := fun k hk => rbB_mono hk (hb _ (by simp))
  have hb1 : ∀ k, 1 ≤ k → rbB k b1 := fun k hk => rbB_mono hk (hb _ (by simp))
  refine conH_of_W tok Tryz.func51 rfl rfl ?_
  refine W_x tok mixed ?_
  simp -implicitDefEqProofs -dsimp [Tryz.f51, List.replicate, encTb, LS, LR, hne', hme']
  refine lw_of (W_ownC 3 1 [] 3 [1] rfl (lfL_own _ _) (by simp) (W_ownC 113 1 [] 3 [2] rfl (lfL_own _ _) (by simp) (W_loopV [false, false, false, false, false, false, false, true, true, true, true, false, false, false, false, false, false, false, false, true, true, true, true, true, true, true, true, true, true, true, true, true, true, true, true, true, true, true, true, true, true, true, true, true, true, true, true, true, true, true, true, true, true, true, true, true, true, true, true, true, true, true, true, true, true, true, true, true, true, true, true, true, true, true, true, true, true] (σ := Nat × Nat) (fun p => p.1 ≤ m ∧ p.2 = p.1 * n) (fun p => m - p.1) (fun p => [(19, .int .i64 p.1)]) (fun p => [b0, b1, B.cells [.str t.name, .lst 1 ff (t.attrs.map V.str), .lst 2 gg (t.rows.map encRw)], B.cells [.int .i64 n, .buf 4 0 p.2 p.2, .buf 5 0 p.2 p.2], B.buf 3 1 (paR p.2) false, B.buf 113 1 (knL K p.2) false]) (0, 0) ⟨by simp, by simp⟩ (by simp) (by simp [paR_zero, knL_zero]) (by simp) ?_)))
  rintro ⟨i, c⟩ ⟨hi, hc⟩ N Q hN hQ
  simp only at hi hc hN
  by_cases hib : i < m
  · have hit : i < t.rows.length := by omega
    obtain ⟨rw, hrw⟩ : ∃ rw, rw = t.rows[i] := ⟨_, rfl⟩
    have hrw' := hrw.symm
    have hvl : rw.vals.length = n := by rw [hrw, hne]; exact hv.len _ (List.getElem_mem hit)
    refine W_x tok mixed ?_
    simp -implicitDefEqProofs -dsimp [hib, hrw', encRw, hit, LV, hne']
    refine lw_of (W_loopV [false, false, false, false, false, false, false, false, true, true, true, false, false, false, false, false, false, false, false, false, false, false, false, false, false, false, true, true, true, true, true, true, true, true, true, true, true, true, true, true, true, true, true, true, true, true, true, true, true, true, true, true, true, true, true, true, true, true, true, true, true, true, true, true, true, true, true, true, true, true, true, true, true, true, true, true] (σ := Nat × Nat) (fun p => p.1 ≤ n ∧ p.2 = i * n + p.1) (fun p => n - p.1) (fun p => [(26, .int .i64 p.1)]) (fun p => [b0, b1, B.cells [.str t.name, .lst 1 ff (t.attrs.map V.str), .lst 2 gg (t.rows.map encRw)], B.cells [.int .i64 n, .buf 4 0 p.2 p.2, .buf 5 0 p.2 p.2], B.buf 3 1 (paR p.2) false, B.buf 113 1 (knL K p.2) false, B.cells [.int .i64 rw.id, .lst 3 false (rw.vals.map encV)]]) (0, c) ⟨by simp, by simp [hc]⟩ (by simp) (by simp) (by simp) ?_)
    rintro ⟨a, c2⟩ ⟨ha, hc2⟩ N2 Q2 hN2 hQ2
    simp only at ha hc2 hN2
    by_cases hab : a < n
    · have hlt := cell_lt hib hab
      have hbig : m * n ≤ 1000 * 16 := Nat.mul_le_mul hm hn
      have hpl := paR_len c2
      have hkl := knL_len K c2
      have hps := paR_succ c2
      have hks := knL_succ K c2
      have hat : crAt t (i * n + a) = ⟨rw.id, (a : Int)⟩ := by
        rw [hne, crAt_at t (hne ▸ hab), rwAt_in hit, ← hrw]
      have hvt : vlAt t (i * n + a) = vAt rw.vals a := by
        rw [hne, vlAt_at t (hne ▸ hab), rwAt_in hit, ← hrw]
      have hbs := bsearchC cells ⟨rw.id, (a : Int)⟩ cf hcl
      simp only [encCr] at hbs
      have hmem := bsF_mem hs ⟨rw.id, (a : Int)⟩
      have hcap := cap8 c2 (by omega)
      cases hq : bsF cells ⟨rw.id, (a : Int)⟩ with
      | true =>
        rw [hq] at hbs
        have hKc : K c2 = none := by rw [hKe, hc2]; exact probK_in (by rw [hat]; exact hmem.1 hq)
        rw [hKc] at hks
        refine W_x tok mixed ?_
        simp -implicitDefEqProofs -dsimp [hab]
        refine lw_of (W_drawT tok mixed [11, 14] [(0, [1])] [] (by kernel_rfl) fun C K hC hK => ?_)
        simp -implicitDefEqProofs [hpl, hcap]
        refine hK _ _ ?_
        simp -implicitDefEqProofs -dsimp []
        refine (callP (hbs) (by simp)).mono ?_
        rintro r H' ⟨rfl, rfl⟩
        simp -implicitDefEqProofs -dsimp [hkl, hcap, wrapS a (by omega), encK]
        refine hN2 (a + 1, c2 + 1) _ _ ⟨by simp only; omega, by simp only; omega⟩ (by simp only; omega) (by simp) ⟨[], by simp [hps, hks, encK]⟩ (by simp [LC]) (by simp [↓hb0, ↓hb1])
      | false =>
        rw [hq] at hbs
        have hKc : K c2 = some (vAt rw.vals a) := by rw [hKe, hc2, ← hvt]; exact probK_out (by rw [hat]; exact fun h => by rw [hmem.2 h] at hq; cases hq)
        rw [hKc] at hks
        have hva : a < rw.vals.length := by omega
        have hvi := vAt_in hva
        rw [hvi] at hks
        refine W_x tok mixed ?_
        simp -implicitDefEqProofs -dsimp [hab]
        refine lw_of (W_drawT tok mixed [11, 14] [(0, [1])] [] (by kernel_rfl) fun C K hC hK => ?_)
        simp -implicitDefEqProofs [hpl, hcap]
        refine hK _ _ ?_
        simp -implicitDefEqProofs -dsimp []
        refine (callP (hbs) (by simp)).mono ?_
        rintro r H' ⟨rfl, rfl⟩
        simp -implicitDefEqProofs -dsimp []
        refine lw_of (W_drawT tok mixed [10, 13] [(0, [1])] [] (by kernel_rfl) fun C K hC hK => ?_)
        simp -implicitDefEqProofs [hkl, hcap, hva, encV, encK]
        refine hK _ _ ?_
        simp -implicitDefEqProofs -dsimp [wrapS a (by omega)]
        refine hN2 (a + 1, c2 + 1) _ _ ⟨by simp only; omega, by simp only; omega⟩ (by simp only; omega) (by simp) ⟨[], by simp [hps, hks, encK]⟩ (by simp [LC]) (by simp [↓hb0, ↓hb1])
    · have hae : a = n := by omega
      subst hae
      refine W_x tok mixed ?_
      simp -implicitDefEqProofs -dsimp [hab]
      refine hQ2 _ _ _ ?_
      simp -implicitDefEqProofs -dsimp [wrapS i (by omega)]
      refine hN (i + 1, c2) _ _ ⟨by simp only; omega, by simp only; rw [hc2, Nat.add_mul]; omega⟩ (by simp only; omega) (by simp) ⟨_, rfl⟩ (by simp [LC]) (by simp [↓hb0, ↓hb1])
  · have hie : i = m := by omega
    subst hie
    refine W_x tok mixed ?_
    simp -implicitDefEqProofs -dsimp [hib]
    refine hQ _ _ _ ?_
    simp -implicitDefEqProofs -dsimp []
    simp [begH, LS, LR, ← hme, ← hne, hc]
end Go.Proofs.YteijbpppalhihaaGreat
end

section
/- U7: the filled table, whatever the search was. -/
set_option linter.unusedSimpArgs false
namespace Go.Proofs.YteijbpppalhihaaGreat
open Go Go.AM
/-- A solution of which all others are instances. -/
structure GenS (q : Prob) (c : Nat → Dm) : Prop where
  sol : Sol q c
  gen : ∀ σ, Sol q σ → ∃ τ : Nat → Dm, ∀ x, x < q.m * q.n → σ x = app τ (c x)
theorem GenS.eq_iff {q : Prob} {c : Nat → Dm} (h : GenS q c) {x y : Nat} (hx : x < q.m * q.n) (hy : y < q.m * q.n) : c x = c y ↔ ∀ σ, Sol q σ → σ x = σ y :=
  ⟨fun he σ hs => by
    obtain ⟨τ, ht⟩ := h.gen σ hs
    rw [ht x hx, ht y hy, he], fun hf => hf c h.sol⟩
theorem GenS.val_iff {q : Prob} {c : Nat → Dm} (h : GenS q c) {x : Nat} {v : Vl} (hx : x < q.m * q.n) : c x = .inl v ↔ ∀ σ, Sol q σ → σ x = .inl v :=
  ⟨fun he σ hs => by
    obtain ⟨τ, ht⟩ := h.gen σ hs
    rw [ht x hx, he]; rfl, fun hf => hf c h.sol⟩
theorem GenS.out {q : Prob} {c c' : Nat → Dm} (h : GenS q c) (g : GenS q c') (u : Int → Bool) {x : Nat} (hx : x < q.m * q.n) : outV u c x = outV u c' x :=
  out_eq (N := q.m * q.n) (fun _ _ hx hy => (h.eq_iff hx hy).trans (g.eq_iff hx hy).symm) (fun _ _ hx => (h.val_iff hx).trans (g.val_iff hx).symm) u hx
theorem Frt.gen {q : Prob} {P : List Nat} {r h : Nat → Nat} (f : Frt q P r h) (hc : Closed q r) : GenS q (star q r) := by
  refine ⟨f.sol hc, fun σ hσ => ⟨σ, fun x hx => ?_⟩⟩
  unfold star
  rw [f.sem σ hσ x hx]
  cases hk : q.K (r x) with
  | some v => exact hσ.fix _ v (f.lt x hx) hk
  | none => rfl
theorem Ent.gen {q : Prob} {e : Nat → Dm} (h : Ent q e) (hc : ClosedE q e) : GenS q e := ⟨h.sol hc, h.sem⟩
open Classical in
noncomputable def genC (q : Prob) : Nat → Dm := if h : ∃ c, GenS q c then h.choose else fun _ => .inr 0
theorem genC_ok {q : Prob} {c : Nat → Dm} (h : GenS q c) : GenS q (genC q) := by
  have hex : ∃ c, GenS q c := ⟨c, h⟩
  unfold genC
  rw [dif_pos hex]
  exact hex.choose_spec
/-- The numbers of the unknown values of a table. -/
def unkT (t : Tb) (k : Int) : Bool := (List.range (t.rows.length * t.attrs.length)).any fun y => decide ((vlAt t y).k = 3) && decide ((vlAt t y).n = k)
noncomputable def filRow (t : Tb) (c : Nat → Dm) (i : Nat) : Rw := ⟨(rwAt t i).id, (List.range t.attrs.length).map fun a => outV (unkT t) c (i * t.attrs.length + a)⟩
noncomputable def filT (t : Tb) (c : Nat → Dm) : Tb := ⟨t.name, t.attrs, (List.range t.rows.length).map (filRow t c)⟩
theorem filT_congr {t : Tb} {fds : List Fd} {l : List Cr} {c c' : Nat → Dm} (h : GenS (probT t fds l) c) (g : GenS (probT t fds l) c') : filT t c = filT t c' := by
  unfold filT
  congr 1
  refine List.map_congr_left fun i hi => ?_
  unfold filRow
  congr 1
  refine List.map_congr_left fun a ha => ?_
  exact h.out g _ (cell_lt (m := (probT t fds l).m) (n := (probT t fds l).n) (List.mem_range.1 hi) (List.mem_range.1 ha))
/-- The filled table. -/
noncomputable def filTb (t : Tb) (fds : List Fd) (l : List Cr) : Tb := filT t (genC (probT t fds l))
theorem filTb_eq {t : Tb} {fds : List Fd} {l : List Cr} {c : Nat → Dm} (h : GenS (probT t fds l) c) : filTb t fds l = filT t c := filT_congr (genC_ok h) h
/- New numbers. -/
def Bnd (u : Int → Bool) (b : Int) : Prop := ∀ k, u k = true → k ≤ b
theorem nxt_exists {u : Int → Bool} {b : Int} (hu : Bnd u b) (n : Int) : ∀ (d : Nat) (k : Int), n < k → (∀ j, n < j → j < k → u j = true) → b + 1 - k ≤ d → ∃ m, IsNxt u n m ∧ m ≤ max k (b + 1)
  | 0, k, h1, h2, h3 => by
    refine ⟨k, ⟨h1, ?_, h2⟩, by omega⟩
    cases hk : u k
    · rfl
    · have := hu k hk; omega
  | d + 1, k, h1, h2, h3 => by
    cases hk : u k with
    | false => exact ⟨k, ⟨h1, hk, h2⟩, by omega⟩
    | true =>
      have hb := hu k hk
      obtain ⟨m, hm, hl⟩ := nxt_exists hu n d (k + 1) (by omega) (fun j hj1 hj2 => by
        rcases Int.lt_or_le j k with h | h
        · exact h2 j hj1 h
        · have : j = k := by omega
          subst this; exact hk) (by omega)
      exact ⟨m, hm, by omega⟩
theorem nxt_ok {u : Int → Bool} {b : Int} (hu : Bnd u b) (n : Int) : IsNxt u n (nxt u n) ∧ nxt u n ≤ max (n + 1) (b + 1) := by
  obtain ⟨m, hm, hl⟩ := nxt_exists hu n (b + 1 - (n + 1)).toNat (n + 1) (by omega) (fun j h1 h2 => by omega) (by omega)
  rw [nxt_eq hm]
  exact ⟨hm, hl⟩
theorem numP_le {u : Int → Bool} {b : Int} (hu : Bnd u b) (hb : 0 ≤ b) : ∀ k : Nat, 0 ≤ numP u k ∧ numP u k ≤ b + k
  | 0 => by simp [numP]; exact hb
  | k + 1 => by
    have ih := numP_le hu hb k
    have h := nxt_ok hu (numP u k)
    have := h.1.gt
    rw [numP]
    omega
theorem fp_min (c : Nat → Dm) (x : Nat) : ∀ z, z < fp c x → c z ≠ c x := by
  intro z hz he
  unfold fp at hz
  cases h : (List.range (x + 1)).find? fun y => open Classical in decide (c y = c x) with
  | none =>
    rw [h] at hz
    have := List.find?_eq_none.1 h x (by simp)
    simp at this
  | some y =>
    rw [h] at hz
    simp only [Option.getD_some] at hz
    obtain ⟨_, as', bs, h3, h4⟩ := List.find?_eq_some_iff_append.1 h
    have hzm : z ∈ as' := by
      have hy : y < x + 1 := by have := List.mem_of_find?_eq_some h; simpa using this
      have hall : z ∈ as' ++ y :: bs := by rw [← h3]; simp; omega
      rcases List.mem_append.1 hall with h5 | h5
      · exact h5
      · exfalso
        have hp : (as' ++ y :: bs).Pairwise (· < ·) := by rw [← h3]; exact List.pairwise_lt_range
        rw [List.pairwise_append] at hp
        rcases List.mem_cons.1 h5 with h6 | h6
        · omega
        · have := (List.pairwise_cons.1 hp.2.1).1 z h6; omega
    have := h4 z hzm
    simp [he] at this
theorem fp_uniq {c : Nat → Dm} {x y : Nat} (h : c y = c x) : fp c y = fp c x := by
  have h1 := fp_min c x
  have h2 := fp_min c y
  have h3 := fp_same c x
  have h4 := fp_same c y
  rcases Nat.lt_trichotomy (fp c y) (fp c x) with e | e | e
  · exact absurd (h4.trans h) (h1 _ e)
  · exact e
  · exact absurd (h3.trans h.symm) (h2 _ e)
def isSym (d : Dm) : Prop := ∃ s, d = .inr s
theorem isSym_inl {d : Dm} {v : Vl} (h : d = .inl v) : ¬ isSym d := by rintro ⟨s, hs⟩; rw [h] at hs; cases hs
theorem not_isSym {d : Dm} (h : ¬ isSym d) : ∃ v, d = .inl v := by
  cases d with
  | inl v => exact ⟨v, rfl⟩
  | inr s => exact absurd ⟨s, rfl⟩ h
theorem rank_new {c : Nat → Dm} {x : Nat} (h1 : isSym (c x)) (h2 : fp c x = x) : rankC c (x + 1) = rankC c x + 1 := by
  unfold rankC
  rw [List.range_succ, List.filter_append, List.length_append]
  congr 1
  rw [List.filter_cons, if_pos (by simpa [isSym] using And.intro h1 h2)]
  rfl
theorem rank_old {c : Nat → Dm} {x : Nat} (h : ¬ (isSym (c x) ∧ fp c x = x)) : rankC c (x + 1) = rankC c x := by
  unfold rankC
  rw [List.range_succ, List.filter_append, List.length_append]
  rw [show List.filter _ [x] = [] by rw [List.filter_cons, if_neg (by simpa [isSym] using h)]; rfl]
  rfl
theorem rank_le (c : Nat → Dm) (x : Nat) : rankC c x ≤ x := by
  unfold rankC
  exact Nat.le_trans (List.length_filter_le _ _) (by simp)
/-- The number of a cell's class. -/
noncomputable def cls (u : Int → Bool) (c : Nat → Dm) (x : Nat) : Int := numP u (rankC c (fp c x) + 1)
theorem out_inl {u : Int → Bool} {c : Nat → Dm} {x : Nat} {v : Vl} (h : c x = .inl v) : outV u c x = v := by unfold outV; rw [h]
theorem out_inr {u : Int → Bool} {c : Nat → Dm} {x : Nat} (h : isSym (c x)) : outV u c x = ⟨3, cls u c x, ByteArray.empty⟩ := by
  obtain ⟨s, hs⟩ := h
  unfold outV; rw [hs]; rfl
theorem cls_new {u : Int → Bool} {c : Nat → Dm} {x : Nat} (h : fp c x = x) : cls u c x = nxt u (numP u (rankC c x)) := by
  unfold cls; rw [h]; rfl
theorem cls_uniq {u : Int → Bool} {c : Nat → Dm} {x y : Nat} (h : c y = c x) : cls u c y = cls u c x := by
  unfold cls; rw [fp_uniq h]
open Classical in
/-- The roots of the unknown classes that stand before x. -/
noncomputable def nmL (c : Nat → Dm) (r : Nat → Nat) (x : Nat) : List Nat := ((List.range x).filter fun y => decide (isSym (c y) ∧ fp c y = y)).map r
theorem nmL_zero (c : Nat → Dm) (r : Nat → Nat) : nmL c r 0 = [] := rfl
theorem nmL_new {c : Nat → Dm} {r : Nat → Nat} {x : Nat} (h1 : isSym (c x)) (h2 : fp c x = x) : nmL c r (x + 1) = nmL c r x ++ [r x] := by
  unfold nmL
  rw [List.range_succ, List.filter_append, List.map_append]
  congr 1
  rw [List.filter_cons, if_pos (by simpa using And.intro h1 h2)]
  rfl
theorem nmL_old {c : Nat → Dm} {r : Nat → Nat} {x : Nat} (h : ¬ (isSym (c x) ∧ fp c x = x)) : nmL c r (x + 1) = nmL c r x := by
  unfold nmL
  rw [List.range_succ, List.filter_append, List.map_append]
  rw [show List.filter _ [x] = [] by rw [List.filter_cons, if_neg (by simpa using h)]; rfl]
  simp
theorem nmL_mem {q : Prob} {r : Nat → Nat} {x : Nat} (h : isSym (star q r x)) : r x ∈ nmL (star q r) r x ↔ fp (star q r) x ≠ x := by
  have hr : ∀ y, star q r y = star q r x → r y = r x := fun y he => by
    obtain ⟨s, hs⟩ := h
    have h1 : star q r x = .inr (r x) := by
      unfold star at hs ⊢
      cases hk : q.K (r x) with
      | some v => rw [hk] at hs; cases hs
      | none => rfl
    rw [h1] at he
    unfold star at he
    cases hk : q.K (r y) with
    | some v => rw [hk] at he; cases he
    | none => rw [hk] at he; exact Sum.inr.inj he
  have hle := fp_le (star q r) x
  constructor
  · intro hm
    obtain ⟨y, hy, hyr⟩ := List.mem_map.1 hm
    obtain ⟨h1, h2⟩ := List.mem_filter.1 hy
    have hlt : y < x := by simpa using h1
    obtain ⟨h3, h4⟩ : isSym (star q r y) ∧ fp (star q r) y = y := by simpa using h2
    have : star q r y = star q r x := by unfold star; rw [hyr]
    have := fp_uniq this
    omega
  · intro hne
    have h1 := fp_same (star q r) x
    refine List.mem_map.2 ⟨fp (star q r) x, List.mem_filter.2 ⟨by simp; omega, by simpa using And.intro (show isSym (star q r (fp (star q r) x)) by rw [h1]; exact h) (fp_uniq h1)⟩, hr _ h1⟩
/-- The entries of the reference while the numbers are given. -/
theorem fp_fp (c : Nat → Dm) (x : Nat) : fp c (fp c x) = fp c x := fp_uniq (fp_same c x)
end Go.Proofs.YteijbpppalhihaaGreat
end

section
/- Mp: maps with numbers as keys, whose values are a function of the key. Expanded by pp.py. -/
set_option linter.unusedSimpArgs false
namespace Go.Proofs.YteijbpppalhihaaGreat
open Go Go.AM
def mF (enc : Int → V) (us : List Int) : List (V × V) := us.map fun x => (V.int .i64 x, enc x)
theorem mF_nil (enc : Int → V) : mF enc [] = [] := rfl
theorem mF_snoc (enc : Int → V) (us : List Int) (x : Int) : mF enc (us ++ [x]) = mF enc us ++ [(V.int .i64 x, enc x)] := by simp [mF]
theorem findF_cons (enc : Int → V) (x u : Int) (us : List Int) (i : Nat) : findA (.int .i64 x) (mF enc (u :: us)) i = if (x == u) = true then some (i, enc u) else findA (.int .i64 x) (mF enc us) (i + 1) := rfl
theorem findF_no {enc : Int → V} {x : Int} : ∀ {us : List Int} {i : Nat}, memB us x = false → findA (.int .i64 x) (mF enc us) i = none
  | [], _, _ => rfl
  | u :: us, i, h => by
    rw [memB_cons, Bool.or_eq_false_iff] at h
    rw [findF_cons, h.1, if_neg (by simp)]
    exact findF_no h.2
theorem findF_yes {enc : Int → V} {x : Int} : ∀ {us : List Int} {i : Nat}, memB us x = true → ∃ j, findA (.int .i64 x) (mF enc us) i = some (i + j, enc x) ∧ us[j]? = some x
  | [], _, h => by simp [memB] at h
  | u :: us, i, h => by
    rw [findF_cons]
    cases hq : x == u
    · rw [memB_cons, hq, Bool.false_or] at h
      obtain ⟨j, h1, h2⟩ := findF_yes (enc := enc) (i := i + 1) h
      exact ⟨j + 1, by rw [if_neg (by simp)]; rw [show i + (j + 1) = i + 1 + j by omega]; exact h1, by simpa using h2⟩
    · exact ⟨0, by simp [beq_iff_eq.1 hq], by simp [beq_iff_eq.1 hq]⟩
theorem set_mF {enc : Int → V} {us : List Int} {x : Int} {j : Nat} (h : us[j]? = some x) : (mF enc us).set j (V.int .i64 x, enc x) = mF enc us := by
  unfold mF
  apply List.ext_getElem?
  intro k
  by_cases hk : j = k
  · subst hk
    have hl := getElem?_lt h
    rw [List.getElem?_set_self (by simpa using hl), List.getElem?_map, h]; rfl
  · rw [List.getElem?_set_ne hk]
theorem rbB_mF {enc : Int → V} (he : ∀ n x, rb n (enc x)) (n : Nat) (kk : KK) (us : List Int) : rbB n (.map kk (mF enc us)) ↔ True := by
  refine ⟨fun _ => trivial, fun _ p hp => ?_⟩
  obtain ⟨x, _, rfl⟩ := List.mem_map.1 hp
  exact ⟨trivial, he n x⟩
def addK (us : List Int) (k : Int) : List Int := if memB us k = true then us else us ++ [k]
theorem addK_yes {us : List Int} {k : Int} (h : memB us k = true) : addK us k = us := by unfold addK; rw [if_pos h]
theorem addK_no {us : List Int} {k : Int} (h : memB us k = false) : addK us k = us ++ [k] := by unfold addK; rw [if_neg (by rw [h]; simp)]
theorem addK_mem {us : List Int} {k x : Int} : x ∈ addK us k ↔ x ∈ us ∨ x = k := by
  cases h : memB us k with
  | true =>
    rw [addK_yes h]
    exact ⟨.inl, fun g => g.elim id fun e => by rw [e]; exact memB_iff.1 h⟩
  | false => rw [addK_no h]; simp
theorem wcall_of {P : Program} {f : FuncId} {args : List V} {H : List B} {K K' : V → List B → Prop} (h : ConH P f args H K) (hk : ∀ r H', K r H' → K' r H') : WCall P (.fn f []) args H K' := by
  simp only [WCall, List.append_nil]
  exact h.mono hk
end Go.Proofs.YteijbpppalhihaaGreat
end

section
/- ClS: slices.Clone of lists of strings. Printed by genCl.py, expanded by pp.py. -/
set_option linter.unusedSimpArgs false
set_option maxRecDepth 100000
namespace Go.Proofs.YteijbpppalhihaaGreat
open Go Go.AM Go.RowKit
theorem infoD_S : (Tryz.prog.info? 9).map (fun i => (i.zero, i.size, i.bytes)) = some (some (.string ⟨#[]⟩), 1, 16) := by kernel_rfl
set_option maxHeartbeats 400000 in
theorem cloneE_S (A : Option Addr) (cap : Nat) (w : World) :
    Calls Tryz.prog 53 #[.slice A 0 cap] w fun e w' => ∃ v, e = .returned v ∧ w'.ownsRow w.heap.size 9 1 v 0 [] ∧ Below w.heap.size w w' := by
  have hnil := fun W A n c => Lib.run_eql_slice_nil (P := Tryz.prog) W 29 9 A n c 0 0 Tryz.underlying29
  cases A with
  | none =>
    go_enter Tryz.func53, Tryz.ntmps53
    go_wp2
    go_ret
    exact ⟨_, rfl, World.ownsRow_nil _ _ _ _, Below.refl _ _⟩
  | some ad =>
    obtain ⟨i0, hi, hz0, hz1, hz2⟩ := info_parts infoD_S
    have hown : (w.alloc (.cells #[] 9)).ownsRow w.heap.size 9 1 (.slice (some ⟨w.heap.size, 0, none⟩) 0 0) 0 [] := World.ownsRow_lit w #[] 0 (Nat.le_refl _) (by simp [maxLen]) (by simp)
    have hnews : ∀ j u, ([] : List Value)[j]? = some u → (w.alloc (.cells #[] 9)).cell? (ad.add j) = some u := by
      intro j u hu
      simp at hu
    have hone : ∀ u ∈ ([] : List Value), u.oneCell' = true := by intro u hu; cases hu
    have h63 : 0 + 0 ≤ maxLen := by simp [maxLen]
    have hby : (0 + 0) * 16 ≤ 140737488355328 := by omega
    have hlen : ([] : List Value).length = 0 * 1 := by simp
    have Hi := Lib.hid (show Tryz.prog.info? 9 = some i0 ∧ i0.zero = some _ ∧ i0.size = 1 ∧ i0.bytes = 16 from ⟨hi, hz0, hz1, hz2⟩)
    have Hw := Lib.hid (And.intro hown (And.intro hnews (And.intro hone (And.intro h63 (And.intro hby hlen)))))
    clear hnews hone hown hi hz0 hz1 hz2 h63 hby hlen
    go_enter Tryz.func53, Tryz.ntmps53
    go_wp2_with (at_builtin; refine wpList_append_own _ rfl _ _ 29 rfl w.heap.size 9 i0 _ 1 16 Tryz.underlying29 Hi.out.1 Hi.out.2.1 Hi.out.2.2.1 Hi.out.2.2.2 rfl (by omega) (.slice (some ⟨w.heap.size, 0, none⟩) 0 0) 0 [] rfl Hw.out.1 ad 0 cap [] rfl Hw.out.2.2.2.2.2 Hw.out.2.1 Hw.out.2.2.1 Hw.out.2.2.2.1 Hw.out.2.2.2.2.1 (by simp) ?_; intro v1 w1 ho hg hn; have Ho := Lib.hid ho; have Hg := Lib.hid hg; have Hn := Lib.hid hn; clear ho hg hn)
    go_ret
    exact ⟨v1, rfl, by have := Ho.out; simpa using this, ((Below.refl _ _).alloc (Nat.le_refl _) _).grown Hg.out (by simp) (by simp [Value.ownBlock])⟩
theorem cloneN_S : ∀ (f : Bool), ConP Tryz.prog 53 [.lst 1 f []] fun r => r = .lst 1 false [] := fun f => by
  have hO : ConO Tryz.prog 53 [.lst 1 f []] fun e z ys => e = 9 ∧ z = 1 ∧ ys = [] := conO_row0 ⟨Tryz.f53, Tryz.func53, rfl, rfl⟩ (fun F w vals hsz hrel => by
    obtain ⟨u0, rfl⟩ : ∃ u0, vals = #[u0] := by
      obtain ⟨l⟩ := vals
      match l, hsz with
      | [a], _ => exact ⟨a, rfl⟩
    have r0 := hrel 0 _ u0 rfl rfl
    cases r0
    refine (cloneE_S _ _ _).mono fun e' w' ⟨v, he, hown, hb⟩ => ⟨v, he, hb, ?_⟩
    obtain ⟨_, ⟨hv, _⟩ | ⟨g, c, cur, hv, hg, hc, hn, hm, hs, _⟩⟩ := hown
    · exact .inl hv
    · exact .inr ⟨g, c, cur, hv, hg, hc, hm, hs⟩)
  refine ⟨hO.1, fun F w vals hZ hF hsz hrel => ((conP_of_conO hO).2 F w vals hZ hF hsz hrel).mono fun e w' ⟨u, r, h1, h2, h3, h4, e', z, ys, h5, h6, h7, h8⟩ => ?_⟩
  subst h6; subst h7; subst h8
  exact ⟨u, r, h1, h2, h3, h4, h5⟩
set_option maxHeartbeats 4000000 in
theorem clone_S (l : List ByteArray) (f : Bool) (hl : l.length ≤ 1000000) : ConP Tryz.prog 53 [LS f l] fun r => r = LS false l := by
  cases l with
  | nil => exact cloneN_S f
  | cons x xs =>
    have hl' : xs.length ≤ 1000000 := by simp only [List.length_cons] at hl; omega
    refine conP_of_conH (conH_of_W tok Tryz.func53 rfl rfl ?_)
    refine W_x tok mixed ?_
    simp -implicitDefEqProofs -dsimp [Tryz.f53, List.replicate, LS, eqA2, cap16 xs.length (by omega), List.map]
    exact exp_buf rfl (by simp) (by simp)
end Go.Proofs.YteijbpppalhihaaGreat
end
