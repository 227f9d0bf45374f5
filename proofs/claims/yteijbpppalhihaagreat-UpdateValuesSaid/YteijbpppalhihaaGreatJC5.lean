/- JC5: V10, V11, X1, X2, X3, X4, Op, DrK, joined by chunk.py. -/
import Derived.Test.YteijbpppalhihaaGreatJC4
import Derived.Test.YteijbpppalhihaaGreatAMf
set_option linter.unusedVariables false
set_option linter.unusedSimpArgs false
section
/- V10: the program's errors: closure.Valid, ordered, Find, check. Expanded by pp.py. -/
set_option linter.unusedSimpArgs false
set_option maxRecDepth 100000
namespace Go.Proofs.YteijbpppalhihaaGreat
open Go Go.AM
theorem or_lt {a b n : Nat} : a ||| b < 2 ^ n ↔ a < 2 ^ n ∧ b < 2 ^ n := by
  constructor
  · intro h
    exact ⟨Nat.lt_of_le_of_lt Nat.left_le_or h, Nat.lt_of_le_of_lt Nat.right_le_or h⟩
  · rintro ⟨h1, h2⟩; exact Nat.or_lt_two_pow h1 h2
theorem shr32 (a n : Nat) (hn : n ≤ 16) : ((a : Int)).fdiv (2 ^ min n IntKind.u32.bits) = ((a / 2 ^ n : Nat) : Int) := by
  have h1 : min n IntKind.u32.bits = n := Nat.min_eq_left (by show n ≤ 32; omega)
  rw [h1, Int.fdiv_eq_ediv_of_nonneg _ (by have : (0 : Int) < 2 ^ n := Int.pow_pos (by omega); omega)]
  simp
theorem fdOk_or (n : Nat) (d : Fd) : fdOk n d = decide ((d.l ||| d.r) / 2 ^ n = 0) := by
  rw [Bool.eq_iff_iff, decide_eq_true_iff, Nat.div_eq_zero_iff_lt (Nat.pow_pos (by omega)), or_lt]
  unfold fdOk
  simp
set_option maxHeartbeats 16000000 in
theorem closureValid (n : Nat) (fds : List Fd) (f : Bool) (hn : n ≤ 16) (hF : FdsOk fds) : ConP Tryz.prog 88 [.int .i64 n, LF f fds] fun r => r = .int .i64 (fdsErr n fds) := by
  obtain ⟨hF1, hF2⟩ := hF
  have hn1 : ¬ (16 : Int) < n := by omega
  have hn0 : ¬ (n : Int) < 0 := by omega
  unfold fdsErr
  by_cases h64 : 64 < fds.length
  · rw [if_pos h64]
    refine conP_of_conH (conH_of_W tok Tryz.func88 rfl rfl ?_)
    refine W_x tok mixed ?_
    simp -implicitDefEqProofs -dsimp [Tryz.f88, List.replicate, LF, hn0, hn1, show (64 : Int) < fds.length by omega]
  · rw [if_neg h64]
    obtain ⟨E, hE⟩ : ∃ E : Int, E = if fds.all (fdOk n) then 0 else 1 := ⟨_, rfl⟩
    rw [← hE]
    refine conP_of_conH (conH_of_W tok Tryz.func88 rfl rfl ?_)
    refine W_x tok mixed ?_
    simp -implicitDefEqProofs -dsimp [Tryz.f88, List.replicate, LF, hn0, hn1, show ¬ (64 : Int) < fds.length by omega]
    refine lw_of (W_loopV [false, false, false, false, true, false, true, false, false, false, false, false, false, false, false, false, false, false, true, true, true, true, true, true, true, true, true, true, true, true, true] (σ := Nat) (fun i => i ≤ fds.length ∧ (if (fds.drop i).all (fdOk n) then (0 : Int) else 1) = E) (fun i => fds.length - i) (fun i => [(18, .int .i64 i)]) (fun _ => []) 0 ⟨by omega, by rw [hE, List.drop_zero]⟩ (by simp) rfl (by simp) ?_)
    rintro i ⟨hi, hx⟩ N Q hN hQ
    by_cases hb : i < fds.length
    · rw [List.drop_eq_getElem_cons hb, List.all_cons, fdOk_or] at hx
      obtain ⟨h1, h2⟩ := hF2 fds[i] (List.getElem_mem hb)
      have ho := or32 fds[i].l fds[i].r h1 h2
      have hs := shr32 (fds[i].l ||| fds[i].r) n hn
      obtain ⟨q, hq⟩ : ∃ q, q = (fds[i].l ||| fds[i].r) / 2 ^ n := ⟨_, rfl⟩
      rw [← hq] at hs hx
      obtain ⟨o, hoe⟩ : ∃ o, o = fds[i].l ||| fds[i].r := ⟨_, rfl⟩
      rw [← hoe] at ho hs
      by_cases h0 : q = 0
      · rw [decide_eq_true h0, Bool.true_and] at hx
        rw [h0] at hs
        refine W_x tok mixed ?_
        simp -implicitDefEqProofs -dsimp [hb, encF, ho, hs, wrapS i (by omega)]
        refine hN (i + 1) _ _ ⟨by omega, hx⟩ (by omega) ?_ ⟨[B.cells [.int .u32 (fds[i].l : Int), .int .u32 (fds[i].r : Int)]], ?_⟩ ?_ ?_ <;> simp [or_imp, forall_and, L1, encI, LF]
      · rw [decide_eq_false h0, Bool.false_and, if_neg (by simp)] at hx
        refine W_x tok mixed ?_
        simp -implicitDefEqProofs -dsimp [hb, encF, ho, hs, show ¬ ((q : Int) = 0) by omega, h0]
        refine hQ _ _ _ ?_
        simp -implicitDefEqProofs -dsimp []
        exact hx
    · rw [List.drop_of_length_le (by omega)] at hx
      refine W_x tok mixed ?_
      simp -implicitDefEqProofs -dsimp [hb]
      refine hQ _ _ _ ?_
      simp -implicitDefEqProofs -dsimp []
      simpa using hx
open Classical in
noncomputable def sortB (l : List Cr) : Bool := decide (sortedC l)
theorem sortB_iff {l : List Cr} : sortB l = true ↔ sortedC l := by unfold sortB; simp
theorem sorted_of_chain {l : List Cr} (h : ∀ j (h : j + 1 < l.length), cLt l[j] l[j + 1]) : sortedC l := by
  unfold sortedC
  rw [List.pairwise_iff_getElem]
  intro i j hi hj hij
  induction j with
  | zero => omega
  | succ j ih =>
    rcases Nat.lt_or_ge i j with h1 | h1
    · exact cLt_trans (ih (by omega) h1) (h j hj)
    · have : i = j := by omega
      subst this; exact h i hj
theorem sortB_no {l : List Cr} {j : Nat} (h : j + 1 < l.length) (hn : ¬ cLt l[j] l[j + 1]) : sortB l = false := by
  cases hb : sortB l
  · rfl
  · exact absurd (sortedC_lt (sortB_iff.1 hb) (by omega) h (by omega)) hn
set_option maxHeartbeats 16000000 in
theorem ordered_u (l : List Cr) (f : Bool) (hl : l.length ≤ 1000000) : ConP Tryz.prog 89 [LC f l] fun r => r = .bool (sortB l) := by
  obtain ⟨E, hE⟩ : ∃ E, E = sortB l := ⟨_, rfl⟩
  rw [← hE]
  refine conP_of_conH (conH_of_W tok Tryz.func89 rfl rfl ?_)
  refine W_x tok mixed ?_
  simp -implicitDefEqProofs -dsimp [Tryz.f89, List.replicate, LC]
  refine lw_of (W_loopV [false, false, true, true, true, true, true, true, true, true, true, true, true, true, true, true, true, true, true, true, true] (σ := Nat) (fun i => 1 ≤ i ∧ ∀ j (h : j + 1 < l.length), j + 1 < i → cLt l[j] l[j + 1]) (fun i => l.length - i) (fun i => [(3, .int .i64 i)]) (fun _ => []) 1 ⟨by omega, fun j _ h => by omega⟩ (by simp) rfl (by simp) ?_)
  rintro i ⟨hi, hx⟩ N Q hN hQ
  by_cases hb : i < l.length
  · obtain ⟨k, hki⟩ : ∃ k, i = k + 1 := ⟨i - 1, by omega⟩
    have hk : k < l.length := by omega
    have hc := compare_c l[k] l[i]
    have hw : IntKind.i64.wrap ((i : Int) - 1) = (k : Int) := by rw [wrapP i (by omega) hi]; omega
    simp only [encCr] at hc
    by_cases hq : cmpC l[k] l[i] < 0
    · have hlt := (cmpC_lt _ _).1 hq
      refine W_x tok mixed ?_
      simp -implicitDefEqProofs -dsimp [hb, hw, hk, encCr]
      refine .inr ⟨stop_of (by kernel_rfl), ?_⟩
      refine cy_of _ (callP (hc) (by simp)) ?_
      simp -implicitDefEqProofs -dsimp [show ¬ 0 ≤ cmpC l[k] l[i] by omega, wrapS i (by omega)]
      refine hN (i + 1) _ _ ⟨by omega, fun j h hj => ?_⟩ (by omega) (by simp) ⟨[], rfl⟩ (by simp) (by simp)
      rcases Nat.lt_or_ge j k with h1 | h1
      · exact hx j h (by omega)
      · have : j = k := by omega
        subst this; subst hki; exact hlt
    · have hno : sortB l = false := by
        subst hki
        exact sortB_no hb (fun h => hq ((cmpC_lt _ _).2 h))
      rw [hno] at hE
      refine W_x tok mixed ?_
      simp -implicitDefEqProofs -dsimp [hb, hw, hk, encCr]
      refine .inr ⟨stop_of (by kernel_rfl), ?_⟩
      refine cy_of _ (callP (hc) (by simp)) ?_
      simp -implicitDefEqProofs -dsimp [show 0 ≤ cmpC l[k] l[i] by omega]
      refine hQ _ _ _ ?_
      simp -implicitDefEqProofs -dsimp []
      exact hE
  · have hyes : sortB l = true := sortB_iff.2 (sorted_of_chain fun j h => hx j h (by omega))
    rw [hyes] at hE
    refine W_x tok mixed ?_
    simp -implicitDefEqProofs -dsimp [hb]
    refine hQ _ _ _ ?_
    simp -implicitDefEqProofs -dsimp []
    exact hE
def ixR (p : Rw → Bool) (rs : List Rw) (i : Nat) : Int := if h : i < rs.length then (if p rs[i] then (i : Int) else ixR p rs (i + 1)) else -1
termination_by rs.length - i
theorem ixR_any (p : Rw → Bool) (rs : List Rw) (i : Nat) : decide (0 ≤ ixR p rs i) = (rs.drop i).any p := by
  fun_induction ixR p rs i with
  | case1 i h h0 => rw [List.drop_eq_getElem_cons h, List.any_cons, h0]; simp
  | case2 i h h0 ih => rw [List.drop_eq_getElem_cons h, List.any_cons, ih]; simp [h0]
  | case3 i h => rw [List.drop_of_length_le (by omega)]; rfl
set_option maxHeartbeats 8000000 in
theorem idxFuncR (H : List B) (fv : V) (p : Rw → Bool) (rs : List Rw) (g : Bool) (hes : rs.length ≤ 1000000) (hH : ∀ bl ∈ H, rbB H.length bl) (hfv : rb H.length fv)
    (hp : ∀ m ∈ rs, WCall Tryz.prog fv [encRw m] H fun r H' => r = .bool (p m) ∧ ∃ G, H' = H ++ G) : ConH Tryz.prog 130 [LR g rs, fv] H fun r H' => r = .int .i64 (ixR p rs 0) ∧ ∃ G, H' = H ++ G := by
  refine conH_of_W tok Tryz.func130 rfl rfl ?_
  refine W_x tok mixed ?_
  simp -implicitDefEqProofs -dsimp [Tryz.f130, List.replicate, LR]
  refine lw_of (W_loopV [false, false, false, false, true, true, false, false, true, true, true, true, true, true, true, true, true, true, true] (σ := Nat) (fun i => ixR p rs i = ixR p rs 0) (fun i => rs.length - i) (fun i => [(8, .int .i64 i)]) (fun _ => H) 0 rfl (by simp) rfl (by simp) ?_)
  intro i hx N Q hN hQ
  by_cases hb : i < rs.length
  · rw [ixR, dif_pos hb] at hx
    have hc := hp rs[i] (List.getElem_mem hb)
    cases hq : p rs[i]
    · rw [hq] at hc hx
      simp only [encRw, LV] at hc
      refine W_x tok mixed ?_
      simp -implicitDefEqProofs -dsimp [hb, encRw, LV]
      refine hc.mono ?_
      rintro r H' ⟨rfl, G, rfl⟩
      simp -implicitDefEqProofs -dsimp [wrapS i (by omega)]
      refine hN (i + 1) _ _ (by simpa using hx) (by omega) (by simp) ⟨G, rfl⟩ (by simp; exact hfv) hH
    · rw [hq] at hc hx
      simp only [encRw, LV] at hc
      refine W_x tok mixed ?_
      simp -implicitDefEqProofs -dsimp [hb, encRw, LV]
      refine hc.mono ?_
      rintro r H' ⟨rfl, G, rfl⟩
      simp -implicitDefEqProofs -dsimp []
      refine hQ _ _ _ ?_
      simp -implicitDefEqProofs -dsimp []
      simpa using hx
  · rw [ixR, dif_neg hb] at hx
    refine W_x tok mixed ?_
    simp -implicitDefEqProofs -dsimp [hb]
    refine hQ _ _ _ ?_
    simp -implicitDefEqProofs -dsimp []
    simpa using hx
def hasId (t : Tb) (id : Int) : Bool := t.rows.any fun r => r.id == id
def findI (t : Tb) (id : Int) : Int := ixR (fun r => r.id == id) t.rows 0
theorem findI_has (t : Tb) (id : Int) : decide (0 ≤ findI t id) = hasId t id := by
  have := ixR_any (fun r => r.id == id) t.rows 0
  rw [List.drop_zero] at this
  exact this
set_option maxHeartbeats 8000000 in
theorem find_t (t : Tb) (ff gg : Bool) (id : Int) (hr : t.rows.length ≤ 1000000) : ConP Tryz.prog 90 [encTb ff gg t, .int .i64 id] fun r => r = .tup [.int .i64 (if 0 ≤ findI t id then findI t id else 0), .bool (hasId t id)] := by
  have hh := findI_has t id
  have hclo : ∀ m ∈ t.rows, WCall Tryz.prog (.fn 131 [.ptr 1 0]) [encRw m] [B.cells [.str t.name, LS ff t.attrs, LR gg t.rows], B.cells [.int .i64 id]] fun r H' => r = .bool (m.id == id) ∧ ∃ G, H' = [B.cells [.str t.name, LS ff t.attrs, LR gg t.rows], B.cells [.int .i64 id]] ++ G := fun m hm => by
    simp only [WCall, List.cons_append, List.nil_append]
    refine conH_of_W tok Tryz.func131 rfl rfl ?_
    refine W_x tok mixed ?_
    simp -implicitDefEqProofs -dsimp [Tryz.f131, List.replicate, encRw, LS, LR, LV]
  have hcf := idxFuncR [B.cells [.str t.name, LS ff t.attrs, LR gg t.rows], B.cells [.int .i64 id]] (.fn 131 [.ptr 1 0]) (fun m => m.id == id) t.rows gg hr (by simp [LS, LR]) (by simp) hclo
  simp only [LS, LR] at hcf
  rw [← hh]
  refine conP_of_conH (conH_of_W tok Tryz.func90 rfl rfl ?_)
  refine W_x tok mixed ?_
  simp -implicitDefEqProofs -dsimp [Tryz.f90, List.replicate, encTb, LS, LR]
  refine WCall.mono (K := fun r H' => r = .int .i64 (findI t id) ∧ ∃ G, H' = [B.cells [.str t.name, .lst 1 ff (t.attrs.map V.str), .lst 2 gg (t.rows.map encRw)], B.cells [.int .i64 id]] ++ G) hcf ?_
  rintro r H' ⟨rfl, G, rfl⟩
  by_cases h0 : 0 ≤ findI t id
  · rw [if_pos h0]
    simp -implicitDefEqProofs -dsimp [h0, show ¬ findI t id < 0 by omega]
  · rw [if_neg h0]
    simp -implicitDefEqProofs -dsimp [h0, show findI t id < 0 by omega]
end Go.Proofs.YteijbpppalhihaaGreat
end

section
/- V11: check, Enough. Expanded by pp.py. -/
set_option linter.unusedSimpArgs false
set_option maxRecDepth 100000
namespace Go.Proofs.YteijbpppalhihaaGreat
open Go Go.AM
/-- The reference of a cell of the table. -/
def cellB (t : Tb) (c : Cr) : Bool := hasId t c.id && (decide (0 ≤ c.attr) && decide (c.attr < t.attrs.length))
noncomputable def chkE (t : Tb) (fds : List Fd) (cells : List Cr) : Int := open Classical in if validT t ≠ 0 then validT t else if fdsErr t.attrs.length fds ≠ 0 then fdsErr t.attrs.length fds else if 60 < t.rows.length * t.attrs.length then 3 else if ¬ sortedC cells then 1 else if cells.all (cellB t) then 0 else 4
theorem chkE_ok {t : Tb} {fds : List Fd} {cells : List Cr} (h : TbOk t) (he : chkE t fds cells = 0) : TbV t ∧ fdsErr t.attrs.length fds = 0 ∧ t.rows.length * t.attrs.length ≤ 60 ∧ sortedC cells ∧ cells.all (cellB t) = true := by
  unfold chkE at he
  split at he
  · rename_i h1; exact absurd he h1
  · rename_i h1
    split at he
    · rename_i h2; exact absurd he h2
    · rename_i h2
      split at he
      · cases he
      · rename_i h3
        split at he
        · cases he
        · rename_i h4
          split at he
          · rename_i h5
            exact ⟨tbV_of h (Classical.not_not.1 h1), Classical.not_not.1 h2, by omega, Classical.not_not.1 h4, h5⟩
          · cases he
set_option maxHeartbeats 32000000 in
theorem check_u (t : Tb) (ff gg df cf : Bool) (fds : List Fd) (cells : List Cr) (ht : TbOk t) (hF : FdsOk fds) (hcl : cells.length ≤ 1000000) :
    ConP Tryz.prog 43 [encTb ff gg t, LF df fds, LC cf cells] fun r => r = .int .i64 (chkE t fds cells) := by
  have c1 := tableValid t ff gg ht
  simp only [encTb, LS, LR] at c1
  by_cases h1 : validT t = 0
  · have hv := tbV_of ht h1
    rw [h1] at c1
    have c2 := closureValid t.attrs.length fds df hv.attrs hF
    by_cases h2 : fdsErr t.attrs.length fds = 0
    · rw [h2] at c2
      have hm := hv.rows
      have hn := hv.attrs
      have hmn := Nat.mul_le_mul hm hn
      have hw : IntKind.i64.wrap ((t.rows.length : Int) * (t.attrs.length : Int)) = ((t.rows.length * t.attrs.length : Nat) : Int) := by rw [wrap64 (by rw [← Int.natCast_mul]; omega) (by rw [← Int.natCast_mul]; omega)]; push_cast; rfl
      obtain ⟨mn, hmn'⟩ : ∃ mn, mn = t.rows.length * t.attrs.length := ⟨_, rfl⟩
      rw [← hmn'] at hw
      by_cases h3 : 60 < mn
      · rw [show chkE t fds cells = 3 by unfold chkE; rw [if_neg (by simp [h1]), if_neg (by simp [h2]), if_pos (by omega)]]
        refine conP_of_conH (conH_of_W tok Tryz.func43 rfl rfl ?_)
        refine W_x tok mixed ?_
        simp -implicitDefEqProofs -dsimp [Tryz.f43, List.replicate, encTb, LS, LR]
        refine (callP (c1) (by simp)).mono ?_
        rintro r H' ⟨rfl, rfl⟩
        simp -implicitDefEqProofs -dsimp []
        refine (callP (c2) (by simp)).mono ?_
        rintro r H' ⟨rfl, rfl⟩
        simp -implicitDefEqProofs -dsimp [hw, show (60 : Int) < mn by omega]
      · have c3 := ordered_u cells cf hcl
        by_cases h4 : sortedC cells
        · rw [sortB_iff.2 h4] at c3
          obtain ⟨E, hE⟩ : ∃ E, E = chkE t fds cells := ⟨_, rfl⟩
          have hE1 : chkE t fds cells = if cells.all (cellB t) then (0 : Int) else 4 := by unfold chkE; rw [if_neg (by simp [h1]), if_neg (by simp [h2]), if_neg (by omega), if_neg (by simp [h4])]
          have hE2 : (if cells.all (cellB t) then (0 : Int) else 4) = E := by rw [hE, hE1]
          rw [← hE]
          simp only [LC] at c3
          refine conP_of_conH (conH_of_W tok Tryz.func43 rfl rfl ?_)
          refine W_x tok mixed ?_
          simp -implicitDefEqProofs -dsimp [Tryz.f43, List.replicate, encTb, LS, LR, LC]
          refine (callP (c1) (by simp)).mono ?_
          rintro r H' ⟨rfl, rfl⟩
          simp -implicitDefEqProofs -dsimp []
          refine (callP (c2) (by simp)).mono ?_
          rintro r H' ⟨rfl, rfl⟩
          simp -implicitDefEqProofs -dsimp [hw, show ¬ (60 : Int) < mn by omega]
          refine (callP (c3) (by simp)).mono ?_
          rintro r H' ⟨rfl, rfl⟩
          simp -implicitDefEqProofs -dsimp []
          refine lw_of (W_loopV [false, false, false, false, false, false, true, false, false, false, true, true, true, false, false, false, false, false, false, false, false, false, false, false, false, false, false, false, false, false, false, false, false, false, false, false, false, false, false, true, true, true, true, true, true, true, true, true, true, true, true, true, true, true, true, true, true, true, true, true, true, true, true, true, true, true] (σ := Nat) (fun i => i ≤ cells.length ∧ (if (cells.drop i).all (cellB t) then (0 : Int) else 4) = E) (fun i => cells.length - i) (fun i => [(39, .int .i64 i)]) (fun _ => [B.cells [.str t.name, .lst 1 ff (t.attrs.map V.str), .lst 2 gg (t.rows.map encRw)]]) 0 ⟨by omega, by rw [List.drop_zero]; exact hE2⟩ (by simp) (by simp) (by simp) ?_)
          rintro i ⟨hi, hx⟩ N Q hN hQ
          by_cases hb : i < cells.length
          · rw [List.drop_eq_getElem_cons hb, List.all_cons] at hx
            obtain ⟨c, hc⟩ : ∃ c, c = cells[i] := ⟨_, rfl⟩
            rw [← hc] at hx
            have hc' := hc.symm
            have c4 := find_t t ff gg c.id ht.rows
            simp only [encTb, LS, LR] at c4
            obtain ⟨fi, hfi⟩ : ∃ fi, fi = (if 0 ≤ findI t c.id then findI t c.id else 0) := ⟨_, rfl⟩
            rw [← hfi] at c4
            cases h5 : hasId t c.id with
            | false =>
              rw [h5] at c4
              rw [show cellB t c = false by simp [cellB, h5], Bool.false_and, if_neg (by simp)] at hx
              refine W_x tok mixed ?_
              simp -implicitDefEqProofs -dsimp [hb, hc', encCr]
              refine (callP (c4) (by simp)).mono ?_
              rintro r H' ⟨rfl, rfl⟩
              simp -implicitDefEqProofs -dsimp []
              refine hQ _ _ _ ?_
              simp -implicitDefEqProofs -dsimp []
              exact hx
            | true =>
              rw [h5] at c4
              by_cases h6 : 0 ≤ c.attr
              · by_cases h7 : c.attr < t.attrs.length
                · rw [show cellB t c = true by simp [cellB, h5, h6, h7], Bool.true_and] at hx
                  refine W_x tok mixed ?_
                  simp -implicitDefEqProofs -dsimp [hb, hc', encCr]
                  refine (callP (c4) (by simp)).mono ?_
                  rintro r H' ⟨rfl, rfl⟩
                  simp -implicitDefEqProofs -dsimp [show ¬ c.attr < 0 by omega, show ¬ (t.attrs.length : Int) ≤ c.attr by omega, wrapS i (by omega)]
                  refine hN (i + 1) _ _ ⟨by omega, hx⟩ (by omega) ?_ ⟨[B.cells [.int .i64 c.id, .int .i64 c.attr]], ?_⟩ ?_ ?_ <;> simp [or_imp, forall_and, L1, encI, LF, LC]
                · rw [show cellB t c = false by simp [cellB, h7], Bool.false_and, if_neg (by simp)] at hx
                  refine W_x tok mixed ?_
                  simp -implicitDefEqProofs -dsimp [hb, hc', encCr]
                  refine (callP (c4) (by simp)).mono ?_
                  rintro r H' ⟨rfl, rfl⟩
                  simp -implicitDefEqProofs -dsimp [show ¬ c.attr < 0 by omega, show (t.attrs.length : Int) ≤ c.attr by omega]
                  refine hQ _ _ _ ?_
                  simp -implicitDefEqProofs -dsimp []
                  exact hx
              · rw [show cellB t c = false by simp [cellB, h6], Bool.false_and, if_neg (by simp)] at hx
                refine W_x tok mixed ?_
                simp -implicitDefEqProofs -dsimp [hb, hc', encCr]
                refine (callP (c4) (by simp)).mono ?_
                rintro r H' ⟨rfl, rfl⟩
                simp -implicitDefEqProofs -dsimp [show c.attr < 0 by omega]
                refine hQ _ _ _ ?_
                simp -implicitDefEqProofs -dsimp []
                exact hx
          · rw [List.drop_of_length_le (by omega)] at hx
            refine W_x tok mixed ?_
            simp -implicitDefEqProofs -dsimp [hb]
            refine hQ _ _ _ ?_
            simp -implicitDefEqProofs -dsimp []
            simpa using hx
        · have hno : sortB cells = false := by
            cases hb : sortB cells
            · rfl
            · exact absurd (sortB_iff.1 hb) h4
          rw [hno] at c3
          rw [show chkE t fds cells = 1 by unfold chkE; rw [if_neg (by simp [h1]), if_neg (by simp [h2]), if_neg (by omega), if_pos h4]]
          refine conP_of_conH (conH_of_W tok Tryz.func43 rfl rfl ?_)
          refine W_x tok mixed ?_
          simp -implicitDefEqProofs -dsimp [Tryz.f43, List.replicate, encTb, LS, LR]
          refine (callP (c1) (by simp)).mono ?_
          rintro r H' ⟨rfl, rfl⟩
          simp -implicitDefEqProofs -dsimp []
          refine (callP (c2) (by simp)).mono ?_
          rintro r H' ⟨rfl, rfl⟩
          simp -implicitDefEqProofs -dsimp [hw, show ¬ (60 : Int) < mn by omega]
          refine (callP (c3) (by simp)).mono ?_
          rintro r H' ⟨rfl, rfl⟩
          simp -implicitDefEqProofs -dsimp []
    · rw [show chkE t fds cells = fdsErr t.attrs.length fds by unfold chkE; rw [if_neg (by simp [h1]), if_pos h2]]
      refine conP_of_conH (conH_of_W tok Tryz.func43 rfl rfl ?_)
      refine W_x tok mixed ?_
      simp -implicitDefEqProofs -dsimp [Tryz.f43, List.replicate, encTb, LS, LR]
      refine (callP (c1) (by simp)).mono ?_
      rintro r H' ⟨rfl, rfl⟩
      simp -implicitDefEqProofs -dsimp []
      refine (callP (c2) (by simp)).mono ?_
      rintro r H' ⟨rfl, rfl⟩
      simp -implicitDefEqProofs -dsimp [h2]
  · rw [show chkE t fds cells = validT t by unfold chkE; rw [if_pos h1]]
    refine conP_of_conH (conH_of_W tok Tryz.func43 rfl rfl ?_)
    refine W_x tok mixed ?_
    simp -implicitDefEqProofs -dsimp [Tryz.f43, List.replicate, encTb, LS, LR]
    refine (callP (c1) (by simp)).mono ?_
    rintro r H' ⟨rfl, rfl⟩
    simp -implicitDefEqProofs -dsimp [h1]
theorem fds_ok {fds : List Fd} {n : Nat} (h : fdsErr n fds = 0) : fds.length ≤ 64 := by
  unfold fdsErr at h
  split at h
  · cases h
  · omega
set_option maxHeartbeats 32000000 in
theorem Enough_u (t : Tb) (ff gg df cf : Bool) (fds : List Fd) (cells : List Cr) (ht : TbOk t) (hF : FdsOk fds) (hcl : cells.length ≤ 1000000) :
    ConP Tryz.prog 14 [encTb ff gg t, LF df fds, LC cf cells] fun r => r = .tup [.bool (if chkE t fds cells = 0 then okB (probT t fds cells) else false), .int .i64 (chkE t fds cells)] := by
  have c1 := check_u t ff gg df cf fds cells ht hF hcl
  simp only [encTb, LS, LR, LC, LF] at c1
  by_cases h : chkE t fds cells = 0
  · obtain ⟨hv, h1, h2, h3, h4⟩ := chkE_ok ht h
    rw [if_pos h]
    rw [h] at c1 ⊢
    have c2 := enough_u t ff gg df cf fds cells hv hF h3 hcl
    simp only [encTb, LS, LR, LC, LF] at c2
    refine conP_of_conH (conH_of_W tok Tryz.func14 rfl rfl ?_)
    refine W_x tok mixed ?_
    simp -implicitDefEqProofs -dsimp [Tryz.f14, List.replicate, encTb, LS, LR, LC, LF]
    refine (callP (c1) (by simp)).mono ?_
    rintro r H' ⟨rfl, rfl⟩
    simp -implicitDefEqProofs -dsimp []
    refine (callP (c2) (by simp)).mono ?_
    rintro r H' ⟨rfl, rfl⟩
    simp -implicitDefEqProofs -dsimp []
  · rw [if_neg h]
    refine conP_of_conH (conH_of_W tok Tryz.func14 rfl rfl ?_)
    refine W_x tok mixed ?_
    simp -implicitDefEqProofs -dsimp [Tryz.f14, List.replicate, encTb, LS, LR, LC, LF]
    refine (callP (c1) (by simp)).mono ?_
    rintro r H' ⟨rfl, rfl⟩
    simp -implicitDefEqProofs -dsimp [h]
end Go.Proofs.YteijbpppalhihaaGreat
end

section
/- X1: the reference's lists of cells: Has, Cells, Others, Choose. Expanded by pp.py. -/
set_option linter.unusedSimpArgs false
set_option maxRecDepth 100000
namespace Go.Proofs.YteijbpppalhihaaGreat
open Go Go.AM
open Classical in
noncomputable def hasC (l : List Cr) (c : Cr) : Bool := decide (c ∈ l)
theorem hasC_iff {l : List Cr} {c : Cr} : hasC l c = true ↔ c ∈ l := by unfold hasC; simp
theorem eqCr (H : List B) (a b c d : Int) : eqA2 T H 49 (.agg [.int .i64 a, .int .i64 b]) (.agg [.int .i64 c, .int .i64 d]) = some (a == c && b == d) := by
  have h1 : ∀ x y : Int, eqD T 9999 2 (.int .i64 x) (.int .i64 y) = some (x == y) := fun x y => by simp [eqD]
  have h2 : ∀ x y : Int, eqD T 9999 3 (.int .i64 x) (.int .i64 y) = some (x == y) := fun x y => by simp [eqD]
  simp only [eqA2]
  rw [show (10000 : Nat) = 9999 + 1 from rfl, eqD]
  simp only [T_49]
  simp only [if_true, eqFs, cutA, T_2, T_3, isAggD, List.getElem?_cons_zero, List.getElem?_cons_succ, Bool.false_eq_true, if_false, h1, h2]
  cases (a == c) <;> cases (b == d) <;> simp
set_option maxHeartbeats 16000000 in
theorem has_r (l : List Cr) (c : Cr) (f : Bool) (hl : l.length ≤ 1000000) : ConP Tryz.prog 50 [LC f l, encCr c] fun r => r = .bool (hasC l c) := by
  obtain ⟨E, hE⟩ : ∃ E, E = hasC l c := ⟨_, rfl⟩
  rw [← hE]
  refine conP_of_conH (conH_of_W tok Tryz.func50 rfl rfl ?_)
  refine W_x tok mixed ?_
  simp -implicitDefEqProofs -dsimp [Tryz.f50, List.replicate, LC, encCr]
  refine lw_of (W_loopV [false, false, false, false, true, true, true, true, true, true, true, true, true, true, true, true, true, true] (σ := Nat) (fun i => ∀ j (h : j < l.length), j < i → l[j] ≠ c) (fun i => l.length - i) (fun i => [(5, .int .i64 i)]) (fun _ => [B.cells [.int .i64 c.id, .int .i64 c.attr]]) 0 (fun j _ h => by omega) (by simp) rfl (by simp) ?_)
  intro i hx N Q hN hQ
  by_cases hb : i < l.length
  · cases hq : (l[i].id == c.id && l[i].attr == c.attr) with
    | true =>
      have he : l[i] = c := by
        rw [Bool.and_eq_true, beq_iff_eq, beq_iff_eq] at hq
        exact Cr.eq_iff.2 hq
      rw [hasC_iff.2 (he ▸ List.getElem_mem hb)] at hE
      refine W_x tok mixed ?_
      simp -implicitDefEqProofs -dsimp [hb, encCr, eqCr, hq]
      refine .inr ⟨stop_of (by kernel_rfl), ?_⟩
      refine hQ _ _ _ ?_
      simp -implicitDefEqProofs -dsimp []
      exact hE
    | false =>
      have he : l[i] ≠ c := fun h => by subst h; simp at hq
      refine W_x tok mixed ?_
      simp -implicitDefEqProofs -dsimp [hb, encCr, eqCr, hq]
      refine .inr ⟨stop_of (by kernel_rfl), ?_⟩
      simp -implicitDefEqProofs -dsimp [wrapS i (by omega)]
      refine hN (i + 1) _ _ (fun j h hj => ?_) (by omega) (by simp) ⟨[], rfl⟩ (by simp) (by simp)
      rcases Nat.lt_or_ge j i with h1 | h1
      · exact hx j h h1
      · have : j = i := by omega
        subst this; exact he
  · have hno : hasC l c = false := by
      cases hh : hasC l c
      · rfl
      · obtain ⟨j, hj, h2⟩ := List.mem_iff_getElem.1 (hasC_iff.1 hh)
        exact absurd h2 (hx j hj (by omega))
    rw [hno] at hE
    refine W_x tok mixed ?_
    simp -implicitDefEqProofs -dsimp [hb]
    refine hQ _ _ _ ?_
    simp -implicitDefEqProofs -dsimp []
    exact hE
def cellsTo (t : Tb) (c : Nat) : List Cr := (List.range c).map (crAt t)
theorem cellsTo_succ (t : Tb) (c : Nat) : cellsTo t (c + 1) = cellsTo t c ++ [crAt t c] := by simp [cellsTo, List.range_succ]
theorem cellsTo_len (t : Tb) (c : Nat) : (cellsTo t c).length = c := by simp [cellsTo]
theorem cellsT_len (t : Tb) : (cellsT t).length = t.rows.length * t.attrs.length := by simp [cellsT]
set_option maxHeartbeats 32000000 in
theorem cells_r (t : Tb) (ff gg : Bool) (hr : t.rows.length ≤ 1000) (hn : t.attrs.length ≤ 1000) : ConP Tryz.prog 18 [encTb ff gg t] fun r => r = LC false (cellsT t) := by
  obtain ⟨n, hne⟩ : ∃ n, n = t.attrs.length := ⟨_, rfl⟩
  obtain ⟨m, hme⟩ : ∃ m, m = t.rows.length := ⟨_, rfl⟩
  have hne' := hne.symm
  have hme' := hme.symm
  rw [hne'] at hn
  rw [hme'] at hr
  refine conP_of_conH (conH_of_W tok Tryz.func18 rfl rfl ?_)
  refine W_x tok mixed ?_
  simp -implicitDefEqProofs -dsimp [Tryz.f18, List.replicate, encTb, LS, LR]
  refine lw_of (W_own 49 2 [3] (by simp) (W_loopV [false, false, false, true, true, true, true, true, true, true, true, true, true, true, true, true, true, true, true, true, true, true, true, true, true, true, true, true, true, true, true] (σ := Nat × Nat) (fun p => p.1 ≤ m ∧ p.2 = p.1 * n) (fun p => m - p.1) (fun p => [(4, .int .i64 p.1), (3, .buf 1 0 p.2 p.2)]) (fun p => [B.cells [.str t.name, .lst 1 ff (t.attrs.map V.str), .lst 2 gg (t.rows.map encRw)], B.buf 49 2 ((cellsTo t p.2).map encCr) false]) (0, 0) ⟨by simp, by simp⟩ (by simp) (by simp [cellsTo]) (by simp) ?_))
  rintro ⟨i, c⟩ ⟨hi, hc⟩ N Q hN hQ
  simp only at hi hc hN
  by_cases hib : i < m
  · have hit : i < t.rows.length := by omega
    obtain ⟨rw, hrw⟩ : ∃ rw, rw = t.rows[i] := ⟨_, rfl⟩
    have hrw' := hrw.symm
    refine W_x tok mixed ?_
    simp -implicitDefEqProofs -dsimp [hib, hme']
    refine lw_of (W_loopV [false, false, false, true, false, true, false, false, false, false, false, false, false, true, true, true, true, true, true, true, true, true, true, true, true, true, true, true, true, true, true] (σ := Nat × Nat) (fun p => p.1 ≤ n ∧ p.2 = i * n + p.1) (fun p => n - p.1) (fun p => [(5, .int .i64 p.1), (3, .buf 1 0 p.2 p.2)]) (fun p => [B.cells [.str t.name, .lst 1 ff (t.attrs.map V.str), .lst 2 gg (t.rows.map encRw)], B.buf 49 2 ((cellsTo t p.2).map encCr) false]) (0, c) ⟨by simp, by simp [hc]⟩ (by simp) (by simp) (by simp) ?_)
    rintro ⟨a, c2⟩ ⟨ha, hc2⟩ N2 Q2 hN2 hQ2
    simp only at ha hc2 hN2
    by_cases hab : a < n
    · have hlt := cell_lt hib hab
      have hbig : m * n ≤ 1000 * 1000 := Nat.mul_le_mul hr hn
      have hol := cellsTo_len t c2
      have hat : crAt t c2 = ⟨rw.id, (a : Int)⟩ := by
        rw [hc2, hne, crAt_at t (hne ▸ hab), rwAt_in hit, ← hrw]
      have hst := cellsTo_succ t c2
      rw [hat] at hst
      refine W_x tok mixed ?_
      simp -implicitDefEqProofs -dsimp [hab, hne', hit, hrw', encRw, hol, cap16 c2 (by omega), wrapS a (by omega)]
      refine hN2 (a + 1, c2 + 1) _ _ ⟨by simp only; omega, by simp only; omega⟩ (by simp only; omega) (by simp) ⟨[], by simp [hst, encCr]⟩ (by simp) (by simp)
    · have hae : a = n := by omega
      subst hae
      refine W_x tok mixed ?_
      simp -implicitDefEqProofs -dsimp [hab, hne']
      refine hQ2 _ _ _ ?_
      simp -implicitDefEqProofs -dsimp [wrapS i (by omega)]
      refine hN (i + 1, c2) _ _ ⟨by simp only; omega, by simp only; rw [hc2, Nat.add_mul]; omega⟩ (by simp only; omega) (by simp) ⟨[], by simp⟩ (by simp) (by simp)
  · have hie : i = m := by omega
    subst hie
    refine W_x tok mixed ?_
    simp -implicitDefEqProofs -dsimp [hib, hme']
    refine hQ _ _ _ ?_
    simp -implicitDefEqProofs -dsimp []
    rw [show cellsT t = cellsTo t c by unfold cellsT cellsTo; rw [hc, ← hme, ← hne]]
    exact exp_buf rfl (by simp [cellsTo_len]) (by simp)
end Go.Proofs.YteijbpppalhihaaGreat
end

section
/- X2: the reference's Others, Choose, Of. Expanded by pp.py. -/
set_option linter.unusedSimpArgs false
set_option maxRecDepth 100000
namespace Go.Proofs.YteijbpppalhihaaGreat
open Go Go.AM
theorem cellsT_at {t : Tb} {i : Nat} (h : i < (cellsT t).length) : (cellsT t)[i] = crAt t i := by simp [cellsT]
set_option maxHeartbeats 32000000 in
theorem others_r (t : Tb) (ff gg cf : Bool) (l : List Cr) (hr : t.rows.length ≤ 1000) (hn : t.attrs.length ≤ 1000) (hl : l.length ≤ 1000000) : ConP Tryz.prog 21 [encTb ff gg t, LC cf l] fun r => r = LC false (othersT t l) := by
  have c1 := cells_r t ff gg hr hn
  have hbig : t.rows.length * t.attrs.length ≤ 1000 * 1000 := Nat.mul_le_mul hr hn
  obtain ⟨all, hall⟩ : ∃ all, all = cellsT t := ⟨_, rfl⟩
  have hlen : all.length = t.rows.length * t.attrs.length := by rw [hall, cellsT_len]
  have hat : ∀ i (h : i < all.length), all[i] = crAt t i := fun i h => by subst hall; exact cellsT_at h
  rw [← hall] at c1
  simp only [encTb, LS, LR, LC] at c1
  rw [← othTo_all, ← hlen]
  refine conP_of_conH (conH_of_W tok Tryz.func21 rfl rfl ?_)
  refine W_x tok mixed ?_
  simp -implicitDefEqProofs -dsimp [Tryz.f21, List.replicate, encTb, LS, LR, LC]
  refine (callP (c1) (by simp)).mono ?_
  rintro r H' ⟨rfl, rfl⟩
  simp -implicitDefEqProofs -dsimp []
  refine lw_of (W_own 49 2 [6] (by simp) (W_loopV [false, false, false, false, false, false, true, true, false, false, true, true, true, true, true, true, true, true, true, true, true, true, true, true, true, true, true, true, true, true] (σ := Nat) (fun i => i ≤ all.length) (fun i => all.length - i) (fun i => [(7, .int .i64 i), (6, .buf 1 0 (othTo t l i).length (othTo t l i).length)]) (fun i => [B.cells [.str t.name, .lst 1 ff (t.attrs.map V.str), .lst 2 gg (t.rows.map encRw)], B.buf 49 2 ((othTo t l i).map encCr) false]) 0 (by omega) (by simp [othTo_zero]) (by simp [othTo_zero]) (by simp) ?_))
  intro i hi N Q hN hQ
  by_cases hb : i < all.length
  · have h1 := hat i hb
    obtain ⟨x, hx⟩ : ∃ x, x = all[i] := ⟨_, rfl⟩
    rw [← hx] at h1
    have hx' := hx.symm
    have hol := othTo_len t l i
    have hc := has_r l x cf hl
    simp only [LC, encCr] at hc
    cases hq : hasC l x with
    | true =>
      rw [hq] at hc
      have hst := othTo_in (t := t) (l := l) (x := i) (h1 ▸ hasC_iff.1 hq)
      refine W_x tok mixed ?_
      simp -implicitDefEqProofs -dsimp [hb, hx', encCr]
      refine (callP (hc) (by simp)).mono ?_
      rintro r H' ⟨rfl, rfl⟩
      simp -implicitDefEqProofs -dsimp [wrapS i (by omega)]
      refine hN (i + 1) _ _ (by omega) (by omega) (by simp [hst]) ⟨[], by simp [hst]⟩ (by simp [LC]) (by simp)
    | false =>
      rw [hq] at hc
      have hst := othTo_out (t := t) (l := l) (x := i) (h1 ▸ fun h => by rw [hasC_iff.2 h] at hq; cases hq)
      rw [← h1] at hst
      refine W_x tok mixed ?_
      simp -implicitDefEqProofs -dsimp [hb, hx', encCr]
      refine (callP (hc) (by simp)).mono ?_
      rintro r H' ⟨rfl, rfl⟩
      simp -implicitDefEqProofs -dsimp [hb, hx', encCr, cap16 (othTo t l i).length (by omega), wrapS i (by omega)]
      refine hN (i + 1) _ _ (by omega) (by omega) (by simp [hst]) ⟨[], by simp [hst, encCr]⟩ (by simp [LC]) (by simp)
  · obtain rfl : i = all.length := by omega
    refine W_x tok mixed ?_
    simp -implicitDefEqProofs -dsimp [hb]
    refine hQ _ _ _ ?_
    simp -implicitDefEqProofs -dsimp []
    exact exp_buf rfl (by simp) (by simp)
def hasW (s : Int) (i : Nat) : Bool := IntKind.u16.wrap ↑((s.fdiv (2 ^ min i IntKind.u16.bits) % 2 ^ IntKind.u16.bits).toNat &&& 1 % 2 ^ IntKind.u16.bits) == 1
theorem hasW_def (s : Int) (a : Nat) : (IntKind.u16.wrap ↑((s.fdiv (2 ^ min a IntKind.u16.bits) % 2 ^ IntKind.u16.bits).toNat &&& 1 % 2 ^ IntKind.u16.bits) == 1) = hasW s a := rfl
def chTo (t : Tb) (s : Int) (i : Nat) : List Cr := ((List.range i).filter (hasW s)).map (crAt t)
def chooseT (t : Tb) (s : Int) : List Cr := chTo t s (min (t.rows.length * t.attrs.length) 16)
theorem chTo_yes {t : Tb} {s : Int} {i : Nat} (h : hasW s i = true) : chTo t s (i + 1) = chTo t s i ++ [crAt t i] := by
  unfold chTo
  rw [List.range_succ, List.filter_append]
  simp [h]
theorem chTo_no {t : Tb} {s : Int} {i : Nat} (h : hasW s i = false) : chTo t s (i + 1) = chTo t s i := by
  unfold chTo
  rw [List.range_succ, List.filter_append]
  simp [h]
theorem chTo_len (t : Tb) (s : Int) (i : Nat) : (chTo t s i).length ≤ i := by
  unfold chTo
  rw [List.length_map]
  exact Nat.le_trans (List.length_filter_le _ _) (by simp)
set_option maxHeartbeats 32000000 in
theorem choose_r (t : Tb) (ff gg : Bool) (s : Int) (hr : t.rows.length ≤ 1000) (hn : t.attrs.length ≤ 1000) : ConP Tryz.prog 13 [encTb ff gg t, .int .u16 s] fun r => r = LC false (chooseT t s) := by
  have c1 := cells_r t ff gg hr hn
  have hbig : t.rows.length * t.attrs.length ≤ 1000 * 1000 := Nat.mul_le_mul hr hn
  obtain ⟨all, hall⟩ : ∃ all, all = cellsT t := ⟨_, rfl⟩
  have hlen : all.length = t.rows.length * t.attrs.length := by rw [hall, cellsT_len]
  have hat : ∀ i (h : i < all.length), all[i] = crAt t i := fun i h => by subst hall; exact cellsT_at h
  rw [← hall] at c1
  simp only [encTb, LS, LR, LC] at c1
  unfold chooseT
  rw [← hlen]
  obtain ⟨k, hk⟩ : ∃ k, k = min all.length 16 := ⟨_, rfl⟩
  rw [← hk]
  refine conP_of_conH (conH_of_W tok Tryz.func13 rfl rfl ?_)
  refine W_x tok mixed ?_
  simp -implicitDefEqProofs -dsimp [Tryz.f13, List.replicate, encTb, LS, LR, LC]
  refine (callP (c1) (by simp)).mono ?_
  rintro r H' ⟨rfl, rfl⟩
  simp -implicitDefEqProofs -dsimp []
  refine lw_of (W_own 49 2 [6] (by simp) (W_loopV [false, false, false, false, false, false, true, true, false, false, true, true, true, true, true, true, true, true, true, true, true, true, true, true, true, true, true, true, true, true, true, true] (σ := Nat) (fun i => i ≤ k) (fun i => k - i) (fun i => [(7, .int .i64 i), (6, .buf 1 0 (chTo t s i).length (chTo t s i).length)]) (fun i => [B.cells [.str t.name, .lst 1 ff (t.attrs.map V.str), .lst 2 gg (t.rows.map encRw)], B.buf 49 2 ((chTo t s i).map encCr) false]) 0 (by omega) (by simp [chTo]) (by simp [chTo]) (by simp) ?_))
  intro i hi N Q hN hQ
  by_cases hb : i < k
  · have hb1 : i < all.length := by omega
    have hb2 : (i : Int) < 16 := by omega
    have h1 := hat i hb1
    obtain ⟨x, hx⟩ : ∃ x, x = all[i] := ⟨_, rfl⟩
    rw [← hx] at h1
    have hx' := hx.symm
    have hol := chTo_len t s i
    cases hq : hasW s i with
    | true =>
      have hst := chTo_yes (t := t) hq
      rw [← h1] at hst
      refine W_x tok mixed ?_
      simp -implicitDefEqProofs -dsimp [hb1, hb2, hx', encCr, hasW_def, hq, cap16 (chTo t s i).length (by omega), wrapS i (by omega)]
      refine hN (i + 1) _ _ (by omega) (by omega) (by simp [hst]) ⟨[], by simp [hst, encCr]⟩ (by simp [LC]) (by simp)
    | false =>
      have hst := chTo_no (t := t) hq
      refine W_x tok mixed ?_
      simp -implicitDefEqProofs -dsimp [hb1, hb2, hx', encCr, hasW_def, hq, wrapS i (by omega)]
      refine hN (i + 1) _ _ (by omega) (by omega) (by simp [hst]) ⟨[], by simp [hst]⟩ (by simp [LC]) (by simp)
  · obtain rfl : i = k := by omega
    by_cases hb1 : i < all.length
    · refine W_x tok mixed ?_
      simp -implicitDefEqProofs -dsimp [hb1, show ¬ (i : Int) < 16 by omega]
      refine hQ _ _ _ ?_
      simp -implicitDefEqProofs -dsimp []
      exact exp_buf rfl (by simp) (by simp)
    · refine W_x tok mixed ?_
      simp -implicitDefEqProofs -dsimp [hb1]
      refine hQ _ _ _ ?_
      simp -implicitDefEqProofs -dsimp []
      exact exp_buf rfl (by simp) (by simp)
end Go.Proofs.YteijbpppalhihaaGreat
end

section
/- X3: the reference's Of; tables of recipes are valid. Expanded by pp.py. -/
set_option linter.unusedSimpArgs false
set_option maxRecDepth 100000
namespace Go.Proofs.YteijbpppalhihaaGreat
open Go Go.AM
structure Cs where
  r : Rcp
  d : List Fd
def encCs (f g : Bool) (c : Cs) : V := .agg [.int .u8 c.r.a, .int .u8 c.r.gap, .lst 1 f (c.r.rows.map LU), .lst 2 g (c.d.map encD)]
@[simp] theorem encCs_pure (f g : Bool) (c : Cs) : AM.Pure (encCs f g c) := by simp [encCs]
structure CsOk (c : Cs) : Prop where
  a : 0 ≤ c.r.a ∧ c.r.a < 256
  gap : 0 ≤ c.r.gap
  rows : ∀ r ∈ c.r.rows, r.length ≤ 9223372036854775807
  rlen : c.r.rows.length ≤ 9223372036854775807
  dlen : c.d.length ≤ 9223372036854775807
  deps : ∀ d ∈ c.d, d.l < 256 ∧ d.r < 256
def csN (c : Cs) : Nat := (c.r.a.tmod 4).toNat
def csB (c : Cs) : Bool := decide (c.r.rows.length ≤ 4) && (decide (c.r.rows.length * csN c ≤ 9) && decide (c.d.length ≤ 3))
def csT (c : Cs) : Tb := wideT c.r (csN c)
def csF (c : Cs) : List Fd := c.d.map (fdOf (csN c))
theorem csN_lt {c : Cs} (h : CsOk c) : csN c < 4 ∧ c.r.a.tmod 4 = (csN c : Int) := by
  have h1 := Int.tmod_nonneg 4 h.a.1
  have h2 := Int.tmod_lt_of_pos c.r.a (show (0 : Int) < 4 by omega)
  unfold csN
  omega
def offV : V := .tup [.agg [.str ByteArray.empty, .nilS, .nilS], .nilS, .bool false]
set_option maxHeartbeats 16000000 in
theorem of_no (c : Cs) (f g : Bool) (h : CsOk c) (hb : csB c = false) : ConP Tryz.prog 11 [encCs f g c] fun r => r = offV := by
  obtain ⟨h1, h2⟩ := csN_lt h
  obtain ⟨n, hn⟩ : ∃ n, n = csN c := ⟨_, rfl⟩
  rw [← hn] at h1 h2
  have hw : IntKind.i64.wrap (n : Int) = n := wrapN n (by omega)
  unfold csB at hb
  rw [← hn] at hb
  by_cases r1 : c.r.rows.length ≤ 4
  · have hmn : c.r.rows.length * n ≤ 4 * 4 := Nat.mul_le_mul r1 (by omega)
    have hw2 : IntKind.i64.wrap ((c.r.rows.length : Int) * (n : Int)) = ((c.r.rows.length * n : Nat) : Int) := by rw [wrap64 (by rw [← Int.natCast_mul]; omega) (by rw [← Int.natCast_mul]; omega)]; push_cast; rfl
    obtain ⟨mn, hmn'⟩ : ∃ mn, mn = c.r.rows.length * n := ⟨_, rfl⟩
    rw [← hmn'] at hw2 hb
    by_cases r2 : mn ≤ 9
    · have r3 : ¬ c.d.length ≤ 3 := by
        intro r3
        rw [decide_eq_true r1, decide_eq_true r2, decide_eq_true r3] at hb; cases hb
      refine conP_of_conH (conH_of_W tok Tryz.func11 rfl rfl ?_)
      refine W_x tok mixed ?_
      simp -implicitDefEqProofs -dsimp [Tryz.f11, List.replicate, encCs, h2, hw, hw2, show ¬ (4 : Int) < c.r.rows.length by omega, show ¬ (9 : Int) < mn by omega, show (3 : Int) < c.d.length by omega]
      rfl
    · refine conP_of_conH (conH_of_W tok Tryz.func11 rfl rfl ?_)
      refine W_x tok mixed ?_
      simp -implicitDefEqProofs -dsimp [Tryz.f11, List.replicate, encCs, h2, hw, hw2, show ¬ (4 : Int) < c.r.rows.length by omega, show (9 : Int) < mn by omega]
      rfl
  · refine conP_of_conH (conH_of_W tok Tryz.func11 rfl rfl ?_)
    refine W_x tok mixed ?_
    simp -implicitDefEqProofs -dsimp [Tryz.f11, List.replicate, encCs, h2, hw, show (4 : Int) < c.r.rows.length by omega]
    rfl
set_option maxHeartbeats 16000000 in
theorem of_yes (c : Cs) (f g : Bool) (h : CsOk c) (hb : csB c = true) : ConP Tryz.prog 11 [encCs f g c] fun r => r = .tup [encTb false false (csT c), LF false (csF c), .bool true] := by
  obtain ⟨h1, h2⟩ := csN_lt h
  unfold csT csF
  obtain ⟨n, hn⟩ : ∃ n, n = csN c := ⟨_, rfl⟩
  rw [← hn] at h1 h2 ⊢
  have hw : IntKind.i64.wrap (n : Int) = n := wrapN n (by omega)
  unfold csB at hb
  rw [← hn] at hb
  simp only [Bool.and_eq_true, decide_eq_true_iff] at hb
  obtain ⟨r1, r2, r3⟩ := hb
  have hw2 : IntKind.i64.wrap ((c.r.rows.length : Int) * (n : Int)) = ((c.r.rows.length * n : Nat) : Int) := by rw [wrap64 (by rw [← Int.natCast_mul]; omega) (by rw [← Int.natCast_mul]; omega)]; push_cast; rfl
  obtain ⟨mn, hmn'⟩ : ∃ mn, mn = c.r.rows.length * n := ⟨_, rfl⟩
  rw [← hmn'] at hw2 r2
  have c1 := wide03 c.r n f (by omega) (by omega) h.rows h.gap
  have c2 := list09 n c.d g (by omega) (by omega) h.deps
  simp only [encRcp, encTb, LS, LR] at c1
  obtain ⟨w, hwt⟩ : ∃ w, w = wideT c.r n := ⟨_, rfl⟩
  rw [← hwt] at c1 ⊢
  refine conP_of_conH (conH_of_W tok Tryz.func11 rfl rfl ?_)
  refine W_x tok mixed ?_
  simp -implicitDefEqProofs -dsimp [Tryz.f11, List.replicate, encCs, h2, hw, hw2, show ¬ (4 : Int) < c.r.rows.length by omega, show ¬ (9 : Int) < mn by omega, show ¬ (3 : Int) < c.d.length by omega]
  refine lw_of (W_drawT tok mixed [8] [] [(.agg [.str w.name, .lst 1 false (w.attrs.map V.str), .lst 2 false (w.rows.map encRw)], []), (LF false (c.d.map (fdOf n)), [])] (by kernel_rfl) fun C K hC hK => ?_)
  simp -implicitDefEqProofs []
  refine ⟨⟨hC _ _ _ _ (callP c1 (by simp)), hC _ _ _ _ (callP c2 (by simp))⟩, hK _ _ ?_⟩
  simp -implicitDefEqProofs -dsimp [encTb, LS, LR]
end Go.Proofs.YteijbpppalhihaaGreat
end

section
/- X4: tables of recipes are valid, their lists of cells are right. -/
set_option linter.unusedSimpArgs false
set_option maxRecDepth 100000
namespace Go.Proofs.YteijbpppalhihaaGreat
open Go Go.AM
theorem rowsErr_of {n : Nat} : ∀ {rs : List Rw} {last : Int}, (∀ r ∈ rs, last < r.id) → (∀ r ∈ rs, r.vals.length = n) → (∀ r ∈ rs, ∀ v ∈ r.vals, validV v = true) → rs.Pairwise (fun a b => a.id < b.id) → rowsErr n last rs = 0
  | [], _, _, _, _, _ => rfl
  | r :: rs, last, h1, h2, h3, h4 => by
    have a1 := h1 r List.mem_cons_self
    have a2 := h2 r List.mem_cons_self
    have a3 : r.vals.all validV = true := List.all_eq_true.2 (h3 r List.mem_cons_self)
    rw [List.pairwise_cons] at h4
    rw [rowsErr, if_neg (by omega), if_neg (by omega), a3, if_pos rfl]
    exact rowsErr_of h4.1 (fun r' hr => h2 r' (List.mem_cons_of_mem _ hr)) (fun r' hr => h3 r' (List.mem_cons_of_mem _ hr)) h4.2
theorem TbV.validT {t : Tb} (h : TbV t) (hpos : ∀ r ∈ t.rows, 0 < r.id) : validT t = 0 := by
  unfold Go.Proofs.YteijbpppalhihaaGreat.validT
  rw [h.name, if_pos rfl, if_neg (by have := h.attrs; have := h.rows; omega), h.names, if_pos rfl]
  exact rowsErr_of hpos h.len h.vals h.asc
theorem ofV_valid (m : Int) : validV (ofV m) = true := by
  unfold ofV
  repeat' split
  all_goals kernel_rfl
theorem wide_rows {x : Rcp} {n : Nat} (hg : 0 ≤ x.gap) : (∀ r ∈ (wideT x n).rows, 0 < r.id ∧ r.vals.length = n ∧ ∀ v ∈ r.vals, validV v = true) ∧ (wideT x n).rows.Pairwise fun a b => a.id < b.id := by
  have h0 := Int.tmod_nonneg 3 hg
  constructor
  · intro r hr
    obtain ⟨i, hi, rfl⟩ := List.mem_map.1 hr
    refine ⟨?_, wVals_len _ _, fun v hv => ?_⟩
    · show 0 < 1 + (i : Int) * (1 + x.gap.tmod 3)
      have := Int.mul_nonneg (show (0 : Int) ≤ i by omega) (show 0 ≤ 1 + x.gap.tmod 3 by omega)
      omega
    · obtain ⟨j, _, rfl⟩ := List.mem_map.1 hv
      exact ofV_valid _
  · show ((List.range x.rows.length).map _).Pairwise _
    rw [List.pairwise_map]
    refine List.Pairwise.imp ?_ List.pairwise_lt_range
    intro i j hij
    show 1 + (i : Int) * (1 + x.gap.tmod 3) < 1 + (j : Int) * (1 + x.gap.tmod 3)
    have := Int.mul_lt_mul_of_pos_right (show (i : Int) < j by omega) (show 0 < 1 + x.gap.tmod 3 by omega)
    omega
theorem names_small : ∀ n, n < 4 → namesB (L8.take n) = true
  | 0, _ => by kernel_rfl
  | 1, _ => by kernel_rfl
  | 2, _ => by kernel_rfl
  | 3, _ => by kernel_rfl
  | n + 4, h => by omega
structure CsV (c : Cs) : Prop where
  tv : TbV (csT c)
  valid : validT (csT c) = 0
  attrs : (csT c).attrs.length = csN c
  rows : (csT c).rows.length = c.r.rows.length
  small : (csT c).rows.length * (csT c).attrs.length ≤ 9
  n4 : csN c < 4
  m4 : c.r.rows.length ≤ 4
  fok : FdsOk (csF c)
  ferr : fdsErr (csT c).attrs.length (csF c) = 0
  flen : (csF c).length ≤ 3
theorem fullN_small : ∀ n, fullN n < 2 ^ n
  | 0 => by simp [fullN]
  | i + 1 => Nat.or_lt_two_pow (n := i + 1) (Nat.lt_trans (fullN_small i) (Nat.pow_lt_pow_right (by omega) (by omega))) (Nat.pow_lt_pow_right (by omega) (by omega))
theorem csV {c : Cs} (h : CsOk c) (hb : csB c = true) : CsV c := by
  obtain ⟨h1, h2⟩ := csN_lt h
  unfold csB at hb
  simp only [Bool.and_eq_true, decide_eq_true_iff] at hb
  obtain ⟨r1, r2, r3⟩ := hb
  have ha : (csT c).attrs.length = csN c := by
    show (L8.take (csN c)).length = _
    rw [List.length_take]
    have : L8.length = 8 := rfl
    omega
  have hr : (csT c).rows.length = c.r.rows.length := wRows_len _ _ _
  obtain ⟨w1, w2⟩ := wide_rows (x := c.r) (n := csN c) h.gap
  have tv : TbV (csT c) := by
    refine ⟨⟨(show (⟨#[114]⟩ : ByteArray).size ≤ maxLen by decide), by omega, by omega, fun s hs => ?_⟩, by omega, by omega, names_small _ h1, (show nameB ⟨#[114]⟩ = true by kernel_rfl), fun r hr => ?_, fun r hr => (w1 r hr).2.2, w2⟩
    · have hs := List.mem_of_mem_take (show s ∈ L8.take (csN c) from hs)
      have : ∀ s ∈ L8, s.size ≤ maxLen := by
        intro s hs
        simp only [L8, List.mem_cons, List.not_mem_nil, or_false] at hs
        rcases hs with rfl | rfl | rfl | rfl | rfl | rfl | rfl | rfl <;> decide
      exact this s hs
    · rw [ha]; exact (w1 r hr).2.1
  refine ⟨tv, tv.validT fun r hr => (w1 r hr).1, ha, hr, by rw [ha, hr]; exact r2, h1, r1, ⟨by simp [csF]; omega, fun d hd => ?_⟩, ?_, by simp [csF]; exact r3⟩
  · obtain ⟨d', hd', rfl⟩ := List.mem_map.1 hd
    have := h.deps d' hd'
    exact ⟨Nat.lt_of_le_of_lt Nat.and_le_left (by omega), Nat.lt_of_le_of_lt Nat.and_le_left (by omega)⟩
  · unfold fdsErr
    rw [if_neg (by simp [csF]; omega), if_pos]
    rw [List.all_eq_true]
    intro d hd
    obtain ⟨d', hd', rfl⟩ := List.mem_map.1 hd
    have hf := fullN_small (csN c)
    simp only [fdOk, fdOf, Bool.and_eq_true, decide_eq_true_iff, ha]
    exact ⟨Nat.lt_of_le_of_lt Nat.and_le_right hf, Nat.lt_of_le_of_lt Nat.and_le_right hf⟩
/-- Lists of cells of the table, in order. -/
structure CellsOk (t : Tb) (l : List Cr) : Prop where
  sorted : sortedC l
  mem : ∀ c ∈ l, c ∈ cellsT t
  len : l.length ≤ 1000000
theorem cellB_in {t : Tb} (_ : TbV t) {c : Cr} : cellB t c = true ↔ c ∈ cellsT t := by
  unfold cellB cellsT hasId
  simp only [Bool.and_eq_true, decide_eq_true_iff, List.any_eq_true, beq_iff_eq, List.mem_map, List.mem_range]
  constructor
  · rintro ⟨⟨r, hr, hid⟩, h1, h2⟩
    obtain ⟨i, hi, rfl⟩ := List.mem_iff_getElem.1 hr
    have ha : c.attr.toNat < t.attrs.length := by omega
    refine ⟨i * t.attrs.length + c.attr.toNat, cell_lt hi ha, ?_⟩
    rw [crAt_at t ha, rwAt_in hi, Cr.eq_iff]
    exact ⟨hid, by simp; omega⟩
  · rintro ⟨x, hx, rfl⟩
    have hn : 0 < t.attrs.length := by
      rcases Nat.eq_zero_or_pos t.attrs.length with h0 | h0
      · rw [h0] at hx; omega
      · exact h0
    have hm : x / t.attrs.length < t.rows.length := by rw [Nat.div_lt_iff_lt_mul hn]; exact hx
    refine ⟨⟨t.rows[x / t.attrs.length], List.getElem_mem hm, ?_⟩, ?_, ?_⟩
    · unfold crAt; rw [rwAt_in hm]
    · unfold crAt; simp only; omega
    · unfold crAt; simp only; have := Nat.mod_lt x hn; omega
theorem chk_ok {t : Tb} {fds : List Fd} {l : List Cr} (hv : TbV t) (h1 : validT t = 0) (h2 : fdsErr t.attrs.length fds = 0) (h3 : t.rows.length * t.attrs.length ≤ 60) (hl : CellsOk t l) : chkE t fds l = 0 := by
  unfold chkE
  rw [if_neg (by simp [h1]), if_neg (by simp [h2]), if_neg (by omega), if_neg (by simp [hl.sorted]), if_pos]
  rw [List.all_eq_true]
  exact fun c hc => (cellB_in hv).2 (hl.mem c hc)
theorem chooseT_ok {t : Tb} (hv : TbV t) (s : Int) : CellsOk t (chooseT t s) := by
  refine ⟨?_, ?_, by have := chTo_len t s (min (t.rows.length * t.attrs.length) 16); unfold chooseT; omega⟩
  · unfold chooseT chTo sortedC
    rw [List.pairwise_map]
    refine List.Pairwise.imp_of_mem ?_ (List.Pairwise.filter _ List.pairwise_lt_range)
    intro i j _ hj hij
    have hj := List.mem_range.1 (List.mem_filter.1 hj).1
    exact hv.cells_lt hij (by omega)
  · intro c hc
    obtain ⟨i, hi, rfl⟩ := List.mem_map.1 hc
    have hi := List.mem_range.1 (List.mem_filter.1 hi).1
    exact mem_cellsT (by omega)
theorem others_ok {t : Tb} (hv : TbV t) (l : List Cr) : CellsOk t (othersT t l) := ⟨hv.sorted_others l, fun c hc => (mem_othersT.1 hc).1, mem_len_others t hv l⟩
/-- The cells that are not among the others are those of the list. -/
theorem others_others {t : Tb} {fds : List Fd} {l : List Cr} : Okq (probT t fds (othersT t (othersT t l))) ↔ Okq (probT t fds l) := okq_congr fun x hx => by
  rw [mem_othersT, mem_othersT]
  have := mem_cellsT hx
  constructor
  · rintro ⟨_, h2⟩
    exact Classical.byContradiction fun h3 => h2 ⟨this, h3⟩
  · intro h; exact ⟨this, fun h2 => h2.2 h⟩
end Go.Proofs.YteijbpppalhihaaGreat
end

section
/- Op: the arguments of the laws of this chapter, opened. Expanded by pp.py. -/
set_option linter.unusedSimpArgs false
namespace Go.Proofs.YteijbpppalhihaaGreat
open Go Go.AM
theorem gokN (s : AM.St) : GOk Tryz.prog s := fun g hg => by
  rw [show Tryz.prog.globalNamed "math/bits.deBruijn32tab" = none by kernel_rfl] at hg
  cases hg
theorem cells_ok : ∀ t i, T t = some i → Tryz.prog.cellsOf t = i.size := fun t i hi => by
  obtain ⟨inf, h1, h2, _⟩ := tok.info t i hi
  simp [Program.cellsOf, h1, h2]
theorem list_map {α : Type} {enc : α → V} {p : α → Prop} : ∀ {xs : List V}, (∀ x ∈ xs, ∃ a, x = enc a ∧ p a) → ∃ ys : List α, xs = ys.map enc ∧ ∀ y ∈ ys, p y
  | [], _ => ⟨[], rfl, by simp⟩
  | x :: xs, h => by
    obtain ⟨a, rfl, ha⟩ := h x (by simp)
    obtain ⟨ys, rfl, hy⟩ := list_map (xs := xs) (fun y hy => h y (by simp [hy]))
    exact ⟨a :: ys, rfl, fun y hm => (List.mem_cons.1 hm).elim (fun e => e ▸ ha) (hy y)⟩
theorem sh_u8 {n : Nat} {ws : List V} (h : Sh T (n + 1) 5 ws) : ∃ m : Int, ws = [.int .u8 m] ∧ 0 ≤ m ∧ m ≤ 255 := by
  simp [Sh] at h
  obtain ⟨m, rfl, hm⟩ := h
  refine ⟨m, rfl, ?_⟩
  simp [Lit.wf, IntKind.min, IntKind.max, IntKind.signed, IntKind.bits] at hm
  omega
theorem sh_u16 {n : Nat} {ws : List V} (h : Sh T (n + 1) 28 ws) : ∃ m : Int, ws = [.int .u16 m] ∧ 0 ≤ m ∧ m ≤ 65535 := by
  simp [Sh] at h
  obtain ⟨m, rfl, hm⟩ := h
  refine ⟨m, rfl, ?_⟩
  simp [Lit.wf, IntKind.min, IntKind.max, IntKind.signed, IntKind.bits] at hm
  omega
theorem sh_u32 {n : Nat} {ws : List V} (h : Sh T (n + 1) 44 ws) : ∃ m : Nat, ws = [.int .u32 (m : Int)] ∧ m < 4294967296 := by
  simp [Sh] at h
  obtain ⟨m, rfl, hm⟩ := h
  simp [Lit.wf, IntKind.min, IntKind.max, IntKind.signed, IntKind.bits] at hm
  obtain ⟨k, rfl⟩ := Int.eq_ofNat_of_zero_le (show 0 ≤ m by omega)
  exact ⟨k, rfl, by omega⟩
theorem sh_i64 {n : Nat} {ws : List V} (h : Sh T (n + 1) 2 ws) : ∃ m : Int, ws = [.int .i64 m] := by
  simp [Sh] at h
  obtain ⟨m, rfl, hm⟩ := h
  exact ⟨m, rfl⟩
theorem sh_int {n : Nat} {ws : List V} (h : Sh T (n + 1) 3 ws) : ∃ m : Int, ws = [.int .i64 m] := by
  simp [Sh] at h
  obtain ⟨m, rfl, hm⟩ := h
  exact ⟨m, rfl⟩
theorem sh_str {n : Nat} {ws : List V} (h : Sh T (n + 1) 9 ws) : ∃ s : ByteArray, ws = [.str s] ∧ s.size ≤ maxLen := by
  simp [Sh] at h
  exact h
/-- The parts of a struct. -/
theorem sh_fld {n t : Nat} {i : TI} {fs : Array Field} {sz : Nat} {ws : List V} (h : Sh T (n + 1) t ws) (hT : T t = some i) (hd : i.desc = .struct fs) (hs : i.size = sz) : ws.length = sz ∧ ∀ (k : Nat) f j, fs[k]? = some f → T f.type = some j → Sh T n f.type ((ws.drop f.offset).take j.size) := by
  rw [Sh] at h
  simp only [hT, hd] at h
  refine ⟨by rw [← hs]; exact h.1, fun k f j hk hj => ?_⟩
  obtain ⟨j', h1, h2⟩ := h.2 f (by rw [Array.mem_toList_iff]; exact Array.mem_of_getElem? hk)
  rw [hj] at h1
  cases h1
  exact h2
theorem sh_lst {n t e : Nat} {i j : TI} {ws : List V} (h : Sh T (n + 1) t ws) (hT : T t = some i) (hd : i.desc = .slice e) (hj : T e = some j) : ∃ xs, ws = [.lst j.size false xs] ∧ xs.length ≤ maxLen ∧ ∀ x ∈ xs, ∃ ws, Sh T n e ws ∧ ws.length = j.size ∧ x = (if isAggD j.desc then .agg ws else ws.headD .undef) := by
  rw [Sh] at h
  simp only [hT, hd, hj] at h
  exact h
theorem sh_rows {n : Nat} {ws : List V} (h : Sh T (n + 3) 22 ws) : ∃ rs : List (List Int), ws = [.lst 1 false (rs.map LU)] ∧ rs.length ≤ maxLen ∧ ∀ r ∈ rs, r.length ≤ maxLen := by
  obtain ⟨xs, rfl, hl, hx⟩ := sh_lst h T_22 rfl T_155
  obtain ⟨rs, rfl, hr⟩ : ∃ rs : List (List Int), xs = rs.map LU ∧ ∀ r ∈ rs, r.length ≤ maxLen := list_map fun x hxm => by
    obtain ⟨ws, hs, _, rfl⟩ := hx x hxm
    obtain ⟨ys, rfl, hl2, hy⟩ := sh_lst hs T_155 rfl T_5
    obtain ⟨ns, rfl, _⟩ : ∃ ns : List Int, ys = ns.map encU ∧ ∀ n ∈ ns, True := list_map fun y hym => by
      obtain ⟨ws, hs, _, rfl⟩ := hy y hym
      obtain ⟨m, rfl, _⟩ := sh_u8 hs
      exact ⟨m, by simp [isAggD, encU], trivial⟩
    exact ⟨ns, by simp [isAggD, LU], by simpa using hl2⟩
  exact ⟨rs, rfl, by simpa using hl, hr⟩
theorem sh_deps {n : Nat} {ws : List V} (h : Sh T (n + 3) 25 ws) : ∃ ds : List Fd, ws = [.lst 2 false (ds.map encD)] ∧ ds.length ≤ maxLen ∧ ∀ d ∈ ds, d.l < 256 ∧ d.r < 256 := by
  obtain ⟨xs, rfl, hl, hx⟩ := sh_lst h T_25 rfl T_158
  obtain ⟨ds, rfl, hd⟩ : ∃ ds : List Fd, xs = ds.map encD ∧ ∀ d ∈ ds, d.l < 256 ∧ d.r < 256 := list_map fun x hxm => by
    obtain ⟨ws, hs, _, rfl⟩ := hx x hxm
    obtain ⟨hlen, hf⟩ := sh_fld hs T_158 rfl rfl
    obtain ⟨a, b, rfl⟩ : ∃ a b, ws = [a, b] := by
      match ws, hlen with
      | [a, b], _ => exact ⟨a, b, rfl⟩
    obtain ⟨m, e1, p1, p2⟩ := sh_u8 (hf 0 _ _ rfl T_5)
    obtain ⟨k, e2, q1, q2⟩ := sh_u8 (hf 1 _ _ rfl T_5)
    simp at e1 e2
    subst e1
    subst e2
    refine ⟨⟨m.toNat, k.toNat⟩, ?_, by simp only; omega, by simp only; omega⟩
    simp [isAggD, encD, Int.toNat_of_nonneg p1, Int.toNat_of_nonneg q1]
  exact ⟨ds, rfl, by simpa using hl, hd⟩
theorem sh_recipe {n : Nat} {ws : List V} (h : Sh T (n + 4) 24 ws) : ∃ r : Rcp, ws = [.int .u8 r.a, .int .u8 r.gap, .lst 1 false (r.rows.map LU)] ∧ (0 ≤ r.a ∧ r.a ≤ 255) ∧ 0 ≤ r.gap ∧ r.rows.length ≤ maxLen ∧ ∀ x ∈ r.rows, x.length ≤ maxLen := by
  obtain ⟨hlen, hf⟩ := sh_fld h T_24 rfl rfl
  obtain ⟨a, b, c, rfl⟩ : ∃ a b c, ws = [a, b, c] := by
    match ws, hlen with
    | [a, b, c], _ => exact ⟨a, b, c, rfl⟩
  obtain ⟨m, e1, p1, p2⟩ := sh_u8 (hf 0 _ _ rfl T_5)
  obtain ⟨k, e2, q1, q2⟩ := sh_u8 (hf 1 _ _ rfl T_5)
  obtain ⟨rs, e3, l1, l2⟩ := sh_rows (hf 2 _ _ rfl T_22)
  simp at e1 e2 e3
  subst e1
  subst e2
  subst e3
  exact ⟨⟨m, k, rs⟩, rfl, ⟨p1, p2⟩, q1, l1, l2⟩
theorem sh_case {n : Nat} {ws : List V} (h : Sh T (n + 5) 27 ws) : ∃ c : Cs, .agg ws = encCs false false c ∧ CsOk c := by
  obtain ⟨hlen, hf⟩ := sh_fld h T_27 rfl rfl
  obtain ⟨a, b, c, d, rfl⟩ : ∃ a b c d, ws = [a, b, c, d] := by
    match ws, hlen with
    | [a, b, c, d], _ => exact ⟨a, b, c, d, rfl⟩
  obtain ⟨r, e1, p1, p2, p3, p4⟩ := sh_recipe (hf 0 _ _ rfl T_24)
  obtain ⟨ds, e2, q1, q2⟩ := sh_deps (hf 1 _ _ rfl T_25)
  simp at e1 e2
  obtain ⟨rfl, rfl, rfl⟩ := e1
  subst e2
  exact ⟨⟨r, ds⟩, rfl, ⟨⟨p1.1, by show r.a < 256; omega⟩, p2, p4, p3, q1, q2⟩⟩
theorem agg_rel {w : World} {vs : List V} {us : Array Value} (h : CR w vs us.toList) : Rel (AM.base (fun _ => False) w) (.agg vs) (.agg us) :=
  .agg vs us (by simpa using h.len.symm) h.one (fun i c u hc hu => h.rel i c u hc (by simpa using hu))
end Go.Proofs.YteijbpppalhihaaGreat
end

section
/- DrK: regions that draw their order, in which the first two effects stand unordered: both orders are run side by side. -/
set_option linter.unusedVariables false
set_option linter.unusedSimpArgs false
namespace Go.AM
open Go
section
variable {P : Program} {T : Ty}
theorem slotAt_vals {ops : Array Oper} {fr : List V} {val val' : Nat → V} {D : Nat → Bool} {t : Nat} (h : ∀ k, D k = true → val k = val' k) : ∀ n, slotAt ops fr val D n t = slotAt ops fr val' D n t
  | 0 => rfl
  | n + 1 => by
    simp only [slotAt]
    rw [slotAt_vals h n]
    by_cases hD : D n = true
    · rw [h n hD]
    · rw [if_neg (fun hh => hD hh.1), if_neg (fun hh => hD hh.1)]
theorem drawJ_sound (hT : TOk P T) {ops : Array Oper} {E : Bool → List Nat} {val : Bool → Nat → V} {Hs : Bool → Nat → List B} {fr : List V} {s0 : St} {Q : Exit → Act → World → Prop} (hz0 : GOk P s0)
    (hst : statOk ops [] = true) (hE : ∀ j, ∀ e ∈ E j, e < ops.size) (hnd : ∀ j, (E j).Nodup) (hperm : ∀ j j' e, e ∈ E j' → e ∈ E j)
    (hsw : ∀ j c i, i ∈ (E j).drop c → (∀ e ∈ (E j).drop c, e ≠ i → bef (masksFrom [] ops.toList) e i = false) → ∃ j', (E j').length = (E j).length ∧ (E j').take c = (E j).take c ∧ (E j')[c]? = some i ∧ Hs j' c = Hs j c ∧ ∀ k, (∀ e ∈ (E j).drop c, k ≠ e ∧ bef (masksFrom [] ops.toList) e k = false) → val j' k = val j k)
    (hcl : ∀ j i o, ops[i]? = some o → Clause T ops (WCall P) (masksFrom [] ops.toList) (E j) (Hs j) o i (frameAt ops fr (val j) i) (val j i))
    (hQ : ∀ j s a, Good s → Step s0 s → FRel s (frameAt ops fr (val j) ops.size) a.tmps → a.defers = [] → s.H = Hs j (E j).length → Q .normal a s.w) :
    ∀ (fuel : Nat) (listed : Array Bool) (s : St) (a : Act) (j : Bool) (c : Nat), listed.size = ops.size → Closed ops (fun i => listed.getD i false) →
      ((List.range ops.size).filter fun i => !(listed.getD i false)).length ≤ fuel → c ≤ (E j).length → (∀ k e, (E j)[k]? = some e → (listed.getD e false = true ↔ k < c)) →
      Good s → Step s0 s → s.H = Hs j c → FRel s (nowF ops fr (val j) fun i => listed.getD i false) a.tmps → a.defers = [] → wpAny P .any ops Q fuel listed a s.w := by
  simp only [statOk, Bool.and_eq_true, List.all_eq_true, decide_eq_true_eq, List.mem_range] at hst
  have hops := hst.2
  have hback : ∀ (j : Nat) (o : Oper), ops[j]? = some o → ∀ e ∈ o.after.toList, Region.binds .any e = true → e.on < j := fun j o ho e he hbd => by
    have hj := (Array.getElem?_eq_some_iff.1 ho).1
    have := hops j hj
    rw [ho] at this
    simp only [Bool.and_eq_true, List.all_eq_true] at this
    have h1 := this.1.1 e he
    rw [hbd] at h1
    simpa using h1
  have htmp : ∀ (j i : Nat) (oj oi : Oper) (t : Nat), ops[j]? = some oj → ops[i]? = some oi → t ∈ namesOf ops oj → oi.dst = some t → i = j ∨ (i < j ∧ bef (masksFrom [] ops.toList) i j = true) ∨ (j < i ∧ bef (masksFrom [] ops.toList) j i = true) := fun j i oj oi t hoj hoi ht hd => by
    have hj := (Array.getElem?_eq_some_iff.1 hoj).1
    have hi := (Array.getElem?_eq_some_iff.1 hoi).1
    have := hops j hj
    rw [hoj] at this
    simp only [Bool.and_eq_true, List.all_eq_true] at this
    have h2 := this.1.2 t ht i (by simpa using hi)
    rw [hoi] at h2
    simp only [hd, Bool.or_eq_true, Bool.and_eq_true, decide_eq_true_eq, beq_iff_eq, Bool.not_eq_true', beq_eq_false_iff_ne, ne_eq, not_true_eq_false, false_or] at h2
    rcases h2 with (h | h) | h
    · exact .inl h
    · exact .inr (.inl h)
    · exact .inr (.inr h)
  have hmask : ∀ (D : Nat → Bool), Closed ops D → ∀ i j, j < ops.size → bef (masksFrom [] ops.toList) i j = true → D j = true → D i = true := fun D hD i j hj hb hDj => by
    obtain ⟨ms, h1, h2, _⟩ := masks_spec ops.toList []
    rw [List.nil_append] at h1
    have hlen : (masksFrom [] ops.toList).length = ops.size := by rw [h1, h2]; simp
    have hm : (masksFrom [] ops.toList)[j]? = some ((masksFrom [] ops.toList)[j]'(by omega)) := List.getElem?_eq_getElem (by omega)
    unfold bef at hb
    rw [hm] at hb
    exact mask_closed hD hback j i _ hm hb hDj
  have fin : ∀ (listed : Array Bool) (s : St) (a : Act) (jj : Bool) (c : Nat), (∀ i, i < ops.size → listed.getD i false = true) → c ≤ (E jj).length → (∀ k e, (E jj)[k]? = some e → (listed.getD e false = true ↔ k < c)) → Good s → Step s0 s → s.H = (Hs jj) c →
      FRel s (nowF ops fr (val jj) fun i => listed.getD i false) a.tmps → a.defers = [] → Q .normal a s.w := fun listed s a jj c hall hc hpre hg hs hH hf hd => by
    have hcE : c = (E jj).length := by
      rcases Nat.lt_or_ge c (E jj).length with h | h
      · have he : (E jj)[c]? = some (E jj)[c] := List.getElem?_eq_getElem h
        have := (hpre c _ he).1 (hall _ (hE jj _ (List.getElem_mem h)))
        omega
      · omega
    subst hcE
    refine hQ jj s a hg hs ?_ hd hH
    have : (nowF ops fr (val jj) fun i => listed.getD i false) = frameAt ops fr (val jj) ops.size := by
      apply List.ext_getElem?
      intro t
      rw [nowF_at, frameAt_slot]
      refine slotAt_cut (fun j hj _ => hall j hj) (fun j hj hdst => ?_) ops.size (Nat.le_refl _)
      rw [Array.getElem?_eq_none hj] at hdst
      simp at hdst
    rwa [this] at hf
  have done : ∀ (listed : Array Bool), listed.size = ops.size → Region.ready .any ops listed = [] → ∀ i, i < ops.size → listed.getD i false = true := fun listed hsz hr i => by
    induction i using Nat.strongRecOn with
    | _ i ih =>
      intro hi
      cases hD : listed.getD i false with
      | true => rfl
      | false =>
        exfalso
        have hmem : i ∈ Region.ready .any ops listed := by
          unfold Region.ready
          rw [List.mem_filter]
          have ho : ops[i]? = some ops[i] := by simp [hi]
          have hil : i < listed.size := by omega
          refine ⟨by simpa using hi, ?_⟩
          rw [ho]
          simp only [Option.map_some, Option.getD_some, Bool.and_eq_true, Bool.not_eq_true']
          refine ⟨by simp [Array.getD, hil] at hD ⊢; exact hD, ?_⟩
          rw [Array.all_eq_true']
          intro e he
          by_cases hbd : Region.binds .any e = true
          · have hlt := hback i _ ho e (by simpa using he) hbd
            simp [ih e.on hlt (by omega)]
          · simp [hbd]
        rw [hr] at hmem
        simp at hmem
  intro fuel
  induction fuel with
  | zero =>
    intro listed s a jj c hsz hcl2 hcnt hc hpre hg hs hH hf hd
    have hall : ∀ i, i < ops.size → listed.getD i false = true := fun i hi => by
      cases hD : listed.getD i false with
      | true => rfl
      | false =>
        exfalso
        have : i ∈ (List.range ops.size).filter fun i => !(listed.getD i false) := by rw [List.mem_filter]; exact ⟨by simpa using hi, by simp only [hD]; rfl⟩
        have h0 : ((List.range ops.size).filter fun i => !(listed.getD i false)) = [] := List.eq_nil_of_length_eq_zero (by omega)
        rw [h0] at this
        simp at this
    refine ⟨?_, fin listed s a jj c hall hc hpre hg hs hH hf hd⟩
    unfold Region.ready
    rw [List.filter_eq_nil_iff]
    intro i hi
    have hil : i < listed.size := by rw [hsz]; simpa using hi
    have := hall i (by simpa using hi)
    have h1 : listed.getD i true = true := by simpa [Array.getD, hil] using this
    simp [h1]
  | succ fuel ih =>
    intro listed s a jj c hsz hcl2 hcnt hc hpre hg hs hH hf hd
    refine ⟨fun hr => fin listed s a jj c (done listed hsz hr) hc hpre hg hs hH hf hd, fun i hi => ?_⟩
    unfold Region.ready at hi
    rw [List.mem_filter] at hi
    obtain ⟨hin, hcond⟩ := hi
    have hin : i < ops.size := by simpa using hin
    have hil : i < listed.size := by omega
    have ho : ops[i]? = some ops[i] := by simp [hin]
    generalize ops[i] = o at ho
    rw [ho] at hcond
    simp only [Option.map_some, Option.getD_some, Bool.and_eq_true, Bool.not_eq_true'] at hcond
    obtain ⟨hDi, hedge⟩ := hcond
    have hDi : listed.getD i false = false := by simp only [Array.getD, hil, dif_pos] at hDi ⊢; exact hDi
    rw [Array.all_eq_true'] at hedge
    have hD' : ∀ j, (listed.setIfInBounds i true).getD j false = if j = i then true else listed.getD j false := fun j => by
      by_cases hj : j = i
      · subst hj; simp [Array.getD, hil]
      · rw [if_neg hj, Array.getD_eq_getD_getElem?, Array.getD_eq_getD_getElem?, Array.getElem?_setIfInBounds_ne (Ne.symm hj)]
    have hclosed' : Closed ops (fun j => (listed.setIfInBounds i true).getD j false) := fun j oj hoj hj e he hb => by
      simp only [hD'] at hj ⊢
      by_cases hji : j = i
      · subst hji
        rw [ho] at hoj
        cases hoj
        have := hedge e (by simpa using he)
        rw [hb] at this
        simp at this
        split
        · rfl
        · simpa using this
      · rw [if_neg hji] at hj
        split
        · rfl
        · exact hcl2 j oj hoj hj e he hb
    have before : ∀ j, j ≠ i → bef (masksFrom [] ops.toList) j i = true → listed.getD j false = true := fun j hji hb => by
      have := hmask _ hclosed' j i hin hb (by simp [hD'])
      simp only [hD', if_neg hji] at this
      exact this
    have behind : ∀ j, j < ops.size → bef (masksFrom [] ops.toList) i j = true → listed.getD j false = false := fun j hj hb => by
      cases hDj : listed.getD j false with
      | false => rfl
      | true => have := hmask _ hcl2 i j hj hb hDj; rw [hDi] at this; cases this
    -- the class in which this operation comes next
    have hsel : ∃ j', (E j').length = (E jj).length ∧ (∀ k e, (E j')[k]? = some e → (listed.getD e false = true ↔ k < c)) ∧ s.H = Hs j' c ∧ FRel s (nowF ops fr (val j') fun i => listed.getD i false) a.tmps ∧ (i ∈ E j' → (E j')[c]? = some i) := by
      by_cases hiE : i ∈ E jj
      · obtain ⟨ki, hki⟩ := List.getElem?_of_mem hiE
        have hkc : c ≤ ki := by
          rcases Nat.lt_or_ge ki c with h | h
          · have := (hpre ki i hki).2 h; rw [hDi] at this; cases this
          · exact h
        have hin' : i ∈ (E jj).drop c := List.mem_of_getElem? (i := ki - c) (by rw [List.getElem?_drop, Nat.add_sub_cancel' hkc]; exact hki)
        have notl : ∀ e ∈ (E jj).drop c, listed.getD e false = false := fun e he => by
          obtain ⟨k, hk⟩ := List.getElem?_of_mem he
          rw [List.getElem?_drop] at hk
          cases hD : listed.getD e false with
          | false => rfl
          | true => have := (hpre _ e hk).1 hD; omega
        obtain ⟨j', h1, h2, h3, h4, h5⟩ := hsw jj c i hin' (fun e he hne => by
          cases hb : bef (masksFrom [] ops.toList) e i with
          | false => rfl
          | true => have := before e hne hb; rw [notl e he] at this; cases this)
        refine ⟨j', h1, fun k e hk => ?_, hH.trans h4.symm, ?_, fun _ => h3⟩
        · rcases Nat.lt_or_ge k c with hkc | hkc
          · have hk2 : (E jj)[k]? = some e := by
              have e1 : ((E j').take c)[k]? = some e := by rw [List.getElem?_take, if_pos hkc]; exact hk
              rw [h2, List.getElem?_take, if_pos hkc] at e1
              exact e1
            exact hpre k e hk2
          · constructor
            · intro hD
              exfalso
              -- e is one of the effects of the class, and not among the first c
              have hmem : e ∈ E jj := hperm jj j' e (List.mem_of_getElem? hk)
              obtain ⟨k2, hk2⟩ := List.getElem?_of_mem hmem
              have hlt := (hpre k2 e hk2).1 hD
              have e1 : ((E jj).take c)[k2]? = some e := by rw [List.getElem?_take, if_pos hlt]; exact hk2
              rw [← h2, List.getElem?_take, if_pos hlt] at e1
              have hk2l := getElem?_lt e1
              have hkl := getElem?_lt hk
              have e2 : (E j')[k2] = e := by rw [List.getElem?_eq_getElem hk2l] at e1; exact Option.some.inj e1
              have e3 : (E j')[k] = e := by rw [List.getElem?_eq_getElem hkl] at hk; exact Option.some.inj hk
              have := (List.getElem_inj (hnd j')).1 (e2.trans e3.symm)
              omega
            · intro h; omega
        · have hv : (nowF ops fr (val j') fun i => listed.getD i false) = (nowF ops fr (val jj) fun i => listed.getD i false) := by
            apply List.ext_getElem?
            intro t
            rw [nowF_at, nowF_at]
            refine slotAt_vals (fun k hk => ?_) _
            refine h5 k fun e he => ⟨fun h => ?_, ?_⟩
            · subst h; rw [notl _ he] at hk; cases hk
            · cases hb : bef (masksFrom [] ops.toList) e k with
              | false => rfl
              | true =>
                have hkl : k < ops.size := by
                  rcases Nat.lt_or_ge k ops.size with h | h
                  · exact h
                  · rw [Array.getD_eq_getD_getElem?, Array.getElem?_eq_none (by omega)] at hk; cases hk
                have := hmask _ hcl2 e k hkl hb hk
                rw [notl e he] at this; cases this
          rw [hv]; exact hf
      · exact ⟨jj, rfl, hpre, hH, hf, fun h => absurd h hiE⟩
    obtain ⟨j', hj1, hj2, hj3, hj4, hj5⟩ := hsel
    rw [← hj1] at hc
    clear hpre hH hf
    have hpre := hj2
    have hH := hj3
    have hf := hj4
    clear hj2 hj3 hj4 hj1
    clear jj
    rename Bool => jj
    -- the slots that the operation meets
    have meets : ∀ t, t ∈ namesOf ops o → (∀ j, j < i → (ops[j]?).bind (·.dst) = some t → listed.getD j false = true) ∧ (∀ j, i < j → (ops[j]?).bind (·.dst) = some t → listed.getD j false = false) := fun t ht => by
      refine ⟨fun j hj hdst => ?_, fun j hj hdst => ?_⟩
      · cases hoj : ops[j]? with
        | none => rw [hoj] at hdst; simp at hdst
        | some oj =>
          rw [hoj] at hdst
          rcases htmp i j o oj t ho hoj ht (by simpa using hdst) with h | h | h
          · omega
          · exact before j (by omega) h.2
          · omega
      · cases hoj : ops[j]? with
        | none => rw [hoj] at hdst; simp at hdst
        | some oj =>
          rw [hoj] at hdst
          rcases htmp i j o oj t ho hoj ht (by simpa using hdst) with h | h | h
          · omega
          · omega
          · exact behind j (Array.getElem?_eq_some_iff.1 hoj).1 h.2
    have agree : ∀ t, t ∈ namesOf ops o → (nowF ops fr (val jj) fun i => listed.getD i false)[t]? = (frameAt ops fr (val jj) i)[t]? := fun t ht => by
      rw [nowF_at, frameAt_slot]
      refine slotAt_cut (meets t ht).1 (fun j hj hdst => ?_) ops.size (by omega)
      by_cases hji : j = i
      · subst hji; exact hDi
      · exact (meets t ht).2 j (by omega) hdst
    have hop : ∀ x ∈ o.op.operands, evalA (nowF ops fr (val jj) fun i => listed.getD i false) x = evalA (frameAt ops fr (val jj) i) x := fun x hx => by
      refine evalA_congr fun t e => agree t ?_
      subst e
      simp only [namesOf, Oper.looksAt, List.mem_append, List.mem_filterMap]
      exact .inl (.inl ⟨.tmp t, by simpa using hx, rfl⟩)
    have hwant : wantA ops (nowF ops fr (val jj) fun i => listed.getD i false) o = wantA ops (frameAt ops fr (val jj) i) o := by
      unfold wantA
      cases hgd : o.guard with
      | none => rfl
      | some g =>
        obtain ⟨j, want⟩ := g
        simp only
        cases hoj : ops[j]? with
        | none => rfl
        | some oj =>
          simp only
          cases hdj : oj.dst with
          | none => rfl
          | some d =>
            simp only
            rw [agree d (by simp [namesOf, Oper.looksAt, hgd, hoj, hdj])]
    -- what comes behind
    have next : ∀ {s1 : St} {u : Value} {c' : Nat}, Good s1 → Step s s1 → Rel s1 ((val jj) i) u → c' ≤ (E jj).length → s1.H = (Hs jj) c' → (∀ k e, (E jj)[k]? = some e → ((listed.setIfInBounds i true).getD e false = true ↔ k < c')) →
        wpAny P .any ops Q fuel (listed.setIfInBounds i true) (a.put o.dst u) s1.w := fun {s1 u c'} g1 g2 g3 g4 g5 g6 => by
      refine ih _ s1 _ jj c' (by simp [hsz]) hclosed' ?_ g4 g6 g1 (hs.trans g2) g5 ?_ (by rw [put_defers]; exact hd)
      · have := filter_less (p := fun j => !(listed.getD j false)) (q := fun j => !((listed.setIfInBounds i true).getD j false)) (i := i) (by simp only [hDi]; rfl) (by simp [hD']) (fun j hj => by
          simp only [hD'] at hj
          split at hj
          · simp at hj
          · exact hj) (l := List.range ops.size) (by simpa using hin)
        omega
      · have hnow : (nowF ops fr (val jj) fun j => (listed.setIfInBounds i true).getD j false) = putF (nowF ops fr (val jj) fun j => listed.getD j false) o.dst ((val jj) i) := by
          apply List.ext_getElem?
          intro t
          rw [nowF_at]
          cases hdst : (o.dst : Option Nat) with
          | none =>
            simp only [putF]
            rw [nowF_at]
            refine slotAt_congr (fun j hj => ?_) _
            simp only [hD']
            split
            · rename_i hji; subst hji; rw [ho] at hj; simp [hdst] at hj
            · rfl
          | some d =>
            simp only [putF]
            have hlen : (nowF ops fr (val jj) fun j => listed.getD j false).length = fr.length := by simp [nowF]
            by_cases hdt : d = t
            · subst hdt
              have hm := meets d (by simp [namesOf, hdst])
              have e1 := slotAt_cut (fr := fr) (val := val jj) (D := fun j => (listed.setIfInBounds i true).getD j false) (i := i + 1) (t := d) (fun j hj hdj => by
                simp only [hD']
                split
                · rfl
                · exact hm.1 j (by omega) hdj) (fun j hj hdj => by
                simp only [hD']
                rw [if_neg (by omega)]
                exact hm.2 j (by omega) hdj) ops.size (by omega)
              rw [e1]
              simp only [slotAt]
              by_cases hlt : d < fr.length
              · rw [if_pos ⟨trivial, by rw [ho]; simpa using hdst, hlt⟩, List.getElem?_set_self (by rw [hlen]; exact hlt)]
              · rw [if_neg (by simp [hlt]), List.getElem?_set, if_pos rfl, if_neg (by rw [hlen]; exact hlt)]
                have := slotAt_some (ops := ops) (fr := fr) (val := val jj) (D := fun _ => true) i d
                cases h : slotAt ops fr (val jj) (fun _ => true) i d with
                | none => rfl
                | some v => rw [h] at this; simp [hlt] at this
            · rw [List.getElem?_set_ne hdt, nowF_at]
              refine slotAt_congr (fun j hj => ?_) _
              simp only [hD']
              split
              · rename_i hji; subst hji; rw [ho] at hj; simp [hdst] at hj; exact absurd hj hdt
              · rfl
        rw [hnow]
        exact (hf.step g2).put g3 o.dst
    have sameE : i ∉ (E jj) → ∀ k e, (E jj)[k]? = some e → ((listed.setIfInBounds i true).getD e false = true ↔ k < c) := fun hiE k e he => by
      rw [hD', if_neg (fun h : e = i => hiE (by rw [← h]; exact List.mem_of_getElem? he))]
      exact hpre k e he
    have hpos : i ∉ (E jj) → posB (masksFrom [] ops.toList) (E jj) i c = true := fun hiE => by
      simp only [posB, List.all_eq_true, List.mem_range]
      intro k hk
      have he : (E jj)[k]? = some (E jj)[k] := List.getElem?_eq_getElem hk
      rw [he]
      simp only
      split
      · rename_i hkc
        have hD := (hpre k _ he).2 hkc
        cases hb : bef (masksFrom [] ops.toList) i (E jj)[k] with
        | false => rfl
        | true => have := behind _ (hE jj _ (List.getElem_mem hk)) hb; rw [hD] at this; cases this
      · rename_i hkc
        cases hb : bef (masksFrom [] ops.toList) (E jj)[k] i with
        | false => rfl
        | true =>
          have := before _ (fun h => hiE (h ▸ List.getElem_mem hk)) hb
          exact absurd ((hpre k _ he).1 this) hkc
    have eff : i ∈ E jj → (E jj).idxOf i = c ∧ (∀ k' e, (E jj)[k']? = some e → ((listed.setIfInBounds i true).getD e false = true ↔ k' < c + 1)) ∧ c + 1 ≤ (E jj).length := fun hiE => by
      have hk := hj5 hiE
      have hkl := getElem?_lt hk
      have hidx : (E jj).idxOf i = c := by
        have h1 := List.idxOf_lt_length_of_mem hiE
        have h2 : (E jj)[(E jj).idxOf i] = i := by simp
        have h3 : (E jj)[c] = i := by rw [List.getElem?_eq_getElem hkl] at hk; exact Option.some.inj hk
        exact (List.getElem_inj (hnd jj)).1 (h2.trans h3.symm)
      refine ⟨hidx, fun k' e he => ?_, by omega⟩
      rw [hD']
      by_cases hei : e = i
      · subst hei
        have hkl' := getElem?_lt he
        have h2 : (E jj)[k'] = e := by rw [List.getElem?_eq_getElem hkl'] at he; exact Option.some.inj he
        have h3 : (E jj)[c] = e := by rw [List.getElem?_eq_getElem hkl] at hk; exact Option.some.inj hk
        have := (List.getElem_inj (hnd jj)).1 (h2.trans h3.symm)
        simp; omega
      · rw [if_neg hei, hpre k' e he]
        constructor
        · omega
        · intro h
          rcases Nat.lt_or_ge k' c with h' | h'
          · exact h'
          · exfalso
            have hk'c : k' = c := by omega
            subst hk'c
            rw [hk] at he; cases he; exact hei rfl
    have hclause := hcl jj i o ho
    unfold Clause at hclause
    rw [← hwant] at hclause
    unfold wpOp
    rw [ho]
    simp only
    split at hclause
    · -- it does not run
      rename_i hw
      rw [want_sound hf hw]
      simp only [Bool.false_eq_true, if_false]
      have hiE : i ∉ (E jj) := by simpa using hclause.2
      exact next hg (Step.refl s) (by rw [hclause.1]; exact .tup [] #[] rfl (by simp)) hc hH (sameE hiE)
    · rename_i hw
      rw [want_sound hf hw]
      simp only [if_true]
      left
      split at hclause
      · -- a call
        rename_i f args hcall
        have hin2 : f ∈ o.op.operands ∧ ∀ x ∈ args, x ∈ o.op.operands := by
          unfold callOf at hcall
          split at hcall
          · rename_i cc hoc
            split at hcall
            · rename_i f' hcal
              cases hcall
              rw [hoc]
              simp only [Op.operands, Call.operands, hcal]
              exact ⟨by simp, fun x hx => by simp; exact .inr (by simpa using hx)⟩
            · cases hcall
          · cases hcall
        have hf1 : evalA (frameAt ops fr (val jj) i) f = evalA (nowF ops fr (val jj) fun i => listed.getD i false) f := (hop f hin2.1).symm
        have hf2 : args.map (evalA (frameAt ops fr (val jj) i)) = args.map (evalA (nowF ops fr (val jj) fun i => listed.getD i false)) := List.map_congr_left fun x hx => (hop x (hin2.2 x hx)).symm
        split at hclause
        · rename_i hEi
          have hiE : i ∈ (E jj) := by simpa using hEi
          obtain ⟨hidx, hpre', hcE⟩ := eff hiE
          have hcc := hclause
          rw [hidx, ← hH] at hcc
          rw [hf1, hf2] at hcc
          refine call_sound hcall (hz0.step hs) hg hf hcc (fun u s1 r g1 g2 g3 g4 => ?_)
          obtain ⟨rfl, g5⟩ := g4
          exact next g1 g2 g3 hcE g5 hpre'
        · rename_i hEi
          have hiE : i ∉ (E jj) := by simpa using hEi
          have hcc := allC_at hclause c (by simp; omega)
          rw [if_pos (hpos hiE), ← hH] at hcc
          rw [hf1, hf2] at hcc
          refine call_sound hcall (hz0.step hs) hg hf hcc (fun u s1 r g1 g2 g3 g4 => ?_)
          obtain ⟨rfl, g5⟩ := g4
          exact next g1 g2 g3 hc (g5.trans hH) (sameE hiE)
      · split at hclause
        · -- an effect
          rename_i hEi
          have hiE : i ∈ (E jj) := by simpa using hEi
          obtain ⟨hidx, hpre', hcE⟩ := eff hiE
          rw [hidx, ← aop_congr (ρ := evalA (nowF ops fr (val jj) fun i => listed.getD i false)) hop, ← hH] at hclause
          obtain ⟨nx, s1, k1, k2, k3, k4, k5⟩ := aop_sound (P := P) hT hg (fun x => hf.eval x) hclause
          unfold Oper.wp
          rw [k1]
          rcases k5 with ⟨u, rfl, hr⟩ | ⟨rfl, hv⟩
          · rw [Oper.upon_value]; exact next k3 k4 hr hcE k2 hpre'
          · rw [Oper.upon_skip]; exact next k3 k4 (by rw [hv]; exact .tup [] #[] rfl (by simp)) hcE k2 hpre'
        · rename_i hEi
          have hiE : i ∉ (E jj) := by simpa using hEi
          have hcc := allC_at hclause c (by simp; omega)
          rw [if_pos (hpos hiE), ← aop_congr (ρ := evalA (nowF ops fr (val jj) fun i => listed.getD i false)) hop, ← hH] at hcc
          obtain ⟨nx, s1, k1, k2, k3, k4, k5⟩ := aop_sound (P := P) hT hg (fun x => hf.eval x) hcc
          unfold Oper.wp
          rw [k1]
          rcases k5 with ⟨u, rfl, hr⟩ | ⟨rfl, hv⟩
          · rw [Oper.upon_value]; exact next k3 k4 hr hc (k2.trans hH) (sameE hiE)
          · rw [Oper.upon_skip]; exact next k3 k4 (by rw [hv]; exact .tup [] #[] rfl (by simp)) hc (k2.trans hH) (sameE hiE)
    · exact hclause.elim

end
/-- Both orders, in the order of the text. D: the operations that hang on an effect. -/
def obl2 (T : Ty) (ops : Array Oper) (n : Nat) (E1 E2 D : List Nat) (H1 H2 : Nat → List B) (K : List V → List B → Prop) : List Oper → Nat → List V → List V → Prop
  | [], _, f1, f2 => K f1 (H1 n) ∧ K f2 (H2 n)
  | o :: rest, i, f1, f2 =>
    if E1.contains i = true then
      (match aop T o.op (evalA f1) (H1 (E1.idxOf i)), aop T o.op (evalA f2) (H2 (E2.idxOf i)) with
        | some (v1, G1), some (v2, G2) => (G1 = H1 (E1.idxOf i + 1) ∧ G2 = H2 (E2.idxOf i + 1)) ∧ obl2 T ops n E1 E2 D H1 H2 K rest (i + 1) (putF f1 o.dst v1) (putF f2 o.dst v2)
        | _, _ => False)
    else (match aop T o.op (evalA f1) (H1 0), aop T o.op (evalA f2) (H2 0) with
        | some (v1, G1), some (v2, G2) => ((if scalOp o.op = true then True else allC (fun c => aop T o.op (evalA f1) (H1 c) = some (v1, H1 c) ∧ aop T o.op (evalA f2) (H2 c) = some (v2, H2 c)) (List.range (n + 1))) ∧ (if D.contains i = true then True else v1 = v2)) ∧ obl2 T ops n E1 E2 D H1 H2 K rest (i + 1) (putF f1 o.dst v1) (putF f2 o.dst v2)
        | _, _ => False)
/-- The static check. -/
def stat2K (ops : Array Oper) (E1 E2 D : List Nat) : Bool :=
  let ms := masksFrom [] ops.toList
  statOk ops [] && (E1.length == E2.length && (decide E1.Nodup && (decide E2.Nodup && (E1.all (fun e => E2.contains e && decide (e < ops.size)) && (E2.all (fun e => E1.contains e) &&
    ((List.range ops.size).all (fun i => (match ops[i]? with
        | some o => o.guard.isNone && ((callOf o.op).isNone && (E1.contains i || stillOp o.op))
        | none => true) && (!D.contains i || E1.any fun e => i == e || bef ms e i)) &&
    ([(E1, E2), (E2, E1)].all fun p => (List.range (E1.length + 1)).all fun c => (p.1.drop c).all fun i =>
      (!((p.1.drop c).all fun e => e == i || !bef ms e i)) || (p.1[c]? == some i || (c == 0 && p.2[0]? == some i)))))))))
section
variable {P : Program} {T : Ty}
def Out2 (T : Ty) (ops : Array Oper) (n : Nat) (E1 E2 D : List Nat) (H1 H2 : Nat → List B) (K : List V → List B → Prop) (C : V → List V → List B → (V → List B → Prop) → Prop) (l : List Oper) (i : Nat) (f1 f2 : List V) : Prop :=
  ∃ vs1 vs2 g1 g2, vs1.length = l.length ∧ vs2.length = l.length ∧ oblOps T ops C (masksFrom [] ops.toList) E1 H1 l i f1 vs1 ∧ oblOps T ops C (masksFrom [] ops.toList) E2 H2 l i f2 vs2 ∧
        (∀ (val : Nat → V) (fr0 : List V), (∀ k, k < vs1.length → vs1[k]? = some (val (i + k))) → f1 = frameAt ops fr0 val i → g1 = frameAt ops fr0 val ops.size) ∧
        (∀ (val : Nat → V) (fr0 : List V), (∀ k, k < vs2.length → vs2[k]? = some (val (i + k))) → f2 = frameAt ops fr0 val i → g2 = frameAt ops fr0 val ops.size) ∧
        (∀ k, k < l.length → D.contains (i + k) = false → E1.contains (i + k) = false → vs1[k]? = vs2[k]?) ∧ K g1 (H1 n) ∧ K g2 (H2 n)
theorem obl2_ok {ops : Array Oper} {n : Nat} {E1 E2 D : List Nat} {H1 H2 : Nat → List B} {K : List V → List B → Prop} {C : V → List V → List B → (V → List B → Prop) → Prop}
    (hl1 : E1.length = n) (hl2 : E2.length = n) (hmem : ∀ i, E1.contains i = E2.contains i)
    (hst : ∀ i o, ops[i]? = some o → o.guard = none ∧ callOf o.op = none ∧ (E1.contains i = false → stillOp o.op = true)) :
    ∀ (l : List Oper) (i : Nat) (f1 f2 : List V), l = ops.toList.drop i → obl2 T ops n E1 E2 D H1 H2 K l i f1 f2 →
      Out2 T ops n E1 E2 D H1 H2 K C l i f1 f2
  | [], i, f1, f2, hl, h => by
    have hi : ops.size ≤ i := by
      have := congrArg List.length hl
      simp at this
      omega
    have hfr : ∀ (val : Nat → V) (fr0 : List V), ∀ d, frameAt ops fr0 val (ops.size + d) = frameAt ops fr0 val ops.size := fun val fr0 d => by
      induction d with
      | zero => rfl
      | succ d ih =>
        rw [show ops.size + (d + 1) = (ops.size + d) + 1 by omega, frameAt, Array.getElem?_eq_none (by omega)]
        exact ih
    obtain ⟨d, rfl⟩ := Nat.exists_eq_add_of_le hi
    exact ⟨[], [], f1, f2, rfl, rfl, trivial, trivial, fun val fr0 _ h => by rw [h, hfr], fun val fr0 _ h => by rw [h, hfr], fun k hk => by simp at hk, h.1, h.2⟩
  | o :: rest, i, f1, f2, hl, h => by
    have ho : ops[i]? = some o := by
      have := congrArg (fun l => l[0]?) hl
      simp at this
      exact this.symm
    have hrest : rest = ops.toList.drop (i + 1) := by
      have := congrArg List.tail hl
      simpa using this
    obtain ⟨hg, hc, hs⟩ := hst i o ho
    have hw : ∀ f, wantA ops f o = some true := fun f => by unfold wantA; rw [hg]
    -- what comes behind, put together
    have fin : ∀ v1 v2, Clause T ops C (masksFrom [] ops.toList) E1 H1 o i f1 v1 → Clause T ops C (masksFrom [] ops.toList) E2 H2 o i f2 v2 → (D.contains i = false → E1.contains i = false → v1 = v2) →
        obl2 T ops n E1 E2 D H1 H2 K rest (i + 1) (putF f1 o.dst v1) (putF f2 o.dst v2) → Out2 T ops n E1 E2 D H1 H2 K C (o :: rest) i f1 f2 := fun v1 v2 c1 c2 hd hr => by
      obtain ⟨vs1, vs2, g1, g2, a1, a2, a3, a4, a5, a6, a7, a8, a9⟩ := obl2_ok (C := C) hl1 hl2 hmem hst rest (i + 1) _ _ hrest hr
      have fr : ∀ (f : List V) (v : V) (vs : List V) (g : List V), (∀ (val : Nat → V) (fr0 : List V), (∀ k, k < vs.length → vs[k]? = some (val (i + 1 + k))) → putF f o.dst v = frameAt ops fr0 val (i + 1) → g = frameAt ops fr0 val ops.size) →
          ∀ (val : Nat → V) (fr0 : List V), (∀ k, k < (v :: vs).length → (v :: vs)[k]? = some (val (i + k))) → f = frameAt ops fr0 val i → g = frameAt ops fr0 val ops.size := fun f v vs g hh val fr0 hv hf => by
        have hv0 : v = val i := by have := hv 0 (by simp); simpa using this
        refine hh val fr0 (fun k hk => ?_) ?_
        · have := hv (k + 1) (by simp; omega)
          rw [List.getElem?_cons_succ] at this
          rw [this, show i + (k + 1) = i + 1 + k by omega]
        · rw [frameAt, ho, hv0, hf]
      refine ⟨v1 :: vs1, v2 :: vs2, g1, g2, by simp [a1], by simp [a2], ⟨c1, a3⟩, ⟨c2, a4⟩, fr f1 v1 vs1 g1 a5, fr f2 v2 vs2 g2 a6, fun k hk hD hE => ?_, a8, a9⟩
      cases k with
      | zero => simp only [Nat.add_zero] at hD hE; simp [hd hD hE]
      | succ k =>
        rw [List.getElem?_cons_succ, List.getElem?_cons_succ]
        exact a7 k (by simpa using hk) (by rw [show i + 1 + k = i + (k + 1) by omega]; exact hD) (by rw [show i + 1 + k = i + (k + 1) by omega]; exact hE)
    unfold obl2 at h
    split at h
    · rename_i hE
      split at h
      · rename_i v1 G1 v2 G2 q1 q2
        obtain ⟨⟨rfl, rfl⟩, hr⟩ := h
        refine fin v1 v2 ?_ ?_ (fun _ hE' => by rw [hE] at hE'; cases hE') hr
        · unfold Clause; simp only [hw, hc, hE, if_true]; exact q1
        · unfold Clause; simp only [hw, hc, hmem i ▸ hE, if_true]; exact q2
      · exact h.elim
    · rename_i hE
      have hE : E1.contains i = false := by simpa using hE
      have hE2 : E2.contains i = false := hmem i ▸ hE
      split at h
      · rename_i v1 G1 v2 G2 q1 q2
        obtain ⟨⟨hall, hd⟩, hr⟩ := h
        have each : ∀ c, c < n + 1 → aop T o.op (evalA f1) (H1 c) = some (v1, H1 c) ∧ aop T o.op (evalA f2) (H2 c) = some (v2, H2 c) := fun c hcl => by
          split at hall
          · rename_i hsc
            exact ⟨scalOp_ok hsc q1 _, scalOp_ok hsc q2 _⟩
          · exact allC_at hall c (by simpa using hcl)
        refine fin v1 v2 ?_ ?_ (fun hD _ => ?_) hr
        · unfold Clause; simp only [hw, hc, hE, Bool.false_eq_true, if_false]
          refine oblT_ok.allC_of fun c hcm => ?_
          split
          · exact (each c (by rw [hl1] at hcm; simpa using hcm)).1
          · trivial
        · unfold Clause; simp only [hw, hc, hE2, Bool.false_eq_true, if_false]
          refine oblT_ok.allC_of fun c hcm => ?_
          split
          · exact (each c (by rw [hl2] at hcm; simpa using hcm)).2
          · trivial
        · rw [hD] at hd
          simpa using hd
      · exact h.elim
/-- A region that draws its order, in which the first two effects stand unordered. -/
theorem W_draw2 (hT : TOk P T) (hm : P.follows .mixedOrders = true) {id : Nat} {ops : Array Oper} {Q : Exit → List V → List B → Prop} {fr : List V} {H : List B} (E1 E2 D : List Nat) (hs1 hs2 : List (List B)) (hst : stat2K ops E1 E2 D = true)
    (h : ∀ (K : List V → List B → Prop), (∀ fr H, Q .normal fr H → K fr H) → obl2 T ops E1.length E1 E2 D (fun c => ((H :: hs1)[c]?).getD []) (fun c => ((H :: hs2)[c]?).getD []) K ops.toList 0 fr fr) : W P (.region id ops true) Q fr H := by
  intro s a hH hg hf hd
  obtain ⟨rfl, hz0⟩ := hH
  have hob := h (Q .normal) (fun _ _ h => h)
  simp only [stat2K, Bool.and_eq_true, beq_iff_eq, decide_eq_true_eq] at hst
  obtain ⟨t1, t2, t3, t4, t5, t6, t7, t8⟩ := hst
  have m12 : ∀ e ∈ E1, e ∈ E2 ∧ e < ops.size := fun e he => by have := List.all_eq_true.1 t5 e he; simpa using this
  have m21 : ∀ e ∈ E2, e ∈ E1 := fun e he => by have := List.all_eq_true.1 t6 e he; simpa using this
  have hmem : ∀ i, E1.contains i = E2.contains i := fun i => by
    rw [Bool.eq_iff_iff, List.contains_iff_mem, List.contains_iff_mem]
    exact ⟨fun h => (m12 i h).1, m21 i⟩
  have hops : ∀ i o, ops[i]? = some o → (o.guard = none ∧ callOf o.op = none ∧ (E1.contains i = false → stillOp o.op = true)) ∧ (D.contains i = true → ∃ e ∈ E1, i = e ∨ bef (masksFrom [] ops.toList) e i = true) := fun i o ho => by
    have hil := (Array.getElem?_eq_some_iff.1 ho).1
    have := List.all_eq_true.1 t7 i (by simpa using hil)
    rw [ho] at this
    simp only [Bool.and_eq_true, Bool.or_eq_true, Option.isNone_iff_eq_none, Bool.not_eq_true', List.any_eq_true, beq_iff_eq] at this
    obtain ⟨⟨g1, g2, g3⟩, g4⟩ := this
    exact ⟨⟨g1, g2, fun hE => by rcases g3 with g3 | g3; rw [hE] at g3; cases g3; exact g3⟩, fun hD => by rcases g4 with g4 | g4; rw [hD] at g4; cases g4; exact g4⟩
  obtain ⟨vs1, vs2, g1, g2, a1, a2, a3, a4, a5, a6, a7, a8, a9⟩ := obl2_ok (C := WCall P) rfl t2.symm hmem (fun i o ho => (hops i o ho).1) ops.toList 0 fr fr (by simp) hob
  let val : Bool → Nat → V := fun b i => ((cond b vs1 vs2)[i]?).getD .undef
  have hv1 : ∀ k, k < vs1.length → vs1[k]? = some (val true (0 + k)) := fun k hk => by simp [val, hk]
  have hv2 : ∀ k, k < vs2.length → vs2[k]? = some (val false (0 + k)) := fun k hk => by simp [val, hk]
  have hc1 := obl_at (fr0 := fr) (val := val true) ops.toList 0 vs1 (by simp) hv1 a3
  have hc2 := obl_at (fr0 := fr) (val := val false) ops.toList 0 vs2 (by simp) hv2 a4
  have hg1 := a5 (val true) fr hv1 rfl
  have hg2 := a6 (val false) fr hv2 rfl
  refine wp_region_any hm ?_
  obtain ⟨d1, d2⟩ := step_grow hg (w := { s.w with drawn := s.w.drawn + 1 }) rfl rfl rfl (Nat.le_refl _) (fun _ _ => rfl)
  have hget : ∀ j, (Array.replicate ops.size false).getD j false = false := fun j => by
    rw [Array.getD_eq_getD_getElem?, Array.getElem?_replicate]; split <;> rfl
  have hnow : nowF ops fr (val true) (fun i => (Array.replicate ops.size false).getD i false) = fr := by
    apply List.ext_getElem?
    intro t
    rw [nowF_at]
    exact slotAt_cut (i := 0) (fun j hj => absurd hj (by omega)) (fun j _ _ => hget j) ops.size (Nat.zero_le _)
  refine drawJ_sound hT hz0 (s0 := s) (E := fun b => cond b E1 E2) (val := val) (Hs := fun b c => ((s.H :: cond b hs1 hs2)[c]?).getD []) t1 ?_ ?_ ?_ ?_ ?_ ?_ ops.size _ (s.at _) a true 0 (by simp) (fun j o _ hj => by simp only [hget] at hj; cases hj) ?_ (Nat.zero_le _) (fun k e _ => by rw [hget]; simp) d1 d2 rfl (by rw [hnow]; exact hf.step d2) hd
  · intro j e he
    cases j with
    | true => exact (m12 e he).2
    | false => exact (m12 e (m21 e he)).2
  · intro j
    cases j with
    | true => exact t3
    | false => exact t4
  · intro j j' e he
    cases j <;> cases j' <;> first | exact he | exact (m12 e he).1 | exact m21 e he
  · intro j c i hi hbef
    have hcl : c < (cond j E1 E2).length := by
      have := List.length_pos_of_mem hi
      rw [List.length_drop] at this; omega
    have hlen : (cond j E1 E2).length = E1.length := by cases j; exact t2.symm; rfl
    have hpair : (cond j E1 E2, cond j E2 E1) ∈ [(E1, E2), (E2, E1)] := by cases j <;> simp
    have q := List.all_eq_true.1 (List.all_eq_true.1 (List.all_eq_true.1 t8 _ hpair) c (by simp; omega)) i hi
    simp only [Bool.or_eq_true, Bool.not_eq_true', Bool.and_eq_true, beq_iff_eq] at q
    rcases q with q | q | ⟨rfl, q⟩
    · exfalso
      rw [Bool.eq_false_iff] at q
      refine q (List.all_eq_true.2 fun e he => ?_)
      by_cases hei : e = i
      · simp [hei]
      · rw [hbef e he hei]; simp
    · exact ⟨j, rfl, rfl, q, rfl, fun _ _ => rfl⟩
    · refine ⟨!j, ?_, rfl, ?_, ?_, fun k hk => ?_⟩
      · cases j; exact t2; exact t2.symm
      · cases j <;> exact q
      · cases j <;> rfl
      · have hind : ∀ e ∈ E1, k ≠ e ∧ bef (masksFrom [] ops.toList) e k = false := fun e he => hk e (by
          cases j with
          | true => simpa using he
          | false => simpa using (m12 e he).1)
        by_cases hkl : k < ops.size
        · have ho : ops[k]? = some ops[k] := by simp [hkl]
          have hD : D.contains k = false := by
            cases hDk : D.contains k with
            | false => rfl
            | true =>
              obtain ⟨e, he, hx⟩ := (hops k _ ho).2 hDk
              rcases hx with hx | hx
              · exact absurd hx (hind e he).1
              · rw [(hind e he).2] at hx; cases hx
          have hE : E1.contains k = false := by
            rw [Bool.eq_false_iff, ne_eq, List.contains_iff_mem]
            exact fun hh => (hind k hh).1 rfl
          have := a7 k (by simpa using hkl) (by rw [Nat.zero_add]; exact hD) (by rw [Nat.zero_add]; exact hE)
          cases j <;> simp only [val, cond_true, cond_false, Bool.not_true, Bool.not_false, this]
        · have e1 : vs1[k]? = none := List.getElem?_eq_none (by rw [a1]; simpa using Nat.le_of_not_lt hkl)
          have e2 : vs2[k]? = none := List.getElem?_eq_none (by rw [a2]; simpa using Nat.le_of_not_lt hkl)
          cases j <;> simp only [val, cond_true, cond_false, Bool.not_true, Bool.not_false, e1, e2]
  · intro j i o ho
    cases j with
    | true => exact hc1 i o (Nat.zero_le _) ho
    | false => exact hc2 i o (Nat.zero_le _) ho
  · intro j s' a' k1 k2 k3 k4 k5
    cases j with
    | true => exact ⟨g1, s', rfl, k1, k2, by rw [hg1]; exact k3, k4, by rw [k5]; exact a8⟩
    | false => exact ⟨g2, s', rfl, k1, k2, by rw [hg2]; exact k3, k4, by rw [k5]; show Q .normal g2 (((s.H :: hs2)[E2.length]?).getD []); rw [← t2]; exact a9⟩
  · exact Nat.le_trans (List.length_filter_le _ _) (by simp)
end
attribute [simp] obl2
end Go.AM
end
