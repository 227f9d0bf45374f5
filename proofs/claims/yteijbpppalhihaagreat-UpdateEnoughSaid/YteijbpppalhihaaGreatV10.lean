/- V10: the program's errors: closure.Valid, ordered, Find, check. Expanded by pp.py. -/
import Derived.Test.YteijbpppalhihaaGreatV9
set_option linter.unusedVariables false
set_option linter.unusedSimpArgs false
set_option maxRecDepth 100000
namespace Go.Proofs.YteijbpppalhihaaGreat
open Go Go.AM
theorem or_lt {a b n : Nat} : a ||| b < 2 ^ n ↔ a < 2 ^ n ∧ b < 2 ^ n := by
  constructor
  · intro h
    exact ⟨Nat.lt_of_le_of_lt Nat.left_le_or h, Nat.lt_of_le_of_lt Nat.right_le_or h⟩
  · rintro ⟨h1, h2⟩; exact Nat.or_lt_two_pow h1 h2
theorem shr32 (a n : Nat) (hn : n ≤ 16) : ((a : Int)).fdiv (2 ^ min n IntKind.u32.bits) = ((a / 2 ^ n : Nat) : Int) := by
  have h1 : min n IntKind.u32.bits = n := Nat.min_eq_left (by show n ≤ 32; omega)
  rw [h1, Int.fdiv_eq_ediv_of_nonneg _ (by have : (0 : Int) < 2 ^ n := Int.pow_pos (by omega); omega)]
  simp
theorem fdOk_or (n : Nat) (d : Fd) : fdOk n d = decide ((d.l ||| d.r) / 2 ^ n = 0) := by
  rw [Bool.eq_iff_iff, decide_eq_true_iff, Nat.div_eq_zero_iff_lt (Nat.pow_pos (by omega)), or_lt]
  unfold fdOk
  simp
set_option maxHeartbeats 16000000 in
theorem closureValid (n : Nat) (fds : List Fd) (f : Bool) (hn : n ≤ 16) (hF : FdsOk fds) : ConP Tryz.prog 88 [.int .i64 n, LF f fds] fun r => r = .int .i64 (fdsErr n fds) := by
  obtain ⟨hF1, hF2⟩ := hF
  have hn1 : ¬ (16 : Int) < n := by omega
  have hn0 : ¬ (n : Int) < 0 := by omega
  unfold fdsErr
  by_cases h64 : 64 < fds.length
  · rw [if_pos h64]
    refine conP_of_conH (conH_of_W tok Tryz.func88 rfl rfl ?_)
    refine W_x tok mixed ?_
    simp -implicitDefEqProofs -dsimp [Tryz.f88, List.replicate, LF, hn0, hn1, show (64 : Int) < fds.length by omega]
  · rw [if_neg h64]
    obtain ⟨E, hE⟩ : ∃ E : Int, E = if fds.all (fdOk n) then 0 else 1 := ⟨_, rfl⟩
    rw [← hE]
    refine conP_of_conH (conH_of_W tok Tryz.func88 rfl rfl ?_)
    refine W_x tok mixed ?_
    simp -implicitDefEqProofs -dsimp [Tryz.f88, List.replicate, LF, hn0, hn1, show ¬ (64 : Int) < fds.length by omega]
    refine lw_of (W_loopV [false, false, false, false, true, false, true, false, false, false, false, false, false, false, false, false, false, false, true, true, true, true, true, true, true, true, true, true, true, true, true] (σ := Nat) (fun i => i ≤ fds.length ∧ (if (fds.drop i).all (fdOk n) then (0 : Int) else 1) = E) (fun i => fds.length - i) (fun i => [(18, .int .i64 i)]) (fun _ => []) 0 ⟨by omega, by rw [hE, List.drop_zero]⟩ (by simp) rfl (by simp) ?_)
    rintro i ⟨hi, hx⟩ N Q hN hQ
    by_cases hb : i < fds.length
    · rw [List.drop_eq_getElem_cons hb, List.all_cons, fdOk_or] at hx
      obtain ⟨h1, h2⟩ := hF2 fds[i] (List.getElem_mem hb)
      have ho := or32 fds[i].l fds[i].r h1 h2
      have hs := shr32 (fds[i].l ||| fds[i].r) n hn
      obtain ⟨q, hq⟩ : ∃ q, q = (fds[i].l ||| fds[i].r) / 2 ^ n := ⟨_, rfl⟩
      rw [← hq] at hs hx
      obtain ⟨o, hoe⟩ : ∃ o, o = fds[i].l ||| fds[i].r := ⟨_, rfl⟩
      rw [← hoe] at ho hs
      by_cases h0 : q = 0
      · rw [decide_eq_true h0, Bool.true_and] at hx
        rw [h0] at hs
        refine W_x tok mixed ?_
        simp -implicitDefEqProofs -dsimp [hb, encF, ho, hs, wrapS i (by omega)]
        refine hN (i + 1) _ _ ⟨by omega, hx⟩ (by omega) ?_ ⟨[B.cells [.int .u32 (fds[i].l : Int), .int .u32 (fds[i].r : Int)]], ?_⟩ ?_ ?_ <;> simp [or_imp, forall_and, L1, encI, LF]
      · rw [decide_eq_false h0, Bool.false_and, if_neg (by simp)] at hx
        refine W_x tok mixed ?_
        simp -implicitDefEqProofs -dsimp [hb, encF, ho, hs, show ¬ ((q : Int) = 0) by omega, h0]
        refine hQ _ _ _ ?_
        simp -implicitDefEqProofs -dsimp []
        exact hx
    · rw [List.drop_of_length_le (by omega)] at hx
      refine W_x tok mixed ?_
      simp -implicitDefEqProofs -dsimp [hb]
      refine hQ _ _ _ ?_
      simp -implicitDefEqProofs -dsimp []
      simpa using hx
open Classical in
noncomputable def sortB (l : List Cr) : Bool := decide (sortedC l)
theorem sortB_iff {l : List Cr} : sortB l = true ↔ sortedC l := by unfold sortB; simp
theorem sorted_of_chain {l : List Cr} (h : ∀ j (h : j + 1 < l.length), cLt l[j] l[j + 1]) : sortedC l := by
  unfold sortedC
  rw [List.pairwise_iff_getElem]
  intro i j hi hj hij
  induction j with
  | zero => omega
  | succ j ih =>
    rcases Nat.lt_or_ge i j with h1 | h1
    · exact cLt_trans (ih (by omega) h1) (h j hj)
    · have : i = j := by omega
      subst this; exact h i hj
theorem sortB_no {l : List Cr} {j : Nat} (h : j + 1 < l.length) (hn : ¬ cLt l[j] l[j + 1]) : sortB l = false := by
  cases hb : sortB l
  · rfl
  · exact absurd (sortedC_lt (sortB_iff.1 hb) (by omega) h (by omega)) hn
set_option maxHeartbeats 16000000 in
theorem ordered_u (l : List Cr) (f : Bool) (hl : l.length ≤ 1000000) : ConP Tryz.prog 89 [LC f l] fun r => r = .bool (sortB l) := by
  obtain ⟨E, hE⟩ : ∃ E, E = sortB l := ⟨_, rfl⟩
  rw [← hE]
  refine conP_of_conH (conH_of_W tok Tryz.func89 rfl rfl ?_)
  refine W_x tok mixed ?_
  simp -implicitDefEqProofs -dsimp [Tryz.f89, List.replicate, LC]
  refine lw_of (W_loopV [false, false, true, true, true, true, true, true, true, true, true, true, true, true, true, true, true, true, true, true, true] (σ := Nat) (fun i => 1 ≤ i ∧ ∀ j (h : j + 1 < l.length), j + 1 < i → cLt l[j] l[j + 1]) (fun i => l.length - i) (fun i => [(3, .int .i64 i)]) (fun _ => []) 1 ⟨by omega, fun j _ h => by omega⟩ (by simp) rfl (by simp) ?_)
  rintro i ⟨hi, hx⟩ N Q hN hQ
  by_cases hb : i < l.length
  · obtain ⟨k, hki⟩ : ∃ k, i = k + 1 := ⟨i - 1, by omega⟩
    have hk : k < l.length := by omega
    have hc := compare_c l[k] l[i]
    have hw : IntKind.i64.wrap ((i : Int) - 1) = (k : Int) := by rw [wrapP i (by omega) hi]; omega
    simp only [encCr] at hc
    by_cases hq : cmpC l[k] l[i] < 0
    · have hlt := (cmpC_lt _ _).1 hq
      refine W_x tok mixed ?_
      simp -implicitDefEqProofs -dsimp [hb, hw, hk, encCr]
      refine .inr ⟨stop_of (by kernel_rfl), ?_⟩
      refine cy_of _ (callP (hc) (by simp)) ?_
      simp -implicitDefEqProofs -dsimp [show ¬ 0 ≤ cmpC l[k] l[i] by omega, wrapS i (by omega)]
      refine hN (i + 1) _ _ ⟨by omega, fun j h hj => ?_⟩ (by omega) (by simp) ⟨[], rfl⟩ (by simp) (by simp)
      rcases Nat.lt_or_ge j k with h1 | h1
      · exact hx j h (by omega)
      · have : j = k := by omega
        subst this; subst hki; exact hlt
    · have hno : sortB l = false := by
        subst hki
        exact sortB_no hb (fun h => hq ((cmpC_lt _ _).2 h))
      rw [hno] at hE
      refine W_x tok mixed ?_
      simp -implicitDefEqProofs -dsimp [hb, hw, hk, encCr]
      refine .inr ⟨stop_of (by kernel_rfl), ?_⟩
      refine cy_of _ (callP (hc) (by simp)) ?_
      simp -implicitDefEqProofs -dsimp [show 0 ≤ cmpC l[k] l[i] by omega]
      refine hQ _ _ _ ?_
      simp -implicitDefEqProofs -dsimp []
      exact hE
  · have hyes : sortB l = true := sortB_iff.2 (sorted_of_chain fun j h => hx j h (by omega))
    rw [hyes] at hE
    refine W_x tok mixed ?_
    simp -implicitDefEqProofs -dsimp [hb]
    refine hQ _ _ _ ?_
    simp -implicitDefEqProofs -dsimp []
    exact hE
def ixR (p : Rw → Bool) (rs : List Rw) (i : Nat) : Int := if h : i < rs.length then (if p rs[i] then (i : Int) else ixR p rs (i + 1)) else -1
termination_by rs.length - i
theorem ixR_any (p : Rw → Bool) (rs : List Rw) (i : Nat) : decide (0 ≤ ixR p rs i) = (rs.drop i).any p := by
  fun_induction ixR p rs i with
  | case1 i h h0 => rw [List.drop_eq_getElem_cons h, List.any_cons, h0]; simp
  | case2 i h h0 ih => rw [List.drop_eq_getElem_cons h, List.any_cons, ih]; simp [h0]
  | case3 i h => rw [List.drop_of_length_le (by omega)]; rfl
set_option maxHeartbeats 8000000 in
theorem idxFuncR (H : List B) (fv : V) (p : Rw → Bool) (rs : List Rw) (g : Bool) (hes : rs.length ≤ 1000000) (hH : ∀ bl ∈ H, rbB H.length bl) (hfv : rb H.length fv)
    (hp : ∀ m ∈ rs, WCall Tryz.prog fv [encRw m] H fun r H' => r = .bool (p m) ∧ ∃ G, H' = H ++ G) : ConH Tryz.prog 130 [LR g rs, fv] H fun r H' => r = .int .i64 (ixR p rs 0) ∧ ∃ G, H' = H ++ G := by
  refine conH_of_W tok Tryz.func130 rfl rfl ?_
  refine W_x tok mixed ?_
  simp -implicitDefEqProofs -dsimp [Tryz.f130, List.replicate, LR]
  refine lw_of (W_loopV [false, false, false, false, true, true, false, false, true, true, true, true, true, true, true, true, true, true, true] (σ := Nat) (fun i => ixR p rs i = ixR p rs 0) (fun i => rs.length - i) (fun i => [(8, .int .i64 i)]) (fun _ => H) 0 rfl (by simp) rfl (by simp) ?_)
  intro i hx N Q hN hQ
  by_cases hb : i < rs.length
  · rw [ixR, dif_pos hb] at hx
    have hc := hp rs[i] (List.getElem_mem hb)
    cases hq : p rs[i]
    · rw [hq] at hc hx
      simp only [encRw, LV] at hc
      refine W_x tok mixed ?_
      simp -implicitDefEqProofs -dsimp [hb, encRw, LV]
      refine hc.mono ?_
      rintro r H' ⟨rfl, G, rfl⟩
      simp -implicitDefEqProofs -dsimp [wrapS i (by omega)]
      refine hN (i + 1) _ _ (by simpa using hx) (by omega) (by simp) ⟨G, rfl⟩ (by simp; exact hfv) hH
    · rw [hq] at hc hx
      simp only [encRw, LV] at hc
      refine W_x tok mixed ?_
      simp -implicitDefEqProofs -dsimp [hb, encRw, LV]
      refine hc.mono ?_
      rintro r H' ⟨rfl, G, rfl⟩
      simp -implicitDefEqProofs -dsimp []
      refine hQ _ _ _ ?_
      simp -implicitDefEqProofs -dsimp []
      simpa using hx
  · rw [ixR, dif_neg hb] at hx
    refine W_x tok mixed ?_
    simp -implicitDefEqProofs -dsimp [hb]
    refine hQ _ _ _ ?_
    simp -implicitDefEqProofs -dsimp []
    simpa using hx
def hasId (t : Tb) (id : Int) : Bool := t.rows.any fun r => r.id == id
def findI (t : Tb) (id : Int) : Int := ixR (fun r => r.id == id) t.rows 0
theorem findI_has (t : Tb) (id : Int) : decide (0 ≤ findI t id) = hasId t id := by
  have := ixR_any (fun r => r.id == id) t.rows 0
  rw [List.drop_zero] at this
  exact this
set_option maxHeartbeats 8000000 in
theorem find_t (t : Tb) (ff gg : Bool) (id : Int) (hr : t.rows.length ≤ 1000000) : ConP Tryz.prog 90 [encTb ff gg t, .int .i64 id] fun r => r = .tup [.int .i64 (if 0 ≤ findI t id then findI t id else 0), .bool (hasId t id)] := by
  have hh := findI_has t id
  have hclo : ∀ m ∈ t.rows, WCall Tryz.prog (.fn 131 [.ptr 1 0]) [encRw m] [B.cells [.str t.name, LS ff t.attrs, LR gg t.rows], B.cells [.int .i64 id]] fun r H' => r = .bool (m.id == id) ∧ ∃ G, H' = [B.cells [.str t.name, LS ff t.attrs, LR gg t.rows], B.cells [.int .i64 id]] ++ G := fun m hm => by
    simp only [WCall, List.cons_append, List.nil_append]
    refine conH_of_W tok Tryz.func131 rfl rfl ?_
    refine W_x tok mixed ?_
    simp -implicitDefEqProofs -dsimp [Tryz.f131, List.replicate, encRw, LS, LR, LV]
  have hcf := idxFuncR [B.cells [.str t.name, LS ff t.attrs, LR gg t.rows], B.cells [.int .i64 id]] (.fn 131 [.ptr 1 0]) (fun m => m.id == id) t.rows gg hr (by simp [LS, LR]) (by simp) hclo
  simp only [LS, LR] at hcf
  rw [← hh]
  refine conP_of_conH (conH_of_W tok Tryz.func90 rfl rfl ?_)
  refine W_x tok mixed ?_
  simp -implicitDefEqProofs -dsimp [Tryz.f90, List.replicate, encTb, LS, LR]
  refine WCall.mono (K := fun r H' => r = .int .i64 (findI t id) ∧ ∃ G, H' = [B.cells [.str t.name, .lst 1 ff (t.attrs.map V.str), .lst 2 gg (t.rows.map encRw)], B.cells [.int .i64 id]] ++ G) hcf ?_
  rintro r H' ⟨rfl, G, rfl⟩
  by_cases h0 : 0 ≤ findI t id
  · rw [if_pos h0]
    simp -implicitDefEqProofs -dsimp [h0, show ¬ findI t id < 0 by omega]
  · rw [if_neg h0]
    simp -implicitDefEqProofs -dsimp [h0, show findI t id < 0 by omega]
end Go.Proofs.YteijbpppalhihaaGreat
