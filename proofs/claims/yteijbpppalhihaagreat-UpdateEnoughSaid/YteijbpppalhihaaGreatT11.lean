/- T11: copies of rows and tables. Expanded by pp.py. -/
import Derived.Test.YteijbpppalhihaaGreatT10
import Derived.Test.YteijbpppalhihaaGreatWd
set_option linter.unusedVariables false
set_option linter.unusedSimpArgs false
set_option maxRecDepth 100000
namespace Go.Proofs.YteijbpppalhihaaGreat
open Go Go.AM
theorem rel_agg_lf {s : AM.St} {cs ds : List V} {u : Value} (h : Rel s (.agg cs) u) (hl : LfL cs ds) : Rel s (.agg ds) u := by
  cases h with
  | agg _ us h1 h2 h3 =>
    have hlen := hl.len
    refine .agg ds us (by omega) (fun d hd => ?_) (fun i d u hd hu => ?_)
    · obtain ⟨i, hi⟩ := List.mem_iff_getElem?.1 hd
      have hc : cs[i]? = some (cs[i]'(by have := getElem?_lt hi; omega)) := List.getElem?_eq_getElem _
      exact lf_one (hl.at_ i _ d hc hi) (h2 _ (List.mem_of_getElem? hc))
    · have hc : cs[i]? = some (cs[i]'(by have := getElem?_lt hd; omega)) := List.getElem?_eq_getElem _
      exact lf_rel (h3 i _ u hc hu) (hl.at_ i _ d hc hd)
theorem conP_lf {P : Program} {f : FuncId} {args : List V} {v v' : V} (h : ConP P f args fun r => r = v) (hr : ∀ (s : AM.St) u, Rel s v u → Rel s v' u) (hp : AM.Pure v') : ConP P f args fun r => r = v' := by
  refine ⟨h.1, fun F w vals hZ hF hsz hrel => (h.2 F w vals hZ hF hsz hrel).mono fun e w' ⟨u, r, a1, a2, a3, a4, a5⟩ => ?_⟩
  subst a5
  exact ⟨u, v', a1, hp, hr _ u a3, a4, rfl⟩
theorem cap32l (n : Nat) (h : n ≤ 1000000000) : n ≤ 9223372036854775807 ∧ n * 32 ≤ 140737488355328 := by omega
set_option maxHeartbeats 8000000 in
theorem cp03 (r : Rw) (hl : r.vals.length ≤ 1000000) : ConP Tryz.prog 96 [encRw r] fun x => x = encRw r := by
  by_cases h0 : r.vals = []
  · refine conP_lf (v := .agg [.int .i64 r.id, .lst 3 true []]) ?_ (fun s u h => ?_) (by simp)
    · refine conP_of_conH (conH_of_W (tok_flag tok (fun t => t == 64)) Tryz.func96 rfl rfl ?_)
      refine W_x (tok_flag tok (fun t => t == 64)) mixed ?_
      simp -implicitDefEqProofs -dsimp [Tryz.f96, List.replicate, encRw, LV, flagT]
      refine lw_of (W_drawP (tok_flag tok (fun t => t == 64)) mixed [7] [] [] (by kernel_rfl) fun C K hC hK => ?_)
      simp -implicitDefEqProofs [h0, flagT]
      refine hK _ _ ?_
      simp -implicitDefEqProofs -dsimp [flagT]
    · have := rel_agg_lf (ds := [.int .i64 r.id, .lst 3 false []]) h (by simp [LfL, lfB])
      simpa [encRw, LV, h0] using this
  · refine conP_of_conH (conH_of_W (tok_flag tok (fun t => t == 64)) Tryz.func96 rfl rfl ?_)
    refine W_x (tok_flag tok (fun t => t == 64)) mixed ?_
    simp -implicitDefEqProofs -dsimp [Tryz.f96, List.replicate, encRw, LV, flagT]
    refine lw_of (W_drawP (tok_flag tok (fun t => t == 64)) mixed [7] [] [] (by kernel_rfl) fun C K hC hK => ?_)
    simp -implicitDefEqProofs [h0, cap32l r.vals.length (by omega), flagT]
    refine hK _ _ ?_
    simp -implicitDefEqProofs -dsimp [flagT]
    rfl
theorem cap16l (n : Nat) (h : n ≤ 1000000000) : n ≤ 9223372036854775807 ∧ n * 16 ≤ 140737488355328 := by omega
set_option maxHeartbeats 16000000 in
theorem with03 (t : Tb) (rs : List Rw) (f g h : Bool) (ha : t.attrs.length ≤ 1000000) (hr : rs.length ≤ 1000000) (hv : ∀ r ∈ rs, r.vals.length ≤ 1000000) : ConP Tryz.prog 57 [encTb f g t, LR h rs] fun x => x = encTb false false ⟨t.name, t.attrs, rs⟩ := by
  have hne : t.attrs = [] ∨ ¬ t.attrs = [] := by by_cases h : t.attrs = []; exact .inl h; exact .inr h
  rcases hne with hne | hne
  case' inl =>
    refine conP_of_conH (conH_of_W (tok_flag tok (fun t => t == 29)) Tryz.func57 rfl rfl ?_)
    refine W_x (tok_flag tok (fun t => t == 29)) mixed ?_
    simp -implicitDefEqProofs -dsimp [Tryz.f57, List.replicate, encTb, LS, LR, flagT]
    refine lw_of (W_drawP (tok_flag tok (fun t => t == 29)) mixed [7, 8] [(1, [1]), (2, [1]), (4, [1]), (5, [1])] [] (by kernel_rfl) fun C K hC hK => ?_)
    simp -implicitDefEqProofs [hne, flagT]
    refine hK _ _ ?_
    simp -implicitDefEqProofs -dsimp [flagT]
  case' inr =>
    refine conP_of_conH (conH_of_W (tok_flag tok (fun t => t == 29)) Tryz.func57 rfl rfl ?_)
    refine W_x (tok_flag tok (fun t => t == 29)) mixed ?_
    simp -implicitDefEqProofs -dsimp [Tryz.f57, List.replicate, encTb, LS, LR, flagT]
    refine lw_of (W_drawP (tok_flag tok (fun t => t == 29)) mixed [7, 8] [(1, [1]), (2, [1]), (4, [1]), (5, [1])] [] (by kernel_rfl) fun C K hC hK => ?_)
    simp -implicitDefEqProofs [hne, cap16l t.attrs.length (by omega), flagT]
    refine hK _ _ ?_
    simp -implicitDefEqProofs -dsimp [flagT]
  all_goals
    refine lw_of (W_lf 2 _ [.str t.name, .lst 1 false (t.attrs.map V.str), .nilS] rfl (lfL_refl _) (by simp [LfL, lfB, hne]) (W_ownC 66 2 [] 2 [2] rfl (lfL_own _ _) (by simp) (W_loopV [false, false, false, false, false, false, true, false, false, true, false, true, true, true, true, true, true, true, true, true, true, true, true, true, true, true, true, true, true, true] (σ := Nat) (fun i => i ≤ rs.length) (fun i => rs.length - i) (fun i => [(6, .int .i64 i)]) (fun i => [B.cells [.str t.name, .lst 1 f (t.attrs.map V.str), .lst 2 g (t.rows.map encRw)], B.cells [.str ByteArray.empty, .nilS, .nilS], B.cells [.str t.name, .lst 1 false (t.attrs.map V.str), .buf 3 0 i i], B.buf 66 2 ((rs.take i).map encRw) false]) 0 (by omega) (by simp [hne]) (by simp [hne]) (by simp) ?_)))
    intro i hi N Q hN hQ
    have hli : (rs.take i).length = i := by simp; omega
    by_cases hb : i < rs.length
    · have hst : rs.take (i + 1) = rs.take i ++ [rs[i]] := List.take_succ_eq_append_getElem hb
      have hc := cp03 rs[i] (hv _ (List.getElem_mem hb))
      obtain ⟨l, hl⟩ : ∃ l, l = rs.take i := ⟨_, rfl⟩
      rw [← hl] at hst hli ⊢
      refine W_x (tok_flag tok (fun t => t == 29)) mixed ?_
      simp -implicitDefEqProofs -dsimp [hb, flagT]
      refine lw_of (W_drawT (tok_flag tok (fun t => t == 29)) mixed [8, 10] [] [(encRw rs[i], [])] (by kernel_rfl) fun C K hC hK => ?_)
      simp -implicitDefEqProofs [hb, encRw, LV, hli, cap32 i (by omega), flagT]
      refine ⟨hC _ _ _ _ (callP hc (by simp)), hK _ _ ?_⟩
      simp -implicitDefEqProofs -dsimp [wrapS i (by omega), flagT]
      refine hN (i + 1) _ _ (by omega) (by omega) ?_ ⟨[], ?_⟩ ?_ ?_ <;> simp [or_imp, forall_and, L1, encI, hst, encRw, LV]
    · obtain rfl : i = rs.length := by omega
      rw [List.take_length]
      refine W_frzC 3 [] 2 [2] rfl rfl (by simp) (by simp) ?_
      refine W_x (tok_flag tok (fun t => t == 29)) mixed ?_
      simp -implicitDefEqProofs -dsimp [hb, flagT]
      refine hQ _ _ _ ?_
      simp -implicitDefEqProofs -dsimp [flagT]
      simp only [encTb, LS, LR]
end Go.Proofs.YteijbpppalhihaaGreat
