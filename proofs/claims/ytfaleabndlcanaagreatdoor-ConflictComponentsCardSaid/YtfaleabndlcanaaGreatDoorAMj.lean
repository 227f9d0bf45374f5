import Derived.Test.YtfaleabndlcanaaGreatDoorAMi
/- Exx: results with own lists inside, as values. -/
namespace Go.AM
open Go
inductive ExpX (H : List B) : V → V → Prop
  | pure (v : V) (h : Pure v) : ExpX H v v
  | buf (k e z : Nat) (xs : List V) (fz : Bool) (hk : H[k]? = some (.buf e z xs fz)) (hp : ∀ x ∈ xs, Pure x) : ExpX H (.buf k 0 xs.length xs.length) (.lst z false xs)
  | bufx (k e z : Nat) (xs ys : List V) (fz : Bool) (hk : H[k]? = some (.buf e z xs fz)) (hl : xs.length = ys.length) (h : ∀ (i : Nat) c d, xs[i]? = some c → ys[i]? = some d → ExpX H c d) : ExpX H (.buf k 0 xs.length xs.length) (.lst z false ys)
  | agg (cs ds : List V) (hl : cs.length = ds.length) (h : ∀ (i : Nat) c d, cs[i]? = some c → ds[i]? = some d → ExpX H c d) : ExpX H (.agg cs) (.agg ds)
  | tup (cs ds : List V) (hl : cs.length = ds.length) (h : ∀ (i : Nat) c d, cs[i]? = some c → ds[i]? = some d → ExpX H c d) : ExpX H (.tup cs) (.tup ds)
theorem exL_of {f : Nat → V → Option V} : ∀ {xs ys : List V}, xs.length = ys.length → (∀ (i : Nat) x y, xs[i]? = some x → ys[i]? = some y → ∃ d0, ∀ d, d0 ≤ d → f d x = some y) → ∃ d0, ∀ d, d0 ≤ d → exL (f d) xs = some ys
  | [], [], _, _ => ⟨0, fun _ _ => rfl⟩
  | x :: xs, y :: ys, hl, h => by
    obtain ⟨d1, h1⟩ := h 0 x y rfl rfl
    obtain ⟨d2, h2⟩ := exL_of (xs := xs) (ys := ys) (by simpa using hl) (fun i a b ha hb => h (i + 1) a b (by simpa using ha) (by simpa using hb))
    exact ⟨max d1 d2, fun d hd => by simp only [exL, h1 d (by omega), h2 d (by omega)]⟩
theorem ExpX.ex {H : List B} {v v' : V} (h : ExpX H v v') : ∃ d0, ∀ d, d0 ≤ d → exV H 0 d v = some v' := by
  induction h with
  | pure v h => exact exV_pure h
  | buf k e z xs fz hk hp =>
    obtain ⟨d0, h0⟩ := exL_pure (f := exV H 0) (fun v hv => exV_pure (hp v hv))
    refine ⟨d0 + 1, fun d hd => ?_⟩
    obtain ⟨m, rfl⟩ : ∃ m, d = m + 1 := ⟨d - 1, by omega⟩
    simp only [exV, Nat.not_lt_zero, if_false, hk]
    rw [if_pos ⟨by first | trivial | rfl, by omega⟩, List.drop_zero, List.take_length, h0 m (by omega)]
  | bufx k e z xs ys fz hk hl _ ih =>
    obtain ⟨d0, h0⟩ := exL_of (f := exV H 0) hl ih
    refine ⟨d0 + 1, fun d hd => ?_⟩
    obtain ⟨m, rfl⟩ : ∃ m, d = m + 1 := ⟨d - 1, by omega⟩
    simp only [exV, Nat.not_lt_zero, if_false, hk]
    rw [if_pos ⟨by first | trivial | rfl, by omega⟩, List.drop_zero, List.take_length, h0 m (by omega)]
  | agg cs ds hl _ ih =>
    obtain ⟨d0, h0⟩ := exL_of (f := exV H 0) hl ih
    exact ⟨d0 + 1, fun d hd => by obtain ⟨m, rfl⟩ : ∃ m, d = m + 1 := ⟨d - 1, by omega⟩; simp only [exV, h0 m (by omega)]⟩
  | tup cs ds hl _ ih =>
    obtain ⟨d0, h0⟩ := exL_of (f := exV H 0) hl ih
    exact ⟨d0 + 1, fun d hd => by obtain ⟨m, rfl⟩ : ∃ m, d = m + 1 := ⟨d - 1, by omega⟩; simp only [exV, h0 m (by omega)]⟩
theorem ExpX.agg2 {H : List B} {a b c d : V} (h1 : ExpX H a c) (h2 : ExpX H b d) : ExpX H (.agg [a, b]) (.agg [c, d]) := .agg _ _ rfl (fun i x y hx hy => by
  match i with
  | 0 => simp at hx hy; subst hx; subst hy; exact h1
  | 1 => simp at hx hy; subst hx; subst hy; exact h2
  | i + 2 => simp at hx)
theorem expx_buf {H : List B} {k len e z : Nat} {xs : List V} {fz : Bool} (hk : H[k]? = some (.buf e z xs fz)) (hl : len = xs.length) (hp : ∀ x ∈ xs, Pure x) : ExpX H (.buf k 0 len len) (.lst z false xs) := by
  subst hl
  exact .buf k e z xs fz hk hp
theorem conP_of_conX {P : Program} {f : FuncId} {args : List V} {K : V → Prop} (h : ConH P f args [] fun r H => ∃ r', ExpX H r r' ∧ Pure r' ∧ K r') : ConP P f args K := by
  refine ⟨h.1, fun F w vals hZ hF hsz hrel => ?_⟩
  refine (h.2 (base F w) vals ⟨rfl, hZ⟩ (base_good hF) hsz hrel).mono fun e w' ⟨u, s', r, a1, a2, a3, a4, a5, r', a6, a7, a8⟩ => ?_
  subst a2
  have hb := below_of_step a4
  refine ⟨u, r', a1, a7, ?_, hb, a8⟩
  have hFs : s'.F = F := a4.F
  obtain ⟨d0, hd⟩ := a6.ex
  have hr := ex_rel (H := []) (G := s'.H) a3 rfl d0 r r' u a5 (hd d0 (Nat.le_refl _))
  exact hr.pure_ (t := base F s'.w) a7 (fun b hb => ⟨⟨hb.1, fun hf => hb.2.1 (by show s'.F b; rw [hFs]; exact hf), fun k hk => by have := hk.1; simp [base] at this⟩, rfl⟩)
end Go.AM

/- OwnE: nil lists inside the elements of an own list become own lists of no capacity. -/
namespace Go.AM
open Go
section
variable {P : Program} {T : Ty}
theorem W_ownE (e z k0 i : Nat) (sc : List Nat) {c : Code} {Q : Exit → List V → List B → Prop} {fr : List V} {H : List B} {e0 z0 : Nat} {xs cs : List V} (hk : H[k0]? = some (.buf e0 z0 xs false)) (hx : xs[i]? = some (.agg cs)) (hc : OwnF H.length cs (ownAt H.length sc 0 cs))
    (h : W P c Q fr (H.set k0 (.buf e0 z0 (xs.set i (.agg (ownAt H.length sc 0 cs))) false) ++ [.buf e z [] false])) : W P c Q fr H := by
  intro s a hA hg hf hd
  obtain ⟨rfl, hZ⟩ := hA
  obtain ⟨p1, p2⟩ := push0 hg 0 e z false rfl rfl rfl (Nat.le_refl _) (fun _ _ => rfl)
  have hlc := hc.len
  have hil := getElem?_lt hx
  have hkl := getElem?_lt hk
  obtain ⟨vs, g2, g3, g4, g5, g6, g7⟩ := hg.blk k0 _ hk
  have hκ : s.κ k0 ≠ 0 := by omega
  generalize hs1 : s.push s.w 0 0 (.buf e z [] false) = s1 at p1 p2
  have hk1 : s1.H[k0]? = some (.buf e0 z0 xs false) := by rw [← hs1]; simp only [St.push]; rw [List.getElem?_append_left hkl]; exact hk
  have hr1 : ∀ x y u, Rel s x u → (y = x ∨ (x = .nilS ∧ y = .buf s.H.length 0 0 0)) → Rel s1 y u := fun x y u h1 h2 => by subst hs1; exact rel_own p2 h1 h2
  have hw1 : s1.w = s.w := by rw [← hs1]; rfl
  have hφ : s1.φ k0 = s.φ k0 := by rw [← hs1]; exact upd_ne _ _ (by omega)
  have hκ1 : s1.κ k0 = s.κ k0 := by rw [← hs1]; exact upd_ne _ _ (by omega)
  have hlv : Lv s1 k0 := lvB hk1 (by rw [hκ1]; exact hκ)
  have hal : B.alike (.buf e0 z0 xs false) (.buf e0 z0 (xs.set i (.agg (ownAt s.H.length sc 0 cs))) false) := ⟨rfl, rfl, by simp, rfl, rfl⟩
  have hst := setB_step (w := s1.w) (bl' := .buf e0 z0 (xs.set i (.agg (ownAt s.H.length sc 0 cs))) false) p1 hk1 hlv hal rfl rfl rfl (Nat.le_refl _) (fun _ _ _ => rfl)
  have hgd : Good (s1.setB s1.w k0 (.buf e0 z0 (xs.set i (.agg (ownAt s.H.length sc 0 cs))) false)) := by
    refine setB_good p1 hk1 hlv hal rfl rfl rfl (Nat.le_refl _) (fun _ _ _ => rfl) (fun hst => ?_)
    refine ⟨vs, fun _ => by show s1.w.heap[s1.φ k0]? = _; rw [hw1, hφ]; exact g2 hκ, by show vs.size = s1.κ k0 * z0; rw [hκ1]; exact g3, by show _ ≤ s1.κ k0; rw [hκ1]; simpa using g4, by show s1.κ k0 ≤ _; rw [hκ1]; exact g5, fun x hxm => ?_, fun j x m d u hj hm hu => ?_⟩
    · rcases List.mem_or_eq_of_mem_set hxm with hxm | rfl
      · exact g6 x hxm
      · obtain ⟨q1, q2⟩ := g6 _ (List.mem_of_getElem? hx)
        refine ⟨by simp only [V.cells] at q1 ⊢; omega, fun d hd => ?_⟩
        simp only [V.cells] at hd q2
        obtain ⟨m, hm⟩ := List.mem_iff_getElem?.1 hd
        have hcm : cs[m]? = some (cs[m]'(by have := getElem?_lt hm; omega)) := List.getElem?_eq_getElem _
        rcases hc.at_ m _ d hcm hm with h9 | ⟨_, h9⟩
        · rw [h9]; exact q2 _ (List.getElem_mem _)
        · rw [h9]; rfl
    · by_cases hji : j = i
      · subst hji
        rw [List.getElem?_set_self hil] at hj
        cases hj
        simp only [V.cells] at hm
        have hcm : cs[m]? = some (cs[m]'(by have := getElem?_lt hm; omega)) := List.getElem?_eq_getElem _
        exact (hr1 _ d u (g7 j _ m _ u hx hcm hu) (hc.at_ m _ d hcm hm)).step hst
      · rw [List.getElem?_set_ne (Ne.symm hji)] at hj
        exact ((g7 j x m d u hj hm hu).step p2).step hst
  have hH : (s1.setB s1.w k0 (.buf e0 z0 (xs.set i (.agg (ownAt s.H.length sc 0 cs))) false)).H = s.H.set k0 (.buf e0 z0 (xs.set i (.agg (ownAt s.H.length sc 0 cs))) false) ++ [.buf e z [] false] := by
    rw [← hs1]
    simp only [St.setB, St.push]
    rw [List.set_append, if_pos hkl]
  have := h (s1.setB s1.w k0 (.buf e0 z0 (xs.set i (.agg (ownAt s.H.length sc 0 cs))) false)) a ⟨hH, (hZ.step p2).step hst⟩ hgd ⟨hf.len, fun i v u hv hu => ((hf.rel i v u hv hu).step p2).step hst⟩ hd
  have e1 : (s1.setB s1.w k0 (.buf e0 z0 (xs.set i (.agg (ownAt s.H.length sc 0 cs))) false)).w = s.w := hw1
  rw [e1] at this
  exact wp_mono this fun _ _ _ hl => leaves_trans (p2.trans hst) hl
/-- The first t elements have own lists. -/
def ownTo (n0 t : Nat) (us : List V) : List V := us.mapIdx fun i a => if i < t then .agg [a, .buf (n0 + i) 0 0 0] else .agg [a, .nilS]
theorem ownTo_zero (n0 : Nat) (us : List V) : ownTo n0 0 us = us.map fun a => .agg [a, .nilS] := by
  unfold ownTo
  apply List.ext_getElem
  · simp
  · intro i h1 h2; simp
theorem ownTo_set (n0 t : Nat) (us : List V) (h : t < us.length) : (ownTo n0 t us).set t (.agg [us[t], .buf (n0 + t) 0 0 0]) = ownTo n0 (t + 1) us := by
  apply List.ext_getElem
  · simp [ownTo]
  · intro i h1 h2
    simp only [ownTo, List.getElem_set, List.getElem_mapIdx]
    by_cases hi : t = i
    · subst hi; simp
    · rw [if_neg hi]
      by_cases h3 : i < t
      · simp [h3, show i < t + 1 by omega]
      · simp [h3, show ¬ i < t + 1 by omega]
theorem ownTo_all (n0 : Nat) (us : List V) : ownTo n0 us.length us = us.mapIdx fun i a => .agg [a, .buf (n0 + i) 0 0 0] := by
  apply List.ext_getElem
  · simp [ownTo]
  · intro i h1 h2
    have : i < us.length := by simpa [ownTo] using h1
    simp [ownTo, this]
/-- All second cells, which are nil, become own lists. -/
theorem W_ownAll (e z k0 : Nat) (us : List V) {c : Code} {Q : Exit → List V → List B → Prop} {fr : List V} {H : List B} {e0 z0 : Nat} (hk : H[k0]? = some (.buf e0 z0 (us.map fun a => .agg [a, .nilS]) false))
    (h : W P c Q fr (H.set k0 (.buf e0 z0 (us.mapIdx fun i a => .agg [a, .buf (H.length + i) 0 0 0]) false) ++ List.replicate us.length (.buf e z [] false))) : W P c Q fr H := by
  have hkl := getElem?_lt hk
  have key : ∀ t, t ≤ us.length → W P c Q fr (H.set k0 (.buf e0 z0 (ownTo H.length t us) false) ++ List.replicate t (.buf e z [] false)) → W P c Q fr H := by
    intro t
    induction t with
    | zero =>
      intro _ hw
      rw [ownTo_zero, List.replicate_zero, List.append_nil] at hw
      rwa [show H.set k0 (.buf e0 z0 (us.map fun a => .agg [a, .nilS]) false) = H from by
        have : H[k0] = .buf e0 z0 (us.map fun a => .agg [a, .nilS]) false := by rw [List.getElem?_eq_getElem hkl] at hk; exact Option.some.inj hk
        rw [← this, List.set_getElem_self]] at hw
    | succ t ih =>
      intro ht hw
      refine ih (by omega) ?_
      have htl : t < us.length := by omega
      refine W_ownE e z k0 t [1] (e0 := e0) (z0 := z0) (xs := ownTo H.length t us) (cs := [us[t], .nilS]) ?_ ?_ ?_ ?_
      · rw [List.getElem?_append_left (by simpa using hkl), List.getElem?_set_self hkl]
      · rw [List.getElem?_eq_getElem (by simpa [ownTo] using htl)]
        simp [ownTo]
      · simp [OwnF, ownAt]
      · have e1 : (H.set k0 (B.buf e0 z0 (ownTo H.length t us) false) ++ List.replicate t (B.buf e z [] false)).length = H.length + t := by simp
        simp only [e1, ownAt]
        rw [List.set_append, if_pos (by simpa using hkl), List.set_set]
        have e2 := ownTo_set H.length t us htl
        simp only [List.contains_cons, List.contains_nil, Bool.or_false, Nat.reduceBEq, Nat.zero_add, Bool.false_eq_true, if_false, if_true, beq_self_eq_true]
        rw [e2, List.append_assoc, ← List.replicate_succ']
        exact hw
  refine key us.length (Nat.le_refl _) ?_
  rw [ownTo_all]
  exact h
end
end Go.AM
