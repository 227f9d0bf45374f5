import Derived.Test.YtfaleabndlcanaaGreatDoorAMi
/- Exx: results with own lists inside, as values. -/
namespace Go.AM
open Go
inductive ExpX (H : List B) : V → V → Prop
  | pure (v : V) (h : Pure v) : ExpX H v v
  | buf (k e z : Nat) (xs : List V) (fz : Bool) (hk : H[k]? = some (.buf e z xs fz)) (hp : ∀ x ∈ xs, Pure x) : ExpX H (.buf k 0 xs.length xs.length) (.lst z false xs)
  | agg (cs ds : List V) (hl : cs.length = ds.length) (h : ∀ (i : Nat) c d, cs[i]? = some c → ds[i]? = some d → ExpX H c d) : ExpX H (.agg cs) (.agg ds)
  | tup (cs ds : List V) (hl : cs.length = ds.length) (h : ∀ (i : Nat) c d, cs[i]? = some c → ds[i]? = some d → ExpX H c d) : ExpX H (.tup cs) (.tup ds)
theorem exL_of {f : Nat → V → Option V} : ∀ {xs ys : List V}, xs.length = ys.length → (∀ (i : Nat) x y, xs[i]? = some x → ys[i]? = some y → ∃ d0, ∀ d, d0 ≤ d → f d x = some y) → ∃ d0, ∀ d, d0 ≤ d → exL (f d) xs = some ys
  | [], [], _, _ => ⟨0, fun _ _ => rfl⟩
  | x :: xs, y :: ys, hl, h => by
    obtain ⟨d1, h1⟩ := h 0 x y rfl rfl
    obtain ⟨d2, h2⟩ := exL_of (xs := xs) (ys := ys) (by simpa using hl) (fun i a b ha hb => h (i + 1) a b (by simpa using ha) (by simpa using hb))
    exact ⟨max d1 d2, fun d hd => by simp only [exL, h1 d (by omega), h2 d (by omega)]⟩
theorem ExpX.ex {H : List B} {v v' : V} (h : ExpX H v v') : ∃ d0, ∀ d, d0 ≤ d → exV H 0 d v = some v' := by
  induction h with
  | pure v h => exact exV_pure h
  | buf k e z xs fz hk hp =>
    obtain ⟨d0, h0⟩ := exL_pure (f := exV H 0) (fun v hv => exV_pure (hp v hv))
    refine ⟨d0 + 1, fun d hd => ?_⟩
    obtain ⟨m, rfl⟩ : ∃ m, d = m + 1 := ⟨d - 1, by omega⟩
    simp only [exV, Nat.not_lt_zero, if_false, hk]
    rw [if_pos ⟨by first | trivial | rfl, by omega⟩, List.drop_zero, List.take_length, h0 m (by omega)]
  | agg cs ds hl _ ih =>
    obtain ⟨d0, h0⟩ := exL_of (f := exV H 0) hl ih
    exact ⟨d0 + 1, fun d hd => by obtain ⟨m, rfl⟩ : ∃ m, d = m + 1 := ⟨d - 1, by omega⟩; simp only [exV, h0 m (by omega)]⟩
  | tup cs ds hl _ ih =>
    obtain ⟨d0, h0⟩ := exL_of (f := exV H 0) hl ih
    exact ⟨d0 + 1, fun d hd => by obtain ⟨m, rfl⟩ : ∃ m, d = m + 1 := ⟨d - 1, by omega⟩; simp only [exV, h0 m (by omega)]⟩
theorem ExpX.agg2 {H : List B} {a b c d : V} (h1 : ExpX H a c) (h2 : ExpX H b d) : ExpX H (.agg [a, b]) (.agg [c, d]) := .agg _ _ rfl (fun i x y hx hy => by
  match i with
  | 0 => simp at hx hy; subst hx; subst hy; exact h1
  | 1 => simp at hx hy; subst hx; subst hy; exact h2
  | i + 2 => simp at hx)
theorem expx_buf {H : List B} {k len e z : Nat} {xs : List V} {fz : Bool} (hk : H[k]? = some (.buf e z xs fz)) (hl : len = xs.length) (hp : ∀ x ∈ xs, Pure x) : ExpX H (.buf k 0 len len) (.lst z false xs) := by
  subst hl
  exact .buf k e z xs fz hk hp
theorem conP_of_conX {P : Program} {f : FuncId} {args : List V} {K : V → Prop} (h : ConH P f args [] fun r H => ∃ r', ExpX H r r' ∧ Pure r' ∧ K r') : ConP P f args K := by
  refine ⟨h.1, fun F w vals hZ hF hsz hrel => ?_⟩
  refine (h.2 (base F w) vals ⟨rfl, hZ⟩ (base_good hF) hsz hrel).mono fun e w' ⟨u, s', r, a1, a2, a3, a4, a5, r', a6, a7, a8⟩ => ?_
  subst a2
  have hb := below_of_step a4
  refine ⟨u, r', a1, a7, ?_, hb, a8⟩
  have hFs : s'.F = F := a4.F
  obtain ⟨d0, hd⟩ := a6.ex
  have hr := ex_rel (H := []) (G := s'.H) a3 rfl d0 r r' u a5 (hd d0 (Nat.le_refl _))
  exact hr.pure_ (t := base F s'.w) a7 (fun b hb => ⟨⟨hb.1, fun hf => hb.2.1 (by show s'.F b; rw [hFs]; exact hf), fun k hk => by have := hk.1; simp [base] at this⟩, rfl⟩)
end Go.AM
