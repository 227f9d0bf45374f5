/- B1: contracts of the kit's walks as contracts of the abstract machine. Expanded by pp.py. -/
import Derived.Test.YtmjicfafjjgekaaAMf
import Derived.Test.YtmjicfafjjgekaaTy
import Derived.Test.YtmjicfafjjgekaaL6
import Derived.Test.YtmjicfafjjgekaaW31
set_option linter.unusedSimpArgs false
set_option maxRecDepth 100000
namespace Go.Proofs.Ytmjicfafjjgekaa
open Go Go.AM Go.Dr Go.RowKit
theorem mixed : Try.prog.follows .mixedOrders = true := by kernel_rfl
def encI (n : Int) : V := .int .i64 n
def L1 (f : Bool) (xs : List Int) : V := .lst 1 f (xs.map encI)
def encP (p : P3) : V := .agg [.int .i64 p.i, .int .i64 p.k, .int .i64 p.x]
def LP (f : Bool) (ps : List P3) : V := .lst 3 f (ps.map encP)
@[simp] theorem encI_pure (n : Int) : AM.Pure (encI n) := by simp [encI]
@[simp] theorem L1_pure (f : Bool) (xs : List Int) : AM.Pure (L1 f xs) := by simp [L1, encI]
@[simp] theorem encP_pure (p : P3) : AM.Pure (encP p) := by simp [encP]
@[simp] theorem LP_pure (f : Bool) (ps : List P3) : AM.Pure (LP f ps) := by simp [LP]
@[simp] theorem encI_oneV (n : Int) : oneV (encI n) = true := rfl
@[simp] theorem encP_oneV (p : P3) : oneV (encP p) = true := rfl
theorem wrap64 {n : Int} (h1 : -9223372036854775808 ≤ n) (h2 : n < 9223372036854775808) : IntKind.i64.wrap n = n := by rw [IntKind.wrap_i64]; omega
theorem wrapS (i : Nat) (h : i < 9223372036854775807) : IntKind.i64.wrap ((i : Int) + 1) = ((i + 1 : Nat) : Int) := by rw [wrap64 (by omega) (by omega)]; rfl
theorem cap8 (n : Nat) (h : n ≤ 1000000000) : n ≤ 9223372036854775806 ∧ (n + 1) * 8 ≤ 140737488355328 := by omega
theorem cap24 (n : Nat) (h : n ≤ 1000000000) : n ≤ 9223372036854775806 ∧ (n + 1) * 24 ≤ 140737488355328 := by omega
theorem rel_int {s : AM.St} {k : IntKind} {n : Int} {u : Value} (h : Rel s (.int k n) u) : u = .int k n := by cases h; rfl
theorem rows_of_rel {α : Type} (enc : α → V) (ns : α → List Int) (z : Nat) (hz0 : 0 < z) (hn : ∀ a, (ns a).length = z) (he : ∀ a, (enc a).cells = (ns a).map (V.int .i64)) {F : Nat → Prop} {w : World} {full : Bool} {l : List α} {u : Value}
    (h : Rel (AM.base F w) (.lst z full (l.map enc)) u) : ∃ A cap, u = .slice A l.length cap ∧ RowAt w w.heap.size A (l.flatMap fun a => (ns a).map (Value.int .i64)) := by
  cases h with
  | lst _ _ _ A cap b off u hcap hfull hA hz hcell hrel =>
    refine ⟨A, cap, by simp, fun hpos => ?_⟩
    have hl : 0 < l.length := by
      cases l with
      | nil => simp at hpos
      | cons a l => simp
    obtain ⟨h1, h2⟩ := hA (by simpa using hl)
    refine ⟨b, off, h1, h2.1, fun i v hv => ?_⟩
    have hfl := flat_at (fun a => (ns a).map (Value.int .i64)) z (fun a => by simp [hn]) l (i / z) (i % z) (Nat.mod_lt _ hz0)
    rw [Nat.mul_comm, Nat.div_add_mod, hv] at hfl
    cases ha : l[i / z]? with
    | none => rw [ha] at hfl; cases hfl
    | some a =>
      rw [ha] at hfl
      simp only [Option.bind_some, List.getElem?_map] at hfl
      cases hm : (ns a)[i % z]? with
      | none => rw [hm] at hfl; cases hfl
      | some m =>
        rw [hm] at hfl
        simp only [Option.map_some] at hfl
        cases hfl
        have hx : (l.map enc)[i / z]? = some (enc a) := by simp [ha]
        have hc : (enc a).cells[i % z]? = some (V.int .i64 m) := by rw [he]; simp [hm]
        have g1 := hcell (i / z) (enc a) (i % z) _ hx hc
        have g2 := hrel (i / z) (enc a) (i % z) _ hx hc
        have e : off + i / z * z + i % z = off + i := by rw [Nat.add_assoc, Nat.mul_comm, Nat.div_add_mod]
        rw [e] at g1
        have g3 : u (i / z) (i % z) = .int .i64 m := rel_int g2
        rw [g3] at g1
        exact g1
theorem flat_ints (xs : List Int) : (xs.flatMap fun a => [a].map (Value.int .i64)) = ints xs := by
  induction xs with
  | nil => rfl
  | cons x xs ih => simp only [List.flatMap_cons, ih]; rfl
theorem ints_of_rel {F : Nat → Prop} {w : World} {f : Bool} {xs : List Int} {u : Value} (h : Rel (AM.base F w) (L1 f xs) u) : ∃ A cap, u = .slice A xs.length cap ∧ RowAt w w.heap.size A (ints xs) := by
  have := rows_of_rel encI (fun x => [x]) 1 (by omega) (fun _ => rfl) (fun _ => rfl) h
  simpa only [flat_ints] using this
theorem pairs_of_rel {F : Nat → Prop} {w : World} {f : Bool} {ps : List P3} {u : Value} (h : Rel (AM.base F w) (LP f ps) u) : ∃ A cap, u = .slice A ps.length cap ∧ PairsAt w w.heap.size A ps :=
  rows_of_rel encP (fun p => [p.i, p.k, p.x]) 3 (by omega) (fun _ => rfl) (fun _ => rfl) h
theorem rel_of_ints {F : Nat → Prop} {w : World} {xs : List Int} {q n c : Nat} (hn : xs.length = n) (hF : ¬ F q) (hc : n ≤ c) (h : RowAt w w.heap.size (some ⟨q, 0, none⟩) (ints xs)) : Rel (AM.base F w) (L1 false xs) (.slice (some ⟨q, 0, none⟩) n c) := by
  subst hn
  have hx : 0 < xs.length → q < w.heap.size ∧ ∀ i x, xs[i]? = some x → w.cell? ⟨q, i, none⟩ = some (.int .i64 x) := fun h0 => by
    obtain ⟨b, off, h1, h2, h3⟩ := h (by simpa using h0)
    cases h1
    exact ⟨h2, fun i x hi => by have := h3 i (.int .i64 x) (by simp [hi]); simpa using this⟩
  have hget : ∀ (i : Nat) (x : V) (j : Nat) (c : V), (xs.map encI)[i]? = some x → x.cells[j]? = some c → ∃ m, xs[i]? = some m ∧ j = 0 ∧ c = .int .i64 m := fun i x j c h1 h2 => by
    simp only [List.getElem?_map, Option.map_eq_some_iff] at h1
    obtain ⟨a, ha, rfl⟩ := h1
    match j, h2 with
    | 0, h2 => simp [encI, V.cells] at h2; exact ⟨a, ha, rfl, h2.symm⟩
    | j + 1, h2 => simp [encI, V.cells] at h2
  have := Rel.lst (s := AM.base F w) 1 false (xs.map encI) (some ⟨q, 0, none⟩) c q 0 (fun i j => ((xs[i]?).map (Value.int .i64)).getD Go.undef) (by simpa using hc) (fun h => by cases h)
    (fun h0 => ⟨rfl, (hx (by simpa using h0)).1, hF, fun k hk => by have := hk.1; simp [AM.base] at this⟩)
    (fun x hxm => by
      obtain ⟨a, _, rfl⟩ := List.mem_map.1 hxm
      exact ⟨rfl, fun c hc => by simp [encI, V.cells] at hc; subst hc; rfl⟩)
    (fun i x j c h1 h2 => by
      obtain ⟨m, hm, rfl, rfl⟩ := hget i x j c h1 h2
      have h0 : 0 < xs.length := by have := getElem?_lt hm; omega
      have := (hx h0).2 i m hm
      simp only [AM.base, hm, Option.map_some, Option.getD_some]
      simpa using this)
    (fun i x j c h1 h2 => by
      obtain ⟨m, hm, rfl, rfl⟩ := hget i x j c h1 h2
      simp only [hm, Option.map_some, Option.getD_some]
      exact .int _ _)
  simpa [L1] using this
theorem rel_tup2 {s : AM.St} {a b : V} {u v : Value} (h1 : Rel s a u) (h2 : Rel s b v) : Rel s (.tup [a, b]) (.tuple #[u, v]) := .tup _ _ rfl fun i x y hx hy => by
  match i with
  | 0 => simp at hx hy; subst hx; subst hy; exact h1
  | 1 => simp at hx hy; subst hx; subst hy; exact h2
  | i + 2 => simp at hx
theorem rel_tup3 {s : AM.St} {a b c : V} {u v w : Value} (h1 : Rel s a u) (h2 : Rel s b v) (h3 : Rel s c w) : Rel s (.tup [a, b, c]) (.tuple #[u, v, w]) := .tup _ _ rfl fun i x y hx hy => by
  match i with
  | 0 => simp at hx hy; subst hx; subst hy; exact h1
  | 1 => simp at hx hy; subst hx; subst hy; exact h2
  | 2 => simp at hx hy; subst hx; subst hy; exact h3
  | i + 3 => simp at hx
theorem vals2 {a b : V} {vals : Array Value} (h : vals.size = [a, b].length) : ∃ v0 v1, vals = #[v0, v1] := by
  obtain ⟨l⟩ := vals
  match l, h with
  | [a, b], _ => exact ⟨a, b, rfl⟩
theorem vals3 {a b c : V} {vals : Array Value} (h : vals.size = [a, b, c].length) : ∃ v0 v1 v2, vals = #[v0, v1, v2] := by
  obtain ⟨l⟩ := vals
  match l, h with
  | [a, b, c], _ => exact ⟨a, b, c, rfl⟩
theorem cost_c (n : Int) (ps : List P3) (xs : List Int) (f g : Bool) (hl : ps.length ≤ 100000) (hx : xs.length ≤ 100000) : ConP Try.prog 22 [.int .i64 n, LP f ps, L1 g xs] fun r => r = .tup [.int .i64 (costR n ps xs).1, .int .i64 (costR n ps xs).2] := by
  refine ⟨⟨Try.f22, Try.func22, rfl, rfl⟩, fun F w vals hZ hF hsz hrel => ?_⟩
  obtain ⟨v0, v1, v2, rfl⟩ := vals3 hsz
  obtain rfl := rel_int (hrel 0 _ v0 rfl rfl)
  obtain ⟨A, cap, rfl, hp⟩ := pairs_of_rel (hrel 1 _ v1 rfl rfl)
  obtain ⟨A2, c2, rfl, hq⟩ := ints_of_rel (hrel 2 _ v2 rfl rfl)
  exact (cCost_any n A A2 cap c2 ps xs w.heap.size w.heap.size w (Nat.le_refl _) (Nat.le_refl _) hl hx hp hq).mono fun e w' ⟨h1, h2⟩ => ⟨_, _, h1, by simp, rel_tup2 (.int _ _) (.int _ _), h2, rfl⟩
theorem cost_r (n : Int) (ps : List P3) (xs : List Int) (f g : Bool) (hl : ps.length ≤ 100000) (hx : xs.length ≤ 100000) : ConP Try.prog 24 [.int .i64 n, LP f ps, L1 g xs] fun r => r = .tup [.int .i64 (costR n ps xs).1, .int .i64 (costR n ps xs).2] := by
  refine ⟨⟨Try.f24, Try.func24, rfl, rfl⟩, fun F w vals hZ hF hsz hrel => ?_⟩
  obtain ⟨v0, v1, v2, rfl⟩ := vals3 hsz
  obtain rfl := rel_int (hrel 0 _ v0 rfl rfl)
  obtain ⟨A, cap, rfl, hp⟩ := pairs_of_rel (hrel 1 _ v1 rfl rfl)
  obtain ⟨A2, c2, rfl, hq⟩ := ints_of_rel (hrel 2 _ v2 rfl rfl)
  exact (rCost_any n A A2 cap c2 ps xs w.heap.size w.heap.size w (Nat.le_refl _) (Nat.le_refl _) hl hx hp hq).mono fun e w' ⟨h1, h2⟩ => ⟨_, _, h1, by simp, rel_tup2 (.int _ _) (.int _ _), h2, rfl⟩
theorem opt_c (n : Nat) (ps : List P3) (f : Bool) (hl : ps.length ≤ 100000) (hv : valid n ps = 0) (hn : n ≤ 10) : ConP Try.prog 16 [.int .i64 n, LP f ps] fun r => r = .tup [L1 false (optBest n (matOf ps)), .int .i64 (optSt n (matOf ps)).least, .int .i64 0] := by
  refine ⟨⟨Try.f16, Try.func16, rfl, rfl⟩, fun F w vals hZ hF hsz hrel => ?_⟩
  obtain ⟨v0, v1, rfl⟩ := vals2 hsz
  obtain rfl := rel_int (hrel 0 _ v0 rfl rfl)
  obtain ⟨A, cap, rfl, hp⟩ := pairs_of_rel (hrel 1 _ v1 rfl rfl)
  exact (optimal_ok2 n A cap ps w.heap.size w (Nat.le_refl _) hl hp hv hn).mono fun e w' ⟨q, c, h1, h2, h3, h4, h5⟩ =>
    ⟨_, _, h1, by simp, rel_tup3 (rel_of_ints (optBest_len n (matOf ps)) (fun h => by have := hF q h; omega) h2 h4) (.int _ _) (.int _ _), h5, rfl⟩
theorem awake_con : ConP Try.prog 11 [] fun r => r = .bool true := by
  refine ⟨⟨Try.f11, Try.func11, rfl, rfl⟩, fun F w vals hZ hF hsz hrel => ?_⟩
  obtain rfl : vals = #[] := by simpa using hsz
  exact (awake_any w).mono fun e w' ⟨h1, h2⟩ => ⟨_, _, h1, .bool _, .bool _, h2, rfl⟩
theorem conO_own {f : FuncId} {args : List V} {e : Nat} (hE : AM.Enters Try.prog f) (h : ∀ (F : Nat → Prop) (w : World) (vals : Array Value), vals.size = args.length → (∀ (i : Nat) a u, args[i]? = some a → vals[i]? = some u → Rel (AM.base F w) a u) →
    Calls Try.prog f vals w fun e' w' => ∃ v, e' = .returned v ∧ w'.ownsRow w.heap.size e 1 v 0 [] ∧ Below w.heap.size w w') : ConO Try.prog f args fun e' z ys => e' = e ∧ z = 1 ∧ ys = [] := by
  refine ⟨hE, fun F w vals hZ hF hsz hrel => (h F w vals hsz hrel).mono fun e' w' ⟨v, he, hown, hb⟩ => ?_⟩
  obtain ⟨_, ⟨hv, _⟩ | ⟨g, c, cur, hv, hg, hc, hn, hm, hs, _⟩⟩ := hown
  · have hF' : ∀ b, F b → b < w'.heap.size := fun b hb' => Nat.lt_of_lt_of_le (hF b hb') hb.size
    obtain ⟨p1, _⟩ := push0 (AM.base_good hF') (w := w') 0 e 1 false rfl rfl rfl (Nat.le_refl _) (fun _ _ => rfl)
    refine ⟨v, e, 1, [], none, 0, 0, he, hv, fun h => absurd rfl h, by simp, fun h => absurd rfl h, ?_, hb, rfl, rfl, rfl⟩
    refine ⟨hF', fun k hk => absurd (hk.2 e 1 [] false (by have := hk.1; simp at this; subst this; rfl)) (by simp), fun j k hj hk _ => by have := hj.1; have := hk.1; simp at *; omega, fun k bl hk => ?_⟩
    have hk0 : k = 0 := by have := getElem?_lt hk; simp at this; omega
    subst hk0
    simp at hk
    subst hk
    exact ⟨#[], fun h => absurd rfl h, by simp, by simp, by simp [maxLen], (fun x hx => by cases hx), (fun i x j c u hx => by simp at hx)⟩
  · have hF' : ∀ b, F b → b < w'.heap.size := fun b hb' => Nat.lt_of_lt_of_le (hF b hb') hb.size
    refine ⟨v, e, 1, [], some ⟨g, 0, none⟩, g, c, he, hv, fun _ => rfl, by simp, fun _ => hg, ?_, hb, rfl, rfl, rfl⟩
    refine ⟨hF', fun k hk => ⟨(Array.getElem?_eq_some_iff.1 hc).1, fun hf => by have := hF g hf; omega⟩, fun j k hj hk _ => by have := hj.1; have := hk.1; simp at *; omega, fun k bl hk => ?_⟩
    have hk0 : k = 0 := by have := getElem?_lt hk; simp at this; omega
    subst hk0
    simp at hk
    subst hk
    exact ⟨cur, fun _ => hc, by simpa using hs, by simp, hm, (fun x hx => by cases hx), (fun i x j c u hx => by simp at hx)⟩
set_option maxHeartbeats 4000000 in
theorem clone54 (xs : List Int) (f : Bool) (hl : xs.length ≤ 100000) : ConO Try.prog 23 [L1 f xs] fun e z ys => e = 3 ∧ z = 1 ∧ ys = xs.map encI := by
  cases xs with
  | nil =>
    refine conO_own ⟨Try.f23, Try.func23, rfl, rfl⟩ (fun F w vals hsz hrel => ?_)
    obtain ⟨u0, rfl⟩ : ∃ u0, vals = #[u0] := by
      obtain ⟨l⟩ := vals
      match l, hsz with
      | [a], _ => exact ⟨a, rfl⟩
    obtain ⟨A, cap, rfl, hp⟩ := ints_of_rel (hrel 0 _ u0 rfl rfl)
    exact (cloneInts A cap [] w.heap.size w (Nat.le_refl _) (by simp) hp (fun _ => rfl)).mono fun e w' ⟨v, h1, h2, h3, _⟩ => ⟨v, h1, h2, h3⟩
  | cons x xs =>
    have hl' : xs.length ≤ 1000000 := by simp only [List.length_cons] at hl; omega
    refine conO_of_conH (conH_of_W tok Try.func23 rfl rfl ?_)
    refine W_x tok mixed ?_
    simp -implicitDefEqProofs -dsimp [Try.f23, List.replicate, L1, eqA2, cap8 xs.length (by omega)]
    exact ⟨0, 3, 1, encI x :: xs.map encI, by simp, rfl, by simp, rfl, rfl, rfl⟩
set_option maxHeartbeats 4000000 in
theorem equal54 (us bs : List Int) (f g : Bool) (hl : us.length ≤ 1000000) (hl2 : bs.length ≤ 1000000) : ConP Try.prog 18 [L1 f us, L1 g bs] fun r => r = .bool (decide (us = bs)) := by
  by_cases hn : us.length = bs.length
  · refine conP_of_conH (conH_of_W tok Try.func18 rfl rfl ?_)
    refine W_x tok mixed ?_
    simp -implicitDefEqProofs -dsimp [Try.f18, List.replicate, L1, hn]
    refine lw_of (W_loopG [4, 5, 13, 14, 15, 16, 17, 18, 19, 20, 21, 22, 23, 24, 25] (σ := Nat) (fun i => i ≤ us.length ∧ us.take i = bs.take i) (fun i => us.length - i) (fun i => [(13, .int .i64 i)]) (fun _ => []) 0 ⟨by omega, by simp⟩ (by simp) rfl (by simp) ?_)
    rintro i ⟨h1, h2⟩
    by_cases hb : i < bs.length
    · have ha : i < us.length := by omega
      by_cases hq : us[i] = bs[i]
      · refine W_x tok mixed ?_
        simp -implicitDefEqProofs -dsimp [L1, encI, ha, hb, hq, wrapS i (by omega)]
        refine .inr ⟨stop_of (by kernel_rfl), ?_⟩
        refine stop_of ?_
        refine ⟨i + 1, ⟨by omega, by rw [List.take_succ_eq_append_getElem ha, List.take_succ_eq_append_getElem hb, h2, hq]⟩, by omega, ?_, ⟨[], rfl⟩, ?_, ?_⟩ <;> simp [L1, encI]
      · refine W_x tok mixed ?_
        simp -implicitDefEqProofs -dsimp [L1, encI, ha, hb, hq]
        refine .inr ⟨stop_of (by kernel_rfl), ?_⟩
        rintro rfl
        exact hq rfl
    · refine W_x tok mixed ?_
      simp -implicitDefEqProofs -dsimp [L1, hb]
      rw [List.take_of_length_le (by omega), List.take_of_length_le (by omega)] at h2
      exact h2
  · have hne : ¬ us = bs := fun h => hn (by rw [h])
    refine conP_of_conH (conH_of_W tok Try.func18 rfl rfl ?_)
    refine W_x tok mixed ?_
    simp -implicitDefEqProofs -dsimp [Try.f18, List.replicate, L1, hn, show ¬ ((us.length : Int) = bs.length) by omega]
    exact hne
end Go.Proofs.Ytmjicfafjjgekaa
