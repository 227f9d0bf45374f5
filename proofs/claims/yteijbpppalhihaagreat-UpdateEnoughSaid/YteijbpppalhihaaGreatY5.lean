/- Y5: the reference's entries on the heap: agree, replace, step, filled; Enough. Expanded by pp.py. -/
import Derived.Test.YteijbpppalhihaaGreatX2
import Derived.Test.YteijbpppalhihaaGreatV7
import Derived.Test.YteijbpppalhihaaGreatDrK
set_option linter.unusedVariables false
set_option linter.unusedSimpArgs false
set_option maxRecDepth 100000
namespace Go.Proofs.YteijbpppalhihaaGreat
open Go Go.AM
/-- An entry: a value, or a symbol (above 0). -/
structure En where
  v : Vl
  s : Int
def encEn (x : En) : V := .agg [.int .i64 x.v.k, .int .i64 x.v.n, .str x.v.s, .int .i64 x.s]
@[simp] theorem encEn_pure (x : En) : AM.Pure (encEn x) := by simp [encEn]
@[simp] theorem encEn_oneV (x : En) : oneV (encEn x) = true := rfl
theorem ba_beq (c c' : ByteArray) : (c == c') = true ↔ c = c' := by
  obtain ⟨a⟩ := c
  obtain ⟨b⟩ := c'
  show ByteArray.beq ⟨a⟩ ⟨b⟩ = true ↔ _
  simp [ByteArray.beq]
def eqEnB (x y : En) : Bool := (x.v.k == y.v.k && (x.v.n == y.v.n && (x.v.s == y.v.s))) && x.s == y.s
theorem eqEnB_iff (x y : En) : eqEnB x y = true ↔ x = y := by
  unfold eqEnB
  obtain ⟨⟨a, b, c⟩, d⟩ := x
  obtain ⟨⟨a', b', c'⟩, d'⟩ := y
  simp [and_assoc, ba_beq]
theorem eqEn (H : List B) (k n s : Int) (t : ByteArray) (k' n' s' : Int) (t' : ByteArray) : eqA2 T H 117 (.agg [.int .i64 k, .int .i64 n, .str t, .int .i64 s]) (.agg [.int .i64 k', .int .i64 n', .str t', .int .i64 s']) = some (eqEnB ⟨⟨k, n, t⟩, s⟩ ⟨⟨k', n', t'⟩, s'⟩) := by
  have h1 : ∀ x y : Int, eqD T 9998 2 (.int .i64 x) (.int .i64 y) = some (x == y) := fun x y => by simp [eqD]
  have h2 : ∀ x y : Int, eqD T 9998 3 (.int .i64 x) (.int .i64 y) = some (x == y) := fun x y => by simp [eqD]
  have h2' : ∀ x y : Int, eqD T 9999 3 (.int .i64 x) (.int .i64 y) = some (x == y) := fun x y => by simp [eqD]
  have h3 : ∀ x y : ByteArray, eqD T 9998 9 (.str x) (.str y) = some (x == y) := fun x y => by simp [eqD]
  have h4 : eqD T 9999 68 (.agg [.int .i64 k, .int .i64 n, .str t]) (.agg [.int .i64 k', .int .i64 n', .str t']) = some (k == k' && (n == n' && (t == t'))) := by
    rw [show (9999 : Nat) = 9998 + 1 from rfl, eqD]
    simp only [T_68]
    simp only [if_true, eqFs, cutA, T_2, T_3, T_9, isAggD, List.getElem?_cons_zero, List.getElem?_cons_succ, Bool.false_eq_true, if_false, h1, h2, h3]
    cases (k == k') <;> cases (n == n') <;> cases (t == t') <;> simp
  simp only [eqA2]
  rw [show (10000 : Nat) = 9999 + 1 from rfl, eqD]
  simp only [T_117]
  simp only [if_true, eqFs, cutA, T_3, T_68, isAggD, List.length_cons, List.length_nil, List.drop, List.take, List.getElem?_cons_zero, List.getElem?_cons_succ, Bool.false_eq_true, if_false]
  simp [h4, h2', eqEnB]
  cases (k == k') <;> cases (n == n') <;> cases (t == t') <;> cases (s == s') <;> simp
def rowE (e : Nat → En) (n i : Nat) : List V := (List.range n).map fun a => encEn (e (i * n + a))
def outE (b m n : Nat) : List V := (List.range m).map fun i => .buf (b + i) 0 n n
theorem rowE_len (e : Nat → En) (n i : Nat) : (rowE e n i).length = n := by simp [rowE]
theorem outE_len (b m n : Nat) : (outE b m n).length = m := by simp [outE]
theorem rowE_get {e : Nat → En} {n i a : Nat} (h : a < (rowE e n i).length) : (rowE e n i)[a] = encEn (e (i * n + a)) := by simp [rowE]
theorem outE_get {b m n i : Nat} (h : i < (outE b m n).length) : (outE b m n)[i] = .buf (b + i) 0 n n := by simp [outE]
theorem rowE_pure (e : Nat → En) (n i : Nat) : ∀ x ∈ rowE e n i, AM.Pure x ∧ oneV x = true := by
  intro x hx
  obtain ⟨a, _, rfl⟩ := List.mem_map.1 hx
  exact ⟨encEn_pure _, rfl⟩
/-- The heap with the rows of entries e from block b on. -/
def He (H : List B) (b m n : Nat) (e : Nat → En) : List B := (List.range H.length).map fun k => if b ≤ k ∧ k < b + m then .buf 117 4 (rowE e n (k - b)) false else (H[k]?).getD (.cells [])
structure EOk (H : List B) (ko b m n : Nat) : Prop where
  ho : H[ko]? = some (.buf 115 1 (outE b m n) false)
  lt : b + m ≤ H.length
  no : ko < b
  rb : ∀ bl ∈ H, rbB H.length bl
theorem he_len (H : List B) (b m n : Nat) (e : Nat → En) : (He H b m n e).length = H.length := by simp [He]
theorem he_row {H : List B} {ko b m n : Nat} (g : EOk H ko b m n) (e : Nat → En) {i : Nat} (hi : i < m) : (He H b m n e)[b + i]? = some (.buf 117 4 (rowE e n i) false) := by
  have := g.lt
  unfold He
  rw [List.getElem?_map, List.getElem?_range (by omega), Option.map_some, if_pos (by omega), Nat.add_sub_cancel_left]
theorem he_other {H : List B} {b m n : Nat} (e : Nat → En) {k : Nat} {x : B} (h : H[k]? = some x) (hk : k < b ∨ b + m ≤ k) : (He H b m n e)[k]? = some x := by
  have := getElem?_lt h
  unfold He
  rw [List.getElem?_map, List.getElem?_range (by omega), Option.map_some, if_neg (by omega), h]
  rfl
theorem he_out {H : List B} {ko b m n : Nat} (g : EOk H ko b m n) (e : Nat → En) : (He H b m n e)[ko]? = some (.buf 115 1 (outE b m n) false) := he_other e g.ho (.inl g.no)
theorem he_set {H : List B} {ko b m n : Nat} (g : EOk H ko b m n) (e e' : Nat → En) {i : Nat} (hi : i < m) (h : ∀ k a, k < m → a < n → k ≠ i → e' (k * n + a) = e (k * n + a)) : (He H b m n e).set (b + i) (.buf 117 4 (rowE e' n i) false) = He H b m n e' := by
  have := g.lt
  apply List.ext_getElem?
  intro k
  by_cases hk : k = b + i
  · subst hk
    rw [List.getElem?_set_self (by rw [he_len]; omega), he_row g e' hi]
  · rw [List.getElem?_set_ne (Ne.symm hk)]
    unfold He
    rw [List.getElem?_map, List.getElem?_map]
    by_cases hkl : k < H.length
    · rw [List.getElem?_range hkl, Option.map_some, Option.map_some]
      congr 1
      split
      · rename_i hc
        congr 1
        unfold rowE
        refine List.map_congr_left fun a ha => ?_
        rw [h (k - b) a (by omega) (by simpa using ha) (by omega)]
      · rfl
    · rw [List.getElem?_eq_none (by simp; omega)]; rfl
theorem he_congr (H : List B) (b m n : Nat) {e e' : Nat → En} (h : ∀ x, x < m * n → e x = e' x) : He H b m n e = He H b m n e' := by
  unfold He
  refine List.map_congr_left fun k _ => ?_
  split
  · rename_i hc
    congr 1
    unfold rowE
    refine List.map_congr_left fun a ha => ?_
    rw [h _ (cell_lt (by omega) (by simpa using ha))]
  · rfl
theorem he_app {H : List B} {ko b m n : Nat} (g : EOk H ko b m n) (G : List B) (e : Nat → En) : He H b m n e ++ G = He (H ++ G) b m n e := by
  have := g.lt
  apply List.ext_getElem?
  intro k
  by_cases hk : k < H.length
  · rw [List.getElem?_append_left (by rw [he_len]; exact hk)]
    unfold He
    rw [List.getElem?_map, List.getElem?_map, List.getElem?_range hk, List.getElem?_range (by simp; omega), Option.map_some, Option.map_some, List.getElem?_append_left hk]
  · rw [List.getElem?_append_right (by rw [he_len]; omega), he_len]
    unfold He
    rw [List.getElem?_map]
    by_cases hk2 : k < (H ++ G).length
    · rw [List.getElem?_range hk2, Option.map_some, if_neg (by omega), List.getElem?_append_right (by omega)]
      have : k - H.length < G.length := by rw [List.length_append] at hk2; omega
      rw [List.getElem?_eq_getElem this]; rfl
    · rw [List.getElem?_eq_none (by simp at hk2 ⊢; omega), List.getElem?_eq_none (by simp at hk2 ⊢; omega)]; rfl
theorem he_rb {H : List B} {ko b m n : Nat} (g : EOk H ko b m n) (e : Nat → En) : ∀ bl ∈ He H b m n e, rbB (He H b m n e).length bl := by
  intro bl hbl
  rw [he_len]
  obtain ⟨k, hk, rfl⟩ := List.mem_map.1 hbl
  split
  · rw [rbB_buf1 (rowE_pure e n _)]; trivial
  · have hk : k < H.length := by simpa using hk
    rw [List.getElem?_eq_getElem hk]
    exact g.rb _ (List.getElem_mem hk)
theorem EOk.app {H : List B} {ko b m n : Nat} (g : EOk H ko b m n) (G : List B) (hG : ∀ bl ∈ G, rbB (H ++ G).length bl) : EOk (H ++ G) ko b m n := by
  have h1 := getElem?_lt g.ho
  refine ⟨by rw [List.getElem?_append_left h1]; exact g.ho, by have := g.lt; simp; omega, g.no, fun bl hbl => ?_⟩
  rcases List.mem_append.1 hbl with h | h
  · exact rbB_mono (by simp) (g.rb bl h)
  · exact hG bl h
def AgrN (e : Nat → En) (i k : Nat) (s : Int) (n c : Nat) : Prop := ∀ a, a < c → hasB s a = true → e (i * n + a) = e (k * n + a)
open Classical in
noncomputable def agN (e : Nat → En) (i k : Nat) (s : Int) (n : Nat) : Bool := decide (AgrN e i k s n n)
theorem agN_iff {e : Nat → En} {i k : Nat} {s : Int} {n : Nat} : agN e i k s n = true ↔ AgrN e i k s n n := by unfold agN; simp
set_option maxHeartbeats 16000000 in
theorem agree_e {H : List B} {ko b m n : Nat} (g : EOk H ko b m n) (e : Nat → En) (i k : Nat) (s : Int) (hi : i < m) (hk : k < m) (hn : n ≤ 16) :
    ConH Tryz.prog 132 [.buf (b + i) 0 n n, .buf (b + k) 0 n n, .int .u32 s] (He H b m n e) fun r' H' => r' = .bool (agN e i k s n) ∧ H' = He H b m n e := by
  obtain ⟨E, hE⟩ : ∃ E, E = agN e i k s n := ⟨_, rfl⟩
  rw [← hE]
  have r1 := he_row g e hi
  have r2 := he_row g e hk
  have l1 := rowE_len e n i
  have l2 := rowE_len e n k
  have hlt := g.lt
  have hl1 : b + i < (He H b m n e).length := by rw [he_len]; omega
  have hl2 : b + k < (He H b m n e).length := by rw [he_len]; omega
  have hrb := he_rb g e
  obtain ⟨b1, hb1⟩ : ∃ b1, b1 = b + i := ⟨_, rfl⟩
  obtain ⟨b2, hb2⟩ : ∃ b2, b2 = b + k := ⟨_, rfl⟩
  rw [← hb1] at r1 hl1 ⊢
  rw [← hb2] at r2 hl2 ⊢
  refine conH_of_W tok Tryz.func132 rfl rfl ?_
  refine W_x tok mixed ?_
  simp -implicitDefEqProofs -dsimp [Tryz.f132, List.replicate]
  refine lw_of (W_loopV [false, false, false, false, false, false, true, true, true, true, true, true, true, true, true, true, true, true, true, true, true, true, true, true, true, true, true, true, true, true] (σ := Nat) (fun a => a ≤ n ∧ AgrN e i k s n a) (fun a => n - a) (fun a => [(7, .int .i64 a)]) (fun _ => He H b m n e) 0 ⟨by omega, fun a ha => by omega⟩ (by simp) rfl (by simp) ?_)
  rintro a ⟨ha, hx⟩ N2 Q hN2 hQ
  by_cases hb : a < n
  · have x1 := fun h => rowE_get (e := e) (n := n) (i := i) (a := a) h
    have x2 := fun h => rowE_get (e := e) (n := n) (i := k) (a := a) h
    obtain ⟨p, hp⟩ : ∃ p, p = e (i * n + a) := ⟨_, rfl⟩
    obtain ⟨q, hq⟩ : ∃ q, q = e (k * n + a) := ⟨_, rfl⟩
    rw [← hp] at x1
    rw [← hq] at x2
    cases hh : hasB s a with
    | false =>
      refine W_x tok mixed ?_
      simp -implicitDefEqProofs -dsimp [r1, l1, hb, hasB_def, hh, show (a : Int) < 32 by omega]
      refine .inr ⟨stop_of (by kernel_rfl), ?_⟩
      simp -implicitDefEqProofs -dsimp [wrapS a (by omega)]
      refine hN2 (a + 1) _ _ ⟨by omega, fun c hc1 hc2 => ?_⟩ (by omega) (by simp) ⟨[], by simp⟩ (by simp [hl1, hl2]) hrb
      rcases Nat.lt_or_ge c a with h1 | h1
      · exact hx c h1 hc2
      · have : c = a := by omega
        subst this; rw [hh] at hc2; cases hc2
    | true =>
      cases he : eqEnB p q with
      | true =>
        have hpq := (eqEnB_iff p q).1 he
        refine W_x tok mixed ?_
        simp -implicitDefEqProofs -dsimp [r1, r2, l1, l2, hb, hasB_def, hh, show (a : Int) < 32 by omega, x1, x2, encEn, eqEn, he]
        refine .inr ⟨stop_of (by kernel_rfl), ?_⟩
        simp -implicitDefEqProofs -dsimp [wrapS a (by omega)]
        refine hN2 (a + 1) _ _ ⟨by omega, fun c hc1 hc2 => ?_⟩ (by omega) (by simp) ⟨[], by simp⟩ (by simp [hl1, hl2]) hrb
        rcases Nat.lt_or_ge c a with h1 | h1
        · exact hx c h1 hc2
        · have : c = a := by omega
          subst this; rw [← hp, ← hq]; exact hpq
      | false =>
        have hno : agN e i k s n = false := by
          cases hc : agN e i k s n
          · rfl
          · have := agN_iff.1 hc a hb hh
            rw [← hp, ← hq] at this
            rw [(eqEnB_iff p q).2 this] at he; cases he
        rw [hno] at hE
        refine W_x tok mixed ?_
        simp -implicitDefEqProofs -dsimp [r1, r2, l1, l2, hb, hasB_def, hh, show (a : Int) < 32 by omega, x1, x2, encEn, eqEn, he]
        refine .inr ⟨stop_of (by kernel_rfl), ?_⟩
        refine hQ _ _ _ ?_
        simp -implicitDefEqProofs -dsimp []
        exact hE
  · have hyes : agN e i k s n = true := agN_iff.2 fun c h1 h2 => hx c (by omega) h2
    rw [hyes] at hE
    refine W_x tok mixed ?_
    simp -implicitDefEqProofs -dsimp [r1, l1, hb]
    refine hQ _ _ _ ?_
    simp -implicitDefEqProofs -dsimp []
    exact hE
open Classical in
noncomputable def repTo (e : Nat → En) (old new : En) (c : Nat) (x : Nat) : En := if x < c ∧ e x = old then new else e x
theorem repTo_zero (e : Nat → En) (old new : En) : repTo e old new 0 = e := by funext x; unfold repTo; rw [if_neg (by omega)]
theorem repTo_at (e : Nat → En) (old new : En) (c : Nat) : repTo e old new c c = e c := by unfold repTo; rw [if_neg (by omega)]
theorem repTo_ne {e : Nat → En} {old new : En} {c x : Nat} (h : x ≠ c) : repTo e old new (c + 1) x = repTo e old new c x := by
  unfold repTo
  by_cases hx : x < c
  · by_cases he : e x = old
    · rw [if_pos ⟨by omega, he⟩, if_pos ⟨hx, he⟩]
    · rw [if_neg (fun hh => he hh.2), if_neg (fun hh => he hh.2)]
  · rw [if_neg (fun hh => by omega), if_neg (fun hh => hx hh.1)]
theorem repTo_yes {e : Nat → En} {old new : En} {c : Nat} (h : e c = old) : repTo e old new (c + 1) c = new := by unfold repTo; rw [if_pos ⟨by omega, h⟩]
theorem repTo_no {e : Nat → En} {old new : En} {c : Nat} (h : e c ≠ old) : repTo e old new (c + 1) = repTo e old new c := by
  funext x
  by_cases hx : x = c
  · subst hx; rw [repTo_at]; unfold repTo; rw [if_neg (fun hh => h hh.2)]
  · exact repTo_ne hx
theorem rowE_set {e e' : Nat → En} {n i k : Nat} {x : En} (hk : k < n) (hx : e' (i * n + k) = x) (h : ∀ a, a < n → a ≠ k → e' (i * n + a) = e (i * n + a)) : (rowE e n i).set k (.agg [.int .i64 x.v.k, .int .i64 x.v.n, .str x.v.s, .int .i64 x.s]) = rowE e' n i := by
  apply List.ext_getElem?
  intro a
  by_cases ha : a = k
  · subst ha
    rw [List.getElem?_set_self (by rw [rowE_len]; exact hk)]
    simp [rowE, hk, hx, encEn]
  · rw [List.getElem?_set_ne (Ne.symm ha)]
    by_cases hal : a < n
    · simp [rowE, hal, h a hal ha]
    · rw [List.getElem?_eq_none (by rw [rowE_len]; omega), List.getElem?_eq_none (by rw [rowE_len]; omega)]
set_option maxHeartbeats 32000000 in
theorem replace_r {H : List B} {ko b m n : Nat} (g0 : EOk H ko b m n) (e : Nat → En) (old new : En) (hn : n ≤ 16) (hm : m ≤ 1000) :
    ConH Tryz.prog 56 [.buf ko 0 m m, encEn old, encEn new] (He H b m n e) fun r' H' => ∃ G, H' = He H b m n (repTo e old new (m * n)) ++ G := by
  obtain ⟨G, hG⟩ : ∃ G, G = [B.cells [.int .i64 old.v.k, .int .i64 old.v.n, .str old.v.s, .int .i64 old.s], B.cells [.int .i64 new.v.k, .int .i64 new.v.n, .str new.v.s, .int .i64 new.s]] := ⟨_, rfl⟩
  have g := g0.app G (by rw [hG]; simp)
  have happ := fun e => he_app g0 G e
  obtain ⟨H2, hH2⟩ : ∃ H2, H2 = H ++ G := ⟨_, rfl⟩
  rw [← hH2] at g
  have happ2 : ∀ e, He H b m n e ++ [B.cells [.int .i64 old.v.k, .int .i64 old.v.n, .str old.v.s, .int .i64 old.s], B.cells [.int .i64 new.v.k, .int .i64 new.v.n, .str new.v.s, .int .i64 new.s]] = He H2 b m n e := fun e => by rw [hH2, ← happ e, hG]
  have hlen := fun e => he_len H b m n e
  have hlt := g0.lt
  have hlt2 := g.lt
  have hL2 : H2.length = H.length + 2 := by rw [hH2, hG]; simp
  have hx1 : ∀ e, (He H2 b m n e)[H.length]? = some (B.cells [.int .i64 old.v.k, .int .i64 old.v.n, .str old.v.s, .int .i64 old.s]) := fun e => by
    rw [← happ2 e, List.getElem?_append_right (by rw [hlen]; omega), hlen]; simp
  have hx2 : ∀ e, (He H2 b m n e)[H.length + 1]? = some (B.cells [.int .i64 new.v.k, .int .i64 new.v.n, .str new.v.s, .int .i64 new.s]) := fun e => by
    rw [← happ2 e, List.getElem?_append_right (by rw [hlen]; omega), hlen]; simp
  have hout := fun e => he_out g e
  have hol := outE_len b m n
  have hlenA := fun e => he_len H2 b m n e
  have hrb := fun e => he_rb g e
  have hkl : ∀ e, ko < (He H2 b m n e).length := fun e => by rw [hlenA]; have := g.no; omega
  have hl1 : ∀ e, H.length < (He H2 b m n e).length := fun e => by rw [hlenA, hL2]; omega
  have hl2 : ∀ e, H.length + 1 < (He H2 b m n e).length := fun e => by rw [hlenA, hL2]; omega
  obtain ⟨L, hLe⟩ : ∃ L, L = H.length := ⟨_, rfl⟩
  rw [← hLe] at hx1 hx2 hl1 hl2 hlen
  refine conH_of_W tok Tryz.func56 rfl rfl ?_
  refine W_x tok mixed ?_
  simp -implicitDefEqProofs -dsimp [Tryz.f56, List.replicate, encEn, happ2, hlen]
  refine lw_of (W_loopV [false, false, false, false, false, false, true, true, true, true, true, true, true, true, true, true, true, true, true, true, true, true, true, true, true, true, true, true, true, true, true, true, true, true, true, true, true, true, true] (σ := Nat) (fun i => i ≤ m) (fun i => m - i) (fun i => [(6, .int .i64 i)]) (fun i => He H2 b m n (repTo e old new (i * n))) 0 (by omega) (by simp) (by simp [repTo_zero]) (by simp [hlenA]) ?_)
  intro i hi N Q hN hQ
  by_cases hib : i < m
  · have hog := fun h => outE_get (b := b) (m := m) (n := n) (i := i) h
    have hbl : ∀ e, b + i < (He H2 b m n e).length := fun e => by rw [hlenA]; omega
    have hrow := fun e => he_row g e hib
    have hrl := fun e => rowE_len e n i
    obtain ⟨bi, hbi⟩ : ∃ bi, bi = b + i := ⟨_, rfl⟩
    rw [← hbi] at hog hbl hrow
    have hset : ∀ e' e'' : Nat → En, (∀ k a, k < m → a < n → k ≠ i → e'' (k * n + a) = e' (k * n + a)) → (He H2 b m n e').set bi (.buf 117 4 (rowE e'' n i) false) = He H2 b m n e'' := fun e' e'' h => by rw [hbi]; exact he_set g e' e'' hib h
    refine W_x tok mixed ?_
    simp -implicitDefEqProofs -dsimp [hout, hol, hib]
    refine lw_of (W_loopV [false, false, false, false, false, false, false, true, false, false, false, false, false, false, true, true, true, true, true, true, true, true, true, true, true, true, true, true, true, true, true, true, true, true, true, true, true, true, true] (σ := Nat) (fun k => k ≤ n) (fun k => n - k) (fun k => [(7, .int .i64 k)]) (fun k => He H2 b m n (repTo e old new (i * n + k))) 0 (by omega) (by simp) (by simp) (by simp [hlenA]) ?_)
    intro k hk N2 Q2 hN2 hQ2
    by_cases hkb : k < n
    · have hlt3 := cell_lt hib hkb
      obtain ⟨c, hc⟩ : ∃ c, c = i * n + k := ⟨_, rfl⟩
      have hc1 : i * n + (k + 1) = c + 1 := by omega
      have hget : ∀ (h : k < (rowE (repTo e old new c) n i).length), (rowE (repTo e old new c) n i)[k] = encEn (e c) := fun h => by rw [rowE_get h, ← hc, repTo_at]
      rw [← hc]
      obtain ⟨p, hp⟩ : ∃ p, p = e c := ⟨_, rfl⟩
      rw [← hp] at hget
      have hother : ∀ k' a, k' < m → a < n → k' ≠ i → repTo e old new (c + 1) (k' * n + a) = repTo e old new c (k' * n + a) := fun k' a hk' ha hne => repTo_ne (by
        intro h
        rw [hc] at h
        have d1 := (cellDiv (i := k') ha).1
        have d2 := (cellDiv (i := i) hkb).1
        rw [h, d2] at d1
        exact hne d1.symm)
      cases hq : eqEnB p old with
      | true =>
        have hpo : e c = old := by rw [← hp]; exact (eqEnB_iff p old).1 hq
        have hrs := rowE_set (e := repTo e old new c) (e' := repTo e old new (c + 1)) (n := n) (i := i) (k := k) (x := new) hkb (by rw [← hc]; exact repTo_yes hpo) (fun a ha hne => repTo_ne (by omega))
        have hst := hset (repTo e old new c) (repTo e old new (c + 1)) hother
        refine W_x tok mixed ?_
        simp -implicitDefEqProofs -dsimp [hout, hol, hib, hog, hrow, hrl, hkb, hget, encEn, eqEn, hx1, hq]
        refine .inr ⟨stop_of (by kernel_rfl), ?_⟩
        refine lw_of (W_drawT tok mixed [7] [] [] (by kernel_rfl) fun C K hC hK => ?_)
        simp -implicitDefEqProofs [hout, hol, hib, hog, hrow, hrl, hkb, hget, encEn, hx2, hrs, hst]
        refine hK _ _ ?_
        simp -implicitDefEqProofs -dsimp [wrapS k (by omega)]
        refine hN2 (k + 1) _ _ (by omega) (by omega) (by simp) ⟨[], by rw [hc1]; simp⟩ (by simp [hkl, hl1, hl2]) (hrb _)
      | false =>
        have hpo : e c ≠ old := fun h => by rw [hp, h] at hq; rw [(eqEnB_iff old old).2 rfl] at hq; cases hq
        have hsame := repTo_no (new := new) hpo
        refine W_x tok mixed ?_
        simp -implicitDefEqProofs -dsimp [hout, hol, hib, hog, hrow, hrl, hkb, hget, encEn, eqEn, hx1, hq]
        refine .inr ⟨stop_of (by kernel_rfl), ?_⟩
        simp -implicitDefEqProofs -dsimp [wrapS k (by omega)]
        refine hN2 (k + 1) _ _ (by omega) (by omega) (by simp) ⟨[], by rw [hc1, hsame]; simp⟩ (by simp [hkl, hl1, hl2]) (hrb _)
    · obtain rfl : k = n := by omega
      have hc1 : i * k + k = (i + 1) * k := by rw [Nat.add_mul]; omega
      refine W_x tok mixed ?_
      simp -implicitDefEqProofs -dsimp [hout, hol, hib, hog, hrow, hrl, hkb]
      refine hQ2 _ _ _ ?_
      simp -implicitDefEqProofs -dsimp [wrapS i (by omega)]
      refine hN (i + 1) _ _ (by omega) (by omega) (by simp) ⟨[], by rw [hc1]; simp⟩ (by simp [hkl, hl1, hl2]) (hrb _)
  · obtain rfl : i = m := by omega
    refine W_x tok mixed ?_
    simp -implicitDefEqProofs -dsimp [hout, hol, hib]
    refine hQ _ _ _ ?_
    simp -implicitDefEqProofs -dsimp []
    exact ⟨G, by rw [happ, hH2]⟩
def zV : Vl := ⟨0, 0, ByteArray.empty⟩
/-- An entry as a value or a symbol. -/
def toD (x : En) : Dm := if x.s = 0 then .inl x.v else .inr x.s.toNat
structure EnOk (e : Nat → En) (N S : Nat) : Prop where
  lo : ∀ x, x < N → 0 ≤ (e x).s
  hi : ∀ x, x < N → (e x).s ≤ S
  z : ∀ x, x < N → (e x).s ≠ 0 → (e x).v = zV
theorem toD_inj {e : Nat → En} {N S : Nat} (h : EnOk e N S) {x y : Nat} (hx : x < N) (hy : y < N) : toD (e x) = toD (e y) ↔ e x = e y := by
  constructor
  · intro he
    unfold toD at he
    have l1 := h.lo x hx
    have l2 := h.lo y hy
    have z1 := h.z x hx
    have z2 := h.z y hy
    generalize e x = p at *
    generalize e y = q at *
    obtain ⟨v, s⟩ := p
    obtain ⟨w, r⟩ := q
    simp only at *
    by_cases hs : s = 0
    · by_cases hr : r = 0
      · rw [if_pos hs, if_pos hr] at he
        rw [hs, hr, Sum.inl.inj he]
      · rw [if_pos hs, if_neg hr] at he; cases he
    · by_cases hr : r = 0
      · rw [if_neg hs, if_pos hr] at he; cases he
      · rw [if_neg hs, if_neg hr] at he
        have h1 := Sum.inr.inj he
        rw [z1 hs, z2 hr, show s = r by omega]
  · rintro h; rw [h]
/-- Cells that must be equal, and are not yet. -/
theorem step_sem {q : Prob} {e : Nat → En} {S : Nat} (hE : Ent q (fun x => toD (e x))) (hO : EnOk e (q.m * q.n) S) (hn : q.n ≤ 16) {d : Fd} (hd : d ∈ q.fds) (hb : d.l < 4294967296 ∧ d.r < 4294967296) {i k a : Nat} (hi : i < q.m) (hk : k < i) (hl : AgrN e i k d.l q.n q.n) (ha : a < q.n) (hr : hasB d.r a = true) :
    ∀ σ, Sol q σ → σ (i * q.n + a) = σ (k * q.n + a) := fun σ hσ => by
  obtain ⟨τ, ht⟩ := hE.sem σ hσ
  refine hσ.dep d hd i k hi hk (fun b hb1 hb2 => ?_) a ha (by rw [hasB_bit _ _ hb.2 (by omega)] at hr; exact hr)
  rw [ht _ (cell_lt hi hb1), ht _ (cell_lt (by omega) hb1), hl b hb1 (by rw [hasB_bit _ _ hb.1 (by omega)]; exact hb2)]
theorem step_clash {q : Prob} {e : Nat → En} {S : Nat} (hE : Ent q (fun x => toD (e x))) {x y : Nat} (hx : x < q.m * q.n) (hy : y < q.m * q.n) (h1 : (e x).s = 0) (h2 : (e y).s = 0) (hne : e x ≠ e y) (hs : ∀ σ, Sol q σ → σ x = σ y) : ¬ Okq q := by
  refine hE.clash hx hy (v := (e x).v) (w := (e y).v) (by simp [toD, h1]) (by simp [toD, h2]) (fun h => hne ?_) hs
  generalize e x = p at *
  generalize e y = r at *
  obtain ⟨v, s⟩ := p
  obtain ⟨w, t⟩ := r
  simp only at *
  rw [h1, h2, h]
/-- Symbol (e x) is replaced by (e y). -/
theorem step_rep {q : Prob} {e : Nat → En} {S : Nat} (hE : Ent q (fun x => toD (e x))) (hO : EnOk e (q.m * q.n) S) {x y : Nat} (hx : x < q.m * q.n) (hy : y < q.m * q.n) (hsx : (e x).s ≠ 0) (hne : e x ≠ e y) (hs : ∀ σ, Sol q σ → σ x = σ y) :
    Ent q (fun z => toD (repTo e (e x) (e y) (q.m * q.n) z)) ∧ EnOk (repTo e (e x) (e y) (q.m * q.n)) (q.m * q.n) S ∧ cntS (q.m * q.n) (S + 1) (fun z => toD (repTo e (e x) (e y) (q.m * q.n) z)) < cntS (q.m * q.n) (S + 1) (fun z => toD (e z)) := by
  have hex : toD (e x) = .inr (e x).s.toNat := by simp [toD, hsx]
  have heq : ∀ z, z < q.m * q.n → toD (repTo e (e x) (e y) (q.m * q.n) z) = repE (fun z => toD (e z)) (e x).s.toNat (toD (e y)) z := fun z hz => by
    unfold repTo repE
    by_cases hzx : e z = e x
    · rw [if_pos ⟨hz, hzx⟩, if_pos (by show toD (e z) = _; rw [hzx, hex])]
    · rw [if_neg (fun h => hzx h.2), if_neg (fun h => hzx ((toD_inj hO hz hx).1 (h.trans hex.symm)))]
  have hrep := hE.rep hx hy hex hs
  refine ⟨?_, ?_, ?_⟩
  · refine ⟨fun z v hz hk => by rw [heq z hz]; exact hrep.fix z v hz hk, fun σ hσ => ?_⟩
    obtain ⟨τ, ht⟩ := hrep.sem σ hσ
    exact ⟨τ, fun z hz => by rw [ht z hz, ← heq z hz]⟩
  · refine ⟨fun z hz => ?_, fun z hz => ?_, fun z hz => ?_⟩ <;> unfold repTo <;> split
    · exact hO.lo y hy
    · exact hO.lo z hz
    · exact hO.hi y hy
    · exact hO.hi z hz
    · exact hO.z y hy
    · exact hO.z z hz
  · have hc := cntS_rep (N := q.m * q.n) (S := S + 1) (s := (e x).s.toNat) (e := fun z => toD (e z)) (x0 := x) (y0 := y) hx hy hex (fun h => hne ((toD_inj hO hx hy).1 (hex.trans h.symm))) (by have := hO.hi x hx; omega)
    refine Nat.lt_of_le_of_lt (Nat.le_of_eq ?_) hc
    unfold cntS
    congr 1
    refine List.filter_congr fun s _ => ?_
    unfold hasSym
    refine decide_eq_decide.2 ?_
    constructor
    · rintro ⟨z, hz, h⟩; exact ⟨z, hz, (heq z hz).symm.trans h⟩
    · rintro ⟨z, hz, h⟩; exact ⟨z, hz, (heq z hz).trans h⟩
def ClsN (q : Prob) (e : Nat → En) (d : Fd) (i k : Nat) : Prop := AgrN e i k d.l q.n q.n → AgrN e i k d.r q.n q.n
theorem closedE_of {q : Prob} {e : Nat → En} {S : Nat} (hO : EnOk e (q.m * q.n) S) (hn : q.n ≤ 16) (hd : ∀ d ∈ q.fds, d.l < 4294967296 ∧ d.r < 4294967296) (h : ∀ d ∈ q.fds, ∀ i k, i < q.m → k < i → ClsN q e d i k) : ClosedE q (fun x => toD (e x)) := fun d hd1 i k hi hk hl a ha hb => by
  have := h d hd1 i k hi hk (fun c hc1 hc2 => ?_) a ha (by rw [hasB_bit _ _ (hd d hd1).2 (by omega)]; exact hb)
  · show toD _ = toD _
    rw [this]
  · exact (toD_inj hO (cell_lt hi hc1) (cell_lt (by omega) hc1)).1 (hl c hc1 (by rw [hasB_bit _ _ (hd d hd1).1 (by omega)] at hc2; exact hc2))
/-- What step has done. -/
def StepR (q : Prob) (H : List B) (b : Nat) (S : Nat) (e : Nat → En) (r : V) (H' : List B) : Prop :=
  (r = .int .i64 0 ∧ ClosedE q (fun x => toD (e x)) ∧ ∃ G, H' = He H b q.m q.n e ++ G) ∨ (r = .int .i64 (-1) ∧ ¬ Okq q) ∨
  (r = .int .i64 1 ∧ ∃ e' G, H' = He H b q.m q.n e' ++ G ∧ Ent q (fun x => toD (e' x)) ∧ EnOk e' (q.m * q.n) S ∧ cntS (q.m * q.n) (S + 1) (fun x => toD (e' x)) < cntS (q.m * q.n) (S + 1) (fun x => toD (e x)))
theorem hasZ_def (s : Int) (a : Nat) : (IntKind.u32.wrap ↑((s.fdiv (2 ^ min a IntKind.u32.bits) % 2 ^ IntKind.u32.bits).toNat &&& 1 % 2 ^ IntKind.u32.bits) == 0) = !hasB s a := by
  unfold hasB
  have h4 : (1 % 2 ^ IntKind.u32.bits : Nat) = 1 := rfl
  rw [h4, Nat.and_one_is_mod, u32w _ (by omega)]
  have := Nat.mod_two_eq_zero_or_one (s.fdiv (2 ^ min a IntKind.u32.bits) % 2 ^ IntKind.u32.bits).toNat
  rcases this with h | h <;> rw [h] <;> rfl
theorem r5 : List.range 5 = [0, 1, 2, 3, 4] := rfl
theorem ia1 : List.idxOf 14 [14, 15, 16, 17] = 0 := rfl
theorem ia2 : List.idxOf 15 [14, 15, 16, 17] = 1 := rfl
theorem ia3 : List.idxOf 16 [14, 15, 16, 17] = 2 := rfl
theorem ia4 : List.idxOf 17 [14, 15, 16, 17] = 3 := rfl
theorem ib1 : List.idxOf 14 [15, 14, 16, 17] = 1 := rfl
theorem ib2 : List.idxOf 15 [15, 14, 16, 17] = 0 := rfl
theorem ib3 : List.idxOf 16 [15, 14, 16, 17] = 2 := rfl
theorem ib4 : List.idxOf 17 [15, 14, 16, 17] = 3 := rfl
set_option maxHeartbeats 64000000 in
theorem step_r {q : Prob} {H : List B} {ko b m n S : Nat} (hme : q.m = m) (hne : q.n = n) (g : EOk H ko b m n) (e : Nat → En) (hE : Ent q (fun x => toD (e x))) (hO : EnOk e (q.m * q.n) S) (hn : n ≤ 16) (hm : m ≤ 1000) (ff : Bool) (hF : FdsOk q.fds) :
    ConH Tryz.prog 91 [.buf ko 0 m m, LF ff q.fds] (He H b m n e) (StepR q H b S e) := by
  obtain ⟨hF1, hF2⟩ := hF
  have hclo := closedE_of hO (by omega) hF2
  obtain ⟨fds, hfds⟩ : ∃ fds, fds = q.fds := ⟨_, rfl⟩
  have hout := he_out g e
  have hol := outE_len b m n
  have hlenA := he_len H b m n e
  have hrb := he_rb g e
  have hlt := g.lt
  have hkl : ko < (He H b m n e).length := by rw [hlenA]; have := g.no; omega
  rw [← hfds] at hF1 hF2 hclo ⊢
  refine conH_of_W tok Tryz.func91 rfl rfl ?_
  refine W_x tok mixed ?_
  simp -implicitDefEqProofs -dsimp [Tryz.f91, List.replicate, LF]
  refine lw_of (W_loopV [false, false, false, false, true, true, true, true, true, true, true, true, true, true, true, true, true, true, true, true, true, true, true, true, true, true, true, true, true, true, true, true, true, true, true, true, true, true, true, true, true, true, true, true, true, true, true, true, true, true, true, true, true, true, true, true, true, true, true, true, true, true, true, true, true, true, true, true, true, true, true, true, true, true, true, true, true, true, true, true, true, true, true, true, true, true, true, true, true, true, true, true, true, true, true, true, true, true, true] (σ := Nat) (fun j => j ≤ fds.length ∧ ∀ d ∈ fds.take j, ∀ i k, i < m → k < i → ClsN q e d i k) (fun j => fds.length - j) (fun j => [(5, .int .i64 j)]) (fun _ => He H b m n e) 0 ⟨by omega, by simp⟩ (by simp) rfl (by simp) ?_)
  rintro j ⟨hj, hx⟩ N Q hN hQ
  by_cases hjb : j < fds.length
  · obtain ⟨d, hd⟩ : ∃ d, d = fds[j] := ⟨_, rfl⟩
    have hd' := hd.symm
    have hdm : d ∈ fds := hd ▸ List.getElem_mem hjb
    have hdb := hF2 d hdm
    refine W_x tok mixed ?_
    simp -implicitDefEqProofs -dsimp [hjb]
    refine lw_of (W_loopV [false, false, false, false, true, false, true, true, true, true, true, false, false, false, false, false, false, true, true, true, true, true, true, true, true, true, true, true, true, true, true, true, true, true, true, true, true, true, true, true, true, true, true, true, true, true, true, true, true, true, true, true, true, true, true, true, true, true, true, true, true, true, true, true, true, true, true, true, true, true, true, true, true, true, true, true, true, true, true, true, true, true, true, true, true, true, true, true, true, true, true, true, true, true, true, true, true, true, true] (σ := Nat) (fun i => i ≤ m ∧ ∀ i' k, i' < i → k < i' → ClsN q e d i' k) (fun i => m - i) (fun i => [(6, .int .i64 i)]) (fun _ => He H b m n e) 0 ⟨by omega, fun i' k h => by omega⟩ (by simp) rfl (by simp) ?_)
    rintro i ⟨hi, hx2⟩ N2 Q2 hN2 hQ2
    by_cases hib : i < m
    · have hog := fun h => outE_get (b := b) (m := m) (n := n) (i := i) h
      have hrow := he_row g e hib
      have hrl := rowE_len e n i
      have hbl : b + i < (He H b m n e).length := by rw [hlenA]; omega
      refine W_x tok mixed ?_
      simp -implicitDefEqProofs -dsimp [hout, hol, hib]
      refine lw_of (W_loopV [false, false, false, false, true, false, false, true, true, true, true, false, false, false, false, false, false, false, false, false, false, false, false, true, true, true, true, true, true, true, true, true, true, true, true, true, true, true, true, true, true, true, true, true, true, true, true, true, true, true, true, true, true, true, true, true, true, true, true, true, true, true, true, true, true, true, true, true, true, true, true, true, true, true, true, true, true, true, true, true, true, true, true, true, true, true, true, true, true, true, true, true, true, true, true, true, true, true, true] (σ := Nat) (fun k => k ≤ i ∧ ∀ k', k' < k → ClsN q e d i k') (fun k => i - k) (fun k => [(7, .int .i64 k)]) (fun _ => He H b m n e) 0 ⟨by omega, fun k h => by omega⟩ (by simp) rfl (by simp) ?_)
      rintro k ⟨hk, hx3⟩ N3 Q3 hN3 hQ3
      by_cases hkb : k < i
      · have hkm : k < m := by omega
        have hog2 := fun h => outE_get (b := b) (m := m) (n := n) (i := k) h
        have hrow2 := he_row g e hkm
        have hrl2 := rowE_len e n k
        have hbl2 : b + k < (He H b m n e).length := by rw [hlenA]; omega
        have ca := agree_e g e i k (d.l : Int) hib hkm hn
        cases ha1 : agN e i k d.l n with
        | false =>
          rw [ha1] at ca
          refine W_x tok mixed ?_
          simp -implicitDefEqProofs -dsimp [hkb, hout, hol, hib, hkm, hog, hog2, hjb, hd', encF]
          refine .inr ⟨stop_of (by kernel_rfl), ?_⟩
          refine cy_of _ ca ?_
          simp -implicitDefEqProofs -dsimp [wrapS k (by omega)]
          refine hN3 (k + 1) _ _ ⟨by omega, fun k' hk' => ?_⟩ (by omega) (by simp) ⟨[], by simp⟩ (by simp [hkl]) hrb
          rcases Nat.lt_or_ge k' k with h1 | h1
          · exact hx3 k' h1
          · have : k' = k := by omega
            subst this
            intro hy
            rw [hne] at hy
            rw [agN_iff.2 hy] at ha1; cases ha1
        | true =>
          rw [ha1] at ca
          have hag := agN_iff.1 ha1
          refine W_x tok mixed ?_
          simp -implicitDefEqProofs -dsimp [hkb, hout, hol, hib, hkm, hog, hog2, hjb, hd', encF]
          refine .inr ⟨stop_of (by kernel_rfl), ?_⟩
          refine cy_of _ ca ?_
          simp -implicitDefEqProofs -dsimp []
          refine lw_of (W_loopV [false, false, false, false, true, false, false, false, true, true, true, false, false, false, false, false, false, false, false, false, false, false, false, false, false, false, false, false, false, false, false, false, false, false, false, false, false, false, false, false, false, false, false, true, true, true, true, true, true, true, true, true, true, true, true, true, true, true, true, true, true, true, true, true, true, true, true, true, true, true, true, true, true, true, true, true, true, true, true, true, true, true, true, true, true, true, true, true, true, true, true, true, true, true, true, true, true, true, true] (σ := Nat) (fun a => a ≤ n ∧ AgrN e i k d.r n a) (fun a => n - a) (fun a => [(8, .int .i64 a)]) (fun _ => He H b m n e) 0 ⟨by omega, fun a h => by omega⟩ (by simp) rfl (by simp) ?_)
          rintro a ⟨ha, hx4⟩ N4 Q4 hN4 hQ4
          by_cases hab : a < n
          · have x1 := fun h => rowE_get (e := e) (n := n) (i := i) (a := a) h
            have x2 := fun h => rowE_get (e := e) (n := n) (i := k) (a := a) h
            obtain ⟨p, hp⟩ : ∃ p, p = e (i * n + a) := ⟨_, rfl⟩
            obtain ⟨r, hr⟩ : ∃ r, r = e (k * n + a) := ⟨_, rfl⟩
            rw [← hp] at x1
            rw [← hr] at x2
            have ho1 : ∀ G, (He H b m n e ++ G)[ko]? = some (B.buf 115 1 (outE b m n) false) := fun G => by rw [List.getElem?_append_left hkl]; exact hout
            have ho2 : ∀ G, (He H b m n e ++ G)[b + i]? = some (B.buf 117 4 (rowE e n i) false) := fun G => by rw [List.getElem?_append_left hbl]; exact hrow
            have ho3 : ∀ G, (He H b m n e ++ G)[b + k]? = some (B.buf 117 4 (rowE e n k) false) := fun G => by rw [List.getElem?_append_left hbl2]; exact hrow2
            refine W_x tok mixed ?_
            simp -implicitDefEqProofs -dsimp [hout, hol, hib, hog, hrow, hrl, hab]
            refine lw_of (W_draw2 tok mixed [14, 15, 16, 17] [15, 14, 16, 17] []
              [He H b m n e ++ [.cells [.int .i64 0, .int .i64 0, .str ByteArray.empty, .int .i64 0]], He H b m n e ++ [.cells [.int .i64 0, .int .i64 0, .str ByteArray.empty, .int .i64 0], .cells [.int .i64 0, .int .i64 0, .str ByteArray.empty, .int .i64 0]],
                He H b m n e ++ [.cells [.int .i64 p.v.k, .int .i64 p.v.n, .str p.v.s, .int .i64 p.s], .cells [.int .i64 0, .int .i64 0, .str ByteArray.empty, .int .i64 0]], He H b m n e ++ [.cells [.int .i64 p.v.k, .int .i64 p.v.n, .str p.v.s, .int .i64 p.s], .cells [.int .i64 r.v.k, .int .i64 r.v.n, .str r.v.s, .int .i64 r.s]]]
              [He H b m n e ++ [.cells [.int .i64 0, .int .i64 0, .str ByteArray.empty, .int .i64 0]], He H b m n e ++ [.cells [.int .i64 0, .int .i64 0, .str ByteArray.empty, .int .i64 0], .cells [.int .i64 0, .int .i64 0, .str ByteArray.empty, .int .i64 0]],
                He H b m n e ++ [.cells [.int .i64 0, .int .i64 0, .str ByteArray.empty, .int .i64 0], .cells [.int .i64 p.v.k, .int .i64 p.v.n, .str p.v.s, .int .i64 p.s]], He H b m n e ++ [.cells [.int .i64 r.v.k, .int .i64 r.v.n, .str r.v.s, .int .i64 r.s], .cells [.int .i64 p.v.k, .int .i64 p.v.n, .str p.v.s, .int .i64 p.s]]]
              (by kernel_rfl) fun K hK => ?_)
            simp -implicitDefEqProofs [hout, hol, hib, hkm, hog, hog2, hrow, hrow2, hrl, hrl2, hab, x1, x2, ho1, ho2, ho3, encEn, hlenA, r5, ia1, ia2, ia3, ia4, ib1, ib2, ib3, ib4]
            obtain ⟨L, hL⟩ : ∃ L, L = H.length := ⟨_, rfl⟩
            rw [← hL] at hlenA ⊢
            obtain ⟨P4, hP4⟩ : ∃ P4, P4 = B.cells [.int .i64 p.v.k, .int .i64 p.v.n, .str p.v.s, .int .i64 p.s] := ⟨_, rfl⟩
            obtain ⟨R4, hR4⟩ : ∃ R4, R4 = B.cells [.int .i64 r.v.k, .int .i64 r.v.n, .str r.v.s, .int .i64 r.s] := ⟨_, rfl⟩
            have y1 : (He H b m n e ++ [P4, R4])[L]? = some (B.cells [.int .i64 p.v.k, .int .i64 p.v.n, .str p.v.s, .int .i64 p.s]) := by rw [List.getElem?_append_right (by omega), hlenA, hP4]; simp
            have y2 : (He H b m n e ++ [P4, R4])[L + 1]? = some (B.cells [.int .i64 r.v.k, .int .i64 r.v.n, .str r.v.s, .int .i64 r.s]) := by rw [List.getElem?_append_right (by omega), hlenA, hR4]; simp
            have y3 : (He H b m n e ++ [R4, P4])[L + 1]? = some (B.cells [.int .i64 p.v.k, .int .i64 p.v.n, .str p.v.s, .int .i64 p.s]) := by rw [List.getElem?_append_right (by omega), hlenA, hP4]; simp
            have y4 : (He H b m n e ++ [R4, P4])[L]? = some (B.cells [.int .i64 r.v.k, .int .i64 r.v.n, .str r.v.s, .int .i64 r.s]) := by rw [List.getElem?_append_right (by omega), hlenA, hR4]; simp
            have rbP : ∀ k, rbB k P4 := fun k => by rw [hP4]; simp
            have rbR : ∀ k, rbB k R4 := fun k => by rw [hR4]; simp
            rw [← hP4, ← hR4]
            have again : (hasB (d.r : Int) a = true → p = r) → AgrN e i k d.r n (a + 1) := fun h c hc1 hc2 => by
              rcases Nat.lt_or_ge c a with h1 | h1
              · exact hx4 c h1 hc2
              · have : c = a := by omega
                subst this; rw [← hp, ← hr]; exact h hc2
            cases hh : hasB (d.r : Int) a with
            | false =>
              have hag2 := again (fun h => by rw [hh] at h; cases h)
              refine ⟨hK _ _ ?_, hK _ _ ?_⟩
              all_goals
                simp -implicitDefEqProofs -dsimp [hjb, hd', encF, hasZ_def, hh, show (a : Int) < 32 by omega, wrapS a (by omega)]
                refine hN4 (a + 1) _ _ ⟨by omega, hag2⟩ (by omega) (by simp) ⟨_, rfl⟩ (by simp [hkl, hbl, hbl2]) hrb
            | true =>
              cases heq : eqEnB p r with
              | true =>
                have hag2 := again (fun _ => (eqEnB_iff p r).1 heq)
                refine ⟨hK _ _ ?_, hK _ _ ?_⟩
                all_goals
                  simp -implicitDefEqProofs -dsimp [hjb, hd', encF, hasZ_def, hh, show (a : Int) < 32 by omega, y1, y2, y3, y4, eqEn, heq, wrapS a (by omega)]
                  refine hN4 (a + 1) _ _ ⟨by omega, hag2⟩ (by omega) (by simp) ⟨_, rfl⟩ (by simp [hkl, hbl, hbl2]) hrb
              | false =>
                have hpr : e (i * n + a) ≠ e (k * n + a) := fun h => by
                  rw [hp, hr, (eqEnB_iff _ _).2 h] at heq; cases heq
                have li := cell_lt hib hab
                have lk := cell_lt hkm hab
                have hsem := step_sem hE hO (by omega) (hfds ▸ hdm) hdb (show i < q.m by omega) hkb (by rw [hne]; exact hag) (by rw [hne]; exact hab) hh
                rw [hne] at hsem
                have hq1 : i * n + a < q.m * q.n := by rw [hme, hne]; exact li
                have hq2 : k * n + a < q.m * q.n := by rw [hme, hne]; exact lk
                by_cases s1 : p.s = 0
                · by_cases s2 : r.s = 0
                  · have z1 : (p.s == 0) = true := by simp [s1]
                    have z2 : (r.s == 0) = true := by simp [s2]
                    have hno := step_clash hE (S := S) hq1 hq2 (by rw [← hp]; exact s1) (by rw [← hr]; exact s2) hpr hsem
                    refine ⟨hK _ _ ?_, hK _ _ ?_⟩
                    all_goals
                      simp -implicitDefEqProofs -dsimp [hjb, hd', encF, hasZ_def, hh, show (a : Int) < 32 by omega, y1, y2, y3, y4, eqEn, heq, z1, z2]
                      refine hQ4 _ _ _ ?_
                      simp -implicitDefEqProofs -dsimp []
                      refine hQ3 _ _ _ ?_
                      simp -implicitDefEqProofs -dsimp []
                      refine hQ2 _ _ _ ?_
                      simp -implicitDefEqProofs -dsimp []
                      refine hQ _ _ _ ?_
                      simp -implicitDefEqProofs -dsimp []
                      exact .inr (.inl ⟨rfl, hno⟩)
                  · have z1 : (p.s == 0) = true := by simp [s1]
                    have z2 : (r.s == 0) = false := by simp [s2]
                    have hrep := step_rep hE hO hq2 hq1 (by rw [← hr]; exact s2) (fun h => hpr h.symm) (fun σ hσ => (hsem σ hσ).symm)
                    rw [hme, hne, ← hp, ← hr] at hrep
                    have c1 := replace_r (g.app [P4, R4] (by simp [↓rbP, ↓rbR])) e r p hn hm
                    have c2 := replace_r (g.app [R4, P4] (by simp [↓rbP, ↓rbR])) e r p hn hm
                    rw [← he_app g] at c1 c2
                    have a1 := fun G => congrArg (· ++ G) (he_app g [P4, R4] (repTo e r p (m * n))).symm
                    have a2 := fun G => congrArg (· ++ G) (he_app g [R4, P4] (repTo e r p (m * n))).symm
                    simp only [encEn] at c1 c2
                    refine ⟨hK _ _ ?_, hK _ _ ?_⟩
                    · simp -implicitDefEqProofs -dsimp [hjb, hd', encF, hasZ_def, hh, show (a : Int) < 32 by omega, y1, y2, eqEn, heq, z1, z2]
                      refine WCall.mono (K := fun r' H' => ∃ G, H' = He (H ++ [P4, R4]) b m n (repTo e r p (m * n)) ++ G) c1 ?_
                      rintro r' H' ⟨G, rfl⟩
                      simp -implicitDefEqProofs -dsimp []
                      refine hQ4 _ _ _ ?_
                      simp -implicitDefEqProofs -dsimp []
                      refine hQ3 _ _ _ ?_
                      simp -implicitDefEqProofs -dsimp []
                      refine hQ2 _ _ _ ?_
                      simp -implicitDefEqProofs -dsimp []
                      refine hQ _ _ _ ?_
                      simp -implicitDefEqProofs -dsimp []
                      exact .inr (.inr ⟨rfl, _, _, by rw [hme, hne]; exact (a1 G).trans (List.append_assoc _ _ _), by simpa only [hme, hne] using hrep⟩)
                    · simp -implicitDefEqProofs -dsimp [hjb, hd', encF, hasZ_def, hh, show (a : Int) < 32 by omega, y3, y4, eqEn, heq, z1, z2]
                      refine WCall.mono (K := fun r' H' => ∃ G, H' = He (H ++ [R4, P4]) b m n (repTo e r p (m * n)) ++ G) c2 ?_
                      rintro r' H' ⟨G, rfl⟩
                      simp -implicitDefEqProofs -dsimp []
                      refine hQ4 _ _ _ ?_
                      simp -implicitDefEqProofs -dsimp []
                      refine hQ3 _ _ _ ?_
                      simp -implicitDefEqProofs -dsimp []
                      refine hQ2 _ _ _ ?_
                      simp -implicitDefEqProofs -dsimp []
                      refine hQ _ _ _ ?_
                      simp -implicitDefEqProofs -dsimp []
                      exact .inr (.inr ⟨rfl, _, _, by rw [hme, hne]; exact (a2 G).trans (List.append_assoc _ _ _), by simpa only [hme, hne] using hrep⟩)
                · have z1 : (p.s == 0) = false := by simp [s1]
                  have z2 : True := trivial
                  have hrep := step_rep hE hO hq1 hq2 (by rw [← hp]; exact s1) hpr hsem
                  rw [hme, hne, ← hp, ← hr] at hrep
                  have c1 := replace_r (g.app [P4, R4] (by simp [↓rbP, ↓rbR])) e p r hn hm
                  have c2 := replace_r (g.app [R4, P4] (by simp [↓rbP, ↓rbR])) e p r hn hm
                  rw [← he_app g] at c1 c2
                  have a1 := fun G => congrArg (· ++ G) (he_app g [P4, R4] (repTo e p r (m * n))).symm
                  have a2 := fun G => congrArg (· ++ G) (he_app g [R4, P4] (repTo e p r (m * n))).symm
                  simp only [encEn] at c1 c2
                  refine ⟨hK _ _ ?_, hK _ _ ?_⟩
                  · simp -implicitDefEqProofs -dsimp [hjb, hd', encF, hasZ_def, hh, show (a : Int) < 32 by omega, y1, y2, eqEn, heq, z1, z2]
                    refine WCall.mono (K := fun r' H' => ∃ G, H' = He (H ++ [P4, R4]) b m n (repTo e p r (m * n)) ++ G) c1 ?_
                    rintro r' H' ⟨G, rfl⟩
                    simp -implicitDefEqProofs -dsimp []
                    refine hQ4 _ _ _ ?_
                    simp -implicitDefEqProofs -dsimp []
                    refine hQ3 _ _ _ ?_
                    simp -implicitDefEqProofs -dsimp []
                    refine hQ2 _ _ _ ?_
                    simp -implicitDefEqProofs -dsimp []
                    refine hQ _ _ _ ?_
                    simp -implicitDefEqProofs -dsimp []
                    exact .inr (.inr ⟨rfl, _, _, by rw [hme, hne]; exact (a1 G).trans (List.append_assoc _ _ _), by simpa only [hme, hne] using hrep⟩)
                  · simp -implicitDefEqProofs -dsimp [hjb, hd', encF, hasZ_def, hh, show (a : Int) < 32 by omega, y3, y4, eqEn, heq, z1, z2]
                    refine WCall.mono (K := fun r' H' => ∃ G, H' = He (H ++ [R4, P4]) b m n (repTo e p r (m * n)) ++ G) c2 ?_
                    rintro r' H' ⟨G, rfl⟩
                    simp -implicitDefEqProofs -dsimp []
                    refine hQ4 _ _ _ ?_
                    simp -implicitDefEqProofs -dsimp []
                    refine hQ3 _ _ _ ?_
                    simp -implicitDefEqProofs -dsimp []
                    refine hQ2 _ _ _ ?_
                    simp -implicitDefEqProofs -dsimp []
                    refine hQ _ _ _ ?_
                    simp -implicitDefEqProofs -dsimp []
                    exact .inr (.inr ⟨rfl, _, _, by rw [hme, hne]; exact (a2 G).trans (List.append_assoc _ _ _), by simpa only [hme, hne] using hrep⟩)
          · obtain rfl : a = n := by omega
            refine W_x tok mixed ?_
            simp -implicitDefEqProofs -dsimp [hout, hol, hib, hog, hrow, hrl, hab]
            refine hQ4 _ _ _ ?_
            simp -implicitDefEqProofs -dsimp [wrapS k (by omega)]
            refine hN3 (k + 1) _ _ ⟨by omega, fun k' hk' => ?_⟩ (by omega) (by simp) ⟨[], by simp⟩ (by simp [hkl]) hrb
            rcases Nat.lt_or_ge k' k with h1 | h1
            · exact hx3 k' h1
            · have : k' = k := by omega
              subst this
              intro _
              rw [hne]
              exact hx4
      · obtain rfl : k = i := by omega
        refine W_x tok mixed ?_
        simp -implicitDefEqProofs -dsimp [hkb]
        refine hQ3 _ _ _ ?_
        simp -implicitDefEqProofs -dsimp [wrapS k (by omega)]
        refine hN2 (k + 1) _ _ ⟨by omega, fun i' k' hi' hk' => ?_⟩ (by omega) (by simp) ⟨[], by simp⟩ (by simp [hkl]) hrb
        rcases Nat.lt_or_ge i' k with h1 | h1
        · exact hx2 i' k' h1 hk'
        · have : i' = k := by omega
          subst this; exact hx3 k' hk'
    · obtain rfl : i = m := by omega
      refine W_x tok mixed ?_
      simp -implicitDefEqProofs -dsimp [hout, hol, hib]
      refine hQ2 _ _ _ ?_
      simp -implicitDefEqProofs -dsimp [wrapS j (by omega)]
      refine hN (j + 1) _ _ ⟨by omega, fun d' hd' => ?_⟩ (by omega) (by simp) ⟨[], by simp⟩ (by simp [hkl]) hrb
      rw [List.take_succ_eq_append_getElem hjb] at hd'
      rcases List.mem_append.1 hd' with h1 | h1
      · exact hx d' h1
      · simp only [List.mem_singleton] at h1
        rw [h1, ← hd]; exact hx2
  · obtain rfl : j = fds.length := by omega
    rw [List.take_length] at hx
    refine W_x tok mixed ?_
    simp -implicitDefEqProofs -dsimp [hjb]
    refine hQ _ _ _ ?_
    simp -implicitDefEqProofs -dsimp []
    exact .inl ⟨rfl, hclo (by rw [hme]; exact hx), [], by rw [hme, hne, List.append_nil]⟩
open Classical in
noncomputable def cntTo (t : Tb) (l : List Cr) : Nat → Nat
  | 0 => 0
  | x + 1 => if crAt t x ∈ l then cntTo t l x + 1 else cntTo t l x
theorem cntTo_le (t : Tb) (l : List Cr) : ∀ x, cntTo t l x ≤ x
  | 0 => Nat.le_refl _
  | x + 1 => by
    have := cntTo_le t l x
    rw [cntTo]; split <;> omega
theorem cntTo_mono (t : Tb) (l : List Cr) {x y : Nat} (h : x ≤ y) : cntTo t l x ≤ cntTo t l y := by
  induction y with
  | zero => have : x = 0 := by omega
            subst this; exact Nat.le_refl _
  | succ y ih =>
    rcases Nat.lt_or_ge x (y + 1) with h1 | h1
    · have := ih (by omega)
      rw [cntTo]; split <;> omega
    · have : x = y + 1 := by omega
      subst this; exact Nat.le_refl _
open Classical in
noncomputable def e0 (t : Tb) (l : List Cr) (x : Nat) : En := if crAt t x ∈ l then ⟨zV, (cntTo t l x + 1 : Nat)⟩ else ⟨vlAt t x, 0⟩
theorem e0_in {t : Tb} {l : List Cr} {x : Nat} (h : crAt t x ∈ l) : e0 t l x = ⟨zV, ((cntTo t l x + 1 : Nat) : Int)⟩ ∧ cntTo t l (x + 1) = cntTo t l x + 1 := by
  unfold e0; rw [if_pos h, cntTo, if_pos h]; exact ⟨rfl, rfl⟩
theorem e0_out {t : Tb} {l : List Cr} {x : Nat} (h : crAt t x ∉ l) : e0 t l x = ⟨vlAt t x, 0⟩ ∧ cntTo t l (x + 1) = cntTo t l x := by
  unfold e0; rw [if_neg h, cntTo, if_neg h]; exact ⟨rfl, rfl⟩
theorem e0_ok (t : Tb) (l : List Cr) (N : Nat) : EnOk (e0 t l) N N := by
  refine ⟨fun x hx => ?_, fun x hx => ?_, fun x hx => ?_⟩ <;> by_cases h : crAt t x ∈ l
  · rw [(e0_in h).1]; simp only; omega
  · rw [(e0_out h).1]; simp
  · rw [(e0_in h).1]; simp only; have := cntTo_le t l x; omega
  · rw [(e0_out h).1]; simp
  · rw [(e0_in h).1]; intro _; rfl
  · rw [(e0_out h).1]; intro h2; exact absurd rfl h2
theorem e0_ent (t : Tb) (fds : List Fd) (l : List Cr) : Ent (probT t fds l) (fun x => toD (e0 t l x)) := by
  refine ent_init (fun x v hx hk => ?_) (fun x hx hk => ?_) (fun x y s hx hy h1 h2 => ?_)
  · by_cases h : crAt t x ∈ l
    · rw [probK_in h] at hk; cases hk
    · rw [probK_out h] at hk
      show toD (e0 t l x) = _
      rw [(e0_out h).1]; simp [toD, Option.some.inj hk]
  · by_cases h : crAt t x ∈ l
    · exact ⟨cntTo t l x + 1, by show toD (e0 t l x) = _; rw [(e0_in h).1]; simp [toD]; omega⟩
    · rw [probK_out h] at hk; cases hk
  · have key : ∀ z, toD (e0 t l z) = .inr s → s = cntTo t l z + 1 ∧ crAt t z ∈ l := fun z hz => by
      by_cases h : crAt t z ∈ l
      · rw [(e0_in h).1] at hz
        unfold toD at hz
        rw [if_neg (by simp only; omega)] at hz
        exact ⟨by have := Sum.inr.inj hz; simp at this; omega, h⟩
      · rw [(e0_out h).1] at hz
        simp [toD] at hz
    obtain ⟨a1, a2⟩ := key x h1
    obtain ⟨b1, b2⟩ := key y h2
    rcases Nat.lt_trichotomy x y with h | h | h
    · have := cntTo_mono t l (show x + 1 ≤ y by omega)
      have := (e0_in a2).2
      omega
    · exact h
    · have := cntTo_mono t l (show y + 1 ≤ x by omega)
      have := (e0_in b2).2
      omega
theorem get_of {xs : List B} {k : Nat} {x : B} (h : xs[k]? = some x) : ∀ hk : k < xs.length, xs[k] = x := fun hk => by
  rw [List.getElem?_eq_getElem hk] at h; exact Option.some.inj h
def rowB (e : Nat → En) (n i : Nat) : B := .buf 117 4 (rowE e n i) false
def outB (i n : Nat) : B := .buf 115 1 (outE 2 i n) false
def parE (e : Nat → En) (n i a : Nat) : List V := (List.range a).map fun c => encEn (e (i * n + c))
theorem parE_succ (e : Nat → En) (n i a : Nat) : parE e n i (a + 1) = parE e n i a ++ [encEn (e (i * n + a))] := by simp [parE, List.range_succ]
theorem parE_len (e : Nat → En) (n i a : Nat) : (parE e n i a).length = a := by simp [parE]
theorem outE_succ (b i n : Nat) : outE b (i + 1) n = outE b i n ++ [.buf (b + i) 0 n n] := by simp [outE, List.range_succ]
def HR (tb : B) (e : Nat → En) (n i : Nat) : List B := [tb, outB i n] ++ (List.range i).map (rowB e n)
theorem hr_len (tb : B) (e : Nat → En) (n i : Nat) : (HR tb e n i).length = 2 + i := by simp [HR]; omega
theorem hr_0 (tb : B) (e : Nat → En) (n i : Nat) (G : List B) : (HR tb e n i ++ G)[0]? = some tb := by simp [HR]
theorem hr_1 (tb : B) (e : Nat → En) (n i : Nat) (G : List B) : (HR tb e n i ++ G)[1]? = some (.buf 115 1 (outE 2 i n) false) := by simp [HR, outB]
theorem hr_00 (tb : B) (e : Nat → En) (n i : Nat) : (HR tb e n i)[0]? = some tb := by simp [HR]
theorem hr_11 (tb : B) (e : Nat → En) (n i : Nat) : (HR tb e n i)[1]? = some (.buf 115 1 (outE 2 i n) false) := by simp [HR, outB]
theorem hr_x (tb : B) (e : Nat → En) (n i : Nat) (X : B) : (HR tb e n i ++ [X])[2 + i]? = some X := by
  rw [List.getElem?_append_right (by rw [hr_len]; omega), hr_len]; simp
theorem hr_sx (tb : B) (e : Nat → En) (n i : Nat) (X Y : B) : (HR tb e n i ++ [X]).set (2 + i) Y = HR tb e n i ++ [Y] := by
  rw [List.set_append_right _ _ (by rw [hr_len]; omega), hr_len]; simp
theorem hr_next (tb : B) (e : Nat → En) (n i : Nat) : (HR tb e n i ++ [B.buf 117 4 (parE e n i n) false]).set 1 (B.buf 115 1 (outE 2 i n ++ [V.buf (2 + i) 0 n n]) false) = HR tb e n (i + 1) := by
  rw [← outE_succ]
  simp [HR, List.range_succ, outB, rowB, rowE, parE]
theorem parE_pure (e : Nat → En) (n i a : Nat) : ∀ x ∈ parE e n i a, AM.Pure x ∧ oneV x = true := by
  intro x hx
  obtain ⟨c, _, rfl⟩ := List.mem_map.1 hx
  exact ⟨encEn_pure _, rfl⟩
theorem hr_rb {tb : B} (hb : ∀ k, rbB k tb) (e : Nat → En) (n i : Nat) : ∀ bl ∈ HR tb e n i, rbB (HR tb e n i).length bl := by
  intro bl hbl
  rw [hr_len]
  unfold HR at hbl
  simp only [List.cons_append, List.nil_append, List.mem_cons, List.mem_map, List.mem_range] at hbl
  rcases hbl with rfl | rfl | ⟨j, hj, rfl⟩
  · exact hb _
  · intro x hx c hc
    obtain ⟨j, hj, rfl⟩ := List.mem_map.1 hx
    have hj := List.mem_range.1 hj
    simp [V.cells] at hc
    subst hc
    show 2 + j < 2 + i
    omega
  · unfold rowB; rw [rbB_buf1 (rowE_pure e n _)]; trivial
theorem hr_ok {tb : B} (hb : ∀ k, rbB k tb) (e : Nat → En) (n m : Nat) : EOk (HR tb e n m) 1 2 m n := ⟨hr_11 tb e n m, by rw [hr_len]; omega, by omega, hr_rb hb e n m⟩
theorem hr_he {tb : B} (e : Nat → En) (n m : Nat) : He (HR tb e n m) 2 m n e = HR tb e n m := by
  apply List.ext_getElem?
  intro k
  unfold He
  rw [List.getElem?_map, hr_len]
  by_cases hk : k < 2 + m
  · rw [List.getElem?_range hk, Option.map_some]
    by_cases h2 : 2 ≤ k
    · rw [if_pos ⟨h2, hk⟩]
      unfold HR
      rw [List.getElem?_append_right (by simpa using h2)]
      simp only [List.length_cons, List.length_nil]
      rw [List.getElem?_map, List.getElem?_range (by omega)]
      rfl
    · rw [if_neg (fun h => h2 h.1), List.getElem?_eq_getElem (by rw [hr_len]; exact hk)]
      rfl
  · rw [List.getElem?_eq_none (by simp; omega), List.getElem?_eq_none (by rw [hr_len]; omega)]; rfl
def FilR (q : Prob) (tb : B) (e0 : Nat → En) (r : V) (H' : List B) : Prop :=
  (r = .tup [.nilS, .bool false] ∧ ¬ Okq q) ∨
  (r = .tup [.buf 1 0 q.m q.m, .bool true] ∧ ∃ e G, H' = He (HR tb e0 q.n q.m) 2 q.m q.n e ++ G ∧ Ent q (fun x => toD (e x)) ∧ EnOk e (q.m * q.n) (q.m * q.n) ∧ ClosedE q (fun x => toD (e x)))
theorem cap40 (n : Nat) (h : n ≤ 1000000000) : n ≤ 9223372036854775806 ∧ (n + 1) * 40 ≤ 140737488355328 := by omega
set_option maxHeartbeats 64000000 in
theorem filled_r (t : Tb) (ff gg df cf : Bool) (fds : List Fd) (l : List Cr) (hv : TbV t) (hF : FdsOk fds) (hl : l.length ≤ 1000000) :
    ConH Tryz.prog 45 [encTb ff gg t, LF df fds, LC cf l] [] (FilR (probT t fds l) (.cells [.str t.name, .lst 1 ff (t.attrs.map V.str), .lst 2 gg (t.rows.map encRw)]) (e0 t l)) := by
  obtain ⟨tb, htb⟩ : ∃ tb, tb = B.cells [.str t.name, .lst 1 ff (t.attrs.map V.str), .lst 2 gg (t.rows.map encRw)] := ⟨_, rfl⟩
  have hbt : ∀ k, rbB k tb := fun k => by rw [htb]; simp
  rw [← htb]
  have hm := hv.rows
  have hn := hv.attrs
  have hE0 := e0_ent t fds l
  have hO0 := e0_ok t l (t.rows.length * t.attrs.length)
  obtain ⟨n, hne⟩ : ∃ n, n = t.attrs.length := ⟨_, rfl⟩
  obtain ⟨m, hme⟩ : ∃ m, m = t.rows.length := ⟨_, rfl⟩
  have hne' := hne.symm
  have hme' := hme.symm
  rw [hne'] at hn
  rw [hme'] at hm
  have hqm : (probT t fds l).m = m := hme'
  have hqn : (probT t fds l).n = n := hne'
  have hqf : (probT t fds l).fds = fds := rfl
  have hO : EnOk (e0 t l) ((probT t fds l).m * (probT t fds l).n) ((probT t fds l).m * (probT t fds l).n) := hO0
  obtain ⟨q, hq⟩ : ∃ q, q = probT t fds l := ⟨_, rfl⟩
  rw [← hq] at hqm hqn hqf hE0 hO ⊢
  have hb00 := fun e n i => hr_00 tb e n i
  have hb0 := fun e n i G => hr_0 tb e n i G
  rw [htb] at hb00 hb0
  rw [← htb] at hb00 hb0
  have t0 := hr_00 tb (e0 t l) n
  have t0' := hr_0 tb (e0 t l) n
  rw [show some tb = some (B.cells [.str t.name, .lst 1 ff (t.attrs.map V.str), .lst 2 gg (t.rows.map encRw)]) by rw [htb]] at t0 t0'
  have t1 := hr_11 tb (e0 t l) n
  have t1' := hr_1 tb (e0 t l) n
  have tl := hr_len tb (e0 t l) n
  have t1l := fun i => outE_len 2 i n
  refine conH_of_W tok Tryz.func45 rfl rfl ?_
  refine W_x tok mixed ?_
  simp -implicitDefEqProofs -dsimp [Tryz.f45, List.replicate, encTb, LS, LR, LC, LF]
  refine lw_of (W_own 115 1 [8] (by simp) (W_loopV [false, false, false, false, false, false, false, false, true, true, true, true, true, true, true, true, true, true, true, true, true, true, true, true, true, true, true, true, true, true, true, true, true, true, true, true, true, true, true, true, true, true, true, true, true, true, true, true, true, true, true, true, true, true, true, true, true, true, true, true, true] (σ := Nat × Nat) (fun p => p.1 ≤ m ∧ p.2 = p.1 * n) (fun p => m - p.1) (fun p => [(10, .int .i64 p.1), (8, .buf 1 0 p.1 p.1), (9, .int .i64 (cntTo t l p.2))]) (fun p => HR tb (e0 t l) n p.1) (0, 0) ⟨by simp, by simp⟩ (by simp [cntTo]) (by simp [HR, outB, outE, htb]) (by simp [tl]) ?_))
  rintro ⟨i, c⟩ ⟨hi, hc⟩ N Q hN hQ
  simp only at hi hc hN
  by_cases hib : i < m
  · have hit : i < t.rows.length := by omega
    obtain ⟨rw, hrw⟩ : ∃ rw, rw = t.rows[i] := ⟨_, rfl⟩
    have hrw' := hrw.symm
    have hvl : rw.vals.length = n := by rw [hrw, hne]; exact hv.len _ (List.getElem_mem hit)
    refine W_x tok mixed ?_
    simp -implicitDefEqProofs -dsimp [t0, hme', hib]
    refine lw_of (W_own 117 4 [11] (by simp) (W_loopV [false, false, false, false, false, false, false, false, false, true, false, true, true, false, false, false, false, false, false, false, true, true, true, true, true, true, true, true, true, true, true, true, true, true, true, true, true, true, true, true, true, true, true, true, true, true, true, true, true, true, true, true, true, true, true, true, true] (σ := Nat × Nat) (fun p => p.1 ≤ n ∧ p.2 = i * n + p.1) (fun p => n - p.1) (fun p => [(12, .int .i64 p.1), (11, .buf (2 + i) 0 p.1 p.1), (9, .int .i64 (cntTo t l p.2))]) (fun p => HR tb (e0 t l) n i ++ [B.buf 117 4 (parE (e0 t l) n i p.1) false]) (0, c) ⟨by simp, by simp [hc]⟩ (by simp [tl]) (by simp [parE]) (by simp [tl]) ?_))
    rintro ⟨a, c2⟩ ⟨ha, hc2⟩ N2 Q2 hN2 hQ2
    simp only at ha hc2 hN2
    have hrb2 : ∀ a', ∀ bl ∈ HR tb (e0 t l) n i ++ [B.buf 117 4 (parE (e0 t l) n i a') false], rbB (HR tb (e0 t l) n i ++ [B.buf 117 4 (parE (e0 t l) n i a') false]).length bl := fun a' bl hbl => by
      rcases List.mem_append.1 hbl with h | h
      · exact rbB_mono (by simp) (hr_rb hbt (e0 t l) n i bl h)
      · simp only [List.mem_singleton] at h
        subst h
        rw [rbB_buf1 (parE_pure _ _ _ _)]; trivial
    have w0 := get_of (t0' i [B.buf 117 4 (parE (e0 t l) n i a) false])
    have w1 := get_of (t1' i [B.buf 117 4 (parE (e0 t l) n i a) false])
    have wx := get_of (hr_x tb (e0 t l) n i (B.buf 117 4 (parE (e0 t l) n i a) false))
    by_cases hab : a < n
    · have hlt := cell_lt hib hab
      have hbig : m * n ≤ 1000 * 16 := Nat.mul_le_mul hm hn
      have hat : crAt t c2 = ⟨rw.id, (a : Int)⟩ := by
        rw [hc2, hne, crAt_at t (hne ▸ hab), rwAt_in hit, ← hrw]
      have hva : a < rw.vals.length := by omega
      have hvt : vlAt t c2 = rw.vals[a] := by
        rw [hc2, hne, vlAt_at t (hne ▸ hab), rwAt_in hit, ← hrw, vAt_in hva]
      have hch := has_r l ⟨rw.id, (a : Int)⟩ cf hl
      simp only [LC, encCr] at hch
      have hx := hr_x tb (e0 t l) n i (B.buf 117 4 (parE (e0 t l) n i a) false)
      have hsx := fun Y => hr_sx tb (e0 t l) n i (B.buf 117 4 (parE (e0 t l) n i a) false) Y
      have hpl := parE_len (e0 t l) n i a
      have hps := parE_succ (e0 t l) n i a
      rw [← hc2] at hps
      have hcn := cntTo_le t l c2
      cases hqh : hasC l ⟨rw.id, (a : Int)⟩ with
      | true =>
        rw [hqh] at hch
        obtain ⟨k1, k2⟩ := e0_in (t := t) (l := l) (x := c2) (by rw [hat]; exact hasC_iff.1 hqh)
        rw [k1] at hps
        obtain ⟨cn, hcn'⟩ : ∃ cn, cn = cntTo t l c2 := ⟨_, rfl⟩
        rw [← hcn'] at hps k2 hcn
        have hcn2 := hcn'.symm
        refine W_x tok mixed ?_
        simp -implicitDefEqProofs -dsimp [w0, tl, hne', hab, hit, hrw', encRw, hcn2]
        refine (callP (hch) (by simp)).mono ?_
        rintro r H' ⟨rfl, rfl⟩
        simp -implicitDefEqProofs -dsimp [hcn2, wrapS cn (by omega), wx, tl, hx, hsx, hpl, cap40 a (by omega), wrapS a (by omega)]
        refine hN2 (a + 1, c2 + 1) _ _ ⟨by simp only; omega, by simp only; omega⟩ (by simp only; omega) (by simp [k2]) ⟨[], by simp [hps, encEn, zV]⟩ (by simp [tl, LC]; omega) (hrb2 _)
      | false =>
        rw [hqh] at hch
        obtain ⟨k1, k2⟩ := e0_out (t := t) (l := l) (x := c2) (by rw [hat]; exact fun h => by rw [hasC_iff.2 h] at hqh; cases hqh)
        rw [k1, hvt] at hps
        refine W_x tok mixed ?_
        simp -implicitDefEqProofs -dsimp [w0, tl, hne', hab, hit, hrw', encRw]
        refine (callP (hch) (by simp)).mono ?_
        rintro r H' ⟨rfl, rfl⟩
        simp -implicitDefEqProofs -dsimp [w0, tl, wx, hit, hrw', encRw, LV, hva, encV, hx, hsx, hpl, cap40 a (by omega), wrapS a (by omega)]
        refine hN2 (a + 1, c2 + 1) _ _ ⟨by simp only; omega, by simp only; omega⟩ (by simp only; omega) (by simp [k2]) ⟨[], by simp [hps, encEn]⟩ (by simp [tl, LC]; omega) (hrb2 _)
    · obtain rfl : a = n := by omega
      have hnx := hr_next tb (e0 t l) a i
      refine W_x tok mixed ?_
      simp -implicitDefEqProofs -dsimp [w0, tl, hne', hab]
      refine hQ2 _ _ _ ?_
      simp -implicitDefEqProofs -dsimp [w1, t1', tl, t1l, cap24 i (by omega), hnx, wrapS i (by omega)]
      refine hN (i + 1, c2) _ _ ⟨by simp only; omega, by simp only; rw [hc2, Nat.add_mul]; omega⟩ (by simp only; omega) (by simp) ⟨[], by simp⟩ (by simp [tl, LC]; omega) (hr_rb hbt _ _ _)
  · have him : i = m := by omega
    subst him
    have gH := hr_ok hbt (e0 t l) n i
    have hFq : FdsOk q.fds := hqf ▸ hF
    refine W_x tok mixed ?_
    simp -implicitDefEqProofs -dsimp [t0, hme', hib]
    refine hQ _ _ _ ?_
    simp -implicitDefEqProofs -dsimp []
    refine lw_of (W_loopV [false, false, false, false, false, false, true, true, false, false, false, false, false, false, false, false, false, false, false, false, false, false, false, false, false, false, false, false, false, false, false, false, false, false, false, false, false, false, false, false, false, false, false, false, false, false, false, false, false, false, false, false, false, false, false, false, false, false, false, false, false, true, true, true, true, true, true, true, true] (σ := Nat → En) (fun e => Ent q (fun x => toD (e x)) ∧ EnOk e (q.m * q.n) (q.m * q.n)) (fun e => cntS (q.m * q.n) (q.m * q.n + 1) (fun x => toD (e x))) (fun _ => []) (fun e => He (HR tb (e0 t l) n i) 2 i n e) (e0 t l) ⟨hE0, hO⟩ (by simp) (by rw [hr_he]) (by simp [he_len]) ?_)
    rintro e ⟨hE, hOe⟩ N2 Q2 hN2 hQ2
    have cs := step_r hqm hqn gH e hE hOe hn hm df hFq
    rw [hqf] at cs
    simp only [LF] at cs
    refine W_x tok mixed ?_
    simp -implicitDefEqProofs -dsimp []
    refine WCall.mono (K := StepR q (HR tb (e0 t l) n i) 2 (q.m * q.n) e) cs ?_
    rintro r' H' (⟨rfl, hcl, G, rfl⟩ | ⟨rfl, hno⟩ | ⟨rfl, e', G, rfl, h1, h2, h3⟩)
    · simp -implicitDefEqProofs -dsimp []
      refine hQ2 _ _ _ ?_
      simp -implicitDefEqProofs -dsimp []
      refine .inr ⟨by rw [hqm], e, G, by rw [hqm, hqn], hE, hOe, hcl⟩
    · simp -implicitDefEqProofs -dsimp []
      refine hQ2 _ _ _ ?_
      simp -implicitDefEqProofs -dsimp []
      exact .inl ⟨rfl, hno⟩
    · simp -implicitDefEqProofs -dsimp []
      refine hN2 e' _ _ ⟨h1, h2⟩ h3 (by simp) ⟨G, by rw [hqm, hqn]⟩ (by simp [he_len, tl, LC]; omega) (he_rb gH e')
theorem filled_p (t : Tb) (ff gg df cf : Bool) (fds : List Fd) (l : List Cr) (hv : TbV t) (hF : FdsOk fds) (hl : l.length ≤ 1000000) :
    ConP Tryz.prog 45 [encTb ff gg t, LF df fds, LC cf l] fun r => ∃ v, r = .tup [v, .bool (okB (probT t fds l))] := by
  refine conP_of_conX ((filled_r t ff gg df cf fds l hv hF hl).mono fun r H' h => ?_)
  obtain ⟨q, hq⟩ : ∃ q, q = probT t fds l := ⟨_, rfl⟩
  rw [← hq] at h ⊢
  obtain ⟨tb, htb⟩ : ∃ tb, tb = B.cells [.str t.name, .lst 1 ff (t.attrs.map V.str), .lst 2 gg (t.rows.map encRw)] := ⟨_, rfl⟩
  rw [← htb] at h
  have hbt : ∀ k, rbB k tb := fun k => by rw [htb]; simp
  rcases h with ⟨rfl, hno⟩ | ⟨rfl, e, G, rfl, h1, h2, h3⟩
  · rw [okB_false hno]
    exact ⟨.tup [.nilS, .bool false], .pure _ (by simp), by simp, .nilS, rfl⟩
  · rw [okB_true ⟨_, h1.sol h3⟩]
    have gH := hr_ok hbt (e0 t l) q.n q.m
    have hlen := he_len (HR tb (e0 t l) q.n q.m) 2 q.m q.n e
    refine ⟨.tup [.lst 1 false ((List.range q.m).map fun j => .lst 4 false (rowE e q.n j)), .bool true], ?_, ?_, _, rfl⟩
    · refine .tup _ _ rfl (fun i c d hc hd => ?_)
      match i with
      | 0 =>
        simp at hc hd
        subst hc
        subst hd
        have hk : (He (HR tb (e0 t l) q.n q.m) 2 q.m q.n e ++ G)[1]? = some (.buf 115 1 (outE 2 q.m q.n) false) := by
          rw [List.getElem?_append_left (by rw [hlen, hr_len]; omega)]
          exact he_out gH e
        have hx := ExpX.bufx (H := He (HR tb (e0 t l) q.n q.m) 2 q.m q.n e ++ G) 1 _ _ (outE 2 q.m q.n) ((List.range q.m).map fun j => V.lst 4 false (rowE e q.n j)) false hk (by simp [outE_len]) (fun j c d hc hd => by
          by_cases hj : j < q.m
          · simp [outE, hj] at hc hd
            subst hc
            subst hd
            have hr : (He (HR tb (e0 t l) q.n q.m) 2 q.m q.n e ++ G)[2 + j]? = some (.buf 117 4 (rowE e q.n j) false) := by
              rw [List.getElem?_append_left (by rw [hlen, hr_len]; omega)]
              exact he_row gH e hj
            have := ExpX.buf (2 + j) _ _ (rowE e q.n j) false hr (fun x hx => (rowE_pure e q.n j x hx).1)
            rw [rowE_len] at this
            exact this
          · rw [List.getElem?_eq_none (by rw [outE_len]; omega)] at hc; cases hc)
        rw [outE_len] at hx
        exact hx
      | 1 =>
        simp at hc hd
        subst hc
        subst hd
        exact .pure _ (by simp)
      | k + 2 => simp at hc
    · simp
      intro j hj x hx
      exact (rowE_pure e q.n j x hx).1
set_option maxHeartbeats 16000000 in
theorem enough_r (t : Tb) (ff gg df cf : Bool) (fds : List Fd) (l : List Cr) (hv : TbV t) (hF : FdsOk fds) (hl : l.length ≤ 1000000) :
    ConP Tryz.prog 17 [encTb ff gg t, LF df fds, LC cf l] fun r => r = .bool (okB (probT t fds l)) := by
  have c1 := filled_p t ff gg df cf fds l hv hF hl
  simp only [encTb, LS, LR, LC, LF] at c1
  refine conP_of_conH (conH_of_W tok Tryz.func17 rfl rfl ?_)
  refine W_x tok mixed ?_
  simp -implicitDefEqProofs -dsimp [Tryz.f17, List.replicate, encTb, LS, LR, LC, LF]
  refine (callK c1 (by simp)).mono ?_
  rintro r H' ⟨rfl, _, v, rfl⟩
  simp -implicitDefEqProofs -dsimp []
end Go.Proofs.YteijbpppalhihaaGreat
