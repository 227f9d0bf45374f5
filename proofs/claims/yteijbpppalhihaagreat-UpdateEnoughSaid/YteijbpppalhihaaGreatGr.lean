/- Gr: slices.Grow of nil, the shelf's worked proof turned to instances of this seat. Printed by genGr.py. -/
import Derived.Test.YteijbpppalhihaaGreatK0
import Derived.WalkKit
import Derived.Lib.Walk
import Derived.Lib.SliceRun
import Derived.Lib.AppendZerosOnto
import Derived.OwnWalk
set_option linter.unusedSimpArgs false
set_option linter.unusedVariables false
set_option maxRecDepth 100000
namespace Go.Proofs.YteijbpppalhihaaGreat
open Go Go.AM Go.RowKit Go.Lib
theorem conO_row {f : FuncId} {args : List V} {e z : Nat} (hE : AM.Enters Tryz.prog f) (h : ∀ (F : Nat → Prop) (w : World) (vals : Array Value), vals.size = args.length → (∀ (i : Nat) a u, args[i]? = some a → vals[i]? = some u → Rel (AM.base F w) a u) →
    Calls Tryz.prog f vals w fun e' w' => ∃ v, e' = .returned v ∧ Below w.heap.size w w' ∧ (v = .slice none 0 0 ∨ ∃ g c cur, v = .slice (some ⟨g, 0, none⟩) 0 c ∧ w.heap.size ≤ g ∧ w'.heap[g]? = some (.cells cur e (0, 0)) ∧ c ≠ 0 ∧ c ≤ maxLen ∧ cur.size = c * z)) : ConO Tryz.prog f args fun e' z' ys => e' = e ∧ z' = z ∧ ys = [] := by
  refine ⟨hE, fun F w vals hZ hF hsz hrel => (h F w vals hsz hrel).mono fun e' w' ⟨v, he, hb, hv⟩ => ?_⟩
  rcases hv with hv | ⟨g, c, cur, hv, hg, hc, hn, hm, hs⟩
  · have hF' : ∀ b, F b → b < w'.heap.size := fun b hb' => Nat.lt_of_lt_of_le (hF b hb') hb.size
    obtain ⟨p1, _⟩ := push0 (AM.base_good hF') (w := w') 0 e z false rfl rfl rfl (Nat.le_refl _) (fun _ _ => rfl)
    refine ⟨v, e, z, [], none, 0, 0, he, hv, fun h => absurd rfl h, by simp, fun h => absurd rfl h, ?_, hb, rfl, rfl, rfl⟩
    refine ⟨hF', fun k hk => absurd (hk.2 e z [] false (by have := hk.1; simp at this; subst this; rfl)) (by simp), fun j k hj hk _ => by have := hj.1; have := hk.1; simp at *; omega, fun k bl hk => ?_⟩
    have hk0 : k = 0 := by have := getElem?_lt hk; simp at this; omega
    subst hk0
    simp at hk
    subst hk
    exact ⟨#[], fun h => absurd rfl h, by simp, by simp, by simp [maxLen], (fun x hx => by cases hx), (fun i x j c u hx => by simp at hx)⟩
  · have hF' : ∀ b, F b → b < w'.heap.size := fun b hb' => Nat.lt_of_lt_of_le (hF b hb') hb.size
    refine ⟨v, e, z, [], some ⟨g, 0, none⟩, g, c, he, hv, fun _ => rfl, by simp, fun _ => hg, ?_, hb, rfl, rfl, rfl⟩
    refine ⟨hF', fun k hk => ⟨(Array.getElem?_eq_some_iff.1 hc).1, fun hf => by have := hF g hf; omega⟩, fun j k hj hk _ => by have := hj.1; have := hk.1; simp at *; omega, fun k bl hk => ?_⟩
    have hk0 : k = 0 := by have := getElem?_lt hk; simp at this; omega
    subst hk0
    simp at hk
    subst hk
    exact ⟨cur, fun _ => hc, by simpa using hs, by simp, hm, (fun x hx => by cases hx), (fun i x j c u hx => by simp at hx)⟩
theorem infoG_C : (Tryz.prog.info? 49).map (fun i => (i.zero, i.size, i.bytes)) = some (some (.agg #[.int .i64 0, .int .i64 0]), 2, 16) := by kernel_rfl
set_option maxHeartbeats 4000000 in
theorem growPos_C (n : Nat) (w : World) (h0 : 0 < n) (hn : n ≤ 1000000) : Calls Tryz.prog 137 #[.slice none 0 0, .int .i64 n] w fun e w' =>
      e = .returned (.slice (some ⟨w.heap.size, 0, none⟩) 0 (grownCap w n 0 49)) ∧ w' = w.drew.alloc (.cells (Builtin.zeroCells (.agg #[.int .i64 0, .int .i64 0] : Value).cells n ++ Builtin.zeroCells (.agg #[.int .i64 0, .int .i64 0] : Value).cells (grownCap w n 0 49 - n)) 49) := by
  obtain ⟨i0, hi0, hz0, hs0, hby⟩ := info_parts infoG_C
  have h1 : ¬ ((n : Int) < 0) := by omega
  have hz25 : ∀ w, (Go.sizeOf 49).run Tryz.prog w = .ok 2 w := fun w => by simp [Go.sizeOf, typeInfo, hi0, hs0]
  have hold : (Builtin.firstCells i0.size 0 (.slice none 0 0)).run Tryz.prog w.drew = .ok ([] : List Value).toArray w.drew := run_firstCells_none w.drew i0.size 0 0 0
  have hbig : (0 + n) * i0.bytes ≤ 140737488355328 := by rw [hby]; omega
  have hrz : ∀ ty, (Builtin.append_ #[37, 3] ty #[.slice none 0 0, .int .i64 (n : Int)]).run Tryz.prog w =
      .ok (.slice (some ⟨w.heap.size, 0, none⟩) n (grownCap w n 0 49)) (w.drew.alloc (.cells (Builtin.zeroCells (.agg #[.int .i64 0, .int .i64 0] : Value).cells n ++ Builtin.zeroCells (.agg #[.int .i64 0, .int .i64 0] : Value).cells (grownCap w n 0 49 - n)) 49)) := fun ty => by
    have h := Lib.run_append_grow_zeros (P := Tryz.prog) w 37 3 ty 49 i0 _ .i64 .i64 Tryz.underlying37 Tryz.underlying3 hi0 hz0 none 0 0 [] hold n h0 (by omega) (by omega) (by omega)
      (by rw [hby]; omega)
      (growslice_fits (by omega) hbig)
    simpa using h
  have hGn : n ≤ grownCap w n 0 49 := grownCap_ge w _ _ _
  obtain ⟨G, hG⟩ : ∃ G, G = grownCap w n 0 49 := ⟨_, rfl⟩
  rw [← hG] at hrz hGn ⊢
  have hG63 : G ≤ 9223372036854775807 := by
    have := grownCap_le_maxLen w n 0 49 (by unfold maxLen; omega)
    rw [← hG] at this
    unfold maxLen at this
    omega
  have h2 : RowKit.wrap64 ((0 : Int) - 0) = 0 := by unfold RowKit.wrap64; omega
  have h3 : RowKit.wrap64 ((n : Int) - 0) = (n : Int) := by unfold RowKit.wrap64; omega
  have h4 : (n : Int) > 0 := by omega
  clear hold hG hbig
  go_enter Tryz.func137, Tryz.ntmps137
  go_wp2_with (at_builtin; refine Lib.wpList_append_run _ rfl _ _ _ _ rfl _ _ rfl rfl _ _ (hrz _) ?_)
  all_goals (go_ret; exact ⟨rfl, rfl⟩)
set_option maxHeartbeats 4000000 in
theorem growNil_C (w : World) : Calls Tryz.prog 137 #[.slice none 0 0, .int .i64 0] w fun e w' => e = .returned (.slice none 0 0) ∧ w' = w := by
  go_enter Tryz.func137, Tryz.ntmps137
  go_wp2
  go_ret
  exact ⟨rfl, rfl⟩
theorem grow_con_C (n : Nat) (hn : n ≤ 1000000) : ConO Tryz.prog 137 [.nilS, .int .i64 n] fun e z ys => e = 49 ∧ z = 2 ∧ ys = [] := by
  refine conO_row ⟨Tryz.f137, Tryz.func137, rfl, rfl⟩ (fun F w vals hsz hrel => ?_)
  obtain ⟨u0, u1, rfl⟩ : ∃ u0 u1, vals = #[u0, u1] := by
    obtain ⟨l⟩ := vals
    match l, hsz with
    | [a, b], _ => exact ⟨a, b, rfl⟩
  have r0 := hrel 0 _ u0 rfl rfl
  have r1 := hrel 1 _ u1 rfl rfl
  cases r0
  cases r1
  by_cases h0 : n = 0
  · subst h0
    exact (growNil_C w).mono fun e w' ⟨h1, h2⟩ => ⟨_, h1, by subst h2; exact Below.refl _ _, .inl rfl⟩
  · refine (growPos_C n w (by omega) hn).mono fun e w' ⟨h1, h2⟩ => ?_
    subst h2
    have hge := grownCap_ge w n 0 49
    refine ⟨_, h1, ((Below.refl _ _).drew).alloc (Nat.le_refl _) _, .inr ⟨w.heap.size, grownCap w n 0 49, Builtin.zeroCells (.agg #[.int .i64 0, .int .i64 0] : Value).cells n ++ Builtin.zeroCells (.agg #[.int .i64 0, .int .i64 0] : Value).cells (grownCap w n 0 49 - n), rfl, Nat.le_refl _, ?_, by omega, grownCap_le_maxLen w n 0 49 (by unfold maxLen; omega), ?_⟩⟩
    · exact Array.getElem?_push_size (xs := w.heap)
    · rw [Array.size_append, size_zeroCells, size_zeroCells, ← Nat.add_mul, Nat.add_sub_cancel' hge]
      rfl
theorem grow_nil_C : ConP Tryz.prog 137 [.nilS, .int .i64 0] fun r => r = .nilS := by
  refine ⟨⟨Tryz.f137, Tryz.func137, rfl, rfl⟩, fun F w vals hZ hF hsz hrel => ?_⟩
  obtain ⟨u0, u1, rfl⟩ : ∃ u0 u1, vals = #[u0, u1] := by
    obtain ⟨l⟩ := vals
    match l, hsz with
    | [a, b], _ => exact ⟨a, b, rfl⟩
  have r0 := hrel 0 _ u0 rfl rfl
  have r1 := hrel 1 _ u1 rfl rfl
  cases r0
  cases r1
  refine (growNil_C w).mono fun e w' ⟨h1, h2⟩ => ⟨_, _, h1, .nilS, .nilS, by subst h2; exact Below.refl _ _, rfl⟩
end Go.Proofs.YteijbpppalhihaaGreat
