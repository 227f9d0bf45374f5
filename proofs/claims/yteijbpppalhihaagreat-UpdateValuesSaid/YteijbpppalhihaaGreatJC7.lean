/- JC7: Gr, Cl, X5, C3, C4a, joined by chunk.py. -/
import Derived.Test.YteijbpppalhihaaGreatJC6
import Derived.WalkKit
import Derived.Lib.Walk
import Derived.Lib.SliceRun
import Derived.Lib.AppendZerosOnto
import Derived.OwnWalk
import Derived.WalkSpells
import Derived.WalkLawsBesides
import Derived.Lib.Hide
import Derived.Maps.AppendAt
set_option linter.unusedVariables false
set_option linter.unusedSimpArgs false
section
/- Gr: slices.Grow of nil, the shelf's worked proof turned to instances of this seat. Printed by genGr.py. -/
set_option linter.unusedSimpArgs false
set_option linter.unusedVariables false
set_option maxRecDepth 100000
namespace Go.Proofs.YteijbpppalhihaaGreat
open Go Go.AM Go.RowKit Go.Lib
theorem conO_row {f : FuncId} {args : List V} {e z : Nat} (hE : AM.Enters Tryz.prog f) (h : ∀ (F : Nat → Prop) (w : World) (vals : Array Value), vals.size = args.length → (∀ (i : Nat) a u, args[i]? = some a → vals[i]? = some u → Rel (AM.base F w) a u) →
    Calls Tryz.prog f vals w fun e' w' => ∃ v, e' = .returned v ∧ Below w.heap.size w w' ∧ (v = .slice none 0 0 ∨ ∃ g c cur, v = .slice (some ⟨g, 0, none⟩) 0 c ∧ w.heap.size ≤ g ∧ w'.heap[g]? = some (.cells cur e (0, 0)) ∧ c ≠ 0 ∧ c ≤ maxLen ∧ cur.size = c * z)) : ConO Tryz.prog f args fun e' z' ys => e' = e ∧ z' = z ∧ ys = [] := by
  refine ⟨hE, fun F w vals hZ hF hsz hrel => (h F w vals hsz hrel).mono fun e' w' ⟨v, he, hb, hv⟩ => ?_⟩
  rcases hv with hv | ⟨g, c, cur, hv, hg, hc, hn, hm, hs⟩
  · have hF' : ∀ b, F b → b < w'.heap.size := fun b hb' => Nat.lt_of_lt_of_le (hF b hb') hb.size
    obtain ⟨p1, _⟩ := push0 (AM.base_good hF') (w := w') 0 e z false rfl rfl rfl (Nat.le_refl _) (fun _ _ => rfl)
    refine ⟨v, e, z, [], none, 0, 0, he, hv, fun h => absurd rfl h, by simp, fun h => absurd rfl h, ?_, hb, rfl, rfl, rfl⟩
    refine ⟨hF', fun k hk => absurd (hk.2 e z [] false (by have := hk.1; simp at this; subst this; rfl)) (by simp), fun j k hj hk _ => by have := hj.1; have := hk.1; simp at *; omega, fun k bl hk => ?_⟩
    have hk0 : k = 0 := by have := getElem?_lt hk; simp at this; omega
    subst hk0
    simp at hk
    subst hk
    exact ⟨#[], fun h => absurd rfl h, by simp, by simp, by simp [maxLen], (fun x hx => by cases hx), (fun i x j c u hx => by simp at hx)⟩
  · have hF' : ∀ b, F b → b < w'.heap.size := fun b hb' => Nat.lt_of_lt_of_le (hF b hb') hb.size
    refine ⟨v, e, z, [], some ⟨g, 0, none⟩, g, c, he, hv, fun _ => rfl, by simp, fun _ => hg, ?_, hb, rfl, rfl, rfl⟩
    refine ⟨hF', fun k hk => ⟨(Array.getElem?_eq_some_iff.1 hc).1, fun hf => by have := hF g hf; omega⟩, fun j k hj hk _ => by have := hj.1; have := hk.1; simp at *; omega, fun k bl hk => ?_⟩
    have hk0 : k = 0 := by have := getElem?_lt hk; simp at this; omega
    subst hk0
    simp at hk
    subst hk
    exact ⟨cur, fun _ => hc, by simpa using hs, by simp, hm, (fun x hx => by cases hx), (fun i x j c u hx => by simp at hx)⟩
theorem infoG_C : (Tryz.prog.info? 49).map (fun i => (i.zero, i.size, i.bytes)) = some (some (.agg #[.int .i64 0, .int .i64 0]), 2, 16) := by kernel_rfl
set_option maxHeartbeats 4000000 in
theorem growPos_C (n : Nat) (w : World) (h0 : 0 < n) (hn : n ≤ 1000000) : Calls Tryz.prog 137 #[.slice none 0 0, .int .i64 n] w fun e w' =>
      e = .returned (.slice (some ⟨w.heap.size, 0, none⟩) 0 (grownCap w n 0 49)) ∧ w' = w.drew.alloc (.cells (Builtin.zeroCells (.agg #[.int .i64 0, .int .i64 0] : Value).cells n ++ Builtin.zeroCells (.agg #[.int .i64 0, .int .i64 0] : Value).cells (grownCap w n 0 49 - n)) 49) := by
  obtain ⟨i0, hi0, hz0, hs0, hby⟩ := info_parts infoG_C
  have h1 : ¬ ((n : Int) < 0) := by omega
  have hz25 : ∀ w, (Go.sizeOf 49).run Tryz.prog w = .ok 2 w := fun w => by simp [Go.sizeOf, typeInfo, hi0, hs0]
  have hold : (Builtin.firstCells i0.size 0 (.slice none 0 0)).run Tryz.prog w.drew = .ok ([] : List Value).toArray w.drew := run_firstCells_none w.drew i0.size 0 0 0
  have hbig : (0 + n) * i0.bytes ≤ 140737488355328 := by rw [hby]; omega
  have hrz : ∀ ty, (Builtin.append_ #[37, 3] ty #[.slice none 0 0, .int .i64 (n : Int)]).run Tryz.prog w =
      .ok (.slice (some ⟨w.heap.size, 0, none⟩) n (grownCap w n 0 49)) (w.drew.alloc (.cells (Builtin.zeroCells (.agg #[.int .i64 0, .int .i64 0] : Value).cells n ++ Builtin.zeroCells (.agg #[.int .i64 0, .int .i64 0] : Value).cells (grownCap w n 0 49 - n)) 49)) := fun ty => by
    have h := Lib.run_append_grow_zeros (P := Tryz.prog) w 37 3 ty 49 i0 _ .i64 .i64 Tryz.underlying37 Tryz.underlying3 hi0 hz0 none 0 0 [] hold n h0 (by omega) (by omega) (by omega)
      (by rw [hby]; omega)
      (growslice_fits (by omega) hbig)
    simpa using h
  have hGn : n ≤ grownCap w n 0 49 := grownCap_ge w _ _ _
  obtain ⟨G, hG⟩ : ∃ G, G = grownCap w n 0 49 := ⟨_, rfl⟩
  rw [← hG] at hrz hGn ⊢
  have hG63 : G ≤ 9223372036854775807 := by
    have := grownCap_le_maxLen w n 0 49 (by unfold maxLen; omega)
    rw [← hG] at this
    unfold maxLen at this
    omega
  have h2 : RowKit.wrap64 ((0 : Int) - 0) = 0 := by unfold RowKit.wrap64; omega
  have h3 : RowKit.wrap64 ((n : Int) - 0) = (n : Int) := by unfold RowKit.wrap64; omega
  have h4 : (n : Int) > 0 := by omega
  clear hold hG hbig
  go_enter Tryz.func137, Tryz.ntmps137
  go_wp2_with (at_builtin; refine Lib.wpList_append_run _ rfl _ _ _ _ rfl _ _ rfl rfl _ _ (hrz _) ?_)
  all_goals (go_ret; exact ⟨rfl, rfl⟩)
set_option maxHeartbeats 4000000 in
theorem growNil_C (w : World) : Calls Tryz.prog 137 #[.slice none 0 0, .int .i64 0] w fun e w' => e = .returned (.slice none 0 0) ∧ w' = w := by
  go_enter Tryz.func137, Tryz.ntmps137
  go_wp2
  go_ret
  exact ⟨rfl, rfl⟩
theorem grow_con_C (n : Nat) (hn : n ≤ 1000000) : ConO Tryz.prog 137 [.nilS, .int .i64 n] fun e z ys => e = 49 ∧ z = 2 ∧ ys = [] := by
  refine conO_row ⟨Tryz.f137, Tryz.func137, rfl, rfl⟩ (fun F w vals hsz hrel => ?_)
  obtain ⟨u0, u1, rfl⟩ : ∃ u0 u1, vals = #[u0, u1] := by
    obtain ⟨l⟩ := vals
    match l, hsz with
    | [a, b], _ => exact ⟨a, b, rfl⟩
  have r0 := hrel 0 _ u0 rfl rfl
  have r1 := hrel 1 _ u1 rfl rfl
  cases r0
  cases r1
  by_cases h0 : n = 0
  · subst h0
    exact (growNil_C w).mono fun e w' ⟨h1, h2⟩ => ⟨_, h1, by subst h2; exact Below.refl _ _, .inl rfl⟩
  · refine (growPos_C n w (by omega) hn).mono fun e w' ⟨h1, h2⟩ => ?_
    subst h2
    have hge := grownCap_ge w n 0 49
    refine ⟨_, h1, ((Below.refl _ _).drew).alloc (Nat.le_refl _) _, .inr ⟨w.heap.size, grownCap w n 0 49, Builtin.zeroCells (.agg #[.int .i64 0, .int .i64 0] : Value).cells n ++ Builtin.zeroCells (.agg #[.int .i64 0, .int .i64 0] : Value).cells (grownCap w n 0 49 - n), rfl, Nat.le_refl _, ?_, by omega, grownCap_le_maxLen w n 0 49 (by unfold maxLen; omega), ?_⟩⟩
    · exact Array.getElem?_push_size (xs := w.heap)
    · rw [Array.size_append, size_zeroCells, size_zeroCells, ← Nat.add_mul, Nat.add_sub_cancel' hge]
      rfl
theorem grow_nil_C : ConP Tryz.prog 137 [.nilS, .int .i64 0] fun r => r = .nilS := by
  refine ⟨⟨Tryz.f137, Tryz.func137, rfl, rfl⟩, fun F w vals hZ hF hsz hrel => ?_⟩
  obtain ⟨u0, u1, rfl⟩ : ∃ u0 u1, vals = #[u0, u1] := by
    obtain ⟨l⟩ := vals
    match l, hsz with
    | [a, b], _ => exact ⟨a, b, rfl⟩
  have r0 := hrel 0 _ u0 rfl rfl
  have r1 := hrel 1 _ u1 rfl rfl
  cases r0
  cases r1
  refine (growNil_C w).mono fun e w' ⟨h1, h2⟩ => ⟨_, _, h1, .nilS, .nilS, by subst h2; exact Below.refl _ _, rfl⟩
end Go.Proofs.YteijbpppalhihaaGreat
end

section
/- Cl: slices.Clone at the instances of this seat. Printed by genCl.py, expanded by pp.py. -/
set_option linter.unusedSimpArgs false
set_option maxRecDepth 100000
namespace Go.Proofs.YteijbpppalhihaaGreat
open Go Go.AM Go.RowKit
theorem conO_row0 {f : FuncId} {args : List V} {e z : Nat} (hE : AM.Enters Tryz.prog f) (h : ∀ (F : Nat → Prop) (w : World) (vals : Array Value), vals.size = args.length → (∀ (i : Nat) a u, args[i]? = some a → vals[i]? = some u → Rel (AM.base F w) a u) →
    Calls Tryz.prog f vals w fun e' w' => ∃ v, e' = .returned v ∧ Below w.heap.size w w' ∧ (v = .slice none 0 0 ∨ ∃ g c cur, v = .slice (some ⟨g, 0, none⟩) 0 c ∧ w.heap.size ≤ g ∧ w'.heap[g]? = some (.cells cur e (0, 0)) ∧ c ≤ maxLen ∧ cur.size = c * z)) : ConO Tryz.prog f args fun e' z' ys => e' = e ∧ z' = z ∧ ys = [] := by
  refine ⟨hE, fun F w vals hZ hF hsz hrel => (h F w vals hsz hrel).mono fun e' w' ⟨v, he, hb, hv⟩ => ?_⟩
  rcases hv with hv | ⟨g, c, cur, hv, hg, hc, hm, hs⟩
  · have hF' : ∀ b, F b → b < w'.heap.size := fun b hb' => Nat.lt_of_lt_of_le (hF b hb') hb.size
    obtain ⟨p1, _⟩ := push0 (AM.base_good hF') (w := w') 0 e z false rfl rfl rfl (Nat.le_refl _) (fun _ _ => rfl)
    refine ⟨v, e, z, [], none, 0, 0, he, hv, fun h => absurd rfl h, by simp, fun h => absurd rfl h, ?_, hb, rfl, rfl, rfl⟩
    refine ⟨hF', fun k hk => absurd (hk.2 e z [] false (by have := hk.1; simp at this; subst this; rfl)) (by simp), fun j k hj hk _ => by have := hj.1; have := hk.1; simp at *; omega, fun k bl hk => ?_⟩
    have hk0 : k = 0 := by have := getElem?_lt hk; simp at this; omega
    subst hk0
    simp at hk
    subst hk
    exact ⟨#[], fun h => absurd rfl h, by simp, by simp, by simp [maxLen], (fun x hx => by cases hx), (fun i x j c u hx => by simp at hx)⟩
  · have hF' : ∀ b, F b → b < w'.heap.size := fun b hb' => Nat.lt_of_lt_of_le (hF b hb') hb.size
    refine ⟨v, e, z, [], some ⟨g, 0, none⟩, g, c, he, hv, fun _ => rfl, by simp, fun _ => hg, ?_, hb, rfl, rfl, rfl⟩
    refine ⟨hF', fun k hk => ⟨(Array.getElem?_eq_some_iff.1 hc).1, fun hf => by have := hF g hf; omega⟩, fun j k hj hk _ => by have := hj.1; have := hk.1; simp at *; omega, fun k bl hk => ?_⟩
    have hk0 : k = 0 := by have := getElem?_lt hk; simp at this; omega
    subst hk0
    simp at hk
    subst hk
    exact ⟨cur, fun _ => hc, by simpa using hs, by simp, hm, (fun x hx => by cases hx), (fun i x j c u hx => by simp at hx)⟩
theorem infoD_C : (Tryz.prog.info? 49).map (fun i => (i.zero, i.size, i.bytes)) = some (some (.agg #[.int .i64 0, .int .i64 0]), 2, 16) := by kernel_rfl
set_option maxHeartbeats 400000 in
theorem cloneE_C (A : Option Addr) (cap : Nat) (w : World) :
    Calls Tryz.prog 16 #[.slice A 0 cap] w fun e w' => ∃ v, e = .returned v ∧ w'.ownsRow w.heap.size 49 2 v 0 [] ∧ Below w.heap.size w w' := by
  have hnil := fun W A n c => Lib.run_eql_slice_nil (P := Tryz.prog) W 37 49 A n c 0 0 Tryz.underlying37
  cases A with
  | none =>
    go_enter Tryz.func16, Tryz.ntmps16
    go_wp2
    go_ret
    exact ⟨_, rfl, World.ownsRow_nil _ _ _ _, Below.refl _ _⟩
  | some ad =>
    obtain ⟨i0, hi, hz0, hz1, hz2⟩ := info_parts infoD_C
    have hown : (w.alloc (.cells #[] 49)).ownsRow w.heap.size 49 2 (.slice (some ⟨w.heap.size, 0, none⟩) 0 0) 0 [] := World.ownsRow_lit w #[] 0 (Nat.le_refl _) (by simp [maxLen]) (by simp)
    have hnews : ∀ j u, ([] : List Value)[j]? = some u → (w.alloc (.cells #[] 49)).cell? (ad.add j) = some u := by
      intro j u hu
      simp at hu
    have hone : ∀ u ∈ ([] : List Value), u.oneCell' = true := by intro u hu; cases hu
    have h63 : 0 + 0 ≤ maxLen := by simp [maxLen]
    have hby : (0 + 0) * 16 ≤ 140737488355328 := by omega
    have hlen : ([] : List Value).length = 0 * 2 := by simp
    have Hi := Lib.hid (show Tryz.prog.info? 49 = some i0 ∧ i0.zero = some _ ∧ i0.size = 2 ∧ i0.bytes = 16 from ⟨hi, hz0, hz1, hz2⟩)
    have Hw := Lib.hid (And.intro hown (And.intro hnews (And.intro hone (And.intro h63 (And.intro hby hlen)))))
    clear hnews hone hown hi hz0 hz1 hz2 h63 hby hlen
    go_enter Tryz.func16, Tryz.ntmps16
    go_wp2_with (at_builtin; refine wpList_append_own _ rfl _ _ 37 rfl w.heap.size 49 i0 _ 2 16 Tryz.underlying37 Hi.out.1 Hi.out.2.1 Hi.out.2.2.1 Hi.out.2.2.2 rfl (by omega) (.slice (some ⟨w.heap.size, 0, none⟩) 0 0) 0 [] rfl Hw.out.1 ad 0 cap [] rfl Hw.out.2.2.2.2.2 Hw.out.2.1 Hw.out.2.2.1 Hw.out.2.2.2.1 Hw.out.2.2.2.2.1 (by simp) ?_; intro v1 w1 ho hg hn; have Ho := Lib.hid ho; have Hg := Lib.hid hg; have Hn := Lib.hid hn; clear ho hg hn)
    go_ret
    exact ⟨v1, rfl, by have := Ho.out; simpa using this, ((Below.refl _ _).alloc (Nat.le_refl _) _).grown Hg.out (by simp) (by simp [Value.ownBlock])⟩
theorem cloneN_C : ∀ (f : Bool), ConP Tryz.prog 16 [.lst 2 f []] fun r => r = .lst 2 false [] := fun f => by
  have hO : ConO Tryz.prog 16 [.lst 2 f []] fun e z ys => e = 49 ∧ z = 2 ∧ ys = [] := conO_row0 ⟨Tryz.f16, Tryz.func16, rfl, rfl⟩ (fun F w vals hsz hrel => by
    obtain ⟨u0, rfl⟩ : ∃ u0, vals = #[u0] := by
      obtain ⟨l⟩ := vals
      match l, hsz with
      | [a], _ => exact ⟨a, rfl⟩
    have r0 := hrel 0 _ u0 rfl rfl
    cases r0
    refine (cloneE_C _ _ _).mono fun e' w' ⟨v, he, hown, hb⟩ => ⟨v, he, hb, ?_⟩
    obtain ⟨_, ⟨hv, _⟩ | ⟨g, c, cur, hv, hg, hc, hn, hm, hs, _⟩⟩ := hown
    · exact .inl hv
    · exact .inr ⟨g, c, cur, hv, hg, hc, hm, hs⟩)
  refine ⟨hO.1, fun F w vals hZ hF hsz hrel => ((conP_of_conO hO).2 F w vals hZ hF hsz hrel).mono fun e w' ⟨u, r, h1, h2, h3, h4, e', z, ys, h5, h6, h7, h8⟩ => ?_⟩
  subst h6; subst h7; subst h8
  exact ⟨u, r, h1, h2, h3, h4, h5⟩
set_option maxHeartbeats 4000000 in
theorem clone_C (l : List Cr) (f : Bool) (hl : l.length ≤ 1000000) : ConP Tryz.prog 16 [LC f l] fun r => r = LC false l := by
  cases l with
  | nil => exact cloneN_C f
  | cons x xs =>
    have hl' : xs.length ≤ 1000000 := by simp only [List.length_cons] at hl; omega
    refine conP_of_conH (conH_of_W tok Tryz.func16 rfl rfl ?_)
    refine W_x tok mixed ?_
    simp -implicitDefEqProofs -dsimp [Tryz.f16, List.replicate, LC, eqA2, cap16 xs.length (by omega), encCr]
    exact exp_buf rfl (by simp) (by simp)
theorem infoD_F : (Tryz.prog.info? 46).map (fun i => (i.zero, i.size, i.bytes)) = some (some (.agg #[.int .u32 0, .int .u32 0]), 2, 8) := by kernel_rfl
set_option maxHeartbeats 400000 in
theorem cloneE_F (A : Option Addr) (cap : Nat) (w : World) :
    Calls Tryz.prog 15 #[.slice A 0 cap] w fun e w' => ∃ v, e = .returned v ∧ w'.ownsRow w.heap.size 46 2 v 0 [] ∧ Below w.heap.size w w' := by
  have hnil := fun W A n c => Lib.run_eql_slice_nil (P := Tryz.prog) W 33 46 A n c 0 0 Tryz.underlying33
  cases A with
  | none =>
    go_enter Tryz.func15, Tryz.ntmps15
    go_wp2
    go_ret
    exact ⟨_, rfl, World.ownsRow_nil _ _ _ _, Below.refl _ _⟩
  | some ad =>
    obtain ⟨i0, hi, hz0, hz1, hz2⟩ := info_parts infoD_F
    have hown : (w.alloc (.cells #[] 46)).ownsRow w.heap.size 46 2 (.slice (some ⟨w.heap.size, 0, none⟩) 0 0) 0 [] := World.ownsRow_lit w #[] 0 (Nat.le_refl _) (by simp [maxLen]) (by simp)
    have hnews : ∀ j u, ([] : List Value)[j]? = some u → (w.alloc (.cells #[] 46)).cell? (ad.add j) = some u := by
      intro j u hu
      simp at hu
    have hone : ∀ u ∈ ([] : List Value), u.oneCell' = true := by intro u hu; cases hu
    have h63 : 0 + 0 ≤ maxLen := by simp [maxLen]
    have hby : (0 + 0) * 8 ≤ 140737488355328 := by omega
    have hlen : ([] : List Value).length = 0 * 2 := by simp
    have Hi := Lib.hid (show Tryz.prog.info? 46 = some i0 ∧ i0.zero = some _ ∧ i0.size = 2 ∧ i0.bytes = 8 from ⟨hi, hz0, hz1, hz2⟩)
    have Hw := Lib.hid (And.intro hown (And.intro hnews (And.intro hone (And.intro h63 (And.intro hby hlen)))))
    clear hnews hone hown hi hz0 hz1 hz2 h63 hby hlen
    go_enter Tryz.func15, Tryz.ntmps15
    go_wp2_with (at_builtin; refine wpList_append_own _ rfl _ _ 33 rfl w.heap.size 46 i0 _ 2 8 Tryz.underlying33 Hi.out.1 Hi.out.2.1 Hi.out.2.2.1 Hi.out.2.2.2 rfl (by omega) (.slice (some ⟨w.heap.size, 0, none⟩) 0 0) 0 [] rfl Hw.out.1 ad 0 cap [] rfl Hw.out.2.2.2.2.2 Hw.out.2.1 Hw.out.2.2.1 Hw.out.2.2.2.1 Hw.out.2.2.2.2.1 (by simp) ?_; intro v1 w1 ho hg hn; have Ho := Lib.hid ho; have Hg := Lib.hid hg; have Hn := Lib.hid hn; clear ho hg hn)
    go_ret
    exact ⟨v1, rfl, by have := Ho.out; simpa using this, ((Below.refl _ _).alloc (Nat.le_refl _) _).grown Hg.out (by simp) (by simp [Value.ownBlock])⟩
theorem cloneN_F : ∀ (f : Bool), ConP Tryz.prog 15 [.lst 2 f []] fun r => r = .lst 2 false [] := fun f => by
  have hO : ConO Tryz.prog 15 [.lst 2 f []] fun e z ys => e = 46 ∧ z = 2 ∧ ys = [] := conO_row0 ⟨Tryz.f15, Tryz.func15, rfl, rfl⟩ (fun F w vals hsz hrel => by
    obtain ⟨u0, rfl⟩ : ∃ u0, vals = #[u0] := by
      obtain ⟨l⟩ := vals
      match l, hsz with
      | [a], _ => exact ⟨a, rfl⟩
    have r0 := hrel 0 _ u0 rfl rfl
    cases r0
    refine (cloneE_F _ _ _).mono fun e' w' ⟨v, he, hown, hb⟩ => ⟨v, he, hb, ?_⟩
    obtain ⟨_, ⟨hv, _⟩ | ⟨g, c, cur, hv, hg, hc, hn, hm, hs, _⟩⟩ := hown
    · exact .inl hv
    · exact .inr ⟨g, c, cur, hv, hg, hc, hm, hs⟩)
  refine ⟨hO.1, fun F w vals hZ hF hsz hrel => ((conP_of_conO hO).2 F w vals hZ hF hsz hrel).mono fun e w' ⟨u, r, h1, h2, h3, h4, e', z, ys, h5, h6, h7, h8⟩ => ?_⟩
  subst h6; subst h7; subst h8
  exact ⟨u, r, h1, h2, h3, h4, h5⟩
set_option maxHeartbeats 4000000 in
theorem clone_F (l : List Fd) (f : Bool) (hl : l.length ≤ 1000000) : ConP Tryz.prog 15 [LF f l] fun r => r = LF false l := by
  cases l with
  | nil => exact cloneN_F f
  | cons x xs =>
    have hl' : xs.length ≤ 1000000 := by simp only [List.length_cons] at hl; omega
    refine conP_of_conH (conH_of_W tok Tryz.func15 rfl rfl ?_)
    refine W_x tok mixed ?_
    simp -implicitDefEqProofs -dsimp [Tryz.f15, List.replicate, LF, eqA2, cap8 xs.length (by omega), encF]
    exact exp_buf rfl (by simp) (by simp)
end Go.Proofs.YteijbpppalhihaaGreat
end

section
/- X5: Concat of two lists, less, core, Core. Expanded by pp.py. -/
set_option linter.unusedSimpArgs false
set_option maxRecDepth 100000
namespace Go.Proofs.YteijbpppalhihaaGreat
open Go Go.AM Go.RowKit
theorem cap16b (n k : Nat) (h : n + k ≤ 1000000000) : n + k ≤ 9223372036854775807 ∧ (n + k) * 16 ≤ 140737488355328 := by omega
set_option maxHeartbeats 32000000 in
theorem concat2 (a b : List Cr) (f g : Bool) (ha : a.length ≤ 1000000) (hb : b.length ≤ 1000000) (hs : (a ++ b).length ≤ 1000000) : ConP Tryz.prog 100 [.lst 1 true [LC f a, LC g b]] fun r => r = LC false (a ++ b) := by
  have hab : a.length + b.length ≤ 1000000 := by rw [List.length_append] at hs; exact hs
  have w11 : IntKind.i64.wrap (1 : Int) = 1 := wrap64 (by omega) (by omega)
  have w12 : IntKind.i64.wrap (2 : Int) = 2 := wrap64 (by omega) (by omega)
  refine conP_of_conH (conH_of_W tok Tryz.func100 rfl rfl ?_)
  refine W_x tok mixed ?_
  simp -implicitDefEqProofs -dsimp [Tryz.f100, List.replicate, LC]
  refine lw_of (W_loopV [false, false, false, true, false, true, false, false, false, false, false, true, true, true, true, true, true, true, true, true, true, true, true] (σ := Nat × Nat) (fun p => (p.1 = 0 ∧ p.2 = 0) ∨ (p.1 = 1 ∧ p.2 = a.length) ∨ (p.1 = 2 ∧ p.2 = a.length + b.length)) (fun p => 2 - p.1) (fun p => [(11, .int .i64 p.1), (3, .int .i64 p.2)]) (fun _ => []) (0, 0) (.inl ⟨rfl, rfl⟩) (by simp) rfl (by simp) ?_)
  rintro ⟨i, c⟩ hx N Q hN hQ
  simp only at hx hN
  rcases hx with ⟨rfl, rfl⟩ | ⟨rfl, rfl⟩ | ⟨rfl, rfl⟩
  · have w1 : IntKind.i64.wrap ((a.length : Int)) = (a.length : Int) := wrapN _ (by omega)
    refine W_x tok mixed ?_
    simp -implicitDefEqProofs -dsimp [w1]
    refine hN (1, a.length) _ _ (.inr (.inl ⟨rfl, rfl⟩)) (by simp) (by simp [w11, w12]) ⟨[], rfl⟩ (by simp) (by simp)
  · have w1 : IntKind.i64.wrap ((a.length : Int) + (b.length : Int)) = ((a.length + b.length : Nat) : Int) := by rw [wrap64 (by omega) (by omega)]; push_cast; rfl
    obtain ⟨s, hse⟩ : ∃ s, s = a.length + b.length := ⟨_, rfl⟩
    rw [← hse] at w1
    refine W_x tok mixed ?_
    simp -implicitDefEqProofs -dsimp [w1, show ¬ (s : Int) < 0 by omega]
    refine hN (2, s) _ _ (.inr (.inr ⟨rfl, hse⟩)) (by simp) (by simp [w11, w12]) ⟨[], rfl⟩ (by simp) (by simp)
  · obtain ⟨s, hse⟩ : ∃ s, s = a.length + b.length := ⟨_, rfl⟩
    rw [← hse]
    have hg := callO (H := []) (grow_con_C s (by omega)) (by simp)
    refine W_x tok mixed ?_
    simp -implicitDefEqProofs -dsimp []
    refine hQ _ _ _ ?_
    simp -implicitDefEqProofs -dsimp []
    refine hg.mono ?_
    rintro r H' ⟨e, z, xs, rfl, rfl, _, rfl, rfl, rfl⟩
    simp -implicitDefEqProofs -dsimp []
    refine lw_of (W_loopV [false, false, false, false, false, false, true, false, true, false, false, false, false, false, false, false, false, false, false, false, false, false, false, false, false, false, false, true, true, true, true, true, true, true, true] (σ := Nat × List Cr) (fun p => (p.1 = 0 ∧ p.2 = []) ∨ (p.1 = 1 ∧ p.2 = a) ∨ (p.1 = 2 ∧ p.2 = a ++ b)) (fun p => 2 - p.1) (fun p => [(27, .int .i64 p.1), (6, .buf 0 0 p.2.length p.2.length)]) (fun p => [B.buf 49 2 (p.2.map encCr) false]) (0, []) (.inl ⟨rfl, rfl⟩) (by simp) rfl (by simp) ?_)
    rintro ⟨i, c⟩ hx N2 Q2 hN2 hQ2
    simp only at hx hN2
    rcases hx with ⟨rfl, rfl⟩ | ⟨rfl, rfl⟩ | ⟨rfl, rfl⟩
    · by_cases h0 : a = []
      · refine W_x tok mixed ?_
        simp -implicitDefEqProofs -dsimp [h0, w11]
        refine hN2 (1, a) _ _ (.inr (.inl ⟨rfl, rfl⟩)) (by simp) (by simp [h0, w11]) ⟨[], by simp [h0]⟩ (by simp) (by simp)
      · refine W_x tok mixed ?_
        simp -implicitDefEqProofs -dsimp [h0, w11, show a.length ≤ 9223372036854775807 by omega, show a.length * 16 ≤ 140737488355328 by omega]
        refine hN2 (1, a) _ _ (.inr (.inl ⟨rfl, rfl⟩)) (by simp) (by simp [w11]) ⟨[], by simp⟩ (by simp) (by simp)
    · by_cases h0 : b = []
      · refine W_x tok mixed ?_
        simp -implicitDefEqProofs -dsimp [h0, w12]
        refine hN2 (2, c ++ b) _ _ (.inr (.inr ⟨rfl, rfl⟩)) (by simp) (by simp [h0, w12]) ⟨[], by simp [h0]⟩ (by simp) (by simp)
      · refine W_x tok mixed ?_
        simp -implicitDefEqProofs -dsimp [h0, w12, cap16b c.length b.length (by omega)]
        refine hN2 (2, c ++ b) _ _ (.inr (.inr ⟨rfl, rfl⟩)) (by simp) (by simp [w12]) ⟨[], by simp⟩ (by simp) (by simp)
    · refine W_x tok mixed ?_
      simp -implicitDefEqProofs -dsimp []
      refine hQ2 _ _ _ ?_
      simp -implicitDefEqProofs -dsimp []
      rw [show LC false (a ++ b) = .lst 2 false (a.map encCr ++ b.map encCr) by simp [LC]]
      refine exp_buf rfl (by simp) ?_
      simp only [List.mem_append, List.mem_map]
      rintro x (⟨c, _, rfl⟩ | ⟨c, _, rfl⟩) <;> exact encCr_pure c
theorem pure_crs (l : List Cr) : ∀ x ∈ l.map encCr, AM.Pure x := fun x hx => by
  obtain ⟨c, _, rfl⟩ := List.mem_map.1 hx
  exact encCr_pure c
theorem take_drop_erase (l : List Cr) (i : Nat) : l.take i ++ l.drop (i + 1) = l.eraseIdx i := (List.eraseIdx_eq_take_drop_succ l i).symm
set_option maxHeartbeats 32000000 in
theorem less_u (l : List Cr) (i : Nat) (f : Bool) (hl : l.length ≤ 1000000) (hi : i < l.length) : ConP Tryz.prog 82 [LC f l, .int .i64 i] fun r => r = LC false (l.eraseIdx i) := by
  have c1 := concat2 (l.take i) (l.drop (i + 1)) (f && i == l.length) f (by simp; omega) (by simp; omega) (by simp; omega)
  rw [take_drop_erase] at c1
  simp only [LC, List.map_take, List.map_drop] at c1
  have hi1 : i ≤ l.length := by omega
  have hi2 : i + 1 ≤ l.length := by omega
  have htl : (List.map encCr l).take l.length = List.map encCr l := by rw [← List.length_map (f := encCr)]; exact List.take_length
  refine conP_of_conH (conH_of_W tok Tryz.func82 rfl rfl ?_)
  refine W_x tok mixed ?_
  simp -implicitDefEqProofs -dsimp [Tryz.f82, List.replicate, LC, hi1, hi2, htl, wrapS i (by omega), show (0 : Int) ≤ (i : Int) + 1 by omega]
  refine .inr ⟨stop_of (by kernel_rfl), ?_⟩
  refine cy_of _ (callP c1 (by
    simp
    exact ⟨fun x hx => pure_crs l x (List.mem_of_mem_take hx), fun x hx => pure_crs l x (List.mem_of_mem_drop hx)⟩)) ?_
  simp -implicitDefEqProofs -dsimp []
  rfl
open Classical in
/-- The search for a core. -/
noncomputable def coreG (t : Tb) (fds : List Fd) (f : Bool) (l : List Cr) (i : Nat) : Bool × List Cr :=
  if h : i < l.length then (if necB t fds (l.eraseIdx i) = true then coreG t fds false (l.eraseIdx i) i else coreG t fds f l (i + 1)) else (f, l)
termination_by 2 * l.length - i
decreasing_by
  · rw [List.length_eraseIdx_of_lt h]; omega
  · omega
theorem coreG_ok {t : Tb} {fds : List Fd} {fixed : List Cr} (f : Bool) (l : List Cr) (i : Nat) (h : CoreSt t fds fixed l i) : IsCoreP t fds (coreG t fds f l i).2 ∧ (∀ c ∈ (coreG t fds f l i).2, c ∈ fixed) ∧ sortedC (coreG t fds f l i).2 := by
  fun_induction coreG t fds f l i with
  | case1 f l i h1 h2 ih => exact ih (h.drop h1 (necB_iff.1 h2))
  | case2 f l i h1 h2 ih => exact ih (h.keep h1 (fun hn => h2 (necB_iff.2 hn)))
  | case3 f l i h1 =>
    have : i = l.length := by have := h.le; omega
    subst this
    exact ⟨h.done, h.sub, h.sorted⟩
theorem coreG_len {t : Tb} {fds : List Fd} (f : Bool) (l : List Cr) (i : Nat) : (coreG t fds f l i).2.length ≤ l.length := by
  fun_induction coreG t fds f l i with
  | case1 f l i h1 h2 ih => rw [List.length_eraseIdx_of_lt h1] at ih; omega
  | case2 f l i h1 h2 ih => exact ih
  | case3 f l i h1 => exact Nat.le_refl _
set_option maxHeartbeats 32000000 in
theorem core_u (t : Tb) (ff gg df cf : Bool) (fds : List Fd) (l0 : List Cr) (hv : TbV t) (hF : FdsOk fds) (hs : sortedC l0) (hl : l0.length ≤ 1000000) :
    ConP Tryz.prog 49 [encTb ff gg t, LF df fds, LC cf l0] fun r => r = LC (coreG t fds cf l0 0).1 (coreG t fds cf l0 0).2 := by
  obtain ⟨E, hE⟩ : ∃ E, E = coreG t fds cf l0 0 := ⟨_, rfl⟩
  rw [← hE]
  refine conP_of_conH (conH_of_W tok Tryz.func49 rfl rfl ?_)
  refine W_x tok mixed ?_
  simp -implicitDefEqProofs -dsimp [Tryz.f49, List.replicate, encTb, LS, LR, LC, LF]
  refine lw_of (W_loopV [false, false, true, false, false, false, false, true, true, true, true, true, true, true, true, true, true, true, true, true, true, true, true] (σ := Bool × List Cr × Nat) (fun p => p.2.1.length ≤ 1000000 ∧ sortedC p.2.1 ∧ coreG t fds p.1 p.2.1 p.2.2 = E ∧ p.2.2 ≤ p.2.1.length) (fun p => 2 * p.2.1.length - p.2.2) (fun p => [(2, .lst 2 p.1 (p.2.1.map encCr)), (7, .int .i64 p.2.2)]) (fun _ => [B.cells [.str t.name, .lst 1 ff (t.attrs.map V.str), .lst 2 gg (t.rows.map encRw)]]) (cf, l0, 0) ⟨hl, hs, hE.symm, by simp⟩ (by simp) (by simp) (by simp) ?_)
  rintro ⟨f, l, i⟩ ⟨hl, hs, hx, hi⟩ N Q hN hQ
  simp only at hl hs hx hi hN
  by_cases hb : i < l.length
  · have c1 := less_u l i f hl hb
    have c2 := necessary_u t ff gg df false fds (l.eraseIdx i) hv hF (sorted_erase hs) (by rw [List.length_eraseIdx_of_lt hb]; omega)
    obtain ⟨l', hl'⟩ : ∃ l', l' = l.eraseIdx i := ⟨_, rfl⟩
    have hlen : l'.length = l.length - 1 := by rw [hl', List.length_eraseIdx_of_lt hb]
    have hs' : sortedC l' := hl' ▸ sorted_erase hs
    rw [coreG, dif_pos hb, ← hl'] at hx
    rw [← hl'] at c1 c2
    simp only [encTb, LS, LR, LC, LF] at c1 c2
    cases hq : necB t fds l' with
    | true =>
      rw [hq] at c2
      rw [if_pos hq] at hx
      refine W_x tok mixed ?_
      simp -implicitDefEqProofs -dsimp [hb]
      refine (callP (c1) (by simp)).mono ?_
      rintro r H' ⟨rfl, rfl⟩
      simp -implicitDefEqProofs -dsimp []
      refine (callP (c2) (by simp)).mono ?_
      rintro r H' ⟨rfl, rfl⟩
      simp -implicitDefEqProofs -dsimp []
      refine hN (false, l', i) _ _ ⟨by simp only; omega, hs', hx, by simp only; omega⟩ (by simp only; omega) (by simp) ⟨[], by simp⟩ (by simp [encF_pure]) (by simp)
    | false =>
      rw [hq] at c2
      rw [if_neg (by rw [hq]; simp)] at hx
      refine W_x tok mixed ?_
      simp -implicitDefEqProofs -dsimp [hb]
      refine (callP (c1) (by simp)).mono ?_
      rintro r H' ⟨rfl, rfl⟩
      simp -implicitDefEqProofs -dsimp []
      refine (callP (c2) (by simp)).mono ?_
      rintro r H' ⟨rfl, rfl⟩
      simp -implicitDefEqProofs -dsimp [wrapS i (by omega)]
      refine hN (f, l, i + 1) _ _ ⟨hl, hs, hx, by simp only; omega⟩ (by simp only; omega) (by simp) ⟨[], by simp⟩ (by simp) (by simp)
  · rw [coreG, dif_neg hb] at hx
    subst hx
    refine W_x tok mixed ?_
    simp -implicitDefEqProofs -dsimp [hb]
    refine hQ _ _ _ ?_
    simp -implicitDefEqProofs -dsimp []
    rfl
theorem coreG_le {t : Tb} {fds : List Fd} (f : Bool) (l : List Cr) (h : l.length ≤ 1000000) : (coreG t fds f l 0).2.length ≤ 1000000 := Nat.le_trans (coreG_len f l 0) h
open Classical in
noncomputable def CoreR (t : Tb) (fds : List Fd) (cf : Bool) (l : List Cr) : V := if chkE t fds l = 0 then (if necB t fds l then .tup [LC false (coreG t fds cf l 0).2, .int .i64 0] else .tup [.nilS, .int .i64 4]) else .tup [.nilS, .int .i64 (chkE t fds l)]
set_option maxHeartbeats 32000000 in
theorem Core_u (t : Tb) (ff gg df cf : Bool) (fds : List Fd) (l : List Cr) (ht : TbOk t) (hF : FdsOk fds) (hcl : l.length ≤ 1000000) :
    ConP Tryz.prog 20 [encTb ff gg t, LF df fds, LC cf l] fun r => r = CoreR t fds cf l := by
  have c1 := check_u t ff gg df cf fds l ht hF hcl
  simp only [encTb, LS, LR, LC, LF] at c1
  unfold CoreR
  by_cases h : chkE t fds l = 0
  · obtain ⟨hv, h1, h2, h3, h4⟩ := chkE_ok ht h
    rw [if_pos h]
    rw [h] at c1
    have c2 := necessary_u t ff gg df cf fds l hv hF h3 hcl
    cases hq : necB t fds l with
    | true =>
      rw [hq] at c2
      rw [if_pos rfl]
      have c3 := core_u t ff gg df cf fds l hv hF h3 hcl
      have c4 := clone_C (coreG t fds cf l 0).2 (coreG t fds cf l 0).1 (coreG_le cf l hcl)
      simp only [encTb, LS, LR, LC, LF] at c2 c3 c4
      refine conP_of_conH (conH_of_W tok Tryz.func20 rfl rfl ?_)
      refine W_x tok mixed ?_
      simp -implicitDefEqProofs -dsimp [Tryz.f20, List.replicate, encTb, LS, LR, LC, LF]
      refine (callP (c1) (by simp)).mono ?_
      rintro r H' ⟨rfl, rfl⟩
      simp -implicitDefEqProofs -dsimp []
      refine (callP (c2) (by simp)).mono ?_
      rintro r H' ⟨rfl, rfl⟩
      simp -implicitDefEqProofs -dsimp []
      refine (callP (c3) (by simp)).mono ?_
      rintro r H' ⟨rfl, rfl⟩
      simp -implicitDefEqProofs -dsimp []
      refine (callP (c4) (by simp)).mono ?_
      rintro r H' ⟨rfl, rfl⟩
      simp -implicitDefEqProofs -dsimp []
      rfl
    | false =>
      rw [hq] at c2
      rw [if_neg (by simp)]
      simp only [encTb, LS, LR, LC, LF] at c2
      refine conP_of_conH (conH_of_W tok Tryz.func20 rfl rfl ?_)
      refine W_x tok mixed ?_
      simp -implicitDefEqProofs -dsimp [Tryz.f20, List.replicate, encTb, LS, LR, LC, LF]
      refine (callP (c1) (by simp)).mono ?_
      rintro r H' ⟨rfl, rfl⟩
      simp -implicitDefEqProofs -dsimp []
      refine (callP (c2) (by simp)).mono ?_
      rintro r H' ⟨rfl, rfl⟩
      simp -implicitDefEqProofs -dsimp []
  · rw [if_neg h]
    refine conP_of_conH (conH_of_W tok Tryz.func20 rfl rfl ?_)
    refine W_x tok mixed ?_
    simp -implicitDefEqProofs -dsimp [Tryz.f20, List.replicate, encTb, LS, LR, LC, LF]
    refine (callP (c1) (by simp)).mono ?_
    rintro r H' ⟨rfl, rfl⟩
    simp -implicitDefEqProofs -dsimp [h]
end Go.Proofs.YteijbpppalhihaaGreat
end

section
/- C3: what the evaluator of closed calls knows from elsewhere: comparison of strings, slices.Grow of nil; calls with a lent or a frozen list. Expanded by pp.py. -/
namespace Go.Proofs.YteijbpppalhihaaGreat
open Go Go.AM Go.RowKit
def ext : ExtF := fun f args H => match f, args with
  | 174, [.str a, .str b] => some (.int .i64 (cmpS a b), H)
  | 137, [.nilS, .int .i64 n] => if n = 0 then some (.nilS, H) else if 0 ≤ n ∧ n ≤ 1000000 then some (.buf H.length 0 0 0, H ++ [.buf 49 2 [] false]) else none
  | _, _ => none
theorem ext_ok : ExtOk Tryz.prog ext := fun f args H r H' h => by
  unfold ext at h
  split at h
  · cases h
    rename_i a b
    have := callP (H := H) (cmp_con a b) (by simp)
    simpa only [WCall, List.append_nil] using this
  · rename_i n
    split at h
    · rename_i h0
      subst h0
      cases h
      have := callP (H := H) grow_nil_C (by simp)
      simpa only [WCall, List.append_nil] using this
    split at h
    · rename_i hc
      cases h
      have := callO (H := H) (grow_con_C n.toNat (by omega)) (by simp)
      rw [Int.toNat_of_nonneg hc.1] at this
      have h2 := WCall.mono this (K' := fun x y => x = .buf H.length 0 0 0 ∧ y = H ++ [.buf 49 2 [] false]) (by
        rintro r H' ⟨e, z, xs, rfl, rfl, _, rfl, rfl, rfl⟩
        exact ⟨rfl, rfl⟩)
      simpa only [WCall, List.append_nil] using h2
    · cases h
  · cases h
theorem allNamed : (Tryz.prog.funcs.toList.all fun fn => !(fn.name == "runtime.NumGoroutine")) = true := by kernel_rfl
theorem named : ∀ (f : Nat) (fn : Func), Tryz.prog.funcs[f]? = some fn → (fn.name == "runtime.NumGoroutine") = false := fun f fn h => by
  have := List.all_eq_true.1 allNamed fn (by rw [Array.mem_toList_iff]; exact Array.mem_of_getElem? h)
  simpa using this
/-- The one argument that is an own list, where the others are as they are asked for. -/
def buf1 (H : List B) : List V → List V → Option (Nat × Nat × Nat × List V)
  | a :: as', b :: bs => if eqV 40 a b = true then buf1 H as' bs else match a with
    | .buf k 0 n m => match H[k]? with
      | some (.buf e z xs _) => if n = xs.length ∧ m = xs.length ∧ eqV 40 (.lst z false xs) b = true ∧ eqL (eqV 40) as' bs = true then some (k, e, z, xs) else none
      | _ => none
    | _ => none
  | _, _ => none
theorem repF_refl (p q : V) : ∀ xs : List V, RepF p q xs xs
  | [] => trivial
  | _ :: xs => ⟨.inl rfl, repF_refl p q xs⟩
theorem buf1_ok {H : List B} : ∀ {args ga : List V} {k e z : Nat} {xs : List V}, buf1 H args ga = some (k, e, z, xs) → (∃ fz, H[k]? = some (.buf e z xs fz)) ∧ RepF (.buf k 0 xs.length xs.length) (.lst z false xs) args ga
  | [], _, _, _, _, _, h => by simp [buf1] at h
  | _ :: _, [], _, _, _, _, h => by simp [buf1] at h
  | a :: as', b :: bs, k, e, z, xs, h => by
    unfold buf1 at h
    split at h
    · rename_i he
      obtain ⟨h1, h2⟩ := buf1_ok h
      exact ⟨h1, .inl (eqV_eq _ _ _ he).symm, h2⟩
    · split at h
      · rename_i k' n m
        split at h
        · rename_i e' z' xs' fz hk
          split at h
          · rename_i hc
            obtain ⟨rfl, rfl, h3, h4⟩ := hc
            cases h
            refine ⟨⟨fz, hk⟩, .inr ⟨rfl, (eqV_eq _ _ _ h3).symm⟩, ?_⟩
            rw [eqL_eq (eqV_eq 40) h4]
            exact repF_refl _ _ _
          · cases h
        · cases h
      · cases h
def extS (g : FuncId) (ga : List V) (gr : V) (ext : ExtF) : ExtF := fun f args H => if Nat.beq f g then (if eqL (eqV 40) args ga then some (gr, H) else match buf1 H args ga with
  | some _ => some (gr, H)
  | none => ext f args H) else ext f args H
def extZ (g : FuncId) (ga : List V) (gr : V) (ext : ExtF) : ExtF := fun f args H => if Nat.beq f g then (if eqL (eqV 40) args ga then some (gr, H) else match buf1 H args ga with
  | some (k, e, z, xs) => some (gr, H.set k (.buf e z xs true))
  | none => ext f args H) else ext f args H
theorem pure_of_lst {z : Nat} {f : Bool} {xs : List V} (h : AM.Pure (.lst z f xs)) : ∀ x ∈ xs, AM.Pure x := by cases h; assumption
theorem extS_ok {ext : ExtF} (he : ExtOk Tryz.prog ext) {g : FuncId} {ga : List V} {gr : V} (hc : ConP Tryz.prog g ga fun x => x = gr) (hq : ∀ a ∈ ga, AM.Pure a) (hs : Scalar gr) : ExtOk Tryz.prog (extS g ga gr ext) := fun f args H r H' h => by
  unfold extS at h
  split at h
  · rename_i hf
    have hfg : f = g := Nat.eq_of_beq_eq_true hf
    subst hfg
    split at h
    · rename_i ha
      have ha := eqL_eq (eqV_eq 40) ha
      cases h
      subst ha
      have := callP (H := H) hc hq
      simpa only [WCall, List.append_nil] using this
    · split at h
      · rename_i o ho
        obtain ⟨k, e, z, xs⟩ := o
        cases h
        obtain ⟨⟨fz, hk⟩, hr⟩ := buf1_ok ho
        have := callX (H := H) (args := args) hc hr.len (fun i a a' h1 h2 => by
          have hp := hq a' (List.mem_of_getElem? h2)
          rcases hr.at_ i a a' h1 h2 with rfl | ⟨rfl, rfl⟩
          · exact .pure _ hp
          · exact exp_buf hk rfl (pure_of_lst hp)) hs
        simpa only [WCall, List.append_nil] using this
      · exact he f args H r H' h
  · exact he f args H r H' h
theorem extZ_ok {ext : ExtF} (he : ExtOk Tryz.prog ext) {g : FuncId} {ga : List V} {gr : V} (hc : ConP Tryz.prog g ga fun x => x = gr) (hq : ∀ a ∈ ga, AM.Pure a) : ExtOk Tryz.prog (extZ g ga gr ext) := fun f args H r H' h => by
  unfold extZ at h
  split at h
  · rename_i hf
    have hfg : f = g := Nat.eq_of_beq_eq_true hf
    subst hfg
    split at h
    · rename_i ha
      have ha := eqL_eq (eqV_eq 40) ha
      cases h
      subst ha
      have := callP (H := H) hc hq
      simpa only [WCall, List.append_nil] using this
    · split at h
      · rename_i k e z xs ho
        cases h
        obtain ⟨⟨fz, hk⟩, hr⟩ := buf1_ok ho
        have := callF (H := H) (args := args) k hk hc hr hq
        simpa only [WCall, List.append_nil] using this
      · exact he f args H r H' h
  · exact he f args H r H' h
end Go.Proofs.YteijbpppalhihaaGreat
end

section
/- C4a: the example of the chapter, its calls by evaluation. Printed by mkclosed2.py. -/
set_option linter.unusedSimpArgs false
namespace Go.Proofs.YteijbpppalhihaaGreat
open Go Go.AM
def clA52 : List V := [.agg [.str ⟨#[114]⟩, .lst 1 true [.str ⟨#[97]⟩, .str ⟨#[98]⟩], .lst 2 false [.agg [.int .i64 1, .lst 3 false [.agg [.int .i64 1, .int .i64 1, .str ⟨#[]⟩], .agg [.int .i64 1, .int .i64 1, .str ⟨#[]⟩]]], .agg [.int .i64 2, .lst 3 false [.agg [.int .i64 1, .int .i64 1, .str ⟨#[]⟩], .agg [.int .i64 1, .int .i64 2, .str ⟨#[]⟩]]]]], .lst 2 true [.agg [.int .u32 1, .int .u32 2]], .lst 2 false [.agg [.int .i64 2, .int .i64 1]]]
def clR52 : V := .tup [.agg [.str ⟨#[114]⟩, .lst 1 false [.str ⟨#[97]⟩, .str ⟨#[98]⟩], .lst 2 false [.agg [.int .i64 1, .lst 3 false [.agg [.int .i64 1, .int .i64 1, .str ⟨#[]⟩], .agg [.int .i64 1, .int .i64 1, .str ⟨#[]⟩]]], .agg [.int .i64 2, .lst 3 false [.agg [.int .i64 1, .int .i64 1, .str ⟨#[]⟩], .agg [.int .i64 1, .int .i64 1, .str ⟨#[]⟩]]]]], .int .i64 0]
theorem clP52 : AM.Pure clR52 := by simp [clR52]
theorem clQ52 : ∀ a ∈ clA52, AM.Pure a := by simp [clA52]
theorem cl52 : ConP Tryz.prog 22 clA52 fun x => x = clR52 := closed_conT tok mixed named ext_ok (fuel := 1000) (d := 40) (by kernel_rfl) clP52
def clA39 : List V := [.agg [.str ⟨#[114]⟩, .lst 1 true [.str ⟨#[97]⟩, .str ⟨#[98]⟩], .lst 2 false [.agg [.int .i64 1, .lst 3 false [.agg [.int .i64 1, .int .i64 1, .str ⟨#[]⟩], .agg [.int .i64 1, .int .i64 1, .str ⟨#[]⟩]]], .agg [.int .i64 2, .lst 3 false [.agg [.int .i64 1, .int .i64 1, .str ⟨#[]⟩], .agg [.int .i64 1, .int .i64 2, .str ⟨#[]⟩]]]]], .lst 2 true [.agg [.int .u32 0, .int .u32 2]], .lst 2 false [.agg [.int .i64 1, .int .i64 0], .agg [.int .i64 2, .int .i64 0]]]
def clR39 : V := .bool false
theorem clP39 : AM.Pure clR39 := by simp [clR39]
theorem clQ39 : ∀ a ∈ clA39, AM.Pure a := by simp [clA39]
theorem cl39 : ConP Tryz.prog 44 clA39 fun x => x = clR39 := closed_conT tok mixed named ext_ok (fuel := 1000) (d := 40) (by kernel_rfl) clP39
def clA19 : List V := [.agg [.str ⟨#[114]⟩, .lst 1 true [.str ⟨#[97]⟩, .str ⟨#[98]⟩], .lst 2 false [.agg [.int .i64 1, .lst 3 false [.agg [.int .i64 1, .int .i64 1, .str ⟨#[]⟩], .agg [.int .i64 1, .int .i64 1, .str ⟨#[]⟩]]], .agg [.int .i64 2, .lst 3 false [.agg [.int .i64 1, .int .i64 1, .str ⟨#[]⟩], .agg [.int .i64 1, .int .i64 2, .str ⟨#[]⟩]]]]], .lst 2 false [.agg [.int .i64 1, .int .i64 0], .agg [.int .i64 1, .int .i64 1], .agg [.int .i64 2, .int .i64 1]]]
def clR19 : V := .lst 2 false [.agg [.int .i64 2, .int .i64 0]]
theorem clP19 : AM.Pure clR19 := by simp [clR19]
theorem clQ19 : ∀ a ∈ clA19, AM.Pure a := by simp [clA19]
theorem cl19 : ConP Tryz.prog 66 clA19 fun x => x = clR19 := closed_conT tok mixed named ext_ok (fuel := 1000) (d := 40) (by kernel_rfl) clP19
def clA11 : List V := [.agg [.str ⟨#[114]⟩, .lst 1 true [.str ⟨#[97]⟩, .str ⟨#[98]⟩], .lst 2 false [.agg [.int .i64 1, .lst 3 false [.agg [.int .i64 1, .int .i64 1, .str ⟨#[]⟩], .agg [.int .i64 1, .int .i64 1, .str ⟨#[]⟩]]], .agg [.int .i64 2, .lst 3 false [.agg [.int .i64 1, .int .i64 1, .str ⟨#[]⟩], .agg [.int .i64 1, .int .i64 2, .str ⟨#[]⟩]]]]], .lst 2 false [.agg [.int .i64 1, .int .i64 1], .agg [.int .i64 2, .int .i64 0], .agg [.int .i64 2, .int .i64 1]]]
def clR11 : V := .lst 2 false [.agg [.int .i64 1, .int .i64 0]]
theorem clP11 : AM.Pure clR11 := by simp [clR11]
theorem clQ11 : ∀ a ∈ clA11, AM.Pure a := by simp [clA11]
theorem cl11 : ConP Tryz.prog 66 clA11 fun x => x = clR11 := closed_conT tok mixed named ext_ok (fuel := 1000) (d := 40) (by kernel_rfl) clP11
def clA15 : List V := [.agg [.str ⟨#[114]⟩, .lst 1 true [.str ⟨#[97]⟩, .str ⟨#[98]⟩], .lst 2 false [.agg [.int .i64 1, .lst 3 false [.agg [.int .i64 1, .int .i64 1, .str ⟨#[]⟩], .agg [.int .i64 1, .int .i64 1, .str ⟨#[]⟩]]], .agg [.int .i64 2, .lst 3 false [.agg [.int .i64 1, .int .i64 1, .str ⟨#[]⟩], .agg [.int .i64 1, .int .i64 2, .str ⟨#[]⟩]]]]], .lst 2 false [.agg [.int .i64 1, .int .i64 0], .agg [.int .i64 2, .int .i64 0], .agg [.int .i64 2, .int .i64 1]]]
def clR15 : V := .lst 2 false [.agg [.int .i64 1, .int .i64 1]]
theorem clP15 : AM.Pure clR15 := by simp [clR15]
theorem clQ15 : ∀ a ∈ clA15, AM.Pure a := by simp [clA15]
theorem cl15 : ConP Tryz.prog 66 clA15 fun x => x = clR15 := closed_conT tok mixed named ext_ok (fuel := 1000) (d := 40) (by kernel_rfl) clP15
def clA23 : List V := [.agg [.str ⟨#[114]⟩, .lst 1 true [.str ⟨#[97]⟩, .str ⟨#[98]⟩], .lst 2 false [.agg [.int .i64 1, .lst 3 false [.agg [.int .i64 1, .int .i64 1, .str ⟨#[]⟩], .agg [.int .i64 1, .int .i64 1, .str ⟨#[]⟩]]], .agg [.int .i64 2, .lst 3 false [.agg [.int .i64 1, .int .i64 1, .str ⟨#[]⟩], .agg [.int .i64 1, .int .i64 2, .str ⟨#[]⟩]]]]], .lst 2 false [.agg [.int .i64 1, .int .i64 0], .agg [.int .i64 1, .int .i64 1], .agg [.int .i64 2, .int .i64 0]]]
def clR23 : V := .lst 2 false [.agg [.int .i64 2, .int .i64 1]]
theorem clP23 : AM.Pure clR23 := by simp [clR23]
theorem clQ23 : ∀ a ∈ clA23, AM.Pure a := by simp [clA23]
theorem cl23 : ConP Tryz.prog 66 clA23 fun x => x = clR23 := closed_conT tok mixed named ext_ok (fuel := 1000) (d := 40) (by kernel_rfl) clP23
def clA8 : List V := [.agg [.str ⟨#[114]⟩, .lst 1 true [.str ⟨#[97]⟩, .str ⟨#[98]⟩], .lst 2 false [.agg [.int .i64 1, .lst 3 false [.agg [.int .i64 1, .int .i64 1, .str ⟨#[]⟩], .agg [.int .i64 1, .int .i64 1, .str ⟨#[]⟩]]], .agg [.int .i64 2, .lst 3 false [.agg [.int .i64 1, .int .i64 1, .str ⟨#[]⟩], .agg [.int .i64 1, .int .i64 2, .str ⟨#[]⟩]]]]], .lst 2 true [.agg [.int .u32 1, .int .u32 2]], .nilS]
def clR8 : V := .bool false
theorem clP8 : AM.Pure clR8 := by simp [clR8]
theorem clQ8 : ∀ a ∈ clA8, AM.Pure a := by simp [clA8]
theorem cl8 : ConP Tryz.prog 44 clA8 fun x => x = clR8 := closed_conT tok mixed named ext_ok (fuel := 1000) (d := 40) (by kernel_rfl) clP8
def clA42 : List V := [.agg [.str ⟨#[114]⟩, .lst 1 true [.str ⟨#[97]⟩, .str ⟨#[98]⟩], .lst 2 false [.agg [.int .i64 1, .lst 3 false [.agg [.int .i64 1, .int .i64 1, .str ⟨#[]⟩], .agg [.int .i64 1, .int .i64 1, .str ⟨#[]⟩]]], .agg [.int .i64 2, .lst 3 false [.agg [.int .i64 1, .int .i64 1, .str ⟨#[]⟩], .agg [.int .i64 1, .int .i64 2, .str ⟨#[]⟩]]]]], .lst 2 false [.agg [.int .i64 1, .int .i64 1]]]
def clR42 : V := .lst 2 false [.agg [.int .i64 1, .int .i64 0], .agg [.int .i64 2, .int .i64 0], .agg [.int .i64 2, .int .i64 1]]
theorem clP42 : AM.Pure clR42 := by simp [clR42]
theorem clQ42 : ∀ a ∈ clA42, AM.Pure a := by simp [clA42]
theorem cl42 : ConP Tryz.prog 66 clA42 fun x => x = clR42 := closed_conT tok mixed named ext_ok (fuel := 1000) (d := 40) (by kernel_rfl) clP42
def clA1 : List V := [.agg [.str ⟨#[114]⟩, .lst 1 true [.str ⟨#[97]⟩, .str ⟨#[98]⟩], .lst 2 false [.agg [.int .i64 1, .lst 3 false [.agg [.int .i64 1, .int .i64 1, .str ⟨#[]⟩], .agg [.int .i64 1, .int .i64 1, .str ⟨#[]⟩]]], .agg [.int .i64 2, .lst 3 false [.agg [.int .i64 1, .int .i64 1, .str ⟨#[]⟩], .agg [.int .i64 1, .int .i64 2, .str ⟨#[]⟩]]]]], .lst 2 true [.agg [.int .u32 1, .int .u32 2]], .lst 2 true [.agg [.int .i64 1, .int .i64 1]]]
def clR1 : V := .int .i64 0
theorem clP1 : AM.Pure clR1 := by simp [clR1]
theorem clQ1 : ∀ a ∈ clA1, AM.Pure a := by simp [clA1]
theorem cl1 : ConP Tryz.prog 43 clA1 fun x => x = clR1 := closed_conT tok mixed named ext_ok (fuel := 1000) (d := 40) (by kernel_rfl) clP1
def clA47 : List V := [.agg [.str ⟨#[114]⟩, .lst 1 true [.str ⟨#[97]⟩, .str ⟨#[98]⟩], .lst 2 false [.agg [.int .i64 1, .lst 3 false [.agg [.int .i64 1, .int .i64 1, .str ⟨#[]⟩], .agg [.int .i64 1, .int .i64 1, .str ⟨#[]⟩]]], .agg [.int .i64 2, .lst 3 false [.agg [.int .i64 1, .int .i64 1, .str ⟨#[]⟩], .agg [.int .i64 1, .int .i64 2, .str ⟨#[]⟩]]]]], .lst 2 true [.agg [.int .u32 1, .int .u32 2]], .nilS]
def clR47 : V := .int .i64 0
theorem clP47 : AM.Pure clR47 := by simp [clR47]
theorem clQ47 : ∀ a ∈ clA47, AM.Pure a := by simp [clA47]
theorem cl47 : ConP Tryz.prog 43 clA47 fun x => x = clR47 := closed_conT tok mixed named ext_ok (fuel := 1000) (d := 40) (by kernel_rfl) clP47
end Go.Proofs.YteijbpppalhihaaGreat
end
