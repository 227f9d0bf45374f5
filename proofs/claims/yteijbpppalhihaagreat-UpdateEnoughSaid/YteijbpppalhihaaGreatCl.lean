/- Cl: slices.Clone at the instances of this seat. Printed by genCl.py, expanded by pp.py. -/
import Derived.Test.YteijbpppalhihaaGreatX4
import Derived.Test.YteijbpppalhihaaGreatGr
import Derived.WalkSpells
import Derived.WalkLawsBesides
import Derived.Lib.Hide
import Derived.Maps.AppendAt
set_option linter.unusedVariables false
set_option linter.unusedSimpArgs false
set_option maxRecDepth 100000
namespace Go.Proofs.YteijbpppalhihaaGreat
open Go Go.AM Go.RowKit
theorem conO_row0 {f : FuncId} {args : List V} {e z : Nat} (hE : AM.Enters Tryz.prog f) (h : ∀ (F : Nat → Prop) (w : World) (vals : Array Value), vals.size = args.length → (∀ (i : Nat) a u, args[i]? = some a → vals[i]? = some u → Rel (AM.base F w) a u) →
    Calls Tryz.prog f vals w fun e' w' => ∃ v, e' = .returned v ∧ Below w.heap.size w w' ∧ (v = .slice none 0 0 ∨ ∃ g c cur, v = .slice (some ⟨g, 0, none⟩) 0 c ∧ w.heap.size ≤ g ∧ w'.heap[g]? = some (.cells cur e (0, 0)) ∧ c ≤ maxLen ∧ cur.size = c * z)) : ConO Tryz.prog f args fun e' z' ys => e' = e ∧ z' = z ∧ ys = [] := by
  refine ⟨hE, fun F w vals hZ hF hsz hrel => (h F w vals hsz hrel).mono fun e' w' ⟨v, he, hb, hv⟩ => ?_⟩
  rcases hv with hv | ⟨g, c, cur, hv, hg, hc, hm, hs⟩
  · have hF' : ∀ b, F b → b < w'.heap.size := fun b hb' => Nat.lt_of_lt_of_le (hF b hb') hb.size
    obtain ⟨p1, _⟩ := push0 (AM.base_good hF') (w := w') 0 e z false rfl rfl rfl (Nat.le_refl _) (fun _ _ => rfl)
    refine ⟨v, e, z, [], none, 0, 0, he, hv, fun h => absurd rfl h, by simp, fun h => absurd rfl h, ?_, hb, rfl, rfl, rfl⟩
    refine ⟨hF', fun k hk => absurd (hk.2 e z [] false (by have := hk.1; simp at this; subst this; rfl)) (by simp), fun j k hj hk _ => by have := hj.1; have := hk.1; simp at *; omega, fun k bl hk => ?_⟩
    have hk0 : k = 0 := by have := getElem?_lt hk; simp at this; omega
    subst hk0
    simp at hk
    subst hk
    exact ⟨#[], fun h => absurd rfl h, by simp, by simp, by simp [maxLen], (fun x hx => by cases hx), (fun i x j c u hx => by simp at hx)⟩
  · have hF' : ∀ b, F b → b < w'.heap.size := fun b hb' => Nat.lt_of_lt_of_le (hF b hb') hb.size
    refine ⟨v, e, z, [], some ⟨g, 0, none⟩, g, c, he, hv, fun _ => rfl, by simp, fun _ => hg, ?_, hb, rfl, rfl, rfl⟩
    refine ⟨hF', fun k hk => ⟨(Array.getElem?_eq_some_iff.1 hc).1, fun hf => by have := hF g hf; omega⟩, fun j k hj hk _ => by have := hj.1; have := hk.1; simp at *; omega, fun k bl hk => ?_⟩
    have hk0 : k = 0 := by have := getElem?_lt hk; simp at this; omega
    subst hk0
    simp at hk
    subst hk
    exact ⟨cur, fun _ => hc, by simpa using hs, by simp, hm, (fun x hx => by cases hx), (fun i x j c u hx => by simp at hx)⟩
theorem infoD_C : (Tryz.prog.info? 49).map (fun i => (i.zero, i.size, i.bytes)) = some (some (.agg #[.int .i64 0, .int .i64 0]), 2, 16) := by kernel_rfl
set_option maxHeartbeats 400000 in
theorem cloneE_C (A : Option Addr) (cap : Nat) (w : World) :
    Calls Tryz.prog 16 #[.slice A 0 cap] w fun e w' => ∃ v, e = .returned v ∧ w'.ownsRow w.heap.size 49 2 v 0 [] ∧ Below w.heap.size w w' := by
  have hnil := fun W A n c => Lib.run_eql_slice_nil (P := Tryz.prog) W 37 49 A n c 0 0 Tryz.underlying37
  cases A with
  | none =>
    go_enter Tryz.func16, Tryz.ntmps16
    go_wp2
    go_ret
    exact ⟨_, rfl, World.ownsRow_nil _ _ _ _, Below.refl _ _⟩
  | some ad =>
    obtain ⟨i0, hi, hz0, hz1, hz2⟩ := info_parts infoD_C
    have hown : (w.alloc (.cells #[] 49)).ownsRow w.heap.size 49 2 (.slice (some ⟨w.heap.size, 0, none⟩) 0 0) 0 [] := World.ownsRow_lit w #[] 0 (Nat.le_refl _) (by simp [maxLen]) (by simp)
    have hnews : ∀ j u, ([] : List Value)[j]? = some u → (w.alloc (.cells #[] 49)).cell? (ad.add j) = some u := by
      intro j u hu
      simp at hu
    have hone : ∀ u ∈ ([] : List Value), u.oneCell' = true := by intro u hu; cases hu
    have h63 : 0 + 0 ≤ maxLen := by simp [maxLen]
    have hby : (0 + 0) * 16 ≤ 140737488355328 := by omega
    have hlen : ([] : List Value).length = 0 * 2 := by simp
    have Hi := Lib.hid (show Tryz.prog.info? 49 = some i0 ∧ i0.zero = some _ ∧ i0.size = 2 ∧ i0.bytes = 16 from ⟨hi, hz0, hz1, hz2⟩)
    have Hw := Lib.hid (And.intro hown (And.intro hnews (And.intro hone (And.intro h63 (And.intro hby hlen)))))
    clear hnews hone hown hi hz0 hz1 hz2 h63 hby hlen
    go_enter Tryz.func16, Tryz.ntmps16
    go_wp2_with (at_builtin; refine wpList_append_own _ rfl _ _ 37 rfl w.heap.size 49 i0 _ 2 16 Tryz.underlying37 Hi.out.1 Hi.out.2.1 Hi.out.2.2.1 Hi.out.2.2.2 rfl (by omega) (.slice (some ⟨w.heap.size, 0, none⟩) 0 0) 0 [] rfl Hw.out.1 ad 0 cap [] rfl Hw.out.2.2.2.2.2 Hw.out.2.1 Hw.out.2.2.1 Hw.out.2.2.2.1 Hw.out.2.2.2.2.1 (by simp) ?_; intro v1 w1 ho hg hn; have Ho := Lib.hid ho; have Hg := Lib.hid hg; have Hn := Lib.hid hn; clear ho hg hn)
    go_ret
    exact ⟨v1, rfl, by have := Ho.out; simpa using this, ((Below.refl _ _).alloc (Nat.le_refl _) _).grown Hg.out (by simp) (by simp [Value.ownBlock])⟩
theorem cloneN_C : ∀ (f : Bool), ConP Tryz.prog 16 [.lst 2 f []] fun r => r = .lst 2 false [] := fun f => by
  have hO : ConO Tryz.prog 16 [.lst 2 f []] fun e z ys => e = 49 ∧ z = 2 ∧ ys = [] := conO_row0 ⟨Tryz.f16, Tryz.func16, rfl, rfl⟩ (fun F w vals hsz hrel => by
    obtain ⟨u0, rfl⟩ : ∃ u0, vals = #[u0] := by
      obtain ⟨l⟩ := vals
      match l, hsz with
      | [a], _ => exact ⟨a, rfl⟩
    have r0 := hrel 0 _ u0 rfl rfl
    cases r0
    refine (cloneE_C _ _ _).mono fun e' w' ⟨v, he, hown, hb⟩ => ⟨v, he, hb, ?_⟩
    obtain ⟨_, ⟨hv, _⟩ | ⟨g, c, cur, hv, hg, hc, hn, hm, hs, _⟩⟩ := hown
    · exact .inl hv
    · exact .inr ⟨g, c, cur, hv, hg, hc, hm, hs⟩)
  refine ⟨hO.1, fun F w vals hZ hF hsz hrel => ((conP_of_conO hO).2 F w vals hZ hF hsz hrel).mono fun e w' ⟨u, r, h1, h2, h3, h4, e', z, ys, h5, h6, h7, h8⟩ => ?_⟩
  subst h6; subst h7; subst h8
  exact ⟨u, r, h1, h2, h3, h4, h5⟩
set_option maxHeartbeats 4000000 in
theorem clone_C (l : List Cr) (f : Bool) (hl : l.length ≤ 1000000) : ConP Tryz.prog 16 [LC f l] fun r => r = LC false l := by
  cases l with
  | nil => exact cloneN_C f
  | cons x xs =>
    have hl' : xs.length ≤ 1000000 := by simp only [List.length_cons] at hl; omega
    refine conP_of_conH (conH_of_W tok Tryz.func16 rfl rfl ?_)
    refine W_x tok mixed ?_
    simp -implicitDefEqProofs -dsimp [Tryz.f16, List.replicate, LC, eqA2, cap16 xs.length (by omega), encCr]
    exact exp_buf rfl (by simp) (by simp)
theorem infoD_F : (Tryz.prog.info? 46).map (fun i => (i.zero, i.size, i.bytes)) = some (some (.agg #[.int .u32 0, .int .u32 0]), 2, 8) := by kernel_rfl
set_option maxHeartbeats 400000 in
theorem cloneE_F (A : Option Addr) (cap : Nat) (w : World) :
    Calls Tryz.prog 15 #[.slice A 0 cap] w fun e w' => ∃ v, e = .returned v ∧ w'.ownsRow w.heap.size 46 2 v 0 [] ∧ Below w.heap.size w w' := by
  have hnil := fun W A n c => Lib.run_eql_slice_nil (P := Tryz.prog) W 33 46 A n c 0 0 Tryz.underlying33
  cases A with
  | none =>
    go_enter Tryz.func15, Tryz.ntmps15
    go_wp2
    go_ret
    exact ⟨_, rfl, World.ownsRow_nil _ _ _ _, Below.refl _ _⟩
  | some ad =>
    obtain ⟨i0, hi, hz0, hz1, hz2⟩ := info_parts infoD_F
    have hown : (w.alloc (.cells #[] 46)).ownsRow w.heap.size 46 2 (.slice (some ⟨w.heap.size, 0, none⟩) 0 0) 0 [] := World.ownsRow_lit w #[] 0 (Nat.le_refl _) (by simp [maxLen]) (by simp)
    have hnews : ∀ j u, ([] : List Value)[j]? = some u → (w.alloc (.cells #[] 46)).cell? (ad.add j) = some u := by
      intro j u hu
      simp at hu
    have hone : ∀ u ∈ ([] : List Value), u.oneCell' = true := by intro u hu; cases hu
    have h63 : 0 + 0 ≤ maxLen := by simp [maxLen]
    have hby : (0 + 0) * 8 ≤ 140737488355328 := by omega
    have hlen : ([] : List Value).length = 0 * 2 := by simp
    have Hi := Lib.hid (show Tryz.prog.info? 46 = some i0 ∧ i0.zero = some _ ∧ i0.size = 2 ∧ i0.bytes = 8 from ⟨hi, hz0, hz1, hz2⟩)
    have Hw := Lib.hid (And.intro hown (And.intro hnews (And.intro hone (And.intro h63 (And.intro hby hlen)))))
    clear hnews hone hown hi hz0 hz1 hz2 h63 hby hlen
    go_enter Tryz.func15, Tryz.ntmps15
    go_wp2_with (at_builtin; refine wpList_append_own _ rfl _ _ 33 rfl w.heap.size 46 i0 _ 2 8 Tryz.underlying33 Hi.out.1 Hi.out.2.1 Hi.out.2.2.1 Hi.out.2.2.2 rfl (by omega) (.slice (some ⟨w.heap.size, 0, none⟩) 0 0) 0 [] rfl Hw.out.1 ad 0 cap [] rfl Hw.out.2.2.2.2.2 Hw.out.2.1 Hw.out.2.2.1 Hw.out.2.2.2.1 Hw.out.2.2.2.2.1 (by simp) ?_; intro v1 w1 ho hg hn; have Ho := Lib.hid ho; have Hg := Lib.hid hg; have Hn := Lib.hid hn; clear ho hg hn)
    go_ret
    exact ⟨v1, rfl, by have := Ho.out; simpa using this, ((Below.refl _ _).alloc (Nat.le_refl _) _).grown Hg.out (by simp) (by simp [Value.ownBlock])⟩
theorem cloneN_F : ∀ (f : Bool), ConP Tryz.prog 15 [.lst 2 f []] fun r => r = .lst 2 false [] := fun f => by
  have hO : ConO Tryz.prog 15 [.lst 2 f []] fun e z ys => e = 46 ∧ z = 2 ∧ ys = [] := conO_row0 ⟨Tryz.f15, Tryz.func15, rfl, rfl⟩ (fun F w vals hsz hrel => by
    obtain ⟨u0, rfl⟩ : ∃ u0, vals = #[u0] := by
      obtain ⟨l⟩ := vals
      match l, hsz with
      | [a], _ => exact ⟨a, rfl⟩
    have r0 := hrel 0 _ u0 rfl rfl
    cases r0
    refine (cloneE_F _ _ _).mono fun e' w' ⟨v, he, hown, hb⟩ => ⟨v, he, hb, ?_⟩
    obtain ⟨_, ⟨hv, _⟩ | ⟨g, c, cur, hv, hg, hc, hn, hm, hs, _⟩⟩ := hown
    · exact .inl hv
    · exact .inr ⟨g, c, cur, hv, hg, hc, hm, hs⟩)
  refine ⟨hO.1, fun F w vals hZ hF hsz hrel => ((conP_of_conO hO).2 F w vals hZ hF hsz hrel).mono fun e w' ⟨u, r, h1, h2, h3, h4, e', z, ys, h5, h6, h7, h8⟩ => ?_⟩
  subst h6; subst h7; subst h8
  exact ⟨u, r, h1, h2, h3, h4, h5⟩
set_option maxHeartbeats 4000000 in
theorem clone_F (l : List Fd) (f : Bool) (hl : l.length ≤ 1000000) : ConP Tryz.prog 15 [LF f l] fun r => r = LF false l := by
  cases l with
  | nil => exact cloneN_F f
  | cons x xs =>
    have hl' : xs.length ≤ 1000000 := by simp only [List.length_cons] at hl; omega
    refine conP_of_conH (conH_of_W tok Tryz.func15 rfl rfl ?_)
    refine W_x tok mixed ?_
    simp -implicitDefEqProofs -dsimp [Tryz.f15, List.replicate, LF, eqA2, cap8 xs.length (by omega), encF]
    exact exp_buf rfl (by simp) (by simp)
end Go.Proofs.YteijbpppalhihaaGreat
