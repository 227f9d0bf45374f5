/- W13: slices.Clone of numbers. Expanded by pp.py. -/
import Derived.Test.YtfaleabndlcanaaGreatDoorW12
import Derived.WalkSpells
import Derived.WalkLawsBesides
import Derived.Lib.Hide
import Derived.Maps.AppendAt
set_option linter.unusedSimpArgs false
set_option maxRecDepth 100000
namespace Go.Proofs.YtfaleabndlcanaaGreatDoor
open Go Go.AM Go.RowKit
theorem infoC2 : (Tryz.prog.info? 2).map (fun i => (i.zero, i.size, i.bytes)) = some (some (.int .i64 0), 1, 8) := by kernel_rfl
set_option maxHeartbeats 400000 in
theorem cloneE (A : Option Addr) (cap : Nat) (w : World) :
    Calls Tryz.prog 18 #[.slice A 0 cap] w fun e w' => ∃ v, e = .returned v ∧ w'.ownsRow w.heap.size 2 1 v 0 [] ∧ Below w.heap.size w w' := by
  have hnil := fun W A n c => Lib.run_eql_slice_nil (P := Tryz.prog) W 46 2 A n c 0 0 Tryz.underlying46
  cases A with
  | none =>
    go_enter Tryz.func18, Tryz.ntmps18
    go_wp2
    go_ret
    exact ⟨_, rfl, World.ownsRow_nil _ _ _ _, Below.refl _ _⟩
  | some ad =>
    obtain ⟨i0, hi, hz0, hz1, hz2⟩ := info_parts infoC2
    have hown : (w.alloc (.cells #[] 2)).ownsRow w.heap.size 2 1 (.slice (some ⟨w.heap.size, 0, none⟩) 0 0) 0 [] := World.ownsRow_lit w #[] 0 (Nat.le_refl _) (by simp [maxLen]) (by simp)
    have hnews : ∀ j u, ([] : List Value)[j]? = some u → (w.alloc (.cells #[] 2)).cell? (ad.add j) = some u := by
      intro j u hu
      simp at hu
    have hone : ∀ u ∈ ([] : List Value), u.oneCell' = true := by intro u hu; cases hu
    have h63 : 0 + 0 ≤ maxLen := by simp [maxLen]
    have hby : (0 + 0) * 8 ≤ 140737488355328 := by omega
    have hlen : ([] : List Value).length = 0 * 1 := by simp
    have Hi := Lib.hid (show Tryz.prog.info? 2 = some i0 ∧ i0.zero = some _ ∧ i0.size = 1 ∧ i0.bytes = 8 from ⟨hi, hz0, hz1, hz2⟩)
    have Hw := Lib.hid (And.intro hown (And.intro hnews (And.intro hone (And.intro h63 (And.intro hby hlen)))))
    clear hnews hone hown hi hz0 hz1 hz2 h63 hby hlen
    go_enter Tryz.func18, Tryz.ntmps18
    go_wp2_with (at_builtin; refine wpList_append_own _ rfl _ _ 46 rfl w.heap.size 2 i0 _ 1 8 Tryz.underlying46 Hi.out.1 Hi.out.2.1 Hi.out.2.2.1 Hi.out.2.2.2 rfl (by omega) (.slice (some ⟨w.heap.size, 0, none⟩) 0 0) 0 [] rfl Hw.out.1 ad 0 cap [] rfl Hw.out.2.2.2.2.2 Hw.out.2.1 Hw.out.2.2.1 Hw.out.2.2.2.1 Hw.out.2.2.2.2.1 (by simp) ?_; intro v1 w1 ho hg hn; have Ho := Lib.hid ho; have Hg := Lib.hid hg; have Hn := Lib.hid hn; clear ho hg hn)
    go_ret
    exact ⟨v1, rfl, by have := Ho.out; simpa using this, ((Below.refl _ _).alloc (Nat.le_refl _) _).grown Hg.out (by simp) (by simp [Value.ownBlock])⟩
theorem conO_own {f : FuncId} {args : List V} {e : Nat} (hE : AM.Enters Tryz.prog f) (h : ∀ (F : Nat → Prop) (w : World) (vals : Array Value), vals.size = args.length → (∀ (i : Nat) a u, args[i]? = some a → vals[i]? = some u → Rel (AM.base F w) a u) →
    Calls Tryz.prog f vals w fun e' w' => ∃ v, e' = .returned v ∧ w'.ownsRow w.heap.size e 1 v 0 [] ∧ Below w.heap.size w w') : ConO Tryz.prog f args fun e' z ys => e' = e ∧ z = 1 ∧ ys = [] := by
  refine ⟨hE, fun F w vals hZ hF hsz hrel => (h F w vals hsz hrel).mono fun e' w' ⟨v, he, hown, hb⟩ => ?_⟩
  obtain ⟨_, ⟨hv, _⟩ | ⟨g, c, cur, hv, hg, hc, hn, hm, hs, _⟩⟩ := hown
  · have hF' : ∀ b, F b → b < w'.heap.size := fun b hb' => Nat.lt_of_lt_of_le (hF b hb') hb.size
    obtain ⟨p1, _⟩ := push0 (AM.base_good hF') (w := w') 0 e 1 false rfl rfl rfl (Nat.le_refl _) (fun _ _ => rfl)
    refine ⟨v, e, 1, [], none, 0, 0, he, hv, fun h => absurd rfl h, by simp, fun h => absurd rfl h, ?_, hb, rfl, rfl, rfl⟩
    refine ⟨hF', fun k hk => absurd (hk.2 e 1 [] false (by have := hk.1; simp at this; subst this; rfl)) (by simp), fun j k hj hk _ => by have := hj.1; have := hk.1; simp at *; omega, fun k bl hk => ?_⟩
    have hk0 : k = 0 := by have := getElem?_lt hk; simp at this; omega
    subst hk0
    simp at hk
    subst hk
    exact ⟨#[], fun h => absurd rfl h, by simp, by simp, by simp [maxLen], (fun x hx => by cases hx), (fun i x j c u hx => by simp at hx)⟩
  · have hF' : ∀ b, F b → b < w'.heap.size := fun b hb' => Nat.lt_of_lt_of_le (hF b hb') hb.size
    refine ⟨v, e, 1, [], some ⟨g, 0, none⟩, g, c, he, hv, fun _ => rfl, by simp, fun _ => hg, ?_, hb, rfl, rfl, rfl⟩
    refine ⟨hF', fun k hk => ⟨(Array.getElem?_eq_some_iff.1 hc).1, fun hf => by have := hF g hf; omega⟩, fun j k hj hk _ => by have := hj.1; have := hk.1; simp at *; omega, fun k bl hk => ?_⟩
    have hk0 : k = 0 := by have := getElem?_lt hk; simp at this; omega
    subst hk0
    simp at hk
    subst hk
    exact ⟨cur, fun _ => hc, by simpa using hs, by simp, hm, (fun x hx => by cases hx), (fun i x j c u hx => by simp at hx)⟩
set_option maxHeartbeats 4000000 in
theorem clone64 (xs : List Int) (f : Bool) (hl : xs.length ≤ 1000000) : ConO Tryz.prog 18 [L1 f xs] fun e z ys => e = 2 ∧ z = 1 ∧ ys = xs.map encI := by
  cases xs with
  | nil =>
    refine conO_own ⟨Tryz.f18, Tryz.func18, rfl, rfl⟩ (fun F w vals hsz hrel => ?_)
    obtain ⟨u0, rfl⟩ : ∃ u0, vals = #[u0] := by
      obtain ⟨l⟩ := vals
      match l, hsz with
      | [a], _ => exact ⟨a, rfl⟩
    have r0 := hrel 0 _ u0 rfl rfl
    simp only [L1, List.map_nil] at r0
    cases r0
    exact cloneE _ _ _
  | cons x xs =>
    have hl' : xs.length ≤ 1000000 := by simp only [List.length_cons] at hl; omega
    refine conO_of_conH (conH_of_W tok Tryz.func18 rfl rfl ?_)
    refine W_x tok mixed ?_
    simp -implicitDefEqProofs -dsimp [Tryz.f18, List.replicate, L1, eqA2, cap8 xs.length (by omega)]
    exact ⟨0, 2, 1, encI x :: xs.map encI, by simp, rfl, by simp, rfl, rfl, rfl⟩
theorem clone64p (xs : List Int) (f : Bool) (hl : xs.length ≤ 1000000) : ConP Tryz.prog 18 [L1 f xs] fun r => r = L1 false xs :=
  ⟨(clone64 xs f hl).1, fun F w vals hZ hF hsz hrel => ((conP_of_conO (clone64 xs f hl)).2 F w vals hZ hF hsz hrel).mono fun e w' ⟨u, r, h1, h2, h3, h4, e', z, ys, h5, h6, h7, h8⟩ => by
    subst h6; subst h7; subst h8
    exact ⟨u, r, h1, h2, h3, h4, h5⟩⟩
end Go.Proofs.YtfaleabndlcanaaGreatDoor
