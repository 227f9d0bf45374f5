/- L10: the arguments of ClusterLeast, opened. -/
import Derived.Test.YtmjicfafjjgekaaL9
import Derived.Test.YtmjicfafjjgekaaAMf
namespace Go.Proofs.Ytmjicfafjjgekaa
open Go Go.AM Go.Dr
theorem gok54 (s : AM.St) : GOk Try.prog s := fun g hg => by
  rw [show Try.prog.globalNamed "math/bits.deBruijn32tab" = none by kernel_rfl] at hg
  cases hg
theorem cells_ok : ∀ t i, T t = some i → Try.prog.cellsOf t = i.size := fun t i hi => by
  obtain ⟨inf, h1, h2, _⟩ := tok.info t i hi
  simp [Program.cellsOf, h1, h2]
theorem list_map {α : Type} {enc : α → V} {p : α → Prop} : ∀ {xs : List V}, (∀ x ∈ xs, ∃ a, x = enc a ∧ p a) → ∃ ys : List α, xs = ys.map enc ∧ ∀ y ∈ ys, p y
  | [], _ => ⟨[], rfl, by simp⟩
  | x :: xs, h => by
    obtain ⟨a, rfl, ha⟩ := h x (by simp)
    obtain ⟨ys, rfl, hy⟩ := list_map (xs := xs) (fun y hy => h y (by simp [hy]))
    exact ⟨a :: ys, rfl, fun y hm => (List.mem_cons.1 hm).elim (fun e => e ▸ ha) (hy y)⟩
theorem sh_u8 {n : Nat} {ws : List V} (h : Sh T (n + 1) 5 ws) : ∃ m : Int, ws = [.int .u8 m] ∧ 0 ≤ m ∧ m ≤ 255 := by
  simp [Sh] at h
  obtain ⟨m, rfl, hm⟩ := h
  refine ⟨m, rfl, ?_⟩
  simp [Lit.wf, IntKind.min, IntKind.max, IntKind.signed, IntKind.bits] at hm
  omega
theorem sh_i8 {n : Nat} {ws : List V} (h : Sh T (n + 1) 64 ws) : ∃ m : Int, ws = [.int .i8 m] ∧ -128 ≤ m ∧ m ≤ 127 := by
  simp [Sh] at h
  obtain ⟨m, rfl, hm⟩ := h
  refine ⟨m, rfl, ?_⟩
  simp [Lit.wf, IntKind.min, IntKind.max, IntKind.signed, IntKind.bits] at hm
  omega
theorem sh_u8s {n : Nat} {ws : List V} (h : Sh T (n + 2) 52 ws) : ∃ xs : List Int, ws = [.lst 1 false (xs.map encU)] ∧ ∀ x ∈ xs, 0 ≤ x ∧ x ≤ 255 := by
  simp only [Sh, T_52, T_5] at h
  obtain ⟨xs, rfl, hl, hx⟩ := h
  obtain ⟨ns, rfl, hn⟩ : ∃ ns : List Int, xs = ns.map encU ∧ ∀ x ∈ ns, 0 ≤ x ∧ x ≤ 255 := list_map fun x hxm => by
    obtain ⟨ws, ⟨m, rfl, hm⟩, _, rfl⟩ := hx x hxm
    refine ⟨m, by simp [isAggD, encU], ?_⟩
    simp [Lit.wf, IntKind.min, IntKind.max, IntKind.signed, IntKind.bits] at hm
    omega
  exact ⟨ns, rfl, hn⟩
theorem sh_i8s {n : Nat} {ws : List V} (h : Sh T (n + 2) 30 ws) : ∃ xs : List Int, ws = [.lst 1 false (xs.map encB)] ∧ ∀ x ∈ xs, -128 ≤ x ∧ x ≤ 127 := by
  simp only [Sh, T_30, T_64] at h
  obtain ⟨xs, rfl, hl, hx⟩ := h
  obtain ⟨ns, rfl, hn⟩ : ∃ ns : List Int, xs = ns.map encB ∧ ∀ x ∈ ns, -128 ≤ x ∧ x ≤ 127 := list_map fun x hxm => by
    obtain ⟨ws, ⟨m, rfl, hm⟩, _, rfl⟩ := hx x hxm
    refine ⟨m, by simp [isAggD, encB], ?_⟩
    simp [Lit.wf, IntKind.min, IntKind.max, IntKind.signed, IntKind.bits] at hm
    omega
  exact ⟨ns, rfl, hn⟩
theorem sh_recipe {n : Nat} {ws : List V} (h : Sh T (n + 3) 32 ws) : ∃ (N : Nat) (cs : List Int), .agg ws = encR false N cs ∧ N ≤ 255 ∧ ∀ x ∈ cs, -128 ≤ x ∧ x ≤ 127 := by
  rw [Sh] at h
  simp only [T_32] at h
  obtain ⟨hlen, hf⟩ := h
  obtain ⟨a, b, rfl⟩ : ∃ a b, ws = [a, b] := by
    match ws, hlen with
    | [a, b], _ => exact ⟨a, b, rfl⟩
  obtain ⟨j1, hj1, h1⟩ := hf _ (List.mem_cons_self ..)
  obtain ⟨j2, hj2, h2⟩ := hf _ (List.mem_cons_of_mem _ (List.mem_cons_self ..))
  simp only [T_5, Option.some.injEq] at hj1
  simp only [T_30, Option.some.injEq] at hj2
  subst hj1
  subst hj2
  obtain ⟨m, e1, l1, l1'⟩ := sh_u8 (show Sh T (n + 1 + 1) 5 [a] from h1)
  obtain ⟨ys, e2, l2⟩ := sh_i8s (show Sh T (n + 2) 30 [b] from h2)
  simp only [List.cons.injEq, and_true] at e1 e2
  subst e1
  subst e2
  obtain ⟨N, rfl⟩ := Int.eq_ofNat_of_zero_le l1
  exact ⟨N, ys, rfl, by omega, l2⟩
theorem agg_rel {w : World} {vs : List V} {us : Array Value} (h : CR w vs us.toList) : Rel (AM.base (fun _ => False) w) (.agg vs) (.agg us) :=
  .agg vs us (by simpa using h.len.symm) h.one (fun i c u hc hu => h.rel i c u hc (by simpa using hu))
end Go.Proofs.Ytmjicfafjjgekaa
