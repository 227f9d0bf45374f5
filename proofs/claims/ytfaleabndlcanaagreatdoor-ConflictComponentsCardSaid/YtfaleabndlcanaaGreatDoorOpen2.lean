/- Open2: recipes of hypergraphs as arguments, opened. -/
import Derived.Test.YtfaleabndlcanaaGreatDoorOpen
import Derived.Test.YtfaleabndlcanaaGreatDoorW10
namespace Go.Proofs.YtfaleabndlcanaaGreatDoor
open Go Go.AM
theorem sh_u8 {n : Nat} {ws : List V} (h : Sh T (n + 1) 5 ws) : ∃ m : Int, ws = [.int .u8 m] ∧ 0 ≤ m ∧ m < 256 := by
  simp [Sh] at h
  obtain ⟨m, rfl, hm⟩ := h
  refine ⟨m, rfl, ?_⟩
  simp [Lit.wf, IntKind.min, IntKind.max, IntKind.signed, IntKind.bits] at hm
  omega
theorem sh_u8s {n : Nat} {ws : List V} (h : Sh T (n + 2) 56 ws) : ∃ xs : List Int, ws = [.lst 1 false (xs.map encU)] ∧ xs.length ≤ maxLen := by
  simp only [Sh, T_56, T_5] at h
  obtain ⟨xs, rfl, hl, hx⟩ := h
  obtain ⟨ns, rfl⟩ : ∃ ns : List Int, xs = ns.map encU := list_map fun x hxm => by
    obtain ⟨ws, ⟨m, rfl, _⟩, _, rfl⟩ := hx x hxm
    exact ⟨m, by simp [isAggD, encU]⟩
  exact ⟨ns, rfl, by simpa using hl⟩
theorem sh_graph {n : Nat} {ws : List V} (h : Sh T (n + 3) 58 ws) : ∃ m cs, .agg ws = encG false m cs ∧ (0 ≤ m ∧ m < 256) ∧ cs.length ≤ 9223372036854775807 := by
  rw [Sh] at h
  simp only [T_58] at h
  obtain ⟨hlen, hf⟩ := h
  obtain ⟨a, b, rfl⟩ : ∃ a b, ws = [a, b] := by
    match ws, hlen with
    | [a, b], _ => exact ⟨a, b, rfl⟩
  obtain ⟨j1, hj1, h1⟩ := hf _ (List.mem_cons_self ..)
  obtain ⟨j2, hj2, h2⟩ := hf _ (List.mem_cons_of_mem _ (List.mem_cons_self ..))
  simp only [T_5, Option.some.injEq] at hj1
  simp only [T_56, Option.some.injEq] at hj2
  subst hj1
  subst hj2
  obtain ⟨m, e1, l1, l1'⟩ := sh_u8 (show Sh T (n + 1 + 1) 5 [a] from h1)
  obtain ⟨ys, e2, l2⟩ := sh_u8s (show Sh T (n + 2) 56 [b] from h2)
  simp only [List.cons.injEq, and_true] at e1 e2
  subst e1
  subst e2
  exact ⟨m, ys, rfl, ⟨l1, l1'⟩, l2⟩
end Go.Proofs.YtfaleabndlcanaaGreatDoor
