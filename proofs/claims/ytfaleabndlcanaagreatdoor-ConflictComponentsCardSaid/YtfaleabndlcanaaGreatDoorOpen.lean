/- Open: the arguments of the laws of this seat, opened. -/
import Derived.Test.YtfaleabndlcanaaGreatDoorLay
import Derived.Test.YtfaleabndlcanaaGreatDoorEnc
namespace Go.Proofs.YtfaleabndlcanaaGreatDoor
open Go Go.AM

theorem list_map {α : Type} {enc : α → V} : ∀ {xs : List V}, (∀ x ∈ xs, ∃ a, x = enc a) → ∃ ys : List α, xs = ys.map enc
  | [], _ => ⟨[], rfl⟩
  | x :: xs, h => by
    obtain ⟨a, rfl⟩ := h x (by simp)
    obtain ⟨ys, rfl⟩ := list_map (xs := xs) (fun y hy => h y (by simp [hy]))
    exact ⟨a :: ys, rfl⟩
theorem sh_int {n : Nat} {ws : List V} (h : Sh T (n + 1) 2 ws) : ∃ m : Int, ws = [.int .i64 m] := by
  simp [Sh] at h
  obtain ⟨m, rfl, _⟩ := h
  exact ⟨m, rfl⟩
theorem sh_ints {n : Nat} {ws : List V} (h : Sh T (n + 2) 46 ws) : ∃ xs : List Int, ws = [L1 false xs] ∧ xs.length ≤ maxLen := by
  simp only [Sh, T_46, T_2] at h
  obtain ⟨xs, rfl, hl, hx⟩ := h
  obtain ⟨ns, rfl⟩ : ∃ ns : List Int, xs = ns.map encI := list_map fun x hxm => by
    obtain ⟨ws, ⟨m, rfl, _⟩, _, rfl⟩ := hx x hxm
    exact ⟨m, by simp [isAggD, encI]⟩
  exact ⟨ns, rfl, by simpa using hl⟩
theorem sh_lists {n : Nat} {ws : List V} (h : Sh T (n + 3) 47 ws) : ∃ xs : List (List Int), ws = [LL false xs] ∧ xs.length ≤ maxLen ∧ ∀ e ∈ xs, e.length ≤ maxLen := by
  rw [Sh] at h
  simp only [T_47, T_46] at h
  obtain ⟨xs, rfl, hl, hx⟩ := h
  have hex : ∀ x ∈ xs, ∃ a : { e : List Int // e.length ≤ maxLen }, x = L1 false a.1 := fun x hxm => by
    obtain ⟨ws, hs, _, rfl⟩ := hx x hxm
    obtain ⟨e, rfl, he⟩ := sh_ints hs
    exact ⟨⟨e, he⟩, by simp [isAggD]⟩
  obtain ⟨ys, rfl⟩ := list_map hex
  refine ⟨ys.map (·.1), by simp [LL], by simpa using hl, fun e he => ?_⟩
  obtain ⟨y, _, rfl⟩ := List.mem_map.1 he
  exact y.2
theorem sh_hyper {n : Nat} {ws : List V} (h : Sh T (n + 4) 49 ws) : ∃ vs es, .agg ws = encH false false vs es ∧ vs.length ≤ maxLen ∧ es.length ≤ maxLen ∧ ∀ e ∈ es, e.length ≤ maxLen := by
  rw [Sh] at h
  simp only [T_49] at h
  obtain ⟨hlen, hf⟩ := h
  obtain ⟨a, b, rfl⟩ : ∃ a b, ws = [a, b] := by
    match ws, hlen with
    | [a, b], _ => exact ⟨a, b, rfl⟩
  obtain ⟨j1, hj1, h1⟩ := hf _ (List.mem_cons_self ..)
  obtain ⟨j2, hj2, h2⟩ := hf _ (List.mem_cons_of_mem _ (List.mem_cons_self ..))
  simp only [T_46, Option.some.injEq] at hj1
  simp only [T_47, Option.some.injEq] at hj2
  subst hj1
  subst hj2
  obtain ⟨xs, e1, l1⟩ := sh_ints (show Sh T (n + 1 + 2) 46 [a] from h1)
  obtain ⟨ys, e2, l2, l3⟩ := sh_lists (show Sh T (n + 3) 47 [b] from h2)
  simp only [List.cons.injEq, and_true] at e1 e2
  subst e1
  subst e2
  exact ⟨xs, ys, rfl, l1, l2, l3⟩
theorem agg_rel {w : World} {vs : List V} {us : Array Value} (h : CR w vs us.toList) : Rel (AM.base (fun _ => False) w) (.agg vs) (.agg us) :=
  .agg vs us (by simpa using h.len.symm) h.one (fun i c u hc hu => h.rel i c u hc (by simpa using hu))
end Go.Proofs.YtfaleabndlcanaaGreatDoor
