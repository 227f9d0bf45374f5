/- Lists: slices of slices of integers: one that is only read, and one that the call makes. The numbers 35 and 3 are the element types of the outer and the inner rows. No program in sight. -/
import Derived.Test.YtmjicfafjjgekaaBase
namespace Go.Dr
open Go Go.RowKit

/-- A slice of slices that is only read; all blocks lie below B. -/
def RLL (w : World) (B : Nat) (A : Option Addr) (xss : List (List Int)) : Prop :=
  ∃ vals : List Value, vals.length = xss.length ∧ RowAt w B A vals ∧ ∀ (j : Nat) (xs : List Int), xss[j]? = some xs → ∃ A' c', vals[j]? = some (.slice A' xs.length c') ∧ RowAt w B A' (ints xs) ∧ (A' = none → xs = [] ∧ c' = 0)

/-- A slice of slices that the call makes; all blocks lie from T on. -/
def LL (w : World) (T : Nat) (v : Value) (xss : List (List Int)) : Prop :=
  ∃ vals : List Value, w.ownsRow T 35 1 v xss.length vals ∧ ∀ (j : Nat) (xs : List Int), xss[j]? = some xs → ∃ u, vals[j]? = some u ∧ w.ownsRow T 3 1 u xs.length (ints xs)

section
variable {w w' : World} {B T : Nat} {A : Option Addr} {xss : List (List Int)} {v : Value}
theorem RLL.keep (h : RLL w B A xss) (hk : ∀ p : Addr, p.block < B → w'.cell? p = w.cell? p) : RLL w' B A xss := by
  obtain ⟨vals, h1, h2, h3⟩ := h
  refine ⟨vals, h1, h2.keep hk, fun j xs hj => ?_⟩
  obtain ⟨A', c', e1, e2, e3⟩ := h3 j xs hj
  exact ⟨A', c', e1, e2.keep hk, e3⟩
theorem RLL.below (h : RLL w B A xss) (hb : Below B w w') : RLL w' B A xss := h.keep fun _ hp => hb.cell hp
theorem RLL.call (h : RLL w B A xss) (hb : Below w.heap.size w w') (hB : B ≤ w.heap.size) : RLL w' B A xss := h.keep fun _ hp => hb.cell (by omega)
theorem RLL.drewN (h : RLL w B A xss) (n : Nat) : RLL (w.drewN n) B A xss := h.keep fun _ _ => rfl
theorem RLL.alloc (h : RLL w B A xss) (hB : B ≤ w.heap.size) (o : Obj) : RLL (w.alloc o) B A xss := h.keep fun p hp => World.cell?_alloc_lt w o p (by omega)
theorem RLL.at_ (h : RLL w B A xss) {j : Nat} {xs : List Int} (hj : xss[j]? = some xs) :
    ∃ b off A' c', A = some ⟨b, off, none⟩ ∧ b < B ∧ w.cell? ⟨b, off + j, none⟩ = some (.slice A' xs.length c') ∧ RowAt w B A' (ints xs) ∧ (A' = none → xs = [] ∧ c' = 0) := by
  obtain ⟨vals, h1, h2, h3⟩ := h
  obtain ⟨A', c', e1, e2, e3⟩ := h3 j xs hj
  obtain ⟨b, off, ha, hb, hc⟩ := h2.at1 e1
  exact ⟨b, off, A', c', ha, hb, hc, e2, e3⟩
theorem own_below {base e size n : Nat} {xs : List Value} (h : w.ownsRow base e size v n xs) (hb : Below w.heap.size w w') : w'.ownsRow base e size v n xs := by
  refine ⟨h.1, ?_⟩
  rcases h.2 with h2 | ⟨g, cap, cur, hv, hg, hh, r⟩
  · exact .inl h2
  · exact .inr ⟨g, cap, cur, hv, hg, (hb.block g (Array.getElem?_eq_some_iff.1 hh).1).trans hh, r⟩
theorem LL.call (h : LL w T v xss) (hb : Below w.heap.size w w') : LL w' T v xss := by
  obtain ⟨vals, h1, h2⟩ := h
  refine ⟨vals, own_below h1 hb, fun j xs hj => ?_⟩
  obtain ⟨u, e1, e2⟩ := h2 j xs hj
  exact ⟨u, e1, own_below e2 hb⟩
theorem LL.nil (w : World) (T : Nat) : LL w T (.slice none 0 0) [] := ⟨[], World.ownsRow_nil _ _ _ _, by simp⟩
theorem own_more {base base' e size n : Nat} {xs : List Value} (h : w.ownsRow base e size v n xs) (hb : base' ≤ base) : w.ownsRow base' e size v n xs := by
  refine ⟨h.1, ?_⟩
  rcases h.2 with h2 | ⟨g, cap, cur, hv, hg, r⟩
  · exact .inl h2
  · exact .inr ⟨g, cap, cur, hv, by omega, r⟩
theorem own_types {b1 b2 e1 e2 n1 n2 : Nat} {u : Value} {xs ys : List Value} (h1 : w.ownsRow b1 e1 1 u n1 xs) (h2 : w.ownsRow b2 e2 1 v n2 ys) (hne : e1 ≠ e2) : u.ownBlock = none ∨ u.ownBlock ≠ v.ownBlock := by
  rcases h1.2 with ⟨rfl, _⟩ | ⟨g, cap, cur, rfl, _, hg, _⟩
  · exact .inl rfl
  · right
    rcases h2.2 with ⟨rfl, _⟩ | ⟨g', cap', cur', rfl, _, hg', _⟩
    · simp [Value.ownBlock]
    · intro e
      simp [Value.ownBlock] at e
      subst e
      rw [hg] at hg'
      injection hg' with hg'
      injection hg' with _ ht
      exact hne ht
/-- One list more. -/
theorem LL.push {w1 : World} {v1 u : Value} {xs : List Int} {o : Obj} (h : LL w T v xss) (hu : w.ownsRow T 3 1 u xs.length (ints xs)) (hg : (w.alloc o).grownBy w1 v.ownBlock)
    (hv1 : ∀ vals, w.ownsRow T 35 1 v xss.length vals → w1.ownsRow T 35 1 v1 (xss.length + 1) (vals ++ [u])) : LL w1 T v1 (xss ++ [xs]) := by
  obtain ⟨vals, h1, h2⟩ := h
  have hlen : vals.length = xss.length := by have := h1.1; omega
  have keep : ∀ {u' : Value} {n : Nat} {ys : List Value}, w.ownsRow T 3 1 u' n ys → w1.ownsRow T 3 1 u' n ys := fun hu' => (hu'.alloc o).kept hg (own_types hu' h1 (by decide))
  refine ⟨vals ++ [u], by simpa using hv1 vals h1, fun j ys hj => ?_⟩
  by_cases hjl : j < xss.length
  · rw [List.getElem?_append_left hjl] at hj
    obtain ⟨u', e1, e2⟩ := h2 j ys hj
    exact ⟨u', by rw [List.getElem?_append_left (by omega)]; exact e1, keep e2⟩
  · obtain ⟨hj1, hj2⟩ := List.getElem?_eq_some_iff.1 hj
    simp at hj1
    obtain rfl : j = xss.length := by omega
    rw [List.getElem?_append_right (by omega)] at hj
    simp at hj
    subst hj
    exact ⟨u, by rw [List.getElem?_append_right (by omega)]; simp [hlen], keep hu⟩
/-- What was made can be read. -/
theorem LL.read {A : Option Addr} {c : Nat} (h : LL w T (.slice A xss.length c) xss) : RLL w w.heap.size A xss := by
  obtain ⟨vals, h1, h2⟩ := h
  refine ⟨vals, by have := h1.1; omega, RowAt.of_own h1, fun j xs hj => ?_⟩
  obtain ⟨u, e1, e2⟩ := h2 j xs hj
  obtain ⟨A', c', hv⟩ : ∃ A c, u = .slice A xs.length c := by
    rcases e2.2 with ⟨h, h0⟩ | ⟨g, cap, cur, h, _⟩
    · exact ⟨none, 0, by rw [h, h0]⟩
    · exact ⟨_, _, h⟩
  subst hv
  refine ⟨A', c', e1, RowAt.of_own e2, fun hA => ?_⟩
  subst hA
  rcases e2.2 with ⟨h, h0⟩ | ⟨g, cap, cur, h, _⟩
  · injection h with _ _ h3
    exact ⟨List.eq_nil_of_length_eq_zero h0, h3⟩
  · cases h
end
end Go.Dr
