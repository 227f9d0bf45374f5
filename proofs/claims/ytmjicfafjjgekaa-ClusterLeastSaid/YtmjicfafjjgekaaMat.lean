/- Mat: a matrix of integers in memory: an outer row of slices, each row in a block of its own. No program in sight. -/
import Derived.Test.YtmjicfafjjgekaaBase
namespace Go.Dr
open Go Go.RowKit

/-- k rows of m integers; the outer row lies in block g; all blocks lie from B on and below T. -/
structure Mat (w : World) (B T g k m : Nat) (row cap : Nat → Nat) (f : Nat → Nat → Int) : Prop where
  lo : B ≤ g
  hi : g < T
  outer : ∀ i, i < k → w.cell? ⟨g, i, none⟩ = some (.slice (some ⟨row i, 0, none⟩) m (cap i))
  rlo : ∀ i, i < k → B ≤ row i ∧ row i < T ∧ row i ≠ g
  rcap : ∀ i, i < k → m ≤ cap i
  inj : ∀ i j, i < k → j < k → row i = row j → i = j
  inner : ∀ i j, i < k → j < m → w.cell? ⟨row i, j, none⟩ = some (.int .i64 (f i j))
  thaw : ∀ i j, i < k → j < m → w.frozen? ⟨row i, j, none⟩ = false

section
variable {w w' : World} {B T g k m : Nat} {row cap : Nat → Nat} {f : Nat → Nat → Int}
theorem Mat.keep (h : Mat w B T g k m row cap f) (hk : ∀ b, B ≤ b → b < T → w'.heap[b]? = w.heap[b]?) : Mat w' B T g k m row cap f where
  lo := h.lo
  hi := h.hi
  outer i hi := (World.cell?_of_block (hk g h.lo h.hi)).trans (h.outer i hi)
  rlo := h.rlo
  rcap := h.rcap
  inj := h.inj
  inner i j hi hj := (World.cell?_of_block (hk _ (h.rlo i hi).1 (h.rlo i hi).2.1)).trans (h.inner i j hi hj)
  thaw i j hi hj := (World.frozen?_of_block (hk _ (h.rlo i hi).1 (h.rlo i hi).2.1)).trans (h.thaw i j hi hj)
theorem Mat.drewN (h : Mat w B T g k m row cap f) (n : Nat) : Mat (w.drewN n) B T g k m row cap f := h.keep fun _ _ _ => rfl
theorem Mat.drew (h : Mat w B T g k m row cap f) : Mat w.drew B T g k m row cap f := h.keep fun _ _ _ => rfl
theorem Mat.alloc (h : Mat w B T g k m row cap f) (hT : T ≤ w.heap.size) (o : Obj) : Mat (w.alloc o) B T g k m row cap f := h.keep fun b _ hb => Below.heap_alloc w o b (by omega)
theorem Mat.below (h : Mat w B T g k m row cap f) (hb : Below T w w') : Mat w' B T g k m row cap f := h.keep fun b _ hb' => hb.block b hb'
theorem Mat.call (h : Mat w B T g k m row cap f) (hb : Below w.heap.size w w') (hT : T ≤ w.heap.size) : Mat w' B T g k m row cap f := h.keep fun b _ hb' => hb.block b (by omega)
theorem Mat.setCell (h : Mat w B T g k m row cap f) {p : Addr} (hp : p.block < B ∨ T ≤ p.block) (u : Value) : Mat (w.setCell p u) B T g k m row cap f :=
  h.keep fun b _ _ => Below.heap_setCell w p u b (by omega)
theorem Mat.grown {r : Option Nat} (h : Mat w B T g k m row cap f) (hT : T ≤ w.heap.size) (hg : w.grownBy w' r) (hr : ∀ b, r = some b → b < B ∨ T ≤ b) : Mat w' B T g k m row cap f :=
  h.keep fun b _ hb' => hg.block b (by omega) (fun e => by have := hr b e.symm; omega)
theorem Mat.more {B' T' : Nat} (h : Mat w B T g k m row cap f) (hB : B' ≤ B) (hT : T ≤ T') : Mat w B' T' g k m row cap f where
  lo := Nat.le_trans hB h.lo
  hi := Nat.lt_of_lt_of_le h.hi hT
  outer := h.outer
  rlo i hi := ⟨Nat.le_trans hB (h.rlo i hi).1, Nat.lt_of_lt_of_le (h.rlo i hi).2.1 hT, (h.rlo i hi).2.2⟩
  rcap := h.rcap
  inj := h.inj
  inner := h.inner
  thaw := h.thaw
theorem Mat.ext {f' : Nat → Nat → Int} (h : Mat w B T g k m row cap f) (he : ∀ i j, i < k → j < m → f i j = f' i j) : Mat w B T g k m row cap f' :=
  { h with inner := fun i j hi hj => by rw [← he i j hi hj]; exact h.inner i j hi hj }
/-- One cell is written. -/
theorem Mat.set_ (h : Mat w B T g k m row cap f) {i j : Nat} (hi : i < k) (x : Int) : Mat (w.setCell ⟨row i, j, none⟩ (.int .i64 x)) B T g k m row cap (fun a b => if a = i ∧ b = j then x else f a b) where
  lo := h.lo
  hi := h.hi
  outer a ha := by rw [World.cell?_setCell_other w _ _ _ (by intro e; injection e with e1; exact (h.rlo i hi).2.2 e1)]; exact h.outer a ha
  rlo := h.rlo
  rcap := h.rcap
  inj := h.inj
  inner a b ha hb := by
    by_cases e : a = i ∧ b = j
    · obtain ⟨rfl, rfl⟩ := e
      simp only [and_self, if_true]
      exact World.cell?_setCell_same w _ _ (h.inner a b ha hb)
    · simp only [e, if_false]
      rw [World.cell?_setCell_other w _ _ _ (by intro e'; injection e' with e1 e2; exact e ⟨h.inj _ _ ha hi e1.symm, e2.symm⟩)]
      exact h.inner a b ha hb
  thaw a b ha hb := by rw [World.frozen?_setCell]; exact h.thaw a b ha hb
/-- A store into the outer row beyond the rows that are known. -/
theorem Mat.outside (h : Mat w B T g k m row cap f) {i : Nat} (hi : k ≤ i) (u : Value) : Mat (w.setCell ⟨g, i, none⟩ u) B T g k m row cap f where
  lo := h.lo
  hi := h.hi
  outer a ha := by rw [World.cell?_setCell_other w _ _ _ (by intro e; injection e with _ e2; omega)]; exact h.outer a ha
  rlo := h.rlo
  rcap := h.rcap
  inj := h.inj
  inner a b ha hb := by
    rw [World.cell?_setCell_other w _ _ _ (by intro e; injection e with e1; exact (h.rlo a ha).2.2 e1.symm)]
    exact h.inner a b ha hb
  thaw a b ha hb := by rw [World.frozen?_setCell]; exact h.thaw a b ha hb
/-- One row more. -/
theorem Mat.push (h : Mat w B T g k m row cap f) {r c : Nat} {x : Nat → Int} (hr : B ≤ r ∧ r < T ∧ r ≠ g) (hnew : ∀ i, i < k → row i ≠ r) (hc : m ≤ c)
    (ho : w.cell? ⟨g, k, none⟩ = some (.slice (some ⟨r, 0, none⟩) m c)) (hx : ∀ j, j < m → w.cell? ⟨r, j, none⟩ = some (.int .i64 (x j)) ∧ w.frozen? ⟨r, j, none⟩ = false) :
    Mat w B T g (k + 1) m (fun i => if i = k then r else row i) (fun i => if i = k then c else cap i) (fun i j => if i = k then x j else f i j) where
  lo := h.lo
  hi := h.hi
  outer i hi := by
    by_cases e : i = k
    · subst e; simpa using ho
    · simpa [e] using h.outer i (by omega)
  rlo i hi := by
    by_cases e : i = k
    · simpa [e] using hr
    · simpa [e] using h.rlo i (by omega)
  rcap i hi := by
    by_cases e : i = k
    · simpa [e] using hc
    · simpa [e] using h.rcap i (by omega)
  inj i j hi hj e := by
    by_cases e1 : i = k <;> by_cases e2 : j = k
    · omega
    · simp only [e1, if_true, e2, if_false] at e; exact absurd e.symm (hnew j (by omega))
    · simp only [e1, e2, if_true, if_false] at e; exact absurd e (hnew i (by omega))
    · simp only [e1, e2, if_false] at e; exact h.inj i j (by omega) (by omega) e
  inner i j hi hj := by
    by_cases e : i = k
    · simpa [e] using (hx j hj).1
    · simpa [e] using h.inner i j (by omega) hj
  thaw i j hi hj := by
    by_cases e : i = k
    · simpa [e] using (hx j hj).2
    · simpa [e] using h.thaw i j (by omega) hj
end

theorem Mat.none_ {w : World} {B T g m : Nat} (h1 : B ≤ g) (h2 : g < T) : Mat w B T g 0 m (fun _ => 0) (fun _ => 0) (fun _ _ => 0) where
  lo := h1
  hi := h2
  outer _ h := absurd h (by omega)
  rlo _ h := absurd h (by omega)
  rcap _ h := absurd h (by omega)
  inj _ _ h := absurd h (by omega)
  inner _ _ h := absurd h (by omega)
  thaw _ _ h := absurd h (by omega)

end Go.Dr
