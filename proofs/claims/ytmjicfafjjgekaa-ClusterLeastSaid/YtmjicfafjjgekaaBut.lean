/- But: only the blocks from B on and below T, and new ones, have turned. -/
import Derived.Test.YtmjicfafjjgekaaMat
import Derived.Test.YtmjicfafjjgekaaMaps
namespace Go.Dr
open Go Go.RowKit

structure But (B T : Nat) (w w' : World) : Prop where
  os : w'.os = w.os
  tape : w'.tape = w.tape
  output : w'.output = w.output
  size : w.heap.size ≤ w'.heap.size
  block : ∀ b, b < w.heap.size → (b < B ∨ T ≤ b) → w'.heap[b]? = w.heap[b]?

section
variable {B T : Nat} {w w' w'' : World}
theorem But.refl (B T : Nat) (w : World) : But B T w w := ⟨rfl, rfl, rfl, Nat.le_refl _, fun _ _ _ => rfl⟩
theorem But.trans (h : But B T w w') (k : But B T w' w'') : But B T w w'' :=
  ⟨k.os.trans h.os, k.tape.trans h.tape, k.output.trans h.output, Nat.le_trans h.size k.size, fun b hb hn => (k.block b (Nat.lt_of_lt_of_le hb h.size) hn).trans (h.block b hb hn)⟩
theorem But.drew (h : But B T w w') : But B T w w'.drew := ⟨h.os, h.tape, h.output, h.size, h.block⟩
theorem But.drewN (h : But B T w w') (n : Nat) : But B T w (w'.drewN n) := ⟨h.os, h.tape, h.output, h.size, h.block⟩
theorem But.alloc (h : But B T w w') (o : Obj) : But B T w (w'.alloc o) :=
  ⟨h.os, h.tape, h.output, Nat.le_trans h.size (by simp), fun b hb hn => (Below.heap_alloc w' o b (Nat.lt_of_lt_of_le hb h.size)).trans (h.block b hb hn)⟩
theorem But.setCell (h : But B T w w') {p : Addr} (hp : (B ≤ p.block ∧ p.block < T) ∨ w.heap.size ≤ p.block) (u : Value) : But B T w (w'.setCell p u) :=
  ⟨h.os, h.tape, h.output, by simpa [World.setCell] using h.size, fun b hb hn => (Below.heap_setCell w' p u b (by omega)).trans (h.block b hb hn)⟩
theorem But.call (h : But B T w w') (hb : Below w'.heap.size w' w'') : But B T w w'' :=
  ⟨hb.os.trans h.os, hb.tape.trans h.tape, hb.output.trans h.output, Nat.le_trans h.size hb.size, fun b hlt hn => (hb.block b (Nat.lt_of_lt_of_le hlt h.size)).trans (h.block b hlt hn)⟩
theorem But.below (h : But B T w w') (hB : B ≤ w.heap.size) : Below B w w' := ⟨h.os, h.tape, h.output, h.size, fun b hb => h.block b (by omega) (.inl hb)⟩
theorem But.of_below (h : Below w.heap.size w w') : But B T w w' := ⟨h.os, h.tape, h.output, h.size, fun b hb _ => h.block b hb⟩
theorem Mat.but {B' T' g k m : Nat} {row cap : Nat → Nat} {f : Nat → Nat → Int} (h : Mat w B' T' g k m row cap f) (hb : But B T w w') (hT : T' ≤ w.heap.size) (hd : T' ≤ B ∨ T ≤ B') : Mat w' B' T' g k m row cap f :=
  h.keep fun b h1 h2 => hb.block b (by omega) (by omega)
theorem Blk.but {g : Nat} {t : TypeId} {cs : Array Value} (h : Blk w g t cs) (hb : But B T w w') (hg : g < B ∨ T ≤ g) : Blk w' g t cs := (hb.block g h.lt hg).trans h
theorem RowAt.but {C : Nat} {A : Option Addr} {cs : List Value} (h : RowAt w C A cs) (hb : But B T w w') (hC : C ≤ w.heap.size) (hd : C ≤ B) : RowAt w' C A cs := h.keep fun p hp => World.cell?_of_block (hb.block p.block (by omega) (.inl (by omega)))
theorem own_but {base e size n : Nat} {v : Value} {xs : List Value} (h : w.ownsRow base e size v n xs) (hb : But B T w w') (hd : T ≤ base) : w'.ownsRow base e size v n xs := by
  refine ⟨h.1, ?_⟩
  rcases h.2 with h2 | ⟨g, cap, cur, hv, hg, hh, r⟩
  · exact .inl h2
  · exact .inr ⟨g, cap, cur, hv, hg, (hb.block g (Array.getElem?_eq_some_iff.1 hh).1 (by omega)).trans hh, r⟩
end
end Go.Dr
