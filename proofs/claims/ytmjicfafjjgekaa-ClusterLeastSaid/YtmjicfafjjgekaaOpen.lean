/- Open: arguments that are slices of structs, opened to cells. -/
import Derived.Test.YtmjicfafjjgekaaW4
import Derived.ProofKit
import Derived.Deep.Slices
import Derived.Deep.Fields
import Derived.ChangeSame
namespace Go.Proofs.Ytmjicfafjjgekaa
open Go.RowKit Go.Dr Go.ChangeShapes Go.WideShapes Go.Deep

section
variable {H : Type} {enc : TypeId × Value → H} {P : Program} {w : World} {base : Nat} {spare : Nat → Bool} {held : Bool}
/-- For every element i and every field j of a slice of structs of one-cell fields: its cell, and the field's own reading. -/
theorem open_slice_fields {t e : TypeId} {fs : Array Field} {fuel : Nat} {cs : List Value} {x : DataW H × List MemPlace} (ht : P.underlying t = some (.slice e)) (he : P.underlying e = some (.struct fs))
    (hone : oneCellFields P fs = true) (hC : P.cellsOf e = fs.size) (h : DataW.trod enc P w base spare held fuel t cs = some x) :
    cs = [.slice none 0 0] ∨
    ∃ (a : Addr) (len cap m : Nat), cs = [.slice (some a) len cap] ∧ len ≤ cap ∧ cap ≤ maxLen ∧ m = (if spare a.block then cap else len) ∧
      ∀ i, i < m → ∃ n : Nat, ∀ (j : Nat) (f : Field), fs[j]? = some f → ∃ (v : Value) (y : DataW H × List MemPlace), w.cell? (a.add (i * fs.size + j)) = some v ∧ DataW.trod enc P w base spare held n f.type [v] = some y := by
  rcases open_slice ht h with h0 | ⟨a, len, cap, m, n, D, Pl, hcs, hb, hl, hm, hmm, hx, hi⟩
  · exact .inl h0.1
  · refine .inr ⟨a, len, cap, m, hcs, hl, hm, hmm, fun i him => ?_⟩
    obtain ⟨cs', hc, ht'⟩ := hi i him
    rw [hC] at hc
    obtain ⟨ys, n', hn', hy, hlen, hyl, hf⟩ := DataW.trod_struct he ht'
    obtain ⟨_, hcl, hat⟩ := World.cells?_some hc
    refine ⟨n', fun j f hj => ?_⟩
    obtain ⟨ho, hk⟩ := hone_of hone j f hj
    have hjl : j < fs.size := (Array.getElem?_eq_some_iff.1 hj).1
    have hcell := hat j hjl
    have hv : cs'[j]? = some (cs'[j]'(by omega)) := List.getElem?_eq_getElem (by omega)
    have h1 := hf j f hj
    rw [ho, hk] at h1
    have hone' : (cs'.drop j).take 1 = [cs'[j]'(by omega)] := by
      rw [List.drop_eq_getElem_cons (by omega)]
      rfl
    rw [hone'] at h1
    have hys : ys[j]? = some (ys[j]'(by omega)) := List.getElem?_eq_getElem (by omega)
    refine ⟨_, _, ?_, h1.trans hys⟩
    rw [← Go.Deep.add_add, hcell, hv]
end

theorem addr_add (a : Addr) (n : Nat) (hs : a.spot = none) : a.add n = ⟨a.block, a.off + n, none⟩ := by
  unfold Addr.add
  split
  · rename_i h; subst h; cases a; simp_all
  · rfl
theorem spot_of_cell {w : World} {a : Addr} {v : Value} (h : w.cell? a = some v) : a.spot = none := by
  unfold World.cell? at h
  split at h
  · split at h
    · cases h
    · rename_i hs; simpa using hs
  · cases h

/-- A list of pairs that came in. -/
structure PairsIn (w : World) (A : Option Addr) (len : Nat) (ps : List P3) : Prop where
  len : ps.length = len
  row : PairsAt w w.heap.size A ps
  nil : A = none → ps = []

theorem open_pairs {H : Type} {enc : TypeId × Value → H} {W : World} {A : Option Addr} {len cap : Nat} {d : DataW H} {p : List MemPlace} (h : DataW.Trod enc Try.prog W 0 (fun _ => true) true 22 (.slice A len cap) d p) :
    len ≤ 9223372036854775807 ∧ ∃ ps, PairsIn W A len ps := by
  obtain ⟨fuel, hf⟩ := h
  rcases open_slice_fields Try.underlying22 Try.underlying28 (by kernel_rfl) (by kernel_rfl) hf with hcs | ⟨a, l, c, m, hcs, hl, hm, hmm, hi⟩
  · simp [Value.cells] at hcs
    obtain ⟨rfl, rfl, rfl⟩ := hcs
    exact ⟨by omega, [], rfl, RowAt.nil, fun _ => rfl⟩
  · simp [Value.cells] at hcs
    obtain ⟨rfl, rfl, rfl⟩ := hcs
    simp only [if_true] at hmm
    subst hmm
    have hget : ∀ i, i < len → ∃ q : P3, W.cell? (a.add (i * 3)) = some (.int .i64 q.i) ∧ W.cell? (a.add (i * 3 + 1)) = some (.int .i64 q.k) ∧ W.cell? (a.add (i * 3 + 2)) = some (.int .i64 q.x) := by
      intro i hil
      obtain ⟨n, hf⟩ := hi i (by omega)
      obtain ⟨v0, y0, c0, t0⟩ := hf 0 _ rfl
      obtain ⟨v1, y1, c1, t1⟩ := hf 1 _ rfl
      obtain ⟨v2, y2, c2, t2⟩ := hf 2 _ rfl
      obtain ⟨x0, e0, _, _⟩ := DataW.trod_int Try.underlying3 t0
      obtain ⟨x1, e1, _, _⟩ := DataW.trod_int Try.underlying3 t1
      obtain ⟨x2, e2, _, _⟩ := DataW.trod_int Try.underlying2 t2
      simp at e0 e1 e2
      subst e0 e1 e2
      exact ⟨⟨x0, x1, x2⟩, c0, c1, c2⟩
    refine ⟨by unfold maxLen at hm; omega, (List.range len).map (fun i => if h : i < len then (hget i h).choose else default), by simp, fun hpos => ?_, fun h => by cases h⟩
    have hlp : 0 < len := by
      rw [flat_len pc 3 pc_len] at hpos
      simp at hpos
      omega
    obtain ⟨q0, hq0, _⟩ := hget 0 hlp
    have hs : a.spot = none := by
      have := spot_of_cell hq0
      simpa [Addr.add] using this
    refine ⟨a.block, a.off, by cases a; simp_all, ?_, fun j u hu => ?_⟩
    · have := World.block_lt_of_cell? W _ hq0
      simpa [Addr.add] using this
    · have hj3 : j = (j / 3) * 3 + j % 3 := by omega
      have hr : j % 3 < 3 := Nat.mod_lt _ (by omega)
      rw [hj3, flat_at pc 3 pc_len _ _ _ hr] at hu
      by_cases hil : j / 3 < len
      · have hget' := (hget (j / 3) hil).choose_spec
        simp only [List.getElem?_map, List.getElem?_range hil, Option.map_some, Option.bind_some, hil, dite_true] at hu
        obtain ⟨q, hq⟩ : ∃ q, q = (hget (j / 3) hil).choose := ⟨_, rfl⟩
        rw [← hq] at hget' hu
        obtain ⟨g0, g1, g2⟩ := hget'
        rw [addr_add _ _ hs] at g0 g1 g2
        have hc : j % 3 = 0 ∨ j % 3 = 1 ∨ j % 3 = 2 := by omega
        rcases hc with hc | hc | hc
        · rw [hc] at hu
          simp [pc] at hu
          rw [← hu, show a.off + j = a.off + j / 3 * 3 by omega]
          exact g0
        · rw [hc] at hu
          simp [pc] at hu
          rw [← hu, show a.off + j = a.off + (j / 3 * 3 + 1) by omega]
          exact g1
        · rw [hc] at hu
          simp [pc] at hu
          rw [← hu, show a.off + j = a.off + (j / 3 * 3 + 2) by omega]
          exact g2
      · rw [List.getElem?_eq_none (by simp; omega)] at hu
        simp at hu
end Go.Proofs.Ytmjicfafjjgekaa
