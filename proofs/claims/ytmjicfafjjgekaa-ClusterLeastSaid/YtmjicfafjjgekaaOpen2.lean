/- Open2: arguments that are slices of integers. -/
import Derived.Test.YtmjicfafjjgekaaOpen
namespace Go.Proofs.Ytmjicfafjjgekaa
open Go.RowKit Go.Dr Go.ChangeShapes Go.WideShapes Go.Deep

/-- A list of integers of one kind that came in. -/
structure IntsIn (k : IntKind) (w : World) (A : Option Addr) (len : Nat) (xs : List Int) : Prop where
  len : xs.length = len
  row : RowAt w w.heap.size A (xs.map (Value.int k))
  nil : A = none → xs = []
  wf : ∀ n ∈ xs, (Lit.int k n).wf = true

theorem in_row {H : Type} {enc : TypeId × Value → H} {W : World} {A : Option Addr} {len cap t e : Nat} {k : IntKind} {d : DataW H} {p : List MemPlace} (ht : Try.prog.underlying t = some (.slice e)) (he : Try.prog.underlying e = some (.int k)) (hc : Try.prog.cellsOf e = 1)
    (h : DataW.Trod enc Try.prog W 0 (fun _ => true) true t (.slice A len cap) d p) :
    len ≤ 9223372036854775807 ∧ ∃ xs, IntsIn k W A len xs := by
  obtain ⟨fuel, hf⟩ := h
  rcases open_ints ht he hc hf with ⟨hcs, _⟩ | ⟨x, l, c, zs, hcs, _, hl, hm, hz, _, hcell, hwz⟩
  · simp [Value.cells] at hcs
    obtain ⟨rfl, rfl, rfl⟩ := hcs
    exact ⟨by omega, [], rfl, RowAt.nil, fun _ => rfl, by simp⟩
  · simp [Value.cells] at hcs
    obtain ⟨rfl, rfl, rfl⟩ := hcs
    have hzl : zs.length = cap := by simpa using hz
    refine ⟨by unfold maxLen at hm; omega, zs.take len, by simp; omega, fun hpos => ?_, (fun h => by cases h), fun n hn => hwz n (List.mem_of_mem_take hn)⟩
    have hlp : 0 < len ∧ 0 < zs.length := by
      simp at hpos
      omega
    have h0 := hcell 0 hlp.2
    have hs : x.spot = none := by
      have := spot_of_cell h0
      simpa [Addr.add] using this
    refine ⟨x.block, x.off, by cases x; simp_all, ?_, fun j u hu => ?_⟩
    · have := World.block_lt_of_cell? W _ h0
      simpa [Addr.add] using this
    · rw [List.getElem?_map, List.getElem?_take] at hu
      by_cases hj : j < len
      · rw [if_pos hj] at hu
        have hjz : j < zs.length := by omega
        have hcj := hcell j hjz
        rw [addr_add _ _ hs] at hcj
        rw [hcj, ← hu]
        simp [hjz]
      · rw [if_neg hj] at hu
        simp at hu

theorem in_ints {H : Type} {enc : TypeId × Value → H} {W : World} {A : Option Addr} {len cap : Nat} {d : DataW H} {p : List MemPlace} (h : DataW.Trod enc Try.prog W 0 (fun _ => true) true 35 (.slice A len cap) d p) :
    len ≤ 9223372036854775807 ∧ ∃ xs, IntsIn .i64 W A len xs := in_row Try.underlying35 Try.underlying3 (by kernel_rfl) h
theorem in_bytes {H : Type} {enc : TypeId × Value → H} {W : World} {A : Option Addr} {len cap : Nat} {d : DataW H} {p : List MemPlace} (h : DataW.Trod enc Try.prog W 0 (fun _ => true) true 52 (.slice A len cap) d p) :
    len ≤ 9223372036854775807 ∧ ∃ xs, IntsIn .u8 W A len xs := in_row Try.underlying52 Try.underlying5 (by kernel_rfl) h
theorem in_pairs {H : Type} {enc : TypeId × Value → H} {W : World} {A : Option Addr} {len cap : Nat} {d : DataW H} {p : List MemPlace} (h : DataW.Trod enc Try.prog W 0 (fun _ => true) true 22 (.slice A len cap) d p) :
    len ≤ 9223372036854775807 ∧ ∃ ps, PairsIn W A len ps := open_pairs h
end Go.Proofs.Ytmjicfafjjgekaa
