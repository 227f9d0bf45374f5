/- W5: the walk of cluster.matrix. -/
import Derived.Test.YtmjicfafjjgekaaW4
import Derived.Test.YtmjicfafjjgekaaMat
import Derived.BigRegion
namespace Go.Proofs.Ytmjicfafjjgekaa
open Go.RowKit Go.Dr

/-- n zero integers. -/
def zeros (n : Nat) : Array Value := madeCells #[.int .i64 0] n
theorem zeros_get {n j : Nat} (h : j < n) : (zeros n)[j]? = some (.int .i64 0) := by
  rw [← Array.getElem?_toList, zeros, toList_madeCells_one]; simp [h]
def nils (n : Nat) : Array Value := madeCells #[.slice none 0 0] n
theorem nils_get {n j : Nat} (h : j < n) : (nils n)[j]? = some (.slice none 0 0) := by
  rw [← Array.getElem?_toList, nils, toList_madeCells_one]; simp [h]
theorem Try.info74 : (Try.prog.info? 74).map (fun i => (i.zero, i.size, i.bytes)) = some (some (.slice none 0 0), 1, 24) := by kernel_rfl

theorem make74 (n : Nat) (hn : n ≤ 100000) (w : World) : (Instr.makeSlice 74 (.int .i64 (n : Int)) (.int .i64 (n : Int))).run Try.prog w = .ok (.slice (some ⟨w.heap.size, 0, none⟩) n n) (w.alloc (.cells (zeros n) 2)) := by
  obtain ⟨i0, hi, hz0, hz1, hz2⟩ := info_parts Try.info2
  have := run_make (P := Try.prog) w 74 2 i0 _ Try.underlying74 hi hz0 .i64 .i64 n n (by omega) (by omega) (by rw [hz2]; omega) (by omega)
  rw [hz1] at this
  simpa [zeros, Value.cells] using this
theorem make66 (n : Nat) (hn : n ≤ 100000) (w : World) : (Instr.makeSlice 66 (.int .i64 (n : Int)) (.int .i64 (n : Int))).run Try.prog w = .ok (.slice (some ⟨w.heap.size, 0, none⟩) n n) (w.alloc (.cells (nils n) 74)) := by
  obtain ⟨i0, hi, hz0, hz1, hz2⟩ := info_parts Try.info74
  have := run_make (P := Try.prog) w 66 74 i0 _ Try.underlying66 hi hz0 .i64 .i64 n n (by omega) (by omega) (by rw [hz2]; omega) (by omega)
  rw [hz1] at this
  simpa [nils, Value.cells] using this

def matSet (f : Nat → Nat → Int) (p : P3) : Nat → Nat → Int := fun a b => if (a = p.k.toNat ∧ b = p.i.toNat) ∨ (a = p.i.toNat ∧ b = p.k.toNat) then p.x else f a b
def matOf (ps : List P3) : Nat → Nat → Int := ps.foldl matSet (fun _ _ => 0)

set_option maxRecDepth 100000 in
set_option maxHeartbeats 1000000 in
theorem matrix_any (n : Nat) (A : Option Addr) (cap : Nat) (ps : List P3) (B : Nat) (w : World) (hB : B ≤ w.heap.size) (hl : ps.length ≤ 100000) (hn : n ≤ 200) (hp : PairsAt w B A ps) (hok : ∀ p ∈ ps, okP n p = true) :
    Calls Try.prog 34 #[.int .i64 (n : Int), .slice A ps.length cap] w fun e w' => ∃ g row cp, e = .returned (.slice (some ⟨g, 0, none⟩) n n) ∧ Mat w' w.heap.size w'.heap.size g n n row cp (matOf ps) ∧ Below w.heap.size w w' := by
  have hm1 := fun W => make74 n (by omega) W
  have hm2 := fun W => make66 n (by omega) W
  have Hok := Lib.hid hok
  clear hok
  go_enter Try.func34, Try.ntmps34
  go_wp2
  clear hm2
  go_loopw [13] (fun m wr => ∃ (j : Nat) (row cp : Nat → Nat), j ≤ n ∧ m = .int .i64 j ∧ Mat wr w.heap.size wr.heap.size w.heap.size j n row cp (fun _ _ => 0) ∧ Below w.heap.size w wr ∧
      (∀ i, i < n → (∃ u, wr.cell? ⟨w.heap.size, i, none⟩ = some u) ∧ wr.frozen? ⟨w.heap.size, i, none⟩ = false)) (fun m _ => n - (intOf m).toNat)
  case atStart =>
    refine ⟨0, _, _, Nat.zero_le _, rfl, Mat.none_ (Nat.le_refl _) (by simp), (Below.refl _ _).alloc (Nat.le_refl _) _, fun i hi => ⟨⟨_, ((Blk.new w 74 (nils n)).cell i).trans (nils_get hi)⟩, (Blk.new w 74 (nils n)).frozen i⟩⟩
  case round =>
    obtain ⟨j, row, cp, hj, rfl, hmat, hb, hcells⟩ := hrel
    have Hmat := Lib.hid hmat
    have Hb := Lib.hid hb
    have Hcells := Lib.hid hcells
    have hsz := hb.size
    have hlt0 := hmat.hi
    clear hmat hb hcells
    by_cases hlt : j < n
    · obtain ⟨⟨u, hu⟩, hfz⟩ := Hcells.out j hlt
      go_wp2
      go_roundw
      case rel =>
        have hsz1 : (wr.setCell ⟨w.heap.size, j, none⟩ (.slice (some ⟨wr.heap.size, 0, none⟩) n n)).heap.size = wr.heap.size := by simp [World.setCell]
        have hm := ((Hmat.out.outside (Nat.le_refl j) (.slice (some ⟨wr.heap.size, 0, none⟩) n n)).alloc (by omega) (.cells (zeros n) 2)).more (Nat.le_refl _) (show wr.heap.size ≤ wr.heap.size + 1 by omega)
        have hblk := Blk.new (wr.setCell ⟨w.heap.size, j, none⟩ (.slice (some ⟨wr.heap.size, 0, none⟩) n n)) 2 (zeros n)
        rw [hsz1] at hblk
        have hcw : ∀ (i : Nat) (u' : Value), (wr.setCell ⟨w.heap.size, j, none⟩ (.slice (some ⟨wr.heap.size, 0, none⟩) n n)).cell? ⟨w.heap.size, i, none⟩ = some u' →
            ((wr.setCell ⟨w.heap.size, j, none⟩ (.slice (some ⟨wr.heap.size, 0, none⟩) n n)).alloc (.cells (zeros n) 2)).cell? ⟨w.heap.size, i, none⟩ = some u' := fun i u' h => by
          rw [World.cell?_alloc_lt _ _ _ (by rw [hsz1]; exact hlt0)]; exact h
        have hm2 := hm.push (r := wr.heap.size) (c := n) (x := fun _ => 0) ⟨by omega, by omega, by omega⟩ (fun i hi e => by have := (Hmat.out.rlo i hi).2.1; omega) (Nat.le_refl _)
          (hcw _ _ (World.cell?_setCell_same _ _ _ hu)) (fun i hi => ⟨(hblk.cell i).trans (zeros_get hi), hblk.frozen i⟩)
        refine ⟨j + 1, _, _, by omega, by go_num, (hm2.ext (fun a b _ _ => by split <;> rfl)).more (Nat.le_refl _) (by simp), ?_, fun i hi => ?_⟩
        · exact (Hb.out.setCell (Nat.le_refl _) _).alloc (by rw [hsz1]; omega) _
        · obtain ⟨⟨u', hu'⟩, hf'⟩ := Hcells.out i hi
          refine ⟨?_, ?_⟩
          · obtain ⟨v', hv'⟩ := cell?_setCell_some (w := wr) (p := ⟨w.heap.size, j, none⟩) (x := .slice (some ⟨wr.heap.size, 0, none⟩) n n) (q := ⟨w.heap.size, i, none⟩) (v := u') hu'
            exact ⟨v', hcw _ _ hv'⟩
          · rw [World.frozen?_of_block (Below.heap_alloc _ _ _ (by rw [hsz1]; exact hlt0)), World.frozen?_setCell]; exact hf'
      case measure => simp [intOf]; omega
    · obtain rfl : j = n := by omega
      clear hlt
      clear hm1
      go_wp2
      obtain ⟨wo, rfl⟩ : ∃ wo : World, wo = wr := ⟨_, rfl⟩
      go_loopw [24] (fun m wx => ∃ (l : Nat), l ≤ ps.length ∧ m = .int .i64 l ∧ Mat wx w.heap.size wo.heap.size w.heap.size j j row cp (matOf (ps.take l)) ∧ Below w.heap.size w wx ∧ wo.heap.size ≤ wx.heap.size) (fun m _ => ps.length - (intOf m).toNat)
      case atStart => exact ⟨0, Nat.zero_le _, rfl, Hmat.out, Hb.out, Nat.le_refl _⟩
      case round =>
        obtain ⟨l, hll, rfl, hmx, hbx, hsx⟩ := hrel
        have Hmx := Lib.hid hmx
        have Hbx := Lib.hid hbx
        clear hmx hbx
        by_cases hlt : l < ps.length
        · obtain ⟨b, off, ⟨pi, pk, px⟩, rfl, hbB, hpk, c1, c2, c3⟩ := pairs_at (hp.below (Hbx.out.mono hB)) hlt
          have hokp := Hok.out _ (List.mem_of_getElem? hpk)
          simp only [okP, decide_eq_true_eq] at hokp c1 c2 c3
          obtain ⟨o1, o2, o3, o4, o5⟩ := hokp
          obtain ⟨a, rfl⟩ := Int.eq_ofNat_of_zero_le o1
          obtain ⟨c, rfl⟩ := Int.eq_ofNat_of_zero_le (show 0 ≤ pk by omega)
          have hac : a < c := by omega
          have hcj : c < j := by omega
          have hb1 : b < wr.heap.size := by omega
          have Hpk := Lib.hid hpk
          clear hpk
          go_wp2
          have q1 : (wr.alloc (.cells #[.int .i64 a, .int .i64 c, .int .i64 px] 28)).cell? ⟨wr.heap.size, 0, none⟩ = some (.int .i64 a) := (Blk.new wr _ _).cell 0
          have q2 : (wr.alloc (.cells #[.int .i64 a, .int .i64 c, .int .i64 px] 28)).cell? ⟨wr.heap.size, 1, none⟩ = some (.int .i64 c) := (Blk.new wr _ _).cell 1
          have q3 : (wr.alloc (.cells #[.int .i64 a, .int .i64 c, .int .i64 px] 28)).cell? ⟨wr.heap.size, 2, none⟩ = some (.int .i64 px) := (Blk.new wr _ _).cell 2
          have hmy := Hmx.out.alloc hsx (.cells #[.int .i64 a, .int .i64 c, .int .i64 px] 28)
          have hby := Hbx.out.alloc (by omega) (.cells #[.int .i64 a, .int .i64 c, .int .i64 px] 28)
          have hsy : wo.heap.size + 1 ≤ (wr.alloc (.cells #[.int .i64 a, .int .i64 c, .int .i64 px] 28)).heap.size := by simp; omega
          generalize wr.alloc (.cells #[.int .i64 a, .int .i64 c, .int .i64 px] 28) = w1 at *
          have Hmy := Lib.hid hmy
          have Hby := Lib.hid hby
          clear hmy hby Hmx Hbx c1 c2 c3
          have m1 := Hmy.out.outer a (by omega)
          have m2 := Hmy.out.outer c (by omega)
          have m3 := Hmy.out.inner a c (by omega) hcj
          have m4 := Hmy.out.inner c a hcj (by omega)
          have m5 := Hmy.out.thaw a c (by omega) hcj
          have m6 := Hmy.out.thaw c a hcj (by omega)
          have r1 := (Hmy.out.rlo a (by omega)).2.1
          have r2 := (Hmy.out.rlo c hcj).2.1
          have r5 := (Hmy.out.rlo a (by omega)).2.2
          have r6 := (Hmy.out.rlo c hcj).2.2
          have r3 : row a ≠ row c := fun e => by have := Hmy.out.inj a c (by omega) hcj e; omega
          have r7 : row a ≠ wr.heap.size := by omega
          have r8 : row c ≠ wr.heap.size := by omega
          go_region
          go_wp2
          go_roundw
          case rel =>
            refine ⟨l + 1, by omega, by go_num, ?_, ((Hby.out.setCell (p := ⟨row a, c, none⟩) (Hmy.out.rlo a (by omega)).1 _).setCell (p := ⟨row c, a, none⟩) (Hmy.out.rlo c hcj).1 _).drew, by simp [World.setCell]; omega⟩
            refine ((((Hmy.out.set_ (i := a) (j := c) (by omega) px).set_ (i := c) (j := a) hcj px)).ext ?_).drew
            intro x y _ _
            rw [take_snoc Hpk.out, matOf, matOf, List.foldl_append]
            simp only [List.foldl_cons, List.foldl_nil, matSet, Int.toNat_natCast]
            by_cases e1 : x = c ∧ y = a
            · simp [e1]
            · by_cases e2 : x = a ∧ y = c
              · simp [e2]
              · simp [e1, e2]
          case measure => simp [intOf]; omega
        · have e : ps.take l = ps := List.take_of_length_le (by omega)
          rw [e] at Hmx
          go_wp2
          go_ret
          exact ⟨w.heap.size, row, cp, rfl, Hmx.out.more (Nat.le_refl _) hsx, Hbx.out⟩
end Go.Proofs.Ytmjicfafjjgekaa
