/- W15: the walk of the law's own examples (awake). -/
import Derived.Test.YtmjicfafjjgekaaW13
import Derived.Test.YtmjicfafjjgekaaW14
namespace Go.Proofs.Ytmjicfafjjgekaa
open Go.RowKit Go.Dr

def l3 : List P3 := [⟨0, 1, 5⟩, ⟨1, 2, 3⟩, ⟨0, 2, -4⟩]
def l2 : List P3 := [⟨0, 1, 5⟩, ⟨1, 2, 3⟩]
theorem l3_valid : valid (3 : Nat) l3 = 0 := by decide +kernel
theorem l2_valid : valid (3 : Nat) l2 = 0 := by decide +kernel
theorem l3_best : optBest 3 (matOf l3) = [0, 0, 1] := by decide +kernel
theorem l3_least : (optSt 3 (matOf l3)).least = 3 := by decide +kernel
theorem l2_best : optBest 3 (matOf l2) = [0, 0, 0] := by decide +kernel
theorem l2_least : (optSt 3 (matOf l2)).least = 0 := by decide +kernel
theorem l3_sum : (boundSt 3 (matOf l3)).sum = 3 := by decide +kernel
theorem l3_out : (boundSt 3 (matOf l3)).out.length = 1 := by decide +kernel
theorem l3_pivot : pivot 3 (matOf l3) = [0, 0, 1] := by decide +kernel

abbrev lcells : Array Value := #[.int .i64 0, .int .i64 1, .int .i64 5, .int .i64 1, .int .i64 2, .int .i64 3, .int .i64 0, .int .i64 2, .int .i64 (-4)]

theorem opt_l3 (b B : Nat) (W : World) (hB : B ≤ W.heap.size) (h : RowAt W B (some ⟨b, 0, none⟩) (l3.flatMap pc)) :
    Calls Try.prog 16 #[.int .i64 3, .slice (some ⟨b, 0, none⟩) 3 3] W fun e w' => ∃ q c, e = .returned (.tuple #[.slice (some ⟨q, 0, none⟩) 3 c, .int .i64 3, .int .i64 0]) ∧ RowAt w' w'.heap.size (some ⟨q, 0, none⟩) (ints [0, 0, 1]) ∧ Below W.heap.size W w' := by
  have := optimal_ok 3 (some ⟨b, 0, none⟩) 3 l3 B W hB (by decide) h l3_valid (by decide)
  rw [l3_best, l3_least] at this
  exact this
theorem opt_l2 (b B : Nat) (W : World) (hB : B ≤ W.heap.size) (h : RowAt W B (some ⟨b, 0, none⟩) (l2.flatMap pc)) :
    Calls Try.prog 16 #[.int .i64 3, .slice (some ⟨b, 0, none⟩) 2 3] W fun e w' => ∃ q c, e = .returned (.tuple #[.slice (some ⟨q, 0, none⟩) 3 c, .int .i64 0, .int .i64 0]) ∧ RowAt w' w'.heap.size (some ⟨q, 0, none⟩) (ints [0, 0, 0]) ∧ Below W.heap.size W w' := by
  have := optimal_ok 3 (some ⟨b, 0, none⟩) 3 l2 B W hB (by decide) h l2_valid (by decide)
  rw [l2_best, l2_least] at this
  exact this
theorem bound_l3 (b B : Nat) (W : World) (hB : B ≤ W.heap.size) (h : RowAt W B (some ⟨b, 0, none⟩) (l3.flatMap pc)) :
    Calls Try.prog 19 #[.int .i64 3, .slice (some ⟨b, 0, none⟩) 3 3] W fun e w' => ∃ A' c, e = .returned (.tuple #[.slice A' 1 c, .int .i64 3, .int .i64 0]) ∧ Below W.heap.size W w' := by
  have := bound_ok 3 (some ⟨b, 0, none⟩) 3 l3 B W hB (by decide) h l3_valid (by decide)
  rw [l3_out, l3_sum] at this
  exact this.mono fun _ _ ⟨A', c, h1, _, h2⟩ => ⟨A', c, h1, h2⟩
theorem pivot_l3 (b B : Nat) (W : World) (hB : B ≤ W.heap.size) (h : RowAt W B (some ⟨b, 0, none⟩) (l3.flatMap pc)) :
    Calls Try.prog 25 #[.int .i64 3, .slice (some ⟨b, 0, none⟩) 3 3] W fun e w' => ∃ g, e = .returned (.tuple #[.slice (some ⟨g, 0, none⟩) 3 3, .int .i64 0]) ∧ RowAt w' w'.heap.size (some ⟨g, 0, none⟩) (ints [0, 0, 1]) ∧ Below W.heap.size W w' := by
  have := pivot_ok 3 (some ⟨b, 0, none⟩) 3 l3 B W hB (by decide) h l3_valid (by decide)
  rw [l3_pivot] at this
  exact this.mono fun _ _ ⟨g, h1, h2, h3⟩ => ⟨g, h1, by simpa using h2.row, h3⟩
theorem equal_true (A A' : Option Addr) (c c' n m : Nat) (xs : List Int) (hn : xs.length = n) (hm : xs.length = m) (B B' : Nat) (w : World) (hl : n ≤ 100000) (hp : RowAt w B A (ints xs)) (hq : RowAt w B' A' (ints xs)) :
    Calls Try.prog 18 #[.slice A n c, .slice A' m c'] w fun e w' => e = .returned (.bool true) ∧ ∃ q, w' = w.drewN q := by
  subst hn
  subst hm
  have := equalInts A A' c c' xs xs B B' w hl hl hp hq
  simpa using this

set_option maxRecDepth 100000 in
set_option maxHeartbeats 1000000 in
theorem awake_any (w : World) : Calls Try.prog 11 #[] w fun e w' => e = .returned (.bool true) ∧ Below w.heap.size w w' := by
  have hrow : RowAt (w.alloc (.cells lcells 28)) (w.heap.size + 1) (some ⟨w.heap.size, 0, none⟩) (l3.flatMap pc) := by
    have := (Blk.new w 28 lcells).row
    simpa [l3, pc] using this
  have hrow2 : RowAt (w.alloc (.cells lcells 28)) (w.heap.size + 1) (some ⟨w.heap.size, 0, none⟩) (l2.flatMap pc) := fun _ => by
    obtain ⟨b, off, e, hb, hc⟩ := hrow (by decide)
    refine ⟨b, off, e, hb, fun j u hu => hc j u ?_⟩
    rw [show l3.flatMap pc = l2.flatMap pc ++ pc ⟨0, 2, -4⟩ from rfl, List.getElem?_append_left (List.getElem?_eq_some_iff.1 hu).1]
    exact hu
  have H1 := Lib.hid (opt_l3 w.heap.size (w.heap.size + 1) _ (by simp) hrow)
  have Hrow := Lib.hid hrow
  have Hrow2 := Lib.hid hrow2
  clear hrow hrow2
  go_enter Try.func11, Try.ntmps11
  go_wp2_with fail
  refine H1.out.mono ?_
  rintro e w1 ⟨q1, d1, rfl, hr1, hb1⟩
  have hs1 := hb1.size
  simp at hs1
  have Hr1 := Lib.hid hr1
  have Hbw1 := Lib.hid (((Below.refl w.heap.size w).alloc (Nat.le_refl _) _).trans (hb1.mono (by simp)))
  have Hrow1 := Lib.hid (Hrow.out.call hb1 (by simp))
  have H2 := Lib.hid (opt_l2 w.heap.size (w.heap.size + 1) w1 hs1 (Hrow2.out.call hb1 (by simp)))
  clear hr1 hb1 H1 Hrow Hrow2
  go_wp2_with fail
  refine H2.out.mono ?_
  rintro e w2 ⟨q2, d2, rfl, hr2, hb2⟩
  have hs2 := hb2.size
  have Hr2 := Lib.hid hr2
  have Hr12 := Lib.hid (Hr1.out.call hb2 (Nat.le_refl _))
  have Hbw2 := Lib.hid (Hbw1.out.trans (hb2.mono (by omega)))
  have Hrow2 := Lib.hid (Hrow1.out.call hb2 hs1)
  have H3 := Lib.hid (bound_l3 w.heap.size (w.heap.size + 1) w2 (by omega) Hrow2.out)
  clear hr2 hb2 H2 Hrow1 Hbw1 Hr1
  go_wp2_with fail
  refine H3.out.mono ?_
  rintro e w3 ⟨A3, d3, rfl, hb3⟩
  have hs3 := hb3.size
  have Hr13 := Lib.hid (Hr12.out.call hb3 (by omega))
  have Hr23 := Lib.hid (Hr2.out.call hb3 (Nat.le_refl _))
  have Hbw3 := Lib.hid (Hbw2.out.trans (hb3.mono (by omega)))
  have H4 := Lib.hid (pivot_l3 w.heap.size (w.heap.size + 1) w3 (by omega) (Hrow2.out.call hb3 (by omega)))
  clear hb3 H3 Hrow2 Hbw2 Hr12 Hr2
  go_wp2_with fail
  refine H4.out.mono ?_
  rintro e w4 ⟨q4, rfl, hr4, hb4⟩
  have hs4 := hb4.size
  have Hr14 := Lib.hid (Hr13.out.call hb4 (by omega))
  have Hr24 := Lib.hid (Hr23.out.call hb4 (by omega))
  have Hr44 := Lib.hid hr4
  have Hbw4 := Lib.hid (Hbw3.out.trans (hb4.mono (by omega)))
  clear hb4 H4 Hbw3 Hr13 Hr23 hr4
  go_wp2_with fail
  refine (equal_true (some ⟨q1, 0, none⟩) (some ⟨w4.heap.size, 0, none⟩) d1 3 3 3 [0, 0, 1] rfl rfl w1.heap.size (w4.heap.size + 1) _ (by decide) (Hr14.out.alloc (by omega) _) (by have := (Blk.new w4 3 #[.int .i64 0, .int .i64 0, .int .i64 1]).row; simpa using this)).mono ?_
  rintro e w5 ⟨rfl, x5, rfl⟩
  go_wp2_with fail
  refine (equal_true (some ⟨q2, 0, none⟩) (some ⟨w4.heap.size + 1, 0, none⟩) d2 3 3 3 [0, 0, 0] rfl rfl w2.heap.size (w4.heap.size + 2) _ (by decide) (((Hr24.out.alloc (by omega) _).drewN _).alloc (by show _ ≤ (w4.alloc _).heap.size; simp; omega) _)
    (by have := (Blk.new ((w4.alloc (.cells #[.int .i64 0, .int .i64 0, .int .i64 1] 3)).drewN x5) 3 #[.int .i64 0, .int .i64 0, .int .i64 0]).row; simpa using this)).mono ?_
  rintro e w6 ⟨rfl, x6, rfl⟩
  go_wp2_with fail
  refine (equal_true (some ⟨q4, 0, none⟩) (some ⟨w4.heap.size + 2, 0, none⟩) 3 3 3 3 [0, 0, 1] rfl rfl w4.heap.size (w4.heap.size + 3) _ (by decide)
    (((((Hr44.out.alloc (Nat.le_refl _) _).drewN _).alloc (by show _ ≤ (w4.alloc _).heap.size; simp) _).drewN _).alloc (by show _ ≤ (((w4.alloc _).drewN _).alloc _).heap.size; simp; omega) _)
    (by have := (Blk.new ((((w4.alloc (.cells #[.int .i64 0, .int .i64 0, .int .i64 1] 3)).drewN x5).alloc (.cells #[.int .i64 0, .int .i64 0, .int .i64 0] 3)).drewN x6) 3 #[.int .i64 0, .int .i64 0, .int .i64 1]).row; simpa using this)).mono ?_
  rintro e w7 ⟨rfl, x7, rfl⟩
  go_wp2_with fail
  go_ret
  have hsz := Hbw4.out.size
  exact ⟨rfl, below_drewN ((below_drewN ((below_drewN (Hbw4.out.alloc (by omega) _) _).alloc (by show _ ≤ (w4.alloc _).heap.size; simp; omega) _) _).alloc (by show _ ≤ (((w4.alloc _).drewN _).alloc _).heap.size; simp; omega) _) _⟩
end Go.Proofs.Ytmjicfafjjgekaa
