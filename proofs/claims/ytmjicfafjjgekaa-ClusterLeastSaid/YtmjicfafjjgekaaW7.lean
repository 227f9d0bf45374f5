/- W7: the walk of cluster.Optimal: its errors, and its result. -/
import Derived.Test.YtmjicfafjjgekaaW3
import Derived.Test.YtmjicfafjjgekaaW5
import Derived.Test.YtmjicfafjjgekaaW6
import Derived.Test.YtmjicfafjjgekaaSpec3
import Derived.Deep.RegionWith
namespace Go.Proofs.Ytmjicfafjjgekaa
open Go.RowKit Go.Dr

theorem foldl_bd (ps : List P3) : ∀ (f : Nat → Nat → Int), (∀ p ∈ ps, -1000 ≤ p.x ∧ p.x ≤ 1000) → (∀ i j, -1000 ≤ f i j ∧ f i j ≤ 1000) → ∀ i j, -1000 ≤ ps.foldl matSet f i j ∧ ps.foldl matSet f i j ≤ 1000 := by
  induction ps with
  | nil => intro f _ h; exact h
  | cons p ps ih =>
    intro f hp h
    refine ih _ (fun q hq => hp q (List.mem_cons_of_mem _ hq)) (fun i j => ?_)
    unfold matSet
    split
    · exact hp p List.mem_cons_self
    · exact h i j
theorem matOf_bd {n : Int} {ps : List P3} (h : ∀ p ∈ ps, okP n p = true) (i j : Nat) : -1000 ≤ matOf ps i j ∧ matOf ps i j ≤ 1000 :=
  foldl_bd ps _ (fun p hp => by have := h p hp; simp only [okP, decide_eq_true_eq] at this; omega) (fun _ _ => by omega) i j

theorem make35 (n : Nat) (hn : n ≤ 100000) (w : World) : (Instr.makeSlice 35 (.int .i64 (n : Int)) (.int .i64 (n : Int))).run Try.prog w = .ok (.slice (some ⟨w.heap.size, 0, none⟩) n n) (w.alloc (.cells (zeros n) 3)) := by
  obtain ⟨i0, hi, hz0, hz1, hz2⟩ := info_parts Try.info3
  have := run_make (P := Try.prog) w 35 3 i0 _ Try.underlying35 hi hz0 .i64 .i64 n n (by omega) (by omega) (by rw [hz2]; omega) (by omega)
  rw [hz1] at this
  simpa [zeros, Value.cells] using this
theorem zeros_eq (n : Nat) : zeros n = (ints (List.replicate n 0)).toArray := by
  apply Array.toList_inj.1
  rw [zeros, toList_madeCells_one]
  simp

set_option maxRecDepth 100000 in
set_option maxHeartbeats 1000000 in
theorem optimal_err (n : Int) (A : Option Addr) (cap : Nat) (ps : List P3) (B : Nat) (w : World) (hB : B ≤ w.heap.size) (hl : ps.length ≤ 100000) (hp : PairsAt w B A ps) (hv : valid n ps ≠ 0) :
    Calls Try.prog 16 #[.int .i64 n, .slice A ps.length cap] w fun e w' => e = .returned (.tuple #[.slice none 0 0, .int .i64 0, .int .i64 (valid n ps)]) ∧ Below w.heap.size w w' := by
  have hc := cvalid_any n A cap ps B w hB hl hp
  obtain ⟨e, he⟩ : ∃ e, e = valid n ps := ⟨_, rfl⟩
  rw [← he] at hc hv ⊢
  have hv' : (e != 0) = true := by simpa using hv
  have Hc := Lib.hid hc
  clear hc hv he
  go_enter Try.func16, Try.ntmps16
  go_wp2_with fail
  refine Hc.out.mono ?_
  rintro e' w1 ⟨rfl, hb⟩
  have Hb := Lib.hid hb
  clear hb
  go_wp2_with fail
  go_ret3
  exact ⟨rfl, Hb.out⟩

set_option maxRecDepth 100000 in
set_option maxHeartbeats 1000000 in
theorem optimal_large (n : Int) (A : Option Addr) (cap : Nat) (ps : List P3) (B : Nat) (w : World) (hB : B ≤ w.heap.size) (hl : ps.length ≤ 100000) (hp : PairsAt w B A ps) (hv : valid n ps = 0) (hn : 10 < n) :
    Calls Try.prog 16 #[.int .i64 n, .slice A ps.length cap] w fun e w' => e = .returned (.tuple #[.slice none 0 0, .int .i64 0, .int .i64 3]) ∧ Below w.heap.size w w' := by
  have hc := cvalid_any n A cap ps B w hB hl hp
  rw [hv] at hc
  have Hc := Lib.hid hc
  clear hc hv
  go_enter Try.func16, Try.ntmps16
  go_wp2_with fail
  refine Hc.out.mono ?_
  rintro e' w1 ⟨rfl, hb⟩
  have Hb := Lib.hid hb
  clear hb
  go_wp2_with fail
  go_ret3
  exact ⟨rfl, Hb.out⟩

theorem smem_start {W : World} {S L B T g n : Nat} {row cp : Nat → Nat} {f : Nat → Nat → Int} (hL : Blk W L 3 (zeros n)) (hm : Mat W B T g n n row cp f) (hLS : L < S) (hT : T ≤ S) (hS : W.heap.size = S) (hLB : L < B ∨ T ≤ L) :
    SMem (W.alloc (.cells #[.slice (some ⟨g, 0, none⟩) n n, .slice (some ⟨L, 0, none⟩) n n, .slice none 0 0, .int .i64 0] 69)) S L B T g n row cp f ⟨List.replicate n 0, none, 0⟩ (.slice none 0 0) where
  blkS := by subst hS; exact Blk.new W 69 _
  best := rfl
  blkL := by rw [zeros_eq] at hL; exact hL.alloc _
  len := by simp
  mat := hm.alloc (by omega) _
  LS := hLS
  TS := hT
  LB := hLB

set_option maxRecDepth 100000 in
set_option maxHeartbeats 1000000 in
theorem optimal_ok (n : Nat) (A : Option Addr) (cap : Nat) (ps : List P3) (B : Nat) (w : World) (hB : B ≤ w.heap.size) (hl : ps.length ≤ 100000) (hp : PairsAt w B A ps) (hv : valid n ps = 0) (hn : n ≤ 10) :
    Calls Try.prog 16 #[.int .i64 (n : Int), .slice A ps.length cap] w fun e w' => ∃ q c, e = .returned (.tuple #[.slice (some ⟨q, 0, none⟩) n c, .int .i64 (optSt n (matOf ps)).least, .int .i64 0]) ∧
      RowAt w' w'.heap.size (some ⟨q, 0, none⟩) (ints (optBest n (matOf ps))) ∧ Below w.heap.size w w' := by
  have hc := cvalid_any n A cap ps B w hB hl hp
  rw [hv] at hc
  have Hc := Lib.hid hc
  have hok : ∀ p ∈ ps, okP n p = true := by
    rcases valid_cases n ps with h | h
    · rw [hv] at h; simp at h
    · exact good_all h.2.2.2.2
  have Hok := Lib.hid hok
  have hmk := make35 n (by omega)
  clear hc hv hok
  go_enter Try.func16, Try.ntmps16
  go_wp2_with fail
  refine Hc.out.mono ?_
  rintro e' w1 ⟨rfl, hb⟩
  have Hb := Lib.hid hb
  have hs := hb.size
  clear hb
  go_wp2_with fail
  have hmat : ∀ W : World, Below B w W → Calls Try.prog 34 #[.int .i64 (n : Int), .slice A ps.length cap] W fun e w' => ∃ g row cp, e = .returned (.slice (some ⟨g, 0, none⟩) n n) ∧ Mat w' W.heap.size w'.heap.size g n n row cp (matOf ps) ∧ Below W.heap.size W w' := fun W hW =>
    matrix_any n A cap ps B W (Nat.le_trans hB hW.size) hl (by omega) (hp.below hW) Hok.out
  have Hmat := Lib.hid hmat
  clear hmat
  have hB1 := Hb.out.mono hB
  have HB1 := Lib.hid hB1
  clear hB1
  go_region_with (go_at_call 34; refine (Hmat.out _ (by first | exact HB1.out.drew | exact (HB1.out.alloc (by omega) _).drew)).mono ?_; rintro e w2 ⟨g, row, cp, rfl, hm2, hb2⟩)
  · have hsm := smem_start (S := w2.heap.size + 1) (L := w2.heap.size) (W := w2.alloc (.cells (zeros n) 3)) (Blk.new w2 3 (zeros n)) (hm2.alloc (Nat.le_refl _) _) (by omega) (by omega) (by simp) (.inr (Nat.le_refl _))
    have hb2' := hb2.size
    simp at hb2'
    have hbw : Below w.heap.size w ((w2.alloc (.cells (zeros n) 3)).alloc (.cells #[.slice (some ⟨g, 0, none⟩) n n, .slice (some ⟨w2.heap.size, 0, none⟩) n n, .slice none 0 0, .int .i64 0] 69)) :=
      ((Hb.out.trans ((Below.refl _ _).drew.trans (hb2.mono (by simp; omega)))).alloc (by omega) _).alloc (by simp; omega) _
    have hcall := from_any w.heap.size (w2.heap.size + 1) w2.heap.size _ _ g n row cp (matOf ps) (matOf_bd Hok.out) hn (by omega) (by omega) n 0 0 0 _ _ _ (by omega) (by omega) (by omega) (by omega) hsm
    have Hcall := Lib.hid hcall
    have Hbw := Lib.hid hbw
    clear hcall hsm hm2 hb2 hmk hbw
    go_wp2_with fail
    refine Hcall.out.mono ?_
    rintro e w3 ⟨rfl, ⟨bv, hsm⟩, hb3⟩
    have Hsm := Lib.hid hsm
    have Hb3 := Lib.hid hb3
    have s2 := hsm.blkS.cell 2
    have s3 := hsm.blkS.cell 3
    simp at s2 s3
    obtain ⟨bb, hbb, hbl⟩ := optSt_best n (matOf ps)
    have hbest := hsm.best
    rw [show (fromR (matOf ps) n 0 0 0 ⟨List.replicate n 0, none, 0⟩).best = some bb from hbb] at hbest
    obtain ⟨_, ⟨q, c, rfl⟩, hown⟩ := hbest
    have Hown := Lib.hid hown
    have Hbb := Lib.hid hbb
    clear hsm hb3 hown hbb hbl
    go_wp2_with fail
    go_quiet (fail)
    go_wp2_with fail
    go_ret3
    refine ⟨q, c, rfl, ?_, below_drewN (Hbw.out.trans Hb3.out) _⟩
    rw [show optBest n (matOf ps) = bb by simp [optBest, Hbb.out]]
    exact (RowAt.of_own Hown.out).drewN _
  · have hL : Blk w2 w1.heap.size 3 (zeros n) := ((Blk.new w1 3 (zeros n)).drew).call hb2
    have hb2' := hb2.size
    simp at hb2'
    have hsm := smem_start (S := w2.heap.size) (L := w1.heap.size) hL hm2 (by omega) (by omega) rfl (.inl (by simp))
    have hbw : Below w.heap.size w (w2.alloc (.cells #[.slice (some ⟨g, 0, none⟩) n n, .slice (some ⟨w1.heap.size, 0, none⟩) n n, .slice none 0 0, .int .i64 0] 69)) :=
      (((Hb.out.alloc (by omega) _).drew).trans (hb2.mono (by simp; omega))).alloc (by omega) _
    have hcall := from_any w.heap.size w2.heap.size w1.heap.size _ _ g n row cp (matOf ps) (matOf_bd Hok.out) hn (by omega) (by omega) n 0 0 0 _ _ _ (by omega) (by omega) (by omega) (by omega) hsm
    have Hcall := Lib.hid hcall
    have Hbw := Lib.hid hbw
    clear hcall hsm hm2 hb2 hmk hbw
    go_wp2_with fail
    refine Hcall.out.mono ?_
    rintro e w3 ⟨rfl, ⟨bv, hsm⟩, hb3⟩
    have Hsm := Lib.hid hsm
    have Hb3 := Lib.hid hb3
    have s2 := hsm.blkS.cell 2
    have s3 := hsm.blkS.cell 3
    simp at s2 s3
    obtain ⟨bb, hbb, hbl⟩ := optSt_best n (matOf ps)
    have hbest := hsm.best
    rw [show (fromR (matOf ps) n 0 0 0 ⟨List.replicate n 0, none, 0⟩).best = some bb from hbb] at hbest
    obtain ⟨_, ⟨q, c, rfl⟩, hown⟩ := hbest
    have Hown := Lib.hid hown
    have Hbb := Lib.hid hbb
    clear hsm hb3 hown hbb hbl
    go_wp2_with fail
    go_quiet (fail)
    go_wp2_with fail
    go_ret3
    refine ⟨q, c, rfl, ?_, below_drewN (Hbw.out.trans Hb3.out) _⟩
    rw [show optBest n (matOf ps) = bb by simp [optBest, Hbb.out]]
    exact (RowAt.of_own Hown.out).drewN _
end Go.Proofs.Ytmjicfafjjgekaa
