/- W31: Optimal, with its list's capacity and place. -/
import Derived.Test.YtmjicfafjjgekaaW7
namespace Go.Proofs.Ytmjicfafjjgekaa
open Go.RowKit Go.Dr
theorem own_cap {w : World} {base e n q c : Nat} {xs : List Value} (h : w.ownsRow base e 1 (.slice (some ⟨q, 0, none⟩) n c) n xs) : n ≤ c ∧ base ≤ q := by
  rcases h.2 with ⟨h, _⟩ | ⟨g, cap, cur, h, h1, _, h2, _⟩
  · cases h
  · cases h
    exact ⟨h2, h1⟩
set_option maxRecDepth 100000 in
set_option maxHeartbeats 1000000 in
theorem optimal_ok2 (n : Nat) (A : Option Addr) (cap : Nat) (ps : List P3) (B : Nat) (w : World) (hB : B ≤ w.heap.size) (hl : ps.length ≤ 100000) (hp : PairsAt w B A ps) (hv : valid n ps = 0) (hn : n ≤ 10) :
    Calls Try.prog 16 #[.int .i64 (n : Int), .slice A ps.length cap] w fun e w' => ∃ q c, e = .returned (.tuple #[.slice (some ⟨q, 0, none⟩) n c, .int .i64 (optSt n (matOf ps)).least, .int .i64 0]) ∧
      n ≤ c ∧ w.heap.size ≤ q ∧ RowAt w' w'.heap.size (some ⟨q, 0, none⟩) (ints (optBest n (matOf ps))) ∧ Below w.heap.size w w' := by
  have hc := cvalid_any n A cap ps B w hB hl hp
  rw [hv] at hc
  have Hc := Lib.hid hc
  have hok : ∀ p ∈ ps, okP n p = true := by
    rcases valid_cases n ps with h | h
    · rw [hv] at h; simp at h
    · exact good_all h.2.2.2.2
  have Hok := Lib.hid hok
  have hmk := make35 n (by omega)
  clear hc hv hok
  go_enter Try.func16, Try.ntmps16
  go_wp2_with fail
  refine Hc.out.mono ?_
  rintro e' w1 ⟨rfl, hb⟩
  have Hb := Lib.hid hb
  have hs := hb.size
  clear hb
  go_wp2_with fail
  have hmat : ∀ W : World, Below B w W → Calls Try.prog 34 #[.int .i64 (n : Int), .slice A ps.length cap] W fun e w' => ∃ g row cp, e = .returned (.slice (some ⟨g, 0, none⟩) n n) ∧ Mat w' W.heap.size w'.heap.size g n n row cp (matOf ps) ∧ Below W.heap.size W w' := fun W hW =>
    matrix_any n A cap ps B W (Nat.le_trans hB hW.size) hl (by omega) (hp.below hW) Hok.out
  have Hmat := Lib.hid hmat
  clear hmat
  have hB1 := Hb.out.mono hB
  have HB1 := Lib.hid hB1
  clear hB1
  go_region_with (go_at_call 34; refine (Hmat.out _ (by first | exact HB1.out.drew | exact (HB1.out.alloc (by omega) _).drew)).mono ?_; rintro e w2 ⟨g, row, cp, rfl, hm2, hb2⟩)
  · have hsm := smem_start (S := w2.heap.size + 1) (L := w2.heap.size) (W := w2.alloc (.cells (zeros n) 3)) (Blk.new w2 3 (zeros n)) (hm2.alloc (Nat.le_refl _) _) (by omega) (by omega) (by simp) (.inr (Nat.le_refl _))
    have hb2' := hb2.size
    simp at hb2'
    have hbw : Below w.heap.size w ((w2.alloc (.cells (zeros n) 3)).alloc (.cells #[.slice (some ⟨g, 0, none⟩) n n, .slice (some ⟨w2.heap.size, 0, none⟩) n n, .slice none 0 0, .int .i64 0] 69)) :=
      ((Hb.out.trans ((Below.refl _ _).drew.trans (hb2.mono (by simp; omega)))).alloc (by omega) _).alloc (by simp; omega) _
    have hcall := from_any w.heap.size (w2.heap.size + 1) w2.heap.size _ _ g n row cp (matOf ps) (matOf_bd Hok.out) hn (by omega) (by omega) n 0 0 0 _ _ _ (by omega) (by omega) (by omega) (by omega) hsm
    have Hcall := Lib.hid hcall
    have Hbw := Lib.hid hbw
    clear hcall hsm hm2 hb2 hmk hbw
    go_wp2_with fail
    refine Hcall.out.mono ?_
    rintro e w3 ⟨rfl, ⟨bv, hsm⟩, hb3⟩
    have Hsm := Lib.hid hsm
    have Hb3 := Lib.hid hb3
    have s2 := hsm.blkS.cell 2
    have s3 := hsm.blkS.cell 3
    simp at s2 s3
    obtain ⟨bb, hbb, hbl⟩ := optSt_best n (matOf ps)
    have hbest := hsm.best
    rw [show (fromR (matOf ps) n 0 0 0 ⟨List.replicate n 0, none, 0⟩).best = some bb from hbb] at hbest
    obtain ⟨_, ⟨q, c, rfl⟩, hown⟩ := hbest
    have Hown := Lib.hid hown
    have Hbb := Lib.hid hbb
    clear hsm hb3 hown hbb hbl
    go_wp2_with fail
    go_quiet (fail)
    go_wp2_with fail
    go_ret3
    refine ⟨q, c, rfl, (own_cap Hown.out).1, Nat.le_trans (by omega) (own_cap Hown.out).2, ?_, below_drewN (Hbw.out.trans Hb3.out) _⟩
    rw [show optBest n (matOf ps) = bb by simp [optBest, Hbb.out]]
    exact (RowAt.of_own Hown.out).drewN _
  · have hL : Blk w2 w1.heap.size 3 (zeros n) := ((Blk.new w1 3 (zeros n)).drew).call hb2
    have hb2' := hb2.size
    simp at hb2'
    have hsm := smem_start (S := w2.heap.size) (L := w1.heap.size) hL hm2 (by omega) (by omega) rfl (.inl (by simp))
    have hbw : Below w.heap.size w (w2.alloc (.cells #[.slice (some ⟨g, 0, none⟩) n n, .slice (some ⟨w1.heap.size, 0, none⟩) n n, .slice none 0 0, .int .i64 0] 69)) :=
      (((Hb.out.alloc (by omega) _).drew).trans (hb2.mono (by simp; omega))).alloc (by omega) _
    have hcall := from_any w.heap.size w2.heap.size w1.heap.size _ _ g n row cp (matOf ps) (matOf_bd Hok.out) hn (by omega) (by omega) n 0 0 0 _ _ _ (by omega) (by omega) (by omega) (by omega) hsm
    have Hcall := Lib.hid hcall
    have Hbw := Lib.hid hbw
    clear hcall hsm hm2 hb2 hmk hbw
    go_wp2_with fail
    refine Hcall.out.mono ?_
    rintro e w3 ⟨rfl, ⟨bv, hsm⟩, hb3⟩
    have Hsm := Lib.hid hsm
    have Hb3 := Lib.hid hb3
    have s2 := hsm.blkS.cell 2
    have s3 := hsm.blkS.cell 3
    simp at s2 s3
    obtain ⟨bb, hbb, hbl⟩ := optSt_best n (matOf ps)
    have hbest := hsm.best
    rw [show (fromR (matOf ps) n 0 0 0 ⟨List.replicate n 0, none, 0⟩).best = some bb from hbb] at hbest
    obtain ⟨_, ⟨q, c, rfl⟩, hown⟩ := hbest
    have Hown := Lib.hid hown
    have Hbb := Lib.hid hbb
    clear hsm hb3 hown hbb hbl
    go_wp2_with fail
    go_quiet (fail)
    go_wp2_with fail
    go_ret3
    refine ⟨q, c, rfl, (own_cap Hown.out).1, Nat.le_trans (by omega) (own_cap Hown.out).2, ?_, below_drewN (Hbw.out.trans Hb3.out) _⟩
    rw [show optBest n (matOf ps) = bb by simp [optBest, Hbb.out]]
    exact (RowAt.of_own Hown.out).drewN _
end Go.Proofs.Ytmjicfafjjgekaa
