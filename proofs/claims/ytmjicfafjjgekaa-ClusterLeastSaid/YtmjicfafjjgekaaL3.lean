/- L3: the walk of the law ClusterErrors. -/
import Derived.Test.YtmjicfafjjgekaaW2
import Derived.Test.YtmjicfafjjgekaaW7
import Derived.Test.YtmjicfafjjgekaaOpen
import Derived.Test.YtmjicfafjjgekaaW15
namespace Go.Proofs.Ytmjicfafjjgekaa
open Go.RowKit Go.Dr

theorem clonePairs' (A : Option Addr) (cap : Nat) (ps : List P3) (B : Nat) (w : World) (hB : B ≤ w.heap.size) (hl : ps.length ≤ 100000) (hp : PairsAt w B A ps) (hA : A = none → ps = []) :
    Calls Try.prog 13 #[.slice A ps.length cap] w fun e w' => ∃ A2 c2, e = .returned (.slice A2 ps.length c2) ∧ RowAt w' w'.heap.size A2 (ps.flatMap pc) ∧ Below w.heap.size w w' := by
  refine (clonePairs A cap ps B w hB hl hp hA).mono fun e w2 ⟨v, he, ho2, hb2, _⟩ => ?_
  obtain ⟨A2, c2, hv⟩ : ∃ A2 c2, v = .slice A2 ps.length c2 := by
    rcases ho2.2 with ⟨h, h0⟩ | ⟨g, cap, cur, h, _⟩
    · exact ⟨none, 0, by rw [h, h0]⟩
    · exact ⟨_, _, h⟩
  subst hv
  exact ⟨A2, c2, he, RowAt.of_own ho2, hb2⟩

set_option maxRecDepth 100000 in
set_option maxHeartbeats 1000000 in
theorem lawErrors (n : Int) (A : Option Addr) (len cap : Nat) (w : World) (hlen : len ≤ 9223372036854775807) (h : ∃ ps, PairsIn w A len ps) :
    Calls Try.prog 5 #[.int .i64 n, .slice A len cap] w fun e w' => e = .returned (.bool true) ∧ Below w.heap.size w w' := by
  obtain ⟨ps, hps⟩ := h
  have hl := hps.len
  have hrow := hps.row
  have hnil := hps.nil
  clear hps
  subst hl
  have Hrow := Lib.hid hrow
  have Hnil := Lib.hid hnil
  clear hrow hnil
  by_cases hle : ps.length ≤ 30
  · obtain ⟨E, hE⟩ : ∃ E, E = valid n ps := ⟨_, rfl⟩
    have HE := Lib.hid hE
    by_cases hE0 : E = 0
    · by_cases hn10 : 10 < n
      · have Hv := Lib.hid (hE.symm.trans hE0)
        clear hE hE0
        go_enter Try.func5, Try.ntmps5
        go_wp2_with fail
        refine (awake_any _).mono ?_
        rintro e w1 ⟨rfl, hb1⟩
        have Hb1 := Lib.hid hb1
        have hs1 := hb1.size
        have Hr1 := Lib.hid (Hrow.out.call hb1 (Nat.le_refl _))
        clear hb1
        have hcv := rvalid_any n A cap ps w.heap.size w1 hs1 (by omega) Hr1.out
        rw [Hv.out] at hcv
        have Hcv := Lib.hid hcv
        clear hcv
        go_wp2_with fail
        refine Hcv.out.mono ?_
        rintro e w2 ⟨rfl, hb2⟩
        have Hb2 := Lib.hid hb2
        have hs2 := hb2.size
        have Hr2 := Lib.hid (Hr1.out.call hb2 hs1)
        clear hb2 Hr1
        go_wp2_with fail
        refine (clonePairs' A cap ps w.heap.size w2 (by omega) (by omega) Hr2.out Hnil.out).mono ?_
        rintro e w3 ⟨A3, c3, rfl, hr3, hb3⟩
        have Hb3 := Lib.hid hb3
        have hs3 := hb3.size
        have Hr3 := Lib.hid hr3
        clear hb3 Hr2 hr3
        go_wp2_with fail
        refine (optimal_large n A3 c3 ps w3.heap.size w3 (Nat.le_refl _) (by omega) Hr3.out Hv.out hn10).mono ?_
        rintro e w4 ⟨rfl, hb4⟩
        have Hb4 := Lib.hid hb4
        clear hb4
        go_wp2_with fail
        go_ret
        exact ⟨rfl, ((Hb1.out.trans (Hb2.out.mono hs1)).trans (Hb3.out.mono (by omega))).trans (Hb4.out.mono (by omega))⟩
      · have Hv := Lib.hid (hE.symm.trans hE0)
        clear hE hE0
        go_enter Try.func5, Try.ntmps5
        go_wp2_with fail
        refine (awake_any _).mono ?_
        rintro e w1 ⟨rfl, hb1⟩
        have Hb1 := Lib.hid hb1
        have hs1 := hb1.size
        have Hr1 := Lib.hid (Hrow.out.call hb1 (Nat.le_refl _))
        clear hb1
        have hcv := rvalid_any n A cap ps w.heap.size w1 hs1 (by omega) Hr1.out
        rw [Hv.out] at hcv
        have Hcv := Lib.hid hcv
        clear hcv
        go_wp2_with fail
        refine Hcv.out.mono ?_
        rintro e w2 ⟨rfl, hb2⟩
        have Hb2 := Lib.hid hb2
        clear hb2
        go_wp2_with fail
        go_ret
        exact ⟨rfl, Hb1.out.trans (Hb2.out.mono hs1)⟩
    · have hne : (E != 0) = true := by simpa using hE0
      have Hv := Lib.hid (show valid n ps ≠ 0 from fun h => hE0 (hE.trans h))
      clear hE hE0
      go_enter Try.func5, Try.ntmps5
      go_wp2_with fail
      refine (awake_any _).mono ?_
      rintro e w1 ⟨rfl, hb1⟩
      have Hb1 := Lib.hid hb1
      have hs1 := hb1.size
      have Hr1 := Lib.hid (Hrow.out.call hb1 (Nat.le_refl _))
      clear hb1
      have hcv := rvalid_any n A cap ps w.heap.size w1 hs1 (by omega) Hr1.out
      rw [← HE.out] at hcv
      have Hcv := Lib.hid hcv
      clear hcv
      go_wp2_with fail
      refine Hcv.out.mono ?_
      rintro e w2 ⟨rfl, hb2⟩
      have Hb2 := Lib.hid hb2
      have hs2 := hb2.size
      have Hr2 := Lib.hid (Hr1.out.call hb2 hs1)
      clear hb2 Hr1
      go_wp2_with fail
      refine (clonePairs' A cap ps w.heap.size w2 (by omega) (by omega) Hr2.out Hnil.out).mono ?_
      rintro e w3 ⟨A3, c3, rfl, hr3, hb3⟩
      have Hb3 := Lib.hid hb3
      have hs3 := hb3.size
      have Hr23 := Lib.hid (Hr2.out.call hb3 (by omega))
      have hbe := bound_err n A3 c3 ps w3.heap.size w3 (Nat.le_refl _) (by omega) hr3 Hv.out
      rw [← HE.out] at hbe
      have Hbe := Lib.hid hbe
      clear hb3 Hr2 hr3 hbe
      go_wp2_with fail
      refine Hbe.out.mono ?_
      rintro e w4 ⟨rfl, hb4⟩
      have Hb4 := Lib.hid hb4
      have hs4 := hb4.size
      have Hr4 := Lib.hid (Hr23.out.call hb4 (by omega))
      clear hb4 Hr23
      go_wp2_with fail
      refine (clonePairs' A cap ps w.heap.size w4 (by omega) (by omega) Hr4.out Hnil.out).mono ?_
      rintro e w5 ⟨A5, c5, rfl, hr5, hb5⟩
      have Hb5 := Lib.hid hb5
      have hs5 := hb5.size
      have hoe := optimal_err n A5 c5 ps w5.heap.size w5 (Nat.le_refl _) (by omega) hr5 Hv.out
      rw [← HE.out] at hoe
      have Hoe := Lib.hid hoe
      clear hb5 hr5 hoe Hr4
      go_wp2_with fail
      refine Hoe.out.mono ?_
      rintro e w6 ⟨rfl, hb6⟩
      have Hb6 := Lib.hid hb6
      clear hb6
      go_wp2_with fail
      go_ret
      exact ⟨rfl, ((((Hb1.out.trans (Hb2.out.mono hs1)).trans (Hb3.out.mono (by omega))).trans (Hb4.out.mono (by omega))).trans (Hb5.out.mono (by omega))).trans (Hb6.out.mono (by omega))⟩
  · go_enter Try.func5, Try.ntmps5
    go_wp2_with fail
    refine (awake_any _).mono ?_
    rintro e w1 ⟨rfl, hb1⟩
    have Hb1 := Lib.hid hb1
    have hs1 := hb1.size
    clear hb1
    go_wp2_with fail
    refine (awake_any _).mono ?_
    rintro e w2 ⟨rfl, hb2⟩
    have Hb2 := Lib.hid hb2
    clear hb2
    go_wp2_with fail
    go_ret
    exact ⟨rfl, Hb1.out.trans (Hb2.out.mono hs1)⟩
end Go.Proofs.Ytmjicfafjjgekaa
