/- L1: the walk of the law ClusterValid. -/
import Derived.Test.YtmjicfafjjgekaaW2
import Derived.Test.YtmjicfafjjgekaaW3
import Derived.Test.YtmjicfafjjgekaaW4
import Derived.Test.YtmjicfafjjgekaaOpen
import Derived.Test.YtmjicfafjjgekaaW15
namespace Go.Proofs.Ytmjicfafjjgekaa
open Go.RowKit Go.Dr

set_option maxRecDepth 100000 in
set_option maxHeartbeats 1000000 in
theorem lawValid (n : Int) (A : Option Addr) (len cap : Nat) (w : World) (hlen : len ≤ 9223372036854775807) (h : ∃ ps, PairsIn w A len ps) :
    Calls Try.prog 3 #[.int .i64 n, .slice A len cap] w fun e w' => e = .returned (.bool true) ∧ Below w.heap.size w w' := by
  obtain ⟨ps, hps⟩ := h
  have hl := hps.len
  have hrow := hps.row
  have hnil := hps.nil
  clear hps
  subst hl
  have Hrow := Lib.hid hrow
  have Hnil := Lib.hid hnil
  clear hrow hnil
  by_cases hle : ps.length ≤ 30
  · go_enter Try.func3, Try.ntmps3
    go_wp2_with fail
    refine (awake_any _).mono ?_
    rintro e w1 ⟨rfl, hb1⟩
    have Hb1 := Lib.hid hb1
    have hs1 := hb1.size
    have hr1 := Hrow.out.call hb1 (Nat.le_refl _)
    have Hr1 := Lib.hid hr1
    clear hb1 hr1
    go_wp2_with fail
    refine (clonePairs A cap ps w.heap.size w1 hs1 (by omega) Hr1.out Hnil.out).mono ?_
    rintro e w2 ⟨v, rfl, ho2, hb2, _⟩
    have hs2 := hb2.size
    obtain ⟨A2, c2, hv⟩ : ∃ A2 c2, v = .slice A2 ps.length c2 := by
      rcases ho2.2 with ⟨h, h0⟩ | ⟨g, cap, cur, h, _⟩
      · exact ⟨none, 0, by rw [h, h0]⟩
      · exact ⟨_, _, h⟩
    subst hv
    have Hr2 := Lib.hid (RowAt.of_own ho2)
    have Hb2 := Lib.hid hb2
    have Hr12 := Lib.hid (Hr1.out.call hb2 hs1)
    clear ho2 hb2 Hr1
    go_wp2_with fail
    refine (cvalid_any n A2 c2 ps w2.heap.size w2 (Nat.le_refl _) (by omega) Hr2.out).mono ?_
    rintro e w3 ⟨rfl, hb3⟩
    have hs3 := hb3.size
    have Hb3 := Lib.hid hb3
    have Hr3 := Lib.hid (Hr12.out.call hb3 (by omega))
    clear hb3 Hr12 Hr2
    go_wp2_with fail
    refine (rvalid_any n A cap ps w.heap.size w3 (by omega) (by omega) Hr3.out).mono ?_
    rintro e w4 ⟨rfl, hb4⟩
    have Hb4 := Lib.hid hb4
    clear hb4
    go_wp2_with fail
    go_ret
    exact ⟨ret_bool (by simp), ((Hb1.out.trans (Hb2.out.mono hs1)).trans (Hb3.out.mono (by omega))).trans (Hb4.out.mono (by omega))⟩
  · go_enter Try.func3, Try.ntmps3
    go_wp2_with fail
    refine (awake_any _).mono ?_
    rintro e w1 ⟨rfl, hb1⟩
    have Hb1 := Lib.hid hb1
    have hs1 := hb1.size
    clear hb1
    go_wp2_with fail
    refine (awake_any _).mono ?_
    rintro e w2 ⟨rfl, hb2⟩
    have Hb2 := Lib.hid hb2
    clear hb2
    go_wp2_with fail
    go_ret
    exact ⟨rfl, Hb1.out.trans (Hb2.out.mono hs1)⟩
end Go.Proofs.Ytmjicfafjjgekaa
