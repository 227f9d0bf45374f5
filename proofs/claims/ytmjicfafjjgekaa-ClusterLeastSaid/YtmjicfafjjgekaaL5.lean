/- L5: the walk of the law ClusterCost. -/
import Derived.Test.YtmjicfafjjgekaaL3
import Derived.Test.YtmjicfafjjgekaaW16
import Derived.Test.YtmjicfafjjgekaaW17
import Derived.Test.YtmjicfafjjgekaaOpen2
namespace Go.Proofs.Ytmjicfafjjgekaa
open Go.RowKit Go.Dr

theorem cloneIntsS (A : Option Addr) (cap : Nat) (xs : List Int) (B : Nat) (w : World) (hB : B ≤ w.heap.size) (hl : xs.length ≤ 100000) (hp : RowAt w B A (ints xs)) (hA : A = none → xs = []) :
    Calls Try.prog 23 #[.slice A xs.length cap] w fun e w' => ∃ A2 c2, e = .returned (.slice A2 xs.length c2) ∧ RowAt w' w'.heap.size A2 (ints xs) ∧ Below w.heap.size w w' := by
  refine (cloneInts A cap xs B w hB hl hp hA).mono fun e w2 ⟨v, he, ho2, hb2, _⟩ => ?_
  obtain ⟨A2, c2, hv⟩ : ∃ A2 c2, v = .slice A2 xs.length c2 := by
    rcases ho2.2 with ⟨h, h0⟩ | ⟨g, cap, cur, h, _⟩
    · exact ⟨none, 0, by rw [h, h0]⟩
    · exact ⟨_, _, h⟩
  subst hv
  exact ⟨A2, c2, he, RowAt.of_own ho2, hb2⟩

/-- Both Pivots, as one contract each: a list that reads as one and the same, and the same error. -/
def pivL (n : Int) (ps : List P3) : List Int := if valid n ps ≠ 0 then [] else pivot n.toNat (matOf ps)
theorem pivL_len (n : Int) (ps : List P3) : (pivL n ps).length ≤ 200 := by
  unfold pivL
  rcases valid_cases n ps with h | h
  · rw [if_pos (by omega)]; simp
  · rw [if_neg (by simp [h.1])]
    have := (pivTo_len (matOf ps) n.toNat n.toNat).1
    unfold pivot
    omega
theorem cPivotS (n : Int) (A : Option Addr) (cap : Nat) (ps : List P3) (B : Nat) (w : World) (hB : B ≤ w.heap.size) (hl : ps.length ≤ 100000) (hp : PairsAt w B A ps) :
    Calls Try.prog 25 #[.int .i64 n, .slice A ps.length cap] w fun e w' => ∃ A2 c2, e = .returned (.tuple #[.slice A2 (pivL n ps).length c2, .int .i64 (valid n ps)]) ∧ RowAt w' w'.heap.size A2 (ints (pivL n ps)) ∧ Below w.heap.size w w' := by
  rcases valid_cases n ps with h | ⟨hv, h0, h1, h2, h3⟩
  · have hv : valid n ps ≠ 0 := by omega
    have e : pivL n ps = [] := by unfold pivL; rw [if_pos hv]
    rw [e]
    exact (pivot_err n A cap ps B w hB hl hp hv).mono fun _ _ ⟨he, hb⟩ => ⟨none, 0, he, RowAt.nil, hb⟩
  · obtain ⟨N, rfl⟩ := Int.eq_ofNat_of_zero_le h0
    have e : pivL (N : Int) ps = pivot N (matOf ps) := by unfold pivL; rw [if_neg (by simp [hv])]; simp
    have hlen : (pivot N (matOf ps)).length = N := (pivTo_len (matOf ps) N N).1
    rw [e, hlen, hv]
    exact (pivot_ok N A cap ps B w hB hl hp hv (by omega)).mono fun _ _ ⟨g, he, hk, hb⟩ => ⟨some ⟨g, 0, none⟩, N, he, by simpa using hk.row, hb⟩
theorem rPivotS (n : Int) (A : Option Addr) (cap : Nat) (ps : List P3) (B : Nat) (w : World) (hB : B ≤ w.heap.size) (hl : ps.length ≤ 100000) (hp : PairsAt w B A ps) :
    Calls Try.prog 26 #[.int .i64 n, .slice A ps.length cap] w fun e w' => ∃ A2 c2, e = .returned (.tuple #[.slice A2 (pivL n ps).length c2, .int .i64 (valid n ps)]) ∧ RowAt w' w'.heap.size A2 (ints (pivL n ps)) ∧ Below w.heap.size w w' := by
  rcases valid_cases n ps with h | ⟨hv, h0, h1, h2, h3⟩
  · have hv : valid n ps ≠ 0 := by omega
    have e : pivL n ps = [] := by unfold pivL; rw [if_pos hv]
    rw [e]
    exact (rpivot_err n A cap ps B w hB hl hp hv).mono fun _ _ ⟨he, hb⟩ => ⟨none, 0, he, RowAt.nil, hb⟩
  · obtain ⟨N, rfl⟩ := Int.eq_ofNat_of_zero_le h0
    have e : pivL (N : Int) ps = pivot N (matOf ps) := by unfold pivL; rw [if_neg (by simp [hv])]; simp
    have e2 : pivot N (matOf ps) = pivot N (wOf ps) := pivot_congr (fun i k hik => matOf_weight h3 i k hik) N
    have hlen : (pivot N (matOf ps)).length = N := (pivTo_len (matOf ps) N N).1
    rw [e, hlen, hv, e2]
    exact (rpivot_ok N A cap ps B w hB hl hp hv (by omega)).mono fun _ _ ⟨g, he, hk, hb⟩ => ⟨some ⟨g, 0, none⟩, N, he, by simpa using hk.row, hb⟩

set_option maxRecDepth 100000 in
set_option maxHeartbeats 2000000 in
theorem lawCost (n : Int) (A : Option Addr) (len cap : Nat) (A2 : Option Addr) (len2 cap2 : Nat) (w : World) (hlen : len ≤ 9223372036854775807) (h : ∃ ps, PairsIn w A len ps) (hlen2 : len2 ≤ 9223372036854775807) (h2 : ∃ xs, IntsIn .i64 w A2 len2 xs) :
    Calls Try.prog 7 #[.int .i64 n, .slice A len cap, .slice A2 len2 cap2] w fun e w' => e = .returned (.bool true) ∧ Below w.heap.size w w' := by
  obtain ⟨ps, hps⟩ := h
  obtain ⟨xs, hxs⟩ := h2
  obtain ⟨hl, hrow, hnil⟩ := hps
  obtain ⟨hl2, hrow2, hnil2, _⟩ := hxs
  subst hl
  subst hl2
  have Hrow := Lib.hid hrow
  have Hnil := Lib.hid hnil
  have Hrow2 := Lib.hid hrow2
  have Hnil2 := Lib.hid hnil2
  clear hrow hnil hrow2 hnil2
  by_cases hle : ps.length ≤ 30
  · by_cases hle2 : xs.length ≤ 250
    · obtain ⟨c1, hc1⟩ : ∃ c1, c1 = (costR n ps xs).1 := ⟨_, rfl⟩
      obtain ⟨c2, hc2⟩ : ∃ c2, c2 = (costR n ps xs).2 := ⟨_, rfl⟩
      obtain ⟨ev, hev⟩ : ∃ ev, ev = valid n ps := ⟨_, rfl⟩
      obtain ⟨pl, hpl⟩ : ∃ pl, pl = pivL n ps := ⟨_, rfl⟩
      have hpl2 : pl.length ≤ 200 := by rw [hpl]; exact pivL_len n ps
      have HC := Lib.hid (And.intro hc1 (And.intro hc2 (And.intro hev hpl)))
      clear hc1 hc2 hev hpl
      go_enter Try.func7, Try.ntmps7
      go_wp2_with fail
      refine (awake_any _).mono ?_
      rintro e w1 ⟨rfl, hb1⟩
      have Hb1 := Lib.hid hb1
      have hs1 := hb1.size
      have Hr1 := Lib.hid (Hrow.out.call hb1 (Nat.le_refl _))
      have Hx1 := Lib.hid (Hrow2.out.call hb1 (Nat.le_refl _))
      clear hb1
      go_wp2_with fail
      refine (clonePairs' A cap ps w.heap.size w1 hs1 (by omega) Hr1.out Hnil.out).mono ?_
      rintro e w2 ⟨A3, d3, rfl, hr, hb⟩
      have Hb2 := Lib.hid (Hb1.out.trans (hb.mono hs1))
      have hs2 : w.heap.size ≤ w2.heap.size := Nat.le_trans hs1 hb.size
      have hz2 := Nat.le_refl w2.heap.size
      have Hr2 := Lib.hid (Hr1.out.call hb hs1)
      have Hx2 := Lib.hid (Hx1.out.call hb hs1)
      have Hk2 := Lib.hid hr
      clear hb hr Hr1 Hx1 Hb1
      go_wp2_with fail
      refine (cloneIntsS A2 cap2 xs w.heap.size w2 hs2 (by omega) Hx2.out Hnil2.out).mono ?_
      rintro e w3 ⟨A4, d4, rfl, hr, hb⟩
      have Hb3 := Lib.hid (Hb2.out.trans (hb.mono hs2))
      have hs3 : w.heap.size ≤ w3.heap.size := Nat.le_trans hs2 hb.size
      have hz3 := hb.size
      have Hr3 := Lib.hid (Hr2.out.call hb hs2)
      have Hx3 := Lib.hid (Hx2.out.call hb hs2)
      have Hk3 := Lib.hid (Hk2.out.call hb (Nat.le_refl _))
      have hcc := cCost_any n A3 A4 d3 d4 ps xs w2.heap.size w3.heap.size w3 hb.size (Nat.le_refl _) (by omega) (by omega) Hk3.out hr
      rw [← HC.out.1, ← HC.out.2.1] at hcc
      have Hcc := Lib.hid hcc
      clear hb hr Hr2 Hx2 Hb2 Hk2 hcc
      go_wp2_with fail
      refine Hcc.out.mono ?_
      rintro e w4 ⟨rfl, hb⟩
      have Hb4 := Lib.hid (Hb3.out.trans (hb.mono hs3))
      have hs4 : w.heap.size ≤ w4.heap.size := Nat.le_trans hs3 hb.size
      have Hr4 := Lib.hid (Hr3.out.call hb hs3)
      have Hx4 := Lib.hid (Hx3.out.call hb hs3)
      have hcc := rCost_any n A A2 cap cap2 ps xs w.heap.size w.heap.size w4 hs4 hs4 (by omega) (by omega) Hr4.out Hx4.out
      rw [← HC.out.1, ← HC.out.2.1] at hcc
      have Hcd := Lib.hid hcc
      clear hb Hr3 Hx3 Hb3 Hk3 hcc Hcc
      go_wp2_with fail
      refine Hcd.out.mono ?_
      rintro e w5 ⟨rfl, hb⟩
      have Hb5 := Lib.hid (Hb4.out.trans (hb.mono hs4))
      have hs5 : w.heap.size ≤ w5.heap.size := Nat.le_trans hs4 hb.size
      have Hr5 := Lib.hid (Hr4.out.call hb hs4)
      clear hb Hr4 Hx4 Hb4 Hcd
      go_wp2_with fail
      refine (clonePairs' A cap ps w.heap.size w5 hs5 (by omega) Hr5.out Hnil.out).mono ?_
      rintro e w6 ⟨A6, d6, rfl, hr, hb⟩
      have Hb6 := Lib.hid (Hb5.out.trans (hb.mono hs5))
      have hs6 : w.heap.size ≤ w6.heap.size := Nat.le_trans hs5 hb.size
      have Hr6 := Lib.hid (Hr5.out.call hb hs5)
      have hcc := cPivotS n A6 d6 ps w6.heap.size w6 (Nat.le_refl _) (by omega) hr
      rw [← HC.out.2.2.1, ← HC.out.2.2.2] at hcc
      have Hce := Lib.hid hcc
      clear hb hr Hr5 Hb5 hcc
      go_wp2_with fail
      refine Hce.out.mono ?_
      rintro e w7 ⟨A7, d7, rfl, hr, hb⟩
      have Hb7 := Lib.hid (Hb6.out.trans (hb.mono hs6))
      have hs7 : w.heap.size ≤ w7.heap.size := Nat.le_trans hs6 hb.size
      have Hr7 := Lib.hid (Hr6.out.call hb hs6)
      have Hk7 := Lib.hid hr
      have hcc := rPivotS n A cap ps w.heap.size w7 hs7 (by omega) Hr7.out
      rw [← HC.out.2.2.1, ← HC.out.2.2.2] at hcc
      have Hcf := Lib.hid hcc
      clear hb hr Hr6 Hb6 hcc Hce
      go_wp2_with fail
      refine Hcf.out.mono ?_
      rintro e w8 ⟨A8, d8, rfl, hr, hb⟩
      have Hb8 := Lib.hid (Hb7.out.trans (hb.mono hs7))
      have Hk8 := Lib.hid (Hk7.out.call hb (Nat.le_refl _))
      have Hl8 := Lib.hid hr
      have hce : (c1 == c1) = true := by simp
      have hcf : (c2 == c2) = true := by simp
      have hcg : (ev == ev) = true := by simp
      clear hb hr Hr7 Hb7 Hcf Hk7
      go_wp2_with fail
      refine (equal_true A7 A8 d7 d8 _ _ pl rfl rfl w7.heap.size w8.heap.size w8 (by omega) Hk8.out Hl8.out).mono ?_
      rintro e w9 ⟨rfl, q, rfl⟩
      go_wp2_with fail
      go_ret
      exact ⟨rfl, below_drewN Hb8.out q⟩
    · go_enter Try.func7, Try.ntmps7
      go_wp2_with fail
      refine (awake_any _).mono ?_
      rintro e w1 ⟨rfl, hb1⟩
      have Hb1 := Lib.hid hb1
      have hs1 := hb1.size
      clear hb1
      go_wp2_with fail
      refine (awake_any _).mono ?_
      rintro e w2 ⟨rfl, hb2⟩
      have Hb2 := Lib.hid hb2
      clear hb2
      go_wp2_with fail
      go_ret
      exact ⟨rfl, Hb1.out.trans (Hb2.out.mono hs1)⟩
  · go_enter Try.func7, Try.ntmps7
    go_wp2_with fail
    refine (awake_any _).mono ?_
    rintro e w1 ⟨rfl, hb1⟩
    have Hb1 := Lib.hid hb1
    have hs1 := hb1.size
    clear hb1
    go_wp2_with fail
    refine (awake_any _).mono ?_
    rintro e w2 ⟨rfl, hb2⟩
    have Hb2 := Lib.hid hb2
    clear hb2
    go_wp2_with fail
    go_ret
    exact ⟨rfl, Hb1.out.trans (Hb2.out.mono hs1)⟩
end Go.Proofs.Ytmjicfafjjgekaa
