/- L8: the walk of the law ClusterNormal. -/
import Derived.Test.YtmjicfafjjgekaaL5
import Derived.Test.YtmjicfafjjgekaaW24
import Derived.Test.YtmjicfafjjgekaaW25
namespace Go.Proofs.Ytmjicfafjjgekaa
open Go.RowKit Go.Dr

theorem rll_same {w : World} {B : Nat} {A : Option Addr} {xss : List (List Int)} (h : RLL w B A xss) (q : Nat) : RLL (w.drewN q) B A xss := RLL.drewN h q
theorem groups_in (xs : List Int) : (groups xs).length ≤ xs.length ∧ ∀ (j : Nat) (ys : List Int), (groups xs)[j]? = some ys → ys.length ≤ xs.length :=
  ⟨(grTo_ok xs xs.length (Nat.le_refl _)).1.cnt, (grTo_ok xs xs.length (Nat.le_refl _)).1.len⟩

set_option maxRecDepth 100000 in
set_option maxHeartbeats 2000000 in
theorem lawNormal (A : Option Addr) (len cap : Nat) (w : World) (hlen : len ≤ 9223372036854775807) (h : ∃ xs, IntsIn .i64 w A len xs) :
    Calls Try.prog 10 #[.slice A len cap] w fun e w' => e = .returned (.bool true) ∧ Below w.heap.size w w' := by
  obtain ⟨xs, hxs⟩ := h
  obtain ⟨hl, hrow, hnil, _⟩ := hxs
  subst hl
  have Hrow := Lib.hid hrow
  have Hnil := Lib.hid hnil
  clear hrow hnil
  by_cases hle : xs.length ≤ 40
  · have hle' : (xs.length : Int) ≤ 40 := by omega
    obtain ⟨ns, hns⟩ : ∃ ns, ns = nf xs := ⟨_, rfl⟩
    have hnl : ns.length = xs.length := by rw [hns]; exact nf_len xs
    have Hns := Lib.hid (And.intro hns hnl)
    clear hns hnl
    go_enter Try.func10, Try.ntmps10
    go_wp2_with fail
    refine (awake_any _).mono ?_
    rintro e w1 ⟨rfl, hb1⟩
    have Hb1 := Lib.hid hb1
    have hs1 := hb1.size
    have Hr1 := Lib.hid (Hrow.out.call hb1 (Nat.le_refl _))
    clear hb1
    go_wp2_with fail
    refine (cloneIntsS A cap xs w.heap.size w1 hs1 (by omega) Hr1.out Hnil.out).mono ?_
    rintro e w2 ⟨A2, d2, rfl, hr, hb⟩
    have Hb2 := Lib.hid (Hb1.out.trans (hb.mono hs1))
    have hs2 : w.heap.size ≤ w2.heap.size := Nat.le_trans hs1 hb.size
    have Hr2 := Lib.hid (Hr1.out.call hb hs1)
    have Hk2 := Lib.hid hr
    clear hb hr Hr1 Hb1
    go_wp2_with fail
    refine (cnormal_any A2 d2 xs w2.heap.size w2 (Nat.le_refl _) (by omega) Hk2.out).mono ?_
    rintro e w3 ⟨g, rfl, hg, hblk, hb⟩
    have Hb3 := Lib.hid (Hb2.out.trans (hb.mono hs2))
    have hs3 : w.heap.size ≤ w3.heap.size := Nat.le_trans hs2 hb.size
    have hz3 := hb.size
    have Hr3 := Lib.hid (Hr2.out.call hb hs2)
    have Hk3 := Lib.hid (Hk2.out.call hb (Nat.le_refl _))
    have hrow3 : RowAt w3 w3.heap.size (some ⟨g, 0, none⟩) (ints (nf xs)) := by simpa using hblk.row
    have Hn3 := Lib.hid hrow3
    clear hb hblk hrow3 Hr2 Hk2 Hb2
    go_wp2_with fail
    refine (rnormal_any A cap xs w.heap.size w3 hs3 (by omega) Hr3.out).mono ?_
    rintro e w4 ⟨A4, d4, rfl, hr, _, hb⟩
    have Hb4 := Lib.hid (Hb3.out.trans (hb.mono hs3))
    have hs4 : w.heap.size ≤ w4.heap.size := Nat.le_trans hs3 hb.size
    have hz4 := hb.size
    have Hr4 := Lib.hid (Hr3.out.call hb hs3)
    have Hk4 := Lib.hid (Hk3.out.call hb hz3)
    have Hn4 := Lib.hid (Hn3.out.call hb (Nat.le_refl _))
    have Hm4 := Lib.hid hr
    clear hb hr Hr3 Hk3 Hn3 Hb3
    go_wp2_with fail
    refine (equal_true _ _ _ _ _ _ (nf xs) (nf_len xs) (nf_len xs) _ _ _ (by omega) Hn4.out Hm4.out).mono ?_
    rintro e w5 ⟨rfl, q, rfl⟩
    go_wp2_with fail
    refine (cgroups_any A2 d2 xs w2.heap.size (w4.drewN q) (by show _ ≤ w4.heap.size; omega) (by omega) (Hk4.out.drewN q)).mono ?_
    rintro e w6 ⟨A6, d6, rfl, hr, hb⟩
    have hb : Below w4.heap.size (w4.drewN q) w6 := hb
    have Hb6 := Lib.hid ((below_drewN Hb4.out q).trans (hb.mono hs4))
    have hz6 : w4.heap.size ≤ w6.heap.size := hb.size
    have hs6 : w.heap.size ≤ w6.heap.size := Nat.le_trans hs4 hz6
    have Hr6 := Lib.hid ((Hr4.out.drewN q).call (w := w4.drewN q) hb hs4)
    have Hk6 := Lib.hid ((Hk4.out.drewN q).call (w := w4.drewN q) hb (show w2.heap.size ≤ w4.heap.size by omega))
    have Hg6 := Lib.hid hr
    clear hb hr Hr4 Hk4 Hn4 Hm4 Hb4
    go_wp2_with fail
    refine (rgroups_any A cap xs w.heap.size w6 hs6 (by omega) Hr6.out).mono ?_
    rintro e w7 ⟨A7, d7, rfl, hr, hb⟩
    have Hb7 := Lib.hid (Hb6.out.trans (hb.mono hs6))
    have hs7 : w.heap.size ≤ w7.heap.size := Nat.le_trans hs6 hb.size
    have hz7 := hb.size
    have Hr7 := Lib.hid (Hr6.out.call hb hs6)
    have Hk7 := Lib.hid (Hk6.out.call hb (show w2.heap.size ≤ w6.heap.size by omega))
    have Hg7 := Lib.hid (Hg6.out.call hb (Nat.le_refl _))
    have Hh7 := Lib.hid hr
    clear hb hr Hr6 Hk6 Hg6 Hb6
    go_wp2_with fail
    have hgin := groups_in xs
    refine (lists_true A6 A7 d6 d7 (groups xs) w6.heap.size w7.heap.size w7 (by omega) (fun j ys hj => by have := hgin.2 j ys hj; omega) Hg7.out Hh7.out).mono ?_
    rintro e w8 ⟨rfl, q2, rfl⟩
    clear hgin
    go_wp2_with fail
    refine (equal_true _ _ _ _ _ _ xs rfl rfl _ _ _ (by omega) (Hk7.out.drewN q2) (Hr7.out.drewN q2)).mono ?_
    rintro e w9 ⟨rfl, q3, rfl⟩
    go_wp2_with fail
    go_ret
    exact ⟨rfl, below_drewN Hb7.out (q2 + q3)⟩
  · go_enter Try.func10, Try.ntmps10
    go_wp2_with fail
    refine (awake_any _).mono ?_
    rintro e w1 ⟨rfl, hb1⟩
    have Hb1 := Lib.hid hb1
    have hs1 := hb1.size
    clear hb1
    go_wp2_with fail
    refine (awake_any _).mono ?_
    rintro e w2 ⟨rfl, hb2⟩
    have Hb2 := Lib.hid hb2
    clear hb2
    go_wp2_with fail
    go_ret
    exact ⟨rfl, Hb1.out.trans (Hb2.out.mono hs1)⟩
end Go.Proofs.Ytmjicfafjjgekaa
