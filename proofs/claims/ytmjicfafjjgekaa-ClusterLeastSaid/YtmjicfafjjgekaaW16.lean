/- W16: the walks of cluster.Cost, drossref54.Cost and drossref54.cost. -/
import Derived.Test.YtmjicfafjjgekaaW2
import Derived.Test.YtmjicfafjjgekaaW3
import Derived.Test.YtmjicfafjjgekaaW4
import Derived.Test.YtmjicfafjjgekaaSpec4
import Derived.Test.YtmjicfafjjgekaaBase2
namespace Go.Proofs.Ytmjicfafjjgekaa
open Go.RowKit Go.Dr

set_option maxRecDepth 100000 in
set_option maxHeartbeats 1000000 in
theorem rcost_any (n : Nat) (A A2 : Option Addr) (cap c2 : Nat) (ps : List P3) (xs : List Int) (B B2 : Nat) (w : World) (hl : ps.length ≤ 20000) (_hn : n ≤ 200) (hp : PairsAt w B A ps) (hx : RowAt w B2 A2 (ints xs)) (hxl : xs.length = n) (hok : ∀ p ∈ ps, okP n p = true) :
    Calls Try.prog 37 #[.slice A ps.length cap, .slice A2 n c2] w fun e w' => e = .returned (.int .i64 (costOf ps xs)) ∧ ∃ q, w' = w.drewN q := by
  have Hok := Lib.hid hok
  have Hxl := Lib.hid hxl
  have Hx := Lib.hid hx
  have Hp := Lib.hid hp
  clear hok hxl hx hp
  go_enter Try.func37, Try.ntmps37
  go_wp2
  go_loopw [6, 5] (fun m s wr => ∃ j q : Nat, j ≤ ps.length ∧ m = .int .i64 j ∧ s = .int .i64 (costOf (ps.take j) xs) ∧ wr = w.drewN q) (fun m _ _ => ps.length - (intOf m).toNat)
  case atStart => exact ⟨0, 0, Nat.zero_le _, rfl, rfl, rfl⟩
  case round =>
    obtain ⟨j, q, hj, rfl, rfl, rfl⟩ := hrel
    have hbd := costOf_take_bd xs Hok.out j
    obtain ⟨S, hS⟩ : ∃ S, S = costOf (ps.take j) xs := ⟨_, rfl⟩
    rw [← hS] at hbd ⊢
    by_cases hlt : j < ps.length
    · obtain ⟨b, off, ⟨pi, pk, px⟩, rfl, hb, hpk, c1, c2', c3⟩ := pairs_at Hp.out hlt
      have hstep := costOf_step xs hpk
      have hokp := Hok.out _ (List.mem_of_getElem? hpk)
      simp only [okP, decide_eq_true_eq] at hokp c1 c2' c3
      obtain ⟨o1, o2, o3, o4, o5⟩ := hokp
      obtain ⟨a, rfl⟩ := Int.eq_ofNat_of_zero_le o1
      obtain ⟨c, rfl⟩ := Int.eq_ofNat_of_zero_le (show 0 ≤ pk by omega)
      obtain ⟨b2, off2, xa, rfl, hb2, hxa, d1⟩ := ints_at' Hx.out (k := a) (by have := Hxl.out; omega)
      obtain ⟨b3, off3, xc, e3, hb3, hxc, d2⟩ := ints_at' Hx.out (k := c) (by have := Hxl.out; omega)
      obtain ⟨rfl, rfl⟩ : b2 = b3 ∧ off2 = off3 := by simpa using e3
      have hone : costOne xs ⟨(a : Int), (c : Int), px⟩ = price px (xa == xc) := by simp [costOne, lab, hxa, hxc]
      rw [← hS, hone] at hstep
      have Hstep := Lib.hid hstep
      have HS := Lib.hid hS
      have ha : a < n := by omega
      have hc : c < n := by omega
      clear hpk hstep hxa hxc hone hS e3
      obtain ⟨t, ht⟩ : ∃ t, t = (xa == xc) := ⟨_, rfl⟩
      rw [← ht] at Hstep
      cases t
      · have ht' : (xa == xc) = false := ht.symm
        clear ht
        rcases Int.lt_trichotomy px 0 with h0 | h0 | h0
        · have hp0 : price px false = 0 := by simp [price]; omega
          rw [hp0] at Hstep
          clear hp0
          go_wp2_with fail
          go_quiet (fail)
          as_aux_lemma =>
            go_wp2_with fail
            go_roundw
            case rel => exact ⟨j + 1, _, by omega, by go_num, by rw [Hstep.out]; go_num, rfl⟩
            case measure => simp [intOf]; omega
        · subst h0
          have hp0 : price 0 false = 0 := by simp [price]
          rw [hp0] at Hstep
          clear hp0
          go_wp2_with fail
          go_quiet (fail)
          as_aux_lemma =>
            go_wp2_with fail
            go_roundw
            case rel => exact ⟨j + 1, _, by omega, by go_num, by rw [Hstep.out]; go_num, rfl⟩
            case measure => simp [intOf]; omega
        · have hp0 : price px false = px := by simp [price]; omega
          rw [hp0] at Hstep
          clear hp0
          go_wp2_with fail
          go_quiet (fail)
          as_aux_lemma =>
            go_wp2_with fail
            go_roundw
            case rel => exact ⟨j + 1, _, by omega, by go_num, by rw [Hstep.out], rfl⟩
            case measure => simp [intOf]; omega
      · have ht' : (xa == xc) = true := ht.symm
        clear ht
        rcases Int.lt_trichotomy px 0 with h0 | h0 | h0
        · have hp0 : price px true = -px := by simp [price]; omega
          rw [hp0] at Hstep
          clear hp0
          go_wp2_with fail
          go_quiet (fail)
          as_aux_lemma =>
            go_wp2_with fail
            go_roundw
            case rel => exact ⟨j + 1, _, by omega, by go_num, by rw [Hstep.out]; go_num, rfl⟩
            case measure => simp [intOf]; omega
        · subst h0
          have hp0 : price 0 true = 0 := by simp [price]
          rw [hp0] at Hstep
          clear hp0
          go_wp2_with fail
          go_quiet (fail)
          as_aux_lemma =>
            go_wp2_with fail
            go_roundw
            case rel => exact ⟨j + 1, _, by omega, by go_num, by rw [Hstep.out]; go_num, rfl⟩
            case measure => simp [intOf]; omega
        · have hp0 : price px true = 0 := by simp [price]; omega
          rw [hp0] at Hstep
          clear hp0
          go_wp2_with fail
          go_quiet (fail)
          as_aux_lemma =>
            go_wp2_with fail
            go_roundw
            case rel => exact ⟨j + 1, _, by omega, by go_num, by rw [Hstep.out]; go_num, rfl⟩
            case measure => simp [intOf]; omega
    · have e : ps.take j = ps := List.take_of_length_le (by omega)
      rw [e] at hS
      have HS := Lib.hid hS
      clear e hS
      go_wp2_with fail
      go_ret
      exact ⟨ret_int HS.out, q, rfl⟩

/-- What Cost returns. -/
def costR (n : Int) (ps : List P3) (xs : List Int) : Int × Int := if valid n ps ≠ 0 then (0, valid n ps) else if (xs.length : Int) ≠ n then (0, 6) else (costOf ps xs, 0)

theorem costR_err {n : Int} {ps : List P3} {xs : List Int} (h : valid n ps ≠ 0) : costR n ps xs = (0, valid n ps) := by unfold costR; rw [if_pos h]
theorem costR_arity {n : Int} {ps : List P3} {xs : List Int} (h : valid n ps = 0) (h2 : (xs.length : Int) ≠ n) : costR n ps xs = (0, 6) := by unfold costR; rw [if_neg (by simp [h]), if_pos h2]
theorem costR_ok {n : Int} {ps : List P3} {xs : List Int} (h : valid n ps = 0) (h2 : (xs.length : Int) = n) : costR n ps xs = (costOf ps xs, 0) := by unfold costR; rw [if_neg (by simp [h]), if_neg (by simp [h2])]

set_option maxRecDepth 100000 in
set_option maxHeartbeats 1000000 in
theorem rCost_any (n : Int) (A A2 : Option Addr) (cap c2 : Nat) (ps : List P3) (xs : List Int) (B B2 : Nat) (w : World) (hB : B ≤ w.heap.size) (hB2 : B2 ≤ w.heap.size) (hl : ps.length ≤ 100000) (_hxl : xs.length ≤ 100000) (hp : PairsAt w B A ps) (hx : RowAt w B2 A2 (ints xs)) :
    Calls Try.prog 24 #[.int .i64 n, .slice A ps.length cap, .slice A2 xs.length c2] w fun e w' => e = .returned (.tuple #[.int .i64 (costR n ps xs).1, .int .i64 (costR n ps xs).2]) ∧ Below w.heap.size w w' := by
  have hc := rvalid_any n A cap ps B w hB hl hp
  rcases valid_cases n ps with he | ⟨hv, hn0, hn1, hpl, hg⟩
  · have hv : valid n ps ≠ 0 := by omega
    rw [costR_err hv]
    obtain ⟨e, he'⟩ : ∃ e, e = valid n ps := ⟨_, rfl⟩
    rw [← he'] at hc hv ⊢
    have hv' : (e != 0) = true := by simpa using hv
    have Hc := Lib.hid hc
    clear hc hv he' he hp hx
    go_enter Try.func24, Try.ntmps24
    go_wp2_with fail
    refine Hc.out.mono ?_
    rintro e' w1 ⟨rfl, hb⟩
    have Hb := Lib.hid hb
    clear hb
    go_wp2_with fail
    go_ret2
    exact ⟨rfl, Hb.out⟩
  · by_cases h2 : (xs.length : Int) = n
    · rw [costR_ok hv h2]
      rw [hv] at hc
      have Hc := Lib.hid hc
      have Hg := Lib.hid (good_all hg)
      obtain ⟨N, rfl⟩ := Int.eq_ofNat_of_zero_le hn0
      have h2' : xs.length = N := by omega
      have hb0 : ((xs.length : Int) != (N : Int)) = false := by simp; omega
      have Hp := Lib.hid hp
      have Hx := Lib.hid hx
      have H2 := Lib.hid h2'
      clear hc hv hg hp hx h2 h2'
      go_enter Try.func24, Try.ntmps24
      go_wp2_with fail
      refine Hc.out.mono ?_
      rintro e' w1 ⟨rfl, hb⟩
      have Hb := Lib.hid hb
      have Hp1 := Lib.hid (Hp.out.call hb hB)
      have Hx1 := Lib.hid (Hx.out.call hb hB2)
      clear hb
      have hcc := rcost_any xs.length A A2 cap c2 ps xs B B2 w1 hpl (by have := H2.out; omega) Hp1.out Hx1.out rfl (by rw [H2.out]; exact Hg.out)
      have Hcc := Lib.hid hcc
      clear hcc
      go_wp2_with fail
      refine Hcc.out.mono ?_
      rintro e' w2 ⟨rfl, q, rfl⟩
      go_wp2_with fail
      go_ret2
      exact ⟨rfl, below_drewN Hb.out q⟩
    · rw [costR_arity hv h2]
      rw [hv] at hc
      have hb0 : ((xs.length : Int) != n) = true := by simpa using h2
      have Hc := Lib.hid hc
      clear hc hv hg h2
      go_enter Try.func24, Try.ntmps24
      go_wp2_with fail
      refine Hc.out.mono ?_
      rintro e' w1 ⟨rfl, hb⟩
      have Hb := Lib.hid hb
      clear hb
      go_wp2_with fail
      go_ret2
      exact ⟨rfl, Hb.out⟩

set_option maxRecDepth 100000 in
set_option maxHeartbeats 1000000 in
theorem cCost_any (n : Int) (A A2 : Option Addr) (cap c2 : Nat) (ps : List P3) (xs : List Int) (B B2 : Nat) (w : World) (hB : B ≤ w.heap.size) (hB2 : B2 ≤ w.heap.size) (hl : ps.length ≤ 100000) (_hxl : xs.length ≤ 100000) (hp : PairsAt w B A ps) (hx : RowAt w B2 A2 (ints xs)) :
    Calls Try.prog 22 #[.int .i64 n, .slice A ps.length cap, .slice A2 xs.length c2] w fun e w' => e = .returned (.tuple #[.int .i64 (costR n ps xs).1, .int .i64 (costR n ps xs).2]) ∧ Below w.heap.size w w' := by
  have hc := cvalid_any n A cap ps B w hB hl hp
  rcases valid_cases n ps with he | ⟨hv, hn0, hn1, hpl, hg⟩
  · have hv : valid n ps ≠ 0 := by omega
    rw [costR_err hv]
    obtain ⟨e, he'⟩ : ∃ e, e = valid n ps := ⟨_, rfl⟩
    rw [← he'] at hc hv ⊢
    have hv' : (e != 0) = true := by simpa using hv
    have Hc := Lib.hid hc
    clear hc hv he' he hp hx
    go_enter Try.func22, Try.ntmps22
    go_wp2_with fail
    refine Hc.out.mono ?_
    rintro e' w1 ⟨rfl, hb⟩
    have Hb := Lib.hid hb
    clear hb
    go_wp2_with fail
    go_ret2
    exact ⟨rfl, Hb.out⟩
  · by_cases h2 : (xs.length : Int) = n
    · rw [costR_ok hv h2]
      rw [hv] at hc
      have Hc := Lib.hid hc
      have Hok := Lib.hid (good_all hg)
      obtain ⟨N, rfl⟩ := Int.eq_ofNat_of_zero_le hn0
      have h2' : xs.length = N := by omega
      have hb0 : ((xs.length : Int) != (N : Int)) = false := by simp; omega
      have Hp := Lib.hid hp
      have Hx := Lib.hid hx
      have H2 := Lib.hid h2'
      clear hc hv hg hp hx h2 h2'
      go_enter Try.func22, Try.ntmps22
      go_wp2_with fail
      refine Hc.out.mono ?_
      rintro e' w1 ⟨rfl, hb⟩
      have Hb := Lib.hid hb
      have hs1 := hb.size
      have Hp1 := Lib.hid (Hp.out.call hb hB)
      have Hx1 := Lib.hid (Hx.out.call hb hB2)
      clear hb Hp Hx Hc
      go_wp2_with fail
      go_loopw [24, 9] (fun m s wr => ∃ j : Nat, j ≤ ps.length ∧ m = .int .i64 j ∧ s = .int .i64 (costOf (ps.take j) xs) ∧ Below w1.heap.size w1 wr) (fun m _ _ => ps.length - (intOf m).toNat)
      case atStart => exact ⟨0, Nat.zero_le _, rfl, rfl, Below.refl _ _⟩
      case round =>
        obtain ⟨j, hj, rfl, rfl, hbr⟩ := hrel
        have Hbr := Lib.hid hbr
        have hsr := hbr.size
        clear hbr
        have hbd := costOf_take_bd xs Hok.out j
        obtain ⟨S, hS⟩ : ∃ S, S = costOf (ps.take j) xs := ⟨_, rfl⟩
        rw [← hS] at hbd ⊢
        by_cases hlt : j < ps.length
        · obtain ⟨b, off, ⟨pi, pk, px⟩, rfl, hb, hpk, d1, d2, d3⟩ := pairs_at (Hp1.out.below (Hbr.out.mono (by omega))) hlt
          have hstep := costOf_step xs hpk
          have hokp := Hok.out _ (List.mem_of_getElem? hpk)
          simp only [okP, decide_eq_true_eq] at hokp d1 d2 d3
          obtain ⟨o1, o2, o3, o4, o5⟩ := hokp
          obtain ⟨a, rfl⟩ := Int.eq_ofNat_of_zero_le o1
          obtain ⟨c, rfl⟩ := Int.eq_ofNat_of_zero_le (show 0 ≤ pk by omega)
          obtain ⟨b2, off2, xa, rfl, hb2, hxa, f1⟩ := ints_at' (Hx1.out.below (Hbr.out.mono (by omega))) (k := a) (by have := H2.out; omega)
          obtain ⟨b3, off3, xc, e3, hb3, hxc, f2⟩ := ints_at' (Hx1.out.below (Hbr.out.mono (by omega))) (k := c) (by have := H2.out; omega)
          obtain ⟨rfl, rfl⟩ : b2 = b3 ∧ off2 = off3 := by simpa using e3
          have hone : costOne xs ⟨(a : Int), (c : Int), px⟩ = price px (xa == xc) := by simp [costOne, lab, hxa, hxc]
          rw [← hS, hone] at hstep
          have Hstep := Lib.hid hstep
          have HS := Lib.hid hS
          have ha : a < xs.length := by have := H2.out; omega
          have hcx : c < xs.length := by have := H2.out; omega
          have hbs : b < wr.heap.size := by omega
          have hbs2 : b2 < wr.heap.size := by omega
          clear hpk hstep hxa hxc hone hS e3
          have hpb := price_bd (xa == xc) o4 o5
          have hw1 := wrap_in (x := S + price px (xa == xc)) (by omega) (by omega)
          go_wp2_with fail
          go_quiet ((go_at_call 44; first | exact quiet_add_left (price_any _ _ _ (by omega) (by omega)) | exact quiet_left (price_any _ _ _ (by omega) (by omega))))
          clear hw1
          as_aux_lemma =>
            go_wp2_with fail
            go_roundw
            case rel => exact ⟨j + 1, by omega, by go_num, by rw [Hstep.out], below_drewN (Hbr.out.alloc hsr _) _⟩
            case measure => simp [intOf]; omega
        · have e : ps.take j = ps := List.take_of_length_le (by omega)
          rw [e] at hS
          have HS := Lib.hid hS
          clear e hS
          go_wp2_with fail
          go_ret2
          exact ⟨by rw [← HS.out]; rfl, Hb.out.trans (Hbr.out.mono hs1)⟩
    · rw [costR_arity hv h2]
      rw [hv] at hc
      have hb0 : ((xs.length : Int) != n) = true := by simpa using h2
      have Hc := Lib.hid hc
      clear hc hv hg h2
      go_enter Try.func22, Try.ntmps22
      go_wp2_with fail
      refine Hc.out.mono ?_
      rintro e' w1 ⟨rfl, hb⟩
      have Hb := Lib.hid hb
      clear hb
      go_wp2_with fail
      go_ret2
      exact ⟨rfl, Hb.out⟩
end Go.Proofs.Ytmjicfafjjgekaa
