/- W4: the walks of slices.Clone (three instances) and slices.Equal. -/
import Derived.Test.YtmjicfafjjgekaaW1
namespace Go.Proofs.Ytmjicfafjjgekaa
open Go.RowKit Go.Dr

theorem Try.info3 : (Try.prog.info? 3).map (fun i => (i.zero, i.size, i.bytes)) = some (some (.int .i64 0), 1, 8) := by kernel_rfl
theorem Try.info2 : (Try.prog.info? 2).map (fun i => (i.zero, i.size, i.bytes)) = some (some (.int .i64 0), 1, 8) := by kernel_rfl
theorem Try.info28 : (Try.prog.info? 28).map (fun i => (i.zero, i.size, i.bytes)) = some (some (.agg #[.int .i64 0, .int .i64 0, .int .i64 0]), 3, 24) := by kernel_rfl
theorem Try.info56 : (Try.prog.info? 56).map (fun i => (i.zero, i.size, i.bytes)) = some (some (.agg #[.int .i64 0, .int .i64 0, .int .i64 0, .int .i64 0]), 4, 32) := by kernel_rfl



set_option maxHeartbeats 400000 in
theorem cloneInts (A : Option Addr) (cap : Nat) (xs : List Int) (B : Nat) (w : World) (hB : B ≤ w.heap.size) (hl : xs.length ≤ 100000) (hp : RowAt w B A (ints xs)) (hA : A = none → xs = []) :
    Calls Try.prog 23 #[.slice A xs.length cap] w fun e w' => ∃ v, e = .returned v ∧ w'.ownsRow w.heap.size 3 1 v xs.length (ints xs) ∧ Below w.heap.size w w' ∧ (v = .slice none 0 0 ↔ A = none) := by
  have hnil := fun W A n c => Lib.run_eql_slice_nil (P := Try.prog) W 35 3 A n c 0 0 Try.underlying35
  cases A with
  | none =>
    obtain rfl := hA rfl
    go_enter Try.func23, Try.ntmps23
    go_wp2
    go_ret
    exact ⟨_, rfl, World.ownsRow_nil _ _ _ _, Below.refl _ _, by simp⟩
  | some ad =>
    obtain ⟨i0, hi, hz0, hz1, hz2⟩ := info_parts Try.info3
    clear hA
    have hown : (w.alloc (.cells #[] 3)).ownsRow w.heap.size 3 1 (.slice (some ⟨w.heap.size, 0, none⟩) 0 0) 0 [] := World.ownsRow_lit w #[] 0 (Nat.le_refl _) (by simp [maxLen]) (by simp)
    have hnews : ∀ j u, (ints xs)[j]? = some u → (w.alloc (.cells #[] 3)).cell? (ad.add j) = some u := by
      intro j u hu
      obtain ⟨b, off, h1, h2, h3⟩ := (hp.alloc hB (.cells #[] 3)).at1 hu
      cases h1
      rw [show (⟨b, off, none⟩ : Addr).add j = ⟨b, off + j, none⟩ from by unfold Addr.add; split <;> simp_all]
      exact h3
    have hone : ∀ u ∈ (ints xs), u.oneCell' = true := by intro u hu; simp at hu; obtain ⟨a, _, rfl⟩ := hu; rfl
    have h63 : 0 + xs.length ≤ maxLen := by simp [maxLen]; omega
    have hby : (0 + xs.length) * 8 ≤ 140737488355328 := by omega
    have hlen : (ints xs).length = xs.length * 1 := by simp
    have Hi := Lib.hid (show Try.prog.info? 3 = some i0 ∧ i0.zero = some _ ∧ i0.size = 1 ∧ i0.bytes = 8 from ⟨hi, hz0, hz1, hz2⟩)
    have Hw := Lib.hid (And.intro hown (And.intro hnews (And.intro hone (And.intro h63 (And.intro hby hlen)))))
    clear hnews hone hown hi hz0 hz1 hz2 h63 hby hlen
    go_enter Try.func23, Try.ntmps23
    go_wp2_with (at_builtin; refine wpList_append_own _ rfl _ _ 35 rfl w.heap.size 3 i0 _ 1 8 Try.underlying35 Hi.out.1 Hi.out.2.1 Hi.out.2.2.1 Hi.out.2.2.2 rfl (by omega) (.slice (some ⟨w.heap.size, 0, none⟩) 0 0) 0 [] rfl Hw.out.1 ad xs.length cap (ints xs) rfl Hw.out.2.2.2.2.2 Hw.out.2.1 Hw.out.2.2.1 Hw.out.2.2.2.1 Hw.out.2.2.2.2.1 (by simp) ?_; intro v1 w1 ho hg hn; have Ho := Lib.hid ho; have Hg := Lib.hid hg; have Hn := Lib.hid hn; clear ho hg hn)
    go_ret
    exact ⟨v1, rfl, by have := Ho.out; simpa using this, ((Below.refl _ _).alloc (Nat.le_refl _) _).grown Hg.out (by simp) (by simp [Value.ownBlock]), by rw [Hn.out]; simp⟩

set_option maxHeartbeats 400000 in
theorem clonePairs (A : Option Addr) (cap : Nat) (xs : List P3) (B : Nat) (w : World) (hB : B ≤ w.heap.size) (hl : xs.length ≤ 100000) (hp : RowAt w B A (List.flatMap pc xs)) (hA : A = none → xs = []) :
    Calls Try.prog 13 #[.slice A xs.length cap] w fun e w' => ∃ v, e = .returned v ∧ w'.ownsRow w.heap.size 28 3 v xs.length (List.flatMap pc xs) ∧ Below w.heap.size w w' ∧ (v = .slice none 0 0 ↔ A = none) := by
  have hnil := fun W A n c => Lib.run_eql_slice_nil (P := Try.prog) W 22 28 A n c 0 0 Try.underlying22
  cases A with
  | none =>
    obtain rfl := hA rfl
    go_enter Try.func13, Try.ntmps13
    go_wp2
    go_ret
    exact ⟨_, rfl, World.ownsRow_nil _ _ _ _, Below.refl _ _, by simp⟩
  | some ad =>
    obtain ⟨i0, hi, hz0, hz1, hz2⟩ := info_parts Try.info28
    clear hA
    have hown : (w.alloc (.cells #[] 28)).ownsRow w.heap.size 28 3 (.slice (some ⟨w.heap.size, 0, none⟩) 0 0) 0 [] := World.ownsRow_lit w #[] 0 (Nat.le_refl _) (by simp [maxLen]) (by simp)
    have hnews : ∀ j u, (List.flatMap pc xs)[j]? = some u → (w.alloc (.cells #[] 28)).cell? (ad.add j) = some u := by
      intro j u hu
      obtain ⟨b, off, h1, h2, h3⟩ := (hp.alloc hB (.cells #[] 28)).at1 hu
      cases h1
      rw [show (⟨b, off, none⟩ : Addr).add j = ⟨b, off + j, none⟩ from by unfold Addr.add; split <;> simp_all]
      exact h3
    have hone : ∀ u ∈ (List.flatMap pc xs), u.oneCell' = true := by intro u hu; simp [pc] at hu; obtain ⟨p, _, h | h | h⟩ := hu <;> subst h <;> rfl
    have h63 : 0 + xs.length ≤ maxLen := by simp [maxLen]; omega
    have hby : (0 + xs.length) * 24 ≤ 140737488355328 := by omega
    have hlen : (List.flatMap pc xs).length = xs.length * 3 := flat_len pc 3 pc_len xs
    have Hi := Lib.hid (show Try.prog.info? 28 = some i0 ∧ i0.zero = some _ ∧ i0.size = 3 ∧ i0.bytes = 24 from ⟨hi, hz0, hz1, hz2⟩)
    have Hw := Lib.hid (And.intro hown (And.intro hnews (And.intro hone (And.intro h63 (And.intro hby hlen)))))
    clear hnews hone hown hi hz0 hz1 hz2 h63 hby hlen
    go_enter Try.func13, Try.ntmps13
    go_wp2_with (at_builtin; refine wpList_append_own _ rfl _ _ 22 rfl w.heap.size 28 i0 _ 3 24 Try.underlying22 Hi.out.1 Hi.out.2.1 Hi.out.2.2.1 Hi.out.2.2.2 rfl (by omega) (.slice (some ⟨w.heap.size, 0, none⟩) 0 0) 0 [] rfl Hw.out.1 ad xs.length cap (List.flatMap pc xs) rfl Hw.out.2.2.2.2.2 Hw.out.2.1 Hw.out.2.2.1 Hw.out.2.2.2.1 Hw.out.2.2.2.2.1 (by simp) ?_; intro v1 w1 ho hg hn; have Ho := Lib.hid ho; have Hg := Lib.hid hg; have Hn := Lib.hid hn; clear ho hg hn)
    go_ret
    exact ⟨v1, rfl, by have := Ho.out; simpa using this, ((Below.refl _ _).alloc (Nat.le_refl _) _).grown Hg.out (by simp) (by simp [Value.ownBlock]), by rw [Hn.out]; simp⟩


def tc (t : T4) : List Value := [.int .i64 t.i, .int .i64 t.j, .int .i64 t.k, .int .i64 t.a]
theorem tc_len (t : T4) : (tc t).length = 4 := rfl

set_option maxHeartbeats 400000 in
theorem cloneTris (A : Option Addr) (cap : Nat) (xs : List T4) (B : Nat) (w : World) (hB : B ≤ w.heap.size) (hl : xs.length ≤ 100000) (hp : RowAt w B A (List.flatMap tc xs)) (hA : A = none → xs = []) :
    Calls Try.prog 29 #[.slice A xs.length cap] w fun e w' => ∃ v, e = .returned v ∧ w'.ownsRow w.heap.size 56 4 v xs.length (List.flatMap tc xs) ∧ Below w.heap.size w w' ∧ (v = .slice none 0 0 ↔ A = none) := by
  have hnil := fun W A n c => Lib.run_eql_slice_nil (P := Try.prog) W 40 56 A n c 0 0 Try.underlying40
  cases A with
  | none =>
    obtain rfl := hA rfl
    go_enter Try.func29, Try.ntmps29
    go_wp2
    go_ret
    exact ⟨_, rfl, World.ownsRow_nil _ _ _ _, Below.refl _ _, by simp⟩
  | some ad =>
    obtain ⟨i0, hi, hz0, hz1, hz2⟩ := info_parts Try.info56
    clear hA
    have hown : (w.alloc (.cells #[] 56)).ownsRow w.heap.size 56 4 (.slice (some ⟨w.heap.size, 0, none⟩) 0 0) 0 [] := World.ownsRow_lit w #[] 0 (Nat.le_refl _) (by simp [maxLen]) (by simp)
    have hnews : ∀ j u, (List.flatMap tc xs)[j]? = some u → (w.alloc (.cells #[] 56)).cell? (ad.add j) = some u := by
      intro j u hu
      obtain ⟨b, off, h1, h2, h3⟩ := (hp.alloc hB (.cells #[] 56)).at1 hu
      cases h1
      rw [show (⟨b, off, none⟩ : Addr).add j = ⟨b, off + j, none⟩ from by unfold Addr.add; split <;> simp_all]
      exact h3
    have hone : ∀ u ∈ (List.flatMap tc xs), u.oneCell' = true := by intro u hu; simp [tc] at hu; obtain ⟨p, _, h | h | h | h⟩ := hu <;> subst h <;> rfl
    have h63 : 0 + xs.length ≤ maxLen := by simp [maxLen]; omega
    have hby : (0 + xs.length) * 32 ≤ 140737488355328 := by omega
    have hlen : (List.flatMap tc xs).length = xs.length * 4 := flat_len tc 4 tc_len xs
    have Hi := Lib.hid (show Try.prog.info? 56 = some i0 ∧ i0.zero = some _ ∧ i0.size = 4 ∧ i0.bytes = 32 from ⟨hi, hz0, hz1, hz2⟩)
    have Hw := Lib.hid (And.intro hown (And.intro hnews (And.intro hone (And.intro h63 (And.intro hby hlen)))))
    clear hnews hone hown hi hz0 hz1 hz2 h63 hby hlen
    go_enter Try.func29, Try.ntmps29
    go_wp2_with (at_builtin; refine wpList_append_own _ rfl _ _ 40 rfl w.heap.size 56 i0 _ 4 32 Try.underlying40 Hi.out.1 Hi.out.2.1 Hi.out.2.2.1 Hi.out.2.2.2 rfl (by omega) (.slice (some ⟨w.heap.size, 0, none⟩) 0 0) 0 [] rfl Hw.out.1 ad xs.length cap (List.flatMap tc xs) rfl Hw.out.2.2.2.2.2 Hw.out.2.1 Hw.out.2.2.1 Hw.out.2.2.2.1 Hw.out.2.2.2.2.1 (by simp) ?_; intro v1 w1 ho hg hn; have Ho := Lib.hid ho; have Hg := Lib.hid hg; have Hn := Lib.hid hn; clear ho hg hn)
    go_ret
    exact ⟨v1, rfl, by have := Ho.out; simpa using this, ((Below.refl _ _).alloc (Nat.le_refl _) _).grown Hg.out (by simp) (by simp [Value.ownBlock]), by rw [Hn.out]; simp⟩

theorem ints_at' {w : World} {B : Nat} {A : Option Addr} {xs : List Int} (h : RowAt w B A (ints xs)) {k : Nat} (hk : k < xs.length) :
    ∃ b off x, A = some ⟨b, off, none⟩ ∧ b < B ∧ xs[k]? = some x ∧ w.cell? ⟨b, off + k, none⟩ = some (.int .i64 x) := by
  obtain ⟨b, off, h1, h2, h3⟩ := h.at1 (ints_at hk)
  exact ⟨b, off, _, h1, h2, by simp [hk], h3⟩

set_option maxHeartbeats 400000 in
theorem equalInts (A A' : Option Addr) (c c' : Nat) (xs ys : List Int) (B B' : Nat) (w : World) (_hl : xs.length ≤ 100000) (hl' : ys.length ≤ 100000) (hp : RowAt w B A (ints xs)) (hq : RowAt w B' A' (ints ys)) :
    Calls Try.prog 18 #[.slice A xs.length c, .slice A' ys.length c'] w fun e w' => e = .returned (.bool (decide (xs = ys))) ∧ ∃ q, w' = w.drewN q := by
  by_cases hlen : xs.length = ys.length
  · have hb : ((xs.length : Int) != (ys.length : Int)) = false := by simp; omega
    have Hlen := Lib.hid hlen
    have hlen' : xs.length ≤ ys.length := by omega
    clear hlen
    go_enter Try.func18, Try.ntmps18
    go_wp2
    go_loopw [13] (fun m wr => ∃ j q : Nat, j ≤ xs.length ∧ m = .int .i64 j ∧ xs.take j = ys.take j ∧ wr = w.drewN q) (fun m _ => xs.length - (intOf m).toNat)
    case atStart => exact ⟨0, 0, Nat.zero_le _, rfl, by simp, rfl⟩
    case round =>
      obtain ⟨j, q, hj, rfl, ht, rfl⟩ := hrel
      have Ht := Lib.hid ht
      clear ht
      by_cases hlt : j < xs.length
      · obtain ⟨b, off, x, rfl, hb1, hx, c1⟩ := ints_at' hp hlt
        obtain ⟨b', off', y, rfl, hb2, hy, c2⟩ := ints_at' hq (k := j) (by omega)
        have Hx := Lib.hid hx
        have Hy := Lib.hid hy
        have hjy : j < ys.length := by omega
        clear hx hy
        by_cases hxy : x = y
        · have hxy' : (x != y) = false := by simpa using hxy
          have hn : xs.take (j + 1) = ys.take (j + 1) := by rw [take_snoc Hx.out, take_snoc Hy.out, Ht.out, hxy]
          have Hn := Lib.hid hn
          clear hn hxy
          go_wp2
          go_quiet (fail)
          go_wp2
          go_roundw
          case rel => exact ⟨j + 1, _, by omega, by go_num, Hn.out, rfl⟩
          case measure => simp [intOf]; omega
        · have hxy' : (x != y) = true := by simpa using hxy
          have hn : decide (xs = ys) = false := by
            simp only [decide_eq_false_iff_not]
            rintro rfl
            have := Hx.out.symm.trans Hy.out
            injection this with h
            exact hxy h
          have Hn := Lib.hid hn
          clear hn hxy
          go_wp2
          go_quiet (fail)
          go_wp2
          go_ret
          exact ⟨ret_bool Hn.out.symm, _, World.drewN_drewN _ _ _⟩
      · have hn : decide (xs = ys) = true := by
          simp only [decide_eq_true_eq]
          have := Ht.out
          rwa [List.take_of_length_le (by omega), List.take_of_length_le (by have := Hlen.out; omega)] at this
        have Hn := Lib.hid hn
        clear hn
        go_wp2
        go_ret
        exact ⟨ret_bool Hn.out.symm, q, rfl⟩
  · have hb : ((xs.length : Int) != (ys.length : Int)) = true := by simp; omega
    have hn : decide (xs = ys) = false := by
      simp only [decide_eq_false_iff_not]
      rintro rfl
      exact hlen rfl
    have Hn := Lib.hid hn
    clear hn hlen
    go_enter Try.func18, Try.ntmps18
    go_wp2
    go_ret
    exact ⟨ret_bool Hn.out.symm, 0, rfl⟩
end Go.Proofs.Ytmjicfafjjgekaa
