/- W3: the walk of cluster.Valid, with its map of keys. -/
import Derived.Test.YtmjicfafjjgekaaW1
import Derived.Test.YtmjicfafjjgekaaMaps
namespace Go.Proofs.Ytmjicfafjjgekaa
open Go.RowKit Go.Dr

def enc2 (k : Int × Int) : Value := .agg #[.int .i64 k.1, .int .i64 k.2]
theorem enc2_ok : KeyOk Try.prog 63 enc2 where
  check w em k := by unfold enc2; kernel_rfl
  stays w k := by unfold enc2; simp [Instr.keyThatStays, Instr.sameBits]
  eq w a b := by
    have e : ∀ (d : Nat) (x y : Int), (Op.equalIn (d + 1) 3 (.int .i64 x) (.int .i64 y)).run Try.prog w = .ok (x == y) w := fun d x y => by simp [Op.equalIn, run_underlying Try.underlying3]
    have p : ∀ (x y : Int), (part 3 #[.int .i64 x, .int .i64 y] 0).run Try.prog w = .ok (.int .i64 x) w := fun x y => by kernel_rfl
    have p' : ∀ (x y : Int), (part 3 #[.int .i64 x, .int .i64 y] 1).run Try.prog w = .ok (.int .i64 y) w := fun x y => by kernel_rfl
    have s : (sizeOf 3).run Try.prog w = .ok 1 w := by kernel_rfl
    have h : ∀ d, (Op.equalIn (d + 2) 63 (enc2 a) (enc2 b)).run Try.prog w = .ok (decide (a = b)) w := fun d => by
      unfold enc2 Op.equalIn
      by_cases h1 : a.1 = b.1
      · by_cases h2 : a.2 = b.2
        · simp [run_underlying Try.underlying63, s, p, p', e, h1, h2, Std.Legacy.Range.forIn_eq_forIn_range', List.range', Prod.ext_iff]
        · simp [run_underlying Try.underlying63, s, p, p', e, h1, h2, Std.Legacy.Range.forIn_eq_forIn_range', List.range', Prod.ext_iff]
      · simp [run_underlying Try.underlying63, s, p, e, h1, Std.Legacy.Range.forIn_eq_forIn_range', List.range', Prod.ext_iff]
    exact h 9998
theorem enc2_find : FindOk Try.prog 63 enc2 := find_of_asking enc2_ok Try.underlying63 (fun a b => by unfold enc2; rfl)
theorem zero4 (w : World) : (zeroValue 4).run Try.prog w = .ok (.bool false) w := by kernel_rfl

theorem okP_false {n : Int} {p : P3} (h : okP n p = false) : p.i < 0 ∨ (0 ≤ p.i ∧ p.k ≤ p.i) ∨ (0 ≤ p.i ∧ p.i < p.k ∧ n ≤ p.k) ∨ (0 ≤ p.i ∧ p.i < p.k ∧ p.k < n ∧ p.x < -1000) ∨
    (0 ≤ p.i ∧ p.i < p.k ∧ p.k < n ∧ -1000 ≤ p.x ∧ 1000 < p.x) := by
  have ho' : ¬ (0 ≤ p.i ∧ p.i < p.k ∧ p.k < n ∧ -1000 ≤ p.x ∧ p.x ≤ 1000) := by simpa [okP] using h
  omega

set_option maxRecDepth 100000 in
set_option maxHeartbeats 1000000 in
theorem cvalid_any (n : Int) (A : Option Addr) (cap : Nat) (ps : List P3) (B : Nat) (w : World) (hB : B ≤ w.heap.size) (hl : ps.length ≤ 100000) (hp : PairsAt w B A ps) :
    Calls Try.prog 12 #[.int .i64 n, .slice A ps.length cap] w fun e w' => e = .returned (.int .i64 (valid n ps)) ∧ Below w.heap.size w w' := by
  by_cases h1 : n < 0 ∨ 200 < n
  · have hv : valid n ps = 7 := by unfold valid; rw [if_pos h1]
    have Hv := Lib.hid hv
    clear hv
    rcases h1 with h1 | h1
    all_goals
      go_enter Try.func12, Try.ntmps12
      go_wp2
      go_ret
      exact ⟨ret_int Hv.out.symm, Below.refl _ _⟩
  · have h1' : 0 ≤ n := by omega
    have h1'' : n ≤ 200 := by omega
    by_cases h2 : 20000 < ps.length
    · have hv : valid n ps = 3 := by unfold valid; rw [if_neg h1, if_pos h2]
      have Hv := Lib.hid hv
      clear hv h1
      go_enter Try.func12, Try.ntmps12
      go_wp2
      go_ret
      exact ⟨ret_int Hv.out.symm, Below.refl _ _⟩
    · have hv : valid n ps = if good n ps then 0 else 1 := by unfold valid; rw [if_neg h1, if_neg h2]
      have Hv := Lib.hid hv
      clear hv h1
      have h2' : ps.length ≤ 20000 := by omega
      clear h2
      have hmm := @run_makeMap Try.prog
      go_enter Try.func12, Try.ntmps12
      go_wp2
      clear hmm
      go_loopw [23] (fun m wr => ∃ (j : Nat) (kvs : List ((Int × Int) × Value)), j ≤ ps.length ∧ m = .int .i64 j ∧ good n (ps.take j) = true ∧ MapIs wr w.heap.size enc2 kvs ∧
          (∀ k, mfind k kvs = if k ∈ (ps.take j).map key then some (.bool true) else none) ∧ Below w.heap.size w wr) (fun m _ => ps.length - (intOf m).toNat)
      case atStart => exact ⟨0, [], Nat.zero_le _, rfl, by simp [good], MapIs.made w enc2, by simp [mfind], (Below.refl _ _).alloc (Nat.le_refl _) _⟩
      case round =>
        obtain ⟨j, kvs, hj, rfl, hg, hm, hf, hb⟩ := hrel
        have Hg := Lib.hid hg
        have Hm := Lib.hid hm
        have Hf := Lib.hid hf
        clear hg hm hf
        by_cases hlt : j < ps.length
        · obtain ⟨b, off, p, rfl, hbB, hpk, c1, c2, c3⟩ := pairs_at (hp.below (hb.mono hB)) hlt
          have Hpk := Lib.hid hpk
          clear hpk
          cases ho : okP n p
          · have hr : valid n ps = 1 := by rw [Hv.out, good_bad Hpk.out (.inl ho)]; rfl
            have Hr := Lib.hid hr
            have ho' := okP_false ho
            clear hr ho
            rcases ho' with o1 | ⟨o1, o2⟩ | ⟨o1, o2, o3⟩ | ⟨o1, o2, o3, o4⟩ | ⟨o1, o2, o3, o4, o5⟩
            all_goals
              go_wp2
              go_ret
              exact ⟨ret_int Hr.out.symm, (hb.alloc (by have := hb.size; omega) _).alloc (by have := hb.size; simp; omega) _⟩
          · have ho' : (0 ≤ p.i ∧ p.i < p.k ∧ p.k < n ∧ -1000 ≤ p.x ∧ p.x ≤ 1000) := by simpa [okP] using ho
            obtain ⟨o1, o2, o3, o4, o5⟩ := ho'
            have Ho := Lib.hid ho
            clear ho
            have hm2 := (Hm.out.alloc (.cells #[.int .i64 p.i, .int .i64 p.k, .int .i64 p.x] 28)).alloc (.cells #[.int .i64 p.i, .int .i64 p.k] 63)
            have hlk := hm2.look enc2_ok enc2_find Try.underlying62 (zero4 _) false (key p)
            rw [Hf.out] at hlk
            by_cases hs : key p ∈ (ps.take j).map key
            · have hr : valid n ps = 1 := by rw [Hv.out, good_bad Hpk.out (.inr hs)]; rfl
              have Hr := Lib.hid hr
              rw [if_pos hs] at hlk
              simp only [enc2, key, Option.getD_some, Bool.false_eq_true, if_false] at hlk
              clear hr hs hm2
              go_wp2
              go_ret
              exact ⟨ret_int Hr.out.symm, (hb.alloc (by have := hb.size; omega) _).alloc (by have := hb.size; simp; omega) _⟩
            · obtain ⟨w1, hput, hm3, hg3, hz3⟩ := hm2.put enc2_ok enc2_find Try.underlying62 (key p) (.bool true)
              rw [if_neg hs] at hlk
              simp only [enc2, key, Option.getD_none, Bool.false_eq_true, if_false] at hlk hput
              have Hn := Lib.hid (good_step Hpk.out Hg.out Ho.out hs)
              have Hm3 := Lib.hid hm3
              have Hg3 := Lib.hid hg3
              have Hz3 := Lib.hid hz3
              have Hs := Lib.hid hs
              clear hs hm2 hm3 hg3 hz3
              go_wp2
              go_roundw
              case rel =>
                refine ⟨j + 1, mput (key p) (.bool true) kvs, by omega, by go_num, Hn.out, Hm3.out, fun k => ?_, ?_⟩
                · rw [take_snoc Hpk.out, List.map_append, List.map_cons, List.map_nil]
                  by_cases hk : k = key p
                  · subst hk
                    rw [mfind_put_same, if_pos (by simp)]
                  · rw [mfind_put_other _ hk, Hf.out]
                    simp [hk]
                · exact ((hb.alloc (by have := hb.size; omega) _).alloc (by have := hb.size; simp; omega) _).grown Hg3.out (by have := hb.size; simp; omega) (by intro g hg; cases hg; exact Nat.le_refl _)
              case measure => simp [intOf]; omega
        · have e : ps.take j = ps := by rw [List.take_of_length_le (by omega)]
          have hr : valid n ps = 0 := by have := Hg.out; rw [e] at this; rw [Hv.out, if_pos this]
          have Hr := Lib.hid hr
          clear hr e
          go_wp2
          go_ret
          exact ⟨ret_int Hr.out.symm, hb⟩
end Go.Proofs.Ytmjicfafjjgekaa
