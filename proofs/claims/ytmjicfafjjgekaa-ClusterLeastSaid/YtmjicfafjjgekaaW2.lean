/- W2: the walk of drossref54.Valid. -/
import Derived.Test.YtmjicfafjjgekaaW1
namespace Go.Proofs.Ytmjicfafjjgekaa
open Go.RowKit Go.Dr

set_option maxHeartbeats 1000000 in
theorem rvalid_any (n : Int) (A : Option Addr) (cap : Nat) (ps : List P3) (B : Nat) (w : World) (hB : B ≤ w.heap.size) (hl : ps.length ≤ 100000) (hp : PairsAt w B A ps) :
    Calls Try.prog 14 #[.int .i64 n, .slice A ps.length cap] w fun e w' => e = .returned (.int .i64 (valid n ps)) ∧ Below w.heap.size w w' := by
  by_cases h1 : n < 0 ∨ 200 < n
  · have hv : valid n ps = 7 := by unfold valid; rw [if_pos h1]
    have Hv := Lib.hid hv
    clear hv
    rcases h1 with h1 | h1
    all_goals
      go_enter Try.func14, Try.ntmps14
      go_wp2
      go_ret
      exact ⟨ret_int Hv.out.symm, Below.refl _ _⟩
  · have h1' : 0 ≤ n := by omega
    have h1'' : n ≤ 200 := by omega
    by_cases h2 : 20000 < ps.length
    · have hv : valid n ps = 3 := by unfold valid; rw [if_neg h1, if_pos h2]
      have Hv := Lib.hid hv
      clear hv h1
      go_enter Try.func14, Try.ntmps14
      go_wp2
      go_ret
      exact ⟨ret_int Hv.out.symm, Below.refl _ _⟩
    · have hv : valid n ps = if good n ps then 0 else 1 := by unfold valid; rw [if_neg h1, if_neg h2]
      have Hv := Lib.hid hv
      clear hv h1
      have h2' : ps.length ≤ 20000 := by omega
      clear h2
      go_enter Try.func14, Try.ntmps14
      go_wp2
      go_loopw [5] (fun m wr => ∃ j : Nat, j ≤ ps.length ∧ m = .int .i64 j ∧ good n (ps.take j) = true ∧ Below w.heap.size w wr) (fun m _ => ps.length - (intOf m).toNat)
      case atStart => exact ⟨0, Nat.zero_le _, rfl, by simp [good], Below.refl _ _⟩
      case round =>
        obtain ⟨j, hj, rfl, hg, hb⟩ := hrel
        have Hg := Lib.hid hg
        clear hg
        by_cases hlt : j < ps.length
        · obtain ⟨b, off, p, rfl, hbB, hpk, c1, c2, c3⟩ := pairs_at (hp.below (hb.mono hB)) hlt
          have Hpk := Lib.hid hpk
          clear hpk
          cases ho : okP n p
          · have hr : valid n ps = 1 := by rw [Hv.out, good_bad Hpk.out (.inl ho)]; rfl
            have Hr := Lib.hid hr
            have ho' : ¬ (0 ≤ p.i ∧ p.i < p.k ∧ p.k < n ∧ -1000 ≤ p.x ∧ p.x ≤ 1000) := by simpa [okP] using ho
            have Ho := Lib.hid ho'
            clear hr ho ho'
            go_wp2
            all_goals first
              | (exfalso; have := Ho.out; omega)
              | (go_ret; exact ⟨ret_int Hr.out.symm, hb.alloc (by have := hb.size; omega) _⟩)
          · have ho' : (0 ≤ p.i ∧ p.i < p.k ∧ p.k < n ∧ -1000 ≤ p.x ∧ p.x ≤ 1000) := by simpa [okP] using ho
            obtain ⟨o1, o2, o3, o4, o5⟩ := ho'
            have Ho := Lib.hid ho
            clear ho
            go_wp2
            go_loopw [7] (fun m wx => ∃ q l : Nat, l ≤ j ∧ m = .int .i64 l ∧ key p ∉ (ps.take l).map key ∧ wx = (wr.alloc (Obj.cells #[Value.int IntKind.i64 p.i, Value.int IntKind.i64 p.k, Value.int IntKind.i64 p.x] 28)).drewN q) (fun m _ => j - (intOf m).toNat)
            case atStart => exact ⟨0, 0, Nat.zero_le _, rfl, by simp, rfl⟩
            case round =>
              obtain ⟨q, l, hlj, rfl, hk, rfl⟩ := hrel
              have Hk := Lib.hid hk
              clear hk
              have hsz := hb.size
              have hbw : b < wr.heap.size := by omega
              by_cases hll : l < j
              · obtain ⟨b', off', p', hA', _, hpl, d1, d2, d3⟩ := pairs_at (hp.below (hb.mono hB)) (k := l) (by omega)
                obtain ⟨rfl, rfl⟩ : b = b' ∧ off = off' := by simpa using hA'
                have Hpl := Lib.hid hpl
                clear hpl hA'
                by_cases e1 : p'.i = p.i
                · have e1' : (p'.i == p.i) = true := by simpa using e1
                  by_cases e2 : p'.k = p.k
                  · have e2' : (p'.k == p.k) = true := by simpa using e2
                    have hr : valid n ps = 1 := by
                      rw [Hv.out, good_bad Hpk.out (.inr ?_)]
                      · rfl
                      · refine List.mem_map.2 ⟨p', ?_, by simp [key, e1, e2]⟩
                        exact List.mem_of_getElem? (i := l) (by rw [List.getElem?_take, if_pos hll]; exact Hpl.out)
                    have Hr := Lib.hid hr
                    clear hr e1 e2
                    go_wp2
                    go_quiet (fail)
                    go_wp2
                    go_ret
                    exact ⟨ret_int Hr.out.symm, below_drewN (below_drewN (hb.alloc (by omega) _) _) _⟩
                  · have e2' : (p'.k == p.k) = false := by simpa using e2
                    have hn : key p ∉ (ps.take (l + 1)).map key := by
                      rw [take_snoc Hpl.out, List.map_append, List.mem_append]
                      rintro (h | h)
                      · exact Hk.out h
                      · simp [key] at h; exact e2 h.2.symm
                    have Hn := Lib.hid hn
                    clear hn e1 e2
                    go_wp2
                    go_quiet (fail)
                    go_wp2
                    go_roundw
                    case rel => exact ⟨_, l + 1, by omega, by go_num, Hn.out, rfl⟩
                    case measure => simp [intOf]; omega
                · have e1' : (p'.i == p.i) = false := by simpa using e1
                  have hn : key p ∉ (ps.take (l + 1)).map key := by
                    rw [take_snoc Hpl.out, List.map_append, List.mem_append]
                    rintro (h | h)
                    · exact Hk.out h
                    · simp [key] at h; exact e1 h.1.symm
                  have Hn := Lib.hid hn
                  clear hn e1
                  go_wp2
                  go_quiet (fail)
                  go_wp2
                  go_roundw
                  case rel => exact ⟨_, l + 1, by omega, by go_num, Hn.out, rfl⟩
                  case measure => simp [intOf]; omega
              · have hl' : l = j := by omega
                have hn := good_step Hpk.out Hg.out Ho.out (by have := Hk.out; rw [hl'] at this; exact this)
                have Hn := Lib.hid hn
                clear hn hl'
                go_wp2
                go_roundw
                case rel => exact ⟨j + 1, by omega, by go_num, Hn.out, below_drewN (hb.alloc (by omega) _) _⟩
                case measure => simp [intOf]; omega
        · have e : ps.take j = ps := by rw [List.take_of_length_le (by omega)]
          have hr : valid n ps = 0 := by have := Hg.out; rw [e] at this; rw [Hv.out, if_pos this]
          have Hr := Lib.hid hr
          clear hr e
          go_wp2
          go_ret
          exact ⟨ret_int Hr.out.symm, hb⟩
end Go.Proofs.Ytmjicfafjjgekaa
