/- W17: the walk of drossref54.Pivot; the matrix holds the weights. -/
import Derived.Test.YtmjicfafjjgekaaW2
import Derived.Test.YtmjicfafjjgekaaW13
namespace Go.Proofs.Ytmjicfafjjgekaa
open Go.RowKit Go.Dr

def wOf (ps : List P3) (i k : Nat) : Int := (weight ps i k).getD 0

theorem weight_bd {n : Int} {ps : List P3} (h : ∀ p ∈ ps, okP n p = true) (i k : Int) : -1000 ≤ (weight ps i k).getD 0 ∧ (weight ps i k).getD 0 ≤ 1000 := by
  induction ps with
  | nil => simp [weight]
  | cons p ps ih =>
    have h2 := h p List.mem_cons_self
    simp only [okP, decide_eq_true_eq] at h2
    rw [weight]
    split
    · simp; omega
    · exact ih (fun q hq => h q (List.mem_cons_of_mem _ hq))

theorem pivIn_congr {f g : Nat → Nat → Int} (h : ∀ i k, i < k → f i k = g i k) (v : Nat) (nx : Int) (l : List Int) : ∀ c, pivIn f v nx l c = pivIn g v nx l c
  | 0 => rfl
  | c + 1 => by rw [pivIn, pivIn, pivIn_congr h v nx l c, h v (v + 1 + c) (by omega)]
theorem pivTo_congr {f g : Nat → Nat → Int} (h : ∀ i k, i < k → f i k = g i k) (n : Nat) : ∀ v, pivTo f n v = pivTo g n v
  | 0 => rfl
  | v + 1 => by rw [pivTo, pivTo, pivTo_congr h n v]; unfold pivStep; simp only [pivIn_congr h]
theorem pivot_congr {f g : Nat → Nat → Int} (h : ∀ i k, i < k → f i k = g i k) (n : Nat) : pivot n f = pivot n g := by unfold pivot; rw [pivTo_congr h]

/-- The matrix of a good list holds the weights. -/
theorem foldl_mat (ps : List P3) : ∀ (g : Nat → Nat → Int) (i k : Nat), i < k → (∀ p ∈ ps, 0 ≤ p.i ∧ p.i < p.k) → (ps.map key).Nodup → ps.foldl matSet g i k = (weight ps i k).getD (g i k) := by
  induction ps with
  | nil => intro g i k _ _ _; simp [weight]
  | cons p ps ih =>
    intro g i k hik hp hn
    rw [List.foldl_cons, ih _ i k hik (fun q hq => hp q (List.mem_cons_of_mem _ hq)) (List.nodup_cons.1 hn).2, weight]
    have hpp := hp p List.mem_cons_self
    have hnot := (List.nodup_cons.1 hn).1
    by_cases h : p.i = i ∧ p.k = k
    · rw [if_pos h]
      have hw : weight ps i k = none := by
        cases hc : weight ps i k with
        | none => rfl
        | some x =>
          exfalso
          apply hnot
          clear ih hn hp
          induction ps with
          | nil => simp [weight] at hc
          | cons q ps ih2 =>
            rw [weight] at hc
            split at hc
            · rename_i hq
              exact List.mem_map.2 ⟨q, List.mem_cons_self, by simp [key, hq, h]⟩
            · have := ih2 (fun h' => hnot (by simp at h' ⊢; exact .inr h')) hc
              simp at this ⊢
              exact .inr this
      rw [hw]
      simp only [Option.getD_none, Option.getD_some, matSet]
      rw [if_pos]
      right
      omega
    · rw [if_neg h]
      congr 1
      unfold matSet
      rw [if_neg]
      omega
theorem matOf_weight {n : Int} {ps : List P3} (h : good n ps = true) (i k : Nat) (hik : i < k) : matOf ps i k = wOf ps i k := by
  unfold matOf wOf
  refine foldl_mat ps _ i k hik (fun p hp => ?_) (good_nodup h)
  have := good_all h p hp
  simp only [okP, decide_eq_true_eq] at this
  omega

set_option maxRecDepth 100000 in
set_option maxHeartbeats 1000000 in
theorem rpivot_err (n : Int) (A : Option Addr) (cap : Nat) (ps : List P3) (B : Nat) (w : World) (hB : B ≤ w.heap.size) (hl : ps.length ≤ 100000) (hp : PairsAt w B A ps) (hv : valid n ps ≠ 0) :
    Calls Try.prog 26 #[.int .i64 n, .slice A ps.length cap] w fun e w' => e = .returned (.tuple #[.slice none 0 0, .int .i64 (valid n ps)]) ∧ Below w.heap.size w w' := by
  have hc := rvalid_any n A cap ps B w hB hl hp
  obtain ⟨e, he⟩ : ∃ e, e = valid n ps := ⟨_, rfl⟩
  rw [← he] at hc hv ⊢
  have hv' : (e != 0) = true := by simpa using hv
  have Hc := Lib.hid hc
  clear hc hv he
  go_enter Try.func26, Try.ntmps26
  go_wp2_with fail
  refine Hc.out.mono ?_
  rintro e' w1 ⟨rfl, hb⟩
  have Hb := Lib.hid hb
  clear hb
  go_wp2_with fail
  go_ret2
  exact ⟨rfl, Hb.out⟩

set_option maxRecDepth 100000 in
set_option maxHeartbeats 1000000 in
theorem rpivot_ok (n : Nat) (A : Option Addr) (cap : Nat) (ps : List P3) (B : Nat) (w : World) (hB : B ≤ w.heap.size) (hl : ps.length ≤ 100000) (hp : PairsAt w B A ps) (hv : valid n ps = 0) (hn : n ≤ 200) :
    Calls Try.prog 26 #[.int .i64 (n : Int), .slice A ps.length cap] w fun e w' => ∃ g, e = .returned (.tuple #[.slice (some ⟨g, 0, none⟩) n n, .int .i64 0]) ∧
      Blk w' g 3 (ints (pivot n (wOf ps))).toArray ∧ Below w.heap.size w w' := by
  have hc := rvalid_any n A cap ps B w hB hl hp
  rw [hv] at hc
  have Hc := Lib.hid hc
  have hok : ∀ p ∈ ps, okP n p = true := by
    rcases valid_cases n ps with h | h
    · rw [hv] at h; simp at h
    · exact good_all h.2.2.2.2
  have Hok := Lib.hid hok
  have Hp := Lib.hid hp
  have hmk := make35 n (by omega)
  clear hc hv hok hp
  go_enter Try.func26, Try.ntmps26
  go_wp2_with fail
  refine Hc.out.mono ?_
  rintro e' w1 ⟨rfl, hb⟩
  have Hb := Lib.hid hb
  have hs1 := hb.size
  have Hp1 := Lib.hid (Hp.out.call hb hB)
  clear hb Hc
  go_wp2_with fail
  clear hmk
  go_loopw [8] (fun ii wr => ∃ i : Nat, i ≤ n ∧ ii = .int .i64 i ∧ Blk wr w1.heap.size 3 (negs n i).toArray ∧ Below w.heap.size w wr ∧ PairsAt wr B A ps) (fun ii _ => n - (intOf ii).toNat)
  case atStart => exact ⟨0, Nat.zero_le _, rfl, by rw [← negs_zero]; exact Blk.new w1 3 _, Hb.out.alloc hs1 _, Hp1.out.alloc (by omega) _⟩
  case round =>
    obtain ⟨i, hi, rfl, hk, hb, hpr⟩ := hrel
    have Hk := Lib.hid hk
    have Hb2 := Lib.hid hb
    have Hpr := Lib.hid hpr
    clear hk hb hpr
    by_cases hin : i < n
    · have f1 := Hk.out.frozen i
      obtain ⟨x, hx⟩ : ∃ x, wr.cell? ⟨w1.heap.size, i, none⟩ = some x := ⟨_, by rw [Hk.out.cell, List.getElem?_toArray]; exact List.getElem?_eq_getElem (by rw [negs_len hi]; exact hin)⟩
      have hnx : Blk (wr.setCell ⟨w1.heap.size, i, none⟩ (.int .i64 (-1))) w1.heap.size 3 (negs n (i + 1)).toArray := by
        have h1 := Hk.out.set_ i (.int .i64 (-1))
        have e : (negs n i).toArray.setIfInBounds i (.int .i64 (-1)) = (negs n (i + 1)).toArray := by
          rw [← negs_splice (k := i) (m := 1) (by omega)]
          apply Array.toList_inj.1
          simp only [Array.toList_setIfInBounds]
          apply List.ext_getElem?
          intro j
          simp only [splice, List.getElem?_set, List.replicate_one]
          by_cases hj : i = j
          · subst hj
            rw [if_pos rfl, if_pos (by rw [negs_len hi]; exact hin), List.getElem?_append_right (by simp; omega)]
            simp [negs_len hi]
            rw [Nat.min_eq_left (by omega)]
            simp
          · rw [if_neg hj]
            by_cases hj2 : j < i
            · rw [List.getElem?_append_left (by simp [negs_len hi]; omega), List.getElem?_take, if_pos hj2]
            · rw [List.getElem?_append_right (by simp; omega)]
              simp [negs_len hi]
              rw [Nat.min_eq_left (by omega), List.getElem?_cons]
              rw [if_neg (by omega), List.getElem?_drop]
              congr 1
              omega
        rwa [e] at h1
      have Hnx := Lib.hid hnx
      clear hnx
      go_wp2_with fail
      go_roundw
      case rel => exact ⟨i + 1, by omega, by go_num, Hnx.out, Hb2.out.setCell (p := ⟨w1.heap.size, i, none⟩) hs1 _, Hpr.out.setCell (p := ⟨w1.heap.size, i, none⟩) (by show B ≤ w1.heap.size; omega) _⟩
      case measure => simp [intOf]; omega
    · obtain rfl : i = n := by omega
      rw [negs_full] at Hk
      clear hin
      go_wp2_with fail
      obtain ⟨wo, rfl⟩ : ∃ wo : World, wo = wr := ⟨_, rfl⟩
      go_loopw [10, 9] (fun vv nx wr => ∃ v : Nat, v ≤ i ∧ vv = .int .i64 v ∧ nx = .int .i64 ((pivTo (wOf ps) i v).2 : Int) ∧ Blk wr w1.heap.size 3 (ints (pivTo (wOf ps) i v).1).toArray ∧ Below w.heap.size w wr ∧ PairsAt wr B A ps) (fun vv _ _ => i - (intOf vv).toNat)
      case atStart => exact ⟨0, Nat.zero_le _, rfl, rfl, Hk.out, Hb2.out, Hpr.out⟩
      case round =>
        obtain ⟨v, hv, rfl, rfl, hk, hb, hpq⟩ := hrel
        have hpl := pivTo_len (wOf ps) i v
        obtain ⟨l, hll⟩ : ∃ l, l = (pivTo (wOf ps) i v).1 := ⟨_, rfl⟩
        obtain ⟨nx, hnx⟩ : ∃ nx, nx = (pivTo (wOf ps) i v).2 := ⟨_, rfl⟩
        rw [← hll, ← hnx] at hpl
        rw [← hll] at hk
        rw [← hnx]
        obtain ⟨hlen, hnxv⟩ := hpl
        have hps : pivTo (wOf ps) i (v + 1) = pivStep (wOf ps) i v (l, nx) := by rw [pivTo, hll, hnx]
        have Hps := Lib.hid hps
        have Hll := Lib.hid hll
        have Hlen := Lib.hid hlen
        have Hkv := Lib.hid hk
        have Hbv := Lib.hid hb
        have Hpv := Lib.hid hpq
        clear hk hb hlen hll hnx hps hpq
        by_cases hlt : v < i
        · obtain ⟨x0, hx0⟩ : ∃ x0, l[v]? = some x0 := ⟨_, List.getElem?_eq_getElem (by have := Hlen.out; omega)⟩
          have d1 : wr.cell? ⟨w1.heap.size, v, none⟩ = some (.int .i64 x0) := by rw [Hkv.out.cell]; simp [hx0]
          have f1 := Hkv.out.frozen v
          have hgd : l.getD v 0 = x0 := by simp [hx0]
          have Hgd := Lib.hid hgd
          clear hx0 hgd
          by_cases hx : 0 ≤ x0
          · have hst : pivStep (wOf ps) i v (l, nx) = (l, nx) := by rw [pivStep, if_pos (by rw [Hgd.out]; exact hx)]
            have Hst := Lib.hid hst
            clear hst
            go_wp2_with fail
            go_roundw
            case rel => exact ⟨v + 1, by omega, by go_num, by rw [Hps.out, Hst.out], by rw [Hps.out, Hst.out]; exact Hkv.out, Hbv.out, Hpv.out⟩
            case measure => simp [intOf]; omega
          · have hst : pivStep (wOf ps) i v (l, nx) = (pivIn (wOf ps) v nx (l.set v nx) (i - v - 1), nx + 1) := by rw [pivStep, if_neg (by rw [Hgd.out]; exact hx)]
            have Hst := Lib.hid hst
            have hk1 : Blk (wr.setCell ⟨w1.heap.size, v, none⟩ (.int .i64 (nx : Int))) w1.heap.size 3 (ints (l.set v nx)).toArray := by
              have := Hkv.out.set_ v (.int .i64 (nx : Int))
              rwa [show (ints l).toArray.setIfInBounds v (.int .i64 (nx : Int)) = (ints (l.set v nx)).toArray by simp [List.map_set]] at this
            have Hk1 := Lib.hid hk1
            have Hb1 := Lib.hid (Hbv.out.setCell (p := ⟨w1.heap.size, v, none⟩) hs1 (.int .i64 (nx : Int)))
            have Hp2 := Lib.hid (Hpv.out.setCell (p := ⟨w1.heap.size, v, none⟩) (by show B ≤ w1.heap.size; omega) (.int .i64 (nx : Int)))
            clear hst hk1
            go_wp2_with fail
            go_loopw [11] (fun xx wx => ∃ c : Nat, c ≤ i - v - 1 ∧ xx = .int .i64 ((v + 1 + c : Nat) : Int) ∧ Blk wx w1.heap.size 3 (ints (pivIn (wOf ps) v nx (l.set v nx) c)).toArray ∧ Below w.heap.size w wx ∧ PairsAt wx B A ps) (fun xx _ => i - (intOf xx).toNat)
            case atStart => exact ⟨0, Nat.zero_le _, by go_num, Hk1.out, Hb1.out, Hp2.out⟩
            case round =>
              obtain ⟨c, hc, rfl, hkc, hbc, hpc⟩ := hrel
              obtain ⟨lc, hlc⟩ : ∃ lc, lc = pivIn (wOf ps) v nx (l.set v nx) c := ⟨_, rfl⟩
              have hlcl : lc.length = i := by rw [hlc, pivIn_len]; simpa using Hlen.out
              rw [← hlc] at hkc
              have Hlc := Lib.hid hlc
              have Hkc := Lib.hid hkc
              have Hbc := Lib.hid hbc
              have Hpc := Lib.hid hpc
              have Hlcl := Lib.hid hlcl
              obtain ⟨x, hxx⟩ : ∃ x, x = v + 1 + c := ⟨_, rfl⟩
              have hnext : pivIn (wOf ps) v nx (l.set v nx) (c + 1) = if lc.getD x 0 < 0 ∧ 0 < wOf ps v x then lc.set x nx else lc := by rw [pivIn, ← hlc, ← hxx]
              have Hnext := Lib.hid hnext
              have hx1 : v < x := by omega
              rw [← hxx]
              have Hxx := Lib.hid hxx
              clear hkc hbc hlcl hlc hxx hnext hpc
              by_cases hxn : x < i
              · obtain ⟨y, hy⟩ : ∃ y, lc[x]? = some y := ⟨_, List.getElem?_eq_getElem (by have := Hlcl.out; omega)⟩
                have q3 : wr.cell? ⟨w1.heap.size, x, none⟩ = some (.int .i64 y) := by rw [Hkc.out.cell]; simp [hy]
                have q4 := Hkc.out.frozen x
                have hgy : lc.getD x 0 = y := by simp [hy]
                have Hgy := Lib.hid hgy
                obtain ⟨z, hz⟩ : ∃ z, z = wOf ps v x := ⟨_, rfl⟩
                obtain ⟨zb, hzb⟩ : ∃ zb, zb = (weight ps v x).isSome := ⟨_, rfl⟩
                have hcw := weight_any A cap ps B v x wr hl Hpc.out
                rw [show (weight ps v x).getD 0 = z from hz.symm, ← hzb] at hcw
                have Hcw := Lib.hid hcw
                have Hz := Lib.hid hz
                clear hy hgy hz hzb hcw
                by_cases hz0 : 0 < z
                · by_cases hy0 : y < 0
                  · have hn1 : pivIn (wOf ps) v nx (l.set v nx) (c + 1) = lc.set x nx := by rw [Hnext.out, if_pos (by rw [Hgy.out, ← Hz.out]; exact ⟨hy0, hz0⟩)]
                    have Hn1 := Lib.hid hn1
                    clear hn1
                    go_wp2_with fail
                    refine Hcw.out.mono ?_
                    rintro e w9 ⟨rfl, rfl⟩
                    go_wp2_with fail
                    go_roundw
                    case rel =>
                      refine ⟨c + 1, by have := Hxx.out; omega, by have := Hxx.out; go_num, ?_, Hbc.out.setCell (p := ⟨w1.heap.size, x, none⟩) hs1 _, Hpc.out.setCell (p := ⟨w1.heap.size, x, none⟩) (by show B ≤ w1.heap.size; omega) _⟩
                      rw [Hn1.out]
                      have := Hkc.out.set_ x (.int .i64 (nx : Int))
                      rwa [show (ints lc).toArray.setIfInBounds x (.int .i64 (nx : Int)) = (ints (lc.set x nx)).toArray by simp [List.map_set]] at this
                    case measure => simp [intOf]; omega
                  · have hn1 : pivIn (wOf ps) v nx (l.set v nx) (c + 1) = lc := by rw [Hnext.out, if_neg (by rw [Hgy.out]; exact fun h => hy0 h.1)]
                    have Hn1 := Lib.hid hn1
                    clear hn1
                    go_wp2_with fail
                    refine Hcw.out.mono ?_
                    rintro e w9 ⟨rfl, rfl⟩
                    go_wp2_with fail
                    go_roundw
                    case rel => exact ⟨c + 1, by have := Hxx.out; omega, by have := Hxx.out; go_num, by rw [Hn1.out]; exact Hkc.out, Hbc.out, Hpc.out⟩
                    case measure => simp [intOf]; omega
                · have hn1 : pivIn (wOf ps) v nx (l.set v nx) (c + 1) = lc := by rw [Hnext.out, if_neg (by rw [← Hz.out]; exact fun h => hz0 h.2)]
                  have Hn1 := Lib.hid hn1
                  clear hn1
                  go_wp2_with fail
                  refine Hcw.out.mono ?_
                  rintro e w9 ⟨rfl, rfl⟩
                  go_wp2_with fail
                  go_roundw
                  case rel => exact ⟨c + 1, by have := Hxx.out; omega, by have := Hxx.out; go_num, by rw [Hn1.out]; exact Hkc.out, Hbc.out, Hpc.out⟩
                  case measure => simp [intOf]; omega
              · have hce : c = i - v - 1 := by have := Hxx.out; omega
                have Hce := Lib.hid hce
                clear hce
                go_wp2_with fail
                go_roundw
                case rel => exact ⟨v + 1, by omega, by go_num, by rw [Hps.out, Hst.out]; go_num, by rw [Hps.out, Hst.out, ← Hce.out, ← Hlc.out]; exact Hkc.out, Hbc.out, Hpc.out⟩
                case measure => simp [intOf]; omega
        · obtain rfl : v = i := by omega
          go_wp2_with fail
          go_ret2
          refine ⟨w1.heap.size, rfl, ?_, Hbv.out⟩
          rw [show pivot v (wOf ps) = l by rw [Hll.out]; rfl]
          exact Hkv.out
end Go.Proofs.Ytmjicfafjjgekaa
