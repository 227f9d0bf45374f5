/- W13: the walk of cluster.Pivot. -/
import Derived.Test.YtmjicfafjjgekaaW12
namespace Go.Proofs.Ytmjicfafjjgekaa
open Go.RowKit Go.Dr

def pivIn (f : Nat → Nat → Int) (v : Nat) (next : Int) (l : List Int) : Nat → List Int
  | 0 => l
  | c + 1 => if (pivIn f v next l c).getD (v + 1 + c) 0 < 0 ∧ 0 < f v (v + 1 + c) then (pivIn f v next l c).set (v + 1 + c) next else pivIn f v next l c
def pivStep (f : Nat → Nat → Int) (n v : Nat) (s : List Int × Nat) : List Int × Nat :=
  if 0 ≤ s.1.getD v 0 then s else (pivIn f v s.2 (s.1.set v s.2) (n - v - 1), s.2 + 1)
def pivTo (f : Nat → Nat → Int) (n : Nat) : Nat → List Int × Nat
  | 0 => (List.replicate n (-1), 0)
  | v + 1 => pivStep f n v (pivTo f n v)
def pivot (n : Nat) (f : Nat → Nat → Int) : List Int := (pivTo f n n).1
theorem pivIn_len (f : Nat → Nat → Int) (v : Nat) (next : Int) (l : List Int) : ∀ c, (pivIn f v next l c).length = l.length
  | 0 => rfl
  | c + 1 => by rw [pivIn]; split <;> simp [pivIn_len f v next l c]
theorem pivTo_len (f : Nat → Nat → Int) (n : Nat) : ∀ v, (pivTo f n v).1.length = n ∧ (pivTo f n v).2 ≤ v
  | 0 => by simp [pivTo]
  | v + 1 => by
    have := pivTo_len f n v
    rw [pivTo, pivStep]
    split
    · omega
    · simp only [pivIn_len, List.length_set]; omega

set_option maxRecDepth 100000 in
set_option maxHeartbeats 1000000 in
theorem pivot_err (n : Int) (A : Option Addr) (cap : Nat) (ps : List P3) (B : Nat) (w : World) (hB : B ≤ w.heap.size) (hl : ps.length ≤ 100000) (hp : PairsAt w B A ps) (hv : valid n ps ≠ 0) :
    Calls Try.prog 25 #[.int .i64 n, .slice A ps.length cap] w fun e w' => e = .returned (.tuple #[.slice none 0 0, .int .i64 (valid n ps)]) ∧ Below w.heap.size w w' := by
  have hc := cvalid_any n A cap ps B w hB hl hp
  obtain ⟨e, he⟩ : ∃ e, e = valid n ps := ⟨_, rfl⟩
  rw [← he] at hc hv ⊢
  have hv' : (e != 0) = true := by simpa using hv
  have Hc := Lib.hid hc
  clear hc hv he
  go_enter Try.func25, Try.ntmps25
  go_wp2_with fail
  refine Hc.out.mono ?_
  rintro e' w1 ⟨rfl, hb⟩
  have Hb := Lib.hid hb
  clear hb
  go_wp2_with fail
  go_ret2
  exact ⟨rfl, Hb.out⟩

set_option maxRecDepth 100000 in
set_option maxHeartbeats 1000000 in
theorem pivot_ok (n : Nat) (A : Option Addr) (cap : Nat) (ps : List P3) (B : Nat) (w : World) (hB : B ≤ w.heap.size) (hl : ps.length ≤ 100000) (hp : PairsAt w B A ps) (hv : valid n ps = 0) (hn : n ≤ 200) :
    Calls Try.prog 25 #[.int .i64 (n : Int), .slice A ps.length cap] w fun e w' => ∃ g, e = .returned (.tuple #[.slice (some ⟨g, 0, none⟩) n n, .int .i64 0]) ∧
      Blk w' g 3 (ints (pivot n (matOf ps))).toArray ∧ Below w.heap.size w w' := by
  have hc := cvalid_any n A cap ps B w hB hl hp
  rw [hv] at hc
  have Hc := Lib.hid hc
  have hok : ∀ p ∈ ps, okP n p = true := by
    rcases valid_cases n ps with h | h
    · rw [hv] at h; simp at h
    · exact good_all h.2.2.2.2
  have Hok := Lib.hid hok
  clear hc hv hok
  go_enter Try.func25, Try.ntmps25
  go_wp2_with fail
  refine Hc.out.mono ?_
  rintro e' w1 ⟨rfl, hb⟩
  have Hb := Lib.hid hb
  have hs1 := hb.size
  clear hb Hc
  go_wp2_with fail
  refine (matrix_any n A cap ps B w1 (by omega) hl hn (hp.call Hb.out hB) Hok.out).mono ?_
  rintro e' w2 ⟨g1, r1, c1, rfl, hm1, hb2⟩
  have Hm1 := Lib.hid hm1
  have Hb2 := Lib.hid hb2
  have hs2 := hb2.size
  clear hm1 hb2
  have hrp := repeat_any n w2.heap.size 0 1 hn (w2.alloc (.cells #[.int .i64 (-1)] 3)) (by simp) ((Blk.new w2 3 _).cell 0)
  rw [show (w2.alloc (.cells #[.int .i64 (-1)] 3)).heap.size = w2.heap.size + 1 by simp] at hrp
  have Hrp := Lib.hid hrp
  clear hrp
  go_wp2_with fail
  refine Hrp.out.mono ?_
  rintro e' w3 ⟨rfl, hk3, hb3⟩
  have hs3 := hb3.size
  have Hk3 := Lib.hid hk3
  have Hm3 := Lib.hid ((Hm1.out.alloc (Nat.le_refl _) (.cells #[.int .i64 (-1)] 3)).below (hb3.mono (by omega)))
  have Hb3 := Lib.hid ((Hb.out.trans (Hb2.out.mono hs1)).trans (((Below.refl _ _).alloc (by omega) (.cells #[.int .i64 (-1)] 3)).trans (hb3.mono (by omega))))
  clear hk3 hb3 Hm1 Hb Hb2 Hrp
  obtain ⟨f, hf⟩ : ∃ f, f = matOf ps := ⟨_, rfl⟩
  rw [← hf] at Hm3
  have Hf := Lib.hid hf
  clear hf
  go_wp2_with fail
  go_loopw [25, 9] (fun vv nx wr => ∃ v : Nat, v ≤ n ∧ vv = .int .i64 v ∧ nx = .int .i64 ((pivTo f n v).2 : Int) ∧ Blk wr (w2.heap.size + 1) 3 (ints (pivTo f n v).1).toArray ∧ Mat wr w1.heap.size w2.heap.size g1 n n r1 c1 f ∧ Below w.heap.size w wr) (fun vv _ _ => n - (intOf vv).toNat)
  case atStart => exact ⟨0, Nat.zero_le _, rfl, rfl, Hk3.out, Hm3.out, Hb3.out⟩
  case round =>
    obtain ⟨v, hv, rfl, rfl, hk, hm, hb⟩ := hrel
    have hpl := pivTo_len f n v
    obtain ⟨l, hll⟩ : ∃ l, l = (pivTo f n v).1 := ⟨_, rfl⟩
    obtain ⟨nx, hnx⟩ : ∃ nx, nx = (pivTo f n v).2 := ⟨_, rfl⟩
    rw [← hll, ← hnx] at hpl
    rw [← hll] at hk
    rw [← hnx]
    obtain ⟨hlen, hnxv⟩ := hpl
    have hps : pivTo f n (v + 1) = pivStep f n v (l, nx) := by rw [pivTo, hll, hnx]
    have Hps := Lib.hid hps
    have Hll := Lib.hid hll
    have Hlen := Lib.hid hlen
    have Hk := Lib.hid hk
    have Hm := Lib.hid hm
    have Hb := Lib.hid hb
    have hsz := hb.size
    have hkl := hk.lt
    clear hk hm hb hlen hll hnx hps
    by_cases hlt : v < n
    · obtain ⟨x0, hx0⟩ : ∃ x0, l[v]? = some x0 := ⟨_, List.getElem?_eq_getElem (by have := Hlen.out; omega)⟩
      have d1 : wr.cell? ⟨w2.heap.size + 1, v, none⟩ = some (.int .i64 x0) := by rw [Hk.out.cell]; simp [hx0]
      have f1 := Hk.out.frozen v
      have hgd : l.getD v 0 = x0 := by simp [hx0]
      have Hgd := Lib.hid hgd
      clear hx0 hgd
      by_cases hx : 0 ≤ x0
      · have hst : pivStep f n v (l, nx) = (l, nx) := by rw [pivStep, if_pos (by rw [Hgd.out]; exact hx)]
        have Hst := Lib.hid hst
        clear hst
        go_wp2_with fail
        go_roundw
        case rel => exact ⟨v + 1, by omega, by go_num, by rw [Hps.out, Hst.out], by rw [Hps.out, Hst.out]; exact Hk.out, Hm.out, Hb.out⟩
        case measure => simp [intOf]; omega
      · have hst : pivStep f n v (l, nx) = (pivIn f v nx (l.set v nx) (n - v - 1), nx + 1) := by rw [pivStep, if_neg (by rw [Hgd.out]; exact hx)]
        have Hst := Lib.hid hst
        have hk1 : Blk (wr.setCell ⟨w2.heap.size + 1, v, none⟩ (.int .i64 (nx : Int))) (w2.heap.size + 1) 3 (ints (l.set v nx)).toArray := by
          have := Hk.out.set_ v (.int .i64 (nx : Int))
          rwa [show (ints l).toArray.setIfInBounds v (.int .i64 (nx : Int)) = (ints (l.set v nx)).toArray by simp [List.map_set]] at this
        have Hk1 := Lib.hid hk1
        have Hm1 := Lib.hid (Hm.out.setCell (p := ⟨w2.heap.size + 1, v, none⟩) (.inr (by show w2.heap.size ≤ w2.heap.size + 1; omega)) (.int .i64 (nx : Int)))
        have Hb1 := Lib.hid (Hb.out.setCell (p := ⟨w2.heap.size + 1, v, none⟩) (by show w.heap.size ≤ w2.heap.size + 1; omega) (.int .i64 (nx : Int)))
        clear hst hk1
        go_wp2_with fail
        go_loopw [11] (fun xx wx => ∃ c : Nat, c ≤ n - v - 1 ∧ xx = .int .i64 ((v + 1 + c : Nat) : Int) ∧ Blk wx (w2.heap.size + 1) 3 (ints (pivIn f v nx (l.set v nx) c)).toArray ∧ Mat wx w1.heap.size w2.heap.size g1 n n r1 c1 f ∧ Below w.heap.size w wx) (fun xx _ => n - (intOf xx).toNat)
        case atStart => exact ⟨0, Nat.zero_le _, by go_num, Hk1.out, Hm1.out, Hb1.out⟩
        case round =>
          obtain ⟨c, hc, rfl, hkc, hmc, hbc⟩ := hrel
          obtain ⟨lc, hlc⟩ : ∃ lc, lc = pivIn f v nx (l.set v nx) c := ⟨_, rfl⟩
          have hlcl : lc.length = n := by rw [hlc, pivIn_len]; simpa using Hlen.out
          rw [← hlc] at hkc
          have Hlc := Lib.hid hlc
          have Hkc := Lib.hid hkc
          have Hmc := Lib.hid hmc
          have Hbc := Lib.hid hbc
          have Hlcl := Lib.hid hlcl
          obtain ⟨x, hxx⟩ : ∃ x, x = v + 1 + c := ⟨_, rfl⟩
          have hnext : pivIn f v nx (l.set v nx) (c + 1) = if lc.getD x 0 < 0 ∧ 0 < f v x then lc.set x nx else lc := by rw [pivIn, ← hlc, ← hxx]
          have Hnext := Lib.hid hnext
          have hx1 : v < x := by omega
          rw [← hxx]
          have Hxx := Lib.hid hxx
          clear hkc hmc hbc hlcl hlc hxx hnext
          by_cases hxn : x < n
          · have q1 := Hmc.out.outer v hlt
            have q2 := Hmc.out.inner v x hlt hxn
            obtain ⟨y, hy⟩ : ∃ y, lc[x]? = some y := ⟨_, List.getElem?_eq_getElem (by have := Hlcl.out; omega)⟩
            have q3 : wr.cell? ⟨w2.heap.size + 1, x, none⟩ = some (.int .i64 y) := by rw [Hkc.out.cell]; simp [hy]
            have q4 := Hkc.out.frozen x
            have hgy : lc.getD x 0 = y := by simp [hy]
            have Hgy := Lib.hid hgy
            obtain ⟨z, hz⟩ : ∃ z, z = f v x := ⟨_, rfl⟩
            rw [← hz] at q2
            have Hz := Lib.hid hz
            clear hy hgy hz
            by_cases hy0 : y < 0
            · by_cases hz0 : 0 < z
              · have hn1 : pivIn f v nx (l.set v nx) (c + 1) = lc.set x nx := by rw [Hnext.out, if_pos (by rw [Hgy.out, ← Hz.out]; exact ⟨hy0, hz0⟩)]
                have Hn1 := Lib.hid hn1
                clear hn1
                go_wp2_with fail
                go_roundw
                case rel =>
                  refine ⟨c + 1, by have := Hxx.out; omega, by have := Hxx.out; go_num, ?_, Hmc.out.setCell (p := ⟨w2.heap.size + 1, x, none⟩) (.inr (by show w2.heap.size ≤ w2.heap.size + 1; omega)) _, Hbc.out.setCell (p := ⟨w2.heap.size + 1, x, none⟩) (by show w.heap.size ≤ w2.heap.size + 1; omega) _⟩
                  rw [Hn1.out]
                  have := Hkc.out.set_ x (.int .i64 (nx : Int))
                  rwa [show (ints lc).toArray.setIfInBounds x (.int .i64 (nx : Int)) = (ints (lc.set x nx)).toArray by simp [List.map_set]] at this
                case measure => simp [intOf]; omega
              · have hn1 : pivIn f v nx (l.set v nx) (c + 1) = lc := by rw [Hnext.out, if_neg (by rw [Hgy.out, ← Hz.out]; exact fun h => hz0 h.2)]
                have Hn1 := Lib.hid hn1
                clear hn1
                go_wp2_with fail
                go_roundw
                case rel => exact ⟨c + 1, by have := Hxx.out; omega, by have := Hxx.out; go_num, by rw [Hn1.out]; exact Hkc.out, Hmc.out, Hbc.out⟩
                case measure => simp [intOf]; omega
            · have hn1 : pivIn f v nx (l.set v nx) (c + 1) = lc := by rw [Hnext.out, if_neg (by rw [Hgy.out]; exact fun h => hy0 h.1)]
              have Hn1 := Lib.hid hn1
              clear hn1
              go_wp2_with fail
              go_roundw
              case rel => exact ⟨c + 1, by have := Hxx.out; omega, by have := Hxx.out; go_num, by rw [Hn1.out]; exact Hkc.out, Hmc.out, Hbc.out⟩
              case measure => simp [intOf]; omega
          · have hce : c = n - v - 1 := by have := Hxx.out; omega
            have Hce := Lib.hid hce
            clear hce
            go_wp2_with fail
            go_roundw
            case rel => exact ⟨v + 1, by omega, by go_num, by rw [Hps.out, Hst.out]; go_num, by rw [Hps.out, Hst.out, ← Hce.out, ← Hlc.out]; exact Hkc.out, Hmc.out, Hbc.out⟩
            case measure => simp [intOf]; omega
    · obtain rfl : v = n := by omega
      go_wp2_with fail
      go_ret2
      refine ⟨w2.heap.size + 1, rfl, ?_, Hb.out⟩
      rw [show pivot v (matOf ps) = l by rw [Hll.out, ← Hf.out]; rfl]
      exact Hk.out
end Go.Proofs.Ytmjicfafjjgekaa
