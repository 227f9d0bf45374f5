/- W21: the walk of drossref54.Normal. -/
import Derived.Test.YtmjicfafjjgekaaW18
namespace Go.Proofs.Ytmjicfafjjgekaa
open Go.RowKit Go.Dr

/-- Normal form: each label's place among the labels in the order of their first occurrence. -/
def nfStep (s : List Int × List Int) (x : Int) : List Int × List Int :=
  if x ∈ s.2 then (s.1 ++ [(s.2.idxOf x : Int)], s.2) else (s.1 ++ [(s.2.length : Int)], s.2 ++ [x])
def nfTo (xs : List Int) (i : Nat) : List Int × List Int := (xs.take i).foldl nfStep ([], [])
def nf (xs : List Int) : List Int := (nfTo xs xs.length).1
theorem nfTo_succ {xs : List Int} {i : Nat} {x : Int} (h : xs[i]? = some x) : nfTo xs (i + 1) = nfStep (nfTo xs i) x := by
  rw [nfTo, take_snoc h, List.foldl_append]; rfl
/-- What holds of the normal form so far. -/
structure NfOk (xs : List Int) (i : Nat) (s : List Int × List Int) : Prop where
  len : s.1.length = i
  mem : ∀ x, x ∈ s.2 ↔ x ∈ xs.take i
  at_ : ∀ k x, k < i → xs[k]? = some x → s.1[k]? = some (s.2.idxOf x : Int)
  slen : s.2.length ≤ i
theorem nfTo_ok (xs : List Int) : ∀ i, i ≤ xs.length → NfOk xs i (nfTo xs i)
  | 0, _ => ⟨rfl, by simp [nfTo], fun _ _ h => absurd h (by omega), by simp [nfTo]⟩
  | i + 1, h => by
    have ih := nfTo_ok xs i (by omega)
    have hx : xs[i]? = some xs[i] := List.getElem?_eq_getElem (by omega)
    rw [nfTo_succ hx]
    generalize nfTo xs i = s at ih
    generalize hy : xs[i] = y at hx
    have htake := take_snoc hx
    unfold nfStep
    split
    · rename_i hm
      refine ⟨by simp [ih.len], fun z => ?_, fun k z hk hz => ?_, by have := ih.slen; simp only; omega⟩
      · rw [htake]; simp only [List.mem_append, List.mem_singleton, ih.mem z]
        constructor
        · exact .inl
        · rintro (h | rfl)
          · exact h
          · exact (ih.mem _).1 hm
      · by_cases hki : k < i
        · simp only
          rw [List.getElem?_append_left (by rw [ih.len]; exact hki)]
          exact ih.at_ k z hki hz
        · obtain rfl : k = i := by omega
          rw [hx] at hz
          cases hz
          simp only
          rw [List.getElem?_append_right (by rw [ih.len]; omega), ih.len]
          simp
    · rename_i hm
      refine ⟨by simp [ih.len], fun z => ?_, fun k z hk hz => ?_, by have := ih.slen; simp; omega⟩
      · rw [htake]; simp [ih.mem z]
      · by_cases hki : k < i
        · have hzm : z ∈ s.2 := (ih.mem z).2 (by
            refine List.mem_of_getElem? (i := k) ?_
            rw [List.getElem?_take, if_pos hki]; exact hz)
          simp only
          rw [List.getElem?_append_left (by rw [ih.len]; exact hki), ih.at_ k z hki hz, List.idxOf_append, if_pos hzm]
        · obtain rfl : k = i := by omega
          rw [hx] at hz
          cases hz
          simp only
          rw [List.getElem?_append_right (by rw [ih.len]; omega), ih.len, List.idxOf_append, if_neg hm]
          simp
/-- The label that the reference finds among the first k. -/
def found (xs : List Int) (seen : List Int) (x : Int) (k : Nat) : Int := if x ∈ xs.take k then (seen.idxOf x : Int) else -1

set_option maxRecDepth 100000 in
set_option maxHeartbeats 1000000 in
theorem rnormal_any (A : Option Addr) (cap : Nat) (xs : List Int) (B : Nat) (w : World) (hB : B ≤ w.heap.size) (hl : xs.length ≤ 100000) (hp : RowAt w B A (ints xs)) :
    Calls Try.prog 27 #[.slice A xs.length cap] w fun e w' => ∃ A2 c2, e = .returned (.slice A2 xs.length c2) ∧ RowAt w' w'.heap.size A2 (ints (nf xs)) ∧ (A2 = none → xs = []) ∧ Below w.heap.size w w' := by
  obtain ⟨i3, hi, hz0, hz1, hz2⟩ := info_parts Try.info3
  have Hi3 := Lib.hid (show Try.prog.info? 3 = some i3 ∧ i3.zero = some _ ∧ i3.size = 1 ∧ i3.bytes = 8 from ⟨hi, hz0, hz1, hz2⟩)
  have Hp := Lib.hid hp
  clear hi hz0 hz1 hz2 hp
  go_enter Try.func27, Try.ntmps27
  go_wp2_with fail
  go_loopw [5, 4, 3] (fun ii nx v wr => ∃ i : Nat, i ≤ xs.length ∧ ii = .int .i64 i ∧ nx = .int .i64 ((nfTo xs i).2.length : Int) ∧ wr.ownsRow w.heap.size 3 1 v i (ints (nfTo xs i).1) ∧ Below w.heap.size w wr) (fun ii _ _ _ => xs.length - (intOf ii).toNat)
  case atStart => exact ⟨0, Nat.zero_le _, rfl, rfl, World.ownsRow_nil _ _ _ _, Below.refl _ _⟩
  case round =>
    obtain ⟨i, hi, rfl, rfl, hown, hb⟩ := hrel
    have hok := nfTo_ok xs i hi
    obtain ⟨s, hs⟩ : ∃ s, s = nfTo xs i := ⟨_, rfl⟩
    rw [← hs] at hown hok ⊢
    obtain ⟨A3, c3, rfl⟩ := own_slice hown
    have hslen := hok.slen
    have Hown := Lib.hid hown
    have Hb := Lib.hid hb
    have Hok := Lib.hid hok
    have Hs := Lib.hid hs
    have hsz := hb.size
    clear hown hb hok hs
    by_cases hin : i < xs.length
    · obtain ⟨b, off, x, rfl, hbb, hx, d1⟩ := ints_at' (Hp.out.below (Hb.out.mono hB)) hin
      have Hx := Lib.hid hx
      clear hx
      go_wp2_with fail
      obtain ⟨wo, rfl⟩ : ∃ wo : World, wo = wr := ⟨_, rfl⟩
      go_loopw [7, 6] (fun kk lb wx => ∃ k q : Nat, k ≤ i ∧ kk = .int .i64 k ∧ lb = .int .i64 (found xs s.2 x k) ∧ wx = wo.drewN q) (fun kk _ _ => i - (intOf kk).toNat)
      case atStart => exact ⟨0, 0, Nat.zero_le _, rfl, by simp [found], rfl⟩
      case round =>
        obtain ⟨k, q, hk, rfl, rfl, rfl⟩ := hrel
        by_cases hki : k < i
        · obtain ⟨b2, off2, y, e2, _, hy, d2⟩ := ints_at' (Hp.out.below (Hb.out.mono hB)) (k := k) (by omega)
          obtain ⟨rfl, rfl⟩ : b = b2 ∧ off = off2 := by simpa using e2
          obtain ⟨g, c4, hv⟩ : ∃ g c4, Value.slice A3 i c3 = .slice (some ⟨g, 0, none⟩) i c4 := by
            rcases Hown.out.2 with ⟨_, h⟩ | ⟨g, c4, cur, h, _⟩
            · omega
            · exact ⟨g, c4, h⟩
          obtain ⟨rfl, rfl⟩ : A3 = some ⟨g, 0, none⟩ ∧ c3 = c4 := by injection hv with a b c; exact ⟨a, c⟩
          have d3 : wo.cell? ⟨g, k, none⟩ = some (.int .i64 (s.2.idxOf y : Int)) := by
            rw [Hown.out.cellAt k (by omega), List.getElem?_map, Hok.out.at_ k y hki hy]; rfl
          have htk : xs.take (k + 1) = xs.take k ++ [y] := take_snoc hy
          clear e2 hv hy
          by_cases hyx : y = x
          · subst hyx
            have hyb : (y == y) = true := by simp
            have hf : found xs s.2 y (k + 1) = (s.2.idxOf y : Int) := by unfold found; rw [htk, if_pos (by simp)]
            have Hf := Lib.hid hf
            clear hf htk
            go_wp2_with fail
            go_quiet (fail)
            go_wp2_with fail
            go_roundw
            case rel => exact ⟨k + 1, _, by omega, by go_num, by rw [Hf.out], rfl⟩
            case measure => simp [intOf]; omega
          · have hyb : (y == x) = false := by simpa using hyx
            have hf : found xs s.2 x (k + 1) = found xs s.2 x k := by unfold found; rw [htk]; simp [Ne.symm hyx]
            have Hf := Lib.hid hf
            clear hf htk hyx
            go_wp2_with fail
            go_quiet (fail)
            go_wp2_with fail
            go_roundw
            case rel => exact ⟨k + 1, _, by omega, by go_num, by rw [Hf.out], rfl⟩
            case measure => simp [intOf]; omega
        · obtain rfl : k = i := by omega
          by_cases hm : x ∈ s.2
          · have hf : found xs s.2 x k = (s.2.idxOf x : Int) := by unfold found; rw [if_pos ((Hok.out.mem x).1 hm)]
            have hnx : nfTo xs (k + 1) = (s.1 ++ [(s.2.idxOf x : Int)], s.2) := by rw [nfTo_succ Hx.out, ← Hs.out, nfStep, if_pos hm]
            have hid := List.idxOf_lt_length_of_mem hm
            rw [hf]
            have Hnx := Lib.hid hnx
            obtain ⟨d, hd⟩ : ∃ d, d = s.2.idxOf x := ⟨_, rfl⟩
            rw [← hd] at Hnx hid ⊢
            clear hf hnx hm hki hd
            go_wp2_with (at_builtin; refine wpList_append_own _ rfl _ _ 35 rfl w.heap.size 3 i3 _ 1 8 Try.underlying35 Hi3.out.1 Hi3.out.2.1 Hi3.out.2.2.1 Hi3.out.2.2.2 rfl (by omega) (.slice A3 k c3) k (ints s.1) rfl (show World.ownsRow _ _ _ _ _ _ _ from Hown.out.alloc (.cells #[.int .i64 (d : Int)] 3)) ⟨wo.heap.size, 0, none⟩ 1 1 [.int .i64 (d : Int)] rfl rfl (cell_one_new wo (.int .i64 (d : Int)) 3) (ints_oneCell .i64 [(d : Int)]) (by simp [maxLen]; omega) (by omega) (by show _ ≤ (wo.alloc _).heap.size; simp; omega) ?_; intro v1 w1 ho hg _; have Ho := Lib.hid ho; have Hg := Lib.hid hg; clear ho hg)
            go_roundw
            case rel =>
              have hbel : Below w.heap.size w w1 := ((below_drewN Hb.out q).alloc hsz (.cells #[.int .i64 (d : Int)] 3)).grown Hg.out (by show _ ≤ (wo.alloc _).heap.size; simp; omega) (fun g e => (Hown.out.lt g e).1)
              exact ⟨k + 1, by omega, by go_num, by rw [Hnx.out], by rw [Hnx.out]; simpa using Ho.out, hbel⟩
            case measure => simp [intOf]; omega
          · have hf : found xs s.2 x k = -1 := by unfold found; rw [if_neg (fun h => hm ((Hok.out.mem x).2 h))]
            have hnx : nfTo xs (k + 1) = (s.1 ++ [(s.2.length : Int)], s.2 ++ [x]) := by rw [nfTo_succ Hx.out, ← Hs.out, nfStep, if_neg hm]
            rw [hf]
            have Hnx := Lib.hid hnx
            obtain ⟨d, hd⟩ : ∃ d, d = s.2.length := ⟨_, rfl⟩
            rw [← hd] at hslen Hnx ⊢
            have Hd := Lib.hid hd
            clear hf hnx hm hki hd
            go_wp2_with (at_builtin; refine wpList_append_own _ rfl _ _ 35 rfl w.heap.size 3 i3 _ 1 8 Try.underlying35 Hi3.out.1 Hi3.out.2.1 Hi3.out.2.2.1 Hi3.out.2.2.2 rfl (by omega) (.slice A3 k c3) k (ints s.1) rfl (show World.ownsRow _ _ _ _ _ _ _ from Hown.out.alloc (.cells #[.int .i64 (d : Int)] 3)) ⟨wo.heap.size, 0, none⟩ 1 1 [.int .i64 (d : Int)] rfl rfl (cell_one_new wo (.int .i64 (d : Int)) 3) (ints_oneCell .i64 [(d : Int)]) (by simp [maxLen]; omega) (by omega) (by show _ ≤ (wo.alloc _).heap.size; simp; omega) ?_; intro v1 w1 ho hg _; have Ho := Lib.hid ho; have Hg := Lib.hid hg; clear ho hg)
            go_roundw
            case rel =>
              have hbel : Below w.heap.size w w1 := ((below_drewN Hb.out q).alloc hsz (.cells #[.int .i64 (d : Int)] 3)).grown Hg.out (by show _ ≤ (wo.alloc _).heap.size; simp; omega) (fun g e => (Hown.out.lt g e).1)
              exact ⟨k + 1, by omega, by go_num, by rw [Hnx.out]; simp [← Hd.out], by rw [Hnx.out]; simpa using Ho.out, hbel⟩
            case measure => simp [intOf]; omega
    · obtain rfl : i = xs.length := by omega
      go_wp2_with fail
      go_ret
      refine ⟨A3, c3, rfl, ?_, fun hA => ?_, Hb.out⟩
      · have e : nf xs = s.1 := by unfold nf; rw [Hs.out]
        rw [e]
        exact RowAt.of_own Hown.out
      · rcases Hown.out.2 with ⟨_, h0⟩ | ⟨g, cap, cur, h, _⟩
        · exact List.eq_nil_of_length_eq_zero h0
        · rw [hA] at h; cases h
end Go.Proofs.Ytmjicfafjjgekaa
