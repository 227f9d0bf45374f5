/- W22: the walk of cluster.Normal. -/
import Derived.Test.YtmjicfafjjgekaaW21
import Derived.Test.YtmjicfafjjgekaaW7
import Derived.Test.YtmjicfafjjgekaaMaps
namespace Go.Proofs.Ytmjicfafjjgekaa
open Go.RowKit Go.Dr

def enc1 (k : Int) : Value := .int .i64 k
theorem enc1_ok : KeyOk Try.prog 3 enc1 where
  check w em k := by
    have h : ∀ d, (Instr.checkKey em (d + 1) 3 (enc1 k)).run Try.prog w = .ok () w := fun d => by
      unfold enc1; simp [Instr.checkKey, run_underlying Try.underlying3]
    exact h 9999
  stays w k := by unfold enc1; simp [Instr.keyThatStays, Instr.sameBits]
  eq w a b := by
    have h : ∀ d, (Op.equalIn (d + 1) 3 (enc1 a) (enc1 b)).run Try.prog w = .ok (decide (a = b)) w := fun d => by
      unfold enc1; simp [Op.equalIn, run_underlying Try.underlying3]; rfl
    exact h 9999
theorem enc1_find : FindOk Try.prog 3 enc1 := find_of_now Try.underlying3 (fun a b => by unfold enc1; simp [Instr.sameNow]; rfl)
theorem zero3 (w : World) : (zeroValue 3).run Try.prog w = .ok (.int .i64 0) w := by kernel_rfl
theorem mapLen {w : World} {b : Nat} {kvs : List (Int × Value)} (h : MapIs w b enc1 kvs) (ty : TypeId) : (Builtin.len_ #[83] ty #[.map (some b)]).run Try.prog w = .ok (.int .i64 (kvs.length : Int)) w := by
  obtain ⟨es, clock, hb, hs⟩ := h.size
  simp [Builtin.len_, run_underlying Try.underlying83, MapKept.run_getObj_map hb, hs, goInt]
theorem mput_len {K : Type} [DecidableEq K] (k : K) (v : Value) : ∀ l : List (K × Value), mfind k l = none → (mput k v l).length = l.length + 1
  | [], _ => rfl
  | p :: r, h => by
    unfold mfind at h
    split at h
    · cases h
    · rename_i hk
      rw [mput, if_neg hk]
      simp [mput_len k v r h]
/-- The output of Normal while it is being filled. -/
def fillN (l : List Int) (n : Nat) : Array Value := (ints (l ++ List.replicate (n - l.length) 0)).toArray
theorem fillN_nil (n : Nat) : fillN [] n = zeros n := by
  apply Array.toList_inj.1
  rw [zeros, toList_madeCells_one]; simp [fillN]
theorem fillN_set {l : List Int} {n : Nat} (x : Int) (h : l.length < n) : (fillN l n).setIfInBounds l.length (.int .i64 x) = fillN (l ++ [x]) n := by
  unfold fillN
  rw [show n - l.length = (n - (l ++ [x]).length) + 1 by simp; omega, List.replicate_succ]
  simp
theorem fillN_all {l : List Int} {n : Nat} (h : l.length = n) : fillN l n = (ints l).toArray := by simp [fillN, h]
theorem fillN_at {l : List Int} {n : Nat} (h : l.length < n) : (fillN l n)[l.length]? = some (.int .i64 0) := by
  have h1 : 0 < n - l.length := by omega
  simp [fillN, h1]
theorem fillN_size {l : List Int} {n : Nat} (h : l.length ≤ n) : (fillN l n).size = n := by simp [fillN]; omega

set_option maxRecDepth 100000 in
set_option maxHeartbeats 1000000 in
theorem cnormal_any (A : Option Addr) (cap : Nat) (xs : List Int) (B : Nat) (w : World) (hB : B ≤ w.heap.size) (hl : xs.length ≤ 100000) (hp : RowAt w B A (ints xs)) :
    Calls Try.prog 30 #[.slice A xs.length cap] w fun e w' => ∃ g, e = .returned (.slice (some ⟨g, 0, none⟩) xs.length xs.length) ∧ w.heap.size ≤ g ∧ Blk w' g 3 (ints (nf xs)).toArray ∧ Below w.heap.size w w' := by
  have hmm := @run_makeMap Try.prog
  have hmk := make35 xs.length (by omega)
  have Hp := Lib.hid hp
  clear hp
  go_enter Try.func30, Try.ntmps30
  go_wp2_with fail
  clear hmm hmk
  go_loopw [15] (fun m wr => ∃ (i : Nat) (kvs : List (Int × Value)), i ≤ xs.length ∧ m = .int .i64 i ∧ MapIs wr w.heap.size enc1 kvs ∧ kvs.length = (nfTo xs i).2.length ∧
      (∀ x, mfind x kvs = if x ∈ (nfTo xs i).2 then some (.int .i64 ((nfTo xs i).2.idxOf x : Int)) else none) ∧ Blk wr (w.heap.size + 1) 3 (fillN (nfTo xs i).1 xs.length) ∧ Below w.heap.size w wr) (fun m _ => xs.length - (intOf m).toNat)
  case atStart =>
    refine ⟨0, [], Nat.zero_le _, rfl, (MapIs.made w enc1).alloc _, rfl, by simp [nfTo, mfind], ?_, ((Below.refl _ _).alloc (Nat.le_refl _) _).alloc (by simp) _⟩
    rw [show (nfTo xs 0).1 = [] from rfl, fillN_nil]
    have := Blk.new (w.alloc (.map #[] 0)) 3 (zeros xs.length)
    simpa using this
  case round =>
    obtain ⟨i, kvs, hi, rfl, hm, hkl, hf, hblk, hb⟩ := hrel
    have hok := nfTo_ok xs i hi
    obtain ⟨s, hs⟩ : ∃ s, s = nfTo xs i := ⟨_, rfl⟩
    rw [← hs] at hkl hf hblk hok
    have hslen := hok.slen
    have h1len := hok.len
    have hsz := hb.size
    have hg1 := hblk.lt
    have Hm := Lib.hid hm
    have Hf := Lib.hid hf
    have Hblk := Lib.hid hblk
    have Hb := Lib.hid hb
    have Hok := Lib.hid hok
    have Hs := Lib.hid hs
    clear hm hf hblk hb hok hs
    by_cases hin : i < xs.length
    · obtain ⟨b, off, x, rfl, hbb, hx, d1⟩ := ints_at' (Hp.out.below (Hb.out.mono hB)) hin
      have Hx := Lib.hid hx
      clear hx
      have hlk := Hm.out.look enc1_ok enc1_find Try.underlying83 (zero3 _) true x
      rw [Hf.out] at hlk
      have hfr := Hblk.out.frozen i
      have hce := Hblk.out.cell i
      rw [← h1len, fillN_at (by omega), h1len] at hce
      by_cases hs : x ∈ s.2
      · have hnx : nfTo xs (i + 1) = (s.1 ++ [(s.2.idxOf x : Int)], s.2) := by rw [nfTo_succ Hx.out, ← Hs.out, nfStep, if_pos hs]
        rw [if_pos hs] at hlk
        simp only [enc1, Option.getD_some, Option.isSome_some, if_true] at hlk
        have Hnx := Lib.hid hnx
        clear hnx hs
        go_wp2_with fail
        go_roundw
        case rel =>
          refine ⟨i + 1, kvs, by omega, by go_num, Hm.out.setCell (by simp) _, by rw [Hnx.out]; exact hkl, by rw [Hnx.out]; exact Hf.out, ?_, Hb.out.setCell (by simp) _⟩
          rw [Hnx.out, ← fillN_set _ (by omega), h1len]
          exact Hblk.out.set_ i _
        case measure => simp [intOf]; omega
      · have hnx : nfTo xs (i + 1) = (s.1 ++ [(s.2.length : Int)], s.2 ++ [x]) := by rw [nfTo_succ Hx.out, ← Hs.out, nfStep, if_neg hs]
        have hnone : mfind x kvs = none := by rw [Hf.out, if_neg hs]
        have hln := mapLen Hm.out 3
        rw [hkl] at hln
        obtain ⟨w1, hput, hm3, hg3, hz3⟩ := Hm.out.put enc1_ok enc1_find Try.underlying83 x (.int .i64 (s.2.length : Int))
        rw [if_neg hs] at hlk
        simp only [enc1, Option.getD_none, Option.isSome_none, if_true] at hlk hput
        have Hnx := Lib.hid hnx
        have Hm3 := Lib.hid hm3
        have Hg3 := Lib.hid hg3
        have Hnone := Lib.hid hnone
        have hb1 := Hblk.out.grown hg3 (by simp)
        have hfr1 := hb1.frozen i
        have hce1 := hb1.cell i
        rw [← h1len, fillN_at (by omega), h1len] at hce1
        have Hb1 := Lib.hid hb1
        have Hs1 := Lib.hid hs
        clear hnx hs hm3 hg3 hnone hb1
        go_wp2_with fail
        go_roundw
        case rel =>
          refine ⟨i + 1, mput x (.int .i64 (s.2.length : Int)) kvs, by omega, by go_num, Hm3.out.setCell (by simp) _, by rw [Hnx.out, mput_len _ _ _ Hnone.out, hkl]; simp, ?_, ?_, (Hb.out.grown Hg3.out hsz (by intro g hg; cases hg; exact Nat.le_refl _)).setCell (by simp) _⟩
          · rw [Hnx.out]
            intro y
            by_cases hy : y = x
            · subst hy
              rw [mfind_put_same, if_pos (by simp), List.idxOf_append, if_neg Hs1.out]
              simp
            · rw [mfind_put_other _ hy, Hf.out]
              simp only [List.mem_append, List.mem_singleton, hy, or_false]
              split
              · rename_i h; rw [List.idxOf_append, if_pos h]
              · rfl
          · rw [Hnx.out, ← fillN_set _ (by omega), h1len]
            exact Hb1.out.set_ i _
        case measure => simp [intOf]; omega
    · obtain rfl : i = xs.length := by omega
      go_wp2_with fail
      go_ret
      refine ⟨w.heap.size + 1, rfl, by omega, ?_, Hb.out⟩
      have e : nf xs = s.1 := by unfold nf; rw [Hs.out]
      rw [e, ← fillN_all h1len]
      exact Hblk.out
end Go.Proofs.Ytmjicfafjjgekaa
