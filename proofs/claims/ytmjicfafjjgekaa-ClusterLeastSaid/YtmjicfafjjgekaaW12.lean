/- W12: the walk of slices.Repeat at one number. -/
import Derived.Test.YtmjicfafjjgekaaW7
import Derived.Test.YtmjicfafjjgekaaW11
import Derived.Laws.CopyOwn
import Derived.Deep.RegionLaw
import Derived.BigRegion
import Derived.Test.YtmjicfafjjgekaaBase2
namespace Go.Proofs.Ytmjicfafjjgekaa
open Go.RowKit Go.Dr

def negs (n k : Nat) : List Value := List.replicate k (.int .i64 (-1)) ++ List.replicate (n - k) (.int .i64 0)
theorem negs_len {n k : Nat} (h : k ≤ n) : (negs n k).length = n := by simp [negs]; omega
theorem negs_splice {n k m : Nat} (_h : k + m ≤ n) : splice (negs n k) k (List.replicate m (.int .i64 (-1))) = negs n (k + m) := by
  unfold splice negs
  rw [List.take_left' (by simp), List.drop_append, ← List.append_assoc, List.replicate_append_replicate]
  simp
  omega
theorem negs_zero (n : Nat) : (zeros n) = (negs n 0).toArray := by
  apply Array.toList_inj.1
  rw [zeros, toList_madeCells_one]
  simp [negs]
theorem negs_full (n : Nat) : negs n n = ints (List.replicate n (-1)) := by simp [negs]
theorem negs_at {n k j : Nat} (h : j < k) : (negs n k)[j]? = some (.int .i64 (-1)) := by
  unfold negs
  rw [List.getElem?_append_left (by simpa using h)]
  simp [h]
theorem Try.size3 : (Try.prog.info? 3).map (·.size) = some 1 := by kernel_rfl
theorem rep_one (m : Nat) : ∀ v ∈ List.replicate m (Value.int .i64 (-1)), v.oneCell' = true := by
  intro v hv
  rw [(List.mem_replicate.1 hv).2]
  rfl

/-- copy into a block that is known whole. -/
theorem copy_run (W : World) (g off dLen dCap b o sLen sCap m : Nat) (cur : List Value) (hg : W.heap[g]? = some (.cells cur.toArray 3 (0, 0))) (hm : m = Nat.min sLen dLen)
    (hsrc : ∀ j, j < m → W.cell? ⟨b, o + j, none⟩ = some (.int .i64 (-1))) (hfit : off + m ≤ cur.length) (ty : TypeId) :
    ∃ W', (Builtin.copy_ #[35, 35] ty #[.slice (some ⟨g, off, none⟩) dLen dCap, .slice (some ⟨b, o, none⟩) sLen sCap]).run Try.prog W = .ok (.int .i64 (m : Int)) W' ∧
      W'.heap[g]? = some (.cells (splice cur off (List.replicate m (.int .i64 (-1)))).toArray 3 (0, 0)) ∧ ∀ B w0, Below B w0 W → B ≤ g → Below B w0 W' := by
  by_cases h0 : m = 0
  · subst h0
    exact ⟨W, run_copy_none (P := Try.prog) W 35 35 ty 3 _ _ dLen dCap sLen sCap Try.underlying35 Try.size3 hm.symm, by simpa [splice] using hg, fun _ _ h _ => h⟩
  · have h1 := run_copy_row (P := Try.prog) W 35 35 ty 3 g off dLen dCap ⟨b, o, none⟩ sLen sCap cur.toArray 3 (List.replicate m (.int .i64 (-1))) Try.underlying35 Try.size3 hg (by simpa using hm) (fun j v hv => by
      obtain ⟨hj, e⟩ := List.getElem?_eq_some_iff.1 hv
      simp at hj e
      subst e
      rw [show (⟨b, o, none⟩ : Addr).add j = ⟨b, o + j, none⟩ from by unfold Addr.add; split <;> simp_all]
      exact hsrc j hj) (by simpa using hfit) (rep_one _)
    refine ⟨_, by simpa [goInt] using h1, ?_, fun B w0 h hB => below_setRow h hB _⟩
    simpa [splice] using setRow_heap W g _ _ 3 _ hg

set_option maxHeartbeats 1000000 in
theorem repeat_any (n b off c : Nat) (hn : n ≤ 200) (w : World) (hb : b < w.heap.size) (hc : w.cell? ⟨b, off, none⟩ = some (.int .i64 (-1))) :
    Calls Try.prog 45 #[.slice (some ⟨b, off, none⟩) 1 c, .int .i64 (n : Int)] w fun e w' => e = .returned (.slice (some ⟨w.heap.size, 0, none⟩) n n) ∧ Blk w' w.heap.size 3 (ints (List.replicate n (-1))).toArray ∧ Below w.heap.size w w' := by
  have hmk := make35 n (by omega)
  go_enter Try.func45, Try.ntmps45
  go_wp2_with fail
  refine (mul_one' n hn _).mono ?_
  rintro e w1 ⟨rfl, rfl⟩
  have hblk : (w.alloc (.cells (zeros n) 3)).heap[w.heap.size]? = some (.cells (negs n 0).toArray 3 (0, 0)) := by rw [negs_zero]; exact Blk.new w 3 _
  obtain ⟨w1, hcp, hw1, hb1⟩ := copy_run (w.alloc (.cells (zeros n) 3)) w.heap.size 0 n n b off 1 c (Nat.min 1 n) (negs n 0) hblk rfl (fun j hj => by
    obtain rfl : j = 0 := by have : Nat.min 1 n ≤ 1 := Nat.min_le_left _ _; omega
    rw [World.cell?_alloc_lt _ _ _ (by simpa using hb)]
    exact hc) (by rw [negs_len (Nat.zero_le _)]; have : Nat.min 1 n ≤ n := Nat.min_le_right _ _; omega) 3
  rw [negs_splice (by have : Nat.min 1 n ≤ n := Nat.min_le_right _ _; omega), Nat.zero_add] at hw1
  have hb1' := hb1 w.heap.size w ((Below.refl _ _).alloc (Nat.le_refl _) _) (Nat.le_refl _)
  obtain ⟨k0, hk0⟩ : ∃ k0, k0 = Nat.min 1 n := ⟨_, rfl⟩
  rw [← hk0] at hcp hw1
  have hk1 : k0 ≤ n := by rw [hk0]; exact Nat.min_le_right _ _
  have hk2 : k0 = 0 → n = 0 := by rw [hk0]; intro h; have : Nat.min 1 n = min 1 n := rfl; omega
  have Hk2 := Lib.hid hk2
  have Hw1 := Lib.hid hw1
  have Hb1 := Lib.hid hb1'
  clear hblk hw1 hb1 hb1' hk0 hk2
  go_wp2_with fail
  clear hmk hcp
  go_loopw [8] (fun v wr => ∃ k : Nat, k ≤ n ∧ v = .int .i64 k ∧ (k = 0 → n = 0) ∧ wr.heap[w.heap.size]? = some (.cells (negs n k).toArray 3 (0, 0)) ∧ Below w.heap.size w wr) (fun v _ => n - (intOf v).toNat)
  case atStart => exact ⟨k0, hk1, rfl, Hk2.out, Hw1.out, Hb1.out⟩
  case round =>
    obtain ⟨k, hk, rfl, hk0, hblk, hbr⟩ := hrel
    have Hblk := Lib.hid hblk
    have Hbr := Lib.hid hbr
    by_cases hlt : k < n
    · have hkp : 0 < k := by omega
      obtain ⟨m, hm⟩ : ∃ m, m = Nat.min k (n - k) := ⟨_, rfl⟩
      have hm1 : m ≤ n - k := by rw [hm]; exact Nat.min_le_right _ _
      have hm2 : m ≤ k := by rw [hm]; exact Nat.min_le_left _ _
      have hm3 : 0 < m := by have : Nat.min k (n - k) = min k (n - k) := rfl; omega
      obtain ⟨w2, hcp, hw2, hb2⟩ := copy_run wr.drew w.heap.size k (n - k) (n - k) w.heap.size 0 k n m (negs n k) hblk hm (fun j hj => by
        have e : wr.drew.cell? ⟨w.heap.size, 0 + j, none⟩ = (negs n k).toArray[0 + j]? := cell_of_row wr w.heap.size (0 + j) _ 3 (0, 0) hblk
        rw [e, List.getElem?_toArray, negs_at (by omega)]) (by rw [negs_len hk]; omega) 3
      rw [negs_splice (by omega)] at hw2
      have hb2' := hb2 w.heap.size w hbr.drew (Nat.le_refl _)
      have Hw2 := Lib.hid hw2
      have Hb2 := Lib.hid hb2'
      have Hm := Lib.hid hm
      clear hw2 hb2 hb2' hblk hbr hk0 hm
      have hsum := wrap_in (x := (k : Int) + (m : Int)) (by omega) (by omega)
      go_wp2_with fail
      go_region
      clear hsum hcp
      go_wp2_with fail
      go_roundw
      case rel => exact ⟨k + m, by omega, by go_num, by omega, Hw2.out, Hb2.out⟩
      case measure => simp [intOf]; omega
    · obtain rfl : k = n := by omega
      rw [negs_full] at Hblk
      clear hblk hbr hk0
      go_wp2_with fail
      go_ret
      exact ⟨rfl, Hblk.out, Hbr.out⟩
end Go.Proofs.Ytmjicfafjjgekaa
