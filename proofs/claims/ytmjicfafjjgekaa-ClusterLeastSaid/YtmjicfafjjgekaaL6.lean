/- L6: the walk of the law ClusterLeast. -/
import Derived.Test.YtmjicfafjjgekaaPlain4
import Derived.Test.YtmjicfafjjgekaaL2
import Derived.Test.YtmjicfafjjgekaaL5
namespace Go.Proofs.Ytmjicfafjjgekaa
open Go.RowKit Go.Dr

theorem rCostN (n : Nat) (A A2 : Option Addr) (cap c2 : Nat) (ps : List P3) (xs : List Int) (B B2 : Nat) (w : World) (hB : B ≤ w.heap.size) (hB2 : B2 ≤ w.heap.size) (hl : ps.length ≤ 100000) (hn : n ≤ 100) (hx : xs.length = n) (hv : valid n ps = 0) (hp : PairsAt w B A ps) (hr : RowAt w B2 A2 (ints xs)) :
    Calls Try.prog 24 #[.int .i64 (n : Int), .slice A ps.length cap, .slice A2 n c2] w fun e w' => e = .returned (.tuple #[.int .i64 (costOf ps xs), .int .i64 0]) ∧ Below w.heap.size w w' := by
  subst hx
  have := rCost_any xs.length A A2 cap c2 ps xs B B2 w hB hB2 hl (by omega) hp hr
  rw [costR_ok hv rfl] at this
  exact this
theorem cCostN (n : Nat) (A A2 : Option Addr) (cap c2 : Nat) (ps : List P3) (xs : List Int) (B B2 : Nat) (w : World) (hB : B ≤ w.heap.size) (hB2 : B2 ≤ w.heap.size) (hl : ps.length ≤ 100000) (hn : n ≤ 100) (hx : xs.length = n) (hv : valid n ps = 0) (hp : PairsAt w B A ps) (hr : RowAt w B2 A2 (ints xs)) :
    Calls Try.prog 22 #[.int .i64 (n : Int), .slice A ps.length cap, .slice A2 n c2] w fun e w' => e = .returned (.tuple #[.int .i64 (costOf ps xs), .int .i64 0]) ∧ Below w.heap.size w w' := by
  subst hx
  have := cCost_any xs.length A A2 cap c2 ps xs B B2 w hB hB2 hl (by omega) hp hr
  rw [costR_ok hv rfl] at this
  exact this
theorem normalN (n : Nat) (A : Option Addr) (cap : Nat) (xs : List Int) (B : Nat) (w : World) (hB : B ≤ w.heap.size) (hn : n ≤ 100) (hx : xs.length = n) (hs : nf xs = xs) (hp : RowAt w B A (ints xs)) :
    Calls Try.prog 27 #[.slice A n cap] w fun e w' => ∃ A2 c2, e = .returned (.slice A2 n c2) ∧ RowAt w' w'.heap.size A2 (ints xs) ∧ Below w.heap.size w w' := by
  subst hx
  refine (rnormal_any A cap xs B w hB (by omega) hp).mono ?_
  rintro e w' ⟨A2, c2, h1, h2, _, h4⟩
  rw [hs] at h2
  exact ⟨A2, c2, h1, h2, h4⟩
theorem cloneN (n : Nat) (q c : Nat) (xs : List Int) (B : Nat) (w : World) (hB : B ≤ w.heap.size) (hn : n ≤ 100) (hx : xs.length = n) (hp : RowAt w B (some ⟨q, 0, none⟩) (ints xs)) :
    Calls Try.prog 23 #[.slice (some ⟨q, 0, none⟩) n c] w fun e w' => ∃ v, e = .returned v ∧ w'.ownsRow w.heap.size 3 1 v n (ints xs) ∧ Below w.heap.size w w' ∧ v ≠ .slice none 0 0 := by
  subst hx
  refine (cloneInts (some ⟨q, 0, none⟩) c xs B w hB (by omega) hp (fun h => by cases h)).mono ?_
  rintro e w' ⟨v, h1, h2, h3, h4⟩
  exact ⟨v, h1, h2, h3, fun h => by have := h4.1 h; cases this⟩
theorem scale_good {n : Nat} {b : Int} {ps : List P3} (h0 : 0 < b) (hb : b ≤ 7) (hw : ∀ p ∈ ps, -128 ≤ p.x ∧ p.x ≤ 127) (hg : good n ps = true) : good n (scaleP b ps) = true := by
  simp only [good, Bool.and_eq_true, decide_eq_true_eq, List.all_eq_true] at hg ⊢
  refine ⟨fun p hp => ?_, ?_⟩
  · simp only [scaleP, List.mem_map] at hp
    obtain ⟨q, hq, rfl⟩ := hp
    have h1 := hg.1 q hq
    have h2 := hw q hq
    simp only [okP, decide_eq_true_eq] at h1 ⊢
    have h3 : q.x * b ≤ 127 * 7 := by
      rcases Int.le_total 0 q.x with h | h
      · exact Int.mul_le_mul h2.2 hb (by omega) (by omega)
      · have := Int.mul_nonpos_of_nonpos_of_nonneg h (show 0 ≤ b by omega); omega
    have h4 : -(128 * 7) ≤ q.x * b := by
      rcases Int.le_total 0 q.x with h | h
      · have := Int.mul_nonneg h (show 0 ≤ b by omega); omega
      · have := Int.mul_le_mul (show -q.x ≤ 128 by omega) hb (by omega) (by omega)
        rw [Int.neg_mul] at this; omega
    omega
  · have : (scaleP b ps).map key = ps.map key := by simp [scaleP, key, Function.comp_def]
    rw [this]; exact hg.2
end Go.Proofs.Ytmjicfafjjgekaa
