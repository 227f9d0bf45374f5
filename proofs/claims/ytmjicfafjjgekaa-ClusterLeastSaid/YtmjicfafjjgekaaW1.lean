/- W1: walks of the small readers: price, Weight. -/
import Derived.Test.YtmjicfafjjgekaaRows
import Derived.Test.YtmjicfafjjgekaaBase
import Derived.Test.YtmjicfafjjgekaaSpec
namespace Go.Proofs.Ytmjicfafjjgekaa
open Go.RowKit Go.Dr

def pc (p : P3) : List Value := [.int .i64 p.i, .int .i64 p.k, .int .i64 p.x]
theorem pc_len (p : P3) : (pc p).length = 3 := rfl
abbrev PairsAt (w : World) (B : Nat) (A : Option Addr) (ps : List P3) : Prop := RowAt w B A (ps.flatMap pc)

theorem pairs_at {w : World} {B : Nat} {A : Option Addr} {ps : List P3} (h : PairsAt w B A ps) {k : Nat} (hk : k < ps.length) :
    ∃ b off p, A = some ⟨b, off, none⟩ ∧ b < B ∧ ps[k]? = some p ∧ w.cell? ⟨b, off + k * 3, none⟩ = some (.int .i64 p.i) ∧ w.cell? ⟨b, off + k * 3 + 1, none⟩ = some (.int .i64 p.k) ∧
    w.cell? ⟨b, off + k * 3 + 2, none⟩ = some (.int .i64 p.x) := by
  have e : ps[k]? = some ps[k] := by simp [hk]
  obtain ⟨b, off, h1, h2, h3⟩ := h (by rw [flat_len pc 3 pc_len]; omega)
  refine ⟨b, off, ps[k], h1, h2, e, ?_, ?_, ?_⟩
  · exact h3 (k * 3) _ (by have := flat_at pc 3 pc_len ps k 0 (by omega); rw [e] at this; exact this)
  · exact h3 (k * 3 + 1) _ (by rw [flat_at pc 3 pc_len ps k 1 (by omega), e]; rfl)
  · exact h3 (k * 3 + 2) _ (by rw [flat_at pc 3 pc_len ps k 2 (by omega), e]; rfl)

set_option maxHeartbeats 400000 in
theorem price_any (x : Int) (t : Bool) (w : World) (h0 : -100000 ≤ x) (h1 : x ≤ 100000) :
    Calls Try.prog 44 #[.int .i64 x, .bool t] w fun e w' => e = .returned (.int .i64 (price x t)) ∧ w = w' := by
  cases t
  · go_enter Try.func44, Try.ntmps44
    go_wp2
    all_goals
      go_ret
      exact ⟨ret_int (by simp [price]; omega), rfl⟩
  · go_enter Try.func44, Try.ntmps44
    go_wp2
    all_goals
      go_ret
      exact ⟨ret_int (by simp [price]; omega), rfl⟩

set_option maxHeartbeats 400000 in
theorem weight_any (A : Option Addr) (cap : Nat) (ps : List P3) (B : Nat) (i k : Int) (w : World) (hl : ps.length ≤ 100000) (hp : PairsAt w B A ps) :
    Calls Try.prog 46 #[.slice A ps.length cap, .int .i64 i, .int .i64 k] w fun e w' => e = .returned (.tuple #[.int .i64 ((weight ps i k).getD 0), .bool (weight ps i k).isSome]) ∧ w = w' := by
  go_enter Try.func46, Try.ntmps46
  go_wp2
  go_loop [8] (fun m => ∃ j : Nat, j ≤ ps.length ∧ m = .int .i64 j ∧ weight ps i k = weight (ps.drop j) i k) (fun m => ps.length - (intOf m).toNat)
  case atStart => exact ⟨0, Nat.zero_le _, rfl, rfl⟩
  case round =>
    obtain ⟨j, hj, rfl, hw⟩ := hrel
    have Hw := Lib.hid hw
    clear hw
    by_cases hlt : j < ps.length
    · obtain ⟨b, off, p, rfl, hb, hpk, c1, c2, c3⟩ := pairs_at hp hlt
      have hd : ps.drop j = p :: ps.drop (j + 1) := by rw [List.drop_eq_getElem_cons hlt]; simp [List.getElem?_eq_getElem hlt] at hpk; rw [hpk]
      have Hd := Lib.hid hd
      clear hpk hp hd
      go_wp2
      · go_ret2
        rw [Hw.out, Hd.out, weight, if_pos (by simp_all)]
        exact ⟨rfl, rfl⟩
      all_goals
        go_round
        case rel => exact ⟨j + 1, by omega, by go_num, by rw [Hw.out, Hd.out, weight, if_neg (by simp_all)]⟩
        case measure => simp [intOf]; omega
    · go_wp2
      go_ret2
      have e : ps.drop j = [] := by simp; omega
      rw [Hw.out, e]
      exact ⟨rfl, rfl⟩
end Go.Proofs.Ytmjicfafjjgekaa
