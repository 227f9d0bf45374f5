/- W11: math/bits.Mul at 1. -/
import Derived.Test.YtmjicfafjjgekaaW4
import Derived.Laws.BitsAllLaws
import Derived.Laws.BitsLemmas
namespace Go.Proofs.Ytmjicfafjjgekaa
open Go.RowKit Go.Dr
set_option maxHeartbeats 1000000 in
theorem mul64_one (n : Nat) (hn : n ≤ 200) (w : World) :
    Calls Try.prog 49 #[.int .u64 1, .int .u64 (n : Int)] w fun e w' => e = .returned (.tuple #[.int .u64 0, .int .u64 (n : Int)]) ∧ w = w' := by
  go_enter Try.func49, Try.ntmps49
  go_wp2
  go_ret2
  have e1 : bits BinOp.and IntKind.u64 1 4294967295 = 1 := by kernel_rfl
  have e2 : bits BinOp.and IntKind.u64 (n : Int) 4294967295 = n := by
    have h := u64_and_nat n 4294967295 (by omega) (by omega)
    have h2 : n &&& 4294967295 = n := Nat.and_two_pow_sub_one_of_lt_two_pow (n := 32) (by omega)
    rw [h2] at h
    exact h
  have e0 : bits BinOp.and IntKind.u64 0 4294967295 = 0 := by kernel_rfl
  have e3 : (n : Int) / 4294967296 = 0 := by omega
  have e4 : IntKind.u64.wrap (n : Int) = n := by rw [IntKind.wrap_u64]; omega
  have e5 : IntKind.u64.wrap 0 = 0 := by kernel_rfl
  simp [e1, e2, e3, e4, e5, e0]
set_option maxHeartbeats 1000000 in
theorem mul_one' (n : Nat) (hn : n ≤ 200) (w : World) :
    Calls Try.prog 47 #[.int .u64 1, .int .u64 (n : Int)] w fun e w' => e = .returned (.tuple #[.int .u64 0, .int .u64 (n : Int)]) ∧ w = w' := by
  go_enter Try.func47, Try.ntmps47
  go_wp2_with fail
  refine (mul64_one n hn _).mono ?_
  rintro e w1 ⟨rfl, rfl⟩
  go_wp2_with fail
  go_ret2
  exact ⟨rfl, rfl⟩
end Go.Proofs.Ytmjicfafjjgekaa
