/- C3: the example of the chapter, by evaluation. -/
import Derived.Test.YtfaleabndlcanaaGreatDoorC1
import Derived.Test.YtfaleabndlcanaaGreatDoorC2
namespace Go.Proofs.YtfaleabndlcanaaGreatDoor
open Go Go.AM Go.RowKit

theorem mixed : Tryz.prog.follows .mixedOrders = true := by kernel_rfl
def ext : ExtF := fun f args H => match f, args with
  | 155, [.int .u32 x] => some (.int .i64 (tzI x), H)
  | 220, [.str a, .str b] => some (.int .i64 (cmpS a b), H)
  | 56, [.buf k 0 n m, .int .i64 i, .lst 1 _ [v]] => match H[k]? with
    | some (.buf 2 1 xs false) => if n = xs.length ∧ m = xs.length ∧ 0 ≤ i ∧ i.toNat ≤ xs.length ∧ xs.length ≤ 1000000 then some (.buf k 0 (n + 1) (n + 1), H.set k (.buf 2 1 (xs.take i.toNat ++ v :: xs.drop i.toNat) false)) else none
    | _ => none
  | _, _ => none
theorem ext_ok : ExtOk Tryz.prog ext := fun f args H r H' h => by
  unfold ext at h
  split at h
  · cases h
    rename_i x
    have := callP (H := H) (tz_con x) (by simp)
    simpa only [WCall, List.append_nil] using this
  · cases h
    rename_i a b
    have := callP (H := H) (cmp_con a b) (by simp)
    simpa only [WCall, List.append_nil] using this
  · rename_i k n m i f v
    split at h
    · rename_i xs hk
      split at h
      · rename_i hc
        obtain ⟨rfl, rfl, h0, h1, h2⟩ := hc
        cases h
        have := ins_con H k xs i.toNat f v hk h1 h2
        rw [Int.toNat_of_nonneg h0] at this
        exact this
      · cases h
    · cases h
  · cases h
theorem allNamed : (Tryz.prog.funcs.toList.all fun fn => !(fn.name == "runtime.NumGoroutine")) = true := by kernel_rfl
theorem named : ∀ (f : Nat) (fn : Func), Tryz.prog.funcs[f]? = some fn → (fn.name == "runtime.NumGoroutine") = false := fun f fn h => by
  have := List.all_eq_true.1 allNamed fn (by rw [Array.mem_toList_iff]; exact Array.mem_of_getElem? h)
  simpa using this
end Go.Proofs.YtfaleabndlcanaaGreatDoor
