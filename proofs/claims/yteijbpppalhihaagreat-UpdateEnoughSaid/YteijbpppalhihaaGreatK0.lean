/- K0: what the shared walks stand on, in this seat. Expanded by pp.py. -/
import Derived.Test.YteijbpppalhihaaGreatAMf
import Derived.Test.YteijbpppalhihaaGreatTy
import Derived.ProofKit
import Derived.Laws.Externs
import Derived.Lib.Bytealg
import Derived.Lib.Hide
import Derived.WalkSpells
import Derived.WalkLawsBesides
set_option linter.unusedVariables false
set_option linter.unusedSimpArgs false
set_option maxRecDepth 100000
namespace Go.Proofs.YteijbpppalhihaaGreat
open Go Go.AM Go.RowKit
theorem mixed : Tryz.prog.follows .mixedOrders = true := by kernel_rfl
def encI (n : Int) : V := .int .i64 n
def L1 (f : Bool) (xs : List Int) : V := .lst 1 f (xs.map encI)
@[simp] theorem encI_pure (n : Int) : AM.Pure (encI n) := by simp [encI]
@[simp] theorem L1_pure (f : Bool) (xs : List Int) : AM.Pure (L1 f xs) := by simp [L1, encI]
@[simp] theorem encI_oneV (n : Int) : oneV (encI n) = true := rfl
@[simp] theorem L1_oneV (f : Bool) (xs : List Int) : oneV (L1 f xs) = true := rfl
def encU (n : Int) : V := .int .u8 n
@[simp] theorem encU_pure (n : Int) : AM.Pure (encU n) := by simp [encU]
theorem wrap64 {n : Int} (h1 : -9223372036854775808 ≤ n) (h2 : n < 9223372036854775808) : IntKind.i64.wrap n = n := by rw [IntKind.wrap_i64]; omega
theorem wrapS (i : Nat) (h : i < 9223372036854775807) : IntKind.i64.wrap ((i : Int) + 1) = ((i + 1 : Nat) : Int) := by rw [wrap64 (by omega) (by omega)]; rfl
theorem wrapP (i : Nat) (h : i < 9223372036854775807) (h1 : 1 ≤ i) : IntKind.i64.wrap ((i : Int) - 1) = ((i - 1 : Nat) : Int) := by rw [wrap64 (by omega) (by omega)]; omega
theorem wrapN (n : Nat) (h : n < 9223372036854775807) : IntKind.i64.wrap (n : Int) = n := wrap64 (by omega) (by omega)
theorem cap8 (n : Nat) (h : n ≤ 1000000000) : n ≤ 9223372036854775806 ∧ (n + 1) * 8 ≤ 140737488355328 := by omega
theorem cap24 (n : Nat) (h : n ≤ 1000000000) : n ≤ 9223372036854775806 ∧ (n + 1) * 24 ≤ 140737488355328 := by omega
def memB (xs : List Int) (x : Int) : Bool := xs.contains x
theorem memB_cons (y x : Int) (xs : List Int) : memB (y :: xs) x = (x == y || memB xs x) := by simp only [memB, List.contains_cons]
theorem memB_nil (x : Int) : memB [] x = false := rfl
theorem memB_iff {xs : List Int} {x : Int} : memB xs x = true ↔ x ∈ xs := by simp [memB]
@[simp ↓ high] theorem forall_rbB_cons (n : Nat) (b : B) (l : List B) : (∀ bl ∈ b :: l, rbB n bl) ↔ (rbB n b ∧ ∀ bl ∈ l, rbB n bl) := List.forall_mem_cons
@[simp ↓ high] theorem forall_rbB_nil (n : Nat) : (∀ bl ∈ ([] : List B), rbB n bl) ↔ True := by simp
/-- The bit of a set. -/
def hasB (s : Int) (i : Nat) : Bool := IntKind.u32.wrap ↑((s.fdiv (2 ^ min i IntKind.u32.bits) % 2 ^ IntKind.u32.bits).toNat &&& 1 % 2 ^ IntKind.u32.bits) == 1
set_option maxHeartbeats 4000000 in
theorem has02 (s : Int) (i : Nat) (hi : i < 32) : ConP Tryz.prog 136 [.int .u32 s, .int .i64 i] fun r => r = .bool (hasB s i) := by
  refine conP_of_conH (conH_of_W tok Tryz.func136 rfl rfl ?_)
  refine W_x tok mixed ?_
  simp -implicitDefEqProofs -dsimp [Tryz.f136, List.replicate, show (i : Int) < 32 by omega]
  rfl
theorem nan_c (x : Int) : ConP Tryz.prog 169 [.int .i64 x] fun r => r = .bool false := by
  refine conP_of_conH (conH_of_W tok Tryz.func169 rfl rfl ?_)
  refine W_x tok mixed ?_
  simp -implicitDefEqProofs -dsimp [Tryz.f169, List.replicate]
def cmpI (x y : Int) : Int := if x < y then -1 else if y < x then 1 else 0
set_option maxHeartbeats 4000000 in
theorem cmp64 (x y : Int) : ConP Tryz.prog 123 [.int .i64 x, .int .i64 y] fun r => r = .int .i64 (cmpI x y) := by
  refine conP_of_conH (conH_of_W tok Tryz.func123 rfl rfl ?_)
  refine W_x tok mixed ?_
  simp -implicitDefEqProofs -dsimp [Tryz.f123, List.replicate]
  refine (callP (nan_c x) (by simp)).mono ?_
  rintro r H' ⟨rfl, rfl⟩
  simp -implicitDefEqProofs -dsimp []
  refine (callP (nan_c y) (by simp)).mono ?_
  rintro r H' ⟨rfl, rfl⟩
  simp -implicitDefEqProofs -dsimp []
  unfold cmpI
  split
  · rfl
  · split <;> rfl
def cmpS (a b : ByteArray) : Int := Lib.compareBytes a.data.toList b.data.toList
theorem cmp_any (a b : ByteArray) (w : World) : Calls Tryz.prog 174 #[.string a, .string b] w fun e w' => e = .returned (.int .i64 (cmpS a b)) ∧ w' = w := by
  have hc : ∀ w, (callFunc 199 #[.string a, .string b]).run Tryz.prog w = .ok (.value (.int .i64 (cmpS a b))) w := fun w => by
    rw [run_callFunc_extern Tryz.func199 (by kernel_rfl) (by kernel_rfl) (by kernel_rfl) (e := Extern.BytealgCompare.compare) (by kernel_rfl), Lib.run_compareString]
    rfl
  go_enter Tryz.func174, Tryz.ntmps174
  go_wp2_with (simp only [hc])
  go_ret
  exact ⟨rfl, rfl⟩
theorem cmp_con (a b : ByteArray) : ConP Tryz.prog 174 [.str a, .str b] fun r => r = .int .i64 (cmpS a b) := by
  refine ⟨⟨Tryz.f174, Tryz.func174, rfl, rfl⟩, fun F w vals hZ hF hsz hrel => ?_⟩
  obtain ⟨v0, v1, rfl⟩ : ∃ v0 v1, vals = #[v0, v1] := by
    obtain ⟨l⟩ := vals
    match l, hsz with
    | [a, b], _ => exact ⟨a, b, rfl⟩
  have h0 := hrel 0 _ v0 rfl rfl
  have h1 := hrel 1 _ v1 rfl rfl
  cases h0
  cases h1
  refine (cmp_any a b w).mono fun e w' ⟨h1, h2⟩ => ⟨_, _, h1, .int _ _, .int _ _, by subst h2; exact Below.refl _ _, rfl⟩
end Go.Proofs.YteijbpppalhihaaGreat
