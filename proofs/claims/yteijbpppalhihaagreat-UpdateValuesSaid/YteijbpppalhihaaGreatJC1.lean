/- JC1: K0, T1, T2, T3, joined by chunk.py. -/
import Derived.Test.YteijbpppalhihaaGreatAMf
import Derived.Test.YteijbpppalhihaaGreatTy
import Derived.ProofKit
import Derived.Laws.Externs
import Derived.Lib.Bytealg
import Derived.Lib.Hide
import Derived.WalkSpells
import Derived.WalkLawsBesides
set_option linter.unusedVariables false
set_option linter.unusedSimpArgs false
section
/- K0: what the shared walks stand on, in this seat. Expanded by pp.py. -/
set_option linter.unusedSimpArgs false
set_option maxRecDepth 100000
namespace Go.Proofs.YteijbpppalhihaaGreat
open Go Go.AM Go.RowKit
theorem mixed : Tryz.prog.follows .mixedOrders = true := by kernel_rfl
def encI (n : Int) : V := .int .i64 n
def L1 (f : Bool) (xs : List Int) : V := .lst 1 f (xs.map encI)
@[simp] theorem encI_pure (n : Int) : AM.Pure (encI n) := by simp [encI]
@[simp] theorem L1_pure (f : Bool) (xs : List Int) : AM.Pure (L1 f xs) := by simp [L1, encI]
@[simp] theorem encI_oneV (n : Int) : oneV (encI n) = true := rfl
@[simp] theorem L1_oneV (f : Bool) (xs : List Int) : oneV (L1 f xs) = true := rfl
def encU (n : Int) : V := .int .u8 n
@[simp] theorem encU_pure (n : Int) : AM.Pure (encU n) := by simp [encU]
theorem wrap64 {n : Int} (h1 : -9223372036854775808 ≤ n) (h2 : n < 9223372036854775808) : IntKind.i64.wrap n = n := by rw [IntKind.wrap_i64]; omega
theorem wrapS (i : Nat) (h : i < 9223372036854775807) : IntKind.i64.wrap ((i : Int) + 1) = ((i + 1 : Nat) : Int) := by rw [wrap64 (by omega) (by omega)]; rfl
theorem wrapP (i : Nat) (h : i < 9223372036854775807) (h1 : 1 ≤ i) : IntKind.i64.wrap ((i : Int) - 1) = ((i - 1 : Nat) : Int) := by rw [wrap64 (by omega) (by omega)]; omega
theorem wrapN (n : Nat) (h : n < 9223372036854775807) : IntKind.i64.wrap (n : Int) = n := wrap64 (by omega) (by omega)
theorem cap8 (n : Nat) (h : n ≤ 1000000000) : n ≤ 9223372036854775806 ∧ (n + 1) * 8 ≤ 140737488355328 := by omega
theorem cap24 (n : Nat) (h : n ≤ 1000000000) : n ≤ 9223372036854775806 ∧ (n + 1) * 24 ≤ 140737488355328 := by omega
def memB (xs : List Int) (x : Int) : Bool := xs.contains x
theorem memB_cons (y x : Int) (xs : List Int) : memB (y :: xs) x = (x == y || memB xs x) := by simp only [memB, List.contains_cons]
theorem memB_nil (x : Int) : memB [] x = false := rfl
theorem memB_iff {xs : List Int} {x : Int} : memB xs x = true ↔ x ∈ xs := by simp [memB]
@[simp ↓ high] theorem forall_rbB_cons (n : Nat) (b : B) (l : List B) : (∀ bl ∈ b :: l, rbB n bl) ↔ (rbB n b ∧ ∀ bl ∈ l, rbB n bl) := List.forall_mem_cons
@[simp ↓ high] theorem forall_rbB_nil (n : Nat) : (∀ bl ∈ ([] : List B), rbB n bl) ↔ True := by simp
/-- The bit of a set. -/
def hasB (s : Int) (i : Nat) : Bool := IntKind.u32.wrap ↑((s.fdiv (2 ^ min i IntKind.u32.bits) % 2 ^ IntKind.u32.bits).toNat &&& 1 % 2 ^ IntKind.u32.bits) == 1
set_option maxHeartbeats 4000000 in
theorem has02 (s : Int) (i : Nat) (hi : i < 32) : ConP Tryz.prog 136 [.int .u32 s, .int .i64 i] fun r => r = .bool (hasB s i) := by
  refine conP_of_conH (conH_of_W tok Tryz.func136 rfl rfl ?_)
  refine W_x tok mixed ?_
  simp -implicitDefEqProofs -dsimp [Tryz.f136, List.replicate, show (i : Int) < 32 by omega]
  rfl
theorem nan_c (x : Int) : ConP Tryz.prog 169 [.int .i64 x] fun r => r = .bool false := by
  refine conP_of_conH (conH_of_W tok Tryz.func169 rfl rfl ?_)
  refine W_x tok mixed ?_
  simp -implicitDefEqProofs -dsimp [Tryz.f169, List.replicate]
def cmpI (x y : Int) : Int := if x < y then -1 else if y < x then 1 else 0
set_option maxHeartbeats 4000000 in
theorem cmp64 (x y : Int) : ConP Tryz.prog 123 [.int .i64 x, .int .i64 y] fun r => r = .int .i64 (cmpI x y) := by
  refine conP_of_conH (conH_of_W tok Tryz.func123 rfl rfl ?_)
  refine W_x tok mixed ?_
  simp -implicitDefEqProofs -dsimp [Tryz.f123, List.replicate]
  refine (callP (nan_c x) (by simp)).mono ?_
  rintro r H' ⟨rfl, rfl⟩
  simp -implicitDefEqProofs -dsimp []
  refine (callP (nan_c y) (by simp)).mono ?_
  rintro r H' ⟨rfl, rfl⟩
  simp -implicitDefEqProofs -dsimp []
  unfold cmpI
  split
  · rfl
  · split <;> rfl
def cmpS (a b : ByteArray) : Int := Lib.compareBytes a.data.toList b.data.toList
theorem cmp_any (a b : ByteArray) (w : World) : Calls Tryz.prog 174 #[.string a, .string b] w fun e w' => e = .returned (.int .i64 (cmpS a b)) ∧ w' = w := by
  have hc : ∀ w, (callFunc 199 #[.string a, .string b]).run Tryz.prog w = .ok (.value (.int .i64 (cmpS a b))) w := fun w => by
    rw [run_callFunc_extern Tryz.func199 (by kernel_rfl) (by kernel_rfl) (by kernel_rfl) (e := Extern.BytealgCompare.compare) (by kernel_rfl), Lib.run_compareString]
    rfl
  go_enter Tryz.func174, Tryz.ntmps174
  go_wp2_with (simp only [hc])
  go_ret
  exact ⟨rfl, rfl⟩
theorem cmp_con (a b : ByteArray) : ConP Tryz.prog 174 [.str a, .str b] fun r => r = .int .i64 (cmpS a b) := by
  refine ⟨⟨Tryz.f174, Tryz.func174, rfl, rfl⟩, fun F w vals hZ hF hsz hrel => ?_⟩
  obtain ⟨v0, v1, rfl⟩ : ∃ v0 v1, vals = #[v0, v1] := by
    obtain ⟨l⟩ := vals
    match l, hsz with
    | [a, b], _ => exact ⟨a, b, rfl⟩
  have h0 := hrel 0 _ v0 rfl rfl
  have h1 := hrel 1 _ v1 rfl rfl
  cases h0
  cases h1
  refine (cmp_any a b w).mono fun e w' ⟨h1, h2⟩ => ⟨_, _, h1, .int _ _, .int _ _, by subst h2; exact Below.refl _ _, rfl⟩
end Go.Proofs.YteijbpppalhihaaGreat
end

section
/- T1: strings, names. Expanded by pp.py. -/
set_option linter.unusedSimpArgs false
set_option maxRecDepth 100000
namespace Go.Proofs.YteijbpppalhihaaGreat
open Go Go.AM
def seq (a b : ByteArray) : Bool := a.toList == b.toList
def letterB (c : Int) : Bool := decide (97 ≤ c) && decide (c ≤ 122) || decide (65 ≤ c) && decide (c ≤ 90) || decide (c = 95)
theorem letter_cases (c : Int) : (97 ≤ c ∧ c ≤ 122 ∧ letterB c = true) ∨ (97 ≤ c ∧ ¬ c ≤ 122 ∧ 65 ≤ c ∧ ¬ c ≤ 90 ∧ ¬ c = 95 ∧ letterB c = false) ∨ (¬ 97 ≤ c ∧ 65 ≤ c ∧ c ≤ 90 ∧ letterB c = true) ∨ (¬ 97 ≤ c ∧ 65 ≤ c ∧ ¬ c ≤ 90 ∧ c = 95 ∧ letterB c = true) ∨ (¬ 97 ≤ c ∧ 65 ≤ c ∧ ¬ c ≤ 90 ∧ ¬ c = 95 ∧ letterB c = false) ∨ (¬ 97 ≤ c ∧ ¬ 65 ≤ c ∧ ¬ c = 95 ∧ letterB c = false) := by
  have h : letterB c = decide ((97 ≤ c ∧ c ≤ 122) ∨ (65 ≤ c ∧ c ≤ 90) ∨ c = 95) := by
    unfold letterB
    simp only [Bool.decide_or, Bool.decide_and, Bool.or_assoc]
  rw [h]
  simp only [decide_eq_true_eq, decide_eq_false_iff_not]
  omega
set_option maxHeartbeats 4000000 in
theorem letter_con (c : Int) : ConP Tryz.prog 172 [.int .u8 c] fun r => r = .bool (letterB c) := by
  rcases letter_cases c with ⟨h1, h2, h⟩ | ⟨h1, h2, h3, h4, h5, h⟩ | ⟨h1, h2, h3, h⟩ | ⟨h1, h2, h3, h4, h⟩ | ⟨h1, h2, h3, h4, h⟩ | ⟨h1, h2, h3, h⟩
  all_goals
    rw [h]
    refine conP_of_conH (conH_of_W tok Tryz.func172 rfl rfl ?_)
    refine W_x tok mixed ?_
    simp -implicitDefEqProofs -dsimp [Tryz.f172, List.replicate, *]
def byteAt (s : ByteArray) (i : Nat) : Int := ((s[i]?).map fun b => (b.toNat : Int)).getD 0
theorem byteAt_in {s : ByteArray} {i : Nat} (h : i < s.size) : s[i]? = some s[i] ∧ (s[i].toNat : Int) = byteAt s i := by
  have h1 : s[i]? = some s[i] := getElem?_pos s i h
  exact ⟨h1, by unfold byteAt; rw [h1]; rfl⟩
theorem ba_len (bs : ByteArray) : bs.data.toList.length = bs.size := by simp
theorem ba_loop (bs : ByteArray) : ∀ (n i : Nat) (r : List UInt8), bs.size - i = n → ByteArray.toList.loop bs i r = r.reverse ++ bs.data.toList.drop i
  | 0, i, r, h => by
    have hl := ba_len bs
    rw [ByteArray.toList.loop, if_neg (by omega), List.drop_of_length_le (by omega), List.append_nil]
  | n + 1, i, r, h => by
    have hl := ba_len bs
    have hi : i < bs.size := by omega
    have hi2 : i < bs.data.toList.length := by omega
    rw [ByteArray.toList.loop, if_pos hi, ba_loop bs n (i + 1) _ (by omega), List.drop_eq_getElem_cons hi2, List.reverse_cons, List.append_assoc]
    congr 2
    have hi3 : i < bs.data.size := by simpa using hi2
    rw [ByteArray.get!, getElem!_pos bs.data i hi3]; rfl
theorem ba_toList (bs : ByteArray) : bs.toList = bs.data.toList := by
  unfold ByteArray.toList
  rw [ba_loop bs _ 0 [] rfl]; rfl
theorem ba_nil (s : ByteArray) : s.toList = [] ↔ s.size = 0 := by
  rw [ba_toList]
  rw [← List.length_eq_zero_iff, ba_len]
theorem ba_inj {a b : ByteArray} (h : a.toList = b.toList) : a = b := by
  rw [ba_toList, ba_toList] at h
  cases a; cases b
  simp at h
  rw [h]
def okAt (s : ByteArray) (i : Nat) : Bool := letterB (byteAt s i) || (decide (i ≠ 0) && (decide (48 ≤ byteAt s i) && decide (byteAt s i ≤ 57)))
def nameB (s : ByteArray) : Bool := !decide (s.toList = []) && decide (s.size ≤ 24) && !(s.toList == [110, 117, 108, 108]) && (List.range s.size).all (okAt s)
theorem allno {p : Nat → Bool} {n i : Nat} (h : i < n) (hp : p i = false) : (List.range n).all p = false := by
  rw [List.all_eq_false]
  exact ⟨i, by simpa using h, by simp [hp]⟩
theorem all_succ {p : Nat → Bool} {i : Nat} (h : (List.range i).all p = true) (hp : p i = true) : (List.range (i + 1)).all p = true := by
  rw [List.range_succ, List.all_append, h]; simp [hp]
set_option maxHeartbeats 16000000 in
theorem isName_con (s : ByteArray) (hsz : s.size ≤ maxLen) : ConP Tryz.prog 116 [.str s] fun r => r = .bool (nameB s) := by
  by_cases h0 : s.toList = []
  · rw [show nameB s = false by simp [nameB, h0]]
    refine conP_of_conH (conH_of_W tok Tryz.func116 rfl rfl ?_)
    refine W_x tok mixed ?_
    simp -implicitDefEqProofs -dsimp [Tryz.f116, List.replicate, h0]
  · by_cases h24 : s.size ≤ 24
    · cases hnl : (s.toList == [110, 117, 108, 108])
      · rw [show nameB s = (List.range s.size).all (okAt s) by simp [nameB, h0, h24, hnl]]
        refine conP_of_conH (conH_of_W tok Tryz.func116 rfl rfl ?_)
        refine W_x tok mixed ?_
        simp -implicitDefEqProofs -dsimp [Tryz.f116, List.replicate, h0, hnl, show ¬ (24 : Int) < s.size by omega]
        refine lw_of (W_loopV [false, false, true, true, true, true, false, false, false, false, false, false, false, false, false, false, false, false, false, true, true, true, true, true, true, true, true, true, true, true, true, true, true, true, true, true, true, true, true, true, true, true, true, true, true, true, true, true, true, true, true, true, true, true, true, true, true, true] (σ := Nat) (fun i => i ≤ s.size ∧ (List.range i).all (okAt s) = true) (fun i => s.size - i) (fun i => [(19, .int .i64 i)]) (fun _ => []) 0 ⟨by omega, rfl⟩ (by simp) rfl (by simp) ?_)
        rintro i ⟨hi, hall⟩ N Q hN hQ
        by_cases hb : i < s.size
        · obtain ⟨hx1, hx2⟩ := byteAt_in hb
          have hok : okAt s i = (letterB (byteAt s i) || (decide (i ≠ 0) && (decide (48 ≤ byteAt s i) && decide (byteAt s i ≤ 57)))) := rfl
          obtain ⟨c, hc⟩ : ∃ c, c = byteAt s i := ⟨_, rfl⟩
          rw [← hc] at hx2 hok
          rcases letter_cases c with ⟨h1, h2, h⟩ | ⟨h1, h2, h3, h4, h5, h⟩ | ⟨h1, h2, h3, h⟩ | ⟨h1, h2, h3, h4, h⟩ | ⟨h1, h2, h3, h4, h⟩ | ⟨h1, h2, h3, h⟩
          · rw [h, Bool.true_or] at hok
            refine W_x tok mixed ?_
            simp -implicitDefEqProofs -dsimp [hb, hx1, hx2, h1, h2, wrapS i (by unfold maxLen at hsz; omega)]
            refine hN (i + 1) _ _ ⟨by omega, all_succ hall hok⟩ (by omega) ?_ ⟨[], ?_⟩ ?_ ?_ <;> simp [or_imp, forall_and, L1, encI]
          · by_cases hi0 : i = 0
            · subst hi0
              rw [h, Bool.false_or, decide_eq_false (by simp), Bool.false_and] at hok
              refine W_x tok mixed ?_
              simp -implicitDefEqProofs -dsimp [hb, hx1, hx2, h1, h2, h3, h4, h5]
              refine hQ _ _ _ ?_
              simp -implicitDefEqProofs -dsimp []
              exact ⟨_, hb, hok⟩
            · rw [h, Bool.false_or, decide_eq_true hi0, Bool.true_and, decide_eq_false (show ¬ c ≤ 57 by omega), Bool.and_false] at hok
              refine W_x tok mixed ?_
              simp -implicitDefEqProofs -dsimp [hb, hx1, hx2, h1, h2, h3, h4, h5, hi0, show ¬ c < 48 by omega, show 57 < c by omega]
              refine hQ _ _ _ ?_
              simp -implicitDefEqProofs -dsimp []
              exact ⟨_, hb, hok⟩
          · rw [h, Bool.true_or] at hok
            refine W_x tok mixed ?_
            simp -implicitDefEqProofs -dsimp [hb, hx1, hx2, h1, h2, h3, wrapS i (by unfold maxLen at hsz; omega)]
            refine hN (i + 1) _ _ ⟨by omega, all_succ hall hok⟩ (by omega) ?_ ⟨[], ?_⟩ ?_ ?_ <;> simp [or_imp, forall_and, L1, encI]
          · rw [h, Bool.true_or] at hok
            refine W_x tok mixed ?_
            simp -implicitDefEqProofs -dsimp [hb, hx1, hx2, h1, h2, h3, h4, wrapS i (by unfold maxLen at hsz; omega)]
            refine hN (i + 1) _ _ ⟨by omega, all_succ hall hok⟩ (by omega) ?_ ⟨[], ?_⟩ ?_ ?_ <;> simp [or_imp, forall_and, L1, encI]
          · by_cases hi0 : i = 0
            · subst hi0
              rw [h, Bool.false_or, decide_eq_false (by simp), Bool.false_and] at hok
              refine W_x tok mixed ?_
              simp -implicitDefEqProofs -dsimp [hb, hx1, hx2, h1, h2, h3, h4]
              refine hQ _ _ _ ?_
              simp -implicitDefEqProofs -dsimp []
              exact ⟨_, hb, hok⟩
            · rw [h, Bool.false_or, decide_eq_true hi0, Bool.true_and, decide_eq_false (show ¬ c ≤ 57 by omega), Bool.and_false] at hok
              refine W_x tok mixed ?_
              simp -implicitDefEqProofs -dsimp [hb, hx1, hx2, h1, h2, h3, h4, hi0, show ¬ c < 48 by omega, show 57 < c by omega]
              refine hQ _ _ _ ?_
              simp -implicitDefEqProofs -dsimp []
              exact ⟨_, hb, hok⟩
          · by_cases hi0 : i = 0
            · subst hi0
              rw [h, Bool.false_or, decide_eq_false (by simp), Bool.false_and] at hok
              refine W_x tok mixed ?_
              simp -implicitDefEqProofs -dsimp [hb, hx1, hx2, h1, h2, h3]
              refine hQ _ _ _ ?_
              simp -implicitDefEqProofs -dsimp []
              exact ⟨_, hb, hok⟩
            · by_cases h48 : c < 48
              · rw [h, Bool.false_or, decide_eq_false (show ¬ 48 ≤ c by omega), Bool.false_and, Bool.and_false] at hok
                refine W_x tok mixed ?_
                simp -implicitDefEqProofs -dsimp [hb, hx1, hx2, h1, h2, h3, hi0, h48]
                refine hQ _ _ _ ?_
                simp -implicitDefEqProofs -dsimp []
                exact ⟨_, hb, hok⟩
              · by_cases h57 : 57 < c
                · rw [h, Bool.false_or, decide_eq_true hi0, Bool.true_and, decide_eq_false (show ¬ c ≤ 57 by omega), Bool.and_false] at hok
                  refine W_x tok mixed ?_
                  simp -implicitDefEqProofs -dsimp [hb, hx1, hx2, h1, h2, h3, hi0, h48, h57]
                  refine hQ _ _ _ ?_
                  simp -implicitDefEqProofs -dsimp []
                  exact ⟨_, hb, hok⟩
                · rw [h, Bool.false_or, decide_eq_true hi0, Bool.true_and, decide_eq_true (show c ≤ 57 by omega), decide_eq_true (show 48 ≤ c by omega), Bool.and_true] at hok
                  refine W_x tok mixed ?_
                  simp -implicitDefEqProofs -dsimp [hb, hx1, hx2, h1, h2, h3, hi0, h48, h57, wrapS i (by unfold maxLen at hsz; omega)]
                  refine hN (i + 1) _ _ ⟨by omega, all_succ hall hok⟩ (by omega) ?_ ⟨[], ?_⟩ ?_ ?_ <;> simp [or_imp, forall_and, L1, encI]
        · obtain rfl : i = s.size := by omega
          refine W_x tok mixed ?_
          simp -implicitDefEqProofs -dsimp [hb]
          refine hQ _ _ _ ?_
          simp -implicitDefEqProofs -dsimp []
          simpa using hall
      · rw [show nameB s = false by simp [nameB, hnl]]
        refine conP_of_conH (conH_of_W tok Tryz.func116 rfl rfl ?_)
        refine W_x tok mixed ?_
        simp -implicitDefEqProofs -dsimp [Tryz.f116, List.replicate, h0, hnl, show ¬ (24 : Int) < s.size by omega]
    · rw [show nameB s = false by simp [nameB, h24]]
      refine conP_of_conH (conH_of_W tok Tryz.func116 rfl rfl ?_)
      refine W_x tok mixed ?_
      simp -implicitDefEqProofs -dsimp [Tryz.f116, List.replicate, h0, show (24 : Int) < s.size by omega]
set_option maxHeartbeats 16000000 in
theorem name03_con (s : ByteArray) (hsz : s.size ≤ maxLen) : ConP Tryz.prog 126 [.str s] fun r => r = .bool (nameB s) := by
  by_cases h0 : s.toList = []
  · rw [show nameB s = false by simp [nameB, h0]]
    have h00 := (ba_nil s).1 h0
    refine conP_of_conH (conH_of_W tok Tryz.func126 rfl rfl ?_)
    refine W_x tok mixed ?_
    simp -implicitDefEqProofs -dsimp [Tryz.f126, List.replicate, h00]
  · have h00 : ¬ s.size = 0 := fun h => h0 ((ba_nil s).2 h)
    have hpos : 0 < s.size := by omega
    obtain ⟨hx1, hx2⟩ := byteAt_in hpos
    have hl0 := letter_con (byteAt s 0)
    rw [← hx2] at hl0
    by_cases h24 : s.size ≤ 24
    · cases hlt : letterB (byteAt s 0)
      · have hok0 : okAt s 0 = false := by unfold okAt; rw [hlt]; simp
        rw [show nameB s = false by unfold nameB; rw [allno hpos hok0, Bool.and_false]]
        rw [hx2, hlt] at hl0
        rw [← hx2] at hl0
        refine conP_of_conH (conH_of_W tok Tryz.func126 rfl rfl ?_)
        refine W_x tok mixed ?_
        simp -implicitDefEqProofs -dsimp [Tryz.f126, List.replicate, h00, show ¬ (24 : Int) < s.size by omega, hx1]
        refine (callP (hl0) (by simp)).mono ?_
        rintro r H' ⟨rfl, rfl⟩
        simp -implicitDefEqProofs -dsimp []
      · rw [hx2, hlt] at hl0
        rw [← hx2] at hl0
        cases hnl : (s.toList == [110, 117, 108, 108])
        · rw [show nameB s = (List.range s.size).all (okAt s) by simp [nameB, h0, h24, hnl]]
          refine conP_of_conH (conH_of_W tok Tryz.func126 rfl rfl ?_)
          refine W_x tok mixed ?_
          simp -implicitDefEqProofs -dsimp [Tryz.f126, List.replicate, h00, show ¬ (24 : Int) < s.size by omega, hx1]
          refine (callP (hl0) (by simp)).mono ?_
          rintro r H' ⟨rfl, rfl⟩
          simp -implicitDefEqProofs -dsimp [hnl]
          refine lw_of (W_loopV [false, false, true, true, false, false, false, false, false, false, false, false, false, false, false, false, false, false, false, false, false, false, true, true, true, true, true, true, true, true, true, true, true, true, true, true, true, true, true, true, true, true, true, true, true] (σ := Nat) (fun i => i ≤ s.size ∧ (List.range i).all (okAt s) = true) (fun i => s.size - i) (fun i => [(3, .int .i64 i)]) (fun _ => []) 0 ⟨by omega, rfl⟩ (by simp) rfl (by simp) ?_)
          rintro i ⟨hi, hall⟩ N Q hN hQ
          by_cases hb : i < s.size
          · obtain ⟨hy1, hy2⟩ := byteAt_in hb
            have hok : okAt s i = (letterB (byteAt s i) || (decide (i ≠ 0) && (decide (48 ≤ byteAt s i) && decide (byteAt s i ≤ 57)))) := rfl
            obtain ⟨c, hc⟩ : ∃ c, c = byteAt s i := ⟨_, rfl⟩
            rw [← hc] at hy2 hok
            have hlc := letter_con c
            cases h : letterB c
            · have hi0 : ¬ i = 0 := fun e => by subst e; rw [← hc] at hlt; rw [hlt] at h; cases h
              rw [h] at hlc
              rw [h, Bool.false_or, decide_eq_true hi0, Bool.true_and] at hok
              by_cases h48 : c < 48
              · rw [decide_eq_false (show ¬ 48 ≤ c by omega), Bool.false_and] at hok
                refine W_x tok mixed ?_
                simp -implicitDefEqProofs -dsimp [hb, hy1, hy2]
                refine (callP (hlc) (by simp)).mono ?_
                rintro r H' ⟨rfl, rfl⟩
                simp -implicitDefEqProofs -dsimp [hb, hy1, hy2, h48]
                refine hQ _ _ _ ?_
                simp -implicitDefEqProofs -dsimp []
                exact ⟨_, hb, hok⟩
              · by_cases h57 : 57 < c
                · rw [decide_eq_false (show ¬ c ≤ 57 by omega), Bool.and_false] at hok
                  refine W_x tok mixed ?_
                  simp -implicitDefEqProofs -dsimp [hb, hy1, hy2]
                  refine (callP (hlc) (by simp)).mono ?_
                  rintro r H' ⟨rfl, rfl⟩
                  simp -implicitDefEqProofs -dsimp [hb, hy1, hy2, h48, h57]
                  refine hQ _ _ _ ?_
                  simp -implicitDefEqProofs -dsimp []
                  exact ⟨_, hb, hok⟩
                · rw [decide_eq_true (show c ≤ 57 by omega), decide_eq_true (show 48 ≤ c by omega), Bool.and_true] at hok
                  refine W_x tok mixed ?_
                  simp -implicitDefEqProofs -dsimp [hb, hy1, hy2]
                  refine (callP (hlc) (by simp)).mono ?_
                  rintro r H' ⟨rfl, rfl⟩
                  simp -implicitDefEqProofs -dsimp [hb, hy1, hy2, h48, h57, wrapS i (by unfold maxLen at hsz; omega)]
                  refine hN (i + 1) _ _ ⟨by omega, all_succ hall hok⟩ (by omega) ?_ ⟨[], ?_⟩ ?_ ?_ <;> simp [or_imp, forall_and, L1, encI]
            · rw [h] at hlc
              rw [h, Bool.true_or] at hok
              refine W_x tok mixed ?_
              simp -implicitDefEqProofs -dsimp [hb, hy1, hy2]
              refine (callP (hlc) (by simp)).mono ?_
              rintro r H' ⟨rfl, rfl⟩
              simp -implicitDefEqProofs -dsimp [wrapS i (by unfold maxLen at hsz; omega)]
              refine hN (i + 1) _ _ ⟨by omega, all_succ hall hok⟩ (by omega) ?_ ⟨[], ?_⟩ ?_ ?_ <;> simp [or_imp, forall_and, L1, encI]
          · obtain rfl : i = s.size := by omega
            refine W_x tok mixed ?_
            simp -implicitDefEqProofs -dsimp [hb]
            refine hQ _ _ _ ?_
            simp -implicitDefEqProofs -dsimp []
            simpa using hall
        · rw [show nameB s = false by simp [nameB, hnl]]
          refine conP_of_conH (conH_of_W tok Tryz.func126 rfl rfl ?_)
          refine W_x tok mixed ?_
          simp -implicitDefEqProofs -dsimp [Tryz.f126, List.replicate, h00, show ¬ (24 : Int) < s.size by omega, hx1]
          refine (callP (hl0) (by simp)).mono ?_
          rintro r H' ⟨rfl, rfl⟩
          simp -implicitDefEqProofs -dsimp [hnl]
    · rw [show nameB s = false by simp [nameB, h24]]
      refine conP_of_conH (conH_of_W tok Tryz.func126 rfl rfl ?_)
      refine W_x tok mixed ?_
      simp -implicitDefEqProofs -dsimp [Tryz.f126, List.replicate, h00, show (24 : Int) < s.size by omega]
end Go.Proofs.YteijbpppalhihaaGreat
end

section
/- T2: lists of strings, values. Expanded by pp.py. -/
set_option linter.unusedSimpArgs false
set_option maxRecDepth 100000
namespace Go.Proofs.YteijbpppalhihaaGreat
open Go Go.AM
def LS (f : Bool) (ss : List ByteArray) : V := .lst 1 f (ss.map V.str)
@[simp] theorem LS_pure (f : Bool) (ss : List ByteArray) : AM.Pure (LS f ss) := by simp [LS]
@[simp] theorem pure_takeS (i : Nat) (ss : List ByteArray) : (∀ x, x ∈ List.take i (List.map V.str ss) → AM.Pure x) ↔ True := iff_true_intro fun x hx => by
  obtain ⟨s, _, rfl⟩ := List.mem_map.1 (List.mem_of_mem_take hx)
  exact .str s
def ixS (ss : List ByteArray) (x : ByteArray) (i : Nat) : Int := if h : i < ss.length then (if (x.toList == ss[i].toList) = true then (i : Int) else ixS ss x (i + 1)) else -1
termination_by ss.length - i
def memS (ss : List ByteArray) (x : ByteArray) : Bool := ss.any fun e => x.toList == e.toList
theorem ixS_mem (ss : List ByteArray) (x : ByteArray) (i : Nat) : decide (0 ≤ ixS ss x i) = memS (ss.drop i) x := by
  unfold memS
  fun_induction ixS ss x i with
  | case1 i h h0 => rw [List.drop_eq_getElem_cons h, List.any_cons, h0]; simp
  | case2 i h h0 ih => rw [List.drop_eq_getElem_cons h, List.any_cons, ih]; simp [h0]
  | case3 i h => rw [List.drop_of_length_le (by omega)]; rfl
set_option maxHeartbeats 8000000 in
theorem indexS (ss : List ByteArray) (x : ByteArray) (f : Bool) (hl : ss.length ≤ 1000000) : ConP Tryz.prog 165 [LS f ss, .str x] fun r => r = .int .i64 (ixS ss x 0) := by
  refine conP_of_conH (conH_of_W tok Tryz.func165 rfl rfl ?_)
  refine W_x tok mixed ?_
  simp -implicitDefEqProofs -dsimp [Tryz.f165, List.replicate, LS]
  refine lw_of (W_loopV [false, false, false, false, true, true, false, false, true, true, true, true, true, true, true, true, true, true, true] (σ := Nat) (fun i => ixS ss x i = ixS ss x 0) (fun i => ss.length - i) (fun i => [(8, .int .i64 i)]) (fun _ => []) 0 rfl (by simp) rfl (by simp) ?_)
  intro i hx N Q hN hQ
  by_cases hb : i < ss.length
  · rw [ixS, dif_pos hb] at hx
    cases hq : (x.toList == ss[i].toList)
    · rw [hq, if_neg (by simp)] at hx
      refine W_x tok mixed ?_
      simp -implicitDefEqProofs -dsimp [hb, hq]
      simp -implicitDefEqProofs -dsimp [wrapS i (by omega)]
      refine hN (i + 1) _ _ hx (by omega) (by simp) ⟨[], rfl⟩ (by simp) (by simp)
    · rw [hq, if_pos rfl] at hx
      refine W_x tok mixed ?_
      simp -implicitDefEqProofs -dsimp [hb, hq]
      refine hQ _ _ _ ?_
      simp -implicitDefEqProofs -dsimp []
      exact hx
  · rw [ixS, dif_neg hb] at hx
    refine W_x tok mixed ?_
    simp -implicitDefEqProofs -dsimp [hb]
    refine hQ _ _ _ ?_
    simp -implicitDefEqProofs -dsimp []
    exact hx
set_option maxHeartbeats 4000000 in
theorem containsS (ss : List ByteArray) (x : ByteArray) (f : Bool) (hl : ss.length ≤ 1000000) : ConP Tryz.prog 117 [LS f ss, .str x] fun r => r = .bool (memS ss x) := by
  have h0 := ixS_mem ss x 0
  rw [List.drop_zero] at h0
  refine conP_of_conH (conH_of_W tok Tryz.func117 rfl rfl ?_)
  refine W_x tok mixed ?_
  simp -implicitDefEqProofs -dsimp [Tryz.f117, List.replicate]
  refine (callP (indexS ss x f hl) (by simp)).mono ?_
  rintro r H' ⟨rfl, rfl⟩
  simp -implicitDefEqProofs -dsimp []
  rw [← h0]
theorem beq_comm' (a b : List UInt8) : (a == b) = (b == a) := by rw [Bool.eq_iff_iff, beq_iff_eq, beq_iff_eq]; exact eq_comm
set_option maxHeartbeats 8000000 in
theorem attrS (ss : List ByteArray) (x : ByteArray) (f : Bool) (hl : ss.length ≤ 1000000) : ConP Tryz.prog 173 [LS f ss, .str x] fun r => r = .int .i64 (ixS ss x 0) := by
  refine conP_of_conH (conH_of_W tok Tryz.func173 rfl rfl ?_)
  refine W_x tok mixed ?_
  simp -implicitDefEqProofs -dsimp [Tryz.f173, List.replicate, LS]
  refine lw_of (W_loopV [false, false, false, false, true, true, true, true, true, true, true, true, true, true, true, true, true, true, true] (σ := Nat) (fun i => ixS ss x i = ixS ss x 0) (fun i => ss.length - i) (fun i => [(5, .int .i64 i)]) (fun _ => []) 0 rfl (by simp) rfl (by simp) ?_)
  intro i hx N Q hN hQ
  by_cases hb : i < ss.length
  · rw [ixS, dif_pos hb, beq_comm'] at hx
    cases hq : (ss[i].toList == x.toList)
    · rw [hq, if_neg (by simp)] at hx
      refine W_x tok mixed ?_
      simp -implicitDefEqProofs -dsimp [hb, hq]
      simp -implicitDefEqProofs -dsimp [wrapS i (by omega)]
      refine hN (i + 1) _ _ hx (by omega) (by simp) ⟨[], rfl⟩ (by simp) (by simp)
    · rw [hq, if_pos rfl] at hx
      refine W_x tok mixed ?_
      simp -implicitDefEqProofs -dsimp [hb, hq]
      refine hQ _ _ _ ?_
      simp -implicitDefEqProofs -dsimp []
      exact hx
  · rw [ixS, dif_neg hb] at hx
    refine W_x tok mixed ?_
    simp -implicitDefEqProofs -dsimp [hb]
    refine hQ _ _ _ ?_
    simp -implicitDefEqProofs -dsimp []
    exact hx
def sAt (ss : List ByteArray) (i : Nat) : ByteArray := ss.getD i ByteArray.empty
def nmAt (ss : List ByteArray) (i : Nat) : Bool := nameB (sAt ss i) && !memS (ss.take i) (sAt ss i)
def namesB (ss : List ByteArray) : Bool := (List.range ss.length).all (nmAt ss)
set_option maxHeartbeats 8000000 in
theorem names03 (ss : List ByteArray) (f : Bool) (hl : ss.length ≤ 1000000) (hs : ∀ s ∈ ss, s.size ≤ maxLen) : ConP Tryz.prog 127 [LS f ss] fun r => r = .bool (namesB ss) := by
  unfold namesB
  refine conP_of_conH (conH_of_W tok Tryz.func127 rfl rfl ?_)
  refine W_x tok mixed ?_
  simp -implicitDefEqProofs -dsimp [Tryz.f127, List.replicate, LS]
  refine lw_of (W_loopV [false, false, true, true, true, true, true, true, true, true, true, true, true, true, true, true, true, true, true, true, true, true, true, true, true, true, true] (σ := Nat) (fun i => i ≤ ss.length ∧ (List.range i).all (nmAt ss) = true) (fun i => ss.length - i) (fun i => [(3, .int .i64 i)]) (fun _ => []) 0 ⟨by omega, rfl⟩ (by simp) rfl (by simp) ?_)
  rintro i ⟨hi, hall⟩ N Q hN hQ
  by_cases hb : i < ss.length
  · have hsi : sAt ss i = ss[i] := by simp [sAt, hb]
    have hok : nmAt ss i = (nameB ss[i] && !memS (ss.take i) ss[i]) := by unfold nmAt; rw [hsi]
    have hc1 := name03_con ss[i] (hs _ (List.getElem_mem hb))
    have hc2 := attrS (ss.take i) ss[i] (f && i == ss.length) (by simp; omega)
    have hm := ixS_mem (ss.take i) ss[i] 0
    rw [List.drop_zero] at hm
    simp only [LS, List.map_take] at hc2
    cases h1 : nameB ss[i]
    · rw [h1, Bool.false_and] at hok
      rw [h1] at hc1
      refine W_x tok mixed ?_
      simp -implicitDefEqProofs -dsimp [hb]
      refine .inr ⟨stop_of (by kernel_rfl), ?_⟩
      refine cy_of _ (callP (hc1) (by simp)) ?_
      simp -implicitDefEqProofs -dsimp []
      refine hQ _ _ _ ?_
      simp -implicitDefEqProofs -dsimp []
      exact ⟨_, hb, hok⟩
    · rw [h1, Bool.true_and] at hok
      rw [h1] at hc1
      cases h2 : memS (ss.take i) ss[i]
      · rw [h2] at hok hm
        have hneg := of_decide_eq_false hm
        refine W_x tok mixed ?_
        simp -implicitDefEqProofs -dsimp [hb]
        refine .inr ⟨stop_of (by kernel_rfl), ?_⟩
        refine cy_of _ (callP (hc1) (by simp)) ?_
        simp -implicitDefEqProofs -dsimp [hb, show i ≤ ss.length by omega]
        refine cy_of _ (callP (hc2) (by simp)) ?_
        simp -implicitDefEqProofs -dsimp [show ¬ 0 ≤ ixS (ss.take i) ss[i] 0 by omega, wrapS i (by omega)]
        refine hN (i + 1) _ _ ⟨by omega, all_succ hall (by rw [hok]; rfl)⟩ (by omega) ?_ ⟨[], ?_⟩ ?_ ?_ <;> simp [or_imp, forall_and, L1, encI]
      · rw [h2] at hok hm
        have hneg := of_decide_eq_true hm
        refine W_x tok mixed ?_
        simp -implicitDefEqProofs -dsimp [hb]
        refine .inr ⟨stop_of (by kernel_rfl), ?_⟩
        refine cy_of _ (callP (hc1) (by simp)) ?_
        simp -implicitDefEqProofs -dsimp [hb, show i ≤ ss.length by omega]
        refine cy_of _ (callP (hc2) (by simp)) ?_
        simp -implicitDefEqProofs -dsimp [hneg]
        refine hQ _ _ _ ?_
        simp -implicitDefEqProofs -dsimp []
        exact ⟨_, hb, hok⟩
  · obtain rfl : i = ss.length := by omega
    refine W_x tok mixed ?_
    simp -implicitDefEqProofs -dsimp [hb]
    refine hQ _ _ _ ?_
    simp -implicitDefEqProofs -dsimp []
    simpa using hall
structure Vl where
  k : Int
  n : Int
  s : ByteArray
def encV (v : Vl) : V := .agg [.int .i64 v.k, .int .i64 v.n, .str v.s]
def LV (f : Bool) (vs : List Vl) : V := .lst 3 f (vs.map encV)
@[simp] theorem encV_pure (v : Vl) : AM.Pure (encV v) := by simp [encV]
@[simp] theorem LV_pure (f : Bool) (vs : List Vl) : AM.Pure (LV f vs) := by simp [LV]
@[simp] theorem encV_oneV (v : Vl) : oneV (encV v) = true := rfl
def validV (v : Vl) : Bool :=
  if v.k = 0 then decide (v.n = 0) && v.s.toList.isEmpty else if v.k = 1 then v.s.toList.isEmpty else
  if v.k = 2 then decide (v.n = 0) && decide (v.s.size ≤ 200) else decide (v.k = 3) && (decide (1 ≤ v.n) && v.s.toList.isEmpty)
end Go.Proofs.YteijbpppalhihaaGreat
end

section
/- T3: valid values. Expanded by pp.py. -/
set_option linter.unusedSimpArgs false
set_option maxRecDepth 100000
namespace Go.Proofs.YteijbpppalhihaaGreat
open Go Go.AM
set_option maxHeartbeats 16000000 in
theorem valid01 (v : Vl) : ConP Tryz.prog 93 [encV v] fun r => r = .bool (validV v) := by
  unfold validV
  by_cases h0 : v.k = 0
  · by_cases hn : v.n = 0
    · rw [if_pos h0, decide_eq_true hn, Bool.true_and]
      refine conP_of_conH (conH_of_W tok Tryz.func93 rfl rfl ?_)
      refine W_x tok mixed ?_
      simp -implicitDefEqProofs -dsimp [Tryz.f93, List.replicate, encV, h0, hn]
    · rw [if_pos h0, decide_eq_false hn, Bool.false_and]
      refine conP_of_conH (conH_of_W tok Tryz.func93 rfl rfl ?_)
      refine W_x tok mixed ?_
      simp -implicitDefEqProofs -dsimp [Tryz.f93, List.replicate, encV, h0, hn]
  · rw [if_neg h0]
    by_cases h1 : v.k = 1
    · rw [if_pos h1]
      refine conP_of_conH (conH_of_W tok Tryz.func93 rfl rfl ?_)
      refine W_x tok mixed ?_
      simp -implicitDefEqProofs -dsimp [Tryz.f93, List.replicate, encV, h1]
    · rw [if_neg h1]
      by_cases h2 : v.k = 2
      · rw [if_pos h2]
        by_cases hn : v.n = 0
        · rw [decide_eq_true hn, Bool.true_and]
          by_cases hz : v.s.size ≤ 200
          · rw [decide_eq_true hz]
            refine conP_of_conH (conH_of_W tok Tryz.func93 rfl rfl ?_)
            refine W_x tok mixed ?_
            simp -implicitDefEqProofs -dsimp [Tryz.f93, List.replicate, encV, h2, hn, show (v.s.size : Int) ≤ 200 by omega]
          · rw [decide_eq_false hz]
            refine conP_of_conH (conH_of_W tok Tryz.func93 rfl rfl ?_)
            refine W_x tok mixed ?_
            simp -implicitDefEqProofs -dsimp [Tryz.f93, List.replicate, encV, h2, hn, show ¬ (v.s.size : Int) ≤ 200 by omega]
        · rw [decide_eq_false hn, Bool.false_and]
          refine conP_of_conH (conH_of_W tok Tryz.func93 rfl rfl ?_)
          refine W_x tok mixed ?_
          simp -implicitDefEqProofs -dsimp [Tryz.f93, List.replicate, encV, h2, hn]
      · rw [if_neg h2]
        by_cases h3 : v.k = 3
        · rw [decide_eq_true h3, Bool.true_and]
          by_cases hn : 1 ≤ v.n
          · rw [decide_eq_true hn, Bool.true_and]
            refine conP_of_conH (conH_of_W tok Tryz.func93 rfl rfl ?_)
            refine W_x tok mixed ?_
            simp -implicitDefEqProofs -dsimp [Tryz.f93, List.replicate, encV, h3, hn]
          · rw [decide_eq_false hn, Bool.false_and]
            refine conP_of_conH (conH_of_W tok Tryz.func93 rfl rfl ?_)
            refine W_x tok mixed ?_
            simp -implicitDefEqProofs -dsimp [Tryz.f93, List.replicate, encV, h3, hn]
        · rw [decide_eq_false h3, Bool.false_and]
          refine conP_of_conH (conH_of_W tok Tryz.func93 rfl rfl ?_)
          refine W_x tok mixed ?_
          simp -implicitDefEqProofs -dsimp [Tryz.f93, List.replicate, encV, h0, h1, h2, h3]
set_option maxHeartbeats 16000000 in
theorem validV_con (v : Vl) : ConP Tryz.prog 168 [encV v] fun r => r = .bool (validV v) := by
  unfold validV
  by_cases h0 : v.k = 0
  · by_cases hn : v.n = 0
    · rw [if_pos h0, decide_eq_true hn, Bool.true_and]
      refine conP_of_conH (conH_of_W tok Tryz.func168 rfl rfl ?_)
      refine W_x tok mixed ?_
      simp -implicitDefEqProofs -dsimp [Tryz.f168, List.replicate, encV, h0, hn]
    · rw [if_pos h0, decide_eq_false hn, Bool.false_and]
      refine conP_of_conH (conH_of_W tok Tryz.func168 rfl rfl ?_)
      refine W_x tok mixed ?_
      simp -implicitDefEqProofs -dsimp [Tryz.f168, List.replicate, encV, h0, hn]
  · rw [if_neg h0]
    by_cases h1 : v.k = 1
    · rw [if_pos h1]
      refine conP_of_conH (conH_of_W tok Tryz.func168 rfl rfl ?_)
      refine W_x tok mixed ?_
      simp -implicitDefEqProofs -dsimp [Tryz.f168, List.replicate, encV, h1]
    · rw [if_neg h1]
      by_cases h2 : v.k = 2
      · rw [if_pos h2]
        by_cases hn : v.n = 0
        · rw [decide_eq_true hn, Bool.true_and]
          by_cases hz : v.s.size ≤ 200
          · rw [decide_eq_true hz]
            refine conP_of_conH (conH_of_W tok Tryz.func168 rfl rfl ?_)
            refine W_x tok mixed ?_
            simp -implicitDefEqProofs -dsimp [Tryz.f168, List.replicate, encV, h2, hn, show (v.s.size : Int) ≤ 200 by omega]
          · rw [decide_eq_false hz]
            refine conP_of_conH (conH_of_W tok Tryz.func168 rfl rfl ?_)
            refine W_x tok mixed ?_
            simp -implicitDefEqProofs -dsimp [Tryz.f168, List.replicate, encV, h2, hn, show ¬ (v.s.size : Int) ≤ 200 by omega]
        · rw [decide_eq_false hn, Bool.false_and]
          refine conP_of_conH (conH_of_W tok Tryz.func168 rfl rfl ?_)
          refine W_x tok mixed ?_
          simp -implicitDefEqProofs -dsimp [Tryz.f168, List.replicate, encV, h2, hn]
      · rw [if_neg h2]
        by_cases h3 : v.k = 3
        · rw [decide_eq_true h3, Bool.true_and]
          by_cases hn : 1 ≤ v.n
          · rw [decide_eq_true hn, Bool.true_and]
            refine conP_of_conH (conH_of_W tok Tryz.func168 rfl rfl ?_)
            refine W_x tok mixed ?_
            simp -implicitDefEqProofs -dsimp [Tryz.f168, List.replicate, encV, h3, hn]
          · rw [decide_eq_false hn, Bool.false_and]
            refine conP_of_conH (conH_of_W tok Tryz.func168 rfl rfl ?_)
            refine W_x tok mixed ?_
            simp -implicitDefEqProofs -dsimp [Tryz.f168, List.replicate, encV, h3, hn]
        · rw [decide_eq_false h3, Bool.false_and]
          refine conP_of_conH (conH_of_W tok Tryz.func168 rfl rfl ?_)
          refine W_x tok mixed ?_
          simp -implicitDefEqProofs -dsimp [Tryz.f168, List.replicate, encV, h0, h1, h2, h3]
theorem any_drop (p : Vl → Bool) (vs : List Vl) (i : Nat) (h : i < vs.length) : (vs.drop i).all p = (p vs[i] && (vs.drop (i + 1)).all p) := by rw [List.drop_eq_getElem_cons h]; rfl
set_option maxHeartbeats 8000000 in
theorem valids01 (vs : List Vl) (f : Bool) (hl : vs.length ≤ 1000000) : ConP Tryz.prog 128 [LV f vs] fun r => r = .bool (vs.all validV) := by
  obtain ⟨E, hE⟩ : ∃ E, E = vs.all validV := ⟨_, rfl⟩
  rw [← hE]
  refine conP_of_conH (conH_of_W tok Tryz.func128 rfl rfl ?_)
  refine W_x tok mixed ?_
  simp -implicitDefEqProofs -dsimp [Tryz.f128, List.replicate, LV]
  refine lw_of (W_loopV [false, false, true, true, true, true, true, true, true, true, true, true, true, true, true, true] (σ := Nat) (fun i => (vs.drop i).all validV = E) (fun i => vs.length - i) (fun i => [(3, .int .i64 i)]) (fun _ => []) 0 (by rw [List.drop_zero, hE]) (by simp) rfl (by simp) ?_)
  rintro i hx N Q hN hQ
  by_cases hb : i < vs.length
  · rw [any_drop _ _ _ hb] at hx
    have hc := valid01 vs[i]
    cases h1 : validV vs[i]
    · rw [h1] at hc
      rw [h1, Bool.false_and] at hx
      refine W_x tok mixed ?_
      simp -implicitDefEqProofs -dsimp [hb]
      refine (callP (hc) (by simp)).mono ?_
      rintro r H' ⟨rfl, rfl⟩
      simp -implicitDefEqProofs -dsimp []
      refine hQ _ _ _ ?_
      simp -implicitDefEqProofs -dsimp []
      simpa using hx
    · rw [h1] at hc
      rw [h1, Bool.true_and] at hx
      refine W_x tok mixed ?_
      simp -implicitDefEqProofs -dsimp [hb]
      refine (callP (hc) (by simp)).mono ?_
      rintro r H' ⟨rfl, rfl⟩
      simp -implicitDefEqProofs -dsimp [wrapS i (by omega)]
      refine hN (i + 1) _ _ hx (by omega) (by simp) ⟨[], rfl⟩ (by simp) (by simp)
  · rw [List.drop_of_length_le (by omega)] at hx
    refine W_x tok mixed ?_
    simp -implicitDefEqProofs -dsimp [hb]
    refine hQ _ _ _ ?_
    simp -implicitDefEqProofs -dsimp []
    simpa using hx
def ixV (p : Vl → Bool) (vs : List Vl) (i : Nat) : Int := if h : i < vs.length then (if p vs[i] then (i : Int) else ixV p vs (i + 1)) else -1
termination_by vs.length - i
theorem ixV_any (p : Vl → Bool) (vs : List Vl) (i : Nat) : decide (0 ≤ ixV p vs i) = (vs.drop i).any p := by
  fun_induction ixV p vs i with
  | case1 i h h0 => rw [List.drop_eq_getElem_cons h, List.any_cons, h0]; simp
  | case2 i h h0 ih => rw [List.drop_eq_getElem_cons h, List.any_cons, ih]; simp [h0]
  | case3 i h => rw [List.drop_of_length_le (by omega)]; rfl
set_option maxHeartbeats 8000000 in
theorem idxFuncV (H : List B) (fv : V) (p : Vl → Bool) (vs : List Vl) (g : Bool) (hes : vs.length ≤ 1000000) (hH : ∀ bl ∈ H, rbB H.length bl) (hfv : rb H.length fv)
    (hp : ∀ m ∈ vs, WCall Tryz.prog fv [encV m] H fun r H' => r = .bool (p m) ∧ H' = H) : ConH Tryz.prog 198 [LV g vs, fv] H fun r H' => r = .int .i64 (ixV p vs 0) ∧ H' = H := by
  refine conH_of_W tok Tryz.func198 rfl rfl ?_
  refine W_x tok mixed ?_
  simp -implicitDefEqProofs -dsimp [Tryz.f198, List.replicate, LV]
  refine lw_of (W_loopV [false, false, false, false, true, true, false, false, true, true, true, true, true, true, true, true, true, true, true] (σ := Nat) (fun i => ixV p vs i = ixV p vs 0) (fun i => vs.length - i) (fun i => [(8, .int .i64 i)]) (fun _ => H) 0 rfl (by simp) rfl (by simp) ?_)
  intro i hx N Q hN hQ
  by_cases hb : i < vs.length
  · rw [ixV, dif_pos hb] at hx
    have hc := hp vs[i] (List.getElem_mem hb)
    cases hq : p vs[i]
    · rw [hq] at hc hx
      refine W_x tok mixed ?_
      simp -implicitDefEqProofs -dsimp [hb]
      refine hc.mono ?_
      rintro r H' ⟨rfl, rfl⟩
      simp -implicitDefEqProofs -dsimp [wrapS i (by omega)]
      refine hN (i + 1) _ _ (by simpa using hx) (by omega) (by simp) ⟨[], by simp⟩ (by simp; exact hfv) hH
    · rw [hq] at hc hx
      refine W_x tok mixed ?_
      simp -implicitDefEqProofs -dsimp [hb]
      refine hc.mono ?_
      rintro r H' ⟨rfl, rfl⟩
      simp -implicitDefEqProofs -dsimp []
      refine hQ _ _ _ ?_
      simp -implicitDefEqProofs -dsimp []
      simpa using hx
  · rw [ixV, dif_neg hb] at hx
    refine W_x tok mixed ?_
    simp -implicitDefEqProofs -dsimp [hb]
    refine hQ _ _ _ ?_
    simp -implicitDefEqProofs -dsimp []
    simpa using hx
set_option maxHeartbeats 4000000 in
theorem contFuncV (H : List B) (fv : V) (p : Vl → Bool) (vs : List Vl) (g : Bool) (hes : vs.length ≤ 1000000) (hH : ∀ bl ∈ H, rbB H.length bl) (hfv : rb H.length fv)
    (hp : ∀ m ∈ vs, WCall Tryz.prog fv [encV m] H fun r H' => r = .bool (p m) ∧ H' = H) : ConH Tryz.prog 166 [LV g vs, fv] H fun r H' => r = .bool (vs.any p) ∧ H' = H := by
  have h0 := ixV_any p vs 0
  rw [List.drop_zero] at h0
  have hc := idxFuncV H fv p vs g hes hH hfv hp
  refine conH_of_W tok Tryz.func166 rfl rfl ?_
  refine W_x tok mixed ?_
  simp -implicitDefEqProofs -dsimp [Tryz.f166, List.replicate]
  refine WCall.mono (K := fun r H' => r = .int .i64 (ixV p vs 0) ∧ H' = H) hc ?_
  rintro r H' ⟨rfl, rfl⟩
  simp -implicitDefEqProofs -dsimp []
  rw [← h0]
set_option maxHeartbeats 4000000 in
theorem notValid (v : Vl) : ConP Tryz.prog 167 [encV v] fun r => r = .bool (!validV v) := by
  have hc := validV_con v
  simp only [encV] at hc
  refine conP_of_conH (conH_of_W tok Tryz.func167 rfl rfl ?_)
  refine W_x tok mixed ?_
  simp -implicitDefEqProofs -dsimp [Tryz.f167, List.replicate, encV]
  refine (callP (hc) (by simp)).mono ?_
  rintro r H' ⟨rfl, rfl⟩
  simp -implicitDefEqProofs -dsimp []
set_option maxHeartbeats 4000000 in
theorem validVals (vs : List Vl) (f : Bool) (hl : vs.length ≤ 1000000) : ConP Tryz.prog 118 [LV f vs] fun r => r = .bool (vs.all validV) := by
  have hc := contFuncV [] (.fn 167 []) (fun v => !validV v) vs f hl (by simp) (by simp) (fun m _ => callP (notValid m) (by simp))
  have he : vs.all validV = !vs.any fun v => !validV v := by
    induction vs with
    | nil => rfl
    | cons v vs ih => simp only [List.all_cons, List.any_cons, Bool.not_or, Bool.not_not]; rw [ih (by simp at hl; omega) (contFuncV [] (.fn 167 []) (fun v => !validV v) vs f (by simp at hl; omega) (by simp) (by simp) (fun m _ => callP (notValid m) (by simp)))]
  rw [he]
  refine conP_of_conH (conH_of_W tok Tryz.func118 rfl rfl ?_)
  refine W_x tok mixed ?_
  simp -implicitDefEqProofs -dsimp [Tryz.f118, List.replicate]
  refine WCall.mono (K := fun r H' => r = .bool (vs.any fun v => !validV v) ∧ H' = []) hc ?_
  rintro r H' ⟨rfl, rfl⟩
  simp -implicitDefEqProofs -dsimp []
end Go.Proofs.YteijbpppalhihaaGreat
end
