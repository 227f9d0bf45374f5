/- W8: the walk of cluster.bad. -/
import Derived.Test.YtmjicfafjjgekaaW5
import Derived.Test.YtmjicfafjjgekaaBase2
import Derived.BigRegion
namespace Go.Proofs.Ytmjicfafjjgekaa
open Go.RowKit Go.Dr

def posN (x : Int) : Nat := if 0 < x then 1 else 0
def negN (x : Int) : Nat := if x < 0 then 1 else 0
def badB (a b c : Int) : Bool := ((posN a + posN b + posN c : Nat) : Int) == 2 && ((negN a + negN b + negN c : Nat) : Int) == 1
def sumN (h : Int → Nat) : List Int → Nat
  | [] => 0
  | x :: r => h x + sumN h r
theorem sumN_snoc (h : Int → Nat) (l : List Int) (x : Int) : sumN h (l ++ [x]) = sumN h l + h x := by
  induction l with
  | nil => simp [sumN]
  | cons y l ih => simp [sumN, ih]; omega

set_option maxRecDepth 100000 in
set_option maxHeartbeats 1000000 in
theorem bad_any (B T g n : Nat) (row cp : Nat → Nat) (f : Nat → Nat → Int) (w : World) (_hn : n ≤ 200) (i j k : Nat) (hi : i < n) (hj : j < n) (hk : k < n) (hm : Mat w B T g n n row cp f) (_hT : T ≤ w.heap.size) :
    Calls Try.prog 39 #[.slice (some ⟨g, 0, none⟩) n n, .int .i64 (i : Int), .int .i64 (j : Int), .int .i64 (k : Int)] w fun e w' =>
      e = .returned (.bool (badB (f i j) (f i k) (f j k))) ∧ Below w.heap.size w w' := by
  have m1 := hm.outer i hi
  have m2 := hm.outer j hj
  have m3 := hm.inner i j hi hj
  have m4 := hm.inner i k hi hk
  have m5 := hm.inner j k hj hk
  clear hm
  obtain ⟨a, ha⟩ : ∃ a, a = f i j := ⟨_, rfl⟩
  obtain ⟨b, hb⟩ : ∃ b, b = f i k := ⟨_, rfl⟩
  obtain ⟨c, hc⟩ : ∃ c, c = f j k := ⟨_, rfl⟩
  rw [← ha, ← hb, ← hc]
  rw [← ha] at m3
  rw [← hb] at m4
  rw [← hc] at m5
  clear ha hb hc
  go_enter Try.func39, Try.ntmps39
  go_wp2
  go_region
  go_wp2
  have hcell : ∀ m x, [a, b, c][m]? = some x → (w.alloc (.cells #[.int .i64 a, .int .i64 b, .int .i64 c] 2)).drew.cell? ⟨w.heap.size, m, none⟩ = some (.int .i64 x) := fun m x hx => by
    refine ((Blk.new w 2 #[.int .i64 a, .int .i64 b, .int .i64 c]).drew.cell m).trans ?_
    match m with
    | 0 => simpa using hx
    | 1 => simpa using hx
    | 2 => simpa using hx
    | m + 3 => simp at hx
  have hbw : Below w.heap.size w (w.alloc (.cells #[.int .i64 a, .int .i64 b, .int .i64 c] 2)).drew := ((Below.refl _ _).alloc (Nat.le_refl _) _).drew
  have Hcell := Lib.hid hcell
  have Hbw := Lib.hid hbw
  clear hcell hbw m1 m2 m3 m4 m5
  generalize (w.alloc (.cells #[.int .i64 a, .int .i64 b, .int .i64 c] 2)).drew = w1 at *
  go_loop [9, 10, 36] (fun p q x => ∃ m : Nat, m ≤ 3 ∧ x = .int .i64 m ∧ p = .int .i64 ((sumN posN ([a, b, c].take m) : Nat) : Int) ∧ q = .int .i64 ((sumN negN ([a, b, c].take m) : Nat) : Int) ∧ sumN posN ([a, b, c].take m) ≤ m ∧ sumN negN ([a, b, c].take m) ≤ m) (fun _ _ x => 3 - (intOf x).toNat)
  case atStart => exact ⟨0, by omega, rfl, rfl, rfl, by simp [sumN], by simp [sumN]⟩
  case round =>
    obtain ⟨m, hm, rfl, rfl, rfl, hp, hq⟩ := hrel
    by_cases hlt : m < 3
    · obtain ⟨x, hx⟩ : ∃ x, [a, b, c][m]? = some x := ⟨_, List.getElem?_eq_getElem (by simpa using hlt)⟩
      have c1 := Hcell.out m x hx
      have hP : sumN posN ([a, b, c].take (m + 1)) = sumN posN ([a, b, c].take m) + posN x := by rw [take_snoc hx, sumN_snoc]
      have hQ : sumN negN ([a, b, c].take (m + 1)) = sumN negN ([a, b, c].take m) + negN x := by rw [take_snoc hx, sumN_snoc]
      have HP := Lib.hid hP
      have HQ := Lib.hid hQ
      clear hP hQ hx
      generalize sumN posN ([a, b, c].take m) = P at *
      generalize sumN negN ([a, b, c].take m) = Q at *
      rcases Int.lt_trichotomy x 0 with h | h | h
      · have e1 : posN x = 0 := by unfold posN; rw [if_neg (by omega)]
        have e2 : negN x = 1 := by unfold negN; rw [if_pos h]
        rw [e1] at HP
        rw [e2] at HQ
        clear e1 e2
        go_wp2
        go_round
        case rel => exact ⟨m + 1, by omega, by go_num, by rw [HP.out]; go_num, by rw [HQ.out]; go_num, by rw [HP.out]; omega, by rw [HQ.out]; omega⟩
        case measure => simp [intOf]; omega
      · have e1 : posN x = 0 := by unfold posN; rw [if_neg (by omega)]
        have e2 : negN x = 0 := by unfold negN; rw [if_neg (by omega)]
        rw [e1] at HP
        rw [e2] at HQ
        subst h
        clear e1 e2
        go_wp2
        go_round
        case rel => exact ⟨m + 1, by omega, by go_num, by rw [HP.out]; go_num, by rw [HQ.out]; go_num, by rw [HP.out]; omega, by rw [HQ.out]; omega⟩
        case measure => simp [intOf]; omega
      · have e1 : posN x = 1 := by unfold posN; rw [if_pos h]
        have e2 : negN x = 0 := by unfold negN; rw [if_neg (by omega)]
        rw [e1] at HP
        rw [e2] at HQ
        clear e1 e2
        go_wp2
        go_round
        case rel => exact ⟨m + 1, by omega, by go_num, by rw [HP.out]; go_num, by rw [HQ.out]; go_num, by rw [HP.out]; omega, by rw [HQ.out]; omega⟩
        case measure => simp [intOf]; omega
    · obtain rfl : m = 3 := by omega
      have hfin : badB a b c = (((sumN posN ([a, b, c].take 3) : Nat) : Int) == 2 && ((sumN negN ([a, b, c].take 3) : Nat) : Int) == 1) := by
        simp [badB, sumN, Nat.add_assoc]
      have Hfin := Lib.hid hfin
      clear hfin hlt
      generalize sumN posN ([a, b, c].take 3) = P at *
      generalize sumN negN ([a, b, c].take 3) = Q at *
      cases h1 : ((P : Int) == 2)
      · go_wp2
        go_ret
        exact ⟨ret_bool (by rw [Hfin.out, h1]; simp), Hbw.out⟩
      · go_wp2
        go_ret
        exact ⟨ret_bool (by rw [Hfin.out, h1]; simp), Hbw.out⟩
end Go.Proofs.Ytmjicfafjjgekaa
