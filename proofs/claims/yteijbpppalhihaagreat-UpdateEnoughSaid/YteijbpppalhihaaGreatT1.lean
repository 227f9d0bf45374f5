/- T1: strings, names. Expanded by pp.py. -/
import Derived.Test.YteijbpppalhihaaGreatK0
set_option linter.unusedVariables false
set_option linter.unusedSimpArgs false
set_option maxRecDepth 100000
namespace Go.Proofs.YteijbpppalhihaaGreat
open Go Go.AM
def seq (a b : ByteArray) : Bool := a.toList == b.toList
def letterB (c : Int) : Bool := decide (97 ≤ c) && decide (c ≤ 122) || decide (65 ≤ c) && decide (c ≤ 90) || decide (c = 95)
theorem letter_cases (c : Int) : (97 ≤ c ∧ c ≤ 122 ∧ letterB c = true) ∨ (97 ≤ c ∧ ¬ c ≤ 122 ∧ 65 ≤ c ∧ ¬ c ≤ 90 ∧ ¬ c = 95 ∧ letterB c = false) ∨ (¬ 97 ≤ c ∧ 65 ≤ c ∧ c ≤ 90 ∧ letterB c = true) ∨ (¬ 97 ≤ c ∧ 65 ≤ c ∧ ¬ c ≤ 90 ∧ c = 95 ∧ letterB c = true) ∨ (¬ 97 ≤ c ∧ 65 ≤ c ∧ ¬ c ≤ 90 ∧ ¬ c = 95 ∧ letterB c = false) ∨ (¬ 97 ≤ c ∧ ¬ 65 ≤ c ∧ ¬ c = 95 ∧ letterB c = false) := by
  have h : letterB c = decide ((97 ≤ c ∧ c ≤ 122) ∨ (65 ≤ c ∧ c ≤ 90) ∨ c = 95) := by
    unfold letterB
    simp only [Bool.decide_or, Bool.decide_and, Bool.or_assoc]
  rw [h]
  simp only [decide_eq_true_eq, decide_eq_false_iff_not]
  omega
set_option maxHeartbeats 4000000 in
theorem letter_con (c : Int) : ConP Tryz.prog 172 [.int .u8 c] fun r => r = .bool (letterB c) := by
  rcases letter_cases c with ⟨h1, h2, h⟩ | ⟨h1, h2, h3, h4, h5, h⟩ | ⟨h1, h2, h3, h⟩ | ⟨h1, h2, h3, h4, h⟩ | ⟨h1, h2, h3, h4, h⟩ | ⟨h1, h2, h3, h⟩
  all_goals
    rw [h]
    refine conP_of_conH (conH_of_W tok Tryz.func172 rfl rfl ?_)
    refine W_x tok mixed ?_
    simp -implicitDefEqProofs -dsimp [Tryz.f172, List.replicate, *]
def byteAt (s : ByteArray) (i : Nat) : Int := ((s[i]?).map fun b => (b.toNat : Int)).getD 0
theorem byteAt_in {s : ByteArray} {i : Nat} (h : i < s.size) : s[i]? = some s[i] ∧ (s[i].toNat : Int) = byteAt s i := by
  have h1 : s[i]? = some s[i] := getElem?_pos s i h
  exact ⟨h1, by unfold byteAt; rw [h1]; rfl⟩
theorem ba_len (bs : ByteArray) : bs.data.toList.length = bs.size := by simp
theorem ba_loop (bs : ByteArray) : ∀ (n i : Nat) (r : List UInt8), bs.size - i = n → ByteArray.toList.loop bs i r = r.reverse ++ bs.data.toList.drop i
  | 0, i, r, h => by
    have hl := ba_len bs
    rw [ByteArray.toList.loop, if_neg (by omega), List.drop_of_length_le (by omega), List.append_nil]
  | n + 1, i, r, h => by
    have hl := ba_len bs
    have hi : i < bs.size := by omega
    have hi2 : i < bs.data.toList.length := by omega
    rw [ByteArray.toList.loop, if_pos hi, ba_loop bs n (i + 1) _ (by omega), List.drop_eq_getElem_cons hi2, List.reverse_cons, List.append_assoc]
    congr 2
    have hi3 : i < bs.data.size := by simpa using hi2
    rw [ByteArray.get!, getElem!_pos bs.data i hi3]; rfl
theorem ba_toList (bs : ByteArray) : bs.toList = bs.data.toList := by
  unfold ByteArray.toList
  rw [ba_loop bs _ 0 [] rfl]; rfl
theorem ba_nil (s : ByteArray) : s.toList = [] ↔ s.size = 0 := by
  rw [ba_toList]
  rw [← List.length_eq_zero_iff, ba_len]
theorem ba_inj {a b : ByteArray} (h : a.toList = b.toList) : a = b := by
  rw [ba_toList, ba_toList] at h
  cases a; cases b
  simp at h
  rw [h]
def okAt (s : ByteArray) (i : Nat) : Bool := letterB (byteAt s i) || (decide (i ≠ 0) && (decide (48 ≤ byteAt s i) && decide (byteAt s i ≤ 57)))
def nameB (s : ByteArray) : Bool := !decide (s.toList = []) && decide (s.size ≤ 24) && !(s.toList == [110, 117, 108, 108]) && (List.range s.size).all (okAt s)
theorem allno {p : Nat → Bool} {n i : Nat} (h : i < n) (hp : p i = false) : (List.range n).all p = false := by
  rw [List.all_eq_false]
  exact ⟨i, by simpa using h, by simp [hp]⟩
theorem all_succ {p : Nat → Bool} {i : Nat} (h : (List.range i).all p = true) (hp : p i = true) : (List.range (i + 1)).all p = true := by
  rw [List.range_succ, List.all_append, h]; simp [hp]
set_option maxHeartbeats 16000000 in
theorem isName_con (s : ByteArray) (hsz : s.size ≤ maxLen) : ConP Tryz.prog 116 [.str s] fun r => r = .bool (nameB s) := by
  by_cases h0 : s.toList = []
  · rw [show nameB s = false by simp [nameB, h0]]
    refine conP_of_conH (conH_of_W tok Tryz.func116 rfl rfl ?_)
    refine W_x tok mixed ?_
    simp -implicitDefEqProofs -dsimp [Tryz.f116, List.replicate, h0]
  · by_cases h24 : s.size ≤ 24
    · cases hnl : (s.toList == [110, 117, 108, 108])
      · rw [show nameB s = (List.range s.size).all (okAt s) by simp [nameB, h0, h24, hnl]]
        refine conP_of_conH (conH_of_W tok Tryz.func116 rfl rfl ?_)
        refine W_x tok mixed ?_
        simp -implicitDefEqProofs -dsimp [Tryz.f116, List.replicate, h0, hnl, show ¬ (24 : Int) < s.size by omega]
        refine lw_of (W_loopV [false, false, true, true, true, true, false, false, false, false, false, false, false, false, false, false, false, false, false, true, true, true, true, true, true, true, true, true, true, true, true, true, true, true, true, true, true, true, true, true, true, true, true, true, true, true, true, true, true, true, true, true, true, true, true, true, true, true] (σ := Nat) (fun i => i ≤ s.size ∧ (List.range i).all (okAt s) = true) (fun i => s.size - i) (fun i => [(19, .int .i64 i)]) (fun _ => []) 0 ⟨by omega, rfl⟩ (by simp) rfl (by simp) ?_)
        rintro i ⟨hi, hall⟩ N Q hN hQ
        by_cases hb : i < s.size
        · obtain ⟨hx1, hx2⟩ := byteAt_in hb
          have hok : okAt s i = (letterB (byteAt s i) || (decide (i ≠ 0) && (decide (48 ≤ byteAt s i) && decide (byteAt s i ≤ 57)))) := rfl
          obtain ⟨c, hc⟩ : ∃ c, c = byteAt s i := ⟨_, rfl⟩
          rw [← hc] at hx2 hok
          rcases letter_cases c with ⟨h1, h2, h⟩ | ⟨h1, h2, h3, h4, h5, h⟩ | ⟨h1, h2, h3, h⟩ | ⟨h1, h2, h3, h4, h⟩ | ⟨h1, h2, h3, h4, h⟩ | ⟨h1, h2, h3, h⟩
          · rw [h, Bool.true_or] at hok
            refine W_x tok mixed ?_
            simp -implicitDefEqProofs -dsimp [hb, hx1, hx2, h1, h2, wrapS i (by unfold maxLen at hsz; omega)]
            refine hN (i + 1) _ _ ⟨by omega, all_succ hall hok⟩ (by omega) ?_ ⟨[], ?_⟩ ?_ ?_ <;> simp [or_imp, forall_and, L1, encI]
          · by_cases hi0 : i = 0
            · subst hi0
              rw [h, Bool.false_or, decide_eq_false (by simp), Bool.false_and] at hok
              refine W_x tok mixed ?_
              simp -implicitDefEqProofs -dsimp [hb, hx1, hx2, h1, h2, h3, h4, h5]
              refine hQ _ _ _ ?_
              simp -implicitDefEqProofs -dsimp []
              exact ⟨_, hb, hok⟩
            · rw [h, Bool.false_or, decide_eq_true hi0, Bool.true_and, decide_eq_false (show ¬ c ≤ 57 by omega), Bool.and_false] at hok
              refine W_x tok mixed ?_
              simp -implicitDefEqProofs -dsimp [hb, hx1, hx2, h1, h2, h3, h4, h5, hi0, show ¬ c < 48 by omega, show 57 < c by omega]
              refine hQ _ _ _ ?_
              simp -implicitDefEqProofs -dsimp []
              exact ⟨_, hb, hok⟩
          · rw [h, Bool.true_or] at hok
            refine W_x tok mixed ?_
            simp -implicitDefEqProofs -dsimp [hb, hx1, hx2, h1, h2, h3, wrapS i (by unfold maxLen at hsz; omega)]
            refine hN (i + 1) _ _ ⟨by omega, all_succ hall hok⟩ (by omega) ?_ ⟨[], ?_⟩ ?_ ?_ <;> simp [or_imp, forall_and, L1, encI]
          · rw [h, Bool.true_or] at hok
            refine W_x tok mixed ?_
            simp -implicitDefEqProofs -dsimp [hb, hx1, hx2, h1, h2, h3, h4, wrapS i (by unfold maxLen at hsz; omega)]
            refine hN (i + 1) _ _ ⟨by omega, all_succ hall hok⟩ (by omega) ?_ ⟨[], ?_⟩ ?_ ?_ <;> simp [or_imp, forall_and, L1, encI]
          · by_cases hi0 : i = 0
            · subst hi0
              rw [h, Bool.false_or, decide_eq_false (by simp), Bool.false_and] at hok
              refine W_x tok mixed ?_
              simp -implicitDefEqProofs -dsimp [hb, hx1, hx2, h1, h2, h3, h4]
              refine hQ _ _ _ ?_
              simp -implicitDefEqProofs -dsimp []
              exact ⟨_, hb, hok⟩
            · rw [h, Bool.false_or, decide_eq_true hi0, Bool.true_and, decide_eq_false (show ¬ c ≤ 57 by omega), Bool.and_false] at hok
              refine W_x tok mixed ?_
              simp -implicitDefEqProofs -dsimp [hb, hx1, hx2, h1, h2, h3, h4, hi0, show ¬ c < 48 by omega, show 57 < c by omega]
              refine hQ _ _ _ ?_
              simp -implicitDefEqProofs -dsimp []
              exact ⟨_, hb, hok⟩
          · by_cases hi0 : i = 0
            · subst hi0
              rw [h, Bool.false_or, decide_eq_false (by simp), Bool.false_and] at hok
              refine W_x tok mixed ?_
              simp -implicitDefEqProofs -dsimp [hb, hx1, hx2, h1, h2, h3]
              refine hQ _ _ _ ?_
              simp -implicitDefEqProofs -dsimp []
              exact ⟨_, hb, hok⟩
            · by_cases h48 : c < 48
              · rw [h, Bool.false_or, decide_eq_false (show ¬ 48 ≤ c by omega), Bool.false_and, Bool.and_false] at hok
                refine W_x tok mixed ?_
                simp -implicitDefEqProofs -dsimp [hb, hx1, hx2, h1, h2, h3, hi0, h48]
                refine hQ _ _ _ ?_
                simp -implicitDefEqProofs -dsimp []
                exact ⟨_, hb, hok⟩
              · by_cases h57 : 57 < c
                · rw [h, Bool.false_or, decide_eq_true hi0, Bool.true_and, decide_eq_false (show ¬ c ≤ 57 by omega), Bool.and_false] at hok
                  refine W_x tok mixed ?_
                  simp -implicitDefEqProofs -dsimp [hb, hx1, hx2, h1, h2, h3, hi0, h48, h57]
                  refine hQ _ _ _ ?_
                  simp -implicitDefEqProofs -dsimp []
                  exact ⟨_, hb, hok⟩
                · rw [h, Bool.false_or, decide_eq_true hi0, Bool.true_and, decide_eq_true (show c ≤ 57 by omega), decide_eq_true (show 48 ≤ c by omega), Bool.and_true] at hok
                  refine W_x tok mixed ?_
                  simp -implicitDefEqProofs -dsimp [hb, hx1, hx2, h1, h2, h3, hi0, h48, h57, wrapS i (by unfold maxLen at hsz; omega)]
                  refine hN (i + 1) _ _ ⟨by omega, all_succ hall hok⟩ (by omega) ?_ ⟨[], ?_⟩ ?_ ?_ <;> simp [or_imp, forall_and, L1, encI]
        · obtain rfl : i = s.size := by omega
          refine W_x tok mixed ?_
          simp -implicitDefEqProofs -dsimp [hb]
          refine hQ _ _ _ ?_
          simp -implicitDefEqProofs -dsimp []
          simpa using hall
      · rw [show nameB s = false by simp [nameB, hnl]]
        refine conP_of_conH (conH_of_W tok Tryz.func116 rfl rfl ?_)
        refine W_x tok mixed ?_
        simp -implicitDefEqProofs -dsimp [Tryz.f116, List.replicate, h0, hnl, show ¬ (24 : Int) < s.size by omega]
    · rw [show nameB s = false by simp [nameB, h24]]
      refine conP_of_conH (conH_of_W tok Tryz.func116 rfl rfl ?_)
      refine W_x tok mixed ?_
      simp -implicitDefEqProofs -dsimp [Tryz.f116, List.replicate, h0, show (24 : Int) < s.size by omega]
set_option maxHeartbeats 16000000 in
theorem name03_con (s : ByteArray) (hsz : s.size ≤ maxLen) : ConP Tryz.prog 126 [.str s] fun r => r = .bool (nameB s) := by
  by_cases h0 : s.toList = []
  · rw [show nameB s = false by simp [nameB, h0]]
    have h00 := (ba_nil s).1 h0
    refine conP_of_conH (conH_of_W tok Tryz.func126 rfl rfl ?_)
    refine W_x tok mixed ?_
    simp -implicitDefEqProofs -dsimp [Tryz.f126, List.replicate, h00]
  · have h00 : ¬ s.size = 0 := fun h => h0 ((ba_nil s).2 h)
    have hpos : 0 < s.size := by omega
    obtain ⟨hx1, hx2⟩ := byteAt_in hpos
    have hl0 := letter_con (byteAt s 0)
    rw [← hx2] at hl0
    by_cases h24 : s.size ≤ 24
    · cases hlt : letterB (byteAt s 0)
      · have hok0 : okAt s 0 = false := by unfold okAt; rw [hlt]; simp
        rw [show nameB s = false by unfold nameB; rw [allno hpos hok0, Bool.and_false]]
        rw [hx2, hlt] at hl0
        rw [← hx2] at hl0
        refine conP_of_conH (conH_of_W tok Tryz.func126 rfl rfl ?_)
        refine W_x tok mixed ?_
        simp -implicitDefEqProofs -dsimp [Tryz.f126, List.replicate, h00, show ¬ (24 : Int) < s.size by omega, hx1]
        refine (callP (hl0) (by simp)).mono ?_
        rintro r H' ⟨rfl, rfl⟩
        simp -implicitDefEqProofs -dsimp []
      · rw [hx2, hlt] at hl0
        rw [← hx2] at hl0
        cases hnl : (s.toList == [110, 117, 108, 108])
        · rw [show nameB s = (List.range s.size).all (okAt s) by simp [nameB, h0, h24, hnl]]
          refine conP_of_conH (conH_of_W tok Tryz.func126 rfl rfl ?_)
          refine W_x tok mixed ?_
          simp -implicitDefEqProofs -dsimp [Tryz.f126, List.replicate, h00, show ¬ (24 : Int) < s.size by omega, hx1]
          refine (callP (hl0) (by simp)).mono ?_
          rintro r H' ⟨rfl, rfl⟩
          simp -implicitDefEqProofs -dsimp [hnl]
          refine lw_of (W_loopV [false, false, true, true, false, false, false, false, false, false, false, false, false, false, false, false, false, false, false, false, false, false, true, true, true, true, true, true, true, true, true, true, true, true, true, true, true, true, true, true, true, true, true, true, true] (σ := Nat) (fun i => i ≤ s.size ∧ (List.range i).all (okAt s) = true) (fun i => s.size - i) (fun i => [(3, .int .i64 i)]) (fun _ => []) 0 ⟨by omega, rfl⟩ (by simp) rfl (by simp) ?_)
          rintro i ⟨hi, hall⟩ N Q hN hQ
          by_cases hb : i < s.size
          · obtain ⟨hy1, hy2⟩ := byteAt_in hb
            have hok : okAt s i = (letterB (byteAt s i) || (decide (i ≠ 0) && (decide (48 ≤ byteAt s i) && decide (byteAt s i ≤ 57)))) := rfl
            obtain ⟨c, hc⟩ : ∃ c, c = byteAt s i := ⟨_, rfl⟩
            rw [← hc] at hy2 hok
            have hlc := letter_con c
            cases h : letterB c
            · have hi0 : ¬ i = 0 := fun e => by subst e; rw [← hc] at hlt; rw [hlt] at h; cases h
              rw [h] at hlc
              rw [h, Bool.false_or, decide_eq_true hi0, Bool.true_and] at hok
              by_cases h48 : c < 48
              · rw [decide_eq_false (show ¬ 48 ≤ c by omega), Bool.false_and] at hok
                refine W_x tok mixed ?_
                simp -implicitDefEqProofs -dsimp [hb, hy1, hy2]
                refine (callP (hlc) (by simp)).mono ?_
                rintro r H' ⟨rfl, rfl⟩
                simp -implicitDefEqProofs -dsimp [hb, hy1, hy2, h48]
                refine hQ _ _ _ ?_
                simp -implicitDefEqProofs -dsimp []
                exact ⟨_, hb, hok⟩
              · by_cases h57 : 57 < c
                · rw [decide_eq_false (show ¬ c ≤ 57 by omega), Bool.and_false] at hok
                  refine W_x tok mixed ?_
                  simp -implicitDefEqProofs -dsimp [hb, hy1, hy2]
                  refine (callP (hlc) (by simp)).mono ?_
                  rintro r H' ⟨rfl, rfl⟩
                  simp -implicitDefEqProofs -dsimp [hb, hy1, hy2, h48, h57]
                  refine hQ _ _ _ ?_
                  simp -implicitDefEqProofs -dsimp []
                  exact ⟨_, hb, hok⟩
                · rw [decide_eq_true (show c ≤ 57 by omega), decide_eq_true (show 48 ≤ c by omega), Bool.and_true] at hok
                  refine W_x tok mixed ?_
                  simp -implicitDefEqProofs -dsimp [hb, hy1, hy2]
                  refine (callP (hlc) (by simp)).mono ?_
                  rintro r H' ⟨rfl, rfl⟩
                  simp -implicitDefEqProofs -dsimp [hb, hy1, hy2, h48, h57, wrapS i (by unfold maxLen at hsz; omega)]
                  refine hN (i + 1) _ _ ⟨by omega, all_succ hall hok⟩ (by omega) ?_ ⟨[], ?_⟩ ?_ ?_ <;> simp [or_imp, forall_and, L1, encI]
            · rw [h] at hlc
              rw [h, Bool.true_or] at hok
              refine W_x tok mixed ?_
              simp -implicitDefEqProofs -dsimp [hb, hy1, hy2]
              refine (callP (hlc) (by simp)).mono ?_
              rintro r H' ⟨rfl, rfl⟩
              simp -implicitDefEqProofs -dsimp [wrapS i (by unfold maxLen at hsz; omega)]
              refine hN (i + 1) _ _ ⟨by omega, all_succ hall hok⟩ (by omega) ?_ ⟨[], ?_⟩ ?_ ?_ <;> simp [or_imp, forall_and, L1, encI]
          · obtain rfl : i = s.size := by omega
            refine W_x tok mixed ?_
            simp -implicitDefEqProofs -dsimp [hb]
            refine hQ _ _ _ ?_
            simp -implicitDefEqProofs -dsimp []
            simpa using hall
        · rw [show nameB s = false by simp [nameB, hnl]]
          refine conP_of_conH (conH_of_W tok Tryz.func126 rfl rfl ?_)
          refine W_x tok mixed ?_
          simp -implicitDefEqProofs -dsimp [Tryz.f126, List.replicate, h00, show ¬ (24 : Int) < s.size by omega, hx1]
          refine (callP (hl0) (by simp)).mono ?_
          rintro r H' ⟨rfl, rfl⟩
          simp -implicitDefEqProofs -dsimp [hnl]
    · rw [show nameB s = false by simp [nameB, h24]]
      refine conP_of_conH (conH_of_W tok Tryz.func126 rfl rfl ?_)
      refine W_x tok mixed ?_
      simp -implicitDefEqProofs -dsimp [Tryz.f126, List.replicate, h00, show (24 : Int) < s.size by omega]
end Go.Proofs.YteijbpppalhihaaGreat
