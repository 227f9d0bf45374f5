/- W17: Without of both sides. Expanded by pp.py. -/
import Derived.Test.YtfaleabndlcanaaGreatDoorW16
set_option linter.unusedSimpArgs false
set_option maxRecDepth 100000
namespace Go.Proofs.YtfaleabndlcanaaGreatDoor
open Go Go.AM
def woV (vs ids : List Int) : List Int := vs.filter fun v => !memB ids v
def woE (es : List (List Int)) (ids : List Int) : List (List Int) := es.filter fun e => !(e.any fun v => memB ids v)
theorem woV_take (vs l : List Int) (i : Nat) (h : i < vs.length) : woV (vs.take (i + 1)) l = if memB l vs[i] then woV (vs.take i) l else woV (vs.take i) l ++ [vs[i]] := by
  unfold woV
  rw [List.take_succ_eq_append_getElem h, List.filter_append]
  cases hm : memB l vs[i] <;> simp [List.filter, hm]
theorem woV_len (vs l : List Int) (i : Nat) : (woV (vs.take i) l).length ≤ i := Nat.le_trans (List.length_filter_le _ _) (by simp; omega)
theorem woV_len' (vs l : List Int) : (woV vs l).length ≤ vs.length := List.length_filter_le _ _
theorem woE_take (es : List (List Int)) (l : List Int) (i : Nat) (h : i < es.length) : woE (es.take (i + 1)) l = if (es[i].any fun v => memB l v) then woE (es.take i) l else woE (es.take i) l ++ [es[i]] := by
  unfold woE
  rw [List.take_succ_eq_append_getElem h, List.filter_append]
  cases hm : es[i].any fun v => memB l v <;> simp [List.filter, hm]
theorem woE_len (es : List (List Int)) (l : List Int) (i : Nat) : (woE (es.take i) l).length ≤ i := Nat.le_trans (List.length_filter_le _ _) (by simp; omega)
set_option maxHeartbeats 8000000 in
theorem without_r (vs : List Int) (es : List (List Int)) (ids : List Int) (f g f2 : Bool) (hs : Small vs es) (hl : ids.length ≤ 1000000) (hne : ∀ e ∈ es, e ≠ []) : ConP Tryz.prog 34 [encH f g vs es, L1 f2 ids] fun r => r = encH false false (partV vs (woV vs ids)) (partE es (woV vs ids)) := by
  have hs' := hs
  obtain ⟨hv, he, hes⟩ := hs
  refine conP_of_conH (conH_of_W tok Tryz.func34 rfl rfl ?_)
  refine W_x tok mixed ?_
  simp -implicitDefEqProofs -dsimp [Tryz.f34, List.replicate, encH, L1]
  refine lw_of (W_own 2 1 [5] (by simp) (W_loopV [false, false, false, false, false, true, true, true, true, true, true, true, true, true, true, true, true, true, true, true, true, true, true, true, true, true, true, true, true, true] (σ := Nat) (fun i => i ≤ vs.length) (fun i => vs.length - i) (fun i => [(6, .int .i64 i), (5, .buf 2 0 (woV (vs.take i) ids).length (woV (vs.take i) ids).length)]) (fun i => [B.cells [L1 f vs, LL g es], B.cells [.nilS, .nilS], B.buf 2 1 ((woV (vs.take i) ids).map encI) false]) 0 (by omega) (by simp [woV]) (by simp [woV, L1]) (by simp) ?_))
  intro i hi N Q hN hQ
  by_cases hb : i < vs.length
  · have hc := has37 ids vs[i] f2 hl
    have hp := woV_take vs ids i hb
    have hpl := woV_len vs ids i
    simp only [L1] at hc
    cases hm : memB ids vs[i]
    · rw [hm] at hc hp
      refine W_x tok mixed ?_
      simp -implicitDefEqProofs -dsimp [hb, encI, L1]
      refine (callP (hc) (by simp)).mono ?_
      rintro r H' ⟨rfl, rfl⟩
      simp -implicitDefEqProofs -dsimp [wrapS i (by omega), hb, encI, cap8 (woV (vs.take i) ids).length (by omega), L1]
      refine hN (i + 1) _ _ (by omega) (by omega) ?_ ⟨[], ?_⟩ ?_ ?_ <;> simp [or_imp, forall_and, L1, encI, LL, hp]
    · rw [hm] at hc hp
      refine W_x tok mixed ?_
      simp -implicitDefEqProofs -dsimp [hb, encI, L1]
      refine (callP (hc) (by simp)).mono ?_
      rintro r H' ⟨rfl, rfl⟩
      simp -implicitDefEqProofs -dsimp [wrapS i (by omega), L1]
      refine hN (i + 1) _ _ (by omega) (by omega) ?_ ⟨[], ?_⟩ ?_ ?_ <;> simp [or_imp, forall_and, L1, encI, LL, hp]
  · obtain rfl : i = vs.length := by omega
    rw [List.take_length]
    have hwl := woV_len' vs ids
    have hc := part37 vs es (woV vs ids) f g false hs' (by omega) hne
    refine W_x tok mixed ?_
    simp -implicitDefEqProofs -dsimp [hb, L1]
    refine hQ _ _ _ ?_
    simp -implicitDefEqProofs -dsimp [L1]
    refine (callF 2 rfl hc (by simp [encH, L1]) (by simp)).mono ?_
    rintro r H' ⟨rfl, rfl⟩
    simp -implicitDefEqProofs -dsimp [encH, LL, L1]
def ixG (p : Int → Bool) (es : List Int) (i : Nat) : Int := if h : i < es.length then (if p es[i] then (i : Int) else ixG p es (i + 1)) else -1
termination_by es.length - i
theorem ixG_any (p : Int → Bool) (es : List Int) (i : Nat) : decide (0 ≤ ixG p es i) = (es.drop i).any p := by
  fun_induction ixG p es i with
  | case1 i h h0 => rw [List.drop_eq_getElem_cons h, List.any_cons, h0]; simp
  | case2 i h h0 ih => rw [List.drop_eq_getElem_cons h, List.any_cons, ih]; simp [h0]
  | case3 i h => rw [List.drop_of_length_le (by omega)]; rfl
set_option maxHeartbeats 8000000 in
theorem idxFunc64 (H : List B) (fv : V) (p : Int → Bool) (es : List Int) (g : Bool) (hes : es.length ≤ 1000000) (hH : ∀ bl ∈ H, rbB H.length bl) (hfv : rb H.length fv)
    (hp : ∀ m ∈ es, WCall Tryz.prog fv [.int .i64 m] H fun r H' => r = .bool (p m) ∧ H' = H) : ConH Tryz.prog 106 [L1 g es, fv] H fun r H' => r = .int .i64 (ixG p es 0) ∧ H' = H := by
  refine conH_of_W tok Tryz.func106 rfl rfl ?_
  refine W_x tok mixed ?_
  simp -implicitDefEqProofs -dsimp [Tryz.f106, List.replicate, L1]
  refine lw_of (W_loopV [false, false, false, false, true, true, false, false, true, true, true, true, true, true, true, true, true, true, true] (σ := Nat) (fun i => ixG p es i = ixG p es 0) (fun i => es.length - i) (fun i => [(8, .int .i64 i)]) (fun _ => H) 0 rfl (by simp) rfl (by simp) ?_)
  intro i hx N Q hN hQ
  by_cases hb : i < es.length
  · rw [ixG, dif_pos hb] at hx
    have hc := hp es[i] (List.getElem_mem hb)
    cases hq : p es[i]
    · rw [hq] at hc hx
      refine W_x tok mixed ?_
      simp -implicitDefEqProofs -dsimp [hb, encI]
      refine hc.mono ?_
      rintro r H' ⟨rfl, rfl⟩
      simp -implicitDefEqProofs -dsimp [wrapS i (by omega)]
      refine hN (i + 1) _ _ (by simpa using hx) (by omega) (by simp) ⟨[], by simp⟩ (by simp; exact hfv) hH
    · rw [hq] at hc hx
      refine W_x tok mixed ?_
      simp -implicitDefEqProofs -dsimp [hb, encI]
      refine hc.mono ?_
      rintro r H' ⟨rfl, rfl⟩
      simp -implicitDefEqProofs -dsimp []
      refine hQ _ _ _ ?_
      simp -implicitDefEqProofs -dsimp []
      simpa using hx
  · rw [ixG, dif_neg hb] at hx
    refine W_x tok mixed ?_
    simp -implicitDefEqProofs -dsimp [hb]
    refine hQ _ _ _ ?_
    simp -implicitDefEqProofs -dsimp []
    simpa using hx
set_option maxHeartbeats 4000000 in
theorem contFunc64 (H : List B) (fv : V) (p : Int → Bool) (es : List Int) (g : Bool) (hes : es.length ≤ 1000000) (hH : ∀ bl ∈ H, rbB H.length bl) (hfv : rb H.length fv)
    (hp : ∀ m ∈ es, WCall Tryz.prog fv [.int .i64 m] H fun r H' => r = .bool (p m) ∧ H' = H) : ConH Tryz.prog 66 [L1 g es, fv] H fun r H' => r = .bool (es.any p) ∧ H' = H := by
  have h0 := ixG_any p es 0
  rw [List.drop_zero] at h0
  have hc := idxFunc64 H fv p es g hes hH hfv hp
  refine conH_of_W tok Tryz.func66 rfl rfl ?_
  refine W_x tok mixed ?_
  simp -implicitDefEqProofs -dsimp [Tryz.f66, List.replicate]
  refine WCall.mono (K := fun r H' => r = .int .i64 (ixG p es 0) ∧ H' = H) hc ?_
  rintro r H' ⟨rfl, rfl⟩
  simp -implicitDefEqProofs -dsimp []
  rw [← h0]
/-- The set of removed numbers as a map. -/
def mE (us : List Int) : List (V × V) := us.map fun x => (V.int .i64 x, V.bool true)
theorem mE_snoc (us : List Int) (x : Int) : mE (us ++ [x]) = mE us ++ [(V.int .i64 x, V.bool true)] := by simp [mE]
@[simp ↓ high] theorem rbB_mE (n : Nat) (kk : KK) (us : List Int) : rbB n (.map kk (mE us)) ↔ True := by
  refine ⟨fun _ => trivial, fun _ p hp => ?_⟩
  obtain ⟨x, _, rfl⟩ := List.mem_map.1 hp
  exact ⟨trivial, trivial⟩
@[simp ↓ high] theorem rbB_mE2 (n : Nat) (kk : KK) (us : List Int) (x : Int) : rbB n (.map kk (mE us ++ [(V.int .i64 x, V.bool true)])) ↔ True := by
  rw [← mE_snoc]; exact rbB_mE n kk _
@[simp ↓ high] theorem forall_rbB_cons (n : Nat) (b : B) (l : List B) : (∀ bl ∈ b :: l, rbB n bl) ↔ (rbB n b ∧ ∀ bl ∈ l, rbB n bl) := List.forall_mem_cons
@[simp ↓ high] theorem forall_rbB_nil (n : Nat) : (∀ bl ∈ ([] : List B), rbB n bl) ↔ True := by simp
theorem findA_cons (x u : Int) (us : List Int) (i : Nat) : findA (.int .i64 x) (mE (u :: us)) i = if (x == u) = true then some (i, .bool true) else findA (.int .i64 x) (mE us) (i + 1) := rfl
theorem find_no (x : Int) : ∀ (us : List Int) (i : Nat), memB us x = false → findA (.int .i64 x) (mE us) i = none
  | [], _, _ => rfl
  | u :: us, i, h => by
    rw [memB_cons, Bool.or_eq_false_iff] at h
    rw [findA_cons, h.1, if_neg (by simp)]
    exact find_no x us (i + 1) h.2
theorem find_yes (x : Int) : ∀ (us : List Int) (i : Nat), memB us x = true → ∃ j, findA (.int .i64 x) (mE us) i = some (i + j, .bool true) ∧ us[j]? = some x
  | [], _, h => by simp [memB] at h
  | u :: us, i, h => by
    rw [findA_cons]
    cases hq : x == u
    · rw [memB_cons, hq, Bool.false_or] at h
      obtain ⟨j, h1, h2⟩ := find_yes x us (i + 1) h
      exact ⟨j + 1, by rw [if_neg (by simp)]; rw [show i + (j + 1) = i + 1 + j by omega]; exact h1, by simpa using h2⟩
    · exact ⟨0, by simp, by simp [(beq_iff_eq.1 hq)]⟩
theorem set_mE (us : List Int) (x : Int) (j : Nat) (h : us[j]? = some x) : (mE us).set j (V.int .i64 x, V.bool true) = mE us := by
  unfold mE
  apply List.ext_getElem?
  intro k
  by_cases hk : j = k
  · subst hk
    have hl := getElem?_lt h
    rw [List.getElem?_set_self (by simpa using hl), List.getElem?_map, h]; rfl
  · rw [List.getElem?_set_ne hk]
def goneTo (ids : List Int) : Nat → List Int
  | 0 => []
  | i + 1 => if memB (goneTo ids i) (ids.getD i 0) then goneTo ids i else goneTo ids i ++ [ids.getD i 0]
theorem goneTo_mem (ids : List Int) : ∀ i, i ≤ ids.length → ∀ x, memB (goneTo ids i) x = memB (ids.take i) x
  | 0, _, x => by simp [goneTo]
  | i + 1, h, x => by
    have ih := goneTo_mem ids i (by omega)
    have hl : i < ids.length := by omega
    have hg : ids.getD i 0 = ids[i] := by simp [hl]
    simp only [goneTo, hg]
    rw [List.take_succ_eq_append_getElem hl]
    have happ : ∀ (a : List Int) (b : Int), memB (a ++ [b]) x = (memB a x || x == b) := fun a b => by
      rw [Bool.eq_iff_iff, memB_iff, Bool.or_eq_true, memB_iff]; simp
    split
    · rename_i hm
      rw [happ, ih]
      cases hx : x == ids[i]
      · simp
      · rw [beq_iff_eq.1 hx, ← ih, hm]; rfl
    · rw [happ, happ, ih]
set_option maxHeartbeats 16000000 in
theorem without_c (vs : List Int) (es : List (List Int)) (ids : List Int) (f g f2 : Bool) (hs : Small vs es) (hl : ids.length ≤ 1000000) : ConP Tryz.prog 33 [encH f g vs es, L1 f2 ids] fun r => r = encH false false (woV vs ids) (woE es ids) := by
  obtain ⟨hv, he, hes⟩ := hs
  refine conP_of_conX (conH_of_W tok Tryz.func33 rfl rfl ?_)
  refine W_x tok mixed ?_
  simp -implicitDefEqProofs -dsimp [Tryz.f33, List.replicate, encH, L1]
  refine lw_of (W_loopV [false, false, false, false, false, false, false, true, false, false, false, false, false, false, false, false, true, true, true, true, true, true, true] (σ := Nat) (fun i => i ≤ ids.length) (fun i => ids.length - i) (fun i => [(16, .int .i64 i)]) (fun i => [B.cells [L1 f vs, LL g es], B.cells [.nilS, .nilS], B.map (.int .i64) (mE (goneTo ids i)), B.cells [.map 2]]) 0 (by omega) (by simp) (by simp [goneTo, mE, L1]) (by simp) ?_)
  intro i hi N Q hN hQ
  by_cases hb : i < ids.length
  · have hgs : goneTo ids (i + 1) = if memB (goneTo ids i) ids[i] then goneTo ids i else goneTo ids i ++ [ids[i]] := by simp [goneTo, hb]
    cases hm : memB (goneTo ids i) ids[i]
    · rw [hm] at hgs
      have hf := find_no ids[i] (goneTo ids i) 0 hm
      refine W_x tok mixed ?_
      simp -implicitDefEqProofs -dsimp [hb, encI, hf, wrapS i (by omega), L1]
      refine hN (i + 1) _ _ (by omega) (by omega) ?_ ⟨[], ?_⟩ ?_ ?_ <;> simp [or_imp, forall_and, L1, encI, LL, hgs, mE_snoc]
    · rw [hm] at hgs
      obtain ⟨j, hf, hj⟩ := find_yes ids[i] (goneTo ids i) 0 hm
      have hset := set_mE (goneTo ids i) ids[i] j hj
      rw [Nat.zero_add] at hf
      refine W_x tok mixed ?_
      simp -implicitDefEqProofs -dsimp [hb, encI, hf, hset, wrapS i (by omega), L1]
      refine hN (i + 1) _ _ (by omega) (by omega) ?_ ⟨[], ?_⟩ ?_ ?_ <;> simp [or_imp, forall_and, L1, encI, LL, hgs, mE_snoc]
  · obtain rfl : i = ids.length := by omega
    have hgm : ∀ x, memB (goneTo ids ids.length) x = memB ids x := fun x => by rw [goneTo_mem ids ids.length (by omega), List.take_length]
    generalize goneTo ids ids.length = us at hgm
    refine W_x tok mixed ?_
    simp -implicitDefEqProofs -dsimp [hb, L1]
    refine hQ _ _ _ ?_
    simp -implicitDefEqProofs -dsimp [L1]
    refine lw_of (W_ownC 2 1 [] 4 [0] rfl (by simp) (by simp) (W_loopV [false, false, false, false, false, false, false, false, false, false, true, false, false, false, false, false, false, false, false, false, false, false, false, false, false, false, true, true, true, true, true, true, true, true, true, true, true, true, true, true, true] (σ := Nat) (fun i => i ≤ vs.length) (fun i => vs.length - i) (fun i => [(26, .int .i64 i)]) (fun i => [B.cells [L1 f vs, LL g es], B.cells [.nilS, .nilS], B.map (.int .i64) (mE us), B.cells [.map 2], B.cells [.buf 5 0 (woV (vs.take i) ids).length (woV (vs.take i) ids).length, .nilS], B.buf 2 1 ((woV (vs.take i) ids).map encI) false]) 0 (by omega) (by simp) (by simp [woV, L1]) (by simp) ?_))
    intro i hi N2 Q2 hN2 hQ2
    by_cases hb : i < vs.length
    · have hp := woV_take vs ids i hb
      have hpl := woV_len vs ids i
      have hgi := hgm vs[i]
      cases hm : memB ids vs[i]
      · rw [hm] at hp hgi
        have hf := find_no vs[i] us 0 hgi
        refine W_x tok mixed ?_
        simp -implicitDefEqProofs -dsimp [hb, encI, hf, wrapS i (by omega), cap8 (woV (vs.take i) ids).length (by omega), L1]
        refine hN2 (i + 1) _ _ (by omega) (by omega) ?_ ⟨[], ?_⟩ ?_ ?_ <;> simp [or_imp, forall_and, L1, encI, LL, hp]
      · rw [hm] at hp hgi
        obtain ⟨j, hf, hj⟩ := find_yes vs[i] us 0 hgi
        refine W_x tok mixed ?_
        simp -implicitDefEqProofs -dsimp [hb, encI, hf, wrapS i (by omega), L1]
        refine hN2 (i + 1) _ _ (by omega) (by omega) ?_ ⟨[], ?_⟩ ?_ ?_ <;> simp [or_imp, forall_and, L1, encI, LL, hp]
    · obtain rfl : i = vs.length := by omega
      rw [List.take_length]
      refine W_x tok mixed ?_
      simp -implicitDefEqProofs -dsimp [hb, L1]
      refine hQ2 _ _ _ ?_
      simp -implicitDefEqProofs -dsimp [LL, L1]
      refine lw_of (W_ownC 46 1 [] 4 [1] rfl (by simp) (by simp) (W_loopV [false, false, false, false, false, false, false, false, false, false, false, false, true, false, false, false, false, false, false, false, false, false, false, false, false, false, false, false, false, false, false, false, false, false, false, false, false, false, false, false, false, false, false, false, true, true, true, true, true, true, true, true, true, true, true, true, true, true, true, true] (σ := Nat) (fun i => i ≤ es.length) (fun i => es.length - i) (fun i => [(44, .int .i64 i)]) (fun i => [B.cells [L1 f vs, LL g es], B.cells [.nilS, .nilS], B.map (.int .i64) (mE us), B.cells [.map 2], B.cells [.buf 5 0 (woV vs ids).length (woV vs ids).length, .buf 6 0 (woE (es.take i) ids).length (woE (es.take i) ids).length], B.buf 2 1 ((woV vs ids).map encI) false, B.buf 46 1 ((woE (es.take i) ids).map (L1 false)) false]) 0 (by omega) (by simp) (by simp [woE, L1, LL]) (by simp) ?_))
      intro j hj N3 Q3 hN3 hQ3
      by_cases hjb : j < es.length
      · have hej := hes es[j] (List.getElem_mem hjb)
        have hp := woE_take es ids j hjb
        have hpl := woE_len es ids j
        have hcl := clone64p es[j] false hej
        have hclo : ∀ m ∈ es[j], WCall Tryz.prog (.fn 67 [.ptr 3 0]) [.int .i64 m] [B.cells [L1 f vs, LL g es], B.cells [.nilS, .nilS], B.map (.int .i64) (mE us), B.cells [.map 2], B.cells [.buf 5 0 (woV vs ids).length (woV vs ids).length, .buf 6 0 (woE (es.take j) ids).length (woE (es.take j) ids).length], B.buf 2 1 ((woV vs ids).map encI) false, B.buf 46 1 ((woE (es.take j) ids).map (L1 false)) false] fun r H' => r = .bool (memB ids m) ∧ H' = [B.cells [L1 f vs, LL g es], B.cells [.nilS, .nilS], B.map (.int .i64) (mE us), B.cells [.map 2], B.cells [.buf 5 0 (woV vs ids).length (woV vs ids).length, .buf 6 0 (woE (es.take j) ids).length (woE (es.take j) ids).length], B.buf 2 1 ((woV vs ids).map encI) false, B.buf 46 1 ((woE (es.take j) ids).map (L1 false)) false] := fun m hm => by
          have hgi := hgm m
          simp only [WCall, List.cons_append, List.nil_append]
          cases hmm : memB ids m
          · rw [hmm] at hgi
            have hf := find_no m us 0 hgi
            refine conH_of_W tok Tryz.func67 rfl rfl ?_
            refine W_x tok mixed ?_
            simp -implicitDefEqProofs -dsimp [Tryz.f67, List.replicate, hf, L1]
          · rw [hmm] at hgi
            obtain ⟨k, hf, hk⟩ := find_yes m us 0 hgi
            refine conH_of_W tok Tryz.func67 rfl rfl ?_
            refine W_x tok mixed ?_
            simp -implicitDefEqProofs -dsimp [Tryz.f67, List.replicate, hf, L1]
        have hcf := contFunc64 _ (.fn 67 [.ptr 3 0]) (fun m => memB ids m) es[j] false hej (by simp [L1, LL, encI]) (by simp) hclo
        simp only [L1] at hcl
        cases hm : es[j].any fun v => memB ids v
        · rw [hm] at hp
          refine W_x tok mixed ?_
          simp -implicitDefEqProofs -dsimp [hjb, LL, L1]
          refine WCall.mono (K := fun r H' => r = .bool (es[j].any fun v => memB ids v) ∧ H' = _) hcf ?_
          rintro r H' ⟨rfl, rfl⟩
          simp -implicitDefEqProofs -dsimp [hm, L1]
          refine lw_of (W_drawT tok mixed [5, 7] [] [(L1 false es[j], [])] (by kernel_rfl) fun C K hC hK => ?_)
          simp -implicitDefEqProofs [LL, cap24 (woE (es.take j) ids).length (by omega), L1]
          refine ⟨hC _ _ _ _ (callP hcl (by simp)), hK _ _ ?_⟩
          simp -implicitDefEqProofs -dsimp [wrapS j (by omega), L1]
          refine hN3 (j + 1) _ _ (by omega) (by omega) ?_ ⟨[], ?_⟩ ?_ ?_ <;> simp [or_imp, forall_and, L1, encI, LL, hp]
        · rw [hm] at hp
          refine W_x tok mixed ?_
          simp -implicitDefEqProofs -dsimp [hjb, LL, L1]
          refine WCall.mono (K := fun r H' => r = .bool (es[j].any fun v => memB ids v) ∧ H' = _) hcf ?_
          rintro r H' ⟨rfl, rfl⟩
          simp -implicitDefEqProofs -dsimp [hm, wrapS j (by omega), L1]
          refine hN3 (j + 1) _ _ (by omega) (by omega) ?_ ⟨[], ?_⟩ ?_ ?_ <;> simp [or_imp, forall_and, L1, encI, LL, hp]
      · obtain rfl : j = es.length := by omega
        rw [List.take_length]
        refine W_x tok mixed ?_
        simp -implicitDefEqProofs -dsimp [hjb, LL, L1]
        refine hQ3 _ _ _ ?_
        simp -implicitDefEqProofs -dsimp [L1]
        exact ExpX.agg2 (expx_buf rfl (by simp) (by simp)) (expx_buf rfl (by simp) (by simp))
end Go.Proofs.YtfaleabndlcanaaGreatDoor
