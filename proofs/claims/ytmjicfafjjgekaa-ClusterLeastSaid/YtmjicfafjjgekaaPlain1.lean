/- Plain1: the search finds the first of the cheapest clusterings, in lexicographic order of normal forms. No program in sight. -/
import Derived.Test.YtmjicfafjjgekaaSpec4
namespace Go.Dr

/-- All extensions of a list by r labels. -/
def ext : Nat → Nat → List Int → List (List Int)
  | 0, _, pre => [pre]
  | r + 1, used, pre => (List.range (used + 1)).flatMap fun label => ext r (max used (label + 1)) (pre ++ [(label : Int)])

/-- What the first v vertices cost. -/
def costTo (f : Nat → Nat → Int) (xs : List Int) : Nat → Int
  | 0 => 0
  | v + 1 => costTo f xs v + moreTo f xs v (xs.getD v 0) v

def upd (c : List Int → Int) (s : Option (List Int) × Int) (xs : List Int) : Option (List Int) × Int :=
  if s.1.isSome && decide (s.2 ≤ c xs) then s else (some xs, c xs)

theorem moreTo_congr (f : Nat → Nat → Int) {xs ys : List Int} (v : Nat) (label : Int) : ∀ i, (∀ j, j < i → xs.getD j 0 = ys.getD j 0) → moreTo f xs v label i = moreTo f ys v label i
  | 0, _ => rfl
  | i + 1, h => by rw [moreTo, moreTo, moreTo_congr f v label i (fun j hj => h j (by omega)), h i (by omega)]
theorem costTo_congr (f : Nat → Nat → Int) {xs ys : List Int} : ∀ v, (∀ j, j < v → xs.getD j 0 = ys.getD j 0) → costTo f xs v = costTo f ys v
  | 0, _ => rfl
  | v + 1, h => by
    rw [costTo, costTo, costTo_congr f v (fun j hj => h j (by omega)), h v (by omega), moreTo_congr f v _ v (fun j hj => h j (by omega))]
theorem moreTo_nonneg (f : Nat → Nat → Int) (xs : List Int) (v : Nat) (label : Int) : ∀ i, 0 ≤ moreTo f xs v label i
  | 0 => by simp [moreTo]
  | i + 1 => by
    have := moreTo_nonneg f xs v label i
    have : 0 ≤ price (f i v) (xs.getD i 0 == label) := by unfold price; split <;> omega
    rw [moreTo]; omega
theorem costTo_mono (f : Nat → Nat → Int) (xs : List Int) (v : Nat) : ∀ r, costTo f xs v ≤ costTo f xs (v + r)
  | 0 => by simp
  | r + 1 => by
    have h1 := costTo_mono f xs v r
    have h2 := moreTo_nonneg f xs (v + r) (xs.getD (v + r) 0) (v + r)
    rw [show v + (r + 1) = (v + r) + 1 by omega, costTo]
    omega

theorem ext_len : ∀ (r used : Nat) (pre xs : List Int), xs ∈ ext r used pre → xs.length = pre.length + r ∧ xs.take pre.length = pre
  | 0, _, pre, xs, h => by simp [ext] at h; subst h; simp
  | r + 1, used, pre, xs, h => by
    simp only [ext, List.mem_flatMap] at h
    obtain ⟨label, _, h⟩ := h
    obtain ⟨h1, h2⟩ := ext_len r _ _ _ h
    simp only [List.length_append, List.length_cons, List.length_nil] at h1 h2
    refine ⟨by omega, ?_⟩
    have := congrArg (List.take pre.length) h2
    rw [List.take_take, Nat.min_eq_left (by omega)] at this
    rw [this]
    simp

theorem getD_of_take {xs pre : List Int} (h : xs.take pre.length = pre) {j : Nat} (hj : j < pre.length) : xs.getD j 0 = pre.getD j 0 := by
  have e : pre.getD j 0 = (xs.take pre.length).getD j 0 := by rw [h]
  rw [e]
  simp only [List.getD_eq_getElem?_getD, List.getElem?_take, if_pos hj]

/-- Nothing below a node that costs too much is better. -/
theorem foldl_skip (c : List Int → Int) (s : Option (List Int) × Int) (hs : s.1.isSome = true) : ∀ l : List (List Int), (∀ xs ∈ l, s.2 ≤ c xs) → l.foldl (upd c) s = s
  | [], _ => rfl
  | xs :: l, h => by
    have h1 : upd c s xs = s := by
      unfold upd
      rw [if_pos]
      simp [hs, h xs List.mem_cons_self]
    rw [List.foldl_cons, h1]
    exact foldl_skip c s hs l (fun y hy => h y (List.mem_cons_of_mem _ hy))

theorem fromR_len (f : Nat → Nat → Int) (n : Nat) : ∀ (r v used : Nat) (cost : Int) (s : St), s.labels.length = n → (fromR f r v used cost s).labels.length = n
  | 0, v, used, cost, s, h1 => by rw [fromR]; split <;> exact h1
  | r + 1, v, used, cost, s, h1 => by
    cases h : s.skip cost
    · rw [fromR_succ h]
      generalize used + 1 = k
      induction k with
      | zero => exact h1
      | succ k ih =>
        rw [Go.Dr.rounds_succ]
        exact fromR_len f n r _ _ _ _ (by simpa using ih)
    · rw [fromR_skip h]; exact h1
/-- The labels before v stay. -/
theorem fromR_take (f : Nat → Nat → Int) : ∀ (r v used : Nat) (cost : Int) (s : St), (fromR f r v used cost s).labels.take v = s.labels.take v
  | 0, v, used, cost, s => by rw [fromR]; split <;> rfl
  | r + 1, v, used, cost, s => by
    cases h : s.skip cost
    · rw [fromR_succ h]
      generalize used + 1 = k
      induction k with
      | zero => rfl
      | succ k ih =>
        rw [Go.Dr.rounds_succ]
        have := fromR_take f r (v + 1) (max used (k + 1)) (cost + moreTo f (rounds f r v used cost s k).labels v k v) ⟨(rounds f r v used cost s k).labels.set v k, (rounds f r v used cost s k).best, (rounds f r v used cost s k).least⟩
        have h2 := congrArg (List.take v) this
        rw [List.take_take, List.take_take, Nat.min_eq_left (by omega)] at h2
        rw [h2, List.take_set_of_le (by omega)]
        exact ih
    · rw [fromR_skip h]

theorem fromR_upd (f : Nat → Nat → Int) (n : Nat) : ∀ (r v used : Nat) (cost : Int) (s : St), v + r = n → s.labels.length = n → cost = costTo f s.labels v →
    ((fromR f r v used cost s).best, (fromR f r v used cost s).least) = (ext r used (s.labels.take v)).foldl (upd fun xs => costTo f xs n) (s.best, s.least)
  | 0, v, used, cost, s, hv, hl, hc => by
    obtain rfl : v = n := by omega
    rw [List.take_of_length_le (by omega)]
    subst hc
    simp only [ext, List.foldl_cons, List.foldl_nil, upd]
    rw [fromR]
    cases h : s.skip (costTo f s.labels v)
    · rw [if_neg (by simp), if_neg (by unfold St.skip at h; simp [h])]
    · rw [if_pos rfl, if_pos (by unfold St.skip at h; simpa using h)]
  | r + 1, v, used, cost, s, hv, hl, hc => by
    cases h : s.skip cost
    · rw [fromR_succ h]
      rw [ext, List.foldl_flatMap]
      have hlt : v < n := by omega
      have main : ∀ k, ((rounds f r v used cost s k).best, (rounds f r v used cost s k).least) =
          (List.range k).foldl (fun acc label => (ext r (max used (label + 1)) (s.labels.take v ++ [(label : Int)])).foldl (upd fun xs => costTo f xs n) acc) (s.best, s.least) ∧
          (rounds f r v used cost s k).labels.length = n ∧ (rounds f r v used cost s k).labels.take v = s.labels.take v := by
        intro k
        induction k with
        | zero => exact ⟨rfl, hl, rfl⟩
        | succ k ih =>
          obtain ⟨ih1, ih2, ih3⟩ := ih
          generalize hsk : rounds f r v used cost s k = sk at ih1 ih2 ih3
          rw [Go.Dr.rounds_succ, hsk]
          have hset : (sk.labels.set v (k : Int)).take (v + 1) = s.labels.take v ++ [(k : Int)] := by
            rw [List.take_succ_eq_append_getElem (by simp; omega), List.take_set_of_le (by omega), ih3]
            simp
          have hcost : cost + moreTo f sk.labels v k v = costTo f (sk.labels.set v (k : Int)) (v + 1) := by
            have hgd : ∀ j, j < v → (sk.labels.set v (k : Int)).getD j 0 = s.labels.getD j 0 := by
              intro j hj
              have e1 : (sk.labels.set v (k : Int)).getD j 0 = (sk.labels.take v).getD j 0 := by
                simp only [List.getD_eq_getElem?_getD, List.getElem?_take, if_pos hj, List.getElem?_set]
                rw [if_neg (by omega)]
              rw [e1, ih3]
              simp only [List.getD_eq_getElem?_getD, List.getElem?_take, if_pos hj]
            have hgd2 : ∀ j, j < v → sk.labels.getD j 0 = (sk.labels.set v (k : Int)).getD j 0 := by
              intro j hj
              simp only [List.getD_eq_getElem?_getD, List.getElem?_set]
              rw [if_neg (by omega)]
            rw [costTo, costTo_congr f v hgd, ← hc, moreTo_congr f v _ v hgd2]
            congr 2
            simp only [List.getD_eq_getElem?_getD, List.getElem?_set_self (show v < sk.labels.length by omega), Option.getD_some]
          have ih4 := fromR_upd f n r (v + 1) (max used (k + 1)) (cost + moreTo f sk.labels v k v) ⟨sk.labels.set v (k : Int), sk.best, sk.least⟩ (by omega) (by simpa using ih2) hcost
          refine ⟨?_, ?_, ?_⟩
          · rw [ih4]
            simp only [hset]
            rw [List.range_succ, List.foldl_append, ← ih1]
            rfl
          · exact (fromR_len f n r (v + 1) (max used (k + 1)) (cost + moreTo f sk.labels v k v) ⟨sk.labels.set v (k : Int), sk.best, sk.least⟩ (by simpa using ih2))
          · have := fromR_take f r (v + 1) (max used (k + 1)) (cost + moreTo f sk.labels v k v) ⟨sk.labels.set v (k : Int), sk.best, sk.least⟩
            have h2 := congrArg (List.take v) this
            rw [List.take_take, List.take_take, Nat.min_eq_left (by omega)] at h2
            rw [h2, List.take_set_of_le (by omega)]
            exact ih3
      exact (main (used + 1)).1
    · rw [fromR_skip h]
      simp only [St.skip, Bool.and_eq_true, decide_eq_true_eq] at h
      rw [foldl_skip _ _ h.1]
      intro xs hxs
      obtain ⟨h1, h2⟩ := ext_len _ _ _ _ hxs
      have hlt : (s.labels.take v).length = v := by simp; omega
      rw [hlt] at h1 h2
      have e : costTo f xs v = cost := by
        rw [hc]
        refine costTo_congr f v (fun j hj => ?_)
        have := getD_of_take (xs := xs) (pre := s.labels.take v) (by rw [hlt]; exact h2) (j := j) (by omega)
        rw [this]
        simp only [List.getD_eq_getElem?_getD, List.getElem?_take, if_pos hj]
      have := costTo_mono f xs v (r + 1)
      rw [hv] at this
      simp only
      omega
end Go.Dr
