/- Plain4: what ClusterLeast asks, in plain Lean. -/
import Derived.Test.YtmjicfafjjgekaaPlain3
import Derived.Test.YtmjicfafjjgekaaW21
namespace Go.Proofs.Ytmjicfafjjgekaa
open Go.Dr

theorem better_le (c : List Int → Int) (a b : List Int) : c (better c a b) ≤ c a ∧ c (better c a b) ≤ c b := by
  unfold better; split <;> omega
theorem bestTo_le (c : List Int → Int) (l : List (List Int)) : ∀ i j, j ≤ i → c (bestTo c l i) ≤ c (l.getD j [])
  | 0, j, h => by obtain rfl : j = 0 := by omega
                  exact Int.le_refl _
  | i + 1, j, h => by
    have hb := better_le c (bestTo c l i) (l.getD (i + 1) [])
    rcases Nat.lt_or_ge j (i + 1) with h1 | h1
    · exact Int.le_trans hb.1 (bestTo_le c l i j (by omega))
    · obtain rfl : j = i + 1 := by omega
      exact hb.2
theorem bestOf_le (c : List Int → Int) {l : List (List Int)} {x : List Int} (h : x ∈ l) : c (bestOf c l) ≤ c x := by
  obtain ⟨j, hj, rfl⟩ := List.getElem_of_mem h
  have := bestTo_le c l (l.length - 1) j (by omega)
  simpa [bestOf, List.getD_eq_getElem?_getD, hj] using this
theorem better_scale (c d : List Int → Int) (b : Int) (hb : 0 < b) (h : ∀ x, d x = b * c x) (x y : List Int) : better d x y = better c x y := by
  unfold better
  have : (d y < d x) ↔ (c y < c x) := by
    rw [h, h]
    exact ⟨fun h => Int.lt_of_mul_lt_mul_left h (by omega), fun h => Int.mul_lt_mul_of_pos_left h hb⟩
  by_cases hc : c y < c x
  · rw [if_pos hc, if_pos (this.2 hc)]
  · rw [if_neg hc, if_neg (fun h => hc (this.1 h))]
theorem bestTo_scale (c d : List Int → Int) (b : Int) (hb : 0 < b) (h : ∀ x, d x = b * c x) (l : List (List Int)) : ∀ i, bestTo d l i = bestTo c l i
  | 0 => rfl
  | i + 1 => by rw [bestTo, bestTo, bestTo_scale c d b hb h l i, better_scale c d b hb h]
theorem bestOf_scale (c d : List Int → Int) (b : Int) (hb : 0 < b) (h : ∀ x, d x = b * c x) (l : List (List Int)) : bestOf d l = bestOf c l := bestTo_scale c d b hb h l _

def scaleP (b : Int) (ps : List P3) : List P3 := ps.map fun p => ⟨p.i, p.k, p.x * b⟩
theorem price_scale (x b : Int) (hb : 0 < b) (t : Bool) : price (x * b) t = b * price x t := by
  unfold price
  cases t
  · simp only [Bool.false_eq_true, if_false]
    rcases Int.le_total 0 x with h | h
    · rw [Int.max_eq_left (Int.mul_nonneg h (by omega)), Int.max_eq_left h, Int.mul_comm]
    · rw [Int.max_eq_right (Int.mul_nonpos_of_nonpos_of_nonneg h (by omega)), Int.max_eq_right h, Int.mul_zero]
  · simp only [if_true]
    rcases Int.le_total 0 x with h | h
    · have := Int.mul_nonneg h (show 0 ≤ b by omega)
      rw [Int.max_eq_right (by omega), Int.max_eq_right (by omega), Int.mul_zero]
    · have := Int.mul_nonpos_of_nonpos_of_nonneg h (show 0 ≤ b by omega)
      rw [Int.max_eq_left (by omega), Int.max_eq_left (by omega), Int.mul_neg, Int.mul_comm]
theorem cost_scale (b : Int) (hb : 0 < b) (xs : List Int) : ∀ ps, costOf (scaleP b ps) xs = b * costOf ps xs
  | [] => by simp [costOf, scaleP]
  | p :: ps => by
    have ih := cost_scale b hb xs ps
    simp only [costOf, scaleP, List.map_cons, List.sum_cons] at ih ⊢
    rw [ih, Int.mul_add]
    congr 1
    exact price_scale p.x b hb _
theorem lab_nf {xs : List Int} {i k : Int} (_h0 : 0 ≤ i) (h1 : i < xs.length) (_h2 : 0 ≤ k) (h3 : k < xs.length) : (lab (nf xs) i == lab (nf xs) k) = (lab xs i == lab xs k) := by
  have hok := nfTo_ok xs xs.length (Nat.le_refl _)
  have hi : i.toNat < xs.length := by omega
  have hk : k.toNat < xs.length := by omega
  have ei := hok.at_ i.toNat _ hi (List.getElem?_eq_getElem hi)
  have ek := hok.at_ k.toNat _ hk (List.getElem?_eq_getElem hk)
  have mi : xs[i.toNat] ∈ (nfTo xs xs.length).2 := (hok.mem _).2 (by rw [List.take_length]; exact List.getElem_mem _)
  have mk : xs[k.toNat] ∈ (nfTo xs xs.length).2 := (hok.mem _).2 (by rw [List.take_length]; exact List.getElem_mem _)
  simp only [lab, nf, List.getD_eq_getElem?_getD, ei, ek, Option.getD_some, List.getElem?_eq_getElem hi, List.getElem?_eq_getElem hk]
  by_cases h : xs[i.toNat] = xs[k.toNat]
  · simp [h]
  · have hne : (nfTo xs xs.length).2.idxOf xs[i.toNat] ≠ (nfTo xs xs.length).2.idxOf xs[k.toNat] := fun e => by
      have g1 : (nfTo xs xs.length).2[(nfTo xs xs.length).2.idxOf xs[i.toNat]]? = some xs[i.toNat] := by rw [List.getElem?_eq_getElem (List.idxOf_lt_length_iff.2 mi), List.getElem_idxOf]
      have g2 : (nfTo xs xs.length).2[(nfTo xs xs.length).2.idxOf xs[k.toNat]]? = some xs[k.toNat] := by rw [List.getElem?_eq_getElem (List.idxOf_lt_length_iff.2 mk), List.getElem_idxOf]
      rw [e, g2] at g1
      exact h (Option.some.inj g1).symm
    have : ((nfTo xs xs.length).2.idxOf xs[i.toNat] : Int) ≠ ((nfTo xs xs.length).2.idxOf xs[k.toNat] : Int) := by omega
    rw [beq_eq_false_iff_ne.2 this, beq_eq_false_iff_ne.2 h]
theorem cost_nf {n : Nat} {ps : List P3} (hg : good n ps = true) {xs : List Int} (hl : xs.length = n) : costOf ps (nf xs) = costOf ps xs := by
  unfold costOf
  congr 1
  refine List.map_congr_left fun p hp => ?_
  have := good_all hg p hp
  simp only [okP, decide_eq_true_eq] at this
  unfold costOne
  rw [lab_nf (by omega) (by omega) (by omega) (by omega)]
theorem allN_snoc {i : Nat} {ys : List Int} {c : Nat} (h : ys ∈ allN i) (hc : (c : Int) ≤ mx ys + 1) : ys ++ [(c : Int)] ∈ allN (i + 1) := by
  simp only [allN, List.mem_flatMap, allStep, stepL, List.mem_map, List.mem_range]
  exact ⟨ys, h, c, by omega, rfl⟩
/-- The normal form so far is one of allN; its labels are those of the list of what was seen. -/
theorem nfTo_allN (xs : List Int) : ∀ i, i ≤ xs.length → (nfTo xs i).1 ∈ allN i ∧ mx (nfTo xs i).1 = ((nfTo xs i).2.length : Int) - 1
  | 0, _ => by simp [nfTo, allN, mx, mxTo]
  | i + 1, h => by
    obtain ⟨h1, h2⟩ := nfTo_allN xs i (by omega)
    have hx : xs[i]? = some xs[i] := List.getElem?_eq_getElem (by omega)
    rw [nfTo_succ hx]
    generalize nfTo xs i = s at h1 h2
    unfold nfStep
    split
    · rename_i hm
      have := List.idxOf_lt_length_iff.2 hm
      refine ⟨allN_snoc h1 (by omega), ?_⟩
      simp only
      rw [mx_snoc, h2]; omega
    · refine ⟨allN_snoc h1 (by omega), ?_⟩
      simp only [List.length_append, List.length_cons, List.length_nil]
      rw [mx_snoc, h2]; omega
theorem nf_allN {xs : List Int} {n : Nat} (h : xs.length = n) : nf xs ∈ allN n := by
  subst h; exact (nfTo_allN xs xs.length (Nat.le_refl _)).1
/-- No clustering is cheaper than the best. -/
theorem best_least {n : Nat} {ps : List P3} (hg : good n ps = true) {xs : List Int} (hl : xs.length = n) : costOf ps (bestOf (costOf ps) (allN n)) ≤ costOf ps xs := by
  rw [← cost_nf hg hl]; exact bestOf_le _ (nf_allN hl)
def upTo (m : Nat) : List Int := (List.range m).map fun (c : Nat) => (c : Int)
theorem upTo_mem (m c : Nat) : (c : Int) ∈ upTo m ↔ c < m := by
  simp only [upTo, List.mem_map, List.mem_range]
  exact ⟨fun ⟨a, h, e⟩ => by omega, fun h => ⟨c, h, rfl⟩⟩
theorem upTo_snoc (m : Nat) : upTo (m + 1) = upTo m ++ [(m : Int)] := by simp [upTo, List.range_succ]
theorem upTo_len (m : Nat) : (upTo m).length = m := by simp [upTo]
theorem upTo_idx : ∀ (m c : Nat), c < m → (upTo m).idxOf (c : Int) = c
  | 0, c, h => by omega
  | m + 1, c, h => by
    rw [upTo_snoc, List.idxOf_append]
    by_cases hc : c < m
    · rw [if_pos ((upTo_mem m c).2 hc), upTo_idx m c hc]
    · obtain rfl : c = m := by omega
      rw [if_neg (fun h => hc ((upTo_mem c c).1 h)), upTo_len]
      simp
/-- A list of allN is its own normal form. -/
theorem allN_nf : ∀ (n : Nat) (ys : List Int), ys ∈ allN n → nfTo ys n = (ys, upTo (mx ys + 1).toNat)
  | 0, ys, h => by simp [allN] at h; subst h; simp [nfTo, mx, mxTo, upTo]
  | n + 1, ys, h => by
    have hl := (allN_ok (n + 1) ys h).1
    simp only [allN, List.mem_flatMap, allStep, stepL, List.mem_map, List.mem_range] at h
    obtain ⟨zs, hz, c, hc, rfl⟩ := h
    have ih := allN_nf n zs hz
    have hzl := (allN_ok n zs hz).1
    have hlo := mxTo_lo zs zs.length
    have hlo' : -1 ≤ mx zs := hlo
    have hat : (zs ++ [(c : Int)])[n]? = some (c : Int) := by rw [← hzl]; simp
    have e : nfTo (zs ++ [(c : Int)]) n = nfTo zs n := by
      unfold nfTo
      rw [List.take_append_of_le_length (by omega)]
    rw [nfTo_succ hat, e, ih, mx_snoc]
    unfold nfStep
    simp only
    by_cases hcm : c < (mx zs + 1).toNat
    · rw [if_pos ((upTo_mem _ c).2 hcm), upTo_idx _ c hcm, show max (mx zs) (c : Int) = mx zs by omega]
    · have hce : c = (mx zs + 1).toNat := by omega
      rw [if_neg (fun h => hcm ((upTo_mem _ c).1 h)), upTo_len, ← hce, show (max (mx zs) (c : Int) + 1).toNat = c + 1 by omega, upTo_snoc]
theorem nf_self {n : Nat} {ys : List Int} (h : ys ∈ allN n) : nf ys = ys := by
  have hl := (allN_ok n ys h).1
  unfold nf
  rw [hl, allN_nf n ys h]
end Go.Proofs.Ytmjicfafjjgekaa
