/- Plain2: the search's result is the reference's. -/
import Derived.Test.YtmjicfafjjgekaaW17
import Derived.Test.YtmjicfafjjgekaaW20
import Derived.Test.YtmjicfafjjgekaaPlain1
namespace Go.Proofs.Ytmjicfafjjgekaa
open Go.RowKit Go.Dr

theorem price_zero (t : Bool) : price 0 t = 0 := by cases t <;> simp [price]

theorem moreTo_set (f : Nat → Nat → Int) (p : P3) (xs : List Int) (label : Int) (hik : p.i.toNat < p.k.toNat) (h0 : f p.i.toNat p.k.toNat = 0) (v : Nat) : ∀ j, j ≤ v →
    moreTo (matSet f p) xs v label j = moreTo f xs v label j + if v = p.k.toNat ∧ p.i.toNat < j then price p.x (xs.getD p.i.toNat 0 == label) else 0
  | 0, _ => by simp [moreTo]
  | j + 1, hj => by
    rw [moreTo, moreTo, moreTo_set f p xs label hik h0 v j (by omega)]
    by_cases h1 : j = p.i.toNat ∧ v = p.k.toNat
    · obtain ⟨rfl, rfl⟩ := h1
      have e : matSet f p p.i.toNat p.k.toNat = p.x := by unfold matSet; rw [if_pos (.inr ⟨rfl, rfl⟩)]
      rw [e, h0, price_zero, if_neg (by omega), if_pos ⟨rfl, by omega⟩]
    · have e : matSet f p j v = f j v := by unfold matSet; rw [if_neg (by omega)]
      rw [e]
      by_cases h2 : v = p.k.toNat ∧ p.i.toNat < j
      · rw [if_pos h2, if_pos ⟨h2.1, by omega⟩]; omega
      · rw [if_neg h2, if_neg (by omega)]; omega
theorem costTo_set (f : Nat → Nat → Int) (p : P3) (xs : List Int) (hik : p.i.toNat < p.k.toNat) (h0 : f p.i.toNat p.k.toNat = 0) : ∀ m,
    costTo (matSet f p) xs m = costTo f xs m + if p.k.toNat < m then price p.x (xs.getD p.i.toNat 0 == xs.getD p.k.toNat 0) else 0
  | 0 => by simp [costTo]
  | m + 1 => by
    rw [costTo, costTo, costTo_set f p xs hik h0 m, moreTo_set f p xs _ hik h0 m m (Nat.le_refl _)]
    by_cases h1 : m = p.k.toNat
    · subst h1
      rw [if_neg (by omega), if_pos ⟨rfl, hik⟩, if_pos (by omega)]; omega
    · rw [if_neg (show ¬ (m = p.k.toNat ∧ p.i.toNat < m) from fun h => h1 h.1)]
      by_cases h2 : p.k.toNat < m
      · rw [if_pos h2, if_pos (by omega)]; omega
      · rw [if_neg h2, if_neg (by omega)]; omega
theorem costTo_zero (xs : List Int) : ∀ m, costTo (fun _ _ => 0) xs m = 0
  | 0 => rfl
  | m + 1 => by
    rw [costTo, costTo_zero xs m]
    have : ∀ v label j, moreTo (fun _ _ => 0) xs v label j = 0 := by
      intro v label j
      induction j with
      | zero => rfl
      | succ j ih => rw [moreTo, ih, price_zero]; rfl
    rw [this]; rfl
theorem weight_none {ps : List P3} {i k : Int} (h : (i, k) ∉ ps.map key) : weight ps i k = none := by
  induction ps with
  | nil => rfl
  | cons p ps ih =>
    simp only [List.map_cons, List.mem_cons, not_or, key] at h
    rw [weight, if_neg (fun e => h.1 (by rw [← e.1, ← e.2]))]
    exact ih h.2
/-- The cost of a clustering, by pairs and by the matrix. -/
theorem cost_mat {n : Nat} {ps : List P3} (hg : good n ps = true) (xs : List Int) : ∀ k, k ≤ ps.length → costTo (matOf (ps.take k)) xs n = costOf (ps.take k) xs
  | 0, _ => by simpa [matOf, costOf] using costTo_zero xs n
  | k + 1, h => by
    have ih := cost_mat hg xs k (by omega)
    have hk : ps[k]? = some ps[k] := List.getElem?_eq_getElem (by omega)
    have hgk := good_take (k + 1) hg
    rw [take_snoc hk, good_snoc] at hgk
    obtain ⟨h1, h2, h3⟩ := hgk
    have hp := h2
    simp only [okP, decide_eq_true_eq] at hp
    have e : matOf (ps.take (k + 1)) = matSet (matOf (ps.take k)) ps[k] := by rw [take_snoc hk, matOf, List.foldl_append]; rfl
    have h0 : matOf (ps.take k) (ps[k]).i.toNat (ps[k]).k.toNat = 0 := by
      rw [matOf_weight h1 _ _ (by omega), wOf, Int.toNat_of_nonneg hp.1, Int.toNat_of_nonneg (by omega), weight_none h3]
      rfl
    rw [e, costTo_set _ _ xs (by omega) h0, ih, costOf_step xs hk, if_pos (by omega)]
    rfl
theorem cost_all {n : Nat} {ps : List P3} (hg : good n ps = true) (xs : List Int) : costTo (matOf ps) xs n = costOf ps xs := by
  have := cost_mat hg xs ps.length (Nat.le_refl _)
  rwa [List.take_length] at this

def usedOf (xs : List Int) : Nat := (mx xs + 1).toNat
theorem used_snoc (xs : List Int) (l : Nat) : usedOf (xs ++ [(l : Int)]) = max (usedOf xs) (l + 1) := by
  have := mxTo_lo xs xs.length
  unfold usedOf
  rw [mx_snoc]
  unfold mx
  omega
theorem allStep_eq (xs : List Int) : allStep xs = (List.range (usedOf xs + 1)).map fun (l : Nat) => xs ++ [(l : Int)] := by
  have := mxTo_lo xs xs.length
  unfold allStep stepL usedOf
  rw [show (mx xs + 2).toNat = (mx xs + 1).toNat + 1 by unfold mx; omega]
theorem ext_all : ∀ (i r : Nat), ext (i + r) 0 [] = (allN i).flatMap fun xs => ext r (usedOf xs) xs
  | 0, r => by simp [allN, usedOf, mx, mxTo]
  | i + 1, r => by
    rw [show i + 1 + r = i + (r + 1) by omega, ext_all i (r + 1), allN, List.flatMap_assoc]
    congr 1
    funext xs
    rw [allStep_eq, ext, List.flatMap_map]
    congr 1
    funext l
    rw [used_snoc]
theorem ext_allN (n : Nat) : ext n 0 [] = allN n := by
  have := ext_all n 0
  rw [Nat.add_zero] at this
  rw [this]
  simp [ext]

theorem upd_some (c : List Int → Int) : ∀ (l : List (List Int)) (b : List Int), l.foldl (upd c) (some b, c b) = (some (l.foldl (better c) b), c (l.foldl (better c) b))
  | [], b => rfl
  | x :: l, b => by
    have h : upd c (some b, c b) x = (some (better c b x), c (better c b x)) := by
      unfold upd better
      by_cases hc : c x < c b
      · rw [if_neg (by simp; omega), if_pos hc]
      · rw [if_pos (by simp; omega), if_neg hc]
    rw [List.foldl_cons, h, upd_some c l, List.foldl_cons]
theorem bestTo_fold (c : List Int → Int) (x : List Int) (l : List (List Int)) : ∀ i, i ≤ l.length → bestTo c (x :: l) i = (l.take i).foldl (better c) x
  | 0, _ => by simp [bestTo]
  | i + 1, h => by
    rw [bestTo, bestTo_fold c x l i (by omega), List.take_succ_eq_append_getElem (by omega), List.foldl_append]
    simp [List.getD_eq_getElem?_getD, show i < l.length by omega]
theorem bestOf_fold (c : List Int → Int) (x : List Int) (l : List (List Int)) : bestOf c (x :: l) = l.foldl (better c) x := by
  rw [bestOf, bestTo_fold c x l _ (by simp)]
  simp
theorem fold_congr {c c' : List Int → Int} : ∀ (l : List (List Int)) (x : List Int), c x = c' x → (∀ y ∈ l, c y = c' y) → l.foldl (better c) x = l.foldl (better c') x ∧ c (l.foldl (better c) x) = c' (l.foldl (better c') x)
  | [], x, h, _ => ⟨rfl, h⟩
  | y :: l, x, h, hl => by
    have hy := hl y List.mem_cons_self
    have e : better c x y = better c' x y := by unfold better; rw [h, hy]
    have e2 : c (better c x y) = c' (better c' x y) := by
      rw [← e]; unfold better; split
      · exact hy
      · exact h
    rw [List.foldl_cons, List.foldl_cons, ← e]
    rw [← e] at e2
    exact fold_congr l _ e2 (fun z hz => hl z (List.mem_cons_of_mem _ hz))

/-- The search finds the first of the cheapest clusterings. -/
theorem search_best {n : Nat} {ps : List P3} (hg : good n ps = true) : optBest n (matOf ps) = bestOf (costOf ps) (allN n) ∧ (optSt n (matOf ps)).least = costOf ps (bestOf (costOf ps) (allN n)) := by
  have h := fromR_upd (matOf ps) n n 0 0 0 ⟨List.replicate n 0, none, 0⟩ (by omega) (by simp) rfl
  simp only [List.take_zero] at h
  rw [ext_allN] at h
  obtain ⟨x, l, hl⟩ := List.exists_cons_of_length_pos (allN_pos n)
  rw [hl, List.foldl_cons] at h
  have e0 : upd (fun xs => costTo (matOf ps) xs n) (none, 0) x = (some x, costTo (matOf ps) x n) := by simp [upd]
  rw [e0, upd_some (fun xs => costTo (matOf ps) xs n)] at h
  have hc := fold_congr (c := fun xs => costTo (matOf ps) xs n) (c' := costOf ps) l x (cost_all hg x) (fun y _ => cost_all hg y)
  rw [hc.1, cost_all hg] at h
  have h1 := congrArg Prod.fst h
  have h2 := congrArg Prod.snd h
  simp only at h1 h2
  rw [hl, bestOf_fold]
  exact ⟨by unfold optBest optSt; rw [h1]; rfl, h2⟩
end Go.Proofs.Ytmjicfafjjgekaa
