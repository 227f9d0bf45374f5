/- X4: tables of recipes are valid, their lists of cells are right. -/
import Derived.Test.YteijbpppalhihaaGreatX3
set_option linter.unusedVariables false
set_option linter.unusedSimpArgs false
set_option maxRecDepth 100000
namespace Go.Proofs.YteijbpppalhihaaGreat
open Go Go.AM
theorem rowsErr_of {n : Nat} : ∀ {rs : List Rw} {last : Int}, (∀ r ∈ rs, last < r.id) → (∀ r ∈ rs, r.vals.length = n) → (∀ r ∈ rs, ∀ v ∈ r.vals, validV v = true) → rs.Pairwise (fun a b => a.id < b.id) → rowsErr n last rs = 0
  | [], _, _, _, _, _ => rfl
  | r :: rs, last, h1, h2, h3, h4 => by
    have a1 := h1 r List.mem_cons_self
    have a2 := h2 r List.mem_cons_self
    have a3 : r.vals.all validV = true := List.all_eq_true.2 (h3 r List.mem_cons_self)
    rw [List.pairwise_cons] at h4
    rw [rowsErr, if_neg (by omega), if_neg (by omega), a3, if_pos rfl]
    exact rowsErr_of h4.1 (fun r' hr => h2 r' (List.mem_cons_of_mem _ hr)) (fun r' hr => h3 r' (List.mem_cons_of_mem _ hr)) h4.2
theorem TbV.validT {t : Tb} (h : TbV t) (hpos : ∀ r ∈ t.rows, 0 < r.id) : validT t = 0 := by
  unfold Go.Proofs.YteijbpppalhihaaGreat.validT
  rw [h.name, if_pos rfl, if_neg (by have := h.attrs; have := h.rows; omega), h.names, if_pos rfl]
  exact rowsErr_of hpos h.len h.vals h.asc
theorem ofV_valid (m : Int) : validV (ofV m) = true := by
  unfold ofV
  repeat' split
  all_goals kernel_rfl
theorem wide_rows {x : Rcp} {n : Nat} (hg : 0 ≤ x.gap) : (∀ r ∈ (wideT x n).rows, 0 < r.id ∧ r.vals.length = n ∧ ∀ v ∈ r.vals, validV v = true) ∧ (wideT x n).rows.Pairwise fun a b => a.id < b.id := by
  have h0 := Int.tmod_nonneg 3 hg
  constructor
  · intro r hr
    obtain ⟨i, hi, rfl⟩ := List.mem_map.1 hr
    refine ⟨?_, wVals_len _ _, fun v hv => ?_⟩
    · show 0 < 1 + (i : Int) * (1 + x.gap.tmod 3)
      have := Int.mul_nonneg (show (0 : Int) ≤ i by omega) (show 0 ≤ 1 + x.gap.tmod 3 by omega)
      omega
    · obtain ⟨j, _, rfl⟩ := List.mem_map.1 hv
      exact ofV_valid _
  · show ((List.range x.rows.length).map _).Pairwise _
    rw [List.pairwise_map]
    refine List.Pairwise.imp ?_ List.pairwise_lt_range
    intro i j hij
    show 1 + (i : Int) * (1 + x.gap.tmod 3) < 1 + (j : Int) * (1 + x.gap.tmod 3)
    have := Int.mul_lt_mul_of_pos_right (show (i : Int) < j by omega) (show 0 < 1 + x.gap.tmod 3 by omega)
    omega
theorem names_small : ∀ n, n < 4 → namesB (L8.take n) = true
  | 0, _ => by kernel_rfl
  | 1, _ => by kernel_rfl
  | 2, _ => by kernel_rfl
  | 3, _ => by kernel_rfl
  | n + 4, h => by omega
structure CsV (c : Cs) : Prop where
  tv : TbV (csT c)
  valid : validT (csT c) = 0
  attrs : (csT c).attrs.length = csN c
  rows : (csT c).rows.length = c.r.rows.length
  small : (csT c).rows.length * (csT c).attrs.length ≤ 9
  n4 : csN c < 4
  m4 : c.r.rows.length ≤ 4
  fok : FdsOk (csF c)
  ferr : fdsErr (csT c).attrs.length (csF c) = 0
  flen : (csF c).length ≤ 3
theorem fullN_small : ∀ n, fullN n < 2 ^ n
  | 0 => by simp [fullN]
  | i + 1 => Nat.or_lt_two_pow (n := i + 1) (Nat.lt_trans (fullN_small i) (Nat.pow_lt_pow_right (by omega) (by omega))) (Nat.pow_lt_pow_right (by omega) (by omega))
theorem csV {c : Cs} (h : CsOk c) (hb : csB c = true) : CsV c := by
  obtain ⟨h1, h2⟩ := csN_lt h
  unfold csB at hb
  simp only [Bool.and_eq_true, decide_eq_true_iff] at hb
  obtain ⟨r1, r2, r3⟩ := hb
  have ha : (csT c).attrs.length = csN c := by
    show (L8.take (csN c)).length = _
    rw [List.length_take]
    have : L8.length = 8 := rfl
    omega
  have hr : (csT c).rows.length = c.r.rows.length := wRows_len _ _ _
  obtain ⟨w1, w2⟩ := wide_rows (x := c.r) (n := csN c) h.gap
  have tv : TbV (csT c) := by
    refine ⟨⟨(show (⟨#[114]⟩ : ByteArray).size ≤ maxLen by decide), by omega, by omega, fun s hs => ?_⟩, by omega, by omega, names_small _ h1, (show nameB ⟨#[114]⟩ = true by kernel_rfl), fun r hr => ?_, fun r hr => (w1 r hr).2.2, w2⟩
    · have hs := List.mem_of_mem_take (show s ∈ L8.take (csN c) from hs)
      have : ∀ s ∈ L8, s.size ≤ maxLen := by
        intro s hs
        simp only [L8, List.mem_cons, List.not_mem_nil, or_false] at hs
        rcases hs with rfl | rfl | rfl | rfl | rfl | rfl | rfl | rfl <;> decide
      exact this s hs
    · rw [ha]; exact (w1 r hr).2.1
  refine ⟨tv, tv.validT fun r hr => (w1 r hr).1, ha, hr, by rw [ha, hr]; exact r2, h1, r1, ⟨by simp [csF]; omega, fun d hd => ?_⟩, ?_, by simp [csF]; exact r3⟩
  · obtain ⟨d', hd', rfl⟩ := List.mem_map.1 hd
    have := h.deps d' hd'
    exact ⟨Nat.lt_of_le_of_lt Nat.and_le_left (by omega), Nat.lt_of_le_of_lt Nat.and_le_left (by omega)⟩
  · unfold fdsErr
    rw [if_neg (by simp [csF]; omega), if_pos]
    rw [List.all_eq_true]
    intro d hd
    obtain ⟨d', hd', rfl⟩ := List.mem_map.1 hd
    have hf := fullN_small (csN c)
    simp only [fdOk, fdOf, Bool.and_eq_true, decide_eq_true_iff, ha]
    exact ⟨Nat.lt_of_le_of_lt Nat.and_le_right hf, Nat.lt_of_le_of_lt Nat.and_le_right hf⟩
/-- Lists of cells of the table, in order. -/
structure CellsOk (t : Tb) (l : List Cr) : Prop where
  sorted : sortedC l
  mem : ∀ c ∈ l, c ∈ cellsT t
  len : l.length ≤ 1000000
theorem cellB_in {t : Tb} (_ : TbV t) {c : Cr} : cellB t c = true ↔ c ∈ cellsT t := by
  unfold cellB cellsT hasId
  simp only [Bool.and_eq_true, decide_eq_true_iff, List.any_eq_true, beq_iff_eq, List.mem_map, List.mem_range]
  constructor
  · rintro ⟨⟨r, hr, hid⟩, h1, h2⟩
    obtain ⟨i, hi, rfl⟩ := List.mem_iff_getElem.1 hr
    have ha : c.attr.toNat < t.attrs.length := by omega
    refine ⟨i * t.attrs.length + c.attr.toNat, cell_lt hi ha, ?_⟩
    rw [crAt_at t ha, rwAt_in hi, Cr.eq_iff]
    exact ⟨hid, by simp; omega⟩
  · rintro ⟨x, hx, rfl⟩
    have hn : 0 < t.attrs.length := by
      rcases Nat.eq_zero_or_pos t.attrs.length with h0 | h0
      · rw [h0] at hx; omega
      · exact h0
    have hm : x / t.attrs.length < t.rows.length := by rw [Nat.div_lt_iff_lt_mul hn]; exact hx
    refine ⟨⟨t.rows[x / t.attrs.length], List.getElem_mem hm, ?_⟩, ?_, ?_⟩
    · unfold crAt; rw [rwAt_in hm]
    · unfold crAt; simp only; omega
    · unfold crAt; simp only; have := Nat.mod_lt x hn; omega
theorem chk_ok {t : Tb} {fds : List Fd} {l : List Cr} (hv : TbV t) (h1 : validT t = 0) (h2 : fdsErr t.attrs.length fds = 0) (h3 : t.rows.length * t.attrs.length ≤ 60) (hl : CellsOk t l) : chkE t fds l = 0 := by
  unfold chkE
  rw [if_neg (by simp [h1]), if_neg (by simp [h2]), if_neg (by omega), if_neg (by simp [hl.sorted]), if_pos]
  rw [List.all_eq_true]
  exact fun c hc => (cellB_in hv).2 (hl.mem c hc)
theorem chooseT_ok {t : Tb} (hv : TbV t) (s : Int) : CellsOk t (chooseT t s) := by
  refine ⟨?_, ?_, by have := chTo_len t s (min (t.rows.length * t.attrs.length) 16); unfold chooseT; omega⟩
  · unfold chooseT chTo sortedC
    rw [List.pairwise_map]
    refine List.Pairwise.imp_of_mem ?_ (List.Pairwise.filter _ List.pairwise_lt_range)
    intro i j _ hj hij
    have hj := List.mem_range.1 (List.mem_filter.1 hj).1
    exact hv.cells_lt hij (by omega)
  · intro c hc
    obtain ⟨i, hi, rfl⟩ := List.mem_map.1 hc
    have hi := List.mem_range.1 (List.mem_filter.1 hi).1
    exact mem_cellsT (by omega)
theorem others_ok {t : Tb} (hv : TbV t) (l : List Cr) : CellsOk t (othersT t l) := ⟨hv.sorted_others l, fun c hc => (mem_othersT.1 hc).1, mem_len_others t hv l⟩
/-- The cells that are not among the others are those of the list. -/
theorem others_others {t : Tb} {fds : List Fd} {l : List Cr} : Okq (probT t fds (othersT t (othersT t l))) ↔ Okq (probT t fds l) := okq_congr fun x hx => by
  rw [mem_othersT, mem_othersT]
  have := mem_cellsT hx
  constructor
  · rintro ⟨_, h2⟩
    exact Classical.byContradiction fun h3 => h2 ⟨this, h3⟩
  · intro h; exact ⟨this, fun h2 => h2.2 h⟩
end Go.Proofs.YteijbpppalhihaaGreat
