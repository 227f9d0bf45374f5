/- U5: the problem of a table, dependencies and open cells. -/
import Derived.Test.YteijbpppalhihaaGreatV1
import Derived.Test.YteijbpppalhihaaGreatU4
set_option linter.unusedVariables false
set_option linter.unusedSimpArgs false
namespace Go.Proofs.YteijbpppalhihaaGreat
open Go Go.AM
theorem cmpL_zero : ∀ (a b : List UInt8), Lib.compareBytes a b = 0 ↔ a = b
  | [], [] => by simp [Lib.compareBytes]
  | [], _ :: _ => by simp [Lib.compareBytes]
  | _ :: _, [] => by simp [Lib.compareBytes]
  | a :: xs, b :: bs => by
    rw [Lib.compareBytes, List.cons.injEq]
    split
    · rename_i h
      constructor
      · intro h2; cases h2
      · rintro ⟨rfl, _⟩; exact absurd h (UInt8.lt_irrefl _)
    · split
      · rename_i h
        constructor
        · intro h2; cases h2
        · rintro ⟨rfl, _⟩; exact absurd h (UInt8.lt_irrefl _)
      · rename_i h1 h2
        rw [cmpL_zero xs bs]
        constructor
        · intro h; exact ⟨UInt8.le_antisymm (UInt8.not_lt.1 h2) (UInt8.not_lt.1 h1), h⟩
        · exact fun h => h.2
theorem cmpS_zero (a b : ByteArray) : cmpS a b = 0 ↔ a = b := by
  unfold cmpS
  rw [cmpL_zero]
  constructor
  · intro h
    cases a; cases b
    simp only [ByteArray.mk.injEq]
    exact Array.ext' h
  · rintro rfl; rfl
theorem cmpV_zero (a b : Vl) : cmpV a b = 0 ↔ a = b := by
  unfold cmpV
  have h1 := cmpI_eq a.k b.k
  have h2 := cmpI_eq a.n b.n
  have h3 := cmpS_zero a.s b.s
  have he : a = b ↔ a.k = b.k ∧ a.n = b.n ∧ a.s = b.s := by cases a; cases b; simp
  rw [he]
  split
  · rename_i g1
    split
    · rename_i g2
      rw [h3]
      exact ⟨fun h => ⟨h1.1 g1, h2.1 g2, h⟩, fun h => h.2.2⟩
    · rename_i g2
      exact ⟨fun h => absurd h g2, fun h => absurd (h2.2 h.2.1) g2⟩
  · rename_i g1
    exact ⟨fun h => absurd h g1, fun h => absurd (h1.2 h.1) g1⟩
def rwAt (t : Tb) (i : Nat) : Rw := t.rows.getD i ⟨0, []⟩
def crAt (t : Tb) (x : Nat) : Cr := ⟨(rwAt t (x / t.attrs.length)).id, ((x % t.attrs.length : Nat) : Int)⟩
def vAt (vs : List Vl) (a : Nat) : Vl := vs.getD a ⟨0, 0, ByteArray.empty⟩
def vlAt (t : Tb) (x : Nat) : Vl := vAt (rwAt t (x / t.attrs.length)).vals (x % t.attrs.length)
theorem cellDiv {n i a : Nat} (h : a < n) : (i * n + a) / n = i ∧ (i * n + a) % n = a := by
  constructor
  · rw [Nat.mul_comm, Nat.mul_add_div (by omega), Nat.div_eq_of_lt h]; rfl
  · rw [Nat.mul_comm, Nat.mul_add_mod, Nat.mod_eq_of_lt h]
theorem crAt_at (t : Tb) {i a : Nat} (ha : a < t.attrs.length) : crAt t (i * t.attrs.length + a) = ⟨(rwAt t i).id, (a : Int)⟩ := by
  obtain ⟨h1, h2⟩ := cellDiv (i := i) ha
  unfold crAt; rw [h1, h2]
theorem vlAt_at (t : Tb) {i a : Nat} (ha : a < t.attrs.length) : vlAt t (i * t.attrs.length + a) = vAt (rwAt t i).vals a := by
  obtain ⟨h1, h2⟩ := cellDiv (i := i) ha
  unfold vlAt; rw [h1, h2]
theorem rwAt_in {t : Tb} {i : Nat} (h : i < t.rows.length) : rwAt t i = t.rows[i] := by simp [rwAt, h]
theorem vAt_in {vs : List Vl} {i : Nat} (h : i < vs.length) : vAt vs i = vs[i] := by simp [vAt, h]
open Classical in
noncomputable def probT (t : Tb) (fds : List Fd) (cells : List Cr) : Prob := ⟨t.rows.length, t.attrs.length, fun x => if crAt t x ∈ cells then none else some (vlAt t x), fds⟩
theorem probK_in {t : Tb} {fds : List Fd} {l : List Cr} {x : Nat} (h : crAt t x ∈ l) : (probT t fds l).K x = none := by simp only [probT, if_pos h]
theorem probK_out {t : Tb} {fds : List Fd} {l : List Cr} {x : Nat} (h : ¬ crAt t x ∈ l) : (probT t fds l).K x = some (vlAt t x) := by simp only [probT, if_neg h]
open Classical in
noncomputable def okB (q : Prob) : Bool := decide (Okq q)
theorem okB_iff {q : Prob} : okB q = true ↔ Okq q := by unfold okB; simp
theorem okB_true {q : Prob} (h : Okq q) : okB q = true := okB_iff.2 h
theorem okB_false {q : Prob} (h : ¬ Okq q) : okB q = false := by
  cases hb : okB q
  · rfl
  · exact absurd (okB_iff.1 hb) h
theorem okq_mono {t : Tb} {fds : List Fd} {l l' : List Cr} (h : ∀ c ∈ l, c ∈ l') : Okq (probT t fds l) → Okq (probT t fds l') := by
  rintro ⟨σ, hs⟩
  refine ⟨σ, fun x v hx hk => hs.fix x v hx ?_, hs.dep⟩
  unfold probT at hk ⊢
  simp only at hk ⊢
  by_cases h1 : crAt t x ∈ l'
  · rw [if_pos h1] at hk; cases hk
  · rw [if_neg h1] at hk
    rw [if_neg (fun h2 => h1 (h _ h2))]
    exact hk
/-- Only the cells of the table count. -/
theorem okq_congr {t : Tb} {fds : List Fd} {l l' : List Cr} (h : ∀ x, x < t.rows.length * t.attrs.length → (crAt t x ∈ l ↔ crAt t x ∈ l')) : Okq (probT t fds l) ↔ Okq (probT t fds l') := by
  have one : ∀ l l' : List Cr, (∀ x, x < t.rows.length * t.attrs.length → (crAt t x ∈ l ↔ crAt t x ∈ l')) → Okq (probT t fds l) → Okq (probT t fds l') := by
    rintro l l' h ⟨σ, hs⟩
    refine ⟨σ, fun x v hx hk => hs.fix x v hx ?_, hs.dep⟩
    unfold probT at hk ⊢
    simp only at hk ⊢
    rw [← hk]
    by_cases h1 : crAt t x ∈ l
    · rw [if_pos h1, if_pos ((h x hx).1 h1)]
    · rw [if_neg h1, if_neg (fun h2 => h1 ((h x hx).2 h2))]
  exact ⟨one l l' h, one l' l fun x hx => (h x hx).symm⟩
def cellsT (t : Tb) : List Cr := (List.range (t.rows.length * t.attrs.length)).map (crAt t)
open Classical in
noncomputable def othersT (t : Tb) (l : List Cr) : List Cr := (cellsT t).filter fun c => decide (c ∉ l)
theorem mem_cellsT {t : Tb} {x : Nat} (h : x < t.rows.length * t.attrs.length) : crAt t x ∈ cellsT t := List.mem_map.2 ⟨x, by simpa using h, rfl⟩
theorem mem_othersT {t : Tb} {l : List Cr} {c : Cr} : c ∈ othersT t l ↔ c ∈ cellsT t ∧ c ∉ l := by simp [othersT]
/-- All cells but those of a list are not enough. -/
def Nec (t : Tb) (fds : List Fd) (l : List Cr) : Prop := ¬ Okq (probT t fds (othersT t l))
open Classical in
noncomputable def necB (t : Tb) (fds : List Fd) (l : List Cr) : Bool := decide (Nec t fds l)
theorem necB_iff {t : Tb} {fds : List Fd} {l : List Cr} : necB t fds l = true ↔ Nec t fds l := by unfold necB; simp
theorem necB_eq (t : Tb) (fds : List Fd) (l : List Cr) : necB t fds l = !okB (probT t fds (othersT t l)) := by
  unfold necB Nec okB; simp
theorem nec_mono {t : Tb} {fds : List Fd} {l l' : List Cr} (h : ∀ c ∈ l, c ∈ l') (hn : Nec t fds l) : Nec t fds l' := fun ho => hn (okq_mono (fun c hc => by
  rw [mem_othersT] at hc ⊢
  exact ⟨hc.1, fun h2 => hc.2 (h c h2)⟩) ho)
/-- The rows of a valid table. -/
structure TbV (t : Tb) : Prop where
  ok : TbOk t
  attrs : t.attrs.length ≤ 16
  rows : t.rows.length ≤ 1000
  names : namesB t.attrs = true
  name : nameB t.name = true
  len : ∀ r ∈ t.rows, r.vals.length = t.attrs.length
  vals : ∀ r ∈ t.rows, ∀ v ∈ r.vals, validV v = true
  asc : t.rows.Pairwise fun a b => a.id < b.id
theorem rowsErr_zero {n : Nat} : ∀ {rs : List Rw} {last : Int}, rowsErr n last rs = 0 → (∀ r ∈ rs, last < r.id) ∧ (∀ r ∈ rs, r.vals.length = n) ∧ (∀ r ∈ rs, ∀ v ∈ r.vals, validV v = true) ∧ rs.Pairwise fun a b => a.id < b.id
  | [], _, _ => by simp
  | r :: rs, last, h => by
    rw [rowsErr] at h
    split at h
    · cases h
    · rename_i h1
      split at h
      · cases h
      · rename_i h2
        split at h
        · rename_i h3
          obtain ⟨a, b, c, d⟩ := rowsErr_zero h
          refine ⟨?_, ?_, ?_, ?_⟩
          · intro r' hr
            rcases List.mem_cons.1 hr with rfl | hr
            · omega
            · have := a r' hr; omega
          · intro r' hr
            rcases List.mem_cons.1 hr with rfl | hr
            · omega
            · exact b r' hr
          · intro r' hr
            rcases List.mem_cons.1 hr with rfl | hr
            · exact fun v hv => (List.all_eq_true.1 h3) v hv
            · exact c r' hr
          · exact List.pairwise_cons.2 ⟨a, d⟩
        · cases h
theorem tbV_of {t : Tb} (h : TbOk t) (hv : validT t = 0) : TbV t := by
  unfold validT at hv
  split at hv
  · rename_i h1
    split at hv
    · cases hv
    · rename_i h2
      split at hv
      · rename_i h3
        obtain ⟨a, b, c, d⟩ := rowsErr_zero hv
        exact ⟨h, by omega, by omega, h3, h1, b, c, d⟩
      · cases hv
  · cases hv
theorem TbV.row {t : Tb} (h : TbV t) {i : Nat} (hi : i < t.rows.length) : (rwAt t i).vals.length = t.attrs.length := by rw [rwAt_in hi]; exact h.len _ (List.getElem_mem hi)
theorem TbV.ids {t : Tb} (h : TbV t) {i k : Nat} (hik : i < k) (hk : k < t.rows.length) : (rwAt t i).id < (rwAt t k).id := by
  rw [rwAt_in hk, rwAt_in (show i < t.rows.length by omega)]
  exact List.pairwise_iff_getElem.1 h.asc i k (by omega) hk hik
/-- The cells stand in order. -/
theorem TbV.cells_lt {t : Tb} (h : TbV t) {x y : Nat} (hxy : x < y) (hy : y < t.rows.length * t.attrs.length) : cLt (crAt t x) (crAt t y) := by
  have hn : 0 < t.attrs.length := by
    rcases Nat.eq_zero_or_pos t.attrs.length with h0 | h0
    · rw [h0] at hy; omega
    · exact h0
  have e1 := Nat.div_add_mod x t.attrs.length
  have e2 := Nat.div_add_mod y t.attrs.length
  have l1 := Nat.mod_lt x hn
  have l2 := Nat.mod_lt y hn
  have hd : x / t.attrs.length ≤ y / t.attrs.length := Nat.div_le_div_right (by omega)
  have hm : y / t.attrs.length < t.rows.length := by rw [Nat.div_lt_iff_lt_mul hn]; exact hy
  rcases Nat.lt_or_ge (x / t.attrs.length) (y / t.attrs.length) with h1 | h1
  · exact .inl (h.ids h1 hm)
  · have : x / t.attrs.length = y / t.attrs.length := by omega
    unfold cLt crAt
    refine .inr ⟨by rw [this], ?_⟩
    simp only
    rw [this] at e1
    omega
theorem TbV.crAt_inj {t : Tb} (h : TbV t) {x y : Nat} (hx : x < t.rows.length * t.attrs.length) (hy : y < t.rows.length * t.attrs.length) (he : crAt t x = crAt t y) : x = y := by
  rcases Nat.lt_trichotomy x y with h1 | h1 | h1
  · exact absurd (he ▸ h.cells_lt h1 hy) (cLt_irr _)
  · exact h1
  · exact absurd (he ▸ h.cells_lt h1 hx) (cLt_irr _)
theorem TbV.sorted {t : Tb} (h : TbV t) : sortedC (cellsT t) := by
  unfold cellsT sortedC
  rw [List.pairwise_map, List.pairwise_iff_getElem]
  intro i j hi hj hij
  simp only [List.length_range] at hi hj
  rw [List.getElem_range, List.getElem_range]
  exact h.cells_lt hij hj
theorem TbV.sorted_others {t : Tb} (h : TbV t) (l : List Cr) : sortedC (othersT t l) := List.Pairwise.filter _ h.sorted
end Go.Proofs.YteijbpppalhihaaGreat
