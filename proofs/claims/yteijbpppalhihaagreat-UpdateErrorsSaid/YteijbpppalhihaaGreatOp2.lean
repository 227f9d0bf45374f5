/- Op2: tables, dependencies and lists of cells as arguments. Expanded by pp.py. -/
import Derived.Test.YteijbpppalhihaaGreatOp
set_option linter.unusedVariables false
set_option linter.unusedSimpArgs false
namespace Go.Proofs.YteijbpppalhihaaGreat
open Go Go.AM
theorem sh_fds {n : Nat} {ws : List V} (h : Sh T (n + 3) 33 ws) : ∃ ds : List Fd, ws = [LF false ds] ∧ ∀ d ∈ ds, d.l < 4294967296 ∧ d.r < 4294967296 := by
  obtain ⟨xs, rfl, hl, hx⟩ := sh_lst h T_33 rfl T_46
  obtain ⟨ds, rfl, hd⟩ : ∃ ds : List Fd, xs = ds.map encF ∧ ∀ d ∈ ds, d.l < 4294967296 ∧ d.r < 4294967296 := list_map fun x hxm => by
    obtain ⟨ws, hs, _, rfl⟩ := hx x hxm
    obtain ⟨hlen, hf⟩ := sh_fld hs T_46 rfl rfl
    obtain ⟨a, b, rfl⟩ : ∃ a b, ws = [a, b] := by
      match ws, hlen with
      | [a, b], _ => exact ⟨a, b, rfl⟩
    obtain ⟨m, e1, p1⟩ := sh_u32 (hf 0 _ _ rfl T_44)
    obtain ⟨k, e2, q1⟩ := sh_u32 (hf 1 _ _ rfl T_44)
    simp at e1 e2
    subst e1
    subst e2
    exact ⟨⟨m, k⟩, by simp [isAggD, encF], p1, q1⟩
  exact ⟨ds, rfl, hd⟩
theorem sh_cells {n : Nat} {ws : List V} (h : Sh T (n + 3) 37 ws) : ∃ l : List Cr, ws = [LC false l] ∧ True := by
  obtain ⟨xs, rfl, hl, hx⟩ := sh_lst h T_37 rfl T_49
  obtain ⟨l, rfl, _⟩ : ∃ l : List Cr, xs = l.map encCr ∧ ∀ c ∈ l, True := list_map fun x hxm => by
    obtain ⟨ws, hs, _, rfl⟩ := hx x hxm
    obtain ⟨hlen, hf⟩ := sh_fld hs T_49 rfl rfl
    obtain ⟨a, b, rfl⟩ : ∃ a b, ws = [a, b] := by
      match ws, hlen with
      | [a, b], _ => exact ⟨a, b, rfl⟩
    obtain ⟨m, e1⟩ := sh_i64 (hf 0 _ _ rfl T_2)
    obtain ⟨k, e2⟩ := sh_int (hf 1 _ _ rfl T_3)
    simp at e1 e2
    subst e1
    subst e2
    exact ⟨⟨m, k⟩, by simp [isAggD, encCr], trivial⟩
  exact ⟨l, rfl, trivial⟩
theorem sh_vals {n : Nat} {ws : List V} (h : Sh T (n + 3) 64 ws) : ∃ vs : List Vl, ws = [LV false vs] ∧ True := by
  obtain ⟨xs, rfl, hl, hx⟩ := sh_lst h T_64 rfl T_68
  obtain ⟨l, rfl, _⟩ : ∃ l : List Vl, xs = l.map encV ∧ ∀ c ∈ l, True := list_map fun x hxm => by
    obtain ⟨ws, hs, _, rfl⟩ := hx x hxm
    obtain ⟨hlen, hf⟩ := sh_fld hs T_68 rfl rfl
    obtain ⟨a, b, c, rfl⟩ : ∃ a b c, ws = [a, b, c] := by
      match ws, hlen with
      | [a, b, c], _ => exact ⟨a, b, c, rfl⟩
    obtain ⟨m, e1⟩ := sh_int (hf 0 _ _ rfl T_3)
    obtain ⟨k, e2⟩ := sh_i64 (hf 1 _ _ rfl T_2)
    obtain ⟨s, e3, _⟩ := sh_str (hf 2 _ _ rfl T_9)
    simp at e1 e2 e3
    subst e1
    subst e2
    subst e3
    exact ⟨⟨m, k, s⟩, by simp [isAggD, encV], trivial⟩
  exact ⟨l, rfl, trivial⟩
theorem sh_trows {n : Nat} {ws : List V} (h : Sh T (n + 5) 30 ws) : ∃ rs : List Rw, ws = [LR false rs] ∧ True := by
  obtain ⟨xs, rfl, hl, hx⟩ := sh_lst h T_30 rfl T_66
  obtain ⟨l, rfl, _⟩ : ∃ l : List Rw, xs = l.map encRw ∧ ∀ c ∈ l, True := list_map fun x hxm => by
    obtain ⟨ws, hs, _, rfl⟩ := hx x hxm
    obtain ⟨hlen, hf⟩ := sh_fld hs T_66 rfl rfl
    obtain ⟨a, b, rfl⟩ : ∃ a b, ws = [a, b] := by
      match ws, hlen with
      | [a, b], _ => exact ⟨a, b, rfl⟩
    obtain ⟨m, e1⟩ := sh_i64 (hf 0 _ _ rfl T_2)
    obtain ⟨vs, e2, _⟩ := sh_vals (hf 1 _ _ rfl T_64)
    simp at e1 e2
    subst e1
    subst e2
    exact ⟨⟨m, vs⟩, by simp [isAggD, encRw], trivial⟩
  exact ⟨l, rfl, trivial⟩
theorem sh_strs {n : Nat} {ws : List V} (h : Sh T (n + 2) 29 ws) : ∃ ss : List ByteArray, ws = [LS false ss] ∧ ∀ s ∈ ss, s.size ≤ maxLen := by
  obtain ⟨xs, rfl, hl, hx⟩ := sh_lst h T_29 rfl T_9
  obtain ⟨l, rfl, hs⟩ : ∃ l : List ByteArray, xs = l.map V.str ∧ ∀ c ∈ l, c.size ≤ maxLen := list_map fun x hxm => by
    obtain ⟨ws, hs, _, rfl⟩ := hx x hxm
    obtain ⟨s, e1, h1⟩ := sh_str hs
    subst e1
    exact ⟨s, by simp [isAggD], h1⟩
  exact ⟨l, rfl, hs⟩
theorem sh_table {n : Nat} {ws : List V} (h : Sh T (n + 6) 32 ws) : ∃ t : Tb, .agg ws = encTb false false t ∧ t.name.size ≤ maxLen ∧ ∀ s ∈ t.attrs, s.size ≤ maxLen := by
  obtain ⟨hlen, hf⟩ := sh_fld h T_32 rfl rfl
  obtain ⟨a, b, c, rfl⟩ : ∃ a b c, ws = [a, b, c] := by
    match ws, hlen with
    | [a, b, c], _ => exact ⟨a, b, c, rfl⟩
  obtain ⟨s, e1, p1⟩ := sh_str (hf 0 _ _ rfl T_9)
  obtain ⟨ss, e2, p2⟩ := sh_strs (hf 1 _ _ rfl T_29)
  obtain ⟨rs, e3, _⟩ := sh_trows (hf 2 _ _ rfl T_30)
  simp at e1 e2 e3
  subst e1
  subst e2
  subst e3
  exact ⟨⟨s, ss, rs⟩, rfl, p1, p2⟩
end Go.Proofs.YteijbpppalhihaaGreat
