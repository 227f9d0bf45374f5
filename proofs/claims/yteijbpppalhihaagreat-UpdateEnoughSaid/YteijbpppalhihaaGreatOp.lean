/- Op: the arguments of the laws of this chapter, opened. Expanded by pp.py. -/
import Derived.Test.YteijbpppalhihaaGreatX4
import Derived.Test.YteijbpppalhihaaGreatAMf
set_option linter.unusedVariables false
set_option linter.unusedSimpArgs false
namespace Go.Proofs.YteijbpppalhihaaGreat
open Go Go.AM
theorem gokN (s : AM.St) : GOk Tryz.prog s := fun g hg => by
  rw [show Tryz.prog.globalNamed "math/bits.deBruijn32tab" = none by kernel_rfl] at hg
  cases hg
theorem cells_ok : ∀ t i, T t = some i → Tryz.prog.cellsOf t = i.size := fun t i hi => by
  obtain ⟨inf, h1, h2, _⟩ := tok.info t i hi
  simp [Program.cellsOf, h1, h2]
theorem list_map {α : Type} {enc : α → V} {p : α → Prop} : ∀ {xs : List V}, (∀ x ∈ xs, ∃ a, x = enc a ∧ p a) → ∃ ys : List α, xs = ys.map enc ∧ ∀ y ∈ ys, p y
  | [], _ => ⟨[], rfl, by simp⟩
  | x :: xs, h => by
    obtain ⟨a, rfl, ha⟩ := h x (by simp)
    obtain ⟨ys, rfl, hy⟩ := list_map (xs := xs) (fun y hy => h y (by simp [hy]))
    exact ⟨a :: ys, rfl, fun y hm => (List.mem_cons.1 hm).elim (fun e => e ▸ ha) (hy y)⟩
theorem sh_u8 {n : Nat} {ws : List V} (h : Sh T (n + 1) 5 ws) : ∃ m : Int, ws = [.int .u8 m] ∧ 0 ≤ m ∧ m ≤ 255 := by
  simp [Sh] at h
  obtain ⟨m, rfl, hm⟩ := h
  refine ⟨m, rfl, ?_⟩
  simp [Lit.wf, IntKind.min, IntKind.max, IntKind.signed, IntKind.bits] at hm
  omega
theorem sh_u16 {n : Nat} {ws : List V} (h : Sh T (n + 1) 28 ws) : ∃ m : Int, ws = [.int .u16 m] ∧ 0 ≤ m ∧ m ≤ 65535 := by
  simp [Sh] at h
  obtain ⟨m, rfl, hm⟩ := h
  refine ⟨m, rfl, ?_⟩
  simp [Lit.wf, IntKind.min, IntKind.max, IntKind.signed, IntKind.bits] at hm
  omega
theorem sh_u32 {n : Nat} {ws : List V} (h : Sh T (n + 1) 44 ws) : ∃ m : Nat, ws = [.int .u32 (m : Int)] ∧ m < 4294967296 := by
  simp [Sh] at h
  obtain ⟨m, rfl, hm⟩ := h
  simp [Lit.wf, IntKind.min, IntKind.max, IntKind.signed, IntKind.bits] at hm
  obtain ⟨k, rfl⟩ := Int.eq_ofNat_of_zero_le (show 0 ≤ m by omega)
  exact ⟨k, rfl, by omega⟩
theorem sh_i64 {n : Nat} {ws : List V} (h : Sh T (n + 1) 2 ws) : ∃ m : Int, ws = [.int .i64 m] := by
  simp [Sh] at h
  obtain ⟨m, rfl, hm⟩ := h
  exact ⟨m, rfl⟩
theorem sh_int {n : Nat} {ws : List V} (h : Sh T (n + 1) 3 ws) : ∃ m : Int, ws = [.int .i64 m] := by
  simp [Sh] at h
  obtain ⟨m, rfl, hm⟩ := h
  exact ⟨m, rfl⟩
theorem sh_str {n : Nat} {ws : List V} (h : Sh T (n + 1) 9 ws) : ∃ s : ByteArray, ws = [.str s] ∧ s.size ≤ maxLen := by
  simp [Sh] at h
  exact h
/-- The parts of a struct. -/
theorem sh_fld {n t : Nat} {i : TI} {fs : Array Field} {sz : Nat} {ws : List V} (h : Sh T (n + 1) t ws) (hT : T t = some i) (hd : i.desc = .struct fs) (hs : i.size = sz) : ws.length = sz ∧ ∀ (k : Nat) f j, fs[k]? = some f → T f.type = some j → Sh T n f.type ((ws.drop f.offset).take j.size) := by
  rw [Sh] at h
  simp only [hT, hd] at h
  refine ⟨by rw [← hs]; exact h.1, fun k f j hk hj => ?_⟩
  obtain ⟨j', h1, h2⟩ := h.2 f (by rw [Array.mem_toList_iff]; exact Array.mem_of_getElem? hk)
  rw [hj] at h1
  cases h1
  exact h2
theorem sh_lst {n t e : Nat} {i j : TI} {ws : List V} (h : Sh T (n + 1) t ws) (hT : T t = some i) (hd : i.desc = .slice e) (hj : T e = some j) : ∃ xs, ws = [.lst j.size false xs] ∧ xs.length ≤ maxLen ∧ ∀ x ∈ xs, ∃ ws, Sh T n e ws ∧ ws.length = j.size ∧ x = (if isAggD j.desc then .agg ws else ws.headD .undef) := by
  rw [Sh] at h
  simp only [hT, hd, hj] at h
  exact h
theorem sh_rows {n : Nat} {ws : List V} (h : Sh T (n + 3) 22 ws) : ∃ rs : List (List Int), ws = [.lst 1 false (rs.map LU)] ∧ rs.length ≤ maxLen ∧ ∀ r ∈ rs, r.length ≤ maxLen := by
  obtain ⟨xs, rfl, hl, hx⟩ := sh_lst h T_22 rfl T_155
  obtain ⟨rs, rfl, hr⟩ : ∃ rs : List (List Int), xs = rs.map LU ∧ ∀ r ∈ rs, r.length ≤ maxLen := list_map fun x hxm => by
    obtain ⟨ws, hs, _, rfl⟩ := hx x hxm
    obtain ⟨ys, rfl, hl2, hy⟩ := sh_lst hs T_155 rfl T_5
    obtain ⟨ns, rfl, _⟩ : ∃ ns : List Int, ys = ns.map encU ∧ ∀ n ∈ ns, True := list_map fun y hym => by
      obtain ⟨ws, hs, _, rfl⟩ := hy y hym
      obtain ⟨m, rfl, _⟩ := sh_u8 hs
      exact ⟨m, by simp [isAggD, encU], trivial⟩
    exact ⟨ns, by simp [isAggD, LU], by simpa using hl2⟩
  exact ⟨rs, rfl, by simpa using hl, hr⟩
theorem sh_deps {n : Nat} {ws : List V} (h : Sh T (n + 3) 25 ws) : ∃ ds : List Fd, ws = [.lst 2 false (ds.map encD)] ∧ ds.length ≤ maxLen ∧ ∀ d ∈ ds, d.l < 256 ∧ d.r < 256 := by
  obtain ⟨xs, rfl, hl, hx⟩ := sh_lst h T_25 rfl T_158
  obtain ⟨ds, rfl, hd⟩ : ∃ ds : List Fd, xs = ds.map encD ∧ ∀ d ∈ ds, d.l < 256 ∧ d.r < 256 := list_map fun x hxm => by
    obtain ⟨ws, hs, _, rfl⟩ := hx x hxm
    obtain ⟨hlen, hf⟩ := sh_fld hs T_158 rfl rfl
    obtain ⟨a, b, rfl⟩ : ∃ a b, ws = [a, b] := by
      match ws, hlen with
      | [a, b], _ => exact ⟨a, b, rfl⟩
    obtain ⟨m, e1, p1, p2⟩ := sh_u8 (hf 0 _ _ rfl T_5)
    obtain ⟨k, e2, q1, q2⟩ := sh_u8 (hf 1 _ _ rfl T_5)
    simp at e1 e2
    subst e1
    subst e2
    refine ⟨⟨m.toNat, k.toNat⟩, ?_, by simp only; omega, by simp only; omega⟩
    simp [isAggD, encD, Int.toNat_of_nonneg p1, Int.toNat_of_nonneg q1]
  exact ⟨ds, rfl, by simpa using hl, hd⟩
theorem sh_recipe {n : Nat} {ws : List V} (h : Sh T (n + 4) 24 ws) : ∃ r : Rcp, ws = [.int .u8 r.a, .int .u8 r.gap, .lst 1 false (r.rows.map LU)] ∧ (0 ≤ r.a ∧ r.a ≤ 255) ∧ 0 ≤ r.gap ∧ r.rows.length ≤ maxLen ∧ ∀ x ∈ r.rows, x.length ≤ maxLen := by
  obtain ⟨hlen, hf⟩ := sh_fld h T_24 rfl rfl
  obtain ⟨a, b, c, rfl⟩ : ∃ a b c, ws = [a, b, c] := by
    match ws, hlen with
    | [a, b, c], _ => exact ⟨a, b, c, rfl⟩
  obtain ⟨m, e1, p1, p2⟩ := sh_u8 (hf 0 _ _ rfl T_5)
  obtain ⟨k, e2, q1, q2⟩ := sh_u8 (hf 1 _ _ rfl T_5)
  obtain ⟨rs, e3, l1, l2⟩ := sh_rows (hf 2 _ _ rfl T_22)
  simp at e1 e2 e3
  subst e1
  subst e2
  subst e3
  exact ⟨⟨m, k, rs⟩, rfl, ⟨p1, p2⟩, q1, l1, l2⟩
theorem sh_case {n : Nat} {ws : List V} (h : Sh T (n + 5) 27 ws) : ∃ c : Cs, .agg ws = encCs false false c ∧ CsOk c := by
  obtain ⟨hlen, hf⟩ := sh_fld h T_27 rfl rfl
  obtain ⟨a, b, c, d, rfl⟩ : ∃ a b c d, ws = [a, b, c, d] := by
    match ws, hlen with
    | [a, b, c, d], _ => exact ⟨a, b, c, d, rfl⟩
  obtain ⟨r, e1, p1, p2, p3, p4⟩ := sh_recipe (hf 0 _ _ rfl T_24)
  obtain ⟨ds, e2, q1, q2⟩ := sh_deps (hf 1 _ _ rfl T_25)
  simp at e1 e2
  obtain ⟨rfl, rfl, rfl⟩ := e1
  subst e2
  exact ⟨⟨r, ds⟩, rfl, ⟨⟨p1.1, by show r.a < 256; omega⟩, p2, p4, p3, q1, q2⟩⟩
theorem agg_rel {w : World} {vs : List V} {us : Array Value} (h : CR w vs us.toList) : Rel (AM.base (fun _ => False) w) (.agg vs) (.agg us) :=
  .agg vs us (by simpa using h.len.symm) h.one (fun i c u hc hu => h.rel i c u hc (by simpa using hu))
end Go.Proofs.YteijbpppalhihaaGreat
