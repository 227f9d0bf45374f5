/- Spec: what the functions of the packages cluster and drossref54 compute, in plain Lean. No program in sight. -/
namespace Go.Dr

structure P3 where
  i : Int
  k : Int
  x : Int

structure T4 where
  i : Int
  j : Int
  k : Int
  a : Int

instance : Inhabited P3 := ⟨⟨0, 0, 0⟩⟩

def okP (n : Int) (p : P3) : Bool := decide (0 ≤ p.i ∧ p.i < p.k ∧ p.k < n ∧ -1000 ≤ p.x ∧ p.x ≤ 1000)
def key (p : P3) : Int × Int := (p.i, p.k)
def good (n : Int) (ps : List P3) : Bool := ps.all (okP n) && decide ((ps.map key).Nodup)
def valid (n : Int) (ps : List P3) : Int := if n < 0 ∨ 200 < n then 7 else if 20000 < ps.length then 3 else if good n ps then 0 else 1

theorem nodup_snoc {α : Type} (l : List α) (a : α) : (l ++ [a]).Nodup ↔ l.Nodup ∧ a ∉ l := by
  simp only [List.Nodup, List.pairwise_append, List.pairwise_singleton, List.mem_singleton, forall_eq, true_and]
  exact ⟨fun ⟨h1, h2⟩ => ⟨h1, fun h => h2 a h rfl⟩, fun ⟨h1, h2⟩ => ⟨h1, fun b hb e => h2 (e ▸ hb)⟩⟩

theorem good_snoc (n : Int) (l : List P3) (p : P3) : good n (l ++ [p]) = true ↔ good n l = true ∧ okP n p = true ∧ key p ∉ l.map key := by
  simp only [good, List.all_append, List.map_append, List.map_cons, List.map_nil, Bool.and_eq_true, decide_eq_true_eq, List.all_cons, List.all_nil, Bool.and_true]
  rw [nodup_snoc]
  constructor
  · rintro ⟨⟨a, b⟩, c, d⟩; exact ⟨⟨a, c⟩, b, d⟩
  · rintro ⟨⟨a, c⟩, b, d⟩; exact ⟨⟨a, b⟩, c, d⟩

theorem take_snoc {α : Type} {l : List α} {k : Nat} {p : α} (h : l[k]? = some p) : l.take (k + 1) = l.take k ++ [p] := by
  obtain ⟨hk, e⟩ := List.getElem?_eq_some_iff.1 h
  rw [List.take_succ_eq_append_getElem hk, e]

/-- A prefix that is good, followed by a pair that is not fit: the whole is not good. -/
theorem good_take {n : Int} {ps : List P3} (k : Nat) (h : good n ps = true) : good n (ps.take k) = true := by
  simp only [good, Bool.and_eq_true, decide_eq_true_eq, List.all_eq_true] at h ⊢
  exact ⟨fun p hp => h.1 p (List.mem_of_mem_take hp), by rw [List.map_take]; exact h.2.sublist (List.take_sublist _ _)⟩
theorem good_step {n : Int} {ps : List P3} {k : Nat} {p : P3} (hk : ps[k]? = some p) (h : good n (ps.take k) = true) (ho : okP n p = true) (hn : key p ∉ (ps.take k).map key) : good n (ps.take (k + 1)) = true := by
  rw [take_snoc hk]; exact (good_snoc _ _ _).2 ⟨h, ho, hn⟩
theorem good_bad {n : Int} {ps : List P3} {k : Nat} {p : P3} (hk : ps[k]? = some p) (h : okP n p = false ∨ key p ∈ (ps.take k).map key) : good n ps = false := by
  cases hg : good n ps
  · rfl
  · have := good_take (k + 1) hg
    rw [take_snoc hk, good_snoc] at this
    rcases h with h | h
    · rw [this.2.1] at h; cases h
    · exact absurd h this.2.2

def weight : List P3 → Int → Int → Option Int
  | [], _, _ => none
  | p :: r, i, k => if p.i = i ∧ p.k = k then some p.x else weight r i k

def price (x : Int) (t : Bool) : Int := if t then max (-x) 0 else max x 0

end Go.Dr
