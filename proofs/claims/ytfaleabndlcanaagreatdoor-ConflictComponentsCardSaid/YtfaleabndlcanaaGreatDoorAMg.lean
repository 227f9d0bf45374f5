import Derived.Test.YtfaleabndlcanaaGreatDoorAMf
import Derived.Deep.Slices
/- Opn: what comes in from outside, as a value of the abstract machine. -/
namespace Go.AM
open Go Go.Deep

/-- The fields lie one behind the other. -/
def layB (T : Ty) (tot : Nat) : Nat → List Field → Bool
  | off, [] => off == tot
  | off, f :: r => match T f.type with
    | some j => f.offset == off && layB T tot (off + j.size) r
    | none => false
/-- Types of plain data. -/
def ShOk (T : Ty) : Nat → TypeId → Bool
  | 0, _ => false
  | n + 1, t => match T t with
    | none => false
    | some i => match i.desc with
      | .bool | .int _ | .string => true
      | .slice e => match T e with
        | some j => decide (0 < j.size) && (isAggD j.desc || j.size == 1) && ShOk T n e
        | none => false
      | .struct fs => layB T i.size 0 fs.toList && fs.toList.all fun f => ShOk T n f.type
      | _ => false
/-- The cells of a value of a type. -/
def Sh (T : Ty) : Nat → TypeId → List V → Prop
  | 0, _, _ => False
  | n + 1, t, vs => match T t with
    | none => False
    | some i => match i.desc with
      | .bool => ∃ b, vs = [.bool b]
      | .int k => ∃ m, vs = [.int k m] ∧ (Lit.int k m).wf = true
      | .string => ∃ s, vs = [.str s] ∧ s.size ≤ maxLen
      | .slice e => match T e with
        | some j => ∃ xs, vs = [.lst j.size false xs] ∧ xs.length ≤ maxLen ∧ ∀ x ∈ xs, ∃ ws, Sh T n e ws ∧ ws.length = j.size ∧ x = (if isAggD j.desc then .agg ws else ws.headD .undef)
        | none => False
      | .struct fs => vs.length = i.size ∧ ∀ f ∈ fs.toList, ∃ j, T f.type = some j ∧ Sh T n f.type ((vs.drop f.offset).take j.size)
      | _ => False
structure CR (w : World) (vs : List V) (cs : List Value) : Prop where
  len : vs.length = cs.length
  one : ∀ v ∈ vs, v.one = true
  rel : ∀ (i : Nat) v c, vs[i]? = some v → cs[i]? = some c → Rel (base (fun _ => False) w) v c
theorem CR.append {w : World} {vs ws : List V} {cs ds : List Value} (h : CR w vs cs) (g : CR w ws ds) : CR w (vs ++ ws) (cs ++ ds) where
  len := by simp [h.len, g.len]
  one v hv := by rcases List.mem_append.1 hv with hv | hv; exact h.one v hv; exact g.one v hv
  rel i v c hv hc := by
    by_cases hi : i < vs.length
    · rw [List.getElem?_append_left hi] at hv
      rw [List.getElem?_append_left (by rw [← h.len]; exact hi)] at hc
      exact h.rel i v c hv hc
    · rw [List.getElem?_append_right (by omega)] at hv
      rw [List.getElem?_append_right (by rw [← h.len]; omega), ← h.len] at hc
      exact g.rel _ v c hv hc
theorem CR.single {w : World} {v : V} {c : Value} (h : Rel (base (fun _ => False) w) v c) (h1 : v.one = true) : CR w [v] [c] where
  len := rfl
  one x hx := by simp at hx; subst hx; exact h1
  rel i x d hx hd := by
    have : i = 0 := by have := getElem?_lt hx; simpa using this
    subst this
    simp at hx hd
    subst hx; subst hd
    exact h
theorem one_cells {v : V} (h : v.one = true) : v.cells = [v] := by cases v <;> first | rfl | simp [V.one] at h

theorem spot_cell {w : World} {a : Addr} {v : Value} (h : w.cell? a = some v) : a.spot = none := by
  unfold World.cell? at h
  split at h
  · split at h
    · cases h
    · rename_i hs; simpa using hs
  · cases h
theorem addr_at {a : Addr} {n : Nat} (hs : a.spot = none) : a.add n = ⟨a.block, a.off + n, none⟩ := by
  unfold Addr.add
  split
  · rename_i h; subst h; cases a; simp_all
  · rfl

section
variable {P : Program} {T : Ty} {Hd : Type} {enc : TypeId × Value → Hd} {w : World} {held : Bool}

theorem opn_fields {n tot : Nat} {cs : List Value} (hlen : cs.length = tot) : ∀ (l : List Field) (off : Nat), layB T tot off l = true → off ≤ tot →
    (∀ f ∈ l, ∀ j, T f.type = some j → ∃ vs, CR w vs ((cs.drop f.offset).take j.size) ∧ Sh T n f.type vs) →
    ∃ vs, CR w vs (cs.drop off) ∧ ∀ f ∈ l, ∃ j, T f.type = some j ∧ off ≤ f.offset ∧ Sh T n f.type ((vs.drop (f.offset - off)).take j.size)
  | [], off, h, hle, _ => by
    simp only [layB, beq_iff_eq] at h
    refine ⟨[], ⟨by simp; omega, by simp, by simp⟩, by simp⟩
  | f :: r, off, h, hle, hf => by
    simp only [layB] at h
    split at h
    · rename_i j hj
      simp only [Bool.and_eq_true, beq_iff_eq] at h
      obtain ⟨hoff, h⟩ := h
      have hle2 : off + j.size ≤ tot := lay_le r _ h
      obtain ⟨vs, hcr, hsh⟩ := hf f (by simp) j hj
      obtain ⟨ws, hcr2, hws⟩ := opn_fields hlen r (off + j.size) h hle2 (fun g hg => hf g (by simp [hg]))
      have hvl : vs.length = j.size := by rw [hcr.len, hoff, List.length_take, List.length_drop]; omega
      refine ⟨vs ++ ws, ?_, fun g hg => ?_⟩
      · have := hcr.append hcr2
        rwa [hoff, ← List.drop_drop, List.take_append_drop] at this
      · rcases List.mem_cons.1 hg with rfl | hg
        · refine ⟨j, hj, by omega, ?_⟩
          rw [hoff, Nat.sub_self, List.drop_zero, List.take_append_of_le_length (by omega), List.take_of_length_le (by omega)]
          exact hsh
        · obtain ⟨j2, hj2, hle3, hs2⟩ := hws g hg
          refine ⟨j2, hj2, by omega, ?_⟩
          rw [List.drop_append, List.drop_of_length_le (by omega), List.nil_append, hvl, show g.offset - off - j.size = g.offset - (off + j.size) by omega]
          exact hs2
    · cases h
where
  lay_le {tot : Nat} : ∀ (l : List Field) (off : Nat), layB T tot off l = true → off ≤ tot
    | [], off, h => by simp only [layB, beq_iff_eq] at h; omega
    | f :: r, off, h => by
      simp only [layB] at h
      split at h
      · simp only [Bool.and_eq_true] at h
        have := lay_le r _ h.2
        omega
      · cases h

theorem opn (hT : TOk P T) (hc : ∀ t i, T t = some i → P.cellsOf t = i.size) : ∀ (n fuel : Nat) (t : TypeId) (cs : List Value) (x : DataW Hd × List MemPlace), ShOk T n t = true → DataW.trod enc P w 0 (fun _ => true) held fuel t cs = some x → ∃ vs, CR w vs cs ∧ Sh T n t vs
  | 0, _, _, _, _, h, _ => by simp [ShOk] at h
  | n + 1, fuel, t, cs, x, h, ht => by
    simp only [ShOk] at h
    split at h
    · cases h
    · rename_i i hi
      have hu := hT.und t i hi
      have hcell := hc t i hi
      split at h
      · rename_i hd
        rw [hd] at hu
        cases fuel with
        | zero => simp [DataW.trod] at ht
        | succ m =>
          unfold DataW.trod at ht
          rw [hu] at ht
          split at ht <;> simp_all
          exact ⟨_, CR.single (.bool _) rfl, by simp [Sh, hi, hd]⟩
      · rename_i k hd
        rw [hd] at hu
        cases fuel with
        | zero => simp [DataW.trod] at ht
        | succ m =>
          unfold DataW.trod at ht
          rw [hu] at ht
          split at ht <;> simp_all
          exact ⟨_, CR.single (.int _ _) rfl, by simp [Sh, *]⟩
      · rename_i hd
        rw [hd] at hu
        cases fuel with
        | zero => simp [DataW.trod] at ht
        | succ m =>
          unfold DataW.trod at ht
          rw [hu] at ht
          split at ht <;> simp_all
          exact ⟨_, CR.single (.str _) rfl, by simp [Sh, *]⟩
      · rename_i e hd
        rw [hd] at hu
        split at h
        · rename_i j hj
          simp only [Bool.and_eq_true, decide_eq_true_eq, Bool.or_eq_true, beq_iff_eq] at h
          obtain ⟨⟨hz, hag⟩, hok⟩ := h
          rcases open_slice hu ht with ⟨rfl, _⟩ | ⟨a, len, cap, m, q, D, Pl, rfl, _, hle, hcap, hm, _, hel⟩
          · exact ⟨[.lst j.size false []], CR.single (rel_empty _ false _ _ (by simp)) rfl, by simp only [Sh, hi, hd, hj]; exact ⟨[], rfl, by simp, by simp⟩⟩
          · simp only [if_true] at hm
            subst hm
            rw [hc e j hj] at hel
            have hex : ∀ i, i < len → ∃ ws : List V, Sh T n e ws ∧ ws.length = j.size ∧ (∀ v ∈ ws, v.one = true) ∧ ∀ (l : Nat) v, ws[l]? = some v → ∃ c, w.cell? (a.add (i * j.size + l)) = some c ∧ Rel (base (fun _ => False) w) v c := fun i hil => by
              obtain ⟨cs', h1, h2⟩ := hel i (by omega)
              obtain ⟨ws, hcr, hsh⟩ := opn hT hc n q e cs' _ hok h2
              obtain ⟨_, hcl, hat⟩ := World.cells?_some h1
              refine ⟨ws, hsh, by rw [hcr.len, hcl], hcr.one, fun l v hv => ?_⟩
              have hl : l < j.size := by have := getElem?_lt hv; rw [hcr.len, hcl] at this; exact this
              have hcv : cs'[l]? = some (cs'[l]'(by omega)) := List.getElem?_eq_getElem (by omega)
              have := hat l hl
              rw [hcv, add_add] at this
              exact ⟨_, this, hcr.rel l v _ hv hcv⟩
            obtain ⟨W, hW⟩ := choose_lt hex
            obtain ⟨xs, hxs⟩ : ∃ xs : List V, xs = (List.range len).map fun i => (if isAggD j.desc then V.agg (W i) else (W i).headD .undef) := ⟨_, rfl⟩
            have hxl : xs.length = len := by simp [hxs]
            have hxat : ∀ (i : Nat) y, xs[i]? = some y → i < len ∧ y = (if isAggD j.desc then V.agg (W i) else (W i).headD .undef) ∧ y.cells = W i := fun i y hy => by
              have hil : i < len := by have := getElem?_lt hy; omega
              rw [hxs, List.getElem?_map, List.getElem?_range hil] at hy
              simp only [Option.map_some, Option.some.injEq] at hy
              obtain ⟨_, hwl, hw1, _⟩ := hW i hil
              refine ⟨hil, hy.symm, ?_⟩
              rw [← hy]
              split
              · rfl
              · rename_i hna
                have hz1 : j.size = 1 := by rcases hag with h | h; exact absurd h hna; exact h
                obtain ⟨v, hv⟩ := List.length_eq_one_iff.1 (hwl.trans hz1)
                rw [hv]
                exact one_cells (hw1 v (by rw [hv]; simp))
            have hsh : ∀ y ∈ xs, ∃ ws, Sh T n e ws ∧ ws.length = j.size ∧ y = (if isAggD j.desc then V.agg ws else ws.headD .undef) := fun y hy => by
              obtain ⟨i, hi'⟩ := List.mem_iff_getElem?.1 hy
              obtain ⟨hil, hye, _⟩ := hxat i y hi'
              exact ⟨W i, (hW i hil).1, (hW i hil).2.1, hye⟩
            refine ⟨[.lst j.size false xs], CR.single ?_ rfl, by simp only [Sh, hi, hd, hj]; exact ⟨xs, rfl, by omega, hsh⟩⟩
            · have hspot : 0 < len → a.spot = none ∧ a.block < w.heap.size := fun h0 => by
                obtain ⟨_, hwl, _, hcv⟩ := hW 0 h0
                obtain ⟨c, hcc, _⟩ := hcv 0 (W 0)[0] (List.getElem?_eq_getElem (by omega))
                simp only [Nat.zero_mul, Nat.add_zero] at hcc
                have hb := World.block_lt_of_cell? w _ hcc
                have hs := spot_cell hcc
                simpa [Addr.add] using And.intro hs hb
              have := Rel.lst (s := base (fun _ => False) w) j.size false xs (some a) m a.block a.off (fun i l => (w.cell? ⟨a.block, a.off + i * j.size + l, none⟩).getD undef) (by omega) (by simp) (fun h0 => by
                  obtain ⟨h1, h2⟩ := hspot (by omega)
                  exact ⟨by cases a; simp_all, h2, fun h => h, fun k hk => by have := hk.1; simp [base] at this⟩)
                (fun y hy => by
                  obtain ⟨i, hi'⟩ := List.mem_iff_getElem?.1 hy
                  obtain ⟨hil, _, hyc⟩ := hxat i y hi'
                  rw [hyc]
                  exact ⟨(hW i hil).2.1, (hW i hil).2.2.1⟩)
                (fun i y l c hy hcc => by
                  obtain ⟨hil, _, hyc⟩ := hxat i y hy
                  rw [hyc] at hcc
                  obtain ⟨u, hu1, _⟩ := (hW i hil).2.2.2 l c hcc
                  rw [addr_at (hspot (by omega)).1, ← Nat.add_assoc] at hu1
                  show w.cell? _ = _
                  rw [hu1]; rfl)
                (fun i y l c hy hcc => by
                  obtain ⟨hil, _, hyc⟩ := hxat i y hy
                  rw [hyc] at hcc
                  obtain ⟨u, hu1, hu2⟩ := (hW i hil).2.2.2 l c hcc
                  rw [addr_at (hspot (by omega)).1, ← Nat.add_assoc] at hu1
                  rw [hu1]
                  exact hu2)
              rwa [hxl] at this
        · cases h
      · rename_i fs hd
        rw [hd] at hu
        simp only [Bool.and_eq_true, List.all_eq_true] at h
        obtain ⟨xs, q, _, _, hlen, hxl, hf⟩ := DataW.trod_struct hu ht
        rw [hcell] at hlen
        obtain ⟨vs, hcr, hvs⟩ := opn_fields (T := T) (w := w) (n := n) hlen fs.toList 0 h.1 (Nat.zero_le _) (fun f hfm j hj => by
          obtain ⟨k, hk⟩ := List.mem_iff_getElem?.1 hfm
          have hk' : fs[k]? = some f := by simpa using hk
          have h1 := hf k f hk'
          have hkl : k < xs.length := by rw [hxl]; exact (Array.getElem?_eq_some_iff.1 hk').1
          rw [List.getElem?_eq_getElem hkl, hc f.type j hj] at h1
          exact opn hT hc n q f.type _ _ (h.2 f hfm) h1)
        rw [List.drop_zero] at hcr
        refine ⟨vs, hcr, ?_⟩
        simp only [Sh, hi, hd]
        refine ⟨by rw [hcr.len, hlen], fun f hfm => ?_⟩
        obtain ⟨j, hj, _, hs⟩ := hvs f hfm
        exact ⟨j, hj, by simpa using hs⟩
      · cases h
end
end Go.AM
