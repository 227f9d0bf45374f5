/- Maps: a map's block as an association list over Lean keys: look-up, store, length. The program is a variable. -/
import Derived.Test.YtmjicfafjjgekaaBase
import Derived.Maps.OwnSet
namespace Go.Dr
open Go Go.RowKit

variable {K : Type} [DecidableEq K]

/-- What a map's operations need of the key's type. -/
structure KeyOk (P : Program) (t : TypeId) (enc : K → Value) : Prop where
  check : ∀ (w : World) (em : Bool) (k : K), (Instr.checkKey em 10000 t (enc k)).run P w = .ok () w
  eq : ∀ (w : World) (a b : K), (Op.equal t (enc a) (enc b)).run P w = .ok (decide (a = b)) w
  stays : ∀ (w : World) (k : K), (Instr.keyThatStays (enc k) (enc k)).run P w = .ok (enc k) w

def mfind (k : K) : List (K × Value) → Option Value
  | [] => none
  | p :: r => if k = p.1 then some p.2 else mfind k r
def mput (k : K) (v : Value) : List (K × Value) → List (K × Value)
  | [] => [(k, v)]
  | p :: r => if k = p.1 then (k, v) :: r else p :: mput k v r
/-- Where a key stands. -/
def midx (k : K) : List (K × Value) → Nat → Option (Nat × Value)
  | [], _ => none
  | p :: r, i => if k = p.1 then some (i, p.2) else midx k r (i + 1)

theorem mfind_put_same (k : K) (v : Value) : ∀ l : List (K × Value), mfind k (mput k v l) = some v
  | [] => by simp [mput, mfind]
  | p :: r => by
    by_cases h : k = p.1
    · simp [mput, mfind, h]
    · simp [mput, mfind, h, mfind_put_same k v r]
theorem mfind_put_other {k k' : K} (v : Value) (hne : k' ≠ k) : ∀ l : List (K × Value), mfind k' (mput k v l) = mfind k' l
  | [] => by simp [mput, mfind, hne]
  | p :: r => by
    by_cases h : k = p.1
    · subst h; simp [mput, mfind, hne]
    · simp only [mput, mfind, if_neg h, mfind_put_other v hne r]
theorem midx_find (k : K) : ∀ (l : List (K × Value)) (i : Nat), (midx k l i).map (·.2) = mfind k l
  | [], _ => rfl
  | p :: r, i => by
    by_cases h : k = p.1
    · simp [midx, mfind, h]
    · simp [midx, mfind, h, midx_find k r]
theorem midx_none {k : K} : ∀ {l : List (K × Value)} {i : Nat}, midx k l i = none → ∀ v, mput k v l = l ++ [(k, v)]
  | [], _, _, v => rfl
  | p :: r, i, h, v => by
    by_cases e : k = p.1
    · simp [midx, e] at h
    · simp only [midx, if_neg e] at h
      simp [mput, e, midx_none h v]
theorem midx_some {k : K} : ∀ {l : List (K × Value)} {i : Nat} {r : Nat × Value}, midx k l i = some r → i ≤ r.1 ∧ l[r.1 - i]? = some (k, r.2) ∧ ∀ v, mput k v l = l.set (r.1 - i) (k, v)
  | [], _, _, h => by simp [midx] at h
  | p :: r, i, x, h => by
    by_cases e : k = p.1
    · simp only [midx, if_pos e, Option.some.injEq] at h
      subst h
      refine ⟨Nat.le_refl _, by simp [e], fun v => by simp [mput, e]⟩
    · simp only [midx, if_neg e] at h
      obtain ⟨h1, h2, h3⟩ := midx_some h
      have e1 : x.1 - i = (x.1 - (i + 1)) + 1 := by omega
      refine ⟨by omega, by rw [e1, List.getElem?_cons_succ]; exact h2, fun v => by rw [e1, List.set_cons_succ, ← h3 v]; simp [mput, e]⟩

/-- Block b is a map with these entries. -/
def MapIs (w : World) (b : Nat) (enc : K → Value) (kvs : List (K × Value)) : Prop :=
  ∃ (es : Array MapEntry) (clock : Nat), w.heap[b]? = some (.map es clock) ∧ es.toList.map (fun e => (e.key, e.val)) = kvs.map (fun p => (enc p.1, p.2))

section
variable {w w' : World} {b : Nat} {enc : K → Value} {kvs : List (K × Value)} {P : Program} {t k e : TypeId}
omit [DecidableEq K] in
theorem MapIs.lt (h : MapIs w b enc kvs) : b < w.heap.size := by obtain ⟨es, c, h, _⟩ := h; exact (Array.getElem?_eq_some_iff.1 h).1
omit [DecidableEq K] in
theorem MapIs.keep (h : MapIs w b enc kvs) (hk : w'.heap[b]? = w.heap[b]?) : MapIs w' b enc kvs := by obtain ⟨es, c, h, h'⟩ := h; exact ⟨es, c, hk.trans h, h'⟩
omit [DecidableEq K] in
theorem MapIs.alloc (h : MapIs w b enc kvs) (o : Obj) : MapIs (w.alloc o) b enc kvs := h.keep (Below.heap_alloc w o b h.lt)
omit [DecidableEq K] in
theorem MapIs.drewN (h : MapIs w b enc kvs) (n : Nat) : MapIs (w.drewN n) b enc kvs := h
omit [DecidableEq K] in
theorem MapIs.call (h : MapIs w b enc kvs) (hb : Below w.heap.size w w') : MapIs w' b enc kvs := h.keep (hb.block b h.lt)
omit [DecidableEq K] in
theorem MapIs.setCell (h : MapIs w b enc kvs) {p : Addr} (hp : b ≠ p.block) (u : Value) : MapIs (w.setCell p u) b enc kvs := h.keep (Below.heap_setCell w p u b hp)
omit [DecidableEq K] in
theorem MapIs.grown {row : Option Nat} (h : MapIs w b enc kvs) (hg : w.grownBy w' row) (hr : some b ≠ row) : MapIs w' b enc kvs := h.keep (hg.block b h.lt hr)
omit [DecidableEq K] in
theorem MapIs.made (w : World) (enc : K → Value) : MapIs (w.alloc (.map #[] 0)) w.heap.size enc [] := ⟨#[], 0, heap_alloc_new w _, rfl⟩

theorem find_asking (H : KeyOk P k enc) (w : World) (x : K) : ∀ (es : List MapEntry) (l : List (K × Value)) (i : Nat), es.map (fun e => (e.key, e.val)) = l.map (fun p => (enc p.1, p.2)) →
    (Instr.findAsking k (enc x) es i).run P w = .ok (midx x l i) w
  | [], [], i, _ => by simp [Instr.findAsking, midx]
  | [], _ :: _, _, h => by simp at h
  | _ :: _, [], _, h => by simp at h
  | e :: es, p :: l, i, h => by
    simp only [List.map_cons, List.cons.injEq, Prod.mk.injEq] at h
    obtain ⟨⟨h1, h2⟩, h3⟩ := h
    have ih := find_asking H w x es l (i + 1) h3
    by_cases hx : x = p.1
    · simp [Instr.findAsking, h1, H.eq, hx, midx, h2]
    · simp [Instr.findAsking, h1, H.eq, hx, midx, ih]

/-- How the keys of this type are found: at once, or asking. -/
def FindOk (P : Program) (k : TypeId) (enc : K → Value) : Prop :=
  ∀ (w : World) (x : K) (es : List MapEntry) (l : List (K × Value)), es.map (fun e => (e.key, e.val)) = l.map (fun p => (enc p.1, p.2)) →
    (Instr.findKey k (enc x) es).run P w = .ok (midx x l 0) w

/-- A key type that is asked for by '==' (arrays, structs). -/
theorem find_of_asking (H : KeyOk P k enc) {d : TypeDesc} (hk : P.underlying k = some d) (hnow : ∀ a b, Instr.sameNow d (enc a) (enc b) = none) : FindOk P k enc := by
  intro w x es l h
  cases es with
  | nil =>
    cases l with
    | nil => simp [Instr.findKey, run_underlying hk, Instr.findNow, midx]
    | cons _ _ => simp at h
  | cons e es =>
    cases l with
    | nil => simp at h
    | cons p l =>
      have h1 := find_asking H w x (e :: es) (p :: l) 0 h
      simp only [List.map_cons, List.cons.injEq, Prod.mk.injEq] at h
      simp [Instr.findKey, run_underlying hk, Instr.findNow, h.1.1, hnow, h1]

theorem find_now {d : TypeDesc} (hnow : ∀ a b : K, Instr.sameNow d (enc a) (enc b) = some (decide (a = b))) (x : K) : ∀ (es : List MapEntry) (l : List (K × Value)) (i : Nat),
    es.map (fun e => (e.key, e.val)) = l.map (fun p => (enc p.1, p.2)) → Instr.findNow d (enc x) es i = some (midx x l i)
  | [], [], i, _ => by simp [Instr.findNow, midx]
  | [], _ :: _, _, h => by simp at h
  | _ :: _, [], _, h => by simp at h
  | e :: es, p :: l, i, h => by
    simp only [List.map_cons, List.cons.injEq, Prod.mk.injEq] at h
    obtain ⟨⟨h1, h2⟩, h3⟩ := h
    have ih := find_now hnow x es l (i + 1) h3
    by_cases hx : x = p.1
    · simp [Instr.findNow, h1, hnow, hx, midx, h2]
    · simp [Instr.findNow, h1, hnow, hx, midx, ih]
/-- A key type that is compared at once (integers, strings, bools). -/
theorem find_of_now {d : TypeDesc} (hk : P.underlying k = some d) (hnow : ∀ a b : K, Instr.sameNow d (enc a) (enc b) = some (decide (a = b))) : FindOk P k enc := by
  intro w x es l h
  simp [Instr.findKey, run_underlying hk, find_now hnow x es l 0 h]

/-- 'm[k]' and 'v, ok := m[k]'. -/
theorem MapIs.look (h : MapIs w b enc kvs) (H : KeyOk P k enc) (F : FindOk P k enc) (ht : P.underlying t = some (.map k e)) {z : Value} (hz : (zeroValue e).run P w = .ok z w) (c : Bool) (x : K) :
    (Instr.lookup t (.map (some b)) (enc x) c).run P w = .ok (if c then .tuple #[(mfind x kvs).getD z, .bool (mfind x kvs).isSome] else (mfind x kvs).getD z) w := by
  obtain ⟨es, clock, hb, he⟩ := h
  have hf := F w x es.toList kvs he
  have hm := midx_find x kvs 0
  cases hi : midx x kvs 0 with
  | none =>
    rw [hi] at hm hf
    simp only [Option.map_none] at hm
    simp [Instr.lookup, run_underlying ht, MapKept.run_getObj_map hb, H.check, hf, hz, ← hm, Result.andThen]
  | some r =>
    rw [hi] at hm hf
    simp only [Option.map_some] at hm
    simp [Instr.lookup, run_underlying ht, MapKept.run_getObj_map hb, H.check, hf, ← hm, Result.andThen]

/-- 'm[k] = v'. -/
theorem MapIs.put (h : MapIs w b enc kvs) (H : KeyOk P k enc) (F : FindOk P k enc) (ht : P.underlying t = some (.map k e)) (x : K) (v : Value) :
    ∃ w', (Instr.mapUpdate t (.map (some b)) (enc x) v).run P w = .ok () w' ∧ MapIs w' b enc (mput x v kvs) ∧ w.grownBy w' (some b) ∧ w'.heap.size = w.heap.size := by
  obtain ⟨es, clock, hb, he⟩ := h
  have hf := F w x es.toList kvs he
  have hlt := (Array.getElem?_eq_some_iff.1 hb).1
  have frame : ∀ o : Obj, w.grownBy { w with heap := w.heap.setIfInBounds b o } (some b) := fun o =>
    ⟨rfl, rfl, rfl, by simp, fun k _ hne => by show (w.heap.setIfInBounds b o)[k]? = _; rw [Array.getElem?_setIfInBounds_ne (fun e => hne (by rw [e]))]⟩
  have new : ∀ o : Obj, (w.heap.setIfInBounds b o)[b]? = some o := fun o => by simp [hlt]
  cases hi : midx x kvs 0 with
  | none =>
    rw [hi] at hf
    refine ⟨_, ?_, ⟨es.push ⟨enc x, v, clock⟩, clock + 1, new _, ?_⟩, frame _, by simp⟩
    · simp [Instr.mapUpdate, run_underlying ht, MapKept.run_getObj_map hb, H.check, hf, MapKept.run_setObj_map _ hb, Result.andThen]
    · rw [midx_none hi v]
      simp [he]
  | some r =>
    obtain ⟨_, h2, h3⟩ := midx_some hi
    rw [hi] at hf
    simp only [Nat.sub_zero] at h2 h3
    have hlen : es.toList.length = kvs.length := by have := congrArg List.length he; simpa using this
    have hr : r.1 < kvs.length := (List.getElem?_eq_some_iff.1 h2).1
    have hkey : (es[r.1]?).map (·.key) = some (enc x) := by
      have h5 := congrArg (fun l => (l[r.1]?).map (·.1)) he
      simp only [List.getElem?_map, h2, Option.map_some, Option.map_map] at h5
      rw [← Array.getElem?_toList]
      exact h5
    refine ⟨_, ?_, ⟨es.modify r.1 fun e => { e with key := enc x, val := v }, clock, new _, ?_⟩, frame _, by simp⟩
    · simp [Instr.mapUpdate, run_underlying ht, MapKept.run_getObj_map hb, H.check, hf, hkey, H.stays, MapKept.run_setObj_map _ hb, Result.andThen]
    · rw [h3 v, List.map_set, ← he, Array.toList_modify]
      apply List.ext_getElem?
      intro j
      simp only [List.getElem?_map, List.getElem?_modify, List.getElem?_set, List.length_map]
      by_cases hj : r.1 = j
      · subst hj
        simp [hr, hlen]
      · simp [hj]

omit [DecidableEq K] in
theorem MapIs.size (h : MapIs w b enc kvs) : ∃ es clock, w.heap[b]? = some (.map es clock) ∧ es.size = kvs.length := by
  obtain ⟨es, clock, hb, he⟩ := h
  exact ⟨es, clock, hb, by have := congrArg List.length he; simpa using this⟩
end
end Go.Dr
