import Derived.Test.YtfaleabndlcanaaGreatDoorAMg
/- Lend: nil lists as empty lists; buffers lent to a callee. -/
namespace Go.AM
open Go

/-- The second says less: a nil list is an empty one. -/
inductive Le : V → V → Prop
  | refl (v : V) : Le v v
  | nil (z : Nat) (f : Bool) : Le .nilS (.lst z f [])
  | agg (cs ds : List V) (hl : cs.length = ds.length) (h : ∀ (i : Nat) c d, cs[i]? = some c → ds[i]? = some d → Le c d) : Le (.agg cs) (.agg ds)
  | tup (cs ds : List V) (hl : cs.length = ds.length) (h : ∀ (i : Nat) c d, cs[i]? = some c → ds[i]? = some d → Le c d) : Le (.tup cs) (.tup ds)
theorem Le.one {a b : V} (h : Le a b) (h1 : a.one = true) : b.one = true := by
  cases h with
  | refl => exact h1
  | nil => rfl
  | agg => simp [V.one] at h1
  | tup => simp [V.one] at h1
theorem Le.rel {s : St} {a b : V} (h : Le a b) : ∀ {u : Value}, Rel s a u → Rel s b u := by
  induction h with
  | refl v => exact fun h => h
  | nil z f => intro u h; cases h; exact rel_empty z f none 0 (fun _ => rfl)
  | agg cs ds hl hh ih =>
    intro u h
    cases h with
    | agg _ us h1 h2 h3 =>
      refine .agg ds us (by omega) (fun d hd => ?_) (fun i d u hd hu => ?_)
      · obtain ⟨i, hi⟩ := List.mem_iff_getElem?.1 hd
        have hc : cs[i]? = some (cs[i]'(by have := getElem?_lt hi; omega)) := List.getElem?_eq_getElem _
        exact (hh i _ d hc hi).one (h2 _ (List.mem_of_getElem? hc))
      · have hc : cs[i]? = some (cs[i]'(by have := getElem?_lt hd; omega)) := List.getElem?_eq_getElem _
        exact ih i _ d hc hd (h3 i _ u hc hu)
  | tup cs ds hl hh ih =>
    intro u h
    cases h with
    | tup _ us h1 h3 =>
      refine .tup ds us (by omega) (fun i d u hd hu => ?_)
      have hc : cs[i]? = some (cs[i]'(by have := getElem?_lt hd; omega)) := List.getElem?_eq_getElem _
      exact ih i _ d hc hd (h3 i _ u hc hu)

section
variable {P : Program} {T : Ty}
theorem conP_args {f : FuncId} {args args' : List V} {K : V → Prop} (h : ConP P f args' K) (hl : args.length = args'.length) (hle : ∀ (i : Nat) a b, args[i]? = some a → args'[i]? = some b → Le a b) : ConP P f args K := by
  refine ⟨h.1, fun F w vals hZ hF hsz hrel => h.2 F w vals hZ hF (by omega) (fun i b u hb hu => ?_)⟩
  have ha : args[i]? = some (args[i]'(by have := getElem?_lt hb; omega)) := List.getElem?_eq_getElem _
  exact (hle i _ b ha hb).rel (hrel i _ u ha hu)
theorem conP_res {f : FuncId} {args : List V} {v v' : V} (h : ConP P f args fun r => r = v) (hle : Le v v') (hp : Pure v') : ConP P f args fun r => r = v' := by
  refine ⟨h.1, fun F w vals hZ hF hsz hrel => (h.2 F w vals hZ hF hsz hrel).mono fun e w' ⟨u, r, a1, a2, a3, a4, a5⟩ => ?_⟩
  subst a5
  exact ⟨u, v', a1, hp, hle.rel a3, a4, rfl⟩
/-- A call with lists that are lent; the result is a scalar. -/
theorem callX {f : FuncId} {args args' : List V} {H : List B} {v : V} (h : ConP P f args' fun r => r = v) (hl : args.length = args'.length) (he : ∀ (i : Nat) a a', args[i]? = some a → args'[i]? = some a' → Exp H a a') (hs : Scalar v) :
    WCall P (.fn f []) args H fun r H' => r = v ∧ H' = H := by
  simp only [WCall, List.append_nil]
  exact (conH_of_conP h hl he (.inr fun r hr => by subst hr; exact hs)).mono fun r H' ⟨h1, _, h3⟩ => ⟨h3, h1⟩
end
/-- A list of numbers that grows from nil: its value and its block. -/
def accV (k : Nat) (out : List V) : V := if out.isEmpty then .nilS else .buf k 0 out.length out.length
def accH (H : List B) (e z : Nat) (out : List V) : List B := if out.isEmpty then H else H ++ [.buf e z out false]
end Go.AM

/- Pap: lists that a call of append makes anew and that nobody writes again, as values. -/
namespace Go.AM
open Go

theorem exL_pure {f : Nat → V → Option V} : ∀ {xs : List V}, (∀ x ∈ xs, ∃ d0, ∀ d, d0 ≤ d → f d x = some x) → ∃ d0, ∀ d, d0 ≤ d → exL (f d) xs = some xs
  | [], _ => ⟨0, fun _ _ => rfl⟩
  | x :: xs, h => by
    obtain ⟨d1, h1⟩ := h x (by simp)
    obtain ⟨d2, h2⟩ := exL_pure (xs := xs) (fun y hy => h y (by simp [hy]))
    exact ⟨max d1 d2, fun d hd => by simp only [exL, h1 d (by omega), h2 d (by omega)]⟩
theorem exV_pure {H : List B} {n : Nat} {v : V} (h : Pure v) : ∃ d0, ∀ d, d0 ≤ d → exV H n d v = some v := by
  induction h with
  | bool b => exact ⟨1, fun d hd => by obtain ⟨k, rfl⟩ : ∃ k, d = k + 1 := ⟨d - 1, by omega⟩; rfl⟩
  | int k m => exact ⟨1, fun d hd => by obtain ⟨k, rfl⟩ : ∃ k, d = k + 1 := ⟨d - 1, by omega⟩; rfl⟩
  | str x => exact ⟨1, fun d hd => by obtain ⟨k, rfl⟩ : ∃ k, d = k + 1 := ⟨d - 1, by omega⟩; rfl⟩
  | nilS => exact ⟨1, fun d hd => by obtain ⟨k, rfl⟩ : ∃ k, d = k + 1 := ⟨d - 1, by omega⟩; rfl⟩
  | nilP => exact ⟨1, fun d hd => by obtain ⟨k, rfl⟩ : ∃ k, d = k + 1 := ⟨d - 1, by omega⟩; rfl⟩
  | nilM => exact ⟨1, fun d hd => by obtain ⟨k, rfl⟩ : ∃ k, d = k + 1 := ⟨d - 1, by omega⟩; rfl⟩
  | nilFn => exact ⟨1, fun d hd => by obtain ⟨k, rfl⟩ : ∃ k, d = k + 1 := ⟨d - 1, by omega⟩; rfl⟩
  | fn f => exact ⟨1, fun d hd => by obtain ⟨k, rfl⟩ : ∃ k, d = k + 1 := ⟨d - 1, by omega⟩; rfl⟩
  | lst z f xs hx ih =>
    obtain ⟨d0, h0⟩ := exL_pure (f := exV H n) ih
    exact ⟨d0 + 1, fun d hd => by obtain ⟨k, rfl⟩ : ∃ k, d = k + 1 := ⟨d - 1, by omega⟩; simp only [exV, h0 k (by omega)]⟩
  | pin cs o hx ih =>
    obtain ⟨d0, h0⟩ := exL_pure (f := exV H n) ih
    exact ⟨d0 + 1, fun d hd => by obtain ⟨k, rfl⟩ : ∃ k, d = k + 1 := ⟨d - 1, by omega⟩; simp only [exV, h0 k (by omega)]⟩
  | agg cs hx ih =>
    obtain ⟨d0, h0⟩ := exL_pure (f := exV H n) ih
    exact ⟨d0 + 1, fun d hd => by obtain ⟨k, rfl⟩ : ∃ k, d = k + 1 := ⟨d - 1, by omega⟩; simp only [exV, h0 k (by omega)]⟩
  | tup cs hx ih =>
    obtain ⟨d0, h0⟩ := exL_pure (f := exV H n) ih
    exact ⟨d0 + 1, fun d hd => by obtain ⟨k, rfl⟩ : ∃ k, d = k + 1 := ⟨d - 1, by omega⟩; simp only [exV, h0 k (by omega)]⟩

section
variable {P : Program} {T : Ty} {s : St}
/-- The result of an append that makes a new block: as a value. -/
theorem append_pure (hT : TOk P T) (hg : Good s) {t tx ty : TypeId} {x y : V} {ux uy : Value} {e z l : Nat} {xs : List V} (hx : Rel s x ux) (hy : Rel s y uy) (hp : ∀ v ∈ xs, Pure v)
    (h : appendA T s.H t tx x y = some (.buf s.H.length 0 l l, s.H ++ [.buf e z xs false])) (hl : l = xs.length) :
    ∃ u s', (Builtin.append_ #[t, tx] ty #[ux, uy]).run P s.w = .ok u s'.w ∧ s'.H = s.H ∧ Good s' ∧ Step s s' ∧ Rel s' (.lst z false xs) u := by
  obtain ⟨u, s', k1, k2, k3, k4, k5⟩ := append_sound (P := P) (ty := ty) hT hg hx hy h
  obtain ⟨d0, h0⟩ := exL_pure (f := exV s'.H s.H.length) (fun v hv => exV_pure (hp v hv))
  have he : exV s'.H s.H.length (d0 + 1) (.buf s.H.length 0 l l) = some (.lst z false xs) := by
    simp only [exV, Nat.lt_irrefl, if_false]
    rw [k2, List.getElem?_append_right (Nat.le_refl _), Nat.sub_self]
    simp only [List.getElem?_cons_zero]
    rw [if_pos ⟨hl, by omega⟩, hl, List.drop_zero, List.take_length, ← k2, h0 d0 (Nat.le_refl _)]
  refine ⟨u, s'.cut s.H, k1, rfl, cut_good2 k3 k2 hg.cl, cut_step k3 k2 (Step.refl _) s k4 (Nat.le_refl _), ex_rel k3 k2 (d0 + 1) _ _ u k5 he⟩
end
end Go.AM

/- Own: a nil list as an own list of no capacity; a buffer that nobody writes again as a list. -/
namespace Go.AM
open Go

/-- The second has, for some nil lists, the own list k. -/
def OwnF (k : Nat) : List V → List V → Prop
  | [], [] => True
  | x :: xs, y :: ys => (y = x ∨ (x = .nilS ∧ y = .buf k 0 0 0)) ∧ OwnF k xs ys
  | _, _ => False
theorem OwnF.len {k : Nat} : ∀ {xs ys : List V}, OwnF k xs ys → xs.length = ys.length
  | [], [], _ => rfl
  | [], _ :: _, h => h.elim
  | _ :: _, [], h => h.elim
  | _ :: _, _ :: _, h => by simp [h.2.len]
theorem OwnF.at_ {k : Nat} : ∀ {xs ys : List V}, OwnF k xs ys → ∀ (i : Nat) x y, xs[i]? = some x → ys[i]? = some y → y = x ∨ (x = .nilS ∧ y = .buf k 0 0 0)
  | [], _, _, i, x, y, h, _ => by simp at h
  | _ :: _, [], h, _, _, _, _, _ => h.elim
  | a :: xs, b :: ys, h, 0, x, y, h1, h2 => by simp at h1 h2; subst h1; subst h2; exact h.1
  | a :: xs, b :: ys, h, i + 1, x, y, h1, h2 => h.2.at_ i x y (by simpa using h1) (by simpa using h2)
/-- The slots sl hold the own list k. -/
def ownAt (k : Nat) (sl : List Nat) : Nat → List V → List V
  | _, [] => []
  | i, v :: r => (if sl.contains i then .buf k 0 0 0 else v) :: ownAt k sl (i + 1) r

section
variable {P : Program} {T : Ty}
theorem rel_own {s : St} {w : World} {g e z : Nat} (hst : Step s (s.push w g 0 (.buf e z [] false))) {x y : V} {u : Value} (h : Rel s x u) (ho : y = x ∨ (x = .nilS ∧ y = .buf s.H.length 0 0 0)) : Rel (s.push w g 0 (.buf e z [] false)) y u := by
  rcases ho with rfl | ⟨rfl, rfl⟩
  · exact h.step hst
  · cases h
    refine .buf s.H.length 0 0 0 e z [] false _ _ _ (by simp [St.push]) (Nat.le_refl _) (fun _ => ?_)
    simp only [St.push, upd_same]
    exact ⟨fun h => absurd rfl h, by simp, by simp, by simp⟩
/-- Nil lists become an own list of no capacity. -/
theorem W_own (e z : Nat) (sl : List Nat) {c : Code} {Q : Exit → List V → List B → Prop} {fr : List V} {H : List B} (ho : OwnF H.length fr (ownAt H.length sl 0 fr)) (h : W P c Q (ownAt H.length sl 0 fr) (H ++ [.buf e z [] false])) : W P c Q fr H := by
  intro s a hA hg hf hd
  obtain ⟨rfl, hZ⟩ := hA
  obtain ⟨p1, p2⟩ := push0 hg 0 e z false rfl rfl rfl (Nat.le_refl _) (fun _ _ => rfl)
  have hl := ho.len
  have := h (s.push s.w 0 0 (.buf e z [] false)) a ⟨rfl, hZ.step p2⟩ p1 ⟨by rw [hf.len, hl], fun i v u hv hu => by
    have hx : fr[i]? = some (fr[i]'(by have := getElem?_lt hv; omega)) := List.getElem?_eq_getElem _
    exact rel_own p2 (hf.rel i _ u hx hu) (ho.at_ i _ v hx hv)⟩ hd
  exact wp_mono this fun _ _ _ hl => leaves_trans p2 hl
/-- The same, in a block of cells too. -/
theorem W_ownC (e z : Nat) (sl : List Nat) (k0 : Nat) (sc : List Nat) {c : Code} {Q : Exit → List V → List B → Prop} {fr : List V} {H : List B} {cs : List V} (hk : H[k0]? = some (.cells cs)) (ho : OwnF H.length fr (ownAt H.length sl 0 fr)) (hc : OwnF H.length cs (ownAt H.length sc 0 cs))
    (h : W P c Q (ownAt H.length sl 0 fr) (H.set k0 (.cells (ownAt H.length sc 0 cs)) ++ [.buf e z [] false])) : W P c Q fr H := by
  intro s a hA hg hf hd
  obtain ⟨rfl, hZ⟩ := hA
  obtain ⟨p1, p2⟩ := push0 hg 0 e z false rfl rfl rfl (Nat.le_refl _) (fun _ _ => rfl)
  have hl := ho.len
  have hlc := hc.len
  generalize hs1 : s.push s.w 0 0 (.buf e z [] false) = s1 at p1 p2
  have hk1 : s1.H[k0]? = some (.cells cs) := by rw [← hs1]; simp only [St.push]; rw [List.getElem?_append_left (getElem?_lt hk)]; exact hk
  have hr1 : ∀ x y u, Rel s x u → (y = x ∨ (x = .nilS ∧ y = .buf s.H.length 0 0 0)) → Rel s1 y u := fun x y u h1 h2 => by subst hs1; exact rel_own p2 h1 h2
  have hw1 : s1.w = s.w := by rw [← hs1]; rfl
  have hst := setB_step (w := s1.w) (bl' := .cells (ownAt s.H.length sc 0 cs)) p1 hk1 (lvC hk1) trivial rfl rfl rfl (Nat.le_refl _) (fun _ _ _ => rfl)
  have hgd : Good (s1.setB s1.w k0 (.cells (ownAt s.H.length sc 0 cs))) := by
    refine setB_good p1 hk1 (lvC hk1) trivial rfl rfl rfl (Nat.le_refl _) (fun _ _ _ => rfl) (fun hst => ?_)
    obtain ⟨h1, vs, t, h2, h3, h4⟩ := hg.blk k0 _ hk
    obtain ⟨_, vs1, t1, h21, h31, h41⟩ := p1.blk k0 _ hk1
    have hφ : s1.φ k0 = s.φ k0 := by rw [← hs1]; exact upd_ne _ _ (by have := getElem?_lt hk; omega)
    refine ⟨fun d hd => ?_, vs, t, by show s1.w.heap[s1.φ k0]? = _; rw [hw1, hφ]; exact h2, by omega, fun i d u hd hu => ?_⟩
    · obtain ⟨i, hi⟩ := List.mem_iff_getElem?.1 hd
      have hx : cs[i]? = some (cs[i]'(by have := getElem?_lt hi; omega)) := List.getElem?_eq_getElem _
      rcases hc.at_ i _ d hx hi with h9 | ⟨_, h9⟩
      · rw [h9]; exact h1 _ (List.getElem_mem _)
      · rw [h9]; rfl
    · have hx : cs[i]? = some (cs[i]'(by have := getElem?_lt hd; omega)) := List.getElem?_eq_getElem _
      exact (hr1 _ d u (h4 i _ u hx hu) (hc.at_ i _ d hx hd)).step hst
  have hH : (s1.setB s1.w k0 (.cells (ownAt s.H.length sc 0 cs))).H = s.H.set k0 (.cells (ownAt s.H.length sc 0 cs)) ++ [.buf e z [] false] := by
    rw [← hs1]
    simp only [St.setB, St.push]
    rw [List.set_append, if_pos (getElem?_lt hk)]
  have := h (s1.setB s1.w k0 (.cells (ownAt s.H.length sc 0 cs))) a ⟨hH, (hZ.step p2).step hst⟩ hgd ⟨by rw [hf.len, hl], fun i v u hv hu => by
    have hx : fr[i]? = some (fr[i]'(by have := getElem?_lt hv; omega)) := List.getElem?_eq_getElem _
    exact (hr1 _ v u (hf.rel i _ u hx hu) (ho.at_ i _ v hx hv)).step hst⟩ hd
  have e1 : (s1.setB s1.w k0 (.cells (ownAt s.H.length sc 0 cs))).w = s.w := hw1
  rw [e1] at this
  exact wp_mono this fun _ _ _ hl => leaves_trans (p2.trans hst) hl
/-- Slots that a loop turns are forgotten. -/
def maskB : List Bool → List V → List V
  | b :: bs, v :: r => (match b with
    | true => .undef
    | false => v) :: maskB bs r
  | _, fr => fr
@[simp] theorem maskB_t (bs : List Bool) (v : V) (r : List V) : maskB (true :: bs) (v :: r) = .undef :: maskB bs r := rfl
@[simp] theorem maskB_f (bs : List Bool) (v : V) (r : List V) : maskB (false :: bs) (v :: r) = v :: maskB bs r := rfl
@[simp] theorem maskB_n (fr : List V) : maskB [] fr = fr := by cases fr <;> rfl
/-- A loop; what comes behind a round and behind the loop is closed to simp. -/
theorem W_loopV {σ : Type} (ms : List Bool) (ok : σ → Prop) (μ : σ → Nat) (g : σ → List (Nat × V)) (Hf : σ → List B) {c : Code} {Q : Exit → List V → List B → Prop} {fr : List V} {H : List B} (x0 : σ) (h0 : ok x0) (hF : Less (ovr (maskB ms fr) (g x0)) fr) (hH : H = Hf x0)
    (hmin : ∀ x, ok x → H.length ≤ (Hf x).length)
    (hround : ∀ x, ok x → ∀ (N : List V → List B → Prop) (Q' : Exit → List V → List B → Prop), (∀ y fr' H', ok y → μ y < μ x → Less (ovr (maskB ms fr) (g y)) fr' → (∃ G, H' = Hf y ++ G) → (∀ v ∈ ovr (maskB ms fr) (g y), rb (Hf y).length v) → (∀ bl ∈ Hf y, rbB (Hf y).length bl) → N fr' H') →
      (∀ e fr' H', Q e fr' H' → Q' e fr' H') → W P c (thenQ N Q') (ovr (maskB ms fr) (g x)) (Hf x)) : W P (.loop c) Q fr H :=
  W_loopS ok μ (fun x => ovr (maskB ms fr) (g x)) Hf x0 h0 hF hH hmin (fun x hx => hround x hx _ _ (fun y fr' H' a b c d e f => ⟨y, a, b, c, d, e, f⟩) (fun _ _ _ h => h))
end
attribute [simp] OwnF ownAt
theorem pure_rb1 {n : Nat} {v : V} (h : Pure v) (ho : v.one = true) : rb1 n v := by
  cases h <;> first | trivial | assumption | (simp [V.one] at ho; done) | rfl
theorem pure_rb {n : Nat} {v : V} (h : Pure v) (ho : v.one = true) : rb n v := by
  have := pure_rb1 (n := n) h ho
  cases h <;> first | trivial | assumption | (simp [V.one] at ho; done) | (intro c hc; cases hc; done)
theorem rbB_buf {n e z : Nat} {xs : List V} {fz : Bool} (h : ∀ x ∈ xs, Pure x) (ho : ∀ x ∈ xs, ∀ c ∈ x.cells, c.one = true) : rbB n (.buf e z xs fz) ↔ True := by
  refine ⟨fun _ => trivial, fun _ x hx c hc => pure_rb ((h x hx).cells c hc) (ho x hx c hc)⟩
/-- The elements are of one cell each, or structs of such. -/
def oneV : V → Bool
  | .undef | .tup _ => false
  | .agg cs => cs.all V.one
  | _ => true
theorem oneV_cells {x : V} (h : oneV x = true) : ∀ c ∈ x.cells, c.one = true := by
  cases x <;> simp_all [oneV, V.cells, V.one]
@[simp ↓ high] theorem rbB_buf1 {n e z : Nat} {xs : List V} {fz : Bool} (h : ∀ x ∈ xs, Pure x ∧ oneV x = true) : rbB n (.buf e z xs fz) ↔ True := rbB_buf (fun x hx => (h x hx).1) (fun x hx => oneV_cells (h x hx).2)
attribute [simp] oneV
end Go.AM

/- Eff: regions that draw their order and turn the heap: a run in the order of the text, and the few other places by a table. -/
namespace Go.AM
open Go

/-- Operations that never look at the heap. -/
def scalOp : Go.Op → Bool
  | .move _ | .assign _ | .pick .. | .unOp .. | .convert .. | .extract .. | .field .. | .fieldAddr .. | .index .. | .makeFunc .. | .build .. | .nilCheck _ => true
  | .binOp op _ _ _ _ => match op with
    | .eql | .neq => false
    | _ => true
  | _ => false
section
variable {P : Program} {T : Ty}
theorem scalOp_ok {o : Go.Op} {ρ : Operand → V} {H H' : List B} {v : V} (hs : scalOp o = true) (h : aop T o ρ H = some (v, H')) (G : List B) : aop T o ρ G = some (v, G) := by
  have mp : ∀ {x : Option V} {H H' : List B}, x.map (·, H) = some (v, H') → x.map (·, G) = some (v, G) := fun {x H H'} h => by
    cases x with
    | none => cases h
    | some y => simp at h; simp [h.1]
  cases o <;> simp only [scalOp, Bool.false_eq_true] at hs <;> simp only [aop] at h ⊢
  all_goals first
    | (exact mp h)
    | (cases h; rfl)
    | skip
  · split at h <;> cases h; rfl
  · split at h <;> first | (cases h; rfl) | (cases h; done)
  · rename_i op t x y ty
    refine mp ?_ (H := H) (H' := H')
    rw [← h]
    congr 1
    unfold binTA
    cases binA op (ρ x) (ρ y) <;> simp only
    cases op <;> first | rfl | (simp at hs; done)
  · split at h
    · rename_i hh; rw [if_pos hh]; exact mp h
    · cases h
  · split at h
    · split at h
      · rename_i hh; rw [if_pos hh]; cases h; rfl
      · cases h
    · cases h
  · cases hx : ρ _ <;> rw [hx] at h <;> simp only at h ⊢ <;> first | (cases h; done) | exact mp h
end
def tabAt : List (Nat × List Nat) → Nat → List Nat
  | [], _ => []
  | (j, cs) :: r, i => if j = i then cs else tabAt r i
/-- The effects before place i. -/
def cntE : List Nat → Nat → Nat
  | [], _ => 0
  | e :: r, i => if e < i then cntE r i + 1 else 0
def statT (ops : Array Oper) (E : List Nat) (tab : List (Nat × List Nat)) : Bool :=
  stat1 ops && stat2 ops E && (List.range ops.size).all fun i => E.contains i || (match ops[i]? with
    | some o => stillOp o.op && (scalOp o.op || (List.range (E.length + 1)).all fun c => !posB (masksFrom [] ops.toList) E i c || c == cntE E i || (tabAt tab i).contains c)
    | none => true)
def oblT (T : Ty) (ops : Array Oper) (C : V → List V → List B → (V → List B → Prop) → Prop) (E : List Nat) (tab : List (Nat × List Nat)) (Hs : Nat → List B) : List Oper → Nat → Nat → List V → List V → Prop
  | [], _, _, _, _ => True
  | _ :: _, _, _, _, [] => False
  | o :: rest, i, c, fr, v :: vs =>
    (match wantA ops fr o with
      | some true => match callOf o.op with
        | some (f, args) => if E.contains i then C (evalA fr f) (args.map (evalA fr)) (Hs c) (fun r H' => r = v ∧ H' = Hs (c + 1))
          else allC (fun c' => C (evalA fr f) (args.map (evalA fr)) (Hs c') (fun r H' => r = v ∧ H' = Hs c')) (c :: tabAt tab i)
        | none => if E.contains i || scalOp o.op then True else allC (fun c' => aop T o.op (evalA fr) (Hs c') = some (v, Hs c')) (tabAt tab i)
      | _ => True) ∧ oblT T ops C E tab Hs rest (i + 1) (if E.contains i then c + 1 else c) (putF fr o.dst v) vs
def DrawT (T : Ty) (ops : Array Oper) (E : List Nat) (tab : List (Nat × List Nat)) (cv : List (V × List B)) (C : V → List V → List B → (V → List B → Prop) → Prop) (K : List V → List B → Prop) (fr : List V) (H : List B) : Prop :=
  match runT T ops E ops.toList 0 fr H cv with
  | none => False
  | some (vs, hs, f) => hs.length = E.length ∧ oblT T ops C E tab (fun c => (H :: hs)[c]?.getD []) ops.toList 0 0 fr vs ∧ K f ((H :: hs)[E.length]?.getD [])

theorem cnt_idx : ∀ {E : List Nat}, ascB E = true → ∀ {i : Nat}, E.contains i = true → E.idxOf i = cntE E i
  | [], _, i, h => by simp at h
  | [x], _, i, h => by
    have : i = x := by simpa using h
    subst this; simp [cntE]
  | x :: y :: r, ha, i, h => by
    have ha' := ha
    simp only [ascB, Bool.and_eq_true, decide_eq_true_eq] at ha
    by_cases hx : i = x
    · subst hx; simp [cntE]
    · have h' : (y :: r).contains i = true := by
        simp only [List.contains_cons, Bool.or_eq_true, beq_iff_eq, hx, false_or] at h ⊢
        exact h
      have hlt : x < i := by
        obtain ⟨k, hk⟩ := List.mem_iff_getElem?.1 (List.contains_iff_mem.1 h')
        exact ascB_lt ha' 0 (k + 1) x i (by omega) rfl (by simpa using hk)
      have hb : (x == i) = false := by simpa using Ne.symm hx
      rw [List.idxOf_cons, hb, cond_false, cnt_idx ha.2 h']
      simp only [cntE, hlt, if_true]
theorem cnt_succ : ∀ {E : List Nat}, ascB E = true → ∀ (i : Nat), cntE E (i + 1) = if E.contains i then cntE E i + 1 else cntE E i
  | [], _, i => by simp [cntE]
  | [x], _, i => by
    by_cases h : x = i
    · subst h; simp [cntE]
    · have h2 : ¬ i = x := fun e => h e.symm
      by_cases h3 : x < i
      · simp [cntE, h2, h3, show x < i + 1 by omega]
      · simp [cntE, h2, h3, show ¬ x < i + 1 by omega]
  | x :: y :: r, ha, i => by
    have ha' := ha
    simp only [ascB, Bool.and_eq_true, decide_eq_true_eq] at ha
    have ih := cnt_succ ha.2 i
    by_cases h : x = i
    · subst h
      have hy : ¬ y < x + 1 := by omega
      have hy2 : ¬ y < x := by omega
      simp [cntE, hy]
    · have h2 : ¬ i = x := fun e => h e.symm
      have c1 : ∀ j, cntE (x :: y :: r) j = if x < j then cntE (y :: r) j + 1 else 0 := fun _ => rfl
      rw [c1, c1]
      by_cases h3 : x < i
      · rw [if_pos (by omega), if_pos h3, ih]
        simp only [List.contains_cons, show (i == x) = false by simpa using h2, Bool.false_or]
        split <;> rfl
      · rw [if_neg (by omega), if_neg h3]
        have hn : (x :: y :: r).contains i = false := by
          rw [Bool.eq_false_iff]; intro hc
          obtain ⟨k, hk⟩ := List.mem_iff_getElem?.1 (List.contains_iff_mem.1 hc)
          cases k with
          | zero => simp at hk; omega
          | succ k => have := ascB_lt ha' 0 (k + 1) x i (by omega) rfl hk; omega
        rw [hn]; rfl

section
variable {P : Program} {T : Ty}
theorem oblT_ok {ops : Array Oper} {C : V → List V → List B → (V → List B → Prop) → Prop} {E : List Nat} {tab : List (Nat × List Nat)} {Hs : Nat → List B} (hasc : ascB E = true)
    (hst : ∀ i o, ops[i]? = some o → E.contains i = false → stillOp o.op = true ∧ (scalOp o.op = true ∨ ∀ c, c < E.length + 1 → posB (masksFrom [] ops.toList) E i c = true → c = cntE E i ∨ c ∈ tabAt tab i)) :
    ∀ (l : List Oper) (i : Nat) (fr : List V) (H : List B) (cv : List (V × List B)) (vs : List V) (hs : List (List B)) (f : List V), l = ops.toList.drop i → runT T ops E l i fr H cv = some (vs, hs, f) → (∀ k, k ≤ hs.length → Hs (cntE E i + k) = ((H :: hs)[k]?).getD []) →
      oblT T ops C E tab Hs l i (cntE E i) fr vs → oblOps T ops C (masksFrom [] ops.toList) E Hs l i fr vs
  | [], i, fr, H, cv, vs, hs, f, hl, hr, hH, h => trivial
  | o :: rest, i, fr, H, cv, vs, hs, f, hl, hr, hH, h => by
    have ho : ops[i]? = some o := by
      have := congrArg (fun l => l[0]?) hl
      simp at this
      exact this.symm
    have hrest : rest = ops.toList.drop (i + 1) := by
      have := congrArg List.tail hl
      simpa using this
    have hHi : Hs (cntE E i) = H := by have := hH 0 (Nat.zero_le _); simpa using this
    simp only [runT] at hr
    cases hw : wantA ops fr o with
    | none => rw [hw] at hr; cases hr
    | some b =>
    rw [hw] at hr
    cases b with
    | false =>
      simp only at hr
      split at hr
      · cases hr
      rename_i hE
      have hE : E.contains i = false := by simpa using hE
      split at hr
      · rename_i vs' hs' f' hr'
        cases hr
        simp only [oblT, hw, hE, Bool.false_eq_true, if_false] at h
        simp only [oblOps, hw]
        refine ⟨⟨by first | trivial | rfl, hE⟩, oblT_ok hasc hst rest (i + 1) _ H cv vs' _ _ hrest hr' (fun k hk => ?_) ?_⟩
        · rw [cnt_succ hasc, hE]; simpa using hH k hk
        · rw [cnt_succ hasc, hE]; simpa using h.2
      · cases hr
    | true =>
      simp only at hr
      -- the value and the heap behind it
      have fin : ∀ (v : V) (H' : List B) (cv' : List (V × List B)), (if E.contains i then (match runT T ops E rest (i + 1) (putF fr o.dst v) H' cv' with
            | some (vs, hs, f) => some (v :: vs, H' :: hs, f)
            | none => none)
          else (match runT T ops E rest (i + 1) (putF fr o.dst v) H cv' with
            | some (vs, hs, f) => some (v :: vs, hs, f)
            | none => none)) = some (vs, hs, f) →
          ∃ vs', vs = v :: vs' ∧ (E.contains i = true → Hs (cntE E i + 1) = H') ∧ (oblT T ops C E tab Hs rest (i + 1) (if E.contains i then cntE E i + 1 else cntE E i) (putF fr o.dst v) vs' → oblOps T ops C (masksFrom [] ops.toList) E Hs rest (i + 1) (putF fr o.dst v) vs') := fun v H' cv' hq => by
        cases hE : E.contains i with
        | true =>
          rw [hE] at hq
          simp only [if_true] at hq
          split at hq
          · rename_i vs' hs' f' hr'
            cases hq
            refine ⟨vs', rfl, fun _ => ?_, fun hh => ?_⟩
            · have := hH 1 (by simp); simpa using this
            · refine oblT_ok hasc hst rest (i + 1) _ H' cv' vs' hs' _ hrest hr' (fun k hk => ?_) ?_
              · rw [cnt_succ hasc, hE]
                have := hH (k + 1) (by simp; omega)
                simp only [if_true, List.getElem?_cons_succ] at this ⊢
                rw [show cntE E i + 1 + k = cntE E i + (k + 1) by omega]; exact this
              · rw [cnt_succ hasc, hE]; simpa using hh
          · cases hq
        | false =>
          rw [hE] at hq
          simp only [Bool.false_eq_true, if_false] at hq
          split at hq
          · rename_i vs' hs' f' hr'
            cases hq
            refine ⟨vs', rfl, (fun h => by cases h), fun hh => ?_⟩
            refine oblT_ok hasc hst rest (i + 1) _ H cv' vs' hs _ hrest hr' (fun k hk => ?_) ?_
            · rw [cnt_succ hasc, hE]; simpa using hH k hk
            · rw [cnt_succ hasc, hE]; simpa using hh
          · cases hq
      cases hc : callOf o.op with
      | some p =>
        obtain ⟨g, args⟩ := p
        rw [hc] at hr
        simp only at hr
        split at hr
        · rename_i v H' cv'
          obtain ⟨vs', rfl, hEH, hrec⟩ := fin v H' cv' hr
          simp only [oblT, hw, hc] at h
          simp only [oblOps, hw, hc]
          refine ⟨?_, hrec h.2⟩
          cases hE : E.contains i with
          | true =>
            rw [hE] at h
            simp only [if_true] at h ⊢
            rw [cnt_idx hasc hE]
            exact h.1
          | false =>
            rw [hE] at h
            simp only [Bool.false_eq_true, if_false] at h ⊢
            obtain ⟨s1, s2⟩ := hst i o ho hE
            have hns : scalOp o.op = false := by
              cases hop : o.op <;> rw [hop] at hc <;> simp only [callOf] at hc <;> first | (cases hc; done) | rfl
            rw [hns] at s2
            have s2 := s2.resolve_left (by simp)
            refine allC_of (fun c hcm => ?_)
            split
            · rename_i hp
              rcases s2 c (by simpa using hcm) hp with rfl | hm
              · exact allC_at h.1 _ (by simp)
              · exact allC_at h.1 _ (by simp [hm])
            · trivial
        · cases hr
      | none =>
        rw [hc] at hr
        simp only at hr
        cases hop : aop T o.op (evalA fr) H with
        | none => rw [hop] at hr; cases hr
        | some q =>
          obtain ⟨v, H'⟩ := q
          rw [hop] at hr
          simp only at hr
          obtain ⟨vs', rfl, hEH, hrec⟩ := fin v H' cv hr
          simp only [oblT, hw, hc] at h
          simp only [oblOps, hw, hc]
          refine ⟨?_, hrec h.2⟩
          cases hE : E.contains i with
          | true =>
            simp only [if_true]
            rw [cnt_idx hasc hE, hHi, hEH hE]
            exact hop
          | false =>
            rw [hE] at h
            simp only [Bool.false_eq_true, if_false, Bool.false_or] at h ⊢
            obtain ⟨s1, s2⟩ := hst i o ho hE
            have hHH := stillOp_ok s1 hop
            subst hHH
            refine allC_of (fun c hcm => ?_)
            split
            · rename_i hp
              cases hsc : scalOp o.op with
              | true => exact scalOp_ok hsc hop _
              | false =>
                rw [hsc] at h s2
                simp only [Bool.false_eq_true, if_false] at h
                rcases (s2.resolve_left (by simp)) c (by simpa using hcm) hp with rfl | hm
                · rw [hHi]; exact hop
                · exact allC_at h.1 _ hm
            · trivial
where
  allC_of {p : Nat → Prop} : ∀ {l : List Nat}, (∀ c ∈ l, p c) → allC p l
    | [], _ => trivial
    | c :: l, h => ⟨h c (by simp), allC_of (fun d hd => h d (by simp [hd]))⟩
theorem W_drawT (hT : TOk P T) (hm : P.follows .mixedOrders = true) {id : Nat} {ops : Array Oper} {Q : Exit → List V → List B → Prop} {fr : List V} {H : List B} (E : List Nat) (tab : List (Nat × List Nat)) (cv : List (V × List B)) (hst : statT ops E tab = true)
    (h : ∀ (C : V → List V → List B → (V → List B → Prop) → Prop) (K : List V → List B → Prop), (∀ fv args H K', WCall P fv args H K' → C fv args H K') → (∀ fr H, Q .normal fr H → K fr H) → DrawT T ops E tab cv C K fr H) : W P (.region id ops true) Q fr H := by
  refine W_draw hT hm E cv fun C K hC hK => ?_
  have h1 := h C K hC hK
  unfold DrawT at h1
  unfold DrawOb
  simp only [statT, Bool.and_eq_true] at hst
  obtain ⟨⟨st1, st2⟩, st3⟩ := hst
  split at h1
  · exact h1.elim
  · rename_i vs hs f hr
    rw [hr]
    obtain ⟨a1, a2, a3⟩ := h1
    have hasc : ascB E = true := by
      unfold stat2 at st2
      simp only [Bool.and_eq_true] at st2
      exact st2.1.1
    have h00 : cntE E 0 = 0 := by cases E <;> simp [cntE]
    refine ⟨⟨stat_ok st1 st2, a1⟩, ?_, a3⟩
    refine oblT_ok hasc (fun i o ho hE => ?_) ops.toList 0 fr H cv vs hs f (by simp) hr (fun k hk => by rw [h00, Nat.zero_add]) (by rw [h00]; exact a2)
    have hil : i < ops.size := (Array.getElem?_eq_some_iff.1 ho).1
    have := List.all_eq_true.1 st3 i (by simpa using hil)
    rw [hE, ho, Bool.false_or] at this
    simp only [Bool.and_eq_true, Bool.or_eq_true] at this
    refine ⟨this.1, this.2.imp (fun h => h) (fun hall c hc hp => ?_)⟩
    have h3 := List.all_eq_true.1 hall c (by simpa using hc)
    simp only [Bool.or_eq_true, Bool.not_eq_true', beq_iff_eq] at h3
    rcases h3 with (h3 | h3) | h3
    · rw [hp] at h3; cases h3
    · exact .inl h3
    · exact .inr (List.contains_iff_mem.1 h3)
end
attribute [simp] DrawT runT oblT tabAt allC scalOp
end Go.AM
