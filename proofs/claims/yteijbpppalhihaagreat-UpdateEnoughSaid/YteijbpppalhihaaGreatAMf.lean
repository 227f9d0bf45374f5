import Derived.Test.YteijbpppalhihaaGreatAMe
import Derived.Deep.Slices
set_option linter.unusedVariables false
set_option linter.unusedSimpArgs false
/- WX: straight code at one blow: what simp unfolds up to the next loop or call. -/
namespace Go.AM
open Go

inductive Tag (p : Prop) : Type
  | mk
/-- What simp shall not look into. -/
def Stop (p : Prop) (_ : Tag p) : Prop := p
theorem stop_of {p : Prop} {t : Tag p} (h : p) : Stop p t := h
inductive QTag (Q : Exit → List V → List B → Prop) : Type
  | mk

inductive XTag (X : List V → List B → Prop) : Type
  | mk
/-- What comes behind a call; closed to simp until the result is known. -/
def Behind (X : List V → List B → Prop) (_ : XTag X) (fr : List V) (d : Option Tmp) (r : V) (H : List B) : Prop := X (putF fr d r) H
def XOps (T : Ty) (ops : Array Oper) (C : V → List V → List B → (V → List B → Prop) → Prop) (K : List V → List B → Prop) : List Oper → List V → List B → Prop
  | [], fr, H => K fr H
  | o :: rest, fr, H => match wantA ops fr o with
    | some b => if b = true then (match callOf o.op with
      | some (f, args) => C (evalA fr f) (args.map (evalA fr)) H (Behind (XOps T ops C K rest) .mk fr o.dst)
      | none => match aop T o.op (evalA fr) H with
        | some (v, H') => XOps T ops C K rest (putF fr o.dst v) H'
        | none => False)
      else XOps T ops C K rest (putF fr o.dst (.tup [])) H
    | none => False
/-- A call that leaves the heap alone. -/
def CY (C : V → List V → List B → (V → List B → Prop) → Prop) (f : V) (args : List V) (H : List B) (K : V → List B → Prop) : Prop := ∃ v, C f args H (fun r H' => r = v ∧ H' = H) ∧ K v H
theorem cy_of {C : V → List V → List B → (V → List B → Prop) → Prop} {f : V} {args : List V} {H : List B} {K : V → List B → Prop} (v : V) (h : C f args H (fun r H' => r = v ∧ H' = H)) (hk : K v H) : CY C f args H K := ⟨v, h, hk⟩
/-- A region that draws its order and leaves the abstract heap alone. -/
def YOps (T : Ty) (ops : Array Oper) (C : V → List V → List B → (V → List B → Prop) → Prop) (K : List V → List B → Prop) : List Oper → List V → List B → Prop
  | [], fr, H => K fr H
  | o :: rest, fr, H => match wantA ops fr o with
    | some b => if b = true then (match callOf o.op with
      | some (f, args) => CY C (evalA fr f) (args.map (evalA fr)) H (Behind (YOps T ops C K rest) .mk fr o.dst)
      | none => match aop T o.op (evalA fr) H with
        | some (v, H') => H' = H ∧ YOps T ops C K rest (putF fr o.dst v) H
        | none => False)
      else YOps T ops C K rest (putF fr o.dst (.tup [])) H
    | none => False

section
variable {P : Program} {T : Ty}
theorem xops_ok {ops : Array Oper} {C : V → List V → List B → (V → List B → Prop) → Prop} (hmono : ∀ fv args H K K', (∀ r H', K r H' → K' r H') → C fv args H K → C fv args H K') {K : List V → List B → Prop} : ∀ (l : List Oper) (fr : List V) (H : List B), XOps T ops C K l fr H → WOps T ops C K l fr H
  | [], _, _, h => h
  | o :: rest, fr, H, h => by
    simp only [XOps] at h
    simp only [WOps]
    cases hw : wantA ops fr o with
    | none => rw [hw] at h; exact h.elim
    | some b =>
    rw [hw] at h
    cases b with
    | false => exact xops_ok hmono rest _ _ (by simpa using h)
    | true =>
      simp only [if_true] at h
      cases hc : callOf o.op with
      | some p =>
        obtain ⟨f, args⟩ := p
        rw [hc] at h
        exact hmono _ _ _ _ _ (fun r H' hk => xops_ok hmono rest _ _ hk) h
      | none =>
        rw [hc] at h
        cases hop : aop T o.op (evalA fr) H with
        | none => simp only [hop] at h
        | some q =>
          obtain ⟨v, H'⟩ := q
          simp only [hop] at h ⊢
          exact xops_ok hmono rest _ _ h
theorem yops_ok {ops : Array Oper} {C : V → List V → List B → (V → List B → Prop) → Prop} {K : List V → List B → Prop} : ∀ (l : List Oper) (fr : List V) (H : List B), YOps T ops C K l fr H → ∃ cv, QOps T ops C K l fr H cv
  | [], _, _, h => ⟨[], h⟩
  | o :: rest, fr, H, h => by
    simp only [YOps] at h
    simp only [QOps]
    cases hw : wantA ops fr o with
    | none => rw [hw] at h; exact h.elim
    | some b =>
    rw [hw] at h
    cases b with
    | false => exact yops_ok rest _ _ (by simpa using h)
    | true =>
      simp only [if_true] at h
      cases hc : callOf o.op with
      | some p =>
        obtain ⟨f, args⟩ := p
        rw [hc] at h
        obtain ⟨v, h1, h2⟩ := h
        obtain ⟨cv, h3⟩ := yops_ok rest _ _ h2
        exact ⟨v :: cv, h1, h3⟩
      | none =>
        rw [hc] at h
        cases hop : aop T o.op (evalA fr) H with
        | none => simp only [hop] at h
        | some q =>
          obtain ⟨v, H'⟩ := q
          simp only [hop] at h ⊢
          obtain ⟨cv, h3⟩ := yops_ok rest _ _ h.2
          exact ⟨cv, h.1, h3⟩

/-- Some operation may turn the abstract heap. -/
def hasEff : List Oper → Bool
  | [] => false
  | o :: r => !stillOp o.op || hasEff r
/-- The code; C: a call, L: a loop, or a region that draws its order and turns the heap. -/
def WX (T : Ty) (C : V → List V → List B → (V → List B → Prop) → Prop) (L : (c : Code) → (Q : Exit → List V → List B → Prop) → QTag Q → List V → List B → Prop) : Code → (Exit → List V → List B → Prop) → List V → List B → Prop
  | .skip, Q, fr, H => Q .normal fr H
  | .region _ ops false, Q, fr, H => XOps T ops C (Q .normal) ops.toList fr H
  | .region id ops true, Q, fr, H => L (.region id ops true) Q .mk fr H ∨ if hasEff ops.toList = true then False else Stop (stat1 ops = true) .mk ∧ YOps T ops C (Q .normal) ops.toList fr H
  | .seq a b, Q, fr, H => WX T C L a (thenQ (WX T C L b Q) Q) fr H
  | .cond c a b, Q, fr, H => match evalA fr c with
    | .bool t => if t = true then WX T C L a Q fr H else WX T C L b Q fr H
    | _ => False
  | .block id c, Q, fr, H => WX T C L c (blockQ id Q) fr H
  | .loop c, Q, fr, H => L (.loop c) Q .mk fr H
  | .exit id, Q, fr, H => Q (.exit id) fr H
  | .ret, Q, fr, H => Q .ret fr H
  | _, _, _, _ => False
/-- A loop, closed to simp. -/
def LW (P : Program) (c : Code) (Q : Exit → List V → List B → Prop) (_ : QTag Q) (fr : List V) (H : List B) : Prop := W P c Q fr H
theorem lw_of {c : Code} {Q : Exit → List V → List B → Prop} {t : QTag Q} {fr : List V} {H : List B} (h : W P c Q fr H) : LW P c Q t fr H := h
theorem wx_ok (hT : TOk P T) (hm : P.follows .mixedOrders = true) : ∀ (c : Code) (Q : Exit → List V → List B → Prop) (fr : List V) (H : List B), WX T (WCall P) (LW P) c Q fr H → W P c Q fr H
  | .skip, Q, fr, H, h => W_skip h
  | .region id ops false, Q, fr, H, h => by
    intro s a h1 h2 h3 h4
    refine W_region hT (fun C K hC hK => ?_) s a h1 h2 h3 h4
    have := xops_ok (C := WCall P) (fun _ _ _ _ _ hk hc => hc.mono hk) _ _ _ h
    refine evCode_ok.WOps_mono hC _ _ _ ?_
    exact wops_k (fun fr H hq => hK fr H hq) _ _ _ this
  | .region id ops true, Q, fr, H, h => by
    simp only [WX] at h
    rcases h with h | h
    · exact h
    split at h
    · exact h.elim
    obtain ⟨hst, h⟩ := h
    obtain ⟨cv, hq⟩ := yops_ok _ _ _ h
    intro s a h1 h2 h3 h4
    refine W_quiet hT hm cv (stat_ok hst (by simp [stat2, ascB])) (fun C K hC hK => ?_) s a h1 h2 h3 h4
    exact qops_mono hC hK _ _ _ _ hq
  | .seq a b, Q, fr, H, h => W_seq ((wx_ok hT hm a _ fr H h).mono fun e fr' H' hq => by
      cases e with
      | normal => exact wx_ok hT hm b Q fr' H' hq
      | _ => exact hq)
  | .cond c a b, Q, fr, H, h => by
    simp only [WX] at h
    split at h
    · rename_i t ht
      refine W_cond ht ?_
      cases t with
      | true => exact wx_ok hT hm a Q fr H (by simpa using h)
      | false => exact wx_ok hT hm b Q fr H (by simpa using h)
    · exact h.elim
  | .block id c, Q, fr, H, h => W_block (wx_ok hT hm c _ fr H h)
  | .loop c, Q, fr, H, h => h
  | .exit id, Q, fr, H, h => W_exit h
  | .ret, Q, fr, H, h => W_ret h
  | .rangeFunc .., _, _, _, h => h.elim
  | .scope _, _, _, _, h => h.elim
  | .label _, _, _, _, h => h.elim
  | .goto _, _, _, _, h => h.elim
  | .refuse _, _, _, _, h => h.elim
where
  wops_k {ops : Array Oper} {K K' : List V → List B → Prop} (hk : ∀ fr H, K fr H → K' fr H) : ∀ (l : List Oper) (fr : List V) (H : List B), WOps T ops (WCall P) K l fr H → WOps T ops (WCall P) K' l fr H
    | [], fr, H, h => hk fr H h
    | o :: rest, fr, H, h => by
      simp only [WOps] at h ⊢
      split at h
      · split at h
        · exact h.mono fun r H' h' => wops_k hk rest _ _ h'
        · split at h
          · exact wops_k hk rest _ _ h
          · exact h
      · exact wops_k hk rest _ _ h
      · exact h
  qops_mono {ops : Array Oper} {C : V → List V → List B → (V → List B → Prop) → Prop} (hC : ∀ fv args H K', WCall P fv args H K' → C fv args H K') {K K' : List V → List B → Prop} (hk : ∀ fr H, K fr H → K' fr H) : ∀ (l : List Oper) (fr : List V) (H : List B) (cv : List V), QOps T ops (WCall P) K l fr H cv → QOps T ops C K' l fr H cv
    | [], fr, H, _, h => hk fr H h
    | o :: rest, fr, H, cv, h => by
      simp only [QOps] at h ⊢
      split at h
      · split at h
        · split at h
          · exact ⟨hC _ _ _ _ h.1, qops_mono hC hk rest _ _ _ h.2⟩
          · exact h
        · split at h
          · exact ⟨h.1, qops_mono hC hk rest _ _ _ h.2⟩
          · exact h
      · exact qops_mono hC hk rest _ _ _ h
      · exact h
/-- How a proof starts: calls and loops stay closed. -/
theorem W_x (hT : TOk P T) (hm : P.follows .mixedOrders = true) {c : Code} {Q : Exit → List V → List B → Prop} {fr : List V} {H : List B} (h : WX T (WCall P) (LW P) c Q fr H) : W P c Q fr H := wx_ok hT hm c Q fr H h

/-- Slots that a loop turns are forgotten. -/
def maskF (ms : List Nat) : Nat → List V → List V
  | _, [] => []
  | i, v :: r => (if ms.contains i then .undef else v) :: maskF ms (i + 1) r
def ovr : List V → List (Nat × V) → List V
  | fr, [] => fr
  | fr, (i, v) :: r => ovr (fr.set i v) r
/-- A loop that turns the slots ms: g: what is known of them at its head. -/
theorem W_loopG {σ : Type} (ms : List Nat) (ok : σ → Prop) (μ : σ → Nat) (g : σ → List (Nat × V)) (Hf : σ → List B) {c : Code} {Q : Exit → List V → List B → Prop} {fr : List V} {H : List B} (x0 : σ) (h0 : ok x0) (hF : Less (ovr (maskF ms 0 fr) (g x0)) fr) (hH : H = Hf x0)
    (hmin : ∀ x, ok x → H.length ≤ (Hf x).length)
    (hround : ∀ x, ok x → W P c (thenQ (fun fr' H' => Stop (∃ y, ok y ∧ μ y < μ x ∧ Less (ovr (maskF ms 0 fr) (g y)) fr' ∧ (∃ G, H' = Hf y ++ G) ∧ (∀ v ∈ ovr (maskF ms 0 fr) (g y), rb (Hf y).length v) ∧ ∀ bl ∈ Hf y, rbB (Hf y).length bl) .mk) Q) (ovr (maskF ms 0 fr) (g x)) (Hf x)) : W P (.loop c) Q fr H :=
  W_loopS ok μ (fun x => ovr (maskF ms 0 fr) (g x)) Hf x0 h0 hF hH hmin hround
end
attribute [simp ↓] XOps YOps WX Behind
attribute [simp] hasEff stillOp
attribute [simp] maskF ovr

@[simp] theorem exp_bool (H : List B) (b : Bool) (v : V) : Exp H (.bool b) v ↔ v = .bool b := ⟨fun h => by cases h; rfl, fun h => by subst h; exact .pure _ (.bool b)⟩
@[simp] theorem exp_int (H : List B) (k : IntKind) (n : Int) (v : V) : Exp H (.int k n) v ↔ v = .int k n := ⟨fun h => by cases h; rfl, fun h => by subst h; exact .pure _ (.int k n)⟩
@[simp] theorem exp_str (H : List B) (x : ByteArray) (v : V) : Exp H (.str x) v ↔ v = .str x := ⟨fun h => by cases h; rfl, fun h => by subst h; exact .pure _ (.str x)⟩
@[simp] theorem exp_nilS (H : List B) (v : V) : Exp H .nilS v ↔ v = .nilS := ⟨fun h => by cases h; rfl, fun h => by subst h; exact .pure _ .nilS⟩
@[simp] theorem exp_lst (H : List B) (z : Nat) (f : Bool) (xs : List V) (v : V) : Exp H (.lst z f xs) v ↔ v = .lst z f xs ∧ ∀ x ∈ xs, Pure x := ⟨fun h => by cases h with | pure _ h => cases h; exact ⟨rfl, by assumption⟩, fun ⟨h, h2⟩ => by subst h; exact .pure _ (.lst _ _ _ h2)⟩
@[simp] theorem exp_agg (H : List B) (xs : List V) (v : V) : Exp H (.agg xs) v ↔ v = .agg xs ∧ ∀ x ∈ xs, Pure x := ⟨fun h => by cases h with | pure _ h => cases h; exact ⟨rfl, by assumption⟩, fun ⟨h, h2⟩ => by subst h; exact .pure _ (.agg _ h2)⟩
@[simp] theorem exp_tup (H : List B) (xs : List V) (v : V) : Exp H (.tup xs) v ↔ v = .tup xs ∧ ∀ x ∈ xs, Pure x := ⟨fun h => by cases h with | pure _ h => cases h; exact ⟨rfl, by assumption⟩, fun ⟨h, h2⟩ => by subst h; exact .pure _ (.tup _ h2)⟩
theorem exp_buf {H : List B} {k len e z : Nat} {xs : List V} {fz : Bool} (hk : H[k]? = some (.buf e z xs fz)) (hl : len = xs.length) (hp : ∀ x ∈ xs, Pure x) : Exp H (.buf k 0 len len) (.lst z false xs) := by
  subst hl
  have := Exp.buf (H := H) k 0 xs.length e z xs fz hk (by simp) hp
  simpa using this
end Go.AM

/- Opn: what comes in from outside, as a value of the abstract machine. -/
namespace Go.AM
open Go Go.Deep

/-- The fields lie one behind the other. -/
def layB (T : Ty) (tot : Nat) : Nat → List Field → Bool
  | off, [] => off == tot
  | off, f :: r => match T f.type with
    | some j => f.offset == off && layB T tot (off + j.size) r
    | none => false
/-- Types of plain data. -/
def ShOk (T : Ty) : Nat → TypeId → Bool
  | 0, _ => false
  | n + 1, t => match T t with
    | none => false
    | some i => match i.desc with
      | .bool | .int _ | .string => true
      | .slice e => match T e with
        | some j => decide (0 < j.size) && (isAggD j.desc || j.size == 1) && ShOk T n e
        | none => false
      | .struct fs => layB T i.size 0 fs.toList && fs.toList.all fun f => ShOk T n f.type
      | _ => false
/-- The cells of a value of a type. -/
def Sh (T : Ty) : Nat → TypeId → List V → Prop
  | 0, _, _ => False
  | n + 1, t, vs => match T t with
    | none => False
    | some i => match i.desc with
      | .bool => ∃ b, vs = [.bool b]
      | .int k => ∃ m, vs = [.int k m] ∧ (Lit.int k m).wf = true
      | .string => ∃ s, vs = [.str s] ∧ s.size ≤ maxLen
      | .slice e => match T e with
        | some j => ∃ xs, vs = [.lst j.size false xs] ∧ xs.length ≤ maxLen ∧ ∀ x ∈ xs, ∃ ws, Sh T n e ws ∧ ws.length = j.size ∧ x = (if isAggD j.desc then .agg ws else ws.headD .undef)
        | none => False
      | .struct fs => vs.length = i.size ∧ ∀ f ∈ fs.toList, ∃ j, T f.type = some j ∧ Sh T n f.type ((vs.drop f.offset).take j.size)
      | _ => False
structure CR (w : World) (vs : List V) (cs : List Value) : Prop where
  len : vs.length = cs.length
  one : ∀ v ∈ vs, v.one = true
  rel : ∀ (i : Nat) v c, vs[i]? = some v → cs[i]? = some c → Rel (base (fun _ => False) w) v c
theorem CR.append {w : World} {vs ws : List V} {cs ds : List Value} (h : CR w vs cs) (g : CR w ws ds) : CR w (vs ++ ws) (cs ++ ds) where
  len := by simp [h.len, g.len]
  one v hv := by rcases List.mem_append.1 hv with hv | hv; exact h.one v hv; exact g.one v hv
  rel i v c hv hc := by
    by_cases hi : i < vs.length
    · rw [List.getElem?_append_left hi] at hv
      rw [List.getElem?_append_left (by rw [← h.len]; exact hi)] at hc
      exact h.rel i v c hv hc
    · rw [List.getElem?_append_right (by omega)] at hv
      rw [List.getElem?_append_right (by rw [← h.len]; omega), ← h.len] at hc
      exact g.rel _ v c hv hc
theorem CR.single {w : World} {v : V} {c : Value} (h : Rel (base (fun _ => False) w) v c) (h1 : v.one = true) : CR w [v] [c] where
  len := rfl
  one x hx := by simp at hx; subst hx; exact h1
  rel i x d hx hd := by
    have : i = 0 := by have := getElem?_lt hx; simpa using this
    subst this
    simp at hx hd
    subst hx; subst hd
    exact h
theorem one_cells {v : V} (h : v.one = true) : v.cells = [v] := by cases v <;> first | rfl | simp [V.one] at h

theorem spot_cell {w : World} {a : Addr} {v : Value} (h : w.cell? a = some v) : a.spot = none := by
  unfold World.cell? at h
  split at h
  · split at h
    · cases h
    · rename_i hs; simpa using hs
  · cases h
theorem addr_at {a : Addr} {n : Nat} (hs : a.spot = none) : a.add n = ⟨a.block, a.off + n, none⟩ := by
  unfold Addr.add
  split
  · rename_i h; subst h; cases a; simp_all
  · rfl

section
variable {P : Program} {T : Ty} {Hd : Type} {enc : TypeId × Value → Hd} {w : World} {held : Bool}

theorem opn_fields {n tot : Nat} {cs : List Value} (hlen : cs.length = tot) : ∀ (l : List Field) (off : Nat), layB T tot off l = true → off ≤ tot →
    (∀ f ∈ l, ∀ j, T f.type = some j → ∃ vs, CR w vs ((cs.drop f.offset).take j.size) ∧ Sh T n f.type vs) →
    ∃ vs, CR w vs (cs.drop off) ∧ ∀ f ∈ l, ∃ j, T f.type = some j ∧ off ≤ f.offset ∧ Sh T n f.type ((vs.drop (f.offset - off)).take j.size)
  | [], off, h, hle, _ => by
    simp only [layB, beq_iff_eq] at h
    refine ⟨[], ⟨by simp; omega, by simp, by simp⟩, by simp⟩
  | f :: r, off, h, hle, hf => by
    simp only [layB] at h
    split at h
    · rename_i j hj
      simp only [Bool.and_eq_true, beq_iff_eq] at h
      obtain ⟨hoff, h⟩ := h
      have hle2 : off + j.size ≤ tot := lay_le r _ h
      obtain ⟨vs, hcr, hsh⟩ := hf f (by simp) j hj
      obtain ⟨ws, hcr2, hws⟩ := opn_fields hlen r (off + j.size) h hle2 (fun g hg => hf g (by simp [hg]))
      have hvl : vs.length = j.size := by rw [hcr.len, hoff, List.length_take, List.length_drop]; omega
      refine ⟨vs ++ ws, ?_, fun g hg => ?_⟩
      · have := hcr.append hcr2
        rwa [hoff, ← List.drop_drop, List.take_append_drop] at this
      · rcases List.mem_cons.1 hg with rfl | hg
        · refine ⟨j, hj, by omega, ?_⟩
          rw [hoff, Nat.sub_self, List.drop_zero, List.take_append_of_le_length (by omega), List.take_of_length_le (by omega)]
          exact hsh
        · obtain ⟨j2, hj2, hle3, hs2⟩ := hws g hg
          refine ⟨j2, hj2, by omega, ?_⟩
          rw [List.drop_append, List.drop_of_length_le (by omega), List.nil_append, hvl, show g.offset - off - j.size = g.offset - (off + j.size) by omega]
          exact hs2
    · cases h
where
  lay_le {tot : Nat} : ∀ (l : List Field) (off : Nat), layB T tot off l = true → off ≤ tot
    | [], off, h => by simp only [layB, beq_iff_eq] at h; omega
    | f :: r, off, h => by
      simp only [layB] at h
      split at h
      · simp only [Bool.and_eq_true] at h
        have := lay_le r _ h.2
        omega
      · cases h

theorem opn (hT : TOk P T) (hc : ∀ t i, T t = some i → P.cellsOf t = i.size) : ∀ (n fuel : Nat) (t : TypeId) (cs : List Value) (x : DataW Hd × List MemPlace), ShOk T n t = true → DataW.trod enc P w 0 (fun _ => true) held fuel t cs = some x → ∃ vs, CR w vs cs ∧ Sh T n t vs
  | 0, _, _, _, _, h, _ => by simp [ShOk] at h
  | n + 1, fuel, t, cs, x, h, ht => by
    simp only [ShOk] at h
    split at h
    · cases h
    · rename_i i hi
      have hu := hT.und t i hi
      have hcell := hc t i hi
      split at h
      · rename_i hd
        rw [hd] at hu
        cases fuel with
        | zero => simp [DataW.trod] at ht
        | succ m =>
          unfold DataW.trod at ht
          rw [hu] at ht
          split at ht <;> simp_all
          exact ⟨_, CR.single (.bool _) rfl, by simp [Sh, hi, hd]⟩
      · rename_i k hd
        rw [hd] at hu
        cases fuel with
        | zero => simp [DataW.trod] at ht
        | succ m =>
          unfold DataW.trod at ht
          rw [hu] at ht
          split at ht <;> simp_all
          exact ⟨_, CR.single (.int _ _) rfl, by simp [Sh, *]⟩
      · rename_i hd
        rw [hd] at hu
        cases fuel with
        | zero => simp [DataW.trod] at ht
        | succ m =>
          unfold DataW.trod at ht
          rw [hu] at ht
          split at ht <;> simp_all
          exact ⟨_, CR.single (.str _) rfl, by simp [Sh, *]⟩
      · rename_i e hd
        rw [hd] at hu
        split at h
        · rename_i j hj
          simp only [Bool.and_eq_true, decide_eq_true_eq, Bool.or_eq_true, beq_iff_eq] at h
          obtain ⟨⟨hz, hag⟩, hok⟩ := h
          rcases open_slice hu ht with ⟨rfl, _⟩ | ⟨a, len, cap, m, q, D, Pl, rfl, _, hle, hcap, hm, _, hel⟩
          · exact ⟨[.lst j.size false []], CR.single (rel_empty _ false _ _ (by simp)) rfl, by simp only [Sh, hi, hd, hj]; exact ⟨[], rfl, by simp, by simp⟩⟩
          · simp only [if_true] at hm
            subst hm
            rw [hc e j hj] at hel
            have hex : ∀ i, i < len → ∃ ws : List V, Sh T n e ws ∧ ws.length = j.size ∧ (∀ v ∈ ws, v.one = true) ∧ ∀ (l : Nat) v, ws[l]? = some v → ∃ c, w.cell? (a.add (i * j.size + l)) = some c ∧ Rel (base (fun _ => False) w) v c := fun i hil => by
              obtain ⟨cs', h1, h2⟩ := hel i (by omega)
              obtain ⟨ws, hcr, hsh⟩ := opn hT hc n q e cs' _ hok h2
              obtain ⟨_, hcl, hat⟩ := World.cells?_some h1
              refine ⟨ws, hsh, by rw [hcr.len, hcl], hcr.one, fun l v hv => ?_⟩
              have hl : l < j.size := by have := getElem?_lt hv; rw [hcr.len, hcl] at this; exact this
              have hcv : cs'[l]? = some (cs'[l]'(by omega)) := List.getElem?_eq_getElem (by omega)
              have := hat l hl
              rw [hcv, add_add] at this
              exact ⟨_, this, hcr.rel l v _ hv hcv⟩
            obtain ⟨W, hW⟩ := choose_lt hex
            obtain ⟨xs, hxs⟩ : ∃ xs : List V, xs = (List.range len).map fun i => (if isAggD j.desc then V.agg (W i) else (W i).headD .undef) := ⟨_, rfl⟩
            have hxl : xs.length = len := by simp [hxs]
            have hxat : ∀ (i : Nat) y, xs[i]? = some y → i < len ∧ y = (if isAggD j.desc then V.agg (W i) else (W i).headD .undef) ∧ y.cells = W i := fun i y hy => by
              have hil : i < len := by have := getElem?_lt hy; omega
              rw [hxs, List.getElem?_map, List.getElem?_range hil] at hy
              simp only [Option.map_some, Option.some.injEq] at hy
              obtain ⟨_, hwl, hw1, _⟩ := hW i hil
              refine ⟨hil, hy.symm, ?_⟩
              rw [← hy]
              split
              · rfl
              · rename_i hna
                have hz1 : j.size = 1 := by rcases hag with h | h; exact absurd h hna; exact h
                obtain ⟨v, hv⟩ := List.length_eq_one_iff.1 (hwl.trans hz1)
                rw [hv]
                exact one_cells (hw1 v (by rw [hv]; simp))
            have hsh : ∀ y ∈ xs, ∃ ws, Sh T n e ws ∧ ws.length = j.size ∧ y = (if isAggD j.desc then V.agg ws else ws.headD .undef) := fun y hy => by
              obtain ⟨i, hi'⟩ := List.mem_iff_getElem?.1 hy
              obtain ⟨hil, hye, _⟩ := hxat i y hi'
              exact ⟨W i, (hW i hil).1, (hW i hil).2.1, hye⟩
            refine ⟨[.lst j.size false xs], CR.single ?_ rfl, by simp only [Sh, hi, hd, hj]; exact ⟨xs, rfl, by omega, hsh⟩⟩
            · have hspot : 0 < len → a.spot = none ∧ a.block < w.heap.size := fun h0 => by
                obtain ⟨_, hwl, _, hcv⟩ := hW 0 h0
                obtain ⟨c, hcc, _⟩ := hcv 0 (W 0)[0] (List.getElem?_eq_getElem (by omega))
                simp only [Nat.zero_mul, Nat.add_zero] at hcc
                have hb := World.block_lt_of_cell? w _ hcc
                have hs := spot_cell hcc
                simpa [Addr.add] using And.intro hs hb
              have := Rel.lst (s := base (fun _ => False) w) j.size false xs (some a) m a.block a.off (fun i l => (w.cell? ⟨a.block, a.off + i * j.size + l, none⟩).getD undef) (by omega) (by simp) (fun h0 => by
                  obtain ⟨h1, h2⟩ := hspot (by omega)
                  exact ⟨by cases a; simp_all, h2, fun h => h, fun k hk => by have := hk.1; simp [base] at this⟩)
                (fun y hy => by
                  obtain ⟨i, hi'⟩ := List.mem_iff_getElem?.1 hy
                  obtain ⟨hil, _, hyc⟩ := hxat i y hi'
                  rw [hyc]
                  exact ⟨(hW i hil).2.1, (hW i hil).2.2.1⟩)
                (fun i y l c hy hcc => by
                  obtain ⟨hil, _, hyc⟩ := hxat i y hy
                  rw [hyc] at hcc
                  obtain ⟨u, hu1, _⟩ := (hW i hil).2.2.2 l c hcc
                  rw [addr_at (hspot (by omega)).1, ← Nat.add_assoc] at hu1
                  show w.cell? _ = _
                  rw [hu1]; rfl)
                (fun i y l c hy hcc => by
                  obtain ⟨hil, _, hyc⟩ := hxat i y hy
                  rw [hyc] at hcc
                  obtain ⟨u, hu1, hu2⟩ := (hW i hil).2.2.2 l c hcc
                  rw [addr_at (hspot (by omega)).1, ← Nat.add_assoc] at hu1
                  rw [hu1]
                  exact hu2)
              rwa [hxl] at this
        · cases h
      · rename_i fs hd
        rw [hd] at hu
        simp only [Bool.and_eq_true, List.all_eq_true] at h
        obtain ⟨xs, q, _, _, hlen, hxl, hf⟩ := DataW.trod_struct hu ht
        rw [hcell] at hlen
        obtain ⟨vs, hcr, hvs⟩ := opn_fields (T := T) (w := w) (n := n) hlen fs.toList 0 h.1 (Nat.zero_le _) (fun f hfm j hj => by
          obtain ⟨k, hk⟩ := List.mem_iff_getElem?.1 hfm
          have hk' : fs[k]? = some f := by simpa using hk
          have h1 := hf k f hk'
          have hkl : k < xs.length := by rw [hxl]; exact (Array.getElem?_eq_some_iff.1 hk').1
          rw [List.getElem?_eq_getElem hkl, hc f.type j hj] at h1
          exact opn hT hc n q f.type _ _ (h.2 f hfm) h1)
        rw [List.drop_zero] at hcr
        refine ⟨vs, hcr, ?_⟩
        simp only [Sh, hi, hd]
        refine ⟨by rw [hcr.len, hlen], fun f hfm => ?_⟩
        obtain ⟨j, hj, _, hs⟩ := hvs f hfm
        exact ⟨j, hj, by simpa using hs⟩
      · cases h
end
end Go.AM

/- Lend: nil lists as empty lists; buffers lent to a callee. -/
namespace Go.AM
open Go

/-- The second says less: a nil list is an empty one. -/
inductive Le : V → V → Prop
  | refl (v : V) : Le v v
  | nil (z : Nat) (f : Bool) : Le .nilS (.lst z f [])
  | agg (cs ds : List V) (hl : cs.length = ds.length) (h : ∀ (i : Nat) c d, cs[i]? = some c → ds[i]? = some d → Le c d) : Le (.agg cs) (.agg ds)
  | tup (cs ds : List V) (hl : cs.length = ds.length) (h : ∀ (i : Nat) c d, cs[i]? = some c → ds[i]? = some d → Le c d) : Le (.tup cs) (.tup ds)
theorem Le.one {a b : V} (h : Le a b) (h1 : a.one = true) : b.one = true := by
  cases h with
  | refl => exact h1
  | nil => rfl
  | agg => simp [V.one] at h1
  | tup => simp [V.one] at h1
theorem Le.rel {s : St} {a b : V} (h : Le a b) : ∀ {u : Value}, Rel s a u → Rel s b u := by
  induction h with
  | refl v => exact fun h => h
  | nil z f => intro u h; cases h; exact rel_empty z f none 0 (fun _ => rfl)
  | agg cs ds hl hh ih =>
    intro u h
    cases h with
    | agg _ us h1 h2 h3 =>
      refine .agg ds us (by omega) (fun d hd => ?_) (fun i d u hd hu => ?_)
      · obtain ⟨i, hi⟩ := List.mem_iff_getElem?.1 hd
        have hc : cs[i]? = some (cs[i]'(by have := getElem?_lt hi; omega)) := List.getElem?_eq_getElem _
        exact (hh i _ d hc hi).one (h2 _ (List.mem_of_getElem? hc))
      · have hc : cs[i]? = some (cs[i]'(by have := getElem?_lt hd; omega)) := List.getElem?_eq_getElem _
        exact ih i _ d hc hd (h3 i _ u hc hu)
  | tup cs ds hl hh ih =>
    intro u h
    cases h with
    | tup _ us h1 h3 =>
      refine .tup ds us (by omega) (fun i d u hd hu => ?_)
      have hc : cs[i]? = some (cs[i]'(by have := getElem?_lt hd; omega)) := List.getElem?_eq_getElem _
      exact ih i _ d hc hd (h3 i _ u hc hu)

section
variable {P : Program} {T : Ty}
theorem conP_args {f : FuncId} {args args' : List V} {K : V → Prop} (h : ConP P f args' K) (hl : args.length = args'.length) (hle : ∀ (i : Nat) a b, args[i]? = some a → args'[i]? = some b → Le a b) : ConP P f args K := by
  refine ⟨h.1, fun F w vals hZ hF hsz hrel => h.2 F w vals hZ hF (by omega) (fun i b u hb hu => ?_)⟩
  have ha : args[i]? = some (args[i]'(by have := getElem?_lt hb; omega)) := List.getElem?_eq_getElem _
  exact (hle i _ b ha hb).rel (hrel i _ u ha hu)
theorem conP_res {f : FuncId} {args : List V} {v v' : V} (h : ConP P f args fun r => r = v) (hle : Le v v') (hp : Pure v') : ConP P f args fun r => r = v' := by
  refine ⟨h.1, fun F w vals hZ hF hsz hrel => (h.2 F w vals hZ hF hsz hrel).mono fun e w' ⟨u, r, a1, a2, a3, a4, a5⟩ => ?_⟩
  subst a5
  exact ⟨u, v', a1, hp, hle.rel a3, a4, rfl⟩
/-- A call with lists that are lent; the result is a scalar. -/
theorem callX {f : FuncId} {args args' : List V} {H : List B} {v : V} (h : ConP P f args' fun r => r = v) (hl : args.length = args'.length) (he : ∀ (i : Nat) a a', args[i]? = some a → args'[i]? = some a' → Exp H a a') (hs : Scalar v) :
    WCall P (.fn f []) args H fun r H' => r = v ∧ H' = H := by
  simp only [WCall, List.append_nil]
  exact (conH_of_conP h hl he (.inr fun r hr => by subst hr; exact hs)).mono fun r H' ⟨h1, _, h3⟩ => ⟨h3, h1⟩
end
/-- A list of numbers that grows from nil: its value and its block. -/
def accV (k : Nat) (out : List V) : V := if out.isEmpty then .nilS else .buf k 0 out.length out.length
def accH (H : List B) (e z : Nat) (out : List V) : List B := if out.isEmpty then H else H ++ [.buf e z out false]
end Go.AM

/- Pap: lists that a call of append makes anew and that nobody writes again, as values. -/
namespace Go.AM
open Go

theorem exL_pure {f : Nat → V → Option V} : ∀ {xs : List V}, (∀ x ∈ xs, ∃ d0, ∀ d, d0 ≤ d → f d x = some x) → ∃ d0, ∀ d, d0 ≤ d → exL (f d) xs = some xs
  | [], _ => ⟨0, fun _ _ => rfl⟩
  | x :: xs, h => by
    obtain ⟨d1, h1⟩ := h x (by simp)
    obtain ⟨d2, h2⟩ := exL_pure (xs := xs) (fun y hy => h y (by simp [hy]))
    exact ⟨max d1 d2, fun d hd => by simp only [exL, h1 d (by omega), h2 d (by omega)]⟩
theorem exV_pure {H : List B} {n : Nat} {v : V} (h : Pure v) : ∃ d0, ∀ d, d0 ≤ d → exV H n d v = some v := by
  induction h with
  | bool b => exact ⟨1, fun d hd => by obtain ⟨k, rfl⟩ : ∃ k, d = k + 1 := ⟨d - 1, by omega⟩; rfl⟩
  | int k m => exact ⟨1, fun d hd => by obtain ⟨k, rfl⟩ : ∃ k, d = k + 1 := ⟨d - 1, by omega⟩; rfl⟩
  | str x => exact ⟨1, fun d hd => by obtain ⟨k, rfl⟩ : ∃ k, d = k + 1 := ⟨d - 1, by omega⟩; rfl⟩
  | nilS => exact ⟨1, fun d hd => by obtain ⟨k, rfl⟩ : ∃ k, d = k + 1 := ⟨d - 1, by omega⟩; rfl⟩
  | nilP => exact ⟨1, fun d hd => by obtain ⟨k, rfl⟩ : ∃ k, d = k + 1 := ⟨d - 1, by omega⟩; rfl⟩
  | nilM => exact ⟨1, fun d hd => by obtain ⟨k, rfl⟩ : ∃ k, d = k + 1 := ⟨d - 1, by omega⟩; rfl⟩
  | nilFn => exact ⟨1, fun d hd => by obtain ⟨k, rfl⟩ : ∃ k, d = k + 1 := ⟨d - 1, by omega⟩; rfl⟩
  | fn f => exact ⟨1, fun d hd => by obtain ⟨k, rfl⟩ : ∃ k, d = k + 1 := ⟨d - 1, by omega⟩; rfl⟩
  | lst z f xs hx ih =>
    obtain ⟨d0, h0⟩ := exL_pure (f := exV H n) ih
    exact ⟨d0 + 1, fun d hd => by obtain ⟨k, rfl⟩ : ∃ k, d = k + 1 := ⟨d - 1, by omega⟩; simp only [exV, h0 k (by omega)]⟩
  | pin cs o hx ih =>
    obtain ⟨d0, h0⟩ := exL_pure (f := exV H n) ih
    exact ⟨d0 + 1, fun d hd => by obtain ⟨k, rfl⟩ : ∃ k, d = k + 1 := ⟨d - 1, by omega⟩; simp only [exV, h0 k (by omega)]⟩
  | agg cs hx ih =>
    obtain ⟨d0, h0⟩ := exL_pure (f := exV H n) ih
    exact ⟨d0 + 1, fun d hd => by obtain ⟨k, rfl⟩ : ∃ k, d = k + 1 := ⟨d - 1, by omega⟩; simp only [exV, h0 k (by omega)]⟩
  | tup cs hx ih =>
    obtain ⟨d0, h0⟩ := exL_pure (f := exV H n) ih
    exact ⟨d0 + 1, fun d hd => by obtain ⟨k, rfl⟩ : ∃ k, d = k + 1 := ⟨d - 1, by omega⟩; simp only [exV, h0 k (by omega)]⟩

section
variable {P : Program} {T : Ty} {s : St}
/-- The result of an append that makes a new block: as a value. -/
theorem append_pure (hT : TOk P T) (hg : Good s) {t tx ty : TypeId} {x y : V} {ux uy : Value} {e z l : Nat} {xs : List V} (hx : Rel s x ux) (hy : Rel s y uy) (hp : ∀ v ∈ xs, Pure v)
    (h : appendA T s.H t tx x y = some (.buf s.H.length 0 l l, s.H ++ [.buf e z xs false])) (hl : l = xs.length) :
    ∃ u s', (Builtin.append_ #[t, tx] ty #[ux, uy]).run P s.w = .ok u s'.w ∧ s'.H = s.H ∧ Good s' ∧ Step s s' ∧ Rel s' (.lst z false xs) u := by
  obtain ⟨u, s', k1, k2, k3, k4, k5⟩ := append_sound (P := P) (ty := ty) hT hg hx hy h
  obtain ⟨d0, h0⟩ := exL_pure (f := exV s'.H s.H.length) (fun v hv => exV_pure (hp v hv))
  have he : exV s'.H s.H.length (d0 + 1) (.buf s.H.length 0 l l) = some (.lst z false xs) := by
    simp only [exV, Nat.lt_irrefl, if_false]
    rw [k2, List.getElem?_append_right (Nat.le_refl _), Nat.sub_self]
    simp only [List.getElem?_cons_zero]
    rw [if_pos ⟨hl, by omega⟩, hl, List.drop_zero, List.take_length, ← k2, h0 d0 (Nat.le_refl _)]
  refine ⟨u, s'.cut s.H, k1, rfl, cut_good2 k3 k2 hg.cl, cut_step k3 k2 (Step.refl _) s k4 (Nat.le_refl _), ex_rel k3 k2 (d0 + 1) _ _ u k5 he⟩
end
end Go.AM

/- Own: a nil list as an own list of no capacity; a buffer that nobody writes again as a list. -/
namespace Go.AM
open Go

/-- The second has, for some nil lists, the own list k. -/
def OwnF (k : Nat) : List V → List V → Prop
  | [], [] => True
  | x :: xs, y :: ys => (y = x ∨ (x = .nilS ∧ y = .buf k 0 0 0)) ∧ OwnF k xs ys
  | _, _ => False
theorem OwnF.len {k : Nat} : ∀ {xs ys : List V}, OwnF k xs ys → xs.length = ys.length
  | [], [], _ => rfl
  | [], _ :: _, h => h.elim
  | _ :: _, [], h => h.elim
  | _ :: _, _ :: _, h => by simp [h.2.len]
theorem OwnF.at_ {k : Nat} : ∀ {xs ys : List V}, OwnF k xs ys → ∀ (i : Nat) x y, xs[i]? = some x → ys[i]? = some y → y = x ∨ (x = .nilS ∧ y = .buf k 0 0 0)
  | [], _, _, i, x, y, h, _ => by simp at h
  | _ :: _, [], h, _, _, _, _, _ => h.elim
  | a :: xs, b :: ys, h, 0, x, y, h1, h2 => by simp at h1 h2; subst h1; subst h2; exact h.1
  | a :: xs, b :: ys, h, i + 1, x, y, h1, h2 => h.2.at_ i x y (by simpa using h1) (by simpa using h2)
/-- The slots sl hold the own list k. -/
def ownAt (k : Nat) (sl : List Nat) : Nat → List V → List V
  | _, [] => []
  | i, v :: r => (if sl.contains i then .buf k 0 0 0 else v) :: ownAt k sl (i + 1) r

section
variable {P : Program} {T : Ty}
theorem rel_own {s : St} {w : World} {g e z : Nat} (hst : Step s (s.push w g 0 (.buf e z [] false))) {x y : V} {u : Value} (h : Rel s x u) (ho : y = x ∨ (x = .nilS ∧ y = .buf s.H.length 0 0 0)) : Rel (s.push w g 0 (.buf e z [] false)) y u := by
  rcases ho with rfl | ⟨rfl, rfl⟩
  · exact h.step hst
  · cases h
    refine .buf s.H.length 0 0 0 e z [] false _ _ _ (by simp [St.push]) (Nat.le_refl _) (fun _ => ?_)
    simp only [St.push, upd_same]
    exact ⟨fun h => absurd rfl h, by simp, by simp, by simp⟩
/-- Nil lists become an own list of no capacity. -/
theorem W_own (e z : Nat) (sl : List Nat) {c : Code} {Q : Exit → List V → List B → Prop} {fr : List V} {H : List B} (ho : OwnF H.length fr (ownAt H.length sl 0 fr)) (h : W P c Q (ownAt H.length sl 0 fr) (H ++ [.buf e z [] false])) : W P c Q fr H := by
  intro s a hA hg hf hd
  obtain ⟨rfl, hZ⟩ := hA
  obtain ⟨p1, p2⟩ := push0 hg 0 e z false rfl rfl rfl (Nat.le_refl _) (fun _ _ => rfl)
  have hl := ho.len
  have := h (s.push s.w 0 0 (.buf e z [] false)) a ⟨rfl, hZ.step p2⟩ p1 ⟨by rw [hf.len, hl], fun i v u hv hu => by
    have hx : fr[i]? = some (fr[i]'(by have := getElem?_lt hv; omega)) := List.getElem?_eq_getElem _
    exact rel_own p2 (hf.rel i _ u hx hu) (ho.at_ i _ v hx hv)⟩ hd
  exact wp_mono this fun _ _ _ hl => leaves_trans p2 hl
/-- The same, in a block of cells too. -/
theorem W_ownC (e z : Nat) (sl : List Nat) (k0 : Nat) (sc : List Nat) {c : Code} {Q : Exit → List V → List B → Prop} {fr : List V} {H : List B} {cs : List V} (hk : H[k0]? = some (.cells cs)) (ho : OwnF H.length fr (ownAt H.length sl 0 fr)) (hc : OwnF H.length cs (ownAt H.length sc 0 cs))
    (h : W P c Q (ownAt H.length sl 0 fr) (H.set k0 (.cells (ownAt H.length sc 0 cs)) ++ [.buf e z [] false])) : W P c Q fr H := by
  intro s a hA hg hf hd
  obtain ⟨rfl, hZ⟩ := hA
  obtain ⟨p1, p2⟩ := push0 hg 0 e z false rfl rfl rfl (Nat.le_refl _) (fun _ _ => rfl)
  have hl := ho.len
  have hlc := hc.len
  generalize hs1 : s.push s.w 0 0 (.buf e z [] false) = s1 at p1 p2
  have hk1 : s1.H[k0]? = some (.cells cs) := by rw [← hs1]; simp only [St.push]; rw [List.getElem?_append_left (getElem?_lt hk)]; exact hk
  have hr1 : ∀ x y u, Rel s x u → (y = x ∨ (x = .nilS ∧ y = .buf s.H.length 0 0 0)) → Rel s1 y u := fun x y u h1 h2 => by subst hs1; exact rel_own p2 h1 h2
  have hw1 : s1.w = s.w := by rw [← hs1]; rfl
  have hst := setB_step (w := s1.w) (bl' := .cells (ownAt s.H.length sc 0 cs)) p1 hk1 (lvC hk1) trivial rfl rfl rfl (Nat.le_refl _) (fun _ _ _ => rfl)
  have hgd : Good (s1.setB s1.w k0 (.cells (ownAt s.H.length sc 0 cs))) := by
    refine setB_good p1 hk1 (lvC hk1) trivial rfl rfl rfl (Nat.le_refl _) (fun _ _ _ => rfl) (fun hst => ?_)
    obtain ⟨h1, vs, t, h2, h3, h4⟩ := hg.blk k0 _ hk
    obtain ⟨_, vs1, t1, h21, h31, h41⟩ := p1.blk k0 _ hk1
    have hφ : s1.φ k0 = s.φ k0 := by rw [← hs1]; exact upd_ne _ _ (by have := getElem?_lt hk; omega)
    refine ⟨fun d hd => ?_, vs, t, by show s1.w.heap[s1.φ k0]? = _; rw [hw1, hφ]; exact h2, by omega, fun i d u hd hu => ?_⟩
    · obtain ⟨i, hi⟩ := List.mem_iff_getElem?.1 hd
      have hx : cs[i]? = some (cs[i]'(by have := getElem?_lt hi; omega)) := List.getElem?_eq_getElem _
      rcases hc.at_ i _ d hx hi with h9 | ⟨_, h9⟩
      · rw [h9]; exact h1 _ (List.getElem_mem _)
      · rw [h9]; rfl
    · have hx : cs[i]? = some (cs[i]'(by have := getElem?_lt hd; omega)) := List.getElem?_eq_getElem _
      exact (hr1 _ d u (h4 i _ u hx hu) (hc.at_ i _ d hx hd)).step hst
  have hH : (s1.setB s1.w k0 (.cells (ownAt s.H.length sc 0 cs))).H = s.H.set k0 (.cells (ownAt s.H.length sc 0 cs)) ++ [.buf e z [] false] := by
    rw [← hs1]
    simp only [St.setB, St.push]
    rw [List.set_append, if_pos (getElem?_lt hk)]
  have := h (s1.setB s1.w k0 (.cells (ownAt s.H.length sc 0 cs))) a ⟨hH, (hZ.step p2).step hst⟩ hgd ⟨by rw [hf.len, hl], fun i v u hv hu => by
    have hx : fr[i]? = some (fr[i]'(by have := getElem?_lt hv; omega)) := List.getElem?_eq_getElem _
    exact (hr1 _ v u (hf.rel i _ u hx hu) (ho.at_ i _ v hx hv)).step hst⟩ hd
  have e1 : (s1.setB s1.w k0 (.cells (ownAt s.H.length sc 0 cs))).w = s.w := hw1
  rw [e1] at this
  exact wp_mono this fun _ _ _ hl => leaves_trans (p2.trans hst) hl
/-- Slots that a loop turns are forgotten. -/
def maskB : List Bool → List V → List V
  | b :: bs, v :: r => (match b with
    | true => .undef
    | false => v) :: maskB bs r
  | _, fr => fr
@[simp] theorem maskB_t (bs : List Bool) (v : V) (r : List V) : maskB (true :: bs) (v :: r) = .undef :: maskB bs r := rfl
@[simp] theorem maskB_f (bs : List Bool) (v : V) (r : List V) : maskB (false :: bs) (v :: r) = v :: maskB bs r := rfl
@[simp] theorem maskB_n (fr : List V) : maskB [] fr = fr := by cases fr <;> rfl
/-- A loop; what comes behind a round and behind the loop is closed to simp. -/
theorem W_loopV {σ : Type} (ms : List Bool) (ok : σ → Prop) (μ : σ → Nat) (g : σ → List (Nat × V)) (Hf : σ → List B) {c : Code} {Q : Exit → List V → List B → Prop} {fr : List V} {H : List B} (x0 : σ) (h0 : ok x0) (hF : Less (ovr (maskB ms fr) (g x0)) fr) (hH : H = Hf x0)
    (hmin : ∀ x, ok x → H.length ≤ (Hf x).length)
    (hround : ∀ x, ok x → ∀ (N : List V → List B → Prop) (Q' : Exit → List V → List B → Prop), (∀ y fr' H', ok y → μ y < μ x → Less (ovr (maskB ms fr) (g y)) fr' → (∃ G, H' = Hf y ++ G) → (∀ v ∈ ovr (maskB ms fr) (g y), rb (Hf y).length v) → (∀ bl ∈ Hf y, rbB (Hf y).length bl) → N fr' H') →
      (∀ e fr' H', Q e fr' H' → Q' e fr' H') → W P c (thenQ N Q') (ovr (maskB ms fr) (g x)) (Hf x)) : W P (.loop c) Q fr H :=
  W_loopS ok μ (fun x => ovr (maskB ms fr) (g x)) Hf x0 h0 hF hH hmin (fun x hx => hround x hx _ _ (fun y fr' H' a b c d e f => ⟨y, a, b, c, d, e, f⟩) (fun _ _ _ h => h))
end
attribute [simp] OwnF ownAt
theorem pure_rb1 {n : Nat} {v : V} (h : Pure v) (ho : v.one = true) : rb1 n v := by
  cases h <;> first | trivial | assumption | (simp [V.one] at ho; done) | rfl
theorem pure_rb {n : Nat} {v : V} (h : Pure v) (ho : v.one = true) : rb n v := by
  have := pure_rb1 (n := n) h ho
  cases h <;> first | trivial | assumption | (simp [V.one] at ho; done) | (intro c hc; cases hc; done)
theorem rbB_buf {n e z : Nat} {xs : List V} {fz : Bool} (h : ∀ x ∈ xs, Pure x) (ho : ∀ x ∈ xs, ∀ c ∈ x.cells, c.one = true) : rbB n (.buf e z xs fz) ↔ True := by
  refine ⟨fun _ => trivial, fun _ x hx c hc => pure_rb ((h x hx).cells c hc) (ho x hx c hc)⟩
/-- The elements are of one cell each, or structs of such. -/
def oneV : V → Bool
  | .undef | .tup _ => false
  | .agg cs => cs.all V.one
  | _ => true
theorem oneV_cells {x : V} (h : oneV x = true) : ∀ c ∈ x.cells, c.one = true := by
  cases x <;> simp_all [oneV, V.cells, V.one]
@[simp ↓ high] theorem rbB_buf1 {n e z : Nat} {xs : List V} {fz : Bool} (h : ∀ x ∈ xs, Pure x ∧ oneV x = true) : rbB n (.buf e z xs fz) ↔ True := rbB_buf (fun x hx => (h x hx).1) (fun x hx => oneV_cells (h x hx).2)
attribute [simp] oneV
end Go.AM

/- Eff: regions that draw their order and turn the heap: a run in the order of the text, and the few other places by a table. -/
namespace Go.AM
open Go

/-- Operations that never look at the heap. -/
def scalOp : Go.Op → Bool
  | .move _ | .assign _ | .pick .. | .unOp .. | .convert .. | .extract .. | .field .. | .fieldAddr .. | .index .. | .makeFunc .. | .build .. | .nilCheck _ => true
  | .binOp op _ _ _ _ => match op with
    | .eql | .neq => false
    | _ => true
  | _ => false
section
variable {P : Program} {T : Ty}
theorem scalOp_ok {o : Go.Op} {ρ : Operand → V} {H H' : List B} {v : V} (hs : scalOp o = true) (h : aop T o ρ H = some (v, H')) (G : List B) : aop T o ρ G = some (v, G) := by
  have mp : ∀ {x : Option V} {H H' : List B}, x.map (·, H) = some (v, H') → x.map (·, G) = some (v, G) := fun {x H H'} h => by
    cases x with
    | none => cases h
    | some y => simp at h; simp [h.1]
  cases o <;> simp only [scalOp, Bool.false_eq_true] at hs <;> simp only [aop] at h ⊢
  all_goals first
    | (exact mp h)
    | (cases h; rfl)
    | skip
  · split at h <;> cases h; rfl
  · split at h <;> first | (cases h; rfl) | (cases h; done)
  · rename_i op t x y ty
    refine mp ?_ (H := H) (H' := H')
    rw [← h]
    congr 1
    unfold binTA
    cases binA op (ρ x) (ρ y) <;> simp only
    cases op <;> first | rfl | (simp at hs; done)
  · split at h
    · rename_i hh; rw [if_pos hh]; exact mp h
    · cases h
  · split at h
    · split at h
      · rename_i hh; rw [if_pos hh]; cases h; rfl
      · cases h
    · cases h
  · cases hx : ρ _ <;> rw [hx] at h <;> simp only at h ⊢ <;> first | (cases h; done) | exact mp h
end
def tabAt : List (Nat × List Nat) → Nat → List Nat
  | [], _ => []
  | (j, cs) :: r, i => if j = i then cs else tabAt r i
/-- The effects before place i. -/
def cntE : List Nat → Nat → Nat
  | [], _ => 0
  | e :: r, i => if e < i then cntE r i + 1 else 0
def statT (ops : Array Oper) (E : List Nat) (tab : List (Nat × List Nat)) : Bool :=
  stat1 ops && stat2 ops E && (List.range ops.size).all fun i => E.contains i || (match ops[i]? with
    | some o => stillOp o.op && (scalOp o.op || (List.range (E.length + 1)).all fun c => !posB (masksFrom [] ops.toList) E i c || c == cntE E i || (tabAt tab i).contains c)
    | none => true)
def oblT (T : Ty) (ops : Array Oper) (C : V → List V → List B → (V → List B → Prop) → Prop) (E : List Nat) (tab : List (Nat × List Nat)) (Hs : Nat → List B) : List Oper → Nat → Nat → List V → List V → Prop
  | [], _, _, _, _ => True
  | _ :: _, _, _, _, [] => False
  | o :: rest, i, c, fr, v :: vs =>
    (match wantA ops fr o with
      | some true => match callOf o.op with
        | some (f, args) => if E.contains i then C (evalA fr f) (args.map (evalA fr)) (Hs c) (fun r H' => r = v ∧ H' = Hs (c + 1))
          else allC (fun c' => C (evalA fr f) (args.map (evalA fr)) (Hs c') (fun r H' => r = v ∧ H' = Hs c')) (c :: tabAt tab i)
        | none => if E.contains i || scalOp o.op then True else allC (fun c' => aop T o.op (evalA fr) (Hs c') = some (v, Hs c')) (tabAt tab i)
      | _ => True) ∧ oblT T ops C E tab Hs rest (i + 1) (if E.contains i then c + 1 else c) (putF fr o.dst v) vs
def DrawT (T : Ty) (ops : Array Oper) (E : List Nat) (tab : List (Nat × List Nat)) (cv : List (V × List B)) (C : V → List V → List B → (V → List B → Prop) → Prop) (K : List V → List B → Prop) (fr : List V) (H : List B) : Prop :=
  match runT T ops E ops.toList 0 fr H cv with
  | none => False
  | some (vs, hs, f) => hs.length = E.length ∧ oblT T ops C E tab (fun c => (H :: hs)[c]?.getD []) ops.toList 0 0 fr vs ∧ K f ((H :: hs)[E.length]?.getD [])

theorem cnt_idx : ∀ {E : List Nat}, ascB E = true → ∀ {i : Nat}, E.contains i = true → E.idxOf i = cntE E i
  | [], _, i, h => by simp at h
  | [x], _, i, h => by
    have : i = x := by simpa using h
    subst this; simp [cntE]
  | x :: y :: r, ha, i, h => by
    have ha' := ha
    simp only [ascB, Bool.and_eq_true, decide_eq_true_eq] at ha
    by_cases hx : i = x
    · subst hx; simp [cntE]
    · have h' : (y :: r).contains i = true := by
        simp only [List.contains_cons, Bool.or_eq_true, beq_iff_eq, hx, false_or] at h ⊢
        exact h
      have hlt : x < i := by
        obtain ⟨k, hk⟩ := List.mem_iff_getElem?.1 (List.contains_iff_mem.1 h')
        exact ascB_lt ha' 0 (k + 1) x i (by omega) rfl (by simpa using hk)
      have hb : (x == i) = false := by simpa using Ne.symm hx
      rw [List.idxOf_cons, hb, cond_false, cnt_idx ha.2 h']
      simp only [cntE, hlt, if_true]
theorem cnt_succ : ∀ {E : List Nat}, ascB E = true → ∀ (i : Nat), cntE E (i + 1) = if E.contains i then cntE E i + 1 else cntE E i
  | [], _, i => by simp [cntE]
  | [x], _, i => by
    by_cases h : x = i
    · subst h; simp [cntE]
    · have h2 : ¬ i = x := fun e => h e.symm
      by_cases h3 : x < i
      · simp [cntE, h2, h3, show x < i + 1 by omega]
      · simp [cntE, h2, h3, show ¬ x < i + 1 by omega]
  | x :: y :: r, ha, i => by
    have ha' := ha
    simp only [ascB, Bool.and_eq_true, decide_eq_true_eq] at ha
    have ih := cnt_succ ha.2 i
    by_cases h : x = i
    · subst h
      have hy : ¬ y < x + 1 := by omega
      have hy2 : ¬ y < x := by omega
      simp [cntE, hy]
    · have h2 : ¬ i = x := fun e => h e.symm
      have c1 : ∀ j, cntE (x :: y :: r) j = if x < j then cntE (y :: r) j + 1 else 0 := fun _ => rfl
      rw [c1, c1]
      by_cases h3 : x < i
      · rw [if_pos (by omega), if_pos h3, ih]
        simp only [List.contains_cons, show (i == x) = false by simpa using h2, Bool.false_or]
        split <;> rfl
      · rw [if_neg (by omega), if_neg h3]
        have hn : (x :: y :: r).contains i = false := by
          rw [Bool.eq_false_iff]; intro hc
          obtain ⟨k, hk⟩ := List.mem_iff_getElem?.1 (List.contains_iff_mem.1 hc)
          cases k with
          | zero => simp at hk; omega
          | succ k => have := ascB_lt ha' 0 (k + 1) x i (by omega) rfl hk; omega
        rw [hn]; rfl

section
variable {P : Program} {T : Ty}
theorem oblT_ok {ops : Array Oper} {C : V → List V → List B → (V → List B → Prop) → Prop} {E : List Nat} {tab : List (Nat × List Nat)} {Hs : Nat → List B} (hasc : ascB E = true)
    (hst : ∀ i o, ops[i]? = some o → E.contains i = false → stillOp o.op = true ∧ (scalOp o.op = true ∨ ∀ c, c < E.length + 1 → posB (masksFrom [] ops.toList) E i c = true → c = cntE E i ∨ c ∈ tabAt tab i)) :
    ∀ (l : List Oper) (i : Nat) (fr : List V) (H : List B) (cv : List (V × List B)) (vs : List V) (hs : List (List B)) (f : List V), l = ops.toList.drop i → runT T ops E l i fr H cv = some (vs, hs, f) → (∀ k, k ≤ hs.length → Hs (cntE E i + k) = ((H :: hs)[k]?).getD []) →
      oblT T ops C E tab Hs l i (cntE E i) fr vs → oblOps T ops C (masksFrom [] ops.toList) E Hs l i fr vs
  | [], i, fr, H, cv, vs, hs, f, hl, hr, hH, h => trivial
  | o :: rest, i, fr, H, cv, vs, hs, f, hl, hr, hH, h => by
    have ho : ops[i]? = some o := by
      have := congrArg (fun l => l[0]?) hl
      simp at this
      exact this.symm
    have hrest : rest = ops.toList.drop (i + 1) := by
      have := congrArg List.tail hl
      simpa using this
    have hHi : Hs (cntE E i) = H := by have := hH 0 (Nat.zero_le _); simpa using this
    simp only [runT] at hr
    cases hw : wantA ops fr o with
    | none => rw [hw] at hr; cases hr
    | some b =>
    rw [hw] at hr
    cases b with
    | false =>
      simp only at hr
      split at hr
      · cases hr
      rename_i hE
      have hE : E.contains i = false := by simpa using hE
      split at hr
      · rename_i vs' hs' f' hr'
        cases hr
        simp only [oblT, hw, hE, Bool.false_eq_true, if_false] at h
        simp only [oblOps, hw]
        refine ⟨⟨by first | trivial | rfl, hE⟩, oblT_ok hasc hst rest (i + 1) _ H cv vs' _ _ hrest hr' (fun k hk => ?_) ?_⟩
        · rw [cnt_succ hasc, hE]; simpa using hH k hk
        · rw [cnt_succ hasc, hE]; simpa using h.2
      · cases hr
    | true =>
      simp only at hr
      -- the value and the heap behind it
      have fin : ∀ (v : V) (H' : List B) (cv' : List (V × List B)), (if E.contains i then (match runT T ops E rest (i + 1) (putF fr o.dst v) H' cv' with
            | some (vs, hs, f) => some (v :: vs, H' :: hs, f)
            | none => none)
          else (match runT T ops E rest (i + 1) (putF fr o.dst v) H cv' with
            | some (vs, hs, f) => some (v :: vs, hs, f)
            | none => none)) = some (vs, hs, f) →
          ∃ vs', vs = v :: vs' ∧ (E.contains i = true → Hs (cntE E i + 1) = H') ∧ (oblT T ops C E tab Hs rest (i + 1) (if E.contains i then cntE E i + 1 else cntE E i) (putF fr o.dst v) vs' → oblOps T ops C (masksFrom [] ops.toList) E Hs rest (i + 1) (putF fr o.dst v) vs') := fun v H' cv' hq => by
        cases hE : E.contains i with
        | true =>
          rw [hE] at hq
          simp only [if_true] at hq
          split at hq
          · rename_i vs' hs' f' hr'
            cases hq
            refine ⟨vs', rfl, fun _ => ?_, fun hh => ?_⟩
            · have := hH 1 (by simp); simpa using this
            · refine oblT_ok hasc hst rest (i + 1) _ H' cv' vs' hs' _ hrest hr' (fun k hk => ?_) ?_
              · rw [cnt_succ hasc, hE]
                have := hH (k + 1) (by simp; omega)
                simp only [if_true, List.getElem?_cons_succ] at this ⊢
                rw [show cntE E i + 1 + k = cntE E i + (k + 1) by omega]; exact this
              · rw [cnt_succ hasc, hE]; simpa using hh
          · cases hq
        | false =>
          rw [hE] at hq
          simp only [Bool.false_eq_true, if_false] at hq
          split at hq
          · rename_i vs' hs' f' hr'
            cases hq
            refine ⟨vs', rfl, (fun h => by cases h), fun hh => ?_⟩
            refine oblT_ok hasc hst rest (i + 1) _ H cv' vs' hs _ hrest hr' (fun k hk => ?_) ?_
            · rw [cnt_succ hasc, hE]; simpa using hH k hk
            · rw [cnt_succ hasc, hE]; simpa using hh
          · cases hq
      cases hc : callOf o.op with
      | some p =>
        obtain ⟨g, args⟩ := p
        rw [hc] at hr
        simp only at hr
        split at hr
        · rename_i v H' cv'
          obtain ⟨vs', rfl, hEH, hrec⟩ := fin v H' cv' hr
          simp only [oblT, hw, hc] at h
          simp only [oblOps, hw, hc]
          refine ⟨?_, hrec h.2⟩
          cases hE : E.contains i with
          | true =>
            rw [hE] at h
            simp only [if_true] at h ⊢
            rw [cnt_idx hasc hE]
            exact h.1
          | false =>
            rw [hE] at h
            simp only [Bool.false_eq_true, if_false] at h ⊢
            obtain ⟨s1, s2⟩ := hst i o ho hE
            have hns : scalOp o.op = false := by
              cases hop : o.op <;> rw [hop] at hc <;> simp only [callOf] at hc <;> first | (cases hc; done) | rfl
            rw [hns] at s2
            have s2 := s2.resolve_left (by simp)
            refine allC_of (fun c hcm => ?_)
            split
            · rename_i hp
              rcases s2 c (by simpa using hcm) hp with rfl | hm
              · exact allC_at h.1 _ (by simp)
              · exact allC_at h.1 _ (by simp [hm])
            · trivial
        · cases hr
      | none =>
        rw [hc] at hr
        simp only at hr
        cases hop : aop T o.op (evalA fr) H with
        | none => rw [hop] at hr; cases hr
        | some q =>
          obtain ⟨v, H'⟩ := q
          rw [hop] at hr
          simp only at hr
          obtain ⟨vs', rfl, hEH, hrec⟩ := fin v H' cv hr
          simp only [oblT, hw, hc] at h
          simp only [oblOps, hw, hc]
          refine ⟨?_, hrec h.2⟩
          cases hE : E.contains i with
          | true =>
            simp only [if_true]
            rw [cnt_idx hasc hE, hHi, hEH hE]
            exact hop
          | false =>
            rw [hE] at h
            simp only [Bool.false_eq_true, if_false, Bool.false_or] at h ⊢
            obtain ⟨s1, s2⟩ := hst i o ho hE
            have hHH := stillOp_ok s1 hop
            subst hHH
            refine allC_of (fun c hcm => ?_)
            split
            · rename_i hp
              cases hsc : scalOp o.op with
              | true => exact scalOp_ok hsc hop _
              | false =>
                rw [hsc] at h s2
                simp only [Bool.false_eq_true, if_false] at h
                rcases (s2.resolve_left (by simp)) c (by simpa using hcm) hp with rfl | hm
                · rw [hHi]; exact hop
                · exact allC_at h.1 _ hm
            · trivial
where
  allC_of {p : Nat → Prop} : ∀ {l : List Nat}, (∀ c ∈ l, p c) → allC p l
    | [], _ => trivial
    | c :: l, h => ⟨h c (by simp), allC_of (fun d hd => h d (by simp [hd]))⟩
theorem W_drawT (hT : TOk P T) (hm : P.follows .mixedOrders = true) {id : Nat} {ops : Array Oper} {Q : Exit → List V → List B → Prop} {fr : List V} {H : List B} (E : List Nat) (tab : List (Nat × List Nat)) (cv : List (V × List B)) (hst : statT ops E tab = true)
    (h : ∀ (C : V → List V → List B → (V → List B → Prop) → Prop) (K : List V → List B → Prop), (∀ fv args H K', WCall P fv args H K' → C fv args H K') → (∀ fr H, Q .normal fr H → K fr H) → DrawT T ops E tab cv C K fr H) : W P (.region id ops true) Q fr H := by
  refine W_draw hT hm E cv fun C K hC hK => ?_
  have h1 := h C K hC hK
  unfold DrawT at h1
  unfold DrawOb
  simp only [statT, Bool.and_eq_true] at hst
  obtain ⟨⟨st1, st2⟩, st3⟩ := hst
  split at h1
  · exact h1.elim
  · rename_i vs hs f hr
    rw [hr]
    obtain ⟨a1, a2, a3⟩ := h1
    have hasc : ascB E = true := by
      unfold stat2 at st2
      simp only [Bool.and_eq_true] at st2
      exact st2.1.1
    have h00 : cntE E 0 = 0 := by cases E <;> simp [cntE]
    refine ⟨⟨stat_ok st1 st2, a1⟩, ?_, a3⟩
    refine oblT_ok hasc (fun i o ho hE => ?_) ops.toList 0 fr H cv vs hs f (by simp) hr (fun k hk => by rw [h00, Nat.zero_add]) (by rw [h00]; exact a2)
    have hil : i < ops.size := (Array.getElem?_eq_some_iff.1 ho).1
    have := List.all_eq_true.1 st3 i (by simpa using hil)
    rw [hE, ho, Bool.false_or] at this
    simp only [Bool.and_eq_true, Bool.or_eq_true] at this
    refine ⟨this.1, this.2.imp (fun h => h) (fun hall c hc hp => ?_)⟩
    have h3 := List.all_eq_true.1 hall c (by simpa using hc)
    simp only [Bool.or_eq_true, Bool.not_eq_true', beq_iff_eq] at h3
    rcases h3 with (h3 | h3) | h3
    · rw [hp] at h3; cases h3
    · exact .inl h3
    · exact .inr (List.contains_iff_mem.1 h3)
end
attribute [simp] DrawT runT oblT tabAt allC scalOp
end Go.AM

/- Frz: a buffer that nobody writes from here on, as a list. -/
namespace Go.AM
open Go

/-- The second has q for some p. -/
def RepF (p q : V) : List V → List V → Prop
  | [], [] => True
  | x :: xs, y :: ys => (y = x ∨ (x = p ∧ y = q)) ∧ RepF p q xs ys
  | _, _ => False
theorem RepF.len {p q : V} : ∀ {xs ys : List V}, RepF p q xs ys → xs.length = ys.length
  | [], [], _ => rfl
  | [], _ :: _, h => h.elim
  | _ :: _, [], h => h.elim
  | _ :: _, _ :: _, h => by simp [h.2.len]
theorem RepF.at_ {p q : V} : ∀ {xs ys : List V}, RepF p q xs ys → ∀ (i : Nat) x y, xs[i]? = some x → ys[i]? = some y → y = x ∨ (x = p ∧ y = q)
  | [], _, _, i, x, y, h, _ => by simp at h
  | _ :: _, [], h, _, _, _, _, _ => h.elim
  | a :: xs, b :: ys, h, 0, x, y, h1, h2 => by simp at h1 h2; subst h1; subst h2; exact h.1
  | a :: xs, b :: ys, h, i + 1, x, y, h1, h2 => h.2.at_ i x y (by simpa using h1) (by simpa using h2)
def repAt (q : V) (sl : List Nat) : Nat → List V → List V
  | _, [] => []
  | i, v :: r => (if sl.contains i then q else v) :: repAt q sl (i + 1) r

section
variable {P : Program} {T : Ty}
def St.frz (s : St) (k : Nat) (bl : B) : St := { s with H := s.H.set k bl }
theorem frz_lv {s : St} {k e z : Nat} {xs : List V} {fz : Bool} (hk : s.H[k]? = some (.buf e z xs fz)) {i : Nat} (h : Lv (s.frz k (.buf e z xs true)) i) : Lv s i := by
  have hil : i < s.H.length := by have := h.1; simpa [St.frz] using this
  refine ⟨hil, fun e' z' xs' fz' hb => ?_⟩
  by_cases hik : i = k
  · subst hik
    exact h.2 e z xs true (by simp only [St.frz]; rw [List.getElem?_set_self hil])
  · exact h.2 e' z' xs' fz' (by simp only [St.frz]; rw [List.getElem?_set_ne (Ne.symm hik)]; exact hb)
theorem frz_ok {s : St} (hg : Good s) {k e z : Nat} {xs : List V} {fz : Bool} (hk : s.H[k]? = some (.buf e z xs fz)) :
    Good (s.frz k (.buf e z xs true)) ∧ Step s (s.frz k (.buf e z xs true)) ∧ ∀ u, Rel s (.buf k 0 xs.length xs.length) u → Rel (s.frz k (.buf e z xs true)) (.lst z false xs) u := by
  have hkl := getElem?_lt hk
  have hst : Step s (s.frz k (.buf e z xs true)) := ⟨rfl, rfl, rfl, rfl, Nat.le_refl _, fun _ _ _ => rfl, by simp [St.frz], fun i h1 h2 => absurd h1 (by have := h2.1; simp [St.frz] at this; omega), fun i bl hi => by
    by_cases hik : i = k
    · subst hik
      rw [hk] at hi
      cases hi
      exact ⟨xs, true, by simp [St.frz, hkl], Nat.le_refl _, fun _ => ⟨rfl, rfl⟩, fun _ => ⟨rfl, rfl, fun _ => rfl⟩, .inl rfl, .inl⟩
    · have hk' : (s.frz k (.buf e z xs true)).H[i]? = some bl := by simp only [St.frz]; rw [List.getElem?_set_ne (Ne.symm hik)]; exact hi
      cases bl with
      | cells cs => exact ⟨rfl, cs, hk'⟩
      | map kk es => exact ⟨rfl, es, hk'⟩
      | buf e z xs fz => exact ⟨xs, fz, hk', Nat.le_refl _, fun _ => ⟨rfl, rfl⟩, fun hf => ⟨hf, rfl, fun _ => rfl⟩, .inl rfl, .inl⟩⟩
  have hgd : Good (s.frz k (.buf e z xs true)) := by
    refine ⟨hg.fl, fun i hi => hg.lt i (frz_lv hk hi), fun i j hi hj => hg.inj i j (frz_lv hk hi) (frz_lv hk hj), fun i bl hi => ?_⟩
    by_cases hik : i = k
    · subst hik
      simp only [St.frz] at hi
      rw [List.getElem?_set_self hkl] at hi
      cases hi
      obtain ⟨vs, g2, g3, g4, g5, g6, g7⟩ := hg.blk i _ hk
      exact ⟨vs, g2, g3, g4, g5, g6, fun a x j c u h1 h2 h3 => (g7 a x j c u h1 h2 h3).step hst⟩
    · have hi' : s.H[i]? = some bl := by simp only [St.frz] at hi; rwa [List.getElem?_set_ne (Ne.symm hik)] at hi
      exact (hg.blk i bl hi').step hst hi' rfl rfl (fun _ => rfl)
  refine ⟨hgd, hst, fun u h => ?_⟩
  cases h with
  | buf _ _ _ _ e2 z2 xs2 fz2 A l c hk2 ht hh =>
    rw [hk] at hk2
    cases hk2
    obtain ⟨hA, rfl, hcap, _⟩ := hh rfl
    obtain ⟨vs, g2, g3, g4, g5, g6, g7⟩ := hg.blk k _ hk
    by_cases hl0 : xs.length = 0
    · have hx : xs = [] := List.eq_nil_of_length_eq_zero hl0
      subst hx
      exact rel_empty z false A c (fun h => by cases h)
    have hκ : s.κ k ≠ 0 := by omega
    have hA := hA hκ
    subst hA
    have hlk := lvB hk hκ
    have hP : (s.frz k (.buf e z xs true)).Prot (s.φ k) := by
      refine ⟨(hg.lt k hlk).1, (hg.lt k hlk).2, fun j hj e' => ?_⟩
      have := hg.inj j k (frz_lv hk hj) hlk e'
      subst this
      exact ⟨e, z, xs, by simp only [St.frz]; rw [List.getElem?_set_self hkl]⟩
    refine .lst z false xs _ c (s.φ k) (0 * z) (fun i j => (s.w.cell? ⟨s.φ k, 0 * z + i * z + j, none⟩).getD Go.undef) (by omega) (by simp) (fun _ => ⟨rfl, hP⟩) g6 (fun i x j d hx hd => ?_) (fun i x j d hx hd => ?_)
    · obtain ⟨_, _, h3⟩ := blk_buf hg hk hx
      obtain ⟨u, hu, _⟩ := h3 j d hd
      show s.w.cell? _ = _
      rw [Nat.zero_mul, Nat.zero_add, hu]; rfl
    · obtain ⟨_, _, h3⟩ := blk_buf hg hk hx
      obtain ⟨u, hu, hr⟩ := h3 j d hd
      rw [Nat.zero_mul, Nat.zero_add, hu]
      exact hr.step hst
theorem frz_rep {s : St} (hg : Good s) {k e z : Nat} {xs : List V} {fz : Bool} (hk : s.H[k]? = some (.buf e z xs fz)) {x y : V} {u : Value} (h : Rel s x u) (ho : y = x ∨ (x = .buf k 0 xs.length xs.length ∧ y = .lst z false xs)) : Rel (s.frz k (.buf e z xs true)) y u := by
  obtain ⟨_, h2, h3⟩ := frz_ok hg hk
  rcases ho with rfl | ⟨rfl, rfl⟩
  · exact h.step h2
  · exact h3 u h
/-- The buffer k becomes a list in the slots sl and in the cells sc of block k0. -/
theorem W_frz (k : Nat) (sl : List Nat) {c : Code} {Q : Exit → List V → List B → Prop} {fr : List V} {H : List B} {e z : Nat} {xs : List V} {fz : Bool} (hk : H[k]? = some (.buf e z xs fz))
    (ho : RepF (.buf k 0 xs.length xs.length) (.lst z false xs) fr (repAt (.lst z false xs) sl 0 fr)) (h : W P c Q (repAt (.lst z false xs) sl 0 fr) (H.set k (.buf e z xs true))) : W P c Q fr H := by
  intro s a hA hg hf hd
  obtain ⟨rfl, hZ⟩ := hA
  obtain ⟨p1, p2, _⟩ := frz_ok hg hk
  have hl := ho.len
  have := h (s.frz k (.buf e z xs true)) a ⟨rfl, hZ.step p2⟩ p1 ⟨by rw [hf.len, hl], fun i v u hv hu => by
    have hx : fr[i]? = some (fr[i]'(by have := getElem?_lt hv; omega)) := List.getElem?_eq_getElem _
    exact frz_rep hg hk (hf.rel i _ u hx hu) (ho.at_ i _ v hx hv)⟩ hd
  exact wp_mono this fun _ _ _ hl => leaves_trans p2 hl
theorem W_frzC (k : Nat) (sl : List Nat) (k0 : Nat) (sc : List Nat) {c : Code} {Q : Exit → List V → List B → Prop} {fr : List V} {H : List B} {e z : Nat} {xs cs : List V} {fz : Bool} (hk : H[k]? = some (.buf e z xs fz)) (hk0 : H[k0]? = some (.cells cs))
    (ho : RepF (.buf k 0 xs.length xs.length) (.lst z false xs) fr (repAt (.lst z false xs) sl 0 fr)) (hc : RepF (.buf k 0 xs.length xs.length) (.lst z false xs) cs (repAt (.lst z false xs) sc 0 cs))
    (h : W P c Q (repAt (.lst z false xs) sl 0 fr) ((H.set k (.buf e z xs true)).set k0 (.cells (repAt (.lst z false xs) sc 0 cs)))) : W P c Q fr H := by
  intro s a hA hg hf hd
  obtain ⟨rfl, hZ⟩ := hA
  obtain ⟨p1, p2, _⟩ := frz_ok hg hk
  have hl := ho.len
  have hlc := hc.len
  have hne : k0 ≠ k := fun h => by subst h; rw [hk] at hk0; cases hk0
  generalize hs1 : s.frz k (.buf e z xs true) = s1 at p1 p2
  have hk1 : s1.H[k0]? = some (.cells cs) := by rw [← hs1]; simp only [St.frz]; rw [List.getElem?_set_ne (Ne.symm hne)]; exact hk0
  have hr1 : ∀ x y u, Rel s x u → (y = x ∨ (x = .buf k 0 xs.length xs.length ∧ y = .lst z false xs)) → Rel s1 y u := fun x y u h1 h2 => by subst hs1; exact frz_rep hg hk h1 h2
  have hw1 : s1.w = s.w := by rw [← hs1]; rfl
  have hst := setB_step (w := s1.w) (bl' := .cells (repAt (.lst z false xs) sc 0 cs)) p1 hk1 (lvC hk1) trivial rfl rfl rfl (Nat.le_refl _) (fun _ _ _ => rfl)
  have hgd : Good (s1.setB s1.w k0 (.cells (repAt (.lst z false xs) sc 0 cs))) := by
    refine setB_good p1 hk1 (lvC hk1) trivial rfl rfl rfl (Nat.le_refl _) (fun _ _ _ => rfl) (fun hst => ?_)
    obtain ⟨h1, vs, t, h2, h3, h4⟩ := hg.blk k0 _ hk0
    have hφ : s1.φ k0 = s.φ k0 := by rw [← hs1]; rfl
    refine ⟨fun d hd => ?_, vs, t, by show s1.w.heap[s1.φ k0]? = _; rw [hw1, hφ]; exact h2, by omega, fun i d u hd hu => ?_⟩
    · obtain ⟨i, hi⟩ := List.mem_iff_getElem?.1 hd
      have hx : cs[i]? = some (cs[i]'(by have := getElem?_lt hi; omega)) := List.getElem?_eq_getElem _
      rcases hc.at_ i _ d hx hi with h9 | ⟨_, h9⟩
      · rw [h9]; exact h1 _ (List.getElem_mem _)
      · rw [h9]; rfl
    · have hx : cs[i]? = some (cs[i]'(by have := getElem?_lt hd; omega)) := List.getElem?_eq_getElem _
      exact (hr1 _ d u (h4 i _ u hx hu) (hc.at_ i _ d hx hd)).step hst
  have hH : (s1.setB s1.w k0 (.cells (repAt (.lst z false xs) sc 0 cs))).H = (s.H.set k (.buf e z xs true)).set k0 (.cells (repAt (.lst z false xs) sc 0 cs)) := by
    rw [← hs1]; rfl
  have := h (s1.setB s1.w k0 (.cells (repAt (.lst z false xs) sc 0 cs))) a ⟨hH, (hZ.step p2).step hst⟩ hgd ⟨by rw [hf.len, hl], fun i v u hv hu => by
    have hx : fr[i]? = some (fr[i]'(by have := getElem?_lt hv; omega)) := List.getElem?_eq_getElem _
    exact (hr1 _ v u (hf.rel i _ u hx hu) (ho.at_ i _ v hx hv)).step hst⟩ hd
  have e1 : (s1.setB s1.w k0 (.cells (repAt (.lst z false xs) sc 0 cs))).w = s.w := hw1
  rw [e1] at this
  exact wp_mono this fun _ _ _ hl => leaves_trans (p2.trans hst) hl
/-- A call to which a buffer is handed over: nobody writes it again. -/
theorem callF {f : FuncId} {args args' : List V} {H : List B} {v : V} (k : Nat) {e z : Nat} {xs : List V} {fz : Bool} (hk : H[k]? = some (.buf e z xs fz)) (h : ConP P f args' fun r => r = v) (hr : RepF (.buf k 0 xs.length xs.length) (.lst z false xs) args args') (hp : ∀ a ∈ args', Pure a) :
    WCall P (.fn f []) args H fun r H' => r = v ∧ H' = H.set k (.buf e z xs true) := by
  simp only [WCall, List.append_nil]
  have h1 := conH_of_conP (H := H.set k (.buf e z xs true)) h (rfl : args'.length = args'.length) (fun i a a' ha ha' => by rw [ha] at ha'; cases ha'; exact .pure a (hp a (List.mem_of_getElem? ha))) (.inl hp)
  refine ⟨h1.1, fun s vals hA hg hsz hrel => ?_⟩
  obtain ⟨rfl, hZ⟩ := hA
  obtain ⟨p1, p2, _⟩ := frz_ok hg hk
  have hl := hr.len
  refine (h1.2 (s.frz k (.buf e z xs true)) vals ⟨rfl, hZ.step p2⟩ p1 (by omega) (fun i b u hb hu => ?_)).mono fun e' w' ⟨u, s', r, a1, a2, a3, a4, a5, a6, a7, a8⟩ => ⟨u, s', r, a1, a2, a3, p2.trans a4, a5, a8, a6⟩
  have hx : args[i]? = some (args[i]'(by have := getElem?_lt hb; omega)) := List.getElem?_eq_getElem _
  exact frz_rep hg hk (hrel i _ u hx hu) (hr.at_ i _ b hx hb)
end
attribute [simp] RepF repAt
end Go.AM

/- Eff2: drawn regions with effects, some of which are skipped. -/
namespace Go.AM
open Go

def statS (ops : Array Oper) (E S : List Nat) (tab : List (Nat × List Nat)) : Bool :=
  stat1 ops && stat2 ops E && (List.range ops.size).all fun i => E.contains i || S.contains i || (match ops[i]? with
    | some o => stillOp o.op && (scalOp o.op || (List.range (E.length + 1)).all fun c => !posB (masksFrom [] ops.toList) E i c || c == cntE E i || (tabAt tab i).contains c)
    | none => true)
def oblS (T : Ty) (ops : Array Oper) (C : V → List V → List B → (V → List B → Prop) → Prop) (E S : List Nat) (tab : List (Nat × List Nat)) (Hs : Nat → List B) : List Oper → Nat → Nat → List V → List V → Prop
  | [], _, _, _, _ => True
  | _ :: _, _, _, _, [] => False
  | o :: rest, i, c, fr, v :: vs =>
    (S.contains i = true → wantA ops fr o = some false) ∧ (match wantA ops fr o with
      | some true => match callOf o.op with
        | some (f, args) => if E.contains i then C (evalA fr f) (args.map (evalA fr)) (Hs c) (fun r H' => r = v ∧ H' = Hs (c + 1))
          else allC (fun c' => C (evalA fr f) (args.map (evalA fr)) (Hs c') (fun r H' => r = v ∧ H' = Hs c')) (c :: tabAt tab i)
        | none => if E.contains i || scalOp o.op then True else allC (fun c' => aop T o.op (evalA fr) (Hs c') = some (v, Hs c')) (tabAt tab i)
      | _ => True) ∧ oblS T ops C E S tab Hs rest (i + 1) (if E.contains i then c + 1 else c) (putF fr o.dst v) vs
def DrawS (T : Ty) (ops : Array Oper) (E S : List Nat) (tab : List (Nat × List Nat)) (cv : List (V × List B)) (C : V → List V → List B → (V → List B → Prop) → Prop) (K : List V → List B → Prop) (fr : List V) (H : List B) : Prop :=
  match runT T ops E ops.toList 0 fr H cv with
  | none => False
  | some (vs, hs, f) => hs.length = E.length ∧ oblS T ops C E S tab (fun c => (H :: hs)[c]?.getD []) ops.toList 0 0 fr vs ∧ K f ((H :: hs)[E.length]?.getD [])

section
variable {P : Program} {T : Ty}
theorem oblS_ok {ops : Array Oper} {C : V → List V → List B → (V → List B → Prop) → Prop} {E S : List Nat} {tab : List (Nat × List Nat)} {Hs : Nat → List B} (hasc : ascB E = true)
    (hst : ∀ i o, ops[i]? = some o → E.contains i = false → S.contains i = false → stillOp o.op = true ∧ (scalOp o.op = true ∨ ∀ c, c < E.length + 1 → posB (masksFrom [] ops.toList) E i c = true → c = cntE E i ∨ c ∈ tabAt tab i)) :
    ∀ (l : List Oper) (i : Nat) (fr : List V) (H : List B) (cv : List (V × List B)) (vs : List V) (hs : List (List B)) (f : List V), l = ops.toList.drop i → runT T ops E l i fr H cv = some (vs, hs, f) → (∀ k, k ≤ hs.length → Hs (cntE E i + k) = ((H :: hs)[k]?).getD []) →
      oblS T ops C E S tab Hs l i (cntE E i) fr vs → oblOps T ops C (masksFrom [] ops.toList) E Hs l i fr vs
  | [], i, fr, H, cv, vs, hs, f, hl, hr, hH, h => trivial
  | o :: rest, i, fr, H, cv, vs, hs, f, hl, hr, hH, h => by
    have ho : ops[i]? = some o := by
      have := congrArg (fun l => l[0]?) hl
      simp at this
      exact this.symm
    have hrest : rest = ops.toList.drop (i + 1) := by
      have := congrArg List.tail hl
      simpa using this
    have hHi : Hs (cntE E i) = H := by have := hH 0 (Nat.zero_le _); simpa using this
    simp only [runT] at hr
    cases hw : wantA ops fr o with
    | none => rw [hw] at hr; cases hr
    | some b =>
    rw [hw] at hr
    cases b with
    | false =>
      simp only at hr
      split at hr
      · cases hr
      rename_i hE
      have hE : E.contains i = false := by simpa using hE
      split at hr
      · rename_i vs' hs' f' hr'
        cases hr
        simp only [oblS, hw, hE, Bool.false_eq_true, if_false] at h
        obtain ⟨_, h⟩ := h
        simp only [oblOps, hw]
        refine ⟨⟨by first | trivial | rfl, hE⟩, oblS_ok hasc hst rest (i + 1) _ H cv vs' _ _ hrest hr' (fun k hk => ?_) ?_⟩
        · rw [cnt_succ hasc, hE]; simpa using hH k hk
        · rw [cnt_succ hasc, hE]; simpa using h.2
      · cases hr
    | true =>
      simp only at hr
      -- the value and the heap behind it
      have fin : ∀ (v : V) (H' : List B) (cv' : List (V × List B)), (if E.contains i then (match runT T ops E rest (i + 1) (putF fr o.dst v) H' cv' with
            | some (vs, hs, f) => some (v :: vs, H' :: hs, f)
            | none => none)
          else (match runT T ops E rest (i + 1) (putF fr o.dst v) H cv' with
            | some (vs, hs, f) => some (v :: vs, hs, f)
            | none => none)) = some (vs, hs, f) →
          ∃ vs', vs = v :: vs' ∧ (E.contains i = true → Hs (cntE E i + 1) = H') ∧ (oblS T ops C E S tab Hs rest (i + 1) (if E.contains i then cntE E i + 1 else cntE E i) (putF fr o.dst v) vs' → oblOps T ops C (masksFrom [] ops.toList) E Hs rest (i + 1) (putF fr o.dst v) vs') := fun v H' cv' hq => by
        cases hE : E.contains i with
        | true =>
          rw [hE] at hq
          simp only [if_true] at hq
          split at hq
          · rename_i vs' hs' f' hr'
            cases hq
            refine ⟨vs', rfl, fun _ => ?_, fun hh => ?_⟩
            · have := hH 1 (by simp); simpa using this
            · refine oblS_ok hasc hst rest (i + 1) _ H' cv' vs' hs' _ hrest hr' (fun k hk => ?_) ?_
              · rw [cnt_succ hasc, hE]
                have := hH (k + 1) (by simp; omega)
                simp only [if_true, List.getElem?_cons_succ] at this ⊢
                rw [show cntE E i + 1 + k = cntE E i + (k + 1) by omega]; exact this
              · rw [cnt_succ hasc, hE]; simpa using hh
          · cases hq
        | false =>
          rw [hE] at hq
          simp only [Bool.false_eq_true, if_false] at hq
          split at hq
          · rename_i vs' hs' f' hr'
            cases hq
            refine ⟨vs', rfl, (fun h => by cases h), fun hh => ?_⟩
            refine oblS_ok hasc hst rest (i + 1) _ H cv' vs' hs _ hrest hr' (fun k hk => ?_) ?_
            · rw [cnt_succ hasc, hE]; simpa using hH k hk
            · rw [cnt_succ hasc, hE]; simpa using hh
          · cases hq
      cases hc : callOf o.op with
      | some p =>
        obtain ⟨g, args⟩ := p
        rw [hc] at hr
        simp only at hr
        split at hr
        · rename_i v H' cv'
          obtain ⟨vs', rfl, hEH, hrec⟩ := fin v H' cv' hr
          simp only [oblS, hw, hc] at h
          obtain ⟨hS, h⟩ := h
          have hS : S.contains i = false := by
            cases hs : S.contains i with
            | false => rfl
            | true => exact absurd (hS hs) (by simp)
          simp only [oblOps, hw, hc]
          refine ⟨?_, hrec h.2⟩
          cases hE : E.contains i with
          | true =>
            rw [hE] at h
            simp only [if_true] at h ⊢
            rw [cnt_idx hasc hE]
            exact h.1
          | false =>
            rw [hE] at h
            simp only [Bool.false_eq_true, if_false] at h ⊢
            obtain ⟨s1, s2⟩ := hst i o ho hE hS
            have hns : scalOp o.op = false := by
              cases hop : o.op <;> rw [hop] at hc <;> simp only [callOf] at hc <;> first | (cases hc; done) | rfl
            rw [hns] at s2
            have s2 := s2.resolve_left (by simp)
            refine allC_of (fun c hcm => ?_)
            split
            · rename_i hp
              rcases s2 c (by simpa using hcm) hp with rfl | hm
              · exact allC_at h.1 _ (by simp)
              · exact allC_at h.1 _ (by simp [hm])
            · trivial
        · cases hr
      | none =>
        rw [hc] at hr
        simp only at hr
        cases hop : aop T o.op (evalA fr) H with
        | none => rw [hop] at hr; cases hr
        | some q =>
          obtain ⟨v, H'⟩ := q
          rw [hop] at hr
          simp only at hr
          obtain ⟨vs', rfl, hEH, hrec⟩ := fin v H' cv hr
          simp only [oblS, hw, hc] at h
          obtain ⟨hS, h⟩ := h
          have hS : S.contains i = false := by
            cases hs : S.contains i with
            | false => rfl
            | true => exact absurd (hS hs) (by simp)
          simp only [oblOps, hw, hc]
          refine ⟨?_, hrec h.2⟩
          cases hE : E.contains i with
          | true =>
            simp only [if_true]
            rw [cnt_idx hasc hE, hHi, hEH hE]
            exact hop
          | false =>
            rw [hE] at h
            simp only [Bool.false_eq_true, if_false, Bool.false_or] at h ⊢
            obtain ⟨s1, s2⟩ := hst i o ho hE hS
            have hHH := stillOp_ok s1 hop
            subst hHH
            refine allC_of (fun c hcm => ?_)
            split
            · rename_i hp
              cases hsc : scalOp o.op with
              | true => exact scalOp_ok hsc hop _
              | false =>
                rw [hsc] at h s2
                simp only [Bool.false_eq_true, if_false] at h
                rcases (s2.resolve_left (by simp)) c (by simpa using hcm) hp with rfl | hm
                · rw [hHi]; exact hop
                · exact allC_at h.1 _ hm
            · trivial
where
  allC_of {p : Nat → Prop} : ∀ {l : List Nat}, (∀ c ∈ l, p c) → allC p l
    | [], _ => trivial
    | c :: l, h => ⟨h c (by simp), allC_of (fun d hd => h d (by simp [hd]))⟩
theorem W_drawS (hT : TOk P T) (hm : P.follows .mixedOrders = true) {id : Nat} {ops : Array Oper} {Q : Exit → List V → List B → Prop} {fr : List V} {H : List B} (E S : List Nat) (tab : List (Nat × List Nat)) (cv : List (V × List B)) (hst : statS ops E S tab = true)
    (h : ∀ (C : V → List V → List B → (V → List B → Prop) → Prop) (K : List V → List B → Prop), (∀ fv args H K', WCall P fv args H K' → C fv args H K') → (∀ fr H, Q .normal fr H → K fr H) → DrawS T ops E S tab cv C K fr H) : W P (.region id ops true) Q fr H := by
  refine W_draw hT hm E cv fun C K hC hK => ?_
  have h1 := h C K hC hK
  unfold DrawS at h1
  unfold DrawOb
  simp only [statS, Bool.and_eq_true] at hst
  obtain ⟨⟨st1, st2⟩, st3⟩ := hst
  split at h1
  · exact h1.elim
  · rename_i vs hs f hr
    rw [hr]
    obtain ⟨a1, a2, a3⟩ := h1
    have hasc : ascB E = true := by
      unfold stat2 at st2
      simp only [Bool.and_eq_true] at st2
      exact st2.1.1
    have h00 : cntE E 0 = 0 := by cases E <;> simp [cntE]
    refine ⟨⟨stat_ok st1 st2, a1⟩, ?_, a3⟩
    refine oblS_ok hasc (fun i o ho hE hS => ?_) ops.toList 0 fr H cv vs hs f (by simp) hr (fun k hk => by rw [h00, Nat.zero_add]) (by rw [h00]; exact a2)
    have hil : i < ops.size := (Array.getElem?_eq_some_iff.1 ho).1
    have := List.all_eq_true.1 st3 i (by simpa using hil)
    rw [hE, hS, ho, Bool.false_or, Bool.false_or] at this
    simp only [Bool.and_eq_true, Bool.or_eq_true] at this
    refine ⟨this.1, this.2.imp (fun h => h) (fun hall c hc hp => ?_)⟩
    have h3 := List.all_eq_true.1 hall c (by simpa using hc)
    simp only [Bool.or_eq_true, Bool.not_eq_true', beq_iff_eq] at h3
    rcases h3 with (h3 | h3) | h3
    · rw [hp] at h3; cases h3
    · exact .inl h3
    · exact .inr (List.contains_iff_mem.1 h3)
end
attribute [simp] DrawS oblS
end Go.AM

/- Exx: results with own lists inside, as values. -/
namespace Go.AM
open Go
inductive ExpX (H : List B) : V → V → Prop
  | pure (v : V) (h : Pure v) : ExpX H v v
  | buf (k e z : Nat) (xs : List V) (fz : Bool) (hk : H[k]? = some (.buf e z xs fz)) (hp : ∀ x ∈ xs, Pure x) : ExpX H (.buf k 0 xs.length xs.length) (.lst z false xs)
  | bufx (k e z : Nat) (xs ys : List V) (fz : Bool) (hk : H[k]? = some (.buf e z xs fz)) (hl : xs.length = ys.length) (h : ∀ (i : Nat) c d, xs[i]? = some c → ys[i]? = some d → ExpX H c d) : ExpX H (.buf k 0 xs.length xs.length) (.lst z false ys)
  | agg (cs ds : List V) (hl : cs.length = ds.length) (h : ∀ (i : Nat) c d, cs[i]? = some c → ds[i]? = some d → ExpX H c d) : ExpX H (.agg cs) (.agg ds)
  | tup (cs ds : List V) (hl : cs.length = ds.length) (h : ∀ (i : Nat) c d, cs[i]? = some c → ds[i]? = some d → ExpX H c d) : ExpX H (.tup cs) (.tup ds)
theorem exL_of {f : Nat → V → Option V} : ∀ {xs ys : List V}, xs.length = ys.length → (∀ (i : Nat) x y, xs[i]? = some x → ys[i]? = some y → ∃ d0, ∀ d, d0 ≤ d → f d x = some y) → ∃ d0, ∀ d, d0 ≤ d → exL (f d) xs = some ys
  | [], [], _, _ => ⟨0, fun _ _ => rfl⟩
  | x :: xs, y :: ys, hl, h => by
    obtain ⟨d1, h1⟩ := h 0 x y rfl rfl
    obtain ⟨d2, h2⟩ := exL_of (xs := xs) (ys := ys) (by simpa using hl) (fun i a b ha hb => h (i + 1) a b (by simpa using ha) (by simpa using hb))
    exact ⟨max d1 d2, fun d hd => by simp only [exL, h1 d (by omega), h2 d (by omega)]⟩
theorem ExpX.ex {H : List B} {v v' : V} (h : ExpX H v v') : ∃ d0, ∀ d, d0 ≤ d → exV H 0 d v = some v' := by
  induction h with
  | pure v h => exact exV_pure h
  | buf k e z xs fz hk hp =>
    obtain ⟨d0, h0⟩ := exL_pure (f := exV H 0) (fun v hv => exV_pure (hp v hv))
    refine ⟨d0 + 1, fun d hd => ?_⟩
    obtain ⟨m, rfl⟩ : ∃ m, d = m + 1 := ⟨d - 1, by omega⟩
    simp only [exV, Nat.not_lt_zero, if_false, hk]
    rw [if_pos ⟨by first | trivial | rfl, by omega⟩, List.drop_zero, List.take_length, h0 m (by omega)]
  | bufx k e z xs ys fz hk hl _ ih =>
    obtain ⟨d0, h0⟩ := exL_of (f := exV H 0) hl ih
    refine ⟨d0 + 1, fun d hd => ?_⟩
    obtain ⟨m, rfl⟩ : ∃ m, d = m + 1 := ⟨d - 1, by omega⟩
    simp only [exV, Nat.not_lt_zero, if_false, hk]
    rw [if_pos ⟨by first | trivial | rfl, by omega⟩, List.drop_zero, List.take_length, h0 m (by omega)]
  | agg cs ds hl _ ih =>
    obtain ⟨d0, h0⟩ := exL_of (f := exV H 0) hl ih
    exact ⟨d0 + 1, fun d hd => by obtain ⟨m, rfl⟩ : ∃ m, d = m + 1 := ⟨d - 1, by omega⟩; simp only [exV, h0 m (by omega)]⟩
  | tup cs ds hl _ ih =>
    obtain ⟨d0, h0⟩ := exL_of (f := exV H 0) hl ih
    exact ⟨d0 + 1, fun d hd => by obtain ⟨m, rfl⟩ : ∃ m, d = m + 1 := ⟨d - 1, by omega⟩; simp only [exV, h0 m (by omega)]⟩
theorem ExpX.agg2 {H : List B} {a b c d : V} (h1 : ExpX H a c) (h2 : ExpX H b d) : ExpX H (.agg [a, b]) (.agg [c, d]) := .agg _ _ rfl (fun i x y hx hy => by
  match i with
  | 0 => simp at hx hy; subst hx; subst hy; exact h1
  | 1 => simp at hx hy; subst hx; subst hy; exact h2
  | i + 2 => simp at hx)
theorem expx_buf {H : List B} {k len e z : Nat} {xs : List V} {fz : Bool} (hk : H[k]? = some (.buf e z xs fz)) (hl : len = xs.length) (hp : ∀ x ∈ xs, Pure x) : ExpX H (.buf k 0 len len) (.lst z false xs) := by
  subst hl
  exact .buf k e z xs fz hk hp
theorem conP_of_conX {P : Program} {f : FuncId} {args : List V} {K : V → Prop} (h : ConH P f args [] fun r H => ∃ r', ExpX H r r' ∧ Pure r' ∧ K r') : ConP P f args K := by
  refine ⟨h.1, fun F w vals hZ hF hsz hrel => ?_⟩
  refine (h.2 (base F w) vals ⟨rfl, hZ⟩ (base_good hF) hsz hrel).mono fun e w' ⟨u, s', r, a1, a2, a3, a4, a5, r', a6, a7, a8⟩ => ?_
  subst a2
  have hb := below_of_step a4
  refine ⟨u, r', a1, a7, ?_, hb, a8⟩
  have hFs : s'.F = F := a4.F
  obtain ⟨d0, hd⟩ := a6.ex
  have hr := ex_rel (H := []) (G := s'.H) a3 rfl d0 r r' u a5 (hd d0 (Nat.le_refl _))
  exact hr.pure_ (t := base F s'.w) a7 (fun b hb => ⟨⟨hb.1, fun hf => hb.2.1 (by show s'.F b; rw [hFs]; exact hf), fun k hk => by have := hk.1; simp [base] at this⟩, rfl⟩)
end Go.AM

/- OwnE: nil lists inside the elements of an own list become own lists of no capacity. -/
namespace Go.AM
open Go
section
variable {P : Program} {T : Ty}
theorem W_ownE (e z k0 i : Nat) (sc : List Nat) {c : Code} {Q : Exit → List V → List B → Prop} {fr : List V} {H : List B} {e0 z0 : Nat} {xs cs : List V} (hk : H[k0]? = some (.buf e0 z0 xs false)) (hx : xs[i]? = some (.agg cs)) (hc : OwnF H.length cs (ownAt H.length sc 0 cs))
    (h : W P c Q fr (H.set k0 (.buf e0 z0 (xs.set i (.agg (ownAt H.length sc 0 cs))) false) ++ [.buf e z [] false])) : W P c Q fr H := by
  intro s a hA hg hf hd
  obtain ⟨rfl, hZ⟩ := hA
  obtain ⟨p1, p2⟩ := push0 hg 0 e z false rfl rfl rfl (Nat.le_refl _) (fun _ _ => rfl)
  have hlc := hc.len
  have hil := getElem?_lt hx
  have hkl := getElem?_lt hk
  obtain ⟨vs, g2, g3, g4, g5, g6, g7⟩ := hg.blk k0 _ hk
  have hκ : s.κ k0 ≠ 0 := by omega
  generalize hs1 : s.push s.w 0 0 (.buf e z [] false) = s1 at p1 p2
  have hk1 : s1.H[k0]? = some (.buf e0 z0 xs false) := by rw [← hs1]; simp only [St.push]; rw [List.getElem?_append_left hkl]; exact hk
  have hr1 : ∀ x y u, Rel s x u → (y = x ∨ (x = .nilS ∧ y = .buf s.H.length 0 0 0)) → Rel s1 y u := fun x y u h1 h2 => by subst hs1; exact rel_own p2 h1 h2
  have hw1 : s1.w = s.w := by rw [← hs1]; rfl
  have hφ : s1.φ k0 = s.φ k0 := by rw [← hs1]; exact upd_ne _ _ (by omega)
  have hκ1 : s1.κ k0 = s.κ k0 := by rw [← hs1]; exact upd_ne _ _ (by omega)
  have hlv : Lv s1 k0 := lvB hk1 (by rw [hκ1]; exact hκ)
  have hal : B.alike (.buf e0 z0 xs false) (.buf e0 z0 (xs.set i (.agg (ownAt s.H.length sc 0 cs))) false) := ⟨rfl, rfl, by simp, rfl, rfl⟩
  have hst := setB_step (w := s1.w) (bl' := .buf e0 z0 (xs.set i (.agg (ownAt s.H.length sc 0 cs))) false) p1 hk1 hlv hal rfl rfl rfl (Nat.le_refl _) (fun _ _ _ => rfl)
  have hgd : Good (s1.setB s1.w k0 (.buf e0 z0 (xs.set i (.agg (ownAt s.H.length sc 0 cs))) false)) := by
    refine setB_good p1 hk1 hlv hal rfl rfl rfl (Nat.le_refl _) (fun _ _ _ => rfl) (fun hst => ?_)
    refine ⟨vs, fun _ => by show s1.w.heap[s1.φ k0]? = _; rw [hw1, hφ]; exact g2 hκ, by show vs.size = s1.κ k0 * z0; rw [hκ1]; exact g3, by show _ ≤ s1.κ k0; rw [hκ1]; simpa using g4, by show s1.κ k0 ≤ _; rw [hκ1]; exact g5, fun x hxm => ?_, fun j x m d u hj hm hu => ?_⟩
    · rcases List.mem_or_eq_of_mem_set hxm with hxm | rfl
      · exact g6 x hxm
      · obtain ⟨q1, q2⟩ := g6 _ (List.mem_of_getElem? hx)
        refine ⟨by simp only [V.cells] at q1 ⊢; omega, fun d hd => ?_⟩
        simp only [V.cells] at hd q2
        obtain ⟨m, hm⟩ := List.mem_iff_getElem?.1 hd
        have hcm : cs[m]? = some (cs[m]'(by have := getElem?_lt hm; omega)) := List.getElem?_eq_getElem _
        rcases hc.at_ m _ d hcm hm with h9 | ⟨_, h9⟩
        · rw [h9]; exact q2 _ (List.getElem_mem _)
        · rw [h9]; rfl
    · by_cases hji : j = i
      · subst hji
        rw [List.getElem?_set_self hil] at hj
        cases hj
        simp only [V.cells] at hm
        have hcm : cs[m]? = some (cs[m]'(by have := getElem?_lt hm; omega)) := List.getElem?_eq_getElem _
        exact (hr1 _ d u (g7 j _ m _ u hx hcm hu) (hc.at_ m _ d hcm hm)).step hst
      · rw [List.getElem?_set_ne (Ne.symm hji)] at hj
        exact ((g7 j x m d u hj hm hu).step p2).step hst
  have hH : (s1.setB s1.w k0 (.buf e0 z0 (xs.set i (.agg (ownAt s.H.length sc 0 cs))) false)).H = s.H.set k0 (.buf e0 z0 (xs.set i (.agg (ownAt s.H.length sc 0 cs))) false) ++ [.buf e z [] false] := by
    rw [← hs1]
    simp only [St.setB, St.push]
    rw [List.set_append, if_pos hkl]
  have := h (s1.setB s1.w k0 (.buf e0 z0 (xs.set i (.agg (ownAt s.H.length sc 0 cs))) false)) a ⟨hH, (hZ.step p2).step hst⟩ hgd ⟨hf.len, fun i v u hv hu => ((hf.rel i v u hv hu).step p2).step hst⟩ hd
  have e1 : (s1.setB s1.w k0 (.buf e0 z0 (xs.set i (.agg (ownAt s.H.length sc 0 cs))) false)).w = s.w := hw1
  rw [e1] at this
  exact wp_mono this fun _ _ _ hl => leaves_trans (p2.trans hst) hl
/-- The first t elements have own lists. -/
def ownTo (n0 t : Nat) (us : List V) : List V := us.mapIdx fun i a => if i < t then .agg [a, .buf (n0 + i) 0 0 0] else .agg [a, .nilS]
theorem ownTo_zero (n0 : Nat) (us : List V) : ownTo n0 0 us = us.map fun a => .agg [a, .nilS] := by
  unfold ownTo
  apply List.ext_getElem
  · simp
  · intro i h1 h2; simp
theorem ownTo_set (n0 t : Nat) (us : List V) (h : t < us.length) : (ownTo n0 t us).set t (.agg [us[t], .buf (n0 + t) 0 0 0]) = ownTo n0 (t + 1) us := by
  apply List.ext_getElem
  · simp [ownTo]
  · intro i h1 h2
    simp only [ownTo, List.getElem_set, List.getElem_mapIdx]
    by_cases hi : t = i
    · subst hi; simp
    · rw [if_neg hi]
      by_cases h3 : i < t
      · simp [h3, show i < t + 1 by omega]
      · simp [h3, show ¬ i < t + 1 by omega]
theorem ownTo_all (n0 : Nat) (us : List V) : ownTo n0 us.length us = us.mapIdx fun i a => .agg [a, .buf (n0 + i) 0 0 0] := by
  apply List.ext_getElem
  · simp [ownTo]
  · intro i h1 h2
    have : i < us.length := by simpa [ownTo] using h1
    simp [ownTo, this]
/-- All second cells, which are nil, become own lists. -/
theorem W_ownAll (e z k0 : Nat) (us : List V) {c : Code} {Q : Exit → List V → List B → Prop} {fr : List V} {H : List B} {e0 z0 : Nat} (hk : H[k0]? = some (.buf e0 z0 (us.map fun a => .agg [a, .nilS]) false))
    (h : W P c Q fr (H.set k0 (.buf e0 z0 (us.mapIdx fun i a => .agg [a, .buf (H.length + i) 0 0 0]) false) ++ List.replicate us.length (.buf e z [] false))) : W P c Q fr H := by
  have hkl := getElem?_lt hk
  have key : ∀ t, t ≤ us.length → W P c Q fr (H.set k0 (.buf e0 z0 (ownTo H.length t us) false) ++ List.replicate t (.buf e z [] false)) → W P c Q fr H := by
    intro t
    induction t with
    | zero =>
      intro _ hw
      rw [ownTo_zero, List.replicate_zero, List.append_nil] at hw
      rwa [show H.set k0 (.buf e0 z0 (us.map fun a => .agg [a, .nilS]) false) = H from by
        have : H[k0] = .buf e0 z0 (us.map fun a => .agg [a, .nilS]) false := by rw [List.getElem?_eq_getElem hkl] at hk; exact Option.some.inj hk
        rw [← this, List.set_getElem_self]] at hw
    | succ t ih =>
      intro ht hw
      refine ih (by omega) ?_
      have htl : t < us.length := by omega
      refine W_ownE e z k0 t [1] (e0 := e0) (z0 := z0) (xs := ownTo H.length t us) (cs := [us[t], .nilS]) ?_ ?_ ?_ ?_
      · rw [List.getElem?_append_left (by simpa using hkl), List.getElem?_set_self hkl]
      · rw [List.getElem?_eq_getElem (by simpa [ownTo] using htl)]
        simp [ownTo]
      · simp [OwnF, ownAt]
      · have e1 : (H.set k0 (B.buf e0 z0 (ownTo H.length t us) false) ++ List.replicate t (B.buf e z [] false)).length = H.length + t := by simp
        simp only [e1, ownAt]
        rw [List.set_append, if_pos (by simpa using hkl), List.set_set]
        have e2 := ownTo_set H.length t us htl
        simp only [List.contains_cons, List.contains_nil, Bool.or_false, Nat.reduceBEq, Nat.zero_add, Bool.false_eq_true, if_false, if_true, beq_self_eq_true]
        rw [e2, List.append_assoc, ← List.replicate_succ']
        exact hw
  refine key us.length (Nat.le_refl _) ?_
  rw [ownTo_all]
  exact h
end
end Go.AM
