import Derived.Test.YtfaleabndlcanaaGreatDoorAMe
/- WX: straight code at one blow: what simp unfolds up to the next loop or call. -/
namespace Go.AM
open Go

inductive Tag (p : Prop) : Type
  | mk
/-- What simp shall not look into. -/
def Stop (p : Prop) (_ : Tag p) : Prop := p
theorem stop_of {p : Prop} {t : Tag p} (h : p) : Stop p t := h
inductive QTag (Q : Exit → List V → List B → Prop) : Type
  | mk

inductive XTag (X : List V → List B → Prop) : Type
  | mk
/-- What comes behind a call; closed to simp until the result is known. -/
def Behind (X : List V → List B → Prop) (_ : XTag X) (fr : List V) (d : Option Tmp) (r : V) (H : List B) : Prop := X (putF fr d r) H
def XOps (T : Ty) (ops : Array Oper) (C : V → List V → List B → (V → List B → Prop) → Prop) (K : List V → List B → Prop) : List Oper → List V → List B → Prop
  | [], fr, H => K fr H
  | o :: rest, fr, H => match wantA ops fr o with
    | some b => if b = true then (match callOf o.op with
      | some (f, args) => C (evalA fr f) (args.map (evalA fr)) H (Behind (XOps T ops C K rest) .mk fr o.dst)
      | none => match aop T o.op (evalA fr) H with
        | some (v, H') => XOps T ops C K rest (putF fr o.dst v) H'
        | none => False)
      else XOps T ops C K rest (putF fr o.dst (.tup [])) H
    | none => False
/-- A call that leaves the heap alone. -/
def CY (C : V → List V → List B → (V → List B → Prop) → Prop) (f : V) (args : List V) (H : List B) (K : V → List B → Prop) : Prop := ∃ v, C f args H (fun r H' => r = v ∧ H' = H) ∧ K v H
theorem cy_of {C : V → List V → List B → (V → List B → Prop) → Prop} {f : V} {args : List V} {H : List B} {K : V → List B → Prop} (v : V) (h : C f args H (fun r H' => r = v ∧ H' = H)) (hk : K v H) : CY C f args H K := ⟨v, h, hk⟩
/-- A region that draws its order and leaves the abstract heap alone. -/
def YOps (T : Ty) (ops : Array Oper) (C : V → List V → List B → (V → List B → Prop) → Prop) (K : List V → List B → Prop) : List Oper → List V → List B → Prop
  | [], fr, H => K fr H
  | o :: rest, fr, H => match wantA ops fr o with
    | some b => if b = true then (match callOf o.op with
      | some (f, args) => CY C (evalA fr f) (args.map (evalA fr)) H (Behind (YOps T ops C K rest) .mk fr o.dst)
      | none => match aop T o.op (evalA fr) H with
        | some (v, H') => H' = H ∧ YOps T ops C K rest (putF fr o.dst v) H
        | none => False)
      else YOps T ops C K rest (putF fr o.dst (.tup [])) H
    | none => False

section
variable {P : Program} {T : Ty}
theorem xops_ok {ops : Array Oper} {C : V → List V → List B → (V → List B → Prop) → Prop} (hmono : ∀ fv args H K K', (∀ r H', K r H' → K' r H') → C fv args H K → C fv args H K') {K : List V → List B → Prop} : ∀ (l : List Oper) (fr : List V) (H : List B), XOps T ops C K l fr H → WOps T ops C K l fr H
  | [], _, _, h => h
  | o :: rest, fr, H, h => by
    simp only [XOps] at h
    simp only [WOps]
    cases hw : wantA ops fr o with
    | none => rw [hw] at h; exact h.elim
    | some b =>
    rw [hw] at h
    cases b with
    | false => exact xops_ok hmono rest _ _ (by simpa using h)
    | true =>
      simp only [if_true] at h
      cases hc : callOf o.op with
      | some p =>
        obtain ⟨f, args⟩ := p
        rw [hc] at h
        exact hmono _ _ _ _ _ (fun r H' hk => xops_ok hmono rest _ _ hk) h
      | none =>
        rw [hc] at h
        cases hop : aop T o.op (evalA fr) H with
        | none => simp only [hop] at h
        | some q =>
          obtain ⟨v, H'⟩ := q
          simp only [hop] at h ⊢
          exact xops_ok hmono rest _ _ h
theorem yops_ok {ops : Array Oper} {C : V → List V → List B → (V → List B → Prop) → Prop} {K : List V → List B → Prop} : ∀ (l : List Oper) (fr : List V) (H : List B), YOps T ops C K l fr H → ∃ cv, QOps T ops C K l fr H cv
  | [], _, _, h => ⟨[], h⟩
  | o :: rest, fr, H, h => by
    simp only [YOps] at h
    simp only [QOps]
    cases hw : wantA ops fr o with
    | none => rw [hw] at h; exact h.elim
    | some b =>
    rw [hw] at h
    cases b with
    | false => exact yops_ok rest _ _ (by simpa using h)
    | true =>
      simp only [if_true] at h
      cases hc : callOf o.op with
      | some p =>
        obtain ⟨f, args⟩ := p
        rw [hc] at h
        obtain ⟨v, h1, h2⟩ := h
        obtain ⟨cv, h3⟩ := yops_ok rest _ _ h2
        exact ⟨v :: cv, h1, h3⟩
      | none =>
        rw [hc] at h
        cases hop : aop T o.op (evalA fr) H with
        | none => simp only [hop] at h
        | some q =>
          obtain ⟨v, H'⟩ := q
          simp only [hop] at h ⊢
          obtain ⟨cv, h3⟩ := yops_ok rest _ _ h.2
          exact ⟨cv, h.1, h3⟩

/-- Some operation may turn the abstract heap. -/
def hasEff : List Oper → Bool
  | [] => false
  | o :: r => !stillOp o.op || hasEff r
/-- The code; C: a call, L: a loop, or a region that draws its order and turns the heap. -/
def WX (T : Ty) (C : V → List V → List B → (V → List B → Prop) → Prop) (L : (c : Code) → (Q : Exit → List V → List B → Prop) → QTag Q → List V → List B → Prop) : Code → (Exit → List V → List B → Prop) → List V → List B → Prop
  | .skip, Q, fr, H => Q .normal fr H
  | .region _ ops false, Q, fr, H => XOps T ops C (Q .normal) ops.toList fr H
  | .region id ops true, Q, fr, H => L (.region id ops true) Q .mk fr H ∨ if hasEff ops.toList = true then False else Stop (stat1 ops = true) .mk ∧ YOps T ops C (Q .normal) ops.toList fr H
  | .seq a b, Q, fr, H => WX T C L a (thenQ (WX T C L b Q) Q) fr H
  | .cond c a b, Q, fr, H => match evalA fr c with
    | .bool t => if t = true then WX T C L a Q fr H else WX T C L b Q fr H
    | _ => False
  | .block id c, Q, fr, H => WX T C L c (blockQ id Q) fr H
  | .loop c, Q, fr, H => L (.loop c) Q .mk fr H
  | .exit id, Q, fr, H => Q (.exit id) fr H
  | .ret, Q, fr, H => Q .ret fr H
  | _, _, _, _ => False
/-- A loop, closed to simp. -/
def LW (P : Program) (c : Code) (Q : Exit → List V → List B → Prop) (_ : QTag Q) (fr : List V) (H : List B) : Prop := W P c Q fr H
theorem lw_of {c : Code} {Q : Exit → List V → List B → Prop} {t : QTag Q} {fr : List V} {H : List B} (h : W P c Q fr H) : LW P c Q t fr H := h
theorem wx_ok (hT : TOk P T) (hm : P.follows .mixedOrders = true) : ∀ (c : Code) (Q : Exit → List V → List B → Prop) (fr : List V) (H : List B), WX T (WCall P) (LW P) c Q fr H → W P c Q fr H
  | .skip, Q, fr, H, h => W_skip h
  | .region id ops false, Q, fr, H, h => by
    intro s a h1 h2 h3 h4
    refine W_region hT (fun C K hC hK => ?_) s a h1 h2 h3 h4
    have := xops_ok (C := WCall P) (fun _ _ _ _ _ hk hc => hc.mono hk) _ _ _ h
    refine evCode_ok.WOps_mono hC _ _ _ ?_
    exact wops_k (fun fr H hq => hK fr H hq) _ _ _ this
  | .region id ops true, Q, fr, H, h => by
    simp only [WX] at h
    rcases h with h | h
    · exact h
    split at h
    · exact h.elim
    obtain ⟨hst, h⟩ := h
    obtain ⟨cv, hq⟩ := yops_ok _ _ _ h
    intro s a h1 h2 h3 h4
    refine W_quiet hT hm cv (stat_ok hst (by simp [stat2, ascB])) (fun C K hC hK => ?_) s a h1 h2 h3 h4
    exact qops_mono hC hK _ _ _ _ hq
  | .seq a b, Q, fr, H, h => W_seq ((wx_ok hT hm a _ fr H h).mono fun e fr' H' hq => by
      cases e with
      | normal => exact wx_ok hT hm b Q fr' H' hq
      | _ => exact hq)
  | .cond c a b, Q, fr, H, h => by
    simp only [WX] at h
    split at h
    · rename_i t ht
      refine W_cond ht ?_
      cases t with
      | true => exact wx_ok hT hm a Q fr H (by simpa using h)
      | false => exact wx_ok hT hm b Q fr H (by simpa using h)
    · exact h.elim
  | .block id c, Q, fr, H, h => W_block (wx_ok hT hm c _ fr H h)
  | .loop c, Q, fr, H, h => h
  | .exit id, Q, fr, H, h => W_exit h
  | .ret, Q, fr, H, h => W_ret h
  | .rangeFunc .., _, _, _, h => h.elim
  | .scope _, _, _, _, h => h.elim
  | .label _, _, _, _, h => h.elim
  | .goto _, _, _, _, h => h.elim
  | .refuse _, _, _, _, h => h.elim
where
  wops_k {ops : Array Oper} {K K' : List V → List B → Prop} (hk : ∀ fr H, K fr H → K' fr H) : ∀ (l : List Oper) (fr : List V) (H : List B), WOps T ops (WCall P) K l fr H → WOps T ops (WCall P) K' l fr H
    | [], fr, H, h => hk fr H h
    | o :: rest, fr, H, h => by
      simp only [WOps] at h ⊢
      split at h
      · split at h
        · exact h.mono fun r H' h' => wops_k hk rest _ _ h'
        · split at h
          · exact wops_k hk rest _ _ h
          · exact h
      · exact wops_k hk rest _ _ h
      · exact h
  qops_mono {ops : Array Oper} {C : V → List V → List B → (V → List B → Prop) → Prop} (hC : ∀ fv args H K', WCall P fv args H K' → C fv args H K') {K K' : List V → List B → Prop} (hk : ∀ fr H, K fr H → K' fr H) : ∀ (l : List Oper) (fr : List V) (H : List B) (cv : List V), QOps T ops (WCall P) K l fr H cv → QOps T ops C K' l fr H cv
    | [], fr, H, _, h => hk fr H h
    | o :: rest, fr, H, cv, h => by
      simp only [QOps] at h ⊢
      split at h
      · split at h
        · split at h
          · exact ⟨hC _ _ _ _ h.1, qops_mono hC hk rest _ _ _ h.2⟩
          · exact h
        · split at h
          · exact ⟨h.1, qops_mono hC hk rest _ _ _ h.2⟩
          · exact h
      · exact qops_mono hC hk rest _ _ _ h
      · exact h
/-- How a proof starts: calls and loops stay closed. -/
theorem W_x (hT : TOk P T) (hm : P.follows .mixedOrders = true) {c : Code} {Q : Exit → List V → List B → Prop} {fr : List V} {H : List B} (h : WX T (WCall P) (LW P) c Q fr H) : W P c Q fr H := wx_ok hT hm c Q fr H h

/-- Slots that a loop turns are forgotten. -/
def maskF (ms : List Nat) : Nat → List V → List V
  | _, [] => []
  | i, v :: r => (if ms.contains i then .undef else v) :: maskF ms (i + 1) r
def ovr : List V → List (Nat × V) → List V
  | fr, [] => fr
  | fr, (i, v) :: r => ovr (fr.set i v) r
/-- A loop that turns the slots ms: g: what is known of them at its head. -/
theorem W_loopG {σ : Type} (ms : List Nat) (ok : σ → Prop) (μ : σ → Nat) (g : σ → List (Nat × V)) (Hf : σ → List B) {c : Code} {Q : Exit → List V → List B → Prop} {fr : List V} {H : List B} (x0 : σ) (h0 : ok x0) (hF : Less (ovr (maskF ms 0 fr) (g x0)) fr) (hH : H = Hf x0)
    (hmin : ∀ x, ok x → H.length ≤ (Hf x).length)
    (hround : ∀ x, ok x → W P c (thenQ (fun fr' H' => Stop (∃ y, ok y ∧ μ y < μ x ∧ Less (ovr (maskF ms 0 fr) (g y)) fr' ∧ (∃ G, H' = Hf y ++ G) ∧ (∀ v ∈ ovr (maskF ms 0 fr) (g y), rb (Hf y).length v) ∧ ∀ bl ∈ Hf y, rbB (Hf y).length bl) .mk) Q) (ovr (maskF ms 0 fr) (g x)) (Hf x)) : W P (.loop c) Q fr H :=
  W_loopS ok μ (fun x => ovr (maskF ms 0 fr) (g x)) Hf x0 h0 hF hH hmin hround
end
attribute [simp ↓] XOps YOps WX Behind
attribute [simp] hasEff stillOp
attribute [simp] maskF ovr

@[simp] theorem exp_bool (H : List B) (b : Bool) (v : V) : Exp H (.bool b) v ↔ v = .bool b := ⟨fun h => by cases h; rfl, fun h => by subst h; exact .pure _ (.bool b)⟩
@[simp] theorem exp_int (H : List B) (k : IntKind) (n : Int) (v : V) : Exp H (.int k n) v ↔ v = .int k n := ⟨fun h => by cases h; rfl, fun h => by subst h; exact .pure _ (.int k n)⟩
@[simp] theorem exp_str (H : List B) (x : ByteArray) (v : V) : Exp H (.str x) v ↔ v = .str x := ⟨fun h => by cases h; rfl, fun h => by subst h; exact .pure _ (.str x)⟩
@[simp] theorem exp_nilS (H : List B) (v : V) : Exp H .nilS v ↔ v = .nilS := ⟨fun h => by cases h; rfl, fun h => by subst h; exact .pure _ .nilS⟩
@[simp] theorem exp_lst (H : List B) (z : Nat) (f : Bool) (xs : List V) (v : V) : Exp H (.lst z f xs) v ↔ v = .lst z f xs ∧ ∀ x ∈ xs, Pure x := ⟨fun h => by cases h with | pure _ h => cases h; exact ⟨rfl, by assumption⟩, fun ⟨h, h2⟩ => by subst h; exact .pure _ (.lst _ _ _ h2)⟩
@[simp] theorem exp_agg (H : List B) (xs : List V) (v : V) : Exp H (.agg xs) v ↔ v = .agg xs ∧ ∀ x ∈ xs, Pure x := ⟨fun h => by cases h with | pure _ h => cases h; exact ⟨rfl, by assumption⟩, fun ⟨h, h2⟩ => by subst h; exact .pure _ (.agg _ h2)⟩
@[simp] theorem exp_tup (H : List B) (xs : List V) (v : V) : Exp H (.tup xs) v ↔ v = .tup xs ∧ ∀ x ∈ xs, Pure x := ⟨fun h => by cases h with | pure _ h => cases h; exact ⟨rfl, by assumption⟩, fun ⟨h, h2⟩ => by subst h; exact .pure _ (.tup _ h2)⟩
theorem exp_buf {H : List B} {k len e z : Nat} {xs : List V} {fz : Bool} (hk : H[k]? = some (.buf e z xs fz)) (hl : len = xs.length) (hp : ∀ x ∈ xs, Pure x) : Exp H (.buf k 0 len len) (.lst z false xs) := by
  subst hl
  have := Exp.buf (H := H) k 0 xs.length e z xs fz hk (by simp) hp
  simpa using this
end Go.AM
