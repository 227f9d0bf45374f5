/- V7: the program's forest: fill. Expanded by pp.py. -/
import Derived.Test.YteijbpppalhihaaGreatV6
set_option linter.unusedVariables false
set_option linter.unusedSimpArgs false
set_option maxRecDepth 100000
namespace Go.Proofs.YteijbpppalhihaaGreat
open Go Go.AM
def FdsOk (fds : List Fd) : Prop := fds.length ≤ 1000000 ∧ ∀ d ∈ fds, d.l < 4294967296 ∧ d.r < 4294967296
def ClsP (q : Prob) (r : Nat → Nat) (d : Fd) (i k : Nat) : Prop := AgrE q r i k d.l q.n → AgrE q r i k d.r q.n
def ClsD (q : Prob) (r : Nat → Nat) (d : Fd) (m : Nat) : Prop := ∀ i k, i < m → k < i → ClsP q r d i k
theorem agrE_bit {q : Prob} {r : Nat → Nat} {i k s : Nat} (hs : s < 4294967296) (hn : q.n ≤ 16) : AgrE q r i k s q.n ↔ ∀ a, a < q.n → s.testBit a = true → eqv q r (i * q.n + a) (k * q.n + a) := by
  unfold AgrE
  constructor
  · intro h a ha hb; exact h a ha (by rw [hasB_bit s a hs (by omega)]; exact hb)
  · intro h a ha hb; exact h a ha (by rw [hasB_bit s a hs (by omega)] at hb; exact hb)
theorem closed_of {q : Prob} {r : Nat → Nat} (hn : q.n ≤ 16) (hd : ∀ d ∈ q.fds, d.l < 4294967296 ∧ d.r < 4294967296) (h : ∀ d ∈ q.fds, ClsD q r d q.m) : Closed q r := fun d hd1 i k hi hk hl =>
  (agrE_bit (hd d hd1).2 hn).1 (h d hd1 i k hi hk ((agrE_bit (hd d hd1).1 hn).2 hl))
/-- Cells that must be equal. -/
theorem must {q : Prob} {P : List Nat} {r h : Nat → Nat} (f : Frt q P r h) (hn : q.n ≤ 16) {d : Fd} (hd : d ∈ q.fds) (hb : d.l < 4294967296 ∧ d.r < 4294967296) {i k a : Nat} (hi : i < q.m) (hk : k < i) (hl : AgrE q r i k d.l q.n) (ha : a < q.n) (hr : hasB d.r a = true) :
    ∀ σ, Sol q σ → σ (i * q.n + a) = σ (k * q.n + a) := fun σ hσ => by
  refine hσ.dep d hd i k hi hk (fun b hb1 hb2 => ?_) a ha (by rw [hasB_bit _ _ hb.2 (by omega)] at hr; exact hr)
  exact f.eqv_sem hσ (cell_lt hi hb1) (cell_lt (by omega) hb1) ((agrE_bit hb.1 hn).1 hl b hb1 hb2)
theorem ht_app (H : List B) (kp : Nat) (P : List Nat) (c : B) (h : kp < H.length) : Ht H kp P ++ [c] = Ht (H ++ [c]) kp P := by
  unfold Ht; rw [List.set_append_left _ _ h]
theorem rb1_mono {n m : Nat} (h : n ≤ m) {v : V} (hv : rb1 n v) : rb1 m v := by
  cases v <;> simp only [rb1] at hv ⊢ <;> first | exact hv | omega | trivial
theorem rb_mono {n m : Nat} (h : n ≤ m) {v : V} (hv : rb n v) : rb m v := by
  cases v <;> simp only [rb] at hv ⊢ <;> first | exact rb1_mono h hv | exact fun c hc => rb1_mono h (hv c hc) | trivial
theorem rbB_mono {n m : Nat} (h : n ≤ m) {bl : B} (hb : rbB n bl) : rbB m bl := by
  cases bl with
  | cells cs => exact fun c hc => rb_mono h (hb c hc)
  | map kk es => exact fun p hp => ⟨rb_mono h (hb p hp).1, rb_mono h (hb p hp).2⟩
  | buf e z xs fz => exact fun x hx c hc => rb_mono h (hb x hx c hc)
theorem HOk.app {H : List B} {k0 kp kq n N : Nat} {K : Nat → Option Vl} (g : HOk H k0 kp kq n N K) (a b : Int) : HOk (H ++ [B.cells [.int .u32 a, .int .u32 b]]) k0 kp kq n N K := by
  refine ⟨?_, by have := g.hp; simp; omega, ?_, g.n0, g.nq, fun P bl hb => ?_⟩
  · rw [List.getElem?_append_left g.lt0]; exact g.h0
  · rw [List.getElem?_append_left (getElem?_lt g.hq)]; exact g.hq
  · rw [← ht_app _ _ _ _ g.hp] at hb
    rcases List.mem_append.1 hb with hb | hb
    · have := g.rb P bl hb
      exact rbB_mono (by simp) this
    · simp only [List.mem_singleton] at hb
      subst hb
      simp
open Classical in
/-- The roots of a forest. -/
noncomputable def rFn (q : Prob) (P : List Nat) : Nat → Nat := if h : ∃ r h, Frt q P r h then h.choose else id
def Fr (q : Prob) (P : List Nat) : Prop := ∃ h, Frt q P (rFn q P) h
theorem fr_of {q : Prob} {P : List Nat} {r h : Nat → Nat} (f : Frt q P r h) : Fr q P := by
  have hex : ∃ r h, Frt q P r h := ⟨r, h, f⟩
  unfold Fr rFn
  rw [dif_pos hex]
  exact hex.choose_spec
/-- The states of fill. -/
inductive FlSt where
  | top (ag : Bool) (P : List Nat)
  | fd (j : Nat) (ag : Bool) (P : List Nat)
  | row (j i : Nat) (ag : Bool) (P : List Nat)
  | col (j i k : Nat) (ag : Bool) (P : List Nat)
  | att (j i k a : Nat) (P : List Nat)
  | done (b : Bool) (P : List Nat) (tl : List B)
def fdAt (q : Prob) (j : Nat) : Fd := q.fds.getD j ⟨0, 0⟩
def fdB (d : Fd) : B := B.cells [.int .u32 (d.l : Int), .int .u32 (d.r : Int)]
open Classical in
noncomputable def fstp (q : Prob) : FlSt → FlSt
  | .top false P => .done true P []
  | .top true P => .fd 0 false P
  | .fd j ag P => if j < q.fds.length then .row j 0 ag P else .top ag P
  | .row j i ag P => if i < q.m then .col j i 0 ag P else .fd (j + 1) ag P
  | .col j i k ag P => if k < i then (if agB q (rFn q P) i k (fdAt q j).l = false ∨ agB q (rFn q P) i k (fdAt q j).r = true then .col j i (k + 1) ag P else .att j i k 0 P) else .row j (i + 1) ag P
  | .att j i k a P => if a < q.n then (if hasB (fdAt q j).r a = true then (if joinB q (rFn q P) (i * q.n + a) (k * q.n + a) = true then .att j i k (a + 1) (joinP q P (rFn q P) (i * q.n + a) (k * q.n + a)) else .done false (joinP q P (rFn q P) (i * q.n + a) (k * q.n + a)) [fdB (fdAt q j)]) else .att j i k (a + 1) P) else .col j i (k + 1) true P
  | .done b P tl => .done b P tl
noncomputable def fit (q : Prob) : Nat → FlSt → FlSt
  | 0, s => s
  | n + 1, s => fit q n (fstp q s)
theorem fit_add (q : Prob) : ∀ (n k : Nat) (s : FlSt), fit q (n + k) s = fit q k (fit q n s)
  | 0, k, s => by rw [Nat.zero_add]; rfl
  | n + 1, k, s => by rw [show n + 1 + k = (n + k) + 1 by omega]; exact fit_add q n k (fstp q s)
theorem fit_done (q : Prob) (b : Bool) (P : List Nat) (tl : List B) : ∀ n, fit q n (.done b P tl) = .done b P tl
  | 0 => rfl
  | n + 1 => fit_done q b P tl n
def Rch (q : Prob) (s t : FlSt) : Prop := ∃ n, fit q n s = t
theorem Rch.refl (q : Prob) (s : FlSt) : Rch q s s := ⟨0, rfl⟩
theorem Rch.step {q : Prob} {s t u : FlSt} (h : Rch q s t) (hs : fstp q t = u) : Rch q s u := by
  obtain ⟨n, hn⟩ := h
  refine ⟨n + 1, ?_⟩
  rw [fit_add, hn]; exact hs
theorem Rch.uniq {q : Prob} {s : FlSt} {b b' : Bool} {P P' : List Nat} {tl tl' : List B} (h : Rch q s (.done b P tl)) (g : Rch q s (.done b' P' tl')) : FlSt.done b P tl = .done b' P' tl' := by
  obtain ⟨n, hn⟩ := h
  obtain ⟨m, hm⟩ := g
  rcases Nat.le_total n m with e | e
  · obtain ⟨k, rfl⟩ := Nat.exists_eq_add_of_le e
    rw [fit_add, hn, fit_done] at hm; exact hm
  · obtain ⟨k, rfl⟩ := Nat.exists_eq_add_of_le e
    rw [fit_add, hm, fit_done] at hn; exact hn.symm
open Classical in
/-- What fill comes to. -/
noncomputable def fillP (q : Prob) (P : List Nat) : List Nat := if h : ∃ o : Bool × List Nat × List B, Rch q (.top true P) (.done o.1 o.2.1 o.2.2) then h.choose.2.1 else P
open Classical in
noncomputable def fillT (q : Prob) (P : List Nat) : List B := if h : ∃ o : Bool × List Nat × List B, Rch q (.top true P) (.done o.1 o.2.1 o.2.2) then h.choose.2.2 else []
theorem fill_eq {q : Prob} {P P' : List Nat} {b : Bool} {tl : List B} (h : Rch q (.top true P) (.done b P' tl)) : fillP q P = P' ∧ fillT q P = tl := by
  have hex : ∃ o : Bool × List Nat × List B, Rch q (.top true P) (.done o.1 o.2.1 o.2.2) := ⟨(b, P', tl), h⟩
  have := Rch.uniq hex.choose_spec h
  unfold fillP fillT
  rw [dif_pos hex, dif_pos hex]
  simp only [FlSt.done.injEq] at this
  exact ⟨this.2.1, this.2.2⟩
/-- What the forest is in the midst of a round. -/
def Mid (q : Prob) (P0 : List Nat) (ag : Bool) (P : List Nat) (C : (Nat → Nat) → Prop) : Prop := Fr q P ∧ (ag = true → cntR P < cntR P0) ∧ (ag = false → P = P0 ∧ C (rFn q P))
theorem Mid.imp {q : Prob} {P0 P : List Nat} {ag : Bool} {C C' : (Nat → Nat) → Prop} (h : Mid q P0 ag P C) (hi : ag = false → ∀ r, C r → C' r) : Mid q P0 ag P C' := by
  obtain ⟨a, b, c⟩ := h
  exact ⟨a, b, fun e => ⟨(c e).1, hi e _ (c e).2⟩⟩
set_option maxHeartbeats 64000000 in
theorem fill_u {q : Prob} {P0 : List Nat} {r0 h0' : Nat → Nat} (f0 : Frt q P0 r0 h0') {H : List B} {k0 kp kq n N : Nat} (hNe : q.m * q.n = N) (hn : q.n = n) (g : HOk H k0 kp kq n N q.K) (hN : N ≤ 1000000) (hn2 : n ≤ 16) (hm : q.m ≤ 1000000) (ff : Bool) (hF : FdsOk q.fds) :
    ConH Tryz.prog 52 [.ptr k0 0, .int .i64 q.m, LF ff q.fds] (Ht H kp P0) fun r' H' => r' = .bool (okB q) ∧ H' = Ht H kp (fillP q P0) ++ fillT q P0 ∧ (okB q = true → fillT q P0 = [] ∧ Fr q (fillP q P0) ∧ Closed q (rFn q (fillP q P0))) := by
  obtain ⟨hF1, hF2⟩ := hF
  obtain ⟨fds, hfds⟩ : ∃ fds, fds = q.fds := ⟨_, rfl⟩
  rw [← hfds] at hF1 hF2 ⊢
  obtain ⟨m, hme⟩ : ∃ m, m = q.m := ⟨_, rfl⟩
  rw [← hme] at hm ⊢
  refine conH_of_W tok Tryz.func52 rfl rfl ?_
  refine W_x tok mixed ?_
  simp -implicitDefEqProofs -dsimp [Tryz.f52, List.replicate, LF]
  refine lw_of (W_loopV [false, false, false, false, false, false, true, true, false, true, true, true, true, true, true, true, true, true, true, true, true, true, true, true, true, true, true, true, true, true, true, true, true, true, true, true, true, true, true, true, true, true, true, true, true, true, true, true, true, true, true, true, true, true, true, true, true, true, true, true, true, true, true, true, true, true, true, true, true, true, true, true, true, true, true, true, true, true, true, true, true] (σ := Bool × List Nat) (fun p => Fr q p.2 ∧ (p.1 = false → Closed q (rFn q p.2)) ∧ Rch q (.top true P0) (.top p.1 p.2)) (fun p => cntR p.2 + (if p.1 then 1 else 0)) (fun p => [(7, .bool p.1)]) (fun p => Ht H kp p.2) (true, P0) ⟨fr_of f0, (fun h => by cases h), Rch.refl _ _⟩ (by simp) rfl (by simp [ht_len]) ?_)
  rintro ⟨ag, P⟩ ⟨f, hcl, hR⟩ N1 Q1 hN1 hQ1
  simp only at f hcl hR
  have hl0 := ptrRb g P
  cases ag with
  | false =>
    refine W_x tok mixed ?_
    simp -implicitDefEqProofs -dsimp []
    refine hQ1 _ _ _ ?_
    simp -implicitDefEqProofs -dsimp []
    obtain ⟨e1, e2⟩ := fill_eq (hR.step (u := .done true P []) rfl)
    obtain ⟨h, f⟩ := f
    rw [okB_true ⟨_, f.sol (hcl rfl)⟩, e1, e2]
    exact ⟨rfl, by rw [List.append_nil], fun _ => ⟨rfl, ⟨h, f⟩, hcl rfl⟩⟩
  | true =>
    refine W_x tok mixed ?_
    simp -implicitDefEqProofs -dsimp []
    refine lw_of (W_loopV [false, false, false, false, false, false, true, true, false, true, true, true, true, false, false, false, true, true, true, true, true, true, true, true, true, true, true, true, true, true, true, true, true, true, true, true, true, true, true, true, true, true, true, true, true, true, true, true, true, true, true, true, true, true, true, true, true, true, true, true, true, true, true, true, true, true, true, true, true, true, true, true, true, true, true, true, true, true, true, true, true] (σ := Nat × Bool × List Nat) (fun p => p.1 ≤ fds.length ∧ Mid q P p.2.1 p.2.2 (fun r => ∀ d ∈ fds.take p.1, ClsD q r d m) ∧ Rch q (.top true P0) (.fd p.1 p.2.1 p.2.2)) (fun p => fds.length - p.1) (fun p => [(16, .int .i64 p.1), (7, .bool p.2.1)]) (fun p => Ht H kp p.2.2) (0, false, P) ⟨by simp, ⟨f, by simp, fun _ => ⟨rfl, by simp⟩⟩, hR.step rfl⟩ (by simp) rfl (by simp [ht_len]) ?_)
    rintro ⟨j, ag2, P2⟩ ⟨hj, hmid, hR2⟩ N2 Q2 hN2 hQ2
    simp only at hj hmid hR2 hN2
    by_cases hjb : j < fds.length
    · have hdm : fds[j] ∈ fds := List.getElem_mem hjb
      obtain ⟨d, hd⟩ : ∃ d, d = fds[j] := ⟨_, rfl⟩
      rw [← hd] at hdm
      have hd' := hd.symm
      have hdb := hF2 d hdm
      have g2 := g.app d.l d.r
      obtain ⟨H2, hH2⟩ : ∃ H2, H2 = H ++ [B.cells [.int .u32 (d.l : Int), .int .u32 (d.r : Int)]] := ⟨_, rfl⟩
      rw [← hH2] at g2
      have happ : ∀ P, Ht H kp P ++ [B.cells [.int .u32 (d.l : Int), .int .u32 (d.r : Int)]] = Ht H2 kp P := fun P => by rw [ht_app _ _ _ _ g.hp, hH2]
      have hcell : ∀ P, (Ht H2 kp P)[H.length]? = some (B.cells [.int .u32 (d.l : Int), .int .u32 (d.r : Int)]) := fun P => by
        rw [← happ P, List.getElem?_append_right (by rw [ht_len]; omega), ht_len]; simp
      have hlc : ∀ P, H.length < (Ht H2 kp P).length := fun P => by rw [ht_len, hH2]; simp
      have hlen := fun P => ht_len H kp P
      have hlen2 := fun P => ht_len H2 kp P
      have hle : H.length ≤ H2.length := by rw [hH2]; simp
      have hl2 := fun P => ptrRb g2 P
      have hrb2 := fun P => g2.rbs P
      refine W_x tok mixed ?_
      simp -implicitDefEqProofs -dsimp [hjb, encF, hd', happ, hlen]
      refine lw_of (W_loopV [false, false, false, false, false, false, true, true, false, false, true, true, true, false, false, false, false, false, false, false, false, true, true, true, true, true, true, true, true, true, true, true, true, true, true, true, true, true, true, true, true, true, true, true, true, true, true, true, true, true, true, true, true, true, true, true, true, true, true, true, true, true, true, true, true, true, true, true, true, true, true, true, true, true, true, true, true, true, true, true] (σ := Nat × Bool × List Nat) (fun p => p.1 ≤ m ∧ Mid q P p.2.1 p.2.2 (fun r => (∀ d ∈ fds.take j, ClsD q r d m) ∧ ClsD q r d p.1) ∧ Rch q (.top true P0) (.row j p.1 p.2.1 p.2.2)) (fun p => m - p.1) (fun p => [(21, .int .i64 p.1), (7, .bool p.2.1)]) (fun p => Ht H2 kp p.2.2) (0, ag2, P2) ⟨by simp, hmid.imp fun _ r hr => ⟨hr, fun i k hi => by omega⟩, hR2.step (by simp only [fstp, if_pos (hfds ▸ hjb)])⟩ (by simp) rfl (by simp [hlen2, hle]) ?_)
      rintro ⟨i, ag3, P3⟩ ⟨hi, hmid3, hR3⟩ N3 Q3 hN3 hQ3
      simp only at hi hmid3 hR3 hN3
      by_cases hib : i < m
      · refine W_x tok mixed ?_
        simp -implicitDefEqProofs -dsimp [hib]
        refine lw_of (W_loopV [false, false, false, false, false, false, true, true, false, false, false, true, true, false, false, false, false, false, false, false, false, false, false, false, false, true, true, true, true, true, true, true, true, true, true, true, true, true, true, true, true, true, true, true, true, true, true, true, true, true, true, true, true, true, true, true, true, true, true, true, true, true, true, true, true, true, true, true, true, true, true, true, true, true, true, true, true, true, true] (σ := Nat × Bool × List Nat) (fun p => p.1 ≤ i ∧ Mid q P p.2.1 p.2.2 (fun r => (∀ d ∈ fds.take j, ClsD q r d m) ∧ ClsD q r d i ∧ ∀ k, k < p.1 → ClsP q r d i k) ∧ Rch q (.top true P0) (.col j i p.1 p.2.1 p.2.2)) (fun p => i - p.1) (fun p => [(25, .int .i64 p.1), (7, .bool p.2.1)]) (fun p => Ht H2 kp p.2.2) (0, ag3, P3) ⟨by simp, hmid3.imp fun _ r hr => ⟨hr.1, hr.2, fun k hk => by omega⟩, hR3.step (by simp only [fstp, if_pos (hme ▸ hib)])⟩ (by simp) rfl (by simp [hlen2]) ?_)
        rintro ⟨k, ag4, P4⟩ ⟨hk, hmid4, hR4⟩ N4 Q4 hN4 hQ4
        simp only at hk hmid4 hR4 hN4
        by_cases hkb : k < i
        · obtain ⟨f4', m1, m2⟩ := hmid4
          obtain ⟨h4, f4⟩ := f4'
          obtain ⟨r4, hr4⟩ : ∃ r4, r4 = rFn q P4 := ⟨_, rfl⟩
          rw [← hr4] at f4 m2
          have hfd : fdAt q j = d := by rw [hd, ← show fds.getD j ⟨0, 0⟩ = fds[j] by simp [hjb], hfds]; rfl
          have c1 := agree_u f4 hNe hn g2 hN i k (d.l : Int) (by omega) (by omega) hn2
          have c2 := agree_u f4 hNe hn g2 hN i k (d.r : Int) (by omega) (by omega) hn2
          have same : ∀ (hP : ClsP q r4 d i k), ∀ (N : List V → List B → Prop), True := fun _ _ => trivial
          cases ha1 : agB q r4 i k d.l with
          | false =>
            rw [ha1] at c1
            have hcp : ClsP q r4 d i k := fun hx => by rw [agB_iff.2 hx] at ha1; cases ha1
            refine W_x tok mixed ?_
            simp -implicitDefEqProofs -dsimp [hkb, hcell]
            refine WCall.mono (K := fun r' H' => r' = .bool false ∧ H' = Ht H2 kp P4) c1 ?_
            rintro _ _ ⟨rfl, rfl⟩
            simp -implicitDefEqProofs -dsimp [wrapS k (by omega)]
            refine hN4 (k + 1, ag4, P4) _ _ ⟨by simp only; omega, ⟨fr_of f4, m1, fun e => ⟨(m2 e).1, hr4 ▸ ⟨(m2 e).2.1, (m2 e).2.2.1, fun k' hk' => ?_⟩⟩⟩, hR4.step (by simp only [fstp, if_pos hkb, ← hr4, hfd]; rw [if_pos (.inl ha1)])⟩ (by simp only; omega) (by simp) ⟨[], by simp⟩ (by simp [hl2, hlc]) (hrb2 _)
            rcases Nat.lt_or_ge k' k with e1 | e1
            · exact (m2 e).2.2.2 k' e1
            · have : k' = k := by simp only at hk'; omega
              subst this; exact hcp
          | true =>
            rw [ha1] at c1
            cases ha2 : agB q r4 i k d.r with
            | true =>
              rw [ha2] at c2
              have hcp : ClsP q r4 d i k := fun _ => agB_iff.1 ha2
              refine W_x tok mixed ?_
              simp -implicitDefEqProofs -dsimp [hkb, hcell]
              refine WCall.mono (K := fun r' H' => r' = .bool true ∧ H' = Ht H2 kp P4) c1 ?_
              rintro _ _ ⟨rfl, rfl⟩
              simp -implicitDefEqProofs -dsimp [hcell]
              refine WCall.mono (K := fun r' H' => r' = .bool true ∧ H' = Ht H2 kp P4) c2 ?_
              rintro _ _ ⟨rfl, rfl⟩
              simp -implicitDefEqProofs -dsimp [wrapS k (by omega)]
              refine hN4 (k + 1, ag4, P4) _ _ ⟨by simp only; omega, ⟨fr_of f4, m1, fun e => ⟨(m2 e).1, hr4 ▸ ⟨(m2 e).2.1, (m2 e).2.2.1, fun k' hk' => ?_⟩⟩⟩, hR4.step (by simp only [fstp, if_pos hkb, ← hr4, hfd]; rw [if_pos (.inr ha2)])⟩ (by simp only; omega) (by simp) ⟨[], by simp⟩ (by simp [hl2, hlc]) (hrb2 _)
              rcases Nat.lt_or_ge k' k with e1 | e1
              · exact (m2 e).2.2.2 k' e1
              · have : k' = k := by simp only at hk'; omega
                subst this; exact hcp
            | false =>
              rw [ha2] at c2
              have hle4 : cntR P4 ≤ cntR P := by
                cases ag4 with
                | true => exact Nat.le_of_lt (m1 rfl)
                | false => rw [(m2 rfl).1]; exact Nat.le_refl _
              have h0a := g2.at0
              refine W_x tok mixed ?_
              simp -implicitDefEqProofs -dsimp [hkb, hcell]
              refine WCall.mono (K := fun r' H' => r' = .bool true ∧ H' = Ht H2 kp P4) c1 ?_
              rintro _ _ ⟨rfl, rfl⟩
              simp -implicitDefEqProofs -dsimp [hcell]
              refine WCall.mono (K := fun r' H' => r' = .bool false ∧ H' = Ht H2 kp P4) c2 ?_
              rintro _ _ ⟨rfl, rfl⟩
              simp -implicitDefEqProofs -dsimp [h0a]
              refine lw_of (W_loopV [false, false, false, false, false, false, true, false, false, false, false, false, true, false, false, false, false, false, false, false, false, false, false, false, false, false, false, false, false, false, false, false, false, false, false, false, false, false, false, false, false, false, false, false, false, false, false, true, true, true, true, true, true, true, true, true, true, true, true, true, true, true, true, true, true, true, true, true, true, true, true, true, true, true, true, true, true, true] (σ := Nat × List Nat) (fun p => p.1 ≤ n ∧ Fr q p.2 ∧ (cntR p.2 < cntR P4 ∨ (p.2 = P4 ∧ AgrE q r4 i k d.r p.1)) ∧ Rch q (.top true P0) (.att j i k p.1 p.2)) (fun p => n - p.1) (fun p => [(47, .int .i64 p.1)]) (fun p => Ht H2 kp p.2) (0, P4) ⟨by simp, fr_of f4, .inr ⟨rfl, fun b hb => by omega⟩, hR4.step (by simp only [fstp, if_pos hkb, ← hr4, hfd]; rw [if_neg (by rw [ha1, ha2]; simp)])⟩ (by simp) rfl (by simp [hlen2]) ?_)
              rintro ⟨a, P5⟩ ⟨ha, f5', hdj, hR5⟩ N5 Q5 hN5 hQ5
              simp only at ha f5' hdj hR5 hN5
              obtain ⟨h5, f5⟩ := f5'
              obtain ⟨r5, hr5⟩ : ∃ r5, r5 = rFn q P5 := ⟨_, rfl⟩
              rw [← hr5] at f5
              have h0b := g2.at0 P5
              by_cases hab : a < n
              · cases hh : hasB (d.r : Int) a with
                | false =>
                  refine W_x tok mixed ?_
                  simp -implicitDefEqProofs -dsimp [hab, hcell, hasB_def, hh, show (a : Int) < 32 by omega]
                  refine .inr ⟨stop_of (by kernel_rfl), ?_⟩
                  simp -implicitDefEqProofs -dsimp [wrapS a (by omega)]
                  refine hN5 (a + 1, P5) _ _ ⟨by simp only; omega, fr_of f5, ?_, hR5.step (by simp only [fstp, if_pos (hn ▸ hab), hfd, hh]; rw [if_neg (by simp)])⟩ (by simp only; omega) (by simp) ⟨[], by simp⟩ (by simp [hl2, hlc]) (hrb2 _)
                  rcases hdj with e1 | ⟨e1, e3⟩
                  · exact .inl e1
                  · refine .inr ⟨e1, fun b hb1 hb2 => ?_⟩
                    rcases Nat.lt_or_ge b a with e4 | e4
                    · exact e3 b e4 hb2
                    · have : b = a := by simp only at hb1; omega
                      subst this; rw [hh] at hb2; cases hb2
                | true =>
                  have li := cell_lt (n := n) (show i < q.m by omega) hab
                  have lk := cell_lt (n := n) (show k < q.m by omega) hab
                  have hNe2 : q.m * n = N := by rw [← hn]; exact hNe
                  have hmust := must f4 (by omega) (hfds ▸ hdm) hdb (show i < q.m by omega) hkb (agB_iff.1 ha1) (hn ▸ hab) hh
                  rw [hn] at hmust
                  have li' : i * n + a < q.m * q.n := by rw [hn]; exact li
                  have lk' : k * n + a < q.m * q.n := by rw [hn]; exact lk
                  have hpost := join_post f5 li' lk' hmust
                  have cj := join_u f5 hNe g2 hN (i * n + a) (k * n + a) (by omega) (by omega)
                  rw [hNe2] at li lk
                  have w1 : IntKind.i64.wrap ((i : Int) * n) = ((i * n : Nat) : Int) := by rw [wrap64 (by omega) (by omega)]; push_cast; rfl
                  have w2 : IntKind.i64.wrap ((k : Int) * n) = ((k * n : Nat) : Int) := by rw [wrap64 (by omega) (by omega)]; push_cast; rfl
                  have w3 : IntKind.i64.wrap (((i * n : Nat) : Int) + (a : Int)) = ((i * n + a : Nat) : Int) := by rw [wrap64 (by omega) (by omega)]; push_cast; rfl
                  have w4 : IntKind.i64.wrap (((k * n : Nat) : Int) + (a : Int)) = ((k * n + a : Nat) : Int) := by rw [wrap64 (by omega) (by omega)]; push_cast; rfl
                  have e1 : i * q.n + a = i * n + a := by rw [hn]
                  have e2 : k * q.n + a = k * n + a := by rw [hn]
                  obtain ⟨xi, hxi⟩ : ∃ xi, xi = i * n + a := ⟨_, rfl⟩
                  obtain ⟨xk, hxk⟩ : ∃ xk, xk = k * n + a := ⟨_, rfl⟩
                  obtain ⟨yi, hyi⟩ : ∃ yi, yi = i * n := ⟨_, rfl⟩
                  obtain ⟨yk, hyk⟩ : ∃ yk, yk = k * n := ⟨_, rfl⟩
                  rw [← hxi] at w3 e1
                  rw [← hxk] at w4 e2
                  rw [← hxi, ← hxk] at cj hpost
                  rw [← hyi] at w1 w3
                  rw [← hyk] at w2 w4
                  obtain ⟨jb, hjb⟩ : ∃ b, b = joinB q r5 xi xk := ⟨_, rfl⟩
                  obtain ⟨jp, hjp⟩ : ∃ b, b = joinP q P5 r5 xi xk := ⟨_, rfl⟩
                  rw [← hjb, ← hjp] at cj hpost
                  have hjb2 : joinB q (rFn q P5) (i * q.n + a) (k * q.n + a) = jb := by rw [← hr5, e1, e2]; exact hjb.symm
                  have hjp2 : joinP q P5 (rFn q P5) (i * q.n + a) (k * q.n + a) = jp := by rw [← hr5, e1, e2]; exact hjp.symm
                  cases jb with
                  | false =>
                    have hno : ¬ Okq q := by
                      rcases hpost with ⟨_, e⟩ | ⟨e, _⟩ | ⟨e, _⟩
                      · exact e
                      · cases e
                      · cases e
                    refine W_x tok mixed ?_
                    simp -implicitDefEqProofs -dsimp [hab, hcell, hasB_def, hh, show (a : Int) < 32 by omega, h0b, w1, w2, w3, w4]
                    refine .inl (lw_of (W_drawT tok mixed [24] [] [(.bool false, Ht H2 kp jp)] (by kernel_rfl) fun C K hC hK => ?_))
                    simp -implicitDefEqProofs [hcell, hasB_def, hh, show (a : Int) < 32 by omega, h0b, w1, w2, w3, w4]
                    refine ⟨hC _ _ _ _ cj, hK _ _ ?_⟩
                    simp -implicitDefEqProofs -dsimp []
                    refine hQ5 _ _ _ ?_
                    simp -implicitDefEqProofs -dsimp []
                    refine hQ4 _ _ _ ?_
                    simp -implicitDefEqProofs -dsimp []
                    refine hQ3 _ _ _ ?_
                    simp -implicitDefEqProofs -dsimp []
                    refine hQ2 _ _ _ ?_
                    simp -implicitDefEqProofs -dsimp []
                    refine hQ1 _ _ _ ?_
                    simp -implicitDefEqProofs -dsimp []
                    obtain ⟨x1, x2⟩ := fill_eq (hR5.step (u := .done false jp [fdB d]) (by simp only [fstp, if_pos (hn ▸ hab), hfd, if_pos hh, hjb2, hjp2]; rw [if_neg (by simp)]))
                    rw [okB_false hno, x1, x2]
                    exact ⟨rfl, by rw [fdB, happ], fun e => by cases e⟩
                  | true =>
                    refine W_x tok mixed ?_
                    simp -implicitDefEqProofs -dsimp [hab, hcell, hasB_def, hh, show (a : Int) < 32 by omega, h0b, w1, w2, w3, w4]
                    refine .inl (lw_of (W_drawT tok mixed [24] [] [(.bool true, Ht H2 kp jp)] (by kernel_rfl) fun C K hC hK => ?_))
                    simp -implicitDefEqProofs [hcell, hasB_def, hh, show (a : Int) < 32 by omega, h0b, w1, w2, w3, w4]
                    refine ⟨hC _ _ _ _ cj, hK _ _ ?_⟩
                    simp -implicitDefEqProofs -dsimp [wrapS a (by omega)]
                    have hRn := hR5.step (u := .att j i k (a + 1) jp) (by simp only [fstp, if_pos (hn ▸ hab), hfd, if_pos hh, hjb2, hjp2]; rw [if_pos trivial])
                    refine hN5 (a + 1, jp) _ _ ⟨by simp only; omega, ?_⟩ (by simp only; omega) (by simp) ⟨[], by simp⟩ (by simp [hl2, hlc]) (hrb2 _)
                    rcases hpost with ⟨e, _⟩ | ⟨_, e, e'⟩ | ⟨_, e, r', h', f'⟩
                    · cases e
                    · simp only
                      rw [e'] at hRn ⊢
                      refine ⟨fr_of f5, ?_, hRn⟩
                      rcases hdj with d1 | ⟨d1, d3⟩
                      · exact .inl d1
                      · refine .inr ⟨d1, fun b hb1 hb2 => ?_⟩
                        rcases Nat.lt_or_ge b a with e4 | e4
                        · exact d3 b e4 hb2
                        · have : b = a := by omega
                          subst this; rw [e1, e2, hr4, ← d1, ← hr5]; exact e
                    · refine ⟨fr_of f', .inl ?_, hRn⟩
                      simp only
                      rcases hdj with d1 | ⟨d1, d3⟩
                      · omega
                      · rw [← d1]; exact e
              · have hae : a = n := by omega
                subst hae
                refine W_x tok mixed ?_
                simp -implicitDefEqProofs -dsimp [hab]
                refine hQ5 _ _ _ ?_
                simp -implicitDefEqProofs -dsimp [wrapS k (by omega)]
                have hlt : cntR P5 < cntR P4 := by
                  rcases hdj with e1 | ⟨e1, e3⟩
                  · exact e1
                  · rw [agB_iff.2 (hn ▸ e3)] at ha2; cases ha2
                refine hN4 (k + 1, true, P5) _ _ ⟨by simp only; omega, ⟨fr_of f5, fun _ => by simp only; omega, fun e => by cases e⟩, hR5.step (by simp only [fstp]; rw [if_neg (by omega)])⟩ (by simp only; omega) (by simp) ⟨[], by simp⟩ (by simp [hl2, hlc]) (hrb2 _)
        · have hke : k = i := by omega
          subst hke
          refine W_x tok mixed ?_
          simp -implicitDefEqProofs -dsimp [hkb]
          refine hQ4 _ _ _ ?_
          simp -implicitDefEqProofs -dsimp [wrapS k (by omega)]
          refine hN3 (k + 1, ag4, P4) _ _ ⟨by simp only; omega, hmid4.imp fun _ r hr => ⟨hr.1, fun i' k' hi' hk' => ?_⟩, hR4.step (by simp only [fstp]; rw [if_neg hkb])⟩ (by simp only; omega) (by simp) ⟨[], by simp⟩ (by simp [hl2, hlc]) (hrb2 _)
          rcases Nat.lt_or_ge i' k with e1 | e1
          · exact hr.2.1 i' k' e1 hk'
          · have : i' = k := by simp only at hi'; omega
            subst this; exact hr.2.2 k' hk'
      · have hie : i = m := by omega
        subst hie
        refine W_x tok mixed ?_
        simp -implicitDefEqProofs -dsimp [hib]
        refine hQ3 _ _ _ ?_
        simp -implicitDefEqProofs -dsimp [wrapS j (by omega)]
        refine hN2 (j + 1, ag3, P3) _ _ ⟨by simp only; omega, hmid3.imp fun _ r hr => fun d' hd' => ?_, hR3.step (by simp only [fstp]; rw [if_neg (by omega)])⟩ (by simp only; omega) (by simp) ⟨_, (happ P3).symm⟩ (by simp [hlen, g.lt0]) (g.rbs _)
        simp only at hd'
        rw [List.take_succ_eq_append_getElem hjb] at hd'
        rcases List.mem_append.1 hd' with e1 | e1
        · exact hr.1 d' e1
        · simp only [List.mem_singleton] at e1
          rw [e1, ← hd]; exact hr.2
    · have hje : j = fds.length := by omega
      subst hje
      obtain ⟨f2, m1, m2⟩ := hmid
      refine W_x tok mixed ?_
      simp -implicitDefEqProofs -dsimp [hjb]
      refine hQ2 _ _ _ ?_
      simp -implicitDefEqProofs -dsimp []
      refine hN1 (ag2, P2) _ _ ⟨f2, fun e => ?_, hR2.step (by simp only [fstp, ← hfds]; rw [if_neg (by omega)])⟩ ?_ (by simp) ⟨[], by simp⟩ (by simp [ptrRb g]) (g.rbs _)
      · have := (m2 e).2
        rw [List.take_length] at this
        exact closed_of (by omega) (hfds ▸ hF2) (by rw [← hfds, ← hme]; exact this)
      · cases ag2 with
        | true => have := m1 rfl; simp; omega
        | false => have := (m2 rfl).1; simp [this]
end Go.Proofs.YteijbpppalhihaaGreat
