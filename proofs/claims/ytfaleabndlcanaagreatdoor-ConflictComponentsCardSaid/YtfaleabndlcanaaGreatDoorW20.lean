/- W20: drossref37.Components. Expanded by pp.py. -/
import Derived.Test.YtfaleabndlcanaaGreatDoorPl7
set_option linter.unusedSimpArgs false
set_option maxRecDepth 100000
namespace Go.Proofs.YtfaleabndlcanaaGreatDoor
open Go Go.AM
/-- A group: a literal of one number, later an own list. -/
def gv (k : Nat) (G : List Int) : V := if G.length = 1 then .lst 1 true (G.map encI) else .buf k 0 G.length G.length
def gh (G : List Int) : List B := if G.length = 1 then [] else [.buf 2 1 (G.map encI) false]
/-- The place of one of its numbers. -/
def gp (G : List Int) (n : Nat) : V := if G.length = 1 then .pin [encI (G.getD n 0)] 0 else .pbuf 3 n 0 G.length
@[simp ↓ high] theorem len_gv (a b c : B) (G : List Int) (x : V) (h : x = gv 3 G) : lenA T (a :: b :: c :: gh G) 46 x = some (.int .i64 G.length) := by
  subst h
  unfold gv gh
  split <;> simp [*]
theorem gv_or (G : List Int) : (G.length = 1 ∧ gv 3 G = .lst 1 true (G.map encI) ∧ gh G = []) ∨ (¬ G.length = 1 ∧ gv 3 G = .buf 3 0 G.length G.length ∧ gh G = [.buf 2 1 (G.map encI) false]) := by
  unfold gv gh
  by_cases h : G.length = 1
  · exact .inl ⟨h, by rw [if_pos h], by rw [if_pos h]⟩
  · exact .inr ⟨h, by rw [if_neg h], by rw [if_neg h]⟩
theorem cap48 (n : Nat) (h : n ≤ 1000000000) : n ≤ 9223372036854775806 ∧ (n + 1) * 48 ≤ 140737488355328 := by omega
theorem cap8k (n k : Nat) (h : n + k ≤ 1000000000) : n + k ≤ 9223372036854775807 ∧ (n + k) * 8 ≤ 140737488355328 := by omega
theorem app_gv (a b c : B) (G : List Int) (v : Int) (h : G ≠ []) (hl : G.length ≤ 1000000) (x y : V) (hx : x = gv 3 G) (hy : y = .lst 1 true [.int .i64 v]) : appendA T (a :: b :: c :: gh G) 46 46 x y = some (gv 3 (G ++ [v]), a :: b :: c :: gh (G ++ [v])) := by
  have hp : G.length ≠ 0 := fun e => h (List.eq_nil_of_length_eq_zero e)
  subst hx
  subst hy
  unfold gv gh
  by_cases h1 : G.length = 1
  · simp [h1, encI]
  · simp [h1, h, encI, cap8 G.length (by omega)]
theorem app_done (a b : B) (d G : List Int) (h : G ≠ []) (hd : d.length ≤ 1000000) (hl : G.length ≤ 1000000) (x y : V) (hx : x = .buf 2 0 d.length d.length) (hy : y = gv 3 G) :
    appendA T (a :: b :: .buf 2 1 (d.map encI) false :: gh G) 46 46 x y = some (.buf 2 0 (d ++ G).length (d ++ G).length, a :: b :: .buf 2 1 ((d ++ G).map encI) false :: gh G) := by
  have hp : G.length ≠ 0 := fun e => h (List.eq_nil_of_length_eq_zero e)
  subst hx
  subst hy
  rcases gv_or G with ⟨h1, hgv, hgh⟩ | ⟨h1, hgv, hgh⟩
  · rw [hgv, hgh]
    simp [h, h1, cap8 d.length (by omega)]
  · rw [hgv, hgh]
    simp [h, List.take_of_length_le, cap8k d.length G.length (by omega)]
@[simp high] theorem srcT_gv (e : TypeId) (G : List Int) : srcT (.slice e) (gv 3 G) = true := by
  unfold gv
  split <;> rfl
@[simp high] theorem one_gv (k : Nat) (G : List Int) : (gv k G).one = true := by
  unfold gv
  split <;> rfl
@[simp ↓ high] theorem rb_gv (n : Nat) (G : List Int) (h : n = (gh G).length + 3) : rb n (gv 3 G) ↔ True := by
  subst h
  unfold gv gh
  split <;> simp
@[simp ↓ high] theorem rbB_gh (n : Nat) (G : List Int) : (∀ bl ∈ gh G, rbB n bl) ↔ True := by
  unfold gh
  refine ⟨fun _ => trivial, fun _ bl hbl => ?_⟩
  split at hbl
  · cases hbl
  · simp at hbl
    subst hbl
    exact (rbB_buf1 (by simp [encI])).2 trivial
theorem gh_mono {G G' : List Int} (h : G.length ≤ G'.length) (h0 : G ≠ []) : (gh G).length ≤ (gh G').length := by
  have hp : G.length ≠ 0 := fun e => h0 (List.eq_nil_of_length_eq_zero e)
  unfold gh
  by_cases h1 : G.length = 1
  · simp [h1]
  · rw [if_neg h1, if_neg (by omega)]; simp
theorem exp_has {H : List B} {k e : Nat} {G : List Int} {fz : Bool} {x : V} (hk : H[k]? = some (.buf e 1 (G.map encI) fz)) (hx : AM.Pure x) :
    ∀ (i : Nat) a a', [V.buf k 0 G.length G.length, x][i]? = some a → [L1 false G, x][i]? = some a' → Exp H a a' := fun i a a' ha ha' => by
  match i with
  | 0 => simp at ha ha'; subst ha; subst ha'; exact exp_buf hk (by simp) (by simp)
  | 1 => simp at ha ha'; subst ha; subst ha'; exact .pure _ hx
  | i + 2 => simp at ha
theorem callHas {H : List B} {k : Nat} {G : List Int} {fz : Bool} (x : Int) (hl : G.length ≤ 1000000) (hk : H[k]? = some (.buf 2 1 (G.map encI) fz)) :
    WCall Tryz.prog (.fn 57 []) [.buf k 0 G.length G.length, .int .i64 x] H fun r H' => r = .bool (memB G x) ∧ H' = H :=
  callX (has37 G x false hl) rfl (exp_has hk (by simp)) (.bool _)
theorem callHasG (a b c : B) (G : List Int) (x : Int) (hl : G.length ≤ 1000000) :
    WCall Tryz.prog (.fn 57 []) [gv 3 G, .int .i64 x] (a :: b :: c :: gh G) fun r H' => r = .bool (memB G x) ∧ H' = a :: b :: c :: gh G := by
  unfold gv gh
  split
  · exact callP (has37 G x true hl) (by simp)
  · exact callHas x hl rfl
def encC (p : Cm) : V := encH false false p.1 p.2
@[simp] theorem encC_pure (p : Cm) : AM.Pure (encC p) := by simp [encC]
@[simp] theorem encC_oneV (p : Cm) : oneV (encC p) = true := rfl
@[simp ↓ high] theorem rbB_outs (n e z : Nat) (outs : List Cm) (fz : Bool) : rbB n (.buf e z (outs.map encC) fz) ↔ True := rbB_buf1 fun x hx => by
  obtain ⟨p, _, rfl⟩ := List.mem_map.1 hx
  exact ⟨encC_pure p, encC_oneV p⟩
def gh2 (G : List Int) : List B := if G.length = 1 then [] else [.buf 2 1 (G.map encI) true]
theorem callPartG (a b c : B) (vs : List Int) (es : List (List Int)) (G : List Int) (f g : Bool) (hs : Small vs es) (hl : G.length ≤ 1000000) (hne : ∀ e ∈ es, e ≠ []) :
    WCall Tryz.prog (.fn 68 []) [encH f g vs es, gv 3 G] (a :: b :: c :: gh G) fun r H' => r = encH false false (partV vs G) (partE es G) ∧ H' = a :: b :: c :: gh2 G := by
  unfold gv gh gh2
  split
  · exact callP (part37 vs es G f g true hs hl hne) (by simp)
  · exact callF 3 rfl (part37 vs es G f g false hs hl hne) (by simp [encH, L1]) (by simp)
def compsR (vs : List Int) (es : List (List Int)) : List Cm := (stR vs es vs.length).2
theorem add_len {vs : List Int} {es : List (List Int)} (hs : ∀ e ∈ es, ∀ x ∈ e, x ∈ vs) {v : Int} {G : List Int} (hn : G.Nodup) (hg : ∀ x ∈ G, x ∈ vs) (k : Nat) (hk : k ≤ es.length) : (scanTo es v G k).length ≤ vs.length ∧ ∀ (h : k < es.length) j, j ≤ es[k].length → (addTo (scanTo es v G k) es[k] j).length ≤ vs.length := by
  have h1 := scanTo_nodup (es := es) (v := v) hn k
  have h2 : ∀ x ∈ scanTo es v G k, x ∈ vs := fun x hx => by
    rcases (scanTo_mem es v G k hk x).1 hx with hx | ⟨e, he, _, h⟩
    · exact hg x hx
    · exact hs e (List.mem_of_mem_take he) x h
  refine ⟨nodup_len h1 h2, fun h j hj => nodup_len (addTo_nodup h1 j) fun x hx => ?_⟩
  rcases (addTo_mem _ _ j hj x).1 hx with hx | hx
  · exact h2 x hx
  · exact hs _ (List.getElem_mem h) x (List.mem_of_mem_take hx)
set_option maxHeartbeats 16000000 in
theorem comps_r (vs : List Int) (es : List (List Int)) (f g : Bool) (hs : Small vs es) (hv2 : vs.length ≤ 100) (hsub : ∀ e ∈ es, ∀ x ∈ e, x ∈ vs) (hne : ∀ e ∈ es, e ≠ []) : ConP Tryz.prog 36 [encH f g vs es] fun r => r = .lst 2 false ((compsR vs es).map encC) := by
  have hs' := hs
  obtain ⟨hv, he, hes⟩ := hs
  have hok := fun i hi => stR_ok (vs := vs) (es := es) hsub i hi
  refine conP_of_conH (conH_of_W tok Tryz.func36 rfl rfl ?_)
  refine W_x tok mixed ?_
  simp -implicitDefEqProofs -dsimp [Tryz.f36, List.replicate, encH, L1]
  refine lw_of (W_own 49 2 [3] (by simp) (W_own 2 1 [4] (by simp) (W_loopV [false, false, false, true, true, true, true, true, true, true, true, true, true, true, true, true, true, true, true, true, true, true, true, true, true, true, true, true, true, true, true, true, true, true, true, true, true, true, true, true, true, true, true, true, true, true, true, true, true, true, true, true, true, true, true, true, true, true, true, true, true, true, true, true, true, true, true, true, true, true, true, true, true, true, true, true, true, true, true, true, true, true, true, true, true, true, true, true, true, true, true, true, true, true, true] (σ := Nat) (fun i => i ≤ vs.length) (fun i => vs.length - i) (fun i => [(5, .int .i64 i), (3, .buf 1 0 (stR vs es i).2.length (stR vs es i).2.length), (4, .buf 2 0 (stR vs es i).1.length (stR vs es i).1.length)]) (fun i => [B.cells [L1 f vs, LL g es], B.buf 49 2 ((stR vs es i).2.map encC) false, B.buf 2 1 ((stR vs es i).1.map encI) false]) 0 (by omega) (by simp [stR]) (by simp [stR, L1]) (by simp) ?_)))
  intro i hi N Q hN hQ
  obtain ⟨_, hol, hdl⟩ := hok i hi
  have hol : (stR vs es i).2.length ≤ 100 := by rw [hol]; have := compsTo_len vs es i; omega
  have hdl : (stR vs es i).1.length ≤ 10000 := Nat.le_trans hdl (Nat.mul_le_mul (by omega : i ≤ 100) hv2)
  by_cases hb : i < vs.length
  · have hst : stR vs es (i + 1) = if memB (stR vs es i).1 vs[i] then stR vs es i else ((stR vs es i).1 ++ bfs es (vs.length + 1) 0 [vs[i]], (stR vs es i).2 ++ [(partV vs (bfs es (vs.length + 1) 0 [vs[i]]), partE es (bfs es (vs.length + 1) 0 [vs[i]]))]) := by simp [stR, hb]
    obtain ⟨done, hdn⟩ : ∃ d, d = (stR vs es i).1 := ⟨_, rfl⟩
    obtain ⟨outs, hou⟩ : ∃ d, d = (stR vs es i).2 := ⟨_, rfl⟩
    rw [← hdn, ← hou] at hst ⊢
    rw [← hdn] at hdl
    rw [← hou] at hol
    refine W_x tok mixed ?_
    simp -implicitDefEqProofs -dsimp [hb, encI, L1]
    refine (callHas vs[i] (by omega) rfl).mono ?_
    rintro r H' ⟨rfl, rfl⟩
    cases hm : memB done vs[i]
    · rw [hm] at hst
      have hfin : ∀ G n, Bf vs es vs[i] n G → G.length ≤ vs.length := fun G n h => nodup_len h.nd h.sub
      simp -implicitDefEqProofs -dsimp [hb, encI, L1]
      refine lw_of (W_loopV [false, false, false, false, false, false, true, true, true, true, false, false, false, false, false, false, false, false, false, false, false, false, false, false, false, false, false, false, false, false, true, true, true, true, true, true, true, true, true, true, true, true, true, true, true, true, true, true, true, true, true, true, true, true, true, true, true, true, true, true, true, true, true, true, true, true, true, true, true, true, true, true, true, true, true, true, true, true, true, true, true, true, true, true, true, true] (σ := Nat × List Int) (fun p => p.1 ≤ p.2.length ∧ Bf vs es vs[i] p.1 p.2 ∧ bfs es (vs.length + 1 - p.1) p.1 p.2 = bfs es (vs.length + 1) 0 [vs[i]]) (fun p => vs.length + 1 - p.1) (fun p => [(7, .int .i64 p.1), (6, gv 3 p.2)]) (fun p => B.cells [L1 f vs, LL g es] :: B.buf 49 2 (outs.map encC) false :: B.buf 2 1 (done.map encI) false :: gh p.2) (0, [vs[i]]) ⟨by simp, Bf.init (List.getElem_mem hb), rfl⟩ (by simp [gv, encI]) (by simp [gh, L1]) (by simp) ?_)
      rintro ⟨n, G⟩ ⟨hn, hbf, hbe⟩ N2 Q2 hN2 hQ2
      simp only at hn hbf hbe hN2
      have hGl := hfin G n hbf
      have hGp : G.length ≠ 0 := fun e => by have := hbf.has; rw [List.eq_nil_of_length_eq_zero e] at this; cases this
      have hGn : G ≠ [] := fun e => hGp (by rw [e]; rfl)
      by_cases hnb : n < G.length
      · have hgn : G.getD n 0 = G[n] := by simp [hnb]
        have hnx := hbf.next hsub hnb
        obtain ⟨v, hv0⟩ : ∃ v, v = G[n] := ⟨_, rfl⟩
        rw [hgn, ← hv0] at hnx
        have hbe2 : bfs es (vs.length + 1 - (n + 1)) (n + 1) (scanTo es v G es.length) = bfs es (vs.length + 1) 0 [vs[i]] := by
          rw [← hbe]
          obtain ⟨m, hm2⟩ : ∃ m, vs.length + 1 - n = m + 1 := ⟨vs.length - n, by omega⟩
          rw [show vs.length + 1 - (n + 1) = m by omega, hm2, bfs, if_pos hnb, hgn, ← hv0]
        have hal := fun k hk => add_len (v := v) hsub hbf.nd hbf.sub k hk
        refine W_x tok mixed ?_
        simp -implicitDefEqProofs -dsimp [hnb, L1]
        refine lw_of (W_loopV [false, false, false, false, false, false, true, false, true, true, false, false, false, false, false, false, false, false, false, false, false, false, false, false, false, false, false, false, false, false, false, true, false, false, false, false, true, true, true, true, true, true, true, true, true, true, true, true, true, true, true, true, true, true, true, true, true, true, true, true, true, true, true, true, true, true, true, true, true, true, true, true, true, true, true, true, true, true, true, true, true, true, true, true, true, true] (σ := Nat) (fun k => k ≤ es.length) (fun k => es.length - k) (fun k => [(8, .int .i64 k), (6, gv 3 (scanTo es v G k))]) (fun k => B.cells [L1 f vs, LL g es] :: B.buf 49 2 (outs.map encC) false :: B.buf 2 1 (done.map encI) false :: gh (scanTo es v G k)) 0 (by omega) (by simp [scanTo]) (by simp [scanTo, L1]) (by intro k hk; obtain ⟨t, ht⟩ := scanTo_pre es v G k; simpa using gh_mono (by rw [ht]; simp) hGn) ?_)
        intro k hk N3 Q3 hN3 hQ3
        obtain ⟨hS1, hS2⟩ := hal k hk
        obtain ⟨t, ht⟩ := scanTo_pre es v G k
        by_cases hkb : k < es.length
        · have hsc : scanTo es v G (k + 1) = if memB es[k] v then addTo (scanTo es v G k) es[k] es[k].length else scanTo es v G k := by simp only [scanTo, getD_at hkb]
          have hS2 := hS2 hkb
          obtain ⟨S, hS⟩ : ∃ S, S = scanTo es v G k := ⟨_, rfl⟩
          rw [← hS] at hsc hS1 hS2 ht ⊢
          have hnS : n < S.length := by rw [ht]; simp; omega
          have hSv : S[n] = v := by
            have : S.getD n 0 = v := by rw [ht, hv0]; simp [List.getElem?_append_left hnb, hnb]
            simpa [hnS] using this
          have hSn : S ≠ [] := fun e => by rw [e] at hnS; simp at hnS
          have hek := hes es[k] (List.getElem_mem hkb)
          have hc := has37 es[k] v false hek
          simp only [L1] at hc
          cases hmk : memB es[k] v
          · rw [hmk] at hsc hc
            rcases gv_or S with ⟨h1, hgv, hgh⟩ | ⟨h1, hgv, hgh⟩
            all_goals
              rw [hgv, hgh]
              refine W_x tok mixed ?_
              simp -implicitDefEqProofs -dsimp [hkb, hnS, hSv, LL, encI, L1]
              refine .inr ⟨stop_of (by kernel_rfl), ?_⟩
              refine cy_of _ (callP (hc) (by simp)) ?_
              simp -implicitDefEqProofs -dsimp [wrapS k (by omega), L1]
              refine hN3 (k + 1) _ _ (by omega) (by omega) ?_ ⟨[], ?_⟩ ?_ ?_ <;> simp [or_imp, forall_and, L1, encI, LL, hsc, hgv, hgh]
          · rw [hmk] at hsc hc
            rcases gv_or S with ⟨h1, hgv, hgh⟩ | ⟨h1, hgv, hgh⟩
            all_goals
              rw [hgv, hgh]
              refine W_x tok mixed ?_
              simp -implicitDefEqProofs -dsimp [hkb, hnS, hSv, LL, encI, L1]
              refine .inr ⟨stop_of (by kernel_rfl), ?_⟩
              refine cy_of _ (callP (hc) (by simp)) ?_
              simp -implicitDefEqProofs -dsimp [L1]
              refine lw_of (W_loopV [false, false, false, false, false, false, true, false, false, true, false, false, false, false, false, false, false, false, false, false, false, false, false, false, false, false, false, false, false, false, false, true, false, false, false, false, false, false, false, false, false, false, false, false, false, false, false, false, true, false, false, false, false, false, true, true, true, true, true, true, true, true, true, true, true, true, true, true, true, true, true, true, true, true, true, true, true, true, true, true, true, true, true, true, true, true] (σ := Nat) (fun j => j ≤ es[k].length) (fun j => es[k].length - j) (fun j => [(9, .int .i64 j), (6, gv 3 (addTo S es[k] j))]) (fun j => B.cells [L1 f vs, LL g es] :: B.buf 49 2 (outs.map encC) false :: B.buf 2 1 (done.map encI) false :: gh (addTo S es[k] j)) 0 (by omega) (by simp [addTo, hgv]) (by simp [addTo, L1, LL, hgh]) (by intro j hj; obtain ⟨t, ht⟩ := addTo_pre S es[k] j; have hmn := gh_mono (G := S) (G' := addTo S es[k] j) (by rw [ht]; simp) hSn; rw [hgh] at hmn; simp at hmn ⊢; try omega) ?_)
              intro j hj N4 Q4 hN4 hQ4
              have hAl := hS2 j hj
              obtain ⟨t2, ht2⟩ := addTo_pre S es[k] j
              by_cases hjb : j < es[k].length
              · have had : addTo S es[k] (j + 1) = if memB (addTo S es[k] j) es[k][j] then addTo S es[k] j else addTo S es[k] j ++ [es[k][j]] := by simp [addTo, hjb]
                obtain ⟨A, hA⟩ : ∃ A, A = addTo S es[k] j := ⟨_, rfl⟩
                rw [← hA] at had hAl ht2 ⊢
                have hAS : A.length = 1 → S.length = 1 := fun h => by rw [ht2, List.length_append] at h; omega
                have hAn : A ≠ [] := fun e => by rw [e] at ht2; simp at ht2; exact hSn ht2.1
                refine W_x tok mixed ?_
                simp -implicitDefEqProofs -dsimp [hkb, hjb, LL, encI, L1]
                refine (callHasG _ _ _ A _ (by omega)).mono ?_
                rintro r H' ⟨rfl, rfl⟩
                cases hmj : memB A es[k][j]
                · rw [hmj] at had
                  simp -implicitDefEqProofs -dsimp [hkb, hjb, LL, encI, ↓(app_gv _ _ _ A es[k][j] hAn (by omega)), wrapS j (by omega), L1]
                  obtain ⟨h2, hgv2, hgh2⟩ := (gv_or (A ++ [es[k][j]])).resolve_left (fun h => hAn (by have := h.1; simpa using this))
                  all_goals
                    refine hN4 (j + 1) _ _ (by omega) (by omega) ?_ ⟨[], ?_⟩ ?_ ?_ <;> simp [or_imp, forall_and, L1, encI, LL, had, hgv2, hgh2]
                · rw [hmj] at had
                  simp -implicitDefEqProofs -dsimp [wrapS j (by omega), L1]
                  rcases gv_or (A) with ⟨h2, hgv2, hgh2⟩ | ⟨h2, hgv2, hgh2⟩
                  all_goals try exact absurd (hAS h2) h1
                  all_goals
                    refine hN4 (j + 1) _ _ (by omega) (by omega) ?_ ⟨[], ?_⟩ ?_ ?_ <;> simp [or_imp, forall_and, L1, encI, LL, had, hgv2, hgh2]
              · obtain rfl : j = es[k].length := by omega
                refine W_x tok mixed ?_
                simp -implicitDefEqProofs -dsimp [hkb, hjb, LL, L1]
                refine hQ4 _ _ _ ?_
                simp -implicitDefEqProofs -dsimp [wrapS k (by omega), L1]
                have hAS : (addTo S es[k] es[k].length).length = 1 → S.length = 1 := fun h => by rw [ht2, List.length_append] at h; omega
                rcases gv_or (addTo S es[k] es[k].length) with ⟨h2, hgv2, hgh2⟩ | ⟨h2, hgv2, hgh2⟩
                all_goals try exact absurd (hAS h2) h1
                all_goals
                  refine hN3 (k + 1) _ _ (by omega) (by omega) ?_ ⟨[], ?_⟩ ?_ ?_ <;> simp [or_imp, forall_and, L1, encI, LL, hsc, hgv2, hgh2]
        · obtain rfl : k = es.length := by omega
          refine W_x tok mixed ?_
          simp -implicitDefEqProofs -dsimp [hkb, LL, L1]
          refine hQ3 _ _ _ ?_
          simp -implicitDefEqProofs -dsimp [wrapS n (by omega), L1]
          rcases gv_or (scanTo es v G es.length) with ⟨h2, hgv2, hgh2⟩ | ⟨h2, hgv2, hgh2⟩
          all_goals
            refine hN2 (n + 1, scanTo es v G es.length) _ _ ⟨by simp; rw [ht]; simp; omega, hnx, hbe2⟩ (by omega) ?_ ⟨[], ?_⟩ ?_ ?_ <;> simp [or_imp, forall_and, L1, encI, LL, hgv2, hgh2]
      · have hGe : bfs es (vs.length + 1) 0 [vs[i]] = G := by
          rw [← hbe]
          obtain ⟨m, hm2⟩ : ∃ m, vs.length + 1 - n = m + 1 := ⟨vs.length - n, by omega⟩
          rw [hm2, bfs, if_neg hnb]
        rw [hGe] at hst
        refine W_x tok mixed ?_
        simp -implicitDefEqProofs -dsimp [hnb, L1]
        refine hQ2 _ _ _ ?_
        simp -implicitDefEqProofs -dsimp [↓(app_done _ _ done G hGn (by omega) (by omega)), L1]
        refine (callPartG _ _ _ vs es G f g hs' (by omega) hne).mono ?_
        rintro r H' ⟨rfl, rfl⟩
        simp -implicitDefEqProofs -dsimp [encC, encH, LL, cap48 outs.length (by omega), wrapS i (by omega), L1]
        refine hN (i + 1) _ _ (by omega) (by omega) ?_ ⟨gh2 G, ?_⟩ ?_ ?_ <;> simp [or_imp, forall_and, L1, encI, LL, hst, encC, encH]
    · rw [hm] at hst
      simp -implicitDefEqProofs -dsimp [wrapS i (by omega), L1]
      refine hN (i + 1) _ _ (by omega) (by omega) ?_ ⟨[], ?_⟩ ?_ ?_ <;> simp [or_imp, forall_and, L1, encI, LL, hst, ← hdn, ← hou]
  · obtain rfl : i = vs.length := by omega
    refine W_x tok mixed ?_
    simp -implicitDefEqProofs -dsimp [hb, L1]
    refine hQ _ _ _ ?_
    simp -implicitDefEqProofs -dsimp [L1]
    exact ⟨exp_buf (xs := (compsR vs es).map encC) rfl (by simp [compsR]) (by rintro x hx; obtain ⟨p, _, rfl⟩ := List.mem_map.1 hx; exact encC_pure p), by rintro x a b _ rfl; exact encC_pure _⟩
end Go.Proofs.YtfaleabndlcanaaGreatDoor
