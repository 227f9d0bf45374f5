/- C2: slices.Insert of one number into an own list, on the abstract machine. -/
import Derived.Test.YtfaleabndlcanaaGreatDoorIns
namespace Go.Proofs.YtfaleabndlcanaaGreatDoor
open Go Go.AM Go.RowKit Go.Lib

theorem cell_row {w : World} {b e : Nat} {vs : Array Value} {z : Nat × Nat} (h : w.heap[b]? = some (.cells vs e z)) (j : Nat) : w.cell? ⟨b, j, none⟩ = vs[j]? := by
  simp [World.cell?, h]
theorem mid_take {α : Type} (vs cs : List α) (i n : Nat) (u : α) (hi : i ≤ n) (hn : n < vs.length) (hc : cs = vs.take n) :
    (((vs.take (i + 1) ++ cs.drop i ++ vs.drop (i + 1 + (cs.drop i).length)).take i ++ [u] ++ (vs.take (i + 1) ++ cs.drop i ++ vs.drop (i + 1 + (cs.drop i).length)).drop (i + [u].length))) = cs.take i ++ u :: cs.drop i ++ vs.drop (n + 1) := by
  have h2 : (cs.drop i).length = n - i := by rw [hc, List.length_drop, List.length_take]; omega
  have h3 : vs.take (i + 1) = vs.take i ++ [vs[i]'(by omega)] := by rw [List.take_succ_eq_append_getElem (by omega)]
  have h4 : (vs.take i).length = i := by rw [List.length_take]; omega
  have h5 : cs.take i = vs.take i := by rw [hc, List.take_take, Nat.min_eq_left hi]
  rw [h2, show i + 1 + (n - i) = n + 1 by omega, h3, h5]
  generalize vs.take i = P at h4
  generalize vs.drop (n + 1) = D
  generalize cs.drop i = C
  subst h4
  simp [List.drop_append]

theorem ins_con (H : List B) (k : Nat) (xs : List V) (i : Nat) (f : Bool) (v : V) (hk : H[k]? = some (.buf 2 1 xs false)) (hi : i ≤ xs.length) (hn : xs.length ≤ 1000000) :
    ConH Tryz.prog 56 [.buf k 0 xs.length xs.length, .int .i64 i, .lst 1 f [v]] H fun r H' => r = .buf k 0 (xs.length + 1) (xs.length + 1) ∧ H' = H.set k (.buf 2 1 (xs.take i ++ v :: xs.drop i) false) := by
  refine ⟨⟨Tryz.f56, Tryz.func56, rfl, rfl⟩, fun s vals hA hg hsz hrel => ?_⟩
  obtain ⟨rfl, hZ⟩ := hA
  obtain ⟨u0, u1, u2, rfl⟩ : ∃ u0 u1 u2, vals = #[u0, u1, u2] := by
    obtain ⟨l⟩ := vals
    match l, hsz with
    | [a, b, c], _ => exact ⟨a, b, c, rfl⟩
  have r0 := hrel 0 _ u0 rfl rfl
  have r1 := hrel 1 _ u1 rfl rfl
  have r2 := hrel 2 _ u2 rfl rfl
  cases r1
  cases r0 with
  | buf _ _ _ _ e z xs2 fz A l c hk2 ht hh =>
  rw [hk] at hk2
  cases hk2
  obtain ⟨hA, rfl, hcap, _⟩ := hh rfl
  cases r2 with
  | lst _ _ _ A2 cap2 vb voff uf hcap2 hfull2 hA2 hz2 hcell2 hrel2 =>
  obtain ⟨rfl, hP⟩ := hA2 (by simp)
  obtain ⟨hv1, hvo⟩ := hz2 v (by simp)
  obtain ⟨d, hd⟩ : ∃ d, v.cells = [d] := List.length_eq_one_iff.1 hv1
  have hcv : s.w.cell? ⟨vb, voff, none⟩ = some (uf 0 0) := by have := hcell2 0 v 0 d rfl (by rw [hd]; rfl); simpa using this
  have hrv : Rel s d (uf 0 0) := hrel2 0 v 0 d rfl (by rw [hd]; rfl)
  have hdo : d.one = true := hvo d (by rw [hd]; simp)
  obtain ⟨vs, g2, g3, g4, g5, g6, g7⟩ := hg.blk k _ hk
  rw [Nat.zero_add] at hcap
  rw [Nat.mul_one] at g3
  have hcap' : c = s.κ k := by omega
  obtain ⟨n, hnl⟩ : ∃ n, n = xs.length := ⟨_, rfl⟩
  obtain ⟨cs, hcs⟩ : ∃ cs, cs = vs.toList.take n := ⟨_, rfl⟩
  obtain ⟨uv, huv⟩ : ∃ uv, uv = uf 0 0 := ⟨_, rfl⟩
  rw [← huv] at hcv hrv
  have hcl : cs.length = n := by rw [hcs, List.length_take, Array.length_toList]; omega
  have hcsat : ∀ (j : Nat) u, cs[j]? = some u → j < n ∧ vs[j]? = some u := fun j u hj => by
    rw [hcs, List.getElem?_take] at hj
    split at hj
    · rename_i hjn; exact ⟨hjn, by simpa using hj⟩
    · cases hj
  have hrelc : ∀ (j : Nat) x dd u, xs[j]? = some x → x.cells[0]? = some dd → cs[j]? = some u → Rel s dd u := fun j x dd u hx hdd hu => g7 j x 0 dd u hx hdd (by simpa using (hcsat j u hu).2)
  have one1 : uv.oneCell' = true := hrv.oneCell hdo
  have onec : ∀ u ∈ cs, u.oneCell' = true := fun u hu => by
    obtain ⟨j, hj⟩ := List.mem_iff_getElem?.1 hu
    have hjn := (hcsat j u hj).1
    have hx : xs[j]? = some xs[j] := List.getElem?_eq_getElem (by omega)
    obtain ⟨hxl, hxo⟩ := g6 _ (List.mem_of_getElem? hx)
    obtain ⟨dd, hdd⟩ : ∃ dd, (xs[j]'(by omega)).cells = [dd] := List.length_eq_one_iff.1 hxl
    exact (hrelc j _ dd u hx (by rw [hdd]; rfl) hj).oneCell (hxo dd (by rw [hdd]; simp))
  have hyl : (xs.take i ++ v :: xs.drop i).length = n + 1 := by simp; omega
  have hyel : ∀ y ∈ xs.take i ++ v :: xs.drop i, y.cells.length = 1 ∧ ∀ d ∈ y.cells, d.one = true := fun y hy => by
    simp only [List.mem_append, List.mem_cons] at hy
    rcases hy with h | rfl | h
    · exact g6 y (List.mem_of_mem_take h)
    · exact ⟨hv1, hvo⟩
    · exact g6 y (List.mem_of_mem_drop h)
  have hyrel : ∀ (j : Nat) y dd u, (xs.take i ++ v :: xs.drop i)[j]? = some y → y.cells[0]? = some dd → (cs.take i ++ uv :: cs.drop i)[j]? = some u → Rel s dd u := fun j y dd u hy hdd hu => by
    have l1 : (xs.take i).length = i := by simp; omega
    have l2 : (cs.take i).length = i := by simp; omega
    rcases Nat.lt_trichotomy j i with h | h | h
    · rw [List.getElem?_append_left (by omega), List.getElem?_take, if_pos h] at hy hu
      exact hrelc j y dd u hy hdd hu
    · subst h
      rw [List.getElem?_append_right (by omega), l1, Nat.sub_self] at hy
      rw [List.getElem?_append_right (by omega), l2, Nat.sub_self] at hu
      simp at hy hu
      subst hy; subst hu
      rw [hd] at hdd
      simp at hdd
      subst hdd
      exact hrv
    · obtain ⟨m, rfl⟩ : ∃ m, j = i + (m + 1) := ⟨j - i - 1, by omega⟩
      rw [List.getElem?_append_right (by omega), l1, Nat.add_sub_cancel_left, List.getElem?_cons_succ, List.getElem?_drop] at hy
      rw [List.getElem?_append_right (by omega), l2, Nat.add_sub_cancel_left, List.getElem?_cons_succ, List.getElem?_drop] at hu
      exact hrelc (i + m) y dd u hy hdd hu
  -- the roads
  have fin : ∀ (e : Ending) (w' : World) (g c' : Nat) (us : Array Value), e = .returned (.slice (some ⟨g, 0, none⟩) (n + 1) c') → w'.os = s.w.os → w'.tape = s.w.tape → w'.output = s.w.output → s.w.heap.size ≤ w'.heap.size →
      (∀ b, b < s.w.heap.size → (s.κ k ≠ 0 → b ≠ s.φ k) → w'.heap[b]? = s.w.heap[b]?) → ((g = s.φ k ∧ s.κ k ≠ 0) ∨ s.w.heap.size ≤ g) → w'.heap[g]? = some (.cells us 2 (0, 0)) → us.size = c' → n + 1 ≤ c' → c' ≤ maxLen → (∀ j, j < n + 1 → us[j]? = (cs.take i ++ uv :: cs.drop i)[j]?) →
      ∃ (u : Value) (s' : AM.St) (r : V), e = .returned u ∧ s'.w = w' ∧ AM.Good s' ∧ AM.Step s s' ∧ Rel s' r u ∧ r = .buf k 0 (xs.length + 1) (xs.length + 1) ∧ s'.H = s.H.set k (.buf 2 1 (xs.take i ++ v :: xs.drop i) false) := fun e w' g c' us he h1 h2 h3 h4 h5 h6 h7 h8 h9 h10 h11 => by
    obtain ⟨k1, k2, k3⟩ := regrow (c := c') hg hk (by rw [hyl]; omega) h1 h2 h3 h4 h5 h6 h7 h8 (by rw [hyl]; exact h9) h10 hyel (fun j y dd u hy hdd hu => hyrel j y dd u hy hdd (by rw [← h11 j (by have := getElem?_lt hy; omega)]; exact hu))
    rw [hyl] at k3
    refine ⟨_, _, .buf k 0 (n + 1) (n + 1), he, rfl, k1, k2, k3, by rw [hnl], rfl⟩
  have hmx : s.κ k ≤ maxLen := g5
  have hv0 : ∀ j u, [uv][j]? = some u → s.w.cell? ⟨vb, voff + j, none⟩ = some u := fun j u hj => by
    have : j = 0 := by have := getElem?_lt hj; simpa using this
    subst this
    simp at hj
    subst hj
    exact hcv
  have hov : ∀ u ∈ [uv], u.oneCell' = true := fun u hu => by simp at hu; subst hu; exact one1
  by_cases hκ : s.κ k = 0
  · have hn0 : n = 0 := by omega
    have hi0 : i = 0 := by omega
    have hc00 : c = 0 := by omega
    have hcs0 : cs = [] := List.eq_nil_of_length_eq_zero (by omega)
    subst hi0
    have harg0 : Value.slice A xs.length c = Value.slice A 0 0 := by rw [← hnl, hn0, hc00]
    rw [harg0]
    rw [hn0, hcs0] at fin
    refine (ins_end_grow A 0 0 vb voff 1 cap2 [] [uv] s.w (by omega) (by omega) (by omega) (by omega) rfl rfl (fun _ => rfl) (fun a ha j u hj => by simp at hj) hv0 hov).mono fun e w' hew => ?_
    obtain ⟨h1, h2⟩ := hew
    subst h2
    have hgc := grownCap_ge s.w (0 + 1) 0 2
    refine fin _ (s.w.drew.alloc _) s.w.heap.size _ _ h1 rfl rfl rfl (by simp) (fun b hb hne => alloc_old s.w.drew _ b hb) (.inr (Nat.le_refl _)) (alloc_new s.w.drew _) ?_ hgc (grownCap_le_maxLen s.w _ _ _ (by unfold maxLen; omega)) (fun j hj => ?_)
    · have hgc' : 1 ≤ grownCap s.w 1 0 2 := hgc
      simp [Builtin.zeroCells, Value.cells]; omega
    · rw [Array.getElem?_append, if_pos (by simp; omega)]; simp
  have hA := hA hκ
  subst hA
  have g2 := g2 hκ
  have hvb : vb ≠ s.φ k := fun e => by
    obtain ⟨_, _, _, h⟩ := hP.2.2 k (lvB hk hκ) e.symm
    rw [hk] at h; cases h
  have harg : (Value.slice (some { block := s.φ k, off := 0 * 1 }) xs.length c) = Value.slice (some ⟨s.φ k, 0, none⟩) n c := by rw [hnl, Nat.zero_mul]
  rw [harg]
  have hc0 : ∀ j u, cs[j]? = some u → s.w.cell? ⟨s.φ k, 0 + j, none⟩ = some u := fun j u hj => by rw [cell_row g2, Nat.zero_add]; exact (hcsat j u hj).2
  have hfz : ∀ j, s.w.frozen? ⟨s.φ k, j, none⟩ = false := fun j => by simp [World.frozen?, g2]
  have hrow0 : ∀ w : World, w.heap = s.w.heap → w.heap[s.φ k]? = some (.cells vs 2 (0, 0)) := fun w h => by rw [h]; exact g2
  have seg : ∀ (us L : List Value) (j : Nat), us = cs.take i ++ uv :: cs.drop i ++ L → j < n + 1 → us[j]? = (cs.take i ++ uv :: cs.drop i)[j]? := fun us L j h hj => by
    rw [h, List.getElem?_append_left (by simp; omega)]
  have hshv : ∃ tA kA, s.w.shape? vb = some (tA, kA) ∧ kA ≠ 0 := by
    unfold World.cell? at hcv
    split at hcv
    · rename_i cc t z hh
      simp at hcv
      refine ⟨t, cc.size, by simp [World.shape?, hh], fun h0 => ?_⟩
      have := (Array.getElem?_eq_some_iff.1 hcv).1
      omega
    · cases hcv
  obtain ⟨tA, kA, hsA, hkA⟩ := hshv
  have hsB : s.w.shape? (s.φ k) = some (2, vs.size) := by simp [World.shape?, g2]
  rcases Nat.lt_or_ge i n with hin | hin
  · rcases Nat.lt_or_ge c (n + 1) with hroom | hroom
    · -- a new row
      refine (ins_grow (s.φ k) 0 n c i vb voff 1 cap2 cs [uv] s.w hin (by omega) (by omega) hroom (by omega) hcl rfl hc0 hv0 onec hov).mono fun e w' ⟨h1, h2⟩ => ?_
      subst h2
      have hgc := grownCap_ge s.w (n + 1) c 2
      obtain ⟨G, hG⟩ : ∃ G, G = grownCap s.w (n + 1) c 2 := ⟨_, rfl⟩
      rw [← hG] at h1 hgc ⊢
      obtain ⟨ROW, hROW⟩ : ∃ ROW : Array Value, ROW = (cs.take i).toArray ++ Builtin.zeroCells (Value.int .i64 0).cells (n + 1 - i) ++ Builtin.zeroCells (Value.int .i64 0).cells (G - (n + 1)) := ⟨_, rfl⟩
      rw [← hROW]
      have hRs : ROW.size = G := by rw [hROW]; simp [Builtin.zeroCells, Value.cells]; omega
      have hRt : ROW.toList.take i = cs.take i := by
        rw [hROW]
        simp only [Array.toList_append, List.append_assoc]
        rw [List.take_append_of_le_length (by simp; omega), List.take_of_length_le (by simp; omega)]
      have hw0 : ((s.w.alloc (.cells ROW 2)).drew).heap[s.w.heap.size]? = some (.cells ROW 2 (0, 0)) := alloc_new s.w _
      rw [setCells_eq s.w.heap.size 2 [uv] i ROW _ hw0 (by simp; omega)]
      have hw1 := setRow_heap _ s.w.heap.size ROW (ROW.toList.take i ++ [uv] ++ ROW.toList.drop (i + [uv].length)).toArray 2 (0, 0) hw0
      obtain ⟨R1, hR1⟩ : ∃ R1 : Array Value, R1 = (ROW.toList.take i ++ [uv] ++ ROW.toList.drop (i + [uv].length)).toArray := ⟨_, rfl⟩
      rw [← hR1] at hw1 ⊢
      have hR1s : R1.size = G := by rw [hR1]; simp; omega
      have hw1' : (((s.w.alloc (.cells ROW 2)).drew.setRow s.w.heap.size R1).drew).heap[s.w.heap.size]? = some (.cells R1 2 (0, 0)) := hw1
      rw [setCells_eq s.w.heap.size 2 (cs.drop i) (i + 1) R1 _ hw1' (by simp; omega)]
      have hw2 := setRow_heap _ s.w.heap.size R1 (R1.toList.take (i + 1) ++ cs.drop i ++ R1.toList.drop (i + 1 + (cs.drop i).length)).toArray 2 (0, 0) hw1'
      have hmid : R1.toList.take (i + 1) = cs.take i ++ [uv] := by
        rw [hR1]
        simp only [hRt]
        rw [List.take_append_of_le_length (by simp; omega), List.take_of_length_le (by simp; omega)]
      refine fin _ _ s.w.heap.size G _ h1 rfl rfl rfl (by simp) (fun b hb hne => ?_) (.inr (Nat.le_refl _)) hw2 ?_ hgc (by rw [hG]; exact grownCap_le_maxLen s.w _ _ _ (by unfold maxLen; omega)) (fun j hj => ?_)
      · rw [setRow_other _ _ _ _ (by omega)]
        show ((s.w.alloc (.cells ROW 2)).drew.setRow s.w.heap.size R1).heap[b]? = _
        rw [setRow_other _ _ _ _ (by omega)]
        exact alloc_old s.w _ b hb
      · simp; omega
      · rw [List.getElem?_toArray]
        refine seg _ (R1.toList.drop (i + 1 + (cs.drop i).length)) j ?_ hj
        rw [hmid]
        simp
    · -- in place
      refine (ins_shift (s.φ k) 0 n c i vb voff 1 cap2 cs [uv] s.w hin (by omega) hroom (by unfold maxLen at hmx; omega) hvb hcl rfl hc0 (fun j hj => by rw [cell_row g2, Nat.zero_add]; simp; omega) (fun j hj => by rw [Nat.zero_add]; exact hfz j) hv0 onec hov tA 2 kA vs.size hsA hsB (by omega) hkA (hfz _)).mono fun e w' ⟨h1, h2⟩ => ?_
      subst h2
      have e1 := setCells_eq (s.φ k) 2 (cs.drop i) (0 + (i + 1)) vs s.w.drew g2 (by simp; omega)
      rw [e1]
      have hw1 := setRow_heap s.w.drew (s.φ k) vs (vs.toList.take (0 + (i + 1)) ++ cs.drop i ++ vs.toList.drop (0 + (i + 1) + (cs.drop i).length)).toArray 2 (0, 0) g2
      have e2 := setCells_eq (s.φ k) 2 [uv] (0 + i) _ _ hw1 (by simp; omega)
      rw [e2]
      have hw2 := setRow_heap _ (s.φ k) _ (((vs.toList.take (0 + (i + 1)) ++ cs.drop i ++ vs.toList.drop (0 + (i + 1) + (cs.drop i).length)).toArray.toList.take (0 + i) ++ [uv] ++ (vs.toList.take (0 + (i + 1)) ++ cs.drop i ++ vs.toList.drop (0 + (i + 1) + (cs.drop i).length)).toArray.toList.drop (0 + i + [uv].length)).toArray) 2 (0, 0) hw1
      have hmid := mid_take vs.toList cs i n uv (by omega) (by simp; omega) hcs
      refine fin _ _ (s.φ k) c _ h1 rfl rfl rfl (by simp) (fun b hb hne => by rw [setRow_other _ _ _ _ (hne hκ), setRow_other _ _ _ _ (hne hκ)]; rfl) (.inl ⟨rfl, hκ⟩) hw2 ?_ hroom (by omega) (fun j hj => ?_)
      · have := congrArg List.length hmid
        simp only [Nat.zero_add, List.size_toArray]
        rw [this]
        simp
        omega
      · rw [List.getElem?_toArray]
        simp only [Nat.zero_add]
        rw [hmid]
        exact seg _ _ j rfl hj
  · have hin' : i = n := by omega
    subst hin'
    have htl : cs.take i ++ uv :: cs.drop i = cs ++ [uv] := by rw [List.take_of_length_le (by omega), List.drop_of_length_le (by omega)]
    rcases Nat.lt_or_ge c (i + 1) with hroom | hroom
    · refine (ins_end_grow (some ⟨s.φ k, 0, none⟩) i c vb voff 1 cap2 cs [uv] s.w (by omega) (by omega) hroom (by omega) hcl rfl (fun h => by cases h) (fun a ha j u hj => by cases ha; rw [Addr.add_lit]; exact hc0 j u hj) hv0 hov).mono fun e w' ⟨h1, h2⟩ => ?_
      subst h2
      have hgc := grownCap_ge s.w (i + 1) c 2
      refine fin _ _ s.w.heap.size _ _ h1 rfl rfl rfl (by simp) (fun b hb hne => alloc_old s.w.drew _ b hb) (.inr (Nat.le_refl _)) (alloc_new s.w.drew _) ?_ hgc (grownCap_le_maxLen s.w _ _ _ (by unfold maxLen; omega)) (fun j hj => ?_)
      · simp [Builtin.zeroCells, Value.cells]; omega
      · rw [htl, Array.getElem?_append, if_pos (by simp; omega)]; simp
    · refine (ins_end_room (s.φ k) 0 i c vb voff 1 cap2 [uv] s.w (by omega) hroom (by unfold maxLen at hmx; omega) rfl (fun j hj => by rw [cell_row g2]; simp; omega) (fun j hj => hfz _) hv0 hov).mono fun e w' ⟨h1, h2⟩ => ?_
      subst h2
      rw [setCells_eq (s.φ k) 2 [uv] (0 + i) vs s.w g2 (by simp; omega)]
      have hw1 := setRow_heap s.w (s.φ k) vs (vs.toList.take (0 + i) ++ [uv] ++ vs.toList.drop (0 + i + [uv].length)).toArray 2 (0, 0) g2
      refine fin _ _ (s.φ k) c _ h1 rfl rfl rfl (by simp) (fun b hb hne => by rw [setRow_other _ _ _ _ (hne hκ)]) (.inl ⟨rfl, hκ⟩) hw1 ?_ hroom (by omega) (fun j hj => ?_)
      · simp; omega
      · rw [List.getElem?_toArray]
        refine seg _ (vs.toList.drop (0 + i + [uv].length)) j ?_ hj
        rw [htl, Nat.zero_add, ← hcs]
end Go.Proofs.YtfaleabndlcanaaGreatDoor
