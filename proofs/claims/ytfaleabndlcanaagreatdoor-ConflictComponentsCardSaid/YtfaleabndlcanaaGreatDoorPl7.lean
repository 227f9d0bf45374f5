/- Pl7: both sides find the same components. -/
import Derived.Test.YtfaleabndlcanaaGreatDoorPl6
set_option linter.unusedSimpArgs false
namespace Go.Proofs.YtfaleabndlcanaaGreatDoor
open Go Go.AM
abbrev Cm := List Int × List (List Int)
open Classical in
noncomputable def conV (vs : List Int) (es : List (List Int)) (v : Int) : List Int := vs.filter fun x => decide (Conn es v x)
open Classical in
noncomputable def conE (es : List (List Int)) (v : Int) : List (List Int) := es.filter fun e => decide (∀ x ∈ e, Conn es v x)
def Lead (vs : List Int) (es : List (List Int)) (i : Nat) : Prop := ∀ j, j < i → ¬ Conn es (vs.getD j 0) (vs.getD i 0)
open Classical in
noncomputable def compsTo (vs : List Int) (es : List (List Int)) : Nat → List Cm
  | 0 => []
  | i + 1 => if Lead vs es i then compsTo vs es i ++ [(conV vs es (vs.getD i 0), conE es (vs.getD i 0))] else compsTo vs es i
theorem compsTo_len (vs : List Int) (es : List (List Int)) : ∀ i, (compsTo vs es i).length ≤ i
  | 0 => by simp [compsTo]
  | i + 1 => by
    have := compsTo_len vs es i
    simp only [compsTo]
    split
    · simp; omega
    · omega
theorem conV_congr (vs : List Int) {es : List (List Int)} {a b : Int} (h : Conn es a b) : conV vs es a = conV vs es b := by
  unfold conV
  congr 1
  funext x
  exact decide_eq_decide.2 ⟨fun h1 => h.symm.trans h1, fun h1 => h.trans h1⟩
theorem conE_congr {es : List (List Int)} {a b : Int} (h : Conn es a b) : conE es a = conE es b := by
  unfold conE
  congr 1
  funext e
  exact decide_eq_decide.2 ⟨fun h1 x hx => h.symm.trans (h1 x hx), fun h1 x hx => h.trans (h1 x hx)⟩
/- The reference's search. -/
theorem bfs_end {vs : List Int} {es : List (List Int)} (hs : ∀ e ∈ es, ∀ x ∈ e, x ∈ vs) {v : Int} : ∀ (fuel n : Nat) (g : List Int), Bf vs es v n g → vs.length + 1 ≤ fuel + n → ∃ n', (bfs es fuel n g).length ≤ n' ∧ Bf vs es v n' (bfs es fuel n g)
  | 0, n, g, h, hn => ⟨n, by have := nodup_len h.nd h.sub; simp only [bfs]; omega, h⟩
  | fuel + 1, n, g, h, hn => by
    simp only [bfs]
    split
    · rename_i hlt
      exact bfs_end hs fuel (n + 1) _ (h.next hs hlt) (by omega)
    · exact ⟨n, by omega, h⟩
theorem bfs_mem {vs : List Int} {es : List (List Int)} (hs : ∀ e ∈ es, ∀ x ∈ e, x ∈ vs) {v : Int} (hv : v ∈ vs) (x : Int) : x ∈ bfs es (vs.length + 1) 0 [v] ↔ Conn es v x := by
  obtain ⟨n, h1, h2⟩ := bfs_end hs (vs.length + 1) 0 [v] (Bf.init hv) (by omega)
  exact h2.all h1 x
theorem bfs_len {vs : List Int} {es : List (List Int)} (hs : ∀ e ∈ es, ∀ x ∈ e, x ∈ vs) {v : Int} (hv : v ∈ vs) : (bfs es (vs.length + 1) 0 [v]).length ≤ vs.length := by
  obtain ⟨n, h1, h2⟩ := bfs_end hs (vs.length + 1) 0 [v] (Bf.init hv) (by omega)
  exact nodup_len h2.nd h2.sub
def stR (vs : List Int) (es : List (List Int)) : Nat → List Int × List Cm
  | 0 => ([], [])
  | i + 1 => if memB (stR vs es i).1 (vs.getD i 0) then stR vs es i else
      ((stR vs es i).1 ++ bfs es (vs.length + 1) 0 [vs.getD i 0], (stR vs es i).2 ++ [(partV vs (bfs es (vs.length + 1) 0 [vs.getD i 0]), partE es (bfs es (vs.length + 1) 0 [vs.getD i 0]))])
theorem getD_mem {vs : List Int} {i : Nat} (h : i < vs.length) : vs.getD i 0 ∈ vs := by
  have : vs.getD i 0 = vs[i] := by simp [h]
  rw [this]; exact List.getElem_mem h
open Classical in
theorem stR_ok {vs : List Int} {es : List (List Int)} (hs : ∀ e ∈ es, ∀ x ∈ e, x ∈ vs) : ∀ i, i ≤ vs.length → (∀ x, x ∈ (stR vs es i).1 ↔ ∃ j, j < i ∧ Conn es (vs.getD j 0) x) ∧ (stR vs es i).2 = compsTo vs es i ∧ (stR vs es i).1.length ≤ i * vs.length
  | 0, _ => by simp [stR, compsTo]
  | i + 1, h => by
    obtain ⟨h1, h2, h3⟩ := stR_ok hs i (by omega)
    have hv : vs.getD i 0 ∈ vs := getD_mem (by omega)
    have hm := bfs_mem hs hv
    have hl := bfs_len hs hv
    simp only [stR, compsTo]
    by_cases hL : Lead vs es i
    · have hno : memB (stR vs es i).1 (vs.getD i 0) = false := by
        cases hq : memB (stR vs es i).1 (vs.getD i 0)
        · rfl
        · obtain ⟨j, hj, hc⟩ := (h1 _).1 (memB_iff.1 hq)
          exact absurd hc (hL j hj)
      rw [hno, if_neg (by simp), if_pos hL]
      refine ⟨fun x => ?_, ?_, ?_⟩
      · rw [List.mem_append, h1, hm]
        constructor
        · rintro (⟨j, hj, hc⟩ | hc)
          · exact ⟨j, by omega, hc⟩
          · exact ⟨i, by omega, hc⟩
        · rintro ⟨j, hj, hc⟩
          rcases Nat.lt_or_ge j i with h4 | h4
          · exact .inl ⟨j, h4, hc⟩
          · obtain rfl : j = i := by omega
            exact .inr hc
      · have hpV : partV vs (bfs es (vs.length + 1) 0 [vs.getD i 0]) = conV vs es (vs.getD i 0) := by
          unfold partV conV
          congr 1
          funext x
          rw [Bool.eq_iff_iff, memB_iff, hm, decide_eq_true_iff]
        have hpE : partE es (bfs es (vs.length + 1) 0 [vs.getD i 0]) = conE es (vs.getD i 0) := by
          unfold partE conE
          congr 1
          funext e
          rw [Bool.eq_iff_iff, within_iff, decide_eq_true_iff]
          exact ⟨fun h x hx => (hm x).1 (h x hx), fun h x hx => (hm x).2 (h x hx)⟩
        simp only [Bool.false_eq_true, if_false, h2, hpV, hpE]
      · rw [List.length_append, Nat.add_mul]
        omega
    · have hyes : memB (stR vs es i).1 (vs.getD i 0) = true := by
        refine memB_iff.2 ((h1 _).2 (Classical.byContradiction fun hn => hL fun j hj hc => hn ⟨j, hj, hc⟩))
      rw [hyes, if_pos rfl, if_neg hL]
      refine ⟨fun x => ?_, h2, by rw [Nat.add_mul]; omega⟩
      rw [h1]
      constructor
      · rintro ⟨j, hj, hc⟩
        exact ⟨j, by omega, hc⟩
      · rintro ⟨j, hj, hc⟩
        rcases Nat.lt_or_ge j i with h4 | h4
        · exact ⟨j, h4, hc⟩
        · obtain rfl : j = i := by omega
          obtain ⟨k, hk, hc2⟩ := (h1 _).1 (memB_iff.1 hyes)
          exact ⟨k, hk, hc2.trans hc⟩
/- The program's forest. -/
theorem bsP_at {vs : List Int} (ha : asc vs = true) {x : Int} (hx : x ∈ vs) : ∃ (h : bsP vs x < vs.length), vs[bsP vs x] = x := by
  have := bsF_mem ha x
  rw [memB_iff.2 hx] at this
  have h2 := beq_iff_eq.1 this
  obtain ⟨h3, h4⟩ := List.getElem?_eq_some_iff.1 h2
  exact ⟨h3, h4⟩
theorem bsP_getElem {vs : List Int} (ha : asc vs = true) {i : Nat} (hi : i < vs.length) : bsP vs vs[i] = i := by
  obtain ⟨h1, h2⟩ := bsP_at ha (List.getElem_mem hi)
  rcases Nat.lt_trichotomy (bsP vs vs[i]) i with h | h | h
  · have := asc_lt ha _ _ h1 hi h; omega
  · exact h
  · have := asc_lt ha _ _ hi h1 h; omega
/-- The members of an edge up to place k are in the tree of the first. -/
def eTo (vs : List Int) (e : List Int) (part : List Nat) : Nat → List Nat
  | 0 => part
  | k + 1 => unite (eTo vs e part k) (bsP vs (e.getD 0 0)) (bsP vs (e.getD (k + 1) 0))
def ufTo (vs : List Int) (es : List (List Int)) : Nat → List Nat
  | 0 => List.range vs.length
  | j + 1 => eTo vs (eAt es j) (ufTo vs es j) ((eAt es j).length - 1)
def ufF (vs : List Int) (es : List (List Int)) : List Nat := ufTo vs es es.length
theorem eTo_ok {vs : List Int} {es : List (List Int)} (ha : asc vs = true) {e : List Int} (he : e ∈ es) (hs : ∀ x ∈ e, x ∈ vs) {part : List Nat} (hu : Uf vs es part) : ∀ k, k + 1 ≤ e.length → Uf vs es (eTo vs e part k) ∧ (∀ a b, rootN part a = rootN part b → rootN (eTo vs e part k) a = rootN (eTo vs e part k) b) ∧
      ∀ j, j ≤ k → rootN (eTo vs e part k) (bsP vs (e.getD 0 0)) = rootN (eTo vs e part k) (bsP vs (e.getD j 0))
  | 0, _ => ⟨hu, fun a b h => h, fun j hj => by have h0 : j = 0 := (by omega); subst h0; rfl⟩
  | k + 1, h => by
    obtain ⟨h1, h2, h3⟩ := eTo_ok ha he hs hu k (by omega)
    have m0 : e.getD 0 0 ∈ e := getD_mem (by omega)
    have m1 : e.getD (k + 1) 0 ∈ e := getD_mem (by omega)
    obtain ⟨a1, a2⟩ := bsP_at ha (hs _ m0)
    obtain ⟨b1, b2⟩ := bsP_at ha (hs _ m1)
    have hl := h1.len
    simp only [eTo]
    refine ⟨unite_uf h1 a1 b1 (by rw [a2, b2]; exact ⟨e, he, m0, m1⟩), fun a b hab => unite_keep h1.down (by omega) (by omega) (h2 a b hab), fun j hj => ?_⟩
    rcases Nat.lt_or_ge j (k + 1) with h4 | h4
    · exact unite_keep h1.down (by omega) (by omega) (h3 j (by omega))
    · obtain rfl : j = k + 1 := by omega
      exact unite_same h1.down (by omega) (by omega)
theorem ufTo_ok {vs : List Int} {es : List (List Int)} (ha : asc vs = true) (hs : ∀ e ∈ es, ∀ x ∈ e, x ∈ vs) (hne : ∀ e ∈ es, e ≠ []) : ∀ j, j ≤ es.length → Uf vs es (ufTo vs es j) ∧ ∀ e ∈ es.take j, ∀ x ∈ e, rootN (ufTo vs es j) (bsP vs (e.getD 0 0)) = rootN (ufTo vs es j) (bsP vs x)
  | 0, _ => ⟨Uf.init vs es, fun e he => by simp at he⟩
  | j + 1, h => by
    obtain ⟨h1, h2⟩ := ufTo_ok ha hs hne j (by omega)
    have hj : j < es.length := by omega
    have hm := List.getElem_mem hj
    have hp : 0 < es[j].length := List.length_pos_iff.2 (hne _ hm)
    obtain ⟨k1, k2, k3⟩ := eTo_ok ha hm (hs _ hm) h1 (es[j].length - 1) (by omega)
    simp only [ufTo, getD_at hj]
    refine ⟨k1, fun e he x hx => ?_⟩
    rw [List.take_succ_eq_append_getElem hj] at he
    rcases List.mem_append.1 he with he | he
    · exact k2 _ _ (h2 e he x hx)
    · simp at he
      subst he
      obtain ⟨i, hi, rfl⟩ := List.mem_iff_getElem.1 hx
      have := k3 i (by omega)
      rwa [show es[j].getD i 0 = es[j][i] by simp [hi]] at this
theorem uf_conn {vs : List Int} {es : List (List Int)} (ha : asc vs = true) (hs : ∀ e ∈ es, ∀ x ∈ e, x ∈ vs) (hne : ∀ e ∈ es, e ≠ []) {a b : Nat} (hA : a < vs.length) (hB : b < vs.length) : rootN (ufF vs es) a = rootN (ufF vs es) b ↔ Conn es vs[a] vs[b] := by
  obtain ⟨h1, h2⟩ := ufTo_ok ha hs hne es.length (Nat.le_refl _)
  rw [List.take_length] at h2
  change Uf vs es (ufF vs es) at h1
  change ∀ e ∈ es, ∀ x ∈ e, rootN (ufF vs es) (bsP vs (e.getD 0 0)) = rootN (ufF vs es) (bsP vs x) at h2
  constructor
  · intro h
    obtain ⟨r1, c1⟩ := h1.root a hA
    obtain ⟨r2, c2⟩ := h1.root b hB
    simp only [h] at c1
    exact c1.trans c2.symm
  · intro h
    have key : ∀ x y, Conn es x y → x ∈ vs → y ∈ vs ∧ rootN (ufF vs es) (bsP vs x) = rootN (ufF vs es) (bsP vs y) := fun x y hc => by
      induction hc with
      | refl => exact fun h => ⟨h, rfl⟩
      | step _ ad ih =>
        intro hx
        obtain ⟨_, i2⟩ := ih hx
        obtain ⟨e, he, m1, m2⟩ := ad
        exact ⟨hs e he _ m2, by rw [i2, ← h2 e he _ m1, ← h2 e he _ m2]⟩
    have := (key _ _ h (List.getElem_mem hA)).2
    rwa [bsP_getElem ha hA, bsP_getElem ha hB] at this
/-- The roots, in the order in which they are met. -/
def rsTo (part : List Nat) : Nat → List Nat
  | 0 => []
  | i + 1 => if (rsTo part i).contains (rootN part i) then rsTo part i else rsTo part i ++ [rootN part i]
def vTo (part : List Nat) (vs : List Int) (i r : Nat) : List Int := ((List.range i).filter fun j => rootN part j == r).map fun j => vs.getD j 0
def eOf (part : List Nat) (vs : List Int) (es : List (List Int)) (r : Nat) : List (List Int) := es.filter fun e => rootN part (bsP vs (e.getD 0 0)) == r
def compsC (vs : List Int) (es : List (List Int)) : List Cm := (rsTo (ufF vs es) vs.length).map fun r => (vTo (ufF vs es) vs vs.length r, eOf (ufF vs es) vs es r)
theorem rsTo_mem (part : List Nat) : ∀ i r, r ∈ rsTo part i ↔ ∃ j, j < i ∧ rootN part j = r
  | 0, r => by simp [rsTo]
  | i + 1, r => by
    have ih := rsTo_mem part i
    simp only [rsTo]
    split
    · rename_i h
      have h := (ih _).1 (List.contains_iff_mem.1 h)
      rw [ih]
      constructor
      · rintro ⟨j, hj, e⟩; exact ⟨j, by omega, e⟩
      · rintro ⟨j, hj, e⟩
        rcases Nat.lt_or_ge j i with h4 | h4
        · exact ⟨j, h4, e⟩
        · obtain rfl : j = i := by omega
          obtain ⟨k, hk, e2⟩ := h
          exact ⟨k, hk, e2.trans e⟩
    · rw [List.mem_append, ih, List.mem_singleton]
      constructor
      · rintro (⟨j, hj, e⟩ | e)
        · exact ⟨j, by omega, e⟩
        · exact ⟨i, by omega, e.symm⟩
      · rintro ⟨j, hj, e⟩
        rcases Nat.lt_or_ge j i with h4 | h4
        · exact .inl ⟨j, h4, e⟩
        · obtain rfl : j = i := by omega
          exact .inr e.symm
theorem vTo_all (part : List Nat) (vs : List Int) (r : Nat) (p : Int → Bool) (h : ∀ j (hj : j < vs.length), p vs[j] = (rootN part j == r)) : vTo part vs vs.length r = vs.filter p := by
  have e : vs = (List.range vs.length).map fun j => vs.getD j 0 := by
    apply List.ext_getElem
    · simp
    · intro i h1 h2; simp [h1]
  unfold vTo
  conv => rhs; rw [e]
  rw [List.filter_map]
  congr 1
  apply List.filter_congr
  intro j hj
  have hj := List.mem_range.1 hj
  simp only [Function.comp]
  rw [show vs.getD j 0 = vs[j] by simp [hj]]
  exact (h j hj).symm
open Classical in
theorem compsC_eq {vs : List Int} {es : List (List Int)} (ha : asc vs = true) (hs : ∀ e ∈ es, ∀ x ∈ e, x ∈ vs) (hne : ∀ e ∈ es, e ≠ []) : compsC vs es = compsTo vs es vs.length := by
  have key : ∀ i, i ≤ vs.length → (rsTo (ufF vs es) i).map (fun r => (vTo (ufF vs es) vs vs.length r, eOf (ufF vs es) vs es r)) = compsTo vs es i := by
    intro i
    induction i with
    | zero => intro _; rfl
    | succ i ih =>
      intro hi
      have hi' : i < vs.length := by omega
      have hg : vs.getD i 0 = vs[i] := by simp [hi']
      have ih := ih (by omega)
      have hlead : (rsTo (ufF vs es) i).contains (rootN (ufF vs es) i) = true ↔ ¬ Lead vs es i := by
        rw [List.contains_iff_mem, rsTo_mem]
        constructor
        · rintro ⟨j, hj, e⟩ hL
          have := (uf_conn ha hs hne (by omega) hi').1 e
          exact hL j hj (by rw [hg, show vs.getD j 0 = vs[j] by simp [show j < vs.length by omega]]; exact this)
        · intro hL
          refine Classical.byContradiction fun hn => hL fun j hj hc => hn ⟨j, hj, ?_⟩
          rw [hg, show vs.getD j 0 = vs[j] by simp [show j < vs.length by omega]] at hc
          exact (uf_conn ha hs hne (by omega) hi').2 hc
      simp only [rsTo, compsTo]
      by_cases hL : Lead vs es i
      · rw [if_pos hL, if_neg (fun h => hlead.1 h hL), List.map_append, ih, List.map_singleton]
        congr 3
        · unfold conV
          refine vTo_all _ _ _ _ fun j hj => ?_
          rw [Bool.eq_iff_iff, decide_eq_true_iff, beq_iff_eq, hg, uf_conn ha hs hne hj hi']
          exact ⟨Conn.symm, Conn.symm⟩
        · unfold eOf conE
          apply List.filter_congr
          intro e he
          have hp : 0 < e.length := List.length_pos_iff.2 (hne e he)
          have m0 : e.getD 0 0 ∈ e := getD_mem hp
          obtain ⟨a1, a2⟩ := bsP_at ha (hs e he _ m0)
          rw [Bool.eq_iff_iff, decide_eq_true_iff, beq_iff_eq, hg, uf_conn ha hs hne a1 hi', a2]
          exact ⟨fun h x hx => h.symm.trans (Adj.conn ⟨e, he, m0, hx⟩), fun h => (h _ m0).symm⟩
      · rw [if_neg hL, if_pos (hlead.2 hL), ih]
  exact key vs.length (Nat.le_refl _)
end Go.Proofs.YtfaleabndlcanaaGreatDoor
