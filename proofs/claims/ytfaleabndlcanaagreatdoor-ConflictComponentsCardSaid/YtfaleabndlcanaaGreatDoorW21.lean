/- W21: conflict.Components. Expanded by pp.py. -/
import Derived.Test.YtfaleabndlcanaaGreatDoorPl9
import Derived.Test.YtfaleabndlcanaaGreatDoorW20
set_option linter.unusedSimpArgs false
set_option maxRecDepth 100000
namespace Go.Proofs.YtfaleabndlcanaaGreatDoor
open Go Go.AM
/-- The forest while it is laid. -/
def iTo (n i : Nat) : List Nat := (List.range n).map fun j => if j < i then j else 0
theorem iTo_len (n i : Nat) : (iTo n i).length = n := by simp [iTo]
theorem iTo_zero (n : Nat) : (iTo n 0).map encN = List.replicate n (.int .i64 0) := by
  apply List.ext_getElem
  · simp [iTo]
  · intro i h1 h2; simp [iTo, encN]
theorem iTo_all (n : Nat) : iTo n n = List.range n := by
  apply List.ext_getElem
  · simp [iTo]
  · intro i h1 h2
    have : i < n := by simpa using h2
    simp [iTo, this]
theorem iTo_set (n i : Nat) (h : i < n) : ((iTo n i).map encN).set i (.int .i64 (i : Int)) = (iTo n (i + 1)).map encN := by
  apply List.ext_getElem
  · simp [iTo]
  · intro k h1 h2
    rw [List.getElem_set]
    split
    · rename_i hk; subst hk; simp [iTo, encN]
    · rename_i hk
      simp only [iTo, List.getElem_map, List.getElem_range]
      by_cases h3 : k < i
      · simp [h3, show k < i + 1 by omega]
      · simp [h3, show ¬ k < i + 1 by omega]
@[simp ↓ high] theorem rbB_encN (n e z : Nat) (xs : List Nat) (fz : Bool) : rbB n (.buf e z (xs.map encN) fz) ↔ True := rbB_buf1 fun x hx => by
  obtain ⟨p, _, rfl⟩ := List.mem_map.1 hx
  exact ⟨encN_pure p, encN_oneV p⟩
theorem ifmax {a b m : Nat} (h : m = max a b) : (if a < b then V.int .i64 (b : Int) else V.int .i64 (a : Int)) = V.int .i64 (m : Int) := by
  subst h
  split
  · rw [Nat.max_eq_right (by omega)]
  · rw [Nat.max_eq_left (by omega)]
def oV (part : List Nat) (vs : List Int) (i : Nat) (rs : List Nat) : List V := rs.mapIdx fun c r => .agg [.buf (c + 5) 0 (vTo part vs i r).length (vTo part vs i r).length, .nilS]
def bV (part : List Nat) (vs : List Int) (i : Nat) (rs : List Nat) : List B := rs.map fun r => .buf 2 1 ((vTo part vs i r).map encI) false
theorem rbB_mR (n : Nat) (kk : KK) (rs : List Nat) : rbB n (.map kk (mR rs)) := fun p hp => by
  obtain ⟨i, hi, rfl⟩ := List.mem_mapIdx.1 hp
  exact ⟨trivial, trivial⟩
theorem rbB_oV (P : List Nat) (vs : List Int) (i n : Nat) (rs : List Nat) (h : rs.length + 5 ≤ n) : rbB n (.buf 49 2 (oV P vs i rs) false) := fun x hx c hc => by
  obtain ⟨k, hk, rfl⟩ := List.mem_mapIdx.1 hx
  simp only [V.cells, List.mem_cons, List.not_mem_nil, or_false] at hc
  rcases hc with rfl | rfl
  · show k + 5 < n; omega
  · trivial
theorem rbB_bV (P : List Nat) (vs : List Int) (i n : Nat) (rs : List Nat) : ∀ bl ∈ bV P vs i rs, rbB n bl := fun bl hbl => by
  obtain ⟨r, _, rfl⟩ := List.mem_map.1 hbl
  exact (rbB_buf1 (by simp [encI])).2 trivial
theorem rbB_enc (n e z : Nat) (xs : List Nat) (fz : Bool) : rbB n (.buf e z (xs.map encN) fz) := (rbB_encN n e z xs fz).2 trivial
theorem oV_rb (P : List Nat) (vs : List Int) (es : List (List Int)) (i n : Nat) (f g : Bool) (rs : List Nat) : ∀ bl ∈ B.cells [L1 f vs, LL g es] :: B.buf 3 1 (P.map encN) false :: B.cells [.buf 1 0 n n] :: B.map (.int .i64) (mR rs) :: B.buf 49 2 (oV P vs i rs) false :: bV P vs i rs, rbB (B.cells [L1 f vs, LL g es] :: B.buf 3 1 (P.map encN) false :: B.cells [.buf 1 0 n n] :: B.map (.int .i64) (mR rs) :: B.buf 49 2 (oV P vs i rs) false :: bV P vs i rs).length bl := by
  have hl : (bV P vs i rs).length = rs.length := by simp [bV]
  simp only [List.forall_mem_cons]
  refine ⟨?_, rbB_enc _ _ _ _ _, ?_, rbB_mR _ _ _, rbB_oV _ _ _ _ _ (by simp [hl]), rbB_bV _ _ _ _ _⟩
  · simp [rbB, L1, LL]
  · simp [rbB]
theorem oV_len (P : List Nat) (vs : List Int) (i : Nat) (rs : List Nat) : (oV P vs i rs).length = rs.length := by simp [oV]
theorem bV_len (P : List Nat) (vs : List Int) (i : Nat) (rs : List Nat) : (bV P vs i rs).length = rs.length := by simp [bV]
section
variable {P : List Nat} {vs : List Int} {i c r : Nat} {rs : List Nat}
theorem oV_at (hc : rs[c]? = some r) : (oV P vs i rs)[c]? = some (.agg [.buf (c + 5) 0 (vTo P vs i r).length (vTo P vs i r).length, .nilS]) := by simp [oV, hc]
theorem bV_at (hc : rs[c]? = some r) : (bV P vs i rs)[c]? = some (.buf 2 1 ((vTo P vs i r).map encI) false) := by simp [bV, hc]
theorem vTo_hit (hr : r = rootN P i) (hi : i < vs.length) : vTo P vs (i + 1) r = vTo P vs i r ++ [vs[i]] := by rw [vTo_succ, if_pos hr.symm]; simp [hi]
theorem vTo_miss {s : Nat} (hr : r = rootN P i) (hs : s ≠ r) : vTo P vs (i + 1) s = vTo P vs i s := by rw [vTo_succ, if_neg (fun e => hs (hr ▸ e.symm))]
theorem oV_set (hn : rs.Nodup) (hc : rs[c]? = some r) (hr : r = rootN P i) (hi : i < vs.length) : (oV P vs i rs).set c (.agg [.buf (c + 5) 0 ((vTo P vs i r).length + 1) ((vTo P vs i r).length + 1), .nilS]) = oV P vs (i + 1) rs := by
  have := mapIdx_set (f := fun c r => V.agg [.buf (c + 5) 0 (vTo P vs i r).length (vTo P vs i r).length, .nilS]) (g := fun c r => V.agg [.buf (c + 5) 0 (vTo P vs (i + 1) r).length (vTo P vs (i + 1) r).length, .nilS]) hn hc (fun k s hs => by simp only [vTo_miss hr hs])
  simp only [vTo_hit hr hi, List.length_append, List.length_singleton] at this
  exact this
theorem bV_set (hn : rs.Nodup) (hc : rs[c]? = some r) (hr : r = rootN P i) (hi : i < vs.length) : (bV P vs i rs).set c (.buf 2 1 ((vTo P vs i r).map encI ++ [.int .i64 vs[i]]) false) = bV P vs (i + 1) rs := by
  have := map_set (f := fun r => B.buf 2 1 ((vTo P vs i r).map encI) false) (g := fun r => B.buf 2 1 ((vTo P vs (i + 1) r).map encI) false) hn hc (fun s hs => by simp only [vTo_miss hr hs])
  simp only [vTo_hit hr hi, List.map_append] at this
  exact this
theorem oV_new (hn : r ∉ rs) (hv : vTo P vs i r = []) (hr : r = rootN P i) (hi : i < vs.length) : oV P vs (i + 1) (rs ++ [r]) = oV P vs i rs ++ [.agg [.buf (rs.length + 5) 0 1 1, .nilS]] := by
  unfold oV
  rw [List.mapIdx_append]
  congr 1
  · apply List.ext_getElem
    · simp
    · intro k h1 h2
      have hk : k < rs.length := by simpa using h1
      simp only [List.getElem_mapIdx]
      rw [vTo_miss hr (fun e => hn (e ▸ List.getElem_mem hk))]
  · simp [vTo_hit hr hi, hv]
theorem bV_new (hn : r ∉ rs) (hv : vTo P vs i r = []) (hr : r = rootN P i) (hi : i < vs.length) : bV P vs (i + 1) (rs ++ [r]) = bV P vs i rs ++ [.buf 2 1 [.int .i64 vs[i]] false] := by
  unfold bV
  rw [List.map_append]
  congr 1
  · refine List.map_congr_left fun s hs => ?_
    rw [vTo_miss hr (fun e => hn (e ▸ hs))]
  · simp [vTo_hit hr hi, hv, encI]
end
/-- The components while their edges are laid. -/
def oE (P : List Nat) (vs : List Int) (es : List (List Int)) (rs : List Nat) (j : Nat) : List V := rs.mapIdx fun c r => .agg [.buf (c + 5) 0 (vTo P vs vs.length r).length (vTo P vs vs.length r).length, .buf (c + rs.length + 5) 0 (eOf P vs (es.take j) r).length (eOf P vs (es.take j) r).length]
def bVE (P : List Nat) (vs : List Int) (es : List (List Int)) (rs : List Nat) (j : Nat) : List B := bV P vs vs.length rs ++ rs.map fun r => .buf 46 1 ((eOf P vs (es.take j) r).map (L1 false)) false
theorem oE_len (P : List Nat) (vs : List Int) (es : List (List Int)) (rs : List Nat) (j : Nat) : (oE P vs es rs j).length = rs.length := by simp [oE]
theorem bVE_len (P : List Nat) (vs : List Int) (es : List (List Int)) (rs : List Nat) (j : Nat) : (bVE P vs es rs j).length = rs.length + rs.length := by simp [bVE, bV]
section
variable {P : List Nat} {vs : List Int} {es : List (List Int)} {j c r : Nat} {rs : List Nat}
theorem oE_at (hc : rs[c]? = some r) : (oE P vs es rs j)[c]? = some (.agg [.buf (c + 5) 0 (vTo P vs vs.length r).length (vTo P vs vs.length r).length, .buf (c + rs.length + 5) 0 (eOf P vs (es.take j) r).length (eOf P vs (es.take j) r).length]) := by simp [oE, hc]
theorem bVE_at (hc : rs[c]? = some r) : (bVE P vs es rs j)[c + rs.length]? = some (.buf 46 1 ((eOf P vs (es.take j) r).map (L1 false)) false) := by
  unfold bVE
  rw [List.getElem?_append_right (by simp [bV])]
  simp [bV, hc]
theorem bVE_v (hc : rs[c]? = some r) : (bVE P vs es rs j)[c]? = some (.buf 2 1 ((vTo P vs vs.length r).map encI) false) := by
  unfold bVE
  rw [List.getElem?_append_left (by simpa [bV] using getElem?_lt hc)]
  exact bV_at hc
theorem eOf_hit (hj : j < es.length) (hr : r = rootN P (bsP vs (es[j].getD 0 0))) : eOf P vs (es.take (j + 1)) r = eOf P vs (es.take j) r ++ [es[j]] := by rw [eOf_take _ _ _ _ _ hj, if_pos hr.symm]
theorem eOf_miss {s : Nat} (hj : j < es.length) (hr : r = rootN P (bsP vs (es[j].getD 0 0))) (hs : s ≠ r) : eOf P vs (es.take (j + 1)) s = eOf P vs (es.take j) s := by rw [eOf_take _ _ _ _ _ hj, if_neg (fun e => hs (hr ▸ e.symm))]
theorem oE_set (hn : rs.Nodup) (hc : rs[c]? = some r) (hj : j < es.length) (hr : r = rootN P (bsP vs (es[j].getD 0 0))) : (oE P vs es rs j).set c (.agg [.buf (c + 5) 0 (vTo P vs vs.length r).length (vTo P vs vs.length r).length, .buf (c + rs.length + 5) 0 ((eOf P vs (es.take j) r).length + 1) ((eOf P vs (es.take j) r).length + 1)]) = oE P vs es rs (j + 1) := by
  have := mapIdx_set (f := fun c r => V.agg [.buf (c + 5) 0 (vTo P vs vs.length r).length (vTo P vs vs.length r).length, .buf (c + rs.length + 5) 0 (eOf P vs (es.take j) r).length (eOf P vs (es.take j) r).length]) (g := fun c r => V.agg [.buf (c + 5) 0 (vTo P vs vs.length r).length (vTo P vs vs.length r).length, .buf (c + rs.length + 5) 0 (eOf P vs (es.take (j + 1)) r).length (eOf P vs (es.take (j + 1)) r).length]) hn hc (fun k s hs => by simp only [eOf_miss hj hr hs])
  simp only [eOf_hit hj hr, List.length_append, List.length_singleton] at this
  exact this
theorem bVE_set (hn : rs.Nodup) (hc : rs[c]? = some r) (hj : j < es.length) (hr : r = rootN P (bsP vs (es[j].getD 0 0))) : (bVE P vs es rs j).set (c + rs.length) (.buf 46 1 ((eOf P vs (es.take j) r).map (L1 false) ++ [L1 false es[j]]) false) = bVE P vs es rs (j + 1) := by
  have := map_set (f := fun r => B.buf 46 1 ((eOf P vs (es.take j) r).map (L1 false)) false) (g := fun r => B.buf 46 1 ((eOf P vs (es.take (j + 1)) r).map (L1 false)) false) hn hc (fun s hs => by simp only [eOf_miss hj hr hs])
  simp only [eOf_hit hj hr, List.map_append] at this
  unfold bVE
  rw [List.set_append, if_neg (by simp [bV]), ← this]
  congr 1
  simp [bV]
end
theorem oV_us (P : List Nat) (vs : List Int) (rs : List Nat) : oV P vs vs.length rs = (rs.mapIdx fun c r => V.buf (c + 5) 0 (vTo P vs vs.length r).length (vTo P vs vs.length r).length).map fun a => .agg [a, .nilS] := by
  unfold oV
  apply List.ext_getElem
  · simp
  · intro i h1 h2; simp
theorem own_H (P : List Nat) (vs : List Int) (es : List (List Int)) (rs : List Nat) (a b c d : B) :
    (a :: b :: c :: d :: B.buf 49 2 (oV P vs vs.length rs) false :: bV P vs vs.length rs).set 4 (.buf 49 2 ((rs.mapIdx fun c r => V.buf (c + 5) 0 (vTo P vs vs.length r).length (vTo P vs vs.length r).length).mapIdx fun i x => .agg [x, .buf ((a :: b :: c :: d :: B.buf 49 2 (oV P vs vs.length rs) false :: bV P vs vs.length rs).length + i) 0 0 0]) false) ++ List.replicate (rs.mapIdx fun c r => V.buf (c + 5) 0 (vTo P vs vs.length r).length (vTo P vs vs.length r).length).length (.buf 46 1 [] false) =
      a :: b :: c :: d :: B.buf 49 2 (oE P vs es rs 0) false :: bVE P vs es rs 0 := by
  have h0 : ∀ r, eOf P vs ([] : List (List Int)) r = [] := fun r => rfl
  have e1 : (rs.mapIdx fun c r => V.buf (c + 5) 0 (vTo P vs vs.length r).length (vTo P vs vs.length r).length).mapIdx (fun i x => V.agg [x, .buf ((bV P vs vs.length rs).length + 1 + 1 + 1 + 1 + 1 + i) 0 0 0]) = oE P vs es rs 0 := by
    apply List.ext_getElem
    · simp [oE]
    · intro i h1 h2
      simp [oE, bV, h0, Nat.add_comm, Nat.add_left_comm]
      omega
  simp only [List.set_cons_succ, List.set_cons_zero, List.length_cons, List.cons_append, e1, List.length_mapIdx]
  unfold bVE
  simp [h0, List.map_const']
theorem rbB_oE (P : List Nat) (vs : List Int) (es : List (List Int)) (j n : Nat) (rs : List Nat) (h : rs.length + rs.length + 5 ≤ n) : rbB n (.buf 49 2 (oE P vs es rs j) false) := fun x hx c hc => by
  obtain ⟨k, hk, rfl⟩ := List.mem_mapIdx.1 hx
  simp only [V.cells, List.mem_cons, List.not_mem_nil, or_false] at hc
  rcases hc with rfl | rfl
  · show k + 5 < n; omega
  · show k + rs.length + 5 < n; omega
theorem oE_rb (P : List Nat) (vs : List Int) (es : List (List Int)) (j n : Nat) (f g : Bool) (rs : List Nat) : ∀ bl ∈ B.cells [L1 f vs, LL g es] :: B.buf 3 1 (P.map encN) false :: B.cells [.buf 1 0 n n] :: B.map (.int .i64) (mR rs) :: B.buf 49 2 (oE P vs es rs j) false :: bVE P vs es rs j, rbB (B.cells [L1 f vs, LL g es] :: B.buf 3 1 (P.map encN) false :: B.cells [.buf 1 0 n n] :: B.map (.int .i64) (mR rs) :: B.buf 49 2 (oE P vs es rs j) false :: bVE P vs es rs j).length bl := by
  have hl := bVE_len P vs es rs j
  simp only [List.forall_mem_cons]
  refine ⟨?_, rbB_enc _ _ _ _ _, ?_, rbB_mR _ _ _, rbB_oE _ _ _ _ _ _ (by simp [hl]), fun bl hbl => ?_⟩
  · simp [rbB, L1, LL]
  · simp [rbB]
  · rcases List.mem_append.1 hbl with hbl | hbl
    · exact rbB_bV _ _ _ _ _ _ hbl
    · obtain ⟨r, _, rfl⟩ := List.mem_map.1 hbl
      exact (rbB_buf1 (fun x hx => by obtain ⟨e, _, rfl⟩ := List.mem_map.1 hx; exact ⟨by simp, rfl⟩)).2 trivial
theorem findR_new {rs : List Nat} {r : Nat} (h : r ∉ rs) : findA (.int .i64 (r : Int)) (mR (rs ++ [r])) 0 = some (rs.length, .int .i64 (rs.length : Int)) := by
  obtain ⟨c, h1, h2⟩ := findR_yes (rs ++ [r]) r (by simp)
  have hc : c = rs.length := by
    have hl := getElem?_lt h1
    simp at hl
    rcases Nat.lt_or_ge c rs.length with h3 | h3
    · rw [List.getElem?_append_left h3] at h1
      exact absurd (List.mem_of_getElem? h1) h
    · omega
  subst hc
  exact h2
theorem callPlace {H : List B} {vs : List Int} {es : List (List Int)} {f g : Bool} (v : Int) (hv : vs.length ≤ 1000000) (hk : H[0]? = some (.cells [L1 f vs, LL g es])) :
    WCall Tryz.prog (.fn 70 [.ptr 0 0]) [.int .i64 v] H fun r H' => r = .int .i64 (bsP vs v) ∧ H' = H := place_c H vs es f g v hv hk
theorem callRoot {H : List B} (part : List Nat) (i n : Nat) (hn : part.length = n) (hp : n ≤ 1000000) (hi : i < n) (hle : Down part) (hH : ∀ bl ∈ H, rbB H.length bl) (h1 : H[1]? = some (.buf 3 1 (part.map encN) false)) (h2 : H[2]? = some (.cells [.buf 1 0 n n])) :
    WCall Tryz.prog (.fn 69 [.ptr 2 0]) [.int .i64 i] H fun r H' => r = .int .i64 (rootN part i) ∧ H' = H := by
  subst hn
  exact root_c H part i hp hi hle hH h1 h2
theorem ifmx {a b m : Nat} (h : m = max a b) : (if a < b then (b : Int) else (a : Int)) = (m : Int) := by
  subst h
  split
  · rw [Nat.max_eq_right (by omega)]
  · rw [Nat.max_eq_left (by omega)]
theorem ifmn {a b m : Nat} (h : m = min a b) : (if b < a then (b : Int) else (a : Int)) = (m : Int) := by
  subst h
  split
  · rw [Nat.min_eq_right (by omega)]
  · rw [Nat.min_eq_left (by omega)]
theorem unite_set (P : List Nat) (a b m k : Nat) (h1 : m = max (rootN P a) (rootN P b)) (h2 : k = min (rootN P a) (rootN P b)) : (P.map encN).set m (.int .i64 (k : Int)) = (unite P a b).map encN := by
  subst h1
  subst h2
  unfold unite
  rw [List.map_set]
  rfl
set_option maxHeartbeats 16000000 in
theorem comps_c (vs : List Int) (es : List (List Int)) (f g : Bool) (hs : Small vs es) (hv2 : vs.length ≤ 100) (ha : asc vs = true) (hsub : ∀ e ∈ es, ∀ x ∈ e, x ∈ vs) (hne : ∀ e ∈ es, e ≠ []) : ConP Tryz.prog 35 [encH f g vs es] fun r => r = .lst 2 false ((compsC vs es).map encC) := by
  obtain ⟨hv, he, hes⟩ := hs
  have hut := fun j hj => (ufTo_ok (vs := vs) (es := es) ha hsub hne j hj).1
  refine conP_of_conX (conH_of_W tok Tryz.func35 rfl rfl ?_)
  refine W_x tok mixed ?_
  simp -implicitDefEqProofs -dsimp [Tryz.f35, List.replicate, encH, LL, show (8 : Int) * vs.length ≤ 281474976710656 ∧ (vs.length : Int) ≤ 9223372036854775807 by omega, L1]
  refine lw_of (W_loopV [false, false, false, false, true, false, false, false, false, false, false, false, false, false, false, false, false, false, false, false, false, false, false, false, false, false, false, false, false, false, true, true, true, true, true, true, true, true] (σ := Nat) (fun i => i ≤ vs.length) (fun i => vs.length - i) (fun i => [(30, .int .i64 i)]) (fun i => [B.cells [L1 f vs, LL g es], B.buf 3 1 ((iTo vs.length i).map encN) false, B.cells [.buf 1 0 vs.length vs.length]]) 0 (by omega) (by simp) (by simp [iTo_zero, L1, LL]) (by simp) ?_)
  intro i hi N Q hN hQ
  by_cases hb : i < vs.length
  · refine W_x tok mixed ?_
    simp -implicitDefEqProofs -dsimp [hb, iTo_len, iTo_set vs.length i hb, wrapS i (by omega), encN, L1]
    refine hN (i + 1) _ _ (by omega) (by omega) ?_ ⟨[], ?_⟩ ?_ ?_ <;> simp [or_imp, forall_and, L1, encI, LL]
  · obtain rfl : i = vs.length := by omega
    refine W_x tok mixed ?_
    simp -implicitDefEqProofs -dsimp [hb, L1]
    refine hQ _ _ _ ?_
    simp -implicitDefEqProofs -dsimp [iTo_all, LL, L1]
    refine lw_of (W_loopV [false, false, false, false, false, false, false, false, true, false, true, true, true, false, false, false, false, false, false, false, false, false, false, false, false, false, false, false, false, false, false, false, false, false, false, false, false, false, false, false, false, false, false, true, true, true, true, true, true, true, true, true, true, true, true, true, true, true, true, true, true, true, true, true, true, true, true, true, true, true, true, true, true, true, true, true] (σ := Nat) (fun j => j ≤ es.length) (fun j => es.length - j) (fun j => [(43, .int .i64 j)]) (fun j => [B.cells [L1 f vs, LL g es], B.buf 3 1 ((ufTo vs es j).map encN) false, B.cells [.buf 1 0 vs.length vs.length]]) 0 (by omega) (by simp) (by simp [ufTo, L1, LL]) (by simp) ?_)
    intro j hj N2 Q2 hN2 hQ2
    by_cases hjb : j < es.length
    · have hej := hes es[j] (List.getElem_mem hjb)
      have hm := List.getElem_mem hjb
      have huj := hut j hj
      have hus : ufTo vs es (j + 1) = eTo vs es[j] (ufTo vs es j) (es[j].length - 1) := by simp only [ufTo, getD_at hjb]
      have hek := fun k hk => (eTo_ok ha hm (hsub _ hm) huj k hk).1
      obtain ⟨e0, D, hD⟩ := List.exists_cons_of_ne_nil (hne _ hm)
      have hsb := hsub _ hm
      rw [hD] at hej hus hek hsb
      simp only [List.length_cons, Nat.add_one_sub_one] at hej hus hek
      have htk : List.take D.length (D.map encI) = D.map encI := List.take_of_length_le (by simp)
      refine W_x tok mixed ?_
      simp -implicitDefEqProofs -dsimp [hjb, LL, hD, encI, htk, L1]
      refine lw_of (W_loopV [false, false, false, false, false, false, false, false, false, false, true, true, true, false, false, false, false, false, false, false, false, false, false, false, false, false, false, false, false, false, false, false, false, false, false, false, false, false, false, false, false, false, false, false, false, false, false, false, false, false, true, true, true, true, true, true, true, true, true, true, true, true, true, true, true, true, true, true, true, true, true, true, true, true, true] (σ := Nat) (fun k => k ≤ D.length) (fun k => D.length - k) (fun k => [(50, .int .i64 k)]) (fun k => [B.cells [L1 f vs, LL g es], B.buf 3 1 ((eTo vs (e0 :: D) (ufTo vs es j) k).map encN) false, B.cells [.buf 1 0 vs.length vs.length]]) 0 (by omega) (by simp) (by simp [eTo, L1, LL]) (by simp) ?_)
      intro k hk N3 Q3 hN3 hQ3
      by_cases hkb : k < D.length
      · have hu := hek k (by omega)
        have hes2 : eTo vs (e0 :: D) (ufTo vs es j) (k + 1) = unite (eTo vs (e0 :: D) (ufTo vs es j) k) (bsP vs e0) (bsP vs D[k]) := by simp [eTo, hkb]
        obtain ⟨P, hP⟩ : ∃ P, P = eTo vs (e0 :: D) (ufTo vs es j) k := ⟨_, rfl⟩
        rw [← hP] at hu hes2 ⊢
        obtain ⟨a1, _⟩ := bsP_at ha (hsb e0 (by simp))
        obtain ⟨b1, _⟩ := bsP_at ha (hsb D[k] (by simp))
        have hl1 := rootN_le P (bsP vs e0)
        have hl2 := rootN_le P (bsP vs D[k])
        have hlen := hu.len
        refine W_x tok mixed ?_
        simp -implicitDefEqProofs -dsimp [hkb, LL, encI, L1]
        refine (callPlace e0 hv rfl).mono ?_
        rintro r H' ⟨rfl, rfl⟩
        simp -implicitDefEqProofs -dsimp [L1]
        refine (callRoot P (bsP vs e0) vs.length hlen hv a1 hu.down (by simp) rfl rfl).mono ?_
        rintro r H' ⟨rfl, rfl⟩
        simp -implicitDefEqProofs -dsimp [L1]
        refine (callPlace D[k] hv rfl).mono ?_
        rintro r H' ⟨rfl, rfl⟩
        simp -implicitDefEqProofs -dsimp [L1]
        refine (callRoot P (bsP vs D[k]) vs.length hlen hv b1 hu.down (by simp) rfl rfl).mono ?_
        rintro r H' ⟨rfl, rfl⟩
        obtain ⟨m, hm1⟩ : ∃ m, m = max (rootN P (bsP vs e0)) (rootN P (bsP vs D[k])) := ⟨_, rfl⟩
        obtain ⟨q, hq1⟩ : ∃ m, m = min (rootN P (bsP vs e0)) (rootN P (bsP vs D[k])) := ⟨_, rfl⟩
        have hset := unite_set P _ _ m q hm1 hq1
        simp -implicitDefEqProofs -dsimp [ifmx hm1, ifmn hq1, hlen, show m < vs.length by omega, encN, hset, wrapS k (by omega), L1]
        refine hN3 (k + 1) _ _ (by omega) (by omega) ?_ ⟨[], ?_⟩ ?_ ?_ <;> simp [or_imp, forall_and, L1, encI, LL, hes2]
      · obtain rfl : k = D.length := by omega
        refine W_x tok mixed ?_
        simp -implicitDefEqProofs -dsimp [hkb, LL, L1]
        refine hQ3 _ _ _ ?_
        simp -implicitDefEqProofs -dsimp [wrapS j (by omega), L1]
        refine hN2 (j + 1) _ _ (by omega) (by omega) ?_ ⟨[], ?_⟩ ?_ ?_ <;> simp [or_imp, forall_and, L1, encI, LL, hus, htk]
    · obtain rfl : j = es.length := by omega
      refine W_x tok mixed ?_
      simp -implicitDefEqProofs -dsimp [hjb, LL, L1]
      refine hQ2 _ _ _ ?_
      simp -implicitDefEqProofs -dsimp [LL, L1]
      have hub := hut es.length (Nat.le_refl _)
      obtain ⟨P, hP⟩ : ∃ P, P = ufTo vs es es.length := ⟨_, rfl⟩
      rw [← hP] at hub ⊢
      have hlen := hub.len
      have hcm : compsC vs es = (rsTo P vs.length).map fun r => (vTo P vs vs.length r, eOf P vs es r) := by rw [hP]; rfl
      refine lw_of (W_own 49 2 [13] (by simp) (W_loopV [false, false, false, false, false, false, false, false, false, false, false, false, false, true, false, true, true, true, true, true, true, false, false, false, false, false, false, false, false, false, false, false, false, false, false, false, false, false, false, false, false, false, false, false, false, false, false, false, false, false, false, false, false, false, false, false, false, false, false, false, false, false, false, false, false, false, false, false, false, false, false, false, false, false, false, false, false, false, false, false, true, true, true, true, true, true, true, true, true, true, true, true, true, true, true, true, true, true, true, true, true, true, true, true, true, true, true, true, true, true, true, true, true, true, true, true, true, true, true, true] (σ := Nat) (fun i => i ≤ vs.length) (fun i => vs.length - i) (fun i => [(80, .int .i64 i), (13, .buf 4 0 (rsTo P i).length (rsTo P i).length)]) (fun i => B.cells [L1 f vs, LL g es] :: B.buf 3 1 (P.map encN) false :: B.cells [.buf 1 0 vs.length vs.length] :: B.map (.int .i64) (mR (rsTo P i)) :: B.buf 49 2 (oV P vs i (rsTo P i)) false :: bV P vs i (rsTo P i)) 0 (by omega) (by simp [rsTo]) (by simp [L1, LL, rsTo, mR, oV, bV]) (by simp) ?_))
      intro i hi N2 Q2 hN2 hQ2
      by_cases hib : i < vs.length
      · have hroot := rootN_le P i
        have hrl := rsTo_len P i
        have hnd := rsTo_nodup P i
        obtain ⟨r, hr⟩ : ∃ r, r = rootN P i := ⟨_, rfl⟩
        have hcr := fun H hH h1 h2 => callRoot (H := H) P i vs.length hlen hv hib hub.down hH h1 h2
        rw [← hr] at hcr
        refine W_x tok mixed ?_
        simp -implicitDefEqProofs -dsimp [hib, encI, L1]
        refine (hcr _ (oV_rb P vs es i _ _ _ _) rfl rfl).mono ?_
        rintro r' H' ⟨rfl, rfl⟩
        have hOl := oV_len P vs i (rsTo P i)
        have hBl := bV_len P vs i (rsTo P i)
        have hvl := vTo_len P vs i r
        by_cases hm : r ∈ rsTo P i
        · have hrs : rsTo P (i + 1) = rsTo P i := by simp only [rsTo]; rw [if_pos (List.contains_iff_mem.2 (hr ▸ hm))]
          obtain ⟨c, hc, hf⟩ := findR_yes _ r hm
          have hcl := getElem?_lt hc
          have hO := oV_at (P := P) (vs := vs) (i := i) hc
          have hB := bV_at (P := P) (vs := vs) (i := i) hc
          have hOs := oV_set (vs := vs) hnd hc hr hib
          have hBs := bV_set (vs := vs) hnd hc hr hib
          have hO1 : ∀ h, (oV P vs i (rsTo P i))[c]'h = _ := fun h => Option.some.inj ((List.getElem?_eq_getElem h).symm.trans hO)
          have hB1 : ∀ h, (bV P vs i (rsTo P i))[c]'h = _ := fun h => Option.some.inj ((List.getElem?_eq_getElem h).symm.trans hB)
          simp -implicitDefEqProofs -dsimp [hf, hOl, hBl, hcl, hO, hB, hO1, hB1, cap8 (vTo P vs i r).length (by omega), hBs, hOs, wrapS i (by omega), L1]
          refine hN2 (i + 1) _ _ (by omega) (by omega) ?_ ⟨[], ?_⟩ ?_ (oV_rb P vs es (i + 1) vs.length f g _)
          all_goals simp [hrs, L1, LL]
        · have hrs : rsTo P (i + 1) = rsTo P i ++ [r] := by simp only [rsTo]; rw [if_neg (fun h => hm (List.contains_iff_mem.1 (hr ▸ h))), hr]
          have hf := findR_no _ r hm
          have hf2 := findR_new hm
          have hmr := (mR_snoc (rsTo P i) r).symm
          have hv0 := vTo_new P vs i r hm
          have hO := oV_new (vs := vs) hm hv0 hr hib
          have hB := bV_new (vs := vs) hm hv0 hr hib
          have hO2 : (oV P vs i (rsTo P i) ++ [V.agg [.nilS, .nilS]])[(rsTo P i).length]? = some (V.agg [.nilS, .nilS]) := by rw [← hOl]; simp
          have hO3 : ∀ y, (oV P vs i (rsTo P i) ++ [V.agg [.nilS, .nilS]]).set (rsTo P i).length y = oV P vs i (rsTo P i) ++ [y] := fun y => by rw [← hOl]; simp
          simp -implicitDefEqProofs -dsimp [show ((rsTo P i).length : Int) < (rsTo P i).length + 1 by omega, hf, hOl, hmr, hf2, hO2, hO3, hBl, cap48 (rsTo P i).length (by omega), wrapS i (by omega), L1]
          refine hN2 (i + 1) _ _ (by omega) (by omega) ?_ ⟨[], ?_⟩ ?_ (oV_rb P vs es (i + 1) vs.length f g _)
          all_goals simp [hrs, hO, hB, L1, LL]
      · obtain rfl : i = vs.length := by omega
        obtain ⟨rs, hrs⟩ : ∃ rs, rs = rsTo P vs.length := ⟨_, rfl⟩
        have hnd := rsTo_nodup P vs.length
        have hrl := rsTo_len P vs.length
        have hmem := rsTo_mem P vs.length
        rw [← hrs] at hnd hrl hmem hcm ⊢
        have hk4 : (B.cells [L1 f vs, LL g es] :: B.buf 3 1 (P.map encN) false :: B.cells [.buf 1 0 vs.length vs.length] :: B.map (.int .i64) (mR rs) :: B.buf 49 2 (oV P vs vs.length rs) false :: bV P vs vs.length rs)[4]? = some (.buf 49 2 ((rs.mapIdx fun c r => V.buf (c + 5) 0 (vTo P vs vs.length r).length (vTo P vs vs.length r).length).map fun a => .agg [a, .nilS]) false) := by rw [← oV_us]; rfl
        refine W_x tok mixed ?_
        simp -implicitDefEqProofs -dsimp [hib, LL, L1]
        refine hQ2 _ _ _ ?_
        simp -implicitDefEqProofs -dsimp [L1]
        refine lw_of (W_ownAll 46 1 4 _ hk4 ?_)
        rw [own_H P vs es rs]
        refine (W_loopV [false, false, false, false, false, false, false, false, false, false, false, false, false, false, false, false, false, false, false, false, false, false, true, true, false, false, false, false, false, false, false, false, false, false, false, false, false, false, false, false, false, false, false, false, false, false, false, false, false, false, false, false, false, false, false, false, false, false, false, false, false, false, false, false, false, false, false, false, false, false, false, false, false, false, false, false, false, false, false, false, false, false, false, false, false, false, false, false, false, false, false, false, false, false, false, false, false, false, false, false, false, false, false, false, false, false, false, false, false, false, false, false, false, false, false, false, false, false, false, false, false, false, false, true, true, true, true, true, true, true, true, true, true, true, true, true, true, true, true, true, true, true, true, true, true, true, true, true, true, true] (σ := Nat) (fun j => j ≤ es.length) (fun j => es.length - j) (fun j => [(123, .int .i64 j)]) (fun j => B.cells [L1 f vs, LL g es] :: B.buf 3 1 (P.map encN) false :: B.cells [.buf 1 0 vs.length vs.length] :: B.map (.int .i64) (mR rs) :: B.buf 49 2 (oE P vs es rs j) false :: bVE P vs es rs j) 0 (by omega) (by simp) (by simp [L1, LL]) (by simp [bVE_len]) ?_)
        intro j hj N3 Q3 hN3 hQ3
        by_cases hjb : j < es.length
        · have hm := List.getElem_mem hjb
          have hej := hes es[j] hm
          obtain ⟨e0, D, hD⟩ := List.exists_cons_of_ne_nil (hne _ hm)
          have h0 : es[j].getD 0 0 = e0 := by rw [hD]; rfl
          obtain ⟨a1, _⟩ := bsP_at ha (hsub _ hm e0 (by rw [hD]; simp))
          obtain ⟨r, hr0⟩ : ∃ r, r = rootN P (bsP vs e0) := ⟨_, rfl⟩
          have hr : r = rootN P (bsP vs (es[j].getD 0 0)) := by rw [h0]; exact hr0
          obtain ⟨c, hc, hf⟩ := findR_yes rs r ((hmem r).2 ⟨_, a1, hr0.symm⟩)
          have hcl := getElem?_lt hc
          have hEl := oE_len P vs es rs j
          have hBl := bVE_len P vs es rs j
          have hkl := eOf_len P vs es r j
          have hO := oE_at (P := P) (vs := vs) (es := es) (j := j) hc
          have hB := bVE_at (P := P) (vs := vs) (es := es) (j := j) hc
          have hO1 : ∀ h, (oE P vs es rs j)[c]'h = _ := fun h => Option.some.inj ((List.getElem?_eq_getElem h).symm.trans hO)
          have hB1 : ∀ h, (bVE P vs es rs j)[c + rs.length]'h = _ := fun h => Option.some.inj ((List.getElem?_eq_getElem h).symm.trans hB)
          have hOs := oE_set (vs := vs) hnd hc hjb hr
          have hBs := bVE_set (vs := vs) hnd hc hjb hr
          have hcr := fun H hH h1 h2 => callRoot (H := H) P (bsP vs e0) vs.length hlen hv a1 hub.down hH h1 h2
          rw [← hr0] at hcr
          have hcn := clone64p es[j] false hej
          have hlx : L1 false es[j] = .lst 1 false (.int .i64 e0 :: D.map encI) := by rw [hD]; rfl
          rw [hlx] at hcn hBs
          refine W_x tok mixed ?_
          simp -implicitDefEqProofs -dsimp [hjb, LL, hD, encI, L1]
          refine (callPlace e0 hv rfl).mono ?_
          rintro r' H' ⟨rfl, rfl⟩
          simp -implicitDefEqProofs -dsimp [L1]
          refine (hcr _ (oE_rb P vs es j _ _ _ _) rfl rfl).mono ?_
          rintro r' H' ⟨rfl, rfl⟩
          simp -implicitDefEqProofs -dsimp [hf, hEl, hBl, hcl, hO, hO1, L1]
          refine lw_of (W_drawT tok mixed [8, 11] [(0, [1])] [(.lst 1 false (.int .i64 e0 :: D.map encI), [])] (by kernel_rfl) fun C K hC hK => ?_)
          simp -implicitDefEqProofs [hEl, hBl, hcl, hO, hO1, hB, hB1, cap24 (eOf P vs (es.take j) r).length (by omega), hBs, hOs, L1]
          refine ⟨hC _ _ _ _ (callP hcn (by simp)), hK _ _ ?_⟩
          simp -implicitDefEqProofs -dsimp [wrapS j (by omega), L1]
          refine hN3 (j + 1) _ _ (by omega) (by omega) ?_ ⟨[], ?_⟩ ?_ (oE_rb P vs es (j + 1) vs.length f g _)
          all_goals simp [L1, LL]
        · obtain rfl : j = es.length := by omega
          refine W_x tok mixed ?_
          simp -implicitDefEqProofs -dsimp [hjb, LL, L1]
          refine hQ3 _ _ _ ?_
          simp -implicitDefEqProofs -dsimp [L1]
          refine ⟨?_, by rintro x a b _ rfl; exact encC_pure _⟩
          have hEl := oE_len P vs es rs es.length
          have hx := ExpX.bufx (H := B.cells [L1 f vs, LL g es] :: B.buf 3 1 (P.map encN) false :: B.cells [.buf 1 0 vs.length vs.length] :: B.map (.int .i64) (mR rs) :: B.buf 49 2 (oE P vs es rs es.length) false :: bVE P vs es rs es.length) 4 49 2 (oE P vs es rs es.length) ((compsC vs es).map encC) false rfl (by rw [hcm]; simp [oE]) (fun i c d hc hd => by
            have hi : i < rs.length := by have := getElem?_lt hc; omega
            have hri : rs[i]? = some rs[i] := List.getElem?_eq_getElem hi
            rw [oE_at hri] at hc
            rw [hcm] at hd
            simp only [List.map_map, List.getElem?_map, hri, Option.map_some, Function.comp, Option.some.injEq] at hd
            simp only [Option.some.injEq] at hc
            subst hc
            subst hd
            refine ExpX.agg2 (expx_buf (e := 2) (fz := false) ?_ (by simp) (by simp [encI])) (expx_buf (e := 46) (fz := false) ?_ (by simp) (by simp))
            · simpa using bVE_v (P := P) (vs := vs) (es := es) (j := es.length) hri
            · have := bVE_at (P := P) (vs := vs) (es := es) (j := es.length) hri
              rw [List.take_length] at this
              simpa using this)
          rw [hEl] at hx
          exact hx
end Go.Proofs.YtfaleabndlcanaaGreatDoor
