/- W6: the walk of the search (cluster.search).from. -/
import Derived.Test.YtmjicfafjjgekaaW4
import Derived.Test.YtmjicfafjjgekaaMat
import Derived.Test.YtmjicfafjjgekaaSpec2
import Derived.Test.YtmjicfafjjgekaaBase2
namespace Go.Proofs.Ytmjicfafjjgekaa
open Go.RowKit Go.Dr

/-- The best clustering so far, in the field 'best'. -/
def BestIs (w : World) (S n : Nat) (bv : Value) : Option (List Int) → Prop
  | none => bv = .slice none 0 0
  | some b => b.length = n ∧ (∃ q c, bv = .slice (some ⟨q, 0, none⟩) n c) ∧ w.ownsRow (S + 1) 3 1 bv n (ints b)

/-- The search's memory. -/
structure SMem (w : World) (S L B T g n : Nat) (row cp : Nat → Nat) (f : Nat → Nat → Int) (st : St) (bv : Value) : Prop where
  blkS : Blk w S 69 #[.slice (some ⟨g, 0, none⟩) n n, .slice (some ⟨L, 0, none⟩) n n, bv, .int .i64 st.least]
  best : BestIs w S n bv st.best
  blkL : Blk w L 3 (ints st.labels).toArray
  len : st.labels.length = n
  mat : Mat w B T g n n row cp f
  LS : L < S
  TS : T ≤ S
  LB : L < B ∨ T ≤ L

theorem BestIs.kept {w w' : World} {S n : Nat} {bv : Value} {b : Option (List Int)} (h : BestIs w S n bv b) (hk : ∀ q, S < q → q < w.heap.size → w'.heap[q]? = w.heap[q]?) : BestIs w' S n bv b := by
  cases b with
  | none => exact h
  | some b =>
    obtain ⟨h1, h2, h3⟩ := h
    refine ⟨h1, h2, h3.1, ?_⟩
    rcases h3.2 with h4 | ⟨q, cap, cur, h4, h5, h6, h7⟩
    · exact .inl h4
    · exact .inr ⟨q, cap, cur, h4, h5, (hk q (by omega) (Array.getElem?_eq_some_iff.1 h6).1).trans h6, h7⟩

theorem SMem.drewN {w : World} {S L B T g n : Nat} {row cp : Nat → Nat} {f : Nat → Nat → Int} {st : St} {bv : Value} (h : SMem w S L B T g n row cp f st bv) (q : Nat) : SMem (w.drewN q) S L B T g n row cp f st bv :=
  { h with mat := h.mat.drewN q }

/-- A label is stored. -/
theorem SMem.label {w : World} {S L B T g n : Nat} {row cp : Nat → Nat} {f : Nat → Nat → Int} {st : St} {bv : Value} (h : SMem w S L B T g n row cp f st bv) (v : Nat) (x : Int) :
    SMem (w.setCell ⟨L, v, none⟩ (.int .i64 x)) S L B T g n row cp f ⟨st.labels.set v x, st.best, st.least⟩ bv where
  blkS := h.blkS.far (p := ⟨L, v, none⟩) (by have := h.LS; show S ≠ L; omega) _
  best := h.best.kept fun q hq _ => Below.heap_setCell w _ _ q (by have := h.LS; show q ≠ L; omega)
  blkL := by
    have := h.blkL.set_ v (.int .i64 x)
    rwa [show (ints st.labels).toArray.setIfInBounds v (.int .i64 x) = (ints (st.labels.set v x)).toArray by simp [List.map_set]] at this
  len := by simpa using h.len
  mat := h.mat.setCell (p := ⟨L, v, none⟩) h.LB _
  LS := h.LS
  TS := h.TS
  LB := h.LB

theorem cloneInts' (A : Option Addr) (cap n : Nat) (xs : List Int) (hx : xs.length = n) (B : Nat) (w : World) (hB : B ≤ w.heap.size) (hl : n ≤ 100000) (hp : RowAt w B A (ints xs)) (hA : A = none → xs = []) :
    Calls Try.prog 23 #[.slice A n cap] w fun e w' => ∃ v, e = .returned v ∧ w'.ownsRow w.heap.size 3 1 v n (ints xs) ∧ Below w.heap.size w w' ∧ (v = .slice none 0 0 ↔ A = none) := by
  subst hx
  exact cloneInts A cap xs B w hB hl hp hA

/-- The clone becomes the best. -/
theorem SMem.found {w w1 : World} {S L B T g n : Nat} {row cp : Nat → Nat} {f : Nat → Nat → Int} {st : St} {bv v1 : Value} {cost : Int} (h : SMem w S L B T g n row cp f st bv)
    (hb : Below w.heap.size w w1) (ho : w1.ownsRow w.heap.size 3 1 v1 n (ints st.labels)) (hv : v1 ≠ .slice none 0 0) :
    SMem ((w1.setCell ⟨S, 2, none⟩ v1).setCell ⟨S, 3, none⟩ (.int .i64 cost)) S L B T g n row cp f ⟨st.labels, some st.labels, cost⟩ v1 where
  blkS := by
    have := ((h.blkS.call hb).set_ 2 v1).set_ 3 (.int .i64 cost)
    simpa using this
  best := by
    refine ⟨h.len, ?_, ?_⟩
    · rcases ho.2 with ⟨e, _⟩ | ⟨q, cap, cur, e, _⟩
      · exact absurd e hv
      · exact ⟨q, cap, e⟩
    · refine ⟨ho.1, ?_⟩
      rcases ho.2 with e | ⟨q, cap, cur, e, h1, h2, h3⟩
      · exact .inl e
      · have hs := h.blkS.lt
        refine .inr ⟨q, cap, cur, e, by omega, ?_, h3⟩
        rw [Below.heap_setCell _ _ _ _ (by show q ≠ S; omega), Below.heap_setCell _ _ _ _ (by show q ≠ S; omega)]
        exact h2
  blkL := ((h.blkL.call hb).far (p := ⟨S, 2, none⟩) (by have := h.LS; show L ≠ S; omega) _).far (p := ⟨S, 3, none⟩) (by have := h.LS; show L ≠ S; omega) _
  len := h.len
  mat := ((h.mat.call hb (by have := h.TS; have := h.blkS.lt; omega)).setCell (p := ⟨S, 2, none⟩) (.inr h.TS) _).setCell (p := ⟨S, 3, none⟩) (.inr h.TS) _
  LS := h.LS
  TS := h.TS
  LB := h.LB

set_option maxRecDepth 100000 in
set_option maxHeartbeats 1000000 in
theorem from_any (B0 S L B T g n : Nat) (row cp : Nat → Nat) (f : Nat → Nat → Int) (hf : ∀ i j, -1000 ≤ f i j ∧ f i j ≤ 1000) (hn : n ≤ 10) (h0S : B0 ≤ S) (h0L : B0 ≤ L) (r : Nat) :
    ∀ (v used : Nat) (cost : Int) (st : St) (bv : Value) (w : World), v + r = n → used ≤ v → 0 ≤ cost → cost ≤ 10000 * v → SMem w S L B T g n row cp f st bv →
    Calls Try.prog 35 #[.pointer (some ⟨S, 0, none⟩), .int .i64 (v : Int), .int .i64 (used : Int), .int .i64 cost] w fun e w' =>
      e = .returned (.tuple #[]) ∧ (∃ bv', SMem w' S L B T g n row cp f (fromR f r v used cost st) bv') ∧ Below B0 w w' := by
  have hneq := fun W A n c => run_neq_slice_nil_any (P := Try.prog) W 35 3 A n c 0 0 Try.underlying35
  induction r with
  | zero =>
    intro v used cost st bv w hv hu hc0 hc1 hm
    obtain rfl : v = n := by omega
    have Hm := Lib.hid hm
    have s0 := hm.blkS.cell 0
    have s1 := hm.blkS.cell 1
    have s2 := hm.blkS.cell 2
    have s3 := hm.blkS.cell 3
    have t2 := hm.blkS.frozen 2
    have t3 := hm.blkS.frozen 3
    have hS := hm.blkS.lt
    simp at s0 s1 s2 s3
    cases hk : st.skip cost
    · have hr : fromR f 0 v used cost st = ⟨st.labels, some st.labels, cost⟩ := by rw [fromR, if_neg (by simp [hk])]
      have Hr := Lib.hid hr
      have hrow := hm.blkL.row
      have hlen := hm.len
      have Hlen := Lib.hid hlen
      have Hrow := Lib.hid hrow
      have hcl : Calls Try.prog 23 #[.slice (some ⟨L, 0, none⟩) v v] w fun e w' => ∃ q1 c1, e = .returned (.slice (some ⟨q1, 0, none⟩) v c1) ∧ w'.ownsRow w.heap.size 3 1 (.slice (some ⟨q1, 0, none⟩) v c1) v (ints st.labels) ∧ Below w.heap.size w w' := by
        refine (cloneInts' (some ⟨L, 0, none⟩) v v st.labels hlen w.heap.size w (Nat.le_refl _) (by omega) (by simpa using hrow) (fun h => by cases h)).mono fun _ _ ⟨v1, e, ho, hb, hx⟩ => ?_
        rcases ho.2 with ⟨h, _⟩ | ⟨q1, c1, cur, h, _⟩
        · have := hx.1 h; cases this
        · subst h; exact ⟨q1, c1, e, ho, hb⟩
      have Hcl := Lib.hid hcl
      have hbest := hm.best
      simp only [St.skip, Bool.and_eq_false_iff, decide_eq_false_iff_not] at hk
      clear hr hrow hlen hcl
      have hgo : (bv = .slice none 0 0) ∨ ((∃ q c, bv = .slice (some ⟨q, 0, none⟩) v c) ∧ cost < st.least) := by
        cases hb : st.best with
        | none => rw [hb] at hbest; exact .inl hbest
        | some b =>
          rw [hb] at hbest hk
          exact .inr ⟨hbest.2.1, by simp at hk; omega⟩
      clear hk hbest hm
      rcases hgo with rfl | ⟨⟨q, c, rfl⟩, hlt⟩
      all_goals
        go_enter Try.func35, Try.ntmps35
        go_wp2_with (go_at_call 23; refine Hcl.out.mono ?_; rintro e w1 ⟨q1, c1, rfl, ho, hb⟩; have Ho := Lib.hid ho; have Hb := Lib.hid hb; have d2 := (Hm.out.blkS.call hb).cell 2; have d3 := (Hm.out.blkS.call hb).cell 3; have e2 := (Hm.out.blkS.call hb).frozen 2; have e3 := (Hm.out.blkS.call hb).frozen 3; simp at d2 d3; clear ho hb)
        refine bodyPost_ret (results_none rfl _ _ _) rfl ⟨rfl, ⟨.slice (some ⟨q1, 0, none⟩) v c1, ?_⟩, ?_⟩
        · rw [Hr.out]
          exact Hm.out.found Hb.out Ho.out (by simp)
        · exact ((Hb.out.mono (by omega)).setCell (p := ⟨S, 2, none⟩) h0S _).setCell (p := ⟨S, 3, none⟩) h0S _
    · have hr := fromR_skip (f := f) (r := 0) (v := v) (used := used) hk
      have Hr := Lib.hid hr
      simp only [St.skip, Bool.and_eq_true, decide_eq_true_eq] at hk
      obtain ⟨hb, hle⟩ := hk
      obtain ⟨bl, hbl⟩ := Option.isSome_iff_exists.1 hb
      have hbest := hm.best
      rw [hbl] at hbest
      obtain ⟨_, ⟨q, c, rfl⟩, _⟩ := hbest
      clear hr hm hb hbl
      go_enter Try.func35, Try.ntmps35
      go_wp2
      refine bodyPost_ret (results_none rfl _ _ _) rfl ⟨rfl, ⟨.slice (some ⟨q, 0, none⟩) v c, ?_⟩, Below.refl _ _⟩
      rw [Hr.out]
      exact Hm.out
  | succ r ih =>
    intro v used cost st bv w hv hu hc0 hc1 hm
    have Hih := Lib.hid ih
    clear ih
    have Hm := Lib.hid hm
    have s0 := hm.blkS.cell 0
    have s1 := hm.blkS.cell 1
    have s2 := hm.blkS.cell 2
    have s3 := hm.blkS.cell 3
    have hS := hm.blkS.lt
    simp at s0 s1 s2 s3
    cases hk : st.skip cost
    · have hr := fromR_succ (f := f) (r := r) (v := v) (used := used) hk
      have Hr := Lib.hid hr
      have hbest := hm.best
      simp only [St.skip, Bool.and_eq_false_iff, decide_eq_false_iff_not] at hk
      clear hr
      have hgo : (bv = .slice none 0 0) ∨ ((∃ q c, bv = .slice (some ⟨q, 0, none⟩) n c) ∧ cost < st.least) := by
        cases hb : st.best with
        | none => rw [hb] at hbest; exact .inl hbest
        | some b =>
          rw [hb] at hbest hk
          exact .inr ⟨hbest.2.1, by simp at hk; omega⟩
      clear hk hbest hm
      have hvn : v < n := by omega
      have hvb : ((v : Int) == (n : Int)) = false := by simp; omega
      have hv' : v + 1 + r ≤ n := by omega
      have Hv := Lib.hid hv
      clear hv
      rcases hgo with rfl | ⟨⟨q, c, rfl⟩, hlt⟩
      all_goals
        go_enter Try.func35, Try.ntmps35
        go_wp2_with fail
        go_loopw [45] (fun m wr => ∃ (k : Nat) (bv' : Value), k ≤ used + 1 ∧ m = .int .i64 k ∧ SMem wr S L B T g n row cp f (rounds f r v used cost st k) bv' ∧ Below B0 w wr) (fun m _ => used + 1 - (intOf m).toNat)
        case atStart => exact ⟨0, _, Nat.zero_le _, rfl, Hm.out, Below.refl _ _⟩
        case round =>
          obtain ⟨k, bv', hk, rfl, hmr, hbr⟩ := hrel
          have Hbr := Lib.hid hbr
          have Hmr := Lib.hid hmr
          clear hbr hmr s0 s1 s2 s3
          obtain ⟨sk, hsk⟩ : ∃ sk, sk = rounds f r v used cost st k := ⟨_, rfl⟩
          rw [← hsk] at Hmr
          have Hsk := Lib.hid hsk
          clear hsk
          have s0 := Hmr.out.blkS.cell 0
          have s1 := Hmr.out.blkS.cell 1
          have hSr := Hmr.out.blkS.lt
          have hLr := Hmr.out.blkL.lt
          have hlen := Hmr.out.len
          have Hlen := Lib.hid hlen
          simp at s0 s1
          clear hlen
          by_cases hlt' : k < used + 1
          · have hkb : decide ((k : Int) < (used : Int) + 1) = true := by simp; omega
            go_wp2_with fail
            obtain ⟨wo, rfl⟩ : ∃ wo : World, wo = wr := ⟨_, rfl⟩
            go_loopw [9, 49] (fun mo ii wx => ∃ i q : Nat, i ≤ v ∧ ii = .int .i64 i ∧ mo = .int .i64 (moreTo f sk.labels v k i) ∧ wx = wo.drewN q) (fun _ ii _ => v - (intOf ii).toNat)
            case atStart => exact ⟨0, 0, Nat.zero_le _, rfl, rfl, rfl⟩
            case round =>
              obtain ⟨i, q, hi, rfl, rfl, rfl⟩ := hrel
              have hbd := moreTo_bd f sk.labels v k hf i
              by_cases hiv : i < v
              · have m1 := Hmr.out.mat.outer i (by omega)
                have m2 := Hmr.out.mat.inner i v (by omega) hvn
                have m3 := Hmr.out.blkL.cell i
                obtain ⟨y, hy⟩ : ∃ y, sk.labels[i]? = some y := ⟨_, List.getElem?_eq_getElem (by have := Hlen.out; omega)⟩
                have m4 : wo.cell? ⟨L, i, none⟩ = some (.int .i64 y) := by rw [m3]; simp [hy]
                have hst : moreTo f sk.labels v k (i + 1) = moreTo f sk.labels v k i + price (f i v) (y == (k : Int)) := by simp [moreTo, hy]
                have Hst := Lib.hid hst
                clear m3 hst hy
                have hf1 := (hf i v).1
                have hf2 := (hf i v).2
                have hpb := price_bd (y == (k : Int)) hf1 hf2
                obtain ⟨M, hM⟩ : ∃ M, M = moreTo f sk.labels v k i := ⟨_, rfl⟩
                rw [← hM] at hbd Hst ⊢
                have HM := Lib.hid hM
                clear hM
                have hw1 := wrap_in (x := M + price (f i v) (y == (k : Int))) (by omega) (by omega)
                go_wp2_with fail
                go_quiet ((go_at_call 44; first | exact quiet_add_left (price_any _ _ _ (by omega) (by omega)) | exact quiet_left (price_any _ _ _ (by omega) (by omega))))
                clear hw1
                go_wp2_with fail
                go_roundw
                case rel => exact ⟨i + 1, _, by omega, by go_num, by rw [Hst.out], rfl⟩
                case measure => simp [intOf]; omega
              · have hie : i = v := by omega
                have hSL : L < S := Hmr.out.LS
                have m3 := Hmr.out.blkL.cell v
                obtain ⟨y, hy⟩ : ∃ y, sk.labels[v]? = some y := ⟨_, List.getElem?_eq_getElem (by have := Hlen.out; omega)⟩
                have m4 : wo.cell? ⟨L, v, none⟩ = some (.int .i64 y) := by rw [m3]; simp [hy]
                have m5 := Hmr.out.blkL.frozen v
                clear m3 hy
                obtain ⟨M, hM⟩ : ∃ M, M = moreTo f sk.labels v k i := ⟨_, rfl⟩
                rw [← hM] at hbd ⊢
                rw [hie] at hM
                have HM := Lib.hid hM
                clear hM hie
                have hcall : ∀ (a u : Int), a = ((v + 1 : Nat) : Int) → u = ((max used (k + 1) : Nat) : Int) → Calls Try.prog 35 #[.pointer (some ⟨S, 0, none⟩), .int .i64 a, .int .i64 u, .int .i64 (cost + M)] ((wo.drewN q).setCell ⟨L, v, none⟩ (.int .i64 (k : Int))) fun e w' =>
                    e = .returned (.tuple #[]) ∧ (∃ bv'', SMem w' S L B T g n row cp f (rounds f r v used cost st (k + 1)) bv'') ∧ Below B0 w w' := by
                  rintro a u rfl rfl
                  have hm1 := (Hmr.out.drewN q).label v (k : Int)
                  refine (Hih.out (v + 1) (max used (k + 1)) (cost + M) _ bv' _ (by have := Hv.out; omega) (by omega) (by omega) (by omega) hm1).mono ?_
                  rintro e w' ⟨he, ⟨bv'', h1⟩, h2⟩
                  refine ⟨he, ⟨bv'', ?_⟩, ((below_drewN Hbr.out q).setCell (p := ⟨L, v, none⟩) h0L _).trans h2⟩
                  rw [Go.Dr.rounds_succ, ← Hsk.out, ← HM.out]
                  exact h1
                have Hcall := Lib.hid hcall
                clear hcall
                by_cases hmx : k + 1 ≤ used
                · go_wp2_with fail
                  refine (Hcall.out _ _ (by omega) (by omega)).mono ?_
                  rintro e w1 ⟨rfl, ⟨bv'', h1⟩, h2⟩
                  have H1 := Lib.hid h1
                  have H2 := Lib.hid h2
                  clear h1 h2
                  go_wp2_with fail
                  go_roundw
                  case rel => exact ⟨k + 1, bv'', by omega, by go_num, H1.out, H2.out⟩
                  case measure => simp [intOf]; omega
                · go_wp2_with fail
                  refine (Hcall.out _ _ (by omega) (by omega)).mono ?_
                  rintro e w1 ⟨rfl, ⟨bv'', h1⟩, h2⟩
                  have H1 := Lib.hid h1
                  have H2 := Lib.hid h2
                  clear h1 h2
                  go_wp2_with fail
                  go_roundw
                  case rel => exact ⟨k + 1, bv'', by omega, by go_num, H1.out, H2.out⟩
                  case measure => simp [intOf]; omega
          · have hkb : decide ((k : Int) < (used : Int) + 1) = false := by simp; omega
            have hke : k = used + 1 := by omega
            have hfin : fromR f (r + 1) v used cost st = sk := by rw [Hr.out, Hsk.out, hke]
            have Hfin := Lib.hid hfin
            clear hke hfin
            go_wp2_with fail
            go_end0
            exact ⟨rfl, ⟨bv', by rw [Hfin.out]; exact Hmr.out⟩, Hbr.out⟩
    · have hr := fromR_skip (f := f) (r := r + 1) (v := v) (used := used) hk
      have Hr := Lib.hid hr
      simp only [St.skip, Bool.and_eq_true, decide_eq_true_eq] at hk
      obtain ⟨hb, hle⟩ := hk
      obtain ⟨bl, hbl⟩ := Option.isSome_iff_exists.1 hb
      have hbest := hm.best
      rw [hbl] at hbest
      obtain ⟨_, ⟨q, c, rfl⟩, _⟩ := hbest
      have Hv := Lib.hid hv
      clear hr hm hb hbl hv
      go_enter Try.func35, Try.ntmps35
      go_wp2_with fail
      refine bodyPost_ret (results_none rfl _ _ _) rfl ⟨rfl, ⟨.slice (some ⟨q, 0, none⟩) n c, ?_⟩, Below.refl _ _⟩
      rw [Hr.out]
      exact Hm.out
end Go.Proofs.Ytmjicfafjjgekaa
