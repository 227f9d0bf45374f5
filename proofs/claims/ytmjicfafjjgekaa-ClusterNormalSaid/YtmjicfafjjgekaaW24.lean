/- W24: the walk of drossref54.Groups. -/
import Derived.Test.YtmjicfafjjgekaaW23
import Derived.Deep.AppendLies
import Derived.Deep.RegionLaw
namespace Go.Proofs.Ytmjicfafjjgekaa
open Go.RowKit Go.Dr

set_option maxRecDepth 100000 in
set_option maxHeartbeats 2000000 in
theorem rgroups_any (A : Option Addr) (cap : Nat) (xs : List Int) (B : Nat) (w : World) (hB : B ≤ w.heap.size) (hl : xs.length ≤ 1000) (hp : RowAt w B A (ints xs)) :
    Calls Try.prog 33 #[.slice A xs.length cap] w fun e w' => ∃ A2 c2, e = .returned (.slice A2 (groups xs).length c2) ∧ RLL w' w'.heap.size A2 (groups xs) ∧ Below w.heap.size w w' := by
  obtain ⟨i3, hi, hz0, hz1, hz2⟩ := info_parts Try.info3
  have Hi3 := Lib.hid (show Try.prog.info? 3 = some i3 ∧ i3.zero = some _ ∧ i3.size = 1 ∧ i3.bytes = 8 from ⟨hi, hz0, hz1, hz2⟩)
  clear hi hz0 hz1 hz2
  obtain ⟨i35, hi, hz0, hz1, hz2⟩ := info_parts Try.info35
  have Hi35 := Lib.hid (show Try.prog.info? 35 = some i35 ∧ i35.zero = some _ ∧ i35.size = 1 ∧ i35.bytes = 24 from ⟨hi, hz0, hz1, hz2⟩)
  clear hi hz0 hz1 hz2
  have Hc := Lib.hid (rnormal_any A cap xs B w hB (by omega) hp)
  go_enter Try.func33, Try.ntmps33
  go_wp2_with fail
  refine Hc.out.mono ?_
  rintro e w1 ⟨A1, c1, rfl, hr1, hn1, hb1⟩
  have Hr1 := Lib.hid hr1
  have Hb1 := Lib.hid hb1
  have hs1 := hb1.size
  clear hr1 hb1 Hc hn1
  go_wp2_with fail
  go_loopw [5, 3] (fun ii v wr => ∃ i : Nat, i ≤ xs.length ∧ ii = .int .i64 i ∧ LL wr w1.heap.size v (grTo (nf xs) i) ∧ Below w1.heap.size w1 wr) (fun ii _ _ => xs.length - (intOf ii).toNat)
  case atStart => exact ⟨0, Nat.zero_le _, rfl, LL.nil _ _, Below.refl _ _⟩
  case round =>
    obtain ⟨i, hi, rfl, hll, hb⟩ := hrel
    have hok := (grTo_ok xs i hi).1
    by_cases hin : i < xs.length
    · obtain ⟨d, hd1, hd2, hd3⟩ := gr_at xs i hin
      obtain ⟨yss, hy⟩ : ∃ yss, yss = grTo (nf xs) i := ⟨_, rfl⟩
      rw [← hy] at hll hok hd2 hd3
      obtain ⟨vals, hv1, hv2⟩ := hll
      obtain ⟨A3, c3, rfl⟩ := own_slice hv1
      obtain ⟨b, off, d', rfl, hbb, hx, d1⟩ := ints_at' (Hr1.out.below hb) (k := i) (by rw [nf_len]; exact hin)
      obtain rfl : (d : Int) = d' := by rw [hd1] at hx; cases hx; rfl
      have hcnt := hok.cnt
      have hsz := hb.size
      have Hv1 := Lib.hid hv1
      have Hv2 := Lib.hid hv2
      have Hb := Lib.hid hb
      have Hok := Lib.hid hok
      clear hv1 hv2 hb hok hd1 hy hx
      by_cases hnew : d = yss.length
      · subst hnew
        have hstep : grTo (nf xs) (i + 1) = (yss ++ [[]]).set yss.length ([] ++ [(i : Int)]) := by rw [hd3, grStep, if_pos rfl]; simp
        have Hstep := Lib.hid hstep
        clear hstep hd3
        go_wp2_with (at_builtin; refine wpList_append_own _ rfl (.tmp 21) (.tmp 22) 59 rfl w1.heap.size 35 i35 _ 1 24 Try.underlying59 Hi35.out.1 Hi35.out.2.1 Hi35.out.2.2.1 Hi35.out.2.2.2 rfl (by omega) (.slice A3 yss.length c3) yss.length vals rfl (Hv1.out.alloc _) ⟨wr.heap.size, 0, none⟩ 1 1 [.slice none 0 0] rfl rfl (cell_one_new _ _ _) (by simp [Value.oneCell']) (by simp [maxLen]; omega) (by omega) (by simp; omega) ?_; intro v2 w2 ho2 hg2 _; obtain ⟨q2, c2, hv2⟩ : ∃ q2 c2, v2 = .slice (some ⟨q2, 0, none⟩) (yss.length + 1) c2 := own_form2 ho2; rw [hv2]; rw [hv2] at ho2; have e2 := ho2.cellAt yss.length (by omega); rw [List.getElem?_append_right (by have := Hv1.out.1; omega), show yss.length - vals.length = 0 by (have := Hv1.out.1; omega)] at e2; simp only [List.getElem?_cons_zero] at e2; have hs2 : wr.heap.size + 1 ≤ w2.heap.size := (by have := hg2.size; simpa using this); have hb2 := (Hb.out.alloc hsz (.cells #[.slice none 0 0] 35)).grown hg2 (by simp; omega) (fun g e => (Hv1.out.lt g e).1); have d2 : w2.cell? ⟨b, off + i, none⟩ = some (.int .i64 (yss.length : Int)) := (by rw [← d1, Hb.out.cell (p := ⟨b, off + i, none⟩) hbb, hb2.cell (p := ⟨b, off + i, none⟩) hbb]); have Ho2 := Lib.hid ho2; have Hg2 := Lib.hid hg2; have Hb2 := Lib.hid hb2; clear ho2 hg2 hv2 hb2)
        have hlt : (yss.length : Int) < (yss.length : Int) + 1 := by omega
        have hq2 : q2 < w2.heap.size := (Ho2.out.lt q2 rfl).2
        have hbw : b < w2.heap.size := by omega
        go_region_law (refine step_append_lies _ rfl (.tmp 35) (.tmp 37) 35 rfl w1.heap.size 3 i3 _ 1 8 Try.underlying35 Hi3.out.1 Hi3.out.2.1 Hi3.out.2.2.1 Hi3.out.2.2.2 rfl (by decide) (.slice none 0 0) 0 [] rfl (World.ownsRow_nil _ _ _ _) ⟨w2.heap.size, 0, none⟩ 1 1 [.int .i64 (i : Int)] rfl rfl (World.news_of_block (Blk.new w2 3 #[.int .i64 (i : Int)])) (ints_oneCell .i64 [(i : Int)]) (by decide) (by simp [maxLen]) (by omega) (by show _ ≤ (w2.alloc _).heap.size; simp; omega) (w2.heap.size + 1) (by show (w2.alloc _).heap.size = _; simp) ?_; intro q3 c4 w3 ho3 hg3 _ _; have hg3' : (w2.alloc (.cells #[.int .i64 (i : Int)] 3)).grownBy w3 (Value.ownBlock (.slice none 0 0)) := ⟨hg3.os, hg3.tape, hg3.output, hg3.size, hg3.block⟩; have r3 := (Ho2.out.alloc (.cells #[.int .i64 (i : Int)] 3)).kept hg3' (.inr (by simp [Value.ownBlock])); have e3 := r3.cellAt yss.length (by omega); rw [List.getElem?_append_right (by have := Hv1.out.1; omega), show yss.length - vals.length = 0 by (have := Hv1.out.1; omega)] at e3; simp only [List.getElem?_cons_zero] at e3; have f3 := r3.frozenAt yss.length; have hb3 := (Hb2.out.alloc (by omega) _).grown hg3' (by simp; omega) (by simp [Value.ownBlock]); have d3 : w3.cell? ⟨b, off + i, none⟩ = some (.int .i64 (yss.length : Int)) := (by rw [← d1, Hb.out.cell (p := ⟨b, off + i, none⟩) hbb, hb3.cell (p := ⟨b, off + i, none⟩) hbb]); have Hb3 := Lib.hid hb3; have Ho3 := Lib.hid ho3; have Hg3 := Lib.hid hg3'; clear ho3 hg3 r3 hg3' hb3)
        all_goals
          as_aux_lemma =>
            go_wp2_with fail
            go_roundw
            case rel =>
              have hlen : vals.length = yss.length := by have := Hv1.out.1; omega
              have hgr := LL.grow (x := i) (ys := []) (u := .slice none 0 0) (yss := yss ++ [[]]) (n := yss.length) (T := w1.heap.size) (g := q2) (cap := c2) (vals := vals ++ [.slice none 0 0]) (by simpa using Ho2.out) (fun j zs hj hz => by
                have hjl := (List.getElem?_eq_some_iff.1 hz).1
                simp at hjl
                have hjl : j < yss.length := by omega
                rw [List.getElem?_append_left hjl] at hz
                obtain ⟨u2, e1, e2⟩ := Hv2.out j zs hz
                exact ⟨u2, by rw [List.getElem?_append_left (by omega)]; exact e1, (e2.alloc _).kept Hg2.out (own_types e2 Hv1.out (by decide)), Classical.em _⟩) (by simp) (World.ownsRow_nil _ _ _ _) Hg3.out (by simpa using Ho3.out)
              rw [← Hstep.out] at hgr
              exact ⟨i + 1, by omega, by go_num, by simpa using hgr, Hb3.out.setCell (Ho2.out.lt q2 rfl).1 _⟩
            case measure => simp [intOf]; omega
      · have hdl : d < yss.length := by omega
        obtain ⟨ys, hys⟩ : ∃ ys, yss[d]? = some ys := ⟨_, List.getElem?_eq_getElem hdl⟩
        have hstep : grTo (nf xs) (i + 1) = yss.set d (ys ++ [(i : Int)]) := by rw [hd3, grStep, if_neg hnew]; simp [hys]
        obtain ⟨u, hu1, hu2⟩ := Hv2.out d ys hys
        obtain ⟨q2, hA⟩ : ∃ q2, A3 = some ⟨q2, 0, none⟩ := by
          rcases Hv1.out.2 with ⟨_, h0⟩ | ⟨q2, c, cur, h, _⟩
          · omega
          · injection h with h _ _; exact ⟨q2, h⟩
        subst hA
        have e2 := Hv1.out.cellAt d (by omega)
        rw [hu1] at e2
        obtain ⟨A4, c4, rfl⟩ := own_slice hu2
        have hyl := Hok.out.len d ys hys
        have Hstep := Lib.hid hstep
        have Hys := Lib.hid hys
        have Hu1 := Lib.hid hu1
        have Hu2 := Lib.hid hu2
        have hq2 : q2 < wr.heap.size := (Hv1.out.lt q2 rfl).2
        have hbw : b < wr.heap.size := by omega
        clear hstep hd3 hys hu1 hu2
        have hne : ((d : Int) == (yss.length : Int)) = false := by simp; omega
        go_wp2_with fail
        go_region_law (refine step_append_lies _ rfl (.tmp 35) (.tmp 37) 35 rfl w1.heap.size 3 i3 _ 1 8 Try.underlying35 Hi3.out.1 Hi3.out.2.1 Hi3.out.2.2.1 Hi3.out.2.2.2 rfl (by decide) (.slice A4 ys.length c4) ys.length (ints ys) rfl (show World.ownsRow _ _ _ _ _ _ _ from Hu2.out.alloc (.cells #[.int .i64 (i : Int)] 3)) ⟨wr.heap.size, 0, none⟩ 1 1 [.int .i64 (i : Int)] rfl rfl (World.news_of_block (Blk.new wr 3 #[.int .i64 (i : Int)])) (ints_oneCell .i64 [(i : Int)]) (by decide) (by simp [maxLen]; omega) (by omega) (by show _ ≤ (wr.alloc _).heap.size; simp; omega) (wr.heap.size + 1) (by show (wr.alloc _).heap.size = _; simp) ?_; intro q3 c5 w3 ho3 hg3 _ _; have hg3' : (wr.alloc (.cells #[.int .i64 (i : Int)] 3)).grownBy w3 (Value.ownBlock (.slice A4 ys.length c4)) := ⟨hg3.os, hg3.tape, hg3.output, hg3.size, hg3.block⟩; have r3 := (Hv1.out.alloc (.cells #[.int .i64 (i : Int)] 3)).kept hg3' (own_types Hv1.out Hu2.out (by decide)); have e3 := r3.cellAt d (by omega); rw [Hu1.out] at e3; have f3 := r3.frozenAt d; have hb3 := (Hb.out.alloc hsz _).grown hg3' (by simp; omega) (fun g e => (Hu2.out.lt g e).1); have d3 : w3.cell? ⟨b, off + i, none⟩ = some (.int .i64 (d : Int)) := (by rw [← d1, Hb.out.cell (p := ⟨b, off + i, none⟩) hbb, hb3.cell (p := ⟨b, off + i, none⟩) hbb]); have Hb3 := Lib.hid hb3; have Ho3 := Lib.hid ho3; have Hg3 := Lib.hid hg3'; clear ho3 hg3 r3 hg3' hb3)
        all_goals
          as_aux_lemma =>
            go_wp2_with fail
            go_roundw
            case rel =>
              have hgr := LL.grow (x := i) (ys := ys) (u := .slice A4 ys.length c4) (yss := yss) (n := d) (T := w1.heap.size) (g := q2) (cap := c3) (vals := vals) Hv1.out (fun j zs hj hz => by
                obtain ⟨u2, k1, k2⟩ := Hv2.out j zs hz
                refine ⟨u2, k1, k2, .inr ?_⟩
                obtain ⟨a, t, rfl, _⟩ := Hok.out.ne j zs hz
                obtain ⟨b, t', rfl, _⟩ := Hok.out.ne d ys Hys.out
                have hne := Hok.out.dis j d _ _ hj hz Hys.out
                exact own_heads k2 Hu2.out (a := .int .i64 a) (b := .int .i64 b) rfl rfl (by intro e; cases e; exact hne rfl)) hdl Hu2.out Hg3.out (by simpa using Ho3.out)
              rw [← Hstep.out] at hgr
              exact ⟨i + 1, by omega, by go_num, hgr, Hb3.out.setCell (Hv1.out.lt q2 rfl).1 _⟩
            case measure => simp [intOf]; omega
    · obtain rfl : i = xs.length := by omega
      obtain ⟨A2, c2, hv⟩ : ∃ A2 c2, u3 = .slice A2 (groups xs).length c2 := by
        obtain ⟨vals, h1, _⟩ := hll
        exact own_slice h1
      subst hv
      have Hll := Lib.hid hll
      have Hb := Lib.hid hb
      clear hll hb hok
      go_wp2_with fail
      go_ret
      exact ⟨A2, c2, rfl, Hll.out.read, Hb1.out.trans (Hb.out.mono hs1)⟩
end Go.Proofs.Ytmjicfafjjgekaa
