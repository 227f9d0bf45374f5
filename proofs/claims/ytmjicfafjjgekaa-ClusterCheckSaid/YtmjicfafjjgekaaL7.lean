/- L7: the walk of the law ClusterCheck. -/
import Derived.Test.YtmjicfafjjgekaaL4
import Derived.Test.YtmjicfafjjgekaaW30
import Derived.Test.YtmjicfafjjgekaaOpen
namespace Go.Proofs.Ytmjicfafjjgekaa
open Go.RowKit Go.Dr Go.ChangeShapes Go.WideShapes Go.Deep

structure TrisIn (w : World) (A : Option Addr) (len cap : Nat) (ts : List T4) : Prop where
  hlen : ts.length = len
  hcap : len ≤ cap
  row : TrisAt w w.heap.size A ts
  nil : A = none → ts = []
theorem open_tris {H : Type} {enc : TypeId × Value → H} {W : World} {A : Option Addr} {len cap : Nat} {d : DataW H} {p : List MemPlace} (h : DataW.Trod enc Try.prog W 0 (fun _ => true) true 40 (.slice A len cap) d p) :
    len ≤ 9223372036854775807 ∧ ∃ ts, TrisIn W A len cap ts := by
  obtain ⟨fuel, hf⟩ := h
  rcases open_slice_fields Try.underlying40 Try.underlying56 (by kernel_rfl) (by kernel_rfl) hf with hcs | ⟨a, l, c, m, hcs, hl, hm, hmm, hi⟩
  · simp [Value.cells] at hcs
    obtain ⟨rfl, rfl, rfl⟩ := hcs
    exact ⟨by omega, [], rfl, Nat.le_refl _, RowAt.nil, fun _ => rfl⟩
  · simp [Value.cells] at hcs
    obtain ⟨rfl, rfl, rfl⟩ := hcs
    simp only [if_true] at hmm
    subst hmm
    have hget : ∀ i, i < len → ∃ q : T4, W.cell? (a.add (i * 4)) = some (.int .i64 q.i) ∧ W.cell? (a.add (i * 4 + 1)) = some (.int .i64 q.j) ∧ W.cell? (a.add (i * 4 + 2)) = some (.int .i64 q.k) ∧ W.cell? (a.add (i * 4 + 3)) = some (.int .i64 q.a) := by
      intro i hil
      obtain ⟨n, hf⟩ := hi i (by omega)
      obtain ⟨v0, y0, c0, t0⟩ := hf 0 _ rfl
      obtain ⟨v1, y1, c1, t1⟩ := hf 1 _ rfl
      obtain ⟨v2, y2, c2, t2⟩ := hf 2 _ rfl
      obtain ⟨v3, y3, c3, t3⟩ := hf 3 _ rfl
      obtain ⟨x0, e0, _, _⟩ := DataW.trod_int Try.underlying3 t0
      obtain ⟨x1, e1, _, _⟩ := DataW.trod_int Try.underlying3 t1
      obtain ⟨x2, e2, _, _⟩ := DataW.trod_int Try.underlying3 t2
      obtain ⟨x3, e3, _, _⟩ := DataW.trod_int Try.underlying2 t3
      simp at e0 e1 e2 e3
      subst e0 e1 e2 e3
      exact ⟨⟨x0, x1, x2, x3⟩, c0, c1, c2, c3⟩
    refine ⟨by unfold maxLen at hm; omega, (List.range len).map (fun i => if h : i < len then (hget i h).choose else ⟨0, 0, 0, 0⟩), by simp, hl, fun hpos => ?_, fun h => by cases h⟩
    have hlp : 0 < len := by
      rw [flat_len tc 4 tc_len] at hpos
      simp at hpos
      omega
    obtain ⟨q0, hq0, _⟩ := hget 0 hlp
    have hs : a.spot = none := by
      have := spot_of_cell hq0
      simpa [Addr.add] using this
    refine ⟨a.block, a.off, by cases a; simp_all, ?_, fun j u hu => ?_⟩
    · have := World.block_lt_of_cell? W _ hq0
      simpa [Addr.add] using this
    · have hj3 : j = (j / 4) * 4 + j % 4 := by omega
      have hr : j % 4 < 4 := Nat.mod_lt _ (by omega)
      rw [hj3, flat_at tc 4 tc_len _ _ _ hr] at hu
      by_cases hil : j / 4 < len
      · have hget' := (hget (j / 4) hil).choose_spec
        simp only [List.getElem?_map, List.getElem?_range hil, Option.map_some, Option.bind_some, hil, dite_true] at hu
        obtain ⟨q, hq⟩ : ∃ q, q = (hget (j / 4) hil).choose := ⟨_, rfl⟩
        rw [← hq] at hget' hu
        obtain ⟨g0, g1, g2, g3⟩ := hget'
        rw [addr_add _ _ hs] at g0 g1 g2 g3
        have hc : j % 4 = 0 ∨ j % 4 = 1 ∨ j % 4 = 2 ∨ j % 4 = 3 := by omega
        rcases hc with hc | hc | hc | hc
        · rw [hc] at hu
          simp [tc] at hu
          rw [← hu, show a.off + j = a.off + j / 4 * 4 by omega]
          exact g0
        · rw [hc] at hu
          simp [tc] at hu
          rw [← hu, show a.off + j = a.off + (j / 4 * 4 + 1) by omega]
          exact g1
        · rw [hc] at hu
          simp [tc] at hu
          rw [← hu, show a.off + j = a.off + (j / 4 * 4 + 2) by omega]
          exact g2
        · rw [hc] at hu
          simp [tc] at hu
          rw [← hu, show a.off + j = a.off + (j / 4 * 4 + 3) by omega]
          exact g3
      · simp [Nat.le_of_not_lt hil] at hu

set_option maxRecDepth 100000 in
set_option maxHeartbeats 2000000 in
theorem lawCheck (N : Nat) (A : Option Addr) (len cap : Nat) (A2 : Option Addr) (len2 cap2 : Nat) (w : World) (hN : N ≤ 255) (hlen : len ≤ 9223372036854775807) (h : ∃ ws, IntsIn .i8 w A len ws) (hlen2 : len2 ≤ 9223372036854775807) (h2 : ∃ ts, TrisIn w A2 len2 cap2 ts) :
    Calls Try.prog 9 #[.agg #[.int .u8 (N : Int), .slice A len cap], .slice A2 len2 cap2] w fun e w' => e = .returned (.bool true) ∧ Below w.heap.size w w' := by
  obtain ⟨ws, hl, hrow, _, hwf⟩ := h
  obtain ⟨ts, hl2, hcap2, htr, hnil⟩ := h2
  subst hl hl2
  have hwb : ∀ x ∈ ws, -128 ≤ x ∧ x ≤ 127 := fun x hx => bounds_i8 (hwf x hx)
  by_cases hN6 : N ≤ 6
  · obtain ⟨hval, hpl⟩ := ofL_valid (n := N) hwb (by omega)
    have hgood : good N (ofL N ws) = true := by
      rcases valid_cases (N : Int) (ofL N ws) with h | h
      · rw [hval] at h; simp at h
      · exact h.2.2.2.2
    have hbest := search_best hgood
    have hof := of_yes2 N A cap 6 ws (w.alloc (.cells #[.int .u8 (N : Int), .slice A ws.length cap] 32)) hN6 (by omega) hlen ((hrow.alloc (Nat.le_refl _) _).more (by simp)) hwb
    have Hof := Lib.hid hof
    obtain ⟨ps, hps⟩ : ∃ ps, ps = ofL N ws := ⟨_, rfl⟩
    rw [← hps] at hval hpl hbest Hof hgood
    obtain ⟨cc, hcc⟩ : ∃ cc, cc = (optSt N (matOf ps)).least := ⟨_, rfl⟩
    obtain ⟨av, rv, hrc⟩ : ∃ av rv, rcheck N ps ts = (av, rv) := ⟨_, _, rfl⟩
    have hle : rv = true → av ≤ cc := by
      intro hr
      unfold rcheck at hrc
      split at hrc
      · rename_i hc
        injection hrc with e1 e2
        rw [← e1, hcc, hbest.2]
        exact weak_duality hc.2 _
      · injection hrc with e1 e2
        rw [← e2] at hr; cases hr
    have H := Lib.hid (And.intro hval (And.intro hcc (And.intro hpl hrc)))
    have Htr := Lib.hid htr
    have Hnil := Lib.hid hnil
    clear hval hgood hbest hps hof hwb hrow hwf hrc hcc hpl htr hnil
    by_cases h20 : 20 < ts.length
    · go_enter Try.func9, Try.ntmps9
      go_wp2_with fail
      refine Hof.out.mono ?_
      rintro e w1 ⟨A1, c1, rfl, hr1, _, hc1, hb1⟩
      have hs1 := hb1.size
      simp at hs1
      have Hb1 := Lib.hid (((Below.refl w.heap.size w).alloc (Nat.le_refl _) _).trans (hb1.mono (by simp)))
      clear hr1 hb1 Hof hc1
      go_wp2_with fail
      refine (awake_any _).mono ?_
      rintro e w2 ⟨rfl, hb⟩
      have Hb2 := Lib.hid (Hb1.out.trans (hb.mono (by omega)))
      have hs2 := hb.size
      clear hb Hb1
      go_wp2_with fail
      refine (awake_any _).mono ?_
      rintro e w3 ⟨rfl, hb⟩
      have Hb3 := Lib.hid (Hb2.out.trans (hb.mono (by omega)))
      clear hb Hb2
      go_wp2_with fail
      go_ret
      exact ⟨rfl, Hb3.out⟩
    go_enter Try.func9, Try.ntmps9
    go_wp2_with fail
    refine Hof.out.mono ?_
    rintro e w1 ⟨A1, c1, rfl, hr1, _, hc1, hb1⟩
    have hs1 := hb1.size
    simp at hs1
    have Hb1 := Lib.hid (((Below.refl w.heap.size w).alloc (Nat.le_refl _) _).trans (hb1.mono (by simp)))
    have Hr1 := Lib.hid hr1
    have Hc1 := Lib.hid hc1
    clear hr1 hb1 Hof hc1
    go_wp2_with fail
    refine (awake_any _).mono ?_
    rintro e w2 ⟨rfl, hb⟩
    have Hb2 := Lib.hid (Hb1.out.trans (hb.mono (by omega)))
    have hs2 := hb.size
    have Hr2 := Lib.hid (Hr1.out.call hb (Nat.le_refl _))
    have Ht2 := Lib.hid (Htr.out.call Hb2.out (Nat.le_refl _))
    clear hb Hr1 Hb1
    go_wp2_with fail
    refine (cloneTris A2 cap2 ts w.heap.size w2 (by omega) (by omega) Ht2.out Hnil.out).mono ?_
    rintro e w3 ⟨v, rfl, ho3, hb, _⟩
    obtain ⟨A3, c3, rfl⟩ := own_slice ho3
    have Hb3 := Lib.hid (Hb2.out.trans (hb.mono (by omega)))
    have hs3 := hb.size
    have Hr3 := Lib.hid (RowAt.of_own ho3)
    have Hr23 := Lib.hid (Hr2.out.call hb hs2)
    clear hb Hr2 Hb2 ho3 Ht2
    go_wp2_with fail
    have hck := ccheck_any N A1 c1 ps w1.heap.size A3 c3 ts w3.heap.size w3 (by omega) (Nat.le_refl _) (by have := H.out.2.2.1; omega) (by omega) Hr23.out Hr3.out H.out.1 (by omega)
    rw [H.out.2.2.2] at hck
    refine hck.mono ?_
    clear hck
    rintro e w4 ⟨rfl, hb⟩
    have Hb4 := Lib.hid (Hb3.out.trans (hb.mono (by omega)))
    have hs4 := hb.size
    have Hr24 := Lib.hid (Hr23.out.call hb (by omega))
    have Ht4 := Lib.hid (Htr.out.call Hb4.out (Nat.le_refl _))
    clear hb Hb3 Hr3 Hr23
    go_wp2_with fail
    have hck := check_any N A1 c1 ps A2 cap2 ts w1.heap.size w.heap.size w4 (by omega) (by omega) (by have := H.out.2.2.1; omega) (by omega) Hc1.out hcap2 Hr24.out Ht4.out
    rw [H.out.2.2.2] at hck
    refine hck.mono ?_
    clear hck
    rintro e w5 ⟨rfl, hb⟩
    have Hb5 := Lib.hid (Hb4.out.trans (hb.mono (by omega)))
    have hs5 := hb.size
    have Hr25 := Lib.hid (Hr24.out.call hb (by omega))
    clear hb Hb4 Hr24 Ht4
    have hae : (av == av) = true := by simp
    have hop := optimal_ok N A1 c1 ps w1.heap.size w5 (by omega) (by have := H.out.2.2.1; omega) Hr25.out H.out.1 (by omega)
    rw [← H.out.2.1] at hop
    have Hop := Lib.hid hop
    clear hop
    cases rv
    · go_wp2_with fail
      refine Hop.out.mono ?_
      rintro e w6 ⟨q6, c6, rfl, _, hb⟩
      have Hb6 := Lib.hid (Hb5.out.trans (hb.mono (by omega)))
      clear hb Hb5
      go_wp2_with fail
      go_ret
      exact ⟨rfl, Hb6.out⟩
    · have hle' := hle rfl
      go_wp2_with fail
      refine Hop.out.mono ?_
      rintro e w6 ⟨q6, c6, rfl, _, hb⟩
      have Hb6 := Lib.hid (Hb5.out.trans (hb.mono (by omega)))
      clear hb Hb5
      go_wp2_with fail
      go_ret
      exact ⟨rfl, Hb6.out⟩
  · have hof := of_no N A ws.length cap 6 (w.alloc (.cells #[.int .u8 (N : Int), .slice A ws.length cap] 32)) hN (by omega) (by omega)
    have Hof := Lib.hid hof
    clear hof hwb hrow hwf htr hnil
    go_enter Try.func9, Try.ntmps9
    go_wp2_with fail
    refine Hof.out.mono ?_
    rintro e w1 ⟨rfl, hb1⟩
    have hs1 := hb1.size
    simp at hs1
    have Hb1 := Lib.hid (((Below.refl w.heap.size w).alloc (Nat.le_refl _) _).trans (hb1.mono (by simp)))
    clear hb1 Hof
    go_wp2_with fail
    refine (awake_any _).mono ?_
    rintro e w2 ⟨rfl, hb⟩
    have Hb2 := Lib.hid (Hb1.out.trans (hb.mono (by omega)))
    have hs2 := hb.size
    clear hb Hb1
    go_wp2_with fail
    refine (awake_any _).mono ?_
    rintro e w3 ⟨rfl, hb⟩
    have Hb3 := Lib.hid (Hb2.out.trans (hb.mono (by omega)))
    clear hb Hb2
    go_wp2_with fail
    go_ret
    exact ⟨rfl, Hb3.out⟩
end Go.Proofs.Ytmjicfafjjgekaa
