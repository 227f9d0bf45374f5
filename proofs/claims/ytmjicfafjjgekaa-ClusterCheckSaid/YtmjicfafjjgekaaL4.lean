/- L4: the walk of the law ClusterBound. -/
import Derived.Test.YtmjicfafjjgekaaA4
import Derived.Test.YtmjicfafjjgekaaL2
import Derived.Test.YtmjicfafjjgekaaW28
import Derived.Test.YtmjicfafjjgekaaW29
namespace Go.Proofs.Ytmjicfafjjgekaa
open Go.RowKit Go.Dr

theorem len_le_sum {ps : List P3} (ts : List T4) (h : ∀ t ∈ ts, tOk ps t = true) : (ts.length : Int) ≤ sumT ts := by
  induction ts with
  | nil => simp [sumT]
  | cons t ts ih =>
    have := ih (fun t h' => h t (by simp [h']))
    have h2 := h t (by simp)
    simp only [tOk, Bool.and_eq_true, decide_eq_true_eq] at h2
    simp only [sumT, List.map_cons, List.sum_cons, List.length_cons] at this ⊢
    omega
theorem right_len {n : Nat} {ps : List P3} {ts : List T4} (hg : good n ps = true) (h : rcheckB ps ts = true) : (ts.length : Int) ≤ 1000 * ps.length := by
  have h1 := weak_duality h []
  have h2 := (costOf_bd [] (good_all hg)).2
  have h3 := len_le_sum (ps := ps) ts (by simp only [rcheckB, Bool.and_eq_true, List.all_eq_true] at h; exact h.1)
  omega

theorem check_any (n : Int) (A : Option Addr) (cap : Nat) (ps : List P3) (A2 : Option Addr) (cap2 : Nat) (ts : List T4) (B B2 : Nat) (w : World) (hB : B ≤ w.heap.size) (hB2 : B2 ≤ w.heap.size) (hl : ps.length ≤ 100000) (hl2 : ts.length ≤ 100000)
    (hc : ps.length ≤ cap) (hc2 : ts.length ≤ cap2) (hp : PairsAt w B A ps) (ht : TrisAt w B2 A2 ts) :
    Calls Try.prog 20 #[.int .i64 n, .slice A ps.length cap, .slice A2 ts.length cap2] w fun e w' => e = .returned (.tuple #[.int .i64 (rcheck n ps ts).1, .bool (rcheck n ps ts).2]) ∧ Below w.heap.size w w' := by
  refine ((check_con n ps ts false false hl hl2).2 (fun _ => False) w _ (fun _ h => h.elim) rfl (fun i a u ha hu => ?_)).mono fun e w' ⟨u, r, h1, _, h3, h4, h5⟩ => ?_
  · match i, ha, hu with
    | 0, ha, hu => cases ha; cases hu; exact .int _ _
    | 1, ha, hu => cases ha; cases hu; exact rel_of_pairs hB hc hp
    | 2, ha, hu => cases ha; cases hu; exact rel_of_tris hB2 hc2 ht
  · subst h1; subst h5
    refine ⟨?_, h4⟩
    cases h3 with
    | tup vs us hl hh =>
      obtain ⟨l⟩ := us
      match l, hl with
      | [a, b], _ =>
        have e1 := hh 0 _ a rfl rfl
        have e2 := hh 1 _ b rfl rfl
        cases e1; cases e2; rfl
theorem full_any (n : Nat) (A : Option Addr) (cap : Nat) (ps : List P3) (A2 : Option Addr) (cap2 : Nat) (ts : List T4) (B B2 : Nat) (w : World) (hB : B ≤ w.heap.size) (hB2 : B2 ≤ w.heap.size) (hl : ps.length ≤ 100000) (hl2 : ts.length ≤ 100000)
    (hc : ps.length ≤ cap) (hc2 : ts.length ≤ cap2) (hp : PairsAt w B A ps) (ht : TrisAt w B2 A2 ts) (hn : n ≤ 200) (hokp : ∀ p ∈ ps, -1000 ≤ p.x ∧ p.x ≤ 1000) (hbt : ∀ t ∈ ts, 0 ≤ t.a ∧ t.a ≤ 1000)
    (hfull : ∀ i j k : Nat, i < j → j < k → k < n → rbad ps i j k = true → ∃ p ∈ ps, inT ⟨i, j, k, 0⟩ p.i = true ∧ inT ⟨i, j, k, 0⟩ p.k = true ∧ roomP p ts ≤ 0) :
    Calls Try.prog 21 #[.int .i64 (n : Int), .slice A ps.length cap, .slice A2 ts.length cap2] w fun e w' => e = .returned (.bool true) ∧ Below w.heap.size w w' := by
  refine ((full_con n ps ts false false hl hl2 hn hokp hbt hfull).2 (fun _ => False) w _ (fun _ h => h.elim) rfl (fun i a u ha hu => ?_)).mono fun e w' ⟨u, r, h1, _, h3, h4, h5⟩ => ?_
  · match i, ha, hu with
    | 0, ha, hu => cases ha; cases hu; exact .int _ _
    | 1, ha, hu => cases ha; cases hu; exact rel_of_pairs hB hc hp
    | 2, ha, hu => cases ha; cases hu; exact rel_of_tris hB2 hc2 ht
  · subst h1; subst h5
    cases h3
    exact ⟨rfl, h4⟩

set_option maxRecDepth 100000 in
set_option maxHeartbeats 2000000 in
theorem lawBound (N : Nat) (A : Option Addr) (len cap : Nat) (w : World) (hN : N ≤ 255) (hlen : len ≤ 9223372036854775807) (h : ∃ ws, IntsIn .i8 w A len ws) :
    Calls Try.prog 6 #[.agg #[.int .u8 (N : Int), .slice A len cap]] w fun e w' => e = .returned (.bool true) ∧ Below w.heap.size w w' := by
  obtain ⟨ws, hl, hrow, _, hwf⟩ := h
  subst hl
  have hwb : ∀ x ∈ ws, -128 ≤ x ∧ x ≤ 127 := fun x hx => bounds_i8 (hwf x hx)
  by_cases hN7 : N ≤ 7
  · obtain ⟨hval, hpl⟩ := ofL_valid (n := N) hwb (by omega)
    have hgood : good N (ofL N ws) = true := by
      rcases valid_cases (N : Int) (ofL N ws) with h | h
      · rw [hval] at h; simp at h
      · exact h.2.2.2.2
    have hbest := search_best hgood
    have hof := of_yes2 N A cap 7 ws (w.alloc (.cells #[.int .u8 (N : Int), .slice A ws.length cap] 32)) hN7 (by omega) hlen ((hrow.alloc (Nat.le_refl _) _).more (by simp)) hwb
    have Hof := Lib.hid hof
    obtain ⟨ps, hps⟩ : ∃ ps, ps = ofL N ws := ⟨_, rfl⟩
    rw [← hps] at hval hpl hbest Hof hgood
    have hbr := bound_right hgood
    have hokp : ∀ p ∈ ps, -1000 ≤ p.x ∧ p.x ≤ 1000 := fun p hp => by
      have := good_all hgood p hp
      simp only [okP, decide_eq_true_eq] at this
      omega
    have hbo := fun A1 c1 B W hB hp => bound_ok2 N A1 c1 ps B W hB (by omega) hp hval (by omega)
    obtain ⟨ts, hts⟩ : ∃ ts, ts = (boundSt N (matOf ps)).out := ⟨_, rfl⟩
    rw [← hts] at hbr
    have hlo : ts.length ≤ 100000 := by have := right_len hgood hbr.1; omega
    rw [← hts] at hbo
    obtain ⟨sm, hsm⟩ : ∃ sm, sm = (boundSt N (matOf ps)).sum := ⟨_, rfl⟩
    rw [← hsm] at hbr hbo
    have hrc : rcheck N ps ts = (sm, true) := by unfold rcheck; rw [if_pos ⟨hval, hbr.1⟩, hbr.2.1]
    have hbt : ∀ t ∈ ts, 0 ≤ t.a ∧ t.a ≤ 1000 := fun t ht => by
      have := hbr.1
      simp only [rcheckB, Bool.and_eq_true, List.all_eq_true] at this
      have := this.1 t ht
      simp only [tOk, Bool.and_eq_true, decide_eq_true_eq] at this
      omega
    obtain ⟨cc, hcc⟩ : ∃ cc, cc = (optSt N (matOf ps)).least := ⟨_, rfl⟩
    have hle : sm ≤ cc := by
      rw [hcc, hbest.2, hbr.2.1]
      exact weak_duality hbr.1 _
    have H := Lib.hid (And.intro hval (And.intro hrc (And.intro hcc (And.intro hokp (And.intro hbt (And.intro hbr.2.2 (And.intro hpl hlo)))))))
    have Hbo := Lib.hid hbo
    have hdl : decide (sm ≤ cc) = true := by simpa using hle
    have hse : (sm == sm) = true := by simp
    clear hval hgood hbest hps hof hwb hrow hwf hokp hbr hlo hbo hts hsm hrc hbt hcc hle hpl
    go_enter Try.func6, Try.ntmps6
    go_wp2_with fail
    refine Hof.out.mono ?_
    rintro e w1 ⟨A1, c1, rfl, hr1, _, hc1, hb1⟩
    have hs1 := hb1.size
    simp at hs1
    have Hb1 := Lib.hid (((Below.refl w.heap.size w).alloc (Nat.le_refl _) _).trans (hb1.mono (by simp)))
    have Hr1 := Lib.hid hr1
    have Hc1 := Lib.hid hc1
    clear hr1 hb1 Hof hc1
    go_wp2_with fail
    refine (awake_any _).mono ?_
    rintro e w2 ⟨rfl, hb⟩
    have Hb2 := Lib.hid (Hb1.out.trans (hb.mono (by omega)))
    have hs2 := hb.size
    have Hr2 := Lib.hid (Hr1.out.call hb (Nat.le_refl _))
    have Hop := Lib.hid (Hbo.out A1 c1 w1.heap.size w2 hb.size (Hr1.out.call hb (Nat.le_refl _)))
    clear hb Hr1 Hb1 Hbo
    go_wp2_with fail
    refine Hop.out.mono ?_
    rintro e w3 ⟨A3, c3, rfl, hr3, hc3, hb⟩
    have Hb3 := Lib.hid (Hb2.out.trans (hb.mono (by omega)))
    have hs3 := hb.size
    have Hr3 := Lib.hid hr3
    have Hc3 := Lib.hid hc3
    have Hr23 := Lib.hid (Hr2.out.call hb hs2)
    clear hb Hr2 Hb2 Hop hr3 hc3
    go_wp2_with fail
    have hck := check_any N A1 c1 ps A3 c3 ts w1.heap.size w3.heap.size w3 (by omega) (Nat.le_refl _) (by have := H.out.2.2.2.2.2.2.1; omega) (by have := H.out.2.2.2.2.2.2.2; omega) Hc1.out Hc3.out Hr23.out Hr3.out
    rw [H.out.2.1] at hck
    refine hck.mono ?_
    clear hck
    rintro e w4 ⟨rfl, hb⟩
    have Hb4 := Lib.hid (Hb3.out.trans (hb.mono (by omega)))
    have hs4 := hb.size
    have Hr4 := Lib.hid (Hr3.out.call hb (Nat.le_refl _))
    have Hr24 := Lib.hid (Hr23.out.call hb (by omega))
    clear hb Hb3 Hr3 Hr23
    go_wp2_with fail
    have hop := optimal_ok N A1 c1 ps w1.heap.size w4 (by omega) (by have := H.out.2.2.2.2.2.2.1; omega) Hr24.out H.out.1 (by omega)
    rw [← H.out.2.2.1] at hop
    refine hop.mono ?_
    clear hop
    rintro e w5 ⟨q5, c5, rfl, _, hb⟩
    have Hb5 := Lib.hid (Hb4.out.trans (hb.mono (by omega)))
    have hs5 := hb.size
    have Hr5 := Lib.hid (Hr4.out.call hb hs4)
    have Hr25 := Lib.hid (Hr24.out.call hb (by omega))
    clear hb Hb4 Hr4 Hr24
    go_wp2_with fail
    refine (full_any N A1 c1 ps A3 c3 ts w1.heap.size w3.heap.size w5 (by omega) (by omega) (by have := H.out.2.2.2.2.2.2.1; omega) (by have := H.out.2.2.2.2.2.2.2; omega) Hc1.out Hc3.out Hr25.out Hr5.out (by omega) H.out.2.2.2.1 H.out.2.2.2.2.1 H.out.2.2.2.2.2.1).mono ?_
    rintro e w6 ⟨rfl, hb⟩
    have Hb6 := Lib.hid (Hb5.out.trans (hb.mono (by omega)))
    clear hb Hb5
    go_wp2_with fail
    go_ret
    exact ⟨rfl, Hb6.out⟩
  · have hof := of_no N A ws.length cap 7 (w.alloc (.cells #[.int .u8 (N : Int), .slice A ws.length cap] 32)) hN (by omega) (by omega)
    have Hof := Lib.hid hof
    clear hof hwb hrow hwf
    go_enter Try.func6, Try.ntmps6
    go_wp2_with fail
    refine Hof.out.mono ?_
    rintro e w1 ⟨rfl, hb1⟩
    have hs1 := hb1.size
    simp at hs1
    have Hb1 := Lib.hid (((Below.refl w.heap.size w).alloc (Nat.le_refl _) _).trans (hb1.mono (by simp)))
    clear hb1 Hof
    go_wp2_with fail
    refine (awake_any _).mono ?_
    rintro e w2 ⟨rfl, hb⟩
    have Hb2 := Lib.hid (Hb1.out.trans (hb.mono (by omega)))
    have hs2 := hb.size
    clear hb Hb1
    go_wp2_with fail
    refine (awake_any _).mono ?_
    rintro e w3 ⟨rfl, hb⟩
    have Hb3 := Lib.hid (Hb2.out.trans (hb.mono (by omega)))
    clear hb Hb2
    go_wp2_with fail
    go_ret
    exact ⟨rfl, Hb3.out⟩
end Go.Proofs.Ytmjicfafjjgekaa
