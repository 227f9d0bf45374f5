/- L2: the walk of the law ClusterOptimal. -/
import Derived.Test.YtmjicfafjjgekaaPlain2
import Derived.Test.YtmjicfafjjgekaaL5
import Derived.Lib.SmallJoins
import Derived.OpenShut
namespace Go.Proofs.Ytmjicfafjjgekaa
open Go.RowKit Go.Dr

/-- All pairs so far lie before (i, k). -/
structure OfOk (n : Nat) (i k : Nat) (l : List P3) : Prop where
  good : good n l = true
  before : ∀ p ∈ l, p.i < i ∨ (p.i = i ∧ p.k < k)
theorem ofStep_ok {ws : List Int} {n i k : Nat} {s : List P3 × Nat} (hw : ∀ x ∈ ws, -128 ≤ x ∧ x ≤ 127) (h : OfOk n i k s.1) (hik : i < k) (hkn : k < n) : OfOk n i (k + 1) (ofStep ws i k s).1 := by
  unfold ofStep
  simp only
  split
  · rename_i hc
    have hx : -128 ≤ ws.getD s.2 0 ∧ ws.getD s.2 0 ≤ 127 := by
      have : ws.getD s.2 0 = ws[s.2]'hc.1 := by simp [List.getD_eq_getElem?_getD, hc.1]
      rw [this]; exact hw _ (List.getElem_mem _)
    refine ⟨(good_snoc _ _ _).2 ⟨h.good, decide_eq_true (by refine ⟨?_, ?_, ?_, ?_, ?_⟩ <;> (simp only; omega)), fun hm => ?_⟩, fun p hp => ?_⟩
    · obtain ⟨p, hp, he⟩ := List.mem_map.1 hm
      have := h.before p hp
      simp [key] at he
      omega
    · simp at hp
      rcases hp with hp | rfl
      · have := h.before p hp; omega
      · right; exact ⟨rfl, by simp only; omega⟩
  · exact ⟨h.good, fun p hp => by have := h.before p hp; omega⟩
theorem ofJ_ok {ws : List Int} {n i : Nat} {s : List P3 × Nat} (hw : ∀ x ∈ ws, -128 ≤ x ∧ x ≤ 127) (h : OfOk n i (i + 1) s.1) : ∀ c, i + 1 + c ≤ n → OfOk n i (i + 1 + c) (ofJ ws i s c).1
  | 0, _ => h
  | c + 1, hc => by
    have h1 : OfOk n i (i + 1 + c + 1) (ofStep ws i (i + 1 + c) (ofJ ws i s c)).1 := ofStep_ok hw (ofJ_ok hw h c (by omega)) (by omega) (by omega)
    exact h1
theorem ofI_ok {ws : List Int} {n : Nat} (hw : ∀ x ∈ ws, -128 ≤ x ∧ x ≤ 127) : ∀ i, i ≤ n → OfOk n i (i + 1) (ofI ws n i).1
  | 0, _ => ⟨by simp [good, ofI], by simp [ofI]⟩
  | i + 1, hi => by
    have h1 := ofJ_ok hw (ofI_ok (n := n) hw i (by omega)) (n - i - 1) (by omega)
    exact ⟨h1.good, fun p hp => by have := h1.before p hp; omega⟩
theorem ofJ_len {ws : List Int} {i : Nat} {s : List P3 × Nat} : ∀ c, (ofJ ws i s c).1.length ≤ s.1.length + c
  | 0 => by simp [ofJ]
  | c + 1 => by
    have := ofJ_len (ws := ws) (i := i) (s := s) c
    rw [ofJ, ofStep]
    simp only
    split
    · simp; omega
    · omega
theorem ofI_len {ws : List Int} {n : Nat} : ∀ i, (ofI ws n i).1.length ≤ i * n
  | 0 => by simp [ofI]
  | i + 1 => by
    have h1 := ofI_len (ws := ws) (n := n) i
    have h2 := ofJ_len (ws := ws) (i := i) (s := ofI ws n i) (n - i - 1)
    rw [ofI, Nat.add_mul]
    omega
theorem ofL_valid {ws : List Int} {n : Nat} (hw : ∀ x ∈ ws, -128 ≤ x ∧ x ≤ 127) (hn : n ≤ 10) : valid n (ofL n ws) = 0 ∧ (ofL n ws).length ≤ 100 := by
  have h1 := (ofI_ok (n := n) hw n (Nat.le_refl _)).good
  have h2 := ofI_len (ws := ws) (n := n) n
  have h3 : n * n ≤ 10 * 10 := Nat.mul_le_mul hn hn
  refine ⟨?_, by unfold ofL; omega⟩
  unfold valid ofL
  rw [if_neg (by omega), if_neg (by omega), if_pos h1]

open Go.ChangeShapes Go.WideShapes Go.Deep Go.Joins in
theorem open_recipe {H : Type} {enc : TypeId × Value → H} {W : World} {r : Reach} {b0 : Nat} {v : Value} {d : DataW H} {p : List MemPlace} (hv : Value.okWide Try.prog W r b0 32 v) (h : DataW.Trod enc Try.prog W 0 (fun _ => true) true 32 v d p) :
    ∃ (N : Nat) (A : Option Addr) (len cap : Nat), v = .agg #[.int .u8 (N : Int), .slice A len cap] ∧ N ≤ 255 ∧ len ≤ 9223372036854775807 ∧ ∃ ws, IntsIn .i8 W A len ws := by
  obtain ⟨c0, c1, y0, y1, m, rfl, rfl, rfl, hy0, hy1⟩ := open_agg2 Try.underlying32 (by kernel_rfl) (by kernel_rfl) hv h
  obtain ⟨x, e0, _, wx⟩ := DataW.trod_int Try.underlying5 hy0
  simp at e0
  subst e0
  have hx : 0 ≤ x ∧ x ≤ 255 := bounds_u8 wx
  obtain ⟨N, rfl⟩ := Int.eq_ofNat_of_zero_le hx.1
  obtain ⟨A, len, cap, hc⟩ : ∃ A len cap, c1 = .slice A len cap := by
    rcases open_ints Try.underlying30 Try.underlying64 (by kernel_rfl) hy1 with ⟨hcs, _⟩ | ⟨x, l, c, zs, hcs, _⟩
    · simp at hcs; exact ⟨none, 0, 0, hcs⟩
    · simp at hcs; exact ⟨_, _, _, hcs⟩
  subst hc
  have := in_row (A := A) (len := len) (cap := cap) Try.underlying30 Try.underlying64 (by kernel_rfl) ⟨m, by simpa [Value.cells] using hy1⟩
  exact ⟨N, A, len, cap, rfl, by omega, this.1, this.2⟩

theorem bounds_i8 {n : Int} (h : (Lit.int .i8 n).wf = true) : -128 ≤ n ∧ n ≤ 127 := by
  simp [Lit.wf, IntKind.min, IntKind.max, IntKind.signed, IntKind.bits] at h
  omega

set_option maxRecDepth 100000 in
set_option maxHeartbeats 1000000 in
theorem lawOptimal (N : Nat) (A : Option Addr) (len cap : Nat) (w : World) (hN : N ≤ 255) (hlen : len ≤ 9223372036854775807) (h : ∃ ws, IntsIn .i8 w A len ws) :
    Calls Try.prog 4 #[.agg #[.int .u8 (N : Int), .slice A len cap]] w fun e w' => e = .returned (.bool true) ∧ Below w.heap.size w w' := by
  obtain ⟨ws, hl, hrow, _, hwf⟩ := h
  subst hl
  have hwb : ∀ x ∈ ws, -128 ≤ x ∧ x ≤ 127 := fun x hx => bounds_i8 (hwf x hx)
  by_cases hN6 : N ≤ 6
  · obtain ⟨hval, hpl⟩ := ofL_valid (n := N) hwb (by omega)
    have hgood : good N (ofL N ws) = true := by
      rcases valid_cases (N : Int) (ofL N ws) with h | h
      · rw [hval] at h; simp at h
      · exact h.2.2.2.2
    have hbest := search_best hgood
    have hof := of_yes N A cap 6 ws (w.alloc (.cells #[.int .u8 (N : Int), .slice A ws.length cap] 32)) hN6 (by omega) hlen ((hrow.alloc (Nat.le_refl _) _).more (by simp)) hwb
    have Hof := Lib.hid hof
    obtain ⟨ps, hps⟩ : ∃ ps, ps = ofL N ws := ⟨_, rfl⟩
    rw [← hps] at hval hpl hbest Hof
    obtain ⟨bb, hbb⟩ : ∃ bb, bb = bestOf (costOf ps) (allN N) := ⟨_, rfl⟩
    have hblen : bb.length = N := by
      rw [hbb]
      exact (allN_ok N _ (bestTo_mem _ (by have := allN_pos N; omega))).1
    rw [← hbb] at hbest
    obtain ⟨cc, hcc⟩ : ∃ cc, cc = costOf ps bb := ⟨_, rfl⟩
    rw [← hcc] at hbest
    have H := Lib.hid (And.intro hval (And.intro hbest (And.intro hbb (And.intro hblen hcc))))
    clear hval hgood hbest hbb hblen hcc hps hof hwb hrow hwf
    go_enter Try.func4, Try.ntmps4
    go_wp2_with fail
    refine Hof.out.mono ?_
    rintro e w1 ⟨A1, c1, rfl, hr1, _, hb1⟩
    have hs1 := hb1.size
    simp at hs1
    have Hb1 := Lib.hid (((Below.refl w.heap.size w).alloc (Nat.le_refl _) _).trans (hb1.mono (by simp)))
    have Hr1 := Lib.hid hr1
    clear hr1 hb1 Hof
    go_wp2_with fail
    refine (awake_any _).mono ?_
    rintro e w2 ⟨rfl, hb⟩
    have Hb2 := Lib.hid (Hb1.out.trans (hb.mono (by omega)))
    have hs2 := hb.size
    have Hr2 := Lib.hid (Hr1.out.call hb (Nat.le_refl _))
    have hop := optimal_ok N A1 c1 ps w1.heap.size w2 hb.size (by omega) (Hr1.out.call hb (Nat.le_refl _)) H.out.1 (by omega)
    rw [H.out.2.1.1, H.out.2.1.2] at hop
    have Hop := Lib.hid hop
    clear hb hop Hr1 Hb1
    go_wp2_with fail
    refine Hop.out.mono ?_
    rintro e w3 ⟨q3, c3, rfl, hr3, hb⟩
    have Hb3 := Lib.hid (Hb2.out.trans (hb.mono (by omega)))
    have hs3 := hb.size
    have Hr3 := Lib.hid hr3
    have hrp := roptimal_ok N A1 c1 ps w1.heap.size w3 (by omega) (by omega) (Hr2.out.call hb hs2) H.out.1 (by omega)
    rw [← H.out.2.2.1, ← H.out.2.2.2.2] at hrp
    have Hrp := Lib.hid hrp
    clear hb hrp Hr2 Hb2 Hop hr3
    go_wp2_with fail
    refine Hrp.out.mono ?_
    rintro e w4 ⟨A4, c4, rfl, hr4, hb⟩
    have Hb4 := Lib.hid (Hb3.out.trans (hb.mono (by omega)))
    have Hr34 := Lib.hid (Hr3.out.call hb (Nat.le_refl _))
    have Hr4 := Lib.hid hr4
    have hce : (cc == cc) = true := by simp
    clear hb hr4 Hb3 Hrp Hr3
    go_wp2_with fail
    refine (equal_true (some ⟨q3, 0, none⟩) A4 c3 c4 N N bb H.out.2.2.2.1 H.out.2.2.2.1 w3.heap.size w4.heap.size w4 (by omega) Hr34.out Hr4.out).mono ?_
    rintro e w5 ⟨rfl, q, rfl⟩
    go_wp2_with fail
    go_ret
    exact ⟨rfl, below_drewN Hb4.out q⟩
  · have hof := of_no N A ws.length cap 6 (w.alloc (.cells #[.int .u8 (N : Int), .slice A ws.length cap] 32)) hN (by omega) (by omega)
    have Hof := Lib.hid hof
    clear hof hwb hrow hwf
    go_enter Try.func4, Try.ntmps4
    go_wp2_with fail
    refine Hof.out.mono ?_
    rintro e w1 ⟨rfl, hb1⟩
    have hs1 := hb1.size
    simp at hs1
    have Hb1 := Lib.hid (((Below.refl w.heap.size w).alloc (Nat.le_refl _) _).trans (hb1.mono (by simp)))
    clear hb1 Hof
    go_wp2_with fail
    refine (awake_any _).mono ?_
    rintro e w2 ⟨rfl, hb⟩
    have Hb2 := Lib.hid (Hb1.out.trans (hb.mono (by omega)))
    have hs2 := hb.size
    clear hb Hb1
    go_wp2_with fail
    refine (awake_any _).mono ?_
    rintro e w3 ⟨rfl, hb⟩
    have Hb3 := Lib.hid (Hb2.out.trans (hb.mono (by omega)))
    clear hb Hb2
    go_wp2_with fail
    go_ret
    exact ⟨rfl, Hb3.out⟩
end Go.Proofs.Ytmjicfafjjgekaa
