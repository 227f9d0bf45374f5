/- W20: the walk of drossref54.Optimal. -/
import Derived.Test.YtmjicfafjjgekaaW16
import Derived.Test.YtmjicfafjjgekaaW19
namespace Go.Proofs.Ytmjicfafjjgekaa
open Go.RowKit Go.Dr

def better (c : List Int → Int) (b xs : List Int) : List Int := if c xs < c b then xs else b
def bestTo (c : List Int → Int) (l : List (List Int)) : Nat → List Int
  | 0 => l.getD 0 []
  | i + 1 => better c (bestTo c l i) (l.getD (i + 1) [])
/-- The first of the cheapest. -/
def bestOf (c : List Int → Int) (l : List (List Int)) : List Int := bestTo c l (l.length - 1)
theorem bestTo_mem (c : List Int → Int) {l : List (List Int)} : ∀ {i : Nat}, i < l.length → bestTo c l i ∈ l
  | 0, h => by
    have : l.getD 0 [] = l[0] := by simp [List.getD_eq_getElem?_getD, h]
    rw [bestTo, this]; exact List.getElem_mem _
  | i + 1, h => by
    rw [bestTo, better]
    split
    · have : l.getD (i + 1) [] = l[i + 1] := by simp [List.getD_eq_getElem?_getD, h]
      rw [this]; exact List.getElem_mem _
    · exact bestTo_mem c (by omega)
theorem allStep_pos (xs : List Int) : 0 < (allStep xs).length := by
  have := mxTo_lo xs xs.length
  simp only [allStep, stepL, List.length_map, List.length_range]
  unfold mx
  omega
theorem allN_pos : ∀ i, 0 < (allN i).length
  | 0 => by simp [allN]
  | i + 1 => by
    have h1 := allN_pos i
    obtain ⟨x, l, hl⟩ := List.exists_cons_of_length_pos h1
    rw [allN, hl, List.flatMap_cons, List.length_append]
    have := allStep_pos x
    omega

set_option maxRecDepth 100000 in
set_option maxHeartbeats 1000000 in
theorem roptimal_ok (n : Nat) (A : Option Addr) (cap : Nat) (ps : List P3) (B : Nat) (w : World) (hB : B ≤ w.heap.size) (hl : ps.length ≤ 100000) (hp : PairsAt w B A ps) (hv : valid n ps = 0) (hn : n ≤ 8) :
    Calls Try.prog 17 #[.int .i64 (n : Int), .slice A ps.length cap] w fun e w' => ∃ A2 c2, e = .returned (.tuple #[.slice A2 n c2, .int .i64 (costOf ps (bestOf (costOf ps) (allN n))), .int .i64 0]) ∧
      RowAt w' w'.heap.size A2 (ints (bestOf (costOf ps) (allN n))) ∧ Below w.heap.size w w' := by
  have hc := rvalid_any n A cap ps B w hB hl hp
  rw [hv] at hc
  have Hc := Lib.hid hc
  rcases valid_cases n ps with h | ⟨_, _, _, hpl, hg⟩
  · rw [hv] at h; simp at h
  have Hok := Lib.hid (good_all hg)
  have Hp := Lib.hid hp
  have hn10 : decide ((10 : Int) < (n : Int)) = false := by simp; omega
  clear hc hv hg hp
  go_enter Try.func17, Try.ntmps17
  go_wp2_with fail
  refine Hc.out.mono ?_
  rintro e' w1 ⟨rfl, hb⟩
  have Hb := Lib.hid hb
  have hs1 := hb.size
  have Hp1 := Lib.hid (Hp.out.call hb hB)
  clear hb Hc Hp
  go_wp2_with fail
  refine (all_any n hn w1).mono ?_
  rintro e' w2 ⟨A3, c3, rfl, hrl, hb2⟩
  have Hb2 := Lib.hid (Hb.out.trans (hb2.mono hs1))
  have hs2 : w.heap.size ≤ w2.heap.size := Nat.le_trans hs1 hb2.size
  have Hp2 := Lib.hid (Hp1.out.call hb2 (by omega))
  have Hrl := Lib.hid hrl
  clear hb2 hrl Hp1 Hb
  have hpos := allN_pos n
  obtain ⟨x0, hx0⟩ : ∃ x0, (allN n)[0]? = some x0 := ⟨_, List.getElem?_eq_getElem hpos⟩
  obtain ⟨b, off, A4, c4, rfl, hbb, d1, hr0, _⟩ := Hrl.out.at_ hx0
  have hl0 : x0.length = n := (allN_ok n x0 (List.mem_of_getElem? hx0)).1
  have hb0 : bestTo (costOf ps) (allN n) 0 = x0 := by rw [bestTo]; simp [hx0]
  have Hx0 := Lib.hid (And.intro hx0 (And.intro hl0 hb0))
  have hcnt : (allN n).length ≤ 100000000 := by
    have h1 := allN_bd n (by omega)
    have h2 : 10 ^ n ≤ 10 ^ 8 := Nat.pow_le_pow_right (by omega) (by omega)
    omega
  have Hr0 := Lib.hid hr0
  rw [hl0] at d1
  simp only [Nat.add_zero] at d1
  obtain ⟨cnt, hcn⟩ : ∃ cnt, cnt = (allN n).length := ⟨_, rfl⟩
  rw [← hcn] at hpos hcnt ⊢
  have Hcn := Lib.hid hcn
  clear hx0 hl0 hb0 hr0 hcn
  go_wp2_with fail
  go_loopw [10, 9] (fun ii vb wr => ∃ (i q : Nat) (A5 : Option Addr) (c5 : Nat), 1 ≤ i ∧ i ≤ cnt ∧ ii = .int .i64 i ∧ vb = .slice A5 n c5 ∧ RowAt w2 w2.heap.size A5 (ints (bestTo (costOf ps) (allN n) (i - 1))) ∧ wr = w2.drewN q) (fun ii _ _ => cnt - (intOf ii).toNat)
  case atStart => exact ⟨1, 0, A4, c4, by omega, by omega, rfl, rfl, by rw [Nat.sub_self, Hx0.out.2.2]; exact Hr0.out, rfl⟩
  case round =>
    obtain ⟨i, q, A5, c5, hi1, hi2, rfl, rfl, hr5, rfl⟩ := hrel
    have Hr5 := Lib.hid hr5
    obtain ⟨bst, hbst⟩ : ∃ bst, bst = bestTo (costOf ps) (allN n) (i - 1) := ⟨_, rfl⟩
    rw [← hbst] at Hr5
    have hbl : bst.length = n := by rw [hbst]; exact (allN_ok n _ (bestTo_mem _ (by have := Hcn.out; omega))).1
    have Hbst := Lib.hid hbst
    have Hbl := Lib.hid hbl
    clear hr5 hbst hbl
    have Hcb := Lib.hid (fun q => rcost_any n A A5 cap c5 ps bst B w2.heap.size (w2.drewN q) hpl (by omega) (Hp2.out.drewN q) (Hr5.out.drewN q) Hbl.out Hok.out)
    by_cases hlt : i < cnt
    · obtain ⟨xi, hxi⟩ : ∃ xi, (allN n)[i]? = some xi := ⟨_, List.getElem?_eq_getElem (by have := Hcn.out; omega)⟩
      obtain ⟨b6, off6, A6, c6, e6, _, d6, hr6, _⟩ := Hrl.out.at_ hxi
      obtain ⟨rfl, rfl⟩ : b = b6 ∧ off = off6 := by simpa using e6
      have hli : xi.length = n := (allN_ok n xi (List.mem_of_getElem? hxi)).1
      rw [hli] at d6
      have Hci := Lib.hid (fun q => rcost_any n A A6 cap c6 ps xi B w2.heap.size (w2.drewN q) hpl (by omega) (Hp2.out.drewN q) (hr6.drewN q) hli Hok.out)
      have hnext : bestTo (costOf ps) (allN n) (i + 1 - 1) = better (costOf ps) bst xi := by
        rw [show i + 1 - 1 = (i - 1) + 1 by omega, bestTo, ← Hbst.out, show i - 1 + 1 = i by omega]
        simp [hxi]
      have Hnext := Lib.hid hnext
      have Hr6 := Lib.hid hr6
      clear hxi e6 hr6 hli hnext
      obtain ⟨ca, hca⟩ : ∃ ca, ca = costOf ps xi := ⟨_, rfl⟩
      obtain ⟨cb, hcb⟩ : ∃ cb, cb = costOf ps bst := ⟨_, rfl⟩
      rw [← hca] at Hci
      rw [← hcb] at Hcb
      have Hca := Lib.hid hca
      have Hcc := Lib.hid hcb
      clear hca hcb
      by_cases hlt2 : ca < cb
      · have hbt : better (costOf ps) bst xi = xi := by rw [better, if_pos (by rw [← Hca.out, ← Hcc.out]; exact hlt2)]
        have Hbt := Lib.hid hbt
        clear hbt
        go_wp2_with fail
        refine (Hci.out _).mono ?_
        rintro e w8 ⟨rfl, q2, rfl⟩
        rw [World.drewN_drewN]
        go_wp2_with fail
        refine (Hcb.out _).mono ?_
        rintro e w9 ⟨rfl, q3, rfl⟩
        rw [World.drewN_drewN]
        go_wp2_with fail
        go_roundw
        case rel => exact ⟨i + 1, _, A6, c6, by omega, by omega, by go_num, rfl, by rw [Hnext.out, Hbt.out]; exact Hr6.out, rfl⟩
        case measure => simp [intOf]; omega
      · have hbt : better (costOf ps) bst xi = bst := by rw [better, if_neg (by rw [← Hca.out, ← Hcc.out]; exact hlt2)]
        have Hbt := Lib.hid hbt
        clear hbt
        go_wp2_with fail
        refine (Hci.out _).mono ?_
        rintro e w8 ⟨rfl, q2, rfl⟩
        rw [World.drewN_drewN]
        go_wp2_with fail
        refine (Hcb.out _).mono ?_
        rintro e w9 ⟨rfl, q3, rfl⟩
        rw [World.drewN_drewN]
        go_wp2_with fail
        go_roundw
        case rel => exact ⟨i + 1, _, A5, c5, by omega, by omega, by go_num, rfl, by rw [Hnext.out, Hbt.out]; exact Hr5.out, rfl⟩
        case measure => simp [intOf]; omega
    · have hfin : bestOf (costOf ps) (allN n) = bst := by rw [bestOf, Hbst.out, ← Hcn.out, show cnt = i by omega]
      have Hfin := Lib.hid hfin
      clear hfin
      go_wp2_with fail
      refine (Hcb.out _).mono ?_
      rintro e w8 ⟨rfl, q2, rfl⟩
      rw [World.drewN_drewN]
      go_wp2_with fail
      go_ret3
      refine ⟨A5, c5, by rw [Hfin.out]; rfl, ?_, below_drewN Hb2.out _⟩
      rw [Hfin.out]
      exact Hr5.out.drewN _
end Go.Proofs.Ytmjicfafjjgekaa
