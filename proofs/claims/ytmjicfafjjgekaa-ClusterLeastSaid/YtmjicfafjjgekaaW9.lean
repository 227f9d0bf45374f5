/- W9: the walk of cluster.room. -/
import Derived.Test.YtmjicfafjjgekaaW5
import Derived.Test.YtmjicfafjjgekaaBase2
import Derived.Maps.OwnRows
namespace Go.Proofs.Ytmjicfafjjgekaa
open Go.RowKit Go.Dr

def absI (x : Int) : Int := if 0 ≤ x then x else -x
def absTo (f : Nat → Nat → Int) (i m : Nat) : List Int := (List.range m).map fun j => absI (f i j)
theorem absTo_succ (f : Nat → Nat → Int) (i m : Nat) : absTo f i (m + 1) = absTo f i m ++ [absI (f i m)] := by simp [absTo, List.range_succ]
theorem absTo_len (f : Nat → Nat → Int) (i m : Nat) : (absTo f i m).length = m := by simp [absTo]

theorem own_form {w : World} {base e j m : Nat} {v : Value} {xs : List Value} (h : w.ownsRow base e 1 v (j + (m + 1)) xs) : ∃ q c, v = .slice (some ⟨q, 0, none⟩) (j + (m + 1)) c := by
  rcases h.2 with ⟨_, h⟩ | ⟨q, c, cur, h, _⟩
  · omega
  · exact ⟨q, c, h⟩
theorem own_ne {w : World} {base e size n b : Nat} {v : Value} {xs : List Value} (h : w.ownsRow base e size v n xs) (hb : b < base) : some b ≠ v.ownBlock := fun e => by
  have := (h.lt b e.symm).1
  omega

theorem room_step {w wo wr w1 : World} {k n j c q c1 : Nat} {A : Option Addr} {row' cp' : Nat → Nat} {f : Nat → Nat → Int} {Y : Int} {o : Obj}
    (hsx : wo.heap.size ≤ wr.heap.size) (hlt0 : w.heap.size < wo.heap.size) (_hlt : k < n) (_hn : n ≤ 200)
    (hmx : Mat wr w.heap.size wo.heap.size w.heap.size k n row' cp' (fun i j => absI (f i j))) (hbx : Below w.heap.size w wr) (hox : wr.ownsRow wo.heap.size 2 1 (.slice A j c) j (ints (absTo f k j)))
    (hnx : ∀ i, k < i → i < n → wr.cell? ⟨w.heap.size, i, none⟩ = some (.slice none 0 0)) (hfx : ∀ i, i < n → wr.frozen? ⟨w.heap.size, i, none⟩ = false)
    (hcx : wr.cell? ⟨w.heap.size, k, none⟩ = some (.slice A j c)) (hY : absTo f k (j + 1) = absTo f k j ++ [Y])
    (ho : w1.ownsRow wo.heap.size 2 1 (.slice (some ⟨q, 0, none⟩) (j + 1) c1) (j + 1) (ints (absTo f k j) ++ [.int .i64 Y])) (hg : (wr.alloc o).grownBy w1 (Value.slice A j c).ownBlock) :
    Mat (w1.setCell ⟨w.heap.size, k, none⟩ (.slice (some ⟨q, 0, none⟩) (j + 1) c1)) w.heap.size wo.heap.size w.heap.size k n row' cp' (fun i j => absI (f i j)) ∧ Below w.heap.size w (w1.setCell ⟨w.heap.size, k, none⟩ (.slice (some ⟨q, 0, none⟩) (j + 1) c1)) ∧
      wo.heap.size ≤ (w1.setCell ⟨w.heap.size, k, none⟩ (.slice (some ⟨q, 0, none⟩) (j + 1) c1)).heap.size ∧
      (w1.setCell ⟨w.heap.size, k, none⟩ (.slice (some ⟨q, 0, none⟩) (j + 1) c1)).cell? ⟨w.heap.size, k, none⟩ = some (.slice (some ⟨q, 0, none⟩) (j + 1) c1) ∧
      (w1.setCell ⟨w.heap.size, k, none⟩ (.slice (some ⟨q, 0, none⟩) (j + 1) c1)).ownsRow wo.heap.size 2 1 (.slice (some ⟨q, 0, none⟩) (j + 1) c1) (j + 1) (ints (absTo f k (j + 1))) ∧
      (∀ i, k < i → i < n → (w1.setCell ⟨w.heap.size, k, none⟩ (.slice (some ⟨q, 0, none⟩) (j + 1) c1)).cell? ⟨w.heap.size, i, none⟩ = some (.slice none 0 0)) ∧
      (∀ i, i < n → (w1.setCell ⟨w.heap.size, k, none⟩ (.slice (some ⟨q, 0, none⟩) (j + 1) c1)).frozen? ⟨w.heap.size, i, none⟩ = false) := by
  have hne : some w.heap.size ≠ (Value.slice A j c).ownBlock := own_ne hox hlt0
  have hblk : w1.heap[w.heap.size]? = wr.heap[w.heap.size]? := (hg.block _ (by simp; omega) hne).trans (Below.heap_alloc _ _ _ (by omega))
  have hs1 := hg.size
  simp at hs1
  refine ⟨?_, ?_, ?_, ?_, ?_, ?_, ?_⟩
  · exact ((hmx.alloc hsx o).grown (by simp; omega) hg (fun b hb => .inr (hox.lt b hb).1)).outside (Nat.le_refl _) _
  · exact ((hbx.alloc (by omega) o).grown hg (by simp; omega) (fun b hb => by have := (hox.lt b hb).1; omega)).setCell (Nat.le_refl _) _
  · simp [World.setCell]; omega
  · exact World.cell?_setCell_same _ _ _ ((World.cell?_of_block (a := ⟨w.heap.size, k, none⟩) hblk).trans hcx)
  · rw [hY, ints, List.map_append]
    exact ownsRow_setCell_below ho (a := ⟨w.heap.size, k, none⟩) hlt0 _
  · intro i h1 h2
    rw [World.cell?_setCell_other _ _ _ _ (by intro e; injection e with _ e2; omega)]
    exact (World.cell?_of_block (a := ⟨w.heap.size, i, none⟩) hblk).trans (hnx i h1 h2)
  · intro i h
    rw [World.frozen?_setCell]
    exact (World.frozen?_of_block (a := ⟨w.heap.size, i, none⟩) hblk).trans (hfx i h)

theorem room_row {w wo wr : World} {k n c : Nat} {A : Option Addr} {row' cp' : Nat → Nat} {f : Nat → Nat → Int} (hsx : wo.heap.size ≤ wr.heap.size) (hlt0 : w.heap.size < wo.heap.size)
    (hmx : Mat wr w.heap.size wo.heap.size w.heap.size k n row' cp' (fun i j => absI (f i j))) (hox : wr.ownsRow wo.heap.size 2 1 (.slice A n c) n (ints (absTo f k n)))
    (hcx : wr.cell? ⟨w.heap.size, k, none⟩ = some (.slice A n c)) (hkn : 0 < n) :
    ∃ row2 cp2, Mat wr w.heap.size wr.heap.size w.heap.size (k + 1) n row2 cp2 (fun i j => absI (f i j)) := by
  rcases hox.2 with ⟨_, h⟩ | ⟨q, cap, cur, h, h1, h2, h3, h4, h5, h6⟩
  · omega
  · obtain ⟨rfl, rfl⟩ : A = some ⟨q, 0, none⟩ ∧ c = cap := by injection h with a b c; exact ⟨a, c⟩
    have hq := (Array.getElem?_eq_some_iff.1 h2).1
    have hm2 := (hmx.more (Nat.le_refl _) hsx).push (r := q) (c := c) (x := fun j => absI (f k j)) ⟨by omega, hq, by omega⟩ (fun i hi e => by have := (hmx.rlo i hi).2.1; omega) h3 hcx
      (fun j hj => ⟨by rw [hox.cellAt j (by omega)]; simp [absTo, hj], hox.frozenAt j⟩)
    refine ⟨_, _, hm2.ext (fun a b _ _ => ?_)⟩
    by_cases e : a = k
    · subst e; simp
    · simp [e]

set_option maxRecDepth 100000 in
set_option maxHeartbeats 1000000 in
theorem room_any (B T g n : Nat) (row cp : Nat → Nat) (f : Nat → Nat → Int) (w : World) (hn : n ≤ 200) (hf : ∀ i j, -1000 ≤ f i j ∧ f i j ≤ 1000) (hm : Mat w B T g n n row cp f) (hT : T ≤ w.heap.size) :
    Calls Try.prog 38 #[.slice (some ⟨g, 0, none⟩) n n] w fun e w' => ∃ g' row' cp', e = .returned (.slice (some ⟨g', 0, none⟩) n n) ∧ Mat w' w.heap.size w'.heap.size g' n n row' cp' (fun i j => absI (f i j)) ∧ Below w.heap.size w w' := by
  have hm2 := fun W => make66 n (by omega) W
  obtain ⟨i0, hi, hz0, hz1, hz2⟩ := info_parts Try.info2
  have Hi := Lib.hid (show Try.prog.info? 2 = some i0 ∧ i0.zero = some _ ∧ i0.size = 1 ∧ i0.bytes = 8 from ⟨hi, hz0, hz1, hz2⟩)
  clear hi hz0 hz1 hz2
  have Hm := Lib.hid hm
  have Hf := Lib.hid hf
  clear hm hf
  go_enter Try.func38, Try.ntmps38
  go_wp2
  clear hm2
  go_loopw [12] (fun m wr => ∃ (k : Nat) (row' cp' : Nat → Nat), k ≤ n ∧ m = .int .i64 k ∧ Mat wr w.heap.size wr.heap.size w.heap.size k n row' cp' (fun i j => absI (f i j)) ∧ Below w.heap.size w wr ∧
      (∀ i, k ≤ i → i < n → wr.cell? ⟨w.heap.size, i, none⟩ = some (.slice none 0 0)) ∧ (∀ i, i < n → wr.frozen? ⟨w.heap.size, i, none⟩ = false)) (fun m _ => n - (intOf m).toNat)
  case atStart =>
    exact ⟨0, _, _, Nat.zero_le _, rfl, (Mat.none_ (Nat.le_refl _) (by simp)).ext (fun i j hi _ => absurd hi (by omega)), (Below.refl _ _).alloc (Nat.le_refl _) _, fun i _ hi => ((Blk.new w 74 (nils n)).cell i).trans (nils_get hi), fun i hi => (Blk.new w 74 (nils n)).frozen i⟩
  case round =>
    obtain ⟨k, row', cp', hk, rfl, hmr, hbr, hnil, hfz⟩ := hrel
    have Hmr := Lib.hid hmr
    have Hbr := Lib.hid hbr
    have hsz := hbr.size
    have hlt0 := hmr.hi
    have Hnil := Lib.hid hnil
    have Hfz := Lib.hid hfz
    clear hmr hbr hnil hfz
    by_cases hlt : k < n
    · have m1 := (Hm.out.call Hbr.out hT).outer k hlt
      go_wp2
      obtain ⟨wo, rfl⟩ : ∃ wo : World, wo = wr := ⟨_, rfl⟩
      go_loopw [20, 6] (fun jj _ wx => ∃ (j : Nat) (A : Option Addr) (c : Nat), j ≤ n ∧ jj = .int .i64 j ∧ Mat wx w.heap.size wo.heap.size w.heap.size k n row' cp' (fun i j => absI (f i j)) ∧ Below w.heap.size w wx ∧ wo.heap.size ≤ wx.heap.size ∧
          wx.cell? ⟨w.heap.size, k, none⟩ = some (.slice A j c) ∧ wx.ownsRow wo.heap.size 2 1 (.slice A j c) j (ints (absTo f k j)) ∧
          (∀ i, k < i → i < n → wx.cell? ⟨w.heap.size, i, none⟩ = some (.slice none 0 0)) ∧ (∀ i, i < n → wx.frozen? ⟨w.heap.size, i, none⟩ = false)) (fun jj _ _ => n - (intOf jj).toNat)
      case atStart => exact ⟨0, none, 0, Nat.zero_le _, rfl, Hmr.out, Hbr.out, Nat.le_refl _, Hnil.out k (Nat.le_refl _) hlt, World.ownsRow_nil _ _ _ _, fun i h1 h2 => Hnil.out i (by omega) h2, Hfz.out⟩
      case round =>
        obtain ⟨j, A, c, hj, rfl, hmx, hbx, hsx, hcx, hox, hnx, hfx⟩ := hrel
        have Hmx := Lib.hid hmx
        have Hbx := Lib.hid hbx
        have Hox := Lib.hid hox
        have Hnx := Lib.hid hnx
        have fx := hfx k hlt
        have Hfx := Lib.hid hfx
        clear hmx hbx hox hnx hfx
        by_cases hjn : j < n
        · have m2 := (Hm.out.call Hbx.out hT).inner k j hlt hjn
          have hx0 := Hf.out k j
          obtain ⟨x, hx⟩ : ∃ x, x = f k j := ⟨_, rfl⟩
          rw [← hx] at m2 hx0
          have Hx := Lib.hid hx
          clear hx
          by_cases hx1 : 0 ≤ x
          · have hY : absTo f k (j + 1) = absTo f k j ++ [x] := by rw [absTo_succ, ← Hx.out]; unfold absI; rw [if_pos hx1]
            have HY := Lib.hid hY
            clear hY
            go_wp2_with (at_builtin; refine wpList_append_own _ rfl _ _ 74 rfl wo.heap.size 2 i0 _ 1 8 Try.underlying74 Hi.out.1 Hi.out.2.1 Hi.out.2.2.1 Hi.out.2.2.2 rfl (by omega) (.slice A j c) j (ints (absTo f k j)) rfl (Hox.out.alloc _) ⟨wr.heap.size, 0, none⟩ 1 1 [.int .i64 (x)] rfl rfl (cell_one_new _ _ _) (ints_oneCell .i64 [x]) (by simp [maxLen]; omega) (by omega) (by simp; omega) ?_; intro v1 w1 ho hg _; obtain ⟨q, c1, hv1⟩ : ∃ q c1, v1 = .slice (some ⟨q, 0, none⟩) (j + 1) c1 := (own_form ho); rw [hv1]; rw [hv1] at ho; have hne : some w.heap.size ≠ (Value.slice A j c).ownBlock := own_ne Hox.out hlt0; have d1 : w1.cell? ⟨w.heap.size, k, none⟩ = some (.slice A j c) := hg.cell ((World.cell?_alloc_lt _ _ _ (by simp; omega)).trans hcx) hne; have d2 : w1.frozen? ⟨w.heap.size, k, none⟩ = false := (World.frozen?_of_block ((hg.block _ (by simp; omega) hne).trans (Below.heap_alloc _ _ _ (by omega)))).trans fx; have Ho := Lib.hid ho; have Hg := Lib.hid hg; have Hv := Lib.hid hv1; clear ho hg hne hv1)
            go_roundw
            case rel => exact ⟨j + 1, _, c1, by omega, by go_num, room_step hsx hlt0 hlt hn Hmx.out Hbx.out Hox.out Hnx.out Hfx.out hcx HY.out Ho.out Hg.out⟩
            case measure => simp [intOf]; omega
          · have hY : absTo f k (j + 1) = absTo f k j ++ [-x] := by rw [absTo_succ, ← Hx.out]; unfold absI; rw [if_neg hx1]
            have HY := Lib.hid hY
            clear hY
            go_wp2_with (at_builtin; refine wpList_append_own _ rfl _ _ 74 rfl wo.heap.size 2 i0 _ 1 8 Try.underlying74 Hi.out.1 Hi.out.2.1 Hi.out.2.2.1 Hi.out.2.2.2 rfl (by omega) (.slice A j c) j (ints (absTo f k j)) rfl (Hox.out.alloc _) ⟨wr.heap.size, 0, none⟩ 1 1 [.int .i64 (-x)] rfl rfl (cell_one_new _ _ _) (ints_oneCell .i64 [-x]) (by simp [maxLen]; omega) (by omega) (by simp; omega) ?_; intro v1 w1 ho hg _; obtain ⟨q, c1, hv1⟩ : ∃ q c1, v1 = .slice (some ⟨q, 0, none⟩) (j + 1) c1 := (own_form ho); rw [hv1]; rw [hv1] at ho; have hne : some w.heap.size ≠ (Value.slice A j c).ownBlock := own_ne Hox.out hlt0; have d1 : w1.cell? ⟨w.heap.size, k, none⟩ = some (.slice A j c) := hg.cell ((World.cell?_alloc_lt _ _ _ (by simp; omega)).trans hcx) hne; have d2 : w1.frozen? ⟨w.heap.size, k, none⟩ = false := (World.frozen?_of_block ((hg.block _ (by simp; omega) hne).trans (Below.heap_alloc _ _ _ (by omega)))).trans fx; have Ho := Lib.hid ho; have Hg := Lib.hid hg; have Hv := Lib.hid hv1; clear ho hg hne hv1)
            go_roundw
            case rel => exact ⟨j + 1, _, c1, by omega, by go_num, room_step hsx hlt0 hlt hn Hmx.out Hbx.out Hox.out Hnx.out Hfx.out hcx HY.out Ho.out Hg.out⟩
            case measure => simp [intOf]; omega
        · obtain rfl : j = n := by omega
          have hr := room_row hsx hlt0 Hmx.out Hox.out hcx (by omega)
          have Hr := Lib.hid hr
          clear hr
          go_wp2
          go_roundw
          case rel =>
            obtain ⟨r', c', h⟩ := Hr.out
            exact ⟨k + 1, r', c', by omega, by go_num, h, Hbx.out, fun i h1 h2 => Hnx.out i (by omega) h2, Hfx.out⟩
          case measure => simp [intOf]; omega
    · obtain rfl : k = n := by omega
      go_wp2
      go_ret
      exact ⟨w.heap.size, row', cp', rfl, Hmr.out, Hbr.out⟩
end Go.Proofs.Ytmjicfafjjgekaa
