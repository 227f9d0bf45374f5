/- W10: the walk of cluster.charge. -/
import Derived.Test.YtmjicfafjjgekaaW8
import Derived.Test.YtmjicfafjjgekaaBut
namespace Go.Proofs.Ytmjicfafjjgekaa
open Go.RowKit Go.Dr

def stepF (a : Int) (h : Nat → Nat → Int) (p : Nat × Nat) : Nat → Nat → Int := fun x y => if x = p.1 ∧ y = p.2 then h x y - a else h x y
def chargeF (h : Nat → Nat → Int) (i j k : Nat) (a : Int) : Nat → Nat → Int := [(i, j), (i, k), (j, k)].foldl (stepF a) h

set_option maxRecDepth 100000 in
set_option maxHeartbeats 1000000 in
theorem charge_any (B T g n : Nat) (row cp : Nat → Nat) (h : Nat → Nat → Int) (w : World) (_hn : n ≤ 200) (i j k : Nat) (a : Int) (hi : i < n) (hj : j < n) (hk : k < n) (ha0 : 0 ≤ a) (ha1 : a ≤ 1000)
    (hh : ∀ x y, -1000000 ≤ h x y ∧ h x y ≤ 1000000) (hm : Mat w B T g n n row cp h) (hT : T ≤ w.heap.size) :
    Calls Try.prog 40 #[.slice (some ⟨g, 0, none⟩) n n, .agg #[.int .i64 (i : Int), .int .i64 (j : Int), .int .i64 (k : Int), .int .i64 a]] w fun e w' =>
      e = .returned (.tuple #[]) ∧ Mat w' B T g n n row cp (chargeF h i j k a) ∧ But B T w w' := by
  have Hm := Lib.hid hm
  have Hh := Lib.hid hh
  clear hm hh
  go_enter Try.func40, Try.ntmps40
  go_wp2
  go_loopw [23] (fun v wr => ∃ m : Nat, m ≤ 3 ∧ v = .int .i64 m ∧ Mat wr B T g n n row cp (([(i, j), (i, k), (j, k)].take m).foldl (stepF a) h) ∧ But B T w wr ∧ w.heap.size + 1 < wr.heap.size ∧
      wr.cell? ⟨w.heap.size, 3, none⟩ = some (.int .i64 a) ∧ Blk wr (w.heap.size + 1) 63 #[.int .i64 (i : Int), .int .i64 (j : Int), .int .i64 (i : Int), .int .i64 (k : Int), .int .i64 (j : Int), .int .i64 (k : Int)] ∧
      (∀ x y, -1000000 - 1000 * (m : Int) ≤ (([(i, j), (i, k), (j, k)].take m).foldl (stepF a) h) x y ∧ (([(i, j), (i, k), (j, k)].take m).foldl (stepF a) h) x y ≤ 1000000)) (fun v _ => 3 - (intOf v).toNat)
  case atStart =>
    refine ⟨0, by omega, rfl, (Hm.out.alloc hT _).alloc (by simp; omega) _, ((But.refl _ _ _).alloc _).alloc _, by simp, ?_, ?_, fun x y => by have := Hh.out x y; simpa using this⟩
    · exact ((Blk.new w 56 _).alloc _).cell 3
    · have := Blk.new (w.alloc (.cells #[.int .i64 (i : Int), .int .i64 (j : Int), .int .i64 (k : Int), .int .i64 a] 56)) 63 #[.int .i64 (i : Int), .int .i64 (j : Int), .int .i64 (i : Int), .int .i64 (k : Int), .int .i64 (j : Int), .int .i64 (k : Int)]
      simpa using this
  case round =>
    obtain ⟨m, hm3, rfl, hmr, hbr, hsz, ca, hblk, hbd⟩ := hrel
    have Hbr := Lib.hid hbr
    have Hblk := Lib.hid hblk
    by_cases hlt : m < 3
    · obtain ⟨⟨x, y⟩, hxy⟩ : ∃ p, [(i, j), (i, k), (j, k)][m]? = some p := ⟨_, List.getElem?_eq_getElem (by simpa using hlt)⟩
      have hmem := List.mem_of_getElem? hxy
      have hxn : x < n ∧ y < n := by
        simp at hmem
        rcases hmem with ⟨rfl, rfl⟩ | ⟨rfl, rfl⟩ | ⟨rfl, rfl⟩ <;> exact ⟨by assumption, by assumption⟩
      obtain ⟨hx, hy⟩ := hxn
      have p0 : wr.cell? ⟨w.heap.size + 1, m * 2, none⟩ = some (.int .i64 (x : Int)) := by
        rw [hblk.cell]
        match m, hlt, hxy with
        | 0, _, h => simp at h; simp [h.1]
        | 1, _, h => simp at h; simp [h.1]
        | 2, _, h => simp at h; simp [h.1]
      have p1 : wr.cell? ⟨w.heap.size + 1, m * 2 + 1, none⟩ = some (.int .i64 (y : Int)) := by
        rw [hblk.cell]
        match m, hlt, hxy with
        | 0, _, h => simp at h; simp [h.2]
        | 1, _, h => simp at h; simp [h.2]
        | 2, _, h => simp at h; simp [h.2]
      have hst : [(i, j), (i, k), (j, k)].take (m + 1) = [(i, j), (i, k), (j, k)].take m ++ [(x, y)] := take_snoc hxy
      obtain ⟨h', hh'⟩ : ∃ h', h' = ([(i, j), (i, k), (j, k)].take m).foldl (stepF a) h := ⟨_, rfl⟩
      have hst2 : ([(i, j), (i, k), (j, k)].take (m + 1)).foldl (stepF a) h = stepF a h' (x, y) := by rw [hst, List.foldl_append, hh']; rfl
      rw [← hh'] at hmr hbd
      have Hst := Lib.hid hst2
      have Hmr := Lib.hid hmr
      have Hbd := Lib.hid hbd
      clear hst hst2 hh' hxy hmem hmr hbr hblk hbd
      go_wp2
      have q1 : (wr.alloc (.cells #[.int .i64 (x : Int), .int .i64 (y : Int)] 63)).cell? ⟨wr.heap.size, 0, none⟩ = some (.int .i64 (x : Int)) := (Blk.new wr _ _).cell 0
      have q2 : (wr.alloc (.cells #[.int .i64 (x : Int), .int .i64 (y : Int)] 63)).cell? ⟨wr.heap.size, 1, none⟩ = some (.int .i64 (y : Int)) := (Blk.new wr _ _).cell 1
      have q3 : (wr.alloc (.cells #[.int .i64 (x : Int), .int .i64 (y : Int)] 63)).cell? ⟨w.heap.size, 3, none⟩ = some (.int .i64 a) := (World.cell?_alloc_lt _ _ _ (by simp; omega)).trans ca
      have hTr : T ≤ wr.heap.size := by omega
      have hmy := Hmr.out.alloc hTr (.cells #[.int .i64 (x : Int), .int .i64 (y : Int)] 63)
      have hby := Hbr.out.alloc (.cells #[.int .i64 (x : Int), .int .i64 (y : Int)] 63)
      have hkb := Hblk.out.alloc (.cells #[.int .i64 (x : Int), .int .i64 (y : Int)] 63)
      have hsy : wr.heap.size + 1 = (wr.alloc (.cells #[.int .i64 (x : Int), .int .i64 (y : Int)] 63)).heap.size := by simp
      have Hmy := Lib.hid hmy
      have Hby := Lib.hid hby
      have Hkb := Lib.hid hkb
      have Hsy := Lib.hid hsy
      clear hmy hby Hmr Hbr ca p0 p1 hkb Hblk hsy
      generalize wr.alloc (.cells #[.int .i64 (x : Int), .int .i64 (y : Int)] 63) = w1 at *
      have m1 := Hmy.out.outer x hx
      have m3 := Hmy.out.inner x y hx hy
      have m5 := Hmy.out.thaw x y hx hy
      have r1 := Hmy.out.rlo x hx
      have hb0 := Hbd.out x y
      obtain ⟨z, hz⟩ : ∃ z, z = h' x y := ⟨_, rfl⟩
      rw [← hz] at m3 hb0
      have Hz := Lib.hid hz
      clear hz
      have hwr := wrap_in (x := z - a) (by omega) (by omega)
      go_region
      clear hwr
      go_wp2
      go_roundw
      case rel =>
        have hb1 := Hby.out.size
        refine ⟨m + 1, by omega, by go_num, ?_, (Hby.out.setCell (p := ⟨row x, y, none⟩) (.inl ⟨r1.1, r1.2.1⟩) _).drew, ?_, ?_, ?_, ?_⟩
        · rw [Hst.out]
          refine ((Hmy.out.set_ (j := y) hx (z - a)).ext ?_).drew
          intro p q _ _
          by_cases e : p = x ∧ q = y
          · obtain ⟨rfl, rfl⟩ := e; simp [stepF, Hz.out]
          · simp [stepF, e]
        · have := Hsy.out; simp [World.setCell]; omega
        · show (w1.setCell _ _).cell? _ = _
          rw [World.cell?_setCell_other _ _ _ _ (by intro e; injection e with e1; omega)]
          exact q3
        · exact (Hkb.out.far (p := ⟨row x, y, none⟩) (by show _ ≠ row x; omega) _).drew
        · intro p q
          rw [Hst.out]
          have h1 := Hbd.out p q
          have e : (((m + 1 : Nat)) : Int) = (m : Int) + 1 := by omega
          rw [e]
          unfold stepF
          split <;> omega
      case measure => simp [intOf]; omega
    · obtain rfl : m = 3 := by omega
      have Hmr := Lib.hid hmr
      clear hmr hbr hblk hbd
      go_wp2
      go_end0
      exact ⟨rfl, Hmr.out, Hbr.out⟩
end Go.Proofs.Ytmjicfafjjgekaa
