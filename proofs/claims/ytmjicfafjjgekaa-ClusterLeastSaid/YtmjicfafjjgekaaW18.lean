/- W18: the walk of drossref54.Of. -/
import Derived.Test.YtmjicfafjjgekaaW4
import Derived.Test.YtmjicfafjjgekaaOpen2
import Derived.Deep.AppendLies
namespace Go.Proofs.Ytmjicfafjjgekaa
open Go.RowKit Go.Dr

def ofStep (ws : List Int) (i k : Nat) (s : List P3 × Nat) : List P3 × Nat :=
  (if s.2 < ws.length ∧ ws.getD s.2 0 ≠ 0 then s.1 ++ [⟨i, k, ws.getD s.2 0⟩] else s.1, s.2 + 1)
def ofJ (ws : List Int) (i : Nat) (s : List P3 × Nat) : Nat → List P3 × Nat
  | 0 => s
  | c + 1 => ofStep ws i (i + 1 + c) (ofJ ws i s c)
def ofI (ws : List Int) (n : Nat) : Nat → List P3 × Nat
  | 0 => ([], 0)
  | c + 1 => ofJ ws c (ofI ws n c) (n - c - 1)
def ofL (n : Nat) (ws : List Int) : List P3 := (ofI ws n n).1
theorem ofStep_bd {ws : List Int} {i k m : Nat} {s : List P3 × Nat} (h : s.1.length ≤ s.2 ∧ s.2 ≤ m) : (ofStep ws i k s).1.length ≤ (ofStep ws i k s).2 ∧ (ofStep ws i k s).2 ≤ m + 1 := by
  unfold ofStep
  refine ⟨?_, by simp; omega⟩
  simp only
  split
  · simp; omega
  · omega

theorem own_slice {w : World} {base e size n : Nat} {v : Value} {xs : List Value} (h : w.ownsRow base e size v n xs) : ∃ A c, v = .slice A n c := by
  rcases h.2 with ⟨h, h0⟩ | ⟨g, cap, cur, h, _⟩
  · exact ⟨none, 0, by rw [h, h0]⟩
  · exact ⟨_, _, h⟩

set_option maxRecDepth 100000 in
set_option maxHeartbeats 1000000 in
theorem of_no (N : Nat) (A : Option Addr) (len cap most : Nat) (w : World) (hN : N ≤ 255) (hm : most < N) (_hm2 : most ≤ 10) :
    Calls Try.prog 15 #[.agg #[.int .u8 (N : Int), .slice A len cap], .int .i64 (most : Int)] w fun e w' => e = .returned (.tuple #[.int .i64 0, .slice none 0 0, .bool false]) ∧ Below w.heap.size w w' := by
  go_enter Try.func15, Try.ntmps15
  go_wp2_with fail
  go_ret3
  exact ⟨rfl, (Below.refl _ _).alloc (Nat.le_refl _) _⟩

set_option maxRecDepth 100000 in
set_option maxHeartbeats 1000000 in
theorem of_yes (N : Nat) (A : Option Addr) (cap most : Nat) (ws : List Int) (w : World) (hm : N ≤ most) (hm2 : most ≤ 10) (hlen : ws.length ≤ 9223372036854775807) (hrow : RowAt w w.heap.size A (ws.map (Value.int .i8))) (hwf : ∀ x ∈ ws, -128 ≤ x ∧ x ≤ 127) :
    Calls Try.prog 15 #[.agg #[.int .u8 (N : Int), .slice A ws.length cap], .int .i64 (most : Int)] w fun e w' => ∃ A' c', e = .returned (.tuple #[.int .i64 (N : Int), .slice A' (ofL N ws).length c', .bool true]) ∧
      RowAt w' w'.heap.size A' ((ofL N ws).flatMap pc) ∧ (A' = none → ofL N ws = []) ∧ Below w.heap.size w w' := by
  obtain ⟨i0, hi, hz0, hz1, hz2⟩ := info_parts Try.info28
  have Hi := Lib.hid (show Try.prog.info? 28 = some i0 ∧ i0.zero = some _ ∧ i0.size = 3 ∧ i0.bytes = 24 from ⟨hi, hz0, hz1, hz2⟩)
  have Hrow := Lib.hid hrow
  have Hwf := Lib.hid hwf
  clear hi hz0 hz1 hz2 hrow hwf
  have hd0 : decide (most < N) = false := by simp; omega
  go_enter Try.func15, Try.ntmps15
  go_wp2_with fail
  go_loopw [10, 9, 8] (fun ii mm v wr => ∃ i : Nat, i ≤ N ∧ ii = .int .i64 i ∧ mm = .int .i64 ((ofI ws N i).2 : Int) ∧ (ofI ws N i).1.length ≤ (ofI ws N i).2 ∧ (ofI ws N i).2 ≤ i * 10 ∧
      wr.ownsRow (w.heap.size + 1) 28 3 v (ofI ws N i).1.length ((ofI ws N i).1.flatMap pc) ∧ Blk wr w.heap.size 32 #[.int .u8 (N : Int), .slice A ws.length cap] ∧ Below w.heap.size w wr) (fun ii _ _ _ => N - (intOf ii).toNat)
  case atStart => exact ⟨0, Nat.zero_le _, rfl, rfl, by simp [ofI], by simp [ofI], World.ownsRow_nil _ _ _ _, Blk.new w 32 _, (Below.refl _ _).alloc (Nat.le_refl _) _⟩
  case round =>
    obtain ⟨i, hi, rfl, rfl, hl1, hl2, hown, hblk, hb⟩ := hrel
    obtain ⟨si, hsi⟩ : ∃ si, si = ofI ws N i := ⟨_, rfl⟩
    rw [← hsi] at hl1 hl2 hown ⊢
    have Hsi := Lib.hid hsi
    have Hown := Lib.hid hown
    have Hblk := Lib.hid hblk
    have Hb := Lib.hid hb
    clear hsi hown hblk hb
    by_cases hin : i < N
    · go_wp2_with fail
      obtain ⟨wo, rfl⟩ : ∃ wo : World, wo = wr := ⟨_, rfl⟩
      go_loopw [11, 9, 8] (fun kk mm v wr => ∃ c : Nat, c ≤ N - i - 1 ∧ kk = .int .i64 ((i + 1 + c : Nat) : Int) ∧ mm = .int .i64 ((ofJ ws i si c).2 : Int) ∧ (ofJ ws i si c).1.length ≤ (ofJ ws i si c).2 ∧ (ofJ ws i si c).2 ≤ i * 10 + c ∧
          wr.ownsRow (w.heap.size + 1) 28 3 v (ofJ ws i si c).1.length ((ofJ ws i si c).1.flatMap pc) ∧ Blk wr w.heap.size 32 #[.int .u8 (N : Int), .slice A ws.length cap] ∧ Below w.heap.size w wr) (fun kk _ _ _ => N - (intOf kk).toNat)
      case atStart => exact ⟨0, Nat.zero_le _, by go_num, rfl, hl1, hl2, Hown.out, Hblk.out, Hb.out⟩
      case round =>
        obtain ⟨c, hc, rfl, rfl, hj1, hj2, hown, hblk, hb⟩ := hrel
        have hst : ofJ ws i si (c + 1) = ofStep ws i (i + 1 + c) (ofJ ws i si c) := rfl
        obtain ⟨sj, hsj⟩ : ∃ sj, sj = ofJ ws i si c := ⟨_, rfl⟩
        rw [← hsj] at hj1 hj2 hown hst ⊢
        obtain ⟨k, hk⟩ : ∃ k, k = i + 1 + c := ⟨_, rfl⟩
        rw [← hk] at hst ⊢
        have hbd := ofStep_bd (ws := ws) (i := i) (k := k) ⟨hj1, hj2⟩
        rw [← hst] at hbd
        have Hbd := Lib.hid hbd
        have Hst := Lib.hid hst
        have Hk := Lib.hid hk
        have Hsj := Lib.hid hsj
        have Hown1 := Lib.hid hown
        have Hblk1 := Lib.hid hblk
        have Hb1 := Lib.hid hb
        have b1 := hblk.cell 1
        simp at b1
        have hsz := hb.size
        have hbl := hblk.lt
        obtain ⟨m, hm⟩ : ∃ m, m = sj.2 := ⟨_, rfl⟩
        rw [← hm] at hj1 hj2 ⊢
        have Hm := Lib.hid hm
        clear hst hk hsj hown hblk hb hbd hm
        by_cases hkN : k < N
        · by_cases hmw : m < ws.length
          · obtain ⟨x, hx⟩ : ∃ x, ws[m]? = some x := ⟨_, List.getElem?_eq_getElem hmw⟩
            have hxb := Hwf.out x (List.mem_of_getElem? hx)
            obtain ⟨b, off, rfl, hbb, d1⟩ := (Hrow.out.below Hb1.out).at1 (k := m) (u := .int .i8 x) (by simp [hx])
            have hgd : ws.getD m 0 = x := by simp [hx]
            have Hgd := Lib.hid hgd
            clear hx hgd
            by_cases hx0 : x = 0
            · subst hx0
              have hno : ofJ ws i si (c + 1) = (sj.1, m + 1) := by rw [Hst.out, ofStep, if_neg (by rw [← Hm.out, Hgd.out]; simp), ← Hm.out]
              have Hno := Lib.hid hno
              clear hno
              go_wp2_with fail
              go_roundw
              case rel => exact ⟨c + 1, by have := Hk.out; omega, by have := Hk.out; go_num, by rw [Hno.out]; go_num, by rw [Hno.out]; simp; omega, by rw [Hno.out]; simp; omega, by rw [Hno.out]; exact Hown1.out, Hblk1.out, Hb1.out⟩
              case measure => simp [intOf]; omega
            · have hxn : (x != 0) = true := by simpa using hx0
              have hyes : ofJ ws i si (c + 1) = (sj.1 ++ [⟨i, k, x⟩], m + 1) := by rw [Hst.out, ofStep, if_pos (by rw [← Hm.out, Hgd.out]; exact ⟨hmw, hx0⟩), ← Hm.out, Hgd.out]
              have Hyes := Lib.hid hyes
              have hbw : b < wr.heap.size := by omega
              clear hyes hx0
              go_wp2_with (at_builtin; refine wpList_append_own _ rfl _ _ 22 rfl (w.heap.size + 1) 28 i0 _ 3 24 Try.underlying22 Hi.out.1 Hi.out.2.1 Hi.out.2.2.1 Hi.out.2.2.2 rfl (by omega) u8 sj.1.length (sj.1.flatMap pc) rfl (Hown1.out.alloc _) ⟨wr.heap.size, 0, none⟩ 1 1 [.int .i64 (i : Int), .int .i64 (k : Int), .int .i64 x] rfl rfl (World.news_of_block (Blk.new wr 28 #[.int .i64 (i : Int), .int .i64 (k : Int), .int .i64 x])) (by simp [Value.oneCell']) (by simp [maxLen]; omega) (by omega) (by simp; omega) ?_; intro v1 w1 ho hg _; have Ho := Lib.hid ho; have Hg := Lib.hid hg; clear ho hg)
              go_roundw
              case rel =>
                have hrw : ∀ g, u8.ownBlock = some g → w.heap.size + 1 ≤ g := fun g e => (Hown1.out.lt g e).1
                have r1 : w1.ownsRow (w.heap.size + 1) 28 3 v1 (ofJ ws i si (c + 1)).1.length ((ofJ ws i si (c + 1)).1.flatMap pc) := by
                  rw [Hyes.out]
                  have := Ho.out
                  simpa [pc] using this
                have r2 : Blk w1 w.heap.size 32 #[.int .u8 (N : Int), .slice (some ⟨b, off, none⟩) ws.length cap] := (Hblk1.out.alloc _).grown Hg.out (fun e => by have := hrw _ e.symm; omega)
                have r3 : Below w.heap.size w w1 := (Hb1.out.alloc hsz _).grown Hg.out (by simp; omega) (fun g e => by have := hrw g e; omega)
                have r4 : (ofJ ws i si (c + 1)).1.length ≤ (ofJ ws i si (c + 1)).2 := Hbd.out.1
                have r5 : (ofJ ws i si (c + 1)).2 ≤ i * 10 + (c + 1) := Hbd.out.2
                have r6 : (Value.int IntKind.i64 ((m : Int) + 1)) = .int .i64 ((ofJ ws i si (c + 1)).2 : Int) := by rw [Hyes.out]; go_num
                have r7 : (Value.int IntKind.i64 ((k : Int) + 1)) = .int .i64 ((i + 1 + (c + 1) : Nat) : Int) := by have := Hk.out; go_num
                first
                  | exact ⟨c + 1, by have := Hk.out; omega, r7, r6, r4, r5, r1, r2, r3⟩
                  | ((repeat apply Exists.intro); exact ⟨⟨c + 1, by have := Hk.out; omega, r7, r6, r4, r5, r1, r2, r3⟩, rfl⟩)
              case measure => simp [intOf]; omega
          · have hno : ofJ ws i si (c + 1) = (sj.1, m + 1) := by rw [Hst.out, ofStep, if_neg (by rw [← Hm.out]; exact fun h => hmw h.1), ← Hm.out]
            have Hno := Lib.hid hno
            clear hno
            go_wp2_with fail
            go_roundw
            case rel => exact ⟨c + 1, by have := Hk.out; omega, by have := Hk.out; go_num, by rw [Hno.out]; go_num, by rw [Hno.out]; simp; omega, by rw [Hno.out]; simp; omega, by rw [Hno.out]; exact Hown1.out, Hblk1.out, Hb1.out⟩
            case measure => simp [intOf]; omega
        · have hce : c = N - i - 1 := by have := Hk.out; omega
          have hfin : ofI ws N (i + 1) = sj := by rw [ofI, ← Hsi.out, ← hce, ← Hsj.out]
          have Hfin := Lib.hid hfin
          have hc9 : c ≤ 10 := by omega
          clear hce hfin
          go_wp2_with fail
          go_roundw
          case rel => exact ⟨i + 1, by omega, by go_num, by rw [Hfin.out, Hm.out], by rw [Hfin.out, ← Hm.out]; omega, by rw [Hfin.out, ← Hm.out]; omega, by rw [Hfin.out]; exact Hown1.out, Hblk1.out, Hb1.out⟩
          case measure => simp [intOf]; omega
    · obtain rfl : i = N := by omega
      go_wp2_with fail
      go_ret3
      have e : ofL i ws = si.1 := by unfold ofL; rw [Hsi.out]
      obtain ⟨A', c', hv⟩ := own_slice Hown.out
      have ho := Hown.out
      rw [hv] at ho
      refine ⟨A', c', by rw [e, ← hv]; rfl, by rw [e]; exact RowAt.of_own ho, fun hA => ?_, Hb.out⟩
      rw [e]
      rcases ho.2 with ⟨_, h0⟩ | ⟨g, cap, cur, h, _⟩
      · exact List.eq_nil_of_length_eq_zero h0
      · rw [hA] at h; cases h
end Go.Proofs.Ytmjicfafjjgekaa
