/- W14: the walk of cluster.Bound. -/
import Derived.Test.YtmjicfafjjgekaaW3
import Derived.Test.YtmjicfafjjgekaaW7
import Derived.Test.YtmjicfafjjgekaaW9
import Derived.Test.YtmjicfafjjgekaaW10
import Derived.Deep.RegionLaw
import Derived.Deep.AppendLies
namespace Go.Proofs.Ytmjicfafjjgekaa
open Go.RowKit Go.Dr

structure BSt where
  left : Nat → Nat → Int
  out : List T4
  sum : Int
def min3 (x y z : Int) : Int := min (min x y) z
def bStep (f : Nat → Nat → Int) (i j k : Nat) (s : BSt) : BSt :=
  if decide (0 < min3 (s.left i j) (s.left i k) (s.left j k)) && badB (f i j) (f i k) (f j k) then
    ⟨chargeF s.left i j k (min3 (s.left i j) (s.left i k) (s.left j k)), s.out ++ [⟨i, j, k, min3 (s.left i j) (s.left i k) (s.left j k)⟩], s.sum + min3 (s.left i j) (s.left i k) (s.left j k)⟩
  else s
def bK (f : Nat → Nat → Int) (i j : Nat) (s : BSt) : Nat → BSt
  | 0 => s
  | c + 1 => bStep f i j (j + 1 + c) (bK f i j s c)
def bJ (f : Nat → Nat → Int) (n i : Nat) (s : BSt) : Nat → BSt
  | 0 => s
  | c + 1 => bK f i (i + 1 + c) (bJ f n i s c) (n - (i + 1 + c) - 1)
def bI (f : Nat → Nat → Int) (n : Nat) (s : BSt) : Nat → BSt
  | 0 => s
  | c + 1 => bJ f n c (bI f n s c) (n - c - 1)
def boundSt (n : Nat) (f : Nat → Nat → Int) : BSt := bI f n ⟨fun i j => absI (f i j), [], 0⟩ n

/-- What holds of the state all along. -/
structure BOk (s : BSt) (m : Nat) : Prop where
  lo : ∀ x y, 0 ≤ s.left x y
  hi : ∀ x y, s.left x y ≤ 1000
  len : s.out.length ≤ m
  s0 : 0 ≤ s.sum
  s1 : s.sum ≤ 1000 * s.out.length
theorem charge_at {h : Nat → Nat → Int} {i j k : Nat} {a : Int} (hij : i < j) (hjk : j < k) (x y : Nat) :
    chargeF h i j k a x y = if (x = i ∧ y = j) ∨ (x = i ∧ y = k) ∨ (x = j ∧ y = k) then h x y - a else h x y := by
  simp only [chargeF, List.foldl_cons, List.foldl_nil, stepF]
  by_cases e1 : x = i ∧ y = j
  · obtain ⟨rfl, rfl⟩ := e1
    simp [show ¬ y = k by omega, show ¬ x = y by omega]
  · by_cases e2 : x = i ∧ y = k
    · obtain ⟨rfl, rfl⟩ := e2
      simp [show ¬ y = j by omega, show ¬ x = j by omega]
    · by_cases e3 : x = j ∧ y = k
      · obtain ⟨rfl, rfl⟩ := e3
        simp [show ¬ x = i by omega]
      · simp [e1, e2, e3]
theorem min3_le (x y z : Int) : min3 x y z ≤ x ∧ min3 x y z ≤ y ∧ min3 x y z ≤ z := by unfold min3; omega
theorem bStep_ok {f : Nat → Nat → Int} {i j k : Nat} {s : BSt} {m : Nat} (h : BOk s m) (hij : i < j) (hjk : j < k) : BOk (bStep f i j k s) (m + 1) := by
  unfold bStep
  split
  · rename_i hc
    simp only [Bool.and_eq_true, decide_eq_true_eq] at hc
    have hm := min3_le (s.left i j) (s.left i k) (s.left j k)
    obtain ⟨a, ha⟩ : ∃ a, a = min3 (s.left i j) (s.left i k) (s.left j k) := ⟨_, rfl⟩
    rw [← ha] at hc hm ⊢
    have h1 := h.hi i j
    refine ⟨fun x y => ?_, fun x y => ?_, ?_, ?_, ?_⟩
    · show 0 ≤ chargeF s.left i j k a x y
      rw [charge_at hij hjk]
      have := h.lo x y
      split
      · rename_i e
        rcases e with ⟨rfl, rfl⟩ | ⟨rfl, rfl⟩ | ⟨rfl, rfl⟩ <;> omega
      · omega
    · show chargeF s.left i j k a x y ≤ 1000
      rw [charge_at hij hjk]
      have := h.hi x y
      split <;> omega
    · have := h.len; simp; omega
    · have := h.s0; simp only; omega
    · have := h.s1; simp only [List.length_append, List.length_cons, List.length_nil]; omega
  · exact ⟨h.lo, h.hi, Nat.le_succ_of_le h.len, h.s0, h.s1⟩

set_option maxRecDepth 100000 in
set_option maxHeartbeats 1000000 in
theorem bound_err (n : Int) (A : Option Addr) (cap : Nat) (ps : List P3) (B : Nat) (w : World) (hB : B ≤ w.heap.size) (hl : ps.length ≤ 100000) (hp : PairsAt w B A ps) (hv : valid n ps ≠ 0) :
    Calls Try.prog 19 #[.int .i64 n, .slice A ps.length cap] w fun e w' => e = .returned (.tuple #[.slice none 0 0, .int .i64 0, .int .i64 (valid n ps)]) ∧ Below w.heap.size w w' := by
  have hc := cvalid_any n A cap ps B w hB hl hp
  obtain ⟨e, he⟩ : ∃ e, e = valid n ps := ⟨_, rfl⟩
  rw [← he] at hc hv ⊢
  have hv' : (e != 0) = true := by simpa using hv
  have Hc := Lib.hid hc
  clear hc hv he
  go_enter Try.func19, Try.ntmps19
  go_wp2_with fail
  refine Hc.out.mono ?_
  rintro e' w1 ⟨rfl, hb⟩
  have Hb := Lib.hid hb
  clear hb
  go_wp2_with fail
  go_ret3
  exact ⟨rfl, Hb.out⟩

/-- The memory of Bound's loops. -/
structure BMem (w wr : World) (B1 T1 g1 B2 T2 g2 n : Nat) (r1 c1 r2 c2 : Nat → Nat) (f : Nat → Nat → Int) (s : BSt) (v : Value) (m : Nat) : Prop where
  m1 : Mat wr B1 T1 g1 n n r1 c1 f
  m2 : Mat wr B2 T2 g2 n n r2 c2 s.left
  own : wr.ownsRow T2 56 4 v s.out.length (s.out.flatMap tc)
  ok : BOk s m
  below : Below w.heap.size w wr
  T1B2 : T1 ≤ B2
  T2s : T2 ≤ wr.heap.size
  B2T2 : B2 < T2
  wB : w.heap.size ≤ B2

theorem BMem.more {w wr : World} {B1 T1 g1 B2 T2 g2 n m m' : Nat} {r1 c1 r2 c2 : Nat → Nat} {f : Nat → Nat → Int} {s : BSt} {v : Value} (h : BMem w wr B1 T1 g1 B2 T2 g2 n r1 c1 r2 c2 f s v m) (hm : m ≤ m') :
    BMem w wr B1 T1 g1 B2 T2 g2 n r1 c1 r2 c2 f s v m' :=
  { h with ok := ⟨h.ok.lo, h.ok.hi, Nat.le_trans h.ok.len hm, h.ok.s0, h.ok.s1⟩ }

theorem BMem.box {w wr : World} {B1 T1 g1 B2 T2 g2 n m : Nat} {r1 c1 r2 c2 : Nat → Nat} {f : Nat → Nat → Int} {s : BSt} {v : Value} (h : BMem w wr B1 T1 g1 B2 T2 g2 n r1 c1 r2 c2 f s v m) (o : Obj) :
    BMem w (wr.alloc o).drew B1 T1 g1 B2 T2 g2 n r1 c1 r2 c2 f s v m :=
  ⟨(h.m1.alloc (by have := h.T1B2; have := h.B2T2; have := h.T2s; omega) o).drew, (h.m2.alloc h.T2s o).drew, h.own.alloc o, h.ok, (h.below.alloc h.below.size o).drew, h.T1B2, by have := h.T2s; show T2 ≤ (wr.alloc o).heap.size; simp; omega, h.B2T2, h.wB⟩
theorem BMem.call {w wr w' : World} {B1 T1 g1 B2 T2 g2 n m : Nat} {r1 c1 r2 c2 : Nat → Nat} {f : Nat → Nat → Int} {s : BSt} {v : Value} (h : BMem w wr B1 T1 g1 B2 T2 g2 n r1 c1 r2 c2 f s v m) (hb : Below wr.heap.size wr w') :
    BMem w w' B1 T1 g1 B2 T2 g2 n r1 c1 r2 c2 f s v m :=
  ⟨h.m1.call hb (by have := h.T1B2; have := h.B2T2; have := h.T2s; omega), h.m2.call hb h.T2s, own_but (B := 0) (T := 0) h.own (But.of_below hb) (Nat.zero_le _), h.ok, h.below.trans (hb.mono h.below.size), h.T1B2, Nat.le_trans h.T2s hb.size, h.B2T2, h.wB⟩
theorem bStep_no {f : Nat → Nat → Int} {i j k : Nat} {s : BSt} (h : ¬ 0 < min3 (s.left i j) (s.left i k) (s.left j k) ∨ badB (f i j) (f i k) (f j k) = false) : bStep f i j k s = s := by
  unfold bStep
  rw [if_neg]
  rcases h with h | h
  · simp [h]
  · simp [h]
theorem bStep_yes {f : Nat → Nat → Int} {i j k : Nat} {s : BSt} {a : Int} (ha : a = min3 (s.left i j) (s.left i k) (s.left j k)) (h : 0 < a) (hb : badB (f i j) (f i k) (f j k) = true) : bStep f i j k s = ⟨chargeF s.left i j k a, s.out ++ [⟨i, j, k, a⟩], s.sum + a⟩ := by
  unfold bStep
  rw [if_pos (by simp [← ha, h, hb]), ← ha]
/-- One triangle more. -/
theorem BMem.hit {w w5 w6 w7 : World} {B1 T1 g1 B2 T2 g2 n m q cq i j k : Nat} {r1 c1 r2 c2 : Nat → Nat} {f : Nat → Nat → Int} {s : BSt} {v : Value} {a : Int} {o : Obj} (h : BMem w w5 B1 T1 g1 B2 T2 g2 n r1 c1 r2 c2 f s v m)
    (hm : Mat w6 B2 T2 g2 n n r2 c2 (chargeF s.left i j k a)) (hb : But B2 T2 w5 w6) (hg : (w6.alloc o).grownBy w7 v.ownBlock)
    (ho : w7.ownsRow T2 56 4 (.slice (some ⟨q, 0, none⟩) (s.out.length + 1) cq) (s.out.length + 1) (s.out.flatMap tc ++ tc ⟨i, j, k, a⟩)) (hok : BOk ⟨chargeF s.left i j k a, s.out ++ [⟨i, j, k, a⟩], s.sum + a⟩ (m + 1)) :
    BMem w w7 B1 T1 g1 B2 T2 g2 n r1 c1 r2 c2 f ⟨chargeF s.left i j k a, s.out ++ [⟨i, j, k, a⟩], s.sum + a⟩ (.slice (some ⟨q, 0, none⟩) (s.out.length + 1) cq) (m + 1) := by
  have hs := hb.size
  have hs2 := hg.size
  have hT := h.T2s
  have h12 := h.T1B2
  have h22 := h.B2T2
  have hwB := h.wB
  simp at hs2
  have hrow : ∀ b, v.ownBlock = some b → T2 ≤ b := fun b e => (h.own.lt b e).1
  refine ⟨?_, ?_, ?_, hok, ?_, h12, by omega, h22, hwB⟩
  · exact ((h.m1.but hb (by omega) (.inl h12)).alloc (by omega) o).grown (by simp; omega) hg (fun b e => .inr (by have := hrow b e; omega))
  · exact (hm.alloc (by omega) o).grown (by simp; omega) hg (fun b e => .inr (hrow b e))
  · simpa using ho
  · have h1 := h.below.size
    exact ((h.below.trans ((hb.below (by omega)).mono hwB)).alloc (by omega) o).grown hg (by simp; omega) (fun b e => by have := hrow b e; omega)

set_option maxRecDepth 100000 in
set_option maxHeartbeats 6000000 in
theorem bound_ok (n : Nat) (A : Option Addr) (cap : Nat) (ps : List P3) (B : Nat) (w : World) (hB : B ≤ w.heap.size) (hl : ps.length ≤ 100000) (hp : PairsAt w B A ps) (hv : valid n ps = 0) (hn : n ≤ 200) :
    Calls Try.prog 19 #[.int .i64 (n : Int), .slice A ps.length cap] w fun e w' => ∃ A' c', e = .returned (.tuple #[.slice A' (boundSt n (matOf ps)).out.length c', .int .i64 (boundSt n (matOf ps)).sum, .int .i64 0]) ∧
      RowAt w' w'.heap.size A' ((boundSt n (matOf ps)).out.flatMap tc) ∧ Below w.heap.size w w' := by
  have hc := cvalid_any n A cap ps B w hB hl hp
  rw [hv] at hc
  have Hc := Lib.hid hc
  have hok : ∀ p ∈ ps, okP n p = true := by
    rcases valid_cases n ps with h | h
    · rw [hv] at h; simp at h
    · exact good_all h.2.2.2.2
  have Hok := Lib.hid hok
  clear hc hv hok
  go_enter Try.func19, Try.ntmps19
  go_wp2_with fail
  refine Hc.out.mono ?_
  rintro e' w1 ⟨rfl, hb⟩
  have Hb := Lib.hid hb
  have hs1 := hb.size
  clear hb Hc
  go_wp2_with fail
  refine (matrix_any n A cap ps B w1 (by omega) hl hn (hp.call Hb.out hB) Hok.out).mono ?_
  rintro e' w2 ⟨g1, r1, c1, rfl, hm1, hb2⟩
  have Hm1 := Lib.hid hm1
  have Hb2 := Lib.hid hb2
  have hs2 := hb2.size
  clear hm1 hb2
  go_wp2_with fail
  refine (room_any w1.heap.size w2.heap.size g1 n r1 c1 (matOf ps) w2 hn (matOf_bd Hok.out) Hm1.out (Nat.le_refl _)).mono ?_
  rintro e' w3 ⟨g2, r2, c2, rfl, hm2, hb3⟩
  have Hm2 := Lib.hid hm2
  have Hb3 := Lib.hid hb3
  have hs3 := hb3.size
  have hfb := matOf_bd Hok.out
  obtain ⟨f, hf⟩ : ∃ f, f = matOf ps := ⟨_, rfl⟩
  rw [← hf] at Hm1 Hm2 hfb
  have h0 : BMem w w3 w1.heap.size w2.heap.size g1 w2.heap.size w3.heap.size g2 n r1 c1 r2 c2 f ⟨fun i j => absI (f i j), [], 0⟩ (.slice none 0 0) 0 :=
    ⟨Hm1.out.call Hb3.out (Nat.le_refl _), Hm2.out, World.ownsRow_nil _ _ _ _, ⟨fun x y => by simp only [absI]; split <;> omega, fun x y => by have := hfb x y; simp only [absI]; split <;> omega, by simp, by simp, by simp⟩,
      (Hb.out.trans (Hb2.out.mono hs1)).trans (Hb3.out.mono (by omega)), Nat.le_refl _, Nat.le_refl _, by have := Hm2.out.hi; have := Hm2.out.lo; omega, by omega⟩
  have H0 := Lib.hid h0
  have Hf := Lib.hid hf
  have Hfb := Lib.hid hfb
  clear hm2 hb3 hfb hf h0 Hm1 Hm2 Hb Hb2 Hb3
  generalize w1.heap.size = B1 at *
  generalize w2.heap.size = T1 at *
  generalize w3.heap.size = T2 at *
  go_wp2_with fail
  obtain ⟨i0, hi, hz0, hz1, hz2⟩ := info_parts Try.info56
  have Hi := Lib.hid (show Try.prog.info? 56 = some i0 ∧ i0.zero = some _ ∧ i0.size = 4 ∧ i0.bytes = 32 from ⟨hi, hz0, hz1, hz2⟩)
  clear hi hz0 hz1 hz2
  go_loopw [28, 10, 11] (fun ii v sm wr => ∃ (i : Nat), i ≤ n ∧ ii = .int .i64 i ∧ sm = .int .i64 (bI f n ⟨fun i j => absI (f i j), [], 0⟩ i).sum ∧ BMem w wr B1 T1 g1 T1 T2 g2 n r1 c1 r2 c2 f (bI f n ⟨fun i j => absI (f i j), [], 0⟩ i) v (i * 40000)) (fun ii _ _ _ => n - (intOf ii).toNat)
  case atStart => exact ⟨0, Nat.zero_le _, rfl, rfl, by simpa [bI] using H0.out⟩
  case round =>
    obtain ⟨i, hi, rfl, rfl, hmem⟩ := hrel
    have Hmem := Lib.hid hmem
    clear hmem
    obtain ⟨si, hsi⟩ : ∃ si, si = bI f n ⟨fun i j => absI (f i j), [], 0⟩ i := ⟨_, rfl⟩
    rw [← hsi] at Hmem ⊢
    have Hsi := Lib.hid hsi
    clear hsi
    by_cases hin : i < n
    · have hb1 : decide ((i : Int) < (n : Int)) = true := by simp; omega
      go_wp2_with fail
      clear hb1
      obtain ⟨wo, rfl⟩ : ∃ wo : World, wo = wr := ⟨_, rfl⟩
      go_loopw [13, 10, 11] (fun jj v sm wr => ∃ (c : Nat), c ≤ n - i - 1 ∧ jj = .int .i64 ((i + 1 + c : Nat) : Int) ∧ sm = .int .i64 (bJ f n i si c).sum ∧ BMem w wr B1 T1 g1 T1 T2 g2 n r1 c1 r2 c2 f (bJ f n i si c) v (i * 40000 + c * 200)) (fun jj _ _ _ => n - (intOf jj).toNat)
      case atStart => exact ⟨0, Nat.zero_le _, by go_num, rfl, by simpa [bJ] using Hmem.out⟩
      case round =>
        obtain ⟨c, hc, rfl, rfl, hmj⟩ := hrel
        have Hmj := Lib.hid hmj
        clear hmj Hmem
        obtain ⟨sj, hsj⟩ : ∃ sj, sj = bJ f n i si c := ⟨_, rfl⟩
        rw [← hsj] at Hmj ⊢
        have Hsj := Lib.hid hsj
        obtain ⟨j, hj⟩ : ∃ j, j = i + 1 + c := ⟨_, rfl⟩
        rw [← hj]
        have Hj := Lib.hid hj
        have hj1 : i < j := by omega
        have hj2 : j ≤ n := by omega
        clear hsj hj
        by_cases hjn : j < n
        · have hb2 : decide ((j : Int) < (n : Int)) = true := by simp; omega
          go_wp2_with fail
          clear hb2
          obtain ⟨wp, rfl⟩ : ∃ wp : World, wp = wr := ⟨_, rfl⟩
          go_loopw [14, 10, 11] (fun kk v sm wr => ∃ (d : Nat), d ≤ n - j - 1 ∧ kk = .int .i64 ((j + 1 + d : Nat) : Int) ∧ sm = .int .i64 (bK f i j sj d).sum ∧ BMem w wr B1 T1 g1 T1 T2 g2 n r1 c1 r2 c2 f (bK f i j sj d) v (i * 40000 + c * 200 + d)) (fun kk _ _ _ => n - (intOf kk).toNat)
          case atStart => exact ⟨0, Nat.zero_le _, by go_num, rfl, by simpa [bK] using Hmj.out⟩
          case round =>
            obtain ⟨d, hd, rfl, rfl, hmk⟩ := hrel
            have Hmk := Lib.hid hmk
            clear hmk Hmj
            obtain ⟨sk, hsk⟩ : ∃ sk, sk = bK f i j sj d := ⟨_, rfl⟩
            rw [← hsk] at Hmk ⊢
            have Hsk := Lib.hid hsk
            obtain ⟨k, hk⟩ : ∃ k, k = j + 1 + d := ⟨_, rfl⟩
            rw [← hk]
            have Hk := Lib.hid hk
            have hk1 : j < k := by omega
            have hk2 : k ≤ n := by omega
            clear hsk hk
            by_cases hkn : k < n
            · as_aux_lemma =>
                have hb3 : decide ((k : Int) < (n : Int)) = true := by simp; omega
                have q1 := Hmk.out.m2.outer i hin
                have q2 := Hmk.out.m2.outer j hjn
                have q3 := Hmk.out.m2.inner i j hin hjn
                have q4 := Hmk.out.m2.inner i k hin hkn
                have q5 := Hmk.out.m2.inner j k hjn hkn
                have hst : bK f i j sj (d + 1) = bStep f i j k sk := by rw [bK, ← Hsk.out, ← Hk.out]
                have Hst := Lib.hid hst
                clear hst
                have z1 : g2 < wr.heap.size := Nat.lt_of_lt_of_le Hmk.out.m2.hi Hmk.out.T2s
                have z2 : r2 i < wr.heap.size := Nat.lt_of_lt_of_le (Hmk.out.m2.rlo i hin).2.1 Hmk.out.T2s
                have z3 : r2 j < wr.heap.size := Nat.lt_of_lt_of_le (Hmk.out.m2.rlo j hjn).2.1 Hmk.out.T2s
                have hla := Hmk.out.ok.lo i j
                have hlb := Hmk.out.ok.hi i j
                obtain ⟨x, hx⟩ : ∃ x, x = sk.left i j := ⟨_, rfl⟩
                obtain ⟨y, hy⟩ : ∃ y, y = sk.left i k := ⟨_, rfl⟩
                obtain ⟨z, hz⟩ : ∃ z, z = sk.left j k := ⟨_, rfl⟩
                rw [← hx] at q3 hla hlb
                rw [← hy] at q4
                rw [← hz] at q5
                obtain ⟨a, ha⟩ : ∃ a, a = min3 x y z := ⟨_, rfl⟩
                have hax := (min3_le x y z).1
                rw [← ha] at hax
                have hmin : ∀ (ts : Array TypeId) (t : TypeId) (W : World), (Builtin.min_ ts t #[.int .i64 x, .int .i64 y, .int .i64 z]).run Try.prog W = .ok (.int .i64 a) W := fun ts t W => by
                  rw [run_min_int3]
                  congr 2
                  rw [ha]; unfold min3; omega
                have Hx := Lib.hid hx
                have Hy := Lib.hid hy
                have Hz := Lib.hid hz
                have Ha := Lib.hid ha
                clear hx hy hz ha
                go_wp2_with fail
                go_region
                as_aux_lemma =>
                  clear q1 q2 q3 q4 q5 z1 z2 z3 hmin hb3
                  have hbx := Hmk.out.box (.cells #[.int .i64 (i : Int), .int .i64 (j : Int), .int .i64 (k : Int), .int .i64 a] 56)
                  have hbk : Blk (wr.alloc (.cells #[.int .i64 (i : Int), .int .i64 (j : Int), .int .i64 (k : Int), .int .i64 a] 56)).drew wr.heap.size 56 #[.int .i64 (i : Int), .int .i64 (j : Int), .int .i64 (k : Int), .int .i64 a] := Blk.new wr 56 _
                  have hT2 := Hmk.out.T2s
                  have hnb : some wr.heap.size ≠ u10.ownBlock := fun e => by have := (Hmk.out.own.lt _ e.symm).2; omega
                  have Hnb := Lib.hid hnb
                  have Hbx := Lib.hid hbx
                  clear hnb
                  have Hbk := Lib.hid hbk
                  clear hbx hbk Hmk
                  by_cases h0 : 0 < a
                  · obtain ⟨bb, hbb⟩ : ∃ bb, bb = badB (f i j) (f i k) (f j k) := ⟨_, rfl⟩
                    have hcall := bad_any B1 T1 g1 n r1 c1 f _ hn i j k hin hjn hkn Hbx.out.m1 (by have := Hbx.out.T1B2; have := Hbx.out.B2T2; have := Hbx.out.T2s; omega)
                    rw [← hbb] at hcall
                    have Hbb := Lib.hid hbb
                    have Hcall := Lib.hid hcall
                    clear hcall hbb
                    go_wp2_with fail
                    refine Hcall.out.mono ?_
                    rintro e w5 ⟨rfl, hb5⟩
                    have hm5 := Hbx.out.call hb5
                    have hk5 := Hbk.out.call hb5
                    have Hm5 := Lib.hid hm5
                    have Hk5 := Lib.hid hk5
                    clear Hbx Hbk hb5 hm5 hk5 Hcall
                    cases bb
                    · have hno : bStep f i j k sk = sk := bStep_no (.inr Hbb.out.symm)
                      have Hno := Lib.hid hno
                      clear hno
                      go_wp2_with fail
                      go_roundw
                      case rel => exact ⟨d + 1, by have := Hk.out; omega, by have := Hk.out; go_num, by rw [Hst.out, Hno.out], by rw [Hst.out, Hno.out]; exact Hm5.out.more (by omega)⟩
                      case measure => simp [intOf]; omega
                    · have k0 := Hk5.out.cell 0
                      have k1 := Hk5.out.cell 1
                      have k2 := Hk5.out.cell 2
                      have k3 := Hk5.out.cell 3
                      simp at k0 k1 k2 k3
                      have hcall := charge_any T1 T2 g2 n r2 c2 sk.left w5 hn i j k a hin hjn hkn (by omega) (by omega) (fun p q => by have := Hm5.out.ok.lo p q; have := Hm5.out.ok.hi p q; omega) Hm5.out.m2 Hm5.out.T2s
                      have Hcall := Lib.hid hcall
                      have hyes : bStep f i j k sk = ⟨chargeF sk.left i j k a, sk.out ++ [⟨i, j, k, a⟩], sk.sum + a⟩ := bStep_yes (by rw [Ha.out, Hx.out, Hy.out, Hz.out]) h0 Hbb.out.symm
                      have Hyes := Lib.hid hyes
                      have hokn := bStep_ok (f := f) (k := k) Hm5.out.ok hj1 hk1
                      rw [hyes] at hokn
                      have Hokn := Lib.hid hokn
                      clear hcall hyes hokn
                      go_wp2_with fail
                      refine Hcall.out.mono ?_
                      rintro e w6 ⟨rfl, hm6, hb6⟩
                      have Hm6 := Lib.hid hm6
                      have Hb6 := Lib.hid hb6
                      have hk6 := Hk5.out.but hb6 (.inr hT2)
                      have k0 := hk6.cell 0
                      have k1 := hk6.cell 1
                      have k2 := hk6.cell 2
                      have k3 := hk6.cell 3
                      have kl := hk6.lt
                      simp at k0 k1 k2 k3
                      have ho6 := own_but Hm5.out.own hb6 (Nat.le_refl _)
                      have Ho6 := Lib.hid ho6
                      have hT6 : T2 ≤ w6.heap.size := Nat.le_trans Hm5.out.T2s hb6.size
                      have hlen := Hm5.out.ok.len
                      have hsum0 := Hm5.out.ok.s0
                      have hsum1 := Hm5.out.ok.s1
                      clear hm6 hb6 hk6 ho6 Hcall Hk5
                      go_wp2_with fail
                      have hsw := wrap_in (x := sk.sum + a) (by omega) (by omega)
                      have h63 : sk.out.length + 1 ≤ maxLen := by simp [maxLen]; omega
                      have hby : (sk.out.length + 1) * 32 ≤ 140737488355328 := by omega
                      have H63 := Lib.hid h63
                      have Hby := Lib.hid hby
                      clear h63 hby
                      go_region_law (refine step_append_lies _ rfl (.tmp 84) (.tmp 86) 40 rfl T2 56 i0 _ 4 32 Try.underlying40 Hi.out.1 Hi.out.2.1 Hi.out.2.2.1 Hi.out.2.2.2 rfl (by decide) u10 sk.out.length (sk.out.flatMap tc) rfl (show World.ownsRow _ _ _ _ _ _ _ from Ho6.out.alloc (.cells #[.int .i64 (i : Int), .int .i64 (j : Int), .int .i64 (k : Int), .int .i64 a] 56)) ⟨w6.heap.size, 0, none⟩ 1 1 [.int .i64 (i : Int), .int .i64 (j : Int), .int .i64 (k : Int), .int .i64 a] rfl rfl (World.news_of_block (Blk.new w6 56 #[.int .i64 (i : Int), .int .i64 (j : Int), .int .i64 (k : Int), .int .i64 a])) (by simp [Value.oneCell']) (by decide) H63.out Hby.out (by show T2 ≤ (w6.alloc _).heap.size; simp; omega) (w6.heap.size + 1) (by show (w6.alloc _).heap.size = _; simp) ?_; intro q cq w7 ho7 hg7 _ _; have d3 : w7.cell? ⟨wr.heap.size, 3, none⟩ = some (.int .i64 a) := ((hg7.cell_far ⟨wr.heap.size, 3, none⟩ (by show _ < (w6.alloc _).heap.size; simp; omega) Hnb.out).trans (World.cell?_alloc_lt w6 _ _ (by simpa using kl))).trans k3; have Ho7 := Lib.hid ho7; have Hg7 := Lib.hid hg7; clear ho7 hg7)
                      all_goals
                        as_aux_lemma =>
                          go_wp2_with fail
                          go_roundw
                          case rel => exact ⟨d + 1, by have := Hk.out; omega, by have := Hk.out; go_num, by rw [Hst.out, Hyes.out], by rw [Hst.out, Hyes.out]; exact (Hm5.out.hit Hm6.out Hb6.out ⟨Hg7.out.os, Hg7.out.tape, Hg7.out.output, Hg7.out.size, Hg7.out.block⟩ Ho7.out Hokn.out).more (by omega)⟩
                          case measure => simp [intOf]; omega
                  · have hno : bStep f i j k sk = sk := bStep_no (.inl (by rw [← Hx.out, ← Hy.out, ← Hz.out, ← Ha.out]; exact h0))
                    have Hno := Lib.hid hno
                    clear hno
                    go_wp2_with fail
                    go_roundw
                    case rel => exact ⟨d + 1, by have := Hk.out; omega, by have := Hk.out; go_num, by rw [Hst.out, Hno.out], by rw [Hst.out, Hno.out]; exact Hbx.out.more (by omega)⟩
                    case measure => simp [intOf]; omega
            · have hb3 : decide ((k : Int) < (n : Int)) = false := by simp; omega
              go_wp2_with fail
              go_roundw
              case rel =>
                refine ⟨c + 1, by have := Hj.out; have := Hk.out; omega, by have := Hj.out; go_num, ?_, ?_⟩
                · have e : n - j - 1 = d := by have := Hk.out; omega
                  rw [bJ, ← Hsj.out, ← Hj.out, e, ← Hsk.out]
                · have e : n - j - 1 = d := by have := Hk.out; omega
                  rw [bJ, ← Hsj.out, ← Hj.out, e, ← Hsk.out]
                  exact Hmk.out.more (by omega)
              case measure => simp [intOf]; omega
        · have hb2 : decide ((j : Int) < (n : Int)) = false := by simp; omega
          go_wp2_with fail
          go_roundw
          case rel =>
            refine ⟨i + 1, by omega, by go_num, ?_, ?_⟩
            · have e : n - i - 1 = c := by have := Hj.out; omega
              rw [bI, ← Hsi.out, e, ← Hsj.out]
            · have e : n - i - 1 = c := by have := Hj.out; omega
              rw [bI, ← Hsi.out, e, ← Hsj.out]
              exact Hmj.out.more (by omega)
          case measure => simp [intOf]; omega
    · obtain rfl : i = n := by omega
      have hb1 : decide ((i : Int) < (i : Int)) = false := by simp
      go_wp2_with fail
      go_ret3
      obtain ⟨A', c', hv⟩ : ∃ A' c', u10 = .slice A' si.out.length c' := by
        rcases Hmem.out.own.2 with ⟨h, h0⟩ | ⟨g, cap, cur, h, _⟩
        · exact ⟨none, 0, by rw [h, h0]⟩
        · exact ⟨_, _, h⟩
      have e : boundSt i (matOf ps) = si := by rw [Hsi.out, ← Hf.out]; rfl
      refine ⟨A', c', ?_, ?_, Hmem.out.below⟩
      · rw [e, ← hv]; rfl
      · rw [e]
        have := Hmem.out.own
        rw [hv] at this
        exact RowAt.of_own this
end Go.Proofs.Ytmjicfafjjgekaa
