/- W30: cluster.Check. -/
import Derived.Test.YtmjicfafjjgekaaW26
import Derived.Test.YtmjicfafjjgekaaW14
import Derived.BigRegion
namespace Go.Proofs.Ytmjicfafjjgekaa
open Go.RowKit Go.Dr

def CTo (n : Nat) (f : Nat → Nat → Int) (ts : List T4) (k : Nat) : Prop := ∀ r t, r < k → ts[r]? = some t → cstepOk n f (leftOf f (ts.take r)) t = true
theorem cto_all {n : Nat} {f : Nat → Nat → Int} {ts : List T4} (h : CTo n f ts ts.length) : CAll n f ts := fun r t ht => h r t (by have := List.getElem?_eq_some_iff.1 ht; exact this.1) ht
theorem cto_step {n : Nat} {f : Nat → Nat → Int} {ts : List T4} {k : Nat} {t : T4} (h : CTo n f ts k) (ht : ts[k]? = some t) (hc : cstepOk n f (leftOf f (ts.take k)) t = true) : CTo n f ts (k + 1) := fun r u hr hu => by
  rcases Nat.lt_or_ge r k with h1 | h1
  · exact h r u h1 hu
  · obtain rfl : r = k := by omega
    rw [ht] at hu; cases hu; exact hc
theorem left_snoc (f : Nat → Nat → Int) (l : List T4) (t : T4) : leftOf f (l ++ [t]) = chargeF (leftOf f l) t.i.toNat t.j.toNat t.k.toNat t.a := by simp [leftOf]
theorem cto_bd {n : Nat} {f : Nat → Nat → Int} {ts : List T4} (hf : ∀ x y, -1000 ≤ f x y ∧ f x y ≤ 1000) : ∀ k, k ≤ ts.length → CTo n f ts k → ∀ x y, 0 ≤ leftOf f (ts.take k) x y ∧ leftOf f (ts.take k) x y ≤ 1000
  | 0, _, _, x, y => by have := hf x y; simp only [List.take_zero, leftOf, List.foldl_nil, absI]; split <;> omega
  | k + 1, hk, h, x, y => by
    have ih := cto_bd hf k (by omega) (fun r t hr ht => h r t (by omega) ht)
    have e : ts[k]? = some ts[k] := List.getElem?_eq_getElem (by omega)
    have hs := h k _ (by omega) e
    rw [List.take_add_one, e, Option.toList, left_snoc]
    simp only [cstepOk, Bool.and_eq_true, decide_eq_true_eq] at hs
    have hm := min3_le (leftOf f (ts.take k) ts[k].i.toNat ts[k].j.toNat) (leftOf f (ts.take k) ts[k].i.toNat ts[k].k.toNat) (leftOf f (ts.take k) ts[k].j.toNat ts[k].k.toNat)
    rw [charge_at (by omega) (by omega)]
    have := ih x y
    split
    · rename_i hc
      rcases hc with ⟨rfl, rfl⟩ | ⟨rfl, rfl⟩ | ⟨rfl, rfl⟩ <;> omega
    · omega
theorem rcheck_bad {n : Nat} {ps : List P3} {ts : List T4} {k : Nat} {t : T4} (hg : good n ps = true) (ht : ts[k]? = some t) (hc : cstepOk n (matOf ps) (leftOf (matOf ps) (ts.take k)) t = false) : rcheck n ps ts = (0, false) := by
  unfold rcheck
  rw [if_neg]
  intro h
  have := (check_agree hg ts).2 h.2 k t ht
  rw [hc] at this; cases this
theorem rcheck_good {n : Nat} {ps : List P3} {ts : List T4} (hg : good n ps = true) (hv : valid n ps = 0) (h : CTo n (matOf ps) ts ts.length) : rcheck n ps ts = (sumT ts, true) := by
  unfold rcheck
  rw [if_pos ⟨hv, (check_agree hg ts).1 (cto_all h)⟩]
theorem sumT_at {ts : List T4} {k : Nat} {t : T4} (h : ts[k]? = some t) : sumT (ts.take (k + 1)) = sumT (ts.take k) + t.a := by
  rw [take_snoc h, sumT_snoc]
theorem cto_sum {n : Nat} {f : Nat → Nat → Int} {ts : List T4} (hf : ∀ x y, -1000 ≤ f x y ∧ f x y ≤ 1000) : ∀ k, k ≤ ts.length → CTo n f ts k → 0 ≤ sumT (ts.take k) ∧ sumT (ts.take k) ≤ 1000 * k
  | 0, _, _ => by simp [sumT]
  | k + 1, hk, h => by
    have h' : CTo n f ts k := fun r t hr ht => h r t (by omega) ht
    have ih := cto_sum hf k (by omega) h'
    have e : ts[k]? = some ts[k] := List.getElem?_eq_getElem (by omega)
    have hs := h k _ (by omega) e
    simp only [cstepOk, Bool.and_eq_true, decide_eq_true_eq] at hs
    have hm := min3_le (leftOf f (ts.take k) ts[k].i.toNat ts[k].j.toNat) (leftOf f (ts.take k) ts[k].i.toNat ts[k].k.toNat) (leftOf f (ts.take k) ts[k].j.toNat ts[k].k.toNat)
    have := cto_bd hf k (by omega) h' ts[k].i.toNat ts[k].j.toNat
    rw [sumT_at e]
    omega

/-- The memory of Check's loop. -/
structure CMem (w wr : World) (B1 T1 g1 T2 g2 n : Nat) (r1 c1 r2 c2 : Nat → Nat) (f h : Nat → Nat → Int) : Prop where
  m1 : Mat wr B1 T1 g1 n n r1 c1 f
  m2 : Mat wr T1 T2 g2 n n r2 c2 h
  below : Below w.heap.size w wr
  T2s : T2 ≤ wr.heap.size
  T1T2 : T1 < T2
  wB : w.heap.size ≤ T1
theorem CMem.box {w wr : World} {B1 T1 g1 T2 g2 n : Nat} {r1 c1 r2 c2 : Nat → Nat} {f h : Nat → Nat → Int} (c : CMem w wr B1 T1 g1 T2 g2 n r1 c1 r2 c2 f h) (o : Obj) : CMem w (wr.alloc o) B1 T1 g1 T2 g2 n r1 c1 r2 c2 f h :=
  ⟨c.m1.alloc (by have := c.T1T2; have := c.T2s; omega) o, c.m2.alloc c.T2s o, c.below.alloc c.below.size o, by have := c.T2s; simp; omega, c.T1T2, c.wB⟩
theorem CMem.call {w wr w' : World} {B1 T1 g1 T2 g2 n : Nat} {r1 c1 r2 c2 : Nat → Nat} {f h : Nat → Nat → Int} (c : CMem w wr B1 T1 g1 T2 g2 n r1 c1 r2 c2 f h) (hb : Below wr.heap.size wr w') : CMem w w' B1 T1 g1 T2 g2 n r1 c1 r2 c2 f h :=
  ⟨c.m1.call hb (by have := c.T1T2; have := c.T2s; omega), c.m2.call hb c.T2s, c.below.trans (hb.mono c.below.size), Nat.le_trans c.T2s hb.size, c.T1T2, c.wB⟩
theorem CMem.drewN {w wr : World} {B1 T1 g1 T2 g2 n : Nat} {r1 c1 r2 c2 : Nat → Nat} {f h : Nat → Nat → Int} (c : CMem w wr B1 T1 g1 T2 g2 n r1 c1 r2 c2 f h) (q : Nat) : CMem w (wr.drewN q) B1 T1 g1 T2 g2 n r1 c1 r2 c2 f h :=
  ⟨c.m1.drewN q, c.m2.drewN q, below_drewN c.below q, c.T2s, c.T1T2, c.wB⟩
theorem CMem.hit {w wr w' : World} {B1 T1 g1 T2 g2 n : Nat} {r1 c1 r2 c2 : Nat → Nat} {f h h' : Nat → Nat → Int} (c : CMem w wr B1 T1 g1 T2 g2 n r1 c1 r2 c2 f h) (hm : Mat w' T1 T2 g2 n n r2 c2 h') (hb : But T1 T2 wr w') : CMem w w' B1 T1 g1 T2 g2 n r1 c1 r2 c2 f h' :=
  ⟨c.m1.but hb (by have := c.T1T2; have := c.T2s; omega) (.inl (Nat.le_refl _)), hm, c.below.trans ((hb.below (by have := c.T1T2; have := c.T2s; omega)).mono c.wB), Nat.le_trans c.T2s hb.size, c.T1T2, c.wB⟩

set_option maxRecDepth 100000 in
set_option maxHeartbeats 6000000 in
theorem ccheck_any (n : Nat) (A : Option Addr) (cap : Nat) (ps : List P3) (B : Nat) (A2 : Option Addr) (cap2 : Nat) (ts : List T4) (B2 : Nat) (w : World) (hB : B ≤ w.heap.size) (hB2 : B2 ≤ w.heap.size) (hl : ps.length ≤ 100000) (hl2 : ts.length ≤ 100000)
    (hp : PairsAt w B A ps) (ht : TrisAt w B2 A2 ts) (hv : valid n ps = 0) (hn : n ≤ 200) :
    Calls Try.prog 28 #[.int .i64 (n : Int), .slice A ps.length cap, .slice A2 ts.length cap2] w fun e w' => e = .returned (.tuple #[.int .i64 (rcheck n ps ts).1, .bool (rcheck n ps ts).2]) ∧ Below w.heap.size w w' := by
  have hc := cvalid_any n A cap ps B w hB hl hp
  rw [hv] at hc
  have Hc := Lib.hid hc
  have hg : good n ps = true := by
    rcases valid_cases n ps with h | h
    · rw [hv] at h; simp at h
    · exact h.2.2.2.2
  have Hok := Lib.hid (good_all hg)
  have Hg := Lib.hid hg
  have Hv := Lib.hid hv
  have Ht := Lib.hid ht
  have hB2' := hB2
  clear hc hv hg ht
  go_enter Try.func28, Try.ntmps28
  go_wp2_with fail
  refine Hc.out.mono ?_
  rintro e' w1 ⟨rfl, hb⟩
  have Hb := Lib.hid hb
  have hs1 := hb.size
  clear hb Hc
  go_wp2_with fail
  refine (matrix_any n A cap ps B w1 (by omega) hl hn (hp.call Hb.out hB) Hok.out).mono ?_
  rintro e' w2 ⟨g1, r1, c1, rfl, hm1, hb2⟩
  have Hm1 := Lib.hid hm1
  have Hb2 := Lib.hid hb2
  have hs2 := hb2.size
  clear hm1 hb2
  go_wp2_with fail
  refine (room_any w1.heap.size w2.heap.size g1 n r1 c1 (matOf ps) w2 hn (matOf_bd Hok.out) Hm1.out (Nat.le_refl _)).mono ?_
  rintro e' w3 ⟨g2, r2, c2, rfl, hm2, hb3⟩
  have hs3 := hb3.size
  have hfb := matOf_bd Hok.out
  obtain ⟨f, hf⟩ : ∃ f, f = matOf ps := ⟨_, rfl⟩
  rw [← hf] at Hm1 hm2 hfb
  have h0 : CMem w w3 w1.heap.size w2.heap.size g1 w3.heap.size g2 n r1 c1 r2 c2 f (leftOf f (ts.take 0)) :=
    ⟨Hm1.out.call hb3 (Nat.le_refl _), hm2, (Hb.out.trans (Hb2.out.mono hs1)).trans (hb3.mono (by omega)), Nat.le_refl _, by have := hm2.hi; have := hm2.lo; omega, by omega⟩
  have H0 := Lib.hid h0
  have Hf := Lib.hid hf
  have Hfb := Lib.hid hfb
  clear hm2 hb3 hfb hf h0 Hm1 Hb Hb2
  generalize w1.heap.size = B1 at *
  generalize w2.heap.size = T1 at *
  generalize w3.heap.size = T2 at *
  go_wp2_with fail
  go_loopw [24, 10] (fun ii sm wr => ∃ (k : Nat), k ≤ ts.length ∧ ii = .int .i64 k ∧ sm = .int .i64 (sumT (ts.take k)) ∧ CTo n f ts k ∧ CMem w wr B1 T1 g1 T2 g2 n r1 c1 r2 c2 f (leftOf f (ts.take k))) (fun ii _ _ => ts.length - (intOf ii).toNat)
  case atStart => exact ⟨0, Nat.zero_le _, rfl, rfl, fun r t hr => by omega, H0.out⟩
  case round =>
    obtain ⟨k, hk, rfl, rfl, hcto, hmem⟩ := hrel
    have Hcto := Lib.hid hcto
    have Hmem := Lib.hid hmem
    clear hcto hmem H0
    by_cases hkl : k < ts.length
    · obtain ⟨b, off, t, rfl, hbB, htk, q0, q1, q2, q3⟩ := tris_at (Ht.out.call Hmem.out.below hB2) hkl
      obtain ⟨ti, tj, tk, a⟩ := t
      simp only at q0 q1 q2 q3
      have Htk := Lib.hid htk
      clear htk
      by_cases d1 : ti < 0
      · as_aux_lemma =>
          have hr := rcheck_bad (n := n) (ps := ps) Hg.out Htk.out (by simp [cstepOk]; omega)
          have Hr := Lib.hid hr
          clear hr
          go_wp2_with fail
          go_ret2
          exact ⟨by rw [Hr.out]; rfl, (Hmem.out.box _).below⟩
      by_cases d2 : tj ≤ ti
      · as_aux_lemma =>
          have hr := rcheck_bad (n := n) (ps := ps) Hg.out Htk.out (by simp [cstepOk]; omega)
          have Hr := Lib.hid hr
          clear hr
          go_wp2_with fail
          go_ret2
          exact ⟨by rw [Hr.out]; rfl, (Hmem.out.box _).below⟩
      by_cases d3 : tk ≤ tj
      · as_aux_lemma =>
          have hr := rcheck_bad (n := n) (ps := ps) Hg.out Htk.out (by simp [cstepOk]; omega)
          have Hr := Lib.hid hr
          clear hr
          go_wp2_with fail
          go_ret2
          exact ⟨by rw [Hr.out]; rfl, (Hmem.out.box _).below⟩
      by_cases d4 : (n : Int) ≤ tk
      · as_aux_lemma =>
          have hr := rcheck_bad (n := n) (ps := ps) Hg.out Htk.out (by simp [cstepOk]; omega)
          have Hr := Lib.hid hr
          clear hr
          go_wp2_with fail
          go_ret2
          exact ⟨by rw [Hr.out]; rfl, (Hmem.out.box _).below⟩
      obtain ⟨i, rfl⟩ := Int.eq_ofNat_of_zero_le (show 0 ≤ ti by omega)
      obtain ⟨j, rfl⟩ := Int.eq_ofNat_of_zero_le (show 0 ≤ tj by omega)
      obtain ⟨l, rfl⟩ := Int.eq_ofNat_of_zero_le (show 0 ≤ tk by omega)
      have hin : i < n := by omega
      have hjn : j < n := by omega
      have hln : l < n := by omega
      obtain ⟨h, hh⟩ : ∃ h, h = leftOf f (ts.take k) := ⟨_, rfl⟩
      have hbd := cto_bd Hfb.out k hk Hcto.out
      rw [← hh] at Hmem hbd
      have Hh := Lib.hid hh
      have Hbd := Lib.hid hbd
      clear hh hbd
      obtain ⟨bb, hbb⟩ : ∃ bb, bb = badB (f i j) (f i l) (f j l) := ⟨_, rfl⟩
      have hbx := Hmem.out.box (.cells #[.int .i64 (i : Int), .int .i64 (j : Int), .int .i64 (l : Int), .int .i64 a] 56)
      have hbk : Blk (wr.alloc (.cells #[.int .i64 (i : Int), .int .i64 (j : Int), .int .i64 (l : Int), .int .i64 a] 56)) wr.heap.size 56 #[.int .i64 (i : Int), .int .i64 (j : Int), .int .i64 (l : Int), .int .i64 a] := Blk.new wr 56 _
      have hcall := bad_any B1 T1 g1 n r1 c1 f _ hn i j l hin hjn hln hbx.m1 (by have := hbx.T1T2; have := hbx.T2s; omega)
      rw [← hbb] at hcall
      have Hbb := Lib.hid hbb
      have Hcall := Lib.hid hcall
      have Hbx := Lib.hid hbx
      have Hbk := Lib.hid hbk
      have hT2 := Hmem.out.T2s
      clear hcall hbb hbx hbk Hmem
      have hij : i < j := by omega
      have hjl : j < l := by omega
      go_wp2_with fail
      refine Hcall.out.mono ?_
      rintro e w5 ⟨rfl, hb5⟩
      have Hm5 := Lib.hid (Hbx.out.call hb5)
      have Hk5 := Lib.hid (Hbk.out.call hb5)
      clear Hbx Hbk hb5 Hcall q0 q1 q2 q3
      have k0 := Hk5.out.cell 0
      have k1 := Hk5.out.cell 1
      have k2 := Hk5.out.cell 2
      have k3 := Hk5.out.cell 3
      simp at k0 k1 k2 k3
      cases bb
      · as_aux_lemma =>
          have hr := rcheck_bad (n := n) (ps := ps) Hg.out Htk.out (by rw [← Hf.out]; simp [cstepOk, ← Hbb.out])
          have Hr := Lib.hid hr
          clear hr
          go_wp2_with fail
          go_ret2
          exact ⟨by rw [Hr.out]; rfl, Hm5.out.below⟩
      by_cases d5 : a < 1
      · as_aux_lemma =>
          have hr := rcheck_bad (n := n) (ps := ps) Hg.out Htk.out (by simp [cstepOk]; omega)
          have Hr := Lib.hid hr
          clear hr
          go_wp2_with fail
          go_quiet (fail)
          go_wp2_with fail
          go_ret2
          exact ⟨by rw [Hr.out]; rfl, by first | exact Hm5.out.below | exact (Hm5.out.drewN _).below⟩
      have p1 := Hm5.out.m2.outer i hin
      have p2 := Hm5.out.m2.outer j hjn
      have p3 := Hm5.out.m2.inner i j hin hjn
      have p4 := Hm5.out.m2.inner i l hin hln
      have p5 := Hm5.out.m2.inner j l hjn hln
      have hla := Hbd.out i j
      obtain ⟨x, hx⟩ : ∃ x, x = h i j := ⟨_, rfl⟩
      obtain ⟨y, hy⟩ : ∃ y, y = h i l := ⟨_, rfl⟩
      obtain ⟨z, hz⟩ : ∃ z, z = h j l := ⟨_, rfl⟩
      rw [← hx] at p3 hla
      rw [← hy] at p4
      rw [← hz] at p5
      obtain ⟨m, hm⟩ : ∃ m, m = min3 x y z := ⟨_, rfl⟩
      have hmx := (min3_le x y z).1
      rw [← hm] at hmx
      have hmin : ∀ (ts : Array TypeId) (t : TypeId) (W : World), (Builtin.min_ ts t #[.int .i64 x, .int .i64 y, .int .i64 z]).run Try.prog W = .ok (.int .i64 m) W := fun ts t W => by
        rw [run_min_int3]
        congr 2
        rw [hm]; unfold min3; omega
      have Hx := Lib.hid hx
      have Hy := Lib.hid hy
      have Hz := Lib.hid hz
      have Hmm := Lib.hid hm
      clear hx hy hz hm
      by_cases d6 : m < a
      · as_aux_lemma =>
          have hr := rcheck_bad (n := n) (ps := ps) Hg.out Htk.out (by
            rw [← Hf.out, ← Hh.out]
            have e : min3 (h i j) (h i l) (h j l) = m := by rw [Hmm.out, Hx.out, Hy.out, Hz.out]
            simp [cstepOk, e]; omega)
          have Hr := Lib.hid hr
          clear hr
          go_wp2_with fail
          go_quiet (fail)
          go_wp2_with fail
          go_ret2
          exact ⟨by rw [Hr.out]; rfl, by first | exact Hm5.out.below | exact (Hm5.out.drewN _).below⟩
      · as_aux_lemma =>
          have hok : cstepOk n f (leftOf f (ts.take k)) ⟨i, j, l, a⟩ = true := by
            rw [← Hh.out]
            have e : min3 (h i j) (h i l) (h j l) = m := by rw [Hmm.out, Hx.out, Hy.out, Hz.out]
            simp [cstepOk, e, ← Hbb.out]; omega
          have hnext := cto_step Hcto.out Htk.out hok
          have hsum := cto_sum Hfb.out k hk Hcto.out
          have hse := sumT_at Htk.out
          have hle : leftOf f (ts.take (k + 1)) = chargeF h i j l a := by rw [take_snoc Htk.out, left_snoc, ← Hh.out]; rfl
          have hws := wrap_in (x := sumT (ts.take k) + a) (by omega) (by omega)
          have Hn := Lib.hid hnext
          have Hse := Lib.hid hse
          have Hle := Lib.hid hle
          clear hok hnext hse hle
          go_wp2_with fail
          go_quiet (fail)
          go_wp2_with fail
          have hcall := charge_any T1 T2 g2 n r2 c2 h (w5.drewN nq) hn i j l a hin hjn hln (by omega) (by omega) (fun p q => by have := Hbd.out p q; omega) (Hm5.out.drewN nq).m2 (Hm5.out.drewN nq).T2s
          have hbk6 : Blk (w5.drewN nq) wr.heap.size 56 #[.int .i64 (i : Int), .int .i64 (j : Int), .int .i64 (l : Int), .int .i64 a] := Hk5.out
          have Hbk6 := Lib.hid hbk6
          clear hbk6
          refine hcall.mono ?_
          clear hcall
          rintro e w6 ⟨rfl, hm6, hbut⟩
          have k6 := (Hbk6.out.but hbut (.inr hT2)).cell 3
          simp at k6
          have Hm6 := Lib.hid ((Hm5.out.drewN nq).hit hm6 hbut)
          clear hm6 hbut p1 p2 p3 p4 p5 hmin k0 k1 k2 k3
          go_wp2_with fail
          go_roundw
          case rel => exact ⟨k + 1, by omega, by go_num, by rw [Hse.out], Hn.out, by rw [Hle.out]; exact Hm6.out⟩
          case measure => simp [intOf]; omega
    · obtain rfl : k = ts.length := by omega
      have hr := rcheck_good Hg.out Hv.out (Hf.out ▸ Hcto.out)
      have Hr := Lib.hid hr
      rw [List.take_length]
      clear hr
      go_wp2_with fail
      go_ret2
      exact ⟨by rw [Hr.out]; rfl, Hmem.out.below⟩
end Go.Proofs.Ytmjicfafjjgekaa
