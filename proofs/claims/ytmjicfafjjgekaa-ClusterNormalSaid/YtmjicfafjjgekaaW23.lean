/- W23: the walk of cluster.Groups. -/
import Derived.Test.YtmjicfafjjgekaaW22
import Derived.Test.YtmjicfafjjgekaaW19
import Derived.OneCell
namespace Go.Proofs.Ytmjicfafjjgekaa
open Go.RowKit Go.Dr

/-- One vertex more in its group. -/
def grStep (yss : List (List Int)) (n i : Nat) : List (List Int) :=
  if n = yss.length then yss ++ [[(i : Int)]] else yss.set n (yss.getD n [] ++ [(i : Int)])
def grTo (l : List Int) : Nat → List (List Int)
  | 0 => []
  | i + 1 => grStep (grTo l i) (l.getD i 0).toNat i
def groups (xs : List Int) : List (List Int) := grTo (nf xs) xs.length
/-- What holds of the groups so far: none is empty, their heads differ. -/
structure GrOk (yss : List (List Int)) (i : Nat) : Prop where
  ne : ∀ (j : Nat) (ys : List Int), yss[j]? = some ys → ∃ h t, ys = h :: t ∧ h < i
  dis : ∀ (j k : Nat) (ys zs : List Int), j ≠ k → yss[j]? = some ys → yss[k]? = some zs → ys.head? ≠ zs.head?
  len : ∀ (j : Nat) (ys : List Int), yss[j]? = some ys → ys.length ≤ i
  cnt : yss.length ≤ i
theorem grStep_ok {yss : List (List Int)} {n i : Nat} (h : GrOk yss i) (hn : n ≤ yss.length) : GrOk (grStep yss n i) (i + 1) := by
  unfold grStep
  split
  · have at_ : ∀ (j : Nat) (ys : List Int), (yss ++ [[(i : Int)]])[j]? = some ys → (j < yss.length ∧ yss[j]? = some ys) ∨ (j = yss.length ∧ ys = [(i : Int)]) := fun j ys hj => by
      by_cases hjl : j < yss.length
      · rw [List.getElem?_append_left hjl] at hj; exact .inl ⟨hjl, hj⟩
      · have h1 := (List.getElem?_eq_some_iff.1 hj).1
        simp at h1
        obtain rfl : j = yss.length := by omega
        rw [List.getElem?_append_right (by omega)] at hj
        simp at hj
        exact .inr ⟨rfl, hj.symm⟩
    refine ⟨fun j ys hj => ?_, fun j k ys zs hjk hj hk => ?_, fun j ys hj => ?_, by have := h.cnt; simp; omega⟩
    · rcases at_ j ys hj with ⟨_, h1⟩ | ⟨_, rfl⟩
      · obtain ⟨a, t, e, ha⟩ := h.ne j ys h1; exact ⟨a, t, e, by omega⟩
      · exact ⟨_, [], rfl, by omega⟩
    · rcases at_ j ys hj with ⟨_, h1⟩ | ⟨rfl, rfl⟩ <;> rcases at_ k zs hk with ⟨_, h2⟩ | ⟨rfl, rfl⟩
      · exact h.dis j k ys zs hjk h1 h2
      · obtain ⟨a, t, rfl, ha⟩ := h.ne j ys h1; simp; omega
      · obtain ⟨a, t, rfl, ha⟩ := h.ne k zs h2; simp; omega
      · exact absurd rfl hjk
    · rcases at_ j ys hj with ⟨_, h1⟩ | ⟨_, rfl⟩
      · have := h.len j ys h1; omega
      · simp
  · have hlt : n < yss.length := by omega
    obtain ⟨zs0, hz0⟩ : ∃ z, yss[n]? = some z := ⟨_, List.getElem?_eq_getElem hlt⟩
    obtain ⟨a0, t0, rfl, ha0⟩ := h.ne n zs0 hz0
    have hl0 := h.len n _ hz0
    rw [List.getD_eq_getElem?_getD, hz0, Option.getD_some]
    have at_ : ∀ (j : Nat) (ys : List Int), (yss.set n (a0 :: t0 ++ [(i : Int)]))[j]? = some ys → (j ≠ n ∧ yss[j]? = some ys) ∨ (j = n ∧ ys = a0 :: t0 ++ [(i : Int)]) := fun j ys hj => by
      by_cases hjn : j = n
      · subst hjn; rw [List.getElem?_set_self hlt] at hj; cases hj; exact .inr ⟨rfl, rfl⟩
      · rw [List.getElem?_set_ne (Ne.symm hjn)] at hj; exact .inl ⟨hjn, hj⟩
    refine ⟨fun j ys hj => ?_, fun j k ys zs hjk hj hk => ?_, fun j ys hj => ?_, by have := h.cnt; simp; omega⟩
    · rcases at_ j ys hj with ⟨_, h1⟩ | ⟨_, rfl⟩
      · obtain ⟨a, t, e, ha⟩ := h.ne j ys h1; exact ⟨a, t, e, by omega⟩
      · exact ⟨a0, _, rfl, by omega⟩
    · rcases at_ j ys hj with ⟨_, h1⟩ | ⟨rfl, rfl⟩ <;> rcases at_ k zs hk with ⟨_, h2⟩ | ⟨rfl, rfl⟩
      · exact h.dis j k ys zs hjk h1 h2
      · simpa using h.dis j k ys _ hjk h1 hz0
      · simpa using h.dis j k _ zs hjk hz0 h2
      · exact absurd rfl hjk
    · rcases at_ j ys hj with ⟨_, h1⟩ | ⟨_, rfl⟩
      · have := h.len j ys h1; omega
      · simp at hl0 ⊢; omega
/-- Two rows whose first cells differ lie in different blocks. -/
theorem own_heads {w : World} {b1 b2 e n1 n2 : Nat} {u v : Value} {xs ys : List Value} {a b : Value} (h1 : w.ownsRow b1 e 1 u n1 xs) (h2 : w.ownsRow b2 e 1 v n2 ys) (ha : xs[0]? = some a) (hb : ys[0]? = some b) (hab : a ≠ b) : u.ownBlock ≠ v.ownBlock := by
  rcases h1.2 with ⟨_, h0⟩ | ⟨g, cap, cur, rfl, _, hg, _, _, _, ht⟩
  · have := h1.1; have := (List.getElem?_eq_some_iff.1 ha).1; omega
  · rcases h2.2 with ⟨_, h0⟩ | ⟨g', cap', cur', rfl, _, hg', _, _, _, ht'⟩
    · have := h2.1; have := (List.getElem?_eq_some_iff.1 hb).1; omega
    · intro e
      simp [Value.ownBlock] at e
      subst e
      rw [hg] at hg'
      cases hg'
      rw [← ht, List.getElem?_take] at ha
      rw [← ht', List.getElem?_take] at hb
      split at ha
      · split at hb
        · rw [ha] at hb; cases hb; exact hab rfl
        · cases hb
      · cases ha
/-- An inner row grown in place, and stored back. -/
theorem LL.grow {w w1 : World} {T g cap n x : Nat} {u u' : Value} {yss : List (List Int)} {vals : List Value} {ys : List Int} {o : Obj}
    (h1 : w.ownsRow T 35 1 (.slice (some ⟨g, 0, none⟩) yss.length cap) yss.length vals)
    (h2 : ∀ (j : Nat) (xs : List Int), j ≠ n → yss[j]? = some xs → ∃ u2, vals[j]? = some u2 ∧ w.ownsRow T 3 1 u2 xs.length (ints xs) ∧ (u2.ownBlock = none ∨ u2.ownBlock ≠ u.ownBlock))
    (hn : n < yss.length) (hu : w.ownsRow T 3 1 u ys.length (ints ys)) (hg : (w.alloc o).grownBy w1 u.ownBlock) (ho : w1.ownsRow T 3 1 u' (ys.length + 1) (ints (ys ++ [(x : Int)]))) :
    LL (w1.setCell ⟨g, n, none⟩ u') T (.slice (some ⟨g, 0, none⟩) yss.length cap) (yss.set n (ys ++ [(x : Int)])) := by
  have hv1 : w1.ownsRow T 35 1 (.slice (some ⟨g, 0, none⟩) yss.length cap) yss.length vals := (h1.alloc o).kept hg (own_types h1 hu (by decide))
  have hlen : vals.length = yss.length := by have := h1.1; omega
  obtain ⟨hs1, _⟩ := hv1.stored n u'
  have keep : ∀ {u2 : Value} {m : Nat} {zs : List Value}, w1.ownsRow T 3 1 u2 m zs → (w1.setCell ⟨g, n, none⟩ u').ownsRow T 3 1 u2 m zs := fun h3 => by
    refine ownsRow_setCell_other h3 ?_ _
    rcases own_types h3 hv1 (by decide) with h | h
    · rw [h]; simp
    · exact h
  refine ⟨vals.set n u', by simpa using hs1, fun j zs hj => ?_⟩
  by_cases hjn : j = n
  · subst hjn
    rw [List.getElem?_set_self hn] at hj
    cases hj
    exact ⟨u', List.getElem?_set_self (by omega), by simpa using keep ho⟩
  · rw [List.getElem?_set_ne (Ne.symm hjn)] at hj
    obtain ⟨u2, e1, e2, e3⟩ := h2 j zs hjn hj
    exact ⟨u2, by rw [List.getElem?_set_ne (Ne.symm hjn)]; exact e1, keep ((e2.alloc o).kept hg e3)⟩
theorem nfTo_snoc (xs : List Int) (i : Nat) (h : i < xs.length) : ∃ d : Nat, d ≤ (nfTo xs i).2.length ∧ (nfTo xs (i + 1)).1 = (nfTo xs i).1 ++ [(d : Int)] ∧ (nfTo xs (i + 1)).2.length = if d = (nfTo xs i).2.length then (nfTo xs i).2.length + 1 else (nfTo xs i).2.length := by
  rw [nfTo_succ (List.getElem?_eq_getElem h)]
  unfold nfStep
  split
  · rename_i hm
    have := List.idxOf_lt_length_of_mem hm
    exact ⟨_, Nat.le_of_lt this, rfl, by rw [if_neg (by omega)]⟩
  · exact ⟨_, Nat.le_refl _, rfl, by simp⟩
theorem nfTo_pre (xs : List Int) (i : Nat) : ∀ c, i + c ≤ xs.length → (nfTo xs (i + c)).1.take i = (nfTo xs i).1
  | 0, h => by
    have := (nfTo_ok xs i (by omega)).len
    rw [Nat.add_zero, List.take_of_length_le (by omega)]
  | c + 1, h => by
    obtain ⟨d, _, e, _⟩ := nfTo_snoc xs (i + c) (by omega)
    have h1 := (nfTo_ok xs (i + c) (by omega)).len
    rw [← Nat.add_assoc, e, List.take_append_of_le_length (by omega), nfTo_pre xs i c (by omega)]
theorem nf_len (xs : List Int) : (nf xs).length = xs.length := (nfTo_ok xs _ (Nat.le_refl _)).len
theorem grTo_ok (xs : List Int) : ∀ i, i ≤ xs.length → GrOk (grTo (nf xs) i) i ∧ (grTo (nf xs) i).length = (nfTo xs i).2.length
  | 0, _ => ⟨⟨by simp [grTo], by simp [grTo], by simp [grTo], by simp [grTo]⟩, by simp [grTo, nfTo]⟩
  | i + 1, h => by
    obtain ⟨h1, h2⟩ := grTo_ok xs i (by omega)
    obtain ⟨d, hd, e1, e2⟩ := nfTo_snoc xs i (by omega)
    have hp := nfTo_pre xs (i + 1) (xs.length - (i + 1)) (by omega)
    rw [show i + 1 + (xs.length - (i + 1)) = xs.length by omega, show (nfTo xs xs.length).1 = nf xs from rfl] at hp
    have h3 := (nfTo_ok xs i (by omega)).len
    have hg : (nf xs).getD i 0 = (d : Int) := by
      have h4 : ((nf xs).take (i + 1))[i]? = some (d : Int) := by rw [hp, e1, List.getElem?_append_right (by omega), h3]; simp
      rw [List.getElem?_take, if_pos (by omega)] at h4
      rw [List.getD_eq_getElem?_getD, h4]; rfl
    rw [grTo, hg, Int.toNat_natCast]
    refine ⟨grStep_ok h1 (by omega), ?_⟩
    rw [e2, ← h2]
    unfold grStep
    split
    · simp
    · simp
theorem gr_at (xs : List Int) (i : Nat) (h : i < xs.length) : ∃ d : Nat, (nf xs)[i]? = some (d : Int) ∧ d ≤ (grTo (nf xs) i).length ∧ grTo (nf xs) (i + 1) = grStep (grTo (nf xs) i) d i := by
  obtain ⟨d, hd, e1, e2⟩ := nfTo_snoc xs i h
  have hp := nfTo_pre xs (i + 1) (xs.length - (i + 1)) (by omega)
  rw [show i + 1 + (xs.length - (i + 1)) = xs.length by omega, show (nfTo xs xs.length).1 = nf xs from rfl] at hp
  have h3 := (nfTo_ok xs i (by omega)).len
  have h4 : ((nf xs).take (i + 1))[i]? = some (d : Int) := by rw [hp, e1, List.getElem?_append_right (by omega), h3]; simp
  rw [List.getElem?_take, if_pos (by omega)] at h4
  refine ⟨d, h4, by rw [(grTo_ok xs i (by omega)).2]; exact hd, ?_⟩
  rw [grTo, List.getD_eq_getElem?_getD, h4, Option.getD_some, Int.toNat_natCast]

set_option maxRecDepth 100000 in
set_option maxHeartbeats 2000000 in
theorem cgroups_any (A : Option Addr) (cap : Nat) (xs : List Int) (B : Nat) (w : World) (hB : B ≤ w.heap.size) (hl : xs.length ≤ 1000) (hp : RowAt w B A (ints xs)) :
    Calls Try.prog 32 #[.slice A xs.length cap] w fun e w' => ∃ A2 c2, e = .returned (.slice A2 (groups xs).length c2) ∧ RLL w' w'.heap.size A2 (groups xs) ∧ Below w.heap.size w w' := by
  obtain ⟨i3, hi, hz0, hz1, hz2⟩ := info_parts Try.info3
  have Hi3 := Lib.hid (show Try.prog.info? 3 = some i3 ∧ i3.zero = some _ ∧ i3.size = 1 ∧ i3.bytes = 8 from ⟨hi, hz0, hz1, hz2⟩)
  clear hi hz0 hz1 hz2
  obtain ⟨i35, hi, hz0, hz1, hz2⟩ := info_parts Try.info35
  have Hi35 := Lib.hid (show Try.prog.info? 35 = some i35 ∧ i35.zero = some _ ∧ i35.size = 1 ∧ i35.bytes = 24 from ⟨hi, hz0, hz1, hz2⟩)
  clear hi hz0 hz1 hz2
  have Hc := Lib.hid (cnormal_any A cap xs B w hB (by omega) hp)
  go_enter Try.func32, Try.ntmps32
  go_wp2_with fail
  refine Hc.out.mono ?_
  rintro e w1 ⟨g0, rfl, hg0, hblk0, hb1⟩
  have Hblk0 := Lib.hid hblk0
  have Hb1 := Lib.hid hb1
  have hs1 := hb1.size
  have hg1 := hblk0.lt
  clear hblk0 hb1 Hc
  go_wp2_with fail
  go_loopw [9, 3] (fun ii v wr => ∃ i : Nat, i ≤ xs.length ∧ ii = .int .i64 i ∧ LL wr w1.heap.size v (grTo (nf xs) i) ∧ Below w1.heap.size w1 wr) (fun ii _ _ => xs.length - (intOf ii).toNat)
  case atStart => exact ⟨0, Nat.zero_le _, rfl, LL.nil _ _, Below.refl _ _⟩
  case round =>
    obtain ⟨i, hi, rfl, hll, hb⟩ := hrel
    have hok := (grTo_ok xs i hi).1
    by_cases hin : i < xs.length
    · obtain ⟨d, hd1, hd2, hd3⟩ := gr_at xs i hin
      obtain ⟨yss, hy⟩ : ∃ yss, yss = grTo (nf xs) i := ⟨_, rfl⟩
      rw [← hy] at hll hok hd2 hd3
      obtain ⟨vals, hv1, hv2⟩ := hll
      obtain ⟨A3, c3, rfl⟩ := own_slice hv1
      have d1 : wr.cell? ⟨g0, i, none⟩ = some (.int .i64 (d : Int)) := by rw [(Hblk0.out.call hb).cell i]; simp [hd1]
      have hcnt := hok.cnt
      have hsz := hb.size
      have Hv1 := Lib.hid hv1
      have Hv2 := Lib.hid hv2
      have Hb := Lib.hid hb
      have Hok := Lib.hid hok
      clear hv1 hv2 hb hok hd1 hy
      by_cases hnew : d = yss.length
      · subst hnew
        have hstep : grTo (nf xs) (i + 1) = (yss ++ [[]]).set yss.length ([] ++ [(i : Int)]) := by rw [hd3, grStep, if_pos rfl]; simp
        have Hstep := Lib.hid hstep
        clear hstep hd3
        go_wp2_with (first
          | (at_builtin; refine wpList_append_own _ rfl (.tmp 18) (.tmp 19) 59 rfl w1.heap.size 35 i35 _ 1 24 Try.underlying59 Hi35.out.1 Hi35.out.2.1 Hi35.out.2.2.1 Hi35.out.2.2.2 rfl (by omega) (.slice A3 yss.length c3) yss.length vals rfl (Hv1.out.alloc _) ⟨wr.heap.size, 0, none⟩ 1 1 [.slice none 0 0] rfl rfl (cell_one_new _ _ _) (by simp [Value.oneCell']) (by simp [maxLen]; omega) (by omega) (by simp; omega) ?_; intro v2 w2 ho2 hg2 _; obtain ⟨q2, c2, hv2⟩ : ∃ q2 c2, v2 = .slice (some ⟨q2, 0, none⟩) (yss.length + 1) c2 := own_form2 ho2; rw [hv2]; rw [hv2] at ho2; have e2 := ho2.cellAt yss.length (by omega); rw [List.getElem?_append_right (by have := Hv1.out.1; omega), show yss.length - vals.length = 0 by (have := Hv1.out.1; omega)] at e2; simp only [List.getElem?_cons_zero] at e2; have hs2 : wr.heap.size + 1 ≤ w2.heap.size := (by have := hg2.size; simpa using this); have Ho2 := Lib.hid ho2; have Hg2 := Lib.hid hg2; clear ho2 hg2 hv2)
          | (at_builtin; refine wpList_append_own _ rfl (.tmp 26) (.tmp 28) 35 rfl w1.heap.size 3 i3 _ 1 8 Try.underlying35 Hi3.out.1 Hi3.out.2.1 Hi3.out.2.2.1 Hi3.out.2.2.2 rfl (by omega) (.slice none 0 0) 0 [] rfl (World.ownsRow_nil _ _ _ _) ⟨w2.heap.size, 0, none⟩ 1 1 [.int .i64 (i : Int)] rfl rfl (cell_one_new _ _ _) (ints_oneCell .i64 [(i : Int)]) (by simp [maxLen]) (by omega) (by simp; omega) ?_; intro v3 w3 ho3 hg3 _; obtain ⟨q3, c4, hv3⟩ : ∃ q3 c4, v3 = .slice (some ⟨q3, 0, none⟩) (0 + 1) c4 := own_form2 ho3; rw [hv3]; rw [hv3] at ho3; have r3 := (Ho2.out.alloc (.cells #[.int .i64 (i : Int)] 3)).kept hg3 (.inr (by simp [Value.ownBlock])); have e3 := r3.cellAt yss.length (by omega); rw [List.getElem?_append_right (by have := Hv1.out.1; omega), show yss.length - vals.length = 0 by (have := Hv1.out.1; omega)] at e3; simp only [List.getElem?_cons_zero] at e3; have f3 := r3.frozenAt yss.length; have Ho3 := Lib.hid ho3; have Hg3 := Lib.hid hg3; clear ho3 hg3 r3 hv3))
        go_roundw
        case rel =>
          have hlen : vals.length = yss.length := by have := Hv1.out.1; omega
          have hgr := LL.grow (x := i) (ys := []) (u := .slice none 0 0) (yss := yss ++ [[]]) (n := yss.length) (T := w1.heap.size) (g := q2) (cap := c2) (vals := vals ++ [.slice none 0 0]) (by simpa using Ho2.out) (fun j zs hj hz => by
            have hjl := (List.getElem?_eq_some_iff.1 hz).1
            simp at hjl
            have hjl : j < yss.length := by omega
            rw [List.getElem?_append_left hjl] at hz
            obtain ⟨u2, e1, e2⟩ := Hv2.out j zs hz
            exact ⟨u2, by rw [List.getElem?_append_left (by omega)]; exact e1, (e2.alloc _).kept Hg2.out (own_types e2 Hv1.out (by decide)), Classical.em _⟩) (by simp) (World.ownsRow_nil _ _ _ _) Hg3.out (by simpa using Ho3.out)
          rw [← Hstep.out] at hgr
          have hbel : Below w1.heap.size w1 w3 := ((((Hb.out.alloc hsz _).grown Hg2.out (by simp; omega) (fun g e => (Hv1.out.lt g e).1)).alloc (by omega) _).grown Hg3.out (by simp; omega) (by simp [Value.ownBlock]))
          exact ⟨i + 1, by omega, by go_num, by simpa using hgr, hbel.setCell (Ho2.out.lt q2 rfl).1 _⟩
        case measure => simp [intOf]; omega
      · have hdl : d < yss.length := by omega
        obtain ⟨ys, hys⟩ : ∃ ys, yss[d]? = some ys := ⟨_, List.getElem?_eq_getElem hdl⟩
        have hstep : grTo (nf xs) (i + 1) = yss.set d (ys ++ [(i : Int)]) := by rw [hd3, grStep, if_neg hnew]; simp [hys]
        obtain ⟨u, hu1, hu2⟩ := Hv2.out d ys hys
        obtain ⟨q2, hA⟩ : ∃ q2, A3 = some ⟨q2, 0, none⟩ := by
          rcases Hv1.out.2 with ⟨_, h0⟩ | ⟨q2, c, cur, h, _⟩
          · omega
          · injection h with h _ _; exact ⟨q2, h⟩
        subst hA
        have e2 := Hv1.out.cellAt d (by omega)
        rw [hu1] at e2
        obtain ⟨A4, c4, rfl⟩ := own_slice hu2
        have hyl := Hok.out.len d ys hys
        have Hstep := Lib.hid hstep
        have Hys := Lib.hid hys
        have Hu1 := Lib.hid hu1
        have Hu2 := Lib.hid hu2
        clear hstep hd3 hys hu1 hu2
        go_wp2_with (at_builtin; refine wpList_append_own _ rfl (.tmp 26) (.tmp 28) 35 rfl w1.heap.size 3 i3 _ 1 8 Try.underlying35 Hi3.out.1 Hi3.out.2.1 Hi3.out.2.2.1 Hi3.out.2.2.2 rfl (by omega) (.slice A4 ys.length c4) ys.length (ints ys) rfl (Hu2.out.alloc _) ⟨wr.heap.size, 0, none⟩ 1 1 [.int .i64 (i : Int)] rfl rfl (cell_one_new _ _ _) (ints_oneCell .i64 [(i : Int)]) (by simp [maxLen]; omega) (by omega) (by simp; omega) ?_; intro v3 w3 ho3 hg3 _; obtain ⟨q3, c5, hv3⟩ : ∃ q3 c5, v3 = .slice (some ⟨q3, 0, none⟩) (ys.length + 1) c5 := own_form2 ho3; rw [hv3]; rw [hv3] at ho3; have r3 := (Hv1.out.alloc (.cells #[.int .i64 (i : Int)] 3)).kept hg3 (own_types Hv1.out Hu2.out (by decide)); have e3 := r3.cellAt d (by omega); rw [Hu1.out] at e3; have f3 := r3.frozenAt d; have Ho3 := Lib.hid ho3; have Hg3 := Lib.hid hg3; clear ho3 hg3 r3 hv3)
        go_roundw
        case rel =>
          have hgr := LL.grow (x := i) (ys := ys) (u := .slice A4 ys.length c4) (yss := yss) (n := d) (T := w1.heap.size) (g := q2) (cap := c3) (vals := vals) Hv1.out (fun j zs hj hz => by
            obtain ⟨u2, k1, k2⟩ := Hv2.out j zs hz
            refine ⟨u2, k1, k2, .inr ?_⟩
            obtain ⟨a, t, rfl, _⟩ := Hok.out.ne j zs hz
            obtain ⟨b, t', rfl, _⟩ := Hok.out.ne d ys Hys.out
            have hne := Hok.out.dis j d _ _ hj hz Hys.out
            exact own_heads k2 Hu2.out (a := .int .i64 a) (b := .int .i64 b) rfl rfl (by intro e; cases e; exact hne rfl)) hdl Hu2.out Hg3.out (by simpa using Ho3.out)
          rw [← Hstep.out] at hgr
          have hbel : Below w1.heap.size w1 w3 := (Hb.out.alloc hsz _).grown Hg3.out (by simp; omega) (fun g e => (Hu2.out.lt g e).1)
          exact ⟨i + 1, by omega, by go_num, hgr, hbel.setCell (Hv1.out.lt q2 rfl).1 _⟩
        case measure => simp [intOf]; omega
    · obtain rfl : i = xs.length := by omega
      obtain ⟨A2, c2, hv⟩ : ∃ A2 c2, u3 = .slice A2 (groups xs).length c2 := by
        obtain ⟨vals, h1, _⟩ := hll
        exact own_slice h1
      subst hv
      have Hll := Lib.hid hll
      have Hb := Lib.hid hb
      clear hll hb hok
      go_wp2_with fail
      go_ret
      exact ⟨A2, c2, rfl, Hll.out.read, Hb1.out.trans (Hb.out.mono hs1)⟩
end Go.Proofs.Ytmjicfafjjgekaa
