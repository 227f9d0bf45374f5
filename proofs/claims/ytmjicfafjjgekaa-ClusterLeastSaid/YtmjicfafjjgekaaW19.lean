/- W19: the walk of drossref54.All. -/
import Derived.Test.YtmjicfafjjgekaaW18
import Derived.Test.YtmjicfafjjgekaaLists
import Derived.Laws.AppendOwnNone
namespace Go.Proofs.Ytmjicfafjjgekaa
open Go.RowKit Go.Dr

def mxTo (xs : List Int) : Nat → Int
  | 0 => -1
  | j + 1 => max (mxTo xs j) (xs.getD j 0)
def mx (xs : List Int) : Int := mxTo xs xs.length
def stepL (xs : List Int) (c : Nat) : List (List Int) := (List.range c).map fun (label : Nat) => xs ++ [(label : Int)]
def allStep (xs : List Int) : List (List Int) := stepL xs (mx xs + 2).toNat
def allN : Nat → List (List Int)
  | 0 => [[]]
  | i + 1 => (allN i).flatMap allStep
theorem stepL_succ (xs : List Int) (c : Nat) : stepL xs (c + 1) = stepL xs c ++ [xs ++ [(c : Int)]] := by simp [stepL, List.range_succ]
theorem mxTo_lo (xs : List Int) : ∀ j, -1 ≤ mxTo xs j
  | 0 => by simp [mxTo]
  | j + 1 => by have := mxTo_lo xs j; simp only [mxTo]; omega
theorem mxTo_append {xs : List Int} (x : Int) : ∀ {j : Nat}, j ≤ xs.length → mxTo (xs ++ [x]) j = mxTo xs j
  | 0, _ => rfl
  | j + 1, h => by
    rw [mxTo, mxTo, mxTo_append x (by omega)]
    congr 1
    simp only [List.getD_eq_getElem?_getD, List.getElem?_append_left (show j < xs.length by omega)]
theorem mx_snoc (xs : List Int) (x : Int) : mx (xs ++ [x]) = max (mx xs) x := by
  unfold mx
  rw [List.length_append, List.length_cons, List.length_nil, mxTo, mxTo_append x (Nat.le_refl _)]
  simp
/-- Every list of the i-th round has i labels below i. -/
theorem allN_ok : ∀ (i : Nat) (xs : List Int), xs ∈ allN i → xs.length = i ∧ mx xs ≤ (i : Int) - 1 ∧ (∀ x ∈ xs, 0 ≤ x ∧ x < i)
  | 0, xs, h => by simp [allN] at h; subst h; simp [mx, mxTo]
  | i + 1, xs, h => by
    simp only [allN, List.mem_flatMap, allStep, stepL, List.mem_map, List.mem_range] at h
    obtain ⟨ys, hy, label, hl, rfl⟩ := h
    obtain ⟨h1, h2, h3⟩ := allN_ok i ys hy
    have := mxTo_lo ys ys.length
    refine ⟨by simp [h1], ?_, ?_⟩
    · rw [mx_snoc]; omega
    · intro x hx
      simp at hx
      rcases hx with hx | rfl
      · have := h3 x hx; omega
      · omega
theorem allStep_len {i : Nat} {xs : List Int} (h : xs ∈ allN i) : (allStep xs).length ≤ i + 1 := by
  have := (allN_ok i xs h).2.1
  simp only [allStep, stepL, List.length_map, List.length_range]
  omega
theorem flat_bd {i c : Nat} (hc : i + 1 ≤ c) (l : List (List Int)) (h : ∀ xs ∈ l, xs ∈ allN i) : (l.flatMap allStep).length ≤ l.length * c := by
  induction l with
  | nil => simp
  | cons x l ih =>
    have h1 := ih (fun y hy => h y (List.mem_cons_of_mem _ hy))
    have h2 := allStep_len (h x List.mem_cons_self)
    simp only [List.flatMap_cons, List.length_append, List.length_cons, Nat.add_mul]
    omega
theorem allN_bd : ∀ i, i ≤ 8 → (allN i).length ≤ 10 ^ i
  | 0, _ => by simp [allN]
  | i + 1, h => by
    have h1 := allN_bd i (by omega)
    have h2 := flat_bd (i := i) (c := 10) (by omega) (allN i) (fun _ h => h)
    rw [allN, Nat.pow_succ]
    omega

theorem Try.info35 : (Try.prog.info? 35).map (fun i => (i.zero, i.size, i.bytes)) = some (some (.slice none 0 0), 1, 24) := by kernel_rfl

theorem own_form2 {w : World} {base e j : Nat} {v : Value} {xs : List Value} (h : w.ownsRow base e 1 v (j + 1) xs) : ∃ q c, v = .slice (some ⟨q, 0, none⟩) (j + 1) c := by
  rcases h.2 with ⟨_, h⟩ | ⟨q, c, cur, h, _⟩
  · omega
  · exact ⟨q, c, h⟩
theorem LL.push' {w w1 : World} {T : Nat} {v v1 u : Value} {xss : List (List Int)} {vals : List Value} {xs : List Int} {o : Obj} (h1 : w.ownsRow T 35 1 v xss.length vals)
    (h2 : ∀ (j : Nat) (xs : List Int), xss[j]? = some xs → ∃ u, vals[j]? = some u ∧ w.ownsRow T 3 1 u xs.length (ints xs)) (hu : w.ownsRow T 3 1 u xs.length (ints xs)) (hg : (w.alloc o).grownBy w1 v.ownBlock)
    (hv1 : w1.ownsRow T 35 1 v1 (xss.length + 1) (vals ++ [u])) : LL w1 T v1 (xss ++ [xs]) := by
  have hlen : vals.length = xss.length := by have := h1.1; omega
  have keep : ∀ {u' : Value} {n : Nat} {ys : List Value}, w.ownsRow T 3 1 u' n ys → w1.ownsRow T 3 1 u' n ys := fun hu' => (hu'.alloc o).kept hg (own_types hu' h1 (by decide))
  refine ⟨vals ++ [u], by simpa using hv1, fun j ys hj => ?_⟩
  by_cases hjl : j < xss.length
  · rw [List.getElem?_append_left hjl] at hj
    obtain ⟨u', e1, e2⟩ := h2 j ys hj
    exact ⟨u', by rw [List.getElem?_append_left (by omega)]; exact e1, keep e2⟩
  · obtain ⟨hj1, hj2⟩ := List.getElem?_eq_some_iff.1 hj
    simp at hj1
    obtain rfl : j = xss.length := by omega
    rw [List.getElem?_append_right (by omega)] at hj
    simp at hj
    subst hj
    exact ⟨u, by rw [List.getElem?_append_right (by omega)]; simp [hlen], keep hu⟩

set_option maxRecDepth 100000 in
set_option maxHeartbeats 2000000 in
theorem all_any (n : Nat) (hn : n ≤ 8) (w : World) :
    Calls Try.prog 36 #[.int .i64 (n : Int)] w fun e w' => ∃ A c, e = .returned (.slice A (allN n).length c) ∧ RLL w' w'.heap.size A (allN n) ∧ Below w.heap.size w w' := by
  obtain ⟨i3, hi, hz0, hz1, hz2⟩ := info_parts Try.info3
  have Hi3 := Lib.hid (show Try.prog.info? 3 = some i3 ∧ i3.zero = some _ ∧ i3.size = 1 ∧ i3.bytes = 8 from ⟨hi, hz0, hz1, hz2⟩)
  clear hi hz0 hz1 hz2
  obtain ⟨i35, hi, hz0, hz1, hz2⟩ := info_parts Try.info35
  have Hi35 := Lib.hid (show Try.prog.info? 35 = some i35 ∧ i35.zero = some _ ∧ i35.size = 1 ∧ i35.bytes = 24 from ⟨hi, hz0, hz1, hz2⟩)
  clear hi hz0 hz1 hz2
  go_enter Try.func36, Try.ntmps36
  go_wp2_with fail
  go_loopw [4, 3] (fun ii vo wr => ∃ (i : Nat) (A : Option Addr) (c : Nat), i ≤ n ∧ ii = .int .i64 i ∧ vo = .slice A (allN i).length c ∧ RLL wr wr.heap.size A (allN i) ∧ Below w.heap.size w wr) (fun ii _ _ => n - (intOf ii).toNat)
  case atStart =>
    refine ⟨0, some ⟨w.heap.size, 0, none⟩, 1, Nat.zero_le _, rfl, rfl, ⟨[.slice none 0 0], rfl, ?_, ?_⟩, (Below.refl _ _).alloc (Nat.le_refl _) _⟩
    · exact (Blk.new w 35 #[.slice none 0 0]).row
    · intro j xs hj
      obtain ⟨h1, h2⟩ := List.getElem?_eq_some_iff.1 hj
      simp [allN] at h1
      subst h1
      simp [allN] at hj
      subst hj
      exact ⟨none, 0, rfl, RowAt.nil, fun _ => ⟨rfl, rfl⟩⟩
  case round =>
    obtain ⟨i, A, c, hi, rfl, rfl, hrl, hb⟩ := hrel
    have Hrl := Lib.hid hrl
    have Hb := Lib.hid hb
    have hsz := hb.size
    have hcnt : (allN i).length ≤ 100000000 := by
      have h1 := allN_bd i (by omega)
      have h2 : 10 ^ i ≤ 10 ^ 8 := Nat.pow_le_pow_right (by omega) (by omega)
      omega
    clear hrl hb
    by_cases hin : i < n
    · go_wp2_with fail
      obtain ⟨wo, rfl⟩ : ∃ wo : World, wo = wr := ⟨_, rfl⟩
      go_loopw [6, 5] (fun kk v wr => ∃ k : Nat, k ≤ (allN i).length ∧ kk = .int .i64 k ∧ LL wr wo.heap.size v (((allN i).take k).flatMap allStep) ∧ Below wo.heap.size wo wr) (fun kk _ _ => (allN i).length - (intOf kk).toNat)
      case atStart => exact ⟨0, Nat.zero_le _, rfl, LL.nil _ _, Below.refl _ _⟩
      case round =>
        obtain ⟨k, hk, rfl, hll, hbk⟩ := hrel
        have Hll := Lib.hid hll
        have Hbk := Lib.hid hbk
        have hszk := hbk.size
        clear hll hbk
        by_cases hkc : k < (allN i).length
        · obtain ⟨xs, hxs⟩ : ∃ xs, (allN i)[k]? = some xs := ⟨_, List.getElem?_eq_getElem hkc⟩
          obtain ⟨b, off, A', c', rfl, hbb, d1, hrx, hnx⟩ := (Hrl.out.below Hbk.out).at_ hxs
          have hmem := allN_ok i xs (List.mem_of_getElem? hxs)
          obtain ⟨hxl, hmx, hxb⟩ := hmem
          have hmx0 := mxTo_lo xs xs.length
          have hnext : ((allN i).take (k + 1)).flatMap allStep = ((allN i).take k).flatMap allStep ++ allStep xs := by rw [take_snoc hxs]; simp
          have Hnext := Lib.hid hnext
          have hbd : (((allN i).take k).flatMap allStep).length ≤ 1000000000 := by
            have h1 := flat_bd (i := i) (c := 10) (by omega) ((allN i).take k) (fun y hy => List.mem_of_mem_take hy)
            have h2 : ((allN i).take k).length ≤ (allN i).length := by simp; omega
            omega
          have Hrx := Lib.hid hrx
          have Hnx := Lib.hid hnx
          have Hxb := Lib.hid hxb
          have Hxl := Lib.hid hxl
          have hxl8 : xs.length ≤ 8 := by omega
          clear hxs hrx hnx hxb hnext hxl
          go_wp2_with fail
          go_loop [8, 7] (fun jj mm => ∃ j : Nat, j ≤ xs.length ∧ jj = .int .i64 j ∧ mm = .int .i64 (mxTo xs j)) (fun jj _ => xs.length - (intOf jj).toNat)
          case atStart => exact ⟨0, Nat.zero_le _, rfl, rfl⟩
          case round =>
            obtain ⟨j, hj, rfl, rfl⟩ := hrel
            have hm0 := mxTo_lo xs j
            obtain ⟨M, hM⟩ : ∃ M, M = mxTo xs j := ⟨_, rfl⟩
            rw [← hM] at hm0 ⊢
            by_cases hjl : j < xs.length
            · obtain ⟨b2, off2, x, rfl, hb2, hx, d2⟩ := ints_at' Hrx.out hjl
              have hst : mxTo xs (j + 1) = max M x := by rw [mxTo, ← hM]; simp [hx]
              have Hst := Lib.hid hst
              have hxbx := Hxb.out x (List.mem_of_getElem? hx)
              clear hst hx hM
              by_cases hMx : M < x
              · have hmax : max M x = x := by omega
                rw [hmax] at Hst
                clear hmax
                go_wp2_with fail
                go_round
                case rel => exact ⟨j + 1, by omega, by go_num, by rw [Hst.out]⟩
                case measure => simp [intOf]; omega
              · have hmax : max M x = M := by omega
                rw [hmax] at Hst
                clear hmax
                go_wp2_with fail
                go_round
                case rel => exact ⟨j + 1, by omega, by go_num, by rw [Hst.out]⟩
                case measure => simp [intOf]; omega
            · obtain rfl : j = xs.length := by omega
              have hMx : M = mx xs := hM
              have HM := Lib.hid hMx
              have hM9 : M ≤ 9 := by rw [hMx]; omega
              clear hM hjl hMx
              go_wp2_with fail
              obtain ⟨wq, rfl⟩ : ∃ wq : World, wq = wr := ⟨_, rfl⟩
              go_loopw [9, 5] (fun ll v wr => ∃ l : Nat, (l : Int) ≤ M + 2 ∧ ll = .int .i64 l ∧ LL wr wo.heap.size v (((allN i).take k).flatMap allStep ++ stepL xs l) ∧ Below wo.heap.size wo wr) (fun ll _ _ => (M + 2).toNat - (intOf ll).toNat)
              case atStart => exact ⟨0, by omega, rfl, by simpa [stepL] using Hll.out, Hbk.out⟩
              case round =>
                obtain ⟨l, hl, rfl, hll, hbl⟩ := hrel
                obtain ⟨yss, hyss⟩ : ∃ yss, yss = ((allN i).take k).flatMap allStep ++ stepL xs l := ⟨_, rfl⟩
                rw [← hyss] at hll
                have hyl : yss.length ≤ 1000000100 := by
                  have h1 : (stepL xs l).length = l := by simp [stepL]
                  rw [hyss, List.length_append]; omega
                have Hyss := Lib.hid hyss
                obtain ⟨vals, hv1, hv2⟩ := hll
                have Hv1 := Lib.hid hv1
                have Hv2 := Lib.hid hv2
                have Hbl := Lib.hid hbl
                have hszl := hbl.size
                clear hyss hv1 hv2 hbl
                by_cases hlM : (l : Int) ≤ M + 1
                · have e1 := (World.cell?_of_block (Hbl.out.block b hbb) : wr.cell? ⟨b, off + k, none⟩ = wo.cell? ⟨b, off + k, none⟩)
                  have e2 : wr.cell? ⟨b, off + k, none⟩ = some (.slice A' xs.length c') := by
                    rw [e1, ← d1]; exact (World.cell?_of_block (Hbk.out.block b hbb)).symm
                  have Hr2 := Lib.hid (show RowAt wr wo.heap.size A' (ints xs) from Hrx.out.keep fun p hp => (World.cell?_of_block (Hbl.out.block p.block hp)).trans (World.cell?_of_block (Hbk.out.block p.block hp)).symm)
                  have hlt : b < wr.heap.size := by omega
                  clear e1 d1
                  have hown0 : (wr.alloc (.cells #[] 3)).ownsRow wr.heap.size 3 1 (.slice (some ⟨wr.heap.size, 0, none⟩) 0 0) 0 [] := World.ownsRow_lit wr #[] 0 (Nat.le_refl _) (by simp [maxLen]) (by simp)
                  have Hown0 := Lib.hid hown0
                  clear hown0
                  have hstep : yss ++ [xs ++ [(l : Int)]] = ((allN i).take k).flatMap allStep ++ stepL xs (l + 1) := by rw [Hyss.out, stepL_succ, List.append_assoc]
                  have Hstep := Lib.hid hstep
                  clear hstep
                  cases A' with
                  | none =>
                    obtain ⟨hx0, rfl⟩ := Hnx.out rfl
                    subst hx0
                    go_wp2_with (first
                      | (at_builtin; refine wpList_append_own_none rfl (.tmp 47) (.tmp 51) 35 rfl wr.heap.size 3 i3 1 Try.underlying35 Hi3.out.1 (.slice (some ⟨wr.heap.size, 0, none⟩) 0 0) 0 [] rfl Hown0.out rfl ?_)
                      | (at_builtin; refine wpList_append_own _ rfl (.tmp 52) (.tmp 54) 35 rfl wr.heap.size 3 i3 _ 1 8 Try.underlying35 Hi3.out.1 Hi3.out.2.1 Hi3.out.2.2.1 Hi3.out.2.2.2 rfl (by omega) (.slice (some ⟨wr.heap.size, 0, none⟩) 0 0) 0 [] rfl (Hown0.out.alloc _) ⟨wr.heap.size + 1, 0, none⟩ 1 1 [.int .i64 (l : Int)] rfl rfl (by have := cell_one_new (wr.alloc (.cells #[] 3)) (.int .i64 (l : Int)) 3; simpa using this) (ints_oneCell .i64 [(l : Int)]) (by simp [maxLen]) (by omega) (by simp; omega) ?_; intro v2 w2 ho2 hg2 _; obtain ⟨q2, c2, hv2⟩ : ∃ q2 c2, v2 = .slice (some ⟨q2, 0, none⟩) (0 + 1) c2 := own_form2 ho2; rw [hv2]; rw [hv2] at ho2; have Ho2 := Lib.hid ho2; have Hb2 := Lib.hid ((((Below.refl wr.heap.size wr).alloc (Nat.le_refl _) (.cells #[] 3)).alloc (by simp) (.cells #[.int .i64 (l : Int)] 3)).grown hg2 (by simp; omega) (by simp [Value.ownBlock])); have hs2 := Hb2.out.size; clear ho2 hg2 hv2)
                      | (at_builtin; refine wpList_append_own _ rfl (.tmp 46) (.tmp 56) 59 rfl wo.heap.size 35 i35 _ 1 24 Try.underlying59 Hi35.out.1 Hi35.out.2.1 Hi35.out.2.2.1 Hi35.out.2.2.2 rfl (by omega) u5 yss.length vals rfl ((own_below Hv1.out Hb2.out).alloc _) ⟨w2.heap.size, 0, none⟩ 1 1 [.slice (some ⟨q2, 0, none⟩) (0 + 1) c2] rfl rfl (cell_one_new _ _ _) (by simp [Value.oneCell']) (by simp [maxLen]; omega) (by omega) (by simp; omega) ?_; intro v3 w3 ho3 hg3 _; have Ho3 := Lib.hid ho3; have Hg3 := Lib.hid hg3; clear ho3 hg3))
                    go_roundw
                    case rel =>
                      have hu : w2.ownsRow wo.heap.size 3 1 (.slice (some ⟨q2, 0, none⟩) (0 + 1) c2) ([] ++ [(l : Int)]).length (ints ([] ++ [(l : Int)])) := by
                        have := own_more Ho2.out (base' := wo.heap.size) hszl
                        simpa using this
                      have hpush := LL.push' (own_below Hv1.out Hb2.out) (fun j ys hj => by obtain ⟨u, e1, e2⟩ := Hv2.out j ys hj; exact ⟨u, e1, own_below e2 Hb2.out⟩) hu Hg3.out Ho3.out
                      rw [Hstep.out] at hpush
                      have hbel : Below wo.heap.size wo w3 := ((Hbl.out.trans (Hb2.out.mono hszl)).alloc (by omega) _).grown Hg3.out (by simp; omega) (fun g e => (Hv1.out.lt g e).1)
                      first
                        | exact ⟨l + 1, by omega, by go_num, hpush, hbel⟩
                        | ((repeat apply Exists.intro); exact ⟨⟨l + 1, by omega, by go_num, hpush, hbel⟩, rfl⟩)
                    case measure => simp [intOf]; omega
                  | some ad =>
                    have hnews : ∀ j u, (ints xs)[j]? = some u → (wr.alloc (.cells #[] 3)).cell? (ad.add j) = some u := by
                      intro j u hu
                      obtain ⟨b3, off3, h1, h2, h3⟩ := (Hr2.out.alloc (by omega) (.cells #[] 3)).at1 hu
                      cases h1
                      rw [show (⟨b3, off3, none⟩ : Addr).add j = ⟨b3, off3 + j, none⟩ from by unfold Addr.add; split <;> simp_all]
                      exact h3
                    have Hnews := Lib.hid hnews
                    clear hnews
                    go_wp2_with (first
                      | (at_builtin; refine wpList_append_own _ rfl (.tmp 47) (.tmp 51) 35 rfl wr.heap.size 3 i3 _ 1 8 Try.underlying35 Hi3.out.1 Hi3.out.2.1 Hi3.out.2.2.1 Hi3.out.2.2.2 rfl (by omega) (.slice (some ⟨wr.heap.size, 0, none⟩) 0 0) 0 [] rfl Hown0.out ad xs.length c' (ints xs) rfl (by simp) Hnews.out (ints_oneCell .i64 xs) (by simp [maxLen]; omega) (by omega) (by simp) ?_; intro v1 w1 ho1 hg1 _; simp only [Nat.zero_add, List.nil_append] at ho1; have Ho1 := Lib.hid ho1; have Hb1 := Lib.hid (((Below.refl wr.heap.size wr).alloc (Nat.le_refl _) (.cells #[] 3)).grown hg1 (by simp) (by simp [Value.ownBlock])); have hs1 := Hb1.out.size; clear ho1 hg1)
                      | (at_builtin; refine wpList_append_own _ rfl (.tmp 52) (.tmp 54) 35 rfl wr.heap.size 3 i3 _ 1 8 Try.underlying35 Hi3.out.1 Hi3.out.2.1 Hi3.out.2.2.1 Hi3.out.2.2.2 rfl (by omega) v1 xs.length (ints xs) rfl (Ho1.out.alloc _) ⟨w1.heap.size, 0, none⟩ 1 1 [.int .i64 (l : Int)] rfl rfl (cell_one_new _ _ _) (ints_oneCell .i64 [(l : Int)]) (by simp [maxLen]; omega) (by omega) (by simp; omega) ?_; intro v2 w2 ho2 hg2 _; obtain ⟨q2, c2, hv2⟩ : ∃ q2 c2, v2 = .slice (some ⟨q2, 0, none⟩) (xs.length + 1) c2 := own_form2 ho2; rw [hv2]; rw [hv2] at ho2; have Ho2 := Lib.hid ho2; have Hb2 := Lib.hid ((Hb1.out.alloc (by omega) (.cells #[.int .i64 (l : Int)] 3)).grown hg2 (by simp; omega) (fun g e => (Ho1.out.lt g e).1)); have hs2 := Hb2.out.size; clear ho2 hg2 hv2)
                      | (at_builtin; refine wpList_append_own _ rfl (.tmp 46) (.tmp 56) 59 rfl wo.heap.size 35 i35 _ 1 24 Try.underlying59 Hi35.out.1 Hi35.out.2.1 Hi35.out.2.2.1 Hi35.out.2.2.2 rfl (by omega) u5 yss.length vals rfl ((own_below Hv1.out Hb2.out).alloc _) ⟨w2.heap.size, 0, none⟩ 1 1 [.slice (some ⟨q2, 0, none⟩) (xs.length + 1) c2] rfl rfl (cell_one_new _ _ _) (by simp [Value.oneCell']) (by simp [maxLen]; omega) (by omega) (by simp; omega) ?_; intro v3 w3 ho3 hg3 _; have Ho3 := Lib.hid ho3; have Hg3 := Lib.hid hg3; clear ho3 hg3))
                    go_roundw
                    case rel =>
                      have hu : w2.ownsRow wo.heap.size 3 1 (.slice (some ⟨q2, 0, none⟩) (xs.length + 1) c2) (xs ++ [(l : Int)]).length (ints (xs ++ [(l : Int)])) := by
                        have := own_more Ho2.out (base' := wo.heap.size) hszl
                        simpa using this
                      have hpush := LL.push' (own_below Hv1.out Hb2.out) (fun j ys hj => by obtain ⟨u, e1, e2⟩ := Hv2.out j ys hj; exact ⟨u, e1, own_below e2 Hb2.out⟩) hu Hg3.out Ho3.out
                      rw [Hstep.out] at hpush
                      have hbel : Below wo.heap.size wo w3 := ((Hbl.out.trans (Hb2.out.mono hszl)).alloc (by omega) _).grown Hg3.out (by simp; omega) (fun g e => (Hv1.out.lt g e).1)
                      first
                        | exact ⟨l + 1, by omega, by go_num, hpush, hbel⟩
                        | ((repeat apply Exists.intro); exact ⟨⟨l + 1, by omega, by go_num, hpush, hbel⟩, rfl⟩)
                    case measure => simp [intOf]; omega
                · have hle : (l : Int) = M + 2 := by omega
                  have hfin : ((allN i).take (k + 1)).flatMap allStep = yss := by
                    rw [Hnext.out, Hyss.out, allStep, ← HM.out, show (M + 2).toNat = l by omega]
                  have Hfin := Lib.hid hfin
                  clear hle hfin
                  go_wp2_with fail
                  go_roundw
                  case rel => exact ⟨k + 1, by omega, by go_num, by rw [Hfin.out]; exact ⟨vals, Hv1.out, Hv2.out⟩, Hbl.out⟩
                  case measure => simp [intOf]; omega
        · have e : (allN i).take k = allN i := List.take_of_length_le (by omega)
          rw [e] at Hll
          obtain ⟨A2, c2, hv⟩ : ∃ A2 c2, u5 = .slice A2 (allN (i + 1)).length c2 := by
            obtain ⟨vals, h1, _⟩ := Hll.out
            exact own_slice h1
          have Hv := Lib.hid hv
          clear hv e
          go_wp2_with fail
          go_roundw
          case rel =>
            refine ⟨i + 1, A2, c2, by omega, by go_num, Hv.out, ?_, Hb.out.trans (Hbk.out.mono hsz)⟩
            have h1 := Hll.out
            rw [Hv.out] at h1
            exact h1.read
          case measure => simp [intOf]; omega
    · obtain rfl : i = n := by omega
      go_wp2_with fail
      go_ret
      exact ⟨A, c, rfl, Hrl.out, Hb.out⟩
end Go.Proofs.Ytmjicfafjjgekaa
