/- JC10: X6, Y6, X9, X10, X7, joined by chunk.py. -/
import Derived.Test.YteijbpppalhihaaGreatJC9
set_option linter.unusedVariables false
set_option linter.unusedSimpArgs false
section
/- X6: the law UpdateHit. Expanded by pp.py. -/
set_option linter.unusedSimpArgs false
set_option maxRecDepth 100000
namespace Go.Proofs.YteijbpppalhihaaGreat
open Go Go.AM
theorem enough_val {c : Cs} (v : CsV c) {l : List Cr} (hl : CellsOk (csT c) l) (cf : Bool) (df : Bool) : ConP Tryz.prog 14 [encTb false false (csT c), LF df (csF c), LC cf l] fun r => r = .tup [.bool (okB (probT (csT c) (csF c) l)), .int .i64 0] := by
  have h := Enough_u (csT c) false false df cf (csF c) l v.tv.ok v.fok hl.len
  have hc := chk_ok v.tv v.valid v.ferr (by have := v.small; omega) hl
  rw [hc, if_pos rfl] at h
  exact h
theorem necB_others (t : Tb) (fds : List Fd) (l : List Cr) : necB t fds (othersT t l) = !okB (probT t fds l) := by
  rw [necB_eq]
  congr 1
  rw [Bool.eq_iff_iff, okB_iff, okB_iff]
  exact others_others
set_option maxHeartbeats 32000000 in
theorem lawHit (c : Cs) (s : Int) (f g : Bool) (h : CsOk c) : ConP Tryz.prog 5 [encCs f g c, .int .u16 s] fun r => r = .bool true := by
  have ca := awake_con
  cases hb : csB c with
  | false =>
    have c1 := of_no c f g h hb
    simp only [encCs, offV] at c1
    refine conP_of_conH (conH_of_W tok Tryz.func5 rfl rfl ?_)
    refine W_x tok mixed ?_
    simp -implicitDefEqProofs -dsimp [Tryz.f5, List.replicate, encCs]
    refine (callP (c1) (by simp)).mono ?_
    rintro r H' ⟨rfl, rfl⟩
    simp -implicitDefEqProofs -dsimp []
    refine (callP (ca) (by simp)).mono ?_
    rintro r H' ⟨rfl, rfl⟩
    simp -implicitDefEqProofs -dsimp []
    refine (callP (ca) (by simp)).mono ?_
    rintro r H' ⟨rfl, rfl⟩
    simp -implicitDefEqProofs -dsimp []
  | true =>
    have v := csV h hb
    have c1 := of_yes c f g h hb
    have m1 : (csT c).rows.length ≤ 1000 := v.tv.rows
    have m2 : (csT c).attrs.length ≤ 1000 := by have := v.tv.attrs; omega
    have c2 := choose_r (csT c) false false s m1 m2
    have hcl := chooseT_ok v.tv s
    obtain ⟨cells, hcells⟩ : ∃ cells, cells = chooseT (csT c) s := ⟨_, rfl⟩
    rw [← hcells] at c2 hcl
    have c3 := enough_val v hcl false false
    have c4 := others_r (csT c) false false false cells m1 m2 hcl.len
    have hol := others_ok v.tv cells
    have c5 := Core_u (csT c) false false false false (csF c) (othersT (csT c) cells) v.tv.ok v.fok hol.len
    have hno := necB_others (csT c) (csF c) cells
    rw [CoreR, if_pos (chk_ok v.tv v.valid v.ferr (by have := v.small; omega) hol)] at c5
    simp only [encCs, encTb, LS, LR] at c1
    simp only [encTb, LS, LR] at c2 c3 c4 c5
    cases hq : okB (probT (csT c) (csF c) cells) with
    | false =>
      rw [hq] at c3 hno
      rw [hno, Bool.not_false, if_pos rfl] at c5
      refine conP_of_conH (conH_of_W tok Tryz.func5 rfl rfl ?_)
      refine W_x tok mixed ?_
      simp -implicitDefEqProofs -dsimp [Tryz.f5, List.replicate, encCs]
      refine (callP (c1) (by simp)).mono ?_
      rintro r H' ⟨rfl, rfl⟩
      simp -implicitDefEqProofs -dsimp []
      refine (callP (ca) (by simp)).mono ?_
      rintro r H' ⟨rfl, rfl⟩
      simp -implicitDefEqProofs -dsimp []
      refine (callP (c2) (by simp)).mono ?_
      rintro r H' ⟨rfl, rfl⟩
      simp -implicitDefEqProofs -dsimp []
      refine (callP (c3) (by simp)).mono ?_
      rintro r H' ⟨rfl, rfl⟩
      simp -implicitDefEqProofs -dsimp []
      refine .inr ⟨stop_of (by kernel_rfl), ?_⟩
      refine cy_of _ (callP (c4) (by simp)) ?_
      simp -implicitDefEqProofs -dsimp []
      refine cy_of _ (callP (c5) (by simp)) ?_
      simp -implicitDefEqProofs -dsimp [eqA2]
    | true =>
      rw [hq] at c3 hno
      rw [hno, Bool.not_true, if_neg (by simp)] at c5
      refine conP_of_conH (conH_of_W tok Tryz.func5 rfl rfl ?_)
      refine W_x tok mixed ?_
      simp -implicitDefEqProofs -dsimp [Tryz.f5, List.replicate, encCs]
      refine (callP (c1) (by simp)).mono ?_
      rintro r H' ⟨rfl, rfl⟩
      simp -implicitDefEqProofs -dsimp []
      refine (callP (ca) (by simp)).mono ?_
      rintro r H' ⟨rfl, rfl⟩
      simp -implicitDefEqProofs -dsimp []
      refine (callP (c2) (by simp)).mono ?_
      rintro r H' ⟨rfl, rfl⟩
      simp -implicitDefEqProofs -dsimp []
      refine (callP (c3) (by simp)).mono ?_
      rintro r H' ⟨rfl, rfl⟩
      simp -implicitDefEqProofs -dsimp []
      refine .inr ⟨stop_of (by kernel_rfl), ?_⟩
      refine cy_of _ (callP (c4) (by simp)) ?_
      simp -implicitDefEqProofs -dsimp []
      refine cy_of _ (callP (c5) (by simp)) ?_
      simp -implicitDefEqProofs -dsimp [eqA2]
end Go.Proofs.YteijbpppalhihaaGreat
end

section
/- Y6: the law UpdateEnough. Expanded by pp.py. -/
set_option linter.unusedSimpArgs false
set_option maxRecDepth 100000
namespace Go.Proofs.YteijbpppalhihaaGreat
open Go Go.AM
theorem u16w (a : Nat) (h : a < 65536) : IntKind.u16.wrap (a : Int) = a := by rw [IntKind.wrap_u16]; omega
theorem or16 (a b : Nat) (ha : a < 65536) (hb : b < 65536) : IntKind.u16.wrap ((a % 2 ^ IntKind.u16.bits ||| b % 2 ^ IntKind.u16.bits : Nat) : Int) = ((a ||| b : Nat) : Int) := by
  have h1 : a % 2 ^ IntKind.u16.bits = a := Nat.mod_eq_of_lt ha
  have h2 : b % 2 ^ IntKind.u16.bits = b := Nat.mod_eq_of_lt hb
  rw [h1, h2]
  exact u16w _ (Nat.or_lt_two_pow (n := 16) ha hb)
theorem hasW_bit (s i : Nat) (hs : s < 65536) (hi : i < 16) : hasW s i = s.testBit i := by
  have h1 : min i IntKind.u16.bits = i := Nat.min_eq_left (by show i ≤ 16; omega)
  have h2 : ((s : Int).fdiv (2 ^ i) % 2 ^ IntKind.u16.bits).toNat = s / 2 ^ i := by
    have h3 : (s : Int).fdiv (2 ^ i) = ((s / 2 ^ i : Nat) : Int) := by
      rw [Int.fdiv_eq_ediv_of_nonneg _ (by have : (0 : Int) < 2 ^ i := Int.pow_pos (by omega); omega)]
      simp
    rw [h3]
    have h5 : s / 2 ^ i < 65536 := Nat.lt_of_le_of_lt (Nat.div_le_self _ _) hs
    have mod16 : ∀ y : Nat, y < 65536 → ((y : Int) % 2 ^ IntKind.u16.bits).toNat = y := fun y h => by
      have : (2 : Int) ^ IntKind.u16.bits = 65536 := rfl
      rw [this]; omega
    exact mod16 _ h5
  have h4 : (1 % 2 ^ IntKind.u16.bits : Nat) = 1 := rfl
  unfold hasW
  rw [h1, h2, h4, Nat.and_one_is_mod, u16w _ (by omega), Nat.testBit_eq_decide_div_mod_eq]
  rw [Bool.eq_iff_iff, beq_iff_eq, decide_eq_true_iff]
  omega
theorem choose_more (t : Tb) (a b : Nat) (ha : a < 65536) (hb : b < 65536) : ∀ c ∈ chooseT t a, c ∈ chooseT t ((a ||| b : Nat) : Int) := by
  intro c hc
  unfold chooseT chTo at hc ⊢
  obtain ⟨i, hi, rfl⟩ := List.mem_map.1 hc
  obtain ⟨h1, h2⟩ := List.mem_filter.1 hi
  have hi16 : i < 16 := by have := List.mem_range.1 h1; omega
  refine List.mem_map.2 ⟨i, List.mem_filter.2 ⟨h1, ?_⟩, rfl⟩
  rw [hasW_bit _ _ ha hi16] at h2
  rw [hasW_bit _ _ (Nat.or_lt_two_pow (n := 16) ha hb) hi16, Nat.testBit_or, h2, Bool.true_or]
set_option maxHeartbeats 32000000 in
theorem lawEnough (c : Cs) (a b : Nat) (f g : Bool) (h : CsOk c) (ha : a < 65536) (hb16 : b < 65536) : ConP Tryz.prog 3 [encCs f g c, .int .u16 a, .int .u16 b] fun r => r = .bool true := by
  have ca := awake_con
  cases hb : csB c with
  | false =>
    have c1 := of_no c f g h hb
    simp only [encCs, offV] at c1
    refine conP_of_conH (conH_of_W tok Tryz.func3 rfl rfl ?_)
    refine W_x tok mixed ?_
    simp -implicitDefEqProofs -dsimp [Tryz.f3, List.replicate, encCs]
    refine (callP (c1) (by simp)).mono ?_
    rintro r H' ⟨rfl, rfl⟩
    simp -implicitDefEqProofs -dsimp []
    refine (callP (ca) (by simp)).mono ?_
    rintro r H' ⟨rfl, rfl⟩
    simp -implicitDefEqProofs -dsimp []
    refine (callP (ca) (by simp)).mono ?_
    rintro r H' ⟨rfl, rfl⟩
    simp -implicitDefEqProofs -dsimp []
  | true =>
    have v := csV h hb
    have c1 := of_yes c f g h hb
    have m1 : (csT c).rows.length ≤ 1000 := v.tv.rows
    have m2 : (csT c).attrs.length ≤ 1000 := by have := v.tv.attrs; omega
    have c2 := choose_r (csT c) false false a m1 m2
    have c2' := choose_r (csT c) false false ((a ||| b : Nat) : Int) m1 m2
    have hcl := chooseT_ok v.tv (a : Int)
    have hcl' := chooseT_ok v.tv ((a ||| b : Nat) : Int)
    have hmono : Okq (probT (csT c) (csF c) (chooseT (csT c) a)) → Okq (probT (csT c) (csF c) (chooseT (csT c) ((a ||| b : Nat) : Int))) := okq_mono (choose_more (csT c) a b ha hb16)
    have hor := or16 a b ha hb16
    obtain ⟨ab, hab⟩ : ∃ ab, ab = a ||| b := ⟨_, rfl⟩
    rw [← hab] at c2' hcl' hmono hor
    obtain ⟨l, hl⟩ : ∃ l, l = chooseT (csT c) (a : Int) := ⟨_, rfl⟩
    obtain ⟨l', hl'⟩ : ∃ l', l' = chooseT (csT c) (ab : Int) := ⟨_, rfl⟩
    rw [← hl] at c2 hcl hmono
    rw [← hl'] at c2' hcl' hmono
    have k1 := clone_F (csF c) false (by have := v.flen; omega)
    have k2 := clone_C l false hcl.len
    have c3 := enough_val v hcl false false
    have c4 := enough_val v hcl' false false
    have c5 := enough_r (csT c) false false false false (csF c) l v.tv v.fok hcl.len
    simp only [encCs, encTb, LS, LR] at c1
    simp only [encTb, LS, LR] at c2 c2' c3 c4 c5
    cases hq : okB (probT (csT c) (csF c) l) with
    | false =>
      rw [hq] at c3 c5
      refine conP_of_conH (conH_of_W tok Tryz.func3 rfl rfl ?_)
      refine W_x tok mixed ?_
      simp -implicitDefEqProofs -dsimp [Tryz.f3, List.replicate, encCs]
      refine (callP (c1) (by simp)).mono ?_
      rintro r H' ⟨rfl, rfl⟩
      simp -implicitDefEqProofs -dsimp []
      refine (callP (ca) (by simp)).mono ?_
      rintro r H' ⟨rfl, rfl⟩
      simp -implicitDefEqProofs -dsimp []
      refine (callP (c2) (by simp)).mono ?_
      rintro r H' ⟨rfl, rfl⟩
      simp -implicitDefEqProofs -dsimp []
      refine .inr ⟨stop_of (by kernel_rfl), ?_⟩
      refine cy_of _ (callP (k1) (by simp)) ?_
      simp -implicitDefEqProofs -dsimp []
      refine cy_of _ (callP (k2) (by simp)) ?_
      simp -implicitDefEqProofs -dsimp []
      refine cy_of _ (callP (c3) (by simp)) ?_
      simp -implicitDefEqProofs -dsimp [hor]
      refine .inr ⟨stop_of (by kernel_rfl), ?_⟩
      refine cy_of _ (callP (k1) (by simp)) ?_
      simp -implicitDefEqProofs -dsimp [hor]
      refine cy_of _ (callP (c2') (by simp)) ?_
      simp -implicitDefEqProofs -dsimp []
      refine cy_of _ (callP (c4) (by simp)) ?_
      simp -implicitDefEqProofs -dsimp []
      refine (callP (c5) (by simp)).mono ?_
      rintro r H' ⟨rfl, rfl⟩
      simp -implicitDefEqProofs -dsimp [eqA2]
    | true =>
      rw [okB_true (hmono (okB_iff.1 hq))] at c4
      rw [hq] at c3 c5
      refine conP_of_conH (conH_of_W tok Tryz.func3 rfl rfl ?_)
      refine W_x tok mixed ?_
      simp -implicitDefEqProofs -dsimp [Tryz.f3, List.replicate, encCs]
      refine (callP (c1) (by simp)).mono ?_
      rintro r H' ⟨rfl, rfl⟩
      simp -implicitDefEqProofs -dsimp []
      refine (callP (ca) (by simp)).mono ?_
      rintro r H' ⟨rfl, rfl⟩
      simp -implicitDefEqProofs -dsimp []
      refine (callP (c2) (by simp)).mono ?_
      rintro r H' ⟨rfl, rfl⟩
      simp -implicitDefEqProofs -dsimp []
      refine .inr ⟨stop_of (by kernel_rfl), ?_⟩
      refine cy_of _ (callP (k1) (by simp)) ?_
      simp -implicitDefEqProofs -dsimp []
      refine cy_of _ (callP (k2) (by simp)) ?_
      simp -implicitDefEqProofs -dsimp []
      refine cy_of _ (callP (c3) (by simp)) ?_
      simp -implicitDefEqProofs -dsimp [hor]
      refine .inr ⟨stop_of (by kernel_rfl), ?_⟩
      refine cy_of _ (callP (k1) (by simp)) ?_
      simp -implicitDefEqProofs -dsimp [hor]
      refine cy_of _ (callP (c2') (by simp)) ?_
      simp -implicitDefEqProofs -dsimp []
      refine cy_of _ (callP (c4) (by simp)) ?_
      simp -implicitDefEqProofs -dsimp []
      refine (callP (c5) (by simp)).mono ?_
      rintro r H' ⟨rfl, rfl⟩
      simp -implicitDefEqProofs -dsimp [eqA2]
theorem lawEnough2 (c : Cs) (s s2 : Int) (f g : Bool) (h : CsOk c) (h1 : 0 ≤ s ∧ s ≤ 65535) (h2 : 0 ≤ s2 ∧ s2 ≤ 65535) : ConP Tryz.prog 3 [encCs f g c, .int .u16 s, .int .u16 s2] fun r => r = .bool true := by
  obtain ⟨a, rfl⟩ := Int.eq_ofNat_of_zero_le h1.1
  obtain ⟨b, rfl⟩ := Int.eq_ofNat_of_zero_le h2.1
  exact lawEnough c a b f g h (by omega) (by omega)
end Go.Proofs.YteijbpppalhihaaGreat
end

section
/- X9: the program's IsCore, the reference's Necessary. Expanded by pp.py. -/
set_option linter.unusedSimpArgs false
set_option maxRecDepth 100000
namespace Go.Proofs.YteijbpppalhihaaGreat
open Go Go.AM
theorem coreB_no {t : Tb} {fds : List Fd} {l : List Cr} (h : ¬ IsCoreP t fds l) : coreB t fds l = false := by
  cases hb : coreB t fds l
  · rfl
  · exact absurd (coreB_iff.1 hb) h
set_option maxHeartbeats 32000000 in
theorem IsCore_u (t : Tb) (ff gg df cf : Bool) (fds : List Fd) (l : List Cr) (ht : TbOk t) (hF : FdsOk fds) (hl : l.length ≤ 1000000) (h : chkE t fds l = 0) :
    ConP Tryz.prog 34 [encTb ff gg t, LF df fds, LC cf l] fun r => r = .tup [.bool (coreB t fds l), .int .i64 0] := by
  have c1 := check_u t ff gg df cf fds l ht hF hl
  rw [h] at c1
  obtain ⟨hv, h1, h2, h3, h4⟩ := chkE_ok ht h
  have c2 := necessary_u t ff gg df cf fds l hv hF h3 hl
  simp only [encTb, LS, LR, LC, LF] at c1 c2
  cases hn : necB t fds l with
  | false =>
    rw [hn] at c2
    rw [coreB_no (fun hc => by rw [necB_iff.2 hc.nec] at hn; cases hn)]
    refine conP_of_conH (conH_of_W tok Tryz.func34 rfl rfl ?_)
    refine W_x tok mixed ?_
    simp -implicitDefEqProofs -dsimp [Tryz.f34, List.replicate, encTb, LS, LR, LC, LF]
    refine (callP (c1) (by simp)).mono ?_
    rintro r H' ⟨rfl, rfl⟩
    simp -implicitDefEqProofs -dsimp []
    refine (callP (c2) (by simp)).mono ?_
    rintro r H' ⟨rfl, rfl⟩
    simp -implicitDefEqProofs -dsimp []
  | true =>
    rw [hn] at c2
    obtain ⟨E, hE⟩ : ∃ E, E = coreB t fds l := ⟨_, rfl⟩
    rw [← hE]
    refine conP_of_conH (conH_of_W tok Tryz.func34 rfl rfl ?_)
    refine W_x tok mixed ?_
    simp -implicitDefEqProofs -dsimp [Tryz.f34, List.replicate, encTb, LS, LR, LC, LF]
    refine (callP (c1) (by simp)).mono ?_
    rintro r H' ⟨rfl, rfl⟩
    simp -implicitDefEqProofs -dsimp []
    refine (callP (c2) (by simp)).mono ?_
    rintro r H' ⟨rfl, rfl⟩
    simp -implicitDefEqProofs -dsimp []
    refine lw_of (W_loopV [false, false, false, false, false, false, true, true, false, true, false, false, false, false, false, false, false, false, false, false, false, false, false, false, true, true, true, true, true, true, true, true, true, true] (σ := Nat) (fun i => i ≤ l.length ∧ ∀ j, j < i → ¬ Nec t fds (l.eraseIdx j)) (fun i => l.length - i) (fun i => [(24, .int .i64 i)]) (fun _ => [B.cells [.str t.name, .lst 1 ff (t.attrs.map V.str), .lst 2 gg (t.rows.map encRw)]]) 0 ⟨by omega, fun j hj => by omega⟩ (by simp) (by simp) (by simp) ?_)
    rintro i ⟨hi, hx⟩ N Q hN hQ
    by_cases hb : i < l.length
    · have k1 := less_u l i cf hl hb
      have k2 := necessary_u t ff gg df false fds (l.eraseIdx i) hv hF (sorted_erase h3) (by rw [List.length_eraseIdx_of_lt hb]; omega)
      simp only [encTb, LS, LR, LC, LF] at k1 k2
      cases hq : necB t fds (l.eraseIdx i) with
      | true =>
        rw [hq] at k2
        have hno : ¬ IsCoreP t fds l := fun hc => hc.min i hb (necB_iff.1 hq)
        rw [coreB_no hno] at hE
        refine W_x tok mixed ?_
        simp -implicitDefEqProofs -dsimp [hb]
        refine .inr ⟨stop_of (by kernel_rfl), ?_⟩
        refine cy_of _ (callP (k1) (by simp)) ?_
        simp -implicitDefEqProofs -dsimp []
        refine cy_of _ (callP (k2) (by simp)) ?_
        simp -implicitDefEqProofs -dsimp []
        refine hQ _ _ _ ?_
        simp -implicitDefEqProofs -dsimp []
        exact hE
      | false =>
        rw [hq] at k2
        refine W_x tok mixed ?_
        simp -implicitDefEqProofs -dsimp [hb]
        refine .inr ⟨stop_of (by kernel_rfl), ?_⟩
        refine cy_of _ (callP (k1) (by simp)) ?_
        simp -implicitDefEqProofs -dsimp []
        refine cy_of _ (callP (k2) (by simp)) ?_
        simp -implicitDefEqProofs -dsimp [wrapS i (by omega)]
        refine hN (i + 1) _ _ ⟨by omega, fun j hj hc => ?_⟩ (by omega) (by simp) ⟨[], by simp⟩ (by simp) (by simp)
        rcases Nat.lt_or_ge j i with e1 | e1
        · exact hx j e1 hc
        · have : j = i := by omega
          subst this
          rw [necB_iff.2 hc] at hq; cases hq
    · have hyes : IsCoreP t fds l := ⟨necB_iff.1 hn, fun j hj => hx j (by omega)⟩
      rw [coreB_iff.2 hyes] at hE
      refine W_x tok mixed ?_
      simp -implicitDefEqProofs -dsimp [hb]
      refine hQ _ _ _ ?_
      simp -implicitDefEqProofs -dsimp []
      exact hE
set_option maxHeartbeats 16000000 in
theorem necessary_r (t : Tb) (ff gg df cf : Bool) (fds : List Fd) (l : List Cr) (hv : TbV t) (hF : FdsOk fds) (hl : l.length ≤ 1000000) :
    ConP Tryz.prog 35 [encTb ff gg t, LF df fds, LC cf l] fun r => r = .bool (necB t fds l) := by
  have c1 := others_r t ff gg cf l hv.rows (by have := hv.attrs; omega) hl
  have c2 := enough_r t ff gg df false fds (othersT t l) hv hF (mem_len_others t hv l)
  rw [necB_eq]
  simp only [encTb, LS, LR, LC, LF] at c1 c2
  refine conP_of_conH (conH_of_W tok Tryz.func35 rfl rfl ?_)
  refine W_x tok mixed ?_
  simp -implicitDefEqProofs -dsimp [Tryz.f35, List.replicate, encTb, LS, LR, LC, LF]
  refine .inr ⟨stop_of (by kernel_rfl), ?_⟩
  refine cy_of _ (callP (c1) (by simp)) ?_
  simp -implicitDefEqProofs -dsimp []
  refine cy_of _ (callP (c2) (by simp)) ?_
  simp -implicitDefEqProofs -dsimp []
end Go.Proofs.YteijbpppalhihaaGreat
end

section
/- X10: the reference's IsCore. Expanded by pp.py. -/
set_option linter.unusedSimpArgs false
set_option maxRecDepth 100000
namespace Go.Proofs.YteijbpppalhihaaGreat
open Go Go.AM
set_option maxHeartbeats 32000000 in
theorem isCore_r (t : Tb) (ff gg df cf : Bool) (fds : List Fd) (l : List Cr) (hv : TbV t) (hF : FdsOk fds) (hl : l.length ≤ 1000000) :
    ConP Tryz.prog 32 [encTb ff gg t, LF df fds, LC cf l] fun r => r = .bool (coreB t fds l) := by
  have c2 := necessary_r t ff gg df cf fds l hv hF hl
  simp only [encTb, LS, LR, LC, LF] at c2
  cases hn : necB t fds l with
  | false =>
    rw [hn] at c2
    rw [coreB_no (fun hc => by rw [necB_iff.2 hc.nec] at hn; cases hn)]
    refine conP_of_conH (conH_of_W tok Tryz.func32 rfl rfl ?_)
    refine W_x tok mixed ?_
    simp -implicitDefEqProofs -dsimp [Tryz.f32, List.replicate, encTb, LS, LR, LC, LF]
    refine (callP (c2) (by simp)).mono ?_
    rintro r H' ⟨rfl, rfl⟩
    simp -implicitDefEqProofs -dsimp []
  | true =>
    rw [hn] at c2
    obtain ⟨E, hE⟩ : ∃ E, E = coreB t fds l := ⟨_, rfl⟩
    rw [← hE]
    refine conP_of_conH (conH_of_W tok Tryz.func32 rfl rfl ?_)
    refine W_x tok mixed ?_
    simp -implicitDefEqProofs -dsimp [Tryz.f32, List.replicate, encTb, LS, LR, LC, LF]
    refine (callP (c2) (by simp)).mono ?_
    rintro r H' ⟨rfl, rfl⟩
    simp -implicitDefEqProofs -dsimp []
    refine lw_of (W_loopV [false, false, false, false, false, false, true, true, false, false, false, false, false, true, true, true, true, true, true, true, true, true, true, true, true, true, true, true, true, true, true, true] (σ := Nat) (fun i => i ≤ l.length ∧ ∀ j, j < i → ¬ Nec t fds (l.eraseIdx j)) (fun i => l.length - i) (fun i => [(7, .int .i64 i)]) (fun _ => [B.cells [.str t.name, .lst 1 ff (t.attrs.map V.str), .lst 2 gg (t.rows.map encRw)]]) 0 ⟨by omega, fun j hj => by omega⟩ (by simp) (by simp) (by simp) ?_)
    rintro i ⟨hi, hx⟩ N Q hN hQ
    by_cases hb : i < l.length
    · have hi1 : i ≤ l.length := by omega
      have hi2 : i + 1 ≤ l.length := by omega
      have htl : (List.map encCr l).take l.length = List.map encCr l := by rw [← List.length_map (f := encCr)]; exact List.take_length
      have k2 := necessary_r t ff gg df false fds (l.eraseIdx i) hv hF (by rw [List.length_eraseIdx_of_lt hb]; omega)
      simp only [encTb, LS, LR, LC, LF] at k2
      have hmap : List.take i (List.map encCr l) ++ List.drop (i + 1) (List.map encCr l) = (l.eraseIdx i).map encCr := by rw [← List.map_take, ← List.map_drop, ← List.map_append, take_drop_erase]
      have hlen : ((l.eraseIdx i).map encCr).length = l.length - 1 := by rw [List.length_map, List.length_eraseIdx_of_lt hb]
      obtain ⟨v, hve⟩ : ∃ v, v = necB t fds (l.eraseIdx i) := ⟨_, rfl⟩
      rw [← hve] at k2
      obtain ⟨es, hes⟩ : ∃ es, es = (l.eraseIdx i).map encCr := ⟨_, rfl⟩
      rw [← hes] at k2 hmap hlen
      have hesp : ∀ x ∈ es, AM.Pure x := hes ▸ pure_crs _
      have kb : ∀ (H : List B) (m : Nat), H[1]? = some (.buf 49 2 es false) → m = es.length → WCall Tryz.prog (.fn 35 []) [.agg [.str t.name, .lst 1 ff (t.attrs.map V.str), .lst 2 gg (t.rows.map encRw)], .lst 2 df (fds.map encF), .buf 1 0 m m] H fun r H' => r = .bool v ∧ H' = H := fun H m hH hm => by
        refine callX k2 rfl (fun j a a' h1 h2 => ?_) (.bool _)
        match j with
        | 0 => simp at h1 h2; subst h1; subst h2; exact .pure _ (by simp)
        | 1 => simp at h1 h2; subst h1; subst h2; exact .pure _ (by simp)
        | 2 => simp at h1 h2; subst h1; subst h2; exact exp_buf hH hm hesp
        | n + 3 => simp at h1
      refine W_x tok mixed ?_
      simp -implicitDefEqProofs -dsimp [hb]
      by_cases h0 : i = 0
      · subst h0
        have kt := necessary_r t ff gg df true fds (l.eraseIdx 0) hv hF (by rw [List.length_eraseIdx_of_lt hb]; omega)
        rw [← hve] at kt
        simp only [encTb, LS, LR, LC, LF] at kt
        rw [← hes] at kt
        have hm0 : List.drop 1 (List.map encCr l) = es := by rw [← hmap]; simp
        by_cases h9 : l.length = 1
        · have hes0 : es = [] := List.length_eq_zero_iff.1 (by omega)
          rw [hes0] at kt
          refine lw_of (W_drawT tok mixed [6, 11] [(0, [1, 2]), (1, [1, 2]), (7, [0]), (8, [0]), (9, [0]), (10, [0])] [(.bool v, [])] (by kernel_rfl) fun C K hC hK => ?_)
          simp -implicitDefEqProofs [hi1, hi2, htl, hb, wrap64 (n := 1) (by omega) (by omega), show (1 : Nat) ≤ l.length by omega, show l.length - 1 = 0 by omega, hm0, h9]
          refine ⟨hC _ _ _ _ (callP kt (by simp)), hK _ _ ?_⟩
          cases v with
          | true =>
            have hno : ¬ IsCoreP t fds l := fun hc => hc.min 0 hb (necB_iff.1 hve.symm)
            rw [coreB_no hno] at hE
            simp -implicitDefEqProofs -dsimp []
            refine hQ _ _ _ ?_
            simp -implicitDefEqProofs -dsimp []
            exact hE
          | false =>
            simp -implicitDefEqProofs -dsimp [wrapS 0 (by omega)]
            refine hN (0 + 1) _ _ ⟨by omega, fun j hj hc => ?_⟩ (by omega) (by simp [show IntKind.i64.wrap (1 : Int) = 1 from wrap64 (by omega) (by omega)]) ⟨_, rfl⟩ (by simp) (by simp)
            rcases Nat.lt_or_ge j 0 with e1 | e1
            · exact hx j e1 hc
            · have : j = 0 := by omega
              subst this
              rw [necB_iff.2 hc] at hve; cases hve
        · refine lw_of (W_drawT tok mixed [6, 11] [(0, [1, 2]), (1, [1, 2]), (7, [0]), (8, [0]), (9, [0]), (10, [0])] [(.bool v, [])] (by kernel_rfl) fun C K hC hK => ?_)
          simp -implicitDefEqProofs [hi1, hi2, htl, hb, wrap64 (n := 1) (by omega) (by omega), show (1 : Nat) ≤ l.length by omega, show ¬ l.length - 1 = 0 by omega, show l.length - 1 ≤ 9223372036854775807 by omega, show (l.length - 1) * 16 ≤ 140737488355328 by omega, hm0, show ¬ es = [] by (intro h; rw [h] at hlen; simp at hlen; omega), show es.length ≤ 9223372036854775807 by omega, show es.length * 16 ≤ 140737488355328 by omega]
          refine ⟨hC _ _ _ _ (kb _ _ rfl (by omega)), hK _ _ ?_⟩
          cases v with
          | true =>
            have hno : ¬ IsCoreP t fds l := fun hc => hc.min 0 hb (necB_iff.1 hve.symm)
            rw [coreB_no hno] at hE
            simp -implicitDefEqProofs -dsimp []
            refine hQ _ _ _ ?_
            simp -implicitDefEqProofs -dsimp []
            exact hE
          | false =>
            simp -implicitDefEqProofs -dsimp [wrapS 0 (by omega)]
            refine hN (0 + 1) _ _ ⟨by omega, fun j hj hc => ?_⟩ (by omega) (by simp [show IntKind.i64.wrap (1 : Int) = 1 from wrap64 (by omega) (by omega)]) ⟨_, rfl⟩ (by simp) (by simp)
            rcases Nat.lt_or_ge j 0 with e1 | e1
            · exact hx j e1 hc
            · have : j = 0 := by omega
              subst this
              rw [necB_iff.2 hc] at hve; cases hve
      · by_cases h9 : i + 1 = l.length
        · have hm0 : List.take i (List.map encCr l) = es := by rw [← hmap, List.drop_of_length_le (by rw [List.length_map]; omega), List.append_nil]
          refine lw_of (W_drawT tok mixed [6, 11] [(0, [1, 2]), (1, [1, 2]), (7, [0]), (8, [0]), (9, [0]), (10, [0])] [(.bool v, [])] (by kernel_rfl) fun C K hC hK => ?_)
          simp -implicitDefEqProofs [hi1, hi2, htl, h0, wrapS i (by omega), show (0 : Int) ≤ (i : Int) + 1 by omega, hb, show i ≤ 9223372036854775807 by omega, show i * 16 ≤ 140737488355328 by omega, show l.length - (i + 1) = 0 by omega, hm0, show ¬ es = [] by (intro h; rw [h] at hlen; simp at hlen; omega), show es.length ≤ 9223372036854775807 by omega, show es.length * 16 ≤ 140737488355328 by omega]
          refine ⟨hC _ _ _ _ (kb _ _ rfl (by omega)), hK _ _ ?_⟩
          cases v with
          | true =>
            have hno : ¬ IsCoreP t fds l := fun hc => hc.min i hb (necB_iff.1 hve.symm)
            rw [coreB_no hno] at hE
            simp -implicitDefEqProofs -dsimp []
            refine hQ _ _ _ ?_
            simp -implicitDefEqProofs -dsimp []
            exact hE
          | false =>
            simp -implicitDefEqProofs -dsimp [wrapS i (by omega)]
            refine hN (i + 1) _ _ ⟨by omega, fun j hj hc => ?_⟩ (by omega) (by simp) ⟨_, rfl⟩ (by simp) (by simp)
            rcases Nat.lt_or_ge j i with e1 | e1
            · exact hx j e1 hc
            · have : j = i := by omega
              subst this
              rw [necB_iff.2 hc] at hve; cases hve
        · refine lw_of (W_drawT tok mixed [6, 11] [(0, [1, 2]), (1, [1, 2]), (7, [0]), (8, [0]), (9, [0]), (10, [0])] [(.bool v, [])] (by kernel_rfl) fun C K hC hK => ?_)
          simp -implicitDefEqProofs [hi1, hi2, htl, h0, wrapS i (by omega), show (0 : Int) ≤ (i : Int) + 1 by omega, hb, cap16b i (l.length - (i + 1)) (by omega), show i ≤ 9223372036854775807 by omega, show i * 16 ≤ 140737488355328 by omega, show ¬ l.length - (i + 1) = 0 by omega, hmap]
          refine ⟨hC _ _ _ _ (kb _ _ rfl (by omega)), hK _ _ ?_⟩
          cases v with
          | true =>
            have hno : ¬ IsCoreP t fds l := fun hc => hc.min i hb (necB_iff.1 hve.symm)
            rw [coreB_no hno] at hE
            simp -implicitDefEqProofs -dsimp []
            refine hQ _ _ _ ?_
            simp -implicitDefEqProofs -dsimp []
            exact hE
          | false =>
            simp -implicitDefEqProofs -dsimp [wrapS i (by omega)]
            refine hN (i + 1) _ _ ⟨by omega, fun j hj hc => ?_⟩ (by omega) (by simp) ⟨_, rfl⟩ (by simp) (by simp)
            rcases Nat.lt_or_ge j i with e1 | e1
            · exact hx j e1 hc
            · have : j = i := by omega
              subst this
              rw [necB_iff.2 hc] at hve; cases hve
    · have hyes : IsCoreP t fds l := ⟨necB_iff.1 hn, fun j hj => hx j (by omega)⟩
      rw [coreB_iff.2 hyes] at hE
      refine W_x tok mixed ?_
      simp -implicitDefEqProofs -dsimp [hb]
      refine hQ _ _ _ ?_
      simp -implicitDefEqProofs -dsimp []
      exact hE
end Go.Proofs.YteijbpppalhihaaGreat
end

section
/- X7: the reference's errors; what the program's functions answer to arguments that are not right. Expanded by pp.py. -/
set_option linter.unusedSimpArgs false
set_option maxRecDepth 100000
namespace Go.Proofs.YteijbpppalhihaaGreat
open Go Go.AM
theorem sub_full (a n : Nat) : decide (a &&& fullN n = a) = decide (a < 2 ^ n) := by
  rw [Bool.eq_iff_iff, decide_eq_true_iff, decide_eq_true_iff]
  constructor
  · intro h
    rw [← h]
    exact Nat.lt_of_le_of_lt Nat.and_le_right (fullN_small n)
  · intro h
    refine Nat.eq_of_testBit_eq fun i => ?_
    rw [Nat.testBit_and, fullN_bit]
    by_cases hi : i < n
    · simp [hi]
    · have : a.testBit i = false := Nat.testBit_lt_two_pow (Nat.lt_of_lt_of_le h (Nat.pow_le_pow_right (by omega) (by omega)))
      simp [this]
set_option maxHeartbeats 16000000 in
theorem valid09 (n : Nat) (fds : List Fd) (f : Bool) (hn : n ≤ 16) (hF : FdsOk fds) : ConP Tryz.prog 85 [.int .i64 n, LF f fds] fun r => r = .int .i64 (fdsErr n fds) := by
  obtain ⟨hF1, hF2⟩ := hF
  have hn1 : ¬ (16 : Int) < n := by omega
  have hn0 : ¬ (n : Int) < 0 := by omega
  have hfl := fullN_lt n (by omega)
  unfold fdsErr
  by_cases h64 : 64 < fds.length
  · rw [if_pos h64]
    refine conP_of_conH (conH_of_W tok Tryz.func85 rfl rfl ?_)
    refine W_x tok mixed ?_
    simp -implicitDefEqProofs -dsimp [Tryz.f85, List.replicate, LF, hn0, hn1, show (64 : Int) < fds.length by omega]
  · rw [if_neg h64]
    obtain ⟨E, hE⟩ : ∃ E : Int, E = if fds.all (fdOk n) then 0 else 1 := ⟨_, rfl⟩
    rw [← hE]
    have cf := full02 n (by omega)
    refine conP_of_conH (conH_of_W tok Tryz.func85 rfl rfl ?_)
    refine W_x tok mixed ?_
    simp -implicitDefEqProofs -dsimp [Tryz.f85, List.replicate, LF, hn0, hn1, show ¬ (64 : Int) < fds.length by omega]
    refine (callP (cf) (by simp)).mono ?_
    rintro r H' ⟨rfl, rfl⟩
    simp -implicitDefEqProofs -dsimp []
    refine lw_of (W_loopV [false, false, false, false, true, false, true, false, false, false, false, false, false, false, false, false, false, false, true, true, true, true, true, true, true, true, true, true, true, true, true, true, true, true, true, true, true, true, true, true, true, true] (σ := Nat) (fun i => i ≤ fds.length ∧ (if (fds.drop i).all (fdOk n) then (0 : Int) else 1) = E) (fun i => fds.length - i) (fun i => [(6, .int .i64 i)]) (fun _ => []) 0 ⟨by omega, by rw [hE, List.drop_zero]⟩ (by simp) rfl (by simp) ?_)
    rintro i ⟨hi, hx⟩ N Q hN hQ
    by_cases hb : i < fds.length
    · rw [List.drop_eq_getElem_cons hb, List.all_cons] at hx
      obtain ⟨h1, h2⟩ := hF2 fds[i] (List.getElem_mem hb)
      have d1 := sub02 fds[i].l (fullN n) h1 hfl
      have d2 := sub02 fds[i].r (fullN n) h2 hfl
      rw [sub_full] at d1 d2
      cases q1 : decide (fds[i].l < 2 ^ n) with
      | false =>
        rw [q1] at d1
        rw [show fdOk n fds[i] = false by unfold fdOk; rw [q1]; rfl, Bool.false_and, if_neg (by simp)] at hx
        refine W_x tok mixed ?_
        simp -implicitDefEqProofs -dsimp [hb, encF]
        refine (callP (d1) (by simp)).mono ?_
        rintro r H' ⟨rfl, rfl⟩
        simp -implicitDefEqProofs -dsimp []
        refine hQ _ _ _ ?_
        simp -implicitDefEqProofs -dsimp []
        exact hx
      | true =>
        rw [q1] at d1
        cases q2 : decide (fds[i].r < 2 ^ n) with
        | false =>
          rw [q2] at d2
          rw [show fdOk n fds[i] = false by unfold fdOk; rw [q1, q2]; rfl, Bool.false_and, if_neg (by simp)] at hx
          refine W_x tok mixed ?_
          simp -implicitDefEqProofs -dsimp [hb, encF]
          refine (callP (d1) (by simp)).mono ?_
          rintro r H' ⟨rfl, rfl⟩
          simp -implicitDefEqProofs -dsimp [hb, encF]
          refine (callP (d2) (by simp)).mono ?_
          rintro r H' ⟨rfl, rfl⟩
          simp -implicitDefEqProofs -dsimp []
          refine hQ _ _ _ ?_
          simp -implicitDefEqProofs -dsimp []
          exact hx
        | true =>
          rw [q2] at d2
          rw [show fdOk n fds[i] = true by unfold fdOk; rw [q1, q2]; rfl, Bool.true_and] at hx
          refine W_x tok mixed ?_
          simp -implicitDefEqProofs -dsimp [hb, encF]
          refine (callP (d1) (by simp)).mono ?_
          rintro r H' ⟨rfl, rfl⟩
          simp -implicitDefEqProofs -dsimp [hb, encF]
          refine (callP (d2) (by simp)).mono ?_
          rintro r H' ⟨rfl, rfl⟩
          simp -implicitDefEqProofs -dsimp [wrapS i (by omega)]
          refine hN (i + 1) _ _ ⟨by omega, hx⟩ (by omega) ?_ ⟨[], ?_⟩ ?_ ?_ <;> simp [or_imp, forall_and, L1, encI, LF]
    · rw [List.drop_of_length_le (by omega)] at hx
      refine W_x tok mixed ?_
      simp -implicitDefEqProofs -dsimp [hb]
      refine hQ _ _ _ ?_
      simp -implicitDefEqProofs -dsimp []
      simpa using hx
def ltC (a b : Cr) : Bool := decide (a.id < b.id ∨ (a.id = b.id ∧ a.attr < b.attr))
theorem ltC_iff {a b : Cr} : ltC a b = true ↔ cLt a b := by unfold ltC cLt; simp
set_option maxHeartbeats 8000000 in
theorem before_r (a b : Cr) : ConP Tryz.prog 83 [encCr a, encCr b] fun r => r = .bool (ltC a b) := by
  unfold ltC
  by_cases h1 : a.id < b.id
  · rw [decide_eq_true (.inl h1)]
    refine conP_of_conH (conH_of_W tok Tryz.func83 rfl rfl ?_)
    refine W_x tok mixed ?_
    simp -implicitDefEqProofs -dsimp [Tryz.f83, List.replicate, encCr, h1]
  · by_cases h2 : a.id = b.id
    · by_cases h3 : a.attr < b.attr
      · rw [decide_eq_true (.inr ⟨h2, h3⟩)]
        refine conP_of_conH (conH_of_W tok Tryz.func83 rfl rfl ?_)
        refine W_x tok mixed ?_
        simp -implicitDefEqProofs -dsimp [Tryz.f83, List.replicate, encCr, h1, h2, h3]
      · rw [decide_eq_false (by omega)]
        refine conP_of_conH (conH_of_W tok Tryz.func83 rfl rfl ?_)
        refine W_x tok mixed ?_
        simp -implicitDefEqProofs -dsimp [Tryz.f83, List.replicate, encCr, h1, h2, h3]
    · rw [decide_eq_false (by omega)]
      refine conP_of_conH (conH_of_W tok Tryz.func83 rfl rfl ?_)
      refine W_x tok mixed ?_
      simp -implicitDefEqProofs -dsimp [Tryz.f83, List.replicate, encCr, h1, h2]
noncomputable def baseE (t : Tb) (fds : List Fd) : Int := open Classical in if validT t ≠ 0 then validT t else if fdsErr t.attrs.length fds ≠ 0 then fdsErr t.attrs.length fds else if 60 < t.rows.length * t.attrs.length then 3 else 0
noncomputable def listE (t : Tb) (cells : List Cr) : Int := open Classical in if ¬ sortedC cells then 1 else if cells.all (cellB t) then 0 else 4
theorem chkE_eq (t : Tb) (fds : List Fd) (cells : List Cr) : chkE t fds cells = if baseE t fds = 0 then listE t cells else baseE t fds := by
  unfold chkE baseE listE
  by_cases h1 : validT t = 0
  · rw [if_neg (show ¬ validT t ≠ 0 by simp [h1]), if_neg (show ¬ validT t ≠ 0 by simp [h1])]
    by_cases h2 : fdsErr t.attrs.length fds = 0
    · rw [if_neg (show ¬ fdsErr t.attrs.length fds ≠ 0 by simp [h2]), if_neg (show ¬ fdsErr t.attrs.length fds ≠ 0 by simp [h2])]
      by_cases h3 : 60 < t.rows.length * t.attrs.length
      · rw [if_pos h3, if_pos h3, if_neg (by omega)]
      · rw [if_neg h3, if_neg h3, if_pos rfl]
    · rw [if_pos h2, if_pos h2, if_neg h2]
  · rw [if_pos h1, if_pos h1, if_neg h1]
theorem chkE_nil (t : Tb) (fds : List Fd) : chkE t fds [] = baseE t fds := by
  rw [chkE_eq]
  split
  · rename_i h
    rw [h]
    unfold listE
    rw [if_neg (by simp [sortedC]), if_pos (by simp)]
  · rfl
set_option maxHeartbeats 16000000 in
theorem base_r (t : Tb) (ff gg df : Bool) (fds : List Fd) (ht : TbOk t) (hF : FdsOk fds) : ConP Tryz.prog 37 [encTb ff gg t, LF df fds] fun r => r = .int .i64 (baseE t fds) := by
  have c1 := valid03 t ff gg ht
  simp only [encTb, LS, LR] at c1
  unfold baseE
  by_cases h1 : validT t = 0
  · have hv := tbV_of ht h1
    rw [h1] at c1
    rw [if_neg (show ¬ validT t ≠ 0 by simp [h1])]
    have c2 := valid09 t.attrs.length fds df hv.attrs hF
    by_cases h2 : fdsErr t.attrs.length fds = 0
    · rw [h2] at c2
      rw [if_neg (show ¬ fdsErr t.attrs.length fds ≠ 0 by simp [h2])]
      have hmn := Nat.mul_le_mul hv.rows hv.attrs
      have hw : IntKind.i64.wrap ((t.rows.length : Int) * (t.attrs.length : Int)) = ((t.rows.length * t.attrs.length : Nat) : Int) := by rw [wrap64 (by rw [← Int.natCast_mul]; omega) (by rw [← Int.natCast_mul]; omega)]; push_cast; rfl
      obtain ⟨mn, hmn'⟩ : ∃ mn, mn = t.rows.length * t.attrs.length := ⟨_, rfl⟩
      rw [← hmn'] at hw ⊢
      by_cases h3 : 60 < mn
      · rw [if_pos h3]
        refine conP_of_conH (conH_of_W tok Tryz.func37 rfl rfl ?_)
        refine W_x tok mixed ?_
        simp -implicitDefEqProofs -dsimp [Tryz.f37, List.replicate, encTb, LS, LR]
        refine (callP (c1) (by simp)).mono ?_
        rintro r H' ⟨rfl, rfl⟩
        simp -implicitDefEqProofs -dsimp []
        refine (callP (c2) (by simp)).mono ?_
        rintro r H' ⟨rfl, rfl⟩
        simp -implicitDefEqProofs -dsimp [hw, show (60 : Int) < mn by omega]
      · rw [if_neg h3]
        refine conP_of_conH (conH_of_W tok Tryz.func37 rfl rfl ?_)
        refine W_x tok mixed ?_
        simp -implicitDefEqProofs -dsimp [Tryz.f37, List.replicate, encTb, LS, LR]
        refine (callP (c1) (by simp)).mono ?_
        rintro r H' ⟨rfl, rfl⟩
        simp -implicitDefEqProofs -dsimp []
        refine (callP (c2) (by simp)).mono ?_
        rintro r H' ⟨rfl, rfl⟩
        simp -implicitDefEqProofs -dsimp [hw, show ¬ (60 : Int) < mn by omega]
    · rw [if_pos h2]
      refine conP_of_conH (conH_of_W tok Tryz.func37 rfl rfl ?_)
      refine W_x tok mixed ?_
      simp -implicitDefEqProofs -dsimp [Tryz.f37, List.replicate, encTb, LS, LR]
      refine (callP (c1) (by simp)).mono ?_
      rintro r H' ⟨rfl, rfl⟩
      simp -implicitDefEqProofs -dsimp []
      refine (callP (c2) (by simp)).mono ?_
      rintro r H' ⟨rfl, rfl⟩
      simp -implicitDefEqProofs -dsimp [h2]
  · rw [if_pos h1]
    refine conP_of_conH (conH_of_W tok Tryz.func37 rfl rfl ?_)
    refine W_x tok mixed ?_
    simp -implicitDefEqProofs -dsimp [Tryz.f37, List.replicate, encTb, LS, LR]
    refine (callP (c1) (by simp)).mono ?_
    rintro r H' ⟨rfl, rfl⟩
    simp -implicitDefEqProofs -dsimp [h1]
set_option maxHeartbeats 32000000 in
theorem error_r (t : Tb) (ff gg df cf : Bool) (fds : List Fd) (l : List Cr) (ht : TbOk t) (hF : FdsOk fds) (hl : l.length ≤ 1000000) : ConP Tryz.prog 36 [encTb ff gg t, LF df fds, LC cf l] fun r => r = .int .i64 (chkE t fds l) := by
  have c1 := base_r t ff gg df fds ht hF
  simp only [encTb, LS, LR] at c1
  rw [chkE_eq]
  by_cases h0 : baseE t fds = 0
  · rw [if_pos h0]
    rw [h0] at c1
    have hv : TbV t := tbV_of ht (by
      unfold baseE at h0
      by_cases h1 : validT t = 0
      · exact h1
      · rw [if_pos h1] at h0; exact h0)
    obtain ⟨E, hE⟩ : ∃ E, E = listE t l := ⟨_, rfl⟩
    rw [← hE]
    refine conP_of_conH (conH_of_W tok Tryz.func36 rfl rfl ?_)
    refine W_x tok mixed ?_
    simp -implicitDefEqProofs -dsimp [Tryz.f36, List.replicate, encTb, LS, LR, LC]
    refine (callP (c1) (by simp)).mono ?_
    rintro r H' ⟨rfl, rfl⟩
    simp -implicitDefEqProofs -dsimp []
    refine lw_of (W_loopV [false, false, false, false, false, false, true, false, true, false, false, false, false, false, false, false, false, true, true, true, true, true, true, true, true, true, true, true, true, true, true, true, true, true] (σ := Nat) (fun i => 1 ≤ i ∧ ∀ j (h : j + 1 < l.length), j + 1 < i → cLt l[j] l[j + 1]) (fun i => l.length - i) (fun i => [(8, .int .i64 i)]) (fun _ => [B.cells [.str t.name, .lst 1 ff (t.attrs.map V.str), .lst 2 gg (t.rows.map encRw)]]) 1 ⟨by omega, fun j _ h => by omega⟩ (by simp) (by simp) (by simp) ?_)
    rintro i ⟨hi, hx⟩ N Q hN hQ
    by_cases hb : i < l.length
    · obtain ⟨k, hki⟩ : ∃ k, i = k + 1 := ⟨i - 1, by omega⟩
      have hk : k < l.length := by omega
      have hc := before_r l[k] l[i]
      have hw : IntKind.i64.wrap ((i : Int) - 1) = (k : Int) := by rw [wrapP i (by omega) hi]; omega
      simp only [encCr] at hc
      cases hq : ltC l[k] l[i] with
      | true =>
        rw [hq] at hc
        have hlt := ltC_iff.1 hq
        refine W_x tok mixed ?_
        simp -implicitDefEqProofs -dsimp [hb, hw, hk, encCr]
        refine .inr ⟨stop_of (by kernel_rfl), ?_⟩
        refine cy_of _ (callP (hc) (by simp)) ?_
        simp -implicitDefEqProofs -dsimp [wrapS i (by omega)]
        refine hN (i + 1) _ _ ⟨by omega, fun j h hj => ?_⟩ (by omega) (by simp) ⟨[], by simp⟩ (by simp [LF]) (by simp)
        rcases Nat.lt_or_ge j k with h1 | h1
        · exact hx j h (by omega)
        · have : j = k := by omega
          subst this; subst hki; exact hlt
      | false =>
        rw [hq] at hc
        have hno : ¬ sortedC l := fun hs => by
          subst hki
          have := sortedC_lt hs hk hb (by omega)
          rw [ltC_iff.2 this] at hq; cases hq
        have hE1 : (1 : Int) = E := by rw [hE]; unfold listE; rw [if_pos hno]
        refine W_x tok mixed ?_
        simp -implicitDefEqProofs -dsimp [hb, hw, hk, encCr]
        refine .inr ⟨stop_of (by kernel_rfl), ?_⟩
        refine cy_of _ (callP (hc) (by simp)) ?_
        simp -implicitDefEqProofs -dsimp []
        refine hQ _ _ _ ?_
        simp -implicitDefEqProofs -dsimp []
        exact hE1
    · have hs : sortedC l := sorted_of_chain fun j h => hx j h (by omega)
      have hE3 : listE t l = if l.all (cellB t) then (0 : Int) else 4 := by unfold listE; rw [if_neg (by simp [hs])]
      have hE2 : (if l.all (cellB t) then (0 : Int) else 4) = E := by rw [hE, hE3]
      have c2 := cells_r t ff gg hv.rows (by have := hv.attrs; omega)
      simp only [encTb, LS, LR, LC] at c2
      have hcl : (cellsT t).length ≤ 1000000 := by rw [cellsT_len]; exact prob_small hv
      refine W_x tok mixed ?_
      simp -implicitDefEqProofs -dsimp [hb]
      refine hQ _ _ _ ?_
      simp -implicitDefEqProofs -dsimp []
      refine (callP (c2) (by simp)).mono ?_
      rintro r H' ⟨rfl, rfl⟩
      simp -implicitDefEqProofs -dsimp []
      refine lw_of (W_loopV [false, false, false, false, false, false, true, false, false, false, true, false, false, false, false, false, false, false, false, false, false, false, false, false, false, false, false, false, false, false, false, false, false, false, false, false, true, true, true, true, true, true, true, true, true, true, true, true, true] (σ := Nat) (fun i => i ≤ l.length ∧ (if (l.drop i).all (cellB t) then (0 : Int) else 4) = E) (fun i => l.length - i) (fun i => [(10, .int .i64 i)]) (fun _ => [B.cells [.str t.name, .lst 1 ff (t.attrs.map V.str), .lst 2 gg (t.rows.map encRw)]]) 0 ⟨by omega, by rw [List.drop_zero]; exact hE2⟩ (by simp) (by simp) (by simp) ?_)
      rintro i ⟨hi, hx⟩ N Q hN hQ
      by_cases hb : i < l.length
      · rw [List.drop_eq_getElem_cons hb, List.all_cons] at hx
        obtain ⟨c, hc⟩ : ∃ c, c = l[i] := ⟨_, rfl⟩
        rw [← hc] at hx
        have hc' := hc.symm
        have c3 := has_r (cellsT t) c false hcl
        simp only [LC, encCr] at c3
        have he : hasC (cellsT t) c = cellB t c := by rw [Bool.eq_iff_iff, hasC_iff, cellB_in hv]
        rw [he] at c3
        cases hq : cellB t c with
        | true =>
          rw [hq] at c3
          rw [hq, Bool.true_and] at hx
          refine W_x tok mixed ?_
          simp -implicitDefEqProofs -dsimp [hb, hc', encCr]
          refine (callP (c3) (by simp)).mono ?_
          rintro r H' ⟨rfl, rfl⟩
          simp -implicitDefEqProofs -dsimp [wrapS i (by omega)]
          refine hN (i + 1) _ _ ⟨by omega, hx⟩ (by omega) (by simp) ⟨[], by simp⟩ (by simp [LF]) (by simp)
        | false =>
          rw [hq] at c3
          rw [hq, Bool.false_and, if_neg (by simp)] at hx
          refine W_x tok mixed ?_
          simp -implicitDefEqProofs -dsimp [hb, hc', encCr]
          refine (callP (c3) (by simp)).mono ?_
          rintro r H' ⟨rfl, rfl⟩
          simp -implicitDefEqProofs -dsimp []
          refine hQ _ _ _ ?_
          simp -implicitDefEqProofs -dsimp []
          exact hx
      · rw [List.drop_of_length_le (by omega)] at hx
        refine W_x tok mixed ?_
        simp -implicitDefEqProofs -dsimp [hb]
        refine hQ _ _ _ ?_
        simp -implicitDefEqProofs -dsimp []
        simpa using hx
  · rw [if_neg h0]
    refine conP_of_conH (conH_of_W tok Tryz.func36 rfl rfl ?_)
    refine W_x tok mixed ?_
    simp -implicitDefEqProofs -dsimp [Tryz.f36, List.replicate, encTb, LS, LR, LC]
    refine (callP (c1) (by simp)).mono ?_
    rintro r H' ⟨rfl, rfl⟩
    simp -implicitDefEqProofs -dsimp [h0]
def zTb : V := .agg [.str ByteArray.empty, .nilS, .nilS]
set_option maxHeartbeats 16000000 in
theorem fill_err (t : Tb) (ff gg df cf : Bool) (fds : List Fd) (l : List Cr) (ht : TbOk t) (hF : FdsOk fds) (hl : l.length ≤ 1000000) (h : chkE t fds l ≠ 0) : ConP Tryz.prog 22 [encTb ff gg t, LF df fds, LC cf l] fun r => r = .tup [zTb, .int .i64 (chkE t fds l)] := by
  have c1 := check_u t ff gg df cf fds l ht hF hl
  simp only [encTb, LS, LR, LC, LF] at c1
  refine conP_of_conH (conH_of_W tok Tryz.func22 rfl rfl ?_)
  refine W_x tok mixed ?_
  simp -implicitDefEqProofs -dsimp [Tryz.f22, List.replicate, encTb, LS, LR, LC, LF]
  refine (callP (c1) (by simp)).mono ?_
  rintro r H' ⟨rfl, rfl⟩
  simp -implicitDefEqProofs -dsimp [h]
  rfl
set_option maxHeartbeats 16000000 in
theorem apply_err (t : Tb) (ff gg df cf : Bool) (fds : List Fd) (l : List Cr) (ht : TbOk t) (hF : FdsOk fds) (hl : l.length ≤ 1000000) (h : chkE t fds l ≠ 0) : ConP Tryz.prog 24 [encTb ff gg t, LF df fds, LC cf l] fun r => r = .tup [.int .i64 0, .int .i64 (chkE t fds l)] := by
  have c1 := fill_err t ff gg df cf fds l ht hF hl h
  simp only [encTb, LS, LR, LC, LF, zTb] at c1
  refine conP_of_conH (conH_of_W tok Tryz.func24 rfl rfl ?_)
  refine W_x tok mixed ?_
  simp -implicitDefEqProofs -dsimp [Tryz.f24, List.replicate, encTb, LS, LR, LC, LF]
  refine (callP (c1) (by simp)).mono ?_
  rintro r H' ⟨rfl, rfl⟩
  simp -implicitDefEqProofs -dsimp [h]
set_option maxHeartbeats 16000000 in
theorem isCore_err (t : Tb) (ff gg df cf : Bool) (fds : List Fd) (l : List Cr) (ht : TbOk t) (hF : FdsOk fds) (hl : l.length ≤ 1000000) (h : chkE t fds l ≠ 0) : ConP Tryz.prog 34 [encTb ff gg t, LF df fds, LC cf l] fun r => r = .tup [.bool false, .int .i64 (chkE t fds l)] := by
  have c1 := check_u t ff gg df cf fds l ht hF hl
  simp only [encTb, LS, LR, LC, LF] at c1
  refine conP_of_conH (conH_of_W tok Tryz.func34 rfl rfl ?_)
  refine W_x tok mixed ?_
  simp -implicitDefEqProofs -dsimp [Tryz.f34, List.replicate, encTb, LS, LR, LC, LF]
  refine (callP (c1) (by simp)).mono ?_
  rintro r H' ⟨rfl, rfl⟩
  simp -implicitDefEqProofs -dsimp [h]
theorem check_nil (t : Tb) (ff gg df : Bool) (fds : List Fd) (ht : TbOk t) (hF : FdsOk fds) : ConP Tryz.prog 43 [encTb ff gg t, LF df fds, .nilS] fun r => r = .int .i64 (baseE t fds) := by
  have c1 := check_u t ff gg df false fds [] ht hF (by simp)
  rw [chkE_nil] at c1
  refine conP_args c1 rfl (fun i a b ha hb => ?_)
  match i with
  | 0 => simp at ha hb; subst ha; subst hb; exact .refl _
  | 1 => simp at ha hb; subst ha; subst hb; exact .refl _
  | 2 => simp at ha hb; subst ha; subst hb; exact .nil _ _
  | k + 3 => simp at ha
def zUp : V := .agg [.nilS, .str ByteArray.empty, .nilS, .nilS, .nilS, .nilS]
set_option maxHeartbeats 16000000 in
theorem optimal_err (t : Tb) (ff gg df : Bool) (fds : List Fd) (b : Int) (ht : TbOk t) (hF : FdsOk fds) (h : baseE t fds ≠ 0) : ConP Tryz.prog 28 [encTb ff gg t, LF df fds, .int .i64 b] fun r => r = .tup [zUp, .int .i64 (baseE t fds)] := by
  have c1 := check_nil t ff gg df fds ht hF
  simp only [encTb, LS, LR, LF] at c1
  refine conP_of_conH (conH_of_W tok Tryz.func28 rfl rfl ?_)
  refine W_x tok mixed ?_
  simp -implicitDefEqProofs -dsimp [Tryz.f28, List.replicate, encTb, LS, LR, LF]
  refine (callP (c1) (by simp)).mono ?_
  rintro r H' ⟨rfl, rfl⟩
  simp -implicitDefEqProofs -dsimp [h]
  rfl
set_option maxHeartbeats 16000000 in
theorem check_err (t : Tb) (ff gg df : Bool) (fds : List Fd) (ht : TbOk t) (hF : FdsOk fds) (h : baseE t fds ≠ 0) : ConP Tryz.prog 30 [encTb ff gg t, LF df fds, .agg [.nilS, .str t.name, LS ff t.attrs, LR gg t.rows, .nilS, .lst 2 true [.agg [.int .i64 (-1), .nilS]]]] fun r => r = .bool false := by
  have c1 := check_nil t ff gg df fds ht hF
  simp only [encTb, LS, LR, LF] at c1
  refine conP_of_conH (conH_of_W tok Tryz.func30 rfl rfl ?_)
  refine W_x tok mixed ?_
  simp -implicitDefEqProofs -dsimp [Tryz.f30, List.replicate, encTb, LS, LR, LF]
  refine (callP (c1) (by simp)).mono ?_
  rintro r H' ⟨rfl, rfl⟩
  simp -implicitDefEqProofs -dsimp [h]
end Go.Proofs.YteijbpppalhihaaGreat
end
