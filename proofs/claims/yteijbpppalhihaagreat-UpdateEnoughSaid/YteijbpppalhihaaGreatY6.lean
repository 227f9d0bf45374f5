/- Y6: the law UpdateEnough. Expanded by pp.py. -/
import Derived.Test.YteijbpppalhihaaGreatY5
import Derived.Test.YteijbpppalhihaaGreatX6
set_option linter.unusedVariables false
set_option linter.unusedSimpArgs false
set_option maxRecDepth 100000
namespace Go.Proofs.YteijbpppalhihaaGreat
open Go Go.AM
theorem u16w (a : Nat) (h : a < 65536) : IntKind.u16.wrap (a : Int) = a := by rw [IntKind.wrap_u16]; omega
theorem or16 (a b : Nat) (ha : a < 65536) (hb : b < 65536) : IntKind.u16.wrap ((a % 2 ^ IntKind.u16.bits ||| b % 2 ^ IntKind.u16.bits : Nat) : Int) = ((a ||| b : Nat) : Int) := by
  have h1 : a % 2 ^ IntKind.u16.bits = a := Nat.mod_eq_of_lt ha
  have h2 : b % 2 ^ IntKind.u16.bits = b := Nat.mod_eq_of_lt hb
  rw [h1, h2]
  exact u16w _ (Nat.or_lt_two_pow (n := 16) ha hb)
theorem hasW_bit (s i : Nat) (hs : s < 65536) (hi : i < 16) : hasW s i = s.testBit i := by
  have h1 : min i IntKind.u16.bits = i := Nat.min_eq_left (by show i ≤ 16; omega)
  have h2 : ((s : Int).fdiv (2 ^ i) % 2 ^ IntKind.u16.bits).toNat = s / 2 ^ i := by
    have h3 : (s : Int).fdiv (2 ^ i) = ((s / 2 ^ i : Nat) : Int) := by
      rw [Int.fdiv_eq_ediv_of_nonneg _ (by have : (0 : Int) < 2 ^ i := Int.pow_pos (by omega); omega)]
      simp
    rw [h3]
    have h5 : s / 2 ^ i < 65536 := Nat.lt_of_le_of_lt (Nat.div_le_self _ _) hs
    have mod16 : ∀ y : Nat, y < 65536 → ((y : Int) % 2 ^ IntKind.u16.bits).toNat = y := fun y h => by
      have : (2 : Int) ^ IntKind.u16.bits = 65536 := rfl
      rw [this]; omega
    exact mod16 _ h5
  have h4 : (1 % 2 ^ IntKind.u16.bits : Nat) = 1 := rfl
  unfold hasW
  rw [h1, h2, h4, Nat.and_one_is_mod, u16w _ (by omega), Nat.testBit_eq_decide_div_mod_eq]
  rw [Bool.eq_iff_iff, beq_iff_eq, decide_eq_true_iff]
  omega
theorem choose_more (t : Tb) (a b : Nat) (ha : a < 65536) (hb : b < 65536) : ∀ c ∈ chooseT t a, c ∈ chooseT t ((a ||| b : Nat) : Int) := by
  intro c hc
  unfold chooseT chTo at hc ⊢
  obtain ⟨i, hi, rfl⟩ := List.mem_map.1 hc
  obtain ⟨h1, h2⟩ := List.mem_filter.1 hi
  have hi16 : i < 16 := by have := List.mem_range.1 h1; omega
  refine List.mem_map.2 ⟨i, List.mem_filter.2 ⟨h1, ?_⟩, rfl⟩
  rw [hasW_bit _ _ ha hi16] at h2
  rw [hasW_bit _ _ (Nat.or_lt_two_pow (n := 16) ha hb) hi16, Nat.testBit_or, h2, Bool.true_or]
set_option maxHeartbeats 32000000 in
theorem lawEnough (c : Cs) (a b : Nat) (f g : Bool) (h : CsOk c) (ha : a < 65536) (hb16 : b < 65536) : ConP Tryz.prog 3 [encCs f g c, .int .u16 a, .int .u16 b] fun r => r = .bool true := by
  have ca := awake_con
  cases hb : csB c with
  | false =>
    have c1 := of_no c f g h hb
    simp only [encCs, offV] at c1
    refine conP_of_conH (conH_of_W tok Tryz.func3 rfl rfl ?_)
    refine W_x tok mixed ?_
    simp -implicitDefEqProofs -dsimp [Tryz.f3, List.replicate, encCs]
    refine (callP (c1) (by simp)).mono ?_
    rintro r H' ⟨rfl, rfl⟩
    simp -implicitDefEqProofs -dsimp []
    refine (callP (ca) (by simp)).mono ?_
    rintro r H' ⟨rfl, rfl⟩
    simp -implicitDefEqProofs -dsimp []
    refine (callP (ca) (by simp)).mono ?_
    rintro r H' ⟨rfl, rfl⟩
    simp -implicitDefEqProofs -dsimp []
  | true =>
    have v := csV h hb
    have c1 := of_yes c f g h hb
    have m1 : (csT c).rows.length ≤ 1000 := v.tv.rows
    have m2 : (csT c).attrs.length ≤ 1000 := by have := v.tv.attrs; omega
    have c2 := choose_r (csT c) false false a m1 m2
    have c2' := choose_r (csT c) false false ((a ||| b : Nat) : Int) m1 m2
    have hcl := chooseT_ok v.tv (a : Int)
    have hcl' := chooseT_ok v.tv ((a ||| b : Nat) : Int)
    have hmono : Okq (probT (csT c) (csF c) (chooseT (csT c) a)) → Okq (probT (csT c) (csF c) (chooseT (csT c) ((a ||| b : Nat) : Int))) := okq_mono (choose_more (csT c) a b ha hb16)
    have hor := or16 a b ha hb16
    obtain ⟨ab, hab⟩ : ∃ ab, ab = a ||| b := ⟨_, rfl⟩
    rw [← hab] at c2' hcl' hmono hor
    obtain ⟨l, hl⟩ : ∃ l, l = chooseT (csT c) (a : Int) := ⟨_, rfl⟩
    obtain ⟨l', hl'⟩ : ∃ l', l' = chooseT (csT c) (ab : Int) := ⟨_, rfl⟩
    rw [← hl] at c2 hcl hmono
    rw [← hl'] at c2' hcl' hmono
    have k1 := clone_F (csF c) false (by have := v.flen; omega)
    have k2 := clone_C l false hcl.len
    have c3 := enough_val v hcl false false
    have c4 := enough_val v hcl' false false
    have c5 := enough_r (csT c) false false false false (csF c) l v.tv v.fok hcl.len
    simp only [encCs, encTb, LS, LR] at c1
    simp only [encTb, LS, LR] at c2 c2' c3 c4 c5
    cases hq : okB (probT (csT c) (csF c) l) with
    | false =>
      rw [hq] at c3 c5
      refine conP_of_conH (conH_of_W tok Tryz.func3 rfl rfl ?_)
      refine W_x tok mixed ?_
      simp -implicitDefEqProofs -dsimp [Tryz.f3, List.replicate, encCs]
      refine (callP (c1) (by simp)).mono ?_
      rintro r H' ⟨rfl, rfl⟩
      simp -implicitDefEqProofs -dsimp []
      refine (callP (ca) (by simp)).mono ?_
      rintro r H' ⟨rfl, rfl⟩
      simp -implicitDefEqProofs -dsimp []
      refine (callP (c2) (by simp)).mono ?_
      rintro r H' ⟨rfl, rfl⟩
      simp -implicitDefEqProofs -dsimp []
      refine .inr ⟨stop_of (by kernel_rfl), ?_⟩
      refine cy_of _ (callP (k1) (by simp)) ?_
      simp -implicitDefEqProofs -dsimp []
      refine cy_of _ (callP (k2) (by simp)) ?_
      simp -implicitDefEqProofs -dsimp []
      refine cy_of _ (callP (c3) (by simp)) ?_
      simp -implicitDefEqProofs -dsimp [hor]
      refine .inr ⟨stop_of (by kernel_rfl), ?_⟩
      refine cy_of _ (callP (k1) (by simp)) ?_
      simp -implicitDefEqProofs -dsimp [hor]
      refine cy_of _ (callP (c2') (by simp)) ?_
      simp -implicitDefEqProofs -dsimp []
      refine cy_of _ (callP (c4) (by simp)) ?_
      simp -implicitDefEqProofs -dsimp []
      refine (callP (c5) (by simp)).mono ?_
      rintro r H' ⟨rfl, rfl⟩
      simp -implicitDefEqProofs -dsimp [eqA2]
    | true =>
      rw [okB_true (hmono (okB_iff.1 hq))] at c4
      rw [hq] at c3 c5
      refine conP_of_conH (conH_of_W tok Tryz.func3 rfl rfl ?_)
      refine W_x tok mixed ?_
      simp -implicitDefEqProofs -dsimp [Tryz.f3, List.replicate, encCs]
      refine (callP (c1) (by simp)).mono ?_
      rintro r H' ⟨rfl, rfl⟩
      simp -implicitDefEqProofs -dsimp []
      refine (callP (ca) (by simp)).mono ?_
      rintro r H' ⟨rfl, rfl⟩
      simp -implicitDefEqProofs -dsimp []
      refine (callP (c2) (by simp)).mono ?_
      rintro r H' ⟨rfl, rfl⟩
      simp -implicitDefEqProofs -dsimp []
      refine .inr ⟨stop_of (by kernel_rfl), ?_⟩
      refine cy_of _ (callP (k1) (by simp)) ?_
      simp -implicitDefEqProofs -dsimp []
      refine cy_of _ (callP (k2) (by simp)) ?_
      simp -implicitDefEqProofs -dsimp []
      refine cy_of _ (callP (c3) (by simp)) ?_
      simp -implicitDefEqProofs -dsimp [hor]
      refine .inr ⟨stop_of (by kernel_rfl), ?_⟩
      refine cy_of _ (callP (k1) (by simp)) ?_
      simp -implicitDefEqProofs -dsimp [hor]
      refine cy_of _ (callP (c2') (by simp)) ?_
      simp -implicitDefEqProofs -dsimp []
      refine cy_of _ (callP (c4) (by simp)) ?_
      simp -implicitDefEqProofs -dsimp []
      refine (callP (c5) (by simp)).mono ?_
      rintro r H' ⟨rfl, rfl⟩
      simp -implicitDefEqProofs -dsimp [eqA2]
theorem lawEnough2 (c : Cs) (s s2 : Int) (f g : Bool) (h : CsOk c) (h1 : 0 ≤ s ∧ s ≤ 65535) (h2 : 0 ≤ s2 ∧ s2 ≤ 65535) : ConP Tryz.prog 3 [encCs f g c, .int .u16 s, .int .u16 s2] fun r => r = .bool true := by
  obtain ⟨a, rfl⟩ := Int.eq_ofNat_of_zero_le h1.1
  obtain ⟨b, rfl⟩ := Int.eq_ofNat_of_zero_le h2.1
  exact lawEnough c a b f g h (by omega) (by omega)
end Go.Proofs.YteijbpppalhihaaGreat
