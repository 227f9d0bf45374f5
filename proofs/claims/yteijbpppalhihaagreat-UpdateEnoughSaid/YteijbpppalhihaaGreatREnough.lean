/- The statement 'UpdateEnough': the Go function returns true for every input, and each argument reads afterwards as it read before. No condition. -/
import Derived.Test.YteijbpppalhihaaGreatRows
import Derived.Test.YteijbpppalhihaaGreatOp
import Derived.Test.YteijbpppalhihaaGreatY6
import Derived.ProofKit
import Derived.OpenShut
import Derived.ChangeOld
set_option linter.unusedSimpArgs false
namespace Go.Proofs.YteijbpppalhihaaGreat.updateEnough
open Go Go.AM Go.ChangeShapes Go.WideShapes Go.ChangeAt Go.RowKit
set_option linter.unusedVariables false

theorem own : ownKnob Tryz.prog.godebug = none := by kernel_rfl
theorem laidOut : laidOutB Tryz.prog = true := by kernel_rfl

set_option maxRecDepth 100000 in
theorem lifted (os : Os) (started : os.Started) (H : Type) (enc : TypeId × Value → H) :
    ReturnsInHanded {} Tryz.checked os 3 .any (Rows.updateEnoughSpec.pre6 enc Tryz.prog Tryz.f3 Rows.updateEnoughRow.domain false) (Rows.updateEnoughSpec.post enc Tryz.prog Tryz.f3 false true false false) := by
  refine returnsInHanded_of_change (C := Tryz.checked) own started (by kernel_rfl) Tryz.func3
    (ChangeSpec.witness6 (enc := enc) (C := Tryz.checked) false ⟨#[], #[.agg #[.int .u8 0, .int .u8 0, .slice none 0 0, .slice none 0 0], .int .u16 0, .int .u16 0], []⟩ 8 (by kernel_rfl) (by kernel_rfl) (by kernel_rfl) (by kernel_rfl)) ?_
  intro W base args ds gs before hval0 hW hcnd _
  have hval : ∀ (j : Nat) t v, Tryz.f3.params[j]? = some t → args[j]? = some v → Value.okWide Tryz.prog W .any base t v := hval0
  have hW' := hW
  obtain ⟨p, q, hA0, hV, rfl, hfz, hnd⟩ := hW
  have hA : DataW.TrodAll enc Tryz.prog W 0 (fun _ => true) true Tryz.f3.params.toList args.toList ds p := hA0
  rw [Tryz.params3] at hA hval
  obtain ⟨v0, vs0, d0, ds0, p0, q0, hargs, rfl, rfl, h0, r0⟩ := trodAll_cons hA
  obtain ⟨v1, vs1, d1, ds1, p1, q1, rfl, rfl, rfl, h1, r1⟩ := trodAll_cons r0
  obtain ⟨v2, vs2, d2, ds2, p2, q2, rfl, rfl, rfl, h2, r2⟩ := trodAll_cons r1
  obtain ⟨rfl, rfl, rfl⟩ := trodAll_nil r2
  obtain rfl : args = #[v0, v1, v2] := by cases args; simp_all
  obtain ⟨rfl, rfl⟩ := trodVars_none hV
  have k0 := h0
  have lt0 : ∀ x ∈ p0, x.block < W.heap.size := by obtain ⟨m, hm⟩ := k0; exact DataW.trod_lt m _ _ _ hm
  have k1 := h1
  have lt1 : ∀ x ∈ p1, x.block < W.heap.size := by obtain ⟨m, hm⟩ := k1; exact DataW.trod_lt m _ _ _ hm
  have k2 := h2
  have lt2 : ∀ x ∈ p2, x.block < W.heap.size := by obtain ⟨m, hm⟩ := k2; exact DataW.trod_lt m _ _ _ hm
  have o0 := hval 0 27 v0 rfl rfl
  obtain ⟨m0, f0⟩ := h0
  obtain ⟨w0, c0, s0⟩ := opn (T := T) tok cells_ok 8 m0 27 _ _ (by kernel_rfl) f0
  obtain ⟨u0, rfl⟩ : ∃ u, v0 = .agg u := by
    unfold Value.okWide at o0
    rw [Tryz.underlying27] at o0
    obtain ⟨u, hu, _⟩ := o0
    exact ⟨u, hu⟩
  have rel0 := agg_rel (show CR W w0 u0.toList from c0)
  obtain ⟨a0, e0, b0⟩ := sh_case s0
  rw [e0] at rel0
  have o1 := hval 1 28 v1 rfl rfl
  obtain ⟨m1, f1⟩ := h1
  obtain ⟨w1, c1, s1⟩ := opn (T := T) tok cells_ok 8 m1 28 _ _ (by kernel_rfl) f1
  obtain ⟨z1, rfl, _, _, wz1⟩ := open_int Tryz.underlying28 o1 k1
  obtain ⟨a1, e1, b1⟩ := sh_u16 s1
  have rel1 := c1.rel 0 _ _ (by rw [e1]; rfl) rfl
  have o2 := hval 2 28 v2 rfl rfl
  obtain ⟨m2, f2⟩ := h2
  obtain ⟨w2, c2, s2⟩ := opn (T := T) tok cells_ok 8 m2 28 _ _ (by kernel_rfl) f2
  obtain ⟨z2, rfl, _, _, wz2⟩ := open_int Tryz.underlying28 o2 k2
  obtain ⟨a2, e2, b2⟩ := sh_u16 s2
  have rel2 := c2.rel 0 _ _ (by rw [e2]; rfl) rfl
  clear hA0 hval0
  refine ((lawEnough2 a0 a1 a2 false false b0 b1 b2).2 (fun _ => False) W _ (gokN _) (fun b hb => hb.elim) rfl (fun i a u ha hu => ?_)).mono fun e W' ⟨u, r, he, hp, hrel, bel, hr⟩ => ?_
  · match i with
    | 0 => simp at ha hu; subst ha; subst hu; exact rel0
    | 1 => simp at ha hu; subst ha; subst hu; exact rel1
    | 2 => simp at ha hu; subst ha; subst hu; exact rel2
    | k + 3 => simp at ha
  · subst hr
    cases hrel
    subst he
    exact ⟨_, rfl, _, _, _, [], _, [], hW', trodAll_mk1 (shut_bool Tryz.underlying4 _), (trodAll_cons_mk (Below.trod laidOut (by kernel_rfl) (of_decide_eq_true (by kernel_rfl)) k0 bel lt0) (trodAll_cons_mk (Below.trod laidOut (by kernel_rfl) (of_decide_eq_true (by kernel_rfl)) k1 bel lt1) (trodAll_cons_mk (Below.trod laidOut (by kernel_rfl) (of_decide_eq_true (by kernel_rfl)) k2 bel lt2) trodAll_mk0))), rfl, bel.frame _, fun h => by cases h⟩

theorem over : Rows.updateEnoughRow.holds Tryz.pinned (OpenSpec.ofChange Rows.updateEnoughSpec) :=
  OpenClaim.holds_of_wide 3 Tryz.f3 rfl rfl rfl rfl rfl rfl rfl ⟨rfl, rfl, rfl, rfl, rfl⟩ rfl rfl rfl rfl rfl (by kernel_rfl) Tryz.func3 (by kernel_rfl)
    (of_decide_eq_true (by kernel_rfl)) (by unfold Func.isWrapper; first | (rw [if_pos (by decide +kernel)]; kernel_rfl) | (rw [if_neg (by decide +kernel)]; exact ⟨rfl, rfl⟩))
    (fun os started H enc _ => lifted os started H enc)

theorem proved : Rows.UpdateEnoughSaid := over
#print axioms proved
end Go.Proofs.YteijbpppalhihaaGreat.updateEnough
