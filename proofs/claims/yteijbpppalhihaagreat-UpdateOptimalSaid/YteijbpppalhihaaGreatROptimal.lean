/- The statement 'UpdateOptimal': the Go function returns true for every input, and each argument reads afterwards as it read before. No condition. -/
import Derived.Test.YteijbpppalhihaaGreatJQ8
import Derived.Test.YteijbpppalhihaaGreatRows
import Derived.ProofKit
import Derived.OpenShut
import Derived.ChangeOld
namespace Go.Proofs.YteijbpppalhihaaGreat.updateOptimal
open Go Go.AM Go.ChangeShapes Go.WideShapes Go.ChangeAt Go.RowKit
set_option linter.unusedVariables false

theorem own : ownKnob Tryz.prog.godebug = none := by kernel_rfl
theorem laidOut : laidOutB Tryz.prog = true := by kernel_rfl

set_option maxRecDepth 100000 in
theorem lifted (os : Os) (started : os.Started) (H : Type) (enc : TypeId × Value → H) :
    ReturnsInHanded {} Tryz.checked os 7 .any (Rows.updateOptimalSpec.pre6 enc Tryz.prog Tryz.f7 Rows.updateOptimalRow.domain false) (Rows.updateOptimalSpec.post enc Tryz.prog Tryz.f7 false true false false) := by
  refine returnsInHanded_of_change (C := Tryz.checked) own started (by kernel_rfl) Tryz.func7
    (ChangeSpec.witness6 (enc := enc) (C := Tryz.checked) false ⟨#[], #[.agg #[.int .u8 0, .int .u8 0, .slice none 0 0, .slice none 0 0]], []⟩ 8 (by kernel_rfl) (by kernel_rfl) (by kernel_rfl) (by kernel_rfl)) ?_
  intro W base args ds gs before hval0 hW hcnd _
  have hval : ∀ (j : Nat) t v, Tryz.f7.params[j]? = some t → args[j]? = some v → Value.okWide Tryz.prog W .any base t v := hval0
  have hW' := hW
  obtain ⟨p, q, hA0, hV, rfl, hfz, hnd⟩ := hW
  have hA : DataW.TrodAll enc Tryz.prog W 0 (fun _ => true) true Tryz.f7.params.toList args.toList ds p := hA0
  rw [Tryz.params7] at hA hval
  obtain ⟨v0, vs0, d0, ds0, p0, q0, hargs, rfl, rfl, h0, r0⟩ := trodAll_cons hA
  obtain ⟨rfl, rfl, rfl⟩ := trodAll_nil r0
  obtain rfl : args = #[v0] := by cases args; simp_all
  obtain ⟨rfl, rfl⟩ := trodVars_none hV
  have k0 := h0
  have lt0 : ∀ x ∈ p0, x.block < W.heap.size := by obtain ⟨m, hm⟩ := k0; exact DataW.trod_lt m _ _ _ hm
  have o0 := hval 0 27 v0 rfl rfl
  obtain ⟨m0, f0⟩ := h0
  obtain ⟨w0, c0, s0⟩ := opn (T := T) tok cells_ok 8 m0 27 _ _ (by kernel_rfl) f0
  obtain ⟨u0, rfl⟩ : ∃ u, v0 = .agg u := by
    unfold Value.okWide at o0
    rw [Tryz.underlying27] at o0
    obtain ⟨u, hu, _⟩ := o0
    exact ⟨u, hu⟩
  have rel0 := agg_rel (show CR W w0 u0.toList from c0)
  obtain ⟨a0, e0, b0⟩ := sh_case s0
  rw [e0] at rel0
  clear hA0 hval0
  refine (((lawOptimal a0 false false b0)).2 (fun _ => False) W _ (gokN _) (fun b hb => hb.elim) rfl (fun i a u ha hu => ?_)).mono fun e W' ⟨u, r, he, hp, hrel, bel, hr⟩ => ?_
  · match i with
    | 0 => simp at ha hu; subst ha; subst hu; exact rel0
    | k + 1 => simp at ha
  · subst hr
    cases hrel
    subst he
    exact ⟨_, rfl, _, _, _, [], _, [], hW', trodAll_mk1 (shut_bool Tryz.underlying4 _), (trodAll_cons_mk (Below.trod laidOut (by kernel_rfl) (of_decide_eq_true (by kernel_rfl)) k0 bel lt0) trodAll_mk0), rfl, bel.frame _, fun h => by cases h⟩

theorem over : Rows.updateOptimalRow.holds Tryz.pinned (OpenSpec.ofChange Rows.updateOptimalSpec) :=
  OpenClaim.holds_of_wide 7 Tryz.f7 rfl rfl rfl rfl rfl rfl rfl ⟨rfl, rfl, rfl, rfl, rfl⟩ rfl rfl rfl rfl rfl (by kernel_rfl) Tryz.func7 (by kernel_rfl)
    (of_decide_eq_true (by kernel_rfl)) (by unfold Func.isWrapper; first | (rw [if_pos (by decide +kernel)]; kernel_rfl) | (rw [if_neg (by decide +kernel)]; exact ⟨rfl, rfl⟩))
    (fun os started H enc _ => lifted os started H enc)

theorem proved : Rows.UpdateOptimalSaid := over
#print axioms proved
end Go.Proofs.YteijbpppalhihaaGreat.updateOptimal
