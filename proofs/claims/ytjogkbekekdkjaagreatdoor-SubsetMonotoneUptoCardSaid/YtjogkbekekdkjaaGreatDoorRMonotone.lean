/- The statement 'SubsetMonotone' as a tied card where what it reads is of bulk at most 1048576: the Go function returns true, and each argument reads afterwards as it read before; the library's table of bit counts starts as the program's text lays it. -/
import Derived.Test.YtjogkbekekdkjaaGreatDoorJM11
import Derived.Test.YtjogkbekekdkjaaGreatDoorJM31
import Derived.Test.YtjogkbekekdkjaaGreatDoorJM46
import Derived.Test.YtjogkbekekdkjaaGreatDoorRows
import Derived.Test.YtjogkbekekdkjaaGreatDoorCards
import Derived.Test.YtjogkbekekdkjaaGreatDoorTie
import Derived.ProofKit
import Derived.ChangeMaps5
import Derived.OpenShut
import Derived.ChangeOld
import Derived.Stop.Joined
import Derived.SevenTiedAt
import Derived.Deep.DeepHandedRow
import Derived.Deep.DeepWitnessRowRef
namespace Go.Proofs.YtjogkbekekdkjaaGreatDoor.subsetMonotone
open Go Go.ChangeShapes Go.WideShapes Go.ChangeAt Go.RowKit Go.AM
set_option linter.unusedVariables false

set_option maxRecDepth 100000 in
theorem contract (H : Type) (enc : TypeId × Value → H) (W : World) (base : Nat) (args : Array Value) (ds gs : List (DataW H)) (before : List MemPlace)
    (hval0 : ∀ (j : Nat) t v, Tryz.f7.params[j]? = some t → args[j]? = some v → Value.okWide Tryz.prog W .any base t v)
    (hW : DataW.Whole enc Tryz.prog Tryz.f7.params.toList Rows.subsetMonotoneSpec.vars false W args.toList ds gs before) (hk : Rows.uptoSmall H (ds ++ gs) = true) (hL : laidMetH Tryz.prog Rows.subsetMonotoneUptoRow.laid W) :
    Calls Tryz.prog 7 args W fun e W' => ∃ v, e = .returned v ∧ Rows.subsetMonotoneSpec.post enc Tryz.prog Tryz.f7 false true false false W args v W' := by
  have hval : ∀ (j : Nat) t v, Tryz.f7.params[j]? = some t → args[j]? = some v → Value.okWide Tryz.prog W .any base t v := hval0
  have hW' := hW
  obtain ⟨p, q, hA0, hV, rfl, hfz, hnd⟩ := hW
  have hA : DataW.TrodAll enc Tryz.prog W 0 (fun _ => true) true Tryz.f7.params.toList args.toList ds p := hA0
  rw [Tryz.params7] at hA hval
  obtain ⟨v0, vs0, d0, ds0, p0, q0, hargs, rfl, rfl, h0, r0⟩ := trodAll_cons hA
  obtain ⟨v1, vs1, d1, ds1, p1, q1, rfl, rfl, rfl, h1, r1⟩ := trodAll_cons r0
  obtain ⟨v2, vs2, d2, ds2, p2, q2, rfl, rfl, rfl, h2, r2⟩ := trodAll_cons r1
  obtain ⟨rfl, rfl, rfl⟩ := trodAll_nil r2
  obtain rfl : args = #[v0, v1, v2] := by cases args; simp_all
  obtain ⟨rfl, rfl⟩ := trodVars_none hV
  have hk := bulk_le hk
  have hb0 : Rows.uptoBulk d0 ≤ 1048576 := Nat.le_trans (bulk_mem (by simp)) hk
  have hb1 : Rows.uptoBulk d1 ≤ 1048576 := Nat.le_trans (bulk_mem (by simp)) hk
  have hb2 : Rows.uptoBulk d2 ≤ 1048576 := Nat.le_trans (bulk_mem (by simp)) hk
  have k0 := h0
  have lt0 : ∀ x ∈ p0, x.block < W.heap.size := by obtain ⟨m, hm⟩ := k0; exact DataW.trod_lt m _ _ _ hm
  have k1 := h1
  have lt1 : ∀ x ∈ p1, x.block < W.heap.size := by obtain ⟨m, hm⟩ := k1; exact DataW.trod_lt m _ _ _ hm
  have k2 := h2
  have lt2 : ∀ x ∈ p2, x.block < W.heap.size := by obtain ⟨m, hm⟩ := k2; exact DataW.trod_lt m _ _ _ hm
  have o0 := hval 0 28 v0 rfl rfl
  obtain ⟨m0, f0⟩ := h0
  obtain ⟨w0, c0, s0⟩ := opnB (T := T) bulk_ok tok cells_ok 12 m0 28 _ _ (by kernel_rfl) f0 hb0
  obtain ⟨u0, rfl⟩ : ∃ u, v0 = .agg u := by
    unfold Value.okWide at o0
    rw [Tryz.underlying28] at o0
    obtain ⟨u, hu, _⟩ := o0
    exact ⟨u, hu⟩
  have rel0 := agg_rel (show CR W w0 u0.toList from c0)
  obtain ⟨a0, r0x, u0x, e0, b0⟩ := shq_case4 (Nat.le_refl _) s0
  rw [e0] at rel0
  have o1 := hval 1 100 v1 rfl rfl
  obtain ⟨m1, f1⟩ := h1
  obtain ⟨w1, c1, s1⟩ := opnB (T := T) bulk_ok tok cells_ok 12 m1 100 _ _ (by kernel_rfl) f1 hb1
  obtain ⟨u1, rfl⟩ : ∃ u, v1 = .agg u := by
    unfold Value.okWide at o1
    rw [Tryz.underlying100] at o1
    obtain ⟨u, hu, _⟩ := o1
    exact ⟨u, hu⟩
  have rel1 := agg_rel (show CR W w1 u1.toList from c1)
  obtain ⟨a1, e1, b1⟩ := shq_rule (Nat.le_refl _) s1
  rw [e1] at rel1
  have o2 := hval 2 5 v2 rfl rfl
  obtain ⟨m2, f2⟩ := h2
  obtain ⟨w2, c2, s2⟩ := opnB (T := T) bulk_ok tok cells_ok 12 m2 5 _ _ (by kernel_rfl) f2 hb2
  obtain ⟨z2, rfl, _, _, wz2⟩ := open_int Tryz.underlying5 o2 k2
  obtain ⟨a2, e2, b2⟩ := shq_u8 s2
  have rel2 := c2.rel 0 _ _ (by rw [e2]; rfl) rfl
  clear hA0 hval0
  refine (((lawMonotone a0 r0x u0x a1 a2 false false false b0 b1 b2)).2 (fun _ => False) W _ (gok hL) (fun b hb => hb.elim) rfl (fun i a u ha hu => ?_)).mono fun e W' ⟨u, r, he, hp, hrel, bel, hr⟩ => ?_
  · match i with
    | 0 => simp at ha hu; subst ha; subst hu; exact rel0
    | 1 => simp at ha hu; subst ha; subst hu; exact rel1
    | 2 => simp at ha hu; subst ha; subst hu; exact rel2
    | k + 3 => simp at ha
  · subst hr
    cases hrel
    subst he
    exact ⟨_, rfl, _, _, _, [], _, [], hW', trodAll_mk1 (shut_bool Tryz.underlying4 _), (trodAll_cons_mk (Below.trod laidOut (by kernel_rfl) (of_decide_eq_true (by kernel_rfl)) k0 bel lt0) (trodAll_cons_mk (Below.trod laidOut (by kernel_rfl) (of_decide_eq_true (by kernel_rfl)) k1 bel lt1) (trodAll_cons_mk (Below.trod laidOut (by kernel_rfl) (of_decide_eq_true (by kernel_rfl)) k2 bel lt2) trodAll_mk0))), rfl, bel.frame _, fun h => by cases h⟩

theorem reads (os : Os) {H : Type} (enc : TypeId × Value → H) : ∃ places, DataW.whole enc Tryz.prog ((World.doorLaid Tryz.prog 400 os).forCall (fun _ _ => 0) ⟨#[], #[.agg #[.int .u8 0, .int .u8 0, .slice none 0 0, .slice none 0 0, .slice none 0 0], .agg #[.int .u8 0, .int .u8 0, .int .u8 0, .int .u8 0, .int .u8 0, .slice none 0 0, .slice none 0 0, .slice none 0 0, .int .u8 0, .slice none 0 0], .int .u8 0], []⟩).memory Tryz.f7.params.toList Rows.subsetMonotoneSpec.vars false (show Array Value from #[.agg #[.int .u8 0, .int .u8 0, .slice none 0 0, .slice none 0 0, .slice none 0 0], .agg #[.int .u8 0, .int .u8 0, .int .u8 0, .int .u8 0, .int .u8 0, .slice none 0 0, .slice none 0 0, .slice none 0 0, .int .u8 0, .slice none 0 0], .int .u8 0]).toList 8 = some ([.agg [.agg [.lit (.int .u8 0), .lit (.int .u8 0), .nil], .nil, .nil], .agg [.lit (.int .u8 0), .agg [.lit (.int .u8 0), .lit (.int .u8 0)], .agg [.lit (.int .u8 0), .lit (.int .u8 0), .nil], .agg [.nil, .nil], .agg [.lit (.int .u8 0), .nil]], .lit (.int .u8 0)], [], places) :=
  ⟨[], by kernel_rfl⟩

set_option maxRecDepth 100000 in
theorem lifted (os : Os) (started : os.Started) (H : Type) (enc : TypeId × Value → H) (F : Stop.Interp) :
    ReturnsInHanded {} Tryz.checked os 7 .any ((Rows.OpenSpec.upto Rows.subsetMonotoneSpec).preRow enc Tryz.prog Tryz.f7 Rows.subsetMonotoneUptoRow.domain false Rows.subsetMonotoneUptoRow.laid) (((Rows.OpenSpec.upto Rows.subsetMonotoneSpec).at F).post enc Tryz.prog Tryz.f7 false true false false) := by
  obtain ⟨places, hx⟩ := reads os enc
  refine returnsInHanded_of_row (C := Tryz.checked) (s := Rows.OpenSpec.upto Rows.subsetMonotoneSpec) own started (by kernel_rfl) Tryz.func7
    (witness_row_atRef (enc := enc) (C := Tryz.checked) false (World.doorLaid Tryz.prog 400 os) #[.agg #[.int .u8 0, .int .u8 0, .slice none 0 0, .slice none 0 0, .slice none 0 0], .agg #[.int .u8 0, .int .u8 0, .int .u8 0, .int .u8 0, .int .u8 0, .slice none 0 0, .slice none 0 0, .slice none 0 0, .int .u8 0, .slice none 0 0], .int .u8 0] rfl (by kernel_rfl) (by kernel_rfl) (by kernel_rfl)
      (OpenSpec.preRow_of_cond 8 hx (by kernel_rfl) (fun k hk => by cases hk; kernel_rfl) (by kernel_rfl) (door_met os _))) ?_
  intro W base args ds gs before hval hW _ hcond _ hL _ _
  exact contract H enc W base args ds gs before hval hW (hcond _ rfl) hL

set_option maxHeartbeats 8000000 in
theorem joined : joinedFacts Tryz.pinned.checked.prog 7 Tryz.f7 (Rows.OpenSpec.upto Rows.subsetMonotoneSpec).bare Rows.subsetMonotoneUptoRow = true := by
  unfold joinedFacts
  simp only [Bool.and_eq_true]
  repeat' apply And.intro
  all_goals as_aux_lemma => kernel_rfl

theorem said : Rows.SubsetMonotoneUptoSaid :=
  OpenClaim.holds_of_cond 7 Tryz.f7 rfl rfl rfl rfl rfl rfl rfl ⟨rfl, rfl, rfl, rfl, rfl⟩ rfl rfl rfl rfl rfl (by kernel_rfl) Tryz.func7 joined
    (of_decide_eq_true (by kernel_rfl)) (by unfold Func.isWrapper; first | (rw [if_pos (by decide +kernel)]; kernel_rfl) | (rw [if_neg (by decide +kernel)]; exact ⟨rfl, rfl⟩))
    (fun os started H enc _ F => by rw [OpenClaim.pre_eq_preRow]; exact lifted os started H enc F)

theorem plain (f : FuncId) (fn : Func) (hf : Tryz.pinned.checked.prog.funcNamed "dross/drosslaw41.SubsetMonotone" = some f) (hfn : Tryz.pinned.checked.prog.funcs[f]? = some fn) :
    false = Tryz.pinned.checked.prog.looks [] ∧ ∀ (j : Nat) t, fn.params[j]? = some t → Tryz.pinned.checked.prog.wantsStandIn t = false := by
  obtain rfl : f = 7 := Option.some.inj ((show Tryz.prog.funcNamed "dross/drosslaw41.SubsetMonotone" = some 7 by kernel_rfl).symm.trans hf) |>.symm
  obtain rfl : fn = Tryz.f7 := (Option.some.inj (Tryz.func7.symm.trans hfn)).symm
  refine ⟨by kernel_rfl, fun j t ht => ?_⟩
  rw [Tryz.params7] at ht
  have hm : t ∈ [28, 100, 5] := by simpa using Array.mem_of_getElem? ht
  have hall : ([28, 100, 5].all fun u => !Tryz.prog.wantsStandIn u) = true := by kernel_rfl
  exact (show Tryz.prog.wantsStandIn t = false by simpa using List.all_eq_true.1 hall t hm)

theorem proved : Rows.SubsetMonotoneUptoCardSaid :=
  Claim7.holds_tied_plain_at .later [] _ _ _ _ said (fun _ h => by cases h) (by kernel_rfl) (fun _ h => by cases h) subsetMonotoneUpto_row_tie rfl ⟨rfl, rfl⟩ (by kernel_rfl) rfl plain (by kernel_rfl)
#print axioms proved
end Go.Proofs.YtjogkbekekdkjaaGreatDoor.subsetMonotone
