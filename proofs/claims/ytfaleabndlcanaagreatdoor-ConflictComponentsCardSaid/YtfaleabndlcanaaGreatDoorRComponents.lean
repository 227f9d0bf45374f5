/- The statement 'ConflictComponents' as a tied card: the Go function returns true for every input, and each argument reads afterwards as it read before; the library's table of bit counts starts as the program's text lays it. -/
import Derived.Test.YtfaleabndlcanaaGreatDoorRows
import Derived.Test.YtfaleabndlcanaaGreatDoorCards
import Derived.Test.YtfaleabndlcanaaGreatDoorTie
import Derived.Test.YtfaleabndlcanaaGreatDoorLay
import Derived.Test.YtfaleabndlcanaaGreatDoorOpen
import Derived.Test.YtfaleabndlcanaaGreatDoorOpen2
import Derived.Test.YtfaleabndlcanaaGreatDoorW22
import Derived.ProofKit
import Derived.OpenShut
import Derived.ChangeOld
import Derived.Stop.Joined
import Derived.SevenTiedAt
namespace Go.Proofs.YtfaleabndlcanaaGreatDoor.conflictComponents
open Go Go.ChangeShapes Go.WideShapes Go.ChangeAt Go.RowKit Go.AM
set_option linter.unusedVariables false

set_option maxRecDepth 100000 in
theorem lifted (os : Os) (started : os.Started) (H : Type) (enc : TypeId × Value → H) :
    ReturnsInHanded {} Tryz.checked os 10 .any (fun w args => (Rows.conflictComponentsSpec.pre enc Tryz.prog Tryz.f10 [] false w args ∧ laidMetH Tryz.prog laid1 w) ∧ sizedMet enc Tryz.prog Tryz.f10 (OpenSpec.ofChange Rows.conflictComponentsSpec) false w args)
      (Rows.conflictComponentsSpec.post enc Tryz.prog Tryz.f10 false true false false) := by
  refine returnsInHanded_of_change_and (C := Tryz.checked) (X := fun w _ => laidMetH Tryz.prog laid1 w) (fun _ _ _ hh h => h.of_heap hh) own started (by kernel_rfl) Tryz.func10
    (ChangeSpec.witness_shaped (enc := enc) (C := Tryz.checked) (os := os) (X := fun w _ => laidMetH Tryz.prog laid1 w) false (World.doorLaid Tryz.prog 400 os) #[.agg #[.int .u8 0, .slice none 0 0], .int .u8 0] 8 rfl (World.shaped_of_RefB (by kernel_rfl) (by kernel_rfl)) (by kernel_rfl) (by kernel_rfl) (by kernel_rfl) (door_met os _)) ?_
  intro W base args ds gs before hval0 hW _ _ hL _
  have hval : ∀ (j : Nat) t v, Tryz.f10.params[j]? = some t → args[j]? = some v → Value.okWide Tryz.prog W .any base t v := hval0
  have hW' := hW
  obtain ⟨p, q, hA0, hV, rfl, hfz, hnd⟩ := hW
  have hA : DataW.TrodAll enc Tryz.prog W 0 (fun _ => true) true Tryz.f10.params.toList args.toList ds p := hA0
  rw [Tryz.params10] at hA hval
  obtain ⟨v0, vs0, d0, ds0, p0, q0, hargs, rfl, rfl, h0, r0⟩ := trodAll_cons hA
  obtain ⟨v1, vs1, d1, ds1, p1, q1, rfl, rfl, rfl, h1, r1⟩ := trodAll_cons r0
  obtain ⟨rfl, rfl, rfl⟩ := trodAll_nil r1
  obtain rfl : args = #[v0, v1] := by cases args; simp_all
  obtain ⟨rfl, rfl⟩ := trodVars_none hV
  have k0 := h0
  have lt0 : ∀ x ∈ p0, x.block < W.heap.size := by obtain ⟨m, hm⟩ := k0; exact DataW.trod_lt m _ _ _ hm
  have k1 := h1
  have lt1 : ∀ x ∈ p1, x.block < W.heap.size := by obtain ⟨m, hm⟩ := k1; exact DataW.trod_lt m _ _ _ hm
  have o0 := hval 0 58 v0 rfl rfl
  obtain ⟨m0, f0⟩ := h0
  obtain ⟨w0, c0, s0⟩ := opn (T := T) tok cells_ok 5 m0 58 _ _ (by kernel_rfl) f0
  obtain ⟨u0, rfl⟩ : ∃ u, v0 = .agg u := by
    unfold Value.okWide at o0
    rw [Tryz.underlying58] at o0
    obtain ⟨u, hu, _⟩ := o0
    exact ⟨u, hu⟩
  have rel0 := agg_rel (show CR W w0 u0.toList from c0)
  obtain ⟨a0, b0, e0, la0, lb0⟩ := sh_graph s0
  rw [e0] at rel0
  have o1 := hval 1 5 v1 rfl rfl
  obtain ⟨m1, f1⟩ := h1
  obtain ⟨w1, c1, s1⟩ := opn (T := T) tok cells_ok 5 m1 5 _ _ (by kernel_rfl) f1
  obtain ⟨z1, rfl, _, _, wz1⟩ := open_int Tryz.underlying5 o1 k1
  obtain ⟨a1, e1, la1, lb1⟩ := sh_u8 s1
  have rel1 := c1.rel 0 _ _ (by rw [e1]; rfl) rfl
  clear hA0 hval0
  refine ((lawComponents a0 b0 a1 false la0.1 la0.2 lb0).2 (fun _ => False) W _ (gok hL) (fun b hb => hb.elim) rfl (fun i a u ha hu => ?_)).mono fun e W' ⟨u, r, he, hp, hrel, bel, hr⟩ => ?_
  · match i with
    | 0 => simp at ha hu; subst ha; subst hu; exact rel0
    | 1 => simp at ha hu; subst ha; subst hu; exact rel1
    | k + 2 => simp at ha
  · subst hr
    cases hrel
    subst he
    exact ⟨_, rfl, _, _, _, [], _, [], hW', trodAll_mk1 (shut_bool Tryz.underlying4 _), (trodAll_cons_mk (Below.trod laidOut (by kernel_rfl) (of_decide_eq_true (by kernel_rfl)) k0 bel lt0) (trodAll_cons_mk (Below.trod laidOut (by kernel_rfl) (of_decide_eq_true (by kernel_rfl)) k1 bel lt1) trodAll_mk0)), rfl, bel.frame _, fun h => by cases h⟩

theorem row : Rows.ConflictComponentsSaid :=
  OpenClaim.holds_of_wide 10 Tryz.f10 rfl rfl rfl rfl rfl rfl rfl ⟨rfl, rfl, rfl, rfl, rfl⟩ rfl rfl rfl rfl rfl (by kernel_rfl) Tryz.func10 (by kernel_rfl)
    (of_decide_eq_true (by kernel_rfl)) (by unfold Func.isWrapper; first | (rw [if_pos (by decide +kernel)]; kernel_rfl) | (rw [if_neg (by decide +kernel)]; exact ⟨rfl, rfl⟩))
    (fun os started H enc _ => lifted os started H enc)

theorem proved : Rows.ConflictComponentsCardSaid :=
  Claim7.holds_tied_plain_at .later [] [.data] true (true, "aba5a8bb8a2a7a0a20e3af641ed349c36bc73c4f7da2d6b94908e2a9845ca113") false
    row (fun _ h => by cases h) (by kernel_rfl) (fun _ h => by cases h) conflictComponents_row_tie rfl ⟨rfl, rfl⟩ (by kernel_rfl) rfl
    (fun f fn hf hfn => by
      obtain rfl : f = 10 := Option.some.inj ((show Tryz.prog.funcNamed "dross/drosslaw37.ConflictComponents" = some 10 by kernel_rfl).symm.trans hf) |>.symm
      obtain rfl : fn = Tryz.f10 := (Option.some.inj (Tryz.func10.symm.trans hfn)).symm
      exact ⟨by kernel_rfl, fun j t ht => by
        rw [Tryz.params10] at ht
        have hm : t ∈ [58, 5] := by simpa using Array.mem_of_getElem? ht
        have hall : ([58, 5].all fun u => !Tryz.prog.wantsStandIn u) = true := by kernel_rfl
        exact (show Tryz.prog.wantsStandIn t = false by simpa using List.all_eq_true.1 hall t hm)⟩)
    (by kernel_rfl)
#print axioms proved
end Go.Proofs.YtfaleabndlcanaaGreatDoor.conflictComponents
