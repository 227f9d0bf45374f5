/- C3: what the evaluator of closed calls knows from elsewhere: comparison of strings, slices.Grow of nil; calls with a lent or a frozen list. Expanded by pp.py. -/
import Derived.Test.YteijbpppalhihaaGreatGr
set_option linter.unusedVariables false
set_option linter.unusedSimpArgs false
namespace Go.Proofs.YteijbpppalhihaaGreat
open Go Go.AM Go.RowKit
def ext : ExtF := fun f args H => match f, args with
  | 174, [.str a, .str b] => some (.int .i64 (cmpS a b), H)
  | 137, [.nilS, .int .i64 n] => if n = 0 then some (.nilS, H) else if 0 ≤ n ∧ n ≤ 1000000 then some (.buf H.length 0 0 0, H ++ [.buf 49 2 [] false]) else none
  | _, _ => none
theorem ext_ok : ExtOk Tryz.prog ext := fun f args H r H' h => by
  unfold ext at h
  split at h
  · cases h
    rename_i a b
    have := callP (H := H) (cmp_con a b) (by simp)
    simpa only [WCall, List.append_nil] using this
  · rename_i n
    split at h
    · rename_i h0
      subst h0
      cases h
      have := callP (H := H) grow_nil_C (by simp)
      simpa only [WCall, List.append_nil] using this
    split at h
    · rename_i hc
      cases h
      have := callO (H := H) (grow_con_C n.toNat (by omega)) (by simp)
      rw [Int.toNat_of_nonneg hc.1] at this
      have h2 := WCall.mono this (K' := fun x y => x = .buf H.length 0 0 0 ∧ y = H ++ [.buf 49 2 [] false]) (by
        rintro r H' ⟨e, z, xs, rfl, rfl, _, rfl, rfl, rfl⟩
        exact ⟨rfl, rfl⟩)
      simpa only [WCall, List.append_nil] using h2
    · cases h
  · cases h
theorem allNamed : (Tryz.prog.funcs.toList.all fun fn => !(fn.name == "runtime.NumGoroutine")) = true := by kernel_rfl
theorem named : ∀ (f : Nat) (fn : Func), Tryz.prog.funcs[f]? = some fn → (fn.name == "runtime.NumGoroutine") = false := fun f fn h => by
  have := List.all_eq_true.1 allNamed fn (by rw [Array.mem_toList_iff]; exact Array.mem_of_getElem? h)
  simpa using this
/-- The one argument that is an own list, where the others are as they are asked for. -/
def buf1 (H : List B) : List V → List V → Option (Nat × Nat × Nat × List V)
  | a :: as', b :: bs => if eqV 40 a b = true then buf1 H as' bs else match a with
    | .buf k 0 n m => match H[k]? with
      | some (.buf e z xs _) => if n = xs.length ∧ m = xs.length ∧ eqV 40 (.lst z false xs) b = true ∧ eqL (eqV 40) as' bs = true then some (k, e, z, xs) else none
      | _ => none
    | _ => none
  | _, _ => none
theorem repF_refl (p q : V) : ∀ xs : List V, RepF p q xs xs
  | [] => trivial
  | _ :: xs => ⟨.inl rfl, repF_refl p q xs⟩
theorem buf1_ok {H : List B} : ∀ {args ga : List V} {k e z : Nat} {xs : List V}, buf1 H args ga = some (k, e, z, xs) → (∃ fz, H[k]? = some (.buf e z xs fz)) ∧ RepF (.buf k 0 xs.length xs.length) (.lst z false xs) args ga
  | [], _, _, _, _, _, h => by simp [buf1] at h
  | _ :: _, [], _, _, _, _, h => by simp [buf1] at h
  | a :: as', b :: bs, k, e, z, xs, h => by
    unfold buf1 at h
    split at h
    · rename_i he
      obtain ⟨h1, h2⟩ := buf1_ok h
      exact ⟨h1, .inl (eqV_eq _ _ _ he).symm, h2⟩
    · split at h
      · rename_i k' n m
        split at h
        · rename_i e' z' xs' fz hk
          split at h
          · rename_i hc
            obtain ⟨rfl, rfl, h3, h4⟩ := hc
            cases h
            refine ⟨⟨fz, hk⟩, .inr ⟨rfl, (eqV_eq _ _ _ h3).symm⟩, ?_⟩
            rw [eqL_eq (eqV_eq 40) h4]
            exact repF_refl _ _ _
          · cases h
        · cases h
      · cases h
def extS (g : FuncId) (ga : List V) (gr : V) (ext : ExtF) : ExtF := fun f args H => if Nat.beq f g then (if eqL (eqV 40) args ga then some (gr, H) else match buf1 H args ga with
  | some _ => some (gr, H)
  | none => ext f args H) else ext f args H
def extZ (g : FuncId) (ga : List V) (gr : V) (ext : ExtF) : ExtF := fun f args H => if Nat.beq f g then (if eqL (eqV 40) args ga then some (gr, H) else match buf1 H args ga with
  | some (k, e, z, xs) => some (gr, H.set k (.buf e z xs true))
  | none => ext f args H) else ext f args H
theorem pure_of_lst {z : Nat} {f : Bool} {xs : List V} (h : AM.Pure (.lst z f xs)) : ∀ x ∈ xs, AM.Pure x := by cases h; assumption
theorem extS_ok {ext : ExtF} (he : ExtOk Tryz.prog ext) {g : FuncId} {ga : List V} {gr : V} (hc : ConP Tryz.prog g ga fun x => x = gr) (hq : ∀ a ∈ ga, AM.Pure a) (hs : Scalar gr) : ExtOk Tryz.prog (extS g ga gr ext) := fun f args H r H' h => by
  unfold extS at h
  split at h
  · rename_i hf
    have hfg : f = g := Nat.eq_of_beq_eq_true hf
    subst hfg
    split at h
    · rename_i ha
      have ha := eqL_eq (eqV_eq 40) ha
      cases h
      subst ha
      have := callP (H := H) hc hq
      simpa only [WCall, List.append_nil] using this
    · split at h
      · rename_i o ho
        obtain ⟨k, e, z, xs⟩ := o
        cases h
        obtain ⟨⟨fz, hk⟩, hr⟩ := buf1_ok ho
        have := callX (H := H) (args := args) hc hr.len (fun i a a' h1 h2 => by
          have hp := hq a' (List.mem_of_getElem? h2)
          rcases hr.at_ i a a' h1 h2 with rfl | ⟨rfl, rfl⟩
          · exact .pure _ hp
          · exact exp_buf hk rfl (pure_of_lst hp)) hs
        simpa only [WCall, List.append_nil] using this
      · exact he f args H r H' h
  · exact he f args H r H' h
theorem extZ_ok {ext : ExtF} (he : ExtOk Tryz.prog ext) {g : FuncId} {ga : List V} {gr : V} (hc : ConP Tryz.prog g ga fun x => x = gr) (hq : ∀ a ∈ ga, AM.Pure a) : ExtOk Tryz.prog (extZ g ga gr ext) := fun f args H r H' h => by
  unfold extZ at h
  split at h
  · rename_i hf
    have hfg : f = g := Nat.eq_of_beq_eq_true hf
    subst hfg
    split at h
    · rename_i ha
      have ha := eqL_eq (eqV_eq 40) ha
      cases h
      subst ha
      have := callP (H := H) hc hq
      simpa only [WCall, List.append_nil] using this
    · split at h
      · rename_i k e z xs ho
        cases h
        obtain ⟨⟨fz, hk⟩, hr⟩ := buf1_ok ho
        have := callF (H := H) (args := args) k hk hc hr hq
        simpa only [WCall, List.append_nil] using this
      · exact he f args H r H' h
  · exact he f args H r H' h
end Go.Proofs.YteijbpppalhihaaGreat
