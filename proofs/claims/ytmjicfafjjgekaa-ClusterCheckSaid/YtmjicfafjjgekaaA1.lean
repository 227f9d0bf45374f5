import Derived.Test.YtmjicfafjjgekaaTy
import Derived.Test.YtmjicfafjjgekaaPlain3
namespace Go.Proofs.Ytmjicfafjjgekaa
open Go Go.AM Go.Dr
theorem mixed : Try.prog.follows .mixedOrders = true := by kernel_rfl
def encT (t : T4) : V := .agg [.int .i64 t.i, .int .i64 t.j, .int .i64 t.k, .int .i64 t.a]
def encP (p : P3) : V := .agg [.int .i64 p.i, .int .i64 p.k, .int .i64 p.x]
@[simp] theorem encT_pure (t : T4) : AM.Pure (encT t) := by simp [encT]
@[simp] theorem encP_pure (p : P3) : AM.Pure (encP p) := by simp [encP]

theorem in_con (t : T4) (v : Int) : ConP Try.prog 43 [encT t, .int .i64 v] fun r => r = .bool (inT t v) := by
  refine conP_of_conH (conH_of_W tok Try.func43 rfl rfl ?_)
  refine W_seq (W_region tok fun C K hC hK => ?_)
  simp [encT, Try.f43, List.replicate]
  refine hK _ _ ?_
  clear hC hK C K
  refine W_seq (W_region tok fun C K hC hK => ?_)
  cases h1 : (t.i == v)
  · cases h2 : (t.j == v)
    · simp [h1, h2]
      exact hK _ _ (W_ret (ret_pure rfl (.bool _) (by simp [inT, h1, h2])))
    · simp [h1, h2]
      exact hK _ _ (W_ret (ret_pure rfl (.bool _) (by simp [inT, h2])))
  · simp [h1]
    exact hK _ _ (W_ret (ret_pure rfl (.bool _) (by simp [inT, h1])))

theorem loadT_take (p : P3) (ts : List T4) (i : Nat) (h : i < ts.length) : loadT p (ts.take (i + 1)) = loadT p (ts.take i) + (if onT ts[i] p then ts[i].a else 0) := by
  simp only [loadT, List.take_add_one, List.getElem?_eq_getElem h, Option.toList, List.map_append, List.sum_append, List.map_cons, List.map_nil, List.sum_cons, List.sum_nil, Int.add_zero]
theorem loadT_bounds (p : P3) (ts : List T4) (ht : ∀ t ∈ ts, 0 ≤ t.a ∧ t.a ≤ 1000) : 0 ≤ loadT p ts ∧ loadT p ts ≤ 1000 * ts.length := by
  induction ts with
  | nil => simp [loadT]
  | cons t ts ih =>
    have := ih (fun t h => ht t (by simp [h])); have h2 := ht t (by simp)
    simp only [loadT, List.map_cons, List.sum_cons, List.length_cons] at this ⊢
    split <;> omega

theorem room_con (p : P3) (ts : List T4) (full : Bool) (h0 : -1000 ≤ p.x) (h1 : p.x ≤ 1000) (hl : ts.length ≤ 100000) (ht : ∀ t ∈ ts, 0 ≤ t.a ∧ t.a ≤ 1000) :
    ConP Try.prog 42 [encP p, .lst 4 full (ts.map encT)] fun r => r = .int .i64 (roomP p ts) := by
  refine conP_of_conH (conH_of_W tok Try.func42 rfl rfl ?_)
  refine W_seq (W_region tok fun C K hC hK => ?_)
  simp [encP, Try.f42, List.replicate]
  refine hK _ _ ?_
  clear hC hK C K
  refine W_seq (W_region tok fun C K hC hK => ?_)
  have hw : IntKind.i64.wrap (-p.x) = -p.x := wrap_in (by omega) (by omega)
  have ha : (if p.x < -p.x then -p.x else p.x) = absI p.x := by unfold absI; split <;> split <;> omega
  simp [hw, ha]
  refine hK _ _ ?_
  clear hC hK C K
  refine W_seq (W_seq (W_region tok fun C K hC hK => ?_))
  simp
  refine hK _ _ ?_
  clear hC hK C K
  refine W_block ?_
  have hab : 0 ≤ absI p.x ∧ absI p.x ≤ 1000 := by unfold absI; split <;> omega
  refine W_loopS (σ := Nat) (fun i => i ≤ ts.length) (fun i => ts.length - i) (fun i => [encP p, .lst 4 full (ts.map encT), .ptr 0 0, .undef, .undef, .int .i64 (absI p.x - loadT p (ts.take i)), .int .i64 i] ++ List.replicate 36 .undef)
    (fun _ => [B.cells [.int .i64 p.i, .int .i64 p.k, .int .i64 p.x]]) 0 (Nat.zero_le _) (by simp [List.replicate, loadT, encP]) rfl (fun x hx => Nat.le_refl _) (fun i hi => ?_)
  have hld := loadT_bounds p (ts.take i) (fun t h => ht t (List.mem_of_mem_take h))
  have hlen : (ts.take i).length ≤ ts.length := by simp; omega
  refine W_seq (W_seq (W_region tok fun C K hC hK => ?_))
  simp [List.replicate]
  refine hK _ _ ?_
  clear hC hK C K
  simp only [thenQ]
  refine W_split (by simp; rfl) (fun hb => W_skip ?_) (fun hb => W_exit ?_)
  · have hb : i < ts.length := by simpa using hb
    simp only [thenQ]
    refine W_seq (W_block (W_seq (W_quiet tok mixed (if inT ts[i] p.i then [.bool (inT ts[i] p.i), .bool (inT ts[i] p.k)] else [.bool (inT ts[i] p.i)]) rfl fun C K hC hK => ?_)))
    have hget : (ts.map encT)[i]? = some (encT ts[i]) := by simp [hb]
    have hstep := loadT_take p ts i hb
    have hti := ht ts[i] (List.getElem_mem hb)
    have hw1 : IntKind.i64.wrap ((i : Int) + 1) = ((i + 1 : Nat) : Int) := by rw [wrap_in (by omega) (by omega)]; rfl
    have hw2 : IntKind.i64.wrap (absI p.x - loadT p (ts.take i) - ts[i].a) = absI p.x - loadT p (ts.take i) - ts[i].a := wrap_in (by omega) (by omega)
    cases hc1 : inT ts[i] p.i
    · have hon : onT ts[i] p = false := by simp [onT, hc1]
      simp [encT, hb]
      refine ⟨hC _ _ _ _ (callP (by have := in_con ts[i] p.i; rw [hc1] at this; exact this) (by simp)), hK _ _ ?_⟩
      clear hC hK C K
      refine W_cond (b := false) rfl (W_skip ?_)
      simp only [blockQ, thenQ]
      refine W_region tok fun C K hC hK => ?_
      simp [hw1]
      refine hK _ _ ⟨i + 1, by omega, by omega, ?_, ⟨[], rfl⟩, ?_, ?_⟩
      · simp [List.replicate, hstep, hon]
      · simp [encP, List.replicate]
      · simp
    · cases hc2 : inT ts[i] p.k
      · have hon : onT ts[i] p = false := by simp [onT, hc2]
        simp [encT, hb]
        refine ⟨hC _ _ _ _ (callP (by have := in_con ts[i] p.i; rw [hc1] at this; exact this) (by simp)), hC _ _ _ _ (callP (by have := in_con ts[i] p.k; rw [hc2] at this; exact this) (by simp)), hK _ _ ?_⟩
        clear hC hK C K
        refine W_cond (b := false) rfl (W_skip ?_)
        simp only [blockQ, thenQ]
        refine W_region tok fun C K hC hK => ?_
        simp [hw1]
        refine hK _ _ ⟨i + 1, by omega, by omega, ?_, ⟨[], rfl⟩, ?_, ?_⟩
        · simp [List.replicate, hstep, hon]
        · simp [encP, List.replicate]
        · simp
      · have hon : onT ts[i] p = true := by simp [onT, hc1, hc2]
        simp [encT, hb]
        refine ⟨hC _ _ _ _ (callP (by have := in_con ts[i] p.i; rw [hc1] at this; exact this) (by simp)), hC _ _ _ _ (callP (by have := in_con ts[i] p.k; rw [hc2] at this; exact this) (by simp)), hK _ _ ?_⟩
        clear hC hK C K
        refine W_cond (b := true) rfl (W_region tok fun C K hC hK => ?_)
        simp [encT, hb, hw2]
        refine hK _ _ ?_
        clear hC hK C K
        simp only [blockQ, thenQ]
        refine W_region tok fun C K hC hK => ?_
        simp [hw1]
        refine hK _ _ ⟨i + 1, by omega, by omega, ?_, ⟨[], rfl⟩, ?_, ?_⟩
        · simp [List.replicate, hstep, hon]; omega
        · simp [encP, List.replicate]
        · simp
  · have hb : ts.length ≤ i := by simpa using hb
    have : i = ts.length := by omega
    subst this
    simp only [blockQ, thenQ]
    refine W_seq (W_region tok fun C K hC hK => ?_)
    simp
    refine hK _ _ (W_ret (ret_pure rfl (.int _ _) (by simp [roomP])))
end Go.Proofs.Ytmjicfafjjgekaa
