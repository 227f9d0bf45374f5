/- T10: lists of dependencies of recipes. Expanded by pp.py. -/
import Derived.Test.YteijbpppalhihaaGreatT9
set_option linter.unusedVariables false
set_option linter.unusedSimpArgs false
set_option maxRecDepth 100000
namespace Go.Proofs.YteijbpppalhihaaGreat
open Go Go.AM
/-- A dependency: two sets. -/
structure Fd where
  l : Nat
  r : Nat
def encD (d : Fd) : V := .agg [.int .u8 (d.l : Int), .int .u8 (d.r : Int)]
def encF (d : Fd) : V := .agg [.int .u32 (d.l : Int), .int .u32 (d.r : Int)]
@[simp] theorem encD_pure (d : Fd) : AM.Pure (encD d) := by simp [encD]
@[simp] theorem encF_pure (d : Fd) : AM.Pure (encF d) := by simp [encF]
@[simp] theorem encF_oneV (d : Fd) : oneV (encF d) = true := rfl
def LF (f : Bool) (ds : List Fd) : V := .lst 2 f (ds.map encF)
@[simp] theorem LF_pure (f : Bool) (ds : List Fd) : AM.Pure (LF f ds) := by simp [LF]
def fdOf (n : Nat) (d : Fd) : Fd := ⟨d.l &&& fullN n, d.r &&& fullN n⟩
def fdsTo (n : Nat) (ds : List Fd) (i : Nat) : List Fd := (ds.take i).map (fdOf n)
theorem fdsTo_len (n : Nat) (ds : List Fd) (i : Nat) (h : i ≤ ds.length) : (fdsTo n ds i).length = i := by simp [fdsTo]; omega
theorem fdsTo_succ (n : Nat) (ds : List Fd) (i : Nat) (h : i < ds.length) : fdsTo n ds (i + 1) = fdsTo n ds i ++ [fdOf n ds[i]] := by
  unfold fdsTo
  rw [List.take_succ_eq_append_getElem h, List.map_append]; rfl
theorem cap8b (n : Nat) (h : n ≤ 1000000000) : n ≤ 9223372036854775806 ∧ (n + 1) * 8 ≤ 140737488355328 := by omega
set_option maxHeartbeats 8000000 in
theorem list09 (n : Nat) (ds : List Fd) (f : Bool) (hn : n ≤ 32) (hl : ds.length ≤ 1000000) (hd : ∀ d ∈ ds, d.l < 256 ∧ d.r < 256) : ConP Tryz.prog 39 [.int .i64 n, .lst 2 f (ds.map encD)] fun r => r = LF false (ds.map (fdOf n)) := by
  have hF := fullN_lt n hn
  have hc := full02 n hn
  refine conP_of_conH (conH_of_W tok Tryz.func39 rfl rfl ?_)
  refine W_x tok mixed ?_
  simp -implicitDefEqProofs -dsimp [Tryz.f39, List.replicate]
  refine (callP (hc) (by simp)).mono ?_
  rintro r H' ⟨rfl, rfl⟩
  simp -implicitDefEqProofs -dsimp []
  refine lw_of (W_own 46 2 [6] (by simp) (W_loopV [false, false, false, false, false, false, true, true, false, false, true, true, true, true, true, true, true, true, true, true, true, true, true, true, true, true, true, true, true, true, true, true, true, true, true, true] (σ := Nat) (fun i => i ≤ ds.length) (fun i => ds.length - i) (fun i => [(7, .int .i64 i), (6, .buf 0 0 i i)]) (fun i => [B.buf 46 2 ((fdsTo n ds i).map encF) false]) 0 (by omega) (by simp) (by simp [fdsTo]) (by simp) ?_))
  intro i hi N Q hN hQ
  have hli := fdsTo_len n ds i hi
  by_cases hb : i < ds.length
  · obtain ⟨h1, h2⟩ := hd ds[i] (List.getElem_mem hb)
    have hst := fdsTo_succ n ds i hb
    have e1 := and32 ds[i].l (fullN n) (by omega) hF
    have e2 := and32 ds[i].r (fullN n) (by omega) hF
    have w1 := u32w ds[i].l (by omega)
    have w2 := u32w ds[i].r (by omega)
    refine W_x tok mixed ?_
    simp -implicitDefEqProofs -dsimp [hb]
    refine lw_of (W_drawT tok mixed [19] [] [] (by kernel_rfl) fun C K hC hK => ?_)
    simp -implicitDefEqProofs [hb, encD, w1, w2, e1, e2, cap8b i (by omega), hli]
    refine hK _ _ ?_
    simp -implicitDefEqProofs -dsimp [wrapS i (by omega)]
    refine hN (i + 1) _ _ (by omega) (by omega) ?_ ⟨[], ?_⟩ ?_ ?_ <;> simp [or_imp, forall_and, L1, encI, hst, encF, fdOf, encD]
  · obtain rfl : i = ds.length := by omega
    refine W_x tok mixed ?_
    simp -implicitDefEqProofs -dsimp [hb]
    refine hQ _ _ _ ?_
    simp -implicitDefEqProofs -dsimp []
    rw [show LF false (ds.map (fdOf n)) = LF false (fdsTo n ds ds.length) by unfold fdsTo; rw [List.take_length]]
    exact exp_buf rfl (by rw [List.length_map]; exact hli.symm) (by simp)
end Go.Proofs.YteijbpppalhihaaGreat
