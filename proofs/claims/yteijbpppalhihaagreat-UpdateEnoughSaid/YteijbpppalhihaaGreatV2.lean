/- V2: the program's forest: root. Expanded by pp.py. -/
import Derived.Test.YteijbpppalhihaaGreatU5
set_option linter.unusedVariables false
set_option linter.unusedSimpArgs false
set_option maxRecDepth 100000
namespace Go.Proofs.YteijbpppalhihaaGreat
open Go Go.AM
def encN (n : Nat) : V := .int .i64 (n : Int)
@[simp] theorem encN_pure (n : Nat) : AM.Pure (encN n) := by simp [encN]
@[simp] theorem encN_oneV (n : Nat) : oneV (encN n) = true := rfl
/-- A known value: a pointer to it, or none. -/
def encK : Option Vl → V
  | none => .nilP
  | some v => .pin [.int .i64 v.k, .int .i64 v.n, .str v.s] 0
@[simp] theorem encK_pure (o : Option Vl) : AM.Pure (encK o) := by cases o <;> simp [encK]
@[simp] theorem encK_oneV (o : Option Vl) : oneV (encK o) = true := by cases o <;> rfl
def knL (K : Nat → Option Vl) (N : Nat) : List V := (List.range N).map fun x => encK (K x)
def paL (P : List Nat) : List V := P.map encN
theorem knL_len (K : Nat → Option Vl) (N : Nat) : (knL K N).length = N := by simp [knL]
theorem paL_len (P : List Nat) : (paL P).length = P.length := by simp [paL]
theorem knL_at (K : Nat → Option Vl) {N x : Nat} (h : x < N) : (knL K N)[x]? = some (encK (K x)) := by simp [knL, h]
theorem paL_at {P : List Nat} {x : Nat} (h : x < P.length) : (paL P)[x]? = some (.int .i64 (P.getD x 0 : Nat)) := by simp [paL, h, encN]
theorem knL_get (K : Nat → Option Vl) {N x : Nat} (h : x < (knL K N).length) : (knL K N)[x] = encK (K x) := by simp [knL]
theorem paL_get {P : List Nat} {x : Nat} (h : x < (paL P).length) : (paL P)[x] = .int .i64 (P.getD x 0 : Nat) := by
  have h2 : x < P.length := by simpa [paL] using h
  simp [paL, encN, h2]
theorem paL_set (P : List Nat) (x v : Nat) : (paL P).set x (.int .i64 (v : Int)) = paL (P.set x v) := by
  unfold paL
  rw [List.map_set]; rfl
theorem paL_pure (P : List Nat) : ∀ x ∈ paL P, AM.Pure x ∧ oneV x = true := by
  intro x hx
  obtain ⟨n, _, rfl⟩ := List.mem_map.1 hx
  exact ⟨encN_pure n, encN_oneV n⟩
theorem knL_pure (K : Nat → Option Vl) (N : Nat) : ∀ x ∈ knL K N, AM.Pure x ∧ oneV x = true := by
  intro x hx
  obtain ⟨n, _, rfl⟩ := List.mem_map.1 hx
  exact ⟨encK_pure _, encK_oneV _⟩
/-- The heap of the entries, with parents P. -/
def Ht (H : List B) (kp : Nat) (P : List Nat) : List B := H.set kp (.buf 3 1 (paL P) false)
structure HOk (H : List B) (k0 kp kq n N : Nat) (K : Nat → Option Vl) : Prop where
  h0 : H[k0]? = some (.cells [.int .i64 n, .buf kp 0 N N, .buf kq 0 N N])
  hp : kp < H.length
  hq : H[kq]? = some (.buf 113 1 (knL K N) false)
  n0 : kp ≠ k0
  nq : kp ≠ kq
  rb : ∀ P, ∀ bl ∈ Ht H kp P, rbB H.length bl
theorem ht_len (H : List B) (kp : Nat) (P : List Nat) : (Ht H kp P).length = H.length := by simp [Ht]
section
variable {H : List B} {k0 kp kq n N : Nat} {K : Nat → Option Vl} (g : HOk H k0 kp kq n N K)
include g
theorem HOk.at0 (P : List Nat) : (Ht H kp P)[k0]? = some (.cells [.int .i64 n, .buf kp 0 N N, .buf kq 0 N N]) := by
  unfold Ht; rw [List.getElem?_set_ne g.n0]; exact g.h0
theorem HOk.atp (P : List Nat) : (Ht H kp P)[kp]? = some (.buf 3 1 (paL P) false) := by
  unfold Ht; rw [List.getElem?_set_self g.hp]
theorem HOk.atq (P : List Nat) : (Ht H kp P)[kq]? = some (.buf 113 1 (knL K N) false) := by
  unfold Ht; rw [List.getElem?_set_ne g.nq]; exact g.hq
omit g in
theorem ht_set (P P' : List Nat) : (Ht H kp P).set kp (.buf 3 1 (paL P') false) = Ht H kp P' := by
  unfold Ht; rw [List.set_set]
theorem HOk.rbs (P : List Nat) : ∀ bl ∈ Ht H kp P, rbB (Ht H kp P).length bl := by rw [ht_len]; exact g.rb P
theorem HOk.lt0 : k0 < H.length := getElem?_lt g.h0
end
set_option maxHeartbeats 8000000 in
theorem root_u {q : Prob} {P : List Nat} {r h : Nat → Nat} (f : Frt q P r h) {H : List B} {k0 kp kq n N : Nat} (hNe : q.m * q.n = N) (g : HOk H k0 kp kq n N q.K) (hN : N ≤ 1000000) (x : Nat) (hx : x < N) :
    ConH Tryz.prog 54 [.ptr k0 0, .int .i64 x] (Ht H kp P) fun r' H' => r' = .int .i64 (r x) ∧ H' = Ht H kp P := by
  have h0 := g.at0 P
  have h1 := g.atp P
  have hrb := g.rbs P
  have hl0 : k0 < (Ht H kp P).length := by rw [ht_len]; exact g.lt0
  obtain ⟨flen, flt, froot, fself, fstep, fknown, fsem⟩ := f
  simp only [hNe] at flen flt froot fself fstep
  have hpl : (paL P).length = N := by rw [paL_len, flen]
  refine conH_of_W tok Tryz.func54 rfl rfl ?_
  refine W_x tok mixed ?_
  simp -implicitDefEqProofs -dsimp [Tryz.f54, List.replicate]
  refine lw_of (W_loopV [false, true, false, false, false, true, true, true, true, true, true, true, true, true, true, true, true, true, true, true, true] (σ := Nat) (fun j => j < N ∧ r j = r x) (fun j => h j) (fun j => [(1, .int .i64 j)]) (fun _ => Ht H kp P) x ⟨hx, rfl⟩ (by simp) rfl (by simp) ?_)
  rintro j ⟨hj, hx2⟩ N2 Q hN2 hQ
  have hat := fun h => paL_get (P := P) (x := j) h
  by_cases he : P.getD j 0 = j
  · have hs := fself j hj he
    rw [he] at hat
    refine W_x tok mixed ?_
    simp -implicitDefEqProofs -dsimp [h0, h1, hat, hpl, hj]
    refine hQ _ _ _ ?_
    simp -implicitDefEqProofs -dsimp []
    omega
  · obtain ⟨s1, s2, s3⟩ := fstep j hj he
    obtain ⟨p, hp⟩ : ∃ p, p = P.getD j 0 := ⟨_, rfl⟩
    rw [← hp] at hat he s1 s2 s3
    refine W_x tok mixed ?_
    simp -implicitDefEqProofs -dsimp [h0, h1, hat, hpl, hj, show ¬ ((p : Int) = j) by omega]
    refine hN2 p _ _ ⟨s1, by rw [s2]; exact hx2⟩ s3 (by simp) ⟨[], by simp⟩ (by simp [hl0]) hrb
end Go.Proofs.YteijbpppalhihaaGreat
