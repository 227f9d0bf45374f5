/- W19: the closures of Components. Expanded by pp.py. -/
import Derived.Test.YtfaleabndlcanaaGreatDoorW17
set_option linter.unusedSimpArgs false
set_option maxRecDepth 100000
namespace Go.Proofs.YtfaleabndlcanaaGreatDoor
open Go Go.AM
def encN (n : Nat) : V := .int .i64 n
@[simp] theorem encN_pure (n : Nat) : AM.Pure (encN n) := by simp [encN]
@[simp] theorem encN_oneV (n : Nat) : oneV (encN n) = true := rfl
def rootN (part : List Nat) (i : Nat) : Nat := if _h : part.getD i i < i then rootN part (part.getD i i) else i
termination_by i
set_option maxHeartbeats 8000000 in
theorem place_c (H : List B) (vs : List Int) (es : List (List Int)) (f g : Bool) (v : Int) (hv : vs.length ≤ 1000000) (hk : H[0]? = some (.cells [L1 f vs, LL g es])) :
    ConH Tryz.prog 70 [.int .i64 v, .ptr 0 0] H fun r H' => r = .int .i64 (bsP vs v) ∧ H' = H := by
  have hc := bsearch64 vs v f hv
  refine conH_of_W tok Tryz.func70 rfl rfl ?_
  refine W_x tok mixed ?_
  simp -implicitDefEqProofs -dsimp [Tryz.f70, List.replicate, hk]
  refine (callP (hc) (by simp)).mono ?_
  rintro r H' ⟨rfl, rfl⟩
  simp -implicitDefEqProofs -dsimp []
set_option maxHeartbeats 8000000 in
theorem root_c (H : List B) (part : List Nat) (i : Nat) (hp : part.length ≤ 1000000) (hi : i < part.length) (hle : ∀ j, part.getD j j ≤ j) (hH : ∀ bl ∈ H, rbB H.length bl) (h1 : H[1]? = some (.buf 3 1 (part.map encN) false)) (h2 : H[2]? = some (.cells [.buf 1 0 part.length part.length])) :
    ConH Tryz.prog 69 [.int .i64 i, .ptr 2 0] H fun r H' => r = .int .i64 (rootN part i) ∧ H' = H := by
  have hl2 : 2 < H.length := getElem?_lt h2
  have hl1 : 1 < H.length := by omega
  refine conH_of_W tok Tryz.func69 rfl rfl ?_
  refine W_x tok mixed ?_
  simp -implicitDefEqProofs -dsimp [Tryz.f69, List.replicate]
  refine lw_of (W_loopV [true, false, false, false, true, true, true, true, true, true, true, true, true, true] (σ := Nat) (fun j => j < part.length ∧ rootN part j = rootN part i) (fun j => j) (fun j => [(0, .int .i64 j)]) (fun _ => H) i ⟨hi, rfl⟩ (by simp) rfl (by simp) ?_)
  rintro j ⟨hj, hx⟩ N Q hN hQ
  have hg : part.getD j j = part[j] := by simp [hj]
  have hlj := hle j
  rw [hg] at hlj
  rw [rootN, hg] at hx
  by_cases hq : part[j] < j
  · rw [dif_pos hq] at hx
    refine W_x tok mixed ?_
    simp -implicitDefEqProofs -dsimp [h1, h2, hj, encN, show ¬ ((part[j] : Int) = j) by omega]
    refine hN part[j] _ _ ⟨by omega, hx⟩ hq (by simp) ⟨[], by simp⟩ (by simp [hl1, hl2]) hH
  · rw [dif_neg hq] at hx
    have he : part[j] = j := by omega
    refine W_x tok mixed ?_
    simp -implicitDefEqProofs -dsimp [h1, h2, hj, encN, he]
    refine hQ _ _ _ ?_
    simp -implicitDefEqProofs -dsimp []
    rw [hx]
end Go.Proofs.YtfaleabndlcanaaGreatDoor
