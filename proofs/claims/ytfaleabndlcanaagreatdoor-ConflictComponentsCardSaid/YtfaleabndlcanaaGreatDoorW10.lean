/- W10: drossref37.Hypergraph. Expanded by pp.py. -/
import Derived.Test.YtfaleabndlcanaaGreatDoorW9
import Derived.Test.YtfaleabndlcanaaGreatDoorAMi
set_option linter.unusedSimpArgs false
set_option maxRecDepth 100000
namespace Go.Proofs.YtfaleabndlcanaaGreatDoor
open Go Go.AM
/-- A recipe of a hypergraph. -/
def encU (n : Int) : V := .int .u8 n
def encG (f : Bool) (n : Int) (cs : List Int) : V := .agg [.int .u8 n, .lst 1 f (cs.map encU)]
@[simp] theorem encU_pure (n : Int) : AM.Pure (encU n) := by simp [encU]
def vsTo (n : Nat) : List Int := (List.range n).map fun (i : Nat) => 2 + 3 * (i : Int)
theorem vsTo_succ (n : Nat) : vsTo (n + 1) = vsTo n ++ [2 + 3 * (n : Int)] := by simp [vsTo, List.range_succ]
theorem vsTo_len (n : Nat) : (vsTo n).length = n := by simp [vsTo]
def lsTo (vs : List Int) (cs : List Int) : Nat → List (List Int)
  | 0 => []
  | i + 1 => if pickF vs (cs.getD i 0) = [] then lsTo vs cs i else lsTo vs cs i ++ [pickF vs (cs.getD i 0)]
theorem lsTo_len (vs cs : List Int) : ∀ i, (lsTo vs cs i).length ≤ i
  | 0 => by simp [lsTo]
  | i + 1 => by
    have := lsTo_len vs cs i
    simp only [lsTo]
    split
    · omega
    · simp; omega
theorem lsTo_ne (vs cs : List Int) : ∀ i, ∀ e ∈ lsTo vs cs i, e ≠ []
  | 0, e, h => by simp [lsTo] at h
  | i + 1, e, h => by
    simp only [lsTo] at h
    split at h
    · exact lsTo_ne vs cs i e h
    · rename_i hn
      rcases List.mem_append.1 h with h | h
      · exact lsTo_ne vs cs i e h
      · simp at h; subst h; exact hn
theorem lsTo_small (vs cs : List Int) : ∀ i, ∀ e ∈ lsTo vs cs i, e.length ≤ 8
  | 0, e, h => by simp [lsTo] at h
  | i + 1, e, h => by
    simp only [lsTo] at h
    split at h
    · exact lsTo_small vs cs i e h
    · rcases List.mem_append.1 h with h | h
      · exact lsTo_small vs cs i e h
      · simp at h; subst h; exact Nat.le_trans (pickTo_len vs _ _) (by omega)
def gN (n : Int) : Nat := (n.tmod 9).toNat
def hypV (n : Int) : List Int := vsTo (gN n)
def hypE (n : Int) (cs : List Int) : List (List Int) := edgesF (lsTo (hypV n) cs (min cs.length 12))
theorem pick37n (vs : List Int) (s : Int) (f : Bool) (hv : vs.length ≤ 1000000) : ConP Tryz.prog 30 [.agg [L1 f vs, .nilS], .int .u8 s] fun r => r = L1 false (pickF vs s) := by
  refine conP_args (pick37 vs [] s f false ⟨hv, by simp, by simp⟩) rfl (fun i a b ha hb => ?_)
  match i with
  | 0 =>
    simp at ha hb
    subst ha; subst hb
    refine .agg _ _ rfl (fun j c d hc hd => ?_)
    match j with
    | 0 => simp at hc hd; subst hc; subst hd; exact .refl _
    | 1 => simp at hc hd; subst hc; subst hd; exact .nil 1 false
    | j + 2 => simp at hc
  | 1 => simp at ha hb; subst ha; subst hb; exact .refl _
  | i + 2 => simp at ha
set_option maxHeartbeats 16000000 in
theorem hyper37 (n : Int) (cs : List Int) (f : Bool) (hn : 0 ≤ n) (hn2 : n < 256) (hcs : cs.length ≤ 9223372036854775807) : ConP Tryz.prog 16 [encG f n cs] fun r => r = .tup [encH false false (hypV n) (hypE n cs), .bool (decide (cs.length ≤ 12))] := by
  have hg9 : gN n ≤ 8 := by have := Int.tmod_lt_of_pos n (show (0 : Int) < 9 by omega); unfold gN; omega
  have hgn : IntKind.i64.wrap (n.tmod 9) = (gN n : Int) := by
    have h1 := Int.tmod_nonneg 9 hn
    rw [wrap64 (by omega) (by have := Int.tmod_lt_of_pos n (show (0 : Int) < 9 by omega); omega)]
    unfold gN; omega
  refine conP_of_conH (conH_of_W tok Tryz.func16 rfl rfl ?_)
  refine W_x tok mixed ?_
  simp -implicitDefEqProofs -dsimp [Tryz.f16, List.replicate, encG, hgn, L1]
  refine lw_of (W_ownC 2 1 [] 2 [0] rfl (by simp) (by simp) (W_loopV [false, false, false, false, false, false, true, false, false, false, false, false, false, false, true, true, true, true, true, true, true, true, true, true, true, true, true] (σ := Nat) (fun i => i ≤ gN n) (fun i => gN n - i) (fun i => [(6, .int .i64 i)]) (fun i => [B.cells [.int .u8 n, .lst 1 f (cs.map encU)], B.cells [.nilS, .nilS], B.cells [.buf 3 0 (vsTo i).length (vsTo i).length, .nilS], B.buf 2 1 ((vsTo i).map encI) false]) 0 (by omega) (by simp) (by simp [vsTo]) (by simp) ?_))
  intro i hi N Q hN hQ
  have hvl := vsTo_len i
  by_cases hb : i < gN n
  · have hp := vsTo_succ i
    have hw1 : IntKind.i64.wrap (3 * (i : Int)) = 3 * (i : Int) := wrap64 (by omega) (by omega)
    have hw2 : IntKind.i64.wrap (2 + 3 * (i : Int)) = 2 + 3 * (i : Int) := wrap64 (by omega) (by omega)
    refine W_x tok mixed ?_
    simp -implicitDefEqProofs -dsimp [hb, hw1, hw2, wrapS i (by omega), hvl, cap8 i (by omega), L1]
    refine hN (i + 1) _ _ (by omega) (by omega) ?_ ⟨[], ?_⟩ ?_ ?_ <;> simp [or_imp, forall_and, L1, encI, hp, hvl]
  · obtain rfl : i = gN n := by omega
    have hvv : vsTo (gN n) = hypV n := rfl
    rw [hvv] at hvl ⊢
    obtain ⟨vs, hvs⟩ : ∃ vs, vs = hypV n := ⟨_, rfl⟩
    rw [← hvs] at hvl ⊢
    refine W_x tok mixed ?_
    simp -implicitDefEqProofs -dsimp [hb, L1]
    refine hQ _ _ _ ?_
    simp -implicitDefEqProofs -dsimp [L1]
    refine lw_of (W_frzC 3 [] 2 [0] rfl rfl (by simp) (by simp) (W_own 46 1 [7] (by simp) (W_loopV [false, false, false, false, false, false, false, true, true, true, false, false, false, false, false, false, false, false, false, false, false, false, false, false, false, false, false, true, true, true, true, true, true, true, true, true, true, true, true, true, true, true, true, true, true, true, true, true, true, true, true, true] (σ := Nat) (fun i => i ≤ min cs.length 12) (fun i => 12 - i) (fun i => [(8, .int .i64 i), (7, .buf 4 0 (lsTo vs cs i).length (lsTo vs cs i).length)]) (fun i => [B.cells [.int .u8 n, .lst 1 f (cs.map encU)], B.cells [.nilS, .nilS], B.cells [L1 false vs, .nilS], B.buf 2 1 (vs.map encI) true, B.buf 46 1 ((lsTo vs cs i).map (L1 false)) false]) 0 (by omega) (by simp [lsTo]) (by simp [lsTo, L1]) (by simp) ?_)))
    intro j hj N2 Q2 hN2 hQ2
    have hll := lsTo_len vs cs j
    by_cases hjb : j < cs.length
    · by_cases hj12 : j < 12
      · have hs : lsTo vs cs (j + 1) = if pickF vs cs[j] = [] then lsTo vs cs j else lsTo vs cs j ++ [pickF vs cs[j]] := by simp [lsTo, hjb]
        have hc := pick37n vs cs[j] false (by omega)
        simp only [L1] at hc
        refine W_x tok mixed ?_
        simp -implicitDefEqProofs -dsimp [hjb, hj12, encU, show (j : Int) < 12 by omega, L1]
        refine .inr ⟨stop_of (by kernel_rfl), ?_⟩
        refine cy_of _ (callP (hc) (by simp)) ?_
        by_cases he : pickF vs cs[j] = []
        · rw [if_pos he] at hs
          simp -implicitDefEqProofs -dsimp [he, wrapS j (by omega), L1]
          refine hN2 (j + 1) _ _ (by omega) (by omega) ?_ ⟨[], ?_⟩ ?_ ?_ <;> simp [or_imp, forall_and, L1, encI, hs]
        · rw [if_neg he] at hs
          have hpos : 0 < (pickF vs cs[j]).length := List.length_pos_iff.2 he
          simp -implicitDefEqProofs -dsimp [hpos, he, wrapS j (by omega), cap24 (lsTo vs cs j).length (by omega), L1]
          refine hN2 (j + 1) _ _ (by omega) (by omega) ?_ ⟨[], ?_⟩ ?_ ?_ <;> simp [or_imp, forall_and, L1, encI, hs]
      · have hls : hypE n cs = edgesF (lsTo vs cs j) := by unfold hypE; rw [← hvs]; congr 2; omega
        have hc := edges37 (lsTo vs cs j) false (by omega) (fun e he => by have := lsTo_small vs cs j e he; omega) (lsTo_ne vs cs j)
        refine W_x tok mixed ?_
        simp -implicitDefEqProofs -dsimp [hjb, hj12, show ¬ ((j : Int) < 12) by omega, L1]
        refine hQ2 _ _ _ ?_
        simp -implicitDefEqProofs -dsimp [L1]
        refine (callF 4 rfl hc (by simp [LL]) (by simp)).mono ?_
        rintro r H' ⟨rfl, rfl⟩
        simp -implicitDefEqProofs -dsimp [LL, encU, L1]
        refine lw_of (W_drawT tok mixed [5] [(1, [1]), (2, [1]), (3, [1]), (4, [1])] [] (by kernel_rfl) fun C K hC hK => ?_)
        simp -implicitDefEqProofs [encU, L1]
        refine hK _ _ ?_
        simp -implicitDefEqProofs -dsimp [encU, encH, L1]
        rw [hls, hvs]
        exact ⟨⟨rfl, rfl⟩, by omega⟩
    · have hls : hypE n cs = edgesF (lsTo vs cs j) := by unfold hypE; rw [← hvs]; congr 2; omega
      have hc := edges37 (lsTo vs cs j) false (by omega) (fun e he => by have := lsTo_small vs cs j e he; omega) (lsTo_ne vs cs j)
      refine W_x tok mixed ?_
      simp -implicitDefEqProofs -dsimp [hjb, L1]
      refine hQ2 _ _ _ ?_
      simp -implicitDefEqProofs -dsimp [L1]
      refine (callF 4 rfl hc (by simp [LL]) (by simp)).mono ?_
      rintro r H' ⟨rfl, rfl⟩
      simp -implicitDefEqProofs -dsimp [LL, encU, L1]
      refine lw_of (W_drawT tok mixed [5] [(1, [1]), (2, [1]), (3, [1]), (4, [1])] [] (by kernel_rfl) fun C K hC hK => ?_)
      simp -implicitDefEqProofs [encU, L1]
      refine hK _ _ ?_
      simp -implicitDefEqProofs -dsimp [encU, encH, L1]
      rw [hls, hvs]
      exact ⟨⟨rfl, rfl⟩, by omega⟩
end Go.Proofs.YtfaleabndlcanaaGreatDoor
