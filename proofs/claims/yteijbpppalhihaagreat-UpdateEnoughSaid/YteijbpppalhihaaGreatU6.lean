/- U6: cores; lists of cells that are right. -/
import Derived.Test.YteijbpppalhihaaGreatU5
set_option linter.unusedVariables false
set_option linter.unusedSimpArgs false
namespace Go.Proofs.YteijbpppalhihaaGreat
open Go Go.AM
theorem sub_erase {l : List Cr} {i : Nat} : ∀ c ∈ l.eraseIdx i, c ∈ l := fun _ h => List.mem_of_mem_eraseIdx h
theorem sorted_erase {l : List Cr} {i : Nat} (h : sortedC l) : sortedC (l.eraseIdx i) := List.Pairwise.sublist (List.eraseIdx_sublist l i) h
/-- A necessary list of which no cell can be left out. -/
structure IsCoreP (t : Tb) (fds : List Fd) (l : List Cr) : Prop where
  nec : Nec t fds l
  min : ∀ i, i < l.length → ¬ Nec t fds (l.eraseIdx i)
open Classical in
noncomputable def coreB (t : Tb) (fds : List Fd) (l : List Cr) : Bool := decide (IsCoreP t fds l)
theorem coreB_iff {t : Tb} {fds : List Fd} {l : List Cr} : coreB t fds l = true ↔ IsCoreP t fds l := by unfold coreB; simp
/-- The state of the search for a core. -/
structure CoreSt (t : Tb) (fds : List Fd) (fixed l : List Cr) (i : Nat) : Prop where
  le : i ≤ l.length
  sub : ∀ c ∈ l, c ∈ fixed
  sorted : sortedC l
  nec : Nec t fds l
  min : ∀ j, j < i → ¬ Nec t fds (l.eraseIdx j)
theorem CoreSt.drop {t : Tb} {fds : List Fd} {fixed l : List Cr} {i : Nat} (h : CoreSt t fds fixed l i) (hi : i < l.length) (hn : Nec t fds (l.eraseIdx i)) : CoreSt t fds fixed (l.eraseIdx i) i := by
  refine ⟨by rw [List.length_eraseIdx]; split <;> omega, fun c hc => h.sub c (sub_erase c hc), sorted_erase h.sorted, hn, fun j hj hc => h.min j hj (nec_mono (fun c hc => ?_) hc)⟩
  obtain ⟨k, hk, rfl⟩ := List.mem_iff_getElem.1 hc
  rw [List.mem_eraseIdx_iff_getElem] at *
  rw [List.getElem_eraseIdx]
  rw [List.length_eraseIdx] at hk
  rw [List.length_eraseIdx, if_pos hi] at hk
  have hj' : j < l.length - 1 := by omega
  rw [if_pos hj'] at hk
  split
  · rename_i h1
    rw [List.getElem_eraseIdx]
    split
    · exact ⟨k, by omega, by omega, rfl⟩
    · exact ⟨k + 1, by omega, by omega, rfl⟩
  · rename_i h1
    rw [List.getElem_eraseIdx]
    split
    · exact ⟨k + 1, by omega, by omega, rfl⟩
    · exact ⟨k + 1 + 1, by omega, by omega, rfl⟩
theorem CoreSt.keep {t : Tb} {fds : List Fd} {fixed l : List Cr} {i : Nat} (h : CoreSt t fds fixed l i) (hi : i < l.length) (hn : ¬ Nec t fds (l.eraseIdx i)) : CoreSt t fds fixed l (i + 1) := by
  refine ⟨hi, h.sub, h.sorted, h.nec, fun j hj => ?_⟩
  rcases Nat.lt_or_ge j i with h1 | h1
  · exact h.min j h1
  · have : j = i := by omega
    subst this
    exact hn
theorem CoreSt.done {t : Tb} {fds : List Fd} {fixed l : List Cr} (h : CoreSt t fds fixed l l.length) : IsCoreP t fds l := ⟨h.nec, h.min⟩
/- The error of a table, dependencies and a list of cells. -/
def fdOk (n : Nat) (d : Fd) : Bool := decide (d.l < 2 ^ n) && decide (d.r < 2 ^ n)
def fdsErr (n : Nat) (fds : List Fd) : Int := if 64 < fds.length then 3 else if fds.all (fdOk n) then 0 else 1
end Go.Proofs.YteijbpppalhihaaGreat
