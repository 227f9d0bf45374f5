/- W25: the walk of drossref54.Lists, at two lists that read alike. -/
import Derived.Test.YtmjicfafjjgekaaW19
namespace Go.Proofs.Ytmjicfafjjgekaa
open Go.RowKit Go.Dr

theorem RLL.drewN' {w : World} {B : Nat} {A : Option Addr} {xss : List (List Int)} (h : RLL w B A xss) (q : Nat) : RLL (w.drewN q) B A xss := RLL.drewN h q

set_option maxRecDepth 100000 in
set_option maxHeartbeats 2000000 in
theorem lists_true (A A2 : Option Addr) (c c2 : Nat) (xss : List (List Int)) (B B2 : Nat) (w : World) (hl : xss.length ≤ 100000) (hin : ∀ (j : Nat) (xs : List Int), xss[j]? = some xs → xs.length ≤ 100000)
    (h1 : RLL w B A xss) (h2 : RLL w B2 A2 xss) :
    Calls Try.prog 31 #[.slice A xss.length c, .slice A2 xss.length c2] w fun e w' => e = .returned (.bool true) ∧ ∃ q, w' = w.drewN q := by
  have H1 := Lib.hid h1
  have H2 := Lib.hid h2
  have Hin := Lib.hid hin
  clear h1 h2 hin
  have hne : ((xss.length : Int) != (xss.length : Int)) = false := by simp
  go_enter Try.func31, Try.ntmps31
  go_wp2_with fail
  go_loopw [5] (fun ii wr => ∃ i q : Nat, i ≤ xss.length ∧ ii = .int .i64 i ∧ wr = w.drewN q) (fun ii _ => xss.length - (intOf ii).toNat)
  case atStart => exact ⟨0, 0, Nat.zero_le _, rfl, rfl⟩
  case round =>
    obtain ⟨i, q, hi, rfl, rfl⟩ := hrel
    by_cases hlt : i < xss.length
    · obtain ⟨xs, hxs⟩ : ∃ xs, xss[i]? = some xs := ⟨_, List.getElem?_eq_getElem hlt⟩
      have hxl := Hin.out i xs hxs
      obtain ⟨b, off, A', c', rfl, hbb, d1, r1, _⟩ := H1.out.at_ hxs
      obtain ⟨b2, off2, A2', c2', rfl, hbb2, d2, r2, _⟩ := H2.out.at_ hxs
      have R1 := Lib.hid r1
      have R2 := Lib.hid r2
      clear r1 r2 hxs
      have hi0 : (0 : Int) ≤ (i : Int) := by omega
      have hi1 : (i : Int) < (xss.length : Int) := by omega
      have hne2 : ((xs.length : Int) != (xs.length : Int)) = false := by simp
      go_wp2_with fail
      go_quiet (fail)
      go_wp2_with fail
      go_loopw [6] (fun kk wr => ∃ k q : Nat, k ≤ xs.length ∧ kk = .int .i64 k ∧ wr = w.drewN q) (fun kk _ => xs.length - (intOf kk).toNat)
      case atStart => exact ⟨0, q + nq, Nat.zero_le _, rfl, by simp⟩
      case round =>
        obtain ⟨k, q2, hk, rfl, rfl⟩ := hrel
        by_cases hkl : k < xs.length
        · obtain ⟨x, hx⟩ : ∃ x, xs[k]? = some x := ⟨_, List.getElem?_eq_getElem hkl⟩
          obtain ⟨b3, off3, rfl, hb3, d3⟩ := R1.out.at1 (k := k) (u := .int .i64 x) (by simp [hx])
          obtain ⟨b4, off4, rfl, hb4, d4⟩ := R2.out.at1 (k := k) (u := .int .i64 x) (by simp [hx])
          have hk0 : (0 : Int) ≤ (k : Int) := by omega
          have hk1 : (k : Int) < (xs.length : Int) := by omega
          have hxx : (x != x) = false := by simp
          clear hx
          go_wp2_with fail
          go_quiet (fail)
          go_wp2_with fail
          go_roundw
          case rel => exact ⟨k + 1, _, by omega, by go_num, rfl⟩
          case measure => simp [intOf]; omega
        · go_wp2_with fail
          go_roundw
          case rel => exact ⟨i + 1, _, by omega, by go_num, rfl⟩
          case measure => simp [intOf]; omega
    · go_wp2_with fail
      go_ret
      exact ⟨rfl, q, rfl⟩
end Go.Proofs.Ytmjicfafjjgekaa
