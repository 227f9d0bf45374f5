/- W26: walks of drossref54.Bad, in and Room. -/
import Derived.Test.YtmjicfafjjgekaaPlain3
import Derived.Deep.RegionHeld3
namespace Go.Proofs.Ytmjicfafjjgekaa
open Go.RowKit Go.Dr

abbrev TrisAt (w : World) (B : Nat) (A : Option Addr) (ts : List T4) : Prop := RowAt w B A (ts.flatMap tc)
theorem tris_at {w : World} {B : Nat} {A : Option Addr} {ts : List T4} (h : TrisAt w B A ts) {k : Nat} (hk : k < ts.length) :
    ∃ b off t, A = some ⟨b, off, none⟩ ∧ b < B ∧ ts[k]? = some t ∧ w.cell? ⟨b, off + k * 4, none⟩ = some (.int .i64 t.i) ∧ w.cell? ⟨b, off + k * 4 + 1, none⟩ = some (.int .i64 t.j) ∧
    w.cell? ⟨b, off + k * 4 + 2, none⟩ = some (.int .i64 t.k) ∧ w.cell? ⟨b, off + k * 4 + 3, none⟩ = some (.int .i64 t.a) := by
  have e : ts[k]? = some ts[k] := by simp [hk]
  obtain ⟨b, off, h1, h2, h3⟩ := h (by rw [flat_len tc 4 tc_len]; omega)
  refine ⟨b, off, ts[k], h1, h2, e, ?_, ?_, ?_, ?_⟩
  · exact h3 (k * 4) _ (by have := flat_at tc 4 tc_len ts k 0 (by omega); rw [e] at this; exact this)
  · exact h3 (k * 4 + 1) _ (by rw [flat_at tc 4 tc_len ts k 1 (by omega), e]; rfl)
  · exact h3 (k * 4 + 2) _ (by rw [flat_at tc 4 tc_len ts k 2 (by omega), e]; rfl)
  · exact h3 (k * 4 + 3) _ (by rw [flat_at tc 4 tc_len ts k 3 (by omega), e]; rfl)

theorem tri (a : Int) : (0 < a ∧ Hid (decide (0 < a) = true ∧ decide (a < 0) = false)) ∨ (a < 0 ∧ Hid (decide (0 < a) = false ∧ decide (a < 0) = true)) ∨ ((0 ≤ a ∧ a ≤ 0) ∧ Hid (decide (0 < a) = false ∧ decide (a < 0) = false)) := by
  rcases Int.lt_trichotomy a 0 with h | h | h
  · exact .inr (.inl ⟨h, Lib.hid (by simp; omega)⟩)
  · exact .inr (.inr ⟨by omega, Lib.hid (by simp; omega)⟩)
  · exact .inl ⟨h, Lib.hid (by simp; omega)⟩
set_option maxRecDepth 100000 in
set_option maxHeartbeats 4000000 in
theorem rbad_any (A : Option Addr) (cap : Nat) (ps : List P3) (B : Nat) (i j k : Int) (w : World) (hl : ps.length ≤ 100000) (hp : PairsAt w B A ps) :
    Calls Try.prog 41 #[.slice A ps.length cap, .int .i64 i, .int .i64 j, .int .i64 k] w fun e w' => e = .returned (.bool (rbad ps i j k)) ∧ w = w' := by
  have h1 := weight_any A cap ps B i j w hl hp
  have h2 := weight_any A cap ps B i k w hl hp
  have h3 := weight_any A cap ps B j k w hl hp
  unfold rbad
  generalize (weight ps i j).getD 0 = a at *
  generalize (weight ps i k).getD 0 = b at *
  generalize (weight ps j k).getD 0 = c at *
  generalize (weight ps i j).isSome = x at *
  generalize (weight ps i k).isSome = y at *
  generalize (weight ps j k).isSome = z at *
  have H1 := Lib.hid h1
  have H2 := Lib.hid h2
  have H3 := Lib.hid h3
  clear h1 h2 h3 hp
  cases x
  case false =>
    go_enter Try.func41, Try.ntmps41
    go_wp2_with fail
    refine H1.out.mono ?_
    rintro e w' ⟨rfl, rfl⟩
    go_wp2_with fail
    refine H2.out.mono ?_
    rintro e w' ⟨rfl, rfl⟩
    go_wp2_with fail
    refine H3.out.mono ?_
    rintro e w' ⟨rfl, rfl⟩
    go_wp2_with fail
    go_ret
    exact ⟨rfl, rfl⟩
  cases y
  case false =>
    go_enter Try.func41, Try.ntmps41
    go_wp2_with fail
    refine H1.out.mono ?_
    rintro e w' ⟨rfl, rfl⟩
    go_wp2_with fail
    refine H2.out.mono ?_
    rintro e w' ⟨rfl, rfl⟩
    go_wp2_with fail
    refine H3.out.mono ?_
    rintro e w' ⟨rfl, rfl⟩
    go_wp2_with fail
    go_ret
    exact ⟨rfl, rfl⟩
  cases z
  case false =>
    go_enter Try.func41, Try.ntmps41
    go_wp2_with fail
    refine H1.out.mono ?_
    rintro e w' ⟨rfl, rfl⟩
    go_wp2_with fail
    refine H2.out.mono ?_
    rintro e w' ⟨rfl, rfl⟩
    go_wp2_with fail
    refine H3.out.mono ?_
    rintro e w' ⟨rfl, rfl⟩
    go_wp2_with fail
    go_ret
    exact ⟨rfl, rfl⟩
  rcases tri a with ⟨ha, HA⟩ | ⟨ha, HA⟩ | ⟨⟨ha, ha'⟩, HA⟩ <;> rcases tri b with ⟨hb, HB⟩ | ⟨hb, HB⟩ | ⟨⟨hb, hb'⟩, HB⟩ <;> rcases tri c with ⟨hc, HC⟩ | ⟨hc, HC⟩ | ⟨⟨hc, hc'⟩, HC⟩
  all_goals
    as_aux_lemma =>
      go_enter Try.func41, Try.ntmps41
      go_wp2_with fail
      refine H1.out.mono ?_
      rintro e w' ⟨rfl, rfl⟩
      go_wp2_with fail
      refine H2.out.mono ?_
      rintro e w' ⟨rfl, rfl⟩
      go_wp2_with fail
      refine H3.out.mono ?_
      rintro e w' ⟨rfl, rfl⟩
      go_wp2_with fail
      go_ret
      exact ⟨ret_bool (by simp [badW, HA.out.1, HA.out.2, HB.out.1, HB.out.2, HC.out.1, HC.out.2]), rfl⟩
end Go.Proofs.Ytmjicfafjjgekaa
