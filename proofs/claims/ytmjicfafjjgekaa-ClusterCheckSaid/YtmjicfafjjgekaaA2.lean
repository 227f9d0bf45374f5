/- A2: between the kit's contracts and those of the abstract machine. -/
import Derived.Test.YtmjicfafjjgekaaA1
import Derived.Test.YtmjicfafjjgekaaW26
import Derived.Test.YtmjicfafjjgekaaW2
namespace Go.Proofs.Ytmjicfafjjgekaa
open Go Go.AM Go.Dr Go.RowKit

theorem rel_int {s : AM.St} {k : IntKind} {n : Int} {u : Value} (h : Rel s (.int k n) u) : u = .int k n := by cases h; rfl
theorem rows_of_rel {α : Type} (enc : α → V) (ns : α → List Int) (z : Nat) (hz0 : 0 < z) (hn : ∀ a, (ns a).length = z) (he : ∀ a, (enc a).cells = (ns a).map (V.int .i64)) {F : Nat → Prop} {w : World} {full : Bool} {l : List α} {u : Value}
    (h : Rel (base F w) (.lst z full (l.map enc)) u) : ∃ A cap, u = .slice A l.length cap ∧ RowAt w w.heap.size A (l.flatMap fun a => (ns a).map (Value.int .i64)) := by
  cases h with
  | lst _ _ _ A cap b off u hcap hfull hA hz hcell hrel =>
    refine ⟨A, cap, by simp, fun hpos => ?_⟩
    have hl : 0 < l.length := by
      cases l with
      | nil => simp at hpos
      | cons a l => simp
    obtain ⟨h1, h2⟩ := hA (by simpa using hl)
    refine ⟨b, off, h1, h2.1, fun i v hv => ?_⟩
    have hfl := flat_at (fun a => (ns a).map (Value.int .i64)) z (fun a => by simp [hn]) l (i / z) (i % z) (Nat.mod_lt _ hz0)
    rw [Nat.mul_comm, Nat.div_add_mod, hv] at hfl
    cases ha : l[i / z]? with
    | none => rw [ha] at hfl; cases hfl
    | some a =>
      rw [ha] at hfl
      simp only [Option.bind_some, List.getElem?_map] at hfl
      cases hm : (ns a)[i % z]? with
      | none => rw [hm] at hfl; cases hfl
      | some m =>
        rw [hm] at hfl
        simp only [Option.map_some] at hfl
        cases hfl
        have hx : (l.map enc)[i / z]? = some (enc a) := by simp [ha]
        have hc : (enc a).cells[i % z]? = some (V.int .i64 m) := by rw [he]; simp [hm]
        have g1 := hcell (i / z) (enc a) (i % z) _ hx hc
        have g2 := hrel (i / z) (enc a) (i % z) _ hx hc
        have e : off + i / z * z + i % z = off + i := by rw [Nat.add_assoc, Nat.mul_comm, Nat.div_add_mod]
        rw [e] at g1
        have g3 : u (i / z) (i % z) = .int .i64 m := rel_int g2
        rw [g3] at g1
        exact g1
theorem rel_of_rows {α : Type} (enc : α → V) (ns : α → List Int) (z : Nat) (hz0 : 0 < z) (hn : ∀ a, (ns a).length = z) (he : ∀ a, (enc a).cells = (ns a).map (V.int .i64)) {w : World} {l : List α} {A : Option Addr} {B cap : Nat} (hB : B ≤ w.heap.size)
    (hc : l.length ≤ cap) (h : RowAt w B A (l.flatMap fun a => (ns a).map (Value.int .i64))) : Rel (base (fun _ => False) w) (.lst z false (l.map enc)) (.slice A l.length cap) := by
  have hlen := flat_len (fun a => (ns a).map (Value.int .i64)) z (fun a => by simp [hn]) l
  have hex : ∃ b off, 0 < l.length → A = some ⟨b, off, none⟩ ∧ b < w.heap.size ∧ ∀ i v, (l.flatMap fun a => (ns a).map (Value.int .i64))[i]? = some v → w.cell? ⟨b, off + i, none⟩ = some v := by
    by_cases h0 : 0 < l.length
    · obtain ⟨b, off, h1, h2, h3⟩ := h (by rw [hlen]; exact Nat.mul_pos h0 hz0)
      exact ⟨b, off, fun _ => ⟨h1, by omega, h3⟩⟩
    · exact ⟨0, 0, fun h => absurd h h0⟩
  obtain ⟨b, off, hx⟩ := hex
  have hget : ∀ (i : Nat) (x : V) (j : Nat) (c : V), (l.map enc)[i]? = some x → x.cells[j]? = some c → ∃ a m, l[i]? = some a ∧ (ns a)[j]? = some m ∧ c = .int .i64 m := fun i x j c h1 h2 => by
    simp only [List.getElem?_map, Option.map_eq_some_iff] at h1
    obtain ⟨a, ha, rfl⟩ := h1
    rw [he] at h2
    simp only [List.getElem?_map, Option.map_eq_some_iff] at h2
    obtain ⟨m, hm, rfl⟩ := h2
    exact ⟨a, m, ha, hm, rfl⟩
  have := Rel.lst (s := base (fun _ => False) w) z false (l.map enc) A cap b off (fun i j => ((l[i]?.bind fun a => (ns a)[j]?).map (Value.int .i64)).getD undef) (by simpa using hc) (fun h => by cases h)
    (fun h0 => ⟨(hx (by simpa using h0)).1, (hx (by simpa using h0)).2.1, fun h => h, fun k hk => by simp [base] at hk⟩)
    (fun x hx => by
      obtain ⟨a, _, rfl⟩ := List.mem_map.1 hx
      rw [he]
      exact ⟨by simp [hn], fun c hc => by obtain ⟨m, _, rfl⟩ := List.mem_map.1 hc; rfl⟩)
    (fun i x j c h1 h2 => by
      obtain ⟨a, m, ha, hm, rfl⟩ := hget i x j c h1 h2
      have hj : j < z := by have := getElem?_lt hm; rw [hn] at this; exact this
      have h0 : 0 < l.length := by have := getElem?_lt ha; omega
      have := (hx h0).2.2 (i * z + j) (.int .i64 m) (by rw [flat_at (fun a => (ns a).map (Value.int .i64)) z (fun a => by simp [hn]) l i j hj, ha]; simp [hm])
      rw [← Nat.add_assoc] at this
      simp only [base, ha, Option.bind_some, hm, Option.map_some, Option.getD_some]
      exact this)
    (fun i x j c h1 h2 => by
      obtain ⟨a, m, ha, hm, rfl⟩ := hget i x j c h1 h2
      simp only [ha, Option.bind_some, hm, Option.map_some, Option.getD_some]
      exact .int _ _)
  simpa using this

theorem pairs_of_rel {F : Nat → Prop} {w : World} {full : Bool} {ps : List P3} {u : Value} (h : Rel (base F w) (.lst 3 full (ps.map encP)) u) : ∃ A cap, u = .slice A ps.length cap ∧ PairsAt w w.heap.size A ps :=
  rows_of_rel encP (fun p => [p.i, p.k, p.x]) 3 (by omega) (fun _ => rfl) (fun _ => rfl) h
theorem rel_of_pairs {w : World} {ps : List P3} {A : Option Addr} {B cap : Nat} (hB : B ≤ w.heap.size) (hc : ps.length ≤ cap) (h : PairsAt w B A ps) : Rel (base (fun _ => False) w) (.lst 3 false (ps.map encP)) (.slice A ps.length cap) :=
  rel_of_rows encP (fun p => [p.i, p.k, p.x]) 3 (by omega) (fun _ => rfl) (fun _ => rfl) hB hc h
theorem rel_of_tris {w : World} {ts : List T4} {A : Option Addr} {B cap : Nat} (hB : B ≤ w.heap.size) (hc : ts.length ≤ cap) (h : TrisAt w B A ts) : Rel (base (fun _ => False) w) (.lst 4 false (ts.map encT)) (.slice A ts.length cap) :=
  rel_of_rows encT (fun t => [t.i, t.j, t.k, t.a]) 4 (by omega) (fun _ => rfl) (fun _ => rfl) hB hc h

theorem valid_con (n : Int) (ps : List P3) (full : Bool) (hl : ps.length ≤ 100000) : ConP Try.prog 14 [.int .i64 n, .lst 3 full (ps.map encP)] fun r => r = .int .i64 (valid n ps) := by
  refine ⟨⟨Try.f14, Try.func14, rfl, rfl⟩, fun F w vals hF hsz hrel => ?_⟩
  obtain ⟨v0, v1, rfl⟩ : ∃ v0 v1, vals = #[v0, v1] := by
    obtain ⟨l⟩ := vals
    match l, hsz with
    | [a, b], _ => exact ⟨a, b, rfl⟩
  obtain rfl := rel_int (hrel 0 _ v0 rfl rfl)
  obtain ⟨A, cap, rfl, hp⟩ := pairs_of_rel (hrel 1 _ v1 rfl rfl)
  refine (rvalid_any n A cap ps w.heap.size w (Nat.le_refl _) hl hp).mono fun e w' ⟨h1, h2⟩ => ⟨_, _, h1, .int _ _, .int _ _, h2, rfl⟩
theorem bad_con (ps : List P3) (full : Bool) (i j k : Int) (hl : ps.length ≤ 100000) : ConP Try.prog 41 [.lst 3 full (ps.map encP), .int .i64 i, .int .i64 j, .int .i64 k] fun r => r = .bool (rbad ps i j k) := by
  refine ⟨⟨Try.f41, Try.func41, rfl, rfl⟩, fun F w vals hF hsz hrel => ?_⟩
  obtain ⟨v0, v1, v2, v3, rfl⟩ : ∃ v0 v1 v2 v3, vals = #[v0, v1, v2, v3] := by
    obtain ⟨l⟩ := vals
    match l, hsz with
    | [a, b, c, d], _ => exact ⟨a, b, c, d, rfl⟩
  obtain ⟨A, cap, rfl, hp⟩ := pairs_of_rel (hrel 0 _ v0 rfl rfl)
  obtain rfl := rel_int (hrel 1 _ v1 rfl rfl)
  obtain rfl := rel_int (hrel 2 _ v2 rfl rfl)
  obtain rfl := rel_int (hrel 3 _ v3 rfl rfl)
  refine (rbad_any A cap ps w.heap.size i j k w hl hp).mono fun e w' ⟨h1, h2⟩ => ⟨_, _, h1, .bool _, .bool _, by subst h2; exact Below.refl _ _, rfl⟩
end Go.Proofs.Ytmjicfafjjgekaa
