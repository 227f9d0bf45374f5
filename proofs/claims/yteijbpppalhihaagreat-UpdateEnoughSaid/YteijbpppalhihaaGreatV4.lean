/- V4: the program's forest: join, agree. Expanded by pp.py. -/
import Derived.Test.YteijbpppalhihaaGreatV3
set_option linter.unusedVariables false
set_option linter.unusedSimpArgs false
set_option maxRecDepth 100000
namespace Go.Proofs.YteijbpppalhihaaGreat
open Go Go.AM
/-- What join has done. -/
def JoinPost (q : Prob) (P : List Nat) (r : Nat → Nat) (x y : Nat) (b : Bool) (P' : List Nat) : Prop :=
  (b = false ∧ ¬ Okq q) ∨ (b = true ∧ eqv q r x y ∧ P' = P) ∨ (b = true ∧ cntR P' < cntR P ∧ ∃ r' h', Frt q P' r' h')
theorem join_vals {q : Prob} {P : List Nat} {r h : Nat → Nat} (f : Frt q P r h) {x y : Nat} (hx : x < q.m * q.n) (hy : y < q.m * q.n) (hs : ∀ σ, Sol q σ → σ x = σ y) {v w : Vl} (h1 : q.K (r x) = some v) (h2 : q.K (r y) = some w) : JoinPost q P r x y (cmpV v w == 0) P := by
  by_cases he : v = w
  · refine .inr (.inl ⟨by rw [beq_iff_eq, cmpV_zero]; exact he, ?_, rfl⟩)
    subst he; exact .inr ⟨v, h1, h2⟩
  · refine .inl ⟨by rw [beq_eq_false_iff_ne]; exact fun h => he ((cmpV_zero v w).1 h), ?_⟩
    rintro ⟨σ, hσ⟩
    have e := hs σ hσ
    rw [f.sem σ hσ x hx, f.sem σ hσ y hy, hσ.fix _ v (f.lt x hx) h1, hσ.fix _ w (f.lt y hy) h2] at e
    exact he (Sum.inl.inj e)
theorem join_set {q : Prob} {P : List Nat} {r h : Nat → Nat} (f : Frt q P r h) {x y i k : Nat} (hx : x < q.m * q.n) (hy : y < q.m * q.n) (hs : ∀ σ, Sol q σ → σ x = σ y) (hik : (i = r x ∧ k = r y) ∨ (i = r y ∧ k = r x)) (hK : q.K k = none) : JoinPost q P r x y true (P.set k i) := by
  have hi : i < q.m * q.n := by rcases hik with ⟨rfl, _⟩ | ⟨rfl, _⟩; exact f.lt x hx; exact f.lt y hy
  have hk : k < q.m * q.n := by rcases hik with ⟨_, rfl⟩ | ⟨_, rfl⟩; exact f.lt y hy; exact f.lt x hx
  have rr : ∀ z, z < q.m * q.n → r (r z) = r z := fun z hz => f.self (r z) (f.lt z hz) (f.root z hz)
  have hri : r i = i := by rcases hik with ⟨rfl, _⟩ | ⟨rfl, _⟩; exact rr x hx; exact rr y hy
  have hrk : r k = k := by rcases hik with ⟨_, rfl⟩ | ⟨_, rfl⟩; exact rr y hy; exact rr x hx
  have hpk : P.getD k 0 = k := by have := f.root k hk; rwa [hrk] at this
  have hkl : k < P.length := by rw [f.len]; exact hk
  by_cases he : i = k
  · refine .inr (.inl ⟨rfl, ?_, ?_⟩)
    · rcases hik with ⟨h1, h2⟩ | ⟨h1, h2⟩
      · exact .inl (by omega)
      · exact .inl (by omega)
    · subst he
      have : P[i] = i := by simpa [hkl] using hpk
      conv => rhs; rw [← List.set_getElem_self hkl]
      rw [this]
  · refine .inr (.inr ⟨rfl, cntR_join hkl hpk he, _, _, f.join hi hk hri hrk he hK fun σ hσ => ?_⟩)
    have e := hs σ hσ
    rw [f.sem σ hσ x hx, f.sem σ hσ y hy] at e
    rcases hik with ⟨rfl, rfl⟩ | ⟨rfl, rfl⟩
    · exact e
    · exact e.symm
def joinB (q : Prob) (r : Nat → Nat) (x y : Nat) : Bool := match q.K (r x), q.K (r y) with
  | some v, some w => cmpV v w == 0
  | _, _ => true
def joinP (q : Prob) (P : List Nat) (r : Nat → Nat) (x y : Nat) : List Nat := match q.K (r x), q.K (r y) with
  | some _, some _ => P
  | some _, none => P.set (r y) (r x)
  | none, _ => P.set (r x) (r y)
theorem join_post {q : Prob} {P : List Nat} {r h : Nat → Nat} (f : Frt q P r h) {x y : Nat} (hx : x < q.m * q.n) (hy : y < q.m * q.n) (hs : ∀ σ, Sol q σ → σ x = σ y) : JoinPost q P r x y (joinB q r x y) (joinP q P r x y) := by
  unfold joinB joinP
  cases hk1 : q.K (r x) with
  | none => exact join_set f hx hy hs (.inr ⟨rfl, rfl⟩) hk1
  | some v =>
    cases hk2 : q.K (r y) with
    | none => exact join_set f hx hy hs (.inl ⟨rfl, rfl⟩) hk2
    | some w => exact join_vals f hx hy hs hk1 hk2
set_option maxHeartbeats 16000000 in
theorem join_u {q : Prob} {P : List Nat} {r h : Nat → Nat} (f : Frt q P r h) {H : List B} {k0 kp kq n N : Nat} (hNe : q.m * q.n = N) (g : HOk H k0 kp kq n N q.K) (hN : N ≤ 1000000) (x y : Nat) (hx : x < N) (hy : y < N) :
    ConH Tryz.prog 95 [.ptr k0 0, .int .i64 x, .int .i64 y] (Ht H kp P) fun r' H' => r' = .bool (joinB q r x y) ∧ H' = Ht H kp (joinP q P r x y) := by
  have h0 := g.at0 P
  have h1 := g.atp P
  have h2 := g.atq P
  have hset := ht_set (H := H) (kp := kp) P
  have hkl := knL_len q.K N
  have c1 := root_u f hNe g hN x hx
  have c2 := root_u f hNe g hN y hy
  have lx : r x < N := hNe ▸ f.lt x (hNe ▸ hx)
  have ly : r y < N := hNe ▸ f.lt y (hNe ▸ hy)
  have ax := fun h => knL_get q.K (N := N) (x := r x) h
  have ay := fun h => knL_get q.K (N := N) (x := r y) h
  have hpl : (paL P).length = N := by rw [paL_len, f.len, hNe]
  have bx := fun h => paL_get (P := P) (x := r x) h
  have bY := fun h => paL_get (P := P) (x := r y) h
  have sx := paL_set P (r x) (r y)
  have sy := paL_set P (r y) (r x)
  unfold joinB joinP
  cases hk1 : q.K (r x) with
  | none =>
    rw [hk1] at ax
    refine conH_of_W tok Tryz.func95 rfl rfl ?_
    refine W_x tok mixed ?_
    simp -implicitDefEqProofs -dsimp [Tryz.f95, List.replicate]
    refine WCall.mono (K := fun r' H' => r' = .int .i64 (r x) ∧ H' = Ht H kp P) c1 ?_
    rintro _ _ ⟨rfl, rfl⟩
    simp -implicitDefEqProofs -dsimp []
    refine WCall.mono (K := fun r' H' => r' = .int .i64 (r y) ∧ H' = Ht H kp P) c2 ?_
    rintro _ _ ⟨rfl, rfl⟩
    simp -implicitDefEqProofs -dsimp [h0, h2, ax, hkl, lx, encK, eqA2, h1, hpl, bx, sx, hset]
  | some v =>
    rw [hk1] at ax
    cases hk2 : q.K (r y) with
    | none =>
      rw [hk2] at ay
      refine conH_of_W tok Tryz.func95 rfl rfl ?_
      refine W_x tok mixed ?_
      simp -implicitDefEqProofs -dsimp [Tryz.f95, List.replicate]
      refine WCall.mono (K := fun r' H' => r' = .int .i64 (r x) ∧ H' = Ht H kp P) c1 ?_
      rintro _ _ ⟨rfl, rfl⟩
      simp -implicitDefEqProofs -dsimp []
      refine WCall.mono (K := fun r' H' => r' = .int .i64 (r y) ∧ H' = Ht H kp P) c2 ?_
      rintro _ _ ⟨rfl, rfl⟩
      simp -implicitDefEqProofs -dsimp [h0, h2, ax, ay, hkl, lx, ly, encK, eqA2, h1, hpl, bY, sy, hset]
    | some w =>
      rw [hk2] at ay
      have c3 := valueCompare v w
      simp only [encV] at c3
      refine conH_of_W tok Tryz.func95 rfl rfl ?_
      refine W_x tok mixed ?_
      simp -implicitDefEqProofs -dsimp [Tryz.f95, List.replicate]
      refine WCall.mono (K := fun r' H' => r' = .int .i64 (r x) ∧ H' = Ht H kp P) c1 ?_
      rintro _ _ ⟨rfl, rfl⟩
      simp -implicitDefEqProofs -dsimp []
      refine WCall.mono (K := fun r' H' => r' = .int .i64 (r y) ∧ H' = Ht H kp P) c2 ?_
      rintro _ _ ⟨rfl, rfl⟩
      simp -implicitDefEqProofs -dsimp [h0, h2, ax, ay, hkl, lx, ly, encK, eqA2]
      refine .inr ⟨stop_of (by kernel_rfl), ?_⟩
      refine cy_of _ (callP (c3) (by simp)) ?_
      simp -implicitDefEqProofs -dsimp []
end Go.Proofs.YteijbpppalhihaaGreat
