/- JF2: Z1, joined by chunk.py. -/
import Derived.Test.YteijbpppalhihaaGreatJF1
set_option linter.unusedVariables false
set_option linter.unusedSimpArgs false
section
/- Z1: the program's Fill. Expanded by pp.py. -/
set_option linter.unusedSimpArgs false
set_option maxRecDepth 100000
namespace Go.Proofs.YteijbpppalhihaaGreat
open Go Go.AM
theorem root_at {q : Prob} {P : List Nat} {r h : Nat → Nat} (f : Frt q P r h) {H : List B} {n N : Nat} (hNe : q.m * q.n = N) (hN : N ≤ 1000000) (h3 : H[3]? = some (.cells [.int .i64 n, .buf 4 0 N N, .buf 5 0 N N])) (h4 : H[4]? = some (.buf 3 1 (paL P) false)) (h5 : H[5]? = some (.buf 113 1 (knL q.K N) false)) (hrb : ∀ bl ∈ H, rbB H.length bl) (x : Nat) (hx : x < N) :
    ConH Tryz.prog 54 [.ptr 3 0, .int .i64 x] H fun r' H' => r' = .int .i64 (r x) ∧ H' = H := by
  have hl := getElem?_lt h4
  have hset : ∀ P', ∀ bl ∈ Ht H 4 P', rbB H.length bl := fun P' bl hbl => by
    unfold Ht at hbl
    rcases List.mem_or_eq_of_mem_set hbl with e | e
    · exact hrb bl e
    · subst e; simp
  have g : HOk H 3 4 5 n N q.K := ⟨h3, hl, h5, by omega, by omega, hset⟩
  have hsame : Ht H 4 P = H := by
    unfold Ht
    apply List.ext_getElem?
    intro k
    by_cases hk : 4 = k
    · subst hk; rw [List.getElem?_set_self hl, h4]
    · rw [List.getElem?_set_ne hk]
  have := root_u f hNe g hN x hx
  rw [hsame] at this
  exact this
/-- The numbers of the unknown values of the first x cells. -/
def usTo (t : Tb) : Nat → List Int
  | 0 => []
  | x + 1 => if (vlAt t x).k = 3 then addK (usTo t x) (vlAt t x).n else usTo t x
theorem usTo_yes {t : Tb} {x : Nat} (h : (vlAt t x).k = 3) : usTo t (x + 1) = addK (usTo t x) (vlAt t x).n := by rw [usTo, if_pos h]
theorem usTo_no {t : Tb} {x : Nat} (h : ¬ (vlAt t x).k = 3) : usTo t (x + 1) = usTo t x := by rw [usTo, if_neg h]
theorem usTo_mem (t : Tb) (k : Int) : ∀ x, k ∈ usTo t x ↔ ∃ y, y < x ∧ (vlAt t y).k = 3 ∧ (vlAt t y).n = k
  | 0 => by simp [usTo]
  | x + 1 => by
    have ih := usTo_mem t k x
    by_cases h : (vlAt t x).k = 3
    · rw [usTo_yes h, addK_mem, ih]
      constructor
      · rintro (⟨y, h1, h2, h3⟩ | h1)
        · exact ⟨y, by omega, h2, h3⟩
        · exact ⟨x, by omega, h, h1.symm⟩
      · rintro ⟨y, h1, h2, h3⟩
        rcases Nat.lt_or_ge y x with h4 | h4
        · exact .inl ⟨y, h4, h2, h3⟩
        · have : y = x := by omega
          subst this; exact .inr h3.symm
    · rw [usTo_no h, ih]
      constructor
      · rintro ⟨y, h1, h2, h3⟩; exact ⟨y, by omega, h2, h3⟩
      · rintro ⟨y, h1, h2, h3⟩
        rcases Nat.lt_or_ge y x with h4 | h4
        · exact ⟨y, h4, h2, h3⟩
        · have : y = x := by omega
          subst this; exact absurd h2 h
theorem unkT_iff {t : Tb} {k : Int} : unkT t k = true ↔ ∃ y, y < t.rows.length * t.attrs.length ∧ (vlAt t y).k = 3 ∧ (vlAt t y).n = k := by
  unfold unkT
  simp [List.any_eq_true]
theorem usTo_all (t : Tb) (k : Int) : memB (usTo t (t.rows.length * t.attrs.length)) k = unkT t k := by
  rw [Bool.eq_iff_iff, memB_iff, usTo_mem, unkT_iff]
/-- The numbers of a table are small. -/
def TbN (t : Tb) : Prop := ∀ y, y < t.rows.length * t.attrs.length → (vlAt t y).n ≤ 1000000
theorem TbN.bnd {t : Tb} (h : TbN t) : Bnd (unkT t) 1000000 := fun k hk => by
  obtain ⟨y, h1, _, h3⟩ := unkT_iff.1 hk
  have := h y h1
  omega
def encBT : Int → V := fun _ => .bool true
noncomputable def encNM (u : Int → Bool) (c : Nat → Dm) : Int → V := fun k => .agg [.int .i64 3, .int .i64 (cls u c k.toNat), .str ByteArray.empty]
@[simp ↓ high] theorem rb_BT (n : Nat) (kk : KK) (us : List Int) : rbB n (.map kk (mF encBT us)) ↔ True := rbB_mF (fun _ _ => by simp [encBT]) n kk us
@[simp ↓ high] theorem rb_NM (n : Nat) (kk : KK) (u : Int → Bool) (c : Nat → Dm) (us : List Int) : rbB n (.map kk (mF (encNM u c) us)) ↔ True := rbB_mF (fun _ _ => by simp [encNM]) n kk us
def toI (l : List Nat) : List Int := l.map fun (x : Nat) => (x : Int)
theorem toI_snoc (l : List Nat) (x : Nat) : toI (l ++ [x]) = toI l ++ [(x : Int)] := by simp [toI]
theorem toI_mem {l : List Nat} {x : Nat} : memB (toI l) (x : Int) = true ↔ x ∈ l := by
  rw [memB_iff]; unfold toI
  constructor
  · intro h
    obtain ⟨y, hy, he⟩ := List.mem_map.1 h
    have : y = x := by omega
    rw [← this]; exact hy
  · intro h; exact List.mem_map.2 ⟨x, h, rfl⟩
theorem toI_no {l : List Nat} {x : Nat} (h : ¬ x ∈ l) : memB (toI l) (x : Int) = false := by
  cases hb : memB (toI l) (x : Int)
  · rfl
  · exact absurd (toI_mem.1 hb) h
noncomputable def vlTo (u : Int → Bool) (c : Nat → Dm) (b a : Nat) : List Vl := (List.range a).map fun k => outV u c (b + k)
theorem vlTo_succ (u : Int → Bool) (c : Nat → Dm) (b a : Nat) : vlTo u c b (a + 1) = vlTo u c b a ++ [outV u c (b + a)] := by simp [vlTo, List.range_succ]
theorem vlTo_len (u : Int → Bool) (c : Nat → Dm) (b a : Nat) : (vlTo u c b a).length = a := by simp [vlTo]
noncomputable def rwTo (t : Tb) (c : Nat → Dm) (i : Nat) : List Rw := (List.range i).map (filRow t c)
theorem rwTo_succ (t : Tb) (c : Nat → Dm) (i : Nat) : rwTo t c (i + 1) = rwTo t c i ++ [filRow t c i] := by simp [rwTo, List.range_succ]
theorem rwTo_len (t : Tb) (c : Nat → Dm) (i : Nat) : (rwTo t c i).length = i := by simp [rwTo]
theorem filRow_eq (t : Tb) (c : Nat → Dm) (i : Nat) : filRow t c i = ⟨(rwAt t i).id, vlTo (unkT t) c (i * t.attrs.length) t.attrs.length⟩ := rfl
def zeroT : V := .agg [.str ByteArray.empty, .nilS, .nilS]
noncomputable def FillR (t : Tb) (fds : List Fd) (l : List Cr) : V := if chkE t fds l = 0 then (if okB (probT t fds l) then .tup [encTb false false (filTb t fds l), .int .i64 0] else .tup [zeroT, .int .i64 15]) else .tup [zeroT, .int .i64 (chkE t fds l)]
theorem fill_at {t : Tb} {fds : List Fd} {l : List Cr} (hv : TbV t) (hF : FdsOk fds) {H1 : List B} (g : HOk H1 3 4 5 t.attrs.length (t.rows.length * t.attrs.length) (probT t fds l).K) (hht : Ht H1 4 (List.range (t.rows.length * t.attrs.length)) = H1) (df : Bool) :
    ConH Tryz.prog 52 [.ptr 3 0, .int .i64 t.rows.length, LF df fds] H1 fun r' H' => ∃ P G, r' = .bool (okB (probT t fds l)) ∧ H' = Ht H1 4 P ++ G ∧ (okB (probT t fds l) = true → G = [] ∧ Fr (probT t fds l) P ∧ Closed (probT t fds l) (rFn (probT t fds l) P)) := by
  have c := fill_u (frt_init (probT t fds l)) (rfl : (probT t fds l).m * (probT t fds l).n = _) rfl g (prob_small hv) hv.attrs (by have := hv.rows; show t.rows.length ≤ _; omega) df hF
  rw [show List.range ((probT t fds l).m * (probT t fds l).n) = List.range (t.rows.length * t.attrs.length) from rfl, hht] at c
  exact c.mono fun r H ⟨a, b, d⟩ => ⟨_, _, a, b, d⟩
set_option maxHeartbeats 64000000 in
theorem Fill_u (t : Tb) (ff gg df cf : Bool) (fds : List Fd) (l : List Cr) (ht : TbOk t) (hB : TbN t) (hF : FdsOk fds) (hcl : l.length ≤ 1000000) :
    ConP Tryz.prog 22 [encTb ff gg t, LF df fds, LC cf l] fun r => r = FillR t fds l := by
  have c1 := check_u t ff gg df cf fds l ht hF hcl
  simp only [encTb, LS, LR, LC, LF] at c1
  unfold FillR
  by_cases h : chkE t fds l = 0
  · obtain ⟨hv, h1, h2, h3, h4⟩ := chkE_ok ht h
    rw [if_pos h]
    rw [h] at c1
    obtain ⟨b0, hb0⟩ : ∃ b0, b0 = B.cells [.str t.name, .lst 1 ff (t.attrs.map V.str), .lst 2 gg (t.rows.map encRw)] := ⟨_, rfl⟩
    obtain ⟨b1, hb1⟩ : ∃ b1, b1 = B.cells [.str ByteArray.empty, .nilS, .nilS] := ⟨_, rfl⟩
    have hrb : ∀ bl ∈ [b0, b1], rbB 1 bl := by rw [hb0, hb1]; simp
    have hrb2 : ∀ bl ∈ [b0, b1], rbB [b0, b1].length bl := by rw [hb0, hb1]; simp
    have cb := begin2 t ff gg cf fds l hv h3 hcl b0 b1 hrb
    have g : HOk (begH [b0, b1] ff gg t (probT t fds l).K) 3 4 5 t.attrs.length (t.rows.length * t.attrs.length) (probT t fds l).K := begOk [b0, b1] ff gg t (probT t fds l).K hrb2
    have hht : Ht (begH [b0, b1] ff gg t (probT t fds l).K) 4 (List.range (t.rows.length * t.attrs.length)) = begH [b0, b1] ff gg t (probT t fds l).K := begHt [b0, b1] ff gg t (probT t fds l).K
    have cf2 := fill_at hv hF g hht df
    obtain ⟨n, hne⟩ : ∃ n, n = t.attrs.length := ⟨_, rfl⟩
    obtain ⟨m, hme⟩ : ∃ m, m = t.rows.length := ⟨_, rfl⟩
    obtain ⟨q, hq⟩ : ∃ q, q = probT t fds l := ⟨_, rfl⟩
    obtain ⟨N, hNe⟩ : ∃ N, N = m * n := ⟨_, rfl⟩
    have hne' := hne.symm
    have hme' := hme.symm
    obtain ⟨H1, hH1⟩ : ∃ H1, H1 = begH [b0, b1] ff gg t (probT t fds l).K := ⟨_, rfl⟩
    have hat : H1[0]? = some (B.cells [.str t.name, .lst 1 ff (t.attrs.map V.str), .lst 2 gg (t.rows.map encRw)]) := by rw [hH1, hb0]; rfl
    have hH2 : ∀ P G, Ht H1 4 P ++ G = B.cells [.str t.name, .lst 1 ff (t.attrs.map V.str), .lst 2 gg (t.rows.map encRw)] :: B.cells [.str ByteArray.empty, .nilS, .nilS] :: B.cells [.str t.name, .lst 1 ff (t.attrs.map V.str), .lst 2 gg (t.rows.map encRw)] :: B.cells [.int .i64 n, .buf 4 0 N N, .buf 5 0 N N] :: B.buf 3 1 (paL P) false :: B.buf 113 1 (knL q.K N) false :: G := fun P G => by
      rw [hH1, hb0, hb1, hq, hNe, hme, hne]
      simp [Ht, begH, LS, LR]
    rw [← hH1] at cb cf2
    rw [hb0, hb1] at cb
    rw [← hq, hme'] at cf2
    rw [← hq]
    simp only [encTb, LS, LR, LC] at cb
    simp only [LF] at cf2
    have cs := clone_S t.attrs ff (by have := ht.attrs; omega)
    simp only [LS] at cs
    cases hok : okB q with
    | false =>
      rw [hok] at cf2
      rw [if_neg (by simp)]
      refine conP_of_conH (conH_of_W tok Tryz.func22 rfl rfl ?_)
      refine W_x tok mixed ?_
      simp -implicitDefEqProofs -dsimp [Tryz.f22, List.replicate, encTb, LS, LR, LC, LF]
      refine (callP (c1) (by simp)).mono ?_
      rintro r H' ⟨rfl, rfl⟩
      simp -implicitDefEqProofs -dsimp []
      refine wcall_of cb ?_
      rintro r' H' ⟨rfl, rfl⟩
      simp -implicitDefEqProofs -dsimp [hat, hme']
      refine wcall_of cf2 ?_
      rintro r' H' ⟨P, G, rfl, rfl, _⟩
      rw [hH2]
      simp -implicitDefEqProofs -dsimp []
      rfl
    | true =>
      rw [hok] at cf2
      rw [if_pos rfl]
      have hm := hv.rows
      have hn := hv.attrs
      rw [hme'] at hm
      rw [hne'] at hn
      have hbig : m * n ≤ 1000 * 16 := Nat.mul_le_mul hm hn
      have hN16 : N ≤ 16000 := by omega
      have hqm : q.m = m := by rw [hq, hme]; rfl
      have hqn : q.n = n := by rw [hq, hne]; rfl
      have hqN : q.m * q.n = N := by rw [hqm, hqn, hNe]
      refine conP_of_conH (conH_of_W tok Tryz.func22 rfl rfl ?_)
      refine W_x tok mixed ?_
      simp -implicitDefEqProofs -dsimp [Tryz.f22, List.replicate, encTb, LS, LR, LC, LF]
      refine (callP (c1) (by simp)).mono ?_
      rintro r H' ⟨rfl, rfl⟩
      simp -implicitDefEqProofs -dsimp []
      refine wcall_of cb ?_
      rintro r' H' ⟨rfl, rfl⟩
      simp -implicitDefEqProofs -dsimp [hat, hme']
      refine wcall_of cf2 ?_
      rintro r' H' ⟨P, G, rfl, rfl, hh⟩
      obtain ⟨rfl, ⟨hgt, f⟩, hcls⟩ := hh rfl
      rw [hH2]
      obtain ⟨r, hr⟩ : ∃ r, r = rFn q P := ⟨_, rfl⟩
      rw [← hr] at f hcls
      obtain ⟨c, hc⟩ : ∃ c, c = star q r := ⟨_, rfl⟩
      have hgen : GenS q c := hc ▸ f.gen hcls
      have hfT : filTb t fds l = filT t c := filTb_eq (hq ▸ hgen)
      obtain ⟨u, hu⟩ : ∃ u, u = unkT t := ⟨_, rfl⟩
      have hnum : ∀ k, 0 ≤ numP u k ∧ numP u k ≤ 1000000 + k := fun k => by rw [hu]; exact numP_le hB.bnd (by omega) k
      simp -implicitDefEqProofs -dsimp [hme']
      refine lw_of (W_loopV [false, false, false, false, false, false, false, false, false, false, false, false, true, false, true, false, false, false, false, false, false, false, false, false, false, false, false, false, false, false, false, false, false, false, false, false, false, false, false, false, false, false, false, false, false, false, false, false, true, true, true, true, true, true, true, true, true, true, true, true, true, true, true, true, true, true, true] (σ := Nat) (fun i => i ≤ m) (fun i => m - i) (fun i => [(48, .int .i64 i)]) (fun i => [B.cells [.str t.name, .lst 1 ff (t.attrs.map V.str), .lst 2 gg (t.rows.map encRw)], B.cells [.str ByteArray.empty, .nilS, .nilS], B.cells [.str t.name, .lst 1 ff (t.attrs.map V.str), .lst 2 gg (t.rows.map encRw)], B.cells [.int .i64 n, .buf 4 0 N N, .buf 5 0 N N], B.buf 3 1 (paL P) false, B.buf 113 1 (knL q.K N) false, B.map (.int .i64) (mF encBT (usTo t (i * n)))]) 0 (by omega) (by simp) (by simp [usTo, mF_nil]) (by simp) ?_)
      intro i hi N1 Q1 hN1 hQ1
      by_cases hib : i < m
      · skip
        have hit : i < t.rows.length := by omega
        obtain ⟨rw, hrw⟩ : ∃ rw, rw = t.rows[i] := ⟨_, rfl⟩
        have hrw' := hrw.symm
        have hvl : rw.vals.length = n := by rw [hrw, hne]; exact hv.len _ (List.getElem_mem hit)
        refine W_x tok mixed ?_
        simp -implicitDefEqProofs -dsimp [hib, hme', hit, hrw', encRw, LV, hvl]
        refine lw_of (W_loopV [false, false, false, false, false, false, false, false, false, false, false, false, false, false, true, false, false, false, false, false, false, false, false, false, false, false, false, false, false, false, false, false, false, false, false, false, false, false, false, false, false, false, false, false, false, false, false, false, false, false, false, false, false, false, false, true, true, true, true, true, true, true, true, true, true, true] (σ := Nat × Nat) (fun p => p.1 ≤ n ∧ p.2 = i * n + p.1) (fun p => n - p.1) (fun p => [(55, .int .i64 p.1)]) (fun p => [B.cells [.str t.name, .lst 1 ff (t.attrs.map V.str), .lst 2 gg (t.rows.map encRw)], B.cells [.str ByteArray.empty, .nilS, .nilS], B.cells [.str t.name, .lst 1 ff (t.attrs.map V.str), .lst 2 gg (t.rows.map encRw)], B.cells [.int .i64 n, .buf 4 0 N N, .buf 5 0 N N], B.buf 3 1 (paL P) false, B.buf 113 1 (knL q.K N) false, B.map (.int .i64) (mF encBT (usTo t p.2)), B.cells [.int .i64 rw.id, .lst 3 false (rw.vals.map encV)]]) (0, i * n) ⟨by simp, by simp⟩ (by simp) (by simp) (by simp) ?_)
        rintro ⟨a, x⟩ ⟨ha, hx⟩ N2 Q2 hN2 hQ2
        simp only at ha hx hN2
        by_cases hab : a < n
        · have hva : a < rw.vals.length := by omega
          obtain ⟨v, hve⟩ : ∃ v, v = rw.vals[a] := ⟨_, rfl⟩
          have hve' := hve.symm
          have hvt : vlAt t x = v := by
            rw [hx, hne, vlAt_at t (hne ▸ hab), rwAt_in hit, ← hrw, vAt_in hva, hve]
          have hst := fun h => usTo_yes (t := t) (x := x) h
          have hst2 := fun h => usTo_no (t := t) (x := x) h
          rw [hvt] at hst hst2
          by_cases hk : v.k = 3
          · have hst := hst hk
            cases hmem : memB (usTo t x) v.n with
            | false =>
              rw [addK_no hmem] at hst
              have hf := findF_no (enc := encBT) (i := 0) hmem
              have hsn : mF encBT (usTo t x ++ [v.n]) = mF encBT (usTo t x) ++ [(V.int .i64 v.n, V.bool true)] := mF_snoc _ _ _
              refine W_x tok mixed ?_
              simp -implicitDefEqProofs -dsimp [hab, hvl, hva, hve', encV, hk, hf, wrapS a (by omega)]
              refine hN2 (a + 1, x + 1) _ _ ⟨by simp only; omega, by simp only; omega⟩ (by simp only; omega) (by simp) ⟨[B.cells [.int .i64 v.k, .int .i64 v.n, .str v.s]], by simp [hst, hsn, hk]⟩ (by simp) (by simp)
            | true =>
              rw [addK_yes hmem] at hst
              obtain ⟨j, hf, hj⟩ := findF_yes (enc := encBT) (i := 0) hmem
              have hset : (mF encBT (usTo t x)).set j (V.int .i64 v.n, V.bool true) = mF encBT (usTo t x) := set_mF hj
              rw [Nat.zero_add] at hf
              refine W_x tok mixed ?_
              simp -implicitDefEqProofs -dsimp [hab, hvl, hva, hve', encV, hk, hf, hset, wrapS a (by omega)]
              refine hN2 (a + 1, x + 1) _ _ ⟨by simp only; omega, by simp only; omega⟩ (by simp only; omega) (by simp) ⟨[B.cells [.int .i64 v.k, .int .i64 v.n, .str v.s]], by simp [hst, hk]⟩ (by simp) (by simp)
          · have hst := hst2 hk
            refine W_x tok mixed ?_
            simp -implicitDefEqProofs -dsimp [hab, hvl, hva, hve', encV, hk, wrapS a (by omega)]
            refine hN2 (a + 1, x + 1) _ _ ⟨by simp only; omega, by simp only; omega⟩ (by simp only; omega) (by simp) ⟨[B.cells [.int .i64 v.k, .int .i64 v.n, .str v.s]], by simp [hst]⟩ (by simp) (by simp)
        · have hxe : (i + 1) * n = x := by rw [Nat.add_mul]; omega
          refine W_x tok mixed ?_
          simp -implicitDefEqProofs -dsimp [hab, hvl]
          refine hQ2 _ _ _ ?_
          simp -implicitDefEqProofs -dsimp [wrapS i (by omega)]
          refine hN1 (i + 1) _ _ (by omega) (by omega) (by simp) ⟨[B.cells [.int .i64 rw.id, .lst 3 false (rw.vals.map encV)]], by simp [hxe]⟩ (by simp) (by simp)
      · obtain rfl : i = m := by omega
        have hus : ∀ k, memB (usTo t (i * n)) k = u k := fun k => by rw [hme, hne, hu]; exact usTo_all t k
        obtain ⟨us, hus'⟩ : ∃ us, us = usTo t (i * n) := ⟨_, rfl⟩
        rw [← hus'] at hus ⊢
        have hu1 := hB.bnd
        rw [← hu] at hu1
        refine W_x tok mixed ?_
        simp -implicitDefEqProofs -dsimp [hib, hme']
        refine hQ1 _ _ _ ?_
        simp -implicitDefEqProofs -dsimp []
        refine lw_of (W_drawT tok mixed [6, 7] [(0, [1]), (1, [1]), (2, [1]), (3, [1]), (4, [1]), (5, [1])] [(.lst 1 false (t.attrs.map V.str), [])] (by kernel_rfl) fun C K hC hK => ?_)
        simp -implicitDefEqProofs []
        refine ⟨⟨hC _ _ _ _ (callP cs (by simp)), hC _ _ _ _ (callP cs (by simp))⟩, hK _ _ ?_⟩
        obtain ⟨m, hmi⟩ : ∃ m, m = i := ⟨_, rfl⟩
        rw [← hmi] at hm hbig hqm hNe hme hme'
        clear hib hi hmi
        simp -implicitDefEqProofs -dsimp [hme']
        refine lw_of (W_ownC 66 2 [] 7 [2] rfl (lfL_own _ _) (by simp) (W_loopV [false, false, false, false, false, false, false, false, false, false, false, false, false, false, false, false, true, false, true, true, true, true, true, true, true, false, false, false, false, false, false, false, false, false, false, false, false, false, false, false, false, false, false, false, false, false, false, false, false, false, false, false, false, false, false, false, false, false, false, false, false, false, false, false, false, false, false, false, false, false, false, false, false, false, false, false, false, true, true, true, true, true, true, true, true, true, true, true, true, true, true, true, true, true, true, true, true, true, true, true, true, true, true, true, true, true, true, true, true, true, true, true, true, true, true, true, true, true, true, true, true, true, true, true, true, true, true, true, true, true, true, true, true, true, true, true, true, true, true, true, true, true, true, true, true, true, true, true, true, true, true, true, true, true, true, true, true, true] (σ := Nat) (fun i => i ≤ m) (fun i => m - i) (fun i => [(77, .int .i64 i), (16, .int .i64 (numP u (rankC c (i * n))))]) (fun i => [B.cells [.str t.name, .lst 1 ff (t.attrs.map V.str), .lst 2 gg (t.rows.map encRw)], B.cells [.str ByteArray.empty, .nilS, .nilS], B.cells [.str t.name, .lst 1 ff (t.attrs.map V.str), .lst 2 gg (t.rows.map encRw)], B.cells [.int .i64 n, .buf 4 0 N N, .buf 5 0 N N], B.buf 3 1 (paL P) false, B.buf 113 1 (knL q.K N) false, B.map (.int .i64) (mF encBT us), B.cells [.str t.name, .lst 1 false (t.attrs.map V.str), .buf 9 0 i i], B.map (.int .i64) (mF (encNM u c) (toI (nmL c r (i * n)))), B.buf 66 2 ((rwTo t c i).map encRw) false]) 0 (by omega) (by simp [rankC, numP]) (by simp [nmL_zero, toI, mF_nil, rwTo]) (by simp) ?_))
        intro i hi N3 Q3 hN3 hQ3
        by_cases hib : i < m
        · have hit : i < t.rows.length := by omega
          obtain ⟨rw, hrw⟩ : ∃ rw, rw = t.rows[i] := ⟨_, rfl⟩
          have hrw' := hrw.symm
          have hvl : rw.vals.length = n := by rw [hrw, hne]; exact hv.len _ (List.getElem_mem hit)
          refine W_x tok mixed ?_
          simp -implicitDefEqProofs -dsimp [hib, hme', hit, hrw', encRw, LV, hne']
          refine lw_of (W_ownC 68 3 [] 11 [1] rfl (lfL_own _ _) (by simp) (W_loopV [false, false, false, false, false, false, false, false, false, false, false, false, false, false, false, false, true, false, false, false, false, true, true, true, true, false, false, false, false, false, false, false, false, false, false, false, false, false, false, false, false, false, false, false, false, false, false, false, false, false, false, false, false, false, false, false, false, false, false, false, false, false, false, false, false, false, false, false, false, false, false, false, false, false, false, false, false, false, false, false, false, false, false, false, false, false, false, false, true, true, true, true, true, true, true, true, true, true, true, true, true, true, true, true, true, true, true, true, true, true, true, true, true, true, true, true, true, true, true, true, true, true, true, true, true, true, true, true, true, true, true, true, true, true, true, true, true, true, true, true, true, true, true, true, true, true, true, true, true, true, true] (σ := Nat × Nat) (fun p => p.1 ≤ n ∧ p.2 = i * n + p.1) (fun p => n - p.1) (fun p => [(88, .int .i64 p.1), (16, .int .i64 (numP u (rankC c p.2)))]) (fun p => [B.cells [.str t.name, .lst 1 ff (t.attrs.map V.str), .lst 2 gg (t.rows.map encRw)], B.cells [.str ByteArray.empty, .nilS, .nilS], B.cells [.str t.name, .lst 1 ff (t.attrs.map V.str), .lst 2 gg (t.rows.map encRw)], B.cells [.int .i64 n, .buf 4 0 N N, .buf 5 0 N N], B.buf 3 1 (paL P) false, B.buf 113 1 (knL q.K N) false, B.map (.int .i64) (mF encBT us), B.cells [.str t.name, .lst 1 false (t.attrs.map V.str), .buf 9 0 i i], B.map (.int .i64) (mF (encNM u c) (toI (nmL c r p.2))), B.buf 66 2 ((rwTo t c i).map encRw) false, B.cells [.int .i64 rw.id, .lst 3 false (rw.vals.map encV)], B.cells [.int .i64 rw.id, .buf 12 0 p.1 p.1], B.buf 68 3 ((vlTo u c (i * n) p.1).map encV) false]) (0, i * n) ⟨by simp, by simp⟩ (by simp) (by simp [vlTo]) (by simp) ?_))
          rintro ⟨a, x⟩ ⟨ha, hx⟩ N4 Q4 hN4 hQ4
          simp only at ha hx hN4
          by_cases hab : a < n
          · have hlt : x < N := by rw [hx, hNe]; exact cell_lt hib hab
            have hltq : x < q.m * q.n := by rw [hqN]; exact hlt
            have hrlt : r x < N := by have := f.lt x hltq; rw [hqN] at this; exact this
            have hkl := knL_len q.K N
            have hkg := fun h => knL_get q.K (N := N) (x := r x) h
            have hvlen := vlTo_len u c (i * n) a
            have hvs := vlTo_succ u c (i * n) a
            rw [← hx] at hvs
            have hrkl := rank_le c x
            obtain ⟨nu1, nu2⟩ := hnum (rankC c x)
            obtain ⟨yi, hyi⟩ : ∃ yi, yi = i * n := ⟨_, rfl⟩
            have w1 : IntKind.i64.wrap ((i : Int) * n) = (yi : Int) := by rw [hyi, wrap64 (by rw [← Int.natCast_mul]; omega) (by rw [← Int.natCast_mul]; omega)]; push_cast; rfl
            have w2 : IntKind.i64.wrap ((yi : Int) + (a : Int)) = (x : Int) := by rw [wrap64 (by omega) (by omega)]; omega
            rw [← hyi] at hvlen hvs ⊢
            obtain ⟨vl, hvle⟩ : ∃ vl, vl = vlTo u c yi a := ⟨_, rfl⟩
            rw [← hvle] at hvlen hvs
            rw [← hvle]
            cases hK : q.K (r x) with
            | some v =>
              skip
              have hcx : c x = .inl v := by rw [hc]; unfold star; rw [hK]
              have hno : ¬ (isSym (c x) ∧ fp c x = x) := fun h => isSym_inl hcx h.1
              have hrk := rank_old hno
              have hnm := nmL_old (r := r) hno
              rw [out_inl hcx] at hvs
              rw [hK] at hkg
              refine W_x tok mixed ?_
              simp -implicitDefEqProofs -dsimp [hab, hne', w1, w2]
              refine wcall_of (root_at f hqN (by omega) rfl rfl rfl (by simp) x hlt) ?_
              rintro r' H' ⟨rfl, rfl⟩
              simp -implicitDefEqProofs -dsimp [hkl, hrlt, hkg, encK, eqA2]
              refine lw_of (W_drawT tok mixed [12, 14] [] [] (by kernel_rfl) fun C K hC hK => ?_)
              simp -implicitDefEqProofs [hkl, hrlt, hkg, encK, hvlen, cap32 a (by omega)]
              refine hK _ _ ?_
              simp -implicitDefEqProofs -dsimp [wrapS a (by omega)]
              refine hN4 (a + 1, x + 1) _ _ ⟨by simp only; omega, by simp only; omega⟩ (by simp only; omega) (by simp [hrk]) ⟨[], by simp [hnm, ← hyi, hvs, encV]⟩ (by simp) (by simp)
            | none =>
              have hsx : isSym (c x) := by rw [hc]; unfold star; rw [hK]; exact ⟨r x, rfl⟩
              have hsx' : isSym (star q r x) := by rw [← hc]; exact hsx
              have hrr : r (r x) = r x := f.self (r x) (by rw [hqN]; exact hrlt) (f.root x hltq)
              have hcr : c (r x) = c x := by rw [hc]; unfold star; rw [hrr]
              have hcls2 : cls u c (r x) = cls u c x := cls_uniq hcr
              have hmem := nmL_mem hsx'
              rw [← hc] at hmem
              rw [out_inr hsx] at hvs
              rw [hK] at hkg
              by_cases hfp : fp c x = x
              · have hno : ¬ r x ∈ nmL c r x := fun hm => hmem.1 hm hfp
                have hf := findF_no (enc := encNM u c) (i := 0) (toI_no hno)
                have hrk := rank_new hsx hfp
                have hnm := nmL_new (r := r) hsx hfp
                have hcl := cls_new (u := u) hfp
                obtain ⟨nx1, nx2⟩ := nxt_ok hu1 (numP u (rankC c x))
                have hnp : numP u (rankC c (x + 1)) = cls u c x := by rw [hrk, hcl]; rfl
                rw [← hcl] at nx1 nx2
                obtain ⟨n0, hn0⟩ : ∃ n0, n0 = numP u (rankC c x) := ⟨_, rfl⟩
                obtain ⟨nx, hnx⟩ : ∃ nx, nx = cls u c x := ⟨_, rfl⟩
                rw [← hnx] at nx1 nx2 hnp hvs hcls2
                rw [← hn0] at nx1 nx2 nu1 nu2
                have hsn : mF (encNM u c) (toI (nmL c r x)) ++ [(V.int .i64 (r x : Int), V.agg [.int .i64 3, .int .i64 nx, .str ByteArray.empty])] = mF (encNM u c) (toI (nmL c r (x + 1))) := by
                  rw [hnm, toI_snoc, mF_snoc]
                  simp [encNM, hcls2]
                have hm2 : memB (toI (nmL c r (x + 1))) (r x : Int) = true := toI_mem.2 (by rw [hnm]; simp)
                obtain ⟨j, hf2, _⟩ := findF_yes (enc := encNM u c) (i := 0) hm2
                rw [Nat.zero_add] at hf2
                have henc : encNM u c (r x : Int) = V.agg [.int .i64 3, .int .i64 nx, .str ByteArray.empty] := by simp [encNM, hcls2]
                rw [henc] at hf2
                have hn0' := hn0.symm
                refine W_x tok mixed ?_
                simp -implicitDefEqProofs -dsimp [hab, hne', w1, w2]
                refine wcall_of (root_at f hqN (by omega) rfl rfl rfl (by simp) x hlt) ?_
                rintro r' H' ⟨rfl, rfl⟩
                simp -implicitDefEqProofs -dsimp [hkl, hrlt, hkg, encK, eqA2, hf, hn0', wrap64 (n := n0 + 1) (by omega) (by omega)]
                refine lw_of (W_loopV [false, false, false, false, false, false, false, false, false, false, false, false, false, false, false, false, true, false, false, false, false, false, false, false, false, false, false, false, false, false, false, false, false, false, false, false, false, false, false, false, false, false, false, false, false, false, false, false, false, false, false, false, false, false, false, false, false, false, false, false, false, false, false, false, false, false, false, false, false, false, false, false, false, false, false, false, false, false, false, false, false, false, false, false, false, false, false, false, false, false, false, false, false, false, false, false, false, false, false, false, false, false, false, false, false, false, false, false, false, false, false, false, false, false, false, false, false, false, false, false, false, false, false, true, false, false, true, false, false, false, false, false, false, true, true, true, true, true] (σ := Int) (fun k => n0 < k ∧ k ≤ nx) (fun k => (nx - k).toNat) (fun k => [(16, .int .i64 k)]) (fun _ => [B.cells [.str t.name, .lst 1 ff (t.attrs.map V.str), .lst 2 gg (t.rows.map encRw)], B.cells [.str ByteArray.empty, .nilS, .nilS], B.cells [.str t.name, .lst 1 ff (t.attrs.map V.str), .lst 2 gg (t.rows.map encRw)], B.cells [.int .i64 n, .buf 4 0 N N, .buf 5 0 N N], B.buf 3 1 (paL P) false, B.buf 113 1 (knL q.K N) false, B.map (.int .i64) (mF encBT us), B.cells [.str t.name, .lst 1 false (t.attrs.map V.str), .buf 9 0 i i], B.map (.int .i64) (mF (encNM u c) (toI (nmL c r (x)))), B.buf 66 2 ((rwTo t c i).map encRw) false, B.cells [.int .i64 rw.id, .lst 3 false (rw.vals.map encV)], B.cells [.int .i64 rw.id, .buf 12 0 a a], B.buf 68 3 (vl.map encV) false, B.cells [.int .i64 0, .int .i64 0, .str ByteArray.empty]]) (n0 + 1) ⟨by omega, by have := nx1.gt; omega⟩ (by simp) (by simp) (by simp) ?_)
                rintro k ⟨hk1, hk2⟩ N5 Q5 hN5 hQ5
                have huk := hus k
                by_cases hkx : k = nx
                · subst hkx
                  rw [nx1.free] at huk
                  have hf3 := findF_no (enc := encBT) (i := 0) huk
                  refine W_x tok mixed ?_
                  simp -implicitDefEqProofs -dsimp [hf3]
                  refine hQ5 _ _ _ ?_
                  simp -implicitDefEqProofs -dsimp [hf, hsn, hf2, hvlen, cap32 a (by omega), wrapS a (by omega)]
                  refine hN4 (a + 1, x + 1) _ _ ⟨by simp only; omega, by simp only; omega⟩ (by simp only; omega) (by simp [hnp]) ⟨[B.cells [.int .i64 0, .int .i64 0, .str ByteArray.empty]], by simp [← hyi, hvs, encV]⟩ (by simp) (by simp)
                · rw [nx1.all k hk1 (by omega)] at huk
                  obtain ⟨j3, hf3, _⟩ := findF_yes (enc := encBT) (i := 0) huk
                  rw [Nat.zero_add, show encBT k = V.bool true from rfl] at hf3
                  refine W_x tok mixed ?_
                  simp -implicitDefEqProofs -dsimp [hf3, wrap64 (n := k + 1) (by omega) (by omega)]
                  refine hN5 (k + 1) _ _ ⟨by omega, by omega⟩ (by omega) (by simp) ⟨[], by simp⟩ (by simp) (by simp)
              · skip
                have hyes : r x ∈ nmL c r x := hmem.2 hfp
                obtain ⟨j, hf, _⟩ := findF_yes (enc := encNM u c) (i := 0) (toI_mem.2 hyes)
                rw [Nat.zero_add] at hf
                have henc : encNM u c (r x : Int) = V.agg [.int .i64 3, .int .i64 (cls u c x), .str ByteArray.empty] := by simp [encNM, hcls2]
                rw [henc] at hf
                have hno : ¬ (isSym (c x) ∧ fp c x = x) := fun h => hfp h.2
                have hrk := rank_old hno
                have hnm := nmL_old (r := r) hno
                refine W_x tok mixed ?_
                simp -implicitDefEqProofs -dsimp [hab, hne', w1, w2]
                refine wcall_of (root_at f hqN (by omega) rfl rfl rfl (by simp) x hlt) ?_
                rintro r' H' ⟨rfl, rfl⟩
                simp -implicitDefEqProofs -dsimp [hkl, hrlt, hkg, encK, eqA2, hf, hvlen, cap32 a (by omega), wrapS a (by omega)]
                refine hN4 (a + 1, x + 1) _ _ ⟨by simp only; omega, by simp only; omega⟩ (by simp only; omega) (by simp [hrk]) ⟨[B.cells [.int .i64 3, .int .i64 (cls u c x), .str ByteArray.empty]], by simp [hnm, ← hyi, hvs, encV]⟩ (by simp) (by simp)
          · obtain rfl : a = n := by omega
            have hvlen := vlTo_len u c (i * a) a
            have hxe : (i + 1) * a = x := by rw [Nat.add_mul]; omega
            have hrl := rwTo_len t c i
            have hrs := rwTo_succ t c i
            have hfr : encRw (filRow t c i) = .agg [.int .i64 rw.id, .lst 3 false ((vlTo u c (i * a) a).map encV)] := by
              rw [filRow_eq, rwAt_in hit, ← hrw, ← hne, ← hu]; rfl
            refine W_frzC 12 [] 11 [1] rfl rfl (by simp) (by simp [hvlen]) ?_
            refine W_x tok mixed ?_
            simp -implicitDefEqProofs -dsimp [hab, hne']
            refine hQ4 _ _ _ ?_
            simp -implicitDefEqProofs -dsimp [hrl, cap32 i (by omega), wrapS i (by omega)]
            refine hN3 (i + 1) _ _ (by omega) (by omega) (by simp [hxe]) ⟨[B.cells [.int .i64 rw.id, .lst 3 false (rw.vals.map encV)], B.cells [.int .i64 rw.id, .lst 3 false ((vlTo u c (i * a) a).map encV)], B.buf 68 3 ((vlTo u c (i * a) a).map encV) true], by simp [hxe, hrs, hfr]⟩ (by simp) (by simp)
        · obtain rfl : i = m := by omega
          have hrl := rwTo_len t c i
          refine W_frzC 9 [] 7 [2] rfl rfl (by simp) (by simp [hrl]) ?_
          refine W_x tok mixed ?_
          simp -implicitDefEqProofs -dsimp [hib, hme']
          refine hQ3 _ _ _ ?_
          simp -implicitDefEqProofs -dsimp []
          rw [hfT]
          simp [encTb, LS, LR, filT, rwTo, hme]
  · rw [if_neg h]
    refine conP_of_conH (conH_of_W tok Tryz.func22 rfl rfl ?_)
    refine W_x tok mixed ?_
    simp -implicitDefEqProofs -dsimp [Tryz.f22, List.replicate, encTb, LS, LR, LC, LF]
    refine (callP (c1) (by simp)).mono ?_
    rintro r H' ⟨rfl, rfl⟩
    simp -implicitDefEqProofs -dsimp [h]
    rfl
end Go.Proofs.YteijbpppalhihaaGreat
end
