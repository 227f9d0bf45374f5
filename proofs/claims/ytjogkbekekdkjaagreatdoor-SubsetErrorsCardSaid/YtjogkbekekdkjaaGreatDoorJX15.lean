/- JX15: own texts of this seat, joined and shortened by pack4.py: H3, H4. -/
import Derived.Test.YtjogkbekekdkjaaGreatDoorJX10
import Derived.Test.YtjogkbekekdkjaaGreatDoorJX14
set_option linter.unusedVariables false
set_option linter.unusedSimpArgs false
set_option maxRecDepth 100000
set_option maxHeartbeats 64000000
open Bool renaming false_and→rZ,true_and→re,false_eq_true→rn,and_false→sv,not_false→uP,not_true→vL
open Int renaming toNat_natCast→sT
open List renaming replicate→rO,drop_eq_getElem_cons→rP,getElem_mem→rQ,drop_of_length_le→rR,getElem?_eq_getElem→rT,getElem?_append_left→rg,range→rh,length_append→ri,append_nil→rj,drop_zero→rk,nil_append→rx,getElem?_set_ne→ry,getElem?_set_self→sA,cons_append→sP,set_append_right→sS,length_set→se,set_set→tC,any_cons→tK,mem_or_eq_of_mem_set→tT,set_getElem_self→tw,map_set→uM
open Nat renaming le_refl→rd
namespace Go.Proofs.YtjogkbekekdkjaaGreatDoor
section
open Go Go.AM
section
def eN(n:Nat):V:=.int .i64 (n:Int)
@[simp] theorem eN_pure (n:Nat):AM.Pure (eN n):=by simp[eN]
@[simp] theorem eN_oneV (n:Nat):dV (eN n)=true:=rfl
def Ln(f:Bool)(e:List Nat):V:=.lst 1 f (e.map eN)
@[simp] theorem Ln_pure (f:Bool) (e:List Nat):AM.Pure (Ln f e):=by simp[Ln]
@[simp] theorem Ln_oneV (f:Bool) (e:List Nat):dV (Ln f e)=true:=rfl
def LLn(g:Bool)(es:List (List Nat)):V:=.lst 1 g (es.map (Ln false))
@[simp] theorem LLn_pure (g:Bool) (es:List (List Nat)):AM.Pure (LLn g es):=by simp[LLn]
def nuL(m:List Nat):List V:=m.map eN
theorem bE(m:List Nat):(nuL m).length=m.length:=by simp[nuL]
theorem bR{m:List Nat}{x:Nat}(h:x<(nuL m).length):(nuL m)[x] = .int .i64 (m.getD x 0:Nat):=by
 have h2:x<m.length:=by simpa[nuL] using h
 simp[nuL,eN,h2]
theorem dA(m:List Nat)(x v:Nat):(nuL m).set x (.int .i64 (v:Int))=nuL (m.set x v):=by
 unfold nuL;rw[uM];rfl
theorem eL(m:List Nat):∀x∈nuL m,AM.Pure x∧dV x=true:=by
 intro x hx;obtain⟨n,_,rfl⟩:=List.mem_map.1 hx;exact⟨eN_pure n,eN_oneV n⟩
def inL(m:List Int):List V:=m.map aE
theorem er(m:List Int):(inL m).length=m.length:=by simp[inL]
theorem et{m:List Int}{x:Nat}(h:x<(inL m).length):(inL m)[x] = .int .i64 (m.getD x 0):=by
 have h2:x<m.length:=by simpa[inL] using h
 simp[inL,aE,h2]
theorem mS(m:List Int)(x:Nat)(v:Int):(inL m).set x (.int .i64 v)=inL (m.set x v):=by
 unfold inL;rw[uM];rfl
theorem iG(m:List Int):∀x∈inL m,AM.Pure x∧dV x=true:=by
 intro x hx;obtain⟨n,_,rfl⟩:=List.mem_map.1 hx;exact⟨encI_pure n,encI_oneV n⟩
theorem rbM1{n m:Nat}(h:n≤m){v:V}(hv:rb1 n v):rb1 m v:=by
 cases v<;>simp only[rb1]at hv ⊢<;>first | exact hv | omega | trivial
theorem rbM{n m:Nat}(h:n≤m){v:V}(hv:rb n v):rb m v:=by
 cases v<;>simp only[rb]at hv ⊢<;>first | exact rbM1 h hv | exact fun c hc=>rbM1 h (hv c hc) | trivial
theorem rbBM{n m:Nat}(h:n≤m){bl:B}(hb:rbB n bl):rbB m bl:=by
 cases bl with
 | cells cs=>exact fun c hc=>rbM h (hb c hc)
 | map kk es=>exact fun p hp=>⟨rbM h (hb p hp).1,rbM h (hb p hp).2⟩
 | buf e z xs fz=>exact fun x hx c hc=>rbM h (hb x hx c hc)
theorem rbs_app{H G:List B}(hH:∀bl∈H,rbB H.length bl)(hG:∀bl∈G,rbB (H.length+G.length) bl):∀bl∈H++G,rbB (H++G).length bl:=fun bl hb=>by
 rw[ri]
 rcases List.mem_append.1 hb with h | h
 ·exact rbBM (by omega) (hH bl h)
 ·exact hG bl h
theorem fK{H:List B}{k:Nat}{b:B}(hH:∀bl∈H,rbB H.length bl)(hb:rbB H.length b):∀bl∈H.set k b,rbB (H.set k b).length bl:=fun bl h=>by
 rw[se]
 rcases tT h with h | rfl
 ·exact hH bl h
 ·exact hb
theorem ei{P:Program}{f:FuncId}{args:List V}{H:List B}{v:V}(h:av P f args H fun r H'=>r=v∧∃G,H'=H++G)(hr:rb H.length v)(hb:∀bl∈H,rbB H.length bl):av P f args H fun r H'=>r=v∧H'=H:=by
 refine(ke (σ:=Unit) (ok:=fun _=>True) (rf:=fun _=>v) (Hf:=fun _=>H) (h.mono fun r H' ⟨a,G,b⟩=>⟨(),trivial,a,G,b⟩) (fun _ _=>rd _) (fun _ _=>hr) (fun _ _=>hb)).mono ?_;rintro r H' ⟨_,_,a,b⟩;exact⟨a,b⟩
theorem bD{P:Program}{f:FuncId}{args:List V}{H:List B}{K K':V→List B→Prop}(h:av P f args H K)(hk:∀r H',K r H'→K' r H'):aQ P (.fn f []) args H K':=by
 simp only[aQ,rj];exact h.mono hk
structure SAt (H:List B) (k0 km:Nat) (f g:Bool) (ws:List Int) (es:List (List Nat)) (n:Nat) (m:List Nat) (lf:Int):Prop where
 h0:H[k0]?=some (.cells [L1 f ws,LLn g es,.buf km 0 n n,.int .i64 lf])
 hm:H[km]?=some (.buf 3 1 (nuL m) false)
 rb:∀bl∈H,rbB H.length bl
 lm:m.length=n
 lw:ws.length=n
 n0:km≠k0
theorem SAt.app{H:List B}{k0 km:Nat}{f g:Bool}{ws:List Int}{es:List (List Nat)}{n:Nat}{m:List Nat}{lf:Int}(s:SAt H k0 km f g ws es n m lf)(G:List B)(hG:∀bl∈G,rbB (H.length+G.length) bl):SAt (H++G) k0 km f g ws es n m lf :=
 ⟨by rw[rg (aB s.h0)];exact s.h0,by rw[rg (aB s.hm)];exact s.hm,rbs_app s.rb hG,s.lm,s.lw,s.n0⟩
theorem SAt.mark{H:List B}{k0 km:Nat}{f g:Bool}{ws:List Int}{es:List (List Nat)}{n:Nat}{m:List Nat}{lf:Int}(s:SAt H k0 km f g ws es n m lf)(v c:Nat):SAt (H.set km (.buf 3 1 (nuL (m.set v c)) false)) k0 km f g ws es n (m.set v c) lf :=
 ⟨by rw[ry s.n0];exact s.h0,by rw[sA (aB s.hm)],fK s.rb ((rbB_buf1 (eL _)).2 trivial),by simp[s.lm],s.lw,s.n0⟩
theorem SAt.back{H:List B}{k0 km:Nat}{f g:Bool}{ws:List Int}{es:List (List Nat)}{n:Nat}{m:List Nat}{lf:Int}(s:SAt H k0 km f g ws es n m lf)(b c:B):((H.set km b).set km c).set km (.buf 3 1 (nuL m) false)=H:=by
 rw[tC,tC];have h:=aB s.hm
 have:H[km] = .buf 3 1 (nuL m) false:=by have:=s.hm;rw[rT h]at this;exact Option.some.inj this
 rw[←this,tw]
def ixN(p:Nat→Bool)(e:List Nat)(i:Nat):Int:=if h:i<e.length then(if p e[i] then(i:Int) else ixN p e (i+1)) else -1
termination_by e.length-i
theorem ixN_any(p:Nat→Bool)(e:List Nat)(i:Nat):decide (0≤ixN p e i)=(e.drop i).any p:=by
 fun_induction ixN p e i with
 | case1 i h h0=>rw[rP h,tK,h0];simp
 | case2 i h h0 ih=>rw[rP h,tK,ih];simp[h0]
 | case3 i h=>rw[rR (by omega)];rfl
theorem idxFuncN(H:List B)(fv:V)(p:Nat→Bool)(e:List Nat)(g:Bool)(hes:e.length≤1000000)(hH:∀bl∈H,rbB H.length bl)(hfv:rb H.length fv)
  (hp:∀v∈e,aQ Tryz.prog fv [.int .i64 (v:Int)] H fun r H'=>r = .bool (p v)∧H'=H):av Tryz.prog 156 [Ln g e,fv] H fun r H'=>r = .int .i64 (ixN p e 0)∧H'=H:=by
 refine aF tok Tryz.func156 rfl rfl ?_;refine wx ?_;simp -dsimp[Tryz.f156,rO,Ln];refine aG (W_loopM 19 0x7ff30 (by simp[mB]<;>rfl) (σ:=Nat) (fun i=>ixN p e i=ixN p e 0) (fun i=>e.length-i) (fun i=>[(8,.int .i64 i)]) (fun _=>H) 0 rfl (by simp) rfl (by simp) ?_);intro i hx N Q hN hQ;by_cases hb:i<e.length
 ·rw[ixN,dif_pos hb]at hx;have hc:=hp e[i] (rQ hb);cases hq:p e[i]
  ·rw[hq]at hc hx;refine wx ?_;simp -dsimp[hb,eN];refine hc.mono ?_;rintro r H' ⟨rfl,rfl⟩;simp -dsimp[aH i (by omega)];refine hN (i+1) _ _ (by simpa using hx) (by omega) (by simp) ⟨[],by simp⟩ (by simp;exact hfv) hH
  ·rw[hq]at hc hx;refine wx ?_;simp -dsimp[hb,eN];refine hc.mono ?_;rintro r H' ⟨rfl,rfl⟩;simp -dsimp[];refine hQ _ _ _ ?_;simp -dsimp[];simpa using hx
 ·rw[ixN,dif_neg hb]at hx;refine wx ?_;simp -dsimp[hb];refine hQ _ _ _ ?_;simp -dsimp[];simpa using hx
theorem contFuncN(H:List B)(fv:V)(p:Nat→Bool)(e:List Nat)(g:Bool)(hes:e.length≤1000000)(hH:∀bl∈H,rbB H.length bl)(hfv:rb H.length fv)
  (hp:∀v∈e,aQ Tryz.prog fv [.int .i64 (v:Int)] H fun r H'=>r = .bool (p v)∧H'=H):av Tryz.prog 100 [Ln g e,fv] H fun r H'=>r = .bool (e.any p)∧H'=H:=by
 have h0:=ixN_any p e 0;rw[rk]at h0;have hc:=idxFuncN H fv p e g hes hH hfv hp;refine aF tok Tryz.func100 rfl rfl ?_;refine wx ?_;simp -dsimp[Tryz.f100,rO];refine(show aQ Tryz.prog (.fn 156 []) _ H _ from by simpa[aQ] using hc).mono ?_;rintro r H' ⟨rfl,rfl⟩;simp -dsimp[];rw[←h0]
def ixL(p:List Nat→Bool)(es:List (List Nat))(i:Nat):Int:=if h:i<es.length then(if p es[i] then(i:Int) else ixL p es (i+1)) else -1
termination_by es.length-i
theorem ixL_any(p:List Nat→Bool)(es:List (List Nat))(i:Nat):decide (0≤ixL p es i)=(es.drop i).any p:=by
 fun_induction ixL p es i with
 | case1 i h h0=>rw[rP h,tK,h0];simp
 | case2 i h h0 ih=>rw[rP h,tK,ih];simp[h0]
 | case3 i h=>rw[rR (by omega)];rfl
theorem idxFuncL(H:List B)(fv:V)(p:List Nat→Bool)(es:List (List Nat))(g:Bool)(hes:es.length≤1000000)(hH:∀bl∈H,rbB H.length bl)(hfv:rb H.length fv)
  (hp:∀m∈es,aQ Tryz.prog fv [Ln false m] H fun r H'=>r = .bool (p m)∧H'=H):av Tryz.prog 155 [LLn g es,fv] H fun r H'=>r = .int .i64 (ixL p es 0)∧H'=H:=by
 refine aF tok Tryz.func155 rfl rfl ?_;refine wx ?_;simp -dsimp[Tryz.f155,rO,LLn];refine aG (W_loopM 19 0x7ff30 (by simp[mB]<;>rfl) (σ:=Nat) (fun i=>ixL p es i=ixL p es 0) (fun i=>es.length-i) (fun i=>[(8,.int .i64 i)]) (fun _=>H) 0 rfl (by simp) rfl (by simp) ?_);intro i hx N Q hN hQ;by_cases hb:i<es.length
 ·rw[ixL,dif_pos hb]at hx;have hc:=hp es[i] (rQ hb);cases hq:p es[i]
  ·rw[hq]at hc hx;refine wx ?_;simp -dsimp[hb];refine hc.mono ?_;rintro r H' ⟨rfl,rfl⟩;simp -dsimp[aH i (by omega)];refine hN (i+1) _ _ (by simpa using hx) (by omega) (by simp) ⟨[],by simp⟩ (by simp;exact hfv) hH
  ·rw[hq]at hc hx;refine wx ?_;simp -dsimp[hb];refine hc.mono ?_;rintro r H' ⟨rfl,rfl⟩;simp -dsimp[];refine hQ _ _ _ ?_;simp -dsimp[];simpa using hx
 ·rw[ixL,dif_neg hb]at hx;refine wx ?_;simp -dsimp[hb];refine hQ _ _ _ ?_;simp -dsimp[];simpa using hx
theorem contFuncL(H:List B)(fv:V)(p:List Nat→Bool)(es:List (List Nat))(g:Bool)(hes:es.length≤1000000)(hH:∀bl∈H,rbB H.length bl)(hfv:rb H.length fv)
  (hp:∀m∈es,aQ Tryz.prog fv [Ln false m] H fun r H'=>r = .bool (p m)∧H'=H):av Tryz.prog 98 [LLn g es,fv] H fun r H'=>r = .bool (es.any p)∧H'=H:=by
 have h0:=ixL_any p es 0;rw[rk]at h0;have hc:=idxFuncL H fv p es g hes hH hfv hp;refine aF tok Tryz.func98 rfl rfl ?_;refine wx ?_;simp -dsimp[Tryz.f98,rO];refine(show aQ Tryz.prog (.fn 155 []) _ H _ from by simpa[aQ] using hc).mono ?_;rintro r H' ⟨rfl,rfl⟩;simp -dsimp[];rw[←h0]
section
variable {H:List B} {k0 km:Nat} {f g:Bool} {ws:List Int} {es:List (List Nat)} {n:Nat} {m:List Nat} {lf:Int}
theorem has_h(s:SAt H k0 km f g ws es n m lf)(e:List Nat)(fe:Bool)(k:Nat)(hl:e.length≤1000000)(he:∀v∈e,v<n):
  av Tryz.prog 169 [.ptr k0 0,Ln fe e,.int .i64 k] H fun r H'=>r = .bool (ec m k e)∧H'=H:=by
 refine ei ?_ (by simp[rb,rb1]) s.rb;have hl0:k0<H.length:=aB s.h0;have s2:=s.app [B.cells [.ptr k0 0],B.cells [.int .i64 k]] (by simp[rbB,rb,rb1];omega)
 have g1:(H++[B.cells [.ptr k0 0],B.cells [.int .i64 k]])[H.length]?=some (B.cells [.ptr k0 0]):=by simp
 have g2:(H++[B.cells [.ptr k0 0],B.cells [.int .i64 k]])[H.length+1]?=some (B.cells [.int .i64 k]):=by simp
 have hnl:=bE m;have hlm:=s.lm
 have hcf:=contFuncN (H++[B.cells [.ptr k0 0],B.cells [.int .i64 k]]) (.fn 222 [.ptr H.length 0,.ptr (H.length+1) 0]) (fun v=>decide (m.getD v 0=k)) e fe hl s2.rb (by simp[rb,rb1]) (fun v hv=>by
  have hvn:=he v hv;obtain⟨HH,hHH⟩:∃HH,HH=H++[B.cells [.ptr k0 0],B.cells [.int .i64 k]]:=⟨_,rfl⟩;rw[←hHH]at s2 g1 g2 ⊢;have h0:=s2.h0;have hm:=s2.hm
  have hat:=fun h=>bR (m:=m) (x:=v) h
  obtain⟨c,hcv⟩:∃c,c=m.getD v 0:=⟨_,rfl⟩;rw[←hcv]at hat ⊢;simp only[aQ,sP,rx];by_cases hq:c=k
  ·rw[decide_eq_true hq];subst hq;refine aF tok Tryz.func222 rfl rfl ?_;refine wx ?_;simp -dsimp[Tryz.f222,rO,h0,hm,g1,g2,hat,hnl,hlm,hvn];exact .inr (aC (by kernel_rfl))
  ·rw[decide_eq_false hq];refine aF tok Tryz.func222 rfl rfl ?_;refine wx ?_;simp -dsimp[Tryz.f222,rO,h0,hm,g1,g2,hat,hnl,hlm,hvn,show ¬((c:Int)=k) by omega]
   exact .inr (aC (by kernel_rfl)))
 refine aF tok Tryz.func169 rfl rfl ?_;refine wx ?_;simp -dsimp[Tryz.f169,rO];refine aQ.mono (K:=fun r H'=>r = .bool (e.any fun v=>decide (m.getD v 0=k))∧H'=H++[B.cells [.ptr k0 0],B.cells [.int .i64 k]]) hcf ?_;rintro r H' ⟨rfl,rfl⟩;simp -dsimp[];rfl
theorem dead_h(s:SAt H k0 km f g ws es n m lf)(he:gK n es)(hes:es.length≤1000000)(hl:∀e∈es,e.length≤1000000):
  av Tryz.prog 150 [.ptr k0 0] H fun r H'=>r = .bool (fG m es)∧H'=H:=by
 refine ei ?_ (by simp[rb,rb1]) s.rb;have hl0:k0<H.length:=aB s.h0;have s2:=s.app [B.cells [.ptr k0 0]] (by simp[rbB,rb,rb1];omega)
 have g1:(H++[B.cells [.ptr k0 0]])[H.length]?=some (B.cells [.ptr k0 0]):=by simp
 have hcf:=contFuncL (H++[B.cells [.ptr k0 0]]) (.fn 215 [.ptr H.length 0]) (fun e=>!ec m 1 e&&!ec m 0 e) es g hes s2.rb (by simp[rb,rb1]) (fun e hm=>by
  obtain⟨HH,hHH⟩:∃HH,HH=H++[B.cells [.ptr k0 0]]:=⟨_,rfl⟩;rw[←hHH]at s2 g1 ⊢;have c1:=has_h s2 e false 1 (hl e hm) (he e hm).2.2;have c0:=has_h s2 e false 0 (hl e hm) (he e hm).2.2;simp only[aQ,sP,rx]
  cases h1:ec m 1 e with
  | true =>
   rw[h1]at c1;refine aF tok Tryz.func215 rfl rfl ?_;refine wx ?_;simp -dsimp[Tryz.f215,rO,g1];refine bD c1 ?_;rintro r H' ⟨rfl,rfl⟩;simp -dsimp[]
  | false =>
   rw[h1]at c1;refine aF tok Tryz.func215 rfl rfl ?_;refine wx ?_;simp -dsimp[Tryz.f215,rO,g1];refine bD c1 ?_;rintro r H' ⟨rfl,rfl⟩;simp -dsimp[g1];refine bD c0 ?_;rintro r H' ⟨rfl,rfl⟩;simp -dsimp[]
 )
 have h0:=s2.h0;refine aF tok Tryz.func150 rfl rfl ?_;refine wx ?_;simp -dsimp[Tryz.f150,rO,h0];refine aQ.mono (K:=fun r H'=>r = .bool (es.any fun e=>!ec m 1 e&&!ec m 0 e)∧H'=H++[B.cells [.ptr k0 0]]) hcf ?_;rintro r H' ⟨rfl,rfl⟩;simp -dsimp[];rfl
def aP(x:Shr):V:=.agg [.int .i64 x.e,.int .i64 x.a]
@[simp] theorem encSh_pure (x:Shr):AM.Pure (aP x):=by simp[aP]
@[simp] theorem encSh_oneV (x:Shr):dV (aP x)=true:=rfl
def LSh(f:Bool)(l:List Shr):V:=.lst 2 f (l.map aP)
@[simp] theorem LSh_pure (f:Bool) (l:List Shr):AM.Pure (LSh f l):=by simp[LSh]
def aS(x:Nde):V:=.agg [.int .i64 x.v,LSh false x.l]
@[simp] theorem encNd_pure (x:Nde):AM.Pure (aS x):=by simp[aS]
@[simp] theorem encNd_oneV (x:Nde):dV (aS x)=true:=rfl
def LNd(f:Bool)(l:List Nde):V:=.lst 2 f (l.map aS)
@[simp] theorem LNd_pure (f:Bool) (l:List Nde):AM.Pure (LNd f l):=by simp[LNd]
structure HsB (ws:List Int) (es:List (List Nat)):Prop where
 w:∀v<ws.length,1≤ws.getD v 0∧ws.getD v 0≤1000000
 n:ws.length≤200
 ne:es.length≤2000
 ed:gK ws.length es
theorem gK.len{n:Nat}{es:List (List Nat)}(h:gK n es):∀e∈es,e.length≤n:=fun e he=>by
 obtain⟨_,h2,h3⟩:=h e he;have hnd:e.Nodup:=h2.imp (fun h=>by omega);have:=hnd.length_le_of_subset (l₂:=rh n) (fun v hv=>List.mem_range.2 (h3 v hv));simpa using this
def ldOk(n:Nat)(A:Int)(ld:List Int):Prop:=ld.length=n∧∀v<n,0≤ld.getD v 0∧ld.getD v 0≤A
theorem ldOk.set{n:Nat}{A A':Int}{ld:List Int}(h:ldOk n A ld)(hA:A≤A'){v:Nat}(hv:v<n){a:Int}(h0:0≤ld.getD v 0+a)(h1:ld.getD v 0+a≤A'):ldOk n A' (ld.set v (ld.getD v 0+a)):=by
 refine⟨by simp[h.1],fun u hu=>?_⟩;by_cases e:v=u
 ·subst e;rw[aU _ (by rw[h.1];exact hv)];exact⟨h0,h1⟩
 ·rw[aY _ e];have:=h.2 u hu;exact⟨this.1,by omega⟩
end
end
section
section
variable {H:List B} {k0 km:Nat} {f g:Bool} {ws:List Int} {es:List (List Nat)} {n:Nat} {m:List Nat} {lf:Int}
theorem eD{es:List (List Nat)}{i:Nat}(h:i<es.length):es.getD i []=es[i]:=am _ _ h
theorem shares_h(s:SAt H k0 km f g ws es n m lf)(hb:HsB ws es)(l:List Shr)(fl:Bool)(b:Int):
  av Tryz.prog 158 [.ptr k0 0,LSh fl l,.int .i64 b] H fun r H'=>r = .bool (shE ws es m l b)∧H'=H:=by
 refine ei ?_ (by simp[rb,rb1]) s.rb;have h0:=s.h0;have hlm:=s.lm;have hlw:=s.lw;have hk0:k0<H.length:=aB s.h0;have hkm:km<H.length:=aB s.hm
 have hn2:n≤200:=by have:=hb.n;omega
 have he2:=hb.ne;by_cases hll:l.length≤10000
 ·obtain⟨E,hE⟩:∃E,E=shE ws es m l b:=⟨_,rfl⟩;have hE2:=hE;unfold shE at hE2;rw[decide_eq_true hll,re,hlm]at hE2;rw[←hE];have hm:=s.hm;have hnl:=bE m;refine aF tok Tryz.func158 rfl rfl ?_;refine wx ?_;simp -dsimp[Tryz.f158,rO,h0,hm,hnl,hlm,show ¬(10000:Int)<l.length by omega,show(8:Int)*n≤281474976710656 by omega,show(n:Int)≤9223372036854775807 by omega,aP,LSh,LLn,Ln];refine aG (W_loopM 116 0xfffffffffffffffffffffff001540 (by simp[mB]<;>rfl) (σ:=Nat×Int×List Int) (fun p=>p.1≤l.length∧fJ ws es m b (l.drop p.1) p.2.2 p.2.1=E∧ldOk n (p.1*200000000000000) p.2.2∧0≤p.2.1∧p.2.1≤p.1*1000000000000) (fun p=>l.length-p.1) (fun p=>[(24,.int .i64 p.1),(8,.int .i64 p.2.1)]) (fun p=>H++[.buf 2 1 (inL p.2.2) false]) (0,0,rO n 0) ⟨by simp,by rw[rk];exact hE2.symm,⟨by simp,fun v _=>by rw[eE];simp⟩,by simp,by simp⟩ (by simp) (by simp[inL,aE]) (by simp) ?_);rintro⟨i,sm,ld⟩ ⟨hi,hx,hld,hs0,hs1⟩ N Q hN hQ;simp only at hi hx hld hs0 hs1 hN;by_cases hbi:i<l.length
  ·rw[rP hbi,fJ]at hx;obtain⟨x,hxe⟩:∃x,x=l[i]:=⟨_,rfl⟩;rw[←hxe]at hx;have hxl:=hxe.symm;obtain⟨xe,xa⟩:=x;have hok:okS es m ⟨xe,xa⟩=(decide (0≤xe)&&decide (xe<es.length)&&decide (1≤xa)&&decide (xa≤1000000000000)&&!ec m 1 (es.getD xe.toNat [])):=rfl;rw[hok]at hx;clear hok;simp only at hx;have s2:=s.app [B.buf 2 1 (inL ld) false,B.cells [.int .i64 xe,.int .i64 xa]] (by intro bl h;rcases List.mem_cons.1 h with rfl | h;exact(rbB_buf1 (iG _)).2 trivial;rcases List.mem_cons.1 h with rfl | h;simp[rbB,rb,rb1];cases h);have g0:=s2.h0;have gm:=s2.hm
   have gx:(H++[B.buf 2 1 (inL ld) false,B.cells [.int .i64 xe,.int .i64 xa]])[H.length+1]?=some (B.cells [.int .i64 xe,.int .i64 xa]):=by simp
   by_cases c1:xe<0
   ·skip
    rw[decide_eq_false (by omega)]at hx;simp only[rZ,rn,if_false]at hx;refine wx ?_;simp -dsimp[hbi,hxl,gx,c1,aP,LSh,LLn,Ln];refine .inr ⟨aC (by kernel_rfl),?_⟩;refine hQ _ _ _ ?_;simp -dsimp[aP,LSh,LLn,Ln];exact hx.symm
   by_cases c2:(es.length:Int)≤xe
   ·skip
    rw[decide_eq_false (show ¬xe<es.length by omega)]at hx;simp only[sv,rZ,rn,if_false]at hx;refine wx ?_;simp -dsimp[hbi,hxl,gx,g0,c1,c2,aP,LSh,LLn,Ln];refine .inr ⟨aC (by kernel_rfl),?_⟩;refine hQ _ _ _ ?_;simp -dsimp[aP,LSh,LLn,Ln];exact hx.symm
   by_cases c3:xa<1
   ·skip
    rw[decide_eq_false (show ¬1≤xa by omega)]at hx;simp only[sv,rZ,rn,if_false]at hx;refine wx ?_;simp -dsimp[hbi,hxl,gx,g0,c1,c2,c3,aP,LSh,LLn,Ln];refine .inr ⟨aC (by kernel_rfl),?_⟩;refine hQ _ _ _ ?_;simp -dsimp[aP,LSh,LLn,Ln];exact hx.symm
   by_cases c4:1000000000000<xa
   ·skip
    rw[decide_eq_false (show ¬xa≤1000000000000 by omega)]at hx;simp only[sv,rZ,rn,if_false]at hx;refine wx ?_;simp -dsimp[hbi,hxl,gx,g0,c1,c2,c3,c4,aP,LSh,LLn,Ln];refine .inr ⟨aC (by kernel_rfl),?_⟩;refine hQ _ _ _ ?_;simp -dsimp[aP,LSh,LLn,Ln];exact hx.symm
   obtain⟨j,rfl⟩:∃j:Nat,xe=j:=⟨xe.toNat,by omega⟩
   have hj:j<es.length:=by omega
   rw[decide_eq_true (show(0:Int)≤j by omega),decide_eq_true (show(j:Int)<es.length by omega),decide_eq_true (show 1≤xa by omega),decide_eq_true (show xa≤1000000000000 by omega),sT,eD hj]at hx;simp only[re]at hx;obtain⟨e1,e2,e3⟩:=hb.ed es[j] (rQ hj);have e4:=hb.ed.len es[j] (rQ hj);obtain⟨e,he⟩:∃e,e=es[j]:=⟨_,rfl⟩;rw[←he]at hx e1 e2 e3 e4;have hej:=he.symm;have ch:=has_h s2 e false 1 (by omega) (fun v hv=>by have:=e3 v hv;omega);simp only[Ln]at ch
   cases hh:ec m 1 e with
   | true =>
    rw[hh]at hx ch;simp only[vL,rn,if_false]at hx;refine wx ?_;simp -dsimp[hbi,hxl,gx,g0,c1,hj,hej,c3,c4,show ¬(es.length:Int)≤j by omega,aP,LSh,LLn,Ln];refine .inr ⟨aC (by kernel_rfl),?_⟩;refine aN _ (bD ch fun _ _ h=>h) ?_;simp -dsimp[aP,LSh,LLn,Ln];refine hQ _ _ _ ?_;simp -dsimp[aP,LSh,LLn,Ln];exact hx.symm
   | false =>
    rw[hh]at hx ch;simp only[uP,if_true]at hx;have hw1:IntKind.i64.wrap (sm+xa)=sm+xa:=wrap64 (by omega) (by omega);refine wx ?_;simp -dsimp[hbi,hxl,gx,g0,c1,hj,hej,c3,c4,show ¬(es.length:Int)≤j by omega,aP,LSh,LLn,Ln];refine .inr ⟨aC (by kernel_rfl),?_⟩;refine aN _ (bD ch fun _ _ h=>h) ?_;simp -dsimp[hw1,gx,g0,hj,hej,aP,LSh,LLn,Ln];refine .inr ⟨aC (by kernel_rfl),?_⟩
    have hE0:0≤(i:Int)*200000000000000:=by omega
    refine aG (W_loopM 115 0x7ffffffff80000000000000001040 (by simp[mB]<;>rfl) (σ:=Nat×List Int) (fun q=>q.1≤e.length∧(match nz m ws xa (e.drop q.1) q.2 with | none=>false | some ld'=>fJ ws es m b (l.drop (i+1)) ld' (sm+xa))=E∧ldOk n (i*200000000000000+q.1*1000000000000) q.2) (fun q=>e.length-q.1) (fun q=>[(79,.int .i64 q.1)]) (fun q=>H++[.buf 2 1 (inL q.2) false,.cells [.int .i64 j,.int .i64 xa]]) (0,ld) ⟨by simp,by rw[rk];exact hx,by simpa using hld⟩ (by simp) (by simp) (by simp) ?_);rintro⟨k,ld2⟩ ⟨hk,hy,hl2⟩ N2 Q2 hN2 hQ2;simp only at hk hy hl2 hN2
    have g9:(H++[B.buf 2 1 (inL ld2) false,B.cells [.int .i64 j,.int .i64 xa]])[H.length]?=some (B.buf 2 1 (inL ld2) false):=by simp
    have gx2:(H++[B.buf 2 1 (inL ld2) false,B.cells [.int .i64 j,.int .i64 xa]])[H.length+1]?=some (B.cells [.int .i64 j,.int .i64 xa]):=by simp
    by_cases hbk:k<e.length
    ·rw[rP hbk,nz]at hy;have hvn:=e3 e[k] (rQ hbk);obtain⟨v,hv⟩:∃v,v=e[k]:=⟨_,rfl⟩;rw[←hv]at hy hvn;have hev:=hv.symm;obtain⟨z1,z2⟩:=hl2.2 v (by omega);have hset:=hl2.set (A':=(i:Int)*200000000000000+((k+1:Nat):Int)*1000000000000) (by omega) (v:=v) (a:=xa) (by omega) (by omega) (by omega)
     have hgl:=fun h=>et (m:=ld2) (x:=v) h
     have hll2:=er ld2;have hl21:=hl2.1;have hst:=mS ld2 v (ld2.getD v 0+xa);obtain⟨z,hz⟩:∃z,z=ld2.getD v 0:=⟨_,rfl⟩;rw[←hz]at hgl hy hset hst z1 z2;have hw2:IntKind.i64.wrap (z+xa)=z+xa:=wrap64 (by omega) (by omega)
     have hvn2:v<n:=by omega
     have hs9:(H++[B.buf 2 1 (inL ld2) false,B.cells [.int .i64 j,.int .i64 xa]]).set H.length (B.buf 2 1 (inL (ld2.set v (z+xa))) false)=H++[B.buf 2 1 (inL (ld2.set v (z+xa))) false,B.cells [.int .i64 j,.int .i64 xa]]:=by simp[sS]
     refine wx ?_;simp -dsimp[hbk,hev,eN,aP,LSh,LLn,Ln];obtain⟨HH,hHH⟩:∃HH,HH=H++[B.buf 2 1 (inL ld2) false,B.cells [.int .i64 j,.int .i64 xa]]:=⟨_,rfl⟩;rw[←hHH]at g9 gx2 hs9 ⊢;refine aG (aW tok mixed [8] [] [] (by kernel_rfl) fun C K hC hK=>?_);simp -implicitDefEqProofs [g9,gx2,hgl,hll2,hl21,hvn2,hw2,hst,hs9,aP,LSh,LLn,Ln];refine hK _ _ ?_;have s4:=s.app [B.buf 2 1 (inL (ld2.set v (z+xa))) false,B.cells [.int .i64 j,.int .i64 xa]] (by intro bl h;rcases List.mem_cons.1 h with rfl | h;exact(rbB_buf1 (iG _)).2 trivial;rcases List.mem_cons.1 h with rfl | h;simp[rbB,rb,rb1];cases h);have q0:=s4.h0;have qm:=s4.hm
     have q9:(H++[B.buf 2 1 (inL (ld2.set v (z+xa))) false,B.cells [.int .i64 j,.int .i64 xa]])[H.length]?=some (B.buf 2 1 (inL (ld2.set v (z+xa))) false):=by simp
     have hgl4:=fun h=>et (m:=ld2.set v (z+xa)) (x:=v) h
     have hll4:=er (ld2.set v (z+xa));have hl41:=hset.1;rw[aU _ (by omega)]at hgl4
     have hat:=fun h=>bR (m:=m) (x:=v) h
     have hvw:v<ws.length:=by omega
     have hwl:=(am ws 0 hvw).symm;obtain⟨w,hw⟩:∃w,w=ws.getD v 0:=⟨_,rfl⟩;obtain⟨c,hc⟩:∃c,c=m.getD v 0:=⟨_,rfl⟩;rw[←hc]at hat hy;rw[←hw]at hwl hy;by_cases hc0:c=0
     ·subst hc0;by_cases hlt:w<z+xa
      ·rw[if_pos ⟨rfl,hlt⟩]at hy;simp only at hy;simp -dsimp[q0,qm,q9,hgl4,hll4,hl41,hat,hnl,hlm,hvn2,hvw,hwl,hlt,aE,L1,aP,LSh,LLn,Ln];refine .inr ⟨aC (by kernel_rfl),?_⟩;refine hQ2 _ _ _ ?_;simp -dsimp[aP,LSh,LLn,Ln];refine hQ _ _ _ ?_;simp -dsimp[aP,LSh,LLn,Ln];exact hy.symm
      ·rw[if_neg (fun h=>hlt h.2)]at hy;simp -dsimp[q0,qm,q9,hgl4,hll4,hl41,hat,hnl,hlm,hvn2,hvw,hwl,hlt,aE,L1,aP,LSh,LLn,Ln];refine .inr ⟨aC (by kernel_rfl),?_⟩;simp -dsimp[aH k (by omega),aP,LSh,LLn,Ln];refine hN2 (k+1,ld2.set v (z+xa)) _ _ ⟨by simp only;omega,hy,hset⟩ (by simp only;omega) (by simp) ⟨[],by simp⟩ (by simp;omega) s4.rb
     ·rw[if_neg (fun h=>hc0 h.1)]at hy;simp -dsimp[q0,qm,q9,hgl4,hll4,hl41,hat,hnl,hlm,hvn2,hc0,show ¬((c:Int)=0) by omega,aP,LSh,LLn,Ln];refine .inr ⟨aC (by kernel_rfl),?_⟩;simp -dsimp[aH k (by omega),aP,LSh,LLn,Ln];refine hN2 (k+1,ld2.set v (z+xa)) _ _ ⟨by simp only;omega,hy,hset⟩ (by simp only;omega) (by simp) ⟨[],by simp⟩ (by simp;omega) s4.rb
    ·have s3:=s.app [B.buf 2 1 (inL ld2) false] (by intro bl h;rcases List.mem_cons.1 h with rfl | h;exact(rbB_buf1 (iG _)).2 trivial;cases h);rw[rR (by omega),nz]at hy;simp only at hy;refine wx ?_;simp -dsimp[hbk,aP,LSh,LLn,Ln];refine hQ2 _ _ _ ?_;simp -dsimp[aH i (by omega),aP,LSh,LLn,Ln];refine hN (i+1,sm+xa,ld2) _ _ ⟨by simp only;omega,hy,⟨hl2.1,fun v hv=>?_⟩,by simp only;omega,by simp only;omega⟩ (by simp only;omega) (by simp) ⟨[B.cells [.int .i64 j,.int .i64 xa]],by simp⟩ (by simp;omega) s3.rb;have:=hl2.2 v hv;simp only;omega
  ·rw[rR (by omega),fJ]at hx;by_cases hq:b≤sm
   ·rw[decide_eq_true hq]at hx;refine wx ?_;simp -dsimp[hbi,aP,LSh,LLn,Ln];refine hQ _ _ _ ?_;simp -dsimp[hq,aP,LSh,LLn,Ln];exact hx.symm
   ·rw[decide_eq_false hq]at hx;refine wx ?_;simp -dsimp[hbi,aP,LSh,LLn,Ln];refine hQ _ _ _ ?_;simp -dsimp[hq,aP,LSh,LLn,Ln];exact hx.symm
 ·rw[show shE ws es m l b=false by unfold shE;rw[decide_eq_false hll,rZ]];refine aF tok Tryz.func158 rfl rfl ?_;refine wx ?_;simp -dsimp[Tryz.f158,rO,LSh,show(10000:Int)<l.length by omega]
end
end
end
end Go.Proofs.YtjogkbekekdkjaaGreatDoor
