/- JM26: own texts of this seat, joined and shortened by pack4.py: H3, H4, H6, H7, H13, H14, H15, H8, H9, H10, H11, H12. -/
import Derived.Test.YtjogkbekekdkjaaGreatDoorJM12
import Derived.Test.YtjogkbekekdkjaaGreatDoorJM13
import Derived.Test.YtjogkbekekdkjaaGreatDoorJM24
import Derived.Test.YtjogkbekekdkjaaGreatDoorJM25
set_option linter.unusedVariables false
set_option linter.unusedSimpArgs false
set_option maxRecDepth 100000
set_option maxHeartbeats 64000000
open Bool renaming and_eq_true→pC
open Int renaming toNat_natCast→rD
open List renaming replicate→ou,getElem_mem→ow,not_mem_nil→pA,drop_eq_getElem_cons→pB,mem_cons→pD,drop_of_length_le→pF,range→pG,getElem?_append_left→pH,length_append→pK,append_nil→pL,getElem?_append_right→pM,getElem?_set_self→pO,getElem?_set_ne→pR,drop_zero→pT,nil_append→pU,all_eq_true→pV,length_filter_le→pY,append_assoc→pb,length_map→pc,cons_append→pn,set_append_right→pr,range_succ→qI,length_set→qK,map_cons→qW,mem_or_eq_of_mem_set→qY,set_set→qf,any_cons→ql,filter_cons→rH,pairwise_cons→rI,filter_append→rS,set_getElem_self→rn,map_set→rx
open Nat renaming le_refl→pI,sub_self→qi
namespace Go.Proofs.YtjogkbekekdkjaaGreatDoor
section
open Go Go.AM
section
def eN(n:Nat):V:=.int .i64 (n:Int)
@[simp] theorem eN_pure (n:Nat):AM.Pure (eN n):=by simp[eN]
@[simp] theorem eN_oneV (n:Nat):cq (eN n)=true:=rfl
def Ln(f:Bool)(e:List Nat):V:=.lst 1 f (e.map eN)
@[simp] theorem Ln_pure (f:Bool) (e:List Nat):AM.Pure (Ln f e):=by simp[Ln]
@[simp] theorem Ln_oneV (f:Bool) (e:List Nat):cq (Ln f e)=true:=rfl
def LLn(g:Bool)(es:List (List Nat)):V:=.lst 1 g (es.map (Ln false))
@[simp] theorem LLn_pure (g:Bool) (es:List (List Nat)):AM.Pure (LLn g es):=by simp[LLn]
def nuL(m:List Nat):List V:=m.map eN
theorem gk(m:List Nat):(nuL m).length=m.length:=by simp[nuL]
theorem gw{m:List Nat}{x:Nat}(h:x<(nuL m).length):(nuL m)[x] = .int .i64 (m.getD x 0:Nat):=by
 have h2:x<m.length:=by simpa[nuL] using h
 simp[nuL,eN,h2]
theorem iT(m:List Nat)(x v:Nat):(nuL m).set x (.int .i64 (v:Int))=nuL (m.set x v):=by
 unfold nuL;rw[rx];rfl
theorem jD(m:List Nat):∀x∈nuL m,AM.Pure x∧cq x=true:=by
 intro x hx;obtain⟨n,_,rfl⟩:=List.mem_map.1 hx;exact⟨eN_pure n,eN_oneV n⟩
def inL(m:List Int):List V:=m.map au
theorem jP(m:List Int):(inL m).length=m.length:=by simp[inL]
theorem jQ{m:List Int}{x:Nat}(h:x<(inL m).length):(inL m)[x] = .int .i64 (m.getD x 0):=by
 have h2:x<m.length:=by simpa[inL] using h
 simp[inL,au,h2]
theorem nM(m:List Int)(x:Nat)(v:Int):(inL m).set x (.int .i64 v)=inL (m.set x v):=by
 unfold inL;rw[rx];rfl
theorem nz(m:List Int):∀x∈inL m,AM.Pure x∧cq x=true:=by
 intro x hx;obtain⟨n,_,rfl⟩:=List.mem_map.1 hx;exact⟨encI_pure n,encI_oneV n⟩
theorem rbM1{n m:Nat}(h:n≤m){v:V}(hv:rb1 n v):rb1 m v:=by
 cases v<;>simp only[rb1]at hv ⊢<;>first | exact hv | omega | trivial
theorem rbM{n m:Nat}(h:n≤m){v:V}(hv:rb n v):rb m v:=by
 cases v<;>simp only[rb]at hv ⊢<;>first | exact rbM1 h hv | exact fun c hc=>rbM1 h (hv c hc) | trivial
theorem rbBM{n m:Nat}(h:n≤m){bl:B}(hb:rbB n bl):rbB m bl:=by
 cases bl with
 | cells cs=>exact fun c hc=>rbM h (hb c hc)
 | map kk es=>exact fun p hp=>⟨rbM h (hb p hp).1,rbM h (hb p hp).2⟩
 | buf e z xs fz=>exact fun x hx c hc=>rbM h (hb x hx c hc)
theorem rbs_app{H G:List B}(hH:∀bl∈H,rbB H.length bl)(hG:∀bl∈G,rbB (H.length+G.length) bl):∀bl∈H++G,rbB (H++G).length bl:=fun bl hb=>by
 rw[pK]
 rcases List.mem_append.1 hb with h | h
 ·exact rbBM (by omega) (hH bl h)
 ·exact hG bl h
theorem oe{H:List B}{k:Nat}{b:B}(hH:∀bl∈H,rbB H.length bl)(hb:rbB H.length b):∀bl∈H.set k b,rbB (H.set k b).length bl:=fun bl h=>by
 rw[qK]
 rcases qY h with h | rfl
 ·exact hH bl h
 ·exact hb
theorem ke{P:Program}{f:FuncId}{args:List V}{H:List B}{v:V}(h:aZ P f args H fun r H'=>r=v∧∃G,H'=H++G)(hr:rb H.length v)(hb:∀bl∈H,rbB H.length bl):aZ P f args H fun r H'=>r=v∧H'=H:=by
 refine(kd (σ:=Unit) (ok:=fun _=>True) (rf:=fun _=>v) (Hf:=fun _=>H) (h.mono fun r H' ⟨a,G,b⟩=>⟨(),trivial,a,G,b⟩) (fun _ _=>pI _) (fun _ _=>hr) (fun _ _=>hb)).mono ?_;rintro r H' ⟨_,_,a,b⟩;exact⟨a,b⟩
theorem gz{P:Program}{f:FuncId}{args:List V}{H:List B}{K K':V→List B→Prop}(h:aZ P f args H K)(hk:∀r H',K r H'→K' r H'):aI P (.fn f []) args H K':=by
 simp only[aI,pL];exact h.mono hk
structure SAt (H:List B) (k0 km:Nat) (f g:Bool) (ws:List Int) (es:List (List Nat)) (n:Nat) (m:List Nat) (lf:Int):Prop where
 h0:H[k0]?=some (.cells [L1 f ws,LLn g es,.buf km 0 n n,.int .i64 lf])
 hm:H[km]?=some (.buf 3 1 (nuL m) false)
 rb:∀bl∈H,rbB H.length bl
 lm:m.length=n
 lw:ws.length=n
 n0:km≠k0
theorem SAt.app{H:List B}{k0 km:Nat}{f g:Bool}{ws:List Int}{es:List (List Nat)}{n:Nat}{m:List Nat}{lf:Int}(s:SAt H k0 km f g ws es n m lf)(G:List B)(hG:∀bl∈G,rbB (H.length+G.length) bl):SAt (H++G) k0 km f g ws es n m lf :=
 ⟨by rw[pH (aB s.h0)];exact s.h0,by rw[pH (aB s.hm)];exact s.hm,rbs_app s.rb hG,s.lm,s.lw,s.n0⟩
def ixN(p:Nat→Bool)(e:List Nat)(i:Nat):Int:=if h:i<e.length then(if p e[i] then(i:Int) else ixN p e (i+1)) else -1
termination_by e.length-i
theorem ixN_any(p:Nat→Bool)(e:List Nat)(i:Nat):decide (0≤ixN p e i)=(e.drop i).any p:=by
 fun_induction ixN p e i with
 | case1 i h h0=>rw[pB h,ql,h0];simp
 | case2 i h h0 ih=>rw[pB h,ql,ih];simp[h0]
 | case3 i h=>rw[pF (by omega)];rfl
theorem idxFuncN(H:List B)(fv:V)(p:Nat→Bool)(e:List Nat)(g:Bool)(hes:e.length≤1000000)(hH:∀bl∈H,rbB H.length bl)(hfv:rb H.length fv)
  (hp:∀v∈e,aI Tryz.prog fv [.int .i64 (v:Int)] H fun r H'=>r = .bool (p v)∧H'=H):aZ Tryz.prog 156 [Ln g e,fv] H fun r H'=>r = .int .i64 (ixN p e 0)∧H'=H:=by
 refine aK tok Tryz.func156 rfl rfl ?_;refine wx ?_;simp -dsimp[Tryz.f156,ou,Ln];refine aR (W_loopM 19 0x7ff30 (by simp[mB]<;>rfl) (σ:=Nat) (fun i=>ixN p e i=ixN p e 0) (fun i=>e.length-i) (fun i=>[(8,.int .i64 i)]) (fun _=>H) 0 rfl (by simp) rfl (by simp) ?_);intro i hx N Q hN hQ;by_cases hb:i<e.length
 ·rw[ixN,dif_pos hb]at hx;have hc:=hp e[i] (ow hb);cases hq:p e[i]
  ·rw[hq]at hc hx;refine wx ?_;simp -dsimp[hb,eN];refine hc.mono ?_;rintro r H' ⟨rfl,rfl⟩;simp -dsimp[aa i (by omega)];refine hN (i+1) _ _ (by simpa using hx) (by omega) (by simp) ⟨[],by simp⟩ (by simp;exact hfv) hH
  ·rw[hq]at hc hx;refine wx ?_;simp -dsimp[hb,eN];refine hc.mono ?_;rintro r H' ⟨rfl,rfl⟩;simp -dsimp[];refine hQ _ _ _ ?_;simp -dsimp[];simpa using hx
 ·rw[ixN,dif_neg hb]at hx;refine wx ?_;simp -dsimp[hb];refine hQ _ _ _ ?_;simp -dsimp[];simpa using hx
theorem contFuncN(H:List B)(fv:V)(p:Nat→Bool)(e:List Nat)(g:Bool)(hes:e.length≤1000000)(hH:∀bl∈H,rbB H.length bl)(hfv:rb H.length fv)
  (hp:∀v∈e,aI Tryz.prog fv [.int .i64 (v:Int)] H fun r H'=>r = .bool (p v)∧H'=H):aZ Tryz.prog 100 [Ln g e,fv] H fun r H'=>r = .bool (e.any p)∧H'=H:=by
 have h0:=ixN_any p e 0;rw[pT]at h0;have hc:=idxFuncN H fv p e g hes hH hfv hp;refine aK tok Tryz.func100 rfl rfl ?_;refine wx ?_;simp -dsimp[Tryz.f100,ou];refine(show aI Tryz.prog (.fn 156 []) _ H _ from by simpa[aI] using hc).mono ?_;rintro r H' ⟨rfl,rfl⟩;simp -dsimp[];rw[←h0]
def ixL(p:List Nat→Bool)(es:List (List Nat))(i:Nat):Int:=if h:i<es.length then(if p es[i] then(i:Int) else ixL p es (i+1)) else -1
termination_by es.length-i
theorem ixL_any(p:List Nat→Bool)(es:List (List Nat))(i:Nat):decide (0≤ixL p es i)=(es.drop i).any p:=by
 fun_induction ixL p es i with
 | case1 i h h0=>rw[pB h,ql,h0];simp
 | case2 i h h0 ih=>rw[pB h,ql,ih];simp[h0]
 | case3 i h=>rw[pF (by omega)];rfl
theorem idxFuncL(H:List B)(fv:V)(p:List Nat→Bool)(es:List (List Nat))(g:Bool)(hes:es.length≤1000000)(hH:∀bl∈H,rbB H.length bl)(hfv:rb H.length fv)
  (hp:∀m∈es,aI Tryz.prog fv [Ln false m] H fun r H'=>r = .bool (p m)∧H'=H):aZ Tryz.prog 155 [LLn g es,fv] H fun r H'=>r = .int .i64 (ixL p es 0)∧H'=H:=by
 refine aK tok Tryz.func155 rfl rfl ?_;refine wx ?_;simp -dsimp[Tryz.f155,ou,LLn];refine aR (W_loopM 19 0x7ff30 (by simp[mB]<;>rfl) (σ:=Nat) (fun i=>ixL p es i=ixL p es 0) (fun i=>es.length-i) (fun i=>[(8,.int .i64 i)]) (fun _=>H) 0 rfl (by simp) rfl (by simp) ?_);intro i hx N Q hN hQ;by_cases hb:i<es.length
 ·rw[ixL,dif_pos hb]at hx;have hc:=hp es[i] (ow hb);cases hq:p es[i]
  ·rw[hq]at hc hx;refine wx ?_;simp -dsimp[hb];refine hc.mono ?_;rintro r H' ⟨rfl,rfl⟩;simp -dsimp[aa i (by omega)];refine hN (i+1) _ _ (by simpa using hx) (by omega) (by simp) ⟨[],by simp⟩ (by simp;exact hfv) hH
  ·rw[hq]at hc hx;refine wx ?_;simp -dsimp[hb];refine hc.mono ?_;rintro r H' ⟨rfl,rfl⟩;simp -dsimp[];refine hQ _ _ _ ?_;simp -dsimp[];simpa using hx
 ·rw[ixL,dif_neg hb]at hx;refine wx ?_;simp -dsimp[hb];refine hQ _ _ _ ?_;simp -dsimp[];simpa using hx
theorem contFuncL(H:List B)(fv:V)(p:List Nat→Bool)(es:List (List Nat))(g:Bool)(hes:es.length≤1000000)(hH:∀bl∈H,rbB H.length bl)(hfv:rb H.length fv)
  (hp:∀m∈es,aI Tryz.prog fv [Ln false m] H fun r H'=>r = .bool (p m)∧H'=H):aZ Tryz.prog 98 [LLn g es,fv] H fun r H'=>r = .bool (es.any p)∧H'=H:=by
 have h0:=ixL_any p es 0;rw[pT]at h0;have hc:=idxFuncL H fv p es g hes hH hfv hp;refine aK tok Tryz.func98 rfl rfl ?_;refine wx ?_;simp -dsimp[Tryz.f98,ou];refine(show aI Tryz.prog (.fn 155 []) _ H _ from by simpa[aI] using hc).mono ?_;rintro r H' ⟨rfl,rfl⟩;simp -dsimp[];rw[←h0]
section
variable {H:List B} {k0 km:Nat} {f g:Bool} {ws:List Int} {es:List (List Nat)} {n:Nat} {m:List Nat} {lf:Int}
theorem has_h(s:SAt H k0 km f g ws es n m lf)(e:List Nat)(fe:Bool)(k:Nat)(hl:e.length≤1000000)(he:∀v∈e,v<n):
  aZ Tryz.prog 169 [.ptr k0 0,Ln fe e,.int .i64 k] H fun r H'=>r = .bool (kA m k e)∧H'=H:=by
 refine ke ?_ (by simp[rb,rb1]) s.rb;have hl0:k0<H.length:=aB s.h0;have s2:=s.app [B.cells [.ptr k0 0],B.cells [.int .i64 k]] (by simp[rbB,rb,rb1];omega)
 have g1:(H++[B.cells [.ptr k0 0],B.cells [.int .i64 k]])[H.length]?=some (B.cells [.ptr k0 0]):=by simp
 have g2:(H++[B.cells [.ptr k0 0],B.cells [.int .i64 k]])[H.length+1]?=some (B.cells [.int .i64 k]):=by simp
 have hnl:=gk m;have hlm:=s.lm
 have hcf:=contFuncN (H++[B.cells [.ptr k0 0],B.cells [.int .i64 k]]) (.fn 222 [.ptr H.length 0,.ptr (H.length+1) 0]) (fun v=>decide (m.getD v 0=k)) e fe hl s2.rb (by simp[rb,rb1]) (fun v hv=>by
  have hvn:=he v hv;obtain⟨HH,hHH⟩:∃HH,HH=H++[B.cells [.ptr k0 0],B.cells [.int .i64 k]]:=⟨_,rfl⟩;rw[←hHH]at s2 g1 g2 ⊢;have h0:=s2.h0;have hm:=s2.hm
  have hat:=fun h=>gw (m:=m) (x:=v) h
  obtain⟨c,hcv⟩:∃c,c=m.getD v 0:=⟨_,rfl⟩;rw[←hcv]at hat ⊢;simp only[aI,pn,pU];by_cases hq:c=k
  ·rw[decide_eq_true hq];subst hq;refine aK tok Tryz.func222 rfl rfl ?_;refine wx ?_;simp -dsimp[Tryz.f222,ou,h0,hm,g1,g2,hat,hnl,hlm,hvn];exact .inr (bN (by kernel_rfl))
  ·rw[decide_eq_false hq];refine aK tok Tryz.func222 rfl rfl ?_;refine wx ?_;simp -dsimp[Tryz.f222,ou,h0,hm,g1,g2,hat,hnl,hlm,hvn,show ¬((c:Int)=k) by omega]
   exact .inr (bN (by kernel_rfl)))
 refine aK tok Tryz.func169 rfl rfl ?_;refine wx ?_;simp -dsimp[Tryz.f169,ou];refine aI.mono (K:=fun r H'=>r = .bool (e.any fun v=>decide (m.getD v 0=k))∧H'=H++[B.cells [.ptr k0 0],B.cells [.int .i64 k]]) hcf ?_;rintro r H' ⟨rfl,rfl⟩;simp -dsimp[];rfl
theorem dead_h(s:SAt H k0 km f g ws es n m lf)(he:mf n es)(hes:es.length≤1000000)(hl:∀e∈es,e.length≤1000000):
  aZ Tryz.prog 150 [.ptr k0 0] H fun r H'=>r = .bool (kM m es)∧H'=H:=by
 refine ke ?_ (by simp[rb,rb1]) s.rb;have hl0:k0<H.length:=aB s.h0;have s2:=s.app [B.cells [.ptr k0 0]] (by simp[rbB,rb,rb1];omega)
 have g1:(H++[B.cells [.ptr k0 0]])[H.length]?=some (B.cells [.ptr k0 0]):=by simp
 have hcf:=contFuncL (H++[B.cells [.ptr k0 0]]) (.fn 215 [.ptr H.length 0]) (fun e=>!kA m 1 e&&!kA m 0 e) es g hes s2.rb (by simp[rb,rb1]) (fun e hm=>by
  obtain⟨HH,hHH⟩:∃HH,HH=H++[B.cells [.ptr k0 0]]:=⟨_,rfl⟩;rw[←hHH]at s2 g1 ⊢;have c1:=has_h s2 e false 1 (hl e hm) (he e hm).2.2;have c0:=has_h s2 e false 0 (hl e hm) (he e hm).2.2;simp only[aI,pn,pU]
  cases h1:kA m 1 e with
  | true =>
   rw[h1]at c1;refine aK tok Tryz.func215 rfl rfl ?_;refine wx ?_;simp -dsimp[Tryz.f215,ou,g1];refine gz c1 ?_;rintro r H' ⟨rfl,rfl⟩;simp -dsimp[]
  | false =>
   rw[h1]at c1;refine aK tok Tryz.func215 rfl rfl ?_;refine wx ?_;simp -dsimp[Tryz.f215,ou,g1];refine gz c1 ?_;rintro r H' ⟨rfl,rfl⟩;simp -dsimp[g1];refine gz c0 ?_;rintro r H' ⟨rfl,rfl⟩;simp -dsimp[]
 )
 have h0:=s2.h0;refine aK tok Tryz.func150 rfl rfl ?_;refine wx ?_;simp -dsimp[Tryz.f150,ou,h0];refine aI.mono (K:=fun r H'=>r = .bool (es.any fun e=>!kA m 1 e&&!kA m 0 e)∧H'=H++[B.cells [.ptr k0 0]]) hcf ?_;rintro r H' ⟨rfl,rfl⟩;simp -dsimp[];rfl
def oc(x:Shr):V:=.agg [.int .i64 x.e,.int .i64 x.a]
@[simp] theorem encSh_pure (x:Shr):AM.Pure (oc x):=by simp[oc]
@[simp] theorem encSh_oneV (x:Shr):cq (oc x)=true:=rfl
def LSh(f:Bool)(l:List Shr):V:=.lst 2 f (l.map oc)
@[simp] theorem LSh_pure (f:Bool) (l:List Shr):AM.Pure (LSh f l):=by simp[LSh]
def gl(x:Nde):V:=.agg [.int .i64 x.v,LSh false x.l]
@[simp] theorem encNd_pure (x:Nde):AM.Pure (gl x):=by simp[gl]
@[simp] theorem encNd_oneV (x:Nde):cq (gl x)=true:=rfl
def LNd(f:Bool)(l:List Nde):V:=.lst 2 f (l.map gl)
@[simp] theorem LNd_pure (f:Bool) (l:List Nde):AM.Pure (LNd f l):=by simp[LNd]
structure HsB (ws:List Int) (es:List (List Nat)):Prop where
 w:∀v<ws.length,1≤ws.getD v 0∧ws.getD v 0≤1000000
 n:ws.length≤200
 ne:es.length≤2000
 ed:mf ws.length es
theorem mf.len{n:Nat}{es:List (List Nat)}(h:mf n es):∀e∈es,e.length≤n:=fun e he=>by
 obtain⟨_,h2,h3⟩:=h e he;have hnd:e.Nodup:=h2.imp (fun h=>by omega);have:=hnd.length_le_of_subset (l₂:=pG n) (fun v hv=>List.mem_range.2 (h3 v hv));simpa using this
def ldOk(n:Nat)(A:Int)(ld:List Int):Prop:=ld.length=n∧∀v<n,0≤ld.getD v 0∧ld.getD v 0≤A
theorem ldOk.set{n:Nat}{A A':Int}{ld:List Int}(h:ldOk n A ld)(hA:A≤A'){v:Nat}(hv:v<n){a:Int}(h0:0≤ld.getD v 0+a)(h1:ld.getD v 0+a≤A'):ldOk n A' (ld.set v (ld.getD v 0+a)):=by
 refine⟨by simp[h.1],fun u hu=>?_⟩;by_cases e:v=u
 ·subst e;rw[gd _ (by rw[h.1];exact hv)];exact⟨h0,h1⟩
 ·rw[gg _ e];have:=h.2 u hu;exact⟨this.1,by omega⟩
end
end
section
section
variable {H:List B} {k0 km:Nat} {f g:Bool} {ws:List Int} {es:List (List Nat)} {n:Nat} {m:List Nat} {lf:Int}
theorem eD{es:List (List Nat)}{i:Nat}(h:i<es.length):es.getD i []=es[i]:=gf _ _ h
end
end
def encR(fl:Bool):Option (List Nde)→V
 | none=>.nilS
 | some l=>LNd fl l
@[simp] theorem encR_pure (fl:Bool) (o:Option (List Nde)):AM.Pure (encR fl o):=by cases o<;>simp[encR]
@[simp] theorem encR_oneV (fl:Bool) (o:Option (List Nde)):cq (encR fl o)=true:=by cases o<;>rfl
def gc(f g:Bool)(ws:List Int)(es:List (List Nat)):V:=.agg [L1 f ws,LLn g es]
@[simp] theorem encHn_pure (f g:Bool) (ws:List Int) (es:List (List Nat)):AM.Pure (gc f g ws es):=by simp[gc]
def cst(es:List (List Nat)):List (List Int):=es.map fun e=>e.map fun(v:Nat)=>(v:Int)
theorem LLi_cst(g:Bool)(es:List (List Nat)):LLi g (cst es)=LLn g es:=by
 simp[LLi,LLn,cst,L1,Ln,au,eN,Function.comp_def]
theorem encHs_cst(f g:Bool)(ws:List Int)(es:List (List Nat)):mr f g ws (cst es)=gc f g ws es:=by
 unfold mr gc;rw[LLi_cst]
def kF(ws:List Int)(es:List (List Nat)):Int:=validH ws (cst es)
theorem lG(n:Nat):∀(e:List Nat) (last:Int),kK n last (e.map fun(v:Nat)=>(v:Int))=true↔(∀v∈e,last<v∧v<n)∧e.Pairwise (· < ·)
 | [],last=>by simp[kK]
 | v::e,last=>by
  rw[qW,kK,pC,pC,lG n e v];simp only[decide_eq_true_eq,List.forall_mem_cons,rI];constructor
  ·rintro⟨⟨h1,h2⟩,h3,h4⟩;exact⟨⟨⟨h1,by omega⟩,fun u hu=>⟨by have:=(h3 u hu).1;omega,(h3 u hu).2⟩⟩,fun u hu=>by have:=(h3 u hu).1;omega,h4⟩
  ·rintro⟨⟨⟨h1,h2⟩,h3⟩,h4,h5⟩;exact⟨⟨h1,by omega⟩,fun u hu=>⟨by have:=h4 u hu;omega,(h3 u hu).2⟩,h5⟩
theorem iz{ws:List Int}{es:List (List Nat)} : kF ws es=0↔HsB ws es:=by
 unfold kF validH;constructor
 ·intro h;split at h
  ·cases h
  ·rename_i h1;split at h
   ·rename_i h2;unfold ng at h;split at h
    ·rename_i h3;rw[pV]at h2 h3;refine⟨fun v hv=>?_,by omega,by simp[cst]at h1;omega,fun e he=>?_⟩
     ·have:=h2 _ (ow hv);rw[gf _ _ hv];simpa[wOk] using this
     ·have:=h3 (e.map fun(v:Nat)=>(v:Int)) (List.mem_map.2 ⟨e,he,rfl⟩);rw[eOk,pC,lG]at this;exact⟨by rintro rfl;simp at this,this.1.2,fun v hv=>(this.1.1 v hv).2⟩
    ·cases h
   ·cases h
 ·rintro⟨h1,h2,h3,h4⟩;rw[if_neg (by simp[cst];omega),if_pos ?_,ng,if_pos ?_]
  ·rw[pV];intro x hx;obtain⟨e,he,rfl⟩:=List.mem_map.1 hx;obtain⟨e1,e2,e3⟩:=h4 e he;rw[eOk,pC,lG];refine⟨⟨fun v hv=>⟨by omega,e3 v hv⟩,e2⟩,?_⟩
   cases e with
   | nil=>exact absurd rfl e1
   | cons a b=>rfl
  ·rw[pV];intro w hw;obtain⟨i,hi,rfl⟩:=List.mem_iff_getElem.1 hw;have:=h1 i hi;rw[gf _ _ hi]at this;simpa[wOk] using this
theorem lq(ws:List Int)(es:List (List Nat))(f g:Bool)(hl:∀e∈es,e.length≤1000000):aE Tryz.prog 41 [gc f g ws es] fun r=>r = .int .i64 (kF ws es):=by
 have:=hsValid ws (cst es) f g (fun e he=>by obtain⟨e',h,rfl⟩:=List.mem_map.1 he;rw[pc];exact hl e' h)
 rwa [encHs_cst]at this
def nsH(H:List B)(f g:Bool)(ws:List Int)(es:List (List Nat))(lf:Int):List B:=H++[.cells [L1 f ws,LLn g es],.buf 3 1 (nuL (ou ws.length 0)) false,.cells [L1 f ws,LLn g es,.buf (H.length+1) 0 ws.length ws.length,.int .i64 lf]]
theorem nsH_at{H:List B}(hH:∀bl∈H,rbB H.length bl)(f g:Bool)(ws:List Int)(es:List (List Nat))(lf:Int):SAt (nsH H f g ws es lf) (H.length+2) (H.length+1) f g ws es ws.length (ou ws.length 0) lf:=by
 refine⟨by simp[nsH],by simp[nsH],?_,by simp,rfl,by omega⟩;refine rbs_app hH ?_;intro bl hb
 rcases List.mem_cons.1 hb with rfl | hb
 ·intro c hc;simp at hc;rcases hc with rfl | rfl<;>exact iN (by simp) rfl
 rcases List.mem_cons.1 hb with rfl | hb
 ·exact(rbB_buf1 (jD _)).2 trivial
 rcases List.mem_cons.1 hb with rfl | hb
 ·intro c hc;simp at hc;rcases hc with rfl | rfl | rfl | rfl
  ·exact iN (by simp) rfl
  ·exact iN (by simp) rfl
  ·simp[rb,rb1]
  ·trivial
 ·cases hb
theorem ml(H:List B)(f g:Bool)(ws:List Int)(es:List (List Nat))(lf:Int)(hn:ws.length≤200):
  aZ Tryz.prog 87 [gc f g ws es,.int .i64 lf] H fun r H'=>r = .ptr (H.length+2) 0∧H'=nsH H f g ws es lf:=by
 have g0:(H++[B.cells [L1 f ws,LLn g es]])[H.length]?=some (B.cells [L1 f ws,LLn g es]):=by simp
 have hr:ou ws.length (V.int .i64 0)=nuL (ou ws.length 0):=by simp[nuL,eN]
 refine aK tok Tryz.func87 rfl rfl ?_;refine wx ?_;simp -dsimp[Tryz.f87,ou,gc];refine aR (ao tok mixed [4,7] [(0,[1]),(5,[0])] [] (by kernel_rfl) fun C K hC hK=>?_);simp -implicitDefEqProofs [g0,L1,LLn,hr,show(8:Int)*ws.length≤281474976710656 by omega,show(ws.length:Int)≤9223372036854775807 by omega];refine hK _ _ ?_;simp -dsimp[];simp[nsH,L1,LLn]
def checkG(ws:List Int)(es:List (List Nat))(b:Int)(l:List Nde):Bool:=if kF ws es=0 then(if b < -1000000000000000∨1000000000000000<b then false else checkP ws es b l) else false
section
def scl(f g:Bool)(ws:List Int)(es:List (List Nat))(km n:Nat)(lf:Int):B:=.cells [L1 f ws,LLn g es,.buf km 0 n n,.int .i64 lf]
theorem scl_rb{N:Nat}(f g:Bool)(ws:List Int)(es:List (List Nat)){km:Nat}(n:Nat)(lf:Int)(h:km<N):rbB N (scl f g ws es km n lf):=by
 intro c hc;simp only[pD,pA,or_false]at hc
 rcases hc with rfl | rfl | rfl | rfl
 ·exact iN (by simp) rfl
 ·exact iN (by simp) rfl
 ·exact h
 ·trivial
section
variable {H:List B} {k0 km:Nat} {f g:Bool} {ws:List Int} {es:List (List Nat)} {n:Nat} {m:List Nat} {lf:Int}
theorem SAt.left(s:SAt H k0 km f g ws es n m lf)(lf':Int):SAt (H.set k0 (scl f g ws es km n lf')) k0 km f g ws es n m lf' :=
 ⟨by rw[pO (aB s.h0)];rfl,by rw[pR (Ne.symm s.n0)];exact s.hm,oe s.rb (scl_rb f g ws es n lf' (aB s.hm)),s.lm,s.lw,s.n0⟩
theorem spend_h(s:SAt H k0 km f g ws es n m lf)(h1 : -9000000000000000000≤lf)(h2:lf≤9000000000000000000):
  aZ Tryz.prog 149 [.ptr k0 0] H fun r H'=>r = .bool (decide (0≤lf-1))∧H'=H.set k0 (scl f g ws es km n (lf-1)):=by
 have h0:=s.h0;have hk0:k0<H.length:=aB s.h0;have s2:=s.left (lf-1);have h02:=s2.h0;have hw:IntKind.i64.wrap (lf-1)=lf-1:=wrap64 (by omega) (by omega);have hst:H.set k0 (B.cells [L1 f ws,LLn g es,.buf km 0 n n,.int .i64 (lf-1)])=H.set k0 (scl f g ws es km n (lf-1)):=rfl;by_cases hq:0≤lf-1
 ·rw[decide_eq_true hq];refine aK tok Tryz.func149 rfl rfl ?_;refine wx ?_;simp -dsimp[Tryz.f149,ou,h0,hw,hst,h02,hq,scl];omega
 ·rw[decide_eq_false hq];refine aK tok Tryz.func149 rfl rfl ?_;refine wx ?_;simp -dsimp[Tryz.f149,ou,h0,hw,hst,h02,hq,scl];omega
theorem branch_h(s:SAt H k0 km f g ws es n m lf)(hb:HsB ws es):
  aZ Tryz.prog 151 [.ptr k0 0] H fun r H'=>r = .int .i64 (brS es m)∧H'=H:=by
 refine ke ?_ (by simp[rb,rb1]) s.rb;have h0:=s.h0;have hm:=s.hm;have hnl:=gk m;have hlm:=s.lm;have hlw:=s.lw;have hk0:k0<H.length:=aB s.h0;have hkm:km<H.length:=aB s.hm
 have hn2:n≤200:=by have:=hb.n;omega
 have he2:=hb.ne;obtain⟨E,hE⟩:∃E,E=brS es m:=⟨_,rfl⟩;rw[←hE];unfold brS at hE;rw[hlm]at hE
 have hcr:∀c:List Int,rbB (H.length+1) (B.buf 3 1 (inL c) false):=fun c=>(rbB_buf1 (nz _)).2 trivial
 have sN:∀c:List Int,SAt (H++[B.buf 3 1 (inL c) false]) k0 km f g ws es n m lf:=fun c=>s.app [B.buf 3 1 (inL c) false] (by intro bl h;rcases List.mem_cons.1 h with rfl | h;exact hcr c;cases h)
 have hrep:ou n (V.int .i64 0)=inL (ou n 0):=by simp[inL,au]
 have h0r:=(sN (ou n 0)).h0;refine aK tok Tryz.func151 rfl rfl ?_;refine wx ?_;simp -dsimp[Tryz.f151,ou,hrep,h0r,h0,hm,hnl,hlm,show(8:Int)*n≤281474976710656 by omega,show(n:Int)≤9223372036854775807 by omega,LLn,Ln];refine aR (W_loopM 64 0xffffffffffe00150 (by simp[mB]<;>rfl) (σ:=Nat×List Int×Int) (fun p=>p.1≤es.length∧brF m (es.drop p.1) p.2.1 p.2.2=E∧ldOk n (p.1*200) p.2.1∧-1≤p.2.2∧p.2.2<n) (fun p=>es.length-p.1) (fun p=>[(21,.int .i64 p.1),(4,.int .i64 p.2.2)]) (fun p=>H++[.buf 3 1 (inL p.2.1) false]) (0,ou n 0,-1) ⟨by simp,by rw[pT];exact hE.symm,⟨by simp,fun v _=>by rw[mX];simp⟩,by simp,by simp only;omega⟩ (by simp) (by simp) (by simp) ?_);rintro⟨i,c,b⟩ ⟨hi,hx,hc,hb1,hb2⟩ N Q hN hQ;simp only at hi hx hc hb1 hb2 hN;by_cases hbi:i<es.length
 ·rw[pB hbi,brF]at hx;have hmem:=ow hbi;obtain⟨e1,e2,e3⟩:=hb.ed es[i] hmem;have e4:=hb.ed.len es[i] hmem;obtain⟨e,he⟩:∃e,e=es[i]:=⟨_,rfl⟩;rw[←he]at hx e1 e2 e3 e4;have hei:=he.symm;have s1:=sN c;have ch:=has_h s1 e false 1 (by omega) (fun v hv=>by have:=e3 v hv;omega);simp only[Ln]at ch
  cases hh:kA m 1 e with
  | true =>
   rw[hh]at ch;rw[if_pos hh]at hx;refine wx ?_;simp -dsimp[hbi,hei,LLn,Ln];refine gz ch ?_;rintro _ _ ⟨rfl,rfl⟩;simp -dsimp[aa i (by omega),LLn,Ln];refine hN (i+1,c,b) _ _ ⟨by simp only;omega,hx,⟨hc.1,fun v hv=>by have:=hc.2 v hv;simp only;omega⟩,hb1,hb2⟩ (by simp only;omega) (by simp) ⟨[],by simp⟩ (by simp;omega) s1.rb
  | false =>
   rw[hh]at ch;rw[if_neg (by simp[hh])]at hx;refine wx ?_;simp -dsimp[hbi,hei,LLn,Ln];refine gz ch ?_;rintro _ _ ⟨rfl,rfl⟩;simp -dsimp[LLn,Ln];refine aR (W_loopM 63 0x7fffffffc0000110 (by simp[mB]<;>rfl) (σ:=Nat×List Int×Int) (fun q=>q.1≤e.length∧brF m (es.drop (i+1)) (brE m (e.drop q.1) q.2.1 q.2.2).1 (brE m (e.drop q.1) q.2.1 q.2.2).2=E∧ldOk n (i*200+q.1) q.2.1∧-1≤q.2.2∧q.2.2<n) (fun q=>e.length-q.1) (fun q=>[(30,.int .i64 q.1),(4,.int .i64 q.2.2)]) (fun q=>H++[.buf 3 1 (inL q.2.1) false]) (0,c,b) ⟨by simp,by rw[pT];exact hx,by simpa using hc,hb1,hb2⟩ (by simp) (by simp) (by simp) ?_);rintro⟨k,c2,b2⟩ ⟨hk,hy,hc2,hb3,hb4⟩ N2 Q2 hN2 hQ2;simp only at hk hy hc2 hb3 hb4 hN2;have s2:=sN c2;by_cases hbk:k<e.length
   ·rw[pB hbk,brE]at hy;have hvn:=e3 e[k] (ow hbk);obtain⟨v,hv⟩:∃v,v=e[k]:=⟨_,rfl⟩;rw[←hv]at hy hvn;have hev:=hv.symm
    have hvn2:v<n:=by omega
    have g0:=s2.h0;have gm:=s2.hm
    have hat:=fun h=>gw (m:=m) (x:=v) h
    obtain⟨mc,hmc⟩:∃mc,mc=m.getD v 0:=⟨_,rfl⟩;rw[←hmc]at hat hy;by_cases h00:mc=0
    ·subst h00;rw[if_pos rfl]at hy
     have hgl:=fun h=>jQ (m:=c2) (x:=v) h
     have hll:=jP c2;have hl1:=hc2.1;obtain⟨z1,z2⟩:=hc2.2 v hvn2;have hset:=hc2.set (A':=(i:Int)*200+((k+1:Nat):Int)) (by omega) hvn2 (a:=1) (by omega) (by omega);have hst:=nM c2 v (c2.getD v 0+1)
     have g9:(H++[B.buf 3 1 (inL c2) false])[H.length]?=some (B.buf 3 1 (inL c2) false):=by simp
     obtain⟨c3,hc3⟩:∃c3,c3=c2.set v (c2.getD v 0+1):=⟨_,rfl⟩
     have hcv:c3.getD v 0=c2.getD v 0+1:=by rw[hc3,gd _ (by omega)]
     rw[←hc3]at hy hset hst;obtain⟨z,hz⟩:∃z,z=c2.getD v 0:=⟨_,rfl⟩;rw[←hz]at hgl hy hst z1 z2 hcv;have hw2:IntKind.i64.wrap (z+1)=z+1:=wrap64 (by omega) (by omega)
     have hs9:(H++[B.buf 3 1 (inL c2) false]).set H.length (B.buf 3 1 (inL c3) false)=H++[B.buf 3 1 (inL c3) false]:=by simp[pr]
     have s3:=sN c3
     have q9:(H++[B.buf 3 1 (inL c3) false])[H.length]?=some (B.buf 3 1 (inL c3) false):=by simp
     have hll3:=jP c3;have hl13:=hset.1
     have hgl3:=fun h=>jQ (m:=c3) (x:=v) h
     rw[hcv]at hgl3;by_cases hbn:b2<0
     ·rw[if_pos (.inl hbn)]at hy;refine wx ?_;simp -dsimp[hbk,hev,eN,g0,gm,hat,hnl,hlm,hvn2,g9,hgl,hll,hl1,hw2,hst,hs9,hbn,LLn,Ln];refine .inr ⟨bN (by kernel_rfl),?_⟩;simp -dsimp[aa k (by omega),LLn,Ln];refine hN2 (k+1,c3,v) _ _ ⟨by simp only;omega,hy,hset,by simp only;omega,by simp only;omega⟩ (by simp only;omega) (by simp) ⟨[],by simp⟩ (by simp;omega) s3.rb
     ·obtain⟨q,rfl⟩:∃q:Nat,b2=q:=⟨b2.toNat,by omega⟩
      have hqn:q<n:=by omega
      rw[rD]at hy
      have hgq:=fun h=>jQ (m:=c3) (x:=q) h
      obtain⟨y,hy2⟩:∃y,y=c3.getD q 0:=⟨_,rfl⟩;rw[←hy2]at hgq hy;by_cases hlt:y<z+1
      ·rw[if_pos (.inr hlt)]at hy;refine wx ?_;simp -dsimp[hbk,hev,eN,g0,gm,hat,hnl,hlm,hvn2,g9,hgl,hll,hl1,hw2,hst,hs9,hbn,q9,hgl3,hll3,hl13,hqn,hgq,hlt,LLn,Ln];refine .inr ⟨bN (by kernel_rfl),?_⟩;simp -dsimp[aa k (by omega),LLn,Ln];refine hN2 (k+1,c3,v) _ _ ⟨by simp only;omega,hy,hset,by simp only;omega,by simp only;omega⟩ (by simp only;omega) (by simp) ⟨[],by simp⟩ (by simp;omega) s3.rb
      ·rw[if_neg (by rintro(h | h)<;>omega)]at hy;refine wx ?_;simp -dsimp[hbk,hev,eN,g0,gm,hat,hnl,hlm,hvn2,g9,hgl,hll,hl1,hw2,hst,hs9,hbn,q9,hgl3,hll3,hl13,hqn,hgq,hlt,LLn,Ln];refine .inr ⟨bN (by kernel_rfl),?_⟩;simp -dsimp[aa k (by omega),LLn,Ln];refine hN2 (k+1,c3,q) _ _ ⟨by simp only;omega,hy,hset,by simp only;omega,by simp only;omega⟩ (by simp only;omega) (by simp) ⟨[],by simp⟩ (by simp;omega) s3.rb
    ·rw[if_neg h00]at hy;refine wx ?_;simp -dsimp[hbk,hev,eN,g0,gm,hat,hnl,hlm,hvn2,h00,show ¬((mc:Int)=0) by omega,LLn,Ln];simp -dsimp[aa k (by omega),LLn,Ln];refine hN2 (k+1,c2,b2) _ _ ⟨by simp only;omega,hy,⟨hc2.1,fun v hv=>by have:=hc2.2 v hv;simp only;omega⟩,hb3,hb4⟩ (by simp only;omega) (by simp) ⟨[],by simp⟩ (by simp;omega) s2.rb
   ·rw[show e.drop k=[] from pF (by omega),brE]at hy;refine wx ?_;simp -dsimp[hbk,LLn,Ln];refine hQ2 _ _ _ ?_;simp -dsimp[aa i (by omega),LLn,Ln];refine hN (i+1,c2,b2) _ _ ⟨by simp only;omega,hy,⟨hc2.1,fun v hv=>by have:=hc2.2 v hv;simp only;omega⟩,hb3,hb4⟩ (by simp only;omega) (by simp) ⟨[],by simp⟩ (by simp;omega) s2.rb
 ·rw[pF (by omega),brF]at hx;refine wx ?_;simp -dsimp[hbi,LLn,Ln];refine hQ _ _ _ ?_;simp -dsimp[LLn,Ln];exact hx
end
end
section
theorem rb_sh{N:Nat}(l:List Shr)(fz:Bool):rbB N (.buf 121 2 (l.map oc) fz):=(rbB_buf1 (fun x hx=>by obtain⟨y,_,rfl⟩:=List.mem_map.1 hx;exact⟨encSh_pure y,encSh_oneV y⟩)).2 trivial
section
variable {H:List B} {k0 km:Nat} {f g:Bool} {ws:List Int} {es:List (List Nat)} {n:Nat} {m:List Nat} {lf:Int}
def rmOk(n:Nat)(A:Int)(rm:List Int):Prop:=rm.length=n∧∀v<n,-A≤rm.getD v 0∧rm.getD v 0≤1000000
theorem rmOk.set{n:Nat}{A A':Int}{rm:List Int}(h:rmOk n A rm)(hA:A≤A'){v:Nat}(hv:v<n){a:Int}(h0 : -A'≤rm.getD v 0-a)(h1:rm.getD v 0-a≤1000000):rmOk n A' (rm.set v (rm.getD v 0-a)):=by
 refine⟨by simp[h.1],fun u hu=>?_⟩;by_cases e:v=u
 ·subst e;rw[gd _ (by rw[h.1];exact hv)];exact⟨h0,h1⟩
 ·rw[gg _ e];have:=h.2 u hu;exact⟨by omega,this.2⟩
theorem packing_h(s:SAt H k0 km f g ws es n m lf)(hb:HsB ws es):
  aZ Tryz.prog 112 [.ptr k0 0] H fun r H'=>r = .tup [LSh false (ib ws es m).1,.int .i64 (ib ws es m).2]∧H'=H:=by
 refine ke ?_ (by intro c hc;simp at hc;rcases hc with rfl | rfl;exact pure_rb1 (LSh_pure _ _) rfl;trivial) s.rb;have h0:=s.h0;have hm:=s.hm;have hnl:=gk m;have hlm:=s.lm;have hlw:=s.lw;have hk0:k0<H.length:=aB s.h0;have hkm:km<H.length:=aB s.hm
 have hn2:n≤200:=by have:=hb.n;omega
 have he2:=hb.ne;obtain⟨E,hE⟩:∃E,E=ib ws es m:=⟨_,rfl⟩;rw[←hE];unfold ib at hE;have cc:=mG ws f (by omega)
 have sN:∀(rm:List Int) (G:List B),(∀bl∈G,rbB (H.length+1+G.length) bl)→SAt (H++(B.buf 2 1 (inL rm) false::G)) k0 km f g ws es n m lf:=fun rm G hG=>s.app (B.buf 2 1 (inL rm) false::G) (by
  intro bl h
  rcases List.mem_cons.1 h with rfl | h
  ·exact(rbB_buf1 (nz _)).2 trivial
  ·exact rbBM (by simp;omega) (hG bl h))
 refine aK tok Tryz.func112 rfl rfl ?_;refine wx ?_;simp -dsimp[Tryz.f112,ou,h0,LLn,Ln];refine(mJ cc (by simp)).mono ?_;rintro r H' ⟨e0,z0,xs0,rfl,rfl,hp0,rfl,rfl,rfl⟩;have hin:ws.map au=inL ws:=rfl;have s1:=sN ws [] (by simp);have h01:=s1.h0
 have hil:(inL ws).length=n:=by rw[jP,hlw]
 simp -dsimp[hin,h01,hil,LLn,Ln];refine aR (iR 121 2 [5] (by simp) (W_loopM 81 0x1fffffffffffffc002be0 (by simp[mB]<;>rfl) (σ:=Nat×List Int×List Shr×Int) (fun p=>p.1≤es.length∧p.2.2.1++(iF m (es.drop p.1) p.1 p.2.1).1=E.1∧p.2.2.2+(iF m (es.drop p.1) p.1 p.2.1).2=E.2∧rmOk n (p.1*200000000) p.2.1∧(∀v<n,m.getD v 0=0→0≤p.2.1.getD v 0)∧0≤p.2.2.2∧p.2.2.2≤p.1*1000000∧p.2.2.1.length≤p.1) (fun p=>es.length-p.1) (fun p=>[(26,.int .i64 p.1),(5,.buf (H.length+1) 0 p.2.2.1.length p.2.2.1.length),(6,.int .i64 p.2.2.2)]) (fun p=>H++[.buf 2 1 (inL p.2.1) false,.buf 121 2 (p.2.2.1.map oc) false]) (0,ws,[],0) ⟨by simp,by rw[pT,pU];rw[hE],by rw[pT,Int.zero_add];rw[hE],⟨hlw,fun v hv=>by have:=hb.w v (by omega);simp only;omega⟩,fun v hv _=>by have:=hb.w v (by omega);simp only;omega,by simp,by simp,by simp⟩ (by simp) (by simp) (by simp) ?_));rintro⟨i,rm,out,sm⟩ ⟨hi,hx1,hx2,hr,hr0,hs0,hs1,ho⟩ N Q hN hQ;simp only at hi hx1 hx2 hr hr0 hs0 hs1 ho hN
 have g5:(H++[B.buf 2 1 (inL rm) false,B.buf 121 2 (out.map oc) false])[H.length+1]?=some (B.buf 121 2 (out.map oc) false):=by simp
 by_cases hbi:i<es.length
 ·rw[pB hbi,iF]at hx1 hx2;have hmem:=ow hbi;obtain⟨e1,e2,e3⟩:=hb.ed es[i] hmem;have e4:=hb.ed.len es[i] hmem;obtain⟨e,he⟩:∃e,e=es[i]:=⟨_,rfl⟩;rw[←he]at hx1 hx2 e1 e2 e3 e4;have hei:=he.symm;have s2:=sN rm [B.buf 121 2 (out.map oc) false] (by intro bl h;rcases List.mem_cons.1 h with rfl | h;exact rb_sh _ _;cases h);have ch:=has_h s2 e false 1 (by omega) (fun v hv=>by have:=e3 v hv;omega);simp only[Ln]at ch;have g0:=s2.h0;have gm:=s2.hm
  cases hh:kA m 1 e with
  | true =>
   rw[hh]at ch;rw[if_pos hh]at hx1 hx2;refine wx ?_;simp -dsimp[hbi,hei,LLn,Ln];refine gz ch ?_;rintro _ _ ⟨rfl,rfl⟩;simp -dsimp[aa i (by omega),LLn,Ln];refine hN (i+1,rm,out,sm) _ _ ⟨by simp only;omega,hx1,hx2,⟨hr.1,fun v hv=>by have:=hr.2 v hv;simp only;omega⟩,hr0,hs0,by simp only;omega,by simp only;omega⟩ (by simp only;omega) (by simp) ⟨[],by simp⟩ (by simp[L1];omega) s2.rb
  | false =>
   rw[hh]at ch;rw[if_neg (by simp[hh])]at hx1 hx2;obtain⟨q1,q2,q3,q4⟩:=nf (m:=m) e2 (fun v hv=>by have:=e3 v hv;omega) hr.1 hr0;obtain⟨A,hA⟩:∃A,A=jK m rm e 1000000:=⟨_,rfl⟩;rw[←hA]at hx1 hx2 q1 q2 q3 q4;refine wx ?_;simp -dsimp[hbi,hei,LLn,Ln];refine gz ch ?_;rintro _ _ ⟨rfl,rfl⟩;simp -dsimp[LLn,Ln];refine aR (W_loopM 55 0x7ffff000000a00 (by simp[mB]<;>rfl) (σ:=Nat×Int) (fun q=>q.1≤e.length∧jK m rm (e.drop q.1) q.2=A∧0≤q.2∧q.2≤1000000) (fun q=>e.length-q.1) (fun q=>[(36,.int .i64 q.1),(9,.int .i64 q.2)]) (fun _=>H++[.buf 2 1 (inL rm) false,.buf 121 2 (out.map oc) false]) (0,1000000) ⟨by simp,by rw[pT];exact hA.symm,by simp,by simp⟩ (by simp) (by simp) (by simp) ?_);rintro⟨k,a⟩ ⟨hk,hy,ha0,ha1⟩ N2 Q2 hN2 hQ2;simp only at hk hy ha0 ha1 hN2;by_cases hbk:k<e.length
   ·rw[pB hbk,jK]at hy;have hvn:=e3 e[k] (ow hbk);obtain⟨v,hv⟩:∃v,v=e[k]:=⟨_,rfl⟩;rw[←hv]at hy hvn;have hev:=hv.symm
    have hvn2:v<n:=by omega
    have hat:=fun h=>gw (m:=m) (x:=v) h
    have hgl:=fun h=>jQ (m:=rm) (x:=v) h
    have hll:=jP rm;have hl1:=hr.1
    have g9:(H++[B.buf 2 1 (inL rm) false,B.buf 121 2 (out.map oc) false])[H.length]?=some (B.buf 2 1 (inL rm) false):=by simp
    obtain⟨z1,z2⟩:=hr.2 v hvn2;have hr0v:=hr0 v hvn2;obtain⟨mc,hmc⟩:∃mc,mc=m.getD v 0:=⟨_,rfl⟩;rw[←hmc]at hat hy hr0v;obtain⟨z,hz⟩:∃z,z=rm.getD v 0:=⟨_,rfl⟩;rw[←hz]at hgl hy z1 z2 hr0v;by_cases h00:mc=0
    ·subst h00;rw[if_pos rfl]at hy;have hr0z:=hr0v rfl;by_cases hlt:z<a
     ·rw[show min a z=z by omega]at hy;refine wx ?_;simp -dsimp[hbk,hev,eN,g0,gm,hat,hnl,hlm,hvn2,g9,hgl,hll,hl1,hlt,LLn,Ln];simp -dsimp[aa k (by omega),hlt,LLn,Ln];refine hN2 (k+1,z) _ _ ⟨by simp only;omega,hy,hr0z,by simp only;omega⟩ (by simp only;omega) (by simp) ⟨[],by simp⟩ (by simp[L1];omega) s2.rb
     ·rw[show min a z=a by omega]at hy;refine wx ?_;simp -dsimp[hbk,hev,eN,g0,gm,hat,hnl,hlm,hvn2,g9,hgl,hll,hl1,hlt,LLn,Ln];simp -dsimp[aa k (by omega),hlt,LLn,Ln];refine hN2 (k+1,a) _ _ ⟨by simp only;omega,hy,ha0,ha1⟩ (by simp only;omega) (by simp) ⟨[],by simp⟩ (by simp[L1];omega) s2.rb
    ·rw[if_neg h00]at hy;refine wx ?_;simp -dsimp[hbk,hev,eN,g0,gm,hat,hnl,hlm,hvn2,h00,show ¬((mc:Int)=0) by omega,LLn,Ln];simp -dsimp[aa k (by omega),LLn,Ln];refine hN2 (k+1,a) _ _ ⟨by simp only;omega,hy,ha0,ha1⟩ (by simp only;omega) (by simp) ⟨[],by simp⟩ (by simp[L1];omega) s2.rb
   ·rw[show e.drop k=[] from pF (by omega),jK]at hy;subst hy;by_cases ha:a=0
    ·subst ha;rw[if_pos rfl]at hx1 hx2;refine wx ?_;simp -dsimp[hbk,LLn,Ln];refine hQ2 _ _ _ ?_;simp -dsimp[aa i (by omega),LLn,Ln];refine hN (i+1,rm,out,sm) _ _ ⟨by simp only;omega,hx1,hx2,⟨hr.1,fun v hv=>by have:=hr.2 v hv;simp only;omega⟩,hr0,hs0,by simp only;omega,by simp only;omega⟩ (by simp only;omega) (by simp) ⟨[],by simp⟩ (by simp[L1];omega) s2.rb
    ·rw[if_neg ha]at hx1 hx2;obtain⟨R,hR⟩:∃R,R=mP a e rm:=⟨_,rfl⟩;rw[←hR]at hx1 hx2 q1 q2;refine wx ?_;simp -dsimp[hbk,LLn,Ln];refine hQ2 _ _ _ ?_;simp -dsimp[ha,LLn,Ln];refine aR (W_loopM 71 0x7ff800000000002000 (by simp[mB]<;>rfl) (σ:=Nat×List Int) (fun q=>q.1≤e.length∧mP a (e.drop q.1) q.2=R∧rmOk n (i*200000000+q.1*1000000) q.2) (fun q=>e.length-q.1) (fun q=>[(59,.int .i64 q.1)]) (fun q=>H++[.buf 2 1 (inL q.2) false,.buf 121 2 (out.map oc) false]) (0,rm) ⟨by simp,by rw[pT];exact hR.symm,by simpa using hr⟩ (by simp) (by simp) (by simp) ?_);rintro⟨k3,rm3⟩ ⟨hk3,hy3,hr3⟩ N3 Q3 hN3 hQ3;simp only at hk3 hy3 hr3 hN3;by_cases hbk3:k3<e.length
     ·rw[pB hbk3,mP]at hy3;have hvn:=e3 e[k3] (ow hbk3);obtain⟨v,hv⟩:∃v,v=e[k3]:=⟨_,rfl⟩;rw[←hv]at hy3 hvn;have hev:=hv.symm
      have hvn2:v<n:=by omega
      have hgl:=fun h=>jQ (m:=rm3) (x:=v) h
      have hll:=jP rm3;have hl1:=hr3.1
      have g9:(H++[B.buf 2 1 (inL rm3) false,B.buf 121 2 (out.map oc) false])[H.length]?=some (B.buf 2 1 (inL rm3) false):=by simp
      obtain⟨z1,z2⟩:=hr3.2 v hvn2;have hset:=hr3.set (A':=(i:Int)*200000000+((k3+1:Nat):Int)*1000000) (by omega) hvn2 (a:=a) (by omega) (by omega);have hst:=nM rm3 v (rm3.getD v 0-a);obtain⟨rm4,hrm4⟩:∃rm4,rm4=rm3.set v (rm3.getD v 0-a):=⟨_,rfl⟩;rw[←hrm4]at hy3 hset hst;obtain⟨z,hz⟩:∃z,z=rm3.getD v 0:=⟨_,rfl⟩;rw[←hz]at hgl hst z1 z2;have hw2:IntKind.i64.wrap (z-a)=z-a:=wrap64 (by omega) (by omega)
      have hs9:(H++[B.buf 2 1 (inL rm3) false,B.buf 121 2 (out.map oc) false]).set H.length (B.buf 2 1 (inL rm4) false)=H++[B.buf 2 1 (inL rm4) false,B.buf 121 2 (out.map oc) false]:=by simp[pr]
      have s4:=sN rm4 [B.buf 121 2 (out.map oc) false] (by intro bl h;rcases List.mem_cons.1 h with rfl | h;exact rb_sh _ _;cases h);refine wx ?_;simp -dsimp[hbk3,hev,eN,hvn2,g9,hgl,hll,hl1,hw2,hst,hs9,LLn,Ln];simp -dsimp[aa k3 (by omega),LLn,Ln];refine hN3 (k3+1,rm4) _ _ ⟨by simp only;omega,hy3,hset⟩ (by simp only;omega) (by simp) ⟨[],by simp⟩ (by simp[L1];omega) s4.rb
     ·rw[show e.drop k3=[] from pF (by omega),mP]at hy3;subst hy3
      have g5b:(H++[B.buf 2 1 (inL rm3) false,B.buf 121 2 (out.map oc) false])[H.length+1]?=some (B.buf 121 2 (out.map oc) false):=by simp
      have hs5:(H++[B.buf 2 1 (inL rm3) false,B.buf 121 2 (out.map oc) false]).set (H.length+1) (B.buf 121 2 ((out++[(⟨(i:Int),a⟩:Shr)]).map oc) false)=H++[B.buf 2 1 (inL rm3) false,B.buf 121 2 ((out++[(⟨(i:Int),a⟩:Shr)]).map oc) false]:=by simp[pr]
      have hoa:out.map oc++[.agg [.int .i64 (i:Int),.int .i64 a]]=(out++[(⟨(i:Int),a⟩:Shr)]).map oc:=by simp[oc]
      have s6:=sN rm3 [B.buf 121 2 ((out++[(⟨(i:Int),a⟩:Shr)]).map oc) false] (by intro bl h;rcases List.mem_cons.1 h with rfl | h;exact rb_sh _ _;cases h);have hw6:IntKind.i64.wrap (sm+a)=sm+a:=wrap64 (by omega) (by omega);refine wx ?_;simp -dsimp[hbk3,LLn,Ln];refine hQ3 _ _ _ ?_;simp -dsimp[g5b,hoa,hs5,hw6,aa i (by omega),show out.length≤9223372036854775806 by omega,show(out.length+1)*16≤140737488355328 by omega,LLn,Ln];refine hN (i+1,rm3,out++[(⟨(i:Int),a⟩:Shr)],sm+a) _ _ ⟨by simp only;omega,by simp only[pb,pn,pU];exact hx1,by simp only;omega,⟨q1,fun v hv=>by have:=hr3.2 v hv;simp only;omega⟩,q2,by simp only;omega,by simp only;omega,by simp;omega⟩ (by simp only;omega) (by simp) ⟨[],by simp⟩ (by simp[L1];omega) s6.rb
 ·rw[show es.drop i=[] from pF (by omega),iF]at hx1 hx2;rw[pL]at hx1;rw[Int.add_zero]at hx2;refine gY (H.length+1) [5] g5 (by simp) ?_;refine wx ?_;simp -dsimp[hbi,LLn,Ln];refine hQ _ _ _ ?_;simp -dsimp[LLn,Ln];exact⟨by rw[←hx1];rfl,hx2⟩
end
end
section
def bcl(fl:Bool)(b:Bst):B:=.cells [.lst 1 fl (b.l.map eN),.int .i64 b.w]
theorem bcl_rb(N:Nat)(fl:Bool)(b:Bst):rbB N (bcl fl b):=by
 intro c hc;simp only[pD,pA,or_false]at hc
 rcases hc with rfl | rfl
 ·exact iN (Ln_pure fl b.l) rfl
 ·trivial
section
variable (H:List B) (k0 km kb:Nat) (f g:Bool) (ws:List Int) (es:List (List Nat))
def HS(lf:Int)(m:List Nat)(c:B):List B:=((H.set k0 (scl f g ws es km ws.length lf)).set km (.buf 3 1 (nuL m) false)).set kb c
end
structure BOk (H:List B) (k0 km kb:Nat):Prop where
 l0:k0<H.length
 lm:km<H.length
 lb:kb<H.length
 n0:km≠k0
 n1:kb≠k0
 n2:kb≠km
 rb:∀bl∈H,rbB H.length bl
section
variable {H:List B} {k0 km kb:Nat} {f g:Bool} {ws:List Int} {es:List (List Nat)} {lf:Int} {m:List Nat} {c:B}
theorem iB:(HS H k0 km kb f g ws es lf m c).length=H.length:=by simp[HS]
theorem BOk.at0(o:BOk H k0 km kb):(HS H k0 km kb f g ws es lf m c)[k0]?=some (.cells [L1 f ws,LLn g es,.buf km 0 ws.length ws.length,.int .i64 lf]):=by
 unfold HS;rw[pR o.n1,pR o.n0,pO o.l0];rfl
theorem BOk.atm(o:BOk H k0 km kb):(HS H k0 km kb f g ws es lf m c)[km]?=some (.buf 3 1 (nuL m) false):=by
 unfold HS;rw[pR o.n2,pO (by simp;exact o.lm)]
theorem BOk.atb(o:BOk H k0 km kb):(HS H k0 km kb f g ws es lf m c)[kb]?=some c:=by
 unfold HS;rw[pO (by simp;exact o.lb)]
theorem BOk.set0(o:BOk H k0 km kb)(lf':Int):(HS H k0 km kb f g ws es lf m c).set k0 (scl f g ws es km ws.length lf')=HS H k0 km kb f g ws es lf' m c:=by
 unfold HS;rw[List.set_comm _ _ o.n1,List.set_comm _ _ o.n0,qf]
theorem BOk.setm(o:BOk H k0 km kb)(m':List Nat):(HS H k0 km kb f g ws es lf m c).set km (.buf 3 1 (nuL m') false)=HS H k0 km kb f g ws es lf m' c:=by
 unfold HS;rw[List.set_comm _ _ o.n2,qf]
theorem BOk.setb(o:BOk H k0 km kb)(c':B):(HS H k0 km kb f g ws es lf m c).set kb c'=HS H k0 km kb f g ws es lf m c':=by
 unfold HS;rw[qf]
theorem BOk.rbs(o:BOk H k0 km kb)(hc:rbB H.length c):∀bl∈HS H k0 km kb f g ws es lf m c,rbB (HS H k0 km kb f g ws es lf m c).length bl:=by
 have h1:=oe o.rb (k:=k0) (b:=scl f g ws es km ws.length lf) (scl_rb f g ws es ws.length lf o.lm);have h2:=oe h1 (k:=km) (b:=.buf 3 1 (nuL m) false) ((rbB_buf1 (jD m)).2 trivial);exact oe h2 (by simpa using hc)
theorem BOk.sat(o:BOk H k0 km kb)(hc:rbB H.length c)(hm:m.length=ws.length):SAt (HS H k0 km kb f g ws es lf m c) k0 km f g ws es ws.length m lf :=
 ⟨o.at0,o.atm,o.rbs hc,hm,rfl,o.n0⟩
theorem lj{ws:List Int}{es:List (List Nat)}{P:Int×Bst} : ∀(k:Nat) (m:List Nat) (lf:Int) (b:Bst) (w:Int),mT ws es k m lf b w=some P→P.1≤lf
 | 0,_,_,_,_,h=>by simp[mT]at h
 | k+1,m,lf,b,w,h=>by
  rw[mT]at h;split at h
  ·cases h
  ·split at h
   ·cases h;simp only;omega
   ·split at h
    ·cases h;simp only;omega
    ·split at h
     ·cases h;simp only;omega
     ·split at h
      ·cases h
      ·rename_i p hp;have h1:=lj (P:=p) k _ _ _ _ hp;have h2:=lj (P:=P) k _ _ _ _ h;omega
theorem chosen_take(m:List Nat)(i:Nat)(h:i<m.length):(pG (i+1)).filter (fun v=>decide (m.getD v 0=1))=(pG i).filter (fun v=>decide (m.getD v 0=1))++if m.getD i 0=1 then [i] else []:=by
 rw[qI,rS];congr 1;by_cases hq:m.getD i 0=1
 ·rw[if_pos hq,rH,if_pos (decide_eq_true hq)];rfl
 ·rw[if_neg hq,rH,if_neg (by rw[decide_eq_false hq];simp)];rfl
def QB(H:List B)(k0 km kb:Nat)(f g:Bool)(ws:List Int)(es:List (List Nat))(lf:Int)(m:List Nat)(b:Bst)(H':List B):Prop:=∃fl,H'=HS H k0 km kb f g ws es lf m (bcl fl b)
def QT(H:List B)(k0 km kb:Nat)(f g:Bool)(ws:List Int)(es:List (List Nat))(lf:Int)(m:List Nat)(b:Bst)(H':List B):Prop:=∃fl G,H'=HS H k0 km kb f g ws es lf m (bcl fl b)++G
theorem min_cut{k:FuncId}{args:List V}{H0:List B}{b:Bst}(o:BOk H k0 km kb)(h0:H0.length≤H.length)(hq:aZ Tryz.prog k args H0 fun r H'=>r = .bool true∧QT H k0 km kb f g ws es lf m b H'):aZ Tryz.prog k args H0 fun r H'=>r = .bool true∧QB H k0 km kb f g ws es lf m b H':=by
 refine(kd (σ:=Bool) (ok:=fun _=>True) (rf:=fun _=>.bool true) (Hf:=fun x=>HS H k0 km kb f g ws es lf m (bcl x b)) (hq.mono fun r H' ⟨h1,fl,G,h2⟩=>⟨fl,trivial,h1,G,h2⟩) (fun x _=>by rw[iB];exact h0) (fun x _=>by simp[rb,rb1]) (fun x _=>o.rbs (bcl_rb _ _ _))).mono ?_;rintro r H' ⟨x,_,h1,h2⟩;exact⟨h1,x,h2⟩
def chT(m:List Nat)(i:Nat):List Nat:=(pG i).filter fun v=>decide (m.getD v 0=1)
theorem chT_succ(m:List Nat)(i:Nat)(h:i<m.length):chT m (i+1)=chT m i++if m.getD i 0=1 then [i] else []:=chosen_take m i h
theorem chT_len(m:List Nat)(i:Nat):(chT m i).length≤i:=by
 have:=pY (fun v=>decide (m.getD v 0=1)) (pG i);simpa[chT] using this
theorem HS_append(c:B)(X:B)(k:Nat)(Y:B)(h:k<H.length):(HS H k0 km kb f g ws es lf m c++[X]).set k Y=(HS H k0 km kb f g ws es lf m c).set k Y++[X]:=by
 rw[List.set_append_left _ _ (by rw[iB];exact h)]
theorem minimum_h(o:BOk H k0 km kb)(hb:HsB ws es)(k:Nat):∀(m:List Nat) (lf:Int) (b:Bst) (fl:Bool) (w:Int) (P:Int×Bst),m.length=ws.length→mT ws es k m lf b w=some P→-9000000000000000000≤P.1→lf≤9000000000000000000→0≤w→w≤4000000000000000000-1000000*(k:Int)→
  aZ Tryz.prog 88 [.ptr k0 0,.ptr kb 0,.int .i64 w] (HS H k0 km kb f g ws es lf m (bcl fl b)) fun r H'=>r = .bool true∧QB H k0 km kb f g ws es P.1 m P.2 H':=by
 induction k with
 | zero=>intro m lf b fl w P hm h;simp[mT]at h
 | succ k ih =>
  intro m lf b fl w P hm h hP hlf hw0 hw1;have hle:=lj _ _ _ _ _ h;rw[mT]at h
  have hnl:¬lf-1<0:=by
   intro hq;rw[if_pos hq]at h;cases h
  rw[if_neg hnl]at h;refine min_cut o (by rw[iB];exact pI _) ?_;have hcr:=bcl_rb H.length fl b;have s0:=o.sat (f:=f) (g:=g) (ws:=ws) (es:=es) (lf:=lf) (m:=m) hcr hm;have s1:=o.sat (f:=f) (g:=g) (ws:=ws) (es:=es) (lf:=lf-1) (m:=m) hcr hm;have c1:=spend_h s0 (by omega) hlf;rw[o.set0]at c1;rw[decide_eq_true (show 0≤lf-1 by omega)]at c1
  have hes:es.length≤1000000:=by have:=hb.ne;omega
  have hel:∀e∈es,e.length≤1000000:=fun e he=>by have:=hb.ed.len e he;have:=hb.n;omega
  have c2:=dead_h s1 hb.ed hes hel;have c3:=packing_h s1 hb;have c4:=branch_h s1 hb;have hpk:=jl (m:=m) hb.ed es 0 ws (by simp) rfl (fun v hv _=>by have:=(hb.w v hv).1;omega);obtain⟨_,_,_,_,p5,p6⟩:=hpk;have he2:=hb.ne;have gb:(HS H k0 km kb f g ws es (lf-1) m (bcl fl b))[kb]?=some (.cells [.lst 1 fl (b.l.map eN),.int .i64 b.w]):=o.atb;have g0:=s1.h0;have gm:=s1.hm;have hml:=gk m;obtain⟨D,hD⟩:∃D,D=kM m es:=⟨_,rfl⟩;rw[←hD]at c2 h
  change 0≤(ib ws es m).2 at p6
  change (ib ws es m).2≤_ at p5
  obtain⟨S,hS⟩:∃S,S=ib ws es m:=⟨_,rfl⟩;rw[←hS]at c3 h p5 p6;have hbr:=mL hb.ed m;obtain⟨br,hbre⟩:∃br,br=brS es m:=⟨_,rfl⟩;rw[←hbre]at c4 h hbr;have hw2:IntKind.i64.wrap (w+S.2)=w+S.2:=wrap64 (by omega) (by omega);refine aK tok Tryz.func88 rfl rfl ?_;refine wx ?_;simp -dsimp[Tryz.f88,ou];refine gz c1 ?_;rintro _ _ ⟨rfl,rfl⟩;simp -dsimp[];refine gz c2 ?_;rintro _ _ ⟨rfl,rfl⟩
  cases D with
  | true =>
   rw[if_pos rfl]at h;cases h;simp -dsimp[];exact⟨fl,[],by rw[pL]⟩
  | false =>
   rw[if_neg (by simp)]at h;simp -dsimp[];refine gz c3 ?_;rintro _ _ ⟨rfl,rfl⟩;by_cases hq:b.w≤w+S.2
   ·rw[if_pos hq]at h;cases h;simp -dsimp[gb,hw2,hq];exact⟨fl,[],by rw[pL]⟩
   ·rw[if_neg hq]at h;simp -dsimp[gb,hw2,hq];refine gz c4 ?_;rintro _ _ ⟨rfl,rfl⟩;by_cases hbn:br<0
    ·rw[if_pos hbn]at h;cases h;have hs1:(HS H k0 km kb f g ws es (lf-1) m (bcl fl b)).set kb (.cells [.nilS,.int .i64 b.w])=HS H k0 km kb f g ws es (lf-1) m (.cells [.nilS,.int .i64 b.w]):=o.setb _;have gb1:(HS H k0 km kb f g ws es (lf-1) m (.cells [.nilS,.int .i64 b.w]))[kb]?=some (.cells [.nilS,.int .i64 b.w]):=o.atb;have hs2:(HS H k0 km kb f g ws es (lf-1) m (.cells [.nilS,.int .i64 b.w])).set kb (.cells [.nilS,.int .i64 w])=HS H k0 km kb f g ws es (lf-1) m (.cells [.nilS,.int .i64 w]):=o.setb _;have gb2:(HS H k0 km kb f g ws es (lf-1) m (.cells [.nilS,.int .i64 w]))[kb]?=some (.cells [.nilS,.int .i64 w]):=o.atb;have g02:=o.at0 (f:=f) (g:=g) (ws:=ws) (es:=es) (lf:=lf-1) (m:=m) (c:=.cells [.nilS,.int .i64 w]);have gm2:=o.atm (f:=f) (g:=g) (ws:=ws) (es:=es) (lf:=lf-1) (m:=m) (c:=.cells [.nilS,.int .i64 w]);have hn2:=hb.n;simp -dsimp[hbn,gb,hs1,gb1,hs2,g02,gm2,hml,hm];refine aR (dV 3 1 [] kb [0] (cs:=[.nilS,.int .i64 w]) gb2 (by simp) (by simp) (W_loopM 65 0x1ffff800000000c00 (by simp[mB]<;>rfl) (σ:=Nat) (fun i=>i≤ws.length) (fun i=>ws.length-i) (fun i=>[(47,.int .i64 i)]) (fun i=>HS H k0 km kb f g ws es (lf-1) m (.cells [.buf H.length 0 (chT m i).length (chT m i).length,.int .i64 w])++[.buf 3 1 (nuL (chT m i)) false]) 0 (by omega) (by simp) (by simp[o.setb,iB,chT,nuL]) (by simp[iB]) ?_));intro i hi N Q hN hQ
     have kN:(HS H k0 km kb f g ws es (lf-1) m (.cells [.buf H.length 0 (chT m i).length (chT m i).length,.int .i64 w])++[B.buf 3 1 (nuL (chT m i)) false])[H.length]?=some (B.buf 3 1 (nuL (chT m i)) false):=by
      rw[pM (by rw[iB];exact pI _),iB];simp
     have kb1:(HS H k0 km kb f g ws es (lf-1) m (.cells [.buf H.length 0 (chT m i).length (chT m i).length,.int .i64 w])++[B.buf 3 1 (nuL (chT m i)) false])[kb]?=some (.cells [.buf H.length 0 (chT m i).length (chT m i).length,.int .i64 w]):=by
      rw[pH (by rw[iB];exact o.lb)];exact o.atb
     have km1:(HS H k0 km kb f g ws es (lf-1) m (.cells [.buf H.length 0 (chT m i).length (chT m i).length,.int .i64 w])++[B.buf 3 1 (nuL (chT m i)) false])[km]?=some (.buf 3 1 (nuL m) false):=by
      rw[pH (by rw[iB];exact o.lm)];exact o.atm
     have hcl:=chT_len m i;by_cases hbi:i<ws.length
     ·have hat:=fun h=>gw (m:=m) (x:=i) h
      have hsu:=chT_succ m i (by omega);obtain⟨mc,hmc⟩:∃mc,mc=m.getD i 0:=⟨_,rfl⟩;rw[←hmc]at hat hsu
      have srb:∀(j:Nat) (l:List Nat),∀bl∈HS H k0 km kb f g ws es (lf-1) m (.cells [.buf H.length 0 j j,.int .i64 w])++[B.buf 3 1 (nuL l) false],rbB (HS H k0 km kb f g ws es (lf-1) m (.cells [.buf H.length 0 j j,.int .i64 w])++[B.buf 3 1 (nuL l) false]).length bl:=fun j l=>by
       intro bl hbl;have h1:=oe o.rb (k:=k0) (b:=scl f g ws es km ws.length (lf-1)) (scl_rb f g ws es ws.length (lf-1) o.lm);have h2:=oe h1 (k:=km) (b:=.buf 3 1 (nuL m) false) ((rbB_buf1 (jD m)).2 trivial);rw[pK,iB]
       rcases List.mem_append.1 hbl with h3 | h3
       ·rcases qY h3 with h4 | rfl
        ·exact rbBM (by simp) (h2 bl h4)
        ·simp[rbB,rb,rb1]
       ·rcases List.mem_cons.1 h3 with rfl | h3
        ·exact(rbB_buf1 (jD _)).2 trivial
        ·cases h3
      by_cases hq1:mc=1
      ·subst hq1;rw[if_pos rfl]at hsu
       have hna:nuL (chT m i)++[.int .i64 (i:Int)]=nuL (chT m (i+1)):=by rw[hsu];simp[nuL,eN]
       have hln:(chT m (i+1)).length=(chT m i).length+1:=by rw[hsu];simp
       have hnl1:=gk (chT m i)
       have hsN:(HS H k0 km kb f g ws es (lf-1) m (.cells [.buf H.length 0 (chT m i).length (chT m i).length,.int .i64 w])++[B.buf 3 1 (nuL (chT m i)) false]).set H.length (B.buf 3 1 (nuL (chT m (i+1))) false)=HS H k0 km kb f g ws es (lf-1) m (.cells [.buf H.length 0 (chT m i).length (chT m i).length,.int .i64 w])++[B.buf 3 1 (nuL (chT m (i+1))) false]:=by
        rw[pr _ _ (by rw[iB];exact pI _),iB,qi];rfl
       have hsK:(HS H k0 km kb f g ws es (lf-1) m (.cells [.buf H.length 0 (chT m i).length (chT m i).length,.int .i64 w])++[B.buf 3 1 (nuL (chT m (i+1))) false]).set kb (.cells [.buf H.length 0 ((chT m i).length+1) ((chT m i).length+1),.int .i64 w])=HS H k0 km kb f g ws es (lf-1) m (.cells [.buf H.length 0 ((chT m i).length+1) ((chT m i).length+1),.int .i64 w])++[B.buf 3 1 (nuL (chT m (i+1))) false]:=by
        rw[HS_append _ _ _ _ o.lb,o.setb]
       have kb2:(HS H k0 km kb f g ws es (lf-1) m (.cells [.buf H.length 0 (chT m i).length (chT m i).length,.int .i64 w])++[B.buf 3 1 (nuL (chT m (i+1))) false])[kb]?=some (.cells [.buf H.length 0 (chT m i).length (chT m i).length,.int .i64 w]):=by
        rw[pH (by rw[iB];exact o.lb)];exact o.atb
       refine wx ?_;simp -dsimp[hbi,km1,hat,hml,hm,kb1,kN,hna,hnl1,hsN,hsK,kb2,aa i (by omega),show(chT m i).length≤9223372036854775806 by omega,show((chT m i).length+1)*8≤140737488355328 by omega];refine hN (i+1) _ _ (by omega) (by omega) (by simp[hln]) ⟨[],by simp[hln]⟩ ?_ (by simp only[hln];exact srb _ _);have h1:=o.l0;have h2:=o.lm;have h3:=o.lb;simp[iB,LSh];omega
      ·rw[if_neg hq1,pL]at hsu;refine wx ?_;simp -dsimp[hbi,km1,hat,hml,hm,hq1,show ¬((mc:Int)=1) by omega,aa i (by omega)];refine hN (i+1) _ _ (by omega) (by omega) (by simp[hsu]) ⟨[],by simp[hsu]⟩ ?_ (by simp only[hsu];exact srb _ _);have h1:=o.l0;have h2:=o.lm;have h3:=o.lb;simp[iB,LSh];omega
     ·obtain rfl:i=ws.length:=by omega
      have hnu:=gk (chT m ws.length);refine eI H.length [] kb [0] kN kb1 (by simp) (by simp[hnu]) ?_;refine wx ?_;simp -dsimp[hbi];refine hQ _ _ _ ?_;simp -dsimp[];refine⟨false,[B.buf 3 1 (nuL (chT m ws.length)) true],?_⟩;rw[pr _ _ (by rw[iB];exact pI _),iB,qi,show [B.buf 3 1 (nuL (chT m ws.length)) false].set 0 (B.buf 3 1 (nuL (chT m ws.length)) true)=[B.buf 3 1 (nuL (chT m ws.length)) true] from rfl,HS_append _ _ _ _ o.lb,o.setb];unfold bcl chosenL;rw[hm];rfl
    ·rw[if_neg hbn]at h
     rcases hbr with⟨hbr,_⟩ | ⟨hv1,hv2,hv3⟩
     ·exact absurd hbr hbn
     obtain⟨v,rfl⟩:∃v:Nat,br=v:=⟨br.toNat,by omega⟩;rw[rD]at hv1 hv3 h;have hwl:=(gf ws 0 hv1).symm;have hwb:=hb.w v hv1;obtain⟨wv,hwv⟩:∃wv,wv=ws.getD v 0:=⟨_,rfl⟩;rw[←hwv]at hwl hwb h;have hww:IntKind.i64.wrap (w+wv)=w+wv:=wrap64 (by omega) (by omega)
     have hm0:m.set v 0=m:=by
      have:m[v]'(by omega)=0:=by rw[←gf m 0 (by omega)];exact hv3
      conv=>rhs;rw[←rn (show v<m.length by omega)]
      rw[this]
     have hat:=fun h=>gw (m:=m) (x:=v) h
     rw[hv3]at hat
     have hat1:=fun h=>gw (m:=m.set v 1) (x:=v) h
     have hat2:=fun h=>gw (m:=m.set v 2) (x:=v) h
     have nl1:=gk (m.set v 1);have nl2:=gk (m.set v 2);rw[qK]at nl1 nl2;have hst1:(nuL m).set v (.int .i64 1)=nuL (m.set v 1):=iT m v 1;have hst2:(nuL (m.set v 1)).set v (.int .i64 2)=nuL (m.set v 2):=(iT (m.set v 1) v 2).trans (by rw[qf]);have hst3:(nuL (m.set v 2)).set v (.int .i64 0)=nuL m:=(iT (m.set v 2) v 0).trans (by rw[qf,hm0]);have k1:=o.setm (f:=f) (g:=g) (ws:=ws) (es:=es) (lf:=lf-1) (m:=m) (c:=bcl fl b) (m.set v 1);have k10:=o.at0 (f:=f) (g:=g) (ws:=ws) (es:=es) (lf:=lf-1) (m:=m.set v 1) (c:=bcl fl b)
     cases hp:mT ws es k (m.set v 1) (lf-1) b (w+wv) with
     | none=>rw[hp]at h;cases h
     | some p =>
      rw[hp]at h;simp only at h;have l1:=lj _ _ _ _ _ hp;have l2:=lj _ _ _ _ _ h;have i1:=ih (m.set v 1) (lf-1) b fl (w+wv) p (by simp[hm]) hp (by omega) (by omega) (by omega) (by omega);simp -dsimp[hbn,g0,gm,hat,hml,hm,hv1,hst1,k1,k10,hwl,hww,L1,au];refine gz i1 ?_;rintro _ _ ⟨rfl,fl1,rfl⟩;have j0:=o.at0 (f:=f) (g:=g) (ws:=ws) (es:=es) (lf:=p.1) (m:=m.set v 1) (c:=bcl fl1 p.2);have jm:=o.atm (f:=f) (g:=g) (ws:=ws) (es:=es) (lf:=p.1) (m:=m.set v 1) (c:=bcl fl1 p.2);have js:=o.setm (f:=f) (g:=g) (ws:=ws) (es:=es) (lf:=p.1) (m:=m.set v 1) (c:=bcl fl1 p.2) (m.set v 2);have i2:=ih (m.set v 2) p.1 p.2 fl1 w P (by simp[hm]) h hP (by omega) hw0 (by omega);simp -dsimp[j0,jm,hat1,nl1,hm,hv1,hst2,js];refine gz i2 ?_;rintro _ _ ⟨rfl,fl2,rfl⟩;have n0:=o.at0 (f:=f) (g:=g) (ws:=ws) (es:=es) (lf:=P.1) (m:=m.set v 2) (c:=bcl fl2 P.2);have nm:=o.atm (f:=f) (g:=g) (ws:=ws) (es:=es) (lf:=P.1) (m:=m.set v 2) (c:=bcl fl2 P.2);have ns:=o.setm (f:=f) (g:=g) (ws:=ws) (es:=es) (lf:=P.1) (m:=m.set v 2) (c:=bcl fl2 P.2) m;simp -dsimp[n0,nm,hat2,nl2,hm,hv1,hst3,ns];exact⟨fl2,[],by rw[pL]⟩
end
end
end
end Go.Proofs.YtjogkbekekdkjaaGreatDoor
section
namespace Go.Proofs.YtjogkbekekdkjaaGreatDoor
open Go Go.AM
end Go.Proofs.YtjogkbekekdkjaaGreatDoor
end
namespace Go.Proofs.YtjogkbekekdkjaaGreatDoor
section
open Go Go.AM
def encSt(fc fx:Bool)(ch ex:List Nat)(b:Int):V:=.agg [Ln fc ch,Ln fx ex,.int .i64 b]
@[simp] theorem encSt_pure (fc fx:Bool) (ch ex:List Nat) (b:Int):AM.Pure (encSt fc fx ch ex b):=by simp[encSt]
end
end Go.Proofs.YtjogkbekekdkjaaGreatDoor
section
namespace Go.Proofs.YtjogkbekekdkjaaGreatDoor
open Go Go.AM
end Go.Proofs.YtjogkbekekdkjaaGreatDoor
end
section
namespace Go.Proofs.YtjogkbekekdkjaaGreatDoor
open Go Go.AM
end Go.Proofs.YtjogkbekekdkjaaGreatDoor
end
section
namespace Go.Proofs.YtjogkbekekdkjaaGreatDoor
open Go Go.AM
end Go.Proofs.YtjogkbekekdkjaaGreatDoor
end
