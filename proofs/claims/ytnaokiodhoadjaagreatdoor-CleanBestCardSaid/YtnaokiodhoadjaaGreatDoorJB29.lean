/- JB29: texts H3, H4, H6, H7, H13, H14, joined and shortened by pack6.py. -/
import Derived.Test.YtnaokiodhoadjaaGreatDoorJB28
set_option linter.all false
set_option maxRecDepth 100000
set_option maxHeartbeats 64000000
open Int renaming toNat_natCast→wT
open List renaming replicate→tg,range→tr,nil_append→uL,cons_append→ur,any_cons→vi
namespace Go.Proofs.YtnaokiodhoadjaaGreatDoor
section
open Go Go.AM Go.Proofs.Tryz
section
def eN(n:Nat):V:=.int .i64 (n:Int)
@[simp] theorem eN_pure (n:Nat):AM.Pure (eN n):=by simp[eN]
@[simp] theorem eN_oneV (n:Nat):cC (eN n)=true:=rfl
def Ln(f:Bool)(e:List Nat):V:=.lst 1 f (e.map eN)
@[simp] theorem Ln_pure (f:Bool) (e:List Nat):AM.Pure (Ln f e):=by simp[Ln]
@[simp] theorem Ln_oneV (f:Bool) (e:List Nat):cC (Ln f e)=true:=rfl
def LLn(g:Bool)(es:List (List Nat)):V:=.lst 1 g (es.map (Ln false))
@[simp] theorem LLn_pure (g:Bool) (es:List (List Nat)):AM.Pure (LLn g es):=by simp[LLn]
def nuL(m:List Nat):List V:=m.map eN
def bJ(m:List Nat):(nuL m).length=m.length:=by simp[nuL]
def bm{m:List Nat}{x:Nat}(h:x<(nuL m).length):(nuL m)[x] = .int .i64 (m.getD x 0:Nat):=by
 have h2:x<m.length:=by simpa[nuL] using h
 simp[nuL,eN,h2]
def eR(m:List Nat)(x v:Nat):(nuL m).set x (.int .i64 (v:Int))=nuL (m.set x v):=by
 unfold nuL;rw[xJ];rfl
def eS(m:List Nat):∀x∈nuL m,AM.Pure x/\cC x=true:=by
 intro x hx;obtain⟨n,_,rfl⟩:=List.mem_map.1 hx;exact⟨eN_pure n,eN_oneV n⟩
def inL(m:List Int):List V:=m.map aG
def iG(m:List Int):(inL m).length=m.length:=by simp[inL]
def iH{m:List Int}{x:Nat}(h:x<(inL m).length):(inL m)[x] = .int .i64 (m.getD x 0):=by
 have h2:x<m.length:=by simpa[inL] using h
 simp[inL,aG,h2]
def qp(m:List Int)(x:Nat)(v:Int):(inL m).set x (.int .i64 v)=inL (m.set x v):=by
 unfold inL;rw[xJ];rfl
def sJ(m:List Int):∀x∈inL m,AM.Pure x/\cC x=true:=by
 intro x hx;obtain⟨n,_,rfl⟩:=List.mem_map.1 hx;exact⟨encI_pure n,encI_oneV n⟩
def rbM1{n m:Nat}(h:n<=m){v:V}(hv:rb1 n v):rb1 m v:=by
 cases v<;>simp only[rb1]at hv ⊢<;>first | exact hv | omega | trivial
def rbM{n m:Nat}(h:n<=m){v:V}(hv:rb n v):rb m v:=by
 cases v<;>simp only[rb]at hv ⊢<;>first | exact rbM1 h hv | exact fun c a=>rbM1 h (hv c a) | trivial
def rbBM{n m:Nat}(h:n<=m){bl:B}(hb:rbB n bl):rbB m bl:=by
 cases bl with
 | cells cs=>exact fun c a=>rbM h (hb c a)
 | map kk es=>exact fun p hp=>⟨rbM h (hb p hp).1,rbM h (hb p hp).2⟩
 | buf e z xs fz=>exact fun x hx c a=>rbM h (hb x hx c a)
def rbs_app{H G:List B}(a:∀bl∈H,rbB H.length bl)(b:∀bl∈G,rbB (H.length+G.length) bl):∀bl∈H++G,rbB (H++G).length bl:=fun bl hb=>by
 rw[uB]
 rcases List.mem_append.1 hb with h | h
 .exact rbBM ω (a bl h)
 .exact b bl h
def iC{H:List B}{k:Nat}{b:B}(a:∀bl∈H,rbB H.length bl)(hb:rbB H.length b):∀bl∈H.set k b,rbB (H.set k b).length bl:=fun bl h=>by
 rw[vb]
 rcases vj h with h | rfl
 .exact a bl h
 .exact hb
def lh{P:Program}{f:FuncId}{args:List V}{H:List B}{v:V}(h:ak P f args H fun r H'=>r=v/\∃G,H'=H++G)(hr:rb H.length v)(hb:∀bl∈H,rbB H.length bl):ak P f args H fun r H'=>r=v/\H'=H:=by
 refine(lg (σ:=Unit) (ok:=fun _=>True) (rf:=fun _=>v) (Hf:=fun _=>H) (h.mono fun r H' ⟨a,G,b⟩=>⟨(),trivial,a,G,b⟩) (fun _ _=>uA _) (fun _ _=>hr) (fun _ _=>hb)).mono ?_;rintro r H' ⟨_,_,a,b⟩;exact⟨a,b⟩
def bd{P:Program}{f:FuncId}{args:List V}{H:List B}{K K':V->List B->Prop}(h:ak P f args H K)(hk:∀r H',K r H'->K' r H'):aM P (.fn f []) args H K':=by
 simp only[aM,uC];exact h.mono hk
structure SAt (H:List B) (k0 km:Nat) (f g:Bool) (ws:List Int) (es:List (List Nat)) (n:Nat) (m:List Nat) (lf:Int):Prop where
 h0:H[k0]?=some (.cells [L1 f ws,LLn g es,.buf km 0 n n,.int .i64 lf])
 hm:H[km]?=some (.buf 3 1 (nuL m) false)
 rb:∀bl∈H,rbB H.length bl
 lm:m.length=n
 lw:ws.length=n
 n0:km≠k0
def SAt.app{H:List B}{k0 km:Nat}{f g:Bool}{ws:List Int}{es:List (List Nat)}{n:Nat}{m:List Nat}{lf:Int}(s:SAt H k0 km f g ws es n m lf)(G:List B)(a:∀bl∈G,rbB (H.length+G.length) bl):SAt (H++G) k0 km f g ws es n m lf :=
 ⟨by rw[tu (aB s.h0)];exact s.h0,by rw[tu (aB s.hm)];exact s.hm,rbs_app s.rb a,s.lm,s.lw,s.n0⟩
def ixN(p:Nat->Bool)(e:List Nat)(i:Nat):Int:=if h:i<e.length then(if p e[i] then(i:Int) else ixN p e (i+1)) else -1
termination_by e.length-i
def ixN_any(p:Nat->Bool)(e:List Nat)(i:Nat):decide (0<=ixN p e i)=(e.drop i).any p:=by
 fun_induction ixN p e i with
 | case1 i h h0=>rw[th h,vi,h0];simp
 | case2 i h h0 a=>rw[th h,vi,a];simp[h0]
 | case3 i h=>rw[tj ω];rfl
def idxFuncN(H:List B)(c:V)(p:Nat->Bool)(e:List Nat)(g:Bool)(h:e.length<=1000000)(j:∀bl∈H,rbB H.length bl)(b:rb H.length c)
  (hp:∀v∈e,aM prog c [.int .i64 (v:Int)] H fun r H'=>r = .bool (p v)/\H'=H):ak prog 164 [Ln g e,c] H fun r H'=>r = .int .i64 (ixN p e 0)/\H'=H:=by
 refine aH tok func164 rfl rfl ?_;refine wx ?_;simp -dsimp[f164,tg,Ln];refine aI (W_loopM 19 0x7ff30 zMx (σ:=Nat) (fun i=>ixN p e i=ixN p e 0) (fun i=>e.length-i) (fun i=>[(8,.int .i64 i)]) (fun _=>H) 0 rfl ζ rfl ζ ?_);intro i hx N Q f d;by_cases hb:i<e.length
 .rw[ixN,dif_pos hb]at hx;have a:=hp e[i] (ti hb);cases hq:p e[i]
  .rw[hq]at a hx;refine wx ?_;simp -dsimp[hb,eN];refine a.mono ?_;rintro r H' ⟨rfl,rfl⟩;simp -dsimp[aE i ω];refine f (i+1) _ _ (by simpa using hx) ω ζ ⟨[],ζ⟩ (by simp;exact b) j
  .rw[hq]at a hx;refine wx ?_;simp -dsimp[hb,eN];refine a.mono ?_;rintro r H' ⟨rfl,rfl⟩;simp -dsimp;apply d;simp -dsimp;simpa using hx
 .rw[ixN,dif_neg hb]at hx;refine wx ?_;simp -dsimp[hb];apply d;simp -dsimp;simpa using hx
def contFuncN(H:List B)(a:V)(p:Nat->Bool)(e:List Nat)(g:Bool)(c:e.length<=1000000)(f:∀bl∈H,rbB H.length bl)(b:rb H.length a)
  (hp:∀v∈e,aM prog a [.int .i64 (v:Int)] H fun r H'=>r = .bool (p v)/\H'=H):ak prog 103 [Ln g e,a] H fun r H'=>r = .bool (e.any p)/\H'=H:=by
 have h0:=ixN_any p e 0;rw[uG]at h0;have d:=idxFuncN H a p e g c f b hp;refine aH tok func103 rfl rfl ?_;refine wx ?_;simp -dsimp[f103,tg];refine(show aM prog (.fn 164 []) _ H _ from by simpa[aM] using d).mono ?_;rintro r H' ⟨rfl,rfl⟩;simp -dsimp;rw[<-h0]
def ixL(p:List Nat->Bool)(es:List (List Nat))(i:Nat):Int:=if h:i<es.length then(if p es[i] then(i:Int) else ixL p es (i+1)) else -1
termination_by es.length-i
def ixL_any(p:List Nat->Bool)(es:List (List Nat))(i:Nat):decide (0<=ixL p es i)=(es.drop i).any p:=by
 fun_induction ixL p es i with
 | case1 i h h0=>rw[th h,vi,h0];simp
 | case2 i h h0 a=>rw[th h,vi,a];simp[h0]
 | case3 i h=>rw[tj ω];rfl
def idxFuncL(H:List B)(c:V)(p:List Nat->Bool)(es:List (List Nat))(g:Bool)(f:es.length<=1000000)(h:∀bl∈H,rbB H.length bl)(b:rb H.length c)
  (hp:∀m∈es,aM prog c [Ln false m] H fun r H'=>r = .bool (p m)/\H'=H):ak prog 230 [LLn g es,c] H fun r H'=>r = .int .i64 (ixL p es 0)/\H'=H:=by
 refine aH tok func230 rfl rfl ?_;refine wx ?_;simp -dsimp[f230,tg,LLn];refine aI (W_loopM 19 0x7ff30 zMx (σ:=Nat) (fun i=>ixL p es i=ixL p es 0) (fun i=>es.length-i) (fun i=>[(8,.int .i64 i)]) (fun _=>H) 0 rfl ζ rfl ζ ?_);intro i hx N Q e d;by_cases hb:i<es.length
 .rw[ixL,dif_pos hb]at hx;have a:=hp es[i] (ti hb);cases hq:p es[i]
  .rw[hq]at a hx;refine wx ?_;simp -dsimp[hb];refine a.mono ?_;rintro r H' ⟨rfl,rfl⟩;simp -dsimp[aE i ω];refine e (i+1) _ _ (by simpa using hx) ω ζ ⟨[],ζ⟩ (by simp;exact b) h
  .rw[hq]at a hx;refine wx ?_;simp -dsimp[hb];refine a.mono ?_;rintro r H' ⟨rfl,rfl⟩;simp -dsimp;apply d;simp -dsimp;simpa using hx
 .rw[ixL,dif_neg hb]at hx;refine wx ?_;simp -dsimp[hb];apply d;simp -dsimp;simpa using hx
def contFuncL(H:List B)(a:V)(p:List Nat->Bool)(es:List (List Nat))(g:Bool)(c:es.length<=1000000)(e:∀bl∈H,rbB H.length bl)(b:rb H.length a)
  (hp:∀m∈es,aM prog a [Ln false m] H fun r H'=>r = .bool (p m)/\H'=H):ak prog 167 [LLn g es,a] H fun r H'=>r = .bool (es.any p)/\H'=H:=by
 have h0:=ixL_any p es 0;rw[uG]at h0;have d:=idxFuncL H a p es g c e b hp;refine aH tok func167 rfl rfl ?_;refine wx ?_;simp -dsimp[f167,tg];refine(show aM prog (.fn 230 []) _ H _ from by simpa[aM] using d).mono ?_;rintro r H' ⟨rfl,rfl⟩;simp -dsimp;rw[<-h0]
section
variable {H:List B} {k0 km:Nat} {f g:Bool} {ws:List Int} {es:List (List Nat)} {n:Nat} {m:List Nat} {lf:Int}
def has_h(s:SAt H k0 km f g ws es n m lf)(e:List Nat)(u:Bool)(k:Nat)(hl:e.length<=1000000)(he:∀v∈e,v<n):
  ak prog 169 [.ptr k0 0,Ln u e,.int .i64 k] H fun r H'=>r = .bool (ju m k e)/\H'=H:=by
 refine lh ?_ (by simp[rb,rb1]) s.rb;have w:k0<H.length:=aB s.h0;have j:=s.app [B.cells [.ptr k0 0],B.cells [.int .i64 k]] (by simp[rbB,rb,rb1];omega)
 have p:(H++[B.cells [.ptr k0 0],B.cells [.int .i64 k]])[H.length]?=some (B.cells [.ptr k0 0]):=by simp
 have l:(H++[B.cells [.ptr k0 0],B.cells [.int .i64 k]])[H.length+1]?=some (B.cells [.int .i64 k]):=by simp
 have i:=bJ m;have b:=s.lm
 have q:=contFuncN (H++[B.cells [.ptr k0 0],B.cells [.int .i64 k]]) (.fn 231 [.ptr H.length 0,.ptr (H.length+1) 0]) (fun v=>decide (m.getD v 0=k)) e u hl j.rb (by simp[rb,rb1]) (fun v hv=>by
  have d:=he v hv;obtain⟨y,o⟩:=ξ (H++[B.cells [.ptr k0 0],B.cells [.int .i64 k]]);rw[<-o]at j p l ⊢;have h0:=j.h0;have hm:=j.hm
  have a:=fun h=>bm (m:=m) (x:=v) h
  obtain⟨c,t⟩:=ξ (m.getD v 0);rw[<-t]at a ⊢;simp only[aM,ur,uL];by_cases hq:c=k
  .rw[decide_eq_true hq];subst hq;refine aH tok func231 rfl rfl ?_;refine wx ?_;simp -dsimp[f231,tg,h0,hm,p,l,a,i,b,d];exact .inr (cG υ)
  .rw[decide_eq_false hq];refine aH tok func231 rfl rfl ?_;refine wx ?_;simp -dsimp[f231,tg,h0,hm,p,l,a,i,b,d,(ω:¬((c:Int)=k))]
   exact .inr (cG υ))
 refine aH tok func169 rfl rfl ?_;refine wx ?_;simp -dsimp[f169,tg];refine aM.mono (K:=fun r H'=>r = .bool (e.any fun v=>decide (m.getD v 0=k))/\H'=H++[B.cells [.ptr k0 0],B.cells [.int .i64 k]]) q ?_;rintro r H' ⟨rfl,rfl⟩;simp -dsimp;rfl
def dead_h(s:SAt H k0 km f g ws es n m lf)(he:nC n es)(i:es.length<=1000000)(hl:∀e∈es,e.length<=1000000):
  ak prog 108 [.ptr k0 0] H fun r H'=>r = .bool (kj m es)/\H'=H:=by
 refine lh ?_ (by simp[rb,rb1]) s.rb;have j:k0<H.length:=aB s.h0;have a:=s.app [B.cells [.ptr k0 0]] (by simp[rbB,rb,rb1];omega)
 have c:(H++[B.cells [.ptr k0 0]])[H.length]?=some (B.cells [.ptr k0 0]):=by simp
 have h:=contFuncL (H++[B.cells [.ptr k0 0]]) (.fn 168 [.ptr H.length 0]) (fun e=>!ju m 1 e&&!ju m 0 e) es g i a.rb (by simp[rb,rb1]) (fun e hm=>by
  obtain⟨k,d⟩:=ξ (H++[B.cells [.ptr k0 0]]);rw[<-d]at a c ⊢;have b:=has_h a e false 1 (hl e hm) (he e hm).2.2;have c0:=has_h a e false 0 (hl e hm) (he e hm).2.2;simp only[aM,ur,uL]
  cases h1:ju m 1 e with
  | true =>
   rw[h1]at b;refine aH tok func168 rfl rfl ?_;refine wx ?_;simp -dsimp[f168,tg,c];refine bd b ?_;rintro r H' ⟨rfl,rfl⟩;simp -dsimp
  | false =>
   rw[h1]at b;refine aH tok func168 rfl rfl ?_;refine wx ?_;simp -dsimp[f168,tg,c];refine bd b ?_;rintro r H' ⟨rfl,rfl⟩;simp -dsimp[c];refine bd c0 ?_;rintro r H' ⟨rfl,rfl⟩;simp -dsimp
 )
 have h0:=a.h0;refine aH tok func108 rfl rfl ?_;refine wx ?_;simp -dsimp[f108,tg,h0];refine aM.mono (K:=fun r H'=>r = .bool (es.any fun e=>!ju m 1 e&&!ju m 0 e)/\H'=H++[B.cells [.ptr k0 0]]) h ?_;rintro r H' ⟨rfl,rfl⟩;simp -dsimp;rfl
def cL(x:Shr):V:=.agg [.int .i64 x.e,.int .i64 x.a]
@[simp] theorem encSh_pure (x:Shr):AM.Pure (cL x):=by simp[cL]
@[simp] theorem encSh_oneV (x:Shr):cC (cL x)=true:=rfl
def LSh(f:Bool)(l:List Shr):V:=.lst 2 f (l.map cL)
@[simp] theorem LSh_pure (f:Bool) (l:List Shr):AM.Pure (LSh f l):=by simp[LSh]
def iJ(x:Nde):V:=.agg [.int .i64 x.v,LSh false x.l]
@[simp] theorem encNd_pure (x:Nde):AM.Pure (iJ x):=by simp[iJ]
@[simp] theorem encNd_oneV (x:Nde):cC (iJ x)=true:=rfl
def LNd(f:Bool)(l:List Nde):V:=.lst 2 f (l.map iJ)
@[simp] theorem LNd_pure (f:Bool) (l:List Nde):AM.Pure (LNd f l):=by simp[LNd]
structure HsB (ws:List Int) (es:List (List Nat)):Prop where
 w:∀v<ws.length,1<=ws.getD v 0/\ws.getD v 0<=1000000
 n:ws.length<=200
 ne:es.length<=2000
 ed:nC ws.length es
def nC.len{n:Nat}{es:List (List Nat)}(h:nC n es):∀e∈es,e.length<=n:=fun e he=>by
 obtain⟨_,h2,a⟩:=h e he;have hnd:e.Nodup:=h2.imp (fun h=>by omega);have:=hnd.length_le_of_subset (l₂:=tr n) (fun v hv=>List.mem_range.2 (a v hv));simpa using this
def ldOk(n:Nat)(A:Int)(a:List Int):Prop:=a.length=n/\∀v<n,0<=a.getD v 0/\a.getD v 0<=A
theorem ldOk.set{n:Nat}{A A':Int}{b:List Int}(h:ldOk n A b)(hA:A<=A'){v:Nat}(hv:v<n){a:Int}(h0:0<=b.getD v 0+a)(h1:b.getD v 0+a<=A'):ldOk n A' (b.set v (b.getD v 0+a)):=by
 refine⟨by simp[h.1],fun u hu=>?_⟩;by_cases e:v=u
 .subst e;rw[ai _ (by rw[h.1];exact hv)];exact⟨h0,h1⟩
 .rw[aj _ e];have:=h.2 u hu;exact⟨this.1,ω⟩
end
end
section
section
variable {H:List B} {k0 km:Nat} {f g:Bool} {ws:List Int} {es:List (List Nat)} {n:Nat} {m:List Nat} {lf:Int}
def eD{es:List (List Nat)}{i:Nat}(h:i<es.length):es.getD i []=es[i]:=aY _ _ h
end
end
def encR(fl:Bool):Option (List Nde)->V
 | none=>.nilS
 | some l=>LNd fl l
@[simp] theorem encR_pure (fl:Bool) (o:Option (List Nde)):AM.Pure (encR fl o):=by cases o<;>simp[encR]
@[simp] theorem encR_oneV (fl:Bool) (o:Option (List Nde)):cC (encR fl o)=true:=by cases o<;>rfl
def aV(f g:Bool)(ws:List Int)(es:List (List Nat)):V:=.agg [L1 f ws,LLn g es]
@[simp] theorem encHn_pure (f g:Bool) (ws:List Int) (es:List (List Nat)):AM.Pure (aV f g ws es):=by simp[aV]
def cst(es:List (List Nat)):List (List Int):=es.map fun e=>e.map fun(v:Nat)=>(v:Int)
def LLi_cst(g:Bool)(es:List (List Nat)):LLi g (cst es)=LLn g es:=by
 simp[LLi,LLn,cst,L1,Ln,aG,eN,Function.comp_def]
def encHs_cst(f g:Bool)(ws:List Int)(es:List (List Nat)):jl f g ws (cst es)=aV f g ws es:=by
 unfold jl aV;rw[LLi_cst]
def fN(ws:List Int)(es:List (List Nat)):Int:=oh ws (cst es)
theorem mq(n:Nat):∀(e:List Nat) (a:Int),gn n a (e.map fun(v:Nat)=>(v:Int))=true↔(∀v∈e,a<v/\v<n)/\e.Pairwise (· < ·)
 | [],a=>by simp[gn]
 | v::e,a=>by
  rw[vW,gn,tt,tt,mq n e v];simp only[decide_eq_true_eq,List.forall_mem_cons,wy];constructor
  .rintro⟨⟨h1,h2⟩,b,c⟩;exact⟨⟨⟨h1,ω⟩,fun u hu=>⟨by have:=(b u hu).1;omega,(b u hu).2⟩⟩,fun u hu=>by have:=(b u hu).1;omega,c⟩
  .rintro⟨⟨⟨h1,h2⟩,b⟩,c,d⟩;exact⟨⟨h1,ω⟩,fun u hu=>⟨by have:=c u hu;omega,(b u hu).2⟩,d⟩
def ek{ws:List Int}{es:List (List Nat)} : fN ws es=0↔HsB ws es:=by
 unfold fN oh;constructor
 .intro h;split at h
  .cases h
  .rename_i h1;split at h
   .rename_i h2;unfold kJ at h;split at h
    .rename_i c;rw[uZ]at h2 c;refine⟨fun v hv=>?_,ω,by simp[cst]at h1;omega,fun e he=>?_⟩
     .have:=h2 _ (ti hv);rw[aY _ _ hv];simpa[wOk] using this
     .have:=c (e.map fun(v:Nat)=>(v:Int)) (List.mem_map.2 ⟨e,he,rfl⟩);rw[eOk,tt,mq]at this;exact⟨by rintro rfl;simp at this,this.1.2,fun v hv=>(this.1.1 v hv).2⟩
    .cases h
   .cases h
 .rintro⟨h1,h2,c,k⟩;rw[if_neg (by simp[cst];omega),if_pos ?_,kJ,if_pos ?_]
  .rw[uZ];intro x hx;obtain⟨e,he,rfl⟩:=List.mem_map.1 hx;obtain⟨j,d,f⟩:=k e he;rw[eOk,tt,mq];refine⟨⟨fun v hv=>⟨ω,f v hv⟩,d⟩,?_⟩
   cases e with
   | nil=>exact absurd rfl j
   | cons a b=>rfl
  .rw[uZ];intro w g;obtain⟨i,hi,rfl⟩:=List.mem_iff_getElem.1 g;have:=h1 i hi;rw[aY _ _ hi]at this;simpa[wOk] using this
def np(ws:List Int)(es:List (List Nat))(f g:Bool)(hl:∀e∈es,e.length<=1000000):aK prog 59 [aV f g ws es] fun r=>r = .int .i64 (fN ws es):=by
 have:=hsValid ws (cst es) f g (fun e he=>by obtain⟨e',h,rfl⟩:=List.mem_map.1 he;rw[ud];exact hl e' h)
 rwa [encHs_cst]at this
def nsH(H:List B)(f g:Bool)(ws:List Int)(es:List (List Nat))(lf:Int):List B:=H++[.cells [L1 f ws,LLn g es],.buf 3 1 (nuL (tg ws.length 0)) false,.cells [L1 f ws,LLn g es,.buf (H.length+1) 0 ws.length ws.length,.int .i64 lf]]
def nsH_at{H:List B}(b:∀bl∈H,rbB H.length bl)(f g:Bool)(ws:List Int)(es:List (List Nat))(lf:Int):SAt (nsH H f g ws es lf) (H.length+2) (H.length+1) f g ws es ws.length (tg ws.length 0) lf:=by
 refine⟨by simp[nsH],by simp[nsH],?_,ζ,rfl,ω⟩;refine rbs_app b ?_;intro bl hb
 rcases List.mem_cons.1 hb with rfl | hb
 .intro c a;simp at a;rcases a with rfl | rfl<;>exact cT ζ rfl
 rcases List.mem_cons.1 hb with rfl | hb
 .exact(rbB_buf1 (eS _)).2 trivial
 rcases List.mem_cons.1 hb with rfl | hb
 .intro c a;simp at a;rcases a with rfl | rfl | rfl | rfl
  .exact cT ζ rfl
  .exact cT ζ rfl
  .simp[rb,rb1]
  .trivial
 .cases hb
def pq(H:List B)(f g:Bool)(ws:List Int)(es:List (List Nat))(lf:Int)(hn:ws.length<=200):
  ak prog 62 [aV f g ws es,.int .i64 lf] H fun r H'=>r = .ptr (H.length+2) 0/\H'=nsH H f g ws es lf:=by
 have b:(H++[B.cells [L1 f ws,LLn g es]])[H.length]?=some (B.cells [L1 f ws,LLn g es]):=by simp
 have hr:tg ws.length (V.int .i64 0)=nuL (tg ws.length 0):=by simp[nuL,eN]
 refine aH tok func62 rfl rfl ?_;refine wx ?_;simp -dsimp[f62,tg,aV];refine aI (ae tok mixed [4,7] [(0,[1]),(5,[0])] [] υ fun C K c a=>?_);simp -implicitDefEqProofs [b,L1,LLn,hr,(ω:(8:Int)*ws.length<=281474976710656),(ω:(ws.length:Int)<=9223372036854775807)];apply a;simp -dsimp;simp[nsH,L1,LLn]
def pZ(ws:List Int)(es:List (List Nat))(b:Int)(l:List Nde):Bool:=if fN ws es=0 then(if b < -1000000000000000\/1000000000000000<b then false else checkP ws es b l) else false
section
def scl(f g:Bool)(ws:List Int)(es:List (List Nat))(km n:Nat)(lf:Int):B:=.cells [L1 f ws,LLn g es,.buf km 0 n n,.int .i64 lf]
def scl_rb{N:Nat}(f g:Bool)(ws:List Int)(es:List (List Nat)){km:Nat}(n:Nat)(lf:Int)(h:km<N):rbB N (scl f g ws es km n lf):=by
 intro c a;simp only[tw,tq,or_false]at a
 rcases a with rfl | rfl | rfl | rfl
 .exact cT ζ rfl
 .exact cT ζ rfl
 .exact h
 .trivial
section
variable {H:List B} {k0 km:Nat} {f g:Bool} {ws:List Int} {es:List (List Nat)} {n:Nat} {m:List Nat} {lf:Int}
def SAt.left(s:SAt H k0 km f g ws es n m lf)(a:Int):SAt (H.set k0 (scl f g ws es km n a)) k0 km f g ws es n m a :=
 ⟨by rw[uJ (aB s.h0)];rfl,by rw[uH (Ne.symm s.n0)];exact s.hm,iC s.rb (scl_rb f g ws es n a (aB s.hm)),s.lm,s.lw,s.n0⟩
def spend_h(s:SAt H k0 km f g ws es n m lf)(h1 : -9000000000000000000<=lf)(h2:lf<=9000000000000000000):
  ak prog 107 [.ptr k0 0] H fun r H'=>r = .bool (decide (0<=lf-1))/\H'=H.set k0 (scl f g ws es km n (lf-1)):=by
 have h0:=s.h0;have d:k0<H.length:=aB s.h0;have e:=s.left (lf-1);have a:=e.h0;have c:IntKind.i64.wrap (lf-1)=lf-1:=wrap64 ω ω;have b:H.set k0 (B.cells [L1 f ws,LLn g es,.buf km 0 n n,.int .i64 (lf-1)])=H.set k0 (scl f g ws es km n (lf-1)):=rfl;by_cases hq:0<=lf-1
 .rw[decide_eq_true hq];refine aH tok func107 rfl rfl ?_;refine wx ?_;simp -dsimp[f107,tg,h0,c,b,a,hq,scl];omega
 .rw[decide_eq_false hq];refine aH tok func107 rfl rfl ?_;refine wx ?_;simp -dsimp[f107,tg,h0,c,b,a,hq,scl];omega
def branch_h(s:SAt H k0 km f g ws es n m lf)(hb:HsB ws es):
  ak prog 110 [.ptr k0 0] H fun r H'=>r = .int .i64 (brS es m)/\H'=H:=by
 refine lh ?_ (by simp[rb,rb1]) s.rb;have h0:=s.h0;have hm:=s.hm;have G:=bJ m;have A:=s.lm;have bx:=s.lw;have br:k0<H.length:=aB s.h0;have bz:km<H.length:=aB s.hm
 have bi:n<=200:=by have:=hb.n;omega
 have bv:=hb.ne;obtain⟨E,hE⟩:=ξ (brS es m);rw[<-hE];unfold brS at hE;rw[A]at hE
 have be:∀c:List Int,rbB (H.length+1) (B.buf 3 1 (inL c) false):=fun c=>(rbB_buf1 (sJ _)).2 trivial
 have sN:∀c:List Int,SAt (H++[B.buf 3 1 (inL c) false]) k0 km f g ws es n m lf:=fun c=>s.app [B.buf 3 1 (inL c) false] (by intro bl h;rcases List.mem_cons.1 h with rfl | h;exact be c;cases h)
 have ay:tg n (V.int .i64 0)=inL (tg n 0):=by simp[inL,aG]
 have a8:=(sN (tg n 0)).h0;refine aH tok func110 rfl rfl ?_;refine wx ?_;simp -dsimp[f110,tg,ay,a8,h0,hm,G,A,(ω:(8:Int)*n<=281474976710656),(ω:(n:Int)<=9223372036854775807),LLn,Ln];refine aI (W_loopM 64 0xffffffffffe00150 zMx (σ:=Nat×List Int×Int) (fun p=>p.1<=es.length/\brF m (es.drop p.1) p.2.1 p.2.2=E/\ldOk n (p.1*200) p.2.1/\-1<=p.2.2/\p.2.2<n) (fun p=>es.length-p.1) (fun p=>[(21,.int .i64 p.1),(4,.int .i64 p.2.2)]) (fun p=>H++[.buf 3 1 (inL p.2.1) false]) (0,tg n 0,-1) ⟨ζ,by rw[uG];exact hE.symm,⟨ζ,fun v _=>by rw[pI];simp⟩,ζ,θ⟩ ζ ζ ζ ?_);rintro⟨i,c,b⟩ ⟨hi,hx,hc,W,al⟩ N Q hN hQ;simp only at hi hx hc W al hN;by_cases D:i<es.length
 .rw[th D,brF]at hx;have R:=ti D;obtain⟨e1,e2,e3⟩:=hb.ed es[i] R;have e4:=hb.ed.len es[i] R;obtain⟨e,he⟩:=ξ (es[i]);rw[<-he]at hx e1 e2 e3 e4;have aA:=he.symm;have s1:=sN c;have ch:=has_h s1 e false 1 ω (fun v hv=>by have:=e3 v hv;omega);simp only[Ln]at ch
  cases hh:ju m 1 e with
  | true =>
   rw[hh]at ch;rw[if_pos hh]at hx;refine wx ?_;simp -dsimp[D,aA,LLn,Ln];refine bd ch ?_;rintro _ _ ⟨rfl,rfl⟩;simp -dsimp[aE i ω,LLn,Ln];refine hN (i+1,c,b) _ _ ⟨θ,hx,⟨hc.1,fun v hv=>by have:=hc.2 v hv;simp only;omega⟩,W,al⟩ θ ζ ⟨[],ζ⟩ χ s1.rb
  | false =>
   rw[hh]at ch;rw[if_neg (by simp[hh])]at hx;refine wx ?_;simp -dsimp[D,aA,LLn,Ln];refine bd ch ?_;rintro _ _ ⟨rfl,rfl⟩;simp -dsimp[LLn,Ln];refine aI (W_loopM 63 0x7fffffffc0000110 zMx (σ:=Nat×List Int×Int) (fun q=>q.1<=e.length/\brF m (es.drop (i+1)) (brE m (e.drop q.1) q.2.1 q.2.2).1 (brE m (e.drop q.1) q.2.1 q.2.2).2=E/\ldOk n (i*200+q.1) q.2.1/\-1<=q.2.2/\q.2.2<n) (fun q=>e.length-q.1) (fun q=>[(30,.int .i64 q.1),(4,.int .i64 q.2.2)]) (fun q=>H++[.buf 3 1 (inL q.2.1) false]) (0,c,b) ⟨ζ,by rw[uG];exact hx,by simpa using hc,W,al⟩ ζ ζ ζ ?_);rintro⟨k,u,b2⟩ ⟨hk,j,l,Y,an⟩ N2 Q2 I a6;simp only at hk j l Y an I;have s2:=sN u;by_cases t:k<e.length
   .rw[th t,brE]at j;have a7:=e3 e[k] (ti t);obtain⟨v,hv⟩:=ξ (e[k]);rw[<-hv]at j a7;have L:=hv.symm
    have d:v<n:=by omega
    have g0:=s2.h0;have gm:=s2.hm
    have F:=fun h=>bm (m:=m) (x:=v) h
    obtain⟨mc,bb⟩:=ξ (m.getD v 0);rw[<-bb]at F j;by_cases ax:mc=0
    .subst ax;rw[if_pos rfl]at j
     have M:=fun h=>iH (m:=u) (x:=v) h
     have U:=iG u;have ad:=l.1;obtain⟨z1,z2⟩:=l.2 v d;have o:=l.set (A':=(i:Int)*200+((k+1:Nat):Int)) ω d (a:=1) ω ω;have C:=qp u v (u.getD v 0+1)
     have g9:(H++[B.buf 3 1 (inL u) false])[H.length]?=some (B.buf 3 1 (inL u) false):=by simp
     obtain⟨w,aJ⟩:=ξ (u.set v (u.getD v 0+1))
     have az:w.getD v 0=u.getD v 0+1:=by rw[aJ,ai _ ω]
     rw[<-aJ]at j o C;obtain⟨z,hz⟩:=ξ (u.getD v 0);rw[<-hz]at M j C z1 z2 az;have X:IntKind.i64.wrap (z+1)=z+1:=wrap64 ω ω
     have T:(H++[B.buf 3 1 (inL u) false]).set H.length (B.buf 3 1 (inL w) false)=H++[B.buf 3 1 (inL w) false]:=by simp[uq]
     have s3:=sN w
     have q9:(H++[B.buf 3 1 (inL w) false])[H.length]?=some (B.buf 3 1 (inL w) false):=by simp
     have P:=iG w;have O:=o.1
     have J:=fun h=>iH (m:=w) (x:=v) h
     rw[az]at J;by_cases K:b2<0
     .rw[if_pos (.inl K)]at j;refine wx ?_;simp -dsimp[t,L,eN,g0,gm,F,G,A,d,g9,M,U,ad,X,C,T,K,LLn,Ln];refine sTx ?_;simp -dsimp[aE k ω,LLn,Ln];refine I (k+1,w,v) _ _ ⟨θ,j,o,θ,θ⟩ θ ζ ⟨[],ζ⟩ χ s3.rb
     .obtain⟨q,rfl⟩:∃q:Nat,b2=q:=⟨b2.toNat,ω⟩
      have a2:q<n:=by omega
      rw[wT]at j
      have Z:=fun h=>iH (m:=w) (x:=q) h
      obtain⟨y,ba⟩:=ξ (w.getD q 0);rw[<-ba]at Z j;by_cases S:y<z+1
      .rw[if_pos (.inr S)]at j;refine wx ?_;simp -dsimp[t,L,eN,g0,gm,F,G,A,d,g9,M,U,ad,X,C,T,K,q9,J,P,O,a2,Z,S,LLn,Ln];refine sTx ?_;simp -dsimp[aE k ω,LLn,Ln];refine I (k+1,w,v) _ _ ⟨θ,j,o,θ,θ⟩ θ ζ ⟨[],ζ⟩ χ s3.rb
      .rw[if_neg (by rintro(h | h)<;>omega)]at j;refine wx ?_;simp -dsimp[t,L,eN,g0,gm,F,G,A,d,g9,M,U,ad,X,C,T,K,q9,J,P,O,a2,Z,S,LLn,Ln];refine sTx ?_;simp -dsimp[aE k ω,LLn,Ln];refine I (k+1,w,q) _ _ ⟨θ,j,o,θ,θ⟩ θ ζ ⟨[],ζ⟩ χ s3.rb
    .rw[if_neg ax]at j;refine wx ?_;simp -dsimp[t,L,eN,g0,gm,F,G,A,d,ax,(ω:¬((mc:Int)=0)),LLn,Ln];simp -dsimp[aE k ω,LLn,Ln];refine I (k+1,u,b2) _ _ ⟨θ,j,⟨l.1,fun v hv=>by have:=l.2 v hv;simp only;omega⟩,Y,an⟩ θ ζ ⟨[],ζ⟩ χ s2.rb
   .rw[show e.drop k=[] from tj ω,brE]at j;refine wx ?_;simp -dsimp[t,LLn,Ln];apply a6;simp -dsimp[aE i ω,LLn,Ln];refine hN (i+1,u,b2) _ _ ⟨θ,j,⟨l.1,fun v hv=>by have:=l.2 v hv;simp only;omega⟩,Y,an⟩ θ ζ ⟨[],ζ⟩ χ s2.rb
 .rw[tj ω,brF]at hx;refine wx ?_;simp -dsimp[D,LLn,Ln];apply hQ;simp -dsimp[LLn,Ln];exact hx
end
end
section
def rb_sh{N:Nat}(l:List Shr)(fz:Bool):rbB N (.buf 265 2 (l.map cL) fz):=(rbB_buf1 (fun x hx=>by obtain⟨y,_,rfl⟩:=List.mem_map.1 hx;exact⟨encSh_pure y,encSh_oneV y⟩)).2 trivial
section
variable {H:List B} {k0 km:Nat} {f g:Bool} {ws:List Int} {es:List (List Nat)} {n:Nat} {m:List Nat} {lf:Int}
def rmOk(n:Nat)(A:Int)(a:List Int):Prop:=a.length=n/\∀v<n,-A<=a.getD v 0/\a.getD v 0<=1000000
theorem rmOk.set{n:Nat}{A A':Int}{b:List Int}(h:rmOk n A b)(hA:A<=A'){v:Nat}(hv:v<n){a:Int}(h0 : -A'<=b.getD v 0-a)(h1:b.getD v 0-a<=1000000):rmOk n A' (b.set v (b.getD v 0-a)):=by
 refine⟨by simp[h.1],fun u hu=>?_⟩;by_cases e:v=u
 .subst e;rw[ai _ (by rw[h.1];exact hv)];exact⟨h0,h1⟩
 .rw[aj _ e];have:=h.2 u hu;exact⟨ω,this.2⟩
def packing_h(s:SAt H k0 km f g ws es n m lf)(hb:HsB ws es):
  ak prog 109 [.ptr k0 0] H fun r H'=>r = .tup [LSh false (ei ws es m).1,.int .i64 (ei ws es m).2]/\H'=H:=by
 refine lh ?_ (by intro c hc;simp at hc;rcases hc with rfl | rfl;exact pure_rb1 (LSh_pure _ _) rfl;trivial) s.rb;have h0:=s.h0;have hm:=s.hm;have ay:=bJ m;have ad:=s.lm;have a7:=s.lw;have b5:k0<H.length:=aB s.h0;have b8:km<H.length:=aB s.hm
 have b6:n<=200:=by have:=hb.n;omega
 have b7:=hb.ne;obtain⟨E,hE⟩:=ξ (ei ws es m);rw[<-hE];unfold ei at hE;have cc:=qz ws f ω
 have sN:∀(o:List Int) (G:List B),(∀bl∈G,rbB (H.length+1+G.length) bl)->SAt (H++(B.buf 2 1 (inL o) false::G)) k0 km f g ws es n m lf:=fun o G hG=>s.app (B.buf 2 1 (inL o) false::G) (by
  intro bl h
  rcases List.mem_cons.1 h with rfl | h
  .exact(rbB_buf1 (sJ _)).2 trivial
  .exact rbBM χ (hG bl h))
 refine aH tok func109 rfl rfl ?_;refine wx ?_;simp -dsimp[f109,tg,h0,LLn,Ln];refine(jr cc ζ).mono ?_;rintro r H' ⟨e0,z0,b9,rfl,rfl,ca,rfl,rfl,rfl⟩;have bi:ws.map aG=inL ws:=rfl;have s1:=sN ws [] ζ;have bz:=s1.h0
 have b1:(inL ws).length=n:=by rw[iG,a7]
 simp -dsimp[bi,bz,b1,LLn,Ln];refine aI (bh 265 2 [5] ζ (W_loopM 81 0x1fffffffffffffc002be0 zMx (σ:=Nat×List Int×List Shr×Int) (fun p=>p.1<=es.length/\p.2.2.1++(db m (es.drop p.1) p.1 p.2.1).1=E.1/\p.2.2.2+(db m (es.drop p.1) p.1 p.2.1).2=E.2/\rmOk n (p.1*200000000) p.2.1/\(∀v<n,m.getD v 0=0->0<=p.2.1.getD v 0)/\0<=p.2.2.2/\p.2.2.2<=p.1*1000000/\p.2.2.1.length<=p.1) (fun p=>es.length-p.1) (fun p=>[(26,.int .i64 p.1),(5,.buf (H.length+1) 0 p.2.2.1.length p.2.2.1.length),(6,.int .i64 p.2.2.2)]) (fun p=>H++[.buf 2 1 (inL p.2.1) false,.buf 265 2 (p.2.2.1.map cL) false]) (0,ws,[],0) ⟨ζ,by rw[uG,uL];rw[hE],by rw[uG,Int.zero_add];rw[hE],⟨a7,fun v hv=>by have:=hb.w v ω;simp only;omega⟩,fun v hv _=>by have:=hb.w v ω;simp only;omega,ζ,ζ,ζ⟩ ζ ζ ζ ?_));rintro⟨i,o,out,sm⟩ ⟨hi,d,j,hr,K,az,be,ho⟩ N Q hN hQ;simp only at hi d j hr K az be ho hN
 have g5:(H++[B.buf 2 1 (inL o) false,B.buf 265 2 (out.map cL) false])[H.length+1]?=some (B.buf 265 2 (out.map cL) false):=by simp
 by_cases F:i<es.length
 .rw[th F,db]at d j;have X:=ti F;obtain⟨e1,e2,e3⟩:=hb.ed es[i] X;have e4:=hb.ed.len es[i] X;obtain⟨e,he⟩:=ξ (es[i]);rw[<-he]at d j e1 e2 e3 e4;have aA:=he.symm;have W:=sN o [B.buf 265 2 (out.map cL) false] (by intro bl h;rcases List.mem_cons.1 h with rfl | h;exact rb_sh _ _;cases h);have ch:=has_h W e false 1 ω (fun v hv=>by have:=e3 v hv;omega);simp only[Ln]at ch;have g0:=W.h0;have gm:=W.hm
  cases hh:ju m 1 e with
  | true =>
   rw[hh]at ch;rw[if_pos hh]at d j;refine wx ?_;simp -dsimp[F,aA,LLn,Ln];refine bd ch ?_;rintro _ _ ⟨rfl,rfl⟩;simp -dsimp[aE i ω,LLn,Ln];refine hN (i+1,o,out,sm) _ _ ⟨θ,d,j,⟨hr.1,fun v hv=>by have:=hr.2 v hv;simp only;omega⟩,K,az,θ,θ⟩ θ ζ ⟨[],ζ⟩ (by simp[L1];omega) W.rb
  | false =>
   rw[hh]at ch;rw[if_neg (by simp[hh])]at d j;obtain⟨q1,q2,q3,q4⟩:=rW (m:=m) e2 (fun v hv=>by have:=e3 v hv;omega) hr.1 K;obtain⟨A,hA⟩:=ξ (gu m o e 1000000);rw[<-hA]at d j q1 q2 q3 q4;refine wx ?_;simp -dsimp[F,aA,LLn,Ln];refine bd ch ?_;rintro _ _ ⟨rfl,rfl⟩;simp -dsimp[LLn,Ln];refine aI (W_loopM 55 0x7ffff000000a00 zMx (σ:=Nat×Int) (fun q=>q.1<=e.length/\gu m o (e.drop q.1) q.2=A/\0<=q.2/\q.2<=1000000) (fun q=>e.length-q.1) (fun q=>[(36,.int .i64 q.1),(9,.int .i64 q.2)]) (fun _=>H++[.buf 2 1 (inL o) false,.buf 265 2 (out.map cL) false]) (0,1000000) ⟨ζ,by rw[uG];exact hA.symm,ζ,ζ⟩ ζ ζ ζ ?_);rintro⟨k,a⟩ ⟨hk,C,ax,Y⟩ N2 Q2 M a2;simp only at hk C ax Y M;by_cases t:k<e.length
   .rw[th t,gu]at C;have Z:=e3 e[k] (ti t);obtain⟨v,hv⟩:=ξ (e[k]);rw[<-hv]at C Z;have L:=hv.symm
    have l:v<n:=by omega
    have U:=fun h=>bm (m:=m) (x:=v) h
    have D:=fun h=>iH (m:=o) (x:=v) h
    have T:=iG o;have O:=hr.1
    have g9:(H++[B.buf 2 1 (inL o) false,B.buf 265 2 (out.map cL) false])[H.length]?=some (B.buf 2 1 (inL o) false):=by simp
    obtain⟨z1,z2⟩:=hr.2 v l;have I:=K v l;obtain⟨mc,b4⟩:=ξ (m.getD v 0);rw[<-b4]at U C I;obtain⟨z,hz⟩:=ξ (o.getD v 0);rw[<-hz]at D C z1 z2 I;by_cases al:mc=0
    .subst al;rw[if_pos rfl]at C;have a6:=I rfl;by_cases S:z<a
     .rw[(ω:min a z=z)]at C;refine wx ?_;simp -dsimp[t,L,eN,g0,gm,U,ay,ad,l,g9,D,T,O,S,LLn,Ln];simp -dsimp[aE k ω,S,LLn,Ln];refine M (k+1,z) _ _ ⟨θ,C,a6,θ⟩ θ ζ ⟨[],ζ⟩ (by simp[L1];omega) W.rb
     .rw[(ω:min a z=a)]at C;refine wx ?_;simp -dsimp[t,L,eN,g0,gm,U,ay,ad,l,g9,D,T,O,S,LLn,Ln];simp -dsimp[aE k ω,S,LLn,Ln];refine M (k+1,a) _ _ ⟨θ,C,ax,Y⟩ θ ζ ⟨[],ζ⟩ (by simp[L1];omega) W.rb
    .rw[if_neg al]at C;refine wx ?_;simp -dsimp[t,L,eN,g0,gm,U,ay,ad,l,al,(ω:¬((mc:Int)=0)),LLn,Ln];simp -dsimp[aE k ω,LLn,Ln];refine M (k+1,a) _ _ ⟨θ,C,ax,Y⟩ θ ζ ⟨[],ζ⟩ (by simp[L1];omega) W.rb
   .rw[show e.drop k=[] from tj ω,gu]at C;subst C;by_cases ha:a=0
    .subst ha;rw[if_pos rfl]at d j;refine wx ?_;simp -dsimp[t,LLn,Ln];apply a2;simp -dsimp[aE i ω,LLn,Ln];refine hN (i+1,o,out,sm) _ _ ⟨θ,d,j,⟨hr.1,fun v hv=>by have:=hr.2 v hv;simp only;omega⟩,K,az,θ,θ⟩ θ ζ ⟨[],ζ⟩ (by simp[L1];omega) W.rb
    .rw[if_neg ha]at d j;obtain⟨R,hR⟩:=ξ (oo a e o);rw[<-hR]at d j q1 q2;refine wx ?_;simp -dsimp[t,LLn,Ln];apply a2;simp -dsimp[ha,LLn,Ln];refine aI (W_loopM 71 0x7ff800000000002000 zMx (σ:=Nat×List Int) (fun q=>q.1<=e.length/\oo a (e.drop q.1) q.2=R/\rmOk n (i*200000000+q.1*1000000) q.2) (fun q=>e.length-q.1) (fun q=>[(59,.int .i64 q.1)]) (fun q=>H++[.buf 2 1 (inL q.2) false,.buf 265 2 (out.map cL) false]) (0,o) ⟨ζ,by rw[uG];exact hR.symm,by simpa using hr⟩ ζ ζ ζ ?_);rintro⟨k3,b⟩ ⟨b3,u,J⟩ N3 Q3 a8 bv;simp only at b3 u J a8;by_cases y:k3<e.length
     .rw[th y,oo]at u;have Z:=e3 e[k3] (ti y);obtain⟨v,hv⟩:=ξ (e[k3]);rw[<-hv]at u Z;have L:=hv.symm
      have l:v<n:=by omega
      have D:=fun h=>iH (m:=b) (x:=v) h
      have T:=iG b;have O:=J.1
      have g9:(H++[B.buf 2 1 (inL b) false,B.buf 265 2 (out.map cL) false])[H.length]?=some (B.buf 2 1 (inL b) false):=by simp
      obtain⟨z1,z2⟩:=J.2 v l;have V:=J.set (A':=(i:Int)*200000000+((k3+1:Nat):Int)*1000000) ω l (a:=a) ω ω;have an:=qp b v (b.getD v 0-a);obtain⟨P,aJ⟩:=ξ (b.set v (b.getD v 0-a));rw[<-aJ]at u V an;obtain⟨z,hz⟩:=ξ (b.getD v 0);rw[<-hz]at D an z1 z2;have bY:IntKind.i64.wrap (z-a)=z-a:=wrap64 ω ω
      have bx:(H++[B.buf 2 1 (inL b) false,B.buf 265 2 (out.map cL) false]).set H.length (B.buf 2 1 (inL P) false)=H++[B.buf 2 1 (inL P) false,B.buf 265 2 (out.map cL) false]:=by simp[uq]
      have s4:=sN P [B.buf 265 2 (out.map cL) false] (by intro bl h;rcases List.mem_cons.1 h with rfl | h;exact rb_sh _ _;cases h);refine wx ?_;simp -dsimp[y,L,eN,l,g9,D,T,O,bY,an,bx,LLn,Ln];simp -dsimp[aE k3 ω,LLn,Ln];refine a8 (k3+1,P) _ _ ⟨θ,u,V⟩ θ ζ ⟨[],ζ⟩ (by simp[L1];omega) s4.rb
     .rw[show e.drop k3=[] from tj ω,oo]at u;subst u
      have br:(H++[B.buf 2 1 (inL b) false,B.buf 265 2 (out.map cL) false])[H.length+1]?=some (B.buf 265 2 (out.map cL) false):=by simp
      have bb:(H++[B.buf 2 1 (inL b) false,B.buf 265 2 (out.map cL) false]).set (H.length+1) (B.buf 265 2 ((out++[(⟨(i:Int),a⟩:Shr)]).map cL) false)=H++[B.buf 2 1 (inL b) false,B.buf 265 2 ((out++[(⟨(i:Int),a⟩:Shr)]).map cL) false]:=by simp[uq]
      have b2:out.map cL++[.agg [.int .i64 (i:Int),.int .i64 a]]=(out++[(⟨(i:Int),a⟩:Shr)]).map cL:=by simp[cL]
      have s6:=sN b [B.buf 265 2 ((out++[(⟨(i:Int),a⟩:Shr)]).map cL) false] (by intro bl h;rcases List.mem_cons.1 h with rfl | h;exact rb_sh _ _;cases h);have ba:IntKind.i64.wrap (sm+a)=sm+a:=wrap64 ω ω;refine wx ?_;simp -dsimp[y,LLn,Ln];apply bv;simp -dsimp[br,b2,bb,ba,aE i ω,(ω:out.length<=9223372036854775806),(ω:(out.length+1)*16<=140737488355328),LLn,Ln];refine hN (i+1,b,out++[(⟨(i:Int),a⟩:Shr)],sm+a) _ _ ⟨θ,by simp only[uW,ur,uL];exact d,θ,⟨q1,fun v hv=>by have:=J.2 v hv;simp only;omega⟩,q2,θ,θ,χ⟩ θ ζ ⟨[],ζ⟩ (by simp[L1];omega) s6.rb
 .rw[show es.drop i=[] from tj ω,db]at d j;rw[uC]at d;rw[Int.add_zero]at j;refine dv (H.length+1) [5] g5 ζ ?_;refine wx ?_;simp -dsimp[F,LLn,Ln];apply hQ;simp -dsimp[LLn,Ln];exact⟨by rw[<-d];rfl,j⟩
end
end
end
end Go.Proofs.YtnaokiodhoadjaaGreatDoor
