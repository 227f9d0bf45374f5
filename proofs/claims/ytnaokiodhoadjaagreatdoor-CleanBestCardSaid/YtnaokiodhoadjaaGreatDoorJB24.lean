/- JB24: texts CV, CW, joined and shortened by pack6.py. -/
import Derived.Test.YtnaokiodhoadjaaGreatDoorJB23
set_option linter.all false
set_option maxRecDepth 100000
set_option maxHeartbeats 64000000
open List renaming replicate→tg,nil_append→uL,cons_append→ur,all_cons→vE,filter_nil→wn,all_nil→xd
namespace Go.Proofs.YtnaokiodhoadjaaGreatDoor
section
open Go Go.AM Go.Proofs.Tryz
structure CfOk (n:Nat) (c:Cfd):Prop where
 p:c.p.length=c.l.length+1
 l:iO n c.l
 r0:0<=c.r
 r1:c.r<n
 lb:c.l.length<=1000000
def cf_ok{n:Nat}{c:Cfd}(h:cfB n c=true)(hl:c.l.length<=1000000):CfOk n c:=by
 unfold cfB at h;simp only[tt,decide_eq_true_eq]at h;exact⟨h.2.2.1,ascI_ats (b:=-1) ω h.2.2.2.1,h.1,h.2.1,hl⟩
def alone16(c:Cfd)(r:Rw)(f g f2:Bool)(n:Nat)(h:CfOk n c)(hv:r.vals.length=n)(hs:∀v∈r.vals,v.s.size<=maxLen):aK prog 135 [ac f g c,LV f2 r.vals] fun x=>x = .bool (kw c r):=by
 have e:=left16 c r f g f2 n hv h.l h.p h.lb hs;obtain⟨k,hk⟩:=vM h.r0;have u:=h.r1
 have d:k<r.vals.length:=by omega
 have a:c.l.length<c.p.length:=by have:=h.p;omega
 have j:qZ c.p c.l.length=c.p[c.l.length]:=by simp[qZ,a]
 have o:=hs _ (ti d);obtain⟨x,b⟩:=ξ (r.vals[k]);rw[<-b]at o;obtain⟨m,hm⟩:=ξ c.l.length;simp only[<-hm]at a j;obtain⟨y,i⟩:=ξ (c.p[m]);have t:=fits16 x y o
 have q:jK c r=clF y x:=by unfold jK;rw[<-hm,j,hk,cQ d,<-b,<-i]
 simp only[ac,L1,LCl,LV,aP,av]at e t;unfold kw;rw[q]
 cases h1:gZ c r with
 | false =>
  rw[h1]at e;refine sPx func135 ?_;simp -dsimp[f135,tg,ac,L1,LCl,LV];refine sTx ?_;refine cQx e ?_;simp -dsimp
 | true =>
  rw[h1]at e;refine sPx func135 ?_;simp -dsimp[f135,tg,ac,L1,LCl,LV];refine sTx ?_;refine cQx e ?_;simp -dsimp[hk,d,b.symm,aP,hm.symm,a,i.symm,av];refine cQx t ?_;simp -dsimp
def pair16(c:Cfd)(a b:Rw)(f g T V:Bool)(n:Nat)(h:CfOk n c)(J:a.vals.length=n)(O:b.vals.length=n)(u:∀v∈a.vals,v.s.size<=maxLen)(hsb:∀v∈b.vals,v.s.size<=maxLen):aK prog 136 [ac f g c,LV T a.vals,LV V b.vals] fun x=>x = .bool (jM c a b):=by
 have o:=left16 c a f g T n J h.l h.p h.lb u;have D:=left16 c b f g V n O h.l h.p h.lb hsb;obtain⟨k,hk⟩:=vM h.r0;have Y:=h.r1
 have e:k<a.vals.length:=by omega
 have C:k<b.vals.length:=by omega
 obtain⟨x,m⟩:=ξ (a.vals[k]);obtain⟨y,t⟩:=ξ (b.vals[k])
 have K:x.s.size<=maxLen:=by rw[m];exact u _ (ti e)
 have H:=gI x y K
 have M:gW c a b=(!fI x y&&c.l.all fun k=>fI (vAt a.vals k.toNat) (vAt b.vals k.toNat)):=by unfold gW;rw[hk,cQ e,cQ C,<-m,<-t]
 simp only[ac,L1,LCl,LV,aP]at o D H;unfold jM;rw[M]
 cases h1:gZ c a with
 | false =>
  rw[h1]at o;refine sPx func136 ?_;simp -dsimp[f136,tg,ac,L1,LCl,LV];refine sTx ?_;refine cQx o ?_;simp -dsimp
 | true =>
  rw[h1]at o
  cases h2:gZ c b with
  | false =>
   rw[h2]at D;refine sPx func136 ?_;simp -dsimp[f136,tg,ac,L1,LCl,LV];refine sTx ?_;refine cQx o ?_;simp -dsimp;refine cQx D ?_;simp -dsimp
  | true =>
   rw[h2]at D;rw[eqVB_cmp x y];obtain⟨q,hq⟩:=ξ (dt x y);rw[<-hq]at H ⊢;by_cases G:q=0
   .rw[decide_eq_true G];refine sPx func136 ?_;simp -dsimp[f136,tg,ac,L1,LCl,LV];refine sTx ?_;refine cQx o ?_;simp -dsimp;refine cQx D ?_;simp -dsimp[hk,e,C,m.symm,t.symm,aP];refine cQx H ?_;simp -dsimp[G]
   .rw[decide_eq_false G]
    obtain⟨E,U⟩:=ξ (c.l.all fun k=>fI (vAt a.vals k.toNat) (vAt b.vals k.toNat))
    rw[<-U];refine sPx func136 ?_;simp -dsimp[f136,tg,ac,L1,LCl,LV];refine sTx ?_;refine cQx o ?_;simp -dsimp;refine cQx D ?_;simp -dsimp[hk,e,C,m.symm,t.symm,aP];refine cQx H ?_;simp -dsimp[G];refine aI (W_loopM 57 0x1ffffff000000c0 zMx (σ:=Nat) (fun i=>(c.l.drop i).all (fun k=>fI (vAt a.vals k.toNat) (vAt b.vals k.toNat))=E) (fun i=>c.l.length-i) (fun i=>[(7,.int .i64 i)]) (fun _=>[B.cells [.lst 1 f (c.l.map aG),.int .i64 c.r,.lst 4 g (c.p.map av)]]) 0 (by rw[U,uG]) ζ (by simp[hk]) ζ ?_);have X:=h.lb;intro i hx N Q W S;by_cases hi:i<c.l.length
    .rw[th hi,vE]at hx;obtain⟨Z,u2⟩:=h.l _ (ti hi);obtain⟨j,L⟩:=vM Z
     have d:j<a.vals.length:=by omega
     have A:j<b.vals.length:=by omega
     rw[L,cQ d,cQ A]at hx;obtain⟨v,hv⟩:=ξ (a.vals[j]);obtain⟨w,P⟩:=ξ (b.vals[j]);rw[<-hv,<-P,eqVB_cmp]at hx
     have R:v.s.size<=maxLen:=by rw[hv];exact u _ (ti d)
     have I:=gI v w R;simp only[aP]at I;obtain⟨z,hz⟩:=ξ (dt v w);rw[<-hz]at I hx;by_cases F:z=0
     .rw[decide_eq_true F,uF]at hx;refine wx ?_;simp -dsimp[hi,L,aG,aP,d,A,hv.symm,P.symm];refine sTx ?_;refine cQx I ?_;simp -dsimp[F,aE i ω];refine W (i+1) _ _ hx ω ζ ⟨_,rfl⟩ (by simp[aG]) (by simp[aG])
     .rw[decide_eq_false F,uE]at hx;refine wx ?_;simp -dsimp[hi,L,aG,aP,d,A,hv.symm,P.symm];refine sTx ?_;refine cQx I ?_;simp -dsimp[F];apply S;simp -dsimp;rw[<-hx]
    .rw[tj ω,xd]at hx;refine wx ?_;simp -dsimp[hi];apply S;simp -dsimp;rw[<-hx]
def pclo_u(a b:Rw)(f g:Bool)(b0:B)(n:Nat)(h:a.vals.length=n)(i:b.vals.length=n)(k:Int)(h0:0<=k)(h1:k<n):
  aM prog (.fn 249 [.ptr 1 0,.ptr 2 0]) [.int .i64 k] [b0,B.cells [LV f a.vals],B.cells [LV g b.vals]] fun r H'=>r = .bool (!fI (vAt a.vals k.toNat) (vAt b.vals k.toNat))/\H'=[b0,B.cells [LV f a.vals],B.cells [LV g b.vals]]:=by
 obtain⟨j,l⟩:=vM h0
 have d:j<a.vals.length:=by omega
 have c:j<b.vals.length:=by omega
 rw[l,cQ d,cQ c];obtain⟨v,hv⟩:=ξ (a.vals[j]);obtain⟨w,e⟩:=ξ (b.vals[j]);rw[<-hv,<-e];simp only[aM,ur,uL,LV]
 cases he:fI ⟨v.k,v.n,v.s⟩ ⟨w.k,w.n,w.s⟩ with
 | true =>
  refine aH tok func249 rfl rfl ?_;refine wx ?_;simp -dsimp[f249,tg,d,c,hv.symm,e.symm,aP,qV,he];exact .inr (cG υ)
 | false =>
  refine aH tok func249 rfl rfl ?_;refine wx ?_;simp -dsimp[f249,tg,d,c,hv.symm,e.symm,aP,qV,he];exact .inr (cG υ)
def pairC_u(c:Cfd)(a b:Rw)(f g o q:Bool)(n:Nat)(h:CfOk n c)(v:a.vals.length=n)(z:b.vals.length=n):aK prog 209 [ac f g c,LV o a.vals,LV q b.vals] fun x=>x = .bool (gW c a b):=by
 obtain⟨k,hk⟩:=vM h.r0;have E:=h.r1
 have e:k<a.vals.length:=by omega
 have j:k<b.vals.length:=by omega
 obtain⟨x,d⟩:=ξ (a.vals[k]);obtain⟨y,i⟩:=ξ (b.vals[k])
 have w:gW c a b=(!fI x y&&c.l.all fun k=>fI (vAt a.vals k.toNat) (vAt b.vals k.toNat)):=by unfold gW;rw[hk,cQ e,cQ j,<-d,<-i]
 rw[w,<-oY];have t:=cont_I [B.cells [.lst 1 f (c.l.map aG),.int .i64 c.r,.lst 4 g (c.p.map av)],B.cells [LV o a.vals],B.cells [LV q b.vals]] (.fn 249 [.ptr 1 0,.ptr 2 0]) (fun k=>!fI (vAt a.vals k.toNat) (vAt b.vals k.toNat)) c.l f (by have:=h.lb;omega) (by simp[LV,aG]) ζ (fun m hm=>pclo_u a b o q _ n v z m (h.l m hm).1 (h.l m hm).2)
 obtain⟨u,hu⟩:=ξ (c.l.any fun k=>!fI (vAt a.vals k.toNat) (vAt b.vals k.toNat))
 rw[<-hu]at t ⊢;simp only[L1,LV,hk]at t
 cases he:fI ⟨x.k,x.n,x.s⟩ ⟨y.k,y.n,y.s⟩ with
 | true =>
  refine sPx func209 ?_;simp -dsimp[f209,tg,ac,L1,LCl,LV,hk,e,j,d.symm,i.symm,aP,qV,he];exact .inr (cG υ)
 | false =>
  refine sPx func209 ?_;simp -dsimp[f209,tg,ac,L1,LCl,LV,hk,e,j,d.symm,i.symm,aP,qV,he];refine .inl (aI (ae tok mixed [15] [] [(.bool u,[B.cells [.lst 1 f (c.l.map aG),.int .i64 (k:Int),.lst 4 g (c.p.map av)],B.cells [.lst 3 o (a.vals.map aP)],B.cells [.lst 3 q (b.vals.map aP)]])] υ fun C K D A=>?_));simp -implicitDefEqProofs [hk,e,j,d.symm,i.symm,aP,qV,he];refine⟨D _ _ _ _ t,A _ _ ?_⟩;simp -dsimp
def ccB(c:Cfd)(f g:Bool):B:=B.cells [.lst 1 f (c.l.map aG),.int .i64 c.r,.lst 4 g (c.p.map av)]
def ccB_rb(n:Nat)(c:Cfd)(f g:Bool):rbB n (ccB c f g):=fun x a=>by
 simp only[tw,tq,or_false]at a
 rcases a with rfl | rfl | rfl<;>simp[rb,rb1,aG]
def fil_cons{a b:Type}{p:a->Bool}{q:a->b}{R:List a}{i:Nat}(h:i<R.length):((R.drop i).filter p).map q=(if p R[i]=true then [q R[i]] else [])++((R.drop (i+1)).filter p).map q:=by
 rw[th h];by_cases hp:p R[i]=true
 .rw[vr hp,if_pos hp];rfl
 .rw[vu hp,if_neg hp];rfl
def viol16(t:Tb)(c:Cfd)(f g f2 u:Bool)(h:TbS t)(hl:c.l.length<=1000000)(hp:c.p.length<=1000000)(hv:validT t=0)(ho:cfB t.attrs.length c=true):aK prog 85 [aD f g t,ac f2 u c] fun r=>r = .tup [LL false (qa c t.rows),.int .i64 0]:=by
 refine oQ ?_;have ct:=tbC hv;have ck:=cf_ok ho hl;have P:=jF t f g h.ok;rw[hv]at P;have T:=valid16 t.attrs.length c f2 u ct.wide hl hp;rw[ho]at T;simp only[aD,LR,LS,ac,L1,LCl]at P T;obtain⟨R,A⟩:=ξ t.rows
 have W:tcB t f g = .cells [.str t.name,.lst 1 f (t.attrs.map V.str),.lst 2 g (R.map aF)]:=by rw[A];rfl
 obtain⟨Z,x⟩:=ξ ((R.filter (kw c)).map fun r=>[r.id])
 obtain⟨E,hE⟩:=ξ (qa c R)
 have F:R.length<=8:=by rw[A];exact h.few
 have w:E.length<=72:=by rw[hE];have:=tJ c R;have:=sq8 F;omega
 have J:Z.length<=8:=by rw[x,ud];exact ug (uU _ _) F
 have X:Z++prL (jM c) R=E:=by rw[hE,tI,x]
 have m:∀r∈R,r.vals.length=t.attrs.length:=by rw[A];exact ct.len
 have y:∀r∈R,∀v∈r.vals,v.s.size<=maxLen:=by rw[A];exact h.sz
 rw[<-A]at P ⊢;rw[<-hE]
 have j:∀o:List (List Int),∀bl∈[B.cells [.str t.name,.lst 1 f (t.attrs.map V.str),.lst 2 g (R.map aF)],B.cells [.lst 1 f2 (c.l.map aG),.int .i64 c.r,.lst 4 u (c.p.map av)],B.buf 58 1 (o.map (L1 true)) false],rbB 3 bl:=fun o bl H=>by
  simp only[tw,tq,or_false]at H
  rcases H with rfl | rfl | rfl
  .rw[<-W];exact cW _ _ _ _
  .exact ccB_rb _ _ _ _
  .exact oe _ _ _
 refine bM (aH (tkf 58) func85 rfl rfl ?_);refine W_x (tkf 58) mixed ?_;simp -dsimp[f85,tg,aD,ac,LR,LS,LCl,A.symm,L1,aL];refine cPx P ?_;simp -dsimp[L1,aL];refine cPx T ?_;simp -dsimp[L1,aL];refine aI (bh 58 1 [7] ζ (W_loopM 47 0x7fffffc00180 zMx (σ:=Nat×List (List Int)) (fun p=>p.2++((R.drop p.1).filter (kw c)).map (fun r=>[r.id])=Z) (fun p=>R.length-p.1) (fun p=>[(8,.int .i64 p.1),(7,.buf 2 0 p.2.length p.2.length)]) (fun p=>[B.cells [.str t.name,.lst 1 f (t.attrs.map V.str),.lst 2 g (R.map aF)],B.cells [.lst 1 f2 (c.l.map aG),.int .i64 c.r,.lst 4 u (c.p.map av)],B.buf 58 1 (p.2.map (L1 true)) false]) (0,[]) (by rw[x];rfl) ζ ζ ζ ?_));rintro⟨i,out⟩ hx N Q O S;simp only at hx;by_cases hb:i<R.length
 .rw[fil_cons hb]at hx;have e:=m _ (ti hb);have n:=y _ (ti hb);obtain⟨r,b⟩:=ξ (R[i]);rw[<-b]at hx e n;have G:=alone16 c r f2 u false t.attrs.length ck e n;simp only[ac,L1,LCl,LV]at G
  have ad:out.length<=8:=by rw[<-hx]at J;simp only[uB]at J;omega
  cases hq:kw c r with
  | false =>
   rw[hq]at G hx;rw[if_neg ζ,uL]at hx;refine W_x (tkf 58) mixed ?_;simp -dsimp[hb,b.symm,aF,LV,L1,aL];refine sTx ?_;refine cQx G ?_;simp -dsimp[aE i ω,L1,aL];refine O (i+1,out) _ _ hx θ ζ ⟨[],ζ⟩ ζ (j _)
  | true =>
   rw[hq]at G hx;rw[if_pos rfl]at hx;refine W_x (tkf 58) mixed ?_;simp -dsimp[hb,b.symm,aF,LV,L1,aL];refine sTx ?_;refine cQx G ?_;simp -dsimp[hb,b.symm,aF,LV,eb out.length ω,bA out.length ω,aE i ω,L1,aL];refine O (i+1,out++[[r.id]]) _ _ (by rw[<-hx];simp) θ ζ ⟨[],by simp[aG,L1]⟩ ζ (j _)
 .rw[tj (show R.length<=i by omega),wn,wP,uC]at hx;subst hx;refine W_x (tkf 58) mixed ?_;simp -dsimp[hb,L1,aL];apply S;simp -dsimp[L1,aL];refine aI (W_loopM 93 0x1fffffffffff800000000680 zMx (σ:=Nat×List (List Int)) (fun p=>p.2++prL (jM c) (R.drop p.1)=E) (fun p=>R.length-p.1) (fun p=>[(9,.int .i64 p.1),(7,.buf 2 0 p.2.length p.2.length)]) (fun p=>[B.cells [.str t.name,.lst 1 f (t.attrs.map V.str),.lst 2 g (R.map aF)],B.cells [.lst 1 f2 (c.l.map aG),.int .i64 c.r,.lst 4 u (c.p.map av)],B.buf 58 1 (p.2.map (L1 true)) false]) (0,out) (by simpa using X) ζ ζ ζ ?_);rintro⟨i,out⟩ hx N Q O S;simp only at hx;by_cases hb:i<R.length
  .rw[nU hb]at hx;have e:=m _ (ti hb);have n:=y _ (ti hb);obtain⟨r,b⟩:=ξ (R[i]);rw[<-b]at hx e n;refine W_x (tkf 58) mixed ?_;simp -dsimp[hb,aE i ω,L1,aL];refine aI (W_loopM 93 0x1fffffffff00000000000480 zMx (σ:=Nat×List (List Int)) (fun p=>i<p.1/\p.2++((((R.drop p.1).filter (jM c r)).map fun s=>[r.id,s.id])++prL (jM c) (R.drop (i+1)))=E) (fun p=>R.length-p.1) (fun p=>[(10,.int .i64 p.1),(7,.buf 2 0 p.2.length p.2.length)]) (fun p=>[B.cells [.str t.name,.lst 1 f (t.attrs.map V.str),.lst 2 g (R.map aF)],B.cells [.lst 1 f2 (c.l.map aG),.int .i64 c.r,.lst 4 u (c.p.map av)],B.buf 58 1 (p.2.map (L1 true)) false]) (i+1,out) ⟨ζ,hx⟩ ζ ζ ζ ?_);rintro⟨k,z⟩ ⟨Y,a⟩ N2 Q2 M U;simp only at Y a;by_cases d:k<R.length
   .rw[lR d]at a;have D:=m _ (ti d);have I:=y _ (ti d);obtain⟨s,q⟩:=ξ (R[k]);rw[<-q]at a D I;have L:=pair16 c r s f2 u false false t.attrs.length ck e D n I;simp only[ac,L1,LCl,LV]at L
    have al:z.length<=72:=by rw[<-a]at w;simp only[uB]at w;omega
    cases hq:jM c r s with
    | false =>
     rw[hq]at L a;rw[if_neg ζ,uL]at a;refine W_x (tkf 58) mixed ?_;simp -dsimp[hb,d,b.symm,q.symm,aF,LV,L1,aL];refine sTx ?_;refine cQx L ?_;simp -dsimp[aE k ω,L1,aL];refine M (k+1,z) _ _ ⟨θ,a⟩ θ ζ ⟨[],ζ⟩ ζ (j _)
    | true =>
     rw[hq]at L a;rw[if_pos rfl]at a;refine W_x (tkf 58) mixed ?_;simp -dsimp[hb,d,b.symm,q.symm,aF,LV,L1,aL];refine sTx ?_;refine cQx L ?_;simp -dsimp[L1,aL];refine aI (ae (tkf 58) mixed [15] [] [] υ fun C K hC hK=>?_);simp -implicitDefEqProofs [hb,d,b.symm,q.symm,aF,LV,eb z.length ω,bA z.length ω,L1,aL];apply hK;simp -dsimp[aE k ω,L1,aL];refine M (k+1,z++[[r.id,s.id]]) _ _ ⟨θ,by rw[<-a];simp⟩ θ ζ ⟨[],by simp[aG,L1]⟩ ζ (j _)
   .rw[tj (show R.length<=k by omega)]at a;refine W_x (tkf 58) mixed ?_;simp -dsimp[d,L1,aL];apply U;simp -dsimp[aE i ω,L1,aL];refine O (i+1,z) _ _ (by simpa using a) θ ζ ⟨[],ζ⟩ ζ (j _)
  .rw[tj (show R.length<=i by omega),prL,uC]at hx;subst hx;refine dv 2 [7] rfl ζ ?_;refine W_x (tkf 58) mixed ?_;simp -dsimp[hb,L1,aL];apply S;simp -dsimp[LT,L1,aL]
   skip
end
end Go.Proofs.YtnaokiodhoadjaaGreatDoor
