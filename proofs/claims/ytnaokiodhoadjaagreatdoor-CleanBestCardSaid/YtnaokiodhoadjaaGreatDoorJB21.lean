/- JB21: texts OD, OV, OW, Rd, RO, RQ, RS, joined and shortened by pack6.py. -/
import Derived.Test.YtnaokiodhoadjaaGreatDoorJB16
set_option linter.all false
set_option maxRecDepth 100000
set_option maxHeartbeats 64000000
open Int renaming toNat_natCast→wT
open List renaming replicate→tg,nil_append→uL,cons_append→ur,all_cons→vE,all_nil→xd
namespace Go.Proofs.YtnaokiodhoadjaaGreatDoor
section
open Go Go.AM Go.Proofs.Tryz
def inB_no1{n a:Int}(h:¬0<=a):inB n a=false:=by simp[inB,h]
def inB_no2{n a:Int}(h:¬a<n):inB n a=false:=by simp[inB,h]
def inB_yes{n a:Int}(h:0<=a)(h2:a<n):inB n a=true:=by simp[inB,h,h2]
def list17(n:Int)(l:List Int)(f:Bool)(hl:l.length<=1000000):aK prog 241 [.int .i64 n,L1 f l] fun r=>r = .bool (olB n l):=by
 obtain⟨E,c⟩:=ξ (l.all (inB n));unfold olB;rw[<-c];refine sPx func241 ?_;simp -dsimp[f241,tg,L1];refine aI (W_loopM 25 0x1fffff0 zMx (σ:=Nat) (fun i=>(l.drop i).all (inB n)=E) (fun i=>l.length-i) (fun i=>[(5,.int .i64 i)]) (fun _=>[]) 0 (by rw[c,uG]) ζ ζ ζ ?_);intro i hx N Q d b;by_cases hb:i<l.length
 .rw[th hb,vE]at hx;obtain⟨a,ha⟩:=ξ (l[i]);rw[<-ha]at hx;by_cases h1:0<=a
  .by_cases h2:a<n
   .rw[inB_yes h1 h2]at hx;refine wx ?_;simp -dsimp[hb,ha.symm,aG,(ω:¬a<0),(ω:¬n<=a),aE i ω];refine d (i+1) _ _ (by simpa using hx) ω ζ ⟨_,rfl⟩ (by simp[aG]) ζ
   .rw[inB_no2 h2,uE]at hx;refine wx ?_;simp -dsimp[hb,ha.symm,aG,(ω:¬a<0),(ω:n<=a)];apply b;simp -dsimp;rw[<-hx];simp
  .rw[inB_no1 h1,uE]at hx;refine wx ?_;simp -dsimp[hb,ha.symm,aG,(ω:a<0)];apply b;simp -dsimp;rw[<-hx];simp
 .rw[tj ω,xd]at hx;subst hx;by_cases e:l.length<=8
  .refine wx ?_;simp -dsimp[hb];apply b;simp -dsimp[(ω:(l.length:Int)<=8)];simp[e]
  .refine wx ?_;simp -dsimp[hb];apply b;simp -dsimp[(ω:¬(l.length:Int)<=8)];omega
def valid17(n:Int)(d:Od)(f g:Bool)(hl:d.l.length<=1000000)(hr:d.r.length<=1000000):aK prog 192 [.int .i64 n,bT f g d] fun r=>r = .bool (odB n d):=by
 have a:=list17 n d.l f hl;have b:=list17 n d.r g hr;unfold odB;simp only[L1]at a b
 cases h:olB n d.l with
 | false =>
  rw[h]at a;refine sPx func192 ?_;simp -dsimp[f192,tg,bT,L1];refine cPx a ?_;simp -dsimp
 | true =>
  rw[h]at a;refine sPx func192 ?_;simp -dsimp[f192,tg,bT,L1];refine cPx a ?_;simp -dsimp;refine cPx b ?_;simp -dsimp
def list1_u(n:Int)(a:Int):∀H:List B,H=[B.cells [.int .i64 n]]->aM prog (.fn 248 [.ptr 0 0]) [.int .i64 a] H fun r H'=>r = .bool (!inB n a)/\H'=H:=by
 intro H b;subst b;simp only[aM,ur,uL];by_cases h1:0<=a
 .by_cases h2:a<n
  .rw[inB_yes h1 h2];refine aH tok func248 rfl rfl ?_;refine wx ?_;simp -dsimp[f248,tg,(ω:¬a<0),(ω:¬n<=a)]
  .rw[inB_no2 h2];refine aH tok func248 rfl rfl ?_;refine wx ?_;simp -dsimp[f248,tg,(ω:¬a<0),(ω:n<=a)]
 .rw[inB_no1 h1];refine aH tok func248 rfl rfl ?_;refine wx ?_;simp -dsimp[f248,tg,(ω:a<0)]
def list_u(n:Int)(l:List Int)(f:Bool)(hl:l.length<=1000000):aK prog 205 [.int .i64 n,L1 f l] fun r=>r = .bool (olB n l):=by
 unfold olB;rw[<-oY];by_cases c:l.length<=8
 .have b:=cont_I [B.cells [.int .i64 n]] (.fn 248 [.ptr 0 0]) (fun a=>!inB n a) l f ω ζ ζ (fun m _=>list1_u n m _ rfl);simp only[L1]at b;rw[decide_eq_true c,uF];refine sPx func205 ?_;simp -dsimp[f205,tg,L1,(ω:(l.length:Int)<=8)];refine aM.mono (K:=fun r H'=>r = .bool (l.any fun a=>!inB n a)/\H'=[B.cells [.int .i64 n]]) b ?_;rintro r H' ⟨rfl,rfl⟩;simp -dsimp
 .rw[decide_eq_false c,uE];refine sPx func205 ?_;simp -dsimp[f205,tg,L1,(ω:¬(l.length:Int)<=8)]
def validO_u(n:Int)(d:Od)(f g:Bool)(hl:d.l.length<=1000000)(hr:d.r.length<=1000000):aK prog 151 [.int .i64 n,bT f g d] fun r=>r = .bool (odB n d):=by
 have a:=list_u n d.l f hl;have b:=list_u n d.r g hr;unfold odB;simp only[L1]at a b
 cases h:olB n d.l with
 | false =>
  rw[h]at a;refine sPx func151 ?_;simp -dsimp[f151,tg,bT,L1];refine cPx a ?_;simp -dsimp
 | true =>
  rw[h]at a;refine sPx func151 ?_;simp -dsimp[f151,tg,bT,L1];refine cPx a ?_;simp -dsimp;refine cPx b ?_;simp -dsimp
def iO(n:Nat)(l:List Int):Prop:=∀a∈l,0<=a/\a<n
def ol_ats{n:Nat}{l:List Int}(h:olB n l=true):iO n l:=fun a ha=>by
 unfold olB at h;rw[tt,uZ]at h;have:=h.2 a ha;simpa[inB] using this
def cQ{vs:List Vl}{k:Nat}(h:k<vs.length):vAt vs ((k:Nat):Int).toNat=vs[k]:=by rw[wT];exact vAt_in h
def cmp17(a b:Rw)(l:List Int)(f:Bool)(n:Nat)(ha:a.vals.length=n)(hb:b.vals.length=n)(hl:l.length<=1000000)(ho:iO n l)(hs:∀v∈a.vals,v.s.size<=maxLen):aK prog 193 [aF a,aF b,L1 f l] fun r=>r = .int .i64 (gp a b l):=by
 obtain⟨E,o⟩:=ξ (gp a b l);rw[<-o];refine sPx func193 ?_;simp -dsimp[f193,tg,L1,aF,LV];refine aI (W_loopM 35 0x7ffffffc0 zMx (σ:=Nat) (fun i=>gp a b (l.drop i)=E) (fun i=>l.length-i) (fun i=>[(7,.int .i64 i)]) (fun _=>[B.cells [.int .i64 a.id,.lst 3 false (a.vals.map aP)],B.cells [.int .i64 b.id,.lst 3 false (b.vals.map aP)]]) 0 (by rw[o,uG]) ζ ζ ζ ?_);intro i hx N Q p m;by_cases hi:i<l.length
 .rw[th hi,gp]at hx;obtain⟨h1,h2⟩:=ho _ (ti hi);obtain⟨k,hk⟩:=vM h1
  have e:k<a.vals.length:=by omega
  have h:k<b.vals.length:=by omega
  rw[hk,cQ e,cQ h]at hx;have j:=hs _ (ti e);obtain⟨x,d⟩:=ξ (a.vals[k]);obtain⟨y,g⟩:=ξ (b.vals[k]);rw[<-d,<-g]at hx;rw[<-d]at j;have c:=gI x y j;simp only[aP]at c;by_cases h0:dt x y=0
  .rw[if_pos h0]at hx;rw[h0]at c;refine wx ?_;simp -dsimp[hi,hk,aG,aP,e,h,d.symm,g.symm];refine sTx ?_;refine cQx c ?_;simp -dsimp[aE i ω];refine p (i+1) _ _ hx ω ζ ⟨_,rfl⟩ (by simp[aG]) ζ
  .rw[if_neg h0]at hx;refine wx ?_;simp -dsimp[hi,hk,aG,aP,e,h,d.symm,g.symm];refine sTx ?_;refine cQx c ?_;simp -dsimp[h0];apply m;simp -dsimp;rw[hx]
 .rw[tj ω,gp]at hx;refine wx ?_;simp -dsimp[hi];apply m;simp -dsimp;rw[<-hx]
def cmpO_u(a b:Rw)(l:List Int)(f:Bool)(n:Nat)(ha:a.vals.length=n)(hb:b.vals.length=n)(hl:l.length<=1000000)(ho:iO n l):aK prog 250 [aF a,aF b,L1 f l] fun r=>r = .int .i64 (gp a b l):=by
 obtain⟨E,m⟩:=ξ (gp a b l);rw[<-m];refine sPx func250 ?_;simp -dsimp[f250,tg,L1,aF,LV];refine aI (W_loopM 31 0x7ffff340 zMx (σ:=Nat) (fun i=>gp a b (l.drop i)=E) (fun i=>l.length-i) (fun i=>[(12,.int .i64 i)]) (fun _=>[B.cells [.int .i64 a.id,.lst 3 false (a.vals.map aP)],B.cells [.int .i64 b.id,.lst 3 false (b.vals.map aP)]]) 0 (by rw[m,uG]) ζ ζ ζ ?_);intro i hx N Q o j;by_cases hi:i<l.length
 .rw[th hi,gp]at hx;obtain⟨h1,h2⟩:=ho _ (ti hi);obtain⟨k,hk⟩:=vM h1
  have e:k<a.vals.length:=by omega
  have h:k<b.vals.length:=by omega
  rw[hk,cQ e,cQ h]at hx;obtain⟨x,d⟩:=ξ (a.vals[k]);obtain⟨y,g⟩:=ξ (b.vals[k]);rw[<-d,<-g]at hx;have c:=fZ x y;simp only[aP]at c;by_cases h0:dt x y=0
  .rw[if_pos h0]at hx;rw[h0]at c;refine wx ?_;simp -dsimp[hi,hk,aG,aP,e,h,d.symm,g.symm];refine sTx ?_;refine cQx c ?_;simp -dsimp[aE i ω];refine o (i+1) _ _ hx ω ζ ⟨_,rfl⟩ (by simp[aG]) ζ
  .rw[if_neg h0]at hx;refine wx ?_;simp -dsimp[hi,hk,aG,aP,e,h,d.symm,g.symm];refine sTx ?_;refine cQx c ?_;simp -dsimp[h0];apply j;simp -dsimp;rw[hx]
 .rw[tj ω,gp]at hx;refine wx ?_;simp -dsimp[hi];apply j;simp -dsimp;rw[<-hx]
def wrapX{p q:Int}(hp : -1<=p/\p<=1)(hq : -1<=q/\q<=1):IntKind.i64.wrap (p*q)=p*q:=by
 have : -1<=p*q/\p*q<=1:=by
  obtain rfl | rfl | rfl:p = -1\/p=0\/p=1:=by omega
  .omega
  .omega
  .omega
 exact wrap64 ω ω
def kind17(a b:Rw)(d:Od)(f g:Bool)(n:Nat)(ha:a.vals.length=n)(hb:b.vals.length=n)(hl:d.l.length<=1000000)(hr:d.r.length<=1000000)(h1:iO n d.l)(h2:iO n d.r)(hs:∀v∈a.vals,v.s.size<=maxLen):aK prog 138 [aF a,aF b,bT f g d] fun r=>r = .int .i64 (sC d a b):=by
 have e:=cmp17 a b d.l f n ha hb hl h1 hs;have i:=cmp17 a b d.r g n ha hb hr h2 hs;have w:=wrapX (kn a b d.l) (kn a b d.r);unfold sC;obtain⟨p,hp⟩:=ξ (gp a b d.l);obtain⟨q,hq⟩:=ξ (gp a b d.r);rw[<-hp]at e w ⊢;rw[<-hq]at i w ⊢;simp only[L1,aF,LV]at e i;by_cases c:p=0
 .by_cases k:q=0
  .rw[if_neg (by simp[k]),if_neg (by rw[c];omega)];refine sPx func138 ?_;simp -dsimp[f138,tg,L1,aF,LV,bT];refine sTx ?_;refine cQx e ?_;simp -dsimp;refine cQx i ?_;simp -dsimp[c,k,w,show IntKind.i64.wrap (0:Int)=0 from wrap64 ω ω]
  .rw[if_pos ⟨c,k⟩];refine sPx func138 ?_;simp -dsimp[f138,tg,L1,aF,LV,bT];refine sTx ?_;refine cQx e ?_;simp -dsimp;refine cQx i ?_;simp -dsimp[c,k]
 .rw[if_neg (fun h=>c h.1)];by_cases j:p*q<0
  .rw[if_pos j];refine sPx func138 ?_;simp -dsimp[f138,tg,L1,aF,LV,bT];refine sTx ?_;refine cQx e ?_;simp -dsimp;refine cQx i ?_;simp -dsimp[c,w,j]
  .rw[if_neg j];refine sPx func138 ?_;simp -dsimp[f138,tg,L1,aF,LV,bT];refine sTx ?_;refine cQx e ?_;simp -dsimp;refine cQx i ?_;simp -dsimp[c,w,j]
def kind_u(a b:Rw)(d:Od)(f g:Bool)(n:Nat)(ha:a.vals.length=n)(hb:b.vals.length=n)(hl:d.l.length<=1000000)(hr:d.r.length<=1000000)(h1:iO n d.l)(h2:iO n d.r):aK prog 212 [aF a,aF b,bT f g d] fun r=>r = .int .i64 (sC d a b):=by
 have e:=cmpO_u a b d.l f n ha hb hl h1;have i:=cmpO_u a b d.r g n ha hb hr h2;have w:=wrapX (kn a b d.l) (kn a b d.r);unfold sC;obtain⟨p,hp⟩:=ξ (gp a b d.l);obtain⟨q,hq⟩:=ξ (gp a b d.r);rw[<-hp]at e w ⊢;rw[<-hq]at i w ⊢;simp only[L1,aF,LV]at e i;by_cases c:p=0
 .by_cases k:q=0
  .rw[if_neg (by simp[k]),if_neg (by rw[c];omega)];refine sPx func212 ?_;simp -dsimp[f212,tg,L1,aF,LV,bT];refine sTx ?_;refine cQx e ?_;simp -dsimp;refine cQx i ?_;simp -dsimp[c,k,w,show IntKind.i64.wrap (0:Int)=0 from wrap64 ω ω]
  .rw[if_pos ⟨c,k⟩];refine sPx func212 ?_;simp -dsimp[f212,tg,L1,aF,LV,bT];refine sTx ?_;refine cQx e ?_;simp -dsimp;refine cQx i ?_;simp -dsimp[c,k]
 .rw[if_neg (fun h=>c h.1)];by_cases j:p*q<0
  .rw[if_pos j];refine sPx func212 ?_;simp -dsimp[f212,tg,L1,aF,LV,bT];refine sTx ?_;refine cQx e ?_;simp -dsimp;refine cQx i ?_;simp -dsimp[c,w,j]
  .rw[if_neg j];refine sPx func212 ?_;simp -dsimp[f212,tg,L1,aF,LV,bT];refine sTx ?_;refine cQx e ?_;simp -dsimp;refine cQx i ?_;simp -dsimp[c,w,j]
structure TbS (t:Tb):Prop where
 ok:TbOk t
 sz:∀r∈t.rows,∀v∈r.vals,v.s.size<=maxLen
 few:t.rows.length<=8
def nU{P:Rw->Rw->Bool}{R:List Rw}{i:Nat}(h:i<R.length):prL P (R.drop i)=(((R.drop (i+1)).filter (P R[i])).map fun s=>[R[i].id,s.id])++prL P (R.drop (i+1)):=by
 rw[th h,prL]
def lR{P:Rw->Rw->Bool}{R:List Rw}{r:Rw}{k:Nat}(h:k<R.length):(((R.drop k).filter (P r)).map fun s=>[r.id,s.id])=(if P r R[k]=true then [[r.id,R[k].id]] else [])++(((R.drop (k+1)).filter (P r)).map fun s=>[r.id,s.id]):=by
 rw[th h];by_cases hp:P r R[k]=true
 .rw[vr hp,if_pos hp];rfl
 .rw[vu hp,if_neg hp];rfl
def viol17(t:Tb)(d:Od)(f g f2 u:Bool)(h:TbS t)(hl:d.l.length<=1000000)(hr:d.r.length<=1000000)(hv:validT t=0)(ho:odB t.attrs.length d=true):aK prog 86 [aD f g t,bT f2 u d] fun r=>r = .tup [LL false (prL (odP d) t.rows),.int .i64 0]:=by
 refine oQ ?_;have ct:=tbC hv;have J:=jF t f g h.ok;rw[hv]at J;have M:=valid17 t.attrs.length d f2 u hl hr;rw[ho]at M;simp only[aD,LR,LS,bT,L1]at J M
 have A:iO t.attrs.length d.l/\iO t.attrs.length d.r:=by
  unfold odB at ho;rw[tt]at ho;exact⟨ol_ats ho.1,ol_ats ho.2⟩
 obtain⟨R,F⟩:=ξ t.rows;obtain⟨E,W⟩:=ξ (prL (odP d) R)
 have P:R.length<=8:=by rw[F];exact h.few
 have q:E.length<=64:=by rw[W];exact ug (fg R) (sq8 P)
 have n:∀r∈R,r.vals.length=t.attrs.length:=by rw[F];exact ct.len
 have L:∀r∈R,∀v∈r.vals,v.s.size<=maxLen:=by rw[F];exact h.sz
 have c3:@Exists Bool fun e=>(e=true/\True):=⟨true,rfl,trivial⟩
 clear c3
 have U:aK prog 137 [aD f g t,bT f2 u d] fun r=>r = .int .i64 0:=by
  refine sPx func137 ?_;simp -dsimp[f137,tg,aD,bT,LR,LS,L1];refine cPx J ?_;simp -dsimp;refine cPx M ?_;simp -dsimp
 simp only[aD,LR,LS,bT,L1]at U;rw[<-F]at U ⊢;rw[<-W]
 have S:∀o:List (List Int),∀bl∈[B.cells [.str t.name,.lst 1 f (t.attrs.map V.str),.lst 2 g (R.map aF)],B.cells [.lst 1 f2 (d.l.map aG),.lst 1 u (d.r.map aG)],B.buf 58 1 (o.map (L1 true)) false],rbB 3 bl:=fun o bl D=>by
  simp only[tw,tq,or_false]at D
  rcases D with rfl | rfl | rfl
  .intro c z;simp at z;rcases z with rfl | rfl | rfl<;>simp[rb,rb1]
  .intro c z;simp at z;rcases z with rfl | rfl<;>simp[rb,rb1]
  .exact oe _ _ _
 refine bM (aH (tkf 58) func86 rfl rfl ?_);refine W_x (tkf 58) mixed ?_;simp -dsimp[f86,tg,aD,bT,LR,LS,F.symm,L1,aL];refine cPx U ?_;simp -dsimp[L1,aL];refine aI (bh 58 1 [7] ζ (W_loopM 61 0x1fffffffffff0380 zMx (σ:=Nat×List (List Int)) (fun p=>p.2++prL (odP d) (R.drop p.1)=E) (fun p=>R.length-p.1) (fun p=>[(8,.int .i64 p.1),(7,.buf 2 0 p.2.length p.2.length)]) (fun p=>[B.cells [.str t.name,.lst 1 f (t.attrs.map V.str),.lst 2 g (R.map aF)],B.cells [.lst 1 f2 (d.l.map aG),.lst 1 u (d.r.map aG)],B.buf 58 1 (p.2.map (L1 true)) false]) (0,[]) (by rw[W];rfl) ζ ζ ζ ?_));rintro⟨i,out⟩ hx N Q Y X;simp only at hx;by_cases hb:i<R.length
 .rw[nU hb]at hx;have y:=n _ (ti hb);have H:=L _ (ti hb);obtain⟨r,m⟩:=ξ (R[i]);rw[<-m]at hx y H;refine W_x (tkf 58) mixed ?_;simp -dsimp[hb,aE i ω,L1,aL];refine aI (W_loopM 61 0x1ffffffffe000280 zMx (σ:=Nat×List (List Int)) (fun p=>i<p.1/\p.2++((((R.drop p.1).filter (odP d r)).map fun s=>[r.id,s.id])++prL (odP d) (R.drop (i+1)))=E) (fun p=>R.length-p.1) (fun p=>[(9,.int .i64 p.1),(7,.buf 2 0 p.2.length p.2.length)]) (fun p=>[B.cells [.str t.name,.lst 1 f (t.attrs.map V.str),.lst 2 g (R.map aF)],B.cells [.lst 1 f2 (d.l.map aG),.lst 1 u (d.r.map aG)],B.buf 58 1 (p.2.map (L1 true)) false]) (i+1,out) ⟨ζ,hx⟩ ζ ζ ζ ?_);rintro⟨k,w⟩ ⟨T,a⟩ N2 Q2 G O;simp only at T a;by_cases b:k<R.length
  .rw[lR b]at a;have x:=n _ (ti b);obtain⟨s,j⟩:=ξ (R[k]);rw[<-j]at a x;have I:=kind17 r s d f2 u t.attrs.length y x hl hr A.1 A.2 H;simp only[aF,LV,bT,L1]at I
   have ad:w.length<=64:=by rw[<-a]at q;simp only[uB]at q;omega
   by_cases hq:sC d r s=0
   .rw[hq]at I;rw[if_neg (by simp[odP,hq]),uL]at a;refine W_x (tkf 58) mixed ?_;simp -dsimp[hb,b,m.symm,j.symm,aF,LV,L1,aL];refine sTx ?_;refine cQx I ?_;simp -dsimp[aE k ω,L1,aL];refine G (k+1,w) _ _ ⟨θ,a⟩ θ ζ ⟨_,rfl⟩ ζ (by simp[L1])
   .rw[if_pos (by simp[odP,hq])]at a;refine W_x (tkf 58) mixed ?_;simp -dsimp[hb,b,m.symm,j.symm,aF,LV,L1,aL];refine sTx ?_;refine cQx I ?_;simp -dsimp[hq,L1,aL];refine aI (ae (tkf 58) mixed [15] [] [] υ fun C K hC Z=>?_);simp -implicitDefEqProofs [hb,b,m.symm,j.symm,aF,LV,eb w.length ω,bA w.length ω,L1,aL];apply Z;simp -dsimp[aE k ω,L1,aL];refine G (k+1,w++[[r.id,s.id]]) _ _ ⟨θ,by rw[<-a];simp⟩ θ ζ ⟨[],by simp[aG,L1]⟩ ζ (S _)
  .rw[tj (show R.length<=k by omega)]at a;refine W_x (tkf 58) mixed ?_;simp -dsimp[b,L1,aL];apply O;simp -dsimp[aE i ω,L1,aL];refine Y (i+1,w) _ _ (by simpa using a) θ ζ ⟨_,rfl⟩ ζ (by simp[L1])
 .rw[tj (show R.length<=i by omega),prL,uC]at hx;subst hx;refine dv 2 [7] rfl ζ ?_;refine W_x (tkf 58) mixed ?_;simp -dsimp[hb,L1,aL];apply X;simp -dsimp[LT,L1,aL]
  skip
def oclo_u(n:Int)(d:Od)(f2 a:Bool)(b0 b:B)(hl:d.l.length<=1000000)(hr:d.r.length<=1000000):
  aM prog (.fn 211 [.ptr 1 0]) [.int .i64 n] [b0,B.cells [.lst 1 f2 (d.l.map aG),.lst 1 a (d.r.map aG)],b] fun r H'=>r = .bool (odB n d)/\H'=[b0,B.cells [.lst 1 f2 (d.l.map aG),.lst 1 a (d.r.map aG)],b]:=by
 have c:=validO_u n d f2 a hl hr;simp only[bT,L1]at c;simp only[aM,ur,uL];refine aH tok func211 rfl rfl ?_;refine wx ?_;simp -dsimp[f211,tg];refine cPx c ?_;simp -dsimp
def ocB(d:Od)(f2 a:Bool):B:=B.cells [.lst 1 f2 (d.l.map aG),.lst 1 a (d.r.map aG)]
def ocB_rb(n:Nat)(d:Od)(f2 b:Bool):rbB n (ocB d f2 b):=fun c a=>by
 simp only[tw,tq,or_false]at a
 rcases a with rfl | rfl<;>simp[rb,rb1,aG]
def tcB(t:Tb)(f g:Bool):B:=.cells [.str t.name,.lst 1 f (t.attrs.map V.str),.lst 2 g (t.rows.map aF)]
def cW(n:Nat)(t:Tb)(f g:Bool):rbB n (tcB t f g):=fun c a=>by
 simp only[tw,tq,or_false]at a
 rcases a with rfl | rfl | rfl<;>simp[rb,rb1]
def rcB(r:Rw):B:=.cells [.int .i64 r.id,.lst 3 false (r.vals.map aP)]
def rcB_rb(n:Nat)(r:Rw):rbB n (rcB r):=fun c a=>by
 simp only[tw,tq,or_false]at a
 rcases a with rfl | rfl<;>simp[rb,rb1]
def ochk_u(t:Tb)(d:Od)(f g f2 c:Bool)(h:TbOk t)(hl:d.l.length<=1000000)(hr:d.r.length<=1000000)(hv:validT t=0)(ho:odB t.attrs.length d=true):
  ak prog 210 [aD f g t,.fn 211 [.ptr 1 0]] [tcB t f g,ocB d f2 c] fun r H'=>r = .int .i64 0/\H'=[tcB t f g,ocB d f2 c]:=by
 have e:=gP t f g h;rw[hv]at e;have b:=oclo_u t.attrs.length d f2 c (tcB t f g) (tcB t f g) hl hr;rw[ho]at b;simp only[aD,LS,LR]at e
 refine eu ?_ (by simp[rb,rb1]) ⟨uA _,fun bl a=>by
  simp only[tw,tq,or_false]at a
  rcases a with rfl | rfl
  .exact cW _ _ _ _
  .exact ocB_rb _ _ _ _⟩
 simp only[ocB,tcB]at b ⊢;refine aH tok func210 rfl rfl ?_;refine wx ?_;simp -dsimp[f210,tg,aD,LS,LR];refine cPx e ?_;simp -dsimp;refine b.mono ?_;rintro r H' ⟨rfl,rfl⟩;simp -dsimp
def violO_u(t:Tb)(d:Od)(f g f2 e:Bool)(h:TbS t)(hl:d.l.length<=1000000)(hr:d.r.length<=1000000)(hv:validT t=0)(ho:odB t.attrs.length d=true):aK prog 153 [aD f g t,bT f2 e d] fun r=>r = .tup [LL false (prL (odP d) t.rows),.int .i64 0]:=by
 refine oQ ?_;have X:=tbC hv;have J:=ochk_u t d f g f2 e h.ok hl hr hv ho
 have D:iO t.attrs.length d.l/\iO t.attrs.length d.r:=by
  unfold odB at ho;rw[tt]at ho;exact⟨ol_ats ho.1,ol_ats ho.2⟩
 simp only[aD,LR,LS,tcB,ocB]at J;obtain⟨R,F⟩:=ξ t.rows;obtain⟨E,S⟩:=ξ (prL (odP d) R)
 have O:R.length<=8:=by rw[F];exact h.few
 have n:E.length<=64:=by rw[S];exact ug (fg R) (sq8 O)
 have m:∀r∈R,r.vals.length=t.attrs.length:=by rw[F];exact X.len
 have C:tcB t f g = .cells [.str t.name,.lst 1 f (t.attrs.map V.str),.lst 2 g (R.map aF)]:=by rw[F];rfl
 rw[<-F]at J ⊢;rw[<-S]
 have P:∀o:List (List Int),∀bl∈[B.cells [.str t.name,.lst 1 f (t.attrs.map V.str),.lst 2 g (R.map aF)],B.cells [.lst 1 f2 (d.l.map aG),.lst 1 e (d.r.map aG)],B.buf 58 1 (o.map (L1 true)) false],rbB 3 bl:=fun o bl b=>by
  simp only[tw,tq,or_false]at b
  rcases b with rfl | rfl | rfl
  .rw[<-C];exact cW _ _ _ _
  .exact ocB_rb _ _ _ _
  .exact oe _ _ _
 have j:∀(r:Rw) (o:List (List Int)),∀bl∈[B.cells [.str t.name,.lst 1 f (t.attrs.map V.str),.lst 2 g (R.map aF)],B.cells [.lst 1 f2 (d.l.map aG),.lst 1 e (d.r.map aG)],B.buf 58 1 (o.map (L1 true)) false,B.cells [.int .i64 r.id,.lst 3 false (r.vals.map aP)]],rbB 4 bl:=fun r o bl b=>by
  simp only[tw,tq,or_false]at b
  rcases b with rfl | rfl | rfl | rfl
  .rw[<-C];exact cW _ _ _ _
  .exact ocB_rb _ _ _ _
  .exact oe _ _ _
  .exact rcB_rb _ _
 refine bM (aH (tkf 58) func153 rfl rfl ?_);refine W_x (tkf 58) mixed ?_;simp -dsimp[f153,tg,aD,bT,LR,LS,F.symm,L1,aL];refine aM.mono (K:=fun r H'=>r = .int .i64 0/\H'=[B.cells [.str t.name,.lst 1 f (t.attrs.map V.str),.lst 2 g (R.map aF)],B.cells [.lst 1 f2 (d.l.map aG),.lst 1 e (d.r.map aG)]]) J ?_;rintro r H' ⟨rfl,rfl⟩;simp -dsimp[L1,aL];refine aI (bh 58 1 [7] ζ (W_loopM 51 0x7ffffffe00b80 zMx (σ:=Nat×List (List Int)) (fun p=>p.2++prL (odP d) (R.drop p.1)=E) (fun p=>R.length-p.1) (fun p=>[(21,.int .i64 p.1),(7,.buf 2 0 p.2.length p.2.length)]) (fun p=>[B.cells [.str t.name,.lst 1 f (t.attrs.map V.str),.lst 2 g (R.map aF)],B.cells [.lst 1 f2 (d.l.map aG),.lst 1 e (d.r.map aG)],B.buf 58 1 (p.2.map (L1 true)) false]) (0,[]) (by rw[S];rfl) ζ ζ ζ ?_));rintro⟨i,out⟩ hx N Q U T;simp only at hx;by_cases hb:i<R.length
 .rw[nU hb]at hx;have z:=m _ (ti hb);obtain⟨r,G⟩:=ξ (R[i]);rw[<-G]at hx z
  have A:∀x∈(R.map aF).drop (i+1),AM.Pure x:=fun x hx=>by
   obtain⟨y,_,rfl⟩:=List.mem_map.1 (vF hx);exact encRw_pure y
  have L:(R.map aF).take R.length=R.map aF:=uY ζ;refine W_x (tkf 58) mixed ?_;simp -dsimp[hb,G.symm,aF,LV,aE i ω,(ω:(0:Int)<=(i:Int)+1),(ω:i+1<=R.length),L,L1,aL];refine aI (W_loopM 50 0x3ffff00000880 zMx (σ:=Nat×List (List Int)) (fun p=>p.2++((((R.drop (i+1+p.1)).filter (odP d r)).map fun s=>[r.id,s.id])++prL (odP d) (R.drop (i+1)))=E) (fun p=>R.length-p.1) (fun p=>[(32,.int .i64 p.1),(7,.buf 2 0 p.2.length p.2.length)]) (fun p=>[B.cells [.str t.name,.lst 1 f (t.attrs.map V.str),.lst 2 g (R.map aF)],B.cells [.lst 1 f2 (d.l.map aG),.lst 1 e (d.r.map aG)],B.buf 58 1 (p.2.map (L1 true)) false,B.cells [.int .i64 r.id,.lst 3 false (r.vals.map aP)]]) (0,out) hx ζ ζ ζ ?_);rintro⟨k,v⟩ a Z Y H M;simp only at a;by_cases u:k<R.length-(i+1)
  .have c:i+1+k<R.length:=by omega
   rw[lR c]at a;have w:=m _ (ti c);obtain⟨s,q⟩:=ξ (R[i+1+k]);rw[<-q]at a w;have I:=kind_u r s d f2 e t.attrs.length z w hl hr D.1 D.2;simp only[aF,LV,bT,L1]at I
   have W:v.length<=64:=by rw[<-a]at n;simp only[uB]at n;omega
   by_cases hq:sC d r s=0
   .rw[hq]at I;rw[if_neg (by simp[odP,hq]),uL]at a;refine W_x (tkf 58) mixed ?_;simp -dsimp[u,c,q.symm,aF,LV,L1,aL];refine cPx I ?_;simp -dsimp[aE k ω,L1,aL];refine H (k+1,v) _ _ a θ ζ ⟨[B.cells [.int .i64 s.id,.lst 3 false (s.vals.map aP)]],ζ⟩ (by simp;exact A) (j _ _)
   .rw[if_pos (by simp[odP,hq])]at a;refine W_x (tkf 58) mixed ?_;simp -dsimp[u,c,q.symm,aF,LV,L1,aL];refine cPx I ?_;simp -dsimp[hq,eb v.length ω,bA v.length ω,aE k ω,L1,aL];refine H (k+1,v++[[r.id,s.id]]) _ _ (by rw[<-a];simp[vU]) θ ζ ⟨[B.cells [.int .i64 s.id,.lst 3 false (s.vals.map aP)]],by simp[aG,L1]⟩ (by simp;exact A) (j _ _)
  .rw[tj (show R.length<=i+1+k by omega)]at a;refine W_x (tkf 58) mixed ?_;simp -dsimp[u,L1,aL];apply M;simp -dsimp[aE i ω,L1,aL];refine U (i+1,v) _ _ (by simpa using a) θ ζ ⟨[B.cells [.int .i64 r.id,.lst 3 false (r.vals.map aP)]],ζ⟩ ζ (P _)
 .rw[tj (show R.length<=i by omega),prL,uC]at hx;subst hx;refine dv 2 [7] rfl ζ ?_;refine W_x (tkf 58) mixed ?_;simp -dsimp[hb,L1,aL];apply T;simp -dsimp[LT,L1,aL]
  skip
end
end Go.Proofs.YtnaokiodhoadjaaGreatDoor
section
namespace Go.Proofs.YtnaokiodhoadjaaGreatDoor
open Go Go.AM Go.Proofs.Tryz
end Go.Proofs.YtnaokiodhoadjaaGreatDoor
end
section
namespace Go.Proofs.YtnaokiodhoadjaaGreatDoor
open Go Go.AM Go.Proofs.Tryz
end Go.Proofs.YtnaokiodhoadjaaGreatDoor
end
section
namespace Go.Proofs.YtnaokiodhoadjaaGreatDoor
open Go Go.AM Go.Proofs.Tryz
end Go.Proofs.YtnaokiodhoadjaaGreatDoor
end
section
namespace Go.Proofs.YtnaokiodhoadjaaGreatDoor
open Go Go.AM Go.Proofs.Tryz
end Go.Proofs.YtnaokiodhoadjaaGreatDoor
end
