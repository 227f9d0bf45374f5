/- JB23: texts CF, joined and shortened by pack6.py. -/
import Derived.Test.YtnaokiodhoadjaaGreatDoorJB21
set_option linter.all false
set_option maxRecDepth 100000
set_option maxHeartbeats 64000000
open ByteArray renaming empty→tp
open List renaming replicate→tg,all_cons→vE,all_nil→xd
namespace Go.Proofs.YtnaokiodhoadjaaGreatDoor
section
open Go Go.AM Go.Proofs.Tryz
def zero_valid:bO zV=true:=by decide +kernel
def zeroV_eq{v:Vl}(h:nD v=true):v=zV:=(oK _ _).1 h
def clF_ref(c:Cl)(v:Vl):clF c v=(c.any||decide (dt v c.x=0)):=by
 unfold clF;congr 1;rw[vH,oK,decide_eq_true_eq,jA];exact⟨fun h=>h.symm,fun h=>h.symm⟩
theorem pd(n r b a:Int)(l:List Int):ascI n r b (a::l)=(decide (b<a)&&(decide (a<n)&&(!decide (a=r)&&ascI n r a l))):=rfl
theorem ascI_ats{n r:Int} : ∀{l:List Int} {b:Int},-1<=b->ascI n r b l=true->∀a∈l,0<=a/\a<n
 | [],_,_,_,a,h=>by cases h
 | x::l,b,hb,h,a,ha=>by
  rw[pd,tt,tt,tt,decide_eq_true_eq,decide_eq_true_eq]at h
  rcases List.mem_cons.1 ha with rfl | ha
  .exact⟨ω,h.2.1⟩
  .exact ascI_ats (b:=x) ω h.2.2.2 a ha
def valid1C(c:Cl):aK prog 204 [av c] fun r=>r = .bool (!clB c):=by
 have cv:=mO c.x;simp only[aP]at cv;unfold clB nD
 cases ha:c.any with
 | true =>
  rw[if_pos rfl]
  have hv:∀b,fI ⟨c.x.k,c.x.n,c.x.s⟩ ⟨0,0,tp⟩=b->fI c.x ⟨0,0,tp⟩=b:=fun b h=>h
  cases hz:fI ⟨c.x.k,c.x.n,c.x.s⟩ ⟨0,0,tp⟩ with
  | true =>
   refine sPx func204 ?_;simp -dsimp[f204,tg,av,ha,qV,hz]
  | false =>
   refine sPx func204 ?_;simp -dsimp[f204,tg,av,ha,qV,hz]
 | false =>
  rw[if_neg ζ];refine sPx func204 ?_;simp -dsimp[f204,tg,av,ha];refine cPx cv ?_;simp -dsimp
def validC_u(n:Nat)(c:Cfd)(f g:Bool)(hn:n<=16)(hl:c.l.length<=1000000)(hp:c.p.length<=1000000):aK prog 150 [.int .i64 n,ac f g c] fun r=>r = .bool (cfB n c):=by
 have n1:¬(n:Int)<0:=by omega
 have n2:¬(16:Int)<n:=by omega
 have wl:=aE c.l.length ω;unfold cfB;by_cases h1:0<=c.r
 case neg =>
  rw[decide_eq_false h1,uE];refine sPx func150 ?_;simp -dsimp[f150,tg,ac,L1,LCl,n1,n2,(ω:c.r<0)]
 rw[decide_eq_true h1,uF]
 have d:¬c.r<0:=by omega
 by_cases h2:c.r<n
 case neg =>
  rw[decide_eq_false h2,uE];refine sPx func150 ?_;simp -dsimp[f150,tg,ac,L1,LCl,n1,n2,d,(ω:(n:Int)<=c.r)]
 rw[decide_eq_true h2,uF]
 have e:¬(n:Int)<=c.r:=by omega
 by_cases k:c.p.length=c.l.length+1
 case neg =>
  rw[decide_eq_false k,uE];refine sPx func150 ?_;simp -dsimp[f150,tg,ac,L1,LCl,n1,n2,d,e,wl,k,(ω:¬(c.p.length:Int)=(c.l.length:Int)+1)]
 rw[decide_eq_true k,uF];obtain⟨E,w⟩:=ξ (ascI n c.r (-1) c.l);rw[<-w];refine sPx func150 ?_;simp -dsimp[f150,tg,ac,L1,LCl,n1,n2,d,e,wl,k,(ω:(c.p.length:Int)=(c.l.length:Int)+1)];refine aI (W_loopM 58 0x3ffffc0000000b0 zMx (σ:=Nat×Int) (fun p=>ascI n c.r p.2 (c.l.drop p.1)=E) (fun p=>c.l.length-p.1) (fun p=>[(38,.int .i64 p.1),(5,.int .i64 p.2)]) (fun _=>[B.cells [.lst 1 f (c.l.map aG),.int .i64 c.r,.lst 4 g (c.p.map av)]]) (0,-1) (by rw[w];rfl) ζ ζ ζ ?_);rintro⟨i,b⟩ hx N Q x j;simp only at hx;by_cases hi:i<c.l.length
 .rw[th hi,pd]at hx;obtain⟨a,ha⟩:=ξ (c.l[i]);rw[<-ha]at hx;by_cases q1:b<a
  case neg =>
   rw[decide_eq_false q1,uE]at hx;refine wx ?_;simp -dsimp[hi,ha.symm,aG,(ω:a<=b)];apply j;simp -dsimp;rw[<-hx];simp
  rw[decide_eq_true q1,uF]at hx;by_cases v:a<n
  case neg =>
   rw[decide_eq_false v,uE]at hx;refine wx ?_;simp -dsimp[hi,ha.symm,aG,(ω:¬a<=b),(ω:(n:Int)<=a)];apply j;simp -dsimp;rw[<-hx];simp
  rw[decide_eq_true v,uF]at hx;by_cases o:a=c.r
  .rw[decide_eq_true o,yJ,uE]at hx;have q:c.l[i]=c.r:=ha.symm.trans o;refine wx ?_;simp -dsimp[hi,q,aG,(ω:¬c.r<=b),(ω:¬(n:Int)<=c.r)];apply j;simp -dsimp;rw[<-hx];simp
  .rw[decide_eq_false o,xT,uF]at hx;refine wx ?_;simp -dsimp[hi,ha.symm,aG,(ω:¬a<=b),(ω:¬(n:Int)<=a),o,aE i ω];refine x (i+1,a) _ _ hx θ ζ ⟨_,rfl⟩ (by simp[aG]) (by simp[aG])
 .rw[tj ω]at hx;have t:true=E:=hx
  obtain⟨u,hu⟩:=ξ (c.p.any fun a=>!clB a)
  have h:(!u)=(E&&c.p.all clB):=by rw[hu,oY,<-t];rfl
  have s:=cont_L [B.cells [.lst 1 f (c.l.map aG),.int .i64 c.r,.lst 4 g (c.p.map av)]] (.fn 204 []) (fun a=>!clB a) c.p g hp (by simp[aG]) ζ (fun m _=>bQ (valid1C m) ζ);simp only[LCl]at s;refine wx ?_;simp -dsimp[hi];apply j;simp -dsimp;rw[<-hu]at s;refine aM.mono (K:=fun r H'=>r = .bool u/\H'=[B.cells [.lst 1 f (c.l.map aG),.int .i64 c.r,.lst 4 g (c.p.map av)]]) s ?_;rintro r H' ⟨rfl,rfl⟩;rw[<-h];simp -dsimp
def valid16(n:Nat)(c:Cfd)(f g:Bool)(hn:n<=16)(hl:c.l.length<=1000000)(hp:c.p.length<=1000000):aK prog 134 [.int .i64 n,ac f g c] fun r=>r = .bool (cfB n c):=by
 have n1:¬(n:Int)<0:=by omega
 have n2:¬(16:Int)<n:=by omega
 have wl:=aE c.l.length ω;unfold cfB;by_cases w:c.p.length=c.l.length+1
 case neg =>
  rw[decide_eq_false w,uE,vv,vv];refine sPx func134 ?_;simp -dsimp[f134,tg,ac,L1,LCl,n1,n2,wl,w,(ω:¬(c.p.length:Int)=(c.l.length:Int)+1)]
 by_cases h1:0<=c.r
 case neg =>
  rw[decide_eq_false h1,uE];refine sPx func134 ?_;simp -dsimp[f134,tg,ac,L1,LCl,n1,n2,wl,w,(ω:(c.p.length:Int)=(c.l.length:Int)+1),(ω:c.r<0)]
 rw[decide_eq_true h1,uF]
 have D:¬c.r<0:=by omega
 by_cases h2:c.r<n
 case neg =>
  rw[decide_eq_false h2,uE];refine sPx func134 ?_;simp -dsimp[f134,tg,ac,L1,LCl,n1,n2,wl,w,(ω:(c.p.length:Int)=(c.l.length:Int)+1),D,(ω:(n:Int)<=c.r)]
 rw[decide_eq_true h2,uF]
 have J:¬(n:Int)<=c.r:=by omega
 rw[decide_eq_true w,uF];obtain⟨E,R⟩:=ξ (ascI n c.r (-1) c.l);rw[<-R];obtain⟨G,z⟩:=ξ ((E&&c.p.all clB));rw[<-z];refine sPx func134 ?_;simp -dsimp[f134,tg,ac,L1,LCl,n1,n2,D,J,wl,w,(ω:(c.p.length:Int)=(c.l.length:Int)+1)];refine aI (W_loopM 85 0x1ffffffffffff800000030 zMx (σ:=Nat×Int) (fun p=>ascI n c.r p.2 (c.l.drop p.1)=E/\(p.1=0->p.2 = -1)/\(0<p.1->c.l[p.1-1]?=some p.2/\0<=p.2)) (fun p=>c.l.length-p.1) (fun p=>[(5,.int .i64 p.1)]) (fun _=>[B.cells [.lst 1 f (c.l.map aG),.int .i64 c.r,.lst 4 g (c.p.map av)]]) (0,-1) ⟨by rw[R];rfl,fun _=>rfl,fun h=>by simp at h⟩ ζ ζ ζ ?_);rintro⟨i,b⟩ ⟨hx,L,i1⟩ N Q O A;simp only at hx L i1;by_cases hi:i<c.l.length
 .rw[th hi,pd]at hx;obtain⟨a,ha⟩:=ξ (c.l[i]);rw[<-ha]at hx
  have e:0<=a->((i+1=0->a = -1)/\(0<i+1->c.l[i+1-1]?=some a/\0<=a)):=fun h=>⟨fun h=>by omega,fun _=>⟨by rw[wH,tm hi,ha],h⟩⟩
  by_cases p0:0<=a
  case neg =>
   have hb:¬b<a:=by
    rcases wz i with h | h
    .have:=L h;omega
    .have:=(i1 h).2;omega
   rw[decide_eq_false hb,uE]at hx;refine wx ?_;simp -dsimp[hi,ha.symm,aG,(ω:a<0)];refine sTx ?_;apply A;simp -dsimp;rw[z,<-hx];simp
  by_cases p1:a<n
  case neg =>
   have o:false=E:=by rw[<-hx,decide_eq_false p1];simp
   refine wx ?_;simp -dsimp[hi,ha.symm,aG,(ω:¬a<0),(ω:(n:Int)<=a)];refine sTx ?_;apply A;simp -dsimp;rw[z,<-o];simp
  by_cases v:a=c.r
  .have o:false=E:=by rw[<-hx,decide_eq_true v];simp
   have M:c.l[i]=c.r:=ha.symm.trans v;refine wx ?_;simp -dsimp[hi,M,aG,(ω:¬c.r<0),(ω:¬(n:Int)<=c.r)];refine sTx ?_;apply A;simp -dsimp;rw[z,<-o];simp
  rw[decide_eq_true p1,decide_eq_false v,xT,uF,uF]at hx
  rcases wz i with h | h
  .have hb:=L h;rw[decide_eq_true ω,uF]at hx;refine wx ?_;simp -dsimp[hi,ha.symm,aG,(ω:¬a<0),(ω:¬(n:Int)<=a),v,(ω:¬0<i),aE i ω];refine sTx ?_;refine O (i+1,a) _ _ ⟨hx,e p0⟩ θ ζ ⟨_,rfl⟩ (by simp[aG]) (by simp[aG])
  .obtain⟨P,T⟩:=i1 h
   have q:((i-1:Nat):Int)<c.l.length:=by omega
   by_cases hb:b<a
   .rw[decide_eq_true hb,uF]at hx;refine wx ?_;simp -dsimp[hi,ha.symm,aG,(ω:¬a<0),(ω:¬(n:Int)<=a),v,h,P,q,jz i ω h,(ω:¬a<=b),aE i ω];refine sTx ?_;refine O (i+1,a) _ _ ⟨hx,e p0⟩ θ ζ ⟨_,rfl⟩ (by simp[aG]) (by simp[aG])
   .rw[decide_eq_false hb,uE]at hx;refine wx ?_;simp -dsimp[hi,ha.symm,aG,(ω:¬a<0),(ω:¬(n:Int)<=a),v,h,P,q,jz i ω h,(ω:a<=b),aE i ω];refine sTx ?_;apply A;simp -dsimp;rw[z,<-hx];simp
 .rw[tj ω]at hx;have o:true=E:=hx;obtain⟨F,S⟩:=ξ (c.p.all clB)
  have u:G=F:=by rw[z,<-o,S];rfl
  refine wx ?_;simp -dsimp[hi];apply A;simp -dsimp;refine aI (W_loopM 111 0x7fffffe0000000000000000000d0 zMx (σ:=Nat) (fun j=>(c.p.drop j).all clB=F) (fun j=>c.p.length-j) (fun j=>[(6,.int .i64 j)]) (fun _=>[B.cells [.lst 1 f (c.l.map aG),.int .i64 c.r,.lst 4 g (c.p.map av)]]) 0 (by rw[S,uG]) ζ ζ ζ ?_);intro j d V U I t;by_cases q:j<c.p.length
  .rw[th q,vE]at d;obtain⟨y,m⟩:=ξ (c.p[j]);rw[<-m]at d;have cv:=valid01 y.x;simp only[aP]at cv
   cases ha:y.any with
   | true =>
    cases hz:nD y.x with
    | true =>
     have H:fI ⟨y.x.k,y.x.n,y.x.s⟩ ⟨0,0,tp⟩=true:=hz;rw[show clB y=true by unfold clB;rw[ha,if_pos rfl,hz],uF]at d;have K:fI ⟨0,0,tp⟩ ⟨0,0,tp⟩=true:=(oK _ _).2 rfl;have C:=zeroV_eq hz;rw[C,zero_valid]at cv;simp only[zV]at cv;refine wx ?_;simp -dsimp[q,m.symm,av,ha,qV,C,zV,K];refine cPx cv ?_;simp -dsimp[aE j ω];refine I (j+1) _ _ d ω ζ ⟨_,rfl⟩ (by simp[aG]) (by simp[aG])
    | false =>
     have H:fI ⟨y.x.k,y.x.n,y.x.s⟩ ⟨0,0,tp⟩=false:=hz;rw[show clB y=false by unfold clB;rw[ha,if_pos rfl,hz],uE]at d;refine wx ?_;simp -dsimp[q,m.symm,av,ha,qV,H];apply t;simp -dsimp;rw[u,<-d]
   | false =>
    cases hz:bO y.x with
    | true =>
     rw[show clB y=true by unfold clB;rw[ha,if_neg ζ,hz],uF]at d;rw[hz]at cv;refine wx ?_;simp -dsimp[q,m.symm,av,ha];refine cPx cv ?_;simp -dsimp[aE j ω];refine I (j+1) _ _ d ω ζ ⟨_,rfl⟩ (by simp[aG]) (by simp[aG])
    | false =>
     rw[show clB y=false by unfold clB;rw[ha,if_neg ζ,hz],uE]at d;rw[hz]at cv;refine wx ?_;simp -dsimp[q,m.symm,av,ha];refine cPx cv ?_;simp -dsimp;apply t;simp -dsimp;rw[u,<-d]
  .rw[tj ω,xd]at d;refine wx ?_;simp -dsimp[q];apply t;simp -dsimp;rw[u,<-d]
def fits16(v:Vl)(c:Cl)(h:v.s.size<=maxLen):aK prog 190 [aP v,av c] fun r=>r = .bool (clF c v):=by
 rw[clF_ref];have a:=gI v c.x h;simp only[aP]at a;obtain⟨q,hq⟩:=ξ (dt v c.x);rw[<-hq]at a ⊢
 cases ha:c.any with
 | true =>
  refine sPx func190 ?_;simp -dsimp[f190,tg,aP,av,ha]
 | false =>
  by_cases h0:q=0
  .refine sPx func190 ?_;simp -dsimp[f190,tg,aP,av,ha];refine cPx a ?_;simp -dsimp[h0]
  .refine sPx func190 ?_;simp -dsimp[f190,tg,aP,av,ha];refine cPx a ?_;simp -dsimp[h0]
def fits_u(c:Cl)(v:Vl):aK prog 207 [av c,aP v] fun r=>r = .bool (clF c v):=by
 unfold clF
 cases ha:c.any with
 | true =>
  refine sPx func207 ?_;simp -dsimp[f207,tg,aP,av,ha]
 | false =>
  refine sPx func207 ?_;simp -dsimp[f207,tg,aP,av,ha,qV]
def right_u(c:Cfd)(f g:Bool)(hp:c.p.length=c.l.length+1):aK prog 208 [ac f g c] fun r=>r=av (qZ c.p c.l.length):=by
 have hb:c.l.length<c.p.length:=by omega
 have he:qZ c.p c.l.length=c.p[c.l.length]:=by simp[qZ,hb]
 rw[he];obtain⟨k,hk⟩:=ξ c.l.length;simp only[<-hk]at hb ⊢;obtain⟨x,hx⟩:=ξ (c.p[k]);rw[<-hx];refine sPx func208 ?_;simp -dsimp[f208,tg,ac,L1,LCl,av,hk.symm,hb,hx.symm]
def left16(c:Cfd)(r:Rw)(f g f2:Bool)(n:Nat)(hv:r.vals.length=n)(ho:iO n c.l)(hp:c.p.length=c.l.length+1)(hl:c.l.length<=1000000)(hs:∀v∈r.vals,v.s.size<=maxLen):aK prog 189 [ac f g c,LV f2 r.vals] fun x=>x = .bool (gZ c r):=by
 obtain⟨E,o⟩:=ξ (gZ c r);rw[<-o];refine sPx func189 ?_;simp -dsimp[f189,tg,ac,L1,LCl,LV];refine aI (W_loopM 28 0xffffff0 zMx (σ:=Nat) (fun i=>pt c r i (c.l.drop i)=E) (fun i=>c.l.length-i) (fun i=>[(5,.int .i64 i)]) (fun _=>[B.cells [.lst 1 f (c.l.map aG),.int .i64 c.r,.lst 4 g (c.p.map av)]]) 0 (by rw[o];rfl) ζ ζ ζ ?_);intro i hx N Q q m;by_cases hi:i<c.l.length
 .rw[th hi,pt]at hx;obtain⟨h1,h2⟩:=ho _ (ti hi);obtain⟨k,hk⟩:=vM h1
  have b:k<r.vals.length:=by omega
  have d:i<c.p.length:=by omega
  have j:qZ c.p i=c.p[i]:=by simp[qZ,d]
  rw[hk,cQ b,j]at hx;have h:=hs _ (ti b);obtain⟨x,a⟩:=ξ (r.vals[k]);obtain⟨y,e⟩:=ξ (c.p[i]);rw[<-a,<-e]at hx;rw[<-a]at h;have cc:=fits16 x y h;simp only[aP,av]at cc
  cases hq:clF y x with
  | true =>
   rw[hq]at cc hx;refine wx ?_;simp -dsimp[hi,hk,aG,aP,av,b,d,a.symm,e.symm];refine sTx ?_;refine cQx cc ?_;simp -dsimp[aE i ω];refine q (i+1) _ _ (by simpa using hx) ω ζ ⟨_,rfl⟩ (by simp[aG]) (by simp[aG])
  | false =>
   rw[hq]at cc hx;refine wx ?_;simp -dsimp[hi,hk,aG,aP,av,b,d,a.symm,e.symm];refine sTx ?_;refine cQx cc ?_;simp -dsimp;apply m;simp -dsimp;simpa using hx
 .rw[tj ω,pt]at hx;refine wx ?_;simp -dsimp[hi];apply m;simp -dsimp;rw[<-hx]
def left_u(c:Cfd)(r:Rw)(f g f2:Bool)(n:Nat)(hv:r.vals.length=n)(ho:iO n c.l)(hp:c.p.length=c.l.length+1)(hl:c.l.length<=1000000):aK prog 206 [ac f g c,LV f2 r.vals] fun x=>x = .bool (gZ c r):=by
 obtain⟨E,m⟩:=ξ (gZ c r);rw[<-m];refine sPx func206 ?_;simp -dsimp[f206,tg,ac,L1,LCl,LV];refine aI (W_loopM 27 0x7fffc70 zMx (σ:=Nat) (fun i=>pt c r i (c.l.drop i)=E) (fun i=>c.l.length-i) (fun i=>[(10,.int .i64 i)]) (fun _=>[B.cells [.lst 1 f (c.l.map aG),.int .i64 c.r,.lst 4 g (c.p.map av)]]) 0 (by rw[m];rfl) ζ ζ ζ ?_);intro i hx N Q o j;by_cases hi:i<c.l.length
 .rw[th hi,pt]at hx;obtain⟨h1,h2⟩:=ho _ (ti hi);obtain⟨k,hk⟩:=vM h1
  have b:k<r.vals.length:=by omega
  have e:i<c.p.length:=by omega
  have h:qZ c.p i=c.p[i]:=by simp[qZ,e]
  rw[hk,cQ b,h]at hx;obtain⟨x,a⟩:=ξ (r.vals[k]);obtain⟨y,d⟩:=ξ (c.p[i]);rw[<-a,<-d]at hx;have cc:=fits_u y x;simp only[aP,av]at cc
  cases hq:clF y x with
  | true =>
   rw[hq]at cc hx;refine wx ?_;simp -dsimp[hi,hk,aG,aP,av,b,e,a.symm,d.symm];refine sTx ?_;refine cQx cc ?_;simp -dsimp[aE i ω];refine o (i+1) _ _ (by simpa using hx) ω ζ ⟨_,rfl⟩ (by simp[aG]) (by simp[aG])
  | false =>
   rw[hq]at cc hx;refine wx ?_;simp -dsimp[hi,hk,aG,aP,av,b,e,a.symm,d.symm];refine sTx ?_;refine cQx cc ?_;simp -dsimp;apply j;simp -dsimp;simpa using hx
 .rw[tj ω,pt]at hx;refine wx ?_;simp -dsimp[hi];apply j;simp -dsimp;rw[<-hx]
end
end Go.Proofs.YtnaokiodhoadjaaGreatDoor
