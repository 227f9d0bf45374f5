/- JB18: texts V8, V9, V10, V11, X1, X2, joined and shortened by pack6.py. -/
import Derived.Test.YtnaokiodhoadjaaGreatDoorJB17
set_option linter.all false
set_option maxRecDepth 100000
set_option maxHeartbeats 64000000
open Int renaming natCast_mul→wm
open List renaming replicate→tg,range→tr,nil_append→uL,cons_append→ur,getElem?_cons_succ→vC,all_cons→vE,getElem?_cons_zero→vI,any_cons→vi,set_cons_zero→wZ,set_cons_succ→xA
namespace Go.Proofs.YtnaokiodhoadjaaGreatDoor
section
open Go Go.AM Go.Proofs.Tryz
def paR(c:Nat):List V:=paL (tr c)
theorem paR_zero:paR 0=[]:=rfl
theorem knL_zero(K:Nat->Option Vl):knL K 0=[]:=rfl
def paR_pure(c:Nat):∀x∈paR c,AM.Pure x/\cC x=true:=paL_pure _
@[simp ↓ high] theorem rb_paR (k e z c:Nat) (fz:Bool):rbB k (.buf e z (paR c) fz)↔True:=rbB_buf1 (paR_pure c)
@[simp ↓ high] theorem rb_paL (k e z:Nat) (P:List Nat) (fz:Bool):rbB k (.buf e z (paL P) fz)↔True:=rbB_buf1 (paL_pure P)
@[simp ↓ high] theorem rb_knL (K:Nat->Option Vl) (k e z c:Nat) (fz:Bool):rbB k (.buf e z (knL K c) fz)↔True:=rbB_buf1 (knL_pure K c)
def paR_len(c:Nat):(paR c).length=c:=by simp[paR,paL]
def paR_succ(c:Nat):paR (c+1)=paR c++[.int .i64 c]:=by simp[paR,paL,ue,encN]
def knL_succ(K:Nat->Option Vl)(c:Nat):knL K (c+1)=knL K c++[fm (K c)]:=by simp[knL,ue]
def iY(H:List B)(b a:Bool)(t:Tb)(K:Nat->Option Vl):List B:=H++[B.cells [.str t.name,LS b t.attrs,LR a t.rows],B.cells [.int .i64 t.attrs.length,.buf (H.length+2) 0 (t.rows.length*t.attrs.length) (t.rows.length*t.attrs.length),.buf (H.length+3) 0 (t.rows.length*t.attrs.length) (t.rows.length*t.attrs.length)],B.buf 3 1 (paR (t.rows.length*t.attrs.length)) false,B.buf 174 1 (knL K (t.rows.length*t.attrs.length)) false]
def begin1(t:Tb)(I J cf:Bool)(fds:List Fd)(cells:List Cr)(hv:TbV t)(hs:aS cells)(O:cells.length<=1000000)(b0:B)(hb:∀bl∈[b0],rbB 1 bl):
  ak prog 72 [aD I J t,LC cf cells] [b0] fun r' H'=>r' = .ptr 2 0/\H'=iY [b0] I J t (aQ t fds cells).K:=by
 have hm:=hv.rows;have hn:=hv.attrs;obtain⟨K,v⟩:=ξ ((aQ t fds cells).K);rw[<-v];obtain⟨n,b⟩:=ξ t.attrs.length;obtain⟨m,E⟩:=ξ t.rows.length;have e:=b.symm;have q:=E.symm;rw[e]at hn;rw[q]at hm
 have u:∀k,1<=k->rbB k b0:=fun k hk=>gV hk (hb _ ζ)
 refine aH tok func72 rfl rfl ?_;refine wx ?_;simp -dsimp[f72,tg,aD,LS,LR,e,q];refine aI (cx 3 1 [] 2 [1] rfl (iD _ _) ζ (cx 174 1 [] 2 [2] rfl (iD _ _) ζ (W_loopM 77 0x1ffffffffffffff80780 zMx (σ:=Nat×Nat) (fun p=>p.1<=m/\p.2=p.1*n) (fun p=>m-p.1) (fun p=>[(19,.int .i64 p.1)]) (fun p=>[b0,B.cells [.str t.name,.lst 1 I (t.attrs.map V.str),.lst 2 J (t.rows.map aF)],B.cells [.int .i64 n,.buf 3 0 p.2 p.2,.buf 4 0 p.2 p.2],B.buf 3 1 (paR p.2) false,B.buf 174 1 (knL K p.2) false]) (0,0) ⟨ζ,ζ⟩ ζ (by simp[paR_zero,knL_zero]) ζ ?_)));rintro⟨i,c⟩ ⟨hi,M⟩ N Q U Y;simp only at hi M U;by_cases s:i<m
 .have hit:i<t.rows.length:=by omega
  obtain⟨rw,o⟩:=ξ (t.rows[i]);have y:=o.symm
  have ad:rw.vals.length=n:=by rw[o,b];exact hv.len _ (ti hit)
  refine wx ?_;simp -dsimp[s,y,aF,hit,LV,e];refine aI (W_loopM 76 0xffffffffffffc000700 zMx (σ:=Nat×Nat) (fun p=>p.1<=n/\p.2=i*n+p.1) (fun p=>n-p.1) (fun p=>[(26,.int .i64 p.1)]) (fun p=>[b0,B.cells [.str t.name,.lst 1 I (t.attrs.map V.str),.lst 2 J (t.rows.map aF)],B.cells [.int .i64 n,.buf 3 0 p.2 p.2,.buf 4 0 p.2 p.2],B.buf 3 1 (paR p.2) false,B.buf 174 1 (knL K p.2) false,B.cells [.int .i64 rw.id,.lst 3 false (rw.vals.map aP)]]) (0,c) ⟨ζ,by simp[M]⟩ ζ ζ ζ ?_);rintro⟨a,j⟩ ⟨ha,l⟩ N2 Q2 w L;simp only at ha l w;by_cases d:a<n
  .have Z:=bc s d;have X:m*n<=1000*16:=wS hm hn;have z:=paR_len j;have D:=ni K j;have G:=paR_succ j;have f:=knL_succ K j
   have H:bZ t (i*n+a)=⟨rw.id,(a:Int)⟩:=by
    rw[b,la t (b▸d),cS hit,<-o]
   have T:eG t (i*n+a)=vAt5 rw.vals a:=by
    rw[b,qf t (b▸d),cS hit,<-o]
   have g:=oV cells ⟨rw.id,(a:Int)⟩ cf O;simp only[ab]at g;have r:=tQ hs ⟨rw.id,(a:Int)⟩;have hcap:=jx j ω
   cases hq:bsF5 cells ⟨rw.id,(a:Int)⟩ with
   | true =>
    rw[hq]at g
    have x:K j=none:=by rw[v,l];exact nS (by rw[H];exact r.1 hq)
    rw[x]at f;refine wx ?_;simp -dsimp[d];refine aI (ae tok mixed [11,14] [(0,[1])] [] υ fun C K W F=>?_);simp -implicitDefEqProofs [z,hcap];apply F;simp -dsimp;refine cPx g ?_;simp -dsimp[D,hcap,aE a ω,fm];refine w (a+1,j+1) _ _ ⟨θ,θ⟩ θ ζ ⟨[],by simp[G,f,fm]⟩ (by simp[LC]) (by simp[↓u])
   | false =>
    rw[hq]at g
    have x:K j=some (vAt5 rw.vals a):=by rw[v,l,<-T];exact ij (by rw[H];exact fun h=>by rw[r.2 h]at hq;cases hq)
    rw[x]at f
    have A:a<rw.vals.length:=by omega
    have P:=lB A;rw[P]at f;refine wx ?_;simp -dsimp[d];refine aI (ae tok mixed [11,14] [(0,[1])] [] υ fun C K W F=>?_);simp -implicitDefEqProofs [z,hcap];apply F;simp -dsimp;refine cPx g ?_;simp -dsimp;refine aI (ae tok mixed [10,13] [(0,[1])] [] υ fun C K W F=>?_);simp -implicitDefEqProofs [D,hcap,A,aP,fm];apply F;simp -dsimp[aE a ω];refine w (a+1,j+1) _ _ ⟨θ,θ⟩ θ ζ ⟨[],by simp[G,f,fm]⟩ (by simp[LC]) (by simp[↓u])
  .have R:a=n:=by omega
   subst R;refine wx ?_;simp -dsimp[d];apply L;simp -dsimp[aE i ω];refine U (i+1,j) _ _ ⟨θ,by simp only;rw[l,uR];omega⟩ θ ζ ⟨_,rfl⟩ (by simp[LC]) (by simp[↓u])
 .have S:i=m:=by omega
  subst S;refine wx ?_;simp -dsimp[s];apply Y;simp -dsimp;simp[iY,LS,LR,<-E,<-b,M]
@[simp ↓ high] theorem rbB_LC (n e z:Nat) (l:List Cr) (fz:Bool):rbB n (.buf e z (l.map ab) fz)↔True:=rbB_buf1 (fun x hx=>by
 obtain⟨c,_,rfl⟩:=List.mem_map.1 hx
 exact⟨encCr_pure c,rfl⟩)
def begOk(H:List B)(c d:Bool)(t:Tb)(K:Nat->Option Vl)(hb:∀bl∈H,rbB H.length bl):HOk (iY H c d t K) (H.length+1) (H.length+2) (H.length+3) t.attrs.length (t.rows.length*t.attrs.length) K:=by
 have b:(iY H c d t K).length=H.length+4:=by simp[iY]
 refine⟨?_,ω,?_,ω,ω,fun P bl a=>?_⟩
 .unfold iY;rw[uD ω];simp
 .unfold iY;rw[uD ω];simp
 .rw[b];unfold Ht iY at a;rw[uq _ _ ω]at a
  rcases List.mem_append.1 a with h | h
  .exact gV ω (hb bl h)
  .simp only[(ω:H.length+2-H.length=2),xA,wZ,tw,tq,or_false]at h
   rcases h with rfl | rfl | rfl | rfl
   .simp[LS,LR]
   .simp
   .simp
   .simp
def begHt(H:List B)(b a:Bool)(t:Tb)(K:Nat->Option Vl):Ht (iY H b a t K) (H.length+2) (tr (t.rows.length*t.attrs.length))=iY H b a t K:=by
 unfold Ht iY;rw[uq _ _ ω];simp only[(ω:H.length+2-H.length=2),xA,wZ];rfl
def mW{t:Tb}(hv:TbV t):t.rows.length*t.attrs.length<=1000000:=by
 have:=wS hv.rows hv.attrs;omega
def enough_u(t:Tb)(d e v cf:Bool)(fds:List Fd)(cells:List Cr)(hv:TbV t)(z:ef fds)(hs:aS cells)(l:cells.length<=1000000):
  aK prog 36 [aD d e t,LF v fds,LC cf cells] fun r=>r = .bool (okB (aQ t fds cells)):=by
 obtain⟨b0,h⟩:=ξ (B.cells [.str t.name,.lst 1 d (t.attrs.map V.str),.lst 2 e (t.rows.map aF)])
 have i:∀bl∈[b0],rbB 1 bl:=by rw[h];simp
 have k:=begin1 t d e cf fds cells hv hs l b0 i;have g:=begOk [b0] d e t (aQ t fds cells).K i;have c:=fill_u (frt_init (aQ t fds cells)) (rfl:(aQ t fds cells).m*(aQ t fds cells).n=_) rfl g (mW hv) hv.attrs (by have:=hv.rows;show t.rows.length<=_;omega) v z;have p:=begHt [b0] d e t (aQ t fds cells).K;rw[show tr ((aQ t fds cells).m*(aQ t fds cells).n)=tr (t.rows.length*t.attrs.length) from rfl]at c;rw[p]at c;have c:=c.mono (K':=fun w H'=>w = .bool (okB (aQ t fds cells))/\H'=Ht (iY [b0] d e t (aQ t fds cells).K) 3 (sX (aQ t fds cells) (tr (t.rows.length*t.attrs.length)))++fillT (aQ t fds cells) (tr (t.rows.length*t.attrs.length))) (fun r H ⟨a,b,_⟩=>⟨a,b⟩);obtain⟨q,f⟩:=ξ (iY [b0] d e t (aQ t fds cells).K);obtain⟨y,o⟩:=ξ (Ht (iY [b0] d e t (aQ t fds cells).K) 3 (sX (aQ t fds cells) (tr (t.rows.length*t.attrs.length)))++fillT (aQ t fds cells) (tr (t.rows.length*t.attrs.length)));obtain⟨R,u⟩:=ξ (okB (aQ t fds cells));rw[<-f]at k;rw[<-o,<-u,<-f]at c;rw[<-u]
 have j:q[0]?=some b0:=by rw[f];rfl
 rw[h]at j;rw[h]at k;simp only[show(aQ t fds cells).m=t.rows.length from rfl,show(aQ t fds cells).fds=fds from rfl]at c;simp only[aD,LS,LR,LC]at k;simp only[LF]at c;refine sPx func36 ?_;simp -dsimp[f36,tg,aD,LS,LR,LC,LF];refine .inl (aI (ae tok mixed [2,7] [(4,[0]),(5,[0])] [(.ptr 2 0,q),(.bool R,y)] υ fun C K s x=>?_));simp -implicitDefEqProofs [j];refine⟨⟨s _ _ _ _ k,s _ _ _ _ c⟩,x _ _ ?_⟩;simp -dsimp
noncomputable def fH(t:Tb)(l:List Cr)(x:Nat):List Cr:=open Classical in ((tr x).map (bZ t)).filter fun c=>decide (c∉l)
theorem othTo_all(t:Tb)(l:List Cr):fH t l (t.rows.length*t.attrs.length)=cH t l:=rfl
theorem rl(t:Tb)(l:List Cr):fH t l 0=[]:=rfl
def othTo_in{t:Tb}{l:List Cr}{x:Nat}(h:bZ t x∈l):fH t l (x+1)=fH t l x:=by
 unfold fH;rw[ue,uu,vK];simp[h]
def othTo_out{t:Tb}{l:List Cr}{x:Nat}(h:bZ t x∉l):fH t l (x+1)=fH t l x++[bZ t x]:=by
 unfold fH;rw[ue,uu,vK];simp[h]
def othTo_len(t:Tb)(l:List Cr)(x:Nat):(fH t l x).length<=x:=by
 unfold fH;exact ug (uU _ _) ζ
def tO(n:Nat)(h:n<=1000000000):n<=9223372036854775806/\(n+1)*16<=140737488355328:=by omega
def all_u(t:Tb)(H I cf:Bool)(b:List Cr)(hv:TbV t)(hs:aS b)(E:b.length<=1000000):aK prog 39 [aD H I t,LC cf b] fun r=>r=LC false (cH t b):=by
 have hm:=hv.rows;have hn:=hv.attrs;obtain⟨n,j⟩:=ξ t.attrs.length;obtain⟨m,z⟩:=ξ t.rows.length;have e:=j.symm;have o:=z.symm;rw[e]at hn;rw[o]at hm;refine sPx func39 ?_;simp -dsimp[f39,tg,aD,LS,LR,e,o];refine aI (bh 101 2 [5] ζ (W_loopM 43 0x7ffffff8fa0 zMx (σ:=Nat×Nat) (fun p=>p.1<=m/\p.2=p.1*n) (fun p=>m-p.1) (fun p=>[(15,.int .i64 p.1),(5,.buf 1 0 (fH t b p.2).length (fH t b p.2).length)]) (fun p=>[B.cells [.str t.name,.lst 1 H (t.attrs.map V.str),.lst 2 I (t.rows.map aF)],B.buf 101 2 ((fH t b p.2).map ab) false]) (0,0) ⟨ζ,ζ⟩ (by simp[rl]) (by simp[rl]) ζ ?_));rintro⟨i,c⟩ ⟨hi,D⟩ N Q J L;simp only at hi D J;by_cases u:i<m
 .have hit:i<t.rows.length:=by omega
  obtain⟨rw,A⟩:=ξ (t.rows[i]);have y:=A.symm;refine wx ?_;simp -dsimp[u,y,aF,hit,LV,e];refine aI (W_loopM 42 0x3ffffc00f20 zMx (σ:=Nat×Nat) (fun p=>p.1<=n/\p.2=i*n+p.1) (fun p=>n-p.1) (fun p=>[(22,.int .i64 p.1),(5,.buf 1 0 (fH t b p.2).length (fH t b p.2).length)]) (fun p=>[B.cells [.str t.name,.lst 1 H (t.attrs.map V.str),.lst 2 I (t.rows.map aF)],B.buf 101 2 ((fH t b p.2).map ab) false,B.cells [.int .i64 rw.id,.lst 3 false (rw.vals.map aP)]]) (0,c) ⟨ζ,by simp[D]⟩ ζ ζ ζ ?_);rintro⟨a,k⟩ ⟨ha,s⟩ R P w C;simp only at ha s w;by_cases f:a<n
  .have M:=bc u f;have K:m*n<=1000*16:=wS hm hn;have O:=othTo_len t b k
   have v:bZ t k=⟨rw.id,(a:Int)⟩:=by
    rw[s,j,la t (j▸f),cS hit,<-A]
   have g:=oV b ⟨rw.id,(a:Int)⟩ cf E;simp only[ab]at g;have q:=tQ hs ⟨rw.id,(a:Int)⟩
   cases hq:bsF5 b ⟨rw.id,(a:Int)⟩ with
   | true =>
    rw[hq]at g;have d:=othTo_in (t:=t) (l:=b) (x:=k) (by rw[v];exact q.1 hq);refine wx ?_;simp -dsimp[f];refine cPx g ?_;simp -dsimp[aE a ω];refine w (a+1,k+1) _ _ ⟨θ,θ⟩ θ (by simp[d]) ⟨[B.cells [.int .i64 rw.id,.int .i64 a]],by simp[d]⟩ (by simp[LC]) ζ
   | false =>
    rw[hq]at g;have d:=othTo_out (t:=t) (l:=b) (x:=k) (by rw[v];exact fun h=>by rw[q.2 h]at hq;cases hq);rw[v]at d;refine wx ?_;simp -dsimp[f];refine cPx g ?_;simp -dsimp[tO (fH t b k).length ω,aE a ω];refine w (a+1,k+1) _ _ ⟨θ,θ⟩ θ (by simp[d]) ⟨[B.cells [.int .i64 rw.id,.int .i64 a]],by simp[d,ab]⟩ (by simp[LC]) ζ
  .have F:a=n:=by omega
   subst F;refine wx ?_;simp -dsimp[f];apply C;simp -dsimp[aE i ω];refine J (i+1,k) _ _ ⟨θ,by simp only;rw[s,uR];omega⟩ θ ζ ⟨_,rfl⟩ (by simp[LC]) ζ
 .have G:i=m:=by omega
  subst G;refine wx ?_;simp -dsimp[u];apply L;simp -dsimp;rw[<-othTo_all,<-z,<-j,<-D];exact dr rfl ζ ζ
def kS(t:Tb)(hv:TbV t)(l:List Cr):(cH t l).length<=1000000:=by
 have h:=othTo_len t l (t.rows.length*t.attrs.length);rw[othTo_all]at h;have:=mW hv;omega
def necessary_u(t:Tb)(b c e cf:Bool)(fds:List Fd)(cells:List Cr)(hv:TbV t)(g:ef fds)(hs:aS cells)(a:cells.length<=1000000):
  aK prog 77 [aD b c t,LF e fds,LC cf cells] fun r=>r = .bool (necB t fds cells):=by
 have d:=all_u t b c cf cells hv hs a;have f:=enough_u t b c e false fds (cH t cells) hv g (hv.sorted_others cells) (kS t hv cells);rw[necB_eq];simp only[aD,LS,LR,LC,LF]at d f;refine sPx func77 ?_;simp -dsimp[f77,tg,aD,LS,LR,LC,LF];refine sTx ?_;refine cQx d ?_;simp -dsimp;refine cQx f ?_;simp -dsimp
section
def or_lt{a b n:Nat} : a ||| b<2^n↔a<2^n/\b<2^n:=by
 constructor
 .intro h;exact⟨vO Nat.left_le_or h,vO Nat.right_le_or h⟩
 .rintro⟨h1,h2⟩;exact wh h1 h2
def shr325(a n:Nat)(hn:n<=16):((a:Int)).fdiv (2^min n IntKind.u32.bits)=((a / 2^n:Nat):Int):=by
 have h1:min n IntKind.u32.bits=n:=xp (by show n<=32;omega);rw[h1,wO _ (by have:(0:Int)<2^n:=Int.pow_pos ω;omega)];simp
def fdOk_or(n:Nat)(d:Fd):fdOk n d=decide ((d.l ||| d.r) / 2^n=0):=by
 rw[vH,decide_eq_true_iff,Nat.div_eq_zero_iff_lt (Nat.pow_pos ω),or_lt];unfold fdOk;simp
def closureValid(n:Nat)(fds:List Fd)(f:Bool)(hn:n<=16)(m:ef fds):aK prog 65 [.int .i64 n,LF f fds] fun r=>r = .int .i64 (dO n fds):=by
 obtain⟨k,e⟩:=m
 have a:¬(16:Int)<n:=by omega
 have c:¬(n:Int)<0:=by omega
 unfold dO;by_cases b:64<fds.length
 .rw[if_pos b];refine sPx func65 ?_;simp -dsimp[f65,tg,LF,c,a,(ω:(64:Int)<fds.length)]
 .rw[if_neg b]
  obtain⟨E,h⟩:∃E:Int,E=if fds.all (fdOk n) then 0 else 1:=⟨_,rfl⟩
  rw[<-h];refine sPx func65 ?_;simp -dsimp[f65,tg,LF,c,a,(ω:¬(64:Int)<fds.length)];refine aI (W_loopM 31 0x7ffc0050 zMx (σ:=Nat) (fun i=>i<=fds.length/\(if(fds.drop i).all (fdOk n) then(0:Int) else 1)=E) (fun i=>fds.length-i) (fun i=>[(18,.int .i64 i)]) (fun _=>[]) 0 ⟨ω,by rw[h,uG]⟩ ζ rfl ζ ?_);rintro i ⟨hi,hx⟩ N Q j g;by_cases hb:i<fds.length
  .rw[th hb,vE,fdOk_or]at hx;obtain⟨h1,h2⟩:=e fds[i] (ti hb);have ho:=or32 fds[i].l fds[i].r h1 h2;have hs:=shr325 (fds[i].l ||| fds[i].r) n hn;obtain⟨q,hq⟩:=ξ ((fds[i].l ||| fds[i].r) / 2^n);rw[<-hq]at hs hx
   obtain⟨o,d⟩:=ξ (fds[i].l ||| fds[i].r)
   rw[<-d]at ho hs;by_cases h0:q=0
   .rw[decide_eq_true h0,uF]at hx;rw[h0]at hs;refine wx ?_;simp -dsimp[hb,dY,ho,hs,aE i ω];refine j (i+1) _ _ ⟨ω,hx⟩ ω ?_ ⟨[B.cells [.int .u32 (fds[i].l:Int),.int .u32 (fds[i].r:Int)]],?_⟩ ?_ ?_<;>simp[or_imp,forall_and,L1,aG,LF]
   .rw[decide_eq_false h0,uE,if_neg ζ]at hx;refine wx ?_;simp -dsimp[hb,dY,ho,hs,(ω:¬((q:Int)=0)),h0];apply g;simp -dsimp;exact hx
  .rw[tj ω]at hx;refine wx ?_;simp -dsimp[hb];apply g;simp -dsimp;simpa using hx
open Classical in
noncomputable def mI(l:List Cr):Bool:=decide (aS l)
def lD{l:List Cr} : mI l=true↔aS l:=by unfold mI;simp
def qM{l:List Cr}(h:∀j (h:j+1<l.length),cLt l[j] l[j+1]):aS l:=by
 unfold aS;rw[xF];intro i j hi a b
 induction j with
 | zero=>omega
 | succ j c =>
  rcases uP i j with h1 | h1
  .exact ew (c ω h1) (h j a)
  .have:i=j:=by omega
   subst this;exact h i a
def sortB_no{l:List Cr}{j:Nat}(h:j+1<l.length)(hn:¬cLt l[j] l[j+1]):mI l=false:=by
 cases hb:mI l
 .rfl
 .exact absurd (en (lD.1 hb) ω h ω) hn
def ordered_u(l:List Cr)(f:Bool)(hl:l.length<=1000000):aK prog 66 [LC f l] fun r=>r = .bool (mI l):=by
 obtain⟨E,a⟩:=ξ (mI l);rw[<-a];refine sPx func66 ?_;simp -dsimp[f66,tg,LC];refine aI (W_loopM 21 0x1ffffc zMx (σ:=Nat) (fun i=>1<=i/\∀j (h:j+1<l.length),j+1<i->cLt l[j] l[j+1]) (fun i=>l.length-i) (fun i=>[(3,.int .i64 i)]) (fun _=>[]) 1 ⟨ω,fun j _ h=>by omega⟩ ζ rfl ζ ?_);rintro i ⟨hi,hx⟩ N Q o m;by_cases hb:i<l.length
 .obtain⟨k,b⟩:∃k,i=k+1:=⟨i-1,ω⟩
  have hk:k<l.length:=by omega
  have d:=pX l[k] l[i]
  have n:IntKind.i64.wrap ((i:Int)-1)=(k:Int):=by rw[jz i ω hi];omega
  simp only[ab]at d;by_cases hq:cP l[k] l[i]<0
  .have e:=(ft _ _).1 hq;refine wx ?_;simp -dsimp[hb,n,hk,ab];refine sTx ?_;refine cQx d ?_;simp -dsimp[(ω:¬0<=cP l[k] l[i]),aE i ω];refine o (i+1) _ _ ⟨ω,fun j h p=>?_⟩ ω ζ ⟨[],rfl⟩ ζ ζ
   rcases uP j k with h1 | h1
   .exact hx j h ω
   .have:j=k:=by omega
    subst this;subst b;exact e
  .have g:mI l=false:=by
    subst b;exact sortB_no hb (fun h=>hq ((ft _ _).2 h))
   rw[g]at a;refine wx ?_;simp -dsimp[hb,n,hk,ab];refine sTx ?_;refine cQx d ?_;simp -dsimp[(ω:0<=cP l[k] l[i])];apply m;simp -dsimp;exact a
 .have c:mI l=true:=lD.2 (qM fun j h=>hx j h ω);rw[c]at a;refine wx ?_;simp -dsimp[hb];apply m;simp -dsimp;exact a
def ixR(p:Rw->Bool)(rs:List Rw)(i:Nat):Int:=if h:i<rs.length then(if p rs[i] then(i:Int) else ixR p rs (i+1)) else -1
termination_by rs.length-i
def ixR_any(p:Rw->Bool)(rs:List Rw)(i:Nat):decide (0<=ixR p rs i)=(rs.drop i).any p:=by
 fun_induction ixR p rs i with
 | case1 i h h0=>rw[th h,vi,h0];simp
 | case2 i h h0 a=>rw[th h,vi,a];simp[h0]
 | case3 i h=>rw[tj ω];rfl
def idxFuncR(H:List B)(c:V)(p:Rw->Bool)(rs:List Rw)(g:Bool)(f:rs.length<=1000000)(h:∀bl∈H,rbB H.length bl)(b:rb H.length c)
  (hp:∀m∈rs,aM prog c [aF m] H fun r H'=>r = .bool (p m)/\∃G,H'=H++G):ak prog 52 [LR g rs,c] H fun r H'=>r = .int .i64 (ixR p rs 0)/\∃G,H'=H++G:=by
 refine aH tok func52 rfl rfl ?_;refine wx ?_;simp -dsimp[f52,tg,LR];refine aI (W_loopM 19 0x7ff30 zMx (σ:=Nat) (fun i=>ixR p rs i=ixR p rs 0) (fun i=>rs.length-i) (fun i=>[(8,.int .i64 i)]) (fun _=>H) 0 rfl ζ rfl ζ ?_);intro i hx N Q e d;by_cases hb:i<rs.length
 .rw[ixR,dif_pos hb]at hx;have a:=hp rs[i] (ti hb);cases hq:p rs[i]
  .rw[hq]at a hx;simp only[aF,LV]at a;refine wx ?_;simp -dsimp[hb,aF,LV];refine a.mono ?_;rintro r H' ⟨rfl,G,rfl⟩;simp -dsimp[aE i ω];refine e (i+1) _ _ (by simpa using hx) ω ζ ⟨G,rfl⟩ (by simp;exact b) h
  .rw[hq]at a hx;simp only[aF,LV]at a;refine wx ?_;simp -dsimp[hb,aF,LV];refine a.mono ?_;rintro r H' ⟨rfl,G,rfl⟩;simp -dsimp;apply d;simp -dsimp;simpa using hx
 .rw[ixR,dif_neg hb]at hx;refine wx ?_;simp -dsimp[hb];apply d;simp -dsimp;simpa using hx
def hasId(t:Tb)(id:Int):Bool:=t.rows.any fun r=>r.id == id
def nw(t:Tb)(id:Int):Int:=ixR (fun r=>r.id == id) t.rows 0
def findI_has(t:Tb)(id:Int):decide (0<=nw t id)=hasId t id:=by
 have:=ixR_any (fun r=>r.id == id) t.rows 0;rw[uG]at this;exact this
def find_t(t:Tb)(d a:Bool)(id:Int)(hr:t.rows.length<=1000000):aK prog 28 [aD d a t,.int .i64 id] fun r=>r = .tup [.int .i64 (if 0<=nw t id then nw t id else 0),.bool (hasId t id)]:=by
 have e:=findI_has t id
 have b:∀m∈t.rows,aM prog (.fn 53 [.ptr 1 0]) [aF m] [B.cells [.str t.name,LS d t.attrs,LR a t.rows],B.cells [.int .i64 id]] fun r H'=>r = .bool (m.id == id)/\∃G,H'=[B.cells [.str t.name,LS d t.attrs,LR a t.rows],B.cells [.int .i64 id]]++G:=fun m hm=>by
  simp only[aM,ur,uL];refine aH tok func53 rfl rfl ?_;refine wx ?_;simp -dsimp[f53,tg,aF,LS,LR,LV]
 have c:=idxFuncR [B.cells [.str t.name,LS d t.attrs,LR a t.rows],B.cells [.int .i64 id]] (.fn 53 [.ptr 1 0]) (fun m=>m.id == id) t.rows a hr (by simp[LS,LR]) ζ b;simp only[LS,LR]at c;rw[<-e];refine sPx func28 ?_;simp -dsimp[f28,tg,aD,LS,LR];refine aM.mono (K:=fun r H'=>r = .int .i64 (nw t id)/\∃G,H'=[B.cells [.str t.name,.lst 1 d (t.attrs.map V.str),.lst 2 a (t.rows.map aF)],B.cells [.int .i64 id]]++G) c ?_;rintro r H' ⟨rfl,G,rfl⟩;by_cases h0:0<=nw t id
 .rw[if_pos h0];simp -dsimp[h0,(ω:¬nw t id<0)]
 .rw[if_neg h0];simp -dsimp[h0,(ω:nw t id<0)]
end
def fY(t:Tb)(c:Cr):Bool:=hasId t c.id&&(decide (0<=c.attr)&&decide (c.attr<t.attrs.length))
noncomputable def gy(t:Tb)(fds:List Fd)(cells:List Cr):Int:=open Classical in if validT t≠0 then validT t else if dO t.attrs.length fds≠0 then dO t.attrs.length fds else if 60<t.rows.length*t.attrs.length then 3 else if ¬aS cells then 1 else if cells.all (fY t) then 0 else 4
def chkE_ok{t:Tb}{fds:List Fd}{cells:List Cr}(h:TbOk t)(he:gy t fds cells=0):TbV t/\dO t.attrs.length fds=0/\t.rows.length*t.attrs.length<=60/\aS cells/\cells.all (fY t)=true:=by
 unfold gy at he;split at he
 .rename_i h1;exact absurd he h1
 .rename_i h1;split at he
  .rename_i h2;exact absurd he h2
  .rename_i h2;split at he
   .cases he
   .rename_i c;split at he
    .cases he
    .rename_i a;split at he
     .rename_i b;exact⟨tbV_of h (Classical.not_not.1 h1),Classical.not_not.1 h2,ω,Classical.not_not.1 a,b⟩
     .cases he
def check_u5(t:Tb)(m o z cf:Bool)(fds:List Fd)(cells:List Cr)(ht:TbOk t)(F:ef fds)(q:cells.length<=1000000):
  aK prog 34 [aD m o t,LF z fds,LC cf cells] fun r=>r = .int .i64 (gy t fds cells):=by
 have d:=gP t m o ht;simp only[aD,LS,LR]at d;by_cases h1:validT t=0
 .have hv:=tbV_of ht h1;rw[h1]at d;have e:=closureValid t.attrs.length fds z hv.attrs F;by_cases h2:dO t.attrs.length fds=0
  .rw[h2]at e;have hm:=hv.rows;have hn:=hv.attrs;have D:=wS hm hn
   have l:IntKind.i64.wrap ((t.rows.length:Int)*(t.attrs.length:Int))=((t.rows.length*t.attrs.length:Nat):Int):=by rw[wrap64 (by rw[<-wm];omega) (by rw[<-wm];omega)];push_cast;rfl
   obtain⟨n,g⟩:=ξ (t.rows.length*t.attrs.length);rw[<-g]at l;by_cases G:60<n
   .rw[show gy t fds cells=3 by unfold gy;rw[if_neg (by simp[h1]),if_neg (by simp[h2]),if_pos ω]];refine sPx func34 ?_;simp -dsimp[f34,tg,aD,LS,LR];refine cPx d ?_;simp -dsimp;refine cPx e ?_;simp -dsimp[l,(ω:(60:Int)<n)]
   .have f:=ordered_u cells cf q;by_cases j:aS cells
    .rw[lD.2 j]at f;obtain⟨E,A⟩:=ξ (gy t fds cells)
     have u:gy t fds cells=if cells.all (fY t) then(0:Int) else 4:=by unfold gy;rw[if_neg (by simp[h1]),if_neg (by simp[h2]),if_neg ω,if_neg (by simp[j])]
     have s:(if cells.all (fY t) then(0:Int) else 4)=E:=by rw[A,u]
     rw[<-A];simp only[LC]at f;refine sPx func34 ?_;simp -dsimp[f34,tg,aD,LS,LR,LC];refine cPx d ?_;simp -dsimp;refine cPx e ?_;simp -dsimp[l,(ω:¬(60:Int)<n)];refine cPx f ?_;simp -dsimp;refine aI (W_loopM 66 0x3ffffff8000001c40 zMx (σ:=Nat) (fun i=>i<=cells.length/\(if(cells.drop i).all (fY t) then(0:Int) else 4)=E) (fun i=>cells.length-i) (fun i=>[(39,.int .i64 i)]) (fun _=>[B.cells [.str t.name,.lst 1 m (t.attrs.map V.str),.lst 2 o (t.rows.map aF)]]) 0 ⟨ω,by rw[uG];exact s⟩ ζ ζ ζ ?_);rintro i ⟨hi,hx⟩ N Q C h;by_cases hb:i<cells.length
     .rw[th hb,vE]at hx;obtain⟨c,x⟩:=ξ (cells[i]);rw[<-x]at hx;have a:=x.symm;have b:=find_t t m o c.id ht.rows;simp only[aD,LS,LR]at b;obtain⟨H,p⟩:=ξ ((if 0<=nw t c.id then nw t c.id else 0));rw[<-p]at b
      cases k:hasId t c.id with
      | false =>
       rw[k]at b;rw[show fY t c=false by simp[fY,k],uE,if_neg ζ]at hx;refine wx ?_;simp -dsimp[hb,a,ab];refine cPx b ?_;simp -dsimp;apply h;simp -dsimp;exact hx
      | true =>
       rw[k]at b;by_cases y:0<=c.attr
       .by_cases w:c.attr<t.attrs.length
        .rw[show fY t c=true by simp[fY,k,y,w],uF]at hx;refine wx ?_;simp -dsimp[hb,a,ab];refine cPx b ?_;simp -dsimp[(ω:¬c.attr<0),(ω:¬(t.attrs.length:Int)<=c.attr),aE i ω];refine C (i+1) _ _ ⟨ω,hx⟩ ω ?_ ⟨[B.cells [.int .i64 c.id,.int .i64 c.attr]],?_⟩ ?_ ?_<;>simp[or_imp,forall_and,L1,aG,LF,LC]
        .rw[show fY t c=false by simp[fY,w],uE,if_neg ζ]at hx;refine wx ?_;simp -dsimp[hb,a,ab];refine cPx b ?_;simp -dsimp[(ω:¬c.attr<0),(ω:(t.attrs.length:Int)<=c.attr)];apply h;simp -dsimp;exact hx
       .rw[show fY t c=false by simp[fY,y],uE,if_neg ζ]at hx;refine wx ?_;simp -dsimp[hb,a,ab];refine cPx b ?_;simp -dsimp[(ω:c.attr<0)];apply h;simp -dsimp;exact hx
     .rw[tj ω]at hx;refine wx ?_;simp -dsimp[hb];apply h;simp -dsimp;simpa using hx
    .have v:mI cells=false:=by
      cases hb:mI cells
      .rfl
      .exact absurd (lD.1 hb) j
     rw[v]at f;rw[show gy t fds cells=1 by unfold gy;rw[if_neg (by simp[h1]),if_neg (by simp[h2]),if_neg ω,if_pos j]];refine sPx func34 ?_;simp -dsimp[f34,tg,aD,LS,LR];refine cPx d ?_;simp -dsimp;refine cPx e ?_;simp -dsimp[l,(ω:¬(60:Int)<n)];refine cPx f ?_;simp -dsimp
  .rw[show gy t fds cells=dO t.attrs.length fds by unfold gy;rw[if_neg (by simp[h1]),if_pos h2]];refine sPx func34 ?_;simp -dsimp[f34,tg,aD,LS,LR];refine cPx d ?_;simp -dsimp;refine cPx e ?_;simp -dsimp[h2]
 .rw[show gy t fds cells=validT t by unfold gy;rw[if_pos h1]];refine sPx func34 ?_;simp -dsimp[f34,tg,aD,LS,LR];refine cPx d ?_;simp -dsimp[h1]
section
open Classical in
noncomputable def hasC(l:List Cr)(c:Cr):Bool:=decide (c∈l)
def nr{l:List Cr}{c:Cr} : hasC l c=true↔c∈l:=by unfold hasC;simp
def eqCr(H:List B)(a b c d:Int):fk T H 101 (.agg [.int .i64 a,.int .i64 b]) (.agg [.int .i64 c,.int .i64 d])=some (a == c&&b == d):=by
 have h1:∀x y:Int,eqD T 9999 2 (.int .i64 x) (.int .i64 y)=some (x == y):=fun x y=>by simp[eqD]
 have h2:∀x y:Int,eqD T 9999 3 (.int .i64 x) (.int .i64 y)=some (x == y):=fun x y=>by simp[eqD]
 simp only[fk];rw[show(10000:Nat)=9999+1 from rfl,eqD];simp only[T_101];simp only[if_true,eqFs,jw,T_2,T_3,cZ,vI,vC,uM,if_false,h1,h2];cases (a == c)<;>cases (b == d)<;>simp
def has_r(l:List Cr)(c:Cr)(f:Bool)(hl:l.length<=1000000):aK prog 90 [LC f l,ab c] fun r=>r = .bool (hasC l c):=by
 obtain⟨E,a⟩:=ξ (hasC l c);rw[<-a];refine sPx func90 ?_;simp -dsimp[f90,tg,LC,ab];refine aI (W_loopM 18 0x3fff0 zMx (σ:=Nat) (fun i=>∀j (h:j<l.length),j<i->l[j]≠c) (fun i=>l.length-i) (fun i=>[(5,.int .i64 i)]) (fun _=>[B.cells [.int .i64 c.id,.int .i64 c.attr]]) 0 (fun j _ h=>by omega) ζ rfl ζ ?_);intro i hx N Q g d;by_cases hb:i<l.length
 .cases hq:(l[i].id == c.id&&l[i].attr == c.attr) with
  | true =>
   have he:l[i]=c:=by
    rw[tt,beq_iff_eq,beq_iff_eq]at hq;exact Cr.eq_iff.2 hq
   rw[nr.2 (he▸ti hb)]at a;refine wx ?_;simp -dsimp[hb,ab,eqCr,hq];refine sTx ?_;apply d;simp -dsimp;exact a
  | false =>
   have he:l[i]≠c:=fun h=>by subst h;simp at hq
   refine wx ?_;simp -dsimp[hb,ab,eqCr,hq];refine sTx ?_;simp -dsimp[aE i ω];refine g (i+1) _ _ (fun j h e=>?_) ω ζ ⟨[],rfl⟩ ζ ζ
   rcases uP j i with h1 | h1
   .exact hx j h h1
   .have:j=i:=by omega
    subst this;exact he
 .have b:hasC l c=false:=by
   cases k:hasC l c
   .rfl
   .obtain⟨j,e,h2⟩:=List.mem_iff_getElem.1 (nr.1 k);exact absurd h2 (hx j e ω)
  rw[b]at a;refine wx ?_;simp -dsimp[hb];apply d;simp -dsimp;exact a
def fD(t:Tb)(c:Nat):List Cr:=(tr c).map (bZ t)
def cellsTo_succ(t:Tb)(c:Nat):fD t (c+1)=fD t c++[bZ t c]:=by simp[fD,ue]
def qF(t:Tb)(c:Nat):(fD t c).length=c:=by simp[fD]
def tM(t:Tb):(bR t).length=t.rows.length*t.attrs.length:=by simp[bR]
def cells_r(t:Tb)(A C:Bool)(hr:t.rows.length<=1000)(hn:t.attrs.length<=1000):aK prog 19 [aD A C t] fun r=>r=LC false (bR t):=by
 obtain⟨n,f⟩:=ξ t.attrs.length;obtain⟨m,o⟩:=ξ t.rows.length;have b:=f.symm;have d:=o.symm;rw[b]at hn;rw[d]at hr;refine sPx func19 ?_;simp -dsimp[f19,tg,aD,LS,LR];refine aI (bh 101 2 [3] ζ (W_loopM 31 0x7ffffff8 zMx (σ:=Nat×Nat) (fun p=>p.1<=m/\p.2=p.1*n) (fun p=>m-p.1) (fun p=>[(4,.int .i64 p.1),(3,.buf 1 0 p.2 p.2)]) (fun p=>[B.cells [.str t.name,.lst 1 A (t.attrs.map V.str),.lst 2 C (t.rows.map aF)],B.buf 101 2 ((fD t p.2).map ab) false]) (0,0) ⟨ζ,ζ⟩ ζ (by simp[fD]) ζ ?_));rintro⟨i,c⟩ ⟨hi,v⟩ N Q D F;simp only at hi v D;by_cases h:i<m
 .have hit:i<t.rows.length:=by omega
  obtain⟨rw,s⟩:=ξ (t.rows[i]);have k:=s.symm;refine wx ?_;simp -dsimp[h,d];refine aI (W_loopM 31 0x7fffe028 zMx (σ:=Nat×Nat) (fun p=>p.1<=n/\p.2=i*n+p.1) (fun p=>n-p.1) (fun p=>[(5,.int .i64 p.1),(3,.buf 1 0 p.2 p.2)]) (fun p=>[B.cells [.str t.name,.lst 1 A (t.attrs.map V.str),.lst 2 C (t.rows.map aF)],B.buf 101 2 ((fD t p.2).map ab) false]) (0,c) ⟨ζ,by simp[v]⟩ ζ ζ ζ ?_);rintro⟨a,j⟩ ⟨ha,g⟩ I H q u;simp only at ha g q;by_cases e:a<n
  .have G:=bc h e;have E:m*n<=1000*1000:=wS hr hn;have w:=qF t j
   have x:bZ t j=⟨rw.id,(a:Int)⟩:=by
    rw[g,f,la t (f▸e),cS hit,<-s]
   have l:=cellsTo_succ t j;rw[x]at l;refine wx ?_;simp -dsimp[e,b,hit,k,aF,w,tO j ω,aE a ω];refine q (a+1,j+1) _ _ ⟨θ,θ⟩ θ ζ ⟨[],by simp[l,ab]⟩ ζ ζ
  .have y:a=n:=by omega
   subst y;refine wx ?_;simp -dsimp[e,b];apply u;simp -dsimp[aE i ω];refine D (i+1,j) _ _ ⟨θ,by simp only;rw[g,uR];omega⟩ θ ζ ⟨[],ζ⟩ ζ ζ
 .have z:i=m:=by omega
  subst z;refine wx ?_;simp -dsimp[h,d];apply F;simp -dsimp;rw[show bR t=fD t c by unfold bR fD;rw[v,<-o,<-f]];exact dr rfl (by simp[qF]) ζ
end
def cellsT_at{t:Tb}{i:Nat}(h:i<(bR t).length):(bR t)[i]=bZ t i:=by simp[bR]
end
end Go.Proofs.YtnaokiodhoadjaaGreatDoor
