/- JB30: texts H15, H16, H17, joined and shortened by pack6.py. -/
import Derived.Test.YtnaokiodhoadjaaGreatDoorJB29
set_option linter.all false
set_option maxRecDepth 100000
set_option maxHeartbeats 64000000
open Int renaming toNat_natCast→wT
open List renaming replicate→tg,range→tr,length_cons→uX,all_cons→vE
open Option renaming map_some→uS
namespace Go.Proofs.YtnaokiodhoadjaaGreatDoor
section
open Go Go.AM Go.Proofs.Tryz
section
def bcl(fl:Bool)(b:Bst):B:=.cells [.lst 1 fl (b.l.map eN),.int .i64 b.w]
def bcl_rb(N:Nat)(fl:Bool)(b:Bst):rbB N (bcl fl b):=by
 intro c a;simp only[tw,tq,or_false]at a
 rcases a with rfl | rfl
 .exact cT (Ln_pure fl b.l) rfl
 .trivial
section
variable (H:List B) (k0 km kb:Nat) (f g:Bool) (ws:List Int) (es:List (List Nat))
def HS(lf:Int)(m:List Nat)(c:B):List B:=((H.set k0 (scl f g ws es km ws.length lf)).set km (.buf 3 1 (nuL m) false)).set kb c
end
structure BOk (H:List B) (k0 km kb:Nat):Prop where
 l0:k0<H.length
 lm:km<H.length
 lb:kb<H.length
 n0:km≠k0
 n1:kb≠k0
 n2:kb≠km
 rb:∀bl∈H,rbB H.length bl
section
variable {H:List B} {k0 km kb:Nat} {f g:Bool} {ws:List Int} {es:List (List Nat)} {lf:Int} {m:List Nat} {c:B}
def dI:(HS H k0 km kb f g ws es lf m c).length=H.length:=by simp[HS]
def BOk.at0(o:BOk H k0 km kb):(HS H k0 km kb f g ws es lf m c)[k0]?=some (.cells [L1 f ws,LLn g es,.buf km 0 ws.length ws.length,.int .i64 lf]):=by
 unfold HS;rw[uH o.n1,uH o.n0,uJ o.l0];rfl
def BOk.atm(o:BOk H k0 km kb):(HS H k0 km kb f g ws es lf m c)[km]?=some (.buf 3 1 (nuL m) false):=by
 unfold HS;rw[uH o.n2,uJ (by simp;exact o.lm)]
def BOk.atb(o:BOk H k0 km kb):(HS H k0 km kb f g ws es lf m c)[kb]?=some c:=by
 unfold HS;rw[uJ (by simp;exact o.lb)]
def BOk.set0(o:BOk H k0 km kb)(a:Int):(HS H k0 km kb f g ws es lf m c).set k0 (scl f g ws es km ws.length a)=HS H k0 km kb f g ws es a m c:=by
 unfold HS;rw[List.set_comm _ _ o.n1,List.set_comm _ _ o.n0,vq]
def BOk.setm(o:BOk H k0 km kb)(a:List Nat):(HS H k0 km kb f g ws es lf m c).set km (.buf 3 1 (nuL a) false)=HS H k0 km kb f g ws es lf a c:=by
 unfold HS;rw[List.set_comm _ _ o.n2,vq]
def BOk.setb(o:BOk H k0 km kb)(c':B):(HS H k0 km kb f g ws es lf m c).set kb c'=HS H k0 km kb f g ws es lf m c':=by
 unfold HS;rw[vq]
def BOk.rbs(o:BOk H k0 km kb)(a:rbB H.length c):∀bl∈HS H k0 km kb f g ws es lf m c,rbB (HS H k0 km kb f g ws es lf m c).length bl:=by
 have h1:=iC o.rb (k:=k0) (b:=scl f g ws es km ws.length lf) (scl_rb f g ws es ws.length lf o.lm);have h2:=iC h1 (k:=km) (b:=.buf 3 1 (nuL m) false) ((rbB_buf1 (eS m)).2 trivial);exact iC h2 (by simpa using a)
def BOk.sat(o:BOk H k0 km kb)(a:rbB H.length c)(hm:m.length=ws.length):SAt (HS H k0 km kb f g ws es lf m c) k0 km f g ws es ws.length m lf :=
 ⟨o.at0,o.atm,o.rbs a,hm,rfl,o.n0⟩
theorem nb{ws:List Int}{es:List (List Nat)}{P:Int×Bst} : ∀(k:Nat) (m:List Nat) (lf:Int) (b:Bst) (w:Int),pC ws es k m lf b w=some P->P.1<=lf
 | 0,_,_,_,_,h=>by simp[pC]at h
 | k+1,m,lf,b,w,h=>by
  rw[pC]at h;split at h
  .cases h
  .split at h
   .cases h;simp only;omega
   .split at h
    .cases h;simp only;omega
    .split at h
     .cases h;simp only;omega
     .split at h
      .cases h
      .rename_i p hp;have h1:=nb (P:=p) k _ _ _ _ hp;have h2:=nb (P:=P) k _ _ _ _ h;omega
def chosen_take(m:List Nat)(i:Nat)(h:i<m.length):(tr (i+1)).filter (fun v=>decide (m.getD v 0=1))=(tr i).filter (fun v=>decide (m.getD v 0=1))++if m.getD i 0=1 then [i] else []:=by
 rw[ue,vK];congr 1;by_cases hq:m.getD i 0=1
 .rw[if_pos hq,vh,if_pos (decide_eq_true hq)];rfl
 .rw[if_neg hq,vh,if_neg (by rw[decide_eq_false hq];simp)];rfl
def QB(H:List B)(k0 km kb:Nat)(f g:Bool)(ws:List Int)(es:List (List Nat))(lf:Int)(m:List Nat)(b:Bst)(H':List B):Prop:=∃fl,H'=HS H k0 km kb f g ws es lf m (bcl fl b)
def QT(H:List B)(k0 km kb:Nat)(f g:Bool)(ws:List Int)(es:List (List Nat))(lf:Int)(m:List Nat)(b:Bst)(H':List B):Prop:=∃fl G,H'=HS H k0 km kb f g ws es lf m (bcl fl b)++G
def min_cut{k:FuncId}{args:List V}{a:List B}{b:Bst}(o:BOk H k0 km kb)(h0:a.length<=H.length)(hq:ak prog k args a fun r H'=>r = .bool true/\QT H k0 km kb f g ws es lf m b H'):ak prog k args a fun r H'=>r = .bool true/\QB H k0 km kb f g ws es lf m b H':=by
 refine(lg (σ:=Bool) (ok:=fun _=>True) (rf:=fun _=>.bool true) (Hf:=fun x=>HS H k0 km kb f g ws es lf m (bcl x b)) (hq.mono fun r H' ⟨h1,fl,G,h2⟩=>⟨fl,trivial,h1,G,h2⟩) (fun x _=>by rw[dI];exact h0) (fun x _=>by simp[rb,rb1]) (fun x _=>o.rbs (bcl_rb _ _ _))).mono ?_;rintro r H' ⟨x,_,h1,h2⟩;exact⟨h1,x,h2⟩
def chT(m:List Nat)(i:Nat):List Nat:=(tr i).filter fun v=>decide (m.getD v 0=1)
def chT_succ(m:List Nat)(i:Nat)(h:i<m.length):chT m (i+1)=chT m i++if m.getD i 0=1 then [i] else []:=chosen_take m i h
def chT_len(m:List Nat)(i:Nat):(chT m i).length<=i:=by
 have:=uU (fun v=>decide (m.getD v 0=1)) (tr i);simpa[chT] using this
def HS_append(c:B)(X:B)(k:Nat)(Y:B)(h:k<H.length):(HS H k0 km kb f g ws es lf m c++[X]).set k Y=(HS H k0 km kb f g ws es lf m c).set k Y++[X]:=by
 rw[xc _ _ (by rw[dI];exact h)]
def minimum_h(o:BOk H k0 km kb)(hb:HsB ws es)(k:Nat):∀(m:List Nat) (lf:Int) (b:Bst) (fl:Bool) (w:Int) (P:Int×Bst),m.length=ws.length->pC ws es k m lf b w=some P->-9000000000000000000<=P.1->lf<=9000000000000000000->0<=w->w<=4000000000000000000-1000000*(k:Int)->
  ak prog 63 [.ptr k0 0,.ptr kb 0,.int .i64 w] (HS H k0 km kb f g ws es lf m (bcl fl b)) fun r H'=>r = .bool true/\QB H k0 km kb f g ws es P.1 m P.2 H':=by
 induction k with
 | zero=>intro m lf b fl w P hm h;simp[pC]at h
 | succ k ih =>
  intro m lf b fl w P hm h hP bz ay b7;have cb:=nb _ _ _ _ _ h;rw[pC]at h
  have b4:¬lf-1<0:=by
   intro hq;rw[if_pos hq]at h;cases h
  rw[if_neg b4]at h;refine min_cut o (by rw[dI];exact uA _) ?_;have J:=bcl_rb H.length fl b;have s0:=o.sat (f:=f) (g:=g) (ws:=ws) (es:=es) (lf:=lf) (m:=m) J hm;have K:=o.sat (f:=f) (g:=g) (ws:=ws) (es:=es) (lf:=lf-1) (m:=m) J hm;have c1:=spend_h s0 ω bz;rw[o.set0]at c1;rw[decide_eq_true (show 0<=lf-1 by omega)]at c1
  have a8:es.length<=1000000:=by have:=hb.ne;omega
  have an:∀e∈es,e.length<=1000000:=fun e he=>by have:=hb.ed.len e he;have:=hb.n;omega
  have c2:=dead_h K hb.ed a8 an;have c3:=packing_h K hb;have c4:=branch_h K hb;have aJ:=jN (m:=m) hb.ed es 0 ws ζ rfl (fun v hv _=>by have:=(hb.w v hv).1;omega);obtain⟨_,_,_,_,p5,p6⟩:=aJ;have b9:=hb.ne;have gb:(HS H k0 km kb f g ws es (lf-1) m (bcl fl b))[kb]?=some (.cells [.lst 1 fl (b.l.map eN),.int .i64 b.w]):=o.atb;have g0:=K.h0;have gm:=K.hm;have u:=bJ m;obtain⟨D,hD⟩:=ξ (kj m es);rw[<-hD]at c2 h
  change 0<=(ei ws es m).2 at p6
  change (ei ws es m).2<=_ at p5
  obtain⟨S,hS⟩:=ξ (ei ws es m);rw[<-hS]at c3 h p5 p6;have t:=oW hb.ed m;obtain⟨br,W⟩:=ξ (brS es m);rw[<-W]at c4 h t;have L:IntKind.i64.wrap (w+S.2)=w+S.2:=wrap64 ω ω;refine aH tok func63 rfl rfl ?_;refine wx ?_;simp -dsimp[f63,tg];refine bd c1 ?_;rintro _ _ ⟨rfl,rfl⟩;simp -dsimp;refine bd c2 ?_;rintro _ _ ⟨rfl,rfl⟩
  cases D with
  | true =>
   rw[if_pos rfl]at h;cases h;simp -dsimp;exact⟨fl,[],by rw[uC]⟩
  | false =>
   rw[if_neg ζ]at h;simp -dsimp;refine bd c3 ?_;rintro _ _ ⟨rfl,rfl⟩;by_cases hq:b.w<=w+S.2
   .rw[if_pos hq]at h;cases h;simp -dsimp[gb,L,hq];exact⟨fl,[],by rw[uC]⟩
   .rw[if_neg hq]at h;simp -dsimp[gb,L,hq];refine bd c4 ?_;rintro _ _ ⟨rfl,rfl⟩;by_cases s:br<0
    .rw[if_pos s]at h;cases h;have az:(HS H k0 km kb f g ws es (lf-1) m (bcl fl b)).set kb (.cells [.nilS,.int .i64 b.w])=HS H k0 km kb f g ws es (lf-1) m (.cells [.nilS,.int .i64 b.w]):=o.setb _;have be:(HS H k0 km kb f g ws es (lf-1) m (.cells [.nilS,.int .i64 b.w]))[kb]?=some (.cells [.nilS,.int .i64 b.w]):=o.atb;have aA:(HS H k0 km kb f g ws es (lf-1) m (.cells [.nilS,.int .i64 b.w])).set kb (.cells [.nilS,.int .i64 w])=HS H k0 km kb f g ws es (lf-1) m (.cells [.nilS,.int .i64 w]):=o.setb _;have bi:(HS H k0 km kb f g ws es (lf-1) m (.cells [.nilS,.int .i64 w]))[kb]?=some (.cells [.nilS,.int .i64 w]):=o.atb;have a2:=o.at0 (f:=f) (g:=g) (ws:=ws) (es:=es) (lf:=lf-1) (m:=m) (c:=.cells [.nilS,.int .i64 w]);have bb:=o.atm (f:=f) (g:=g) (ws:=ws) (es:=es) (lf:=lf-1) (m:=m) (c:=.cells [.nilS,.int .i64 w]);have b8:=hb.n;simp -dsimp[s,gb,az,be,aA,a2,bb,u,hm];refine aI (cx 3 1 [] kb [0] (cs:=[.nilS,.int .i64 w]) bi ζ ζ (W_loopM 65 0x1ffff800000000c00 zMx (σ:=Nat) (fun i=>i<=ws.length) (fun i=>ws.length-i) (fun i=>[(47,.int .i64 i)]) (fun i=>HS H k0 km kb f g ws es (lf-1) m (.cells [.buf H.length 0 (chT m i).length (chT m i).length,.int .i64 w])++[.buf 3 1 (nuL (chT m i)) false]) 0 ω ζ (by simp[o.setb,dI,chT,nuL]) (by simp[dI]) ?_));intro i hi N Q hN hQ
     have kN:(HS H k0 km kb f g ws es (lf-1) m (.cells [.buf H.length 0 (chT m i).length (chT m i).length,.int .i64 w])++[B.buf 3 1 (nuL (chT m i)) false])[H.length]?=some (B.buf 3 1 (nuL (chT m i)) false):=by
      rw[uD (by rw[dI];exact uA _),dI];simp
     have I:(HS H k0 km kb f g ws es (lf-1) m (.cells [.buf H.length 0 (chT m i).length (chT m i).length,.int .i64 w])++[B.buf 3 1 (nuL (chT m i)) false])[kb]?=some (.cells [.buf H.length 0 (chT m i).length (chT m i).length,.int .i64 w]):=by
      rw[tu (by rw[dI];exact o.lb)];exact o.atb
     have M:(HS H k0 km kb f g ws es (lf-1) m (.cells [.buf H.length 0 (chT m i).length (chT m i).length,.int .i64 w])++[B.buf 3 1 (nuL (chT m i)) false])[km]?=some (.buf 3 1 (nuL m) false):=by
      rw[tu (by rw[dI];exact o.lm)];exact o.atm
     have ce:=chT_len m i;by_cases A:i<ws.length
     .have q:=fun h=>bm (m:=m) (x:=i) h
      have a:=chT_succ m i ω;obtain⟨mc,b5⟩:=ξ (m.getD i 0);rw[<-b5]at q a
      have ad:∀(j:Nat) (l:List Nat),∀bl∈HS H k0 km kb f g ws es (lf-1) m (.cells [.buf H.length 0 j j,.int .i64 w])++[B.buf 3 1 (nuL l) false],rbB (HS H k0 km kb f g ws es (lf-1) m (.cells [.buf H.length 0 j j,.int .i64 w])++[B.buf 3 1 (nuL l) false]).length bl:=fun j l=>by
       intro bl a7;have h1:=iC o.rb (k:=k0) (b:=scl f g ws es km ws.length (lf-1)) (scl_rb f g ws es ws.length (lf-1) o.lm);have h2:=iC h1 (k:=km) (b:=.buf 3 1 (nuL m) false) ((rbB_buf1 (eS m)).2 trivial);rw[uB,dI]
       rcases List.mem_append.1 a7 with G | G
       .rcases vj G with h4 | rfl
        .exact rbBM ζ (h2 bl h4)
        .simp[rbB,rb,rb1]
       .rcases List.mem_cons.1 G with rfl | G
        .exact(rbB_buf1 (eS _)).2 trivial
        .cases G
      by_cases E:mc=1
      .subst E;rw[if_pos rfl]at a
       have ax:nuL (chT m i)++[.int .i64 (i:Int)]=nuL (chT m (i+1)):=by rw[a];simp[nuL,eN]
       have C:(chT m (i+1)).length=(chT m i).length+1:=by rw[a];simp
       have X:=bJ (chT m i)
       have ba:(HS H k0 km kb f g ws es (lf-1) m (.cells [.buf H.length 0 (chT m i).length (chT m i).length,.int .i64 w])++[B.buf 3 1 (nuL (chT m i)) false]).set H.length (B.buf 3 1 (nuL (chT m (i+1))) false)=HS H k0 km kb f g ws es (lf-1) m (.cells [.buf H.length 0 (chT m i).length (chT m i).length,.int .i64 w])++[B.buf 3 1 (nuL (chT m (i+1))) false]:=by
        rw[uq _ _ (by rw[dI];exact uA _),dI,vz];rfl
       have bY:(HS H k0 km kb f g ws es (lf-1) m (.cells [.buf H.length 0 (chT m i).length (chT m i).length,.int .i64 w])++[B.buf 3 1 (nuL (chT m (i+1))) false]).set kb (.cells [.buf H.length 0 ((chT m i).length+1) ((chT m i).length+1),.int .i64 w])=HS H k0 km kb f g ws es (lf-1) m (.cells [.buf H.length 0 ((chT m i).length+1) ((chT m i).length+1),.int .i64 w])++[B.buf 3 1 (nuL (chT m (i+1))) false]:=by
        rw[HS_append _ _ _ _ o.lb,o.setb]
       have b2:(HS H k0 km kb f g ws es (lf-1) m (.cells [.buf H.length 0 (chT m i).length (chT m i).length,.int .i64 w])++[B.buf 3 1 (nuL (chT m (i+1))) false])[kb]?=some (.cells [.buf H.length 0 (chT m i).length (chT m i).length,.int .i64 w]):=by
        rw[tu (by rw[dI];exact o.lb)];exact o.atb
       refine wx ?_;simp -dsimp[A,M,q,u,hm,I,kN,ax,X,ba,bY,b2,aE i ω,(ω:(chT m i).length<=9223372036854775806),(ω:((chT m i).length+1)*8<=140737488355328)];refine hN (i+1) _ _ ω ω (by simp[C]) ⟨[],by simp[C]⟩ ?_ (by simp only[C];exact ad _ _);have h1:=o.l0;have h2:=o.lm;have G:=o.lb;simp[dI,LSh];omega
      .rw[if_neg E,uC]at a;refine wx ?_;simp -dsimp[A,M,q,u,hm,E,(ω:¬((mc:Int)=1)),aE i ω];refine hN (i+1) _ _ ω ω (by simp[a]) ⟨[],by simp[a]⟩ ?_ (by simp only[a];exact ad _ _);have h1:=o.l0;have h2:=o.lm;have G:=o.lb;simp[dI,LSh];omega
     .obtain rfl:i=ws.length:=by omega
      have b3:=bJ (chT m ws.length);refine fA H.length [] kb [0] kN I ζ (by simp[b3]) ?_;refine wx ?_;simp -dsimp[A];apply hQ;simp -dsimp;refine⟨false,[B.buf 3 1 (nuL (chT m ws.length)) true],?_⟩;rw[uq _ _ (by rw[dI];exact uA _),dI,vz,show [B.buf 3 1 (nuL (chT m ws.length)) false].set 0 (B.buf 3 1 (nuL (chT m ws.length)) true)=[B.buf 3 1 (nuL (chT m ws.length)) true] from rfl,HS_append _ _ _ _ o.lb,o.setb];unfold bcl chosenL;rw[hm];rfl
    .rw[if_neg s]at h
     rcases t with⟨t,_⟩ | ⟨d,ca,F⟩
     .exact absurd t s
     obtain⟨v,rfl⟩:∃v:Nat,br=v:=⟨br.toNat,ω⟩;rw[wT]at d F h;have U:=(aY ws 0 d).symm;have b6:=hb.w v d;obtain⟨wv,bv⟩:=ξ (ws.getD v 0);rw[<-bv]at U b6 h;have bx:IntKind.i64.wrap (w+wv)=w+wv:=wrap64 ω ω
     have a6:m.set v 0=m:=by
      have:m[v]'ω=0:=by rw[<-aY m 0 ω];exact F
      conv=>rhs;rw[<-xE (show v<m.length by omega)]
      rw[this]
     have q:=fun h=>bm (m:=m) (x:=v) h
     rw[F]at q
     have R:=fun h=>bm (m:=m.set v 1) (x:=v) h
     have Z:=fun h=>bm (m:=m.set v 2) (x:=v) h
     have O:=bJ (m.set v 1);have V:=bJ (m.set v 2);rw[vb]at O V;have al:(nuL m).set v (.int .i64 1)=nuL (m.set v 1):=eR m v 1;have T:(nuL (m.set v 1)).set v (.int .i64 2)=nuL (m.set v 2):=(eR (m.set v 1) v 2).trans (by rw[vq]);have Y:(nuL (m.set v 2)).set v (.int .i64 0)=nuL m:=(eR (m.set v 2) v 0).trans (by rw[vq,a6]);have k1:=o.setm (f:=f) (g:=g) (ws:=ws) (es:=es) (lf:=lf-1) (m:=m) (c:=bcl fl b) (m.set v 1);have b1:=o.at0 (f:=f) (g:=g) (ws:=ws) (es:=es) (lf:=lf-1) (m:=m.set v 1) (c:=bcl fl b)
     cases hp:pC ws es k (m.set v 1) (lf-1) b (w+wv) with
     | none=>rw[hp]at h;cases h
     | some p =>
      rw[hp]at h;simp only at h;have l1:=nb _ _ _ _ _ hp;have l2:=nb _ _ _ _ _ h;have i1:=ih (m.set v 1) (lf-1) b fl (w+wv) p (by simp[hm]) hp ω ω ω ω;simp -dsimp[s,g0,gm,q,u,hm,d,al,k1,b1,U,bx,L1,aG];refine bd i1 ?_;rintro _ _ ⟨rfl,z,rfl⟩;have j0:=o.at0 (f:=f) (g:=g) (ws:=ws) (es:=es) (lf:=p.1) (m:=m.set v 1) (c:=bcl z p.2);have jm:=o.atm (f:=f) (g:=g) (ws:=ws) (es:=es) (lf:=p.1) (m:=m.set v 1) (c:=bcl z p.2);have js:=o.setm (f:=f) (g:=g) (ws:=ws) (es:=es) (lf:=p.1) (m:=m.set v 1) (c:=bcl z p.2) (m.set v 2);have i2:=ih (m.set v 2) p.1 p.2 z w P (by simp[hm]) h hP ω ay ω;simp -dsimp[j0,jm,R,O,hm,d,T,js];refine bd i2 ?_;rintro _ _ ⟨rfl,y,rfl⟩;have n0:=o.at0 (f:=f) (g:=g) (ws:=ws) (es:=es) (lf:=P.1) (m:=m.set v 2) (c:=bcl y P.2);have nm:=o.atm (f:=f) (g:=g) (ws:=ws) (es:=es) (lf:=P.1) (m:=m.set v 2) (c:=bcl y P.2);have ns:=o.setm (f:=f) (g:=g) (ws:=ws) (es:=es) (lf:=P.1) (m:=m.set v 2) (c:=bcl y P.2) m;simp -dsimp[n0,nm,Z,V,hm,d,Y,ns];exact⟨y,[],by rw[uC]⟩
end
end
section
def shV:List Shr->V
 | []=>.nilS
 | x::l=>.lst 2 false (cL x::l.map cL)
def iv(x:Nde):V:=.agg [.int .i64 x.v,shV x.l]
@[simp] theorem shV_pure (l:List Shr):AM.Pure (shV l):=by cases l<;>simp[shV]
def shV_one(l:List Shr):(shV l).one=true:=by cases l<;>rfl
@[simp] theorem encNp_pure (x:Nde):AM.Pure (iv x):=by
 unfold iv;simp[shV_one]
def encNp_ok(x:Nde):AM.Pure (iv x)/\cC (iv x)=true/\(iv x).cells.length=2:=by
 refine⟨encNp_pure x,?_,rfl⟩;show([V.int .i64 x.v,shV x.l]:List V).all V.one=true;rw[vE,vE,shV_one];rfl
def lX(l:List Nde):∀x∈l.map iv,AM.Pure x/\cC x=true/\x.cells.length=2:=fun x hx=>by
 obtain⟨y,_,rfl⟩:=List.mem_map.1 hx;exact encNp_ok y
def PR(l:List Nde)(r:V):Prop:=∃fl,r = .tup [.lst 2 fl (l.map iv),.int .i64 0]
section
variable {H:List B} {k0 km kb:Nat} {f g:Bool} {ws:List Int} {es:List (List Nat)} {lf:Int} {m:List Nat} {c:B}
def QP(H:List B)(k0 km kb:Nat)(f g:Bool)(ws:List Int)(es:List (List Nat))(lf:Int)(m:List Nat)(c:B)(H':List B):Prop:=∃G,H'=HS H k0 km kb f g ws es lf m c++G
def prv_cut{k:FuncId}{args:List V}{a:List B}{l:List Nde}(o:BOk H k0 km kb)(d:rbB H.length c)(h0:a.length<=H.length)(hq:ak prog k args a fun r H'=>PR l r/\QP H k0 km kb f g ws es lf m c H'):ak prog k args a fun r H'=>PR l r/\H'=HS H k0 km kb f g ws es lf m c:=by
 refine(lg (σ:=Bool) (ok:=fun _=>True) (rf:=fun x=>.tup [.lst 2 x (l.map iv),.int .i64 0]) (Hf:=fun _=>HS H k0 km kb f g ws es lf m c) (hq.mono fun r H' ⟨⟨fl,h1⟩,G,h2⟩=>⟨fl,trivial,h1,G,h2⟩) (fun x _=>by rw[dI];exact h0) (fun x _=>?_) (fun x _=>o.rbs d)).mono ?_
 .intro y b;simp only[tw,tq,or_false]at b
  rcases b with rfl | rfl
  .intro z hz;exact(lX l z hz).1
  .trivial
 .rintro r H' ⟨x,_,h1,h2⟩;exact⟨⟨x,h1⟩,h2⟩
theorem nR{ws:List Int}{es:List (List Nat)}{P:List Nde×Int} : ∀(k:Nat) (m:List Nat) (lf b:Int),iS ws es k m lf b=some P->P.2<=lf
 | 0,_,_,_,h=>by simp[iS]at h
 | k+1,m,lf,b,h=>by
  rw[iS]at h;split at h
  .cases h
  .split at h
   .cases h;simp only;omega
   .split at h
    .cases h;simp only;omega
    .split at h
     .cases h
     .split at h
      .cases h
      .rename_i p hp;split at h
       .cases h
       .rename_i q hq;have h1:=nR (P:=p) k _ _ _ hp;have h2:=nR (P:=q) k _ _ _ hq;cases h;simp only;omega
def prove_h(o:BOk H k0 km kb)(V:rbB H.length c)(hb:HsB ws es)(k:Nat):∀(m:List Nat) (lf b:Int) (P:List Nde×Int),m.length=ws.length->iS ws es k m lf b=some P->-9000000000000000000<=P.2->lf<=9000000000000000000->b<=4000000000000000000->-4000000000000000000+1000000*(k:Int)<=b->P.1.length<=1000000 ->
  ak prog 64 [.ptr k0 0,.int .i64 b] (HS H k0 km kb f g ws es lf m c) fun r H'=>PR P.1 r/\H'=HS H k0 km kb f g ws es P.2 m c:=by
 induction k with
 | zero=>intro m lf b P hm h;simp[iS]at h
 | succ k ih =>
  intro m lf b P hm h hP ad X aJ T;have al:=nR _ _ _ _ h;rw[iS]at h
  have an:¬lf-1<0:=by
   intro hq;rw[if_pos hq]at h;cases h
  rw[if_neg an]at h;refine prv_cut o V (by rw[dI];exact uA _) ?_;have s0:=o.sat (f:=f) (g:=g) (ws:=ws) (es:=es) (lf:=lf) (m:=m) V hm;have u:=o.sat (f:=f) (g:=g) (ws:=ws) (es:=es) (lf:=lf-1) (m:=m) V hm;have N:=spend_h s0 ω ad;rw[o.set0]at N;rw[decide_eq_true (show 0<=lf-1 by omega)]at N
  have ax:es.length<=1000000:=by have:=hb.ne;omega
  have M:∀e∈es,e.length<=1000000:=fun e he=>by have:=hb.ed.len e he;have:=hb.n;omega
  have c2:=dead_h u hb.ed ax M;have c3:=packing_h u hb;have c4:=branch_h u hb;obtain⟨_,O,_,_,p5,p6⟩:=jN (m:=m) hb.ed es 0 ws ζ rfl (fun v hv _=>by have:=(hb.w v hv).1;omega);have g0:=u.h0;have gm:=u.hm;have ay:=bJ m;obtain⟨D,hD⟩:=ξ (kj m es);rw[<-hD]at c2 h
  change sumR (ei ws es m).1=(ei ws es m).2 at O
  obtain⟨S,hS⟩:=ξ (ei ws es m);rw[<-hS]at c3 h O;have s:=oW hb.ed m;obtain⟨Q,B⟩:=ξ (brS es m);rw[<-B]at c4 h s;refine aH tok func64 rfl rfl ?_;refine wx ?_;simp -dsimp[f64,tg];refine bd N ?_;rintro _ _ ⟨rfl,rfl⟩;by_cases d:b<=0
  .rw[if_pos (.inl d)]at h;cases h;simp -dsimp[d];exact⟨⟨true,rfl⟩,[],by rw[uC]⟩
  .simp -dsimp[d];refine bd c2 ?_;rintro _ _ ⟨rfl,rfl⟩
   cases D with
   | true =>
    rw[if_pos (.inr rfl)]at h;cases h;simp -dsimp;exact⟨⟨true,rfl⟩,[],by rw[uC]⟩
   | false =>
    rw[if_neg (by rintro(h | h);exact d h;cases h)]at h;simp -dsimp;refine bd c3 ?_;rintro _ _ ⟨rfl,rfl⟩;by_cases hq:b<=S.2
    .rw[if_pos hq]at h;cases h;obtain⟨S1,S2⟩:=S
     cases S1 with
     | nil=>simp only[sumR]at O hq;omega
     | cons y ys =>
      simp -dsimp[hq,LSh,cL];exact⟨⟨true,by simp[iv,shV,cL]⟩,[],by rw[uC]⟩
    .rw[if_neg hq]at h;simp -dsimp[hq,LSh];refine bd c4 ?_;rintro _ _ ⟨rfl,rfl⟩;by_cases i:Q<0
     .rw[if_pos i]at h;cases h
     rw[if_neg i]at h
     rcases s with⟨s,_⟩ | ⟨a,a2,t⟩
     .exact absurd s i
     obtain⟨v,rfl⟩:∃v:Nat,Q=v:=⟨Q.toNat,ω⟩;rw[wT]at a t h;have z:=(aY ws 0 a).symm;have aA:=hb.w v a;obtain⟨L,U⟩:=ξ (ws.getD v 0);rw[<-U]at z aA h;have Z:IntKind.i64.wrap (b-L)=b-L:=wrap64 ω ω
     have Y:m.set v 0=m:=by
      have:m[v]'ω=0:=by rw[<-aY m 0 ω];exact t
      conv=>rhs;rw[<-xE (show v<m.length by omega)]
      rw[this]
     have E:=fun h=>bm (m:=m) (x:=v) h
     rw[t]at E
     have J:=fun h=>bm (m:=m.set v 1) (x:=v) h
     have F:=fun h=>bm (m:=m.set v 2) (x:=v) h
     have G:=bJ (m.set v 1);have A:=bJ (m.set v 2);rw[vb]at G A;have I:(nuL m).set v (.int .i64 1)=nuL (m.set v 1):=eR m v 1;have K:(nuL (m.set v 1)).set v (.int .i64 2)=nuL (m.set v 2):=(eR (m.set v 1) v 2).trans (by rw[vq]);have C:(nuL (m.set v 2)).set v (.int .i64 0)=nuL m:=(eR (m.set v 2) v 0).trans (by rw[vq,Y]);have k1:=o.setm (f:=f) (g:=g) (ws:=ws) (es:=es) (lf:=lf-1) (m:=m) (c:=c) (m.set v 1);have R:=o.at0 (f:=f) (g:=g) (ws:=ws) (es:=es) (lf:=lf-1) (m:=m.set v 1) (c:=c)
     cases hp:iS ws es k (m.set v 1) (lf-1) (b-L) with
     | none=>rw[hp]at h;cases h
     | some p =>
      rw[hp]at h;simp only at h
      cases j:iS ws es k (m.set v 2) p.2 b with
      | none=>rw[j]at h;cases h
      | some q =>
       rw[j]at h;cases h;simp only[uX,uB]at T;simp only at hP al;have l1:=nR _ _ _ _ hp;have l2:=nR _ _ _ _ j;have i1:=ih (m.set v 1) (lf-1) (b-L) p (by simp[hm]) hp ω ω ω ω ω;have i2:=ih (m.set v 2) p.2 b q (by simp[hm]) j hP ω X ω ω;simp -dsimp[i,g0,gm,E,ay,hm,a,I,k1,R,z,Z,L1,aG];refine bd i1 ?_;rintro _ _ ⟨⟨W,rfl⟩,rfl⟩;have j0:=o.at0 (f:=f) (g:=g) (ws:=ws) (es:=es) (lf:=p.2) (m:=m.set v 1) (c:=c);have jm:=o.atm (f:=f) (g:=g) (ws:=ws) (es:=es) (lf:=p.2) (m:=m.set v 1) (c:=c);have js:=o.setm (f:=f) (g:=g) (ws:=ws) (es:=es) (lf:=p.2) (m:=m.set v 1) (c:=c) (m.set v 2);simp -dsimp[j0,jm,J,G,hm,a,K,js];refine bd i2 ?_;rintro _ _ ⟨⟨az,rfl⟩,rfl⟩;have n0:=o.at0 (f:=f) (g:=g) (ws:=ws) (es:=es) (lf:=q.2) (m:=m.set v 2) (c:=c);have nm:=o.atm (f:=f) (g:=g) (ws:=ws) (es:=es) (lf:=q.2) (m:=m.set v 2) (c:=c);have ns:=o.setm (f:=f) (g:=g) (ws:=ws) (es:=es) (lf:=q.2) (m:=m.set v 2) (c:=c) m
       have cc:=concat_N [⟨true,[.agg [.int .i64 (v:Int),.nilS]]⟩,⟨W,p.1.map iv⟩,⟨az,q.1.map iv⟩] true (fun l hl=>by
        simp only[tw,tq,or_false]at hl
        rcases hl with rfl | rfl | rfl
        .exact lX [⟨(v:Int),[]⟩]
        .exact lX p.1
        .exact lX q.1) ζ (by simp[dL];omega)
       simp only[vW,wP,dj]at cc;simp -dsimp[n0,nm,F,A,hm,a,C,ns];refine cPx cc ?_;simp -dsimp;exact⟨⟨false,by simp[dL,iv,shV]⟩,[],by rw[uC]⟩
end
end
def shV_lf(l:List Shr):lfB (shV l) (LSh false l):=by
 cases l with
 | nil=>exact .inr (.inr ⟨2,rfl,rfl⟩)
 | cons x l=>exact .inl rfl
def rel_nodes{s:AM.St}{fl:Bool}{l:List Nde}{u:Value}(h:Rel s (.lst 2 fl (l.map iv)) u):Rel s (LNd fl l) u:=by
 refine rY h ζ (fun y b=>?_) (fun i x y hx b j c a=>?_)
 .obtain⟨z,_,rfl⟩:=List.mem_map.1 b;refine⟨rfl,fun c a=>?_⟩;simp only[iJ,V.cells,tw,tq,or_false]at a
  rcases a with rfl | rfl<;>rfl
 .rw[uK]at hx b
  cases hz:l[i]? with
  | none=>rw[hz]at hx;cases hx
  | some z =>
   rw[hz]at hx b;simp only[uS,Option.some.injEq]at hx b;subst hx;subst b
   match j with
   | 0=>simp[iJ,V.cells]at a;subst a;exact⟨_,rfl,.inl rfl⟩
   | 1=>simp[iJ,V.cells]at a;subst a;exact⟨_,rfl,shV_lf z.l⟩
   | j+2=>simp[iJ,V.cells]at a
def PN(l:List Nde)(r:V):Prop:=∃fl,r = .tup [LNd fl l,.int .i64 0]
def prove_u{ws:List Int}{es:List (List Nat)}(hb:HsB ws es)(f g:Bool)(b lf:Int)(P:List Nde×Int)(h:iS ws es (ws.length+1) (tg ws.length 0) lf b=some P)(h1:1<=lf)(h2:lf<=9000000000000000000)(t : -1000000000000000<=b)(v:b<=1000000000000000)(m : -9000000000000000000<=P.2)(hl:P.1.length<=1000000):
  aK prog 33 [aV f g ws es,.int .i64 b,.int .i64 lf] (PN P.1):=by
 refine iz (K:=PR P.1) ?_ (fun s u r ⟨fl,hr⟩ hrel=>?_)
 .have j:∀e∈es,e.length<=1000000:=fun e he=>by have:=hb.ed.len e he;have:=hb.n;omega
  have cv:=np ws es f g j;rw[ek.2 hb]at cv
  have d:∀bl∈[B.cells [L1 f ws,LLn g es]],rbB [B.cells [L1 f ws,LLn g es]].length bl:=by
   intro bl hb;simp at hb;subst hb;intro c a;simp at a;rcases a with rfl | rfl<;>exact cT ζ rfl
  have k:=pq [B.cells [L1 f ws,LLn g es]] f g ws es lf hb.n;have q:=nsH_at d f g ws es lf;have o:BOk (nsH [B.cells [L1 f ws,LLn g es]] f g ws es lf) 3 2 0:=⟨by simp[nsH],by simp[nsH],by simp[nsH],ω,ω,ω,q.rb⟩;have l:=prove_h (c:=B.cells [L1 f ws,LLn g es]) (f:=f) (g:=g) o (rbBM (by simp[nsH]) (d _ ζ)) hb (ws.length+1) (tg ws.length 0) lf b P ζ h m h2 ω (by have:=hb.n;omega) hl;have p:HS (nsH [B.cells [L1 f ws,LLn g es]] f g ws es lf) 3 2 0 f g ws es lf (tg ws.length 0) (B.cells [L1 f ws,LLn g es])=nsH [B.cells [L1 f ws,LLn g es]] f g ws es lf:=rfl;rw[p]at l;simp only[aV]at cv k;refine sPx func33 ?_;simp -dsimp[f33,tg,aV];refine cPx cv ?_;simp -dsimp[(ω:¬lf<1),(ω:¬b < -1000000000000000),(ω:¬1000000000000000<b)];refine bd k ?_;rintro _ _ ⟨rfl,rfl⟩;simp -dsimp;refine bd l ?_;rintro _ _ ⟨⟨fl,rfl⟩,rfl⟩;simp -dsimp;exact⟨fl,rfl⟩
 .subst hr;refine⟨.tup [LNd fl P.1,.int .i64 0],?_,ζ,fl,rfl⟩
  cases hrel with
  | tup _ us hs h =>
   refine .tup _ us hs (fun i c u a hu=>?_)
   match i with
   | 0=>simp at a;subst a;exact rel_nodes (h 0 _ u rfl hu)
   | 1=>simp at a;subst a;exact h 1 _ u rfl hu
   | i+2=>simp at a
end
end Go.Proofs.YtnaokiodhoadjaaGreatDoor
