/- JB27: texts MN, BU, LBp, joined and shortened by pack6.py. -/
import Derived.Test.YtnaokiodhoadjaaGreatDoorJB26
set_option linter.all false
set_option maxRecDepth 100000
set_option maxHeartbeats 64000000
open List renaming replicate→tg,nil_append→uL,cons_append→ur,set_cons_zero→wZ,filter_nil→wn,set_cons_succ→xA
open Nat renaming sub_zero→xe
namespace Go.Proofs.YtnaokiodhoadjaaGreatDoor
section
open Go Go.AM Go.Proofs.Tryz
def kh(a:Int)(f:Bool):aK prog 155 [.lst 1 f [.int .i64 a]] fun r=>r = .agg [.int .i64 a,.int .i64 0,.int .i64 0]:=by
 refine sPx func155 ?_;simp -dsimp[f155,tg,jq]
def sq(a b:Int)(f:Bool):aK prog 155 [.lst 1 f [.int .i64 a,.int .i64 b]] fun r=>r = .agg [.int .i64 a,.int .i64 b,.int .i64 0]:=by
 refine sPx func155 ?_;simp -dsimp[f155,tg,jq]
def edge3(a b c:Int)(f:Bool):aK prog 155 [.lst 1 f [.int .i64 a,.int .i64 b,.int .i64 c]] fun r=>r = .agg [.int .i64 a,.int .i64 b,.int .i64 c]:=by
 refine sPx func155 ?_;simp -dsimp[f155,tg,jq]
def edge_u{l:List Int}(h:jE l)(f:Bool):aK prog 155 [L1 f l] fun r=>r=bW l:=by
 rcases jL h with⟨a,rfl,_⟩ | ⟨a,b,rfl,_⟩ | ⟨a,b,c,rfl,_⟩
 .exact kh a f
 .exact sq a b f
 .exact edge3 a b c f
def smK1(all:List (List Int))(a:Int):smK all [a]=false:=by simp[smK]
def smK2(all:List (List Int))(a b:Int):smK all [a,b]=(all.contains [a]||all.contains [b]):=by
 simp[smK,ue]
def smK3(all:List (List Int))(a b c:Int):smK all [a,b,c]=(all.contains [a]||(all.contains [b,c]||(all.contains [b]||(all.contains [a,c]||(all.contains [c]||all.contains [a,b]))))):=by
 simp[smK,ue,Bool.or_assoc]
def look{a all:List (List Int)}(b:∀x,x∈a↔x∈all)(hp:∀x∈a,jE x){x:List Int}(hx:jE x):(all.contains x=true/\∃j,cd (bW x) (mK a) 0=some (j,.bool true))\/(all.contains x=false/\cd (bW x) (mK a) 0=none):=by
 by_cases h:x∈a
 .obtain⟨j,c,_⟩:=lT hx a 0 hp h;exact .inl ⟨by simpa using(b x).1 h,j,c⟩
 .exact .inr ⟨by simpa using fun e=>h ((b x).2 e),sU hx a 0 hp h⟩
def cc2(a b:Int)(g h:Bool):aK prog 157 [.lst 1 true [.lst 1 g [.int .i64 a],.lst 1 h [.int .i64 b]]] fun r=>r = .lst 1 false [.int .i64 a,.int .i64 b] :=
 tA [⟨g,[.int .i64 a]⟩,⟨h,[.int .i64 b]⟩] true (fun l hl x hx=>by
  simp only[tw,tq,or_false]at hl
  rcases hl with rfl | rfl<;>(simp only[uQ]at hx;subst hx;simp[cC,V.cells,V.one])) ζ (by simp[dl])
def cc0(a b:Int)(g h:Bool):aK prog 157 [.lst 1 true [.lst 1 g [],.lst 1 h [.int .i64 a,.int .i64 b]]] fun r=>r = .lst 1 false [.int .i64 a,.int .i64 b] :=
 tA [⟨g,[]⟩,⟨h,[.int .i64 a,.int .i64 b]⟩] true (fun l hl x hx=>by
  simp only[tw,tq,or_false]at hl
  rcases hl with rfl | rfl
  .cases hx
  .simp only[tw,tq,or_false]at hx
   rcases hx with rfl | rfl<;>simp[cC,V.cells,V.one]) ζ (by simp[dl])
def cc3(a b:Int)(g h:Bool):aK prog 157 [.lst 1 true [.lst 1 g [.int .i64 a,.int .i64 b],.lst 1 h []]] fun r=>r = .lst 1 false [.int .i64 a,.int .i64 b] :=
 tA [⟨g,[.int .i64 a,.int .i64 b]⟩,⟨h,[]⟩] true (fun l hl x hx=>by
  simp only[tw,tq,or_false]at hl
  rcases hl with rfl | rfl
  .simp only[tw,tq,or_false]at hx
   rcases hx with rfl | rfl<;>simp[cC,V.cells,V.one]
  .cases hx) ζ (by simp[dl])
def smaller_u{H:List B}(K all:List (List Int))(j km:Nat)(d:H[j]?=some (.cells [.map km]))(hm:H[km]?=some (.map (.arr 3) (mK K)))(w:∀bl∈H,rbB H.length bl)(p:∀x,x∈K↔x∈all)(hp:∀x∈K,jE x)(l:List Int)(f:Bool)(hl:jE l):
  aM prog (.fn 156 [.ptr j 0]) [L1 f l] H fun r H'=>r = .bool (smK all l)/\H'=H:=by
 simp only[aM,ur,uL];refine eu ?_ (by simp[rb,rb1]) ⟨uA _,w⟩;have m:=aB d
 have L:=fun x (hx:jE x)=>look p hp hx
 rcases jL hl with⟨a,rfl,ha⟩ | ⟨a,b,rfl,ha,hb⟩ | ⟨a,b,c,rfl,ha,hb,J⟩
 .rw[smK1];refine aH tok func156 rfl rfl ?_;refine wx ?_;simp -dsimp[f156,tg,L1,aG];refine aI (W_loopM 41 0x1ffffffff98 zMx (σ:=Nat) (fun i=>i<=1) (fun i=>1-i) (fun i=>[(7,.int .i64 i)]) (fun _=>H) 0 ω ζ ζ ζ ?_);intro i hi N Q o k;by_cases h0:i=0
  .subst h0;refine wx ?_;simp -dsimp;refine sTx ?_;refine sTx ?_;simp -dsimp[show IntKind.i64.wrap (1:Int)=1 from wrap64 ω ω];refine o 1 _ _ ω ω ζ ⟨[],ζ⟩ (by simp<;>exact m) w
  .obtain rfl:i=1:=by omega
   refine wx ?_;simp -dsimp;apply k;simp -dsimp
 .rw[smK2];have D:=L [a] ⟨ζ,ζ,by simpa using ha⟩;have S:=L [b] ⟨ζ,ζ,by simpa using hb⟩;simp only[bW,List.getD_cons_zero,List.getD_cons_succ,List.getD_nil]at D S;obtain⟨ca,z⟩:∃q,q=all.contains [a]:=⟨_,rfl⟩;obtain⟨F,y⟩:∃q,q=all.contains [b]:=⟨_,rfl⟩;rw[<-z]at D ⊢;rw[<-y]at S ⊢;obtain⟨E,u⟩:=ξ ((ca||F));rw[<-u];have v:=u.symm;clear u z y L hl p hp;have g:IntKind.i64.wrap (1:Int)=1:=wrap64 ω ω;have h:IntKind.i64.wrap (2:Int)=2:=wrap64 ω ω;refine aH tok func156 rfl rfl ?_;refine wx ?_;simp -dsimp[f156,tg,L1,aG];refine aI (W_loopM 41 0x1ffffffff98 zMx (σ:=Nat) (fun i=>i<=2/\(match i with | 0=>ca||F | 1=>F | _=>false)=E) (fun i=>2-i) (fun i=>[(7,.int .i64 i)]) (fun _=>H) 0 ⟨ω,v⟩ ζ ζ ζ ?_);rintro i ⟨hi,hx⟩ N Q o k
  have I:i=0\/i=1\/i=2:=by omega
  rcases I with rfl | rfl | rfl
  .simp only at hx
   rcases D with⟨rfl,s,hf⟩ | ⟨rfl,hf⟩
   .refine wx ?_;simp -dsimp[d,hm,g];refine sTx ?_;refine cQx (kh a _) ?_;simp -dsimp[d,hm,hf];apply k;simp -dsimp;simpa using hx
   .refine wx ?_;simp -dsimp[d,hm,g];refine sTx ?_;refine cQx (kh a _) ?_;simp -dsimp[d,hm,hf];refine sTx ?_;simp -dsimp[g];refine o 1 _ _ ⟨ω,by simpa using hx⟩ ω ζ ⟨[],ζ⟩ (by simp<;>exact m) w
  .simp only at hx
   rcases S with⟨rfl,s,hf⟩ | ⟨rfl,hf⟩
   .refine wx ?_;simp -dsimp[d,hm,g,h];refine sTx ?_;refine cQx (kh b _) ?_;simp -dsimp[d,hm,hf];apply k;simp -dsimp;simpa using hx
   .refine wx ?_;simp -dsimp[d,hm,g,h];refine sTx ?_;refine cQx (kh b _) ?_;simp -dsimp[d,hm,hf];refine sTx ?_;simp -dsimp[h];refine o 2 _ _ ⟨ω,by simpa using hx⟩ ω ζ ⟨[],ζ⟩ (by simp<;>exact m) w
  .refine wx ?_;simp -dsimp;apply k;simp -dsimp;simpa using hx
 .rw[smK3];have G:=L [a] ⟨ζ,ζ,by simpa using ha⟩;have t:=L [b,c] ⟨ζ,ζ,by simp[hb,J]⟩;have U:=L [b] ⟨ζ,ζ,by simpa using hb⟩;have T:=L [a,c] ⟨ζ,ζ,by simp[ha,J]⟩;have P:=L [c] ⟨ζ,ζ,by simpa using J⟩;have O:=L [a,b] ⟨ζ,ζ,by simp[ha,hb]⟩;simp only[bW,List.getD_cons_zero,List.getD_cons_succ,List.getD_nil]at G t U T P O;obtain⟨k0,e0⟩:∃q,q=all.contains [a]:=⟨_,rfl⟩;obtain⟨k1,W⟩:∃q,q=all.contains [b,c]:=⟨_,rfl⟩;obtain⟨M,Y⟩:∃q,q=all.contains [b]:=⟨_,rfl⟩;obtain⟨R,Z⟩:∃q,q=all.contains [a,c]:=⟨_,rfl⟩;obtain⟨C,V⟩:∃q,q=all.contains [c]:=⟨_,rfl⟩;obtain⟨A,X⟩:∃q,q=all.contains [a,b]:=⟨_,rfl⟩;rw[<-e0]at G ⊢;rw[<-W]at t ⊢;rw[<-Y]at U ⊢;rw[<-Z]at T ⊢;rw[<-V]at P ⊢;rw[<-X]at O ⊢;obtain⟨E,u⟩:=ξ ((k0||(k1||(M||(R||(C||A))))));rw[<-u];have g:IntKind.i64.wrap (1:Int)=1:=wrap64 ω ω;have h:IntKind.i64.wrap (2:Int)=2:=wrap64 ω ω;have n:IntKind.i64.wrap (3:Int)=3:=wrap64 ω ω;have v:=u.symm;clear L hl p hp u e0 W Y Z V X;refine aH tok func156 rfl rfl ?_;refine wx ?_;simp -dsimp[f156,tg,L1,aG];refine aI (W_loopM 41 0x1ffffffff98 zMx (σ:=Nat) (fun i=>i<=3/\(match i with | 0=>k0||(k1||(M||(R||(C||A)))) | 1=>M||(R||(C||A)) | 2=>C||A | _=>false)=E) (fun i=>3-i) (fun i=>[(7,.int .i64 i)]) (fun _=>H) 0 ⟨ω,v⟩ ζ ζ ζ ?_);rintro i ⟨hi,hx⟩ N Q o k
  have I:i=0\/i=1\/i=2\/i=3:=by omega
  rcases I with rfl | rfl | rfl | rfl
  .simp only at hx
   rcases G with⟨rfl,s,hf⟩ | ⟨rfl,hf⟩
   .refine wx ?_;simp -dsimp[d,hm,g,h,n];refine sTx ?_;refine cQx (kh a _) ?_;simp -dsimp[d,hm,hf];apply k;simp -dsimp;simpa using hx
   .refine wx ?_;simp -dsimp[d,hm,g,h,n];refine sTx ?_;refine cQx (kh a _) ?_;simp -dsimp[d,hm,hf,g,h,n]
    rcases t with⟨rfl,s,e⟩ | ⟨rfl,e⟩
    .refine sTx ?_;refine cQx (cc0 b c _ _) ?_;simp -dsimp;refine cQx (sq b c _) ?_;simp -dsimp[d,hm,e];apply k;simp -dsimp;simpa using hx
    .refine sTx ?_;refine cQx (cc0 b c _ _) ?_;simp -dsimp;refine cQx (sq b c _) ?_;simp -dsimp[d,hm,e,g,h,n];refine o 1 _ _ ⟨ω,by simpa using hx⟩ ω ζ ⟨[],ζ⟩ (by simp<;>exact m) w
  .simp only at hx
   rcases U with⟨rfl,s,hf⟩ | ⟨rfl,hf⟩
   .refine wx ?_;simp -dsimp[d,hm,g,h,n];refine sTx ?_;refine cQx (kh b _) ?_;simp -dsimp[d,hm,hf];apply k;simp -dsimp;simpa using hx
   .refine wx ?_;simp -dsimp[d,hm,g,h,n];refine sTx ?_;refine cQx (kh b _) ?_;simp -dsimp[d,hm,hf,g,h,n]
    rcases T with⟨rfl,s,e⟩ | ⟨rfl,e⟩
    .refine sTx ?_;refine cQx (cc2 a c _ _) ?_;simp -dsimp;refine cQx (sq a c _) ?_;simp -dsimp[d,hm,e];apply k;simp -dsimp;simpa using hx
    .refine sTx ?_;refine cQx (cc2 a c _ _) ?_;simp -dsimp;refine cQx (sq a c _) ?_;simp -dsimp[d,hm,e,g,h,n];refine o 2 _ _ ⟨ω,by simpa using hx⟩ ω ζ ⟨[],ζ⟩ (by simp<;>exact m) w
  .simp only at hx
   rcases P with⟨rfl,s,hf⟩ | ⟨rfl,hf⟩
   .refine wx ?_;simp -dsimp[d,hm,g,h,n];refine sTx ?_;refine cQx (kh c _) ?_;simp -dsimp[d,hm,hf];apply k;simp -dsimp;simpa using hx
   .refine wx ?_;simp -dsimp[d,hm,g,h,n];refine sTx ?_;refine cQx (kh c _) ?_;simp -dsimp[d,hm,hf,g,h,n]
    rcases O with⟨rfl,s,e⟩ | ⟨rfl,e⟩
    .refine sTx ?_;refine cQx (cc3 a b _ _) ?_;simp -dsimp;refine cQx (sq a b _) ?_;simp -dsimp[d,hm,e];apply k;simp -dsimp;simpa using hx
    .refine sTx ?_;refine cQx (cc3 a b _ _) ?_;simp -dsimp;refine cQx (sq a b _) ?_;simp -dsimp[d,hm,e,g,h,n];refine o 3 _ _ ⟨ω,by simpa using hx⟩ ω ζ ⟨[],ζ⟩ (by simp<;>exact m) w
  .refine wx ?_;simp -dsimp;apply k;simp -dsimp;simpa using hx
def exp_preL{H:List B}{k e m N r:Nat}{fz:Bool}{ls:List (List Int)}(hk:H[k]?=some (.buf e 1 (ip ls r) fz))(hm:ls.length=m)(a:m+r=N):Exp H (.buf k 0 m N) (LL false ls):=by
 subst hm;subst a
 have hl:(ip ls r).length=ls.length+r:=by simp[ip,liL]
 have:=Exp.buf k 0 ls.length e 1 (ip ls r) fz hk (by rw[hl];omega) (fun x hx=>by
  unfold ip liL at hx
  rcases List.mem_append.1 hx with h | h
  .obtain⟨y,_,rfl⟩:=List.mem_map.1 h;exact L1_pure _ _
  .obtain⟨_,rfl⟩:=List.mem_replicate.1 h;exact .nilS)
 rw[uG,hl]at this
 have b:(ip ls r).take ls.length=ls.map (L1 false):=by
  unfold ip liL;rw[xt ζ]
 rw[b]at this;exact this
def compL_len(l:List (List Int)):(eB l).length<=l.length:=by
 have key:∀p,(cpL l p).length<=p:=by
  intro p
  fun_induction cpL l p with
  | case1=>simp
  | case2=>simp
  | case3 p h a=>omega
  | case4 p h a=>simp;omega
 unfold eB;split
 .simp
 .exact key _
def sortLi_lens{l:List (List Int)}{k:Nat}(h:∀e∈l,e.length<=k):∀e∈cF l,e.length<=k:=fun e he=>h e ((eJ l).mem_iff.1 he)
def minimal_u(all:List (List Int))(g:Bool)(hA:∀d∈all,jE d)(hl:all.length<=100000):aK prog 98 [LL g all] fun r=>r=LL false (pk all):=by
 have y:∀i,∀x∈ddL all i,jE x:=fun i x hx=>hA x (uh (ddL_mem.1 hx))
 have L:∀μ:List (List Int),∀bl∈[B.map (.arr 3) (mK μ),B.cells [.map 0]],rbB 2 bl:=fun μ bl a=>by
  simp only[tw,tq,or_false]at a
  rcases a with rfl | rfl
  .exact mK_rb _ _ _
  .intro c u;simp at u;subst u;simp[rb,rb1]
 have z:∀(μ:List (List Int)) (o:List (List Int)),∀bl∈[B.map (.arr 3) (mK μ),B.cells [.map 0],B.buf 58 1 (o.map (L1 false)) false],rbB 3 bl:=fun μ o bl a=>by
  simp only[tw,tq,or_false]at a
  rcases a with rfl | rfl | rfl
  .exact mK_rb _ _ _
  .intro c u;simp at u;subst u;simp[rb,rb1]
  .exact qJ _ _ _
 obtain⟨PE,Y⟩:=ξ (pk all);rw[<-Y];refine sPx func98 ?_;simp -dsimp[f98,tg,LL];refine aI (W_loopM 22 0x3fc020 zMx (σ:=Nat) (fun i=>i<=all.length) (fun i=>all.length-i) (fun i=>[(14,.int .i64 i)]) (fun i=>[B.map (.arr 3) (mK (ddL all i)),B.cells [.map 0]]) 0 ω ζ (by simp[ddL,mK]) ζ ?_);intro i hi N Q hN hQ;by_cases hb:i<all.length
 .have hp:=hA _ (ti hb);have b:=ddL_succ hb;obtain⟨l,h⟩:=ξ (all[i]);rw[<-h]at hp b;have G:=edge_u hp false;obtain⟨x0,t⟩:∃x,x=l.getD 0 0:=⟨_,rfl⟩;obtain⟨J,A⟩:∃x,x=l.getD 1 0:=⟨_,rfl⟩;obtain⟨O,v⟩:∃x,x=l.getD 2 0:=⟨_,rfl⟩
  have n:bW l = .agg [.int .i64 x0,.int .i64 J,.int .i64 O]:=by rw[t,A,v];rfl
  rw[n]at G;clear t A v;simp only[L1]at G;by_cases m:l∈ddL all i
  .obtain⟨j,w,_,hg⟩:=lT hp (ddL all i) 0 (y i) m;have D:=mK_set hg;rw[xe]at D
   have R:kK (ddL all i) l=ddL all i:=by unfold kK;rw[if_pos (by simpa using m)]
   rw[R]at b;obtain⟨μ,S⟩:=ξ (ddL all i);rw[<-S]at w D b ⊢;rw[n]at w D;refine wx ?_;simp -dsimp[hb,h.symm,L1];refine aI (ae tok mixed [3] [] [(.agg [.int .i64 x0,.int .i64 J,.int .i64 O],[])] υ fun C K hC hK=>?_);simp -implicitDefEqProofs [w,D];refine⟨hC _ _ _ _ (bQ G ζ),hK _ _ ?_⟩;simp -dsimp[aE i ω];refine hN (i+1) _ _ ω ω ζ ⟨[],by simp[b]⟩ ζ (L _)
  .have w:=sU hp (ddL all i) 0 (y i) m
   have R:kK (ddL all i) l=ddL all i++[l]:=by unfold kK;rw[if_neg (by simpa using m)]
   rw[R]at b;obtain⟨μ,S⟩:=ξ (ddL all i);rw[<-S]at w b ⊢;rw[n]at w;refine wx ?_;simp -dsimp[hb,h.symm,L1];refine aI (ae tok mixed [3] [] [(.agg [.int .i64 x0,.int .i64 J,.int .i64 O],[])] υ fun C K hC hK=>?_);simp -implicitDefEqProofs [w];refine⟨hC _ _ _ _ (bQ G ζ),hK _ _ ?_⟩;simp -dsimp[aE i ω];refine hN (i+1) _ _ ω ω ζ ⟨[],by simp[b,ql,n]⟩ ζ (L _)
 .obtain rfl:i=all.length:=by omega
  obtain⟨F,P⟩:=ξ (ddL all all.length)
  have M:∀x,x∈F↔x∈all:=fun x=>by rw[P,ddL_mem,uV]
  have T:∀x∈F,jE x:=by rw[P];exact y _
  rw[<-P]
  obtain⟨E,Z⟩:=ξ (all.filter fun l=>!smK all l)
  have az:E.length<=all.length:=by rw[Z];exact uU _ _
  have W:∀e∈E,e.length<=3:=fun e he=>by rw[Z]at he;exact(hA e (List.mem_filter.1 he).1).2.1
  have U:PE=eB (cF E):=by rw[Y,Z];rfl
  refine wx ?_;simp -dsimp[hb];apply hQ;simp -dsimp;refine aI (bh 58 1 [7] ζ (W_loopM 46 0x3ffffe000680 zMx (σ:=Nat×List (List Int)) (fun p=>p.2.length<=p.1/\p.1<=all.length/\p.2++(all.drop p.1).filter (fun l=>!smK all l)=E) (fun p=>all.length-p.1) (fun p=>[(25,.int .i64 p.1),(7,.buf 2 0 p.2.length p.2.length)]) (fun p=>[B.map (.arr 3) (mK F),B.cells [.map 0],B.buf 58 1 (p.2.map (L1 false)) false]) (0,[]) ⟨ζ,ζ,by rw[Z];rfl⟩ ζ ζ ζ ?_));rintro⟨i,out⟩ ⟨ax,ay,hx⟩ N2 Q2 X ad;simp only at ax ay hx;by_cases q:i<all.length
  .rw[th q]at hx;have hp:=hA _ (ti q);have m:all[i]∈F:=(M _).2 (ti q);obtain⟨l,h⟩:=ξ (all[i]);rw[<-h]at hp hx m;have G:=edge_u hp false;obtain⟨x0,t⟩:∃x,x=l.getD 0 0:=⟨_,rfl⟩;obtain⟨J,A⟩:∃x,x=l.getD 1 0:=⟨_,rfl⟩;obtain⟨O,v⟩:∃x,x=l.getD 2 0:=⟨_,rfl⟩
   have n:bW l = .agg [.int .i64 x0,.int .i64 J,.int .i64 O]:=by rw[t,A,v];rfl
   clear t A v;have cl:=clone64p l false (by have:=hp.2.1;omega);obtain⟨j,w,_,_⟩:=lT hp F 0 T m
   have cs:=smaller_u (H:=[B.map (.arr 3) (mK F),B.cells [.map 0],B.buf 58 1 (out.map (L1 false)) false,B.cells [.int .i64 x0,.int .i64 J,.int .i64 O]]) F all 1 0 rfl rfl (fun bl a=>by
    simp only[tw,tq,or_false]at a
    rcases a with rfl | rfl | rfl | rfl
    .exact mK_rb _ _ _
    .intro c u;simp at u;subst u;simp[rb,rb1]
    .exact qJ _ _ _
    .intro c u;simp at u;rcases u with rfl | rfl | rfl<;>simp[rb,rb1]) M T l false hp
   rw[n]at G w;simp only[L1]at G cs cl
   cases hs:smK all l with
   | true =>
    rw[hs]at cs;rw[vu (by simp[hs])]at hx;refine wx ?_;simp -dsimp[q,h.symm,L1];refine cPx G ?_;simp -dsimp[w];refine cs.mono ?_;rintro r H' ⟨rfl,rfl⟩;simp -dsimp[aE i ω];refine X (i+1,out) _ _ ⟨θ,θ,hx⟩ θ ζ ⟨[B.cells [.int .i64 x0,.int .i64 J,.int .i64 O]],ζ⟩ ζ (z _ _)
   | false =>
    rw[hs]at cs;rw[vr (by simp[hs])]at hx;refine wx ?_;simp -dsimp[q,h.symm,L1];refine cPx G ?_;simp -dsimp[w];refine cs.mono ?_;rintro r H' ⟨rfl,rfl⟩;simp -dsimp;refine cPx cl ?_;simp -dsimp[eb out.length ω,bA out.length ω,aE i ω];refine X (i+1,out++[l]) _ _ ⟨by simp only[uB,List.length_singleton];omega,θ,by rw[<-hx];simp⟩ θ ζ ⟨[B.cells [.int .i64 x0,.int .i64 J,.int .i64 O]],by simp[L1]⟩ ζ (z _ _)
  .rw[tj ω,wn,uC]at hx;subst hx;have V:=gR out;have c4:=sortLi_u (H:=[B.map (.arr 3) (mK F),B.cells [.map 0],B.buf 58 1 (out.map (L1 false)) false]) (k:=2) (e:=58) (f:=false) out out.length rfl ζ ω (fun l hl=>by have:=W l hl;omega);have I:=sortLi_lens W;obtain⟨s,al⟩:=ξ (cF out);rw[<-al]at c4 V I U;have c5:=compactL_h (H:=[B.map (.arr 3) (mK F),B.cells [.map 0],B.buf 58 1 (s.map (L1 false)) false]) (k0:=2) ζ (z _ _) s out.length V ω (fun l hl=>by have:=I l hl;omega);have an:=compL_len s;rw[<-U]at c5 an;simp only[LBi,KB,liL,xA,wZ]at c4 c5;refine wx ?_;simp -dsimp[q];apply ad;simp -dsimp;refine wcZ c4 ?_;rintro r H' ⟨rfl,rfl⟩;simp -dsimp;refine wcZ c5 ?_;rintro r H' ⟨rfl,rfl⟩;simp -dsimp;exact exp_preL rfl rfl ω
def bdV(t:Tb)(cs:List Cn):V:=if aX t cs=0 then qX false false (ao t.rows) (bI (cO t cs)) else .agg [.nilS,.nilS]
structure BdOk (t:Tb) (cs:List Cn):Prop where
 ok:TbOk t
 small:t.rows.length<=8->TbS t
 rows:t.rows.length<=8\/200<t.rows.length
 few:cs.length<=5
 cns:∀c∈cs,CnB c
def posL_of{t:Tb}(g:TbC t){x:List Int}(h:EdgL t.rows x):jE x:=⟨h.2.1,h.2.2.1,fun a ha=>by
 have:=h.2.2.2 a ha;unfold ao at this;obtain⟨r,hr,rfl⟩:=List.mem_map.1 this
 exact g.pos r hr⟩
def progE_len(all:List (List Int)):(pk all).length<=all.length:=by
 unfold pk;refine ug (compL_len _) ?_;rw[gR];exact uU _ _
def allV_len{t:Tb}(b:t.rows.length<=8){cs:List Cn}(h:∀c∈cs,aU t c=0)(hl:cs.length<=5):(allV t cs).length<=20000:=by
 have:=gf cs (f:=cnV t) (k:=4000) fun c a=>cnV_len b (h c a)
 unfold allV;have h2:cs.length*4000<=5*4000:=uI _ hl;omega
def LFz_rb(n e:Nat)(o:List (List Int))(fz:Bool):rbB n (.buf e 1 (o.map (L1 false)) fz):=fun x hx=>by
 obtain⟨y,_,rfl⟩:=List.mem_map.1 hx;intro c a;simp only[L1,V.cells,tw,tq,or_false]at a;subst a;simp[rb1]
def qC{t:Tb}{cs:List Cn}{i:Nat}(h:i<cs.length):dG t (cs.drop i)=if aU t cs[i]=0 then dG t (cs.drop (i+1)) else aU t cs[i]:=by
 rw[th h,dG]
def build_u(t:Tb)(cs:List Cn)(f g fc:Bool)(h:BdOk t cs):aK prog 56 [aD f g t,LCn fc cs] fun r=>r = .tup [bdV t cs,.int .i64 (aX t cs)]:=by
 have C:=gP t f g h.ok;have a7:B.cells [.str t.name,.lst 1 f (t.attrs.map V.str),.lst 2 g (t.rows.map aF)]=tcB t f g:=rfl
 have H:∀n,rbB n (tcB t f g):=fun n=>cW n t f g
 by_cases hv:validT t=0
 case neg =>
  have he:aX t cs=validT t:=by unfold aX;rw[if_neg hv]
  have s:bdV t cs = .agg [.nilS,.nilS]:=by unfold bdV;rw[he,if_neg hv]
  rw[he,s];obtain⟨e,K⟩:=ξ (validT t);rw[<-K]at C hv ⊢;simp only[aD,LS,LR]at C;refine sPx func56 ?_;simp -dsimp[f56,tg,aD,LS,LR,LCn];refine cPx C ?_;simp -dsimp[hv]
 case pos =>
 rw[hv]at C;have W:=tbC hv;by_cases h2:200<t.rows.length
 .have he:aX t cs=3:=by unfold aX;rw[if_pos hv,if_pos h2]
  have s:bdV t cs = .agg [.nilS,.nilS]:=by unfold bdV;rw[he,if_neg (by decide)]
  rw[he,s];simp only[aD,LS,LR]at C;refine sPx func56 ?_;simp -dsimp[f56,tg,aD,LS,LR,LCn];refine cPx C ?_;simp -dsimp[(ω:(200:Int)<t.rows.length)]
 have h8:t.rows.length<=8:=by have:=h.rows;omega
 have a6:=h.small h8;have Z:=h.cns;have a2:=h.few
 have he:aX t cs=dG t cs:=by unfold aX;rw[if_pos hv,if_neg h2]
 have s:bdV t cs=if dG t cs=0 then qX false false (ao t.rows) (pk (allV t cs)) else .agg [.nilS,.nilS]:=by
  unfold bdV;rw[he];split
  .rename_i h0;rw[sk W (lj h0)]
  .rfl
 rw[he,s];simp only[aD,LS,LR]at C
 have ad:∀bl∈[tcB t f g,B.cells [.nilS,.nilS]],rbB 2 bl:=fun bl b=>by
  simp only[tw,tq,or_false]at b
  rcases b with rfl | rfl
  .exact H _
  .intro c v;simp at v;subst v;simp[rb,rb1]
 have D:∀o:List (List Int),∀bl∈[tcB t f g,B.cells [.nilS,.nilS],B.buf 58 1 (o.map (L1 false)) false],rbB 3 bl:=fun o bl b=>by
  simp only[tw,tq,or_false]at b
  rcases b with rfl | rfl | rfl
  .exact H _
  .intro c v;simp at v;subst v;simp[rb,rb1]
  .exact qJ _ _ _
 refine sPx func56 ?_;simp -dsimp[f56,tg,aD,LS,LR,LCn];refine cPx C ?_;simp -dsimp[(ω:¬(200:Int)<t.rows.length)];refine aI (W_loopM 47 0x7fff00000720 zMx (σ:=Nat) (fun i=>i<=cs.length/\dG t (cs.drop i)=dG t cs) (fun i=>cs.length-i) (fun i=>[(32,.int .i64 i)]) (fun _=>[tcB t f g,B.cells [.nilS,.nilS]]) 0 ⟨ω,by rw[uG]⟩ ζ (by simp[tcB]) ζ ?_);rintro i ⟨hi,hx⟩ N Q hN hQ;by_cases hb:i<cs.length
 .rw[qC hb]at hx;have u:=Z _ (ti hb);obtain⟨c,k⟩:=ξ (cs[i]);rw[<-k]at hx u;have q:=nH t c f g W.wide u;have hp:=trV_pure t c;obtain⟨tv,ay⟩:=ξ (trV t c);rw[<-ay]at q hp;simp only[aD,LS,LR,aW,L1,LCl,LA]at q;by_cases h0:aU t c=0
  .rw[if_pos h0]at hx;rw[h0]at q;refine wx ?_;simp -dsimp[hb,k.symm,aW,L1,LCl,LA,tcB];refine cPx q ?_;simp -dsimp[aE i ω];refine hN (i+1) _ _ ⟨ω,hx⟩ ω ζ ⟨[B.cells (eY c)],by simp[tcB,eY]⟩ ζ ad
  .rw[if_neg h0]at hx;obtain⟨e,K⟩:=ξ (aU t c);rw[<-K]at q h0 hx;refine wx ?_;simp -dsimp[hb,k.symm,aW,L1,LCl,LA,tcB];refine cPx q ?_;simp -dsimp[h0];apply hQ;simp -dsimp;rw[<-hx];exact⟨fun h=>absurd h h0,rfl⟩
 .have h0:dG t cs=0:=by rw[<-hx,tj ω];rfl
  have z:=lj h0;have L:=allV_len h8 z a2
  have M:∀d∈allV t cs,jE d:=fun d hd=>posL_of W (fM W z ((all_mem W z).1 hd))
  have hA:∃A,A=allV t cs:=⟨_,rfl⟩;obtain⟨A,hA⟩:=hA;rw[<-hA]at L M;have an:=progE_len A;have cm:=minimal_u A false M ω;obtain⟨PE,Y⟩:=ξ (pk A);rw[<-Y]at cm an;simp only[LL]at cm;refine wx ?_;simp -dsimp[hb];apply hQ;simp -dsimp;refine aI (bh 58 1 [11] ζ (W_loopM 67 0x7fffe00000000e820 zMx (σ:=Nat×List (List Int)) (fun p=>p.2++(cs.drop p.1).flatMap (cnV t)=A) (fun p=>cs.length-p.1) (fun p=>[(49,.int .i64 p.1),(11,.buf 2 0 p.2.length p.2.length)]) (fun p=>[tcB t f g,B.cells [.nilS,.nilS],B.buf 58 1 (p.2.map (L1 false)) false]) (0,[]) (by rw[hA];rfl) ζ ζ ζ ?_));rintro⟨i,out⟩ a N2 Q2 X ax;simp only at a;by_cases m:i<cs.length
  .rw[flat_drop m]at a;have u:=Z _ (ti m);have F:=z _ (ti m);obtain⟨c,k⟩:=ξ (cs[i]);rw[<-k]at a u F;have q:=violations_u t c f g a6 hv u;rw[F,show vlV t c=LL false (cnV t c) from by unfold vlV;rw[if_pos F]]at q;obtain⟨w,hw⟩:=ξ (cnV t c);rw[<-hw]at q a
   have a8:out.length+w.length<=20000:=by rw[<-a]at L;simp only[uB]at L;omega
   simp only[aD,LS,LR,aW,L1,LCl,LA,LL]at q;by_cases T:w=[]
   .subst T;refine wx ?_;simp -dsimp[m,k.symm,aW,L1,LCl,LA,tcB];refine cPx q ?_;simp -dsimp[aE i ω];refine X (i+1,out) _ _ (by simpa using a) θ ζ ⟨[B.cells (eY c)],by simp[tcB,eY]⟩ ζ (D _)
   .refine wx ?_;simp -dsimp[m,k.symm,aW,L1,LCl,LA,tcB];refine cPx q ?_;simp -dsimp[T,capV out.length w.length ω,aE i ω];refine X (i+1,out++w) _ _ (by rw[<-a];simp) θ ζ ⟨[B.cells (eY c)],by simp[tcB,eY]⟩ ζ (D _)
  .rw[tj ω,xg,uC]at a;subst a;obtain⟨I,hI⟩:=ξ (ao t.rows)
   have O:I.length=t.rows.length:=by rw[hI,bg]
   obtain⟨R,hR⟩:=ξ t.rows;rw[<-hR]at O h8
   have aA:∀i (h:i<R.length),I.take (i+1)=I.take i++[R[i].id]:=fun i h=>by
    rw[tz ω];congr 2;simp[hI,ao,hR]
   have E:tcB t f g=B.cells [.str t.name,.lst 1 f (t.attrs.map V.str),.lst 2 g (R.map aF)]:=by rw[hR];rfl
   have S:∀(i:Nat) (l:List Int),∀bl∈[tcB t f g,B.cells [.nilS,.nilS],B.buf 58 1 (out.map (L1 false)) true,B.cells [.buf 4 0 i i,.lst 1 false (PE.map (L1 false))],B.buf 2 1 (l.map aG) false],rbB 5 bl:=fun i l bl b=>by
    simp only[tw,tq,or_false]at b
    rcases b with rfl | rfl | rfl | rfl | rfl
    .exact H _
    .intro c v;simp at v;subst v;simp[rb,rb1]
    .exact LFz_rb _ _ _ _
    .intro c v;simp at v;rcases v with rfl | rfl<;>simp[rb,rb1]
    .exact(rbB_buf1 (fun x hx=>by obtain⟨y,_,rfl⟩:=List.mem_map.1 hx;exact⟨ζ,rfl⟩)).2 trivial
   refine dv 2 [11] rfl ζ ?_;refine wx ?_;simp -dsimp[m];apply ax;simp -dsimp[LL];refine cPx cm ?_;simp -dsimp[E];rw[<-E];refine aI (cx 2 1 [] 3 [0] rfl ζ ζ (W_loopM 85 0x1ffe000000000000040000 zMx (σ:=Nat) (fun i=>i<=R.length) (fun i=>R.length-i) (fun i=>[(73,.int .i64 i)]) (fun i=>[tcB t f g,B.cells [.nilS,.nilS],B.buf 58 1 (out.map (L1 false)) true,B.cells [.buf 4 0 i i,.lst 1 false (PE.map (L1 false))],B.buf 2 1 ((I.take i).map aG) false]) 0 ω ζ ζ ζ ?_));intro j hj N3 Q3 az al
   have P:(I.take j).length=j:=by simp;omega
   by_cases J:j<R.length
   .have G:=aA j J;obtain⟨r,U⟩:=ξ (R[j]);rw[<-U]at G;obtain⟨l,aJ⟩:=ξ (I.take j);rw[<-aJ]at G P ⊢;refine wx ?_;simp -dsimp[J,U.symm,aF,LV,P,jx j ω,bA j ω,aE j ω];refine az (j+1) _ _ ω ω ζ ⟨[B.cells [.int .i64 r.id,.lst 3 false (r.vals.map aP)]],by simp[G,aG]⟩ ζ (S _ _)
   .obtain rfl:j=R.length:=by omega
    rw[uY ω];refine fA 4 [] 3 [0] rfl rfl ζ (by simp[O]) ?_;refine wx ?_;simp -dsimp[J];apply al;simp -dsimp[(ω:¬(20000:Int)<PE.length)];rw[if_pos h0,<-hA,<-Y,<-hI];simp[qX,L1,LL];exact h0.symm
theorem cnsErr_of{t:Tb} : ∀{cs:List Cn},(∀c∈cs,aU t c=0)->dG t cs=0
 | [],_=>rfl
 | c::cs,h=>by
  rw[dG,if_pos (h c (uN ..))]
  exact cnsErr_of fun c' a=>h c' (uO _ a)
def bdV_yes{t:Tb}{cs:List Cn}(h:aX t cs=0):bdV t cs=qX false false (ao t.rows) (bI (cO t cs)):=by unfold bdV;rw[if_pos h]
def bdV_no{t:Tb}{cs:List Cn}(h:¬aX t cs=0):bdV t cs = .agg [.nilS,.nilS]:=by unfold bdV;rw[if_neg h]
def ec{t:Tb}{cs:List Cn}(h:aX t cs=0):validT t=0/\t.rows.length<=200/\∀c∈cs,aU t c=0:=by
 unfold aX at h;split at h
 .rename_i h1;split at h
  .cases h
  .exact⟨h1,ω,lj h⟩
 .rename_i h1;exact absurd h h1
def eK{t:Tb}{cs:List Cn}(hb:BdOk t cs)(h:aX t cs=0):Small (ao t.rows) (bI (cO t cs))/\Hyp (ao t.rows) (bI (cO t cs))/\(bI (cO t cs)).length<=20000:=by
 obtain⟨h1,h2,a⟩:=ec h;have g:=tbC h1
 have c:t.rows.length<=8:=by have:=hb.rows;omega
 have b:=edges_hyp g a
 have hl:(bI (cO t cs)).length<=20000:=by
  rw[<-sk g a];exact ug (progE_len _) (allV_len c a hb.few)
 refine⟨⟨by rw[bg];omega,ω,fun e he=>?_⟩,b,hl⟩;have hm:=(lY (l:=cO t cs) fun e he=>(fM g a he).1).mem e;have:=(fM g a (hm.1 he).1).2.2.1;omega
end
end Go.Proofs.YtnaokiodhoadjaaGreatDoor
