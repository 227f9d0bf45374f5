/- JB39: texts SC3, joined and shortened by pack6.py. -/
import Derived.Test.YtnaokiodhoadjaaGreatDoorJB34
import Derived.Test.YtnaokiodhoadjaaGreatDoorJB38
set_option linter.all false
set_option maxRecDepth 100000
set_option maxHeartbeats 64000000
open List renaming replicate→tg,nil_append→uL,cons_append→ur
namespace Go.Proofs.YtnaokiodhoadjaaGreatDoor
section
open Go Go.AM Go.Proofs.Tryz
def problem_r(t:Tb)(cs:List Cn)(w:List Int)(f g fc fw:Bool)(h:BdOk t cs)(hw:w.length<=1000000):aK prog 7 [aD f g t,LCn fc cs,L1 fw w] fun r=>r = .tup [prV t cs w,.int .i64 (prE t cs w)]:=by
 have y:=build37 t cs f g fc h;have a7:B.cells [.str t.name,.lst 1 f (t.attrs.map V.str),.lst 2 g (t.rows.map aF)]=tcB t f g:=rfl
 have T:∀n,rbB n (tcB t f g):=fun n=>cW n t f g
 by_cases h0:aX t cs=0
 case neg =>
  have he:prE t cs w=aX t cs:=by unfold prE;rw[if_neg h0]
  rw[re (by rw[he];exact h0),he];rw[bdV_no h0]at y;obtain⟨e,u⟩:=ξ (aX t cs);rw[<-u]at y h0 ⊢;simp only[aD,LS,LR,LCn]at y;refine sPx func7 ?_;simp -dsimp[f7,tg,aD,LS,LR,LCn,L1];refine cPx y ?_;simp -dsimp[h0]
 case pos =>
 rw[h0,bdV_yes h0]at y;obtain⟨M,hh,aA⟩:=eK h h0;by_cases hl:w=[]\/w.length=t.rows.length
 case neg =>
  have he:prE t cs w=6:=by unfold prE;rw[if_pos h0,if_neg hl]
  rw[re (by rw[he];decide),he];obtain⟨ad,bY⟩:=not_or.1 hl;have S:=List.length_pos_iff.2 ad;simp only[aD,LS,LR,LCn,qX,L1,LL]at y;refine sPx func7 ?_;simp -dsimp[f7,tg,aD,LS,LR,LCn,L1];refine cPx y ?_;simp -dsimp[(ω:¬((w.length:Int)=0)),(ω:¬((w.length:Int)=t.rows.length)),ad,bY,S]
 case pos =>
 have hV:prE t cs w=fN (inW t w) (inE t cs):=by unfold prE;rw[if_pos h0,if_pos hl]
 have H:=fC hl
 have bv:t.rows.length<=8:=by
  obtain⟨_,h2,_⟩:=ec h0;have:=h.rows;omega
 have gT:=tbC (ec h0).1
 have G:∀e∈inE t cs,e.length<=1000000:=fun e he=>by
  obtain⟨x,hx,rfl⟩:=List.mem_map.1 he;rw[qo];exact M.2.2 x hx
 have cv:=valid39N (inW t w) (inE t cs) false false G;have Z:inE t cs=(bI (cO t cs)).map (ixE (ao t.rows)):=rfl
 have X:prV t cs w=if fN (inW t w) (inE t cs)=0 then aV false false (inW t w) (inE t cs) else .agg [.nilS,.nilS]:=by unfold prV;rw[hV]
 rw[X,hV]
 have O:w=[]->inW t w=tg t.rows.length 1:=fun e=>by rw[e];exact inW_nil t
 have U:w≠[]->inW t w=w:=fun e=>inW_ne e
 have az:=fun id=>fnd_bs gT id
 have cf:=fun id=>find03 t f g id ω
 obtain⟨VE,an⟩:=ξ (fN (inW t w) (inE t cs));rw[<-an]at cv ⊢;rw[Z]at cv ⊢;clear X hV an Z G;obtain⟨I,hI⟩:=ξ (ao t.rows);obtain⟨E,hE⟩:=ξ (bI (cO t cs));obtain⟨d,J⟩:=ξ (inW t w);rw[<-hI,<-hE]at y hh M;rw[<-hI,<-hE,<-J]at cv ⊢;rw[<-hI]at az;rw[<-hE]at aA;rw[<-J]at H O U;obtain⟨_,_,bx⟩:=M;have ay:=hh.sub;have bz:=hh.ne;clear hh J;obtain⟨n,hn⟩:=ξ t.rows.length;rw[<-hn]at hl H bv O;have s:=hn.symm
 have F:∀(ws:List Int) (j:Nat) (l:List (List Nat)),∀bl∈[tcB t f g,B.cells [.nilS,.nilS],B.cells [.lst 1 false (I.map aG),.lst 1 false (E.map (L1 false))],B.cells [.lst 1 false (ws.map aG),.buf 5 0 j j],B.buf 2 1 (ws.map aG) true,B.buf 42 1 (l.map (Ln false)) false],rbB 6 bl:=fun ws j l bl m=>by
  simp only[tw,tq,or_false]at m
  rcases m with rfl | rfl | rfl | rfl | rfl | rfl
  .exact T _
  .exact co (by simp[rb]) (by simp[rb])
  .exact co (by simp[rb]) (by simp[rb])
  .exact co (by simp[rb]) (by simp[rb,rb1])
  .exact nl _ _ _ _
  .exact lnB_rb _ _ _ _
 have R:∀(ws:List Int) (j:Nat) (l:List (List Nat)) (q:List Nat),∀bl∈[tcB t f g,B.cells [.nilS,.nilS],B.cells [.lst 1 false (I.map aG),.lst 1 false (E.map (L1 false))],B.cells [.lst 1 false (ws.map aG),.buf 5 0 j j],B.buf 2 1 (ws.map aG) true,B.buf 42 1 (l.map (Ln false)) false]++[B.buf 3 1 (q.map eN) false],rbB 7 bl:=fun ws j l q bl m=>by
  rcases List.mem_append.1 (show bl∈([tcB t f g,B.cells [.nilS,.nilS],B.cells [.lst 1 false (I.map aG),.lst 1 false (E.map (L1 false))],B.cells [.lst 1 false (ws.map aG),.buf 5 0 j j],B.buf 2 1 (ws.map aG) true,B.buf 42 1 (l.map (Ln false)) false])++[B.buf 3 1 (q.map eN) false] from m) with A | A
  .exact rbBM ω (F ws j l bl A)
  .rw[uQ]at A;subst A;exact nat_rb _ _ _ _
 have D:∀(ws:List Int) (i:Nat),∀bl∈[tcB t f g,B.cells [.nilS,.nilS],B.cells [.lst 1 false (I.map aG),.lst 1 false (E.map (L1 false))],B.cells [.buf 4 0 i i,.nilS],B.buf 2 1 (ws.map aG) false],rbB 5 bl:=fun ws i bl m=>by
  simp only[tw,tq,or_false]at m
  rcases m with rfl | rfl | rfl | rfl | rfl
  .exact T _
  .exact co (by simp[rb]) (by simp[rb])
  .exact co (by simp[rb]) (by simp[rb])
  .exact co (by simp[rb,rb1]) (by simp[rb])
  .exact nl _ _ _ _
 simp only[aD,LS,LR,LCn,qX,L1,LL]at y;simp only[aD,LS,LR]at cf;simp only[aV,L1,LLn,xH]at cv
 have b4:∀i (h:i<d.length),d.take (i+1)=d.take i++[d[i]]:=fun i h=>tz h
 have bb:∀i (h:i<n),∃x,d[i]?=some x/\(w=[]->x=1)/\(w≠[]->w[i]?=some x):=fun i h=>by
  refine⟨d[i]'ω,tm _,fun e=>?_,fun e=>?_⟩
  .have A:=O e;subst A;simp
  .have A:=U e;subst A;exact tm _
 by_cases v:w=[]
 case' pos =>
  refine sPx func7 ?_;simp -dsimp[f7,tg,aD,LS,LR,LCn,L1];refine cPx y ?_;simp -dsimp[v,L1]
 case' neg =>
  have W:w.length=n:=hl.resolve_left v;have S:=List.length_pos_iff.2 v;refine sPx func7 ?_;simp -dsimp[f7,tg,aD,LS,LR,LCn,L1];refine cPx y ?_
  have b3:0<n:=by omega
  simp -dsimp[W,s,b3,v,(ω:(0:Int)<(n:Int)),(ω:¬n=0),(ω:¬(n:Int)=0),L1]
 all_goals
  refine aI (cx 2 1 [] 3 [0] rfl ζ ζ (W_loopM 61 0x1ffffe0000c81800 zMx (σ:=Nat) (fun i=>i<=n) (fun i=>n-i) (fun i=>[(11,.int .i64 i)]) (fun i=>[tcB t f g,B.cells [.nilS,.nilS],B.cells [.lst 1 false (I.map aG),.lst 1 false (E.map (L1 false))],B.cells [.buf 4 0 i i,.nilS],B.buf 2 1 ((d.take i).map aG) false]) 0 ω ζ (by simp[tcB]) ζ ?_));intro i hi N Q hN hQ
  have K:(d.take i).length=i:=by simp;omega
  by_cases hb:i<n
  .obtain⟨x,ba,a8,b2⟩:=bb i hb
   have a:d.take (i+1)=d.take i++[x]:=by
    rw[tz ω];obtain⟨_,A⟩:=List.getElem?_eq_some_iff.1 ba;rw[A]
   obtain⟨l,br⟩:=ξ (d.take i);rw[<-br]at a K ⊢;by_cases c:w=[]
   .try exact absurd c v
    all_goals
     have hx:=a8 c;subst hx;refine wx ?_;simp -dsimp[hb,s,c,tcB,K,jx i ω,bA i ω,aE i ω,L1];refine hN (i+1) _ _ ω ω (by simp[s,c]) ⟨[],by simp[a,aG,tcB]⟩ ζ (D _ _)
   .try exact absurd v c
    all_goals
     obtain⟨q1,q2⟩:=List.getElem?_eq_some_iff.1 (b2 c)
     have hp:0<w.length:=by omega
     refine wx ?_;simp -dsimp[hb,s,c,q1,q2,hp,(ω:(0:Int)<w.length),tcB,aG,K,jx i ω,bA i ω,aE i ω,L1];refine hN (i+1) _ _ ω ω (by simp[s]) ⟨[],by simp[a,aG,tcB]⟩ ζ (D _ _)
  obtain rfl:i=n:=by omega
  rw[uY ω];refine wx ?_;simp -dsimp[hb,s,tcB,L1];apply hQ;simp -dsimp[a7,L1];refine aI (fA 4 [] 3 [0] rfl rfl ζ (by simp[H]) (cx 42 1 [] 3 [1] rfl ζ ζ (W_loopM 101 0x1fffffffffe000000000cbe000 zMx (σ:=Nat) (fun j=>j<=E.length) (fun j=>E.length-j) (fun j=>[(13,.int .i64 j)]) (fun j=>[tcB t f g,B.cells [.nilS,.nilS],B.cells [.lst 1 false (I.map aG),.lst 1 false (E.map (L1 false))],B.cells [.lst 1 false (d.map aG),.buf 5 0 j j],B.buf 2 1 (d.map aG) true,B.buf 42 1 (((E.take j).map (ixE I)).map (Ln false)) false]) 0 ω ζ ζ ζ ?_)));intro j hj N2 Q2 b1 a6
  have al:((E.take j).map (ixE I)).length=j:=by simp;omega
  by_cases b:j<E.length
  .have a:=ix_take (I:=I) b;have a2:=bx _ (ti b);have bi:=bz _ (ti b);have Y:=ay _ (ti b);obtain⟨e,u⟩:=ξ (E[j]);rw[<-u]at a a2 bi Y;obtain⟨P,hP⟩:=ξ ((E.take j).map (ixE I));rw[<-hP]at a al ⊢;refine wx ?_;simp -dsimp[b,u.symm,L1];refine aI (bh 3 1 [14] ζ (W_loopM 95 0x7ffffff0000000000003c000 zMx (σ:=Nat) (fun k=>k<=e.length) (fun k=>e.length-k) (fun k=>[(15,.int .i64 k),(14,.buf 6 0 k k)]) (fun k=>[tcB t f g,B.cells [.nilS,.nilS],B.cells [.lst 1 false (I.map aG),.lst 1 false (E.map (L1 false))],B.cells [.lst 1 false (d.map aG),.buf 5 0 j j],B.buf 2 1 (d.map aG) true,B.buf 42 1 (P.map (Ln false)) false]++[B.buf 3 1 ((ixE I (e.take k)).map eN) false]) 0 ω ζ (by simp[ixE]) ζ ?_));intro k hk N3 Q3 be aJ
   have z:(ixE I (e.take k)).length=k:=by rw[qo];simp;omega
   simp only[ur,uL];by_cases C:k<e.length
   .have o:=ixE_succ (I:=I) C;have ax:=Y _ (ti C);obtain⟨x,hx⟩:=ξ (e[k]);rw[<-hx]at o ax;have L:=cf x;rw[az,if_pos (bP.2 ax)]at L;obtain⟨p,hp⟩:=ξ (bsP I x);rw[<-hp]at o L;obtain⟨q,hq⟩:=ξ (ixE I (e.take k));rw[<-hq]at o z ⊢;refine wx ?_;simp -dsimp[C,b,u.symm,hx.symm,aG,tcB,L1];refine sTx ?_;refine cQx L ?_;simp -dsimp[z,jx k ω,bA k ω,aE k ω,L1];refine be (k+1) _ _ ω ω ζ ⟨[],by simp[o,eN,tcB]⟩ ζ (R _ _ _ _)
   .obtain rfl:k=e.length:=by omega
    rw[uV]at z ⊢;obtain⟨q,hq⟩:=ξ (ixE I e);rw[<-hq]at a z ⊢;refine dv 6 [14] rfl (by simp[z]) ?_;refine wx ?_;simp -dsimp[C,b,u.symm,tcB,L1];apply aJ;simp -dsimp[al,eb j ω,bA j ω,aE j ω,L1];refine b1 (j+1) _ _ ω ω ζ ⟨[B.buf 3 1 (q.map eN) true],by simp[a,Ln,tcB]⟩ ζ (F _ _ _)
  .obtain rfl:j=E.length:=by omega
   rw[uV];refine fA 5 [] 3 [1] rfl rfl ζ ζ ?_;refine wx ?_;simp -dsimp[b,L1];apply a6;simp -dsimp[L1];refine cPx cv ?_;by_cases hz:VE=0
   .subst hz;rw[if_pos rfl];simp -dsimp[L1];simp[aV,L1,LLn]
   .rw[if_neg hz];simp -dsimp[hz,L1]
end
end Go.Proofs.YtnaokiodhoadjaaGreatDoor
