/- JB34: texts SC2, SC7, joined and shortened by pack6.py. -/
import Derived.Test.YtnaokiodhoadjaaGreatDoorJB33
set_option linter.all false
set_option maxRecDepth 100000
set_option maxHeartbeats 64000000
open List renaming replicate→tg,nil_append→uL,cons_append→ur
namespace Go.Proofs.YtnaokiodhoadjaaGreatDoor
section
open Go Go.AM Go.Proofs.Tryz
noncomputable def prV(t:Tb)(cs:List Cn)(w:List Int):V:=if prE t cs w=0 then aV false false (inW t w) (inE t cs) else .agg [.nilS,.nilS]
def prV_yes{t:Tb}{cs:List Cn}{w:List Int}(h:prE t cs w=0):prV t cs w=aV false false (inW t w) (inE t cs):=by unfold prV;rw[if_pos h]
def re{t:Tb}{cs:List Cn}{w:List Int}(h:¬prE t cs w=0):prV t cs w = .agg [.nilS,.nilS]:=by unfold prV;rw[if_neg h]
def lnB_rb(n e:Nat)(es:List (List Nat))(fz:Bool):rbB n (.buf e 1 (es.map (Ln false)) fz):=fun x hx=>by
 obtain⟨y,_,rfl⟩:=List.mem_map.1 hx;intro c a;simp only[Ln,V.cells,tw,tq,or_false]at a;subst a;simp[rb1]
def nl(n e:Nat)(xs:List Int)(fz:Bool):rbB n (.buf e 1 (xs.map aG) fz):=fun x hx=>by
 obtain⟨y,_,rfl⟩:=List.mem_map.1 hx;intro c a;simp only[aG,V.cells,tw,tq,or_false]at a;subst a;simp[rb1]
def co{n:Nat}{a b:V}(ha:rb n a)(hb:rb n b):rbB n (.cells [a,b]):=fun c d=>by
 simp only[tw,tq,or_false]at d
 rcases d with rfl | rfl
 .exact ha
 .exact hb
def ix_take{I:List Int}{E:List (List Int)}{j:Nat}(h:j<E.length):(E.take (j+1)).map (ixE I)=(E.take j).map (ixE I)++[ixE I E[j]]:=by
 rw[tz h,uu];rfl
def inW_nil(t:Tb):inW t []=tg t.rows.length 1:=by unfold inW;rw[if_pos rfl]
def inW_ne{t:Tb}{w:List Int}(h:w≠[]):inW t w=w:=by unfold inW;rw[if_neg h]
def rep_take(n i:Nat)(h:i<n):(tg n (1:Int)).take (i+1)=(tg n (1:Int)).take i++[1]:=by
 rw[tz (by simpa using h),List.getElem_replicate]
def problem_u(t:Tb)(cs:List Cn)(w:List Int)(f g fc fw:Bool)(h:BdOk t cs)(hw:w.length<=1000000):aK prog 31 [aD f g t,LCn fc cs,L1 fw w] fun r=>r = .tup [prV t cs w,.int .i64 (prE t cs w)]:=by
 have o:=build_u t cs f g fc h;have S:B.cells [.str t.name,.lst 1 f (t.attrs.map V.str),.lst 2 g (t.rows.map aF)]=tcB t f g:=rfl
 have W:∀n,rbB n (tcB t f g):=fun n=>cW n t f g
 by_cases h0:aX t cs=0
 case neg =>
  have he:prE t cs w=aX t cs:=by unfold prE;rw[if_neg h0]
  rw[re (by rw[he];exact h0),he];rw[bdV_no h0]at o;obtain⟨e,v⟩:=ξ (aX t cs);rw[<-v]at o h0 ⊢;simp only[aD,LS,LR,LCn]at o;refine sPx func31 ?_;simp -dsimp[f31,tg,aD,LS,LR,LCn,L1];refine cPx o ?_;simp -dsimp[h0]
 case pos =>
 rw[h0,bdV_yes h0]at o;obtain⟨y,Y,aA⟩:=eK h h0;by_cases hl:w=[]\/w.length=t.rows.length
 case neg =>
  have he:prE t cs w=6:=by unfold prE;rw[if_pos h0,if_neg hl]
  rw[re (by rw[he];decide),he];obtain⟨an,bx⟩:=not_or.1 hl;have R:=List.length_pos_iff.2 an;simp only[aD,LS,LR,LCn,qX,L1,LL]at o;refine sPx func31 ?_;simp -dsimp[f31,tg,aD,LS,LR,LCn,L1];refine cPx o ?_;simp -dsimp[(ω:(0:Int)<w.length),(ω:¬((w.length:Int)=t.rows.length)),an,bx,R]
 case pos =>
 have hV:prE t cs w=fN (inW t w) (inE t cs):=by unfold prE;rw[if_pos h0,if_pos hl]
 have G:=fC hl
 have be:t.rows.length<=8:=by
  obtain⟨_,h2,_⟩:=ec h0;have:=h.rows;omega
 have ha:asc (ao t.rows)=true:=(fK _).2 Y.va;have cc:=qz w fw hw
 have F:∀e∈inE t cs,e.length<=1000000:=fun e he=>by
  obtain⟨x,hx,rfl⟩:=List.mem_map.1 he;rw[qo];exact y.2.2 x hx
 have cv:=np (inW t w) (inE t cs) false false F;have al:inE t cs=(bI (cO t cs)).map (ixE (ao t.rows)):=rfl
 have Z:prV t cs w=if fN (inW t w) (inE t cs)=0 then aV false false (inW t w) (inE t cs) else .agg [.nilS,.nilS]:=by unfold prV;rw[hV]
 rw[Z,hV];have O:(ao t.rows).length<=1000000:=y.1
 have K:w=[]->inW t w=tg t.rows.length 1:=fun e=>by rw[e];exact inW_nil t
 have X:w≠[]->inW t w=w:=fun e=>inW_ne e
 obtain⟨VE,ay⟩:=ξ (fN (inW t w) (inE t cs));rw[<-ay]at cv ⊢;rw[al]at cv ⊢;clear Z hV ay al F;obtain⟨I,hI⟩:=ξ (ao t.rows);obtain⟨E,hE⟩:=ξ (bI (cO t cs));obtain⟨T,H⟩:=ξ (inW t w);rw[<-hI,<-hE]at o Y y;rw[<-hI,<-hE,<-H]at cv ⊢;rw[<-hI]at ha O;rw[<-hE]at aA;rw[<-H]at G K X;obtain⟨_,_,bi⟩:=y;have az:=Y.sub;have br:=Y.ne;clear Y H;obtain⟨n,hn⟩:=ξ t.rows.length;rw[<-hn]at hl G be K;have u:=hn.symm
 have C:∀(ws:List Int) (j:Nat) (l:List (List Nat)),∀bl∈[tcB t f g,B.cells [.nilS,.nilS],B.cells [.lst 1 false (I.map aG),.lst 1 false (E.map (L1 false))],B.buf 2 1 (ws.map aG) true,B.cells [.lst 1 false (ws.map aG),.buf 5 0 j j],B.buf 42 1 (l.map (Ln false)) false],rbB 6 bl:=fun ws j l bl b=>by
  simp only[tw,tq,or_false]at b
  rcases b with rfl | rfl | rfl | rfl | rfl | rfl
  .exact W _
  .exact co (by simp[rb]) (by simp[rb])
  .exact co (by simp[rb]) (by simp[rb])
  .exact nl _ _ _ _
  .exact co (by simp[rb]) (by simp[rb,rb1])
  .exact lnB_rb _ _ _ _
 have L:∀(ws:List Int) (j:Nat) (l:List (List Nat)) (q:List Nat),∀bl∈[tcB t f g,B.cells [.nilS,.nilS],B.cells [.lst 1 false (I.map aG),.lst 1 false (E.map (L1 false))],B.buf 2 1 (ws.map aG) true,B.cells [.lst 1 false (ws.map aG),.buf 5 0 j j],B.buf 42 1 (l.map (Ln false)) false]++[B.buf 3 1 (q.map eN) false],rbB 7 bl:=fun ws j l q bl b=>by
  rcases List.mem_append.1 (show bl∈([tcB t f g,B.cells [.nilS,.nilS],B.cells [.lst 1 false (I.map aG),.lst 1 false (E.map (L1 false))],B.buf 2 1 (ws.map aG) true,B.cells [.lst 1 false (ws.map aG),.buf 5 0 j j],B.buf 42 1 (l.map (Ln false)) false])++[B.buf 3 1 (q.map eN) false] from b) with h9 | h9
  .exact rbBM ω (C ws j l bl h9)
  .rw[uQ]at h9;subst h9;exact nat_rb _ _ _ _
 have M:∀(ws:List Int) (i:Nat),∀bl∈[tcB t f g,B.cells [.nilS,.nilS],B.cells [.lst 1 false (I.map aG),.lst 1 false (E.map (L1 false))],B.buf 2 1 (ws.map aG) false,B.cells [.buf 3 0 i i,.nilS]],rbB 5 bl:=fun ws i bl b=>by
  simp only[tw,tq,or_false]at b
  rcases b with rfl | rfl | rfl | rfl | rfl
  .exact W _
  .exact co (by simp[rb]) (by simp[rb])
  .exact co (by simp[rb]) (by simp[rb])
  .exact nl _ _ _ _
  .exact co (by simp[rb,rb1]) (by simp[rb])
 simp only[aD,LS,LR,LCn,qX,L1,LL]at o;simp only[L1]at cc;simp only[aV,L1,LLn,xH]at cv
 have bv:∀(j:Nat),j<E.length->True:=fun _ _=>trivial
 by_cases c:w=[]
 case' pos =>
  have hW:=K c;subst c;refine sPx func31 ?_;simp -dsimp[f31,tg,aD,LS,LR,LCn,L1];refine cPx o ?_;simp -dsimp[L1];refine(jr cc ζ).mono ?_;rintro r H' ⟨e,z,xs,rfl,rfl,_,rfl,rfl,rfl⟩;simp -dsimp[S,L1];refine aI (W_loopM 58 0x3fc0c0000c80000 zMx (σ:=Nat) (fun i=>i<=n) (fun i=>n-i) (fun i=>[(50,.int .i64 i)]) (fun i=>[tcB t f g,B.cells [.nilS,.nilS],B.cells [.lst 1 false (I.map aG),.lst 1 false (E.map (L1 false))],B.buf 2 1 (((tg n (1:Int)).take i).map aG) false,B.cells [.buf 3 0 i i,.nilS]]) 0 ω (by simp[u]) ζ ζ ?_);intro i hi N Q hN hQ;by_cases hb:i<n
  .have a:=rep_take n i hb
   have U:((tg n (1:Int)).take i).length=i:=by simp;omega
   obtain⟨l,ba⟩:=ξ ((tg n (1:Int)).take i);rw[<-ba]at a U ⊢;refine wx ?_;simp -dsimp[hb,u,U,jx i ω,bA i ω,aE i ω,L1];refine hN (i+1) _ _ ω ω (by simp[u]) ⟨[],by simp[a,aG]⟩ ζ (M _ _)
  obtain rfl:i=n:=by omega
  have bY:(tg i (1:Int)).take i=T:=by rw[hW,uY ζ]
  rw[bY];refine wx ?_;simp -dsimp[hb,u,L1];apply hQ;simp -dsimp[L1]
 case' neg =>
  have hW:=X c;have D:w.length=n:=hl.resolve_left c;have R:=List.length_pos_iff.2 c
  have bb:0<n:=by omega
  refine sPx func31 ?_;simp -dsimp[f31,tg,aD,LS,LR,LCn,L1];refine cPx o ?_;simp -dsimp[D,u,bb,c,(ω:(0:Int)<(n:Int)),(ω:¬n=0),(ω:¬(n:Int)=0),L1];refine(jr cc ζ).mono ?_;rintro r H' ⟨e,z,xs,rfl,rfl,_,rfl,rfl,rfl⟩;simp -dsimp[S,D,c,(ω:¬n=0),(ω:¬(n:Int)=0),L1];rw[<-hW]
 all_goals
  refine aI (fA 3 [] 4 [0] rfl rfl ζ (by simp[G]) (cx 42 1 [] 4 [1] rfl ζ ζ (W_loopM 90 0x3ffffffe0000c0000cbb000 zMx (σ:=Nat) (fun j=>j<=E.length) (fun j=>E.length-j) (fun j=>[(61,.int .i64 j)]) (fun j=>[tcB t f g,B.cells [.nilS,.nilS],B.cells [.lst 1 false (I.map aG),.lst 1 false (E.map (L1 false))],B.buf 2 1 (T.map aG) true,B.cells [.lst 1 false (T.map aG),.buf 5 0 j j],B.buf 42 1 (((E.take j).map (ixE I)).map (Ln false)) false]) 0 ω ζ ζ ζ ?_)));intro j hj N2 Q2 bz a6
  have ax:((E.take j).map (ixE I)).length=j:=by simp;omega
  by_cases m:j<E.length
  .have a:=ix_take (I:=I) m;have a2:=bi _ (ti m);have a8:=br _ (ti m);have ad:=az _ (ti m);obtain⟨e,v⟩:=ξ (E[j]);rw[<-v]at a a2 a8 ad;obtain⟨P,hP⟩:=ξ ((E.take j).map (ixE I));rw[<-hP]at a ax ⊢;refine wx ?_;simp -dsimp[m,v.symm,L1];refine aI (bh 3 1 [13] ζ (W_loopM 83 0x7fff8000000000003a000 zMx (σ:=Nat) (fun k=>k<=e.length) (fun k=>e.length-k) (fun k=>[(67,.int .i64 k),(13,.buf 6 0 k k)]) (fun k=>[tcB t f g,B.cells [.nilS,.nilS],B.cells [.lst 1 false (I.map aG),.lst 1 false (E.map (L1 false))],B.buf 2 1 (T.map aG) true,B.cells [.lst 1 false (T.map aG),.buf 5 0 j j],B.buf 42 1 (P.map (Ln false)) false]++[B.buf 3 1 ((ixE I (e.take k)).map eN) false]) 0 ω ζ (by simp[ixE]) ζ ?_));intro k hk N3 Q3 a7 aJ
   have s:(ixE I (e.take k)).length=k:=by rw[qo];simp;omega
   simp only[ur,uL];by_cases A:k<e.length
   .have d:=ixE_succ (I:=I) A;have b1:=ad _ (ti A);obtain⟨x,hx⟩:=ξ (e[k]);rw[<-hx]at d b1;have J:=bsearch64 I x false O;simp only[L1]at J;obtain⟨p,hp⟩:=ξ (bsP I x);rw[<-hp]at d J;obtain⟨q,hq⟩:=ξ (ixE I (e.take k));rw[<-hq]at d s ⊢;refine wx ?_;simp -dsimp[A,hx.symm,aG,L1];refine cPx J ?_;simp -dsimp[s,jx k ω,bA k ω,aE k ω,L1];refine a7 (k+1) _ _ ω ω ζ ⟨[],by simp[d,eN]⟩ ζ (L _ _ _ _)
   .obtain rfl:k=e.length:=by omega
    rw[uV]at s ⊢;obtain⟨q,hq⟩:=ξ (ixE I e);rw[<-hq]at a s ⊢;refine dv 6 [13] rfl (by simp[s]) ?_;refine wx ?_;simp -dsimp[A,L1];apply aJ;simp -dsimp[ax,eb j ω,bA j ω,aE j ω,L1];refine bz (j+1) _ _ ω ω ζ ⟨[B.buf 3 1 (q.map eN) true],by simp[a,Ln]⟩ ζ (C _ _ _)
  .obtain rfl:j=E.length:=by omega
   rw[uV];refine fA 5 [] 4 [1] rfl rfl ζ ζ ?_;refine wx ?_;simp -dsimp[m,L1];apply a6;simp -dsimp[L1];refine cPx cv ?_;by_cases hz:VE=0
   .subst hz;rw[if_pos rfl];simp -dsimp[L1];simp[aV,L1,LLn]
   .rw[if_neg hz];simp -dsimp[hz,L1]
def rows8{t:Tb}{cs:List Cn}(h:BdOk t cs)(h0:aX t cs=0):t.rows.length<=8:=by
 obtain⟨_,h2,_⟩:=ec h0;have:=h.rows;omega
end
end Go.Proofs.YtnaokiodhoadjaaGreatDoor
