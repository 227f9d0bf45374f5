/- JB36: texts DT, DU, joined and shortened by pack6.py. -/
import Derived.Test.YtnaokiodhoadjaaGreatDoorJB35
set_option linter.all false
set_option maxRecDepth 100000
set_option maxHeartbeats 64000000
open List renaming replicate→tg,nil_append→uL,foldl_cons→vy,filter_nil→wn
namespace Go.Proofs.YtnaokiodhoadjaaGreatDoor
section
open Go Go.AM Go.Proofs.Tryz
def LRR(os:List (List Rw)):V:=.lst 1 false (os.map (LR false))
@[simp] theorem LRR_pure (os:List (List Rw)):AM.Pure (LRR os):=.lst _ _ _ fun x hx=>by obtain⟨y,_,rfl⟩:=List.mem_map.1 hx;exact LR_pure _ _
def LRR_rb(n e:Nat)(os:List (List Rw))(fz:Bool):rbB n (.buf e 1 (os.map (LR false)) fz):=fun x hx=>by
 obtain⟨y,_,rfl⟩:=List.mem_map.1 hx;intro c a;simp only[LR,V.cells,tw,tq,or_false]at a;subst a;simp[rb1]
def step_cons{R:List Rw}{o:List Rw}{j:Nat}(h:j<R.length):((R.drop j).filter fun r=>!cV o r).map (fun r=>o++[r])=(if cV o R[j]=true then [] else [o++[R[j]]])++((R.drop (j+1)).filter fun r=>!cV o r).map (fun r=>o++[r]):=by
 rw[th h];by_cases hu:cV o R[j]=true
 .rw[vu (by simp[hu]),if_pos hu];rfl
 .rw[vr (by simp[hu]),if_neg hu];rfl
def cap24L(n:Nat)(h:n<=1000000000):n<=9223372036854775806/\(n+1)*24<=140737488355328:=by omega
def pvA(R:List Rw)(k:Nat):V:=if k=0 then .lst 1 true [.nilS] else LRR (asR R k)
def assign18(t:Tb)(f g:Bool)(K:Nat)(ax:1<=K)(az:K<=3)(h8:t.rows.length<=8):aK prog 140 [aD f g t,.int .i64 K] fun r=>r=LRR (asR t.rows K):=by
 obtain⟨R,hR⟩:=ξ t.rows;rw[<-hR]at h8 ⊢
 have X:tcB t f g = .cells [.str t.name,.lst 1 f (t.attrs.map V.str),.lst 2 g (R.map aF)]:=by rw[hR];rfl
 have Y:∀bl∈[B.cells [.str t.name,.lst 1 f (t.attrs.map V.str),.lst 2 g (R.map aF)]],rbB 1 bl:=fun bl z=>by
  simp only[uQ]at z;subst z;rw[<-X];exact cW _ _ _ _
 have l:∀cur:List (List Rw),∀bl∈[B.cells [.str t.name,.lst 1 f (t.attrs.map V.str),.lst 2 g (R.map aF)],B.buf 29 1 (cur.map (LR false)) false],rbB 2 bl:=fun cur bl z=>by
  simp only[tw,tq,or_false]at z
  rcases z with rfl | rfl
  .rw[<-X];exact cW _ _ _ _
  .exact LRR_rb _ _ _ _
 have ay:∀k,AM.Pure (pvA R k):=fun k=>by
  unfold pvA;split
  .exact .lst _ _ _ ζ
  .exact LRR_pure _
 refine bM (aH (tkf 29) func140 rfl rfl ?_);refine W_x (tkf 29) mixed ?_;simp -dsimp[f140,tg,aD,LS,LR,hR.symm,aL];refine aI (W_loopM 77 0x1fffffffffffffffefe0 zMx (σ:=Nat) (fun k=>k<=K) (fun k=>K-k) (fun k=>[(6,.int .i64 k),(5,pvA R k)]) (fun _=>[B.cells [.str t.name,.lst 1 f (t.attrs.map V.str),.lst 2 g (R.map aF)]]) 0 ω (by simp[pvA]) ζ ζ ?_);intro k hk N Q hN hQ;by_cases S:k<K
 .have P:=oX R (k+1);have aA:=rh (k:=k+1) h8 ω;obtain⟨T,hT⟩:=ξ (asR R (k+1));rw[<-hT]at P
  have G:(asR R k).flatMap (mH R)=T:=by rw[hT];rfl
  have u:pvA R (k+1)=LRR T:=by unfold pvA;rw[if_neg ω,hT]
  have E:∀o∈asR R k,o.length=k:=fun o ho=>(jh.1 ho).1
  by_cases L:k=0
  .subst L;obtain⟨os,v⟩:∃os:List (List Rw),os=[[]]:=⟨_,rfl⟩;have a:pvA R 0 = .lst 1 true [.nilS]:=rfl;rw[show asR R 0=os from v.symm]at G E
   have an:os.length=1:=by rw[v];rfl
   have O:os.length<=512:=by omega
   refine W_x (tkf 29) mixed ?_;simp -dsimp[(ω:(0:Int)<(K:Int)),S,a,aL];refine aI (bh 29 1 [7] ζ (W_loopM 76 0xffffffffffffffc0f80 zMx (σ:=Nat×List (List Rw)) (fun p=>p.2++(os.drop p.1).flatMap (mH R)=T) (fun p=>os.length-p.1) (fun p=>[(8,.int .i64 p.1),(7,.buf 1 0 p.2.length p.2.length)]) (fun p=>[B.cells [.str t.name,.lst 1 f (t.attrs.map V.str),.lst 2 g (R.map aF)],B.buf 29 1 (p.2.map (LR false)) false]) (0,[]) (by simpa using G) ζ ζ ζ ?_));rintro⟨i,cur⟩ hx N1 Q1 J M;simp only at hx;by_cases h:i<os.length
   .rw[th h,wN]at hx;have s:=E _ (ti h);obtain⟨o,n⟩:=ξ (os[i]);rw[<-n]at hx s;obtain⟨Z,hZ⟩:=ξ ((os.drop (i+1)).flatMap (mH R));rw[<-hZ]at hx
    obtain rfl:i=0:=by omega
    refine W_x (tkf 29) mixed ?_;simp -dsimp[a,aL];refine aI (W_loopM 76 0xfffffffffffff000e80 zMx (σ:=Nat×List (List Rw)) (fun p=>p.2++(((R.drop p.1).filter fun r=>!cV o r).map (fun r=>o++[r])++Z)=T) (fun p=>R.length-p.1) (fun p=>[(9,.int .i64 p.1),(7,.buf 1 0 p.2.length p.2.length)]) (fun p=>[B.cells [.str t.name,.lst 1 f (t.attrs.map V.str),.lst 2 g (R.map aF)],B.buf 29 1 (p.2.map (LR false)) false]) (0,cur) (by rw[<-hx];rfl) ζ ζ ζ ?_);rintro⟨j,c⟩ d N2 Q2 F H;simp only at d;by_cases m:j<R.length
    .rw[step_cons m]at d;obtain⟨r,w⟩:=ξ (R[j]);rw[<-w]at d
     have ad:c.length<=512:=by
      have:=congrArg List.length d;simp only[uB]at this;omega
     refine cu ?_;refine W_x (tkf 29) mixed ?_;simp -dsimp[m,aL];refine cu ?_;refine oc ?_;refine cu ?_;refine W_x (tkf 29) mixed ?_;simp -dsimp[aL];refine cu ?_;refine W_x (tkf 29) mixed ?_;simp -dsimp[aL];refine aI (W_loopM 58 0x3ffffff80000c00 zMx (σ:=Nat) (fun _=>True) (fun q=>0-q) (fun q=>[(11,.int .i64 q),(10,.bool false)]) (fun _=>[B.cells [.str t.name,.lst 1 f (t.attrs.map V.str),.lst 2 g (R.map aF)],B.buf 29 1 (c.map (LR false)) false]) 0 trivial ζ ζ ζ ?_);rintro x hu N3 Q3 I D;have al:o=[]:=vL s;subst al;rw[if_neg (by simp[cV])]at d;refine W_x (tkf 29) mixed ?_;simp -dsimp[a,(ω:¬(x:Int)<0),aL];apply D;simp -dsimp[aL];refine W_x (tkf 29) mixed ?_;simp -dsimp[a,aL];refine aI (ae (tkf 29) mixed [6,13,15] [(0,[1,2]),(7,[0]),(8,[0]),(9,[0]),(10,[0]),(11,[0]),(12,[0])] [] υ fun C K hC hK=>?_);simp -implicitDefEqProofs [a,m,w.symm,aF,LR,LV,show IntKind.i64.wrap (1:Int)=1 from wrap64 ω ω,cap24L c.length ω,bA c.length ω,aL];apply hK;simp -dsimp[aL];refine W_x (tkf 29) mixed ?_;simp -dsimp[aE j ω,aL];refine F (j+1,c++[[r]]) _ _ (by rw[<-d];simp) θ (by simp[a]) ⟨[],by simp[LR,aF,LV]⟩ (by simp[a]) (l _)
    .rw[tj (show R.length<=j by omega),wn,wP,uL]at d;refine W_x (tkf 29) mixed ?_;simp -dsimp[m,aL];apply H;simp -dsimp[show IntKind.i64.wrap (1:Int)=1 from wrap64 ω ω,aL];refine J (0+1,c) _ _ (by rw[<-d,hZ]) θ ζ ⟨[],ζ⟩ ζ (l _)
   .rw[tj (show os.length<=i by omega),xg,uC]at hx;subst hx;refine dv 1 [7] rfl ζ ?_;refine W_x (tkf 29) mixed ?_;simp -dsimp[(ω:¬(i:Int)<1),a,aL];apply M;simp -dsimp[show IntKind.i64.wrap (1:Int)=1 from wrap64 ω ω,aL];refine hN (0+1) _ _ ω ω (by simp[u,LRR]) ⟨[B.buf 29 1 (cur.map (LR false)) true],ζ⟩ (by simp[u,LRR]) Y
  .obtain⟨os,v⟩:∃os:List (List Rw),os=asR R k:=⟨_,rfl⟩;rw[<-v]at G E
   have O:os.length<=512:=by rw[v];have:=oX R k;have:=rh (k:=k) h8 ω;omega
   have a:pvA R k = .lst 1 false (os.map (LR false)):=by unfold pvA;rw[if_neg L,v];rfl
   refine W_x (tkf 29) mixed ?_;simp -dsimp[(ω:(k:Int)<(K:Int)),S,a,aL];refine aI (bh 29 1 [7] ζ (W_loopM 76 0xffffffffffffffc0f80 zMx (σ:=Nat×List (List Rw)) (fun p=>p.2++(os.drop p.1).flatMap (mH R)=T) (fun p=>os.length-p.1) (fun p=>[(8,.int .i64 p.1),(7,.buf 1 0 p.2.length p.2.length)]) (fun p=>[B.cells [.str t.name,.lst 1 f (t.attrs.map V.str),.lst 2 g (R.map aF)],B.buf 29 1 (p.2.map (LR false)) false]) (0,[]) (by simpa using G) ζ ζ ζ ?_));rintro⟨i,cur⟩ hx N1 Q1 J M;simp only at hx;by_cases h:i<os.length
   .rw[th h,wN]at hx;have s:=E _ (ti h);obtain⟨o,n⟩:=ξ (os[i]);rw[<-n]at hx s;obtain⟨Z,hZ⟩:=ξ ((os.drop (i+1)).flatMap (mH R));rw[<-hZ]at hx;refine W_x (tkf 29) mixed ?_;simp -dsimp[h,a,n.symm,aL];refine aI (W_loopM 76 0xfffffffffffff000e80 zMx (σ:=Nat×List (List Rw)) (fun p=>p.2++(((R.drop p.1).filter fun r=>!cV o r).map (fun r=>o++[r])++Z)=T) (fun p=>R.length-p.1) (fun p=>[(9,.int .i64 p.1),(7,.buf 1 0 p.2.length p.2.length)]) (fun p=>[B.cells [.str t.name,.lst 1 f (t.attrs.map V.str),.lst 2 g (R.map aF)],B.buf 29 1 (p.2.map (LR false)) false]) (0,cur) (by rw[<-hx];rfl) ζ ζ ζ ?_);rintro⟨j,c⟩ d N2 Q2 F H;simp only at d;by_cases m:j<R.length
    .rw[step_cons m]at d;obtain⟨r,w⟩:=ξ (R[j]);rw[<-w]at d
     have ad:c.length<=512:=by
      have:=congrArg List.length d;simp only[uB]at this;omega
     refine cu ?_;refine W_x (tkf 29) mixed ?_;simp -dsimp[m,aL];refine cu ?_;refine oc ?_;refine cu ?_;refine W_x (tkf 29) mixed ?_;simp -dsimp[aL];refine cu ?_;refine W_x (tkf 29) mixed ?_;simp -dsimp[aL];refine aI (W_loopM 58 0x3ffffff80000c00 zMx (σ:=Nat×Bool) (fun q=>(q.2||cV (o.drop q.1) r)=cV o r) (fun q=>o.length-q.1) (fun q=>[(11,.int .i64 q.1),(10,.bool q.2)]) (fun _=>[B.cells [.str t.name,.lst 1 f (t.attrs.map V.str),.lst 2 g (R.map aF)],B.buf 29 1 (c.map (LR false)) false]) (0,false) ζ ζ ζ ζ ?_);rintro⟨x,b⟩ hu N3 Q3 I D;simp only at hu;by_cases A:x<o.length
     .rw[th A]at hu;obtain⟨y,U⟩:=ξ (o[x]);rw[<-U]at hu;rw[show cV (y::o.drop (x+1)) r=((y.id == r.id)||cV (o.drop (x+1)) r) from rfl,<-Bool.or_assoc]at hu
      cases b with
      | true =>
       refine W_x (tkf 29) mixed ?_;simp -dsimp[h,a,n.symm,A,LR,aL];refine sTx ?_;simp -dsimp[aE x ω,aL];refine I (x+1,true) _ _ (by simpa using hu) θ ζ ⟨[],ζ⟩ (by simp[a]) (l _)
      | false =>
       rw[vP]at hu;refine W_x (tkf 29) mixed ?_;simp -dsimp[h,a,n.symm,A,U.symm,m,w.symm,aF,LR,LV,aL];refine sTx ?_;simp -dsimp[aE x ω,aL];refine I (x+1,y.id == r.id) _ _ hu θ ζ ⟨[],ζ⟩ (by simp[a]) (l _)
     .rw[tj (show o.length<=x by omega)]at hu;rw[show cV [] r=false from rfl,Bool.or_false]at hu
      cases b with
      | true =>
       rw[if_pos hu.symm,uL]at d;refine W_x (tkf 29) mixed ?_;simp -dsimp[h,a,n.symm,A,LR,aL];apply D;simp -dsimp[aL];refine cu ?_;refine W_x (tkf 29) mixed ?_;simp -dsimp[aL];refine W_x (tkf 29) mixed ?_;simp -dsimp[aL];refine W_x (tkf 29) mixed ?_;simp -dsimp[aE j ω,aL];refine F (j+1,c) _ _ d θ ζ ⟨[],ζ⟩ (by simp[a]) (l _)
      | false =>
       rw[if_neg (by rw[<-hu];simp)]at d;refine W_x (tkf 29) mixed ?_;simp -dsimp[h,a,n.symm,A,LR,aL];apply D;simp -dsimp[aL];refine W_x (tkf 29) mixed ?_;simp -dsimp[a,aL]
       have W:¬o=[]:=fun e=>by rw[e]at s;simp at s;omega
       refine aI (ae tok mixed [6,13,15] [(0,[1,2]),(7,[0]),(8,[0]),(9,[0]),(10,[0]),(11,[0]),(12,[0])] [] υ fun C K hC hK=>?_);simp -implicitDefEqProofs [W,h,a,n.symm,m,w.symm,aF,LR,LV,s,L,(ω:k<=9223372036854775807),(ω:k*32<=140737488355328),(ω:k+1<=9223372036854775807),(ω:(k+1)*32<=140737488355328),cap24L c.length ω,bA c.length ω];apply hK;simp -dsimp[aL];refine W_frzB 2 c.length (k0:=1) (by decide) rfl rfl (by simp[s]) ?_;refine W_x (tkf 29) mixed ?_;simp -dsimp[aE j ω,aL];refine F (j+1,c++[o++[r]]) _ _ (by rw[<-d];simp) θ (by simp[a]) ⟨_,by simp[LR,aF,LV];rfl⟩ (by simp[a]) (l _)
    .rw[tj (show R.length<=j by omega),wn,wP,uL]at d;refine W_x (tkf 29) mixed ?_;simp -dsimp[m,aL];apply H;simp -dsimp[aE i ω,aL];refine J (i+1,c) _ _ (by rw[<-d,hZ]) θ ζ ⟨[],ζ⟩ ζ (l _)
   .rw[tj (show os.length<=i by omega),xg,uC]at hx;subst hx;refine dv 1 [7] rfl ζ ?_;refine W_x (tkf 29) mixed ?_;simp -dsimp[h,a,aL];apply M;simp -dsimp[aE k ω,aL];refine hN (k+1) _ _ ω ω (by simp[u,LRR]) ⟨[B.buf 29 1 (cur.map (LR false)) true],ζ⟩ (by simp[u,LRR]) Y
 .obtain rfl:k=K:=by omega
  have u:pvA R k=LRR (asR R k):=by unfold pvA;rw[if_neg ω]
  refine W_x (tkf 29) mixed ?_;simp -dsimp[S,u,aL];apply hQ;simp -dsimp[aL];exact .pure _ (LRR_pure _)
def error18(t:Tb)(d:Dn)(f g f2:Bool)(h:TbS t)(ha:d.atoms.length<=1000000)(hv:validT t=0)(ho:dnB t.attrs.length d=true):aK prog 139 [aD f g t,am f2 d] fun r=>r = .int .i64 0:=by
 have b:=jF t f g h.ok;rw[hv]at b;have a:=valid18 t.attrs.length d f2 ha;rw[ho]at a;have e:=h.few;simp only[aD,LS,LR,am,LA]at b a;by_cases c:d.vars=3
 .rw[c]at a;refine sPx func139 ?_;simp -dsimp[f139,tg,aD,LS,LR,am,LA,c];refine cPx b ?_;simp -dsimp;refine cPx a ?_;simp -dsimp[(ω:¬(200:Int)<t.rows.length)]
 .refine sPx func139 ?_;simp -dsimp[f139,tg,aD,LS,LR,am,LA];refine cPx b ?_;simp -dsimp;refine cPx a ?_;simp -dsimp[c]
def fold_cons{b a:Type}{f:a->b->a}{l:List b}{i:Nat}{o:a}(h:i<l.length):(l.drop i).foldl f o=(l.drop (i+1)).foldl f (f o l[i]):=by
 rw[th h,vy]
def putR_lens{l:List (List Int)}{x:List Int}(hl:∀e∈l,e.length<=3)(hx:x.length<=3):∀e∈mV l x,e.length<=3:=fun e he=>by
 rcases putR_mem.1 he with h | h
 .exact hl e h
 .rw[h];exact hx
def viol18(t:Tb)(d:Dn)(f g f2:Bool)(h:TbS t)(hd:DnS d)(ha:d.atoms.length<=1000000)(hv:validT t=0)(ho:dnB t.attrs.length d=true):aK prog 87 [aD f g t,am f2 d] fun r=>r = .tup [LL false ((asR t.rows d.vars.toNat).foldl (stR d) []),.int .i64 0]:=by
 have ct:=tbC hv;obtain⟨v1,v3⟩:=oL ho;have C:=at_ok ct h hd ho;have J:=error18 t d f g f2 h ha hv ho;obtain⟨K,hK⟩:=ξ d.vars.toNat
 have j:d.vars=(K:Int):=by omega
 have L:=assign18 t f g K ω ω h.few
 have c:(asR t.rows K).length<=512:=by have:=oX t.rows K;have:=rh (k:=K) h.few ω;omega
 have a:∀rs∈asR t.rows K,rs.length=K/\∀r∈rs,r∈t.rows:=fun rs a=>⟨(jh.1 a).1,fun r hr=>sd (jh.1 a).2 r hr⟩
 rw[<-hK]at C ⊢;obtain⟨v,D⟩:=ξ (asR t.rows K);rw[<-D]at L c a ⊢;obtain⟨E,X⟩:=ξ (v.foldl (stR d) []);rw[<-X]
 have q:∀n,rbB n (tcB t f g):=fun n=>cW n t f g
 have s:∀n,rbB n (dcB d f2):=fun n=>sv n d f2
 obtain⟨H,w⟩:=ξ (tcB t f g);obtain⟨F,z⟩:=ξ (dcB d f2);rw[<-w]at q;rw[<-z]at s
 have M:B.cells [.str t.name,.lst 1 f (t.attrs.map V.str),.lst 2 g (t.rows.map aF)]=H:=by rw[w];rfl
 have b:B.cells [.int .i64 K,.lst 11 f2 (d.atoms.map aw)]=F:=by rw[z];unfold dcB;rw[j]
 have A:∀o:List (List Int),∀bl∈[H,F,B.buf 58 1 (o.map (L1 false)) false],rbB 3 bl:=fun o bl y=>by
  simp only[tw,tq,or_false]at y
  rcases y with rfl | rfl | rfl
  .exact q _
  .exact s _
  .exact qJ _ _ _
 simp only[aD,LR,LS,am,LA,LRR]at J L;rw[j]at J;refine sPx func87 ?_;simp -dsimp[f87,tg,aD,am,LR,LS,LA,j];refine cPx J ?_;simp -dsimp;refine cPx L ?_;simp -dsimp;rw[M,b];refine aI (bh 58 1 [7] ζ (W_loopM 39 0x7ffff00280 zMx (σ:=Nat×List (List Int)) (fun p=>p.1<=v.length/\p.2.length<=p.1/\(∀e∈p.2,e.length<=3)/\(v.drop p.1).foldl (stR d) p.2=E) (fun p=>v.length-p.1) (fun p=>[(9,.int .i64 p.1),(7,.buf 2 0 p.2.length p.2.length)]) (fun p=>[H,F,B.buf 58 1 (p.2.map (L1 false)) false]) (0,[]) ⟨ζ,ζ,ζ,by rw[X,uG]⟩ ζ ζ ζ ?_));rintro⟨i,out⟩ ⟨hi,R,l,hx⟩ N Q U Y;simp only at hi R l hx;by_cases hb:i<v.length
 .rw[fold_cons hb]at hx;obtain⟨q1,W⟩:=a _ (ti hb);obtain⟨rs,m⟩:=ξ (v[i]);rw[<-m]at hx q1 W;have u:=all18 d rs f2 false (C rs q1 W) ω ha;have T:=asc18 rs false ω;have G:=put18 H F q s out (srt (ao rs)) ω (fun e he=>by have:=l e he;omega) (by rw[jG,bg];omega)
  have P:(srt (ao rs)).length<=3:=by rw[jG,bg];omega
  have I:=putR_len out (srt (ao rs));have x:=putR_lens l P;unfold stR at hx;simp only[am,LR,LA,L1]at u T G;rw[j]at u
  cases hs:oZ d rs with
  | false =>
   rw[hs]at u hx;rw[if_neg ζ]at hx;refine wx ?_;simp -dsimp[hb,m.symm,LR,<-b];refine sTx ?_;refine cQx u ?_;simp -dsimp[aE i ω];rw[b];refine U (i+1,out) _ _ ⟨θ,θ,l,hx⟩ θ ζ ⟨[],ζ⟩ ζ (A _)
  | true =>
   rw[hs]at u hx;rw[if_pos rfl]at hx;obtain⟨O,hO⟩:=ξ (mV out (srt (ao rs)));rw[<-hO]at G hx I x;obtain⟨S,Z⟩:=ξ (srt (ao rs));rw[<-Z]at T G;refine wx ?_;simp -dsimp[hb,m.symm,LR,<-b];refine sTx ?_;refine cQx u ?_;simp -dsimp[hb,m.symm,LR];rw[b];refine cPx T ?_;simp -dsimp;refine wcZ G ?_;rintro r H' ⟨rfl,rfl⟩;simp -dsimp[aE i ω];refine U (i+1,O) _ _ ⟨θ,θ,x,hx⟩ θ ζ ⟨[],ζ⟩ ζ (A _)
 .rw[tj ω,List.foldl_nil]at hx;subst hx;refine dv 2 [7] rfl ζ ?_;refine wx ?_;simp -dsimp[hb];apply Y;simp -dsimp[LL]
  skip
end
end Go.Proofs.YtnaokiodhoadjaaGreatDoor
