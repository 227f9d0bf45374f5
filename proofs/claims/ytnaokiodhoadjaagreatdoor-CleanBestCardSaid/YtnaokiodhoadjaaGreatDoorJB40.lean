/- JB40: texts SC9, SC10, joined and shortened by pack6.py. -/
import Derived.Test.YtnaokiodhoadjaaGreatDoorJB39
set_option linter.all false
set_option maxRecDepth 100000
set_option maxHeartbeats 64000000
open List renaming replicate→tg,getD→wU
namespace Go.Proofs.YtnaokiodhoadjaaGreatDoor
section
open Go Go.AM Go.Proofs.Tryz
def encRp(fd fp:Bool)(D:List Int)(b:Int)(l:List Nde):V:=.agg [L1 fd D,.int .i64 b,LNd fp l]
def rel_fl{s:AM.St}{z:Nat}{fl:Bool}{xs:List V}{u:Value}(h:Rel s (.lst z fl xs) u):Rel s (.lst z false xs) u:=by
 cases h with
 | lst _ _ _ A cap b off u hcap hfull hA a hcell hrel=>exact .lst z false xs A cap b off u hcap (fun h=>by cases h) hA a hcell hrel
def rel_tup2f{s:AM.St}{b:V}{z:Nat}{fl:Bool}{xs:List V}{u:Value}(h:Rel s (.tup [.lst z fl xs,b]) u):Rel s (.tup [.lst z false xs,b]) u:=by
 cases h with
 | tup _ us hl hr =>
  refine .tup _ us (by simpa using hl) (fun i v x hv hx=>?_)
  match i with
  | 0=>simp at hv;subst hv;exact rel_fl (hr 0 _ x rfl hx)
  | 1=>simp at hv;subst hv;exact hr 1 _ x rfl hx
  | i+2=>simp at hv
def rel_tup3f{s:AM.St}{b c:V}{z:Nat}{fl:Bool}{xs:List V}{u:Value}(h:Rel s (.tup [.lst z fl xs,b,c]) u):Rel s (.tup [.lst z false xs,b,c]) u:=by
 cases h with
 | tup _ us hl hr =>
  refine .tup _ us (by simpa using hl) (fun i v x hv hx=>?_)
  match i with
  | 0=>simp at hv;subst hv;exact rel_fl (hr 0 _ x rfl hx)
  | 1=>simp at hv;subst hv;exact hr 1 _ x rfl hx
  | 2=>simp at hv;subst hv;exact hr 2 _ x rfl hx
  | i+3=>simp at hv
noncomputable def opE(t:Tb)(cs:List Cn)(w:List Int)(lf:Int):Int:=if prE t cs w=0 then(if lf<1 then 1 else 0) else prE t cs w
noncomputable def opV(t:Tb)(cs:List Cn)(w:List Int)(lf:Int):V:=if opE t cs w lf=0 then encRp false false (nW t cs w) (jt t cs w) (qO t cs w) else .agg [.nilS,.int .i64 0,.nilS]
def min_take{I:List Int}{M:List Nat}{i:Nat}(h:i<M.length):((M.take (i+1)).map fun v=>I.getD v 0)=((M.take i).map fun v=>I.getD v 0)++[I.getD M[i] 0]:=by
 rw[tz h,uu];rfl
def optimal_s(t:Tb)(cs:List Cn)(w:List Int)(lf:Int)(f g fc fw:Bool)(h:BdOk t cs)(hw:w.length<=1000000)(Z:lf<1\/lf=20000):aK prog 14 [aD f g t,LCn fc cs,L1 fw w,.int .i64 lf] fun r=>r = .tup [opV t cs w lf,.int .i64 (opE t cs w lf)]:=by
 have a:=problem_u t cs w f g fc fw h hw;by_cases hz:prE t cs w=0
 case neg =>
  have he:opE t cs w lf=prE t cs w:=by unfold opE;rw[if_neg hz]
  have hv:opV t cs w lf = .agg [.nilS,.int .i64 0,.nilS]:=by unfold opV;rw[he,if_neg hz]
  rw[he,hv];rw[re hz]at a;obtain⟨e,X⟩:=ξ (prE t cs w);rw[<-X]at a hz ⊢;simp only[aD,LS,LR,LCn,L1]at a;refine sPx func14 ?_;simp -dsimp[f14,tg,aD,LS,LR,LCn,L1];refine cPx a ?_;simp -dsimp[hz]
 case pos =>
 obtain⟨h1,h2,P⟩:=pr_ok hz;have h8:=rows8 h h1;have y:=fC h2;have O:=opt_ok h hz;rw[prV_yes hz,hz]at a;by_cases q:lf<1
 .have he:opE t cs w lf=1:=by unfold opE;rw[if_pos hz,if_pos q]
  have hv:opV t cs w lf = .agg [.nilS,.int .i64 0,.nilS]:=by unfold opV;rw[he,if_neg (by decide)]
  rw[he,hv];simp only[aD,LS,LR,LCn,L1,aV,LLn]at a;refine sPx func14 ?_;simp -dsimp[f14,tg,aD,LS,LR,LCn,L1];refine cPx a ?_;simp -dsimp[q]
 obtain rfl:lf=20000:=Z.resolve_left q
 have he:opE t cs w 20000=0:=by unfold opE;rw[if_pos hz,if_neg (by decide)]
 have hv:opV t cs w 20000=encRp false false (nW t cs w) (jt t cs w) (qO t cs w):=by unfold opV;rw[if_pos he]
 rw[he,hv]
 have W:(2:Int)^((inW t w).length+1)-1<=20000:=by
  have h1:(2:Nat)^((inW t w).length+1)<=512:=ug (uo ω (show _<=9 by omega)) (by decide);have h2:((2^((inW t w).length+1):Nat):Int)<=(512:Nat):=Int.ofNat_le.2 h1;rw[Int.natCast_pow]at h2;have P:(((2:Nat):Int))^((inW t w).length+1)=(2:Int)^((inW t w).length+1):=rfl;omega
 have z:aK prog 32 [aV false false (inW t w) (inE t cs),.int .i64 20000] fun r=>r = .tup [.lst 1 false ((fh (inW t w) (inE t cs) 20000).map eN),.int .i64 (jt t cs w),.int .i64 0]:=by
  refine iz (minimum_u P false false ω 20000 W ω ω) fun s u r hr hrel=>?_
  obtain⟨fl,rfl⟩:=hr;exact⟨_,rel_tup3f hrel,by simp[eN],rfl⟩
 have j:∀v∈fh (inW t w) (inE t cs) 20000,v<(inW t w).length:=by
  obtain⟨T,_,hm,_⟩:=nT h hz;rw[hm]
  exact fun v hv=>List.mem_range.1 (List.mem_filter.1 hv).1
 have H:(fh (inW t w) (inE t cs) 20000).length<=8:=by
  obtain⟨T,_,hm,_⟩:=nT h hz;rw[hm];exact ug (uU _ _) (by rw[xb,y];exact h8)
 obtain⟨ay,J,az⟩:=O.prv;have ax:=O.len;have an:=O.rng
 have D:aK prog 33 [aV false false (inW t w) (inE t cs),.int .i64 (jt t cs w),.int .i64 20000] fun r=>r = .tup [LNd false (qO t cs w),.int .i64 0]:=by
  refine iz (prove_u P false false (jt t cs w) 20000 _ J ω ω ω ω θ θ) fun s u r hr hrel=>?_
  obtain⟨fl,rfl⟩:=hr;exact⟨_,rel_tup2f hrel,ζ,rfl⟩
 have al:nW t cs w=(fh (inW t w) (inE t cs) 20000).map fun v=>(ao t.rows).getD v 0:=rfl
 rw[al]
 have U:∀n,rbB n (tcB t f g):=fun n=>cW n t f g
 obtain⟨M,hM⟩:=ξ (fh (inW t w) (inE t cs) 20000);rw[<-hM]at z j H ⊢;obtain⟨b,S⟩:=ξ (jt t cs w);rw[<-S]at z D ⊢;obtain⟨N0,Y⟩:=ξ (qO t cs w);rw[<-Y]at D ⊢;rw[y]at j;obtain⟨W0,L⟩:=ξ (inW t w);obtain⟨E,hE⟩:=ξ (inE t cs);rw[<-L,<-hE]at a z D;obtain⟨R,G⟩:=ξ t.rows;rw[<-G]at j ⊢
 have k:B.cells [.str t.name,.lst 1 f (t.attrs.map V.str),.lst 2 g (R.map aF)]=tcB t f g:=by rw[G];rfl
 have hid:∀v (h:v<R.length),(ao R).getD v 0=R[v].id:=fun v hv=>by simp[ao,wU,hv]
 simp only[aD,LS,LR,LCn,L1,aV,LLn,LNd]at a z D;rw[<-G]at a;refine sPx func14 ?_;simp -dsimp[f14,tg,aD,LS,LR,LCn,L1,G.symm];refine cPx a ?_;simp -dsimp;refine cPx z ?_;simp -dsimp;refine cPx D ?_;simp -dsimp[k];refine aI (cx 2 1 [] 3 [0] rfl ζ ζ (W_loopM 75 0x7fff800000000c60000 zMx (σ:=Nat) (fun i=>i<=M.length) (fun i=>M.length-i) (fun i=>[(59,.int .i64 i)]) (fun i=>[tcB t f g,B.cells [.nilS,.int .i64 0,.nilS],B.cells [.lst 1 false (W0.map aG),.lst 1 false (E.map (Ln false))],B.cells [.buf 4 0 i i,.int .i64 b,.lst 2 false (N0.map iJ)],B.buf 2 1 (((M.take i).map fun v=>(ao R).getD v 0).map aG) false]) 0 ω ζ ζ ζ ?_));intro i hi N Q hN hQ
 have ad:∀(i:Nat) (l:List Int),∀bl∈[tcB t f g,B.cells [.nilS,.int .i64 0,.nilS],B.cells [.lst 1 false (W0.map aG),.lst 1 false (E.map (Ln false))],B.cells [.buf 4 0 i i,.int .i64 b,.lst 2 false (N0.map iJ)],B.buf 2 1 (l.map aG) false],rbB 5 bl:=fun i l bl F=>by
  simp only[tw,tq,or_false]at F
  rcases F with rfl | rfl | rfl | rfl | rfl
  .exact U _
  .intro c A;simp only[tw,tq,or_false]at A;rcases A with rfl | rfl | rfl<;>simp[rb,rb1]
  .exact co (by simp[rb]) (by simp[rb])
  .intro c A;simp only[tw,tq,or_false]at A;rcases A with rfl | rfl | rfl<;>simp[rb,rb1]
  .exact nl _ _ _ _
 have m:((M.take i).map fun v=>(ao R).getD v 0).length=i:=by simp;omega
 by_cases d:i<M.length
 .have hs:=min_take (I:=ao R) d;have o:=j _ (ti d);obtain⟨v,p⟩:=ξ (M[i]);rw[<-p]at hs o;rw[hid v o]at hs;obtain⟨x,hx⟩:=ξ (R[v]);rw[<-hx]at hs
  obtain⟨l,hl⟩:=ξ ((M.take i).map fun v=>(ao R).getD v 0)
  rw[<-hl]at hs m ⊢;rw[<-k];refine wx ?_;simp -dsimp[d,p.symm,eN];refine aI (ae tok mixed [9,11] [] [] υ fun C K hC hK=>?_);simp -implicitDefEqProofs [d,p.symm,eN,o,hx.symm,aF,LV,m,jx i ω,bA i ω];apply hK;simp -dsimp[aE i ω];refine hN (i+1) _ _ ω ω ζ ⟨[],by rw[hs];simp[aG,<-k]⟩ ζ (ad _ _)
 .obtain rfl:i=M.length:=by omega
  rw[uV]at m ⊢;refine fA 4 [] 3 [0] rfl rfl ζ ζ ?_;refine wx ?_;simp -dsimp[d];apply hQ;simp -dsimp;simp[encRp,L1,LNd]
end
end Go.Proofs.YtnaokiodhoadjaaGreatDoor
