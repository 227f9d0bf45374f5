/- JB22: texts DV, DW, MK, joined and shortened by pack6.py. -/
import Derived.Test.YtnaokiodhoadjaaGreatDoorJB17
import Derived.Test.YtnaokiodhoadjaaGreatDoorJB21
set_option linter.all false
set_option maxRecDepth 100000
set_option maxHeartbeats 64000000
open List renaming replicate→tg,nil_append→uL,cons_append→ur,getElem?_cons_succ→vC,all_cons→vE,foldl_cons→vy
open Nat renaming sub_zero→xe,pow_succ→xf
namespace Go.Proofs.YtnaokiodhoadjaaGreatDoor
section
open Go Go.AM Go.Proofs.Tryz
def satisfied_u(d:List At)(rs:List Rw)(f g:Bool)(h:∀a∈d,AtOk rs a)(hl:rs.length<=1000000)(ha:d.length<=1000000):aK prog 251 [LR g rs,LA f d] fun r=>r = .bool (d.all (atS rs)):=by
 obtain⟨E,w⟩:=ξ (d.all (atS rs));rw[<-w];refine sPx func251 ?_;simp -dsimp[f251,tg,LA,LR];refine aI (W_loopM 45 0x1ffffffff9d0 zMx (σ:=Nat) (fun i=>(d.drop i).all (atS rs)=E) (fun i=>d.length-i) (fun i=>[(11,.int .i64 i)]) (fun _=>[]) 0 (by rw[w,uG]) ζ ζ ζ ?_);intro i hx N Q u s;by_cases hb:i<d.length
 .rw[th hb,vE]at hx;have hk:=h _ (ti hb);obtain⟨a,c⟩:=ξ (d[i]);rw[<-c]at hx hk;have k:=get_u a.l rs g hk.l hl;have m:=get_u a.r rs g hk.r hl;have e:=fZ (tmV rs a.l) (tmV rs a.r);simp only[bp,aP,LR]at k m e;have h1:=hk.lo;have h2:=hk.hi;obtain⟨q,hq⟩:=ξ (dt (tmV rs a.l) (tmV rs a.r));unfold atS at hx;rw[<-hq]at e hx
  have j:∀b:Bool,(b&&(d.drop (i+1)).all (atS rs))=E->(b=true->(d.drop (i+1)).all (atS rs)=E)/\(b=false->E=false):=fun b t=>by
   cases b
   .exact⟨fun h=>(by cases h),fun _=>(by simpa using t.symm)⟩
   .exact⟨fun _=>(by simpa using t),fun h=>(by cases h)⟩
  by_cases p:a.op=1
  .rw[if_pos p]at hx;obtain⟨f1,f2⟩:=j _ hx;by_cases e0:q=0
   .refine wx ?_;simp -dsimp[hb,c.symm,aw,p];refine sTx ?_;refine cQx k ?_;simp -dsimp;refine cQx m ?_;simp -dsimp;refine cQx e ?_;simp -dsimp[p,e0,aE i ω];refine u (i+1) _ _ (f1 (by simp[e0])) ω ζ ⟨_,rfl⟩ ζ ζ
   .refine wx ?_;simp -dsimp[hb,c.symm,aw,p];refine sTx ?_;refine cQx k ?_;simp -dsimp;refine cQx m ?_;simp -dsimp;refine cQx e ?_;simp -dsimp[p,e0];apply s;simp -dsimp;rw[f2 (by simp[e0])]
  rw[if_neg p]at hx;by_cases n:a.op=2
  .rw[if_pos n]at hx;obtain⟨f1,f2⟩:=j _ hx;by_cases e0:q=0
   .refine wx ?_;simp -dsimp[hb,c.symm,aw,n];refine sTx ?_;refine cQx k ?_;simp -dsimp;refine cQx m ?_;simp -dsimp;refine cQx e ?_;simp -dsimp[n,e0];apply s;simp -dsimp;rw[f2 (by simp[e0])]
   .refine wx ?_;simp -dsimp[hb,c.symm,aw,n];refine sTx ?_;refine cQx k ?_;simp -dsimp;refine cQx m ?_;simp -dsimp;refine cQx e ?_;simp -dsimp[n,e0,aE i ω];refine u (i+1) _ _ (f1 (by simp[e0])) ω ζ ⟨_,rfl⟩ ζ ζ
  rw[if_neg n]at hx;by_cases o:a.op=3
  .rw[if_pos o]at hx;obtain⟨f1,f2⟩:=j _ hx;by_cases e0:q<0
   .refine wx ?_;simp -dsimp[hb,c.symm,aw,o];refine sTx ?_;refine cQx k ?_;simp -dsimp;refine cQx m ?_;simp -dsimp;refine cQx e ?_;simp -dsimp[o,e0,aE i ω];refine u (i+1) _ _ (f1 (by simp[e0])) ω ζ ⟨_,rfl⟩ ζ ζ
   .refine wx ?_;simp -dsimp[hb,c.symm,aw,o];refine sTx ?_;refine cQx k ?_;simp -dsimp;refine cQx m ?_;simp -dsimp;refine cQx e ?_;simp -dsimp[o,e0];apply s;simp -dsimp;rw[f2 (by simp[e0])]
  rw[if_neg o]at hx
  have v:a.op=4:=by omega
  obtain⟨f1,f2⟩:=j _ hx;by_cases e0:q<=0
  .refine wx ?_;simp -dsimp[hb,c.symm,aw,v];refine sTx ?_;refine cQx k ?_;simp -dsimp;refine cQx m ?_;simp -dsimp;refine cQx e ?_;simp -dsimp[v,e0,aE i ω];refine u (i+1) _ _ (f1 (by simp[e0])) ω ζ ⟨_,rfl⟩ ζ ζ
  .refine wx ?_;simp -dsimp[hb,c.symm,aw,v];refine sTx ?_;refine cQx k ?_;simp -dsimp;refine cQx m ?_;simp -dsimp;refine cQx e ?_;simp -dsimp[v,e0];apply s;simp -dsimp;rw[f2 (by simp[e0])]
 .rw[tj ω]at hx;refine wx ?_;simp -dsimp[hb];apply s;simp -dsimp;simpa using hx
def same_u(H:List B)(j:Nat)(r:Rw)(d:H[j]?=some (.cells [.int .i64 r.id,.lst 3 false (r.vals.map aP)]))(e:∀bl∈H,rbB H.length bl)(x:Rw):
  aM prog (.fn 253 [.ptr j 0]) [aF x] H fun a H'=>a = .bool (x.id == r.id)/\H'=H:=by
 have c:=aB d
 have b:∀y,(H++[y])[j]?=some (.cells [.int .i64 r.id,.lst 3 false (r.vals.map aP)]):=fun y=>by rw[tu c];exact d
 simp only[aM,ur,uL];refine eu ?_ (by simp[rb,rb1]) ⟨uA _,e⟩;refine aH tok func253 rfl rfl ?_;refine wx ?_;simp -dsimp[f253,tg,aF,LV,b]
def conH_lf{P:Program}{f:FuncId}{args b:List V}{H:List B}{K:V->List B->Prop}(h:ak P f b H K)(hl:LfL args b):ak P f args H K :=
 ⟨h.1,fun s vals hA e d hrel=>h.2 s vals hA e (by rw[d,hl.len]) (fun i a u ha hu=>by
  have c:i<args.length:=by have:=aB ha;rw[hl.len];exact this
  exact ma (hrel i _ u (tm c) hu) (hl.at_ i _ a (tm c) ha))⟩
def conH_frz{P:Program}{f:FuncId}{args a:List V}{H:List B}{K:V->List B->Prop}(k:Nat){e z:Nat}{xs:List V}{fz:Bool}(hk:H[k]?=some (.buf e z xs fz))(h:ak P f a (H.set k (.buf e z xs true)) K)(hr:pe (.buf k 0 xs.length xs.length) (.lst z false xs) args a):ak P f args H K:=by
 refine⟨h.1,fun s vals hA c m hrel=>?_⟩;obtain⟨rfl,l⟩:=hA;obtain⟨p1,d,_⟩:=pK c hk;have hl:=hr.len
 refine(h.2 (s.frz k (.buf e z xs true)) vals ⟨rfl,l.step d⟩ p1 ω (fun i b u hb hu=>?_)).mono fun e' n ⟨u,s',r,a1,g,a3,a4,a5,j⟩=>⟨u,s',r,a1,g,a3,d.trans a4,a5,j⟩
 have hx:args[i]?=some (args[i]'(by have:=aB hb;omega)):=tm _;exact nt c hk (hrel i _ u hx hu) (hr.at_ i _ b hx hb)
def Back(t:Tb)(d:Dn)(a:V)(K:List (List Int)->List B)(m:Nat):Prop :=
 ∀(X:List B),(∀bl∈X,rbB (m+X.length) bl)->∀(rs:List Rw) (fl:Bool) (o:List (List Int)),rs.length=d.vars.toNat->(∀r∈rs,r∈t.rows)->o.length<20000->(∀l∈o,l.length=d.vars.toNat)->aM prog a [LR fl rs] (K o++X) fun r H'=>r = .bool true/\H'=K (kK o (srt (ao rs)))++X
def app0{J:List B}{n:Nat}(h:J.length=n):∀x l,(J++x::l)[n]?=some x:=fun x l=>by subst h;simp
def app1{J:List B}{n:Nat}(h:J.length=n):∀y x l,(J++y::x::l)[n+1]?=some x:=fun y x l=>by subst h;rw[uD ω];simp
def app2{J:List B}{n:Nat}(h:J.length=n):∀z y x l,(J++z::y::x::l)[n+2]?=some x:=fun z y x l=>by subst h;rw[uD ω];simp
def rows_rb2(n:Nat)(e:Nat)(ms:List Rw)(fz:Bool):rbB n (.buf e 2 (ms.map aF) fz):=by
 intro x hx;obtain⟨y,_,rfl⟩:=List.mem_map.1 hx;intro c a;simp only[aF,V.cells,tw,tq,or_false]at a
 rcases a with rfl | rfl<;>simp[rb,rb1,LV]
def app3{J:List B}{n:Nat}(h:J.length=n):∀w z y x l,(J++w::z::y::x::l)[n+3]?=some x:=fun w z y x l=>by subst h;rw[uD ω];simp
def set3{J:List B}{n:Nat}(h:J.length=n):∀a b c x y,(J++[a,b,c,x]).set (n+3) y=J++[a,b,c,y]:=fun a b c x y=>by subst h;rw[uq _ _ ω];simp
def rbM12{n m:Nat}(h:n<=m){v:V}(hv:rb1 n v):rb1 m v:=by
 cases v<;>simp only[rb1]at hv ⊢<;>first | exact hv | omega | trivial
def rbM2{n m:Nat}(h:n<=m){v:V}(hv:rb n v):rb m v:=by
 cases v<;>simp only[rb]at hv ⊢<;>first | exact rbM12 h hv | exact fun c a=>rbM12 h (hv c a) | trivial
def rbB_le2{n m:Nat}(h:n<=m){bl:B}(hb:rbB n bl):rbB m bl:=by
 cases bl with
 | cells cs=>exact fun c a=>rbM2 h (hb c a)
 | map kk es=>exact fun p hp=>⟨rbM2 h (hb p hp).1,rbM2 h (hb p hp).2⟩
 | buf e z xs fz=>exact fun x hx c a=>rbM2 h (hb x hx c a)
def rbs_app2{H G:List B}(a:∀bl∈H,rbB H.length bl)(b:∀bl∈G,rbB (H.length+G.length) bl):∀bl∈H++G,rbB (H++G).length bl:=fun bl hb=>by
 rw[uB]
 rcases List.mem_append.1 hb with h | h
 .exact rbB_le2 ω (a bl h)
 .exact b bl h
def mT{J X:List B}{m:Nat}(hl:J.length=m)(b:∀bl∈J,rbB m bl)(a:∀bl∈X,rbB (m+X.length) bl):∀bl∈J++X,rbB (J++X).length bl:=by
 subst hl;exact rbs_app2 b a
def dcB(d:Dn)(f:Bool):B:=.cells [.int .i64 d.vars,.lst 11 f (d.atoms.map aw)]
def sv(n:Nat)(d:Dn)(f:Bool):rbB n (dcB d f):=fun c a=>by
 simp only[tw,tq,or_false]at a
 rcases a with rfl | rfl<;>simp[rb,rb1]
def visit_u(t:Tb)(d:Dn)(f g f2:Bool)(fv:V)(K:List (List Int)->List B)(m:Nat)(v:∀o,(K o).length=m)(Z:∀o,∀bl∈K o,rbB m bl)(bx:rb m fv)(hn:t.rows.length<=8)(ha:d.atoms.length<=1000000)
  (bi:∀rs,rs.length=d.vars.toNat->(∀r∈rs,r∈t.rows)->∀a∈d.atoms,AtOk rs a) (b1:1<=d.vars) (bY:d.vars<=3) (hB:Back t d fv K m):
  ∀(k:Nat) (p:List Rw) (X:List B) (o:List (List Int)) (fl:Bool),k+p.length=d.vars.toNat->(∀r∈p,r∈t.rows)->(∀bl∈X,rbB (m+X.length) bl)->o.length+t.rows.length^k<20000->(∀l∈o,l.length=d.vars.toNat)->
   ak prog 214 [aD f g t,am f2 d,LR fl p,fv] (K o++X) fun r H'=>r = .bool true/\H'=K (gx d t.rows k p o)++X:=by
 intro k
 induction k with
 | zero =>
  intro p X o fl hk hp hX ho ad
  have ay:p.length=d.vars.toNat:=by omega
  have M:(p.length:Int)=d.vars:=by omega
  have cs:=satisfied_u d.atoms p f2 fl (bi p ay hp) ω ha
  have a2:∀bl∈X++[tcB t f g,dcB d f2],rbB (m+(X++[tcB t f g,dcB d f2]).length) bl:=fun bl j=>by
   rcases List.mem_append.1 j with h | h
   .exact rbB_le2 (by simp<;>omega) (hX bl h)
   .simp only[tw,tq,or_false]at h
    rcases h with rfl | rfl
    .exact cW _ _ _ _
    .exact sv _ _ _
  have hb:=hB _ a2 p fl o ay hp ω ad;rw[<-uW,<-uW]at hb
  have c:(K o++X).length=m+X.length:=by rw[uB,v]
  refine eu ?_ (by simp[rb,rb1]) ⟨by simp[v],mT (v _) (Z _) hX⟩;unfold gx stV;obtain⟨J,hJ⟩:=ξ (K o++X);rw[<-hJ]at hb c ⊢;obtain⟨n,P⟩:=ξ (m+X.length);rw[<-P]at c;have U:=app0 c;have O:=app1 c;simp only[LR,LA]at cs hb;simp only[tcB,dcB]at hb
  cases hs:oZ d p with
  | false =>
   rw[show d.atoms.all (atS p)=false from hs]at cs;rw[if_neg ζ];refine aH tok func214 rfl rfl ?_;refine wx ?_;simp -dsimp[f214,tg,aD,LR,LS,am,LA,M,c,U,O];refine cPx cs ?_;simp -dsimp;exact⟨[tcB t f g,dcB d f2],by rw[hJ,uW];rfl⟩
  | true =>
   rw[show d.atoms.all (atS p)=true from hs]at cs;rw[if_pos rfl];refine aH tok func214 rfl rfl ?_;refine wx ?_;simp -dsimp[f214,tg,aD,LR,LS,am,LA,M,c,U,O];refine cPx cs ?_;simp -dsimp;refine hb.mono ?_;rintro r H' ⟨rfl,rfl⟩;simp -dsimp
   skip
 | succ k ih =>
  intro p X o fl hk hp hX ho ad
  have a6:¬(p.length:Int)=d.vars:=by omega
  have M:p.length<=3:=by omega
  obtain⟨E,hE⟩:=ξ (gx d t.rows (k+1) p o);rw[<-hE];unfold gx at hE;obtain⟨R,hR⟩:=ξ t.rows
  have a7:tcB t f g = .cells [.str t.name,.lst 1 f (t.attrs.map V.str),.lst 2 g (R.map aF)]:=by rw[hR];rfl
  rw[<-hR]at hE hn;obtain⟨n,P⟩:=ξ (m+X.length);refine eu ?_ (by simp[rb,rb1]) ⟨by simp[v],mT (v _) (Z _) hX⟩
  obtain⟨J,hJ⟩:∃J:List (List Int)->List B,J=fun o=>K o++X:=⟨_,rfl⟩
  have A:∀o,K o++X=J o:=fun o=>by rw[hJ]
  have c:∀o,(J o).length=n:=fun o=>by rw[<-A,uB,v,P]
  have ax:∀o,∀bl∈J o,rbB n bl:=fun o=>by rw[<-c o,<-A];exact mT (v _) (Z _) hX
  have hfn:rb n fv:=rbM2 ω bx;have aA:rb (n+2) fv:=rbM2 ω hfn;rw[A,A]
  have U:=fun o=>app0 (c o)
  have O:=fun o=>app1 (c o)
  have g2:=fun o=>app2 (c o)
  obtain⟨u,D⟩:=ξ (B.cells [.str t.name,.lst 1 f (t.attrs.map V.str),.lst 2 g (R.map aF)]);obtain⟨s,F⟩:=ξ (B.cells [.int .i64 d.vars,.lst 11 f2 (d.atoms.map aw)])
  have S:∀n,rbB n u:=fun n=>by rw[D,<-a7];exact cW _ _ _ _
  have T:∀n,rbB n s:=fun n=>by rw[F];exact sv _ _ _
  have I:∀o,∀bl∈J o++[u,s],rbB (J o++[u,s]).length bl:=fun o=>mT (c o) (ax o) (fun bl j=>by
   simp only[tw,tq,or_false]at j
   rcases j with rfl | rfl
   .exact S _
   .exact T _)
  have L:∀o r,∀bl∈J o++[u,s,rcB r],rbB (J o++[u,s,rcB r]).length bl:=fun o r=>mT (c o) (ax o) (fun bl j=>by
   simp only[tw,tq,or_false]at j
   rcases j with rfl | rfl | rfl
   .exact S _
   .exact T _
   .exact rcB_rb _ _)
  refine aH tok func214 rfl rfl ?_;refine wx ?_;simp -dsimp[f214,tg,aD,LR,LS,am,LA,a6,c,U,O,hR.symm];rw[<-D,<-F]
  have g3:=fun o=>app3 (c o)
  have G:=fun o=>set3 (c o)
  rw[<-hR]at ho ih
  have be:o.length+(R.length-0)*R.length^k<20000:=by rw[xe,wG,<-xf];exact ho
  have bz:0<=R.length^k:=wV _;refine aI (W_loopM 47 0x7fffe0000500 zMx (σ:=Nat×List (List Int)) (fun q=>(R.drop q.1).foldl (fun o r=>if cV p r then o else gx d R k (p++[r]) o) q.2=E/\q.2.length+(R.length-q.1)*R.length^k<20000/\∀l∈q.2,l.length=d.vars.toNat) (fun q=>R.length-q.1) (fun q=>[(29,.int .i64 q.1)]) (fun q=>J q.2++[u,s]) (0,o) ⟨hE.symm,be,ad⟩ ζ ζ (by simp[c]) ?_);rintro⟨i,w⟩ ⟨hx,an,H⟩ N Q hN hQ;simp only at hx an H;by_cases hb:i<R.length
  .rw[th hb,vy]at hx;have az:=ti hb;obtain⟨r,Y⟩:=ξ (R[i]);rw[<-Y]at hx az
   have aJ:(R.length-i)*R.length^k=(R.length-(i+1))*R.length^k+R.length^k:=by rw[(ω:R.length-i=(R.length-(i+1))+1),yK]
   rw[aJ]at an;have hc:=cont_R (J w++[u,s,rcB r]) (.fn 253 [.ptr (n+2) 0]) (fun x=>x.id == r.id) p fl ω (L w r) (by simp[rb,rb1,c]) (fun x _=>same_u _ _ r (g2 w u s (rcB r) []) (L w r) x);rw[show(p.any fun x=>x.id == r.id)=cV p r from rfl]at hc;simp only[LR,rcB]at hc
   cases hu:cV p r with
   | true =>
    rw[hu]at hc hx;rw[if_pos rfl]at hx;refine wx ?_;simp -dsimp[hb,Y.symm,aF,LV,c,U,O];refine aM.mono (K:=fun r' H'=>r' = .bool true/\H'=J w++[u,s,B.cells [.int .i64 r.id,.lst 3 false (r.vals.map aP)]]) hc ?_;rintro r' H' ⟨rfl,rfl⟩;simp -dsimp[aE i ω];refine hN (i+1,w) _ _ ⟨hx,θ,H⟩ θ ζ ⟨[B.cells [.int .i64 r.id,.lst 3 false (r.vals.map aP)]],ζ⟩ (by simp[c];exact aA) (I _)
   | false =>
    rw[hu]at hc hx;rw[if_neg ζ]at hx;obtain⟨o3,W⟩:=ξ (gx d R k (p++[r]) w);have bv:=kB (d:=d) (R:=R) k (p++[r]) w
    have ba:∀l∈o3,l.length=d.vars.toNat:=fun l hl=>by
     rw[W]at hl
     rcases(nG _ _ _ _).1 hl with h | ⟨q,h1,_,_,h4⟩
     .exact H l h
     .rw[h4,jG,bg,uB,uB,h1];simp;omega
    rw[<-W]at hx bv
    have bb:w.length+R.length^k<20000:=by omega
    have hv:=ih (p++[r]) (X++[u,s,rcB r,.buf 71 2 ((p++[r]).map aF) true]) w false χ (fun x hx=>by
     rcases List.mem_append.1 hx with h | h
     .rw[hR];exact hp x h
     .simp at h;subst h;exact az) (fun bl j=>by
     rcases List.mem_append.1 j with h | h
     .exact rbB_le2 (by simp<;>omega) (hX bl h)
     .simp only[tw,tq,or_false]at h
      rcases h with rfl | rfl | rfl | rfl
      .exact S _
      .exact T _
      .exact rcB_rb _ _
      .exact rows_rb2 _ _ _ _) bb H
    rw[<-W,<-uW,<-uW,A,A]at hv;have al:=G w u s (rcB r) (.buf 71 2 ((p++[r]).map aF) false) (.buf 71 2 ((p++[r]).map aF) true);rw[<-al]at hv;have hw:=conH_frz (args:=[aD f g t,am f2 d,.buf (n+3) 0 (p.length+1) (p.length+1),fv]) (n+3) (g3 w u s (rcB r) (.buf 71 2 ((p++[r]).map aF) false) []) hv (by simp[LR]);have cc:=cloneO_R p fl ω;simp only[aD,LR,LS,am,LA,<-hR,rcB]at hw cc;refine wx ?_;simp -dsimp[hb,Y.symm,aF,LV,c,U,O];refine aM.mono (K:=fun r' H'=>r' = .bool false/\H'=J w++[u,s,B.cells [.int .i64 r.id,.lst 3 false (r.vals.map aP)]]) hc ?_;rintro r' H' ⟨rfl,rfl⟩;simp -dsimp
    have br:∀o b x y,(J o++[u,s,b,x]).set (n+3) y=J o++[u,s,b,y]:=fun o b x y=>G o u s b x y
    refine aI (ae tok mixed [3,6,8] [(0,[1,2]),(1,[1,2]),(4,[0]),(5,[0])] [(.buf (n+3) 0 p.length p.length,J w++[u,s,B.cells [.int .i64 r.id,.lst 3 false (r.vals.map aP)],.buf 71 2 (p.map aF) false]),(.bool true,J o3++[u,s,B.cells [.int .i64 r.id,.lst 3 false (r.vals.map aP)],.buf 71 2 ((p++[r]).map aF) true])] υ fun C K hC hK=>?_);simp -implicitDefEqProofs [D,F,c,U,O,g2,g3,G,aF,LV,capRw p.length ω,bA p.length ω];simp only[D,F,uu,vW,wP,aF,LV]at hw;refine⟨⟨hC _ _ _ _ ?_,hC _ _ _ _ ?_⟩,hK _ _ ?_⟩
    .refine(jr cc ζ).mono ?_;rintro r' H' ⟨e,z,xs,rfl,rfl,_,rfl,rfl,rfl⟩;exact⟨by simp[c],ζ⟩
    .simp only[aM,uC];exact hw
    .simp -dsimp[aE i ω];refine hN (i+1,o3) _ _ ⟨hx,θ,ba⟩ θ ζ ⟨[B.cells [.int .i64 r.id,.lst 3 false (r.vals.map aP)],.buf 71 2 ((p++[r]).map aF) true],by simp[D,F,aF,LV]⟩ (by simp[c];exact aA) (I _)
  .rw[tj (show R.length<=i by omega)]at hx;have a8:w=E:=hx;subst a8;refine wx ?_;simp -dsimp[hb];apply hQ;simp -dsimp
section
def bW(l:List Int):V:=.agg [.int .i64 (l.getD 0 0),.int .i64 (l.getD 1 0),.int .i64 (l.getD 2 0)]
def mK(o:List (List Int)):List (V×V):=o.map fun l=>(bW l,.bool true)
def ql(o:List (List Int))(l:List Int):mK (o++[l])=mK o++[(bW l,.bool true)]:=by simp[mK]
def key3_eq{a b:List Int}(h:a.length=b.length)(c:a.length<=3):au (bW a) (bW b)=(a == b):=by
 match a,b,h,c with
 | [],[],_,_=>rfl
 | [x],[y],_,_=>simp[bW,au,ke]
 | [x,d],[y,e],_,_=>simp[bW,au,ke]
 | [x,d,g],[y,e,f],_,_=>simp[bW,au,ke]
theorem findK_no{m:Nat}{x:List Int}(hx:x.length=m)(hm:m<=3):∀(o:List (List Int)) (i:Nat),(∀l∈o,l.length=m)->x∉o->cd (bW x) (mK o) i=none
 | [],_,_,_=>rfl
 | l::o,i,h,hn=>by
  have h1:=key3_eq (a:=x) (b:=l) (by rw[hx,h l ζ]) ω
  have c:¬x=l:=fun e=>hn (by rw[e];simp)
  have h2:(x == l)=false:=by simpa using c
  show(if au (bW x) (bW l)=true then some (i,V.bool true) else cd (bW x) (mK o) (i+1))=none;rw[h1,h2,if_neg ζ];exact findK_no hx hm o (i+1) (fun d hl=>h d (by simp[hl])) (fun e=>hn (by simp[e]))
theorem findK_yes{m:Nat}{x:List Int}(hx:x.length=m)(hm:m<=3):∀(o:List (List Int)) (i:Nat),(∀l∈o,l.length=m)->x∈o->∃j,cd (bW x) (mK o) i=some (j,.bool true)/\i<=j/\o[j-i]?=some x
 | [],_,_,h=>by cases h
 | l::o,i,h,hn=>by
  have h1:=key3_eq (a:=x) (b:=l) (by rw[hx,h l ζ]) ω;by_cases he:x=l
  .subst he;refine⟨i,?_,uA _,ζ⟩;show(if au (bW x) (bW x)=true then some (i,V.bool true) else cd (bW x) (mK o) (i+1))=_;rw[h1,beq_self_eq_true,if_pos rfl]
  .have h2:(x == l)=false:=by simpa using he
   obtain⟨j,g,c,d⟩:=findK_yes hx hm o (i+1) (fun f hl=>h f (by simp[hl])) (by
    rcases List.mem_cons.1 hn with e | e
    .exact absurd e he
    .exact e)
   refine⟨j,?_,ω,?_⟩
   .show(if au (bW x) (bW l)=true then some (i,V.bool true) else cd (bW x) (mK o) (i+1))=_;rw[h1,h2,if_neg ζ];exact g
   .rw[(ω:j-i=(j-(i+1))+1),vC];exact d
def mK_rb(n:Nat)(kk:KK)(o:List (List Int)):rbB n (.map kk (mK o)):=fun p hp=>by
 obtain⟨x,_,rfl⟩:=List.mem_map.1 hp;refine⟨?_,by simp[rb,rb1]⟩;intro c a;simp only[tw,tq,or_false]at a
 rcases a with rfl | rfl | rfl<;>simp[rb1]
def VK(tB dB:B)(μ:List (V×V))(c:V)(xs:List V):List B:=[tB,dB,.map (.arr 3) μ,.cells [.map 2],.cells [c],.buf 58 1 xs false]
def VO(tB dB:B)(o:List (List Int)):List B:=VK tB dB (mK o) (.buf 5 0 o.length o.length) (o.map (L1 false))
def VO_rb{tB dB:B}(ht:∀n,rbB n tB)(d:∀n,rbB n dB)(o:List (List Int)):∀bl∈VO tB dB o,rbB 6 bl:=fun bl a=>by
 unfold VO VK at a;simp only[tw,tq,or_false]at a
 rcases a with rfl | rfl | rfl | rfl | rfl | rfl
 .exact ht _
 .exact d _
 .exact mK_rb _ _ _
 .intro c b;simp at b;subst b;simp[rb,rb1]
 .intro c b;simp at b;subst b;simp[rb,rb1]
 .exact qJ _ _ _
section
variable {tB dB:B} {μ:List (V×V)} {c:V} {xs:List V}
theorem vk2(l:List B):(VK tB dB μ c xs++l)[2]?=some (.map (.arr 3) μ):=rfl
theorem vk3(l:List B):(VK tB dB μ c xs++l)[3]?=some (.cells [.map 2]):=rfl
theorem vk4(l:List B):(VK tB dB μ c xs++l)[4]?=some (.cells [c]):=rfl
theorem vk5(l:List B):(VK tB dB μ c xs++l)[5]?=some (.buf 58 1 xs false):=rfl
theorem vs2(l:List B)(a:List (V×V)):(VK tB dB μ c xs++l).set 2 (.map (.arr 3) a)=VK tB dB a c xs++l:=rfl
theorem vs4(l:List B)(c':V):(VK tB dB μ c xs++l).set 4 (.cells [c'])=VK tB dB μ c' xs++l:=rfl
theorem vs5(l:List B)(a:List V):(VK tB dB μ c xs++l).set 5 (.buf 58 1 a false)=VK tB dB μ c a++l:=rfl
theorem vt2(a:List (V×V)):(VK tB dB μ c xs).set 2 (.map (.arr 3) a)=VK tB dB a c xs:=rfl
theorem vt4(c':V):(VK tB dB μ c xs).set 4 (.cells [c'])=VK tB dB μ c' xs:=rfl
theorem vt5(a:List V):(VK tB dB μ c xs).set 5 (.buf 58 1 a false)=VK tB dB μ c a:=rfl
theorem vkl:(VK tB dB μ c xs).length=6:=rfl
def vx0{X:List B}{n:Nat}(h:n=6+X.length)(b:B)(l:List B):(VK tB dB μ c xs++(X++b::l))[n]?=some b:=by
 rw[<-uW];exact app0 (by rw[uB,vkl,h]) b l
def vx1{X:List B}{n:Nat}(h:n=6+X.length)(a b:B)(l:List B):(VK tB dB μ c xs++(X++a::b::l))[n+1]?=some b:=by
 rw[<-uW];exact app1 (by rw[uB,vkl,h]) a b l
def vxs0{X:List B}{n:Nat}(h:n=6+X.length)(b a:B)(l:List B):(VK tB dB μ c xs++(X++b::l)).set n a=VK tB dB μ c xs++(X++a::l):=by
 rw[<-uW,<-uW,uq _ _ (by rw[uB,vkl,h];omega)];simp[vkl,h]
def vxs1{X:List B}{n:Nat}(h:n=6+X.length)(a b d:B)(l:List B):(VK tB dB μ c xs++(X++a::b::l)).set (n+1) d=VK tB dB μ c xs++(X++a::d::l):=by
 rw[<-uW,<-uW,uq _ _ (by rw[uB,vkl,h];omega)];simp[vkl,h]
end
def isZ_srt(l:List Int)(h:1<=l.length):isZ ltZ (l.length-1) 1 l=srt l:=by
 refine srt_eq (isZ_perm _ _ _ _ ω) (sE _ _ _ ω ?_)
 match l,h with
 | x::l,_=>simp
def list1{l:List Int}(h:l.length=1):∃a,l=[a]:=by
 match l,h with
 | [a],_=>exact⟨a,rfl⟩
def list2{l:List Int}(h:l.length=2):∃a b,l=[a,b]:=by
 match l,h with
 | [a,b],_=>exact⟨a,b,rfl⟩
def list3{l:List Int}(h:l.length=3):∃a b c,l=[a,b,c]:=by
 match l,h with
 | [a,b,c],_=>exact⟨a,b,c,rfl⟩
def back_u(t:Tb)(d:Dn)(tB dB:B)(ht:∀n,rbB n tB)(hd:∀n,rbB n dB)(aJ:1<=d.vars)(az:d.vars<=3):Back t d (.fn 215 [.ptr 3 0,.ptr 4 0]) (VO tB dB) 6:=by
 intro X hX rs fl o E _ ho W;obtain⟨n,hn⟩:=ξ (6+X.length)
 have al:∀(μ:List (V×V)) (c:V) (xs:List V),(VK tB dB μ c xs++X).length=n:=fun μ c xs=>by rw[uB,vkl,hn]
 have aA:rs.length<=3:=by omega
 have ay:1<=rs.length:=by omega
 obtain⟨I,Y⟩:=ξ (ao rs)
 have w:I.length=rs.length:=by rw[Y,bg]
 obtain⟨S,G⟩:=ξ (srt I)
 have v:S.length=d.vars.toNat:=by rw[G,jG,w,E]
 rw[<-Y,<-G]
 have x0:=fun μ c xs b l=>vx0 (tB:=tB) (dB:=dB) (μ:=μ) (c:=c) (xs:=xs) hn b l
 have C:=fun μ c xs a b l=>vx1 (tB:=tB) (dB:=dB) (μ:=μ) (c:=c) (xs:=xs) hn a b l
 have y0:=fun μ c xs b z l=>vxs0 (tB:=tB) (dB:=dB) (μ:=μ) (c:=c) (xs:=xs) hn b z l
 have D:=fun μ c xs a b z l=>vxs1 (tB:=tB) (dB:=dB) (μ:=μ) (c:=c) (xs:=xs) hn a b z l
 have ax:=VO_rb ht hd o
 have m:∀b:B,(∀k,rbB k b)->∀bl∈VO tB dB o++(X++[b]),rbB (VO tB dB o++(X++[b])).length bl:=fun b hb=>by
  rw[<-uW];exact rbs_app2 (mT rfl ax hX) (fun bl O=>by simp at O;subst O;exact hb _)
 have U:∀(e:Nat) (l:List Int) k,rbB k (.buf e 1 (l.map aG) false):=fun e l k=>(rbB_buf1 (fun x hx=>by obtain⟨y,_,rfl⟩:=List.mem_map.1 hx;exact⟨ζ,rfl⟩)).2 trivial
 have f:ak prog 216 [.buf n 0 rs.length rs.length] (VO tB dB o++(X++[.buf 2 1 (I.map aG) false])) fun _ H'=>H'=VO tB dB o++(X++[.buf 2 1 (S.map aG) false]):=by
  have h:=sortZ_h (H:=VO tB dB o++(X++[.buf 2 1 (I.map aG) false])) (k:=n) (by unfold VO;simp[vkl,hn]) (m _ (U _ _)) I rs.length w ω;rw[<-w,isZ_srt I ω,<-G]at h;unfold SZ nzL VO at h;rw[y0,y0]at h;rw[<-w];exact h
 simp only[aM,ur,uL];have ad:∀o',(∀bl∈VO tB dB o',rbB 6 bl):=VO_rb ht hd;refine eu ?_ (by simp[rb,rb1]) ⟨by simp[VO,vkl],mT rfl (ad _) hX⟩;refine aH tok func215 rfl rfl ?_;refine cu ?_;refine wx ?_;simp -dsimp[f215,tg,LR];refine cu ?_;refine wx ?_;simp -dsimp;refine cu ?_;refine wx ?_;simp -dsimp;have an:(VO tB dB o++X).length=n:=al _ _ _
 have L:∀b l,(VO tB dB o++(X++b::l))[n]?=some b:=fun b l=>x0 _ _ _ b l
 have M:∀b z l,(VO tB dB o++(X++b::l)).set n z=VO tB dB o++(X++z::l):=fun b z l=>y0 _ _ _ b z l
 have K:(VO tB dB o).length+X.length=n:=by rw[<-an,uB]
 refine aI (bh 2 1 [5] ζ (W_loopM 21 0x1ff8a0 zMx (σ:=Nat) (fun i=>i<=rs.length) (fun i=>rs.length-i) (fun i=>[(11,.int .i64 i),(5,.buf n 0 i i)]) (fun i=>VO tB dB o++(X++[.buf 2 1 ((I.take i).map aG) false])) 0 ω (by simp[K]) ζ ζ ?_));intro i hi N Q hN hQ
 have R:(I.take i).length=i:=by simp;omega
 by_cases hb:i<rs.length
 .have F:i<I.length:=by omega
  obtain⟨r,P⟩:=ξ (rs[i])
  have Z:I[i]=r.id:=by rw[P];simp[Y,ao]
  have T:I.take (i+1)=I.take i++[r.id]:=by rw[tz F,Z]
  obtain⟨J,hJ⟩:=ξ (I.take i);rw[<-hJ]at R T ⊢;refine wx ?_;simp -dsimp[hb,P.symm,aF,LV,L,M,R,jx i ω,aE i ω,K];refine hN (i+1) _ _ ω ω ζ ⟨[B.cells [.int .i64 r.id,.lst 3 false (r.vals.map aP)]],by simp[T,aG]⟩ χ (m _ (U _ _))
 .obtain rfl:i=rs.length:=by omega
  rw[show I.take rs.length=I from uY ω];refine wx ?_;simp -dsimp[hb];apply hQ;simp -dsimp;refine cu ?_;refine wx ?_;simp -dsimp;refine wcZ f ?_;rintro _ _ rfl;simp -dsimp
  have A:S.length=rs.length:=by rw[v,E]
  refine dv n [5] (L _ []) (by simp[A]) ?_;rw[M]
  have q:6+(X.length+1)=n+1:=by omega
  have g:S.length=1\/S.length=2\/S.length=3:=by omega
  by_cases s:S∈o
  .obtain⟨j,p,_,_⟩:=findK_yes v ω o 0 W s
   have u:kK o S=o:=by unfold kK;rw[if_pos (by simpa using s)]
   rw[u];clear s u f m Y G v A
   rcases g with g | g | g
   .obtain⟨a,rfl⟩:=list1 g;simp[bW]at p;refine wx ?_;simp -dsimp[jq,aG,VO,vk2,vk3,vk4,vk5,x0,C,y0,D,p,vkl,q,(ω:(o.length:Int)<=20000)]
   .obtain⟨a,b,rfl⟩:=list2 g;simp[bW]at p;refine wx ?_;simp -dsimp[jq,aG,VO,vk2,vk3,vk4,vk5,x0,C,y0,D,p,vkl,q,(ω:(o.length:Int)<=20000)]
   .obtain⟨a,b,c,rfl⟩:=list3 g;simp[bW]at p;refine wx ?_;simp -dsimp[jq,aG,VO,vk2,vk3,vk4,vk5,x0,C,y0,D,p,vkl,q,(ω:(o.length:Int)<=20000)]
  .have p:=findK_no v ω o 0 W s
   have u:kK o S=o++[S]:=by unfold kK;rw[if_neg (by simpa using s)]
   rw[u];clear s u f m Y G v A
   rcases g with g | g | g
   .obtain⟨a,rfl⟩:=list1 g;simp[bW]at p;refine wx ?_;simp -dsimp[jq,aG,VO,vk2,vk3,vk4,vk5,vs2,vs4,vs5,vt2,vt4,vt5,x0,C,y0,D,p,vkl,q,eb o.length ω,bA o.length ω,(ω:(o.length:Int)+1<=20000)];exact⟨_,by simp[VO,ql,bW,L1,aG];rfl⟩
   .obtain⟨a,b,rfl⟩:=list2 g;simp[bW]at p;refine wx ?_;simp -dsimp[jq,aG,VO,vk2,vk3,vk4,vk5,vs2,vs4,vs5,vt2,vt4,vt5,x0,C,y0,D,p,vkl,q,eb o.length ω,bA o.length ω,(ω:(o.length:Int)+1<=20000)];exact⟨_,by simp[VO,ql,bW,L1,aG];rfl⟩
   .obtain⟨a,b,c,rfl⟩:=list3 g;simp[bW]at p;refine wx ?_;simp -dsimp[jq,aG,VO,vk2,vk3,vk4,vk5,vs2,vs4,vs5,vt2,vt4,vt5,x0,C,y0,D,p,vkl,q,eb o.length ω,bA o.length ω,(ω:(o.length:Int)+1<=20000)];exact⟨_,by simp[VO,ql,bW,L1,aG];rfl⟩
end
def jE(l:List Int):Prop:=l≠[]/\l.length<=3/\∀a∈l,0<a
def jL{l:List Int}(h:jE l):(∃a,l=[a]/\0<a)\/(∃a b,l=[a,b]/\0<a/\0<b)\/∃a b c,l=[a,b,c]/\0<a/\0<b/\0<c:=by
 obtain⟨h1,h2,d⟩:=h
 match l,h1,h2 with
 | [a],_,_=>exact .inl ⟨a,rfl,d a ζ⟩
 | [a,b],_,_=>exact .inr (.inl ⟨a,b,rfl,d a ζ,d b ζ⟩)
 | [a,b,c],_,_=>exact .inr (.inr ⟨a,b,c,rfl,d a ζ,d b ζ,d c ζ⟩)
 | _::_::_::_::_,_,h2=>simp at h2
def key3_inj{a b:List Int}(ha:jE a)(hb:jE b)(h:au (bW a) (bW b)=true):a=b:=by
 rcases jL ha with⟨x,rfl,h1⟩ | ⟨x,y,rfl,h1,h2⟩ | ⟨x,y,z,rfl,h1,h2,g⟩<;>rcases jL hb with⟨d,rfl,c⟩ | ⟨d,f,rfl,c,e⟩ | ⟨d,f,j,rfl,c,e,i⟩<;>simp[bW,au,ke]at h ⊢<;>omega
def key3_self(a:List Int):au (bW a) (bW a)=true:=by simp[bW,au,ke]
def key3_eqP{a b:List Int}(ha:jE a)(hb:jE b):au (bW a) (bW b)=(a == b):=by
 by_cases h:a=b
 .subst h;rw[key3_self];simp
 .have h2:(a == b)=false:=by simpa using h
  rw[h2,<-wC]
  exact fun c=>h (key3_inj ha hb c)
theorem sU{x:List Int}(hx:jE x):∀(o:List (List Int)) (i:Nat),(∀l∈o,jE l)->x∉o->cd (bW x) (mK o) i=none
 | [],_,_,_=>rfl
 | l::o,i,h,hn=>by
  have h1:=key3_eqP hx (h l ζ)
  have a:¬x=l:=fun e=>hn (by rw[e];simp)
  have h2:(x == l)=false:=by simpa using a
  show(if au (bW x) (bW l)=true then some (i,V.bool true) else cd (bW x) (mK o) (i+1))=none;rw[h1,h2,if_neg ζ];exact sU hx o (i+1) (fun b hl=>h b (by simp[hl])) (fun e=>hn (by simp[e]))
theorem lT{x:List Int}(hx:jE x):∀(o:List (List Int)) (i:Nat),(∀l∈o,jE l)->x∈o->∃j,cd (bW x) (mK o) i=some (j,.bool true)/\i<=j/\o[j-i]?=some x
 | [],_,_,h=>by cases h
 | l::o,i,h,hn=>by
  have h1:=key3_eqP hx (h l ζ);by_cases he:x=l
  .subst he;refine⟨i,?_,uA _,ζ⟩;show(if au (bW x) (bW x)=true then some (i,V.bool true) else cd (bW x) (mK o) (i+1))=_;rw[key3_self,if_pos rfl]
  .have h2:(x == l)=false:=by simpa using he
   obtain⟨j,d,a,b⟩:=lT hx o (i+1) (fun c hl=>h c (by simp[hl])) (by
    rcases List.mem_cons.1 hn with e | e
    .exact absurd e he
    .exact e)
   refine⟨j,?_,ω,?_⟩
   .show(if au (bW x) (bW l)=true then some (i,V.bool true) else cd (bW x) (mK o) (i+1))=_;rw[h1,h2,if_neg ζ];exact d
   .rw[(ω:j-i=(j-(i+1))+1),vC];exact b
def mK_set{o:List (List Int)}{x:List Int}{j:Nat}(h:o[j]?=some x):(mK o).set j (bW x,.bool true)=mK o:=by
 unfold mK;obtain⟨b,rfl⟩:=List.getElem?_eq_some_iff.1 h;have:=xJ (f:=fun l:List Int=>(bW l,V.bool true)) (l:=o) (i:=j) (a:=o[j]);rw[<-this,xE]
def ddL(l:List (List Int))(i:Nat):List (List Int):=(l.take i).foldl kK []
def ddL_succ{l:List (List Int)}{i:Nat}(h:i<l.length):ddL l (i+1)=kK (ddL l i) l[i]:=by
 unfold ddL;rw[tz h,List.foldl_append];rfl
theorem fold_putN:∀(l o:List (List Int)) (x:List Int),x∈l.foldl kK o↔x∈o\/x∈l
 | [],o,x=>by simp
 | a::l,o,x=>by
  rw[vy,fold_putN l,nP,tw,or_assoc]
def ddL_mem{l:List (List Int)}{i:Nat}{x:List Int} : x∈ddL l i↔x∈l.take i:=by
 unfold ddL;rw[fold_putN];simp
end
end Go.Proofs.YtnaokiodhoadjaaGreatDoor
