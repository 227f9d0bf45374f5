/- JB38: texts BS, BV, joined and shortened by pack6.py. -/
import Derived.Test.YtnaokiodhoadjaaGreatDoorJB27
import Derived.Test.YtnaokiodhoadjaaGreatDoorJB37
set_option linter.all false
set_option maxRecDepth 100000
set_option maxHeartbeats 64000000
open List renaming replicate→tg
namespace Go.Proofs.YtnaokiodhoadjaaGreatDoor
section
open Go Go.AM Go.Proofs.Tryz
def wlV(t:Tb)(c:Cn):V:=if aU t c=0 then LL false (cnR t c) else .nilS
def wlV_pure(t:Tb)(c:Cn):AM.Pure (wlV t c):=by
 unfold wlV;split
 .exact LL_pure _ _
 .exact .nilS
def viol16e(t:Tb)(c:Cfd)(f g f2 d:Bool)(h:TbOk t)(hl:c.l.length<=1000000)(hp:c.p.length<=1000000)(hv:validT t=0)(ho:cfB t.attrs.length c=false):aK prog 85 [aD f g t,ac f2 d c] fun r=>r = .tup [.nilS,.int .i64 1]:=by
 have b:=jF t f g h;rw[hv]at b;have a:=valid16 t.attrs.length c f2 d (tbC hv).wide hl hp;rw[ho]at a;simp only[aD,LS,LR,ac,L1,LCl]at b a;refine sPx func85 ?_;simp -dsimp[f85,tg,aD,LS,LR,ac,L1,LCl];refine cPx b ?_;simp -dsimp;refine cPx a ?_;simp -dsimp
def error17e(t:Tb)(d:Od)(f g f2 c:Bool)(h:TbOk t)(hl:d.l.length<=1000000)(hr:d.r.length<=1000000)(hv:validT t=0)(ho:odB t.attrs.length d=false):aK prog 137 [aD f g t,bT f2 c d] fun r=>r = .int .i64 1:=by
 have b:=jF t f g h;rw[hv]at b;have a:=valid17 t.attrs.length d f2 c hl hr;rw[ho]at a;simp only[aD,LS,LR,bT,L1]at b a;refine sPx func137 ?_;simp -dsimp[f137,tg,aD,LS,LR,bT,L1];refine cPx b ?_;simp -dsimp;refine cPx a ?_;simp -dsimp
def viol17e(t:Tb)(d:Od)(f g f2 a:Bool)(h:TbOk t)(hl:d.l.length<=1000000)(hr:d.r.length<=1000000)(hv:validT t=0)(ho:odB t.attrs.length d=false):aK prog 86 [aD f g t,bT f2 a d] fun r=>r = .tup [.nilS,.int .i64 1]:=by
 have b:=error17e t d f g f2 a h hl hr hv ho;simp only[aD,LS,LR,bT,L1]at b;refine sPx func86 ?_;simp -dsimp[f86,tg,aD,LS,LR,bT,L1];refine cPx b ?_;simp -dsimp
def error18e(t:Tb)(d:Dn)(f g f2:Bool)(h:TbOk t)(ha:d.atoms.length<=1000000)(hv:validT t=0)(ho:dnB t.attrs.length d=false):aK prog 139 [aD f g t,am f2 d] fun r=>r = .int .i64 1:=by
 have b:=jF t f g h;rw[hv]at b;have a:=valid18 t.attrs.length d f2 ha;rw[ho]at a;simp only[aD,LS,LR,am,LA]at b a;refine sPx func139 ?_;simp -dsimp[f139,tg,aD,LS,LR,am,LA];refine cPx b ?_;simp -dsimp;refine cPx a ?_;simp -dsimp
def viol18e(t:Tb)(d:Dn)(f g f2:Bool)(h:TbOk t)(ha:d.atoms.length<=1000000)(hv:validT t=0)(ho:dnB t.attrs.length d=false):aK prog 87 [aD f g t,am f2 d] fun r=>r = .tup [.nilS,.int .i64 1]:=by
 have a:=error18e t d f g f2 h ha hv ho;simp only[aD,LS,LR,am,LA]at a;refine sPx func87 ?_;simp -dsimp[f87,tg,aD,LS,LR,am,LA];refine cPx a ?_;simp -dsimp
def viol37(t:Tb)(c:Cn)(f g:Bool)(h:TbS t)(hv:validT t=0)(i:CnB c):aK prog 43 [aD f g t,aW c] fun r=>r = .tup [wlV t c,.int .i64 (aU t c)]:=by
 have q:=tbC hv;have hn:=q.wide
 have d:∀e,aU t c=e->e≠0->wlV t c = .nilS:=fun e h1 h2=>by unfold wlV;rw[if_neg (by rw[h1];exact h2)]
 have j:aU t c=0->wlV t c=LL false (cnR t c):=fun h1=>by unfold wlV;rw[if_pos h1]
 cases a:(c.table.toList == t.name.toList) with
 | false =>
  have he:aU t c=1:=by unfold aU;rw[a];rfl
  rw[he,d 1 he (by decide)];refine sPx func43 ?_;simp -dsimp[f43,tg,aD,LS,LR,aW,L1,LCl,LA,a]
 | true =>
  by_cases m:c.kind<1
  .have he:aU t c=1:=by unfold aU;rw[a,decide_eq_false (show ¬1<=c.kind by omega)];rfl
   rw[he,d 1 he (by decide)];refine sPx func43 ?_;simp -dsimp[f43,tg,aD,LS,LR,aW,L1,LCl,LA,a,m]
  by_cases n:6<c.kind
  .have he:aU t c=1:=by unfold aU;rw[a,decide_eq_false (show ¬c.kind<=6 by omega),vv];rfl
   rw[he,d 1 he (by decide)];refine sPx func43 ?_;simp -dsimp[f43,tg,aD,LS,LR,aW,L1,LCl,LA,a,m,n]
  have b:aU t c=if c.kind=2\/c.kind=3 then 14 else if c.kind=1 then(if dz t.attrs.length c.fd=true then 0 else 1) else
    if c.kind=4 then(if cfB t.attrs.length c.cfd=true then 0 else 1) else if c.kind=5 then(if odB t.attrs.length c.od=true then 0 else 1) else(if dnB t.attrs.length c.dn=true then 0 else 1):=by
   unfold aU;rw[a,decide_eq_true (show 1<=c.kind by omega),decide_eq_true (show c.kind<=6 by omega)];rfl
  have o:c.kind=1\/c.kind=2\/c.kind=3\/c.kind=4\/c.kind=5\/c.kind=6:=by omega
  rcases o with hk | hk | hk | hk | hk | hk
  .cases ho:dz t.attrs.length c.fd with
   | false =>
    have he:aU t c=1:=by rw[b,hk,ho];rfl
    rw[he,d 1 he (by decide)];have k:=pairs37e t c.fd f g hn i.fd ho;simp only[aD,LS,LR,dY]at k;refine sPx func43 ?_;simp -dsimp[f43,tg,aD,LS,LR,aW,L1,LCl,LA,a,hk];refine cPx k ?_;simp -dsimp
   | true =>
    have he:aU t c=0:=by rw[b,hk,ho];rfl
    rw[he,j he,show cnR t c=prL (fdP c.fd.l c.fd.r) t.rows from by unfold cnR;rw[if_pos hk]];have k:=pairs37 t c.fd f g h hv i.fd ho;simp only[aD,LS,LR,dY]at k;refine sPx func43 ?_;simp -dsimp[f43,tg,aD,LS,LR,aW,L1,LCl,LA,a,hk];refine cPx k ?_;simp -dsimp
  .have he:aU t c=14:=by rw[b,hk];rfl
   rw[he,d 14 he (by decide)];refine sPx func43 ?_;simp -dsimp[f43,tg,aD,LS,LR,aW,L1,LCl,LA,a,hk]
  .have he:aU t c=14:=by rw[b,hk];rfl
   rw[he,d 14 he (by decide)];refine sPx func43 ?_;simp -dsimp[f43,tg,aD,LS,LR,aW,L1,LCl,LA,a,hk]
  .cases ho:cfB t.attrs.length c.cfd with
   | false =>
    have he:aU t c=1:=by rw[b,hk,ho];rfl
    have cv:=viol16e t c.cfd f g false false h.ok i.l i.p hv ho;simp only[aD,LS,LR,ac,L1,LCl]at cv;rw[he,d 1 he (by decide)];refine sPx func43 ?_;simp -dsimp[f43,tg,aD,LS,LR,aW,L1,LCl,LA,a,hk];refine cPx cv ?_;simp -dsimp
   | true =>
    have he:aU t c=0:=by rw[b,hk,ho];rfl
    have cv:=viol16 t c.cfd f g false false h i.l i.p hv ho;simp only[aD,LS,LR,ac,L1,LCl]at cv;rw[he,j he,show cnR t c=qa c.cfd t.rows from by unfold cnR;rw[if_neg ω,if_pos hk]];refine sPx func43 ?_;simp -dsimp[f43,tg,aD,LS,LR,aW,L1,LCl,LA,a,hk];refine cPx cv ?_;simp -dsimp
  .cases ho:odB t.attrs.length c.od with
   | false =>
    have he:aU t c=1:=by rw[b,hk,ho];rfl
    have cv:=viol17e t c.od f g false false h.ok i.ol i.or hv ho;simp only[aD,LS,LR,bT,L1]at cv;rw[he,d 1 he (by decide)];refine sPx func43 ?_;simp -dsimp[f43,tg,aD,LS,LR,aW,L1,LCl,LA,a,hk];refine cPx cv ?_;simp -dsimp
   | true =>
    have he:aU t c=0:=by rw[b,hk,ho];rfl
    have cv:=viol17 t c.od f g false false h i.ol i.or hv ho;simp only[aD,LS,LR,bT,L1]at cv;rw[he,j he,show cnR t c=prL (odP c.od) t.rows from by unfold cnR;rw[if_neg ω,if_neg ω,if_pos hk]];refine sPx func43 ?_;simp -dsimp[f43,tg,aD,LS,LR,aW,L1,LCl,LA,a,hk];refine cPx cv ?_;simp -dsimp
  .cases ho:dnB t.attrs.length c.dn with
   | false =>
    have he:aU t c=1:=by rw[b,hk,ho];rfl
    have cv:=viol18e t c.dn f g false h.ok i.at_ hv ho;simp only[aD,LS,LR,am,LA]at cv;rw[he,d 1 he (by decide)];refine sPx func43 ?_;simp -dsimp[f43,tg,aD,LS,LR,aW,L1,LCl,LA,a,hk];refine cPx cv ?_;simp -dsimp
   | true =>
    have he:aU t c=0:=by rw[b,hk,ho];rfl
    have cv:=viol18 t c.dn f g false h i.sz i.at_ hv ho;simp only[aD,LS,LR,am,LA]at cv;rw[he,j he,show cnR t c=(asR t.rows c.dn.vars.toNat).foldl (stR c.dn) [] from by unfold cnR;rw[if_neg ω,if_neg ω,if_neg ω]];refine sPx func43 ?_;simp -dsimp[f43,tg,aD,LS,LR,aW,L1,LCl,LA,a,hk];refine cPx cv ?_;simp -dsimp
def ids37(t:Tb)(f g:Bool)(hr:t.rows.length<=1000000):aK prog 44 [aD f g t] fun r=>r=L1 false (ao t.rows):=by
 obtain⟨I,v⟩:=ξ (ao t.rows)
 have m:I.length=t.rows.length:=by rw[v,bg]
 obtain⟨R,n⟩:=ξ t.rows;rw[<-n]at m hr
 have o:∀i (h:i<R.length),I.take (i+1)=I.take i++[R[i].id]:=fun i h=>by
  rw[tz ω];congr 2;simp[v,ao,n]
 rw[<-v]
 have u:∀l:List Int,∀bl∈[B.cells [.str t.name,.lst 1 f (t.attrs.map V.str),.lst 2 g (R.map aF)],B.buf 2 1 (l.map aG) false],rbB 2 bl:=fun l bl k=>by
  simp only[tw,tq,or_false]at k
  rcases k with rfl | rfl
  .intro c w;simp at w;rcases w with rfl | rfl | rfl<;>simp[rb,rb1]
  .exact(rbB_buf1 (fun x hx=>by obtain⟨y,_,rfl⟩:=List.mem_map.1 hx;exact⟨ζ,rfl⟩)).2 trivial
 refine sPx func44 ?_;simp -dsimp[f44,tg,aD,LS,LR,n.symm];refine aI (bh 2 1 [3] ζ (W_loopM 21 0x1ffff8 zMx (σ:=Nat) (fun i=>i<=R.length) (fun i=>R.length-i) (fun i=>[(4,.int .i64 i),(3,.buf 1 0 i i)]) (fun i=>[B.cells [.str t.name,.lst 1 f (t.attrs.map V.str),.lst 2 g (R.map aF)],B.buf 2 1 ((I.take i).map aG) false]) 0 ω ζ ζ ζ ?_));intro j C A z s q
 have d:(I.take j).length=j:=by simp;omega
 by_cases a:j<R.length
 .have b:=o j a;obtain⟨r,e⟩:=ξ (R[j]);rw[<-e]at b;obtain⟨l,p⟩:=ξ (I.take j);rw[<-p]at b d ⊢;refine wx ?_;simp -dsimp[a,e.symm,aF,LV,d,jx j ω,bA j ω,aE j ω];refine s (j+1) _ _ ω ω ζ ⟨[],by simp[b,aG]⟩ ζ (u _)
 .obtain rfl:j=R.length:=by omega
  rw[uY ω];refine dv 1 [3] rfl (by simp[m]) ?_;refine wx ?_;simp -dsimp[a];apply q;simp -dsimp[L1]
  skip
def allR_len{t:Tb}(b:t.rows.length<=8){cs:List Cn}(h:∀c∈cs,aU t c=0)(hl:cs.length<=5):(cO t cs).length<=20000:=by
 have:=gf cs (f:=cnR t) (k:=4000) fun c a=>cnR_len b (h c a)
 unfold cO;have h2:cs.length*4000<=5*4000:=uI _ hl;omega
def allR_snoc(t:Tb){cs:List Cn}{i:Nat}(h:i<cs.length):cO t (cs.take (i+1))=cO t (cs.take i)++cnR t cs[i]:=by
 unfold cO;rw[tz h,List.flatMap_append,wN,xg,uC]
def build37(t:Tb)(cs:List Cn)(f g U:Bool)(h:BdOk t cs):aK prog 16 [aD f g t,LCn U cs] fun r=>r = .tup [bdV t cs,.int .i64 (aX t cs)]:=by
 have s:=jF t f g h.ok;have X:B.cells [.str t.name,.lst 1 f (t.attrs.map V.str),.lst 2 g (t.rows.map aF)]=tcB t f g:=rfl
 have G:∀n,rbB n (tcB t f g):=fun n=>cW n t f g
 by_cases hv:validT t=0
 case neg =>
  have he:aX t cs=validT t:=by unfold aX;rw[if_neg hv]
  have j:bdV t cs = .agg [.nilS,.nilS]:=by unfold bdV;rw[he,if_neg hv]
  rw[he,j];obtain⟨e,v⟩:=ξ (validT t);rw[<-v]at s hv ⊢;simp only[aD,LS,LR]at s;refine sPx func16 ?_;simp -dsimp[f16,tg,aD,LS,LR,LCn];refine cPx s ?_;simp -dsimp[hv]
 case pos =>
 rw[hv]at s;have Y:=tbC hv;by_cases h2:200<t.rows.length
 .have he:aX t cs=3:=by unfold aX;rw[if_pos hv,if_pos h2]
  have j:bdV t cs = .agg [.nilS,.nilS]:=by unfold bdV;rw[he,if_neg (by decide)]
  rw[he,j];simp only[aD,LS,LR]at s;refine sPx func16 ?_;simp -dsimp[f16,tg,aD,LS,LR,LCn];refine cPx s ?_;simp -dsimp[(ω:(200:Int)<t.rows.length)]
 have F:t.rows.length<=8:=by have:=h.rows;omega
 have O:=h.small F;have P:=h.cns;have K:=h.few
 have he:aX t cs=dG t cs:=by unfold aX;rw[if_pos hv,if_neg h2]
 have j:bdV t cs=if dG t cs=0 then qX false false (ao t.rows) (bI (cO t cs)) else .agg [.nilS,.nilS]:=by
  unfold bdV;rw[he]
 rw[he,j];simp only[aD,LS,LR]at s
 have u:∀o:List (List Int),∀bl∈[tcB t f g,B.cells [.nilS,.nilS],B.buf 58 1 (o.map (L1 false)) false],rbB 3 bl:=fun o bl A=>by
  simp only[tw,tq,or_false]at A
  rcases A with rfl | rfl | rfl
  .exact G _
  .intro c z;simp at z;subst z;simp[rb,rb1]
  .exact qJ _ _ _
 refine sPx func16 ?_;simp -dsimp[f16,tg,aD,LS,LR,LCn];refine cPx s ?_;simp -dsimp[(ω:¬(200:Int)<t.rows.length)];refine aI (bh 58 1 [7] ζ (W_loopM 45 0x1fffff8007a0 zMx (σ:=Nat×List (List Int)) (fun p=>p.1<=cs.length/\(∀c∈cs.take p.1,aU t c=0)/\dG t (cs.drop p.1)=dG t cs/\p.2=cO t (cs.take p.1)) (fun p=>cs.length-p.1) (fun p=>[(8,.int .i64 p.1),(7,.buf 2 0 p.2.length p.2.length)]) (fun p=>[tcB t f g,B.cells [.nilS,.nilS],B.buf 58 1 (p.2.map (L1 false)) false]) (0,[]) ⟨ζ,ζ,by rw[uG],rfl⟩ ζ (by simp[tcB]) ζ ?_));rintro⟨i,out⟩ ⟨hi,l,hx,d⟩ N Q S R;simp only at hi l hx d;by_cases hb:i<cs.length
 .rw[qC hb]at hx;have y:=P _ (ti hb);have a:=allR_snoc t hb
  have b:aU t cs[i]=0->∀c∈cs.take (i+1),aU t c=0:=fun h0 c z=>by
   rw[tz hb]at z
   rcases List.mem_append.1 z with h1 | h1
   .exact l c h1
   .rw[uQ]at h1;rw[h1];exact h0
  obtain⟨c,q⟩:=ξ (cs[i]);rw[<-q]at hx y a b;have m:=viol37 t c f g O hv y;have hp:=wlV_pure t c;by_cases h0:aU t c=0
  .rw[if_pos h0]at hx;rw[h0,show wlV t c=LL false (cnR t c) from by unfold wlV;rw[if_pos h0]]at m;have k:=allR_len F (b h0) χ;rw[a,<-d]at k;obtain⟨w,Z⟩:=ξ (cnR t c);rw[<-Z]at m a k;rw[<-d]at a;rw[uB]at k;simp only[aD,LS,LR,aW,L1,LCl,LA,LL]at m;by_cases C:w=[]
   .subst C;rw[uC]at a;refine wx ?_;simp -dsimp[hb,q.symm,aW,L1,LCl,LA,tcB];refine sTx ?_;refine cQx m ?_;simp -dsimp[aE i ω];refine S (i+1,out) _ _ ⟨θ,b h0,hx,a.symm⟩ θ ζ ⟨[],by simp[tcB]⟩ ζ (u _)
   .refine wx ?_;simp -dsimp[hb,q.symm,aW,L1,LCl,LA,tcB];refine sTx ?_;refine cQx m ?_;simp -dsimp[C,capV out.length w.length ω,aE i ω];refine S (i+1,out++w) _ _ ⟨θ,b h0,hx,a.symm⟩ θ ζ ⟨[],by simp[tcB]⟩ ζ (u _)
  .rw[if_neg h0]at hx;rw[show wlV t c = .nilS from by unfold wlV;rw[if_neg h0]]at m;obtain⟨e,v⟩:=ξ (aU t c);rw[<-v]at m h0 hx;simp only[aD,LS,LR,aW,L1,LCl,LA]at m;refine wx ?_;simp -dsimp[hb,q.symm,aW,L1,LCl,LA,tcB];refine sTx ?_;refine cQx m ?_;simp -dsimp[h0];apply R;simp -dsimp;rw[<-hx];exact⟨fun h=>absurd h h0,rfl⟩
 .have h0:dG t cs=0:=by rw[<-hx,tj ω];rfl
  rw[uY ω]at l d;have M:=allR_len F l K
  have x:∀e∈cO t cs,EdgL t.rows e:=fun e D=>fM Y l D
  rw[<-d]at M x;have J:=edges37 out false ω (fun e D=>by have:=(x e D).2.2.1;omega) (fun e D=>(x e D).2.1);have L:=ids37 t f g ω;have H:(bI out).length<=out.length:=kg out out.length;obtain⟨W,E⟩:=ξ (bI out);rw[<-E]at J H;obtain⟨I,T⟩:=ξ (ao t.rows);rw[<-T]at L;simp only[aD,LS,LR,LL,L1]at J L;refine dv 2 [7] rfl ζ ?_;refine wx ?_;simp -dsimp[hb];apply R;simp -dsimp[tcB];refine cPx L ?_;simp -dsimp[LL,L1];refine cPx J ?_;simp -dsimp[(ω:¬(20000:Int)<W.length)];rw[if_pos h0,<-d,<-E,<-T];simp[qX,L1,LL];exact h0.symm
end
end Go.Proofs.YtnaokiodhoadjaaGreatDoor
