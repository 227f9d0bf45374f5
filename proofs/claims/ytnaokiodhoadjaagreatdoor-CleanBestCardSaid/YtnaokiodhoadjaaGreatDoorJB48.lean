/- JB48: texts BB, BC, BL, joined and shortened by pack6.py. -/
import Derived.Test.YtnaokiodhoadjaaGreatDoorJB40
import Derived.Test.YtnaokiodhoadjaaGreatDoorJB44
import Derived.Test.YtnaokiodhoadjaaGreatDoorJB47
set_option linter.all false
set_option maxRecDepth 100000
set_option maxHeartbeats 64000000
open ByteArray renaming empty→tp
open List renaming replicate→tg,nil_append→uL,cons_append→ur,getElem?_cons_succ→vC,getElem?_cons_zero→vI
open Option renaming map_some→uS
namespace Go.Proofs.YtnaokiodhoadjaaGreatDoor
section
open Go Go.AM Go.Proofs.Tryz
def fdC(d:Fd):Cn:=⟨⟨#[99]⟩,⟨#[114]⟩,1,d,0,0,tp,[],tp,[],⟨[],0,[]⟩,⟨[],[]⟩,⟨0,[]⟩⟩
def odC:Cn:=⟨⟨#[100]⟩,⟨#[114]⟩,5,⟨0,0⟩,0,0,tp,[],tp,[],⟨[],0,[]⟩,⟨[],[]⟩,⟨0,[]⟩⟩
def bcL(fds:List Fd)(o:Bool):List Cn:=fds.map fdC++(if o=true then [odC] else [])
def qW(c:Cn):V:=.agg [.str c.name,.str c.table,.int .i64 c.kind,.int .u32 (c.fd.l:Int),.int .u32 (c.fd.r:Int),.int .u32 c.m1,.int .u32 c.m2,.str c.i1,.nilS,.str c.i3,.nilS,.nilS,.int .i64 c.cfd.r,.nilS,.nilS,.nilS,.int .i64 c.dn.vars,.nilS]
@[simp] theorem encZ_pure (c:Cn):AM.Pure (qW c):=by simp[qW]
@[simp] theorem encZ_oneV (c:Cn):cC (qW c)=true:=by simp[qW,cC,V.one]
def LCz(f:Bool)(cs:List Cn):V:=.lst 18 f (cs.map qW)
def bcL_nil{fds:List Fd}{o:Bool} : ∀c∈bcL fds o,c.i2=[]/\c.i4=[]/\c.cfd.l=[]/\c.cfd.p=[]/\c.od.l=[]/\c.od.r=[]/\c.dn.atoms=[]:=fun c a=>by
 unfold bcL at a
 rcases List.mem_append.1 a with a | a
 .obtain⟨d,_,rfl⟩:=List.mem_map.1 a;exact⟨rfl,rfl,rfl,rfl,rfl,rfl,rfl⟩
 .cases o
  .simp at a
  .simp at a;subst a;exact⟨rfl,rfl,rfl,rfl,rfl,rfl,rfl⟩
def conP_argsR{P:Program}{f:FuncId}{args c:List V}{K:V->Prop}(h:aK P f c K)(hl:args.length=c.length)(d:∀(i:Nat) a b,args[i]?=some a->c[i]?=some b->∀s u,Rel s a u->Rel s b u):aK P f args K:=by
 refine⟨h.1,fun F w vals e j g hrel=>h.2 F w vals e j ω (fun i b u hb hu=>?_)⟩;have ha:args[i]?=some (args[i]'(by rw[hl];exact(List.getElem?_eq_some_iff.1 hb).1)):=tm _;exact d i _ b ha hb _ _ (hrel i _ u ha hu)
def rel_lz{s:AM.St}{f:Bool}{cs:List Cn}(h:∀c∈cs,c.i2=[]/\c.i4=[]/\c.cfd.l=[]/\c.cfd.p=[]/\c.od.l=[]/\c.od.r=[]/\c.dn.atoms=[]){u:Value}(hr:Rel s (LCz f cs) u):Rel s (LCn f cs) u:=by
 unfold LCz at hr;unfold LCn;refine rY hr ζ (fun y b=>?_) (fun i x y hx b j c a=>?_)
 .obtain⟨z,_,rfl⟩:=List.mem_map.1 b;refine⟨rfl,fun c a=>?_⟩;simp only[aW,L1,LCl,LA,V.cells,tw,tq,or_false]at a
  rcases a with rfl | rfl | rfl | rfl | rfl | rfl | rfl | rfl | rfl | rfl | rfl | rfl | rfl | rfl | rfl | rfl | rfl | rfl<;>rfl
 .rw[uK]at hx b
  cases hz:cs[i]? with
  | none=>rw[hz]at hx;cases hx
  | some z =>
   rw[hz]at hx b;simp only[uS,Option.some.injEq]at hx b;subst hx;subst b;obtain⟨h1,h2,d,k,g,m,e⟩:=h z (tn hz)
   match j with
   | 0=>simp[aW,V.cells]at a;subst a;exact⟨_,rfl,.inl rfl⟩
   | 1=>simp[aW,V.cells]at a;subst a;exact⟨_,rfl,.inl rfl⟩
   | 2=>simp[aW,V.cells]at a;subst a;exact⟨_,rfl,.inl rfl⟩
   | 3=>simp[aW,V.cells]at a;subst a;exact⟨_,rfl,.inl rfl⟩
   | 4=>simp[aW,V.cells]at a;subst a;exact⟨_,rfl,.inl rfl⟩
   | 5=>simp[aW,V.cells]at a;subst a;exact⟨_,rfl,.inl rfl⟩
   | 6=>simp[aW,V.cells]at a;subst a;exact⟨_,rfl,.inl rfl⟩
   | 7=>simp[aW,V.cells]at a;subst a;exact⟨_,rfl,.inl rfl⟩
   | 8=>simp[aW,V.cells,h1,L1]at a;subst a;exact⟨_,rfl,.inr (.inr ⟨_,rfl,rfl⟩)⟩
   | 9=>simp[aW,V.cells]at a;subst a;exact⟨_,rfl,.inl rfl⟩
   | 10=>simp[aW,V.cells,h2,L1]at a;subst a;exact⟨_,rfl,.inr (.inr ⟨_,rfl,rfl⟩)⟩
   | 11=>simp[aW,V.cells,d,L1]at a;subst a;exact⟨_,rfl,.inr (.inr ⟨_,rfl,rfl⟩)⟩
   | 12=>simp[aW,V.cells]at a;subst a;exact⟨_,rfl,.inl rfl⟩
   | 13=>simp[aW,V.cells,k,LCl]at a;subst a;exact⟨_,rfl,.inr (.inr ⟨_,rfl,rfl⟩)⟩
   | 14=>simp[aW,V.cells,g,L1]at a;subst a;exact⟨_,rfl,.inr (.inr ⟨_,rfl,rfl⟩)⟩
   | 15=>simp[aW,V.cells,m,L1]at a;subst a;exact⟨_,rfl,.inr (.inr ⟨_,rfl,rfl⟩)⟩
   | 16=>simp[aW,V.cells]at a;subst a;exact⟨_,rfl,.inl rfl⟩
   | 17=>simp[aW,V.cells,e,LA]at a;subst a;exact⟨_,rfl,.inr (.inr ⟨_,rfl,rfl⟩)⟩
   | j+18=>simp[aW,V.cells]at a
def bcL_len(fds:List Fd)(o:Bool):(bcL fds o).length<=fds.length+1:=by
 unfold bcL;split<;>simp
def bs_fd{n:Nat}{d:Fd}(h:fdOk n d=true):dz n d=true:=by
 unfold fdOk at h;rw[tt,decide_eq_true_eq,decide_eq_true_eq]at h;unfold dz;rw[decide_eq_true_eq];exact yB (wh h.1 h.2)
def bs_err{t:Tb}{fds:List Fd}{o:Bool}(hn:t.name=⟨#[114]⟩)(hf:fds.all (fdOk t.attrs.length)=true):∀c∈bcL fds o,aU t c=0:=fun c a=>by
 unfold bcL at a
 rcases List.mem_append.1 a with a | a
 .obtain⟨d,b,rfl⟩:=List.mem_map.1 a;unfold aU fdC;rw[hn];have:=bs_fd (List.all_eq_true.1 hf d b);simp[this]
 .cases o
  .simp at a
  .simp at a;subst a;unfold aU odC;rw[hn];simp[odB,olB]
def bs_cnB{fds:List Fd}{o:Bool}(f:ef fds):∀c∈bcL fds o,CnB c:=fun c b=>by
 unfold bcL at b
 rcases List.mem_append.1 b with b | b
 .obtain⟨d,e,rfl⟩:=List.mem_map.1 b;exact⟨by simp[fdC],by simp[fdC],by simp[fdC],by simp[fdC],by simp[fdC],f.2 d e,fun a ha=>by simp[fdC]at ha⟩
 .cases o
  .simp at b
  .simp at b;subst b;exact⟨by simp[odC],by simp[odC],by simp[odC],by simp[odC],by simp[odC],by simp[odC],fun a ha=>by simp[odC]at ha⟩
structure BestR (t:Tb) (cs:List Cn):Prop where
 b:BdOk t cs
 p:prE t cs []=0
 n8:t.rows.length<=8
def best_ok{c:Cs}(v:CsV c)(g:CaseV (csT c) (csF c))(o:Bool):BestR (csT c) (bcL (csF c) o):=by
 have hr:(csT c).rows.length<=4:=by rw[v.rows];exact v.m4
 have hall:(csF c).all (fdOk (csT c).attrs.length)=true:=by
  have:=g.ferr;unfold dO at this;split at this
  .cases this
  .split at this
   .assumption
   .cases this
 have a:∀r∈(csT c).rows,∀x∈r.vals,x.s.size<=maxLen:=fun r hr x hx=>by
  obtain⟨k,hk⟩:=vl_of _ hr _ hx;rw[hk];exact ug (ofV_n k).2 (by simp[maxLen])
 have hb:BdOk (csT c) (bcL (csF c) o):=⟨g.tv.ok,fun b=>⟨g.tv.ok,a,b⟩,.inl ω,by have:=bcL_len (csF c) o;have:=g.flen;omega,bs_cnB g.fok⟩
 have he:aX (csT c) (bcL (csF c) o)=0:=by
  unfold aX;rw[if_pos g.valid,if_neg ω];exact cnsErr_of (bs_err rfl hall)
 exact⟨hb,pr_zero hb he (.inl rfl) ζ,ω⟩
def bcL_fd{fds:List Fd}{o:Bool}{i:Nat}(h:i<fds.length)(h2:i<(bcL fds o).length):(bcL fds o)[i]=fdC fds[i]:=by
 have e:(bcL fds o)[i]?=some (fdC fds[i]):=by
  unfold bcL;rw[tu (by simpa using h),uK,tm h];rfl
 rw[tm h2]at e;exact Option.some.inj e
def bcL_od{fds:List Fd}(h2:fds.length<(bcL fds true).length):(bcL fds true)[fds.length]=odC:=by
 have e:(bcL fds true)[fds.length]?=some odC:=by
  unfold bcL;rw[uD ζ,ud,vz];rfl
 rw[tm h2]at e;exact Option.some.inj e
def bcL_lenT(fds:List Fd):(bcL fds true).length=fds.length+1:=by simp[bcL]
def bcL_lenF(fds:List Fd):(bcL fds false).length=fds.length:=by simp[bcL]
def fd_rb(n e:Nat)(l:List Fd)(fz:Bool):rbB n (.buf e 2 (l.map dY) fz):=fun x hx=>by
 obtain⟨y,_,rfl⟩:=List.mem_map.1 hx;intro c a;simp only[dY,V.cells,tw,tq,or_false]at a
 rcases a with rfl | rfl<;>simp[rb1]
def cellP_rb{n:Nat}{l:List V}(h:∀x∈l,AM.Pure x/\x.one=true):rbB n (.cells l):=fun c a=>cT (h c a).1 (h c a).2
def best_u(t:Tb)(fds:List Fd)(o f g u:Bool)(R:BestR t (bcL fds o))(h:CaseV t fds):aK prog 6 [aD f g t,LCn u (bcL fds o),.int .i64 20000] fun r=>r = .tup [.int .i64 (lstW t (bcL fds o) []),.int .i64 (if o=true then -1 else((optU t fds).cells.length:Int)),.int .i64 0]:=by
 have I:=h.flen;have H:=bcL_len fds o
 have s:aK prog 14 [aD f g t,LCn u (bcL fds o),.nilS,.int .i64 20000] fun r=>r = .tup [encRp false false (nW t (bcL fds o) []) (jt t (bcL fds o) []) (qO t (bcL fds o) []),.int .i64 0]:=by
  have he:opE t (bcL fds o) [] 20000=0:=by unfold opE;rw[if_pos R.p,if_neg (by decide)]
  have hv:opV t (bcL fds o) [] 20000=encRp false false (nW t (bcL fds o) []) (jt t (bcL fds o) []) (qO t (bcL fds o) []):=by unfold opV;rw[if_pos he]
  have:=optimal_s t (bcL fds o) [] 20000 f g u false R.b ζ (.inr rfl);rw[he,hv]at this;refine pV this rfl (fun i a b ha hb=>?_)
  match i with
  | 0=>simp at ha hb;subst ha;subst hb;exact .refl _
  | 1=>simp at ha hb;subst ha;subst hb;exact .refl _
  | 2=>simp[L1]at ha hb;subst ha;subst hb;exact .nil _ _
  | 3=>simp at ha hb;subst ha;subst hb;exact .refl _
  | n+4=>simp at ha
 have v:=Optimal_u t f g false fds h.tv h.num h.valid h.fok h.ferr h.small;rw[<-opt_ones R.b R.p];obtain⟨D,w⟩:=ξ (nW t (bcL fds o) []);obtain⟨b,m⟩:=ξ (jt t (bcL fds o) []);obtain⟨C,q⟩:=ξ (qO t (bcL fds o) []);obtain⟨U,z⟩:=ξ (optU t fds);rw[<-w,<-m,<-q]at s;rw[<-z]at v;rw[<-w,<-z];clear w m q z R h
 have y:∀(l:List Fd),∀bl∈[B.cells [.str t.name,.lst 1 f (t.attrs.map V.str),.lst 2 g (t.rows.map aF)],B.cells [.lst 1 false (D.map aG),.int .i64 b,.lst 2 false (C.map iJ)],B.buf 40 2 (l.map dY) false],rbB 3 bl:=fun l bl c=>by
  simp only[tw,tq,or_false]at c
  rcases c with rfl | rfl | rfl
  .simp
  .exact cellP_rb (fun x hx=>by
    simp only[tw,tq,or_false]at hx
    rcases hx with rfl | rfl | rfl<;>exact⟨by simp[aG],rfl⟩)
  .exact fd_rb _ _ _ _
 simp only[aD,LS,LR,LCn,encRp,L1,LNd,LF,encUp,LLC,LC]at s v;refine sPx func6 ?_;simp -dsimp[f6,tg,aD,LS,LR,LCn];refine cPx s ?_;simp -dsimp;refine aI (bh 40 2 [11] ζ (W_loopM 43 0x7fff808a9c0 zMx (σ:=Nat) (fun i=>i<=fds.length) (fun i=>fds.length-i) (fun i=>[(27,.int .i64 i),(11,.buf 2 0 (fds.take i).length (fds.take i).length)]) (fun i=>[B.cells [.str t.name,.lst 1 f (t.attrs.map V.str),.lst 2 g (t.rows.map aF)],B.cells [.lst 1 false (D.map aG),.int .i64 b,.lst 2 false (C.map iJ)],B.buf 40 2 ((fds.take i).map dY) false]) 0 ω ζ ζ ζ ?_));intro i hi N Q G A;by_cases hb:i<fds.length
 .have c:i<(bcL fds o).length:=by unfold bcL;simp;omega
  have e:=bcL_fd hb c;obtain⟨d,F⟩:=ξ (fds[i]);rw[<-F]at e
  have k:fds.take (i+1)=fds.take i++[d]:=by rw[tz hb,<-F]
  obtain⟨l,hl⟩:=ξ (fds.take i)
  have E:l.length<=100:=by rw[hl,vQ];omega
  rw[<-hl]at k ⊢;refine wx ?_;simp -dsimp[c,e,aW,fdC,L1,LCl,LA,(ω:(i:Int)<((bcL fds o).length:Int)),jx l.length ω,bA l.length ω,aE i ω];refine G (i+1) _ _ ω ω (by simp[k]) ⟨[B.cells [.str ⟨#[99]⟩,.str ⟨#[114]⟩,.int .i64 1,.int .u32 (d.l:Int),.int .u32 (d.r:Int),.int .u32 0,.int .u32 0,.str tp,L1 false [],.str tp,L1 false [],L1 false [],.int .i64 0,LCl false [],L1 false [],L1 false [],.int .i64 0,LA false []]],by simp[k,dY,L1,LCl,LA]⟩ ζ (y _)
 .obtain rfl:i=fds.length:=by omega
  rw[uV]
  cases o with
  | true =>
   have j:=bcL_lenT fds
   have c:fds.length<(bcL fds true).length:=by omega
   have e:=bcL_od c;refine wx ?_;simp -dsimp[c,e,aW,odC,L1,LCl,LA,(ω:(fds.length:Int)<((bcL fds true).length:Int))];apply A;simp -dsimp
  | false =>
   have j:=bcL_lenF fds;refine dv 2 [11] rfl ζ ?_;refine wx ?_;simp -dsimp[j];apply A;simp -dsimp;refine cPx v ?_;simp -dsimp;exact .inr (cG υ)
def mM(d:Fd):V:=qW (fdC d)
def bcX(fds:List Fd)(o:Bool):List V:=fds.map mM++(if o=true then [qW odC] else [])
def bcX_eq(fds:List Fd)(o:Bool):bcX fds o=(bcL fds o).map qW:=by
 unfold bcX bcL mM;rw[uu,xH];cases o<;>rfl
def bcX_pure(fds:List Fd)(o:Bool):∀x∈bcX fds o,AM.Pure x:=fun x hx=>by
 rw[bcX_eq]at hx;obtain⟨c,_,rfl⟩:=List.mem_map.1 hx;exact encZ_pure _
def encFz_rb(n e:Nat)(l:List Fd)(fz:Bool):rbB n (.buf e 18 (l.map mM) fz):=fun x hx=>by
 obtain⟨y,_,rfl⟩:=List.mem_map.1 hx;intro c a;simp only[mM,qW,V.cells,tw,tq,or_false]at a
 rcases a with rfl | rfl | rfl | rfl | rfl | rfl | rfl | rfl | rfl | rfl | rfl | rfl | rfl | rfl | rfl | rfl | rfl | rfl<;>simp[rb1]
def conBX{f:FuncId}{a b:List V}{fds:List Fd}{o:Bool}{K:V->Prop}(h:aK prog f (a++LCn false (bcL fds o)::b) K):aK prog f (a++.lst 18 false (bcX fds o)::b) K:=by
 refine conP_argsR h ζ (fun i x y hx c s u hr=>?_);by_cases hi:i<a.length
 .rw[tu hi]at hx c;rw[hx]at c;cases c;exact hr
 .rw[uD ω]at hx c
  cases hk:i-a.length with
  | zero =>
   rw[hk]at hx c;simp only[vI,Option.some.injEq]at hx c;subst hx;subst c;rw[bcX_eq]at hr;exact rel_lz bcL_nil hr
  | succ n =>
   rw[hk]at hx c;simp only[vC]at hx c;rw[hx]at c;cases c;exact hr
def cap272(n:Nat)(h:n<=1000000000):n<=9223372036854775806/\(n+1)*272<=140737488355328:=by omega
def lawBest(c:Cs)(o f g:Bool)(h:CsOk c):aK prog 3 [iK f g c,.bool o] fun r=>r = .bool true:=by
 have S:=awake_con
 cases hb:csB c with
 | false =>
  have C:=of_no c f g h hb;simp only[iK,offV]at C;refine sPx func3 ?_;simp -dsimp[f3,tg,iK];refine cPx C ?_;simp -dsimp;refine cPx S ?_;simp -dsimp;refine cPx S ?_;simp -dsimp
 | true =>
 have v:=csV h hb;have C:=of_yes c f g h hb;have m:=caseV v;have R:=best_ok v m o;obtain⟨t,ht⟩:=ξ (csT c);obtain⟨fds,u⟩:=ξ (csF c);rw[<-ht,<-u]at m C R;clear v ht u;have ad:=m.flen;have K:=m.small;obtain⟨T,r⟩:=optU_ok (fds:=fds) m.tv K;obtain⟨_,_,hs⟩:=pr_ok R.p
 have D:(inW t []).length<=9:=by rw[fC (.inl rfl)];have:=R.n8;omega
 have A:=conBX (a:=[aD false false t]) (b:=[.int .i64 20000]) (best_u t fds o false false false R m)
 have F:aK prog 7 [aD false false t,.lst 18 false (bcX fds o),.nilS] fun r=>r = .tup [aV false false (inW t []) (inE t (bcL fds o)),.int .i64 0]:=by
  have:=conBX (a:=[aD false false t]) (b:=[L1 false []]) (problem_r t (bcL fds o) [] false false false false R.b ζ);rw[R.p,prV_yes R.p]at this;refine pV this rfl (fun i a b ha hb=>?_)
  match i with
  | 0=>simp at ha hb;subst ha;subst hb;exact .refl _
  | 1=>simp at ha hb;subst ha;subst hb;exact .refl _
  | 2=>simp[L1]at ha hb;subst ha;subst hb;exact .nil _ _
  | n+3=>simp at ha
 have M:=least_r t false false false fds m.tv m.fok K;rw[<-r.least m]at M
 have O:aK prog 9 [aV false false (inW t []) (inE t (bcL fds o))] fun r=>r = .int .i64 (lstW t (bcL fds o) []):=least39 hs D false false
 have j:=bcX_pure fds o;have s:bcX fds o=fds.map mM++(if o=true then [qW odC] else []):=rfl;obtain⟨k,hk⟩:=ξ ((optU t fds).cells.length);obtain⟨w,W⟩:=ξ (lstW t (bcL fds o) []);obtain⟨W0,y⟩:=ξ (inW t []);obtain⟨E,U⟩:=ξ (inE t (bcL fds o));rw[<-W,<-hk]at A;rw[<-hk]at M;rw[<-y,<-U]at F;rw[<-y,<-U,<-W]at O;clear W hk y U hs D r R m;obtain⟨X,hX⟩:=ξ (bcX fds o);rw[<-hX]at A F j s;clear hX;obtain⟨n,hn⟩:=ξ fds.length;simp only[iK,aD,LS,LR,LC,LF,aV,L1,LLn,ur,uL]at C A F M O
 have J:∀(l:List Fd),∀bl∈[B.cells [.int .u8 c.r.a,.int .u8 c.r.gap,.lst 1 f (c.r.rows.map LU),.lst 2 g (c.d.map sj)],B.cells [.str t.name,.lst 1 false (t.attrs.map V.str),.lst 2 false (t.rows.map aF)],B.buf 54 18 (l.map mM) false],rbB 3 bl:=fun l bl G=>by
  simp only[tw,tq,or_false]at G
  rcases G with rfl | rfl | rfl
  .simp
  .simp
  .exact encFz_rb _ _ _ _
 refine sPx func3 ?_;simp -dsimp[f3,tg,iK];refine cPx C ?_;simp -dsimp;refine cPx S ?_;simp -dsimp;refine aI (bh 54 18 [8] ζ (W_loopM 42 0x3ff001a0500 zMx (σ:=Nat) (fun i=>i<=fds.length) (fun i=>fds.length-i) (fun i=>[(32,.int .i64 i),(8,.buf 2 0 i i)]) (fun i=>[B.cells [.int .u8 c.r.a,.int .u8 c.r.gap,.lst 1 f (c.r.rows.map LU),.lst 2 g (c.d.map sj)],B.cells [.str t.name,.lst 1 false (t.attrs.map V.str),.lst 2 false (t.rows.map aF)],B.buf 54 18 ((fds.take i).map mM) false]) 0 ω ζ ζ ζ ?_));intro i hi N Q K Y
 have e:((fds.take i).map mM).length=i:=by rw[ud,vQ];omega
 by_cases q:i<fds.length
 .obtain⟨d,hd⟩:=ξ (fds[i])
  have z:fds.take (i+1)=fds.take i++[d]:=by rw[tz q,<-hd]
  obtain⟨l,hl⟩:=ξ (fds.take i);rw[<-hl]at z e ⊢
  have x:l.length=i:=by simpa using e
  refine wx ?_;simp -dsimp[q,hd.symm,dY,(ω:(i:Int)<(fds.length:Int)),cap272 i ω,bA i ω,aE i ω,e,x];refine K (i+1) _ _ ω ω (by simp[z,x]) ⟨[B.cells [.int .u32 (d.l:Int),.int .u32 (d.r:Int)]],by simp[z,mM,qW,fdC]⟩ ζ (J _)
 .obtain rfl:i=fds.length:=by omega
  rw[uV]at e ⊢;obtain⟨L,hL⟩:=ξ (fds.map mM);rw[<-hL]at e s ⊢;clear J hL
  cases o with
  | true =>
   rw[if_pos rfl]at s;simp only[qW,odC]at s
   have I:X.length=fds.length+1:=by rw[s];simp[e]
   rw[if_pos rfl]at A
   have cA:∀(H:List B) (fz:Bool),H[2]?=some (B.buf 54 18 X fz)->aM prog (.fn 6 []) [.agg [.str t.name,.lst 1 false (t.attrs.map V.str),.lst 2 false (t.rows.map aF)],.buf 2 0 (fds.length+1) (fds.length+1),.int .i64 20000] H fun r H'=>r = .tup [.int .i64 w,.int .i64 (-1),.int .i64 0]/\H'=H.set 2 (B.buf 54 18 X true):=fun H fz P=>callF 2 P A (by simp[I]) (by simp;exact j)
   have Z:∀(H:List B) (fz:Bool),H[2]?=some (B.buf 54 18 X fz)->aM prog (.fn 7 []) [.agg [.str t.name,.lst 1 false (t.attrs.map V.str),.lst 2 false (t.rows.map aF)],.buf 2 0 (fds.length+1) (fds.length+1),.nilS] H fun r H'=>r = .tup [.agg [.lst 1 false (W0.map aG),.lst 1 false (E.map (Ln false))],.int .i64 0]/\H'=H.set 2 (B.buf 54 18 X true):=fun H fz P=>callF 2 P F (by simp[I]) (by simp;exact j)
   rw[s]at cA Z;refine wx ?_;simp -dsimp[q,e];apply Y;simp -dsimp[cap272 fds.length ω,e];refine(cA _ _ rfl).mono ?_;rintro r H' ⟨rfl,rfl⟩;simp -dsimp;refine(Z _ _ rfl).mono ?_;rintro r H' ⟨rfl,rfl⟩;simp -dsimp;refine cPx O ?_;simp -dsimp
  | false =>
   rw[if_neg ζ,uC]at s;rw[if_neg ζ]at A;subst s;refine dv 2 [8] rfl (by simp[e]) ?_;refine wx ?_;simp -dsimp[q,e];apply Y;simp -dsimp;refine(bQ A (by simp;exact j)).mono ?_;rintro r H' ⟨rfl,rfl⟩;simp -dsimp;refine(bQ F (by simp;exact j)).mono ?_;rintro r H' ⟨rfl,rfl⟩;simp -dsimp;refine cPx M ?_;simp -dsimp;refine cPx O ?_;simp -dsimp
end
end Go.Proofs.YtnaokiodhoadjaaGreatDoor
