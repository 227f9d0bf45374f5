/- JB26: texts DX, BT, BW, RT, joined and shortened by pack6.py. -/
import Derived.Test.YtnaokiodhoadjaaGreatDoorJB22
import Derived.Test.YtnaokiodhoadjaaGreatDoorJB25
set_option linter.all false
set_option maxRecDepth 100000
set_option maxHeartbeats 64000000
open List renaming replicate→tg,length_nil→vm,set_cons_zero→wZ,set_cons_succ→xA
namespace Go.Proofs.YtnaokiodhoadjaaGreatDoor
section
open Go Go.AM Go.Proofs.Tryz
def tm_ok{t:Tb}(g:TbC t){d:Dn}{rs:List Rw}(hr:rs.length=d.vars.toNat)(hm:∀r∈rs,r∈t.rows){x:Tm}(h:tmB t.attrs.length d.vars x=true):TmOk rs x:=by
 unfold tmB at h;by_cases h0:x.v=0
 .exact .inl h0
 .rw[if_neg h0]at h;simp only[tt,decide_eq_true_eq]at h;obtain⟨h1,h2,b,c,_⟩:=h
  have hk:(x.v-1).toNat<rs.length:=by omega
  refine .inr ⟨(x.v-1).toNat,x.a.toNat,hk,ω,ω,?_⟩;rw[g.len _ (hm _ (ti hk))];omega
def DnS(d:Dn):Prop:=∀a∈d.atoms,a.l.x.s.size<=maxLen/\a.r.x.s.size<=maxLen
def at_ok{t:Tb}(g:TbC t)(hs:TbS t){d:Dn}(e:DnS d)(h:dnB t.attrs.length d=true):∀rs:List Rw,rs.length=d.vars.toNat->(∀r∈rs,r∈t.rows)->∀a∈d.atoms,AtOk rs a:=fun rs hr hm a ha=>by
 unfold dnB at h;simp only[tt,uZ]at h;have h1:=h.2.2.2 a ha;unfold atB at h1;simp only[tt,decide_eq_true_eq]at h1;have ol:=tm_ok g hr hm h1.2.2.1;refine⟨ol,tm_ok g hr hm h1.2.2.2,h1.1,h1.2.1,?_⟩
 rcases ol with h0 | ⟨k,j,hk,f,c,b⟩
 .have:tmV rs a.l=a.l.x:=by simp[tmV,h0]
  rw[this];exact(e a ha).1
 .rw[tmV_at hk f c b];exact hs.sz _ (hm _ (ti hk)) _ (ti b)
def checkedD_u(t:Tb)(d:Dn)(f g f2:Bool)(h:TbS t)(ha:d.atoms.length<=1000000)(hv:validT t=0)(ho:dnB t.attrs.length d=true):aK prog 213 [aD f g t,am f2 d] fun r=>r = .int .i64 0:=by
 have b:=gP t f g h.ok;rw[hv]at b;have a:=validD_u t.attrs.length d f2 ha;rw[ho]at a;have e:=h.few;simp only[aD,LS,LR,am,LA]at b a;by_cases c:d.vars=3
 .rw[c]at a;refine sPx func213 ?_;simp -dsimp[f213,tg,aD,LS,LR,am,LA,c];refine cPx b ?_;simp -dsimp;refine cPx a ?_;simp -dsimp[(ω:¬(200:Int)<t.rows.length)]
 .refine sPx func213 ?_;simp -dsimp[f213,tg,aD,LS,LR,am,LA];refine cPx b ?_;simp -dsimp;refine cPx a ?_;simp -dsimp[c]
def violD_u(t:Tb)(d:Dn)(f g f2:Bool)(h:TbS t)(z:DnS d)(ha:d.atoms.length<=1000000)(hv:validT t=0)(ho:dnB t.attrs.length d=true):aK prog 154 [aD f g t,am f2 d] fun r=>r = .tup [LL false (cF (gx d t.rows d.vars.toNat [] [])),.int .i64 0]:=by
 have A:=tbC hv;obtain⟨v1,v3⟩:=oL ho;have v:=checkedD_u t d f g f2 h ha hv ho;have hb:=back_u t d (tcB t f g) (dcB d f2) (fun n=>cW n t f g) (fun n=>sv n d f2) v1 v3
 have p:∀o,(VO (tcB t f g) (dcB d f2) o).length=6:=fun o=>rfl
 have u:0+t.rows.length^d.vars.toNat<20000:=by have:=rh (k:=d.vars.toNat) h.few ω;omega
 have w:=visit_u t d f g f2 (.fn 215 [.ptr 3 0,.ptr 4 0]) (VO (tcB t f g) (dcB d f2)) 6 p (VO_rb (fun n=>cW n t f g) (fun n=>sv n d f2)) (by simp[rb,rb1]) h.few ha (at_ok A h z ho) v1 v3 hb d.vars.toNat [] [] [] false ζ ζ ζ u ζ;rw[uC]at w;have i:=conH_lf (args:=[aD f g t,am f2 d,.nilS,.fn 215 [.ptr 3 0,.ptr 4 0]]) w ⟨.inl rfl,.inl rfl,.inr (.inr ⟨2,rfl,rfl⟩),.inl rfl,trivial⟩;obtain⟨o,a⟩:=ξ (gx d t.rows d.vars.toNat [] [])
 have B:o.length<=512:=by
  have:=kB (d:=d) (R:=t.rows) d.vars.toNat [] [];have E:=rh (k:=d.vars.toNat) h.few ω;rw[<-a]at this;simp only[vm]at this;omega
 have m:∀l∈o,l.length<=1000000:=fun l hl=>by
  rw[a]at hl
  rcases(nG _ _ _ _).1 hl with C | ⟨q,h1,_,_,D⟩
  .cases C
  .rw[D,jG,bg];simp;omega
 rw[<-a]at i ⊢;simp only[uC]at i;have c:=sortLi_u (H:=VO (tcB t f g) (dcB d f2) o) (k:=5) (e:=58) (f:=false) o o.length rfl (by show 5<6;omega) ω m;rw[show LBi (VO (tcB t f g) (dcB d f2) o) 5 58 false o=VO (tcB t f g) (dcB d f2) o from rfl]at c;have b:=gR o;obtain⟨s,j⟩:=ξ (cF o);rw[<-j]at c b ⊢;simp only[LBi,VO,VK,tcB,dcB,aD,am,LR,LS,LA,xA,wZ]at v i c;refine fo (aH tok func154 rfl rfl ?_);refine cu ?_;refine wx ?_;simp -dsimp[f154,tg,aD,am,LR,LS,LA];refine cu ?_;refine wx ?_;simp -dsimp;refine cPx v ?_;simp -dsimp;refine cu ?_;refine wx ?_;simp -dsimp;refine cu ?_;refine wx ?_;simp -dsimp;refine cx 58 1 [] 4 [0] rfl ζ ζ ?_;refine cu ?_;refine wx ?_;simp -dsimp;refine wcZ i ?_;rintro r H' ⟨rfl,rfl⟩;simp -dsimp;refine wx ?_;simp -dsimp;refine wcZ c ?_;rintro r H' ⟨rfl,rfl⟩;simp -dsimp;rw[<-b];exact pQ (oC rfl ζ (fun x hx=>by obtain⟨y,_,rfl⟩:=List.mem_map.1 hx;exact L1_pure _ _))
structure CnB (c:Cn):Prop where
 l:c.cfd.l.length<=1000000
 p:c.cfd.p.length<=1000000
 ol:c.od.l.length<=1000000
 or:c.od.r.length<=1000000
 at_:c.dn.atoms.length<=1000000
 fd:c.fd.l<4294967296/\c.fd.r<4294967296
 sz:DnS c.dn
def trV(t:Tb)(c:Cn):V :=
 if aU t c=0 then(if c.kind=1 then LDn false ((mi c.fd.l c.fd.r).map (gh (jv c.fd.l))) else if c.kind=6 then .lst 2 true [am false c.dn] else .nilS) else .nilS
def trV_pure(t:Tb)(c:Cn):AM.Pure (trV t c):=by
 unfold trV;split
 .split
  .exact LDn_pure _ _
  .split
   .exact .lst _ _ _ ζ
   .exact .nilS
 .exact .nilS
def nH(t:Tb)(c:Cn)(f g:Bool)(hn:t.attrs.length<=16)(h:CnB c):aK prog 96 [aD f g t,aW c] fun r=>r = .tup [trV t c,.int .i64 (aU t c)]:=by
 have hv:∀e,aU t c=e->e≠0->trV t c = .nilS:=fun e h1 h2=>by unfold trV;rw[if_neg (by rw[h1];exact h2)]
 cases a:(c.table.toList == t.name.toList) with
 | false =>
  have he:aU t c=1:=by unfold aU;rw[a];rfl
  rw[he,hv 1 he (by decide)];refine sPx func96 ?_;simp -dsimp[f96,tg,aD,LS,LR,aW,L1,LCl,LA,a]
 | true =>
  by_cases j:c.kind<1
  .have he:aU t c=1:=by unfold aU;rw[a,decide_eq_false (show ¬1<=c.kind by omega)];rfl
   rw[he,hv 1 he (by decide)];refine sPx func96 ?_;simp -dsimp[f96,tg,aD,LS,LR,aW,L1,LCl,LA,a,j]
  by_cases k:6<c.kind
  .have he:aU t c=1:=by unfold aU;rw[a,decide_eq_false (show ¬c.kind<=6 by omega),vv];rfl
   rw[he,hv 1 he (by decide)];refine sPx func96 ?_;simp -dsimp[f96,tg,aD,LS,LR,aW,L1,LCl,LA,a,j,k]
  have b:aU t c=if c.kind=2\/c.kind=3 then 14 else if c.kind=1 then(if dz t.attrs.length c.fd=true then 0 else 1) else
    if c.kind=4 then(if cfB t.attrs.length c.cfd=true then 0 else 1) else if c.kind=5 then(if odB t.attrs.length c.od=true then 0 else 1) else(if dnB t.attrs.length c.dn=true then 0 else 1):=by
   unfold aU;rw[a,decide_eq_true (show 1<=c.kind by omega),decide_eq_true (show c.kind<=6 by omega)];rfl
  have m:c.kind=1\/c.kind=2\/c.kind=3\/c.kind=4\/c.kind=5\/c.kind=6:=by omega
  rcases m with hk | hk | hk | hk | hk | hk
  .have h1:=or32 c.fd.l c.fd.r h.fd.1 h.fd.2;have h2:=shr32 (c.fd.l ||| c.fd.r) t.attrs.length hn
   obtain⟨o,i⟩:=ξ (c.fd.l ||| c.fd.r)
   rw[<-i]at h1 h2
   cases ho:dz t.attrs.length c.fd with
   | false =>
    have he:aU t c=1:=by rw[b,hk,ho];rfl
    have n:¬((o / 2^t.attrs.length:Nat):Int)=0:=by
     unfold dz at ho;rw[decide_eq_false_iff_not,<-i]at ho;omega
    obtain⟨q,hq⟩:=ξ (o / 2^t.attrs.length);rw[<-hq]at h2 n;rw[he,hv 1 he (by decide)];refine sPx func96 ?_;simp -dsimp[f96,tg,aD,LS,LR,aW,L1,LCl,LA,a,hk,h1,h2,n,(ω:¬q=0)]
   | true =>
    have he:aU t c=0:=by rw[b,hk,ho];rfl
    have d:trV t c=LDn false ((mi c.fd.l c.fd.r).map (gh (jv c.fd.l))):=by unfold trV;rw[if_pos he,if_pos hk]
    have cf:=fromFD t.attrs.length c.fd hn ho;unfold dz at ho;rw[decide_eq_true_eq,<-i]at ho;rw[ho]at h2;rw[he,d];simp only[dY]at cf;refine sPx func96 ?_;simp -dsimp[f96,tg,aD,LS,LR,aW,L1,LCl,LA,a,hk,h1,h2];refine cPx cf ?_;simp -dsimp
  .have he:aU t c=14:=by rw[b,hk];rfl
   rw[he,hv 14 he (by decide)];refine sPx func96 ?_;simp -dsimp[f96,tg,aD,LS,LR,aW,L1,LCl,LA,a,hk]
  .have he:aU t c=14:=by rw[b,hk];rfl
   rw[he,hv 14 he (by decide)];refine sPx func96 ?_;simp -dsimp[f96,tg,aD,LS,LR,aW,L1,LCl,LA,a,hk]
  .have cv:=validC_u t.attrs.length c.cfd false false hn h.l h.p;simp only[ac,L1,LCl]at cv
   cases ho:cfB t.attrs.length c.cfd with
   | false =>
    have he:aU t c=1:=by rw[b,hk,ho];rfl
    rw[ho]at cv;rw[he,hv 1 he (by decide)];refine sPx func96 ?_;simp -dsimp[f96,tg,aD,LS,LR,aW,L1,LCl,LA,a,hk];refine cPx cv ?_;simp -dsimp
   | true =>
    have he:aU t c=0:=by rw[b,hk,ho];rfl
    have d:trV t c = .nilS:=by unfold trV;rw[if_pos he,if_neg ω,if_neg ω]
    rw[ho]at cv;rw[he,d];refine sPx func96 ?_;simp -dsimp[f96,tg,aD,LS,LR,aW,L1,LCl,LA,a,hk];refine cPx cv ?_;simp -dsimp
  .have cv:=validO_u t.attrs.length c.od false false h.ol h.or;simp only[bT,L1]at cv
   cases ho:odB t.attrs.length c.od with
   | false =>
    have he:aU t c=1:=by rw[b,hk,ho];rfl
    rw[ho]at cv;rw[he,hv 1 he (by decide)];refine sPx func96 ?_;simp -dsimp[f96,tg,aD,LS,LR,aW,L1,LCl,LA,a,hk];refine cPx cv ?_;simp -dsimp
   | true =>
    have he:aU t c=0:=by rw[b,hk,ho];rfl
    have d:trV t c = .nilS:=by unfold trV;rw[if_pos he,if_neg ω,if_neg ω]
    rw[ho]at cv;rw[he,d];refine sPx func96 ?_;simp -dsimp[f96,tg,aD,LS,LR,aW,L1,LCl,LA,a,hk];refine cPx cv ?_;simp -dsimp
  .have cv:=validD_u t.attrs.length c.dn false h.at_;simp only[am,LA]at cv
   cases ho:dnB t.attrs.length c.dn with
   | false =>
    have he:aU t c=1:=by rw[b,hk,ho];rfl
    rw[ho]at cv;rw[he,hv 1 he (by decide)];refine sPx func96 ?_;simp -dsimp[f96,tg,aD,LS,LR,aW,L1,LCl,LA,a,hk];refine cPx cv ?_;simp -dsimp
   | true =>
    have he:aU t c=0:=by rw[b,hk,ho];rfl
    have d:trV t c = .lst 2 true [am false c.dn]:=by unfold trV;rw[if_pos he,if_neg ω,if_pos hk]
    rw[ho]at cv;rw[he,d];refine sPx func96 ?_;simp -dsimp[f96,tg,aD,LS,LR,aW,L1,LCl,LA,a,hk];refine cPx cv ?_;simp -dsimp[am,LA]
theorem tT{n s:Nat}(h:s<2^n):∀m,dW (n+m) s=dW n s
 | 0=>rfl
 | m+1=>by
  rw[<-vU,jf,tT h m,vf (uT h (uo ω ω))];simp
def fdDn_ok{n l r b:Nat}(hn:n<=16)(hl:l<2^n)(hr:r<2^n)(hb:b∈mi l r):dnB n (gh (jv l) b)=true/\DnS (gh (jv l) b)/\(gh (jv l) b).atoms.length<=20:=by
 have hL:jv l=dW n l:=by have:=tT hl (32-n);rw[(ω:n+(32-n)=32)]at this;exact this
 have g:(jv l).length<=16:=by rw[hL];exact ug (gJ n l) hn
 have f:b<n:=by
  unfold mi at hb;have h1:=(List.mem_filter.1 hb).1;have:=tT hr (32-n);rw[(ω:n+(32-n)=32)]at this;rw[this]at h1;exact(lq.1 h1).1
 have c:(gh (jv l) b).atoms.length<=20:=by simp[gh];omega
 have e:∀(v:Int) (a:Nat),v=1\/v=2->a<n->tmB n 2 ⟨v,(a:Int),zV⟩=true:=fun v a hv ha=>by
  unfold tmB
  have hz:nD zV=true:=by kernel_rfl
  rw[if_neg (by show ¬v=0;omega)];show(decide (1<=v)&&(decide (v<=2)&&(decide (0<=(a:Int))&&(decide ((a:Int)<n)&&nD zV))))=true;rw[hz,decide_eq_true (show 1<=v by omega),decide_eq_true (show v<=2 by omega),decide_eq_true (show 0<=(a:Int) by omega),decide_eq_true (show(a:Int)<n by omega)];rfl
 have d:∀(op:Int) (a:Nat),op=1\/op=2->a<n->atB n 2 (dm op a)=true:=fun op a ho ha=>by
  unfold atB dm;simp only[e 1 a (.inl rfl) ha,e 2 a (.inr rfl) ha];simp;omega
 refine⟨?_,fun a ha=>?_,c⟩
 .unfold dnB;rw[decide_eq_true (show 1<=(gh (jv l) b).vars from by show(1:Int)<=2;omega),decide_eq_true (show(gh (jv l) b).vars<=3 from by show(2:Int)<=3;omega),decide_eq_true c,uF,uF,uF,uZ];intro a ha;unfold gh at ha
  rcases List.mem_append.1 ha with h | h
  .obtain⟨k,hk,rfl⟩:=List.mem_map.1 h;rw[hL]at hk;exact d 1 k (.inl rfl) (lq.1 hk).1
  .rw[uQ]at h;subst h;exact d 2 b (.inr rfl) f
 .unfold gh at ha
  have hz:zV.s.size<=maxLen:=by decide
  rcases List.mem_append.1 ha with h | h
  .obtain⟨k,hk,rfl⟩:=List.mem_map.1 h;exact⟨hz,hz⟩
  .rw[uQ]at h;subst h;exact⟨hz,hz⟩
def vlV(t:Tb)(c:Cn):V:=if aU t c=0 then LL false (cnV t c) else .nilS
def eY(c:Cn):List V:=[.str c.name,.str c.table,.int .i64 c.kind,.int .u32 (c.fd.l:Int),.int .u32 (c.fd.r:Int),.int .u32 c.m1,.int .u32 c.m2,.str c.i1,.lst 1 false (c.i2.map aG),.str c.i3,.lst 1 false (c.i4.map aG),.lst 1 false (c.cfd.l.map aG),.int .i64 c.cfd.r,.lst 4 false (c.cfd.p.map av),.lst 1 false (c.od.l.map aG),.lst 1 false (c.od.r.map aG),.int .i64 c.dn.vars,.lst 11 false (c.dn.atoms.map aw)]
def cnCells_rb(n:Nat)(c:Cn):rbB n (.cells (eY c)):=fun x hx=>by
 unfold eY at hx;simp only[tw,tq,or_false]at hx
 rcases hx with rfl | rfl | rfl | rfl | rfl | rfl | rfl | rfl | rfl | rfl | rfl | rfl | rfl | rfl | rfl | rfl | rfl | rfl<;>simp[rb,rb1]
def denF(t:Tb)(d:Dn):List (List Int):=cF (gx d t.rows d.vars.toNat [] [])
def den_list{t:Tb}{c:Cn}(g:TbC t)(e:CnB c)(he:aU t c=0)(hq:(c.kind=1/\dz t.attrs.length c.fd=true)\/(c.kind=6/\dnB t.attrs.length c.dn=true)):
  ∃(fl:Bool) (D:List Dn),trV t c = .lst 2 fl (D.map (am false))/\cnV t c=D.flatMap (denF t)/\D.length<=1000/\(∀d∈D,dnB t.attrs.length d=true/\DnS d/\d.atoms.length<=1000000):=by
 rcases hq with⟨hk,ho⟩ | ⟨hk,ho⟩
 .have hl:(mi c.fd.l c.fd.r).length<=32:=ug (uU _ _) (gJ 32 _);refine⟨false,(mi c.fd.l c.fd.r).map (gh (jv c.fd.l)),?_,?_,by rw[ud];omega,fun d a=>?_⟩
  .unfold trV;rw[if_pos he,if_pos hk];rfl
  .unfold cnV fdV;rw[if_pos hk,List.flatMap_map];rfl
  .obtain⟨b,hb,rfl⟩:=List.mem_map.1 a;obtain⟨q1,f,h⟩:=fdDn_ok g.wide (fd_lt ho).1 (fd_lt ho).2 hb;exact⟨q1,f,ω⟩
 .refine⟨true,[c.dn],?_,?_,ζ,fun d a=>?_⟩
  .unfold trV;rw[if_pos he,if_neg ω,if_pos hk];rfl
  .unfold cnV;rw[if_neg ω,if_neg ω,if_neg ω];simp[denF]
  .rw[uQ]at a;subst a;exact⟨ho,e.sz,e.at_⟩
def flat_drop{a:Type}{F:a->List (List Int)}{D:List a}{i:Nat}(h:i<D.length):(D.drop i).flatMap F=F D[i]++(D.drop (i+1)).flatMap F:=by
 rw[th h,wN]
def capV(n m:Nat)(h:n+m<=1000000000):n+m<=9223372036854775807/\(n+m)*24<=140737488355328:=by omega
def violations_u(t:Tb)(c:Cn)(f g:Bool)(h:TbS t)(hv:validT t=0)(s:CnB c):aK prog 97 [aD f g t,aW c] fun r=>r = .tup [vlV t c,.int .i64 (aU t c)]:=by
 have K:=tbC hv;have b:=nH t c f g K.wide s;by_cases he:aU t c=0
 .have m:vlV t c=LL false (cnV t c):=by unfold vlV;rw[if_pos he]
  have A:=cnV_len h.few he;rw[m];rw[he]at b ⊢
  rcases cn_ok he with⟨hk,ho⟩ | ⟨hk,ho⟩ | ⟨hk,ho⟩ | ⟨hk,ho⟩
  case inr.inl =>
   have k:=violC_u t c.cfd f g false false h s.l s.p hv ho
   have j:cnV t c=qa c.cfd t.rows:=by unfold cnV;rw[if_neg ω,if_pos hk]
   have a:trV t c = .nilS:=by unfold trV;rw[if_pos he,if_neg ω,if_neg ω]
   rw[a]at b;rw[j];simp only[aD,LS,LR,aW,L1,LCl,LA,ac]at b k;refine sPx func97 ?_;simp -dsimp[f97,tg,aD,LS,LR,aW,L1,LCl,LA];refine cPx b ?_;simp -dsimp[hk];refine cPx k ?_;simp -dsimp
  case inr.inr.inl =>
   have k:=violO_u t c.od f g false false h s.ol s.or hv ho
   have j:cnV t c=prL (odP c.od) t.rows:=by unfold cnV;rw[if_neg ω,if_neg ω,if_pos hk]
   have a:trV t c = .nilS:=by unfold trV;rw[if_pos he,if_neg ω,if_neg ω]
   rw[a]at b;rw[j];simp only[aD,LS,LR,aW,L1,LCl,LA,bT]at b k;refine sPx func97 ?_;simp -dsimp[f97,tg,aD,LS,LR,aW,L1,LCl,LA];refine cPx b ?_;simp -dsimp[hk];refine cPx k ?_;simp -dsimp
  all_goals
   have S:=den_list K s he (by first | exact .inl ⟨hk,ho⟩ | exact .inr ⟨hk,ho⟩);obtain⟨fl,D,a,j,O,G⟩:=S
   have v:¬c.kind=4:=by omega
   have u:¬c.kind=5:=by omega
   rw[a]at b;obtain⟨E,L⟩:=ξ (cnV t c);rw[<-L]at j A ⊢;clear ho hk m a he L;have P:B.cells [.str t.name,.lst 1 f (t.attrs.map V.str),.lst 2 g (t.rows.map aF)]=tcB t f g:=rfl
   have C:∀n,rbB n (tcB t f g):=fun n=>cW n t f g
   have z:∀o:List (List Int),∀bl∈[tcB t f g,B.cells (eY c),B.buf 58 1 (o.map (L1 false)) false],rbB 3 bl:=fun o bl x=>by
    simp only[tw,tq,or_false]at x
    rcases x with rfl | rfl | rfl
    .exact C _
    .exact cnCells_rb _ _
    .exact qJ _ _ _
   simp only[aD,LS,LR,aW,L1,LCl,LA]at b;refine sPx func97 ?_;simp -dsimp[f97,tg,aD,LS,LR,aW,L1,LCl,LA,v,u];refine cPx b ?_;simp -dsimp[v,u];refine aI (bh 58 1 [8] ζ (W_loopM 62 0x3fffe00000001d30 zMx (σ:=Nat×List (List Int)) (fun p=>p.2++(D.drop p.1).flatMap (denF t)=E) (fun p=>D.length-p.1) (fun p=>[(45,.int .i64 p.1),(8,.buf 2 0 p.2.length p.2.length)]) (fun p=>[tcB t f g,B.cells (eY c),B.buf 58 1 (p.2.map (L1 false)) false]) (0,[]) (by rw[j];rfl) ζ (by simp[tcB,eY]) ζ ?_));rintro⟨i,out⟩ hx N Q H M;simp only at hx;by_cases hb:i<D.length
   .rw[flat_drop hb]at hx;obtain⟨q1,I,J⟩:=G _ (ti hb);obtain⟨d,q⟩:=ξ (D[i]);rw[<-q]at hx q1 I J;have k:=violD_u t d f g false h I J hv q1;rw[show cF (gx d t.rows d.vars.toNat [] [])=denF t d from rfl]at k;obtain⟨w,T⟩:=ξ (denF t d);rw[<-T]at k hx
    have R:out.length+w.length<=4000:=by rw[<-hx]at A;simp only[uB]at A;omega
    simp only[aD,LS,LR,am,LA,LL]at k;by_cases y:w=[]
    .subst y;refine wx ?_;simp -dsimp[hb,q.symm,am,LA,tcB];refine cPx k ?_;simp -dsimp[aE i ω];refine H (i+1,out) _ _ (by simpa using hx) θ ζ ⟨[B.cells [.int .i64 d.vars,.lst 11 false (d.atoms.map aw)]],by simp[tcB]⟩ ζ (z _)
    .refine wx ?_;simp -dsimp[hb,q.symm,am,LA,tcB];refine cPx k ?_;simp -dsimp[y,capV out.length w.length ω,aE i ω];refine H (i+1,out++w) _ _ (by rw[<-hx];simp) θ ζ ⟨[B.cells [.int .i64 d.vars,.lst 11 false (d.atoms.map aw)]],by simp[tcB]⟩ ζ (z _)
   .rw[tj ω,xg,uC]at hx;subst hx;refine dv 2 [8] rfl ζ ?_;refine wx ?_;simp -dsimp[hb];apply M;simp -dsimp[LL]
    skip
 .have m:vlV t c = .nilS:=by unfold vlV;rw[if_neg he]
  have a:trV t c = .nilS:=by unfold trV;rw[if_neg he]
  rw[a]at b;rw[m];obtain⟨e,F⟩:=ξ (aU t c);rw[<-F]at b he ⊢;simp only[aD,LS,LR,aW,L1,LCl,LA]at b;refine sPx func97 ?_;simp -dsimp[f97,tg,aD,LS,LR,aW,L1,LCl,LA];refine cPx b ?_;simp -dsimp[he]
end
end Go.Proofs.YtnaokiodhoadjaaGreatDoor
section
namespace Go.Proofs.YtnaokiodhoadjaaGreatDoor
open Go Go.AM Go.Proofs.Tryz
end Go.Proofs.YtnaokiodhoadjaaGreatDoor
end
