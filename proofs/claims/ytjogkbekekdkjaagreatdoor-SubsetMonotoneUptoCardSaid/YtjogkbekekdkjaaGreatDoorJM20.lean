/- JM20: own texts of this seat, joined and shortened by pack4.py: DX, BT, BW, DR. -/
import Derived.Test.YtjogkbekekdkjaaGreatDoorJM19
set_option linter.unusedVariables false
set_option linter.unusedSimpArgs false
set_option maxRecDepth 100000
set_option maxHeartbeats 64000000
open Bool renaming and_eq_true→pC,true_and→pP,and_false→rM
open List renaming replicate→ou,getElem_mem→ow,not_mem_nil→pA,drop_eq_getElem_cons→pB,mem_cons→pD,drop_of_length_le→pF,length_append→pK,append_nil→pL,all_eq_true→pV,length_filter_le→pY,length_map→pc,mem_singleton→pe,length_nil→qn,set_cons_zero→qp,set_cons_succ→rT,flatMap_cons→sG
open Nat renaming lt_of_lt_of_le→pd,le_trans→ph,pow_le_pow_right→qD,add_assoc→qQ,testBit_lt_two_pow→rC
namespace Go.Proofs.YtjogkbekekdkjaaGreatDoor
section
open Go Go.AM
theorem tm_ok{t:Tb}(g:TbC t){d:Dn}{rs:List Rw}(hr:rs.length=d.vars.toNat)(hm:∀r∈rs,r∈t.rows){x:Tm}(h:tmB t.attrs.length d.vars x=true):TmOk rs x:=by
 unfold tmB at h;by_cases h0:x.v=0
 ·exact .inl h0
 ·rw[if_neg h0]at h;simp only[pC,decide_eq_true_eq]at h;obtain⟨h1,h2,h3,h4,_⟩:=h
  have hk:(x.v-1).toNat<rs.length:=by omega
  refine .inr ⟨(x.v-1).toNat,x.a.toNat,hk,by omega,by omega,?_⟩;rw[g.len _ (hm _ (ow hk))];omega
def DnS(d:Dn):Prop:=∀a∈d.atoms,a.l.x.s.size≤maxLen∧a.r.x.s.size≤maxLen
theorem at_ok{t:Tb}(g:TbC t)(hs:TbS t){d:Dn}(hd:DnS d)(h:dnB t.attrs.length d=true):∀rs:List Rw,rs.length=d.vars.toNat→(∀r∈rs,r∈t.rows)→∀a∈d.atoms,AtOk rs a:=fun rs hr hm a ha=>by
 unfold dnB at h;simp only[pC,pV]at h;have h1:=h.2.2.2 a ha;unfold atB at h1;simp only[pC,decide_eq_true_eq]at h1;have ol:=tm_ok g hr hm h1.2.2.1;refine⟨ol,tm_ok g hr hm h1.2.2.2,h1.1,h1.2.1,?_⟩
 rcases ol with h0 | ⟨k,j,hk,e1,e2,e3⟩
 ·have:tmV rs a.l=a.l.x:=by simp[tmV,h0]
  rw[this];exact(hd a ha).1
 ·rw[tmV_at hk e1 e2 e3];exact hs.sz _ (hm _ (ow hk)) _ (ow e3)
theorem checkedD_u(t:Tb)(d:Dn)(f g f2:Bool)(h:TbS t)(ha:d.atoms.length≤1000000)(hv:aQ t=0)(ho:dnB t.attrs.length d=true):aE Tryz.prog 193 [aF f g t,gn f2 d] fun r=>r = .int .i64 0:=by
 have c1:=jg t f g h.ok;rw[hv]at c1;have c2:=validD_u t.attrs.length d f2 ha;rw[ho]at c2;have h8:=h.few;simp only[aF,LS,LR,gn,LA]at c1 c2;by_cases h3:d.vars=3
 ·rw[h3]at c2;refine sPx Tryz.func193 rfl rfl ?_;simp -dsimp[Tryz.f193,ou,aF,LS,LR,gn,LA,h3];refine cPx (c1) (by simp) ?_;simp -dsimp[];refine cPx (c2) (by simp) ?_;simp -dsimp[show ¬(200:Int)<t.rows.length by omega]
 ·refine sPx Tryz.func193 rfl rfl ?_;simp -dsimp[Tryz.f193,ou,aF,LS,LR,gn,LA];refine cPx (c1) (by simp) ?_;simp -dsimp[];refine cPx (c2) (by simp) ?_;simp -dsimp[h3]
theorem violD_u(t:Tb)(d:Dn)(f g f2:Bool)(h:TbS t)(hd:DnS d)(ha:d.atoms.length≤1000000)(hv:aQ t=0)(ho:dnB t.attrs.length d=true):aE Tryz.prog 132 [aF f g t,gn f2 d] fun r=>r = .tup [LL false (gy (jL d t.rows d.vars.toNat [] [])),.int .i64 0]:=by
 have ct:=tbC hv;obtain⟨v1,v3⟩:=dn_vars ho;have c1:=checkedD_u t d f g f2 h ha hv ho;have hb:=back_u t d (tcB t f g) (dcB d f2) (fun n=>iK n t f g) (fun n=>dcB_rb n d f2) v1 v3
 have hK0:∀o,(VO (tcB t f g) (dcB d f2) o).length=6:=fun o=>rfl
 have hp0:0+t.rows.length^d.vars.toNat<20000:=by have:=pow_k (k:=d.vars.toNat) h.few (by omega);omega
 have c2:=visit_u t d f g f2 (.fn 195 [.ptr 3 0,.ptr 4 0]) (VO (tcB t f g) (dcB d f2)) 6 hK0 (VO_rb (fun n=>iK n t f g) (fun n=>dcB_rb n d f2)) (by simp[rb,rb1]) h.few ha (at_ok ct h hd ho) v1 v3 hb d.vars.toNat [] [] [] false (by simp) (by simp) (by simp) hp0 (by simp);rw[pL]at c2;have c3:=conH_lf (args:=[aF f g t,gn f2 d,.nilS,.fn 195 [.ptr 3 0,.ptr 4 0]]) c2 ⟨.inl rfl,.inl rfl,.inr (.inr ⟨2,rfl,rfl⟩),.inl rfl,trivial⟩;obtain⟨o,hoe⟩:∃o,o=jL d t.rows d.vars.toNat [] []:=⟨_,rfl⟩
 have hol:o.length≤512:=by
  have:=kE (d:=d) (R:=t.rows) d.vars.toNat [] [];have h5:=pow_k (k:=d.vars.toNat) h.few (by omega);rw[←hoe]at this;simp only[qn]at this;omega
 have hls:∀l∈o,l.length≤1000000:=fun l hl=>by
  rw[hoe]at hl
  rcases(lO _ _ _ _).1 hl with hh | ⟨q,h1,_,_,h4⟩
  ·cases hh
  ·rw[h4,og,gv];simp;omega
 rw[←hoe]at c3 ⊢;simp only[pL]at c3;have c4:=sortLi_u (H:=VO (tcB t f g) (dcB d f2) o) (k:=5) (e:=34) (f:=false) o o.length rfl (by show 5<6;omega) (by omega) hls;rw[show LBi (VO (tcB t f g) (dcB d f2) o) 5 34 false o=VO (tcB t f g) (dcB d f2) o from rfl]at c4;have hsl:=jC o;obtain⟨s,hse⟩:∃s,s=gy o:=⟨_,rfl⟩;rw[←hse]at c4 hsl ⊢;simp only[LBi,VO,VK,tcB,dcB,aF,gn,LR,LS,LA,rT,qp]at c1 c3 c4;refine jq (aK tok Tryz.func132 rfl rfl ?_);refine ie ?_;refine wx ?_;simp -dsimp[Tryz.f132,ou,aF,gn,LR,LS,LA];refine ie ?_;refine wx ?_;simp -dsimp[];refine cPx (c1) (by simp) ?_;simp -dsimp[];refine ie ?_;refine wx ?_;simp -dsimp[];refine ie ?_;refine wx ?_;simp -dsimp[];refine dV 34 1 [] 4 [0] rfl (by simp) (by simp) ?_;refine ie ?_;refine wx ?_;simp -dsimp[];refine wcZ c3 ?_;rintro r H' ⟨rfl,rfl⟩;simp -dsimp[];refine wx ?_;simp -dsimp[];refine wcZ c4 ?_;rintro r H' ⟨rfl,rfl⟩;simp -dsimp[];rw[←hsl];exact ma (ly rfl (by simp) (fun x hx=>by obtain⟨y,_,rfl⟩:=List.mem_map.1 hx;exact L1_pure _ _))
structure CnB (c:Cn):Prop where
 l:c.cfd.l.length≤1000000
 p:c.cfd.p.length≤1000000
 ol:c.od.l.length≤1000000
 or:c.od.r.length≤1000000
 at_:c.dn.atoms.length≤1000000
 fd:c.fd.l<4294967296∧c.fd.r<4294967296
 sz:DnS c.dn
def trV(t:Tb)(c:Cn):V :=
 if eg t c=0 then(if c.kind=1 then LDn false ((lF c.fd.l c.fd.r).map (jF (kB c.fd.l))) else if c.kind=6 then .lst 2 true [gn false c.dn] else .nilS) else .nilS
theorem trV_pure(t:Tb)(c:Cn):AM.Pure (trV t c):=by
 unfold trV;split
 ·split
  ·exact LDn_pure _ _
  ·split
   ·exact .lst _ _ _ (by simp)
   ·exact .nilS
 ·exact .nilS
theorem lQ(t:Tb)(c:Cn)(f g:Bool)(hn:t.attrs.length≤16)(hc:CnB c):aE Tryz.prog 78 [aF f g t,cE c] fun r=>r = .tup [trV t c,.int .i64 (eg t c)]:=by
 have hv:∀e,eg t c=e→e≠0→trV t c = .nilS:=fun e h1 h2=>by unfold trV;rw[if_neg (by rw[h1];exact h2)]
 cases hnm:(c.table.toList == t.name.toList) with
 | false =>
  have he:eg t c=1:=by unfold eg;rw[hnm];rfl
  rw[he,hv 1 he (by decide)];refine sPx Tryz.func78 rfl rfl ?_;simp -dsimp[Tryz.f78,ou,aF,LS,LR,cE,L1,LCl,LA,hnm]
 | true =>
  by_cases hlo:c.kind<1
  ·have he:eg t c=1:=by unfold eg;rw[hnm,decide_eq_false (show ¬1≤c.kind by omega)];rfl
   rw[he,hv 1 he (by decide)];refine sPx Tryz.func78 rfl rfl ?_;simp -dsimp[Tryz.f78,ou,aF,LS,LR,cE,L1,LCl,LA,hnm,hlo]
  by_cases hhi:6<c.kind
  ·have he:eg t c=1:=by unfold eg;rw[hnm,decide_eq_false (show ¬c.kind≤6 by omega),rM];rfl
   rw[he,hv 1 he (by decide)];refine sPx Tryz.func78 rfl rfl ?_;simp -dsimp[Tryz.f78,ou,aF,LS,LR,cE,L1,LCl,LA,hnm,hlo,hhi]
  have hc0:eg t c=if c.kind=2∨c.kind=3 then 14 else if c.kind=1 then(if jR t.attrs.length c.fd=true then 0 else 1) else
    if c.kind=4 then(if cfB t.attrs.length c.cfd=true then 0 else 1) else if c.kind=5 then(if odB t.attrs.length c.od=true then 0 else 1) else(if dnB t.attrs.length c.dn=true then 0 else 1):=by
   unfold eg;rw[hnm,decide_eq_true (show 1≤c.kind by omega),decide_eq_true (show c.kind≤6 by omega)];rfl
  have hc6:c.kind=1∨c.kind=2∨c.kind=3∨c.kind=4∨c.kind=5∨c.kind=6:=by omega
  rcases hc6 with hk | hk | hk | hk | hk | hk
  ·have h1:=or32 c.fd.l c.fd.r hc.fd.1 hc.fd.2;have h2:=shr32 (c.fd.l ||| c.fd.r) t.attrs.length hn
   obtain⟨o,hoe⟩:∃o,o=c.fd.l ||| c.fd.r:=⟨_,rfl⟩
   rw[←hoe]at h1 h2
   cases ho:jR t.attrs.length c.fd with
   | false =>
    have he:eg t c=1:=by rw[hc0,hk,ho];rfl
    have h3:¬((o / 2^t.attrs.length:Nat):Int)=0:=by
     unfold jR at ho;rw[decide_eq_false_iff_not,←hoe]at ho;omega
    obtain⟨q,hq⟩:∃q,q=o / 2^t.attrs.length:=⟨_,rfl⟩;rw[←hq]at h2 h3;rw[he,hv 1 he (by decide)];refine sPx Tryz.func78 rfl rfl ?_;simp -dsimp[Tryz.f78,ou,aF,LS,LR,cE,L1,LCl,LA,hnm,hk,h1,h2,h3,show ¬q=0 by omega]
   | true =>
    have he:eg t c=0:=by rw[hc0,hk,ho];rfl
    have htv:trV t c=LDn false ((lF c.fd.l c.fd.r).map (jF (kB c.fd.l))):=by unfold trV;rw[if_pos he,if_pos hk]
    have cf:=fromFD t.attrs.length c.fd hn ho;unfold jR at ho;rw[decide_eq_true_eq,←hoe]at ho;rw[ho]at h2;rw[he,htv];simp only[gR]at cf;refine sPx Tryz.func78 rfl rfl ?_;simp -dsimp[Tryz.f78,ou,aF,LS,LR,cE,L1,LCl,LA,hnm,hk,h1,h2];refine cPx (cf) (by simp) ?_;simp -dsimp[]
  ·have he:eg t c=14:=by rw[hc0,hk];rfl
   rw[he,hv 14 he (by decide)];refine sPx Tryz.func78 rfl rfl ?_;simp -dsimp[Tryz.f78,ou,aF,LS,LR,cE,L1,LCl,LA,hnm,hk]
  ·have he:eg t c=14:=by rw[hc0,hk];rfl
   rw[he,hv 14 he (by decide)];refine sPx Tryz.func78 rfl rfl ?_;simp -dsimp[Tryz.f78,ou,aF,LS,LR,cE,L1,LCl,LA,hnm,hk]
  ·have cv:=validC_u t.attrs.length c.cfd false false hn hc.l hc.p;simp only[gT,L1,LCl]at cv
   cases ho:cfB t.attrs.length c.cfd with
   | false =>
    have he:eg t c=1:=by rw[hc0,hk,ho];rfl
    rw[ho]at cv;rw[he,hv 1 he (by decide)];refine sPx Tryz.func78 rfl rfl ?_;simp -dsimp[Tryz.f78,ou,aF,LS,LR,cE,L1,LCl,LA,hnm,hk];refine cPx (cv) (by simp) ?_;simp -dsimp[]
   | true =>
    have he:eg t c=0:=by rw[hc0,hk,ho];rfl
    have htv:trV t c = .nilS:=by unfold trV;rw[if_pos he,if_neg (by omega),if_neg (by omega)]
    rw[ho]at cv;rw[he,htv];refine sPx Tryz.func78 rfl rfl ?_;simp -dsimp[Tryz.f78,ou,aF,LS,LR,cE,L1,LCl,LA,hnm,hk];refine cPx (cv) (by simp) ?_;simp -dsimp[]
  ·have cv:=validO_u t.attrs.length c.od false false hc.ol hc.or;simp only[iV,L1]at cv
   cases ho:odB t.attrs.length c.od with
   | false =>
    have he:eg t c=1:=by rw[hc0,hk,ho];rfl
    rw[ho]at cv;rw[he,hv 1 he (by decide)];refine sPx Tryz.func78 rfl rfl ?_;simp -dsimp[Tryz.f78,ou,aF,LS,LR,cE,L1,LCl,LA,hnm,hk];refine cPx (cv) (by simp) ?_;simp -dsimp[]
   | true =>
    have he:eg t c=0:=by rw[hc0,hk,ho];rfl
    have htv:trV t c = .nilS:=by unfold trV;rw[if_pos he,if_neg (by omega),if_neg (by omega)]
    rw[ho]at cv;rw[he,htv];refine sPx Tryz.func78 rfl rfl ?_;simp -dsimp[Tryz.f78,ou,aF,LS,LR,cE,L1,LCl,LA,hnm,hk];refine cPx (cv) (by simp) ?_;simp -dsimp[]
  ·have cv:=validD_u t.attrs.length c.dn false hc.at_;simp only[gn,LA]at cv
   cases ho:dnB t.attrs.length c.dn with
   | false =>
    have he:eg t c=1:=by rw[hc0,hk,ho];rfl
    rw[ho]at cv;rw[he,hv 1 he (by decide)];refine sPx Tryz.func78 rfl rfl ?_;simp -dsimp[Tryz.f78,ou,aF,LS,LR,cE,L1,LCl,LA,hnm,hk];refine cPx (cv) (by simp) ?_;simp -dsimp[]
   | true =>
    have he:eg t c=0:=by rw[hc0,hk,ho];rfl
    have htv:trV t c = .lst 2 true [gn false c.dn]:=by unfold trV;rw[if_pos he,if_neg (by omega),if_pos hk]
    rw[ho]at cv;rw[he,htv];refine sPx Tryz.func78 rfl rfl ?_;simp -dsimp[Tryz.f78,ou,aF,LS,LR,cE,L1,LCl,LA,hnm,hk];refine cPx (cv) (by simp) ?_;simp -dsimp[gn,LA]
theorem oV{n s:Nat}(h:s<2^n):∀m,iD (n+m) s=iD n s
 | 0=>rfl
 | m+1=>by
  rw[←qQ,jt,oV h m,rC (pd h (qD (by omega) (by omega)))];simp
theorem fdDn_ok{n l r b:Nat}(hn:n≤16)(hl:l<2^n)(hr:r<2^n)(hb:b∈lF l r):dnB n (jF (kB l) b)=true∧DnS (jF (kB l) b)∧(jF (kB l) b).atoms.length≤20:=by
 have hL:kB l=iD n l:=by have:=oV hl (32-n);rw[show n+(32-n)=32 by omega]at this;exact this
 have hlen:(kB l).length≤16:=by rw[hL];exact ph (jB n l) hn
 have hbn:b<n:=by
  unfold lF at hb;have h1:=(List.mem_filter.1 hb).1;have:=oV hr (32-n);rw[show n+(32-n)=32 by omega]at this;rw[this]at h1;exact(kj.1 h1).1
 have hat:(jF (kB l) b).atoms.length≤20:=by simp[jF];omega
 have htm:∀(v:Int) (a:Nat),v=1∨v=2→a<n→tmB n 2 ⟨v,(a:Int),zV⟩=true:=fun v a hv ha=>by
  unfold tmB
  have hz:nV zV=true:=by kernel_rfl
  rw[if_neg (by show ¬v=0;omega)];show(decide (1≤v)&&(decide (v≤2)&&(decide (0≤(a:Int))&&(decide ((a:Int)<n)&&nV zV))))=true;rw[hz,decide_eq_true (show 1≤v by omega),decide_eq_true (show v≤2 by omega),decide_eq_true (show 0≤(a:Int) by omega),decide_eq_true (show(a:Int)<n by omega)];rfl
 have hab:∀(op:Int) (a:Nat),op=1∨op=2→a<n→atB n 2 (iH op a)=true:=fun op a ho ha=>by
  unfold atB iH;simp only[htm 1 a (.inl rfl) ha,htm 2 a (.inr rfl) ha];simp;omega
 refine⟨?_,fun a ha=>?_,hat⟩
 ·unfold dnB;rw[decide_eq_true (show 1≤(jF (kB l) b).vars from by show(1:Int)≤2;omega),decide_eq_true (show(jF (kB l) b).vars≤3 from by show(2:Int)≤3;omega),decide_eq_true hat,pP,pP,pP,pV];intro a ha;unfold jF at ha
  rcases List.mem_append.1 ha with h | h
  ·obtain⟨k,hk,rfl⟩:=List.mem_map.1 h;rw[hL]at hk;exact hab 1 k (.inl rfl) (kj.1 hk).1
  ·rw[pe]at h;subst h;exact hab 2 b (.inr rfl) hbn
 ·unfold jF at ha
  have hz:zV.s.size≤maxLen:=by decide
  rcases List.mem_append.1 ha with h | h
  ·obtain⟨k,hk,rfl⟩:=List.mem_map.1 h;exact⟨hz,hz⟩
  ·rw[pe]at h;subst h;exact⟨hz,hz⟩
def vlV(t:Tb)(c:Cn):V:=if eg t c=0 then LL false (cnV t c) else .nilS
def iJ(c:Cn):List V:=[.str c.name,.str c.table,.int .i64 c.kind,.int .u32 (c.fd.l:Int),.int .u32 (c.fd.r:Int),.int .u32 c.m1,.int .u32 c.m2,.str c.i1,.lst 1 false (c.i2.map au),.str c.i3,.lst 1 false (c.i4.map au),.lst 1 false (c.cfd.l.map au),.int .i64 c.cfd.r,.lst 4 false (c.cfd.p.map dG),.lst 1 false (c.od.l.map au),.lst 1 false (c.od.r.map au),.int .i64 c.dn.vars,.lst 11 false (c.dn.atoms.map du)]
theorem oO(n:Nat)(c:Cn):rbB n (.cells (iJ c)):=fun x hx=>by
 unfold iJ at hx;simp only[pD,pA,or_false]at hx
 rcases hx with rfl | rfl | rfl | rfl | rfl | rfl | rfl | rfl | rfl | rfl | rfl | rfl | rfl | rfl | rfl | rfl | rfl | rfl<;>simp[rb,rb1]
def denF(t:Tb)(d:Dn):List (List Int):=gy (jL d t.rows d.vars.toNat [] [])
theorem den_list{t:Tb}{c:Cn}(ct:TbC t)(hc:CnB c)(he:eg t c=0)(hq:(c.kind=1∧jR t.attrs.length c.fd=true)∨(c.kind=6∧dnB t.attrs.length c.dn=true)):
  ∃(fl:Bool) (D:List Dn),trV t c = .lst 2 fl (D.map (gn false))∧cnV t c=D.flatMap (denF t)∧D.length≤1000∧(∀d∈D,dnB t.attrs.length d=true∧DnS d∧d.atoms.length≤1000000):=by
 rcases hq with⟨hk,ho⟩ | ⟨hk,ho⟩
 ·have hl:(lF c.fd.l c.fd.r).length≤32:=ph (pY _ _) (jB 32 _);refine⟨false,(lF c.fd.l c.fd.r).map (jF (kB c.fd.l)),?_,?_,by rw[pc];omega,fun d hd=>?_⟩
  ·unfold trV;rw[if_pos he,if_pos hk];rfl
  ·unfold cnV fdV;rw[if_pos hk,List.flatMap_map];rfl
  ·obtain⟨b,hb,rfl⟩:=List.mem_map.1 hd;obtain⟨q1,q2,q3⟩:=fdDn_ok ct.wide (fd_lt ho).1 (fd_lt ho).2 hb;exact⟨q1,q2,by omega⟩
 ·refine⟨true,[c.dn],?_,?_,by simp,fun d hd=>?_⟩
  ·unfold trV;rw[if_pos he,if_neg (by omega),if_pos hk];rfl
  ·unfold cnV;rw[if_neg (by omega),if_neg (by omega),if_neg (by omega)];simp[denF]
  ·rw[pe]at hd;subst hd;exact⟨ho,hc.sz,hc.at_⟩
theorem flat_drop{α:Type}{F:α→List (List Int)}{D:List α}{i:Nat}(h:i<D.length):(D.drop i).flatMap F=F D[i]++(D.drop (i+1)).flatMap F:=by
 rw[pB h,sG]
theorem capV(n m:Nat)(h:n+m≤1000000000):n+m≤9223372036854775807∧(n+m)*24≤140737488355328:=by omega
theorem violations_u(t:Tb)(c:Cn)(f g:Bool)(h:TbS t)(hv:aQ t=0)(hc:CnB c):aE Tryz.prog 79 [aF f g t,cE c] fun r=>r = .tup [vlV t c,.int .i64 (eg t c)]:=by
 have ct:=tbC hv;have c1:=lQ t c f g ct.wide hc;by_cases he:eg t c=0
 ·have hvl:vlV t c=LL false (cnV t c):=by unfold vlV;rw[if_pos he]
  have h4:=cnV_len h.few he;rw[hvl];rw[he]at c1 ⊢
  rcases cn_ok he with⟨hk,ho⟩ | ⟨hk,ho⟩ | ⟨hk,ho⟩ | ⟨hk,ho⟩
  case inr.inl =>
   have c2:=violC_u t c.cfd f g false false h hc.l hc.p hv ho
   have hcv:cnV t c=cfdV c.cfd t.rows:=by unfold cnV;rw[if_neg (by omega),if_pos hk]
   have htv:trV t c = .nilS:=by unfold trV;rw[if_pos he,if_neg (by omega),if_neg (by omega)]
   rw[htv]at c1;rw[hcv];simp only[aF,LS,LR,cE,L1,LCl,LA,gT]at c1 c2;refine sPx Tryz.func79 rfl rfl ?_;simp -dsimp[Tryz.f79,ou,aF,LS,LR,cE,L1,LCl,LA];refine cPx (c1) (by simp) ?_;simp -dsimp[hk];refine cPx (c2) (by simp) ?_;simp -dsimp[]
  case inr.inr.inl =>
   have c2:=violO_u t c.od f g false false h hc.ol hc.or hv ho
   have hcv:cnV t c=prL (odP c.od) t.rows:=by unfold cnV;rw[if_neg (by omega),if_neg (by omega),if_pos hk]
   have htv:trV t c = .nilS:=by unfold trV;rw[if_pos he,if_neg (by omega),if_neg (by omega)]
   rw[htv]at c1;rw[hcv];simp only[aF,LS,LR,cE,L1,LCl,LA,iV]at c1 c2;refine sPx Tryz.func79 rfl rfl ?_;simp -dsimp[Tryz.f79,ou,aF,LS,LR,cE,L1,LCl,LA];refine cPx (c1) (by simp) ?_;simp -dsimp[hk];refine cPx (c2) (by simp) ?_;simp -dsimp[]
  all_goals
   have hD:=den_list ct hc he (by first | exact .inl ⟨hk,ho⟩ | exact .inr ⟨hk,ho⟩);obtain⟨fl,D,htv,hcv,hDl,hDk⟩:=hD
   have hk4:¬c.kind=4:=by omega
   have hk5:¬c.kind=5:=by omega
   rw[htv]at c1;obtain⟨E,hE⟩:∃E,E=cnV t c:=⟨_,rfl⟩;rw[←hE]at hcv h4 ⊢;clear ho hk hvl htv he hE;have htB:B.cells [.str t.name,.lst 1 f (t.attrs.map V.str),.lst 2 g (t.rows.map aT)]=tcB t f g:=rfl
   have htr:∀n,rbB n (tcB t f g):=fun n=>iK n t f g
   have hrb:∀o:List (List Int),∀bl∈[tcB t f g,B.cells (iJ c),B.buf 34 1 (o.map (L1 false)) false],rbB 3 bl:=fun o bl hbl=>by
    simp only[pD,pA,or_false]at hbl
    rcases hbl with rfl | rfl | rfl
    ·exact htr _
    ·exact oO _ _
    ·exact LF_rb _ _ _
   simp only[aF,LS,LR,cE,L1,LCl,LA]at c1;refine sPx Tryz.func79 rfl rfl ?_;simp -dsimp[Tryz.f79,ou,aF,LS,LR,cE,L1,LCl,LA,hk4,hk5];refine cPx (c1) (by simp) ?_;simp -dsimp[hk4,hk5];refine aR (iR 34 1 [8] (by simp) (W_loopM 62 0x3fffe00000001d30 (by simp[mB]<;>rfl) (σ:=Nat×List (List Int)) (fun p=>p.2++(D.drop p.1).flatMap (denF t)=E) (fun p=>D.length-p.1) (fun p=>[(45,.int .i64 p.1),(8,.buf 2 0 p.2.length p.2.length)]) (fun p=>[tcB t f g,B.cells (iJ c),B.buf 34 1 (p.2.map (L1 false)) false]) (0,[]) (by rw[hcv];rfl) (by simp) (by simp[tcB,iJ]) (by simp) ?_));rintro⟨i,out⟩ hx N Q hN hQ;simp only at hx;by_cases hb:i<D.length
   ·rw[flat_drop hb]at hx;obtain⟨q1,q2,q3⟩:=hDk _ (ow hb);obtain⟨d,hde⟩:∃d,d=D[i]:=⟨_,rfl⟩;rw[←hde]at hx q1 q2 q3;have c2:=violD_u t d f g false h q2 q3 hv q1;rw[show gy (jL d t.rows d.vars.toNat [] [])=denF t d from rfl]at c2;obtain⟨w,hw⟩:∃w,w=denF t d:=⟨_,rfl⟩;rw[←hw]at c2 hx
    have hol:out.length+w.length≤4000:=by rw[←hx]at h4;simp only[pK]at h4;omega
    simp only[aF,LS,LR,gn,LA,LL]at c2;by_cases hw0:w=[]
    ·subst hw0;refine wx ?_;simp -dsimp[hb,hde.symm,gn,LA,tcB];refine cPx (c2) (by simp) ?_;simp -dsimp[aa i (by omega)];refine hN (i+1,out) _ _ (by simpa using hx) (by simp only;omega) (by simp) ⟨[B.cells [.int .i64 d.vars,.lst 11 false (d.atoms.map du)]],by simp[tcB]⟩ (by simp) (hrb _)
    ·refine wx ?_;simp -dsimp[hb,hde.symm,gn,LA,tcB];refine cPx (c2) (by simp) ?_;simp -dsimp[hw0,capV out.length w.length (by omega),aa i (by omega)];refine hN (i+1,out++w) _ _ (by rw[←hx];simp) (by simp only;omega) (by simp) ⟨[B.cells [.int .i64 d.vars,.lst 11 false (d.atoms.map du)]],by simp[tcB]⟩ (by simp) (hrb _)
   ·rw[pF (by omega),List.flatMap_nil,pL]at hx;subst hx;refine gY 2 [8] rfl (by simp) ?_;refine wx ?_;simp -dsimp[hb];refine hQ _ _ _ ?_;simp -dsimp[LL]
    skip
 ·have hvl:vlV t c = .nilS:=by unfold vlV;rw[if_neg he]
  have htv:trV t c = .nilS:=by unfold trV;rw[if_neg he]
  rw[htv]at c1;rw[hvl];obtain⟨e,hee⟩:∃e,e=eg t c:=⟨_,rfl⟩;rw[←hee]at c1 he ⊢;simp only[aF,LS,LR,cE,L1,LCl,LA]at c1;refine sPx Tryz.func79 rfl rfl ?_;simp -dsimp[Tryz.f79,ou,aF,LS,LR,cE,L1,LCl,LA];refine cPx (c1) (by simp) ?_;simp -dsimp[he]
end
end Go.Proofs.YtjogkbekekdkjaaGreatDoor
section
namespace Go.Proofs.YtjogkbekekdkjaaGreatDoor
open Go Go.AM
end Go.Proofs.YtjogkbekekdkjaaGreatDoor
end
