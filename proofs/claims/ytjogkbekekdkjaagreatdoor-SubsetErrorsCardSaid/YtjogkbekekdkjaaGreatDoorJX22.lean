/- JX22: own texts of this seat, joined and shortened by pack4.py: BT, BW, RT, BR. -/
import Derived.Test.YtjogkbekekdkjaaGreatDoorJX20
import Derived.Test.YtjogkbekekdkjaaGreatDoorJX21
set_option linter.unusedVariables false
set_option linter.unusedSimpArgs false
set_option maxRecDepth 100000
set_option maxHeartbeats 64000000
open Bool renaming false_and→rZ,true_and→re,and_false→sv
open ByteArray renaming empty→rY
open List renaming replicate→rO,drop_eq_getElem_cons→rP,getElem_mem→rQ,drop_of_length_le→rR,not_mem_nil→rS,mem_cons→rU,take_succ_eq_append_getElem→rV,length_append→ri,append_nil→rj,drop_zero→rk,take_of_length_le→rt,nil_append→rx,length_filter_le→rz,mem_singleton→sC,all_eq_true→sH,length_map→sK,all_cons→sZ,filter_cons_of_pos→sq,filter_cons_of_neg→sr,filter_append→tW,flatMap_cons→tp,flatMap_nil→uu
open Nat renaming le_trans→sF,lt_of_lt_of_le→sI,pow_le_pow_right→sd,lt_or_ge→sy,add_assoc→tJ,testBit_lt_two_pow→te,or_lt_two_pow→uU,testBit_and→vC
namespace Go.Proofs.YtjogkbekekdkjaaGreatDoor
section
open Go Go.AM
structure CnB (c:Cn):Prop where
 l:c.cfd.l.length≤1000000
 p:c.cfd.p.length≤1000000
 ol:c.od.l.length≤1000000
 or:c.od.r.length≤1000000
 at_:c.dn.atoms.length≤1000000
 fd:c.fd.l<4294967296∧c.fd.r<4294967296
 sz:DnS c.dn
def trV(t:Tb)(c:Cn):V :=
 if ac t c=0 then(if c.kind=1 then LDn false ((lL c.fd.l c.fd.r).map (gC (jN c.fd.l))) else if c.kind=6 then .lst 2 true [aq false c.dn] else .nilS) else .nilS
theorem trV_pure(t:Tb)(c:Cn):AM.Pure (trV t c):=by
 unfold trV;split
 ·split
  ·exact LDn_pure _ _
  ·split
   ·exact .lst _ _ _ (by simp)
   ·exact .nilS
 ·exact .nilS
theorem lh(t:Tb)(c:Cn)(f g:Bool)(hn:t.attrs.length≤16)(hc:CnB c):aL Tryz.prog 78 [aD f g t,af c] fun r=>r = .tup [trV t c,.int .i64 (ac t c)]:=by
 have hv:∀e,ac t c=e→e≠0→trV t c = .nilS:=fun e h1 h2=>by unfold trV;rw[if_neg (by rw[h1];exact h2)]
 cases hnm:(c.table.toList == t.name.toList) with
 | false =>
  have he:ac t c=1:=by unfold ac;rw[hnm];rfl
  rw[he,hv 1 he (by decide)];refine sPx Tryz.func78 rfl rfl ?_;simp -dsimp[Tryz.f78,rO,aD,LS,LR,af,L1,LCl,LA,hnm]
 | true =>
  by_cases hlo:c.kind<1
  ·have he:ac t c=1:=by unfold ac;rw[hnm,decide_eq_false (show ¬1≤c.kind by omega)];rfl
   rw[he,hv 1 he (by decide)];refine sPx Tryz.func78 rfl rfl ?_;simp -dsimp[Tryz.f78,rO,aD,LS,LR,af,L1,LCl,LA,hnm,hlo]
  by_cases hhi:6<c.kind
  ·have he:ac t c=1:=by unfold ac;rw[hnm,decide_eq_false (show ¬c.kind≤6 by omega),sv];rfl
   rw[he,hv 1 he (by decide)];refine sPx Tryz.func78 rfl rfl ?_;simp -dsimp[Tryz.f78,rO,aD,LS,LR,af,L1,LCl,LA,hnm,hlo,hhi]
  have hc0:ac t c=if c.kind=2∨c.kind=3 then 14 else if c.kind=1 then(if eF t.attrs.length c.fd=true then 0 else 1) else
    if c.kind=4 then(if cfB t.attrs.length c.cfd=true then 0 else 1) else if c.kind=5 then(if odB t.attrs.length c.od=true then 0 else 1) else(if dnB t.attrs.length c.dn=true then 0 else 1):=by
   unfold ac;rw[hnm,decide_eq_true (show 1≤c.kind by omega),decide_eq_true (show c.kind≤6 by omega)];rfl
  have hc6:c.kind=1∨c.kind=2∨c.kind=3∨c.kind=4∨c.kind=5∨c.kind=6:=by omega
  rcases hc6 with hk | hk | hk | hk | hk | hk
  ·have h1:=or32 c.fd.l c.fd.r hc.fd.1 hc.fd.2;have h2:=shr32 (c.fd.l ||| c.fd.r) t.attrs.length hn
   obtain⟨o,hoe⟩:∃o,o=c.fd.l ||| c.fd.r:=⟨_,rfl⟩
   rw[←hoe]at h1 h2
   cases ho:eF t.attrs.length c.fd with
   | false =>
    have he:ac t c=1:=by rw[hc0,hk,ho];rfl
    have h3:¬((o / 2^t.attrs.length:Nat):Int)=0:=by
     unfold eF at ho;rw[decide_eq_false_iff_not,←hoe]at ho;omega
    obtain⟨q,hq⟩:∃q,q=o / 2^t.attrs.length:=⟨_,rfl⟩;rw[←hq]at h2 h3;rw[he,hv 1 he (by decide)];refine sPx Tryz.func78 rfl rfl ?_;simp -dsimp[Tryz.f78,rO,aD,LS,LR,af,L1,LCl,LA,hnm,hk,h1,h2,h3,show ¬q=0 by omega]
   | true =>
    have he:ac t c=0:=by rw[hc0,hk,ho];rfl
    have htv:trV t c=LDn false ((lL c.fd.l c.fd.r).map (gC (jN c.fd.l))):=by unfold trV;rw[if_pos he,if_pos hk]
    have cf:=fromFD t.attrs.length c.fd hn ho;unfold eF at ho;rw[decide_eq_true_eq,←hoe]at ho;rw[ho]at h2;rw[he,htv];simp only[gH]at cf;refine sPx Tryz.func78 rfl rfl ?_;simp -dsimp[Tryz.f78,rO,aD,LS,LR,af,L1,LCl,LA,hnm,hk,h1,h2];refine cPx (cf) (by simp) ?_;simp -dsimp[]
  ·have he:ac t c=14:=by rw[hc0,hk];rfl
   rw[he,hv 14 he (by decide)];refine sPx Tryz.func78 rfl rfl ?_;simp -dsimp[Tryz.f78,rO,aD,LS,LR,af,L1,LCl,LA,hnm,hk]
  ·have he:ac t c=14:=by rw[hc0,hk];rfl
   rw[he,hv 14 he (by decide)];refine sPx Tryz.func78 rfl rfl ?_;simp -dsimp[Tryz.f78,rO,aD,LS,LR,af,L1,LCl,LA,hnm,hk]
  ·have cv:=validC_u t.attrs.length c.cfd false false hn hc.l hc.p;simp only[ah,L1,LCl]at cv
   cases ho:cfB t.attrs.length c.cfd with
   | false =>
    have he:ac t c=1:=by rw[hc0,hk,ho];rfl
    rw[ho]at cv;rw[he,hv 1 he (by decide)];refine sPx Tryz.func78 rfl rfl ?_;simp -dsimp[Tryz.f78,rO,aD,LS,LR,af,L1,LCl,LA,hnm,hk];refine cPx (cv) (by simp) ?_;simp -dsimp[]
   | true =>
    have he:ac t c=0:=by rw[hc0,hk,ho];rfl
    have htv:trV t c = .nilS:=by unfold trV;rw[if_pos he,if_neg (by omega),if_neg (by omega)]
    rw[ho]at cv;rw[he,htv];refine sPx Tryz.func78 rfl rfl ?_;simp -dsimp[Tryz.f78,rO,aD,LS,LR,af,L1,LCl,LA,hnm,hk];refine cPx (cv) (by simp) ?_;simp -dsimp[]
  ·have cv:=validO_u t.attrs.length c.od false false hc.ol hc.or;simp only[bM,L1]at cv
   cases ho:odB t.attrs.length c.od with
   | false =>
    have he:ac t c=1:=by rw[hc0,hk,ho];rfl
    rw[ho]at cv;rw[he,hv 1 he (by decide)];refine sPx Tryz.func78 rfl rfl ?_;simp -dsimp[Tryz.f78,rO,aD,LS,LR,af,L1,LCl,LA,hnm,hk];refine cPx (cv) (by simp) ?_;simp -dsimp[]
   | true =>
    have he:ac t c=0:=by rw[hc0,hk,ho];rfl
    have htv:trV t c = .nilS:=by unfold trV;rw[if_pos he,if_neg (by omega),if_neg (by omega)]
    rw[ho]at cv;rw[he,htv];refine sPx Tryz.func78 rfl rfl ?_;simp -dsimp[Tryz.f78,rO,aD,LS,LR,af,L1,LCl,LA,hnm,hk];refine cPx (cv) (by simp) ?_;simp -dsimp[]
  ·have cv:=validD_u t.attrs.length c.dn false hc.at_;simp only[aq,LA]at cv
   cases ho:dnB t.attrs.length c.dn with
   | false =>
    have he:ac t c=1:=by rw[hc0,hk,ho];rfl
    rw[ho]at cv;rw[he,hv 1 he (by decide)];refine sPx Tryz.func78 rfl rfl ?_;simp -dsimp[Tryz.f78,rO,aD,LS,LR,af,L1,LCl,LA,hnm,hk];refine cPx (cv) (by simp) ?_;simp -dsimp[]
   | true =>
    have he:ac t c=0:=by rw[hc0,hk,ho];rfl
    have htv:trV t c = .lst 2 true [aq false c.dn]:=by unfold trV;rw[if_pos he,if_neg (by omega),if_pos hk]
    rw[ho]at cv;rw[he,htv];refine sPx Tryz.func78 rfl rfl ?_;simp -dsimp[Tryz.f78,rO,aD,LS,LR,af,L1,LCl,LA,hnm,hk];refine cPx (cv) (by simp) ?_;simp -dsimp[aq,LA]
theorem qp{n s:Nat}(h:s<2^n):∀m,dR (n+m) s=dR n s
 | 0=>rfl
 | m+1=>by
  rw[←tJ,jC,qp h m,te (sI h (sd (by omega) (by omega)))];simp
theorem fdDn_ok{n l r b:Nat}(hn:n≤16)(hl:l<2^n)(hr:r<2^n)(hb:b∈lL l r):dnB n (gC (jN l) b)=true∧DnS (gC (jN l) b)∧(gC (jN l) b).atoms.length≤20:=by
 have hL:jN l=dR n l:=by have:=qp hl (32-n);rw[show n+(32-n)=32 by omega]at this;exact this
 have hlen:(jN l).length≤16:=by rw[hL];exact sF (fX n l) hn
 have hbn:b<n:=by
  unfold lL at hb;have h1:=(List.mem_filter.1 hb).1;have:=qp hr (32-n);rw[show n+(32-n)=32 by omega]at this;rw[this]at h1;exact(kh.1 h1).1
 have hat:(gC (jN l) b).atoms.length≤20:=by simp[gC];omega
 have htm:∀(v:Int) (a:Nat),v=1∨v=2→a<n→tmB n 2 ⟨v,(a:Int),zV⟩=true:=fun v a hv ha=>by
  unfold tmB
  have hz:kp zV=true:=by kernel_rfl
  rw[if_neg (by show ¬v=0;omega)];show(decide (1≤v)&&(decide (v≤2)&&(decide (0≤(a:Int))&&(decide ((a:Int)<n)&&kp zV))))=true;rw[hz,decide_eq_true (show 1≤v by omega),decide_eq_true (show v≤2 by omega),decide_eq_true (show 0≤(a:Int) by omega),decide_eq_true (show(a:Int)<n by omega)];rfl
 have hab:∀(op:Int) (a:Nat),op=1∨op=2→a<n→atB n 2 (dZ op a)=true:=fun op a ho ha=>by
  unfold atB dZ;simp only[htm 1 a (.inl rfl) ha,htm 2 a (.inr rfl) ha];simp;omega
 refine⟨?_,fun a ha=>?_,hat⟩
 ·unfold dnB;rw[decide_eq_true (show 1≤(gC (jN l) b).vars from by show(1:Int)≤2;omega),decide_eq_true (show(gC (jN l) b).vars≤3 from by show(2:Int)≤3;omega),decide_eq_true hat,re,re,re,sH];intro a ha;unfold gC at ha
  rcases List.mem_append.1 ha with h | h
  ·obtain⟨k,hk,rfl⟩:=List.mem_map.1 h;rw[hL]at hk;exact hab 1 k (.inl rfl) (kh.1 hk).1
  ·rw[sC]at h;subst h;exact hab 2 b (.inr rfl) hbn
 ·unfold gC at ha
  have hz:zV.s.size≤maxLen:=by decide
  rcases List.mem_append.1 ha with h | h
  ·obtain⟨k,hk,rfl⟩:=List.mem_map.1 h;exact⟨hz,hz⟩
  ·rw[sC]at h;subst h;exact⟨hz,hz⟩
def vlV(t:Tb)(c:Cn):V:=if ac t c=0 then LL false (cnV t c) else .nilS
def dG(c:Cn):List V:=[.str c.name,.str c.table,.int .i64 c.kind,.int .u32 (c.fd.l:Int),.int .u32 (c.fd.r:Int),.int .u32 c.m1,.int .u32 c.m2,.str c.i1,.lst 1 false (c.i2.map aE),.str c.i3,.lst 1 false (c.i4.map aE),.lst 1 false (c.cfd.l.map aE),.int .i64 c.cfd.r,.lst 4 false (c.cfd.p.map ao),.lst 1 false (c.od.l.map aE),.lst 1 false (c.od.r.map aE),.int .i64 c.dn.vars,.lst 11 false (c.dn.atoms.map ar)]
theorem qf(n:Nat)(c:Cn):rbB n (.cells (dG c)):=fun x hx=>by
 unfold dG at hx;simp only[rU,rS,or_false]at hx
 rcases hx with rfl | rfl | rfl | rfl | rfl | rfl | rfl | rfl | rfl | rfl | rfl | rfl | rfl | rfl | rfl | rfl | rfl | rfl<;>simp[rb,rb1]
def denF(t:Tb)(d:Dn):List (List Int):=cD (gL d t.rows d.vars.toNat [] [])
theorem den_list{t:Tb}{c:Cn}(ct:TbC t)(hc:CnB c)(he:ac t c=0)(hq:(c.kind=1∧eF t.attrs.length c.fd=true)∨(c.kind=6∧dnB t.attrs.length c.dn=true)):
  ∃(fl:Bool) (D:List Dn),trV t c = .lst 2 fl (D.map (aq false))∧cnV t c=D.flatMap (denF t)∧D.length≤1000∧(∀d∈D,dnB t.attrs.length d=true∧DnS d∧d.atoms.length≤1000000):=by
 rcases hq with⟨hk,ho⟩ | ⟨hk,ho⟩
 ·have hl:(lL c.fd.l c.fd.r).length≤32:=sF (rz _ _) (fX 32 _);refine⟨false,(lL c.fd.l c.fd.r).map (gC (jN c.fd.l)),?_,?_,by rw[sK];omega,fun d hd=>?_⟩
  ·unfold trV;rw[if_pos he,if_pos hk];rfl
  ·unfold cnV fdV;rw[if_pos hk,List.flatMap_map];rfl
  ·obtain⟨b,hb,rfl⟩:=List.mem_map.1 hd;obtain⟨q1,q2,q3⟩:=fdDn_ok ct.wide (fd_lt ho).1 (fd_lt ho).2 hb;exact⟨q1,q2,by omega⟩
 ·refine⟨true,[c.dn],?_,?_,by simp,fun d hd=>?_⟩
  ·unfold trV;rw[if_pos he,if_neg (by omega),if_pos hk];rfl
  ·unfold cnV;rw[if_neg (by omega),if_neg (by omega),if_neg (by omega)];simp[denF]
  ·rw[sC]at hd;subst hd;exact⟨ho,hc.sz,hc.at_⟩
theorem flat_drop{α:Type}{F:α→List (List Int)}{D:List α}{i:Nat}(h:i<D.length):(D.drop i).flatMap F=F D[i]++(D.drop (i+1)).flatMap F:=by
 rw[rP h,tp]
theorem capV(n m:Nat)(h:n+m≤1000000000):n+m≤9223372036854775807∧(n+m)*24≤140737488355328:=by omega
theorem violations_u(t:Tb)(c:Cn)(f g:Bool)(h:TbS t)(hv:aZ t=0)(hc:CnB c):aL Tryz.prog 79 [aD f g t,af c] fun r=>r = .tup [vlV t c,.int .i64 (ac t c)]:=by
 have ct:=tbC hv;have c1:=lh t c f g ct.wide hc;by_cases he:ac t c=0
 ·have hvl:vlV t c=LL false (cnV t c):=by unfold vlV;rw[if_pos he]
  have h4:=cnV_len h.few he;rw[hvl];rw[he]at c1 ⊢
  rcases cn_ok he with⟨hk,ho⟩ | ⟨hk,ho⟩ | ⟨hk,ho⟩ | ⟨hk,ho⟩
  case inr.inl =>
   have c2:=violC_u t c.cfd f g false false h hc.l hc.p hv ho
   have hcv:cnV t c=ng c.cfd t.rows:=by unfold cnV;rw[if_neg (by omega),if_pos hk]
   have htv:trV t c = .nilS:=by unfold trV;rw[if_pos he,if_neg (by omega),if_neg (by omega)]
   rw[htv]at c1;rw[hcv];simp only[aD,LS,LR,af,L1,LCl,LA,ah]at c1 c2;refine sPx Tryz.func79 rfl rfl ?_;simp -dsimp[Tryz.f79,rO,aD,LS,LR,af,L1,LCl,LA];refine cPx (c1) (by simp) ?_;simp -dsimp[hk];refine cPx (c2) (by simp) ?_;simp -dsimp[]
  case inr.inr.inl =>
   have c2:=violO_u t c.od f g false false h hc.ol hc.or hv ho
   have hcv:cnV t c=prL (odP c.od) t.rows:=by unfold cnV;rw[if_neg (by omega),if_neg (by omega),if_pos hk]
   have htv:trV t c = .nilS:=by unfold trV;rw[if_pos he,if_neg (by omega),if_neg (by omega)]
   rw[htv]at c1;rw[hcv];simp only[aD,LS,LR,af,L1,LCl,LA,bM]at c1 c2;refine sPx Tryz.func79 rfl rfl ?_;simp -dsimp[Tryz.f79,rO,aD,LS,LR,af,L1,LCl,LA];refine cPx (c1) (by simp) ?_;simp -dsimp[hk];refine cPx (c2) (by simp) ?_;simp -dsimp[]
  all_goals
   have hD:=den_list ct hc he (by first | exact .inl ⟨hk,ho⟩ | exact .inr ⟨hk,ho⟩);obtain⟨fl,D,htv,hcv,hDl,hDk⟩:=hD
   have hk4:¬c.kind=4:=by omega
   have hk5:¬c.kind=5:=by omega
   rw[htv]at c1;obtain⟨E,hE⟩:∃E,E=cnV t c:=⟨_,rfl⟩;rw[←hE]at hcv h4 ⊢;clear ho hk hvl htv he hE;have htB:B.cells [.str t.name,.lst 1 f (t.attrs.map V.str),.lst 2 g (t.rows.map aI)]=tcB t f g:=rfl
   have htr:∀n,rbB n (tcB t f g):=fun n=>bS n t f g
   have hrb:∀o:List (List Int),∀bl∈[tcB t f g,B.cells (dG c),B.buf 34 1 (o.map (L1 false)) false],rbB 3 bl:=fun o bl hbl=>by
    simp only[rU,rS,or_false]at hbl
    rcases hbl with rfl | rfl | rfl
    ·exact htr _
    ·exact qf _ _
    ·exact oH _ _ _
   simp only[aD,LS,LR,af,L1,LCl,LA]at c1;refine sPx Tryz.func79 rfl rfl ?_;simp -dsimp[Tryz.f79,rO,aD,LS,LR,af,L1,LCl,LA,hk4,hk5];refine cPx (c1) (by simp) ?_;simp -dsimp[hk4,hk5];refine aG (bf 34 1 [8] (by simp) (W_loopM 62 0x3fffe00000001d30 (by simp[mB]<;>rfl) (σ:=Nat×List (List Int)) (fun p=>p.2++(D.drop p.1).flatMap (denF t)=E) (fun p=>D.length-p.1) (fun p=>[(45,.int .i64 p.1),(8,.buf 2 0 p.2.length p.2.length)]) (fun p=>[tcB t f g,B.cells (dG c),B.buf 34 1 (p.2.map (L1 false)) false]) (0,[]) (by rw[hcv];rfl) (by simp) (by simp[tcB,dG]) (by simp) ?_));rintro⟨i,out⟩ hx N Q hN hQ;simp only at hx;by_cases hb:i<D.length
   ·rw[flat_drop hb]at hx;obtain⟨q1,q2,q3⟩:=hDk _ (rQ hb);obtain⟨d,hde⟩:∃d,d=D[i]:=⟨_,rfl⟩;rw[←hde]at hx q1 q2 q3;have c2:=violD_u t d f g false h q2 q3 hv q1;rw[show cD (gL d t.rows d.vars.toNat [] [])=denF t d from rfl]at c2;obtain⟨w,hw⟩:∃w,w=denF t d:=⟨_,rfl⟩;rw[←hw]at c2 hx
    have hol:out.length+w.length≤4000:=by rw[←hx]at h4;simp only[ri]at h4;omega
    simp only[aD,LS,LR,aq,LA,LL]at c2;by_cases hw0:w=[]
    ·subst hw0;refine wx ?_;simp -dsimp[hb,hde.symm,aq,LA,tcB];refine cPx (c2) (by simp) ?_;simp -dsimp[aH i (by omega)];refine hN (i+1,out) _ _ (by simpa using hx) (by simp only;omega) (by simp) ⟨[B.cells [.int .i64 d.vars,.lst 11 false (d.atoms.map ar)]],by simp[tcB]⟩ (by simp) (hrb _)
    ·refine wx ?_;simp -dsimp[hb,hde.symm,aq,LA,tcB];refine cPx (c2) (by simp) ?_;simp -dsimp[hw0,capV out.length w.length (by omega),aH i (by omega)];refine hN (i+1,out++w) _ _ (by rw[←hx];simp) (by simp only;omega) (by simp) ⟨[B.cells [.int .i64 d.vars,.lst 11 false (d.atoms.map ar)]],by simp[tcB]⟩ (by simp) (hrb _)
   ·rw[rR (by omega),uu,rj]at hx;subst hx;refine cy 2 [8] rfl (by simp) ?_;refine wx ?_;simp -dsimp[hb];refine hQ _ _ _ ?_;simp -dsimp[LL]
    skip
 ·have hvl:vlV t c = .nilS:=by unfold vlV;rw[if_neg he]
  have htv:trV t c = .nilS:=by unfold trV;rw[if_neg he]
  rw[htv]at c1;rw[hvl];obtain⟨e,hee⟩:∃e,e=ac t c:=⟨_,rfl⟩;rw[←hee]at c1 he ⊢;simp only[aD,LS,LR,af,L1,LCl,LA]at c1;refine sPx Tryz.func79 rfl rfl ?_;simp -dsimp[Tryz.f79,rO,aD,LS,LR,af,L1,LCl,LA];refine cPx (c1) (by simp) ?_;simp -dsimp[he]
theorem cns_rb(n e:Nat)(cs:List Cn)(fz:Bool):rbB n (.buf e 18 (cs.map af) fz):=by
 intro x hx;obtain⟨y,_,rfl⟩:=List.mem_map.1 hx;intro c hc;have:=qf n y c hc;simp only[af,L1,LCl,LA,V.cells]at hc;simp only[rU,rS,or_false]at hc
 rcases hc with rfl | rfl | rfl | rfl | rfl | rfl | rfl | rfl | rfl | rfl | rfl | rfl | rfl | rfl | rfl | rfl | rfl | rfl<;>simp[rb1]
theorem capCn2(n:Nat)(h:n≤100000000):n≤9223372036854775806∧(n+1)*272≤140737488355328:=by omega
def rlV(n:Nat)(rs:List Rul):V:=if rs.all ez=true then .tup [LCn false (rs.map (eW n)),.bool (decide (rs.length≤4))] else .tup [.nilS,.bool false]
theorem rules37(n:Nat)(rs:List Rul)(f:Bool)(hn:n≤16)(hl:rs.length≤2000000)(hr:∀r∈rs,RulOk r):aL Tryz.prog 37 [.int .i64 n,.lst 10 f (rs.map bd)] fun x=>x=rlV n rs:=by
 obtain⟨A,hA⟩:∃A,A=rs.map (eW n):=⟨_,rfl⟩
 have hAl:A.length=rs.length:=by rw[hA,sK]
 have hAi:∀i (h:i<rs.length),A.take (i+1)=A.take i++[eW n rs[i]]:=fun i h=>by
  rw[rV (by omega)];congr 2;simp[hA]
 obtain⟨E,hE⟩:∃E,E=rs.all ez:=⟨_,rfl⟩
 have hrl:rlV n rs=if E=true then .tup [LCn false A,.bool (decide (rs.length≤4))] else .tup [.nilS,.bool false]:=by rw[hE,hA];rfl
 rw[hrl]
 have hrb:∀(cs:List Cn),∀bl∈[B.buf 62 18 (cs.map af) false],rbB 1 bl:=fun cs bl hbl=>by
  simp only[sC]at hbl;subst hbl;exact cns_rb _ _ _ _
 refine sPx Tryz.func37 rfl rfl ?_;simp -dsimp[Tryz.f37,rO];refine aG (bf 62 18 [6] (by simp) (W_loopM 31 0x7ffffff0 (by simp[mB]<;>rfl) (σ:=Nat) (fun i=>i≤rs.length∧(rs.drop i).all ez=E) (fun i=>rs.length-i) (fun i=>[(7,.int .i64 i),(6,.buf 0 0 i i)]) (fun i=>[B.buf 62 18 ((A.take i).map af) false]) 0 ⟨by omega,by rw[hE,rk]⟩ (by simp) (by simp) (by simp) ?_));rintro i ⟨hi,hx⟩ N Q hN hQ
 have htl:(A.take i).length=i:=by simp;omega
 by_cases hb:i<rs.length
 ·have hst:=hAi i hb;rw[rP hb,sZ]at hx;have hk:=hr _ (rQ hb);obtain⟨r,hre⟩:∃r,r=rs[i]:=⟨_,rfl⟩;rw[←hre]at hst hx hk;have c1:=ruleOf37 n r hn hk;obtain⟨c,hc⟩:∃c,c=eW n r:=⟨_,rfl⟩;rw[←hc]at c1 hst;obtain⟨al,hal⟩:∃al,al=A.take i:=⟨_,rfl⟩;rw[←hal]at hst htl ⊢;simp only[bd,af,L1,LCl,LA]at c1
  cases hq:ez r with
  | true =>
   rw[hq]at c1;rw[hq,re]at hx;refine wx ?_;simp -dsimp[hb,hre.symm,bd];refine cPx (c1) (by simp) ?_;simp -dsimp[htl,capCn2 i (by omega),ai i (by omega),aH i (by omega)];refine hN (i+1) _ _ ⟨by omega,hx⟩ (by omega) (by simp) ⟨[B.cells (dG c)],by simp[hst,af,L1,LCl,LA,dG]⟩ (by simp) (hrb _)
  | false =>
   rw[hq]at c1;rw[hq,rZ]at hx;refine wx ?_;simp -dsimp[hb,hre.symm,bd];refine cPx (c1) (by simp) ?_;simp -dsimp[];refine hQ _ _ _ ?_;simp -dsimp[];rw[←hx];simp
 ·obtain rfl:i=rs.length:=by omega
  rw[rR (by omega)]at hx;rw[rt (by omega)];refine cy 0 [6] rfl (by simp[hAl]) ?_
  have h4:((rs.length:Int)≤4)↔rs.length≤4:=by omega
  refine wx ?_;simp -dsimp[hb];refine hQ _ _ _ ?_;simp -dsimp[h4,LCn];rw[←hx];simp
theorem kR_succ{K:List Int}{R:List Rw}{i:Nat}(h:i<R.length):kR K (R.take (i+1))=if bj K R[i].id=true then kR K (R.take i)++[R[i]] else kR K (R.take i):=by
 unfold kR;rw[rV h,tW];by_cases hm:bj K R[i].id=true
 ·rw[if_pos hm,sq (p:=fun r:Rw=>bj K r.id) hm];rfl
 ·rw[if_neg hm,sr (p:=fun r:Rw=>bj K r.id) hm];simp
theorem keep03(t:Tb)(K:List Int)(f g fk:Bool)(ha:t.attrs.length≤1000000)(hr:t.rows.length≤1000000)(hv:∀r∈t.rows,r.vals.length≤1000000)(hK:K.length≤1000000):aL Tryz.prog 27 [aD f g t,L1 fk K] fun r=>r=aD false false (kT K t):=by
 have htB:B.cells [.str t.name,.lst 1 f (t.attrs.map V.str),.lst 2 g (t.rows.map aI)]=tcB t f g:=rfl
 have htr:∀n,rbB n (tcB t f g):=fun n=>bS n t f g
 obtain⟨R,hR⟩:∃R,R=t.rows:=⟨_,rfl⟩
 have hkl:∀i,(kR K (R.take i)).length≤i:=fun i=>by
  unfold kR;exact sF (rz _ _) (by simp;omega)
 have cw:=with03 t (kR K R) f g false ha (by unfold kR;exact sF (rz _ _) (by rw[hR];exact hr)) (fun r h=>hv r (by rw[←hR];exact(fC.1 h).1))
 have hkt:(⟨t.name,t.attrs,kR K R⟩:Tb)=kT K t:=by rw[hR];rfl
 rw[hkt]at cw;obtain⟨kt,hkte⟩:∃kt,kt=kT K t:=⟨_,rfl⟩;rw[←hkte]at cw ⊢
 have htB2:tcB t f g=B.cells [.str t.name,.lst 1 f (t.attrs.map V.str),.lst 2 g (R.map aI)]:=by rw[hR];rfl
 rw[←hR]at hr
 have hrb:∀rs:List Rw,∀bl∈[tcB t f g,B.cells [.str rY,.nilS,.nilS],B.buf 80 2 (rs.map aI) false],rbB 3 bl:=fun rs bl hbl=>by
  simp only[rU,rS,or_false]at hbl
  rcases hbl with rfl | rfl | rfl
  ·exact htr _
  ·intro c hc;simp only[rU,rS,or_false]at hc;rcases hc with rfl | rfl | rfl<;>simp[rb,rb1]
  ·exact rows_rb2 _ _ _ _
 simp only[aD,LS,LR]at cw;rw[←hR]at cw;refine sPx Tryz.func27 rfl rfl ?_;simp -dsimp[Tryz.f27,rO,aD,LS,LR,L1];refine aG (bf 80 2 [5] (by simp) (W_loopM 30 0x3fffffe0 (by simp[mB]<;>rfl) (σ:=Nat×List Rw) (fun p=>p.1≤R.length∧p.2=kR K (R.take p.1)) (fun p=>R.length-p.1) (fun p=>[(6,.int .i64 p.1),(5,.buf 2 0 p.2.length p.2.length)]) (fun p=>[tcB t f g,B.cells [.str rY,.nilS,.nilS],B.buf 80 2 (p.2.map aI) false]) (0,[]) ⟨by omega,rfl⟩ (by simp) (by simp[tcB]) (by simp) ?_));rintro⟨i,out⟩ ⟨hi,hx⟩ N Q hN hQ;simp only at hi hx
 have hol:out.length≤i:=by rw[hx];exact hkl i
 by_cases hb:i<R.length
 ·have hsu:=kR_succ (K:=K) hb;obtain⟨r,hre⟩:∃r,r=R[i]:=⟨_,rfl⟩;rw[←hre,←hx]at hsu;have ch:=has03 K r.id fk hK;simp only[L1]at ch
  cases hm:bj K r.id with
  | false =>
   rw[hm]at ch;rw[if_neg (by simp[hm])]at hsu;refine wx ?_;simp -dsimp[htB2,hb,hre.symm,aI,LV];refine cPx (ch) (by simp) ?_;simp -dsimp[aH i (by omega)];refine hN (i+1,out) _ _ ⟨by simp only;omega,hsu.symm⟩ (by simp only;omega) (by simp) ⟨[],by simp[htB2]⟩ (by simp) (hrb _)
  | true =>
   rw[hm]at ch;rw[if_pos hm]at hsu;refine wx ?_;simp -dsimp[htB2,hb,hre.symm,aI,LV];refine cPx (ch) (by simp) ?_;simp -dsimp[hb,hre.symm,aI,LV,ql out.length (by omega),ai out.length (by omega),aH i (by omega)];refine hN (i+1,out++[r]) _ _ ⟨by simp only;omega,hsu.symm⟩ (by simp only;omega) (by simp) ⟨[],by simp[htB2,aI,LV]⟩ (by simp) (hrb _)
 ·obtain rfl:i=R.length:=by omega
  rw[rt (by omega)]at hx;subst hx;refine cy 2 [5] rfl (by simp) ?_;refine wx ?_;simp -dsimp[htB2,hb];refine hQ _ _ _ ?_;simp -dsimp[];refine cPx (cw) (by simp) ?_;simp -dsimp[aD,LS,LR]
theorem sub_full(x n:Nat):decide (x &&& dj n=x)=decide (x / 2^n=0):=by
 refine decide_eq_decide.2 ⟨fun h=>?_,fun h=>?_⟩
 ·refine Nat.div_eq_of_lt ?_
  refine Nat.lt_pow_two_of_testBit x fun i hi=>?_
  rw[←h,vC,nT];simp;omega
 ·have hx:x<2^n:=by
   have hp:0<2^n:=Nat.two_pow_pos n
   rcases sy x (2^n) with h1 | h1
   ·exact h1
   ·have:=Nat.div_pos h1 hp;omega
  refine Nat.eq_of_testBit_eq fun i=>?_
  rw[vC,nT];by_cases hi:i<n
  ·simp[hi]
  ·have:x.testBit i=false:=te (sI hx (sd (by omega) (by omega)));simp[this]
theorem pairs37(t:Tb)(d:Fd)(f g:Bool)(h:TbS t)(hv:aZ t=0)(hd:d.l<4294967296∧d.r<4294967296)(ho:eF t.attrs.length d=true):aL Tryz.prog 143 [aD f g t,gH d] fun r=>r = .tup [LL false (prL (fdP d.l d.r) t.rows),.int .i64 0]:=by
 refine mn ?_;have ct:=tbC hv;have hn:=ct.wide;have h1:=or32 d.l d.r hd.1 hd.2;have c1:=full02 t.attrs.length (by omega)
 have hol:d.l ||| d.r<4294967296:=uU (n:=32) hd.1 hd.2
 have c2:=sub02 (d.l ||| d.r) (dj t.attrs.length) hol (jk _ (by omega));rw[sub_full]at c2;unfold eF at ho;rw[ho]at c2
 obtain⟨o,hoe⟩:∃o,o=d.l ||| d.r:=⟨_,rfl⟩
 rw[←hoe]at h1 c2;obtain⟨R,hR⟩:∃R,R=t.rows:=⟨_,rfl⟩;obtain⟨E,hE⟩:∃E,E=prL (fdP d.l d.r) R:=⟨_,rfl⟩
 have hR8:R.length≤8:=by rw[hR];exact h.few
 have hE64:E.length≤64:=by rw[hE];exact sF (fM R) (sq8 hR8)
 have hlen:∀r∈R,r.vals.length≤16:=by rw[hR];exact fun r hr=>by have:=ct.len r hr;omega
 have hsz:∀r∈R,∀v∈r.vals,v.s.size≤maxLen:=by rw[hR];exact h.sz
 rw[←hR,←hE]
 have hrb:∀o:List (List Int),∀bl∈[B.cells [.str t.name,.lst 1 f (t.attrs.map V.str),.lst 2 g (R.map aI)],B.cells [.int .u32 (d.l:Int),.int .u32 (d.r:Int)],B.buf 34 1 (o.map (L1 true)) false],rbB 3 bl:=fun o bl hbl=>by
  simp only[rU,rS,or_false]at hbl
  rcases hbl with rfl | rfl | rfl
  ·intro c hc;simp at hc;rcases hc with rfl | rfl | rfl<;>simp[rb,rb1]
  ·intro c hc;simp at hc;rcases hc with rfl | rfl<;>simp[rb,rb1]
  ·exact nA _ _ _
 refine ay (aF (tkf 34) Tryz.func143 rfl rfl ?_);refine W_x (tkf 34) mixed ?_;simp -dsimp[Tryz.f143,rO,aD,gH,LR,LS,hR.symm,h1,L1,aM];refine .inr ⟨aC (by kernel_rfl),?_⟩;refine aN _ (aK (c1) (by simp)) ?_;simp -dsimp[L1,aM];refine aN _ (aK (c2) (by simp)) ?_;simp -dsimp[L1,aM];refine aG (bf 34 1 [6] (by simp) (W_loopM 81 0x1fffffffffffffff001c0 (by simp[mB]<;>rfl) (σ:=Nat×List (List Int)) (fun p=>p.2++prL (fdP d.l d.r) (R.drop p.1)=E) (fun p=>R.length-p.1) (fun p=>[(7,.int .i64 p.1),(6,.buf 2 0 p.2.length p.2.length)]) (fun p=>[B.cells [.str t.name,.lst 1 f (t.attrs.map V.str),.lst 2 g (R.map aI)],B.cells [.int .u32 (d.l:Int),.int .u32 (d.r:Int)],B.buf 34 1 (p.2.map (L1 true)) false]) (0,[]) (by rw[hE];rfl) (by simp) (by simp) (by simp) ?_));rintro⟨i,out⟩ hx N Q hN hQ;simp only at hx;by_cases hb:i<R.length
 ·rw[ly hb]at hx;have hri:=hlen _ (rQ hb);have hsi:=hsz _ (rQ hb);obtain⟨r,hre⟩:∃r,r=R[i]:=⟨_,rfl⟩;rw[←hre]at hx hri hsi;refine W_x (tkf 34) mixed ?_;simp -dsimp[hb,aH i (by omega),L1,aM];refine aG (W_loopM 81 0x1ffffffffffffe0000140 (by simp[mB]<;>rfl) (σ:=Nat×List (List Int)) (fun p=>i<p.1∧p.2++((((R.drop p.1).filter (fdP d.l d.r r)).map fun s=>[r.id,s.id])++prL (fdP d.l d.r) (R.drop (i+1)))=E) (fun p=>R.length-p.1) (fun p=>[(8,.int .i64 p.1),(6,.buf 2 0 p.2.length p.2.length)]) (fun p=>[B.cells [.str t.name,.lst 1 f (t.attrs.map V.str),.lst 2 g (R.map aI)],B.cells [.int .u32 (d.l:Int),.int .u32 (d.r:Int)],B.buf 34 1 (p.2.map (L1 true)) false]) (i+1,out) ⟨by simp,hx⟩ (by simp) (by simp) (by simp) ?_);rintro⟨k,o2⟩ ⟨hk0,hx2⟩ N2 Q2 hN2 hQ2;simp only at hk0 hx2;by_cases hkb:k<R.length
  ·rw[kS hkb]at hx2;have hrk:=hlen _ (rQ hkb);obtain⟨s,hse⟩:∃s,s=R[k]:=⟨_,rfl⟩;rw[←hse]at hx2 hrk;have c4:=agree03 r s (d.l:Int) (by omega) (by omega) hsi;have c5:=agree03 r s (d.r:Int) (by omega) (by omega) hsi;simp only[aI,LV]at c4 c5
   have ho2:o2.length≤64:=by rw[←hx2]at hE64;simp only[ri]at hE64;omega
   cases q1:kB r s (d.l:Int) with
   | false =>
    rw[q1]at c4;rw[if_neg (by simp[fdP,q1]),rx]at hx2;refine W_x (tkf 34) mixed ?_;simp -dsimp[hb,hkb,hre.symm,hse.symm,aI,LV,L1,aM];refine .inr ⟨aC (by kernel_rfl),?_⟩;refine aN _ (aK (c4) (by simp)) ?_;simp -dsimp[aH k (by omega),L1,aM];refine hN2 (k+1,o2) _ _ ⟨by simp only;omega,hx2⟩ (by simp only;omega) (by simp) ⟨_,rfl⟩ (by simp) (by simp[L1])
   | true =>
    rw[q1]at c4
    cases q2:kB r s (d.r:Int) with
    | true =>
     rw[q2]at c5;rw[if_neg (by simp[fdP,q2]),rx]at hx2;refine W_x (tkf 34) mixed ?_;simp -dsimp[hb,hkb,hre.symm,hse.symm,aI,LV,L1,aM];refine .inr ⟨aC (by kernel_rfl),?_⟩;refine aN _ (aK (c4) (by simp)) ?_;simp -dsimp[hb,hkb,hre.symm,hse.symm,aI,LV,L1,aM];refine aN _ (aK (c5) (by simp)) ?_;simp -dsimp[aH k (by omega),L1,aM];refine hN2 (k+1,o2) _ _ ⟨by simp only;omega,hx2⟩ (by simp only;omega) (by simp) ⟨_,rfl⟩ (by simp) (by simp[L1])
    | false =>
     rw[q2]at c5;rw[if_pos (by simp[fdP,q1,q2])]at hx2;refine W_x (tkf 34) mixed ?_;simp -dsimp[hb,hkb,hre.symm,hse.symm,aI,LV,L1,aM];refine .inr ⟨aC (by kernel_rfl),?_⟩;refine aN _ (aK (c4) (by simp)) ?_;simp -dsimp[hb,hkb,hre.symm,hse.symm,aI,LV,L1,aM];refine aN _ (aK (c5) (by simp)) ?_;simp -dsimp[L1,aM];refine aG (aW (tkf 34) mixed [15] [] [] (by kernel_rfl) fun C K hC hK=>?_);simp -implicitDefEqProofs [hb,hkb,hre.symm,hse.symm,aI,LV,fI o2.length (by omega),ai o2.length (by omega),L1,aM];refine hK _ _ ?_;simp -dsimp[aH k (by omega),L1,aM];refine hN2 (k+1,o2++[[r.id,s.id]]) _ _ ⟨by simp only;omega,by rw[←hx2];simp⟩ (by simp only;omega) (by simp) ⟨[],by simp[aE,L1]⟩ (by simp) (hrb _)
  ·rw[rR (show R.length≤k by omega)]at hx2;refine W_x (tkf 34) mixed ?_;simp -dsimp[hkb,L1,aM];refine hQ2 _ _ _ ?_;simp -dsimp[aH i (by omega),L1,aM];refine hN (i+1,o2) _ _ (by simpa using hx2) (by simp only;omega) (by simp) ⟨_,rfl⟩ (by simp) (by simp[L1])
 ·rw[rR (show R.length≤i by omega),prL,rj]at hx;subst hx;refine cy 2 [6] rfl (by simp) ?_;refine W_x (tkf 34) mixed ?_;simp -dsimp[hb,L1,aM];refine hQ _ _ _ ?_;simp -dsimp[LT,L1,aM]
  skip
theorem pairs37e(t:Tb)(d:Fd)(f g:Bool)(hn:t.attrs.length≤16)(hd:d.l<4294967296∧d.r<4294967296)(ho:eF t.attrs.length d=false):aL Tryz.prog 143 [aD f g t,gH d] fun r=>r = .tup [.nilS,.int .i64 1]:=by
 have h1:=or32 d.l d.r hd.1 hd.2;have c1:=full02 t.attrs.length (by omega)
 have hol:d.l ||| d.r<4294967296:=uU (n:=32) hd.1 hd.2
 have c2:=sub02 (d.l ||| d.r) (dj t.attrs.length) hol (jk _ (by omega));rw[sub_full]at c2;unfold eF at ho;rw[ho]at c2
 obtain⟨o,hoe⟩:∃o,o=d.l ||| d.r:=⟨_,rfl⟩
 rw[←hoe]at h1 c2;refine sPx Tryz.func143 rfl rfl ?_;simp -dsimp[Tryz.f143,rO,aD,gH,LR,LS,h1];refine .inr ⟨aC (by kernel_rfl),?_⟩;refine aN _ (aK (c1) (by simp)) ?_;simp -dsimp[];refine aN _ (aK (c2) (by simp)) ?_;simp -dsimp[]
end
end Go.Proofs.YtjogkbekekdkjaaGreatDoor
