/- JQ15: own texts of this seat, joined and shortened by pack4.py: RS, RT, PF, Ve, PV, PA, TJ, TK, Rbm, PD, PG. -/
import Derived.Test.YtpedcgdgjoblkaaGreatDoorJQ13
set_option linter.unusedVariables false
set_option linter.unusedSimpArgs false
set_option maxRecDepth 100000
set_option maxHeartbeats 64000000
open Bool renaming false_and→fb,true_and→fk
open ByteArray renaming empty→br
open Int renaming tmod_lt_of_pos→gB,tmod_nonneg→hX
open List renaming replicate→ba,getElem_mem→cm,drop_eq_getElem_cons→cw,not_mem_nil→dk,drop_of_length_le→ea,mem_cons→ed,take_succ_eq_append_getElem→fp,nil_append→ld,take_of_length_le→lm,drop_zero→mK,length_map→ov,map_cons→pB,mem_singleton→pT,all_cons→ph
namespace Go.Proofs.YtpedcgdgjoblkaaGreatDoor
section
open Go Go.AM
def cnW(c:Cn)(cl cp ol or at_:V):V:=.agg [.str c.name,.str c.table,.int .i64 c.kind,.int .u32 (c.fd.l:Int),.int .u32 (c.fd.r:Int),.int .u32 c.m1,.int .u32 c.m2,.str c.i1,.nilS,.str c.i3,.nilS,cl,.int .i64 c.cfd.r,cp,ol,or,.int .i64 c.dn.vars,at_]
theorem lfN(z:Nat):lfB .nilS (.lst z false []):=.inr (.inr ⟨z,rfl,rfl⟩)
theorem nP{f:FuncId}{args:List V}{c:Cn}{cl cp ol or at_:V}{b:Bool}(h:aE Tryz.prog f args fun x=>x = .tup [cnW c cl cp ol or at_,.bool b])(h1:c.i2=[]∧c.i4=[])
  (h2:lfB cl (L1 false c.cfd.l)) (h3:lfB cp (LCl false c.cfd.p)) (h4:lfB ol (L1 false c.od.l)) (h5:lfB or (L1 false c.od.r)) (h6:lfB at_ (LA false c.dn.atoms)):aE Tryz.prog f args fun x=>x = .tup [cE c,.bool b]:=by
 refine conP_lf h (fun s u hr=>rel_tup2 hr fun x hx=>?_) (.tup _ (by simp));refine rel_agg_lf hx ?_;refine⟨.inl rfl,.inl rfl,.inl rfl,.inl rfl,.inl rfl,.inl rfl,.inl rfl,.inl rfl,?_,.inl rfl,?_,h2,.inl rfl,h3,h4,h5,.inl rfl,h6,trivial⟩
 ·rw[h1.1];exact lfN 1
 ·rw[h1.2];exact lfN 1
theorem ruleOf37(n:Nat)(r:Rul)(hn:n≤16)(h:RulOk r):aE Tryz.prog 91 [.int .i64 n,aq r] fun x=>x = .tup [cE (iS n r),.bool (cR r)]:=by
 have t0:=hX 5 h.k.1;have t1:=gB r.k (show(0:Int)<5 by omega)
 have w0:IntKind.u8.wrap (r.k.tmod 5)=r.k.tmod 5:=by rw[IntKind.wrap_u8];omega
 have dflt:¬r.k.tmod 5=2→¬r.k.tmod 5=3→(r.k.tmod 5=1→n=0)→aE Tryz.prog 91 [.int .i64 n,aq r] fun x=>x = .tup [cE (iS n r),.bool (cR r)]:=fun g2 g3 g1=>by
  have hcn:iS n r = { cn0 with kind:=1,fd:=fdOf n r.fd }:=by unfold iS;rw[if_neg (fun e=>by have:=g1 e.1;omega),if_neg g2,if_neg g3]
  have hok:cR r=true:=by unfold cR;rw[decide_eq_false g3];rfl
  rw[hcn,hok];refine nP (cl:=.nilS) (cp:=.nilS) (ol:=.nilS) (or:=.nilS) (at_:=.nilS) ?_ ⟨rfl,rfl⟩ (lfN _) (lfN _) (lfN _) (lfN _) (lfN _);have c1:=list09 n [r.fd] true (by omega) (by simp) (fun d hd=>by simp at hd;rw[hd];exact h.fd);simp only[pB,List.map_nil,encD,LF,gR]at c1;obtain⟨q,hq⟩:∃q,q=r.k.tmod 5:=⟨_,rfl⟩;rw[←hq]at g2 g3 g1 t0 t1 w0;have hq':=hq.symm;by_cases hq1:q=1
  ·have hn0:=g1 hq1;subst hn0;refine sPx Tryz.func91 rfl rfl ?_;simp -dsimp[Tryz.f91,ba,aq,LU,hq',w0,hq1];refine aR (ao tok mixed [8,10] [(5,[1]),(6,[1])] [(.lst 2 false [gR (fdOf 0 r.fd)],[])] (by kernel_rfl) fun C K hC hK=>?_);simp -implicitDefEqProofs [gR];refine⟨hC _ _ _ _ (aW c1 (by simp)),hK _ _ ?_⟩;simp -dsimp[cnW,cn0,strC,strR]
  ·refine sPx Tryz.func91 rfl rfl ?_;simp -dsimp[Tryz.f91,ba,aq,LU,hq',w0,hq1,g2,g3];refine aR (ao tok mixed [8,10] [(5,[1]),(6,[1])] [(.lst 2 false [gR (fdOf n r.fd)],[])] (by kernel_rfl) fun C K hC hK=>?_);simp -implicitDefEqProofs [gR];refine⟨hC _ _ _ _ (aW c1 (by simp)),hK _ _ ?_⟩;simp -dsimp[cnW,cn0,strC,strR]
 by_cases g1:r.k.tmod 5=1
 ·by_cases h0:n=0
  ·exact dflt (by omega) (by omega) fun _=>h0
  ·have hcn:iS n r = { cn0 with kind:=4,cfd:=cfOf n r.cl r.cr r.cs }:=by unfold iS;rw[if_pos ⟨g1,by omega⟩]
   have hok:cR r=true:=by unfold cR;rw[decide_eq_false (by omega)];rfl
   rw[hcn,hok];refine nP (cl:=L1 false (cfOf n r.cl r.cr r.cs).l) (cp:=LCl false (cfOf n r.cl r.cr r.cs).p) (ol:=.nilS) (or:=.nilS) (at_:=.nilS) ?_ ⟨rfl,rfl⟩ (.inl rfl) (.inl rfl) (lfN _) (lfN _) (lfN _);have c1:=cfOf16 n r.cl r.cr r.cs false (by omega) hn h.cl h.cr h.cs h.csv;obtain⟨cf,hcf⟩:∃cf,cf=cfOf n r.cl r.cr r.cs:=⟨_,rfl⟩;rw[←hcf]at c1 ⊢;simp only[gT,L1,LCl]at c1;obtain⟨q,hq⟩:∃q,q=r.k.tmod 5:=⟨_,rfl⟩;rw[←hq]at g1 w0;have hq':=hq.symm;subst g1;refine sPx Tryz.func91 rfl rfl ?_;simp -dsimp[Tryz.f91,ba,aq,LU,hq',w0,show(0:Int)<n by omega,show 0<n by omega];refine cPx (c1) (by simp) ?_;simp -dsimp[cnW,cn0,strC,strR,L1,LCl]
 by_cases g2:r.k.tmod 5=2
 ·have hcn:iS n r = { cn0 with kind:=5,od:=odOf n r.xs r.ys }:=by unfold iS;rw[if_neg (by omega),if_pos g2]
  have hok:cR r=true:=by unfold cR;rw[decide_eq_false (by omega)];rfl
  rw[hcn,hok];refine nP (cl:=.nilS) (cp:=.nilS) (ol:=L1 false (odOf n r.xs r.ys).l) (or:=L1 false (odOf n r.xs r.ys).r) (at_:=.nilS) ?_ ⟨rfl,rfl⟩ (lfN _) (lfN _) (.inl rfl) (.inl rfl) (lfN _);have c1:=odOf17 n r.xs r.ys false false h.xs h.xsv h.ys h.ysv (by omega);obtain⟨od,hod⟩:∃od,od=odOf n r.xs r.ys:=⟨_,rfl⟩;rw[←hod]at c1 ⊢;simp only[encOd,L1]at c1;obtain⟨q,hq⟩:∃q,q=r.k.tmod 5:=⟨_,rfl⟩;rw[←hq]at g2 w0;have hq':=hq.symm;subst g2;refine sPx Tryz.func91 rfl rfl ?_;simp -dsimp[Tryz.f91,ba,aq,LU,hq',w0];refine cPx (c1) (by simp) ?_;simp -dsimp[cnW,cn0,strC,strR,L1,LCl]
 by_cases g3:r.k.tmod 5=3
 ·have hcn:iS n r = { cn0 with kind:=6,dn:=dnOf n r.nv r.sn }:=by unfold iS;rw[if_neg (by omega),if_neg g2,if_pos g3]
  have hok:cR r=decide (r.sn.length≤5):=by unfold cR;rw[decide_eq_true g3];rfl
  rw[hcn,hok];refine nP (cl:=.nilS) (cp:=.nilS) (ol:=.nilS) (or:=.nilS) (at_:=LA false (dnOf n r.nv r.sn).atoms) ?_ ⟨rfl,rfl⟩ (lfN _) (lfN _) (lfN _) (lfN _) (.inl rfl);have c1:=dnOf18 n r.nv r.sn false (by omega) h.nv (by have:=h.sn;omega) h.snv;obtain⟨dn,hdn⟩:∃dn,dn=dnOf n r.nv r.sn:=⟨_,rfl⟩;rw[←hdn]at c1 ⊢;simp only[encDn,LA]at c1;obtain⟨q,hq⟩:∃q,q=r.k.tmod 5:=⟨_,rfl⟩;rw[←hq]at g3 w0;have hq':=hq.symm;subst g3;obtain⟨bb,hbb⟩:∃bb,bb=decide (r.sn.length≤5):=⟨_,rfl⟩;rw[←hbb]at c1 ⊢;refine sPx Tryz.func91 rfl rfl ?_;simp -dsimp[Tryz.f91,ba,aq,LU,hq',w0];refine cPx (c1) (by simp) ?_;simp -dsimp[];refine aR (ao tok mixed [2,4] [(0,[1])] [] (by kernel_rfl) fun C K hC hK=>?_);simp -implicitDefEqProofs [];refine hK _ _ ?_;simp -dsimp[cnW,cn0,strC,strR,LA]
 exact dflt g2 g3 fun e=>absurd e g1
theorem table03(x:Rcp)(f:Bool)(ha:0≤x.a∧x.a<256)(hg:0≤x.gap)(hc:∀r∈x.rows,r.length≤9223372036854775807):aE Tryz.prog 6 [bD f x,.int .i64 6] fun r=>r=if x.rows.length≤6 then .tup [aF false false (ia x),.bool true] else .tup [.agg [.str br,.nilS,.nilS],.bool false]:=by
 by_cases h6:x.rows.length≤6
 ·rw[if_pos h6];obtain⟨h1,h2⟩:=tbOf_n ha.1;have t0:=hX 6 ha.1;have t1:=gB x.a (show(0:Int)<6 by omega);have c1:=wide03 x (x.a.tmod 6).toNat f (by omega) (by omega) hc hg;rw[h2]at c1
  have w0:IntKind.u8.wrap (x.a.tmod 6)=x.a.tmod 6:=by rw[IntKind.wrap_u8];omega
  have w1:IntKind.i64.wrap (x.a.tmod 6)=x.a.tmod 6:=wrap64 (by omega) (by omega);rw[show wideT x (x.a.tmod 6).toNat=ia x from rfl]at c1;obtain⟨t,ht⟩:∃t,t=ia x:=⟨_,rfl⟩;rw[←ht]at c1 ⊢;simp only[bD,aF,LS,LR]at c1;refine sPx Tryz.func6 rfl rfl ?_;simp -dsimp[Tryz.f6,ba,bD,w0,w1,show ¬(6:Int)<x.rows.length by omega];refine cPx (c1) (by simp) ?_;simp -dsimp[aF,LS,LR]
 ·rw[if_neg h6];refine sPx Tryz.func6 rfl rfl ?_;simp -dsimp[Tryz.f6,ba,bD,show(6:Int)<x.rows.length by omega]
def iJ(c:Cn):List V:=[.str c.name,.str c.table,.int .i64 c.kind,.int .u32 (c.fd.l:Int),.int .u32 (c.fd.r:Int),.int .u32 c.m1,.int .u32 c.m2,.str c.i1,.lst 1 false (c.i2.map au),.str c.i3,.lst 1 false (c.i4.map au),.lst 1 false (c.cfd.l.map au),.int .i64 c.cfd.r,.lst 4 false (c.cfd.p.map dG),.lst 1 false (c.od.l.map au),.lst 1 false (c.od.r.map au),.int .i64 c.dn.vars,.lst 11 false (c.dn.atoms.map du)]
theorem cnCells_rb(n:Nat)(c:Cn):rbB n (.cells (iJ c)):=fun x hx=>by
 unfold iJ at hx;simp only[ed,dk,or_false]at hx
 rcases hx with rfl | rfl | rfl | rfl | rfl | rfl | rfl | rfl | rfl | rfl | rfl | rfl | rfl | rfl | rfl | rfl | rfl | rfl<;>simp[rb,rb1]
theorem cns_rb(n e:Nat)(cs:List Cn)(fz:Bool):rbB n (.buf e 18 (cs.map cE) fz):=by
 intro x hx;obtain⟨y,_,rfl⟩:=List.mem_map.1 hx;intro c hc;have:=cnCells_rb n y c hc;simp only[cE,L1,LCl,LA,V.cells]at hc;simp only[ed,dk,or_false]at hc
 rcases hc with rfl | rfl | rfl | rfl | rfl | rfl | rfl | rfl | rfl | rfl | rfl | rfl | rfl | rfl | rfl | rfl | rfl | rfl<;>simp[rb1]
theorem capCn2(n:Nat)(h:n≤100000000):n≤9223372036854775806∧(n+1)*272≤140737488355328:=by omega
def rlV(n:Nat)(rs:List Rul):V:=if rs.all cR=true then .tup [LCn false (rs.map (iS n)),.bool (decide (rs.length≤4))] else .tup [.nilS,.bool false]
theorem rules37(n:Nat)(rs:List Rul)(f:Bool)(hn:n≤16)(hl:rs.length≤2000000)(hr:∀r∈rs,RulOk r):aE Tryz.prog 50 [.int .i64 n,.lst 10 f (rs.map aq)] fun x=>x=rlV n rs:=by
 obtain⟨A,hA⟩:∃A,A=rs.map (iS n):=⟨_,rfl⟩
 have hAl:A.length=rs.length:=by rw[hA,ov]
 have hAi:∀i (h:i<rs.length),A.take (i+1)=A.take i++[iS n rs[i]]:=fun i h=>by
  rw[fp (by omega)];congr 2;simp[hA]
 obtain⟨E,hE⟩:∃E,E=rs.all cR:=⟨_,rfl⟩
 have hrl:rlV n rs=if E=true then .tup [LCn false A,.bool (decide (rs.length≤4))] else .tup [.nilS,.bool false]:=by rw[hE,hA];rfl
 rw[hrl]
 have hrb:∀(cs:List Cn),∀bl∈[B.buf 101 18 (cs.map cE) false],rbB 1 bl:=fun cs bl hbl=>by
  simp only[pT]at hbl;subst hbl;exact cns_rb _ _ _ _
 refine sPx Tryz.func50 rfl rfl ?_;simp -dsimp[Tryz.f50,ba];refine aR (W_own 101 18 [6] (by simp) (W_loopM 31 0x7ffffff0 (by simp[mB]<;>rfl) (σ:=Nat) (fun i=>i≤rs.length∧(rs.drop i).all cR=E) (fun i=>rs.length-i) (fun i=>[(7,.int .i64 i),(6,.buf 0 0 i i)]) (fun i=>[B.buf 101 18 ((A.take i).map cE) false]) 0 ⟨by omega,by rw[hE,mK]⟩ (by simp) (by simp) (by simp) ?_));rintro i ⟨hi,hx⟩ N Q hN hQ
 have htl:(A.take i).length=i:=by simp;omega
 by_cases hb:i<rs.length
 ·have hst:=hAi i hb;rw[cw hb,ph]at hx;have hk:=hr _ (cm hb);obtain⟨r,hre⟩:∃r,r=rs[i]:=⟨_,rfl⟩;rw[←hre]at hst hx hk;have c1:=ruleOf37 n r hn hk;obtain⟨c,hc⟩:∃c,c=iS n r:=⟨_,rfl⟩;rw[←hc]at c1 hst;obtain⟨al,hal⟩:∃al,al=A.take i:=⟨_,rfl⟩;rw[←hal]at hst htl ⊢;simp only[aq,cE,L1,LCl,LA]at c1
  cases hq:cR r with
  | true =>
   rw[hq]at c1;rw[hq,fk]at hx;refine wx ?_;simp -dsimp[hb,hre.symm,aq];refine cPx (c1) (by simp) ?_;simp -dsimp[htl,capCn2 i (by omega),eJ i (by omega),aa i (by omega)];refine hN (i+1) _ _ ⟨by omega,hx⟩ (by omega) (by simp) ⟨[B.cells (iJ c)],by simp[hst,cE,L1,LCl,LA,iJ]⟩ (by simp) (hrb _)
  | false =>
   rw[hq]at c1;rw[hq,fb]at hx;refine wx ?_;simp -dsimp[hb,hre.symm,aq];refine cPx (c1) (by simp) ?_;simp -dsimp[];refine hQ _ _ _ ?_;simp -dsimp[];rw[←hx];simp
 ·obtain rfl:i=rs.length:=by omega
  rw[ea (by omega)]at hx;rw[lm (by omega)];refine gY 0 [6] rfl (by simp[hAl]) ?_
  have h4:((rs.length:Int)≤4)↔rs.length≤4:=by omega
  refine wx ?_;simp -dsimp[hb];refine hQ _ _ _ ?_;simp -dsimp[h4,LCn];rw[←hx];simp
def fnd(rs:List Rw)(id:Int)(i:Nat):Nat×Bool:=if h:i<rs.length then(if rs[i].id=id then(i,true) else fnd rs id (i+1)) else(0,false)
termination_by rs.length-i
end
end Go.Proofs.YtpedcgdgjoblkaaGreatDoor
section
namespace Go.Proofs.YtpedcgdgjoblkaaGreatDoor
open Go Go.AM
end Go.Proofs.YtpedcgdgjoblkaaGreatDoor
end
namespace Go.Proofs.YtpedcgdgjoblkaaGreatDoor
section
open Go Go.AM
instance decVl:DecidableEq Vl:=fun a b =>
 if h:a.k=b.k∧a.n=b.n∧a.s=b.s then .isTrue (by
  obtain⟨k,n,s⟩:=a;obtain⟨k',n',s'⟩:=b;obtain⟨rfl,rfl,rfl⟩:=h
  rfl) else .isFalse (fun e=>h (by subst e;exact⟨rfl,rfl,rfl⟩))
structure Chg where
 k:Int
 row:Rw
 a:Int
 v:Vl
def vl0:Vl:=⟨0,0,br⟩
def gS(nm:ByteArray)(c:Chg):V:=.agg [.int .i64 c.k,.str nm,.str br,.nilS,.nilS,.int .i64 c.row.id,LV false c.row.vals,.int .i64 c.a,.int .i64 c.v.k,.int .i64 c.v.n,.str c.v.s]
@[simp] theorem encChg_pure (nm:ByteArray) (c:Chg):AM.Pure (gS nm c):=by simp[gS,LV]
@[simp] theorem encChg_oneV (nm:ByteArray) (c:Chg):cq (gS nm c)=true:=by simp[gS,cq,LV,V.one]
def LCh(f:Bool)(nm:ByteArray)(l:List Chg):V:=.lst 11 f (l.map (gS nm))
@[simp] theorem LCh_pure (f:Bool) (nm:ByteArray) (l:List Chg):AM.Pure (LCh f nm l):=by simp[LCh]
def atV(l:List Vl)(i:Nat):Vl:=l.getD i vl0
def cY(tv:List Vl):Nat→List Vl→List Vl
 | 0,now=>now
 | a+1,now=>(cY tv a now).set a (atV tv a)
def inT(t:Tb)(id:Int):Bool:=(fnd t.rows id 0).2
def atT(t:Tb)(id:Int):Rw:=rwG t.rows (fnd t.rows id 0).1
def LTb(g:Bool)(ts:List Tb):V:=.lst 3 g (ts.map (aF false false))
@[simp] theorem LTb_pure (g:Bool) (ts:List Tb):AM.Pure (LTb g ts):=by simp[LTb]
def ixT(p:Tb→Bool)(rs:List Tb)(i:Nat):Int:=if h:i<rs.length then(if p rs[i] then(i:Int) else ixT p rs (i+1)) else -1
termination_by rs.length-i
theorem idxFuncT(H:List B)(fv:V)(p:Tb→Bool)(rs:List Tb)(g:Bool)(hes:rs.length≤1000000)(hH:∀bl∈H,rbB H.length bl)(hfv:rb H.length fv)
  (hp:∀m∈rs,aI Tryz.prog fv [aF false false m] H fun r H'=>r = .bool (p m)∧∃G,H'=H++G):aZ Tryz.prog 172 [LTb g rs,fv] H fun r H'=>r = .int .i64 (ixT p rs 0)∧∃G,H'=H++G:=by
 refine aK tok Tryz.func172 rfl rfl ?_;refine wx ?_;simp -dsimp[Tryz.f172,ba,LTb];refine aR (W_loopM 19 0x7ff30 (by simp[mB]<;>rfl) (σ:=Nat) (fun i=>ixT p rs i=ixT p rs 0) (fun i=>rs.length-i) (fun i=>[(8,.int .i64 i)]) (fun _=>H) 0 rfl (by simp) rfl (by simp) ?_);intro i hx N Q hN hQ;by_cases hb:i<rs.length
 ·rw[ixT,dif_pos hb]at hx;have hc:=hp rs[i] (cm hb);cases hq:p rs[i]
  ·rw[hq]at hc hx;simp only[aF,LS,LR]at hc;refine wx ?_;simp -dsimp[hb,aF,LS,LTb];refine hc.mono ?_;rintro r H' ⟨rfl,G,rfl⟩;simp -dsimp[aa i (by omega)];refine hN (i+1) _ _ (by simpa using hx) (by omega) (by simp) ⟨G,rfl⟩ (by simp;exact hfv) hH
  ·rw[hq]at hc hx;simp only[aF,LS,LR]at hc;refine wx ?_;simp -dsimp[hb,aF,LS,LTb];refine hc.mono ?_;rintro r H' ⟨rfl,G,rfl⟩;simp -dsimp[];refine hQ _ _ _ ?_;simp -dsimp[];simpa using hx
 ·rw[ixT,dif_neg hb]at hx;refine wx ?_;simp -dsimp[hb];refine hQ _ _ _ ?_;simp -dsimp[];simpa using hx
theorem find_s(ts:List Tb)(g:Bool)(nm:ByteArray)(hr:ts.length≤1000000):aE Tryz.prog 120 [.agg [LTb g ts],.str nm] fun r=>r = .int .i64 (ixT (fun t=>t.name.toList == nm.toList) ts 0):=by
 have hclo:∀m∈ts,aI Tryz.prog (.fn 173 [.ptr 1 0]) [aF false false m] [B.cells [LTb g ts],B.cells [.str nm]] fun r H'=>r = .bool (m.name.toList == nm.toList)∧∃G,H'=[B.cells [LTb g ts],B.cells [.str nm]]++G:=fun m hm=>by
  simp only[aI,List.cons_append,ld];refine aK tok Tryz.func173 rfl rfl ?_;refine wx ?_;simp -dsimp[Tryz.f173,ba,aF,LS,LR,LTb]
 have hcf:=idxFuncT [B.cells [LTb g ts],B.cells [.str nm]] (.fn 173 [.ptr 1 0]) (fun m=>m.name.toList == nm.toList) ts g hr (by simp[LTb]) (by simp) hclo;obtain⟨n,hn⟩:∃n,n=ixT (fun t:Tb=>t.name.toList == nm.toList) ts 0:=⟨_,rfl⟩;rw[←hn]at hcf ⊢;simp only[LTb]at hcf;refine sPx Tryz.func120 rfl rfl ?_;simp -dsimp[Tryz.f120,ba,LTb];refine aI.mono (K:=fun r H'=>r = .int .i64 n∧∃G,H'=[B.cells [.lst 3 g (ts.map (aF false false))],B.cells [.str nm]]++G) hcf ?_;rintro r H' ⟨rfl,G,rfl⟩;simp -dsimp[]
def gU(ts:List Tb)(t:Tb):Int:=if aQ t=0 then(if 0≤ixT (fun u=>u.name.toList == t.name.toList) ts 0 then 5 else if 50≤ts.length then 3 else 0) else aQ t
theorem creates_s(ts:List Tb)(g:Bool)(t:Tb)(f f2:Bool)(hr:ts.length≤1000000)(hk:TbOk t):aE Tryz.prog 119 [.agg [LTb g ts],aF f f2 t] fun r=>r = .int .i64 (gU ts t):=by
 have c1:=tableValid t f f2 hk;have c2:=find_s ts g t.name hr;simp only[aF,LS,LR]at c1;simp only[LTb]at c2;by_cases h1:aQ t=0
 case neg =>
  rw[show gU ts t=aQ t by unfold gU;rw[if_neg h1]];refine sPx Tryz.func119 rfl rfl ?_;simp -dsimp[Tryz.f119,ba,aF,LS,LR,LTb];refine cPx (c1) (by simp) ?_;simp -dsimp[h1]
 rw[h1]at c1;obtain⟨n,hn⟩:∃n,n=ixT (fun u:Tb=>u.name.toList == t.name.toList) ts 0:=⟨_,rfl⟩;rw[←hn]at c2;by_cases h2:0≤n
 ·rw[show gU ts t=5 by unfold gU;rw[if_pos h1,←hn,if_pos h2]];refine sPx Tryz.func119 rfl rfl ?_;simp -dsimp[Tryz.f119,ba,aF,LS,LR,LTb];refine cPx (c1) (by simp) ?_;simp -dsimp[];refine cPx (c2) (by simp) ?_;simp -dsimp[h2]
 ·by_cases h3:50≤ts.length
  ·rw[show gU ts t=3 by unfold gU;rw[if_pos h1,←hn,if_neg h2,if_pos h3]];refine sPx Tryz.func119 rfl rfl ?_;simp -dsimp[Tryz.f119,ba,aF,LS,LR,LTb];refine cPx (c1) (by simp) ?_;simp -dsimp[];refine cPx (c2) (by simp) ?_;simp -dsimp[h2,show(50:Int)≤ts.length by omega]
  ·rw[show gU ts t=0 by unfold gU;rw[if_pos h1,←hn,if_neg h2,if_neg h3]];refine sPx Tryz.func119 rfl rfl ?_;simp -dsimp[Tryz.f119,ba,aF,LS,LR,LTb];refine cPx (c1) (by simp) ?_;simp -dsimp[];refine cPx (c2) (by simp) ?_;simp -dsimp[h2,show ¬(50:Int)≤ts.length by omega]
theorem rb1_mono{n m:Nat}(h:n≤m){v:V}(hv:rb1 n v):rb1 m v:=by
 cases v<;>simp only[rb1]at hv ⊢<;>first | exact hv | omega | trivial
theorem fV{n m:Nat}(h:n≤m){v:V}(hv:rb n v):rb m v:=by
 cases v<;>simp only[rb]at hv ⊢<;>first | exact rb1_mono h hv | exact fun c hc=>rb1_mono h (hv c hc) | trivial
theorem fo{n m:Nat}(h:n≤m){bl:B}(hb:rbB n bl):rbB m bl:=by
 cases bl with
 | cells cs=>exact fun c hc=>fV h (hb c hc)
 | map kk es=>exact fun p hp=>⟨fV h (hb p hp).1,fV h (hb p hp).2⟩
 | buf e z xs fz=>exact fun x hx c hc=>fV h (hb x hx c hc)
def delR(rs:List Rw)(id:Int):List Rw:=rs.filter fun r=>!decide (r.id=id)
def insR(rs:List Rw)(r:Rw):List Rw:=rs.filter (fun s=>decide (s.id<r.id))++r::rs.filter (fun s=>decide (r.id<s.id))
def chgR(rs:List Rw)(id:Int)(a:Nat)(v:Vl):List Rw:=rs.map fun r=>if r.id=id then⟨r.id,r.vals.set a v⟩ else r
def wrT(t:Tb)(rs:List Rw):Tb:=⟨t.name,t.attrs,rs⟩
structure Ch where
 k:Int
 nm:ByteArray
 tb:Tb
 row:Rw
 a:Int
 v:Vl
def insErr(t:Tb)(r:Rw):Int:=if ¬r.vals.length=t.attrs.length then 6 else if r.id≤0∨r.vals.all ai=false then 1 else if inT t r.id=true then 5 else if 1000≤t.rows.length then 3 else 0
def rowIs(t:Tb)(r:Rw):Bool:=inT t r.id&&decide ((atT t r.id).vals=r.vals)
def stepT(t:Tb)(c:Ch):Option Tb :=
 if c.nm=t.name then
  if c.k=2 then(if insErr t c.row=0 then some (wrT t (insR t.rows c.row)) else none)
  else if rowIs t c.row=true then
   if c.k=3 then some (wrT t (delR t.rows c.row.id))
   else if c.k=4 then(if 0≤c.a∧c.a<t.attrs.length∧ai c.v=true then some (wrT t (chgR t.rows c.row.id c.a.toNat c.v)) else none)
   else none
  else none
 else none
def runT(t:Tb):List Ch→Option Tb
 | []=>some t
 | c::l=>match stepT t c with
  | some u=>runT u l
  | none=>none
def chC(f g:Bool)(c:Ch):List V:=[.int .i64 c.k,.str c.nm,.str c.tb.name,.lst 1 f (c.tb.attrs.map V.str),.lst 2 g (c.tb.rows.map aT),.int .i64 c.row.id,.lst 3 false (c.row.vals.map ac),.int .i64 c.a,.int .i64 c.v.k,.int .i64 c.v.n,.str c.v.s]
def ax(f g:Bool)(c:Ch):V:=.agg (chC f g c)
@[simp] theorem encCh_pure (f g:Bool) (c:Ch):AM.Pure (ax f g c):=by simp[ax,chC]
@[simp] theorem encCh_oneV (f g:Bool) (c:Ch):cq (ax f g c)=true:=by simp[ax,chC,cq,V.one]
structure ChOk (c:Ch):Prop where
 attrs:c.tb.attrs.length≤1000000
 rows:c.tb.rows.length≤1000000
 row:∀r∈c.tb.rows,r.vals.length≤1000000∧∀v∈r.vals,v.s.size≤maxLen
 vals:c.row.vals.length≤1000000∧∀v∈c.row.vals,v.s.size≤maxLen
end
end Go.Proofs.YtpedcgdgjoblkaaGreatDoor
