/- JM19: own texts of this seat, joined and shortened by pack4.py: Sf, Sg, Sh, Si, Sj, Sk. -/
import Derived.Test.YtdnhplencamncaaGreatDoorJM18
set_option linter.unusedVariables false
set_option linter.unusedSimpArgs false
set_option maxRecDepth 100000
set_option maxHeartbeats 64000000
open Bool renaming true_and→pE,false_and→pF,false_or→pr,eq_iff_iff→qS,true_or→rT
open ByteArray renaming empty→oF
open Int renaming eq_ofNat_of_zero_le→pU
open List renaming replicate→oE,getElem_mem→oI,drop_eq_getElem_cons→oK,take_succ_eq_append_getElem→oN,not_mem_nil→oO,mem_cons→oR,length_append→oT,append_nil→oU,drop_of_length_le→oV,map_append→oe,length_cons→og,append_assoc→oh,drop_zero→pC,nil_append→pH,mem_singleton→pM,cons_append→pg,eq_of_mem_replicate→pi,set_append_right→pt,any_cons→qW,length_mergeSort→qn,map_set→qw
open Nat renaming lt_succ_self→qL,mul_le_mul→qy
namespace Go.Proofs.YtdnhplencamncaaGreatDoor
section
open Go Go.AM
def compB(L:Lnk)(x y:Rw):Bool:=decide (L.block.length=0)||L.block.any fun k=>dS (atA x k) (atA y k)
def holdI(L:Lnk)(x y:Rw):Int:=ixP (fun q:List Sim=>!(q.any fun c=>!lQ x y c)) L.rules 0
def blkOk(L:Lnk)(x y:Rw):Prop:=∀k∈L.block,0≤k∧k<x.vals.length∧k<y.vals.length
theorem comp1_u(b0:B)(x y:Rw)(k:Int)(h0:0≤k)(hx:k<x.vals.length)(hy:k<y.vals.length):∀H:List B,H=[b0,B.cells [.int .i64 x.id,LV false x.vals],B.cells [.int .i64 y.id,LV false y.vals]] →
  aL Tryz.prog (.fn 166 [.ptr 1 0,.ptr 2 0]) [.int .i64 k] H fun r H'=>r = .bool (dS (atA x k) (atA y k))∧H'=H:=by
 intro H hH;subst hH;obtain⟨j,hj⟩:=pU h0
 have hja:j<x.vals.length:=by omega
 have hjb:j<y.vals.length:=by omega
 have e1:atA x k=x.vals[j]:=by rw[hj];simp[atA,hja]
 have e2:atA y k=y.vals[j]:=by rw[hj];simp[atA,hjb]
 rw[e1,e2,hj];obtain⟨v,hv⟩:∃v,v=x.vals[j]:=⟨_,rfl⟩;obtain⟨w,hw⟩:∃w,w=y.vals[j]:=⟨_,rfl⟩;rw[←hv,←hw];simp only[aL,pg,pH,LV];obtain⟨E,hE⟩:∃E,E=dS v w:=⟨_,rfl⟩;have he:dS ⟨v.k,v.n,v.s⟩ ⟨w.k,w.n,w.s⟩=E:=hE.symm;rw[←hE];refine aE tok Tryz.func166 rfl rfl ?_;refine wx ?_;simp -dsimp[Tryz.f166,oE,hja,hjb,hv.symm,hw.symm,aF,eqVl,he];exact .inr (aS (by kernel_rfl))
theorem comp_u(L:Lnk)(x y:Rw)(hb:blkOk L x y)(hl:L.block.length≤1100000):aJ Tryz.prog 95 [aV L,aC x,aC y] fun r=>r = .bool (compB L x y):=by
 unfold compB;by_cases h0:L.block.length=0
 ·rw[decide_eq_true h0,rT];refine sPx Tryz.func95 rfl rfl ?_;simp -dsimp[Tryz.f95,oE,aV,aC,LV,L1,LQm,h0]
 ·rw[decide_eq_false h0,pr];have hc:=nb [B.cells [LQm false L.rules,L1 false L.block,L1 false L.surv],B.cells [.int .i64 x.id,LV false x.vals],B.cells [.int .i64 y.id,LV false y.vals]] (.fn 166 [.ptr 1 0,.ptr 2 0]) (fun k=>dS (atA x k) (atA y k)) L.block false hl (by simp[LQm,L1,LV,aQ]) (by simp) (fun m hm=>comp1_u _ x y m (hb m hm).1 (hb m hm).2.1 (hb m hm).2.2 _ rfl)
  obtain⟨E,hE⟩:∃E,E=L.block.any fun k=>dS (atA x k) (atA y k):=⟨_,rfl⟩
  rw[←hE]at hc ⊢;simp only[LQm,L1,LV]at hc
  have hne:¬L.block=[]:=fun h=>h0 (by rw[h];rfl)
  refine sPx Tryz.func95 rfl rfl ?_;simp -dsimp[Tryz.f95,oE,aV,aC,LV,L1,LQm,h0,hne];refine aL.mono (K:=fun r H'=>r = .bool E∧H'=_) hc ?_;rintro r H' ⟨rfl,rfl⟩;simp -dsimp[hne]
theorem hold2_u(b0:B)(x y:Rw)(c:Sim):∀H:List B,H=[b0,B.cells [.int .i64 x.id,LV false x.vals],B.cells [.int .i64 y.id,LV false y.vals]] →
  aL Tryz.prog (.fn 170 [.ptr 1 0,.ptr 2 0]) [bD c] H fun r H'=>r = .bool (!lQ x y c)∧H'=H:=by
 intro H hH;subst hH;have c1:=match_u x y c;obtain⟨E,hE⟩:∃E,E=lQ x y c:=⟨_,rfl⟩;rw[←hE]at c1 ⊢;simp only[aC,bD,LV]at c1;simp only[aL,pg,pH,LV,bD];refine fZ (G:=[B.cells [.int .i64 c.a,.int .i64 c.m,.int .i64 c.l]]) (d:=1) (r:=.bool !E) ?_ rfl;refine aE tok Tryz.func170 rfl rfl ?_;refine wx ?_;simp -dsimp[Tryz.f170,oE];refine cPx (c1) (by simp) ?_;simp -dsimp[]
theorem hold1_u(b0:B)(x y:Rw)(q:List Sim)(hq:q.length≤2000000)(hr:rbB 3 b0):∀H:List B,H=[b0,B.cells [.int .i64 x.id,LV false x.vals],B.cells [.int .i64 y.id,LV false y.vals]] →
  aL Tryz.prog (.fn 168 [.ptr 1 0,.ptr 2 0]) [LSm false q] H fun r H'=>r = .bool (!(q.any fun c=>!lQ x y c))∧H'=H:=by
 intro H hH;have hc:=cont_M H (.fn 170 [.ptr 1 0,.ptr 2 0]) (fun c=>!lQ x y c) q false hq (by subst hH;simp only[oR,oO,or_false,forall_eq_or_imp,forall_eq];exact⟨hr,by simp[LV],by simp[LV]⟩) (by subst hH;simp) (fun m _=>hold2_u b0 x y m _ hH);subst hH
 obtain⟨E,hE⟩:∃E,E=q.any fun c=>!lQ x y c:=⟨_,rfl⟩
 rw[←hE]at hc ⊢;simp only[LSm,LV]at hc;simp only[aL,pg,pH,LV,LSm];refine aE tok Tryz.func168 rfl rfl ?_;refine wx ?_;simp -dsimp[Tryz.f168,oE];refine aL.mono (K:=fun r H'=>r = .bool E∧H'=_) hc ?_;rintro r H' ⟨rfl,rfl⟩;simp -dsimp[]
theorem holds_u(L:Lnk)(x y:Rw)(hl:L.rules.length≤2000000)(hq:∀q∈L.rules,q.length≤2000000):aJ Tryz.prog 96 [aV L,aC x,aC y] fun r=>r = .int .i64 (holdI L x y):=by
 unfold holdI
 have hr:rbB 3 (B.cells [LQm false L.rules,L1 false L.block,L1 false L.surv]):=by simp[LQm,L1,aQ]
 have hc:=ix_Q [B.cells [LQm false L.rules,L1 false L.block,L1 false L.surv],B.cells [.int .i64 x.id,LV false x.vals],B.cells [.int .i64 y.id,LV false y.vals]] (.fn 168 [.ptr 1 0,.ptr 2 0]) (fun q:List Sim=>!(q.any fun c=>!lQ x y c)) L.rules false hl (by simp[LQm,L1,LV,aQ]) (by simp) (fun m hm=>hold1_u _ x y m (hq m hm) hr _ rfl);obtain⟨E,hE⟩:∃E,E=ixP (fun q:List Sim=>!(q.any fun c=>!lQ x y c)) L.rules 0:=⟨_,rfl⟩;rw[←hE]at hc ⊢;simp only[LQm,L1,LV]at hc;refine sPx Tryz.func96 rfl rfl ?_;simp -dsimp[Tryz.f96,oE,aV,aC,LV,L1,LQm];refine aL.mono (K:=fun r H'=>r = .int .i64 E∧H'=_) hc ?_;rintro r H' ⟨rfl,rfl⟩;simp -dsimp[]
def jG(n:Nat):Rw:=⟨0,oE n ⟨0,0,oF⟩⟩
def lvR(n:Nat):List Sim→Int
 | []=>0
 | c::cs=>if mchE (jG n) (jG n) c=0 then lvR n cs else mchE (jG n) (jG n) c
def lvQ(n:Nat):List (List Sim)→Int
 | []=>0
 | q::qs=>if q.length<1∨6<q.length then 1 else if lvR n q=0 then lvQ n qs else lvR n q
def outZ(n k:Int):Bool:=decide (k<0)||decide (n≤k)
def svZ(k:Int):Bool:=decide (k<1)||decide (5<k)
def lvE(n:Int)(L:Lnk):Int :=
 if n<0∨16<n then 7 else if 8<L.rules.length then 3 else
 if ¬lvQ n.toNat L.rules=0 then lvQ n.toNat L.rules else
 if(L.block.any fun k=>outZ n k)=true then 6 else
 if ¬(dK (cz L.block)).length=L.block.length then 1 else
 if ¬(L.surv.length:Int)=n then 6 else
 if(L.surv.any fun k=>svZ k)=true then 1 else 0
theorem lv1_u(n k:Int)(G:List B):∀H:List B,H=B.cells [.int .i64 n]::G→aL Tryz.prog (.fn 161 [.ptr 0 0]) [.int .i64 k] H fun r H'=>r = .bool (outZ n k)∧H'=H:=by
 intro H hH;subst hH;unfold outZ;simp only[aL,pg,pH];by_cases h1:k<0
 ·refine aE tok Tryz.func161 rfl rfl ?_;refine wx ?_;simp -dsimp[Tryz.f161,oE,h1]
 ·by_cases h2:n≤k
  ·refine aE tok Tryz.func161 rfl rfl ?_;refine wx ?_;simp -dsimp[Tryz.f161,oE,h1,h2]
  ·refine aE tok Tryz.func161 rfl rfl ?_;refine wx ?_;simp -dsimp[Tryz.f161,oE,h1,h2]
theorem lv2_u(k:Int)(H:List B):aL Tryz.prog (.fn 165 []) [.int .i64 k] H fun r H'=>r = .bool (svZ k)∧H'=H:=by
 unfold svZ;simp only[aL,pg,pH];by_cases h1:k<1
 ·refine aE tok Tryz.func165 rfl rfl ?_;refine wx ?_;simp -dsimp[Tryz.f165,oE,h1]
 ·by_cases h2:5<k
  ·refine aE tok Tryz.func165 rfl rfl ?_;refine wx ?_;simp -dsimp[Tryz.f165,oE,h1,h2]
  ·refine aE tok Tryz.func165 rfl rfl ?_;refine wx ?_;simp -dsimp[Tryz.f165,oE,h1,h2]
theorem lvalid_u(n:Int)(L:Lnk)(hb:L.block.length≤1100000):aJ Tryz.prog 94 [.int .i64 n,aV L] fun r=>r = .int .i64 (lvE n L):=by
 unfold lvE;by_cases h1:n<0
 ·rw[if_pos (.inl h1)];refine sPx Tryz.func94 rfl rfl ?_;simp -dsimp[Tryz.f94,oE,aV,LQm,L1,h1]
 by_cases h2:16<n
 ·rw[if_pos (.inr h2)];refine sPx Tryz.func94 rfl rfl ?_;simp -dsimp[Tryz.f94,oE,aV,LQm,L1,h1,h2]
 rw[if_neg (fun h=>h.elim h1 h2)];by_cases h3:8<L.rules.length
 ·rw[if_pos h3];refine sPx Tryz.func94 rfl rfl ?_;simp -dsimp[Tryz.f94,oE,aV,LQm,L1,h1,h2,show(8:Int)<(L.rules.length:Int) by omega]
 rw[if_neg h3];obtain⟨m,hm⟩:=pU (show 0≤n by omega);subst hm;rw[show((m:Int)).toNat=m from rfl]
 obtain⟨b1,hb1⟩:∃b1,b1=L.block.any fun k=>outZ (m:Int) k:=⟨_,rfl⟩
 obtain⟨b2,hb2⟩:∃b2,b2=L.surv.any fun k=>svZ k:=⟨_,rfl⟩
 obtain⟨W,hW⟩:∃W,W=dK (cz L.block):=⟨_,rfl⟩;rw[←hb1,←hb2,←hW];refine sPx Tryz.func94 rfl rfl ?_;simp -dsimp[Tryz.f94,oE,aV,LQm,L1,h1,h2,show ¬(8:Int)<(L.rules.length:Int) by omega,show ¬16<m by omega,show 32*(m:Int)≤281474976710656 by omega,show(m:Int)≤9223372036854775807 by omega];obtain⟨Z,hZ⟩:∃Z,Z=oE m (V.agg [.int .i64 0,.int .i64 0,.str oF]):=⟨_,rfl⟩;obtain⟨H0,hH0⟩:∃H0,H0=[B.cells [.int .i64 (m:Int)],B.cells [.lst 1 false (L.rules.map (LSm false)),.lst 1 false (L.block.map aQ),.lst 1 false (L.surv.map aQ)],B.buf 79 3 Z true,B.cells [.int .i64 0,.lst 3 false Z]]:=⟨_,rfl⟩;obtain⟨Q0,hQ0⟩:∃Q0,Q0=lvQ m L.rules:=⟨_,rfl⟩;rw[←hQ0]
 have hZl:Z.length=m:=by rw[hZ];simp
 have hZp:∀x∈Z,AM.Pure x:=by rw[hZ];intro x hx;rw[pi hx];simp
 refine aI (eG 2 [] 3 [1] rfl rfl (by simp) (by simp) (W_loopM 59 0x7ffffffe0000e90 (by simp[mB]<;>rfl) (σ:=Nat) (fun i=>i≤L.rules.length∧lvQ m (L.rules.drop i)=Q0) (fun i=>L.rules.length-i) (fun i=>[(29,.int .i64 i)]) (fun i=>H0) 0 ⟨by omega,by rw[pC,hQ0]⟩ (by simp[bi]) (by simp[bi,hH0,hZ]) (by simp[hH0,hZ,aQ]) ?_));rintro i ⟨i1,i2⟩ N Q hN hQ;subst hH0;by_cases hb':i<L.rules.length
 ·obtain⟨q,hq⟩:∃q,q=L.rules[i]:=⟨_,rfl⟩;rw[oK hb',lvQ,←hq]at i2;have wi:=aP i (by omega);by_cases l0:q.length<1
  ·rw[if_pos (.inl l0)]at i2;have l1:q=[]:=List.length_eq_zero_iff.1 (by omega);refine wx ?_;simp -dsimp[hb',hq.symm,LSm,l1];refine hQ _ _ _ ?_;simp -dsimp[i2.symm]
  have l1:¬q=[]:=fun h=>l0 (by rw[h];exact qL 0)
  by_cases l2:6<q.length
  ·rw[if_pos (.inr l2)]at i2;refine wx ?_;simp -dsimp[hb',hq.symm,LSm,l1,l0,show(1:Int)≤(q.length:Int) by omega,show ¬(q.length:Int)<1 by omega,show(6:Int)<(q.length:Int) by omega,l2];refine hQ _ _ _ ?_;simp -dsimp[i2.symm]
  rw[if_neg (fun h=>h.elim l0 l2)]at i2;obtain⟨R,hR⟩:∃R,R=lvR m q:=⟨_,rfl⟩;rw[←hR]at i2;refine wx ?_;simp -dsimp[hb',hq.symm,LSm,l1,l0,show(1:Int)≤(q.length:Int) by omega,show ¬(q.length:Int)<1 by omega,show ¬(6:Int)<(q.length:Int) by omega,l2];refine aI (W_loopM 58 0x3fff80000000e10 (by simp[mB]<;>rfl) (σ:=Nat) (fun j=>j≤q.length∧lvR m (q.drop j)=R) (fun j=>q.length-j) (fun j=>[(43,.int .i64 j)]) (fun _=>[B.cells [.int .i64 (m:Int)],B.cells [.lst 1 false (L.rules.map (LSm false)),.lst 1 false (L.block.map aQ),.lst 1 false (L.surv.map aQ)],B.buf 79 3 Z true,B.cells [.int .i64 0,.lst 3 false Z]]) 0 ⟨by omega,by rw[pC,hR]⟩ (by simp) (by simp[LSm]) (by simp[hZ,aQ]) ?_);rintro j ⟨j1,j2⟩ N2 Q2 hN2 hQ2;by_cases hj:j<q.length
  ·obtain⟨c,hc⟩:∃c,c=q[j]:=⟨_,rfl⟩;rw[oK hj,lvR,←hc]at j2;have c1:=match_u (jG m) (jG m) c;simp only[aC,jG,LV,List.map_replicate,aF,bD]at c1;rw[←hZ]at c1
   change aJ _ _ _ (fun r=>r = .tup [.bool (lQ (jG m) (jG m) c),.int .i64 (mchE (jG m) (jG m) c)]) at c1
   obtain⟨E,hE⟩:∃E,E=mchE (jG m) (jG m) c:=⟨_,rfl⟩;obtain⟨D,hD⟩:∃D,D=lQ (jG m) (jG m) c:=⟨_,rfl⟩;rw[←hE]at c1 j2;rw[←hD]at c1;by_cases he:E=0
   ·rw[if_pos he]at j2;refine wx ?_;simp -dsimp[hj,hc.symm,bD];refine cPx c1 (by simp;exact hZp) ?_;simp -dsimp[he,aP j (by omega)];refine hN2 (j+1) _ _ ⟨by omega,j2⟩ (by omega) (by simp) ⟨[_],rfl⟩ ?_ ?_
    ·simp[hZ,aQ]
    ·simp[hZ,aQ]
   ·rw[if_neg he]at j2
    have hQE:Q0=E:=by rw[←i2,←j2,if_neg he]
    refine wx ?_;simp -dsimp[hj,hc.symm,bD];refine cPx c1 (by simp;exact hZp) ?_;simp -dsimp[he];refine hQ2 _ _ _ ?_;simp -dsimp[];refine hQ _ _ _ ?_;simp -dsimp[hQE,he]
  ·rw[oV (by omega),lvR]at j2;rw[if_pos j2.symm]at i2;refine wx ?_;simp -dsimp[hj];refine hQ2 _ _ _ ?_;simp -dsimp[wi];refine hN (i+1) _ _ ⟨by omega,i2⟩ (by omega) (by simp) ⟨[],by simp⟩ ?_ ?_
   ·simp[hZ,aQ]
   ·simp[hZ,aQ]
 ·rw[oV (by omega),lvQ]at i2;subst i2;have hB:=nb [B.cells [.int .i64 (m:Int)],B.cells [.lst 1 false (L.rules.map (LSm false)),.lst 1 false (L.block.map aQ),.lst 1 false (L.surv.map aQ)],B.buf 79 3 Z true,B.cells [.int .i64 0,.lst 3 false Z]] (.fn 161 [.ptr 0 0]) (fun k=>outZ m k) L.block false hb (by simp[hZ,aQ]) (by simp) (fun k _=>lv1_u m k _ _ rfl);rw[←hb1]at hB;simp only[L1]at hB;refine wx ?_;simp -dsimp[hb'];refine hQ _ _ _ ?_;simp -dsimp[];refine aL.mono (K:=fun r H'=>r = .bool b1∧H'=_) hB ?_;rintro r H' ⟨rfl,rfl⟩;cases b1
  case true =>
   simp -dsimp[]
  have cc:=cloneI L.block false hb;simp only[L1]at cc;simp -dsimp[];refine(fb cc (by simp)).mono ?_;rintro r H' ⟨e,z,xs,rfl,rfl,_,rfl,rfl,rfl⟩;simp -dsimp[]
  obtain⟨G0,hG0⟩:∃G0,G0=fun b:List V=>[B.cells [.int .i64 (m:Int)],B.cells [.lst 1 false (L.rules.map (LSm false)),.lst 1 false (L.block.map aQ),.lst 1 false (L.surv.map aQ)],B.buf 79 3 Z true,B.cells [.int .i64 0,.lst 3 false Z],B.buf 3 1 b false]:=⟨_,rfl⟩
  have hso:=sortI_u (H:=G0 (L.block.map aQ)) (k:=4) (e:=3) L.block L.block.length rfl (by omega) (by rw[hG0];rfl);have hsl:(cz L.block).length=L.block.length:=qn _
  have hG1:(G0 (L.block.map aQ)).set 4 (.buf 3 1 ((cz L.block).map aQ) false)=G0 (czL (cz L.block)):=by rw[hG0];rfl
  have hcz:CZ (G0 []) 4 (cz L.block)=G0 (czL (cz L.block)):=by rw[hG0];rfl
  have hco:=nh (H:=G0 []) (k0:=4) (by rw[hG0];simp) (by rw[hG0];simp[hZ,aQ]) (cz L.block) L.block.length hsl hb;rw[hcz,←hW]at hco;obtain⟨W2,hW2⟩:∃W2,W2=W++oE (L.block.length-W.length) 0:=⟨_,rfl⟩;rw[←hW2]at hco
  have hcz2:CZ (G0 []) 4 W2=G0 (czL W2):=by rw[hG0];rfl
  rw[hcz2]at hco;rw[hG1]at hso;obtain⟨S1,hS1⟩:∃S1,S1=czL (cz L.block):=⟨_,rfl⟩;obtain⟨S2,hS2⟩:∃S2,S2=czL W2:=⟨_,rfl⟩;rw[←hS1]at hso hco;rw[←hS2]at hco
  have hS2l:S2.length=L.block.length:=by
   have:=lW (cz L.block) (cz L.block).length
   have h9:W.length≤(cz L.block).length:=by rw[hW];exact this
   rw[hS2,bo,hW2,oT,List.length_replicate];omega
  subst hG0;refine wcEm hso ?_;simp -dsimp[];refine .inl (aI (aX tok mixed [1] [(3,[0]),(4,[0]),(5,[0])] [(.buf 4 0 W.length L.block.length,[B.cells [.int .i64 (m:Int)],B.cells [.lst 1 false (L.rules.map (LSm false)),.lst 1 false (L.block.map aQ),.lst 1 false (L.surv.map aQ)],B.buf 79 3 Z true,B.cells [.int .i64 0,.lst 3 false Z],B.buf 3 1 S2 false])] (by kernel_rfl) fun C K hC hK=>?_));simp -implicitDefEqProofs [hS2l];refine⟨hC _ _ _ _ hco,hK _ _ ?_⟩;by_cases hw:W.length=L.block.length
  case neg =>
   simp -dsimp[hw,show ¬(W.length:Int)=(L.block.length:Int) by omega]
  by_cases hs:(L.surv.length:Int)=(m:Int)
  case neg =>
   simp -dsimp[hw,hs]
  have hB2:=nb [B.cells [.int .i64 (m:Int)],B.cells [.lst 1 false (L.rules.map (LSm false)),.lst 1 false (L.block.map aQ),.lst 1 false (L.surv.map aQ)],B.buf 79 3 Z true,B.cells [.int .i64 0,.lst 3 false Z],B.buf 3 1 S2 false] (.fn 165 []) (fun k=>svZ k) L.surv false (by omega) (by simp[hZ,aQ,hS2,czL]) (by simp) (fun k _=>lv2_u k _);rw[←hb2]at hB2;simp only[L1]at hB2;simp -dsimp[hw,hs];refine aL.mono (K:=fun r H'=>r = .bool b2∧H'=_) hB2 ?_;rintro r H' ⟨rfl,rfl⟩;cases b2
  case true =>
   simp -dsimp[hw,hs]
  simp -dsimp[hw,hs]
def fD(t:Tb)(L:Lnk):Int :=
 if ¬aG t=0 then aG t else if ¬lvE t.attrs.length L=0 then lvE t.attrs.length L else if 200<t.rows.length then 3 else 0
theorem limits_u(t:Tb)(f g:Bool)(L:Lnk)(hb:L.block.length≤1100000)(hV:aJ Tryz.prog 31 [aD f g t] fun r=>r = .int .i64 (aG t)):aJ Tryz.prog 43 [aD f g t,aV L] fun r=>r = .int .i64 (fD t L):=by
 have c2:=lvalid_u (t.attrs.length:Int) L hb;unfold fD;obtain⟨a,ha⟩:∃a,a=aG t:=⟨_,rfl⟩;obtain⟨b,hb2⟩:∃b,b=lvE (t.attrs.length:Int) L:=⟨_,rfl⟩;rw[←ha]at hV ⊢;rw[←hb2]at c2 ⊢;simp only[aD,aV,LS,LR,LQm,L1]at hV c2;by_cases h1:a=0
 case neg =>
  refine sPx Tryz.func43 rfl rfl ?_;simp -dsimp[Tryz.f43,oE,aD,aV,LS,LR,LQm,L1];refine cPx (hV) (by simp) ?_;simp -dsimp[h1]
 by_cases h2:b=0
 case neg =>
  refine sPx Tryz.func43 rfl rfl ?_;simp -dsimp[Tryz.f43,oE,aD,aV,LS,LR,LQm,L1];refine cPx (hV) (by simp) ?_;simp -dsimp[h1];refine cPx (c2) (by simp) ?_;simp -dsimp[h1,h2]
 by_cases h3:200<t.rows.length
 ·refine sPx Tryz.func43 rfl rfl ?_;simp -dsimp[Tryz.f43,oE,aD,aV,LS,LR,LQm,L1];refine cPx (hV) (by simp) ?_;simp -dsimp[h1];refine cPx (c2) (by simp) ?_;simp -dsimp[h1,h2,h3,show(200:Int)<(t.rows.length:Int) by omega]
 ·refine sPx Tryz.func43 rfl rfl ?_;simp -dsimp[Tryz.f43,oE,aD,aV,LS,LR,LQm,L1];refine cPx (hV) (by simp) ?_;simp -dsimp[h1];refine cPx (c2) (by simp) ?_;simp -dsimp[h1,h2,h3,show ¬(200:Int)<(t.rows.length:Int) by omega]
def mtB(L:Lnk)(x y:Rw):Bool:=compB L x y&&decide (0≤holdI L x y)
def mtJ(L:Lnk)(x:Rw)(i:Nat):Nat→List Rw→List (Nat×Nat)
 | _,[]=>[]
 | j,y::ys=>if mtB L x y=true then(i,j)::mtJ L x i (j+1) ys else mtJ L x i (j+1) ys
def mtI(L:Lnk):Nat→List Rw→List (Nat×Nat)
 | _,[]=>[]
 | i,x::xs=>mtJ L x i (i+1) xs++mtI L (i+1) xs
theorem mtJ_len(L:Lnk)(x:Rw)(i:Nat):∀(ys:List Rw) (j:Nat),(mtJ L x i j ys).length≤ys.length
 | [],_=>by simp[mtJ]
 | y::ys,j=>by
  have:=mtJ_len L x i ys (j+1);rw[mtJ];split<;>simp<;>omega
theorem lm(L:Lnk):∀(xs:List Rw) (i:Nat),(mtI L i xs).length≤xs.length*xs.length
 | [],_=>by simp[mtI]
 | x::xs,i=>by
  have h1:=lm L xs (i+1);have h2:=mtJ_len L x i xs (i+1);rw[mtI,oT,og,Nat.succ_mul,Nat.mul_succ];omega
def dp(p:Nat×Nat):V:=.agg [.int .i64 p.1,.int .i64 p.2]
def prM(l:List (Nat×Nat)):List V:=l.map dp
theorem dW(l:List (Nat×Nat)):(prM l).length=l.length:=by simp[prM]
theorem prM_app(l:List (Nat×Nat))(i j:Nat):prM l++[.agg [.int .i64 (i:Int),.int .i64 (j:Int)]]=prM (l++[(i,j)]):=by simp[prM,dp]
theorem dC(l:List (Nat×Nat)):∀x∈prM l,AM.Pure x:=by
 intro x hx;obtain⟨c,_,rfl⟩:=List.mem_map.1 hx;simp[dp]
theorem mY(n e:Nat)(l:List (Nat×Nat))(fz:Bool):rbB n (.buf e 2 (prM l) fz):=by
 simp[prM,dp];rintro x a b _ rfl;simp
theorem matches_u(t:Tb)(f g:Bool)(L:Lnk)(hr:t.rows.length≤200)(hbl:L.block.length≤1100000)(hl:L.rules.length≤2000000)(hq:∀q∈L.rules,q.length≤2000000)(hk:∀x∈t.rows,∀y∈t.rows,blkOk L x y):
  aJ Tryz.prog 44 [aD f g t,aV L] fun r=>r = .lst 2 false (prM (mtI L 0 t.rows)):=by
 obtain⟨M,hM⟩:∃M,M=mtI L 0 t.rows:=⟨_,rfl⟩
 have hMl:M.length≤40000:=by
  have h1:=lm L t.rows 0;have h2:t.rows.length*t.rows.length≤200*200:=qy hr hr;rw[hM];omega
 rw[←hM];refine au (aE tok Tryz.func44 rfl rfl ?_);refine wx ?_;simp -dsimp[Tryz.f44,oE,aD,aV,LS,LR,LQm,L1];refine aI (eI 129 2 [5] (by simp) (W_loopM 50 0x3ffffffffe3e0 (by simp[mB]<;>rfl) (σ:=Nat×List (Nat×Nat)) (fun p=>p.1≤t.rows.length∧p.2++mtI L p.1 (t.rows.drop p.1)=M) (fun p=>t.rows.length-p.1) (fun p=>[(13,.int .i64 p.1),(5,.buf 2 0 p.2.length p.2.length)]) (fun p=>[B.cells [.str t.name,.lst 1 f (t.attrs.map V.str),.lst 2 g (t.rows.map aC)],B.cells [.lst 1 false (L.rules.map (LSm false)),.lst 1 false (L.block.map aQ),.lst 1 false (L.surv.map aQ)],B.buf 129 2 (prM p.2) false]) (0,[]) ⟨by simp,by rw[hM];rfl⟩ (by simp) (by simp[prM]) (by simp) ?_));rintro⟨i,o⟩ ⟨i1,i2⟩ N Q hN hQ;simp only at i1 i2 hN;have wi:=aP i (by omega);have hol:=dW o;by_cases hb:i<t.rows.length
 ·obtain⟨x,hx⟩:∃x,x=t.rows[i]:=⟨_,rfl⟩
  have hxm:x∈t.rows:=by rw[hx];exact oI hb
  rw[oK hb,mtI,←hx]at i2;obtain⟨A,hA⟩:∃A,A=o++mtJ L x i (i+1) (t.rows.drop (i+1)):=⟨_,rfl⟩;rw[←oh,←hA]at i2
  have hAl:A.length≤40000:=by have:=congrArg List.length i2;rw[oT]at this;omega
  refine wx ?_;simp -dsimp[hb,hx.symm,aC,LV,wi];refine aI (W_loopM 49 0x1fffffff00320 (by simp[mB]<;>rfl) (σ:=Nat×List (Nat×Nat)) (fun p=>p.1≤t.rows.length∧p.2++mtJ L x i p.1 (t.rows.drop p.1)=A) (fun p=>t.rows.length-p.1) (fun p=>[(8,.int .i64 p.1),(5,.buf 2 0 p.2.length p.2.length)]) (fun p=>[B.cells [.str t.name,.lst 1 f (t.attrs.map V.str),.lst 2 g (t.rows.map aC)],B.cells [.lst 1 false (L.rules.map (LSm false)),.lst 1 false (L.block.map aQ),.lst 1 false (L.surv.map aQ)],B.buf 129 2 (prM p.2) false,B.cells [.int .i64 x.id,.lst 3 false (x.vals.map aF)]]) (i+1,o) ⟨by simp only;omega,by rw[hA]⟩ (by simp) (by simp) (by simp) ?_);rintro⟨j,u⟩ ⟨j1,j2⟩ N2 Q2 hN2 hQ2;simp only at j1 j2 hN2;have wj:=aP j (by omega);have hul:=dW u;by_cases hj:j<t.rows.length
  ·obtain⟨y,hy⟩:∃y,y=t.rows[j]:=⟨_,rfl⟩
   have hym:y∈t.rows:=by rw[hy];exact oI hj
   rw[oK hj,mtJ,←hy]at j2;have c1:=comp_u L x y (hk x hxm y hym) hbl;have c2:=holds_u L x y hl hq;simp only[aV,aC,LV,LQm,L1]at c1 c2;have hmt:mtB L x y=(compB L x y&&decide (0≤holdI L x y)):=rfl;rw[hmt]at j2;obtain⟨E,hE⟩:∃E,E=holdI L x y:=⟨_,rfl⟩;rw[←hE]at c2 j2;obtain⟨D,hD⟩:∃D,D=compB L x y:=⟨_,rfl⟩;rw[←hD]at c1 j2;cases D
   case false =>
    rw[pF,if_neg (by simp)]at j2;refine wx ?_;simp -dsimp[hj,hy.symm,aC,LV];refine cPx (c1) (by simp) ?_;simp -dsimp[wj];refine hN2 (j+1,u) _ _ ⟨by simp only;omega,j2⟩ (by simp only;omega) (by simp) ⟨[_],rfl⟩ (by simp[LSm]) (by simp[LSm];exact mY 4 0 _ false)
   rw[pE]at j2;by_cases he:0≤E
   case neg =>
    rw[decide_eq_false he,if_neg (by simp)]at j2;refine wx ?_;simp -dsimp[hj,hy.symm,aC,LV];refine cPx (c1) (by simp) ?_;simp -dsimp[];refine cPx (c2) (by simp) ?_;simp -dsimp[he,wj];refine hN2 (j+1,u) _ _ ⟨by simp only;omega,j2⟩ (by simp only;omega) (by simp) ⟨[_],rfl⟩ (by simp[LSm]) (by simp[LSm];exact mY 4 0 _ false)
   rw[decide_eq_true he,if_pos rfl]at j2
   have hu2:u.length<40000:=by have:=congrArg List.length j2;rw[oT,og]at this;omega
   have cap:=cap16m u.length (by omega);refine wx ?_;simp -dsimp[hj,hy.symm,aC,LV];refine cPx (c1) (by simp) ?_;simp -dsimp[];refine cPx (c2) (by simp) ?_;simp -dsimp[he,wj,hul,prM_app,cap.1,cap.2];refine hN2 (j+1,u++[(i,j)]) _ _ ⟨by simp only;omega,by rw[←j2];simp⟩ (by simp only;omega) (by simp) ⟨[B.cells [.int .i64 y.id,.lst 3 false (y.vals.map aF)]],by simp⟩ (by simp[LSm]) (by simp[LSm];exact mY 4 0 _ false)
  ·rw[oV (by omega),mtJ,oU]at j2;subst j2;refine wx ?_;simp -dsimp[hj];refine hQ2 _ _ _ ?_;simp -dsimp[wi];refine hN (i+1,u) _ _ ⟨by simp only;omega,i2⟩ (by simp only;omega) (by simp) ⟨[_],rfl⟩ (by simp[LSm]) (by simp[LSm];exact mY 3 0 _ false)
 ·rw[oV (by omega),mtI,oU]at i2;subst i2;refine wx ?_;simp -dsimp[hb];refine hQ _ _ _ ?_;simp -dsimp[];exact⟨kg (dW o).symm rfl (dC o),dC o⟩
def outP(n:Nat)(p:Nat×Nat):Bool:=decide (n≤p.1)||decide (n≤p.2)
def gvE(n:Nat)(es:List (Nat×Nat)):Int :=
 if 1000<n∨20000<es.length then 3 else if es.any (outP n)=true then 1 else 0
theorem gvalid_u(n:Nat)(es:List (Nat×Nat))(hn:n≤1000)(hl:es.length≤20000):aJ Tryz.prog 97 [.int .i64 n,.lst 2 false (prM es)] fun r=>r = .int .i64 (gvE n es):=by
 unfold gvE;rw[if_neg (by omega)];obtain⟨A,hA⟩:∃A,A=es.any (outP n):=⟨_,rfl⟩;rw[←hA];have hpl:=dW es;refine sPx Tryz.func97 rfl rfl ?_;simp -dsimp[Tryz.f97,oE,hpl,show ¬(n:Int)<0 by omega,show ¬(1000:Int)<(n:Int) by omega,show ¬1000<n by omega,show ¬(20000:Int)<(es.length:Int) by omega,show ¬20000<es.length by omega];refine aI (W_loopM 40 0xfffff00050 (by simp[mB]<;>rfl) (σ:=Nat) (fun i=>i≤es.length∧(es.drop i).any (outP n)=A) (fun i=>es.length-i) (fun i=>[(20,.int .i64 i)]) (fun _=>[]) 0 ⟨by omega,by rw[pC,hA]⟩ (by simp) (by simp) (by simp) ?_);rintro i ⟨i1,i2⟩ N Q hN hQ;have wi:=aP i (by omega);by_cases hb:i<es.length
 ·obtain⟨p,hp⟩:∃p,p=es[i]:=⟨_,rfl⟩;rw[oK hb,qW,←hp]at i2
  have hg:∀h,(prM es)[i]'h = .agg [.int .i64 p.1,.int .i64 p.2]:=fun h=>by simp[prM,dp,hp]
  obtain⟨mi,hmi⟩:∃mi:Nat,(if p.2<p.1 then(p.2:Int) else(p.1:Int))=(mi:Int):=by split<;>exact⟨_,rfl⟩
  obtain⟨mx,hmx,hmo⟩:∃mx:Nat,(if p.1<p.2 then(p.2:Int) else(p.1:Int))=(mx:Int)∧outP n p=decide (n≤mx):=by
   split
   ·exact⟨p.2,rfl,by unfold outP;rw[qS];simp;omega⟩
   ·exact⟨p.1,rfl,by unfold outP;rw[qS];simp;omega⟩
  rw[hmo]at i2;by_cases h1:n≤mx
  ·rw[decide_eq_true h1,rT]at i2;refine wx ?_;simp -dsimp[hb,hpl,hg,hmi,hmx,h1,show ¬(mi:Int)<0 by omega];refine hQ _ _ _ ?_;simp -dsimp[i2.symm]
  ·rw[decide_eq_false h1,pr]at i2;refine wx ?_;simp -dsimp[hb,hpl,hg,hmi,hmx,h1,wi,show ¬(mi:Int)<0 by omega];refine hN (i+1) _ _ ⟨by omega,i2⟩ (by omega) (by simp) ⟨[_],rfl⟩ (by simp;exact dC es) (by simp)
 ·rw[oV (by omega),List.any_nil]at i2;subst i2;refine wx ?_;simp -dsimp[hb,hpl];refine hQ _ _ _ ?_;simp -dsimp[]
def swP(p:Nat×Nat):Nat×Nat:=(p.2,p.1)
def rvL(es:List (Nat×Nat))(i:Nat):List (Nat×Nat):=(es.take i).map swP++oE (es.length-i) (0,0)
theorem rvL_len{es:List (Nat×Nat)}{i:Nat}(h:i≤es.length):(rvL es i).length=es.length:=by simp[rvL];omega
theorem rvL_zero(es:List (Nat×Nat)):prM (rvL es 0)=oE es.length (.agg [.int .i64 0,.int .i64 0]):=by simp[rvL,prM,dp]
theorem rvL_set(es:List (Nat×Nat))(i:Nat)(p:Nat×Nat)(h:es[i]?=some p):(prM (rvL es i)).set i (.agg [.int .i64 p.2,.int .i64 p.1])=prM (rvL es (i+1)):=by
 have hi:=(List.getElem?_eq_some_iff.1 h).1;have h2:=(List.getElem?_eq_some_iff.1 h).2
 have e:(rvL es i).set i (swP p)=rvL es (i+1):=by
  unfold rvL;rw[pt _ _ (by simp;omega),show es.length-i=(es.length-(i+1))+1 by omega,List.replicate_succ,oN hi,oe,oh];simp[show min i es.length=i by omega,h2]
 rw[←e];unfold prM;rw[qw];rfl
theorem reversed_u(es:List (Nat×Nat))(hl:es.length≤20000):aJ Tryz.prog 100 [.lst 2 false (prM es)] fun r=>r = .lst 2 false (prM (es.map swP)):=by
 have hpl:=dW es;refine au (aE tok Tryz.func100 rfl rfl ?_);refine wx ?_;simp -dsimp[Tryz.f100,oE,hpl,show 16*(es.length:Int)≤281474976710656 by omega,show(es.length:Int)≤9223372036854775807 by omega];refine aI (W_loopM 25 0x1fff830 (by simp[mB]<;>rfl) (σ:=Nat) (fun i=>i≤es.length) (fun i=>es.length-i) (fun i=>[(11,.int .i64 i)]) (fun i=>[B.buf 129 2 (prM (rvL es i)) false]) 0 (by omega) (by simp) (by rw[rvL_zero]) (by simp) ?_);rintro i hi N Q hN hQ;have wi:=aP i (by omega);have hrl:=rvL_len hi;have hql:=dW (rvL es i);rw[hrl]at hql;by_cases hb:i<es.length
 ·obtain⟨p,hp⟩:∃p,p=es[i]:=⟨_,rfl⟩
  have hpg:es[i]?=some p:=by rw[hp];simp[hb]
  have hg:∀h,(prM es)[i]'h = .agg [.int .i64 p.1,.int .i64 p.2]:=fun h=>by simp[prM,dp,hp]
  have hst:=rvL_set es i p hpg
  have hil:i<(rvL es i).length:=by omega
  have hg2:∀h,(prM (rvL es i))[i]'h = .agg [.int .i64 ((rvL es i)[i].1:Nat),.int .i64 ((rvL es i)[i].2:Nat)]:=fun h=>by simp[prM,dp]
  refine wx ?_;simp -dsimp[hb,hpl,hql,hg,hg2,hst,wi];refine hN (i+1) _ _ (by omega) (by omega) (by simp) ⟨[_],rfl⟩ (by simp;exact dC es) (fun bl hbl=>by rw[pM]at hbl;subst hbl;exact mY _ _ _ _)
 ·refine wx ?_;simp -dsimp[hb,hpl];refine hQ _ _ _ ?_;simp -dsimp[hql]
  have he:i=es.length:=by omega
  have hr:rvL es i=es.map swP:=by rw[he];simp[rvL]
  rw[hr];exact⟨kg (by rw[dW];simp) rfl (dC _),dC _⟩
end
end Go.Proofs.YtdnhplencamncaaGreatDoor
