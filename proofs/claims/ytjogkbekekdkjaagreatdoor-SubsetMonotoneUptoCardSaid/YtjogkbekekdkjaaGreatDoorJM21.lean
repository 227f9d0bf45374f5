/- JM21: own texts of this seat, joined and shortened by pack4.py: RO, RQ, RS. -/
import Derived.Test.YtjogkbekekdkjaaGreatDoorJM18
set_option linter.unusedVariables false
set_option linter.unusedSimpArgs false
set_option maxRecDepth 100000
set_option maxHeartbeats 64000000
open Bool renaming false_and→pS,and_false→rM,not_false→sR,and_true→sT
open ByteArray renaming empty→pE
open Int renaming tmod_lt_of_pos→pq,tmod_nonneg→pw
open List renaming replicate→ou,getElem_mem→ow,not_mem_nil→pA,mem_cons→pD,take_succ_eq_append_getElem→pJ,take_of_length_le→pX,length_map→pc,mem_singleton→pe,map_cons→qW,map_nil→rQ
open Nat renaming le_trans→ph
namespace Go.Proofs.YtjogkbekekdkjaaGreatDoor
section
open Go Go.AM
theorem members17(n:Nat)(l:List Int)(f:Bool)(hl:l.length≤9223372036854775807)(hv:∀c∈l,0≤c∧c<256)(hn:n≤100):aE Tryz.prog 108 [.int .i64 n,.lst 1 f (l.map bp)] fun r=>r=L1 false (mbF n l):=by
 by_cases h0:n=0
 ·subst h0;rw[show mbF 0 l=[] from rfl];refine sPx Tryz.func108 rfl rfl ?_;simp -dsimp[Tryz.f108,ou];refine aR (iR 3 1 [5] (by simp) (W_loopM 31 0x7fffffe0 (by simp[mB]<;>rfl) (σ:=Nat) (fun i=>i≤0) (fun i=>l.length-i) (fun i=>[(6,.int .i64 i),(5,.buf 0 0 i i)]) (fun i=>[B.buf 3 1 [] false]) 0 (by omega) (by simp) (by simp) (by simp) ?_));intro i hi N Q hN hQ
  obtain rfl:i=0:=by omega
  refine gY 0 [5] rfl (by simp) ?_;by_cases hb:0<l.length
  ·refine wx ?_;simp -dsimp[hb,show(0:Int)<l.length by omega];refine hQ _ _ _ ?_;simp -dsimp[L1]
  ·refine wx ?_;simp -dsimp[hb,show ¬(0:Int)<l.length by omega];refine hQ _ _ _ ?_;simp -dsimp[L1]
 ·have hmb:mbF n l=(l.take 5).map fun x=>x.tmod n:=by unfold mbF;rw[if_neg h0]
  obtain⟨M,hM⟩:∃M,M=mbF n l:=⟨_,rfl⟩
  have hMl:M.length=min 5 l.length:=by rw[hM,hmb];simp
  have hMi:∀i (h:i<l.length),i<5→M.take (i+1)=M.take i++[l[i].tmod n]:=fun i h h5=>by
   rw[pJ (by omega)];congr 2;simp[hM,hmb]
  rw[←hM]
  have hrb:∀l:List Int,∀bl∈[B.buf 3 1 (l.map au) false],rbB 1 bl:=fun l bl hbl=>by
   simp only[pe]at hbl;subst hbl;exact(rbB_buf1 (fun x hx=>by obtain⟨y,_,rfl⟩:=List.mem_map.1 hx;exact⟨by simp,rfl⟩)).2 trivial
  have hnp:(0:Int)<n:=by omega
  refine sPx Tryz.func108 rfl rfl ?_;simp -dsimp[Tryz.f108,ou];refine aR (iR 3 1 [5] (by simp) (W_loopM 31 0x7fffffe0 (by simp[mB]<;>rfl) (σ:=Nat) (fun i=>i≤l.length∧i≤5) (fun i=>l.length-i) (fun i=>[(6,.int .i64 i),(5,.buf 0 0 i i)]) (fun i=>[B.buf 3 1 ((M.take i).map au) false]) 0 (by omega) (by simp) (by simp) (by simp) ?_));rintro i ⟨hi,hi5⟩ N Q hN hQ
  have htl:(M.take i).length=i:=by simp;omega
  by_cases hb:i<l.length
  ·by_cases h5:i<5
   ·have hst:=hMi i hb h5;obtain⟨x,hxe⟩:∃x,x=l[i]:=⟨_,rfl⟩;have hx:=hv x (by rw[hxe];exact ow hb);rw[←hxe]at hst;have w1:IntKind.i64.wrap x=x:=wrap64 (by omega) (by omega);have t0:=pw (n:Int) hx.1;have t1:=pq x hnp;have w2:IntKind.i64.wrap (x.tmod n)=x.tmod n:=wrap64 (by omega) (by omega);obtain⟨m,hm⟩:∃m,m=M.take i:=⟨_,rfl⟩;rw[←hm]at hst htl ⊢;refine wx ?_;simp -dsimp[hb,hxe.symm,bp,h5,show(i:Int)<5 by omega,hnp,show 0<n by omega,h0,show ¬(n:Int)=0 by omega,w1,w2,htl,cap8 i (by omega),eJ i (by omega),aa i (by omega)];refine hN (i+1) _ _ ⟨by omega,by omega⟩ (by omega) (by simp) ⟨[],by simp[hst,au]⟩ (by simp) (hrb _)
   ·obtain rfl:i=5:=by omega
    rw[pX (by omega)];refine gY 0 [5] rfl (by simp;omega) ?_;refine wx ?_;simp -dsimp[hb,h5,show(5:Int)<l.length by omega];refine hQ _ _ _ ?_;simp -dsimp[L1]
    skip
  ·obtain rfl:i=l.length:=by omega
   rw[pX (by omega)];refine gY 0 [5] rfl (by simp;omega) ?_;refine wx ?_;simp -dsimp[hb];refine hQ _ _ _ ?_;simp -dsimp[L1]
   skip
theorem odOf17(n:Nat)(xs ys:List Int)(f g:Bool)(hl:xs.length≤9223372036854775807)(hv:∀c∈xs,0≤c∧c<256)(hl2:ys.length≤9223372036854775807)(hv2:∀c∈ys,0≤c∧c<256)(hn:n≤100):aE Tryz.prog 63 [.int .i64 n,.agg [.lst 1 f (xs.map bp),.lst 1 g (ys.map bp)]] fun r=>r=iV false false (odOf n xs ys):=by
 have c1:=members17 n xs f hl hv hn;have c2:=members17 n ys g hl2 hv2 hn;simp only[L1]at c1 c2;refine sPx Tryz.func63 rfl rfl ?_;simp -dsimp[Tryz.f63,ou];refine aR (ao tok mixed [9] [] [(.lst 1 false ((mbF n xs).map au),[]),(.lst 1 false ((mbF n ys).map au),[])] (by kernel_rfl) fun C K hC hK=>?_);simp -implicitDefEqProofs [];refine⟨⟨hC _ _ _ _ (aW c1 (by simp)),hC _ _ _ _ (aW c2 (by simp))⟩,hK _ _ ?_⟩;simp -dsimp[iV,odOf,L1]
theorem side18(n:Nat)(vars v c:Int)(hn:n≤100)(h1:1≤vars)(h3:vars≤3)(hv:0≤v∧v<256)(hc:0≤c∧c<256):aE Tryz.prog 109 [.int .i64 n,.int .i64 vars,.agg [.int .u8 v,.int .u8 c]] fun r=>r=dt (mz n vars v c):=by
 have w1:IntKind.i64.wrap v=v:=wrap64 (by omega) (by omega);have w2:IntKind.i64.wrap (vars+1)=vars+1:=wrap64 (by omega) (by omega);have t0:=pw (vars+1) hv.1;have t1:=pq v (show(0:Int)<vars+1 by omega);have w3:IntKind.i64.wrap (v.tmod (vars+1))=v.tmod (vars+1):=wrap64 (by omega) (by omega);have w4:IntKind.i64.wrap c=c:=wrap64 (by omega) (by omega);have c1:=of01 c;simp only[ac]at c1
 have hz:¬vars+1=0:=by omega
 unfold mz;obtain⟨q,hq⟩:∃q,q=v.tmod (vars+1):=⟨_,rfl⟩;rw[←hq]at t0 t1 w3 ⊢;have hq':=hq.symm;by_cases hq0:q=0
 ·rw[if_pos (.inl hq0)];refine sPx Tryz.func109 rfl rfl ?_;simp -dsimp[Tryz.f109,ou,w1,w2,hz,hq',w3,hq0];refine cPx (c1) (by simp) ?_;simp -dsimp[dt]
 ·by_cases h0:n=0
  ·rw[if_pos (.inr h0)];refine sPx Tryz.func109 rfl rfl ?_;simp -dsimp[Tryz.f109,ou,w1,w2,hz,hq',w3,hq0,h0];refine cPx (c1) (by simp) ?_;simp -dsimp[dt]
  ·rw[if_neg (by omega)];have s0:=pw (n:Int) hc.1;have s1:=pq c (show(0:Int)<n by omega);have w5:IntKind.i64.wrap (c.tmod n)=c.tmod n:=wrap64 (by omega) (by omega);refine sPx Tryz.func109 rfl rfl ?_;simp -dsimp[Tryz.f109,ou,w1,w2,hz,hq',w3,hq0,h0,show ¬(n:Int)=0 by omega,w4,w5];simp[dt,zV]
theorem dnOf18(n:Nat)(nv:Int)(sn:List Snt)(f:Bool)(hn:n≤100)(hv:0≤nv∧nv<256)(hl:sn.length≤2000000)(hs:∀s∈sn,SntOk s):aE Tryz.prog 64 [.int .i64 n,.agg [.int .u8 nv,.lst 5 f (sn.map cP)]] fun r=>r = .tup [gn false (dnOf n nv sn),.bool (decide (sn.length≤5))]:=by
 have t0:=pw 3 hv.1;have t1:=pq nv (show(0:Int)<3 by omega)
 have w0:IntKind.u8.wrap (nv.tmod 3)=nv.tmod 3:=by rw[IntKind.wrap_u8];omega
 have w1:IntKind.i64.wrap (nv.tmod 3)=nv.tmod 3:=wrap64 (by omega) (by omega);have w2:IntKind.i64.wrap (1+nv.tmod 3)=1+nv.tmod 3:=wrap64 (by omega) (by omega);have hdn:dnOf n nv sn=⟨1+nv.tmod 3,sn.map (atOf n (1+nv.tmod 3))⟩:=rfl;rw[hdn];obtain⟨q,hq⟩:∃q,q=nv.tmod 3:=⟨_,rfl⟩;rw[←hq]at t0 t1 w0 w1 w2 ⊢;obtain⟨vs,hvs⟩:∃vs,vs=1+q:=⟨_,rfl⟩;rw[←hvs]at w2 ⊢;have hq':=hq.symm;have hvs':=hvs.symm;obtain⟨A,hA⟩:∃A,A=sn.map (atOf n vs):=⟨_,rfl⟩
 have hAl:A.length=sn.length:=by rw[hA,pc]
 have hAi:∀i (h:i<sn.length),A.take (i+1)=A.take i++[atOf n vs sn[i]]:=fun i h=>by
  rw[pJ (by omega)];congr 2;simp[hA]
 rw[←hA]
 have hrb:∀(i:Nat) (al:List At),∀bl∈[B.cells [.int .u8 nv,.lst 5 f (sn.map cP)],B.cells [.int .i64 0,.nilS],B.cells [.int .i64 vs,.buf 3 0 i i],B.buf 213 11 (al.map du) false],rbB 4 bl:=fun i al bl hbl=>by
  simp only[pD,pA,or_false]at hbl
  rcases hbl with rfl | rfl | rfl | rfl
  ·intro c hc;simp at hc;rcases hc with rfl | rfl<;>simp[rb,rb1]
  ·intro c hc;simp at hc;rcases hc with rfl | rfl<;>simp[rb,rb1]
  ·intro c hc;simp at hc;rcases hc with rfl | rfl<;>simp[rb,rb1]
  ·exact atoms_rb _ _ _ _
 refine sPx Tryz.func64 rfl rfl ?_;simp -dsimp[Tryz.f64,ou,hq',w0,w1,hvs',w2];refine aR (dV 213 11 [] 2 [1] rfl (by simp) (by simp) (W_loopM 50 0x3ffffffff8180 (by simp[mB]<;>rfl) (σ:=Nat) (fun i=>i≤sn.length) (fun i=>sn.length-i) (fun i=>[(7,.int .i64 i)]) (fun i=>[B.cells [.int .u8 nv,.lst 5 f (sn.map cP)],B.cells [.int .i64 0,.nilS],B.cells [.int .i64 vs,.buf 3 0 i i],B.buf 213 11 ((A.take i).map du) false]) 0 (by omega) (by simp) (by simp) (by simp) ?_));intro i hi N Q hN hQ
 have htl:(A.take i).length=i:=by simp;omega
 by_cases hb:i<sn.length
 ·have hst:=hAi i hb;have hk:=hs _ (ow hb);obtain⟨s,hse⟩:∃s,s=sn[i]:=⟨_,rfl⟩;rw[←hse]at hst hk;have o0:=pw 4 hk.op.1;have o1:=pq s.op (show(0:Int)<4 by omega)
  have v0:IntKind.u8.wrap (s.op.tmod 4)=s.op.tmod 4:=by rw[IntKind.wrap_u8];omega
  have v1:IntKind.i64.wrap (s.op.tmod 4)=s.op.tmod 4:=wrap64 (by omega) (by omega);have v2:IntKind.i64.wrap (1+s.op.tmod 4)=1+s.op.tmod 4:=wrap64 (by omega) (by omega);have c1:=side18 n vs s.lv s.lc hn (by omega) (by omega) hk.lv hk.lc;have c2:=side18 n vs s.rv s.rc hn (by omega) (by omega) hk.rv hk.rc;have hat:atOf n vs s=⟨mz n vs s.lv s.lc,1+s.op.tmod 4,mz n vs s.rv s.rc⟩:=rfl;rw[hat]at hst;obtain⟨tl,htl1⟩:∃tl,tl=mz n vs s.lv s.lc:=⟨_,rfl⟩;obtain⟨tr,htr1⟩:∃tr,tr=mz n vs s.rv s.rc:=⟨_,rfl⟩;rw[←htl1]at c1 hst;rw[←htr1]at c2 hst;simp only[dt]at c1 c2;obtain⟨al,hal⟩:∃al,al=A.take i:=⟨_,rfl⟩;rw[←hal]at hst htl ⊢;refine wx ?_;simp -dsimp[hb,hse.symm,cP];refine aR (ao tok mixed [21,23] [] [(dt tl,[]),(dt tr,[])] (by kernel_rfl) fun C K hC hK=>?_);simp -implicitDefEqProofs [dt,v0,v1,v2,htl,cap104 i (by omega),eJ i (by omega)];refine⟨⟨hC _ _ _ _ (aW c1 (by simp)),hC _ _ _ _ (aW c2 (by simp))⟩,hK _ _ ?_⟩;simp -dsimp[aa i (by omega)];refine hN (i+1) _ _ (by omega) (by omega) (by simp) ⟨[B.cells [.int .u8 s.lv,.int .u8 s.lc,.int .u8 s.op,.int .u8 s.rv,.int .u8 s.rc]],by simp[hst,du]⟩ (by simp) (hrb _ _)
 ·obtain rfl:i=sn.length:=by omega
  rw[pX (by omega)];refine eI 3 [] 2 [1] rfl rfl (by simp) (by simp[hAl]) ?_;refine wx ?_;simp -dsimp[hb];refine hQ _ _ _ ?_;simp -dsimp[]
  have h5:((sn.length:Int)≤5)↔sn.length≤5:=by omega
  refine aR (ao tok mixed [5] [(1,[1]),(2,[1]),(3,[1]),(4,[1])] [] (by kernel_rfl) fun C K hC hK=>?_);simp -implicitDefEqProofs [h5];refine hK _ _ ?_;simp -dsimp[gn,LA]
  done
theorem u32u8{c:Int}(h:0≤c∧c<256):IntKind.u32.wrap c=c:=by rw[IntKind.wrap_u32];omega
theorem capCl(n:Nat)(h:n≤1000000000):n≤9223372036854775806∧(n+1)*40≤140737488355328:=by omega
theorem cls_rb(n e:Nat)(al:List Cl)(fz:Bool):rbB n (.buf e 4 (al.map dG) fz):=by
 intro x hx;obtain⟨y,_,rfl⟩:=List.mem_map.1 hx;intro c hc;simp only[dG,V.cells,pD,pA,or_false]at hc
 rcases hc with rfl | rfl | rfl | rfl<;>simp[rb,rb1]
theorem nums_rb(n e:Nat)(l:List Int)(fz:Bool):rbB n (.buf e 1 (l.map au) fz):=by
 intro x hx;obtain⟨y,_,rfl⟩:=List.mem_map.1 hx;intro c hc;simp only[au,V.cells,pD,pA,or_false]at hc;subst hc;simp[rb1]
theorem cfOf16(n:Nat)(s b:Int)(cs:List Int)(f:Bool)(hn0:0<n)(hn:n≤16)(hs:0≤s∧s<256)(hb:0≤b∧b<256)(hl:cs.length≤9223372036854775807)(hv:∀c∈cs,0≤c∧c<256):aE Tryz.prog 62 [.int .i64 n,.agg [.int .u8 s,.int .u8 b,.lst 1 f (cs.map bp)]] fun r=>r=gT false false (cfOf n s b cs):=by
 obtain⟨r1,r2⟩:=cfR_lt hn0 hb.1;unfold cfOf;obtain⟨R,hR⟩:∃R,R=cfR n b:=⟨_,rfl⟩;rw[←hR]at r1 r2 ⊢;have w1:IntKind.i64.wrap b=b:=wrap64 (by omega) (by omega);have w2:IntKind.i64.wrap (R:Int)=(R:Int):=wrap64 (by omega) (by omega);have ws:=u32u8 hs
 have hnz:¬(n:Int)=0:=by omega
 obtain⟨L,hL⟩:∃L,L=cfL s R n:=⟨_,rfl⟩
 have hLl:L.length≤16:=by rw[hL];exact ph (nQ _ _ _) hn
 rw[←hL]
 have hrb1:∀l:List Int,∀bl∈[B.cells [.int .u8 s,.int .u8 b,.lst 1 f (cs.map bp)],B.cells [.nilS,.int .i64 0,.nilS],B.cells [.buf 3 0 l.length l.length,.int .i64 R,.nilS],B.buf 3 1 (l.map au) false],rbB 4 bl:=fun l bl hbl=>by
  simp only[pD,pA,or_false]at hbl
  rcases hbl with rfl | rfl | rfl | rfl
  ·intro c hc;simp at hc;rcases hc with rfl | rfl | rfl<;>simp[rb,rb1]
  ·intro c hc;simp only[pD,pA,or_false]at hc;rcases hc with rfl | rfl | rfl<;>simp[rb,rb1]
  ·intro c hc;simp at hc;rcases hc with rfl | rfl | rfl<;>simp[rb,rb1]
  ·exact nums_rb _ _ _ _
 have hrb2:∀(m:Nat) (ps:List Cl),∀bl∈[B.cells [.int .u8 s,.int .u8 b,.lst 1 f (cs.map bp)],B.cells [.nilS,.int .i64 0,.nilS],B.cells [.lst 1 false (L.map au),.int .i64 R,.buf 4 0 m m],B.buf 3 1 (L.map au) true,B.buf 202 4 (ps.map dG) false],rbB 5 bl:=fun m ps bl hbl=>by
  simp only[pD,pA,or_false]at hbl
  rcases hbl with rfl | rfl | rfl | rfl | rfl
  ·intro c hc;simp at hc;rcases hc with rfl | rfl | rfl<;>simp[rb,rb1]
  ·intro c hc;simp only[pD,pA,or_false]at hc;rcases hc with rfl | rfl | rfl<;>simp[rb,rb1]
  ·intro c hc;simp at hc;rcases hc with rfl | rfl | rfl<;>simp[rb,rb1]
  ·exact nums_rb _ _ _ _
  ·exact cls_rb _ _ _ _
 refine sPx Tryz.func62 rfl rfl ?_;simp -dsimp[Tryz.f62,ou,hnz,show ¬n=0 by omega,w1,r1.symm,w2];refine aR (dV 3 1 [] 2 [0] rfl (by simp) (by simp) (W_loopM 36 0xfffffc040 (by simp[mB]<;>rfl) (σ:=Nat×List Int) (fun p=>p.1≤n∧p.2=cfL s R p.1) (fun p=>n-p.1) (fun p=>[(6,.int .i64 p.1)]) (fun p=>[B.cells [.int .u8 s,.int .u8 b,.lst 1 f (cs.map bp)],B.cells [.nilS,.int .i64 0,.nilS],B.cells [.buf 3 0 p.2.length p.2.length,.int .i64 R,.nilS],B.buf 3 1 (p.2.map au) false]) (0,[]) ⟨by omega,rfl⟩ (by simp) (by simp) (by simp) ?_));rintro⟨i,l⟩ ⟨hi,hle⟩ N Q hN hQ;simp only at hi hle
 have hll:l.length≤i:=by rw[hle];exact nQ _ _ _
 by_cases hib:i<n
 ·have ch:=has02 s i (by omega);have hsu:=cfL_succ s R i;rw[←hle]at hsu
  cases hq:lu s i with
  | false =>
   rw[hq]at ch;rw[hq,pS,if_neg (by simp)]at hsu;refine wx ?_;simp -dsimp[hib,ws];refine cPx (ch) (by simp) ?_;simp -dsimp[aa i (by omega)];refine hN (i+1,l) _ _ ⟨by simp only;omega,hsu.symm⟩ (by simp only;omega) (by simp) ⟨[],by simp⟩ (by simp) (hrb1 _)
  | true =>
   rw[hq]at ch;by_cases hiR:i=R
   ·rw[hq,decide_eq_true hiR,Bool.not_true,rM,if_neg (by simp)]at hsu;refine wx ?_;simp -dsimp[hib,ws];refine cPx (ch) (by simp) ?_;simp -dsimp[show(i:Int)=R by omega,hiR,aa i (by omega),aa R (by omega)];refine hN (i+1,l) _ _ ⟨by simp only;omega,hsu.symm⟩ (by simp only;omega) (by simp[hiR]) ⟨[],by simp⟩ (by simp) (hrb1 _)
   ·rw[hq,decide_eq_false hiR,sR,sT,if_pos rfl]at hsu;refine wx ?_;simp -dsimp[hib,ws];refine cPx (ch) (by simp) ?_;simp -dsimp[show ¬(i:Int)=R by omega,hiR,cap8 l.length (by omega),eJ l.length (by omega),aa i (by omega)];refine hN (i+1,l++[(i:Int)]) _ _ ⟨by simp only;omega,hsu.symm⟩ (by simp only;omega) (by simp) ⟨[],by simp[au]⟩ (by simp) (hrb1 _)
 ·obtain rfl:i=n:=by omega
  rw[←hL]at hle;subst hle;obtain⟨m,hm⟩:∃m,m=l.length:=⟨_,rfl⟩;refine eI 3 [] 2 [0] rfl rfl (by simp) (by simp) ?_;refine wx ?_;simp -dsimp[hib];refine hQ _ _ _ ?_;simp -dsimp[];refine aR (dV 202 4 [] 2 [2] rfl (by simp) (by simp) (W_loopM 77 0x1ffffffffff000000080 (by simp[mB]<;>rfl) (σ:=Nat) (fun k=>k≤l.length+1) (fun k=>l.length+1-k) (fun k=>[(7,.int .i64 k)]) (fun k=>[B.cells [.int .u8 s,.int .u8 b,.lst 1 f (cs.map bp)],B.cells [.nilS,.int .i64 0,.nilS],B.cells [.lst 1 false (l.map au),.int .i64 R,.buf 4 0 k k],B.buf 3 1 (l.map au) true,B.buf 202 4 ((cfP cs k).map dG) false]) 0 (by omega) (by simp) (by simp[cfP]) (by simp) ?_));intro k hk N2 Q2 hN2 hQ2;have hpl:=cfP_len cs k;have hps:=cfP_succ cs k;obtain⟨ps,hpe⟩:∃ps,ps=cfP cs k:=⟨_,rfl⟩;rw[←hpe]at hpl hps ⊢;by_cases hkb:k≤l.length
  ·by_cases hkc:k<cs.length
   ·have hg:cs.getD k 0=cs[k]:=by simp[hkc]
    unfold clOf at hps;rw[hg]at hps;have hx:=hv _ (ow hkc);obtain⟨x,hxe⟩:∃x,x=cs[k]:=⟨_,rfl⟩;rw[←hxe]at hps hx;have t0:=pw 2 hx.1;have t1:=pq x (show(0:Int)<2 by omega)
    have u1:IntKind.u8.wrap (x.tmod 2)=x.tmod 2:=by rw[IntKind.wrap_u8];omega
    by_cases h2:x.tmod 2=0
    ·rw[if_neg (by omega)]at hps;refine wx ?_;simp -dsimp[show(k:Int)≤l.length by omega,hkb,hkc,show ¬cs.length≤k by omega,hxe.symm,bp,u1,h2];simp -dsimp[hpl,capCl k (by omega),eJ k (by omega),aa k (by omega)];refine hN2 (k+1) _ _ (by omega) (by omega) (by simp) ⟨[],by simp[hps,dG,zV]⟩ (by simp) (hrb2 _ _)
    ·rw[if_pos ⟨hkc,h2⟩]at hps
     have d0:0≤x.tdiv 2∧x.tdiv 2<256:=by rw[Int.tdiv_eq_ediv_of_nonneg hx.1];omega
     have u2:IntKind.u8.wrap (x.tdiv 2)=x.tdiv 2:=by rw[IntKind.wrap_u8];omega
     have d1:=pw 3 d0.1;have d2:=pq (x.tdiv 2) (show(0:Int)<3 by omega)
     have u3:IntKind.u8.wrap ((x.tdiv 2).tmod 3)=(x.tdiv 2).tmod 3:=by rw[IntKind.wrap_u8];omega
     have co:=of01 ((x.tdiv 2).tmod 3);obtain⟨vl,hvl⟩:∃vl,vl=ofC ((x.tdiv 2).tmod 3):=⟨_,rfl⟩;rw[←hvl]at co hps;simp only[ac]at co;refine wx ?_;simp -dsimp[show(k:Int)≤l.length by omega,hkb,hkc,show ¬cs.length≤k by omega,hxe.symm,bp,u1,h2];refine aR (ao tok mixed [12,14] [] [(ac vl,[])] (by kernel_rfl) fun C K hC hK=>?_);simp -implicitDefEqProofs [hkc,hxe.symm,bp,ac,u2,u3,hpl,capCl k (by omega),eJ k (by omega)];refine⟨hC _ _ _ _ (aW co (by simp)),hK _ _ ?_⟩;simp -dsimp[aa k (by omega)];refine hN2 (k+1) _ _ (by omega) (by omega) (by simp) ⟨[],by simp[hps,dG]⟩ (by simp) (hrb2 _ _)
   ·unfold clOf at hps;rw[if_neg (by omega)]at hps;refine wx ?_;simp -dsimp[show(k:Int)≤l.length by omega,hkb,hkc,show(cs.length:Int)≤k by omega,show cs.length≤k by omega];simp -dsimp[hpl,capCl k (by omega),eJ k (by omega),aa k (by omega)];refine hN2 (k+1) _ _ (by omega) (by omega) (by simp) ⟨[],by simp[hps,dG,zV]⟩ (by simp) (hrb2 _ _)
  ·obtain rfl:k=l.length+1:=by omega
   refine eI 4 [] 2 [2] rfl rfl (by simp) (by simp[hpl]) ?_;refine wx ?_;simp -dsimp[show ¬((l.length:Int)+1≤l.length) by omega];refine hQ2 _ _ _ ?_;simp -dsimp[];simp[gT,L1,LCl,hpe]
def cnW(c:Cn)(cl cp ol or at_:V):V:=.agg [.str c.name,.str c.table,.int .i64 c.kind,.int .u32 (c.fd.l:Int),.int .u32 (c.fd.r:Int),.int .u32 c.m1,.int .u32 c.m2,.str c.i1,.nilS,.str c.i3,.nilS,cl,.int .i64 c.cfd.r,cp,ol,or,.int .i64 c.dn.vars,at_]
theorem lfN(z:Nat):lfB .nilS (.lst z false []):=.inr (.inr ⟨z,rfl,rfl⟩)
theorem nP{f:FuncId}{args:List V}{c:Cn}{cl cp ol or at_:V}{b:Bool}(h:aE Tryz.prog f args fun x=>x = .tup [cnW c cl cp ol or at_,.bool b])(h1:c.i2=[]∧c.i4=[])
  (h2:lfB cl (L1 false c.cfd.l)) (h3:lfB cp (LCl false c.cfd.p)) (h4:lfB ol (L1 false c.od.l)) (h5:lfB or (L1 false c.od.r)) (h6:lfB at_ (LA false c.dn.atoms)):aE Tryz.prog f args fun x=>x = .tup [cE c,.bool b]:=by
 refine conP_lf h (fun s u hr=>rel_tup2 hr fun x hx=>?_) (.tup _ (by simp));refine nh hx ?_;refine⟨.inl rfl,.inl rfl,.inl rfl,.inl rfl,.inl rfl,.inl rfl,.inl rfl,.inl rfl,?_,.inl rfl,?_,h2,.inl rfl,h3,h4,h5,.inl rfl,h6,trivial⟩
 ·rw[h1.1];exact lfN 1
 ·rw[h1.2];exact lfN 1
theorem ruleOf37(n:Nat)(r:Rul)(hn:n≤16)(h:RulOk r):aE Tryz.prog 26 [.int .i64 n,aq r] fun x=>x = .tup [cE (iS n r),.bool (cR r)]:=by
 have t0:=pw 5 h.k.1;have t1:=pq r.k (show(0:Int)<5 by omega)
 have w0:IntKind.u8.wrap (r.k.tmod 5)=r.k.tmod 5:=by rw[IntKind.wrap_u8];omega
 have dflt:¬r.k.tmod 5=2→¬r.k.tmod 5=3→(r.k.tmod 5=1→n=0)→aE Tryz.prog 26 [.int .i64 n,aq r] fun x=>x = .tup [cE (iS n r),.bool (cR r)]:=fun g2 g3 g1=>by
  have hcn:iS n r = { cn0 with kind:=1,fd:=fdOf n r.fd }:=by unfold iS;rw[if_neg (fun e=>by have:=g1 e.1;omega),if_neg g2,if_neg g3]
  have hok:cR r=true:=by unfold cR;rw[decide_eq_false g3];rfl
  rw[hcn,hok];refine nP (cl:=.nilS) (cp:=.nilS) (ol:=.nilS) (or:=.nilS) (at_:=.nilS) ?_ ⟨rfl,rfl⟩ (lfN _) (lfN _) (lfN _) (lfN _) (lfN _);have c1:=list09 n [r.fd] true (by omega) (by simp) (fun d hd=>by simp at hd;rw[hd];exact h.fd);simp only[qW,rQ,encD,LF,gR]at c1;obtain⟨q,hq⟩:∃q,q=r.k.tmod 5:=⟨_,rfl⟩;rw[←hq]at g2 g3 g1 t0 t1 w0;have hq':=hq.symm;by_cases hq1:q=1
  ·have hn0:=g1 hq1;subst hn0;refine sPx Tryz.func26 rfl rfl ?_;simp -dsimp[Tryz.f26,ou,aq,LU,hq',w0,hq1];refine aR (ao tok mixed [8,10] [(5,[1]),(6,[1])] [(.lst 2 false [gR (fdOf 0 r.fd)],[])] (by kernel_rfl) fun C K hC hK=>?_);simp -implicitDefEqProofs [gR];refine⟨hC _ _ _ _ (aW c1 (by simp)),hK _ _ ?_⟩;simp -dsimp[cnW,cn0,strC,strR]
  ·refine sPx Tryz.func26 rfl rfl ?_;simp -dsimp[Tryz.f26,ou,aq,LU,hq',w0,hq1,g2,g3];refine aR (ao tok mixed [8,10] [(5,[1]),(6,[1])] [(.lst 2 false [gR (fdOf n r.fd)],[])] (by kernel_rfl) fun C K hC hK=>?_);simp -implicitDefEqProofs [gR];refine⟨hC _ _ _ _ (aW c1 (by simp)),hK _ _ ?_⟩;simp -dsimp[cnW,cn0,strC,strR]
 by_cases g1:r.k.tmod 5=1
 ·by_cases h0:n=0
  ·exact dflt (by omega) (by omega) fun _=>h0
  ·have hcn:iS n r = { cn0 with kind:=4,cfd:=cfOf n r.cl r.cr r.cs }:=by unfold iS;rw[if_pos ⟨g1,by omega⟩]
   have hok:cR r=true:=by unfold cR;rw[decide_eq_false (by omega)];rfl
   rw[hcn,hok];refine nP (cl:=L1 false (cfOf n r.cl r.cr r.cs).l) (cp:=LCl false (cfOf n r.cl r.cr r.cs).p) (ol:=.nilS) (or:=.nilS) (at_:=.nilS) ?_ ⟨rfl,rfl⟩ (.inl rfl) (.inl rfl) (lfN _) (lfN _) (lfN _);have c1:=cfOf16 n r.cl r.cr r.cs false (by omega) hn h.cl h.cr h.cs h.csv;obtain⟨cf,hcf⟩:∃cf,cf=cfOf n r.cl r.cr r.cs:=⟨_,rfl⟩;rw[←hcf]at c1 ⊢;simp only[gT,L1,LCl]at c1;obtain⟨q,hq⟩:∃q,q=r.k.tmod 5:=⟨_,rfl⟩;rw[←hq]at g1 w0;have hq':=hq.symm;subst g1;refine sPx Tryz.func26 rfl rfl ?_;simp -dsimp[Tryz.f26,ou,aq,LU,hq',w0,show(0:Int)<n by omega,show 0<n by omega];refine cPx (c1) (by simp) ?_;simp -dsimp[cnW,cn0,strC,strR,L1,LCl]
 by_cases g2:r.k.tmod 5=2
 ·have hcn:iS n r = { cn0 with kind:=5,od:=odOf n r.xs r.ys }:=by unfold iS;rw[if_neg (by omega),if_pos g2]
  have hok:cR r=true:=by unfold cR;rw[decide_eq_false (by omega)];rfl
  rw[hcn,hok];refine nP (cl:=.nilS) (cp:=.nilS) (ol:=L1 false (odOf n r.xs r.ys).l) (or:=L1 false (odOf n r.xs r.ys).r) (at_:=.nilS) ?_ ⟨rfl,rfl⟩ (lfN _) (lfN _) (.inl rfl) (.inl rfl) (lfN _);have c1:=odOf17 n r.xs r.ys false false h.xs h.xsv h.ys h.ysv (by omega);obtain⟨od,hod⟩:∃od,od=odOf n r.xs r.ys:=⟨_,rfl⟩;rw[←hod]at c1 ⊢;simp only[iV,L1]at c1;obtain⟨q,hq⟩:∃q,q=r.k.tmod 5:=⟨_,rfl⟩;rw[←hq]at g2 w0;have hq':=hq.symm;subst g2;refine sPx Tryz.func26 rfl rfl ?_;simp -dsimp[Tryz.f26,ou,aq,LU,hq',w0];refine cPx (c1) (by simp) ?_;simp -dsimp[cnW,cn0,strC,strR,L1,LCl]
 by_cases g3:r.k.tmod 5=3
 ·have hcn:iS n r = { cn0 with kind:=6,dn:=dnOf n r.nv r.sn }:=by unfold iS;rw[if_neg (by omega),if_neg g2,if_pos g3]
  have hok:cR r=decide (r.sn.length≤5):=by unfold cR;rw[decide_eq_true g3];rfl
  rw[hcn,hok];refine nP (cl:=.nilS) (cp:=.nilS) (ol:=.nilS) (or:=.nilS) (at_:=LA false (dnOf n r.nv r.sn).atoms) ?_ ⟨rfl,rfl⟩ (lfN _) (lfN _) (lfN _) (lfN _) (.inl rfl);have c1:=dnOf18 n r.nv r.sn false (by omega) h.nv (by have:=h.sn;omega) h.snv;obtain⟨dn,hdn⟩:∃dn,dn=dnOf n r.nv r.sn:=⟨_,rfl⟩;rw[←hdn]at c1 ⊢;simp only[gn,LA]at c1;obtain⟨q,hq⟩:∃q,q=r.k.tmod 5:=⟨_,rfl⟩;rw[←hq]at g3 w0;have hq':=hq.symm;subst g3;obtain⟨bb,hbb⟩:∃bb,bb=decide (r.sn.length≤5):=⟨_,rfl⟩;rw[←hbb]at c1 ⊢;refine sPx Tryz.func26 rfl rfl ?_;simp -dsimp[Tryz.f26,ou,aq,LU,hq',w0];refine cPx (c1) (by simp) ?_;simp -dsimp[];refine aR (ao tok mixed [2,4] [(0,[1])] [] (by kernel_rfl) fun C K hC hK=>?_);simp -implicitDefEqProofs [];refine hK _ _ ?_;simp -dsimp[cnW,cn0,strC,strR,LA]
 exact dflt g2 g3 fun e=>absurd e g1
theorem table03(x:Rcp)(f:Bool)(ha:0≤x.a∧x.a<256)(hg:0≤x.gap)(hc:∀r∈x.rows,r.length≤9223372036854775807):aE Tryz.prog 36 [bD f x,.int .i64 6] fun r=>r=if x.rows.length≤6 then .tup [aF false false (ia x),.bool true] else .tup [.agg [.str pE,.nilS,.nilS],.bool false]:=by
 by_cases h6:x.rows.length≤6
 ·rw[if_pos h6];obtain⟨h1,h2⟩:=tbOf_n ha.1;have t0:=pw 6 ha.1;have t1:=pq x.a (show(0:Int)<6 by omega);have c1:=wide03 x (x.a.tmod 6).toNat f (by omega) (by omega) hc hg;rw[h2]at c1
  have w0:IntKind.u8.wrap (x.a.tmod 6)=x.a.tmod 6:=by rw[IntKind.wrap_u8];omega
  have w1:IntKind.i64.wrap (x.a.tmod 6)=x.a.tmod 6:=wrap64 (by omega) (by omega);rw[show wideT x (x.a.tmod 6).toNat=ia x from rfl]at c1;obtain⟨t,ht⟩:∃t,t=ia x:=⟨_,rfl⟩;rw[←ht]at c1 ⊢;simp only[bD,aF,LS,LR]at c1;refine sPx Tryz.func36 rfl rfl ?_;simp -dsimp[Tryz.f36,ou,bD,w0,w1,show ¬(6:Int)<x.rows.length by omega];refine cPx (c1) (by simp) ?_;simp -dsimp[aF,LS,LR]
 ·rw[if_neg h6];refine sPx Tryz.func36 rfl rfl ?_;simp -dsimp[Tryz.f36,ou,bD,show(6:Int)<x.rows.length by omega]
end
end Go.Proofs.YtjogkbekekdkjaaGreatDoor
