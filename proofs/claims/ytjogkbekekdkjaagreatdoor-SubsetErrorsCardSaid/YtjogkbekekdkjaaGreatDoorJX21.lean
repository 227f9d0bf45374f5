/- JX21: own texts of this seat, joined and shortened by pack4.py: BG, KR, T11, RO, RQ, RS. -/
import Derived.Test.YtjogkbekekdkjaaGreatDoorJX17
set_option linter.unusedVariables false
set_option linter.unusedSimpArgs false
set_option maxRecDepth 100000
set_option maxHeartbeats 64000000
open Bool renaming false_and→rZ,and_false→sv,not_false→uP,and_true→vK,not_true→vL
open ByteArray renaming empty→rY
open Int renaming tmod_lt_of_pos→sR,tmod_nonneg→sW
open List renaming replicate→rO,getElem_mem→rQ,not_mem_nil→rS,getElem?_eq_getElem→rT,mem_cons→rU,take_succ_eq_append_getElem→rV,mem_of_getElem?→rW,take_of_length_le→rt,length_filter_le→rz,mem_singleton→sC,mem_cons_self→sE,mem_cons_of_mem→sG,take_length→sJ,length_map→sK,map_append→sX,mem_append→sx,map_cons→tF,mem_filter→tX,map_nil→tt,pairwise_map→uV,mem_map→uZ
open Nat renaming le_trans→sF,lt_of_lt_of_le→sI,pow_le_pow_right→sd,lt_of_le_of_lt→tV,testBit_lt_two_pow→te,and_le_left→vB,testBit_and→vC
namespace Go.Proofs.YtjogkbekekdkjaaGreatDoor
section
open Go Go.AM
theorem diffN_bit(r l k:Nat)(hl:l<4294967296)(hr:r<4294967296):(diffN r l).testBit k=(r.testBit k&&!l.testBit k):=by
 unfold diffN;have h:=Nat.testBit_two_pow_sub_succ (x:=l) (n:=32) (by omega) k;rw[show(2:Nat)^32-(l+1)=4294967295-l by omega]at h;rw[vC,h];by_cases hk:k<32
 ·simp[hk]
 ·have:r.testBit k=false:=te (sI hr (sd (by omega:0<2) (show 32≤k by omega)));simp[this]
theorem bits_diff(r l:Nat)(hl:l<4294967296)(hr:r<4294967296):dR 32 (diffN r l)=lL l r:=by
 unfold dR lL dR;rw[List.filter_filter];congr 1;funext k;rw[diffN_bit r l k hl hr];cases r.testBit k<;>cases l.testBit k<;>rfl
theorem diff32(r l:Nat)(hl:l<4294967296)(hr:r<4294967296):IntKind.u32.wrap ((r % 2^IntKind.u32.bits &&& (2^IntKind.u32.bits-1-l % 2^IntKind.u32.bits):Nat):Int)=((diffN r l:Nat):Int):=by
 rw[modN r hr,modN l hl];exact u32w _ (tV vB hr)
theorem diffN_lt(r l:Nat)(hr:r<4294967296):diffN r l<4294967296:=tV vB hr
theorem cap104(n:Nat)(h:n≤1000000000):n≤9223372036854775806∧(n+1)*104≤140737488355328:=by omega
theorem cap32d(n:Nat)(h:n≤1000000000):n≤9223372036854775806∧(n+1)*32≤140737488355328:=by omega
theorem inN_at{l:List Nat}{i:Nat}(h:i<l.length):(inN l)[i]?=some ((l[i]:Nat):Int):=by simp[inN,h]
def dnL(L:List Nat)(M:List Nat)(j:Nat):List Dn:=(M.take j).map (gC L)
theorem atoms_rb(n e:Nat)(al:List At)(fz:Bool):rbB n (.buf e 11 (al.map ar) fz):=by
 intro x hx;obtain⟨y,_,rfl⟩:=List.mem_map.1 hx;intro c hc;simp only[ar,V.cells,rU,rS,or_false]at hc
 rcases hc with rfl | rfl | rfl | rfl | rfl | rfl | rfl | rfl | rfl | rfl | rfl<;>simp[rb,rb1]
theorem dns_rb(n e:Nat)(ds:List Dn)(fz:Bool):rbB n (.buf e 2 (ds.map (aq false)) fz):=by
 intro x hx;obtain⟨y,_,rfl⟩:=List.mem_map.1 hx;intro c hc;simp only[aq,V.cells,rU,rS,or_false]at hc
 rcases hc with rfl | rfl<;>simp[rb,rb1,LA]
theorem fromFD(n:Nat)(d:Fd)(hn:n≤16)(ho:eF n d=true):aL Tryz.prog 126 [.int .i64 n,gH d] fun r=>r = .tup [LDn false ((lL d.l d.r).map (gC (jN d.l))),.int .i64 0]:=by
 obtain⟨hl0,hr0⟩:=fd_lt ho;have hp:=pow16 hn
 have hl:d.l<4294967296:=by omega
 have hr:d.r<4294967296:=by omega
 have c1:=closV n d true hn ⟨hl,hr⟩ ho;have c2:=members_u (diffN d.r d.l) (diffN_lt _ _ hr);rw[bits_diff d.r d.l hl hr]at c2;have c3:=members_u d.l hl;have hd:=diff32 d.r d.l hl hr;obtain⟨L,hL⟩:∃L,L=jN d.l:=⟨_,rfl⟩;rw[show dR 32 d.l=L from hL.symm]at c3;obtain⟨M,hM⟩:∃M,M=lL d.l d.r:=⟨_,rfl⟩;rw[←hM]at c2 ⊢;rw[←hL]
 have hL32:L.length≤32:=by rw[hL];exact fX _ _
 have hM32:M.length≤32:=by rw[hM];exact sF (rz _ _) (fX _ _)
 simp only[gH,L1]at c1 c2 c3
 have hrb:∀ds:List Dn,∀bl∈[B.cells [.int .u32 (d.l:Int),.int .u32 (d.r:Int)],B.buf 60 2 (ds.map (aq false)) false],rbB 2 bl:=fun ds bl hbl=>by
  simp only[rU,rS,or_false]at hbl
  rcases hbl with rfl | rfl
  ·intro c hc;simp at hc;rcases hc with rfl | rfl<;>simp[rb,rb1]
  ·exact dns_rb _ _ _ _
 have hrb4:∀(ds:List Dn) (al:List At) (i:Nat),∀bl∈[B.cells [.int .u32 (d.l:Int),.int .u32 (d.r:Int)],B.buf 60 2 (ds.map (aq false)) false,B.cells [.int .i64 2,.buf 3 0 i i],B.buf 213 11 (al.map ar) false],rbB 4 bl:=fun ds al i bl hbl=>by
  simp only[rU,rS,or_false]at hbl
  rcases hbl with rfl | rfl | rfl | rfl
  ·intro c hc;simp at hc;rcases hc with rfl | rfl<;>simp[rb,rb1]
  ·exact dns_rb _ _ _ _
  ·intro c hc;simp at hc;rcases hc with rfl | rfl<;>simp[rb,rb1]
  ·exact atoms_rb _ _ _ _
 refine sPx Tryz.func126 rfl rfl ?_;simp -dsimp[Tryz.f126,rO,gH];refine cPx (c1) (by simp) ?_;simp -dsimp[hd];refine cPx (c2) (by simp) ?_;simp -dsimp[];refine aG (bf 60 2 [7] (by simp) (W_loopM 60 0xffffffff8001680 (by simp[mB]<;>rfl) (σ:=Nat) (fun j=>j≤M.length) (fun j=>M.length-j) (fun j=>[(27,.int .i64 j),(7,.buf 1 0 j j)]) (fun j=>[B.cells [.int .u32 (d.l:Int),.int .u32 (d.r:Int)],B.buf 60 2 ((dnL L M j).map (aq false)) false]) 0 (by omega) (by simp[eM]) (by simp[dnL]) (by simp) ?_));intro j hj N Q hN hQ
 have hjl:(dnL L M j).length=j:=by simp[dnL];omega
 by_cases hb:j<M.length
 ·obtain⟨b,hbe⟩:∃b,b=M[j]:=⟨_,rfl⟩;have hat:=inN_at hb;rw[←hbe]at hat
  have hat':∀h:j<(inN M).length,(inN M)[j]=(b:Int):=fun h=>by simp[inN,hbe]
  have hds:dnL L M (j+1)=dnL L M j++[gC L b]:=by unfold dnL;rw[rV hb,sX,←hbe];rfl
  refine cj ?_;refine wx ?_;simp -dsimp[hb,eM];refine cj ?_;refine wx ?_;simp -dsimp[];refine cj ?_;refine mz ?_;refine cj ?_;refine wx ?_;simp -dsimp[hb,eM,hat,hat',aE];refine cj ?_;refine wx ?_;simp -dsimp[];refine cj ?_;refine wx ?_;simp -dsimp[];refine cPx (c3) (by simp) ?_;simp -dsimp[]
  have haF:∀i,i≤L.length→((L.take i).map (dZ 1)).length=i:=fun i hi=>by simp;omega
  refine aG (eS 213 11 [] 2 [1] rfl (by simp) (by simp) (W_loopM 48 0xfff000001000 (by simp[mB]<;>rfl) (σ:=Nat) (fun i=>i≤L.length) (fun i=>L.length-i) (fun i=>[(36,.int .i64 i)]) (fun i=>[B.cells [.int .u32 (d.l:Int),.int .u32 (d.r:Int)],B.buf 60 2 ((dnL L M j).map (aq false)) false,B.cells [.int .i64 2,.buf 3 0 i i],B.buf 213 11 (((L.take i).map (dZ 1)).map ar) false]) 0 (by omega) (by simp[eM]) (by simp) (by simp) ?_));intro i hi N2 Q2 hN2 hQ2;have hal:=haF i hi;by_cases hbi:i<L.length
  ·obtain⟨x,hxe⟩:∃x,x=L[i]:=⟨_,rfl⟩;have hax:=inN_at hbi;rw[←hxe]at hax
   have hax':∀h:i<(inN L).length,(inN L)[i]=(x:Int):=fun h=>by simp[inN,hxe]
   have cb:=both_u 1 x;simp only[ar,dZ,zV]at cb
   have has:(L.take (i+1)).map (dZ 1)=(L.take i).map (dZ 1)++[dZ 1 x]:=by rw[rV hbi,sX,←hxe];rfl
   obtain⟨al,hae⟩:∃al,al=(L.take i).map (dZ 1):=⟨_,rfl⟩;rw[←hae]at hal has ⊢;refine wx ?_;simp -dsimp[hbi,eM,hax,hax',aE];refine aG (aW tok mixed [5,7] [] [(ar (dZ 1 x),[])] (by kernel_rfl) fun C K hC hK=>?_);simp -implicitDefEqProofs [hal,ar,dZ,zV,cap104 i (by omega)];refine⟨hC _ _ _ _ (aK cb (by simp)),hK _ _ ?_⟩;simp -dsimp[aH i (by omega)];refine hN2 (i+1) _ _ (by omega) (by omega) (by simp[eM]) ⟨[],by simp[has,ar,dZ,zV]⟩ (by simp) (hrb4 _ _ _)
  ·obtain rfl:i=L.length:=by omega
   have cb:=both_u 2 b;simp only[ar,dZ,zV]at cb;obtain⟨al,hae⟩:∃al,al=(L.take L.length).map (dZ 1):=⟨_,rfl⟩
   have hdn:aq false (gC L b)= .agg [.int .i64 2,.lst 11 false ((al++[dZ 2 b]).map ar)]:=by rw[hae,sJ];rfl
   rw[←hae]at hal ⊢;refine wx ?_;simp -dsimp[hbi,eM];refine hQ2 _ _ _ ?_;simp -dsimp[];refine cj ?_
   refine aW tok mixed [5,7] [] [(.agg [.int .i64 1,.int .i64 (b:Int),.int .i64 0,.int .i64 0,.str rY,.int .i64 2,.int .i64 2,.int .i64 (b:Int),.int .i64 0,.int .i64 0,.str rY],[])] (by kernel_rfl) fun C K hC hK=>?_
   simp -implicitDefEqProofs [hal,cap104 L.length (by omega)];refine⟨hC _ _ _ _ (aK cb (by simp)),hK _ _ ?_⟩;simp only[thenQ_normal];refine eT 3 [] 2 [1] rfl rfl (by simp) (by simp[hal]) ?_;refine wx ?_;simp -dsimp[hjl,cap32d j (by omega),ai j (by omega)];refine wx ?_;simp -dsimp[aH j (by omega)];refine hN (j+1) _ _ (by omega) (by omega) (by simp[eM]) ⟨[B.cells [.int .i64 2,.lst 11 false (al.map ar++[.agg [.int .i64 1,.int .i64 (b:Int),.int .i64 0,.int .i64 0,.str rY,.int .i64 2,.int .i64 2,.int .i64 (b:Int),.int .i64 0,.int .i64 0,.str rY]])],B.buf 213 11 (al.map ar++[.agg [.int .i64 1,.int .i64 (b:Int),.int .i64 0,.int .i64 0,.str rY,.int .i64 2,.int .i64 2,.int .i64 (b:Int),.int .i64 0,.int .i64 0,.str rY]]) true],by simp[hds,hdn,ar,dZ,zV]⟩ (by simp) (hrb _)
 ·obtain rfl:j=M.length:=by omega
  refine cy 1 [7] rfl (by simp[hjl]) ?_;refine wx ?_;simp -dsimp[hb,eM];refine hQ _ _ _ ?_;simp -dsimp[];simp[LDn,dnL]
def kR(K:List Int)(R:List Rw):List Rw:=R.filter fun r=>bj K r.id
def kT(K:List Int)(t:Tb):Tb:=⟨t.name,t.attrs,kR K t.rows⟩
theorem fC{K:List Int}{R:List Rw}{r:Rw} : r∈kR K R↔r∈R∧r.id∈K:=by
 unfold kR;rw[tX,bI]
theorem kR_ord{K:List Int}{R:List Rw}(h:R.Pairwise fun r s=>r.id<s.id):(kR K R).Pairwise fun r s=>r.id<s.id:=h.filter _
theorem ext_kR{K:List Int}{R:List Rw} : ∀{q p:List Rw},kD (kR K R) p q↔kD R p q∧∀r∈q,r.id∈K
 | [],p=>by simp[kD]
 | x::q,p=>by
  rw[kD,kD,ext_kR (q:=q),fC];constructor
  ·rintro⟨⟨a,b⟩,c,d,e⟩;refine⟨⟨a,c,d⟩,fun r hr=>?_⟩
   rcases List.mem_cons.1 hr with rfl | hr
   ·exact b
   ·exact e r hr
  ·rintro⟨⟨a,c,d⟩,e⟩;exact⟨⟨a,e x (sE ..)⟩,c,d,fun r hr=>e r (sG _ hr)⟩
theorem srt_mem{l:List Int}{a:Int} : a∈srt l↔a∈l:=(jT l).mem_iff
theorem vd_kR{K:List Int}{R:List Rw}{d:Dn}{x:List Int} : VD (kR K R) d x↔VD R d x∧∀a∈x,a∈K:=by
 unfold VD;constructor
 ·rintro⟨rs,h1,h2,h3,rfl⟩;obtain⟨h4,h5⟩:=ext_kR.1 h2;refine⟨⟨rs,h1,h4,h3,rfl⟩,fun a ha=>?_⟩;obtain⟨r,hr,rfl⟩:=List.mem_map.1 (srt_mem.1 ha);exact h5 r hr
 ·rintro⟨⟨rs,h1,h2,h3,rfl⟩,h⟩;exact⟨rs,h1,ext_kR.2 ⟨h2,fun r hr=>h _ (srt_mem.2 (List.mem_map.2 ⟨r,hr,rfl⟩))⟩,h3,rfl⟩
theorem prL_kR{K:List Int}{P:Rw→Rw→Bool}{R:List Rw}(hR:R.Pairwise fun r s=>r.id<s.id){x:List Int} : x∈prL P (kR K R)↔x∈prL P R∧∀a∈x,a∈K:=by
 rw[lz (kR_ord hR),lz hR];constructor
 ·rintro⟨r,hr,s,hs,h1,h2,rfl⟩;obtain⟨a1,a2⟩:=fC.1 hr;obtain⟨b1,b2⟩:=fC.1 hs;refine⟨⟨r,a1,s,b1,h1,h2,rfl⟩,fun a ha=>?_⟩;simp only[rU,rS,or_false]at ha
  rcases ha with rfl | rfl
  ·exact a2
  ·exact b2
 ·rintro⟨⟨r,hr,s,hs,h1,h2,rfl⟩,h⟩;exact⟨r,fC.2 ⟨hr,h _ (by simp)⟩,s,fC.2 ⟨hs,h _ (by simp)⟩,h1,h2,rfl⟩
theorem cnR_kR{K:List Int}{t:Tb}(hR:t.rows.Pairwise fun r s=>r.id<s.id){c:Cn}{x:List Int} : x∈cnR (kT K t) c↔x∈cnR t c∧∀a∈x,a∈K:=by
 unfold cnR;show x∈(if c.kind=1 then prL (fdP c.fd.l c.fd.r) (kR K t.rows) else if c.kind=4 then ng c.cfd (kR K t.rows) else if c.kind=5 then prL (odP c.od) (kR K t.rows) else(asR (kR K t.rows) c.dn.vars.toNat).foldl (stR c.dn) [])↔_;by_cases h1:c.kind=1
 ·rw[if_pos h1,if_pos h1];exact prL_kR hR
 rw[if_neg h1,if_neg h1];by_cases h4:c.kind=4
 ·rw[if_pos h4,if_pos h4,jy,jy,sx,sx,prL_kR hR]
  have hm:x∈((kR K t.rows).filter (gv c.cfd)).map (fun r=>[r.id])↔x∈(t.rows.filter (gv c.cfd)).map (fun r=>[r.id])∧∀a∈x,a∈K:=by
   rw[uZ,uZ];constructor
   ·rintro⟨r,hr,rfl⟩;obtain⟨a1,a2⟩:=List.mem_filter.1 hr;obtain⟨b1,b2⟩:=fC.1 a1;exact⟨⟨r,List.mem_filter.2 ⟨b1,a2⟩,rfl⟩,fun a ha=>by simp at ha;rw[ha];exact b2⟩
   ·rintro⟨⟨r,hr,rfl⟩,h⟩;obtain⟨a1,a2⟩:=List.mem_filter.1 hr;exact⟨r,List.mem_filter.2 ⟨fC.2 ⟨a1,h _ (by simp)⟩,a2⟩,rfl⟩
  rw[hm];constructor
  ·rintro(⟨a,b⟩ | ⟨a,b⟩)
   ·exact⟨.inl a,b⟩
   ·exact⟨.inr a,b⟩
  ·rintro⟨a | a,b⟩
   ·exact .inl ⟨a,b⟩
   ·exact .inr ⟨a,b⟩
 rw[if_neg h4,if_neg h4];by_cases h5:c.kind=5
 ·rw[if_pos h5,if_pos h5];exact prL_kR hR
 rw[if_neg h5,if_neg h5,vd_ref,vd_ref];exact vd_kR
theorem oq{t:Tb}(g:TbC t):(aa t.rows).Pairwise (· < ·):=by
 unfold aa;rw[uV];exact g.ids
theorem edges_hyp{t:Tb}(g:TbC t){cs:List Cn}(h:∀c∈cs,ac t c=0):Hyp (aa t.rows) (ak (bQ t cs)):=by
 have hE:∀d∈bQ t cs,EdgL t.rows d:=fun d hd=>eQ g h hd
 have a:=iM fun e he=>(hE e he).1
 have hm:∀e∈ak (bQ t cs),MinM (bQ t cs) e:=fun e he=>(a.mem e).1 he
 refine⟨oq g,fun e he=>(hE e (hm e he).1).2.1,fun e he=>(hE e (hm e he).1).1,fun e he=>(hE e (hm e he).1).2.2.2,a.ord,?_⟩
 have key:∀x∈ak (bQ t cs),∀y∈ak (bQ t cs),x≠y→¬∀v∈x,v∈y:=fun x hx y hy hxy hs =>
  hxy (lU (hE x (hm x hx).1).1 (hE y (hm y hy).1).1 hs ((hm y hy).2 x (hm x hx).1 hs))
 have ho:=a.ord;rw[List.pairwise_iff_getElem]at ho ⊢;intro i j hi hj hij;have hlt:=ho i j hi hj hij
 have hne:(ak (bQ t cs))[i]≠(ak (bQ t cs))[j]:=fun e=>by rw[e,gU]at hlt;cases hlt
 exact⟨key _ (rQ hi) _ (rQ hj) hne,key _ (rQ hj) _ (rQ hi) (Ne.symm hne)⟩
theorem pV{s:AM.St}{cs ds:List V}{u:Value}(h:Rel s (.agg cs) u)(hl:LfL cs ds):Rel s (.agg ds) u:=by
 cases h with
 | agg _ us h1 h2 h3 =>
  have hlen:=hl.len;refine .agg ds us (by omega) (fun d hd=>?_) (fun i d u hd hu=>?_)
  ·obtain⟨i,hi⟩:=List.mem_iff_getElem?.1 hd;have hc:cs[i]?=some (cs[i]'(by have:=aB hi;omega)):=rT _;exact lf_one (hl.at_ i _ d hc hi) (h2 _ (rW hc))
  ·have hc:cs[i]?=some (cs[i]'(by have:=aB hd;omega)):=rT _;exact nQ (h3 i _ u hc hu) (hl.at_ i _ d hc hd)
theorem conP_lf{P:Program}{f:FuncId}{args:List V}{v v':V}(h:aL P f args fun r=>r=v)(hr:∀(s:AM.St) u,Rel s v u→Rel s v' u)(hp:AM.Pure v'):aL P f args fun r=>r=v':=by
 refine⟨h.1,fun F w vals hZ hF hsz hrel=>(h.2 F w vals hZ hF hsz hrel).mono fun e w' ⟨u,r,a1,a2,a3,a4,a5⟩=>?_⟩;subst a5;exact⟨u,v',a1,hp,hr _ u a3,a4,rfl⟩
theorem cap32l(n:Nat)(h:n≤1000000000):n≤9223372036854775807∧n*32≤140737488355328:=by omega
theorem cp03(r:Rw)(hl:r.vals.length≤1000000):aL Tryz.prog 111 [aI r] fun x=>x=aI r:=by
 by_cases h0:r.vals=[]
 ·refine conP_lf (v:=.agg [.int .i64 r.id,.lst 3 true []]) ?_ (fun s u h=>?_) (by simp)
  ·refine ay (aF (tkf 78) Tryz.func111 rfl rfl ?_);refine W_x (tkf 78) mixed ?_;simp -dsimp[Tryz.f111,rO,aI,LV,aM];refine aG (pD (tkf 78) mixed [7] [] [] (by kernel_rfl) fun C K hC hK=>?_);simp -implicitDefEqProofs [h0,aM];refine hK _ _ ?_;simp -dsimp[aM]
  ·have:=pV (ds:=[.int .i64 r.id,.lst 3 false []]) h (by simp[LfL,lfB]);simpa[aI,LV,h0] using this
 ·refine ay (aF (tkf 78) Tryz.func111 rfl rfl ?_);refine W_x (tkf 78) mixed ?_;simp -dsimp[Tryz.f111,rO,aI,LV,aM];refine aG (pD (tkf 78) mixed [7] [] [] (by kernel_rfl) fun C K hC hK=>?_);simp -implicitDefEqProofs [h0,cap32l r.vals.length (by omega),aM];refine hK _ _ ?_;simp -dsimp[aM];rfl
theorem cap16l(n:Nat)(h:n≤1000000000):n≤9223372036854775807∧n*16≤140737488355328:=by omega
theorem with03(t:Tb)(rs:List Rw)(f g h:Bool)(ha:t.attrs.length≤1000000)(hr:rs.length≤1000000)(hv:∀r∈rs,r.vals.length≤1000000):aL Tryz.prog 67 [aD f g t,LR h rs] fun x=>x=aD false false ⟨t.name,t.attrs,rs⟩:=by
 have hne:t.attrs=[]∨¬t.attrs=[]:=by by_cases h:t.attrs=[];exact .inl h;exact .inr h
 rcases hne with hne | hne
 case' inl =>
  refine ay (aF (tkf 29) Tryz.func67 rfl rfl ?_);refine W_x (tkf 29) mixed ?_;simp -dsimp[Tryz.f67,rO,aD,LS,LR,aM];refine aG (pD (tkf 29) mixed [7,8] [(1,[1]),(2,[1]),(4,[1]),(5,[1])] [] (by kernel_rfl) fun C K hC hK=>?_);simp -implicitDefEqProofs [hne,aM];refine hK _ _ ?_;simp -dsimp[aM]
 case' inr =>
  refine ay (aF (tkf 29) Tryz.func67 rfl rfl ?_);refine W_x (tkf 29) mixed ?_;simp -dsimp[Tryz.f67,rO,aD,LS,LR,aM];refine aG (pD (tkf 29) mixed [7,8] [(1,[1]),(2,[1]),(4,[1]),(5,[1])] [] (by kernel_rfl) fun C K hC hK=>?_);simp -implicitDefEqProofs [hne,cap16l t.attrs.length (by omega),aM];refine hK _ _ ?_;simp -dsimp[aM]
 all_goals
  refine aG (W_lf 2 _ [.str t.name,.lst 1 false (t.attrs.map V.str),.nilS] rfl (pt _) (by simp[LfL,lfB,hne]) (eS 80 2 [] 2 [2] rfl (lfL_own _ _) (by simp) (W_loopM 30 0x3ffffa40 (by simp[mB]<;>rfl) (σ:=Nat) (fun i=>i≤rs.length) (fun i=>rs.length-i) (fun i=>[(6,.int .i64 i)]) (fun i=>[B.cells [.str t.name,.lst 1 f (t.attrs.map V.str),.lst 2 g (t.rows.map aI)],B.cells [.str rY,.nilS,.nilS],B.cells [.str t.name,.lst 1 false (t.attrs.map V.str),.buf 3 0 i i],B.buf 80 2 ((rs.take i).map aI) false]) 0 (by omega) (by simp[hne]) (by simp[hne]) (by simp) ?_)));intro i hi N Q hN hQ
  have hli:(rs.take i).length=i:=by simp;omega
  by_cases hb:i<rs.length
  ·have hst:rs.take (i+1)=rs.take i++[rs[i]]:=rV hb;have hc:=cp03 rs[i] (hv _ (rQ hb));obtain⟨l,hl⟩:∃l,l=rs.take i:=⟨_,rfl⟩;rw[←hl]at hst hli ⊢;refine W_x (tkf 29) mixed ?_;simp -dsimp[hb,aM];refine aG (aW (tkf 29) mixed [8,10] [] [(aI rs[i],[])] (by kernel_rfl) fun C K hC hK=>?_);simp -implicitDefEqProofs [hb,aI,LV,hli,ql i (by omega),aM];refine⟨hC _ _ _ _ (aK hc (by simp)),hK _ _ ?_⟩;simp -dsimp[aH i (by omega),aM];refine hN (i+1) _ _ (by omega) (by omega) ?_ ⟨[],?_⟩ ?_ ?_<;>simp[or_imp,forall_and,L1,aE,hst,aI,LV]
  ·obtain rfl:i=rs.length:=by omega
   rw[sJ];refine eT 3 [] 2 [2] rfl rfl (by simp) (by simp) ?_;refine W_x (tkf 29) mixed ?_;simp -dsimp[hb,aM];refine hQ _ _ _ ?_;simp -dsimp[aM];simp only[aD,LS,LR]
theorem members17(n:Nat)(l:List Int)(f:Bool)(hl:l.length≤9223372036854775807)(hv:∀c∈l,0≤c∧c<256)(hn:n≤100):aL Tryz.prog 108 [.int .i64 n,.lst 1 f (l.map eH)] fun r=>r=L1 false (mbF n l):=by
 by_cases h0:n=0
 ·subst h0;rw[show mbF 0 l=[] from rfl];refine sPx Tryz.func108 rfl rfl ?_;simp -dsimp[Tryz.f108,rO];refine aG (bf 3 1 [5] (by simp) (W_loopM 31 0x7fffffe0 (by simp[mB]<;>rfl) (σ:=Nat) (fun i=>i≤0) (fun i=>l.length-i) (fun i=>[(6,.int .i64 i),(5,.buf 0 0 i i)]) (fun i=>[B.buf 3 1 [] false]) 0 (by omega) (by simp) (by simp) (by simp) ?_));intro i hi N Q hN hQ
  obtain rfl:i=0:=by omega
  refine cy 0 [5] rfl (by simp) ?_;by_cases hb:0<l.length
  ·refine wx ?_;simp -dsimp[hb,show(0:Int)<l.length by omega];refine hQ _ _ _ ?_;simp -dsimp[L1]
  ·refine wx ?_;simp -dsimp[hb,show ¬(0:Int)<l.length by omega];refine hQ _ _ _ ?_;simp -dsimp[L1]
 ·have hmb:mbF n l=(l.take 5).map fun x=>x.tmod n:=by unfold mbF;rw[if_neg h0]
  obtain⟨M,hM⟩:∃M,M=mbF n l:=⟨_,rfl⟩
  have hMl:M.length=min 5 l.length:=by rw[hM,hmb];simp
  have hMi:∀i (h:i<l.length),i<5→M.take (i+1)=M.take i++[l[i].tmod n]:=fun i h h5=>by
   rw[rV (by omega)];congr 2;simp[hM,hmb]
  rw[←hM]
  have hrb:∀l:List Int,∀bl∈[B.buf 3 1 (l.map aE) false],rbB 1 bl:=fun l bl hbl=>by
   simp only[sC]at hbl;subst hbl;exact(rbB_buf1 (fun x hx=>by obtain⟨y,_,rfl⟩:=List.mem_map.1 hx;exact⟨by simp,rfl⟩)).2 trivial
  have hnp:(0:Int)<n:=by omega
  refine sPx Tryz.func108 rfl rfl ?_;simp -dsimp[Tryz.f108,rO];refine aG (bf 3 1 [5] (by simp) (W_loopM 31 0x7fffffe0 (by simp[mB]<;>rfl) (σ:=Nat) (fun i=>i≤l.length∧i≤5) (fun i=>l.length-i) (fun i=>[(6,.int .i64 i),(5,.buf 0 0 i i)]) (fun i=>[B.buf 3 1 ((M.take i).map aE) false]) 0 (by omega) (by simp) (by simp) (by simp) ?_));rintro i ⟨hi,hi5⟩ N Q hN hQ
  have htl:(M.take i).length=i:=by simp;omega
  by_cases hb:i<l.length
  ·by_cases h5:i<5
   ·have hst:=hMi i hb h5;obtain⟨x,hxe⟩:∃x,x=l[i]:=⟨_,rfl⟩;have hx:=hv x (by rw[hxe];exact rQ hb);rw[←hxe]at hst;have w1:IntKind.i64.wrap x=x:=wrap64 (by omega) (by omega);have t0:=sW (n:Int) hx.1;have t1:=sR x hnp;have w2:IntKind.i64.wrap (x.tmod n)=x.tmod n:=wrap64 (by omega) (by omega);obtain⟨m,hm⟩:∃m,m=M.take i:=⟨_,rfl⟩;rw[←hm]at hst htl ⊢;refine wx ?_;simp -dsimp[hb,hxe.symm,eH,h5,show(i:Int)<5 by omega,hnp,show 0<n by omega,h0,show ¬(n:Int)=0 by omega,w1,w2,htl,go i (by omega),ai i (by omega),aH i (by omega)];refine hN (i+1) _ _ ⟨by omega,by omega⟩ (by omega) (by simp) ⟨[],by simp[hst,aE]⟩ (by simp) (hrb _)
   ·obtain rfl:i=5:=by omega
    rw[rt (by omega)];refine cy 0 [5] rfl (by simp;omega) ?_;refine wx ?_;simp -dsimp[hb,h5,show(5:Int)<l.length by omega];refine hQ _ _ _ ?_;simp -dsimp[L1]
    skip
  ·obtain rfl:i=l.length:=by omega
   rw[rt (by omega)];refine cy 0 [5] rfl (by simp;omega) ?_;refine wx ?_;simp -dsimp[hb];refine hQ _ _ _ ?_;simp -dsimp[L1]
   skip
theorem odOf17(n:Nat)(xs ys:List Int)(f g:Bool)(hl:xs.length≤9223372036854775807)(hv:∀c∈xs,0≤c∧c<256)(hl2:ys.length≤9223372036854775807)(hv2:∀c∈ys,0≤c∧c<256)(hn:n≤100):aL Tryz.prog 63 [.int .i64 n,.agg [.lst 1 f (xs.map eH),.lst 1 g (ys.map eH)]] fun r=>r=bM false false (odOf n xs ys):=by
 have c1:=members17 n xs f hl hv hn;have c2:=members17 n ys g hl2 hv2 hn;simp only[L1]at c1 c2;refine sPx Tryz.func63 rfl rfl ?_;simp -dsimp[Tryz.f63,rO];refine aG (aW tok mixed [9] [] [(.lst 1 false ((mbF n xs).map aE),[]),(.lst 1 false ((mbF n ys).map aE),[])] (by kernel_rfl) fun C K hC hK=>?_);simp -implicitDefEqProofs [];refine⟨⟨hC _ _ _ _ (aK c1 (by simp)),hC _ _ _ _ (aK c2 (by simp))⟩,hK _ _ ?_⟩;simp -dsimp[bM,odOf,L1]
theorem side18(n:Nat)(vars v c:Int)(hn:n≤100)(h1:1≤vars)(h3:vars≤3)(hv:0≤v∧v<256)(hc:0≤c∧c<256):aL Tryz.prog 109 [.int .i64 n,.int .i64 vars,.agg [.int .u8 v,.int .u8 c]] fun r=>r=bP (oI n vars v c):=by
 have w1:IntKind.i64.wrap v=v:=wrap64 (by omega) (by omega);have w2:IntKind.i64.wrap (vars+1)=vars+1:=wrap64 (by omega) (by omega);have t0:=sW (vars+1) hv.1;have t1:=sR v (show(0:Int)<vars+1 by omega);have w3:IntKind.i64.wrap (v.tmod (vars+1))=v.tmod (vars+1):=wrap64 (by omega) (by omega);have w4:IntKind.i64.wrap c=c:=wrap64 (by omega) (by omega);have c1:=of01 c;simp only[aX]at c1
 have hz:¬vars+1=0:=by omega
 unfold oI;obtain⟨q,hq⟩:∃q,q=v.tmod (vars+1):=⟨_,rfl⟩;rw[←hq]at t0 t1 w3 ⊢;have hq':=hq.symm;by_cases hq0:q=0
 ·rw[if_pos (.inl hq0)];refine sPx Tryz.func109 rfl rfl ?_;simp -dsimp[Tryz.f109,rO,w1,w2,hz,hq',w3,hq0];refine cPx (c1) (by simp) ?_;simp -dsimp[bP]
 ·by_cases h0:n=0
  ·rw[if_pos (.inr h0)];refine sPx Tryz.func109 rfl rfl ?_;simp -dsimp[Tryz.f109,rO,w1,w2,hz,hq',w3,hq0,h0];refine cPx (c1) (by simp) ?_;simp -dsimp[bP]
  ·rw[if_neg (by omega)];have s0:=sW (n:Int) hc.1;have s1:=sR c (show(0:Int)<n by omega);have w5:IntKind.i64.wrap (c.tmod n)=c.tmod n:=wrap64 (by omega) (by omega);refine sPx Tryz.func109 rfl rfl ?_;simp -dsimp[Tryz.f109,rO,w1,w2,hz,hq',w3,hq0,h0,show ¬(n:Int)=0 by omega,w4,w5];simp[bP,zV]
theorem dnOf18(n:Nat)(nv:Int)(sn:List Snt)(f:Bool)(hn:n≤100)(hv:0≤nv∧nv<256)(hl:sn.length≤2000000)(hs:∀s∈sn,SntOk s):aL Tryz.prog 64 [.int .i64 n,.agg [.int .u8 nv,.lst 5 f (sn.map gn)]] fun r=>r = .tup [aq false (dnOf n nv sn),.bool (decide (sn.length≤5))]:=by
 have t0:=sW 3 hv.1;have t1:=sR nv (show(0:Int)<3 by omega)
 have w0:IntKind.u8.wrap (nv.tmod 3)=nv.tmod 3:=by rw[IntKind.wrap_u8];omega
 have w1:IntKind.i64.wrap (nv.tmod 3)=nv.tmod 3:=wrap64 (by omega) (by omega);have w2:IntKind.i64.wrap (1+nv.tmod 3)=1+nv.tmod 3:=wrap64 (by omega) (by omega);have hdn:dnOf n nv sn=⟨1+nv.tmod 3,sn.map (atOf n (1+nv.tmod 3))⟩:=rfl;rw[hdn];obtain⟨q,hq⟩:∃q,q=nv.tmod 3:=⟨_,rfl⟩;rw[←hq]at t0 t1 w0 w1 w2 ⊢;obtain⟨vs,hvs⟩:∃vs,vs=1+q:=⟨_,rfl⟩;rw[←hvs]at w2 ⊢;have hq':=hq.symm;have hvs':=hvs.symm;obtain⟨A,hA⟩:∃A,A=sn.map (atOf n vs):=⟨_,rfl⟩
 have hAl:A.length=sn.length:=by rw[hA,sK]
 have hAi:∀i (h:i<sn.length),A.take (i+1)=A.take i++[atOf n vs sn[i]]:=fun i h=>by
  rw[rV (by omega)];congr 2;simp[hA]
 rw[←hA]
 have hrb:∀(i:Nat) (al:List At),∀bl∈[B.cells [.int .u8 nv,.lst 5 f (sn.map gn)],B.cells [.int .i64 0,.nilS],B.cells [.int .i64 vs,.buf 3 0 i i],B.buf 213 11 (al.map ar) false],rbB 4 bl:=fun i al bl hbl=>by
  simp only[rU,rS,or_false]at hbl
  rcases hbl with rfl | rfl | rfl | rfl
  ·intro c hc;simp at hc;rcases hc with rfl | rfl<;>simp[rb,rb1]
  ·intro c hc;simp at hc;rcases hc with rfl | rfl<;>simp[rb,rb1]
  ·intro c hc;simp at hc;rcases hc with rfl | rfl<;>simp[rb,rb1]
  ·exact atoms_rb _ _ _ _
 refine sPx Tryz.func64 rfl rfl ?_;simp -dsimp[Tryz.f64,rO,hq',w0,w1,hvs',w2];refine aG (eS 213 11 [] 2 [1] rfl (by simp) (by simp) (W_loopM 50 0x3ffffffff8180 (by simp[mB]<;>rfl) (σ:=Nat) (fun i=>i≤sn.length) (fun i=>sn.length-i) (fun i=>[(7,.int .i64 i)]) (fun i=>[B.cells [.int .u8 nv,.lst 5 f (sn.map gn)],B.cells [.int .i64 0,.nilS],B.cells [.int .i64 vs,.buf 3 0 i i],B.buf 213 11 ((A.take i).map ar) false]) 0 (by omega) (by simp) (by simp) (by simp) ?_));intro i hi N Q hN hQ
 have htl:(A.take i).length=i:=by simp;omega
 by_cases hb:i<sn.length
 ·have hst:=hAi i hb;have hk:=hs _ (rQ hb);obtain⟨s,hse⟩:∃s,s=sn[i]:=⟨_,rfl⟩;rw[←hse]at hst hk;have o0:=sW 4 hk.op.1;have o1:=sR s.op (show(0:Int)<4 by omega)
  have v0:IntKind.u8.wrap (s.op.tmod 4)=s.op.tmod 4:=by rw[IntKind.wrap_u8];omega
  have v1:IntKind.i64.wrap (s.op.tmod 4)=s.op.tmod 4:=wrap64 (by omega) (by omega);have v2:IntKind.i64.wrap (1+s.op.tmod 4)=1+s.op.tmod 4:=wrap64 (by omega) (by omega);have c1:=side18 n vs s.lv s.lc hn (by omega) (by omega) hk.lv hk.lc;have c2:=side18 n vs s.rv s.rc hn (by omega) (by omega) hk.rv hk.rc;have hat:atOf n vs s=⟨oI n vs s.lv s.lc,1+s.op.tmod 4,oI n vs s.rv s.rc⟩:=rfl;rw[hat]at hst;obtain⟨tl,htl1⟩:∃tl,tl=oI n vs s.lv s.lc:=⟨_,rfl⟩;obtain⟨tr,htr1⟩:∃tr,tr=oI n vs s.rv s.rc:=⟨_,rfl⟩;rw[←htl1]at c1 hst;rw[←htr1]at c2 hst;simp only[bP]at c1 c2;obtain⟨al,hal⟩:∃al,al=A.take i:=⟨_,rfl⟩;rw[←hal]at hst htl ⊢;refine wx ?_;simp -dsimp[hb,hse.symm,gn];refine aG (aW tok mixed [21,23] [] [(bP tl,[]),(bP tr,[])] (by kernel_rfl) fun C K hC hK=>?_);simp -implicitDefEqProofs [bP,v0,v1,v2,htl,cap104 i (by omega),ai i (by omega)];refine⟨⟨hC _ _ _ _ (aK c1 (by simp)),hC _ _ _ _ (aK c2 (by simp))⟩,hK _ _ ?_⟩;simp -dsimp[aH i (by omega)];refine hN (i+1) _ _ (by omega) (by omega) (by simp) ⟨[B.cells [.int .u8 s.lv,.int .u8 s.lc,.int .u8 s.op,.int .u8 s.rv,.int .u8 s.rc]],by simp[hst,ar]⟩ (by simp) (hrb _ _)
 ·obtain rfl:i=sn.length:=by omega
  rw[rt (by omega)];refine eT 3 [] 2 [1] rfl rfl (by simp) (by simp[hAl]) ?_;refine wx ?_;simp -dsimp[hb];refine hQ _ _ _ ?_;simp -dsimp[]
  have h5:((sn.length:Int)≤5)↔sn.length≤5:=by omega
  refine aG (aW tok mixed [5] [(1,[1]),(2,[1]),(3,[1]),(4,[1])] [] (by kernel_rfl) fun C K hC hK=>?_);simp -implicitDefEqProofs [h5];refine hK _ _ ?_;simp -dsimp[aq,LA]
  done
theorem u32u8{c:Int}(h:0≤c∧c<256):IntKind.u32.wrap c=c:=by rw[IntKind.wrap_u32];omega
theorem capCl(n:Nat)(h:n≤1000000000):n≤9223372036854775806∧(n+1)*40≤140737488355328:=by omega
theorem cls_rb(n e:Nat)(al:List Cl)(fz:Bool):rbB n (.buf e 4 (al.map ao) fz):=by
 intro x hx;obtain⟨y,_,rfl⟩:=List.mem_map.1 hx;intro c hc;simp only[ao,V.cells,rU,rS,or_false]at hc
 rcases hc with rfl | rfl | rfl | rfl<;>simp[rb,rb1]
theorem nums_rb(n e:Nat)(l:List Int)(fz:Bool):rbB n (.buf e 1 (l.map aE) fz):=by
 intro x hx;obtain⟨y,_,rfl⟩:=List.mem_map.1 hx;intro c hc;simp only[aE,V.cells,rU,rS,or_false]at hc;subst hc;simp[rb1]
theorem cfOf16(n:Nat)(s b:Int)(cs:List Int)(f:Bool)(hn0:0<n)(hn:n≤16)(hs:0≤s∧s<256)(hb:0≤b∧b<256)(hl:cs.length≤9223372036854775807)(hv:∀c∈cs,0≤c∧c<256):aL Tryz.prog 62 [.int .i64 n,.agg [.int .u8 s,.int .u8 b,.lst 1 f (cs.map eH)]] fun r=>r=ah false false (cfOf n s b cs):=by
 obtain⟨r1,r2⟩:=cfR_lt hn0 hb.1;unfold cfOf;obtain⟨R,hR⟩:∃R,R=cfR n b:=⟨_,rfl⟩;rw[←hR]at r1 r2 ⊢;have w1:IntKind.i64.wrap b=b:=wrap64 (by omega) (by omega);have w2:IntKind.i64.wrap (R:Int)=(R:Int):=wrap64 (by omega) (by omega);have ws:=u32u8 hs
 have hnz:¬(n:Int)=0:=by omega
 obtain⟨L,hL⟩:∃L,L=cfL s R n:=⟨_,rfl⟩
 have hLl:L.length≤16:=by rw[hL];exact sF (pA _ _ _) hn
 rw[←hL]
 have hrb1:∀l:List Int,∀bl∈[B.cells [.int .u8 s,.int .u8 b,.lst 1 f (cs.map eH)],B.cells [.nilS,.int .i64 0,.nilS],B.cells [.buf 3 0 l.length l.length,.int .i64 R,.nilS],B.buf 3 1 (l.map aE) false],rbB 4 bl:=fun l bl hbl=>by
  simp only[rU,rS,or_false]at hbl
  rcases hbl with rfl | rfl | rfl | rfl
  ·intro c hc;simp at hc;rcases hc with rfl | rfl | rfl<;>simp[rb,rb1]
  ·intro c hc;simp only[rU,rS,or_false]at hc;rcases hc with rfl | rfl | rfl<;>simp[rb,rb1]
  ·intro c hc;simp at hc;rcases hc with rfl | rfl | rfl<;>simp[rb,rb1]
  ·exact nums_rb _ _ _ _
 have hrb2:∀(m:Nat) (ps:List Cl),∀bl∈[B.cells [.int .u8 s,.int .u8 b,.lst 1 f (cs.map eH)],B.cells [.nilS,.int .i64 0,.nilS],B.cells [.lst 1 false (L.map aE),.int .i64 R,.buf 4 0 m m],B.buf 3 1 (L.map aE) true,B.buf 202 4 (ps.map ao) false],rbB 5 bl:=fun m ps bl hbl=>by
  simp only[rU,rS,or_false]at hbl
  rcases hbl with rfl | rfl | rfl | rfl | rfl
  ·intro c hc;simp at hc;rcases hc with rfl | rfl | rfl<;>simp[rb,rb1]
  ·intro c hc;simp only[rU,rS,or_false]at hc;rcases hc with rfl | rfl | rfl<;>simp[rb,rb1]
  ·intro c hc;simp at hc;rcases hc with rfl | rfl | rfl<;>simp[rb,rb1]
  ·exact nums_rb _ _ _ _
  ·exact cls_rb _ _ _ _
 refine sPx Tryz.func62 rfl rfl ?_;simp -dsimp[Tryz.f62,rO,hnz,show ¬n=0 by omega,w1,r1.symm,w2];refine aG (eS 3 1 [] 2 [0] rfl (by simp) (by simp) (W_loopM 36 0xfffffc040 (by simp[mB]<;>rfl) (σ:=Nat×List Int) (fun p=>p.1≤n∧p.2=cfL s R p.1) (fun p=>n-p.1) (fun p=>[(6,.int .i64 p.1)]) (fun p=>[B.cells [.int .u8 s,.int .u8 b,.lst 1 f (cs.map eH)],B.cells [.nilS,.int .i64 0,.nilS],B.cells [.buf 3 0 p.2.length p.2.length,.int .i64 R,.nilS],B.buf 3 1 (p.2.map aE) false]) (0,[]) ⟨by omega,rfl⟩ (by simp) (by simp) (by simp) ?_));rintro⟨i,l⟩ ⟨hi,hle⟩ N Q hN hQ;simp only at hi hle
 have hll:l.length≤i:=by rw[hle];exact pA _ _ _
 by_cases hib:i<n
 ·have ch:=has02 s i (by omega);have hsu:=cfL_succ s R i;rw[←hle]at hsu
  cases hq:ko s i with
  | false =>
   rw[hq]at ch;rw[hq,rZ,if_neg (by simp)]at hsu;refine wx ?_;simp -dsimp[hib,ws];refine cPx (ch) (by simp) ?_;simp -dsimp[aH i (by omega)];refine hN (i+1,l) _ _ ⟨by simp only;omega,hsu.symm⟩ (by simp only;omega) (by simp) ⟨[],by simp⟩ (by simp) (hrb1 _)
  | true =>
   rw[hq]at ch;by_cases hiR:i=R
   ·rw[hq,decide_eq_true hiR,vL,sv,if_neg (by simp)]at hsu;refine wx ?_;simp -dsimp[hib,ws];refine cPx (ch) (by simp) ?_;simp -dsimp[show(i:Int)=R by omega,hiR,aH i (by omega),aH R (by omega)];refine hN (i+1,l) _ _ ⟨by simp only;omega,hsu.symm⟩ (by simp only;omega) (by simp[hiR]) ⟨[],by simp⟩ (by simp) (hrb1 _)
   ·rw[hq,decide_eq_false hiR,uP,vK,if_pos rfl]at hsu;refine wx ?_;simp -dsimp[hib,ws];refine cPx (ch) (by simp) ?_;simp -dsimp[show ¬(i:Int)=R by omega,hiR,go l.length (by omega),ai l.length (by omega),aH i (by omega)];refine hN (i+1,l++[(i:Int)]) _ _ ⟨by simp only;omega,hsu.symm⟩ (by simp only;omega) (by simp) ⟨[],by simp[aE]⟩ (by simp) (hrb1 _)
 ·obtain rfl:i=n:=by omega
  rw[←hL]at hle;subst hle;obtain⟨m,hm⟩:∃m,m=l.length:=⟨_,rfl⟩;refine eT 3 [] 2 [0] rfl rfl (by simp) (by simp) ?_;refine wx ?_;simp -dsimp[hib];refine hQ _ _ _ ?_;simp -dsimp[];refine aG (eS 202 4 [] 2 [2] rfl (by simp) (by simp) (W_loopM 77 0x1ffffffffff000000080 (by simp[mB]<;>rfl) (σ:=Nat) (fun k=>k≤l.length+1) (fun k=>l.length+1-k) (fun k=>[(7,.int .i64 k)]) (fun k=>[B.cells [.int .u8 s,.int .u8 b,.lst 1 f (cs.map eH)],B.cells [.nilS,.int .i64 0,.nilS],B.cells [.lst 1 false (l.map aE),.int .i64 R,.buf 4 0 k k],B.buf 3 1 (l.map aE) true,B.buf 202 4 ((cfP cs k).map ao) false]) 0 (by omega) (by simp) (by simp[cfP]) (by simp) ?_));intro k hk N2 Q2 hN2 hQ2;have hpl:=cfP_len cs k;have hps:=cfP_succ cs k;obtain⟨ps,hpe⟩:∃ps,ps=cfP cs k:=⟨_,rfl⟩;rw[←hpe]at hpl hps ⊢;by_cases hkb:k≤l.length
  ·by_cases hkc:k<cs.length
   ·have hg:cs.getD k 0=cs[k]:=by simp[hkc]
    unfold clOf at hps;rw[hg]at hps;have hx:=hv _ (rQ hkc);obtain⟨x,hxe⟩:∃x,x=cs[k]:=⟨_,rfl⟩;rw[←hxe]at hps hx;have t0:=sW 2 hx.1;have t1:=sR x (show(0:Int)<2 by omega)
    have u1:IntKind.u8.wrap (x.tmod 2)=x.tmod 2:=by rw[IntKind.wrap_u8];omega
    by_cases h2:x.tmod 2=0
    ·rw[if_neg (by omega)]at hps;refine wx ?_;simp -dsimp[show(k:Int)≤l.length by omega,hkb,hkc,show ¬cs.length≤k by omega,hxe.symm,eH,u1,h2];simp -dsimp[hpl,capCl k (by omega),ai k (by omega),aH k (by omega)];refine hN2 (k+1) _ _ (by omega) (by omega) (by simp) ⟨[],by simp[hps,ao,zV]⟩ (by simp) (hrb2 _ _)
    ·rw[if_pos ⟨hkc,h2⟩]at hps
     have d0:0≤x.tdiv 2∧x.tdiv 2<256:=by rw[Int.tdiv_eq_ediv_of_nonneg hx.1];omega
     have u2:IntKind.u8.wrap (x.tdiv 2)=x.tdiv 2:=by rw[IntKind.wrap_u8];omega
     have d1:=sW 3 d0.1;have d2:=sR (x.tdiv 2) (show(0:Int)<3 by omega)
     have u3:IntKind.u8.wrap ((x.tdiv 2).tmod 3)=(x.tdiv 2).tmod 3:=by rw[IntKind.wrap_u8];omega
     have co:=of01 ((x.tdiv 2).tmod 3);obtain⟨vl,hvl⟩:∃vl,vl=ofC ((x.tdiv 2).tmod 3):=⟨_,rfl⟩;rw[←hvl]at co hps;simp only[aX]at co;refine wx ?_;simp -dsimp[show(k:Int)≤l.length by omega,hkb,hkc,show ¬cs.length≤k by omega,hxe.symm,eH,u1,h2];refine aG (aW tok mixed [12,14] [] [(aX vl,[])] (by kernel_rfl) fun C K hC hK=>?_);simp -implicitDefEqProofs [hkc,hxe.symm,eH,aX,u2,u3,hpl,capCl k (by omega),ai k (by omega)];refine⟨hC _ _ _ _ (aK co (by simp)),hK _ _ ?_⟩;simp -dsimp[aH k (by omega)];refine hN2 (k+1) _ _ (by omega) (by omega) (by simp) ⟨[],by simp[hps,ao]⟩ (by simp) (hrb2 _ _)
   ·unfold clOf at hps;rw[if_neg (by omega)]at hps;refine wx ?_;simp -dsimp[show(k:Int)≤l.length by omega,hkb,hkc,show(cs.length:Int)≤k by omega,show cs.length≤k by omega];simp -dsimp[hpl,capCl k (by omega),ai k (by omega),aH k (by omega)];refine hN2 (k+1) _ _ (by omega) (by omega) (by simp) ⟨[],by simp[hps,ao,zV]⟩ (by simp) (hrb2 _ _)
  ·obtain rfl:k=l.length+1:=by omega
   refine eT 4 [] 2 [2] rfl rfl (by simp) (by simp[hpl]) ?_;refine wx ?_;simp -dsimp[show ¬((l.length:Int)+1≤l.length) by omega];refine hQ2 _ _ _ ?_;simp -dsimp[];simp[ah,L1,LCl,hpe]
def cnW(c:Cn)(cl cp ol or at_:V):V:=.agg [.str c.name,.str c.table,.int .i64 c.kind,.int .u32 (c.fd.l:Int),.int .u32 (c.fd.r:Int),.int .u32 c.m1,.int .u32 c.m2,.str c.i1,.nilS,.str c.i3,.nilS,cl,.int .i64 c.cfd.r,cp,ol,or,.int .i64 c.dn.vars,at_]
theorem lfN(z:Nat):lfB .nilS (.lst z false []):=.inr (.inr ⟨z,rfl,rfl⟩)
theorem ow{f:FuncId}{args:List V}{c:Cn}{cl cp ol or at_:V}{b:Bool}(h:aL Tryz.prog f args fun x=>x = .tup [cnW c cl cp ol or at_,.bool b])(h1:c.i2=[]∧c.i4=[])
  (h2:lfB cl (L1 false c.cfd.l)) (h3:lfB cp (LCl false c.cfd.p)) (h4:lfB ol (L1 false c.od.l)) (h5:lfB or (L1 false c.od.r)) (h6:lfB at_ (LA false c.dn.atoms)):aL Tryz.prog f args fun x=>x = .tup [af c,.bool b]:=by
 refine conP_lf h (fun s u hr=>rel_tup2 hr fun x hx=>?_) (.tup _ (by simp));refine pV hx ?_;refine⟨.inl rfl,.inl rfl,.inl rfl,.inl rfl,.inl rfl,.inl rfl,.inl rfl,.inl rfl,?_,.inl rfl,?_,h2,.inl rfl,h3,h4,h5,.inl rfl,h6,trivial⟩
 ·rw[h1.1];exact lfN 1
 ·rw[h1.2];exact lfN 1
theorem ruleOf37(n:Nat)(r:Rul)(hn:n≤16)(h:RulOk r):aL Tryz.prog 26 [.int .i64 n,bd r] fun x=>x = .tup [af (eW n r),.bool (ez r)]:=by
 have t0:=sW 5 h.k.1;have t1:=sR r.k (show(0:Int)<5 by omega)
 have w0:IntKind.u8.wrap (r.k.tmod 5)=r.k.tmod 5:=by rw[IntKind.wrap_u8];omega
 have dflt:¬r.k.tmod 5=2→¬r.k.tmod 5=3→(r.k.tmod 5=1→n=0)→aL Tryz.prog 26 [.int .i64 n,bd r] fun x=>x = .tup [af (eW n r),.bool (ez r)]:=fun g2 g3 g1=>by
  have hcn:eW n r = { cn0 with kind:=1,fd:=fdOf n r.fd }:=by unfold eW;rw[if_neg (fun e=>by have:=g1 e.1;omega),if_neg g2,if_neg g3]
  have hok:ez r=true:=by unfold ez;rw[decide_eq_false g3];rfl
  rw[hcn,hok];refine ow (cl:=.nilS) (cp:=.nilS) (ol:=.nilS) (or:=.nilS) (at_:=.nilS) ?_ ⟨rfl,rfl⟩ (lfN _) (lfN _) (lfN _) (lfN _) (lfN _);have c1:=list09 n [r.fd] true (by omega) (by simp) (fun d hd=>by simp at hd;rw[hd];exact h.fd);simp only[tF,tt,encD,LF,gH]at c1;obtain⟨q,hq⟩:∃q,q=r.k.tmod 5:=⟨_,rfl⟩;rw[←hq]at g2 g3 g1 t0 t1 w0;have hq':=hq.symm;by_cases hq1:q=1
  ·have hn0:=g1 hq1;subst hn0;refine sPx Tryz.func26 rfl rfl ?_;simp -dsimp[Tryz.f26,rO,bd,LU,hq',w0,hq1];refine aG (aW tok mixed [8,10] [(5,[1]),(6,[1])] [(.lst 2 false [gH (fdOf 0 r.fd)],[])] (by kernel_rfl) fun C K hC hK=>?_);simp -implicitDefEqProofs [gH];refine⟨hC _ _ _ _ (aK c1 (by simp)),hK _ _ ?_⟩;simp -dsimp[cnW,cn0,strC,strR]
  ·refine sPx Tryz.func26 rfl rfl ?_;simp -dsimp[Tryz.f26,rO,bd,LU,hq',w0,hq1,g2,g3];refine aG (aW tok mixed [8,10] [(5,[1]),(6,[1])] [(.lst 2 false [gH (fdOf n r.fd)],[])] (by kernel_rfl) fun C K hC hK=>?_);simp -implicitDefEqProofs [gH];refine⟨hC _ _ _ _ (aK c1 (by simp)),hK _ _ ?_⟩;simp -dsimp[cnW,cn0,strC,strR]
 by_cases g1:r.k.tmod 5=1
 ·by_cases h0:n=0
  ·exact dflt (by omega) (by omega) fun _=>h0
  ·have hcn:eW n r = { cn0 with kind:=4,cfd:=cfOf n r.cl r.cr r.cs }:=by unfold eW;rw[if_pos ⟨g1,by omega⟩]
   have hok:ez r=true:=by unfold ez;rw[decide_eq_false (by omega)];rfl
   rw[hcn,hok];refine ow (cl:=L1 false (cfOf n r.cl r.cr r.cs).l) (cp:=LCl false (cfOf n r.cl r.cr r.cs).p) (ol:=.nilS) (or:=.nilS) (at_:=.nilS) ?_ ⟨rfl,rfl⟩ (.inl rfl) (.inl rfl) (lfN _) (lfN _) (lfN _);have c1:=cfOf16 n r.cl r.cr r.cs false (by omega) hn h.cl h.cr h.cs h.csv;obtain⟨cf,hcf⟩:∃cf,cf=cfOf n r.cl r.cr r.cs:=⟨_,rfl⟩;rw[←hcf]at c1 ⊢;simp only[ah,L1,LCl]at c1;obtain⟨q,hq⟩:∃q,q=r.k.tmod 5:=⟨_,rfl⟩;rw[←hq]at g1 w0;have hq':=hq.symm;subst g1;refine sPx Tryz.func26 rfl rfl ?_;simp -dsimp[Tryz.f26,rO,bd,LU,hq',w0,show(0:Int)<n by omega,show 0<n by omega];refine cPx (c1) (by simp) ?_;simp -dsimp[cnW,cn0,strC,strR,L1,LCl]
 by_cases g2:r.k.tmod 5=2
 ·have hcn:eW n r = { cn0 with kind:=5,od:=odOf n r.xs r.ys }:=by unfold eW;rw[if_neg (by omega),if_pos g2]
  have hok:ez r=true:=by unfold ez;rw[decide_eq_false (by omega)];rfl
  rw[hcn,hok];refine ow (cl:=.nilS) (cp:=.nilS) (ol:=L1 false (odOf n r.xs r.ys).l) (or:=L1 false (odOf n r.xs r.ys).r) (at_:=.nilS) ?_ ⟨rfl,rfl⟩ (lfN _) (lfN _) (.inl rfl) (.inl rfl) (lfN _);have c1:=odOf17 n r.xs r.ys false false h.xs h.xsv h.ys h.ysv (by omega);obtain⟨od,hod⟩:∃od,od=odOf n r.xs r.ys:=⟨_,rfl⟩;rw[←hod]at c1 ⊢;simp only[bM,L1]at c1;obtain⟨q,hq⟩:∃q,q=r.k.tmod 5:=⟨_,rfl⟩;rw[←hq]at g2 w0;have hq':=hq.symm;subst g2;refine sPx Tryz.func26 rfl rfl ?_;simp -dsimp[Tryz.f26,rO,bd,LU,hq',w0];refine cPx (c1) (by simp) ?_;simp -dsimp[cnW,cn0,strC,strR,L1,LCl]
 by_cases g3:r.k.tmod 5=3
 ·have hcn:eW n r = { cn0 with kind:=6,dn:=dnOf n r.nv r.sn }:=by unfold eW;rw[if_neg (by omega),if_neg g2,if_pos g3]
  have hok:ez r=decide (r.sn.length≤5):=by unfold ez;rw[decide_eq_true g3];rfl
  rw[hcn,hok];refine ow (cl:=.nilS) (cp:=.nilS) (ol:=.nilS) (or:=.nilS) (at_:=LA false (dnOf n r.nv r.sn).atoms) ?_ ⟨rfl,rfl⟩ (lfN _) (lfN _) (lfN _) (lfN _) (.inl rfl);have c1:=dnOf18 n r.nv r.sn false (by omega) h.nv (by have:=h.sn;omega) h.snv;obtain⟨dn,hdn⟩:∃dn,dn=dnOf n r.nv r.sn:=⟨_,rfl⟩;rw[←hdn]at c1 ⊢;simp only[aq,LA]at c1;obtain⟨q,hq⟩:∃q,q=r.k.tmod 5:=⟨_,rfl⟩;rw[←hq]at g3 w0;have hq':=hq.symm;subst g3;obtain⟨bb,hbb⟩:∃bb,bb=decide (r.sn.length≤5):=⟨_,rfl⟩;rw[←hbb]at c1 ⊢;refine sPx Tryz.func26 rfl rfl ?_;simp -dsimp[Tryz.f26,rO,bd,LU,hq',w0];refine cPx (c1) (by simp) ?_;simp -dsimp[];refine aG (aW tok mixed [2,4] [(0,[1])] [] (by kernel_rfl) fun C K hC hK=>?_);simp -implicitDefEqProofs [];refine hK _ _ ?_;simp -dsimp[cnW,cn0,strC,strR,LA]
 exact dflt g2 g3 fun e=>absurd e g1
theorem table03(x:Rcp)(f:Bool)(ha:0≤x.a∧x.a<256)(hg:0≤x.gap)(hc:∀r∈x.rows,r.length≤9223372036854775807):aL Tryz.prog 36 [gF f x,.int .i64 6] fun r=>r=if x.rows.length≤6 then .tup [aD false false (eV x),.bool true] else .tup [.agg [.str rY,.nilS,.nilS],.bool false]:=by
 by_cases h6:x.rows.length≤6
 ·rw[if_pos h6];obtain⟨h1,h2⟩:=tbOf_n ha.1;have t0:=sW 6 ha.1;have t1:=sR x.a (show(0:Int)<6 by omega);have c1:=wide03 x (x.a.tmod 6).toNat f (by omega) (by omega) hc hg;rw[h2]at c1
  have w0:IntKind.u8.wrap (x.a.tmod 6)=x.a.tmod 6:=by rw[IntKind.wrap_u8];omega
  have w1:IntKind.i64.wrap (x.a.tmod 6)=x.a.tmod 6:=wrap64 (by omega) (by omega);rw[show wideT x (x.a.tmod 6).toNat=eV x from rfl]at c1;obtain⟨t,ht⟩:∃t,t=eV x:=⟨_,rfl⟩;rw[←ht]at c1 ⊢;simp only[gF,aD,LS,LR]at c1;refine sPx Tryz.func36 rfl rfl ?_;simp -dsimp[Tryz.f36,rO,gF,w0,w1,show ¬(6:Int)<x.rows.length by omega];refine cPx (c1) (by simp) ?_;simp -dsimp[aD,LS,LR]
 ·rw[if_neg h6];refine sPx Tryz.func36 rfl rfl ?_;simp -dsimp[Tryz.f36,rO,gF,show(6:Int)<x.rows.length by omega]
end
end Go.Proofs.YtjogkbekekdkjaaGreatDoor
