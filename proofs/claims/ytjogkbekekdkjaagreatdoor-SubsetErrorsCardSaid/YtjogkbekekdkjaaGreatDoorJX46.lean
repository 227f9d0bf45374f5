/- JX46: own texts of this seat, joined and shortened by pack4.py: SL4. -/
import Derived.Test.YtjogkbekekdkjaaGreatDoorJX39
set_option linter.unusedVariables false
set_option linter.unusedSimpArgs false
set_option maxRecDepth 100000
set_option maxHeartbeats 64000000
open List renaming replicate→rO,not_mem_nil→rS,mem_cons→rU,take_succ_eq_append_getElem→rV,take_of_length_le→rt,mem_singleton→sC
namespace Go.Proofs.YtjogkbekekdkjaaGreatDoor
section
open Go Go.AM
theorem fY{t:Tb}(h:16<t.attrs.length∨1000<t.rows.length):aZ t=if bp t.name=true then 3 else 1:=by
 unfold aZ;rw[if_pos h]
theorem valid03b(t:Tb)(f g:Bool)(hn:t.name.size≤maxLen)(h:16<t.attrs.length):aL Tryz.prog 83 [aD f g t] fun r=>r = .int .i64 (aZ t):=by
 rw[fY (.inl h)];have c1:=lG t.name hn
 cases hb:bp t.name with
 | false =>
  rw[hb]at c1;refine sPx Tryz.func83 rfl rfl ?_;simp -dsimp[Tryz.f83,rO,aD,LS,LR];refine cPx (c1) (by simp) ?_;simp -dsimp[]
 | true =>
  rw[hb]at c1;refine sPx Tryz.func83 rfl rfl ?_;simp -dsimp[Tryz.f83,rO,aD,LS,LR];refine cPx (c1) (by simp) ?_;simp -dsimp[show(16:Int)<t.attrs.length by omega]
theorem tableValidb(t:Tb)(f g:Bool)(hn:t.name.size≤maxLen)(h:16<t.attrs.length):aL Tryz.prog 77 [aD f g t] fun r=>r = .int .i64 (aZ t):=by
 rw[fY (.inl h)];have c1:=lI t.name hn
 cases hb:bp t.name with
 | false =>
  rw[hb]at c1;refine sPx Tryz.func77 rfl rfl ?_;simp -dsimp[Tryz.f77,rO,aD,LS,LR];refine cPx (c1) (by simp) ?_;simp -dsimp[]
 | true =>
  rw[hb]at c1;refine sPx Tryz.func77 rfl rfl ?_;simp -dsimp[Tryz.f77,rO,aD,LS,LR];refine cPx (c1) (by simp) ?_;simp -dsimp[show(16:Int)<t.attrs.length by omega]
theorem build_ub(t:Tb)(cs:List Cn)(f g fc:Bool)(hn:t.name.size≤maxLen)(h:16<t.attrs.length):aL Tryz.prog 39 [aD f g t,LCn fc cs] fun r=>r = .tup [.agg [.nilS,.nilS],.int .i64 (aZ t)]:=by
 have c1:=tableValidb t f g hn h
 have hv:¬aZ t=0:=by rw[fY (.inl h)];split<;>omega
 obtain⟨e,hee⟩:∃e,e=aZ t:=⟨_,rfl⟩;rw[←hee]at c1 hv ⊢;simp only[aD,LS,LR]at c1;refine sPx Tryz.func39 rfl rfl ?_;simp -dsimp[Tryz.f39,rO,aD,LS,LR,LCn];refine cPx (c1) (by simp) ?_;simp -dsimp[hv]
theorem build37b(t:Tb)(cs:List Cn)(f g fc:Bool)(hn:t.name.size≤maxLen)(h:16<t.attrs.length):aL Tryz.prog 42 [aD f g t,LCn fc cs] fun r=>r = .tup [.agg [.nilS,.nilS],.int .i64 (aZ t)]:=by
 have c1:=valid03b t f g hn h
 have hv:¬aZ t=0:=by rw[fY (.inl h)];split<;>omega
 obtain⟨e,hee⟩:∃e,e=aZ t:=⟨_,rfl⟩;rw[←hee]at c1 hv ⊢;simp only[aD,LS,LR]at c1;refine sPx Tryz.func42 rfl rfl ?_;simp -dsimp[Tryz.f42,rO,aD,LS,LR,LCn];refine cPx (c1) (by simp) ?_;simp -dsimp[hv]
structure CnF (c:Cn):Prop where
 l:c.cfd.l.length≤20
 p:c.cfd.p.length≤20
 ol:c.od.l.length≤20
 or:c.od.r.length≤20
 at_:c.dn.atoms.length≤25
theorem lE(t:Tb)(cs:List Cn)(w:List Int)(fw:Bool)(f g fc:Bool){e:Int}(he:¬e=0)(cb:aL Tryz.prog 39 [aD f g t,LCn fc cs] fun r=>r = .tup [.agg [.nilS,.nilS],.int .i64 e]):aL Tryz.prog 13 [aD f g t,LCn fc cs,L1 fw w] fun r=>r = .tup [.agg [.nilS,.nilS],.int .i64 e]:=by
 simp only[aD,LS,LR,LCn]at cb;refine sPx Tryz.func13 rfl rfl ?_;simp -dsimp[Tryz.f13,rO,aD,LS,LR,LCn,L1];refine cPx (cb) (by simp) ?_;simp -dsimp[he]
theorem problem_re(t:Tb)(cs:List Cn)(w:List Int)(fw:Bool)(f g fc:Bool){e:Int}(he:¬e=0)(cb:aL Tryz.prog 42 [aD f g t,LCn fc cs] fun r=>r = .tup [.agg [.nilS,.nilS],.int .i64 e]):aL Tryz.prog 16 [aD f g t,LCn fc cs,L1 fw w] fun r=>r = .tup [.agg [.nilS,.nilS],.int .i64 e]:=by
 simp only[aD,LS,LR,LCn]at cb;refine sPx Tryz.func16 rfl rfl ?_;simp -dsimp[Tryz.f16,rO,aD,LS,LR,LCn,L1];refine cPx (cb) (by simp) ?_;simp -dsimp[he]
theorem optimal_ue(t:Tb)(cs:List Cn)(w:List Int)(fw:Bool)(lf:Int)(f g fc:Bool){e:Int}(he:¬e=0)(cb:aL Tryz.prog 39 [aD f g t,LCn fc cs] fun r=>r = .tup [.agg [.nilS,.nilS],.int .i64 e]):aL Tryz.prog 18 [aD f g t,LCn fc cs,L1 fw w,.int .i64 lf] fun r=>r = .tup [.agg [.nilS,.int .i64 0,.nilS],.int .i64 e]:=by
 have cp:=lE t cs w fw f g fc he cb;simp only[aD,LS,LR,LCn,L1]at cp;refine sPx Tryz.func18 rfl rfl ?_;simp -dsimp[Tryz.f18,rO,aD,LS,LR,LCn,L1];refine cPx (cp) (by simp) ?_;simp -dsimp[he]
theorem bounds_ue(t:Tb)(cs:List Cn)(w:List Int)(fw:Bool)(f g fc:Bool){e:Int}(he:¬e=0)(cb:aL Tryz.prog 39 [aD f g t,LCn fc cs] fun r=>r = .tup [.agg [.nilS,.nilS],.int .i64 e]):aL Tryz.prog 29 [aD f g t,LCn fc cs,L1 fw w] fun r=>r = .tup [.int .i64 0,.int .i64 0,.int .i64 e]:=by
 have cp:=lE t cs w fw f g fc he cb;simp only[aD,LS,LR,LCn,L1]at cp;refine sPx Tryz.func29 rfl rfl ?_;simp -dsimp[Tryz.f29,rO,aD,LS,LR,LCn,L1];refine cPx (cp) (by simp) ?_;simp -dsimp[he]
theorem repairs_ue(t:Tb)(cs:List Cn)(f g fc:Bool){e:Int}(he:¬e=0)(cb:aL Tryz.prog 39 [aD f g t,LCn fc cs] fun r=>r = .tup [.agg [.nilS,.nilS],.int .i64 e]):aL Tryz.prog 30 [aD f g t,LCn fc cs,.nilS] fun r=>r = .tup [.bool false,.int .i64 e]:=by
 have cu:aL Tryz.prog 70 [aD f g t,LCn fc cs,.nilS] fun r=>r = .tup [.agg [.nilS,.nilS],.int .i64 e]:=by
  simp only[aD,LS,LR,LCn]at cb;refine sPx Tryz.func70 rfl rfl ?_;simp -dsimp[Tryz.f70,rO,aD,LS,LR,LCn,L1];refine cPx (cb) (by simp) ?_;simp -dsimp[he]
 simp only[aD,LS,LR,LCn]at cu;refine sPx Tryz.func30 rfl rfl ?_;simp -dsimp[Tryz.f30,rO,aD,LS,LR,LCn,L1];refine cPx (cu) (by simp) ?_;simp -dsimp[he]
theorem repairs_re(t:Tb)(cs:List Cn)(f g fc:Bool){e:Int}(he:¬e=0)(cb:aL Tryz.prog 42 [aD f g t,LCn fc cs] fun r=>r = .tup [.agg [.nilS,.nilS],.int .i64 e]):aL Tryz.prog 31 [aD f g t,LCn fc cs,.nilS] fun r=>r = .tup [.bool false,.int .i64 e]:=by
 simp only[aD,LS,LR,LCn]at cb;refine sPx Tryz.func31 rfl rfl ?_;simp -dsimp[Tryz.f31,rO,aD,LS,LR,LCn,L1];refine cPx (cb) (by simp) ?_;simp -dsimp[he]
theorem conP_nil3{P:Program}{f:FuncId}{a b:V}{z:Nat}{K:V→Prop}(h:aL P f [a,b,.lst z false []] K):aL P f [a,b,.nilS] K :=
 na h rfl (fun i x y h1 h2=>by
  match i with
  | 0=>simp at h1 h2;subst h1;subst h2;exact .refl _
  | 1=>simp at h1 h2;subst h1;subst h2;exact .refl _
  | 2=>simp at h1 h2;subst h1;subst h2;exact .nil _ _
  | n+3=>simp at h1)
structure ErA (t:Tb) (cs:List Cn) (w:List Int) (f g fc fw:Bool) (e:Int) (pv:V):Prop where
 pu:aL Tryz.prog 13 [aD f g t,LCn fc cs,L1 fw w] fun r=>r = .tup [pv,.int .i64 e]
 pr:aL Tryz.prog 16 [aD f g t,LCn fc cs,L1 fw w] fun r=>r = .tup [pv,.int .i64 e]
 bo:∃lo hi:Int,aL Tryz.prog 29 [aD f g t,LCn fc cs,L1 fw w] fun r=>r = .tup [.int .i64 lo,.int .i64 hi,.int .i64 e]
 ru:∃(b:Bool) (e2:Int),aL Tryz.prog 30 [aD f g t,LCn fc cs,.nilS] (fun r=>r = .tup [.bool b,.int .i64 e2])∧aL Tryz.prog 31 [aD f g t,LCn fc cs,.nilS] (fun r=>r = .tup [.bool b,.int .i64 e2])
 sm:aL Tryz.prog 17 [pv,pv] fun r=>r = .bool true
theorem er_main{t:Tb}{cs:List Cn}{w:List Int}(f g fc fw:Bool)(hn:t.name.size≤maxLen)(hs:∀s∈t.attrs,s.size≤maxLen)(hz:∀r∈t.rows,∀v∈r.vals,v.s.size≤maxLen)(hc:∀c∈cs,CnSz c)(h8:t.rows.length≤8)(h4:cs.length≤4)(hw:w.length≤10)(hF:∀c∈cs,CnF c):
  (∃e,¬e=0∧ErA t cs w f g fc fw e (.agg [.nilS,.nilS])∧∀lf,lf<1∨lf=10000→aL Tryz.prog 18 [aD f g t,LCn fc cs,L1 fw w,.int .i64 lf] fun r=>r = .tup [.agg [.nilS,.int .i64 0,.nilS],.int .i64 e])∨
  ∃W0 E D b N0,ErA t cs w f g fc fw 0 (aR false false W0 E)∧(∀lf,lf<1→aL Tryz.prog 18 [aD f g t,LCn fc cs,L1 fw w,.int .i64 lf] fun r=>r = .tup [.agg [.nilS,.int .i64 0,.nilS],.int .i64 1])∧aL Tryz.prog 18 [aD f g t,LCn fc cs,L1 fw w,.int .i64 10000] fun r=>r = .tup [aj false false D b N0,.int .i64 0]:=by
 by_cases ha:16<t.attrs.length
 ·have he:¬aZ t=0:=by rw[fY (.inl ha)];split<;>omega
  have b1:=fun f g fc=>build_ub t cs f g fc hn ha
  have b2:=fun f g fc=>build37b t cs f g fc hn ha
  exact .inl ⟨aZ t,he,⟨lE t cs w fw f g fc he (b1 _ _ _),problem_re t cs w fw f g fc he (b2 _ _ _),⟨0,0,bounds_ue t cs w fw f g fc he (b1 _ _ _)⟩,⟨false,_,repairs_ue t cs f g fc he (b1 _ _ _),repairs_re t cs f g fc he (b2 _ _ _)⟩,same41n⟩,fun lf _=>optimal_ue t cs w fw lf f g fc he (b1 _ _ _)⟩
 ·have hok:TbOk t:=⟨hn,by omega,by omega,hs⟩;have hb:BdOk t cs:=⟨hok,fun h8=>⟨hok,hz,h8⟩,by omega,by omega,fun c h=>⟨by have:=(hF c h).l;omega,by have:=(hF c h).p;omega,by have:=(hF c h).ol;omega,by have:=(hF c h).or;omega,by have:=(hF c h).at_;omega,(hc c h).fd,(hc c h).a⟩⟩;have p1:=kK t cs w f g fc fw hb (by omega);have p2:=fT t cs w f g fc fw hb (by omega);have p3:=bounds_u t cs w f g fc fw hb (by omega);have p4:=conP_nil3 (repairs_u t cs [] f g fc false hb (by simp));have p5:=conP_nil3 (repairs_r t cs [] f g fc false hb (by simp))
  have p6:=fun lf h=>nK t cs w lf f g fc fw hb (by omega) h
  by_cases h0:prE t cs w=0
  ·obtain⟨q1,q2,q3⟩:=gQ h0;have hsm:=same41 (inW t w) (inE t cs) false false false false (by have:=q3.n;omega) (by have:=q3.ne;omega) (fun e he=>by have:=q3.ed.len e he;have:=q3.n;omega)
   have o1:∀lf,lf<1→opE t cs w lf=1∧opV t cs w lf = .agg [.nilS,.int .i64 0,.nilS]:=fun lf hl=>by
    have he:opE t cs w lf=1:=by unfold opE;rw[if_pos h0,if_pos hl]
    exact⟨he,by unfold opV;rw[he,if_neg (by decide)]⟩
   have o2:opE t cs w 10000=0∧opV t cs w 10000=aj false false (fo t cs w) (gj t cs w) (jb t cs w):=by
    have he:opE t cs w 10000=0:=by unfold opE;rw[if_pos h0,if_neg (by decide)]
    exact⟨he,by unfold opV;rw[if_pos he]⟩
   rw[fL h0,h0]at p1 p2;rw[show bdsV t cs w = .tup [.int .i64 (lowB t cs w),.int .i64 (highB t cs w),.int .i64 0] from by unfold bdsV;rw[if_pos h0]]at p3;refine .inr ⟨inW t w,inE t cs,fo t cs w,gj t cs w,jb t cs w,⟨p1,p2,⟨_,_,p3⟩,⟨_,_,p4,p5⟩,hsm⟩,fun lf hl=>?_,?_⟩
   ·have:=p6 lf (.inl hl);rw[(o1 lf hl).1,(o1 lf hl).2]at this;exact this
   ·have:=p6 10000 (.inr rfl);rw[o2.1,o2.2]at this;exact this
  ·rw[ic h0]at p1 p2;rw[show bdsV t cs w = .tup [.int .i64 0,.int .i64 0,.int .i64 (prE t cs w)] from by unfold bdsV;rw[if_neg h0]]at p3;refine .inl ⟨_,h0,⟨p1,p2,⟨_,_,p3⟩,⟨_,_,p4,p5⟩,same41n⟩,fun lf hl=>?_⟩
   have he:opE t cs w lf=prE t cs w:=by unfold opE;rw[if_neg h0]
   have hv:opV t cs w lf = .agg [.nilS,.int .i64 0,.nilS]:=by unfold opV;rw[he,if_neg h0]
   have:=p6 lf hl;rw[he,hv]at this;exact this
theorem lawErrors(t:Tb)(cs:List Cn)(w nums:List Int)(f g fc fw fn:Bool)(hn:t.name.size≤maxLen)(hs:∀s∈t.attrs,s.size≤maxLen)(hz:∀r∈t.rows,∀v∈r.vals,v.s.size≤maxLen)(hc:∀c∈cs,CnSz c):aL Tryz.prog 9 [aD f g t,LCn fc cs,.agg [L1 fw w,L1 fn nums]] fun r=>r = .bool true:=by
 have htB:B.cells [.str t.name,.lst 1 f (t.attrs.map V.str),.lst 2 g (t.rows.map aI)]=tcB t f g:=rfl
 have htr:∀n,rbB n (tcB t f g):=fun n=>bS n t f g
 by_cases h8:8<t.rows.length
 ·refine sPx Tryz.func9 rfl rfl ?_;simp -dsimp[Tryz.f9,rO,aD,LS,LR,LCn,L1];refine .inr ⟨aC (by kernel_rfl),?_⟩;refine cPx (aw) (by simp) ?_;simp -dsimp[show(8:Int)<t.rows.length by omega];refine cPx (aw) (by simp) ?_;simp -dsimp[]
 by_cases h4:4<cs.length
 ·refine sPx Tryz.func9 rfl rfl ?_;simp -dsimp[Tryz.f9,rO,aD,LS,LR,LCn,L1];refine .inr ⟨aC (by kernel_rfl),?_⟩;refine cPx (aw) (by simp) ?_;simp -dsimp[show ¬(8:Int)<t.rows.length by omega,show(4:Int)<cs.length by omega];refine cPx (aw) (by simp) ?_;simp -dsimp[]
 by_cases h10:10<w.length
 ·refine sPx Tryz.func9 rfl rfl ?_;simp -dsimp[Tryz.f9,rO,aD,LS,LR,LCn,L1];refine .inr ⟨aC (by kernel_rfl),?_⟩;refine cPx (aw) (by simp) ?_;simp -dsimp[show ¬(8:Int)<t.rows.length by omega,show ¬(4:Int)<cs.length by omega,show(10:Int)<w.length by omega];refine cPx (aw) (by simp) ?_;simp -dsimp[]
 have hmain:=fun hF=>er_main (t:=t) (cs:=cs) (w:=w) f g fc fw hn hs hz hc (by omega) (by omega) (by omega) hF
 obtain⟨AR,hAR⟩:∃AR,AR=B.cells [.lst 1 fw (w.map aE),.lst 1 fn (nums.map aE)]:=⟨_,rfl⟩
 have hrb:∀bl∈[tcB t f g,B.cells [.lst 1 fw (w.map aE),.lst 1 fn (nums.map aE)]],rbB 2 bl:=fun bl hbl=>by
  simp only[rU,rS,or_false]at hbl
  rcases hbl with rfl | rfl
  ·exact htr _
  ·exact cM (by simp[rb]) (by simp[rb])
 refine sPx Tryz.func9 rfl rfl ?_;simp -dsimp[Tryz.f9,rO,aD,LS,LR,LCn,L1];refine .inr ⟨aC (by kernel_rfl),?_⟩;refine cPx (aw) (by simp) ?_;simp -dsimp[show ¬(8:Int)<t.rows.length by omega,show ¬(4:Int)<cs.length by omega,show ¬(10:Int)<w.length by omega];refine aG (W_loopM 88 0xfffffffffc000000000440 (by simp[mB]<;>rfl) (σ:=Nat) (fun i=>i≤cs.length∧∀c∈cs.take i,CnF c) (fun i=>cs.length-i) (fun i=>[(50,.int .i64 i)]) (fun _=>[tcB t f g,B.cells [.lst 1 fw (w.map aE),.lst 1 fn (nums.map aE)]]) 0 ⟨by omega,by simp⟩ (by simp) (by simp[tcB]) (by simp) ?_);rintro i ⟨hi,hF⟩ N Q hN hQ;by_cases hb:i<cs.length
 ·have hFS:CnF cs[i]→∀c∈cs.take (i+1),CnF c:=fun h0 c hm=>by
   rw[rV hb]at hm
   rcases List.mem_append.1 hm with h1 | h1
   ·exact hF c h1
   ·rw[sC]at h1;rw[h1];exact h0
  obtain⟨c,hce⟩:∃c,c=cs[i]:=⟨_,rfl⟩;rw[←hce]at hFS;by_cases g1:20<c.cfd.l.length
  ·refine wx ?_;simp -dsimp[hb,hce.symm,af,L1,LCl,LA,show(20:Int)<c.cfd.l.length by omega];refine hQ _ _ _ ?_;simp -dsimp[]
  by_cases g2:20<c.cfd.p.length
  ·refine wx ?_;simp -dsimp[hb,hce.symm,af,L1,LCl,LA,show ¬(20:Int)<c.cfd.l.length by omega,show(20:Int)<c.cfd.p.length by omega];refine hQ _ _ _ ?_;simp -dsimp[]
  by_cases g3:20<c.od.l.length
  ·refine wx ?_;simp -dsimp[hb,hce.symm,af,L1,LCl,LA,show ¬(20:Int)<c.cfd.l.length by omega,show ¬(20:Int)<c.cfd.p.length by omega,show(20:Int)<c.od.l.length by omega];refine hQ _ _ _ ?_;simp -dsimp[]
  by_cases g4:20<c.od.r.length
  ·refine wx ?_;simp -dsimp[hb,hce.symm,af,L1,LCl,LA,show ¬(20:Int)<c.cfd.l.length by omega,show ¬(20:Int)<c.cfd.p.length by omega,show ¬(20:Int)<c.od.l.length by omega,show(20:Int)<c.od.r.length by omega];refine hQ _ _ _ ?_;simp -dsimp[]
  by_cases g5:25<c.dn.atoms.length
  ·refine wx ?_;simp -dsimp[hb,hce.symm,af,L1,LCl,LA,show ¬(20:Int)<c.cfd.l.length by omega,show ¬(20:Int)<c.cfd.p.length by omega,show ¬(20:Int)<c.od.l.length by omega,show ¬(20:Int)<c.od.r.length by omega,show(25:Int)<c.dn.atoms.length by omega];refine hQ _ _ _ ?_;simp -dsimp[]
  refine wx ?_;simp -dsimp[hb,hce.symm,af,L1,LCl,LA,show ¬(20:Int)<c.cfd.l.length by omega,show ¬(20:Int)<c.cfd.p.length by omega,show ¬(20:Int)<c.od.l.length by omega,show ¬(20:Int)<c.od.r.length by omega,show ¬(25:Int)<c.dn.atoms.length by omega,aH i (by omega)];refine hN (i+1) _ _ ⟨by omega,hFS ⟨by omega,by omega,by omega,by omega,by omega⟩⟩ (by omega) (by simp) ⟨[B.cells (dG c)],by simp[tcB,dG]⟩ (by simp) hrb
 ·rw[rt (by omega)]at hF
  rcases hmain hF with⟨e,he,A,hop⟩ | ⟨W0,E,D,b0,N0,A,hop1,hop2⟩
  ·have pu:=A.pu;have pr:=A.pr;have sm:=A.sm;obtain⟨lo,hi,pb⟩:=A.bo;obtain⟨b,e2,r1,r2⟩:=A.ru;clear A hmain;by_cases hnl:nums=[]
   ·have po:=hop 10000 (by omega);simp only[aD,LS,LR,LCn,L1,aR,LLn,aj,LNd]at pu pr sm pb r1 r2 po;refine wx ?_;simp -dsimp[hb];refine hQ _ _ _ ?_;simp -dsimp[hnl,tcB];refine cPx pu (by simp) ?_;simp -dsimp[];refine cPx pr (by simp) ?_;simp -dsimp[];refine cPx po (by simp) ?_;simp -dsimp[];refine cPx pb (by simp) ?_;simp -dsimp[];refine cPx r1 (by simp) ?_;simp -dsimp[];refine cPx r2 (by simp) ?_;simp -dsimp[he,dm];refine cPx sm (by simp) ?_;simp -dsimp[he,dm]
   ·have hn0:=List.length_pos_iff.2 hnl;obtain⟨y,hy⟩:∃y,y=nums[0]:=⟨_,rfl⟩;by_cases hy1:y<1
    ·have po:=hop 0 (by omega);simp only[aD,LS,LR,LCn,L1,aR,LLn,aj,LNd]at pu pr sm pb r1 r2 po;refine wx ?_;simp -dsimp[hb];refine hQ _ _ _ ?_;simp -dsimp[hn0,show(0:Int)<nums.length by omega,hy.symm,hy1,aE,tcB];refine cPx pu (by simp) ?_;simp -dsimp[];refine cPx pr (by simp) ?_;simp -dsimp[];refine cPx po (by simp) ?_;simp -dsimp[];refine cPx pb (by simp) ?_;simp -dsimp[];refine cPx r1 (by simp) ?_;simp -dsimp[];refine cPx r2 (by simp) ?_;simp -dsimp[he,dm];refine cPx sm (by simp) ?_;simp -dsimp[he,dm]
    ·have po:=hop 10000 (by omega);simp only[aD,LS,LR,LCn,L1,aR,LLn,aj,LNd]at pu pr sm pb r1 r2 po;refine wx ?_;simp -dsimp[hb];refine hQ _ _ _ ?_;simp -dsimp[hn0,show(0:Int)<nums.length by omega,hy.symm,hy1,aE,tcB];refine cPx pu (by simp) ?_;simp -dsimp[];refine cPx pr (by simp) ?_;simp -dsimp[];refine cPx po (by simp) ?_;simp -dsimp[];refine cPx pb (by simp) ?_;simp -dsimp[];refine cPx r1 (by simp) ?_;simp -dsimp[];refine cPx r2 (by simp) ?_;simp -dsimp[he,dm];refine cPx sm (by simp) ?_;simp -dsimp[he,dm]
  ·have pu:=A.pu;have pr:=A.pr;have sm:=A.sm;obtain⟨lo,hi,pb⟩:=A.bo;obtain⟨b,e2,r1,r2⟩:=A.ru;clear A hmain;by_cases hnl:nums=[]
   ·have po:=hop2;simp only[aD,LS,LR,LCn,L1,aR,LLn,aj,LNd]at pu pr sm pb r1 r2 po;refine wx ?_;simp -dsimp[hb];refine hQ _ _ _ ?_;simp -dsimp[hnl,tcB];refine cPx pu (by simp) ?_;simp -dsimp[];refine cPx pr (by simp) ?_;simp -dsimp[];refine cPx po (by simp) ?_;simp -dsimp[];refine cPx pb (by simp) ?_;simp -dsimp[];refine cPx r1 (by simp) ?_;simp -dsimp[];refine cPx r2 (by simp) ?_;simp -dsimp[dm];refine cPx sm (by simp) ?_;simp -dsimp[dm]
   ·have hn0:=List.length_pos_iff.2 hnl;obtain⟨y,hy⟩:∃y,y=nums[0]:=⟨_,rfl⟩;by_cases hy1:y<1
    ·have po:=hop1 0 (by omega);simp only[aD,LS,LR,LCn,L1,aR,LLn,aj,LNd]at pu pr sm pb r1 r2 po;refine wx ?_;simp -dsimp[hb];refine hQ _ _ _ ?_;simp -dsimp[hn0,show(0:Int)<nums.length by omega,hy.symm,hy1,aE,tcB];refine cPx pu (by simp) ?_;simp -dsimp[];refine cPx pr (by simp) ?_;simp -dsimp[];refine cPx po (by simp) ?_;simp -dsimp[];refine cPx pb (by simp) ?_;simp -dsimp[];refine cPx r1 (by simp) ?_;simp -dsimp[];refine cPx r2 (by simp) ?_;simp -dsimp[dm];refine cPx sm (by simp) ?_;simp -dsimp[dm]
    ·have po:=hop2;simp only[aD,LS,LR,LCn,L1,aR,LLn,aj,LNd]at pu pr sm pb r1 r2 po;refine wx ?_;simp -dsimp[hb];refine hQ _ _ _ ?_;simp -dsimp[hn0,show(0:Int)<nums.length by omega,hy.symm,hy1,aE,tcB];refine cPx pu (by simp) ?_;simp -dsimp[];refine cPx pr (by simp) ?_;simp -dsimp[];refine cPx po (by simp) ?_;simp -dsimp[];refine cPx pb (by simp) ?_;simp -dsimp[];refine cPx r1 (by simp) ?_;simp -dsimp[];refine cPx r2 (by simp) ?_;simp -dsimp[dm];refine cPx sm (by simp) ?_;simp -dsimp[dm]
end
end Go.Proofs.YtjogkbekekdkjaaGreatDoor
