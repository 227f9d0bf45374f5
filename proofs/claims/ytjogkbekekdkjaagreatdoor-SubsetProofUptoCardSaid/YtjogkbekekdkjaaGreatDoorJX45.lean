/- JX45: own texts of this seat, joined and shortened by pack4.py: SL3. -/
import Derived.Test.YtjogkbekekdkjaaGreatDoorJX39
set_option linter.unusedVariables false
set_option linter.unusedSimpArgs false
set_option maxRecDepth 100000
set_option maxHeartbeats 64000000
open List renaming replicate→rO,getElem_mem→rQ,not_mem_nil→rS,mem_cons→rU,take_succ_eq_append_getElem→rV,length_cons→sB,mem_of_mem_take→sD,mem_cons_self→sE,mem_cons_of_mem→sG,map_append→sX
namespace Go.Proofs.YtjogkbekekdkjaaGreatDoor
section
open Go Go.AM
theorem wI_up:∀(I ws:List Int) (D:List Int),(∀w∈ws,0≤w∧w≤1000000)→wI I ws D≤1000000*(I.length:Int)
 | [],_,_,_=>by simp[wI]
 | a::I,[],_,_=>by simp[wI];omega
 | a::I,w::ws,D,h=>by
  have h1:=wI_up I ws D fun x hx=>h x (sG _ hx)
  have h2:=h w (sE ..);rw[wI,sB];split<;>omega
theorem wI_step{R:List Rw}{W0 D:List Int}{i:Nat}(h:i<R.length)(hl:W0.length=R.length):wI (aa (R.take (i+1))) (W0.take (i+1)) D=wI (aa (R.take i)) (W0.take i) D+if bj D R[i].id=true then W0[i]'(by omega) else 0:=by
 have e1:aa (R.take (i+1))=aa (R.take i)++[R[i].id]:=by
  unfold aa;rw[rV h,sX];rfl
 rw[e1,rV (l:=W0) (by omega)];exact wI_snoc _ _ _ _ _ (by rw[bC];simp;omega)
theorem inW_20{t:Tb}{w:List Int}(h:∀x∈w,1≤x∧x≤20):∀x∈inW t w,0≤x∧x≤1000000:=fun x hx=>by
 have:=inW_rng (t:=t) (w:=w) (fun y hy=>by have:=h y hy;omega) x hx;omega
theorem lawProof(x:Rcp)(rs:List Rul)(ws:List Int)(D:List Int)(l:List Nde)(fd fp:Bool)(f f2 f3:Bool)(h:C4Ok x rs ws):aL Tryz.prog 5 [cF f f2 f3 x rs ws,L1 fd D,LNd fp l] fun r=>r = .bool true:=by
 have c1:=of_41 x rs ws f f2 f3 h
 cases hB:pi x rs with
 | false =>
  rw[hB]at c1;obtain⟨t,ht⟩:∃t,t=ofT x:=⟨_,rfl⟩;obtain⟨cs,hcs⟩:∃cs,cs=mH x rs:=⟨_,rfl⟩;obtain⟨w,hw⟩:∃w,w=wOf (ofT x).rows.length ws:=⟨_,rfl⟩;rw[←hw,←hcs,←ht]at c1;simp only[cF,aD,LS,LR,LCn,L1]at c1;refine sPx Tryz.func5 rfl rfl ?_;simp -dsimp[Tryz.f5,rO,cF,L1,LNd];refine cPx (c1) (by simp) ?_;simp -dsimp[];refine cPx (aw) (by simp) ?_;simp -dsimp[];refine cPx (aw) (by simp) ?_;simp -dsimp[]
 | true =>
 have R:=pB h hB;rw[hB]at c1;obtain⟨t,ht⟩:∃t,t=ofT x:=⟨_,rfl⟩;obtain⟨cs,hcs⟩:∃cs,cs=mH x rs:=⟨_,rfl⟩;obtain⟨w,hw⟩:∃w,w=wOf (ofT x).rows.length ws:=⟨_,rfl⟩;rw[←hw,←hcs,←ht]at c1 R;clear hw hcs ht hB;have hw6:=R.w6;have hl4:=R.l4;have cl:=clone_K cs false (by omega);have cw:=jt w false (by omega);by_cases h8:D.length≤8
 case neg =>
  simp only[cF,aD,LS,LR,LCn,L1]at c1;refine sPx Tryz.func5 rfl rfl ?_;simp -dsimp[Tryz.f5,rO,cF,L1,LNd];refine cPx (c1) (by simp) ?_;simp -dsimp[];refine cPx (aw) (by simp) ?_;simp -dsimp[show(8:Int)<D.length by omega];refine cPx (aw) (by simp) ?_;simp -dsimp[]
 case pos =>
 by_cases h12:l.length≤12
 case neg =>
  simp only[cF,aD,LS,LR,LCn,L1]at c1;refine sPx Tryz.func5 rfl rfl ?_;simp -dsimp[Tryz.f5,rO,cF,L1,LNd];refine cPx (c1) (by simp) ?_;simp -dsimp[];refine cPx (aw) (by simp) ?_;simp -dsimp[show ¬(8:Int)<D.length by omega,show(12:Int)<l.length by omega];refine cPx (aw) (by simp) ?_;simp -dsimp[]
 case pos =>
 have cr:=fT t cs w false false false false R.b (by omega);have ce:=R.lst;have cd:=jt D fd (by omega);have cn:=clone_D l fp (by omega)
 have hcn:=fun id=>qb D id fd (by omega)
 have hWl:=bt R.wl;have hWr:=inW_20 (t:=t) R.wr
 have htb:=fun f g=>(rfl:B.cells [.str t.name,.lst 1 f (t.attrs.map V.str),.lst 2 g (t.rows.map aI)]=tcB t f g)
 have hn6:=R.n
 have ck:=fun b=>check_r t cs w D b l false false false false false false R.b (by omega) (by omega) (by omega)
 have cu:=fun b=>check_u t cs w D b l false false false false false false R.b (by omega) (by omega) (by omega)
 have hls:∀b,jw t cs w D b l=true→b=jf t cs w:=fun b hb=>qi R.b hb
 rw[R.p,fL R.p]at cr;obtain⟨ls,hlse⟩:∃ls,ls=jf t cs w:=⟨_,rfl⟩;rw[←hlse]at ce hls
 obtain⟨ch,hch⟩:∃ch,ch=fun b=>jw t cs w D b l:=⟨_,rfl⟩
 have hch2:∀b,jw t cs w D b l=ch b:=fun b=>by rw[hch]
 simp only[hch2]at ck cu hls;clear hch hch2 hlse;obtain⟨W0,hW0⟩:∃W0,W0=inW t w:=⟨_,rfl⟩;obtain⟨E,hE⟩:∃E,E=inE t cs:=⟨_,rfl⟩;rw[←hW0,←hE]at ce cr;rw[←hW0]at hWl hWr;obtain⟨R0,hR0⟩:∃R0,R0=t.rows:=⟨_,rfl⟩;rw[←hR0]at hWl hn6
 have htB:∀f g,B.cells [.str t.name,.lst 1 f (t.attrs.map V.str),.lst 2 g (R0.map aI)]=tcB t f g:=fun f g=>by rw[hR0];rfl
 have htr:∀n f g,rbB n (tcB t f g):=fun n f g=>bS n t f g
 have hrb2:∀bl∈[B.cells [.int .u8 x.a,.int .u8 x.gap,.lst 1 f (x.rows.map LU),.lst 10 f2 (rs.map bd),.lst 1 f3 (ws.map eH)],tcB t false false],rbB 2 bl:=fun bl hbl=>by
  simp only[rU,rS,or_false]at hbl
  rcases hbl with rfl | rfl
  ·intro c hc;simp only[rU,rS,or_false]at hc;rcases hc with rfl | rfl | rfl | rfl | rfl<;>simp[rb,rb1]
  ·exact htr _ _ _
 have hrb3:∀bl∈[B.cells [.int .u8 x.a,.int .u8 x.gap,.lst 1 f (x.rows.map LU),.lst 10 f2 (rs.map bd),.lst 1 f3 (ws.map eH)],tcB t false false,B.cells [.lst 1 false (W0.map aE),.lst 1 false (E.map (Ln false))]],rbB 3 bl:=fun bl hbl=>by
  simp only[rU,rS,or_false]at hbl
  rcases hbl with rfl | rfl | rfl
  ·exact rbBM (by omega) (hrb2 _ (by simp))
  ·exact htr _ _ _
  ·exact hs_rb _ _ _ _ _
 simp only[cF,aD,LS,LR,LCn,L1,aR,LLn,aj,LNd]at c1 cl cw cr ck cu ce cd cn hcn;rw[←hR0]at c1 cr;have ck2:=ck;have cu2:=cu;simp only[←hR0]at ck2 cu2;refine sPx Tryz.func5 rfl rfl ?_;simp -dsimp[Tryz.f5,rO,cF,L1,LNd];refine cPx (c1) (by simp) ?_;simp -dsimp[htB];refine cPx (aw) (by simp) ?_;simp -dsimp[show ¬(8:Int)<D.length by omega,show ¬(12:Int)<l.length by omega];refine aG (W_loopM 55 0x7fc00000d01040 (by simp[mB]<;>rfl) (σ:=Nat) (fun i=>i≤l.length) (fun i=>l.length-i) (fun i=>[(46,.int .i64 i)]) (fun _=>[B.cells [.int .u8 x.a,.int .u8 x.gap,.lst 1 f (x.rows.map LU),.lst 10 f2 (rs.map bd),.lst 1 f3 (ws.map eH)],tcB t false false]) 0 (by omega) (by simp) (by simp) (by simp) ?_);intro i hi N Q hN hQ;by_cases hb:i<l.length
 ·obtain⟨y,hy⟩:∃y,y=l[i]:=⟨_,rfl⟩;by_cases h6:6<y.l.length
  ·refine wx ?_;simp -dsimp[hb,hy.symm,aS,LSh,show(6:Int)<y.l.length by omega];refine hQ _ _ _ ?_;simp -dsimp[]
  ·refine wx ?_;simp -dsimp[hb,hy.symm,aS,LSh,show ¬(6:Int)<y.l.length by omega,aH i (by omega)];refine hN (i+1) _ _ (by omega) (by omega) (by simp) ⟨[B.cells [.int .i64 y.v,.lst 2 false (y.l.map aP)]],by simp⟩ (by simp) hrb2
 ·refine wx ?_;simp -dsimp[hb];refine hQ _ _ _ ?_;simp -dsimp[←htB];refine cPx (cr) (by simp) ?_;simp -dsimp[htB,hR0.symm];refine aG (W_loopM 92 0xffff8001880000000038000 (by simp[mB]<;>rfl) (σ:=Nat) (fun i=>i≤R0.length) (fun i=>R0.length-i) (fun i=>[(75,.int .i64 i),(15,.int .i64 (wI (aa (R0.take i)) (W0.take i) D))]) (fun _=>[B.cells [.int .u8 x.a,.int .u8 x.gap,.lst 1 f (x.rows.map LU),.lst 10 f2 (rs.map bd),.lst 1 f3 (ws.map eH)],tcB t false false,B.cells [.lst 1 false (W0.map aE),.lst 1 false (E.map (Ln false))]]) 0 (by omega) (by simp[wI,aa]) (by simp) (by simp) ?_);intro j hj N2 Q2 hN2 hQ2;have hup:=wI_up (aa (R0.take j)) (W0.take j) D (fun w hw=>hWr w (sD hw));have hlo:=nB (aa (R0.take j)) (W0.take j) D (fun w hw=>(hWr w (sD hw)).1);rw[bC]at hup
  have htl:(R0.take j).length=j:=by simp;omega
  rw[htl]at hup;by_cases hjb:j<R0.length
  ·have hs:=wI_step (D:=D) hjb hWl
   have hjw:j<W0.length:=by omega
   have hwj:=hWr _ (rQ hjw);obtain⟨r,hr⟩:∃r,r=R0[j]:=⟨_,rfl⟩;obtain⟨v,hv⟩:∃v,v=W0[j]:=⟨_,rfl⟩;obtain⟨s,hse⟩:∃s,s=wI (aa (R0.take j)) (W0.take j) D:=⟨_,rfl⟩;rw[←hr,←hv,←hse]at hs;rw[←hv]at hwj;rw[←hse]at hup hlo ⊢;have hc:=hcn r.id
   cases hm:bj D r.id with
   | false =>
    rw[hm]at hc;rw[if_neg (by simp[hm]),Int.add_zero]at hs;refine wx ?_;simp -dsimp[hjb,hr.symm,aI,LV,hR0.symm];refine cPx (hc) (by simp) ?_;simp -dsimp[aH j (by omega)];refine hN2 (j+1) _ _ (by omega) (by omega) (by simp[hs,hR0.symm]) ⟨[B.cells [.int .i64 r.id,.lst 3 false (r.vals.map aX)]],by simp⟩ (by simp) hrb3
   | true =>
    rw[hm]at hc;rw[if_pos hm]at hs;have hw1:IntKind.i64.wrap (s+v)=s+v:=wrap64 (by omega) (by omega);refine wx ?_;simp -dsimp[hjb,hr.symm,aI,LV,hR0.symm];refine cPx (hc) (by simp) ?_;simp -dsimp[hjw,hv.symm,aE,hw1,aH j (by omega)];refine hN2 (j+1) _ _ (by omega) (by omega) (by simp[hs,hR0.symm]) ⟨[B.cells [.int .i64 r.id,.lst 3 false (r.vals.map aX)]],by simp⟩ (by simp) hrb3
  ·obtain rfl:j=R0.length:=by omega
   obtain⟨b,hbe⟩:∃b,b=wI (aa (R0.take R0.length)) (W0.take R0.length) D:=⟨_,rfl⟩;rw[←hbe];have k1:=cu2 b;have k2:=ck2 b;have k3:=hls b
   cases hq:ch b with
   | false =>
    rw[hq]at k1 k2;refine wx ?_;simp -dsimp[hjb,hR0.symm];refine hQ2 _ _ _ ?_;simp -dsimp[←htB];refine cPx (cd) (by simp) ?_;simp -dsimp[];refine cPx cn (by simp) ?_;simp -dsimp[];refine cPx (k1) (by simp) ?_;simp -dsimp[];refine cPx (k2) (by simp) ?_;simp -dsimp[dm]
   | true =>
    rw[hq]at k1 k2;obtain rfl:=k3 hq;refine wx ?_;simp -dsimp[hjb,hR0.symm];refine hQ2 _ _ _ ?_;simp -dsimp[←htB];refine cPx (cd) (by simp) ?_;simp -dsimp[];refine cPx cn (by simp) ?_;simp -dsimp[];refine cPx (k1) (by simp) ?_;simp -dsimp[];refine cPx (k2) (by simp) ?_;simp -dsimp[dm];refine cPx (ce) (by simp) ?_;simp -dsimp[]
end
end Go.Proofs.YtjogkbekekdkjaaGreatDoor
