/- JX43: own texts of this seat, joined and shortened by pack4.py: SL1. -/
import Derived.Test.YtjogkbekekdkjaaGreatDoorJX39
set_option linter.unusedVariables false
set_option linter.unusedSimpArgs false
set_option maxRecDepth 100000
set_option maxHeartbeats 64000000
open List renaming replicate→rO
namespace Go.Proofs.YtjogkbekekdkjaaGreatDoor
section
open Go Go.AM
theorem lawOptimal(x:Rcp)(rs:List Rul)(ws:List Int)(f f2 f3:Bool)(h:C4Ok x rs ws):aL Tryz.prog 4 [cF f f2 f3 x rs ws] fun r=>r = .bool true:=by
 have c1:=of_41 x rs ws f f2 f3 h
 cases hB:pi x rs with
 | false =>
  rw[hB]at c1;obtain⟨t,ht⟩:∃t,t=ofT x:=⟨_,rfl⟩;obtain⟨cs,hcs⟩:∃cs,cs=mH x rs:=⟨_,rfl⟩;obtain⟨w,hw⟩:∃w,w=wOf (ofT x).rows.length ws:=⟨_,rfl⟩;rw[←hw,←hcs,←ht]at c1;simp only[cF,aD,LS,LR,LCn,L1]at c1;refine sPx Tryz.func4 rfl rfl ?_;simp -dsimp[Tryz.f4,rO,cF];refine cPx (c1) (by simp) ?_;simp -dsimp[];refine cPx (aw) (by simp) ?_;simp -dsimp[];refine cPx (aw) (by simp) ?_;simp -dsimp[]
 | true =>
 have R:=pB h hB;rw[hB]at c1;obtain⟨t,ht⟩:∃t,t=ofT x:=⟨_,rfl⟩;obtain⟨cs,hcs⟩:∃cs,cs=mH x rs:=⟨_,rfl⟩;obtain⟨w,hw⟩:∃w,w=wOf (ofT x).rows.length ws:=⟨_,rfl⟩;rw[←hw,←hcs,←ht]at c1 R;clear hw hcs ht hB;have hw6:=R.w6;have hl4:=R.l4;have cl:=clone_K cs false (by omega);have cw:=jt w false (by omega);have O:=R.opt;have hDl:=optD_len R;have hol:=O.len;obtain⟨o1,o2⟩:=R.op;obtain⟨_,p2⟩:=bl_ok (t:=t) (cs:=cs) (D:=fo t cs w) (by unfold blE;rw[if_pos R.z];exact O.pl)
 have hbl:blE t cs (fo t cs w)=0:=by unfold blE;rw[if_pos R.z];exact O.pl
 have hrm:rmB t cs (fo t cs w)=true:=by unfold rmB;rw[if_pos hbl];exact O.min
 have co:=nK t cs w 10000 false false false false R.b (by omega) (.inr rfl);have cr:=fT t cs w false false false false R.b (by omega);have cm:=minimal_r t cs (fo t cs w) false false false false R.b (by omega);have ck:=check_r t cs w (fo t cs w) (gj t cs w) (jb t cs w) false false false false false false R.b (by omega) (by omega) (by omega);have cu:=check_u t cs w (fo t cs w) (gj t cs w) (jb t cs w) false false false false false false R.b (by omega) (by omega) (by omega);have ce:=R.lst;rw[o1,o2]at co;rw[R.p,fL R.p]at cr;rw[hrm,hbl]at cm;rw[O.chk]at ck cu;rw[←O.wt]at ce;obtain⟨D,hD⟩:∃D,D=fo t cs w:=⟨_,rfl⟩;obtain⟨b,hb⟩:∃b,b=gj t cs w:=⟨_,rfl⟩;obtain⟨N0,hN0⟩:∃N0,N0=jb t cs w:=⟨_,rfl⟩;obtain⟨W0,hW0⟩:∃W0,W0=inW t w:=⟨_,rfl⟩;obtain⟨E,hE⟩:∃E,E=inE t cs:=⟨_,rfl⟩;rw[←hD,←hb,←hN0]at co ck cu;rw[←hD]at cm;rw[←hb,←hW0,←hE]at ce;rw[←hW0,←hE]at cr;simp only[cF,aD,LS,LR,LCn,L1,aR,LLn,aj,LNd]at c1 cl cw co cr cm ck cu ce;refine sPx Tryz.func4 rfl rfl ?_;simp -dsimp[Tryz.f4,rO,cF];refine cPx (c1) (by simp) ?_;simp -dsimp[];refine cPx (aw) (by simp) ?_;simp -dsimp[];refine aG (aW tok mixed [9,10] [(0,[1]),(1,[1]),(2,[1]),(3,[1]),(4,[1]),(5,[1]),(6,[1]),(7,[1]),(8,[1,2])] [(.lst 18 false (cs.map af),[]),(.lst 1 false (w.map aE),[]),(.tup [.agg [.lst 1 false (D.map aE),.int .i64 b,.lst 2 false (N0.map aS)],.int .i64 0],[])] (by kernel_rfl) fun C K hC hK=>?_);simp -implicitDefEqProofs [];refine⟨?_,hK _ _ ?_⟩
 ·repeat' (first | exact hC _ _ _ _ (aK cl (by simp)) | exact hC _ _ _ _ (aK cw (by simp)) | exact hC _ _ _ _ (aK co (by simp)) | refine And.intro ?_ ?_)
 simp -dsimp[];refine cPx (cr) (by simp) ?_;simp -dsimp[];refine cPx (cm) (by simp) ?_;simp -dsimp[];refine .inr ⟨aC (by kernel_rfl),?_⟩;refine aN _ (aK (ck) (by simp)) ?_;simp -dsimp[];refine aN _ (aK (cu) (by simp)) ?_;simp -dsimp[];refine aN _ (aK (ce) (by simp)) ?_;simp -dsimp[]
end
end Go.Proofs.YtjogkbekekdkjaaGreatDoor
