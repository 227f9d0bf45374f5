/- JX44: own texts of this seat, joined and shortened by pack4.py: SL2. -/
import Derived.Test.YtjogkbekekdkjaaGreatDoorJX39
set_option linter.unusedVariables false
set_option linter.unusedSimpArgs false
set_option maxRecDepth 100000
set_option maxHeartbeats 64000000
open List renaming replicate→rO
namespace Go.Proofs.YtjogkbekekdkjaaGreatDoor
section
open Go Go.AM
theorem lawBounds(x:Rcp)(rs:List Rul)(ws:List Int)(f f2 f3:Bool)(h:C4Ok x rs ws):aL Tryz.prog 8 [cF f f2 f3 x rs ws] fun r=>r = .bool true:=by
 have c1:=of_41 x rs ws f f2 f3 h
 cases hB:pi x rs with
 | false =>
  rw[hB]at c1;obtain⟨t,ht⟩:∃t,t=ofT x:=⟨_,rfl⟩;obtain⟨cs,hcs⟩:∃cs,cs=mH x rs:=⟨_,rfl⟩;obtain⟨w,hw⟩:∃w,w=wOf (ofT x).rows.length ws:=⟨_,rfl⟩;rw[←hw,←hcs,←ht]at c1;simp only[cF,aD,LS,LR,LCn,L1]at c1;refine sPx Tryz.func8 rfl rfl ?_;simp -dsimp[Tryz.f8,rO,cF];refine cPx (c1) (by simp) ?_;simp -dsimp[];refine cPx (aw) (by simp) ?_;simp -dsimp[];refine cPx (aw) (by simp) ?_;simp -dsimp[]
 | true =>
 have R:=pB h hB;rw[hB]at c1;obtain⟨t,ht⟩:∃t,t=ofT x:=⟨_,rfl⟩;obtain⟨cs,hcs⟩:∃cs,cs=mH x rs:=⟨_,rfl⟩;obtain⟨w,hw⟩:∃w,w=wOf (ofT x).rows.length ws:=⟨_,rfl⟩;rw[←hw,←hcs,←ht]at c1 R;clear hw hcs ht hB;have hw6:=R.w6;have hl4:=R.l4;have cl:=clone_K cs false (by omega);have cw:=jt w false (by omega);obtain⟨b1,b2,b3,b4⟩:=bounds_law R.b R.p;have cb:=bounds_u t cs w false false false false R.b (by omega);have cr:=fT t cs w false false false false R.b (by omega);have ce:=R.lst;rw[show bdsV t cs w = .tup [.int .i64 (lowB t cs w),.int .i64 (highB t cs w),.int .i64 0] from by unfold bdsV;rw[if_pos R.p]]at cb;rw[R.p,fL R.p]at cr;rw[show(bw (inW t w) (inE t cs) (rO (inW t w).length 0)).2=lowB t cs w from rfl]at b1 b3;rw[show wl (inW t w) (cL (inW t w) (inE t cs))=highB t cs w from rfl]at b2 b4;obtain⟨lo,hlo⟩:∃lo,lo=lowB t cs w:=⟨_,rfl⟩;obtain⟨hi,hhi⟩:∃hi,hi=highB t cs w:=⟨_,rfl⟩;obtain⟨ls,hls⟩:∃ls,ls=jf t cs w:=⟨_,rfl⟩;rw[←hlo,←hls]at b1 b3;rw[←hhi,←hls]at b2 b4;rw[←hlo,←hhi]at cb;rw[←hls]at ce;obtain⟨W0,hW0⟩:∃W0,W0=inW t w:=⟨_,rfl⟩;obtain⟨E,hE⟩:∃E,E=inE t cs:=⟨_,rfl⟩;rw[←hW0,←hE]at ce cr;have e3:decide (0<lo)=decide (0<ls):=decide_eq_decide.2 b3;have e4:decide (0<hi)=decide (0<ls):=decide_eq_decide.2 b4;simp only[cF,aD,LS,LR,LCn,L1,aR,LLn]at c1 cl cw cb cr ce
 have hcase:(0<lo∧0<hi∧0<ls)∨(¬0<lo∧¬0<hi∧¬0<ls):=by
  by_cases q:0<ls
  ·exact .inl ⟨b3.2 q,b4.2 q,q⟩
  ·exact .inr ⟨fun q2=>q (b3.1 q2),fun q2=>q (b4.1 q2),q⟩
 refine sPx Tryz.func8 rfl rfl ?_;simp -dsimp[Tryz.f8,rO,cF];refine cPx (c1) (by simp) ?_;simp -dsimp[];refine cPx (aw) (by simp) ?_;simp -dsimp[];refine .inr ⟨aC (by kernel_rfl),?_⟩;refine aN _ (aK (cl) (by simp)) ?_;simp -dsimp[];refine aN _ (aK (cw) (by simp)) ?_;simp -dsimp[];refine aN _ (aK (cb) (by simp)) ?_;simp -dsimp[];refine cPx (cr) (by simp) ?_;simp -dsimp[];refine cPx (ce) (by simp) ?_
 rcases hcase with⟨q1,q2,q3⟩ | ⟨q1,q2,q3⟩
 ·simp -dsimp[b1,b2,q1,q2,q3,dm]
 ·simp -dsimp[b1,b2,q1,q2,q3,dm]
end
end Go.Proofs.YtjogkbekekdkjaaGreatDoor
