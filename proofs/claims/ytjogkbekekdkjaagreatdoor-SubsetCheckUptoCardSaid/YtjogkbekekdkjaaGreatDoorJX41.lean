/- JX41: own texts of this seat, joined and shortened by pack4.py: SL5. -/
import Derived.Test.YtjogkbekekdkjaaGreatDoorJX40
set_option linter.unusedVariables false
set_option linter.unusedSimpArgs false
set_option maxRecDepth 100000
set_option maxHeartbeats 64000000
open List renaming replicate→rO,length_cons→sB,mem_singleton→sC
open Nat renaming zero_le→sY
namespace Go.Proofs.YtjogkbekekdkjaaGreatDoor
section
open Go Go.AM
theorem eqBoolA(H:List B)(a b:Bool):dm T H 4 (.bool a) (.bool b)=some (a == b):=by
 simp[dm,eqA]
theorem mC(m:List Nat):∀(es:List (List Nat)) (i:Nat) (room:List Int),(cW m es i room).1.length≤es.length
 | [],_,_=>by simp[cW]
 | e::es,i,room=>by
  rw[cW];split
  ·have:=mC m es (i+1) room;simp only[sB];omega
  ·split
   ·have:=mC m es (i+1) room;simp only[sB];omega
   ·have:=mC m es (i+1) (ky (ek m room e 1000000) e room);simp only[sB];omega
theorem prv_sh{ws:List Int}{es:List (List Nat)}{P:List Nde×Int} : ∀(k:Nat) (m:List Nat) (lf b:Int),gh ws es k m lf b=some P→∀x∈P.1,x.l.length≤es.length
 | 0,_,_,_,h=>by simp[gh]at h
 | k+1,m,lf,b,h=>by
  rw[gh]at h;split at h
  ·cases h
  ·split at h
   ·cases h;intro x hx;rw[sC]at hx;subst hx;exact sY _
   ·split at h
    ·cases h;intro x hx;rw[sC]at hx;subst hx;exact mC m es 0 ws
    ·split at h
     ·cases h
     ·split at h
      ·cases h
      ·rename_i p hp;split at h
       ·cases h
       ·rename_i q hq;have h1:=prv_sh (P:=p) k _ _ _ hp;have h2:=prv_sh (P:=q) k _ _ _ hq;cases h;intro x hx
        rcases List.mem_cons.1 hx with rfl | hx
        ·exact sY _
        ·rcases List.mem_append.1 hx with h | h
         ·exact h1 x h
         ·exact h2 x h
def sp4C(s:Sp4):List V:=[.int .u8 s.k,.int .u8 s.i,.int .i8 s.y]
def encS42(a b:Sp4):V:=.agg (sp4C a++sp4C b)
theorem CaseR.rpB{t:Tb}{cs:List Cn}{w:List Int}(R:CaseR t cs w):RpB 6 (fo t cs w) (jb t cs w):=by
 have O:=R.opt;obtain⟨H1,_⟩:=R.hsb;refine⟨optD_len R,by have:=O.len;omega,fun x hx=>?_⟩;obtain⟨lf,hp,_⟩:=O.prv;have:=prv_sh _ _ _ _ hp x hx;have:=H1.ne;omega
theorem lawCheck(x:Rcp)(rs:List Rul)(ws:List Int)(f f2 f3:Bool)(a b:Sp4)(h:C4Ok x rs ws)(ha:S4Ok a)(hb2:S4Ok b):aL Tryz.prog 6 [cF f f2 f3 x rs ws,encS42 a b] fun r=>r = .bool true:=by
 have c1:=of_41 x rs ws f f2 f3 h
 cases hB:pi x rs with
 | false =>
  rw[hB]at c1;obtain⟨t,ht⟩:∃t,t=ofT x:=⟨_,rfl⟩;obtain⟨cs,hcs⟩:∃cs,cs=mH x rs:=⟨_,rfl⟩;obtain⟨w,hw⟩:∃w,w=wOf (ofT x).rows.length ws:=⟨_,rfl⟩;rw[←hw,←hcs,←ht]at c1;simp only[cF,aD,LS,LR,LCn,L1]at c1;refine sPx Tryz.func6 rfl rfl ?_;simp -dsimp[Tryz.f6,rO,cF,encS42,sp4C];refine cPx (c1) (by simp) ?_;simp -dsimp[];refine cPx (aw) (by simp) ?_;simp -dsimp[];refine cPx (aw) (by simp) ?_;simp -dsimp[]
 | true =>
 have R:=pB h hB;rw[hB]at c1;obtain⟨t,ht⟩:∃t,t=ofT x:=⟨_,rfl⟩;obtain⟨cs,hcs⟩:∃cs,cs=mH x rs:=⟨_,rfl⟩;obtain⟨w,hw⟩:∃w,w=wOf (ofT x).rows.length ws:=⟨_,rfl⟩;rw[←hw,←hcs,←ht]at c1 R;clear hw hcs ht hB;have hw6:=R.w6;have hl4:=R.l4;obtain⟨o1,o2⟩:=R.op;have co:=nK t cs w 10000 false false false false R.b (by omega) (.inr rfl);have cr:=fT t cs w false false false false R.b (by omega);have ce:=R.lst;have hrp:=R.rpB;rw[o1,o2]at co;rw[R.p,fL R.p]at cr;obtain⟨D,hD⟩:∃D,D=fo t cs w:=⟨_,rfl⟩;obtain⟨bb,hbb⟩:∃bb,bb=gj t cs w:=⟨_,rfl⟩;obtain⟨N0,hN0⟩:∃N0,N0=jb t cs w:=⟨_,rfl⟩;rw[←hD,←hN0]at hrp;rw[←hD,←hbb,←hN0]at co;obtain⟨D1,b1,N1,k1,hrp1⟩:=sp_all (b:=bb) ha hrp (by omega);obtain⟨D2,b2,N2,k2,hrp2⟩:=sp_all (b:=b1) hb2 hrp1 (by omega);have hd2:=hrp2.dl;have hl2:=hrp2.ll;have ck:=check_r t cs w D2 b2 N2 false false false false false false R.b (by omega) (by omega) (by omega);have cu:=check_u t cs w D2 b2 N2 false false false false false false R.b (by omega) (by omega) (by omega)
 have hls:jw t cs w D2 b2 N2=true→b2=jf t cs w:=fun hb=>qi R.b hb
 obtain⟨W0,hW0⟩:∃W0,W0=inW t w:=⟨_,rfl⟩;obtain⟨E,hE⟩:∃E,E=inE t cs:=⟨_,rfl⟩;rw[←hW0,←hE]at ce cr;simp only[cF,aD,LS,LR,LCn,L1,aR,LLn,aj,LNd,bi]at c1 co cr ck cu ce k1 k2
 cases hk:jw t cs w D2 b2 N2 with
 | false =>
  rw[hk]at ck cu;refine sPx Tryz.func6 rfl rfl ?_;simp -dsimp[Tryz.f6,rO,cF,encS42,sp4C];refine cPx (c1) (by simp) ?_;simp -dsimp[];refine cPx (aw) (by simp) ?_;simp -dsimp[];refine cPx (cr) (by simp) ?_;simp -dsimp[];refine cPx (co) (by simp) ?_;simp -dsimp[];refine aG (aW tok mixed [7] [] [(.agg [.lst 1 false (D1.map aE),.int .i64 b1,.lst 2 false (N1.map aS)],[]),(.agg [.lst 1 false (D2.map aE),.int .i64 b2,.lst 2 false (N2.map aS)],[])] (by kernel_rfl) fun C K hC hK=>?_);simp -implicitDefEqProofs [];refine⟨by(repeat' apply And.intro)<;>first | exact hC _ _ _ _ (aK k1 (by simp)) | exact hC _ _ _ _ (aK k2 (by simp)),hK _ _ ?_⟩;simp -dsimp[];refine cPx (cu) (by simp) ?_;simp -dsimp[];refine .inr ⟨aC (by kernel_rfl),?_⟩;refine aN _ (aK (ck) (by simp)) ?_;simp -dsimp[eqBoolA]
 | true =>
  rw[hk]at ck cu;rw[←hls hk]at ce;refine sPx Tryz.func6 rfl rfl ?_;simp -dsimp[Tryz.f6,rO,cF,encS42,sp4C];refine cPx (c1) (by simp) ?_;simp -dsimp[];refine cPx (aw) (by simp) ?_;simp -dsimp[];refine cPx (cr) (by simp) ?_;simp -dsimp[];refine cPx (co) (by simp) ?_;simp -dsimp[];refine aG (aW tok mixed [7] [] [(.agg [.lst 1 false (D1.map aE),.int .i64 b1,.lst 2 false (N1.map aS)],[]),(.agg [.lst 1 false (D2.map aE),.int .i64 b2,.lst 2 false (N2.map aS)],[])] (by kernel_rfl) fun C K hC hK=>?_);simp -implicitDefEqProofs [];refine⟨by(repeat' apply And.intro)<;>first | exact hC _ _ _ _ (aK k1 (by simp)) | exact hC _ _ _ _ (aK k2 (by simp)),hK _ _ ?_⟩;simp -dsimp[];refine cPx (cu) (by simp) ?_;simp -dsimp[];refine .inr ⟨aC (by kernel_rfl),?_⟩;refine aN _ (aK (ck) (by simp)) ?_;simp -dsimp[eqBoolA];refine aN _ (aK (ce) (by simp)) ?_;simp -dsimp[]
end
end Go.Proofs.YtjogkbekekdkjaaGreatDoor
