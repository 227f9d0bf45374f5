/- JM33: own texts of this seat, joined and shortened by pack4.py: Svi. -/
import Derived.Test.YtdnhplencamncaaGreatDoorJM30
import Derived.Test.YtdnhplencamncaaGreatDoorJM32
set_option linter.unusedVariables false
set_option linter.unusedSimpArgs false
set_option maxRecDepth 100000
set_option maxHeartbeats 64000000
open List renaming replicate→oE,length_map→oW
open Nat renaming mul_le_mul→qy
namespace Go.Proofs.YtdnhplencamncaaGreatDoor
section
open Go Go.AM
def lkM(t:Tb)(L:Lnk):V:=if fD t L=0∧iW t (clF t L)=true then ei t (mgT t (clF t L) L.surv) else zMg
def lkE(t:Tb)(L:Lnk):Int:=if fD t L=0 then(if iW t (clF t L)=true then 0 else 1) else fD t L
theorem clF_ok{t:Tb}{L:Lnk}(hn:t.rows.length≤6):(clF t L).length≤60∧∀c∈clF t L,c.length≤10:=by
 unfold clF;split
 ·rename_i hz;have hMin:=mtI_in L t.rows 0;have hMl:=lm L t.rows 0;have hm:t.rows.length*t.rows.length≤6*6:=qy hn hn;obtain⟨hK1,hK2⟩:=cpV_ok (n:=t.rows.length) (es:=mtF t L) (by omega) (by unfold mtF;omega) (fun p hp=>by have:=hMin p hp;omega);have h1:=dvL_len (us:=usF (mtF t L)) (fun c hc=>(hK2 c hc).1);refine⟨by rw[dP];unfold ccF;rw[oW];omega,fun l hl=>?_⟩;have hl:=(bg _).mem_iff.1 hl;unfold ccF at hl;obtain⟨g,hg,rfl⟩:=List.mem_map.1 hl;obtain⟨c,hc,hg⟩:=List.mem_flatMap.1 hg;obtain⟨q1,q2⟩:=hK2 c hc;have h3:=((dvF_ok (us:=usF (mtF t L)) q1 q2).2 g hg).1;have h4:=q1.n1;unfold idG;rw[oW];omega
 ·simp
theorem link_u(t:Tb)(f g:Bool)(L:Lnk)(hbl:L.block.length≤1100000)(hn:t.rows.length≤6)(hV:aJ Tryz.prog 31 [aD f g t] fun r=>r = .int .i64 (aG t)):
  aJ Tryz.prog 8 [aD f g t,aV L] fun r=>r = .tup [lkM t L,.int .i64 (lkE t L)]:=by
 have c1:=clusters_u t f g L hbl hn hV;unfold lkM lkE;by_cases hz:fD t L=0
 case neg =>
  rw[if_neg (fun h=>hz h.1),if_neg hz];obtain⟨e,he⟩:∃e,e=fD t L:=⟨_,rfl⟩;rw[←he]at c1 hz ⊢;simp only[aD,aV,LS,LR,LQm,L1,LLz]at c1;refine sPx Tryz.func8 rfl rfl ?_;simp -dsimp[Tryz.f8,oE,aD,aV,LS,LR,LQm,L1];refine cPx (c1) (by simp) ?_;simp -dsimp[hz];simp[zMg]
 case pos =>
 have ok:=lim_ok hz;obtain⟨k1,k2⟩:=clF_ok (L:=L) hn;have c2:=mtable_u t (clF t L) L.surv f g false false hV ok.v ok.sl ok.sv (by omega) (by omega) (fun c hc=>by have:=k2 c hc;omega);rw[hz]at c1;obtain⟨C,hC⟩:∃C,C=clF t L:=⟨_,rfl⟩;rw[←hC]at c1 c2 ⊢;unfold tbV at c2;rw[if_pos hz];by_cases hd:iW t C=true
 ·rw[if_pos hd]at c2;rw[if_pos ⟨hz,hd⟩,if_pos hd];obtain⟨m,hm⟩:∃m,m=mgT t C L.surv:=⟨_,rfl⟩;rw[←hm]at c2 ⊢;simp only[aD,aV,LS,LR,LQm,L1,LLz,ei]at c1 c2 ⊢;refine sPx Tryz.func8 rfl rfl ?_;simp -dsimp[Tryz.f8,oE,aD,aV,LS,LR,LQm,L1];refine cPx (c1) (by simp) ?_;simp -dsimp[];refine cPx (c2) (by simp) ?_;simp -dsimp[]
 ·rw[if_neg hd]at c2;rw[if_neg (fun h=>hd h.2),if_neg hd];simp only[aD,aV,LS,LR,LQm,L1,LLz,zMg]at c1 c2 ⊢;refine sPx Tryz.func8 rfl rfl ?_;simp -dsimp[Tryz.f8,oE,aD,aV,LS,LR,LQm,L1];refine cPx (c1) (by simp) ?_;simp -dsimp[];refine cPx (c2) (by simp) ?_;simp -dsimp[]
end
end Go.Proofs.YtdnhplencamncaaGreatDoor
