/- JQ20: own texts of this seat, joined and shortened by pack4.py: PB, TA. -/
import Derived.Test.YtpedcgdgjoblkaaGreatDoorJQ12
import Derived.Test.YtpedcgdgjoblkaaGreatDoorJQ15
import Derived.Test.YtpedcgdgjoblkaaGreatDoorJQ19
set_option linter.unusedVariables false
set_option linter.unusedSimpArgs false
set_option maxRecDepth 100000
set_option maxHeartbeats 64000000
open ByteArray renaming empty→br
open List renaming replicate→ba,getElem_mem→cm,take_succ_eq_append_getElem→fp,take_length→oz
section
namespace Go.AM
open Go
section
variable {P:Program} {T:Ty}
end
end Go.AM
namespace Go.Proofs.YtpedcgdgjoblkaaGreatDoor
open Go Go.AM
end Go.Proofs.YtpedcgdgjoblkaaGreatDoor
end
namespace Go.Proofs.YtpedcgdgjoblkaaGreatDoor
section
open Go Go.AM
theorem row_s(r:Rw)(hl:r.vals.length≤1000000):aE Tryz.prog 74 [aT r] fun x=>x=aT r:=by
 have cc:=clone_V r.vals false hl;simp only[LV]at cc;refine sPx Tryz.func74 rfl rfl ?_;simp -dsimp[Tryz.f74,ba,aT,LV];refine aR (ao tok mixed [6] [] [(.lst 3 false (r.vals.map ac),[])] (by kernel_rfl) fun C K hC hK=>?_);simp -implicitDefEqProofs [];refine⟨hC _ _ _ _ (aW cc (by simp)),hK _ _ ?_⟩;simp -dsimp[];rfl
theorem eh(t:Tb)(f g:Bool)(ha:t.attrs.length≤1000000)(hr:t.rows.length≤1000000)(hv:∀r∈t.rows,r.vals.length≤1000000):aE Tryz.prog 60 [aF f g t] fun x=>x=aF false false t:=by
 have cc:=clone_S t.attrs f ha;simp only[LS]at cc;refine sPx Tryz.func60 rfl rfl ?_;simp -dsimp[Tryz.f60,ba,aF,LS,LR];refine aR (ao tok mixed [6,7] [(0,[1]),(1,[1]),(2,[1]),(3,[1]),(4,[1]),(5,[1])] [(.lst 1 false (t.attrs.map V.str),[])] (by kernel_rfl) fun C K hC hK=>?_);simp -implicitDefEqProofs [];refine⟨⟨hC _ _ _ _ (aW cc (by simp)),hC _ _ _ _ (aW cc (by simp))⟩,hK _ _ ?_⟩;simp -dsimp[];refine aR (dV 41 2 [] 2 [2] rfl (eR _ _) (by simp) (W_loopM 27 0x7ff8c20 (by simp[mB]<;>rfl) (σ:=Nat) (fun i=>i≤t.rows.length) (fun i=>t.rows.length-i) (fun i=>[(15,.int .i64 i)]) (fun i=>[B.cells [.str t.name,.lst 1 f (t.attrs.map V.str),.lst 2 g (t.rows.map aT)],B.cells [.str br,.nilS,.nilS],B.cells [.str t.name,.lst 1 false (t.attrs.map V.str),.buf 3 0 i i],B.buf 41 2 ((t.rows.take i).map aT) false]) 0 (by omega) (by simp) (by simp) (by simp) ?_));intro i hi N Q hN hQ
 have hli:(t.rows.take i).length=i:=by simp;omega
 by_cases hb:i<t.rows.length
 ·have hst:t.rows.take (i+1)=t.rows.take i++[t.rows[i]]:=fp hb;have hc:=row_s t.rows[i] (hv _ (cm hb));obtain⟨l,hl⟩:∃l,l=t.rows.take i:=⟨_,rfl⟩;rw[←hl]at hst hli ⊢;refine wx ?_;simp -dsimp[hb];refine aR (ao tok mixed [5,7] [] [(aT t.rows[i],[])] (by kernel_rfl) fun C K hC hK=>?_);simp -implicitDefEqProofs [hb,aT,LV,hli,cap32 i (by omega)];refine⟨hC _ _ _ _ (aW hc (by simp)),hK _ _ ?_⟩;simp -dsimp[aa i (by omega)];refine hN (i+1) _ _ (by omega) (by omega) ?_ ⟨[B.cells [.int .i64 t.rows[i].id,.lst 3 false (t.rows[i].vals.map ac)]],?_⟩ ?_ ?_<;>simp[or_imp,forall_and,L1,au,hst,aT,LV]
 ·obtain rfl:i=t.rows.length:=by omega
  rw[oz];refine eI 3 [] 2 [2] rfl rfl (by simp) (by simp) ?_;refine wx ?_;simp -dsimp[hb];refine hQ _ _ _ ?_;simp -dsimp[];simp only[aF,LS,LR]
end
end Go.Proofs.YtpedcgdgjoblkaaGreatDoor
