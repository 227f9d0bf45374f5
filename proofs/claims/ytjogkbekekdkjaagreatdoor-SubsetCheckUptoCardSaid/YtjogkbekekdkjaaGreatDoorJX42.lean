/- JX42: own texts of this seat, joined and shortened by pack4.py: Ope. -/
import Derived.Test.YtjogkbekekdkjaaGreatDoorJX41
import Derived.OpenShut
set_option linter.unusedVariables false
set_option linter.unusedSimpArgs false
set_option maxRecDepth 100000
set_option maxHeartbeats 64000000
open Int renaming toNat_of_nonneg→uK
open List renaming getElem?_eq_getElem→rT
open Nat renaming le_refl→rd
namespace Go.Proofs.YtjogkbekekdkjaaGreatDoor
section
open Go Go.AM
theorem shq_i8{n Bd:Nat}{ws:List V}(h:ShB T Bd (n+1) 84 ws):∃m:Int,ws=[.int .i8 m]∧-128≤m∧m<128:=by
 simp[ShB]at h;obtain⟨m,rfl,hm⟩:=h;refine⟨m,rfl,?_⟩;simp[Lit.wf,IntKind.min,IntKind.max,IntKind.signed,IntKind.bits]at hm;omega
theorem open_sp42{Hd:Type}{enc:TypeId×Value→Hd}{W:World}{m:Nat}{cs:List Value}{x:DataW Hd×List MemPlace}(h:DataW.trod enc Tryz.prog W 0 (fun _=>true) true m 87 cs=some x):∃a b:Sp4,CR W (sp4C a++sp4C b) cs∧S4Ok a∧S4Ok b:=by
 obtain⟨xs,n,_,_,hlen,hl,hel⟩:=DataW.trod_array Tryz.underlying87 h;have hc5:Tryz.prog.cellsOf 86=3:=cells_ok 86 _ T_86;have hc52:Tryz.prog.cellsOf 87=6:=cells_ok 87 _ T_87;rw[hc52]at hlen
 have one:∀i,i<2→∃a:Sp4,CR W (sp4C a) ((cs.drop (i*3)).take 3)∧S4Ok a:=fun i hi=>by
  have h1:=hel i (by omega);rw[hc5,rT (by omega)]at h1;obtain⟨vs,hcr,hsh⟩:=opnB (T:=T) bulk_ok tok cells_ok 8 n 86 _ _ (by kernel_rfl) h1 (rd _);obtain⟨hlen,hf⟩:=bL hsh T_86 rfl rfl
  obtain⟨a,b,c,rfl⟩:∃a b c,vs=[a,b,c]:=by
   match vs,hlen with
   | [a,b,c],_=>exact⟨a,b,c,rfl⟩
  obtain⟨p,e1,p1,p2⟩:=eJ (hf 0 _ _ rfl T_5);obtain⟨q,e2,q1,q2⟩:=eJ (hf 1 _ _ rfl T_5);obtain⟨r,e3,r1,r2⟩:=shq_i8 (hf 2 _ _ rfl T_84);simp at e1 e2 e3;subst e1;subst e2;subst e3;refine⟨⟨p,q.toNat,r⟩,?_,⟨⟨p1,p2⟩,by simp only;omega,r1,r2⟩⟩;simp only[sp4C,uK q1];exact hcr
 obtain⟨a,ha,ha2⟩:=one 0 (by omega);obtain⟨b,hb,hb2⟩:=one 1 (by omega);refine⟨a,b,?_,ha2,hb2⟩;have:=ha.append hb
 have e:(cs.drop (0*3)).take 3++(cs.drop (1*3)).take 3=cs:=by
  match cs,hlen with
  | [p,q,r,p2,q2,r2],_=>rfl
 rw[e]at this;exact this
end
end Go.Proofs.YtjogkbekekdkjaaGreatDoor
