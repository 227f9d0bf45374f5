/- JM31: own texts of this seat, joined and shortened by pack4.py: Opc. -/
import Derived.Test.YtjogkbekekdkjaaGreatDoorJM30
set_option linter.unusedVariables false
set_option linter.unusedSimpArgs false
set_option maxRecDepth 100000
set_option maxHeartbeats 64000000
namespace Go.Proofs.YtjogkbekekdkjaaGreatDoor
section
open Go Go.AM
theorem shq_case4{n Bd:Nat}(hB:Bd≤1048576){ws:List V}(h:ShB T Bd (n+9) 28 ws):∃(x:Rcp) (rs:List Rul) (cs:List Int),.agg ws=bL false false false x rs cs∧C4Ok x rs cs:=by
 obtain⟨hlen,hf⟩:=bu h T_28 rfl rfl
 obtain⟨a,b,c,d,e,rfl⟩:∃a b c d e,ws=[a,b,c,d,e]:=by
  match ws,hlen with
  | [a,b,c,d,e],_=>exact⟨a,b,c,d,e,rfl⟩
 obtain⟨r,e1,p1,p2,p3,p4⟩:=shq_recipe (hf 0 _ _ rfl T_24);obtain⟨l,e2,q1,q2⟩:=shq_rules hB (hf 1 _ _ rfl T_25);obtain⟨us,e3,u1,u2⟩:=eO (hf 2 _ _ rfl T_26);simp at e1 e2 e3;obtain⟨rfl,rfl,rfl⟩:=e1;subst e2;subst e3;exact⟨r,l,us,rfl,⟨p1,p2,p4,q1,q2,u2⟩⟩
end
end Go.Proofs.YtjogkbekekdkjaaGreatDoor
