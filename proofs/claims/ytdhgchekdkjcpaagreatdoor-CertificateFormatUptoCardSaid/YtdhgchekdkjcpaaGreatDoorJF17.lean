/- JF17: own texts of this seat, joined and shortened by pack4.py: Fg. -/
import Derived.Test.YtdhgchekdkjcpaaGreatDoorJF15
set_option linter.unusedVariables false
set_option linter.unusedSimpArgs false
set_option maxRecDepth 100000
set_option maxHeartbeats 64000000
open List renaming replicate→gk
namespace Go.Proofs.YtdhgchekdkjcpaaGreatDoor
section
open Go Go.AM Go.Lib
theorem text_0(c:Cert)(hk:¬(1≤c.k∧c.k≤4)):aS Tryz.prog 36 [aF c] fun r=>r = .tup [.str (bs (cg c)),.bool (okC c)]:=by
 have e1:cg c=[]:=by unfold cg;rw[if_neg hk]
 have e2:okC c=false:=by unfold okC;rw[decide_eq_false hk];rfl
 rw[e1,e2];refine sPx Tryz.func36 rfl rfl ?_;simp -dsimp[Tryz.f36,gk,aF,aB,aC,aE,(show ¬c.k=1 by omega),(show ¬c.k=2 by omega),(show ¬c.k=3 by omega),(show ¬c.k=4 by omega),aP]
theorem text_r(c:Cert)(h:SzC c):aS Tryz.prog 36 [aF c] fun r=>r = .tup [.str (bs (cg c)),.bool (okC c)]:=by
 by_cases h1:c.k=1
 ·exact text_1 c h1 h
 by_cases h2:c.k=2
 ·exact text_2 c h2 h
 by_cases h3:c.k=3
 ·exact text_3 c h3 h
 by_cases h4:c.k=4
 ·exact text_4 c h4 h
 exact text_0 c (by omega)
theorem txtC_ok{c:Cert}(h:okC c=true):cg c=lnT (bM c):=by
 obtain⟨hk,hn⟩:=okC_ex h;unfold cg;rw[if_pos hk];unfold pT;rw[if_pos (List.all_eq_true.2 hn)];unfold bM;rw[cz,cz];simp[lnT]
theorem txtC_len{c:Cert}(h:SzC c):(cg c).length≤3000000000:=by
 have h1:=h.hd;have h2:=pT_len h;unfold cg;split
 ·simp[bO];omega
 ·simp
theorem format_r(c:Cert)(h:SzC c):aS Tryz.prog 14 [aF c] fun r=>r = .tup [.str (bs (cF c)),.int .i64 (dC c)]:=by
 have ht:=text_r c h;by_cases ho:okC c=true
 ·have hx:=txtC_ok ho;rw[hx,ho]at ht;have hl:=txtC_len h;rw[hx]at hl;by_cases hz:(lnT (bM c)).length≤65536
  ·have e1:dC c=0:=by unfold dC;rw[if_pos ho,if_pos hz]
   have e2:cF c=lnT (bM c):=by unfold cF;rw[if_pos e1]
   rw[e1,e2];obtain⟨s,hs⟩:∃s,s=lnT (bM c):=⟨_,rfl⟩;rw[←hs]at ht hz ⊢;simp only[aF,aB,aC,aE]at ht;refine sPx Tryz.func14 rfl rfl ?_;simp -dsimp[Tryz.f14,gk,aF,aB,aC,aE];refine cPx (ht) (by simp) ?_;simp -dsimp[aI,(show ¬(65536:Int)<(s.length:Int) by omega),hz]
  ·have e1:dC c=3:=by unfold dC;rw[if_pos ho,if_neg hz]
   have e2:cF c=[]:=by unfold cF;rw[if_neg (by rw[e1];decide)]
   rw[e1,e2];obtain⟨s,hs⟩:∃s,s=lnT (bM c):=⟨_,rfl⟩;rw[←hs]at ht hz;simp only[aF,aB,aC,aE]at ht;refine sPx Tryz.func14 rfl rfl ?_;simp -dsimp[Tryz.f14,gk,aF,aB,aC,aE];refine cPx (ht) (by simp) ?_;simp -dsimp[aI,(show(65536:Int)<(s.length:Int) by omega),aP]
 ·have e1:dC c=1:=by unfold dC;rw[if_neg ho]
  have e2:cF c=[]:=by unfold cF;rw[if_neg (by rw[e1];decide)]
  rw[Bool.not_eq_true]at ho;rw[ho]at ht;rw[e1,e2];simp only[aF,aB,aC,aE]at ht;refine sPx Tryz.func14 rfl rfl ?_;simp -dsimp[Tryz.f14,gk,aF,aB,aC,aE];refine cPx (ht) (by simp) ?_;simp -dsimp[aP]
end
end Go.Proofs.YtdhgchekdkjcpaaGreatDoor
