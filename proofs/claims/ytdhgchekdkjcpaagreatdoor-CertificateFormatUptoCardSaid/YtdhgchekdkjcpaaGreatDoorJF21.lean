/- JF21: own texts of this seat, joined and shortened by pack4.py: Fx. -/
import Derived.Test.YtdhgchekdkjcpaaGreatDoorJF12
import Derived.Test.YtdhgchekdkjcpaaGreatDoorJF18
import Derived.Test.YtdhgchekdkjcpaaGreatDoorJF20
set_option linter.unusedVariables false
set_option linter.unusedSimpArgs false
set_option maxRecDepth 100000
set_option maxHeartbeats 64000000
open List renaming replicate→gk
namespace Go.Proofs.YtdhgchekdkjcpaaGreatDoor
section
open Go Go.AM Go.Lib
theorem size_r(c:Cert)(h:SzC c):aS Tryz.prog 16 [aF c] fun r=>r = .int .i64 (sizeC c:Nat):=by
 have hf:=format_r c h;have hl:=fmtT_len c;have hn:sizeC c=(spl 10 (cF c)).length-1:=rfl;by_cases he:dC c=0
 ·rw[he]at hf;obtain⟨s,hs⟩:∃s,s=cF c:=⟨_,rfl⟩;rw[←hs]at hf hl hn;have hc:=lines_r s (by omega)
  have hpos:1≤(spl 10 s).length:=by rw[fk];omega
  have hle:(spl 10 s).length≤70000:=by rw[fk];have:=List.count_le_length (a:=(10:UInt8)) (l:=s);omega
  rw[hn];obtain⟨n,hnn⟩:∃n,n=(spl 10 s).length:=⟨_,rfl⟩;rw[←hnn]at hpos hle ⊢;simp only[aF,aB,aC,aE]at hf;refine sPx Tryz.func16 rfl rfl ?_;simp -dsimp[Tryz.f16,gk,aF,aB,aC,aE];refine cPx (hf) (by simp) ?_;simp -dsimp[];refine cPx (hc) (by simp) ?_;simp -dsimp[←hnn,wrapP n (by omega) hpos]
 ·have hz:sizeC c=0:=by rw[hn];unfold cF;rw[if_neg he];rfl
  rw[hz];obtain⟨e,hee⟩:∃e,e=dC c:=⟨_,rfl⟩;rw[←hee]at hf he;obtain⟨s,hs⟩:∃s,s=cF c:=⟨_,rfl⟩;rw[←hs]at hf;simp only[aF,aB,aC,aE]at hf;refine sPx Tryz.func16 rfl rfl ?_;simp -dsimp[Tryz.f16,gk,aF,aB,aC,aE];refine cPx (hf) (by simp) ?_;simp -dsimp[he]
theorem lawFormat(c:Cert)(h:CertB 1048576 c):aS Tryz.prog 5 [aF c] fun r=>r = .bool true:=by
 have h1:=few_r c h;by_cases hf:fewN c≤600
 ·have hz:=few_sz hf h.r;have h2:=format_c c hz;have h3:=format_r c hz;have h4:=size_c c hz;have h5:=size_r c hz;rw[decide_eq_true hf]at h1;obtain⟨s,hs⟩:∃s,s=cF c:=⟨_,rfl⟩;obtain⟨e,he⟩:∃e,e=dC c:=⟨_,rfl⟩;obtain⟨n,hn⟩:∃n,n=sizeC c:=⟨_,rfl⟩;rw[←hs,←he]at h2 h3;rw[←hn]at h4 h5;clear h hz;simp only[aF,aB,aC,aE]at h1 h2 h3 h4 h5;refine sPx Tryz.func5 rfl rfl ?_;simp -dsimp[Tryz.f5,gk,aF,aB,aC,aE];refine cPx (fO) (by simp) ?_;simp -dsimp[];refine cPx (h1) (by simp) ?_;simp -dsimp[];refine cPx (h2) (by simp) ?_;simp -dsimp[];refine cPx (h3) (by simp) ?_;simp -dsimp[];refine .inr ⟨fj (by kernel_rfl),?_⟩;refine cy_of _ (co (h4) (by simp)) ?_;simp -dsimp[];refine cy_of _ (co (h5) (by simp)) ?_;simp -dsimp[]
 ·rw[decide_eq_false hf]at h1;clear h;simp only[aF,aB,aC,aE]at h1;refine sPx Tryz.func5 rfl rfl ?_;simp -dsimp[Tryz.f5,gk,aF,aB,aC,aE];refine cPx (fO) (by simp) ?_;simp -dsimp[];refine cPx (h1) (by simp) ?_;simp -dsimp[];refine cPx (fO) (by simp) ?_;simp -dsimp[]
end
end Go.Proofs.YtdhgchekdkjcpaaGreatDoor
