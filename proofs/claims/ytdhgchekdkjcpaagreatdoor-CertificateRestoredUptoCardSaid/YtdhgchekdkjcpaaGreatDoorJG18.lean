/- JG18: own texts of this seat, joined and shortened by pack4.py: Fe, Fg. -/
import Derived.Test.YtdhgchekdkjcpaaGreatDoorJG16
set_option linter.unusedVariables false
set_option linter.unusedSimpArgs false
set_option maxRecDepth 100000
set_option maxHeartbeats 64000000
open List renaming append_assoc→lV
namespace Go.Proofs.YtdhgchekdkjcpaaGreatDoor
section
open Go Go.AM Go.Lib
def nbH(s:Cst)(j:Nat):List B:=if j=0 then [] else [.buf 2 1 ((stN ⟨s.r,s.f.take j,s.d⟩).map aD) false]
theorem nbH_0(s:Cst):nbH s 0=[]:=rfl
theorem nbH_p(s:Cst){j:Nat}(h:0<j):nbH s j=[.buf 2 1 ((stN ⟨s.r,s.f.take j,s.d⟩).map aD) false]:=by unfold nbH;rw[if_neg (by omega)]
theorem stN_len(s:Cst)(j:Nat)(h:j≤s.f.length):(stN ⟨s.r,s.f.take j,s.d⟩).length=j+3:=by simp[stN];omega
theorem stN_snoc(s:Cst){j:Nat}(h:j<s.f.length):stN ⟨s.r,s.f.take (j+1),s.d⟩=stN ⟨s.r,s.f.take j,s.d⟩++[s.f[j]]:=by
 unfold stN;simp only;rw[ap s.f h,lV]
theorem txtC_ok{c:Cert}(h:okC c=true):txtC c=lnT (ak c):=by
 obtain⟨hk,hn⟩:=iJ h;unfold txtC;rw[if_pos hk];unfold pT;rw[if_pos (List.all_eq_true.2 hn)];unfold ak;rw[di,di];simp[lnT]
theorem txtC_len{c:Cert}(h:SzC c):(txtC c).length≤3000000000:=by
 have h1:=h.hd;have h2:=pT_len h;unfold txtC;split
 ·simp[aT];omega
 ·simp
end
end Go.Proofs.YtdhgchekdkjcpaaGreatDoor
