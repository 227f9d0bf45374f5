/- JA26: own texts of this seat, joined and shortened by pack4.py: PLa, UP. -/
import Derived.Test.YtpedcgdgjoblkaaGreatDoorJA25
set_option linter.unusedVariables false
set_option linter.unusedSimpArgs false
set_option maxRecDepth 100000
set_option maxHeartbeats 64000000
open List renaming take_succ_eq_append_getElem→kY,take_append_drop→lA
section
namespace Go.Proofs.YtpedcgdgjoblkaaGreatDoor
open Go Go.AM
end Go.Proofs.YtpedcgdgjoblkaaGreatDoor
end
namespace Go.Proofs.YtpedcgdgjoblkaaGreatDoor
section
open Go Go.AM
theorem runT_take{t u:Tb}{l:List Ch}{i:Nat}(h:runT t l=some u)(hi:i<l.length):∃w w',runT t (l.take i)=some w∧ae w l[i]=some w'∧runT t (l.take (i+1))=some w':=by
 have e:l=l.take (i+1)++l.drop (i+1):=(lA _ _).symm;have es:l.take (i+1)=l.take i++[l[i]]:=kY hi;rw[e,iM]at h
 cases hq:runT t (l.take (i+1)) with
 | none=>rw[hq]at h;cases h
 | some w' =>
  have hq2:=hq;rw[es,iM]at hq2
  cases hw:runT t (l.take i) with
  | none=>rw[hw]at hq2;cases hq2
  | some w =>
   rw[hw,Option.bind_some,runT]at hq2
   cases hs:ae w l[i] with
   | none=>rw[hs]at hq2;cases hq2
   | some x =>
    rw[hs]at hq2;simp only[runT]at hq2;exact⟨w,w',rfl,by rw[←hq2,hs],rfl⟩
theorem jJ{l:List Ch} : ∀{t u:Tb},aH t=0→runT t l=some u→aH u=0∧u.name=t.name∧u.attrs=t.attrs:=by
 induction l with
 | nil=>intro t u h1 h2;cases h2;exact⟨h1,rfl,rfl⟩
 | cons c l ih =>
  intro t u h1 h2;rw[runT]at h2
  cases hq:ae t c with
  | none=>rw[hq]at h2;cases h2
  | some w =>
   rw[hq]at h2;obtain⟨a,b,d⟩:=ie h1 hq;obtain⟨a',b',d'⟩:=ih a h2;exact⟨a',b'.trans b,d'.trans d⟩
end
end Go.Proofs.YtpedcgdgjoblkaaGreatDoor
