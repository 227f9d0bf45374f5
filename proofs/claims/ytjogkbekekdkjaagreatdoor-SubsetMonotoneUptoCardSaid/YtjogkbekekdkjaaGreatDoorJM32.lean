/- JM32: own texts of this seat, joined and shortened by pack4.py: SC5, SC7. -/
import Derived.Test.YtjogkbekekdkjaaGreatDoorJM30
set_option linter.unusedVariables false
set_option linter.unusedSimpArgs false
set_option maxRecDepth 100000
set_option maxHeartbeats 64000000
open List renaming replicate→ou,drop_of_length_le→pF,append_nil→pL,map_append→qB,map_take→rK,take→rW,drop→sV
namespace Go.Proofs.YtjogkbekekdkjaaGreatDoor
section
open Go Go.AM
section
theorem enc_fill(ys:List Int)(k n:Nat)(hn:ys.length=n):rW k (ys.map au)++(ou (n-k) (V.int .i64 0)++sV n (ys.map au))=(ys.take k++ou (n-k) 0).map au:=by
 rw[pF (by simp;omega),pL,qB,rK,List.map_replicate];rfl
section
variable {H:List B} {k0:Nat}
structure DfI (q:Int→Bool) (xs ys:List Int) (i j:Nat):Prop where
 lt:i<j
 len:ys.length=xs.length
 tk:ys.take i=(xs.take j).filter q
 il:i=((xs.take j).filter q).length
 hi:∀k,j≤k→ys.getD k 0=xs.getD k 0
end
end
theorem rows8{t:Tb}{cs:List Cn}(h:BdOk t cs)(h0:db t cs=0):t.rows.length≤8:=by
 obtain⟨_,h2,_⟩:=hU h0;have:=h.rows;omega
end
end Go.Proofs.YtjogkbekekdkjaaGreatDoor
