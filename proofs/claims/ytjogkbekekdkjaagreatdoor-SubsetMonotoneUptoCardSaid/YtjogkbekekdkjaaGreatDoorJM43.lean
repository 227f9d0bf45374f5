/- JM43: own texts of this seat, joined and shortened by pack4.py: SL0. -/
import Derived.Test.YtjogkbekekdkjaaGreatDoorJM35
import Derived.Test.YtjogkbekekdkjaaGreatDoorJM38
import Derived.Test.YtjogkbekekdkjaaGreatDoorJM42
set_option linter.unusedVariables false
set_option linter.unusedSimpArgs false
set_option maxRecDepth 100000
set_option maxHeartbeats 64000000
open Bool renaming and_eq_true→pC
open List renaming length_map→pc
namespace Go.Proofs.YtjogkbekekdkjaaGreatDoor
section
open Go Go.AM
structure CaseR (t:Tb) (cs:List Cn) (w:List Int):Prop where
 b:BdOk t cs
 s:TbS t
 n:t.rows.length≤6
 e:∀c∈cs,eg t c=0
 z:db t cs=0
 p:prE t cs w=0
 l4:cs.length≤4
 wl:w=[]∨w.length=t.rows.length
 w6:w.length≤6
 wr:∀x∈w,1≤x∧x≤20
theorem case_ok{x:Rcp}{rs:List Rul}{ws:List Int}(h:C4Ok x rs ws)(hb:mS x rs=true):CaseR (ofT x) (ofL4 x rs) (wOf (ofT x).rows.length ws):=by
 unfold mS at hb;rw[pC,pC,decide_eq_true_iff,decide_eq_true_iff]at hb;obtain⟨⟨h6,hall⟩,h4⟩:=hb;have hxo:RcpOk x:=⟨h.a,h.gap,h6,h.len⟩
 have hT:ofT x=ia x:=by unfold ofT;rw[if_pos h6]
 have hL:ofL4 x rs=rs.map (iS (ia x).attrs.length):=by unfold ofL4;rw[if_pos hall,hT]
 obtain⟨h1,h2,h3⟩:=bd_rcp hxo h.r hall h4;have hr:=kS x;rw[hT,hL];have hwr:=wOf_rng (n:=(ia x).rows.length) h.w;have hwl:=wOf_len (ia x).rows.length ws
 have hw6:(wOf (ia x).rows.length ws).length≤6:=by
  rcases hwl with e | e
  ·rw[e];simp
  ·rw[e,hr];exact h6
 exact⟨h1,(nC hxo).1,by omega,h2,h3,nE h1 h3 hwl (fun v hv=>by have:=hwr v hv;omega),by rw[pc];exact h4,hwl,hw6,hwr⟩
end
end Go.Proofs.YtjogkbekekdkjaaGreatDoor
