/- JM10: own texts of this seat, joined and shortened by pack4.py: Lay, Open. -/
import Derived.Test.YtdnhplencamncaaGreatDoorJM9
import Derived.Test.YtdnhplencamncaaGreatDoorRows
import Derived.ProofKit
import Derived.LaidMore
import Derived.OpenShut
import Derived.Stop.Joined
set_option linter.unusedVariables false
set_option linter.unusedSimpArgs false
set_option maxRecDepth 100000
set_option maxHeartbeats 64000000
open List renaming getElem?_eq_getElem→oG,getElem?_map→oc,getElem?_take→pD,getElem?_drop→pP
open Nat renaming mul_one→rO
open Option renaming map_some→pB,bind_some→qe
namespace Go.Proofs.YtdnhplencamncaaGreatDoor
section
open Go.ChangeShapes Go.WideShapes Go.ChangeAt Go.WideMaps Go.WideElems Go.RowKit Go.AM
theorem own:ownKnob Tryz.prog.godebug=none:=by kernel_rfl
theorem laidOut:laidOutB Tryz.prog=true:=by kernel_rfl
theorem gTab:Tryz.prog.globalNamed "math/bits.deBruijn32tab" = some 1:=by kernel_rfl
theorem tTab:(Tryz.prog.globals[1]?).map (·.type)=some 466:=by kernel_rfl
def laid1{H:Type} : List (String×DataW H):=[("math/bits.deBruijn32tab",Rows.laid_math_bits_deBruijn32tab)]
theorem door_met(os:Os)(args:Array Value):laidMetH Tryz.prog laid1 ((World.doorLaid Tryz.prog 400 os).forCall (fun _ _=>0) ⟨#[],args,[]⟩).memory :=
 laidMetH_of_parts3 (fuel:=8) (laidMet_of_run' 8 (by kernel_rfl) (by kernel_rfl)) (by kernel_rfl) (by kernel_rfl)
theorem of_laid{W:World}(h:laidMetH Tryz.prog laid1 W):∃cs t m,W.heap[1]?=some (.cells cs t m)∧bitsC cs:=by
 rw[MakeChecks.laidMetH_plain _ _ _ (by kernel_rfl)]at h;obtain⟨ps,⟨g0,t0,cs0,f0,p0,q0,hg0,ht0,hv0,hd0,_,_⟩,_,_⟩:=h;obtain rfl:=Option.some.inj (gTab.symm.trans hg0);obtain rfl:=Option.some.inj (tTab.symm.trans ht0);obtain⟨xs,m1,rfl,hx1,hlen,hn3,hel⟩:=DataW.trod_array Tryz.underlying466 hd0
 have c5:Tryz.prog.cellsOf 5=1:=by kernel_rfl
 simp only[Prod.mk.injEq,Rows.laid_math_bits_deBruijn32tab,DataW.agg.injEq]at hx1
 obtain⟨t,m,hh⟩:∃t m,W.heap[1]?=some (.cells cs0 t m):=by
  unfold World.var? at hv0;rw[gTab]at hv0;simp only[qe]at hv0;split at hv0
  ·rename_i cs t m hh;cases hv0;exact⟨_,_,hh⟩
  ·cases hv0
 refine⟨cs0,t,m,hh,?_⟩;intro i x hx
 have hi:i<32:=by have:=aB hx;simpa[fB] using this
 have h1:=hel i hi;rw[c5,rO,oG (by omega)]at h1;obtain⟨k,e1,e2,_⟩:=DataW.trod_int Tryz.underlying5 h1
 have hk:k=x:=by
  have hl:(fB.map fun y=>DataW.lit (.int .u8 y))=xs.map (·.1):=hx1.1;have h3:=congrArg (fun l=>l[i]?) hl;simp only[oc,oG (show i<xs.length by omega),pB,hx,e2,Option.some.injEq,DataW.lit.injEq,Lit.int.injEq,true_and]at h3;exact h3.symm
 subst hk;have e3:(cs0.toList.drop i).take 1=[.int .u8 k]:=e1
 have:cs0.toList[i]?=some (.int .u8 k):=by
  have h4:=congrArg (fun l=>l[0]?) e3;simpa[pD,pP] using h4
 simpa using this
theorem gok{W:World}(h:laidMetH Tryz.prog laid1 W):GOk Tryz.prog (AM.base (fun _=>False) W):=fun e he g hg=>by
 obtain rfl:=List.mem_singleton.1 he;obtain rfl:=Option.some.inj (gTab.symm.trans hg);obtain⟨cs,t,m,hh,hc⟩:=of_laid h;refine⟨⟨?_,fun h=>h,fun k hk=>by have:=hk.1;simp[AM.base]at this⟩,cs,t,m,hh,hc⟩;exact(Array.getElem?_eq_some_iff.1 hh).1
theorem cells_ok:∀t i,T t=some i→Tryz.prog.cellsOf t=i.size:=fun t i hi=>by
 obtain⟨inf,h1,h2,_⟩:=tok.info t i hi;simp[Program.cellsOf,h1,h2]
end
end Go.Proofs.YtdnhplencamncaaGreatDoor
namespace Go.Proofs.YtdnhplencamncaaGreatDoor
section
open Go Go.AM
theorem agg_rel{w:World}{vs:List V}{us:Array Value}(h:CR w vs us.toList):Rel (AM.base (fun _=>False) w) (.agg vs) (.agg us):=
 .agg vs us (by simpa using h.len.symm) h.one (fun i c u hc hu=>h.rel i c u hc (by simpa using hu))
end
end Go.Proofs.YtdnhplencamncaaGreatDoor
