/- JX36: own texts of this seat, joined and shortened by pack4.py: Opd. -/
import Derived.Test.YtjogkbekekdkjaaGreatDoorJX35
import Derived.OpenShut
set_option linter.unusedVariables false
set_option linter.unusedSimpArgs false
set_option maxRecDepth 100000
set_option maxHeartbeats 64000000
open List renaming getElem?_eq_getElem→rT
open Nat renaming le_refl→rd,mul_one→vM
namespace Go.Proofs.YtjogkbekekdkjaaGreatDoor
section
open Go Go.AM
theorem shq_nodes{n Bd:Nat}{ws:List V}(h:ShB T Bd (n+6) 66 ws):∃l:List Nde,ws=[LNd false l]∧True:=by
 obtain⟨xs,rfl,hl,hx⟩:=du h T_66 rfl T_77
 obtain⟨l,rfl,_⟩:∃l:List Nde,xs=l.map aS∧∀c∈l,True:=bY fun x hxm=>by
  obtain⟨ws,hs,_,rfl⟩:=hx x hxm;obtain⟨hlen,hf⟩:=bL hs T_77 rfl rfl
  obtain⟨a,b,rfl⟩:∃a b,ws=[a,b]:=by
   match ws,hlen with
   | [a,b],_=>exact⟨a,b,rfl⟩
  obtain⟨v,e1⟩:=ep (hf 0 _ _ rfl T_3);obtain⟨ys,e2,_,hy⟩:=du (show ShB T Bd (n+3+1) 75 [b] from hf 1 _ _ rfl T_75) T_75 rfl T_121
  obtain⟨s,rfl,_⟩:∃s:List Shr,ys=s.map aP∧∀c∈s,True:=bY fun x hxm=>by
   obtain⟨ws,hs,_,rfl⟩:=hy x hxm;obtain⟨hlen,hf⟩:=bL hs T_121 rfl rfl
   obtain⟨c,d,rfl⟩:∃a b,ws=[a,b]:=by
    match ws,hlen with
    | [a,b],_=>exact⟨a,b,rfl⟩
   obtain⟨p,e3⟩:=ep (hf 0 _ _ rfl T_3);obtain⟨q,e4⟩:=oW (hf 1 _ _ rfl T_2);simp at e3 e4;subst e3;subst e4;exact⟨⟨p,q⟩,by simp[bX,aP],trivial⟩
  simp at e1 e2;subst e1;subst e2;exact⟨⟨v,s⟩,by simp[bX,aS,LSh],trivial⟩
 exact⟨l,rfl,trivial⟩
theorem open_i64x2{Hd:Type}{enc:TypeId×Value→Hd}{W:World}{m:Nat}{cs:List Value}{x:DataW Hd×List MemPlace}(h:DataW.trod enc Tryz.prog W 0 (fun _=>true) true m 108 cs=some x):∃a b:List Int,CR W [L1 false a,L1 false b] cs:=by
 obtain⟨xs,n,_,_,hlen,hl,hel⟩:=DataW.trod_array Tryz.underlying108 h;have hc5:Tryz.prog.cellsOf 34=1:=cells_ok 34 _ T_34;have hc52:Tryz.prog.cellsOf 108=2:=cells_ok 108 _ T_108;rw[hc52]at hlen
 have one:∀i,i<2→∃a:List Int,CR W [L1 false a] ((cs.drop i).take 1):=fun i hi=>by
  have h1:=hel i (by omega);rw[hc5,vM,rT (by omega)]at h1;obtain⟨vs,hcr,hsh⟩:=opnB (T:=T) bulk_ok tok cells_ok 8 n 34 _ _ (by kernel_rfl) h1 (rd _);obtain⟨l,rfl,_⟩:=shq_i64s hsh;exact⟨l,hcr⟩
 obtain⟨a,ha⟩:=one 0 (by omega);obtain⟨b,hb⟩:=one 1 (by omega);refine⟨a,b,?_⟩;have:=ha.append hb
 have e:(cs.drop 0).take 1++(cs.drop 1).take 1=cs:=by
  match cs,hlen with
  | [p,q],_=>rfl
 rw[e]at this;exact this
end
end Go.Proofs.YtjogkbekekdkjaaGreatDoor
