/- JA34: own texts of this seat, joined and shortened by pack4.py: Opd. -/
import Derived.Test.YtpedcgdgjoblkaaGreatDoorJA14
import Derived.Test.YtpedcgdgjoblkaaGreatDoorJA15
set_option linter.unusedVariables false
set_option linter.unusedSimpArgs false
set_option maxRecDepth 100000
set_option maxHeartbeats 64000000
namespace Go.Proofs.YtpedcgdgjoblkaaGreatDoor
section
open Go Go.AM
theorem shq_row{n Bd:Nat}{ws:List V}(h:ShB T Bd (n+4) 41 ws):∃r:Rw,ws=[.int .i64 r.id,.lst 3 false (r.vals.map aJ)]:=by
 obtain⟨hlen,hf⟩:=fD h T_41 rfl rfl
 obtain⟨a,b,rfl⟩:∃a b,ws=[a,b]:=by
  match ws,hlen with
  | [a,b],_=>exact⟨a,b,rfl⟩
 obtain⟨m,e1⟩:=shq_i64 (hf 0 _ _ rfl T_2);obtain⟨vs,e2,_⟩:=shq_vals (hf 1 _ _ rfl T_39);simp at e1 e2;subst e1;subst e2;exact⟨⟨m,vs⟩,rfl⟩
theorem shq_change{n Bd:Nat}{ws:List V}(h:ShB T Bd (n+7) 45 ws):∃c:Ch,.agg ws=aE false false c:=by
 obtain⟨hlen,hf⟩:=fD h T_45 rfl rfl
 obtain⟨a0,a1,a2,a3,a4,a5,a6,a7,a8,a9,a10,rfl⟩:∃a0 a1 a2 a3 a4 a5 a6 a7 a8 a9 a10,ws=[a0,a1,a2,a3,a4,a5,a6,a7,a8,a9,a10]:=by
  match ws,hlen with
  | [a0,a1,a2,a3,a4,a5,a6,a7,a8,a9,a10],_=>exact⟨a0,a1,a2,a3,a4,a5,a6,a7,a8,a9,a10,rfl⟩
 obtain⟨k,e0⟩:=shq_int (hf 0 _ _ rfl T_3);obtain⟨nm,e1,_⟩:=ig (hf 1 _ _ rfl T_9);obtain⟨t,e2,_⟩:=shq_table (hf 2 _ _ rfl T_29);obtain⟨r,e3⟩:=shq_row (n:=n+2) (hf 3 _ _ rfl T_41);obtain⟨b,e4⟩:=shq_int (hf 4 _ _ rfl T_3);obtain⟨v,e5,_⟩:=shq_val (n:=n+4) (hf 5 _ _ rfl T_43);simp[aD,LS,LR]at e0 e1 e2 e3 e4 e5;obtain⟨rfl,rfl,rfl⟩:=e2;obtain⟨rfl,rfl⟩:=e3;obtain⟨rfl,rfl,rfl⟩:=e5;subst e0;subst e1;subst e4;exact⟨⟨k,nm,t,r,b,v⟩,rfl⟩
theorem shq_chs{n Bd:Nat}{ws:List V}(h:ShB T Bd (n+8) 25 ws):∃l:List Ch,ws=[.lst 11 false (l.map (aE false false))]∧True:=by
 obtain⟨xs,rfl,_,hx⟩:=fC h T_25 rfl T_45
 obtain⟨l,rfl,_⟩:∃l:List Ch,xs=l.map (aE false false)∧∀c∈l,True:=cK fun x hxm=>by
  obtain⟨ws,hs,_,rfl⟩:=hx x hxm;obtain⟨c,e⟩:=shq_change hs;exact⟨c,by simpa[bP] using e,trivial⟩
 exact⟨l,rfl,trivial⟩
end
end Go.Proofs.YtpedcgdgjoblkaaGreatDoor
