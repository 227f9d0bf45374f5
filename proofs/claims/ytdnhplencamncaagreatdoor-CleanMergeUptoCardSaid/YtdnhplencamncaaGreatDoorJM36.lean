/- JM36: own texts of this seat, joined and shortened by pack4.py: UC. -/
import Derived.Test.YtdnhplencamncaaGreatDoorJM25
set_option linter.unusedVariables false
set_option linter.unusedSimpArgs false
set_option maxRecDepth 100000
set_option maxHeartbeats 64000000
open Int renaming eq_ofNat_of_zero_le→pU
open List renaming replicate→oE,getElem?_eq_getElem→oG,length_map→oW,getElem?_map→oc,append_assoc→oh,getElem?_cons_succ→pL,mem_or_eq_of_mem_set→pu,getElem?_cons_zero→qI,map_set→qw
namespace Go.Proofs.YtdnhplencamncaaGreatDoor
section
open Go Go.AM
theorem row_gL(H:List B)(id:Int)(vs:List Vl)(hc:aL Tryz.prog (.fn 75 []) [(.lst 3 false (vs.map aF))] (H++[B.cells [.int .i64 id,(.lst 3 false (vs.map aF))],B.cells [.int .i64 0,.nilS]]) fun r H'=>r = .buf (H.length+2) 0 vs.length vs.length∧H'=H++[B.cells [.int .i64 id,(.lst 3 false (vs.map aF))],B.cells [.int .i64 0,.nilS],B.buf 79 3 (vs.map aF) false]):
  aU Tryz.prog 63 [.agg [.int .i64 id,(.lst 3 false (vs.map aF))]] H fun x H'=>x = .agg [.int .i64 id,.buf (H.length+2) 0 vs.length vs.length]∧H'=H++cpB H.length id (.lst 3 false (vs.map aF)) vs false:=by
 refine aE tok Tryz.func63 rfl rfl ?_;refine wx ?_;simp -dsimp[Tryz.f63,oE,dw,dv,eh,fP,gP,gO];refine aI (aX tok mixed [4,6] [(1,[1])] [(.buf (H.length+2) 0 vs.length vs.length,H++[B.cells [.int .i64 id,(.lst 3 false (vs.map aF))],B.cells [.int .i64 0,.nilS],B.buf 79 3 (vs.map aF) false])] (by kernel_rfl) fun C K hC hK=>?_);simp -implicitDefEqProofs [dw,dv,eh,fP,gP,gO];refine⟨hC _ _ _ _ hc,hK _ _ ?_⟩;simp -dsimp[dw,dv,eh,fP,gP,gO];simp[cpB]
theorem row_o(H:List B)(r:Rw)(hl:r.vals.length≤1000000):aU Tryz.prog 63 [aC r] H fun x H'=>x = .agg [.int .i64 r.id,.buf (H.length+2) 0 r.vals.length r.vals.length]∧H'=H++cpB H.length r.id (LV false r.vals) r.vals false :=
 row_gL H r.id r.vals (by
  have:=nj (H++[B.cells [.int .i64 r.id,LV false r.vals],B.cells [.int .i64 0,.nilS]]) r.vals hl
  simpa[oh,LV] using this)
structure InvOk (c:Ch):Prop where
 k:c.k=2∨c.k=3∨c.k=4
 a:c.k=4→0≤c.a∧c.a<c.row.vals.length
 l:c.row.vals.length≤1000000
theorem inv_u(c:Ch)(f g:Bool)(h:InvOk c):aJ Tryz.prog 126 [aK f g c] fun r=>r=aK f g (kZ c):=by
 obtain⟨hk,ha,hl⟩:=h;obtain⟨k,nm,tb,row,a,v⟩:=c;simp only at hk ha hl
 rcases hk with rfl | rfl | rfl
 ·have e:kZ ⟨2,nm,tb,row,a,v⟩=⟨3,nm,tb,row,a,v⟩:=rfl;rw[e];refine sPx Tryz.func126 rfl rfl ?_;simp -dsimp[Tryz.f126,oE,aK,chC]
 ·have e:kZ ⟨3,nm,tb,row,a,v⟩=⟨2,nm,tb,row,a,v⟩:=rfl;rw[e];refine sPx Tryz.func126 rfl rfl ?_;simp -dsimp[Tryz.f126,oE,aK,chC]
 ·obtain⟨h0,h1⟩:=ha rfl;obtain⟨b,rfl⟩:=pU h0
  have hb:b<row.vals.length:=by omega
  have e:kZ ⟨4,nm,tb,row,b,v⟩=⟨4,nm,tb,⟨row.id,row.vals.set b v⟩,b,row.vals[b]⟩:=by
   have e1:atV row.vals b=row.vals[b]:=by simp[atV,hb]
   unfold kZ;simp[e1]
  rw[e];obtain⟨n,hn⟩:∃n,n=row.vals.length:=⟨_,rfl⟩;have hn':=hn.symm;obtain⟨o,ho⟩:∃o,o=row.vals[b]:=⟨_,rfl⟩;rw[←ho]
  have c1:=fun H=>row_o H row hl
  obtain⟨M,hM⟩:∃M,M=row.vals.map aF:=⟨_,rfl⟩
  have hMl:M.length=n:=by rw[hM,oW,hn]
  have hMb:M[b]?=some (.agg [.int .i64 o.k,.int .i64 o.n,.str o.s]):=by rw[hM,oc,oG hb,←ho];rfl
  have hMb':=du hMb
  have hset:M.set b (.agg [.int .i64 v.k,.int .i64 v.n,.str v.s])=(row.vals.set b v).map aF:=by rw[hM,qw];rfl
  have hMp:∀x∈M,AM.Pure x:=fun x hx=>by rw[hM]at hx;obtain⟨y,_,rfl⟩:=List.mem_map.1 hx;simp
  have hbn:b<n:=by omega
  simp only[cpB,aC,LV,hn',←hM]at c1;simp only[aK,chC,←hM];refine au (aE tok Tryz.func126 rfl rfl ?_);refine wx ?_;simp -dsimp[Tryz.f126,oE,hMl,hMb',hbn,aF];refine wcm (c1 _) ?_;rintro r H' ⟨rfl,rfl⟩;simp -dsimp[];refine aI (aX tok mixed [9,11] [(7,[1])] [] (by kernel_rfl) fun C K hC hK=>?_);simp -implicitDefEqProofs [hMl,hMb,hMb',hbn];refine hK _ _ ?_;simp -dsimp[]
  have hset2:M.set b (.agg [.int .i64 v.k,.int .i64 v.n,.str v.s])=(row.vals.map aF).set b (aF v):=by rw[hM];rfl
  have hsl:((row.vals.map aF).set b (aF v)).length=n:=by simp[hn]
  have hsp:∀x∈(row.vals.map aF).set b (aF v),AM.Pure x:=fun x hx=>by
   rcases pu hx with q | rfl
   ·obtain⟨y,_,rfl⟩:=List.mem_map.1 q;simp
   ·simp
  refine⟨.agg _ _ rfl (fun j c d hc hd=>?_),hsp⟩
  match j with
  | 6 =>
   simp only[pL,qI,Option.some.injEq]at hc hd;subst hc;subst hd;rw[hset2,←hsl];exact nS rfl rfl hsp
  | 0 | 1 | 2 | 3 | 4 | 5 | 7 | 8 | 9 | 10 =>
   simp at hc hd;subst hc;subst hd;exact .pure _ (by simp)
  | j+11=>simp at hc
end
end Go.Proofs.YtdnhplencamncaaGreatDoor
