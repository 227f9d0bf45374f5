/- JM20: own texts of this seat, joined and shortened by pack4.py: OwB. -/
import Derived.Test.YtdnhplencamncaaGreatDoorJM6
set_option linter.unusedVariables false
set_option linter.unusedSimpArgs false
set_option maxRecDepth 100000
set_option maxHeartbeats 64000000
open List renaming replicate→oE,getElem?_eq_getElem→oG,mem_of_getElem?→oH,getElem?_append_left→oL,range→oM,getElem?_set_ne→oQ,getElem?_append_right→oS,length_append→oT,append_nil→oU,getElem?_set_self→oX,length_cons→og,append_assoc→oh,map_congr_left→oo,map_cons→oq,set_cons_zero→oz,map_nil→pJ,length_set→pN,set_append_right→pt,length_nil→qD,set_getElem_self→qQ,map_map→qu,singleton_append→rB,replicate_zero→rG,set_set→rV
open Nat renaming le_refl→oJ,sub_self→px,add_zero→qH
namespace Go.Proofs.YtdnhplencamncaaGreatDoor
section
open Go Go.AM
theorem W_ownB{P:Program}(e z j:Nat){k0 e0:Nat}{xs:List V}{c:Code}{Q:Exit→List V→List B→Prop}{fr:List V}{H:List B}(hk:H[k0]?=some (.buf e0 1 xs false))(hj:xs[j]?=some .nilS)
  (h:W P c Q fr (H.set k0 (.buf e0 1 (xs.set j (.buf H.length 0 0 0)) false)++[.buf e z [] false])):W P c Q fr H:=by
 intro s a hA hg hf hd;obtain⟨rfl,hZ⟩:=hA;obtain⟨p1,p2⟩:=lD hg 0 e z false rfl rfl rfl (oJ _) (fun _ _=>rfl);generalize hs1:s.push s.w 0 0 (.buf e z [] false)=s1 at p1 p2
 have hk1:s1.H[k0]?=some (.buf e0 1 xs false):=by rw[←hs1];simp only[St.push];rw[oL (aB hk)];exact hk
 have hr1:∀x y u,Rel s x u→(y=x∨(x = .nilS∧y = .buf s.H.length 0 0 0))→Rel s1 y u:=fun x y u h1 h2=>by subst hs1;exact rel_own p2 h1 h2
 have hw1:s1.w=s.w:=by rw[←hs1];rfl
 have hφ:s1.φ k0=s.φ k0:=by rw[←hs1];exact bH _ _ (by have:=aB hk;omega)
 have hκ:s1.κ k0=s.κ k0:=by rw[←hs1];exact bH _ _ (by have:=aB hk;omega)
 obtain⟨vs,g2,g3,g4,g5,g6,g7⟩:=hg.blk k0 _ hk
 have hκ0:s1.κ k0≠0:=by have:=aB hj;omega
 have hlv:=lvB hk1 hκ0;have hst:=bI (w:=s1.w) (bl':=.buf e0 1 (xs.set j (.buf s.H.length 0 0 0)) false) p1 hk1 hlv (by simp[B.alike]) rfl rfl rfl (oJ _) (fun _ _ _=>rfl)
 have hat:∀(i:Nat) y,(xs.set j (.buf s.H.length 0 0 0))[i]?=some y→∃x,xs[i]?=some x∧(y=x∨(x = .nilS∧y = .buf s.H.length 0 0 0)):=fun i y hy=>by
  by_cases e1:j=i
  ·subst e1;rw[oX (aB hj)]at hy;exact⟨.nilS,hj,.inr ⟨rfl,(Option.some.inj hy).symm⟩⟩
  ·rw[oQ e1]at hy;exact⟨y,hy,.inl rfl⟩
 have hgd:AM.Good (s1.setB s1.w k0 (.buf e0 1 (xs.set j (.buf s.H.length 0 0 0)) false)):=by
  refine bQ p1 hk1 hlv (by simp[B.alike]) rfl rfl rfl (oJ _) (fun _ _ _=>rfl) (fun hst=>?_);refine⟨vs,fun _=>by show s1.w.heap[s1.φ k0]?=_;rw[hw1,hφ];exact g2 (by rw[←hκ];exact hκ0),?_,?_,?_,fun y hy=>?_,fun i y j' d u hy hd hu=>?_⟩
  ·show vs.size=s1.κ k0*1;rw[hκ];exact g3
  ·show _≤s1.κ k0;rw[hκ,pN];exact g4
  ·show s1.κ k0≤_;rw[hκ];exact g5
  ·obtain⟨i,hi⟩:=List.mem_iff_getElem?.1 hy;obtain⟨x,hx,h9⟩:=hat i y hi
   rcases h9 with h9 | ⟨_,h9⟩
   ·rw[h9];exact g6 x (oH hx)
   ·rw[h9];exact⟨rfl,fun c hc=>by simp[V.cells]at hc;subst hc;rfl⟩
  ·obtain⟨x,hx,h9⟩:=hat i y hy
   rcases h9 with h9 | ⟨h8,h9⟩
   ·subst h9;exact(hr1 d d u (g7 i y j' d u hx hd hu) (.inl rfl)).step hst
   ·subst h9;subst h8
    have hj0:j'=0:=by have:=aB hd;simp[V.cells]at this;exact this
    subst hj0;simp[V.cells]at hd;subst hd;exact(hr1 .nilS _ u (g7 i .nilS 0 .nilS u hx rfl hu) (.inr ⟨rfl,rfl⟩)).step hst
 have hH:(s1.setB s1.w k0 (.buf e0 1 (xs.set j (.buf s.H.length 0 0 0)) false)).H=s.H.set k0 (.buf e0 1 (xs.set j (.buf s.H.length 0 0 0)) false)++[.buf e z [] false]:=by
  rw[←hs1];simp only[St.setB,St.push];rw[List.set_append,if_pos (aB hk)]
 have:=h (s1.setB s1.w k0 (.buf e0 1 (xs.set j (.buf s.H.length 0 0 0)) false)) a ⟨hH,(hZ.step p2).step hst⟩ hgd ⟨by rw[hf.len],fun i v u hv hu=>(hr1 v v u (hf.rel i v u hv hu) (.inl rfl)).step hst⟩ hd;have e1:(s1.setB s1.w k0 (.buf e0 1 (xs.set j (.buf s.H.length 0 0 0)) false)).w=s.w:=hw1;rw[e1]at this
 exact wp_mono this fun _ _ _ hl=>bO (p2.trans hst) hl
theorem W_ownBs{P:Program}(e z:Nat){k0 e0:Nat}{c:Code}{Q:Exit→List V→List B→Prop}{fr:List V} : ∀(m:Nat) (xs:List V) (H:List B),H[k0]?=some (.buf e0 1 (xs++oE m .nilS) false)→
  W P c Q fr (H.set k0 (.buf e0 1 (xs++(oM m).map fun i=>.buf (H.length+i) 0 0 0) false)++oE m (.buf e z [] false))→W P c Q fr H
 | 0,xs,H,hk,h=>by
  have he:H.set k0 (.buf e0 1 (xs++(oM 0).map fun i=>.buf (H.length+i) 0 0 0) false)++oE 0 (.buf e z [] false)=H:=by
   simp only[List.range_zero,pJ,oU,rG]at hk ⊢;have hlt:=aB hk;rw[oG hlt]at hk;rw[←Option.some.inj hk,qQ]
  rwa [he]at h
 | m+1,xs,H,hk,h=>by
  have hj:(xs++oE (m+1) V.nilS)[xs.length]?=some .nilS:=by
   rw[oS (oJ _),px];rfl
  refine W_ownB e z xs.length hk hj ?_
  have hset:(xs++oE (m+1) V.nilS).set xs.length (.buf H.length 0 0 0)=(xs++[.buf H.length 0 0 0])++oE m .nilS:=by
   rw[pt _ _ (oJ _),px,List.replicate_succ,oz];simp
  rw[hset];have hlt:=aB hk;refine W_ownBs e z m (xs++[.buf H.length 0 0 0]) _ (by rw[oL (by simpa using hlt),oX hlt]) ?_;rw[List.set_append_left _ _ (by simpa using hlt),rV]
  have e1:(xs++[V.buf H.length 0 0 0])++(oM m).map (fun i=>V.buf ((H.set k0 (.buf e0 1 ((xs++[.buf H.length 0 0 0])++oE m .nilS) false)++[B.buf e z [] false]).length+i) 0 0 0)=xs++(oM (m+1)).map fun i=>V.buf (H.length+i) 0 0 0:=by
   rw[List.range_succ_eq_map,oq,qu,oh,rB,qH];congr 2;refine oo (fun i _=>?_);simp only[oT,pN,og,qD,Function.comp_apply];congr 1;omega
  rw[e1,oh,show [B.buf e z [] false]++oE m (.buf e z [] false)=oE (m+1) (.buf e z [] false) from rfl];exact h
end
end Go.Proofs.YtdnhplencamncaaGreatDoor
