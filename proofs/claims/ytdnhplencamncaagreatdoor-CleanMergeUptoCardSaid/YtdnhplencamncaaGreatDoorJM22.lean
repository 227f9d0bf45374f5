/- JM22: own texts of this seat, joined and shortened by pack4.py: PB, TA, GrC. -/
import Derived.Test.YtdnhplencamncaaGreatDoorJM11
import Derived.Test.YtdnhplencamncaaGreatDoorJM15
import Derived.WalkKit
import Derived.Lib.Walk
import Derived.Lib.SliceRun
import Derived.Lib.AppendZerosOnto
import Derived.OwnWalk
set_option linter.unusedVariables false
set_option linter.unusedSimpArgs false
set_option maxRecDepth 100000
set_option maxHeartbeats 64000000
open Array renaming size_append→qN,getElem?_push_size→qR
open ByteArray renaming empty→oF
open List renaming replicate→oE,getElem?_eq_getElem→oG,getElem_mem→oI,getElem?_append_left→oL,take_succ_eq_append_getElem→oN,not_mem_nil→oO,mem_cons→oR,getElem?_append_right→oS,append_nil→oU,length_map→oW,take_length→oY,append_assoc→oh,take_of_length_le→pA,drop_zero→pC,set_append_right→pt
open Nat renaming le_refl→oJ,add_mul→ov,add_sub_cancel'→qb
section
namespace Go.AM
open Go
section
variable {P:Program} {T:Ty}
theorem wcall_frzA{f:FuncId}{args:List V}{H G:List B}{k e z:Nat}{xs cs cs':List V}{fz:Bool}(h:aU P f args H fun r H'=>r = .agg cs∧H'=G)(hk:G[k]?=some (.buf e z xs fz))(hr:dM (.buf k 0 xs.length xs.length) (.lst z false xs) cs cs'):
  aL P (.fn f []) args H fun r H'=>r = .agg cs'∧H'=G.set k (.buf e z xs true):=by
 simp only[aL,oU];refine⟨h.1,fun s vals hA hg hsz hrel=>(h.2 s vals hA hg hsz hrel).mono fun e' w' ⟨u,s',r,a1,a2,a3,a4,a5,a6,a7⟩=>?_⟩;subst a6;rw[←a7]at hk;obtain⟨p1,p2,_⟩:=fE a3 hk;have hl:=hr.len
 cases a5 with
 | agg _ us h1 h2 h3 =>
  refine⟨.agg us,s'.frz k (.buf e z xs true),.agg cs',a1,a2,p1,a4.trans p2,.agg cs' us (by omega) (fun c hc=>?_) (fun i c v hc hv=>?_),rfl,by rw[←a7];rfl⟩
  ·obtain⟨i,hi⟩:=List.mem_iff_getElem?.1 hc;have hx:cs[i]?=some (cs[i]'(by have:=aB hi;omega)):=oG _
   rcases hr.at_ i _ c hx hi with e | ⟨_,e⟩
   ·rw[e];exact h2 _ (oI _)
   ·rw[e];rfl
  ·have hx:cs[i]?=some (cs[i]'(by have:=aB hc;omega)):=oG _;exact gA a3 hk (h3 i _ v hx hv) (hr.at_ i _ c hx hc)
end
end Go.AM
namespace Go.Proofs.YtdnhplencamncaaGreatDoor
open Go Go.AM
theorem eh(H X:List B):(H++X)[H.length]?=X[0]?:=by rw[oS (oJ _)];simp
theorem fP(H X:List B):(H++X)[H.length+1]?=X[1]?:=by rw[oS (by omega)];congr 1;omega
theorem getX2(H X:List B):(H++X)[H.length+2]?=X[2]?:=by rw[oS (by omega)];congr 1;omega
theorem gP(H X:List B)(Y:B):(H++X).set H.length Y=H++X.set 0 Y:=by rw[pt _ _ (oJ _)];simp
theorem gO(H X:List B)(Y:B):(H++X).set (H.length+1) Y=H++X.set 1 Y:=by rw[pt _ _ (by omega)];congr 2;omega
theorem du{α:Type}{l:List α}{i:Nat}{a:α}(h:l[i]?=some a):∀q,l[i]'q=a:=fun q=>by rw[oG q]at h;exact Option.some.inj h
theorem dw(H X:List B)(A:B):∀h,(H++A::X)[H.length]'h=A:=du (by rw[eh];rfl)
theorem dv(H X:List B)(A A1:B):∀h,(H++A::A1::X)[H.length+1]'h=A1:=du (by rw[fP];rfl)
theorem copied_p(r:Rw)(hl:r.vals.length≤1000000):aJ Tryz.prog 34 [aC r] fun x=>x=aC r:=by
 have cc:=clone_V r.vals false hl;simp only[LV]at cc;refine sPx Tryz.func34 rfl rfl ?_;simp -dsimp[Tryz.f34,oE,aC,LV];refine aI (aX tok mixed [6] [] [(.lst 3 false (r.vals.map aF),[])] (by kernel_rfl) fun C K hC hK=>?_);simp -implicitDefEqProofs [];refine⟨hC _ _ _ _ (aT cc (by simp)),hK _ _ ?_⟩;simp -dsimp[];rfl
def cpB(L:Nat)(id:Int)(a:V)(vs:List Vl)(fz:Bool):List B:=[B.cells [.int .i64 id,a],B.cells [.int .i64 id,.buf (L+2) 0 vs.length vs.length],B.buf 79 3 (vs.map aF) fz]
theorem copied_gL(H:List B)(id:Int)(vs:List Vl)(hc:aL Tryz.prog (.fn 75 []) [(.lst 3 false (vs.map aF))] (H++[B.cells [.int .i64 id,(.lst 3 false (vs.map aF))],B.cells [.int .i64 0,.nilS]]) fun r H'=>r = .buf (H.length+2) 0 vs.length vs.length∧H'=H++[B.cells [.int .i64 id,(.lst 3 false (vs.map aF))],B.cells [.int .i64 0,.nilS],B.buf 79 3 (vs.map aF) false]):
  aU Tryz.prog 34 [.agg [.int .i64 id,(.lst 3 false (vs.map aF))]] H fun x H'=>x = .agg [.int .i64 id,.buf (H.length+2) 0 vs.length vs.length]∧H'=H++cpB H.length id (.lst 3 false (vs.map aF)) vs false:=by
 refine aE tok Tryz.func34 rfl rfl ?_;refine wx ?_;simp -dsimp[Tryz.f34,oE,dw,dv,eh,fP,gP,gO];refine aI (aX tok mixed [4,6] [(1,[1])] [(.buf (H.length+2) 0 vs.length vs.length,H++[B.cells [.int .i64 id,(.lst 3 false (vs.map aF))],B.cells [.int .i64 0,.nilS],B.buf 79 3 (vs.map aF) false])] (by kernel_rfl) fun C K hC hK=>?_);simp -implicitDefEqProofs [dw,dv,eh,fP,gP,gO];refine⟨hC _ _ _ _ hc,hK _ _ ?_⟩;simp -dsimp[dw,dv,eh,fP,gP,gO];simp[cpB]
theorem copied_gB(H:List B)(id:Int)(k:Nat)(vs:List Vl)(hc:aL Tryz.prog (.fn 75 []) [(.buf k 0 vs.length vs.length)] (H++[B.cells [.int .i64 id,(.buf k 0 vs.length vs.length)],B.cells [.int .i64 0,.nilS]]) fun r H'=>r = .buf (H.length+2) 0 vs.length vs.length∧H'=H++[B.cells [.int .i64 id,(.buf k 0 vs.length vs.length)],B.cells [.int .i64 0,.nilS],B.buf 79 3 (vs.map aF) false]):
  aU Tryz.prog 34 [.agg [.int .i64 id,(.buf k 0 vs.length vs.length)]] H fun x H'=>x = .agg [.int .i64 id,.buf (H.length+2) 0 vs.length vs.length]∧H'=H++cpB H.length id (.buf k 0 vs.length vs.length) vs false:=by
 refine aE tok Tryz.func34 rfl rfl ?_;refine wx ?_;simp -dsimp[Tryz.f34,oE,dw,dv,eh,fP,gP,gO];refine aI (aX tok mixed [4,6] [(1,[1])] [(.buf (H.length+2) 0 vs.length vs.length,H++[B.cells [.int .i64 id,(.buf k 0 vs.length vs.length)],B.cells [.int .i64 0,.nilS],B.buf 79 3 (vs.map aF) false])] (by kernel_rfl) fun C K hC hK=>?_);simp -implicitDefEqProofs [dw,dv,eh,fP,gP,gO];refine⟨hC _ _ _ _ hc,hK _ _ ?_⟩;simp -dsimp[dw,dv,eh,fP,gP,gO];simp[cpB]
theorem nj(H:List B)(vs:List Vl)(hl:vs.length≤1000000):aL Tryz.prog (.fn 75 []) [.lst 3 false (vs.map aF)] H fun r H'=>r = .buf H.length 0 vs.length vs.length∧H'=H++[B.buf 79 3 (vs.map aF) false] :=
 (fb (H:=H) (cloneO_V vs false hl) (by simp)).mono (by
  rintro r H' ⟨e,z,xs,rfl,rfl,_,rfl,rfl,rfl⟩
  simp)
theorem clone_lent(H:List B)(k:Nat)(vs:List Vl){fz:Bool}(hk:H[k]?=some (.buf 79 3 (vs.map aF) fz))(hl:vs.length≤1000000):aL Tryz.prog (.fn 75 []) [.buf k 0 vs.length vs.length] H fun r H'=>r = .buf H.length 0 vs.length vs.length∧H'=H++[B.buf 79 3 (vs.map aF) false] :=
 (callOX (H:=H) (args:=[.buf k 0 vs.length vs.length]) (cloneO_V vs false hl) rfl (fun i a a' ha ha'=>by
  match i with
  | 0 =>
   simp at ha ha';subst ha;subst ha';have:=Exp.buf (H:=H) k 0 vs.length 79 3 (vs.map aF) fz hk (by simp) (fun x hx=>by obtain⟨y,_,rfl⟩:=List.mem_map.1 hx;simp);rw[oW,pC,pA (by simp)]at this;exact this
  | i+1=>simp at ha) (fun e z xs hx x hm c hcc=>by
   obtain⟨_,_,rfl⟩:=hx;obtain⟨y,_,rfl⟩:=List.mem_map.1 hm;simp only[aF,V.cells,oR,oO,or_false]at hcc
   rcases hcc with rfl | rfl | rfl
   ·exact .int _ _
   ·exact .int _ _
   ·exact .str _)).mono (by
  rintro r H' ⟨e,z,xs,rfl,rfl,_,rfl,rfl,rfl⟩
  simp)
theorem copied_o(H:List B)(r:Rw)(hl:r.vals.length≤1000000):aU Tryz.prog 34 [aC r] H fun x H'=>x = .agg [.int .i64 r.id,.buf (H.length+2) 0 r.vals.length r.vals.length]∧H'=H++cpB H.length r.id (LV false r.vals) r.vals false :=
 copied_gL H r.id r.vals (by
  have:=nj (H++[B.cells [.int .i64 r.id,LV false r.vals],B.cells [.int .i64 0,.nilS]]) r.vals hl
  simpa[oh,LV] using this)
theorem copied_f(H:List B)(k:Nat)(id:Int)(vs:List Vl)(hk:H[k]?=some (.buf 79 3 (vs.map aF) false))(hl:vs.length≤1000000):aL Tryz.prog (.fn 34 []) [.agg [.int .i64 id,.buf k 0 vs.length vs.length]] H fun x H'=>x = .agg [.int .i64 id,.lst 3 false (vs.map aF)]∧H'=H++cpB H.length id (.buf k 0 vs.length vs.length) vs true:=by
 have hkl:=aB hk
 have h0:=copied_gB H id k vs (by
  have:=clone_lent (H++[B.cells [.int .i64 id,.buf k 0 vs.length vs.length],B.cells [.int .i64 0,.nilS]]) k vs (fz:=false) (by rw[oL hkl];exact hk) hl
  simpa[oh] using this)
 refine(wcall_frzA (k:=H.length+2) (e:=79) (z:=3) (xs:=vs.map aF) (fz:=false) (cs':=[.int .i64 id,.lst 3 false (vs.map aF)]) h0 (by rw[getX2];rfl) (by simp)).mono ?_;rintro r H' ⟨rfl,rfl⟩;refine⟨rfl,?_⟩;rw[pt _ _ (by omega)];simp[cpB]
end Go.Proofs.YtdnhplencamncaaGreatDoor
end
namespace Go.Proofs.YtdnhplencamncaaGreatDoor
section
open Go Go.AM
theorem row_s(r:Rw)(hl:r.vals.length≤1000000):aJ Tryz.prog 63 [aC r] fun x=>x=aC r:=by
 have cc:=clone_V r.vals false hl;simp only[LV]at cc;refine sPx Tryz.func63 rfl rfl ?_;simp -dsimp[Tryz.f63,oE,aC,LV];refine aI (aX tok mixed [6] [] [(.lst 3 false (r.vals.map aF),[])] (by kernel_rfl) fun C K hC hK=>?_);simp -implicitDefEqProofs [];refine⟨hC _ _ _ _ (aT cc (by simp)),hK _ _ ?_⟩;simp -dsimp[];rfl
theorem na(r:Rw)(hl:r.vals.length≤1000000):aJ Tryz.prog 192 [aC r] fun x=>x=aC r:=by
 have cc:=clone_V r.vals false hl;simp only[LV]at cc;refine sPx Tryz.func192 rfl rfl ?_;simp -dsimp[Tryz.f192,oE,aC,LV];refine aI (aX tok mixed [6] [] [(.lst 3 false (r.vals.map aF),[])] (by kernel_rfl) fun C K hC hK=>?_);simp -implicitDefEqProofs [];refine⟨hC _ _ _ _ (aT cc (by simp)),hK _ _ ?_⟩;simp -dsimp[];rfl
theorem fW(t:Tb)(f g:Bool)(ha:t.attrs.length≤1000000)(hr:t.rows.length≤1000000)(hv:∀r∈t.rows,r.vals.length≤1000000):aJ Tryz.prog 39 [aD f g t] fun x=>x=aD false false t:=by
 have cc:=jz t.attrs f ha;simp only[LS]at cc;refine sPx Tryz.func39 rfl rfl ?_;simp -dsimp[Tryz.f39,oE,aD,LS,LR];refine aI (aX tok mixed [6,7] [(0,[1]),(1,[1]),(2,[1]),(3,[1]),(4,[1]),(5,[1])] [(.lst 1 false (t.attrs.map V.str),[])] (by kernel_rfl) fun C K hC hK=>?_);simp -implicitDefEqProofs [];refine⟨⟨hC _ _ _ _ (aT cc (by simp)),hC _ _ _ _ (aT cc (by simp))⟩,hK _ _ ?_⟩;simp -dsimp[];refine aI (dL 53 2 [] 2 [2] rfl (cD _ _) (by simp) (W_loopM 27 0x7ff8c20 (by simp[mB]<;>rfl) (σ:=Nat) (fun i=>i≤t.rows.length) (fun i=>t.rows.length-i) (fun i=>[(15,.int .i64 i)]) (fun i=>[B.cells [.str t.name,.lst 1 f (t.attrs.map V.str),.lst 2 g (t.rows.map aC)],B.cells [.str oF,.nilS,.nilS],B.cells [.str t.name,.lst 1 false (t.attrs.map V.str),.buf 3 0 i i],B.buf 53 2 ((t.rows.take i).map aC) false]) 0 (by omega) (by simp) (by simp) (by simp) ?_));intro i hi N Q hN hQ
 have hli:(t.rows.take i).length=i:=by simp;omega
 by_cases hb:i<t.rows.length
 ·have hst:t.rows.take (i+1)=t.rows.take i++[t.rows[i]]:=oN hb;have hc:=row_s t.rows[i] (hv _ (oI hb));obtain⟨l,hl⟩:∃l,l=t.rows.take i:=⟨_,rfl⟩;rw[←hl]at hst hli ⊢;refine wx ?_;simp -dsimp[hb];refine aI (aX tok mixed [5,7] [] [(aC t.rows[i],[])] (by kernel_rfl) fun C K hC hK=>?_);simp -implicitDefEqProofs [hb,aC,LV,hli,nt i (by omega)];refine⟨hC _ _ _ _ (aT hc (by simp)),hK _ _ ?_⟩;simp -dsimp[aP i (by omega)];refine hN (i+1) _ _ (by omega) (by omega) ?_ ⟨[B.cells [.int .i64 t.rows[i].id,.lst 3 false (t.rows[i].vals.map aF)]],?_⟩ ?_ ?_<;>simp[or_imp,forall_and,L1,aQ,hst,aC,LV]
 ·obtain rfl:i=t.rows.length:=by omega
  rw[oY];refine eG 3 [] 2 [2] rfl rfl (by simp) (by simp) ?_;refine wx ?_;simp -dsimp[hb];refine hQ _ _ _ ?_;simp -dsimp[];simp only[aD,LS,LR]
end
end Go.Proofs.YtdnhplencamncaaGreatDoor
namespace Go.Proofs.YtdnhplencamncaaGreatDoor
section
open Go Go.AM Go.RowKit Go.Lib
theorem infoG_C:(Tryz.prog.info? 172).map (fun i=>(i.zero,i.size,i.bytes))=some (some (.agg #[.int .i64 0,.int .i64 0]),2,16):=by kernel_rfl
theorem growPos_C(n:Nat)(w:World)(h0:0<n)(hn:n≤1000000):Calls Tryz.prog 219 #[.slice none 0 0,.int .i64 n] w fun e w' =>
   e = .returned (.slice (some ⟨w.heap.size,0,none⟩) 0 (grownCap w n 0 172))∧w'=w.drew.alloc (.cells (Builtin.zeroCells (.agg #[.int .i64 0,.int .i64 0]:Value).cells n++Builtin.zeroCells (.agg #[.int .i64 0,.int .i64 0]:Value).cells (grownCap w n 0 172-n)) 172):=by
 obtain⟨i0,hi0,hz0,hs0,hby⟩:=info_parts infoG_C
 have h1:¬((n:Int)<0):=by omega
 have hz25:∀w,(Go.sizeOf 172).run Tryz.prog w = .ok 2 w:=fun w=>by simp[Go.sizeOf,typeInfo,hi0,hs0]
 have hold:(Builtin.firstCells i0.size 0 (.slice none 0 0)).run Tryz.prog w.drew = .ok ([]:List Value).toArray w.drew:=run_firstCells_none w.drew i0.size 0 0 0
 have hbig:(0+n)*i0.bytes≤140737488355328:=by rw[hby];omega
 have hrz:∀ty,(Builtin.append_ #[113,3] ty #[.slice none 0 0,.int .i64 (n:Int)]).run Tryz.prog w =
   .ok (.slice (some ⟨w.heap.size,0,none⟩) n (grownCap w n 0 172)) (w.drew.alloc (.cells (Builtin.zeroCells (.agg #[.int .i64 0,.int .i64 0]:Value).cells n++Builtin.zeroCells (.agg #[.int .i64 0,.int .i64 0]:Value).cells (grownCap w n 0 172-n)) 172)):=fun ty=>by
  have h:=Lib.run_append_grow_zeros (P:=Tryz.prog) w 113 3 ty 172 i0 _ .i64 .i64 Tryz.underlying113 Tryz.underlying3 hi0 hz0 none 0 0 [] hold n h0 (by omega) (by omega) (by omega)
   (by rw[hby];omega)
   (growslice_fits (by omega) hbig)
  simpa using h
 have hGn:n≤grownCap w n 0 172:=grownCap_ge w _ _ _;obtain⟨G,hG⟩:∃G,G=grownCap w n 0 172:=⟨_,rfl⟩;rw[←hG]at hrz hGn ⊢
 have hG63:G≤9223372036854775807:=by
  have:=grownCap_le_maxLen w n 0 172 (by unfold maxLen;omega);rw[←hG]at this;unfold maxLen at this;omega
 have h2:RowKit.wrap64 ((0:Int)-0)=0:=by unfold RowKit.wrap64;omega
 have h3:RowKit.wrap64 ((n:Int)-0)=(n:Int):=by unfold RowKit.wrap64;omega
 have h4:(n:Int)> 0:=by omega
 clear hold hG hbig
 go_enter Tryz.func219,Tryz.ntmps219
 go_wp2_with (at_builtin;refine Lib.wpList_append_run _ rfl _ _ _ _ rfl _ _ rfl rfl _ _ (hrz _) ?_)
 all_goals (go_ret;exact⟨rfl,rfl⟩)
theorem growNil_C(w:World):Calls Tryz.prog 219 #[.slice none 0 0,.int .i64 0] w fun e w'=>e = .returned (.slice none 0 0)∧w'=w:=by
 go_enter Tryz.func219,Tryz.ntmps219
 go_wp2
 go_ret
 exact⟨rfl,rfl⟩
theorem grow_con_C(n:Nat)(hn:n≤1000000):dr Tryz.prog 219 [.nilS,.int .i64 n] fun e z ys=>e=172∧z=2∧ys=[]:=by
 refine fY ⟨Tryz.f219,Tryz.func219,rfl,rfl⟩ (fun F w vals hsz hrel=>?_)
 obtain⟨u0,u1,rfl⟩:∃u0 u1,vals = #[u0,u1]:=by
  obtain⟨l⟩:=vals
  match l,hsz with
  | [a,b],_=>exact⟨a,b,rfl⟩
 have r0:=hrel 0 _ u0 rfl rfl;have r1:=hrel 1 _ u1 rfl rfl;cases r0;cases r1;by_cases h0:n=0
 ·subst h0
  exact(growNil_C w).mono fun e w' ⟨h1,h2⟩=>⟨_,h1,by subst h2;exact Below.refl _ _,.inl rfl⟩
 ·refine(growPos_C n w (by omega) hn).mono fun e w' ⟨h1,h2⟩=>?_
  subst h2;have hge:=grownCap_ge w n 0 172;refine⟨_,h1,((Below.refl _ _).drew).alloc (oJ _) _,.inr ⟨w.heap.size,grownCap w n 0 172,Builtin.zeroCells (.agg #[.int .i64 0,.int .i64 0]:Value).cells n++Builtin.zeroCells (.agg #[.int .i64 0,.int .i64 0]:Value).cells (grownCap w n 0 172-n),rfl,oJ _,?_,by omega,grownCap_le_maxLen w n 0 172 (by unfold maxLen;omega),?_⟩⟩
  ·exact qR (xs:=w.heap)
  ·rw[qN,size_zeroCells,size_zeroCells,←ov,qb hge];rfl
theorem grow_nil_C:aJ Tryz.prog 219 [.nilS,.int .i64 0] fun r=>r = .nilS:=by
 refine⟨⟨Tryz.f219,Tryz.func219,rfl,rfl⟩,fun F w vals hZ hF hsz hrel=>?_⟩
 obtain⟨u0,u1,rfl⟩:∃u0 u1,vals = #[u0,u1]:=by
  obtain⟨l⟩:=vals
  match l,hsz with
  | [a,b],_=>exact⟨a,b,rfl⟩
 have r0:=hrel 0 _ u0 rfl rfl;have r1:=hrel 1 _ u1 rfl rfl;cases r0;cases r1
 refine(growNil_C w).mono fun e w' ⟨h1,h2⟩=>⟨_,_,h1,.nilS,.nilS,by subst h2;exact Below.refl _ _,rfl⟩
end
end Go.Proofs.YtdnhplencamncaaGreatDoor
