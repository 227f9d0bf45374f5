/- JU8: own texts of this seat, joined and shortened by pack.py: Z7, Z8, X10, X11, D3, D0, D1, D2, D5, D7, D9, D6, D8, D4, D10, P2, P8, P5, Op4, D11. -/
import Derived.Test.YteijbpppalhihaaGreatJU7
import Derived.OpenShut
set_option linter.unusedVariables false
set_option linter.unusedSimpArgs false
set_option maxRecDepth 100000
set_option maxHeartbeats 64000000
namespace Go.Proofs.YteijbpppalhihaaGreat
section
open Go Go.AM
theorem getX0(H X:List B):(H++X)[H.length]?=X[0]?:=by rw[List.getElem?_append_right (Nat.le_refl _)];simp
theorem getX1(H X:List B):(H++X)[H.length+1]?=X[1]?:=by rw[List.getElem?_append_right (by omega)];congr 1;omega
theorem getX2(H X:List B):(H++X)[H.length+2]?=X[2]?:=by rw[List.getElem?_append_right (by omega)];congr 1;omega
theorem setX0(H X:List B)(Y:B):(H++X).set H.length Y=H++X.set 0 Y:=by rw[List.set_append_right _ _ (Nat.le_refl _)];simp
theorem setX1(H X:List B)(Y:B):(H++X).set (H.length+1) Y=H++X.set 1 Y:=by rw[List.set_append_right _ _ (by omega)];congr 2;omega
theorem getX0'(H X:List B)(A:B):∀h,(H++A::X)[H.length]'h=A:=eH (by rw[getX0];rfl)
theorem getX1'(H X:List B)(A A1:B):∀h,(H++A::A1::X)[H.length+1]'h=A1:=eH (by rw[getX1];rfl)
theorem getX2'(H X:List B)(A A1 A2:B):∀h,(H++A::A1::A2::X)[H.length+2]'h=A2:=eH (by rw[getX2];rfl)
def cpT(L:Nat)(r:Rw):List B:=[B.cells [.int .i64 r.id,.lst 3 false (r.vals.map am)],B.cells [.int .i64 r.id,.buf (L+2) 0 r.vals.length r.vals.length],B.buf 68 3 (r.vals.map am) false]
theorem cp_h(H:List B)(r:Rw)(h0:r.vals≠[])(hl:r.vals.length≤1000000):az Tryz.prog 96 [aN r] H fun x H'=>x = .agg [.int .i64 r.id,.buf (H.length+2) 0 r.vals.length r.vals.length]∧H'=H++cpT H.length r:=by
 refine aD tok Tryz.func96 rfl rfl ?_;refine wx ?_;simp -implicitDefEqProofs -dsimp[Tryz.f96,List.replicate,aN,LV];refine aK (ai tok mixed [5,7] [(0,[1]),(1,[1])] [] (by kernel_rfl) fun C K hC hK=>?_);simp -implicitDefEqProofs [h0,cap32l r.vals.length (by omega),getX0',getX1',getX2',setX0,setX1];refine hK _ _ ?_;simp -implicitDefEqProofs -dsimp[getX0',getX1',getX2',setX0,setX1];simp[cpT]
structure TbH (H:List B) (k:Nat) (bk:Nat→Nat) (rs:List Rw):Prop where
 hk:H[k]?=some (.buf 66 2 ((List.range rs.length).map fun j=>.agg [.int .i64 (rwG rs j).id,.buf (bk j) 0 (rwG rs j).vals.length (rwG rs j).vals.length]) false)
 row:∀j,j<rs.length→H[bk j]?=some (.buf 68 3 ((rwG rs j).vals.map am) false)
 inj:∀i j,i<rs.length→j<rs.length→bk i=bk j→i=j
 ne:∀j,j<rs.length→bk j≠k
theorem er{rs:List Rw}{i:Nat}(h:i<rs.length):rwG rs i=rs[i]:=by simp[rwG,h]
theorem TbH.exp{H:List B}{k:Nat}{bk:Nat→Nat}{rs:List Rw}(h:TbH H k bk rs):ExpX H (.buf k 0 rs.length rs.length) (LR false rs):=by
 have:=ExpX.bufx (H:=H) k _ _ _ (rs.map aN) false h.hk (by simp) (fun i c d hc hd=>by
  by_cases hi:i<rs.length
  ·simp[hi]at hc hd;subst hc;subst hd;rw[←er hi];have hr:=h.row i hi;exact ExpX.agg2 (.pure _ (by simp)) (iI hr (by simp) (by simp))
  ·rw[List.getElem?_eq_none (by simp;omega)]at hc;cases hc)
 simp only[List.length_map,List.length_range]at this;exact this
def setV(r:Rw)(a:Nat)(v:Vl):Rw:=⟨r.id,r.vals.set a v⟩
theorem TbH.set{H:List B}{k:Nat}{bk:Nat→Nat}{rs:List Rw}(h:TbH H k bk rs){i a:Nat}(hi:i<rs.length)(v:Vl):TbH (H.set (bk i) (.buf 68 3 (((rwG rs i).vals.map am).set a (am v)) false)) k bk (rs.set i (setV (rwG rs i) a v)):=by
 have hg:∀j,j<rs.length→rwG (rs.set i (setV (rwG rs i) a v)) j=if j=i then setV (rwG rs i) a v else rwG rs j:=fun j hj=>by
  rw[er (by rw[List.length_set];exact hj),List.getElem_set];by_cases hji:j=i
  ·subst hji;simp
  ·rw[if_neg (Ne.symm hji),if_neg hji,er hj]
 refine⟨?_,fun j hj=>?_,fun i' j hi' hj=>h.inj i' j (by simpa using hi') (by simpa using hj),fun j hj=>h.ne j (by simpa using hj)⟩
 ·rw[List.getElem?_set_ne (h.ne i hi),h.hk,List.length_set];congr 2
  refine List.map_congr_left fun j hj=>?_
  have hj:=List.mem_range.1 hj;rw[hg j hj];split
  ·rename_i e;subst e;simp[setV]
  ·rfl
 ·rw[List.length_set]at hj;rw[hg j hj];split
  ·rename_i e;subst e;rw[List.getElem?_set_self (aE (h.row j hj))];simp[setV,List.map_set]
  ·rename_i e;rw[List.getElem?_set_ne (fun e2=>e (h.inj i j hi hj e2).symm),h.row j hj]
theorem TbH.app{H:List B}{k:Nat}{bk:Nat→Nat}{rs:List Rw}(h:TbH H k bk rs)(G:List B):TbH (H++G) k bk rs :=
 ⟨by rw[List.getElem?_append_left (aE h.hk)];exact h.hk,fun j hj=>by rw[List.getElem?_append_left (aE (h.row j hj))];exact h.row j hj,h.inj,h.ne⟩
theorem TbH.other{H:List B}{k:Nat}{bk:Nat→Nat}{rs:List Rw}(h:TbH H k bk rs){x:Nat}(hx:x≠k)(hx2:∀j,j<rs.length→x≠bk j)(Y:B):TbH (H.set x Y) k bk rs :=
 ⟨by rw[List.getElem?_set_ne hx];exact h.hk,fun j hj=>by rw[List.getElem?_set_ne (hx2 j hj)];exact h.row j hj,h.inj,h.ne⟩
def elE(rs:List Rw)(i:Nat):List V:=(List.range i).map fun j=>.agg [.int .i64 (rwG rs j).id,.buf (10+3*j) 0 (rwG rs j).vals.length (rwG rs j).vals.length]
def cpG(rs:List Rw)(i:Nat):List B:=(List.range i).flatMap fun j=>cpT (8+3*j) (rwG rs j)
theorem kH(rs:List Rw)(i:Nat):(cpG rs i).length=3*i:=by
 induction i with
 | zero=>rfl
 | succ i ih=>simp only[cpG,List.range_succ,List.flatMap_append,List.length_append]at ih ⊢;rw[ih];simp[cpT];omega
theorem po(rs:List Rw)(i:Nat):cpG rs (i+1)=cpG rs i++cpT (8+3*i) (rwG rs i):=by simp[cpG,List.range_succ]
theorem elE_succ(rs:List Rw)(i:Nat):elE rs (i+1)=elE rs i++[.agg [.int .i64 (rwG rs i).id,.buf (10+3*i) 0 (rwG rs i).vals.length (rwG rs i).vals.length]]:=by simp[elE,List.range_succ]
theorem elE_len(rs:List Rw)(i:Nat):(elE rs i).length=i:=by simp[elE]
theorem cpG_at(rs:List Rw){i j:Nat}(h:j<i):(cpG rs i)[3*j+2]?=some (.buf 68 3 ((rwG rs j).vals.map am) false):=by
 induction i with
 | zero=>omega
 | succ i ih =>
  rw[po]
  rcases Nat.lt_or_ge j i with e | e
  ·rw[List.getElem?_append_left (by rw[kH];omega)];exact ih e
  ·have:j=i:=by omega
   subst this;rw[List.getElem?_append_right (by rw[kH];omega),kH,show 3*j+2-3*j=2 by omega];rfl
theorem cpG_rb(rs:List Rw)(i:Nat):∀bl∈cpG rs i,rbB (8+3*i) bl:=by
 induction i with
 | zero=>intro bl h;cases h
 | succ i ih =>
  intro bl h;rw[po]at h
  rcases List.mem_append.1 h with h | h
  ·exact ej (by omega) (ih bl h)
  ·unfold cpT at h;simp only[List.mem_cons,List.not_mem_nil,or_false]at h
   rcases h with rfl | rfl | rfl
   ·simp
   ·simp;omega
   ·simp
theorem elE_rb(rs:List Rw)(e i:Nat)(fz:Bool):rbB (8+3*i) (.buf e 2 (elE rs i) fz):=by
 intro x hx c hc;obtain⟨j,hj,rfl⟩:=List.mem_map.1 hx;have hj:=List.mem_range.1 hj;simp[V.cells]at hc
 rcases hc with rfl | rfl
 ·trivial
 ·show 10+3*j<8+3*i;omega
theorem wh_rb{t:Tb}{rs:List Rw}{f g:Bool}{c0 c1 c2 c3:B}(hb0:∀k,rbB k c0)(hb1:∀k,rbB k c1)(hb2:∀k,rbB k c2)(hb3:∀k,rbB k c3)(i:Nat):∀bl∈c0::c1::c2::c3::B.cells [.str t.name,.lst 1 f (t.attrs.map V.str),.lst 2 g (t.rows.map aN)]::B.cells [.str ByteArray.empty,.nilS,.nilS]::B.cells [.str t.name,.lst 1 false (t.attrs.map V.str),.buf 7 0 i i]::B.buf 66 2 (elE rs i) false::cpG rs i,rbB (c0::c1::c2::c3::B.cells [.str t.name,.lst 1 f (t.attrs.map V.str),.lst 2 g (t.rows.map aN)]::B.cells [.str ByteArray.empty,.nilS,.nilS]::B.cells [.str t.name,.lst 1 false (t.attrs.map V.str),.buf 7 0 i i]::B.buf 66 2 (elE rs i) false::cpG rs i).length bl:=by
 have hlen:(c0::c1::c2::c3::B.cells [.str t.name,.lst 1 f (t.attrs.map V.str),.lst 2 g (t.rows.map aN)]::B.cells [.str ByteArray.empty,.nilS,.nilS]::B.cells [.str t.name,.lst 1 false (t.attrs.map V.str),.buf 7 0 i i]::B.buf 66 2 (elE rs i) false::cpG rs i).length=8+3*i:=by simp[kH];omega
 rw[hlen];intro bl h
 rcases List.mem_cons.1 h with rfl | h
 ·exact hb0 _
 rcases List.mem_cons.1 h with rfl | h
 ·exact hb1 _
 rcases List.mem_cons.1 h with rfl | h
 ·exact hb2 _
 rcases List.mem_cons.1 h with rfl | h
 ·exact hb3 _
 rcases List.mem_cons.1 h with rfl | h
 ·simp
 rcases List.mem_cons.1 h with rfl | h
 ·simp
 rcases List.mem_cons.1 h with rfl | h
 ·simp;omega
 rcases List.mem_cons.1 h with rfl | h
 ·exact elE_rb rs _ i _
 ·exact cpG_rb rs i bl h
theorem with_h(t:Tb)(rs:List Rw)(f g h:Bool)(ha:t.attrs.length≤1000000)(hne:t.attrs≠[])(hr:rs.length≤1000000)(hv:∀r∈rs,r.vals.length≤1000000∧r.vals≠[])(c0 c1 c2 c3:B)(hb0:∀k,rbB k c0)(hb1:∀k,rbB k c1)(hb2:∀k,rbB k c2)(hb3:∀k,rbB k c3):
  az Tryz.prog 57 [aF f g t,LR h rs] [c0,c1,c2,c3] fun x H'=>x = .agg [.str t.name,.lst 1 false (t.attrs.map V.str),.buf 7 0 rs.length rs.length]∧∃A A1 A2,H'=c0::c1::c2::c3::A::A1::A2::B.buf 66 2 (elE rs rs.length) false::cpG rs rs.length∧(∀k,7<k→rbB k A∧rbB k A1∧rbB k A2):=by
 refine aD (bV tok (fun t=>t == 29)) Tryz.func57 rfl rfl ?_;refine W_x (bV tok (fun t=>t == 29)) mixed ?_;simp -implicitDefEqProofs -dsimp[Tryz.f57,List.replicate,aF,LS,LR,cx];refine aK (W_drawP (bV tok (fun t=>t == 29)) mixed [7,8] [(1,[1]),(2,[1]),(4,[1]),(5,[1])] [] (by kernel_rfl) fun C K hC hK=>?_);simp -implicitDefEqProofs [hne,cap16l t.attrs.length (by omega),cx];refine hK _ _ ?_;simp -implicitDefEqProofs -dsimp[cx];refine aK (W_lf 6 _ [.str t.name,.lst 1 false (t.attrs.map V.str),.nilS] rfl (pK _) (by simp[LfL,lfB]) (co 66 2 [] 6 [2] rfl (fI _ _) (by simp) (W_loopM 30 [6,9,11,12,13,14,15,16,17,18,19,20,21,22,23,24,25,26,27,28,29] (by simp[mB]<;>rfl) (σ:=Nat) (fun i=>i≤rs.length) (fun i=>rs.length-i) (fun i=>[(6,.int .i64 i)]) (fun i=>c0::c1::c2::c3::B.cells [.str t.name,.lst 1 f (t.attrs.map V.str),.lst 2 g (t.rows.map aN)]::B.cells [.str ByteArray.empty,.nilS,.nilS]::B.cells [.str t.name,.lst 1 false (t.attrs.map V.str),.buf 7 0 i i]::B.buf 66 2 (elE rs i) false::cpG rs i) 0 (by omega) (by simp[hne]) (by simp[hne,elE,cpG]) (by simp) ?_)));intro i hi N Q hN hQ;have hll:=elE_len rs i;have hgl:=kH rs i;by_cases hb:i<rs.length
 ·obtain⟨h1,h2⟩:=hv rs[i] (List.getElem_mem hb);have hgi:=er hb;obtain⟨r,hre⟩:∃r,r=rs[i]:=⟨_,rfl⟩;rw[←hre]at h1 h2 hgi;have hre':=hre.symm;have hc:=cp_h (c0::c1::c2::c3::B.cells [.str t.name,.lst 1 f (t.attrs.map V.str),.lst 2 g (t.rows.map aN)]::B.cells [.str ByteArray.empty,.nilS,.nilS]::B.cells [.str t.name,.lst 1 false (t.attrs.map V.str),.buf 7 0 i i]::B.buf 66 2 (elE rs i) false::cpG rs i) r h2 h1;have hes:=elE_succ rs i;have hgs:=po rs i;rw[hgi]at hes hgs
  have hlen:(c0::c1::c2::c3::B.cells [.str t.name,.lst 1 f (t.attrs.map V.str),.lst 2 g (t.rows.map aN)]::B.cells [.str ByteArray.empty,.nilS,.nilS]::B.cells [.str t.name,.lst 1 false (t.attrs.map V.str),.buf 7 0 i i]::B.buf 66 2 (elE rs i) false::cpG rs i).length=8+3*i:=by simp[hgl];omega
  rw[hlen,show 8+3*i+2=10+3*i by omega]at hc;simp only[aN,LV,List.cons_append,←hgs]at hc;have hrb:=wh_rb (t:=t) (rs:=rs) (f:=f) (g:=g) hb0 hb1 hb2 hb3 (i+1);refine W_x (bV tok (fun t=>t == 29)) mixed ?_;simp -implicitDefEqProofs -dsimp[hb,cx];refine aK (ai (bV tok (fun t=>t == 29)) mixed [6,8,10] [(1,[1])] [(.agg [.int .i64 r.id,.buf (10+3*i) 0 r.vals.length r.vals.length],c0::c1::c2::c3::B.cells [.str t.name,.lst 1 f (t.attrs.map V.str),.lst 2 g (t.rows.map aN)]::B.cells [.str ByteArray.empty,.nilS,.nilS]::B.cells [.str t.name,.lst 1 false (t.attrs.map V.str),.buf 7 0 i i]::B.buf 66 2 (elE rs i) false::cpG rs (i+1))] (by kernel_rfl) fun C K hC hK=>?_);simp -implicitDefEqProofs [hb,hre',aN,LV,hll,jd i (by omega),cx];refine⟨hC _ _ _ _ hc,hK _ _ ?_⟩;simp -implicitDefEqProofs -dsimp[aM i (by omega),cx];refine hN (i+1) _ _ (by omega) (by omega) (by simp) ⟨[],by simp[hes]⟩ (by simp) hrb
 ·obtain rfl:i=rs.length:=by omega
  refine W_x (bV tok (fun t=>t == 29)) mixed ?_;simp -implicitDefEqProofs -dsimp[hb,cx];refine hQ _ _ _ ?_;simp -implicitDefEqProofs -dsimp[cx];exact⟨_,_,_,⟨rfl,rfl,rfl⟩,fun k hk=>⟨by simp,by simp;exact hk,by simp;exact hk⟩⟩
theorem wh_tbh(rs:List Rw)(c0 c1 c2 c3 c4 c5 c6:B):TbH (c0::c1::c2::c3::c4::c5::c6::B.buf 66 2 (elE rs rs.length) false::cpG rs rs.length) 7 (fun j=>10+3*j) rs:=by
 refine⟨rfl,fun j hj=>?_,fun i j _ _ h=>by have h:10+3*i=10+3*j:=h;omega,fun j _=>by show 10+3*j≠7;omega⟩;have:=cpG_at rs hj;show(c0::c1::c2::c3::c4::c5::c6::B.buf 66 2 (elE rs rs.length) false::cpG rs rs.length)[10+3*j]?=_;rw[show 10+3*j=(3*j+2)+8 by omega];simp only[List.getElem?_cons_succ];exact this
def fnd(rs:List Rw)(id:Int)(i:Nat):Nat×Bool:=if h:i<rs.length then(if rs[i].id=id then(i,true) else fnd rs id (i+1)) else(0,false)
termination_by rs.length-i
theorem find03(t:Tb)(f g:Bool)(id:Int)(hr:t.rows.length≤1000000):aS Tryz.prog 92 [aF f g t,.int .i64 id] fun r=>r = .tup [.int .i64 (fnd t.rows id 0).1,.bool (fnd t.rows id 0).2]:=by
 obtain⟨E,hE⟩:∃E,E=fnd t.rows id 0:=⟨_,rfl⟩;rw[←hE];refine aC (aD tok Tryz.func92 rfl rfl ?_);refine wx ?_;simp -implicitDefEqProofs -dsimp[Tryz.f92,List.replicate,aF,LS,LR];refine aK (W_loopM 23 [4,5,6,7,8,9,10,11,12,13,14,15,16,17,18,19,20,21,22] (by simp[mB]<;>rfl) (σ:=Nat) (fun i=>fnd t.rows id i=E) (fun i=>t.rows.length-i) (fun i=>[(6,.int .i64 i)]) (fun _=>[B.cells [.str t.name,.lst 1 f (t.attrs.map V.str),.lst 2 g (t.rows.map aN)]]) 0 hE.symm (by simp) (by simp) (by simp) ?_);intro i hx N Q hN hQ;by_cases hb:i<t.rows.length
 ·rw[fnd,dif_pos hb]at hx;by_cases hq:t.rows[i].id=id
  ·rw[if_pos hq]at hx;subst hx;refine wx ?_;simp -implicitDefEqProofs -dsimp[hb,aN,LV,hq];refine hQ _ _ _ ?_;simp -implicitDefEqProofs -dsimp[]
  ·rw[if_neg hq]at hx;refine wx ?_;simp -implicitDefEqProofs -dsimp[hb,aN,LV,hq];simp -implicitDefEqProofs -dsimp[aM i (by omega)];refine hN (i+1) _ _ hx (by omega) (by simp) ⟨[],by simp⟩ (by simp) (by simp)
 ·rw[fnd,dif_neg hb]at hx;subst hx;refine wx ?_;simp -implicitDefEqProofs -dsimp[hb];refine hQ _ _ _ ?_;simp -implicitDefEqProofs -dsimp[]
theorem fnd_at{rs:List Rw}{i:Nat}(h:i<rs.length)(hp:rs.Pairwise fun a b=>a.id<b.id)(d:Nat):∀j,j+d=i→fnd rs rs[i].id j=(i,true):=by
 induction d with
 | zero =>
  intro j e
  obtain rfl:j=i:=by omega
  rw[fnd,dif_pos h,if_pos rfl]
 | succ d ih =>
  intro j e;rw[fnd,dif_pos (by omega),if_neg]
  ·exact ih (j+1) (by omega)
  ·have:=List.pairwise_iff_getElem.1 hp j i (by omega) h (by omega);omega
def lD(t:Tb)(i a:Nat)(v:Vl):Tb:=⟨t.name,t.attrs,t.rows.set i (setV (rwG t.rows i) a v)⟩
structure TbG (t:Tb):Prop where
 v:TbV t
 pos:∀r∈t.rows,0<r.id
 sz:∀r∈t.rows,∀v∈r.vals,v.s.size≤maxLen
theorem TbG.ok{t:Tb}(h:TbG t):validT t=0:=h.v.validT h.pos
theorem expT{H:List B}{nm:ByteArray}{ats:List V}{m:Nat}{l:V}(hp:∀x∈ats,AM.Pure x)(h:ExpX H (.buf 7 0 m m) l):ExpX H (.tup [.agg [.str nm,.lst 1 false ats,.buf 7 0 m m],.int .i64 0]) (.tup [.agg [.str nm,.lst 1 false ats,l],.int .i64 0]):=by
 refine .tup _ _ rfl (fun i c d hc hd=>?_)
 match i with
 | 0 =>
  simp at hc hd;subst hc;subst hd;refine .agg _ _ rfl (fun j c d hc hd=>?_)
  match j with
  | 0=>simp at hc hd;subst hc;subst hd;exact .pure _ (by simp)
  | 1=>simp at hc hd;subst hc;subst hd;exact .pure _ (by simpa using hp)
  | 2=>simp at hc hd;subst hc;subst hd;exact h
  | k+3=>simp at hc
 | 1=>simp at hc hd;subst hc;subst hd;exact .pure _ (by simp)
 | k+2=>simp at hc
theorem change_ok(t:Tb)(f g:Bool)(i a:Nat)(v:Vl)(h:TbG t)(hi:i<t.rows.length)(ha:a<t.attrs.length)(hv:bP v=true):aS Tryz.prog 47 [aF f g t,aO ⟨(rwG t.rows i).id,(a:Int)⟩,am v] fun r=>r = .tup [aF false false (lD t i a v),.int .i64 0]:=by
 have htv:=h.v;have hm:=htv.rows;have hn:=htv.attrs;have c1:=valid03 t f g htv.ok;rw[h.ok]at c1;have hgi:=er hi;have c2:=find03 t f g (rwG t.rows i).id (by omega);rw[hgi,fnd_at hi htv.asc i 0 (by omega)]at c2;have c3:=valid01 v;rw[hv]at c3;obtain⟨n,hne⟩:∃n,n=t.attrs.length:=⟨_,rfl⟩;have hne':=hne.symm
 have hln:∀j,j<t.rows.length→(rwG t.rows j).vals.length=n:=fun j hj=>by rw[er hj,hne];exact htv.len _ (List.getElem_mem hj)
 have hli:=hln i hi;obtain⟨r,hr⟩:∃r,r=rwG t.rows i:=⟨_,rfl⟩;rw[←hr]at hgi hli ⊢;rw[←hgi]at c2;obtain⟨TB,hTB⟩:∃TB,TB=B.cells [.str t.name,.lst 1 f (t.attrs.map V.str),.lst 2 g (t.rows.map aN)]:=⟨_,rfl⟩;obtain⟨CB,hCB⟩:∃CB,CB=B.cells [.int .i64 r.id,.int .i64 (a:Int)]:=⟨_,rfl⟩;obtain⟨VB,hVB⟩:∃VB,VB=B.cells [.int .i64 v.k,.int .i64 v.n,.str v.s]:=⟨_,rfl⟩;obtain⟨ZB,hZB⟩:∃ZB,ZB=B.cells [.str ByteArray.empty,.nilS,.nilS]:=⟨_,rfl⟩
 have c4:=with_h t t.rows f g g (by omega) (fun e=>by rw[e]at ha;simp at ha) (by omega) (fun r' hr'=>by
  have:=htv.len r' hr'
  exact⟨by omega,fun e=>by rw[e]at this;simp at this;omega⟩) TB CB VB ZB (fun k=>by rw[hTB];simp) (fun k=>by rw[hCB];simp) (fun k=>by rw[hVB];simp) (fun k=>by rw[hZB];simp)
 rw[hTB,hCB,hVB,hZB]at c4;simp only[aF,LS,LR]at c1 c2 c4;simp only[am]at c3;refine cU (aD tok Tryz.func47 rfl rfl ?_);refine wx ?_;simp -implicitDefEqProofs -dsimp[Tryz.f47,List.replicate,aF,LS,LR,aO,am];refine(aG (c1) (by simp)).mono ?_;rintro r H' ⟨rfl,rfl⟩;simp -implicitDefEqProofs -dsimp[];refine(aG (c2) (by simp)).mono ?_;rintro r H' ⟨rfl,rfl⟩;simp -implicitDefEqProofs -dsimp[show ¬((a:Int)<0) by omega,hne',show ¬((n:Int)≤(a:Int)) by omega];refine(aG (c3) (by simp)).mono ?_;rintro r H' ⟨rfl,rfl⟩;simp -implicitDefEqProofs -dsimp[];refine dY c4 ?_;rintro r' H' ⟨rfl,A,A1,A2,hH,hrb⟩
 have htb:TbH H' 7 (fun j=>10+3*j) t.rows:=by rw[hH];exact wh_tbh _ _ _ _ _ _ _ _
 have e0:H'[0]?=some (B.cells [.str t.name,.lst 1 f (t.attrs.map V.str),.lst 2 g (t.rows.map aN)]):=by rw[hH];rfl
 have e1:H'[1]?=some (B.cells [.int .i64 r.id,.int .i64 (a:Int)]):=by rw[hH];rfl
 have e2:H'[2]?=some (B.cells [.int .i64 v.k,.int .i64 v.n,.str v.s]):=by rw[hH];rfl
 have e3:H'[3]?=some (B.cells [.str ByteArray.empty,.nilS,.nilS]):=by rw[hH];rfl
 have hlen:H'.length=8+3*t.rows.length:=by rw[hH];simp[kH];omega
 clear hH;obtain⟨L,hL⟩:∃L,L=8+3*t.rows.length:=⟨_,rfl⟩;obtain⟨k,hk⟩:∃k,k=10+3*i:=⟨_,rfl⟩;rw[←hL]at hlen
 have hkL:k<L:=by omega
 have hki:(fun j=>10+3*j) i=k:=hk.symm;have e7:=htb.hk
 have ek:H'[k]?=some (.buf 68 3 (r.vals.map am) false):=by rw[hk,hr];exact htb.row i hi
 have gl:∀{x:Nat} {b:B},H'[x]?=some b→∀X,(H'++X)[x]?=some b:=fun {x b} hx X=>by rw[List.getElem?_append_left (aE hx)];exact hx
 obtain⟨T11,hT11⟩:∃T11,T11=B.cells [.str t.name,.lst 1 false (t.attrs.map V.str),.buf 7 0 t.rows.length t.rows.length]:=⟨_,rfl⟩
 obtain⟨EL,hEL⟩:∃EL,EL=(List.range t.rows.length).map fun j=>V.agg [.int .i64 (rwG t.rows j).id,.buf (10+3*j) 0 (rwG t.rows j).vals.length (rwG t.rows j).vals.length]:=⟨_,rfl⟩
 have hELl:EL.length=t.rows.length:=by rw[hEL];simp
 have hELi:∀h:i<EL.length,EL[i] = .agg [.int .i64 r.id,.buf k 0 n n]:=fun h=>by subst hEL;simp[hk,←hr,hli]
 have e7':H'[7]?=some (B.buf 66 2 EL false):=by rw[hEL];exact e7
 have x1:=fun X=>gl e1 X
 have x2:=fun X=>gl e2 X
 have x3:=fun X=>gl e3 X
 have x7:=fun X=>gl e7' X
 have xk:=fun X=>gl ek X
 have x1':=fun X=>eH (x1 X)
 have x2':=fun X=>eH (x2 X)
 have x7':=fun X=>eH (x7 X)
 have xk':=fun X=>eH (xk X)
 have xL:∀X:List B,(H'++X)[L]?=X[0]?:=fun X=>by rw[←hlen];exact getX0 H' X
 have xL':∀A X,∀h,(H'++A::X)[L]'h=A:=fun A X=>eH (by rw[xL];rfl)
 have hvs:((r.vals.map am).set a (V.agg [.int .i64 v.k,.int .i64 v.n,.str v.s]))=(r.vals.map am).set a (am v):=rfl
 have hlk:∀Y,(H'.set k Y).length=L:=fun Y=>by rw[List.length_set,hlen]
 have hlk3:∀Y Z,((H'.set k Y).set 3 Z).length=L:=fun Y Z=>by rw[List.length_set,List.length_set,hlen]
 have yL:∀Y X,(H'.set k Y++X)[L]?=X[0]?:=fun Y X=>by
  have:=getX0 (H'.set k Y) X
  rwa [hlk]at this
 have y3:∀Y X,(H'.set k Y++X)[3]?=some (B.cells [.str ByteArray.empty,.nilS,.nilS]):=fun Y X=>by
  rw[List.getElem?_append_left (by rw[hlk];omega),List.getElem?_set_ne (by omega)];exact e3
 have yL':∀Y A X,∀h,(H'.set k Y++A::X)[L]'h=A:=fun Y A X=>eH (by rw[yL];rfl)
 have y3':=fun Y X=>eH (y3 Y X)
 have z3:∀Y Z X,((H'.set k Y).set 3 Z++X)[3]?=some Z:=fun Y Z X=>by rw[List.getElem?_append_left (by rw[hlk3];omega),List.getElem?_set_self (by rw[hlk];omega)]
 have z3':=fun Y Z X=>eH (z3 Y Z X)
 have hLb:7<L∧3<L:=by omega
 simp -implicitDefEqProofs -dsimp[hlen];refine aK (ai tok mixed [10] [] [] (by kernel_rfl) fun C K hC hK=>?_);simp -implicitDefEqProofs [x1,x2,x7,xk,x1',x2',x7',xk',xL,xL',hELl,hELi,hi,hlen,hLb,hkL,hli,hne',ha,show a<n by omega,am];refine hK _ _ ?_;simp -implicitDefEqProofs -dsimp[yL,yL',y3,y3',hlk,hlk3,z3,z3',hlen,hLb,hkL,show 3<L+1 by omega];have t1:=((htb.set (a:=a) hi v).other (x:=3) (by omega) (fun j _=>by show 3≠10+3*j;omega) (B.cells [V.str t.name,V.lst 1 false (List.map V.str t.attrs),V.buf 7 0 t.rows.length t.rows.length])).app [B.cells [V.str t.name,V.lst 1 false (List.map V.str t.attrs),V.buf 7 0 t.rows.length t.rows.length]];simp only[aF,LS,lD,←hr];refine expT (by simp) ?_;have t2:=t1.exp;rw[List.length_set,←hr]at t2;rw[hk];exact t2
end
end Go.Proofs.YteijbpppalhihaaGreat
section
namespace Go.Proofs.YteijbpppalhihaaGreat
open Go Go.AM
end Go.Proofs.YteijbpppalhihaaGreat
end
namespace Go.Proofs.YteijbpppalhihaaGreat
section
open Go Go.AM
def ixC(l:List Cr)(c:Cr)(i:Nat):Int:=if h:i<l.length then(if(c.id == l[i].id&&c.attr == l[i].attr)=true then(i:Int) else ixC l c (i+1)) else -1
termination_by l.length-i
theorem beqC{c d:Cr} : (c.id == d.id&&c.attr == d.attr)=true↔c=d:=by
 rw[Bool.and_eq_true,beq_iff_eq,beq_iff_eq,Cr.eq_iff]
theorem ixC_mem(l:List Cr)(c:Cr)(i:Nat):0≤ixC l c i↔c∈l.drop i:=by
 fun_induction ixC l c i with
 | case1 i h h0=>rw[List.drop_eq_getElem_cons h,List.mem_cons];exact⟨fun _=>.inl (beqC.1 h0),fun _=>by omega⟩
 | case2 i h h0 ih=>rw[List.drop_eq_getElem_cons h,List.mem_cons,ih];exact⟨.inr,fun g=>g.elim (fun g=>absurd (beqC.2 g) h0) id⟩
 | case3 i h=>rw[List.drop_of_length_le (by omega)];simp
theorem ixC_has(l:List Cr)(c:Cr):decide (0≤ixC l c 0)=dD l c:=by
 have h:=ixC_mem l c 0;rw[List.drop_zero]at h;unfold dD;exact decide_eq_decide.2 h
theorem indexC(l:List Cr)(c:Cr)(f:Bool)(hl:l.length≤1000000):aS Tryz.prog 61 [LC f l,aO c] fun r=>r = .int .i64 (ixC l c 0):=by
 obtain⟨E,hE⟩:∃E,E=ixC l c 0:=⟨_,rfl⟩;rw[←hE];refine aC (aD tok Tryz.func61 rfl rfl ?_);refine wx ?_;simp -implicitDefEqProofs -dsimp[Tryz.f61,List.replicate,LC,aO];refine aK (W_loopM 19 [4,5,8,9,10,11,12,13,14,15,16,17,18] (by simp[mB]<;>rfl) (σ:=Nat) (fun i=>ixC l c i=E) (fun i=>l.length-i) (fun i=>[(8,.int .i64 i)]) (fun _=>[B.cells [.int .i64 c.id,.int .i64 c.attr]]) 0 hE.symm (by simp) rfl (by simp) ?_);intro i hx N Q hN hQ;by_cases hb:i<l.length
 ·rw[ixC,dif_pos hb]at hx
  cases hq:(c.id == l[i].id&&c.attr == l[i].attr) with
  | false =>
   rw[hq,if_neg (by simp)]at hx;refine wx ?_;simp -implicitDefEqProofs -dsimp[hb,aO,eqCr,hq];refine .inr ⟨aJ (by kernel_rfl),?_⟩;simp -implicitDefEqProofs -dsimp[aM i (by omega)];refine hN (i+1) _ _ hx (by omega) (by simp) ⟨[],rfl⟩ (by simp) (by simp)
  | true =>
   rw[hq,if_pos rfl]at hx;refine wx ?_;simp -implicitDefEqProofs -dsimp[hb,aO,eqCr,hq];refine .inr ⟨aJ (by kernel_rfl),?_⟩;refine hQ _ _ _ ?_;simp -implicitDefEqProofs -dsimp[];exact hx
 ·rw[ixC,dif_neg hb]at hx;refine wx ?_;simp -implicitDefEqProofs -dsimp[hb];refine hQ _ _ _ ?_;simp -implicitDefEqProofs -dsimp[];exact hx
theorem containsC(l:List Cr)(c:Cr)(f:Bool)(hl:l.length≤1000000):aS Tryz.prog 26 [LC f l,aO c] fun r=>r = .bool (dD l c):=by
 have h0:=ixC_has l c;have c1:=indexC l c f hl;simp only[LC,aO]at c1;refine aC (aD tok Tryz.func26 rfl rfl ?_);refine wx ?_;simp -implicitDefEqProofs -dsimp[Tryz.f26,List.replicate,LC,aO];refine(aG (c1) (by simp)).mono ?_;rintro r H' ⟨rfl,rfl⟩;simp -implicitDefEqProofs -dsimp[];rw[←h0]
structure Spl where
 k:Int
 i:Nat
 y:Int
structure SplOk (s:Spl):Prop where
 i:s.i≤255
 y0 : -128≤s.y
 y1:s.y≤127
def aY(s:Spl):V:=.agg [.int .u8 s.k,.int .u8 s.i,.int .i8 s.y]
def sp1(u:Upd)(s:Spl):Upd:=if u.cells=[] then u else⟨u.cells.eraseIdx (s.i % u.cells.length),u.tab,u.cores,u.prf⟩
noncomputable def sp2(t:Tb)(u:Upd)(s:Spl):Upd:=if aa t=[] then u else if dD u.cells (cAt (aa t) (s.i % (aa t).length))=true then u else⟨u.cells++[cAt (aa t) (s.i % (aa t).length)],u.tab,u.cores,u.prf⟩
def ofY(y:Int):Vl:=ofC (IntKind.u8.wrap y)
def sp3(t:Tb)(u:Upd)(s:Spl):Upd:=if aa t=[] then u else⟨u.cells,lD u.tab (s.i % (aa t).length / t.attrs.length) (s.i % (aa t).length % t.attrs.length) (ofY s.y),u.cores,u.prf⟩
def sp4(u:Upd)(s:Spl):Upd:=if u.cores=[] then u else⟨u.cells,u.tab,u.cores.eraseIdx (s.i % u.cores.length),u.prf⟩
def sp5(u:Upd)(s:Spl):Upd:=if u.cores=[] then u else⟨u.cells,u.tab,u.cores.set (s.i % u.cores.length) ((u.cores.getD (s.i % u.cores.length) []).take ((u.cores.getD (s.i % u.cores.length) []).length-1)),u.prf⟩
def sp6(u:Upd):Upd:=⟨u.cells,u.tab,u.cores,u.prf++[⟨-1,[]⟩]⟩
def sh7(y:Int):List Shr→List Shr
 | []=>[]
 | x::l=>⟨x.e,IntKind.i64.wrap (x.a+y)⟩::l
def nd7(y:Int)(x:Nde):Nde:=⟨IntKind.i64.wrap (x.v+IntKind.i64.wrap (y.tdiv 4)),sh7 y x.l⟩
def ndG(l:List Nde)(i:Nat):Nde:=l.getD i ⟨0,[]⟩
def sp7(u:Upd)(s:Spl):Upd:=if u.prf=[] then u else⟨u.cells,u.tab,u.cores,u.prf.set (s.i % u.prf.length) (nd7 s.y (ndG u.prf (s.i % u.prf.length)))⟩
def nmX:ByteArray:=⟨#[120]⟩
def sp8(t:Tb)(u:Upd)(s:Spl):Upd:=if s.y.tmod 2=0 then⟨u.cells,⟨nmX,u.tab.attrs,u.tab.rows⟩,u.cores,u.prf⟩ else⟨u.cells,u.tab,aa t::u.cores,u.prf⟩
noncomputable def spU(t:Tb)(u:Upd)(s:Spl):Upd :=
 if s.k.tmod 9=1 then sp1 u s else if s.k.tmod 9=2 then sp2 t u s else if s.k.tmod 9=3 then sp3 t u s else if s.k.tmod 9=4 then sp4 u s else if s.k.tmod 9=5 then sp5 u s else
  if s.k.tmod 9=6 then sp6 u else if s.k.tmod 9=7 then sp7 u s else if s.k.tmod 9=8 then sp8 t u s else u
structure SpB (t:Tb) (n:Nat) (u:Upd):Prop where
 tab:TbG u.tab
 attrs:u.tab.attrs=t.attrs
 rows:u.tab.rows.length=t.rows.length
 ids:∀i,i<t.rows.length→(rwG u.tab.rows i).id=(rwG t.rows i).id
 cells:u.cells.length≤10+n
 cn:u.cores.length≤1000+n
 cl:∀K∈u.cores,K.length≤10
 prf:u.prf.length≤2000+n
 sh:∀x∈u.prf,x.l.length≤100000
theorem SpB.mono{t:Tb}{n:Nat}{u:Upd}(h:SpB t n u):SpB t (n+1) u:=⟨h.tab,h.attrs,h.rows,h.ids,by have:=h.cells;omega,by have:=h.cn;omega,h.cl,by have:=h.prf;omega,h.sh⟩
theorem sh7_len(y:Int)(l:List Shr):(sh7 y l).length=l.length:=by cases l<;>rfl
theorem SpB.updOk{t:Tb}{n:Nat}{u:Upd}(h:SpB t n u)(hn:n≤2):UpdOk u∧∀r∈u.tab.rows,∀v∈r.vals,v.s.size≤maxLen:=by
 refine⟨⟨h.tab.v.ok,by have:=h.cells;omega,by have:=h.cn;omega,fun K hK=>by have:=h.cl K hK;omega,?_,by have:=h.prf;omega⟩,h.tab.sz⟩;have:=pV 10 u.cores h.cl;have:=h.cn;omega
theorem nmX_sz:nmX.size≤maxLen:=by
 have h:(1:Nat)≤maxLen:=by simp[maxLen]
 exact h
theorem nmX_name:bn nmX=true:=by kernel_rfl
theorem setT_tbG{u:Tb}{i a:Nat}{v:Vl}(h:TbG u)(hi:i<u.rows.length)(ha:a<u.attrs.length)(hv:bP v=true)(hs:v.s.size≤maxLen):TbG (lD u i a v):=by
 have hmem:∀r∈(lD u i a v).rows,∃r'∈u.rows,r.id=r'.id∧(r.vals=r'.vals∨r.vals=r'.vals.set a v):=fun r hr=>by
  unfold lD at hr;simp only at hr
  rcases List.mem_or_eq_of_mem_set hr with h1 | h1
  ·exact⟨r,h1,rfl,.inl rfl⟩
  ·refine⟨u.rows[i],List.getElem_mem hi,?_,.inr ?_⟩
   ·rw[h1,er hi];rfl
   ·rw[h1,er hi];rfl
 obtain⟨g1,g2,g3⟩:=h;refine⟨⟨⟨g1.ok.name,g1.ok.attrs,by unfold lD;simpa using g1.ok.rows,g1.ok.strs⟩,g1.attrs,by unfold lD;simpa using g1.rows,g1.names,g1.name,fun r hr=>?_,fun r hr w hw=>?_,?_⟩,fun r hr=>?_,fun r hr w hw=>?_⟩
 ·obtain⟨r',h1,h2,h3⟩:=hmem r hr
  rcases h3 with h3 | h3<;>rw[h3]
  ·exact g1.len r' h1
  ·rw[List.length_set];exact g1.len r' h1
 ·obtain⟨r',h1,h2,h3⟩:=hmem r hr
  rcases h3 with h3 | h3<;>rw[h3]at hw
  ·exact g1.vals r' h1 w hw
  ·rcases List.mem_or_eq_of_mem_set hw with h4 | rfl
   ·exact g1.vals r' h1 w h4
   ·exact hv
 ·have hid:(lD u i a v).rows.map (·.id)=u.rows.map (·.id):=by
   unfold lD;simp only[List.map_set];rw[show(setV (rwG u.rows i) a v).id=(u.rows.map (·.id))[i]'(by simpa using hi) by simp[setV,er hi]];rw[List.set_getElem_self]
  have:=g1.asc;have h3:(u.rows.map (·.id)).Pairwise (· < ·):=List.pairwise_map.2 this;rw[←hid]at h3;exact List.pairwise_map.1 h3
 ·obtain⟨r',h1,h2,_⟩:=hmem r hr;rw[h2];exact g2 r' h1
 ·obtain⟨r',h1,h2,h3⟩:=hmem r hr
  rcases h3 with h3 | h3<;>rw[h3]at hw
  ·exact g3 r' h1 w hw
  ·rcases List.mem_or_eq_of_mem_set hw with h4 | rfl
   ·exact g3 r' h1 w h4
   ·exact hs
theorem spU_ok{t:Tb}{n:Nat}{u:Upd}{s:Spl}(ht:TbV t)(hN:t.rows.length*t.attrs.length≤9)(h:SpB t n u):SpB t (n+1) (spU t u s):=by
 have hm:=h.mono;unfold spU;split
 ·unfold sp1;split
  ·exact hm
  ·exact⟨h.tab,h.attrs,h.rows,h.ids,by have:=h.cells;have:=List.length_eraseIdx_le u.cells (s.i % u.cells.length);simp only;omega,hm.cn,h.cl,hm.prf,h.sh⟩
 split
 ·unfold sp2;split
  ·exact hm
  split
  ·exact hm
  ·exact⟨h.tab,h.attrs,h.rows,h.ids,by have:=h.cells;simp;omega,hm.cn,h.cl,hm.prf,h.sh⟩
 split
 ·unfold sp3;split
  ·exact hm
  ·rename_i hne;have hl:0<(aa t).length:=List.length_pos_iff.2 hne;rw[dM]at hl ⊢;have hx:=Nat.mod_lt s.i hl
   have hn0:0<t.attrs.length:=by
    rcases Nat.eq_zero_or_pos t.attrs.length with e | e
    ·rw[e]at hl;omega
    ·exact e
   have hi:s.i % (t.rows.length*t.attrs.length) / t.attrs.length<t.rows.length:=by rw[Nat.div_lt_iff_lt_mul hn0];exact hx
   have ha:s.i % (t.rows.length*t.attrs.length) % t.attrs.length<t.attrs.length:=Nat.mod_lt _ hn0;refine⟨setT_tbG h.tab (by rw[h.rows];exact hi) (by rw[h.attrs];exact ha) (ma _) (Nat.le_trans (ofV_n _).2 (by simp[maxLen])),h.attrs,by unfold lD;simpa using h.rows,fun j hj=>?_,hm.cells,hm.cn,h.cl,hm.prf,h.sh⟩;rw[←h.ids j hj];unfold lD rwG;simp only[List.getD_eq_getElem?_getD];rw[List.getElem?_set];split
   ·rename_i e;rw[if_pos (by rw[h.rows];exact hi)];subst e;rfl
   ·rfl
 split
 ·unfold sp4;split
  ·exact hm
  ·exact⟨h.tab,h.attrs,h.rows,h.ids,hm.cells,by have:=h.cn;have:=List.length_eraseIdx_le u.cores (s.i % u.cores.length);simp only;omega,fun K hK=>h.cl K (List.mem_of_mem_eraseIdx hK),hm.prf,h.sh⟩
 split
 ·unfold sp5;split
  ·exact hm
  ·refine⟨h.tab,h.attrs,h.rows,h.ids,hm.cells,by have:=h.cn;simp;omega,fun K hK=>?_,hm.prf,h.sh⟩
   rcases List.mem_or_eq_of_mem_set hK with h1 | rfl
   ·exact h.cl K h1
   ·rename_i hne;have hl:s.i % u.cores.length<u.cores.length:=Nat.mod_lt _ (List.length_pos_iff.2 hne);rw[show u.cores.getD (s.i % u.cores.length) []=u.cores[s.i % u.cores.length] by simp[hl]];rw[List.length_take];have:=h.cl _ (List.getElem_mem hl);omega
 split
 ·exact⟨h.tab,h.attrs,h.rows,h.ids,hm.cells,hm.cn,h.cl,by have:=h.prf;simp[sp6];omega,fun x hx=>by
   rcases List.mem_append.1 hx with h1 | h1
   ·exact h.sh x h1
   ·rw[List.mem_singleton]at h1;subst h1;simp⟩
 split
 ·unfold sp7;split
  ·exact hm
  ·exact⟨h.tab,h.attrs,h.rows,h.ids,hm.cells,hm.cn,h.cl,by have:=h.prf;simp;omega,fun x hx=>by
    rcases List.mem_or_eq_of_mem_set hx with h1 | rfl
    ·exact h.sh x h1
    ·rename_i hne;have hl:s.i % u.prf.length<u.prf.length:=Nat.mod_lt _ (List.length_pos_iff.2 hne);show(sh7 s.y _).length≤_;rw[sh7_len,show ndG u.prf (s.i % u.prf.length)=u.prf[s.i % u.prf.length] by simp[ndG,hl]]
     exact h.sh _ (List.getElem_mem hl)⟩
 split
 ·unfold sp8;split
  ·obtain⟨g1,g2,g3⟩:=h.tab;refine⟨⟨⟨⟨nmX_sz,g1.ok.attrs,g1.ok.rows,g1.ok.strs⟩,g1.attrs,g1.rows,g1.names,nmX_name,g1.len,g1.vals,g1.asc⟩,g2,g3⟩,h.attrs,h.rows,h.ids,hm.cells,hm.cn,h.cl,hm.prf,h.sh⟩
  ·refine⟨h.tab,h.attrs,h.rows,h.ids,hm.cells,by have:=h.cn;simp;omega,fun K hK=>?_,hm.prf,h.sh⟩
   rcases List.mem_cons.1 hK with rfl | h1
   ·rw[dM];omega
   ·exact h.cl K h1
 ·exact hm
end
end Go.Proofs.YteijbpppalhihaaGreat
namespace Go.Proofs.YteijbpppalhihaaGreat
section
open Go Go.AM Go.RowKit
theorem cloneO0_C(f:Bool):gK Tryz.prog 16 [.lst 2 f []] fun e z ys=>e=49∧z=2∧ys=[]:=iO ⟨Tryz.f16,Tryz.func16,rfl,rfl⟩ (fun F w vals hsz hrel=>by
  obtain⟨u0,rfl⟩:∃u0,vals = #[u0]:=by
   obtain⟨l⟩:=vals
   match l,hsz with
   | [a],_=>exact⟨a,rfl⟩
  have r0:=hrel 0 _ u0 rfl rfl;cases r0
  refine(cloneE_C _ _ _).mono fun e' w' ⟨v,he,hown,hb⟩=>⟨v,he,hb,?_⟩
  obtain⟨_,⟨hv,_⟩ | ⟨g,c,cur,hv,hg,hc,hn,hm,hs,_⟩⟩:=hown
  ·exact .inl hv
  ·exact .inr ⟨g,c,cur,hv,hg,hc,hm,hs⟩)
theorem cloneO_C(l:List Cr)(f:Bool)(hl:l.length≤1000000):gK Tryz.prog 16 [.lst 2 f (l.map aO)] fun e z ys=>e=49∧z=2∧ys=l.map aO:=by
 cases l with
 | nil=>exact cloneO0_C f
 | cons x xs =>
  have hl':xs.length≤1000000:=by simp only[List.length_cons]at hl;omega
  refine dP (aD tok Tryz.func16 rfl rfl ?_);refine wx ?_;simp -implicitDefEqProofs -dsimp[Tryz.f16,List.replicate,eZ,je xs.length (by omega),aO];exact⟨0,49,2,aO x::xs.map aO,by simp,rfl,by simp,rfl,rfl,rfl⟩
theorem infoD_K:(Tryz.prog.info? 37).map (fun i=>(i.zero,i.size,i.bytes))=some (some (.slice none 0 0),1,24):=by kernel_rfl
theorem cloneE_K(A:Option Addr)(cap:Nat)(w:World):
  Calls Tryz.prog 79 #[.slice A 0 cap] w fun e w'=>∃v,e = .returned v∧w'.ownsRow w.heap.size 37 1 v 0 []∧Below w.heap.size w w':=by
 have hnil:=fun W A n c=>Lib.run_eql_slice_nil (P:=Tryz.prog) W 71 37 A n c 0 0 Tryz.underlying71
 cases A with
 | none =>
  go_enter Tryz.func79,Tryz.ntmps79
  go_wp2
  go_ret
  exact⟨_,rfl,World.ownsRow_nil _ _ _ _,Below.refl _ _⟩
 | some ad =>
  obtain⟨i0,hi,hz0,hz1,hz2⟩:=info_parts infoD_K;have hown:(w.alloc (.cells #[] 37)).ownsRow w.heap.size 37 1 (.slice (some ⟨w.heap.size,0,none⟩) 0 0) 0 []:=World.ownsRow_lit w #[] 0 (Nat.le_refl _) (by simp[maxLen]) (by simp)
  have hnews:∀j u,([]:List Value)[j]?=some u→(w.alloc (.cells #[] 37)).cell? (ad.add j)=some u:=by
   intro j u hu;simp at hu
  have hone:∀u∈([]:List Value),u.oneCell'=true:=by intro u hu;cases hu
  have h63:0+0≤maxLen:=by simp[maxLen]
  have hby:(0+0)*24≤140737488355328:=by omega
  have hlen:([]:List Value).length=0*1:=by simp
  have Hi:=Lib.hid (show Tryz.prog.info? 37=some i0∧i0.zero=some _∧i0.size=1∧i0.bytes=24 from⟨hi,hz0,hz1,hz2⟩);have Hw:=Lib.hid (And.intro hown (And.intro hnews (And.intro hone (And.intro h63 (And.intro hby hlen)))));clear hnews hone hown hi hz0 hz1 hz2 h63 hby hlen
  go_enter Tryz.func79,Tryz.ntmps79
  go_wp2_with (at_builtin;refine wpList_append_own _ rfl _ _ 71 rfl w.heap.size 37 i0 _ 1 24 Tryz.underlying71 Hi.out.1 Hi.out.2.1 Hi.out.2.2.1 Hi.out.2.2.2 rfl (by omega) (.slice (some ⟨w.heap.size,0,none⟩) 0 0) 0 [] rfl Hw.out.1 ad 0 cap [] rfl Hw.out.2.2.2.2.2 Hw.out.2.1 Hw.out.2.2.1 Hw.out.2.2.2.1 Hw.out.2.2.2.2.1 (by simp) ?_;intro v1 w1 ho hg hn;have Ho:=Lib.hid ho;have Hg:=Lib.hid hg;have Hn:=Lib.hid hn;clear ho hg hn)
  go_ret
  exact⟨v1,rfl,by have:=Ho.out;simpa using this,((Below.refl _ _).alloc (Nat.le_refl _) _).grown Hg.out (by simp) (by simp[Value.ownBlock])⟩
theorem cloneO0_K(f:Bool):gK Tryz.prog 79 [.lst 1 f []] fun e z ys=>e=37∧z=1∧ys=[]:=iO ⟨Tryz.f79,Tryz.func79,rfl,rfl⟩ (fun F w vals hsz hrel=>by
  obtain⟨u0,rfl⟩:∃u0,vals = #[u0]:=by
   obtain⟨l⟩:=vals
   match l,hsz with
   | [a],_=>exact⟨a,rfl⟩
  have r0:=hrel 0 _ u0 rfl rfl;cases r0
  refine(cloneE_K _ _ _).mono fun e' w' ⟨v,he,hown,hb⟩=>⟨v,he,hb,?_⟩
  obtain⟨_,⟨hv,_⟩ | ⟨g,c,cur,hv,hg,hc,hn,hm,hs,_⟩⟩:=hown
  ·exact .inl hv
  ·exact .inr ⟨g,c,cur,hv,hg,hc,hm,hs⟩)
theorem cloneO_K(l:List (List Cr))(f:Bool)(hl:l.length≤1000000):gK Tryz.prog 79 [.lst 1 f (l.map (LC false))] fun e z ys=>e=37∧z=1∧ys=l.map (LC false):=by
 cases l with
 | nil=>exact cloneO0_K f
 | cons x xs =>
  have hl':xs.length≤1000000:=by simp only[List.length_cons]at hl;omega
  refine dP (aD tok Tryz.func79 rfl rfl ?_);refine wx ?_;simp -implicitDefEqProofs -dsimp[Tryz.f79,List.replicate,eZ,qA xs.length (by omega),LC];exact⟨0,37,1,(LC false) x::xs.map (LC false),by simp,rfl,by simp,rfl,rfl,rfl⟩
theorem infoD_N:(Tryz.prog.info? 90).map (fun i=>(i.zero,i.size,i.bytes))=some (some (.agg #[.int .i64 0,.slice none 0 0]),2,32):=by kernel_rfl
theorem cloneE_N(A:Option Addr)(cap:Nat)(w:World):
  Calls Tryz.prog 80 #[.slice A 0 cap] w fun e w'=>∃v,e = .returned v∧w'.ownsRow w.heap.size 90 2 v 0 []∧Below w.heap.size w w':=by
 have hnil:=fun W A n c=>Lib.run_eql_slice_nil (P:=Tryz.prog) W 72 90 A n c 0 0 Tryz.underlying72
 cases A with
 | none =>
  go_enter Tryz.func80,Tryz.ntmps80
  go_wp2
  go_ret
  exact⟨_,rfl,World.ownsRow_nil _ _ _ _,Below.refl _ _⟩
 | some ad =>
  obtain⟨i0,hi,hz0,hz1,hz2⟩:=info_parts infoD_N;have hown:(w.alloc (.cells #[] 90)).ownsRow w.heap.size 90 2 (.slice (some ⟨w.heap.size,0,none⟩) 0 0) 0 []:=World.ownsRow_lit w #[] 0 (Nat.le_refl _) (by simp[maxLen]) (by simp)
  have hnews:∀j u,([]:List Value)[j]?=some u→(w.alloc (.cells #[] 90)).cell? (ad.add j)=some u:=by
   intro j u hu;simp at hu
  have hone:∀u∈([]:List Value),u.oneCell'=true:=by intro u hu;cases hu
  have h63:0+0≤maxLen:=by simp[maxLen]
  have hby:(0+0)*32≤140737488355328:=by omega
  have hlen:([]:List Value).length=0*2:=by simp
  have Hi:=Lib.hid (show Tryz.prog.info? 90=some i0∧i0.zero=some _∧i0.size=2∧i0.bytes=32 from⟨hi,hz0,hz1,hz2⟩);have Hw:=Lib.hid (And.intro hown (And.intro hnews (And.intro hone (And.intro h63 (And.intro hby hlen)))));clear hnews hone hown hi hz0 hz1 hz2 h63 hby hlen
  go_enter Tryz.func80,Tryz.ntmps80
  go_wp2_with (at_builtin;refine wpList_append_own _ rfl _ _ 72 rfl w.heap.size 90 i0 _ 2 32 Tryz.underlying72 Hi.out.1 Hi.out.2.1 Hi.out.2.2.1 Hi.out.2.2.2 rfl (by omega) (.slice (some ⟨w.heap.size,0,none⟩) 0 0) 0 [] rfl Hw.out.1 ad 0 cap [] rfl Hw.out.2.2.2.2.2 Hw.out.2.1 Hw.out.2.2.1 Hw.out.2.2.2.1 Hw.out.2.2.2.2.1 (by simp) ?_;intro v1 w1 ho hg hn;have Ho:=Lib.hid ho;have Hg:=Lib.hid hg;have Hn:=Lib.hid hn;clear ho hg hn)
  go_ret
  exact⟨v1,rfl,by have:=Ho.out;simpa using this,((Below.refl _ _).alloc (Nat.le_refl _) _).grown Hg.out (by simp) (by simp[Value.ownBlock])⟩
theorem cloneO0_N(f:Bool):gK Tryz.prog 80 [.lst 2 f []] fun e z ys=>e=90∧z=2∧ys=[]:=iO ⟨Tryz.f80,Tryz.func80,rfl,rfl⟩ (fun F w vals hsz hrel=>by
  obtain⟨u0,rfl⟩:∃u0,vals = #[u0]:=by
   obtain⟨l⟩:=vals
   match l,hsz with
   | [a],_=>exact⟨a,rfl⟩
  have r0:=hrel 0 _ u0 rfl rfl;cases r0
  refine(cloneE_N _ _ _).mono fun e' w' ⟨v,he,hown,hb⟩=>⟨v,he,hb,?_⟩
  obtain⟨_,⟨hv,_⟩ | ⟨g,c,cur,hv,hg,hc,hn,hm,hs,_⟩⟩:=hown
  ·exact .inl hv
  ·exact .inr ⟨g,c,cur,hv,hg,hc,hm,hs⟩)
theorem cloneO_N(l:List Nde)(f:Bool)(hl:l.length≤1000000):gK Tryz.prog 80 [.lst 2 f (l.map aT)] fun e z ys=>e=90∧z=2∧ys=l.map aT:=by
 cases l with
 | nil=>exact cloneO0_N f
 | cons x xs =>
  have hl':xs.length≤1000000:=by simp only[List.length_cons]at hl;omega
  refine dP (aD tok Tryz.func80 rfl rfl ?_);refine wx ?_;simp -implicitDefEqProofs -dsimp[Tryz.f80,List.replicate,eZ,jd xs.length (by omega),aT,LSh];exact⟨0,90,2,aT x::xs.map aT,by simp,rfl,by simp,rfl,rfl,rfl⟩
theorem infoD_H:(Tryz.prog.info? 151).map (fun i=>(i.zero,i.size,i.bytes))=some (some (.agg #[.int .i64 0,.int .i64 0]),2,16):=by kernel_rfl
theorem cloneE_H(A:Option Addr)(cap:Nat)(w:World):
  Calls Tryz.prog 81 #[.slice A 0 cap] w fun e w'=>∃v,e = .returned v∧w'.ownsRow w.heap.size 151 2 v 0 []∧Below w.heap.size w w':=by
 have hnil:=fun W A n c=>Lib.run_eql_slice_nil (P:=Tryz.prog) W 88 151 A n c 0 0 Tryz.underlying88
 cases A with
 | none =>
  go_enter Tryz.func81,Tryz.ntmps81
  go_wp2
  go_ret
  exact⟨_,rfl,World.ownsRow_nil _ _ _ _,Below.refl _ _⟩
 | some ad =>
  obtain⟨i0,hi,hz0,hz1,hz2⟩:=info_parts infoD_H;have hown:(w.alloc (.cells #[] 151)).ownsRow w.heap.size 151 2 (.slice (some ⟨w.heap.size,0,none⟩) 0 0) 0 []:=World.ownsRow_lit w #[] 0 (Nat.le_refl _) (by simp[maxLen]) (by simp)
  have hnews:∀j u,([]:List Value)[j]?=some u→(w.alloc (.cells #[] 151)).cell? (ad.add j)=some u:=by
   intro j u hu;simp at hu
  have hone:∀u∈([]:List Value),u.oneCell'=true:=by intro u hu;cases hu
  have h63:0+0≤maxLen:=by simp[maxLen]
  have hby:(0+0)*16≤140737488355328:=by omega
  have hlen:([]:List Value).length=0*2:=by simp
  have Hi:=Lib.hid (show Tryz.prog.info? 151=some i0∧i0.zero=some _∧i0.size=2∧i0.bytes=16 from⟨hi,hz0,hz1,hz2⟩);have Hw:=Lib.hid (And.intro hown (And.intro hnews (And.intro hone (And.intro h63 (And.intro hby hlen)))));clear hnews hone hown hi hz0 hz1 hz2 h63 hby hlen
  go_enter Tryz.func81,Tryz.ntmps81
  go_wp2_with (at_builtin;refine wpList_append_own _ rfl _ _ 88 rfl w.heap.size 151 i0 _ 2 16 Tryz.underlying88 Hi.out.1 Hi.out.2.1 Hi.out.2.2.1 Hi.out.2.2.2 rfl (by omega) (.slice (some ⟨w.heap.size,0,none⟩) 0 0) 0 [] rfl Hw.out.1 ad 0 cap [] rfl Hw.out.2.2.2.2.2 Hw.out.2.1 Hw.out.2.2.1 Hw.out.2.2.2.1 Hw.out.2.2.2.2.1 (by simp) ?_;intro v1 w1 ho hg hn;have Ho:=Lib.hid ho;have Hg:=Lib.hid hg;have Hn:=Lib.hid hn;clear ho hg hn)
  go_ret
  exact⟨v1,rfl,by have:=Ho.out;simpa using this,((Below.refl _ _).alloc (Nat.le_refl _) _).grown Hg.out (by simp) (by simp[Value.ownBlock])⟩
theorem cloneO0_H(f:Bool):gK Tryz.prog 81 [.lst 2 f []] fun e z ys=>e=151∧z=2∧ys=[]:=iO ⟨Tryz.f81,Tryz.func81,rfl,rfl⟩ (fun F w vals hsz hrel=>by
  obtain⟨u0,rfl⟩:∃u0,vals = #[u0]:=by
   obtain⟨l⟩:=vals
   match l,hsz with
   | [a],_=>exact⟨a,rfl⟩
  have r0:=hrel 0 _ u0 rfl rfl;cases r0
  refine(cloneE_H _ _ _).mono fun e' w' ⟨v,he,hown,hb⟩=>⟨v,he,hb,?_⟩
  obtain⟨_,⟨hv,_⟩ | ⟨g,c,cur,hv,hg,hc,hn,hm,hs,_⟩⟩:=hown
  ·exact .inl hv
  ·exact .inr ⟨g,c,cur,hv,hg,hc,hm,hs⟩)
theorem cloneO_H(l:List Shr)(f:Bool)(hl:l.length≤1000000):gK Tryz.prog 81 [.lst 2 f (l.map aQ)] fun e z ys=>e=151∧z=2∧ys=l.map aQ:=by
 cases l with
 | nil=>exact cloneO0_H f
 | cons x xs =>
  have hl':xs.length≤1000000:=by simp only[List.length_cons]at hl;omega
  refine dP (aD tok Tryz.func81 rfl rfl ?_);refine wx ?_;simp -implicitDefEqProofs -dsimp[Tryz.f81,List.replicate,eZ,je xs.length (by omega),aQ];exact⟨0,151,2,aQ x::xs.map aQ,by simp,rfl,by simp,rfl,rfl,rfl⟩
end
end Go.Proofs.YteijbpppalhihaaGreat
namespace Go.Proofs.YteijbpppalhihaaGreat
section
open Go Go.AM
section
theorem crL_inj{a b:List Cr}(h:crL a=crL b):a=b:=by
 have:=(List.map_inj_right (f:=aO) (l:=a) (l':=b) (fun x y h=>by cases x;cases y;simp[aO]at h;simp[h])).1 h;exact this
theorem del_take{α:Type}(l:List α)(i n m:Nat)(hn:l.length=n)(hi:i<n)(hm:m=n-1):(l.take i++(l.drop (i+1)++l.drop m)).take m=l.eraseIdx i:=by
 rw[List.eraseIdx_eq_take_drop_succ,←List.append_assoc,List.take_append_of_le_length (by simp;omega),List.take_of_length_le (by simp;omega)]
section
variable {H:List B} {k0:Nat}
theorem delete_h(hk0:k0<H.length)(l:List Cr)(n i:Nat)(hn:l.length=n)(hn2:n≤1000000)(hi:i<n):
  az Tryz.prog 77 [.buf k0 0 n n,.int .i64 i,.int .i64 ((i:Int)+1)] (CB H k0 l) fun r H'=>r = .buf k0 0 (n-1) n∧H'=CB H k0 (l.eraseIdx i++[⟨0,0⟩]):=by
 have g0:=CB_at hk0 l;have hnl:=bG l;obtain⟨j,hj⟩:∃j,j=i+1:=⟨_,rfl⟩
 have hji:((i:Int)+1)=(j:Int):=by omega
 rw[hji]
 have hne:¬(i:Int)=(j:Int):=by omega
 have hne2:¬i=j:=by omega
 obtain⟨m,hm⟩:∃m,m=n-1:=⟨_,rfl⟩
 have hmj:i+(n-j)=m:=by omega
 obtain⟨M,hM⟩:∃M,M=l.take i++(l.drop j++l.drop m):=⟨_,rfl⟩
 have hMl:M.length=n:=by rw[hM];simp;omega
 have hMt:M.take m=l.eraseIdx i:=by rw[hM,hj];exact del_take l i n m hn hi hm
 have hMc:crL M=List.take i (crL l)++(List.take (n-j) (List.drop j (crL l))++List.drop m (crL l)):=by
  rw[hM,List.take_of_length_le (l:=List.drop j (crL l)) (i:=n-j) (by rw[List.length_drop,bG];omega)];simp only[crL,List.map_append,List.map_take,List.map_drop]
 have hfill:=crL_fill M m n hMl
 have hR:M.take m++List.replicate (n-m) ⟨0,0⟩=l.eraseIdx i++[⟨0,0⟩]:=by rw[hMt,show n-m=1 by omega];rfl
 rw[hR]at hfill;rw[←hm];have g1:=CB_at hk0 M
 have hnM:(crL M).length=n:=by rw[bG,hMl]
 have hs1:=qH (H:=H) (k0:=k0) l M;have hs2:=qH (H:=H) (k0:=k0) M (l.eraseIdx i++[⟨0,0⟩]);generalize l.eraseIdx i++[⟨0,0⟩]=R at hfill hs2 ⊢;clear hM hMl hMt hR
 have s1:i≤n:=by omega
 have s2:j≤n:=by omega
 have s3:m≤n:=by omega
 have s4:¬m=n:=by omega
 have s5:¬n=m:=by omega
 have s6:¬n-m=0:=by omega
 have s7:¬i=n:=by omega
 refine aD tok Tryz.func77 rfl rfl ?_;refine wx ?_;simp -implicitDefEqProofs -dsimp[Tryz.f77,List.replicate,g0,hnl,hn,hne,hne2,show(i:Int)<n by omega,show i≤j by omega,show j≤n by omega]
 have s8:¬n=0:=by omega
 have s9:¬0=n:=by omega
 by_cases hi0:i=0
 ·subst hi0;rw[List.take_zero,List.nil_append]at hMc;by_cases hjn:j=n
  ·subst hjn;rw[Nat.sub_self,List.take_zero,List.nil_append,show m=0 by omega,List.drop_zero]at hMc
   obtain rfl:m=0:=by omega
   obtain rfl:=crL_inj hMc;rw[List.take_zero,List.nil_append,Nat.sub_zero]at hfill;refine aK (ai tok mixed [6] [] [] (by kernel_rfl) fun C K hC hK=>?_);simp -implicitDefEqProofs [g0,hnl,hn,s1,s2,s7,s8,s9,hs1];refine hK _ _ ?_;simp -implicitDefEqProofs -dsimp[g1,hnM,s3,s4,s5,s6,hfill,hs2,s8,s9]
  ·have hmj0:n-j=m:=by omega
   rw[hmj0]at hMc;refine aK (ai tok mixed [6] [] [] (by kernel_rfl) fun C K hC hK=>?_);simp -implicitDefEqProofs [g0,hnl,hn,hjn,s1,s2,s7,s8,s9,hmj0,hMc.symm,hs1,s3];refine hK _ _ ?_;simp -implicitDefEqProofs -dsimp[g1,hnM,s3,s4,s5,s6,hfill,hs2]
 ·by_cases hjn:j=n
  ·subst hjn;rw[Nat.sub_self,List.take_zero,List.nil_append,show m=i by omega]at hMc
   obtain rfl:m=i:=by omega
   rw[List.take_append_drop]at hMc;obtain rfl:=crL_inj hMc;refine aK (ai tok mixed [6] [] [] (by kernel_rfl) fun C K hC hK=>?_);simp -implicitDefEqProofs [g0,hnl,hn,hi0,s1,s2,s7,s8,s9,show ¬0=m by omega,hs1];refine hK _ _ ?_;simp -implicitDefEqProofs -dsimp[g1,hnM,s3,s4,s5,s6,hfill,hs2,s8,s9]
  ·refine aK (ai tok mixed [6] [] [] (by kernel_rfl) fun C K hC hK=>?_);simp -implicitDefEqProofs [g0,hnl,hn,hi0,hjn,s1,s2,s7,s8,show ¬0=i by omega,hmj,hMc.symm,hs1,s3];refine hK _ _ ?_;simp -implicitDefEqProofs -dsimp[g1,hnM,s3,s4,s5,s6,hfill,hs2]
end
end
section
section
variable {H:List B} {k0:Nat}
def KB(H:List B)(k0:Nat)(m:List V):List B:=H.set k0 (.buf 37 1 m false)
theorem KB_at(h:k0<H.length)(m:List V):(KB H k0 m)[k0]?=some (.buf 37 1 m false):=by
 unfold KB;rw[List.getElem?_set_self h]
theorem KB_set(m m':List V):(KB H k0 m).set k0 (.buf 37 1 m' false)=KB H k0 m':=by
 unfold KB;rw[List.set_set]
theorem vL_fill(ys:List V)(kk n:Nat)(v:V)(hn:ys.length=n):List.take kk ys++(List.replicate (n-kk) v++List.drop n ys)=ys.take kk++List.replicate (n-kk) v:=by
 rw[List.drop_of_length_le (l:=ys) (by omega),List.append_nil]
end
section
variable {H:List B} {k0:Nat}
theorem deleteL_h(hk0:k0<H.length)(l:List V)(n i:Nat)(hn:l.length=n)(hn2:n≤1000000)(hi:i<n):
  az Tryz.prog 78 [.buf k0 0 n n,.int .i64 i,.int .i64 ((i:Int)+1)] (KB H k0 l) fun r H'=>r = .buf k0 0 (n-1) n∧H'=KB H k0 (l.eraseIdx i++[V.nilS]):=by
 have g0:=KB_at hk0 l;have hnl:l.length=n:=hn;obtain⟨j,hj⟩:∃j,j=i+1:=⟨_,rfl⟩
 have hji:((i:Int)+1)=(j:Int):=by omega
 rw[hji]
 have hne:¬(i:Int)=(j:Int):=by omega
 have hne2:¬i=j:=by omega
 obtain⟨m,hm⟩:∃m,m=n-1:=⟨_,rfl⟩
 have hmj:i+(n-j)=m:=by omega
 obtain⟨M,hM⟩:∃M,M=l.take i++(l.drop j++l.drop m):=⟨_,rfl⟩
 have hMl:M.length=n:=by rw[hM];simp;omega
 have hMt:M.take m=l.eraseIdx i:=by rw[hM,hj];exact del_take l i n m hn hi hm
 have hMc:M=List.take i (l)++(List.take (n-j) (List.drop j (l))++List.drop m (l)):=by
  rw[hM,List.take_of_length_le (l:=List.drop j l) (i:=n-j) (by rw[List.length_drop];omega)]
 have hfill:=vL_fill M m n V.nilS hMl
 have hR:M.take m++List.replicate (n-m) V.nilS=l.eraseIdx i++[V.nilS]:=by rw[hMt,show n-m=1 by omega];rfl
 rw[hR]at hfill;rw[←hm];have g1:=KB_at hk0 M;have hnM:(M).length=n:=hMl;have hs1:=KB_set (H:=H) (k0:=k0) l M;have hs2:=KB_set (H:=H) (k0:=k0) M (l.eraseIdx i++[V.nilS]);generalize l.eraseIdx i++[V.nilS]=R at hfill hs2 ⊢;clear hMl hMt hR;clear hM
 have s1:i≤n:=by omega
 have s2:j≤n:=by omega
 have s3:m≤n:=by omega
 have s4:¬m=n:=by omega
 have s5:¬n=m:=by omega
 have s6:¬n-m=0:=by omega
 have s7:¬i=n:=by omega
 refine aD tok Tryz.func78 rfl rfl ?_;refine wx ?_;simp -implicitDefEqProofs -dsimp[Tryz.f78,List.replicate,g0,hnl,hn,hne,hne2,show(i:Int)<n by omega,show i≤j by omega,show j≤n by omega]
 have s8:¬n=0:=by omega
 have s9:¬0=n:=by omega
 by_cases hi0:i=0
 ·subst hi0;rw[List.take_zero,List.nil_append]at hMc;by_cases hjn:j=n
  ·subst hjn;rw[Nat.sub_self,List.take_zero,List.nil_append,show m=0 by omega,List.drop_zero]at hMc
   obtain rfl:m=0:=by omega
   obtain rfl:=hMc;rw[List.take_zero,List.nil_append,Nat.sub_zero]at hfill;refine aK (ai tok mixed [6] [] [] (by kernel_rfl) fun C K hC hK=>?_);simp -implicitDefEqProofs [g0,hnl,hn,s1,s2,s7,s8,s9,hs1];refine hK _ _ ?_;simp -implicitDefEqProofs -dsimp[g1,hnM,s3,s4,s5,s6,hfill,hs2,s8,s9]
  ·have hmj0:n-j=m:=by omega
   rw[hmj0]at hMc;refine aK (ai tok mixed [6] [] [] (by kernel_rfl) fun C K hC hK=>?_);simp -implicitDefEqProofs [g0,hnl,hn,hjn,s1,s2,s7,s8,s9,hmj0,hMc.symm,hs1,s3];refine hK _ _ ?_;simp -implicitDefEqProofs -dsimp[g1,hnM,s3,s4,s5,s6,hfill,hs2]
 ·by_cases hjn:j=n
  ·subst hjn;rw[Nat.sub_self,List.take_zero,List.nil_append,show m=i by omega]at hMc
   obtain rfl:m=i:=by omega
   rw[List.take_append_drop]at hMc;obtain rfl:=hMc;refine aK (ai tok mixed [6] [] [] (by kernel_rfl) fun C K hC hK=>?_);simp -implicitDefEqProofs [g0,hnl,hn,hi0,s1,s2,s7,s8,s9,show ¬0=m by omega,hs1];refine hK _ _ ?_;simp -implicitDefEqProofs -dsimp[g1,hnM,s3,s4,s5,s6,hfill,hs2,s8,s9]
  ·refine aK (ai tok mixed [6] [] [] (by kernel_rfl) fun C K hC hK=>?_);simp -implicitDefEqProofs [g0,hnl,hn,hi0,hjn,s1,s2,s7,s8,show ¬0=i by omega,hmj,hMc.symm,hs1,s3];refine hK _ _ ?_;simp -implicitDefEqProofs -dsimp[g1,hnM,s3,s4,s5,s6,hfill,hs2]
end
end
theorem kB{H:List B}{n:Nat}{c0 c1 c2 c3 c4 c5 d0 d1 d2 d3 d4 d5:V}(h0:ExpN H n c0 d0)(h1:ExpN H n c1 d1)(h2:ExpN H n c2 d2)(h3:ExpN H n c3 d3)(h4:ExpN H n c4 d4)(h5:ExpN H n c5 d5):ExpN H n (.agg [c0,c1,c2,c3,c4,c5]) (.agg [d0,d1,d2,d3,d4,d5]):=by
 refine .agg _ _ rfl (fun i c d hc hd=>?_)
 match i with
 | 0=>simp at hc hd;subst hc;subst hd;exact h0
 | 1=>simp at hc hd;subst hc;subst hd;exact h1
 | 2=>simp at hc hd;subst hc;subst hd;exact h2
 | 3=>simp at hc hd;subst hc;subst hd;exact h3
 | 4=>simp at hc hd;subst hc;subst hd;exact h4
 | 5=>simp at hc hd;subst hc;subst hd;exact h5
 | k+6=>simp at hc
theorem kC{H:List B}{n k len tot e z:Nat}{xs ys:List V}{fz:Bool}(hn:n≤k)(hk:H[k]?=some (.buf e z xs fz))(ht:tot=xs.length)(hl:len≤tot)(hp:∀x∈xs,AM.Pure x)(hy:xs.take len=ys):ExpN H n (.buf k 0 len tot) (.lst z false ys):=hy▸eo hn hk ht hl hp
theorem gy(i n:Nat):((i:Int).tmod (n:Int))=((i % n:Nat):Int):=by
 rw[Int.natCast_emod];exact Int.tmod_eq_emod_of_nonneg (by omega)
theorem spoil_0(t:Tb)(ff gg:Bool)(u:Upd)(s:Spl)(hv:TbV t)(hs:SplOk s)(q:Int)(hq:s.k.tmod 9=q)(h1:¬q=1)(h2:¬q=2)(h3:¬q=3)(h4:¬q=4)(h5:¬q=5)(h6:¬q=6)(h7:¬q=7)(h8:¬q=8):
  aS Tryz.prog 33 [aF ff gg t,aI u,aY s] fun r=>r=aI u:=by
 have c1:=dR t ff gg (by have:=hv.rows;omega) (by have:=hv.attrs;omega);simp only[aF,LS,LR,LC]at c1;refine aC (aD tok Tryz.func33 rfl rfl ?_);refine wx ?_;simp -implicitDefEqProofs -dsimp[Tryz.f33,List.replicate,dS s.i (by have:=hs.i;omega),aF,LS,LR,LC,aI,LLC,LNd,aY];refine(aG (c1) (by simp)).mono ?_;rintro r H' ⟨rfl,rfl⟩;simp -implicitDefEqProofs -dsimp[hq,h1,h2,h3,h4,h5,h6,h7,h8,aF,LS,LR,LC,aI,LLC,LNd,aY]
def spH(ff gg:Bool)(t:Tb)(u:Upd)(s:Spl)(G:List B):List B:=B.cells [.str t.name,.lst 1 ff (t.attrs.map V.str),.lst 2 gg (t.rows.map aN)]::B.cells [.lst 2 false (u.cells.map aO),.str u.tab.name,.lst 1 false (u.tab.attrs.map V.str),.lst 2 false (u.tab.rows.map aN),.lst 1 false (u.cores.map (LC false)),.lst 2 false (u.prf.map aT)]::B.cells [.int .u8 s.k,.int .u8 s.i,.int .i8 s.y]::B.cells [.nilS,.str ByteArray.empty,.nilS,.nilS,.nilS,.nilS]::G
theorem spoil_1(t:Tb)(ff gg:Bool)(u:Upd)(s:Spl)(k:Nat)(hv:TbV t)(hs:SplOk s)(hu:SpB t k u)(hk:k≤2)(hq:s.k.tmod 9=1):
  aS Tryz.prog 33 [aF ff gg t,aI u,aY s] fun r=>r=aI (sp1 u s):=by
 have c1:=dR t ff gg (by have:=hv.rows;omega) (by have:=hv.attrs;omega);have wi:=dS s.i (by have:=hs.i;omega);simp only[aF,LS,LR,LC]at c1;by_cases hne:u.cells=[]
 ·rw[show sp1 u s=u by unfold sp1;rw[if_pos hne]];refine aC (aD tok Tryz.func33 rfl rfl ?_);refine wx ?_;simp -implicitDefEqProofs -dsimp[Tryz.f33,List.replicate,wi,hne,aF,LS,LR,LC,aI,LLC,LNd,aY];refine(aG (c1) (by simp)).mono ?_;rintro r H' ⟨rfl,rfl⟩;simp -implicitDefEqProofs -dsimp[hq,hne,aF,LS,LR,LC,aI,LLC,LNd,aY]
 ·have hcl:=hu.cells;obtain⟨n,hn⟩:∃n,u.cells.length=n:=⟨_,rfl⟩
  have hn0:0<n:=by rw[←hn];exact List.length_pos_iff.2 hne
  obtain⟨j,hj⟩:∃j,s.i % n=j:=⟨_,rfl⟩
  have hjn:j<n:=by rw[←hj];exact Nat.mod_lt _ hn0
  have hmod:(s.i:Int).tmod (n:Int)=(j:Int):=by rw[gy,hj]
  rw[show sp1 u s=⟨u.cells.eraseIdx j,u.tab,u.cores,u.prf⟩ by unfold sp1;rw[if_neg hne,hn,hj]];have cc:=cloneO_C u.cells false (by omega)
  have cd:az Tryz.prog 77 [.buf 4 0 n n,.int .i64 j,.int .i64 ((j:Int)+1)] (spH ff gg t u s [B.buf 49 2 (crL u.cells) false]) fun r H'=>r = .buf 4 0 (n-1) n∧H'=spH ff gg t u s [B.buf 49 2 (crL (u.cells.eraseIdx j++[⟨0,0⟩])) false]:=delete_h (H:=spH ff gg t u s [B.buf 49 2 (crL u.cells) false]) (k0:=4) (by simp[spH]) u.cells n j hn (by omega) hjn
  have hel:(u.cells.eraseIdx j).length=n-1:=by rw[List.length_eraseIdx,if_pos (by omega),hn]
  generalize u.cells.eraseIdx j=W at cd hel ⊢;refine cD (dL (K:=fun r=>r=aI ⟨W,u.tab,u.cores,u.prf⟩) ?_);refine aD tok Tryz.func33 rfl rfl ?_;refine wx ?_;simp -implicitDefEqProofs -dsimp[Tryz.f33,List.replicate,wi,aF,LS,LR,LC,aI,LLC,LNd,aY];refine(aG (c1) (by simp)).mono ?_;rintro r H' ⟨rfl,rfl⟩;simp -implicitDefEqProofs -dsimp[hq,hn,hn0,show(0:Int)<(n:Int) by omega,aF,LS,LR,LC,aI,LLC,LNd,aY];refine aK (ai tok mixed [2,14,16] [(5,[0]),(6,[0]),(10,[0]),(11,[0])] [(.buf 4 0 n n,spH ff gg t u s [B.buf 49 2 (crL u.cells) false]),(.buf 4 0 (n-1) n,spH ff gg t u s [B.buf 49 2 (crL (W++[⟨0,0⟩])) false])] (by kernel_rfl) fun C K hC hK=>?_);simp -implicitDefEqProofs [hmod,hn,aM j (by omega),spH,show ¬(n:Int)=0 by omega,show ¬n=0 by omega,aF,LS,LR,LC,aI,LLC,LNd,aY];simp only[spH]at cd;refine⟨⟨hC _ _ _ _ ?_,hC _ _ _ _ ?_⟩,hK _ _ ?_⟩
  ·refine(ep cc (by simp)).mono ?_;rintro r H' ⟨e,z,xs,rfl,rfl,_,rfl,rfl,rfl⟩;exact⟨by simp[hn],by simp[crL]⟩
  ·refine dY cd ?_;rintro r H' ⟨rfl,rfl⟩;exact⟨rfl,rfl⟩
  ·simp -implicitDefEqProofs -dsimp[];refine⟨?_,by unfold aI;simp⟩;exact kB (kC (k:=4) (Nat.zero_le _) rfl (by rw[bG];simp;omega) (by omega) (fun x hx=>(iM _ x hx).1) (by rw[←hel];simp[crL])) (.pure _ (by simp)) (.pure _ (by simp)) (.pure _ (by simp)) (.pure _ (by simp)) (.pure _ (by simp))
theorem spoil_2(t:Tb)(ff gg:Bool)(u:Upd)(s:Spl)(k:Nat)(hv:TbV t)(hs:SplOk s)(hu:SpB t k u)(hk:k≤2)(hq:s.k.tmod 9=2):
  aS Tryz.prog 33 [aF ff gg t,aI u,aY s] fun r=>r=aI (sp2 t u s):=by
 have c1:=dR t ff gg (by have:=hv.rows;omega) (by have:=hv.attrs;omega);have wi:=dS s.i (by have:=hs.i;omega);by_cases hne:aa t=[]
 ·rw[show sp2 t u s=u by unfold sp2;rw[if_pos hne]];rw[hne]at c1;simp only[aF,LS,LR,LC]at c1;refine aC (aD tok Tryz.func33 rfl rfl ?_);refine wx ?_;simp -implicitDefEqProofs -dsimp[Tryz.f33,List.replicate,wi,aF,LS,LR,LC,aI,LLC,LNd,aY];refine(aG (c1) (by simp)).mono ?_;rintro r H' ⟨rfl,rfl⟩;simp -implicitDefEqProofs -dsimp[hq,aF,LS,LR,LC,aI,LLC,LNd,aY];exact .inr (aJ (by kernel_rfl))
 ·obtain⟨N,hN⟩:∃N,(aa t).length=N:=⟨_,rfl⟩
  have hN0:0<N:=by rw[←hN];exact List.length_pos_iff.2 hne
  obtain⟨x,hx⟩:∃x,s.i % N=x:=⟨_,rfl⟩
  have hxN:x<N:=by rw[←hx];exact Nat.mod_lt _ hN0
  have hxl:x<(aa t).length:=by omega
  have hmod:(s.i:Int).tmod (N:Int)=(x:Int):=by rw[gy,hx]
  obtain⟨c,hc⟩:∃c,c=(aa t)[x]:=⟨_,rfl⟩;have hcl:=hu.cells;obtain⟨n,hn⟩:∃n,u.cells.length=n:=⟨_,rfl⟩;have c2:=containsC u.cells c false (by omega)
  have hsp:sp2 t u s=if dD u.cells c=true then u else⟨u.cells++[c],u.tab,u.cores,u.prf⟩:=by
   unfold sp2;rw[if_neg hne,hN,hx,gh hxl,←hc]
  rw[hsp];simp only[aF,LS,LR,LC,aO]at c1 c2
  cases hh:dD u.cells c with
  | true =>
   rw[hh]at c2;rw[if_pos rfl];refine aC (aD tok Tryz.func33 rfl rfl ?_);refine wx ?_;simp -implicitDefEqProofs -dsimp[Tryz.f33,List.replicate,wi,aF,LS,LR,LC,aI,LLC,LNd,aY];refine(aG (c1) (by simp)).mono ?_;rintro r H' ⟨rfl,rfl⟩;simp -implicitDefEqProofs -dsimp[hq,hN,hN0,show(0:Int)<(N:Int) by omega,hmod,hxN,hxl,hc.symm,aO,show ¬(N:Int)=0 by omega,show ¬N=0 by omega,aF,LS,LR,LC,aI,LLC,LNd,aY];refine .inr ⟨aJ (by kernel_rfl),?_⟩;refine aj _ (aG (c2) (by simp)) ?_;simp -implicitDefEqProofs -dsimp[aF,LS,LR,LC,aI,LLC,LNd,aY]
  | false =>
   rw[hh]at c2;rw[if_neg (by simp)];have cc:=cloneO_C u.cells false (by omega);refine cD (dL (K:=fun r=>r=aI ⟨u.cells++[c],u.tab,u.cores,u.prf⟩) ?_);refine aD tok Tryz.func33 rfl rfl ?_;refine wx ?_;simp -implicitDefEqProofs -dsimp[Tryz.f33,List.replicate,wi,aF,LS,LR,LC,aI,LLC,LNd,aY];refine(aG (c1) (by simp)).mono ?_;rintro r H' ⟨rfl,rfl⟩;simp -implicitDefEqProofs -dsimp[hq,hN,hN0,show(0:Int)<(N:Int) by omega,hmod,hxN,hxl,hc.symm,aO,show ¬(N:Int)=0 by omega,show ¬N=0 by omega,aF,LS,LR,LC,aI,LLC,LNd,aY];refine .inr ⟨aJ (by kernel_rfl),?_⟩;refine aj _ (aG (c2) (by simp)) ?_;simp -implicitDefEqProofs -dsimp[aF,LS,LR,LC,aI,LLC,LNd,aY];refine aK (ai tok mixed [2,11,13] [(6,[0]),(8,[0]),(9,[0]),(10,[0])] [(.buf 4 0 n n,spH ff gg t u s [B.buf 49 2 (crL u.cells) false])] (by kernel_rfl) fun C K hC hK=>?_);simp -implicitDefEqProofs [hmod,hn,hN,hxN,hxl,hc.symm,aO,spH,bG,je n (by omega),show ¬(N:Int)=0 by omega,show ¬N=0 by omega,aF,LS,LR,LC,aI,LLC,LNd,aY];refine⟨hC _ _ _ _ ?_,hK _ _ ?_⟩
   ·refine(ep cc (by simp)).mono ?_;rintro r H' ⟨e,z,xs,rfl,rfl,_,rfl,rfl,rfl⟩;exact⟨by simp[hn],by simp[crL]⟩
   ·simp -implicitDefEqProofs -dsimp[];refine⟨?_,by unfold aI;simp⟩
    exact kB (kC (k:=4) (Nat.zero_le _) rfl (by simp[bG,hn]) (by omega) (fun x hx=>by
     rcases List.mem_append.1 hx with h | h
     ·exact(iM _ x h).1
     ·rw[List.mem_singleton]at h;subst h;simp) (List.take_of_length_le (by simp[bG,hn]) |>.trans (by simp[crL,aO]))) (.pure _ (by simp)) (.pure _ (by simp)) (.pure _ (by simp)) (.pure _ (by simp)) (.pure _ (by simp))
theorem oE{H:List B}{c0 c1 c2 c3 c4 c5 d0 d1 d2 d3 d4 d5:V}(h0:ExpX H c0 d0)(h1:ExpX H c1 d1)(h2:ExpX H c2 d2)(h3:ExpX H c3 d3)(h4:ExpX H c4 d4)(h5:ExpX H c5 d5):ExpX H (.agg [c0,c1,c2,c3,c4,c5]) (.agg [d0,d1,d2,d3,d4,d5]):=by
 refine .agg _ _ rfl (fun i c d hc hd=>?_)
 match i with
 | 0=>simp at hc hd;subst hc;subst hd;exact h0
 | 1=>simp at hc hd;subst hc;subst hd;exact h1
 | 2=>simp at hc hd;subst hc;subst hd;exact h2
 | 3=>simp at hc hd;subst hc;subst hd;exact h3
 | 4=>simp at hc hd;subst hc;subst hd;exact h4
 | 5=>simp at hc hd;subst hc;subst hd;exact h5
 | k+6=>simp at hc
theorem pe{H:List B}{l:List Nde}{j n e:Nat}{c:V}{nd:Nde}(hn:l.length=n)(hk:H[4]?=some (.buf e 2 ((l.map aT).set j c) false))(hc:ExpX H c (aT nd)):ExpX H (.buf 4 0 n n) (.lst 2 false ((l.set j nd).map aT)):=by
 have:=ExpX.bufx (H:=H) 4 e 2 ((l.map aT).set j c) ((l.set j nd).map aT) false hk (by simp) (fun i a b ha hb=>by
  rw[List.getElem?_set]at ha;rw[List.map_set,List.getElem?_set]at hb;by_cases hij:j=i
  ·rw[if_pos hij]at ha hb;split at ha
   ·rename_i hl;rw[if_pos hl]at hb;cases ha;cases hb;exact hc
   ·cases ha
  ·rw[if_neg hij]at ha hb;rw[ha]at hb;cases hb;obtain⟨y,_,rfl⟩:=List.mem_map.1 (List.mem_of_getElem? ha)
   exact .pure _ (by simp))
 rw[List.length_set,List.length_map,hn]at this;exact this
theorem LNd_snoc{s:AM.St}{l:List Nde}{w:Value}(h:Rel s (.lst 2 false (l.map aT++[.agg [.int .i64 (-1),.nilS]])) w):Rel s (LNd false (l++[⟨-1,[]⟩])) w:=by
 refine og h (by simp) (fun y hy=>?_) (fun i x y hx hy j c hc=>?_)
 ·obtain⟨z,_,rfl⟩:=List.mem_map.1 hy;refine⟨rfl,fun c hc=>?_⟩;simp only[aT,V.cells,List.mem_cons,List.not_mem_nil,or_false]at hc
  rcases hc with rfl | rfl<;>rfl
 ·rw[List.map_append]at hy;by_cases hi:i<(l.map aT).length
  ·rw[List.getElem?_append_left hi]at hx hy;rw[hx]at hy;cases hy;exact⟨c,hc,.inl rfl⟩
  ·rw[List.getElem?_append_right (by omega)]at hx hy;obtain⟨q,hq⟩:∃q,q=i-(l.map aT).length:=⟨_,rfl⟩;rw[←hq]at hx hy
   match q with
   | 0 =>
    simp at hx hy;subst hx;subst hy
    match j with
    | 0=>exact⟨_,rfl,.inl (Option.some.inj (show some c=some (V.int .i64 (-1)) from hc.symm))⟩
    | 1 =>
     have e:=Option.some.inj hc;subst e;exact⟨_,rfl,.inr (.inr ⟨2,rfl,rfl⟩)⟩
    | j+2=>simp[aT,V.cells]at hc
   | q+1=>simp at hx
theorem spoil_6(t:Tb)(ff gg:Bool)(u:Upd)(s:Spl)(k:Nat)(hv:TbV t)(hs:SplOk s)(hu:SpB t k u)(hk:k≤2)(hq:s.k.tmod 9=6):
  aS Tryz.prog 33 [aF ff gg t,aI u,aY s] fun r=>r=aI (sp6 u):=by
 have c1:=dR t ff gg (by have:=hv.rows;omega) (by have:=hv.attrs;omega);have wi:=dS s.i (by have:=hs.i;omega);simp only[aF,LS,LR,LC]at c1;have hcl:=hu.prf;obtain⟨n,hn⟩:∃n,u.prf.length=n:=⟨_,rfl⟩;have cc:=cloneO_N u.prf false (by omega)
 have key:aS Tryz.prog 33 [aF ff gg t,aI u,aY s] fun r=>r = .agg [LC false u.cells,.str u.tab.name,LS false u.tab.attrs,LR false u.tab.rows,LLC false false u.cores,.lst 2 false (u.prf.map aT++[.agg [.int .i64 (-1),.nilS]])]:=by
  refine cU (aD tok Tryz.func33 rfl rfl ?_);refine wx ?_;simp -implicitDefEqProofs -dsimp[Tryz.f33,List.replicate,wi,aF,LS,LR,LC,aI,LLC,LNd,aY];refine(aG (c1) (by simp)).mono ?_;rintro r H' ⟨rfl,rfl⟩;simp -implicitDefEqProofs -dsimp[hq,aF,LS,LR,LC,aI,LLC,LNd,aY];refine(ep cc (by simp)).mono ?_;rintro r H' ⟨e,z,xs,rfl,rfl,_,rfl,rfl,rfl⟩;simp -implicitDefEqProofs -dsimp[hn,jd n (by omega),aF,LS,LR,LC,aI,LLC,LNd,aY];refine⟨?_,fun x hx=>?_⟩
  rotate_left
  ·rcases hx with⟨y,_,rfl⟩ | rfl<;>simp
  exact oE (.pure _ (by simp)) (.pure _ (by simp)) (.pure _ (by simp)) (.pure _ (by simp)) (.pure _ (by simp)) (iI rfl (by simp[hn]) (fun x hx=>by
   rcases List.mem_append.1 hx with h | h
   ·obtain⟨y,_,rfl⟩:=List.mem_map.1 h;simp
   ·rw[List.mem_singleton]at h;subst h;simp))
 refine iN key (fun st w r hr hrel=>?_);subst hr;refine⟨_,?_,by unfold aI;simp,rfl⟩
 cases hrel with
 | agg _ us hl hz hh =>
  refine .agg _ us hl ?_ (fun i c w hc hw=>?_)
  ·intro c hc;unfold sp6 at hc;simp only[List.mem_cons,List.not_mem_nil,or_false]at hc
   rcases hc with rfl | rfl | rfl | rfl | rfl | rfl<;>rfl
  match i with
  | 5 =>
   have e:=Option.some.inj hc;subst e;exact LNd_snoc (hh 5 _ w rfl hw)
  | 0=>exact hh 0 c w hc hw
  | 1=>exact hh 1 c w hc hw
  | 2=>exact hh 2 c w hc hw
  | 3=>exact hh 3 c w hc hw
  | 4=>exact hh 4 c w hc hw
  | i+6=>simp[aI]at hc
theorem spoil_7(t:Tb)(ff gg:Bool)(u:Upd)(s:Spl)(k:Nat)(hv:TbV t)(hs:SplOk s)(hu:SpB t k u)(hk:k≤2)(hq:s.k.tmod 9=7):
  aS Tryz.prog 33 [aF ff gg t,aI u,aY s] fun r=>r=aI (sp7 u s):=by
 have c1:=dR t ff gg (by have:=hv.rows;omega) (by have:=hv.attrs;omega);have wi:=dS s.i (by have:=hs.i;omega);simp only[aF,LS,LR,LC]at c1;have hcl:=hu.prf;have cc:=cloneO_N u.prf false (by omega);by_cases hne:u.prf=[]
 ·rw[show sp7 u s=u by unfold sp7;rw[if_pos hne]];rw[hne]at cc;refine cU (aD tok Tryz.func33 rfl rfl ?_);refine wx ?_;simp -implicitDefEqProofs -dsimp[Tryz.f33,List.replicate,wi,hne,aF,LS,LR,LC,aI,LLC,LNd,aY];refine(aG (c1) (by simp)).mono ?_;rintro r H' ⟨rfl,rfl⟩;simp -implicitDefEqProofs -dsimp[hq,hne,aF,LS,LR,LC,aI,LLC,LNd,aY];refine(ep cc (by simp)).mono ?_;rintro r H' ⟨e,z,xs,rfl,rfl,_,rfl,rfl,rfl⟩;simp -implicitDefEqProofs -dsimp[aF,LS,LR,LC,aI,LLC,LNd,aY];rw[hne];exact oE (.pure _ (by simp)) (.pure _ (by simp)) (.pure _ (by simp)) (.pure _ (by simp)) (.pure _ (by simp)) (iI rfl rfl (by simp))
 ·obtain⟨n,hn⟩:∃n,u.prf.length=n:=⟨_,rfl⟩
  have hn0:0<n:=by rw[←hn];exact List.length_pos_iff.2 hne
  obtain⟨j,hj⟩:∃j,s.i % n=j:=⟨_,rfl⟩
  have hjn:j<n:=by rw[←hj];exact Nat.mod_lt _ hn0
  have hjl:j<u.prf.length:=by omega
  have hmod:(s.i:Int).tmod (n:Int)=(j:Int):=by rw[gy,hj]
  obtain⟨nd,hnd⟩:∃nd,nd=u.prf[j]:=⟨_,rfl⟩
  have hsp:sp7 u s=⟨u.cells,u.tab,u.cores,u.prf.set j (nd7 s.y nd)⟩:=by
   unfold sp7;rw[if_neg hne,hn,hj,show ndG u.prf j=nd by rw[hnd];simp[ndG,hjl]]
  rw[hsp];obtain⟨W,hW⟩:∃W,W=u.prf.set j (nd7 s.y nd):=⟨_,rfl⟩;rw[←hW];clear hsp;have wy:IntKind.i64.wrap s.y=s.y:=wrap64 (by have:=hs.y0;omega) (by have:=hs.y1;omega)
  have hml:nd.l.length≤1000000:=by have:=hu.sh nd (by rw[hnd];exact List.getElem_mem hjl);omega
  have ch:=cloneO_H nd.l false hml;obtain⟨v,sl⟩:=nd;simp only at ch hml
  cases sl with
  | nil =>
   simp only[List.map_nil]at ch;refine cU (aD tok Tryz.func33 rfl rfl ?_);refine wx ?_;simp -implicitDefEqProofs -dsimp[Tryz.f33,List.replicate,wi,aF,LS,LR,LC,aI,LLC,LNd,aY,aT,LSh];refine(aG (c1) (by simp)).mono ?_;rintro r H' ⟨rfl,rfl⟩;simp -implicitDefEqProofs -dsimp[hq,hn,aF,LS,LR,LC,aI,LLC,LNd,aY,aT,LSh];refine(ep cc (by simp)).mono ?_;rintro r H' ⟨e,z,xs,rfl,rfl,_,rfl,rfl,rfl⟩;simp -implicitDefEqProofs -dsimp[hn,hn0,show(0:Int)<(n:Int) by omega,hmod,hjn,hjl,hnd.symm,show ¬(n:Int)=0 by omega,show ¬n=0 by omega,aF,LS,LR,LC,aI,LLC,LNd,aY,aT,LSh];refine .inr ⟨aJ (by kernel_rfl),?_⟩;refine(ep ch (by simp)).mono ?_;rintro r H' ⟨e,z,xs,rfl,rfl,_,rfl,rfl,rfl⟩;simp -implicitDefEqProofs -dsimp[hn,hjn,hjl,aF,LS,LR,LC,aI,LLC,LNd,aY,aT,LSh];refine aK (ai tok mixed [11] [] [] (by kernel_rfl) fun C K hC hK=>?_);simp -implicitDefEqProofs [hn,hjn,hjl,wy,aF,LS,LR,LC,aI,LLC,LNd,aY,aT,LSh];refine hK _ _ ?_;simp -implicitDefEqProofs -dsimp[aF,LS,LR,LC,aI,LLC,LNd,aY,aT,LSh];rw[hW]
   have hv0:u.prf[j].v=v:=by rw[←hnd]
   rw[hv0];exact oE (.pure _ (by simp)) (.pure _ (by simp)) (.pure _ (by simp)) (.pure _ (by simp)) (.pure _ (by simp)) (pe hn rfl (ExpX.agg2 (.pure _ (by simp)) (iI rfl rfl (by simp))))
  | cons x sl =>
   obtain⟨m,hm⟩:∃m,sl.length=m:=⟨_,rfl⟩;simp only[List.map_cons]at ch;refine cU (aD tok Tryz.func33 rfl rfl ?_);refine wx ?_;simp -implicitDefEqProofs -dsimp[Tryz.f33,List.replicate,wi,aF,LS,LR,LC,aI,LLC,LNd,aY,aT,LSh];refine(aG (c1) (by simp)).mono ?_;rintro r H' ⟨rfl,rfl⟩;simp -implicitDefEqProofs -dsimp[hq,hn,aF,LS,LR,LC,aI,LLC,LNd,aY,aT,LSh];refine(ep cc (by simp)).mono ?_;rintro r H' ⟨e,z,xs,rfl,rfl,_,rfl,rfl,rfl⟩;simp -implicitDefEqProofs -dsimp[hn,hn0,show(0:Int)<(n:Int) by omega,hmod,hjn,hjl,hnd.symm,show ¬(n:Int)=0 by omega,show ¬n=0 by omega,aF,LS,LR,LC,aI,LLC,LNd,aY,aT,LSh];refine .inr ⟨aJ (by kernel_rfl),?_⟩;refine(ep ch (by simp)).mono ?_;rintro r H' ⟨e,z,xs,rfl,rfl,_,rfl,rfl,rfl⟩;simp -implicitDefEqProofs -dsimp[hn,hjn,hjl,hm,aF,LS,LR,LC,aI,LLC,LNd,aY,aT,LSh];refine aK (ai tok mixed [13] [] [] (by kernel_rfl) fun C K hC hK=>?_);simp -implicitDefEqProofs [hn,hjn,hjl,wy,hm,aQ,aF,LS,LR,LC,aI,LLC,LNd,aY,aT,LSh];refine hK _ _ ?_;simp -implicitDefEqProofs -dsimp[hn,hjn,hjl,hm,aF,LS,LR,LC,aI,LLC,LNd,aY,aT,LSh];refine aK (ai tok mixed [11] [] [] (by kernel_rfl) fun C K hC hK=>?_);simp -implicitDefEqProofs [hn,hjn,hjl,wy,aF,LS,LR,LC,aI,LLC,LNd,aY,aT,LSh];refine hK _ _ ?_;simp -implicitDefEqProofs -dsimp[aF,LS,LR,LC,aI,LLC,LNd,aY,aT,LSh];rw[hW]
   have hv0:u.prf[j].v=v:=by rw[←hnd]
   rw[hv0]
   exact oE (.pure _ (by simp)) (.pure _ (by simp)) (.pure _ (by simp)) (.pure _ (by simp)) (.pure _ (by simp)) (pe hn rfl (ExpX.agg2 (.pure _ (by simp)) (iI rfl (by simp[nd7,sh7,hm]) (fun y hy=>by
    rcases List.mem_cons.1 hy with rfl | h
    ·simp
    ·obtain⟨z,_,rfl⟩:=List.mem_map.1 h;simp))))
theorem encUp_one(u:Upd):∀c∈[LC false u.cells,.str u.tab.name,LS false u.tab.attrs,LR false u.tab.rows,LLC false false u.cores,LNd false u.prf],c.one=true:=by
 intro c hc;simp only[List.mem_cons,List.not_mem_nil,or_false]at hc
 rcases hc with rfl | rfl | rfl | rfl | rfl | rfl<;>rfl
theorem spoil_3(t:Tb)(ff gg:Bool)(u:Upd)(s:Spl)(k:Nat)(hv:TbV t)(hs:SplOk s)(hu:SpB t k u)(hq:s.k.tmod 9=3):
  aS Tryz.prog 33 [aF ff gg t,aI u,aY s] fun r=>r=aI (sp3 t u s):=by
 have c1:=dR t ff gg (by have:=hv.rows;omega) (by have:=hv.attrs;omega);have wi:=dS s.i (by have:=hs.i;omega);by_cases hne:aa t=[]
 ·rw[show sp3 t u s=u by unfold sp3;rw[if_pos hne]];rw[hne]at c1;simp only[aF,LS,LR,LC]at c1;refine aC (aD tok Tryz.func33 rfl rfl ?_);refine wx ?_;simp -implicitDefEqProofs -dsimp[Tryz.f33,List.replicate,wi,aF,LS,LR,LC,aI,LLC,LNd,aY];refine(aG (c1) (by simp)).mono ?_;rintro r H' ⟨rfl,rfl⟩;simp -implicitDefEqProofs -dsimp[hq,aF,LS,LR,LC,aI,LLC,LNd,aY]
 ·obtain⟨N,hN⟩:∃N,(aa t).length=N:=⟨_,rfl⟩
  have hN0:0<N:=by rw[←hN];exact List.length_pos_iff.2 hne
  obtain⟨x,hx⟩:∃x,s.i % N=x:=⟨_,rfl⟩
  have hxN:x<N:=by rw[←hx];exact Nat.mod_lt _ hN0
  have hxl:x<(aa t).length:=by omega
  have hmod:(s.i:Int).tmod (N:Int)=(x:Int):=by rw[gy,hx]
  have hNN:=dM t;rw[hN]at hNN
  have hn0:0<t.attrs.length:=by
   rcases Nat.eq_zero_or_pos t.attrs.length with e | e
   ·rw[e]at hNN;omega
   ·exact e
  have hi:x / t.attrs.length<t.rows.length:=by rw[Nat.div_lt_iff_lt_mul hn0];omega
  have ha:x % t.attrs.length<t.attrs.length:=Nat.mod_lt _ hn0;obtain⟨c,hc⟩:∃c,c=(aa t)[x]:=⟨_,rfl⟩
  have hce:c=⟨(rwG u.tab.rows (x / t.attrs.length)).id,((x % t.attrs.length:Nat):Int)⟩:=by
   rw[hu.ids _ hi,hc];simp only[aa,List.getElem_map,List.getElem_range];unfold bN;rw[bF hi,er hi]
  have c3:=change_ok u.tab false false (x / t.attrs.length) (x % t.attrs.length) (ofY s.y) hu.tab (by rw[hu.rows];exact hi) (by rw[hu.attrs];exact ha) (ma _);have c2:=of01 (IntKind.u8.wrap s.y);rw[←hce]at c3;rw[show ofC (IntKind.u8.wrap s.y)=ofY s.y from rfl]at c2
  have hsp:sp3 t u s=⟨u.cells,lD u.tab (x / t.attrs.length) (x % t.attrs.length) (ofY s.y),u.cores,u.prf⟩:=by
   unfold sp3;rw[if_neg hne,hN,hx]
  rw[hsp];generalize lD u.tab (x / t.attrs.length) (x % t.attrs.length) (ofY s.y)=W at c3 ⊢;generalize ofY s.y=v at c2 c3;simp only[aF,LS,LR,LC,am,aO]at c1 c2 c3;refine aC (aD tok Tryz.func33 rfl rfl ?_);refine wx ?_;simp -implicitDefEqProofs -dsimp[Tryz.f33,List.replicate,wi,aF,LS,LR,LC,aI,LLC,LNd,aY];refine(aG (c1) (by simp)).mono ?_;rintro r H' ⟨rfl,rfl⟩;simp -implicitDefEqProofs -dsimp[hq,hN,hN0,show(0:Int)<(N:Int) by omega,aF,LS,LR,LC,aI,LLC,LNd,aY];refine aK (ai tok mixed [17,18] [(0,[1]),(1,[1]),(2,[1]),(3,[1]),(4,[1]),(5,[1]),(6,[1]),(7,[1]),(8,[1]),(9,[1]),(10,[1]),(11,[1]),(12,[1]),(13,[1]),(14,[1]),(15,[1]),(16,[1,2])] [(am v,[]),(.tup [aF false false W,.int .i64 0],[])] (by kernel_rfl) fun C K hC hK=>?_);simp -implicitDefEqProofs [hmod,hN,hxN,hxl,hc.symm,aO,am,show ¬(N:Int)=0 by omega,show ¬N=0 by omega,aF,LS,LR,LC,aI,LLC,LNd,aY];refine⟨by(repeat' apply And.intro)<;>first | exact hC _ _ _ _ (aG c2 (by simp)) | exact hC _ _ _ _ (aG c3 (by simp)),hK _ _ ?_⟩;simp -implicitDefEqProofs -dsimp[aF,LS,LR,LC,aI,LLC,LNd,aY]
theorem spoil_8(t:Tb)(ff gg:Bool)(u:Upd)(s:Spl)(k:Nat)(hv:TbV t)(hs:SplOk s)(hu:SpB t k u)(hk:k≤2)(hq:s.k.tmod 9=8):
  aS Tryz.prog 33 [aF ff gg t,aI u,aY s] fun r=>r=aI (sp8 t u s):=by
 have c1:=dR t ff gg (by have:=hv.rows;omega) (by have:=hv.attrs;omega);have wi:=dS s.i (by have:=hs.i;omega);simp only[aF,LS,LR,LC]at c1;by_cases hy:s.y.tmod 2=0
 ·rw[show sp8 t u s=⟨u.cells,⟨nmX,u.tab.attrs,u.tab.rows⟩,u.cores,u.prf⟩ by unfold sp8;rw[if_pos hy]];refine aC (aD tok Tryz.func33 rfl rfl ?_);refine wx ?_;simp -implicitDefEqProofs -dsimp[Tryz.f33,List.replicate,wi,aF,LS,LR,LC,aI,LLC,LNd,aY];refine(aG (c1) (by simp)).mono ?_;rintro r H' ⟨rfl,rfl⟩;simp -implicitDefEqProofs -dsimp[hq,hy,aF,LS,LR,LC,aI,LLC,LNd,aY]
  first | done | rfl
 ·rw[show sp8 t u s=⟨u.cells,u.tab,aa t::u.cores,u.prf⟩ by unfold sp8;rw[if_neg hy]];have hcn:=hu.cn;obtain⟨n,hn⟩:∃n,u.cores.length=n:=⟨_,rfl⟩;by_cases hn0:n=0
  ·have hcs:u.cores=[]:=List.length_eq_zero_iff.1 (by omega);rw[hcs]
   have key:aS Tryz.prog 33 [aF ff gg t,aI u,aY s] fun r=>r = .agg [LC false u.cells,.str u.tab.name,LS false u.tab.attrs,LR false u.tab.rows,.lst 1 true [LC false (aa t)],LNd false u.prf]:=by
    refine aC (aD tok Tryz.func33 rfl rfl ?_);refine wx ?_;simp -implicitDefEqProofs -dsimp[Tryz.f33,List.replicate,wi,hcs,aF,LS,LR,LC,aI,LLC,LNd,aY];refine(aG (c1) (by simp)).mono ?_;rintro r H' ⟨rfl,rfl⟩;simp -implicitDefEqProofs -dsimp[hq,hy,hcs,aF,LS,LR,LC,aI,LLC,LNd,aY]
   refine iN key (fun st w r hr hrel=>?_);subst hr;refine⟨_,?_,by unfold aI;simp,rfl⟩
   cases hrel with
   | agg _ us hl hz hh =>
    refine .agg _ us hl ?_ (fun i c w hc hw=>?_)
    ·exact encUp_one _
    match i with
    | 4 =>
     have e:=Option.some.inj hc;subst e;exact me (hh 4 _ w rfl hw) (.inr (.inl ⟨1,_,rfl,rfl⟩))
    | 0=>exact hh 0 c w hc hw
    | 1=>exact hh 1 c w hc hw
    | 2=>exact hh 2 c w hc hw
    | 3=>exact hh 3 c w hc hw
    | 5=>exact hh 5 c w hc hw
    | i+6=>simp[aI]at hc
  ·refine cD (dL (K:=fun r=>r=aI ⟨u.cells,u.tab,aa t::u.cores,u.prf⟩) ?_);refine aD tok Tryz.func33 rfl rfl ?_;refine wx ?_;simp -implicitDefEqProofs -dsimp[Tryz.f33,List.replicate,wi,aF,LS,LR,LC,aI,LLC,LNd,aY];refine(aG (c1) (by simp)).mono ?_;rintro r H' ⟨rfl,rfl⟩;simp -implicitDefEqProofs -dsimp[hq,hy,hn,hn0,qA n (by omega),show 1+n≤9223372036854775807 by omega,show(1+n)*24≤140737488355328 by omega,aF,LS,LR,LC,aI,LLC,LNd,aY];exact kB (.pure _ (by simp)) (.pure _ (by simp)) (.pure _ (by simp)) (.pure _ (by simp)) (kC (k:=4) (Nat.zero_le _) rfl (by simp[hn];omega) (Nat.le_refl _) (by simp) (List.take_of_length_le (by simp[hn];omega))) (.pure _ (by simp))
theorem spoil_4(t:Tb)(ff gg:Bool)(u:Upd)(s:Spl)(k:Nat)(hv:TbV t)(hs:SplOk s)(hu:SpB t k u)(hk:k≤2)(hq:s.k.tmod 9=4):
  aS Tryz.prog 33 [aF ff gg t,aI u,aY s] fun r=>r=aI (sp4 u s):=by
 have c1:=dR t ff gg (by have:=hv.rows;omega) (by have:=hv.attrs;omega);have wi:=dS s.i (by have:=hs.i;omega);simp only[aF,LS,LR,LC]at c1;by_cases hne:u.cores=[]
 ·rw[show sp4 u s=u by unfold sp4;rw[if_pos hne]];refine aC (aD tok Tryz.func33 rfl rfl ?_);refine wx ?_;simp -implicitDefEqProofs -dsimp[Tryz.f33,List.replicate,wi,hne,aF,LS,LR,LC,aI,LLC,LNd,aY];refine(aG (c1) (by simp)).mono ?_;rintro r H' ⟨rfl,rfl⟩;simp -implicitDefEqProofs -dsimp[hq,hne,aF,LS,LR,LC,aI,LLC,LNd,aY]
 ·have hcl:=hu.cn;obtain⟨n,hn⟩:∃n,u.cores.length=n:=⟨_,rfl⟩
  have hn0:0<n:=by rw[←hn];exact List.length_pos_iff.2 hne
  obtain⟨j,hj⟩:∃j,s.i % n=j:=⟨_,rfl⟩
  have hjn:j<n:=by rw[←hj];exact Nat.mod_lt _ hn0
  have hmod:(s.i:Int).tmod (n:Int)=(j:Int):=by rw[gy,hj]
  rw[show sp4 u s=⟨u.cells,u.tab,u.cores.eraseIdx j,u.prf⟩ by unfold sp4;rw[if_neg hne,hn,hj]];have cc:=cloneO_K u.cores false (by omega)
  have cd:az Tryz.prog 78 [.buf 4 0 n n,.int .i64 j,.int .i64 ((j:Int)+1)] (spH ff gg t u s [B.buf 37 1 (u.cores.map (LC false)) false]) fun r H'=>r = .buf 4 0 (n-1) n∧H'=spH ff gg t u s [B.buf 37 1 ((u.cores.map (LC false)).eraseIdx j++[V.nilS]) false]:=deleteL_h (H:=spH ff gg t u s [B.buf 37 1 (u.cores.map (LC false)) false]) (k0:=4) (by simp[spH]) (u.cores.map (LC false)) n j (by simpa using hn) (by omega) hjn
  have hel:(u.cores.eraseIdx j).length=n-1:=by rw[List.length_eraseIdx,if_pos (by omega),hn]
  rw[show(u.cores.map (LC false)).eraseIdx j=(u.cores.eraseIdx j).map (LC false) by simp only[List.eraseIdx_eq_take_drop_succ,List.map_append,List.map_take,List.map_drop]]at cd;generalize u.cores.eraseIdx j=W at cd hel ⊢;refine cD (dL (K:=fun r=>r=aI ⟨u.cells,u.tab,W,u.prf⟩) ?_);refine aD tok Tryz.func33 rfl rfl ?_;refine wx ?_;simp -implicitDefEqProofs -dsimp[Tryz.f33,List.replicate,wi,aF,LS,LR,LC,aI,LLC,LNd,aY];refine(aG (c1) (by simp)).mono ?_;rintro r H' ⟨rfl,rfl⟩;simp -implicitDefEqProofs -dsimp[hq,hn,hn0,show(0:Int)<(n:Int) by omega,aF,LS,LR,LC,aI,LLC,LNd,aY];refine aK (ai tok mixed [2,14,16] [(5,[0]),(6,[0]),(10,[0]),(11,[0])] [(.buf 4 0 n n,spH ff gg t u s [B.buf 37 1 (u.cores.map (LC false)) false]),(.buf 4 0 (n-1) n,spH ff gg t u s [B.buf 37 1 (W.map (LC false)++[V.nilS]) false])] (by kernel_rfl) fun C K hC hK=>?_);simp -implicitDefEqProofs [hmod,hn,aM j (by omega),spH,show ¬(n:Int)=0 by omega,show ¬n=0 by omega,aF,LS,LR,LC,aI,LLC,LNd,aY];simp only[spH]at cd;refine⟨⟨hC _ _ _ _ ?_,hC _ _ _ _ ?_⟩,hK _ _ ?_⟩
  ·refine(ep cc (by simp)).mono ?_;rintro r H' ⟨e,z,xs,rfl,rfl,_,rfl,rfl,rfl⟩;exact⟨by simp[hn],by simp⟩
  ·refine dY cd ?_;rintro r H' ⟨rfl,rfl⟩;exact⟨rfl,rfl⟩
  ·simp -implicitDefEqProofs -dsimp[];refine⟨?_,by unfold aI;simp⟩
   exact kB (.pure _ (by simp)) (.pure _ (by simp)) (.pure _ (by simp)) (.pure _ (by simp)) (kC (k:=4) (Nat.zero_le _) rfl (by simp;omega) (by omega) (fun x hx=>by
     rcases List.mem_append.1 hx with h | h
     ·obtain⟨K,_,rfl⟩:=List.mem_map.1 h;exact LC_pure false K
     ·rw[List.mem_singleton]at h;subst h;simp) (by rw[←hel];simp)) (.pure _ (by simp))
theorem sp5_no{u:Upd}{j:Nat}(hj:j<u.cores.length){K:List Cr}(hK:K=u.cores[j])(h0:K.length=0):u.cores.set j (K.take (K.length-1))=u.cores:=by
 rw[show K.take (K.length-1)=K by rw[List.length_eq_zero_iff.1 h0];rfl,hK,List.set_getElem_self]
theorem spoil_5(t:Tb)(ff gg:Bool)(u:Upd)(s:Spl)(k:Nat)(hv:TbV t)(hs:SplOk s)(hu:SpB t k u)(hk:k≤2)(hq:s.k.tmod 9=5):
  aS Tryz.prog 33 [aF ff gg t,aI u,aY s] fun r=>r=aI (sp5 u s):=by
 have c1:=dR t ff gg (by have:=hv.rows;omega) (by have:=hv.attrs;omega);have wi:=dS s.i (by have:=hs.i;omega);simp only[aF,LS,LR,LC]at c1;by_cases hne:u.cores=[]
 ·rw[show sp5 u s=u by unfold sp5;rw[if_pos hne]];refine aC (aD tok Tryz.func33 rfl rfl ?_);refine wx ?_;simp -implicitDefEqProofs -dsimp[Tryz.f33,List.replicate,wi,hne,aF,LS,LR,LC,aI,LLC,LNd,aY];refine(aG (c1) (by simp)).mono ?_;rintro r H' ⟨rfl,rfl⟩;simp -implicitDefEqProofs -dsimp[hq,hne,aF,LS,LR,LC,aI,LLC,LNd,aY]
 ·have hcl:=hu.cn;obtain⟨n,hn⟩:∃n,u.cores.length=n:=⟨_,rfl⟩
  have hn0:0<n:=by rw[←hn];exact List.length_pos_iff.2 hne
  obtain⟨j,hj⟩:∃j,s.i % n=j:=⟨_,rfl⟩
  have hjn:j<n:=by rw[←hj];exact Nat.mod_lt _ hn0
  have hjl:j<u.cores.length:=by omega
  have hmod:(s.i:Int).tmod (n:Int)=(j:Int):=by rw[gy,hj]
  obtain⟨Kc,hKc⟩:∃Kc,Kc=u.cores[j]:=⟨_,rfl⟩
  have hKl:Kc.length≤10:=by rw[hKc];exact hu.cl _ (List.getElem_mem hjl)
  rw[show sp5 u s=⟨u.cells,u.tab,u.cores.set j (Kc.take (Kc.length-1)),u.prf⟩ by unfold sp5;rw[if_neg hne,hn,hj,show u.cores.getD j []=Kc by rw[hKc];simp[hjl]]];have cc:=cloneO_K u.cores false (by omega);obtain⟨m,hm⟩:∃m,Kc.length=m:=⟨_,rfl⟩;refine cD (dL (K:=fun r=>r=aI ⟨u.cells,u.tab,u.cores.set j (Kc.take (Kc.length-1)),u.prf⟩) ?_);by_cases hm0:m=0
  ·rw[sp5_no hjl hKc (by omega)];refine aD tok Tryz.func33 rfl rfl ?_;refine wx ?_;simp -implicitDefEqProofs -dsimp[Tryz.f33,List.replicate,wi,aF,LS,LR,LC,aI,LLC,LNd,aY];refine(aG (c1) (by simp)).mono ?_;rintro r H' ⟨rfl,rfl⟩;simp -implicitDefEqProofs -dsimp[hq,hn,hn0,show(0:Int)<(n:Int) by omega,aF,LS,LR,LC,aI,LLC,LNd,aY];refine(ep cc (by simp)).mono ?_;rintro r H' ⟨e,z,xs,rfl,rfl,_,rfl,rfl,rfl⟩;simp -implicitDefEqProofs -dsimp[hn,hmod,show ¬(n:Int)=0 by omega,show ¬n=0 by omega,hjn,hjl,hKc.symm,hm,hm0,aF,LS,LR,LC,aI,LLC,LNd,aY];exact kB (.pure _ (by simp)) (.pure _ (by simp)) (.pure _ (by simp)) (.pure _ (by simp)) (kC (k:=4) (Nat.zero_le _) rfl (by simp[hn]) (by omega) (by simp) (List.take_of_length_le (by simp[hn]))) (.pure _ (by simp))
  ·skip
   refine aD tok Tryz.func33 rfl rfl ?_;refine wx ?_;simp -implicitDefEqProofs -dsimp[Tryz.f33,List.replicate,wi,aF,LS,LR,LC,aI,LLC,LNd,aY];refine(aG (c1) (by simp)).mono ?_;rintro r H' ⟨rfl,rfl⟩;simp -implicitDefEqProofs -dsimp[hq,hn,hn0,show(0:Int)<(n:Int) by omega,aF,LS,LR,LC,aI,LLC,LNd,aY];refine(ep cc (by simp)).mono ?_;rintro r H' ⟨e,z,xs,rfl,rfl,_,rfl,rfl,rfl⟩;simp -implicitDefEqProofs -dsimp[hn,hmod,show ¬(n:Int)=0 by omega,show ¬n=0 by omega,hjn,hjl,hKc.symm,hm,show(0:Int)<(m:Int) by omega,show 0<m by omega,aF,LS,LR,LC,aI,LLC,LNd,aY];refine aK (ai tok mixed [12] [] [] (by kernel_rfl) fun C K hC hK=>?_);simp -implicitDefEqProofs [hn,hjn,hjl,hKc.symm,hm,show m≤m+1 by omega,show IntKind.i64.wrap ((m:Int)-1)=((m-1:Nat):Int) by rw[wrap64 (by omega) (by omega)];omega,aF,LS,LR,LC,aI,LLC,LNd,aY];refine hK _ _ ?_;simp -implicitDefEqProofs -dsimp[];refine⟨?_,by unfold aI;simp⟩
   exact kB (.pure _ (by simp)) (.pure _ (by simp)) (.pure _ (by simp)) (.pure _ (by simp)) (kC (k:=4) (Nat.zero_le _) rfl (by simp[hn]) (by omega) (fun x hx=>by
    rcases List.mem_or_eq_of_mem_set hx with h | rfl
    ·obtain⟨K',_,rfl⟩:=List.mem_map.1 h;exact LC_pure false K'
    ·rw[←List.map_take];exact LC_pure false _) (by rw[List.take_of_length_le (by simp[hn]),List.map_set,hm,←List.map_take];rfl)) (.pure _ (by simp))
theorem Ext.set1{n:Nat}{es:List (List Nat)}{m:List Nat}{T:Nat→Bool}{v c:Nat}(hv:v<m.length)(h:Ext n es m T)(h1:c=1→T v=true)(h2:c=2→T v=false):Ext n es (m.set v c) T:=by
 refine⟨fun u hu he=>?_,fun u hu he=>?_,h.h⟩
 ·by_cases e:v=u
  ·subst e;rw[aX _ hv]at he;exact h1 he
  ·rw[af _ e]at he;exact h.c u hu he
 ·by_cases e:v=u
  ·subst e;rw[aX _ hv]at he;exact h2 he
  ·rw[af _ e]at he;exact h.x u hu he
theorem phi_mono{m:List Nat}{T:Nat→Bool}{r r':List Int} : ∀n,(∀v<n,m.getD v 0=0→r.getD v 0≤r'.getD v 0)→phi m T r n≤phi m T r' n
 | 0,_=>by simp[phi]
 | n+1,h=>by
  rw[phi,phi];have:=phi_mono (m:=m) (T:=T) n (fun v hv h0=>h v (by omega) h0);split
  ·rename_i hq;have:=h n (by omega) hq.2;omega
  ·omega
def od(es:List (List Nat))(n:Nat)(l:List Shr):List Int:=(List.range n).map fun v=>ldR es v l
theorem fR(es:List (List Nat))(l:List Shr){n v:Nat}(h:v<n):(od es n l).getD v 0=ldR es v l:=by
 rw[ak _ _ (by simp[od];exact h)];simp[od]
theorem okS_free{n:Nat}{es:List (List Nat)}{m:List Nat}{T:Nat→Bool}(he:gq n es)(hx:Ext n es m T)(h2:∀v<n,m.getD v 0≤2){e:List Nat}(hm:e∈es)(h1:fJ m 1 e=false):∃v∈e,v<n∧T v=true∧m.getD v 0=0:=by
 obtain⟨v,hv,ht⟩:=hx.h e hm;have hvn:=(he e hm).2.2 v hv;refine⟨v,hv,hvn,ht,?_⟩
 have a1:m.getD v 0≠1:=fun h=>by
  exact List.any_eq_false.1 h1 v hv (decide_eq_true h)
 have a2:m.getD v 0≠2:=fun h=>by
  have:=hx.x v hvn h;rw[ht]at this;cases this
 have:=h2 v hvn;omega
theorem sum_phi{n:Nat}{es:List (List Nat)}{m:List Nat}{T:Nat→Bool}(he:gq n es)(hx:Ext n es m T)(h2:∀v<n,m.getD v 0≤2):∀l:List Shr,(∀x∈l,okS es m x=true)→gX l≤phi m T (od es n l) n
 | [],_=>by
  rw[gX];exact fj n (fun v hv _=>by rw[fR es [] hv];simp[ldR])
 | x::l,h=>by
  have hok:=h x (by simp);simp only[okS,Bool.and_eq_true,decide_eq_true_eq,Bool.not_eq_true']at hok;obtain⟨⟨⟨⟨x1,x2⟩,x3⟩,x4⟩,x5⟩:=hok;have hmem:=eY (es:=es) (i:=x.e.toNat) (by omega);obtain⟨v,hv,hvn,ht,h0⟩:=okS_free he hx h2 hmem x5;have ih:=sum_phi he hx h2 l (fun y hy=>h y (by simp[hy]))
  have:=(phi_le (m:=m) (T:=T) (room:=od es n (x::l)) (room':=od es n l) (a:=x.a) (by omega) n (fun u hu=>by
   rw[fR es l hu,fR es (x::l) hu,ldR];split<;>omega)).2 ⟨v,hvn,ht,h0,by
   rw[fR es l hvn,fR es (x::l) hvn,ldR,if_pos hv];omega⟩
  rw[gX];omega
theorem my{ws:List Int}{es:List (List Nat)}(he:gq ws.length es)(hw:∀v<ws.length,0≤ws.getD v 0){T:Nat→Bool} : ∀(k:Nat) (m:List Nat) (l:List Nde) (b:Int) (r:List Nde),m.length=ws.length→(∀v<ws.length,m.getD v 0≤2)→Ext ws.length es m T→cN ws es k m l b=(some r,true)→b≤phi m T ws ws.length
 | 0,m,l,b,r,_,_,_,h=>by simp[cN]at h
 | k+1,m,[],b,r,_,_,_,h=>by simp[cN]at h
 | k+1,m,x::r0,b,r,hl,h2,hx,h=>by
  rw[cN]at h;by_cases h1:x.v = -1
  ·rw[if_pos h1]at h;have hb:=(Prod.mk.inj h).2;by_cases hx0:x.l=[]
   ·rw[if_pos hx0,Bool.or_eq_true]at hb
    rcases hb with hb | hb
    ·have h3:=of_decide_eq_true hb;have:=fj (m:=m) (T:=T) (room:=ws) ws.length (fun v hv _=>hw v hv);omega
    ·unfold fA at hb;obtain⟨e,he1,hb⟩:=List.any_eq_true.1 hb;rw[Bool.and_eq_true,Bool.not_eq_true',Bool.not_eq_true']at hb;obtain⟨v,hv,hvn,ht,h0⟩:=okS_free he hx h2 he1 hb.1;exact absurd (decide_eq_true h0) (List.any_eq_false.1 hb.2 v hv)
   ·rw[if_neg hx0]at hb;unfold shE at hb;rw[Bool.and_eq_true]at hb;obtain⟨g1,g2,g3⟩:=(gP ws es m b he x.l _ 0 (by simp[hl]) (fun v hv _=>by rw[dy];exact hw v hv)).1 hb.2;have a1:=sum_phi he hx h2 x.l g1
    have a2:=phi_mono (m:=m) (T:=T) (r:=od es ws.length x.l) (r':=ws) ws.length (fun v hv h0=>by
     rw[fR es x.l hv];have:=g2 v hv h0
     rw[dy]at this;omega)
    omega
  ·rw[if_neg h1]at h;by_cases hc:x.v<0∨(m.length:Int)≤x.v∨x.l≠[]∨m.getD x.v.toNat 0≠0
   ·rw[if_pos hc]at h;simp at h
   ·rw[if_neg hc]at h
    have hv:x.v.toNat<m.length:=by omega
    have h0:m.getD x.v.toNat 0=0:=by
     by_cases a:m.getD x.v.toNat 0=0
     ·exact a
     ·exact absurd (.inr (.inr (.inr a))) hc
    have hset:∀c,c≤2→∀v<ws.length,(m.set x.v.toNat c).getD v 0≤2:=fun c hc v hvn=>by
     by_cases e:x.v.toNat=v
     ·subst e;rw[aX _ hv];exact hc
     ·rw[af _ e];exact h2 v hvn
    obtain⟨p,hp⟩:∃p,p=cN ws es k (m.set x.v.toNat 1) r0 (b-ws.getD x.v.toNat 0):=⟨_,rfl⟩;rw[←hp]at h;obtain⟨p1,p2⟩:=p
    cases p2 with
    | false=>cases p1<;>simp at h
    | true =>
     cases p1 with
     | none=>simp at h
     | some r' =>
      simp only at h;by_cases ht:T x.v.toNat=true
      ·have:=my he hw k _ r0 _ r' (by simp[hl]) (hset 1 (by omega)) (hx.set1 hv (fun _=>ht) (fun h=>by omega)) hp.symm;rw[ic T ws hv h0 (by omega),if_pos ⟨by omega,ht⟩]at this;omega
      ·have:=my he hw k _ r' b r (by simp[hl]) (hset 2 (by omega)) (hx.set1 hv (fun h=>by omega) (fun _=>by simpa using ht)) h;rw[ic T ws hv h0 (by omega),if_neg (fun h=>ht h.2)]at this;omega
theorem checkG_sound{ws:List Int}{es:List (List Nat)}{b:Int}{l:List Nde}(h:eL ws es b l=true)(T:Nat→Bool)(hT:∀e∈es,∃v∈e,T v=true):b≤dX ws T ws.length:=by
 unfold eL at h;by_cases hv:jI ws es=0
 ·have hb:=eT.1 hv;rw[if_pos hv]at h;split at h
  ·cases h
  ·have h0:∀v,(List.replicate ws.length 0).getD v 0=0:=fun v=>by
    simp only[List.getD,List.getElem?_replicate];split<;>rfl
   unfold nA at h;obtain⟨p,hp⟩:∃p,p=cN ws es (l.length+1) (List.replicate ws.length 0) l b:=⟨_,rfl⟩;rw[←hp]at h;obtain⟨p1,p2⟩:=p
   cases p2 with
   | false=>cases p1<;>simp at h
   | true =>
    cases p1 with
    | none=>simp at h
    | some r =>
     have:=my hb.ed (fun v hv=>by have:=(hb.w v hv).1;omega) (T:=T) (l.length+1) (List.replicate ws.length 0) l b r (by simp) (fun v _=>by rw[h0];omega) ⟨fun v _ h=>by rw[h0]at h;omega,fun v _ h=>by rw[h0]at h;omega,hT⟩ hp.symm
     rwa [lJ]at this
 ·rw[if_neg hv]at h;cases h
structure AccR (t:Tb) (fds:List Fd) (u:Upd):Prop where
 cells:aZ u.cells∧∀c∈u.cells,c∈aa t
 tab:TbV u.tab
 attrs:u.tab.attrs.length=t.attrs.length
 rows:u.tab.rows.length=t.rows.length
 dif:∀x∈cF t u.tab (t.rows.length*t.attrs.length),x∈u.cells
 cores:corB t fds u.cores=true
 sat:SatP u.tab fds
 prf:prfB u=true
theorem chk_acc{t:Tb}{fds:List Fd}{u:Upd}(hv:TbV t)(hF:bo fds)(hu:UpdOk u)(h:mJ t fds u=true):AccR t fds u:=by
 unfold mJ at h;by_cases h1:dl t fds u.cells=0
 ·rw[if_neg (by simp[h1])]at h;by_cases h2:validT u.tab=0
  ·rw[if_neg (by simp[h2])]at h
   cases h3:go t u.tab with
   | false=>rw[h3]at h;simp at h
   | true =>
    rw[h3,if_neg (by simp)]at h
    cases h4:(cF t u.tab (t.rows.length*t.attrs.length)).all (bsF u.cells) with
    | false=>rw[h4]at h;simp at h
    | true =>
     rw[h4,if_neg (by simp)]at h
     cases h5:corB t fds u.cores with
     | false=>rw[h5]at h;simp at h
     | true =>
      rw[h5,if_neg (by simp),Bool.and_eq_true]at h;have huv:=iU hu.tab h2;obtain⟨_,_,_,hs,hall⟩:=kK hv.ok h1
      have ha3:u.tab.attrs.length=t.attrs.length∧u.tab.rows.length=t.rows.length:=by
       unfold go at h3;simp only[Bool.and_eq_true]at h3;refine⟨(pi h3.1.2).symm,?_⟩;by_cases hl:t.rows.length=u.tab.rows.length
       ·exact hl.symm
       ·rw[jS _ _ hl]at h3;simp at h3
      refine⟨⟨hs,fun c hc=>(mK hv).1 (List.all_eq_true.1 hall c hc)⟩,huv,ha3.1,ha3.2,fun x hx=>(mM hs x).1 (List.all_eq_true.1 h4 x hx),h5,?_,h.2⟩;rw[←lE,sat_okq huv hF];exact h.1
  ·rw[if_pos h2]at h;cases h
 ·rw[if_pos h1]at h;cases h
theorem AccR.enough{t:Tb}{fds:List Fd}{u:Upd}(hv:TbV t)(hF:bo fds)(r:AccR t fds u):Okq (aW t fds u.cells):=by
 refine dif_enough r.attrs r.rows r.tab.len r.tab.attrs hF r.sat (fun x hx hnm=>?_)
 refine Classical.byContradiction fun hne=>hnm (r.dif _ ?_)
 unfold cF;refine List.mem_map.2 ⟨x,List.mem_filter.2 ⟨List.mem_range.2 hx,?_⟩,rfl⟩
 have:gE (bL t x) (bL u.tab x)≠0:=fun h=>hne ((dQ _ _).1 h).symm
 simpa using this
theorem AccR.le{t:Tb}{fds:List Fd}{u:Upd}(hv:TbV t)(r:AccR t fds u){L:List Cr}(hL:Okq (aW t fds L))(hLc:∀c∈L,c∈aa t)(hLn:L.Nodup):u.cells.length≤L.length:=by
 classical
 have hin:=corB_in hv r.cores;have hp:=r.prf;unfold prfB at hp;rw[show(u.cores.map fun K=>K.map (dw (vsC u.cores)))=u.cores.map (bu (vsC u.cores)) from List.map_congr_left fun K hK=>pl (dG _) (hin K hK).1 (oN u.cores K hK)]at hp;have hnd:=bT (dG u.cores);have hsub:=oN u.cores;obtain⟨vs,hvs⟩:∃vs,vs=vsC u.cores:=⟨_,rfl⟩;rw[←hvs]at hp hnd hsub
 have hm:=checkG_sound hp (fun v=>decide (dW vs v∈L)) (fun e he=>by
  obtain⟨K,hK,rfl⟩:=List.mem_map.1 he;obtain⟨c,h1,h2⟩:=enough_meets hL hLc (pB.1 (hin K hK).2.2);obtain⟨v,hvl,rfl⟩:=List.mem_iff_getElem.1 (hsub K hK c h1);have hg:dW vs v=vs[v]:=ak _ _ hvl
  exact⟨v,iK.2 ⟨hvl,by rw[hg];exact h1⟩,by rw[hg];exact decide_eq_true h2⟩)
 rw[iC,wsum_ones]at hm
 have h2:((List.range vs.length).filter fun v=>decide (dW vs v∈L)).length≤L.length:=by
  have hnd2:(((List.range vs.length).filter fun v=>decide (dW vs v∈L)).map (dW vs)).Nodup:=kA (List.nodup_range.filter _) (fun a ha b hb he=>cAtD_inj hnd (List.mem_range.1 (List.mem_filter.1 ha).1) (List.mem_range.1 (List.mem_filter.1 hb).1) he)
  have:=hnd2.length_le_of_subset (l₂:=L) (fun c hc=>by
   obtain⟨v,h3,rfl⟩:=List.mem_map.1 hc
   exact of_decide_eq_true (List.mem_filter.1 h3).2)
  simpa using this
 omega
theorem lsF_cells{t:Tb}{fds:List Fd}(hv:TbV t)(hN:t.rows.length*t.attrs.length≤9){L:List Cr}(hs:aZ L)(hsub:∀c∈L,c∈aa t)(hok:okB (aW t fds L)=true):lsF t fds (t.rows.length*t.attrs.length) (2^(t.rows.length*t.attrs.length))≤L.length:=by
 classical
 obtain⟨b,hb,hse0⟩:=sel_all (t:=t) hN (fun x=>decide (bN t x∈L))
 have hse:bM t (b:Int) (t.rows.length*t.attrs.length)=L:=by
  refine gM _ _ ?_ hs (fun c=>?_)
  ·rw[hse0];unfold aZ;rw[List.pairwise_map]
   refine(List.pairwise_lt_range.filter _).imp_of_mem fun {x y} hx hy h=>?_
   exact hv.cells_lt h (List.mem_range.1 (List.mem_filter.1 hy).1)
  ·rw[hse0,List.mem_map];constructor
   ·rintro⟨x,hx,rfl⟩;exact of_decide_eq_true (List.mem_filter.1 hx).2
   ·intro hc;obtain⟨x,hx,rfl⟩:=List.mem_map.1 (hsub c hc);exact⟨x,List.mem_filter.2 ⟨hx,decide_eq_true hc⟩,rfl⟩
 have:=lsF_le (t:=t) (fds:=fds) (N:=t.rows.length*t.attrs.length) (2^(t.rows.length*t.attrs.length)) b hb (by rw[hse];exact hok)
 rwa [hse]at this
theorem AccR.least{t:Tb}{fds:List Fd}{u:Upd}(g:CaseV t fds)(r:AccR t fds u):u.cells.length=lsF t fds (t.rows.length*t.attrs.length) (2^(t.rows.length*t.attrs.length)):=by
 refine Nat.le_antisymm ?_ (lsF_cells g.tv g.small r.cells.1 r.cells.2 (fH.2 (r.enough g.tv g.fok)))
 rcases lsF_at (t:=t) (fds:=fds) (N:=t.rows.length*t.attrs.length) (2^(t.rows.length*t.attrs.length)) with h | ⟨b,hb,hok,he⟩
 ·rw[h];exact jk (bT r.cells.1) r.cells.2
 ·rw[he];exact r.le g.tv (fH.1 hok) (sel_sub _) (sel_nodup g.tv _)
theorem spoil_u(t:Tb)(ff gg:Bool)(u:Upd)(s:Spl)(k:Nat)(hv:TbV t)(hs:SplOk s)(hu:SpB t k u)(hk:k≤2):
  aS Tryz.prog 33 [aF ff gg t,aI u,aY s] fun r=>r=aI (spU t u s):=by
 obtain⟨q,hq⟩:∃q,s.k.tmod 9=q:=⟨_,rfl⟩;unfold spU;by_cases h1:q=1
 ·subst h1;rw[if_pos hq];exact spoil_1 t ff gg u s k hv hs hu hk hq
 rw[if_neg (by rw[hq];exact h1)];by_cases h2:q=2
 ·subst h2;rw[if_pos hq];exact spoil_2 t ff gg u s k hv hs hu hk hq
 rw[if_neg (by rw[hq];exact h2)];by_cases h3:q=3
 ·subst h3;rw[if_pos hq];exact spoil_3 t ff gg u s k hv hs hu hq
 rw[if_neg (by rw[hq];exact h3)];by_cases h4:q=4
 ·subst h4;rw[if_pos hq];exact spoil_4 t ff gg u s k hv hs hu hk hq
 rw[if_neg (by rw[hq];exact h4)];by_cases h5:q=5
 ·subst h5;rw[if_pos hq];exact spoil_5 t ff gg u s k hv hs hu hk hq
 rw[if_neg (by rw[hq];exact h5)];by_cases h6:q=6
 ·subst h6;rw[if_pos hq];exact spoil_6 t ff gg u s k hv hs hu hk hq
 rw[if_neg (by rw[hq];exact h6)];by_cases h7:q=7
 ·subst h7;rw[if_pos hq];exact spoil_7 t ff gg u s k hv hs hu hk hq
 rw[if_neg (by rw[hq];exact h7)];by_cases h8:q=8
 ·subst h8;rw[if_pos hq];exact spoil_8 t ff gg u s k hv hs hu hk hq
 rw[if_neg (by rw[hq];exact h8)];exact spoil_0 t ff gg u s hv hs q hq h1 h2 h3 h4 h5 h6 h7 h8
theorem lK(m:List Nat):∀(es:List (List Nat)) (i:Nat) (room:List Int),(cO m es i room).1.length≤es.length
 | [],_,_=>by simp[cO]
 | e::es,i,room=>by
  rw[cO];split
  ·have:=lK m es (i+1) room;simp only[List.length_cons];omega
  ·split
   ·have:=lK m es (i+1) room;simp only[List.length_cons];omega
   ·have:=lK m es (i+1) (lB (fP m room e 1000000) e room);simp only[List.length_cons];omega
theorem prv_sh{ws:List Int}{es:List (List Nat)}{P:List Nde×Int} : ∀(k:Nat) (m:List Nat) (lf b:Int),fG ws es k m lf b=some P→∀x∈P.1,x.l.length≤es.length
 | 0,_,_,_,h=>by simp[fG]at h
 | k+1,m,lf,b,h=>by
  rw[fG]at h;split at h
  ·cases h
  ·split at h
   ·cases h;intro x hx;rw[List.mem_singleton]at hx;subst hx;exact Nat.zero_le _
   ·split at h
    ·cases h;intro x hx;rw[List.mem_singleton]at hx;subst hx;exact lK m es 0 ws
    ·split at h
     ·cases h
     ·split at h
      ·cases h
      ·rename_i p hp;split at h
       ·cases h
       ·rename_i q hq;have h1:=prv_sh (P:=p) k _ _ _ hp;have h2:=prv_sh (P:=q) k _ _ _ hq;cases h;intro x hx
        rcases List.mem_cons.1 hx with rfl | hx
        ·exact Nat.zero_le _
        ·rcases List.mem_append.1 hx with h | h
         ·exact h1 x h
         ·exact h2 x h
theorem optG_sh(t:Tb)(fds:List Fd):∀(f:Nat) (cores:List (List Cr)),∀x∈(mY t fds f cores).prf,x.l.length≤(mY t fds f cores).cores.length
 | 0,cores=>by simp[mY]
 | f+1,cores=>by
  rw[mY];split
  ·intro x hx;have hx2:x∈optP cores:=hx;unfold optP at hx2
   cases hp:fG (ab (vsC cores).length) (cores.map (bu (vsC cores))) ((vsC cores).length+1) (List.replicate (vsC cores).length 0) 20000 (wl (ab (vsC cores).length) (lO (ab (vsC cores).length) (cores.map (bu (vsC cores))) 20000)) with
   | none=>rw[hp]at hx2;simp at hx2
   | some P =>
    rw[hp]at hx2;have:=prv_sh _ _ _ _ hp x hx2;simpa using this
  ·exact optG_sh t fds f _
theorem CaseV.tbG{t:Tb}{fds:List Fd}(g:CaseV t fds){u:Upd}{T:Nat→Bool}(r:OptR t fds u T):TbG u.tab∧u.tab.attrs=t.attrs∧u.tab.rows.length=t.rows.length∧∀i,i<t.rows.length→(rwG u.tab.rows i).id=(rwG t.rows i).id:=by
 obtain⟨_,hsz,_,htv⟩:=r.updOk g;obtain⟨c,hc⟩:=genS_ok (fH.1 r.enough);have hl:=fil_like t c;rw[←pc hc,←r.tab]at hl
 have hid:∀i,i<t.rows.length→(rwG u.tab.rows i).id=(rwG t.rows i).id:=fun i hi=>by
  have hi2:i<u.tab.rows.length:=by rw[hl.rows];exact hi
  rw[er hi,er hi2];exact hl.ids i hi hi2
 refine⟨⟨htv,fun x hx=>?_,hsz⟩,hl.attrs,hl.rows,hid⟩;obtain⟨i,hi,rfl⟩:=List.mem_iff_getElem.1 hx;rw[hl.ids i (by rw[←hl.rows];exact hi) hi];exact g.pos _ (List.getElem_mem _)
theorem OptR.spB{t:Tb}{fds:List Fd}{T:Nat→Bool}(g:CaseV t fds)(r:OptR t fds (optU t fds) T):SpB t 0 (optU t fds):=by
 obtain⟨h1,h2,h3,h4⟩:=g.tbG r;have hN:=g.small;have hc:=r.cores.len hN;refine⟨h1,h2,h3,h4,by have:=(r.cellsOk g).2;omega,by omega,fun K hK=>by have:=r.cores.klen K hK;omega,by have:=r.plen;omega,fun x hx=>?_⟩;have:=optG_sh t fds 514 [] x hx;have hc2:(mY t fds 514 []).cores.length≤512:=hc;omega
def CO(cores:List (List Cr)):B:=.buf 37 1 (cores.map (LC false)) false
theorem CO_rb(n:Nat)(cores:List (List Cr)):rbB n (CO cores):=(rbB_buf1 (fun x hx=>by obtain⟨K,_,rfl⟩:=List.mem_map.1 hx;exact⟨LC_pure _ _,rfl⟩)).2 trivial
theorem problem_l0(cores:List (List Cr))(X0 X1 X2:B)(hX:∀k,4≤k→rbB k X0∧rbB k X1∧rbB k X2)(n:Nat)(hn:cores.length=n)(hn2:n≤100000)(hK:∀K∈cores,K.length≤100000)(hT:cores.flatten.length≤1000000):
  az Tryz.prog 63 [.buf 3 0 n n] [X0,X1,X2,.buf 37 1 (cores.map (LC false)) false] fun x y=>∃G r',y=[X0,X1,X2,.buf 37 1 (cores.map (LC false)) false]++G∧ExpN y 4 x r'∧AM.Pure r'∧r'=PRB cores:=by
 have hcat0:=mC cores false false hn hn2 hK hT;obtain⟨F,hF⟩:∃F,F=cores.flatten:=⟨_,rfl⟩;obtain⟨N,hN⟩:∃N,F.length=N:=⟨_,rfl⟩;obtain⟨S,hS⟩:∃S,S=fZ F:=⟨_,rfl⟩
 have hSl:S.length=N:=by rw[hS,jl,hN]
 obtain⟨vs,hvs⟩:∃vs,vs=eR S:=⟨_,rfl⟩
 have hvv:vsC cores=vs:=by unfold vsC;rw[←hF,←hS,hvs]
 obtain⟨m,hm⟩:∃m,vs.length=m:=⟨_,rfl⟩
 have hmN:m≤N:=by rw[←hm,hvs,←hSl];exact cpF_len S S.length
 obtain⟨VZ,hVZ⟩:∃VZ,VZ=vs++List.replicate (N-m) (⟨0,0⟩:Cr):=⟨_,rfl⟩
 have hVl:VZ.length=N:=by rw[hVZ,List.length_append,List.length_replicate];omega
 have hcl:=bG VZ
 have hNb:N≤1000000:=by rw[←hN,hF];exact hT
 rw[←hF]at hcat0
 have hX5:∀k,rbB k (.buf 37 1 (cores.map (LC false)) false):=fun k=>CO_rb k cores
 have hZ:∀k,rbB k (B.cells [.nilS,.nilS]):=fun k c hc=>by simp at hc;rcases hc with rfl | rfl<;>simp[rb]
 have hrb1:∀bl∈[X0,X1,X2,.buf 37 1 (cores.map (LC false)) false,B.cells [.nilS,.nilS],.buf 49 2 (crL S) false],rbB 6 bl:=by
  intro bl hbl;simp only[List.mem_cons,List.not_mem_nil,or_false]at hbl
  rcases hbl with rfl | rfl | rfl | rfl | rfl | rfl
  ·exact(hX 6 (by omega)).1
  ·exact(hX 6 (by omega)).2.1
  ·exact(hX 6 (by omega)).2.2
  ·exact hX5 _
  ·exact hZ _
  ·exact gD _ _ _ _
 have hsort:=nG (H:=[X0,X1,X2,.buf 37 1 (cores.map (LC false)) false,B.cells [.nilS,.nilS],.buf 49 2 (crL F) false]) (k:=5) F N hN (by simp) (by omega);rw[←hS]at hsort;have hcomp:=compact_h (H:=[X0,X1,X2,.buf 37 1 (cores.map (LC false)) false,B.cells [.nilS,.nilS],.buf 49 2 (crL S) false]) (k0:=5) (by simp) hrb1 S N hSl hNb;rw[←hvs,hm,←hVZ]at hcomp;simp only[CB,List.set_cons_succ,List.set_cons_zero]at hsort hcomp;simp only[LLC]at hcat0;refine aD tok Tryz.func63 rfl rfl ?_;refine wx ?_;simp -implicitDefEqProofs -dsimp[Tryz.f63,List.replicate,LC,LLC]
 refine bJ (conH_of_conOL (args:=[.buf 3 0 n n]) hcat0 rfl (fun i a a' h1 h2=>by
  match i with
  | 0=>simp at h1 h2;subst h1;subst h2;exact exp_CO (e:=37) (fz:=false) rfl hn
  | i+1=>simp at h1) (fun e z xs hx=>by obtain⟨_,_,rfl⟩:=hx;exact crL_scalar F)) ?_
 rintro r H' ⟨e,z,xs,rfl,rfl,_,rfl,rfl,rfl⟩;rw[bG,hN];simp -implicitDefEqProofs -dsimp[LC,LLC];refine bJ hsort ?_;rintro r H' ⟨rfl,rfl⟩;simp -implicitDefEqProofs -dsimp[LC,LLC];refine bJ hcomp ?_;rintro r H' ⟨rfl,rfl⟩;simp -implicitDefEqProofs -dsimp[hcl,hVl,LC,LLC]
 have hrI:∀(k:Nat) (l:List Int) (fz:Bool),rbB k (.buf 2 1 (l.map ac) fz):=fun k l fz=>(rbB_buf1 (fun x hx=>by obtain⟨y,_,rfl⟩:=List.mem_map.1 hx;exact⟨by simp[ac],rfl⟩)).2 trivial
 have hrN:∀(k:Nat) (l:List Nat) (fz:Bool),rbB k (.buf 3 1 (nuL l) fz):=fun k l fz=>(rbB_buf1 (cY l)).2 trivial
 have hrE:∀(k:Nat) (es:List (List Nat)) (fz:Bool),rbB k (.buf 109 1 (es.map (Ln false)) fz):=fun k es fz=>(rbB_buf1 (fun x hx=>by obtain⟨e,_,rfl⟩:=List.mem_map.1 hx;exact⟨by simp,rfl⟩)).2 trivial
 have hrW:∀i:Nat,∀bl∈[X0,X1,X2,.buf 37 1 (cores.map (LC false)) false,B.cells [.nilS,.nilS],.buf 49 2 (crL VZ) false,B.cells [.buf 7 0 i i,.nilS],.buf 2 1 ((ab i).map ac) false],rbB 8 bl:=by
  intro i bl hbl;simp only[List.mem_cons,List.not_mem_nil,or_false]at hbl
  rcases hbl with rfl | rfl | rfl | rfl | rfl | rfl | rfl | rfl
  ·exact(hX 8 (by omega)).1
  ·exact(hX 8 (by omega)).2.1
  ·exact(hX 8 (by omega)).2.2
  ·exact hX5 _
  ·exact hZ _
  ·exact gD _ _ _ _
  ·intro c hc;simp at hc;rcases hc with rfl | rfl<;>simp[rb]
  ·exact hrI _ _ _
 have hrV:∀(i j:Nat) (es:List (List Nat)),∀bl∈[X0,X1,X2,.buf 37 1 (cores.map (LC false)) false,B.cells [.nilS,.nilS],.buf 49 2 (crL VZ) false,B.cells [.buf 7 0 i i,.buf 8 0 j j],.buf 2 1 ((ab i).map ac) false,.buf 109 1 (es.map (Ln false)) false],rbB 9 bl:=by
  intro i j es bl hbl;simp only[List.mem_cons,List.not_mem_nil,or_false]at hbl
  rcases hbl with rfl | rfl | rfl | rfl | rfl | rfl | rfl | rfl | rfl
  ·exact(hX 9 (by omega)).1
  ·exact(hX 9 (by omega)).2.1
  ·exact(hX 9 (by omega)).2.2
  ·exact hX5 _
  ·exact hZ _
  ·exact gD _ _ _ _
  ·intro c hc;simp at hc;rcases hc with rfl | rfl<;>simp[rb]
  ·exact hrI _ _ _
  ·exact hrE _ _ _
 have hrU:∀(i j:Nat) (es:List (List Nat)) (l:List Nat),∀bl∈[X0,X1,X2,.buf 37 1 (cores.map (LC false)) false,B.cells [.nilS,.nilS],.buf 49 2 (crL VZ) false,B.cells [.buf 7 0 i i,.buf 8 0 j j],.buf 2 1 ((ab i).map ac) false,.buf 109 1 (es.map (Ln false)) false,.buf 3 1 (nuL l) false],rbB 10 bl:=by
  intro i j es l bl hbl;simp only[List.mem_cons,List.not_mem_nil,or_false]at hbl
  rcases hbl with rfl | rfl | rfl | rfl | rfl | rfl | rfl | rfl | rfl | rfl
  ·exact(hX 10 (by omega)).1
  ·exact(hX 10 (by omega)).2.1
  ·exact(hX 10 (by omega)).2.2
  ·exact hX5 _
  ·exact hZ _
  ·exact gD _ _ _ _
  ·intro c hc;simp at hc;rcases hc with rfl | rfl<;>simp[rb]
  ·exact hrI _ _ _
  ·exact hrE _ _ _
  ·exact hrN _ _ _
 refine aK (co 2 1 [] 6 [0] rfl (by simp) (by simp) (W_loopM 29 [21,22,23,24,25,26,27,28] (by simp[mB]<;>rfl) (σ:=Nat) (fun i=>i≤m) (fun i=>m-i) (fun i=>[(21,.int .i64 i)]) (fun i=>[X0,X1,X2,.buf 37 1 (cores.map (LC false)) false,B.cells [.nilS,.nilS],.buf 49 2 (crL VZ) false,B.cells [.buf 7 0 i i,.nilS],.buf 2 1 ((ab i).map ac) false]) 0 (by omega) (by simp) (by simp[ab]) (by simp) ?_));intro i hi N1 Q1 hN1 hQ1
 have hol:(ab i).length=i:=by simp[ab]
 by_cases hb:i<m
 ·have hos:ab (i+1)=ab i++[1]:=by unfold ab;rw[List.replicate_succ']
  refine wx ?_;simp -implicitDefEqProofs -dsimp[hb,show(i:Int)<m by omega,aM i (by omega),hol,cap8 i (by omega),LC,LLC];refine hN1 (i+1) _ _ (by omega) (by omega) (by simp) ⟨[],by simp[hos,ac]⟩ (by simp) (hrW (i+1))
 ·obtain rfl:i=m:=by omega
  obtain⟨eF,heF⟩:∃eF:Nat→List (List Nat),eF=fun j=>(cores.take j).map fun K=>K.map (dw vs):=⟨_,rfl⟩
  have hel:∀j,j≤n→(eF j).length=j:=fun j hj=>by rw[heF];simp;omega
  refine wx ?_;simp -implicitDefEqProofs -dsimp[hb,show ¬(i:Int)<i by omega,LC,LLC];refine hQ1 _ _ _ ?_;simp -implicitDefEqProofs -dsimp[hn,LC,LLC];refine aK (co 109 1 [] 6 [1] rfl (by simp) (by simp) (W_loopM 59 [7,8,10,11,12,31,32,33,34,35,36,37,38,39,40,41,42,43,44,45,46,47,48,49,50,51,52,53,54,55,56,57,58] (by simp[mB]<;>rfl) (σ:=Nat) (fun j=>j≤n) (fun j=>n-j) (fun j=>[(31,.int .i64 j)]) (fun j=>[X0,X1,X2,.buf 37 1 (cores.map (LC false)) false,B.cells [.nilS,.nilS],.buf 49 2 (crL VZ) false,B.cells [.buf 7 0 i i,.buf 8 0 j j],.buf 2 1 ((ab i).map ac) false,.buf 109 1 ((eF j).map (Ln false)) false]) 0 (by omega) (by simp[hn]) (by simp[heF]) (by simp) ?_));intro j hj N2 Q2 hN2 hQ2;have hej:=hel j hj;by_cases hbj:j<n
  ·have hbc:j<cores.length:=by omega
   obtain⟨K,hKe⟩:∃K,K=cores[j]:=⟨_,rfl⟩
   have hKl:K.length≤100000:=by rw[hKe];exact hK _ (List.getElem_mem _)
   have hes:eF (j+1)=eF j++[K.map (dw vs)]:=by rw[heF];simp only;rw[List.take_succ_eq_append_getElem hbc,List.map_append,←hKe];rfl
   refine wx ?_;simp -implicitDefEqProofs -dsimp[hbj,hbc,hn,hKe.symm,aO,show(j:Int)<n by omega,LC,LLC]
   obtain⟨iF,hiF⟩:∃iF:Nat→List Nat,iF=fun x=>(K.take x).map (dw vs):=⟨_,rfl⟩
   have hil:∀x,x≤K.length→(iF x).length=x:=fun x hx=>by rw[hiF];simp;omega
   refine aK (gG 3 1 [8] (by simp) (W_loopM 52 [8,10,11,12,37,38,39,40,41,42,43,44,45,46,47,48,49,50,51] (by simp[mB]<;>rfl) (σ:=Nat) (fun x=>x≤K.length) (fun x=>K.length-x) (fun x=>[(37,.int .i64 x),(8,.buf 9 0 x x)]) (fun x=>[X0,X1,X2,.buf 37 1 (cores.map (LC false)) false,B.cells [.nilS,.nilS],.buf 49 2 (crL VZ) false,B.cells [.buf 7 0 i i,.buf 8 0 j j],.buf 2 1 ((ab i).map ac) false,.buf 109 1 ((eF j).map (Ln false)) false,.buf 3 1 (nuL (iF x)) false]) 0 (by omega) (by simp) (by simp[hiF,nuL]) (by simp) ?_));intro x hx N3 Q3 hN3 hQ3;have hix:=hil x hx
   have hnl:(nuL (iF x)).length=x:=by rw[aw,hix]
   by_cases hbx:x<K.length
   ·obtain⟨c,hc⟩:∃c,c=K[x]:=⟨_,rfl⟩
    have his:iF (x+1)=iF x++[dw vs c]:=by rw[hiF];simp only;rw[List.take_succ_eq_append_getElem hbx,List.map_append,←hc];rfl
    have hcb:=iR vs c false (by omega);obtain⟨w,hw⟩:∃w,w=dw vs c:=⟨_,rfl⟩
    have hw2:bsC vs c 0 vs.length=w:=by rw[hw];rfl
    rw[←hw]at his;rw[hw2]at hcb;simp only[aO]at hcb;refine wx ?_;simp -implicitDefEqProofs -dsimp[hbx,hc.symm,aO,show(x:Int)<K.length by omega,LC,LLC];refine(callX (args:=[.buf 5 0 i N,.agg [.int .i64 c.id,.int .i64 c.attr],.fn 75 []]) hcb rfl (fun a v v' h1 h2=>?_) (.tup _ (fun v hv=>by simp at hv;rcases hv with rfl | rfl<;>constructor))).mono ?_
    ·match a with
     | 0=>simp at h1 h2;subst h1;subst h2;exact exp_pre (e:=49) (fz:=false) rfl hVZ hm hVl
     | 1=>simp at h1 h2;subst h1;subst h2;exact .pure _ (by simp)
     | 2=>simp at h1 h2;subst h1;subst h2;exact .pure _ (by simp)
     | a+3=>simp at h1
    rintro r H' ⟨rfl,rfl⟩;simp -implicitDefEqProofs -dsimp[hnl,cap8 x (by omega),aM x (by omega),LC,LLC];refine hN3 (x+1) _ _ (by omega) (by omega) (by simp) ⟨_,by simp[his,nuL,eN];rfl⟩ (by simp) (hrU i j (eF j) (iF (x+1)))
   ·obtain rfl:x=K.length:=by omega
    have hiK:iF K.length=K.map (dw vs):=by rw[hiF];simp
    rw[←hiK]at hes;refine W_frz 9 [8] rfl (by simp[hnl]) ?_;refine wx ?_;simp -implicitDefEqProofs -dsimp[hbx,show ¬(K.length:Int)<K.length by omega,LC,LLC];refine hQ3 _ _ _ ?_;simp -implicitDefEqProofs -dsimp[hej,qA j (by omega),aM j (by omega),LC,LLC];refine hN2 (j+1) _ _ (by omega) (by omega) (by simp[hn]) ⟨_,by simp[hes,Ln,nuL];rfl⟩ (by simp) (hrV i (j+1) (eF (j+1)))
  ·obtain rfl:j=n:=by omega
   have hen:eF j=cores.map fun K=>K.map (dw vs):=by rw[heF];simp only;rw[List.take_of_length_le (by omega)]
   refine wx ?_;simp -implicitDefEqProofs -dsimp[hbj,hn,show ¬(j:Int)<j by omega,LC,LLC];refine hQ2 _ _ _ ?_;simp -implicitDefEqProofs -dsimp[LC,LLC]
   have hP:PRB cores = .tup [.agg [.lst 1 false ((ab i).map ac),.lst 1 false ((eF j).map (Ln false))],LC false vs]:=by
    unfold PRB;rw[hvv,hm,hen];rfl
   refine⟨?_,by rw[hP];simp[ac]⟩;rw[hP];refine .tup _ _ rfl (jZ (.agg _ _ rfl (jZ ?_ ?_)) ?_)
   ·have:=eo (n:=4) (k:=7) (len:=i) (tot:=i) (show 4≤7 by omega) (H:=[X0,X1,X2,.buf 37 1 (cores.map (LC false)) false,B.cells [.buf 7 0 i i,.buf 8 0 j j],.buf 49 2 (crL VZ) false,B.cells [.buf 7 0 i i,.buf 8 0 j j],.buf 2 1 ((ab i).map ac) false,.buf 109 1 ((eF j).map (Ln false)) false]) (e:=2) (z:=1) (fz:=false) rfl (by simp[ab]) (Nat.le_refl _) (fun x hx=>by obtain⟨y,_,rfl⟩:=List.mem_map.1 hx;simp[ac])
    rwa [List.take_of_length_le (by simp[ab])]at this
   ·have:=eo (n:=4) (k:=8) (len:=j) (tot:=j) (show 4≤8 by omega) (H:=[X0,X1,X2,.buf 37 1 (cores.map (LC false)) false,B.cells [.buf 7 0 i i,.buf 8 0 j j],.buf 49 2 (crL VZ) false,B.cells [.buf 7 0 i i,.buf 8 0 j j],.buf 2 1 ((ab i).map ac) false,.buf 109 1 ((eF j).map (Ln false)) false]) (e:=109) (z:=1) (fz:=false) rfl (by rw[List.length_map,hej]) (Nat.le_refl _) (fun x hx=>by obtain⟨y,_,rfl⟩:=List.mem_map.1 hx;simp)
    rwa [List.take_of_length_le (by rw[List.length_map,hej];exact Nat.le_refl _)]at this
   ·have:=eo (n:=4) (k:=5) (len:=i) (tot:=N) (show 4≤5 by omega) (H:=[X0,X1,X2,.buf 37 1 (cores.map (LC false)) false,B.cells [.buf 7 0 i i,.buf 8 0 j j],.buf 49 2 (crL VZ) false,B.cells [.buf 7 0 i i,.buf 8 0 j j],.buf 2 1 ((ab i).map ac) false,.buf 109 1 ((eF j).map (Ln false)) false]) (e:=49) (z:=2) (fz:=false) rfl (by rw[bG,hVl]) hmN (fun x hx=>(iM VZ x hx).1)
    have e1:(crL VZ).take i=vs.map aO:=by
     rw[hVZ];unfold crL;rw[List.map_append,List.take_left' (by rw[List.length_map,hm])]
    rwa [e1]at this
theorem problem_l(cores:List (List Cr))(X0 X1 X2:B)(hX:∀k,4≤k→rbB k X0∧rbB k X1∧rbB k X2)(n:Nat)(hn:cores.length=n)(hn2:n≤100000)(hK:∀K∈cores,K.length≤100000)(hT:cores.flatten.length≤1000000):
  az Tryz.prog 63 [.buf 3 0 n n] [X0,X1,X2,CO cores] fun r H'=>r=PRB cores∧AM.Pure r∧H'=[X0,X1,X2,CO cores] :=
 dL (K:=fun r=>r=PRB cores) (problem_l0 cores X0 X1 X2 hX n hn hn2 hK hT)
theorem prove_f{ws:List Int}{es:List (List Nat)}(hb:HsB ws es)(f g:Bool)(b lf:Int)(P:List Nde×Int)(h:fG ws es (ws.length+1) (List.replicate ws.length 0) lf b=some P)(h1:1≤lf)(h2:lf≤9000000000000000000)(h3 : -1000000000000000≤b)(h4:b≤1000000000000000)(hP : -9000000000000000000≤P.2)(hl:P.1.length≤1000000):
  aS Tryz.prog 65 [ah f g ws es,.int .i64 b,.int .i64 lf] fun r=>r = .tup [LNd false P.1,.int .i64 0]:=by
 refine iN (prove_u hb f g b lf P h h1 h2 h3 h4 hP hl) (fun s u r hr hrel=>?_);obtain⟨fl,rfl⟩:=hr;refine⟨_,?_,by simp,rfl⟩
 cases hrel with
 | tup _ us hl hh =>
  refine .tup _ us hl (fun i c u hc hu=>?_)
  match i with
  | 0 =>
   simp only[List.getElem?_cons_zero,Option.some.injEq]at hc;subst hc;refine me (hh 0 _ u rfl hu) ?_;cases fl
   ·exact .inl rfl
   ·exact .inr (.inl ⟨2,_,rfl,rfl⟩)
  | 1=>exact hh 1 c u hc hu
  | i+2=>simp at hc
theorem minimum_f{ws:List Int}{es:List (List Nat)}(hb:HsB ws es)(f g:Bool)(hn:ws.length≤12)(lf:Int)(hlf:2^(ws.length+1)-1≤lf)(h1:1≤lf)(h2:lf≤9000000000000000000):
  aS Tryz.prog 64 [ah f g ws es,.int .i64 lf] fun r=>r = .tup [.lst 1 false ((lO ws es lf).map eN),.int .i64 (wl ws (lO ws es lf)),.int .i64 0]:=by
 refine iN (minimum_u hb f g hn lf hlf h1 h2) (fun s u r hr hrel=>?_);obtain⟨fl,rfl⟩:=hr;refine⟨_,?_,by simp[eN],rfl⟩
 cases hrel with
 | tup _ us hl hh =>
  refine .tup _ us hl (fun i c u hc hu=>?_)
  match i with
  | 0 =>
   simp only[List.getElem?_cons_zero,Option.some.injEq]at hc;subst hc;refine me (hh 0 _ u rfl hu) ?_;cases fl
   ·exact .inl rfl
   ·exact .inr (.inl ⟨1,_,rfl,rfl⟩)
  | 1=>exact hh 1 c u hc hu
  | 2=>exact hh 2 c u hc hu
  | i+3=>simp at hc
theorem Optimal_u(t:Tb)(ff gg df:Bool)(fds:List Fd)(hv:TbV t)(hB:TbN t)(hval:validT t=0)(hF:bo fds)(hfe:cC t.attrs.length fds=0)(hNN:t.rows.length*t.attrs.length≤9):
  aS Tryz.prog 28 [aF ff gg t,LF df fds,.int .i64 20000] fun r=>r = .tup [aI (optU t fds),.int .i64 0]:=by
 obtain⟨U,hU⟩:∃U,U=optU t fds:=⟨_,rfl⟩;rw[←hU];have ht:=hv.ok;have c0:=check_nil t ff gg df fds ht hF
 have hb0:jf t fds=0:=by unfold jf;simp[hval,hfe,show ¬60<t.rows.length*t.attrs.length by omega]
 rw[hb0]at c0;simp only[aF,LS,LR,LC,LF]at c0;refine cD (dL (K:=fun r=>r = .tup [aI U,.int .i64 0]) ?_);refine aD tok Tryz.func28 rfl rfl ?_;refine wx ?_;simp -implicitDefEqProofs -dsimp[Tryz.f28,List.replicate,aF,LS,LR,LC,LF];refine(aG (c0) (by simp)).mono ?_;rintro r H' ⟨rfl,rfl⟩;simp -implicitDefEqProofs -dsimp[aF,LS,LR,LC,LF];refine aK (co 37 1 [] 2 [4] rfl (by simp) (by simp) (W_loopM 101 [7,10,11,12,13,14,16,27,28,29,30,31,32,33,34,35,36,37,38,39,40,41,42,43,44,45,46,47,48,49,50,51,52,53,54,55,56,57,58,59,60,61,62,63,64,65,66,67,68,69,70,71,72,73,74,75,76,77,78,79,80,81,82,83,84,85,86,87,88,89,90,91,92,93,94,95,96,97,98,99,100] (by simp[mB]<;>rfl) (σ:=List (List Cr)×V) (fun p=>CoresOk t fds p.1∧(p.2 = .nilS∨∃L,p.2=LC false L)∧mY t fds (514-p.1.length) p.1=U) (fun p=>513-p.1.length) (fun p=>[]) (fun p=>[B.cells [.str t.name,.lst 1 ff (t.attrs.map V.str),.lst 2 gg (t.rows.map aN)],B.cells [.nilS,.str ByteArray.empty,.nilS,.nilS,.nilS,.nilS],B.cells [p.2,.str ByteArray.empty,.nilS,.nilS,.buf 3 0 p.1.length p.1.length,.nilS],B.buf 37 1 (p.1.map (LC false)) false]) ([],.nilS) ⟨CoresOk.nil t fds,.inl rfl,hU.symm⟩ (by simp) (by simp) (by simp) ?_));rintro⟨cores,cv⟩ ⟨hc,hcv,hgh⟩ N Q hN hQ;simp only at hc hcv hgh hN;obtain⟨n,hn⟩:∃n,cores.length=n:=⟨_,rfl⟩;rw[hn]
 have hn512:n≤512:=by rw[←hn];exact hc.len hNN
 have hcvp:AM.Pure cv∧cv.one=true:=by
  rcases hcv with rfl | ⟨L,rfl⟩
  ·exact⟨.nilS,rfl⟩
  ·exact⟨LC_pure _ _,rfl⟩
 obtain⟨hcv1,hcv2⟩:=hcvp
 have hx0:∀k,rbB k (B.cells [.str t.name,.lst 1 ff (t.attrs.map V.str),.lst 2 gg (t.rows.map aN)]):=fun k=>by simp
 have hx1:∀k,rbB k (B.cells [.nilS,.str ByteArray.empty,.nilS,.nilS,.nilS,.nilS]):=fun k=>by simp
 have hx2:∀(v:V) (k n:Nat),AM.Pure v→v.one=true→3<k→rbB k (B.cells [v,.str ByteArray.empty,.nilS,.nilS,.buf 3 0 n n,.nilS]):=fun v k n h1 h2 hk c hcm=>by
  simp only[List.mem_cons,List.not_mem_nil,or_false]at hcm
  rcases hcm with rfl | rfl | rfl | rfl | rfl | rfl
  ·exact cG h1 h2
  all_goals simp[rb]
  all_goals omega
 have hxC:∀(k:Nat) (cs:List (List Cr)),rbB k (B.buf 37 1 (cs.map (LC false)) false):=fun k cs=>CO_rb k cs
 have cp:=problem_l cores (B.cells [.str t.name,.lst 1 ff (t.attrs.map V.str),.lst 2 gg (t.rows.map aN)]) (B.cells [.nilS,.str ByteArray.empty,.nilS,.nilS,.nilS,.nilS]) (B.cells [cv,.str ByteArray.empty,.nilS,.nilS,.buf 3 0 n n,.nilS]) (fun k hk=>⟨hx0 k,hx1 k,hx2 cv k n hcv1 hcv2 (by omega)⟩) n hn (by omega) (fun K hK=>by have:=hc.klen K hK;omega) (hc.flen hNN);obtain⟨vs,hvs⟩:∃vs,vs=vsC cores:=⟨_,rfl⟩;obtain⟨m,hm⟩:∃m,vs.length=m:=⟨_,rfl⟩;obtain⟨es,hes⟩:∃es,es=cores.map (bu vs):=⟨_,rfl⟩
 have hm9:m≤9:=by rw[←hm,hvs];have:=hc.vlen;omega
 have hsb:=hc.hsb hNN
 have hPR:PRB cores = .tup [ah false false (ab m) es,LC false vs]:=by
  unfold PRB;rw[hc.edges,←hvs,hm,←hes]
 rw[hPR]at cp;rw[←hvs,hm,←hes]at hsb
 have hol:(ab m).length=m:=by simp[ab]
 have hpw:(2:Int)^(m+1)≤1024:=by
  have h1:(2:Nat)^(m+1)≤2^10:=Nat.pow_le_pow_right (by omega) (by omega)
  exact_mod_cast h1
 have cm:=minimum_f hsb false false (by rw[hol];omega) 20000 (by rw[hol];omega) (by omega) (by omega);obtain⟨T,hT,hml,hLo,hsome,hPlen,hPchk⟩:=optL_ok hc hNN;rw[←hvs,hm,←hes]at hT hml hsome hPchk;rw[←hvs]at hLo;rw[hml]at cm hsome;simp only[ah,L1,LLn,LC,CO]at cp cm;refine wx ?_;simp -implicitDefEqProofs -dsimp[hn,aF,LS,LR,LC,LF];refine bJ cp ?_;rintro r H' ⟨rfl,_,rfl⟩;simp -implicitDefEqProofs -dsimp[aF,LS,LR,LC,LF];refine(aG cm (by simp)).mono ?_;rintro r H' ⟨rfl,rfl⟩;simp -implicitDefEqProofs -dsimp[aF,LS,LR,LC,LF]
 have hrI:∀(k:Nat) (l:List Int) (fz:Bool),rbB k (.buf 2 1 (l.map ac) fz):=fun k l fz=>(rbB_buf1 (fun x hx=>by obtain⟨y,_,rfl⟩:=List.mem_map.1 hx;exact⟨by simp[ac],rfl⟩)).2 trivial
 have hr5:∀(x:Nat) (l:List Cr),∀bl∈[B.cells [.str t.name,.lst 1 ff (t.attrs.map V.str),.lst 2 gg (t.rows.map aN)],B.cells [.nilS,.str ByteArray.empty,.nilS,.nilS,.nilS,.nilS],B.cells [.buf 5 0 x x,.str ByteArray.empty,.nilS,.nilS,.buf 3 0 n n,.nilS],B.buf 37 1 (cores.map (LC false)) false,B.cells [.lst 1 false ((ab m).map ac),.lst 1 false (es.map (Ln false))],B.buf 49 2 (crL l) false],rbB 6 bl:=by
  intro x l bl hbl;simp only[List.mem_cons,List.not_mem_nil,or_false]at hbl
  rcases hbl with rfl | rfl | rfl | rfl | rfl | rfl
  ·exact hx0 _
  ·exact hx1 _
  ·intro c hcm;simp only[List.mem_cons,List.not_mem_nil,or_false]at hcm
   rcases hcm with rfl | rfl | rfl | rfl | rfl | rfl<;>simp[rb]
  ·exact hxC _ _
  ·intro c hcm;simp only[List.mem_cons,List.not_mem_nil,or_false]at hcm
   rcases hcm with rfl | rfl
   ·exact cG (by simp[ac]) rfl
   ·exact cG (by simp) rfl
  ·exact gD _ _ _ _
 obtain⟨ix,hix⟩:∃ix,ix=(List.range m).filter T:=⟨_,rfl⟩;rw[←hix]at hsome
 have hixl:ix.length≤m:=by rw[hix];exact Nat.le_trans (List.length_filter_le _ _) (by simp)
 obtain⟨pF,hpF⟩:∃pF:Nat→List Cr,pF=fun x=>(ix.take x).map (dW vs):=⟨_,rfl⟩
 have hpl:∀x,x≤ix.length→(pF x).length=x:=fun x hx=>by rw[hpF];simp;omega
 rw[←hix];refine aK (co 49 2 [] 2 [0] rfl (by simp) (by simp) (W_loopM 60 [16,27,30,46,47,48,49,50,51,52,53,54,55,56,57,58,59] (by simp[mB]<;>rfl) (σ:=Nat) (fun x=>x≤ix.length) (fun x=>ix.length-x) (fun x=>[(46,.int .i64 x)]) (fun x=>[B.cells [.str t.name,.lst 1 ff (t.attrs.map V.str),.lst 2 gg (t.rows.map aN)],B.cells [.nilS,.str ByteArray.empty,.nilS,.nilS,.nilS,.nilS],B.cells [.buf 5 0 x x,.str ByteArray.empty,.nilS,.nilS,.buf 3 0 n n,.nilS],B.buf 37 1 (cores.map (LC false)) false,B.cells [.lst 1 false ((ab m).map ac),.lst 1 false (es.map (Ln false))],B.buf 49 2 (crL (pF x)) false]) 0 (by omega) (by simp) (by simp[hpF,crL]) (by simp) ?_));intro x hx N2 Q2 hN2 hQ2;have hxl:=hpl x hx;have hcl:=bG (pF x);by_cases hb:x<ix.length
 ·obtain⟨v,hve⟩:∃v,v=ix[x]:=⟨_,rfl⟩
  have hvm:v<m:=by
   have h1:v∈ix:=by rw[hve];exact List.getElem_mem _
   rw[hix]at h1;exact List.mem_range.1 (List.mem_filter.1 h1).1
  have hvl:v<vs.length:=by omega
  obtain⟨c,hce⟩:∃c,c=vs[v]:=⟨_,rfl⟩
  have hcD:dW vs v=c:=by rw[hce];simp[dW,hvl]
  have hps:pF (x+1)=pF x++[c]:=by rw[hpF];simp only;rw[List.take_succ_eq_append_getElem hb,List.map_append,←hve,List.map_singleton,hcD]
  refine wx ?_;simp -implicitDefEqProofs -dsimp[hb,hve.symm,eN,show(x:Int)<ix.length by omega,aF,LS,LR,LC,LF];refine aK (ai tok mixed [7,9] [] [] (by kernel_rfl) fun C K hC hK=>?_);simp -implicitDefEqProofs [hvm,hvl,hm,hce.symm,aO,hcl,hxl,je x (by omega),aF,LS,LR,LC,LF];refine hK _ _ ?_;simp -implicitDefEqProofs -dsimp[aM x (by omega),aF,LS,LR,LC,LF];refine hN2 (x+1) _ _ (by omega) (by omega) (by simp) ⟨[],by simp[hps,crL,aO]⟩ (by simp[hcv1,hcv2]) (hr5 _ _)
 ·obtain rfl:x=ix.length:=by omega
  obtain⟨L,hL⟩:∃L,L=pF ix.length:=⟨_,rfl⟩
  have hLV:L=dV vs T:=by rw[hL,hpF];simp only;rw[List.take_length,hix,←hm];rfl
  have hvss:aZ vs:=by rw[hvs];exact dG _
  have hLs:aZ L:=by rw[hLV];exact kV hvss T
  have hLsub:∀c∈L,c∈aa t:=fun c hc2=>by
   rw[hLV]at hc2;have:=px c hc2;rw[hvs]at this;exact hc.vsub c this
  have hLl:L.length≤9:=by have:=jk (bT hLs) hLsub;omega
  have hLx:L.length=ix.length:=by rw[hL];exact hxl
  rw[←hL]at hxl hcl ⊢;have ce:=pk t ff gg df false fds L hv hF hLs (by omega);simp only[aF,LS,LR,LC,LF]at ce;refine jh 5 [] 2 [0] rfl rfl (by simp) (by simp[hcl,hxl]) ?_
  cases hok:okB (aW t fds L) with
  | true =>
   rw[hok]at ce;refine wx ?_;simp -implicitDefEqProofs -dsimp[hb,show ¬(ix.length:Int)<ix.length by omega,aF,LS,LR,LC,LF];refine hQ2 _ _ _ ?_;simp -implicitDefEqProofs -dsimp[aF,LS,LR,LC,LF]
   have hw:wl (ab m) ix=(L.length:Nat):=by rw[wl_ones m ix (fun v hv=>by rw[hix]at hv;exact List.mem_range.1 (List.mem_filter.1 hv).1),hLx]
   have hLoe:nY cores=L:=by rw[hLo,hLV]
   obtain⟨P,hP⟩:=Option.isSome_iff_exists.1 hsome
   have hPe:optP cores=P.1:=by unfold optP;rw[←hvs,hm,←hes,hml,←hix,hP];rfl
   rw[hPe]at hPlen hPchk;rw[hLoe]at hPchk;have hpa:=prove_all hsb (lf:=20000) (by rw[hol];omega) (T:=T) (by rw[hol];exact hT);rw[hol,gL,←hix,hP]at hpa;obtain⟨P',hP1,hP2,_,_⟩:=hpa;cases hP1
   have hUe:U=⟨L,pd t fds L,cores,P.1⟩:=by
    rw[←hgh,show 514-cores.length=(513-cores.length)+1 by omega,mY,hLoe,if_pos hok,hPe]
   have cpf:=prove_f hsb false false (wl (ab m) ix) 20000 P (by rw[hol];exact hP) (by omega) (by omega) (by rw[hw];omega) (by rw[hw];omega) (by omega) (by omega);have cf:=Fill_u t ff gg df false fds L ht hB hF (by omega);unfold FillR at cf;rw[if_pos (chk_ok hv hval hfe (by omega) ⟨hLs,hLsub,by omega⟩),hok,if_pos rfl]at cf;obtain⟨T2,hT2⟩:∃T2,T2=pd t fds L:=⟨_,rfl⟩;rw[←hT2]at cf;simp only[ah,L1,LLn,LNd,aF,LS,LR,LC,LF]at cpf cf;refine(aG (ce) (by simp)).mono ?_;rintro r H' ⟨rfl,rfl⟩;simp -implicitDefEqProofs -dsimp[aF,LS,LR,LC,LF];refine(aG (cpf) (by simp)).mono ?_;rintro r H' ⟨rfl,rfl⟩;simp -implicitDefEqProofs -dsimp[aF,LS,LR,LC,LF];refine(aG (cf) (by simp)).mono ?_;rintro r H' ⟨rfl,rfl⟩;simp -implicitDefEqProofs -dsimp[aF,LS,LR,LC,LF];refine hQ _ _ _ ?_;simp -implicitDefEqProofs -dsimp[aF,LS,LR,LC,LF];rw[hUe,←hT2];refine⟨?_,by unfold aI;simp⟩
   ·refine .tup _ _ rfl (jZ (.agg _ _ rfl (fun i c d h1 h2=>?_)) (.pure _ (by simp)))
    match i with
    | 0=>simp at h1 h2;subst h1;subst h2;exact .pure _ (LC_pure false L)
    | 1=>simp at h1 h2;subst h1;subst h2;exact .pure _ (by simp)
    | 2=>simp at h1 h2;subst h1;subst h2;exact .pure _ (LS_pure false T2.attrs)
    | 3=>simp at h1 h2;subst h1;subst h2;exact .pure _ (LR_pure false T2.rows)
    | 4 =>
     simp at h1 h2;subst h1;subst h2;have:=eo (n:=0) (k:=3) (len:=n) (tot:=n) (Nat.zero_le _) (H:=[B.cells [.str t.name,.lst 1 ff (t.attrs.map V.str),.lst 2 gg (t.rows.map aN)],B.cells [.lst 2 false (crL L),.str T2.name,.lst 1 false (T2.attrs.map V.str),.lst 2 false (T2.rows.map aN),.buf 3 0 n n,.lst 2 false (P.1.map aT)],B.cells [.lst 2 false (crL L),.str T2.name,.lst 1 false (T2.attrs.map V.str),.lst 2 false (T2.rows.map aN),.buf 3 0 n n,.lst 2 false (P.1.map aT)],B.buf 37 1 (cores.map (LC false)) false,B.cells [.lst 1 false ((ab m).map ac),.lst 1 false (es.map (Ln false))],B.buf 49 2 (crL L) true]) (e:=37) (z:=1) (fz:=false) rfl (by simp[hn]) (Nat.le_refl _) (fun x hx=>by obtain⟨y,_,rfl⟩:=List.mem_map.1 hx;simp)
     rwa [List.take_of_length_le (by simp[hn])]at this
    | 5=>simp at h1 h2;subst h1;subst h2;exact .pure _ (by simp)
    | i+6=>simp at h1
  | false =>
   rw[hok]at ce;refine wx ?_;simp -implicitDefEqProofs -dsimp[hb,show ¬(ix.length:Int)<ix.length by omega,aF,LS,LR,LC,LF];refine hQ2 _ _ _ ?_;simp -implicitDefEqProofs -dsimp[aF,LS,LR,LC,LF]
   have hno:¬Okq (aW t fds L):=fun h=>by rw[fH.2 h]at hok;cases hok
   have ca:=all_u t ff gg false L hv hLs (by omega);have cc:=core_u t ff gg df false fds (bX t L) hv hF (hv.sorted_others L) (fk t hv L);rw[coreG_flag _ _ _ rfl]at cc;have hKe:(fB t fds false (bX t L) 0).2=nZ t fds L:=rfl;rw[hKe]at cc;have hadd:=hc.add hv (T:=T) (by rw[←hvs,hm,←hes];exact hT) (by rw[←hvs,←hLV];exact hno);rw[←hvs,←hLV]at hadd;have hKo:=newK_ok hv hno
   have hgh2:mY t fds (514-(cQ (cores++[nZ t fds L])).length) (cQ (cores++[nZ t fds L]))=U:=by
    rw[hadd.2,←hgh,show 514-cores.length=(514-(cores.length+1))+1 by omega,mY,show nY cores=L by rw[hLo,hLV],if_neg (by rw[hok];simp)]
   generalize nZ t fds L=KN at hgh2 cc hadd hKo;obtain⟨k1,k2,k3⟩:=hKo;obtain⟨hc2,hc3⟩:=hadd
   have hKl:KN.length≤9:=by have:=jk (bT k3) (fun c hc=>(cP.1 (k2 c hc)).1);omega
   obtain⟨O,hO⟩:∃O,O=bX t L:=⟨_,rfl⟩;rw[←hO]at ca cc;simp only[aF,LS,LR,LC,LF]at ca cc
   have hs:=sortLists_u (H:=[B.cells [.str t.name,.lst 1 ff (t.attrs.map V.str),.lst 2 gg (t.rows.map aN)],B.cells [.nilS,.str ByteArray.empty,.nilS,.nilS,.nilS,.nilS],B.cells [.lst 2 false (crL L),.str ByteArray.empty,.nilS,.nilS,.buf 3 0 (n+1) (n+1),.nilS],B.buf 37 1 (cores.map (LC false)) false,B.cells [.lst 1 false ((ab m).map ac),.lst 1 false (es.map (Ln false))],B.buf 49 2 (crL L) true]) (k:=3) (e:=37) (f:=false) (cores++[KN]) (n+1) (by simp[hn]) (by simp) (by omega) (fun l hl=>by
    rcases List.mem_append.1 hl with h | h
    ·have:=hc.klen l h;omega
    ·rw[List.mem_singleton]at h;subst h;omega)
   simp only[LB,List.set_cons_succ,List.set_cons_zero,List.map_append,List.map_cons,List.map_nil,LC]at hs;refine(aG (ce) (by simp)).mono ?_;rintro r H' ⟨rfl,rfl⟩;simp -implicitDefEqProofs -dsimp[aF,LS,LR,LC,LF];refine aK (ai tok mixed [10,12] [] [(.lst 2 false (O.map aO),[]),(.lst 2 false (KN.map aO),[])] (by kernel_rfl) fun C K hC hK=>?_);simp -implicitDefEqProofs [hn,qA n (by omega),aF,LS,LR,LC,LF];refine⟨by(repeat' apply And.intro)<;>first | exact hC _ _ _ _ (aG ca (by simp[crL])) | exact hC _ _ _ _ (aG cc (by simp)),hK _ _ ?_⟩;simp -implicitDefEqProofs -dsimp[aF,LS,LR,LC,LF];refine bJ hs ?_;rintro r H' ⟨rfl,rfl⟩;simp -implicitDefEqProofs -dsimp[aF,LS,LR,LC,LF];obtain⟨cs2,hcs2⟩:∃cs2,cs2=cQ (cores++[KN]):=⟨_,rfl⟩;rw[←hcs2]at hc2 hc3 hgh2 ⊢;refine hN (cs2,LC false L) _ _ ⟨hc2,.inr ⟨L,rfl⟩,hgh2⟩ (by simp only;omega) (by simp) ⟨_,by simp[hc3,hn,LC,crL];rfl⟩ (by simp) (fun bl hbl=>?_);simp only[List.mem_cons,List.not_mem_nil,or_false]at hbl
   rcases hbl with rfl | rfl | rfl | rfl
   ·exact hx0 _
   ·exact hx1 _
   ·exact hx2 _ _ _ (LC_pure _ _) rfl (by simp)
   ·exact hxC _ _
theorem Check_r(t:Tb)(ff gg df:Bool)(fds:List Fd)(u:Upd)(hv:TbV t)(hF:bo fds)(hfl:fds.length≤1000000)(hu:UpdOk u)(hul:∀r∈u.tab.rows,∀v∈r.vals,v.s.size≤maxLen):aS Tryz.prog 29 [aF ff gg t,LF df fds,aI u] fun r=>r = .bool (pw t fds u):=by
 have ht:=hv.ok;obtain⟨hut,hucl,hucn,hucK,hucf,hup⟩:=hu;have c1:=error_r t ff gg df false fds u.cells ht hF (by omega);have c2:=differs_r t u.tab ff gg false false false u.cells hv hut (by omega) (fun h r hr=>⟨(iU hut h).len r hr,hul r hr⟩);simp only[aF,LS,LR,LC,LF]at c1 c2;by_cases h1:dl t fds u.cells=0
 ·rw[h1]at c1
  cases h2:difB t u.tab u.cells with
  | false =>
   rw[show pw t fds u=false by unfold pw;rw[if_neg (by simp[h1]),if_pos h2]];rw[h2]at c2;refine aC (aD tok Tryz.func29 rfl rfl ?_);refine wx ?_;simp -implicitDefEqProofs -dsimp[Tryz.f29,List.replicate,aF,LS,LR,LC,LF,aI,LLC,LNd];refine(aG (c1) (by simp)).mono ?_;rintro r H' ⟨rfl,rfl⟩;simp -implicitDefEqProofs -dsimp[aF,LS,LR,LC,LF,aI,LLC,LNd];refine(aG (c2) (by simp)).mono ?_;rintro r H' ⟨rfl,rfl⟩;simp -implicitDefEqProofs -dsimp[aF,LS,LR,LC,LF,aI,LLC,LNd]
  | true =>
   rw[h2]at c2
   have h2v:validT u.tab=0:=by
    unfold difB at h2;rw[Bool.and_eq_true]at h2;exact of_decide_eq_true h2.1
   have huv:=iU hut h2v;have c3:=satisfies_r u.tab false false df fds huv.rows (fun r hr=>⟨by rw[huv.len r hr];have:=huv.attrs;omega,hul r hr⟩) hfl;simp only[aF,LS,LR,LC,LF]at c3
   cases h3:satB u.tab fds with
   | false =>
    rw[show pw t fds u=false by unfold pw;rw[if_neg (by simp[h1]),if_neg (by simp[h2]),if_pos h3]];rw[h3]at c3;refine aC (aD tok Tryz.func29 rfl rfl ?_);refine wx ?_;simp -implicitDefEqProofs -dsimp[Tryz.f29,List.replicate,aF,LS,LR,LC,LF,aI,LLC,LNd];refine(aG (c1) (by simp)).mono ?_;rintro r H' ⟨rfl,rfl⟩;simp -implicitDefEqProofs -dsimp[aF,LS,LR,LC,LF,aI,LLC,LNd];refine(aG (c2) (by simp)).mono ?_;rintro r H' ⟨rfl,rfl⟩;simp -implicitDefEqProofs -dsimp[aF,LS,LR,LC,LF,aI,LLC,LNd];refine(aG (c3) (by simp)).mono ?_;rintro r H' ⟨rfl,rfl⟩;simp -implicitDefEqProofs -dsimp[aF,LS,LR,LC,LF,aI,LLC,LNd]
   | true =>
    rw[h3]at c3;have c4:=dR t ff gg hv.rows (by have:=hv.attrs;omega);obtain⟨A,hA⟩:∃A,A=aa t:=⟨_,rfl⟩
    have hAn:A.Nodup:=by rw[hA];exact bT hv.sorted
    have hAl:A.length≤60:=by rw[hA,dM];exact(kK ht h1).2.2.1
    rw[←hA]at c4;obtain⟨n,hn⟩:∃n,u.cores.length=n:=⟨_,rfl⟩;obtain⟨cB,hcB⟩:∃b,b=corB t fds u.cores:=⟨_,rfl⟩;obtain⟨vs,hvs⟩:∃vs,vs=vtx u.cores A A.length:=⟨_,rfl⟩;obtain⟨m,hm⟩:∃m,vs.length=m:=⟨_,rfl⟩
    have hm60:m≤60:=by rw[←hm,hvs];exact Nat.le_trans (vtx_len _ _ _) hAl
    obtain⟨E,hE⟩:∃b,b=pw t fds u:=⟨_,rfl⟩
    have hE0:E=if cB=false then false else eL (ab m) (u.cores.map fun K=>edR vs K m) u.cells.length u.prf:=by
     rw[hE];unfold pw;rw[if_neg (by simp[h1]),if_neg (by simp[h2]),if_neg (by simp[h3]),←hcB,←hA,←hvs,hm]
    rw[←hE];clear hE
    have hrC:∀(k:Nat) (l:List Cr) (fz:Bool),rbB k (.buf 49 2 (crL l) fz):=fun k l fz=>gD _ _ _ _
    have hrI:∀(k:Nat) (l:List Int) (fz:Bool),rbB k (.buf 2 1 (l.map ac) fz):=fun k l fz=>(rbB_buf1 (fun x hx=>by obtain⟨y,_,rfl⟩:=List.mem_map.1 hx;exact⟨by simp[ac],rfl⟩)).2 trivial
    have hrN:∀(k:Nat) (l:List Nat) (fz:Bool),rbB k (.buf 3 1 (nuL l) fz):=fun k l fz=>(rbB_buf1 (cY l)).2 trivial
    have hrE:∀(k:Nat) (es:List (List Nat)) (fz:Bool),rbB k (.buf 109 1 (es.map (Ln false)) fz):=fun k es fz=>(rbB_buf1 (fun x hx=>by obtain⟨e,_,rfl⟩:=List.mem_map.1 hx;exact⟨by simp,rfl⟩)).2 trivial
    have hr0:∀k,rbB k (B.cells [.str t.name,.lst 1 ff (t.attrs.map V.str),.lst 2 gg (t.rows.map aN)]):=fun k=>by simp
    have hr1:∀k,rbB k (B.cells [.lst 2 false (u.cells.map aO),.str u.tab.name,.lst 1 false (u.tab.attrs.map V.str),.lst 2 false (u.tab.rows.map aN),.lst 1 false (u.cores.map (LC false)),.lst 2 false (u.prf.map aT)]):=fun k=>by simp
    have hrA2:∀(i j:Nat) (ws:List Int) (es:List (List Nat)) (c0 c1:V),(c0 = .buf 4 0 i i)→(c1 = .nilS)→∀bl∈[B.cells [.str t.name,.lst 1 ff (t.attrs.map V.str),.lst 2 gg (t.rows.map aN)],B.cells [.lst 2 false (u.cells.map aO),.str u.tab.name,.lst 1 false (u.tab.attrs.map V.str),.lst 2 false (u.tab.rows.map aN),.lst 1 false (u.cores.map (LC false)),.lst 2 false (u.prf.map aT)],B.buf 49 2 (vs.map aO) true,.cells [c0,c1],.buf 2 1 (ws.map ac) false],rbB 5 bl:=by
     intro i j ws es c0 c1 e0 e1 bl hbl;subst e0;subst e1;simp only[List.mem_cons,List.not_mem_nil,or_false]at hbl
     rcases hbl with rfl | rfl | rfl | rfl | rfl
     ·exact hr0 _
     ·exact hr1 _
     ·exact hrC _ _ _
     ·intro c hc;simp at hc;rcases hc with rfl | rfl<;>simp[rb]
     ·exact hrI _ _ _
    have hrA3:∀(j:Nat) (es:List (List Nat)),∀bl∈[B.cells [.str t.name,.lst 1 ff (t.attrs.map V.str),.lst 2 gg (t.rows.map aN)],B.cells [.lst 2 false (u.cells.map aO),.str u.tab.name,.lst 1 false (u.tab.attrs.map V.str),.lst 2 false (u.tab.rows.map aN),.lst 1 false (u.cores.map (LC false)),.lst 2 false (u.prf.map aT)],B.buf 49 2 (vs.map aO) true,.cells [L1 false (ab m),.buf 5 0 j j],.buf 2 1 ((ab m).map ac) true,.buf 109 1 (es.map (Ln false)) false],rbB 6 bl:=by
     intro j es bl hbl;simp only[List.mem_cons,List.not_mem_nil,or_false]at hbl
     rcases hbl with rfl | rfl | rfl | rfl | rfl | rfl
     ·exact hr0 _
     ·exact hr1 _
     ·exact hrC _ _ _
     ·intro c hc;simp at hc;rcases hc with rfl | rfl<;>simp[rb,L1,ac]
     ·exact hrI _ _ _
     ·exact hrE _ _ _
    have hrA4:∀(j:Nat) (es:List (List Nat)) (l:List Nat),∀bl∈[B.cells [.str t.name,.lst 1 ff (t.attrs.map V.str),.lst 2 gg (t.rows.map aN)],B.cells [.lst 2 false (u.cells.map aO),.str u.tab.name,.lst 1 false (u.tab.attrs.map V.str),.lst 2 false (u.tab.rows.map aN),.lst 1 false (u.cores.map (LC false)),.lst 2 false (u.prf.map aT)],B.buf 49 2 (vs.map aO) true,.cells [L1 false (ab m),.buf 5 0 j j],.buf 2 1 ((ab m).map ac) true,.buf 109 1 (es.map (Ln false)) false,.buf 3 1 (nuL l) false],rbB 7 bl:=by
     intro j es l bl hbl;simp only[List.mem_cons,List.not_mem_nil,or_false]at hbl
     rcases hbl with rfl | rfl | rfl | rfl | rfl | rfl | rfl
     ·exact hr0 _
     ·exact hr1 _
     ·exact hrC _ _ _
     ·intro c hc;simp at hc;rcases hc with rfl | rfl<;>simp[rb,L1,ac]
     ·exact hrI _ _ _
     ·exact hrE _ _ _
     ·exact hrN _ _ _
    have hrA:∀l fz,∀bl∈[B.cells [.str t.name,.lst 1 ff (t.attrs.map V.str),.lst 2 gg (t.rows.map aN)],B.cells [.lst 2 false (u.cells.map aO),.str u.tab.name,.lst 1 false (u.tab.attrs.map V.str),.lst 2 false (u.tab.rows.map aN),.lst 1 false (u.cores.map (LC false)),.lst 2 false (u.prf.map aT)],B.buf 49 2 (crL l) fz],rbB 3 bl:=by
     intro l fz bl hbl;simp only[List.mem_cons,List.not_mem_nil,or_false]at hbl
     rcases hbl with rfl | rfl | rfl
     ·exact hr0 _
     ·exact hr1 _
     ·exact hrC _ _ _
    simp only[aF,LS,LR,LC,LF]at c4;refine aC (aD tok Tryz.func29 rfl rfl ?_);refine wx ?_;simp -implicitDefEqProofs -dsimp[Tryz.f29,List.replicate,aF,LS,LR,LC,LF,aI,LLC,LNd];refine(aG (c1) (by simp)).mono ?_;rintro r H' ⟨rfl,rfl⟩;simp -implicitDefEqProofs -dsimp[aF,LS,LR,LC,LF,aI,LLC,LNd];refine(aG (c2) (by simp)).mono ?_;rintro r H' ⟨rfl,rfl⟩;simp -implicitDefEqProofs -dsimp[aF,LS,LR,LC,LF,aI,LLC,LNd];refine(aG (c3) (by simp)).mono ?_;rintro r H' ⟨rfl,rfl⟩;simp -implicitDefEqProofs -dsimp[aF,LS,LR,LC,LF,aI,LLC,LNd];refine(aG (c4) (by simp)).mono ?_;rintro r H' ⟨rfl,rfl⟩;simp -implicitDefEqProofs -dsimp[aF,LS,LR,LC,LF,aI,LLC,LNd];refine aK (gG 49 2 [8] (by simp) (W_loopM 79 [8,9,10,40,41,42,43,44,45,46,47,48,49,50,51,52,53,54,55,56,57,58,59,60,61,62,63,64,65,66,67,68,69,70,71,72,73,74,75,76,77,78] (by simp[mB]<;>rfl) (σ:=Nat) (fun i=>i≤A.length) (fun i=>A.length-i) (fun i=>[(9,.int .i64 i),(8,.buf 2 0 (vtx u.cores A i).length (vtx u.cores A i).length)]) (fun i=>[B.cells [.str t.name,.lst 1 ff (t.attrs.map V.str),.lst 2 gg (t.rows.map aN)],B.cells [.lst 2 false (u.cells.map aO),.str u.tab.name,.lst 1 false (u.tab.attrs.map V.str),.lst 2 false (u.tab.rows.map aN),.lst 1 false (u.cores.map (LC false)),.lst 2 false (u.prf.map aT)],B.buf 49 2 (crL (vtx u.cores A i)) false]) 0 (by omega) (by simp[vtx]) (by simp[vtx,crL]) (by simp) ?_));intro i hi N Q hN hQ;by_cases hb:i<A.length
    ·obtain⟨c,hc⟩:∃c,c=A[i]:=⟨_,rfl⟩;obtain⟨V0,hV0⟩:∃V0,V0=vtx u.cores A i:=⟨_,rfl⟩
     have hcV:c∉V0:=by rw[hc,hV0];exact vtx_not hAn hb
     have hV0l:V0.length≤i:=by rw[hV0];exact vtx_len _ _ _
     have hVs:vtx u.cores A (i+1)=vt2 u.cores V0 c n:=by
      rw[vtx_succ _ _ _ hb,←hV0,←hc];unfold vt2 inC;rw[List.take_of_length_le (by omega)]
     rw[←hV0];refine wx ?_;simp -implicitDefEqProofs -dsimp[hb,show(i:Int)<A.length by omega,aF,LS,LR,LC,LF,aI,LLC,LNd];refine aK (W_loopM 79 [8,10,46,47,48,49,50,51,52,53,54,55,56,57,58,59,60,61,62,63,64,65,66,67,68,69,70,71,72,73,74,75,76,77,78] (by simp[mB]<;>rfl) (σ:=Nat) (fun k=>k≤n) (fun k=>n-k) (fun k=>[(10,.int .i64 k),(8,.buf 2 0 (vt2 u.cores V0 c k).length (vt2 u.cores V0 c k).length)]) (fun k=>[B.cells [.str t.name,.lst 1 ff (t.attrs.map V.str),.lst 2 gg (t.rows.map aN)],B.cells [.lst 2 false (u.cells.map aO),.str u.tab.name,.lst 1 false (u.tab.attrs.map V.str),.lst 2 false (u.tab.rows.map aN),.lst 1 false (u.cores.map (LC false)),.lst 2 false (u.prf.map aT)],B.buf 49 2 (crL (vt2 u.cores V0 c k)) false]) 0 (by omega) (by simp[vt2]) (by simp[vt2]) (by simp) ?_);intro k hk N2 Q2 hN2 hQ2;by_cases hbk:k<n
     ·have hbc:k<u.cores.length:=by omega
      obtain⟨K,hKe⟩:∃K,K=u.cores[k]:=⟨_,rfl⟩
      have hKl:K.length≤100000:=by rw[hKe];exact hucK _ (List.getElem_mem _)
      have d1:=pQ K c false (by omega)
      have hV2l:(vt2 u.cores V0 c k).length≤i+1:=by unfold vt2;split<;>simp<;>omega
      have d2:=pQ (vt2 u.cores V0 c k) c false (by omega);rw[vt2_has hcV]at d2;have hcl:=bG (vt2 u.cores V0 c k);simp only[LC,aO]at d1 d2
      cases q1:dD K c with
      | false =>
       have hst:=vt2_same (V:=V0) hbc (.inl (by rw[←hKe];exact q1));rw[q1]at d1;refine wx ?_;simp -implicitDefEqProofs -dsimp[hbk,hbc,hn,hKe.symm,hb,hc.symm,aO,show(k:Int)<n by omega,aF,LS,LR,LC,LF,aI,LLC,LNd];refine .inr ⟨aJ (by kernel_rfl),?_⟩;refine aj _ (aG (d1) (by simp)) ?_;simp -implicitDefEqProofs -dsimp[aM k (by omega),aF,LS,LR,LC,LF,aI,LLC,LNd];refine hN2 (k+1) _ _ (by omega) (by omega) (by simp[hst]) ⟨[],by simp[hst]⟩ (by simp) (hrA _ _)
      | true =>
       rw[q1]at d1
       cases q2:(u.cores.take k).any (fun K=>dD K c) with
       | true =>
        have hst:=vt2_same (V:=V0) hbc (.inr q2);rw[q2]at d2;refine wx ?_;simp -implicitDefEqProofs -dsimp[hbk,hbc,hn,hKe.symm,hb,hc.symm,aO,show(k:Int)<n by omega,aF,LS,LR,LC,LF,aI,LLC,LNd];refine .inr ⟨aJ (by kernel_rfl),?_⟩;refine aj _ (aG (d1) (by simp)) ?_;simp -implicitDefEqProofs -dsimp[hb,hc.symm,aO,aF,LS,LR,LC,LF,aI,LLC,LNd];refine aj _ (callX (args:=[.buf 2 0 (vt2 u.cores V0 c k).length (vt2 u.cores V0 c k).length,.agg [.int .i64 c.id,.int .i64 c.attr]]) d2 rfl (fun a v v' e1 e2=>?_) (.bool _)) ?_
        ·match a with
         | 0=>simp at e1 e2;subst e1;subst e2;exact expC (e:=49) (fz:=false) rfl rfl
         | 1=>simp at e1 e2;subst e1;subst e2;exact .pure _ (by simp)
         | a+2=>simp at e1
        simp -implicitDefEqProofs -dsimp[aM k (by omega),aF,LS,LR,LC,LF,aI,LLC,LNd];refine hN2 (k+1) _ _ (by omega) (by omega) (by simp[hst]) ⟨[],by simp[hst]⟩ (by simp) (hrA _ _)
       | false =>
        obtain⟨e1,e2⟩:=vt2_new (V:=V0) hbc (by rw[←hKe];exact q1) q2;rw[q2]at d2;rw[e1]at d2 hcl ⊢;refine wx ?_;simp -implicitDefEqProofs -dsimp[hbk,hbc,hn,hKe.symm,hb,hc.symm,aO,show(k:Int)<n by omega,aF,LS,LR,LC,LF,aI,LLC,LNd];refine .inr ⟨aJ (by kernel_rfl),?_⟩;refine aj _ (aG (d1) (by simp)) ?_;simp -implicitDefEqProofs -dsimp[hb,hc.symm,aO,aF,LS,LR,LC,LF,aI,LLC,LNd];refine aj _ (callX (args:=[.buf 2 0 V0.length V0.length,.agg [.int .i64 c.id,.int .i64 c.attr]]) d2 rfl (fun a v v' e1 e2=>?_) (.bool _)) ?_
        ·match a with
         | 0=>simp at e1 e2;subst e1;subst e2;exact expC (e:=49) (fz:=false) rfl rfl
         | 1=>simp at e1 e2;subst e1;subst e2;exact .pure _ (by simp)
         | a+2=>simp at e1
        simp -implicitDefEqProofs -dsimp[hb,hc.symm,aO,hcl,je V0.length (by omega),aM k (by omega),aF,LS,LR,LC,LF,aI,LLC,LNd];refine hN2 (k+1) _ _ (by omega) (by omega) (by simp[e2]) ⟨[],by simp[e2,crL,aO]⟩ (by simp) (hrA _ _)
     ·obtain rfl:k=n:=by omega
      refine wx ?_;simp -implicitDefEqProofs -dsimp[hbk,hn,aF,LS,LR,LC,LF,aI,LLC,LNd];refine hQ2 _ _ _ ?_;simp -implicitDefEqProofs -dsimp[aM i (by omega),aF,LS,LR,LC,LF,aI,LLC,LNd];refine hN (i+1) _ _ (by omega) (by omega) (by simp[hVs]) ⟨[],by simp[hVs]⟩ (by simp) (hrA _ _)
    ·obtain rfl:i=A.length:=by omega
     rw[←hvs,hm];have hcl:=bG vs;refine W_frz 2 [8] rfl (by simp[hcl,hm]) ?_;simp only[crL]at hcl ⊢;refine wx ?_;simp -implicitDefEqProofs -dsimp[hb,aF,LS,LR,LC,LF,aI,LLC,LNd];refine hQ _ _ _ ?_;simp -implicitDefEqProofs -dsimp[aF,LS,LR,LC,LF,aI,LLC,LNd];refine aK (co 2 1 [] 3 [0] rfl (by simp) (by simp) (W_loopM 90 [12,79,80,81,82,83,84,85,86,87,88,89] (by simp[mB]<;>rfl) (σ:=Nat) (fun x=>x≤m) (fun x=>m-x) (fun x=>[(12,.int .i64 x)]) (fun x=>[B.cells [.str t.name,.lst 1 ff (t.attrs.map V.str),.lst 2 gg (t.rows.map aN)],B.cells [.lst 2 false (u.cells.map aO),.str u.tab.name,.lst 1 false (u.tab.attrs.map V.str),.lst 2 false (u.tab.rows.map aN),.lst 1 false (u.cores.map (LC false)),.lst 2 false (u.prf.map aT)],B.buf 49 2 (vs.map aO) true,B.cells [.buf 4 0 x x,.nilS],.buf 2 1 ((ab x).map ac) false]) 0 (by omega) (by simp[hm,hcl]) (by simp[ab]) (by simp) ?_));intro x hx N2 Q2 hN2 hQ2
     have hol:(ab x).length=x:=by simp[ab]
     by_cases hbx:x<m
     ·have hos:ab (x+1)=ab x++[1]:=by unfold ab;rw[List.replicate_succ']
      refine wx ?_;simp -implicitDefEqProofs -dsimp[hbx,hcl,hm,show(x:Int)<m by omega,aM x (by omega),hol,cap8 x (by omega),aF,LS,LR,LC,LF,aI,LLC,LNd];refine hN2 (x+1) _ _ (by omega) (by omega) (by simp) ⟨[],by simp[hos,ac]⟩ (by simp) (hrA2 (x+1) 0 _ [] _ _ rfl rfl)
     ·obtain rfl:x=m:=by omega
      refine jh 4 [] 3 [0] rfl rfl (by simp) (by simp[hol]) ?_;refine wx ?_;simp -implicitDefEqProofs -dsimp[hbx,hcl,hm,aF,LS,LR,LC,LF,aI,LLC,LNd];refine hQ2 _ _ _ ?_;simp -implicitDefEqProofs -dsimp[aF,LS,LR,LC,LF,aI,LLC,LNd]
      obtain⟨eF,heF⟩:∃eF:Nat→List (List Nat),eF=fun j=>(u.cores.take j).map fun K=>edR vs K x:=⟨_,rfl⟩
      have hel:∀j,j≤n→(eF j).length=j:=fun j hj=>by rw[heF];simp;omega
      refine aK (co 109 1 [] 3 [1] rfl (by simp) (by simp) (W_loopM 162 [6,13,14,15,90,91,92,93,94,95,96,97,98,99,100,101,102,103,104,105,106,107,108,109,110,111,112,113,114,115,116,117,118,119,120,121,122,123,124,125,126,127,128,129,130,131,132,133,134,135,136,137,138,139,140,141,142,143,144,145,146,147,148,149,150,151,152,153,154,155,156,157,158,159,160,161] (by simp[mB]<;>rfl) (σ:=Nat) (fun j=>j≤n∧((List.range n).drop j).all (nh t fds u.cores)=cB) (fun j=>n-j) (fun j=>[(13,.int .i64 j)]) (fun j=>[B.cells [.str t.name,.lst 1 ff (t.attrs.map V.str),.lst 2 gg (t.rows.map aN)],B.cells [.lst 2 false (u.cells.map aO),.str u.tab.name,.lst 1 false (u.tab.attrs.map V.str),.lst 2 false (u.tab.rows.map aN),.lst 1 false (u.cores.map (LC false)),.lst 2 false (u.prf.map aT)],B.buf 49 2 (vs.map aO) true,B.cells [L1 false (ab x),.buf 5 0 j j],.buf 2 1 ((ab x).map ac) true,.buf 109 1 ((eF j).map (Ln false)) false]) 0 ⟨by omega,by rw[List.drop_zero,hcB,←hn];rfl⟩ (by simp) (by simp[heF,L1]) (by simp) ?_));rintro j ⟨hj,hy⟩ N3 Q3 hN3 hQ3;have hej:=hel j hj;by_cases hbj:j<n
      ·have hbc:j<u.cores.length:=by omega
       obtain⟨K,hKe⟩:∃K,K=u.cores[j]:=⟨_,rfl⟩
       have hKl:K.length≤100000:=by rw[hKe];exact hucK _ (List.getElem_mem _)
       have hKd:u.cores.getD j []=K:=by rw[hKe];simp[hbc]
       have hes:eF (j+1)=eF j++[edR vs K x]:=by rw[heF];simp only;rw[List.take_succ_eq_append_getElem hbc,List.map_append,←hKe];rfl
       rw[oh n j hbj,List.all_cons]at hy
       have hf:nh t fds u.cores j=false→E=false:=fun h=>by
        rw[h,Bool.false_and]at hy;rw[hE0,if_pos hy.symm]
       have hg:nh t fds u.cores j=true→((List.range n).drop (j+1)).all (nh t fds u.cores)=cB:=fun h=>by
        rw[h,Bool.true_and]at hy;exact hy
       clear hy;unfold nh at hf hg;rw[hKd]at hf hg;have d1:=error_r t ff gg df false fds K ht hF (by omega);simp only[aF,LS,LR,LC,LF]at d1;by_cases k1:dl t fds K=0
       ·rw[k1]at d1;have d2:=necessary_r t ff gg df false fds K hv hF (by omega);simp only[aF,LS,LR,LC,LF]at d2
        cases k2:na t fds K with
        | true =>
         rw[k2]at d2;rw[k1,k2]at hf hg;have w1:IntKind.i64.wrap (1:Int)=1:=wrap64 (by omega) (by omega);by_cases k3:j=0
         case' pos =>
          have hg:=hg (by simp[k3])
          have k3':¬(0:Int)<(j:Int):=by omega
          have k3n:¬0<j:=by omega
          refine wx ?_;simp -implicitDefEqProofs -dsimp[hbj,hbc,hn,hKe.symm,aF,LS,LR,LC,LF,aI,LLC,LNd];refine .inr ⟨aJ (by kernel_rfl),?_⟩;refine aj _ (aG (d1) (by simp)) ?_;simp -implicitDefEqProofs -dsimp[hbj,hbc,hn,hKe.symm,aF,LS,LR,LC,LF,aI,LLC,LNd];refine aj _ (aG (d2) (by simp)) ?_;simp -implicitDefEqProofs -dsimp[k3',k3n,aF,LS,LR,LC,LF,aI,LLC,LNd]
         case' neg =>
          obtain⟨p,hjp⟩:∃p,j=p+1:=⟨j-1,by omega⟩;obtain⟨K',hKe'⟩:∃K',K'=u.cores[p]:=⟨_,rfl⟩
          have hKl':K'.length≤100000:=by rw[hKe'];exact hucK _ (List.getElem_mem _)
          have hKd':u.cores.getD p []=K':=by rw[hKe'];simp[show p<u.cores.length by omega]
          rw[show j-1=p by omega,hKd']at hf hg;have d4:=lessCells_r K' K false false (by omega) (by omega);rw[ltLs_eq]at d4;simp only[LC]at d4
          have wp:IntKind.i64.wrap ((j:Int)-1)=(p:Int):=by rw[wrap64 (by omega) (by omega)];omega
          have hp:p<u.cores.length:=by omega
          have hp2:p<n:=by omega
          have hj0:(0:Int)<(j:Int):=by omega
          have hj1:0<j:=by omega
          by_cases k4:au K' K<0
          case' neg =>
           have hf:=hf (by simp[k4,k3]);rw[decide_eq_false k4]at d4;refine wx ?_;simp -implicitDefEqProofs -dsimp[hbj,hbc,hn,hKe.symm,aF,LS,LR,LC,LF,aI,LLC,LNd];refine .inr ⟨aJ (by kernel_rfl),?_⟩;refine aj _ (aG (d1) (by simp)) ?_;simp -implicitDefEqProofs -dsimp[hbj,hbc,hn,hKe.symm,aF,LS,LR,LC,LF,aI,LLC,LNd];refine aj _ (aG (d2) (by simp)) ?_;simp -implicitDefEqProofs -dsimp[hj0,hj1,wp,hKe'.symm,hp,hp2,hn,hbj,hKe.symm,hbc,aF,LS,LR,LC,LF,aI,LLC,LNd];refine aj _ (aG (d4) (by simp)) ?_;simp -implicitDefEqProofs -dsimp[aF,LS,LR,LC,LF,aI,LLC,LNd];refine hQ3 _ _ _ ?_;simp -implicitDefEqProofs -dsimp[aF,LS,LR,LC,LF,aI,LLC,LNd];exact hf
          have hg:=hg (by simp[k4]);rw[decide_eq_true k4]at d4;refine wx ?_;simp -implicitDefEqProofs -dsimp[hbj,hbc,hn,hKe.symm,aF,LS,LR,LC,LF,aI,LLC,LNd];refine .inr ⟨aJ (by kernel_rfl),?_⟩;refine aj _ (aG (d1) (by simp)) ?_;simp -implicitDefEqProofs -dsimp[hbj,hbc,hn,hKe.symm,aF,LS,LR,LC,LF,aI,LLC,LNd];refine aj _ (aG (d2) (by simp)) ?_;simp -implicitDefEqProofs -dsimp[hj0,hj1,wp,hKe'.symm,hp,hp2,hn,hbj,hKe.symm,hbc,aF,LS,LR,LC,LF,aI,LLC,LNd];refine aj _ (aG (d4) (by simp)) ?_;simp -implicitDefEqProofs -dsimp[aF,LS,LR,LC,LF,aI,LLC,LNd]
         all_goals
          refine aK (gG 3 1 [14] (by simp) (W_loopM 156 [14,15,136,137,138,139,140,141,142,143,144,145,146,147,148,149,150,151,152,153,154,155] (by simp[mB]<;>rfl) (σ:=Nat) (fun y=>y≤x) (fun y=>x-y) (fun y=>[(15,.int .i64 y),(14,.buf 6 0 (edR vs K y).length (edR vs K y).length)]) (fun y=>[B.cells [.str t.name,.lst 1 ff (t.attrs.map V.str),.lst 2 gg (t.rows.map aN)],B.cells [.lst 2 false (u.cells.map aO),.str u.tab.name,.lst 1 false (u.tab.attrs.map V.str),.lst 2 false (u.tab.rows.map aN),.lst 1 false (u.cores.map (LC false)),.lst 2 false (u.prf.map aT)],B.buf 49 2 (vs.map aO) true,B.cells [L1 false (ab x),.buf 5 0 j j],.buf 2 1 ((ab x).map ac) true,.buf 109 1 ((eF j).map (Ln false)) false,.buf 3 1 (nuL (edR vs K y)) false]) 0 (by omega) (by simp[edR]) (by simp[edR,nuL,L1]) (by simp) ?_));intro y hy N4 Q4 hN4 hQ4;have hnl:=aw (edR vs K y);have hyl:=edR_len vs K y;by_cases hby:y<x
          ·have hbv:y<vs.length:=by omega
           obtain⟨c,hc⟩:∃c,c=vs[y]:=⟨_,rfl⟩
           have hcD:dW vs y=c:=by rw[hc];simp[dW,hbv]
           have d3:=pQ K c false (by omega);simp only[LC,aO]at d3
           cases q1:dD K c with
           | true =>
            rw[q1]at d3;have hst:=edR_yes (vs:=vs) (K:=K) (x:=y) (by rw[hcD];exact q1);refine wx ?_;simp -implicitDefEqProofs -dsimp[hby,hbv,hm,hc.symm,aO,hbj,hbc,hn,hKe.symm,aF,LS,LR,LC,LF,aI,LLC,LNd];refine .inr ⟨aJ (by kernel_rfl),?_⟩;refine aj _ (aG (d3) (by simp)) ?_;simp -implicitDefEqProofs -dsimp[hnl,cap8 (edR vs K y).length (by omega),aM y (by omega),aF,LS,LR,LC,LF,aI,LLC,LNd];refine hN4 (y+1) _ _ (by omega) (by omega) (by simp[hst,hm]) ⟨[],by simp[hst,nuL,eN]⟩ (by simp) (hrA4 j (eF j) _)
           | false =>
            rw[q1]at d3;have hst:=edR_no (vs:=vs) (K:=K) (x:=y) (by rw[hcD];exact q1);refine wx ?_;simp -implicitDefEqProofs -dsimp[hby,hbv,hm,hc.symm,aO,hbj,hbc,hn,hKe.symm,aF,LS,LR,LC,LF,aI,LLC,LNd];refine .inr ⟨aJ (by kernel_rfl),?_⟩;refine aj _ (aG (d3) (by simp)) ?_;simp -implicitDefEqProofs -dsimp[aM y (by omega),aF,LS,LR,LC,LF,aI,LLC,LNd];refine hN4 (y+1) _ _ (by omega) (by omega) (by simp[hst,hm]) ⟨[],by simp[hst]⟩ (by simp) (hrA4 j (eF j) _)
          ·obtain rfl:y=x:=by omega
           refine W_frz 6 [14] rfl (by simp[hnl]) ?_;refine wx ?_;simp -implicitDefEqProofs -dsimp[hby,hm,aF,LS,LR,LC,LF,aI,LLC,LNd];refine hQ4 _ _ _ ?_;simp -implicitDefEqProofs -dsimp[hej,qA j (by omega),aM j (by omega),aF,LS,LR,LC,LF,aI,LLC,LNd];refine hN3 (j+1) _ _ ⟨by omega,hg⟩ (by omega) (by simp[hn,hm]) ⟨_,by simp[hes,Ln,nuL];rfl⟩ (by simp) (hrA3 (j+1) (eF (j+1)))
        | false =>
         rw[k2]at d2;rw[k1,k2]at hf;have hf:=hf (by simp);refine wx ?_;simp -implicitDefEqProofs -dsimp[hbj,hbc,hn,hKe.symm,aF,LS,LR,LC,LF,aI,LLC,LNd];refine .inr ⟨aJ (by kernel_rfl),?_⟩;refine aj _ (aG (d1) (by simp)) ?_;simp -implicitDefEqProofs -dsimp[hbj,hbc,hn,hKe.symm,aF,LS,LR,LC,LF,aI,LLC,LNd];refine aj _ (aG (d2) (by simp)) ?_;simp -implicitDefEqProofs -dsimp[aF,LS,LR,LC,LF,aI,LLC,LNd];refine hQ3 _ _ _ ?_;simp -implicitDefEqProofs -dsimp[aF,LS,LR,LC,LF,aI,LLC,LNd];exact hf
       ·have hf:=hf (by simp[k1]);refine wx ?_;simp -implicitDefEqProofs -dsimp[hbj,hbc,hn,hKe.symm,aF,LS,LR,LC,LF,aI,LLC,LNd];refine .inr ⟨aJ (by kernel_rfl),?_⟩;refine aj _ (aG (d1) (by simp)) ?_;simp -implicitDefEqProofs -dsimp[k1,aF,LS,LR,LC,LF,aI,LLC,LNd];refine hQ3 _ _ _ ?_;simp -implicitDefEqProofs -dsimp[aF,LS,LR,LC,LF,aI,LLC,LNd];exact hf
      ·obtain rfl:j=n:=by omega
       rw[List.drop_of_length_le (by simp),List.all_nil]at hy;rw[if_neg (by rw[←hy];simp)]at hE0
       have hen:eF j=u.cores.map fun K=>edR vs K x:=by rw[heF];simp only;rw[List.take_of_length_le (by omega)]
       rw[←hen]at hE0;have c7:=check39 (ab x) (eF j) false false false (u.cells.length:Int) u.prf (fun e he=>by rw[hen]at he;obtain⟨K,hK,rfl⟩:=List.mem_map.1 he;have:=edR_len vs K x;omega) hup;rw[←hE0]at c7;simp only[ah,L1,LLn,LNd]at c7;refine jh 5 [] 3 [1] rfl rfl (by simp) (by simp[hej,L1]) ?_;refine wx ?_;simp -implicitDefEqProofs -dsimp[hbj,hn,aF,LS,LR,LC,LF,aI,LLC,LNd];refine hQ3 _ _ _ ?_;simp -implicitDefEqProofs -dsimp[dS u.cells.length (by omega),L1,aF,LS,LR,LC,LF,aI,LLC,LNd];refine(aG (c7) (by simp)).mono ?_;rintro r H' ⟨rfl,rfl⟩;simp -implicitDefEqProofs -dsimp[aF,LS,LR,LC,LF,aI,LLC,LNd]
 ·rw[show pw t fds u=false by unfold pw;rw[if_pos h1]];refine aC (aD tok Tryz.func29 rfl rfl ?_);refine wx ?_;simp -implicitDefEqProofs -dsimp[Tryz.f29,List.replicate,aF,LS,LR,LC,LF,aI,LLC,LNd];refine(aG (c1) (by simp)).mono ?_;rintro r H' ⟨rfl,rfl⟩;simp -implicitDefEqProofs -dsimp[h1,aF,LS,LR,LC,LF,aI,LLC,LNd]
theorem sh_i8{n:Nat}{ws:List V}(h:Sh T (n+1) 80 ws):∃m:Int,ws=[.int .i8 m]∧-128≤m∧m≤127:=by
 simp[Sh]at h;obtain⟨m,rfl,hm⟩:=h;refine⟨m,rfl,?_⟩;simp[Lit.wf,IntKind.min,IntKind.max,IntKind.signed,IntKind.bits]at hm;omega
def spC(s:Spl):List V:=[.int .u8 s.k,.int .u8 s.i,.int .i8 s.y]
def encSp2(a b:Spl):V:=.agg (spC a++spC b)
theorem open_sp2{Hd:Type}{enc:TypeId×Value→Hd}{W:World}{m:Nat}{cs:List Value}{x:DataW Hd×List MemPlace}(h:DataW.trod enc Tryz.prog W 0 (fun _=>true) true m 83 cs=some x):∃a b:Spl,CR W (spC a++spC b) cs∧SplOk a∧SplOk b:=by
 obtain⟨xs,n,_,_,hlen,hl,hel⟩:=DataW.trod_array Tryz.underlying83 h;have hc5:Tryz.prog.cellsOf 82=3:=cells_ok 82 _ T_82;have hc52:Tryz.prog.cellsOf 83=6:=cells_ok 83 _ T_83;rw[hc52]at hlen
 have one:∀i,i<2→∃a:Spl,CR W (spC a) ((cs.drop (i*3)).take 3)∧SplOk a:=fun i hi=>by
  have h1:=hel i (by omega);rw[hc5,List.getElem?_eq_getElem (by omega)]at h1;obtain⟨vs,hcr,hsh⟩:=opn (T:=T) tok cells_ok 8 n 82 _ _ (by kernel_rfl) h1;obtain⟨hlen,hf⟩:=sh_fld hsh T_82 rfl rfl
  obtain⟨a,b,c,rfl⟩:∃a b c,vs=[a,b,c]:=by
   match vs,hlen with
   | [a,b,c],_=>exact⟨a,b,c,rfl⟩
  obtain⟨p,e1,p1,p2⟩:=oV (hf 0 _ _ rfl T_5);obtain⟨q,e2,q1,q2⟩:=oV (hf 1 _ _ rfl T_5);obtain⟨r,e3,r1,r2⟩:=sh_i8 (hf 2 _ _ rfl T_80);simp at e1 e2 e3;subst e1;subst e2;subst e3;refine⟨⟨p,q.toNat,r⟩,?_,⟨by simp only;omega,r1,r2⟩⟩;simp only[spC,Int.toNat_of_nonneg q1];exact hcr
 obtain⟨a,ha,ha2⟩:=one 0 (by omega);obtain⟨b,hb,hb2⟩:=one 1 (by omega);refine⟨a,b,?_,ha2,hb2⟩;have:=ha.append hb
 have e:(cs.drop (0*3)).take 3++(cs.drop (1*3)).take 3=cs:=by
  match cs,hlen with
  | [p,q,r,p2,q2,r2],_=>rfl
 rw[e]at this;exact this
theorem eqBoolA(H:List B)(a b:Bool):eZ T H 4 (.bool a) (.bool b)=some (a == b):=by
 simp[eZ,eqA]
theorem lawCheck(c:Cs)(a b:Spl)(f g:Bool)(h:CsOk c)(ha:SplOk a)(hb2:SplOk b):aS Tryz.prog 8 [gA f g c,encSp2 a b] fun r=>r = .bool true:=by
 have ca:=awake_con
 cases hb:csB c with
 | false =>
  have c1:=of_no c f g h hb;simp only[gA,offV]at c1;refine aC (aD tok Tryz.func8 rfl rfl ?_);refine wx ?_;simp -implicitDefEqProofs -dsimp[Tryz.f8,List.replicate,gA,encSp2,spC];refine(aG (c1) (by simp)).mono ?_;rintro r H' ⟨rfl,rfl⟩;simp -implicitDefEqProofs -dsimp[];refine(aG (ca) (by simp)).mono ?_;rintro r H' ⟨rfl,rfl⟩;simp -implicitDefEqProofs -dsimp[];refine(aG (ca) (by simp)).mono ?_;rintro r H' ⟨rfl,rfl⟩;simp -implicitDefEqProofs -dsimp[]
 | true =>
  have v:=csV h hb;have c1:=of_yes c f g h hb;have gv:=caseV v;obtain⟨t,ht⟩:∃t,t=csT c:=⟨_,rfl⟩;obtain⟨fds,hfds⟩:∃fds,fds=csF c:=⟨_,rfl⟩;rw[←ht,←hfds]at gv;rw[←ht,←hfds]at c1;have hN:=gv.small;have hfl:=gv.flen;obtain⟨T,r⟩:=optU_ok (fds:=fds) gv.tv hN;have c2:=Optimal_u t false false false fds gv.tv gv.num gv.valid gv.fok gv.ferr hN;have s0:=r.spB gv;obtain⟨u,hu⟩:∃u,u=optU t fds:=⟨_,rfl⟩;rw[←hu]at c2 s0;have k1:=spoil_u t false false u a 0 gv.tv ha s0 (by omega);have s1:=spU_ok (s:=a) gv.tv hN s0;obtain⟨u1,hu1⟩:∃u1,u1=spU t u a:=⟨_,rfl⟩;rw[←hu1]at k1 s1;have k2:=spoil_u t false false u1 b 1 gv.tv hb2 s1 (by omega);have s2:=spU_ok (s:=b) gv.tv hN s1;obtain⟨u2,hu2⟩:∃u2,u2=spU t u1 b:=⟨_,rfl⟩;rw[←hu2]at k2 s2;obtain⟨hUo,hsz⟩:=s2.updOk (by omega);have c3:=Check_r t false false false fds u2 gv.tv gv.fok (by omega) hUo hsz;have c4:=Check_u t false false false fds u2 gv.tv gv.fok hUo;have c5:=least_r t false false false fds gv.tv gv.fok hN;rw[←chk_same gv.tv gv.fok hUo]at c3;simp only[gA,aF,LS,LR,LC,LF]at c1;simp only[aF,LS,LR,LC,LF,aI,LLC,LNd,aY]at c2 c3 c4 c5 k1 k2
  cases hk:mJ t fds u2 with
  | false =>
   rw[hk]at c3 c4;refine aC (aD tok Tryz.func8 rfl rfl ?_);refine wx ?_;simp -implicitDefEqProofs -dsimp[Tryz.f8,List.replicate,gA,encSp2,spC];refine(aG (c1) (by simp)).mono ?_;rintro r H' ⟨rfl,rfl⟩;simp -implicitDefEqProofs -dsimp[];refine(aG (ca) (by simp)).mono ?_;rintro r H' ⟨rfl,rfl⟩;simp -implicitDefEqProofs -dsimp[];refine(aG (c2) (by simp)).mono ?_;rintro r H' ⟨rfl,rfl⟩;simp -implicitDefEqProofs -dsimp[];refine aK (ai tok mixed [9] [] [(.agg [.lst 2 false (u1.cells.map aO),.str u1.tab.name,.lst 1 false (u1.tab.attrs.map V.str),.lst 2 false (u1.tab.rows.map aN),.lst 1 false (u1.cores.map (LC false)),.lst 2 false (u1.prf.map aT)],[]),(.agg [.lst 2 false (u2.cells.map aO),.str u2.tab.name,.lst 1 false (u2.tab.attrs.map V.str),.lst 2 false (u2.tab.rows.map aN),.lst 1 false (u2.cores.map (LC false)),.lst 2 false (u2.prf.map aT)],[])] (by kernel_rfl) fun C K hC hK=>?_);simp -implicitDefEqProofs [];refine⟨by(repeat' apply And.intro)<;>first | exact hC _ _ _ _ (aG k1 (by simp)) | exact hC _ _ _ _ (aG k2 (by simp)),hK _ _ ?_⟩;simp -implicitDefEqProofs -dsimp[];refine(aG (c4) (by simp)).mono ?_;rintro r H' ⟨rfl,rfl⟩;simp -implicitDefEqProofs -dsimp[];refine .inr ⟨aJ (by kernel_rfl),?_⟩;refine aj _ (aG (c3) (by simp)) ?_;simp -implicitDefEqProofs -dsimp[eqBoolA]
  | true =>
   rw[hk]at c3 c4;rw[←(chk_acc gv.tv gv.fok hUo hk).least gv]at c5;refine aC (aD tok Tryz.func8 rfl rfl ?_);refine wx ?_;simp -implicitDefEqProofs -dsimp[Tryz.f8,List.replicate,gA,encSp2,spC];refine(aG (c1) (by simp)).mono ?_;rintro r H' ⟨rfl,rfl⟩;simp -implicitDefEqProofs -dsimp[];refine(aG (ca) (by simp)).mono ?_;rintro r H' ⟨rfl,rfl⟩;simp -implicitDefEqProofs -dsimp[];refine(aG (c2) (by simp)).mono ?_;rintro r H' ⟨rfl,rfl⟩;simp -implicitDefEqProofs -dsimp[];refine aK (ai tok mixed [9] [] [(.agg [.lst 2 false (u1.cells.map aO),.str u1.tab.name,.lst 1 false (u1.tab.attrs.map V.str),.lst 2 false (u1.tab.rows.map aN),.lst 1 false (u1.cores.map (LC false)),.lst 2 false (u1.prf.map aT)],[]),(.agg [.lst 2 false (u2.cells.map aO),.str u2.tab.name,.lst 1 false (u2.tab.attrs.map V.str),.lst 2 false (u2.tab.rows.map aN),.lst 1 false (u2.cores.map (LC false)),.lst 2 false (u2.prf.map aT)],[])] (by kernel_rfl) fun C K hC hK=>?_);simp -implicitDefEqProofs [];refine⟨by(repeat' apply And.intro)<;>first | exact hC _ _ _ _ (aG k1 (by simp)) | exact hC _ _ _ _ (aG k2 (by simp)),hK _ _ ?_⟩;simp -implicitDefEqProofs -dsimp[];refine(aG (c4) (by simp)).mono ?_;rintro r H' ⟨rfl,rfl⟩;simp -implicitDefEqProofs -dsimp[];refine .inr ⟨aJ (by kernel_rfl),?_⟩;refine aj _ (aG (c3) (by simp)) ?_;simp -implicitDefEqProofs -dsimp[eqBoolA];refine aj _ (aG (c5) (by simp)) ?_;simp -implicitDefEqProofs -dsimp[]
end
end Go.Proofs.YteijbpppalhihaaGreat
