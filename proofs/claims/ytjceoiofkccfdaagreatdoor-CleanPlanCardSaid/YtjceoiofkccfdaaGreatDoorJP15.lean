/- JP15: own texts of this seat, joined and shortened by pack4.py: PB, PC, PR. -/
import Derived.Test.YtjceoiofkccfdaaGreatDoorJP12
import Derived.Test.YtjceoiofkccfdaaGreatDoorJP14
set_option linter.unusedVariables false
set_option linter.unusedSimpArgs false
set_option maxRecDepth 100000
set_option maxHeartbeats 64000000
open Bool renaming and_eq_true→gN
open List renaming replicate→gG,getElem?_eq_getElem→gJ,getElem?_append_left→gK,append_nil→gP,getElem_mem→gR,getElem?_append_right→gS,length_append→gh,not_mem_nil→gi,mem_cons→gl,append_assoc→gn,length_cons→gw,take_length→gy,length_take→hX,nil_append→iF,drop_zero→iG,take_of_length_le→iL,mem_or_eq_of_mem_set→iO,length_map→iP,map_cons→iS,length_nil→iu
open Nat renaming le_refl→gL
section
namespace Go.AM
open Go
section
variable {P:Program} {T:Ty}
theorem wcall_frzA{f:FuncId}{args:List V}{H G:List B}{k e z:Nat}{xs cs cs':List V}{fz:Bool}(h:cB P f args H fun r H'=>r = .agg cs∧H'=G)(hk:G[k]?=some (.buf e z xs fz))(hr:ef (.buf k 0 xs.length xs.length) (.lst z false xs) cs cs'):
  aG P (.fn f []) args H fun r H'=>r = .agg cs'∧H'=G.set k (.buf e z xs true):=by
 simp only[aG,gP];refine⟨h.1,fun s vals hA hg hsz hrel=>(h.2 s vals hA hg hsz hrel).mono fun e' w' ⟨u,s',r,a1,a2,a3,a4,a5,a6,a7⟩=>?_⟩;subst a6;rw[←a7]at hk;obtain⟨p1,p2,_⟩:=fo a3 hk;have hl:=hr.len
 cases a5 with
 | agg _ us h1 h2 h3 =>
  refine⟨.agg us,s'.frz k (.buf e z xs true),.agg cs',a1,a2,p1,a4.trans p2,.agg cs' us (by omega) (fun c hc=>?_) (fun i c v hc hv=>?_),rfl,by rw[←a7];rfl⟩
  ·obtain⟨i,hi⟩:=List.mem_iff_getElem?.1 hc;have hx:cs[i]?=some (cs[i]'(by have:=aB hi;omega)):=gJ _
   rcases hr.at_ i _ c hx hi with e | ⟨_,e⟩
   ·rw[e];exact h2 _ (gR _)
   ·rw[e];rfl
  ·have hx:cs[i]?=some (cs[i]'(by have:=aB hc;omega)):=gJ _;exact fI a3 hk (h3 i _ v hx hv) (hr.at_ i _ c hx hc)
end
end Go.AM
namespace Go.Proofs.YtjceoiofkccfdaaGreatDoor
open Go Go.AM
theorem fm(H X:List B):(H++X)[H.length]?=X[0]?:=by rw[gS (gL _)];simp
theorem fk(H X:List B):(H++X)[H.length+1]?=X[1]?:=by rw[gS (by omega)];congr 1;omega
theorem getX2(H X:List B):(H++X)[H.length+2]?=X[2]?:=by rw[gS (by omega)];congr 1;omega
theorem setX0(H X:List B)(Y:B):(H++X).set H.length Y=H++X.set 0 Y:=by rw[List.set_append_right _ _ (gL _)];simp
theorem setX1(H X:List B)(Y:B):(H++X).set (H.length+1) Y=H++X.set 1 Y:=by rw[List.set_append_right _ _ (by omega)];congr 2;omega
theorem get_of{α:Type}{l:List α}{i:Nat}{a:α}(h:l[i]?=some a):∀q,l[i]'q=a:=fun q=>by rw[gJ q]at h;exact Option.some.inj h
theorem eX(H X:List B)(A:B):∀h,(H++A::X)[H.length]'h=A:=get_of (by rw[fm];rfl)
theorem eW(H X:List B)(A A1:B):∀h,(H++A::A1::X)[H.length+1]'h=A1:=get_of (by rw[fk];rfl)
theorem copied_p(r:Rw)(hl:r.vals.length≤1000000):aJ Tryz.prog 25 [aE r] fun x=>x=aE r:=by
 have cc:=clone_V r.vals false hl;simp only[LV]at cc;refine sPx Tryz.func25 rfl rfl ?_;simp -dsimp[Tryz.f25,gG,aE,LV];refine ab (bu tok mixed [6] [] [(.lst 3 false (r.vals.map aI),[])] (by kernel_rfl) fun C K hC hK=>?_);simp -implicitDefEqProofs [];refine⟨hC _ _ _ _ (ah cc (by simp)),hK _ _ ?_⟩;simp -dsimp[];rfl
def cpB(L:Nat)(id:Int)(a:V)(vs:List Vl)(fz:Bool):List B:=[B.cells [.int .i64 id,a],B.cells [.int .i64 id,.buf (L+2) 0 vs.length vs.length],B.buf 48 3 (vs.map aI) fz]
theorem copied_gL(H:List B)(id:Int)(vs:List Vl)(hc:aG Tryz.prog (.fn 55 []) [(.lst 3 false (vs.map aI))] (H++[B.cells [.int .i64 id,(.lst 3 false (vs.map aI))],B.cells [.int .i64 0,.nilS]]) fun r H'=>r = .buf (H.length+2) 0 vs.length vs.length∧H'=H++[B.cells [.int .i64 id,(.lst 3 false (vs.map aI))],B.cells [.int .i64 0,.nilS],B.buf 48 3 (vs.map aI) false]):
  cB Tryz.prog 25 [.agg [.int .i64 id,(.lst 3 false (vs.map aI))]] H fun x H'=>x = .agg [.int .i64 id,.buf (H.length+2) 0 vs.length vs.length]∧H'=H++cpB H.length id (.lst 3 false (vs.map aI)) vs false:=by
 refine bM tok Tryz.func25 rfl rfl ?_;refine wx ?_;simp -dsimp[Tryz.f25,gG,eX,eW,fm,fk,setX0,setX1];refine ab (bu tok mixed [4,6] [(1,[1])] [(.buf (H.length+2) 0 vs.length vs.length,H++[B.cells [.int .i64 id,(.lst 3 false (vs.map aI))],B.cells [.int .i64 0,.nilS],B.buf 48 3 (vs.map aI) false])] (by kernel_rfl) fun C K hC hK=>?_);simp -implicitDefEqProofs [eX,eW,fm,fk,setX0,setX1];refine⟨hC _ _ _ _ hc,hK _ _ ?_⟩;simp -dsimp[eX,eW,fm,fk,setX0,setX1];simp[cpB]
theorem copied_gB(H:List B)(id:Int)(k:Nat)(vs:List Vl)(hc:aG Tryz.prog (.fn 55 []) [(.buf k 0 vs.length vs.length)] (H++[B.cells [.int .i64 id,(.buf k 0 vs.length vs.length)],B.cells [.int .i64 0,.nilS]]) fun r H'=>r = .buf (H.length+2) 0 vs.length vs.length∧H'=H++[B.cells [.int .i64 id,(.buf k 0 vs.length vs.length)],B.cells [.int .i64 0,.nilS],B.buf 48 3 (vs.map aI) false]):
  cB Tryz.prog 25 [.agg [.int .i64 id,(.buf k 0 vs.length vs.length)]] H fun x H'=>x = .agg [.int .i64 id,.buf (H.length+2) 0 vs.length vs.length]∧H'=H++cpB H.length id (.buf k 0 vs.length vs.length) vs false:=by
 refine bM tok Tryz.func25 rfl rfl ?_;refine wx ?_;simp -dsimp[Tryz.f25,gG,eX,eW,fm,fk,setX0,setX1];refine ab (bu tok mixed [4,6] [(1,[1])] [(.buf (H.length+2) 0 vs.length vs.length,H++[B.cells [.int .i64 id,(.buf k 0 vs.length vs.length)],B.cells [.int .i64 0,.nilS],B.buf 48 3 (vs.map aI) false])] (by kernel_rfl) fun C K hC hK=>?_);simp -implicitDefEqProofs [eX,eW,fm,fk,setX0,setX1];refine⟨hC _ _ _ _ hc,hK _ _ ?_⟩;simp -dsimp[eX,eW,fm,fk,setX0,setX1];simp[cpB]
theorem clone_at(H:List B)(vs:List Vl)(hl:vs.length≤1000000):aG Tryz.prog (.fn 55 []) [.lst 3 false (vs.map aI)] H fun r H'=>r = .buf H.length 0 vs.length vs.length∧H'=H++[B.buf 48 3 (vs.map aI) false] :=
 (callO (H:=H) (cloneO_V vs false hl) (by simp)).mono (by
  rintro r H' ⟨e,z,xs,rfl,rfl,_,rfl,rfl,rfl⟩
  simp)
theorem clone_lent(H:List B)(k:Nat)(vs:List Vl){fz:Bool}(hk:H[k]?=some (.buf 48 3 (vs.map aI) fz))(hl:vs.length≤1000000):aG Tryz.prog (.fn 55 []) [.buf k 0 vs.length vs.length] H fun r H'=>r = .buf H.length 0 vs.length vs.length∧H'=H++[B.buf 48 3 (vs.map aI) false] :=
 (callOX (H:=H) (args:=[.buf k 0 vs.length vs.length]) (cloneO_V vs false hl) rfl (fun i a a' ha ha'=>by
  match i with
  | 0 =>
   simp at ha ha';subst ha;subst ha';have:=Exp.buf (H:=H) k 0 vs.length 48 3 (vs.map aI) fz hk (by simp) (fun x hx=>by obtain⟨y,_,rfl⟩:=List.mem_map.1 hx;simp);rw[iP,iG,iL (by simp)]at this;exact this
  | i+1=>simp at ha) (fun e z xs hx x hm c hcc=>by
   obtain⟨_,_,rfl⟩:=hx;obtain⟨y,_,rfl⟩:=List.mem_map.1 hm;simp only[aI,V.cells,gl,gi,or_false]at hcc
   rcases hcc with rfl | rfl | rfl
   ·exact .int _ _
   ·exact .int _ _
   ·exact .str _)).mono (by
  rintro r H' ⟨e,z,xs,rfl,rfl,_,rfl,rfl,rfl⟩
  simp)
theorem copied_o(H:List B)(r:Rw)(hl:r.vals.length≤1000000):cB Tryz.prog 25 [aE r] H fun x H'=>x = .agg [.int .i64 r.id,.buf (H.length+2) 0 r.vals.length r.vals.length]∧H'=H++cpB H.length r.id (LV false r.vals) r.vals false :=
 copied_gL H r.id r.vals (by
  have:=clone_at (H++[B.cells [.int .i64 r.id,LV false r.vals],B.cells [.int .i64 0,.nilS]]) r.vals hl
  simpa[gn,LV] using this)
theorem copied_f(H:List B)(k:Nat)(id:Int)(vs:List Vl)(hk:H[k]?=some (.buf 48 3 (vs.map aI) false))(hl:vs.length≤1000000):aG Tryz.prog (.fn 25 []) [.agg [.int .i64 id,.buf k 0 vs.length vs.length]] H fun x H'=>x = .agg [.int .i64 id,.lst 3 false (vs.map aI)]∧H'=H++cpB H.length id (.buf k 0 vs.length vs.length) vs true:=by
 have hkl:=aB hk
 have h0:=copied_gB H id k vs (by
  have:=clone_lent (H++[B.cells [.int .i64 id,.buf k 0 vs.length vs.length],B.cells [.int .i64 0,.nilS]]) k vs (fz:=false) (by rw[gK hkl];exact hk) hl
  simpa[gn] using this)
 refine(wcall_frzA (k:=H.length+2) (e:=48) (z:=3) (xs:=vs.map aI) (fz:=false) (cs':=[.int .i64 id,.lst 3 false (vs.map aI)]) h0 (by rw[getX2];rfl) (by simp)).mono ?_;rintro r H' ⟨rfl,rfl⟩;refine⟨rfl,?_⟩;rw[List.set_append_right _ _ (by omega)];simp[cpB]
end Go.Proofs.YtjceoiofkccfdaaGreatDoor
end
namespace Go.Proofs.YtjceoiofkccfdaaGreatDoor
section
open Go Go.AM
theorem capG(n:Nat)(h:n≤1000000):n≤9223372036854775806∧(n+1)*160≤140737488355328:=by omega
theorem wc_of{P:Program}{f:FuncId}{args:List V}{H:List B}{K K':V→List B→Prop}(h:cB P f args H K)(hk:∀r H',K r H'→K' r H'):aG P (.fn f []) args H K':=by
 simp only[aG,gP];exact h.mono hk
theorem chg_cells(nm:ByteArray)(c:Chg):(aM nm c).cells.length=11:=rfl
theorem dI(n e:Nat)(nm:ByteArray)(l:List Chg)(fz:Bool):rbB n (.buf e 11 (l.map (aM nm)) fz):=fun x hx=>by
 obtain⟨y,_,rfl⟩:=List.mem_map.1 hx;intro c hc;simp only[aM,LV,V.cells,gl,gi,or_false]at hc
 rcases hc with rfl | rfl | rfl | rfl | rfl | rfl | rfl | rfl | rfl | rfl | rfl<;>simp[rb1]
theorem LVb_rb(n e:Nat)(l:List Vl)(fz:Bool):rbB n (.buf e 3 (l.map aI) fz):=fun x hx=>by
 obtain⟨y,_,rfl⟩:=List.mem_map.1 hx;intro c hc;simp only[aI,V.cells,gl,gi,or_false]at hc
 rcases hc with rfl | rfl | rfl<;>simp[rb1]
structure PlA (t u:Tb):Prop where
 ht:TbOk t
 hu:TbOk u
 t8:t.rows.length≤8
 u8:u.rows.length≤8
theorem ed{l:List Vl}{a:Nat}(h:a<l.length):atV l a=l[a]:=by simp[atV,h]
theorem dO{t u:Tb}(h:¬aO t=0):ba t u=aO t:=by unfold ba;rw[if_neg h]
theorem dN{t u:Tb}(h:aO t=0)(h2:¬aO u=0):ba t u=aO u:=by unfold ba;rw[if_pos h,if_neg h2]
theorem dM{t u:Tb}(h:aO t=0)(h2:aO u=0)(h3:(bZ t.name u.name&&dk t.attrs u.attrs)=false):ba t u=1:=by unfold ba;rw[if_pos h,if_pos h2,h3];rfl
theorem plan_ok{t u:Tb}(h:aO t=0)(h2:aO u=0)(h3:(bZ t.name u.name&&dk t.attrs u.attrs)=true):ba t u=0:=by unfold ba;rw[if_pos h,if_pos h2,h3];rfl
theorem bV{t u:Tb}(h:¬ba t u=0):co t u = .nilS:=by unfold co;rw[if_neg h]
theorem eS{t u:Tb}(h:ba t u=0):co t u=LCh false t.name (dw t u):=by unfold co;rw[if_pos h]
theorem gA{a b:List ByteArray}(h:dk a b=true):a.length=b.length:=by
 unfold dk at h;rw[gN,decide_eq_true_iff]at h;exact h.1
theorem fnd_lt{rs:List Rw}{id:Int}(i:Nat):(fnd rs id i).2=true→(fnd rs id i).1<rs.length:=by
 fun_induction fnd rs id i with
 | case1 i hi he=>exact fun _=>hi
 | case2 i hi he ih=>exact ih
 | case3 i hi=>intro h;cases h
theorem dt{t:Tb}(h:aO t=0)(r:Rw)(hr:r∈t.rows):r.vals.length=t.attrs.length:=(tbC h).len r hr
theorem concat_eq(nm:ByteArray)(a b c:List Chg):bN [⟨false,a.map (aM nm)⟩,⟨false,b.map (aM nm)⟩,⟨false,c.map (aM nm)⟩]=(a++(b++c)).map (aM nm):=by
 simp[bN]
theorem plan_u(t u:Tb)(f g f' g':Bool)(A:PlA t u):aJ Tryz.prog 8 [aS f g t,aS f' g' u] fun r=>r = .tup [co t u,.int .i64 (ba t u)]:=by
 have c1:=fM t f g A.ht;have c2:=fM u f' g' A.hu;have c3:=stringsEq_u t.attrs u.attrs f f' A.ht.attrs;simp only[aS,LS,LR]at c1 c2 c3;by_cases h1:aO t=0
 case neg =>
  rw[bV (by rw[dO h1];exact h1),dO h1];refine sPx Tryz.func8 rfl rfl ?_;simp -dsimp[Tryz.f8,gG,aS,LS,LR];refine cPx (c1) (by simp) ?_;simp -dsimp[h1]
 rw[h1]at c1;by_cases h2:aO u=0
 case neg =>
  rw[bV (by rw[dN h1 h2];exact h2),dN h1 h2];refine sPx Tryz.func8 rfl rfl ?_;simp -dsimp[Tryz.f8,gG,aS,LS,LR];refine cPx (c1) (by simp) ?_;simp -dsimp[];refine cPx (c2) (by simp) ?_;simp -dsimp[h2]
 rw[h2]at c2
 cases hn:(t.name.toList == u.name.toList) with
 | false =>
  have he:=dM h1 h2 (by rw[bZ,hn];rfl);rw[bV (by rw[he];decide),he];refine sPx Tryz.func8 rfl rfl ?_;simp -dsimp[Tryz.f8,gG,aS,LS,LR];refine cPx (c1) (by simp) ?_;simp -dsimp[];refine cPx (c2) (by simp) ?_;simp -dsimp[hn]
 | true =>
 cases hs:dk t.attrs u.attrs with
 | false =>
  rw[hs]at c3;have he:=dM h1 h2 (by rw[hs];simp);rw[bV (by rw[he];decide),he];refine sPx Tryz.func8 rfl rfl ?_;simp -dsimp[Tryz.f8,gG,aS,LS,LR];refine cPx (c1) (by simp) ?_;simp -dsimp[];refine cPx (c2) (by simp) ?_;simp -dsimp[hn];refine cPx (c3) (by simp) ?_;simp -dsimp[]
 | true =>
 rw[hs]at c3;have he:=plan_ok h1 h2 (by rw[bZ,hn,hs];rfl);rw[eS he,he];have hn':=eqSt_eq hn;obtain⟨w,hw⟩:∃w,w=t.attrs.length:=⟨_,rfl⟩
 have hwu:u.attrs.length=w:=by rw[hw];exact(gA hs).symm
 have hw16:w≤16:=by rw[hw];exact(tbC h1).wide
 have hvt:∀r∈t.rows,r.vals.length=w:=fun r hr=>by rw[hw];exact dt h1 r hr
 have hvu:∀r∈u.rows,r.vals.length=w:=fun r hr=>by rw[←hwu];exact dt h2 r hr
 have h8:=A.t8;have h8u:=A.u8
 have cf:=fun id=>find_u u f' g' id (by omega)
 have cg:=fun id=>find_u t f g id (by omega)
 obtain⟨nm,hnm⟩:∃nm,nm=t.name:=⟨_,rfl⟩
 have htB:∀n,rbB n (B.cells [.str t.name,.lst 1 f (t.attrs.map V.str),.lst 2 g (t.rows.map aE)]):=fun n c hc=>by
  simp only[gl,gi,or_false]at hc
  rcases hc with rfl | rfl | rfl<;>simp[rb,rb1]
 have huB:∀n,rbB n (B.cells [.str u.name,.lst 1 f' (u.attrs.map V.str),.lst 2 g' (u.rows.map aE)]):=fun n c hc=>by
  simp only[gl,gi,or_false]at hc
  rcases hc with rfl | rfl | rfl<;>simp[rb,rb1]
 have hdl:∀i,(bq u (t.rows.take i)).length≤1000:=fun i=>by
  have:=gC u (t.rows.take i);rw[hX]at this;omega
 have hcl:∀i,(chL u w (t.rows.take i)).length≤1000:=fun i=>by
  have:=fK u w (t.rows.take i);have h3:(t.rows.take i).length*w≤8*16:=Nat.mul_le_mul (by rw[hX];omega) hw16;omega
 have hil:∀i,(bj t (u.rows.take i)).length≤1000:=fun i=>by
  have:=fh t (u.rows.take i);rw[hX]at this;omega
 simp only[aS,LS,LR]at cf cg;rw[←hnm]
 have hpl:dw t u=bq u t.rows++(chL u w t.rows++bj t u.rows):=by unfold dw;rw[←hw]
 rw[hpl];obtain⟨D,hD⟩:∃D,D=bq u t.rows:=⟨_,rfl⟩;obtain⟨C0,hC0⟩:∃C0,C0=chL u w t.rows:=⟨_,rfl⟩;obtain⟨I,hI⟩:∃I,I=bj t u.rows:=⟨_,rfl⟩;rw[←hD,←hC0,←hI]
 have hrb4:∀(l m:List Chg),∀bl∈[B.cells [.str t.name,.lst 1 f (t.attrs.map V.str),.lst 2 g (t.rows.map aE)],B.cells [.str u.name,.lst 1 f' (u.attrs.map V.str),.lst 2 g' (u.rows.map aE)],B.buf 50 11 (l.map (aM nm)) false,B.buf 50 11 (m.map (aM nm)) false],rbB 4 bl:=fun l m bl hbl=>by
  simp only[gl,gi,or_false]at hbl
  rcases hbl with rfl | rfl | rfl | rfl
  ·exact htB _
  ·exact huB _
  ·exact dI _ _ _ _ _
  ·exact dI _ _ _ _ _
 refine sPx Tryz.func8 rfl rfl ?_;simp -dsimp[Tryz.f8,gG,aS,LS,LR];refine cPx (c1) (by simp) ?_;simp -dsimp[];refine cPx (c2) (by simp) ?_;simp -dsimp[hn];refine cPx (c3) (by simp) ?_;simp -dsimp[];refine ab (W_own 50 11 [8] (by simp) (W_own 50 11 [9] (by simp) (W_loopM 107 0x7ffffffffffffff00000003f300 (by simp[mB]<;>rfl) (σ:=Nat) (fun i=>i≤t.rows.length) (fun i=>t.rows.length-i) (fun i=>[(48,.int .i64 i),(8,.buf 2 0 (bq u (t.rows.take i)).length (bq u (t.rows.take i)).length),(9,.buf 3 0 (chL u w (t.rows.take i)).length (chL u w (t.rows.take i)).length)]) (fun i=>[B.cells [.str t.name,.lst 1 f (t.attrs.map V.str),.lst 2 g (t.rows.map aE)],B.cells [.str u.name,.lst 1 f' (u.attrs.map V.str),.lst 2 g' (u.rows.map aE)],B.buf 50 11 ((bq u (t.rows.take i)).map (aM nm)) false,B.buf 50 11 ((chL u w (t.rows.take i)).map (aM nm)) false]) 0 (by omega) (by simp[bq,chL]) (by simp[bq,chL]) (by simp) ?_)))
 ·intro i hi N Q hN hQ;by_cases hb:i<t.rows.length
  ·have hst:=delL_snoc u hb;have hct:=chL_snoc u w hb;have hd1:=hdl i;have hc1:=hcl i;have hrl:=hvt _ (gR hb);obtain⟨r,hre⟩:∃r,r=t.rows[i]:=⟨_,rfl⟩;rw[←hre]at hst hct hrl;have cfr:=cf r.id;obtain⟨dl,hdle⟩:∃dl,dl=bq u (t.rows.take i):=⟨_,rfl⟩;obtain⟨cl,hcle⟩:∃cl,cl=chL u w (t.rows.take i):=⟨_,rfl⟩;rw[←hdle]at hst hd1 ⊢;rw[←hcle]at hct hc1 ⊢
   cases hin:inT u r.id with
   | false =>
    have hin':(fnd u.rows r.id 0).2=false:=hin;rw[hin']at cfr;rw[hin,if_neg (by simp)]at hst
    have hch:chR u w r=[]:=by unfold chR;rw[hin];rfl
    rw[hch,gP]at hct;have hcp:=copied_p r (by omega);refine wx ?_;simp -dsimp[hb,hre.symm,aE,LV];refine cPx (cfr) (by simp) ?_;simp -dsimp[];refine ab (bu tok mixed [7] [] [(aE r,[])] (by kernel_rfl) fun C K hC hK=>?_);simp -implicitDefEqProofs [aE,LV,hnm.symm,capG dl.length (by omega),wrapN dl.length (by omega)];refine⟨hC _ _ _ _ (ah hcp (by simp)),hK _ _ ?_⟩;simp -dsimp[aZ i (by omega)]
    refine hN (i+1) _ _ (by omega) (by omega) (by simp[hst,hct,hnm]) ⟨[B.cells [.int .i64 r.id,.lst 3 false (r.vals.map aI)]],by simp[hst,hct,aM,aE,LV,vl0,hnm]⟩ (by simp) (by
     intro bl hbl;simp only[gl,gi,or_false]at hbl
     rcases hbl with rfl | rfl | rfl | rfl
     ·exact htB _
     ·exact huB _
     ·exact dI _ _ _ _ _
     ·exact dI _ _ _ _ _)
   | true =>
    have hin':(fnd u.rows r.id 0).2=true:=hin;have hkl:=fnd_lt 0 hin';rw[hin']at cfr;rw[hin,if_pos rfl,gP]at hst;have hxm:rwG u.rows (fnd u.rows r.id 0).1∈u.rows:=(fnd_id 0 hin').2
    have hch:chR u w r=chP r.id (rwG u.rows (fnd u.rows r.id 0).1).vals w r.vals:=by unfold chR;rw[hin];rfl
    rw[hch]at hct;obtain⟨k,hk⟩:∃k,k=(fnd u.rows r.id 0).1:=⟨_,rfl⟩;rw[←hk]at cfr hct hkl hxm;have hxl:=hvu _ hxm
    have hxe:u.rows[k]=rwG u.rows k:=by simp[rwG,hkl]
    obtain⟨x,hx⟩:∃x,x=rwG u.rows k:=⟨_,rfl⟩;rw[←hx]at hct hxl hxe;have hcn:=fJ r.id x.vals r.vals;refine wx ?_;simp -dsimp[hb,hre.symm,aE,LV];refine cPx (cfr) (by simp) ?_;simp -dsimp[];refine(wc_of (copied_o _ r (by omega)) (fun r H' h=>h)).mono ?_;rintro r' H' ⟨rfl,rfl⟩;simp -dsimp[hkl,hxe,cpB,aE,LV];refine ab (W_loopM 106 0x3ffffffc0000000000000030200 (by simp[mB]<;>rfl) (σ:=Nat) (fun a=>a≤w) (fun a=>w-a) (fun a=>[(78,.int .i64 a),(9,.buf 3 0 (cl++chP r.id x.vals a r.vals).length (cl++chP r.id x.vals a r.vals).length)]) (fun a=>[B.cells [.str t.name,.lst 1 f (t.attrs.map V.str),.lst 2 g (t.rows.map aE)],B.cells [.str u.name,.lst 1 f' (u.attrs.map V.str),.lst 2 g' (u.rows.map aE)],B.buf 50 11 (dl.map (aM nm)) false,B.buf 50 11 ((cl++chP r.id x.vals a r.vals).map (aM nm)) false,B.cells [.int .i64 r.id,.lst 3 false (r.vals.map aI)],B.cells [.int .i64 r.id,.lst 3 false (r.vals.map aI)],B.cells [.int .i64 r.id,.buf 7 0 r.vals.length r.vals.length],B.buf 48 3 ((ao x.vals a r.vals).map aI) false,B.cells [.int .i64 r.id,.buf 7 0 r.vals.length r.vals.length]]) 0 (by omega) (by simp[chP]) (by simp[chP,ao,LV]) (by simp) ?_);intro a ha N2 Q2 hN2 hQ2
    have hrb9:∀(l m:List Chg) (vs:List Vl),∀bl∈[B.cells [.str t.name,.lst 1 f (t.attrs.map V.str),.lst 2 g (t.rows.map aE)],B.cells [.str u.name,.lst 1 f' (u.attrs.map V.str),.lst 2 g' (u.rows.map aE)],B.buf 50 11 (l.map (aM nm)) false,B.buf 50 11 (m.map (aM nm)) false,B.cells [.int .i64 r.id,.lst 3 false (r.vals.map aI)],B.cells [.int .i64 r.id,.lst 3 false (r.vals.map aI)],B.cells [.int .i64 r.id,.buf 7 0 r.vals.length r.vals.length],B.buf 48 3 (vs.map aI) false,B.cells [.int .i64 r.id,.buf 7 0 r.vals.length r.vals.length]],rbB 9 bl:=fun l m vs bl hbl=>by
     simp only[gl,gi,or_false]at hbl
     rcases hbl with rfl | rfl | rfl | rfl | rfl | rfl | rfl | rfl | rfl
     ·exact htB _
     ·exact huB _
     ·exact dI _ _ _ _ _
     ·exact dI _ _ _ _ _
     ·simp[rbB,rb,rb1]
     ·simp[rbB,rb,rb1]
     ·simp[rbB,rb,rb1]
     ·exact LVb_rb _ _ _ _
     ·simp[rbB,rb,rb1]
    by_cases hab:a<w
    ·have hnow:=dy x.vals r.vals a;have hcn1:=hcn a;have hcs:chP r.id x.vals (a+1) r.vals=chP r.id x.vals a r.vals++(if atV (ao x.vals a r.vals) a=atV x.vals a then [] else [⟨4,⟨r.id,ao x.vals a r.vals⟩,a,atV x.vals a⟩]):=rfl;have hns:ao x.vals (a+1) r.vals=(ao x.vals a r.vals).set a (atV x.vals a):=rfl;obtain⟨now,hnowe⟩:∃now,now=ao x.vals a r.vals:=⟨_,rfl⟩;obtain⟨cs,hcse⟩:∃cs,cs=cl++chP r.id x.vals a r.vals:=⟨_,rfl⟩
     have hcsl:cs.length≤2000:=by rw[hcse,gh];omega
     rw[←hnowe]at hcs hns hnow ⊢;rw[←hcse]
     have hcs':cl++chP r.id x.vals (a+1) r.vals=cs++(if atV now a=atV x.vals a then [] else [⟨4,⟨r.id,now⟩,a,atV x.vals a⟩]):=by rw[hcs,hcse,gn]
     have ha1:a<now.length:=by omega
     have ha2:a<x.vals.length:=by omega
     rw[ed ha1,ed ha2]at hcs';rw[ed ha2]at hns;obtain⟨v,hv⟩:∃v,v=x.vals[a]:=⟨_,rfl⟩;obtain⟨o,ho⟩:∃o,o=now[a]:=⟨_,rfl⟩;rw[←hv]at hcs' hns;rw[←ho]at hcs'
     have hlen:(List.map aI now).length=r.vals.length:=by rw[iP,hnow]
     have e1:=fun H=>eqVl H o v
     have hna:now[a]?=some o:=by rw[ho];exact gJ ha1
     by_cases hq:o=v
     ·rw[if_pos hq,gP]at hcs';rw[hv,←hv,←hq,ho,List.set_getElem_self]at hns;refine wx ?_;simp -dsimp[hab,ha2,hv.symm,aI,show a<r.vals.length by omega];refine .inr ⟨aY (by kernel_rfl),?_⟩;simp -dsimp[hnow,hna,aI,e1,show decide (o=v)=true by simp[hq],aZ a (by omega)];refine hN2 (a+1) _ _ (by omega) (by omega) (by simp[hcs']) ⟨[B.cells [.int .i64 v.k,.int .i64 v.n,.str v.s]],by simp[hcs',hns]⟩ (by simp) (hrb9 _ _ _)
     ·rw[if_neg hq]at hcs';obtain⟨nx,hnx⟩:∃nx,nx=now.set a v:=⟨_,rfl⟩
      have hset:(List.map aI now).set a (aI v)=List.map aI nx:=by rw[hnx,List.map_set]
      rw[←hnx]at hns;refine wx ?_;simp -dsimp[hab,ha2,hv.symm,aI,show a<r.vals.length by omega];refine .inr ⟨aY (by kernel_rfl),?_⟩;simp -dsimp[hnow,hna,aI,e1,show decide (o=v)=false by simp[hq]];have cpf:=copied_f [B.cells [.str t.name,.lst 1 f (t.attrs.map V.str),.lst 2 g (t.rows.map aE)],B.cells [.str u.name,.lst 1 f' (u.attrs.map V.str),.lst 2 g' (u.rows.map aE)],B.buf 50 11 (dl.map (aM nm)) false,B.buf 50 11 (cs.map (aM nm)) false,B.cells [.int .i64 r.id,.lst 3 false (r.vals.map aI)],B.cells [.int .i64 r.id,.lst 3 false (r.vals.map aI)],B.cells [.int .i64 r.id,.buf 7 0 r.vals.length r.vals.length],B.buf 48 3 (now.map aI) false,B.cells [.int .i64 r.id,.buf 7 0 r.vals.length r.vals.length],B.cells [.int .i64 v.k,.int .i64 v.n,.str v.s]] 7 r.id now rfl (by omega);rw[hnow]at cpf;simp only[cpB,gw,iu,hnow,List.cons_append,iF]at cpf;refine ab (bu tok mixed [4,9] [(2,[1]),(6,[0])] [(.agg [.int .i64 r.id,.lst 3 false (now.map aI)],[B.cells [.str t.name,.lst 1 f (t.attrs.map V.str),.lst 2 g (t.rows.map aE)],B.cells [.str u.name,.lst 1 f' (u.attrs.map V.str),.lst 2 g' (u.rows.map aE)],B.buf 50 11 (dl.map (aM nm)) false,B.buf 50 11 (cs.map (aM nm)) false,B.cells [.int .i64 r.id,.lst 3 false (r.vals.map aI)],B.cells [.int .i64 r.id,.lst 3 false (r.vals.map aI)],B.cells [.int .i64 r.id,.buf 7 0 r.vals.length r.vals.length],B.buf 48 3 (now.map aI) false,B.cells [.int .i64 r.id,.buf 7 0 r.vals.length r.vals.length],B.cells [.int .i64 v.k,.int .i64 v.n,.str v.s],B.cells [.int .i64 r.id,.buf 7 0 r.vals.length r.vals.length],B.cells [.int .i64 r.id,.buf 12 0 r.vals.length r.vals.length],B.buf 48 3 (now.map aI) true])] (by kernel_rfl) fun C K hC hK=>?_);simp -implicitDefEqProofs [aI,capG cs.length (by omega),wrapN cs.length (by omega)];refine⟨hC _ _ _ _ cpf,hK _ _ ?_⟩;simp -dsimp[hnow,hna,aI,aZ a (by omega),show a<r.vals.length by omega];refine hN2 (a+1) _ _ (by omega) (by omega) (by simp[hcs']) ⟨[B.cells [.int .i64 v.k,.int .i64 v.n,.str v.s],B.cells [.int .i64 r.id,.buf 7 0 r.vals.length r.vals.length],B.cells [.int .i64 r.id,.buf 12 0 r.vals.length r.vals.length],B.buf 48 3 (now.map aI) true],by simp[hcs',hns,←hset,aI,aM,LV,hnm,ae,cD]⟩ (by simp) (hrb9 _ _ _)
    ·obtain rfl:a=w:=by omega
     refine wx ?_;simp -dsimp[show ¬(a<x.vals.length) by omega];refine hQ2 _ _ _ ?_;simp -dsimp[aZ i (by omega)];refine hN (i+1) _ _ (by omega) (by omega) (by simp[hst,hct]) ⟨[B.cells [.int .i64 r.id,.lst 3 false (r.vals.map aI)],B.cells [.int .i64 r.id,.lst 3 false (r.vals.map aI)],B.cells [.int .i64 r.id,.buf 7 0 r.vals.length r.vals.length],B.buf 48 3 ((ao x.vals a r.vals).map aI) false,B.cells [.int .i64 r.id,.buf 7 0 r.vals.length r.vals.length]],by simp[hst,hct]⟩ (by simp) (hrb4 _ _)
  ·obtain rfl:i=t.rows.length:=by omega
   rw[gy];have hDl:=hdl t.rows.length;have hCl:=hcl t.rows.length;have hIl:=hil u.rows.length;rw[gy]at hDl hCl hIl;rw[←hD]at hDl ⊢;rw[←hC0]at hCl ⊢;refine wx ?_;simp -dsimp[hb];refine hQ _ _ _ ?_;simp -dsimp[];refine ab (W_own 50 11 [10] (by simp) (W_loopM 132 0xfffffc000000000000000000000380400 (by simp[mB]<;>rfl) (σ:=Nat) (fun i=>i≤u.rows.length) (fun i=>u.rows.length-i) (fun i=>[(110,.int .i64 i),(10,.buf 4 0 (bj t (u.rows.take i)).length (bj t (u.rows.take i)).length)]) (fun i=>[B.cells [.str t.name,.lst 1 f (t.attrs.map V.str),.lst 2 g (t.rows.map aE)],B.cells [.str u.name,.lst 1 f' (u.attrs.map V.str),.lst 2 g' (u.rows.map aE)],B.buf 50 11 (D.map (aM nm)) false,B.buf 50 11 (C0.map (aM nm)) false,B.buf 50 11 ((bj t (u.rows.take i)).map (aM nm)) false]) 0 (by omega) (by simp[bj]) (by simp[bj]) (by simp) ?_));intro i hi N2 Q2 hN2 hQ2
   have hrb5:∀(l m k:List Chg),∀bl∈[B.cells [.str t.name,.lst 1 f (t.attrs.map V.str),.lst 2 g (t.rows.map aE)],B.cells [.str u.name,.lst 1 f' (u.attrs.map V.str),.lst 2 g' (u.rows.map aE)],B.buf 50 11 (l.map (aM nm)) false,B.buf 50 11 (m.map (aM nm)) false,B.buf 50 11 (k.map (aM nm)) false],rbB 5 bl:=fun l m k bl hbl=>by
    simp only[gl,gi,or_false]at hbl
    rcases hbl with rfl | rfl | rfl | rfl | rfl
    ·exact htB _
    ·exact huB _
    ·exact dI _ _ _ _ _
    ·exact dI _ _ _ _ _
    ·exact dI _ _ _ _ _
   by_cases hb2:i<u.rows.length
   ·have hst:=insL_snoc t hb2;have hi1:=hil i;have hrl:=hvu _ (gR hb2);obtain⟨r,hre⟩:∃r,r=u.rows[i]:=⟨_,rfl⟩;rw[←hre]at hst hrl;have cgr:=cg r.id;obtain⟨k,hk⟩:∃k,k=(fnd t.rows r.id 0).1:=⟨_,rfl⟩;rw[←hk]at cgr;obtain⟨il,hile⟩:∃il,il=bj t (u.rows.take i):=⟨_,rfl⟩;rw[←hile]at hst hi1 ⊢
    cases hin:inT t r.id with
    | false =>
     have hin':(fnd t.rows r.id 0).2=false:=hin;rw[hin']at cgr;rw[hin,if_neg (by simp)]at hst;have hcp:=copied_p r (by omega);refine wx ?_;simp -dsimp[hb2,hre.symm,aE,LV];refine cPx (cgr) (by simp) ?_;simp -dsimp[];refine ab (bu tok mixed [7] [] [(aE r,[])] (by kernel_rfl) fun C K hC hK=>?_);simp -implicitDefEqProofs [aE,LV,capG il.length (by omega),wrapN il.length (by omega)];refine⟨hC _ _ _ _ (ah hcp (by simp)),hK _ _ ?_⟩;simp -dsimp[aZ i (by omega)];refine hN2 (i+1) _ _ (by omega) (by omega) (by simp[hst]) ⟨[B.cells [.int .i64 r.id,.lst 3 false (r.vals.map aI)]],by simp[hst,aM,aE,LV,vl0,hnm]⟩ (by simp) (hrb5 _ _ _)
    | true =>
     have hin':(fnd t.rows r.id 0).2=true:=hin;rw[hin']at cgr;rw[hin,if_pos rfl,gP]at hst;refine wx ?_;simp -dsimp[hb2,hre.symm,aE,LV];refine cPx (cgr) (by simp) ?_;simp -dsimp[aZ i (by omega)];refine hN2 (i+1) _ _ (by omega) (by omega) (by simp[hst]) ⟨[B.cells [.int .i64 r.id,.lst 3 false (r.vals.map aI)]],by simp[hst]⟩ (by simp) (hrb5 _ _ _)
   ·obtain rfl:i=u.rows.length:=by omega
    rw[gy];rw[←hI]at hIl ⊢
    have hcc:=concat_G [⟨false,D.map (aM nm)⟩,⟨false,C0.map (aM nm)⟩,⟨false,I.map (aM nm)⟩] true (fun l hl x hx=>by
     simp only[gl,gi,or_false]at hl
     rcases hl with rfl | rfl | rfl<;>(obtain⟨y,_,rfl⟩:=List.mem_map.1 hx;exact⟨encChg_pure _ _,encChg_oneV _ _,chg_cells _ _⟩)) (by simp) (by rw[concat_eq];simp;omega)
    rw[concat_eq]at hcc;refine W_frz 2 [8] rfl (by simp) ?_;refine W_frz 3 [9] rfl (by simp) ?_;refine W_frz 4 [10] rfl (by simp) ?_;simp only[iS,List.map_nil,bo]at hcc;refine wx ?_;simp -dsimp[hb2];refine hQ2 _ _ _ ?_;simp -dsimp[];refine cPx (hcc) (by simp) ?_;simp -dsimp[LCh];rintro x (⟨y,_,rfl⟩ | ⟨y,_,rfl⟩ | ⟨y,_,rfl⟩)<;>exact encChg_pure _ _
theorem nowF_sz{tv now:List Vl}(h1:∀v∈tv,v.s.size≤maxLen)(h2:∀v∈now,v.s.size≤maxLen):∀{a:Nat},a≤tv.length→∀v∈ao tv a now,v.s.size≤maxLen
 | 0,_,v,hv=>h2 v hv
 | a+1,ha,v,hv=>by
  rcases iO hv with hv | rfl
  ·exact nowF_sz h1 h2 (by omega) v hv
  ·have e:atV tv a=tv[a]'(by omega):=by simp[atV,show a<tv.length by omega]
   rw[e];exact h1 _ (gR _)
theorem plan_r(t u:Tb)(f g f' g':Bool)(A:PlA t u)(hz:∀r∈t.rows,∀v∈r.vals,v.s.size≤maxLen)(hz2:∀r∈u.rows,∀v∈r.vals,v.s.size≤maxLen):aJ Tryz.prog 9 [aS f g t,aS f' g' u] fun r=>r = .tup [co t u,.int .i64 (ba t u)]:=by
 have c1:=valid03 t f g A.ht;have c2:=valid03 u f' g' A.hu;have c3:=strings03 t.attrs u.attrs f f' A.ht.attrs;simp only[aS,LS,LR]at c1 c2 c3;by_cases h1:aO t=0
 case neg =>
  rw[bV (by rw[dO h1];exact h1),dO h1];refine sPx Tryz.func9 rfl rfl ?_;simp -dsimp[Tryz.f9,gG,aS,LS,LR];refine cPx (c1) (by simp) ?_;simp -dsimp[h1]
 rw[h1]at c1;by_cases h2:aO u=0
 case neg =>
  rw[bV (by rw[dN h1 h2];exact h2),dN h1 h2];refine sPx Tryz.func9 rfl rfl ?_;simp -dsimp[Tryz.f9,gG,aS,LS,LR];refine cPx (c1) (by simp) ?_;simp -dsimp[];refine cPx (c2) (by simp) ?_;simp -dsimp[h2]
 rw[h2]at c2
 cases hn:(t.name.toList == u.name.toList) with
 | false =>
  have he:=dM h1 h2 (by rw[bZ,hn];rfl);rw[bV (by rw[he];decide),he];refine sPx Tryz.func9 rfl rfl ?_;simp -dsimp[Tryz.f9,gG,aS,LS,LR];refine cPx (c1) (by simp) ?_;simp -dsimp[];refine cPx (c2) (by simp) ?_;simp -dsimp[hn]
 | true =>
 cases hs:dk t.attrs u.attrs with
 | false =>
  rw[hs]at c3;have he:=dM h1 h2 (by rw[hs];simp);rw[bV (by rw[he];decide),he];refine sPx Tryz.func9 rfl rfl ?_;simp -dsimp[Tryz.f9,gG,aS,LS,LR];refine cPx (c1) (by simp) ?_;simp -dsimp[];refine cPx (c2) (by simp) ?_;simp -dsimp[hn];refine cPx (c3) (by simp) ?_;simp -dsimp[]
 | true =>
 rw[hs]at c3;have he:=plan_ok h1 h2 (by rw[bZ,hn,hs];rfl);rw[eS he,he];have hn':=eqSt_eq hn;obtain⟨w,hw⟩:∃w,w=t.attrs.length:=⟨_,rfl⟩
 have hwu:u.attrs.length=w:=by rw[hw];exact(gA hs).symm
 have hw16:w≤16:=by rw[hw];exact(tbC h1).wide
 have hvt:∀r∈t.rows,r.vals.length=w:=fun r hr=>by rw[hw];exact dt h1 r hr
 have hvu:∀r∈u.rows,r.vals.length=w:=fun r hr=>by rw[←hwu];exact dt h2 r hr
 have h8:=A.t8;have h8u:=A.u8
 have cf:=fun id=>find03 u f' g' id (by omega)
 have cg:=fun id=>find03 t f g id (by omega)
 obtain⟨nm,hnm⟩:∃nm,nm=t.name:=⟨_,rfl⟩
 have htB:∀n,rbB n (B.cells [.str t.name,.lst 1 f (t.attrs.map V.str),.lst 2 g (t.rows.map aE)]):=fun n c hc=>by
  simp only[gl,gi,or_false]at hc
  rcases hc with rfl | rfl | rfl<;>simp[rb,rb1]
 have huB:∀n,rbB n (B.cells [.str u.name,.lst 1 f' (u.attrs.map V.str),.lst 2 g' (u.rows.map aE)]):=fun n c hc=>by
  simp only[gl,gi,or_false]at hc
  rcases hc with rfl | rfl | rfl<;>simp[rb,rb1]
 have hdl:∀i,(bq u (t.rows.take i)).length≤1000:=fun i=>by
  have:=gC u (t.rows.take i);rw[hX]at this;omega
 have hcl:∀i,(chL u w (t.rows.take i)).length≤1000:=fun i=>by
  have:=fK u w (t.rows.take i);have h3:(t.rows.take i).length*w≤8*16:=Nat.mul_le_mul (by rw[hX];omega) hw16;omega
 have hil:∀i,(bj t (u.rows.take i)).length≤1000:=fun i=>by
  have:=fh t (u.rows.take i);rw[hX]at this;omega
 simp only[aS,LS,LR]at cf cg;rw[←hnm]
 have hpl:dw t u=bq u t.rows++(chL u w t.rows++bj t u.rows):=by unfold dw;rw[←hw]
 rw[hpl];obtain⟨D,hD⟩:∃D,D=bq u t.rows:=⟨_,rfl⟩;obtain⟨C0,hC0⟩:∃C0,C0=chL u w t.rows:=⟨_,rfl⟩;obtain⟨I,hI⟩:∃I,I=bj t u.rows:=⟨_,rfl⟩;rw[←hD,←hC0,←hI]
 have hrb3:∀l:List Chg,∀bl∈[B.cells [.str t.name,.lst 1 f (t.attrs.map V.str),.lst 2 g (t.rows.map aE)],B.cells [.str u.name,.lst 1 f' (u.attrs.map V.str),.lst 2 g' (u.rows.map aE)],B.buf 50 11 (l.map (aM nm)) false],rbB 3 bl:=fun l bl hbl=>by
  simp only[gl,gi,or_false]at hbl
  rcases hbl with rfl | rfl | rfl
  ·exact htB _
  ·exact huB _
  ·exact dI _ _ _ _ _
 refine sPx Tryz.func9 rfl rfl ?_;simp -dsimp[Tryz.f9,gG,aS,LS,LR];refine cPx (c1) (by simp) ?_;simp -dsimp[];refine cPx (c2) (by simp) ?_;simp -dsimp[hn];refine cPx (c3) (by simp) ?_;simp -dsimp[];refine ab (W_own 50 11 [8] (by simp) (W_loopM 75 0x7fffffff00000000f00 (by simp[mB]<;>rfl) (σ:=Nat) (fun i=>i≤t.rows.length) (fun i=>t.rows.length-i) (fun i=>[(9,.int .i64 i),(8,.buf 2 0 (bq u (t.rows.take i)).length (bq u (t.rows.take i)).length)]) (fun i=>[B.cells [.str t.name,.lst 1 f (t.attrs.map V.str),.lst 2 g (t.rows.map aE)],B.cells [.str u.name,.lst 1 f' (u.attrs.map V.str),.lst 2 g' (u.rows.map aE)],B.buf 50 11 ((bq u (t.rows.take i)).map (aM nm)) false]) 0 (by omega) (by simp[bq]) (by simp[bq]) (by simp) ?_))
 ·intro i hi N Q hN hQ;by_cases hb:i<t.rows.length
  ·have hst:=delL_snoc u hb;have hd1:=hdl i;obtain⟨r,hre⟩:∃r,r=t.rows[i]:=⟨_,rfl⟩;rw[←hre]at hst;have cfr:=cf r.id;obtain⟨dl,hdle⟩:∃dl,dl=bq u (t.rows.take i):=⟨_,rfl⟩;rw[←hdle]at hst hd1 ⊢;obtain⟨k,hk⟩:∃k,k=(fnd u.rows r.id 0).1:=⟨_,rfl⟩;rw[←hk]at cfr
   cases hin:inT u r.id with
   | false =>
    have hin':(fnd u.rows r.id 0).2=false:=hin;rw[hin']at cfr;rw[hin,if_neg (by simp)]at hst;refine wx ?_;simp -dsimp[hb,hre.symm,aE,LV];refine .inr ⟨aY (by kernel_rfl),?_⟩;refine bS _ (ah (cfr) (by simp)) ?_;simp -dsimp[];refine ab (bu tok mixed [10] [] [] (by kernel_rfl) fun C K hC hK=>?_);simp -implicitDefEqProofs [hb,hre.symm,aE,LV,capG dl.length (by omega),wrapN dl.length (by omega)];refine hK _ _ ?_;simp -dsimp[aZ i (by omega)];refine hN (i+1) _ _ (by omega) (by omega) (by simp[hst]) ⟨[],by simp[hst,aM,aE,LV,vl0,hnm]⟩ (by simp) (hrb3 _)
   | true =>
    have hin':(fnd u.rows r.id 0).2=true:=hin;rw[hin']at cfr;rw[hin,if_pos rfl,gP]at hst;refine wx ?_;simp -dsimp[hb,hre.symm,aE,LV];refine .inr ⟨aY (by kernel_rfl),?_⟩;refine bS _ (ah (cfr) (by simp)) ?_;simp -dsimp[aZ i (by omega)];refine hN (i+1) _ _ (by omega) (by omega) (by simp[hst]) ⟨[],by simp[hst]⟩ (by simp) (hrb3 _)
  ·obtain rfl:i=t.rows.length:=by omega
   rw[gy]
   have hDl:D.length≤1000:=by rw[hD];have:=hdl t.rows.length;rwa [gy]at this
   rw[←hD];refine wx ?_;simp -dsimp[hb];refine hQ _ _ _ ?_;simp -dsimp[];refine ab (W_loopM 155 0x7fffffffffffffffffff800000000000003f100 (by simp[mB]<;>rfl) (σ:=Nat) (fun i=>i≤t.rows.length) (fun i=>t.rows.length-i) (fun i=>[(12,.int .i64 i),(8,.buf 2 0 (D++chL u w (t.rows.take i)).length (D++chL u w (t.rows.take i)).length)]) (fun i=>[B.cells [.str t.name,.lst 1 f (t.attrs.map V.str),.lst 2 g (t.rows.map aE)],B.cells [.str u.name,.lst 1 f' (u.attrs.map V.str),.lst 2 g' (u.rows.map aE)],B.buf 50 11 ((D++chL u w (t.rows.take i)).map (aM nm)) false]) 0 (by omega) (by simp[chL]) (by simp[chL]) (by simp) ?_)
   ·intro i hi N2 Q2 hN2 hQ2;by_cases hb:i<t.rows.length
    ·have hct:=chL_snoc u w hb;have hc1:=hcl i;have hrl:=hvt _ (gR hb);have hrz:=hz _ (gR hb);obtain⟨r,hre⟩:∃r,r=t.rows[i]:=⟨_,rfl⟩;rw[←hre]at hct hrl hrz;have cfr:=cf r.id;obtain⟨cl,hcle⟩:∃cl,cl=D++chL u w (t.rows.take i):=⟨_,rfl⟩
     have hct':D++chL u w (t.rows.take (i+1))=cl++chR u w r:=by rw[hct,hcle,gn]
     have hcll:cl.length≤2000:=by rw[hcle,gh];omega
     rw[←hcle]
     cases hin:inT u r.id with
     | false =>
      have hin':(fnd u.rows r.id 0).2=false:=hin;obtain⟨k,hk⟩:∃k,k=(fnd u.rows r.id 0).1:=⟨_,rfl⟩;rw[hin',←hk]at cfr
      have hch:chR u w r=[]:=by unfold chR;rw[hin];rfl
      rw[hch,gP]at hct';refine wx ?_;simp -dsimp[hb,hre.symm,aE,LV];refine .inr ⟨aY (by kernel_rfl),?_⟩;refine bS _ (ah (cfr) (by simp)) ?_;simp -dsimp[aZ i (by omega)];refine hN2 (i+1) _ _ (by omega) (by omega) (by simp[hct']) ⟨[],by simp[hct']⟩ (by simp) (hrb3 _)
     | true =>
      have hin':(fnd u.rows r.id 0).2=true:=hin;have hkl:=fnd_lt 0 hin';rw[hin']at cfr;have hxm:rwG u.rows (fnd u.rows r.id 0).1∈u.rows:=(fnd_id 0 hin').2
      have hch:chR u w r=chP r.id (rwG u.rows (fnd u.rows r.id 0).1).vals w r.vals:=by unfold chR;rw[hin];rfl
      rw[hch]at hct';obtain⟨k,hk⟩:∃k,k=(fnd u.rows r.id 0).1:=⟨_,rfl⟩;rw[←hk]at cfr hct' hkl hxm;have hxl:=hvu _ hxm;have hxz:=hz2 _ hxm
      have hxe:u.rows[k]=rwG u.rows k:=by simp[rwG,hkl]
      obtain⟨x,hx⟩:∃x,x=rwG u.rows k:=⟨_,rfl⟩;rw[←hx]at hct' hxl hxe hxz;have hcn:=fJ r.id x.vals r.vals
      have hne:r.vals=[]∨¬r.vals=[]:=by by_cases h:r.vals=[];exact .inl h;exact .inr h
      refine wx ?_;simp -dsimp[hb,hre.symm,aE,LV];refine .inr ⟨aY (by kernel_rfl),?_⟩;refine bS _ (ah (cfr) (by simp)) ?_;simp -dsimp[]
      rcases hne with hne | hne
      case' inl =>
       refine ab (W_drawP (tkf 44) mixed [15,16] [(0,[1]),(1,[1]),(2,[1]),(3,[1]),(4,[1]),(5,[1]),(6,[1]),(7,[1]),(8,[1]),(9,[1]),(10,[1]),(11,[1]),(12,[1]),(13,[1])] [] (by kernel_rfl) fun C K hC hK=>?_);simp -implicitDefEqProofs [hb,hre.symm,aE,LV,hne,ep];refine hK _ _ ?_;simp -dsimp[ep]
      case' inr =>
       refine ab (W_drawP (tkf 44) mixed [15,16] [(0,[1]),(1,[1]),(2,[1]),(3,[1]),(4,[1]),(5,[1]),(6,[1]),(7,[1]),(8,[1]),(9,[1]),(10,[1]),(11,[1]),(12,[1]),(13,[1])] [] (by kernel_rfl) fun C K hC hK=>?_);simp -implicitDefEqProofs [hb,hre.symm,aE,LV,hne,cap32l r.vals.length (by omega),ep];refine hK _ _ ?_;simp -dsimp[ep]
      case' inl =>
       have hw0:w=0:=by rw[←hrl,hne];rfl
       refine ab (W_lf 3 _ [.int .i64 r.id,.lst 3 false (r.vals.map aI)] rfl (fb _) (by simp[LfL,lfB,hne]) (W_loopM 155 0x7ffffffffffc000000000000000000000030100 (by simp[mB]<;>rfl) (σ:=Nat) (fun a=>a≤w) (fun a=>w-a) (fun a=>[(16,.int .i64 a),(8,.buf 2 0 (cl++chP r.id x.vals a r.vals).length (cl++chP r.id x.vals a r.vals).length)]) (fun a=>[B.cells [.str t.name,.lst 1 f (t.attrs.map V.str),.lst 2 g (t.rows.map aE)],B.cells [.str u.name,.lst 1 f' (u.attrs.map V.str),.lst 2 g' (u.rows.map aE)],B.buf 50 11 ((cl++chP r.id x.vals a r.vals).map (aM nm)) false,B.cells [.int .i64 r.id,.lst 3 false ((ao x.vals a r.vals).map aI)]]) 0 (by omega) (by simp[chP]) (by simp[chP,ao]) (by simp) ?_));intro a ha N3 Q3 hN3 hQ3
       obtain rfl:a=w:=by omega
       refine wx ?_;simp -dsimp[show ¬a<t.attrs.length by omega];refine hQ3 _ _ _ ?_;simp -dsimp[aZ i (by omega)];refine hN2 (i+1) _ _ (by omega) (by omega) (by simp[hct']) ⟨[B.cells [.int .i64 r.id,.lst 3 false ((ao x.vals a r.vals).map aI)]],by simp[hct']⟩ (by simp) (hrb3 _)
      case' inr =>
       refine ab (W_lf 3 _ [.int .i64 r.id,.lst 3 false (r.vals.map aI)] rfl (fb _) (by simp[LfL,lfB,hne]) (W_loopM 155 0x7ffffffffffc000000000000000000000030100 (by simp[mB]<;>rfl) (σ:=Nat) (fun a=>a≤w) (fun a=>w-a) (fun a=>[(16,.int .i64 a),(8,.buf 2 0 (cl++chP r.id x.vals a r.vals).length (cl++chP r.id x.vals a r.vals).length)]) (fun a=>[B.cells [.str t.name,.lst 1 f (t.attrs.map V.str),.lst 2 g (t.rows.map aE)],B.cells [.str u.name,.lst 1 f' (u.attrs.map V.str),.lst 2 g' (u.rows.map aE)],B.buf 50 11 ((cl++chP r.id x.vals a r.vals).map (aM nm)) false,B.cells [.int .i64 r.id,.lst 3 false ((ao x.vals a r.vals).map aI)]]) 0 (by omega) (by simp[chP]) (by simp[chP,ao]) (by simp) ?_));intro a ha N3 Q3 hN3 hQ3
       have hrb9:∀(l:List Chg) (vs:List Vl),∀bl∈[B.cells [.str t.name,.lst 1 f (t.attrs.map V.str),.lst 2 g (t.rows.map aE)],B.cells [.str u.name,.lst 1 f' (u.attrs.map V.str),.lst 2 g' (u.rows.map aE)],B.buf 50 11 (l.map (aM nm)) false,B.cells [.int .i64 r.id,.lst 3 false (vs.map aI)]],rbB 4 bl:=fun l vs bl hbl=>by
        simp only[gl,gi,or_false]at hbl
        rcases hbl with rfl | rfl | rfl | rfl
        ·exact htB _
        ·exact huB _
        ·exact dI _ _ _ _ _
        ·simp[rbB,rb,rb1]
       by_cases hab:a<w
       ·have hnow:=dy x.vals r.vals a;have hcn1:=hcn a;have hcs:chP r.id x.vals (a+1) r.vals=chP r.id x.vals a r.vals++(if atV (ao x.vals a r.vals) a=atV x.vals a then [] else [⟨4,⟨r.id,ao x.vals a r.vals⟩,a,atV x.vals a⟩]):=rfl;have hns:ao x.vals (a+1) r.vals=(ao x.vals a r.vals).set a (atV x.vals a):=rfl;have hoz:∀v∈ao x.vals a r.vals,v.s.size≤maxLen:=nowF_sz hxz hrz (by omega);obtain⟨now,hnowe⟩:∃now,now=ao x.vals a r.vals:=⟨_,rfl⟩;obtain⟨cs,hcse⟩:∃cs,cs=cl++chP r.id x.vals a r.vals:=⟨_,rfl⟩
        have hcsl:cs.length≤3000:=by rw[hcse,gh];omega
        rw[←hnowe]at hcs hns hnow hoz ⊢;rw[←hcse]
        have hcs':cl++chP r.id x.vals (a+1) r.vals=cs++(if atV now a=atV x.vals a then [] else [⟨4,⟨r.id,now⟩,a,atV x.vals a⟩]):=by rw[hcs,hcse,gn]
        have ha1:a<now.length:=by omega
        have ha2:a<x.vals.length:=by omega
        have ha3:a<t.attrs.length:=by omega
        rw[ed ha1,ed ha2]at hcs';rw[ed ha2]at hns;obtain⟨v,hv⟩:∃v,v=x.vals[a]:=⟨_,rfl⟩;obtain⟨o,ho⟩:∃o,o=now[a]:=⟨_,rfl⟩;rw[←hv]at hcs' hns;rw[←ho]at hcs'
        have hna:now[a]?=some o:=by rw[ho];exact gJ ha1
        have c5:=compare01 o v (hoz o (by rw[ho];exact gR ha1));simp only[aI]at c5;by_cases hq:o=v
        ·rw[if_pos hq,gP]at hcs';rw[hv,←hv,←hq,ho,List.set_getElem_self]at hns;rw[(cmpV_zero o v).2 hq]at c5;refine wx ?_;simp -dsimp[ha3,hkl,hxe,aE,LV,ha2,hv.symm,aI];refine .inr ⟨aY (by kernel_rfl),?_⟩;simp -dsimp[ha1,ho.symm,aI];refine bS _ (ah (c5) (by simp)) ?_;simp -dsimp[aZ a (by omega)];refine hN3 (a+1) _ _ (by omega) (by omega) (by simp[hcs']) ⟨[B.cells [.int .i64 v.k,.int .i64 v.n,.str v.s]],by simp[hcs',hns]⟩ (by simp) (hrb9 _ _)
        ·rw[if_neg hq]at hcs'
         have hcz:¬cmpV o v=0:=fun e=>hq ((cmpV_zero o v).1 e)
         obtain⟨nx,hnx⟩:∃nx,nx=now.set a v:=⟨_,rfl⟩
         have hset:(List.map aI now).set a (aI v)=List.map aI nx:=by rw[hnx,List.map_set]
         have hnxl:nx.length=r.vals.length:=by rw[hnx,List.length_set,hnow]
         rw[←hnx]at hns
         have hnne:¬now=[]:=by intro e;rw[e]at ha1;simp at ha1
         refine W_seq ?_;refine wx ?_;simp -dsimp[ha3];refine W_seq ?_;refine W_block ?_;refine wx ?_;simp -dsimp[hkl,hxe,aE,LV,ha2,hv.symm,aI];refine .inr ⟨aY (by kernel_rfl),?_⟩;simp -dsimp[ha1,ho.symm,aI];refine bS _ (ah (c5) (by simp)) ?_;simp -dsimp[hcz,aI,capG cs.length (by omega),wrapN cs.length (by omega)];refine ab (bu tok mixed [5,7] [(0,[1]),(1,[1])] [] (by kernel_rfl) fun C K hC hK=>?_);simp -implicitDefEqProofs [hnne,hne,hnow,cap32l r.vals.length (by omega)];refine hK _ _ ?_;simp -dsimp[hnow,hna,aI,show a<r.vals.length by omega];refine W_frzC 5 [] 3 [1] rfl rfl (by simp) (by simp[hnow]) ?_;refine wx ?_;simp -dsimp[aZ a (by omega)];refine hN3 (a+1) _ _ (by omega) (by omega) (by simp[hcs']) ⟨[B.cells [.int .i64 v.k,.int .i64 v.n,.str v.s],B.buf 48 3 (nx.map aI) true],by simp[hcs',hns,←hset,aI,aM,LV,hnm,ae,cD]⟩ (by simp) (hrb9 _ _)
       ·obtain rfl:a=w:=by omega
        refine wx ?_;simp -dsimp[show ¬a<t.attrs.length by omega];refine hQ3 _ _ _ ?_;simp -dsimp[aZ i (by omega)];refine hN2 (i+1) _ _ (by omega) (by omega) (by simp[hct']) ⟨[B.cells [.int .i64 r.id,.lst 3 false ((ao x.vals a r.vals).map aI)]],by simp[hct']⟩ (by simp) (hrb3 _)
    ·obtain rfl:i=t.rows.length:=by omega
     rw[gy];have hcl2:=hcl t.rows.length;rw[gy]at hcl2;rw[←hC0]at hcl2 ⊢;refine wx ?_;simp -dsimp[hb];refine hQ2 _ _ _ ?_;simp -dsimp[];refine ab (W_loopM 186 0x3fffffff8000000000000000000000000000000001c0100 (by simp[mB]<;>rfl) (σ:=Nat) (fun i=>i≤u.rows.length) (fun i=>u.rows.length-i) (fun i=>[(18,.int .i64 i),(8,.buf 2 0 (D++C0++bj t (u.rows.take i)).length (D++C0++bj t (u.rows.take i)).length)]) (fun i=>[B.cells [.str t.name,.lst 1 f (t.attrs.map V.str),.lst 2 g (t.rows.map aE)],B.cells [.str u.name,.lst 1 f' (u.attrs.map V.str),.lst 2 g' (u.rows.map aE)],B.buf 50 11 ((D++C0++bj t (u.rows.take i)).map (aM nm)) false]) 0 (by omega) (by simp[bj]) (by simp[bj]) (by simp) ?_);intro i hi N4 Q4 hN4 hQ4;by_cases hb2:i<u.rows.length
     ·have hst:=insL_snoc t hb2;have hi1:=hil i;obtain⟨r,hre⟩:∃r,r=u.rows[i]:=⟨_,rfl⟩;rw[←hre]at hst;have cgr:=cg r.id;obtain⟨k,hk⟩:∃k,k=(fnd t.rows r.id 0).1:=⟨_,rfl⟩;rw[←hk]at cgr;obtain⟨il,hile⟩:∃il,il=D++C0++bj t (u.rows.take i):=⟨_,rfl⟩
      have hst':D++C0++bj t (u.rows.take (i+1))=il++(if inT t r.id=true then [] else [⟨2,r,0,vl0⟩]):=by rw[hst,hile,←gn]
      have hill:il.length≤4000:=by rw[hile];simp only[gh];omega
      rw[←hile]
      cases hin:inT t r.id with
      | false =>
       have hin':(fnd t.rows r.id 0).2=false:=hin;rw[hin']at cgr;rw[hin,if_neg (by simp)]at hst';refine wx ?_;simp -dsimp[hb2,hre.symm,aE,LV];refine .inr ⟨aY (by kernel_rfl),?_⟩;refine bS _ (ah (cgr) (by simp)) ?_;simp -dsimp[];refine ab (bu tok mixed [10] [] [] (by kernel_rfl) fun C K hC hK=>?_);simp -implicitDefEqProofs [hb2,hre.symm,aE,LV,capG il.length (by omega),wrapN il.length (by omega)];refine hK _ _ ?_;simp -dsimp[aZ i (by omega)];refine hN4 (i+1) _ _ (by omega) (by omega) (by simp[hst']) ⟨[],by simp[hst',aM,aE,LV,vl0,hnm]⟩ (by simp) (hrb3 _)
      | true =>
       have hin':(fnd t.rows r.id 0).2=true:=hin;rw[hin']at cgr;rw[hin,if_pos rfl,gP]at hst';refine wx ?_;simp -dsimp[hb2,hre.symm,aE,LV];refine .inr ⟨aY (by kernel_rfl),?_⟩;refine bS _ (ah (cgr) (by simp)) ?_;simp -dsimp[aZ i (by omega)];refine hN4 (i+1) _ _ (by omega) (by omega) (by simp[hst']) ⟨[],by simp[hst']⟩ (by simp) (hrb3 _)
     ·obtain rfl:i=u.rows.length:=by omega
      rw[gy,←hI];refine W_frz 2 [8] rfl (by simp) ?_;refine wx ?_;simp -dsimp[hb2];refine hQ4 _ _ _ ?_;simp -dsimp[LCh];rintro x (⟨y,_,rfl⟩ | ⟨y,_,rfl⟩ | ⟨y,_,rfl⟩)<;>exact encChg_pure _ _
end
end Go.Proofs.YtjceoiofkccfdaaGreatDoor
