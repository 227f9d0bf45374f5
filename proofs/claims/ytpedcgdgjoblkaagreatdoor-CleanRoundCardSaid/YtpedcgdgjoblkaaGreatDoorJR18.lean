/- JR18: own texts of this seat, joined and shortened by pack4.py: PB, TA, StA, Bk, UB, ST0, ST1, UC, ST2, ST3, ST4, ST5, SK, ST6a. -/
import Derived.Test.YtpedcgdgjoblkaaGreatDoorJR12
import Derived.Test.YtpedcgdgjoblkaaGreatDoorJR15
import Derived.RangeFuncBox
import Derived.WalkKit
import Derived.OwnWalkIn
import Derived.TacticsInMore
import Derived.LoopNIn
import Derived.LoopIn
import Derived.Deep.MidRow
set_option linter.unusedVariables false
set_option linter.unusedSimpArgs false
set_option maxRecDepth 100000
set_option maxHeartbeats 64000000
open ByteArray renaming empty→kV
open List renaming replicate→aJ,getElem?_eq_getElem→kU,mem_of_getElem?→kW,getElem?_append_left→kX,getElem_mem→kZ,range→ka,getElem?_set_ne→kb,getElem?_append_right→kd,not_mem_nil→kf,append_nil→kg,mem_cons→kh,take_succ_eq_append_getElem→kn,getElem?_set_self→ko,length_append→kq,take_length→ku,getElem?_map→kv,append_assoc→kz,map_cons→lD,set_cons_zero→lE,length_map→lG,set_cons_succ→lH,length_cons→lJ,nil_append→lQ,getElem?_cons_succ→lR,map_nil→lS,take_of_length_le→lV,take_append_drop→ld,drop_zero→lq,mem_or_eq_of_mem_set→lw,getElem?_cons_zero→mC,cons_append→mL,length_nil→mO,mem_singleton→mR,set_getElem_self→mU,flatMap_append→mn,size_toArray→mv,map_set→nL
open Nat renaming le_refl→kY,zero_add→lN,zero_le→mX
section
namespace Go.AM
open Go
section
variable {P:Program} {T:Ty}
theorem wcall_frzA{f:FuncId}{args:List V}{H G:List B}{k e z:Nat}{xs cs cs':List V}{fz:Bool}(h:aR P f args H fun r H'=>r = .agg cs∧H'=G)(hk:G[k]?=some (.buf e z xs fz))(hr:eW (.buf k 0 xs.length xs.length) (.lst z false xs) cs cs'):
  aK P (.fn f []) args H fun r H'=>r = .agg cs'∧H'=G.set k (.buf e z xs true):=by
 simp only[aK,kg];refine⟨h.1,fun s vals hA hg hsz hrel=>(h.2 s vals hA hg hsz hrel).mono fun e' w' ⟨u,s',r,a1,a2,a3,a4,a5,a6,a7⟩=>?_⟩;subst a6;rw[←a7]at hk;obtain⟨p1,p2,_⟩:=eJ a3 hk;have hl:=hr.len
 cases a5 with
 | agg _ us h1 h2 h3 =>
  refine⟨.agg us,s'.frz k (.buf e z xs true),.agg cs',a1,a2,p1,a4.trans p2,.agg cs' us (by omega) (fun c hc=>?_) (fun i c v hc hv=>?_),rfl,by rw[←a7];rfl⟩
  ·obtain⟨i,hi⟩:=List.mem_iff_getElem?.1 hc;have hx:cs[i]?=some (cs[i]'(by have:=aB hi;omega)):=kU _
   rcases hr.at_ i _ c hx hi with e | ⟨_,e⟩
   ·rw[e];exact h2 _ (kZ _)
   ·rw[e];rfl
  ·have hx:cs[i]?=some (cs[i]'(by have:=aB hc;omega)):=kU _;exact fR a3 hk (h3 i _ v hx hv) (hr.at_ i _ c hx hc)
end
end Go.AM
namespace Go.Proofs.YtpedcgdgjoblkaaGreatDoor
open Go Go.AM
theorem dJ(H X:List B):(H++X)[H.length]?=X[0]?:=by rw[kd (kY _)];simp
theorem dm(H X:List B):(H++X)[H.length+1]?=X[1]?:=by rw[kd (by omega)];congr 1;omega
theorem getX2(H X:List B):(H++X)[H.length+2]?=X[2]?:=by rw[kd (by omega)];congr 1;omega
theorem ec(H X:List B)(Y:B):(H++X).set H.length Y=H++X.set 0 Y:=by rw[List.set_append_right _ _ (kY _)];simp
theorem eZ(H X:List B)(Y:B):(H++X).set (H.length+1) Y=H++X.set 1 Y:=by rw[List.set_append_right _ _ (by omega)];congr 2;omega
theorem cZ{α:Type}{l:List α}{i:Nat}{a:α}(h:l[i]?=some a):∀q,l[i]'q=a:=fun q=>by rw[kU q]at h;exact Option.some.inj h
theorem ce(H X:List B)(A:B):∀h,(H++A::X)[H.length]'h=A:=cZ (by rw[dJ];rfl)
theorem cd(H X:List B)(A A1:B):∀h,(H++A::A1::X)[H.length+1]'h=A1:=cZ (by rw[dm];rfl)
theorem copied_p(r:Rw)(hl:r.vals.length≤1000000):aL Tryz.prog 46 [aC r] fun x=>x=aC r:=by
 have cc:=clone_V r.vals false hl;simp only[LV]at cc;refine sPx Tryz.func46 rfl rfl ?_;simp -dsimp[Tryz.f46,aJ,aC,LV];refine aO (aX tok mixed [6] [] [(.lst 3 false (r.vals.map aH),[])] (by kernel_rfl) fun C K hC hK=>?_);simp -implicitDefEqProofs [];refine⟨hC _ _ _ _ (aQ cc (by simp)),hK _ _ ?_⟩;simp -dsimp[];rfl
def cpB(L:Nat)(id:Int)(a:V)(vs:List Vl)(fz:Bool):List B:=[B.cells [.int .i64 id,a],B.cells [.int .i64 id,.buf (L+2) 0 vs.length vs.length],B.buf 43 3 (vs.map aH) fz]
theorem copied_gL(H:List B)(id:Int)(vs:List Vl)(hc:aK Tryz.prog (.fn 89 []) [(.lst 3 false (vs.map aH))] (H++[B.cells [.int .i64 id,(.lst 3 false (vs.map aH))],B.cells [.int .i64 0,.nilS]]) fun r H'=>r = .buf (H.length+2) 0 vs.length vs.length∧H'=H++[B.cells [.int .i64 id,(.lst 3 false (vs.map aH))],B.cells [.int .i64 0,.nilS],B.buf 43 3 (vs.map aH) false]):
  aR Tryz.prog 46 [.agg [.int .i64 id,(.lst 3 false (vs.map aH))]] H fun x H'=>x = .agg [.int .i64 id,.buf (H.length+2) 0 vs.length vs.length]∧H'=H++cpB H.length id (.lst 3 false (vs.map aH)) vs false:=by
 refine aI tok Tryz.func46 rfl rfl ?_;refine wx ?_;simp -dsimp[Tryz.f46,aJ,ce,cd,dJ,dm,ec,eZ];refine aO (aX tok mixed [4,6] [(1,[1])] [(.buf (H.length+2) 0 vs.length vs.length,H++[B.cells [.int .i64 id,(.lst 3 false (vs.map aH))],B.cells [.int .i64 0,.nilS],B.buf 43 3 (vs.map aH) false])] (by kernel_rfl) fun C K hC hK=>?_);simp -implicitDefEqProofs [ce,cd,dJ,dm,ec,eZ];refine⟨hC _ _ _ _ hc,hK _ _ ?_⟩;simp -dsimp[ce,cd,dJ,dm,ec,eZ];simp[cpB]
theorem copied_gB(H:List B)(id:Int)(k:Nat)(vs:List Vl)(hc:aK Tryz.prog (.fn 89 []) [(.buf k 0 vs.length vs.length)] (H++[B.cells [.int .i64 id,(.buf k 0 vs.length vs.length)],B.cells [.int .i64 0,.nilS]]) fun r H'=>r = .buf (H.length+2) 0 vs.length vs.length∧H'=H++[B.cells [.int .i64 id,(.buf k 0 vs.length vs.length)],B.cells [.int .i64 0,.nilS],B.buf 43 3 (vs.map aH) false]):
  aR Tryz.prog 46 [.agg [.int .i64 id,(.buf k 0 vs.length vs.length)]] H fun x H'=>x = .agg [.int .i64 id,.buf (H.length+2) 0 vs.length vs.length]∧H'=H++cpB H.length id (.buf k 0 vs.length vs.length) vs false:=by
 refine aI tok Tryz.func46 rfl rfl ?_;refine wx ?_;simp -dsimp[Tryz.f46,aJ,ce,cd,dJ,dm,ec,eZ];refine aO (aX tok mixed [4,6] [(1,[1])] [(.buf (H.length+2) 0 vs.length vs.length,H++[B.cells [.int .i64 id,(.buf k 0 vs.length vs.length)],B.cells [.int .i64 0,.nilS],B.buf 43 3 (vs.map aH) false])] (by kernel_rfl) fun C K hC hK=>?_);simp -implicitDefEqProofs [ce,cd,dJ,dm,ec,eZ];refine⟨hC _ _ _ _ hc,hK _ _ ?_⟩;simp -dsimp[ce,cd,dJ,dm,ec,eZ];simp[cpB]
theorem kI(H:List B)(vs:List Vl)(hl:vs.length≤1000000):aK Tryz.prog (.fn 89 []) [.lst 3 false (vs.map aH)] H fun r H'=>r = .buf H.length 0 vs.length vs.length∧H'=H++[B.buf 43 3 (vs.map aH) false] :=
 (fc (H:=H) (cloneO_V vs false hl) (by simp)).mono (by
  rintro r H' ⟨e,z,xs,rfl,rfl,_,rfl,rfl,rfl⟩
  simp)
theorem clone_lent(H:List B)(k:Nat)(vs:List Vl){fz:Bool}(hk:H[k]?=some (.buf 43 3 (vs.map aH) fz))(hl:vs.length≤1000000):aK Tryz.prog (.fn 89 []) [.buf k 0 vs.length vs.length] H fun r H'=>r = .buf H.length 0 vs.length vs.length∧H'=H++[B.buf 43 3 (vs.map aH) false] :=
 (callOX (H:=H) (args:=[.buf k 0 vs.length vs.length]) (cloneO_V vs false hl) rfl (fun i a a' ha ha'=>by
  match i with
  | 0 =>
   simp at ha ha';subst ha;subst ha';have:=Exp.buf (H:=H) k 0 vs.length 43 3 (vs.map aH) fz hk (by simp) (fun x hx=>by obtain⟨y,_,rfl⟩:=List.mem_map.1 hx;simp);rw[lG,lq,lV (by simp)]at this;exact this
  | i+1=>simp at ha) (fun e z xs hx x hm c hcc=>by
   obtain⟨_,_,rfl⟩:=hx;obtain⟨y,_,rfl⟩:=List.mem_map.1 hm;simp only[aH,V.cells,kh,kf,or_false]at hcc
   rcases hcc with rfl | rfl | rfl
   ·exact .int _ _
   ·exact .int _ _
   ·exact .str _)).mono (by
  rintro r H' ⟨e,z,xs,rfl,rfl,_,rfl,rfl,rfl⟩
  simp)
theorem copied_o(H:List B)(r:Rw)(hl:r.vals.length≤1000000):aR Tryz.prog 46 [aC r] H fun x H'=>x = .agg [.int .i64 r.id,.buf (H.length+2) 0 r.vals.length r.vals.length]∧H'=H++cpB H.length r.id (LV false r.vals) r.vals false :=
 copied_gL H r.id r.vals (by
  have:=kI (H++[B.cells [.int .i64 r.id,LV false r.vals],B.cells [.int .i64 0,.nilS]]) r.vals hl
  simpa[kz,LV] using this)
theorem copied_f(H:List B)(k:Nat)(id:Int)(vs:List Vl)(hk:H[k]?=some (.buf 43 3 (vs.map aH) false))(hl:vs.length≤1000000):aK Tryz.prog (.fn 46 []) [.agg [.int .i64 id,.buf k 0 vs.length vs.length]] H fun x H'=>x = .agg [.int .i64 id,.lst 3 false (vs.map aH)]∧H'=H++cpB H.length id (.buf k 0 vs.length vs.length) vs true:=by
 have hkl:=aB hk
 have h0:=copied_gB H id k vs (by
  have:=clone_lent (H++[B.cells [.int .i64 id,.buf k 0 vs.length vs.length],B.cells [.int .i64 0,.nilS]]) k vs (fz:=false) (by rw[kX hkl];exact hk) hl
  simpa[kz] using this)
 refine(wcall_frzA (k:=H.length+2) (e:=43) (z:=3) (xs:=vs.map aH) (fz:=false) (cs':=[.int .i64 id,.lst 3 false (vs.map aH)]) h0 (by rw[getX2];rfl) (by simp)).mono ?_;rintro r H' ⟨rfl,rfl⟩;refine⟨rfl,?_⟩;rw[List.set_append_right _ _ (by omega)];simp[cpB]
end Go.Proofs.YtpedcgdgjoblkaaGreatDoor
end
namespace Go.Proofs.YtpedcgdgjoblkaaGreatDoor
section
open Go Go.AM
theorem row_s(r:Rw)(hl:r.vals.length≤1000000):aL Tryz.prog 74 [aC r] fun x=>x=aC r:=by
 have cc:=clone_V r.vals false hl;simp only[LV]at cc;refine sPx Tryz.func74 rfl rfl ?_;simp -dsimp[Tryz.f74,aJ,aC,LV];refine aO (aX tok mixed [6] [] [(.lst 3 false (r.vals.map aH),[])] (by kernel_rfl) fun C K hC hK=>?_);simp -implicitDefEqProofs [];refine⟨hC _ _ _ _ (aQ cc (by simp)),hK _ _ ?_⟩;simp -dsimp[];rfl
theorem kG(r:Rw)(hl:r.vals.length≤1000000):aL Tryz.prog 112 [aC r] fun x=>x=aC r:=by
 have cc:=clone_V r.vals false hl;simp only[LV]at cc;refine sPx Tryz.func112 rfl rfl ?_;simp -dsimp[Tryz.f112,aJ,aC,LV];refine aO (aX tok mixed [6] [] [(.lst 3 false (r.vals.map aH),[])] (by kernel_rfl) fun C K hC hK=>?_);simp -implicitDefEqProofs [];refine⟨hC _ _ _ _ (aQ cc (by simp)),hK _ _ ?_⟩;simp -dsimp[];rfl
theorem fE(t:Tb)(f g:Bool)(ha:t.attrs.length≤1000000)(hr:t.rows.length≤1000000)(hv:∀r∈t.rows,r.vals.length≤1000000):aL Tryz.prog 60 [aD f g t] fun x=>x=aD false false t:=by
 have cc:=jD t.attrs f ha;simp only[LS]at cc;refine sPx Tryz.func60 rfl rfl ?_;simp -dsimp[Tryz.f60,aJ,aD,LS,LR];refine aO (aX tok mixed [6,7] [(0,[1]),(1,[1]),(2,[1]),(3,[1]),(4,[1]),(5,[1])] [(.lst 1 false (t.attrs.map V.str),[])] (by kernel_rfl) fun C K hC hK=>?_);simp -implicitDefEqProofs [];refine⟨⟨hC _ _ _ _ (aQ cc (by simp)),hC _ _ _ _ (aQ cc (by simp))⟩,hK _ _ ?_⟩;simp -dsimp[];refine aO (dW 41 2 [] 2 [2] rfl (cQ _ _) (by simp) (W_loopM 27 0x7ff8c20 (by simp[mB]<;>rfl) (σ:=Nat) (fun i=>i≤t.rows.length) (fun i=>t.rows.length-i) (fun i=>[(15,.int .i64 i)]) (fun i=>[B.cells [.str t.name,.lst 1 f (t.attrs.map V.str),.lst 2 g (t.rows.map aC)],B.cells [.str kV,.nilS,.nilS],B.cells [.str t.name,.lst 1 false (t.attrs.map V.str),.buf 3 0 i i],B.buf 41 2 ((t.rows.take i).map aC) false]) 0 (by omega) (by simp) (by simp) (by simp) ?_));intro i hi N Q hN hQ
 have hli:(t.rows.take i).length=i:=by simp;omega
 by_cases hb:i<t.rows.length
 ·have hst:t.rows.take (i+1)=t.rows.take i++[t.rows[i]]:=kn hb;have hc:=row_s t.rows[i] (hv _ (kZ hb));obtain⟨l,hl⟩:∃l,l=t.rows.take i:=⟨_,rfl⟩;rw[←hl]at hst hli ⊢;refine wx ?_;simp -dsimp[hb];refine aO (aX tok mixed [5,7] [] [(aC t.rows[i],[])] (by kernel_rfl) fun C K hC hK=>?_);simp -implicitDefEqProofs [hb,aC,LV,hli,kO i (by omega)];refine⟨hC _ _ _ _ (aQ hc (by simp)),hK _ _ ?_⟩;simp -dsimp[aT i (by omega)];refine hN (i+1) _ _ (by omega) (by omega) ?_ ⟨[B.cells [.int .i64 t.rows[i].id,.lst 3 false (t.rows[i].vals.map aH)]],?_⟩ ?_ ?_<;>simp[or_imp,forall_and,L1,ct,hst,aC,LV]
 ·obtain rfl:i=t.rows.length:=by omega
  rw[ku];refine gD 3 [] 2 [2] rfl rfl (by simp) (by simp) ?_;refine wx ?_;simp -dsimp[hb];refine hQ _ _ _ ?_;simp -dsimp[];simp only[aD,LS,LR]
theorem jC{P:Program}{f:FuncId}{args args':List V}{H:List B}{K:V→List B→Prop}(h:aR P f args' H K)(hl:args.length=args'.length)(hle:∀(i:Nat) a b,args[i]?=some a→args'[i]?=some b→Le a b):aR P f args H K :=
 ⟨h.1,fun s vals h1 h2 h3 h4=>h.2 s vals h1 h2 (h3.trans hl) (fun i b u hb hu=>by
  have hi:=aB hb;have ha:args[i]?=some (args[i]'(by omega)):=kU (by omega)
  exact(hle i _ b ha hb).rel (h4 i _ u ha hu))⟩
end
end Go.Proofs.YtpedcgdgjoblkaaGreatDoor
namespace Go.Proofs.YtpedcgdgjoblkaaGreatDoor
section
open Go Go.AM Go.RowKit
attribute [local go_sem] Oper.semAt_some
theorem back_nil(Bs b:Nat)(us:Nat→Nat→Value)(A:Option Addr)(cap:Nat)(w:World)(hB:Bs<w.heap.size)(hc:w.cell? ⟨Bs,0,none⟩=some (.slice A 0 cap)):
  SeqIx Fence.wide 19 Tryz.prog 118 #[.pointer (some ⟨Bs,0,none⟩)] (fun k=>#[.int .i64 ((0-1-k:Nat):Int),.agg ((ka 11).map (us (0-1-k))).toArray]) (KpS fun x=>x=Bs∨x=b) 0 w:=by
 intro l J W hW hJ hY h0;have hBs:W.cell? ⟨Bs,0,none⟩=some (.slice A 0 cap):=(hW.cell (p:=⟨Bs,0,none⟩) hB).trans hc;clear hY hJ;refine callsIn_of_wp Tryz.func118 rfl trivial ?_ rfl;simp only[Tryz.ntmps118,mv,lJ,mO,Nat.reduceAdd,Nat.reduceSub,Array.replicate_succ,Array.replicate_zero,List.push_toArray,List.append_toArray,lQ,mL]
 gi_wp2
 gi_loopw [3] (fun i wr=>i = .int .i64 (-1)∧J 0 wr) (fun _ _=>0)
 case atStart=>exact⟨rfl,h0⟩
 case round =>
  obtain⟨rfl,hJs⟩:=hrel
  gi_wp2
  go_end0
  exact⟨⟨_,rfl⟩,hJs⟩
attribute [local go_sem] Oper.semAt_some
theorem back_ix(N Bs b off cap:Nat)(us:Nat→Nat→Value)(w:World)(hN:N≤1000000)(hB:Bs<w.heap.size)(hb:b<w.heap.size)(hc:w.cell? ⟨Bs,0,none⟩=some (.slice (some ⟨b,off,none⟩) N cap))
  (hce:∀i,i<N→∀j,j<11→w.cell? ⟨b,off+i*11+j,none⟩=some (us i j)):
  SeqIx Fence.wide 19 Tryz.prog 118 #[.pointer (some ⟨Bs,0,none⟩)] (fun k=>#[.int .i64 ((N-1-k:Nat):Int),.agg ((ka 11).map (us (N-1-k))).toArray]) (KpS fun x=>x=Bs∨x=b) N w:=by
 intro l J W hW hJ hY h0;have hBs:W.cell? ⟨Bs,0,none⟩=some (.slice (some ⟨b,off,none⟩) N cap):=(hW.cell (p:=⟨Bs,0,none⟩) hB).trans hc
 have hcs:∀i,i<N→∀j,j<11→W.cell? ⟨b,off+i*11+j,none⟩=some (us i j):=fun i hi j hj=>(hW.cell (p:=⟨b,off+i*11+j,none⟩) hb).trans (hce i hi j hj)
 refine callsIn_of_wp Tryz.func118 rfl trivial ?_ rfl;simp only[Tryz.ntmps118,mv,lJ,mO,Nat.reduceAdd,Nat.reduceSub,Array.replicate_succ,Array.replicate_zero,List.push_toArray,List.append_toArray,lQ,mL]
 gi_wp2
 gi_loopw [3] (fun i wr=>∃k:Nat,k≤N∧i = .int .i64 ((N:Int)-1-k)∧J k wr∧KpS (fun x=>x=Bs∨x=b) W wr) (fun i _=>(intOf i+1).toNat)
 case atStart=>exact⟨0,mX _,by simp,h0,fun x _=>rfl⟩
 case round =>
  obtain⟨k,hk,rfl,hJs,hkp⟩:=hrel
  have hBr:wr.cell? ⟨Bs,0,none⟩=some (.slice (some ⟨b,off,none⟩) N cap):=by rw[World.cell?_of_block (hkp Bs (.inl rfl))];exact hBs
  by_cases hlt:k<N
  ·obtain⟨fn,tmps,assign,body,hy,hR⟩:=hY k wr hJs hlt;obtain⟨q,hq⟩:∃q:Nat,(N:Int)-1-k=(q:Int)∧q<N∧N-1-k=q:=⟨N-1-k,by omega,by omega,rfl⟩;rw[hq.1];rw[hq.2.2]at hy
   have hat:∀j,j<11→wr.cell? ⟨b,off+q*11+j,none⟩=some (us q j):=fun j hj=>by
    rw[World.cell?_of_block (hkp b (.inr rfl))];exact hcs q hq.2.1 j hj
   have d0:wr.cell? ⟨b,off+q*11,none⟩=some (us q 0):=hat 0 (by omega);have d1:wr.cell? ⟨b,off+q*11+1,none⟩=some (us q 1):=hat 1 (by omega);have d2:wr.cell? ⟨b,off+q*11+2,none⟩=some (us q 2):=hat 2 (by omega);have d3:wr.cell? ⟨b,off+q*11+3,none⟩=some (us q 3):=hat 3 (by omega);have d4:wr.cell? ⟨b,off+q*11+4,none⟩=some (us q 4):=hat 4 (by omega);have d5:wr.cell? ⟨b,off+q*11+5,none⟩=some (us q 5):=hat 5 (by omega);have d6:wr.cell? ⟨b,off+q*11+6,none⟩=some (us q 6):=hat 6 (by omega);have d7:wr.cell? ⟨b,off+q*11+7,none⟩=some (us q 7):=hat 7 (by omega);have d8:wr.cell? ⟨b,off+q*11+8,none⟩=some (us q 8):=hat 8 (by omega);have d9:wr.cell? ⟨b,off+q*11+9,none⟩=some (us q 9):=hat 9 (by omega);have d10:wr.cell? ⟨b,off+q*11+10,none⟩=some (us q 10):=hat 10 (by omega);have h11:(ka 11).map (us q)=[us q 0,us q 1,us q 2,us q 3,us q 4,us q 5,us q 6,us q 7,us q 8,us q 9,us q 10]:=rfl;rw[h11]at hy;clear hat;clear hcs hce hBs hW hc
   gi_wp2
   refine hR.mono ?_;rintro e W3 ⟨rfl,hJ3,hk3⟩
   gi_wp2
   go_roundw
   case rel=>exact⟨k+1,by omega,by first | (simp;done) | (simp;omega),hJ3,fun x hx=>(hk3 x hx).trans (hkp x hx)⟩
   case measure=>first | (simp[intOf];done) | (simp[intOf];omega)
  ·obtain rfl:k=N:=by omega
   gi_wp2
   go_end0
   exact⟨⟨_,rfl⟩,hJs⟩
end
end Go.Proofs.YtpedcgdgjoblkaaGreatDoor
namespace Go.Proofs.YtpedcgdgjoblkaaGreatDoor
section
open Go Go.AM
def g2(k L:Nat)(i:Nat):Nat:=if i=0 then k else L
theorem lift2{P:Program}{f:FuncId}{args0 args:List V}{A0 A1 B0 B1 C0 C1 D0 D1:B}{r0:V}{H:List B}{k L:Nat}(h:aR P f args0 [A0,A1] fun r H'=>r=r0∧H'=[C0,C1])
  (hkL:k≠L) (h0:H[k]?=some B0) (h1:H[L]?=some B1) (R0:RenB (g2 k L) 2 A0 B0) (R1:RenB (g2 k L) 2 A1 B1) (S0:RenB (g2 k L) 2 C0 D0) (S1:RenB (g2 k L) 2 C1 D1)
  (hal:args0.length=args.length) (ha:∀(i:Nat) a b,args0[i]?=some a→args[i]?=some b→Ren (g2 k L) 2 a b) (hr:AM.Pure r0):aR P f args H fun r H'=>r=r0∧H'=(H.set k D0).set L D1:=by
 have hk:=aB h0;have hL:=aB h1;refine fV 2 2 (g2 k L) h rfl rfl (kY _) (fun i j hi hj e=>?_) (fun i hi=>?_) (fun i h1 h2=>absurd h1 (by omega)) (fun i b hb=>?_) (fun i b hb=>?_) (by simp) (fun j hj hno=>?_) hal ha hr
 ·match i,j,hi,hj with
  | 0,0,_,_=>rfl
  | 0,1,_,_=>simp[g2]at e;exact absurd e hkL
  | 1,0,_,_=>simp[g2]at e;exact absurd e.symm hkL
  | 1,1,_,_=>rfl
 ·match i,hi with
  | 0,_=>exact hk
  | 1,_=>exact hL
 ·match i with
  | 0=>simp at hb;subst hb;exact⟨_,h0,R0⟩
  | 1=>simp at hb;subst hb;exact⟨_,h1,R1⟩
  | i+2=>simp at hb
 ·match i with
  | 0 =>
   simp at hb;subst hb;exact⟨D0,by show((H.set k D0).set L D1)[k]?=_;rw[kb (Ne.symm hkL),ko hk],S0⟩
  | 1 =>
   simp at hb;subst hb;exact⟨D1,by show((H.set k D0).set L D1)[L]?=_;rw[ko (by simpa using hL)],S1⟩
  | i+2=>simp at hb
 ·have n0:k≠j:=hno 0 (by omega);have n1:L≠j:=hno 1 (by omega);rw[kb n1,kb n0]
def g12(k n:Nat)(i:Nat):Nat:=if i=0 then k else n
theorem lift12{P:Program}{f:FuncId}{args0 args:List V}{A0 B0 C0 C1 D0 D1:B}{r0:V}{H:List B}{k:Nat}(h:aR P f args0 [A0] fun r H'=>r=r0∧H'=[C0,C1])
  (h0:H[k]?=some B0) (R0:RenB (g12 k H.length) 1 A0 B0) (S0:RenB (g12 k H.length) 2 C0 D0) (S1:RenB (g12 k H.length) 2 C1 D1)
  (hal:args0.length=args.length) (ha:∀(i:Nat) a b,args0[i]?=some a→args[i]?=some b→Ren (g12 k H.length) 1 a b) (hr:AM.Pure r0):aR P f args H fun r H'=>r=r0∧H'=H.set k D0++[D1]:=by
 have hk:=aB h0;refine fV 1 2 (g12 k H.length) h rfl rfl (by omega) (fun i j hi hj e=>?_) (fun i hi=>?_) (fun i h1 h2=>?_) (fun i b hb=>?_) (fun i b hb=>?_) (by simp) (fun j hj hno=>?_) hal ha hr
 ·match i,j,hi,hj with
  | 0,0,_,_=>rfl
  | 0,1,_,_=>simp[g12]at e;omega
  | 1,0,_,_=>simp[g12]at e;omega
  | 1,1,_,_=>rfl
 ·match i,hi with
  | 0,_=>exact hk
 ·match i,h1,h2 with
  | 1,_,_=>simp[g12]
 ·match i with
  | 0=>simp at hb;subst hb;exact⟨_,h0,R0⟩
  | i+1=>simp at hb
 ·match i with
  | 0 =>
   simp at hb;subst hb;exact⟨D0,by show(H.set k D0++[D1])[k]?=_;rw[kX (by simpa using hk),ko hk],S0⟩
  | 1 =>
   simp at hb;subst hb;exact⟨D1,by show(H.set k D0++[D1])[H.length]?=_;rw[kd (by simp)];simp,S1⟩
  | i+2=>simp at hb
 ·have n0:k≠j:=hno 0 (by omega);rw[kX (by simpa using hj),kb n0]
def stB(db dn ud:V)(o:Bool)(nw:V):B:=.cells [db,dn,ud,.bool o,nw]
def dnS(dl:List V):B:=.buf 25 1 dl false
theorem ren_st{g:Nat→Nat}{n m:Nat}{db ud nw:V}{o:Bool}(h1:1<n)(hd:AM.Pure db)(hu:AM.Pure ud)(hw:AM.Pure nw)(o1:db.one=true)(o2:ud.one=true)(o3:nw.one=true):RenB g n (stB db (.buf 1 0 m m) ud o nw) (stB db (.buf (g 1) 0 m m) ud o nw):=by
 refine .cells _ _ rfl (fun c hc=>?_) (fun i c d hc hd'=>?_)
 ·simp only[kh,kf,or_false]at hc
  rcases hc with rfl | rfl | rfl | rfl | rfl<;>first | rfl | assumption
 ·match i with
  | 0=>simp at hc hd';subst hc;subst hd';exact .pure _ hd
  | 1=>simp at hc hd';subst hc;subst hd';exact .buf 1 0 m m h1
  | 2=>simp at hc hd';subst hc;subst hd';exact .pure _ hu
  | 3=>simp at hc hd';subst hc;subst hd';exact .pure _ (.bool _)
  | 4=>simp at hc hd';subst hc;subst hd';exact .pure _ hw
  | i+5=>simp at hc
theorem ir{g:Nat→Nat}{n:Nat}{db dn ud nw:V}{o:Bool}(hd:AM.Pure db)(hn:AM.Pure dn)(hu:AM.Pure ud)(hw:AM.Pure nw)(o1:db.one=true)(o4:dn.one=true)(o2:ud.one=true)(o3:nw.one=true):RenB g n (stB db dn ud o nw) (stB db dn ud o nw):=by
 refine .cells _ _ rfl (fun c hc=>?_) (fun i c d hc hd'=>?_)
 ·simp only[kh,kf,or_false]at hc
  rcases hc with rfl | rfl | rfl | rfl | rfl<;>first | rfl | assumption
 ·match i with
  | 0=>simp at hc hd';subst hc;subst hd';exact .pure _ hd
  | 1=>simp at hc hd';subst hc;subst hd';exact .pure _ hn
  | 2=>simp at hc hd';subst hc;subst hd';exact .pure _ hu
  | 3=>simp at hc hd';subst hc;subst hd';exact .pure _ (.bool _)
  | 4=>simp at hc hd';subst hc;subst hd';exact .pure _ hw
  | i+5=>simp at hc
theorem iA{g:Nat→Nat}{n:Nat}{dl:List V}(h:∀x∈dl,AM.Pure x):RenB g n (dnS dl) (dnS dl):=.buf _ _ _ _ h
structure StP (db ud nw:V) (dl:List V):Prop where
 pdb:AM.Pure db
 pud:AM.Pure ud
 pnw:AM.Pure nw
 pdl:∀x∈dl,AM.Pure x
 odb:db.one=true
 oud:ud.one=true
 onw:nw.one=true
 odl:∀x∈dl,∀c∈x.cells,c.one=true
theorem StP.rb{db ud nw:V}{dl:List V}(h:StP db ud nw dl){m:Nat}{o:Bool} : ∀bl∈[stB db (.buf 1 0 m m) ud o nw,dnS dl],rbB 2 bl:=fun bl hbl=>by
 simp only[kh,kf,or_false]at hbl
 rcases hbl with rfl | rfl
 ·intro c hc;simp only[kh,kf,or_false]at hc
  rcases hc with rfl | rfl | rfl | rfl | rfl
  ·exact bS h.pdb h.odb
  ·show 1<2;omega
  ·exact bS h.pud h.oud
  ·simp[rb1]
  ·exact bS h.pnw h.onw
 ·exact(cP h.pdl h.odl).2 trivial
theorem liftS{P:Program}{f:FuncId}{ar:List V}{db ud nw db' ud' nw' r0:V}{dl dl':List V}{m m':Nat}{o o':Bool}{H:List B}{k L:Nat}
  (h:aR P f (.ptr 0 0::ar) [stB db (.buf 1 0 m m) ud o nw,dnS dl] fun r H'=>r=r0∧H'=[stB db' (.buf 1 0 m' m') ud' o' nw',dnS dl'])
  (p:StP db ud nw dl) (p':StP db' ud' nw' dl') (has:∀a∈ar,AM.Pure a) (hr:AM.Pure r0) (hkL:k≠L) (h0:H[k]?=some (stB db (.buf L 0 m m) ud o nw)) (h1:H[L]?=some (dnS dl)):
  aR P f (.ptr k 0::ar) H fun r H'=>r=r0∧H'=(H.set k (stB db' (.buf L 0 m' m') ud' o' nw')).set L (dnS dl'):=by
 have e:g2 k L 1=L:=rfl;refine lift2 h hkL h0 h1 ?_ (iA p.pdl) ?_ (iA p'.pdl) rfl (fun i a b ha hb=>?_) hr
 ·have:=ren_st (g:=g2 k L) (n:=2) (m:=m) (o:=o) (by omega) p.pdb p.pud p.pnw p.odb p.oud p.onw
  rwa [e]at this
 ·have:=ren_st (g:=g2 k L) (n:=2) (m:=m') (o:=o') (by omega) p'.pdb p'.pud p'.pnw p'.odb p'.oud p'.onw
  rwa [e]at this
 ·cases i with
  | zero =>
   simp at ha hb;subst ha;subst hb;exact .ptr 0 0 (by omega)
  | succ i =>
   simp only[lR]at ha hb;rw[ha]at hb;cases hb;exact .pure _ (has _ (kW ha))
theorem hU{H:List B}{k:Nat}{b:B}(h:H[k]?=some b):H.set k b=H:=by
 obtain⟨h1,h2⟩:=List.getElem?_eq_some_iff.1 h;rw[←h2];exact mU h1
theorem liftS0{P:Program}{f:FuncId}{ar:List V}{db ud nw r0:V}{dl:List V}{m:Nat}{o:Bool}{H:List B}{k L:Nat}
  (h:aR P f (.ptr 0 0::ar) [stB db (.buf 1 0 m m) ud o nw,dnS dl] fun r H'=>r=r0∧H'=[stB db (.buf 1 0 m m) ud o nw,dnS dl])
  (p:StP db ud nw dl) (has:∀a∈ar,AM.Pure a) (hr:AM.Pure r0) (hkL:k≠L) (h0:H[k]?=some (stB db (.buf L 0 m m) ud o nw)) (h1:H[L]?=some (dnS dl)):
  aR P f (.ptr k 0::ar) H fun r H'=>r=r0∧H'=H :=
 (liftS h p p has hr hkL h0 h1).mono fun r H' ⟨e1,e2⟩=>⟨e1,by rw[e2,hU h0,hU h1]⟩
theorem wcm{P:Program}{f:FuncId}{args:List V}{H:List B}{K K':V→List B→Prop}(h:aR P f args H K)(hk:∀r H',K r H'→K' r H'):aK P (.fn f []) args H K':=by
 simp only[aK,kg];exact h.mono hk
theorem fZ{P:Program}{f:FuncId}{args:List V}{H Hf:List B}{r0:V}(h:aR P f args H fun r H'=>r=r0∧∃G,H'=Hf++G)(hl:H.length≤Hf.length)(hr:rb Hf.length r0)(hb:∀bl∈Hf,rbB Hf.length bl):aR P f args H fun r H'=>r=r0∧H'=Hf :=
 (conH_cutE (σ:=Unit) (ok:=fun _=>True) (rf:=fun _=>r0) (Hf:=fun _=>Hf) (h.mono fun r H' ⟨h1,h2⟩=>⟨(),trivial,h1,h2⟩) (fun _ _=>hl) (fun _ _=>hr) (fun _ _=>hb)).mono fun r H' ⟨_,_,h1,h2⟩=>⟨h1,h2⟩
theorem new_s(H:List B):aR Tryz.prog 26 [] H fun r H'=>r = .ptr H.length 0∧H'=H++[stB .nilS .nilS .nilS false .nilS]:=by
 refine aI tok Tryz.func26 rfl rfl ?_;refine wx ?_;simp -dsimp[Tryz.f26,aJ,stB]
theorem begin0(db dn ud nw:V)(D:B):aR Tryz.prog 18 [.ptr 0 0] [stB db dn ud false nw,D] fun r H'=>r = .int .i64 0∧H'=[stB db dn ud true nw,D]:=by
 refine aI tok Tryz.func18 rfl rfl ?_;refine wx ?_;simp -dsimp[Tryz.f18,aJ,stB]
theorem row_gL(H:List B)(id:Int)(vs:List Vl)(hc:aK Tryz.prog (.fn 89 []) [(.lst 3 false (vs.map aH))] (H++[B.cells [.int .i64 id,(.lst 3 false (vs.map aH))],B.cells [.int .i64 0,.nilS]]) fun r H'=>r = .buf (H.length+2) 0 vs.length vs.length∧H'=H++[B.cells [.int .i64 id,(.lst 3 false (vs.map aH))],B.cells [.int .i64 0,.nilS],B.buf 43 3 (vs.map aH) false]):
  aR Tryz.prog 74 [.agg [.int .i64 id,(.lst 3 false (vs.map aH))]] H fun x H'=>x = .agg [.int .i64 id,.buf (H.length+2) 0 vs.length vs.length]∧H'=H++cpB H.length id (.lst 3 false (vs.map aH)) vs false:=by
 refine aI tok Tryz.func74 rfl rfl ?_;refine wx ?_;simp -dsimp[Tryz.f74,aJ,ce,cd,dJ,dm,ec,eZ];refine aO (aX tok mixed [4,6] [(1,[1])] [(.buf (H.length+2) 0 vs.length vs.length,H++[B.cells [.int .i64 id,(.lst 3 false (vs.map aH))],B.cells [.int .i64 0,.nilS],B.buf 43 3 (vs.map aH) false])] (by kernel_rfl) fun C K hC hK=>?_);simp -implicitDefEqProofs [ce,cd,dJ,dm,ec,eZ];refine⟨hC _ _ _ _ hc,hK _ _ ?_⟩;simp -dsimp[ce,cd,dJ,dm,ec,eZ];simp[cpB]
theorem row_o(H:List B)(r:Rw)(hl:r.vals.length≤1000000):aR Tryz.prog 74 [aC r] H fun x H'=>x = .agg [.int .i64 r.id,.buf (H.length+2) 0 r.vals.length r.vals.length]∧H'=H++cpB H.length r.id (LV false r.vals) r.vals false :=
 row_gL H r.id r.vals (by
  have:=kI (H++[B.cells [.int .i64 r.id,LV false r.vals],B.cells [.int .i64 0,.nilS]]) r.vals hl
  simpa[kz,LV] using this)
structure InvOk (c:Ch):Prop where
 k:c.k=2∨c.k=3∨c.k=4
 a:c.k=4→0≤c.a∧c.a<c.row.vals.length
 l:c.row.vals.length≤1000000
theorem inv_u(c:Ch)(f g:Bool)(h:InvOk c):aL Tryz.prog 83 [aG f g c] fun r=>r=aG f g (iG c):=by
 obtain⟨hk,ha,hl⟩:=h;obtain⟨k,nm,tb,row,a,v⟩:=c;simp only at hk ha hl
 rcases hk with rfl | rfl | rfl
 ·have e:iG ⟨2,nm,tb,row,a,v⟩=⟨3,nm,tb,row,a,v⟩:=rfl;rw[e];refine sPx Tryz.func83 rfl rfl ?_;simp -dsimp[Tryz.f83,aJ,aG,chC]
 ·have e:iG ⟨3,nm,tb,row,a,v⟩=⟨2,nm,tb,row,a,v⟩:=rfl;rw[e];refine sPx Tryz.func83 rfl rfl ?_;simp -dsimp[Tryz.f83,aJ,aG,chC]
 ·obtain⟨h0,h1⟩:=ha rfl;obtain⟨b,rfl⟩:=Int.eq_ofNat_of_zero_le h0
  have hb:b<row.vals.length:=by omega
  have e:iG ⟨4,nm,tb,row,b,v⟩=⟨4,nm,tb,⟨row.id,row.vals.set b v⟩,b,row.vals[b]⟩:=by
   have e1:atV row.vals b=row.vals[b]:=by simp[atV,hb]
   unfold iG;simp[e1]
  rw[e];obtain⟨n,hn⟩:∃n,n=row.vals.length:=⟨_,rfl⟩;have hn':=hn.symm;obtain⟨o,ho⟩:∃o,o=row.vals[b]:=⟨_,rfl⟩;rw[←ho]
  have c1:=fun H=>row_o H row hl
  obtain⟨M,hM⟩:∃M,M=row.vals.map aH:=⟨_,rfl⟩
  have hMl:M.length=n:=by rw[hM,lG,hn]
  have hMb:M[b]?=some (.agg [.int .i64 o.k,.int .i64 o.n,.str o.s]):=by rw[hM,kv,kU hb,←ho];rfl
  have hMb':=cZ hMb
  have hset:M.set b (.agg [.int .i64 v.k,.int .i64 v.n,.str v.s])=(row.vals.set b v).map aH:=by rw[hM,nL];rfl
  have hMp:∀x∈M,AM.Pure x:=fun x hx=>by rw[hM]at hx;obtain⟨y,_,rfl⟩:=List.mem_map.1 hx;simp
  have hbn:b<n:=by omega
  simp only[cpB,aC,LV,hn',←hM]at c1;simp only[aG,chC,←hM];refine bp (aI tok Tryz.func83 rfl rfl ?_);refine wx ?_;simp -dsimp[Tryz.f83,aJ,hMl,hMb',hbn,aH];refine wcm (c1 _) ?_;rintro r H' ⟨rfl,rfl⟩;simp -dsimp[];refine aO (aX tok mixed [9,11] [(7,[1])] [] (by kernel_rfl) fun C K hC hK=>?_);simp -implicitDefEqProofs [hMl,hMb,hMb',hbn];refine hK _ _ ?_;simp -dsimp[]
  have hset2:M.set b (.agg [.int .i64 v.k,.int .i64 v.n,.str v.s])=(row.vals.map aH).set b (aH v):=by rw[hM];rfl
  have hsl:((row.vals.map aH).set b (aH v)).length=n:=by simp[hn]
  have hsp:∀x∈(row.vals.map aH).set b (aH v),AM.Pure x:=fun x hx=>by
   rcases lw hx with q | rfl
   ·obtain⟨y,_,rfl⟩:=List.mem_map.1 q;simp
   ·simp
  refine⟨.agg _ _ rfl (fun j c d hc hd=>?_),hsp⟩
  match j with
  | 6 =>
   simp only[lR,mC,Option.some.injEq]at hc hd;subst hc;subst hd;rw[hset2,←hsl];exact jw rfl rfl hsp
  | 0 | 1 | 2 | 3 | 4 | 5 | 7 | 8 | 9 | 10 =>
   simp at hc hd;subst hc;subst hd;exact .pure _ (by simp)
  | j+11=>simp at hc
theorem cloneNil_B:aL Tryz.prog 81 [.nilS] fun r=>r = .nilS:=by
 refine sPx Tryz.func81 rfl rfl ?_;simp -dsimp[Tryz.f81,aJ,iK,eqA]
def ft(t:Tb):Ch:=⟨1,t.name,t,⟨0,[]⟩,0,vl0⟩
structure TbL (t:Tb):Prop where
 ok:TbOk t
 a:t.attrs.length≤1000000
 r:t.rows.length≤1000000
 v:∀r∈t.rows,r.vals.length≤1000000
theorem creE_nil{t:Tb}(h:aF t=0):kF [] t=0:=by
 unfold kF;rw[if_pos h,if_neg,if_neg]
 ·simp
 ·rw[ixT];simp
theorem exp_db{H:List B}{k e:Nat}{x:V}{fz:Bool}(hk:H[k]?=some (.buf e 3 [x] fz))(hp:AM.Pure x):ExpX H (.tup [.agg [.buf k 0 1 1],.int .i64 0]) (.tup [.agg [.lst 3 false [x]],.int .i64 0]):=by
 refine .tup _ _ rfl (fun i c d hc hd=>?_)
 match i with
 | 0 =>
  simp at hc hd;subst hc;subst hd;refine .agg _ _ rfl (fun j c d hc hd=>?_)
  match j with
  | 0=>simp at hc hd;subst hc;subst hd;exact jw hk rfl (by simpa using hp)
  | k+1=>simp at hc
 | 1=>simp at hc hd;subst hc;subst hd;exact .pure _ (by simp)
 | k+2=>simp at hc
theorem apply_cre(t:Tb)(h:TbL t)(hv:aF t=0):aL Tryz.prog 82 [.agg [.nilS],aG false false (ft t)] fun x=>x = .tup [.agg [LTb false [t]],.int .i64 0]:=by
 have c1:=creates_s [] false t false false (by simp) h.ok;rw[creE_nil hv]at c1
 have c1':aL Tryz.prog 119 [.agg [.nilS],aD false false t] fun r=>r = .int .i64 0:=conP_args c1 rfl (fun i a b ha hb=>by
  match i with
  | 0 =>
   simp[LTb]at ha hb;subst ha;subst hb
   exact .agg _ _ rfl (fun j c d hc hd=>by
    match j with
    | 0=>simp at hc hd;subst hc;subst hd;exact .nil _ _
    | j+1=>simp at hc)
  | 1=>simp at ha hb;subst ha;subst hb;exact .refl _
  | i+2=>simp at ha)
 have c2:=fE t false false h.a h.r h.v;simp only[aD,LS,LR]at c1' c2;refine bp (aI tok Tryz.func82 rfl rfl ?_);refine wx ?_;simp -dsimp[Tryz.f82,aJ,aG,chC,ft,aD,LS,LR,LTb];refine cPx (c1') (by simp) ?_;simp -dsimp[];refine aO (aX tok mixed [7,9] [] [(.nilS,[]),(.agg [.str t.name,.lst 1 false (t.attrs.map V.str),.lst 2 false (t.rows.map aC)],[])] (by kernel_rfl) fun C K hC hK=>?_);simp -implicitDefEqProofs [];refine⟨⟨hC _ _ _ _ (aQ cloneNil_B (by simp)),hC _ _ _ _ (aQ c2 (by simp))⟩,hK _ _ ?_⟩;simp -dsimp[];exact exp_db rfl (by simp)
theorem commit1(db ud nw:V)(o f:Bool)(cs dl:List V)(hc:0<cs.length)(hd:dl.length≤1000000):aR Tryz.prog 57 [.ptr 0 0,.lst 11 f cs] [stB db (.buf 1 0 dl.length dl.length) ud o nw,dnS dl] fun r H'=>r = .tup []∧H'=[stB db (.buf 1 0 (dl.length+1) (dl.length+1)) .nilS o nw,dnS (dl++[.lst 11 f cs])]:=by
 obtain⟨n,hn⟩:∃n,n=dl.length:=⟨_,rfl⟩;rw[←hn]at hd ⊢;have hn':=hn.symm;refine aI tok Tryz.func57 rfl rfl ?_;refine wx ?_;simp -dsimp[Tryz.f57,aJ,stB,dnS,hc,show(0:Int)<cs.length by omega,hn',cap24 n (by omega)]
theorem perform_cre(t:Tb)(h:TbL t)(hv:aF t=0):aR Tryz.prog 59 [.ptr 0 0,aG false false (ft t)] [stB .nilS (.buf 1 0 0 0) .nilS false .nilS,dnS []] fun r H'=>r = .int .i64 0∧H'=[stB (LTb false [t]) (.buf 1 0 1 1) .nilS false .nilS,dnS [.lst 11 true [aG false false (ft t)]]]:=by
 refine fZ ?_ (by simp) (by simp) ?rb
 case rb=>exact StP.rb ⟨by simp,by simp,by simp,by simp,rfl,rfl,rfl,by simp[V.cells,V.one]⟩
 have c1:=apply_cre t h hv
 have c2:=fun G0 G1=>liftS (H:=[stB (LTb false [t]) (.buf 1 0 0 0) .nilS false .nilS,dnS [],G0,G1]) (k:=0) (L:=1) (commit1 (LTb false [t]) .nilS .nilS false true [aG false false (ft t)] [] (by simp) (by simp)) ⟨by simp,by simp,by simp,by simp,rfl,rfl,rfl,by simp⟩ ⟨by simp,by simp,by simp,by simp,rfl,rfl,rfl,by simp[V.cells,V.one]⟩ (by simp) (by simp) (by decide) rfl rfl
 simp only[aG,chC,ft,vl0,aD,LS,LR,LTb,stB,mO,lN,lQ,lE,lH,lD,lS]at c1 c2 ⊢;refine aI tok Tryz.func59 rfl rfl ?_;refine wx ?_;simp -dsimp[Tryz.f59,aJ];refine aO (aX tok mixed [9,10] [(0,[1]),(1,[1]),(2,[1]),(3,[1]),(4,[1]),(5,[1]),(6,[1]),(7,[1]),(8,[1,2])] [(.tup [.agg [.lst 3 false [.agg [.str t.name,.lst 1 false (t.attrs.map V.str),.lst 2 false (t.rows.map aC)]]],.int .i64 0],[])] (by kernel_rfl) fun C K hC hK=>?_);simp -implicitDefEqProofs [];refine⟨⟨hC _ _ _ _ (aQ c1 (by simp)),hC _ _ _ _ (aQ c1 (by simp))⟩,hK _ _ ?_⟩;simp -dsimp[];refine wcm (c2 _ _) ?_;rintro r H' ⟨rfl,rfl⟩;simp -dsimp[]
theorem le_cre{p a b c d:V} : ∀(i:Nat) x y,[p,.agg [.int .i64 1,a,b,c,d,.int .i64 0,.nilS,.int .i64 0,.int .i64 0,.int .i64 0,.str kV]][i]?=some x→[p,.agg [.int .i64 1,a,b,c,d,.int .i64 0,.lst 3 false [],.int .i64 0,.int .i64 0,.int .i64 0,.str kV]][i]?=some y→Le x y:=fun i x y hx hy=>by
 match i with
 | 0=>simp at hx hy;subst hx;subst hy;exact .refl _
 | 1 =>
  simp at hx hy;subst hx;subst hy;refine .agg _ _ rfl (fun j u v hu hv=>?_)
  match j with
  | 0=>simp at hu hv;subst hu;subst hv;exact .refl _
  | 1=>simp at hu hv;subst hu;subst hv;exact .refl _
  | 2=>simp at hu hv;subst hu;subst hv;exact .refl _
  | 3=>simp at hu hv;subst hu;subst hv;exact .refl _
  | 4=>simp at hu hv;subst hu;subst hv;exact .refl _
  | 5=>simp at hu hv;subst hu;subst hv;exact .refl _
  | 6=>simp at hu hv;subst hu;subst hv;exact .nil _ _
  | 7=>simp at hu hv;subst hu;subst hv;exact .refl _
  | 8=>simp at hu hv;subst hu;subst hv;exact .refl _
  | 9=>simp at hu hv;subst hu;subst hv;exact .refl _
  | 10=>simp at hu hv;subst hu;subst hv;exact .refl _
  | j+11=>simp at hu
 | i+2=>simp at hx
theorem create_s(t:Tb)(f g:Bool)(h:TbL t)(hv:aF t=0):aR Tryz.prog 27 [.ptr 0 0,aD f g t] [stB .nilS .nilS .nilS false .nilS] fun r H'=>r = .int .i64 0∧H'=[stB (LTb false [t]) (.buf 1 0 1 1) .nilS false .nilS,dnS [.lst 11 true [aG false false (ft t)]]]:=by
 refine fZ ?_ (by simp) (by simp) ?rb
 case rb=>exact StP.rb ⟨by simp,by simp,by simp,by simp,rfl,rfl,rfl,by simp[V.cells,V.one]⟩
 have c1:=fE t f g h.a h.r h.v
 have c2:=fun G0=>liftS (H:=[stB .nilS (.buf 1 0 0 0) .nilS false .nilS,dnS [],G0]) (k:=0) (L:=1) (perform_cre t h hv) ⟨by simp,by simp,by simp,by simp,rfl,rfl,rfl,by simp⟩ ⟨by simp,by simp,by simp,by simp,rfl,rfl,rfl,by simp[V.cells,V.one]⟩ (by simp) (by simp) (by decide) rfl rfl
 simp only[aG,chC,ft,vl0,aD,LS,LR,LTb,lE,lH,lD,lS]at c1 c2 ⊢;refine aI tok Tryz.func27 rfl rfl ?_;refine dW 25 1 [] 0 [1] rfl (cQ _ _) (by simp[stB]) ?_;refine wx ?_;simp -dsimp[Tryz.f27,aJ];refine .inl (aO (aX tok mixed [6] [] [(.agg [.str t.name,.lst 1 false (t.attrs.map V.str),.lst 2 false (t.rows.map aC)],[]),(.int .i64 0,[stB (.lst 3 false [.agg [.str t.name,.lst 1 false (t.attrs.map V.str),.lst 2 false (t.rows.map aC)]]) (.buf 1 0 1 1) .nilS false .nilS,dnS [.lst 11 true [.agg [.int .i64 1,.str t.name,.str t.name,.lst 1 false (t.attrs.map V.str),.lst 2 false (t.rows.map aC),.int .i64 0,.lst 3 false [],.int .i64 0,.int .i64 0,.int .i64 0,.str kV]]],B.cells [.str t.name,.lst 1 f (t.attrs.map V.str),.lst 2 g (t.rows.map aC)]])] (by kernel_rfl) fun C K hC hK=>?_));simp -implicitDefEqProofs [];refine⟨⟨hC _ _ _ _ (aQ c1 (by simp)),hC _ _ _ _ (jC (c2 _) rfl le_cre)⟩,hK _ _ ?_⟩;simp -dsimp[]
theorem tbs_rb(n e:Nat)(l:List Tb)(fz:Bool):rbB n (.buf e 3 (l.map (aD false false)) fz):=(cP (by simp) (by simp[aD,V.cells,LS,LR,V.one])).2 trivial
theorem db_s(ts:List Tb)(g:Bool)(m:Nat)(dl:List V)(ud nw:V)(o:Bool)(hl:ts.length≤1000000)(ht:∀t∈ts,TbL t)(p:StP (LTb g ts) ud nw dl):
  aR Tryz.prog 37 [.ptr 0 0] [stB (LTb g ts) (.buf 1 0 m m) ud o nw,dnS dl] fun r H'=>r = .agg [LTb false ts]∧H'=[stB (LTb g ts) (.buf 1 0 m m) ud o nw,dnS dl]:=by
 have hd:=p.pdl;have hd1:=p.odl;have hu:=p.pud;have hu1:=p.oud;have hw:=p.pnw;have hw1:=p.onw;refine fZ ?_ (by simp) (by simp[LTb]) p.rb;obtain⟨S,hS⟩:∃S,S=stB (LTb g ts) (.buf 1 0 m m) ud o nw:=⟨_,rfl⟩;obtain⟨D,hD⟩:∃D,D=dnS dl:=⟨_,rfl⟩;have hSe:S=B.cells [.lst 3 g (ts.map (aD false false)),.buf 1 0 m m,ud,.bool o,nw]:=hS;rw[←hS,←hD]
 have hrbS:∀n,2≤n→rbB n S:=fun n hn=>by
  rw[hS];intro c hc;simp only[kh,kf,or_false]at hc
  rcases hc with rfl | rfl | rfl | rfl | rfl
  ·simp[LTb,rb1]
  ·show 1<n;omega
  ·exact bS hu hu1
  ·simp[rb1]
  ·exact bS hw hw1
 have hrbD:∀n,rbB n D:=fun n=>by rw[hD];exact(cP hd hd1).2 trivial
 refine aI tok Tryz.func37 rfl rfl ?_;refine wx ?_;simp -dsimp[Tryz.f37,aJ,hSe];refine aO (dW 29 3 [] 3 [0] rfl (cQ _ _) (by simp) (W_loopM 24 0xfff020 (by simp[mB]<;>rfl) (σ:=Nat) (fun i=>i≤ts.length) (fun i=>ts.length-i) (fun i=>[(12,.int .i64 i)]) (fun i=>[S,D,B.cells [.nilS],B.cells [.buf 4 0 i i],B.buf 29 3 ((ts.take i).map (aD false false)) false]) 0 (by omega) (by simp) (by simp[hSe]) (by simp) ?_));intro i hi N Q hN hQ
 have hli:(ts.take i).length=i:=by simp;omega
 by_cases hb:i<ts.length
 ·have hst:ts.take (i+1)=ts.take i++[ts[i]]:=kn hb;have hh:=ht _ (kZ hb);obtain⟨t,hte⟩:∃t,t=ts[i]:=⟨_,rfl⟩;rw[←hte]at hst hh;have hc:=fE t false false hh.a hh.r hh.v;simp only[aD,LS,LR]at hc;obtain⟨l,hl2⟩:∃l,l=ts.take i:=⟨_,rfl⟩;rw[←hl2]at hst hli ⊢;refine wx ?_;simp -dsimp[hb,hte.symm,aD,LS,LR];refine aO (aX tok mixed [5,7] [] [(aD false false t,[])] (by kernel_rfl) fun C K hC hK=>?_);simp -implicitDefEqProofs [hb,aD,LS,LR,hli,cap64c i (by omega)];refine⟨hC _ _ _ _ (aQ hc (by simp)),hK _ _ ?_⟩;simp -dsimp[aT i (by omega)];refine hN (i+1) _ _ (by omega) (by omega) (by simp) ⟨[B.cells [.str t.name,.lst 1 false (t.attrs.map V.str),.lst 2 false (t.rows.map aC)]],by simp[hst,aD,LS,LR]⟩ (by simp) ?_;intro bl hbl;simp only[kh,kf,or_false]at hbl
  rcases hbl with rfl | rfl | rfl | rfl | rfl
  ·exact hrbS _ (by simp)
  ·exact hrbD _
  ·simp
  ·simp
  ·exact tbs_rb _ _ _ _
 ·obtain rfl:i=ts.length:=by omega
  rw[ku];refine gD 4 [] 3 [0] rfl rfl (by simp) (by simp) ?_;refine wx ?_;simp -dsimp[hb];refine hQ _ _ _ ?_;simp -dsimp[];rfl
structure Tx where
 f:Bool
 l:List Ch
def aj(x:Tx):V:=.lst 11 x.f (x.l.map (aG false false))
@[simp] theorem encTx_pure (x:Tx):AM.Pure (aj x):=by simp[aj]
def jrL(xs:List Tx):List Ch:=xs.flatMap (·.l)
structure ChL (c:Ch):Prop where
 t:TbL c.tb
 v:c.row.vals.length≤1000000
theorem capG(n:Nat)(h:n≤1000000):n≤9223372036854775806∧(n+1)*160≤140737488355328:=by omega
theorem jr_take{xs:List Tx}{i:Nat}(h:i<xs.length):jrL (xs.take (i+1))=jrL (xs.take i)++xs[i].l:=by
 unfold jrL;rw[kn h,mn];simp
theorem jr_len{xs:List Tx}{i:Nat} : (jrL (xs.take i)).length≤(jrL xs).length:=by
 have h:jrL xs=jrL (xs.take i)++jrL (xs.drop i):=by
  unfold jrL;rw[←mn,ld]
 rw[h,kq];omega
theorem jr_len2{xs:List Tx}{i:Nat}(h:i<xs.length):(jrL (xs.take i)).length+xs[i].l.length≤(jrL xs).length:=by
 have:=jr_len (xs:=xs) (i:=i+1);rw[jr_take h,kq]at this;exact this
theorem chs_rb(n e:Nat)(l:List Ch)(fz:Bool):rbB n (.buf e 11 (l.map (aG false false)) fz):=(cP (by simp) (by simp[aG,chC,V.cells,V.one])).2 trivial
theorem enters_of{P:Program}{f:FuncId}{fn:Func}(hf:P.funcs[f]?=some fn)(hb:fn.body.isNone=false)(hn:(fn.name == "runtime.NumGoroutine")=false)(args:Array Value)(w:World):(callFunc f args).run P w = .ok (.enter f args) w:=by
 have h1:¬fn.name = "runtime.NumGoroutine":=by simpa using hn
 have h2:¬fn.body=none:=by intro h;rw[h]at hb;cases hb
 simp[callFunc,go_sem,hf,h1,h2]
theorem ja{H:List B}(h:∀b∈H,∀kk es,b≠.map kk es):NoMap H:=fun k kk es hk=>h _ (kW hk) kk es rfl
theorem back_mk(H:List B)(f:Bool)(xs:List V):aR Tryz.prog 80 [.lst 11 f xs] H fun r H'=>r = .fn 118 [.ptr H.length 0]∧H'=H++[.cells [.lst 11 f xs]]:=by
 refine aI tok Tryz.func80 rfl rfl ?_;refine wx ?_;simp -dsimp[Tryz.f80,aJ]
theorem revert_nil0(H:List B)(k:Nat)(f:Bool)(hH:∀bl∈H,rbB H.length bl)(hnm:∀b∈H,∀kk es,b≠.map kk es)(hk:k<H.length):aR Tryz.prog 42 [.ptr k 0,.lst 11 f []] H fun r H'=>r = .tup []∧H'=H++[.cells [.ptr k 0]]:=by
 have hb1:=back_mk (H++[.cells [.ptr k 0]]) f []
 have hln:(H++[B.cells [.ptr k 0]]).length=H.length+1:=by simp
 refine kH tok (f:=42) (gf:=118) (z:=11) Tryz.func42 rfl rfl rfl (by decide) (enters_of Tryz.func118 rfl rfl)
  ((((([V.ptr k 0,V.lst 11 f []]++aJ 42 (V.tup [])).set 2 (V.ptr H.length 0)).set 6 (V.lst 11 f [])).set 7 (V.fn 118 [V.ptr (H.length+1) 0])))
  ((((([V.ptr k 0,V.lst 11 f []]++aJ 42 (V.tup [])).set 2 (V.ptr H.length 0)).set 6 (V.lst 11 f [])).set 7 V.undef))
  ?less (fun _=>H++[.cells [.ptr k 0]]) (fun _=>[]) (fun _=>[]) [] f 0 rfl ?head ?hg ?hl ?rb0 (fun _ _=>?rb) (fun _ _=>rfl) (fun _ _=>ja ?nm) (fun k hk=>absurd hk (by omega)) (by simp) ?it (fun k hk=>absurd hk (by omega)) (fun k hk=>absurd hk (by omega))
 case less=>simp[aJ]
 case head =>
  refine wx ?_;simp -dsimp[Tryz.f42,aJ];refine wx ?_;simp -dsimp;refine wcm hb1 ?_;rintro r H' ⟨rfl,rfl⟩;simp -dsimp
 case hg=>simp[aJ]
 case hl=>simp
 case rb0 =>
  simp[aJ];omega
 case rb =>
  intro bl hbl
  rcases List.mem_append.1 hbl with h | h
  ·exact gQ (by simp) (hH bl h)
  ·simp only[mR]at h;subst h;intro c hc;simp only[mR]at hc;subst hc;show k<_;simp;omega
 case nm =>
  intro b hb kk es
  rcases List.mem_append.1 hb with h | h
  ·exact hnm b h kk es
  ·simp only[mR]at h;subst h;simp
 case it =>
  intro Bs b off cap us w h1 h2 h3 _ _
  rcases h3 with h3 | ⟨_,A,h3⟩
  ·rw[if_pos rfl]at h3;exact back_nil Bs b us none cap w h1 h3
  ·exact back_nil Bs b us A cap w h1 h3
section
theorem cut1p{P:Program}{f:FuncId}{args:List V}{H Hf:List B}{r0:V}(h:aR P f args H fun r H'=>r=r0∧∃G,H'=Hf++G)(hl:H.length≤Hf.length)(hp:AM.Pure r0)(hb:∀bl∈Hf,rbB Hf.length bl):aR P f args H fun r H'=>r=r0∧H'=Hf:=by
 refine⟨h.1,fun s vals h1 h2 h3 h4=>(h.2 s vals h1 h2 h3 h4).mono fun e w' ⟨u,s',r,a,b,c,d,e1,k1,G,k3⟩=>?_⟩;subst k1;exact⟨u,s'.cut Hf,r,a,b,dq c k3 hb,dK c k3 (Step.refl _) s d (by rw[h1.1];exact hl),Rel.pure_ e1 hp (fun b hb=>⟨bt k3 hb,rfl⟩),rfl,rfl⟩
def zT0:V:=.agg [.str kV,.nilS,.nilS]
section
variable {nm:ByteArray} {db ud:V} {m:Nat} {o:Bool} {dl:List V} {e:Int}
end
end
theorem cbeg_ok(t:Tb)(ud:V)(m:Nat)(dl:List V)(ht:TbL t)(p:StP (LTb false [t]) ud .nilS dl):aR Tryz.prog 28 [.ptr 0 0,.str t.name] [stB (LTb false [t]) (.buf 1 0 m m) ud false .nilS,dnS dl] fun r H'=>r = .tup [aD false false t,.int .i64 0]∧H'=[stB (LTb false [t]) (.buf 1 0 m m) ud true .nilS,dnS dl]:=by
 refine cut1p ?_ (by simp) (by simp) p.rb
 have c1:=fun G=>liftS (H:=[stB (LTb false [t]) (.buf 1 0 m m) ud false .nilS,dnS dl,G]) (k:=0) (L:=1) (begin0 (LTb false [t]) (.buf 1 0 m m) ud .nilS (dnS dl)) p p (by simp) (by simp) (by decide) rfl rfl
 have c2:=fun G=>liftS0 (H:=[stB (LTb false [t]) (.buf 1 0 m m) ud true .nilS,dnS dl,G]) (k:=0) (L:=1) (db_s [t] false m dl ud .nilS true (by simp) (fun u hu=>by simp at hu;subst hu;exact ht) p) p (by simp) (by simp[LTb]) (by decide) rfl rfl
 obtain⟨S,hS⟩:∃S,S=stB (LTb false [t]) (.buf 1 0 m m) ud false .nilS:=⟨_,rfl⟩;obtain⟨S1,hS1⟩:∃S,S=stB (LTb false [t]) (.buf 1 0 m m) ud true .nilS:=⟨_,rfl⟩;obtain⟨D,hD⟩:∃D,D=dnS dl:=⟨_,rfl⟩
 have hrb1:∀n,2≤n→rbB n S1:=fun n hn=>gQ hn (by rw[hS1];exact p.rb (m:=m) (o:=true) _ (by simp))
 have hrbD:∀n,2≤n→rbB n D:=fun n hn=>gQ hn (by rw[hD];exact p.rb (m:=m) (o:=true) _ (by simp))
 simp only[←hS,←hS1,←hD]at c1 c2 ⊢;simp only[lE,lH]at c1;refine aI tok Tryz.func28 rfl rfl ?_;refine wx ?_;simp -dsimp[Tryz.f28,aJ,zT0];refine wcm (c1 _) ?_;rintro r H' ⟨rfl,rfl⟩;simp -dsimp[];refine wcm (c2 _) ?_;rintro r H' ⟨rfl,rfl⟩;simp -dsimp[LTb];refine aO (W_loopM 29 0x1ff80120 (by simp[mB]<;>rfl) (σ:=Unit) (fun _=>True) (fun _=>0) (fun _=>[(19,.int .i64 0)]) (fun _=>[S1,D,B.cells [.str kV,.nilS,.nilS]]) () trivial (by simp) rfl (by simp) ?_);rintro⟨⟩ _ N Q hN hQ;refine wx ?_;simp -dsimp[aD,LS,LR];refine hQ _ _ _ ?_;simp -dsimp[]
 all_goals first | rfl | exact⟨rfl,rfl⟩ | simp[aD,LS,LR]
theorem wce{P:Program}{f:FuncId}{args:List V}{H H0:List B}{r0:V}{K:V→List B→Prop}(h:aR P f args H fun r H'=>r=r0∧H'=H0)(hk:K r0 H0):aK P (.fn f []) args H K :=
 wcm h fun _ _ hh=>hh.1▸hh.2▸hk
def txC(t:Tb):List Tx:=[⟨true,[ft t]⟩]
theorem stP_c(t:Tb):StP (LTb false [t]) .nilS .nilS ((txC t).map aj):=⟨by simp,by simp,by simp,by simp[txC],rfl,rfl,rfl,by simp[txC,aj,V.cells,V.one]⟩
theorem same_e:aL Tryz.prog 40 [.lst 11 false (([]:List Ch).map (aG false false)),.nilS] fun r=>r = .bool true:=by
 refine sPx Tryz.func40 rfl rfl ?_;simp -dsimp[Tryz.f40,aJ];refine aO (W_loopM 27 0x7fff830 (by simp[mB]<;>rfl) (σ:=Unit) (fun _=>True) (fun _=>0) (fun _=>[(5,.int .i64 0)]) (fun _=>[]) () trivial (by simp) rfl (by simp) ?_);rintro⟨⟩ _ N Q hN hQ;refine wx ?_;simp -dsimp[];refine hQ _ _ _ ?_;simp -dsimp[]
def stC(t:Tb)(L:Nat)(o:Bool):B:=stB (LTb false [t]) (.buf L 0 1 1) .nilS o .nilS
def dnC(t:Tb):B:=dnS ((txC t).map aj)
theorem tbL_of{t:Tb}(h:TbS t)(hv:aF t=0):TbL t:=⟨h.ok,by have:=(tbC hv).wide;omega,by have:=h.few;omega,fun r hr=>by have:=(tbC hv).len r hr;have:=(tbC hv).wide;omega⟩
end
end Go.Proofs.YtpedcgdgjoblkaaGreatDoor
