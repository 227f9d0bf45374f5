/- JA18: own texts of this seat, joined and shortened by pack4.py: PB, TA, StA, Bk, UB, ST0, ST1, UC, ST2, ST3, ST4, ST5, SK, ST6a, ClW. -/
import Derived.Test.YtpedcgdgjoblkaaGreatDoorJA12
import Derived.Test.YtpedcgdgjoblkaaGreatDoorJA15
import Derived.RangeFuncBox
import Derived.WalkKit
import Derived.OwnWalkIn
import Derived.TacticsInMore
import Derived.LoopNIn
import Derived.LoopIn
import Derived.Deep.MidRow
import Derived.WalkSpells
import Derived.WalkLawsBesides
import Derived.Lib.Hide
import Derived.Maps.AppendAt
set_option linter.unusedVariables false
set_option linter.unusedSimpArgs false
set_option maxRecDepth 100000
set_option maxHeartbeats 64000000
open ByteArray renaming empty→kI
open Int renaming eq_ofNat_of_zero_le→mQ
open List renaming replicate→aI,getElem?_eq_getElem→kJ,mem_of_getElem?→kK,getElem?_append_left→kL,getElem_mem→kN,getElem?_append_right→kO,getElem?_set_ne→kP,range→kQ,not_mem_nil→kS,getElem?_set_self→kW,append_nil→kX,take_succ_eq_append_getElem→kY,mem_cons→kZ,getElem?_map→kb,length_map→kh,take_length→km,set_cons_zero→kn,set_cons_succ→ko,getElem?_cons_succ→kp,length_append→kr,append_assoc→kv,length_cons→kw,take_append_drop→lA,nil_append→lD,take_of_length_le→lE,map_cons→lH,map_nil→lU,getElem?_cons_zero→lj,cons_append→lp,mem_or_eq_of_mem_set→ly,mem_singleton→mA,length_nil→mK,take→mL,flatMap_append→mZ,size_toArray→mf,map_set→nA
open Nat renaming le_refl→kM,zero_add→ky,zero_le→mV
section
namespace Go.AM
open Go
section
variable {P:Program} {T:Ty}
end
end Go.AM
namespace Go.Proofs.YtpedcgdgjoblkaaGreatDoor
open Go Go.AM
theorem ei(H X:List B):(H++X)[H.length]?=X[0]?:=by rw[kO (kM _)];simp
theorem jf(H X:List B):(H++X)[H.length+1]?=X[1]?:=by rw[kO (by omega)];congr 1;omega
theorem getX2(H X:List B):(H++X)[H.length+2]?=X[2]?:=by rw[kO (by omega)];congr 1;omega
theorem iL(H X:List B)(Y:B):(H++X).set H.length Y=H++X.set 0 Y:=by rw[List.set_append_right _ _ (kM _)];simp
theorem iK(H X:List B)(Y:B):(H++X).set (H.length+1) Y=H++X.set 1 Y:=by rw[List.set_append_right _ _ (by omega)];congr 2;omega
theorem bB{α:Type}{l:List α}{i:Nat}{a:α}(h:l[i]?=some a):∀q,l[i]'q=a:=fun q=>by rw[kJ q]at h;exact Option.some.inj h
theorem eh(H X:List B)(A:B):∀h,(H++A::X)[H.length]'h=A:=bB (by rw[ei];rfl)
theorem ef(H X:List B)(A A1:B):∀h,(H++A::A1::X)[H.length+1]'h=A1:=bB (by rw[jf];rfl)
def cpB(L:Nat)(id:Int)(a:V)(vs:List Vl)(fz:Bool):List B:=[B.cells [.int .i64 id,a],B.cells [.int .i64 id,.buf (L+2) 0 vs.length vs.length],B.buf 43 3 (vs.map aJ) fz]
theorem clone_at(H:List B)(vs:List Vl)(hl:vs.length≤1000000):aM Tryz.prog (.fn 89 []) [.lst 3 false (vs.map aJ)] H fun r H'=>r = .buf H.length 0 vs.length vs.length∧H'=H++[B.buf 43 3 (vs.map aJ) false] :=
 (gX (H:=H) (cloneO_V vs false hl) (by simp)).mono (by
  rintro r H' ⟨e,z,xs,rfl,rfl,_,rfl,rfl,rfl⟩
  simp)
end Go.Proofs.YtpedcgdgjoblkaaGreatDoor
end
namespace Go.Proofs.YtpedcgdgjoblkaaGreatDoor
section
open Go Go.AM
theorem row_s(r:Rw)(hl:r.vals.length≤1000000):aK Tryz.prog 74 [aC r] fun x=>x=aC r:=by
 have cc:=clone_V r.vals false hl;simp only[LV]at cc;refine sPx Tryz.func74 rfl rfl ?_;simp -dsimp[Tryz.f74,aI,aC,LV];refine aO (aS tok mixed [6] [] [(.lst 3 false (r.vals.map aJ),[])] (by kernel_rfl) fun C K hC hK=>?_);simp -implicitDefEqProofs [];refine⟨hC _ _ _ _ (aP cc (by simp)),hK _ _ ?_⟩;simp -dsimp[];rfl
theorem jw(r:Rw)(hl:r.vals.length≤1000000):aK Tryz.prog 112 [aC r] fun x=>x=aC r:=by
 have cc:=clone_V r.vals false hl;simp only[LV]at cc;refine sPx Tryz.func112 rfl rfl ?_;simp -dsimp[Tryz.f112,aI,aC,LV];refine aO (aS tok mixed [6] [] [(.lst 3 false (r.vals.map aJ),[])] (by kernel_rfl) fun C K hC hK=>?_);simp -implicitDefEqProofs [];refine⟨hC _ _ _ _ (aP cc (by simp)),hK _ _ ?_⟩;simp -dsimp[];rfl
theorem dY(t:Tb)(f g:Bool)(ha:t.attrs.length≤1000000)(hr:t.rows.length≤1000000)(hv:∀r∈t.rows,r.vals.length≤1000000):aK Tryz.prog 60 [aD f g t] fun x=>x=aD false false t:=by
 have cc:=iy t.attrs f ha;simp only[LS]at cc;refine sPx Tryz.func60 rfl rfl ?_;simp -dsimp[Tryz.f60,aI,aD,LS,LR];refine aO (aS tok mixed [6,7] [(0,[1]),(1,[1]),(2,[1]),(3,[1]),(4,[1]),(5,[1])] [(.lst 1 false (t.attrs.map V.str),[])] (by kernel_rfl) fun C K hC hK=>?_);simp -implicitDefEqProofs [];refine⟨⟨hC _ _ _ _ (aP cc (by simp)),hC _ _ _ _ (aP cc (by simp))⟩,hK _ _ ?_⟩;simp -dsimp[];refine aO (cO 41 2 [] 2 [2] rfl (bu _ _) (by simp) (W_loopM 27 0x7ff8c20 (by simp[mB]<;>rfl) (σ:=Nat) (fun i=>i≤t.rows.length) (fun i=>t.rows.length-i) (fun i=>[(15,.int .i64 i)]) (fun i=>[B.cells [.str t.name,.lst 1 f (t.attrs.map V.str),.lst 2 g (t.rows.map aC)],B.cells [.str kI,.nilS,.nilS],B.cells [.str t.name,.lst 1 false (t.attrs.map V.str),.buf 3 0 i i],B.buf 41 2 ((t.rows.take i).map aC) false]) 0 (by omega) (by simp) (by simp) (by simp) ?_));intro i hi N Q hN hQ
 have hli:(t.rows.take i).length=i:=by simp;omega
 by_cases hb:i<t.rows.length
 ·have hst:t.rows.take (i+1)=t.rows.take i++[t.rows[i]]:=kY hb;have hc:=row_s t.rows[i] (hv _ (kN hb));obtain⟨l,hl⟩:∃l,l=t.rows.take i:=⟨_,rfl⟩;rw[←hl]at hst hli ⊢;refine wx ?_;simp -dsimp[hb];refine aO (aS tok mixed [5,7] [] [(aC t.rows[i],[])] (by kernel_rfl) fun C K hC hK=>?_);simp -implicitDefEqProofs [hb,aC,LV,hli,ew i (by omega)];refine⟨hC _ _ _ _ (aP hc (by simp)),hK _ _ ?_⟩;simp -dsimp[aX i (by omega)];refine hN (i+1) _ _ (by omega) (by omega) ?_ ⟨[B.cells [.int .i64 t.rows[i].id,.lst 3 false (t.rows[i].vals.map aJ)]],?_⟩ ?_ ?_<;>simp[or_imp,forall_and,L1,cW,hst,aC,LV]
 ·obtain rfl:i=t.rows.length:=by omega
  rw[km];refine fm 3 [] 2 [2] rfl rfl (by simp) (by simp) ?_;refine wx ?_;simp -dsimp[hb];refine hQ _ _ _ ?_;simp -dsimp[];simp only[aD,LS,LR]
theorem gV{P:Program}{f:FuncId}{args args':List V}{H:List B}{K:V→List B→Prop}(h:aT P f args' H K)(hl:args.length=args'.length)(hle:∀(i:Nat) a b,args[i]?=some a→args'[i]?=some b→Le a b):aT P f args H K :=
 ⟨h.1,fun s vals h1 h2 h3 h4=>h.2 s vals h1 h2 (h3.trans hl) (fun i b u hb hu=>by
  have hi:=aB hb;have ha:args[i]?=some (args[i]'(by omega)):=kJ (by omega)
  exact(hle i _ b ha hb).rel (h4 i _ u ha hu))⟩
end
end Go.Proofs.YtpedcgdgjoblkaaGreatDoor
namespace Go.Proofs.YtpedcgdgjoblkaaGreatDoor
section
open Go Go.AM Go.RowKit
attribute [local go_sem] Oper.semAt_some
theorem back_nil(Bs b:Nat)(us:Nat→Nat→Value)(A:Option Addr)(cap:Nat)(w:World)(hB:Bs<w.heap.size)(hc:w.cell? ⟨Bs,0,none⟩=some (.slice A 0 cap)):
  SeqIx Fence.wide 19 Tryz.prog 118 #[.pointer (some ⟨Bs,0,none⟩)] (fun k=>#[.int .i64 ((0-1-k:Nat):Int),.agg ((kQ 11).map (us (0-1-k))).toArray]) (KpS fun x=>x=Bs∨x=b) 0 w:=by
 intro l J W hW hJ hY h0;have hBs:W.cell? ⟨Bs,0,none⟩=some (.slice A 0 cap):=(hW.cell (p:=⟨Bs,0,none⟩) hB).trans hc;clear hY hJ;refine callsIn_of_wp Tryz.func118 rfl trivial ?_ rfl;simp only[Tryz.ntmps118,mf,kw,mK,Nat.reduceAdd,Nat.reduceSub,Array.replicate_succ,Array.replicate_zero,List.push_toArray,List.append_toArray,lD,lp]
 gi_wp2
 gi_loopw [3] (fun i wr=>i = .int .i64 (-1)∧J 0 wr) (fun _ _=>0)
 case atStart=>exact⟨rfl,h0⟩
 case round =>
  obtain⟨rfl,hJs⟩:=hrel
  gi_wp2
  go_end0
  exact⟨⟨_,rfl⟩,hJs⟩
attribute [local go_sem] Oper.semAt_some
theorem back_ix(N Bs b off cap:Nat)(us:Nat→Nat→Value)(w:World)(hN:N≤1000000)(hB:Bs<w.heap.size)(hb:b<w.heap.size)(hc:w.cell? ⟨Bs,0,none⟩=some (.slice (some ⟨b,off,none⟩) N cap))
  (hce:∀i,i<N→∀j,j<11→w.cell? ⟨b,off+i*11+j,none⟩=some (us i j)):
  SeqIx Fence.wide 19 Tryz.prog 118 #[.pointer (some ⟨Bs,0,none⟩)] (fun k=>#[.int .i64 ((N-1-k:Nat):Int),.agg ((kQ 11).map (us (N-1-k))).toArray]) (KpS fun x=>x=Bs∨x=b) N w:=by
 intro l J W hW hJ hY h0;have hBs:W.cell? ⟨Bs,0,none⟩=some (.slice (some ⟨b,off,none⟩) N cap):=(hW.cell (p:=⟨Bs,0,none⟩) hB).trans hc
 have hcs:∀i,i<N→∀j,j<11→W.cell? ⟨b,off+i*11+j,none⟩=some (us i j):=fun i hi j hj=>(hW.cell (p:=⟨b,off+i*11+j,none⟩) hb).trans (hce i hi j hj)
 refine callsIn_of_wp Tryz.func118 rfl trivial ?_ rfl;simp only[Tryz.ntmps118,mf,kw,mK,Nat.reduceAdd,Nat.reduceSub,Array.replicate_succ,Array.replicate_zero,List.push_toArray,List.append_toArray,lD,lp]
 gi_wp2
 gi_loopw [3] (fun i wr=>∃k:Nat,k≤N∧i = .int .i64 ((N:Int)-1-k)∧J k wr∧KpS (fun x=>x=Bs∨x=b) W wr) (fun i _=>(intOf i+1).toNat)
 case atStart=>exact⟨0,mV _,by simp,h0,fun x _=>rfl⟩
 case round =>
  obtain⟨k,hk,rfl,hJs,hkp⟩:=hrel
  have hBr:wr.cell? ⟨Bs,0,none⟩=some (.slice (some ⟨b,off,none⟩) N cap):=by rw[World.cell?_of_block (hkp Bs (.inl rfl))];exact hBs
  by_cases hlt:k<N
  ·obtain⟨fn,tmps,assign,body,hy,hR⟩:=hY k wr hJs hlt;obtain⟨q,hq⟩:∃q:Nat,(N:Int)-1-k=(q:Int)∧q<N∧N-1-k=q:=⟨N-1-k,by omega,by omega,rfl⟩;rw[hq.1];rw[hq.2.2]at hy
   have hat:∀j,j<11→wr.cell? ⟨b,off+q*11+j,none⟩=some (us q j):=fun j hj=>by
    rw[World.cell?_of_block (hkp b (.inr rfl))];exact hcs q hq.2.1 j hj
   have d0:wr.cell? ⟨b,off+q*11,none⟩=some (us q 0):=hat 0 (by omega);have d1:wr.cell? ⟨b,off+q*11+1,none⟩=some (us q 1):=hat 1 (by omega);have d2:wr.cell? ⟨b,off+q*11+2,none⟩=some (us q 2):=hat 2 (by omega);have d3:wr.cell? ⟨b,off+q*11+3,none⟩=some (us q 3):=hat 3 (by omega);have d4:wr.cell? ⟨b,off+q*11+4,none⟩=some (us q 4):=hat 4 (by omega);have d5:wr.cell? ⟨b,off+q*11+5,none⟩=some (us q 5):=hat 5 (by omega);have d6:wr.cell? ⟨b,off+q*11+6,none⟩=some (us q 6):=hat 6 (by omega);have d7:wr.cell? ⟨b,off+q*11+7,none⟩=some (us q 7):=hat 7 (by omega);have d8:wr.cell? ⟨b,off+q*11+8,none⟩=some (us q 8):=hat 8 (by omega);have d9:wr.cell? ⟨b,off+q*11+9,none⟩=some (us q 9):=hat 9 (by omega);have d10:wr.cell? ⟨b,off+q*11+10,none⟩=some (us q 10):=hat 10 (by omega);have h11:(kQ 11).map (us q)=[us q 0,us q 1,us q 2,us q 3,us q 4,us q 5,us q 6,us q 7,us q 8,us q 9,us q 10]:=rfl;rw[h11]at hy;clear hat;clear hcs hce hBs hW hc
   gi_wp2
   refine hR.mono ?_;rintro e W3 ⟨rfl,hJ3,hk3⟩
   gi_wp2
   go_roundw
   case rel=>exact⟨k+1,by omega,by first | (simp;done) | (simp;omega),hJ3,fun x hx=>(hk3 x hx).trans (hkp x hx)⟩
   case measure=>first | (simp[intOf];done) | (simp[intOf];omega)
  ·obtain rfl:k=N:=by omega
   gi_wp2
   go_end0
   exact⟨⟨_,rfl⟩,hJs⟩
end
end Go.Proofs.YtpedcgdgjoblkaaGreatDoor
namespace Go.Proofs.YtpedcgdgjoblkaaGreatDoor
section
open Go Go.AM
def g2(k L:Nat)(i:Nat):Nat:=if i=0 then k else L
theorem lift2{P:Program}{f:FuncId}{args0 args:List V}{A0 A1 B0 B1 C0 C1 D0 D1:B}{r0:V}{H:List B}{k L:Nat}(h:aT P f args0 [A0,A1] fun r H'=>r=r0∧H'=[C0,C1])
  (hkL:k≠L) (h0:H[k]?=some B0) (h1:H[L]?=some B1) (R0:RenB (g2 k L) 2 A0 B0) (R1:RenB (g2 k L) 2 A1 B1) (S0:RenB (g2 k L) 2 C0 D0) (S1:RenB (g2 k L) 2 C1 D1)
  (hal:args0.length=args.length) (ha:∀(i:Nat) a b,args0[i]?=some a→args[i]?=some b→Ren (g2 k L) 2 a b) (hr:AM.Pure r0):aT P f args H fun r H'=>r=r0∧H'=(H.set k D0).set L D1:=by
 have hk:=aB h0;have hL:=aB h1;refine fN 2 2 (g2 k L) h rfl rfl (kM _) (fun i j hi hj e=>?_) (fun i hi=>?_) (fun i h1 h2=>absurd h1 (by omega)) (fun i b hb=>?_) (fun i b hb=>?_) (by simp) (fun j hj hno=>?_) hal ha hr
 ·match i,j,hi,hj with
  | 0,0,_,_=>rfl
  | 0,1,_,_=>simp[g2]at e;exact absurd e hkL
  | 1,0,_,_=>simp[g2]at e;exact absurd e.symm hkL
  | 1,1,_,_=>rfl
 ·match i,hi with
  | 0,_=>exact hk
  | 1,_=>exact hL
 ·match i with
  | 0=>simp at hb;subst hb;exact⟨_,h0,R0⟩
  | 1=>simp at hb;subst hb;exact⟨_,h1,R1⟩
  | i+2=>simp at hb
 ·match i with
  | 0 =>
   simp at hb;subst hb;exact⟨D0,by show((H.set k D0).set L D1)[k]?=_;rw[kP (Ne.symm hkL),kW hk],S0⟩
  | 1 =>
   simp at hb;subst hb;exact⟨D1,by show((H.set k D0).set L D1)[L]?=_;rw[kW (by simpa using hL)],S1⟩
  | i+2=>simp at hb
 ·have n0:k≠j:=hno 0 (by omega);have n1:L≠j:=hno 1 (by omega);rw[kP n1,kP n0]
def g12(k n:Nat)(i:Nat):Nat:=if i=0 then k else n
theorem lift12{P:Program}{f:FuncId}{args0 args:List V}{A0 B0 C0 C1 D0 D1:B}{r0:V}{H:List B}{k:Nat}(h:aT P f args0 [A0] fun r H'=>r=r0∧H'=[C0,C1])
  (h0:H[k]?=some B0) (R0:RenB (g12 k H.length) 1 A0 B0) (S0:RenB (g12 k H.length) 2 C0 D0) (S1:RenB (g12 k H.length) 2 C1 D1)
  (hal:args0.length=args.length) (ha:∀(i:Nat) a b,args0[i]?=some a→args[i]?=some b→Ren (g12 k H.length) 1 a b) (hr:AM.Pure r0):aT P f args H fun r H'=>r=r0∧H'=H.set k D0++[D1]:=by
 have hk:=aB h0;refine fN 1 2 (g12 k H.length) h rfl rfl (by omega) (fun i j hi hj e=>?_) (fun i hi=>?_) (fun i h1 h2=>?_) (fun i b hb=>?_) (fun i b hb=>?_) (by simp) (fun j hj hno=>?_) hal ha hr
 ·match i,j,hi,hj with
  | 0,0,_,_=>rfl
  | 0,1,_,_=>simp[g12]at e;omega
  | 1,0,_,_=>simp[g12]at e;omega
  | 1,1,_,_=>rfl
 ·match i,hi with
  | 0,_=>exact hk
 ·match i,h1,h2 with
  | 1,_,_=>simp[g12]
 ·match i with
  | 0=>simp at hb;subst hb;exact⟨_,h0,R0⟩
  | i+1=>simp at hb
 ·match i with
  | 0 =>
   simp at hb;subst hb;exact⟨D0,by show(H.set k D0++[D1])[k]?=_;rw[kL (by simpa using hk),kW hk],S0⟩
  | 1 =>
   simp at hb;subst hb;exact⟨D1,by show(H.set k D0++[D1])[H.length]?=_;rw[kO (by simp)];simp,S1⟩
  | i+2=>simp at hb
 ·have n0:k≠j:=hno 0 (by omega);rw[kL (by simpa using hj),kP n0]
def stB(db dn ud:V)(o:Bool)(nw:V):B:=.cells [db,dn,ud,.bool o,nw]
def dnS(dl:List V):B:=.buf 25 1 dl false
theorem ren_st{g:Nat→Nat}{n m:Nat}{db ud nw:V}{o:Bool}(h1:1<n)(hd:AM.Pure db)(hu:AM.Pure ud)(hw:AM.Pure nw)(o1:db.one=true)(o2:ud.one=true)(o3:nw.one=true):RenB g n (stB db (.buf 1 0 m m) ud o nw) (stB db (.buf (g 1) 0 m m) ud o nw):=by
 refine .cells _ _ rfl (fun c hc=>?_) (fun i c d hc hd'=>?_)
 ·simp only[kZ,kS,or_false]at hc
  rcases hc with rfl | rfl | rfl | rfl | rfl<;>first | rfl | assumption
 ·match i with
  | 0=>simp at hc hd';subst hc;subst hd';exact .pure _ hd
  | 1=>simp at hc hd';subst hc;subst hd';exact .buf 1 0 m m h1
  | 2=>simp at hc hd';subst hc;subst hd';exact .pure _ hu
  | 3=>simp at hc hd';subst hc;subst hd';exact .pure _ (.bool _)
  | 4=>simp at hc hd';subst hc;subst hd';exact .pure _ hw
  | i+5=>simp at hc
theorem ij{g:Nat→Nat}{n:Nat}{db dn ud nw:V}{o:Bool}(hd:AM.Pure db)(hn:AM.Pure dn)(hu:AM.Pure ud)(hw:AM.Pure nw)(o1:db.one=true)(o4:dn.one=true)(o2:ud.one=true)(o3:nw.one=true):RenB g n (stB db dn ud o nw) (stB db dn ud o nw):=by
 refine .cells _ _ rfl (fun c hc=>?_) (fun i c d hc hd'=>?_)
 ·simp only[kZ,kS,or_false]at hc
  rcases hc with rfl | rfl | rfl | rfl | rfl<;>first | rfl | assumption
 ·match i with
  | 0=>simp at hc hd';subst hc;subst hd';exact .pure _ hd
  | 1=>simp at hc hd';subst hc;subst hd';exact .pure _ hn
  | 2=>simp at hc hd';subst hc;subst hd';exact .pure _ hu
  | 3=>simp at hc hd';subst hc;subst hd';exact .pure _ (.bool _)
  | 4=>simp at hc hd';subst hc;subst hd';exact .pure _ hw
  | i+5=>simp at hc
theorem go{g:Nat→Nat}{n:Nat}{dl:List V}(h:∀x∈dl,AM.Pure x):RenB g n (dnS dl) (dnS dl):=.buf _ _ _ _ h
structure StP (db ud nw:V) (dl:List V):Prop where
 pdb:AM.Pure db
 pud:AM.Pure ud
 pnw:AM.Pure nw
 pdl:∀x∈dl,AM.Pure x
 odb:db.one=true
 oud:ud.one=true
 onw:nw.one=true
 odl:∀x∈dl,∀c∈x.cells,c.one=true
theorem StP.rb{db ud nw:V}{dl:List V}(h:StP db ud nw dl){m:Nat}{o:Bool} : ∀bl∈[stB db (.buf 1 0 m m) ud o nw,dnS dl],rbB 2 bl:=fun bl hbl=>by
 simp only[kZ,kS,or_false]at hbl
 rcases hbl with rfl | rfl
 ·intro c hc;simp only[kZ,kS,or_false]at hc
  rcases hc with rfl | rfl | rfl | rfl | rfl
  ·exact bW h.pdb h.odb
  ·show 1<2;omega
  ·exact bW h.pud h.oud
  ·simp[rb1]
  ·exact bW h.pnw h.onw
 ·exact(cA h.pdl h.odl).2 trivial
theorem ja{P:Program}{f:FuncId}{ar:List V}{db ud nw db' ud' nw' r0:V}{dl dl':List V}{m m':Nat}{o o':Bool}{H:List B}{k L:Nat}
  (h:aT P f (.ptr 0 0::ar) [stB db (.buf 1 0 m m) ud o nw,dnS dl] fun r H'=>r=r0∧H'=[stB db' (.buf 1 0 m' m') ud' o' nw',dnS dl'])
  (p:StP db ud nw dl) (p':StP db' ud' nw' dl') (has:∀a∈ar,AM.Pure a) (hr:AM.Pure r0) (hkL:k≠L) (h0:H[k]?=some (stB db (.buf L 0 m m) ud o nw)) (h1:H[L]?=some (dnS dl)):
  aT P f (.ptr k 0::ar) H fun r H'=>r=r0∧H'=(H.set k (stB db' (.buf L 0 m' m') ud' o' nw')).set L (dnS dl'):=by
 have e:g2 k L 1=L:=rfl;refine lift2 h hkL h0 h1 ?_ (go p.pdl) ?_ (go p'.pdl) rfl (fun i a b ha hb=>?_) hr
 ·have:=ren_st (g:=g2 k L) (n:=2) (m:=m) (o:=o) (by omega) p.pdb p.pud p.pnw p.odb p.oud p.onw
  rwa [e]at this
 ·have:=ren_st (g:=g2 k L) (n:=2) (m:=m') (o:=o') (by omega) p'.pdb p'.pud p'.pnw p'.odb p'.oud p'.onw
  rwa [e]at this
 ·cases i with
  | zero =>
   simp at ha hb;subst ha;subst hb;exact .ptr 0 0 (by omega)
  | succ i =>
   simp only[kp]at ha hb;rw[ha]at hb;cases hb;exact .pure _ (has _ (kK ha))
theorem gm{H:List B}{k:Nat}{b:B}(h:H[k]?=some b):H.set k b=H:=by
 obtain⟨h1,h2⟩:=List.getElem?_eq_some_iff.1 h;rw[←h2];exact List.set_getElem_self h1
theorem jZ{P:Program}{f:FuncId}{ar:List V}{db ud nw r0:V}{dl:List V}{m:Nat}{o:Bool}{H:List B}{k L:Nat}
  (h:aT P f (.ptr 0 0::ar) [stB db (.buf 1 0 m m) ud o nw,dnS dl] fun r H'=>r=r0∧H'=[stB db (.buf 1 0 m m) ud o nw,dnS dl])
  (p:StP db ud nw dl) (has:∀a∈ar,AM.Pure a) (hr:AM.Pure r0) (hkL:k≠L) (h0:H[k]?=some (stB db (.buf L 0 m m) ud o nw)) (h1:H[L]?=some (dnS dl)):
  aT P f (.ptr k 0::ar) H fun r H'=>r=r0∧H'=H :=
 (ja h p p has hr hkL h0 h1).mono fun r H' ⟨e1,e2⟩=>⟨e1,by rw[e2,gm h0,gm h1]⟩
theorem wcm{P:Program}{f:FuncId}{args:List V}{H:List B}{K K':V→List B→Prop}(h:aT P f args H K)(hk:∀r H',K r H'→K' r H'):aM P (.fn f []) args H K':=by
 simp only[aM,kX];exact h.mono hk
theorem eK{P:Program}{f:FuncId}{args:List V}{H Hf:List B}{r0:V}(h:aT P f args H fun r H'=>r=r0∧∃G,H'=Hf++G)(hl:H.length≤Hf.length)(hr:rb Hf.length r0)(hb:∀bl∈Hf,rbB Hf.length bl):aT P f args H fun r H'=>r=r0∧H'=Hf :=
 (conH_cutE (σ:=Unit) (ok:=fun _=>True) (rf:=fun _=>r0) (Hf:=fun _=>Hf) (h.mono fun r H' ⟨h1,h2⟩=>⟨(),trivial,h1,h2⟩) (fun _ _=>hl) (fun _ _=>hr) (fun _ _=>hb)).mono fun r H' ⟨_,_,h1,h2⟩=>⟨h1,h2⟩
theorem new_s(H:List B):aT Tryz.prog 26 [] H fun r H'=>r = .ptr H.length 0∧H'=H++[stB .nilS .nilS .nilS false .nilS]:=by
 refine aG tok Tryz.func26 rfl rfl ?_;refine wx ?_;simp -dsimp[Tryz.f26,aI,stB]
theorem begin0(db dn ud nw:V)(D:B):aT Tryz.prog 18 [.ptr 0 0] [stB db dn ud false nw,D] fun r H'=>r = .int .i64 0∧H'=[stB db dn ud true nw,D]:=by
 refine aG tok Tryz.func18 rfl rfl ?_;refine wx ?_;simp -dsimp[Tryz.f18,aI,stB]
theorem end1(db dn ud nw:V)(D:B):aT Tryz.prog 56 [.ptr 0 0] [stB db dn ud true nw,D] fun r H'=>r = .tup [nw,.int .i64 0]∧H'=[stB db dn ud false .nilS,D]:=by
 refine aG tok Tryz.func56 rfl rfl ?_;refine wx ?_;simp -dsimp[Tryz.f56,aI,stB]
theorem row_gL(H:List B)(id:Int)(vs:List Vl)(hc:aM Tryz.prog (.fn 89 []) [(.lst 3 false (vs.map aJ))] (H++[B.cells [.int .i64 id,(.lst 3 false (vs.map aJ))],B.cells [.int .i64 0,.nilS]]) fun r H'=>r = .buf (H.length+2) 0 vs.length vs.length∧H'=H++[B.cells [.int .i64 id,(.lst 3 false (vs.map aJ))],B.cells [.int .i64 0,.nilS],B.buf 43 3 (vs.map aJ) false]):
  aT Tryz.prog 74 [.agg [.int .i64 id,(.lst 3 false (vs.map aJ))]] H fun x H'=>x = .agg [.int .i64 id,.buf (H.length+2) 0 vs.length vs.length]∧H'=H++cpB H.length id (.lst 3 false (vs.map aJ)) vs false:=by
 refine aG tok Tryz.func74 rfl rfl ?_;refine wx ?_;simp -dsimp[Tryz.f74,aI,eh,ef,ei,jf,iL,iK];refine aO (aS tok mixed [4,6] [(1,[1])] [(.buf (H.length+2) 0 vs.length vs.length,H++[B.cells [.int .i64 id,(.lst 3 false (vs.map aJ))],B.cells [.int .i64 0,.nilS],B.buf 43 3 (vs.map aJ) false])] (by kernel_rfl) fun C K hC hK=>?_);simp -implicitDefEqProofs [eh,ef,ei,jf,iL,iK];refine⟨hC _ _ _ _ hc,hK _ _ ?_⟩;simp -dsimp[eh,ef,ei,jf,iL,iK];simp[cpB]
theorem row_o(H:List B)(r:Rw)(hl:r.vals.length≤1000000):aT Tryz.prog 74 [aC r] H fun x H'=>x = .agg [.int .i64 r.id,.buf (H.length+2) 0 r.vals.length r.vals.length]∧H'=H++cpB H.length r.id (LV false r.vals) r.vals false :=
 row_gL H r.id r.vals (by
  have:=clone_at (H++[B.cells [.int .i64 r.id,LV false r.vals],B.cells [.int .i64 0,.nilS]]) r.vals hl
  simpa[kv,LV] using this)
structure InvOk (c:Ch):Prop where
 k:c.k=2∨c.k=3∨c.k=4
 a:c.k=4→0≤c.a∧c.a<c.row.vals.length
 l:c.row.vals.length≤1000000
theorem inv_u(c:Ch)(f g:Bool)(h:InvOk c):aK Tryz.prog 83 [aE f g c] fun r=>r=aE f g (gx c):=by
 obtain⟨hk,ha,hl⟩:=h;obtain⟨k,nm,tb,row,a,v⟩:=c;simp only at hk ha hl
 rcases hk with rfl | rfl | rfl
 ·have e:gx ⟨2,nm,tb,row,a,v⟩=⟨3,nm,tb,row,a,v⟩:=rfl;rw[e];refine sPx Tryz.func83 rfl rfl ?_;simp -dsimp[Tryz.f83,aI,aE,chC]
 ·have e:gx ⟨3,nm,tb,row,a,v⟩=⟨2,nm,tb,row,a,v⟩:=rfl;rw[e];refine sPx Tryz.func83 rfl rfl ?_;simp -dsimp[Tryz.f83,aI,aE,chC]
 ·obtain⟨h0,h1⟩:=ha rfl;obtain⟨b,rfl⟩:=mQ h0
  have hb:b<row.vals.length:=by omega
  have e:gx ⟨4,nm,tb,row,b,v⟩=⟨4,nm,tb,⟨row.id,row.vals.set b v⟩,b,row.vals[b]⟩:=by
   have e1:atV row.vals b=row.vals[b]:=by simp[atV,hb]
   unfold gx;simp[e1]
  rw[e];obtain⟨n,hn⟩:∃n,n=row.vals.length:=⟨_,rfl⟩;have hn':=hn.symm;obtain⟨o,ho⟩:∃o,o=row.vals[b]:=⟨_,rfl⟩;rw[←ho]
  have c1:=fun H=>row_o H row hl
  obtain⟨M,hM⟩:∃M,M=row.vals.map aJ:=⟨_,rfl⟩
  have hMl:M.length=n:=by rw[hM,kh,hn]
  have hMb:M[b]?=some (.agg [.int .i64 o.k,.int .i64 o.n,.str o.s]):=by rw[hM,kb,kJ hb,←ho];rfl
  have hMb':=bB hMb
  have hset:M.set b (.agg [.int .i64 v.k,.int .i64 v.n,.str v.s])=(row.vals.set b v).map aJ:=by rw[hM,nA];rfl
  have hMp:∀x∈M,AM.Pure x:=fun x hx=>by rw[hM]at hx;obtain⟨y,_,rfl⟩:=List.mem_map.1 hx;simp
  have hbn:b<n:=by omega
  simp only[cpB,aC,LV,hn',←hM]at c1;simp only[aE,chC,←hM];refine bK (aG tok Tryz.func83 rfl rfl ?_);refine wx ?_;simp -dsimp[Tryz.f83,aI,hMl,hMb',hbn,aJ];refine wcm (c1 _) ?_;rintro r H' ⟨rfl,rfl⟩;simp -dsimp[];refine aO (aS tok mixed [9,11] [(7,[1])] [] (by kernel_rfl) fun C K hC hK=>?_);simp -implicitDefEqProofs [hMl,hMb,hMb',hbn];refine hK _ _ ?_;simp -dsimp[]
  have hset2:M.set b (.agg [.int .i64 v.k,.int .i64 v.n,.str v.s])=(row.vals.map aJ).set b (aJ v):=by rw[hM];rfl
  have hsl:((row.vals.map aJ).set b (aJ v)).length=n:=by simp[hn]
  have hsp:∀x∈(row.vals.map aJ).set b (aJ v),AM.Pure x:=fun x hx=>by
   rcases ly hx with q | rfl
   ·obtain⟨y,_,rfl⟩:=List.mem_map.1 q;simp
   ·simp
  refine⟨.agg _ _ rfl (fun j c d hc hd=>?_),hsp⟩
  match j with
  | 6 =>
   simp only[kp,lj,Option.some.injEq]at hc hd;subst hc;subst hd;rw[hset2,←hsl];exact gN rfl rfl hsp
  | 0 | 1 | 2 | 3 | 4 | 5 | 7 | 8 | 9 | 10 =>
   simp at hc hd;subst hc;subst hd;exact .pure _ (by simp)
  | j+11=>simp at hc
theorem cloneNil_B:aK Tryz.prog 81 [.nilS] fun r=>r = .nilS:=by
 refine sPx Tryz.func81 rfl rfl ?_;simp -dsimp[Tryz.f81,aI,gU,eqA]
def dV(t:Tb):Ch:=⟨1,t.name,t,⟨0,[]⟩,0,vl0⟩
structure TbL (t:Tb):Prop where
 ok:TbOk t
 a:t.attrs.length≤1000000
 r:t.rows.length≤1000000
 v:∀r∈t.rows,r.vals.length≤1000000
theorem creE_nil{t:Tb}(h:aH t=0):ju [] t=0:=by
 unfold ju;rw[if_pos h,if_neg,if_neg]
 ·simp
 ·rw[ixT];simp
theorem exp_db{H:List B}{k e:Nat}{x:V}{fz:Bool}(hk:H[k]?=some (.buf e 3 [x] fz))(hp:AM.Pure x):ExpX H (.tup [.agg [.buf k 0 1 1],.int .i64 0]) (.tup [.agg [.lst 3 false [x]],.int .i64 0]):=by
 refine .tup _ _ rfl (fun i c d hc hd=>?_)
 match i with
 | 0 =>
  simp at hc hd;subst hc;subst hd;refine .agg _ _ rfl (fun j c d hc hd=>?_)
  match j with
  | 0=>simp at hc hd;subst hc;subst hd;exact gN hk rfl (by simpa using hp)
  | k+1=>simp at hc
 | 1=>simp at hc hd;subst hc;subst hd;exact .pure _ (by simp)
 | k+2=>simp at hc
theorem apply_cre(t:Tb)(h:TbL t)(hv:aH t=0):aK Tryz.prog 82 [.agg [.nilS],aE false false (dV t)] fun x=>x = .tup [.agg [LTb false [t]],.int .i64 0]:=by
 have c1:=creates_s [] false t false false (by simp) h.ok;rw[creE_nil hv]at c1
 have c1':aK Tryz.prog 119 [.agg [.nilS],aD false false t] fun r=>r = .int .i64 0:=conP_args c1 rfl (fun i a b ha hb=>by
  match i with
  | 0 =>
   simp[LTb]at ha hb;subst ha;subst hb
   exact .agg _ _ rfl (fun j c d hc hd=>by
    match j with
    | 0=>simp at hc hd;subst hc;subst hd;exact .nil _ _
    | j+1=>simp at hc)
  | 1=>simp at ha hb;subst ha;subst hb;exact .refl _
  | i+2=>simp at ha)
 have c2:=dY t false false h.a h.r h.v;simp only[aD,LS,LR]at c1' c2;refine bK (aG tok Tryz.func82 rfl rfl ?_);refine wx ?_;simp -dsimp[Tryz.f82,aI,aE,chC,dV,aD,LS,LR,LTb];refine cPx (c1') (by simp) ?_;simp -dsimp[];refine aO (aS tok mixed [7,9] [] [(.nilS,[]),(.agg [.str t.name,.lst 1 false (t.attrs.map V.str),.lst 2 false (t.rows.map aC)],[])] (by kernel_rfl) fun C K hC hK=>?_);simp -implicitDefEqProofs [];refine⟨⟨hC _ _ _ _ (aP cloneNil_B (by simp)),hC _ _ _ _ (aP c2 (by simp))⟩,hK _ _ ?_⟩;simp -dsimp[];exact exp_db rfl (by simp)
theorem commit1(db ud nw:V)(o f:Bool)(cs dl:List V)(hc:0<cs.length)(hd:dl.length≤1000000):aT Tryz.prog 57 [.ptr 0 0,.lst 11 f cs] [stB db (.buf 1 0 dl.length dl.length) ud o nw,dnS dl] fun r H'=>r = .tup []∧H'=[stB db (.buf 1 0 (dl.length+1) (dl.length+1)) .nilS o nw,dnS (dl++[.lst 11 f cs])]:=by
 obtain⟨n,hn⟩:∃n,n=dl.length:=⟨_,rfl⟩;rw[←hn]at hd ⊢;have hn':=hn.symm;refine aG tok Tryz.func57 rfl rfl ?_;refine wx ?_;simp -dsimp[Tryz.f57,aI,stB,dnS,hc,show(0:Int)<cs.length by omega,hn',cap24 n (by omega)]
theorem perform_cre(t:Tb)(h:TbL t)(hv:aH t=0):aT Tryz.prog 59 [.ptr 0 0,aE false false (dV t)] [stB .nilS (.buf 1 0 0 0) .nilS false .nilS,dnS []] fun r H'=>r = .int .i64 0∧H'=[stB (LTb false [t]) (.buf 1 0 1 1) .nilS false .nilS,dnS [.lst 11 true [aE false false (dV t)]]]:=by
 refine eK ?_ (by simp) (by simp) ?rb
 case rb=>exact StP.rb ⟨by simp,by simp,by simp,by simp,rfl,rfl,rfl,by simp[V.cells,V.one]⟩
 have c1:=apply_cre t h hv
 have c2:=fun G0 G1=>ja (H:=[stB (LTb false [t]) (.buf 1 0 0 0) .nilS false .nilS,dnS [],G0,G1]) (k:=0) (L:=1) (commit1 (LTb false [t]) .nilS .nilS false true [aE false false (dV t)] [] (by simp) (by simp)) ⟨by simp,by simp,by simp,by simp,rfl,rfl,rfl,by simp⟩ ⟨by simp,by simp,by simp,by simp,rfl,rfl,rfl,by simp[V.cells,V.one]⟩ (by simp) (by simp) (by decide) rfl rfl
 simp only[aE,chC,dV,vl0,aD,LS,LR,LTb,stB,mK,ky,lD,kn,ko,lH,lU]at c1 c2 ⊢;refine aG tok Tryz.func59 rfl rfl ?_;refine wx ?_;simp -dsimp[Tryz.f59,aI];refine aO (aS tok mixed [9,10] [(0,[1]),(1,[1]),(2,[1]),(3,[1]),(4,[1]),(5,[1]),(6,[1]),(7,[1]),(8,[1,2])] [(.tup [.agg [.lst 3 false [.agg [.str t.name,.lst 1 false (t.attrs.map V.str),.lst 2 false (t.rows.map aC)]]],.int .i64 0],[])] (by kernel_rfl) fun C K hC hK=>?_);simp -implicitDefEqProofs [];refine⟨⟨hC _ _ _ _ (aP c1 (by simp)),hC _ _ _ _ (aP c1 (by simp))⟩,hK _ _ ?_⟩;simp -dsimp[];refine wcm (c2 _ _) ?_;rintro r H' ⟨rfl,rfl⟩;simp -dsimp[]
theorem le_cre{p a b c d:V} : ∀(i:Nat) x y,[p,.agg [.int .i64 1,a,b,c,d,.int .i64 0,.nilS,.int .i64 0,.int .i64 0,.int .i64 0,.str kI]][i]?=some x→[p,.agg [.int .i64 1,a,b,c,d,.int .i64 0,.lst 3 false [],.int .i64 0,.int .i64 0,.int .i64 0,.str kI]][i]?=some y→Le x y:=fun i x y hx hy=>by
 match i with
 | 0=>simp at hx hy;subst hx;subst hy;exact .refl _
 | 1 =>
  simp at hx hy;subst hx;subst hy;refine .agg _ _ rfl (fun j u v hu hv=>?_)
  match j with
  | 0=>simp at hu hv;subst hu;subst hv;exact .refl _
  | 1=>simp at hu hv;subst hu;subst hv;exact .refl _
  | 2=>simp at hu hv;subst hu;subst hv;exact .refl _
  | 3=>simp at hu hv;subst hu;subst hv;exact .refl _
  | 4=>simp at hu hv;subst hu;subst hv;exact .refl _
  | 5=>simp at hu hv;subst hu;subst hv;exact .refl _
  | 6=>simp at hu hv;subst hu;subst hv;exact .nil _ _
  | 7=>simp at hu hv;subst hu;subst hv;exact .refl _
  | 8=>simp at hu hv;subst hu;subst hv;exact .refl _
  | 9=>simp at hu hv;subst hu;subst hv;exact .refl _
  | 10=>simp at hu hv;subst hu;subst hv;exact .refl _
  | j+11=>simp at hu
 | i+2=>simp at hx
theorem create_s(t:Tb)(f g:Bool)(h:TbL t)(hv:aH t=0):aT Tryz.prog 27 [.ptr 0 0,aD f g t] [stB .nilS .nilS .nilS false .nilS] fun r H'=>r = .int .i64 0∧H'=[stB (LTb false [t]) (.buf 1 0 1 1) .nilS false .nilS,dnS [.lst 11 true [aE false false (dV t)]]]:=by
 refine eK ?_ (by simp) (by simp) ?rb
 case rb=>exact StP.rb ⟨by simp,by simp,by simp,by simp,rfl,rfl,rfl,by simp[V.cells,V.one]⟩
 have c1:=dY t f g h.a h.r h.v
 have c2:=fun G0=>ja (H:=[stB .nilS (.buf 1 0 0 0) .nilS false .nilS,dnS [],G0]) (k:=0) (L:=1) (perform_cre t h hv) ⟨by simp,by simp,by simp,by simp,rfl,rfl,rfl,by simp⟩ ⟨by simp,by simp,by simp,by simp,rfl,rfl,rfl,by simp[V.cells,V.one]⟩ (by simp) (by simp) (by decide) rfl rfl
 simp only[aE,chC,dV,vl0,aD,LS,LR,LTb,kn,ko,lH,lU]at c1 c2 ⊢;refine aG tok Tryz.func27 rfl rfl ?_;refine cO 25 1 [] 0 [1] rfl (bu _ _) (by simp[stB]) ?_;refine wx ?_;simp -dsimp[Tryz.f27,aI];refine .inl (aO (aS tok mixed [6] [] [(.agg [.str t.name,.lst 1 false (t.attrs.map V.str),.lst 2 false (t.rows.map aC)],[]),(.int .i64 0,[stB (.lst 3 false [.agg [.str t.name,.lst 1 false (t.attrs.map V.str),.lst 2 false (t.rows.map aC)]]) (.buf 1 0 1 1) .nilS false .nilS,dnS [.lst 11 true [.agg [.int .i64 1,.str t.name,.str t.name,.lst 1 false (t.attrs.map V.str),.lst 2 false (t.rows.map aC),.int .i64 0,.lst 3 false [],.int .i64 0,.int .i64 0,.int .i64 0,.str kI]]],B.cells [.str t.name,.lst 1 f (t.attrs.map V.str),.lst 2 g (t.rows.map aC)]])] (by kernel_rfl) fun C K hC hK=>?_));simp -implicitDefEqProofs [];refine⟨⟨hC _ _ _ _ (aP c1 (by simp)),hC _ _ _ _ (gV (c2 _) rfl le_cre)⟩,hK _ _ ?_⟩;simp -dsimp[]
theorem tbs_rb(n e:Nat)(l:List Tb)(fz:Bool):rbB n (.buf e 3 (l.map (aD false false)) fz):=(cA (by simp) (by simp[aD,V.cells,LS,LR,V.one])).2 trivial
theorem db_s(ts:List Tb)(g:Bool)(m:Nat)(dl:List V)(ud nw:V)(o:Bool)(hl:ts.length≤1000000)(ht:∀t∈ts,TbL t)(p:StP (LTb g ts) ud nw dl):
  aT Tryz.prog 37 [.ptr 0 0] [stB (LTb g ts) (.buf 1 0 m m) ud o nw,dnS dl] fun r H'=>r = .agg [LTb false ts]∧H'=[stB (LTb g ts) (.buf 1 0 m m) ud o nw,dnS dl]:=by
 have hd:=p.pdl;have hd1:=p.odl;have hu:=p.pud;have hu1:=p.oud;have hw:=p.pnw;have hw1:=p.onw;refine eK ?_ (by simp) (by simp[LTb]) p.rb;obtain⟨S,hS⟩:∃S,S=stB (LTb g ts) (.buf 1 0 m m) ud o nw:=⟨_,rfl⟩;obtain⟨D,hD⟩:∃D,D=dnS dl:=⟨_,rfl⟩;have hSe:S=B.cells [.lst 3 g (ts.map (aD false false)),.buf 1 0 m m,ud,.bool o,nw]:=hS;rw[←hS,←hD]
 have hrbS:∀n,2≤n→rbB n S:=fun n hn=>by
  rw[hS];intro c hc;simp only[kZ,kS,or_false]at hc
  rcases hc with rfl | rfl | rfl | rfl | rfl
  ·simp[LTb,rb1]
  ·show 1<n;omega
  ·exact bW hu hu1
  ·simp[rb1]
  ·exact bW hw hw1
 have hrbD:∀n,rbB n D:=fun n=>by rw[hD];exact(cA hd hd1).2 trivial
 refine aG tok Tryz.func37 rfl rfl ?_;refine wx ?_;simp -dsimp[Tryz.f37,aI,hSe];refine aO (cO 29 3 [] 3 [0] rfl (bu _ _) (by simp) (W_loopM 24 0xfff020 (by simp[mB]<;>rfl) (σ:=Nat) (fun i=>i≤ts.length) (fun i=>ts.length-i) (fun i=>[(12,.int .i64 i)]) (fun i=>[S,D,B.cells [.nilS],B.cells [.buf 4 0 i i],B.buf 29 3 ((ts.take i).map (aD false false)) false]) 0 (by omega) (by simp) (by simp[hSe]) (by simp) ?_));intro i hi N Q hN hQ
 have hli:(ts.take i).length=i:=by simp;omega
 by_cases hb:i<ts.length
 ·have hst:ts.take (i+1)=ts.take i++[ts[i]]:=kY hb;have hh:=ht _ (kN hb);obtain⟨t,hte⟩:∃t,t=ts[i]:=⟨_,rfl⟩;rw[←hte]at hst hh;have hc:=dY t false false hh.a hh.r hh.v;simp only[aD,LS,LR]at hc;obtain⟨l,hl2⟩:∃l,l=ts.take i:=⟨_,rfl⟩;rw[←hl2]at hst hli ⊢;refine wx ?_;simp -dsimp[hb,hte.symm,aD,LS,LR];refine aO (aS tok mixed [5,7] [] [(aD false false t,[])] (by kernel_rfl) fun C K hC hK=>?_);simp -implicitDefEqProofs [hb,aD,LS,LR,hli,cap64c i (by omega)];refine⟨hC _ _ _ _ (aP hc (by simp)),hK _ _ ?_⟩;simp -dsimp[aX i (by omega)];refine hN (i+1) _ _ (by omega) (by omega) (by simp) ⟨[B.cells [.str t.name,.lst 1 false (t.attrs.map V.str),.lst 2 false (t.rows.map aC)]],by simp[hst,aD,LS,LR]⟩ (by simp) ?_;intro bl hbl;simp only[kZ,kS,or_false]at hbl
  rcases hbl with rfl | rfl | rfl | rfl | rfl
  ·exact hrbS _ (by simp)
  ·exact hrbD _
  ·simp
  ·simp
  ·exact tbs_rb _ _ _ _
 ·obtain rfl:i=ts.length:=by omega
  rw[km];refine fm 4 [] 3 [0] rfl rfl (by simp) (by simp) ?_;refine wx ?_;simp -dsimp[hb];refine hQ _ _ _ ?_;simp -dsimp[];rfl
structure Tx where
 f:Bool
 l:List Ch
def aa(x:Tx):V:=.lst 11 x.f (x.l.map (aE false false))
@[simp] theorem encTx_pure (x:Tx):AM.Pure (aa x):=by simp[aa]
def jrL(xs:List Tx):List Ch:=xs.flatMap (·.l)
structure ChL (c:Ch):Prop where
 t:TbL c.tb
 v:c.row.vals.length≤1000000
theorem kD(n:Nat)(h:n≤1000000):n≤9223372036854775806∧(n+1)*160≤140737488355328:=by omega
theorem jr_take{xs:List Tx}{i:Nat}(h:i<xs.length):jrL (xs.take (i+1))=jrL (xs.take i)++xs[i].l:=by
 unfold jrL;rw[kY h,mZ];simp
theorem jr_len{xs:List Tx}{i:Nat} : (jrL (xs.take i)).length≤(jrL xs).length:=by
 have h:jrL xs=jrL (xs.take i)++jrL (xs.drop i):=by
  unfold jrL;rw[←mZ,lA]
 rw[h,kr];omega
theorem jr_len2{xs:List Tx}{i:Nat}(h:i<xs.length):(jrL (xs.take i)).length+xs[i].l.length≤(jrL xs).length:=by
 have:=jr_len (xs:=xs) (i:=i+1);rw[jr_take h,kr]at this;exact this
theorem chs_rb(n e:Nat)(l:List Ch)(fz:Bool):rbB n (.buf e 11 (l.map (aE false false)) fz):=(cA (by simp) (by simp[aE,chC,V.cells,V.one])).2 trivial
theorem journal_s(db:V)(xs:List Tx)(ud nw:V)(o:Bool)(hx:xs.length≤1000000)(hl:(jrL xs).length≤1000000)(hc:∀x∈xs,∀c∈x.l,ChL c)(p:StP db ud nw (xs.map aa)):
  aT Tryz.prog 38 [.ptr 0 0] [stB db (.buf 1 0 xs.length xs.length) ud o nw,dnS (xs.map aa)] fun r H'=>r = .lst 11 false ((jrL xs).map (aE false false))∧H'=[stB db (.buf 1 0 xs.length xs.length) ud o nw,dnS (xs.map aa)]:=by
 have hdb:=p.pdb;have hdb1:=p.odb;have hu:=p.pud;have hu1:=p.oud;have hw:=p.pnw;have hw1:=p.onw;refine eK ?_ (by simp) (by simp) p.rb;obtain⟨S,hS⟩:∃S,S=stB db (.buf 1 0 xs.length xs.length) ud o nw:=⟨_,rfl⟩;obtain⟨D,hD⟩:∃D,D=dnS (xs.map aa):=⟨_,rfl⟩;have hSe:S=B.cells [db,.buf 1 0 xs.length xs.length,ud,.bool o,nw]:=hS;have hDe:D=B.buf 25 1 (xs.map aa) false:=hD;rw[←hS,←hD]
 have hrbS:∀n,2≤n→rbB n S:=fun n hn=>by
  rw[hS];intro c hc;simp only[kZ,kS,or_false]at hc
  rcases hc with rfl | rfl | rfl | rfl | rfl
  ·exact bW hdb hdb1
  ·show 1<n;omega
  ·exact bW hu hu1
  ·simp[rb1]
  ·exact bW hw hw1
 have hrbD:∀n,rbB n D:=fun n=>by rw[hD];exact(cA (by simp) (by simp[aa,V.cells,V.one])).2 trivial
 have hrb:∀(l:List Ch),∀bl∈[S,D,B.buf 45 11 (l.map (aE false false)) false],rbB 3 bl:=fun l bl hbl=>by
  simp only[kZ,kS,or_false]at hbl
  rcases hbl with rfl | rfl | rfl
  ·exact hrbS _ (by omega)
  ·exact hrbD _
  ·exact chs_rb _ _ _ _
 refine aG tok Tryz.func38 rfl rfl ?_;refine wx ?_;simp -dsimp[Tryz.f38,aI,hSe,hDe];refine aO (W_own 45 11 [3] (by simp) (W_loopM 37 0x1fffffe0a8 (by simp[mB]<;>rfl) (σ:=Nat) (fun i=>i≤xs.length) (fun i=>xs.length-i) (fun i=>[(13,.int .i64 i),(3,.buf 2 0 (jrL (xs.take i)).length (jrL (xs.take i)).length)]) (fun i=>[S,D,B.buf 45 11 ((jrL (xs.take i)).map (aE false false)) false]) 0 (by omega) (by simp[jrL]) (by simp[jrL,hSe,hDe]) (by simp) ?_));intro i hi N Q hN hQ;by_cases hb:i<xs.length
 ·have hst:=jr_take hb;have hln:=jr_len2 hb;have hxc:=hc _ (kN hb);obtain⟨x,hxe⟩:∃x,x=xs[i]:=⟨_,rfl⟩;rw[←hxe]at hst hln hxc;obtain⟨l,hle⟩:∃l,l=jrL (xs.take i):=⟨_,rfl⟩;rw[←hle]at hst hln ⊢;obtain⟨y,hye⟩:∃y,y=x.l:=⟨_,rfl⟩;rw[←hye]at hst hln hxc;have hye':=hye.symm;refine wx ?_;simp -dsimp[hb,hDe,hxe.symm,aa,hye'];refine aO (W_loopM 36 0xffff80088 (by simp[mB]<;>rfl) (σ:=Nat) (fun j=>j≤y.length) (fun j=>y.length-j) (fun j=>[(19,.int .i64 j),(3,.buf 2 0 (l++y.take j).length (l++y.take j).length)]) (fun j=>[S,D,B.buf 45 11 ((l++y.take j).map (aE false false)) false]) 0 (by omega) (by simp) (by simp[hDe]) (by simp) ?_);intro j hj N2 Q2 hN2 hQ2
  have hyl:(l++y.take j).length=l.length+j:=by simp;omega
  by_cases hb2:j<y.length
  ·have hs2:l++y.take (j+1)=(l++y.take j)++[y[j]]:=by rw[kY hb2,kv]
   have hcc:=hxc _ (kN hb2);obtain⟨c,hce⟩:∃c,c=y[j]:=⟨_,rfl⟩;rw[←hce]at hs2 hcc;obtain⟨z,hz⟩:∃z,z=l++y.take j:=⟨_,rfl⟩;rw[←hz]at hs2 hyl ⊢;have c1:=dY c.tb false false hcc.t.a hcc.t.r hcc.t.v;have c2:=row_s c.row hcc.v;simp only[aD,LS,LR,aC,LV]at c1 c2;refine wx ?_;simp -dsimp[hb2,hce.symm,aE,chC];refine aO (aS tok mixed [7,9] [] [(.agg [.str c.tb.name,.lst 1 false (c.tb.attrs.map V.str),.lst 2 false (c.tb.rows.map aC)],[]),(.agg [.int .i64 c.row.id,.lst 3 false (c.row.vals.map aJ)],[])] (by kernel_rfl) fun C K hC hK=>?_);simp -implicitDefEqProofs [];refine⟨⟨hC _ _ _ _ (aP c1 (by simp)),hC _ _ _ _ (aP c2 (by simp))⟩,hK _ _ ?_⟩;simp -dsimp[hyl,kD (l.length+j) (by omega),aX j (by omega)];refine hN2 (j+1) _ _ (by omega) (by omega) (by simp[hs2,hyl]) ⟨[B.cells (chC false false c)],by simp[hs2,aE,chC]⟩ (by simp) (hrb _)
  ·obtain rfl:j=y.length:=by omega
   rw[km];refine wx ?_;simp -dsimp[hb2];refine hQ2 _ _ _ ?_;simp -dsimp[aX i (by omega)];refine hN (i+1) _ _ (by omega) (by omega) (by simp[hst]) ⟨[],by simp[hst]⟩ (by simp) (hrb _)
 ·obtain rfl:i=xs.length:=by omega
  rw[km];refine W_frz 2 [3] rfl (by simp) ?_;refine wx ?_;simp -dsimp[hb,hDe];refine hQ _ _ _ ?_;simp -dsimp[];exact hDe.symm
theorem is_true(t0 u:Tb)(xs:List Tx)(js:List Ch)(f1 g1 f2 g2 gg:Bool)(L ud nw:V)(o:Bool)(hj:jrL xs=dV t0::js)(hx:xs.length≤1000000)(hl:(jrL xs).length≤1000000)(hc:∀x∈xs,∀c∈x.l,ChL c)(hu:TbL u)
  (hz0:∀r∈t0.rows,∀v∈r.vals,v.s.size≤maxLen) (hz:∀r∈u.rows,∀v∈r.vals,v.s.size≤maxLen) (hL:AM.Pure L) (p:StP (LTb gg [u]) ud nw (xs.map aa))
  (hs:aK Tryz.prog 40 [.lst 11 false (js.map (aE false false)),L] fun r=>r = .bool true):
  aT Tryz.prog 12 [.ptr 0 0,aD f1 g1 t0,aD f2 g2 u,L] [stB (LTb gg [u]) (.buf 1 0 xs.length xs.length) ud o nw,dnS (xs.map aa)] fun r H'=>r = .bool true∧H'=[stB (LTb gg [u]) (.buf 1 0 xs.length xs.length) ud o nw,dnS (xs.map aa)]:=by
 refine eK ?_ (by simp) (by simp) p.rb
 have h0:TbL t0:=by
  have hm:dV t0∈jrL xs:=by rw[hj];simp
  obtain⟨x,hx1,hx2⟩:=List.mem_flatMap.1 hm;exact(hc x hx1 _ hx2).t
 have c1:=db_s [u] gg xs.length (xs.map aa) ud nw o (by simp) (fun t ht=>by simp at ht;subst ht;exact hu) p;have c2:=journal_s (LTb gg [u]) xs ud nw o hx hl hc p;have c3:=gT u u false false f2 g2 hu.a hu.r (fun r hr=>⟨hu.v r hr,hz r hr⟩);have c4:=gT t0 t0 false false f1 g1 h0.a h0.r (fun r hr=>⟨h0.v r hr,hz0 r hr⟩);rw[hU]at c3 c4;rw[hj]at c2
 have d1:=fun G0 G1=>jZ (H:=[stB (LTb gg [u]) (.buf 1 0 xs.length xs.length) ud o nw,dnS (xs.map aa),G0,G1]) (k:=0) (L:=1) c1 p (by simp) (by simp[LTb]) (by decide) rfl rfl
 have d2:=fun G0 G1 G2=>jZ (H:=[stB (LTb gg [u]) (.buf 1 0 xs.length xs.length) ud o nw,dnS (xs.map aa),G0,G1,G2]) (k:=0) (L:=1) c2 p (by simp) (by simp) (by decide) rfl rfl
 obtain⟨S,hS⟩:∃S,S=stB (LTb gg [u]) (.buf 1 0 xs.length xs.length) ud o nw:=⟨_,rfl⟩;obtain⟨D,hD⟩:∃D,D=dnS (xs.map aa):=⟨_,rfl⟩;simp only[←hS,←hD]at d1 d2 ⊢;simp only[aD,LS,LR]at c3 c4;refine aG tok Tryz.func12 rfl rfl ?_;refine wx ?_;simp -dsimp[Tryz.f12,aI,aD,LS,LR];refine wcm (d1 _ _) ?_;rintro r H' ⟨rfl,rfl⟩;simp -dsimp[LTb,aD,LS,LR];refine wcm (d2 _ _ _) ?_;rintro r H' ⟨rfl,rfl⟩;simp -dsimp[LTb,aD,LS,LR];refine .inr ⟨aR (by kernel_rfl),?_⟩;refine av _ (aP (c3) (by simp)) ?_;simp -dsimp[aE,chC,dV];refine av _ (aP (c4) (by simp)) ?_;simp -dsimp[aE,chC,dV];rw[show mL js.length (js.map (aE false false))=js.map (aE false false) from lE (by simp)];refine av _ (aP hs (by simp;exact hL)) ?_;simp -dsimp[]
theorem enters_of{P:Program}{f:FuncId}{fn:Func}(hf:P.funcs[f]?=some fn)(hb:fn.body.isNone=false)(hn:(fn.name == "runtime.NumGoroutine")=false)(args:Array Value)(w:World):(callFunc f args).run P w = .ok (.enter f args) w:=by
 have h1:¬fn.name = "runtime.NumGoroutine":=by simpa using hn
 have h2:¬fn.body=none:=by intro h;rw[h]at hb;cases hb
 simp[callFunc,go_sem,hf,h1,h2]
theorem jT{H:List B}(h:∀b∈H,∀kk es,b≠.map kk es):NoMap H:=fun k kk es hk=>h _ (kK hk) kk es rfl
theorem back_mk(H:List B)(f:Bool)(xs:List V):aT Tryz.prog 80 [.lst 11 f xs] H fun r H'=>r = .fn 118 [.ptr H.length 0]∧H'=H++[.cells [.lst 11 f xs]]:=by
 refine aG tok Tryz.func80 rfl rfl ?_;refine wx ?_;simp -dsimp[Tryz.f80,aI]
theorem iN(H:List B)(k:Nat)(f:Bool)(hH:∀bl∈H,rbB H.length bl)(hnm:∀b∈H,∀kk es,b≠.map kk es)(hk:k<H.length):aT Tryz.prog 42 [.ptr k 0,.lst 11 f []] H fun r H'=>r = .tup []∧H'=H++[.cells [.ptr k 0]]:=by
 have hb1:=back_mk (H++[.cells [.ptr k 0]]) f []
 have hln:(H++[B.cells [.ptr k 0]]).length=H.length+1:=by simp
 refine jx tok (f:=42) (gf:=118) (z:=11) Tryz.func42 rfl rfl rfl (by decide) (enters_of Tryz.func118 rfl rfl)
  ((((([V.ptr k 0,V.lst 11 f []]++aI 42 (V.tup [])).set 2 (V.ptr H.length 0)).set 6 (V.lst 11 f [])).set 7 (V.fn 118 [V.ptr (H.length+1) 0])))
  ((((([V.ptr k 0,V.lst 11 f []]++aI 42 (V.tup [])).set 2 (V.ptr H.length 0)).set 6 (V.lst 11 f [])).set 7 V.undef))
  ?less (fun _=>H++[.cells [.ptr k 0]]) (fun _=>[]) (fun _=>[]) [] f 0 rfl ?head ?hg ?hl ?rb0 (fun _ _=>?rb) (fun _ _=>rfl) (fun _ _=>jT ?nm) (fun k hk=>absurd hk (by omega)) (by simp) ?it (fun k hk=>absurd hk (by omega)) (fun k hk=>absurd hk (by omega))
 case less=>simp[aI]
 case head =>
  refine wx ?_;simp -dsimp[Tryz.f42,aI];refine wx ?_;simp -dsimp;refine wcm hb1 ?_;rintro r H' ⟨rfl,rfl⟩;simp -dsimp
 case hg=>simp[aI]
 case hl=>simp
 case rb0 =>
  simp[aI];omega
 case rb =>
  intro bl hbl
  rcases List.mem_append.1 hbl with h | h
  ·exact eT (by simp) (hH bl h)
  ·simp only[mA]at h;subst h;intro c hc;simp only[mA]at hc;subst hc;show k<_;simp;omega
 case nm =>
  intro b hb kk es
  rcases List.mem_append.1 hb with h | h
  ·exact hnm b h kk es
  ·simp only[mA]at h;subst h;simp
 case it =>
  intro Bs b off cap us w h1 h2 h3 _ _
  rcases h3 with h3 | ⟨_,A,h3⟩
  ·rw[if_pos rfl]at h3;exact back_nil Bs b us none cap w h1 h3
  ·exact back_nil Bs b us A cap w h1 h3
theorem revert_nil(H:List B)(k:Nat)(hH:∀bl∈H,rbB H.length bl)(hnm:∀b∈H,∀kk es,b≠.map kk es)(hk:k<H.length):aT Tryz.prog 42 [.ptr k 0,.nilS] H fun r H'=>r = .tup []∧H'=H++[.cells [.ptr k 0]] :=
 gV (iN H k false hH hnm hk) rfl (fun i a b ha hb=>by
  match i with
  | 0=>simp at ha hb;subst ha;subst hb;exact .refl _
  | 1=>simp at ha hb;subst ha;subst hb;exact .nil _ _
  | i+2=>simp at ha)
theorem rollback0(db ud:V)(m:Nat)(dl:List V)(p:StP db ud .nilS dl):aT Tryz.prog 30 [.ptr 0 0] [stB db (.buf 1 0 m m) ud true .nilS,dnS dl] fun r H'=>r = .int .i64 0∧H'=[stB db (.buf 1 0 m m) ud false .nilS,dnS dl]:=by
 refine eK ?_ (by simp) (by simp) p.rb;have c1:=end1 db (.buf 1 0 m m) ud .nilS (dnS dl);have c2:=revert_nil [stB db (.buf 1 0 m m) ud false .nilS,dnS dl] 0 p.rb (by simp[stB,dnS]) (by simp);obtain⟨D,hD⟩:∃D,D=dnS dl:=⟨_,rfl⟩;rw[←hD]at c1 c2 ⊢;simp only[stB]at c1 c2 ⊢;refine aG tok Tryz.func30 rfl rfl ?_;refine wx ?_;simp -dsimp[Tryz.f30,aI];refine wcm c1 ?_;rintro r H' ⟨rfl,rfl⟩;simp -dsimp[];refine wcm c2 ?_;rintro r H' ⟨rfl,rfl⟩;simp -dsimp[]
section
theorem cut1p{P:Program}{f:FuncId}{args:List V}{H Hf:List B}{r0:V}(h:aT P f args H fun r H'=>r=r0∧∃G,H'=Hf++G)(hl:H.length≤Hf.length)(hp:AM.Pure r0)(hb:∀bl∈Hf,rbB Hf.length bl):aT P f args H fun r H'=>r=r0∧H'=Hf:=by
 refine⟨h.1,fun s vals h1 h2 h3 h4=>(h.2 s vals h1 h2 h3 h4).mono fun e w' ⟨u,s',r,a,b,c,d,e1,k1,G,k3⟩=>?_⟩;subst k1;exact⟨u,s'.cut Hf,r,a,b,dU c k3 hb,cz c k3 (Step.refl _) s d (by rw[h1.1];exact hl),Rel.pure_ e1 hp (fun b hb=>⟨bv k3 hb,rfl⟩),rfl,rfl⟩
def zT0:V:=.agg [.str kI,.nilS,.nilS]
section
variable {nm:ByteArray} {db ud:V} {m:Nat} {o:Bool} {dl:List V} {e:Int}
end
end
theorem cbeg_ok(t:Tb)(ud:V)(m:Nat)(dl:List V)(ht:TbL t)(p:StP (LTb false [t]) ud .nilS dl):aT Tryz.prog 28 [.ptr 0 0,.str t.name] [stB (LTb false [t]) (.buf 1 0 m m) ud false .nilS,dnS dl] fun r H'=>r = .tup [aD false false t,.int .i64 0]∧H'=[stB (LTb false [t]) (.buf 1 0 m m) ud true .nilS,dnS dl]:=by
 refine cut1p ?_ (by simp) (by simp) p.rb
 have c1:=fun G=>ja (H:=[stB (LTb false [t]) (.buf 1 0 m m) ud false .nilS,dnS dl,G]) (k:=0) (L:=1) (begin0 (LTb false [t]) (.buf 1 0 m m) ud .nilS (dnS dl)) p p (by simp) (by simp) (by decide) rfl rfl
 have c2:=fun G=>jZ (H:=[stB (LTb false [t]) (.buf 1 0 m m) ud true .nilS,dnS dl,G]) (k:=0) (L:=1) (db_s [t] false m dl ud .nilS true (by simp) (fun u hu=>by simp at hu;subst hu;exact ht) p) p (by simp) (by simp[LTb]) (by decide) rfl rfl
 obtain⟨S,hS⟩:∃S,S=stB (LTb false [t]) (.buf 1 0 m m) ud false .nilS:=⟨_,rfl⟩;obtain⟨S1,hS1⟩:∃S,S=stB (LTb false [t]) (.buf 1 0 m m) ud true .nilS:=⟨_,rfl⟩;obtain⟨D,hD⟩:∃D,D=dnS dl:=⟨_,rfl⟩
 have hrb1:∀n,2≤n→rbB n S1:=fun n hn=>eT hn (by rw[hS1];exact p.rb (m:=m) (o:=true) _ (by simp))
 have hrbD:∀n,2≤n→rbB n D:=fun n hn=>eT hn (by rw[hD];exact p.rb (m:=m) (o:=true) _ (by simp))
 simp only[←hS,←hS1,←hD]at c1 c2 ⊢;simp only[kn,ko]at c1;refine aG tok Tryz.func28 rfl rfl ?_;refine wx ?_;simp -dsimp[Tryz.f28,aI,zT0];refine wcm (c1 _) ?_;rintro r H' ⟨rfl,rfl⟩;simp -dsimp[];refine wcm (c2 _) ?_;rintro r H' ⟨rfl,rfl⟩;simp -dsimp[LTb];refine aO (W_loopM 29 0x1ff80120 (by simp[mB]<;>rfl) (σ:=Unit) (fun _=>True) (fun _=>0) (fun _=>[(19,.int .i64 0)]) (fun _=>[S1,D,B.cells [.str kI,.nilS,.nilS]]) () trivial (by simp) rfl (by simp) ?_);rintro⟨⟩ _ N Q hN hQ;refine wx ?_;simp -dsimp[aD,LS,LR];refine hQ _ _ _ ?_;simp -dsimp[]
 all_goals first | rfl | exact⟨rfl,rfl⟩ | simp[aD,LS,LR]
theorem wce{P:Program}{f:FuncId}{args:List V}{H H0:List B}{r0:V}{K:V→List B→Prop}(h:aT P f args H fun r H'=>r=r0∧H'=H0)(hk:K r0 H0):aM P (.fn f []) args H K :=
 wcm h fun _ _ hh=>hh.1▸hh.2▸hk
def txC(t:Tb):List Tx:=[⟨true,[dV t]⟩]
theorem stP_c(t:Tb):StP (LTb false [t]) .nilS .nilS ((txC t).map aa):=⟨by simp,by simp,by simp,by simp[txC],rfl,rfl,rfl,by simp[txC,aa,V.cells,V.one]⟩
theorem same_e:aK Tryz.prog 40 [.lst 11 false (([]:List Ch).map (aE false false)),.nilS] fun r=>r = .bool true:=by
 refine sPx Tryz.func40 rfl rfl ?_;simp -dsimp[Tryz.f40,aI];refine aO (W_loopM 27 0x7fff830 (by simp[mB]<;>rfl) (σ:=Unit) (fun _=>True) (fun _=>0) (fun _=>[(5,.int .i64 0)]) (fun _=>[]) () trivial (by simp) rfl (by simp) ?_);rintro⟨⟩ _ N Q hN hQ;refine wx ?_;simp -dsimp[];refine hQ _ _ _ ?_;simp -dsimp[]
def stC(t:Tb)(L:Nat)(o:Bool):B:=stB (LTb false [t]) (.buf L 0 1 1) .nilS o .nilS
def dnC(t:Tb):B:=dnS ((txC t).map aa)
theorem beg_l(t:Tb)(f g:Bool)(h:TbL t)(hv:aH t=0)(G0 G1:B):aT Tryz.prog 8 [aD f g t] [G0,G1] fun r H'=>r = .tup [.ptr 3 0,.bool true]∧H'=[G0,G1,.cells [.str t.name,.lst 1 f (t.attrs.map V.str),.lst 2 g (t.rows.map aC)],stC t 4 false,dnC t]:=by
 have c1:=fun H=>new_s H
 have c2:=lift12 (H:=[G0,G1,.cells [.str t.name,.lst 1 f (t.attrs.map V.str),.lst 2 g (t.rows.map aC)],stB .nilS .nilS .nilS false .nilS]) (k:=3) (B0:=stB .nilS .nilS .nilS false .nilS) (args:=[.ptr 3 0,aD f g t]) (D0:=stC t 4 false) (D1:=dnC t) (create_s t f g h hv) rfl (ij (by simp) (by simp) (by simp) (by simp) rfl rfl rfl rfl) (ren_st (g:=g12 3 4) (n:=2) (m:=1) (o:=false) (by omega) (by simp) (by simp) (by simp) rfl rfl rfl) (go (by simp)) rfl (fun i a b ha hb=>by
  match i with
  | 0=>simp at ha hb;subst ha;subst hb;exact .ptr 0 0 (by omega)
  | 1=>simp at ha hb;subst ha;subst hb;exact .pure _ (by simp)
  | i+2=>simp at ha) (by simp)
 simp only[aD,LS,LR,kn,ko,lp,lD]at c2;refine aG tok Tryz.func8 rfl rfl ?_;refine wx ?_;simp -dsimp[Tryz.f8,aI,aD,LS,LR];refine wcm (c1 _) ?_;rintro r H' ⟨rfl,rfl⟩;simp -dsimp[];refine wcm c2 ?_;rintro r H' ⟨rfl,rfl⟩;simp -dsimp[]
theorem tbL_of{t:Tb}(h:TbS t)(hv:aH t=0):TbL t:=⟨h.ok,by have:=(tbC hv).wide;omega,by have:=h.few;omega,fun r hr=>by have:=(tbC hv).len r hr;have:=(tbC hv).wide;omega⟩
theorem is_c(t:Tb)(h:TbL t)(hz:∀r∈t.rows,∀v∈r.vals,v.s.size≤maxLen):aT Tryz.prog 12 [.ptr 0 0,aD false false t,aD false false t,.nilS] [stC t 1 false,dnC t] fun r H'=>r = .bool true∧H'=[stC t 1 false,dnC t] :=
 is_true t t (txC t) [] false false false false false .nilS .nilS .nilS false rfl (by simp[txC]) (by simp[txC,jrL]) (fun x hx c hc=>by
  simp[txC]at hx;subst hx;simp at hc;subst hc
  exact⟨h,by simp[dV]⟩) h hz hz (by simp) (stP_c t) same_e
end
end Go.Proofs.YtpedcgdgjoblkaaGreatDoor
namespace Go.Proofs.YtpedcgdgjoblkaaGreatDoor
section
open Go Go.AM Go.RowKit
theorem infoD_W:(Tryz.prog.info? 45).map (fun i=>(i.zero,i.size,i.bytes))=some (some (.agg #[.int .i64 0,.string ⟨#[]⟩,.string ⟨#[]⟩,.slice none 0 0,.slice none 0 0,.int .i64 0,.slice none 0 0,.int .i64 0,.int .i64 0,.int .i64 0,.string ⟨#[]⟩]),11,160):=by kernel_rfl
theorem cloneE_W(A:Option Addr)(cap:Nat)(w:World):
  Calls Tryz.prog 10 #[.slice A 0 cap] w fun e w'=>∃v,e = .returned v∧w'.ownsRow w.heap.size 45 11 v 0 []∧Below w.heap.size w w':=by
 have hnil:=fun W A n c=>Lib.run_eql_slice_nil (P:=Tryz.prog) W 25 45 A n c 0 0 Tryz.underlying25
 cases A with
 | none =>
  go_enter Tryz.func10,Tryz.ntmps10
  go_wp2
  go_ret
  exact⟨_,rfl,World.ownsRow_nil _ _ _ _,Below.refl _ _⟩
 | some ad =>
  obtain⟨i0,hi,hz0,hz1,hz2⟩:=info_parts infoD_W;have hown:(w.alloc (.cells #[] 45)).ownsRow w.heap.size 45 11 (.slice (some ⟨w.heap.size,0,none⟩) 0 0) 0 []:=World.ownsRow_lit w #[] 0 (kM _) (by simp[maxLen]) (by simp)
  have hnews:∀j u,([]:List Value)[j]?=some u→(w.alloc (.cells #[] 45)).cell? (ad.add j)=some u:=by
   intro j u hu;simp at hu
  have hone:∀u∈([]:List Value),u.oneCell'=true:=by intro u hu;cases hu
  have h63:0+0≤maxLen:=by simp[maxLen]
  have hby:(0+0)*160≤140737488355328:=by omega
  have hlen:([]:List Value).length=0*11:=by simp
  have Hi:=Lib.hid (show Tryz.prog.info? 45=some i0∧i0.zero=some _∧i0.size=11∧i0.bytes=160 from⟨hi,hz0,hz1,hz2⟩);have Hw:=Lib.hid (And.intro hown (And.intro hnews (And.intro hone (And.intro h63 (And.intro hby hlen)))));clear hnews hone hown hi hz0 hz1 hz2 h63 hby hlen
  go_enter Tryz.func10,Tryz.ntmps10
  go_wp2_with (at_builtin;refine wpList_append_own _ rfl _ _ 25 rfl w.heap.size 45 i0 _ 11 160 Tryz.underlying25 Hi.out.1 Hi.out.2.1 Hi.out.2.2.1 Hi.out.2.2.2 rfl (by omega) (.slice (some ⟨w.heap.size,0,none⟩) 0 0) 0 [] rfl Hw.out.1 ad 0 cap [] rfl Hw.out.2.2.2.2.2 Hw.out.2.1 Hw.out.2.2.1 Hw.out.2.2.2.1 Hw.out.2.2.2.2.1 (by simp) ?_;intro v1 w1 ho hg hn;have Ho:=Lib.hid ho;have Hg:=Lib.hid hg;have Hn:=Lib.hid hn;clear ho hg hn)
  go_ret
  exact⟨v1,rfl,by have:=Ho.out;simpa using this,((Below.refl _ _).alloc (kM _) _).grown Hg.out (by simp) (by simp[Value.ownBlock])⟩
theorem cloneN_W:∀(f:Bool),aK Tryz.prog 10 [.lst 11 f []] fun r=>r = .lst 11 false []:=fun f=>by
 have hO:df Tryz.prog 10 [.lst 11 f []] fun e z ys=>e=45∧z=11∧ys=[]:=cm ⟨Tryz.f10,Tryz.func10,rfl,rfl⟩ (fun F w vals hsz hrel=>by
  obtain⟨u0,rfl⟩:∃u0,vals = #[u0]:=by
   obtain⟨l⟩:=vals
   match l,hsz with
   | [a],_=>exact⟨a,rfl⟩
  have r0:=hrel 0 _ u0 rfl rfl;cases r0
  refine(cloneE_W _ _ _).mono fun e' w' ⟨v,he,hown,hb⟩=>⟨v,he,hb,?_⟩
  obtain⟨_,⟨hv,_⟩ | ⟨g,c,cur,hv,hg,hc,hn,hm,hs,_⟩⟩:=hown
  ·exact .inl hv
  ·exact .inr ⟨g,c,cur,hv,hg,hc,hm,hs⟩)
 refine⟨hO.1,fun F w vals hZ hF hsz hrel=>((cZ hO).2 F w vals hZ hF hsz hrel).mono fun e w' ⟨u,r,h1,h2,h3,h4,e',z,ys,h5,h6,h7,h8⟩=>?_⟩;subst h6;subst h7;subst h8;exact⟨u,r,h1,h2,h3,h4,h5⟩
theorem clone_W(l:List Ch)(f:Bool)(hl:l.length≤1000000):aK Tryz.prog 10 [.lst 11 f (l.map (aE false false))] fun r=>r = .lst 11 false (l.map (aE false false)):=by
 cases l with
 | nil=>exact cloneN_W f
 | cons x xs =>
  have hl':xs.length≤1000000:=by simp only[kw]at hl;omega
  refine sPx Tryz.func10 rfl rfl ?_;simp -dsimp[Tryz.f10,aI,gU,kD xs.length (by omega),aE,chC];exact fJ rfl (by simp) (by simp)
end
end Go.Proofs.YtpedcgdgjoblkaaGreatDoor
