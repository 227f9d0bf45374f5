/- JM46: own texts of this seat, joined and shortened by pack4.py: UE. -/
import Derived.Test.YtdnhplencamncaaGreatDoorJM40
import Derived.Test.YtdnhplencamncaaGreatDoorJM45
set_option linter.unusedVariables false
set_option linter.unusedSimpArgs false
set_option maxRecDepth 100000
set_option maxHeartbeats 64000000
open ByteArray renaming empty→oF
open List renaming replicate→oE,length_append→oT,length_map→oW,set_cons_zero→oz,map_nil→pJ
open Nat renaming mul_le_mul→qy
namespace Go.Proofs.YtdnhplencamncaaGreatDoor
section
open Go Go.AM
def plC(t u:Tb):List Ch:=(eY t u).map (cO t.name)
def encL(l:List Ch):V:=.lst 11 false (l.map (aK false false))
@[simp] theorem encL_pure (l:List Ch):AM.Pure (encL l):=by
 unfold encL
 exact(pure_lst _ _ _).2 fun x hx=>by obtain⟨c,_,rfl⟩:=List.mem_map.1 hx;simp
theorem plan_rel{t u:Tb}(h:dD t u=0){s:AM.St}{x:Value}(hr:Rel s (.tup [lE t u,.int .i64 (dD t u)]) x):Rel s (.tup [encL (plC t u),.int .i64 0]) x:=by
 rw[h]at hr;unfold lE at hr;rw[if_pos h]at hr
 cases hr with
 | tup _ us hl hh =>
  refine .tup _ us (by simpa using hl) (fun i c v hc hv=>?_)
  match i with
  | 0 =>
   simp at hc;subst hc;exact rel_toCh (hh 0 _ v rfl hv)
  | 1 =>
   simp at hc;subst hc;exact hh 1 _ v rfl hv
  | i+2=>simp at hc
theorem plan_uC{t u:Tb}(A:PlA t u)(h:dD t u=0):aJ Tryz.prog 14 [aD false false t,aD false false u] fun r=>r = .tup [encL (plC t u),.int .i64 0] :=
 conP_resR (plan_u t u false false false false A) fun s x r hr hrel=>⟨_,plan_rel h (hr▸hrel),by simp,rfl⟩
theorem plan_rC{t u:Tb}(A:PlA t u)(h:dD t u=0)(hz:∀r∈t.rows,∀v∈r.vals,v.s.size≤maxLen)(hz2:∀r∈u.rows,∀v∈r.vals,v.s.size≤maxLen):aJ Tryz.prog 27 [aD false false t,aD false false u] fun r=>r = .tup [encL (plC t u),.int .i64 0] :=
 conP_resR (plan_r t u false false false false A hz hz2) fun s x r hr hrel=>⟨_,plan_rel h (hr▸hrel),by simp,rfl⟩
def udR(l:List Ch):V:=if l=[] then .nilS else .lst 1 true []
structure RnC (t u:Tb):Prop where
 lt:TbL t
 lu:TbL u
 vt:aG t=0
 vu:aG u=0
 zt:∀r∈t.rows,∀v∈r.vals,v.s.size≤maxLen
 zu:∀r∈u.rows,∀v∈r.vals,v.s.size≤maxLen
 at_:u.attrs=t.attrs
 nm:u.name=t.name
 few:t.rows.length≤8
 fewu:u.rows.length≤8
theorem eqSs_self2(l:List ByteArray):iV l l=true:=by
 have:=fR ⟨oF,l,[]⟩;unfold eqTb at this;simp at this
 first | exact this | exact this.1 | exact this.2.1
theorem RnC.e{t u:Tb}(h:RnC t u):dD t u=0:=by
 unfold dD;rw[if_pos h.vt,if_pos h.vu,if_pos];rw[h.at_,h.nm,eqSs_self2];simp[dH]
theorem RnC.run{t u:Tb}(h:RnC t u):runT t (plC t u)=some u:=by
 have:=plan_run h.vt h.vu (by rw[h.at_]);unfold plC;rw[this];congr 1;unfold wrT;rw[←h.nm,←h.at_]
theorem RnC.eff{t u:Tb}(h:RnC t u):cy (plC t u)=plC t u:=eff_plan t u t.name
theorem tbL0:TbL tb0:=⟨⟨by decide,by decide,by decide,by simp[tb0]⟩,by decide,by decide,by simp[tb0]⟩
theorem RnC.ls{t u:Tb}(h:RnC t u):LsOk (plC t u):=by
 refine⟨?_,fun c hc=>?_⟩
 ·have q1:=nY u t.rows;have q2:=mH u t.attrs.length t.rows;have q3:=nB t u.rows;have q4:t.rows.length*t.attrs.length≤8*16:=qy h.few (tbC h.vt).wide;have:=h.few;have:=h.fewu;unfold plC eY;simp only[oW,oT];omega
 ·obtain⟨d,hd,rfl⟩:=List.mem_map.1 hc;have:=plan_mem h.vt h.vu (by rw[h.at_]) h.zt h.zu hd;exact⟨⟨by simp[cO,tb0],by simp[cO,tb0],by simp[cO,tb0],this⟩,⟨tbL0,this.1⟩⟩
theorem RnC.pl{t u:Tb}(h:RnC t u):PlA t u:=⟨h.lt.ok,h.lu.ok,by have:=h.few;omega,by have:=h.fewu;omega⟩
theorem became_l{t u:Tb}(h:RnC t u):aU Tryz.prog 11 [.ptr 0 0,aD false false t,aD false false u] [stF u false (txA t (plC t u)) .nilS] fun r H'=>r = .bool true∧H'=[stF u false (txA t (plC t u)) (udR (plC t u))]:=by
 have c1:=plan_rC h.pl h.e h.zt h.zu;have hls:=h.ls;have hsm:=same_ch (plC t u) false false (by have:=hls.len;omega) (fun c hc=>(hls.ok c hc).1)
 have hud:AM.Pure (udR (plC t u))∧(udR (plC t u)).one=true:=by unfold udR;split<;>simp[V.one]
 have d1:=is_f (l:=plC t u) false h.lt h.lu h.zt h.zu hls (ud:=.nilS) (by simp) rfl (encL_pure _) hsm;have hrun:=h.run;obtain⟨l,hl⟩:∃l,l=plC t u:=⟨_,rfl⟩;simp only[←hl]at c1 d1 hud hls hsm hrun ⊢;refine gW ?_ (by simp) (by simp[rb]) (fM u false (txA t l) hud.1 hud.2).rb1;have q0:=fM u false (txA t l) (ud:=.nilS) (by simp) rfl
 have k1:=fun G0 G1=>mv (H:=[stF u false (txA t l) .nilS,G0,G1]) (k:=0) d1 q0 (by simp) (by simp) rfl
 by_cases h0:l=[]
 ·subst h0;have e0:udR [] = .nilS:=if_pos rfl;rw[e0];obtain⟨S,hS⟩:∃S,S=stF u false (txA t []) .nilS:=⟨_,rfl⟩;simp only[←hS,aD,LS,LR,encL,pJ]at c1 k1 ⊢;refine aE tok Tryz.func11 rfl rfl ?_;refine wx ?_;simp -dsimp[Tryz.f11,oE,aD,LS,LR];refine cPx (c1) (by simp) ?_;simp -dsimp[];refine wce (k1 _ _) ?_;simp -dsimp[]
 ·have e0:udR l = .lst 1 true []:=if_neg h0;have eA:txA t l=txC t++[⟨false,l⟩]:=if_neg h0;have hlp:0<l.length:=List.length_pos_iff.2 h0;rw[e0];have u1:=undo_l t u (txC t) ⟨false,l⟩ false h.vt h.lt.ok (show l.length≤1000000 by have:=hls.len;omega) hrun (by simp[txC]);have u2:=redo_l t u (txC t) ⟨false,l⟩ h.vt h.lt.ok (show l.length≤1000000 by have:=hls.len;omega) hrun (by simp[txC]);have hn0:LsOk []:=⟨by simp,by simp⟩;have d2:=is_f (l:=[]) true h.lt h.lt h.zt h.zt hn0 (ud:=.lst 1 false [aY ⟨false,l⟩]) (by simp) rfl (L:=.nilS) (by simp) same_e;have eC:txA t []=txC t:=if_pos rfl;rw[eC]at d2;have d3:=is_f (l:=l) false h.lt h.lu h.zt h.zu hls (ud:=.lst 1 true []) (by simp) rfl (encL_pure _) hsm;rw[←eA]at u1 u2
  have k2:=fun G0 G1=>liftL (H:=[stF u false (txA t l) .nilS,G0,G1]) (k:=0) u1 q0 (fM t true (txC t) (by simp) rfl) (by simp) (by simp) rfl
  have k3:=fun G0 G1=>mv (H:=[stF t true (txC t) (.lst 1 false [aY ⟨false,l⟩]),G0,G1]) (k:=0) d2 (fM t true (txC t) (by simp) rfl) (by simp) (by simp) rfl
  have k4:=fun G0 G1=>liftL (H:=[stF t true (txC t) (.lst 1 false [aY ⟨false,l⟩]),G0,G1]) (k:=0) u2 (fM t true (txC t) (by simp) rfl) (fM u false (txA t l) (by simp) rfl) (by simp) (by simp) rfl
  have k5:=fun G0 G1=>mv (H:=[stF u false (txA t l) (.lst 1 true []),G0,G1]) (k:=0) d3 (fM u false (txA t l) (by simp) rfl) (by simp) (by simp) rfl
  obtain⟨S,hS⟩:∃S,S=stF u false (txA t l) .nilS:=⟨_,rfl⟩;obtain⟨S1,hS1⟩:∃S,S=stF t true (txC t) (.lst 1 false [aY ⟨false,l⟩]):=⟨_,rfl⟩;obtain⟨S2,hS2⟩:∃S,S=stF u false (txA t l) (.lst 1 true []):=⟨_,rfl⟩;clear u1 u2 d1 d2 d3;simp only[stF]at k2 k4 hS hS1 hS2;simp only[stF,←hS,←hS1,←hS2,aD,LS,LR,encL,oz]at c1 k1 k2 k3 k4 k5 ⊢;refine aE tok Tryz.func11 rfl rfl ?_;refine wx ?_;simp -dsimp[Tryz.f11,oE,aD,LS,LR];refine cPx (c1) (by simp) ?_;simp -dsimp[];refine wce (k1 _ _) ?_;simp -dsimp[h0,hlp,show ¬(l.length:Int)=0 by omega];refine wce (k2 _ _) ?_;simp -dsimp[];refine wce (k3 _ _) ?_;simp -dsimp[];refine wce (k4 _ _) ?_;simp -dsimp[];refine wce (k5 _ _) ?_;simp -dsimp[]
def dnF(dl:List V):B:=.buf 55 1 dl true
end
end Go.Proofs.YtdnhplencamncaaGreatDoor
