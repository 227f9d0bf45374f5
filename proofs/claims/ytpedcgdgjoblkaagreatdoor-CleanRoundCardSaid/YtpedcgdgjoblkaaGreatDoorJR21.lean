/- JR21: own texts of this seat, joined and shortened by pack4.py: TC, TD, TE, TF, TG, TH, AP, AQ, LO, SI, SJ. -/
import Derived.Test.YtpedcgdgjoblkaaGreatDoorJR20
set_option linter.unusedVariables false
set_option linter.unusedSimpArgs false
set_option maxRecDepth 100000
set_option maxHeartbeats 64000000
open Bool renaming and_eq_true→ke
open ByteArray renaming empty→kV
open List renaming replicate→aJ,getElem?_eq_getElem→kU,mem_of_getElem?→kW,getElem?_append_left→kX,getElem_mem→kZ,range→ka,getElem?_set_ne→kb,getElem?_append_right→kd,not_mem_nil→kf,mem_cons→kh,getElem?_set_self→ko,length_append→kq,getElem?_map→kv,append_assoc→kz,map_cons→lD,set_cons_zero→lE,getElem?_eq_none→lF,length_map→lG,set_cons_succ→lH,map_congr_left→lI,nil_append→lQ,getElem?_cons_succ→lR,map_nil→lS,ext_getElem?→lx,range_succ→lz,length_set→mA,cons_append→mL,flatMap_append→mn,getElem?_set→my,map_set→nL
open Nat renaming le_refl→kY,lt_or_ge→lh
open Option renaming map_some→lM
section
namespace Go.Proofs.YtpedcgdgjoblkaaGreatDoor
open Go Go.AM
end Go.Proofs.YtpedcgdgjoblkaaGreatDoor
end
namespace Go.Proofs.YtpedcgdgjoblkaaGreatDoor
section
open Go Go.AM
structure TbH (H:List B) (k:Nat) (bk:Nat→Nat) (rs:List Rw):Prop where
 hk:H[k]?=some (.buf 41 2 ((ka rs.length).map fun j=>.agg [.int .i64 (rwG rs j).id,.buf (bk j) 0 (rwG rs j).vals.length (rwG rs j).vals.length]) false)
 row:∀j,j<rs.length→H[bk j]?=some (.buf 43 3 ((rwG rs j).vals.map aH) false)
 inj:∀i j,i<rs.length→j<rs.length→bk i=bk j→i=j
 ne:∀j,j<rs.length→bk j≠k
theorem TbH.exp{H:List B}{k:Nat}{bk:Nat→Nat}{rs:List Rw}(h:TbH H k bk rs):ExpX H (.buf k 0 rs.length rs.length) (LR false rs):=by
 have:=ExpX.bufx (H:=H) k _ _ _ (rs.map aC) false h.hk (by simp) (fun i c d hc hd=>by
  by_cases hi:i<rs.length
  ·simp[hi]at hc hd;subst hc;subst hd;rw[←cK hi];have hr:=h.row i hi;exact ExpX.agg2 (.pure _ (by simp)) (jw hr (by simp) (by simp))
  ·rw[lF (by simp;omega)]at hc;cases hc)
 simp only[lG,List.length_range]at this;exact this
def setV(r:Rw)(a:Nat)(v:Vl):Rw:=⟨r.id,r.vals.set a v⟩
theorem TbH.set{H:List B}{k:Nat}{bk:Nat→Nat}{rs:List Rw}(h:TbH H k bk rs){i a:Nat}(hi:i<rs.length)(v:Vl):TbH (H.set (bk i) (.buf 43 3 (((rwG rs i).vals.map aH).set a (aH v)) false)) k bk (rs.set i (setV (rwG rs i) a v)):=by
 have hg:∀j,j<rs.length→rwG (rs.set i (setV (rwG rs i) a v)) j=if j=i then setV (rwG rs i) a v else rwG rs j:=fun j hj=>by
  rw[cK (by rw[mA];exact hj),List.getElem_set];by_cases hji:j=i
  ·subst hji;simp
  ·rw[if_neg (Ne.symm hji),if_neg hji,cK hj]
 refine⟨?_,fun j hj=>?_,fun i' j hi' hj=>h.inj i' j (by simpa using hi') (by simpa using hj),fun j hj=>h.ne j (by simpa using hj)⟩
 ·rw[kb (h.ne i hi),h.hk,mA];congr 2
  refine lI fun j hj=>?_
  have hj:=List.mem_range.1 hj;rw[hg j hj];split
  ·rename_i e;subst e;simp[setV]
  ·rfl
 ·rw[mA]at hj;rw[hg j hj];split
  ·rename_i e;subst e;rw[ko (aB (h.row j hj))];simp[setV,nL]
  ·rename_i e;rw[kb (fun e2=>e (h.inj i j hi hj e2).symm),h.row j hj]
theorem TbH.app{H:List B}{k:Nat}{bk:Nat→Nat}{rs:List Rw}(h:TbH H k bk rs)(G:List B):TbH (H++G) k bk rs :=
 ⟨by rw[kX (aB h.hk)];exact h.hk,fun j hj=>by rw[kX (aB (h.row j hj))];exact h.row j hj,h.inj,h.ne⟩
theorem TbH.other{H:List B}{k:Nat}{bk:Nat→Nat}{rs:List Rw}(h:TbH H k bk rs){x:Nat}(hx:x≠k)(hx2:∀j,j<rs.length→x≠bk j)(Y:B):TbH (H.set x Y) k bk rs :=
 ⟨by rw[kb hx];exact h.hk,fun j hj=>by rw[kb (hx2 j hj)];exact h.row j hj,h.inj,h.ne⟩
def setT(t:Tb)(i a:Nat)(v:Vl):Tb:=⟨t.name,t.attrs,t.rows.set i (setV (rwG t.rows i) a v)⟩
theorem expT{H:List B}{nm:ByteArray}{ats:List V}{m:Nat}{l:V}(hp:∀x∈ats,AM.Pure x)(h:ExpX H (.buf 7 0 m m) l):ExpX H (.tup [.agg [.str nm,.lst 1 false ats,.buf 7 0 m m],.int .i64 0]) (.tup [.agg [.str nm,.lst 1 false ats,l],.int .i64 0]):=by
 refine .tup _ _ rfl (fun i c d hc hd=>?_)
 match i with
 | 0 =>
  simp at hc hd;subst hc;subst hd;refine .agg _ _ rfl (fun j c d hc hd=>?_)
  match j with
  | 0=>simp at hc hd;subst hc;subst hd;exact .pure _ (by simp)
  | 1=>simp at hc hd;subst hc;subst hd;exact .pure _ (by simpa using hp)
  | 2=>simp at hc hd;subst hc;subst hd;exact h
  | k+3=>simp at hc
 | 1=>simp at hc hd;subst hc;subst hd;exact .pure _ (by simp)
 | k+2=>simp at hc
theorem copied_gT(H:List B)(id:Int)(vs:List Vl)(hc:aK Tryz.prog (.fn 89 []) [(.lst 3 false (vs.map aH))] (H++[B.cells [.int .i64 id,(.lst 3 false (vs.map aH))],B.cells [.int .i64 0,.nilS]]) fun r H'=>r = .buf (H.length+2) 0 vs.length vs.length∧H'=H++[B.cells [.int .i64 id,(.lst 3 false (vs.map aH))],B.cells [.int .i64 0,.nilS],B.buf 43 3 (vs.map aH) false]):
  aR Tryz.prog 112 [.agg [.int .i64 id,(.lst 3 false (vs.map aH))]] H fun x H'=>x = .agg [.int .i64 id,.buf (H.length+2) 0 vs.length vs.length]∧H'=H++cpB H.length id (.lst 3 false (vs.map aH)) vs false:=by
 refine aI tok Tryz.func112 rfl rfl ?_;refine wx ?_;simp -dsimp[Tryz.f112,aJ,ce,cd,dJ,dm,ec,eZ];refine aO (aX tok mixed [4,6] [(1,[1])] [(.buf (H.length+2) 0 vs.length vs.length,H++[B.cells [.int .i64 id,(.lst 3 false (vs.map aH))],B.cells [.int .i64 0,.nilS],B.buf 43 3 (vs.map aH) false])] (by kernel_rfl) fun C K hC hK=>?_);simp -implicitDefEqProofs [ce,cd,dJ,dm,ec,eZ];refine⟨hC _ _ _ _ hc,hK _ _ ?_⟩;simp -dsimp[ce,cd,dJ,dm,ec,eZ];simp[cpB]
theorem copied_oT(H:List B)(r:Rw)(hl:r.vals.length≤1000000):aR Tryz.prog 112 [aC r] H fun x H'=>x = .agg [.int .i64 r.id,.buf (H.length+2) 0 r.vals.length r.vals.length]∧H'=H++cpB H.length r.id (LV false r.vals) r.vals false :=
 copied_gT H r.id r.vals (by
  have:=kI (H++[B.cells [.int .i64 r.id,LV false r.vals],B.cells [.int .i64 0,.nilS]]) r.vals hl
  simpa[kz,LV] using this)
def cpT4(L:Nat)(r:Rw):List B:=B.cells [.int .i64 r.id,.lst 3 false (r.vals.map aH)]::cpB (L+1) r.id (.lst 3 false (r.vals.map aH)) r.vals false
def eh(rs:List Rw)(i:Nat):List V:=(ka i).map fun j=>.agg [.int .i64 (rwG rs j).id,.buf (11+4*j) 0 (rwG rs j).vals.length (rwG rs j).vals.length]
def dt(rs:List Rw)(i:Nat):List B:=(ka i).flatMap fun j=>cpT4 (8+4*j) (rwG rs j)
theorem dr(rs:List Rw)(i:Nat):(dt rs i).length=4*i:=by
 induction i with
 | zero=>rfl
 | succ i ih=>simp only[dt,lz,mn,kq]at ih ⊢;rw[ih];simp[cpT4,cpB];omega
theorem iM(rs:List Rw)(i:Nat):dt rs (i+1)=dt rs i++cpT4 (8+4*i) (rwG rs i):=by simp[dt,lz]
theorem elE_succ4(rs:List Rw)(i:Nat):eh rs (i+1)=eh rs i++[.agg [.int .i64 (rwG rs i).id,.buf (11+4*i) 0 (rwG rs i).vals.length (rwG rs i).vals.length]]:=by simp[eh,lz]
theorem elE_len4(rs:List Rw)(i:Nat):(eh rs i).length=i:=by simp[eh]
theorem cpG_at4(rs:List Rw){i j:Nat}(h:j<i):(dt rs i)[4*j+3]?=some (.buf 43 3 ((rwG rs j).vals.map aH) false):=by
 induction i with
 | zero=>omega
 | succ i ih =>
  rw[iM]
  rcases lh j i with e | e
  ·rw[kX (by rw[dr];omega)];exact ih e
  ·have:j=i:=by omega
   subst this;rw[kd (by rw[dr];omega),dr,show 4*j+3-4*j=3 by omega];rfl
theorem cpG_rb4(rs:List Rw)(i:Nat):∀bl∈dt rs i,rbB (8+4*i) bl:=by
 induction i with
 | zero=>intro bl h;cases h
 | succ i ih =>
  intro bl h;rw[iM]at h
  rcases List.mem_append.1 h with h | h
  ·exact gQ (by omega) (ih bl h)
  ·unfold cpT4 cpB at h;simp only[kh,kf,or_false]at h
   rcases h with rfl | rfl | rfl | rfl
   ·simp
   ·simp
   ·simp;omega
   ·simp
theorem elE_rb4(rs:List Rw)(e i:Nat)(fz:Bool):rbB (8+4*i) (.buf e 2 (eh rs i) fz):=by
 intro x hx c hc;obtain⟨j,hj,rfl⟩:=List.mem_map.1 hx;have hj:=List.mem_range.1 hj;simp[V.cells]at hc
 rcases hc with rfl | rfl
 ·trivial
 ·show 11+4*j<8+4*i;omega
theorem wh_rb4{t:Tb}{rs:List Rw}{f g:Bool}{c0 c1 c2 c3:B}(hb0:∀k,rbB k c0)(hb1:∀k,rbB k c1)(hb2:∀k,rbB k c2)(hb3:∀k,rbB k c3)(i:Nat):∀bl∈c0::c1::c2::c3::B.cells [.str t.name,.lst 1 f (t.attrs.map V.str),.lst 2 g (t.rows.map aC)]::B.cells [.str kV,.nilS,.nilS]::B.cells [.str t.name,.lst 1 false (t.attrs.map V.str),.buf 7 0 i i]::B.buf 41 2 (eh rs i) false::dt rs i,rbB (c0::c1::c2::c3::B.cells [.str t.name,.lst 1 f (t.attrs.map V.str),.lst 2 g (t.rows.map aC)]::B.cells [.str kV,.nilS,.nilS]::B.cells [.str t.name,.lst 1 false (t.attrs.map V.str),.buf 7 0 i i]::B.buf 41 2 (eh rs i) false::dt rs i).length bl:=by
 have hlen:(c0::c1::c2::c3::B.cells [.str t.name,.lst 1 f (t.attrs.map V.str),.lst 2 g (t.rows.map aC)]::B.cells [.str kV,.nilS,.nilS]::B.cells [.str t.name,.lst 1 false (t.attrs.map V.str),.buf 7 0 i i]::B.buf 41 2 (eh rs i) false::dt rs i).length=8+4*i:=by simp[dr];omega
 rw[hlen];intro bl h
 rcases List.mem_cons.1 h with rfl | h
 ·exact hb0 _
 rcases List.mem_cons.1 h with rfl | h
 ·exact hb1 _
 rcases List.mem_cons.1 h with rfl | h
 ·exact hb2 _
 rcases List.mem_cons.1 h with rfl | h
 ·exact hb3 _
 rcases List.mem_cons.1 h with rfl | h
 ·simp
 rcases List.mem_cons.1 h with rfl | h
 ·simp
 rcases List.mem_cons.1 h with rfl | h
 ·simp;omega
 rcases List.mem_cons.1 h with rfl | h
 ·exact elE_rb4 rs _ i _
 ·exact cpG_rb4 rs i bl h
theorem with_hp(t:Tb)(rs:List Rw)(f g h:Bool)(ha:t.attrs.length≤1000000)(hr:rs.length≤1000000)(hv:∀r∈rs,r.vals.length≤1000000)(c0 c1 c2 c3:B)(hb0:∀k,rbB k c0)(hb1:∀k,rbB k c1)(hb2:∀k,rbB k c2)(hb3:∀k,rbB k c3):
  aR Tryz.prog 108 [aD f g t,LR h rs] [c0,c1,c2,c3] fun x H'=>x = .agg [.str t.name,.lst 1 false (t.attrs.map V.str),.buf 7 0 rs.length rs.length]∧∃A A1 A2,H'=c0::c1::c2::c3::A::A1::A2::B.buf 41 2 (eh rs rs.length) false::dt rs rs.length∧(∀k,7<k→rbB k A∧rbB k A1∧rbB k A2):=by
 have cc:=jD t.attrs f ha;simp only[LS]at cc;refine aI tok Tryz.func108 rfl rfl ?_;refine wx ?_;simp -dsimp[Tryz.f108,aJ,aD,LS,LR];refine aO (aX tok mixed [6,7] [(0,[1]),(1,[1]),(2,[1]),(3,[1]),(4,[1]),(5,[1])] [(.lst 1 false (t.attrs.map V.str),[])] (by kernel_rfl) fun C K hC hK=>?_);simp -implicitDefEqProofs [];refine⟨⟨hC _ _ _ _ (aQ cc (by simp)),hC _ _ _ _ (aQ cc (by simp))⟩,hK _ _ ?_⟩;simp -dsimp[];refine aO (dW 41 2 [] 6 [2] rfl (cQ _ _) (by simp) (W_loopM 28 0xfff3080 (by simp[mB]<;>rfl) (σ:=Nat) (fun i=>i≤rs.length) (fun i=>rs.length-i) (fun i=>[(16,.int .i64 i)]) (fun i=>c0::c1::c2::c3::B.cells [.str t.name,.lst 1 f (t.attrs.map V.str),.lst 2 g (t.rows.map aC)]::B.cells [.str kV,.nilS,.nilS]::B.cells [.str t.name,.lst 1 false (t.attrs.map V.str),.buf 7 0 i i]::B.buf 41 2 (eh rs i) false::dt rs i) 0 (by omega) (by simp) (by simp[eh,dt]) (by simp) ?_));intro i hi N Q hN hQ;have hll:=elE_len4 rs i;have hgl:=dr rs i;by_cases hb:i<rs.length
 ·have h1:=hv rs[i] (kZ hb);have hgi:=cK hb;obtain⟨r,hre⟩:∃r,r=rs[i]:=⟨_,rfl⟩;rw[←hre]at h1 hgi;have hre':=hre.symm;have hc:=copied_oT (c0::c1::c2::c3::B.cells [.str t.name,.lst 1 f (t.attrs.map V.str),.lst 2 g (t.rows.map aC)]::B.cells [.str kV,.nilS,.nilS]::B.cells [.str t.name,.lst 1 false (t.attrs.map V.str),.buf 7 0 i i]::B.buf 41 2 (eh rs i) false::dt rs i++[B.cells [.int .i64 r.id,.lst 3 false (r.vals.map aH)]]) r h1;have hes:=elE_succ4 rs i;have hgs:=iM rs i;rw[hgi]at hes hgs
  have hlen:(c0::c1::c2::c3::B.cells [.str t.name,.lst 1 f (t.attrs.map V.str),.lst 2 g (t.rows.map aC)]::B.cells [.str kV,.nilS,.nilS]::B.cells [.str t.name,.lst 1 false (t.attrs.map V.str),.buf 7 0 i i]::B.buf 41 2 (eh rs i) false::dt rs i++[B.cells [.int .i64 r.id,.lst 3 false (r.vals.map aH)]]).length=9+4*i:=by simp[hgl];omega
  have hlen0:(c0::c1::c2::c3::B.cells [.str t.name,.lst 1 f (t.attrs.map V.str),.lst 2 g (t.rows.map aC)]::B.cells [.str kV,.nilS,.nilS]::B.cells [.str t.name,.lst 1 false (t.attrs.map V.str),.buf 7 0 i i]::B.buf 41 2 (eh rs i) false::dt rs i).length=8+4*i:=by simp[hgl];omega
  rw[hlen,show 9+4*i+2=11+4*i by omega]at hc
  have hcp:cpT4 (8+4*i) r=B.cells [.int .i64 r.id,.lst 3 false (r.vals.map aH)]::cpB (9+4*i) r.id (.lst 3 false (r.vals.map aH)) r.vals false:=by unfold cpT4;rw[show 8+4*i+1=9+4*i by omega]
  rw[hcp]at hgs;simp only[aC,LV,mL,kz,lQ,←hgs]at hc;have hrb:=wh_rb4 (t:=t) (rs:=rs) (f:=f) (g:=g) hb0 hb1 hb2 hb3 (i+1)
  have hgx:(dt rs i++[B.cells [V.int IntKind.i64 r.id,V.lst 3 false (r.vals.map aH)]])[4*i]?=some (B.cells [V.int IntKind.i64 r.id,V.lst 3 false (r.vals.map aH)]):=by rw[kd (by omega),hgl];simp
  have hgx':=cZ hgx;refine wx ?_;simp -dsimp[hb,hre',aC,LV,hgl];refine aO (aX tok mixed [3,5,7] [(1,[1])] [(.agg [.int .i64 r.id,.buf (11+4*i) 0 r.vals.length r.vals.length],c0::c1::c2::c3::B.cells [.str t.name,.lst 1 f (t.attrs.map V.str),.lst 2 g (t.rows.map aC)]::B.cells [.str kV,.nilS,.nilS]::B.cells [.str t.name,.lst 1 false (t.attrs.map V.str),.buf 7 0 i i]::B.buf 41 2 (eh rs i) false::dt rs (i+1))] (by kernel_rfl) fun C K hC hK=>?_);simp -implicitDefEqProofs [hgx,hgx',hgl,hll,kO i (by omega)];refine⟨hC _ _ _ _ hc,hK _ _ ?_⟩;simp -dsimp[aT i (by omega)];refine hN (i+1) _ _ (by omega) (by omega) (by simp) ⟨[],by simp[hes]⟩ (by simp) hrb
 ·obtain rfl:i=rs.length:=by omega
  refine wx ?_;simp -dsimp[hb];refine hQ _ _ _ ?_;simp -dsimp[];exact⟨_,_,_,⟨rfl,rfl,rfl⟩,fun k hk=>⟨by simp,by simp;exact hk,by simp;exact hk⟩⟩
theorem wh_tbh4(rs:List Rw)(c0 c1 c2 c3 c4 c5 c6:B):TbH (c0::c1::c2::c3::c4::c5::c6::B.buf 41 2 (eh rs rs.length) false::dt rs rs.length) 7 (fun j=>11+4*j) rs:=by
 refine⟨rfl,fun j hj=>?_,fun i j _ _ h=>by have h:11+4*i=11+4*j:=h;omega,fun j _=>by show 11+4*j≠7;omega⟩;have:=cpG_at4 rs hj;show(c0::c1::c2::c3::c4::c5::c6::B.buf 41 2 (eh rs rs.length) false::dt rs rs.length)[11+4*j]?=_;rw[show 11+4*j=(4*j+3)+8 by omega];simp only[lR];exact this
theorem chg_ok_u(t:Tb)(f g:Bool)(i a:Nat)(v:Vl)(h:aF t=0)(hk0:TbOk t)(hi:i<t.rows.length)(ha:a<t.attrs.length)(hv:aY v=true):aL Tryz.prog 64 [aD f g t,.agg [.int .i64 (rwG t.rows i).id,.int .i64 (a:Int)],aH v] fun r=>r = .tup [aD false false (setT t i a v),.int .i64 0]:=by
 have hm:=bn h;have hn:=(tbC h).wide;have hln0:=(tbC h).len;have c1:=bv t f g hk0;rw[h]at c1;have hgi:=cK hi;have c2:=dS t f g (rwG t.rows i).id (by omega);rw[hgi,fnd_at hi (tbC h).ids i 0 (by omega)]at c2;have c3:=dB v;rw[hv]at c3;obtain⟨n,hne⟩:∃n,n=t.attrs.length:=⟨_,rfl⟩;have hne':=hne.symm
 have hln:∀j,j<t.rows.length→(rwG t.rows j).vals.length=n:=fun j hj=>by rw[cK hj,hne];exact hln0 _ (kZ hj)
 have hli:=hln i hi;obtain⟨r,hr⟩:∃r,r=rwG t.rows i:=⟨_,rfl⟩;rw[←hr]at hgi hli ⊢;rw[←hgi]at c2;obtain⟨TB,hTB⟩:∃TB,TB=B.cells [.str t.name,.lst 1 f (t.attrs.map V.str),.lst 2 g (t.rows.map aC)]:=⟨_,rfl⟩;obtain⟨CB,hCB⟩:∃CB,CB=B.cells [.int .i64 r.id,.int .i64 (a:Int)]:=⟨_,rfl⟩;obtain⟨VB,hVB⟩:∃VB,VB=B.cells [.int .i64 v.k,.int .i64 v.n,.str v.s]:=⟨_,rfl⟩;obtain⟨ZB,hZB⟩:∃ZB,ZB=B.cells [.str kV,.nilS,.nilS]:=⟨_,rfl⟩
 have c4:=with_hp t t.rows f g g (by omega) (by omega) (fun r' hr'=>by
  have:=hln0 r' hr'
  omega) TB CB VB ZB (fun k=>by rw[hTB];simp) (fun k=>by rw[hCB];simp) (fun k=>by rw[hVB];simp) (fun k=>by rw[hZB];simp)
 rw[hTB,hCB,hVB,hZB]at c4;simp only[aD,LS,LR]at c1 c2 c4;simp only[aH]at c3;refine bp (aI tok Tryz.func64 rfl rfl ?_);refine wx ?_;simp -dsimp[Tryz.f64,aJ,aD,LS,LR,aH];refine cPx (c1) (by simp) ?_;simp -dsimp[];refine cPx (c2) (by simp) ?_;simp -dsimp[show ¬((a:Int)<0) by omega,hne',show ¬((n:Int)≤(a:Int)) by omega];refine cPx (c3) (by simp) ?_;simp -dsimp[];refine wcall_of c4 ?_;rintro r' H' ⟨rfl,A,A1,A2,hH,hrb⟩
 have htb:TbH H' 7 (fun j=>11+4*j) t.rows:=by rw[hH];exact wh_tbh4 _ _ _ _ _ _ _ _
 have e0:H'[0]?=some (B.cells [.str t.name,.lst 1 f (t.attrs.map V.str),.lst 2 g (t.rows.map aC)]):=by rw[hH];rfl
 have e1:H'[1]?=some (B.cells [.int .i64 r.id,.int .i64 (a:Int)]):=by rw[hH];rfl
 have e2:H'[2]?=some (B.cells [.int .i64 v.k,.int .i64 v.n,.str v.s]):=by rw[hH];rfl
 have e3:H'[3]?=some (B.cells [.str kV,.nilS,.nilS]):=by rw[hH];rfl
 have hlen:H'.length=8+4*t.rows.length:=by rw[hH];simp[dr];omega
 clear hH;obtain⟨L,hL⟩:∃L,L=8+4*t.rows.length:=⟨_,rfl⟩;obtain⟨k,hk⟩:∃k,k=11+4*i:=⟨_,rfl⟩;rw[←hL]at hlen
 have hkL:k<L:=by omega
 have hki:(fun j=>11+4*j) i=k:=hk.symm;have e7:=htb.hk
 have ek:H'[k]?=some (.buf 43 3 (r.vals.map aH) false):=by rw[hk,hr];exact htb.row i hi
 have gl:∀{x:Nat} {b:B},H'[x]?=some b→∀X,(H'++X)[x]?=some b:=fun {x b} hx X=>by rw[kX (aB hx)];exact hx
 obtain⟨T11,hT11⟩:∃T11,T11=B.cells [.str t.name,.lst 1 false (t.attrs.map V.str),.buf 7 0 t.rows.length t.rows.length]:=⟨_,rfl⟩
 obtain⟨EL,hEL⟩:∃EL,EL=(ka t.rows.length).map fun j=>V.agg [.int .i64 (rwG t.rows j).id,.buf (11+4*j) 0 (rwG t.rows j).vals.length (rwG t.rows j).vals.length]:=⟨_,rfl⟩
 have hELl:EL.length=t.rows.length:=by rw[hEL];simp
 have hELi:∀h:i<EL.length,EL[i] = .agg [.int .i64 r.id,.buf k 0 n n]:=fun h=>by subst hEL;simp[hk,←hr,hli]
 have e7':H'[7]?=some (B.buf 41 2 EL false):=by rw[hEL];exact e7
 have x1:=fun X=>gl e1 X
 have x2:=fun X=>gl e2 X
 have x3:=fun X=>gl e3 X
 have x7:=fun X=>gl e7' X
 have xk:=fun X=>gl ek X
 have x1':=fun X=>cZ (x1 X)
 have x2':=fun X=>cZ (x2 X)
 have x7':=fun X=>cZ (x7 X)
 have xk':=fun X=>cZ (xk X)
 have xL:∀X:List B,(H'++X)[L]?=X[0]?:=fun X=>by rw[←hlen];exact dJ H' X
 have xL':∀A X,∀h,(H'++A::X)[L]'h=A:=fun A X=>cZ (by rw[xL];rfl)
 have hvs:((r.vals.map aH).set a (V.agg [.int .i64 v.k,.int .i64 v.n,.str v.s]))=(r.vals.map aH).set a (aH v):=rfl
 have hlk:∀Y,(H'.set k Y).length=L:=fun Y=>by rw[mA,hlen]
 have hlk3:∀Y Z,((H'.set k Y).set 3 Z).length=L:=fun Y Z=>by rw[mA,mA,hlen]
 have yL:∀Y X,(H'.set k Y++X)[L]?=X[0]?:=fun Y X=>by
  have:=dJ (H'.set k Y) X
  rwa [hlk]at this
 have y3:∀Y X,(H'.set k Y++X)[3]?=some (B.cells [.str kV,.nilS,.nilS]):=fun Y X=>by
  rw[kX (by rw[hlk];omega),kb (by omega)];exact e3
 have yL':∀Y A X,∀h,(H'.set k Y++A::X)[L]'h=A:=fun Y A X=>cZ (by rw[yL];rfl)
 have y3':=fun Y X=>cZ (y3 Y X)
 have z3:∀Y Z X,((H'.set k Y).set 3 Z++X)[3]?=some Z:=fun Y Z X=>by rw[kX (by rw[hlk3];omega),ko (by rw[hlk];omega)]
 have z3':=fun Y Z X=>cZ (z3 Y Z X)
 have hLb:7<L∧3<L:=by omega
 simp -dsimp[hlen];refine aO (aX tok mixed [10] [] [] (by kernel_rfl) fun C K hC hK=>?_);simp -implicitDefEqProofs [x1,x2,x7,xk,x1',x2',x7',xk',xL,xL',hELl,hELi,hi,hlen,hLb,hkL,hli,hne',ha,show a<n by omega,aH];refine hK _ _ ?_;simp -dsimp[yL,yL',y3,y3',hlk,hlk3,z3,z3',hlen,hLb,hkL,show 3<L+1 by omega];have t1:=((htb.set (a:=a) hi v).other (x:=3) (by omega) (fun j _=>by show 3≠11+4*j;omega) (B.cells [V.str t.name,V.lst 1 false (List.map V.str t.attrs),V.buf 7 0 t.rows.length t.rows.length])).app [B.cells [V.str t.name,V.lst 1 false (List.map V.str t.attrs),V.buf 7 0 t.rows.length t.rows.length]];simp only[aD,LS,setT,←hr];refine expT (by simp) ?_;have t2:=t1.exp;rw[mA,←hr]at t2;rw[hk];exact t2
theorem chg_set{rs:List Rw}(hs:Srt rs){i:Nat}(h:i<rs.length)(a:Nat)(v:Vl):eR rs rs[i].id a v=rs.set i (setV (rwG rs i) a v):=by
 have hp:=List.pairwise_iff_getElem.1 hs
 refine lx fun j=>?_
 unfold eR;rw[kv,my];by_cases hj:j<rs.length
 ·rw[kU hj,lM];by_cases e:i=j
  ·subst e;rw[if_pos rfl,if_pos rfl,if_pos h,cK h];rfl
  ·rw[if_neg e,if_neg];intro e2
   rcases Nat.lt_or_gt_of_ne e with q | q
   ·have:=hp i j h hj q;omega
   ·have:=hp j i hj h q;omega
 ·rw[lF (by omega),if_neg (by omega)];rfl
def kL(t:Tb)(id a:Int)(v:Vl):Int:=if inT t id=true then(if a<0∨(t.attrs.length:Int)≤a then 6 else if aY v=true then 0 else 1) else 4
def kK(t:Tb)(id a:Int)(v:Vl):V:=.tup [if kL t id a v=0 then aD false false (wrT t (eR t.rows id a.toNat v)) else zTb,.int .i64 (kL t id a v)]
theorem gn{t:Tb}{id a:Int}{v:Vl}{e:Int}(h:kL t id a v=e)(h0:¬e=0):kK t id a v = .tup [zTb,.int .i64 e]:=by
 unfold kK;rw[h,if_neg h0]
theorem chgV_ok{t:Tb}{id a:Int}{v:Vl}(h:inT t id=true)(h1:¬a<0)(h2:¬(t.attrs.length:Int)≤a)(h3:aY v=true):kL t id a v=0:=by
 unfold kL;rw[if_pos h,if_neg (by omega),if_pos h3]
theorem chg_ok{t:Tb}{id a:Int}{v:Vl}(hv:aF t=0)(h:inT t id=true)(h1:¬a<0)(h2:¬(t.attrs.length:Int)≤a)(h3:aY v=true):∃i:Nat,∃_:i<t.rows.length,∃b:Nat,b<t.attrs.length∧a=(b:Int)∧(rwG t.rows i).id=id∧kK t id a v = .tup [aD false false (setT t i b v),.int .i64 0]:=by
 have hkl:=fB 0 h;obtain⟨hid,_⟩:=jq 0 h;obtain⟨b,hb⟩:=Int.eq_ofNat_of_zero_le (show 0≤a by omega);refine⟨_,hkl,b,by omega,hb,hid,?_⟩;have e:=chg_set (bH hv) hkl b v;rw[←cK hkl,hid]at e;unfold kK;rw[chgV_ok h h1 h2 h3,if_pos rfl,hb];simp only[Int.toNat_natCast];rw[e];rfl
theorem change_u(t:Tb)(f g:Bool)(id a:Int)(v:Vl)(hv:aF t=0)(hk:TbOk t):aL Tryz.prog 64 [aD f g t,.agg [.int .i64 id,.int .i64 a],aH v] fun r=>r=kK t id a v:=by
 have c1:=bv t f g hk;rw[hv]at c1;have hr:=bn hv;have cf:=dS t f g id (by omega);have c3:=dB v;obtain⟨k,hke⟩:∃k,k=(fnd t.rows id 0).1:=⟨_,rfl⟩;by_cases hin:inT t id=true
 case neg =>
  have hin':(fnd t.rows id 0).2=false:=by simpa[inT] using hin
  rw[hin',←hke]at cf;have e:kK t id a v = .tup [zTb,.int .i64 4]:=gn (by unfold kL;rw[if_neg hin]) (by decide);rw[e];simp only[aD,LS,LR]at c1 cf;refine sPx Tryz.func64 rfl rfl ?_;simp -dsimp[Tryz.f64,aJ,aD,LS,LR,aH];refine cPx (c1) (by simp) ?_;simp -dsimp[];refine cPx (cf) (by simp) ?_;simp -dsimp[];rfl
 have hin':(fnd t.rows id 0).2=true:=hin;by_cases h1:a<0
 case pos =>
  rw[hin',←hke]at cf;have e:kK t id a v = .tup [zTb,.int .i64 6]:=gn (by unfold kL;rw[if_pos hin,if_pos (Or.inl h1)]) (by decide);rw[e];simp only[aD,LS,LR]at c1 cf;refine sPx Tryz.func64 rfl rfl ?_;simp -dsimp[Tryz.f64,aJ,aD,LS,LR,aH];refine cPx (c1) (by simp) ?_;simp -dsimp[];refine cPx (cf) (by simp) ?_;simp -dsimp[h1];rfl
 by_cases h2:(t.attrs.length:Int)≤a
 case pos =>
  rw[hin',←hke]at cf;have e:kK t id a v = .tup [zTb,.int .i64 6]:=gn (by unfold kL;rw[if_pos hin,if_pos (Or.inr h2)]) (by decide);rw[e];simp only[aD,LS,LR]at c1 cf;refine sPx Tryz.func64 rfl rfl ?_;simp -dsimp[Tryz.f64,aJ,aD,LS,LR,aH];refine cPx (c1) (by simp) ?_;simp -dsimp[];refine cPx (cf) (by simp) ?_;simp -dsimp[h1,h2];rfl
 cases h3:aY v with
 | false =>
  rw[hin',←hke]at cf;rw[h3]at c3;have e:kK t id a v = .tup [zTb,.int .i64 1]:=gn (by unfold kL;rw[if_pos hin,if_neg (show ¬(a<0∨(t.attrs.length:Int)≤a) by omega),if_neg (by simp[h3])]) (by decide);rw[e];simp only[aD,LS,LR]at c1 cf;simp only[aH]at c3;refine sPx Tryz.func64 rfl rfl ?_;simp -dsimp[Tryz.f64,aJ,aD,LS,LR,aH];refine cPx (c1) (by simp) ?_;simp -dsimp[];refine cPx (cf) (by simp) ?_;simp -dsimp[h1,h2];refine cPx (c3) (by simp) ?_;simp -dsimp[];rfl
 | true =>
  obtain⟨i,hi,b,hb,rfl,hid,e⟩:=chg_ok hv hin h1 h2 h3;rw[e,←hid];exact chg_ok_u t f g i b v hv hk hi hb h3
theorem jA{t:Tb}{nm:ByteArray}(h:nm=t.name):ixT (fun t=>t.name.toList == nm.toList) [t] 0=0:=by
 rw[ixT];simp[h]
theorem apply_ins(t:Tb)(g f1 g1:Bool)(tb:Tb)(row:Rw)(a:Int)(v:Vl)(hv:aF t=0)(hk:TbOk t)(hrl:row.vals.length≤1000000)(he:bF t row=0):
  aL Tryz.prog 82 [.agg [LTb g [t]],aG f1 g1 ⟨2,t.name,tb,row,a,v⟩] fun x=>x = .tup [.agg [LTb false [wrT t (dk t.rows row)]],.int .i64 0]:=by
 have c1:=jt [t] g t.name (by simp);rw[jA rfl]at c1;have c2:=insert_u t false false row hv hk hrl;rw[insV_ok he]at c2;have c3:=kJ [t] g (by simp);obtain⟨D,hD⟩:∃D,D=dk t.rows row:=⟨_,rfl⟩;rw[←hD]at c2 ⊢;simp only[LTb,aD,LS,LR,aC,LV,lD,lS,wrT]at c1 c2 c3;refine bp (aI tok Tryz.func82 rfl rfl ?_);refine wx ?_;simp -dsimp[Tryz.f82,aJ,aG,chC,aD,LS,LR,LTb,aC,LV];refine cPx (c1) (by simp) ?_;simp -dsimp[];refine cPx (c2) (by simp) ?_;simp -dsimp[];refine(fc c3 (by simp)).mono ?_;rintro x H' ⟨e,z,ys,rfl,rfl,_,rfl,rfl,rfl⟩;simp -dsimp[];exact exp_db rfl (by simp)
theorem apply_del(t:Tb)(g f1 g1:Bool)(tb:Tb)(row:Rw)(a:Int)(v:Vl)(hv:aF t=0)(hk:TbOk t)(hrl:row.vals.length≤1000000)(hi:cD t row=true):
  aL Tryz.prog 82 [.agg [LTb g [t]],aG f1 g1 ⟨3,t.name,tb,row,a,v⟩] fun x=>x = .tup [.agg [LTb false [wrT t (cX t.rows row.id)]],.int .i64 0]:=by
 unfold cD at hi;rw[ke,decide_eq_true_iff]at hi;obtain⟨hin,hvals⟩:=hi;have hr:=bn hv;have hvr:=am hv;have hin':(fnd t.rows row.id 0).2=true:=hin;have hkl:=fB 0 hin';have c1:=jt [t] g t.name (by simp);rw[jA rfl]at c1;have c2:=dS t false false row.id (by omega);rw[hin']at c2;have hat:atT t row.id=rwG t.rows (fnd t.rows row.id 0).1:=rfl;rw[hat,cK hkl]at hvals;obtain⟨k,hke⟩:∃k,k=(fnd t.rows row.id 0).1:=⟨_,rfl⟩;simp only[←hke]at c2 hkl hvals
 have hrv:t.rows[k].vals.length≤1000000:=by
  have:=(hvr _ (kZ hkl)).2.1;have:=hk.attrs;omega
 have c3:=jL t.rows[k].vals row.vals false false hrv;obtain⟨rk,hrk⟩:∃rk,rk=t.rows[k]:=⟨_,rfl⟩;rw[←hrk]at hvals c3;rw[decide_eq_true hvals]at c3;have c4:=delete_u t false false row.id hv hk;unfold delV at c4;rw[if_pos hin]at c4;have c5:=kJ [t] g (by simp);obtain⟨D,hD⟩:∃D,D=cX t.rows row.id:=⟨_,rfl⟩;rw[←hD]at c4 ⊢;simp only[LTb,aD,LS,LR,LV,aH,lD,lS,wrT]at c1 c2 c3 c4 c5;refine bp (aI tok Tryz.func82 rfl rfl ?_);refine wx ?_;simp -dsimp[Tryz.f82,aJ,aG,chC,aD,LS,LR,LTb];refine cPx (c1) (by simp) ?_;simp -dsimp[];refine cPx (c2) (by simp) ?_;simp -dsimp[hkl,hrk.symm,aC,LV];refine .inr ⟨aU (by kernel_rfl),?_⟩;refine bD _ (aQ (c3) (by simp)) ?_;simp -dsimp[];refine cPx (c4) (by simp) ?_;simp -dsimp[];refine(fc c5 (by simp)).mono ?_;rintro x H' ⟨e,z,ys,rfl,rfl,_,rfl,rfl,rfl⟩;simp -dsimp[];exact exp_db rfl (by simp)
theorem apply_chg(t:Tb)(g f1 g1:Bool)(tb:Tb)(row:Rw)(a:Int)(v:Vl)(hv:aF t=0)(hk:TbOk t)(hrl:row.vals.length≤1000000)(hi:cD t row=true)(ha:0≤a)(ha2:a<t.attrs.length)(hvv:aY v=true):
  aL Tryz.prog 82 [.agg [LTb g [t]],aG f1 g1 ⟨4,t.name,tb,row,a,v⟩] fun x=>x = .tup [.agg [LTb false [wrT t (eR t.rows row.id a.toNat v)]],.int .i64 0]:=by
 unfold cD at hi;rw[ke,decide_eq_true_iff]at hi;obtain⟨hin,hvals⟩:=hi;have hr:=bn hv;have hvr:=am hv;have hin':(fnd t.rows row.id 0).2=true:=hin;have hkl:=fB 0 hin';have c1:=jt [t] g t.name (by simp);rw[jA rfl]at c1;have c2:=dS t false false row.id (by omega);rw[hin']at c2;have hat:atT t row.id=rwG t.rows (fnd t.rows row.id 0).1:=rfl;rw[hat,cK hkl]at hvals;obtain⟨k,hke⟩:∃k,k=(fnd t.rows row.id 0).1:=⟨_,rfl⟩;simp only[←hke]at c2 hkl hvals
 have hrv:t.rows[k].vals.length≤1000000:=by
  have:=(hvr _ (kZ hkl)).2.1;have:=hk.attrs;omega
 have c3:=jL t.rows[k].vals row.vals false false hrv;obtain⟨rk,hrk⟩:∃rk,rk=t.rows[k]:=⟨_,rfl⟩;rw[←hrk]at hvals c3;rw[decide_eq_true hvals]at c3;have c4:=change_u t false false row.id a v hv hk;unfold kK at c4;rw[chgV_ok hin (by omega) (by omega) hvv,if_pos rfl]at c4;have c5:=kJ [t] g (by simp);obtain⟨D,hD⟩:∃D,D=eR t.rows row.id a.toNat v:=⟨_,rfl⟩;rw[←hD]at c4 ⊢;simp only[LTb,aD,LS,LR,LV,aH,lD,lS,wrT]at c1 c2 c3 c4 c5;refine bp (aI tok Tryz.func82 rfl rfl ?_);refine wx ?_;simp -dsimp[Tryz.f82,aJ,aG,chC,aD,LS,LR,LTb];refine cPx (c1) (by simp) ?_;simp -dsimp[];refine cPx (c2) (by simp) ?_;simp -dsimp[hkl,hrk.symm,aC,LV];refine .inr ⟨aU (by kernel_rfl),?_⟩;refine bD _ (aQ (c3) (by simp)) ?_;simp -dsimp[];refine cPx (c4) (by simp) ?_;simp -dsimp[];refine(fc c5 (by simp)).mono ?_;rintro x H' ⟨e,z,ys,rfl,rfl,_,rfl,rfl,rfl⟩;simp -dsimp[];exact exp_db rfl (by simp)
theorem kR(t u:Tb)(c:Ch)(g f1 g1:Bool)(hv:aF t=0)(hk:TbOk t)(hrl:c.row.vals.length≤1000000)(hs:af t c=some u):aL Tryz.prog 82 [.agg [LTb g [t]],aG f1 g1 c] fun x=>x = .tup [.agg [LTb false [u]],.int .i64 0]:=by
 obtain⟨k,nm,tb,row,a,v⟩:=c;unfold af at hs;simp only at hs hrl;by_cases hn:nm=t.name
 case neg=>rw[if_neg hn]at hs;cases hs
 rw[if_pos hn]at hs;subst hn;by_cases h2:k=2
 ·rw[if_pos h2]at hs;subst h2;by_cases he:bF t row=0
  ·rw[if_pos he]at hs;cases hs;exact apply_ins t g f1 g1 tb row a v hv hk hrl he
  ·rw[if_neg he]at hs;cases hs
 ·rw[if_neg h2]at hs;by_cases hi:cD t row=true
  case neg=>rw[if_neg hi]at hs;cases hs
  rw[if_pos hi]at hs;by_cases h3:k=3
  ·rw[if_pos h3]at hs;subst h3;cases hs;exact apply_del t g f1 g1 tb row a v hv hk hrl hi
  ·rw[if_neg h3]at hs;by_cases h4:k=4
   ·rw[if_pos h4]at hs;subst h4;by_cases hc:0≤a∧a<t.attrs.length∧aY v=true
    ·rw[if_pos hc]at hs;cases hs;exact apply_chg t g f1 g1 tb row a v hv hk hrl hi hc.1 hc.2.1 hc.2.2
    ·rw[if_neg hc]at hs;cases hs
   ·rw[if_neg h4]at hs;cases hs
def nwS(nl:List V):B:=.buf 45 11 nl false
theorem perform_o(t u:Tb)(c:Ch)(g:Bool)(hv:aF t=0)(hk:TbOk t)(hrl:c.row.vals.length≤1000000)(hs:af t c=some u)(dn ud:V)(D:B)(nl:List V)(m:Nat)(hm:nl.length=m)(hml:m≤1000000)(hD:∀n,2≤n→rbB n D):
  aR Tryz.prog 59 [.ptr 0 0,aG false false c] [stB (LTb g [t]) dn ud true (.buf 2 0 m m),D,nwS nl] fun r H'=>r = .int .i64 0∧∃G,H'=[stB (LTb false [u]) dn ud true (.buf 2 0 (m+1) (m+1)),D,nwS (nl++[aG false false c])]++G:=by
 have c1:=kR t u c g false false hv hk hrl hs;simp only[aG,chC,LTb,aD,LS,LR,lD,lS]at c1;refine aI tok Tryz.func59 rfl rfl ?_;refine wx ?_;simp -dsimp[Tryz.f59,aJ,aG,chC,LTb,aD,LS,LR,stB,nwS];refine aO (aX tok mixed [9,10] [(0,[1]),(1,[1]),(2,[1]),(3,[1]),(4,[1]),(5,[1]),(6,[1]),(7,[1]),(8,[1,2])] [(.tup [.agg [.lst 3 false [.agg [.str u.name,.lst 1 false (u.attrs.map V.str),.lst 2 false (u.rows.map aC)]]],.int .i64 0],[])] (by kernel_rfl) fun C K hC hK=>?_);simp -implicitDefEqProofs [];refine⟨⟨hC _ _ _ _ (aQ c1 (by simp)),hC _ _ _ _ (aQ c1 (by simp))⟩,hK _ _ ?_⟩;simp -dsimp[hm];refine aO (aX tok mixed [7,10] [(0,[1])] [] (by kernel_rfl) fun C K hC hK=>?_);simp -implicitDefEqProofs [hm,capG m hml];refine hK _ _ ?_;simp -dsimp[hm,capG m hml]
 all_goals exact⟨rfl,rfl⟩
def g3(k L M:Nat)(i:Nat):Nat:=if i=0 then k else if i=1 then L else M
theorem lift3{P:Program}{f:FuncId}{args0 args:List V}{A0 A1 A2 B0 B1 B2 C0 C1 C2 D0 D1 D2:B}{r0:V}{H:List B}{k L M:Nat}(h:aR P f args0 [A0,A1,A2] fun r H'=>r=r0∧H'=[C0,C1,C2])
  (hkL:k≠L) (hkM:k≠M) (hLM:L≠M) (h0:H[k]?=some B0) (h1:H[L]?=some B1) (h2:H[M]?=some B2) (R0:RenB (g3 k L M) 3 A0 B0) (R1:RenB (g3 k L M) 3 A1 B1) (R2:RenB (g3 k L M) 3 A2 B2) (S0:RenB (g3 k L M) 3 C0 D0) (S1:RenB (g3 k L M) 3 C1 D1) (S2:RenB (g3 k L M) 3 C2 D2)
  (hal:args0.length=args.length) (ha:∀(i:Nat) a b,args0[i]?=some a→args[i]?=some b→Ren (g3 k L M) 3 a b) (hr:AM.Pure r0):aR P f args H fun r H'=>r=r0∧H'=((H.set k D0).set L D1).set M D2:=by
 have hk:=aB h0;have hL:=aB h1;have hM:=aB h2;refine fV 3 3 (g3 k L M) h rfl rfl (kY _) (fun i j hi hj e=>?_) (fun i hi=>?_) (fun i h1 h2=>absurd h1 (by omega)) (fun i b hb=>?_) (fun i b hb=>?_) (by simp) (fun j hj hno=>?_) hal ha hr
 ·match i,j,hi,hj with
  | 0,0,_,_=>rfl
  | 0,1,_,_=>simp[g3]at e;exact absurd e hkL
  | 0,2,_,_=>simp[g3]at e;exact absurd e hkM
  | 1,0,_,_=>simp[g3]at e;exact absurd e.symm hkL
  | 1,1,_,_=>rfl
  | 1,2,_,_=>simp[g3]at e;exact absurd e hLM
  | 2,0,_,_=>simp[g3]at e;exact absurd e.symm hkM
  | 2,1,_,_=>simp[g3]at e;exact absurd e.symm hLM
  | 2,2,_,_=>rfl
 ·match i,hi with
  | 0,_=>exact hk
  | 1,_=>exact hL
  | 2,_=>exact hM
 ·match i with
  | 0=>simp at hb;subst hb;exact⟨_,h0,R0⟩
  | 1=>simp at hb;subst hb;exact⟨_,h1,R1⟩
  | 2=>simp at hb;subst hb;exact⟨_,h2,R2⟩
  | i+3=>simp at hb
 ·match i with
  | 0 =>
   simp at hb;subst hb;exact⟨D0,by show(((H.set k D0).set L D1).set M D2)[k]?=_;rw[kb (Ne.symm hkM),kb (Ne.symm hkL),ko hk],S0⟩
  | 1 =>
   simp at hb;subst hb;exact⟨D1,by show(((H.set k D0).set L D1).set M D2)[L]?=_;rw[kb (Ne.symm hLM),ko (by simpa using hL)],S1⟩
  | 2 =>
   simp at hb;subst hb;exact⟨D2,by show(((H.set k D0).set L D1).set M D2)[M]?=_;rw[ko (by simpa using hM)],S2⟩
  | i+3=>simp at hb
 ·have n0:k≠j:=hno 0 (by omega);have n1:L≠j:=hno 1 (by omega);have n2:M≠j:=hno 2 (by omega);rw[kb n2,kb n1,kb n0]
theorem ren_so{g:Nat→Nat}{n m q:Nat}{db ud:V}{o:Bool}(h1:1<n)(h2:2<n)(hd:AM.Pure db)(hu:AM.Pure ud)(o1:db.one=true)(o2:ud.one=true):RenB g n (stB db (.buf 1 0 m m) ud o (.buf 2 0 q q)) (stB db (.buf (g 1) 0 m m) ud o (.buf (g 2) 0 q q)):=by
 refine .cells _ _ rfl (fun c hc=>?_) (fun i c d hc hd'=>?_)
 ·simp only[kh,kf,or_false]at hc
  rcases hc with rfl | rfl | rfl | rfl | rfl<;>first | rfl | assumption
 ·match i with
  | 0=>simp at hc hd';subst hc;subst hd';exact .pure _ hd
  | 1=>simp at hc hd';subst hc;subst hd';exact .buf 1 0 m m h1
  | 2=>simp at hc hd';subst hc;subst hd';exact .pure _ hu
  | 3=>simp at hc hd';subst hc;subst hd';exact .pure _ (.bool _)
  | 4=>simp at hc hd';subst hc;subst hd';exact .buf 2 0 q q h2
  | i+5=>simp at hc
theorem ren_nw{g:Nat→Nat}{n:Nat}{nl:List V}(h:∀x∈nl,AM.Pure x):RenB g n (nwS nl) (nwS nl):=.buf _ _ _ _ h
structure StO (db ud:V) (dl nl:List V):Prop where
 qdb:AM.Pure db
 qud:AM.Pure ud
 qdl:∀x∈dl,AM.Pure x
 qnl:∀x∈nl,AM.Pure x
 rdb:db.one=true
 rud:ud.one=true
 rdl:∀x∈dl,∀c∈x.cells,c.one=true
 rnl:∀x∈nl,∀c∈x.cells,c.one=true
theorem StO.rb{db ud:V}{dl nl:List V}{m q:Nat}{o:Bool}(h:StO db ud dl nl):∀bl∈[stB db (.buf 1 0 m m) ud o (.buf 2 0 q q),dnS dl,nwS nl],rbB 3 bl:=fun bl hbl=>by
 simp only[kh,kf,or_false]at hbl
 rcases hbl with rfl | rfl | rfl
 ·intro c hc;simp only[kh,kf,or_false]at hc
  rcases hc with rfl | rfl | rfl | rfl | rfl
  ·exact bS h.qdb h.rdb
  ·show 1<3;omega
  ·exact bS h.qud h.rud
  ·simp[rb,rb1]
  ·show 2<3;omega
 ·exact(cP h.qdl h.rdl).2 trivial
 ·exact(cP h.qnl h.rnl).2 trivial
theorem gT{P:Program}{f:FuncId}{ar:List V}{db ud db' ud' r0:V}{dl dl' nl nl':List V}{m m' q q':Nat}{o o':Bool}{H:List B}{k L M:Nat}
  (h:aR P f (.ptr 0 0::ar) [stB db (.buf 1 0 m m) ud o (.buf 2 0 q q),dnS dl,nwS nl] fun r H'=>r=r0∧H'=[stB db' (.buf 1 0 m' m') ud' o' (.buf 2 0 q' q'),dnS dl',nwS nl'])
  (p:StO db ud dl nl) (p':StO db' ud' dl' nl') (has:∀a∈ar,AM.Pure a) (hr:AM.Pure r0) (hkL:k≠L) (hkM:k≠M) (hLM:L≠M) (h0:H[k]?=some (stB db (.buf L 0 m m) ud o (.buf M 0 q q))) (h1:H[L]?=some (dnS dl)) (h2:H[M]?=some (nwS nl)):
  aR P f (.ptr k 0::ar) H fun r H'=>r=r0∧H'=((H.set k (stB db' (.buf L 0 m' m') ud' o' (.buf M 0 q' q'))).set L (dnS dl')).set M (nwS nl'):=by
 have e:g3 k L M 1=L:=rfl;have e2:g3 k L M 2=M:=rfl;refine lift3 h hkL hkM hLM h0 h1 h2 ?_ (iA p.qdl) (ren_nw p.qnl) ?_ (iA p'.qdl) (ren_nw p'.qnl) rfl (fun i a b ha hb=>?_) hr
 ·have:=ren_so (g:=g3 k L M) (n:=3) (m:=m) (q:=q) (o:=o) (by omega) (by omega) p.qdb p.qud p.rdb p.rud
  rwa [e,e2]at this
 ·have:=ren_so (g:=g3 k L M) (n:=3) (m:=m') (q:=q') (o:=o') (by omega) (by omega) p'.qdb p'.qud p'.rdb p'.rud
  rwa [e,e2]at this
 ·cases i with
  | zero =>
   simp at ha hb;subst ha;subst hb;exact .ptr 0 0 (by omega)
  | succ i =>
   simp only[lR]at ha hb;rw[ha]at hb;cases hb;exact .pure _ (has _ (kW ha))
theorem encCh_one(c:Ch):∀x∈(aG false false c).cells,x.one=true:=by simp[aG,chC,V.cells,V.one]
theorem StO.step{t u:Tb}{g:Bool}{ud:V}{dl nl:List V}(h:StO (LTb g [t]) ud dl nl)(c:Ch):StO (LTb false [u]) ud dl (nl++[aG false false c]):=
 ⟨by simp,h.qud,h.qdl,fun x hx=>by
  rcases List.mem_append.1 hx with q | q
  ·exact h.qnl x q
  ·rw[List.mem_singleton.1 q];simp,rfl,h.rud,h.rdl,fun x hx=>by
  rcases List.mem_append.1 hx with q | q
  ·exact h.rnl x q
  ·rw[List.mem_singleton.1 q];exact encCh_one c⟩
theorem iB(t u:Tb)(c:Ch)(g:Bool)(hv:aF t=0)(hk:TbOk t)(hrl:c.row.vals.length≤1000000)(hs:af t c=some u)(ud:V)(dl nl:List V)(m q:Nat)(hq:nl.length=q)(hql:q≤1000000)(p:StO (LTb g [t]) ud dl nl):
  aR Tryz.prog 59 [.ptr 0 0,aG false false c] [stB (LTb g [t]) (.buf 1 0 m m) ud true (.buf 2 0 q q),dnS dl,nwS nl] fun r H'=>r = .int .i64 0∧H'=[stB (LTb false [u]) (.buf 1 0 m m) ud true (.buf 2 0 (q+1) (q+1)),dnS dl,nwS (nl++[aG false false c])] :=
 fZ (perform_o t u c g hv hk hrl hs (.buf 1 0 m m) ud (dnS dl) nl q hq hql (fun n hn=>(cP p.qdl p.rdl).2 trivial)) (by simp) (by simp[rb,rb1]) (p.step c).rb
theorem wcE{P:Program}{f:FuncId}{args:List V}{H H0:List B}{r0:V}{K:V→List B→Prop}(h:aR P f args H fun r H'=>r=r0∧H'=H0)(hk:K r0 H0):aK P (.fn f []) args H K :=
 wcm h fun _ _ hh=>hh.1▸hh.2▸hk
theorem le_ch{p k nm id vs a vk vn vv:V} : ∀(i:Nat) x y,[p,.agg [k,nm,.str kV,.nilS,.nilS,id,vs,a,vk,vn,vv]][i]?=some x→[p,.agg [k,nm,.str kV,.lst 1 false [],.lst 2 false [],id,vs,a,vk,vn,vv]][i]?=some y→Le x y:=fun i x y hx hy=>by
 match i with
 | 0=>simp at hx hy;subst hx;subst hy;exact .refl _
 | 1 =>
  simp at hx hy;subst hx;subst hy;refine .agg _ _ rfl (fun j u v hu hv=>?_)
  match j with
  | 0=>simp at hu hv;subst hu;subst hv;exact .refl _
  | 1=>simp at hu hv;subst hu;subst hv;exact .refl _
  | 2=>simp at hu hv;subst hu;subst hv;exact .refl _
  | 3=>simp at hu hv;subst hu;subst hv;exact .nil _ _
  | 4=>simp at hu hv;subst hu;subst hv;exact .nil _ _
  | 5=>simp at hu hv;subst hu;subst hv;exact .refl _
  | 6=>simp at hu hv;subst hu;subst hv;exact .refl _
  | 7=>simp at hu hv;subst hu;subst hv;exact .refl _
  | 8=>simp at hu hv;subst hu;subst hv;exact .refl _
  | 9=>simp at hu hv;subst hu;subst hv;exact .refl _
  | 10=>simp at hu hv;subst hu;subst hv;exact .refl _
  | j+11=>simp at hu
 | i+2=>simp at hx
theorem insert_o(u w:Tb)(row:Rw)(g:Bool)(hv:aF u=0)(hk:TbOk u)(hrl:row.vals.length≤1000000)(hs:af u ⟨2,u.name,tb0,row,0,vl0⟩=some w)(ud:V)(dl nl:List V)(m q:Nat)(hq:nl.length=q)(hql:q≤1000000)(p:StO (LTb g [u]) ud dl nl):
  aR Tryz.prog 65 [.ptr 0 0,.str u.name,aC row] [stB (LTb g [u]) (.buf 1 0 m m) ud true (.buf 2 0 q q),dnS dl,nwS nl] fun r H'=>r = .int .i64 0∧H'=[stB (LTb false [w]) (.buf 1 0 m m) ud true (.buf 2 0 (q+1) (q+1)),dnS dl,nwS (nl++[aG false false ⟨2,u.name,tb0,row,0,vl0⟩])]:=by
 refine fZ ?_ (by simp) (by simp[rb,rb1]) (p.step _).rb;have c1:=row_s row hrl
 have c2:=fun G=>gT (H:=[stB (LTb g [u]) (.buf 1 0 m m) ud true (.buf 2 0 q q),dnS dl,nwS nl,G]) (k:=0) (L:=1) (M:=2) (iB u w ⟨2,u.name,tb0,row,0,vl0⟩ g hv hk hrl hs ud dl nl m q hq hql p) p (p.step _) (by simp) (by simp) (by decide) (by decide) (by decide) rfl rfl rfl
 obtain⟨S,hS⟩:∃S,S=stB (LTb g [u]) (.buf 1 0 m m) ud true (.buf 2 0 q q):=⟨_,rfl⟩;obtain⟨S1,hS1⟩:∃S,S=stB (LTb false [w]) (.buf 1 0 m m) ud true (.buf 2 0 (q+1) (q+1)):=⟨_,rfl⟩;obtain⟨D,hD⟩:∃D,D=dnS dl:=⟨_,rfl⟩;obtain⟨N,hN⟩:∃N,N=nwS nl:=⟨_,rfl⟩;obtain⟨N1,hN1⟩:∃N,N=nwS (nl++[aG false false ⟨2,u.name,tb0,row,0,vl0⟩]):=⟨_,rfl⟩;simp only[←hS,←hS1,←hD,←hN,←hN1,lE,lH]at c2 ⊢;simp only[aC,LV,aG,chC,tb0,vl0,lS]at c1 c2;refine aI tok Tryz.func65 rfl rfl ?_;refine wx ?_;simp -dsimp[Tryz.f65,aJ,aC,LV];refine cPx (c1) (by simp) ?_;simp -dsimp[];refine wcE (jC (c2 _) rfl le_ch) ?_;simp -dsimp[]
theorem cut1P{P:Program}{f:FuncId}{args:List V}{H Hf:List B}{r0:V}(h:aR P f args H fun r H'=>r=r0∧∃G,H'=Hf++G)(hl:H.length≤Hf.length)(hp:AM.Pure r0)(hb:∀bl∈Hf,rbB Hf.length bl):aR P f args H fun r H'=>r=r0∧H'=Hf:=by
 refine⟨h.1,fun s vals h1 h2 h3 h4=>(h.2 s vals h1 h2 h3 h4).mono fun e w' ⟨u,s',r,a,b,c,d,e1,k1,G,k3⟩=>?_⟩;subst k1;exact⟨u,s'.cut Hf,r,a,b,dq c k3 hb,dK c k3 (Step.refl _) s d (by rw[h1.1];exact hl),Rel.pure_ e1 hp (fun b hb=>⟨bt k3 hb,rfl⟩),rfl,rfl⟩
theorem kQ(u:Tb)(id:Int)(g:Bool)(hv:aF u=0)(hk:TbOk u)(hin:inT u id=true)(ud:V)(dl nl:List V)(m q:Nat)(p:StO (LTb g [u]) ud dl nl):
  aR Tryz.prog 115 [.ptr 0 0,.str u.name,.int .i64 id] [stB (LTb g [u]) (.buf 1 0 m m) ud true (.buf 2 0 q q),dnS dl,nwS nl] fun r H'=>r = .tup [aC (atT u id),.int .i64 0]∧H'=[stB (LTb g [u]) (.buf 1 0 m m) ud true (.buf 2 0 q q),dnS dl,nwS nl]:=by
 refine cut1P ?_ (by simp) (by simp) p.rb;have hr:=bn hv;have hvr:=am hv;have c1:=jt [u] g u.name (by simp);rw[jA rfl]at c1;have cf:=dS u false false id (by omega);have hin':(fnd u.rows id 0).2=true:=hin;have hkl:=fB 0 hin';rw[hin']at cf;have hat:atT u id=rwG u.rows (fnd u.rows id 0).1:=rfl;obtain⟨kk,hke⟩:∃kk,kk=(fnd u.rows id 0).1:=⟨_,rfl⟩;simp only[←hke]at cf hkl hat;rw[cK hkl]at hat
 have hrv:u.rows[kk].vals.length≤1000000:=by
  have:=(hvr _ (kZ hkl)).2.1;have:=hk.attrs;omega
 have c3:=row_s u.rows[kk] hrv;obtain⟨rk,hrk⟩:∃rk,rk=u.rows[kk]:=⟨_,rfl⟩;rw[←hrk]at hat c3;rw[hat];obtain⟨D,hD⟩:∃D,D=dnS dl:=⟨_,rfl⟩;obtain⟨N,hN⟩:∃N,N=nwS nl:=⟨_,rfl⟩;simp only[←hD,←hN];simp only[aC,LV,LTb,aD,LS,LR,lD,lS]at c1 cf c3;refine aI tok Tryz.func115 rfl rfl ?_;refine wx ?_;simp -dsimp[Tryz.f115,aJ,stB,LTb,aD,LS,LR];refine cPx (c1) (by simp) ?_;simp -dsimp[];refine cPx (cf) (by simp) ?_;simp -dsimp[hkl,hrk.symm,aC,LV];refine cPx (c3) (by simp) ?_;simp -dsimp[];exact⟨rfl,rfl⟩
theorem delete_o(u w:Tb)(id:Int)(g:Bool)(hv:aF u=0)(hk:TbOk u)(hin:inT u id=true)(hs:af u ⟨3,u.name,tb0,atT u id,0,vl0⟩=some w)(ud:V)(dl nl:List V)(m q:Nat)(hq:nl.length=q)(hql:q≤1000000)(p:StO (LTb g [u]) ud dl nl):
  aR Tryz.prog 66 [.ptr 0 0,.str u.name,.int .i64 id] [stB (LTb g [u]) (.buf 1 0 m m) ud true (.buf 2 0 q q),dnS dl,nwS nl] fun r H'=>r = .int .i64 0∧H'=[stB (LTb false [w]) (.buf 1 0 m m) ud true (.buf 2 0 (q+1) (q+1)),dnS dl,nwS (nl++[aG false false ⟨3,u.name,tb0,atT u id,0,vl0⟩])]:=by
 refine fZ ?_ (by simp) (by simp[rb,rb1]) (p.step _).rb
 have hrl:(atT u id).vals.length≤1000000:=by
  have:=(am hv _ (eT hin).2).2.1;have:=hk.attrs;omega
 have c1:=kQ u id g hv hk hin ud dl nl m q p
 have c2:=fun G=>gT (H:=[stB (LTb g [u]) (.buf 1 0 m m) ud true (.buf 2 0 q q),dnS dl,nwS nl,G]) (k:=0) (L:=1) (M:=2) (iB u w ⟨3,u.name,tb0,atT u id,0,vl0⟩ g hv hk hrl hs ud dl nl m q hq hql p) p (p.step _) (by simp) (by simp) (by decide) (by decide) (by decide) rfl rfl rfl
 obtain⟨S,hS⟩:∃S,S=stB (LTb g [u]) (.buf 1 0 m m) ud true (.buf 2 0 q q):=⟨_,rfl⟩;obtain⟨S1,hS1⟩:∃S,S=stB (LTb false [w]) (.buf 1 0 m m) ud true (.buf 2 0 (q+1) (q+1)):=⟨_,rfl⟩;obtain⟨D,hD⟩:∃D,D=dnS dl:=⟨_,rfl⟩;obtain⟨N,hN⟩:∃N,N=nwS nl:=⟨_,rfl⟩;obtain⟨N1,hN1⟩:∃N,N=nwS (nl++[aG false false ⟨3,u.name,tb0,atT u id,0,vl0⟩]):=⟨_,rfl⟩;simp only[←hS,←hS1,←hD,←hN,←hN1,lE,lH]at c1 c2 ⊢;simp only[aC,LV,aG,chC,tb0,vl0,lS]at c1 c2;refine aI tok Tryz.func66 rfl rfl ?_;refine wx ?_;simp -dsimp[Tryz.f66,aJ];refine wcE c1 ?_;simp -dsimp[];refine wcE (jC (c2 _) rfl le_ch) ?_;simp -dsimp[]
theorem change_o(u w:Tb)(id:Int)(b:Nat)(v:Vl)(g:Bool)(hv:aF u=0)(hk:TbOk u)(hin:inT u id=true)(hb:b<(atT u id).vals.length)(hvv:aY v=true)(hno:¬(atT u id).vals[b]=v)(hs:af u ⟨4,u.name,tb0,atT u id,b,v⟩=some w)(ud:V)(dl nl:List V)(m q:Nat)(hq:nl.length=q)(hql:q≤1000000)(p:StO (LTb g [u]) ud dl nl):
  aR Tryz.prog 67 [.ptr 0 0,.str u.name,.agg [.int .i64 id,.int .i64 b],aH v] [stB (LTb g [u]) (.buf 1 0 m m) ud true (.buf 2 0 q q),dnS dl,nwS nl] fun r H'=>r = .int .i64 0∧H'=[stB (LTb false [w]) (.buf 1 0 m m) ud true (.buf 2 0 (q+1) (q+1)),dnS dl,nwS (nl++[aG false false ⟨4,u.name,tb0,atT u id,b,v⟩])]:=by
 refine fZ ?_ (by simp) (by simp[rb,rb1]) (p.step _).rb
 have hrl:(atT u id).vals.length≤1000000:=by
  have:=(am hv _ (eT hin).2).2.1;have:=hk.attrs;omega
 have c1:=kQ u id g hv hk hin ud dl nl m q p
 have c2:=fun G0 G1 G2=>gT (H:=[stB (LTb g [u]) (.buf 1 0 m m) ud true (.buf 2 0 q q),dnS dl,nwS nl,G0,G1,G2]) (k:=0) (L:=1) (M:=2) (iB u w ⟨4,u.name,tb0,atT u id,b,v⟩ g hv hk hrl hs ud dl nl m q hq hql p) p (p.step _) (by simp) (by simp) (by decide) (by decide) (by decide) rfl rfl rfl
 have c3:=dB v;rw[hvv]at c3
 have c4:=fun G0 G1=>gT (H:=[stB (LTb g [u]) (.buf 1 0 m m) ud true (.buf 2 0 q q),dnS dl,nwS nl,G0,G1]) (k:=0) (L:=1) (M:=2) c1 p p (by simp) (by simp) (by decide) (by decide) (by decide) rfl rfl rfl
 obtain⟨x,hx⟩:∃x,x=atT u id:=⟨_,rfl⟩;simp only[←hx]at c2 c4 hb hno ⊢;clear c1 hs
 have e1:=fun H=>eqVl9 H x.vals[b] v
 have e2:decide (x.vals[b]=v)=false:=by simp[hno]
 obtain⟨S,hS⟩:∃S,S=stB (LTb g [u]) (.buf 1 0 m m) ud true (.buf 2 0 q q):=⟨_,rfl⟩;obtain⟨S1,hS1⟩:∃S,S=stB (LTb false [w]) (.buf 1 0 m m) ud true (.buf 2 0 (q+1) (q+1)):=⟨_,rfl⟩;obtain⟨D,hD⟩:∃D,D=dnS dl:=⟨_,rfl⟩;obtain⟨N,hN⟩:∃N,N=nwS nl:=⟨_,rfl⟩;obtain⟨N1,hN1⟩:∃N,N=nwS (nl++[aG false false ⟨4,u.name,tb0,x,b,v⟩]):=⟨_,rfl⟩;simp only[←hS,←hS1,←hD,←hN,←hN1,lE,lH]at c2 c4 ⊢;simp only[aC,LV,aG,chC,tb0,lS,aH]at c2 c3 c4;refine aI tok Tryz.func67 rfl rfl ?_;refine wx ?_;simp -dsimp[Tryz.f67,aJ,aH];refine wcE (c4 _ _) ?_;simp (maxSteps:=2000000) -implicitDefEqProofs -dsimp[hb,e1,e2];refine .inr ⟨aU (by kernel_rfl),?_⟩;refine bD _ (aQ (c3) (by simp)) ?_;simp -dsimp[hb,aH,e1,e2];refine wcE (jC (c2 _ _ _) rfl le_ch) ?_;simp -dsimp[]
theorem change_nop(u:Tb)(id:Int)(b:Nat)(v:Vl)(g:Bool)(hv:aF u=0)(hk:TbOk u)(hin:inT u id=true)(hb:b<(atT u id).vals.length)(hvv:aY v=true)(hno:(atT u id).vals[b]=v)(ud:V)(dl nl:List V)(m q:Nat)(p:StO (LTb g [u]) ud dl nl):
  aR Tryz.prog 67 [.ptr 0 0,.str u.name,.agg [.int .i64 id,.int .i64 b],aH v] [stB (LTb g [u]) (.buf 1 0 m m) ud true (.buf 2 0 q q),dnS dl,nwS nl] fun r H'=>r = .int .i64 0∧H'=[stB (LTb g [u]) (.buf 1 0 m m) ud true (.buf 2 0 q q),dnS dl,nwS nl]:=by
 refine fZ ?_ (by simp) (by simp[rb,rb1]) p.rb;have c1:=kQ u id g hv hk hin ud dl nl m q p;have c3:=dB v;rw[hvv]at c3
 have c4:=fun G0 G1=>gT (H:=[stB (LTb g [u]) (.buf 1 0 m m) ud true (.buf 2 0 q q),dnS dl,nwS nl,G0,G1]) (k:=0) (L:=1) (M:=2) c1 p p (by simp) (by simp) (by decide) (by decide) (by decide) rfl rfl rfl
 obtain⟨x,hx⟩:∃x,x=atT u id:=⟨_,rfl⟩;simp only[←hx]at c4 hb hno ⊢;clear c1
 have e1:=fun H=>eqVl9 H x.vals[b] v
 have e2:decide (x.vals[b]=v)=true:=by simp[hno]
 obtain⟨S,hS⟩:∃S,S=stB (LTb g [u]) (.buf 1 0 m m) ud true (.buf 2 0 q q):=⟨_,rfl⟩;obtain⟨D,hD⟩:∃D,D=dnS dl:=⟨_,rfl⟩;obtain⟨N,hN⟩:∃N,N=nwS nl:=⟨_,rfl⟩;simp only[←hS,←hD,←hN,lE,lH]at c4 ⊢;simp only[aC,LV,aH]at c3 c4;refine aI tok Tryz.func67 rfl rfl ?_;refine wx ?_;simp -dsimp[Tryz.f67,aJ,aH];refine wcE (c4 _ _) ?_;simp (maxSteps:=2000000) -implicitDefEqProofs -dsimp[hb,e1,e2];refine .inr ⟨aU (by kernel_rfl),?_⟩;refine bD _ (aQ (c3) (by simp)) ?_;simp -dsimp[hb,aH,e1,e2]
end
end Go.Proofs.YtpedcgdgjoblkaaGreatDoor
