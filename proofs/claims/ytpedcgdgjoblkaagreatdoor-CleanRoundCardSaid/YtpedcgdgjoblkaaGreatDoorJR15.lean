/- JR15: own texts of this seat, joined and shortened by pack4.py: RQ, RS, RT, PF, PA, ClT, TJ, TK, ClB, Rbm, PD, PG, PS, TI, PE. -/
import Derived.Test.YtpedcgdgjoblkaaGreatDoorJR13
import Derived.WalkSpells
import Derived.WalkLawsBesides
import Derived.Lib.Hide
import Derived.Maps.AppendAt
set_option linter.unusedVariables false
set_option linter.unusedSimpArgs false
set_option maxRecDepth 100000
set_option maxHeartbeats 64000000
open Bool renaming and_eq_true→ke,true_and→kw,false_and→ky,or_eq_true→lZ,not_eq_true'→mH,eq_iff_iff→mc
open ByteArray renaming empty→kV
open Int renaming tmod_nonneg→nE
open List renaming replicate→aJ,getElem?_eq_getElem→kU,getElem_mem→kZ,range→ka,not_mem_nil→kf,mem_cons→kh,drop_eq_getElem_cons→km,take_succ_eq_append_getElem→kn,length_append→kq,take_length→ku,drop_of_length_le→kx,map_cons→lD,getElem?_eq_none→lF,length_map→lG,map_congr_left→lI,length_cons→lJ,mem_cons_self→lP,nil_append→lQ,map_nil→lS,map_append→lU,take_of_length_le→lV,mem_cons_of_mem→lX,all_eq_true→lY,mem_append→lm,drop_zero→lq,mem_or_eq_of_mem_set→lw,ext_getElem?→lx,length_filter_le→ly,length_set→mA,getD_eq_getElem?_getD→mI,cons_append→mL,filter_append→mQ,set_getElem_self→mU,mem_filter→mV,any_cons→mY,flatMap_cons→me,filter_cons→mi,flatMap_append→mn,getElem?_set→my,all_cons→nA,map_id→nH,map_map→nJ
open Nat renaming le_refl→kY,lt_or_ge→lh,le_trans→lk,zero_le→mX
open Option renaming getD_some→mK,bind_some→mP
section
namespace Go.Proofs.YtpedcgdgjoblkaaGreatDoor
open Go Go.AM
end Go.Proofs.YtpedcgdgjoblkaaGreatDoor
end
namespace Go.Proofs.YtpedcgdgjoblkaaGreatDoor
section
open Go Go.AM
theorem table03(x:Rcp)(f:Bool)(ha:0≤x.a∧x.a<256)(hg:0≤x.gap)(hc:∀r∈x.rows,r.length≤9223372036854775807):aL Tryz.prog 6 [ae f x,.int .i64 6] fun r=>r=if x.rows.length≤6 then .tup [aD false false (gJ x),.bool true] else .tup [.agg [.str kV,.nilS,.nilS],.bool false]:=by
 by_cases h6:x.rows.length≤6
 ·rw[if_pos h6];obtain⟨h1,h2⟩:=tbOf_n ha.1;have t0:=nE 6 ha.1;have t1:=Int.tmod_lt_of_pos x.a (show(0:Int)<6 by omega);have c1:=wide03 x (x.a.tmod 6).toNat f (by omega) (by omega) hc hg;rw[h2]at c1
  have w0:IntKind.u8.wrap (x.a.tmod 6)=x.a.tmod 6:=by rw[IntKind.wrap_u8];omega
  have w1:IntKind.i64.wrap (x.a.tmod 6)=x.a.tmod 6:=wrap64 (by omega) (by omega);rw[show wideT x (x.a.tmod 6).toNat=gJ x from rfl]at c1;obtain⟨t,ht⟩:∃t,t=gJ x:=⟨_,rfl⟩;rw[←ht]at c1 ⊢;simp only[ae,aD,LS,LR]at c1;refine sPx Tryz.func6 rfl rfl ?_;simp -dsimp[Tryz.f6,aJ,ae,w0,w1,show ¬(6:Int)<x.rows.length by omega];refine cPx (c1) (by simp) ?_;simp -dsimp[aD,LS,LR]
 ·rw[if_neg h6];refine sPx Tryz.func6 rfl rfl ?_;simp -dsimp[Tryz.f6,aJ,ae,show(6:Int)<x.rows.length by omega]
end
end Go.Proofs.YtpedcgdgjoblkaaGreatDoor
section
namespace Go.Proofs.YtpedcgdgjoblkaaGreatDoor
open Go Go.AM
end Go.Proofs.YtpedcgdgjoblkaaGreatDoor
end
namespace Go.Proofs.YtpedcgdgjoblkaaGreatDoor
section
open Go Go.AM
def fnd(rs:List Rw)(id:Int)(i:Nat):Nat×Bool:=if h:i<rs.length then(if rs[i].id=id then(i,true) else fnd rs id (i+1)) else(0,false)
termination_by rs.length-i
theorem find03(t:Tb)(f g:Bool)(id:Int)(hr:t.rows.length≤1000000):aL Tryz.prog 32 [aD f g t,.int .i64 id] fun r=>r = .tup [.int .i64 (fnd t.rows id 0).1,.bool (fnd t.rows id 0).2]:=by
 obtain⟨E,hE⟩:∃E,E=fnd t.rows id 0:=⟨_,rfl⟩;rw[←hE];refine sPx Tryz.func32 rfl rfl ?_;simp -dsimp[Tryz.f32,aJ,aD,LS,LR];refine aO (W_loopM 23 0x7ffff0 (by simp[mB]<;>rfl) (σ:=Nat) (fun i=>fnd t.rows id i=E) (fun i=>t.rows.length-i) (fun i=>[(6,.int .i64 i)]) (fun _=>[B.cells [.str t.name,.lst 1 f (t.attrs.map V.str),.lst 2 g (t.rows.map aC)]]) 0 hE.symm (by simp) (by simp) (by simp) ?_);intro i hx N Q hN hQ;by_cases hb:i<t.rows.length
 ·rw[fnd,dif_pos hb]at hx;by_cases hq:t.rows[i].id=id
  ·rw[if_pos hq]at hx;subst hx;refine wx ?_;simp -dsimp[hb,aC,LV,hq];refine hQ _ _ _ ?_;simp -dsimp[]
  ·rw[if_neg hq]at hx;refine wx ?_;simp -dsimp[hb,aC,LV,hq];simp -dsimp[aT i (by omega)];refine hN (i+1) _ _ hx (by omega) (by simp) ⟨[],by simp⟩ (by simp) (by simp)
 ·rw[fnd,dif_neg hb]at hx;subst hx;refine wx ?_;simp -dsimp[hb];refine hQ _ _ _ ?_;simp -dsimp[]
theorem fnd_at{rs:List Rw}{i:Nat}(h:i<rs.length)(hp:rs.Pairwise fun a b=>a.id<b.id)(d:Nat):∀j,j+d=i→fnd rs rs[i].id j=(i,true):=by
 induction d with
 | zero =>
  intro j e
  obtain rfl:j=i:=by omega
  rw[fnd,dif_pos h,if_pos rfl]
 | succ d ih =>
  intro j e;rw[fnd,dif_pos (by omega),if_neg]
  ·exact ih (j+1) (by omega)
  ·have:=List.pairwise_iff_getElem.1 hp j i (by omega) h (by omega);omega
def ixR(p:Rw→Bool)(rs:List Rw)(i:Nat):Int:=if h:i<rs.length then(if p rs[i] then(i:Int) else ixR p rs (i+1)) else -1
termination_by rs.length-i
theorem idxFuncR(H:List B)(fv:V)(p:Rw→Bool)(rs:List Rw)(g:Bool)(hes:rs.length≤1000000)(hH:∀bl∈H,rbB H.length bl)(hfv:rb H.length fv)
  (hp:∀m∈rs,aK Tryz.prog fv [aC m] H fun r H'=>r = .bool (p m)∧∃G,H'=H++G):aR Tryz.prog 87 [LR g rs,fv] H fun r H'=>r = .int .i64 (ixR p rs 0)∧∃G,H'=H++G:=by
 refine aI tok Tryz.func87 rfl rfl ?_;refine wx ?_;simp -dsimp[Tryz.f87,aJ,LR];refine aO (W_loopM 19 0x7ff30 (by simp[mB]<;>rfl) (σ:=Nat) (fun i=>ixR p rs i=ixR p rs 0) (fun i=>rs.length-i) (fun i=>[(8,.int .i64 i)]) (fun _=>H) 0 rfl (by simp) rfl (by simp) ?_);intro i hx N Q hN hQ;by_cases hb:i<rs.length
 ·rw[ixR,dif_pos hb]at hx;have hc:=hp rs[i] (kZ hb);cases hq:p rs[i]
  ·rw[hq]at hc hx;simp only[aC,LV]at hc;refine wx ?_;simp -dsimp[hb,aC,LV];refine hc.mono ?_;rintro r H' ⟨rfl,G,rfl⟩;simp -dsimp[aT i (by omega)];refine hN (i+1) _ _ (by simpa using hx) (by omega) (by simp) ⟨G,rfl⟩ (by simp;exact hfv) hH
  ·rw[hq]at hc hx;simp only[aC,LV]at hc;refine wx ?_;simp -dsimp[hb,aC,LV];refine hc.mono ?_;rintro r H' ⟨rfl,G,rfl⟩;simp -dsimp[];refine hQ _ _ _ ?_;simp -dsimp[];simpa using hx
 ·rw[ixR,dif_neg hb]at hx;refine wx ?_;simp -dsimp[hb];refine hQ _ _ _ ?_;simp -dsimp[];simpa using hx
theorem ixR_fnd(rs:List Rw)(id:Int)(i:Nat):ixR (fun r=>r.id == id) rs i=if(fnd rs id i).2=true then((fnd rs id i).1:Int) else -1:=by
 fun_induction fnd rs id i with
 | case1 i hi he=>rw[ixR,dif_pos hi,if_pos (by simpa using he)];rfl
 | case2 i hi he ih=>rw[ixR,dif_pos hi,if_neg (by simpa using he)];exact ih
 | case3 i hi=>rw[ixR,dif_neg hi];rfl
theorem fnd_no0{rs:List Rw}{id:Int}(i:Nat):(fnd rs id i).2=false→(fnd rs id i).1=0:=by
 fun_induction fnd rs id i with
 | case1 i hi he=>intro h;cases h
 | case2 i hi he ih=>exact ih
 | case3 i hi=>exact fun _=>rfl
theorem dS(t:Tb)(ff gg:Bool)(id:Int)(hr:t.rows.length≤1000000):aL Tryz.prog 45 [aD ff gg t,.int .i64 id] fun r=>r = .tup [.int .i64 (fnd t.rows id 0).1,.bool (fnd t.rows id 0).2]:=by
 have hclo:∀m∈t.rows,aK Tryz.prog (.fn 88 [.ptr 1 0]) [aC m] [B.cells [.str t.name,LS ff t.attrs,LR gg t.rows],B.cells [.int .i64 id]] fun r H'=>r = .bool (m.id == id)∧∃G,H'=[B.cells [.str t.name,LS ff t.attrs,LR gg t.rows],B.cells [.int .i64 id]]++G:=fun m hm=>by
  simp only[aK,mL,lQ];refine aI tok Tryz.func88 rfl rfl ?_;refine wx ?_;simp -dsimp[Tryz.f88,aJ,aC,LS,LR,LV]
 have hcf:=idxFuncR [B.cells [.str t.name,LS ff t.attrs,LR gg t.rows],B.cells [.int .i64 id]] (.fn 88 [.ptr 1 0]) (fun m=>m.id == id) t.rows gg hr (by simp[LS,LR]) (by simp) hclo;rw[ixR_fnd]at hcf;simp only[LS,LR]at hcf
 cases h0:(fnd t.rows id 0).2 with
 | true =>
  rw[h0,if_pos rfl]at hcf;obtain⟨n,hn⟩:∃n,n=(fnd t.rows id 0).1:=⟨_,rfl⟩;rw[←hn]at hcf ⊢;refine sPx Tryz.func45 rfl rfl ?_;simp -dsimp[Tryz.f45,aJ,aD,LS,LR];refine aK.mono (K:=fun r H'=>r = .int .i64 (n:Int)∧∃G,H'=[B.cells [.str t.name,.lst 1 ff (t.attrs.map V.str),.lst 2 gg (t.rows.map aC)],B.cells [.int .i64 id]]++G) hcf ?_;rintro r H' ⟨rfl,G,rfl⟩;simp -dsimp[show(0:Int)≤(n:Int) by omega,show ¬(n:Int)<0 by omega]
 | false =>
  rw[h0,if_neg (by simp)]at hcf;rw[fnd_no0 0 h0];refine sPx Tryz.func45 rfl rfl ?_;simp -dsimp[Tryz.f45,aJ,aD,LS,LR];refine aK.mono (K:=fun r H'=>r = .int .i64 (-1)∧∃G,H'=[B.cells [.str t.name,.lst 1 ff (t.attrs.map V.str),.lst 2 gg (t.rows.map aC)],B.cells [.int .i64 id]]++G) hcf ?_;rintro r H' ⟨rfl,G,rfl⟩;simp -dsimp[]
structure Chg where
 k:Int
 row:Rw
 a:Int
 v:Vl
def vl0:Vl:=⟨0,0,kV⟩
def aW(nm:ByteArray)(c:Chg):V:=.agg [.int .i64 c.k,.str nm,.str kV,.nilS,.nilS,.int .i64 c.row.id,LV false c.row.vals,.int .i64 c.a,.int .i64 c.v.k,.int .i64 c.v.n,.str c.v.s]
@[simp] theorem encChg_pure (nm:ByteArray) (c:Chg):AM.Pure (aW nm c):=by simp[aW,LV]
@[simp] theorem encChg_oneV (nm:ByteArray) (c:Chg):cY (aW nm c)=true:=by simp[aW,cY,LV,V.one]
def LCh(f:Bool)(nm:ByteArray)(l:List Chg):V:=.lst 11 f (l.map (aW nm))
@[simp] theorem LCh_pure (f:Bool) (nm:ByteArray) (l:List Chg):AM.Pure (LCh f nm l):=by simp[LCh]
def atV(l:List Vl)(i:Nat):Vl:=l.getD i vl0
def ap(tv:List Vl):Nat→List Vl→List Vl
 | 0,now=>now
 | a+1,now=>(ap tv a now).set a (atV tv a)
def chP(id:Int)(tv:List Vl):Nat→List Vl→List Chg
 | 0,_=>[]
 | a+1,now=>chP id tv a now++(if atV (ap tv a now) a=atV tv a then [] else [⟨4,⟨id,ap tv a now⟩,a,atV tv a⟩])
theorem dF(tv now:List Vl):∀a,(ap tv a now).length=now.length
 | 0=>rfl
 | a+1=>by rw[ap,mA,dF tv now a]
theorem set_same{l:List Vl}{a:Nat}{v:Vl}(h:a<l.length)(e:atV l a=v):l.set a v=l:=by
 subst e;unfold atV;rw[mI,kU h,mK,mU]
def inT(t:Tb)(id:Int):Bool:=(fnd t.rows id 0).2
def atT(t:Tb)(id:Int):Rw:=rwG t.rows (fnd t.rows id 0).1
def chR(u:Tb)(w:Nat)(r:Rw):List Chg:=if inT u r.id then chP r.id (atT u r.id).vals w r.vals else []
def cp(u:Tb)(rs:List Rw):List Chg:=(rs.filter fun r=>!inT u r.id).map fun r=>⟨3,r,0,vl0⟩
def cV(t:Tb)(rs:List Rw):List Chg:=(rs.filter fun r=>!inT t r.id).map fun r=>⟨2,r,0,vl0⟩
def chL(u:Tb)(w:Nat)(rs:List Rw):List Chg:=rs.flatMap (chR u w)
theorem delL_snoc(u:Tb){rs:List Rw}{i:Nat}(h:i<rs.length):cp u (rs.take (i+1))=cp u (rs.take i)++(if inT u rs[i].id then [] else [⟨3,rs[i],0,vl0⟩]):=by
 unfold cp;rw[kn h,mQ,lU];congr 1;cases hq:inT u rs[i].id<;>simp[List.filter,hq]
theorem insL_snoc(u:Tb){rs:List Rw}{i:Nat}(h:i<rs.length):cV u (rs.take (i+1))=cV u (rs.take i)++(if inT u rs[i].id then [] else [⟨2,rs[i],0,vl0⟩]):=by
 unfold cV;rw[kn h,mQ,lU];congr 1;cases hq:inT u rs[i].id<;>simp[List.filter,hq]
theorem chL_snoc(u:Tb)(w:Nat){rs:List Rw}{i:Nat}(h:i<rs.length):chL u w (rs.take (i+1))=chL u w (rs.take i)++chR u w rs[i]:=by
 unfold chL;rw[kn h,mn];simp
def cE(t u:Tb):Int:=if aF t=0 then(if aF u=0 then(if cG t.name u.name&&fY t.attrs u.attrs then 0 else 1) else aF u) else aF t
def dD(t u:Tb):List Chg:=cp u t.rows++(chL u t.attrs.length t.rows++cV t u.rows)
def iV(t u:Tb):V:=if cE t u=0 then LCh false t.name (dD t u) else .nilS
theorem jE(id:Int)(tv now:List Vl):∀a,(chP id tv a now).length≤a
 | 0=>kY _
 | a+1=>by
  have:=jE id tv now a;rw[chP,kq];split<;>simp<;>omega
theorem chR_len(u:Tb)(w:Nat)(r:Rw):(chR u w r).length≤w:=by
 unfold chR;split
 ·exact jE _ _ _ _
 ·exact mX _
theorem jF(u:Tb)(w:Nat):∀rs:List Rw,(chL u w rs).length≤rs.length*w
 | []=>by simp[chL]
 | r::rs=>by
  have h1:=jF u w rs;have h2:=chR_len u w r;unfold chL at h1 ⊢;rw[me,kq,lJ,Nat.succ_mul];omega
theorem kE(u:Tb)(rs:List Rw):(cp u rs).length≤rs.length:=by
 unfold cp;rw[lG];exact ly _ _
theorem jl(u:Tb)(rs:List Rw):(cV u rs).length≤rs.length:=by
 unfold cV;rw[lG];exact ly _ _
end
end Go.Proofs.YtpedcgdgjoblkaaGreatDoor
namespace Go.Proofs.YtpedcgdgjoblkaaGreatDoor
section
open Go Go.AM Go.RowKit
theorem cap16c(n:Nat)(h:n≤1000000):n≤9223372036854775806∧(n+1)*16≤140737488355328:=by omega
theorem infoD_S:(Tryz.prog.info? 9).map (fun i=>(i.zero,i.size,i.bytes))=some (some (.string ⟨#[]⟩),1,16):=by kernel_rfl
theorem cloneE_S(A:Option Addr)(cap:Nat)(w:World):
  Calls Tryz.prog 107 #[.slice A 0 cap] w fun e w'=>∃v,e = .returned v∧w'.ownsRow w.heap.size 9 1 v 0 []∧Below w.heap.size w w':=by
 have hnil:=fun W A n c=>Lib.run_eql_slice_nil (P:=Tryz.prog) W 26 9 A n c 0 0 Tryz.underlying26
 cases A with
 | none =>
  go_enter Tryz.func107,Tryz.ntmps107
  go_wp2
  go_ret
  exact⟨_,rfl,World.ownsRow_nil _ _ _ _,Below.refl _ _⟩
 | some ad =>
  obtain⟨i0,hi,hz0,hz1,hz2⟩:=info_parts infoD_S;have hown:(w.alloc (.cells #[] 9)).ownsRow w.heap.size 9 1 (.slice (some ⟨w.heap.size,0,none⟩) 0 0) 0 []:=World.ownsRow_lit w #[] 0 (kY _) (by simp[maxLen]) (by simp)
  have hnews:∀j u,([]:List Value)[j]?=some u→(w.alloc (.cells #[] 9)).cell? (ad.add j)=some u:=by
   intro j u hu;simp at hu
  have hone:∀u∈([]:List Value),u.oneCell'=true:=by intro u hu;cases hu
  have h63:0+0≤maxLen:=by simp[maxLen]
  have hby:(0+0)*16≤140737488355328:=by omega
  have hlen:([]:List Value).length=0*1:=by simp
  have Hi:=Lib.hid (show Tryz.prog.info? 9=some i0∧i0.zero=some _∧i0.size=1∧i0.bytes=16 from⟨hi,hz0,hz1,hz2⟩);have Hw:=Lib.hid (And.intro hown (And.intro hnews (And.intro hone (And.intro h63 (And.intro hby hlen)))));clear hnews hone hown hi hz0 hz1 hz2 h63 hby hlen
  go_enter Tryz.func107,Tryz.ntmps107
  go_wp2_with (at_builtin;refine wpList_append_own _ rfl _ _ 26 rfl w.heap.size 9 i0 _ 1 16 Tryz.underlying26 Hi.out.1 Hi.out.2.1 Hi.out.2.2.1 Hi.out.2.2.2 rfl (by omega) (.slice (some ⟨w.heap.size,0,none⟩) 0 0) 0 [] rfl Hw.out.1 ad 0 cap [] rfl Hw.out.2.2.2.2.2 Hw.out.2.1 Hw.out.2.2.1 Hw.out.2.2.2.1 Hw.out.2.2.2.2.1 (by simp) ?_;intro v1 w1 ho hg hn;have Ho:=Lib.hid ho;have Hg:=Lib.hid hg;have Hn:=Lib.hid hn;clear ho hg hn)
  go_ret
  exact⟨v1,rfl,by have:=Ho.out;simpa using this,((Below.refl _ _).alloc (kY _) _).grown Hg.out (by simp) (by simp[Value.ownBlock])⟩
theorem cloneN_S:∀(f:Bool),aL Tryz.prog 107 [.lst 1 f []] fun r=>r = .lst 1 false []:=fun f=>by
 have hO:dX Tryz.prog 107 [.lst 1 f []] fun e z ys=>e=9∧z=1∧ys=[]:=du ⟨Tryz.f107,Tryz.func107,rfl,rfl⟩ (fun F w vals hsz hrel=>by
  obtain⟨u0,rfl⟩:∃u0,vals = #[u0]:=by
   obtain⟨l⟩:=vals
   match l,hsz with
   | [a],_=>exact⟨a,rfl⟩
  have r0:=hrel 0 _ u0 rfl rfl;cases r0
  refine(cloneE_S _ _ _).mono fun e' w' ⟨v,he,hown,hb⟩=>⟨v,he,hb,?_⟩
  obtain⟨_,⟨hv,_⟩ | ⟨g,c,cur,hv,hg,hc,hn,hm,hs,_⟩⟩:=hown
  ·exact .inl hv
  ·exact .inr ⟨g,c,cur,hv,hg,hc,hm,hs⟩)
 refine⟨hO.1,fun F w vals hZ hF hsz hrel=>((eP hO).2 F w vals hZ hF hsz hrel).mono fun e w' ⟨u,r,h1,h2,h3,h4,e',z,ys,h5,h6,h7,h8⟩=>?_⟩;subst h6;subst h7;subst h8;exact⟨u,r,h1,h2,h3,h4,h5⟩
theorem jD(l:List ByteArray)(f:Bool)(hl:l.length≤1000000):aL Tryz.prog 107 [LS f l] fun r=>r=LS false l:=by
 cases l with
 | nil=>exact cloneN_S f
 | cons x xs =>
  have hl':xs.length≤1000000:=by simp only[lJ]at hl;omega
  refine sPx Tryz.func107 rfl rfl ?_;simp -dsimp[Tryz.f107,aJ,LS,iK,cap16c xs.length (by omega),V.str];exact fS rfl (by simp) (by simp)
end
end Go.Proofs.YtpedcgdgjoblkaaGreatDoor
namespace Go.Proofs.YtpedcgdgjoblkaaGreatDoor
section
open Go Go.AM
def LTb(g:Bool)(ts:List Tb):V:=.lst 3 g (ts.map (aD false false))
@[simp] theorem LTb_pure (g:Bool) (ts:List Tb):AM.Pure (LTb g ts):=by simp[LTb]
def ixT(p:Tb→Bool)(rs:List Tb)(i:Nat):Int:=if h:i<rs.length then(if p rs[i] then(i:Int) else ixT p rs (i+1)) else -1
termination_by rs.length-i
theorem idxFuncT(H:List B)(fv:V)(p:Tb→Bool)(rs:List Tb)(g:Bool)(hes:rs.length≤1000000)(hH:∀bl∈H,rbB H.length bl)(hfv:rb H.length fv)
  (hp:∀m∈rs,aK Tryz.prog fv [aD false false m] H fun r H'=>r = .bool (p m)∧∃G,H'=H++G):aR Tryz.prog 172 [LTb g rs,fv] H fun r H'=>r = .int .i64 (ixT p rs 0)∧∃G,H'=H++G:=by
 refine aI tok Tryz.func172 rfl rfl ?_;refine wx ?_;simp -dsimp[Tryz.f172,aJ,LTb];refine aO (W_loopM 19 0x7ff30 (by simp[mB]<;>rfl) (σ:=Nat) (fun i=>ixT p rs i=ixT p rs 0) (fun i=>rs.length-i) (fun i=>[(8,.int .i64 i)]) (fun _=>H) 0 rfl (by simp) rfl (by simp) ?_);intro i hx N Q hN hQ;by_cases hb:i<rs.length
 ·rw[ixT,dif_pos hb]at hx;have hc:=hp rs[i] (kZ hb);cases hq:p rs[i]
  ·rw[hq]at hc hx;simp only[aD,LS,LR]at hc;refine wx ?_;simp -dsimp[hb,aD,LS,LTb];refine hc.mono ?_;rintro r H' ⟨rfl,G,rfl⟩;simp -dsimp[aT i (by omega)];refine hN (i+1) _ _ (by simpa using hx) (by omega) (by simp) ⟨G,rfl⟩ (by simp;exact hfv) hH
  ·rw[hq]at hc hx;simp only[aD,LS,LR]at hc;refine wx ?_;simp -dsimp[hb,aD,LS,LTb];refine hc.mono ?_;rintro r H' ⟨rfl,G,rfl⟩;simp -dsimp[];refine hQ _ _ _ ?_;simp -dsimp[];simpa using hx
 ·rw[ixT,dif_neg hb]at hx;refine wx ?_;simp -dsimp[hb];refine hQ _ _ _ ?_;simp -dsimp[];simpa using hx
theorem jt(ts:List Tb)(g:Bool)(nm:ByteArray)(hr:ts.length≤1000000):aL Tryz.prog 120 [.agg [LTb g ts],.str nm] fun r=>r = .int .i64 (ixT (fun t=>t.name.toList == nm.toList) ts 0):=by
 have hclo:∀m∈ts,aK Tryz.prog (.fn 173 [.ptr 1 0]) [aD false false m] [B.cells [LTb g ts],B.cells [.str nm]] fun r H'=>r = .bool (m.name.toList == nm.toList)∧∃G,H'=[B.cells [LTb g ts],B.cells [.str nm]]++G:=fun m hm=>by
  simp only[aK,mL,lQ];refine aI tok Tryz.func173 rfl rfl ?_;refine wx ?_;simp -dsimp[Tryz.f173,aJ,aD,LS,LR,LTb]
 have hcf:=idxFuncT [B.cells [LTb g ts],B.cells [.str nm]] (.fn 173 [.ptr 1 0]) (fun m=>m.name.toList == nm.toList) ts g hr (by simp[LTb]) (by simp) hclo;obtain⟨n,hn⟩:∃n,n=ixT (fun t:Tb=>t.name.toList == nm.toList) ts 0:=⟨_,rfl⟩;rw[←hn]at hcf ⊢;simp only[LTb]at hcf;refine sPx Tryz.func120 rfl rfl ?_;simp -dsimp[Tryz.f120,aJ,LTb];refine aK.mono (K:=fun r H'=>r = .int .i64 n∧∃G,H'=[B.cells [.lst 3 g (ts.map (aD false false))],B.cells [.str nm]]++G) hcf ?_;rintro r H' ⟨rfl,G,rfl⟩;simp -dsimp[]
def kF(ts:List Tb)(t:Tb):Int:=if aF t=0 then(if 0≤ixT (fun u=>u.name.toList == t.name.toList) ts 0 then 5 else if 50≤ts.length then 3 else 0) else aF t
theorem creates_s(ts:List Tb)(g:Bool)(t:Tb)(f f2:Bool)(hr:ts.length≤1000000)(hk:TbOk t):aL Tryz.prog 119 [.agg [LTb g ts],aD f f2 t] fun r=>r = .int .i64 (kF ts t):=by
 have c1:=bv t f f2 hk;have c2:=jt ts g t.name hr;simp only[aD,LS,LR]at c1;simp only[LTb]at c2;by_cases h1:aF t=0
 case neg =>
  rw[show kF ts t=aF t by unfold kF;rw[if_neg h1]];refine sPx Tryz.func119 rfl rfl ?_;simp -dsimp[Tryz.f119,aJ,aD,LS,LR,LTb];refine cPx (c1) (by simp) ?_;simp -dsimp[h1]
 rw[h1]at c1;obtain⟨n,hn⟩:∃n,n=ixT (fun u:Tb=>u.name.toList == t.name.toList) ts 0:=⟨_,rfl⟩;rw[←hn]at c2;by_cases h2:0≤n
 ·rw[show kF ts t=5 by unfold kF;rw[if_pos h1,←hn,if_pos h2]];refine sPx Tryz.func119 rfl rfl ?_;simp -dsimp[Tryz.f119,aJ,aD,LS,LR,LTb];refine cPx (c1) (by simp) ?_;simp -dsimp[];refine cPx (c2) (by simp) ?_;simp -dsimp[h2]
 ·by_cases h3:50≤ts.length
  ·rw[show kF ts t=3 by unfold kF;rw[if_pos h1,←hn,if_neg h2,if_pos h3]];refine sPx Tryz.func119 rfl rfl ?_;simp -dsimp[Tryz.f119,aJ,aD,LS,LR,LTb];refine cPx (c1) (by simp) ?_;simp -dsimp[];refine cPx (c2) (by simp) ?_;simp -dsimp[h2,show(50:Int)≤ts.length by omega]
  ·rw[show kF ts t=0 by unfold kF;rw[if_pos h1,←hn,if_neg h2,if_neg h3]];refine sPx Tryz.func119 rfl rfl ?_;simp -dsimp[Tryz.f119,aJ,aD,LS,LR,LTb];refine cPx (c1) (by simp) ?_;simp -dsimp[];refine cPx (c2) (by simp) ?_;simp -dsimp[h2,show ¬(50:Int)≤ts.length by omega]
end
end Go.Proofs.YtpedcgdgjoblkaaGreatDoor
namespace Go.Proofs.YtpedcgdgjoblkaaGreatDoor
section
open Go Go.AM Go.RowKit
theorem cap64c(n:Nat)(h:n≤1000000):n≤9223372036854775806∧(n+1)*64≤140737488355328:=by omega
theorem infoD_B:(Tryz.prog.info? 29).map (fun i=>(i.zero,i.size,i.bytes))=some (some (.agg #[.string ⟨#[]⟩,.slice none 0 0,.slice none 0 0]),3,64):=by kernel_rfl
theorem cloneE_B(A:Option Addr)(cap:Nat)(w:World):
  Calls Tryz.prog 81 #[.slice A 0 cap] w fun e w'=>∃v,e = .returned v∧w'.ownsRow w.heap.size 29 3 v 0 []∧Below w.heap.size w w':=by
 have hnil:=fun W A n c=>Lib.run_eql_slice_nil (P:=Tryz.prog) W 117 29 A n c 0 0 Tryz.underlying117
 cases A with
 | none =>
  go_enter Tryz.func81,Tryz.ntmps81
  go_wp2
  go_ret
  exact⟨_,rfl,World.ownsRow_nil _ _ _ _,Below.refl _ _⟩
 | some ad =>
  obtain⟨i0,hi,hz0,hz1,hz2⟩:=info_parts infoD_B;have hown:(w.alloc (.cells #[] 29)).ownsRow w.heap.size 29 3 (.slice (some ⟨w.heap.size,0,none⟩) 0 0) 0 []:=World.ownsRow_lit w #[] 0 (kY _) (by simp[maxLen]) (by simp)
  have hnews:∀j u,([]:List Value)[j]?=some u→(w.alloc (.cells #[] 29)).cell? (ad.add j)=some u:=by
   intro j u hu;simp at hu
  have hone:∀u∈([]:List Value),u.oneCell'=true:=by intro u hu;cases hu
  have h63:0+0≤maxLen:=by simp[maxLen]
  have hby:(0+0)*64≤140737488355328:=by omega
  have hlen:([]:List Value).length=0*3:=by simp
  have Hi:=Lib.hid (show Tryz.prog.info? 29=some i0∧i0.zero=some _∧i0.size=3∧i0.bytes=64 from⟨hi,hz0,hz1,hz2⟩);have Hw:=Lib.hid (And.intro hown (And.intro hnews (And.intro hone (And.intro h63 (And.intro hby hlen)))));clear hnews hone hown hi hz0 hz1 hz2 h63 hby hlen
  go_enter Tryz.func81,Tryz.ntmps81
  go_wp2_with (at_builtin;refine wpList_append_own _ rfl _ _ 117 rfl w.heap.size 29 i0 _ 3 64 Tryz.underlying117 Hi.out.1 Hi.out.2.1 Hi.out.2.2.1 Hi.out.2.2.2 rfl (by omega) (.slice (some ⟨w.heap.size,0,none⟩) 0 0) 0 [] rfl Hw.out.1 ad 0 cap [] rfl Hw.out.2.2.2.2.2 Hw.out.2.1 Hw.out.2.2.1 Hw.out.2.2.2.1 Hw.out.2.2.2.2.1 (by simp) ?_;intro v1 w1 ho hg hn;have Ho:=Lib.hid ho;have Hg:=Lib.hid hg;have Hn:=Lib.hid hn;clear ho hg hn)
  go_ret
  exact⟨v1,rfl,by have:=Ho.out;simpa using this,((Below.refl _ _).alloc (kY _) _).grown Hg.out (by simp) (by simp[Value.ownBlock])⟩
theorem cloneN_B:∀(f:Bool),aL Tryz.prog 81 [.lst 3 f []] fun r=>r = .lst 3 false []:=fun f=>by
 have hO:dX Tryz.prog 81 [.lst 3 f []] fun e z ys=>e=29∧z=3∧ys=[]:=du ⟨Tryz.f81,Tryz.func81,rfl,rfl⟩ (fun F w vals hsz hrel=>by
  obtain⟨u0,rfl⟩:∃u0,vals = #[u0]:=by
   obtain⟨l⟩:=vals
   match l,hsz with
   | [a],_=>exact⟨a,rfl⟩
  have r0:=hrel 0 _ u0 rfl rfl;cases r0
  refine(cloneE_B _ _ _).mono fun e' w' ⟨v,he,hown,hb⟩=>⟨v,he,hb,?_⟩
  obtain⟨_,⟨hv,_⟩ | ⟨g,c,cur,hv,hg,hc,hn,hm,hs,_⟩⟩:=hown
  ·exact .inl hv
  ·exact .inr ⟨g,c,cur,hv,hg,hc,hm,hs⟩)
 refine⟨hO.1,fun F w vals hZ hF hsz hrel=>((eP hO).2 F w vals hZ hF hsz hrel).mono fun e w' ⟨u,r,h1,h2,h3,h4,e',z,ys,h5,h6,h7,h8⟩=>?_⟩;subst h6;subst h7;subst h8;exact⟨u,r,h1,h2,h3,h4,h5⟩
theorem cloneO0_B(f:Bool):dX Tryz.prog 81 [.lst 3 f []] fun e z ys=>e=29∧z=3∧ys=[]:=du ⟨Tryz.f81,Tryz.func81,rfl,rfl⟩ (fun F w vals hsz hrel=>by
  obtain⟨u0,rfl⟩:∃u0,vals = #[u0]:=by
   obtain⟨l⟩:=vals
   match l,hsz with
   | [a],_=>exact⟨a,rfl⟩
  have r0:=hrel 0 _ u0 rfl rfl;cases r0
  refine(cloneE_B _ _ _).mono fun e' w' ⟨v,he,hown,hb⟩=>⟨v,he,hb,?_⟩
  obtain⟨_,⟨hv,_⟩ | ⟨g,c,cur,hv,hg,hc,hn,hm,hs,_⟩⟩:=hown
  ·exact .inl hv
  ·exact .inr ⟨g,c,cur,hv,hg,hc,hm,hs⟩)
theorem kJ(l:List Tb)(f:Bool)(hl:l.length≤1000000):dX Tryz.prog 81 [.lst 3 f (l.map (aD false false))] fun e z ys=>e=29∧z=3∧ys=l.map (aD false false):=by
 cases l with
 | nil=>exact cloneO0_B f
 | cons x xs =>
  have hl':xs.length≤1000000:=by simp only[lJ]at hl;omega
  refine sOx Tryz.func81 rfl rfl ?_;simp -dsimp[Tryz.f81,aJ,iK,cap64c xs.length (by omega),aD];exact⟨0,29,3,(aD false false) x::xs.map (aD false false),by simp,rfl,by simp,rfl,rfl,rfl⟩
end
end Go.Proofs.YtpedcgdgjoblkaaGreatDoor
namespace Go.Proofs.YtpedcgdgjoblkaaGreatDoor
section
open Go Go.AM
theorem rb1_mono{n m:Nat}(h:n≤m){v:V}(hv:rb1 n v):rb1 m v:=by
 cases v<;>simp only[rb1]at hv ⊢<;>first | exact hv | omega | trivial
theorem iu{n m:Nat}(h:n≤m){v:V}(hv:rb n v):rb m v:=by
 cases v<;>simp only[rb]at hv ⊢<;>first | exact rb1_mono h hv | exact fun c hc=>rb1_mono h (hv c hc) | trivial
theorem gQ{n m:Nat}(h:n≤m){bl:B}(hb:rbB n bl):rbB m bl:=by
 cases bl with
 | cells cs=>exact fun c hc=>iu h (hb c hc)
 | map kk es=>exact fun p hp=>⟨iu h (hb p hp).1,iu h (hb p hp).2⟩
 | buf e z xs fz=>exact fun x hx c hc=>iu h (hb x hx c hc)
def Srt(rs:List Rw):Prop:=rs.Pairwise fun r s=>r.id<s.id
theorem gN:∀{l m:List Rw},Srt l→Srt m→(∀r,r∈l↔r∈m)→l=m
 | [],[],_,_,_=>rfl
 | [],b::m,_,_,h=>absurd ((h b).2 lP) (by simp)
 | a::l,[],_,_,h=>absurd ((h a).1 lP) (by simp)
 | a::l,b::m,hl,hm,h=>by
  obtain⟨h1,h2⟩:=List.pairwise_cons.1 hl;obtain⟨h3,h4⟩:=List.pairwise_cons.1 hm
  have hab:a=b:=by
   rcases List.mem_cons.1 ((h a).1 lP) with e | e
   ·exact e
   ·rcases List.mem_cons.1 ((h b).2 lP) with e' | e'
    ·exact e'.symm
    ·have:=h1 b e';have:=h3 a e;omega
  subst hab;congr 1
  refine gN h2 h4 fun r=>⟨fun hr=>?_,fun hr=>?_⟩
  ·rcases List.mem_cons.1 ((h r).1 (lX _ hr)) with e | e
   ·subst e;have:=h1 _ hr;omega
   ·exact e
  ·rcases List.mem_cons.1 ((h r).2 (lX _ hr)) with e | e
   ·subst e;have:=h3 _ hr;omega
   ·exact e
theorem fg{l:List Rw}(h:Srt l){r s:Rw}(hr:r∈l)(hs:s∈l)(e:r.id=s.id):r=s:=by
 induction l with
 | nil=>cases hr
 | cons a l ih =>
  obtain⟨h1,h2⟩:=List.pairwise_cons.1 h
  rcases List.mem_cons.1 hr with e1 | e1<;>rcases List.mem_cons.1 hs with e2 | e2
  ·rw[e1,e2]
  ·subst e1;have:=h1 s e2;omega
  ·subst e2;have:=h1 r e1;omega
  ·exact ih h2 e1 e2
def cX(rs:List Rw)(id:Int):List Rw:=rs.filter fun r=>!decide (r.id=id)
def dk(rs:List Rw)(r:Rw):List Rw:=rs.filter (fun s=>decide (s.id<r.id))++r::rs.filter (fun s=>decide (r.id<s.id))
def eR(rs:List Rw)(id:Int)(a:Nat)(v:Vl):List Rw:=rs.map fun r=>if r.id=id then⟨r.id,r.vals.set a v⟩ else r
theorem eG{rs:List Rw}{id:Int}{r:Rw} : r∈cX rs id↔r∈rs∧¬r.id=id:=by simp[cX]
theorem eF{rs:List Rw}{r s:Rw} : s∈dk rs r↔s=r∨(s∈rs∧¬s.id=r.id):=by
 simp only[dk,lm,kh,mV,decide_eq_true_eq];constructor
 ·rintro(⟨h1,h2⟩ | h | ⟨h1,h2⟩)
  ·exact .inr ⟨h1,by omega⟩
  ·exact .inl h
  ·exact .inr ⟨h1,by omega⟩
 ·rintro(h | ⟨h1,h2⟩)
  ·exact .inr (.inl h)
  ·by_cases h3:s.id<r.id
   ·exact .inl ⟨h1,h3⟩
   ·exact .inr (.inr ⟨h1,by omega⟩)
theorem mem_chg{rs:List Rw}{id:Int}{a:Nat}{v:Vl}{s:Rw} : s∈eR rs id a v↔(s∈rs∧¬s.id=id)∨∃r∈rs,r.id=id∧s=⟨r.id,r.vals.set a v⟩:=by
 simp only[eR,List.mem_map];constructor
 ·rintro⟨r,hr,h⟩;by_cases e:r.id=id
  ·rw[if_pos e]at h;exact .inr ⟨r,hr,e,h.symm⟩
  ·rw[if_neg e]at h;subst h;exact .inl ⟨hr,e⟩
 ·rintro(⟨h1,h2⟩ | ⟨r,hr,e,h⟩)
  ·exact⟨s,h1,if_neg h2⟩
  ·exact⟨r,hr,by rw[if_pos e,h]⟩
theorem srt_del{rs:List Rw}(h:Srt rs)(id:Int):Srt (cX rs id):=List.Pairwise.filter _ h
theorem srt_ins{rs:List Rw}(h:Srt rs)(r:Rw):Srt (dk rs r):=by
 refine List.pairwise_append.2 ⟨List.Pairwise.filter _ h,List.pairwise_cons.2 ⟨fun s hs=>?_,List.Pairwise.filter _ h⟩,fun x hx y hy=>?_⟩
 ·simpa using(List.mem_filter.1 hs).2
 ·have h1:x.id<r.id:=by simpa using(List.mem_filter.1 hx).2
  rcases List.mem_cons.1 hy with rfl | hy
  ·exact h1
  ·have:r.id<y.id:=by simpa using(List.mem_filter.1 hy).2
   omega
theorem chg_id(id:Int)(a:Nat)(v:Vl)(r:Rw):(if r.id=id then(⟨r.id,r.vals.set a v⟩:Rw) else r).id=r.id:=by split<;>rfl
theorem srt_chg{rs:List Rw}(h:Srt rs)(id:Int)(a:Nat)(v:Vl):Srt (eR rs id a v):=by
 refine List.pairwise_map.2 (h.imp fun {x y} hxy=>?_);rw[chg_id,chg_id];exact hxy
theorem del_ins{rs:List Rw}{r:Rw}(h:Srt rs)(hn:∀s∈rs,¬s.id=r.id):cX (dk rs r) r.id=rs:=by
 refine gN (srt_del (srt_ins h r) _) h fun s=>?_
 rw[eG,eF];constructor
 ·rintro⟨rfl | ⟨h1,_⟩,h2⟩
  ·exact absurd rfl h2
  ·exact h1
 ·intro hs;exact⟨.inr ⟨hs,hn s hs⟩,hn s hs⟩
theorem ins_del{rs:List Rw}{r:Rw}(h:Srt rs)(hr:r∈rs):dk (cX rs r.id) r=rs:=by
 refine gN (srt_ins (srt_del h _) r) h fun s=>?_
 rw[eF,eG];constructor
 ·rintro(rfl | ⟨⟨h1,_⟩,_⟩)
  ·exact hr
  ·exact h1
 ·intro hs;by_cases e:s.id=r.id
  ·exact .inl (fg h hs hr e)
  ·exact .inr ⟨⟨hs,e⟩,e⟩
theorem chg_chg{rs:List Rw}{r:Rw}(h:Srt rs)(hr:r∈rs){a:Nat}(ha:a<r.vals.length)(v:Vl):eR (eR rs r.id a v) r.id a (atV r.vals a)=rs:=by
 have hs:atV r.vals a=r.vals[a]:=by simp[atV,ha]
 unfold eR;rw[nJ]
 conv=>rhs;rw[←nH rs]
 refine lI fun s hs2=>?_
 simp only[Function.comp,id];by_cases e:s.id=r.id
 ·obtain rfl:=fg h hs2 hr e;rw[if_pos rfl,if_pos rfl,List.set_set,hs,mU]
 ·rw[if_neg e,if_neg e]
theorem fnd_iff{rs:List Rw}{id:Int}(i:Nat):(fnd rs id i).2=true↔∃r∈rs.drop i,r.id=id:=by
 fun_induction fnd rs id i with
 | case1 i hi he=>exact⟨fun _=>⟨rs[i],by rw[km hi];exact lP,he⟩,fun _=>rfl⟩
 | case2 i hi he ih =>
  rw[ih,km hi];constructor
  ·rintro⟨r,hr,e⟩;exact⟨r,lX _ hr,e⟩
  ·rintro⟨r,hr,e⟩
   rcases List.mem_cons.1 hr with rfl | hr
   ·exact absurd e he
   ·exact⟨r,hr,e⟩
 | case3 i hi=>rw[kx (by omega)];simp
theorem jq{rs:List Rw}{id:Int}(i:Nat):(fnd rs id i).2=true→(rwG rs (fnd rs id i).1).id=id∧rwG rs (fnd rs id i).1∈rs:=by
 fun_induction fnd rs id i with
 | case1 i hi he=>exact fun _=>by simp only[rwG,mI,kU hi,mK];exact⟨he,kZ hi⟩
 | case2 i hi he ih=>exact ih
 | case3 i hi=>intro h;cases h
theorem cR{t:Tb}{id:Int} : inT t id=true↔∃r∈t.rows,r.id=id:=by unfold inT;rw[fnd_iff,lq]
theorem eT{t:Tb}{id:Int}(h:inT t id=true):(atT t id).id=id∧atT t id∈t.rows:=jq 0 h
theorem atT_mem{t:Tb}{r:Rw}(hs:Srt t.rows)(hr:r∈t.rows):inT t r.id=true∧atT t r.id=r:=by
 have h:inT t r.id=true:=cR.2 ⟨r,hr,rfl⟩;exact⟨h,fg hs (eT h).2 hr (eT h).1⟩
def wrT(t:Tb)(rs:List Rw):Tb:=⟨t.name,t.attrs,rs⟩
structure Ch where
 k:Int
 nm:ByteArray
 tb:Tb
 row:Rw
 a:Int
 v:Vl
def bF(t:Tb)(r:Rw):Int:=if ¬r.vals.length=t.attrs.length then 6 else if r.id≤0∨r.vals.all aY=false then 1 else if inT t r.id=true then 5 else if 1000≤t.rows.length then 3 else 0
def cD(t:Tb)(r:Rw):Bool:=inT t r.id&&decide ((atT t r.id).vals=r.vals)
def af(t:Tb)(c:Ch):Option Tb :=
 if c.nm=t.name then
  if c.k=2 then(if bF t c.row=0 then some (wrT t (dk t.rows c.row)) else none)
  else if cD t c.row=true then
   if c.k=3 then some (wrT t (cX t.rows c.row.id))
   else if c.k=4 then(if 0≤c.a∧c.a<t.attrs.length∧aY c.v=true then some (wrT t (eR t.rows c.row.id c.a.toNat c.v)) else none)
   else none
  else none
 else none
def runT(t:Tb):List Ch→Option Tb
 | []=>some t
 | c::l=>match af t c with
  | some u=>runT u l
  | none=>none
theorem cA(t:Tb)(l m:List Ch):runT t (l++m)=(runT t l).bind fun u=>runT u m:=by
 induction l generalizing t with
 | nil=>rfl
 | cons c l ih =>
  simp only[mL,runT]
  cases af t c with
  | none=>rfl
  | some u=>exact ih u
def gS(c:Ch):Bool:=decide (c.k=4)&&decide (atV c.row.vals c.a.toNat=c.v)
def ip(c:Ch):Ch:=if c.k=4 then⟨c.k,c.nm,⟨kV,[],[]⟩,c.row,c.a,c.v⟩ else⟨c.k,c.nm,⟨kV,[],[]⟩,c.row,0,vl0⟩
def bf(l:List Ch):List Ch:=(l.filter fun c=>!gS c).map ip
def iG(c:Ch):Ch:=if c.k=2 then { c with k:=3 } else if c.k=3 then { c with k:=2 } else if c.k=4 then { c with row:=⟨c.row.id,c.row.vals.set c.a.toNat c.v⟩,v:=atV c.row.vals c.a.toNat } else c
theorem bH{t:Tb}(h:aF t=0):Srt t.rows:=(tbC h).ids
theorem jM{t:Tb}(h:aF t=0){rs:List Rw}(hl:rs.length≤1000)(hs:Srt rs)(hr:∀r∈rs,0<r.id∧r.vals.length=t.attrs.length∧r.vals.all aY=true):aF (wrT t rs)=0:=by
 have hw:=(tbC h).wide;have e:aF (wrT t rs)=(if bG t.name=true then(if 16<t.attrs.length∨1000<rs.length then 3 else if dG t.attrs=true then bR t.attrs.length 0 rs else 1) else 1):=rfl;rw[e];unfold aF at h;split at h
 ·rename_i h1;split at h
  ·cases h
  ·split at h
   ·rename_i h3;rw[if_pos h1,if_neg (by omega),if_pos h3]
    have:∀(rs:List Rw) (last:Int),(∀r∈rs,last<r.id∧r.vals.length=t.attrs.length∧r.vals.all aY=true)→Srt rs→bR t.attrs.length last rs=0:=by
     intro rs
     induction rs with
     | nil=>intros;rfl
     | cons r rs ih =>
      intro last h4 h5;obtain⟨a,b,c⟩:=h4 r lP;obtain⟨d,e⟩:=List.pairwise_cons.1 h5;rw[bR,if_neg (by omega),if_neg (by simp[b]),if_pos c];exact ih _ (fun s hs2=>⟨d s hs2,(h4 s (lX _ hs2)).2⟩) e
    exact this rs 0 hr hs
   ·cases h
 ·cases h
theorem bn{t:Tb}(h:aF t=0):t.rows.length≤1000:=by
 unfold aF at h;split at h
 ·split at h
  ·cases h
  ·omega
 ·cases h
theorem am{t:Tb}(h:aF t=0):∀r∈t.rows,0<r.id∧r.vals.length=t.attrs.length∧r.vals.all aY=true:=fun r hr=>⟨(tbC h).pos r hr,(tbC h).len r hr,(tbC h).val r hr⟩
theorem cW{t:Tb}{r:Rw}(h:bF t r=0):r.vals.length=t.attrs.length∧0<r.id∧r.vals.all aY=true∧(∀s∈t.rows,¬s.id=r.id)∧t.rows.length<1000:=by
 unfold bF at h;split at h
 ·cases h
 ·rename_i h1;split at h
  ·cases h
  ·rename_i h2;split at h
   ·cases h
   ·rename_i h3;split at h
    ·cases h
    ·refine⟨by simpa using h1,by omega,?_,fun s hs e=>h3 (cR.2 ⟨s,hs,e⟩),by omega⟩;cases hq:r.vals.all aY
     ·exact absurd (.inr hq) h2
     ·rfl
theorem ins_len{t:Tb}(rs:List Rw)(r:Rw)(hn:∀s∈rs,¬s.id=r.id):(dk rs r).length=rs.length+1:=by
 induction rs with
 | nil=>rfl
 | cons s rs ih =>
  have h1:=hn s lP
  have h2:=ih fun s hs=>hn s (lX _ hs)
  simp only[dk,kq,lJ,mi]at h2 ⊢;by_cases h3:s.id<r.id
  ·rw[if_pos (by simpa using h3),if_neg (by simp;omega)];simp only[lJ];omega
  ·rw[if_neg (by simpa using h3),if_pos (by simp;omega)];simp only[lJ];omega
theorem dL{t u:Tb}{c:Ch}(h:aF t=0)(hs:af t c=some u):aF u=0∧u.name=t.name∧u.attrs=t.attrs:=by
 have hsrt:=bH h;have hrow:=am h;have hrl:=bn h;unfold af at hs;split at hs
 case isFalse=>cases hs
 split at hs
 ·split at hs
  case isFalse=>cases hs
  rename_i h2;obtain⟨a,b,c1,d,e⟩:=cW h2;cases hs;refine⟨jM h (by rw[ins_len (t:=t) _ _ d];omega) (srt_ins hsrt _) fun r hr=>?_,rfl,rfl⟩
  rcases eF.1 hr with rfl | ⟨hr,_⟩
  ·exact⟨b,a,c1⟩
  ·exact hrow r hr
 ·split at hs
  case isFalse=>cases hs
  split at hs
  ·cases hs;exact⟨jM h (lk (ly _ _) hrl) (srt_del hsrt _) fun r hr=>hrow r (eG.1 hr).1,rfl,rfl⟩
  ·split at hs
   case isFalse=>cases hs
   split at hs
   case isFalse=>cases hs
   rename_i h5;cases hs;refine⟨jM h (by rw[eR,lG];exact hrl) (srt_chg hsrt _ _ _) fun r hr=>?_,rfl,rfl⟩
   rcases mem_chg.1 hr with⟨hr,_⟩ | ⟨s,hs2,_,rfl⟩
   ·exact hrow r hr
   ·obtain⟨a,b,d⟩:=hrow s hs2;refine⟨a,by simpa using b,?_⟩;rw[lY]at d ⊢;intro x hx
    rcases lw hx with hx | rfl
    ·exact d x hx
    ·exact h5.2.2
theorem jT{t:Tb}(h:aF t=0){r:Rw}(hi:cD t r=true):r∈t.rows:=by
 unfold cD at hi;rw[ke,decide_eq_true_iff]at hi;obtain⟨h1,h2⟩:=hi;have h3:=eT h1
 have:r=atT t r.id:=by
  obtain⟨id,vs⟩:=r
  cases hq:atT t id with
  | mk id' vs' =>
   simp only[hq]at h2 h3;rw[←h2,←h3.1]
 rw[this];exact h3.2
theorem gO{t:Tb}(h:aF t=0){r:Rw}(hr:r∈t.rows):cD t r=true:=by
 obtain⟨a,b⟩:=atT_mem (bH h) hr;unfold cD;rw[a,b];simp
theorem step_inv{t u:Tb}{c:Ch}(h:aF t=0)(hs:af t c=some u):af u (iG c)=some t:=by
 have hsrt:=bH h;have hrow:=am h;have hrl:=bn h;obtain⟨hu,hn,hat⟩:=dL h hs;unfold af at hs;split at hs
 case isFalse=>cases hs
 rename_i hnm;split at hs
 ·rename_i hk;split at hs
  case isFalse=>cases hs
  rename_i h2;obtain⟨a,b,c1,d,e⟩:=cW h2;cases hs;have hmem:c.row∈(wrT t (dk t.rows c.row)).rows:=eF.2 (.inl rfl);unfold iG;rw[if_pos hk];unfold af;rw[if_pos (by simpa[wrT] using hnm),if_neg (by simp),if_pos (gO hu hmem),if_pos rfl];simp only[wrT];rw[del_ins hsrt d]
 ·rename_i hk;split at hs
  case isFalse=>cases hs
  rename_i hri;have hmem:=jT h hri;obtain⟨a,b,c1⟩:=hrow _ hmem;split at hs
  ·rename_i hk3;cases hs;unfold iG;rw[if_neg hk,if_pos hk3];unfold af
   have hi:bF (wrT t (cX t.rows c.row.id)) c.row=0:=by
    unfold bF
    have hl:(cX t.rows c.row.id).length<t.rows.length:=by
     have h1:(cX t.rows c.row.id).length≤t.rows.length:=ly _ _
     rcases lh (cX t.rows c.row.id).length t.rows.length with h2 | h2
     ·exact h2
     ·exfalso;have h3:cX t.rows c.row.id=t.rows:=(List.filter_sublist).eq_of_length (by unfold cX at h1 h2;omega);have:=hmem;rw[←h3,eG]at this;exact this.2 rfl
    have hno:¬inT (wrT t (cX t.rows c.row.id)) c.row.id=true:=by
     rw[cR];rintro⟨r,hr,e⟩;exact(eG.1 hr).2 e
    rw[if_neg (by simp[wrT,b]),if_neg (by rw[c1];simp;omega),if_neg hno,if_neg (by simp only[wrT];omega)]
   rw[if_pos (by simpa[wrT] using hnm),if_pos rfl];simp only;rw[if_pos hi];simp only[wrT];rw[ins_del hsrt hmem]
  ·rename_i hk3;split at hs
   case isFalse=>cases hs
   rename_i hk4;split at hs
   case isFalse=>cases hs
   rename_i h5;cases hs
   have hal:c.a.toNat<c.row.vals.length:=by omega
   have hov:aY (atV c.row.vals c.a.toNat)=true:=by
    have:atV c.row.vals c.a.toNat=c.row.vals[c.a.toNat]:=by simp[atV,hal]
    rw[this];exact List.all_eq_true.1 c1 _ (kZ hal)
   have hm2:(⟨c.row.id,c.row.vals.set c.a.toNat c.v⟩:Rw)∈(wrT t (eR t.rows c.row.id c.a.toNat c.v)).rows:=mem_chg.2 (.inr ⟨c.row,hmem,rfl,rfl⟩);unfold iG;rw[if_neg hk,if_neg hk3,if_pos hk4];unfold af;simp only;rw[if_pos (by simpa[wrT] using hnm),if_neg hk,if_pos (gO hu hm2),if_neg hk3,if_pos hk4,if_pos ⟨h5.1,h5.2.1,hov⟩];simp only[wrT];rw[chg_chg hsrt hmem hal]
theorem step_nop{t u:Tb}{c:Ch}(h:aF t=0)(hs:af t c=some u)(hn:gS c=true):u=t:=by
 unfold gS at hn;rw[ke,decide_eq_true_iff,decide_eq_true_iff]at hn;obtain⟨hk4,hv⟩:=hn;unfold af at hs;split at hs
 case isFalse=>cases hs
 rw[if_neg (show ¬c.k=2 by omega)]at hs;split at hs
 case isFalse=>cases hs
 rename_i hri;rw[if_neg (show ¬c.k=3 by omega)]at hs;split at hs
 case isFalse=>cases hs
 rename_i h5;cases hs;have hmem:=jT h hri;have hl:=(am h _ hmem).2.1
 have:eR t.rows c.row.id c.a.toNat c.v=t.rows:=by
  unfold eR
  conv=>rhs;rw[←nH t.rows]
  refine lI fun s hs2=>?_
  simp only[id];by_cases e:s.id=c.row.id
  ·obtain rfl:=fg (bH h) hs2 hmem e;rw[if_pos rfl,set_same (by omega) hv]
  ·rw[if_neg e]
 unfold wrT;rw[this]
theorem eff_snoc(l:List Ch)(c:Ch):bf (l++[c])=bf l++(if gS c=true then [] else [ip c]):=by
 unfold bf;rw[mQ,lU];congr 1;cases hq:gS c<;>simp[List.filter,hq]
def chC(f g:Bool)(c:Ch):List V:=[.int .i64 c.k,.str c.nm,.str c.tb.name,.lst 1 f (c.tb.attrs.map V.str),.lst 2 g (c.tb.rows.map aC),.int .i64 c.row.id,.lst 3 false (c.row.vals.map aH),.int .i64 c.a,.int .i64 c.v.k,.int .i64 c.v.n,.str c.v.s]
def aG(f g:Bool)(c:Ch):V:=.agg (chC f g c)
@[simp] theorem encCh_pure (f g:Bool) (c:Ch):AM.Pure (aG f g c):=by simp[aG,chC]
@[simp] theorem encCh_oneV (f g:Bool) (c:Ch):cY (aG f g c)=true:=by simp[aG,chC,cY,V.one]
def kC(a b:Ch):Bool:=decide (a.k=b.k)&&((a.nm.toList == b.nm.toList)&&(eqTb a.tb b.tb&&(im a.row b.row&&(decide (a.a=b.a)&&decide (a.v=b.v)))))
theorem eqCh_self(a:Ch):kC a a=true:=by simp[kC,iJ,im,fu]
structure ChOk (c:Ch):Prop where
 attrs:c.tb.attrs.length≤1000000
 rows:c.tb.rows.length≤1000000
 row:∀r∈c.tb.rows,r.vals.length≤1000000∧∀v∈r.vals,v.s.size≤maxLen
 vals:c.row.vals.length≤1000000∧∀v∈c.row.vals,v.s.size≤maxLen
theorem equal59(a b:Ch)(f g f2 g2:Bool)(h:ChOk a):aL Tryz.prog 77 [aG f g a,aG f2 g2 b] fun r=>r = .bool (kC a b):=by
 have c1:=equal03 a.tb b.tb f g f2 g2 h.attrs h.rows h.row;have c2:=ie a.row b.row h.vals.1 h.vals.2
 have e1:=fun H=>eqVl9 H a.v b.v
 simp only[aD,LS,LR,aC,LV]at c1 c2;unfold kC;by_cases h1:a.k=b.k
 case neg =>
  rw[decide_eq_false h1,ky];refine sPx Tryz.func77 rfl rfl ?_;simp -dsimp[Tryz.f77,aJ,aG,chC,h1]
 rw[decide_eq_true h1,kw]
 cases h2:(a.nm.toList == b.nm.toList) with
 | false =>
  rw[ky];refine sPx Tryz.func77 rfl rfl ?_;simp -dsimp[Tryz.f77,aJ,aG,chC,h1,h2]
 | true =>
 rw[kw]
 cases h3:eqTb a.tb b.tb with
 | false =>
  rw[h3]at c1;rw[ky];refine sPx Tryz.func77 rfl rfl ?_;simp -dsimp[Tryz.f77,aJ,aG,chC,h1,h2];refine cPx (c1) (by simp) ?_;simp -dsimp[]
 | true =>
 rw[h3]at c1;rw[kw]
 cases h4:im a.row b.row with
 | false =>
  rw[h4]at c2;rw[ky];refine sPx Tryz.func77 rfl rfl ?_;simp -dsimp[Tryz.f77,aJ,aG,chC,h1,h2];refine cPx (c1) (by simp) ?_;simp -dsimp[];refine cPx (c2) (by simp) ?_;simp -dsimp[]
 | true =>
 rw[h4]at c2;rw[kw];by_cases h5:a.a=b.a
 case neg =>
  rw[decide_eq_false h5,ky];refine sPx Tryz.func77 rfl rfl ?_;simp -dsimp[Tryz.f77,aJ,aG,chC,h1,h2];refine cPx (c1) (by simp) ?_;simp -dsimp[];refine cPx (c2) (by simp) ?_;simp -dsimp[h5]
 rw[decide_eq_true h5,kw];refine sPx Tryz.func77 rfl rfl ?_;simp -dsimp[Tryz.f77,aJ,aG,chC,h1,h2];refine cPx (c1) (by simp) ?_;simp -dsimp[];refine cPx (c2) (by simp) ?_;simp -dsimp[h5,e1]
def eqCs(a b:List Ch):Bool:=decide (a.length=b.length)&&(ka a.length).all fun i=>kC (a.getD i ⟨0,kV,⟨kV,[],[]⟩,⟨0,[]⟩,0,vl0⟩) (b.getD i ⟨0,kV,⟨kV,[],[]⟩,⟨0,[]⟩,0,vl0⟩)
theorem eqCs_self(a:List Ch):eqCs a a=true:=by simp[eqCs,eqCh_self]
theorem same59(A B:List V)(l m:List Ch)(f g:Bool)(ha:A.length=l.length)(hb:B.length=m.length)(hl:l.length≤1000000)(pa:∀x∈A,AM.Pure x)(pb:∀x∈B,AM.Pure x)
  (hc:∀i (h1:i<A.length) (h2:i<B.length) (h3:i<l.length) (h4:i<m.length),(∃xs ys,A[i] = .agg xs∧B[i] = .agg ys∧xs.length=11∧ys.length=11)∧aL Tryz.prog 77 [A[i],B[i]] fun r=>r = .bool (kC l[i] m[i])):
  aL Tryz.prog 40 [.lst 11 f A,.lst 11 g B] fun r=>r = .bool (eqCs l m):=by
 unfold eqCs;obtain⟨z,hz⟩:∃z:Ch,z=⟨0,kV,⟨kV,[],[]⟩,⟨0,[]⟩,0,vl0⟩:=⟨_,rfl⟩;rw[←hz];by_cases h0:l.length=m.length
 ·rw[decide_eq_true h0,kw]
  obtain⟨E,hE⟩:∃E,E=(ka l.length).all fun i=>kC (l.getD i z) (m.getD i z):=⟨_,rfl⟩
  rw[←hE]
  have hAB:A.length=B.length:=by omega
  refine sPx Tryz.func40 rfl rfl ?_;simp -dsimp[Tryz.f40,aJ,hAB];refine aO (W_loopM 27 0x7fff830 (by simp[mB]<;>rfl) (σ:=Nat) (fun i=>i≤l.length∧(ka i).all (fun i=>kC (l.getD i z) (m.getD i z))=true) (fun i=>l.length-i) (fun i=>[(5,.int .i64 i)]) (fun _=>[]) 0 ⟨by omega,rfl⟩ (by simp) rfl (by simp) ?_);rintro i ⟨hi,hall⟩ N Q hN hQ;by_cases hb1:i<l.length
  ·have q1:i<A.length:=by omega
   have q2:i<B.length:=by omega
   have q3:i<m.length:=by omega
   obtain⟨⟨xs,ys,w1,w2,w3,w4⟩,c1⟩:=hc i q1 q2 hb1 q3;rw[w1,w2]at c1
   have ha1:l.getD i z=l[i]:=by simp[hb1]
   have ha2:m.getD i z=m[i]:=by simp[q3]
   have p1:AM.Pure (.agg xs):=by rw[←w1];exact pa _ (kZ q1)
   have p2:AM.Pure (.agg ys):=by rw[←w2];exact pb _ (kZ q2)
   have t1:xs.take 11=xs:=lV (by omega);have t2:ys.take 11=ys:=lV (by omega)
   cases hq:kC l[i] m[i] with
   | true =>
    rw[hq]at c1;refine wx ?_;simp -dsimp[hAB.symm,q1,w1,w2,w3,w4,t1,t2];refine .inr ⟨aU (by kernel_rfl),?_⟩;refine bD _ (aQ c1 (by intro a ha;simp only[kh,kf,or_false]at ha;rcases ha with rfl | rfl<;>assumption)) ?_;simp -dsimp[aT i (by omega)];refine hN (i+1) _ _ ⟨by omega,bY hall (by rw[ha1,ha2,hq])⟩ (by omega) (by simp[hAB]) ⟨[],by simp⟩ (by simp;exact⟨pa,pb,pa,pb⟩) (by simp)
   | false =>
    rw[hq]at c1
    have hno:(ka l.length).all (fun i=>kC (l.getD i z) (m.getD i z))=false:=by
     cases hh:(ka l.length).all (fun i=>kC (l.getD i z) (m.getD i z))
     ·rfl
     ·have:=List.all_eq_true.1 hh i (by simpa using hb1);rw[ha1,ha2,hq]at this;cases this
    rw[hno]at hE;refine wx ?_;simp -dsimp[hAB.symm,q1,w1,w2,w3,w4,t1,t2];refine .inr ⟨aU (by kernel_rfl),?_⟩;refine bD _ (aQ c1 (by intro a ha;simp only[kh,kf,or_false]at ha;rcases ha with rfl | rfl<;>assumption)) ?_;simp -dsimp[];refine hQ _ _ _ ?_;simp -dsimp[];exact hE
  ·obtain rfl:i=l.length:=by omega
   rw[hall]at hE;refine wx ?_;simp -dsimp[show ¬l.length<A.length by omega,show ¬((l.length:Int)<A.length) by omega];refine hQ _ _ _ ?_;simp -dsimp[];exact hE
 ·rw[decide_eq_false h0,ky];refine sPx Tryz.func40 rfl rfl ?_;simp -dsimp[Tryz.f40,aJ,show ¬(A.length:Int)=B.length by omega]
theorem stringsEq_u(a b:List ByteArray)(f g:Bool)(hl:a.length≤1000000):aL Tryz.prog 44 [LS f a,LS g b] fun r=>r = .bool (fY a b):=by
 unfold fY;by_cases h0:a.length=b.length
 ·rw[decide_eq_true h0,kw]
  obtain⟨E,hE⟩:∃E,E=(ka a.length).all fun i=>cG (sAt a i) (sAt b i):=⟨_,rfl⟩
  rw[←hE];refine sPx Tryz.func44 rfl rfl ?_;simp -dsimp[Tryz.f44,aJ,LS,h0];refine aO (W_loopM 26 0x3ffe030 (by simp[mB]<;>rfl) (σ:=Nat) (fun i=>i≤a.length∧(ka i).all (fun i=>cG (sAt a i) (sAt b i))=true) (fun i=>a.length-i) (fun i=>[(13,.int .i64 i)]) (fun _=>[]) 0 ⟨by omega,rfl⟩ (by simp) rfl (by simp) ?_);rintro i ⟨hi,hall⟩ N Q hN hQ;by_cases hb:i<a.length
  ·have hb2:i<b.length:=by omega
   have ha1:sAt a i=a[i]:=by simp[sAt,hb]
   have ha2:sAt b i=b[i]:=by simp[sAt,hb2]
   cases hq:(a[i].toList == b[i].toList) with
   | true =>
    refine wx ?_;simp -dsimp[hb,hb2,hq];refine .inr ⟨aU (by kernel_rfl),?_⟩;simp -dsimp[aT i (by omega)];refine hN (i+1) _ _ ⟨by omega,bY hall (by unfold cG;rw[ha1,ha2,hq])⟩ (by omega) (by simp) ⟨[],rfl⟩ (by simp) (by simp)
   | false =>
    have hno:(ka a.length).all (fun i=>cG (sAt a i) (sAt b i))=false:=by
     cases hh:(ka a.length).all (fun i=>cG (sAt a i) (sAt b i))
     ·rfl
     ·have:=List.all_eq_true.1 hh i (by simpa using hb);rw[cG,ha1,ha2,hq]at this;cases this
    rw[hno]at hE;refine wx ?_;simp -dsimp[hb,hb2,hq];refine .inr ⟨aU (by kernel_rfl),?_⟩;refine hQ _ _ _ ?_;simp -dsimp[];exact hE
  ·obtain rfl:i=a.length:=by omega
   rw[hall]at hE;refine wx ?_;simp -dsimp[hb,h0];refine hQ _ _ _ ?_;simp -dsimp[];exact hE
 ·rw[decide_eq_false h0,ky];refine sPx Tryz.func44 rfl rfl ?_;simp -dsimp[Tryz.f44,aJ,LS,show ¬((a.length:Int)=b.length) by omega]
theorem take_ext{α:Type}{a b:List α}{i:Nat}(h:a.take i=b.take i)(h1:i<a.length)(h2:i<b.length)(e:a[i]=b[i]):a.take (i+1)=b.take (i+1):=by
 rw[kn h1,kn h2,h,e]
theorem jL(a b:List Vl)(f g:Bool)(hl:a.length≤1000000):aL Tryz.prog 61 [LV f a,LV g b] fun r=>r = .bool (decide (a=b)):=by
 by_cases h0:a.length=b.length
 ·obtain⟨E,hE⟩:∃E,E=decide (a=b):=⟨_,rfl⟩;rw[←hE];refine sPx Tryz.func61 rfl rfl ?_;simp -dsimp[Tryz.f61,aJ,LV,h0];refine aO (W_loopM 26 0x3ffe030 (by simp[mB]<;>rfl) (σ:=Nat) (fun i=>i≤a.length∧a.take i=b.take i) (fun i=>a.length-i) (fun i=>[(13,.int .i64 i)]) (fun _=>[]) 0 ⟨by omega,rfl⟩ (by simp) rfl (by simp) ?_);rintro i ⟨hi,hall⟩ N Q hN hQ;by_cases hb:i<a.length
  ·have hb2:i<b.length:=by omega
   obtain⟨x,hx⟩:∃x,x=a[i]:=⟨_,rfl⟩;obtain⟨y,hy⟩:∃y,y=b[i]:=⟨_,rfl⟩
   have e1:=fun H=>eqVl9 H x y
   by_cases hq:x=y
   ·refine wx ?_;simp -dsimp[hb,hb2,hx.symm,hy.symm,aH];refine .inr ⟨aU (by kernel_rfl),?_⟩;simp -dsimp[e1,show decide (x=y)=true by simp[hq],aT i (by omega)];refine hN (i+1) _ _ ⟨by omega,take_ext hall hb hb2 (by rw[←hx,←hy,hq])⟩ (by omega) (by simp) ⟨[],rfl⟩ (by simp) (by simp)
   ·have hno:E=false:=by
     rw[hE,decide_eq_false_iff_not];intro e;apply hq;rw[hx,hy];subst e;rfl
    refine wx ?_;simp -dsimp[hb,hb2,hx.symm,hy.symm,aH];refine .inr ⟨aU (by kernel_rfl),?_⟩;simp -dsimp[e1,show decide (x=y)=false by simp[hq]];refine hQ _ _ _ ?_;simp -dsimp[];exact hno
  ·obtain rfl:i=a.length:=by omega
   rw[ku,h0,ku]at hall;rw[decide_eq_true hall]at hE;refine wx ?_;simp -dsimp[hb,h0];refine hQ _ _ _ ?_;simp -dsimp[];exact hE
 ·rw[decide_eq_false (fun e=>h0 (by rw[e]))];refine sPx Tryz.func61 rfl rfl ?_;simp -dsimp[Tryz.f61,aJ,LV,show ¬((a.length:Int)=b.length) by omega]
def tb0:Tb:=⟨kV,[],[]⟩
def bm(nm:ByteArray)(c:Chg):Ch:=⟨c.k,nm,tb0,c.row,c.a,c.v⟩
theorem run_del{t:Tb}(ds:List Rw)(h:aF t=0)(hd:∀d∈ds,d∈t.rows)(hs:Srt ds):runT t ((ds.map fun r=>(⟨3,r,0,vl0⟩:Chg)).map (bm t.name))=some (wrT t (t.rows.filter fun r=>ds.all fun d=>!decide (r.id=d.id))):=by
 induction ds generalizing t with
 | nil =>
  have e:(t.rows.filter fun r=>[].all fun d:Rw=>!decide (r.id=d.id))=t.rows:=List.filter_eq_self.2 (by simp);rw[e];rfl
 | cons d ds ih =>
  obtain⟨h1,h2⟩:=List.pairwise_cons.1 hs
  have hst:af t (bm t.name ⟨3,d,0,vl0⟩)=some (wrT t (cX t.rows d.id)):=by
   unfold af bm;simp only[if_true];rw[if_neg (by decide),if_pos (gO h (hd d lP))]
  have h3:=dL h hst;have h4:=ih (t:=wrT t (cX t.rows d.id)) h3.1 (fun e he=>eG.2 ⟨hd e (lX _ he),by have:=h1 e he;omega⟩) h2;rw[lD,lD,runT,hst];simp only;have h5:(wrT t (cX t.rows d.id)).name=t.name:=rfl;rw[h5]at h4;rw[h4];simp only[wrT,cX,List.filter_filter,Option.some.injEq,Tb.mk.injEq,true_and]
  refine List.filter_congr fun r _=>?_
  rw[nA,Bool.and_comm]
def jP(rs:List Rw)(id:Int)(vs:List Vl):List Rw:=rs.map fun r=>if r.id=id then⟨r.id,vs⟩ else r
theorem set_chg{rs:List Rw}(hs:Srt rs){id:Int}{vs:List Vl}(hm:(⟨id,vs⟩:Rw)∈rs)(a:Nat)(v:Vl):eR rs id a v=jP rs id (vs.set a v):=by
 refine lI fun r hr=>?_
 by_cases e:r.id=id
 ·have:=fg hs hr hm e;rw[if_pos e,if_pos e,this]
 ·rw[if_neg e,if_neg e]
theorem set_set(rs:List Rw)(id:Int)(vs ws:List Vl):jP (jP rs id vs) id ws=jP rs id ws:=by
 unfold jP;rw[nJ]
 refine lI fun r _=>?_
 simp only[Function.comp];by_cases e:r.id=id
 ·rw[if_pos e,if_pos e,if_pos e]
 ·rw[if_neg e,if_neg e]
theorem set_self{rs:List Rw}(hs:Srt rs){id:Int}{vs:List Vl}(hm:(⟨id,vs⟩:Rw)∈rs):jP rs id vs=rs:=by
 unfold jP
 conv=>rhs;rw[←nH rs]
 refine lI fun r hr=>?_
 by_cases e:r.id=id
 ·have:=fg hs hr hm e;rw[if_pos e,this];rfl
 ·rw[if_neg e];rfl
theorem set_mem{rs:List Rw}{id:Int}{vs ws:List Vl}(hm:(⟨id,vs⟩:Rw)∈rs):(⟨id,ws⟩:Rw)∈jP rs id ws:=List.mem_map.2 ⟨⟨id,vs⟩,hm,by simp⟩
theorem run_chP{t:Tb}{id:Int}{now tv:List Vl}(h:aF t=0)(hm:(⟨id,now⟩:Rw)∈t.rows)(hv:∀i,i<tv.length→aY (atV tv i)=true)(hl:tv.length=t.attrs.length)(a:Nat)(ha:a≤tv.length):
  runT t ((chP id tv a now).map (bm t.name))=some (wrT t (jP t.rows id (ap tv a now))):=by
 induction a with
 | zero=>simp only[chP,lS,runT,ap];rw[set_self (bH h) hm];rfl
 | succ a ih =>
  have h1:=ih (by omega);rw[chP,lU,cA,h1,mP]
  have hnl:(ap tv a now).length=t.attrs.length:=by rw[dF];exact(am h _ hm).2.1
  obtain⟨T,hT⟩:∃T,T=wrT t (jP t.rows id (ap tv a now)):=⟨_,rfl⟩
  have hTn:T.name=t.name:=by rw[hT];rfl
  have hTa:T.attrs=t.attrs:=by rw[hT];rfl
  have hTr:T.rows=jP t.rows id (ap tv a now):=by rw[hT];rfl
  have hTm:(⟨id,ap tv a now⟩:Rw)∈T.rows:=by rw[hTr];exact set_mem hm
  have hTv:aF T=0:=by
   clear ih
   have:∀(l:List Ch) (u w:Tb),aF u=0→runT u l=some w→aF w=0:=by
    intro l
    induction l with
    | nil=>intro u w h1 h2;cases h2;exact h1
    | cons c l ih =>
     intro u w h1 h2;rw[runT]at h2
     cases hq:af u c with
     | none=>rw[hq]at h2;cases h2
     | some x=>rw[hq]at h2;exact ih x w (dL h1 hq).1 h2
   exact this _ _ _ h (by rw[h1,hT])
  rw[←hT];split
  ·rename_i e
   have:ap tv (a+1) now=ap tv a now:=by rw[ap];exact set_same (by omega) e
   rw[this,lS,runT,hT]
  ·have hst:af T (bm t.name ⟨4,⟨id,ap tv a now⟩,a,atV tv a⟩)=some (wrT T (eR T.rows id a (atV tv a))):=by
    unfold af bm;simp only;rw[if_pos hTn.symm,if_neg (by decide),if_pos (gO hTv hTm),if_neg (by decide),if_pos (by decide),if_pos ⟨by omega,by rw[hTa];omega,hv a (by omega)⟩];rfl
   rw[lD,lS,runT,hst];simp only[runT];rw[set_chg (bH hTv) hTm,hTr,set_set,ap,hT];rfl
theorem nowF_all{tv now:List Vl}(h:now.length=tv.length):ap tv tv.length now=tv:=by
 have key:∀a,a≤tv.length→∀i,i<tv.length→(ap tv a now)[i]?=if i<a then tv[i]? else now[i]?:=by
  intro a
  induction a with
  | zero=>intro _ i _;simp[ap]
  | succ a ih =>
   intro ha i hi;rw[ap,my];by_cases e:a=i
   ·subst e;rw[if_pos rfl,if_pos (by rw[dF];omega),if_pos (by omega)];simp[atV,hi]
   ·rw[if_neg e,ih (by omega) i hi];by_cases h2:i<a
    ·rw[if_pos h2,if_pos (by omega)]
    ·rw[if_neg h2,if_neg (by omega)]
 refine lx fun i=>?_
 by_cases hi:i<tv.length
 ·rw[key _ (kY _) i hi,if_pos hi]
 ·rw[lF (by rw[dF];omega),lF (by omega)]
theorem run_chL{t u:Tb}(hu:aF u=0)(hat:t.attrs.length=u.attrs.length)(rs:List Rw)(h:aF t=0)(hd:∀d∈rs,d∈t.rows)(hs:Srt rs):
  runT t ((chL u t.attrs.length rs).map (bm t.name))=some (wrT t (t.rows.map fun r=>if(rs.any fun d=>decide (d.id=r.id))=true∧inT u r.id=true then⟨r.id,(atT u r.id).vals⟩ else r)):=by
 induction rs generalizing t with
 | nil=>simp[chL,runT,wrT]
 | cons d rs ih =>
  obtain⟨h1,h2⟩:=List.pairwise_cons.1 hs;have hdm:=hd d lP;have hsrt:=bH h
  obtain⟨T,hT,hTr⟩:∃T,runT t ((chR u t.attrs.length d).map (bm t.name))=some (wrT t T)∧T=t.rows.map (fun r=>if r.id=d.id∧inT u r.id=true then⟨r.id,(atT u r.id).vals⟩ else r):=by
   refine⟨_,?_,rfl⟩;unfold chR;by_cases hi:inT u d.id=true
   ·rw[if_pos hi];have hx:=eT hi;have hy:=am hu _ hx.2
    have hl:(atT u d.id).vals.length=t.attrs.length:=by rw[hy.2.1,hat]
    have hdl:=(am h _ hdm).2.1
    have:=run_chP (now:=d.vals) (tv:=(atT u d.id).vals) h (id:=d.id) hdm (fun i hi2=>by
     have e:atV (atT u d.id).vals i=(atT u d.id).vals[i]:=by simp[atV,hi2]
     rw[e];exact List.all_eq_true.1 hy.2.2 _ (kZ hi2)) hl t.attrs.length (by omega)
    rw[this];congr 2
    refine lI fun r hr=>?_
    by_cases e:r.id=d.id
    ·rw[if_pos e,if_pos ⟨e,by rw[e];exact hi⟩,←hl,nowF_all (by omega),e]
    ·rw[if_neg e,if_neg fun h=>e h.1]
   ·rw[if_neg hi,lS,runT]
    have e:(t.rows.map fun r=>if r.id=d.id∧inT u r.id=true then(⟨r.id,(atT u r.id).vals⟩:Rw) else r)=t.rows:=by
     conv=>rhs;rw[←nH t.rows]
     refine lI fun r hr=>?_
     rw[if_neg];rfl;rintro⟨e,h3⟩;exact hi (by rw[←e];exact h3)
    rw[e];rfl
  have hval:aF (wrT t T)=0:=by
   have:∀(l:List Ch) (u w:Tb),aF u=0→runT u l=some w→aF w=0:=by
    intro l
    induction l with
    | nil=>intro u w h1 h2;cases h2;exact h1
    | cons c l ih =>
     intro u w h1 h2;rw[runT]at h2
     cases hq:af u c with
     | none=>rw[hq]at h2;cases h2
     | some x=>rw[hq]at h2;exact ih x w (dL h1 hq).1 h2
   exact this _ _ _ h hT
  have h4:=ih (t:=wrT t T) hat hval (fun e he=>by
   have:=hd e (lX _ he);show e∈T;rw[hTr];refine List.mem_map.2 ⟨e,this,?_⟩;rw[if_neg];rintro⟨e2,_⟩;have:=h1 e he
   omega) h2
  have h5:(wrT t T).name=t.name:=rfl;have h6:(wrT t T).attrs=t.attrs:=rfl;rw[h5,h6]at h4
  have h7:chL u t.attrs.length (d::rs)=chR u t.attrs.length d++chL u t.attrs.length rs:=by simp[chL]
  rw[h7,lU,cA,hT,mP,h4];congr 1;unfold wrT;congr 1;show T.map _=_
  have gid:∀r:Rw,(if r.id=d.id∧inT u r.id=true then(⟨r.id,(atT u r.id).vals⟩:Rw) else r).id=r.id:=fun r=>by split<;>rfl
  rw[hTr,nJ]
  refine lI fun r hr=>?_
  simp only[Function.comp,gid];by_cases hi:inT u r.id=true
  ·by_cases h8:(rs.any fun d=>decide (d.id=r.id))=true
   ·rw[if_pos ⟨h8,hi⟩,if_pos ⟨by rw[mY,h8,Bool.or_true],hi⟩]
   ·rw[if_neg fun h=>h8 h.1];by_cases e:r.id=d.id
    ·rw[if_pos ⟨e,hi⟩,if_pos ⟨by rw[mY,e];simp,hi⟩]
    ·rw[if_neg fun h=>e h.1,if_neg];rintro⟨h9,_⟩;rw[mY,lZ]at h9
     rcases h9 with h9 | h9
     ·exact e (of_decide_eq_true h9).symm
     ·exact h8 h9
  ·rw[if_neg fun h=>hi h.2,if_neg fun h=>hi h.2,if_neg fun h=>hi h.2]
theorem run_ins{t u:Tb}(hu:aF u=0)(hat:t.attrs.length=u.attrs.length)(ns:List Rw)(h:aF t=0)(ht:∀r∈t.rows,r∈u.rows)(hn:∀r∈ns,r∈u.rows)(hd:∀r∈ns,¬inT t r.id=true)(hs:Srt ns):
  ∃M,runT t ((ns.map fun r=>(⟨2,r,0,vl0⟩:Chg)).map (bm t.name))=some (wrT t M)∧Srt M∧∀r,r∈M↔r∈t.rows∨r∈ns:=by
 induction ns generalizing t with
 | nil=>exact⟨t.rows,rfl,bH h,fun r=>by simp⟩
 | cons n ns ih =>
  obtain⟨h1,h2⟩:=List.pairwise_cons.1 hs;have hnm:=hn n lP;have hnt:=hd n lP;have hy:=am hu _ hnm
  have hlt:t.rows.length<1000:=by
   have he:t.rows=u.rows.filter fun r=>inT t r.id:=gN (bH h) (List.Pairwise.filter _ (bH hu)) fun r=>by
    rw[mV];constructor
    ·intro hr;exact⟨ht r hr,cR.2 ⟨r,hr,rfl⟩⟩
    ·rintro⟨hr,hi⟩;obtain⟨s,hs2,e⟩:=cR.1 hi;rw[←fg (bH hu) (ht s hs2) hr e];exact hs2
   have h5:=bn hu;have h6:(u.rows.filter fun r=>inT t r.id).length<u.rows.length:=List.length_filter_lt_length_iff_exists.2 ⟨n,hnm,by simpa using hnt⟩;have h7:=congrArg List.length he;omega
  have hi:bF t n=0:=by
   unfold bF;rw[if_neg (by rw[hy.2.1,hat];simp),if_neg (by rw[hy.2.2];simp;omega),if_neg hnt,if_neg (by omega)]
  have hst:af t (bm t.name ⟨2,n,0,vl0⟩)=some (wrT t (dk t.rows n)):=by
   unfold af bm;simp only[if_true];rw[if_pos hi]
  have hno:=(cW hi).2.2.2.1
  obtain⟨M,hM1,hM2,hM3⟩:=ih (t:=wrT t (dk t.rows n)) hat (dL h hst).1 (fun r hr=>by
   rcases eF.1 hr with rfl | ⟨hr,_⟩
   ·exact hnm
   ·exact ht r hr) (fun r hr=>hn r (lX _ hr)) (fun r hr hin=>by
   obtain⟨s,hs2,e⟩:=cR.1 hin
   rcases eF.1 hs2 with rfl | ⟨hs2,_⟩
   ·have:=h1 r hr;omega
   ·exact hd r (lX _ hr) (cR.2 ⟨s,hs2,e⟩)) h2
  refine⟨M,?_,hM2,fun r=>?_⟩
  ·rw[lD,lD,runT,hst];exact hM1
  ·rw[hM3];show r∈dk t.rows n∨_↔_;rw[eF,kh];constructor
   ·rintro((rfl | ⟨h1,_⟩) | h1)
    ·exact .inr (.inl rfl)
    ·exact .inl h1
    ·exact .inr (.inr h1)
   ·rintro(h1 | rfl | h1)
    ·exact .inl (.inr ⟨h1,hno r h1⟩)
    ·exact .inl (.inl rfl)
    ·exact .inr h1
theorem plan_run{t u:Tb}(h:aF t=0)(hu:aF u=0)(hat:t.attrs.length=u.attrs.length):runT t ((dD t u).map (bm t.name))=some (wrT t u.rows):=by
 have hsrt:=bH h;have hsu:=bH hu
 have vrun:∀(l:List Ch) (u w:Tb),aF u=0→runT u l=some w→aF w=0:=by
  intro l
  induction l with
  | nil=>intro u w h1 h2;cases h2;exact h1
  | cons c l ih =>
   intro u w h1 h2;rw[runT]at h2
   cases hq:af u c with
   | none=>rw[hq]at h2;cases h2
   | some x=>rw[hq]at h2;exact ih x w (dL h1 hq).1 h2
 obtain⟨R,hR⟩:∃R,R=t.rows.filter fun r=>inT u r.id:=⟨_,rfl⟩
 have h1:=run_del (t.rows.filter fun r=>!inT u r.id) h (fun d hd=>(List.mem_filter.1 hd).1) (List.Pairwise.filter _ hsrt)
 have hRe:(t.rows.filter fun r=>(t.rows.filter fun r=>!inT u r.id).all fun d=>!decide (r.id=d.id))=R:=by
  rw[hR]
  refine List.filter_congr fun r hr=>?_
  rw[mc,lY];constructor
  ·intro h2;cases hq:inT u r.id
   ·have:=h2 r (List.mem_filter.2 ⟨hr,by simp[hq]⟩);simp at this
   ·rfl
  ·intro h2 d hd;obtain⟨h3,h4⟩:=List.mem_filter.1 hd;rw[mH,decide_eq_false_iff_not];intro e;rw[←e,h2]at h4;cases h4
 rw[hRe]at h1;have hv1:=vrun _ _ _ h h1
 have hRm:∀r,r∈R↔r∈t.rows∧inT u r.id=true:=fun r=>by rw[hR,mV]
 have hRs:Srt R:=by rw[hR];exact List.Pairwise.filter _ hsrt
 have hchl:chL u t.attrs.length t.rows=chL u t.attrs.length R:=by
  rw[hR];unfold chL
  induction t.rows with
  | nil=>rfl
  | cons r rs ih =>
   rw[me,mi,ih];by_cases hi:inT u r.id=true
   ·rw[if_pos hi,me]
   ·rw[if_neg hi]
    have:chR u t.attrs.length r=[]:=by unfold chR;rw[if_neg hi]
    rw[this,lQ]
 have h2:=run_chL hu (t:=wrT t R) hat R hv1 (fun d hd=>hd) hRs;have e1:(wrT t R).name=t.name:=rfl;have e2:(wrT t R).attrs=t.attrs:=rfl;have e3:(wrT t R).rows=R:=rfl;rw[e1,e2,e3]at h2
 obtain⟨S,hS⟩:∃S,S=R.map fun r=>if(R.any fun d=>decide (d.id=r.id))=true∧inT u r.id=true then(⟨r.id,(atT u r.id).vals⟩:Rw) else r:=⟨_,rfl⟩
 rw[←hS]at h2;have hv2:=vrun _ _ _ hv1 h2
 have hSm:∀s,s∈S↔s∈u.rows∧inT t s.id=true:=fun s=>by
  rw[hS,List.mem_map];constructor
  ·rintro⟨r,hr,e⟩;obtain⟨h3,h4⟩:=(hRm r).1 hr;rw[if_pos ⟨List.any_eq_true.2 ⟨r,hr,by simp⟩,h4⟩]at e;have h5:=eT h4
   have:s=atT u r.id:=by
    cases hq:atT u r.id with
    | mk a b=>rw[hq]at e h5;rw[←e,←h5.1]
   subst this;exact⟨h5.2,by rw[h5.1];exact cR.2 ⟨r,h3,rfl⟩⟩
  ·rintro⟨h3,h4⟩;obtain⟨r,hr,e⟩:=cR.1 h4;have h5:=atT_mem hsu h3;have h6:r∈R:=(hRm r).2 ⟨hr,by rw[e];exact h5.1⟩;refine⟨r,h6,?_⟩;rw[if_pos ⟨List.any_eq_true.2 ⟨r,h6,by simp⟩,by rw[e];exact h5.1⟩,e,h5.2]
 obtain⟨M,hM1,hM2,hM3⟩:=run_ins hu (t:=wrT (wrT t R) S) hat (u.rows.filter fun r=>!inT t r.id) hv2 (fun r hr=>((hSm r).1 hr).1) (fun r hr=>(List.mem_filter.1 hr).1) (fun r hr hin=>by
  obtain⟨s,hs2,e⟩:=cR.1 hin;have h3:=(List.mem_filter.1 hr).2;have h4:=((hSm s).1 hs2).2;rw[e]at h4;rw[h4]at h3
  cases h3) (List.Pairwise.filter _ hsu)
 have hM:M=u.rows:=gN hM2 hsu fun r=>by
  rw[hM3];show r∈S∨_↔_;rw[hSm,mV];constructor
  ·rintro(h3 | h3)<;>exact h3.1
  ·intro h3;cases hq:inT t r.id
   ·exact .inr ⟨h3,rfl⟩
   ·exact .inl ⟨h3,rfl⟩
 subst hM;unfold dD cp cV;rw[lU,lU,cA,h1,mP,cA,hchl,h2,mP];exact hM1
end
end Go.Proofs.YtpedcgdgjoblkaaGreatDoor
