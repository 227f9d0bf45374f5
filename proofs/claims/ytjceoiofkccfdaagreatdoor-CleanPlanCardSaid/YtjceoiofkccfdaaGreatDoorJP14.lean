/- JP14: own texts of this seat, joined and shortened by pack4.py: PF, Ve, PV, PA, GrH, ClV, PS, GrG, CatG, PT, PD, PG, PE, GrZ, Gr, GrC. -/
import Derived.Test.YtjceoiofkccfdaaGreatDoorJP10
import Derived.WalkKit
import Derived.Lib.Walk
import Derived.Lib.SliceRun
import Derived.Lib.AppendZerosOnto
import Derived.OwnWalk
import Derived.WalkSpells
import Derived.WalkLawsBesides
import Derived.Lib.Hide
import Derived.Maps.AppendAt
set_option linter.unusedVariables false
set_option linter.unusedSimpArgs false
set_option maxRecDepth 100000
set_option maxHeartbeats 64000000
open Array renaming size_append→iJ,getElem?_push_size→iT
open Bool renaming false_eq_true→gQ,false_and→gV,true_and→gX,eq_iff_iff→ii
open ByteArray renaming empty→gI
open List renaming replicate→gG,getElem?_eq_getElem→gJ,range→gM,append_nil→gP,getElem_mem→gR,length_append→gh,not_mem_nil→gi,mem_cons→gl,mem_of_mem_take→gu,length_cons→gw,take_length→gy,take_succ_eq_append_getElem→iE,nil_append→iF,getElem?_cons_zero→iH,take_of_length_le→iL,take_append_drop→iM,length_map→iP,getElem?_cons_succ→iV,map_append→iw
open Nat renaming le_refl→gL,add_mul→gU,lt_of_lt_of_le→gb,zero_le→ia,add_sub_cancel'→ie
open Option renaming getD_some→ic
namespace Go.Proofs.YtjceoiofkccfdaaGreatDoor
section
open Go Go.AM
def fnd(rs:List Rw)(id:Int)(i:Nat):Nat×Bool:=if h:i<rs.length then(if rs[i].id=id then(i,true) else fnd rs id (i+1)) else(0,false)
termination_by rs.length-i
theorem find03(t:Tb)(f g:Bool)(id:Int)(hr:t.rows.length≤1000000):aJ Tryz.prog 29 [aS f g t,.int .i64 id] fun r=>r = .tup [.int .i64 (fnd t.rows id 0).1,.bool (fnd t.rows id 0).2]:=by
 obtain⟨E,hE⟩:∃E,E=fnd t.rows id 0:=⟨_,rfl⟩;rw[←hE];refine sPx Tryz.func29 rfl rfl ?_;simp -dsimp[Tryz.f29,gG,aS,LS,LR];refine ab (W_loopM 23 0x7ffff0 (by simp[mB]<;>rfl) (σ:=Nat) (fun i=>fnd t.rows id i=E) (fun i=>t.rows.length-i) (fun i=>[(6,.int .i64 i)]) (fun _=>[B.cells [.str t.name,.lst 1 f (t.attrs.map V.str),.lst 2 g (t.rows.map aE)]]) 0 hE.symm (by simp) (by simp) (by simp) ?_);intro i hx N Q hN hQ;by_cases hb:i<t.rows.length
 ·rw[fnd,dif_pos hb]at hx;by_cases hq:t.rows[i].id=id
  ·rw[if_pos hq]at hx;subst hx;refine wx ?_;simp -dsimp[hb,aE,LV,hq];refine hQ _ _ _ ?_;simp -dsimp[]
  ·rw[if_neg hq]at hx;refine wx ?_;simp -dsimp[hb,aE,LV,hq];simp -dsimp[aZ i (by omega)];refine hN (i+1) _ _ hx (by omega) (by simp) ⟨[],by simp⟩ (by simp) (by simp)
 ·rw[fnd,dif_neg hb]at hx;subst hx;refine wx ?_;simp -dsimp[hb];refine hQ _ _ _ ?_;simp -dsimp[]
def ixR(p:Rw→Bool)(rs:List Rw)(i:Nat):Int:=if h:i<rs.length then(if p rs[i] then(i:Int) else ixR p rs (i+1)) else -1
termination_by rs.length-i
theorem idxFuncR(H:List B)(fv:V)(p:Rw→Bool)(rs:List Rw)(g:Bool)(hes:rs.length≤1000000)(hH:∀bl∈H,rbB H.length bl)(hfv:rb H.length fv)
  (hp:∀m∈rs,aG Tryz.prog fv [aE m] H fun r H'=>r = .bool (p m)∧∃G,H'=H++G):cB Tryz.prog 53 [LR g rs,fv] H fun r H'=>r = .int .i64 (ixR p rs 0)∧∃G,H'=H++G:=by
 refine bM tok Tryz.func53 rfl rfl ?_;refine wx ?_;simp -dsimp[Tryz.f53,gG,LR];refine ab (W_loopM 19 0x7ff30 (by simp[mB]<;>rfl) (σ:=Nat) (fun i=>ixR p rs i=ixR p rs 0) (fun i=>rs.length-i) (fun i=>[(8,.int .i64 i)]) (fun _=>H) 0 rfl (by simp) rfl (by simp) ?_);intro i hx N Q hN hQ;by_cases hb:i<rs.length
 ·rw[ixR,dif_pos hb]at hx;have hc:=hp rs[i] (gR hb);cases hq:p rs[i]
  ·rw[hq]at hc hx;simp only[aE,LV]at hc;refine wx ?_;simp -dsimp[hb,aE,LV];refine hc.mono ?_;rintro r H' ⟨rfl,G,rfl⟩;simp -dsimp[aZ i (by omega)];refine hN (i+1) _ _ (by simpa using hx) (by omega) (by simp) ⟨G,rfl⟩ (by simp;exact hfv) hH
  ·rw[hq]at hc hx;simp only[aE,LV]at hc;refine wx ?_;simp -dsimp[hb,aE,LV];refine hc.mono ?_;rintro r H' ⟨rfl,G,rfl⟩;simp -dsimp[];refine hQ _ _ _ ?_;simp -dsimp[];simpa using hx
 ·rw[ixR,dif_neg hb]at hx;refine wx ?_;simp -dsimp[hb];refine hQ _ _ _ ?_;simp -dsimp[];simpa using hx
theorem ixR_fnd(rs:List Rw)(id:Int)(i:Nat):ixR (fun r=>r.id == id) rs i=if(fnd rs id i).2=true then((fnd rs id i).1:Int) else -1:=by
 fun_induction fnd rs id i with
 | case1 i hi he=>rw[ixR,dif_pos hi,if_pos (by simpa using he)];rfl
 | case2 i hi he ih=>rw[ixR,dif_pos hi,if_neg (by simpa using he)];exact ih
 | case3 i hi=>rw[ixR,dif_neg hi];rfl
theorem fnd_no0{rs:List Rw}{id:Int}(i:Nat):(fnd rs id i).2=false→(fnd rs id i).1=0:=by
 fun_induction fnd rs id i with
 | case1 i hi he=>intro h;cases h
 | case2 i hi he ih=>exact ih
 | case3 i hi=>exact fun _=>rfl
theorem find_u(t:Tb)(ff gg:Bool)(id:Int)(hr:t.rows.length≤1000000):aJ Tryz.prog 24 [aS ff gg t,.int .i64 id] fun r=>r = .tup [.int .i64 (fnd t.rows id 0).1,.bool (fnd t.rows id 0).2]:=by
 have hclo:∀m∈t.rows,aG Tryz.prog (.fn 54 [.ptr 1 0]) [aE m] [B.cells [.str t.name,LS ff t.attrs,LR gg t.rows],B.cells [.int .i64 id]] fun r H'=>r = .bool (m.id == id)∧∃G,H'=[B.cells [.str t.name,LS ff t.attrs,LR gg t.rows],B.cells [.int .i64 id]]++G:=fun m hm=>by
  simp only[aG,List.cons_append,iF];refine bM tok Tryz.func54 rfl rfl ?_;refine wx ?_;simp -dsimp[Tryz.f54,gG,aE,LS,LR,LV]
 have hcf:=idxFuncR [B.cells [.str t.name,LS ff t.attrs,LR gg t.rows],B.cells [.int .i64 id]] (.fn 54 [.ptr 1 0]) (fun m=>m.id == id) t.rows gg hr (by simp[LS,LR]) (by simp) hclo;rw[ixR_fnd]at hcf;simp only[LS,LR]at hcf
 cases h0:(fnd t.rows id 0).2 with
 | true =>
  rw[h0,if_pos rfl]at hcf;obtain⟨n,hn⟩:∃n,n=(fnd t.rows id 0).1:=⟨_,rfl⟩;rw[←hn]at hcf ⊢;refine sPx Tryz.func24 rfl rfl ?_;simp -dsimp[Tryz.f24,gG,aS,LS,LR];refine aG.mono (K:=fun r H'=>r = .int .i64 (n:Int)∧∃G,H'=[B.cells [.str t.name,.lst 1 ff (t.attrs.map V.str),.lst 2 gg (t.rows.map aE)],B.cells [.int .i64 id]]++G) hcf ?_;rintro r H' ⟨rfl,G,rfl⟩;simp -dsimp[show(0:Int)≤(n:Int) by omega,show ¬(n:Int)<0 by omega]
 | false =>
  rw[h0,if_neg (by simp)]at hcf;rw[fnd_no0 0 h0];refine sPx Tryz.func24 rfl rfl ?_;simp -dsimp[Tryz.f24,gG,aS,LS,LR];refine aG.mono (K:=fun r H'=>r = .int .i64 (-1)∧∃G,H'=[B.cells [.str t.name,.lst 1 ff (t.attrs.map V.str),.lst 2 gg (t.rows.map aE)],B.cells [.int .i64 id]]++G) hcf ?_;rintro r H' ⟨rfl,G,rfl⟩;simp -dsimp[]
theorem cmpI_eq(x y:Int):cS x y=0↔x=y:=by
 unfold cS;split
 ·simp;omega
 ·split<;>simp<;>omega
theorem cmpB_zero:∀(a b:List UInt8),Lib.compareBytes a b=0↔a=b
 | [],[]=>by simp[Lib.compareBytes]
 | [],_::_=>by simp[Lib.compareBytes]
 | _::_,[]=>by simp[Lib.compareBytes]
 | a::xs,b::bs=>by
  rw[Lib.compareBytes,List.cons.injEq];split
  ·rename_i h;constructor
   ·intro h2;cases h2
   ·rintro⟨rfl,_⟩;exact absurd h (UInt8.lt_irrefl _)
  ·split
   ·rename_i h;constructor
    ·intro h2;cases h2
    ·rintro⟨rfl,_⟩;exact absurd h (UInt8.lt_irrefl _)
   ·rename_i h1 h2;rw[cmpB_zero xs bs];constructor
    ·intro h;exact⟨UInt8.le_antisymm (UInt8.not_lt.1 h2) (UInt8.not_lt.1 h1),h⟩
    ·exact fun h=>h.2
theorem cmpS_zero(a b:ByteArray):cmpS a b=0↔a=b:=by
 unfold cmpS;rw[cmpB_zero];constructor
 ·intro h;cases a;cases b;simp only[ByteArray.mk.injEq];exact Array.ext' h
 ·rintro rfl;rfl
theorem cmpV_zero(a b:Vl):cmpV a b=0↔a=b:=by
 unfold cmpV;have h1:=cmpI_eq a.k b.k;have h2:=cmpI_eq a.n b.n;have h3:=cmpS_zero a.s b.s
 have he:a=b↔a.k=b.k∧a.n=b.n∧a.s=b.s:=by cases a;cases b;simp
 rw[he];split
 ·rename_i g1;split
  ·rename_i g2;rw[h3];exact⟨fun h=>⟨h1.1 g1,h2.1 g2,h⟩,fun h=>h.2.2⟩
  ·rename_i g2;exact⟨fun h=>absurd h g2,fun h=>absurd (h2.2 h.2.1) g2⟩
 ·rename_i g1;exact⟨fun h=>absurd h g1,fun h=>absurd (h1.2 h.1) g1⟩
instance decVl:DecidableEq Vl:=fun a b =>
 if h:a.k=b.k∧a.n=b.n∧a.s=b.s then .isTrue (by
  obtain⟨k,n,s⟩:=a;obtain⟨k',n',s'⟩:=b;obtain⟨rfl,rfl,rfl⟩:=h
  rfl) else .isFalse (fun e=>h (by subst e;exact⟨rfl,rfl,rfl⟩))
theorem ba_beqV(a b:ByteArray):(a == b)=decide (a=b):=by
 rw[ii,decide_eq_true_iff];cases a;cases b;rename_i x y;rw[ByteArray.mk.injEq,show((ByteArray.mk x == ByteArray.mk y)=(x == y)) from rfl];exact beq_iff_eq
theorem int_beqV(a b:Int):(a == b)=decide (a=b):=by
 rw[ii,decide_eq_true_iff];exact beq_iff_eq
theorem eqVl(H:List B)(a b:Vl):eqA2 T H 48 (.agg [.int .i64 a.k,.int .i64 a.n,.str a.s]) (.agg [.int .i64 b.k,.int .i64 b.n,.str b.s])=some (decide (a=b)):=by
 have h1:∀x y:Int,eqD T 9999 3 (.int .i64 x) (.int .i64 y)=some (decide (x=y)):=fun x y=>by simp[eqD,int_beqV]
 have h2:∀x y:Int,eqD T 9999 2 (.int .i64 x) (.int .i64 y)=some (decide (x=y)):=fun x y=>by simp[eqD,int_beqV]
 have h3:∀x y:ByteArray,eqD T 9999 9 (.str x) (.str y)=some (decide (x=y)):=fun x y=>by simp[eqD,ba_beqV]
 simp only[eqA2];rw[show(10000:Nat)=9999+1 from rfl,eqD];simp only[T_48];simp only[if_true,eqFs,dm,T_3,T_2,T_9,bI,iH,iV,gQ,if_false,h1,h2,h3];obtain⟨k,n,s⟩:=a;obtain⟨k',n',s'⟩:=b;by_cases e1:k=k'<;>by_cases e2:n=n'<;>by_cases e3:s=s'<;>simp[e1,e2,e3]
theorem eqSt_beq(a b:ByteArray):bZ a b=decide (a=b):=by
 unfold bZ;rw[ii,beq_iff_eq,decide_eq_true_iff];constructor
 ·intro h
  have h2:a.data.toList=b.data.toList:=by simpa[ByteArray.toList_eq] using h
  cases a;cases b;simp only[ByteArray.mk.injEq];exact Array.toList_inj.1 h2
 ·rintro rfl;rfl
theorem eqSt_eq{a b:ByteArray}(h:(a.toList == b.toList)=true):a=b:=by
 have:=eqSt_beq a b;unfold bZ at this;rw[h]at this;simpa using this.symm
structure Chg where
 k:Int
 row:Rw
 a:Int
 v:Vl
def vl0:Vl:=⟨0,0,gI⟩
def aM(nm:ByteArray)(c:Chg):V:=.agg [.int .i64 c.k,.str nm,.str gI,.nilS,.nilS,.int .i64 c.row.id,LV false c.row.vals,.int .i64 c.a,.int .i64 c.v.k,.int .i64 c.v.n,.str c.v.s]
@[simp] theorem encChg_pure (nm:ByteArray) (c:Chg):AM.Pure (aM nm c):=by simp[aM,LV]
@[simp] theorem encChg_oneV (nm:ByteArray) (c:Chg):dW (aM nm c)=true:=by simp[aM,dW,LV,V.one]
def LCh(f:Bool)(nm:ByteArray)(l:List Chg):V:=.lst 11 f (l.map (aM nm))
@[simp] theorem LCh_pure (f:Bool) (nm:ByteArray) (l:List Chg):AM.Pure (LCh f nm l):=by simp[LCh]
def atV(l:List Vl)(i:Nat):Vl:=l.getD i vl0
def ao(tv:List Vl):Nat→List Vl→List Vl
 | 0,now=>now
 | a+1,now=>(ao tv a now).set a (atV tv a)
def chP(id:Int)(tv:List Vl):Nat→List Vl→List Chg
 | 0,_=>[]
 | a+1,now=>chP id tv a now++(if atV (ao tv a now) a=atV tv a then [] else [⟨4,⟨id,ao tv a now⟩,a,atV tv a⟩])
theorem dy(tv now:List Vl):∀a,(ao tv a now).length=now.length
 | 0=>rfl
 | a+1=>by rw[ao,List.length_set,dy tv now a]
def inT(t:Tb)(id:Int):Bool:=(fnd t.rows id 0).2
def atT(t:Tb)(id:Int):Rw:=rwG t.rows (fnd t.rows id 0).1
def chR(u:Tb)(w:Nat)(r:Rw):List Chg:=if inT u r.id then chP r.id (atT u r.id).vals w r.vals else []
def bq(u:Tb)(rs:List Rw):List Chg:=(rs.filter fun r=>!inT u r.id).map fun r=>⟨3,r,0,vl0⟩
def bj(t:Tb)(rs:List Rw):List Chg:=(rs.filter fun r=>!inT t r.id).map fun r=>⟨2,r,0,vl0⟩
def chL(u:Tb)(w:Nat)(rs:List Rw):List Chg:=rs.flatMap (chR u w)
theorem delL_snoc(u:Tb){rs:List Rw}{i:Nat}(h:i<rs.length):bq u (rs.take (i+1))=bq u (rs.take i)++(if inT u rs[i].id then [] else [⟨3,rs[i],0,vl0⟩]):=by
 unfold bq;rw[iE h,List.filter_append,iw];congr 1;cases hq:inT u rs[i].id<;>simp[List.filter,hq]
theorem insL_snoc(u:Tb){rs:List Rw}{i:Nat}(h:i<rs.length):bj u (rs.take (i+1))=bj u (rs.take i)++(if inT u rs[i].id then [] else [⟨2,rs[i],0,vl0⟩]):=by
 unfold bj;rw[iE h,List.filter_append,iw];congr 1;cases hq:inT u rs[i].id<;>simp[List.filter,hq]
theorem chL_snoc(u:Tb)(w:Nat){rs:List Rw}{i:Nat}(h:i<rs.length):chL u w (rs.take (i+1))=chL u w (rs.take i)++chR u w rs[i]:=by
 unfold chL;rw[iE h,List.flatMap_append];simp
def ba(t u:Tb):Int:=if aO t=0 then(if aO u=0 then(if bZ t.name u.name&&dk t.attrs u.attrs then 0 else 1) else aO u) else aO t
def dw(t u:Tb):List Chg:=bq u t.rows++(chL u t.attrs.length t.rows++bj t u.rows)
def co(t u:Tb):V:=if ba t u=0 then LCh false t.name (dw t u) else .nilS
theorem fJ(id:Int)(tv now:List Vl):∀a,(chP id tv a now).length≤a
 | 0=>gL _
 | a+1=>by
  have:=fJ id tv now a;rw[chP,gh];split<;>simp<;>omega
theorem chR_len(u:Tb)(w:Nat)(r:Rw):(chR u w r).length≤w:=by
 unfold chR;split
 ·exact fJ _ _ _ _
 ·exact ia _
theorem fK(u:Tb)(w:Nat):∀rs:List Rw,(chL u w rs).length≤rs.length*w
 | []=>by simp[chL]
 | r::rs=>by
  have h1:=fK u w rs;have h2:=chR_len u w r;unfold chL at h1 ⊢;rw[List.flatMap_cons,gh,gw,Nat.succ_mul];omega
theorem gC(u:Tb)(rs:List Rw):(bq u rs).length≤rs.length:=by
 unfold bq;rw[iP];exact List.length_filter_le _ _
theorem fh(u:Tb)(rs:List Rw):(bj u rs).length≤rs.length:=by
 unfold bj;rw[iP];exact List.length_filter_le _ _
end
end Go.Proofs.YtjceoiofkccfdaaGreatDoor
namespace Go.Proofs.YtjceoiofkccfdaaGreatDoor
section
open Go Go.AM Go.RowKit Go.Lib
theorem eL{f:FuncId}{args:List V}{e z:Nat}(hE:AM.Enters Tryz.prog f)(h:∀(F:Nat→Prop) (w:World) (vals:Array Value),vals.size=args.length→(∀(i:Nat) a u,args[i]?=some a→vals[i]?=some u→Rel (AM.base F w) a u)→
  Calls Tryz.prog f vals w fun e' w'=>∃v,e' = .returned v∧Below w.heap.size w w'∧(v = .slice none 0 0∨∃g c cur,v = .slice (some ⟨g,0,none⟩) 0 c∧w.heap.size≤g∧w'.heap[g]?=some (.cells cur e (0,0))∧c≠0∧c≤maxLen∧cur.size=c*z)):dX Tryz.prog f args fun e' z' ys=>e'=e∧z'=z∧ys=[]:=by
 refine⟨hE,fun F w vals hZ hF hsz hrel=>(h F w vals hsz hrel).mono fun e' w' ⟨v,he,hb,hv⟩=>?_⟩
 rcases hv with hv | ⟨g,c,cur,hv,hg,hc,hn,hm,hs⟩
 ·have hF':∀b,F b→b<w'.heap.size:=fun b hb'=>gb (hF b hb') hb.size
  obtain⟨p1,_⟩:=push0 (AM.base_good hF') (w:=w') 0 e z false rfl rfl rfl (gL _) (fun _ _=>rfl);refine⟨v,e,z,[],none,0,0,he,hv,fun h=>absurd rfl h,by simp,fun h=>absurd rfl h,?_,hb,rfl,rfl,rfl⟩;refine⟨hF',fun k hk=>absurd (hk.2 e z [] false (by have:=hk.1;simp at this;subst this;rfl)) (by simp),fun j k hj hk _=>by have:=hj.1;have:=hk.1;simp at *;omega,fun k bl hk=>?_⟩
  have hk0:k=0:=by have:=aB hk;simp at this;omega
  subst hk0;simp at hk;subst hk;exact⟨#[],fun h=>absurd rfl h,by simp,by simp,by simp[maxLen],(fun x hx=>by cases hx),(fun i x j c u hx=>by simp at hx)⟩
 ·have hF':∀b,F b→b<w'.heap.size:=fun b hb'=>gb (hF b hb') hb.size
  refine⟨v,e,z,[],some ⟨g,0,none⟩,g,c,he,hv,fun _=>rfl,by simp,fun _=>hg,?_,hb,rfl,rfl,rfl⟩;refine⟨hF',fun k hk=>⟨(Array.getElem?_eq_some_iff.1 hc).1,fun hf=>by have:=hF g hf;omega⟩,fun j k hj hk _=>by have:=hj.1;have:=hk.1;simp at *;omega,fun k bl hk=>?_⟩
  have hk0:k=0:=by have:=aB hk;simp at this;omega
  subst hk0;simp at hk;subst hk;exact⟨cur,fun _=>hc,by simpa using hs,by simp,hm,(fun x hx=>by cases hx),(fun i x j c u hx=>by simp at hx)⟩
end
end Go.Proofs.YtjceoiofkccfdaaGreatDoor
namespace Go.Proofs.YtjceoiofkccfdaaGreatDoor
section
open Go Go.AM Go.RowKit
theorem conO_row0{f:FuncId}{args:List V}{e z:Nat}(hE:AM.Enters Tryz.prog f)(h:∀(F:Nat→Prop) (w:World) (vals:Array Value),vals.size=args.length→(∀(i:Nat) a u,args[i]?=some a→vals[i]?=some u→Rel (AM.base F w) a u)→
  Calls Tryz.prog f vals w fun e' w'=>∃v,e' = .returned v∧Below w.heap.size w w'∧(v = .slice none 0 0∨∃g c cur,v = .slice (some ⟨g,0,none⟩) 0 c∧w.heap.size≤g∧w'.heap[g]?=some (.cells cur e (0,0))∧c≤maxLen∧cur.size=c*z)):dX Tryz.prog f args fun e' z' ys=>e'=e∧z'=z∧ys=[]:=by
 refine⟨hE,fun F w vals hZ hF hsz hrel=>(h F w vals hsz hrel).mono fun e' w' ⟨v,he,hb,hv⟩=>?_⟩
 rcases hv with hv | ⟨g,c,cur,hv,hg,hc,hm,hs⟩
 ·have hF':∀b,F b→b<w'.heap.size:=fun b hb'=>gb (hF b hb') hb.size
  obtain⟨p1,_⟩:=push0 (AM.base_good hF') (w:=w') 0 e z false rfl rfl rfl (gL _) (fun _ _=>rfl);refine⟨v,e,z,[],none,0,0,he,hv,fun h=>absurd rfl h,by simp,fun h=>absurd rfl h,?_,hb,rfl,rfl,rfl⟩;refine⟨hF',fun k hk=>absurd (hk.2 e z [] false (by have:=hk.1;simp at this;subst this;rfl)) (by simp),fun j k hj hk _=>by have:=hj.1;have:=hk.1;simp at *;omega,fun k bl hk=>?_⟩
  have hk0:k=0:=by have:=aB hk;simp at this;omega
  subst hk0;simp at hk;subst hk;exact⟨#[],fun h=>absurd rfl h,by simp,by simp,by simp[maxLen],(fun x hx=>by cases hx),(fun i x j c u hx=>by simp at hx)⟩
 ·have hF':∀b,F b→b<w'.heap.size:=fun b hb'=>gb (hF b hb') hb.size
  refine⟨v,e,z,[],some ⟨g,0,none⟩,g,c,he,hv,fun _=>rfl,by simp,fun _=>hg,?_,hb,rfl,rfl,rfl⟩;refine⟨hF',fun k hk=>⟨(Array.getElem?_eq_some_iff.1 hc).1,fun hf=>by have:=hF g hf;omega⟩,fun j k hj hk _=>by have:=hj.1;have:=hk.1;simp at *;omega,fun k bl hk=>?_⟩
  have hk0:k=0:=by have:=aB hk;simp at this;omega
  subst hk0;simp at hk;subst hk;exact⟨cur,fun _=>hc,by simpa using hs,by simp,hm,(fun x hx=>by cases hx),(fun i x j c u hx=>by simp at hx)⟩
theorem cap32c(n:Nat)(h:n≤1000000):n≤9223372036854775806∧(n+1)*32≤140737488355328:=by omega
theorem infoD_V:(Tryz.prog.info? 48).map (fun i=>(i.zero,i.size,i.bytes))=some (some (.agg #[.int .i64 0,.int .i64 0,.string ⟨#[]⟩]),3,32):=by kernel_rfl
theorem cloneE_V(A:Option Addr)(cap:Nat)(w:World):
  Calls Tryz.prog 55 #[.slice A 0 cap] w fun e w'=>∃v,e = .returned v∧w'.ownsRow w.heap.size 48 3 v 0 []∧Below w.heap.size w w':=by
 have hnil:=fun W A n c=>Lib.run_eql_slice_nil (P:=Tryz.prog) W 44 48 A n c 0 0 Tryz.underlying44
 cases A with
 | none =>
  go_enter Tryz.func55,Tryz.ntmps55
  go_wp2
  go_ret
  exact⟨_,rfl,World.ownsRow_nil _ _ _ _,Below.refl _ _⟩
 | some ad =>
  obtain⟨i0,hi,hz0,hz1,hz2⟩:=info_parts infoD_V;have hown:(w.alloc (.cells #[] 48)).ownsRow w.heap.size 48 3 (.slice (some ⟨w.heap.size,0,none⟩) 0 0) 0 []:=World.ownsRow_lit w #[] 0 (gL _) (by simp[maxLen]) (by simp)
  have hnews:∀j u,([]:List Value)[j]?=some u→(w.alloc (.cells #[] 48)).cell? (ad.add j)=some u:=by
   intro j u hu;simp at hu
  have hone:∀u∈([]:List Value),u.oneCell'=true:=by intro u hu;cases hu
  have h63:0+0≤maxLen:=by simp[maxLen]
  have hby:(0+0)*32≤140737488355328:=by omega
  have hlen:([]:List Value).length=0*3:=by simp
  have Hi:=Lib.hid (show Tryz.prog.info? 48=some i0∧i0.zero=some _∧i0.size=3∧i0.bytes=32 from⟨hi,hz0,hz1,hz2⟩);have Hw:=Lib.hid (And.intro hown (And.intro hnews (And.intro hone (And.intro h63 (And.intro hby hlen)))));clear hnews hone hown hi hz0 hz1 hz2 h63 hby hlen
  go_enter Tryz.func55,Tryz.ntmps55
  go_wp2_with (at_builtin;refine wpList_append_own _ rfl _ _ 44 rfl w.heap.size 48 i0 _ 3 32 Tryz.underlying44 Hi.out.1 Hi.out.2.1 Hi.out.2.2.1 Hi.out.2.2.2 rfl (by omega) (.slice (some ⟨w.heap.size,0,none⟩) 0 0) 0 [] rfl Hw.out.1 ad 0 cap [] rfl Hw.out.2.2.2.2.2 Hw.out.2.1 Hw.out.2.2.1 Hw.out.2.2.2.1 Hw.out.2.2.2.2.1 (by simp) ?_;intro v1 w1 ho hg hn;have Ho:=Lib.hid ho;have Hg:=Lib.hid hg;have Hn:=Lib.hid hn;clear ho hg hn)
  go_ret
  exact⟨v1,rfl,by have:=Ho.out;simpa using this,((Below.refl _ _).alloc (gL _) _).grown Hg.out (by simp) (by simp[Value.ownBlock])⟩
theorem cloneN_V:∀(f:Bool),aJ Tryz.prog 55 [.lst 3 f []] fun r=>r = .lst 3 false []:=fun f=>by
 have hO:dX Tryz.prog 55 [.lst 3 f []] fun e z ys=>e=48∧z=3∧ys=[]:=conO_row0 ⟨Tryz.f55,Tryz.func55,rfl,rfl⟩ (fun F w vals hsz hrel=>by
  obtain⟨u0,rfl⟩:∃u0,vals = #[u0]:=by
   obtain⟨l⟩:=vals
   match l,hsz with
   | [a],_=>exact⟨a,rfl⟩
  have r0:=hrel 0 _ u0 rfl rfl;cases r0
  refine(cloneE_V _ _ _).mono fun e' w' ⟨v,he,hown,hb⟩=>⟨v,he,hb,?_⟩
  obtain⟨_,⟨hv,_⟩ | ⟨g,c,cur,hv,hg,hc,hn,hm,hs,_⟩⟩:=hown
  ·exact .inl hv
  ·exact .inr ⟨g,c,cur,hv,hg,hc,hm,hs⟩)
 refine⟨hO.1,fun F w vals hZ hF hsz hrel=>((conP_of_conO hO).2 F w vals hZ hF hsz hrel).mono fun e w' ⟨u,r,h1,h2,h3,h4,e',z,ys,h5,h6,h7,h8⟩=>?_⟩;subst h6;subst h7;subst h8;exact⟨u,r,h1,h2,h3,h4,h5⟩
theorem clone_V(l:List Vl)(f:Bool)(hl:l.length≤1000000):aJ Tryz.prog 55 [LV f l] fun r=>r=LV false l:=by
 cases l with
 | nil=>exact cloneN_V f
 | cons x xs =>
  have hl':xs.length≤1000000:=by simp only[gw]at hl;omega
  refine sPx Tryz.func55 rfl rfl ?_;simp -dsimp[Tryz.f55,gG,LV,eqA2,cap32c xs.length (by omega),aI];exact exp_buf rfl (by simp) (by simp)
theorem cloneO0_V(f:Bool):dX Tryz.prog 55 [.lst 3 f []] fun e z ys=>e=48∧z=3∧ys=[]:=conO_row0 ⟨Tryz.f55,Tryz.func55,rfl,rfl⟩ (fun F w vals hsz hrel=>by
  obtain⟨u0,rfl⟩:∃u0,vals = #[u0]:=by
   obtain⟨l⟩:=vals
   match l,hsz with
   | [a],_=>exact⟨a,rfl⟩
  have r0:=hrel 0 _ u0 rfl rfl;cases r0
  refine(cloneE_V _ _ _).mono fun e' w' ⟨v,he,hown,hb⟩=>⟨v,he,hb,?_⟩
  obtain⟨_,⟨hv,_⟩ | ⟨g,c,cur,hv,hg,hc,hn,hm,hs,_⟩⟩:=hown
  ·exact .inl hv
  ·exact .inr ⟨g,c,cur,hv,hg,hc,hm,hs⟩)
theorem cloneO_V(l:List Vl)(f:Bool)(hl:l.length≤1000000):dX Tryz.prog 55 [.lst 3 f (l.map aI)] fun e z ys=>e=48∧z=3∧ys=l.map aI:=by
 cases l with
 | nil=>exact cloneO0_V f
 | cons x xs =>
  have hl':xs.length≤1000000:=by simp only[gw]at hl;omega
  refine sOx Tryz.func55 rfl rfl ?_;simp -dsimp[Tryz.f55,gG,eqA2,cap32c xs.length (by omega),aI];exact⟨0,48,3,aI x::xs.map aI,by simp,rfl,by simp,rfl,rfl,rfl⟩
end
end Go.Proofs.YtjceoiofkccfdaaGreatDoor
namespace Go.Proofs.YtjceoiofkccfdaaGreatDoor
section
open Go Go.AM
theorem stringsEq_u(a b:List ByteArray)(f g:Bool)(hl:a.length≤1000000):aJ Tryz.prog 23 [LS f a,LS g b] fun r=>r = .bool (dk a b):=by
 unfold dk;by_cases h0:a.length=b.length
 ·rw[decide_eq_true h0,gX]
  obtain⟨E,hE⟩:∃E,E=(gM a.length).all fun i=>bZ (sAt a i) (sAt b i):=⟨_,rfl⟩
  rw[←hE];refine sPx Tryz.func23 rfl rfl ?_;simp -dsimp[Tryz.f23,gG,LS,h0];refine ab (W_loopM 26 0x3ffe030 (by simp[mB]<;>rfl) (σ:=Nat) (fun i=>i≤a.length∧(gM i).all (fun i=>bZ (sAt a i) (sAt b i))=true) (fun i=>a.length-i) (fun i=>[(13,.int .i64 i)]) (fun _=>[]) 0 ⟨by omega,rfl⟩ (by simp) rfl (by simp) ?_);rintro i ⟨hi,hall⟩ N Q hN hQ;by_cases hb:i<a.length
  ·have hb2:i<b.length:=by omega
   have ha1:sAt a i=a[i]:=by simp[sAt,hb]
   have ha2:sAt b i=b[i]:=by simp[sAt,hb2]
   cases hq:(a[i].toList == b[i].toList) with
   | true =>
    refine wx ?_;simp -dsimp[hb,hb2,hq];refine .inr ⟨aY (by kernel_rfl),?_⟩;simp -dsimp[aZ i (by omega)];refine hN (i+1) _ _ ⟨by omega,bC hall (by unfold bZ;rw[ha1,ha2,hq])⟩ (by omega) (by simp) ⟨[],rfl⟩ (by simp) (by simp)
   | false =>
    have hno:(gM a.length).all (fun i=>bZ (sAt a i) (sAt b i))=false:=by
     cases hh:(gM a.length).all (fun i=>bZ (sAt a i) (sAt b i))
     ·rfl
     ·have:=List.all_eq_true.1 hh i (by simpa using hb);rw[bZ,ha1,ha2,hq]at this;cases this
    rw[hno]at hE;refine wx ?_;simp -dsimp[hb,hb2,hq];refine .inr ⟨aY (by kernel_rfl),?_⟩;refine hQ _ _ _ ?_;simp -dsimp[];exact hE
  ·obtain rfl:i=a.length:=by omega
   rw[hall]at hE;refine wx ?_;simp -dsimp[hb,h0];refine hQ _ _ _ ?_;simp -dsimp[];exact hE
 ·rw[decide_eq_false h0,gV];refine sPx Tryz.func23 rfl rfl ?_;simp -dsimp[Tryz.f23,gG,LS,show ¬((a.length:Int)=b.length) by omega]
end
end Go.Proofs.YtjceoiofkccfdaaGreatDoor
namespace Go.Proofs.YtjceoiofkccfdaaGreatDoor
section
open Go Go.AM Go.RowKit Go.Lib
theorem infoG_G:(Tryz.prog.info? 50).map (fun i=>(i.zero,i.size,i.bytes))=some (some (.agg #[.int .i64 0,.string ⟨#[]⟩,.string ⟨#[]⟩,.slice none 0 0,.slice none 0 0,.int .i64 0,.slice none 0 0,.int .i64 0,.int .i64 0,.int .i64 0,.string ⟨#[]⟩]),11,160):=by kernel_rfl
theorem growPos_G(n:Nat)(w:World)(h0:0<n)(hn:n≤1000000):Calls Tryz.prog 56 #[.slice none 0 0,.int .i64 n] w fun e w' =>
   e = .returned (.slice (some ⟨w.heap.size,0,none⟩) 0 (grownCap w n 0 50))∧w'=w.drew.alloc (.cells (Builtin.zeroCells (.agg #[.int .i64 0,.string ⟨#[]⟩,.string ⟨#[]⟩,.slice none 0 0,.slice none 0 0,.int .i64 0,.slice none 0 0,.int .i64 0,.int .i64 0,.int .i64 0,.string ⟨#[]⟩]:Value).cells n++Builtin.zeroCells (.agg #[.int .i64 0,.string ⟨#[]⟩,.string ⟨#[]⟩,.slice none 0 0,.slice none 0 0,.int .i64 0,.slice none 0 0,.int .i64 0,.int .i64 0,.int .i64 0,.string ⟨#[]⟩]:Value).cells (grownCap w n 0 50-n)) 50):=by
 obtain⟨i0,hi0,hz0,hs0,hby⟩:=info_parts infoG_G
 have h1:¬((n:Int)<0):=by omega
 have hz25:∀w,(Go.sizeOf 50).run Tryz.prog w = .ok 11 w:=fun w=>by simp[Go.sizeOf,typeInfo,hi0,hs0]
 have hold:(Builtin.firstCells i0.size 0 (.slice none 0 0)).run Tryz.prog w.drew = .ok ([]:List Value).toArray w.drew:=run_firstCells_none w.drew i0.size 0 0 0
 have hbig:(0+n)*i0.bytes≤140737488355328:=by rw[hby];omega
 have hrz:∀ty,(Builtin.append_ #[28,3] ty #[.slice none 0 0,.int .i64 (n:Int)]).run Tryz.prog w =
   .ok (.slice (some ⟨w.heap.size,0,none⟩) n (grownCap w n 0 50)) (w.drew.alloc (.cells (Builtin.zeroCells (.agg #[.int .i64 0,.string ⟨#[]⟩,.string ⟨#[]⟩,.slice none 0 0,.slice none 0 0,.int .i64 0,.slice none 0 0,.int .i64 0,.int .i64 0,.int .i64 0,.string ⟨#[]⟩]:Value).cells n++Builtin.zeroCells (.agg #[.int .i64 0,.string ⟨#[]⟩,.string ⟨#[]⟩,.slice none 0 0,.slice none 0 0,.int .i64 0,.slice none 0 0,.int .i64 0,.int .i64 0,.int .i64 0,.string ⟨#[]⟩]:Value).cells (grownCap w n 0 50-n)) 50)):=fun ty=>by
  have h:=Lib.run_append_grow_zeros (P:=Tryz.prog) w 28 3 ty 50 i0 _ .i64 .i64 Tryz.underlying28 Tryz.underlying3 hi0 hz0 none 0 0 [] hold n h0 (by omega) (by omega) (by omega)
   (by rw[hby];omega)
   (growslice_fits (by omega) hbig)
  simpa using h
 have hGn:n≤grownCap w n 0 50:=grownCap_ge w _ _ _;obtain⟨G,hG⟩:∃G,G=grownCap w n 0 50:=⟨_,rfl⟩;rw[←hG]at hrz hGn ⊢
 have hG63:G≤9223372036854775807:=by
  have:=grownCap_le_maxLen w n 0 50 (by unfold maxLen;omega);rw[←hG]at this;unfold maxLen at this;omega
 have h2:RowKit.wrap64 ((0:Int)-0)=0:=by unfold RowKit.wrap64;omega
 have h3:RowKit.wrap64 ((n:Int)-0)=(n:Int):=by unfold RowKit.wrap64;omega
 have h4:(n:Int)> 0:=by omega
 clear hold hG hbig
 go_enter Tryz.func56,Tryz.ntmps56
 go_wp2_with (at_builtin;refine Lib.wpList_append_run _ rfl _ _ _ _ rfl _ _ rfl rfl _ _ (hrz _) ?_)
 all_goals (go_ret;exact⟨rfl,rfl⟩)
theorem growNil_G(w:World):Calls Tryz.prog 56 #[.slice none 0 0,.int .i64 0] w fun e w'=>e = .returned (.slice none 0 0)∧w'=w:=by
 go_enter Tryz.func56,Tryz.ntmps56
 go_wp2
 go_ret
 exact⟨rfl,rfl⟩
theorem fi(n:Nat)(hn:n≤1000000):dX Tryz.prog 56 [.nilS,.int .i64 n] fun e z ys=>e=50∧z=11∧ys=[]:=by
 refine eL ⟨Tryz.f56,Tryz.func56,rfl,rfl⟩ (fun F w vals hsz hrel=>?_)
 obtain⟨u0,u1,rfl⟩:∃u0 u1,vals = #[u0,u1]:=by
  obtain⟨l⟩:=vals
  match l,hsz with
  | [a,b],_=>exact⟨a,b,rfl⟩
 have r0:=hrel 0 _ u0 rfl rfl;have r1:=hrel 1 _ u1 rfl rfl;cases r0;cases r1;by_cases h0:n=0
 ·subst h0
  exact(growNil_G w).mono fun e w' ⟨h1,h2⟩=>⟨_,h1,by subst h2;exact Below.refl _ _,.inl rfl⟩
 ·refine(growPos_G n w (by omega) hn).mono fun e w' ⟨h1,h2⟩=>?_
  subst h2;have hge:=grownCap_ge w n 0 50;refine⟨_,h1,((Below.refl _ _).drew).alloc (gL _) _,.inr ⟨w.heap.size,grownCap w n 0 50,Builtin.zeroCells (.agg #[.int .i64 0,.string ⟨#[]⟩,.string ⟨#[]⟩,.slice none 0 0,.slice none 0 0,.int .i64 0,.slice none 0 0,.int .i64 0,.int .i64 0,.int .i64 0,.string ⟨#[]⟩]:Value).cells n++Builtin.zeroCells (.agg #[.int .i64 0,.string ⟨#[]⟩,.string ⟨#[]⟩,.slice none 0 0,.slice none 0 0,.int .i64 0,.slice none 0 0,.int .i64 0,.int .i64 0,.int .i64 0,.string ⟨#[]⟩]:Value).cells (grownCap w n 0 50-n),rfl,gL _,?_,by omega,grownCap_le_maxLen w n 0 50 (by unfold maxLen;omega),?_⟩⟩
  ·exact iT (xs:=w.heap)
  ·rw[iJ,size_zeroCells,size_zeroCells,←gU,ie hge];rfl
theorem grow_nil_G:aJ Tryz.prog 56 [.nilS,.int .i64 0] fun r=>r = .nilS:=by
 refine⟨⟨Tryz.f56,Tryz.func56,rfl,rfl⟩,fun F w vals hZ hF hsz hrel=>?_⟩
 obtain⟨u0,u1,rfl⟩:∃u0 u1,vals = #[u0,u1]:=by
  obtain⟨l⟩:=vals
  match l,hsz with
  | [a,b],_=>exact⟨a,b,rfl⟩
 have r0:=hrel 0 _ u0 rfl rfl;have r1:=hrel 1 _ u1 rfl rfl;cases r0;cases r1
 refine(growNil_G w).mono fun e w' ⟨h1,h2⟩=>⟨_,_,h1,.nilS,.nilS,by subst h2;exact Below.refl _ _,rfl⟩
end
end Go.Proofs.YtjceoiofkccfdaaGreatDoor
namespace Go.Proofs.YtjceoiofkccfdaaGreatDoor
section
open Go Go.AM Go.RowKit
structure FlVG where
 f:Bool
 xs:List V
def bo(l:FlVG):V:=.lst 11 l.f l.xs
def bN(ls:List FlVG):List V:=(ls.map (·.xs)).flatten
theorem gD(ls:List FlVG)(i:Nat)(h:i<ls.length):bN (ls.take (i+1))=bN (ls.take i)++ls[i].xs:=by
 unfold bN;rw[iE h,iw,List.flatten_append];simp
theorem catL_leG(ls:List FlVG)(i:Nat):(bN (ls.take i)).length≤(bN ls).length:=by
 conv=>rhs;rw[←iM i ls]
 unfold bN;rw[iw,List.flatten_append,gh];omega
theorem dp{ls:List FlVG}(hp:∀l∈ls,∀x∈l.xs,AM.Pure x∧dW x=true∧x.cells.length=11):∀x∈bN ls,AM.Pure x∧dW x=true:=by
 intro x hx;obtain⟨l,hl,h⟩:=List.mem_flatten.1 hx;obtain⟨y,hy,rfl⟩:=List.mem_map.1 hl;exact⟨(hp y hy x h).1,(hp y hy x h).2.1⟩
theorem catW_G(n:Nat)(h:n≤1000000):n≤9223372036854775807∧n*160≤140737488355328:=by omega
theorem concat_G(ls:List FlVG)(g:Bool)(hp:∀l∈ls,∀x∈l.xs,AM.Pure x∧dW x=true∧x.cells.length=11)(hl:ls.length≤1000000)(hs:(bN ls).length≤1000000):aJ Tryz.prog 26 [.lst 1 g (ls.map bo)] fun r=>r = .lst 11 false (bN ls):=by
 have htl:=fun i=>catL_leG ls i
 have hpF:∀l∈ls,AM.Pure (bo l):=fun l hl=>.lst _ _ _ (fun x hx=>(hp l hl x hx).1)
 refine sPx Tryz.func26 rfl rfl ?_;simp -dsimp[Tryz.f26,gG,bo];refine ab (W_loopM 23 0x7ff828 (by simp[mB]<;>rfl) (σ:=Nat) (fun i=>i≤ls.length) (fun i=>ls.length-i) (fun i=>[(11,.int .i64 i),(3,.int .i64 ((bN (ls.take i)).length:Nat))]) (fun _=>[]) 0 (by omega) (by simp[bN]) rfl (by simp) ?_);intro i hi N Q hN hQ;by_cases hb:i<ls.length
 ·have hsu:=gD ls i hb;have h1:=htl i;have h2:=htl (i+1);rw[hsu,gh]at h2;obtain⟨c,hc⟩:∃c,c=(bN (ls.take i)).length:=⟨_,rfl⟩;rw[←hc]at h1 h2
  have hlx:(bN (ls.take (i+1))).length=c+ls[i].xs.length:=by rw[hsu,gh,hc]
  obtain⟨x,hx⟩:∃x,x=ls[i]:=⟨_,rfl⟩;rw[←hx]at h2 hlx;have hx':=hx.symm;obtain⟨d,hd⟩:∃d,d=c+x.xs.length:=⟨_,rfl⟩
  have hw:IntKind.i64.wrap ((c:Int)+(x.xs.length:Int))=(d:Int):=by rw[wrap64 (by omega) (by omega),hd];push_cast;rfl
  refine wx ?_;simp -dsimp[hb,hx',hw,show ¬(d:Int)<0 by omega,aZ i (by omega),←hc,bo];refine hN (i+1) _ _ (by omega) (by omega) (by simp[hlx,hd]) ⟨[],rfl⟩ (by simp;exact hpF) (by simp)
 ·obtain rfl:i=ls.length:=by omega
  rw[gy];have hg:=callO (H:=[]) (fi (bN ls).length hs) (by simp);refine wx ?_;simp -dsimp[hb,bo];refine hQ _ _ _ ?_;simp -dsimp[bo];refine hg.mono ?_;rintro r H' ⟨e,z,xs,rfl,rfl,_,rfl,rfl,rfl⟩;simp -dsimp[bo];refine ab (W_loopM 35 0x7f8000140 (by simp[mB]<;>rfl) (σ:=Nat) (fun i=>i≤ls.length) (fun i=>ls.length-i) (fun i=>[(27,.int .i64 i),(6,.buf 0 0 (bN (ls.take i)).length (bN (ls.take i)).length)]) (fun i=>[B.buf 50 11 (bN (ls.take i)) false]) 0 (by omega) (by simp[bN]) (by simp[bN]) (by simp) ?_);intro i hi N2 Q2 hN2 hQ2;by_cases hb:i<ls.length
  ·have hsu:=gD ls i hb;have h2:=htl (i+1);have hpi:=hp ls[i] (gR hb);have hpc:=dp (ls:=ls.take (i+1)) (fun l hl=>hp l (gu hl));obtain⟨x,hx⟩:∃x,x=ls[i]:=⟨_,rfl⟩;rw[←hx]at hsu hpi;have hx':=hx.symm;rw[hsu]at h2 hpc;obtain⟨xs,hxs⟩:∃xs,xs=x.xs:=⟨_,rfl⟩;have hxs':=hxs.symm;rw[←hxs]at hsu h2 hpc hpi;by_cases h0:xs=[]
   ·rw[h0,gP]at hsu;refine wx ?_;simp -dsimp[hb,hx',hxs',h0,aZ i (by omega),bo];refine hN2 (i+1) _ _ (by omega) (by omega) (by simp[hsu]) ⟨[],by simp[hsu]⟩ (by simp;exact hpF) (by rw[h0,gP]at hpc;intro bl hbl;rcases List.mem_cons.1 hbl with rfl | hbl;exact(rbB_buf1 (by rw[hsu];exact hpc)).2 trivial;cases hbl)
   ·obtain⟨c,hc⟩:∃c,c=bN (ls.take i):=⟨_,rfl⟩;rw[←hc]at hsu h2 hpc;rw[gh]at h2;refine wx ?_;simp -dsimp[hb,hx',hxs',h0,aZ i (by omega),←hc,catW_G (c.length+xs.length) (by omega),bo];refine hN2 (i+1) _ _ (by omega) (by omega) (by simp[hsu]) ⟨[],by simp[hsu]⟩ (by simp;exact hpF) (by intro bl hbl;rcases List.mem_cons.1 hbl with rfl | hbl;exact(rbB_buf1 (by rw[hsu];exact hpc)).2 trivial;cases hbl)
  ·obtain rfl:i=ls.length:=by omega
   rw[gy];refine wx ?_;simp -dsimp[hb,bo];refine hQ2 _ _ _ ?_;simp -dsimp[bo];exact⟨exp_buf rfl rfl (fun x hx=>(dp hp x hx).1),fun x hx=>(dp hp x hx).1⟩
end
end Go.Proofs.YtjceoiofkccfdaaGreatDoor
namespace Go.Proofs.YtjceoiofkccfdaaGreatDoor
section
open Go Go.AM
structure TbC (t:Tb):Prop where
 ids:t.rows.Pairwise fun r s=>r.id<s.id
 pos:∀r∈t.rows,0<r.id
 len:∀r∈t.rows,r.vals.length=t.attrs.length
 val:∀r∈t.rows,r.vals.all al=true
 wide:t.attrs.length≤16
theorem fP{n:Nat} : ∀{rs:List Rw} {last:Int},bh n last rs=0→(∀r∈rs,last<r.id)∧(rs.Pairwise fun r s=>r.id<s.id)∧(∀r∈rs,r.vals.length=n)∧∀r∈rs,r.vals.all al=true
 | [],_,_=>by simp
 | r::rs,last,h=>by
  rw[bh]at h;split at h
  ·cases h
  ·rename_i h1;split at h
   ·cases h
   ·rename_i h2;split at h
    ·rename_i h3;obtain⟨a,b,c,d⟩:=fP h;refine⟨fun x hx=>?_,List.pairwise_cons.2 ⟨a,b⟩,fun x hx=>?_,fun x hx=>?_⟩
     ·rcases List.mem_cons.1 hx with rfl | hx
      ·omega
      ·have:=a x hx;omega
     ·rcases List.mem_cons.1 hx with rfl | hx
      ·simpa using h2
      ·exact c x hx
     ·rcases List.mem_cons.1 hx with rfl | hx
      ·exact h3
      ·exact d x hx
    ·cases h
theorem tbC{t:Tb}(h:aO t=0):TbC t:=by
 unfold aO at h;split at h
 ·split at h
  ·cases h
  ·rename_i h2;split at h
   ·obtain⟨a,b,c,d⟩:=fP h;exact⟨b,fun r hr=>a r hr,c,d,by omega⟩
   ·cases h
 ·cases h
def delR(rs:List Rw)(id:Int):List Rw:=rs.filter fun r=>!decide (r.id=id)
def insR(rs:List Rw)(r:Rw):List Rw:=rs.filter (fun s=>decide (s.id<r.id))++r::rs.filter (fun s=>decide (r.id<s.id))
def chgR(rs:List Rw)(id:Int)(a:Nat)(v:Vl):List Rw:=rs.map fun r=>if r.id=id then⟨r.id,r.vals.set a v⟩ else r
theorem fnd_id{rs:List Rw}{id:Int}(i:Nat):(fnd rs id i).2=true→(rwG rs (fnd rs id i).1).id=id∧rwG rs (fnd rs id i).1∈rs:=by
 fun_induction fnd rs id i with
 | case1 i hi he=>exact fun _=>by simp only[rwG,List.getD_eq_getElem?_getD,gJ hi,ic];exact⟨he,gR hi⟩
 | case2 i hi he ih=>exact ih
 | case3 i hi=>intro h;cases h
theorem atT_of{t:Tb}{id:Int}(h:inT t id=true):(atT t id).id=id∧atT t id∈t.rows:=fnd_id 0 h
def wrT(t:Tb)(rs:List Rw):Tb:=⟨t.name,t.attrs,rs⟩
structure Ch where
 k:Int
 nm:ByteArray
 tb:Tb
 row:Rw
 a:Int
 v:Vl
def insErr(t:Tb)(r:Rw):Int:=if ¬r.vals.length=t.attrs.length then 6 else if r.id≤0∨r.vals.all al=false then 1 else if inT t r.id=true then 5 else if 1000≤t.rows.length then 3 else 0
def rowIs(t:Tb)(r:Rw):Bool:=inT t r.id&&decide ((atT t r.id).vals=r.vals)
def stepT(t:Tb)(c:Ch):Option Tb :=
 if c.nm=t.name then
  if c.k=2 then(if insErr t c.row=0 then some (wrT t (insR t.rows c.row)) else none)
  else if rowIs t c.row=true then
   if c.k=3 then some (wrT t (delR t.rows c.row.id))
   else if c.k=4 then(if 0≤c.a∧c.a<t.attrs.length∧al c.v=true then some (wrT t (chgR t.rows c.row.id c.a.toNat c.v)) else none)
   else none
  else none
 else none
def runT(t:Tb):List Ch→Option Tb
 | []=>some t
 | c::l=>match stepT t c with
  | some u=>runT u l
  | none=>none
theorem valid_row{t:Tb}(h:aO t=0):∀r∈t.rows,0<r.id∧r.vals.length=t.attrs.length∧r.vals.all al=true:=fun r hr=>⟨(tbC h).pos r hr,(tbC h).len r hr,(tbC h).val r hr⟩
def chC(f g:Bool)(c:Ch):List V:=[.int .i64 c.k,.str c.nm,.str c.tb.name,.lst 1 f (c.tb.attrs.map V.str),.lst 2 g (c.tb.rows.map aE),.int .i64 c.row.id,.lst 3 false (c.row.vals.map aI),.int .i64 c.a,.int .i64 c.v.k,.int .i64 c.v.n,.str c.v.s]
def cP(f g:Bool)(c:Ch):V:=.agg (chC f g c)
@[simp] theorem encCh_pure (f g:Bool) (c:Ch):AM.Pure (cP f g c):=by simp[cP,chC]
@[simp] theorem encCh_oneV (f g:Bool) (c:Ch):dW (cP f g c)=true:=by simp[cP,chC,dW,V.one]
def gB(a b:Ch):Bool:=decide (a.k=b.k)&&((a.nm.toList == b.nm.toList)&&(eqTb a.tb b.tb&&(ew a.row b.row&&(decide (a.a=b.a)&&decide (a.v=b.v)))))
theorem eqCh_self(a:Ch):gB a a=true:=by simp[gB,eqTb_self,ew,dn]
structure ChOk (c:Ch):Prop where
 attrs:c.tb.attrs.length≤1000000
 rows:c.tb.rows.length≤1000000
 row:∀r∈c.tb.rows,r.vals.length≤1000000∧∀v∈r.vals,v.s.size≤maxLen
 vals:c.row.vals.length≤1000000∧∀v∈c.row.vals,v.s.size≤maxLen
theorem equal59(a b:Ch)(f g f2 g2:Bool)(h:ChOk a):aJ Tryz.prog 31 [cP f g a,cP f2 g2 b] fun r=>r = .bool (gB a b):=by
 have c1:=equal03 a.tb b.tb f g f2 g2 h.attrs h.rows h.row;have c2:=et a.row b.row h.vals.1 h.vals.2
 have e1:=fun H=>eqVl H a.v b.v
 simp only[aS,LS,LR,aE,LV]at c1 c2;unfold gB;by_cases h1:a.k=b.k
 case neg =>
  rw[decide_eq_false h1,gV];refine sPx Tryz.func31 rfl rfl ?_;simp -dsimp[Tryz.f31,gG,cP,chC,h1]
 rw[decide_eq_true h1,gX]
 cases h2:(a.nm.toList == b.nm.toList) with
 | false =>
  rw[gV];refine sPx Tryz.func31 rfl rfl ?_;simp -dsimp[Tryz.f31,gG,cP,chC,h1,h2]
 | true =>
 rw[gX]
 cases h3:eqTb a.tb b.tb with
 | false =>
  rw[h3]at c1;rw[gV];refine sPx Tryz.func31 rfl rfl ?_;simp -dsimp[Tryz.f31,gG,cP,chC,h1,h2];refine cPx (c1) (by simp) ?_;simp -dsimp[]
 | true =>
 rw[h3]at c1;rw[gX]
 cases h4:ew a.row b.row with
 | false =>
  rw[h4]at c2;rw[gV];refine sPx Tryz.func31 rfl rfl ?_;simp -dsimp[Tryz.f31,gG,cP,chC,h1,h2];refine cPx (c1) (by simp) ?_;simp -dsimp[];refine cPx (c2) (by simp) ?_;simp -dsimp[]
 | true =>
 rw[h4]at c2;rw[gX];by_cases h5:a.a=b.a
 case neg =>
  rw[decide_eq_false h5,gV];refine sPx Tryz.func31 rfl rfl ?_;simp -dsimp[Tryz.f31,gG,cP,chC,h1,h2];refine cPx (c1) (by simp) ?_;simp -dsimp[];refine cPx (c2) (by simp) ?_;simp -dsimp[h5]
 rw[decide_eq_true h5,gX];refine sPx Tryz.func31 rfl rfl ?_;simp -dsimp[Tryz.f31,gG,cP,chC,h1,h2];refine cPx (c1) (by simp) ?_;simp -dsimp[];refine cPx (c2) (by simp) ?_;simp -dsimp[h5,e1]
def eqCs(a b:List Ch):Bool:=decide (a.length=b.length)&&(gM a.length).all fun i=>gB (a.getD i ⟨0,gI,⟨gI,[],[]⟩,⟨0,[]⟩,0,vl0⟩) (b.getD i ⟨0,gI,⟨gI,[],[]⟩,⟨0,[]⟩,0,vl0⟩)
theorem eqCs_self(a:List Ch):eqCs a a=true:=by simp[eqCs,eqCh_self]
theorem same59(A B:List V)(l m:List Ch)(f g:Bool)(ha:A.length=l.length)(hb:B.length=m.length)(hl:l.length≤1000000)(pa:∀x∈A,AM.Pure x)(pb:∀x∈B,AM.Pure x)
  (hc:∀i (h1:i<A.length) (h2:i<B.length) (h3:i<l.length) (h4:i<m.length),(∃xs ys,A[i] = .agg xs∧B[i] = .agg ys∧xs.length=11∧ys.length=11)∧aJ Tryz.prog 31 [A[i],B[i]] fun r=>r = .bool (gB l[i] m[i])):
  aJ Tryz.prog 10 [.lst 11 f A,.lst 11 g B] fun r=>r = .bool (eqCs l m):=by
 unfold eqCs;obtain⟨z,hz⟩:∃z:Ch,z=⟨0,gI,⟨gI,[],[]⟩,⟨0,[]⟩,0,vl0⟩:=⟨_,rfl⟩;rw[←hz];by_cases h0:l.length=m.length
 ·rw[decide_eq_true h0,gX]
  obtain⟨E,hE⟩:∃E,E=(gM l.length).all fun i=>gB (l.getD i z) (m.getD i z):=⟨_,rfl⟩
  rw[←hE]
  have hAB:A.length=B.length:=by omega
  refine sPx Tryz.func10 rfl rfl ?_;simp -dsimp[Tryz.f10,gG,hAB];refine ab (W_loopM 27 0x7fff830 (by simp[mB]<;>rfl) (σ:=Nat) (fun i=>i≤l.length∧(gM i).all (fun i=>gB (l.getD i z) (m.getD i z))=true) (fun i=>l.length-i) (fun i=>[(5,.int .i64 i)]) (fun _=>[]) 0 ⟨by omega,rfl⟩ (by simp) rfl (by simp) ?_);rintro i ⟨hi,hall⟩ N Q hN hQ;by_cases hb1:i<l.length
  ·have q1:i<A.length:=by omega
   have q2:i<B.length:=by omega
   have q3:i<m.length:=by omega
   obtain⟨⟨xs,ys,w1,w2,w3,w4⟩,c1⟩:=hc i q1 q2 hb1 q3;rw[w1,w2]at c1
   have ha1:l.getD i z=l[i]:=by simp[hb1]
   have ha2:m.getD i z=m[i]:=by simp[q3]
   have p1:AM.Pure (.agg xs):=by rw[←w1];exact pa _ (gR q1)
   have p2:AM.Pure (.agg ys):=by rw[←w2];exact pb _ (gR q2)
   have t1:xs.take 11=xs:=iL (by omega);have t2:ys.take 11=ys:=iL (by omega)
   cases hq:gB l[i] m[i] with
   | true =>
    rw[hq]at c1;refine wx ?_;simp -dsimp[hAB.symm,q1,w1,w2,w3,w4,t1,t2];refine .inr ⟨aY (by kernel_rfl),?_⟩;refine bS _ (ah c1 (by intro a ha;simp only[gl,gi,or_false]at ha;rcases ha with rfl | rfl<;>assumption)) ?_;simp -dsimp[aZ i (by omega)];refine hN (i+1) _ _ ⟨by omega,bC hall (by rw[ha1,ha2,hq])⟩ (by omega) (by simp[hAB]) ⟨[],by simp⟩ (by simp;exact⟨pa,pb,pa,pb⟩) (by simp)
   | false =>
    rw[hq]at c1
    have hno:(gM l.length).all (fun i=>gB (l.getD i z) (m.getD i z))=false:=by
     cases hh:(gM l.length).all (fun i=>gB (l.getD i z) (m.getD i z))
     ·rfl
     ·have:=List.all_eq_true.1 hh i (by simpa using hb1);rw[ha1,ha2,hq]at this;cases this
    rw[hno]at hE;refine wx ?_;simp -dsimp[hAB.symm,q1,w1,w2,w3,w4,t1,t2];refine .inr ⟨aY (by kernel_rfl),?_⟩;refine bS _ (ah c1 (by intro a ha;simp only[gl,gi,or_false]at ha;rcases ha with rfl | rfl<;>assumption)) ?_;simp -dsimp[];refine hQ _ _ _ ?_;simp -dsimp[];exact hE
  ·obtain rfl:i=l.length:=by omega
   rw[hall]at hE;refine wx ?_;simp -dsimp[show ¬l.length<A.length by omega,show ¬((l.length:Int)<A.length) by omega];refine hQ _ _ _ ?_;simp -dsimp[];exact hE
 ·rw[decide_eq_false h0,gV];refine sPx Tryz.func10 rfl rfl ?_;simp -dsimp[Tryz.f10,gG,show ¬(A.length:Int)=B.length by omega]
def tb0:Tb:=⟨gI,[],[]⟩
def cW(nm:ByteArray)(c:Chg):Ch:=⟨c.k,nm,tb0,c.row,c.a,c.v⟩
end
end Go.Proofs.YtjceoiofkccfdaaGreatDoor
namespace Go.Proofs.YtjceoiofkccfdaaGreatDoor
section
open Go Go.AM Go.RowKit Go.Lib
theorem infoG_Z:(Tryz.prog.info? 2).map (fun i=>(i.zero,i.size,i.bytes))=some (some (.int .i64 0),1,8):=by kernel_rfl
theorem growPos_Z(n:Nat)(w:World)(h0:0<n)(hn:n≤1000000):Calls Tryz.prog 237 #[.slice none 0 0,.int .i64 n] w fun e w' =>
   e = .returned (.slice (some ⟨w.heap.size,0,none⟩) 0 (grownCap w n 0 2))∧w'=w.drew.alloc (.cells (Builtin.zeroCells (.int .i64 0:Value).cells n++Builtin.zeroCells (.int .i64 0:Value).cells (grownCap w n 0 2-n)) 2):=by
 obtain⟨i0,hi0,hz0,hs0,hby⟩:=info_parts infoG_Z
 have h1:¬((n:Int)<0):=by omega
 have hz25:∀w,(Go.sizeOf 2).run Tryz.prog w = .ok 1 w:=fun w=>by simp[Go.sizeOf,typeInfo,hi0,hs0]
 have hold:(Builtin.firstCells i0.size 0 (.slice none 0 0)).run Tryz.prog w.drew = .ok ([]:List Value).toArray w.drew:=run_firstCells_none w.drew i0.size 0 0 0
 have hbig:(0+n)*i0.bytes≤140737488355328:=by rw[hby];omega
 have hrz:∀ty,(Builtin.append_ #[107,3] ty #[.slice none 0 0,.int .i64 (n:Int)]).run Tryz.prog w =
   .ok (.slice (some ⟨w.heap.size,0,none⟩) n (grownCap w n 0 2)) (w.drew.alloc (.cells (Builtin.zeroCells (.int .i64 0:Value).cells n++Builtin.zeroCells (.int .i64 0:Value).cells (grownCap w n 0 2-n)) 2)):=fun ty=>by
  have h:=Lib.run_append_grow_zeros (P:=Tryz.prog) w 107 3 ty 2 i0 _ .i64 .i64 Tryz.underlying107 Tryz.underlying3 hi0 hz0 none 0 0 [] hold n h0 (by omega) (by omega) (by omega)
   (by rw[hby];omega)
   (growslice_fits (by omega) hbig)
  simpa using h
 have hGn:n≤grownCap w n 0 2:=grownCap_ge w _ _ _;obtain⟨G,hG⟩:∃G,G=grownCap w n 0 2:=⟨_,rfl⟩;rw[←hG]at hrz hGn ⊢
 have hG63:G≤9223372036854775807:=by
  have:=grownCap_le_maxLen w n 0 2 (by unfold maxLen;omega);rw[←hG]at this;unfold maxLen at this;omega
 have h2:RowKit.wrap64 ((0:Int)-0)=0:=by unfold RowKit.wrap64;omega
 have h3:RowKit.wrap64 ((n:Int)-0)=(n:Int):=by unfold RowKit.wrap64;omega
 have h4:(n:Int)> 0:=by omega
 clear hold hG hbig
 go_enter Tryz.func237,Tryz.ntmps237
 go_wp2_with (at_builtin;refine Lib.wpList_append_run _ rfl _ _ _ _ rfl _ _ rfl rfl _ _ (hrz _) ?_)
 all_goals (go_ret;exact⟨rfl,rfl⟩)
theorem growNil_Z(w:World):Calls Tryz.prog 237 #[.slice none 0 0,.int .i64 0] w fun e w'=>e = .returned (.slice none 0 0)∧w'=w:=by
 go_enter Tryz.func237,Tryz.ntmps237
 go_wp2
 go_ret
 exact⟨rfl,rfl⟩
theorem grow_con_Z(n:Nat)(hn:n≤1000000):dX Tryz.prog 237 [.nilS,.int .i64 n] fun e z ys=>e=2∧z=1∧ys=[]:=by
 refine eL ⟨Tryz.f237,Tryz.func237,rfl,rfl⟩ (fun F w vals hsz hrel=>?_)
 obtain⟨u0,u1,rfl⟩:∃u0 u1,vals = #[u0,u1]:=by
  obtain⟨l⟩:=vals
  match l,hsz with
  | [a,b],_=>exact⟨a,b,rfl⟩
 have r0:=hrel 0 _ u0 rfl rfl;have r1:=hrel 1 _ u1 rfl rfl;cases r0;cases r1;by_cases h0:n=0
 ·subst h0
  exact(growNil_Z w).mono fun e w' ⟨h1,h2⟩=>⟨_,h1,by subst h2;exact Below.refl _ _,.inl rfl⟩
 ·refine(growPos_Z n w (by omega) hn).mono fun e w' ⟨h1,h2⟩=>?_
  subst h2;have hge:=grownCap_ge w n 0 2;refine⟨_,h1,((Below.refl _ _).drew).alloc (gL _) _,.inr ⟨w.heap.size,grownCap w n 0 2,Builtin.zeroCells (.int .i64 0:Value).cells n++Builtin.zeroCells (.int .i64 0:Value).cells (grownCap w n 0 2-n),rfl,gL _,?_,by omega,grownCap_le_maxLen w n 0 2 (by unfold maxLen;omega),?_⟩⟩
  ·exact iT (xs:=w.heap)
  ·rw[iJ,size_zeroCells,size_zeroCells,←gU,ie hge];rfl
theorem grow_nil_Z:aJ Tryz.prog 237 [.nilS,.int .i64 0] fun r=>r = .nilS:=by
 refine⟨⟨Tryz.f237,Tryz.func237,rfl,rfl⟩,fun F w vals hZ hF hsz hrel=>?_⟩
 obtain⟨u0,u1,rfl⟩:∃u0 u1,vals = #[u0,u1]:=by
  obtain⟨l⟩:=vals
  match l,hsz with
  | [a,b],_=>exact⟨a,b,rfl⟩
 have r0:=hrel 0 _ u0 rfl rfl;have r1:=hrel 1 _ u1 rfl rfl;cases r0;cases r1
 refine(growNil_Z w).mono fun e w' ⟨h1,h2⟩=>⟨_,_,h1,.nilS,.nilS,by subst h2;exact Below.refl _ _,rfl⟩
end
end Go.Proofs.YtjceoiofkccfdaaGreatDoor
section

end
namespace Go.Proofs.YtjceoiofkccfdaaGreatDoor
section
open Go Go.AM Go.RowKit Go.Lib
theorem infoG_C:(Tryz.prog.info? 97).map (fun i=>(i.zero,i.size,i.bytes))=some (some (.agg #[.int .i64 0,.int .i64 0]),2,16):=by kernel_rfl
theorem growPos_C(n:Nat)(w:World)(h0:0<n)(hn:n≤1000000):Calls Tryz.prog 160 #[.slice none 0 0,.int .i64 n] w fun e w' =>
   e = .returned (.slice (some ⟨w.heap.size,0,none⟩) 0 (grownCap w n 0 97))∧w'=w.drew.alloc (.cells (Builtin.zeroCells (.agg #[.int .i64 0,.int .i64 0]:Value).cells n++Builtin.zeroCells (.agg #[.int .i64 0,.int .i64 0]:Value).cells (grownCap w n 0 97-n)) 97):=by
 obtain⟨i0,hi0,hz0,hs0,hby⟩:=info_parts infoG_C
 have h1:¬((n:Int)<0):=by omega
 have hz25:∀w,(Go.sizeOf 97).run Tryz.prog w = .ok 2 w:=fun w=>by simp[Go.sizeOf,typeInfo,hi0,hs0]
 have hold:(Builtin.firstCells i0.size 0 (.slice none 0 0)).run Tryz.prog w.drew = .ok ([]:List Value).toArray w.drew:=run_firstCells_none w.drew i0.size 0 0 0
 have hbig:(0+n)*i0.bytes≤140737488355328:=by rw[hby];omega
 have hrz:∀ty,(Builtin.append_ #[114,3] ty #[.slice none 0 0,.int .i64 (n:Int)]).run Tryz.prog w =
   .ok (.slice (some ⟨w.heap.size,0,none⟩) n (grownCap w n 0 97)) (w.drew.alloc (.cells (Builtin.zeroCells (.agg #[.int .i64 0,.int .i64 0]:Value).cells n++Builtin.zeroCells (.agg #[.int .i64 0,.int .i64 0]:Value).cells (grownCap w n 0 97-n)) 97)):=fun ty=>by
  have h:=Lib.run_append_grow_zeros (P:=Tryz.prog) w 114 3 ty 97 i0 _ .i64 .i64 Tryz.underlying114 Tryz.underlying3 hi0 hz0 none 0 0 [] hold n h0 (by omega) (by omega) (by omega)
   (by rw[hby];omega)
   (growslice_fits (by omega) hbig)
  simpa using h
 have hGn:n≤grownCap w n 0 97:=grownCap_ge w _ _ _;obtain⟨G,hG⟩:∃G,G=grownCap w n 0 97:=⟨_,rfl⟩;rw[←hG]at hrz hGn ⊢
 have hG63:G≤9223372036854775807:=by
  have:=grownCap_le_maxLen w n 0 97 (by unfold maxLen;omega);rw[←hG]at this;unfold maxLen at this;omega
 have h2:RowKit.wrap64 ((0:Int)-0)=0:=by unfold RowKit.wrap64;omega
 have h3:RowKit.wrap64 ((n:Int)-0)=(n:Int):=by unfold RowKit.wrap64;omega
 have h4:(n:Int)> 0:=by omega
 clear hold hG hbig
 go_enter Tryz.func160,Tryz.ntmps160
 go_wp2_with (at_builtin;refine Lib.wpList_append_run _ rfl _ _ _ _ rfl _ _ rfl rfl _ _ (hrz _) ?_)
 all_goals (go_ret;exact⟨rfl,rfl⟩)
theorem growNil_C(w:World):Calls Tryz.prog 160 #[.slice none 0 0,.int .i64 0] w fun e w'=>e = .returned (.slice none 0 0)∧w'=w:=by
 go_enter Tryz.func160,Tryz.ntmps160
 go_wp2
 go_ret
 exact⟨rfl,rfl⟩
theorem grow_con_C(n:Nat)(hn:n≤1000000):dX Tryz.prog 160 [.nilS,.int .i64 n] fun e z ys=>e=97∧z=2∧ys=[]:=by
 refine eL ⟨Tryz.f160,Tryz.func160,rfl,rfl⟩ (fun F w vals hsz hrel=>?_)
 obtain⟨u0,u1,rfl⟩:∃u0 u1,vals = #[u0,u1]:=by
  obtain⟨l⟩:=vals
  match l,hsz with
  | [a,b],_=>exact⟨a,b,rfl⟩
 have r0:=hrel 0 _ u0 rfl rfl;have r1:=hrel 1 _ u1 rfl rfl;cases r0;cases r1;by_cases h0:n=0
 ·subst h0
  exact(growNil_C w).mono fun e w' ⟨h1,h2⟩=>⟨_,h1,by subst h2;exact Below.refl _ _,.inl rfl⟩
 ·refine(growPos_C n w (by omega) hn).mono fun e w' ⟨h1,h2⟩=>?_
  subst h2;have hge:=grownCap_ge w n 0 97;refine⟨_,h1,((Below.refl _ _).drew).alloc (gL _) _,.inr ⟨w.heap.size,grownCap w n 0 97,Builtin.zeroCells (.agg #[.int .i64 0,.int .i64 0]:Value).cells n++Builtin.zeroCells (.agg #[.int .i64 0,.int .i64 0]:Value).cells (grownCap w n 0 97-n),rfl,gL _,?_,by omega,grownCap_le_maxLen w n 0 97 (by unfold maxLen;omega),?_⟩⟩
  ·exact iT (xs:=w.heap)
  ·rw[iJ,size_zeroCells,size_zeroCells,←gU,ie hge];rfl
theorem grow_nil_C:aJ Tryz.prog 160 [.nilS,.int .i64 0] fun r=>r = .nilS:=by
 refine⟨⟨Tryz.f160,Tryz.func160,rfl,rfl⟩,fun F w vals hZ hF hsz hrel=>?_⟩
 obtain⟨u0,u1,rfl⟩:∃u0 u1,vals = #[u0,u1]:=by
  obtain⟨l⟩:=vals
  match l,hsz with
  | [a,b],_=>exact⟨a,b,rfl⟩
 have r0:=hrel 0 _ u0 rfl rfl;have r1:=hrel 1 _ u1 rfl rfl;cases r0;cases r1
 refine(growNil_C w).mono fun e w' ⟨h1,h2⟩=>⟨_,_,h1,.nilS,.nilS,by subst h2;exact Below.refl _ _,rfl⟩
end
end Go.Proofs.YtjceoiofkccfdaaGreatDoor
