/- JM13: own texts of this seat, joined and shortened by pack4.py: T6, T7, T8, Ve, W3, Pl3, Pl4, Mn, T9, T10, G1, Vp, Vf, SO1, SO2, LayI, SO3, Vb, Cl64. -/
import Derived.Test.YtjogkbekekdkjaaGreatDoorJM10
import Derived.Deep.LoopGhost
import Derived.Shelf.SlicesQ.Load
import Derived.Shelf.SlSortCmp.Kit1
import Derived.Sort.Grow
import Derived.Shelf.SlSortCmp.NoneTotal
set_option linter.unusedVariables false
set_option linter.unusedSimpArgs false
set_option maxRecDepth 100000
set_option maxHeartbeats 64000000
open Array renaming getElem?_toList→qL,length_toList→qS,getElem?_eq_getElem→rU,getElem_map→sK
open Bool renaming and_eq_true→pC,true_and→pP,false_eq_true→pQ,not_eq_true'→pg,or_eq_true→pu,not_eq_true→qc,eq_iff_iff→qo
open ByteArray renaming empty→pE
open Int renaming tmod_lt_of_pos→pq,tmod_nonneg→pw
open List renaming replicate→ou,getElem_mem→ow,mem_of_getElem?→oz,drop_eq_getElem_cons→pB,mem_cons→pD,drop_of_length_le→pF,range→pG,take_succ_eq_append_getElem→pJ,length_append→pK,append_nil→pL,getElem?_set_self→pO,drop_zero→pT,all_eq_true→pV,mem_cons_self→pW,length_filter_le→pY,mem_cons_of_mem→pZ,append_assoc→pb,length_map→pc,mem_singleton→pe,mem_of_mem_take→pi,getElem?_map→pj,length_cons→pk,cons_append→pn,take_length→pt,mem_append→pz,map_append→qB,ext_getElem?→qE,take_append_drop→qF,mem_filter→qH,range_succ→qI,mem_of_mem_drop→qJ,length_take→qO,length_eraseIdx_of_lt→qT,filter_cons_of_pos→qU,filter_cons_of_neg→qV,map_cons→qW,getD→qZ,mem_append_right→qe,set_set→qf,getElem?_cons_succ→qg,mem_range→qh,singleton_append→qj,all_cons→qk,length_nil→qn,pairwise_append→qw,mem_append_left→qx,foldl_cons→rF,pairwise_cons→rI,map_take→rK,getElem?_cons_zero→rO,map_nil→rQ,length_drop→rR,filter_append→rS,take→rW,any_eq_true→rY,mem_flatMap→rZ,mem_map→rh,flatMap_cons→sG,getElem?_set→sH,map_map→sO
open Nat renaming le_refl→pI,mul_le_mul_right→pN,lt_of_lt_of_le→pd,add_mul→pf,le_trans→ph,zero_le→pv,lt_or_ge→px,pow_le_pow_right→qD,zero_add→qM,lt_of_le_of_lt→qa,zero_mul→qm,add_zero→qz,testBit_lt_two_pow→rC,mul_comm→rJ,pow_lt_pow_right→rN,strongRecOn→rV,add_sub_cancel→rd,min_eq_left→ri,mod_eq_of_lt→rt,sub_zero→ru,and_le_left→sB,or_lt_two_pow→sJ,pow_succ→sP,mul_one→sS
open Option renaming map_some→pm
namespace Go.Proofs.YtjogkbekekdkjaaGreatDoor
section
open Go Go.AM
structure Rcp where
 a:Int
 gap:Int
 rows:List (List Int)
def LU(xs:List Int):V:=.lst 1 false (xs.map bp)
def bD(f:Bool)(x:Rcp):V:=.agg [.int .u8 x.a,.int .u8 x.gap,.lst 1 f (x.rows.map LU)]
@[simp] theorem LU_pure (xs:List Int):AM.Pure (LU xs):=by simp[LU]
@[simp] theorem encRcp_pure (f:Bool) (x:Rcp):AM.Pure (bD f x):=by simp[bD]
def L8:List ByteArray:=[⟨#[97]⟩,⟨#[98]⟩,⟨#[99]⟩,⟨#[100]⟩,⟨#[101]⟩,⟨#[102]⟩,⟨#[103]⟩,⟨#[104]⟩]
def dJ(cs:List Int)(k:Nat):List Vl:=(pG k).map fun j=>ofC (cs.getD j 0)
def wRow(gap:Int)(cs:List Int)(n i:Nat):Rw:=⟨1+(i:Int)*(1+gap.tmod 3),dJ cs n⟩
def eL(x:Rcp)(n i:Nat):List Rw:=(pG i).map fun j=>wRow x.gap (x.rows.getD j []) n j
def wideT(x:Rcp)(n:Nat):Tb:=⟨⟨#[114]⟩,L8.take n,eL x n x.rows.length⟩
theorem wVals_succ(cs:List Int)(k:Nat):dJ cs (k+1)=dJ cs k++[ofC (cs.getD k 0)]:=by simp[dJ,qI]
theorem wVals_len(cs:List Int)(k:Nat):(dJ cs k).length=k:=by simp[dJ]
theorem wRows_succ(x:Rcp)(n i:Nat):eL x n (i+1)=eL x n i++[wRow x.gap (x.rows.getD i []) n i]:=by simp[eL,qI]
theorem wRows_len(x:Rcp)(n i:Nat):(eL x n i).length=i:=by simp[eL]
theorem cap32(n:Nat)(h:n≤1000000000):n≤9223372036854775806∧(n+1)*32≤140737488355328:=by omega
theorem L8_take(n:Nat):rW n [V.str ⟨#[97]⟩,V.str ⟨#[98]⟩,V.str ⟨#[99]⟩,V.str ⟨#[100]⟩,V.str ⟨#[101]⟩,V.str ⟨#[102]⟩,V.str ⟨#[103]⟩,V.str ⟨#[104]⟩]=(L8.take n).map V.str:=by rw[rK];rfl
theorem ownF_refl(k:Nat):∀xs:List V,gZ k xs xs
 | []=>trivial
 | x::xs=>⟨.inl rfl,ownF_refl k xs⟩
theorem ownAt_nil(k:Nat):∀(i:Nat) (xs:List V),bn k [] i xs=xs
 | _,[]=>rfl
 | i,x::xs=>by simp only[bn,List.contains_nil,pQ,if_false,ownAt_nil k (i+1) xs]
theorem lfL_own(k:Nat)(xs:List V):gZ k xs (bn k [] 0 xs):=by rw[ownAt_nil];exact ownF_refl k xs
theorem wide03(x:Rcp)(n:Nat)(f:Bool)(hn:n≤8)(hr:x.rows.length≤1000000)(hc:∀r∈x.rows,r.length≤9223372036854775807)(h0:0≤x.gap):
  aE Tryz.prog 75 [bD f x,.int .i64 n] fun r=>r=aF false false (wideT x n):=by
 have hg:=pw 3 h0;have hg2:=pq x.gap (show(0:Int)<3 by omega);obtain⟨g,hge⟩:∃g,g=x.gap.tmod 3:=⟨_,rfl⟩;rw[←hge]at hg hg2;have hgs:=hge.symm;have hw1:IntKind.i64.wrap g=g:=wrap64 (by omega) (by omega);have hw2:IntKind.i64.wrap (1+g)=1+g:=wrap64 (by omega) (by omega)
 have hl8:(L8.take n).length=n:=by simp[L8];omega
 have hne:(n=0∧rW n (L8.map V.str)=[])∨(¬n=0∧¬rW n (L8.map V.str)=[]):=by
  by_cases hz:n=0
  ·exact .inl ⟨hz,by rw[hz];rfl⟩
  ·refine .inr ⟨hz,fun h=>?_⟩;have:=congrArg List.length h;rw[←rK,pc,hl8]at this;exact hz this
 have hlt:(rW n (L8.map V.str)).length=n:=by rw[←rK,pc,hl8]
 have hcp:n≤9223372036854775807∧n*16≤140737488355328:=by omega
 rcases hne with⟨hz,hne⟩ | ⟨hz,hne⟩
 case' inl =>
  refine bf (aK (tkf 29) Tryz.func75 rfl rfl ?_);refine W_x (tkf 29) mixed ?_;simp -dsimp[Tryz.f75,ou,bD,L8_take,hn,hne,bo]
 case' inr =>
  refine bf (aK (tkf 29) Tryz.func75 rfl rfl ?_);refine W_x (tkf 29) mixed ?_;simp -dsimp[Tryz.f75,ou,bD,L8_take,hn,hz,hne,hlt,hcp,bo]
 all_goals
  refine aR (W_lf 2 _ [.str ⟨#[114]⟩,.lst 1 false (rW n (L8.map V.str)),.nilS] rfl (nu _) (by simp[LfL,lfB,hne]) (dV 80 2 [] 2 [2] rfl (lfL_own _ _) (by simp) (W_loopM 66 0x3ffffffffffffefc0 (by simp[mB]<;>rfl) (σ:=Nat) (fun i=>i≤x.rows.length) (fun i=>x.rows.length-i) (fun i=>[(6,.int .i64 i)]) (fun i=>[B.cells [.int .u8 x.a,.int .u8 x.gap,.lst 1 f (x.rows.map LU)],B.cells [.str pE,.nilS,.nilS],B.cells [.str ⟨#[114]⟩,.lst 1 false (rW n (L8.map V.str)),.buf 3 0 i i],B.buf 80 2 ((eL x n i).map aT) false]) 0 (by omega) (by simp) (by simp[eL]) (by simp) ?_)));intro i hi N Q hN hQ;have hwl:=wRows_len x n i;by_cases hb:i<x.rows.length
  ·have hg0:x.rows.getD i []=x.rows[i]:=by simp[hb]
   have hws:=wRows_succ x n i;rw[hg0]at hws;have hcl:=hc x.rows[i] (ow hb);obtain⟨cs,hcs⟩:∃cs,cs=x.rows[i]:=⟨_,rfl⟩;rw[←hcs]at hws hcl;have hcs':=hcs.symm;have hp0:0≤(i:Int)*(1+g):=Int.mul_nonneg (by omega) (by omega);have hp1:(i:Int)*(1+g)≤i*3:=Int.mul_le_mul_of_nonneg_left (by omega) (by omega);have hw3:IntKind.i64.wrap ((i:Int)*(1+g))=(i:Int)*(1+g):=wrap64 (by omega) (by omega);have hw4:IntKind.i64.wrap (1+(i:Int)*(1+g))=1+(i:Int)*(1+g):=wrap64 (by omega) (by omega)
   have hrow:wRow x.gap cs n i=⟨1+(i:Int)*(1+g),dJ cs n⟩:=by rw[hge];rfl
   rw[hrow]at hws;obtain⟨id,hid⟩:∃id,id=1+(i:Int)*(1+g):=⟨_,rfl⟩;rw[←hid]at hws hw4
   have hw5:IntKind.i64.wrap (1+(i:Int)*(1+g))=id:=by rw[←hid];exact hw4
   refine W_x (tkf 29) mixed ?_;simp -dsimp[hb,hgs,hw1,hw2,hw3,hw5,bo];refine aR (dV 200 3 [] 4 [1] rfl (lfL_own _ _) (by simp) (W_loopM 60 0xfffffff00000300 (by simp[mB]<;>rfl) (σ:=Nat) (fun k=>k≤n) (fun k=>n-k) (fun k=>[(8,.int .i64 k)]) (fun k=>[B.cells [.int .u8 x.a,.int .u8 x.gap,.lst 1 f (x.rows.map LU)],B.cells [.str pE,.nilS,.nilS],B.cells [.str ⟨#[114]⟩,.lst 1 false (rW n (L8.map V.str)),.buf 3 0 i i],B.buf 80 2 ((eL x n i).map aT) false,B.cells [.int .i64 id,.buf 5 0 k k],B.buf 200 3 ((dJ cs k).map ac) false]) 0 (by omega) (by simp) (by simp[dJ]) (by simp) ?_));intro k hk N2 Q2 hN2 hQ2;have hvl:=wVals_len cs k;have hvs:=wVals_succ cs k;by_cases hkb:k<n
   ·by_cases hkc:k<cs.length
    ·have hg1:cs.getD k 0=cs[k]:=by simp[hkc]
     rw[hg1]at hvs;have hco:=of01 cs[k];refine W_x (tkf 29) mixed ?_;simp -dsimp[hkb,hb,LU,hcs',hkc,bp,bo];refine aR (ao (tkf 29) mixed [5,7] [] [(ac (ofC cs[k]),[])] (by kernel_rfl) fun C K hC hK=>?_);simp -implicitDefEqProofs [cap32 k (by omega),hvl,ac,bo];refine⟨hC _ _ _ _ (aW hco (by simp)),hK _ _ ?_⟩;simp -dsimp[aa k (by omega),bo];refine hN2 (k+1) _ _ (by omega) (by omega) ?_ ⟨[],?_⟩ ?_ ?_<;>simp[or_imp,forall_and,L1,au,hvs,LS,ac,aT,LV]
    ·have hg1:cs.getD k 0=0:=by simp[hkc]
     rw[hg1]at hvs;have hco:=of01 0;refine W_x (tkf 29) mixed ?_;simp -dsimp[hkb,hb,LU,hcs',hkc,bp,bo];refine aR (ao (tkf 29) mixed [5,7] [] [(ac (ofC 0),[])] (by kernel_rfl) fun C K hC hK=>?_);simp -implicitDefEqProofs [cap32 k (by omega),hvl,ac,bo];refine⟨hC _ _ _ _ (aW hco (by simp)),hK _ _ ?_⟩;simp -dsimp[aa k (by omega),bo];refine hN2 (k+1) _ _ (by omega) (by omega) ?_ ⟨[],?_⟩ ?_ ?_<;>simp[or_imp,forall_and,L1,au,hvs,LS,ac,aT,LV]
   ·obtain rfl:k=n:=by omega
    refine eI 5 [] 4 [1] rfl rfl (by simp) (by simp[hvl]) ?_;refine W_x (tkf 29) mixed ?_;simp -dsimp[hkb,bo];refine hQ2 _ _ _ ?_;simp -dsimp[hwl,cap32 i (by omega),aa i (by omega),bo];refine hN (i+1) _ _ (by omega) (by omega) ?_ ⟨[B.cells [.int .i64 id,LV false (dJ cs k)],B.buf 200 3 ((dJ cs k).map ac) true],?_⟩ ?_ ?_<;>simp[or_imp,forall_and,L1,au,hws,aT,LV]
  ·obtain rfl:i=x.rows.length:=by omega
   refine eI 3 [] 2 [2] rfl rfl (by simp) (by simp[hwl]) ?_;refine W_x (tkf 29) mixed ?_;simp -dsimp[hb,bo];refine hQ _ _ _ ?_;simp -dsimp[bo];simp only[aF,wideT,LS,LR,rK]
theorem nanInt(x:Int):aE Tryz.prog 269 [.int .i64 x] fun r=>r = .bool false:=by
 refine sPx Tryz.func269 rfl rfl ?_;simp -dsimp[Tryz.f269,ou]
theorem cmpInt(x y:Int):aE Tryz.prog 284 [.int .i64 x,.int .i64 y] fun r=>r = .int .i64 (dH x y):=by
 refine sPx Tryz.func284 rfl rfl ?_;simp -dsimp[Tryz.f284,ou];refine cPx (nanInt x) (by simp) ?_;simp -dsimp[];refine cPx (nanInt y) (by simp) ?_;simp -dsimp[];unfold dH;split
 ·rfl
 ·split<;>rfl
def kC(a b:Vl):Int:=if dH a.k b.k=0 then(if dH a.n b.n=0 then cmpS a.s b.s else dH a.n b.n) else dH a.k b.k
def oQ:List Vl→List Vl→Int
 | [],[]=>0
 | [],_::_=>-1
 | _::_,[]=>1
 | x::xs,y::ys=>if kC x y=0 then oQ xs ys else kC x y
def orI:List Int→Int
 | []=>0
 | x::xs=>if x=0 then orI xs else x
theorem orInt(xs:List Int)(f:Bool)(hl:xs.length≤1000000):aE Tryz.prog 283 [L1 f xs] fun r=>r = .int .i64 (orI xs):=by
 obtain⟨E,hE⟩:∃E,E=orI xs:=⟨_,rfl⟩;rw[←hE];refine sPx Tryz.func283 rfl rfl ?_;simp -dsimp[Tryz.f283,ou,L1];refine aR (W_loopM 17 0x1ff24 (by simp[mB]<;>rfl) (σ:=Nat) (fun i=>orI (xs.drop i)=E) (fun i=>xs.length-i) (fun i=>[(8,.int .i64 i)]) (fun _=>[]) 0 hE.symm (by simp) rfl (by simp) ?_);intro i hx N Q hN hQ;by_cases hb:i<xs.length
 ·rw[pB hb,orI]at hx;by_cases h0:xs[i]=0
  ·rw[if_pos h0]at hx;refine wx ?_;simp -dsimp[hb,au,h0];simp -dsimp[aa i (by omega)];refine hN (i+1) _ _ hx (by omega) (by simp) ⟨[],rfl⟩ (by simp[L1,au]) (by simp)
  ·rw[if_neg h0]at hx;refine wx ?_;simp -dsimp[hb,au,h0];refine hQ _ _ _ ?_;simp -dsimp[];exact hx
 ·rw[pF (by omega)]at hx;refine wx ?_;simp -dsimp[hb];refine hQ _ _ _ ?_;simp -dsimp[];exact hx
theorem nY(a b:ByteArray):aE Tryz.prog 285 [.str a,.str b] fun r=>r = .int .i64 (cmpS a b):=by
 have hc:=cmp_con a b;refine sPx Tryz.func285 rfl rfl ?_;simp -dsimp[Tryz.f285,ou];refine cPx (hc) (by simp) ?_;simp -dsimp[]
theorem lP(a b:Vl):aE Tryz.prog 270 [ac a,ac b] fun r=>r = .int .i64 (kC a b):=by
 have hc1:=cmpInt a.k b.k;have hc2:=cmp64 a.n b.n;have hc3:=nY a.s b.s;have hc4:=orInt [dH a.k b.k,dH a.n b.n,cmpS a.s b.s] true (by simp)
 have he:orI [dH a.k b.k,dH a.n b.n,cmpS a.s b.s]=kC a b:=by
  unfold kC;simp only[orI];split
  ·split
   ·split
    ·rename_i h;exact h.symm
    ·rfl
   ·rfl
  ·rfl
 rw[he]at hc4;simp only[L1,qW,rQ,au]at hc4;refine sPx Tryz.func270 rfl rfl ?_;simp -dsimp[Tryz.f270,ou,ac];refine .inr ⟨bN (by kernel_rfl),?_⟩;refine ar _ (aW (hc1) (by simp)) ?_;simp -dsimp[];refine ar _ (aW (hc2) (by simp)) ?_;simp -dsimp[];refine ar _ (aW (hc3) (by simp)) ?_;simp -dsimp[];refine ar _ (aW (hc4) (by simp)) ?_;simp -dsimp[]
def vTo2(vs:List Vl)(s:Int):Nat→List Vl
 | 0=>[]
 | i+1=>if lu s i then vTo2 vs s i++[vs.getD i ⟨0,0,pE⟩] else vTo2 vs s i
def valsOf(vs:List Vl)(s:Int):List Vl:=vTo2 vs s vs.length
def oX(a b:Rw)(s:Int):Bool:=oQ (valsOf a.vals s) (valsOf b.vals s)== 0
theorem cmpI_eq(x y:Int):dH x y=0↔x=y:=by
 unfold dH;split
 ·simp;omega
 ·split<;>simp<;>omega
theorem cmpB_zero:∀(a b:List UInt8),Lib.compareBytes a b=0↔a=b
 | [],[]=>by simp[Lib.compareBytes]
 | [],_::_=>by simp[Lib.compareBytes]
 | _::_,[]=>by simp[Lib.compareBytes]
 | a::xs,b::bs=>by
  rw[Lib.compareBytes,List.cons.injEq];split
  ·rename_i h;constructor
   ·intro h2;cases h2
   ·rintro⟨rfl,_⟩;exact absurd h (UInt8.lt_irrefl _)
  ·split
   ·rename_i h;constructor
    ·intro h2;cases h2
    ·rintro⟨rfl,_⟩;exact absurd h (UInt8.lt_irrefl _)
   ·rename_i h1 h2;rw[cmpB_zero xs bs];constructor
    ·intro h;exact⟨UInt8.le_antisymm (UInt8.not_lt.1 h2) (UInt8.not_lt.1 h1),h⟩
    ·exact fun h=>h.2
theorem cmpS_zero(a b:ByteArray):cmpS a b=0↔a=b:=by
 unfold cmpS;rw[cmpB_zero];constructor
 ·intro h;cases a;cases b;simp only[ByteArray.mk.injEq];exact Array.ext' h
 ·rintro rfl;rfl
theorem md(a b:Vl):kC a b=0↔a=b:=by
 unfold kC;have h1:=cmpI_eq a.k b.k;have h2:=cmpI_eq a.n b.n;have h3:=cmpS_zero a.s b.s
 have he:a=b↔a.k=b.k∧a.n=b.n∧a.s=b.s:=by cases a;cases b;simp
 rw[he];split
 ·rename_i g1;split
  ·rename_i g2;rw[h3];exact⟨fun h=>⟨h1.1 g1,h2.1 g2,h⟩,fun h=>h.2.2⟩
  ·rename_i g2;exact⟨fun h=>absurd h g2,fun h=>absurd (h2.2 h.2.1) g2⟩
 ·rename_i g1;exact⟨fun h=>absurd h g1,fun h=>absurd (h1.2 h.1) g1⟩
def vAt(vs:List Vl)(a:Nat):Vl:=vs.getD a ⟨0,0,pE⟩
theorem vAt_in{vs:List Vl}{i:Nat}(h:i<vs.length):vAt vs i=vs[i]:=by simp[vAt,h]
theorem vTo2_eq{us vs:List Vl}{s:Int} : ∀{i:Nat},vTo2 us s i=vTo2 vs s i↔∀k,k<i→lu s k=true→vAt us k=vAt vs k
 | 0=>by simp[vTo2]
 | i+1=>by
  have ih:=vTo2_eq (us:=us) (vs:=vs) (s:=s) (i:=i);simp only[vTo2]
  cases hb:lu s i with
  | true =>
   simp only[if_true];constructor
   ·intro h;obtain⟨h1,h2⟩:=List.append_inj' h rfl;intro k hk hs
    rcases px k i with e | e
    ·exact ih.1 h1 k e hs
    ·have:k=i:=by omega
     subst this
     exact List.cons.inj h2 |>.1
   ·intro h;rw[ih.2 (fun k hk hs=>h k (by omega) hs)];have:=h i (by omega) hb;unfold vAt at this;rw[this]
  | false =>
   simp only[pQ,if_false];rw[ih];constructor
   ·intro h k hk hs
    rcases px k i with e | e
    ·exact h k e hs
    ·have:k=i:=by omega
     subst this;rw[hb]at hs;cases hs
   ·intro h k hk hs;exact h k (by omega) hs
theorem oP:∀{us vs:List Vl},oQ us vs=0↔us=vs
 | [],[]=>by simp[oQ]
 | [],_::_=>by simp[oQ]
 | _::_,[]=>by simp[oQ]
 | u::us,v::vs=>by
  rw[oQ,List.cons.injEq];have h1:=md u v;have h2:=oP (us:=us) (vs:=vs);split
  ·rename_i h;rw[h2];exact⟨fun h3=>⟨h1.1 h,h3⟩,fun h3=>h3.2⟩
  ·rename_i h;exact⟨fun h3=>absurd h3 h,fun h3=>absurd (h1.2 h3.1) h⟩
theorem agreeR_iff{a b:Rw}{s:Int}(h:a.vals.length=b.vals.length):oX a b s=true↔∀k,k<a.vals.length→lu s k=true→vAt a.vals k=vAt b.vals k:=by
 unfold oX valsOf;rw[beq_iff_eq,oP,←h];exact vTo2_eq
end
end Go.Proofs.YtjogkbekekdkjaaGreatDoor
section
namespace Go.Proofs.YtjogkbekekdkjaaGreatDoor
open Go Go.AM
end Go.Proofs.YtjogkbekekdkjaaGreatDoor
end
namespace Go.Proofs.YtjogkbekekdkjaaGreatDoor
section
open Go Go.AM
theorem iO{a b:List Int} : je a b=true↔∀x∈a,x∈b:=by
 unfold je;rw[pV];exact⟨fun h x hx=>gh.1 (h x hx),fun h x hx=>gh.2 (h x hx)⟩
theorem ln:∀a:List Int,go a a=false
 | []=>rfl
 | x::xs=>by simp only[go,if_true];exact ln xs
theorem ll:∀a b:List Int,a≠b→go a b=false→go b a=true
 | [],[],h,_=>absurd rfl h
 | [],_::_,_,h=>by simp[go]at h
 | _::_,[],_,_=>rfl
 | x::xs,y::ys,h,hl=>by
  simp only[go]at hl ⊢;by_cases hxy:x=y
  ·subst hxy;rw[if_pos rfl]at hl ⊢;exact ll xs ys (fun e=>h (by rw[e])) hl
  ·rw[if_neg hxy]at hl;rw[if_neg (fun e=>hxy e.symm)];simp only[decide_eq_false_iff_not]at hl;simp only[decide_eq_true_eq];omega
theorem jY:∀a b c:List Int,go a b=true→go b c=true→go a c=true
 | [],[],_,h,_=>by simp[go]at h
 | [],_::_,[],_,h=>by simp[go]at h
 | [],_::_,_::_,_,_=>rfl
 | _::_,[],_,h,_=>by simp[go]at h
 | _::_,_::_,[],_,h=>by simp[go]at h
 | x::xs,y::ys,z::zs,h1,h2=>by
  simp only[go]at h1 h2 ⊢;by_cases hxy:x=y
  ·subst hxy;rw[if_pos rfl]at h1;by_cases hxz:x=z
   ·subst hxz;rw[if_pos rfl]at h2 ⊢;exact jY xs ys zs h1 h2
   ·rw[if_neg hxz]at h2 ⊢;exact h2
  ·rw[if_neg hxy]at h1;simp only[decide_eq_true_eq]at h1;by_cases hyz:y=z
   ·subst hyz;rw[if_neg hxy];simpa using h1
   ·rw[if_neg hyz]at h2;simp only[decide_eq_true_eq]at h2;rw[if_neg (by omega)];simp only[decide_eq_true_eq];omega
structure Hyp (vs:List Int) (es:List (List Int)):Prop where
 va:vs.Pairwise (· < ·)
 ne:∀e∈es,e≠[]
 ea:∀e∈es,e.Pairwise (· < ·)
 sub:∀e∈es,∀x∈e,x∈vs
 lex:es.Pairwise fun a b=>go a b=true
 min:es.Pairwise fun a b=>¬(∀x∈a,x∈b)∧¬(∀x∈b,x∈a)
theorem mV{l:List (List Int)}{i:Nat} : ∀{n:Nat},mW l i n=true→∀k,k<n→dropE l i k=false
 | 0,_,k,hk=>absurd hk (by omega)
 | n+1,h,k,hk=>by
  simp only[mW,pC,pg]at h
  rcases px k n with h1 | h1
  ·exact mV h.1 k h1
  ·obtain rfl:k=n:=by omega
   exact h.2
theorem insPos_le(acc:List (List Int))(e:List Int):∀k,im acc e k≤k
 | 0=>by simp[im]
 | k+1=>by
  simp only[im];split
  ·have:=insPos_le acc e k;omega
  ·omega
theorem insPos_hi(acc:List (List Int))(e:List Int):∀k,∀j,im acc e k≤j→j<k→go e (eAt acc j)=true
 | 0,j,_,h=>absurd h (by omega)
 | k+1,j,h1,h2=>by
  simp only[im]at h1;split at h1
  ·rename_i hlt
   rcases px j k with h3 | h3
   ·exact insPos_hi acc e k j h1 h3
   ·obtain rfl:j=k:=by omega
    exact hlt
  ·omega
theorem insPos_lo(acc:List (List Int))(e:List Int):∀k,0<im acc e k→go e (eAt acc (im acc e k-1))=false
 | 0,h=>by simp[im]at h
 | k+1,h=>by
  simp only[im]at h ⊢;split
  ·rename_i hlt;rw[if_pos hlt]at h;exact insPos_lo acc e k h
  ·rename_i hlt;simpa using hlt
theorem ins_lex{acc:List (List Int)}{e:List Int}(h:acc.Pairwise fun a b=>go a b=true)(hne:∀a∈acc,a≠e):(insE acc e).Pairwise fun a b=>go a b=true:=by
 have hp:=insPos_le acc e acc.length;have hi:=insPos_hi acc e acc.length;have lo:=insPos_lo acc e acc.length;unfold insE insAt;generalize im acc e acc.length=p at hp hi lo
 have t2:∀a∈acc.drop p,go e a=true:=fun a ha=>by
  obtain⟨j,hj,rfl⟩:=List.mem_iff_getElem.1 ha;simp only[rR]at hj;simp only[List.getElem_drop];have:=hi (p+j) (by omega) (by omega)
  rwa [iw (by omega)]at this
 have t1:∀a∈acc.take p,go a e=true:=fun a ha=>by
  obtain⟨j,hj,rfl⟩:=List.mem_iff_getElem.1 ha;simp only[qO]at hj;simp only[List.getElem_take];have h0:=lo (by omega);rw[iw (by omega)]at h0;have h1:=ll e acc[p-1] (fun he=>hne _ (ow _) he.symm) h0
  rcases px j (p-1) with h3 | h3
  ·exact jY _ _ _ (List.pairwise_iff_getElem.1 h j (p-1) (by omega) (by omega) h3) h1
  ·obtain rfl:j=p-1:=by omega
   exact h1
 rw[qw,rI];refine⟨h.sublist (List.take_sublist _ _),⟨t2,h.sublist (List.drop_sublist _ _)⟩,fun a ha b hb=>?_⟩
 rcases List.mem_cons.1 hb with rfl | hb
 ·exact t1 a ha
 ·exact jY _ _ _ (t1 a ha) (t2 b hb)
theorem edges_inv{l:List (List Int)} : ∀{i:Nat},i≤l.length→((iy l i).Pairwise fun a b=>go a b=true)∧∀e∈iy l i,∃j,j<i∧keepE l j=true∧e=eAt l j
 | 0,_=>by simp[iy]
 | i+1,hi=>by
  obtain⟨h1,h2⟩:=edges_inv (l:=l) (i:=i) (by omega);simp only[iy];split
  ·rename_i hk;refine⟨ins_lex h1 (fun a ha he=>?_),fun e he=>?_⟩
   ·obtain⟨j,hj,_,rfl⟩:=h2 a ha;have:=mV hk j (by omega)
    have hw:je (eAt l j) (eAt l i)=true:=by rw[he];exact iO.2 fun x hx=>hx
    simp[dropE,hw,hj]at this
   ·rcases insE_mem he with rfl | he
    ·exact⟨i,by omega,hk,rfl⟩
    ·obtain⟨j,hj,hk',rfl⟩:=h2 e he;exact⟨j,by omega,hk',rfl⟩
  ·exact⟨h1,fun e he=>by obtain⟨j,hj,hk',rfl⟩:=h2 e he;exact⟨j,by omega,hk',rfl⟩⟩
def MinM(l:List (List Int))(e:List Int):Prop:=e∈l∧∀d∈l,(∀x∈d,x∈e)→e.length≤d.length
structure LexSet (es:List (List Int)) (p:List Int→Prop):Prop where
 ord:es.Pairwise fun a b=>go a b=true
 mem:∀e,e∈es↔p e
theorem lex_ext:∀(a b:List (List Int)),(a.Pairwise fun x y=>go x y=true)→(b.Pairwise fun x y=>go x y=true)→(∀e,e∈a↔e∈b)→a=b
 | [],[],_,_,_=>rfl
 | [],y::_,_,_,h=>absurd ((h y).2 (pW ..)) (by simp)
 | x::_,[],_,_,h=>absurd ((h x).1 (pW ..)) (by simp)
 | x::xs,y::ys,hx,hy,h=>by
  rw[rI]at hx hy
  have hxy:x=y:=by
   rcases List.mem_cons.1 ((h x).1 (pW ..)) with e | e
   ·exact e
   ·rcases List.mem_cons.1 ((h y).2 (pW ..)) with e2 | e2
    ·exact e2.symm
    ·have h1:=hy.1 x e;have h2:=hx.1 y e2;have h3:=jY _ _ _ h1 h2;rw[ln]at h3;cases h3
  subst hxy;congr 1;refine lex_ext xs ys hx.2 hy.2 (fun e=>?_);constructor
  ·intro he
   rcases List.mem_cons.1 ((h e).1 (pZ _ he)) with e2 | e2
   ·subst e2;have:=hx.1 _ he;rw[ln]at this;cases this
   ·exact e2
  ·intro he
   rcases List.mem_cons.1 ((h e).2 (pZ _ he)) with e2 | e2
   ·subst e2;have:=hy.1 _ he;rw[ln]at this;cases this
   ·exact e2
theorem LexSet.eq{a b:List (List Int)}{p q:List Int→Prop}(ha:LexSet a p)(hb:LexSet b q)(h:∀e,p e↔q e):a=b :=
 lex_ext a b ha.ord hb.ord (fun e=>by rw[ha.mem,hb.mem,h])
theorem first_nat{p:Nat→Prop} : ∀n,p n→∃j,p j∧∀k,k<j→¬p k:=by
 intro n
 induction n using rV with
 | ind n ih =>
  intro h;by_cases hk:∃k,k<n∧p k
  ·obtain⟨k,h1,h2⟩:=hk;exact ih k h1 h2
  ·exact⟨n,h,fun k hk' hp=>hk ⟨k,hk',hp⟩⟩
theorem insE_in{acc:List (List Int)}{e x:List Int}(h:x=e∨x∈acc):x∈insE acc e:=by
 unfold insE insAt
 rcases h with rfl | h
 ·simp
 ·have h2:=qF (im acc e acc.length) acc;rw[←h2]at h
  rcases List.mem_append.1 h with h | h
  ·exact qx _ h
  ·exact qe _ (pZ _ h)
theorem edges_all{l:List (List Int)} : ∀{i:Nat},i≤l.length→∀j,j<i→keepE l j=true→eAt l j∈iy l i
 | 0,_,j,h,_=>by omega
 | i+1,hi,j,hj,hk=>by
  simp only[iy];by_cases hji:j=i
  ·subst hji;rw[if_pos hk];exact insE_in (.inl rfl)
  ·have:=edges_all (l:=l) (i:=i) (by omega) j (by omega) hk;split
   ·exact insE_in (.inr this)
   ·exact this
theorem keepTo_of{l:List (List Int)}{i:Nat} : ∀{n:Nat},(∀k,k<n→dropE l i k=false)→mW l i n=true
 | 0,_=>rfl
 | n+1,h=>by
  rw[mW,keepTo_of (n:=n) (fun k hk=>h k (by omega)),h n (by omega)];rfl
theorem kQ:∀(b a:List Int),a.Pairwise (· < ·)→b.Pairwise (· < ·)→(∀x∈a,x∈b)→a.Sublist b
 | [],a,_,_,hs=>by
  cases a with
  | nil=>exact List.Sublist.slnil
  | cons x a=>exact absurd (hs x (pW ..)) (by simp)
 | y::b,a,ha,hb,hs=>by
  cases a with
  | nil=>exact List.nil_sublist _
  | cons x a =>
   rw[rI]at ha hb
   rcases List.mem_cons.1 (hs x (pW ..)) with e | e
   ·subst e
    exact(kQ b a ha.2 hb.2 (fun z hz=>by
     rcases List.mem_cons.1 (hs z (pZ _ hz)) with e | e
     ·have:=ha.1 z hz;omega
     ·exact e)).cons_cons x
   ·have hyx:=hb.1 x e
    exact(kQ b (x::a) (List.pairwise_cons.2 ha) hb.2 (fun z hz=>by
     rcases List.mem_cons.1 (hs z hz) with e2 | e2
     ·rcases List.mem_cons.1 hz with e3 | e3
      ·omega
      ·have:=ha.1 z e3;omega
     ·exact e2)).cons y
theorem lJ{a b:List Int}(ha:a.Pairwise (· < ·))(hb:b.Pairwise (· < ·))(hs:∀x∈a,x∈b)(hl:b.length≤a.length):a=b:=by
 have hna:a.Nodup:=ha.imp fun {x y} h=>by omega
 have hnb:b.Nodup:=hb.imp fun {x y} h=>by omega
 exact(kQ b a ha hb hs).eq_of_length_le hl
theorem io{l:List (List Int)}(hl:∀e∈l,e.Pairwise (· < ·)):LexSet (gj l) (MinM l):=by
 obtain⟨h1,h2⟩:=edges_inv (l:=l) (i:=l.length) (pI _)
 have hm:∀j,j<l.length→eAt l j∈l:=fun j hj=>by rw[iw hj];exact ow hj
 refine⟨h1,fun e=>⟨fun he=>?_,fun he=>?_⟩⟩
 ·obtain⟨j,hj,hk,rfl⟩:=h2 e he;refine⟨hm j hj,fun d hd hs=>?_⟩;obtain⟨k,hk2,rfl⟩:=List.mem_iff_getElem.1 hd;have:=mV hk k hk2;unfold dropE at this;rw[iw hk2,iO.2 hs,pP,Bool.or_eq_false_iff]at this;have:=of_decide_eq_false this.1;omega
 ·obtain⟨hel,hmin⟩:=he;obtain⟨j0,hj0,rfl⟩:=List.mem_iff_getElem.1 hel;obtain⟨j,⟨hj,hje⟩,hfirst⟩:=first_nat (p:=fun j=>j<l.length∧eAt l j=l[j0]) j0 ⟨hj0,iw hj0⟩;rw[←hje];refine edges_all (pI _) j hj (keepTo_of fun k hk=>?_);unfold dropE;rw[Bool.and_eq_false_iff]
  cases hw:je (eAt l k) (eAt l j) with
  | false=>exact .inl rfl
  | true =>
   right;have hs:=iO.1 hw;rw[hje]at hs ⊢;have hle:=hmin _ (hm k hk) hs;rw[Bool.or_eq_false_iff,decide_eq_false_iff_not,decide_eq_false_iff_not];refine⟨by omega,fun hkj=>hfirst k hkj ⟨hk,?_⟩⟩;exact lJ (hl _ (hm k hk)) (hl _ hel) hs hle
def smK(all:List (List Int))(l:List Int):Bool:=(pG l.length).any fun i=>decide (1<l.length)&&all.contains [l.getD i 0]||decide (2<l.length)&&all.contains (l.eraseIdx i)
theorem contL{all:List (List Int)}{e:List Int} : all.contains e=true↔e∈all:=by simp
theorem erase_sub(l:List Int)(i:Nat):∀x∈l.eraseIdx i,x∈l:=fun x h=>List.mem_of_mem_eraseIdx h
theorem miss_erase:∀(d l:List Int),l.Pairwise (· < ·)→d.Pairwise (· < ·)→(∀x∈d,x∈l)→d.length+1=l.length→∃i,i<l.length∧d=l.eraseIdx i:=fun d l hl hd hs hlen=>by
 have hnl:l.Nodup:=hl.imp fun {x y} h=>by omega
 have hex:∃i,i<l.length∧∀x∈d,x∈l.eraseIdx i:=by
  refine Classical.byContradiction fun hno=>?_
  have hall:∀x∈l,x∈d:=fun x hx=>by
   obtain⟨i,hi,rfl⟩:=List.mem_iff_getElem.1 hx
   refine Classical.byContradiction fun hx2=>hno ⟨i,hi,fun y hy=>?_⟩
   rw[List.mem_eraseIdx_iff_getElem];obtain⟨j,hj,rfl⟩:=List.mem_iff_getElem.1 (hs y hy);exact⟨j,hj,fun e=>hx2 (by subst e;exact hy),rfl⟩
  have:=hnl.length_le_of_subset hall;omega
 obtain⟨i,hi,h⟩:=hex
 have hle:(l.eraseIdx i).length+1=l.length:=by rw[qT hi];omega
 exact⟨i,hi,lJ hd (hl.sublist (List.eraseIdx_sublist ..)) h (by omega)⟩
theorem sm_min{all:List (List Int)}(hA:∀d∈all,d.Pairwise (· < ·)∧d≠[]∧d.length≤3)(l:List Int):(l∈all∧smK all l=false)↔MinM all l:=by
 constructor
 ·rintro⟨hl,hsm⟩;refine⟨hl,fun d hd hs=>?_⟩
  refine Classical.byContradiction fun hlt=>?_
  obtain⟨a1,a2,a3⟩:=hA l hl;obtain⟨d1,d2,d3⟩:=hA d hd;have hd0:0<d.length:=List.length_pos_iff.2 d2
  have hsm2:smK all l=true:=by
   unfold smK;rw[rY];by_cases hd1:d.length=1
   ·obtain⟨x,rfl⟩:=List.length_eq_one_iff.1 hd1;obtain⟨i,hi,hx⟩:=List.mem_iff_getElem.1 (hs x (by simp));refine⟨i,List.mem_range.2 hi,?_⟩;rw[pu];left;rw[show l.getD i 0=l[i] by simp[qZ,hi],hx,decide_eq_true (by omega),pP];exact contL.2 hd
   ·obtain⟨i,hi,hde⟩:=miss_erase d l a1 d1 hs (by omega);refine⟨i,List.mem_range.2 hi,?_⟩;rw[pu];right;rw[←hde,decide_eq_true (by omega),pP];exact contL.2 hd
  rw[hsm2]at hsm;cases hsm
 ·rintro⟨hl,hmin⟩;refine⟨hl,?_⟩
  cases hsm:smK all l with
  | false=>rfl
  | true =>
   exfalso;unfold smK at hsm;rw[rY]at hsm;obtain⟨i,hi,h⟩:=hsm;rw[qh]at hi;rw[pu]at h
   rcases h with h | h
   ·rw[pC,show l.getD i 0=l[i] by simp[qZ,hi]]at h;have:=hmin _ (contL.1 h.2) (fun x hx=>by rw[pe]at hx;subst hx;exact ow hi);have:=of_decide_eq_true h.1;simp at *;omega
   ·rw[pC]at h;have:=hmin _ (contL.1 h.2) (erase_sub l i);rw[qT hi]at this;omega
def cpL(l:List (List Int)):Nat→List (List Int)
 | 0=>[]
 | 1=>[eAt l 0]
 | p+2=>if eAt l p=eAt l (p+1) then cpL l (p+1) else cpL l (p+1)++[eAt l (p+1)]
def ic(l:List (List Int)):List (List Int):=if l=[] then [] else cpL l l.length
theorem jf{l:List (List Int)}{k:Nat}(h:k<l.length):l.take (k+1)=l.take k++[eAt l k]:=by rw[pJ h,iw h]
theorem cpL_ok{l:List (List Int)}(hs:l.Pairwise fun x y=>go y x=false):∀p,1≤p→p≤l.length→(∃L,cpL l p=L++[eAt l (p-1)])∧((cpL l p).Pairwise fun x y=>go x y=true)∧∀x,x∈cpL l p↔x∈l.take p
 | 0,h,_=>by omega
 | 1,_,hl=>by
  refine⟨⟨[],rfl⟩,by simp[cpL],fun x=>?_⟩;rw[jf (k:=0) (by omega)];simp[cpL]
 | p+2,_,hl=>by
  obtain⟨⟨L,h1⟩,h2,h3⟩:=cpL_ok hs (p+1) (by omega) (by omega);rw[rd]at h1;rw[cpL,show p+2-1=p+1 by omega]
  have hmem:∀x,x∈l.take (p+2)↔x∈l.take (p+1)∨x=eAt l (p+1):=fun x=>by
   rw[jf (k:=p+1) (by omega)];simp
  split
  ·rename_i he;refine⟨⟨L,by rw[h1,he]⟩,h2,fun x=>?_⟩;rw[hmem,h3];constructor
   ·exact .inl
   ·rintro(h | h)
    ·exact h
    ·rw[h,←he,←h3,h1];simp
  ·rename_i he;refine⟨⟨_,rfl⟩,?_,fun x=>?_⟩
   ·have hlt:go (eAt l p) (eAt l (p+1))=true:=by
     have:=List.pairwise_iff_getElem.1 hs p (p+1) (by omega) (by omega) (by omega);rw[←iw (show p<l.length by omega),←iw (show p+1<l.length by omega)]at this;exact ll _ _ (fun e=>he e.symm) this
    refine List.pairwise_append.2 ⟨h2,by simp,fun a ha b hb=>?_⟩;rw[pe]at hb;subst hb;rw[h1]at ha h2
    rcases List.mem_append.1 ha with h | h
    ·exact jY _ _ _ ((List.pairwise_append.1 h2).2.2 a h _ (by simp)) hlt
    ·rw[pe]at h;subst h;exact hlt
   ·rw[hmem,pz,h3,pe]
theorem compL_ok{l:List (List Int)}(hs:l.Pairwise fun x y=>go y x=false):LexSet (ic l) (·∈l):=by
 unfold ic;by_cases h:l=[]
 ·subst h;exact⟨by simp,by simp⟩
 ·rw[if_neg h];obtain⟨_,h1,h2⟩:=cpL_ok hs l.length (List.length_pos_iff.2 h) (pI _);rw[pt]at h2;exact⟨h1,h2⟩
theorem jr(a b:List Int):iX a b<0↔go a b=true:=by
 have:=cmpL_lex a b
 cases h:go a b with
 | true=>rw[h]at this;have:=of_decide_eq_false this;simp;omega
 | false=>rw[h]at this;have:=of_decide_eq_true this;simp;omega
theorem cmpL_irr(a:List Int):¬iX a a<0:=by rw[jr,ln];simp
theorem lH(a b c:List Int):iX a b<0→iX b c<0→iX a c<0:=by rw[jr,jr,jr];exact jY a b c
theorem cmpL_tri(a b:List Int):iX a b<0∨a=b∨iX b a<0:=by
 rw[jr,jr];by_cases he:a=b
 ·exact .inr (.inl he)
 ·cases h:go a b with
  | true=>exact .inl rfl
  | false=>exact .inr (.inr (ll a b he h))
theorem mv{a b c:List Int}(h:¬iX a b<0)(g:¬iX b c<0):¬iX a c<0:=by
 intro hac
 rcases cmpL_tri a b with h1 | h1 | h1
 ·exact h h1
 ·subst h1;exact g hac
 ·exact g (lH _ _ _ h1 hac)
theorem u32w(a:Nat)(h:a<4294967296):IntKind.u32.wrap (a:Int)=a:=by rw[IntKind.wrap_u32];omega
theorem mod32(a:Nat)(h:a<4294967296):((a:Int) % 2^IntKind.u32.bits).toNat=a:=by
 have:(2:Int)^IntKind.u32.bits=4294967296:=rfl;rw[this];omega
theorem modN(a:Nat)(h:a<4294967296):a % 2^IntKind.u32.bits=a:=rt h
theorem or32(a b:Nat)(ha:a<4294967296)(hb:b<4294967296):IntKind.u32.wrap ((a % 2^IntKind.u32.bits ||| b % 2^IntKind.u32.bits:Nat):Int)=((a ||| b:Nat):Int):=by
 rw[modN a ha,modN b hb];exact u32w _ (sJ (n:=32) ha hb)
theorem and32(a b:Nat)(ha:a<4294967296)(hb:b<4294967296):IntKind.u32.wrap ((a % 2^IntKind.u32.bits &&& b % 2^IntKind.u32.bits:Nat):Int)=((a &&& b:Nat):Int):=by
 rw[modN a ha,modN b hb];exact u32w _ (qa sB ha)
theorem shl32(i:Nat)(h:i<32):IntKind.u32.wrap (2^min i IntKind.u32.bits:Int)=((2^i:Nat):Int):=by
 have h1:min i IntKind.u32.bits=i:=ri (by show i≤32;omega);have h2:2^i<4294967296:=rN (by omega) h;rw[h1,←u32w _ h2];congr 1
def jE:Nat→Nat
 | 0=>0
 | i+1=>jE i ||| 2^i
theorem gJ:∀n,n≤32→jE n<4294967296
 | 0,_=>by simp[jE]
 | i+1,h=>sJ (n:=32) (gJ i (by omega)) (rN (by omega) (by omega))
theorem full02(n:Nat)(hn:n≤32):aE Tryz.prog 110 [.int .i64 n] fun r=>r = .int .u32 (jE n):=by
 refine sPx Tryz.func110 rfl rfl ?_;simp -dsimp[Tryz.f110,ou];refine aR (W_loopM 18 0x3fff8 (by simp[mB]<;>rfl) (σ:=Nat) (fun i=>i≤n) (fun i=>n-i) (fun i=>[(4,.int .i64 i),(3,.int .u32 (jE i))]) (fun _=>[]) 0 (by omega) (by simp[jE]) rfl (by simp) ?_);intro i hi N Q hN hQ;by_cases hb:i<n
 ·have h1:=shl32 i (by omega);have h2:=gJ i (by omega);have h3:2^i<4294967296:=rN (by omega) (show i<32 by omega)
  have hf:jE (i+1)=jE i ||| 2^i:=rfl
  obtain⟨p,hp⟩:∃p,p=2^i:=⟨_,rfl⟩;rw[←hp]at h1 h3 hf;have h4:=or32 (jE i) p h2 h3;rw[←hf]at h4;refine wx ?_;simp -dsimp[hb,show(i:Int)<32 by omega,aa i (by omega),h1,h4];refine hN (i+1) _ _ (by omega) (by omega) ?_ ⟨[],?_⟩ ?_ ?_<;>simp[or_imp,forall_and,L1,au]
 ·obtain rfl:i=n:=by omega
  refine wx ?_;simp -dsimp[hb];refine hQ _ _ _ ?_;simp -dsimp[]
theorem hasB_bit(s i:Nat)(hs:s<4294967296)(hi:i<32):lu s i=s.testBit i:=by
 have h1:min i IntKind.u32.bits=i:=ri (by show i≤32;omega)
 have h2:((s:Int).fdiv (2^i) % 2^IntKind.u32.bits).toNat=s / 2^i:=by
  have h3:(s:Int).fdiv (2^i)=((s / 2^i:Nat):Int):=by
   rw[Int.fdiv_eq_ediv_of_nonneg _ (by have:(0:Int)<2^i:=Int.pow_pos (by omega);omega)];simp
  rw[h3];exact mod32 _ (qa (Nat.div_le_self _ _) hs)
 have h4:(1 % 2^IntKind.u32.bits:Nat)=1:=rfl;unfold lu;rw[h1,h2,h4,Nat.and_one_is_mod,u32w _ (by omega),Nat.testBit_eq_decide_div_mod_eq];rw[qo,beq_iff_eq,decide_eq_true_iff];omega
structure Fd where
 l:Nat
 r:Nat
def encD(d:Fd):V:=.agg [.int .u8 (d.l:Int),.int .u8 (d.r:Int)]
def gR(d:Fd):V:=.agg [.int .u32 (d.l:Int),.int .u32 (d.r:Int)]
@[simp] theorem encD_pure (d:Fd):AM.Pure (encD d):=by simp[encD]
@[simp] theorem encF_pure (d:Fd):AM.Pure (gR d):=by simp[gR]
@[simp] theorem encF_oneV (d:Fd):cq (gR d)=true:=rfl
def LF(f:Bool)(ds:List Fd):V:=.lst 2 f (ds.map gR)
@[simp] theorem LF_pure (f:Bool) (ds:List Fd):AM.Pure (LF f ds):=by simp[LF]
def fdOf(n:Nat)(d:Fd):Fd:=⟨d.l &&& jE n,d.r &&& jE n⟩
def eY(n:Nat)(ds:List Fd)(i:Nat):List Fd:=(ds.take i).map (fdOf n)
theorem fdsTo_len(n:Nat)(ds:List Fd)(i:Nat)(h:i≤ds.length):(eY n ds i).length=i:=by simp[eY];omega
theorem fdsTo_succ(n:Nat)(ds:List Fd)(i:Nat)(h:i<ds.length):eY n ds (i+1)=eY n ds i++[fdOf n ds[i]]:=by
 unfold eY;rw[pJ h,qB];rfl
theorem cap8b(n:Nat)(h:n≤1000000000):n≤9223372036854775806∧(n+1)*8≤140737488355328:=by omega
theorem list09(n:Nat)(ds:List Fd)(f:Bool)(hn:n≤32)(hl:ds.length≤1000000)(hd:∀d∈ds,d.l<256∧d.r<256):aE Tryz.prog 65 [.int .i64 n,.lst 2 f (ds.map encD)] fun r=>r=LF false (ds.map (fdOf n)):=by
 have hF:=gJ n hn;have hc:=full02 n hn;refine sPx Tryz.func65 rfl rfl ?_;simp -dsimp[Tryz.f65,ou];refine cPx (hc) (by simp) ?_;simp -dsimp[];refine aR (iR 48 2 [6] (by simp) (W_loopM 36 0xffffffcc0 (by simp[mB]<;>rfl) (σ:=Nat) (fun i=>i≤ds.length) (fun i=>ds.length-i) (fun i=>[(7,.int .i64 i),(6,.buf 0 0 i i)]) (fun i=>[B.buf 48 2 ((eY n ds i).map gR) false]) 0 (by omega) (by simp) (by simp[eY]) (by simp) ?_));intro i hi N Q hN hQ;have hli:=fdsTo_len n ds i hi;by_cases hb:i<ds.length
 ·obtain⟨h1,h2⟩:=hd ds[i] (ow hb);have hst:=fdsTo_succ n ds i hb;have e1:=and32 ds[i].l (jE n) (by omega) hF;have e2:=and32 ds[i].r (jE n) (by omega) hF;have w1:=u32w ds[i].l (by omega);have w2:=u32w ds[i].r (by omega);refine wx ?_;simp -dsimp[hb];refine aR (ao tok mixed [19] [] [] (by kernel_rfl) fun C K hC hK=>?_);simp -implicitDefEqProofs [hb,encD,w1,w2,e1,e2,cap8b i (by omega),hli];refine hK _ _ ?_;simp -dsimp[aa i (by omega)];refine hN (i+1) _ _ (by omega) (by omega) ?_ ⟨[],?_⟩ ?_ ?_<;>simp[or_imp,forall_and,L1,au,hst,gR,fdOf,encD]
 ·obtain rfl:i=ds.length:=by omega
  refine wx ?_;simp -dsimp[hb];refine hQ _ _ _ ?_;simp -dsimp[];rw[show LF false (ds.map (fdOf n))=LF false (eY n ds ds.length) by unfold eY;rw[pt]];exact lz rfl (by rw[pc];exact hli.symm) (by simp)
structure Tm where
 v:Int
 a:Int
 x:Vl
structure At where
 l:Tm
 op:Int
 r:Tm
structure Dn where
 vars:Int
 atoms:List At
structure Cl where
 any:Bool
 x:Vl
structure Cfd where
 l:List Int
 r:Int
 p:List Cl
structure Od where
 l:List Int
 r:List Int
def dt(t:Tm):V:=.agg [.int .i64 t.v,.int .i64 t.a,.int .i64 t.x.k,.int .i64 t.x.n,.str t.x.s]
def du(a:At):V:=.agg [.int .i64 a.l.v,.int .i64 a.l.a,.int .i64 a.l.x.k,.int .i64 a.l.x.n,.str a.l.x.s,.int .i64 a.op,.int .i64 a.r.v,.int .i64 a.r.a,.int .i64 a.r.x.k,.int .i64 a.r.x.n,.str a.r.x.s]
def dG(c:Cl):V:=.agg [.bool c.any,.int .i64 c.x.k,.int .i64 c.x.n,.str c.x.s]
@[simp] theorem encTm_pure (t:Tm):AM.Pure (dt t):=by simp[dt]
@[simp] theorem encAt_pure (a:At):AM.Pure (du a):=by simp[du]
@[simp] theorem encCl_pure (c:Cl):AM.Pure (dG c):=by simp[dG]
@[simp] theorem encAt_oneV (a:At):cq (du a)=true:=rfl
@[simp] theorem encCl_oneV (c:Cl):cq (dG c)=true:=rfl
def LA(f:Bool)(al:List At):V:=.lst 11 f (al.map du)
def LCl(f:Bool)(cs:List Cl):V:=.lst 4 f (cs.map dG)
@[simp] theorem LA_pure (f:Bool) (al:List At):AM.Pure (LA f al):=by simp[LA]
@[simp] theorem LCl_pure (f:Bool) (cs:List Cl):AM.Pure (LCl f cs):=by simp[LCl]
def gn(f:Bool)(d:Dn):V:=.agg [.int .i64 d.vars,LA f d.atoms]
def gT(f g:Bool)(c:Cfd):V:=.agg [L1 f c.l,.int .i64 c.r,LCl g c.p]
def iV(f g:Bool)(d:Od):V:=.agg [L1 f d.l,L1 g d.r]
@[simp] theorem encDn_pure (f:Bool) (d:Dn):AM.Pure (gn f d):=by simp[gn]
@[simp] theorem encCfd_pure (f g:Bool) (c:Cfd):AM.Pure (gT f g c):=by simp[gT]
@[simp] theorem encOd_pure (f g:Bool) (d:Od):AM.Pure (iV f g d):=by simp[iV]
def kq(x y:Vl):Bool:=x.k == y.k&&(x.n == y.n&&x.s == y.s)
theorem eqVl(H:List B)(k n:Int)(t:ByteArray)(k' n':Int)(t':ByteArray):oH T H 200 (.agg [.int .i64 k,.int .i64 n,.str t]) (.agg [.int .i64 k',.int .i64 n',.str t'])=some (kq ⟨k,n,t⟩ ⟨k',n',t'⟩):=by
 have h2:∀x y:Int,eqD T 9999 2 (.int .i64 x) (.int .i64 y)=some (x == y):=fun x y=>by simp[eqD]
 have h1:∀x y:Int,eqD T 9999 3 (.int .i64 x) (.int .i64 y)=some (x == y):=fun x y=>by simp[eqD]
 have h3:∀x y:ByteArray,eqD T 9999 9 (.str x) (.str y)=some (x == y):=fun x y=>by simp[eqD]
 simp only[oH];rw[show(10000:Nat)=9999+1 from rfl,eqD];simp only[T_200];simp only[if_true,eqFs,ee,T_2,T_3,T_9,bK,rO,qg,pQ,if_false,h1,h2,h3,kq];cases (k == k')<;>cases (n == n')<;>cases (t == t')<;>simp
def nV(v:Vl):Bool:=kq v ⟨0,0,pE⟩
def tmB(n vars:Int)(t:Tm):Bool:=if t.v=0 then decide (t.a=0)&&ai t.x else decide (1≤t.v)&&(decide (t.v≤vars)&&(decide (0≤t.a)&&(decide (t.a<n)&&nV t.x)))
def atB(n vars:Int)(a:At):Bool:=decide (1≤a.op)&&(decide (a.op≤4)&&(tmB n vars a.l&&tmB n vars a.r))
def dnB(n:Int)(d:Dn):Bool:=decide (1≤d.vars)&&(decide (d.vars≤3)&&(decide (d.atoms.length≤20)&&d.atoms.all (atB n d.vars)))
def tmV(rs:List Rw)(t:Tm):Vl:=if t.v=0 then t.x else((rs.getD (t.v-1).toNat ⟨0,[]⟩).vals).getD t.a.toNat ⟨0,0,pE⟩
def atS(rs:List Rw)(a:At):Bool:=if a.op=1 then decide (kC (tmV rs a.l) (tmV rs a.r)=0) else if a.op=2 then !decide (kC (tmV rs a.l) (tmV rs a.r)=0) else if a.op=3 then decide (kC (tmV rs a.l) (tmV rs a.r)<0) else decide (kC (tmV rs a.l) (tmV rs a.r)≤0)
def allS(d:Dn)(rs:List Rw):Bool:=d.atoms.all (atS rs)
def ascI(n r:Int):Int→List Int→Bool
 | _,[]=>true
 | b,a::l=>decide (b<a)&&(decide (a<n)&&(!decide (a=r)&&ascI n r a l))
def clB(c:Cl):Bool:=if c.any=true then nV c.x else ai c.x
def cfB(n:Int)(c:Cfd):Bool:=decide (0≤c.r)&&(decide (c.r<n)&&(decide (c.p.length=c.l.length+1)&&(ascI n c.r (-1) c.l&&c.p.all clB)))
def inB(n:Int)(a:Int):Bool:=decide (0≤a)&&decide (a<n)
def olB(n:Int)(l:List Int):Bool:=decide (l.length≤8)&&l.all (inB n)
def odB(n:Int)(d:Od):Bool:=olB n d.l&&olB n d.r
structure Cn where
 name:ByteArray
 table:ByteArray
 kind:Int
 fd:Fd
 m1:Int
 m2:Int
 i1:ByteArray
 i2:List Int
 i3:ByteArray
 i4:List Int
 cfd:Cfd
 od:Od
 dn:Dn
def cE(c:Cn):V:=.agg [.str c.name,.str c.table,.int .i64 c.kind,.int .u32 (c.fd.l:Int),.int .u32 (c.fd.r:Int),.int .u32 c.m1,.int .u32 c.m2,.str c.i1,L1 false c.i2,.str c.i3,L1 false c.i4,L1 false c.cfd.l,.int .i64 c.cfd.r,LCl false c.cfd.p,L1 false c.od.l,L1 false c.od.r,.int .i64 c.dn.vars,LA false c.dn.atoms]
def LCn(f:Bool)(cs:List Cn):V:=.lst 18 f (cs.map cE)
@[simp] theorem encCn_pure (c:Cn):AM.Pure (cE c):=by simp[cE]
@[simp] theorem LCn_pure (f:Bool) (cs:List Cn):AM.Pure (LCn f cs):=by simp[LCn]
@[simp] theorem encCn_oneV (c:Cn):cq (cE c)=true:=by simp[cE,cq,L1,LCl,LA,V.one]
def jR(n:Nat)(d:Fd):Bool:=decide ((d.l ||| d.r) / 2^n=0)
def eg(t:Tb)(c:Cn):Int :=
 if c.table.toList == t.name.toList&&(decide (1≤c.kind)&&decide (c.kind≤6)) then
  if c.kind=2∨c.kind=3 then 14 else if c.kind=1 then(if jR t.attrs.length c.fd=true then 0 else 1) else
  if c.kind=4 then(if cfB t.attrs.length c.cfd=true then 0 else 1) else if c.kind=5 then(if odB t.attrs.length c.od=true then 0 else 1) else(if dnB t.attrs.length c.dn=true then 0 else 1)
 else 1
def srt(l:List Int):List Int:=l.mergeSort fun a b=>decide (a≤b)
theorem nZ(l:List Int):(srt l).Perm l:=List.mergeSort_perm _ _
theorem oo(l:List Int):(srt l).Pairwise (·≤·):=by
 have:=List.pairwise_mergeSort (le:=fun a b:Int=>decide (a≤b)) (fun a b c h g=>by
  simp only[decide_eq_true_eq]at h g ⊢;omega) (fun a b=>by
  rcases Int.le_total a b with h | h
  ·simp[h]
  ·simp[h]) l
 exact this.imp (fun h=>by simpa using h)
theorem srt_eq{l m:List Int}(hp:m.Perm l)(hs:m.Pairwise (·≤·)):m=srt l :=
 (hp.trans (nZ l).symm).eq_of_pairwise (le:=fun x y:Int=>x≤y) (fun x y _ _ h1 h2=>by omega) hs (oo l)
theorem og(l:List Int):(srt l).length=l.length:=(nZ l).length_eq
theorem srt_asc{l:List Int}(h:l.Nodup):(srt l).Pairwise (· < ·):=by
 have h2:(srt l).Nodup:=(nZ l).nodup_iff.2 h;exact((oo l).and h2).imp (fun⟨a,b⟩=>by omega)
theorem na{a b:Int}(h:a<b):srt [a,b]=[a,b]∧srt [b,a]=[a,b] :=
 ⟨(srt_eq (List.Perm.refl _) (by simp;omega)).symm,(srt_eq (List.Perm.swap _ _ _) (by simp;omega)).symm⟩
def dl(rs:List Rw):List Int:=rs.map (·.id)
theorem gv(rs:List Rw):(dl rs).length=rs.length:=by simp[dl]
def jV(p:List Rw)(r:Rw):Bool:=p.any fun x=>x.id == r.id
theorem used_iff{p:List Rw}{r:Rw} : jV p r=true↔r.id∈dl p:=by
 unfold jV dl;rw[rY,rh];exact⟨fun⟨x,h1,h2⟩=>⟨x,h1,by simpa using h2⟩,fun⟨x,h1,h2⟩=>⟨x,h1,by simpa using h2⟩⟩
def lL(R:List Rw):List Rw→List Rw→Prop
 | _,[]=>True
 | p,r::q=>r∈R∧jV p r=false∧lL R (p++[r]) q
theorem mZ{R:List Rw}{r:Rw} : ∀{q p:List Rw},lL R p (q++[r])↔lL R p q∧r∈R∧jV (p++q) r=false
 | [],p=>by simp[lL]
 | x::q,p=>by
  rw[pn,lL,lL,mZ (q:=q) (p:=p++[x])];rw[pb,qj];exact⟨fun⟨a,b,c,d⟩=>⟨⟨a,b,c⟩,d⟩,fun⟨⟨a,b,c⟩,d⟩=>⟨a,b,c,d⟩⟩
theorem extA_mem{R:List Rw} : ∀{q p:List Rw},lL R p q→∀r∈q,r∈R
 | [],_,_,r,h=>by cases h
 | x::q,p,h,r,hr=>by
  rcases List.mem_cons.1 hr with rfl | hr
  ·exact h.1
  ·exact extA_mem h.2.2 r hr
theorem ot{R:List Rw} : ∀{q p:List Rw},(dl p).Nodup→lL R p q→(dl (p++q)).Nodup
 | [],p,hp,_=>by simpa using hp
 | x::q,p,hp,h=>by
  have hx:x.id∉dl p:=fun hm=>by have:=used_iff.2 hm;rw[h.2.1]at this;cases this
  have h2:(dl (p++[x])).Nodup:=by
   unfold dl at hp hx ⊢;rw[qB,List.nodup_append];refine⟨hp,by simp,?_⟩;intro a ha b hb;simp at hb;subst hb;rintro rfl;exact hx ha
  have:=ot h2 h.2.2
  rwa [pb,qj]at this
theorem mY{α β:Type}{f:List β→α→List β}{Q:α→β→Prop}(h:∀o r x,x∈f o r↔x∈o∨Q r x):∀(R:List α) (out:List β) (x:β),x∈R.foldl f out↔x∈out∨∃r∈R,Q r x
 | [],out,x=>by simp
 | r::R,out,x=>by
  rw[rF,mY h R (f out r) x,h];simp only[pD,exists_eq_or_imp];rw[or_assoc]
def kG(out:List (List Int))(l:List Int):List (List Int):=if out.contains l then out else out++[l]
theorem lV{out:List (List Int)}{l x:List Int} : x∈kG out l↔x∈out∨x=l:=by
 unfold kG;by_cases h:l∈out
 ·rw[if_pos (by simpa using h)];exact⟨.inl,fun h2=>h2.elim id (fun e=>e▸h)⟩
 ·rw[if_neg (by simpa using h)];simp
theorem putN_len(out:List (List Int))(l:List Int):(kG out l).length≤out.length+1:=by
 unfold kG;split<;>simp
def stV(d:Dn)(out:List (List Int))(rs:List Rw):List (List Int):=if allS d rs then kG out (srt (dl rs)) else out
theorem stV_len(d:Dn)(out:List (List Int))(rs:List Rw):(stV d out rs).length≤out.length+1:=by
 unfold stV;split
 ·exact putN_len _ _
 ·omega
def jL(d:Dn)(R:List Rw):Nat→List Rw→List (List Int)→List (List Int)
 | 0,p,out=>stV d out p
 | k+1,p,out=>R.foldl (fun o r=>if jV p r then o else jL d R k (p++[r]) o) out
theorem lO{d:Dn}{R:List Rw} : ∀(k:Nat) (p:List Rw) (out:List (List Int)) (x:List Int),x∈jL d R k p out↔x∈out∨∃q,q.length=k∧lL R p q∧allS d (p++q)=true∧x=srt (dl (p++q))
 | 0,p,out,x=>by
  unfold jL stV;constructor
  ·intro h;split at h
   ·rename_i ha
    rcases lV.1 h with h | h
    ·exact .inl h
    ·exact .inr ⟨[],rfl,trivial,by simpa using ha,by simpa using h⟩
   ·exact .inl h
  ·rintro(h | ⟨q,h1,_,h3,h4⟩)
   ·split
    ·exact lV.2 (.inl h)
    ·exact h
   ·have:=List.length_eq_zero_iff.1 h1;subst this;rw[pL]at h3 h4;rw[if_pos h3];exact lV.2 (.inr h4)
 | k+1,p,out,x=>by
  unfold jL
  rw[mY (Q:=fun r x=>jV p r=false∧∃q,q.length=k∧lL R (p++[r]) q∧allS d (p++[r]++q)=true∧x=srt (dl (p++[r]++q))) (fun o r x=>by
   by_cases hu:jV p r=true
   ·rw[if_pos hu,hu];simp
   ·rw[if_neg hu,lO k (p++[r]) o x];simp only[qc]at hu
    rw[hu];simp)]
  constructor
  ·rintro(h | ⟨r,hr,hu,q,h1,h2,h3,h4⟩)
   ·exact .inl h
   ·exact .inr ⟨r::q,by simp[h1],⟨hr,hu,h2⟩,by simpa using h3,by simpa using h4⟩
  ·rintro(h | ⟨q,h1,h2,h3,h4⟩)
   ·exact .inl h
   ·cases q with
    | nil=>simp at h1
    | cons r q=>exact .inr ⟨r,h2.1,h2.2.1,q,by simpa using h1,h2.2.2,by simpa using h3,by simpa using h4⟩
theorem kE{d:Dn}{R:List Rw} : ∀(k:Nat) (p:List Rw) (out:List (List Int)),(jL d R k p out).length≤out.length+R.length^k
 | 0,p,out=>by unfold jL;exact stV_len d out p
 | k+1,p,out=>by
  unfold jL
  have key:∀(S:List Rw) (o:List (List Int)),(S.foldl (fun o r=>if jV p r then o else jL d R k (p++[r]) o) o).length≤o.length+S.length*R.length^k:=fun S=>by
   induction S with
   | nil=>intro o;simp
   | cons s S ih =>
    intro o;rw[rF];refine ph (ih _) ?_;rw[pk,Nat.succ_mul];split
    ·omega
    ·have:=kE (d:=d) (R:=R) k (p++[s]) o;omega
  have:=key R out;rw[sP,rJ];exact this
def stepA(R:List Rw)(o:List Rw):List (List Rw):=(R.filter fun r=>!jV o r).map fun r=>o++[r]
def asR(R:List Rw):Nat→List (List Rw)
 | 0=>[[]]
 | k+1=>(asR R k).flatMap (stepA R)
theorem nS{R:List Rw} : ∀{k:Nat} {rs:List Rw},rs∈asR R k↔rs.length=k∧lL R [] rs
 | 0,rs=>by
  simp only[asR,pe];constructor
  ·rintro rfl;exact⟨rfl,trivial⟩
  ·intro h;exact List.length_eq_zero_iff.1 h.1
 | k+1,rs=>by
  simp only[asR,rZ,stepA,rh,qH];constructor
  ·rintro⟨o,ho,r,⟨hr,hu⟩,rfl⟩;obtain⟨h1,h2⟩:=nS.1 ho;exact⟨by simp[h1],mZ.2 ⟨h2,hr,by simpa using hu⟩⟩
  ·rintro⟨h1,h2⟩
   have hne:rs≠[]:=by rintro rfl;simp at h1
   rw[←List.dropLast_concat_getLast hne]at h2;obtain⟨h3,h4,h5⟩:=mZ.1 h2;exact⟨rs.dropLast,nS.2 ⟨by simp[h1],h3⟩,rs.getLast hne,⟨h4,by simpa using h5⟩,List.dropLast_concat_getLast hne⟩
def putR(l:List (List Int))(x:List Int):List (List Int):=if l.any (fun y=>!go y x&&!go x y) then l else insE l x
theorem same_lex{x y:List Int} : (!go y x&&!go x y)=true↔y=x:=by
 constructor
 ·intro h;rw[pC,pg,pg]at h
  refine Classical.byContradiction fun hne=>?_
  have:=ll y x hne h.1;rw[h.2]at this;cases this
 ·rintro rfl;rw[ln];rfl
theorem insE_iff{acc:List (List Int)}{e x:List Int} : x∈insE acc e↔x=e∨x∈acc:=by
 refine⟨fun h=>?_,insE_in⟩;unfold insE insAt at h;simp only[pz,pD]at h
 rcases h with h | h | h
 ·exact .inr (pi h)
 ·exact .inl h
 ·exact .inr (qJ h)
theorem putR_mem{l:List (List Int)}{y x:List Int} : x∈putR l y↔x∈l∨x=y:=by
 unfold putR;split
 ·rename_i h;obtain⟨z,hz,he⟩:=List.any_eq_true.1 h;have:=same_lex.1 he;subst this;exact⟨.inl,fun h=>h.elim id (fun e=>e▸hz)⟩
 ·rw[insE_iff,or_comm]
def stR(d:Dn)(out:List (List Int))(rs:List Rw):List (List Int):=if allS d rs then putR out (srt (dl rs)) else out
def VD(R:List Rw)(d:Dn)(x:List Int):Prop:=∃rs,rs.length=d.vars.toNat∧lL R [] rs∧allS d rs=true∧x=srt (dl rs)
theorem vd_prog{R:List Rw}{d:Dn}{x:List Int} : x∈jL d R d.vars.toNat [] []↔VD R d x:=by
 rw[lO];simp[VD]
theorem vd_ref{R:List Rw}{d:Dn}{x:List Int} : x∈(asR R d.vars.toNat).foldl (stR d) []↔VD R d x:=by
 rw[mY (Q:=fun rs x=>allS d rs=true∧x=srt (dl rs)) (fun o rs x=>by
  unfold stR;by_cases h:allS d rs=true
  ·rw[if_pos h,putR_mem,h];simp
  ·rw[if_neg h];simp[h])]
 constructor
 ·rintro(h | ⟨rs,h1,h2,h3⟩)
  ·cases h
  ·obtain⟨h4,h5⟩:=nS.1 h1;exact⟨rs,h4,h5,h2,h3⟩
 ·rintro⟨rs,h1,h2,h3,h4⟩;exact .inr ⟨rs,nS.2 ⟨h1,h2⟩,h3,h4⟩
def EdgL(R:List Rw)(x:List Int):Prop:=x.Pairwise (· < ·)∧x≠[]∧x.length≤3∧∀a∈x,a∈dl R
theorem VD.edge{R:List Rw}{d:Dn}{x:List Int}(h:VD R d x)(h1:1≤d.vars)(h3:d.vars≤3):EdgL R x:=by
 obtain⟨rs,hl,he,_,rfl⟩:=h
 have hn:(dl rs).Nodup:=by simpa using ot (p:=[]) (by simp[dl]) he
 refine⟨srt_asc hn,fun e=>?_,by rw[og,gv];omega,fun a ha=>?_⟩
 ·have:=og (dl rs);rw[e,gv]at this;simp at this;omega
 ·have ha2:=(nZ _).mem_iff.1 ha;unfold dl at ha2 ⊢;obtain⟨r,hr,rfl⟩:=List.mem_map.1 ha2;exact List.mem_map.2 ⟨r,extA_mem he r hr,rfl⟩
def prL(P:Rw→Rw→Bool):List Rw→List (List Int)
 | []=>[]
 | r::rs=>((rs.filter (P r)).map fun s=>[r.id,s.id])++prL P rs
theorem lZ{P:Rw→Rw→Bool}{x:List Int} : ∀{R:List Rw},(R.Pairwise fun r s=>r.id<s.id)→(x∈prL P R↔∃r∈R,∃s∈R,r.id<s.id∧P r s=true∧x=[r.id,s.id])
 | [],_=>by simp[prL]
 | a::R,h=>by
  rw[rI]at h;rw[prL,pz,lZ h.2];constructor
  ·rintro(h1 | ⟨r,hr,s,hs,h1⟩)
   ·obtain⟨s,hs,rfl⟩:=List.mem_map.1 h1;obtain⟨hs1,hs2⟩:=List.mem_filter.1 hs;exact⟨a,pW ..,s,pZ _ hs1,h.1 s hs1,hs2,rfl⟩
   ·exact⟨r,pZ _ hr,s,pZ _ hs,h1⟩
  ·rintro⟨r,hr,s,hs,h1,h2,h3⟩
   rcases List.mem_cons.1 hr with e | hr2
   ·rcases List.mem_cons.1 hs with e2 | hs2
    ·rw[e,e2]at h1;omega
    ·rw[e]at h2 h3;exact .inl (List.mem_map.2 ⟨s,List.mem_filter.2 ⟨hs2,h2⟩,h3.symm⟩)
   ·rcases List.mem_cons.1 hs with e2 | hs2
    ·have:=h.1 r hr2;rw[e2]at h1;omega
    ·exact .inr ⟨r,hr2,s,hs2,h1,h2,h3⟩
theorem lA{P:Rw→Rw→Bool}{p:Rw→Bool} : ∀R:List Rw,prL P (R.filter p)=prL (fun r s=>p r&&(p s&&P r s)) R
 | []=>rfl
 | a::R=>by
  rw[prL];by_cases h:p a=true
  ·rw[qU h,prL,lA R,List.filter_filter];congr 3;funext s;rw[h,pP];exact Bool.and_comm _ _
  ·rw[qV h,lA R];simp only[qc]at h;simp[h]
theorem nj{P:Rw→Rw→Bool}{x:List Int}{R:List Rw}(hR:R.Pairwise fun r s=>r.id<s.id)(h:x∈prL P R):EdgL R x:=by
 obtain⟨r,hr,s,hs,h1,_,rfl⟩:=(lZ hR).1 h;refine⟨by simpa using h1,by simp,by simp,fun a ha=>?_⟩;unfold dl;simp at ha
 rcases ha with rfl | rfl
 ·exact List.mem_map.2 ⟨r,hr,rfl⟩
 ·exact List.mem_map.2 ⟨s,hs,rfl⟩
theorem la{P:Rw→Rw→Bool} : ∀R:List Rw,(prL P R).length≤R.length*R.length
 | []=>by simp[prL]
 | a::R=>by
  rw[prL,pK,pc,pk];have h1:=pY (P a) R;have h2:=la (P:=P) R
  have h3:(R.length+1)*(R.length+1)=R.length*R.length+R.length+R.length+1:=by rw[pf,Nat.mul_add];omega
  omega
def iD(n s:Nat):List Nat:=(pG n).filter s.testBit
theorem kj{n s k:Nat} : k∈iD n s↔k<n∧s.testBit k=true:=by simp[iD]
theorem jB(n s:Nat):(iD n s).length≤n:=by
 have:=pY s.testBit (pG n);simpa[iD] using this
theorem jt(n s:Nat):iD (n+1) s=iD n s++(if s.testBit n then [n] else []):=by
 unfold iD;rw[qI,rS];congr 1;by_cases h:s.testBit n=true
 ·rw[if_pos h,qU h];rfl
 ·rw[if_neg h,qV h];rfl
theorem ju{s:Nat} : ∀{n:Nat},(∀j,j<n→s.testBit j=false)→iD n s=[]
 | 0,_=>rfl
 | n+1,h=>by rw[jt,ju (fun j hj=>h j (by omega)),h n (by omega)];rfl
theorem bits_low{x y t:Nat}(h1:∀j,j<t→x.testBit j=false)(h2:x.testBit t=true)(h3:∀j,j≤t→y.testBit j=false)(h4:∀j,t<j→y.testBit j=x.testBit j):∀n,t<n→iD n x=t::iD n y
 | 0,h=>by omega
 | n+1,h=>by
  rw[jt,jt];by_cases hn:n=t
  ·subst hn;rw[ju h1,ju (fun j hj=>h3 j (by omega)),h2,h3 n (by omega)];rfl
  ·rw[bits_low h1 h2 h3 h4 n (by omega),h4 n (by omega)];rfl
theorem low_bit:∀x:Nat,0<x→∃t m,x=2^(t+1)*m+2^t:=by
 intro x
 induction x using rV with
 | _ x ih =>
  intro h
  rcases Nat.mod_two_eq_zero_or_one x with h2 | h2
  ·obtain⟨t,m,e⟩:=ih (x / 2) (by omega) (by omega);refine⟨t+1,m,?_⟩
   have e1:x=2*(x / 2):=by omega
   rw[e1,e,Nat.mul_add,←Nat.mul_assoc,←Nat.pow_succ',←Nat.pow_succ']
  ·exact⟨0,x / 2,by omega⟩
theorem low_test{t m j:Nat} : (2^(t+1)*m+2^t).testBit j=if j<t+1 then decide (t=j) else m.testBit (j-(t+1)):=by
 rw[Nat.testBit_two_pow_mul_add _ (rN (by omega) (by omega))];split
 ·rw[Nat.testBit_two_pow]
 ·rfl
theorem low_pred{t m j:Nat} : (2^(t+1)*m+2^t-1).testBit j=if j<t+1 then decide (j<t) else m.testBit (j-(t+1)):=by
 have h0:0<2^t:=Nat.two_pow_pos t
 have h1:2^(t+1)*m+2^t-1=2^(t+1)*m+(2^t-1):=by omega
 rw[h1,Nat.testBit_two_pow_mul_add _ (by rw[sP];omega)];split
 ·rw[Nat.testBit_two_pow_sub_one]
 ·rfl
theorem bits_step{x:Nat}(h:0<x)(h2:x<4294967296):∃t,t<32∧x.testBit t=true∧iD 32 x=t::iD 32 (x &&& (x-1))∧x &&& (4294967296-x)=2^t∧x &&& (x-1)<x:=by
 obtain⟨t,m,e⟩:=low_bit x h
 have ht:t<32:=by
  refine Classical.byContradiction fun hn=>?_
  have:2^32≤2^t:=qD (by omega) (by omega);have h5:0≤2^(t+1)*m:=pv _;omega
 have hx:∀j,x.testBit j=if j<t+1 then decide (t=j) else m.testBit (j-(t+1)):=fun j=>by rw[e];exact low_test
 have hy:∀j,(x-1).testBit j=if j<t+1 then decide (j<t) else m.testBit (j-(t+1)):=fun j=>by rw[e];exact low_pred
 have hz:∀j,(x &&& (x-1)).testBit j=if j<t+1 then false else m.testBit (j-(t+1)):=fun j=>by
  rw[Nat.testBit_and,hx,hy];split
  ·by_cases h:t=j
   ·subst h;simp
   ·simp[h]
  ·simp
 refine⟨t,ht,by rw[hx];simp,bits_low (fun j hj=>?_) (by rw[hx];simp) (fun j hj=>?_) (fun j hj=>?_) 32 ht,?_,?_⟩
 ·rw[hx,if_pos (by omega)];simp;omega
 ·rw[hz,if_pos (by omega)]
 ·rw[hz,hx,if_neg (by omega),if_neg (by omega)]
 ·apply Nat.eq_of_testBit_eq;intro j
  have h6:(4294967296-x).testBit j=(decide (j<32)&&!(x-1).testBit j):=by
   have:=Nat.testBit_two_pow_sub_succ (x:=x-1) (n:=32) (by omega) j;rw[show(2:Nat)^32-(x-1+1)=4294967296-x by omega]at this;exact this
  rw[Nat.testBit_and,h6,hx,hy,Nat.testBit_two_pow];by_cases h7:j<t+1
  ·rw[if_pos h7,if_pos h7];by_cases h8:t=j
   ·subst h8;simp[ht]
   ·simp[h8]
  ·rw[if_neg h7,if_neg h7]
   have:¬t=j:=by omega
   cases m.testBit (j-(t+1))<;>simp[this]
 ·have:=Nat.and_le_right (n:=x) (m:=x-1);omega
def zV:Vl:=⟨0,0,pE⟩
def iH(op:Int)(a:Nat):At:=⟨⟨1,(a:Int),zV⟩,op,⟨2,(a:Int),zV⟩⟩
def jF(L:List Nat)(b:Nat):Dn:=⟨2,L.map (iH 1)++[iH 2 b]⟩
theorem atS_eq(x y:Rw)(a:Nat):atS [x,y] (iH 1 a)=true↔vAt x.vals a=vAt y.vals a:=by
 rw[←md];simp[atS,iH,tmV,vAt]
theorem atS_ne(x y:Rw)(a:Nat):atS [x,y] (iH 2 a)=true↔vAt x.vals a≠vAt y.vals a:=by
 rw[Ne,←md];simp[atS,iH,tmV,vAt]
theorem vd_fd{R:List Rw}{L:List Nat}{b:Nat}{x:List Int} : VD R (jF L b) x↔∃r∈R,∃s∈R,r.id≠s.id∧(∀a∈L,vAt r.vals a=vAt s.vals a)∧vAt r.vals b≠vAt s.vals b∧x=srt [r.id,s.id]:=by
 have hall:∀r s,allS (jF L b) [r,s]=true↔(∀a∈L,vAt r.vals a=vAt s.vals a)∧vAt r.vals b≠vAt s.vals b:=fun r s=>by
  unfold allS jF;simp only[List.all_append,List.all_map,pC,pV,qk,List.all_nil,Function.comp,atS_eq,atS_ne,and_true]
 constructor
 ·rintro⟨rs,h1,h2,h3,h4⟩
  obtain⟨r,s,rfl⟩:∃r s,rs=[r,s]:=by
   match rs,h1 with
   | [r,s],_=>exact⟨r,s,rfl⟩
  obtain⟨h5,h6⟩:=(hall r s).1 h3;refine⟨r,h2.1,s,h2.2.2.1,?_,h5,h6,by simpa[dl] using h4⟩;have:=h2.2.2.2.1;simpa[jV] using this
 ·rintro⟨r,hr,s,hs,h1,h2,h3,rfl⟩;exact⟨[r,s],rfl,⟨hr,by simp[jV],hs,by simpa[jV] using h1,trivial⟩,(hall r s).2 ⟨h2,h3⟩,by simp[dl]⟩
def fdP(l r:Nat)(a b:Rw):Bool:=oX a b l&&!oX a b r
theorem fd_mem{R:List Rw}{n l r:Nat}{x:List Int}{L M:List Nat}(hR:R.Pairwise fun r s=>r.id<s.id)(hv:∀w∈R,w.vals.length=n)(hn:n≤32)(hl:l<2^n)(hr:r<2^n)(hL:∀k,k∈L↔l.testBit k=true)(hM:∀k,k∈M↔r.testBit k=true∧l.testBit k=false):
  (∃b∈M,VD R (jF L b) x)↔x∈prL (fdP l r) R:=by
 have hp:(2:Nat)^n≤2^32:=qD (by omega) hn
 have lt:∀s k,s<2^n→s.testBit k=true→k<n:=fun s k hs hk=>by
  refine Classical.byContradiction fun hc=>?_
  have:s<2^k:=pd hs (qD (by omega) (by omega));rw[rC this]at hk;cases hk
 have ag:∀s:Nat,s<2^n→∀a∈R,∀b∈R,(oX a b s=true↔∀k,s.testBit k=true→vAt a.vals k=vAt b.vals k):=fun s hs a ha b hb=>by
  rw[agreeR_iff (by rw[hv a ha,hv b hb]),hv a ha];constructor
  ·intro h k hk;have hkn:=lt s k hs hk;exact h k hkn (by rw[hasB_bit s k (by omega) (by omega)];exact hk)
  ·intro h k hkn hk;rw[hasB_bit s k (by omega) (by omega)]at hk;exact h k hk
 rw[lZ hR];constructor
 ·rintro⟨b,hb,hx⟩;obtain⟨u,hu,w,hw,h1,h2,h3,rfl⟩:=vd_fd.1 hx;obtain⟨hb1,hb2⟩:=(hM b).1 hb
  rcases Int.lt_or_gt_of_ne h1 with h4 | h4
  ·refine⟨u,hu,w,hw,h4,?_,(na h4).1⟩;unfold fdP;rw[pC,ag l hl u hu w hw,pg,←qc,ag r hr u hu w hw];exact⟨fun k hk=>h2 k ((hL k).2 hk),fun h=>h3 (h b hb1)⟩
  ·refine⟨w,hw,u,hu,h4,?_,(na h4).2⟩;unfold fdP;rw[pC,ag l hl w hw u hu,pg,←qc,ag r hr w hw u hu];exact⟨fun k hk=>(h2 k ((hL k).2 hk)).symm,fun h=>h3 (h b hb1).symm⟩
 ·rintro⟨u,hu,w,hw,h1,h2,rfl⟩;unfold fdP at h2;rw[pC,ag l hl u hu w hw,pg,←qc,ag r hr u hu w hw]at h2;obtain⟨h3,h4⟩:=h2;obtain⟨b,hb⟩:=Classical.not_forall.1 h4;obtain⟨hb1,hb2⟩:=Classical.not_imp.1 hb
  have hb3:l.testBit b=false:=by
   rw[←qc]
   exact fun h=>hb2 (h3 b h)
  exact⟨b,(hM b).2 ⟨hb1,hb3⟩,vd_fd.2 ⟨u,hu,w,hw,by omega,fun a ha=>h3 a ((hL a).1 ha),hb2,(na h1).1.symm⟩⟩
def clF(c:Cl)(v:Vl):Bool:=c.any||kq c.x v
def clAt(p:List Cl)(i:Nat):Cl:=p.getD i ⟨true,zV⟩
def leftT(c:Cfd)(r:Rw):Nat→List Int→Bool
 | _,[]=>true
 | i,a::l=>clF (clAt c.p i) (vAt r.vals a.toNat)&&leftT c r (i+1) l
def kv(c:Cfd)(r:Rw):Bool:=leftT c r 0 c.l
def ky(c:Cfd)(r:Rw):Bool:=clF (clAt c.p c.l.length) (vAt r.vals c.r.toNat)
def jW(c:Cfd)(a b:Rw):Bool:=!kq (vAt a.vals c.r.toNat) (vAt b.vals c.r.toNat)&&c.l.all fun k=>kq (vAt a.vals k.toNat) (vAt b.vals k.toNat)
def cfdV(c:Cfd)(R:List Rw):List (List Int):=((R.filter (kv c)).filter fun r=>!ky c r).map (fun r=>[r.id])++prL (jW c) (R.filter (kv c))
def oW(c:Cfd)(r:Rw):Bool:=kv c r&&!ky c r
def pair2F(c:Cfd)(a b:Rw):Bool:=kv c a&&(kv c b&&jW c a b)
theorem mH(c:Cfd)(R:List Rw):cfdV c R=(R.filter (oW c)).map (fun r=>[r.id])++prL (pair2F c) R:=by
 unfold cfdV;rw[lA,List.filter_filter];congr 3;funext r;unfold oW;exact Bool.and_comm _ _
theorem cfdV_edge{c:Cfd}{R:List Rw}{x:List Int}(hR:R.Pairwise fun r s=>r.id<s.id)(h:x∈cfdV c R):EdgL R x:=by
 rw[mH,pz]at h
 rcases h with h | h
 ·obtain⟨r,hr,rfl⟩:=List.mem_map.1 h;refine⟨by simp,by simp,by simp,fun a ha=>?_⟩;simp at ha;subst ha;exact List.mem_map.2 ⟨r,(List.mem_filter.1 hr).1,rfl⟩
 ·exact nj hR h
theorem cfdV_len(c:Cfd)(R:List Rw):(cfdV c R).length≤R.length+R.length*R.length:=by
 rw[mH,pK,pc];have h1:=pY (oW c) R;have h2:=la (P:=pair2F c) R;omega
def kr(a b:Rw):List Int→Int
 | []=>0
 | i::l=>if kC (vAt a.vals i.toNat) (vAt b.vals i.toNat)=0 then kr a b l else kC (vAt a.vals i.toNat) (vAt b.vals i.toNat)
theorem cmpI_rng(x y:Int): -1≤dH x y∧dH x y≤1:=by
 unfold dH;split
 ·omega
 ·split<;>omega
theorem cmpB_rng:∀(a b:List UInt8),-1≤Lib.compareBytes a b∧Lib.compareBytes a b≤1
 | [],[]=>by simp[Lib.compareBytes]
 | [],_::_=>by simp[Lib.compareBytes]
 | _::_,[]=>by simp[Lib.compareBytes]
 | a::xs,b::bs=>by
  rw[Lib.compareBytes];split
  ·omega
  ·split
   ·omega
   ·exact cmpB_rng xs bs
theorem cmpV_rng(x y:Vl): -1≤kC x y∧kC x y≤1:=by
 unfold kC;split
 ·split
  ·exact cmpB_rng _ _
  ·exact cmpI_rng _ _
 ·exact cmpI_rng _ _
theorem oR(a b:Rw):∀l,-1≤kr a b l∧kr a b l≤1
 | []=>by simp[kr]
 | i::l=>by
  rw[kr];split
  ·exact oR a b l
  ·exact cmpV_rng _ _
def kindO(d:Od)(a b:Rw):Int:=if kr a b d.l=0∧¬kr a b d.r=0 then 1 else if kr a b d.l*kr a b d.r<0 then 2 else 0
def odP(d:Od)(a b:Rw):Bool:=!decide (kindO d a b=0)
end
end Go.Proofs.YtjogkbekekdkjaaGreatDoor
namespace Go.Proofs.YtjogkbekekdkjaaGreatDoor
section
open Go Go.AM Go.RowKit Go.Lib Go.Sort
theorem nanK64(x:Int)(W:World):Calls Tryz.prog 139 #[.int .i64 x] W fun e w'=>e = .returned (.bool false)∧w'=W:=by
 go_enter Tryz.func139,Tryz.ntmps139
 go_wp2
 go_ret
 exact⟨rfl,rfl⟩
theorem cmpK64(x y:Int)(W:World):Calls Tryz.prog 198 #[.int .i64 x,.int .i64 y] W fun e w'=>e = .returned (.int .i64 (dH x y))∧w'=W:=by
 have h1:=nanK64 x W;have h2:=nanK64 y W;by_cases c1:x<y
 ·rw[show dH x y = -1 by unfold dH;rw[if_pos c1]]
  go_enter Tryz.func198,Tryz.ntmps198
  go_wp2_with (go_at_call 139;first | (refine h1.mono ?_;rintro e w' ⟨rfl,rfl⟩) | (refine h2.mono ?_;rintro e w' ⟨rfl,rfl⟩))
  go_ret
  exact⟨rfl,rfl⟩
 ·by_cases c2:y<x
  ·rw[show dH x y=1 by unfold dH;rw[if_neg c1,if_pos c2]];have c3:x > y:=c2
   go_enter Tryz.func198,Tryz.ntmps198
   go_wp2_with (go_at_call 139;first | (refine h1.mono ?_;rintro e w' ⟨rfl,rfl⟩) | (refine h2.mono ?_;rintro e w' ⟨rfl,rfl⟩))
   go_ret
   exact⟨rfl,rfl⟩
  ·rw[show dH x y=0 by unfold dH;rw[if_neg c1,if_neg c2]];have c3:¬x > y:=c2
   go_enter Tryz.func198,Tryz.ntmps198
   go_wp2_with (go_at_call 139;first | (refine h1.mono ?_;rintro e w' ⟨rfl,rfl⟩) | (refine h2.mono ?_;rintro e w' ⟨rfl,rfl⟩))
   go_ret
   exact⟨rfl,rfl⟩
def AtI(w:World)(A:Option Addr)(l:List Int):Prop:=∀(i:Nat) (h:i<l.length),∃b o,A=some ⟨b,o,none⟩∧b<w.heap.size∧w.cell? ⟨b,o+i,none⟩=some (.int .i64 l[i])
theorem AtI.grown{w:World}{A:Option Addr}{l:List Int}(h:AtI w A l)(q:Nat)(os:Array Obj):AtI (grow (w.drewN q) os) A l:=fun i hi=>by
 obtain⟨b,o,h1,h2,h3⟩:=h i hi;refine⟨b,o,h1,?_,?_⟩
 ·rw[size_grow];exact pd h2 (Nat.le_add_right _ _)
 ·rw[cell?_grow _ _ _ (by exact h2)];exact h3
def GW(W w:World):Prop:=∃q os,w=grow (W.drewN q) os
theorem GW.refl(W:World):GW W W:=⟨0,#[],by rw[grow_empty];rfl⟩
theorem GW.at{W w:World}(h:GW W w){A:Option Addr}{l:List Int}(g:AtI W A l):AtI w A l:=by
 obtain⟨q,os,rfl⟩:=h;exact g.grown q os
theorem compareIK(a b:List Int)(A B:Option Addr)(ca cb:Nat)(W:World)(hA:AtI W A a)(hB:AtI W B b)(ha:a.length≤1000000)(hb:b.length≤1000000):
  Calls Tryz.prog 137 #[.slice A a.length ca,.slice B b.length cb] W fun e w'=>e = .returned (.int .i64 (iX a b))∧∃q os',w'=grow (W.drewN q) os':=by
 have hc:=fun x y W=>cmpK64 x y W
 obtain⟨r,hr⟩:∃r,r=iX a b:=⟨_,rfl⟩;rw[←hr]
 go_enter Tryz.func137,Tryz.ntmps137
 go_wp2
 go_loopg [11] a.length (fun g s11 wr=>∃(i:Nat),s11 = .int .i64 i∧i≤a.length∧i≤b.length∧a.length-i≤g∧Aside (GW W wr)∧iX (a.drop i) (b.drop i)=r)
 case atStart=>exact⟨0,rfl,by omega,by omega,by omega,GW.refl W,by rw[pT,pT,hr]⟩
 clear hr
 case round =>
  obtain⟨i,rfl,hi,hi2,hg,hwr,hx⟩:=hrel;by_cases h1:i<a.length
  ·obtain⟨ba,oa,hAe,hba,ca0⟩:=(hwr.out.at hA) i h1;subst hAe;by_cases h2:i<b.length
   ·obtain⟨bb,ob,hBe,hbb,cb0⟩:=(hwr.out.at hB) i h2;subst hBe;rw[pB h1,pB h2,iX]at hx;generalize a[i]=x at ca0 hx;generalize b[i]=y at cb0 hx;obtain⟨z,hz⟩:∃z,z=dH x y:=⟨_,rfl⟩
    have hcc:=fun W=>hc x y W
    rw[←hz]at hx hcc;clear hz hc hA hB;by_cases hq:z=0
    ·rw[if_pos hq]at hx;subst hq
     go_wp2_with (go_at_call 198;refine(hcc _).mono ?_;rintro e w' ⟨rfl,rfl⟩)
     go_roundg (a.length-(i+1))
     case measure=>omega
     case rel=>exact⟨i+1,by go_num,by omega,by omega,pI _,hwr.out,hx⟩
    ·rw[if_neg hq]at hx
     go_wp2_with (go_at_call 198;refine(hcc _).mono ?_;rintro e w' ⟨rfl,rfl⟩)
     go_ret
     exact⟨by first | rfl | (rw[hx];rfl),hwr.out⟩
   ·rw[pB h1,pF (show b.length≤i by omega),iX]at hx
    have h2':¬(i:Int)<b.length:=by omega
    go_wp2_with fail
    go_ret
    exact⟨by first | rfl | (rw[hx];rfl),hwr.out⟩
  ·rw[pF (show a.length≤i by omega)]at hx;by_cases h2:a.length<b.length
   ·rw[pB (show i<b.length by omega),iX]at hx
    go_wp2_with fail
    go_ret
    exact⟨by rw[hx];rfl,hwr.out⟩
   ·rw[pF (show b.length≤i by omega),iX]at hx
    go_wp2_with fail
    go_ret
    exact⟨by rw[hx];rfl,hwr.out⟩
theorem putRow_id{α:Type} [Inhabited α] (enc:α→Value)(w:World)(blk off:Nat)(d:Array α):putRow enc w blk off d=putRow id w blk off (d.map enc):=by
 unfold putRow
 refine mapBlock_congr _ _ _ _ fun c _ _ _=>?_
 apply Array.ext_getElem?;intro k;simp only[putCells,Array.getElem?_mapIdx,Array.size_map]
 cases c[k]? with
 | none=>rfl
 | some y =>
  simp only[pm];by_cases h:off≤k∧k<off+d.size
  ·rw[if_pos h,if_pos h]
   have hk:k-off<d.size:=by omega
   rw[getElem!_pos d (k-off) hk,getElem!_pos (d.map enc) (k-off) (by simpa using hk)];simp
  ·rw[if_neg h,if_neg h]
theorem row_turned{s:AM.St}(hg:AM.Good s){k e z:Nat}{xs ys:List V}(hk:s.H[k]?=some (.buf e z xs false))(hκ:s.κ k≠0)(F:Array Value)(n:Nat)(os:Array Obj)(hl:ys.length=xs.length)(hF:F.size=xs.length*z)
  (hy:∀y∈ys,y.cells.length=z∧∀c∈y.cells,c.one=true) (hr:∀i y j c,ys[i]?=some y→y.cells[j]?=some c→Rel s c F[i*z+j]!) (W:World) (hW:W=grow (putRow id (Go.Sort.ahead s.w n) (s.φ k) 0 F) os):
  AM.Good (s.setB W k (.buf e z ys false))∧AM.Step s (s.setB W k (.buf e z ys false)):=by
 have hlk:=lvB hk hκ;have hlt:=(hg.lt k hlk).1;obtain⟨vs,h1,h2,h3,h4,h5,h6⟩:=hg.blk k _ hk;have hb:=h1 hκ
 have ho:∀b,b<s.w.heap.size→b≠s.φ k→W.heap[b]?=s.w.heap[b]?:=fun b hb' hne=>by
  subst hW;rw[heap_grow_old _ _ (by rw[Go.Proofs.size_putRow];exact hb')];simp only[putRow,mapBlock,Go.Sort.ahead,Array.getElem?_modify,if_neg (Ne.symm hne)]
 have hbk:W.heap[s.φ k]?=some (.cells (putCells id 0 F vs) e (0,0)):=by
  subst hW;rw[heap_grow_old _ _ (by rw[Go.Proofs.size_putRow];exact hlt)];simp[putRow,mapBlock,Go.Sort.ahead,Array.getElem?_modify,hb,onCells]
 have hsz:s.w.heap.size≤W.heap.size:=by
  subst hW;rw[size_grow,Go.Proofs.size_putRow];exact Nat.le_add_right _ _
 have ha:B.alike (.buf e z xs false) (.buf e z ys false):=⟨rfl,rfl,hl.symm,rfl,rfl⟩
 have e1:W.os=s.w.os:=by subst hW;rfl
 have e2:W.tape=s.w.tape:=by subst hW;rfl
 have e3:W.output=s.w.output:=by subst hW;rfl
 clear hW;have hst:=bF (w:=W) hg hk hlk ha e1 e2 e3 hsz ho;refine⟨bP hg hk hlk ha e1 e2 e3 hsz ho (fun _=>?_),hst⟩;refine⟨putCells id 0 F vs,fun _=>hbk,by simp only[putCells,Array.size_mapIdx];exact h2,by rw[hl];exact h3,h4,hy,fun i x j c u hi hj hu=>?_⟩;have hil:=aB hi;have hjl:=aB hj;rw[(hy x (oz hi)).1]at hjl
 have hlt2:i*z+j<F.size:=by
  rw[hF];have:=pN z (show i+1≤xs.length by omega);rw[pf,Nat.one_mul]at this;omega
 have hu2:u=F[i*z+j]!:=by
  simp only[putCells,Array.getElem?_mapIdx]at hu
  cases hv:vs[i*z+j]? with
  | none=>rw[hv]at hu;cases hu
  | some v =>
   rw[hv,pm,if_pos ⟨by omega,by omega⟩,ru]at hu;exact(Option.some.inj hu).symm
 rw[hu2];exact(hr i x j c hi hj).step hst
end
end Go.Proofs.YtjogkbekekdkjaaGreatDoor
namespace Go.Proofs.YtjogkbekekdkjaaGreatDoor
section
open Go Go.Shelf
def renI:Go.Shelf.Ren:=⟨fun n=>match n with
  | 6=>136
  | 14=>197
  | 15=>105
  | 20=>246
  | 21=>247
  | 22=>248
  | 23=>249
  | 24=>250
  | 25=>251
  | 26=>252
  | 27=>253
  | 28=>167
  | 29=>168
  | 46=>272
  | 47=>218
  | 48=>219
  | 49=>273
  | 50=>274
  | 57=>286
  | n=>n,fun n=>match n with
  | 0=>0
  | 3=>3
  | 4=>4
  | 5=>5
  | 9=>9
  | 22=>122
  | 24=>34
  | 25=>239
  | 39=>172
  | 45=>254
  | 46=>255
  | 50=>127
  | 53=>45
  | 55=>262
  | 66=>301
  | 70=>305
  | 76=>333
  | 77=>334
  | n=>n,fun n=>n⟩
theorem layI:Go.Proofs.SlLaysF0.n6 Tryz.prog renI:={
 mixed:=by kernel_rfl
 f6:=⟨Tryz.f136.name,by decide,Tryz.func136.trans (congrArg some (by kernel_rfl))⟩
 f14:=⟨Tryz.f197.name,by decide,Tryz.func197.trans (congrArg some (by kernel_rfl))⟩
 f15:=Tryz.func105.trans (congrArg some (by kernel_rfl))
 f20:=⟨Tryz.f246.name,by decide,Tryz.func246.trans (congrArg some (by kernel_rfl))⟩
 f21:=⟨Tryz.f247.name,by decide,Tryz.func247.trans (congrArg some (by kernel_rfl))⟩
 f22:=⟨Tryz.f248.name,by decide,Tryz.func248.trans (congrArg some (by kernel_rfl))⟩
 f23:=⟨Tryz.f249.name,by decide,Tryz.func249.trans (congrArg some (by kernel_rfl))⟩
 f24:=⟨Tryz.f250.name,by decide,Tryz.func250.trans (congrArg some (by kernel_rfl))⟩
 f25:=⟨Tryz.f251.name,by decide,Tryz.func251.trans (congrArg some (by kernel_rfl))⟩
 f26:=⟨Tryz.f252.name,by decide,Tryz.func252.trans (congrArg some (by kernel_rfl))⟩
 f27:=⟨Tryz.f253.name,by decide,Tryz.func253.trans (congrArg some (by kernel_rfl))⟩
 f28:=Tryz.func167.trans (congrArg some (by kernel_rfl))
 f29:=Tryz.func168.trans (congrArg some (by kernel_rfl))
 f46:=⟨Tryz.f272.name,by decide,Tryz.func272.trans (congrArg some (by kernel_rfl))⟩
 f47:=Tryz.func218.trans (congrArg some (by kernel_rfl))
 f48:=Tryz.func219.trans (congrArg some (by kernel_rfl))
 f49:=⟨Tryz.f273.name,by decide,Tryz.func273.trans (congrArg some (by kernel_rfl))⟩
 f50:=⟨Tryz.f274.name,by decide,Tryz.func274.trans (congrArg some (by kernel_rfl))⟩
 f57:=⟨Tryz.f286.name,by decide,Tryz.func286.trans (congrArg some (by kernel_rfl))⟩
 t0:=Tryz.underlying0
 a0:=Tryz.isAgg0
 z0:=Tryz.sizeOf0
 v0:=Tryz.zeroValue0
 t3:=Tryz.underlying3
 a3:=Tryz.isAgg3
 z3:=Tryz.sizeOf3
 v3:=Tryz.zeroValue3
 t4:=Tryz.underlying4
 a4:=Tryz.isAgg4
 z4:=Tryz.sizeOf4
 v4:=Tryz.zeroValue4
 t5:=Tryz.underlying5
 a5:=Tryz.isAgg5
 z5:=Tryz.sizeOf5
 v5:=Tryz.zeroValue5
 t9:=Tryz.underlying9
 a9:=Tryz.isAgg9
 z9:=Tryz.sizeOf9
 v9:=Tryz.zeroValue9
 t22:=Tryz.underlying122
 a22:=Tryz.isAgg122
 z22:=Tryz.sizeOf122
 v22:=Tryz.zeroValue122
 t25:=Tryz.underlying239
 a25:=Tryz.isAgg239
 z25:=Tryz.sizeOf239
 v25:=Tryz.zeroValue239
 t39:=Tryz.underlying172
 a39:=Tryz.isAgg172
 z39:=Tryz.sizeOf172
 v39:=Tryz.zeroValue172
 t45:=Tryz.underlying254
 a45:=Tryz.isAgg254
 z45:=Tryz.sizeOf254
 v45:=Tryz.zeroValue254
 t46:=Tryz.underlying255
 a46:=Tryz.isAgg255
 z46:=Tryz.sizeOf255
 v46:=Tryz.zeroValue255
 t50:=Tryz.underlying127
 a50:=Tryz.isAgg127
 z50:=Tryz.sizeOf127
 v50:=Tryz.zeroValue127
 t53:=Tryz.underlying45
 a53:=Tryz.isAgg45
 z53:=Tryz.sizeOf45
 v53:=Tryz.zeroValue45
 t55:=Tryz.underlying262
 a55:=Tryz.isAgg262
 z55:=Tryz.sizeOf262
 v55:=Tryz.zeroValue262
 t66:=Tryz.underlying301
 a66:=Tryz.isAgg301
 z66:=Tryz.sizeOf301
 v66:=Tryz.zeroValue301
 t70:=Tryz.underlying305
 a70:=Tryz.isAgg305
 z70:=Tryz.sizeOf305
 v70:=Tryz.zeroValue305
 t76:=Tryz.underlying333
 a76:=Tryz.isAgg333
 z76:=Tryz.sizeOf333
 v76:=Tryz.zeroValue333
 t77:=Tryz.underlying334
 a77:=Tryz.isAgg334
 z77:=Tryz.sizeOf334
 v77:=Tryz.zeroValue334 }
end
end Go.Proofs.YtjogkbekekdkjaaGreatDoor
namespace Go.Proofs.YtjogkbekekdkjaaGreatDoor
section
open Go Go.AM Go.RowKit Go.Lib Go.Sort
def gy(ls:List (List Int)):List (List Int):=ls.mergeSort fun x y=>!(ltOf iX) y x
theorem iP(l:List (List Int)):(gy l).Perm l:=List.mergeSort_perm _ _
theorem jC(l:List (List Int)):(gy l).length=l.length:=(iP l).length_eq
theorem swoI:SWO (ltOf iX) where
 irrefl x:=by unfold ltOf;exact decide_eq_false (cmpL_irr x)
 trans x y z h g:=by unfold ltOf at *;exact decide_eq_true (lH _ _ _ (of_decide_eq_true h) (of_decide_eq_true g))
 ntrans x y z h g:=by unfold ltOf at *;exact decide_eq_false (mv (of_decide_eq_false h) (of_decide_eq_false g))
theorem totI(x y:List Int)(h:ltOf iX x y=false)(g:ltOf iX y x=false):x=y:=by
 unfold ltOf at *
 rcases cmpL_tri x y with h1 | h1 | h1
 ·exact absurd h1 (of_decide_eq_false h)
 ·exact h1
 ·exact absurd h1 (of_decide_eq_false g)
theorem sortLi_sorted(l:List (List Int)):(gy l).Pairwise fun x y=>¬iX y x<0:=by
 have:=List.pairwise_mergeSort (le:=fun x y=>!(ltOf iX) y x) (fun a b c h g=>by
  simp only[pg,ltOf,decide_eq_false_iff_not]at *
  exact mv g h) (fun a b=>by
  simp only[pu,pg,ltOf,decide_eq_false_iff_not];by_cases h:iX b a<0
  ·right;intro g;exact cmpL_irr a (lH _ _ _ g h)
  ·exact .inl h) l
 refine this.imp fun {x y} h=>?_
 simpa[ltOf] using h
def AI(s:AM.St)(f:Bool):Type:={ p:List Int×Value // p.1.length≤1000000∧Rel s (L1 f p.1) p.2 }
instance (s:AM.St) (f:Bool):Inhabited (AI s f):=⟨⟨([],.slice none 0 0),by simp,by
 refine .lst 1 f [] none 0 0 0 (fun _ _=>undef) (pI _) (fun _=>rfl) (fun h=>by simp at h) (by simp) (by simp) (by simp)⟩⟩
theorem AI.sl{s:AM.St}{f:Bool}{k e z:Nat}{xs:List V}(hk:s.H[k]?=some (.buf e z xs false))(hκ:s.κ k≠0)(a:AI s f):∃A cap,a.1.2 = .slice A a.1.1.length cap ∧
  ∀(i:Nat) (h:i<a.1.1.length),∃b o,A=some ⟨b,o,none⟩∧b≠s.φ k∧b<s.w.heap.size∧s.w.cell? ⟨b,o+i,none⟩=some (.int .i64 a.1.1[i]):=by
 obtain⟨⟨l,u⟩,hl,hr⟩:=a;simp only at hl hr ⊢;simp only[L1]at hr;generalize hxs:l.map au=ys at hr
 have hyl:ys.length=l.length:=by rw[←hxs];simp
 cases hr with
 | lst _ _ _ A cap b off uf hcap hfull hA hz hcell hrel =>
  refine⟨A,cap,by rw[hyl],fun i hi=>?_⟩;obtain⟨rfl,hP⟩:=hA (by omega)
  have hy:ys[i]?=some (au l[i]):=by rw[←hxs];simp[hi]
  refine⟨b,off,rfl,?_,hP.1,?_⟩
  ·intro he;obtain⟨e',z',xs',hb⟩:=hP.2.2 k (lvB hk hκ) he.symm;rw[hk]at hb;cases hb
  ·have h1:=hcell i _ 0 _ hy rfl;have h2:=hrel i _ 0 _ hy rfl;rw[qz,sS]at h1;generalize uf i 0=u at h1 h2;cases h2;exact h1
def jw{s:AM.St}{f:Bool}(a:AI s f):Value:=a.1.2
def cfAI{s:AM.St}{f:Bool}(a b:AI s f):Int:=iX a.1.1 b.1.1
theorem permIn_map{α β:Type} [Inhabited α] [Inhabited β] (f:α→β){n:Nat}{d d':Array α}(hn:d.size=n)(h:PermIn 0 n d d'):PermIn 0 n (d.map f) (d'.map f):=by
 obtain⟨h1,h2,h3⟩:=h;refine⟨by simp[h1],fun i hi=>?_,?_⟩
 ·rw[getElem!_neg _ _ (by simp;omega),getElem!_neg _ _ (by simp;omega)]
 ·have e1:(d.map f).extract 0 n=(d.extract 0 n).map f:=by simp
  have e2:(d'.map f).extract 0 n=(d'.extract 0 n).map f:=by simp
  rw[e1,e2,Array.toList_map,Array.toList_map];exact h3.map f
theorem sortedIn_map{α β:Type} [Inhabited α] [Inhabited β] (f:α→β){lt:β→β→Bool}{n:Nat}{d:Array α}(hn:d.size=n)(h:SortedIn (fun x y=>lt (f x) (f y)) 0 n d):SortedIn lt 0 n (d.map f):=fun i j h1 h2 h3=>by
 have:=h i j h1 h2 h3
 have hj:j<d.size:=by omega
 have hi:i<d.size:=by omega
 rw[getElem!_pos d j hj,getElem!_pos d i hi]at this;rw[getElem!_pos (d.map f) j (by simpa using hj),getElem!_pos (d.map f) i (by simpa using hi),sK,sK];exact this
theorem layI1:SlLaysF.n6 Tryz.prog renI:={ layI with a24:=Tryz.isAgg34,z24:=Tryz.sizeOf34 }
def LBi(H:List B)(k e:Nat)(f:Bool)(ls:List (List Int)):List B:=H.set k (.buf e 1 (ls.map (L1 f)) false)
theorem sortLi_u{H:List B}{k e:Nat}{f:Bool}(ls:List (List Int))(n:Nat)(hn:ls.length=n)(hk:k<H.length)(hl:n<4611686018427387904)(hls:∀l∈ls,l.length≤1000000):
  aZ Tryz.prog 136 [.buf k 0 n n,.fn 137 []] (LBi H k e f ls) fun r H'=>r = .tup []∧H'=LBi H k e f (gy ls):=by
 subst hn
 have hH:(LBi H k e f ls)[k]?=some (.buf e 1 (ls.map (L1 f)) false):=by unfold LBi;rw[pO hk]
 rw[show LBi H k e f (gy ls)=(LBi H k e f ls).set k (.buf e 1 ((gy ls).map (L1 f)) false) by unfold LBi;rw[qf]];generalize LBi H k e f ls=H at hH;refine⟨⟨Tryz.f136,Tryz.func136,rfl,rfl⟩,fun s vals hA hg hsz hrel=>?_⟩;obtain⟨rfl,hZ⟩:=hA
 obtain⟨u0,u1,rfl⟩:∃u0 u1,vals = #[u0,u1]:=by
  obtain⟨l⟩:=vals
  match l,hsz with
  | [a,b],_=>exact⟨a,b,rfl⟩
 have r0:=hrel 0 _ u0 rfl rfl;have r1:=hrel 1 _ u1 rfl rfl
 cases r1 with
 | fn _ _ us hul _ =>
 obtain rfl:us = #[]:=Array.eq_empty_of_size_eq_zero (by simpa using hul)
 cases r0 with
 | buf _ _ _ _ e2 z2 xs2 fz2 A n c hk2 ht hh =>
 rw[hH]at hk2;cases hk2;obtain⟨hA,rfl,hcap,_⟩:=hh (by simp);rw[qM]at hcap;by_cases h0:ls=[]
 ·subst h0;refine(AnyF.slices_SortFunc_none layI A c _ s.w).mono ?_;rintro e' w' ⟨rfl,rfl⟩;refine⟨_,s,.tup [],rfl,rfl,hg,Step.refl s,.tup [] #[] rfl (by simp),rfl,?_⟩;rw[show gy []=[] by simp[gy]];apply qE;intro i;rw[sH];split
  ·rename_i h;subst h;rw[if_pos (aB hH),hH]
  ·rfl
 ·have hpos:0<ls.length:=List.length_pos_iff.2 h0;obtain⟨vs,g2,g3,g4,g5,g6,g7⟩:=hg.blk k _ hH;rw[pc]at g4
  have hκ:s.κ k≠0:=by omega
  have hA:=hA hκ;subst hA;have g2:=g2 hκ;have hlt:=(hg.lt k (lvB hH hκ)).1
  have hel:∀i (h:i<ls.length),∃u,vs[i]?=some u∧Rel s (L1 f ls[i]) u:=fun i h=>by
   obtain⟨u,hu⟩:∃u,vs[i]?=some u:=⟨_,rU (show i<vs.size by omega)⟩;exact⟨u,hu,g7 i _ 0 _ u (show(ls.map (L1 f))[i]?=some (L1 f ls[i]) by simp[h]) rfl (by simpa using hu)⟩
  obtain⟨d,hds,hdl,hdv⟩:∃d:Array (AI s f),d.size=ls.length∧d.map (fun a=>a.1.1)=ls.toArray∧∀i,i<ls.length→vs[i]?=some (jw d[i]!):=by
   have hx:∀i:Fin ls.length,∃a:AI s f,a.1.1=ls[i]∧vs[i.1]?=some (jw a):=fun i=>by
    obtain⟨u,hu,hr⟩:=hel i.1 i.2;exact⟨⟨(ls[i],u),hls _ (ow _),hr⟩,rfl,hu⟩
   refine⟨Array.ofFn fun i=>Classical.choose (hx i),by simp,?_,fun i hi=>?_⟩
   ·apply Array.ext
    ·simp
    ·intro i h1 h2;simp only[sK,Array.getElem_ofFn];have:=(Classical.choose_spec (hx ⟨i,by simpa using h2⟩)).1;rw[this];simp
   ·rw[getElem!_pos _ _ (by simpa using hi),Array.getElem_ofFn];exact(Classical.choose_spec (hx ⟨i,hi⟩)).2
  have hOne:OneCell (jw (s:=s) (f:=f)):=fun a=>by
   obtain⟨A,cap,h1,_⟩:=AI.sl hH hκ a;unfold jw;rw[h1];rfl
  have hHo:Holds (jw:AI s f→Value) s.w (s.φ k) (0*1) d:=by
   intro t ht;rw[hds]at ht;refine⟨?_,?_⟩
   ·simp only[World.cell?,g2,qm,qM];simpa using hdv t ht
   ·simp[World.frozen?,g2]
  have hcmp:CmpLays1 Tryz.prog 137 #[] (jw:AI s f→Value) cfAI (s.φ k) (0*1) d.size s.w:=fun m os dk _ x y=>by
   obtain⟨A,ca,a1,a2⟩:=AI.sl hH hκ x;obtain⟨B,cb,b1,b2⟩:=AI.sl hH hκ y
   have hat:∀(A:Option Addr) (l:List Int),(∀(i:Nat) (h:i<l.length),∃b o,A=some ⟨b,o,none⟩∧b≠s.φ k∧b<s.w.heap.size∧s.w.cell? ⟨b,o+i,none⟩=some (.int .i64 l[i]))→
     AtI (sortWorld (jw:AI s f→Value) s.w (s.φ k) (0*1) m dk os) A l:=fun A l h i hi=>by
    obtain⟨b,o,h1,h2,h3,h4⟩:=h i hi
    have hc:∀t,(sortWorld (jw:AI s f→Value) s.w (s.φ k) (0*1) m dk os).cell? ⟨b,t,none⟩=s.w.cell? ⟨b,t,none⟩:=fun t=>by
     unfold sortWorld;rw[cell?_grow _ _ _ (by rw[Go.Proofs.size_putRow];exact h3),cell?_putRow_other _ _ _ _ _ _ (.inl h2)];rfl
    refine⟨b,o,h1,?_,by rw[hc];exact h4⟩;unfold sortWorld;rw[size_grow,Go.Proofs.size_putRow];exact pd h3 (Nat.le_add_right _ _)
   have:=compareIK x.1.1 y.1.1 A B ca cb (sortWorld (jw:AI s f→Value) s.w (s.φ k) (0*1) m dk os) (hat A _ a2) (hat B _ b2) x.2.1 y.2.1;rw[←a1,←b1]at this;exact this
  have hs:=Any.slices_SortFunc layI1 (jw:AI s f→Value) hOne cfAI ⟨fun x=>swoI.irrefl x.1.1,fun x y z=>swoI.trans x.1.1 y.1.1 z.1.1,fun x y z=>swoI.ntrans x.1.1 y.1.1 z.1.1⟩ 137 #[] (s.φ k) (0*1) c d s.w
   (fun args w=>rfl) hcmp hHo hlt (by rw[hds];simpa using hl)
  rw[hds]at hs;refine hs.mono ?_;rintro e' w' ⟨rfl,d',n,os,hp,hso,hw⟩;have hp2:=permIn_map (fun a:AI s f=>a.1.1) hds hp
  have hd':d'.size=ls.length:=by rw[hp.1];exact hds
  have hso2:=sortedIn_map (lt:=ltOf iX) (fun a:AI s f=>a.1.1) hd' hso;rw[hdl]at hp2;have hu:=sorted_unique_holds swoI totI ls.toArray (d'.map fun a=>a.1.1) (by simpa using hp2) (by simpa using hso2)
  have hys:(gy ls).map (L1 f)=d'.toList.map fun a=>L1 f a.1.1:=by
   have:gy ls=(d'.map fun a=>a.1.1).toList:=by rw[hu];simp[gy]
   rw[this,Array.toList_map,sO];rfl
  have hw2:w'=grow (putRow id (Go.Sort.ahead s.w n) (s.φ k) 0 (d'.map jw)) os:=by
   rw[hw,qm];unfold sortWorld;rw[putRow_id]
  rw[hys]
  obtain⟨f1,f2⟩:=row_turned (ys:=d'.toList.map fun a=>L1 f a.1.1) hg hH hκ (d'.map jw) n os (by simp[hd']) (by simp[hd'])
   (fun y hy=>by obtain⟨c,_,rfl⟩:=List.mem_map.1 hy;exact⟨rfl,by simp[L1,V.cells,V.one]⟩) (fun i y j dd hy hd=>by
    have hil:=aB hy;simp only[pc,qS]at hil
    have hj:j=0:=by
     rw[pj,qL,rU hil,pm]at hy;cases hy;have:=aB hd;simp[L1,V.cells]at this;omega
    subst hj;rw[pj,qL,rU hil,pm]at hy;cases hy
    have:dd=L1 f d'[i].1.1:=by simpa[L1,V.cells] using hd.symm
    subst this;rw[sS,qz,getElem!_pos _ _ (by simpa using hil),sK]
    exact d'[i].2.2) w' hw2
  exact⟨_,_,.tup [],rfl,rfl,f1,f2,.tup [] #[] rfl (by simp),rfl,rfl⟩
end
end Go.Proofs.YtjogkbekekdkjaaGreatDoor
namespace Go.Proofs.YtjogkbekekdkjaaGreatDoor
section
open Go Go.AM
structure TbC (t:Tb):Prop where
 ids:t.rows.Pairwise fun r s=>r.id<s.id
 pos:∀r∈t.rows,0<r.id
 len:∀r∈t.rows,r.vals.length=t.attrs.length
 val:∀r∈t.rows,r.vals.all ai=true
 wide:t.attrs.length≤16
theorem nc{n:Nat} : ∀{rs:List Rw} {last:Int},bU n last rs=0→(∀r∈rs,last<r.id)∧(rs.Pairwise fun r s=>r.id<s.id)∧(∀r∈rs,r.vals.length=n)∧∀r∈rs,r.vals.all ai=true
 | [],_,_=>by simp
 | r::rs,last,h=>by
  rw[bU]at h;split at h
  ·cases h
  ·rename_i h1;split at h
   ·cases h
   ·rename_i h2;split at h
    ·rename_i h3;obtain⟨a,b,c,d⟩:=nc h;refine⟨fun x hx=>?_,List.pairwise_cons.2 ⟨a,b⟩,fun x hx=>?_,fun x hx=>?_⟩
     ·rcases List.mem_cons.1 hx with rfl | hx
      ·omega
      ·have:=a x hx;omega
     ·rcases List.mem_cons.1 hx with rfl | hx
      ·simpa using h2
      ·exact c x hx
     ·rcases List.mem_cons.1 hx with rfl | hx
      ·exact h3
      ·exact d x hx
    ·cases h
theorem tbC{t:Tb}(h:aQ t=0):TbC t:=by
 unfold aQ at h;split at h
 ·split at h
  ·cases h
  ·rename_i h2;split at h
   ·obtain⟨a,b,c,d⟩:=nc h;exact⟨b,fun r hr=>a r hr,c,d,by omega⟩
   ·cases h
 ·cases h
def diffN(r l:Nat):Nat:=r &&& (4294967295-l)
def kB(l:Nat):List Nat:=iD 32 l
def lF(l r:Nat):List Nat:=(iD 32 r).filter fun b=>!l.testBit b
def fdV(R:List Rw)(l r:Nat):List (List Int):=(lF l r).flatMap fun b=>gy (jL (jF (kB l) b) R 2 [] [])
def cnV(t:Tb)(c:Cn):List (List Int):=
 if c.kind=1 then fdV t.rows c.fd.l c.fd.r else if c.kind=4 then cfdV c.cfd t.rows else if c.kind=5 then prL (odP c.od) t.rows else gy (jL c.dn t.rows c.dn.vars.toNat [] [])
def cnR(t:Tb)(c:Cn):List (List Int):=
 if c.kind=1 then prL (fdP c.fd.l c.fd.r) t.rows else if c.kind=4 then cfdV c.cfd t.rows else if c.kind=5 then prL (odP c.od) t.rows else(asR t.rows c.dn.vars.toNat).foldl (stR c.dn) []
theorem pow16{n:Nat}(h:n≤16):(2:Nat)^n≤65536:=by
 have h1:(2:Nat)^n≤2^16:=qD (by omega) h;omega
theorem fd_lt{n:Nat}{d:Fd}(h:jR n d=true):d.l<2^n∧d.r<2^n:=by
 unfold jR at h
 have h1:(d.l ||| d.r) / 2^n=0:=by simpa using h
 have h2:(d.l ||| d.r)<2^n:=by
  rcases Nat.div_eq_zero_iff.1 h1 with h | h
  ·have:=Nat.two_pow_pos n;omega
  ·exact h
 exact⟨qa Nat.left_le_or h2,qa Nat.right_le_or h2⟩
theorem fdV_mem{t:Tb}(g:TbC t){d:Fd}(h:jR t.attrs.length d=true){x:List Int} : x∈fdV t.rows d.l d.r↔x∈prL (fdP d.l d.r) t.rows:=by
 obtain⟨h1,h2⟩:=fd_lt h;have hp:=pow16 g.wide
 have lt:∀s k,s<2^t.attrs.length→s.testBit k=true→k<32:=fun s k hs hk=>by
  refine Classical.byContradiction fun hc=>?_
  have h16:(2:Nat)^16≤2^k:=qD (by omega) (by omega)
  have:s<2^k:=by omega
  rw[rC this]at hk;cases hk
 rw[←fd_mem (n:=t.attrs.length) (L:=kB d.l) (M:=lF d.l d.r) g.ids g.len (by have:=g.wide;omega) h1 h2 (fun k=>?_) (fun k=>?_)]
 ·unfold fdV;rw[rZ];constructor
  ·rintro⟨b,hb,hx⟩;exact⟨b,hb,vd_prog.1 ((iP _).mem_iff.1 hx)⟩
  ·rintro⟨b,hb,hx⟩;exact⟨b,hb,(iP _).mem_iff.2 (vd_prog.2 hx)⟩
 ·unfold kB;rw[kj];exact⟨fun h=>h.2,fun h=>⟨lt _ _ h1 h,h⟩⟩
 ·unfold lF;rw[qH,kj];constructor
  ·rintro⟨⟨_,h3⟩,h4⟩;exact⟨h3,by simpa using h4⟩
  ·rintro⟨h3,h4⟩;exact⟨⟨lt _ _ h2 h3,h3⟩,by simpa using h4⟩
theorem cn_ok{t:Tb}{c:Cn}(h:eg t c=0):(c.kind=1∧jR t.attrs.length c.fd=true)∨(c.kind=4∧cfB t.attrs.length c.cfd=true)∨(c.kind=5∧odB t.attrs.length c.od=true)∨(c.kind=6∧dnB t.attrs.length c.dn=true):=by
 unfold eg at h;split at h
 ·rename_i h0;rw[pC,pC,decide_eq_true_eq,decide_eq_true_eq]at h0;split at h
  ·cases h
  ·split at h
   ·rename_i h1;split at h
    ·rename_i h2;exact .inl ⟨h1,h2⟩
    ·cases h
   ·split at h
    ·rename_i h1;split at h
     ·rename_i h2;exact .inr (.inl ⟨h1,h2⟩)
     ·cases h
    ·split at h
     ·rename_i h1;split at h
      ·rename_i h2;exact .inr (.inr (.inl ⟨h1,h2⟩))
      ·cases h
     ·split at h
      ·rename_i h2;exact .inr (.inr (.inr ⟨by omega,h2⟩))
      ·cases h
 ·cases h
theorem dn_vars{n:Int}{d:Dn}(h:dnB n d=true):1≤d.vars∧d.vars≤3:=by
 unfold dnB at h;rw[pC,pC,decide_eq_true_eq,decide_eq_true_eq]at h;exact⟨h.1,h.2.1⟩
theorem cn_mem{t:Tb}(g:TbC t){c:Cn}(h:eg t c=0){x:List Int} : x∈cnV t c↔x∈cnR t c:=by
 unfold cnV cnR
 rcases cn_ok h with⟨h1,h2⟩ | ⟨h1,h2⟩ | ⟨h1,h2⟩ | ⟨h1,h2⟩
 ·rw[if_pos h1,if_pos h1];exact fdV_mem g h2
 ·rw[if_neg (by omega),if_pos h1,if_neg (by omega),if_pos h1]
 ·rw[if_neg (by omega),if_neg (by omega),if_pos h1,if_neg (by omega),if_neg (by omega),if_pos h1]
 ·rw[if_neg (by omega),if_neg (by omega),if_neg (by omega),if_neg (by omega),if_neg (by omega),if_neg (by omega),vd_ref,←vd_prog];exact(iP _).mem_iff
theorem cn_edge{t:Tb}(g:TbC t){c:Cn}(h:eg t c=0){x:List Int}(hx:x∈cnR t c):EdgL t.rows x:=by
 unfold cnR at hx
 rcases cn_ok h with⟨h1,h2⟩ | ⟨h1,h2⟩ | ⟨h1,h2⟩ | ⟨h1,h2⟩
 ·rw[if_pos h1]at hx;exact nj g.ids hx
 ·rw[if_neg (by omega),if_pos h1]at hx;exact cfdV_edge g.ids hx
 ·rw[if_neg (by omega),if_neg (by omega),if_pos h1]at hx;exact nj g.ids hx
 ·rw[if_neg (by omega),if_neg (by omega),if_neg (by omega)]at hx;obtain⟨h3,h4⟩:=dn_vars h2;exact(vd_ref.1 hx).edge h3 h4
theorem pow_k{m k:Nat}(h:m≤8)(hk:k≤3):m^k≤512:=by
 have h1:m^k≤8^k:=Nat.pow_le_pow_left h k;have h2:8^k≤8^3:=qD (by omega) hk;omega
theorem sq8{m:Nat}(h:m≤8):m*m≤64:=Nat.mul_le_mul h h
theorem ja{α:Type}{f:α→List (List Int)}{k:Nat} : ∀l:List α,(∀x∈l,(f x).length≤k)→(l.flatMap f).length≤l.length*k
 | [],_=>by simp
 | x::l,h=>by
  rw[sG,pK,pk,Nat.succ_mul];have h1:=h x (pW ..);have h2:=ja l (fun y hy=>h y (pZ _ hy));omega
theorem cnV_len{t:Tb}(hr:t.rows.length≤8){c:Cn}(h:eg t c=0):(cnV t c).length≤4000:=by
 unfold cnV
 rcases cn_ok h with⟨h1,h2⟩ | ⟨h1,h2⟩ | ⟨h1,h2⟩ | ⟨h1,h2⟩
 ·rw[if_pos h1]
  have h3:=ja (f:=fun b=>gy (jL (jF (kB c.fd.l) b) t.rows 2 [] [])) (k:=64) (lF c.fd.l c.fd.r) (fun b _=>by
   rw[jC];have:=kE (d:=jF (kB c.fd.l) b) (R:=t.rows) 2 [] [];rw[Nat.pow_two]at this;have h5:=sq8 hr;simp only[qn]at this
   omega)
  have h4:(lF c.fd.l c.fd.r).length≤32:=ph (pY _ _) (jB _ _);unfold fdV;omega
 ·rw[if_neg (by omega),if_pos h1];have:=cfdV_len c.cfd t.rows;have h5:=sq8 hr;omega
 ·rw[if_neg (by omega),if_neg (by omega),if_pos h1];have:=la (P:=odP c.od) t.rows;have h5:=sq8 hr;omega
 ·rw[if_neg (by omega),if_neg (by omega),if_neg (by omega),jC];obtain⟨h3,h4⟩:=dn_vars h2;have:=kE (d:=c.dn) (R:=t.rows) c.dn.vars.toNat [] [];have h5:=pow_k (k:=c.dn.vars.toNat) hr (by omega);simp only[qn]at this;omega
def mj(all:List (List Int)):List (List Int):=ic (gy (all.filter fun l=>!smK all l))
theorem progE_lex{all:List (List Int)}(hA:∀d∈all,d.Pairwise (· < ·)∧d≠[]∧d.length≤3):LexSet (mj all) (MinM all):=by
 have hs:(gy (all.filter fun l=>!smK all l)).Pairwise fun x y=>go y x=false:=(sortLi_sorted _).imp (fun {x y} h=>by
  rw[←qc,←jr];exact h)
 have h:=compL_ok hs;refine⟨h.ord,fun e=>?_⟩;show e∈ic _↔_;rw[h.mem,(iP _).mem_iff,qH,←sm_min hA,pg]
theorem min_congr{a b:List (List Int)}(h:∀x,x∈a↔x∈b)(e:List Int):MinM a e↔MinM b e:=by
 unfold MinM;rw[h e];exact⟨fun⟨h1,h2⟩=>⟨h1,fun d hd=>h2 d ((h d).2 hd)⟩,fun⟨h1,h2⟩=>⟨h1,fun d hd=>h2 d ((h d).1 hd)⟩⟩
def allV(t:Tb)(cs:List Cn):List (List Int):=cs.flatMap (cnV t)
def gx(t:Tb)(cs:List Cn):List (List Int):=cs.flatMap (cnR t)
theorem all_mem{t:Tb}(g:TbC t){cs:List Cn}(h:∀c∈cs,eg t c=0){x:List Int} : x∈allV t cs↔x∈gx t cs:=by
 unfold allV gx;rw[rZ,rZ];exact⟨fun⟨c,h1,h2⟩=>⟨c,h1,(cn_mem g (h c h1)).1 h2⟩,fun⟨c,h1,h2⟩=>⟨c,h1,(cn_mem g (h c h1)).2 h2⟩⟩
theorem iY{t:Tb}(g:TbC t){cs:List Cn}(h:∀c∈cs,eg t c=0){x:List Int}(hx:x∈gx t cs):EdgL t.rows x:=by
 obtain⟨c,h1,h2⟩:=List.mem_flatMap.1 hx;exact cn_edge g (h c h1) h2
theorem oJ{t:Tb}(g:TbC t){cs:List Cn}(h:∀c∈cs,eg t c=0):mj (allV t cs)=gj (gx t cs):=by
 have hm:∀x,x∈allV t cs↔x∈gx t cs:=fun x=>all_mem g h
 have hE:∀d∈gx t cs,EdgL t.rows d:=fun d hd=>iY g h hd
 exact(progE_lex fun d hd=>⟨(hE d ((hm d).1 hd)).1,(hE d ((hm d).1 hd)).2.1,(hE d ((hm d).1 hd)).2.2.1⟩).eq (io fun e he=>(hE e he).1) (min_congr hm)
def iW(t:Tb):List Cn→Int
 | []=>0
 | c::cs=>if eg t c=0 then iW t cs else eg t c
theorem kf{t:Tb} : ∀{cs:List Cn},iW t cs=0→∀c∈cs,eg t c=0
 | [],_,c,hc=>by cases hc
 | c::cs,h,c',hc=>by
  rw[iW]at h;split at h
  ·rename_i h1
   rcases List.mem_cons.1 hc with rfl | hc
   ·exact h1
   ·exact kf h c' hc
  ·rename_i h1;exact absurd h h1
def db(t:Tb)(cs:List Cn):Int:=if aQ t=0 then(if 200<t.rows.length then 3 else iW t cs) else aQ t
end
end Go.Proofs.YtjogkbekekdkjaaGreatDoor
section

end
