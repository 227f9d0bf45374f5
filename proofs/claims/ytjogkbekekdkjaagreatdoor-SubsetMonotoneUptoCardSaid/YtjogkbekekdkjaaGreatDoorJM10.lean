/- JM10: own texts of this seat, joined and shortened by pack4.py: C3, W1, W2, Pl1, Enc, W6, W7, W8, W9, W10, Pl2, W12, W13, W16, W17, K0, T1, T2, T3, T4, T5, Wk. -/
import Derived.Test.YtjogkbekekdkjaaGreatDoorJM6
import Derived.Test.YtjogkbekekdkjaaGreatDoorJM9
import Derived.WalkSpells
import Derived.WalkLawsBesides
import Derived.Lib.Hide
import Derived.Maps.AppendAt
set_option linter.unusedVariables false
set_option linter.unusedSimpArgs false
set_option maxRecDepth 100000
set_option maxHeartbeats 64000000
open Bool renaming true_and→pP,false_eq_true→pQ,false_and→pS,false_or→qX,eq_iff_iff→qo,and_false→rM,and_true→sT,true_or→sX
open ByteArray renaming empty→pE
open List renaming replicate→ou,getElem?_eq_getElem→ov,getElem_mem→ow,mem_of_getElem?→oz,drop_eq_getElem_cons→pB,mem_cons→pD,drop_of_length_le→pF,range→pG,take_succ_eq_append_getElem→pJ,append_nil→pL,drop_zero→pT,take_of_length_le→pX,append_assoc→pb,mem_of_mem_take→pi,length_cons→pk,mem_append→pz,range_succ→qI,mem_of_mem_drop→qJ,all_cons→qk,any_cons→ql,map_take→rK,map_nil→rQ,take→rW
open Nat renaming le_refl→pI,lt_of_lt_of_le→pd,lt_or_ge→px,beq→qC,add_sub_cancel→rd,eq_of_beq_eq_true→rk
open Option renaming getD_some→qt
namespace Go.Proofs.YtjogkbekekdkjaaGreatDoor
section
open Go Go.AM Go.RowKit
theorem mixed:Tryz.prog.follows .mixedOrders=true:=by kernel_rfl
theorem wx{c:Code}{Q:Exit→List V→List B→Prop}{fr:List V}{H:List B}(h:WX T (aI Tryz.prog) (LW Tryz.prog) c Q fr H):W Tryz.prog c Q fr H:=W_x tok mixed h
theorem sPx{f:FuncId}{fn:Func}{c:Code}(hf:Tryz.prog.funcs[f]?=some fn)(hb:fn.body=some c)(hn:(fn.name == "runtime.NumGoroutine")=false){args:List V}{K:V→Prop}(h:WX T (aI Tryz.prog) (LW Tryz.prog) c (retQ T fn.results.toList fun r H=>∃r',Exp H r r'∧AM.Pure r'∧K r') (args++ou (fn.ntmps-args.length) (.tup [])) []):aE Tryz.prog f args K:=bf (aK tok hf hb hn (wx h))
theorem sOx{f:FuncId}{fn:Func}{c:Code}(hf:Tryz.prog.funcs[f]?=some fn)(hb:fn.body=some c)(hn:(fn.name == "runtime.NumGoroutine")=false){args:List V}{K:Nat→Nat→List V→Prop}(h:WX T (aI Tryz.prog) (LW Tryz.prog) c (retQ T fn.results.toList fun r H=>∃k e z xs,r = .buf k 0 xs.length xs.length∧H[k]?=some (.buf e z xs false)∧(∀x∈xs,AM.Pure x)∧K e z xs) (args++ou (fn.ntmps-args.length) (.tup [])) []):fQ Tryz.prog f args K:=conO_of_conH (aK tok hf hb hn (wx h))
theorem tkf(n:Nat):TOk Tryz.prog (bo T fun t=>t == n):=tok_flag tok _
def ext:aU:=fun f args H=>match f,args with
 | 235,[.int .u32 x]=>some (.int .i64 (tzI x),H)
 | 287,[.str a,.str b]=>some (.int .i64 (cmpS a b),H)
 | _,_=>none
theorem gq:aL Tryz.prog ext:=fun f args H r H' h=>by
 unfold ext at h;split at h
 ·cases h;rename_i x;have:=aW (H:=H) (tz_con x) (by simp);simpa only[aI,pL] using this
 ·cases h;rename_i a b;have:=aW (H:=H) (cmp_con a b) (by simp);simpa only[aI,pL] using this
 ·cases h
theorem allNamed:(Tryz.prog.funcs.toList.all fun fn=>!(fn.name == "runtime.NumGoroutine"))=true:=by kernel_rfl
theorem aN:∀(f:Nat) (fn:Func),Tryz.prog.funcs[f]?=some fn→(fn.name == "runtime.NumGoroutine")=false:=fun f fn h=>by
 have:=List.all_eq_true.1 allNamed fn (by rw[Array.mem_toList_iff];exact Array.mem_of_getElem? h);simpa using this
def buf1(H:List B):List V→List V→Option (Nat×Nat×Nat×List V)
 | a::as',b::bs=>if eqV 40 a b=true then buf1 H as' bs else match a with
  | .buf k 0 n m=>match H[k]? with
   | some (.buf e z xs _)=>if n=xs.length∧m=xs.length∧eqV 40 (.lst z false xs) b=true∧eqL (eqV 40) as' bs=true then some (k,e,z,xs) else none
   | _=>none
  | _=>none
 | _,_=>none
theorem repF_refl(p q:V):∀xs:List V,fP p q xs xs
 | []=>trivial
 | _::xs=>⟨.inl rfl,repF_refl p q xs⟩
theorem buf1_ok{H:List B} : ∀{args ga:List V} {k e z:Nat} {xs:List V},buf1 H args ga=some (k,e,z,xs)→(∃fz,H[k]?=some (.buf e z xs fz))∧fP (.buf k 0 xs.length xs.length) (.lst z false xs) args ga
 | [],_,_,_,_,_,h=>by simp[buf1]at h
 | _::_,[],_,_,_,_,h=>by simp[buf1]at h
 | a::as',b::bs,k,e,z,xs,h=>by
  unfold buf1 at h;split at h
  ·rename_i he;obtain⟨h1,h2⟩:=buf1_ok h;exact⟨h1,.inl (bc _ _ _ he).symm,h2⟩
  ·split at h
   ·rename_i k' n m;split at h
    ·rename_i e' z' xs' fz hk;split at h
     ·rename_i hc;obtain⟨rfl,rfl,h3,h4⟩:=hc;cases h;refine⟨⟨fz,hk⟩,.inr ⟨rfl,(bc _ _ _ h3).symm⟩,?_⟩;rw[bt (bc 40) h4];exact repF_refl _ _ _
     ·cases h
    ·cases h
   ·cases h
def lx(g:FuncId)(ga:List V)(gr:V)(ext:aU):aU:=fun f args H=>if qC f g then(if eqL (eqV 40) args ga then some (gr,H) else match buf1 H args ga with
 | some _=>some (gr,H)
 | none=>ext f args H) else ext f args H
theorem pure_of_lst{z:Nat}{f:Bool}{xs:List V}(h:AM.Pure (.lst z f xs)):∀x∈xs,AM.Pure x:=by cases h;assumption
theorem bB{ext:aU}(he:aL Tryz.prog ext){g:FuncId}{ga:List V}{gr:V}(hc:aE Tryz.prog g ga fun x=>x=gr)(hq:∀a∈ga,AM.Pure a)(hs:Scalar gr):aL Tryz.prog (lx g ga gr ext):=fun f args H r H' h=>by
 unfold lx at h;split at h
 ·rename_i hf;have hfg:f=g:=rk hf;subst hfg;split at h
  ·rename_i ha;have ha:=bt (bc 40) ha;cases h;subst ha;have:=aW (H:=H) hc hq;simpa only[aI,pL] using this
  ·split at h
   ·rename_i o ho;obtain⟨k,e,z,xs⟩:=o;cases h;obtain⟨⟨fz,hk⟩,hr⟩:=buf1_ok ho
    have:=callX (H:=H) (args:=args) hc hr.len (fun i a a' h1 h2=>by
     have hp:=hq a' (oz h2)
     rcases hr.at_ i a a' h1 h2 with rfl | ⟨rfl,rfl⟩
     ·exact .pure _ hp
     ·exact lz hk rfl (pure_of_lst hp)) hs
    simpa only[aI,pL] using this
   ·exact he f args H r H' h
 ·exact he f args H r H' h
end
end Go.Proofs.YtjogkbekekdkjaaGreatDoor
namespace Go.Proofs.YtjogkbekekdkjaaGreatDoor
section
open Go Go.AM
def au(n:Int):V:=.int .i64 n
def L1(f:Bool)(xs:List Int):V:=.lst 1 f (xs.map au)
@[simp] theorem encI_pure (n:Int):AM.Pure (au n):=by simp[au]
@[simp] theorem L1_pure (f:Bool) (xs:List Int):AM.Pure (L1 f xs):=by simp[L1,au]
theorem wrap64{n:Int}(h1 : -9223372036854775808≤n)(h2:n<9223372036854775808):IntKind.i64.wrap n=n:=by rw[IntKind.wrap_i64];omega
theorem aa(i:Nat)(h:i<9223372036854775807):IntKind.i64.wrap ((i:Int)+1)=((i+1:Nat):Int):=by rw[wrap64 (by omega) (by omega)];rfl
def iI(xs:List Int)(x:Int):Bool:=xs.contains x
theorem memB_cons(y x:Int)(xs:List Int):iI (y::xs) x=(x == y||iI xs x):=by simp only[iI,List.contains_cons]
theorem memB_nil(x:Int):iI [] x=false:=rfl
theorem gh{xs:List Int}{x:Int} : iI xs x=true↔x∈xs:=by simp[iI]
def nR(xs:List Int)(i:Nat):Bool:=if h:i<xs.length then(if xs[i]≤xs[i-1] then false else nR xs (i+1)) else true
termination_by xs.length-i
def asc(xs:List Int):Bool:=nR xs 1
theorem has03(xs:List Int)(x:Int)(f:Bool)(hl:xs.length≤1000000):aE Tryz.prog 66 [L1 f xs,.int .i64 x] fun r=>r = .bool (iI xs x):=by
 refine sPx Tryz.func66 rfl rfl ?_;simp -dsimp[Tryz.f66,ou];refine aR (W_loopG [4,5,6,7,8,9,10,11,12,13,14,15,16,17] (σ:=Nat) (fun i=>iI (xs.drop i) x=iI xs x) (fun i=>xs.length-i) (fun i=>[(5,.int .i64 i)]) (fun _=>[]) 0 rfl (by simp) rfl (by simp) ?_);intro i hx;by_cases hb:i<xs.length
 ·rw[pB hb,memB_cons]at hx;by_cases hq:xs[i]=x
  ·refine wx ?_;simp -dsimp[L1,au,hb,hq];rw[hq]at hx;simpa using hx.symm
  ·have hq2:(x == xs[i])=false:=by simpa using fun h:x=xs[i]=>hq h.symm
   rw[hq2,qX]at hx;refine wx ?_;simp -dsimp[L1,au,hb,hq,aa i (by omega)];refine bN ?_;refine⟨i+1,hx,by omega,?_,⟨[],rfl⟩,?_,?_⟩<;>simp[L1,au]
 ·rw[pF (by omega),memB_nil]at hx;refine wx ?_;simp -dsimp[hb,L1];exact hx.symm
def je(us bs:List Int):Bool:=us.all fun x=>iI bs x
def go:List Int→List Int→Bool
 | [],[]=>false
 | [],_::_=>true
 | _::_,[]=>false
 | x::xs,y::ys=>if x=y then go xs ys else decide (x<y)
theorem nan_c(x:Int):aE Tryz.prog 139 [.int .i64 x] fun r=>r = .bool false:=by
 refine sPx Tryz.func139 rfl rfl ?_;simp -dsimp[Tryz.f139,ou]
theorem nan_s(x:Int):aE Tryz.prog 82 [.int .i64 x] fun r=>r = .bool false:=by
 refine sPx Tryz.func82 rfl rfl ?_;simp -dsimp[Tryz.f82,ou]
theorem less64(x y:Int):aE Tryz.prog 81 [.int .i64 x,.int .i64 y] fun r=>r = .bool (decide (x<y)):=by
 refine sPx Tryz.func81 rfl rfl ?_;simp -dsimp[Tryz.f81,ou];refine cPx (nan_c x) (by simp) ?_;simp -dsimp[]
def dH(x y:Int):Int:=if x<y then -1 else if y<x then 1 else 0
theorem cmp64(x y:Int):aE Tryz.prog 198 [.int .i64 x,.int .i64 y] fun r=>r = .int .i64 (dH x y):=by
 refine sPx Tryz.func198 rfl rfl ?_;simp -dsimp[Tryz.f198,ou];refine cPx (nan_c x) (by simp) ?_;simp -dsimp[];refine cPx (nan_c y) (by simp) ?_;simp -dsimp[];unfold dH;split
 ·rfl
 ·split<;>rfl
def iX:List Int→List Int→Int
 | [],[]=>0
 | [],_::_=>-1
 | _::_,[]=>1
 | x::xs,y::ys=>if dH x y=0 then iX xs ys else dH x y
def bsI(xs:List Int)(x:Int)(lo hi:Nat):Nat :=
 if h:lo<hi then(if(xs[(lo+hi) / 2]?).getD 0<x then bsI xs x ((lo+hi) / 2+1) hi else bsI xs x lo ((lo+hi) / 2)) else lo
termination_by hi-lo
def bsP(xs:List Int)(x:Int):Nat:=bsI xs x 0 xs.length
def bsF(xs:List Int)(x:Int):Bool:=xs[bsP xs x]? == some x
theorem shr1(lo hi:Nat)(h:lo+hi<2000002):IntKind.i64.wrap ((IntKind.u64.wrap ((lo:Int)+(hi:Int))).fdiv (2^min 1 IntKind.u64.bits))=(((lo+hi) / 2:Nat):Int):=by
 have h2:(2:Int)^min 1 IntKind.u64.bits=2:=by decide
 have h1:IntKind.u64.wrap ((lo:Int)+(hi:Int))=(lo:Int)+(hi:Int):=by rw[IntKind.wrap_u64];omega
 rw[h2,h1,Int.fdiv_eq_ediv_of_nonneg _ (by omega),wrap64 (by omega) (by omega)];omega
theorem bsearch64(xs:List Int)(x:Int)(f:Bool)(hl:xs.length≤1000000):aE Tryz.prog 40 [L1 f xs,.int .i64 x] fun r=>r = .tup [.int .i64 (bsP xs x),.bool (bsF xs x)]:=by
 refine sPx Tryz.func40 rfl rfl ?_;simp -dsimp[Tryz.f40,ou,L1];refine aR (W_loopG [7,8,9,13,14,15,16,17,18,19,20,21,22,23,24,25,26,27,28,29,30] (σ:=Nat×Nat) (fun p=>p.1≤p.2∧p.2≤xs.length∧bsI xs x p.1 p.2=bsP xs x) (fun p=>p.2-p.1) (fun p=>[(7,.int .i64 p.1),(8,.int .i64 p.2)]) (fun _=>[]) (0,xs.length) ⟨by omega,by omega,rfl⟩ (by simp) rfl (by simp) ?_);rintro⟨lo,hi⟩ ⟨h1,h2,hx⟩;simp only at h1 h2 hx;by_cases hb:lo<hi
 ·have hw:IntKind.i64.wrap ((lo:Int)+(hi:Int))=((lo+hi:Nat):Int):=by rw[wrap64 (by omega) (by omega)];rfl
  have hs:=shr1 lo hi (by omega);rw[bsI,dif_pos hb]at hx;obtain⟨m,em⟩:∃m,m=(lo+hi) / 2:=⟨_,rfl⟩;rw[←em]at hs hx
  have hm:m<xs.length:=by omega
  rw[ov hm,qt]at hx;have hc:=less64 xs[m] x;have hs1:=aa m (by omega);by_cases hq:xs[m]<x
  ·rw[if_pos hq]at hx;rw[decide_eq_true hq]at hc;refine wx ?_;simp -dsimp[L1,au,hb,hw,hs,hm];refine cPx (hc) (by simp) ?_;simp -dsimp[hs1];refine bN ?_;refine⟨(m+1,hi),⟨by simp only;omega,h2,hx⟩,by omega,?_,⟨[],rfl⟩,?_,?_⟩<;>simp[L1,au]
  ·rw[if_neg hq]at hx;rw[decide_eq_false hq]at hc;refine wx ?_;simp -dsimp[L1,au,hb,hw,hs,hm];refine cPx (hc) (by simp) ?_;simp -dsimp[];refine bN ?_;refine⟨(lo,m),⟨by simp only;omega,by simp only;omega,hx⟩,by omega,?_,⟨[],rfl⟩,?_,?_⟩<;>simp[L1,au]
 ·rw[bsI,dif_neg hb]at hx;by_cases hn:lo<xs.length
  ·by_cases hq:xs[lo]=x
   ·refine wx ?_;simp -dsimp[L1,au,hb,hn,hq];simp[hx.symm,bsF,hn,hq]
   ·refine wx ?_;simp -dsimp[L1,au,hb,hn,hq];refine cPx (nan_s xs[lo]) (by simp) ?_;simp -dsimp[];simp[hx.symm,bsF,hn,hq]
  ·refine wx ?_;simp -dsimp[L1,au,hb,hn];simp[hx.symm,bsF,hn]
theorem mw(xs:List Int)(i:Nat)(h1:1≤i):nR xs i=true↔∀j,i≤j→∀(h:j<xs.length),xs[j-1]<xs[j]:=by
 fun_induction nR xs i with
 | case1 i h h0=>simp only[pQ,false_iff];intro hh;have:=hh i (pI _) h;omega
 | case2 i h h0 ih =>
  rw[ih (by omega)];constructor
  ·intro hh j hj hl
   rcases px i j with h2 | h2
   ·exact hh j (by omega) hl
   ·obtain rfl:j=i:=by omega
    omega
  ·intro hh j hj hl;exact hh j (by omega) hl
 | case3 i h=>simp only[true_iff];intro j hj hl;omega
theorem lK{xs:List Int}(h:asc xs=true):∀(i j:Nat) (hi:i<xs.length) (hj:j<xs.length),i<j→xs[i]<xs[j]:=by
 have h1:=(mw xs 1 (by omega)).1 h;intro i j hi hj hij
 induction j with
 | zero=>omega
 | succ j ih =>
  have h2:=h1 (j+1) (by omega) hj;simp only[rd]at h2
  rcases px i j with h3 | h3
  ·have:=ih (by omega) h3;omega
  ·obtain rfl:i=j:=by omega
   exact h2
theorem bsI_ok{xs:List Int}(hs:asc xs=true)(x:Int)(lo hi:Nat)(hlh:lo≤hi)(hhl:hi≤xs.length)(h1:∀j (h:j<xs.length),j<lo→xs[j]<x)(h2:∀j (h:j<xs.length),hi≤j→x≤xs[j]):
  (∀j (h:j<xs.length),j<bsI xs x lo hi→xs[j]<x)∧∀j (h:j<xs.length),bsI xs x lo hi≤j→x≤xs[j]:=by
 fun_induction bsI xs x lo hi with
 | case1 lo hi h0 hq ih =>
  have hm:(lo+hi) / 2<xs.length:=by omega
  rw[ov hm,qt]at hq;refine ih (by omega) hhl (fun j h hj=>?_) h2
  rcases px j ((lo+hi) / 2) with h3 | h3
  ·have:=lK hs j _ h hm h3;omega
  ·obtain rfl:j=(lo+hi) / 2:=by omega
   exact hq
 | case2 lo hi h0 hq ih =>
  have hm:(lo+hi) / 2<xs.length:=by omega
  rw[ov hm,qt]at hq;refine ih (by omega) (by omega) h1 (fun j h hj=>?_)
  rcases px ((lo+hi) / 2) j with h3 | h3
  ·have:=lK hs _ j hm h h3;omega
  ·obtain rfl:j=(lo+hi) / 2:=by omega
   omega
 | case3 lo hi h0=>exact⟨fun j h hj=>h1 j h hj,fun j h hj=>h2 j h (by omega)⟩
theorem bsF_mem{xs:List Int}(hs:asc xs=true)(x:Int):bsF xs x=iI xs x:=by
 obtain⟨h1,h2⟩:=bsI_ok hs x 0 xs.length (by omega) (by omega) (fun j h hj=>absurd hj (by omega)) (fun j h hj=>absurd h (by omega));rw[qo,gh];unfold bsF bsP;constructor
 ·intro h;have:=beq_iff_eq.1 h;exact oz this
 ·intro h;obtain⟨j,hj,rfl⟩:=List.mem_iff_getElem.1 h
  have a1:bsI xs xs[j] 0 xs.length≤j:=by
   rcases px j (bsI xs xs[j] 0 xs.length) with h3 | h3
   ·have:=h1 j hj h3;omega
   ·exact h3
  have a2:j≤bsI xs xs[j] 0 xs.length:=by
   rcases px (bsI xs xs[j] 0 xs.length) j with h3 | h3
   ·have h4:=h2 _ (by omega) (pI _);have:=lK hs _ j (by omega) hj h3;omega
   ·exact h3
  rw[show bsI xs xs[j] 0 xs.length=j by omega];simp[hj]
theorem cmpL_lex:∀us bs:List Int,decide (0≤iX us bs)= !go us bs
 | [],[]=>rfl
 | [],_::_=>rfl
 | _::_,[]=>rfl
 | x::xs,y::ys=>by
  have ih:=cmpL_lex xs ys;simp only[iX,go,dH];by_cases h:x=y
  ·subst h;simp[ih]
  ·rcases Int.lt_or_gt_of_ne h with h1 | h1
   ·simp[h,h1]
   ·have h2:¬x<y:=by omega
    simp[h,h1,h2]
def LL(g:Bool)(es:List (List Int)):V:=.lst 1 g (es.map (L1 false))
def encH(f g:Bool)(vs:List Int)(es:List (List Int)):V:=.agg [L1 f vs,LL g es]
@[simp] theorem LL_pure (g:Bool) (es:List (List Int)):AM.Pure (LL g es):=by simp[LL]
@[simp] theorem encH_pure (f g:Bool) (vs:List Int) (es:List (List Int)):AM.Pure (encH f g vs es):=by simp[encH]
def Small(vs:List Int)(es:List (List Int)):Prop:=vs.length≤1000000∧es.length≤1000000∧∀e∈es,e.length≤1000000
@[simp] theorem encI_oneV (n:Int):cq (au n)=true:=rfl
@[simp] theorem L1_oneV (f:Bool) (xs:List Int):cq (L1 f xs)=true:=rfl
def eAt(es:List (List Int))(i:Nat):List Int:=es.getD i []
theorem iw{es:List (List Int)}{i:Nat}(h:i<es.length):eAt es i=es[i]:=by simp[eAt,h]
theorem equal64(us bs:List Int)(f g:Bool)(hl:us.length≤1000000)(hl2:bs.length≤1000000):aE Tryz.prog 35 [L1 f us,L1 g bs] fun r=>r = .bool (decide (us=bs)):=by
 by_cases hn:us.length=bs.length
 ·refine sPx Tryz.func35 rfl rfl ?_;simp -dsimp[Tryz.f35,ou,L1,hn];refine aR (W_loopG [4,5,13,14,15,16,17,18,19,20,21,22,23,24,25] (σ:=Nat) (fun i=>i≤us.length∧us.take i=bs.take i) (fun i=>us.length-i) (fun i=>[(13,.int .i64 i)]) (fun _=>[]) 0 ⟨by omega,by simp⟩ (by simp) rfl (by simp) ?_);rintro i ⟨h1,h2⟩;by_cases hb:i<bs.length
  ·have ha:i<us.length:=by omega
   by_cases hq:us[i]=bs[i]
   ·refine wx ?_;simp -dsimp[L1,au,ha,hb,hq,aa i (by omega)];refine .inr ⟨bN (by kernel_rfl),?_⟩;refine bN ?_;refine⟨i+1,⟨by omega,by rw[pJ ha,pJ hb,h2,hq]⟩,by omega,?_,⟨[],rfl⟩,?_,?_⟩<;>simp[L1,au]
   ·refine wx ?_;simp -dsimp[L1,au,ha,hb,hq];refine .inr ⟨bN (by kernel_rfl),?_⟩;rintro rfl;exact hq rfl
  ·refine wx ?_;simp -dsimp[L1,hb];rw[pX (by omega),pX (by omega)]at h2;exact h2
 ·have hne:¬us=bs:=fun h=>hn (by rw[h])
  refine sPx Tryz.func35 rfl rfl ?_;simp -dsimp[Tryz.f35,ou,L1,hn,show ¬((us.length:Int)=bs.length) by omega];exact hne
def lu(s:Int)(i:Nat):Bool:=IntKind.u32.wrap ↑((s.fdiv (2^min i IntKind.u32.bits) % 2^IntKind.u32.bits).toNat &&& 1 % 2^IntKind.u32.bits)== 1
theorem has02(s:Int)(i:Nat)(hi:i<32):aE Tryz.prog 106 [.int .u32 s,.int .i64 i] fun r=>r = .bool (lu s i):=by
 refine sPx Tryz.func106 rfl rfl ?_;simp -dsimp[Tryz.f106,ou,show(i:Int)<32 by omega];rfl
theorem cap8(n:Nat)(h:n≤1000000000):n≤9223372036854775806∧(n+1)*8≤140737488355328:=by omega
theorem mI(n:Nat)(h:n≤1000000000):n≤9223372036854775806∧(n+1)*24≤140737488355328:=by omega
theorem eJ(n:Nat)(h:n<9223372036854775807):IntKind.i64.wrap (n:Int)=n:=wrap64 (by omega) (by omega)
def dropE(l:List (List Int))(i k:Nat):Bool:=je (eAt l k) (eAt l i)&&(decide ((eAt l k).length<(eAt l i).length)||decide (k<i))
def mW(l:List (List Int))(i:Nat):Nat→Bool
 | 0=>true
 | k+1=>mW l i k&&!dropE l i k
def keepE(l:List (List Int))(i:Nat):Bool:=mW l i l.length
def im(acc:List (List Int))(e:List Int):Nat→Nat
 | 0=>0
 | k+1=>if go e (eAt acc k) then im acc e k else k+1
def insAt(acc:List (List Int))(e:List Int)(k:Nat):List (List Int):=acc.take k++e::acc.drop k
def insE(acc:List (List Int))(e:List Int):List (List Int):=insAt acc e (im acc e acc.length)
def iy(l:List (List Int)):Nat→List (List Int)
 | 0=>[]
 | i+1=>if keepE l i then insE (iy l i) (eAt l i) else iy l i
def gj(l:List (List Int)):List (List Int):=iy l l.length
theorem insE_mem{acc:List (List Int)}{e x:List Int}(h:x∈insE acc e):x=e∨x∈acc:=by
 simp only[insE,insAt,pz,pD]at h
 rcases h with h | h | h
 ·exact .inr (pi h)
 ·exact .inl h
 ·exact .inr (qJ h)
end
end Go.Proofs.YtjogkbekekdkjaaGreatDoor
section
namespace Go.Proofs.YtjogkbekekdkjaaGreatDoor
open Go Go.AM
end Go.Proofs.YtjogkbekekdkjaaGreatDoor
end
namespace Go.Proofs.YtjogkbekekdkjaaGreatDoor
section
open Go Go.AM
def bp(n:Int):V:=.int .u8 n
@[simp] theorem encU_pure (n:Int):AM.Pure (bp n):=by simp[bp]
theorem jJ(xs:List Int):asc xs=true↔xs.Pairwise (· < ·):=by
 rw[List.pairwise_iff_getElem];constructor
 ·intro h i j hi hj hij;exact lK h i j hi hj hij
 ·intro h
  exact(mw xs 1 (by omega)).2 fun j hj hl=>h (j-1) j (by omega) hl (by omega)
end
end Go.Proofs.YtjogkbekekdkjaaGreatDoor
section
namespace Go.Proofs.YtjogkbekekdkjaaGreatDoor
open Go Go.AM
end Go.Proofs.YtjogkbekekdkjaaGreatDoor
end
namespace Go.Proofs.YtjogkbekekdkjaaGreatDoor
section
open Go Go.AM Go.RowKit
theorem infoC2:(Tryz.prog.info? 2).map (fun i=>(i.zero,i.size,i.bytes))=some (some (.int .i64 0),1,8):=by kernel_rfl
theorem cloneE(A:Option Addr)(cap:Nat)(w:World):
  Calls Tryz.prog 15 #[.slice A 0 cap] w fun e w'=>∃v,e = .returned v∧w'.ownsRow w.heap.size 2 1 v 0 []∧Below w.heap.size w w':=by
 have hnil:=fun W A n c=>Lib.run_eql_slice_nil (P:=Tryz.prog) W 34 2 A n c 0 0 Tryz.underlying34
 cases A with
 | none =>
  go_enter Tryz.func15,Tryz.ntmps15
  go_wp2
  go_ret
  exact⟨_,rfl,World.ownsRow_nil _ _ _ _,Below.refl _ _⟩
 | some ad =>
  obtain⟨i0,hi,hz0,hz1,hz2⟩:=info_parts infoC2;have hown:(w.alloc (.cells #[] 2)).ownsRow w.heap.size 2 1 (.slice (some ⟨w.heap.size,0,none⟩) 0 0) 0 []:=World.ownsRow_lit w #[] 0 (pI _) (by simp[maxLen]) (by simp)
  have hnews:∀j u,([]:List Value)[j]?=some u→(w.alloc (.cells #[] 2)).cell? (ad.add j)=some u:=by
   intro j u hu;simp at hu
  have hone:∀u∈([]:List Value),u.oneCell'=true:=by intro u hu;cases hu
  have h63:0+0≤maxLen:=by simp[maxLen]
  have hby:(0+0)*8≤140737488355328:=by omega
  have hlen:([]:List Value).length=0*1:=by simp
  have Hi:=Lib.hid (show Tryz.prog.info? 2=some i0∧i0.zero=some _∧i0.size=1∧i0.bytes=8 from⟨hi,hz0,hz1,hz2⟩);have Hw:=Lib.hid (And.intro hown (And.intro hnews (And.intro hone (And.intro h63 (And.intro hby hlen)))));clear hnews hone hown hi hz0 hz1 hz2 h63 hby hlen
  go_enter Tryz.func15,Tryz.ntmps15
  go_wp2_with (at_builtin;refine wpList_append_own _ rfl _ _ 34 rfl w.heap.size 2 i0 _ 1 8 Tryz.underlying34 Hi.out.1 Hi.out.2.1 Hi.out.2.2.1 Hi.out.2.2.2 rfl (by omega) (.slice (some ⟨w.heap.size,0,none⟩) 0 0) 0 [] rfl Hw.out.1 ad 0 cap [] rfl Hw.out.2.2.2.2.2 Hw.out.2.1 Hw.out.2.2.1 Hw.out.2.2.2.1 Hw.out.2.2.2.2.1 (by simp) ?_;intro v1 w1 ho hg hn;have Ho:=Lib.hid ho;have Hg:=Lib.hid hg;have Hn:=Lib.hid hn;clear ho hg hn)
  go_ret
  exact⟨v1,rfl,by have:=Ho.out;simpa using this,((Below.refl _ _).alloc (pI _) _).grown Hg.out (by simp) (by simp[Value.ownBlock])⟩
theorem conO_own{f:FuncId}{args:List V}{e:Nat}(hE:AM.Enters Tryz.prog f)(h:∀(F:Nat→Prop) (w:World) (vals:Array Value),vals.size=args.length→(∀(i:Nat) a u,args[i]?=some a→vals[i]?=some u→Rel (AM.base F w) a u)→
  Calls Tryz.prog f vals w fun e' w'=>∃v,e' = .returned v∧w'.ownsRow w.heap.size e 1 v 0 []∧Below w.heap.size w w'):fQ Tryz.prog f args fun e' z ys=>e'=e∧z=1∧ys=[]:=by
 refine⟨hE,fun F w vals hZ hF hsz hrel=>(h F w vals hsz hrel).mono fun e' w' ⟨v,he,hown,hb⟩=>?_⟩;obtain⟨_,⟨hv,_⟩ | ⟨g,c,cur,hv,hg,hc,hn,hm,hs,_⟩⟩:=hown
 ·have hF':∀b,F b→b<w'.heap.size:=fun b hb'=>pd (hF b hb') hb.size
  obtain⟨p1,_⟩:=mi (AM.base_good hF') (w:=w') 0 e 1 false rfl rfl rfl (pI _) (fun _ _=>rfl);refine⟨v,e,1,[],none,0,0,he,hv,fun h=>absurd rfl h,by simp,fun h=>absurd rfl h,?_,hb,rfl,rfl,rfl⟩;refine⟨hF',fun k hk=>absurd (hk.2 e 1 [] false (by have:=hk.1;simp at this;subst this;rfl)) (by simp),fun j k hj hk _=>by have:=hj.1;have:=hk.1;simp at *;omega,fun k bl hk=>?_⟩
  have hk0:k=0:=by have:=aB hk;simp at this;omega
  subst hk0;simp at hk;subst hk;exact⟨#[],fun h=>absurd rfl h,by simp,by simp,by simp[maxLen],(fun x hx=>by cases hx),(fun i x j c u hx=>by simp at hx)⟩
 ·have hF':∀b,F b→b<w'.heap.size:=fun b hb'=>pd (hF b hb') hb.size
  refine⟨v,e,1,[],some ⟨g,0,none⟩,g,c,he,hv,fun _=>rfl,by simp,fun _=>hg,?_,hb,rfl,rfl,rfl⟩;refine⟨hF',fun k hk=>⟨(Array.getElem?_eq_some_iff.1 hc).1,fun hf=>by have:=hF g hf;omega⟩,fun j k hj hk _=>by have:=hj.1;have:=hk.1;simp at *;omega,fun k bl hk=>?_⟩
  have hk0:k=0:=by have:=aB hk;simp at this;omega
  subst hk0;simp at hk;subst hk;exact⟨cur,fun _=>hc,by simpa using hs,by simp,hm,(fun x hx=>by cases hx),(fun i x j c u hx=>by simp at hx)⟩
theorem mG(xs:List Int)(f:Bool)(hl:xs.length≤1000000):fQ Tryz.prog 15 [L1 f xs] fun e z ys=>e=2∧z=1∧ys=xs.map au:=by
 cases xs with
 | nil =>
  refine conO_own ⟨Tryz.f15,Tryz.func15,rfl,rfl⟩ (fun F w vals hsz hrel=>?_)
  obtain⟨u0,rfl⟩:∃u0,vals = #[u0]:=by
   obtain⟨l⟩:=vals
   match l,hsz with
   | [a],_=>exact⟨a,rfl⟩
  have r0:=hrel 0 _ u0 rfl rfl;simp only[L1,rQ]at r0;cases r0;exact cloneE _ _ _
 | cons x xs =>
  have hl':xs.length≤1000000:=by simp only[pk]at hl;omega
  refine sOx Tryz.func15 rfl rfl ?_;simp -dsimp[Tryz.f15,ou,L1,oH,cap8 xs.length (by omega)];exact⟨0,2,1,au x::xs.map au,by simp,rfl,by simp,rfl,rfl,rfl⟩
theorem clone64p(xs:List Int)(f:Bool)(hl:xs.length≤1000000):aE Tryz.prog 15 [L1 f xs] fun r=>r=L1 false xs :=
 ⟨(mG xs f hl).1,fun F w vals hZ hF hsz hrel=>((ei (mG xs f hl)).2 F w vals hZ hF hsz hrel).mono fun e w' ⟨u,r,h1,h2,h3,h4,e',z,ys,h5,h6,h7,h8⟩=>by
  subst h6;subst h7;subst h8
  exact⟨u,r,h1,h2,h3,h4,h5⟩⟩
end
end Go.Proofs.YtjogkbekekdkjaaGreatDoor
section
namespace Go.Proofs.YtjogkbekekdkjaaGreatDoor
open Go Go.AM
end Go.Proofs.YtjogkbekekdkjaaGreatDoor
end
namespace Go.Proofs.YtjogkbekekdkjaaGreatDoor
section
open Go Go.AM
def mE(us:List Int):List (V×V):=us.map fun x=>(V.int .i64 x,V.bool true)
theorem mE_snoc(us:List Int)(x:Int):mE (us++[x])=mE us++[(V.int .i64 x,V.bool true)]:=by simp[mE]
@[simp ↓ high] theorem rbB_mE (n:Nat) (kk:KK) (us:List Int):rbB n (.map kk (mE us))↔True:=by
 refine⟨fun _=>trivial,fun _ p hp=>?_⟩;obtain⟨x,_,rfl⟩:=List.mem_map.1 hp;exact⟨trivial,trivial⟩
@[simp ↓ high] theorem rbB_mE2 (n:Nat) (kk:KK) (us:List Int) (x:Int):rbB n (.map kk (mE us++[(V.int .i64 x,V.bool true)]))↔True:=by
 rw[←mE_snoc];exact rbB_mE n kk _
@[simp ↓ high] theorem forall_rbB_cons (n:Nat) (b:B) (l:List B):(∀bl∈b::l,rbB n bl)↔(rbB n b∧∀bl∈l,rbB n bl):=List.forall_mem_cons
@[simp ↓ high] theorem forall_rbB_nil (n:Nat):(∀bl∈([]:List B),rbB n bl)↔True:=by simp
end
end Go.Proofs.YtjogkbekekdkjaaGreatDoor
section

end
namespace Go.Proofs.YtjogkbekekdkjaaGreatDoor
section
open Go Go.AM
def seq(a b:ByteArray):Bool:=a.toList == b.toList
def bH(c:Int):Bool:=decide (97≤c)&&decide (c≤122)||decide (65≤c)&&decide (c≤90)||decide (c=95)
theorem eS(c:Int):(97≤c∧c≤122∧bH c=true)∨(97≤c∧¬c≤122∧65≤c∧¬c≤90∧¬c=95∧bH c=false)∨(¬97≤c∧65≤c∧c≤90∧bH c=true)∨(¬97≤c∧65≤c∧¬c≤90∧c=95∧bH c=true)∨(¬97≤c∧65≤c∧¬c≤90∧¬c=95∧bH c=false)∨(¬97≤c∧¬65≤c∧¬c=95∧bH c=false):=by
 have h:bH c=decide ((97≤c∧c≤122)∨(65≤c∧c≤90)∨c=95):=by
  unfold bH;simp only[Bool.decide_or,Bool.decide_and,Bool.or_assoc]
 rw[h];simp only[decide_eq_true_eq,decide_eq_false_iff_not];omega
theorem gF(c:Int):aE Tryz.prog 199 [.int .u8 c] fun r=>r = .bool (bH c):=by
 rcases eS c with⟨h1,h2,h⟩ | ⟨h1,h2,h3,h4,h5,h⟩ | ⟨h1,h2,h3,h⟩ | ⟨h1,h2,h3,h4,h⟩ | ⟨h1,h2,h3,h4,h⟩ | ⟨h1,h2,h3,h⟩
 all_goals
  rw[h];refine sPx Tryz.func199 rfl rfl ?_;simp -dsimp[Tryz.f199,ou, *]
def aj(s:ByteArray)(i:Nat):Int:=((s[i]?).map fun b=>(b.toNat:Int)).getD 0
theorem ci{s:ByteArray}{i:Nat}(h:i<s.size):s[i]?=some s[i]∧(s[i].toNat:Int)=aj s i:=by
 have h1:s[i]?=some s[i]:=getElem?_pos s i h;exact⟨h1,by unfold aj;rw[h1];rfl⟩
theorem ba_len(bs:ByteArray):bs.data.toList.length=bs.size:=by simp
theorem ba_loop(bs:ByteArray):∀(n i:Nat) (r:List UInt8),bs.size-i=n→ByteArray.toList.loop bs i r=r.reverse++bs.data.toList.drop i
 | 0,i,r,h=>by
  have hl:=ba_len bs;rw[ByteArray.toList.loop,if_neg (by omega),pF (by omega),pL]
 | n+1,i,r,h=>by
  have hl:=ba_len bs
  have hi:i<bs.size:=by omega
  have hi2:i<bs.data.toList.length:=by omega
  rw[ByteArray.toList.loop,if_pos hi,ba_loop bs n (i+1) _ (by omega),pB hi2,List.reverse_cons,pb];congr 2
  have hi3:i<bs.data.size:=by simpa using hi2
  rw[ByteArray.get!,getElem!_pos bs.data i hi3];rfl
theorem ba_toList(bs:ByteArray):bs.toList=bs.data.toList:=by
 unfold ByteArray.toList;rw[ba_loop bs _ 0 [] rfl];rfl
theorem ba_nil(s:ByteArray):s.toList=[]↔s.size=0:=by
 rw[ba_toList];rw[←List.length_eq_zero_iff,ba_len]
def okAt(s:ByteArray)(i:Nat):Bool:=bH (aj s i)||(decide (i≠0)&&(decide (48≤aj s i)&&decide (aj s i≤57)))
def av(s:ByteArray):Bool:=!decide (s.toList=[])&&decide (s.size≤24)&&!(s.toList == [110,117,108,108])&&(pG s.size).all (okAt s)
theorem allno{p:Nat→Bool}{n i:Nat}(h:i<n)(hp:p i=false):(pG n).all p=false:=by
 rw[List.all_eq_false];exact⟨i,by simpa using h,by simp[hp]⟩
theorem bT{p:Nat→Bool}{i:Nat}(h:(pG i).all p=true)(hp:p i=true):(pG (i+1)).all p=true:=by
 rw[qI,List.all_append,h];simp[hp]
theorem gG(s:ByteArray)(hsz:s.size≤maxLen):aE Tryz.prog 123 [.str s] fun r=>r = .bool (av s):=by
 by_cases h0:s.toList=[]
 ·rw[show av s=false by simp[av,h0]];refine sPx Tryz.func123 rfl rfl ?_;simp -dsimp[Tryz.f123,ou,h0]
 ·by_cases h24:s.size≤24
  ·cases hnl:(s.toList == [110,117,108,108])
   ·rw[show av s=(pG s.size).all (okAt s) by simp[av,h0,h24,hnl]];refine sPx Tryz.func123 rfl rfl ?_;simp -dsimp[Tryz.f123,ou,h0,hnl,show ¬(24:Int)<s.size by omega];refine aR (W_loopM 58 0x3fffffffff8003c (by simp[mB]<;>rfl) (σ:=Nat) (fun i=>i≤s.size∧(pG i).all (okAt s)=true) (fun i=>s.size-i) (fun i=>[(19,.int .i64 i)]) (fun _=>[]) 0 ⟨by omega,rfl⟩ (by simp) rfl (by simp) ?_);rintro i ⟨hi,hall⟩ N Q hN hQ;by_cases hb:i<s.size
    ·obtain⟨hx1,hx2⟩:=ci hb;have hok:okAt s i=(bH (aj s i)||(decide (i≠0)&&(decide (48≤aj s i)&&decide (aj s i≤57)))):=rfl;obtain⟨c,hc⟩:∃c,c=aj s i:=⟨_,rfl⟩;rw[←hc]at hx2 hok
     rcases eS c with⟨h1,h2,h⟩ | ⟨h1,h2,h3,h4,h5,h⟩ | ⟨h1,h2,h3,h⟩ | ⟨h1,h2,h3,h4,h⟩ | ⟨h1,h2,h3,h4,h⟩ | ⟨h1,h2,h3,h⟩
     ·rw[h,sX]at hok;refine wx ?_;simp -dsimp[hb,hx1,hx2,h1,h2,aa i (by unfold maxLen at hsz;omega)];refine hN (i+1) _ _ ⟨by omega,bT hall hok⟩ (by omega) ?_ ⟨[],?_⟩ ?_ ?_<;>simp[or_imp,forall_and,L1,au]
     ·by_cases hi0:i=0
      ·subst hi0;rw[h,qX,decide_eq_false (by simp),pS]at hok;refine wx ?_;simp -dsimp[hb,hx1,hx2,h1,h2,h3,h4,h5];refine hQ _ _ _ ?_;simp -dsimp[];exact⟨_,hb,hok⟩
      ·rw[h,qX,decide_eq_true hi0,pP,decide_eq_false (show ¬c≤57 by omega),rM]at hok;refine wx ?_;simp -dsimp[hb,hx1,hx2,h1,h2,h3,h4,h5,hi0,show ¬c<48 by omega,show 57<c by omega];refine hQ _ _ _ ?_;simp -dsimp[];exact⟨_,hb,hok⟩
     ·rw[h,sX]at hok;refine wx ?_;simp -dsimp[hb,hx1,hx2,h1,h2,h3,aa i (by unfold maxLen at hsz;omega)];refine hN (i+1) _ _ ⟨by omega,bT hall hok⟩ (by omega) ?_ ⟨[],?_⟩ ?_ ?_<;>simp[or_imp,forall_and,L1,au]
     ·rw[h,sX]at hok;refine wx ?_;simp -dsimp[hb,hx1,hx2,h1,h2,h3,h4,aa i (by unfold maxLen at hsz;omega)];refine hN (i+1) _ _ ⟨by omega,bT hall hok⟩ (by omega) ?_ ⟨[],?_⟩ ?_ ?_<;>simp[or_imp,forall_and,L1,au]
     ·by_cases hi0:i=0
      ·subst hi0;rw[h,qX,decide_eq_false (by simp),pS]at hok;refine wx ?_;simp -dsimp[hb,hx1,hx2,h1,h2,h3,h4];refine hQ _ _ _ ?_;simp -dsimp[];exact⟨_,hb,hok⟩
      ·rw[h,qX,decide_eq_true hi0,pP,decide_eq_false (show ¬c≤57 by omega),rM]at hok;refine wx ?_;simp -dsimp[hb,hx1,hx2,h1,h2,h3,h4,hi0,show ¬c<48 by omega,show 57<c by omega];refine hQ _ _ _ ?_;simp -dsimp[];exact⟨_,hb,hok⟩
     ·by_cases hi0:i=0
      ·subst hi0;rw[h,qX,decide_eq_false (by simp),pS]at hok;refine wx ?_;simp -dsimp[hb,hx1,hx2,h1,h2,h3];refine hQ _ _ _ ?_;simp -dsimp[];exact⟨_,hb,hok⟩
      ·by_cases h48:c<48
       ·rw[h,qX,decide_eq_false (show ¬48≤c by omega),pS,rM]at hok;refine wx ?_;simp -dsimp[hb,hx1,hx2,h1,h2,h3,hi0,h48];refine hQ _ _ _ ?_;simp -dsimp[];exact⟨_,hb,hok⟩
       ·by_cases h57:57<c
        ·rw[h,qX,decide_eq_true hi0,pP,decide_eq_false (show ¬c≤57 by omega),rM]at hok;refine wx ?_;simp -dsimp[hb,hx1,hx2,h1,h2,h3,hi0,h48,h57];refine hQ _ _ _ ?_;simp -dsimp[];exact⟨_,hb,hok⟩
        ·rw[h,qX,decide_eq_true hi0,pP,decide_eq_true (show c≤57 by omega),decide_eq_true (show 48≤c by omega),sT]at hok;refine wx ?_;simp -dsimp[hb,hx1,hx2,h1,h2,h3,hi0,h48,h57,aa i (by unfold maxLen at hsz;omega)];refine hN (i+1) _ _ ⟨by omega,bT hall hok⟩ (by omega) ?_ ⟨[],?_⟩ ?_ ?_<;>simp[or_imp,forall_and,L1,au]
    ·obtain rfl:i=s.size:=by omega
     refine wx ?_;simp -dsimp[hb];refine hQ _ _ _ ?_;simp -dsimp[];simpa using hall
   ·rw[show av s=false by simp[av,hnl]];refine sPx Tryz.func123 rfl rfl ?_;simp -dsimp[Tryz.f123,ou,h0,hnl,show ¬(24:Int)<s.size by omega]
  ·rw[show av s=false by simp[av,h24]];refine sPx Tryz.func123 rfl rfl ?_;simp -dsimp[Tryz.f123,ou,h0,show(24:Int)<s.size by omega]
theorem fy(s:ByteArray)(hsz:s.size≤maxLen):aE Tryz.prog 140 [.str s] fun r=>r = .bool (av s):=by
 by_cases h0:s.toList=[]
 ·rw[show av s=false by simp[av,h0]];have h00:=(ba_nil s).1 h0;refine sPx Tryz.func140 rfl rfl ?_;simp -dsimp[Tryz.f140,ou,h00]
 ·have h00:¬s.size=0:=fun h=>h0 ((ba_nil s).2 h)
  have hpos:0<s.size:=by omega
  obtain⟨hx1,hx2⟩:=ci hpos;have hl0:=gF (aj s 0);rw[←hx2]at hl0;by_cases h24:s.size≤24
  ·cases hlt:bH (aj s 0)
   ·have hok0:okAt s 0=false:=by unfold okAt;rw[hlt];simp
    rw[show av s=false by unfold av;rw[allno hpos hok0,rM]];rw[hx2,hlt]at hl0;rw[←hx2]at hl0;refine sPx Tryz.func140 rfl rfl ?_;simp -dsimp[Tryz.f140,ou,h00,show ¬(24:Int)<s.size by omega,hx1];refine cPx (hl0) (by simp) ?_;simp -dsimp[]
   ·rw[hx2,hlt]at hl0;rw[←hx2]at hl0;cases hnl:(s.toList == [110,117,108,108])
    ·rw[show av s=(pG s.size).all (okAt s) by simp[av,h0,h24,hnl]];refine sPx Tryz.func140 rfl rfl ?_;simp -dsimp[Tryz.f140,ou,h00,show ¬(24:Int)<s.size by omega,hx1];refine cPx (hl0) (by simp) ?_;simp -dsimp[hnl];refine aR (W_loopM 45 0x1fffffc0000c (by simp[mB]<;>rfl) (σ:=Nat) (fun i=>i≤s.size∧(pG i).all (okAt s)=true) (fun i=>s.size-i) (fun i=>[(3,.int .i64 i)]) (fun _=>[]) 0 ⟨by omega,rfl⟩ (by simp) rfl (by simp) ?_);rintro i ⟨hi,hall⟩ N Q hN hQ;by_cases hb:i<s.size
     ·obtain⟨hy1,hy2⟩:=ci hb;have hok:okAt s i=(bH (aj s i)||(decide (i≠0)&&(decide (48≤aj s i)&&decide (aj s i≤57)))):=rfl;obtain⟨c,hc⟩:∃c,c=aj s i:=⟨_,rfl⟩;rw[←hc]at hy2 hok;have hlc:=gF c;cases h:bH c
      ·have hi0:¬i=0:=fun e=>by subst e;rw[←hc]at hlt;rw[hlt]at h;cases h
       rw[h]at hlc;rw[h,qX,decide_eq_true hi0,pP]at hok;by_cases h48:c<48
       ·rw[decide_eq_false (show ¬48≤c by omega),pS]at hok;refine wx ?_;simp -dsimp[hb,hy1,hy2];refine cPx (hlc) (by simp) ?_;simp -dsimp[hb,hy1,hy2,h48];refine hQ _ _ _ ?_;simp -dsimp[];exact⟨_,hb,hok⟩
       ·by_cases h57:57<c
        ·rw[decide_eq_false (show ¬c≤57 by omega),rM]at hok;refine wx ?_;simp -dsimp[hb,hy1,hy2];refine cPx (hlc) (by simp) ?_;simp -dsimp[hb,hy1,hy2,h48,h57];refine hQ _ _ _ ?_;simp -dsimp[];exact⟨_,hb,hok⟩
        ·rw[decide_eq_true (show c≤57 by omega),decide_eq_true (show 48≤c by omega),sT]at hok;refine wx ?_;simp -dsimp[hb,hy1,hy2];refine cPx (hlc) (by simp) ?_;simp -dsimp[hb,hy1,hy2,h48,h57,aa i (by unfold maxLen at hsz;omega)];refine hN (i+1) _ _ ⟨by omega,bT hall hok⟩ (by omega) ?_ ⟨[],?_⟩ ?_ ?_<;>simp[or_imp,forall_and,L1,au]
      ·rw[h]at hlc;rw[h,sX]at hok;refine wx ?_;simp -dsimp[hb,hy1,hy2];refine cPx (hlc) (by simp) ?_;simp -dsimp[aa i (by unfold maxLen at hsz;omega)];refine hN (i+1) _ _ ⟨by omega,bT hall hok⟩ (by omega) ?_ ⟨[],?_⟩ ?_ ?_<;>simp[or_imp,forall_and,L1,au]
     ·obtain rfl:i=s.size:=by omega
      refine wx ?_;simp -dsimp[hb];refine hQ _ _ _ ?_;simp -dsimp[];simpa using hall
    ·rw[show av s=false by simp[av,hnl]];refine sPx Tryz.func140 rfl rfl ?_;simp -dsimp[Tryz.f140,ou,h00,show ¬(24:Int)<s.size by omega,hx1];refine cPx (hl0) (by simp) ?_;simp -dsimp[hnl]
  ·rw[show av s=false by simp[av,h24]];refine sPx Tryz.func140 rfl rfl ?_;simp -dsimp[Tryz.f140,ou,h00,show(24:Int)<s.size by omega]
def LS(f:Bool)(ss:List ByteArray):V:=.lst 1 f (ss.map V.str)
@[simp] theorem LS_pure (f:Bool) (ss:List ByteArray):AM.Pure (LS f ss):=by simp[LS]
@[simp] theorem pure_takeS (i:Nat) (ss:List ByteArray):(∀x,x∈rW i (List.map V.str ss)→AM.Pure x)↔True:=iff_true_intro fun x hx=>by
 obtain⟨s,_,rfl⟩:=List.mem_map.1 (pi hx);exact .str s
def ixS(ss:List ByteArray)(x:ByteArray)(i:Nat):Int:=if h:i<ss.length then(if(x.toList == ss[i].toList)=true then(i:Int) else ixS ss x (i+1)) else -1
termination_by ss.length-i
def memS(ss:List ByteArray)(x:ByteArray):Bool:=ss.any fun e=>x.toList == e.toList
theorem ixS_mem(ss:List ByteArray)(x:ByteArray)(i:Nat):decide (0≤ixS ss x i)=memS (ss.drop i) x:=by
 unfold memS
 fun_induction ixS ss x i with
 | case1 i h h0=>rw[pB h,ql,h0];simp
 | case2 i h h0 ih=>rw[pB h,ql,ih];simp[h0]
 | case3 i h=>rw[pF (by omega)];rfl
theorem indexS(ss:List ByteArray)(x:ByteArray)(f:Bool)(hl:ss.length≤1000000):aE Tryz.prog 173 [LS f ss,.str x] fun r=>r = .int .i64 (ixS ss x 0):=by
 refine sPx Tryz.func173 rfl rfl ?_;simp -dsimp[Tryz.f173,ou,LS];refine aR (W_loopM 19 0x7ff30 (by simp[mB]<;>rfl) (σ:=Nat) (fun i=>ixS ss x i=ixS ss x 0) (fun i=>ss.length-i) (fun i=>[(8,.int .i64 i)]) (fun _=>[]) 0 rfl (by simp) rfl (by simp) ?_);intro i hx N Q hN hQ;by_cases hb:i<ss.length
 ·rw[ixS,dif_pos hb]at hx;cases hq:(x.toList == ss[i].toList)
  ·rw[hq,if_neg (by simp)]at hx;refine wx ?_;simp -dsimp[hb,hq];simp -dsimp[aa i (by omega)];refine hN (i+1) _ _ hx (by omega) (by simp) ⟨[],rfl⟩ (by simp) (by simp)
  ·rw[hq,if_pos rfl]at hx;refine wx ?_;simp -dsimp[hb,hq];refine hQ _ _ _ ?_;simp -dsimp[];exact hx
 ·rw[ixS,dif_neg hb]at hx;refine wx ?_;simp -dsimp[hb];refine hQ _ _ _ ?_;simp -dsimp[];exact hx
theorem containsS(ss:List ByteArray)(x:ByteArray)(f:Bool)(hl:ss.length≤1000000):aE Tryz.prog 124 [LS f ss,.str x] fun r=>r = .bool (memS ss x):=by
 have h0:=ixS_mem ss x 0;rw[pT]at h0;refine sPx Tryz.func124 rfl rfl ?_;simp -dsimp[Tryz.f124,ou];refine cPx (indexS ss x f hl) (by simp) ?_;simp -dsimp[];rw[←h0]
theorem beq_comm'(a b:List UInt8):(a == b)=(b == a):=by rw[qo,beq_iff_eq,beq_iff_eq];exact eq_comm
theorem attrS(ss:List ByteArray)(x:ByteArray)(f:Bool)(hl:ss.length≤1000000):aE Tryz.prog 200 [LS f ss,.str x] fun r=>r = .int .i64 (ixS ss x 0):=by
 refine sPx Tryz.func200 rfl rfl ?_;simp -dsimp[Tryz.f200,ou,LS];refine aR (W_loopM 19 0x7fff0 (by simp[mB]<;>rfl) (σ:=Nat) (fun i=>ixS ss x i=ixS ss x 0) (fun i=>ss.length-i) (fun i=>[(5,.int .i64 i)]) (fun _=>[]) 0 rfl (by simp) rfl (by simp) ?_);intro i hx N Q hN hQ;by_cases hb:i<ss.length
 ·rw[ixS,dif_pos hb,beq_comm']at hx;cases hq:(ss[i].toList == x.toList)
  ·rw[hq,if_neg (by simp)]at hx;refine wx ?_;simp -dsimp[hb,hq];simp -dsimp[aa i (by omega)];refine hN (i+1) _ _ hx (by omega) (by simp) ⟨[],rfl⟩ (by simp) (by simp)
  ·rw[hq,if_pos rfl]at hx;refine wx ?_;simp -dsimp[hb,hq];refine hQ _ _ _ ?_;simp -dsimp[];exact hx
 ·rw[ixS,dif_neg hb]at hx;refine wx ?_;simp -dsimp[hb];refine hQ _ _ _ ?_;simp -dsimp[];exact hx
def sAt(ss:List ByteArray)(i:Nat):ByteArray:=ss.getD i pE
def nmAt(ss:List ByteArray)(i:Nat):Bool:=av (sAt ss i)&&!memS (ss.take i) (sAt ss i)
def cO(ss:List ByteArray):Bool:=(pG ss.length).all (nmAt ss)
theorem names03(ss:List ByteArray)(f:Bool)(hl:ss.length≤1000000)(hs:∀s∈ss,s.size≤maxLen):aE Tryz.prog 141 [LS f ss] fun r=>r = .bool (cO ss):=by
 unfold cO;refine sPx Tryz.func141 rfl rfl ?_;simp -dsimp[Tryz.f141,ou,LS];refine aR (W_loopM 27 0x7fffffc (by simp[mB]<;>rfl) (σ:=Nat) (fun i=>i≤ss.length∧(pG i).all (nmAt ss)=true) (fun i=>ss.length-i) (fun i=>[(3,.int .i64 i)]) (fun _=>[]) 0 ⟨by omega,rfl⟩ (by simp) rfl (by simp) ?_);rintro i ⟨hi,hall⟩ N Q hN hQ;by_cases hb:i<ss.length
 ·have hsi:sAt ss i=ss[i]:=by simp[sAt,hb]
  have hok:nmAt ss i=(av ss[i]&&!memS (ss.take i) ss[i]):=by unfold nmAt;rw[hsi]
  have hc1:=fy ss[i] (hs _ (ow hb));have hc2:=attrS (ss.take i) ss[i] (f&&i == ss.length) (by simp;omega);have hm:=ixS_mem (ss.take i) ss[i] 0;rw[pT]at hm;simp only[LS,rK]at hc2;cases h1:av ss[i]
  ·rw[h1,pS]at hok;rw[h1]at hc1;refine wx ?_;simp -dsimp[hb];refine .inr ⟨bN (by kernel_rfl),?_⟩;refine ar _ (aW (hc1) (by simp)) ?_;simp -dsimp[];refine hQ _ _ _ ?_;simp -dsimp[];exact⟨_,hb,hok⟩
  ·rw[h1,pP]at hok;rw[h1]at hc1;cases h2:memS (ss.take i) ss[i]
   ·rw[h2]at hok hm;have hneg:=of_decide_eq_false hm;refine wx ?_;simp -dsimp[hb];refine .inr ⟨bN (by kernel_rfl),?_⟩;refine ar _ (aW (hc1) (by simp)) ?_;simp -dsimp[hb,show i≤ss.length by omega];refine ar _ (aW (hc2) (by simp)) ?_;simp -dsimp[show ¬0≤ixS (ss.take i) ss[i] 0 by omega,aa i (by omega)];refine hN (i+1) _ _ ⟨by omega,bT hall (by rw[hok];rfl)⟩ (by omega) ?_ ⟨[],?_⟩ ?_ ?_<;>simp[or_imp,forall_and,L1,au]
   ·rw[h2]at hok hm;have hneg:=of_decide_eq_true hm;refine wx ?_;simp -dsimp[hb];refine .inr ⟨bN (by kernel_rfl),?_⟩;refine ar _ (aW (hc1) (by simp)) ?_;simp -dsimp[hb,show i≤ss.length by omega];refine ar _ (aW (hc2) (by simp)) ?_;simp -dsimp[hneg];refine hQ _ _ _ ?_;simp -dsimp[];exact⟨_,hb,hok⟩
 ·obtain rfl:i=ss.length:=by omega
  refine wx ?_;simp -dsimp[hb];refine hQ _ _ _ ?_;simp -dsimp[];simpa using hall
structure Vl where
 k:Int
 n:Int
 s:ByteArray
def ac(v:Vl):V:=.agg [.int .i64 v.k,.int .i64 v.n,.str v.s]
def LV(f:Bool)(vs:List Vl):V:=.lst 3 f (vs.map ac)
@[simp] theorem encV_pure (v:Vl):AM.Pure (ac v):=by simp[ac]
@[simp] theorem LV_pure (f:Bool) (vs:List Vl):AM.Pure (LV f vs):=by simp[LV]
@[simp] theorem encV_oneV (v:Vl):cq (ac v)=true:=rfl
def ai(v:Vl):Bool :=
 if v.k=0 then decide (v.n=0)&&v.s.toList.isEmpty else if v.k=1 then v.s.toList.isEmpty else
 if v.k=2 then decide (v.n=0)&&decide (v.s.size≤200) else decide (v.k=3)&&(decide (1≤v.n)&&v.s.toList.isEmpty)
theorem valid01(v:Vl):aE Tryz.prog 201 [ac v] fun r=>r = .bool (ai v):=by
 unfold ai;by_cases h0:v.k=0
 ·by_cases hn:v.n=0
  ·rw[if_pos h0,decide_eq_true hn,pP];refine sPx Tryz.func201 rfl rfl ?_;simp -dsimp[Tryz.f201,ou,ac,h0,hn]
  ·rw[if_pos h0,decide_eq_false hn,pS];refine sPx Tryz.func201 rfl rfl ?_;simp -dsimp[Tryz.f201,ou,ac,h0,hn]
 ·rw[if_neg h0];by_cases h1:v.k=1
  ·rw[if_pos h1];refine sPx Tryz.func201 rfl rfl ?_;simp -dsimp[Tryz.f201,ou,ac,h1]
  ·rw[if_neg h1];by_cases h2:v.k=2
   ·rw[if_pos h2];by_cases hn:v.n=0
    ·rw[decide_eq_true hn,pP];by_cases hz:v.s.size≤200
     ·rw[decide_eq_true hz];refine sPx Tryz.func201 rfl rfl ?_;simp -dsimp[Tryz.f201,ou,ac,h2,hn,show(v.s.size:Int)≤200 by omega]
     ·rw[decide_eq_false hz];refine sPx Tryz.func201 rfl rfl ?_;simp -dsimp[Tryz.f201,ou,ac,h2,hn,show ¬(v.s.size:Int)≤200 by omega]
    ·rw[decide_eq_false hn,pS];refine sPx Tryz.func201 rfl rfl ?_;simp -dsimp[Tryz.f201,ou,ac,h2,hn]
   ·rw[if_neg h2];by_cases h3:v.k=3
    ·rw[decide_eq_true h3,pP];by_cases hn:1≤v.n
     ·rw[decide_eq_true hn,pP];refine sPx Tryz.func201 rfl rfl ?_;simp -dsimp[Tryz.f201,ou,ac,h3,hn]
     ·rw[decide_eq_false hn,pS];refine sPx Tryz.func201 rfl rfl ?_;simp -dsimp[Tryz.f201,ou,ac,h3,hn]
    ·rw[decide_eq_false h3,pS];refine sPx Tryz.func201 rfl rfl ?_;simp -dsimp[Tryz.f201,ou,ac,h0,h1,h2,h3]
theorem kx(v:Vl):aE Tryz.prog 176 [ac v] fun r=>r = .bool (ai v):=by
 unfold ai;by_cases h0:v.k=0
 ·by_cases hn:v.n=0
  ·rw[if_pos h0,decide_eq_true hn,pP];refine sPx Tryz.func176 rfl rfl ?_;simp -dsimp[Tryz.f176,ou,ac,h0,hn]
  ·rw[if_pos h0,decide_eq_false hn,pS];refine sPx Tryz.func176 rfl rfl ?_;simp -dsimp[Tryz.f176,ou,ac,h0,hn]
 ·rw[if_neg h0];by_cases h1:v.k=1
  ·rw[if_pos h1];refine sPx Tryz.func176 rfl rfl ?_;simp -dsimp[Tryz.f176,ou,ac,h1]
  ·rw[if_neg h1];by_cases h2:v.k=2
   ·rw[if_pos h2];by_cases hn:v.n=0
    ·rw[decide_eq_true hn,pP];by_cases hz:v.s.size≤200
     ·rw[decide_eq_true hz];refine sPx Tryz.func176 rfl rfl ?_;simp -dsimp[Tryz.f176,ou,ac,h2,hn,show(v.s.size:Int)≤200 by omega]
     ·rw[decide_eq_false hz];refine sPx Tryz.func176 rfl rfl ?_;simp -dsimp[Tryz.f176,ou,ac,h2,hn,show ¬(v.s.size:Int)≤200 by omega]
    ·rw[decide_eq_false hn,pS];refine sPx Tryz.func176 rfl rfl ?_;simp -dsimp[Tryz.f176,ou,ac,h2,hn]
   ·rw[if_neg h2];by_cases h3:v.k=3
    ·rw[decide_eq_true h3,pP];by_cases hn:1≤v.n
     ·rw[decide_eq_true hn,pP];refine sPx Tryz.func176 rfl rfl ?_;simp -dsimp[Tryz.f176,ou,ac,h3,hn]
     ·rw[decide_eq_false hn,pS];refine sPx Tryz.func176 rfl rfl ?_;simp -dsimp[Tryz.f176,ou,ac,h3,hn]
    ·rw[decide_eq_false h3,pS];refine sPx Tryz.func176 rfl rfl ?_;simp -dsimp[Tryz.f176,ou,ac,h0,h1,h2,h3]
theorem any_drop(p:Vl→Bool)(vs:List Vl)(i:Nat)(h:i<vs.length):(vs.drop i).all p=(p vs[i]&&(vs.drop (i+1)).all p):=by rw[pB h];rfl
theorem valids01(vs:List Vl)(f:Bool)(hl:vs.length≤1000000):aE Tryz.prog 142 [LV f vs] fun r=>r = .bool (vs.all ai):=by
 obtain⟨E,hE⟩:∃E,E=vs.all ai:=⟨_,rfl⟩;rw[←hE];refine sPx Tryz.func142 rfl rfl ?_;simp -dsimp[Tryz.f142,ou,LV];refine aR (W_loopM 16 0xfffc (by simp[mB]<;>rfl) (σ:=Nat) (fun i=>(vs.drop i).all ai=E) (fun i=>vs.length-i) (fun i=>[(3,.int .i64 i)]) (fun _=>[]) 0 (by rw[pT,hE]) (by simp) rfl (by simp) ?_);rintro i hx N Q hN hQ;by_cases hb:i<vs.length
 ·rw[any_drop _ _ _ hb]at hx;have hc:=valid01 vs[i];cases h1:ai vs[i]
  ·rw[h1]at hc;rw[h1,pS]at hx;refine wx ?_;simp -dsimp[hb];refine cPx (hc) (by simp) ?_;simp -dsimp[];refine hQ _ _ _ ?_;simp -dsimp[];simpa using hx
  ·rw[h1]at hc;rw[h1,pP]at hx;refine wx ?_;simp -dsimp[hb];refine cPx (hc) (by simp) ?_;simp -dsimp[aa i (by omega)];refine hN (i+1) _ _ hx (by omega) (by simp) ⟨[],rfl⟩ (by simp) (by simp)
 ·rw[pF (by omega)]at hx;refine wx ?_;simp -dsimp[hb];refine hQ _ _ _ ?_;simp -dsimp[];simpa using hx
def ixV(p:Vl→Bool)(vs:List Vl)(i:Nat):Int:=if h:i<vs.length then(if p vs[i] then(i:Int) else ixV p vs (i+1)) else -1
termination_by vs.length-i
theorem ixV_any(p:Vl→Bool)(vs:List Vl)(i:Nat):decide (0≤ixV p vs i)=(vs.drop i).any p:=by
 fun_induction ixV p vs i with
 | case1 i h h0=>rw[pB h,ql,h0];simp
 | case2 i h h0 ih=>rw[pB h,ql,ih];simp[h0]
 | case3 i h=>rw[pF (by omega)];rfl
theorem idxFuncV(H:List B)(fv:V)(p:Vl→Bool)(vs:List Vl)(g:Bool)(hes:vs.length≤1000000)(hH:∀bl∈H,rbB H.length bl)(hfv:rb H.length fv)
  (hp:∀m∈vs,aI Tryz.prog fv [ac m] H fun r H'=>r = .bool (p m)∧H'=H):aZ Tryz.prog 234 [LV g vs,fv] H fun r H'=>r = .int .i64 (ixV p vs 0)∧H'=H:=by
 refine aK tok Tryz.func234 rfl rfl ?_;refine wx ?_;simp -dsimp[Tryz.f234,ou,LV];refine aR (W_loopM 19 0x7ff30 (by simp[mB]<;>rfl) (σ:=Nat) (fun i=>ixV p vs i=ixV p vs 0) (fun i=>vs.length-i) (fun i=>[(8,.int .i64 i)]) (fun _=>H) 0 rfl (by simp) rfl (by simp) ?_);intro i hx N Q hN hQ;by_cases hb:i<vs.length
 ·rw[ixV,dif_pos hb]at hx;have hc:=hp vs[i] (ow hb);cases hq:p vs[i]
  ·rw[hq]at hc hx;refine wx ?_;simp -dsimp[hb];refine hc.mono ?_;rintro r H' ⟨rfl,rfl⟩;simp -dsimp[aa i (by omega)];refine hN (i+1) _ _ (by simpa using hx) (by omega) (by simp) ⟨[],by simp⟩ (by simp;exact hfv) hH
  ·rw[hq]at hc hx;refine wx ?_;simp -dsimp[hb];refine hc.mono ?_;rintro r H' ⟨rfl,rfl⟩;simp -dsimp[];refine hQ _ _ _ ?_;simp -dsimp[];simpa using hx
 ·rw[ixV,dif_neg hb]at hx;refine wx ?_;simp -dsimp[hb];refine hQ _ _ _ ?_;simp -dsimp[];simpa using hx
theorem contFuncV(H:List B)(fv:V)(p:Vl→Bool)(vs:List Vl)(g:Bool)(hes:vs.length≤1000000)(hH:∀bl∈H,rbB H.length bl)(hfv:rb H.length fv)
  (hp:∀m∈vs,aI Tryz.prog fv [ac m] H fun r H'=>r = .bool (p m)∧H'=H):aZ Tryz.prog 174 [LV g vs,fv] H fun r H'=>r = .bool (vs.any p)∧H'=H:=by
 have h0:=ixV_any p vs 0;rw[pT]at h0;have hc:=idxFuncV H fv p vs g hes hH hfv hp;refine aK tok Tryz.func174 rfl rfl ?_;refine wx ?_;simp -dsimp[Tryz.f174,ou];refine aI.mono (K:=fun r H'=>r = .int .i64 (ixV p vs 0)∧H'=H) hc ?_;rintro r H' ⟨rfl,rfl⟩;simp -dsimp[];rw[←h0]
theorem notValid(v:Vl):aE Tryz.prog 175 [ac v] fun r=>r = .bool (!ai v):=by
 have hc:=kx v;simp only[ac]at hc;refine sPx Tryz.func175 rfl rfl ?_;simp -dsimp[Tryz.f175,ou,ac];refine cPx (hc) (by simp) ?_;simp -dsimp[]
theorem validVals(vs:List Vl)(f:Bool)(hl:vs.length≤1000000):aE Tryz.prog 125 [LV f vs] fun r=>r = .bool (vs.all ai):=by
 have hc:=contFuncV [] (.fn 175 []) (fun v=>!ai v) vs f hl (by simp) (by simp) (fun m _=>aW (notValid m) (by simp))
 have he:vs.all ai = !vs.any fun v=>!ai v:=by
  induction vs with
  | nil=>rfl
  | cons v vs ih=>simp only[qk,ql,Bool.not_or,Bool.not_not];rw[ih (by simp at hl;omega) (contFuncV [] (.fn 175 []) (fun v=>!ai v) vs f (by simp at hl;omega) (by simp) (by simp) (fun m _=>aW (notValid m) (by simp)))]
 rw[he];refine sPx Tryz.func125 rfl rfl ?_;simp -dsimp[Tryz.f125,ou];refine aI.mono (K:=fun r H'=>r = .bool (vs.any fun v=>!ai v)∧H'=[]) hc ?_;rintro r H' ⟨rfl,rfl⟩;simp -dsimp[]
structure Rw where
 id:Int
 vals:List Vl
structure Tb where
 name:ByteArray
 attrs:List ByteArray
 rows:List Rw
def aT(r:Rw):V:=.agg [.int .i64 r.id,LV false r.vals]
def LR(g:Bool)(rs:List Rw):V:=.lst 2 g (rs.map aT)
def aF(f g:Bool)(t:Tb):V:=.agg [.str t.name,LS f t.attrs,LR g t.rows]
@[simp] theorem encRw_pure (r:Rw):AM.Pure (aT r):=by simp[aT]
@[simp] theorem LR_pure (g:Bool) (rs:List Rw):AM.Pure (LR g rs):=by simp[LR]
@[simp] theorem encTb_pure (f g:Bool) (t:Tb):AM.Pure (aF f g t):=by simp[aF]
@[simp] theorem encRw_oneV (r:Rw):cq (aT r)=true:=rfl
def bU(n:Nat):Int→List Rw→Int
 | _,[]=>0
 | last,r::rs=>if r.id≤last then 1 else if r.vals.length≠n then 6 else if r.vals.all ai then bU n r.id rs else 1
def aQ(t:Tb):Int:=if av t.name then(if 16<t.attrs.length∨1000<t.rows.length then 3 else if cO t.attrs then bU t.attrs.length 0 t.rows else 1) else 1
structure TbOk (t:Tb):Prop where
 name:t.name.size≤maxLen
 attrs:t.attrs.length≤1000000
 rows:t.rows.length≤1000000
 strs:∀s∈t.attrs,s.size≤maxLen
theorem valid03(t:Tb)(f g:Bool)(h:TbOk t):aE Tryz.prog 83 [aF f g t] fun r=>r = .int .i64 (aQ t):=by
 obtain⟨hn,ha,hr,hs⟩:=h;have hc1:=fy t.name hn;cases h1:av t.name
 ·rw[h1]at hc1;rw[show aQ t=1 by simp[aQ,h1]];refine sPx Tryz.func83 rfl rfl ?_;simp -dsimp[Tryz.f83,ou,aF,LR,LS];refine cPx (hc1) (by simp) ?_;simp -dsimp[]
 ·rw[h1]at hc1;by_cases h2:16<t.attrs.length
  ·rw[show aQ t=3 by simp[aQ,h1,h2]];refine sPx Tryz.func83 rfl rfl ?_;simp -dsimp[Tryz.f83,ou,aF,LR,LS];refine cPx (hc1) (by simp) ?_;simp -dsimp[show(16:Int)<t.attrs.length by omega]
  ·by_cases h3:1000<t.rows.length
   ·rw[show aQ t=3 by simp[aQ,h1,h3]];refine sPx Tryz.func83 rfl rfl ?_;simp -dsimp[Tryz.f83,ou,aF,LR,LS];refine cPx (hc1) (by simp) ?_;simp -dsimp[show ¬(16:Int)<t.attrs.length by omega,show(1000:Int)<t.rows.length by omega]
   ·have hc2:=names03 t.attrs f ha hs;simp only[LS]at hc2;cases h4:cO t.attrs
    ·rw[h4]at hc2;rw[show aQ t=1 by simp[aQ,h1,h2,h3,h4]];refine sPx Tryz.func83 rfl rfl ?_;simp -dsimp[Tryz.f83,ou,aF,LR,LS];refine cPx (hc1) (by simp) ?_;simp -dsimp[show ¬(16:Int)<t.attrs.length by omega,show ¬(1000:Int)<t.rows.length by omega];refine cPx (hc2) (by simp) ?_;simp -dsimp[]
    ·rw[h4]at hc2
     have hE:bU t.attrs.length 0 t.rows=aQ t:=by simp[aQ,h1,h2,h3,h4]
     obtain⟨E,hEe⟩:∃E,E=aQ t:=⟨_,rfl⟩;rw[←hEe]at hE ⊢;refine sPx Tryz.func83 rfl rfl ?_;simp -dsimp[Tryz.f83,ou,aF,LR,LS];refine cPx (hc1) (by simp) ?_;simp -dsimp[show ¬(16:Int)<t.attrs.length by omega,show ¬(1000:Int)<t.rows.length by omega];refine cPx (hc2) (by simp) ?_;simp -dsimp[];refine aR (W_loopM 53 0x1fffffff00003c (by simp[mB]<;>rfl) (σ:=Nat×Int) (fun p=>p.1≤t.rows.length∧bU t.attrs.length p.2 (t.rows.drop p.1)=E) (fun p=>t.rows.length-p.1) (fun p=>[(4,.int .i64 p.1),(3,.int .i64 p.2)]) (fun _=>[B.cells [.str t.name,LS f t.attrs,LR g t.rows]]) (0,0) ⟨by simp,hE⟩ (by simp) (by simp[LS,LR]) (by simp) ?_);rintro⟨i,last⟩ ⟨hi,hx⟩ N Q hN hQ;simp only at hi hx hN;by_cases hb:i<t.rows.length
     ·rw[pB hb]at hx;simp only[bU]at hx;by_cases h5:t.rows[i].id≤last
      ·rw[if_pos h5]at hx;refine wx ?_;simp -dsimp[hb,LS,LR,aT,h5,LV];refine hQ _ _ _ ?_;simp -dsimp[];exact hx
      ·rw[if_neg h5]at hx;by_cases h6:t.rows[i].vals.length=t.attrs.length
       ·rw[if_neg (fun h=>h h6)]at hx;have hc3:=valids01 t.rows[i].vals false (by omega);cases h7:t.rows[i].vals.all ai
        ·rw[h7]at hc3 hx;refine wx ?_;simp -dsimp[hb,LS,LR,aT,h5,LV,h6];simp only[LV]at hc3;refine cPx (hc3) (by simp) ?_;simp -dsimp[];refine hQ _ _ _ ?_;simp -dsimp[];simpa using hx
        ·rw[h7,if_pos rfl]at hx;rw[h7]at hc3;refine wx ?_;simp -dsimp[hb,LS,LR,aT,h5,LV,h6];simp only[LV]at hc3;refine cPx (hc3) (by simp) ?_;simp -dsimp[aa i (by omega)];refine hN (i+1,t.rows[i].id) _ _ ⟨by simp;omega,hx⟩ (by omega) ?_ ⟨[B.cells [.int .i64 t.rows[i].id,LV false t.rows[i].vals]],?_⟩ ?_ ?_<;>simp[or_imp,forall_and,L1,au,LS,LR,LV]
       ·rw[if_pos h6]at hx;refine wx ?_;simp -dsimp[hb,LS,LR,aT,h5,LV,show ¬(t.rows[i].vals.length:Int)=t.attrs.length by omega];refine hQ _ _ _ ?_;simp -dsimp[];exact hx
     ·rw[pF (by omega)]at hx;refine wx ?_;simp -dsimp[hb,LS,LR];refine hQ _ _ _ ?_;simp -dsimp[];exact hx
theorem jg(t:Tb)(f g:Bool)(h:TbOk t):aE Tryz.prog 77 [aF f g t] fun r=>r = .int .i64 (aQ t):=by
 obtain⟨hn,ha,hr,hs⟩:=h;have hc1:=gG t.name hn;cases h1:av t.name
 ·rw[h1]at hc1;rw[show aQ t=1 by simp[aQ,h1]];refine sPx Tryz.func77 rfl rfl ?_;simp -dsimp[Tryz.f77,ou,aF,LR,LS];refine cPx (hc1) (by simp) ?_;simp -dsimp[]
 ·rw[h1]at hc1;by_cases h2:16<t.attrs.length
  ·rw[show aQ t=3 by simp[aQ,h1,h2]];refine sPx Tryz.func77 rfl rfl ?_;simp -dsimp[Tryz.f77,ou,aF,LR,LS];refine cPx (hc1) (by simp) ?_;simp -dsimp[show(16:Int)<t.attrs.length by omega]
  ·by_cases h3:1000<t.rows.length
   ·rw[show aQ t=3 by simp[aQ,h1,h3]];refine sPx Tryz.func77 rfl rfl ?_;simp -dsimp[Tryz.f77,ou,aF,LR,LS];refine cPx (hc1) (by simp) ?_;simp -dsimp[show ¬(16:Int)<t.attrs.length by omega,show(1000:Int)<t.rows.length by omega]
   ·have hE:(if cO t.attrs then bU t.attrs.length 0 t.rows else 1)=aQ t:=by simp[aQ,h1,h2,h3]
    obtain⟨E,hEe⟩:∃E,E=aQ t:=⟨_,rfl⟩;rw[←hEe]at hE ⊢;refine sPx Tryz.func77 rfl rfl ?_;simp -dsimp[Tryz.f77,ou,aF,LR,LS];refine cPx (hc1) (by simp) ?_;simp -dsimp[show ¬(16:Int)<t.attrs.length by omega,show ¬(1000:Int)<t.rows.length by omega];refine aR (W_loopM 42 0x3fffe00001c (by simp[mB]<;>rfl) (σ:=Nat) (fun i=>i≤t.attrs.length∧(pG i).all (nmAt t.attrs)=true) (fun i=>t.attrs.length-i) (fun i=>[(25,.int .i64 i)]) (fun _=>[B.cells [.str t.name,LS f t.attrs,LR g t.rows]]) 0 ⟨by omega,rfl⟩ (by simp) (by simp[LS,LR]) (by simp) ?_);rintro i ⟨hi,hall⟩ N Q hN hQ;by_cases hb:i<t.attrs.length
    ·have hsi:sAt t.attrs i=t.attrs[i]:=by simp[sAt,hb]
     have hok:nmAt t.attrs i=(av t.attrs[i]&&!memS (t.attrs.take i) t.attrs[i]):=by unfold nmAt;rw[hsi]
     have hd1:=gG t.attrs[i] (hs _ (ow hb));have hd2:=containsS (t.attrs.take i) t.attrs[i] (f&&i == t.attrs.length) (by simp;omega);simp only[LS,rK]at hd2;cases h5:av t.attrs[i]
     ·rw[h5,pS]at hok;rw[h5]at hd1;rw[show cO t.attrs=false from allno hb hok]at hE;refine wx ?_;simp -dsimp[hb,LS,LR];refine cPx (hd1) (by simp) ?_;simp -dsimp[];refine hQ _ _ _ ?_;simp -dsimp[];simpa using hE
     ·rw[h5,pP]at hok;rw[h5]at hd1;cases h6:memS (t.attrs.take i) t.attrs[i]
      ·rw[h6]at hd2 hok;refine wx ?_;simp -dsimp[hb,LS,LR];refine cPx (hd1) (by simp) ?_;simp -dsimp[show i≤t.attrs.length by omega];refine cPx (hd2) (by simp) ?_;simp -dsimp[aa i (by omega)];refine hN (i+1) _ _ ⟨by omega,bT hall (by rw[hok];rfl)⟩ (by omega) ?_ ⟨[],?_⟩ ?_ ?_<;>simp[or_imp,forall_and,L1,au,LS,LR]
      ·rw[h6]at hd2 hok;rw[show cO t.attrs=false from allno hb hok]at hE;refine wx ?_;simp -dsimp[hb,LS,LR];refine cPx (hd1) (by simp) ?_;simp -dsimp[show i≤t.attrs.length by omega];refine cPx (hd2) (by simp) ?_;simp -dsimp[];refine hQ _ _ _ ?_;simp -dsimp[];simpa using hE
    ·obtain rfl:i=t.attrs.length:=by omega
     rw[show cO t.attrs=true from hall,if_pos rfl]at hE;refine wx ?_;simp -dsimp[hb,LS,LR];refine hQ _ _ _ ?_;simp -dsimp[LS,LR];refine aR (W_loopM 70 0x3fffffe000000000a4 (by simp[mB]<;>rfl) (σ:=Nat×Int) (fun p=>p.1≤t.rows.length∧bU t.attrs.length p.2 (t.rows.drop p.1)=E) (fun p=>t.rows.length-p.1) (fun p=>[(45,.int .i64 p.1),(5,.int .i64 p.2)]) (fun _=>[B.cells [.str t.name,LS f t.attrs,LR g t.rows]]) (0,0) ⟨by simp,hE⟩ (by simp) (by simp[LS,LR]) (by simp) ?_);rintro⟨j,last⟩ ⟨hj,hx⟩ N2 Q2 hN2 hQ2;simp only at hj hx hN2;by_cases hjb:j<t.rows.length
     ·rw[pB hjb]at hx;simp only[bU]at hx;by_cases h5:t.rows[j].id≤last
      ·rw[if_pos h5]at hx;refine wx ?_;simp -dsimp[hjb,LS,LR,aT,h5,LV];refine hQ2 _ _ _ ?_;simp -dsimp[];exact hx
      ·rw[if_neg h5]at hx;by_cases h6:t.rows[j].vals.length=t.attrs.length
       ·rw[if_neg (fun h=>h h6)]at hx;have hc3:=validVals t.rows[j].vals false (by omega);simp only[LV]at hc3;cases h7:t.rows[j].vals.all ai
        ·rw[h7]at hc3 hx;refine wx ?_;simp -dsimp[hjb,LS,LR,aT,h5,LV,h6];refine cPx (hc3) (by simp) ?_;simp -dsimp[];refine hQ2 _ _ _ ?_;simp -dsimp[];simpa using hx
        ·rw[h7,if_pos rfl]at hx;rw[h7]at hc3;refine wx ?_;simp -dsimp[hjb,LS,LR,aT,h5,LV,h6];refine cPx (hc3) (by simp) ?_;simp -dsimp[aa j (by omega)];refine hN2 (j+1,t.rows[j].id) _ _ ⟨by simp;omega,hx⟩ (by omega) ?_ ⟨[B.cells [.int .i64 t.rows[j].id,LV false t.rows[j].vals]],?_⟩ ?_ ?_<;>simp[or_imp,forall_and,L1,au,LS,LR,LV]
       ·rw[if_pos h6]at hx;refine wx ?_;simp -dsimp[hjb,LS,LR,aT,h5,LV,show ¬(t.rows[j].vals.length:Int)=t.attrs.length by omega];refine hQ2 _ _ _ ?_;simp -dsimp[];exact hx
     ·rw[pF (by omega)]at hx;refine wx ?_;simp -dsimp[hjb,LS,LR];refine hQ2 _ _ _ ?_;simp -dsimp[];exact hx
def ofV(m:Int):Vl :=
 if m=0 then⟨1,0,pE⟩ else
 if m=1 then⟨1,1,pE⟩ else
 if m=2 then⟨1,2,pE⟩ else
 if m=3 then⟨0,0,pE⟩ else
 if m=4 then⟨2,0,⟨#[97]⟩⟩ else
 if m=5 then⟨2,0,⟨#[98]⟩⟩ else
 if m=6 then⟨2,0,pE⟩ else
 if m=7 then⟨3,1,pE⟩ else
 if m=8 then⟨1,-1,pE⟩ else
 if m=9 then⟨2,0,⟨#[97,98]⟩⟩ else
 if m=10 then⟨3,2,pE⟩ else
 ⟨1,7,pE⟩
def ofC(c:Int):Vl:=ofV (c.tmod 12)
theorem of01(c:Int):aE Tryz.prog 107 [.int .u8 c] fun r=>r=ac (ofC c):=by
 unfold ofC;obtain⟨m,hm⟩:∃m,m=c.tmod 12:=⟨_,rfl⟩;rw[←hm];have hm:=hm.symm;by_cases h0:m=0
 ·have e:ofV m=ofV 0:=by rw[h0]
  rw[e];refine sPx Tryz.func107 rfl rfl ?_;simp -dsimp[Tryz.f107,ou,hm,h0];rfl
 by_cases h1:m=1
 ·have e:ofV m=ofV 1:=by rw[h1]
  rw[e];refine sPx Tryz.func107 rfl rfl ?_;simp -dsimp[Tryz.f107,ou,hm,h1];rfl
 by_cases h2:m=2
 ·have e:ofV m=ofV 2:=by rw[h2]
  rw[e];refine sPx Tryz.func107 rfl rfl ?_;simp -dsimp[Tryz.f107,ou,hm,h2];rfl
 by_cases h3:m=3
 ·have e:ofV m=ofV 3:=by rw[h3]
  rw[e];refine sPx Tryz.func107 rfl rfl ?_;simp -dsimp[Tryz.f107,ou,hm,h3];rfl
 by_cases h4:m=4
 ·have e:ofV m=ofV 4:=by rw[h4]
  rw[e];refine sPx Tryz.func107 rfl rfl ?_;simp -dsimp[Tryz.f107,ou,hm,h4];rfl
 by_cases h5:m=5
 ·have e:ofV m=ofV 5:=by rw[h5]
  rw[e];refine sPx Tryz.func107 rfl rfl ?_;simp -dsimp[Tryz.f107,ou,hm,h5];rfl
 by_cases h6:m=6
 ·have e:ofV m=ofV 6:=by rw[h6]
  rw[e];refine sPx Tryz.func107 rfl rfl ?_;simp -dsimp[Tryz.f107,ou,hm,h6];rfl
 by_cases h7:m=7
 ·have e:ofV m=ofV 7:=by rw[h7]
  rw[e];refine sPx Tryz.func107 rfl rfl ?_;simp -dsimp[Tryz.f107,ou,hm,h7];rfl
 by_cases h8:m=8
 ·have e:ofV m=ofV 8:=by rw[h8]
  rw[e];refine sPx Tryz.func107 rfl rfl ?_;simp -dsimp[Tryz.f107,ou,hm,h8];rfl
 by_cases h9:m=9
 ·have e:ofV m=ofV 9:=by rw[h9]
  rw[e];refine sPx Tryz.func107 rfl rfl ?_;simp -dsimp[Tryz.f107,ou,hm,h9];rfl
 by_cases h10:m=10
 ·have e:ofV m=ofV 10:=by rw[h10]
  rw[e];refine sPx Tryz.func107 rfl rfl ?_;simp -dsimp[Tryz.f107,ou,hm,h10];rfl
 have e:ofV m=⟨1,7,pE⟩:=by unfold ofV;simp[h0,h1,h2,h3,h4,h5,h6,h7,h8,h9,h10]
 rw[e];refine sPx Tryz.func107 rfl rfl ?_;simp -dsimp[Tryz.f107,ou,hm,h0,h1,h2,h3,h4,h5,h6,h7,h8,h9,h10];rfl
def lfB:V→V→Prop
 | x,y=>y=x∨(∃z xs,x = .lst z true xs∧y = .lst z false xs)∨(∃z,x = .nilS∧y = .lst z false [])
def LfL:List V→List V→Prop
 | [],[]=>True
 | x::xs,y::ys=>lfB x y∧LfL xs ys
 | _,_=>False
theorem LfL.len:∀{xs ys:List V},LfL xs ys→xs.length=ys.length
 | [],[],_=>rfl
 | [],_::_,h=>h.elim
 | _::_,[],h=>h.elim
 | _::_,_::_,h=>by simp[h.2.len]
theorem LfL.at_:∀{xs ys:List V},LfL xs ys→∀(i:Nat) x y,xs[i]?=some x→ys[i]?=some y→lfB x y
 | [],_,_,i,x,y,h,_=>by simp at h
 | _::_,[],h,_,_,_,_,_=>h.elim
 | a::xs,b::ys,h,0,x,y,h1,h2=>by simp at h1 h2;subst h1;subst h2;exact h.1
 | a::xs,b::ys,h,i+1,x,y,h1,h2=>h.2.at_ i x y (by simpa using h1) (by simpa using h2)
theorem mU{s:AM.St}{x y:V}{u:Value}(h:Rel s x u)(hl:lfB x y):Rel s y u:=by
 rcases hl with rfl | ⟨z,xs,rfl,rfl⟩ | ⟨z,rfl,rfl⟩
 ·exact h
 ·cases h with
  | lst _ _ _ A cap b off u hcap hfull hA hz hcell hrel=>exact .lst z false xs A cap b off u hcap (fun h=>by cases h) hA hz hcell hrel
 ·cases h;exact bR z false none 0 (fun _=>rfl)
theorem lf_one{x y:V}(hl:lfB x y)(h:x.one=true):y.one=true:=by
 rcases hl with rfl | ⟨z,xs,rfl,rfl⟩ | ⟨z,rfl,rfl⟩
 ·exact h
 ·rfl
 ·rfl
theorem W_lf{P:Program}(k0:Nat)(fr' cs':List V){c:Code}{Q:Exit→List V→List B→Prop}{fr:List V}{H:List B}{cs:List V}(hk:H[k0]?=some (.cells cs))(ho:LfL fr fr')(hc:LfL cs cs')
  (h:W P c Q fr' (H.set k0 (.cells cs'))):W P c Q fr H:=by
 intro s a hA hg hf hd;obtain⟨rfl,hZ⟩:=hA;have hst:=bF (w:=s.w) (bl':=.cells cs') hg hk (lvC hk) trivial rfl rfl rfl (pI _) (fun _ _ _=>rfl);have hl:=ho.len;have hlc:=hc.len
 have hgd:AM.Good (s.setB s.w k0 (.cells cs')):=by
  refine bP hg hk (lvC hk) trivial rfl rfl rfl (pI _) (fun _ _ _=>rfl) (fun hst=>?_);obtain⟨h1,vs,t,h2,h3,h4⟩:=hg.blk k0 _ hk;refine⟨fun d hd=>?_,vs,t,h2,by omega,fun i d u hd hu=>?_⟩
  ·obtain⟨i,hi⟩:=List.mem_iff_getElem?.1 hd;have hx:cs[i]?=some (cs[i]'(by have:=aB hi;omega)):=ov _;exact lf_one (hc.at_ i _ d hx hi) (h1 _ (ow _))
  ·have hx:cs[i]?=some (cs[i]'(by have:=aB hd;omega)):=ov _;exact(mU (h4 i _ u hx hu) (hc.at_ i _ d hx hd)).step hst
 have:=h (s.setB s.w k0 (.cells cs')) a ⟨rfl,hZ.step hst⟩ hgd ⟨by rw[hf.len,hl],fun i v u hv hu=>by
  have hx:fr[i]?=some (fr[i]'(by have:=aB hv;omega)):=ov _
  exact(mU (hf.rel i _ u hx hu) (ho.at_ i _ v hx hv)).step hst⟩ hd
 exact wp_mono this fun _ _ _ hl=>bS hst hl
theorem lfB_refl(x:V):lfB x x:=.inl rfl
theorem nu:∀xs:List V,LfL xs xs
 | []=>trivial
 | x::xs=>⟨lfB_refl x,nu xs⟩
end
end Go.Proofs.YtjogkbekekdkjaaGreatDoor
