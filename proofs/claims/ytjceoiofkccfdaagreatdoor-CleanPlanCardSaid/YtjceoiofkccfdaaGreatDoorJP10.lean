/- JP10: own texts of this seat, joined and shortened by pack4.py: C3, W1, W2, Pl1, Enc, W6, W7, W8, W9, W10, Pl2, W12, W13, W16, W17, K0, T1, T2, T3, T4, T5, Wk, T6, T7, T8, T9, T10, Wd, T11, T12. -/
import Derived.Test.YtjceoiofkccfdaaGreatDoorJP6
import Derived.Test.YtjceoiofkccfdaaGreatDoorJP9
import Derived.WalkSpells
import Derived.WalkLawsBesides
import Derived.Lib.Hide
import Derived.Maps.AppendAt
set_option linter.unusedVariables false
set_option linter.unusedSimpArgs false
set_option maxRecDepth 100000
set_option maxHeartbeats 64000000
open Bool renaming and_eq_true→gN,false_eq_true→gQ,false_and→gV,true_and→gX,or_eq_true→gm,false_or→gz,not_eq_true'→iK,and_false→ib,eq_iff_iff→ii,true_or→jC
open ByteArray renaming empty→gI
open List renaming replicate→gG,mem_of_getElem?→gH,getElem?_eq_getElem→gJ,range→gM,append_nil→gP,getElem_mem→gR,drop_eq_getElem_cons→gT,drop_of_length_le→gY,append_assoc→gn,mem_of_mem_take→gu,drop_zero→iG,getElem?_cons_succ→iV,range_succ→ij,any_cons→iq,all_cons→jA
open Nat renaming le_refl→gL,beq→gZ,zero_add→iA,eq_of_beq_eq_true→iN,zero_le→ia
namespace Go.Proofs.YtjceoiofkccfdaaGreatDoor
section
open Go Go.AM Go.RowKit
theorem mixed:Tryz.prog.follows .mixedOrders=true:=by kernel_rfl
theorem wx{c:Code}{Q:Exit→List V→List B→Prop}{fr:List V}{H:List B}(h:WX T (aG Tryz.prog) (LW Tryz.prog) c Q fr H):W Tryz.prog c Q fr H:=W_x tok mixed h
theorem sPx{f:FuncId}{fn:Func}{c:Code}(hf:Tryz.prog.funcs[f]?=some fn)(hb:fn.body=some c)(hn:(fn.name == "runtime.NumGoroutine")=false){args:List V}{K:V→Prop}(h:WX T (aG Tryz.prog) (LW Tryz.prog) c (retQ T fn.results.toList fun r H=>∃r',Exp H r r'∧AM.Pure r'∧K r') (args++gG (fn.ntmps-args.length) (.tup [])) []):aJ Tryz.prog f args K:=ck (bM tok hf hb hn (wx h))
theorem sOx{f:FuncId}{fn:Func}{c:Code}(hf:Tryz.prog.funcs[f]?=some fn)(hb:fn.body=some c)(hn:(fn.name == "runtime.NumGoroutine")=false){args:List V}{K:Nat→Nat→List V→Prop}(h:WX T (aG Tryz.prog) (LW Tryz.prog) c (retQ T fn.results.toList fun r H=>∃k e z xs,r = .buf k 0 xs.length xs.length∧H[k]?=some (.buf e z xs false)∧(∀x∈xs,AM.Pure x)∧K e z xs) (args++gG (fn.ntmps-args.length) (.tup [])) []):dX Tryz.prog f args K:=conO_of_conH (bM tok hf hb hn (wx h))
theorem tkf(n:Nat):TOk Tryz.prog (ep T fun t=>t == n):=tok_flag tok _
def ext:aU:=fun f args H=>match f,args with
 | 257,[.int .u32 x]=>some (.int .i64 (tzI x),H)
 | 282,[.str a,.str b]=>some (.int .i64 (cmpS a b),H)
 | _,_=>none
theorem ext_ok:aL Tryz.prog ext:=fun f args H r H' h=>by
 unfold ext at h;split at h
 ·cases h;rename_i x;have:=ah (H:=H) (tz_con x) (by simp);simpa only[aG,gP] using this
 ·cases h;rename_i a b;have:=ah (H:=H) (cmp_con a b) (by simp);simpa only[aG,gP] using this
 ·cases h
theorem allNamed:(Tryz.prog.funcs.toList.all fun fn=>!(fn.name == "runtime.NumGoroutine"))=true:=by kernel_rfl
theorem aP:∀(f:Nat) (fn:Func),Tryz.prog.funcs[f]?=some fn→(fn.name == "runtime.NumGoroutine")=false:=fun f fn h=>by
 have:=List.all_eq_true.1 allNamed fn (by rw[Array.mem_toList_iff];exact Array.mem_of_getElem? h);simpa using this
def buf1(H:List B):List V→List V→Option (Nat×Nat×Nat×List V)
 | a::as',b::bs=>if eqV 40 a b=true then buf1 H as' bs else match a with
  | .buf k 0 n m=>match H[k]? with
   | some (.buf e z xs _)=>if n=xs.length∧m=xs.length∧eqV 40 (.lst z false xs) b=true∧eqL (eqV 40) as' bs=true then some (k,e,z,xs) else none
   | _=>none
  | _=>none
 | _,_=>none
theorem repF_refl(p q:V):∀xs:List V,ef p q xs xs
 | []=>trivial
 | _::xs=>⟨.inl rfl,repF_refl p q xs⟩
theorem buf1_ok{H:List B} : ∀{args ga:List V} {k e z:Nat} {xs:List V},buf1 H args ga=some (k,e,z,xs)→(∃fz,H[k]?=some (.buf e z xs fz))∧ef (.buf k 0 xs.length xs.length) (.lst z false xs) args ga
 | [],_,_,_,_,_,h=>by simp[buf1]at h
 | _::_,[],_,_,_,_,h=>by simp[buf1]at h
 | a::as',b::bs,k,e,z,xs,h=>by
  unfold buf1 at h;split at h
  ·rename_i he;obtain⟨h1,h2⟩:=buf1_ok h;exact⟨h1,.inl (bX _ _ _ he).symm,h2⟩
  ·split at h
   ·rename_i k' n m;split at h
    ·rename_i e' z' xs' fz hk;split at h
     ·rename_i hc;obtain⟨rfl,rfl,h3,h4⟩:=hc;cases h;refine⟨⟨fz,hk⟩,.inr ⟨rfl,(bX _ _ _ h3).symm⟩,?_⟩;rw[bn (bX 40) h4];exact repF_refl _ _ _
     ·cases h
    ·cases h
   ·cases h
def dF(g:FuncId)(ga:List V)(gr:V)(ext:aU):aU:=fun f args H=>if gZ f g then(if eqL (eqV 40) args ga then some (gr,H) else match buf1 H args ga with
 | some _=>some (gr,H)
 | none=>ext f args H) else ext f args H
def fu(g:FuncId)(ga:List V)(gr:V)(ext:aU):aU:=fun f args H=>if gZ f g then(if eqL (eqV 40) args ga then some (gr,H) else match buf1 H args ga with
 | some (k,e,z,xs)=>some (gr,H.set k (.buf e z xs true))
 | none=>ext f args H) else ext f args H
theorem pure_of_lst{z:Nat}{f:Bool}{xs:List V}(h:AM.Pure (.lst z f xs)):∀x∈xs,AM.Pure x:=by cases h;assumption
theorem ay{ext:aU}(he:aL Tryz.prog ext){g:FuncId}{ga:List V}{gr:V}(hc:aJ Tryz.prog g ga fun x=>x=gr)(hq:∀a∈ga,AM.Pure a)(hs:Scalar gr):aL Tryz.prog (dF g ga gr ext):=fun f args H r H' h=>by
 unfold dF at h;split at h
 ·rename_i hf;have hfg:f=g:=iN hf;subst hfg;split at h
  ·rename_i ha;have ha:=bn (bX 40) ha;cases h;subst ha;have:=ah (H:=H) hc hq;simpa only[aG,gP] using this
  ·split at h
   ·rename_i o ho;obtain⟨k,e,z,xs⟩:=o;cases h;obtain⟨⟨fz,hk⟩,hr⟩:=buf1_ok ho
    have:=callX (H:=H) (args:=args) hc hr.len (fun i a a' h1 h2=>by
     have hp:=hq a' (gH h2)
     rcases hr.at_ i a a' h1 h2 with rfl | ⟨rfl,rfl⟩
     ·exact .pure _ hp
     ·exact exp_buf hk rfl (pure_of_lst hp)) hs
    simpa only[aG,gP] using this
   ·exact he f args H r H' h
 ·exact he f args H r H' h
theorem bp{ext:aU}(he:aL Tryz.prog ext){g:FuncId}{ga:List V}{gr:V}(hc:aJ Tryz.prog g ga fun x=>x=gr)(hq:∀a∈ga,AM.Pure a):aL Tryz.prog (fu g ga gr ext):=fun f args H r H' h=>by
 unfold fu at h;split at h
 ·rename_i hf;have hfg:f=g:=iN hf;subst hfg;split at h
  ·rename_i ha;have ha:=bn (bX 40) ha;cases h;subst ha;have:=ah (H:=H) hc hq;simpa only[aG,gP] using this
  ·split at h
   ·rename_i k e z xs ho;cases h;obtain⟨⟨fz,hk⟩,hr⟩:=buf1_ok ho;have:=callF (H:=H) (args:=args) k hk hc hr hq;simpa only[aG,gP] using this
   ·exact he f args H r H' h
 ·exact he f args H r H' h
end
end Go.Proofs.YtjceoiofkccfdaaGreatDoor
namespace Go.Proofs.YtjceoiofkccfdaaGreatDoor
section
open Go Go.AM
def dG(n:Int):V:=.int .i64 n
def L1(f:Bool)(xs:List Int):V:=.lst 1 f (xs.map dG)
@[simp] theorem encI_pure (n:Int):AM.Pure (dG n):=by simp[dG]
@[simp] theorem L1_pure (f:Bool) (xs:List Int):AM.Pure (L1 f xs):=by simp[L1,dG]
theorem wrap64{n:Int}(h1 : -9223372036854775808≤n)(h2:n<9223372036854775808):IntKind.i64.wrap n=n:=by rw[IntKind.wrap_i64];omega
theorem aZ(i:Nat)(h:i<9223372036854775807):IntKind.i64.wrap ((i:Int)+1)=((i+1:Nat):Int):=by rw[wrap64 (by omega) (by omega)];rfl
def cS(x y:Int):Int:=if x<y then -1 else if y<x then 1 else 0
end
end Go.Proofs.YtjceoiofkccfdaaGreatDoor
section
namespace Go.Proofs.YtjceoiofkccfdaaGreatDoor
open Go Go.AM
end Go.Proofs.YtjceoiofkccfdaaGreatDoor
end
namespace Go.Proofs.YtjceoiofkccfdaaGreatDoor
section
open Go Go.AM
def LL(g:Bool)(es:List (List Int)):V:=.lst 1 g (es.map (L1 false))
def encH(f g:Bool)(vs:List Int)(es:List (List Int)):V:=.agg [L1 f vs,LL g es]
@[simp] theorem LL_pure (g:Bool) (es:List (List Int)):AM.Pure (LL g es):=by simp[LL]
@[simp] theorem encH_pure (f g:Bool) (vs:List Int) (es:List (List Int)):AM.Pure (encH f g vs es):=by simp[encH]
@[simp] theorem encI_oneV (n:Int):dW (dG n)=true:=rfl
@[simp] theorem L1_oneV (f:Bool) (xs:List Int):dW (L1 f xs)=true:=rfl
end
end Go.Proofs.YtjceoiofkccfdaaGreatDoor
section
namespace Go.Proofs.YtjceoiofkccfdaaGreatDoor
open Go Go.AM
end Go.Proofs.YtjceoiofkccfdaaGreatDoor
end
namespace Go.Proofs.YtjceoiofkccfdaaGreatDoor
section
open Go Go.AM
theorem wrapN(n:Nat)(h:n<9223372036854775807):IntKind.i64.wrap (n:Int)=n:=wrap64 (by omega) (by omega)
end
end Go.Proofs.YtjceoiofkccfdaaGreatDoor
section
namespace Go.Proofs.YtjceoiofkccfdaaGreatDoor
open Go Go.AM
end Go.Proofs.YtjceoiofkccfdaaGreatDoor
end
section
namespace Go.Proofs.YtjceoiofkccfdaaGreatDoor
open Go Go.AM
end Go.Proofs.YtjceoiofkccfdaaGreatDoor
end
namespace Go.Proofs.YtjceoiofkccfdaaGreatDoor
section
open Go Go.AM
def encU(n:Int):V:=.int .u8 n
@[simp] theorem encU_pure (n:Int):AM.Pure (encU n):=by simp[encU]
end
end Go.Proofs.YtjceoiofkccfdaaGreatDoor
section
namespace Go.Proofs.YtjceoiofkccfdaaGreatDoor
open Go Go.AM
end Go.Proofs.YtjceoiofkccfdaaGreatDoor
end
section
namespace Go.Proofs.YtjceoiofkccfdaaGreatDoor
open Go Go.AM
end Go.Proofs.YtjceoiofkccfdaaGreatDoor
end
section
namespace Go.Proofs.YtjceoiofkccfdaaGreatDoor
open Go Go.AM Go.RowKit
end Go.Proofs.YtjceoiofkccfdaaGreatDoor
end
section
namespace Go.Proofs.YtjceoiofkccfdaaGreatDoor
open Go Go.AM
end Go.Proofs.YtjceoiofkccfdaaGreatDoor
end
namespace Go.Proofs.YtjceoiofkccfdaaGreatDoor
section
open Go Go.AM
def mE(us:List Int):List (V×V):=us.map fun x=>(V.int .i64 x,V.bool true)
theorem mE_snoc(us:List Int)(x:Int):mE (us++[x])=mE us++[(V.int .i64 x,V.bool true)]:=by simp[mE]
@[simp ↓ high] theorem rbB_mE (n:Nat) (kk:KK) (us:List Int):rbB n (.map kk (mE us))↔True:=by
 refine⟨fun _=>trivial,fun _ p hp=>?_⟩;obtain⟨x,_,rfl⟩:=List.mem_map.1 hp;exact⟨trivial,trivial⟩
@[simp ↓ high] theorem rbB_mE2 (n:Nat) (kk:KK) (us:List Int) (x:Int):rbB n (.map kk (mE us++[(V.int .i64 x,V.bool true)]))↔True:=by
 rw[←mE_snoc];exact rbB_mE n kk _
@[simp ↓ high] theorem forall_rbB_cons (n:Nat) (b:B) (l:List B):(∀bl∈b::l,rbB n bl)↔(rbB n b∧∀bl∈l,rbB n bl):=List.forall_mem_cons
@[simp ↓ high] theorem forall_rbB_nil (n:Nat):(∀bl∈([]:List B),rbB n bl)↔True:=by simp
end
end Go.Proofs.YtjceoiofkccfdaaGreatDoor
section

end
namespace Go.Proofs.YtjceoiofkccfdaaGreatDoor
section
open Go Go.AM
def seq(a b:ByteArray):Bool:=a.toList == b.toList
def bF(c:Int):Bool:=decide (97≤c)&&decide (c≤122)||decide (65≤c)&&decide (c≤90)||decide (c=95)
theorem dz(c:Int):(97≤c∧c≤122∧bF c=true)∨(97≤c∧¬c≤122∧65≤c∧¬c≤90∧¬c=95∧bF c=false)∨(¬97≤c∧65≤c∧c≤90∧bF c=true)∨(¬97≤c∧65≤c∧¬c≤90∧c=95∧bF c=true)∨(¬97≤c∧65≤c∧¬c≤90∧¬c=95∧bF c=false)∨(¬97≤c∧¬65≤c∧¬c=95∧bF c=false):=by
 have h:bF c=decide ((97≤c∧c≤122)∨(65≤c∧c≤90)∨c=95):=by
  unfold bF;simp only[Bool.decide_or,Bool.decide_and,Bool.or_assoc]
 rw[h];simp only[decide_eq_true_eq,decide_eq_false_iff_not];omega
theorem fc(c:Int):aJ Tryz.prog 100 [.int .u8 c] fun r=>r = .bool (bF c):=by
 rcases dz c with⟨h1,h2,h⟩ | ⟨h1,h2,h3,h4,h5,h⟩ | ⟨h1,h2,h3,h⟩ | ⟨h1,h2,h3,h4,h⟩ | ⟨h1,h2,h3,h4,h⟩ | ⟨h1,h2,h3,h⟩
 all_goals
  rw[h];refine sPx Tryz.func100 rfl rfl ?_;simp -dsimp[Tryz.f100,gG, *]
def aj(s:ByteArray)(i:Nat):Int:=((s[i]?).map fun b=>(b.toNat:Int)).getD 0
theorem cT{s:ByteArray}{i:Nat}(h:i<s.size):s[i]?=some s[i]∧(s[i].toNat:Int)=aj s i:=by
 have h1:s[i]?=some s[i]:=getElem?_pos s i h;exact⟨h1,by unfold aj;rw[h1];rfl⟩
theorem dr(bs:ByteArray):bs.data.toList.length=bs.size:=by simp
theorem ba_loop(bs:ByteArray):∀(n i:Nat) (r:List UInt8),bs.size-i=n→ByteArray.toList.loop bs i r=r.reverse++bs.data.toList.drop i
 | 0,i,r,h=>by
  have hl:=dr bs;rw[ByteArray.toList.loop,if_neg (by omega),gY (by omega),gP]
 | n+1,i,r,h=>by
  have hl:=dr bs
  have hi:i<bs.size:=by omega
  have hi2:i<bs.data.toList.length:=by omega
  rw[ByteArray.toList.loop,if_pos hi,ba_loop bs n (i+1) _ (by omega),gT hi2,List.reverse_cons,gn];congr 2
  have hi3:i<bs.data.size:=by simpa using hi2
  rw[ByteArray.get!,getElem!_pos bs.data i hi3];rfl
theorem ba_toList(bs:ByteArray):bs.toList=bs.data.toList:=by
 unfold ByteArray.toList;rw[ba_loop bs _ 0 [] rfl];rfl
theorem ba_nil(s:ByteArray):s.toList=[]↔s.size=0:=by
 rw[ba_toList];rw[←List.length_eq_zero_iff,dr]
def okAt(s:ByteArray)(i:Nat):Bool:=bF (aj s i)||(decide (i≠0)&&(decide (48≤aj s i)&&decide (aj s i≤57)))
def ap(s:ByteArray):Bool:=!decide (s.toList=[])&&decide (s.size≤24)&&!(s.toList == [110,117,108,108])&&(gM s.size).all (okAt s)
theorem allno{p:Nat→Bool}{n i:Nat}(h:i<n)(hp:p i=false):(gM n).all p=false:=by
 rw[List.all_eq_false];exact⟨i,by simpa using h,by simp[hp]⟩
theorem bC{p:Nat→Bool}{i:Nat}(h:(gM i).all p=true)(hp:p i=true):(gM (i+1)).all p=true:=by
 rw[ij,List.all_append,h];simp[hp]
theorem fe(s:ByteArray)(hsz:s.size≤maxLen):aJ Tryz.prog 50 [.str s] fun r=>r = .bool (ap s):=by
 by_cases h0:s.toList=[]
 ·rw[show ap s=false by simp[ap,h0]];refine sPx Tryz.func50 rfl rfl ?_;simp -dsimp[Tryz.f50,gG,h0]
 ·by_cases h24:s.size≤24
  ·cases hnl:(s.toList == [110,117,108,108])
   ·rw[show ap s=(gM s.size).all (okAt s) by simp[ap,h0,h24,hnl]];refine sPx Tryz.func50 rfl rfl ?_;simp -dsimp[Tryz.f50,gG,h0,hnl,show ¬(24:Int)<s.size by omega];refine ab (W_loopM 58 0x3fffffffff8003c (by simp[mB]<;>rfl) (σ:=Nat) (fun i=>i≤s.size∧(gM i).all (okAt s)=true) (fun i=>s.size-i) (fun i=>[(19,.int .i64 i)]) (fun _=>[]) 0 ⟨by omega,rfl⟩ (by simp) rfl (by simp) ?_);rintro i ⟨hi,hall⟩ N Q hN hQ;by_cases hb:i<s.size
    ·obtain⟨hx1,hx2⟩:=cT hb;have hok:okAt s i=(bF (aj s i)||(decide (i≠0)&&(decide (48≤aj s i)&&decide (aj s i≤57)))):=rfl;obtain⟨c,hc⟩:∃c,c=aj s i:=⟨_,rfl⟩;rw[←hc]at hx2 hok
     rcases dz c with⟨h1,h2,h⟩ | ⟨h1,h2,h3,h4,h5,h⟩ | ⟨h1,h2,h3,h⟩ | ⟨h1,h2,h3,h4,h⟩ | ⟨h1,h2,h3,h4,h⟩ | ⟨h1,h2,h3,h⟩
     ·rw[h,jC]at hok;refine wx ?_;simp -dsimp[hb,hx1,hx2,h1,h2,aZ i (by unfold maxLen at hsz;omega)];refine hN (i+1) _ _ ⟨by omega,bC hall hok⟩ (by omega) ?_ ⟨[],?_⟩ ?_ ?_<;>simp[or_imp,forall_and,L1,dG]
     ·by_cases hi0:i=0
      ·subst hi0;rw[h,gz,decide_eq_false (by simp),gV]at hok;refine wx ?_;simp -dsimp[hb,hx1,hx2,h1,h2,h3,h4,h5];refine hQ _ _ _ ?_;simp -dsimp[];exact⟨_,hb,hok⟩
      ·rw[h,gz,decide_eq_true hi0,gX,decide_eq_false (show ¬c≤57 by omega),ib]at hok;refine wx ?_;simp -dsimp[hb,hx1,hx2,h1,h2,h3,h4,h5,hi0,show ¬c<48 by omega,show 57<c by omega];refine hQ _ _ _ ?_;simp -dsimp[];exact⟨_,hb,hok⟩
     ·rw[h,jC]at hok;refine wx ?_;simp -dsimp[hb,hx1,hx2,h1,h2,h3,aZ i (by unfold maxLen at hsz;omega)];refine hN (i+1) _ _ ⟨by omega,bC hall hok⟩ (by omega) ?_ ⟨[],?_⟩ ?_ ?_<;>simp[or_imp,forall_and,L1,dG]
     ·rw[h,jC]at hok;refine wx ?_;simp -dsimp[hb,hx1,hx2,h1,h2,h3,h4,aZ i (by unfold maxLen at hsz;omega)];refine hN (i+1) _ _ ⟨by omega,bC hall hok⟩ (by omega) ?_ ⟨[],?_⟩ ?_ ?_<;>simp[or_imp,forall_and,L1,dG]
     ·by_cases hi0:i=0
      ·subst hi0;rw[h,gz,decide_eq_false (by simp),gV]at hok;refine wx ?_;simp -dsimp[hb,hx1,hx2,h1,h2,h3,h4];refine hQ _ _ _ ?_;simp -dsimp[];exact⟨_,hb,hok⟩
      ·rw[h,gz,decide_eq_true hi0,gX,decide_eq_false (show ¬c≤57 by omega),ib]at hok;refine wx ?_;simp -dsimp[hb,hx1,hx2,h1,h2,h3,h4,hi0,show ¬c<48 by omega,show 57<c by omega];refine hQ _ _ _ ?_;simp -dsimp[];exact⟨_,hb,hok⟩
     ·by_cases hi0:i=0
      ·subst hi0;rw[h,gz,decide_eq_false (by simp),gV]at hok;refine wx ?_;simp -dsimp[hb,hx1,hx2,h1,h2,h3];refine hQ _ _ _ ?_;simp -dsimp[];exact⟨_,hb,hok⟩
      ·by_cases h48:c<48
       ·rw[h,gz,decide_eq_false (show ¬48≤c by omega),gV,ib]at hok;refine wx ?_;simp -dsimp[hb,hx1,hx2,h1,h2,h3,hi0,h48];refine hQ _ _ _ ?_;simp -dsimp[];exact⟨_,hb,hok⟩
       ·by_cases h57:57<c
        ·rw[h,gz,decide_eq_true hi0,gX,decide_eq_false (show ¬c≤57 by omega),ib]at hok;refine wx ?_;simp -dsimp[hb,hx1,hx2,h1,h2,h3,hi0,h48,h57];refine hQ _ _ _ ?_;simp -dsimp[];exact⟨_,hb,hok⟩
        ·rw[h,gz,decide_eq_true hi0,gX,decide_eq_true (show c≤57 by omega),decide_eq_true (show 48≤c by omega),Bool.and_true]at hok;refine wx ?_;simp -dsimp[hb,hx1,hx2,h1,h2,h3,hi0,h48,h57,aZ i (by unfold maxLen at hsz;omega)];refine hN (i+1) _ _ ⟨by omega,bC hall hok⟩ (by omega) ?_ ⟨[],?_⟩ ?_ ?_<;>simp[or_imp,forall_and,L1,dG]
    ·obtain rfl:i=s.size:=by omega
     refine wx ?_;simp -dsimp[hb];refine hQ _ _ _ ?_;simp -dsimp[];simpa using hall
   ·rw[show ap s=false by simp[ap,hnl]];refine sPx Tryz.func50 rfl rfl ?_;simp -dsimp[Tryz.f50,gG,h0,hnl,show ¬(24:Int)<s.size by omega]
  ·rw[show ap s=false by simp[ap,h24]];refine sPx Tryz.func50 rfl rfl ?_;simp -dsimp[Tryz.f50,gG,h0,show(24:Int)<s.size by omega]
theorem fW(s:ByteArray)(hsz:s.size≤maxLen):aJ Tryz.prog 57 [.str s] fun r=>r = .bool (ap s):=by
 by_cases h0:s.toList=[]
 ·rw[show ap s=false by simp[ap,h0]];have h00:=(ba_nil s).1 h0;refine sPx Tryz.func57 rfl rfl ?_;simp -dsimp[Tryz.f57,gG,h00]
 ·have h00:¬s.size=0:=fun h=>h0 ((ba_nil s).2 h)
  have hpos:0<s.size:=by omega
  obtain⟨hx1,hx2⟩:=cT hpos;have hl0:=fc (aj s 0);rw[←hx2]at hl0;by_cases h24:s.size≤24
  ·cases hlt:bF (aj s 0)
   ·have hok0:okAt s 0=false:=by unfold okAt;rw[hlt];simp
    rw[show ap s=false by unfold ap;rw[allno hpos hok0,ib]];rw[hx2,hlt]at hl0;rw[←hx2]at hl0;refine sPx Tryz.func57 rfl rfl ?_;simp -dsimp[Tryz.f57,gG,h00,show ¬(24:Int)<s.size by omega,hx1];refine cPx (hl0) (by simp) ?_;simp -dsimp[]
   ·rw[hx2,hlt]at hl0;rw[←hx2]at hl0;cases hnl:(s.toList == [110,117,108,108])
    ·rw[show ap s=(gM s.size).all (okAt s) by simp[ap,h0,h24,hnl]];refine sPx Tryz.func57 rfl rfl ?_;simp -dsimp[Tryz.f57,gG,h00,show ¬(24:Int)<s.size by omega,hx1];refine cPx (hl0) (by simp) ?_;simp -dsimp[hnl];refine ab (W_loopM 45 0x1fffffc0000c (by simp[mB]<;>rfl) (σ:=Nat) (fun i=>i≤s.size∧(gM i).all (okAt s)=true) (fun i=>s.size-i) (fun i=>[(3,.int .i64 i)]) (fun _=>[]) 0 ⟨by omega,rfl⟩ (by simp) rfl (by simp) ?_);rintro i ⟨hi,hall⟩ N Q hN hQ;by_cases hb:i<s.size
     ·obtain⟨hy1,hy2⟩:=cT hb;have hok:okAt s i=(bF (aj s i)||(decide (i≠0)&&(decide (48≤aj s i)&&decide (aj s i≤57)))):=rfl;obtain⟨c,hc⟩:∃c,c=aj s i:=⟨_,rfl⟩;rw[←hc]at hy2 hok;have hlc:=fc c;cases h:bF c
      ·have hi0:¬i=0:=fun e=>by subst e;rw[←hc]at hlt;rw[hlt]at h;cases h
       rw[h]at hlc;rw[h,gz,decide_eq_true hi0,gX]at hok;by_cases h48:c<48
       ·rw[decide_eq_false (show ¬48≤c by omega),gV]at hok;refine wx ?_;simp -dsimp[hb,hy1,hy2];refine cPx (hlc) (by simp) ?_;simp -dsimp[hb,hy1,hy2,h48];refine hQ _ _ _ ?_;simp -dsimp[];exact⟨_,hb,hok⟩
       ·by_cases h57:57<c
        ·rw[decide_eq_false (show ¬c≤57 by omega),ib]at hok;refine wx ?_;simp -dsimp[hb,hy1,hy2];refine cPx (hlc) (by simp) ?_;simp -dsimp[hb,hy1,hy2,h48,h57];refine hQ _ _ _ ?_;simp -dsimp[];exact⟨_,hb,hok⟩
        ·rw[decide_eq_true (show c≤57 by omega),decide_eq_true (show 48≤c by omega),Bool.and_true]at hok;refine wx ?_;simp -dsimp[hb,hy1,hy2];refine cPx (hlc) (by simp) ?_;simp -dsimp[hb,hy1,hy2,h48,h57,aZ i (by unfold maxLen at hsz;omega)];refine hN (i+1) _ _ ⟨by omega,bC hall hok⟩ (by omega) ?_ ⟨[],?_⟩ ?_ ?_<;>simp[or_imp,forall_and,L1,dG]
      ·rw[h]at hlc;rw[h,jC]at hok;refine wx ?_;simp -dsimp[hb,hy1,hy2];refine cPx (hlc) (by simp) ?_;simp -dsimp[aZ i (by unfold maxLen at hsz;omega)];refine hN (i+1) _ _ ⟨by omega,bC hall hok⟩ (by omega) ?_ ⟨[],?_⟩ ?_ ?_<;>simp[or_imp,forall_and,L1,dG]
     ·obtain rfl:i=s.size:=by omega
      refine wx ?_;simp -dsimp[hb];refine hQ _ _ _ ?_;simp -dsimp[];simpa using hall
    ·rw[show ap s=false by simp[ap,hnl]];refine sPx Tryz.func57 rfl rfl ?_;simp -dsimp[Tryz.f57,gG,h00,show ¬(24:Int)<s.size by omega,hx1];refine cPx (hl0) (by simp) ?_;simp -dsimp[hnl]
  ·rw[show ap s=false by simp[ap,h24]];refine sPx Tryz.func57 rfl rfl ?_;simp -dsimp[Tryz.f57,gG,h00,show(24:Int)<s.size by omega]
def LS(f:Bool)(ss:List ByteArray):V:=.lst 1 f (ss.map V.str)
@[simp] theorem LS_pure (f:Bool) (ss:List ByteArray):AM.Pure (LS f ss):=by simp[LS]
@[simp] theorem pure_takeS (i:Nat) (ss:List ByteArray):(∀x,x∈List.take i (List.map V.str ss)→AM.Pure x)↔True:=iff_true_intro fun x hx=>by
 obtain⟨s,_,rfl⟩:=List.mem_map.1 (gu hx);exact .str s
def ixS(ss:List ByteArray)(x:ByteArray)(i:Nat):Int:=if h:i<ss.length then(if(x.toList == ss[i].toList)=true then(i:Int) else ixS ss x (i+1)) else -1
termination_by ss.length-i
def memS(ss:List ByteArray)(x:ByteArray):Bool:=ss.any fun e=>x.toList == e.toList
theorem ixS_mem(ss:List ByteArray)(x:ByteArray)(i:Nat):decide (0≤ixS ss x i)=memS (ss.drop i) x:=by
 unfold memS
 fun_induction ixS ss x i with
 | case1 i h h0=>rw[gT h,iq,h0];simp
 | case2 i h h0 ih=>rw[gT h,iq,ih];simp[h0]
 | case3 i h=>rw[gY (by omega)];rfl
theorem indexS(ss:List ByteArray)(x:ByteArray)(f:Bool)(hl:ss.length≤1000000):aJ Tryz.prog 96 [LS f ss,.str x] fun r=>r = .int .i64 (ixS ss x 0):=by
 refine sPx Tryz.func96 rfl rfl ?_;simp -dsimp[Tryz.f96,gG,LS];refine ab (W_loopM 19 0x7ff30 (by simp[mB]<;>rfl) (σ:=Nat) (fun i=>ixS ss x i=ixS ss x 0) (fun i=>ss.length-i) (fun i=>[(8,.int .i64 i)]) (fun _=>[]) 0 rfl (by simp) rfl (by simp) ?_);intro i hx N Q hN hQ;by_cases hb:i<ss.length
 ·rw[ixS,dif_pos hb]at hx;cases hq:(x.toList == ss[i].toList)
  ·rw[hq,if_neg (by simp)]at hx;refine wx ?_;simp -dsimp[hb,hq];simp -dsimp[aZ i (by omega)];refine hN (i+1) _ _ hx (by omega) (by simp) ⟨[],rfl⟩ (by simp) (by simp)
  ·rw[hq,if_pos rfl]at hx;refine wx ?_;simp -dsimp[hb,hq];refine hQ _ _ _ ?_;simp -dsimp[];exact hx
 ·rw[ixS,dif_neg hb]at hx;refine wx ?_;simp -dsimp[hb];refine hQ _ _ _ ?_;simp -dsimp[];exact hx
theorem containsS(ss:List ByteArray)(x:ByteArray)(f:Bool)(hl:ss.length≤1000000):aJ Tryz.prog 51 [LS f ss,.str x] fun r=>r = .bool (memS ss x):=by
 have h0:=ixS_mem ss x 0;rw[iG]at h0;refine sPx Tryz.func51 rfl rfl ?_;simp -dsimp[Tryz.f51,gG];refine cPx (indexS ss x f hl) (by simp) ?_;simp -dsimp[];rw[←h0]
theorem beq_comm'(a b:List UInt8):(a == b)=(b == a):=by rw[ii,beq_iff_eq,beq_iff_eq];exact eq_comm
theorem attrS(ss:List ByteArray)(x:ByteArray)(f:Bool)(hl:ss.length≤1000000):aJ Tryz.prog 101 [LS f ss,.str x] fun r=>r = .int .i64 (ixS ss x 0):=by
 refine sPx Tryz.func101 rfl rfl ?_;simp -dsimp[Tryz.f101,gG,LS];refine ab (W_loopM 19 0x7fff0 (by simp[mB]<;>rfl) (σ:=Nat) (fun i=>ixS ss x i=ixS ss x 0) (fun i=>ss.length-i) (fun i=>[(5,.int .i64 i)]) (fun _=>[]) 0 rfl (by simp) rfl (by simp) ?_);intro i hx N Q hN hQ;by_cases hb:i<ss.length
 ·rw[ixS,dif_pos hb,beq_comm']at hx;cases hq:(ss[i].toList == x.toList)
  ·rw[hq,if_neg (by simp)]at hx;refine wx ?_;simp -dsimp[hb,hq];simp -dsimp[aZ i (by omega)];refine hN (i+1) _ _ hx (by omega) (by simp) ⟨[],rfl⟩ (by simp) (by simp)
  ·rw[hq,if_pos rfl]at hx;refine wx ?_;simp -dsimp[hb,hq];refine hQ _ _ _ ?_;simp -dsimp[];exact hx
 ·rw[ixS,dif_neg hb]at hx;refine wx ?_;simp -dsimp[hb];refine hQ _ _ _ ?_;simp -dsimp[];exact hx
def sAt(ss:List ByteArray)(i:Nat):ByteArray:=ss.getD i gI
def nmAt(ss:List ByteArray)(i:Nat):Bool:=ap (sAt ss i)&&!memS (ss.take i) (sAt ss i)
def dA(ss:List ByteArray):Bool:=(gM ss.length).all (nmAt ss)
theorem names03(ss:List ByteArray)(f:Bool)(hl:ss.length≤1000000)(hs:∀s∈ss,s.size≤maxLen):aJ Tryz.prog 58 [LS f ss] fun r=>r = .bool (dA ss):=by
 unfold dA;refine sPx Tryz.func58 rfl rfl ?_;simp -dsimp[Tryz.f58,gG,LS];refine ab (W_loopM 27 0x7fffffc (by simp[mB]<;>rfl) (σ:=Nat) (fun i=>i≤ss.length∧(gM i).all (nmAt ss)=true) (fun i=>ss.length-i) (fun i=>[(3,.int .i64 i)]) (fun _=>[]) 0 ⟨by omega,rfl⟩ (by simp) rfl (by simp) ?_);rintro i ⟨hi,hall⟩ N Q hN hQ;by_cases hb:i<ss.length
 ·have hsi:sAt ss i=ss[i]:=by simp[sAt,hb]
  have hok:nmAt ss i=(ap ss[i]&&!memS (ss.take i) ss[i]):=by unfold nmAt;rw[hsi]
  have hc1:=fW ss[i] (hs _ (gR hb));have hc2:=attrS (ss.take i) ss[i] (f&&i == ss.length) (by simp;omega);have hm:=ixS_mem (ss.take i) ss[i] 0;rw[iG]at hm;simp only[LS,List.map_take]at hc2;cases h1:ap ss[i]
  ·rw[h1,gV]at hok;rw[h1]at hc1;refine wx ?_;simp -dsimp[hb];refine .inr ⟨aY (by kernel_rfl),?_⟩;refine bS _ (ah (hc1) (by simp)) ?_;simp -dsimp[];refine hQ _ _ _ ?_;simp -dsimp[];exact⟨_,hb,hok⟩
  ·rw[h1,gX]at hok;rw[h1]at hc1;cases h2:memS (ss.take i) ss[i]
   ·rw[h2]at hok hm;have hneg:=of_decide_eq_false hm;refine wx ?_;simp -dsimp[hb];refine .inr ⟨aY (by kernel_rfl),?_⟩;refine bS _ (ah (hc1) (by simp)) ?_;simp -dsimp[hb,show i≤ss.length by omega];refine bS _ (ah (hc2) (by simp)) ?_;simp -dsimp[show ¬0≤ixS (ss.take i) ss[i] 0 by omega,aZ i (by omega)];refine hN (i+1) _ _ ⟨by omega,bC hall (by rw[hok];rfl)⟩ (by omega) ?_ ⟨[],?_⟩ ?_ ?_<;>simp[or_imp,forall_and,L1,dG]
   ·rw[h2]at hok hm;have hneg:=of_decide_eq_true hm;refine wx ?_;simp -dsimp[hb];refine .inr ⟨aY (by kernel_rfl),?_⟩;refine bS _ (ah (hc1) (by simp)) ?_;simp -dsimp[hb,show i≤ss.length by omega];refine bS _ (ah (hc2) (by simp)) ?_;simp -dsimp[hneg];refine hQ _ _ _ ?_;simp -dsimp[];exact⟨_,hb,hok⟩
 ·obtain rfl:i=ss.length:=by omega
  refine wx ?_;simp -dsimp[hb];refine hQ _ _ _ ?_;simp -dsimp[];simpa using hall
structure Vl where
 k:Int
 n:Int
 s:ByteArray
def aI(v:Vl):V:=.agg [.int .i64 v.k,.int .i64 v.n,.str v.s]
def LV(f:Bool)(vs:List Vl):V:=.lst 3 f (vs.map aI)
@[simp] theorem encV_pure (v:Vl):AM.Pure (aI v):=by simp[aI]
@[simp] theorem LV_pure (f:Bool) (vs:List Vl):AM.Pure (LV f vs):=by simp[LV]
@[simp] theorem encV_oneV (v:Vl):dW (aI v)=true:=rfl
def al(v:Vl):Bool :=
 if v.k=0 then decide (v.n=0)&&v.s.toList.isEmpty else if v.k=1 then v.s.toList.isEmpty else
 if v.k=2 then decide (v.n=0)&&decide (v.s.size≤200) else decide (v.k=3)&&(decide (1≤v.n)&&v.s.toList.isEmpty)
theorem valid01(v:Vl):aJ Tryz.prog 79 [aI v] fun r=>r = .bool (al v):=by
 unfold al;by_cases h0:v.k=0
 ·by_cases hn:v.n=0
  ·rw[if_pos h0,decide_eq_true hn,gX];refine sPx Tryz.func79 rfl rfl ?_;simp -dsimp[Tryz.f79,gG,aI,h0,hn]
  ·rw[if_pos h0,decide_eq_false hn,gV];refine sPx Tryz.func79 rfl rfl ?_;simp -dsimp[Tryz.f79,gG,aI,h0,hn]
 ·rw[if_neg h0];by_cases h1:v.k=1
  ·rw[if_pos h1];refine sPx Tryz.func79 rfl rfl ?_;simp -dsimp[Tryz.f79,gG,aI,h1]
  ·rw[if_neg h1];by_cases h2:v.k=2
   ·rw[if_pos h2];by_cases hn:v.n=0
    ·rw[decide_eq_true hn,gX];by_cases hz:v.s.size≤200
     ·rw[decide_eq_true hz];refine sPx Tryz.func79 rfl rfl ?_;simp -dsimp[Tryz.f79,gG,aI,h2,hn,show(v.s.size:Int)≤200 by omega]
     ·rw[decide_eq_false hz];refine sPx Tryz.func79 rfl rfl ?_;simp -dsimp[Tryz.f79,gG,aI,h2,hn,show ¬(v.s.size:Int)≤200 by omega]
    ·rw[decide_eq_false hn,gV];refine sPx Tryz.func79 rfl rfl ?_;simp -dsimp[Tryz.f79,gG,aI,h2,hn]
   ·rw[if_neg h2];by_cases h3:v.k=3
    ·rw[decide_eq_true h3,gX];by_cases hn:1≤v.n
     ·rw[decide_eq_true hn,gX];refine sPx Tryz.func79 rfl rfl ?_;simp -dsimp[Tryz.f79,gG,aI,h3,hn]
     ·rw[decide_eq_false hn,gV];refine sPx Tryz.func79 rfl rfl ?_;simp -dsimp[Tryz.f79,gG,aI,h3,hn]
    ·rw[decide_eq_false h3,gV];refine sPx Tryz.func79 rfl rfl ?_;simp -dsimp[Tryz.f79,gG,aI,h0,h1,h2,h3]
theorem validV_con(v:Vl):aJ Tryz.prog 99 [aI v] fun r=>r = .bool (al v):=by
 unfold al;by_cases h0:v.k=0
 ·by_cases hn:v.n=0
  ·rw[if_pos h0,decide_eq_true hn,gX];refine sPx Tryz.func99 rfl rfl ?_;simp -dsimp[Tryz.f99,gG,aI,h0,hn]
  ·rw[if_pos h0,decide_eq_false hn,gV];refine sPx Tryz.func99 rfl rfl ?_;simp -dsimp[Tryz.f99,gG,aI,h0,hn]
 ·rw[if_neg h0];by_cases h1:v.k=1
  ·rw[if_pos h1];refine sPx Tryz.func99 rfl rfl ?_;simp -dsimp[Tryz.f99,gG,aI,h1]
  ·rw[if_neg h1];by_cases h2:v.k=2
   ·rw[if_pos h2];by_cases hn:v.n=0
    ·rw[decide_eq_true hn,gX];by_cases hz:v.s.size≤200
     ·rw[decide_eq_true hz];refine sPx Tryz.func99 rfl rfl ?_;simp -dsimp[Tryz.f99,gG,aI,h2,hn,show(v.s.size:Int)≤200 by omega]
     ·rw[decide_eq_false hz];refine sPx Tryz.func99 rfl rfl ?_;simp -dsimp[Tryz.f99,gG,aI,h2,hn,show ¬(v.s.size:Int)≤200 by omega]
    ·rw[decide_eq_false hn,gV];refine sPx Tryz.func99 rfl rfl ?_;simp -dsimp[Tryz.f99,gG,aI,h2,hn]
   ·rw[if_neg h2];by_cases h3:v.k=3
    ·rw[decide_eq_true h3,gX];by_cases hn:1≤v.n
     ·rw[decide_eq_true hn,gX];refine sPx Tryz.func99 rfl rfl ?_;simp -dsimp[Tryz.f99,gG,aI,h3,hn]
     ·rw[decide_eq_false hn,gV];refine sPx Tryz.func99 rfl rfl ?_;simp -dsimp[Tryz.f99,gG,aI,h3,hn]
    ·rw[decide_eq_false h3,gV];refine sPx Tryz.func99 rfl rfl ?_;simp -dsimp[Tryz.f99,gG,aI,h0,h1,h2,h3]
theorem any_drop(p:Vl→Bool)(vs:List Vl)(i:Nat)(h:i<vs.length):(vs.drop i).all p=(p vs[i]&&(vs.drop (i+1)).all p):=by rw[gT h];rfl
theorem valids01(vs:List Vl)(f:Bool)(hl:vs.length≤1000000):aJ Tryz.prog 59 [LV f vs] fun r=>r = .bool (vs.all al):=by
 obtain⟨E,hE⟩:∃E,E=vs.all al:=⟨_,rfl⟩;rw[←hE];refine sPx Tryz.func59 rfl rfl ?_;simp -dsimp[Tryz.f59,gG,LV];refine ab (W_loopM 16 0xfffc (by simp[mB]<;>rfl) (σ:=Nat) (fun i=>(vs.drop i).all al=E) (fun i=>vs.length-i) (fun i=>[(3,.int .i64 i)]) (fun _=>[]) 0 (by rw[iG,hE]) (by simp) rfl (by simp) ?_);rintro i hx N Q hN hQ;by_cases hb:i<vs.length
 ·rw[any_drop _ _ _ hb]at hx;have hc:=valid01 vs[i];cases h1:al vs[i]
  ·rw[h1]at hc;rw[h1,gV]at hx;refine wx ?_;simp -dsimp[hb];refine cPx (hc) (by simp) ?_;simp -dsimp[];refine hQ _ _ _ ?_;simp -dsimp[];simpa using hx
  ·rw[h1]at hc;rw[h1,gX]at hx;refine wx ?_;simp -dsimp[hb];refine cPx (hc) (by simp) ?_;simp -dsimp[aZ i (by omega)];refine hN (i+1) _ _ hx (by omega) (by simp) ⟨[],rfl⟩ (by simp) (by simp)
 ·rw[gY (by omega)]at hx;refine wx ?_;simp -dsimp[hb];refine hQ _ _ _ ?_;simp -dsimp[];simpa using hx
def ixV(p:Vl→Bool)(vs:List Vl)(i:Nat):Int:=if h:i<vs.length then(if p vs[i] then(i:Int) else ixV p vs (i+1)) else -1
termination_by vs.length-i
theorem ixV_any(p:Vl→Bool)(vs:List Vl)(i:Nat):decide (0≤ixV p vs i)=(vs.drop i).any p:=by
 fun_induction ixV p vs i with
 | case1 i h h0=>rw[gT h,iq,h0];simp
 | case2 i h h0 ih=>rw[gT h,iq,ih];simp[h0]
 | case3 i h=>rw[gY (by omega)];rfl
theorem idxFuncV(H:List B)(fv:V)(p:Vl→Bool)(vs:List Vl)(g:Bool)(hes:vs.length≤1000000)(hH:∀bl∈H,rbB H.length bl)(hfv:rb H.length fv)
  (hp:∀m∈vs,aG Tryz.prog fv [aI m] H fun r H'=>r = .bool (p m)∧H'=H):cB Tryz.prog 138 [LV g vs,fv] H fun r H'=>r = .int .i64 (ixV p vs 0)∧H'=H:=by
 refine bM tok Tryz.func138 rfl rfl ?_;refine wx ?_;simp -dsimp[Tryz.f138,gG,LV];refine ab (W_loopM 19 0x7ff30 (by simp[mB]<;>rfl) (σ:=Nat) (fun i=>ixV p vs i=ixV p vs 0) (fun i=>vs.length-i) (fun i=>[(8,.int .i64 i)]) (fun _=>H) 0 rfl (by simp) rfl (by simp) ?_);intro i hx N Q hN hQ;by_cases hb:i<vs.length
 ·rw[ixV,dif_pos hb]at hx;have hc:=hp vs[i] (gR hb);cases hq:p vs[i]
  ·rw[hq]at hc hx;refine wx ?_;simp -dsimp[hb];refine hc.mono ?_;rintro r H' ⟨rfl,rfl⟩;simp -dsimp[aZ i (by omega)];refine hN (i+1) _ _ (by simpa using hx) (by omega) (by simp) ⟨[],by simp⟩ (by simp;exact hfv) hH
  ·rw[hq]at hc hx;refine wx ?_;simp -dsimp[hb];refine hc.mono ?_;rintro r H' ⟨rfl,rfl⟩;simp -dsimp[];refine hQ _ _ _ ?_;simp -dsimp[];simpa using hx
 ·rw[ixV,dif_neg hb]at hx;refine wx ?_;simp -dsimp[hb];refine hQ _ _ _ ?_;simp -dsimp[];simpa using hx
theorem contFuncV(H:List B)(fv:V)(p:Vl→Bool)(vs:List Vl)(g:Bool)(hes:vs.length≤1000000)(hH:∀bl∈H,rbB H.length bl)(hfv:rb H.length fv)
  (hp:∀m∈vs,aG Tryz.prog fv [aI m] H fun r H'=>r = .bool (p m)∧H'=H):cB Tryz.prog 97 [LV g vs,fv] H fun r H'=>r = .bool (vs.any p)∧H'=H:=by
 have h0:=ixV_any p vs 0;rw[iG]at h0;have hc:=idxFuncV H fv p vs g hes hH hfv hp;refine bM tok Tryz.func97 rfl rfl ?_;refine wx ?_;simp -dsimp[Tryz.f97,gG];refine aG.mono (K:=fun r H'=>r = .int .i64 (ixV p vs 0)∧H'=H) hc ?_;rintro r H' ⟨rfl,rfl⟩;simp -dsimp[];rw[←h0]
theorem notValid(v:Vl):aJ Tryz.prog 98 [aI v] fun r=>r = .bool (!al v):=by
 have hc:=validV_con v;simp only[aI]at hc;refine sPx Tryz.func98 rfl rfl ?_;simp -dsimp[Tryz.f98,gG,aI];refine cPx (hc) (by simp) ?_;simp -dsimp[]
theorem validVals(vs:List Vl)(f:Bool)(hl:vs.length≤1000000):aJ Tryz.prog 52 [LV f vs] fun r=>r = .bool (vs.all al):=by
 have hc:=contFuncV [] (.fn 98 []) (fun v=>!al v) vs f hl (by simp) (by simp) (fun m _=>ah (notValid m) (by simp))
 have he:vs.all al = !vs.any fun v=>!al v:=by
  induction vs with
  | nil=>rfl
  | cons v vs ih=>simp only[jA,iq,Bool.not_or,Bool.not_not];rw[ih (by simp at hl;omega) (contFuncV [] (.fn 98 []) (fun v=>!al v) vs f (by simp at hl;omega) (by simp) (by simp) (fun m _=>ah (notValid m) (by simp)))]
 rw[he];refine sPx Tryz.func52 rfl rfl ?_;simp -dsimp[Tryz.f52,gG];refine aG.mono (K:=fun r H'=>r = .bool (vs.any fun v=>!al v)∧H'=[]) hc ?_;rintro r H' ⟨rfl,rfl⟩;simp -dsimp[]
structure Rw where
 id:Int
 vals:List Vl
structure Tb where
 name:ByteArray
 attrs:List ByteArray
 rows:List Rw
def aE(r:Rw):V:=.agg [.int .i64 r.id,LV false r.vals]
def LR(g:Bool)(rs:List Rw):V:=.lst 2 g (rs.map aE)
def aS(f g:Bool)(t:Tb):V:=.agg [.str t.name,LS f t.attrs,LR g t.rows]
@[simp] theorem encRw_pure (r:Rw):AM.Pure (aE r):=by simp[aE]
@[simp] theorem LR_pure (g:Bool) (rs:List Rw):AM.Pure (LR g rs):=by simp[LR]
@[simp] theorem encTb_pure (f g:Bool) (t:Tb):AM.Pure (aS f g t):=by simp[aS]
@[simp] theorem encRw_oneV (r:Rw):dW (aE r)=true:=rfl
def bh(n:Nat):Int→List Rw→Int
 | _,[]=>0
 | last,r::rs=>if r.id≤last then 1 else if r.vals.length≠n then 6 else if r.vals.all al then bh n r.id rs else 1
def aO(t:Tb):Int:=if ap t.name then(if 16<t.attrs.length∨1000<t.rows.length then 3 else if dA t.attrs then bh t.attrs.length 0 t.rows else 1) else 1
structure TbOk (t:Tb):Prop where
 name:t.name.size≤maxLen
 attrs:t.attrs.length≤1000000
 rows:t.rows.length≤1000000
 strs:∀s∈t.attrs,s.size≤maxLen
theorem valid03(t:Tb)(f g:Bool)(h:TbOk t):aJ Tryz.prog 27 [aS f g t] fun r=>r = .int .i64 (aO t):=by
 obtain⟨hn,ha,hr,hs⟩:=h;have hc1:=fW t.name hn;cases h1:ap t.name
 ·rw[h1]at hc1;rw[show aO t=1 by simp[aO,h1]];refine sPx Tryz.func27 rfl rfl ?_;simp -dsimp[Tryz.f27,gG,aS,LR,LS];refine cPx (hc1) (by simp) ?_;simp -dsimp[]
 ·rw[h1]at hc1;by_cases h2:16<t.attrs.length
  ·rw[show aO t=3 by simp[aO,h1,h2]];refine sPx Tryz.func27 rfl rfl ?_;simp -dsimp[Tryz.f27,gG,aS,LR,LS];refine cPx (hc1) (by simp) ?_;simp -dsimp[show(16:Int)<t.attrs.length by omega]
  ·by_cases h3:1000<t.rows.length
   ·rw[show aO t=3 by simp[aO,h1,h3]];refine sPx Tryz.func27 rfl rfl ?_;simp -dsimp[Tryz.f27,gG,aS,LR,LS];refine cPx (hc1) (by simp) ?_;simp -dsimp[show ¬(16:Int)<t.attrs.length by omega,show(1000:Int)<t.rows.length by omega]
   ·have hc2:=names03 t.attrs f ha hs;simp only[LS]at hc2;cases h4:dA t.attrs
    ·rw[h4]at hc2;rw[show aO t=1 by simp[aO,h1,h2,h3,h4]];refine sPx Tryz.func27 rfl rfl ?_;simp -dsimp[Tryz.f27,gG,aS,LR,LS];refine cPx (hc1) (by simp) ?_;simp -dsimp[show ¬(16:Int)<t.attrs.length by omega,show ¬(1000:Int)<t.rows.length by omega];refine cPx (hc2) (by simp) ?_;simp -dsimp[]
    ·rw[h4]at hc2
     have hE:bh t.attrs.length 0 t.rows=aO t:=by simp[aO,h1,h2,h3,h4]
     obtain⟨E,hEe⟩:∃E,E=aO t:=⟨_,rfl⟩;rw[←hEe]at hE ⊢;refine sPx Tryz.func27 rfl rfl ?_;simp -dsimp[Tryz.f27,gG,aS,LR,LS];refine cPx (hc1) (by simp) ?_;simp -dsimp[show ¬(16:Int)<t.attrs.length by omega,show ¬(1000:Int)<t.rows.length by omega];refine cPx (hc2) (by simp) ?_;simp -dsimp[];refine ab (W_loopM 53 0x1fffffff00003c (by simp[mB]<;>rfl) (σ:=Nat×Int) (fun p=>p.1≤t.rows.length∧bh t.attrs.length p.2 (t.rows.drop p.1)=E) (fun p=>t.rows.length-p.1) (fun p=>[(4,.int .i64 p.1),(3,.int .i64 p.2)]) (fun _=>[B.cells [.str t.name,LS f t.attrs,LR g t.rows]]) (0,0) ⟨by simp,hE⟩ (by simp) (by simp[LS,LR]) (by simp) ?_);rintro⟨i,last⟩ ⟨hi,hx⟩ N Q hN hQ;simp only at hi hx hN;by_cases hb:i<t.rows.length
     ·rw[gT hb]at hx;simp only[bh]at hx;by_cases h5:t.rows[i].id≤last
      ·rw[if_pos h5]at hx;refine wx ?_;simp -dsimp[hb,LS,LR,aE,h5,LV];refine hQ _ _ _ ?_;simp -dsimp[];exact hx
      ·rw[if_neg h5]at hx;by_cases h6:t.rows[i].vals.length=t.attrs.length
       ·rw[if_neg (fun h=>h h6)]at hx;have hc3:=valids01 t.rows[i].vals false (by omega);cases h7:t.rows[i].vals.all al
        ·rw[h7]at hc3 hx;refine wx ?_;simp -dsimp[hb,LS,LR,aE,h5,LV,h6];simp only[LV]at hc3;refine cPx (hc3) (by simp) ?_;simp -dsimp[];refine hQ _ _ _ ?_;simp -dsimp[];simpa using hx
        ·rw[h7,if_pos rfl]at hx;rw[h7]at hc3;refine wx ?_;simp -dsimp[hb,LS,LR,aE,h5,LV,h6];simp only[LV]at hc3;refine cPx (hc3) (by simp) ?_;simp -dsimp[aZ i (by omega)];refine hN (i+1,t.rows[i].id) _ _ ⟨by simp;omega,hx⟩ (by omega) ?_ ⟨[B.cells [.int .i64 t.rows[i].id,LV false t.rows[i].vals]],?_⟩ ?_ ?_<;>simp[or_imp,forall_and,L1,dG,LS,LR,LV]
       ·rw[if_pos h6]at hx;refine wx ?_;simp -dsimp[hb,LS,LR,aE,h5,LV,show ¬(t.rows[i].vals.length:Int)=t.attrs.length by omega];refine hQ _ _ _ ?_;simp -dsimp[];exact hx
     ·rw[gY (by omega)]at hx;refine wx ?_;simp -dsimp[hb,LS,LR];refine hQ _ _ _ ?_;simp -dsimp[];exact hx
theorem fM(t:Tb)(f g:Bool)(h:TbOk t):aJ Tryz.prog 22 [aS f g t] fun r=>r = .int .i64 (aO t):=by
 obtain⟨hn,ha,hr,hs⟩:=h;have hc1:=fe t.name hn;cases h1:ap t.name
 ·rw[h1]at hc1;rw[show aO t=1 by simp[aO,h1]];refine sPx Tryz.func22 rfl rfl ?_;simp -dsimp[Tryz.f22,gG,aS,LR,LS];refine cPx (hc1) (by simp) ?_;simp -dsimp[]
 ·rw[h1]at hc1;by_cases h2:16<t.attrs.length
  ·rw[show aO t=3 by simp[aO,h1,h2]];refine sPx Tryz.func22 rfl rfl ?_;simp -dsimp[Tryz.f22,gG,aS,LR,LS];refine cPx (hc1) (by simp) ?_;simp -dsimp[show(16:Int)<t.attrs.length by omega]
  ·by_cases h3:1000<t.rows.length
   ·rw[show aO t=3 by simp[aO,h1,h3]];refine sPx Tryz.func22 rfl rfl ?_;simp -dsimp[Tryz.f22,gG,aS,LR,LS];refine cPx (hc1) (by simp) ?_;simp -dsimp[show ¬(16:Int)<t.attrs.length by omega,show(1000:Int)<t.rows.length by omega]
   ·have hE:(if dA t.attrs then bh t.attrs.length 0 t.rows else 1)=aO t:=by simp[aO,h1,h2,h3]
    obtain⟨E,hEe⟩:∃E,E=aO t:=⟨_,rfl⟩;rw[←hEe]at hE ⊢;refine sPx Tryz.func22 rfl rfl ?_;simp -dsimp[Tryz.f22,gG,aS,LR,LS];refine cPx (hc1) (by simp) ?_;simp -dsimp[show ¬(16:Int)<t.attrs.length by omega,show ¬(1000:Int)<t.rows.length by omega];refine ab (W_loopM 42 0x3fffe00001c (by simp[mB]<;>rfl) (σ:=Nat) (fun i=>i≤t.attrs.length∧(gM i).all (nmAt t.attrs)=true) (fun i=>t.attrs.length-i) (fun i=>[(25,.int .i64 i)]) (fun _=>[B.cells [.str t.name,LS f t.attrs,LR g t.rows]]) 0 ⟨by omega,rfl⟩ (by simp) (by simp[LS,LR]) (by simp) ?_);rintro i ⟨hi,hall⟩ N Q hN hQ;by_cases hb:i<t.attrs.length
    ·have hsi:sAt t.attrs i=t.attrs[i]:=by simp[sAt,hb]
     have hok:nmAt t.attrs i=(ap t.attrs[i]&&!memS (t.attrs.take i) t.attrs[i]):=by unfold nmAt;rw[hsi]
     have hd1:=fe t.attrs[i] (hs _ (gR hb));have hd2:=containsS (t.attrs.take i) t.attrs[i] (f&&i == t.attrs.length) (by simp;omega);simp only[LS,List.map_take]at hd2;cases h5:ap t.attrs[i]
     ·rw[h5,gV]at hok;rw[h5]at hd1;rw[show dA t.attrs=false from allno hb hok]at hE;refine wx ?_;simp -dsimp[hb,LS,LR];refine cPx (hd1) (by simp) ?_;simp -dsimp[];refine hQ _ _ _ ?_;simp -dsimp[];simpa using hE
     ·rw[h5,gX]at hok;rw[h5]at hd1;cases h6:memS (t.attrs.take i) t.attrs[i]
      ·rw[h6]at hd2 hok;refine wx ?_;simp -dsimp[hb,LS,LR];refine cPx (hd1) (by simp) ?_;simp -dsimp[show i≤t.attrs.length by omega];refine cPx (hd2) (by simp) ?_;simp -dsimp[aZ i (by omega)];refine hN (i+1) _ _ ⟨by omega,bC hall (by rw[hok];rfl)⟩ (by omega) ?_ ⟨[],?_⟩ ?_ ?_<;>simp[or_imp,forall_and,L1,dG,LS,LR]
      ·rw[h6]at hd2 hok;rw[show dA t.attrs=false from allno hb hok]at hE;refine wx ?_;simp -dsimp[hb,LS,LR];refine cPx (hd1) (by simp) ?_;simp -dsimp[show i≤t.attrs.length by omega];refine cPx (hd2) (by simp) ?_;simp -dsimp[];refine hQ _ _ _ ?_;simp -dsimp[];simpa using hE
    ·obtain rfl:i=t.attrs.length:=by omega
     rw[show dA t.attrs=true from hall,if_pos rfl]at hE;refine wx ?_;simp -dsimp[hb,LS,LR];refine hQ _ _ _ ?_;simp -dsimp[LS,LR];refine ab (W_loopM 70 0x3fffffe000000000a4 (by simp[mB]<;>rfl) (σ:=Nat×Int) (fun p=>p.1≤t.rows.length∧bh t.attrs.length p.2 (t.rows.drop p.1)=E) (fun p=>t.rows.length-p.1) (fun p=>[(45,.int .i64 p.1),(5,.int .i64 p.2)]) (fun _=>[B.cells [.str t.name,LS f t.attrs,LR g t.rows]]) (0,0) ⟨by simp,hE⟩ (by simp) (by simp[LS,LR]) (by simp) ?_);rintro⟨j,last⟩ ⟨hj,hx⟩ N2 Q2 hN2 hQ2;simp only at hj hx hN2;by_cases hjb:j<t.rows.length
     ·rw[gT hjb]at hx;simp only[bh]at hx;by_cases h5:t.rows[j].id≤last
      ·rw[if_pos h5]at hx;refine wx ?_;simp -dsimp[hjb,LS,LR,aE,h5,LV];refine hQ2 _ _ _ ?_;simp -dsimp[];exact hx
      ·rw[if_neg h5]at hx;by_cases h6:t.rows[j].vals.length=t.attrs.length
       ·rw[if_neg (fun h=>h h6)]at hx;have hc3:=validVals t.rows[j].vals false (by omega);simp only[LV]at hc3;cases h7:t.rows[j].vals.all al
        ·rw[h7]at hc3 hx;refine wx ?_;simp -dsimp[hjb,LS,LR,aE,h5,LV,h6];refine cPx (hc3) (by simp) ?_;simp -dsimp[];refine hQ2 _ _ _ ?_;simp -dsimp[];simpa using hx
        ·rw[h7,if_pos rfl]at hx;rw[h7]at hc3;refine wx ?_;simp -dsimp[hjb,LS,LR,aE,h5,LV,h6];refine cPx (hc3) (by simp) ?_;simp -dsimp[aZ j (by omega)];refine hN2 (j+1,t.rows[j].id) _ _ ⟨by simp;omega,hx⟩ (by omega) ?_ ⟨[B.cells [.int .i64 t.rows[j].id,LV false t.rows[j].vals]],?_⟩ ?_ ?_<;>simp[or_imp,forall_and,L1,dG,LS,LR,LV]
       ·rw[if_pos h6]at hx;refine wx ?_;simp -dsimp[hjb,LS,LR,aE,h5,LV,show ¬(t.rows[j].vals.length:Int)=t.attrs.length by omega];refine hQ2 _ _ _ ?_;simp -dsimp[];exact hx
     ·rw[gY (by omega)]at hx;refine wx ?_;simp -dsimp[hjb,LS,LR];refine hQ2 _ _ _ ?_;simp -dsimp[];exact hx
end
end Go.Proofs.YtjceoiofkccfdaaGreatDoor
section
namespace Go.Proofs.YtjceoiofkccfdaaGreatDoor
open Go Go.AM
end Go.Proofs.YtjceoiofkccfdaaGreatDoor
end
namespace Go.Proofs.YtjceoiofkccfdaaGreatDoor
section
open Go Go.AM
def lfB:V→V→Prop
 | x,y=>y=x∨(∃z xs,x = .lst z true xs∧y = .lst z false xs)∨(∃z,x = .nilS∧y = .lst z false [])
def LfL:List V→List V→Prop
 | [],[]=>True
 | x::xs,y::ys=>lfB x y∧LfL xs ys
 | _,_=>False
theorem LfL.len:∀{xs ys:List V},LfL xs ys→xs.length=ys.length
 | [],[],_=>rfl
 | [],_::_,h=>h.elim
 | _::_,[],h=>h.elim
 | _::_,_::_,h=>by simp[h.2.len]
theorem LfL.at_:∀{xs ys:List V},LfL xs ys→∀(i:Nat) x y,xs[i]?=some x→ys[i]?=some y→lfB x y
 | [],_,_,i,x,y,h,_=>by simp at h
 | _::_,[],h,_,_,_,_,_=>h.elim
 | a::xs,b::ys,h,0,x,y,h1,h2=>by simp at h1 h2;subst h1;subst h2;exact h.1
 | a::xs,b::ys,h,i+1,x,y,h1,h2=>h.2.at_ i x y (by simpa using h1) (by simpa using h2)
theorem lf_rel{s:AM.St}{x y:V}{u:Value}(h:Rel s x u)(hl:lfB x y):Rel s y u:=by
 rcases hl with rfl | ⟨z,xs,rfl,rfl⟩ | ⟨z,rfl,rfl⟩
 ·exact h
 ·cases h with
  | lst _ _ _ A cap b off u hcap hfull hA hz hcell hrel=>exact .lst z false xs A cap b off u hcap (fun h=>by cases h) hA hz hcell hrel
 ·cases h;exact bL z false none 0 (fun _=>rfl)
theorem lf_one{x y:V}(hl:lfB x y)(h:x.one=true):y.one=true:=by
 rcases hl with rfl | ⟨z,xs,rfl,rfl⟩ | ⟨z,rfl,rfl⟩
 ·exact h
 ·rfl
 ·rfl
theorem W_lf{P:Program}(k0:Nat)(fr' cs':List V){c:Code}{Q:Exit→List V→List B→Prop}{fr:List V}{H:List B}{cs:List V}(hk:H[k0]?=some (.cells cs))(ho:LfL fr fr')(hc:LfL cs cs')
  (h:W P c Q fr' (H.set k0 (.cells cs'))):W P c Q fr H:=by
 intro s a hA hg hf hd;obtain⟨rfl,hZ⟩:=hA;have hst:=bJ (w:=s.w) (bl':=.cells cs') hg hk (lvC hk) trivial rfl rfl rfl (gL _) (fun _ _ _=>rfl);have hl:=ho.len;have hlc:=hc.len
 have hgd:AM.Good (s.setB s.w k0 (.cells cs')):=by
  refine bR hg hk (lvC hk) trivial rfl rfl rfl (gL _) (fun _ _ _=>rfl) (fun hst=>?_);obtain⟨h1,vs,t,h2,h3,h4⟩:=hg.blk k0 _ hk;refine⟨fun d hd=>?_,vs,t,h2,by omega,fun i d u hd hu=>?_⟩
  ·obtain⟨i,hi⟩:=List.mem_iff_getElem?.1 hd;have hx:cs[i]?=some (cs[i]'(by have:=aB hi;omega)):=gJ _;exact lf_one (hc.at_ i _ d hx hi) (h1 _ (gR _))
  ·have hx:cs[i]?=some (cs[i]'(by have:=aB hd;omega)):=gJ _;exact(lf_rel (h4 i _ u hx hu) (hc.at_ i _ d hx hd)).step hst
 have:=h (s.setB s.w k0 (.cells cs')) a ⟨rfl,hZ.step hst⟩ hgd ⟨by rw[hf.len,hl],fun i v u hv hu=>by
  have hx:fr[i]?=some (fr[i]'(by have:=aB hv;omega)):=gJ _
  exact(lf_rel (hf.rel i _ u hx hu) (ho.at_ i _ v hx hv)).step hst⟩ hd
 exact wp_mono this fun _ _ _ hl=>bW hst hl
theorem lfB_refl(x:V):lfB x x:=.inl rfl
theorem fb:∀xs:List V,LfL xs xs
 | []=>trivial
 | x::xs=>⟨lfB_refl x,fb xs⟩
structure Rcp where
 a:Int
 gap:Int
 rows:List (List Int)
def LU(xs:List Int):V:=.lst 1 false (xs.map encU)
def encRcp(f:Bool)(x:Rcp):V:=.agg [.int .u8 x.a,.int .u8 x.gap,.lst 1 f (x.rows.map LU)]
@[simp] theorem LU_pure (xs:List Int):AM.Pure (LU xs):=by simp[LU]
@[simp] theorem encRcp_pure (f:Bool) (x:Rcp):AM.Pure (encRcp f x):=by simp[encRcp]
theorem fN(x y:Int):aJ Tryz.prog 60 [.int .i64 x,.int .i64 y] fun r=>r = .int .i64 (cS x y):=by
 refine sPx Tryz.func60 rfl rfl ?_;simp -dsimp[Tryz.f60,gG];unfold cS;split
 ·rfl
 ·split<;>rfl
theorem cmpS_drop(a b:ByteArray)(i:Nat)(ha:i<a.size)(hb:i<b.size):Lib.compareBytes (a.data.toList.drop i) (b.data.toList.drop i)=if a[i]<b[i] then -1 else if b[i]<a[i] then 1 else Lib.compareBytes (a.data.toList.drop (i+1)) (b.data.toList.drop (i+1)):=by
 have h1:i<a.data.toList.length:=by rw[dr];exact ha
 have h2:i<b.data.toList.length:=by rw[dr];exact hb
 rw[gT h1,gT h2,Lib.compareBytes];rfl
theorem cmpS_end(a b:ByteArray)(i:Nat)(hi:i≤a.size)(hj:i≤b.size)(h:¬(i<a.size∧i<b.size)):Lib.compareBytes (a.data.toList.drop i) (b.data.toList.drop i)=cS a.size b.size:=by
 have l1:=dr a;have l2:=dr b;by_cases h1:i<a.size
 ·have h2:i=b.size:=by omega
  have h3:i<a.data.toList.length:=by omega
  rw[gT h3,gY (l:=b.data.toList) (by omega),Lib.compareBytes];unfold cS;rw[if_neg (by omega),if_pos (by omega)]
 ·rw[gY (l:=a.data.toList) (by omega)];by_cases h2:i<b.size
  ·have h3:i<b.data.toList.length:=by omega
   rw[gT h3,Lib.compareBytes];unfold cS;rw[if_pos (by omega)]
  ·rw[gY (l:=b.data.toList) (by omega),Lib.compareBytes];unfold cS;rw[if_neg (by omega),if_neg (by omega)]
theorem strings01(a b:ByteArray)(ha:a.size≤maxLen):aJ Tryz.prog 61 [.str a,.str b] fun r=>r = .int .i64 (cmpS a b):=by
 refine sPx Tryz.func61 rfl rfl ?_;simp -dsimp[Tryz.f61,gG];refine ab (W_loopM 34 0x3fffffff0 (by simp[mB]<;>rfl) (σ:=Nat) (fun i=>i≤a.size∧i≤b.size∧Lib.compareBytes (a.data.toList.drop i) (b.data.toList.drop i)=cmpS a b) (fun i=>a.size-i) (fun i=>[(5,.int .i64 i)]) (fun _=>[]) 0 ⟨by omega,by omega,rfl⟩ (by simp) rfl (by simp) ?_);rintro i ⟨hi,hj,hx⟩ N Q hN hQ;by_cases h:i<a.size∧i<b.size
 ·obtain⟨h1,h2⟩:=h;rw[cmpS_drop a b i h1 h2]at hx;obtain⟨x1,x2⟩:=cT h1;obtain⟨y1,y2⟩:=cT h2;by_cases hq:aj a i=aj b i
  ·have e1:¬a[i]<b[i]:=fun h=>by have:=UInt8.lt_iff_toNat_lt.1 h;omega
   have e2:¬b[i]<a[i]:=fun h=>by have:=UInt8.lt_iff_toNat_lt.1 h;omega
   rw[if_neg e1,if_neg e2]at hx;refine wx ?_;simp -dsimp[h1,h2,x1,y1,x2,y2,hq];refine .inr ⟨aY (by kernel_rfl),?_⟩;simp -dsimp[aZ i (by unfold maxLen at ha;omega)];refine hN (i+1) _ _ ⟨by omega,by omega,hx⟩ (by omega) ?_ ⟨[],?_⟩ ?_ ?_<;>simp[or_imp,forall_and,L1,dG]
  ·have hs:cS (aj a i) (aj b i)=cmpS a b:=by
    rw[←hx,←x2,←y2];unfold cS;by_cases e1:a[i]<b[i]
    ·have e1':(a[i].toNat:Int)<b[i].toNat:=by have:=UInt8.lt_iff_toNat_lt.1 e1;omega
     rw[if_pos e1,if_pos e1']
    ·have e1':¬((a[i].toNat:Int)<b[i].toNat):=fun h=>e1 (UInt8.lt_iff_toNat_lt.2 (by omega))
     have e2:b[i]<a[i]:=UInt8.lt_iff_toNat_lt.2 (by omega)
     have e2':(b[i].toNat:Int)<a[i].toNat:=by have:=UInt8.lt_iff_toNat_lt.1 e2;omega
     rw[if_neg e1,if_neg e1',if_pos e2,if_pos e2']
   have hw1:IntKind.i64.wrap (aj a i)=aj a i:=by rw[←x2];exact wrap64 (by omega) (by have:=UInt8.toNat_lt a[i];omega)
   have hw2:IntKind.i64.wrap (aj b i)=aj b i:=by rw[←y2];exact wrap64 (by omega) (by have:=UInt8.toNat_lt b[i];omega)
   have hc:=fN (aj a i) (aj b i);refine wx ?_;simp -dsimp[h1,h2,x1,y1,x2,y2,hq];refine .inr ⟨aY (by kernel_rfl),?_⟩;simp -dsimp[h1,h2,x1,y1,x2,y2,hw1,hw2];refine .inr ⟨aY (by kernel_rfl),?_⟩;refine bS _ (ah (hc) (by simp)) ?_;simp -dsimp[];refine hQ _ _ _ ?_;simp -dsimp[];exact hs
 ·rw[cmpS_end a b i hi hj h]at hx;have hc:=fN a.size b.size;by_cases h1:i<a.size
  ·have h2:¬i<b.size:=fun h2=>h ⟨h1,h2⟩
   refine wx ?_;simp -dsimp[h1,h2];refine hQ _ _ _ ?_;simp -dsimp[];refine cPx (hc) (by simp) ?_;simp -dsimp[];exact hx
  ·refine wx ?_;simp -dsimp[h1];refine hQ _ _ _ ?_;simp -dsimp[];refine cPx (hc) (by simp) ?_;simp -dsimp[];exact hx
def cmpV(a b:Vl):Int:=if cS a.k b.k=0 then(if cS a.n b.n=0 then cmpS a.s b.s else cS a.n b.n) else cS a.k b.k
theorem compare01(a b:Vl)(ha:a.s.size≤maxLen):aJ Tryz.prog 30 [aI a,aI b] fun r=>r = .int .i64 (cmpV a b):=by
 have hc1:=fN a.k b.k;have hc2:=fN a.n b.n;have hc3:=strings01 a.s b.s ha;unfold cmpV;by_cases h1:cS a.k b.k=0
 ·by_cases h2:cS a.n b.n=0
  ·rw[if_pos h1,if_pos h2];refine sPx Tryz.func30 rfl rfl ?_;simp -dsimp[Tryz.f30,gG,aI];refine cPx (hc1) (by simp) ?_;simp -dsimp[h1];refine cPx (hc2) (by simp) ?_;simp -dsimp[h2];refine cPx (hc3) (by simp) ?_;simp -dsimp[]
  ·rw[if_pos h1,if_neg h2];refine sPx Tryz.func30 rfl rfl ?_;simp -dsimp[Tryz.f30,gG,aI];refine cPx (hc1) (by simp) ?_;simp -dsimp[h1];refine cPx (hc2) (by simp) ?_;simp -dsimp[h2]
 ·rw[if_neg h1];refine sPx Tryz.func30 rfl rfl ?_;simp -dsimp[Tryz.f30,gG,aI];refine cPx (hc1) (by simp) ?_;simp -dsimp[h1]
def cR:List Vl→List Vl→Int
 | [],[]=>0
 | [],_::_=>-1
 | _::_,[]=>1
 | x::xs,y::ys=>if cmpV x y=0 then cR xs ys else cmpV x y
theorem cmpVs_end(us bs:List Vl)(i:Nat)(h1:i≤us.length)(h2:i≤bs.length)(h:¬(i<us.length∧i<bs.length)):cR (us.drop i) (bs.drop i)=cS us.length bs.length:=by
 unfold cS;by_cases ha:i<us.length
 ·rw[gT ha,gY (l:=bs) (by omega),cR,if_neg (by omega),if_pos (by omega)]
 ·rw[gY (l:=us) (by omega)];by_cases hb:i<bs.length
  ·rw[gT hb,cR,if_pos (by omega)]
  ·rw[gY (l:=bs) (by omega),cR,if_neg (by omega),if_neg (by omega)]
theorem lists01(us bs:List Vl)(f g:Bool)(hl:us.length≤1000000)(hs:∀v∈us,v.s.size≤maxLen):aJ Tryz.prog 76 [LV f us,LV g bs] fun r=>r = .int .i64 (cR us bs):=by
 obtain⟨E,hE⟩:∃E,E=cR us bs:=⟨_,rfl⟩;rw[←hE];refine sPx Tryz.func76 rfl rfl ?_;simp -dsimp[Tryz.f76,gG,LV];refine ab (W_loopM 31 0x7ffffff0 (by simp[mB]<;>rfl) (σ:=Nat) (fun i=>i≤us.length∧i≤bs.length∧cR (us.drop i) (bs.drop i)=E) (fun i=>us.length-i) (fun i=>[(5,.int .i64 i)]) (fun _=>[]) 0 ⟨by omega,by omega,hE.symm⟩ (by simp) rfl (by simp) ?_);rintro i ⟨hi,hj,hx⟩ N Q hN hQ;by_cases h:i<us.length∧i<bs.length
 ·obtain⟨h1,h2⟩:=h;have hc:=compare01 us[i] bs[i] (hs _ (gR h1));simp only[aI]at hc;rw[gT h1,gT h2,cR]at hx;by_cases h3:cmpV us[i] bs[i]=0
  ·rw[if_pos h3]at hx;refine wx ?_;simp -dsimp[h1,h2,aI];refine .inr ⟨aY (by kernel_rfl),?_⟩;refine bS _ (ah (hc) (by simp)) ?_;simp -dsimp[h3,aZ i (by omega)];refine hN (i+1) _ _ ⟨by omega,by omega,hx⟩ (by omega) ?_ ⟨[],?_⟩ ?_ ?_<;>simp[or_imp,forall_and,L1,dG]
  ·rw[if_neg h3]at hx;refine wx ?_;simp -dsimp[h1,h2,aI];refine .inr ⟨aY (by kernel_rfl),?_⟩;refine bS _ (ah (hc) (by simp)) ?_;simp -dsimp[h3];refine hQ _ _ _ ?_;simp -dsimp[];exact hx
 ·rw[cmpVs_end us bs i hi hj h]at hx;have hc:=fN us.length bs.length;by_cases h1:i<us.length
  ·have h2:¬i<bs.length:=fun h2=>h ⟨h1,h2⟩
   refine wx ?_;simp -dsimp[h1,h2];refine hQ _ _ _ ?_;simp -dsimp[];refine cPx (hc) (by simp) ?_;simp -dsimp[];exact hx
  ·refine wx ?_;simp -dsimp[h1];refine hQ _ _ _ ?_;simp -dsimp[];refine cPx (hc) (by simp) ?_;simp -dsimp[];exact hx
theorem same01(us bs:List Vl)(f g:Bool)(hl:us.length≤1000000)(hs:∀v∈us,v.s.size≤maxLen):aJ Tryz.prog 39 [LV f us,LV g bs] fun r=>r = .bool (cR us bs == 0):=by
 have hc:=lists01 us bs f g hl hs;refine sPx Tryz.func39 rfl rfl ?_;simp -dsimp[Tryz.f39,gG];refine cPx (hc) (by simp) ?_;simp -dsimp[]
end
end Go.Proofs.YtjceoiofkccfdaaGreatDoor
section
namespace Go.Proofs.YtjceoiofkccfdaaGreatDoor
open Go Go.AM
end Go.Proofs.YtjceoiofkccfdaaGreatDoor
end
section
namespace Go.Proofs.YtjceoiofkccfdaaGreatDoor
open Go Go.AM
end Go.Proofs.YtjceoiofkccfdaaGreatDoor
end
namespace Go.Proofs.YtjceoiofkccfdaaGreatDoor
section
open Go Go.AM
structure Fd where
 l:Nat
 r:Nat
def encD(d:Fd):V:=.agg [.int .u8 (d.l:Int),.int .u8 (d.r:Int)]
def encF(d:Fd):V:=.agg [.int .u32 (d.l:Int),.int .u32 (d.r:Int)]
@[simp] theorem encD_pure (d:Fd):AM.Pure (encD d):=by simp[encD]
@[simp] theorem encF_pure (d:Fd):AM.Pure (encF d):=by simp[encF]
@[simp] theorem encF_oneV (d:Fd):dW (encF d)=true:=rfl
def LF(f:Bool)(ds:List Fd):V:=.lst 2 f (ds.map encF)
@[simp] theorem LF_pure (f:Bool) (ds:List Fd):AM.Pure (LF f ds):=by simp[LF]
section
def isApp:Go.Op→Bool
 | .call c=>match c.callee with
  | .builtin .append=>true
  | _=>false
 | _=>false
def statP(ops:Array Oper)(E:List Nat)(tab:List (Nat×List Nat)):Bool :=
 stat1 ops&&ei ops E&&(gM ops.size).all fun i=>E.contains i||(match ops[i]? with
  | some o=>(aq o.op||isApp o.op)&&(bU o.op||(gM (E.length+1)).all fun c=>!cw (aH [] ops.toList) E i c||c == bA E i||(cM tab i).contains c)
  | none=>true)
def oblP(T:AM.Ty)(ops:Array Oper)(C:V→List V→List B→(V→List B→Prop)→Prop)(E:List Nat)(tab:List (Nat×List Nat))(Hs:Nat→List B):List Oper→Nat→Nat→List V→List V→Prop
 | [],_,_,_,_=>True
 | _::_,_,_,_,[]=>False
 | o::rest,i,c,fr,v::vs =>
  (match ai ops fr o with
   | some true=>match aX o.op with
    | some (f,args)=>if E.contains i then C (aD fr f) (args.map (aD fr)) (Hs c) (fun r H'=>r=v∧H'=Hs (c+1))
     else bt (fun c'=>C (aD fr f) (args.map (aD fr)) (Hs c') (fun r H'=>r=v∧H'=Hs c')) (c::cM tab i)
    | none=>if E.contains i||bU o.op then True else bt (fun c'=>aop T o.op (aD fr) (Hs c')=some (v,Hs c')) (if aq o.op then cM tab i else c::cM tab i)
   | _=>True)∧oblP T ops C E tab Hs rest (i+1) (if E.contains i then c+1 else c) (aa fr o.dst v) vs
def DrawP(T:AM.Ty)(ops:Array Oper)(E:List Nat)(tab:List (Nat×List Nat))(cv:List (V×List B))(C:V→List V→List B→(V→List B→Prop)→Prop)(K:List V→List B→Prop)(fr:List V)(H:List B):Prop :=
 match AM.runT T ops E ops.toList 0 fr H cv with
 | none=>False
 | some (vs,hs,f)=>hs.length=E.length∧oblP T ops C E tab (fun c=>(H::hs)[c]?.getD []) ops.toList 0 0 fr vs∧K f ((H::hs)[E.length]?.getD [])
section
variable {P:Program} {T:AM.Ty}
theorem fF{ops:Array Oper}{C:V→List V→List B→(V→List B→Prop)→Prop}{E:List Nat}{tab:List (Nat×List Nat)}{Hs:Nat→List B}(hasc:eO E=true)
  (hst:∀i o,ops[i]?=some o→E.contains i=false→(aq o.op=true∨isApp o.op=true)∧(bU o.op=true∨∀c,c<E.length+1→cw (aH [] ops.toList) E i c=true→c=bA E i∨c∈cM tab i)):
  ∀(l:List Oper) (i:Nat) (fr:List V) (H:List B) (cv:List (V×List B)) (vs:List V) (hs:List (List B)) (f:List V),l=ops.toList.drop i→AM.runT T ops E l i fr H cv=some (vs,hs,f)→(∀k,k≤hs.length→Hs (bA E i+k)=((H::hs)[k]?).getD [])→
   oblP T ops C E tab Hs l i (bA E i) fr vs→au T ops C (aH [] ops.toList) E Hs l i fr vs
 | [],i,fr,H,cv,vs,hs,f,hl,hr,hH,h=>trivial
 | o::rest,i,fr,H,cv,vs,hs,f,hl,hr,hH,h=>by
  have ho:ops[i]?=some o:=by
   have:=congrArg (fun l=>l[0]?) hl;simp at this;exact this.symm
  have hrest:rest=ops.toList.drop (i+1):=by
   have:=congrArg List.tail hl;simpa using this
  have hHi:Hs (bA E i)=H:=by have:=hH 0 (ia _);simpa using this
  simp only[AM.runT]at hr
  cases hw:ai ops fr o with
  | none=>rw[hw]at hr;cases hr
  | some b =>
  rw[hw]at hr
  cases b with
  | false =>
   simp only at hr;split at hr
   ·cases hr
   rename_i hE
   have hE:E.contains i=false:=by simpa using hE
   split at hr
   ·rename_i vs' hs' f' hr';cases hr;simp only[oblP,hw,hE,gQ,if_false]at h;simp only[au,hw];refine⟨⟨by first | trivial | rfl,hE⟩,fF hasc hst rest (i+1) _ H cv vs' _ _ hrest hr' (fun k hk=>?_) ?_⟩
    ·rw[av hasc,hE];simpa using hH k hk
    ·rw[av hasc,hE];simpa using h.2
   ·cases hr
  | true =>
   simp only at hr
   have fin:∀(v:V) (H':List B) (cv':List (V×List B)),(if E.contains i then(match AM.runT T ops E rest (i+1) (aa fr o.dst v) H' cv' with
      | some (vs,hs,f)=>some (v::vs,H'::hs,f)
      | none=>none)
     else(match AM.runT T ops E rest (i+1) (aa fr o.dst v) H cv' with
      | some (vs,hs,f)=>some (v::vs,hs,f)
      | none=>none))=some (vs,hs,f)→
     ∃vs',vs=v::vs'∧(E.contains i=true→Hs (bA E i+1)=H')∧(oblP T ops C E tab Hs rest (i+1) (if E.contains i then bA E i+1 else bA E i) (aa fr o.dst v) vs'→au T ops C (aH [] ops.toList) E Hs rest (i+1) (aa fr o.dst v) vs'):=fun v H' cv' hq=>by
    cases hE:E.contains i with
    | true =>
     rw[hE]at hq;simp only[if_true]at hq;split at hq
     ·rename_i vs' hs' f' hr';cases hq;refine⟨vs',rfl,fun _=>?_,fun hh=>?_⟩
      ·have:=hH 1 (by simp);simpa using this
      ·refine fF hasc hst rest (i+1) _ H' cv' vs' hs' _ hrest hr' (fun k hk=>?_) ?_
       ·rw[av hasc,hE];have:=hH (k+1) (by simp;omega);simp only[if_true,iV]at this ⊢;rw[show bA E i+1+k=bA E i+(k+1) by omega];exact this
       ·rw[av hasc,hE];simpa using hh
     ·cases hq
    | false =>
     rw[hE]at hq;simp only[gQ,if_false]at hq;split at hq
     ·rename_i vs' hs' f' hr';cases hq;refine⟨vs',rfl,(fun h=>by cases h),fun hh=>?_⟩;refine fF hasc hst rest (i+1) _ H cv' vs' hs _ hrest hr' (fun k hk=>?_) ?_
      ·rw[av hasc,hE];simpa using hH k hk
      ·rw[av hasc,hE];simpa using hh
     ·cases hq
   cases hc:aX o.op with
   | some p =>
    obtain⟨g,args⟩:=p;rw[hc]at hr;simp only at hr;split at hr
    ·rename_i v H' cv';obtain⟨vs',rfl,hEH,hrec⟩:=fin v H' cv' hr;simp only[oblP,hw,hc]at h;simp only[au,hw,hc];refine⟨?_,hrec h.2⟩
     cases hE:E.contains i with
     | true =>
      rw[hE]at h;simp only[if_true]at h ⊢;rw[eM hasc hE];exact h.1
     | false =>
      rw[hE]at h;simp only[gQ,if_false]at h ⊢;obtain⟨_,s2⟩:=hst i o ho hE
      have hns:bU o.op=false:=by
       cases hop:o.op<;>rw[hop]at hc<;>simp only[aX]at hc<;>first | (cases hc;done) | rfl
      rw[hns]at s2;have s2:=s2.resolve_left (by simp);refine allC_of (fun c hcm=>?_);split
      ·rename_i hp
       rcases s2 c (by simpa using hcm) hp with rfl | hm
       ·exact bY h.1 _ (by simp)
       ·exact bY h.1 _ (by simp[hm])
      ·trivial
    ·cases hr
   | none =>
    rw[hc]at hr;simp only at hr
    cases hop:aop T o.op (aD fr) H with
    | none=>rw[hop]at hr;cases hr
    | some q =>
     obtain⟨v,H'⟩:=q;rw[hop]at hr;simp only at hr;obtain⟨vs',rfl,hEH,hrec⟩:=fin v H' cv hr;simp only[oblP,hw,hc]at h;simp only[au,hw,hc];refine⟨?_,hrec h.2⟩
     cases hE:E.contains i with
     | true =>
      simp only[if_true];rw[eM hasc hE,hHi,hEH hE];exact hop
     | false =>
      rw[hE]at h;simp only[gQ,if_false,gz]at h ⊢;obtain⟨s1,s2⟩:=hst i o ho hE;refine allC_of (fun c hcm=>?_);split
      ·rename_i hp
       cases hsc:bU o.op with
       | true=>exact scalOp_ok hsc hop _
       | false =>
        rw[hsc]at h s2;simp only[gQ,if_false]at h
        cases hso:aq o.op with
        | true =>
         rw[hso,if_pos rfl]at h;have hHH:=cX hso hop;subst hHH
         rcases(s2.resolve_left (by simp)) c (by simpa using hcm) hp with rfl | hm
         ·rw[hHi];exact hop
         ·exact bY h.1 _ hm
        | false =>
         rw[hso,if_neg (by simp)]at h
         rcases(s2.resolve_left (by simp)) c (by simpa using hcm) hp with rfl | hm
         ·exact bY h.1 _ (by simp)
         ·exact bY h.1 _ (by simp[hm])
      ·trivial
where
 allC_of {p:Nat→Prop} : ∀{l:List Nat},(∀c∈l,p c)→bt p l
  | [],_=>trivial
  | c::l,h=>⟨h c (by simp),allC_of (fun d hd=>h d (by simp[hd]))⟩
theorem W_drawP(hT:TOk P T)(hm:P.follows .mixedOrders=true){id:Nat}{ops:Array Oper}{Q:Exit→List V→List B→Prop}{fr:List V}{H:List B}(E:List Nat)(tab:List (Nat×List Nat))(cv:List (V×List B))(hst:statP ops E tab=true)
  (h:∀(C:V→List V→List B→(V→List B→Prop)→Prop) (K:List V→List B→Prop),(∀fv args H K',aG P fv args H K'→C fv args H K')→(∀fr H,Q .normal fr H→K fr H)→DrawP T ops E tab cv C K fr H):W P (.region id ops true) Q fr H:=by
 refine W_draw hT hm E cv fun C K hC hK=>?_
 have h1:=h C K hC hK;unfold DrawP at h1;unfold eh;simp only[statP,gN]at hst;obtain⟨⟨st1,st2⟩,st3⟩:=hst;split at h1
 ·exact h1.elim
 ·rename_i vs hs f hr;rw[hr];obtain⟨a1,a2,a3⟩:=h1
  have hasc:eO E=true:=by
   unfold ei at st2;simp only[gN]at st2;exact st2.1.1
  have h00:bA E 0=0:=by cases E<;>simp[bA]
  refine⟨⟨fB st1 st2,a1⟩,?_,a3⟩;refine fF hasc (fun i o ho hE=>?_) ops.toList 0 fr H cv vs hs f (by simp) hr (fun k hk=>by rw[h00,iA]) (by rw[h00];exact a2);have hil:i<ops.size:=(Array.getElem?_eq_some_iff.1 ho).1;have:=List.all_eq_true.1 st3 i (by simpa using hil);rw[hE,ho,gz]at this;simp only[gN,gm]at this;refine⟨this.1,this.2.imp (fun h=>h) (fun hall c hc hp=>?_)⟩;have h3:=List.all_eq_true.1 hall c (by simpa using hc);simp only[gm,iK,beq_iff_eq]at h3
  rcases h3 with(h3 | h3) | h3
  ·rw[hp]at h3;cases h3
  ·exact .inl h3
  ·exact .inr (List.contains_iff_mem.1 h3)
end
attribute [simp] DrawP oblP
end
theorem cap32l(n:Nat)(h:n≤1000000000):n≤9223372036854775807∧n*32≤140737488355328:=by omega
def bZ(a b:ByteArray):Bool:=a.toList == b.toList
theorem eqSt_self(a:ByteArray):bZ a a=true:=by simp[bZ]
def dk(a b:List ByteArray):Bool:=decide (a.length=b.length)&&(gM a.length).all fun i=>bZ (sAt a i) (sAt b i)
theorem eqSs_self(a:List ByteArray):dk a a=true:=by simp[dk,eqSt_self]
theorem strings03(a b:List ByteArray)(f g:Bool)(hl:a.length≤1000000):aJ Tryz.prog 28 [LS f a,LS g b] fun r=>r = .bool (dk a b):=by
 unfold dk;by_cases h0:a.length=b.length
 ·rw[decide_eq_true h0,gX]
  obtain⟨E,hE⟩:∃E,E=(gM a.length).all fun i=>bZ (sAt a i) (sAt b i):=⟨_,rfl⟩
  rw[←hE];refine sPx Tryz.func28 rfl rfl ?_;simp -dsimp[Tryz.f28,gG,LS,h0];refine ab (W_loopM 26 0x3fff830 (by simp[mB]<;>rfl) (σ:=Nat) (fun i=>i≤a.length∧(gM i).all (fun i=>bZ (sAt a i) (sAt b i))=true) (fun i=>a.length-i) (fun i=>[(5,.int .i64 i)]) (fun _=>[]) 0 ⟨by omega,rfl⟩ (by simp) rfl (by simp) ?_);rintro i ⟨hi,hall⟩ N Q hN hQ;by_cases hb:i<a.length
  ·have hb2:i<b.length:=by omega
   have ha1:sAt a i=a[i]:=by simp[sAt,hb]
   have ha2:sAt b i=b[i]:=by simp[sAt,hb2]
   cases hq:(a[i].toList == b[i].toList) with
   | true =>
    refine wx ?_;simp -dsimp[hb,hb2,hq];refine .inr ⟨aY (by kernel_rfl),?_⟩;simp -dsimp[aZ i (by omega)];refine hN (i+1) _ _ ⟨by omega,bC hall (by unfold bZ;rw[ha1,ha2,hq])⟩ (by omega) (by simp) ⟨[],rfl⟩ (by simp) (by simp)
   | false =>
    have hno:(gM a.length).all (fun i=>bZ (sAt a i) (sAt b i))=false:=by
     cases hh:(gM a.length).all (fun i=>bZ (sAt a i) (sAt b i))
     ·rfl
     ·have:=List.all_eq_true.1 hh i (by simpa using hb);rw[bZ,ha1,ha2,hq]at this;cases this
    rw[hno]at hE;refine wx ?_;simp -dsimp[hb,hb2,hq];refine .inr ⟨aY (by kernel_rfl),?_⟩;refine hQ _ _ _ ?_;simp -dsimp[];exact hE
  ·obtain rfl:i=a.length:=by omega
   rw[hall]at hE;refine wx ?_;simp -dsimp[hb];refine hQ _ _ _ ?_;simp -dsimp[];exact hE
 ·rw[decide_eq_false h0,gV];refine sPx Tryz.func28 rfl rfl ?_;simp -dsimp[Tryz.f28,gG,LS,show ¬((a.length:Int)=b.length) by omega]
def ew(a b:Rw):Bool:=decide (a.id=b.id)&&cR a.vals b.vals == 0
theorem cmpI_self(x:Int):cS x x=0:=by unfold cS;simp
theorem cmpB_self:∀a:List UInt8,Lib.compareBytes a a=0
 | []=>by simp[Lib.compareBytes]
 | x::xs=>by
  rw[Lib.compareBytes,if_neg (UInt8.lt_irrefl _),if_neg (UInt8.lt_irrefl _)];exact cmpB_self xs
theorem cmpV_self(v:Vl):cmpV v v=0:=by
 unfold cmpV;rw[if_pos (cmpI_self _),if_pos (cmpI_self _)];exact cmpB_self _
theorem et(a b:Rw)(hl:a.vals.length≤1000000)(hs:∀v∈a.vals,v.s.size≤maxLen):aJ Tryz.prog 62 [aE a,aE b] fun r=>r = .bool (ew a b):=by
 have c1:=same01 a.vals b.vals false false hl hs;simp only[LV]at c1;unfold ew;by_cases h:a.id=b.id
 ·rw[decide_eq_true h,gX];refine sPx Tryz.func62 rfl rfl ?_;simp -dsimp[Tryz.f62,gG,aE,LV,h];refine cPx (c1) (by simp) ?_;simp -dsimp[]
 ·rw[decide_eq_false h,gV];refine sPx Tryz.func62 rfl rfl ?_;simp -dsimp[Tryz.f62,gG,aE,LV,h]
def rwG(rs:List Rw)(i:Nat):Rw:=rs.getD i ⟨0,[]⟩
def eqRs(a b:List Rw):Bool:=(gM a.length).all fun i=>ew (rwG a i) (rwG b i)
def eqTb(t u:Tb):Bool:=bZ t.name u.name&&(dk t.attrs u.attrs&&(decide (t.rows.length=u.rows.length)&&eqRs t.rows u.rows))
theorem equal03(t u:Tb)(f g f2 g2:Bool)(ha:t.attrs.length≤1000000)(hr:t.rows.length≤1000000)(hl:∀r∈t.rows,r.vals.length≤1000000∧∀v∈r.vals,v.s.size≤maxLen):aJ Tryz.prog 45 [aS f g t,aS f2 g2 u] fun r=>r = .bool (eqTb t u):=by
 have c1:=strings03 t.attrs u.attrs f f2 ha;simp only[LS]at c1;unfold eqTb
 cases h1:(t.name.toList == u.name.toList) with
 | false =>
  rw[bZ,h1,gV];refine sPx Tryz.func45 rfl rfl ?_;simp -dsimp[Tryz.f45,gG,aS,LS,LR,h1]
 | true =>
  rw[bZ,h1,gX]
  cases h2:dk t.attrs u.attrs with
  | false =>
   rw[h2]at c1;rw[gV];refine sPx Tryz.func45 rfl rfl ?_;simp -dsimp[Tryz.f45,gG,aS,LS,LR,h1];refine cPx (c1) (by simp) ?_;simp -dsimp[]
  | true =>
   rw[h2]at c1;rw[gX];by_cases h3:t.rows.length=u.rows.length
   ·rw[decide_eq_true h3,gX];unfold eqRs
    obtain⟨E,hE⟩:∃E,E=(gM t.rows.length).all fun i=>ew (rwG t.rows i) (rwG u.rows i):=⟨_,rfl⟩
    rw[←hE];refine sPx Tryz.func45 rfl rfl ?_;simp -dsimp[Tryz.f45,gG,aS,LS,LR,h1];refine cPx (c1) (by simp) ?_;simp -dsimp[h3];refine ab (W_loopM 47 0x7ffff0000030 (by simp[mB]<;>rfl) (σ:=Nat) (fun i=>i≤t.rows.length∧(gM i).all (fun i=>ew (rwG t.rows i) (rwG u.rows i))=true) (fun i=>t.rows.length-i) (fun i=>[(5,.int .i64 i)]) (fun _=>[B.cells [.str t.name,.lst 1 f (t.attrs.map V.str),.lst 2 g (t.rows.map aE)],B.cells [.str u.name,.lst 1 f2 (u.attrs.map V.str),.lst 2 g2 (u.rows.map aE)]]) 0 ⟨by omega,rfl⟩ (by simp) (by simp) (by simp) ?_);rintro i ⟨hi,hall⟩ N Q hN hQ;by_cases hb:i<t.rows.length
    ·have hb2:i<u.rows.length:=by omega
     have ha1:rwG t.rows i=t.rows[i]:=by simp[rwG,hb]
     have ha2:rwG u.rows i=u.rows[i]:=by simp[rwG,hb2]
     obtain⟨hx1,hx2⟩:=hl t.rows[i] (gR hb);have c2:=et t.rows[i] u.rows[i] hx1 hx2;obtain⟨x,hx⟩:∃x,x=t.rows[i]:=⟨_,rfl⟩;obtain⟨y,hy⟩:∃y,y=u.rows[i]:=⟨_,rfl⟩;rw[←hx]at ha1 c2;rw[←hy]at ha2 c2;have hx':=hx.symm;have hy':=hy.symm;simp only[aE,LV]at c2
     cases hq:ew x y with
     | true =>
      rw[hq]at c2;refine wx ?_;simp -dsimp[hb,hb2,hx',hy',aE,LV];refine .inr ⟨aY (by kernel_rfl),?_⟩;refine bS _ (ah (c2) (by simp)) ?_;simp -dsimp[aZ i (by omega)];refine hN (i+1) _ _ ⟨by omega,bC hall (by rw[ha1,ha2,hq])⟩ (by omega) (by simp) ⟨[],by simp⟩ (by simp) (by simp)
     | false =>
      rw[hq]at c2
      have hno:(gM t.rows.length).all (fun i=>ew (rwG t.rows i) (rwG u.rows i))=false:=by
       cases hh:(gM t.rows.length).all (fun i=>ew (rwG t.rows i) (rwG u.rows i))
       ·rfl
       ·have:=List.all_eq_true.1 hh i (by simpa using hb);rw[ha1,ha2,hq]at this;cases this
      rw[hno]at hE;refine wx ?_;simp -dsimp[hb,hb2,hx',hy',aE,LV];refine .inr ⟨aY (by kernel_rfl),?_⟩;refine bS _ (ah (c2) (by simp)) ?_;simp -dsimp[];refine hQ _ _ _ ?_;simp -dsimp[];exact hE
    ·obtain rfl:i=t.rows.length:=by omega
     rw[hall]at hE;refine wx ?_;simp -dsimp[hb];refine hQ _ _ _ ?_;simp -dsimp[];exact hE
   ·rw[decide_eq_false h3,gV];refine sPx Tryz.func45 rfl rfl ?_;simp -dsimp[Tryz.f45,gG,aS,LS,LR,h1];refine cPx (c1) (by simp) ?_;simp -dsimp[show ¬((t.rows.length:Int)=u.rows.length) by omega]
theorem dn:∀vs:List Vl,cR vs vs=0
 | []=>rfl
 | v::vs=>by
  simp only[cR,cmpV_self];simpa using dn vs
theorem eqRs_self(a:List Rw):eqRs a a=true:=by simp[eqRs,ew,dn]
theorem eqTb_self(t:Tb):eqTb t t=true:=by simp[eqTb,eqSt_self,eqSs_self,eqRs_self]
@[simp ↓ high] theorem rbB_rws (n e z:Nat) (l:List Rw) (fz:Bool):rbB n (.buf e z (l.map aE) fz)↔True:=by
 refine⟨fun _=>trivial,fun _ x hx c hc=>?_⟩;obtain⟨r,_,rfl⟩:=List.mem_map.1 hx;simp[aE,LV,V.cells]at hc
 rcases hc with rfl | rfl<;>simp
@[simp ↓ high] theorem rbB_vls (n e z:Nat) (l:List Vl) (fz:Bool):rbB n (.buf e z (l.map aI) fz)↔True:=by
 refine⟨fun _=>trivial,fun _ x hx c hc=>?_⟩;obtain⟨r,_,rfl⟩:=List.mem_map.1 hx;simp[aI,V.cells]at hc
 rcases hc with rfl | rfl | rfl<;>simp
end
end Go.Proofs.YtjceoiofkccfdaaGreatDoor
