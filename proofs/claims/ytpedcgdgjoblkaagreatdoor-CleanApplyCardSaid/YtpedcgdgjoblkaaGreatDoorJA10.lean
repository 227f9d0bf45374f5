/- JA10: own texts of this seat, joined and shortened by pack4.py: C3, W1, W2, Pl1, Enc, W6, W7, W8, W9, W10, Pl2, W12, W13, W16, W17, K0, T1, T2, Wk, Wd, Rl, GrH, GrR, GrG, Mp. -/
import Derived.Test.YtpedcgdgjoblkaaGreatDoorJA6
import Derived.Test.YtpedcgdgjoblkaaGreatDoorJA9
import Derived.WalkSpells
import Derived.WalkLawsBesides
import Derived.Lib.Hide
import Derived.Maps.AppendAt
import Derived.WalkKit
import Derived.Lib.Walk
import Derived.Lib.SliceRun
import Derived.Lib.AppendZerosOnto
import Derived.OwnWalk
set_option linter.unusedVariables false
set_option linter.unusedSimpArgs false
set_option maxRecDepth 100000
set_option maxHeartbeats 64000000
open Array renaming size_append→lr,getElem?_push_size→mC
open Bool renaming and_eq_true→kR,false_eq_true→kU,true_and→ke,false_and→kj,or_eq_true→lN,false_or→lV,not_eq_true'→mF,and_false→mW,eq_iff_iff→mc,true_or→mz
open ByteArray renaming empty→kI
open List renaming replicate→aI,getElem?_eq_getElem→kJ,mem_of_getElem?→kK,getElem_mem→kN,range→kQ,drop_eq_getElem_cons→kT,append_nil→kX,drop_of_length_le→kf,getElem?_cons_succ→kp,append_assoc→kv,mem_of_mem_take→lF,range_succ→lR,drop_zero→lh,map_take→mG,take→mL,any_cons→mn
open Nat renaming le_refl→kM,lt_of_lt_of_le→ka,add_mul→kd,beq→ku,zero_add→ky,eq_of_beq_eq_true→mJ,add_sub_cancel'→mO,zero_le→mV
namespace Go.Proofs.YtpedcgdgjoblkaaGreatDoor
section
open Go Go.AM Go.RowKit
theorem mixed:Tryz.prog.follows .mixedOrders=true:=by kernel_rfl
theorem wx{c:Code}{Q:Exit→List V→List B→Prop}{fr:List V}{H:List B}(h:WX T (aM Tryz.prog) (LW Tryz.prog) c Q fr H):W Tryz.prog c Q fr H:=W_x tok mixed h
theorem sPx{f:FuncId}{fn:Func}{c:Code}(hf:Tryz.prog.funcs[f]?=some fn)(hb:fn.body=some c)(hn:(fn.name == "runtime.NumGoroutine")=false){args:List V}{K:V→Prop}(h:WX T (aM Tryz.prog) (LW Tryz.prog) c (retQ T fn.results.toList fun r H=>∃r',Exp H r r'∧AM.Pure r'∧K r') (args++aI (fn.ntmps-args.length) (.tup [])) []):aK Tryz.prog f args K:=bF (aG tok hf hb hn (wx h))
theorem sOx{f:FuncId}{fn:Func}{c:Code}(hf:Tryz.prog.funcs[f]?=some fn)(hb:fn.body=some c)(hn:(fn.name == "runtime.NumGoroutine")=false){args:List V}{K:Nat→Nat→List V→Prop}(h:WX T (aM Tryz.prog) (LW Tryz.prog) c (retQ T fn.results.toList fun r H=>∃k e z xs,r = .buf k 0 xs.length xs.length∧H[k]?=some (.buf e z xs false)∧(∀x∈xs,AM.Pure x)∧K e z xs) (args++aI (fn.ntmps-args.length) (.tup [])) []):df Tryz.prog f args K:=conO_of_conH (aG tok hf hb hn (wx h))
theorem tkf(n:Nat):TOk Tryz.prog (aZ T fun t=>t == n):=tok_flag tok _
def ext:ag:=fun f args H=>match f,args with
 | 344,[.int .u32 x]=>some (.int .i64 (tzI x),H)
 | 360,[.str a,.str b]=>some (.int .i64 (cmpS a b),H)
 | _,_=>none
theorem ext_ok:aU Tryz.prog ext:=fun f args H r H' h=>by
 unfold ext at h;split at h
 ·cases h;rename_i x;have:=aP (H:=H) (tz_con x) (by simp);simpa only[aM,kX] using this
 ·cases h;rename_i a b;have:=aP (H:=H) (cmp_con a b) (by simp);simpa only[aM,kX] using this
 ·cases h
theorem allNamed:(Tryz.prog.funcs.toList.all fun fn=>!(fn.name == "runtime.NumGoroutine"))=true:=by kernel_rfl
theorem aY:∀(f:Nat) (fn:Func),Tryz.prog.funcs[f]?=some fn→(fn.name == "runtime.NumGoroutine")=false:=fun f fn h=>by
 have:=List.all_eq_true.1 allNamed fn (by rw[Array.mem_toList_iff];exact Array.mem_of_getElem? h);simpa using this
def buf1(H:List B):List V→List V→Option (Nat×Nat×Nat×List V)
 | a::as',b::bs=>if eqV 40 a b=true then buf1 H as' bs else match a with
  | .buf k 0 n m=>match H[k]? with
   | some (.buf e z xs _)=>if n=xs.length∧m=xs.length∧eqV 40 (.lst z false xs) b=true∧eqL (eqV 40) as' bs=true then some (k,e,z,xs) else none
   | _=>none
  | _=>none
 | _,_=>none
theorem repF_refl(p q:V):∀xs:List V,eD p q xs xs
 | []=>trivial
 | _::xs=>⟨.inl rfl,repF_refl p q xs⟩
theorem buf1_ok{H:List B} : ∀{args ga:List V} {k e z:Nat} {xs:List V},buf1 H args ga=some (k,e,z,xs)→(∃fz,H[k]?=some (.buf e z xs fz))∧eD (.buf k 0 xs.length xs.length) (.lst z false xs) args ga
 | [],_,_,_,_,_,h=>by simp[buf1]at h
 | _::_,[],_,_,_,_,h=>by simp[buf1]at h
 | a::as',b::bs,k,e,z,xs,h=>by
  unfold buf1 at h;split at h
  ·rename_i he;obtain⟨h1,h2⟩:=buf1_ok h;exact⟨h1,.inl (cF _ _ _ he).symm,h2⟩
  ·split at h
   ·rename_i k' n m;split at h
    ·rename_i e' z' xs' fz hk;split at h
     ·rename_i hc;obtain⟨rfl,rfl,h3,h4⟩:=hc;cases h;refine⟨⟨fz,hk⟩,.inr ⟨rfl,(cF _ _ _ h3).symm⟩,?_⟩;rw[cV (cF 40) h4];exact repF_refl _ _ _
     ·cases h
    ·cases h
   ·cases h
def er(g:FuncId)(ga:List V)(gr:V)(ext:ag):ag:=fun f args H=>if ku f g then(if eqL (eqV 40) args ga then some (gr,H) else match buf1 H args ga with
 | some _=>some (gr,H)
 | none=>ext f args H) else ext f args H
def jn(g:FuncId)(ga:List V)(gr:V)(ext:ag):ag:=fun f args H=>if ku f g then(if eqL (eqV 40) args ga then some (gr,H) else match buf1 H args ga with
 | some (k,e,z,xs)=>some (gr,H.set k (.buf e z xs true))
 | none=>ext f args H) else ext f args H
theorem pure_of_lst{z:Nat}{f:Bool}{xs:List V}(h:AM.Pure (.lst z f xs)):∀x∈xs,AM.Pure x:=by cases h;assumption
theorem bY{ext:ag}(he:aU Tryz.prog ext){g:FuncId}{ga:List V}{gr:V}(hc:aK Tryz.prog g ga fun x=>x=gr)(hq:∀a∈ga,AM.Pure a)(hs:Scalar gr):aU Tryz.prog (er g ga gr ext):=fun f args H r H' h=>by
 unfold er at h;split at h
 ·rename_i hf;have hfg:f=g:=mJ hf;subst hfg;split at h
  ·rename_i ha;have ha:=cV (cF 40) ha;cases h;subst ha;have:=aP (H:=H) hc hq;simpa only[aM,kX] using this
  ·split at h
   ·rename_i o ho;obtain⟨k,e,z,xs⟩:=o;cases h;obtain⟨⟨fz,hk⟩,hr⟩:=buf1_ok ho
    have:=callX (H:=H) (args:=args) hc hr.len (fun i a a' h1 h2=>by
     have hp:=hq a' (kK h2)
     rcases hr.at_ i a a' h1 h2 with rfl | ⟨rfl,rfl⟩
     ·exact .pure _ hp
     ·exact fJ hk rfl (pure_of_lst hp)) hs
    simpa only[aM,kX] using this
   ·exact he f args H r H' h
 ·exact he f args H r H' h
theorem cY{ext:ag}(he:aU Tryz.prog ext){g:FuncId}{ga:List V}{gr:V}(hc:aK Tryz.prog g ga fun x=>x=gr)(hq:∀a∈ga,AM.Pure a):aU Tryz.prog (jn g ga gr ext):=fun f args H r H' h=>by
 unfold jn at h;split at h
 ·rename_i hf;have hfg:f=g:=mJ hf;subst hfg;split at h
  ·rename_i ha;have ha:=cV (cF 40) ha;cases h;subst ha;have:=aP (H:=H) hc hq;simpa only[aM,kX] using this
  ·split at h
   ·rename_i k e z xs ho;cases h;obtain⟨⟨fz,hk⟩,hr⟩:=buf1_ok ho;have:=callF (H:=H) (args:=args) k hk hc hr hq;simpa only[aM,kX] using this
   ·exact he f args H r H' h
 ·exact he f args H r H' h
end
end Go.Proofs.YtpedcgdgjoblkaaGreatDoor
namespace Go.Proofs.YtpedcgdgjoblkaaGreatDoor
section
open Go Go.AM
def cW(n:Int):V:=.int .i64 n
def L1(f:Bool)(xs:List Int):V:=.lst 1 f (xs.map cW)
@[simp] theorem encI_pure (n:Int):AM.Pure (cW n):=by simp[cW]
@[simp] theorem L1_pure (f:Bool) (xs:List Int):AM.Pure (L1 f xs):=by simp[L1,cW]
theorem wrap64{n:Int}(h1 : -9223372036854775808≤n)(h2:n<9223372036854775808):IntKind.i64.wrap n=n:=by rw[IntKind.wrap_i64];omega
theorem aX(i:Nat)(h:i<9223372036854775807):IntKind.i64.wrap ((i:Int)+1)=((i+1:Nat):Int):=by rw[wrap64 (by omega) (by omega)];rfl
def memB(xs:List Int)(x:Int):Bool:=xs.contains x
def jC(us bs:List Int):Bool:=us.all fun x=>memB bs x
def dZ(x y:Int):Int:=if x<y then -1 else if y<x then 1 else 0
end
end Go.Proofs.YtpedcgdgjoblkaaGreatDoor
section
namespace Go.Proofs.YtpedcgdgjoblkaaGreatDoor
open Go Go.AM
end Go.Proofs.YtpedcgdgjoblkaaGreatDoor
end
namespace Go.Proofs.YtpedcgdgjoblkaaGreatDoor
section
open Go Go.AM
def LL(g:Bool)(es:List (List Int)):V:=.lst 1 g (es.map (L1 false))
def encH(f g:Bool)(vs:List Int)(es:List (List Int)):V:=.agg [L1 f vs,LL g es]
@[simp] theorem LL_pure (g:Bool) (es:List (List Int)):AM.Pure (LL g es):=by simp[LL]
@[simp] theorem encH_pure (f g:Bool) (vs:List Int) (es:List (List Int)):AM.Pure (encH f g vs es):=by simp[encH]
@[simp] theorem encI_oneV (n:Int):dA (cW n)=true:=rfl
@[simp] theorem L1_oneV (f:Bool) (xs:List Int):dA (L1 f xs)=true:=rfl
end
end Go.Proofs.YtpedcgdgjoblkaaGreatDoor
section
namespace Go.Proofs.YtpedcgdgjoblkaaGreatDoor
open Go Go.AM
end Go.Proofs.YtpedcgdgjoblkaaGreatDoor
end
namespace Go.Proofs.YtpedcgdgjoblkaaGreatDoor
section
open Go Go.AM
theorem cap24(n:Nat)(h:n≤1000000000):n≤9223372036854775806∧(n+1)*24≤140737488355328:=by omega
theorem wrapN(n:Nat)(h:n<9223372036854775807):IntKind.i64.wrap (n:Int)=n:=wrap64 (by omega) (by omega)
end
end Go.Proofs.YtpedcgdgjoblkaaGreatDoor
section
namespace Go.Proofs.YtpedcgdgjoblkaaGreatDoor
open Go Go.AM
end Go.Proofs.YtpedcgdgjoblkaaGreatDoor
end
section
namespace Go.Proofs.YtpedcgdgjoblkaaGreatDoor
open Go Go.AM
end Go.Proofs.YtpedcgdgjoblkaaGreatDoor
end
namespace Go.Proofs.YtpedcgdgjoblkaaGreatDoor
section
open Go Go.AM
def encU(n:Int):V:=.int .u8 n
@[simp] theorem encU_pure (n:Int):AM.Pure (encU n):=by simp[encU]
end
end Go.Proofs.YtpedcgdgjoblkaaGreatDoor
section
namespace Go.Proofs.YtpedcgdgjoblkaaGreatDoor
open Go Go.AM
end Go.Proofs.YtpedcgdgjoblkaaGreatDoor
end
section
namespace Go.Proofs.YtpedcgdgjoblkaaGreatDoor
open Go Go.AM
end Go.Proofs.YtpedcgdgjoblkaaGreatDoor
end
section
namespace Go.Proofs.YtpedcgdgjoblkaaGreatDoor
open Go Go.AM Go.RowKit
end Go.Proofs.YtpedcgdgjoblkaaGreatDoor
end
section
namespace Go.Proofs.YtpedcgdgjoblkaaGreatDoor
open Go Go.AM
end Go.Proofs.YtpedcgdgjoblkaaGreatDoor
end
namespace Go.Proofs.YtpedcgdgjoblkaaGreatDoor
section
open Go Go.AM
def mE(us:List Int):List (V×V):=us.map fun x=>(V.int .i64 x,V.bool true)
theorem mE_snoc(us:List Int)(x:Int):mE (us++[x])=mE us++[(V.int .i64 x,V.bool true)]:=by simp[mE]
@[simp ↓ high] theorem rbB_mE (n:Nat) (kk:KK) (us:List Int):rbB n (.map kk (mE us))↔True:=by
 refine⟨fun _=>trivial,fun _ p hp=>?_⟩;obtain⟨x,_,rfl⟩:=List.mem_map.1 hp;exact⟨trivial,trivial⟩
@[simp ↓ high] theorem rbB_mE2 (n:Nat) (kk:KK) (us:List Int) (x:Int):rbB n (.map kk (mE us++[(V.int .i64 x,V.bool true)]))↔True:=by
 rw[←mE_snoc];exact rbB_mE n kk _
@[simp ↓ high] theorem forall_rbB_cons (n:Nat) (b:B) (l:List B):(∀bl∈b::l,rbB n bl)↔(rbB n b∧∀bl∈l,rbB n bl):=List.forall_mem_cons
@[simp ↓ high] theorem forall_rbB_nil (n:Nat):(∀bl∈([]:List B),rbB n bl)↔True:=by simp
end
end Go.Proofs.YtpedcgdgjoblkaaGreatDoor
section

end
namespace Go.Proofs.YtpedcgdgjoblkaaGreatDoor
section
open Go Go.AM
def seq(a b:ByteArray):Bool:=a.toList == b.toList
def bj(c:Int):Bool:=decide (97≤c)&&decide (c≤122)||decide (65≤c)&&decide (c≤90)||decide (c=95)
theorem gD(c:Int):(97≤c∧c≤122∧bj c=true)∨(97≤c∧¬c≤122∧65≤c∧¬c≤90∧¬c=95∧bj c=false)∨(¬97≤c∧65≤c∧c≤90∧bj c=true)∨(¬97≤c∧65≤c∧¬c≤90∧c=95∧bj c=true)∨(¬97≤c∧65≤c∧¬c≤90∧¬c=95∧bj c=false)∨(¬97≤c∧¬65≤c∧¬c=95∧bj c=false):=by
 have h:bj c=decide ((97≤c∧c≤122)∨(65≤c∧c≤90)∨c=95):=by
  unfold bj;simp only[Bool.decide_or,Bool.decide_and,Bool.or_assoc]
 rw[h];simp only[decide_eq_true_eq,decide_eq_false_iff_not];omega
theorem jb(c:Int):aK Tryz.prog 170 [.int .u8 c] fun r=>r = .bool (bj c):=by
 rcases gD c with⟨h1,h2,h⟩ | ⟨h1,h2,h3,h4,h5,h⟩ | ⟨h1,h2,h3,h⟩ | ⟨h1,h2,h3,h4,h⟩ | ⟨h1,h2,h3,h4,h⟩ | ⟨h1,h2,h3,h⟩
 all_goals
  rw[h];refine sPx Tryz.func170 rfl rfl ?_;simp -dsimp[Tryz.f170,aI, *]
def bC(s:ByteArray)(i:Nat):Int:=((s[i]?).map fun b=>(b.toNat:Int)).getD 0
theorem da{s:ByteArray}{i:Nat}(h:i<s.size):s[i]?=some s[i]∧(s[i].toNat:Int)=bC s i:=by
 have h1:s[i]?=some s[i]:=getElem?_pos s i h;exact⟨h1,by unfold bC;rw[h1];rfl⟩
theorem ey(bs:ByteArray):bs.data.toList.length=bs.size:=by simp
theorem ba_loop(bs:ByteArray):∀(n i:Nat) (r:List UInt8),bs.size-i=n→ByteArray.toList.loop bs i r=r.reverse++bs.data.toList.drop i
 | 0,i,r,h=>by
  have hl:=ey bs;rw[ByteArray.toList.loop,if_neg (by omega),kf (by omega),kX]
 | n+1,i,r,h=>by
  have hl:=ey bs
  have hi:i<bs.size:=by omega
  have hi2:i<bs.data.toList.length:=by omega
  rw[ByteArray.toList.loop,if_pos hi,ba_loop bs n (i+1) _ (by omega),kT hi2,List.reverse_cons,kv];congr 2
  have hi3:i<bs.data.size:=by simpa using hi2
  rw[ByteArray.get!,getElem!_pos bs.data i hi3];rfl
theorem ba_toList(bs:ByteArray):bs.toList=bs.data.toList:=by
 unfold ByteArray.toList;rw[ba_loop bs _ 0 [] rfl];rfl
theorem ba_nil(s:ByteArray):s.toList=[]↔s.size=0:=by
 rw[ba_toList];rw[←List.length_eq_zero_iff,ey]
def okAt(s:ByteArray)(i:Nat):Bool:=bj (bC s i)||(decide (i≠0)&&(decide (48≤bC s i)&&decide (bC s i≤57)))
def bI(s:ByteArray):Bool:=!decide (s.toList=[])&&decide (s.size≤24)&&!(s.toList == [110,117,108,108])&&(kQ s.size).all (okAt s)
theorem allno{p:Nat→Bool}{n i:Nat}(h:i<n)(hp:p i=false):(kQ n).all p=false:=by
 rw[List.all_eq_false];exact⟨i,by simpa using h,by simp[hp]⟩
theorem br{p:Nat→Bool}{i:Nat}(h:(kQ i).all p=true)(hp:p i=true):(kQ (i+1)).all p=true:=by
 rw[lR,List.all_append,h];simp[hp]
theorem jc(s:ByteArray)(hsz:s.size≤maxLen):aK Tryz.prog 84 [.str s] fun r=>r = .bool (bI s):=by
 by_cases h0:s.toList=[]
 ·rw[show bI s=false by simp[bI,h0]];refine sPx Tryz.func84 rfl rfl ?_;simp -dsimp[Tryz.f84,aI,h0]
 ·by_cases h24:s.size≤24
  ·cases hnl:(s.toList == [110,117,108,108])
   ·rw[show bI s=(kQ s.size).all (okAt s) by simp[bI,h0,h24,hnl]];refine sPx Tryz.func84 rfl rfl ?_;simp -dsimp[Tryz.f84,aI,h0,hnl,show ¬(24:Int)<s.size by omega];refine aO (W_loopM 58 0x3fffffffff8003c (by simp[mB]<;>rfl) (σ:=Nat) (fun i=>i≤s.size∧(kQ i).all (okAt s)=true) (fun i=>s.size-i) (fun i=>[(19,.int .i64 i)]) (fun _=>[]) 0 ⟨by omega,rfl⟩ (by simp) rfl (by simp) ?_);rintro i ⟨hi,hall⟩ N Q hN hQ;by_cases hb:i<s.size
    ·obtain⟨hx1,hx2⟩:=da hb;have hok:okAt s i=(bj (bC s i)||(decide (i≠0)&&(decide (48≤bC s i)&&decide (bC s i≤57)))):=rfl;obtain⟨c,hc⟩:∃c,c=bC s i:=⟨_,rfl⟩;rw[←hc]at hx2 hok
     rcases gD c with⟨h1,h2,h⟩ | ⟨h1,h2,h3,h4,h5,h⟩ | ⟨h1,h2,h3,h⟩ | ⟨h1,h2,h3,h4,h⟩ | ⟨h1,h2,h3,h4,h⟩ | ⟨h1,h2,h3,h⟩
     ·rw[h,mz]at hok;refine wx ?_;simp -dsimp[hb,hx1,hx2,h1,h2,aX i (by unfold maxLen at hsz;omega)];refine hN (i+1) _ _ ⟨by omega,br hall hok⟩ (by omega) ?_ ⟨[],?_⟩ ?_ ?_<;>simp[or_imp,forall_and,L1,cW]
     ·by_cases hi0:i=0
      ·subst hi0;rw[h,lV,decide_eq_false (by simp),kj]at hok;refine wx ?_;simp -dsimp[hb,hx1,hx2,h1,h2,h3,h4,h5];refine hQ _ _ _ ?_;simp -dsimp[];exact⟨_,hb,hok⟩
      ·rw[h,lV,decide_eq_true hi0,ke,decide_eq_false (show ¬c≤57 by omega),mW]at hok;refine wx ?_;simp -dsimp[hb,hx1,hx2,h1,h2,h3,h4,h5,hi0,show ¬c<48 by omega,show 57<c by omega];refine hQ _ _ _ ?_;simp -dsimp[];exact⟨_,hb,hok⟩
     ·rw[h,mz]at hok;refine wx ?_;simp -dsimp[hb,hx1,hx2,h1,h2,h3,aX i (by unfold maxLen at hsz;omega)];refine hN (i+1) _ _ ⟨by omega,br hall hok⟩ (by omega) ?_ ⟨[],?_⟩ ?_ ?_<;>simp[or_imp,forall_and,L1,cW]
     ·rw[h,mz]at hok;refine wx ?_;simp -dsimp[hb,hx1,hx2,h1,h2,h3,h4,aX i (by unfold maxLen at hsz;omega)];refine hN (i+1) _ _ ⟨by omega,br hall hok⟩ (by omega) ?_ ⟨[],?_⟩ ?_ ?_<;>simp[or_imp,forall_and,L1,cW]
     ·by_cases hi0:i=0
      ·subst hi0;rw[h,lV,decide_eq_false (by simp),kj]at hok;refine wx ?_;simp -dsimp[hb,hx1,hx2,h1,h2,h3,h4];refine hQ _ _ _ ?_;simp -dsimp[];exact⟨_,hb,hok⟩
      ·rw[h,lV,decide_eq_true hi0,ke,decide_eq_false (show ¬c≤57 by omega),mW]at hok;refine wx ?_;simp -dsimp[hb,hx1,hx2,h1,h2,h3,h4,hi0,show ¬c<48 by omega,show 57<c by omega];refine hQ _ _ _ ?_;simp -dsimp[];exact⟨_,hb,hok⟩
     ·by_cases hi0:i=0
      ·subst hi0;rw[h,lV,decide_eq_false (by simp),kj]at hok;refine wx ?_;simp -dsimp[hb,hx1,hx2,h1,h2,h3];refine hQ _ _ _ ?_;simp -dsimp[];exact⟨_,hb,hok⟩
      ·by_cases h48:c<48
       ·rw[h,lV,decide_eq_false (show ¬48≤c by omega),kj,mW]at hok;refine wx ?_;simp -dsimp[hb,hx1,hx2,h1,h2,h3,hi0,h48];refine hQ _ _ _ ?_;simp -dsimp[];exact⟨_,hb,hok⟩
       ·by_cases h57:57<c
        ·rw[h,lV,decide_eq_true hi0,ke,decide_eq_false (show ¬c≤57 by omega),mW]at hok;refine wx ?_;simp -dsimp[hb,hx1,hx2,h1,h2,h3,hi0,h48,h57];refine hQ _ _ _ ?_;simp -dsimp[];exact⟨_,hb,hok⟩
        ·rw[h,lV,decide_eq_true hi0,ke,decide_eq_true (show c≤57 by omega),decide_eq_true (show 48≤c by omega),Bool.and_true]at hok;refine wx ?_;simp -dsimp[hb,hx1,hx2,h1,h2,h3,hi0,h48,h57,aX i (by unfold maxLen at hsz;omega)];refine hN (i+1) _ _ ⟨by omega,br hall hok⟩ (by omega) ?_ ⟨[],?_⟩ ?_ ?_<;>simp[or_imp,forall_and,L1,cW]
    ·obtain rfl:i=s.size:=by omega
     refine wx ?_;simp -dsimp[hb];refine hQ _ _ _ ?_;simp -dsimp[];simpa using hall
   ·rw[show bI s=false by simp[bI,hnl]];refine sPx Tryz.func84 rfl rfl ?_;simp -dsimp[Tryz.f84,aI,h0,hnl,show ¬(24:Int)<s.size by omega]
  ·rw[show bI s=false by simp[bI,h24]];refine sPx Tryz.func84 rfl rfl ?_;simp -dsimp[Tryz.f84,aI,h0,show(24:Int)<s.size by omega]
theorem jU(s:ByteArray)(hsz:s.size≤maxLen):aK Tryz.prog 116 [.str s] fun r=>r = .bool (bI s):=by
 by_cases h0:s.toList=[]
 ·rw[show bI s=false by simp[bI,h0]];have h00:=(ba_nil s).1 h0;refine sPx Tryz.func116 rfl rfl ?_;simp -dsimp[Tryz.f116,aI,h00]
 ·have h00:¬s.size=0:=fun h=>h0 ((ba_nil s).2 h)
  have hpos:0<s.size:=by omega
  obtain⟨hx1,hx2⟩:=da hpos;have hl0:=jb (bC s 0);rw[←hx2]at hl0;by_cases h24:s.size≤24
  ·cases hlt:bj (bC s 0)
   ·have hok0:okAt s 0=false:=by unfold okAt;rw[hlt];simp
    rw[show bI s=false by unfold bI;rw[allno hpos hok0,mW]];rw[hx2,hlt]at hl0;rw[←hx2]at hl0;refine sPx Tryz.func116 rfl rfl ?_;simp -dsimp[Tryz.f116,aI,h00,show ¬(24:Int)<s.size by omega,hx1];refine cPx (hl0) (by simp) ?_;simp -dsimp[]
   ·rw[hx2,hlt]at hl0;rw[←hx2]at hl0;cases hnl:(s.toList == [110,117,108,108])
    ·rw[show bI s=(kQ s.size).all (okAt s) by simp[bI,h0,h24,hnl]];refine sPx Tryz.func116 rfl rfl ?_;simp -dsimp[Tryz.f116,aI,h00,show ¬(24:Int)<s.size by omega,hx1];refine cPx (hl0) (by simp) ?_;simp -dsimp[hnl];refine aO (W_loopM 45 0x1fffffc0000c (by simp[mB]<;>rfl) (σ:=Nat) (fun i=>i≤s.size∧(kQ i).all (okAt s)=true) (fun i=>s.size-i) (fun i=>[(3,.int .i64 i)]) (fun _=>[]) 0 ⟨by omega,rfl⟩ (by simp) rfl (by simp) ?_);rintro i ⟨hi,hall⟩ N Q hN hQ;by_cases hb:i<s.size
     ·obtain⟨hy1,hy2⟩:=da hb;have hok:okAt s i=(bj (bC s i)||(decide (i≠0)&&(decide (48≤bC s i)&&decide (bC s i≤57)))):=rfl;obtain⟨c,hc⟩:∃c,c=bC s i:=⟨_,rfl⟩;rw[←hc]at hy2 hok;have hlc:=jb c;cases h:bj c
      ·have hi0:¬i=0:=fun e=>by subst e;rw[←hc]at hlt;rw[hlt]at h;cases h
       rw[h]at hlc;rw[h,lV,decide_eq_true hi0,ke]at hok;by_cases h48:c<48
       ·rw[decide_eq_false (show ¬48≤c by omega),kj]at hok;refine wx ?_;simp -dsimp[hb,hy1,hy2];refine cPx (hlc) (by simp) ?_;simp -dsimp[hb,hy1,hy2,h48];refine hQ _ _ _ ?_;simp -dsimp[];exact⟨_,hb,hok⟩
       ·by_cases h57:57<c
        ·rw[decide_eq_false (show ¬c≤57 by omega),mW]at hok;refine wx ?_;simp -dsimp[hb,hy1,hy2];refine cPx (hlc) (by simp) ?_;simp -dsimp[hb,hy1,hy2,h48,h57];refine hQ _ _ _ ?_;simp -dsimp[];exact⟨_,hb,hok⟩
        ·rw[decide_eq_true (show c≤57 by omega),decide_eq_true (show 48≤c by omega),Bool.and_true]at hok;refine wx ?_;simp -dsimp[hb,hy1,hy2];refine cPx (hlc) (by simp) ?_;simp -dsimp[hb,hy1,hy2,h48,h57,aX i (by unfold maxLen at hsz;omega)];refine hN (i+1) _ _ ⟨by omega,br hall hok⟩ (by omega) ?_ ⟨[],?_⟩ ?_ ?_<;>simp[or_imp,forall_and,L1,cW]
      ·rw[h]at hlc;rw[h,mz]at hok;refine wx ?_;simp -dsimp[hb,hy1,hy2];refine cPx (hlc) (by simp) ?_;simp -dsimp[aX i (by unfold maxLen at hsz;omega)];refine hN (i+1) _ _ ⟨by omega,br hall hok⟩ (by omega) ?_ ⟨[],?_⟩ ?_ ?_<;>simp[or_imp,forall_and,L1,cW]
     ·obtain rfl:i=s.size:=by omega
      refine wx ?_;simp -dsimp[hb];refine hQ _ _ _ ?_;simp -dsimp[];simpa using hall
    ·rw[show bI s=false by simp[bI,hnl]];refine sPx Tryz.func116 rfl rfl ?_;simp -dsimp[Tryz.f116,aI,h00,show ¬(24:Int)<s.size by omega,hx1];refine cPx (hl0) (by simp) ?_;simp -dsimp[hnl]
  ·rw[show bI s=false by simp[bI,h24]];refine sPx Tryz.func116 rfl rfl ?_;simp -dsimp[Tryz.f116,aI,h00,show(24:Int)<s.size by omega]
def LS(f:Bool)(ss:List ByteArray):V:=.lst 1 f (ss.map V.str)
@[simp] theorem LS_pure (f:Bool) (ss:List ByteArray):AM.Pure (LS f ss):=by simp[LS]
@[simp] theorem pure_takeS (i:Nat) (ss:List ByteArray):(∀x,x∈mL i (List.map V.str ss)→AM.Pure x)↔True:=iff_true_intro fun x hx=>by
 obtain⟨s,_,rfl⟩:=List.mem_map.1 (lF hx);exact .str s
def ixS(ss:List ByteArray)(x:ByteArray)(i:Nat):Int:=if h:i<ss.length then(if(x.toList == ss[i].toList)=true then(i:Int) else ixS ss x (i+1)) else -1
termination_by ss.length-i
def memS(ss:List ByteArray)(x:ByteArray):Bool:=ss.any fun e=>x.toList == e.toList
theorem ixS_mem(ss:List ByteArray)(x:ByteArray)(i:Nat):decide (0≤ixS ss x i)=memS (ss.drop i) x:=by
 unfold memS
 fun_induction ixS ss x i with
 | case1 i h h0=>rw[kT h,mn,h0];simp
 | case2 i h h0 ih=>rw[kT h,mn,ih];simp[h0]
 | case3 i h=>rw[kf (by omega)];rfl
theorem indexS(ss:List ByteArray)(x:ByteArray)(f:Bool)(hl:ss.length≤1000000):aK Tryz.prog 121 [LS f ss,.str x] fun r=>r = .int .i64 (ixS ss x 0):=by
 refine sPx Tryz.func121 rfl rfl ?_;simp -dsimp[Tryz.f121,aI,LS];refine aO (W_loopM 19 0x7ff30 (by simp[mB]<;>rfl) (σ:=Nat) (fun i=>ixS ss x i=ixS ss x 0) (fun i=>ss.length-i) (fun i=>[(8,.int .i64 i)]) (fun _=>[]) 0 rfl (by simp) rfl (by simp) ?_);intro i hx N Q hN hQ;by_cases hb:i<ss.length
 ·rw[ixS,dif_pos hb]at hx;cases hq:(x.toList == ss[i].toList)
  ·rw[hq,if_neg (by simp)]at hx;refine wx ?_;simp -dsimp[hb,hq];simp -dsimp[aX i (by omega)];refine hN (i+1) _ _ hx (by omega) (by simp) ⟨[],rfl⟩ (by simp) (by simp)
  ·rw[hq,if_pos rfl]at hx;refine wx ?_;simp -dsimp[hb,hq];refine hQ _ _ _ ?_;simp -dsimp[];exact hx
 ·rw[ixS,dif_neg hb]at hx;refine wx ?_;simp -dsimp[hb];refine hQ _ _ _ ?_;simp -dsimp[];exact hx
theorem containsS(ss:List ByteArray)(x:ByteArray)(f:Bool)(hl:ss.length≤1000000):aK Tryz.prog 85 [LS f ss,.str x] fun r=>r = .bool (memS ss x):=by
 have h0:=ixS_mem ss x 0;rw[lh]at h0;refine sPx Tryz.func85 rfl rfl ?_;simp -dsimp[Tryz.f85,aI];refine cPx (indexS ss x f hl) (by simp) ?_;simp -dsimp[];rw[←h0]
theorem beq_comm'(a b:List UInt8):(a == b)=(b == a):=by rw[mc,beq_iff_eq,beq_iff_eq];exact eq_comm
theorem attrS(ss:List ByteArray)(x:ByteArray)(f:Bool)(hl:ss.length≤1000000):aK Tryz.prog 171 [LS f ss,.str x] fun r=>r = .int .i64 (ixS ss x 0):=by
 refine sPx Tryz.func171 rfl rfl ?_;simp -dsimp[Tryz.f171,aI,LS];refine aO (W_loopM 19 0x7fff0 (by simp[mB]<;>rfl) (σ:=Nat) (fun i=>ixS ss x i=ixS ss x 0) (fun i=>ss.length-i) (fun i=>[(5,.int .i64 i)]) (fun _=>[]) 0 rfl (by simp) rfl (by simp) ?_);intro i hx N Q hN hQ;by_cases hb:i<ss.length
 ·rw[ixS,dif_pos hb,beq_comm']at hx;cases hq:(ss[i].toList == x.toList)
  ·rw[hq,if_neg (by simp)]at hx;refine wx ?_;simp -dsimp[hb,hq];simp -dsimp[aX i (by omega)];refine hN (i+1) _ _ hx (by omega) (by simp) ⟨[],rfl⟩ (by simp) (by simp)
  ·rw[hq,if_pos rfl]at hx;refine wx ?_;simp -dsimp[hb,hq];refine hQ _ _ _ ?_;simp -dsimp[];exact hx
 ·rw[ixS,dif_neg hb]at hx;refine wx ?_;simp -dsimp[hb];refine hQ _ _ _ ?_;simp -dsimp[];exact hx
def sAt(ss:List ByteArray)(i:Nat):ByteArray:=ss.getD i kI
def nmAt(ss:List ByteArray)(i:Nat):Bool:=bI (sAt ss i)&&!memS (ss.take i) (sAt ss i)
def ct(ss:List ByteArray):Bool:=(kQ ss.length).all (nmAt ss)
theorem names03(ss:List ByteArray)(f:Bool)(hl:ss.length≤1000000)(hs:∀s∈ss,s.size≤maxLen):aK Tryz.prog 117 [LS f ss] fun r=>r = .bool (ct ss):=by
 unfold ct;refine sPx Tryz.func117 rfl rfl ?_;simp -dsimp[Tryz.f117,aI,LS];refine aO (W_loopM 27 0x7fffffc (by simp[mB]<;>rfl) (σ:=Nat) (fun i=>i≤ss.length∧(kQ i).all (nmAt ss)=true) (fun i=>ss.length-i) (fun i=>[(3,.int .i64 i)]) (fun _=>[]) 0 ⟨by omega,rfl⟩ (by simp) rfl (by simp) ?_);rintro i ⟨hi,hall⟩ N Q hN hQ;by_cases hb:i<ss.length
 ·have hsi:sAt ss i=ss[i]:=by simp[sAt,hb]
  have hok:nmAt ss i=(bI ss[i]&&!memS (ss.take i) ss[i]):=by unfold nmAt;rw[hsi]
  have hc1:=jU ss[i] (hs _ (kN hb));have hc2:=attrS (ss.take i) ss[i] (f&&i == ss.length) (by simp;omega);have hm:=ixS_mem (ss.take i) ss[i] 0;rw[lh]at hm;simp only[LS,mG]at hc2;cases h1:bI ss[i]
  ·rw[h1,kj]at hok;rw[h1]at hc1;refine wx ?_;simp -dsimp[hb];refine .inr ⟨aR (by kernel_rfl),?_⟩;refine av _ (aP (hc1) (by simp)) ?_;simp -dsimp[];refine hQ _ _ _ ?_;simp -dsimp[];exact⟨_,hb,hok⟩
  ·rw[h1,ke]at hok;rw[h1]at hc1;cases h2:memS (ss.take i) ss[i]
   ·rw[h2]at hok hm;have hneg:=of_decide_eq_false hm;refine wx ?_;simp -dsimp[hb];refine .inr ⟨aR (by kernel_rfl),?_⟩;refine av _ (aP (hc1) (by simp)) ?_;simp -dsimp[hb,show i≤ss.length by omega];refine av _ (aP (hc2) (by simp)) ?_;simp -dsimp[show ¬0≤ixS (ss.take i) ss[i] 0 by omega,aX i (by omega)];refine hN (i+1) _ _ ⟨by omega,br hall (by rw[hok];rfl)⟩ (by omega) ?_ ⟨[],?_⟩ ?_ ?_<;>simp[or_imp,forall_and,L1,cW]
   ·rw[h2]at hok hm;have hneg:=of_decide_eq_true hm;refine wx ?_;simp -dsimp[hb];refine .inr ⟨aR (by kernel_rfl),?_⟩;refine av _ (aP (hc1) (by simp)) ?_;simp -dsimp[hb,show i≤ss.length by omega];refine av _ (aP (hc2) (by simp)) ?_;simp -dsimp[hneg];refine hQ _ _ _ ?_;simp -dsimp[];exact⟨_,hb,hok⟩
 ·obtain rfl:i=ss.length:=by omega
  refine wx ?_;simp -dsimp[hb];refine hQ _ _ _ ?_;simp -dsimp[];simpa using hall
structure Vl where
 k:Int
 n:Int
 s:ByteArray
def aJ(v:Vl):V:=.agg [.int .i64 v.k,.int .i64 v.n,.str v.s]
def LV(f:Bool)(vs:List Vl):V:=.lst 3 f (vs.map aJ)
@[simp] theorem encV_pure (v:Vl):AM.Pure (aJ v):=by simp[aJ]
@[simp] theorem LV_pure (f:Bool) (vs:List Vl):AM.Pure (LV f vs):=by simp[LV]
@[simp] theorem encV_oneV (v:Vl):dA (aJ v)=true:=rfl
def aV(v:Vl):Bool :=
 if v.k=0 then decide (v.n=0)&&v.s.toList.isEmpty else if v.k=1 then v.s.toList.isEmpty else
 if v.k=2 then decide (v.n=0)&&decide (v.s.size≤200) else decide (v.k=3)&&(decide (1≤v.n)&&v.s.toList.isEmpty)
def lfB:V→V→Prop
 | x,y=>y=x∨(∃z xs,x = .lst z true xs∧y = .lst z false xs)∨(∃z,x = .nilS∧y = .lst z false [])
def LfL:List V→List V→Prop
 | [],[]=>True
 | x::xs,y::ys=>lfB x y∧LfL xs ys
 | _,_=>False
theorem LfL.len:∀{xs ys:List V},LfL xs ys→xs.length=ys.length
 | [],[],_=>rfl
 | [],_::_,h=>h.elim
 | _::_,[],h=>h.elim
 | _::_,_::_,h=>by simp[h.2.len]
theorem LfL.at_:∀{xs ys:List V},LfL xs ys→∀(i:Nat) x y,xs[i]?=some x→ys[i]?=some y→lfB x y
 | [],_,_,i,x,y,h,_=>by simp at h
 | _::_,[],h,_,_,_,_,_=>h.elim
 | a::xs,b::ys,h,0,x,y,h1,h2=>by simp at h1 h2;subst h1;subst h2;exact h.1
 | a::xs,b::ys,h,i+1,x,y,h1,h2=>h.2.at_ i x y (by simpa using h1) (by simpa using h2)
theorem lf_rel{s:AM.St}{x y:V}{u:Value}(h:Rel s x u)(hl:lfB x y):Rel s y u:=by
 rcases hl with rfl | ⟨z,xs,rfl,rfl⟩ | ⟨z,rfl,rfl⟩
 ·exact h
 ·cases h with
  | lst _ _ _ A cap b off u hcap hfull hA hz hcell hrel=>exact .lst z false xs A cap b off u hcap (fun h=>by cases h) hA hz hcell hrel
 ·cases h;exact bf z false none 0 (fun _=>rfl)
theorem lf_one{x y:V}(hl:lfB x y)(h:x.one=true):y.one=true:=by
 rcases hl with rfl | ⟨z,xs,rfl,rfl⟩ | ⟨z,rfl,rfl⟩
 ·exact h
 ·rfl
 ·rfl
theorem W_lf{P:Program}(k0:Nat)(fr' cs':List V){c:Code}{Q:Exit→List V→List B→Prop}{fr:List V}{H:List B}{cs:List V}(hk:H[k0]?=some (.cells cs))(ho:LfL fr fr')(hc:LfL cs cs')
  (h:W P c Q fr' (H.set k0 (.cells cs'))):W P c Q fr H:=by
 intro s a hA hg hf hd;obtain⟨rfl,hZ⟩:=hA;have hst:=bN (w:=s.w) (bl':=.cells cs') hg hk (lvC hk) trivial rfl rfl rfl (kM _) (fun _ _ _=>rfl);have hl:=ho.len;have hlc:=hc.len
 have hgd:AM.Good (s.setB s.w k0 (.cells cs')):=by
  refine bd hg hk (lvC hk) trivial rfl rfl rfl (kM _) (fun _ _ _=>rfl) (fun hst=>?_);obtain⟨h1,vs,t,h2,h3,h4⟩:=hg.blk k0 _ hk;refine⟨fun d hd=>?_,vs,t,h2,by omega,fun i d u hd hu=>?_⟩
  ·obtain⟨i,hi⟩:=List.mem_iff_getElem?.1 hd;have hx:cs[i]?=some (cs[i]'(by have:=aB hi;omega)):=kJ _;exact lf_one (hc.at_ i _ d hx hi) (h1 _ (kN _))
  ·have hx:cs[i]?=some (cs[i]'(by have:=aB hd;omega)):=kJ _;exact(lf_rel (h4 i _ u hx hu) (hc.at_ i _ d hx hd)).step hst
 have:=h (s.setB s.w k0 (.cells cs')) a ⟨rfl,hZ.step hst⟩ hgd ⟨by rw[hf.len,hl],fun i v u hv hu=>by
  have hx:fr[i]?=some (fr[i]'(by have:=aB hv;omega)):=kJ _
  exact(lf_rel (hf.rel i _ u hx hu) (ho.at_ i _ v hx hv)).step hst⟩ hd
 exact wp_mono this fun _ _ _ hl=>bX hst hl
theorem lfB_refl(x:V):lfB x x:=.inl rfl
theorem ed:∀xs:List V,LfL xs xs
 | []=>trivial
 | x::xs=>⟨lfB_refl x,ed xs⟩
section
def isApp:Go.Op→Bool
 | .call c=>match c.callee with
  | .builtin .append=>true
  | _=>false
 | _=>false
def statP(ops:Array Oper)(E:List Nat)(tab:List (Nat×List Nat)):Bool :=
 stat1 ops&&fw ops E&&(kQ ops.size).all fun i=>E.contains i||(match ops[i]? with
  | some o=>(bL o.op||isApp o.op)&&(cE o.op||(kQ (E.length+1)).all fun c=>!eU (aQ [] ops.toList) E i c||c == ba E i||(dM tab i).contains c)
  | none=>true)
def oblP(T:AM.Ty)(ops:Array Oper)(C:V→List V→List B→(V→List B→Prop)→Prop)(E:List Nat)(tab:List (Nat×List Nat))(Hs:Nat→List B):List Oper→Nat→Nat→List V→List V→Prop
 | [],_,_,_,_=>True
 | _::_,_,_,_,[]=>False
 | o::rest,i,c,fr,v::vs =>
  (match bA ops fr o with
   | some true=>match ak o.op with
    | some (f,args)=>if E.contains i then C (aL fr f) (args.map (aL fr)) (Hs c) (fun r H'=>r=v∧H'=Hs (c+1))
     else cj (fun c'=>C (aL fr f) (args.map (aL fr)) (Hs c') (fun r H'=>r=v∧H'=Hs c')) (c::dM tab i)
    | none=>if E.contains i||cE o.op then True else cj (fun c'=>aop T o.op (aL fr) (Hs c')=some (v,Hs c')) (if bL o.op then dM tab i else c::dM tab i)
   | _=>True)∧oblP T ops C E tab Hs rest (i+1) (if E.contains i then c+1 else c) (ap fr o.dst v) vs
def DrawP(T:AM.Ty)(ops:Array Oper)(E:List Nat)(tab:List (Nat×List Nat))(cv:List (V×List B))(C:V→List V→List B→(V→List B→Prop)→Prop)(K:List V→List B→Prop)(fr:List V)(H:List B):Prop :=
 match AM.runT T ops E ops.toList 0 fr H cv with
 | none=>False
 | some (vs,hs,f)=>hs.length=E.length∧oblP T ops C E tab (fun c=>(H::hs)[c]?.getD []) ops.toList 0 0 fr vs∧K f ((H::hs)[E.length]?.getD [])
section
variable {P:Program} {T:AM.Ty}
theorem ip{ops:Array Oper}{C:V→List V→List B→(V→List B→Prop)→Prop}{E:List Nat}{tab:List (Nat×List Nat)}{Hs:Nat→List B}(hasc:fk E=true)
  (hst:∀i o,ops[i]?=some o→E.contains i=false→(bL o.op=true∨isApp o.op=true)∧(cE o.op=true∨∀c,c<E.length+1→eU (aQ [] ops.toList) E i c=true→c=ba E i∨c∈dM tab i)):
  ∀(l:List Oper) (i:Nat) (fr:List V) (H:List B) (cv:List (V×List B)) (vs:List V) (hs:List (List B)) (f:List V),l=ops.toList.drop i→AM.runT T ops E l i fr H cv=some (vs,hs,f)→(∀k,k≤hs.length→Hs (ba E i+k)=((H::hs)[k]?).getD [])→
   oblP T ops C E tab Hs l i (ba E i) fr vs→bO T ops C (aQ [] ops.toList) E Hs l i fr vs
 | [],i,fr,H,cv,vs,hs,f,hl,hr,hH,h=>trivial
 | o::rest,i,fr,H,cv,vs,hs,f,hl,hr,hH,h=>by
  have ho:ops[i]?=some o:=by
   have:=congrArg (fun l=>l[0]?) hl;simp at this;exact this.symm
  have hrest:rest=ops.toList.drop (i+1):=by
   have:=congrArg List.tail hl;simpa using this
  have hHi:Hs (ba E i)=H:=by have:=hH 0 (mV _);simpa using this
  simp only[AM.runT]at hr
  cases hw:bA ops fr o with
  | none=>rw[hw]at hr;cases hr
  | some b =>
  rw[hw]at hr
  cases b with
  | false =>
   simp only at hr;split at hr
   ·cases hr
   rename_i hE
   have hE:E.contains i=false:=by simpa using hE
   split at hr
   ·rename_i vs' hs' f' hr';cases hr;simp only[oblP,hw,hE,kU,if_false]at h;simp only[bO,hw];refine⟨⟨by first | trivial | rfl,hE⟩,ip hasc hst rest (i+1) _ H cv vs' _ _ hrest hr' (fun k hk=>?_) ?_⟩
    ·rw[bR hasc,hE];simpa using hH k hk
    ·rw[bR hasc,hE];simpa using h.2
   ·cases hr
  | true =>
   simp only at hr
   have fin:∀(v:V) (H':List B) (cv':List (V×List B)),(if E.contains i then(match AM.runT T ops E rest (i+1) (ap fr o.dst v) H' cv' with
      | some (vs,hs,f)=>some (v::vs,H'::hs,f)
      | none=>none)
     else(match AM.runT T ops E rest (i+1) (ap fr o.dst v) H cv' with
      | some (vs,hs,f)=>some (v::vs,hs,f)
      | none=>none))=some (vs,hs,f)→
     ∃vs',vs=v::vs'∧(E.contains i=true→Hs (ba E i+1)=H')∧(oblP T ops C E tab Hs rest (i+1) (if E.contains i then ba E i+1 else ba E i) (ap fr o.dst v) vs'→bO T ops C (aQ [] ops.toList) E Hs rest (i+1) (ap fr o.dst v) vs'):=fun v H' cv' hq=>by
    cases hE:E.contains i with
    | true =>
     rw[hE]at hq;simp only[if_true]at hq;split at hq
     ·rename_i vs' hs' f' hr';cases hq;refine⟨vs',rfl,fun _=>?_,fun hh=>?_⟩
      ·have:=hH 1 (by simp);simpa using this
      ·refine ip hasc hst rest (i+1) _ H' cv' vs' hs' _ hrest hr' (fun k hk=>?_) ?_
       ·rw[bR hasc,hE];have:=hH (k+1) (by simp;omega);simp only[if_true,kp]at this ⊢;rw[show ba E i+1+k=ba E i+(k+1) by omega];exact this
       ·rw[bR hasc,hE];simpa using hh
     ·cases hq
    | false =>
     rw[hE]at hq;simp only[kU,if_false]at hq;split at hq
     ·rename_i vs' hs' f' hr';cases hq;refine⟨vs',rfl,(fun h=>by cases h),fun hh=>?_⟩;refine ip hasc hst rest (i+1) _ H cv' vs' hs _ hrest hr' (fun k hk=>?_) ?_
      ·rw[bR hasc,hE];simpa using hH k hk
      ·rw[bR hasc,hE];simpa using hh
     ·cases hq
   cases hc:ak o.op with
   | some p =>
    obtain⟨g,args⟩:=p;rw[hc]at hr;simp only at hr;split at hr
    ·rename_i v H' cv';obtain⟨vs',rfl,hEH,hrec⟩:=fin v H' cv' hr;simp only[oblP,hw,hc]at h;simp only[bO,hw,hc];refine⟨?_,hrec h.2⟩
     cases hE:E.contains i with
     | true =>
      rw[hE]at h;simp only[if_true]at h ⊢;rw[gW hasc hE];exact h.1
     | false =>
      rw[hE]at h;simp only[kU,if_false]at h ⊢;obtain⟨_,s2⟩:=hst i o ho hE
      have hns:cE o.op=false:=by
       cases hop:o.op<;>rw[hop]at hc<;>simp only[ak]at hc<;>first | (cases hc;done) | rfl
      rw[hns]at s2;have s2:=s2.resolve_left (by simp);refine allC_of (fun c hcm=>?_);split
      ·rename_i hp
       rcases s2 c (by simpa using hcm) hp with rfl | hm
       ·exact cG h.1 _ (by simp)
       ·exact cG h.1 _ (by simp[hm])
      ·trivial
    ·cases hr
   | none =>
    rw[hc]at hr;simp only at hr
    cases hop:aop T o.op (aL fr) H with
    | none=>rw[hop]at hr;cases hr
    | some q =>
     obtain⟨v,H'⟩:=q;rw[hop]at hr;simp only at hr;obtain⟨vs',rfl,hEH,hrec⟩:=fin v H' cv hr;simp only[oblP,hw,hc]at h;simp only[bO,hw,hc];refine⟨?_,hrec h.2⟩
     cases hE:E.contains i with
     | true =>
      simp only[if_true];rw[gW hasc hE,hHi,hEH hE];exact hop
     | false =>
      rw[hE]at h;simp only[kU,if_false,lV]at h ⊢;obtain⟨s1,s2⟩:=hst i o ho hE;refine allC_of (fun c hcm=>?_);split
      ·rename_i hp
       cases hsc:cE o.op with
       | true=>exact scalOp_ok hsc hop _
       | false =>
        rw[hsc]at h s2;simp only[kU,if_false]at h
        cases hso:bL o.op with
        | true =>
         rw[hso,if_pos rfl]at h;have hHH:=di hso hop;subst hHH
         rcases(s2.resolve_left (by simp)) c (by simpa using hcm) hp with rfl | hm
         ·rw[hHi];exact hop
         ·exact cG h.1 _ hm
        | false =>
         rw[hso,if_neg (by simp)]at h
         rcases(s2.resolve_left (by simp)) c (by simpa using hcm) hp with rfl | hm
         ·exact cG h.1 _ (by simp)
         ·exact cG h.1 _ (by simp[hm])
      ·trivial
where
 allC_of {p:Nat→Prop} : ∀{l:List Nat},(∀c∈l,p c)→cj p l
  | [],_=>trivial
  | c::l,h=>⟨h c (by simp),allC_of (fun d hd=>h d (by simp[hd]))⟩
theorem dG(hT:TOk P T)(hm:P.follows .mixedOrders=true){id:Nat}{ops:Array Oper}{Q:Exit→List V→List B→Prop}{fr:List V}{H:List B}(E:List Nat)(tab:List (Nat×List Nat))(cv:List (V×List B))(hst:statP ops E tab=true)
  (h:∀(C:V→List V→List B→(V→List B→Prop)→Prop) (K:List V→List B→Prop),(∀fv args H K',aM P fv args H K'→C fv args H K')→(∀fr H,Q .normal fr H→K fr H)→DrawP T ops E tab cv C K fr H):W P (.region id ops true) Q fr H:=by
 refine W_draw hT hm E cv fun C K hC hK=>?_
 have h1:=h C K hC hK;unfold DrawP at h1;unfold eE;simp only[statP,kR]at hst;obtain⟨⟨st1,st2⟩,st3⟩:=hst;split at h1
 ·exact h1.elim
 ·rename_i vs hs f hr;rw[hr];obtain⟨a1,a2,a3⟩:=h1
  have hasc:fk E=true:=by
   unfold fw at st2;simp only[kR]at st2;exact st2.1.1
  have h00:ba E 0=0:=by cases E<;>simp[ba]
  refine⟨⟨fu st1 st2,a1⟩,?_,a3⟩;refine ip hasc (fun i o ho hE=>?_) ops.toList 0 fr H cv vs hs f (by simp) hr (fun k hk=>by rw[h00,ky]) (by rw[h00];exact a2);have hil:i<ops.size:=(Array.getElem?_eq_some_iff.1 ho).1;have:=List.all_eq_true.1 st3 i (by simpa using hil);rw[hE,ho,lV]at this;simp only[kR,lN]at this;refine⟨this.1,this.2.imp (fun h=>h) (fun hall c hc hp=>?_)⟩;have h3:=List.all_eq_true.1 hall c (by simpa using hc);simp only[lN,mF,beq_iff_eq]at h3
  rcases h3 with(h3 | h3) | h3
  ·rw[hp]at h3;cases h3
  ·exact .inl h3
  ·exact .inr (List.contains_iff_mem.1 h3)
end
attribute [simp] DrawP oblP
end
end
end Go.Proofs.YtpedcgdgjoblkaaGreatDoor
section
namespace Go.Proofs.YtpedcgdgjoblkaaGreatDoor
open Go Go.AM
end Go.Proofs.YtpedcgdgjoblkaaGreatDoor
end
namespace Go.Proofs.YtpedcgdgjoblkaaGreatDoor
section
open Go Go.AM Go.RowKit Go.Lib
theorem et{f:FuncId}{args:List V}{e z:Nat}(hE:AM.Enters Tryz.prog f)(h:∀(F:Nat→Prop) (w:World) (vals:Array Value),vals.size=args.length→(∀(i:Nat) a u,args[i]?=some a→vals[i]?=some u→Rel (AM.base F w) a u)→
  Calls Tryz.prog f vals w fun e' w'=>∃v,e' = .returned v∧Below w.heap.size w w'∧(v = .slice none 0 0∨∃g c cur,v = .slice (some ⟨g,0,none⟩) 0 c∧w.heap.size≤g∧w'.heap[g]?=some (.cells cur e (0,0))∧c≠0∧c≤maxLen∧cur.size=c*z)):df Tryz.prog f args fun e' z' ys=>e'=e∧z'=z∧ys=[]:=by
 refine⟨hE,fun F w vals hZ hF hsz hrel=>(h F w vals hsz hrel).mono fun e' w' ⟨v,he,hb,hv⟩=>?_⟩
 rcases hv with hv | ⟨g,c,cur,hv,hg,hc,hn,hm,hs⟩
 ·have hF':∀b,F b→b<w'.heap.size:=fun b hb'=>ka (hF b hb') hb.size
  obtain⟨p1,_⟩:=push0 (AM.base_good hF') (w:=w') 0 e z false rfl rfl rfl (kM _) (fun _ _=>rfl);refine⟨v,e,z,[],none,0,0,he,hv,fun h=>absurd rfl h,by simp,fun h=>absurd rfl h,?_,hb,rfl,rfl,rfl⟩;refine⟨hF',fun k hk=>absurd (hk.2 e z [] false (by have:=hk.1;simp at this;subst this;rfl)) (by simp),fun j k hj hk _=>by have:=hj.1;have:=hk.1;simp at *;omega,fun k bl hk=>?_⟩
  have hk0:k=0:=by have:=aB hk;simp at this;omega
  subst hk0;simp at hk;subst hk;exact⟨#[],fun h=>absurd rfl h,by simp,by simp,by simp[maxLen],(fun x hx=>by cases hx),(fun i x j c u hx=>by simp at hx)⟩
 ·have hF':∀b,F b→b<w'.heap.size:=fun b hb'=>ka (hF b hb') hb.size
  refine⟨v,e,z,[],some ⟨g,0,none⟩,g,c,he,hv,fun _=>rfl,by simp,fun _=>hg,?_,hb,rfl,rfl,rfl⟩;refine⟨hF',fun k hk=>⟨(Array.getElem?_eq_some_iff.1 hc).1,fun hf=>by have:=hF g hf;omega⟩,fun j k hj hk _=>by have:=hj.1;have:=hk.1;simp at *;omega,fun k bl hk=>?_⟩
  have hk0:k=0:=by have:=aB hk;simp at this;omega
  subst hk0;simp at hk;subst hk;exact⟨cur,fun _=>hc,by simpa using hs,by simp,hm,(fun x hx=>by cases hx),(fun i x j c u hx=>by simp at hx)⟩
theorem infoG_R:(Tryz.prog.info? 41).map (fun i=>(i.zero,i.size,i.bytes))=some (some (.agg #[.int .i64 0,.slice none 0 0]),2,32):=by kernel_rfl
theorem growPos_R(n:Nat)(w:World)(h0:0<n)(hn:n≤1000000):Calls Tryz.prog 169 #[.slice none 0 0,.int .i64 n] w fun e w' =>
   e = .returned (.slice (some ⟨w.heap.size,0,none⟩) 0 (grownCap w n 0 41))∧w'=w.drew.alloc (.cells (Builtin.zeroCells (.agg #[.int .i64 0,.slice none 0 0]:Value).cells n++Builtin.zeroCells (.agg #[.int .i64 0,.slice none 0 0]:Value).cells (grownCap w n 0 41-n)) 41):=by
 obtain⟨i0,hi0,hz0,hs0,hby⟩:=info_parts infoG_R
 have h1:¬((n:Int)<0):=by omega
 have hz25:∀w,(Go.sizeOf 41).run Tryz.prog w = .ok 2 w:=fun w=>by simp[Go.sizeOf,typeInfo,hi0,hs0]
 have hold:(Builtin.firstCells i0.size 0 (.slice none 0 0)).run Tryz.prog w.drew = .ok ([]:List Value).toArray w.drew:=run_firstCells_none w.drew i0.size 0 0 0
 have hbig:(0+n)*i0.bytes≤140737488355328:=by rw[hby];omega
 have hrz:∀ty,(Builtin.append_ #[27,3] ty #[.slice none 0 0,.int .i64 (n:Int)]).run Tryz.prog w =
   .ok (.slice (some ⟨w.heap.size,0,none⟩) n (grownCap w n 0 41)) (w.drew.alloc (.cells (Builtin.zeroCells (.agg #[.int .i64 0,.slice none 0 0]:Value).cells n++Builtin.zeroCells (.agg #[.int .i64 0,.slice none 0 0]:Value).cells (grownCap w n 0 41-n)) 41)):=fun ty=>by
  have h:=Lib.run_append_grow_zeros (P:=Tryz.prog) w 27 3 ty 41 i0 _ .i64 .i64 Tryz.underlying27 Tryz.underlying3 hi0 hz0 none 0 0 [] hold n h0 (by omega) (by omega) (by omega)
   (by rw[hby];omega)
   (growslice_fits (by omega) hbig)
  simpa using h
 have hGn:n≤grownCap w n 0 41:=grownCap_ge w _ _ _;obtain⟨G,hG⟩:∃G,G=grownCap w n 0 41:=⟨_,rfl⟩;rw[←hG]at hrz hGn ⊢
 have hG63:G≤9223372036854775807:=by
  have:=grownCap_le_maxLen w n 0 41 (by unfold maxLen;omega);rw[←hG]at this;unfold maxLen at this;omega
 have h2:RowKit.wrap64 ((0:Int)-0)=0:=by unfold RowKit.wrap64;omega
 have h3:RowKit.wrap64 ((n:Int)-0)=(n:Int):=by unfold RowKit.wrap64;omega
 have h4:(n:Int)> 0:=by omega
 clear hold hG hbig
 go_enter Tryz.func169,Tryz.ntmps169
 go_wp2_with (at_builtin;refine Lib.wpList_append_run _ rfl _ _ _ _ rfl _ _ rfl rfl _ _ (hrz _) ?_)
 all_goals (go_ret;exact⟨rfl,rfl⟩)
theorem growNil_R(w:World):Calls Tryz.prog 169 #[.slice none 0 0,.int .i64 0] w fun e w'=>e = .returned (.slice none 0 0)∧w'=w:=by
 go_enter Tryz.func169,Tryz.ntmps169
 go_wp2
 go_ret
 exact⟨rfl,rfl⟩
theorem grow_con_R(n:Nat)(hn:n≤1000000):df Tryz.prog 169 [.nilS,.int .i64 n] fun e z ys=>e=41∧z=2∧ys=[]:=by
 refine et ⟨Tryz.f169,Tryz.func169,rfl,rfl⟩ (fun F w vals hsz hrel=>?_)
 obtain⟨u0,u1,rfl⟩:∃u0 u1,vals = #[u0,u1]:=by
  obtain⟨l⟩:=vals
  match l,hsz with
  | [a,b],_=>exact⟨a,b,rfl⟩
 have r0:=hrel 0 _ u0 rfl rfl;have r1:=hrel 1 _ u1 rfl rfl;cases r0;cases r1;by_cases h0:n=0
 ·subst h0
  exact(growNil_R w).mono fun e w' ⟨h1,h2⟩=>⟨_,h1,by subst h2;exact Below.refl _ _,.inl rfl⟩
 ·refine(growPos_R n w (by omega) hn).mono fun e w' ⟨h1,h2⟩=>?_
  subst h2;have hge:=grownCap_ge w n 0 41;refine⟨_,h1,((Below.refl _ _).drew).alloc (kM _) _,.inr ⟨w.heap.size,grownCap w n 0 41,Builtin.zeroCells (.agg #[.int .i64 0,.slice none 0 0]:Value).cells n++Builtin.zeroCells (.agg #[.int .i64 0,.slice none 0 0]:Value).cells (grownCap w n 0 41-n),rfl,kM _,?_,by omega,grownCap_le_maxLen w n 0 41 (by unfold maxLen;omega),?_⟩⟩
  ·exact mC (xs:=w.heap)
  ·rw[lr,size_zeroCells,size_zeroCells,←kd,mO hge];rfl
theorem infoG_G:(Tryz.prog.info? 45).map (fun i=>(i.zero,i.size,i.bytes))=some (some (.agg #[.int .i64 0,.string ⟨#[]⟩,.string ⟨#[]⟩,.slice none 0 0,.slice none 0 0,.int .i64 0,.slice none 0 0,.int .i64 0,.int .i64 0,.int .i64 0,.string ⟨#[]⟩]),11,160):=by kernel_rfl
theorem growPos_G(n:Nat)(w:World)(h0:0<n)(hn:n≤1000000):Calls Tryz.prog 90 #[.slice none 0 0,.int .i64 n] w fun e w' =>
   e = .returned (.slice (some ⟨w.heap.size,0,none⟩) 0 (grownCap w n 0 45))∧w'=w.drew.alloc (.cells (Builtin.zeroCells (.agg #[.int .i64 0,.string ⟨#[]⟩,.string ⟨#[]⟩,.slice none 0 0,.slice none 0 0,.int .i64 0,.slice none 0 0,.int .i64 0,.int .i64 0,.int .i64 0,.string ⟨#[]⟩]:Value).cells n++Builtin.zeroCells (.agg #[.int .i64 0,.string ⟨#[]⟩,.string ⟨#[]⟩,.slice none 0 0,.slice none 0 0,.int .i64 0,.slice none 0 0,.int .i64 0,.int .i64 0,.int .i64 0,.string ⟨#[]⟩]:Value).cells (grownCap w n 0 45-n)) 45):=by
 obtain⟨i0,hi0,hz0,hs0,hby⟩:=info_parts infoG_G
 have h1:¬((n:Int)<0):=by omega
 have hz25:∀w,(Go.sizeOf 45).run Tryz.prog w = .ok 11 w:=fun w=>by simp[Go.sizeOf,typeInfo,hi0,hs0]
 have hold:(Builtin.firstCells i0.size 0 (.slice none 0 0)).run Tryz.prog w.drew = .ok ([]:List Value).toArray w.drew:=run_firstCells_none w.drew i0.size 0 0 0
 have hbig:(0+n)*i0.bytes≤140737488355328:=by rw[hby];omega
 have hrz:∀ty,(Builtin.append_ #[25,3] ty #[.slice none 0 0,.int .i64 (n:Int)]).run Tryz.prog w =
   .ok (.slice (some ⟨w.heap.size,0,none⟩) n (grownCap w n 0 45)) (w.drew.alloc (.cells (Builtin.zeroCells (.agg #[.int .i64 0,.string ⟨#[]⟩,.string ⟨#[]⟩,.slice none 0 0,.slice none 0 0,.int .i64 0,.slice none 0 0,.int .i64 0,.int .i64 0,.int .i64 0,.string ⟨#[]⟩]:Value).cells n++Builtin.zeroCells (.agg #[.int .i64 0,.string ⟨#[]⟩,.string ⟨#[]⟩,.slice none 0 0,.slice none 0 0,.int .i64 0,.slice none 0 0,.int .i64 0,.int .i64 0,.int .i64 0,.string ⟨#[]⟩]:Value).cells (grownCap w n 0 45-n)) 45)):=fun ty=>by
  have h:=Lib.run_append_grow_zeros (P:=Tryz.prog) w 25 3 ty 45 i0 _ .i64 .i64 Tryz.underlying25 Tryz.underlying3 hi0 hz0 none 0 0 [] hold n h0 (by omega) (by omega) (by omega)
   (by rw[hby];omega)
   (growslice_fits (by omega) hbig)
  simpa using h
 have hGn:n≤grownCap w n 0 45:=grownCap_ge w _ _ _;obtain⟨G,hG⟩:∃G,G=grownCap w n 0 45:=⟨_,rfl⟩;rw[←hG]at hrz hGn ⊢
 have hG63:G≤9223372036854775807:=by
  have:=grownCap_le_maxLen w n 0 45 (by unfold maxLen;omega);rw[←hG]at this;unfold maxLen at this;omega
 have h2:RowKit.wrap64 ((0:Int)-0)=0:=by unfold RowKit.wrap64;omega
 have h3:RowKit.wrap64 ((n:Int)-0)=(n:Int):=by unfold RowKit.wrap64;omega
 have h4:(n:Int)> 0:=by omega
 clear hold hG hbig
 go_enter Tryz.func90,Tryz.ntmps90
 go_wp2_with (at_builtin;refine Lib.wpList_append_run _ rfl _ _ _ _ rfl _ _ rfl rfl _ _ (hrz _) ?_)
 all_goals (go_ret;exact⟨rfl,rfl⟩)
theorem growNil_G(w:World):Calls Tryz.prog 90 #[.slice none 0 0,.int .i64 0] w fun e w'=>e = .returned (.slice none 0 0)∧w'=w:=by
 go_enter Tryz.func90,Tryz.ntmps90
 go_wp2
 go_ret
 exact⟨rfl,rfl⟩
theorem grow_con_G(n:Nat)(hn:n≤1000000):df Tryz.prog 90 [.nilS,.int .i64 n] fun e z ys=>e=45∧z=11∧ys=[]:=by
 refine et ⟨Tryz.f90,Tryz.func90,rfl,rfl⟩ (fun F w vals hsz hrel=>?_)
 obtain⟨u0,u1,rfl⟩:∃u0 u1,vals = #[u0,u1]:=by
  obtain⟨l⟩:=vals
  match l,hsz with
  | [a,b],_=>exact⟨a,b,rfl⟩
 have r0:=hrel 0 _ u0 rfl rfl;have r1:=hrel 1 _ u1 rfl rfl;cases r0;cases r1;by_cases h0:n=0
 ·subst h0
  exact(growNil_G w).mono fun e w' ⟨h1,h2⟩=>⟨_,h1,by subst h2;exact Below.refl _ _,.inl rfl⟩
 ·refine(growPos_G n w (by omega) hn).mono fun e w' ⟨h1,h2⟩=>?_
  subst h2;have hge:=grownCap_ge w n 0 45;refine⟨_,h1,((Below.refl _ _).drew).alloc (kM _) _,.inr ⟨w.heap.size,grownCap w n 0 45,Builtin.zeroCells (.agg #[.int .i64 0,.string ⟨#[]⟩,.string ⟨#[]⟩,.slice none 0 0,.slice none 0 0,.int .i64 0,.slice none 0 0,.int .i64 0,.int .i64 0,.int .i64 0,.string ⟨#[]⟩]:Value).cells n++Builtin.zeroCells (.agg #[.int .i64 0,.string ⟨#[]⟩,.string ⟨#[]⟩,.slice none 0 0,.slice none 0 0,.int .i64 0,.slice none 0 0,.int .i64 0,.int .i64 0,.int .i64 0,.string ⟨#[]⟩]:Value).cells (grownCap w n 0 45-n),rfl,kM _,?_,by omega,grownCap_le_maxLen w n 0 45 (by unfold maxLen;omega),?_⟩⟩
  ·exact mC (xs:=w.heap)
  ·rw[lr,size_zeroCells,size_zeroCells,←kd,mO hge];rfl
theorem grow_nil_G:aK Tryz.prog 90 [.nilS,.int .i64 0] fun r=>r = .nilS:=by
 refine⟨⟨Tryz.f90,Tryz.func90,rfl,rfl⟩,fun F w vals hZ hF hsz hrel=>?_⟩
 obtain⟨u0,u1,rfl⟩:∃u0 u1,vals = #[u0,u1]:=by
  obtain⟨l⟩:=vals
  match l,hsz with
  | [a,b],_=>exact⟨a,b,rfl⟩
 have r0:=hrel 0 _ u0 rfl rfl;have r1:=hrel 1 _ u1 rfl rfl;cases r0;cases r1
 refine(growNil_G w).mono fun e w' ⟨h1,h2⟩=>⟨_,_,h1,.nilS,.nilS,by subst h2;exact Below.refl _ _,rfl⟩
end
end Go.Proofs.YtpedcgdgjoblkaaGreatDoor
namespace Go.Proofs.YtpedcgdgjoblkaaGreatDoor
section
open Go Go.AM
theorem wcall_of{P:Program}{f:FuncId}{args:List V}{H:List B}{K K':V→List B→Prop}(h:aT P f args H K)(hk:∀r H',K r H'→K' r H'):aM P (.fn f []) args H K':=by
 simp only[aM,kX];exact h.mono hk
end
end Go.Proofs.YtpedcgdgjoblkaaGreatDoor
