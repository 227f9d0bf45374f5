/- JQ10: own texts of this seat, joined and shortened by pack4.py: C3, W1, W2, Pl1, Enc, W6, W7, W8, W9, W10, Pl2, W12, W13, W16, W17, K0, T1, T2, T3, T4, PT, T5, Wk, T6. -/
import Derived.Test.YtpedcgdgjoblkaaGreatDoorJQ6
import Derived.Test.YtpedcgdgjoblkaaGreatDoorJQ9
import Derived.WalkSpells
import Derived.WalkLawsBesides
import Derived.Lib.Hide
import Derived.Maps.AppendAt
set_option linter.unusedVariables false
set_option linter.unusedSimpArgs false
set_option maxRecDepth 100000
set_option maxHeartbeats 64000000
open Bool renaming false_eq_true→dc,false_and→fb,true_and→fk,false_or→mc,and_false→pQ,and_true→pr,true_or→pt
open ByteArray renaming empty→br
open Int renaming tmod_lt_of_pos→gB,tmod_nonneg→hX
open List renaming replicate→ba,mem_of_getElem?→bv,getElem?_eq_getElem→ca,range→ce,getElem_mem→cm,drop_eq_getElem_cons→cw,append_nil→eD,drop_of_length_le→ea,mem_of_mem_take→kR,drop_zero→mK,range_succ→nd,length_map→ov,append_assoc→pC,map_take→pc,take→pg,all_cons→ph,any_cons→pi
open Nat renaming le_refl→cd,beq→fa,eq_of_beq_eq_true→pJ
namespace Go.Proofs.YtpedcgdgjoblkaaGreatDoor
section
open Go Go.AM Go.RowKit
theorem mixed:Tryz.prog.follows .mixedOrders=true:=by kernel_rfl
theorem wx{c:Code}{Q:Exit→List V→List B→Prop}{fr:List V}{H:List B}(h:WX T (aI Tryz.prog) (LW Tryz.prog) c Q fr H):W Tryz.prog c Q fr H:=W_x tok mixed h
theorem sPx{f:FuncId}{fn:Func}{c:Code}(hf:Tryz.prog.funcs[f]?=some fn)(hb:fn.body=some c)(hn:(fn.name == "runtime.NumGoroutine")=false){args:List V}{K:V→Prop}(h:WX T (aI Tryz.prog) (LW Tryz.prog) c (retQ T fn.results.toList fun r H=>∃r',Exp H r r'∧AM.Pure r'∧K r') (args++ba (fn.ntmps-args.length) (.tup [])) []):aE Tryz.prog f args K:=bf (aK tok hf hb hn (wx h))
theorem tkf(n:Nat):TOk Tryz.prog (bo T fun t=>t == n):=tok_flag tok _
def ext:aU:=fun f args H=>match f,args with
 | 344,[.int .u32 x]=>some (.int .i64 (tzI x),H)
 | 360,[.str a,.str b]=>some (.int .i64 (cmpS a b),H)
 | _,_=>none
theorem ext_ok:aL Tryz.prog ext:=fun f args H r H' h=>by
 unfold ext at h;split at h
 ·cases h;rename_i x;have:=aW (H:=H) (tz_con x) (by simp);simpa only[aI,eD] using this
 ·cases h;rename_i a b;have:=aW (H:=H) (cmp_con a b) (by simp);simpa only[aI,eD] using this
 ·cases h
theorem allNamed:(Tryz.prog.funcs.toList.all fun fn=>!(fn.name == "runtime.NumGoroutine"))=true:=by kernel_rfl
theorem aN:∀(f:Nat) (fn:Func),Tryz.prog.funcs[f]?=some fn→(fn.name == "runtime.NumGoroutine")=false:=fun f fn h=>by
 have:=List.all_eq_true.1 allNamed fn (by rw[Array.mem_toList_iff];exact Array.mem_of_getElem? h);simpa using this
def buf1(H:List B):List V→List V→Option (Nat×Nat×Nat×List V)
 | a::as',b::bs=>if eqV 40 a b=true then buf1 H as' bs else match a with
  | .buf k 0 n m=>match H[k]? with
   | some (.buf e z xs _)=>if n=xs.length∧m=xs.length∧eqV 40 (.lst z false xs) b=true∧eqL (eqV 40) as' bs=true then some (k,e,z,xs) else none
   | _=>none
  | _=>none
 | _,_=>none
theorem repF_refl(p q:V):∀xs:List V,fP p q xs xs
 | []=>trivial
 | _::xs=>⟨.inl rfl,repF_refl p q xs⟩
theorem buf1_ok{H:List B} : ∀{args ga:List V} {k e z:Nat} {xs:List V},buf1 H args ga=some (k,e,z,xs)→(∃fz,H[k]?=some (.buf e z xs fz))∧fP (.buf k 0 xs.length xs.length) (.lst z false xs) args ga
 | [],_,_,_,_,_,h=>by simp[buf1]at h
 | _::_,[],_,_,_,_,h=>by simp[buf1]at h
 | a::as',b::bs,k,e,z,xs,h=>by
  unfold buf1 at h;split at h
  ·rename_i he;obtain⟨h1,h2⟩:=buf1_ok h;exact⟨h1,.inl (bc _ _ _ he).symm,h2⟩
  ·split at h
   ·rename_i k' n m;split at h
    ·rename_i e' z' xs' fz hk;split at h
     ·rename_i hc;obtain⟨rfl,rfl,h3,h4⟩:=hc;cases h;refine⟨⟨fz,hk⟩,.inr ⟨rfl,(bc _ _ _ h3).symm⟩,?_⟩;rw[bt (bc 40) h4];exact repF_refl _ _ _
     ·cases h
    ·cases h
   ·cases h
def lx(g:FuncId)(ga:List V)(gr:V)(ext:aU):aU:=fun f args H=>if fa f g then(if eqL (eqV 40) args ga then some (gr,H) else match buf1 H args ga with
 | some _=>some (gr,H)
 | none=>ext f args H) else ext f args H
def gN(g:FuncId)(ga:List V)(gr:V)(ext:aU):aU:=fun f args H=>if fa f g then(if eqL (eqV 40) args ga then some (gr,H) else match buf1 H args ga with
 | some (k,e,z,xs)=>some (gr,H.set k (.buf e z xs true))
 | none=>ext f args H) else ext f args H
theorem pure_of_lst{z:Nat}{f:Bool}{xs:List V}(h:AM.Pure (.lst z f xs)):∀x∈xs,AM.Pure x:=by cases h;assumption
theorem bB{ext:aU}(he:aL Tryz.prog ext){g:FuncId}{ga:List V}{gr:V}(hc:aE Tryz.prog g ga fun x=>x=gr)(hq:∀a∈ga,AM.Pure a)(hs:Scalar gr):aL Tryz.prog (lx g ga gr ext):=fun f args H r H' h=>by
 unfold lx at h;split at h
 ·rename_i hf;have hfg:f=g:=pJ hf;subst hfg;split at h
  ·rename_i ha;have ha:=bt (bc 40) ha;cases h;subst ha;have:=aW (H:=H) hc hq;simpa only[aI,eD] using this
  ·split at h
   ·rename_i o ho;obtain⟨k,e,z,xs⟩:=o;cases h;obtain⟨⟨fz,hk⟩,hr⟩:=buf1_ok ho
    have:=callX (H:=H) (args:=args) hc hr.len (fun i a a' h1 h2=>by
     have hp:=hq a' (bv h2)
     rcases hr.at_ i a a' h1 h2 with rfl | ⟨rfl,rfl⟩
     ·exact .pure _ hp
     ·exact lz hk rfl (pure_of_lst hp)) hs
    simpa only[aI,eD] using this
   ·exact he f args H r H' h
 ·exact he f args H r H' h
theorem bw{ext:aU}(he:aL Tryz.prog ext){g:FuncId}{ga:List V}{gr:V}(hc:aE Tryz.prog g ga fun x=>x=gr)(hq:∀a∈ga,AM.Pure a):aL Tryz.prog (gN g ga gr ext):=fun f args H r H' h=>by
 unfold gN at h;split at h
 ·rename_i hf;have hfg:f=g:=pJ hf;subst hfg;split at h
  ·rename_i ha;have ha:=bt (bc 40) ha;cases h;subst ha;have:=aW (H:=H) hc hq;simpa only[aI,eD] using this
  ·split at h
   ·rename_i k e z xs ho;cases h;obtain⟨⟨fz,hk⟩,hr⟩:=buf1_ok ho;have:=callF (H:=H) (args:=args) k hk hc hr hq;simpa only[aI,eD] using this
   ·exact he f args H r H' h
 ·exact he f args H r H' h
end
end Go.Proofs.YtpedcgdgjoblkaaGreatDoor
namespace Go.Proofs.YtpedcgdgjoblkaaGreatDoor
section
open Go Go.AM
def au(n:Int):V:=.int .i64 n
def L1(f:Bool)(xs:List Int):V:=.lst 1 f (xs.map au)
@[simp] theorem encI_pure (n:Int):AM.Pure (au n):=by simp[au]
@[simp] theorem L1_pure (f:Bool) (xs:List Int):AM.Pure (L1 f xs):=by simp[L1,au]
theorem wrap64{n:Int}(h1 : -9223372036854775808≤n)(h2:n<9223372036854775808):IntKind.i64.wrap n=n:=by rw[IntKind.wrap_i64];omega
theorem aa(i:Nat)(h:i<9223372036854775807):IntKind.i64.wrap ((i:Int)+1)=((i+1:Nat):Int):=by rw[wrap64 (by omega) (by omega)];rfl
def memB(xs:List Int)(x:Int):Bool:=xs.contains x
def within(us bs:List Int):Bool:=us.all fun x=>memB bs x
def dH(x y:Int):Int:=if x<y then -1 else if y<x then 1 else 0
end
end Go.Proofs.YtpedcgdgjoblkaaGreatDoor
section
namespace Go.Proofs.YtpedcgdgjoblkaaGreatDoor
open Go Go.AM
end Go.Proofs.YtpedcgdgjoblkaaGreatDoor
end
namespace Go.Proofs.YtpedcgdgjoblkaaGreatDoor
section
open Go Go.AM
def LL(g:Bool)(es:List (List Int)):V:=.lst 1 g (es.map (L1 false))
def encH(f g:Bool)(vs:List Int)(es:List (List Int)):V:=.agg [L1 f vs,LL g es]
@[simp] theorem LL_pure (g:Bool) (es:List (List Int)):AM.Pure (LL g es):=by simp[LL]
@[simp] theorem encH_pure (f g:Bool) (vs:List Int) (es:List (List Int)):AM.Pure (encH f g vs es):=by simp[encH]
@[simp] theorem encI_oneV (n:Int):cq (au n)=true:=rfl
@[simp] theorem L1_oneV (f:Bool) (xs:List Int):cq (L1 f xs)=true:=rfl
end
end Go.Proofs.YtpedcgdgjoblkaaGreatDoor
section
namespace Go.Proofs.YtpedcgdgjoblkaaGreatDoor
open Go Go.AM
end Go.Proofs.YtpedcgdgjoblkaaGreatDoor
end
namespace Go.Proofs.YtpedcgdgjoblkaaGreatDoor
section
open Go Go.AM
def hasB(s:Int)(i:Nat):Bool:=IntKind.u32.wrap ↑((s.fdiv (2^min i IntKind.u32.bits) % 2^IntKind.u32.bits).toNat &&& 1 % 2^IntKind.u32.bits)== 1
theorem has02(s:Int)(i:Nat)(hi:i<32):aE Tryz.prog 175 [.int .u32 s,.int .i64 i] fun r=>r = .bool (hasB s i):=by
 refine sPx Tryz.func175 rfl rfl ?_;simp -dsimp[Tryz.f175,ba,show(i:Int)<32 by omega];rfl
theorem cap8(n:Nat)(h:n≤1000000000):n≤9223372036854775806∧(n+1)*8≤140737488355328:=by omega
theorem cap24(n:Nat)(h:n≤1000000000):n≤9223372036854775806∧(n+1)*24≤140737488355328:=by omega
theorem eJ(n:Nat)(h:n<9223372036854775807):IntKind.i64.wrap (n:Int)=n:=wrap64 (by omega) (by omega)
end
end Go.Proofs.YtpedcgdgjoblkaaGreatDoor
section
namespace Go.Proofs.YtpedcgdgjoblkaaGreatDoor
open Go Go.AM
end Go.Proofs.YtpedcgdgjoblkaaGreatDoor
end
section
namespace Go.Proofs.YtpedcgdgjoblkaaGreatDoor
open Go Go.AM
end Go.Proofs.YtpedcgdgjoblkaaGreatDoor
end
namespace Go.Proofs.YtpedcgdgjoblkaaGreatDoor
section
open Go Go.AM
def bp(n:Int):V:=.int .u8 n
@[simp] theorem encU_pure (n:Int):AM.Pure (bp n):=by simp[bp]
end
end Go.Proofs.YtpedcgdgjoblkaaGreatDoor
section
namespace Go.Proofs.YtpedcgdgjoblkaaGreatDoor
open Go Go.AM
end Go.Proofs.YtpedcgdgjoblkaaGreatDoor
end
section
namespace Go.Proofs.YtpedcgdgjoblkaaGreatDoor
open Go Go.AM
end Go.Proofs.YtpedcgdgjoblkaaGreatDoor
end
section
namespace Go.Proofs.YtpedcgdgjoblkaaGreatDoor
open Go Go.AM Go.RowKit
end Go.Proofs.YtpedcgdgjoblkaaGreatDoor
end
section
namespace Go.Proofs.YtpedcgdgjoblkaaGreatDoor
open Go Go.AM
end Go.Proofs.YtpedcgdgjoblkaaGreatDoor
end
namespace Go.Proofs.YtpedcgdgjoblkaaGreatDoor
section
open Go Go.AM
def mE(us:List Int):List (V×V):=us.map fun x=>(V.int .i64 x,V.bool true)
theorem mE_snoc(us:List Int)(x:Int):mE (us++[x])=mE us++[(V.int .i64 x,V.bool true)]:=by simp[mE]
@[simp ↓ high] theorem rbB_mE (n:Nat) (kk:KK) (us:List Int):rbB n (.map kk (mE us))↔True:=by
 refine⟨fun _=>trivial,fun _ p hp=>?_⟩;obtain⟨x,_,rfl⟩:=List.mem_map.1 hp;exact⟨trivial,trivial⟩
@[simp ↓ high] theorem rbB_mE2 (n:Nat) (kk:KK) (us:List Int) (x:Int):rbB n (.map kk (mE us++[(V.int .i64 x,V.bool true)]))↔True:=by
 rw[←mE_snoc];exact rbB_mE n kk _
@[simp ↓ high] theorem forall_rbB_cons (n:Nat) (b:B) (l:List B):(∀bl∈b::l,rbB n bl)↔(rbB n b∧∀bl∈l,rbB n bl):=List.forall_mem_cons
@[simp ↓ high] theorem forall_rbB_nil (n:Nat):(∀bl∈([]:List B),rbB n bl)↔True:=by simp
end
end Go.Proofs.YtpedcgdgjoblkaaGreatDoor
section

end
namespace Go.Proofs.YtpedcgdgjoblkaaGreatDoor
section
open Go Go.AM
def seq(a b:ByteArray):Bool:=a.toList == b.toList
def bH(c:Int):Bool:=decide (97≤c)&&decide (c≤122)||decide (65≤c)&&decide (c≤90)||decide (c=95)
theorem eS(c:Int):(97≤c∧c≤122∧bH c=true)∨(97≤c∧¬c≤122∧65≤c∧¬c≤90∧¬c=95∧bH c=false)∨(¬97≤c∧65≤c∧c≤90∧bH c=true)∨(¬97≤c∧65≤c∧¬c≤90∧c=95∧bH c=true)∨(¬97≤c∧65≤c∧¬c≤90∧¬c=95∧bH c=false)∨(¬97≤c∧¬65≤c∧¬c=95∧bH c=false):=by
 have h:bH c=decide ((97≤c∧c≤122)∨(65≤c∧c≤90)∨c=95):=by
  unfold bH;simp only[Bool.decide_or,Bool.decide_and,Bool.or_assoc]
 rw[h];simp only[decide_eq_true_eq,decide_eq_false_iff_not];omega
theorem gF(c:Int):aE Tryz.prog 170 [.int .u8 c] fun r=>r = .bool (bH c):=by
 rcases eS c with⟨h1,h2,h⟩ | ⟨h1,h2,h3,h4,h5,h⟩ | ⟨h1,h2,h3,h⟩ | ⟨h1,h2,h3,h4,h⟩ | ⟨h1,h2,h3,h4,h⟩ | ⟨h1,h2,h3,h⟩
 all_goals
  rw[h];refine sPx Tryz.func170 rfl rfl ?_;simp -dsimp[Tryz.f170,ba, *]
def aj(s:ByteArray)(i:Nat):Int:=((s[i]?).map fun b=>(b.toNat:Int)).getD 0
theorem ci{s:ByteArray}{i:Nat}(h:i<s.size):s[i]?=some s[i]∧(s[i].toNat:Int)=aj s i:=by
 have h1:s[i]?=some s[i]:=getElem?_pos s i h;exact⟨h1,by unfold aj;rw[h1];rfl⟩
theorem eH(bs:ByteArray):bs.data.toList.length=bs.size:=by simp
theorem ba_loop(bs:ByteArray):∀(n i:Nat) (r:List UInt8),bs.size-i=n→ByteArray.toList.loop bs i r=r.reverse++bs.data.toList.drop i
 | 0,i,r,h=>by
  have hl:=eH bs;rw[ByteArray.toList.loop,if_neg (by omega),ea (by omega),eD]
 | n+1,i,r,h=>by
  have hl:=eH bs
  have hi:i<bs.size:=by omega
  have hi2:i<bs.data.toList.length:=by omega
  rw[ByteArray.toList.loop,if_pos hi,ba_loop bs n (i+1) _ (by omega),cw hi2,List.reverse_cons,pC];congr 2
  have hi3:i<bs.data.size:=by simpa using hi2
  rw[ByteArray.get!,getElem!_pos bs.data i hi3];rfl
theorem ba_toList(bs:ByteArray):bs.toList=bs.data.toList:=by
 unfold ByteArray.toList;rw[ba_loop bs _ 0 [] rfl];rfl
theorem ba_nil(s:ByteArray):s.toList=[]↔s.size=0:=by
 rw[ba_toList];rw[←List.length_eq_zero_iff,eH]
def okAt(s:ByteArray)(i:Nat):Bool:=bH (aj s i)||(decide (i≠0)&&(decide (48≤aj s i)&&decide (aj s i≤57)))
def av(s:ByteArray):Bool:=!decide (s.toList=[])&&decide (s.size≤24)&&!(s.toList == [110,117,108,108])&&(ce s.size).all (okAt s)
theorem allno{p:Nat→Bool}{n i:Nat}(h:i<n)(hp:p i=false):(ce n).all p=false:=by
 rw[List.all_eq_false];exact⟨i,by simpa using h,by simp[hp]⟩
theorem bT{p:Nat→Bool}{i:Nat}(h:(ce i).all p=true)(hp:p i=true):(ce (i+1)).all p=true:=by
 rw[nd,List.all_append,h];simp[hp]
theorem gG(s:ByteArray)(hsz:s.size≤maxLen):aE Tryz.prog 84 [.str s] fun r=>r = .bool (av s):=by
 by_cases h0:s.toList=[]
 ·rw[show av s=false by simp[av,h0]];refine sPx Tryz.func84 rfl rfl ?_;simp -dsimp[Tryz.f84,ba,h0]
 ·by_cases h24:s.size≤24
  ·cases hnl:(s.toList == [110,117,108,108])
   ·rw[show av s=(ce s.size).all (okAt s) by simp[av,h0,h24,hnl]];refine sPx Tryz.func84 rfl rfl ?_;simp -dsimp[Tryz.f84,ba,h0,hnl,show ¬(24:Int)<s.size by omega];refine aR (W_loopM 58 0x3fffffffff8003c (by simp[mB]<;>rfl) (σ:=Nat) (fun i=>i≤s.size∧(ce i).all (okAt s)=true) (fun i=>s.size-i) (fun i=>[(19,.int .i64 i)]) (fun _=>[]) 0 ⟨by omega,rfl⟩ (by simp) rfl (by simp) ?_);rintro i ⟨hi,hall⟩ N Q hN hQ;by_cases hb:i<s.size
    ·obtain⟨hx1,hx2⟩:=ci hb;have hok:okAt s i=(bH (aj s i)||(decide (i≠0)&&(decide (48≤aj s i)&&decide (aj s i≤57)))):=rfl;obtain⟨c,hc⟩:∃c,c=aj s i:=⟨_,rfl⟩;rw[←hc]at hx2 hok
     rcases eS c with⟨h1,h2,h⟩ | ⟨h1,h2,h3,h4,h5,h⟩ | ⟨h1,h2,h3,h⟩ | ⟨h1,h2,h3,h4,h⟩ | ⟨h1,h2,h3,h4,h⟩ | ⟨h1,h2,h3,h⟩
     ·rw[h,pt]at hok;refine wx ?_;simp -dsimp[hb,hx1,hx2,h1,h2,aa i (by unfold maxLen at hsz;omega)];refine hN (i+1) _ _ ⟨by omega,bT hall hok⟩ (by omega) ?_ ⟨[],?_⟩ ?_ ?_<;>simp[or_imp,forall_and,L1,au]
     ·by_cases hi0:i=0
      ·subst hi0;rw[h,mc,decide_eq_false (by simp),fb]at hok;refine wx ?_;simp -dsimp[hb,hx1,hx2,h1,h2,h3,h4,h5];refine hQ _ _ _ ?_;simp -dsimp[];exact⟨_,hb,hok⟩
      ·rw[h,mc,decide_eq_true hi0,fk,decide_eq_false (show ¬c≤57 by omega),pQ]at hok;refine wx ?_;simp -dsimp[hb,hx1,hx2,h1,h2,h3,h4,h5,hi0,show ¬c<48 by omega,show 57<c by omega];refine hQ _ _ _ ?_;simp -dsimp[];exact⟨_,hb,hok⟩
     ·rw[h,pt]at hok;refine wx ?_;simp -dsimp[hb,hx1,hx2,h1,h2,h3,aa i (by unfold maxLen at hsz;omega)];refine hN (i+1) _ _ ⟨by omega,bT hall hok⟩ (by omega) ?_ ⟨[],?_⟩ ?_ ?_<;>simp[or_imp,forall_and,L1,au]
     ·rw[h,pt]at hok;refine wx ?_;simp -dsimp[hb,hx1,hx2,h1,h2,h3,h4,aa i (by unfold maxLen at hsz;omega)];refine hN (i+1) _ _ ⟨by omega,bT hall hok⟩ (by omega) ?_ ⟨[],?_⟩ ?_ ?_<;>simp[or_imp,forall_and,L1,au]
     ·by_cases hi0:i=0
      ·subst hi0;rw[h,mc,decide_eq_false (by simp),fb]at hok;refine wx ?_;simp -dsimp[hb,hx1,hx2,h1,h2,h3,h4];refine hQ _ _ _ ?_;simp -dsimp[];exact⟨_,hb,hok⟩
      ·rw[h,mc,decide_eq_true hi0,fk,decide_eq_false (show ¬c≤57 by omega),pQ]at hok;refine wx ?_;simp -dsimp[hb,hx1,hx2,h1,h2,h3,h4,hi0,show ¬c<48 by omega,show 57<c by omega];refine hQ _ _ _ ?_;simp -dsimp[];exact⟨_,hb,hok⟩
     ·by_cases hi0:i=0
      ·subst hi0;rw[h,mc,decide_eq_false (by simp),fb]at hok;refine wx ?_;simp -dsimp[hb,hx1,hx2,h1,h2,h3];refine hQ _ _ _ ?_;simp -dsimp[];exact⟨_,hb,hok⟩
      ·by_cases h48:c<48
       ·rw[h,mc,decide_eq_false (show ¬48≤c by omega),fb,pQ]at hok;refine wx ?_;simp -dsimp[hb,hx1,hx2,h1,h2,h3,hi0,h48];refine hQ _ _ _ ?_;simp -dsimp[];exact⟨_,hb,hok⟩
       ·by_cases h57:57<c
        ·rw[h,mc,decide_eq_true hi0,fk,decide_eq_false (show ¬c≤57 by omega),pQ]at hok;refine wx ?_;simp -dsimp[hb,hx1,hx2,h1,h2,h3,hi0,h48,h57];refine hQ _ _ _ ?_;simp -dsimp[];exact⟨_,hb,hok⟩
        ·rw[h,mc,decide_eq_true hi0,fk,decide_eq_true (show c≤57 by omega),decide_eq_true (show 48≤c by omega),pr]at hok;refine wx ?_;simp -dsimp[hb,hx1,hx2,h1,h2,h3,hi0,h48,h57,aa i (by unfold maxLen at hsz;omega)];refine hN (i+1) _ _ ⟨by omega,bT hall hok⟩ (by omega) ?_ ⟨[],?_⟩ ?_ ?_<;>simp[or_imp,forall_and,L1,au]
    ·obtain rfl:i=s.size:=by omega
     refine wx ?_;simp -dsimp[hb];refine hQ _ _ _ ?_;simp -dsimp[];simpa using hall
   ·rw[show av s=false by simp[av,hnl]];refine sPx Tryz.func84 rfl rfl ?_;simp -dsimp[Tryz.f84,ba,h0,hnl,show ¬(24:Int)<s.size by omega]
  ·rw[show av s=false by simp[av,h24]];refine sPx Tryz.func84 rfl rfl ?_;simp -dsimp[Tryz.f84,ba,h0,show(24:Int)<s.size by omega]
theorem fy(s:ByteArray)(hsz:s.size≤maxLen):aE Tryz.prog 116 [.str s] fun r=>r = .bool (av s):=by
 by_cases h0:s.toList=[]
 ·rw[show av s=false by simp[av,h0]];have h00:=(ba_nil s).1 h0;refine sPx Tryz.func116 rfl rfl ?_;simp -dsimp[Tryz.f116,ba,h00]
 ·have h00:¬s.size=0:=fun h=>h0 ((ba_nil s).2 h)
  have hpos:0<s.size:=by omega
  obtain⟨hx1,hx2⟩:=ci hpos;have hl0:=gF (aj s 0);rw[←hx2]at hl0;by_cases h24:s.size≤24
  ·cases hlt:bH (aj s 0)
   ·have hok0:okAt s 0=false:=by unfold okAt;rw[hlt];simp
    rw[show av s=false by unfold av;rw[allno hpos hok0,pQ]];rw[hx2,hlt]at hl0;rw[←hx2]at hl0;refine sPx Tryz.func116 rfl rfl ?_;simp -dsimp[Tryz.f116,ba,h00,show ¬(24:Int)<s.size by omega,hx1];refine cPx (hl0) (by simp) ?_;simp -dsimp[]
   ·rw[hx2,hlt]at hl0;rw[←hx2]at hl0;cases hnl:(s.toList == [110,117,108,108])
    ·rw[show av s=(ce s.size).all (okAt s) by simp[av,h0,h24,hnl]];refine sPx Tryz.func116 rfl rfl ?_;simp -dsimp[Tryz.f116,ba,h00,show ¬(24:Int)<s.size by omega,hx1];refine cPx (hl0) (by simp) ?_;simp -dsimp[hnl];refine aR (W_loopM 45 0x1fffffc0000c (by simp[mB]<;>rfl) (σ:=Nat) (fun i=>i≤s.size∧(ce i).all (okAt s)=true) (fun i=>s.size-i) (fun i=>[(3,.int .i64 i)]) (fun _=>[]) 0 ⟨by omega,rfl⟩ (by simp) rfl (by simp) ?_);rintro i ⟨hi,hall⟩ N Q hN hQ;by_cases hb:i<s.size
     ·obtain⟨hy1,hy2⟩:=ci hb;have hok:okAt s i=(bH (aj s i)||(decide (i≠0)&&(decide (48≤aj s i)&&decide (aj s i≤57)))):=rfl;obtain⟨c,hc⟩:∃c,c=aj s i:=⟨_,rfl⟩;rw[←hc]at hy2 hok;have hlc:=gF c;cases h:bH c
      ·have hi0:¬i=0:=fun e=>by subst e;rw[←hc]at hlt;rw[hlt]at h;cases h
       rw[h]at hlc;rw[h,mc,decide_eq_true hi0,fk]at hok;by_cases h48:c<48
       ·rw[decide_eq_false (show ¬48≤c by omega),fb]at hok;refine wx ?_;simp -dsimp[hb,hy1,hy2];refine cPx (hlc) (by simp) ?_;simp -dsimp[hb,hy1,hy2,h48];refine hQ _ _ _ ?_;simp -dsimp[];exact⟨_,hb,hok⟩
       ·by_cases h57:57<c
        ·rw[decide_eq_false (show ¬c≤57 by omega),pQ]at hok;refine wx ?_;simp -dsimp[hb,hy1,hy2];refine cPx (hlc) (by simp) ?_;simp -dsimp[hb,hy1,hy2,h48,h57];refine hQ _ _ _ ?_;simp -dsimp[];exact⟨_,hb,hok⟩
        ·rw[decide_eq_true (show c≤57 by omega),decide_eq_true (show 48≤c by omega),pr]at hok;refine wx ?_;simp -dsimp[hb,hy1,hy2];refine cPx (hlc) (by simp) ?_;simp -dsimp[hb,hy1,hy2,h48,h57,aa i (by unfold maxLen at hsz;omega)];refine hN (i+1) _ _ ⟨by omega,bT hall hok⟩ (by omega) ?_ ⟨[],?_⟩ ?_ ?_<;>simp[or_imp,forall_and,L1,au]
      ·rw[h]at hlc;rw[h,pt]at hok;refine wx ?_;simp -dsimp[hb,hy1,hy2];refine cPx (hlc) (by simp) ?_;simp -dsimp[aa i (by unfold maxLen at hsz;omega)];refine hN (i+1) _ _ ⟨by omega,bT hall hok⟩ (by omega) ?_ ⟨[],?_⟩ ?_ ?_<;>simp[or_imp,forall_and,L1,au]
     ·obtain rfl:i=s.size:=by omega
      refine wx ?_;simp -dsimp[hb];refine hQ _ _ _ ?_;simp -dsimp[];simpa using hall
    ·rw[show av s=false by simp[av,hnl]];refine sPx Tryz.func116 rfl rfl ?_;simp -dsimp[Tryz.f116,ba,h00,show ¬(24:Int)<s.size by omega,hx1];refine cPx (hl0) (by simp) ?_;simp -dsimp[hnl]
  ·rw[show av s=false by simp[av,h24]];refine sPx Tryz.func116 rfl rfl ?_;simp -dsimp[Tryz.f116,ba,h00,show(24:Int)<s.size by omega]
def LS(f:Bool)(ss:List ByteArray):V:=.lst 1 f (ss.map V.str)
@[simp] theorem LS_pure (f:Bool) (ss:List ByteArray):AM.Pure (LS f ss):=by simp[LS]
@[simp] theorem pure_takeS (i:Nat) (ss:List ByteArray):(∀x,x∈pg i (List.map V.str ss)→AM.Pure x)↔True:=iff_true_intro fun x hx=>by
 obtain⟨s,_,rfl⟩:=List.mem_map.1 (kR hx);exact .str s
def ixS(ss:List ByteArray)(x:ByteArray)(i:Nat):Int:=if h:i<ss.length then(if(x.toList == ss[i].toList)=true then(i:Int) else ixS ss x (i+1)) else -1
termination_by ss.length-i
def memS(ss:List ByteArray)(x:ByteArray):Bool:=ss.any fun e=>x.toList == e.toList
theorem ixS_mem(ss:List ByteArray)(x:ByteArray)(i:Nat):decide (0≤ixS ss x i)=memS (ss.drop i) x:=by
 unfold memS
 fun_induction ixS ss x i with
 | case1 i h h0=>rw[cw h,pi,h0];simp
 | case2 i h h0 ih=>rw[cw h,pi,ih];simp[h0]
 | case3 i h=>rw[ea (by omega)];rfl
theorem indexS(ss:List ByteArray)(x:ByteArray)(f:Bool)(hl:ss.length≤1000000):aE Tryz.prog 121 [LS f ss,.str x] fun r=>r = .int .i64 (ixS ss x 0):=by
 refine sPx Tryz.func121 rfl rfl ?_;simp -dsimp[Tryz.f121,ba,LS];refine aR (W_loopM 19 0x7ff30 (by simp[mB]<;>rfl) (σ:=Nat) (fun i=>ixS ss x i=ixS ss x 0) (fun i=>ss.length-i) (fun i=>[(8,.int .i64 i)]) (fun _=>[]) 0 rfl (by simp) rfl (by simp) ?_);intro i hx N Q hN hQ;by_cases hb:i<ss.length
 ·rw[ixS,dif_pos hb]at hx;cases hq:(x.toList == ss[i].toList)
  ·rw[hq,if_neg (by simp)]at hx;refine wx ?_;simp -dsimp[hb,hq];simp -dsimp[aa i (by omega)];refine hN (i+1) _ _ hx (by omega) (by simp) ⟨[],rfl⟩ (by simp) (by simp)
  ·rw[hq,if_pos rfl]at hx;refine wx ?_;simp -dsimp[hb,hq];refine hQ _ _ _ ?_;simp -dsimp[];exact hx
 ·rw[ixS,dif_neg hb]at hx;refine wx ?_;simp -dsimp[hb];refine hQ _ _ _ ?_;simp -dsimp[];exact hx
theorem containsS(ss:List ByteArray)(x:ByteArray)(f:Bool)(hl:ss.length≤1000000):aE Tryz.prog 85 [LS f ss,.str x] fun r=>r = .bool (memS ss x):=by
 have h0:=ixS_mem ss x 0;rw[mK]at h0;refine sPx Tryz.func85 rfl rfl ?_;simp -dsimp[Tryz.f85,ba];refine cPx (indexS ss x f hl) (by simp) ?_;simp -dsimp[];rw[←h0]
theorem beq_comm'(a b:List UInt8):(a == b)=(b == a):=by rw[Bool.eq_iff_iff,beq_iff_eq,beq_iff_eq];exact eq_comm
theorem attrS(ss:List ByteArray)(x:ByteArray)(f:Bool)(hl:ss.length≤1000000):aE Tryz.prog 171 [LS f ss,.str x] fun r=>r = .int .i64 (ixS ss x 0):=by
 refine sPx Tryz.func171 rfl rfl ?_;simp -dsimp[Tryz.f171,ba,LS];refine aR (W_loopM 19 0x7fff0 (by simp[mB]<;>rfl) (σ:=Nat) (fun i=>ixS ss x i=ixS ss x 0) (fun i=>ss.length-i) (fun i=>[(5,.int .i64 i)]) (fun _=>[]) 0 rfl (by simp) rfl (by simp) ?_);intro i hx N Q hN hQ;by_cases hb:i<ss.length
 ·rw[ixS,dif_pos hb,beq_comm']at hx;cases hq:(ss[i].toList == x.toList)
  ·rw[hq,if_neg (by simp)]at hx;refine wx ?_;simp -dsimp[hb,hq];simp -dsimp[aa i (by omega)];refine hN (i+1) _ _ hx (by omega) (by simp) ⟨[],rfl⟩ (by simp) (by simp)
  ·rw[hq,if_pos rfl]at hx;refine wx ?_;simp -dsimp[hb,hq];refine hQ _ _ _ ?_;simp -dsimp[];exact hx
 ·rw[ixS,dif_neg hb]at hx;refine wx ?_;simp -dsimp[hb];refine hQ _ _ _ ?_;simp -dsimp[];exact hx
def sAt(ss:List ByteArray)(i:Nat):ByteArray:=ss.getD i br
def nmAt(ss:List ByteArray)(i:Nat):Bool:=av (sAt ss i)&&!memS (ss.take i) (sAt ss i)
def cO(ss:List ByteArray):Bool:=(ce ss.length).all (nmAt ss)
theorem names03(ss:List ByteArray)(f:Bool)(hl:ss.length≤1000000)(hs:∀s∈ss,s.size≤maxLen):aE Tryz.prog 117 [LS f ss] fun r=>r = .bool (cO ss):=by
 unfold cO;refine sPx Tryz.func117 rfl rfl ?_;simp -dsimp[Tryz.f117,ba,LS];refine aR (W_loopM 27 0x7fffffc (by simp[mB]<;>rfl) (σ:=Nat) (fun i=>i≤ss.length∧(ce i).all (nmAt ss)=true) (fun i=>ss.length-i) (fun i=>[(3,.int .i64 i)]) (fun _=>[]) 0 ⟨by omega,rfl⟩ (by simp) rfl (by simp) ?_);rintro i ⟨hi,hall⟩ N Q hN hQ;by_cases hb:i<ss.length
 ·have hsi:sAt ss i=ss[i]:=by simp[sAt,hb]
  have hok:nmAt ss i=(av ss[i]&&!memS (ss.take i) ss[i]):=by unfold nmAt;rw[hsi]
  have hc1:=fy ss[i] (hs _ (cm hb));have hc2:=attrS (ss.take i) ss[i] (f&&i == ss.length) (by simp;omega);have hm:=ixS_mem (ss.take i) ss[i] 0;rw[mK]at hm;simp only[LS,pc]at hc2;cases h1:av ss[i]
  ·rw[h1,fb]at hok;rw[h1]at hc1;refine wx ?_;simp -dsimp[hb];refine .inr ⟨bN (by kernel_rfl),?_⟩;refine ag _ (aW (hc1) (by simp)) ?_;simp -dsimp[];refine hQ _ _ _ ?_;simp -dsimp[];exact⟨_,hb,hok⟩
  ·rw[h1,fk]at hok;rw[h1]at hc1;cases h2:memS (ss.take i) ss[i]
   ·rw[h2]at hok hm;have hneg:=of_decide_eq_false hm;refine wx ?_;simp -dsimp[hb];refine .inr ⟨bN (by kernel_rfl),?_⟩;refine ag _ (aW (hc1) (by simp)) ?_;simp -dsimp[hb,show i≤ss.length by omega];refine ag _ (aW (hc2) (by simp)) ?_;simp -dsimp[show ¬0≤ixS (ss.take i) ss[i] 0 by omega,aa i (by omega)];refine hN (i+1) _ _ ⟨by omega,bT hall (by rw[hok];rfl)⟩ (by omega) ?_ ⟨[],?_⟩ ?_ ?_<;>simp[or_imp,forall_and,L1,au]
   ·rw[h2]at hok hm;have hneg:=of_decide_eq_true hm;refine wx ?_;simp -dsimp[hb];refine .inr ⟨bN (by kernel_rfl),?_⟩;refine ag _ (aW (hc1) (by simp)) ?_;simp -dsimp[hb,show i≤ss.length by omega];refine ag _ (aW (hc2) (by simp)) ?_;simp -dsimp[hneg];refine hQ _ _ _ ?_;simp -dsimp[];exact⟨_,hb,hok⟩
 ·obtain rfl:i=ss.length:=by omega
  refine wx ?_;simp -dsimp[hb];refine hQ _ _ _ ?_;simp -dsimp[];simpa using hall
structure Vl where
 k:Int
 n:Int
 s:ByteArray
def ac(v:Vl):V:=.agg [.int .i64 v.k,.int .i64 v.n,.str v.s]
def LV(f:Bool)(vs:List Vl):V:=.lst 3 f (vs.map ac)
@[simp] theorem encV_pure (v:Vl):AM.Pure (ac v):=by simp[ac]
@[simp] theorem LV_pure (f:Bool) (vs:List Vl):AM.Pure (LV f vs):=by simp[LV]
@[simp] theorem encV_oneV (v:Vl):cq (ac v)=true:=rfl
def ai(v:Vl):Bool :=
 if v.k=0 then decide (v.n=0)&&v.s.toList.isEmpty else if v.k=1 then v.s.toList.isEmpty else
 if v.k=2 then decide (v.n=0)&&decide (v.s.size≤200) else decide (v.k=3)&&(decide (1≤v.n)&&v.s.toList.isEmpty)
theorem valid01(v:Vl):aE Tryz.prog 73 [ac v] fun r=>r = .bool (ai v):=by
 unfold ai;by_cases h0:v.k=0
 ·by_cases hn:v.n=0
  ·rw[if_pos h0,decide_eq_true hn,fk];refine sPx Tryz.func73 rfl rfl ?_;simp -dsimp[Tryz.f73,ba,ac,h0,hn]
  ·rw[if_pos h0,decide_eq_false hn,fb];refine sPx Tryz.func73 rfl rfl ?_;simp -dsimp[Tryz.f73,ba,ac,h0,hn]
 ·rw[if_neg h0];by_cases h1:v.k=1
  ·rw[if_pos h1];refine sPx Tryz.func73 rfl rfl ?_;simp -dsimp[Tryz.f73,ba,ac,h1]
  ·rw[if_neg h1];by_cases h2:v.k=2
   ·rw[if_pos h2];by_cases hn:v.n=0
    ·rw[decide_eq_true hn,fk];by_cases hz:v.s.size≤200
     ·rw[decide_eq_true hz];refine sPx Tryz.func73 rfl rfl ?_;simp -dsimp[Tryz.f73,ba,ac,h2,hn,show(v.s.size:Int)≤200 by omega]
     ·rw[decide_eq_false hz];refine sPx Tryz.func73 rfl rfl ?_;simp -dsimp[Tryz.f73,ba,ac,h2,hn,show ¬(v.s.size:Int)≤200 by omega]
    ·rw[decide_eq_false hn,fb];refine sPx Tryz.func73 rfl rfl ?_;simp -dsimp[Tryz.f73,ba,ac,h2,hn]
   ·rw[if_neg h2];by_cases h3:v.k=3
    ·rw[decide_eq_true h3,fk];by_cases hn:1≤v.n
     ·rw[decide_eq_true hn,fk];refine sPx Tryz.func73 rfl rfl ?_;simp -dsimp[Tryz.f73,ba,ac,h3,hn]
     ·rw[decide_eq_false hn,fb];refine sPx Tryz.func73 rfl rfl ?_;simp -dsimp[Tryz.f73,ba,ac,h3,hn]
    ·rw[decide_eq_false h3,fb];refine sPx Tryz.func73 rfl rfl ?_;simp -dsimp[Tryz.f73,ba,ac,h0,h1,h2,h3]
theorem validV_con(v:Vl):aE Tryz.prog 114 [ac v] fun r=>r = .bool (ai v):=by
 unfold ai;by_cases h0:v.k=0
 ·by_cases hn:v.n=0
  ·rw[if_pos h0,decide_eq_true hn,fk];refine sPx Tryz.func114 rfl rfl ?_;simp -dsimp[Tryz.f114,ba,ac,h0,hn]
  ·rw[if_pos h0,decide_eq_false hn,fb];refine sPx Tryz.func114 rfl rfl ?_;simp -dsimp[Tryz.f114,ba,ac,h0,hn]
 ·rw[if_neg h0];by_cases h1:v.k=1
  ·rw[if_pos h1];refine sPx Tryz.func114 rfl rfl ?_;simp -dsimp[Tryz.f114,ba,ac,h1]
  ·rw[if_neg h1];by_cases h2:v.k=2
   ·rw[if_pos h2];by_cases hn:v.n=0
    ·rw[decide_eq_true hn,fk];by_cases hz:v.s.size≤200
     ·rw[decide_eq_true hz];refine sPx Tryz.func114 rfl rfl ?_;simp -dsimp[Tryz.f114,ba,ac,h2,hn,show(v.s.size:Int)≤200 by omega]
     ·rw[decide_eq_false hz];refine sPx Tryz.func114 rfl rfl ?_;simp -dsimp[Tryz.f114,ba,ac,h2,hn,show ¬(v.s.size:Int)≤200 by omega]
    ·rw[decide_eq_false hn,fb];refine sPx Tryz.func114 rfl rfl ?_;simp -dsimp[Tryz.f114,ba,ac,h2,hn]
   ·rw[if_neg h2];by_cases h3:v.k=3
    ·rw[decide_eq_true h3,fk];by_cases hn:1≤v.n
     ·rw[decide_eq_true hn,fk];refine sPx Tryz.func114 rfl rfl ?_;simp -dsimp[Tryz.f114,ba,ac,h3,hn]
     ·rw[decide_eq_false hn,fb];refine sPx Tryz.func114 rfl rfl ?_;simp -dsimp[Tryz.f114,ba,ac,h3,hn]
    ·rw[decide_eq_false h3,fb];refine sPx Tryz.func114 rfl rfl ?_;simp -dsimp[Tryz.f114,ba,ac,h0,h1,h2,h3]
theorem any_drop(p:Vl→Bool)(vs:List Vl)(i:Nat)(h:i<vs.length):(vs.drop i).all p=(p vs[i]&&(vs.drop (i+1)).all p):=by rw[cw h];rfl
theorem valids01(vs:List Vl)(f:Bool)(hl:vs.length≤1000000):aE Tryz.prog 70 [LV f vs] fun r=>r = .bool (vs.all ai):=by
 obtain⟨E,hE⟩:∃E,E=vs.all ai:=⟨_,rfl⟩;rw[←hE];refine sPx Tryz.func70 rfl rfl ?_;simp -dsimp[Tryz.f70,ba,LV];refine aR (W_loopM 16 0xfffc (by simp[mB]<;>rfl) (σ:=Nat) (fun i=>(vs.drop i).all ai=E) (fun i=>vs.length-i) (fun i=>[(3,.int .i64 i)]) (fun _=>[]) 0 (by rw[mK,hE]) (by simp) rfl (by simp) ?_);rintro i hx N Q hN hQ;by_cases hb:i<vs.length
 ·rw[any_drop _ _ _ hb]at hx;have hc:=valid01 vs[i];cases h1:ai vs[i]
  ·rw[h1]at hc;rw[h1,fb]at hx;refine wx ?_;simp -dsimp[hb];refine cPx (hc) (by simp) ?_;simp -dsimp[];refine hQ _ _ _ ?_;simp -dsimp[];simpa using hx
  ·rw[h1]at hc;rw[h1,fk]at hx;refine wx ?_;simp -dsimp[hb];refine cPx (hc) (by simp) ?_;simp -dsimp[aa i (by omega)];refine hN (i+1) _ _ hx (by omega) (by simp) ⟨[],rfl⟩ (by simp) (by simp)
 ·rw[ea (by omega)]at hx;refine wx ?_;simp -dsimp[hb];refine hQ _ _ _ ?_;simp -dsimp[];simpa using hx
def ixV(p:Vl→Bool)(vs:List Vl)(i:Nat):Int:=if h:i<vs.length then(if p vs[i] then(i:Int) else ixV p vs (i+1)) else -1
termination_by vs.length-i
theorem ixV_any(p:Vl→Bool)(vs:List Vl)(i:Nat):decide (0≤ixV p vs i)=(vs.drop i).any p:=by
 fun_induction ixV p vs i with
 | case1 i h h0=>rw[cw h,pi,h0];simp
 | case2 i h h0 ih=>rw[cw h,pi,ih];simp[h0]
 | case3 i h=>rw[ea (by omega)];rfl
theorem idxFuncV(H:List B)(fv:V)(p:Vl→Bool)(vs:List Vl)(g:Bool)(hes:vs.length≤1000000)(hH:∀bl∈H,rbB H.length bl)(hfv:rb H.length fv)
  (hp:∀m∈vs,aI Tryz.prog fv [ac m] H fun r H'=>r = .bool (p m)∧H'=H):aZ Tryz.prog 174 [LV g vs,fv] H fun r H'=>r = .int .i64 (ixV p vs 0)∧H'=H:=by
 refine aK tok Tryz.func174 rfl rfl ?_;refine wx ?_;simp -dsimp[Tryz.f174,ba,LV];refine aR (W_loopM 19 0x7ff30 (by simp[mB]<;>rfl) (σ:=Nat) (fun i=>ixV p vs i=ixV p vs 0) (fun i=>vs.length-i) (fun i=>[(8,.int .i64 i)]) (fun _=>H) 0 rfl (by simp) rfl (by simp) ?_);intro i hx N Q hN hQ;by_cases hb:i<vs.length
 ·rw[ixV,dif_pos hb]at hx;have hc:=hp vs[i] (cm hb);cases hq:p vs[i]
  ·rw[hq]at hc hx;refine wx ?_;simp -dsimp[hb];refine hc.mono ?_;rintro r H' ⟨rfl,rfl⟩;simp -dsimp[aa i (by omega)];refine hN (i+1) _ _ (by simpa using hx) (by omega) (by simp) ⟨[],by simp⟩ (by simp;exact hfv) hH
  ·rw[hq]at hc hx;refine wx ?_;simp -dsimp[hb];refine hc.mono ?_;rintro r H' ⟨rfl,rfl⟩;simp -dsimp[];refine hQ _ _ _ ?_;simp -dsimp[];simpa using hx
 ·rw[ixV,dif_neg hb]at hx;refine wx ?_;simp -dsimp[hb];refine hQ _ _ _ ?_;simp -dsimp[];simpa using hx
theorem contFuncV(H:List B)(fv:V)(p:Vl→Bool)(vs:List Vl)(g:Bool)(hes:vs.length≤1000000)(hH:∀bl∈H,rbB H.length bl)(hfv:rb H.length fv)
  (hp:∀m∈vs,aI Tryz.prog fv [ac m] H fun r H'=>r = .bool (p m)∧H'=H):aZ Tryz.prog 122 [LV g vs,fv] H fun r H'=>r = .bool (vs.any p)∧H'=H:=by
 have h0:=ixV_any p vs 0;rw[mK]at h0;have hc:=idxFuncV H fv p vs g hes hH hfv hp;refine aK tok Tryz.func122 rfl rfl ?_;refine wx ?_;simp -dsimp[Tryz.f122,ba];refine aI.mono (K:=fun r H'=>r = .int .i64 (ixV p vs 0)∧H'=H) hc ?_;rintro r H' ⟨rfl,rfl⟩;simp -dsimp[];rw[←h0]
theorem notValid(v:Vl):aE Tryz.prog 123 [ac v] fun r=>r = .bool (!ai v):=by
 have hc:=validV_con v;simp only[ac]at hc;refine sPx Tryz.func123 rfl rfl ?_;simp -dsimp[Tryz.f123,ba,ac];refine cPx (hc) (by simp) ?_;simp -dsimp[]
theorem validVals(vs:List Vl)(f:Bool)(hl:vs.length≤1000000):aE Tryz.prog 86 [LV f vs] fun r=>r = .bool (vs.all ai):=by
 have hc:=contFuncV [] (.fn 123 []) (fun v=>!ai v) vs f hl (by simp) (by simp) (fun m _=>aW (notValid m) (by simp))
 have he:vs.all ai = !vs.any fun v=>!ai v:=by
  induction vs with
  | nil=>rfl
  | cons v vs ih=>simp only[ph,pi,Bool.not_or,Bool.not_not];rw[ih (by simp at hl;omega) (contFuncV [] (.fn 123 []) (fun v=>!ai v) vs f (by simp at hl;omega) (by simp) (by simp) (fun m _=>aW (notValid m) (by simp)))]
 rw[he];refine sPx Tryz.func86 rfl rfl ?_;simp -dsimp[Tryz.f86,ba];refine aI.mono (K:=fun r H'=>r = .bool (vs.any fun v=>!ai v)∧H'=[]) hc ?_;rintro r H' ⟨rfl,rfl⟩;simp -dsimp[]
structure Rw where
 id:Int
 vals:List Vl
structure Tb where
 name:ByteArray
 attrs:List ByteArray
 rows:List Rw
def aT(r:Rw):V:=.agg [.int .i64 r.id,LV false r.vals]
def LR(g:Bool)(rs:List Rw):V:=.lst 2 g (rs.map aT)
def aF(f g:Bool)(t:Tb):V:=.agg [.str t.name,LS f t.attrs,LR g t.rows]
@[simp] theorem encRw_pure (r:Rw):AM.Pure (aT r):=by simp[aT]
@[simp] theorem LR_pure (g:Bool) (rs:List Rw):AM.Pure (LR g rs):=by simp[LR]
@[simp] theorem encTb_pure (f g:Bool) (t:Tb):AM.Pure (aF f g t):=by simp[aF]
@[simp] theorem encRw_oneV (r:Rw):cq (aT r)=true:=rfl
def bU(n:Nat):Int→List Rw→Int
 | _,[]=>0
 | last,r::rs=>if r.id≤last then 1 else if r.vals.length≠n then 6 else if r.vals.all ai then bU n r.id rs else 1
def aQ(t:Tb):Int:=if av t.name then(if 16<t.attrs.length∨1000<t.rows.length then 3 else if cO t.attrs then bU t.attrs.length 0 t.rows else 1) else 1
structure TbOk (t:Tb):Prop where
 name:t.name.size≤maxLen
 attrs:t.attrs.length≤1000000
 rows:t.rows.length≤1000000
 strs:∀s∈t.attrs,s.size≤maxLen
theorem valid03(t:Tb)(f g:Bool)(h:TbOk t):aE Tryz.prog 69 [aF f g t] fun r=>r = .int .i64 (aQ t):=by
 obtain⟨hn,ha,hr,hs⟩:=h;have hc1:=fy t.name hn;cases h1:av t.name
 ·rw[h1]at hc1;rw[show aQ t=1 by simp[aQ,h1]];refine sPx Tryz.func69 rfl rfl ?_;simp -dsimp[Tryz.f69,ba,aF,LR,LS];refine cPx (hc1) (by simp) ?_;simp -dsimp[]
 ·rw[h1]at hc1;by_cases h2:16<t.attrs.length
  ·rw[show aQ t=3 by simp[aQ,h1,h2]];refine sPx Tryz.func69 rfl rfl ?_;simp -dsimp[Tryz.f69,ba,aF,LR,LS];refine cPx (hc1) (by simp) ?_;simp -dsimp[show(16:Int)<t.attrs.length by omega]
  ·by_cases h3:1000<t.rows.length
   ·rw[show aQ t=3 by simp[aQ,h1,h3]];refine sPx Tryz.func69 rfl rfl ?_;simp -dsimp[Tryz.f69,ba,aF,LR,LS];refine cPx (hc1) (by simp) ?_;simp -dsimp[show ¬(16:Int)<t.attrs.length by omega,show(1000:Int)<t.rows.length by omega]
   ·have hc2:=names03 t.attrs f ha hs;simp only[LS]at hc2;cases h4:cO t.attrs
    ·rw[h4]at hc2;rw[show aQ t=1 by simp[aQ,h1,h2,h3,h4]];refine sPx Tryz.func69 rfl rfl ?_;simp -dsimp[Tryz.f69,ba,aF,LR,LS];refine cPx (hc1) (by simp) ?_;simp -dsimp[show ¬(16:Int)<t.attrs.length by omega,show ¬(1000:Int)<t.rows.length by omega];refine cPx (hc2) (by simp) ?_;simp -dsimp[]
    ·rw[h4]at hc2
     have hE:bU t.attrs.length 0 t.rows=aQ t:=by simp[aQ,h1,h2,h3,h4]
     obtain⟨E,hEe⟩:∃E,E=aQ t:=⟨_,rfl⟩;rw[←hEe]at hE ⊢;refine sPx Tryz.func69 rfl rfl ?_;simp -dsimp[Tryz.f69,ba,aF,LR,LS];refine cPx (hc1) (by simp) ?_;simp -dsimp[show ¬(16:Int)<t.attrs.length by omega,show ¬(1000:Int)<t.rows.length by omega];refine cPx (hc2) (by simp) ?_;simp -dsimp[];refine aR (W_loopM 53 0x1fffffff00003c (by simp[mB]<;>rfl) (σ:=Nat×Int) (fun p=>p.1≤t.rows.length∧bU t.attrs.length p.2 (t.rows.drop p.1)=E) (fun p=>t.rows.length-p.1) (fun p=>[(4,.int .i64 p.1),(3,.int .i64 p.2)]) (fun _=>[B.cells [.str t.name,LS f t.attrs,LR g t.rows]]) (0,0) ⟨by simp,hE⟩ (by simp) (by simp[LS,LR]) (by simp) ?_);rintro⟨i,last⟩ ⟨hi,hx⟩ N Q hN hQ;simp only at hi hx hN;by_cases hb:i<t.rows.length
     ·rw[cw hb]at hx;simp only[bU]at hx;by_cases h5:t.rows[i].id≤last
      ·rw[if_pos h5]at hx;refine wx ?_;simp -dsimp[hb,LS,LR,aT,h5,LV];refine hQ _ _ _ ?_;simp -dsimp[];exact hx
      ·rw[if_neg h5]at hx;by_cases h6:t.rows[i].vals.length=t.attrs.length
       ·rw[if_neg (fun h=>h h6)]at hx;have hc3:=valids01 t.rows[i].vals false (by omega);cases h7:t.rows[i].vals.all ai
        ·rw[h7]at hc3 hx;refine wx ?_;simp -dsimp[hb,LS,LR,aT,h5,LV,h6];simp only[LV]at hc3;refine cPx (hc3) (by simp) ?_;simp -dsimp[];refine hQ _ _ _ ?_;simp -dsimp[];simpa using hx
        ·rw[h7,if_pos rfl]at hx;rw[h7]at hc3;refine wx ?_;simp -dsimp[hb,LS,LR,aT,h5,LV,h6];simp only[LV]at hc3;refine cPx (hc3) (by simp) ?_;simp -dsimp[aa i (by omega)];refine hN (i+1,t.rows[i].id) _ _ ⟨by simp;omega,hx⟩ (by omega) ?_ ⟨[B.cells [.int .i64 t.rows[i].id,LV false t.rows[i].vals]],?_⟩ ?_ ?_<;>simp[or_imp,forall_and,L1,au,LS,LR,LV]
       ·rw[if_pos h6]at hx;refine wx ?_;simp -dsimp[hb,LS,LR,aT,h5,LV,show ¬(t.rows[i].vals.length:Int)=t.attrs.length by omega];refine hQ _ _ _ ?_;simp -dsimp[];exact hx
     ·rw[ea (by omega)]at hx;refine wx ?_;simp -dsimp[hb,LS,LR];refine hQ _ _ _ ?_;simp -dsimp[];exact hx
theorem tableValid(t:Tb)(f g:Bool)(h:TbOk t):aE Tryz.prog 43 [aF f g t] fun r=>r = .int .i64 (aQ t):=by
 obtain⟨hn,ha,hr,hs⟩:=h;have hc1:=gG t.name hn;cases h1:av t.name
 ·rw[h1]at hc1;rw[show aQ t=1 by simp[aQ,h1]];refine sPx Tryz.func43 rfl rfl ?_;simp -dsimp[Tryz.f43,ba,aF,LR,LS];refine cPx (hc1) (by simp) ?_;simp -dsimp[]
 ·rw[h1]at hc1;by_cases h2:16<t.attrs.length
  ·rw[show aQ t=3 by simp[aQ,h1,h2]];refine sPx Tryz.func43 rfl rfl ?_;simp -dsimp[Tryz.f43,ba,aF,LR,LS];refine cPx (hc1) (by simp) ?_;simp -dsimp[show(16:Int)<t.attrs.length by omega]
  ·by_cases h3:1000<t.rows.length
   ·rw[show aQ t=3 by simp[aQ,h1,h3]];refine sPx Tryz.func43 rfl rfl ?_;simp -dsimp[Tryz.f43,ba,aF,LR,LS];refine cPx (hc1) (by simp) ?_;simp -dsimp[show ¬(16:Int)<t.attrs.length by omega,show(1000:Int)<t.rows.length by omega]
   ·have hE:(if cO t.attrs then bU t.attrs.length 0 t.rows else 1)=aQ t:=by simp[aQ,h1,h2,h3]
    obtain⟨E,hEe⟩:∃E,E=aQ t:=⟨_,rfl⟩;rw[←hEe]at hE ⊢;refine sPx Tryz.func43 rfl rfl ?_;simp -dsimp[Tryz.f43,ba,aF,LR,LS];refine cPx (hc1) (by simp) ?_;simp -dsimp[show ¬(16:Int)<t.attrs.length by omega,show ¬(1000:Int)<t.rows.length by omega];refine aR (W_loopM 42 0x3fffe00001c (by simp[mB]<;>rfl) (σ:=Nat) (fun i=>i≤t.attrs.length∧(ce i).all (nmAt t.attrs)=true) (fun i=>t.attrs.length-i) (fun i=>[(25,.int .i64 i)]) (fun _=>[B.cells [.str t.name,LS f t.attrs,LR g t.rows]]) 0 ⟨by omega,rfl⟩ (by simp) (by simp[LS,LR]) (by simp) ?_);rintro i ⟨hi,hall⟩ N Q hN hQ;by_cases hb:i<t.attrs.length
    ·have hsi:sAt t.attrs i=t.attrs[i]:=by simp[sAt,hb]
     have hok:nmAt t.attrs i=(av t.attrs[i]&&!memS (t.attrs.take i) t.attrs[i]):=by unfold nmAt;rw[hsi]
     have hd1:=gG t.attrs[i] (hs _ (cm hb));have hd2:=containsS (t.attrs.take i) t.attrs[i] (f&&i == t.attrs.length) (by simp;omega);simp only[LS,pc]at hd2;cases h5:av t.attrs[i]
     ·rw[h5,fb]at hok;rw[h5]at hd1;rw[show cO t.attrs=false from allno hb hok]at hE;refine wx ?_;simp -dsimp[hb,LS,LR];refine cPx (hd1) (by simp) ?_;simp -dsimp[];refine hQ _ _ _ ?_;simp -dsimp[];simpa using hE
     ·rw[h5,fk]at hok;rw[h5]at hd1;cases h6:memS (t.attrs.take i) t.attrs[i]
      ·rw[h6]at hd2 hok;refine wx ?_;simp -dsimp[hb,LS,LR];refine cPx (hd1) (by simp) ?_;simp -dsimp[show i≤t.attrs.length by omega];refine cPx (hd2) (by simp) ?_;simp -dsimp[aa i (by omega)];refine hN (i+1) _ _ ⟨by omega,bT hall (by rw[hok];rfl)⟩ (by omega) ?_ ⟨[],?_⟩ ?_ ?_<;>simp[or_imp,forall_and,L1,au,LS,LR]
      ·rw[h6]at hd2 hok;rw[show cO t.attrs=false from allno hb hok]at hE;refine wx ?_;simp -dsimp[hb,LS,LR];refine cPx (hd1) (by simp) ?_;simp -dsimp[show i≤t.attrs.length by omega];refine cPx (hd2) (by simp) ?_;simp -dsimp[];refine hQ _ _ _ ?_;simp -dsimp[];simpa using hE
    ·obtain rfl:i=t.attrs.length:=by omega
     rw[show cO t.attrs=true from hall,if_pos rfl]at hE;refine wx ?_;simp -dsimp[hb,LS,LR];refine hQ _ _ _ ?_;simp -dsimp[LS,LR];refine aR (W_loopM 70 0x3fffffe000000000a4 (by simp[mB]<;>rfl) (σ:=Nat×Int) (fun p=>p.1≤t.rows.length∧bU t.attrs.length p.2 (t.rows.drop p.1)=E) (fun p=>t.rows.length-p.1) (fun p=>[(45,.int .i64 p.1),(5,.int .i64 p.2)]) (fun _=>[B.cells [.str t.name,LS f t.attrs,LR g t.rows]]) (0,0) ⟨by simp,hE⟩ (by simp) (by simp[LS,LR]) (by simp) ?_);rintro⟨j,last⟩ ⟨hj,hx⟩ N2 Q2 hN2 hQ2;simp only at hj hx hN2;by_cases hjb:j<t.rows.length
     ·rw[cw hjb]at hx;simp only[bU]at hx;by_cases h5:t.rows[j].id≤last
      ·rw[if_pos h5]at hx;refine wx ?_;simp -dsimp[hjb,LS,LR,aT,h5,LV];refine hQ2 _ _ _ ?_;simp -dsimp[];exact hx
      ·rw[if_neg h5]at hx;by_cases h6:t.rows[j].vals.length=t.attrs.length
       ·rw[if_neg (fun h=>h h6)]at hx;have hc3:=validVals t.rows[j].vals false (by omega);simp only[LV]at hc3;cases h7:t.rows[j].vals.all ai
        ·rw[h7]at hc3 hx;refine wx ?_;simp -dsimp[hjb,LS,LR,aT,h5,LV,h6];refine cPx (hc3) (by simp) ?_;simp -dsimp[];refine hQ2 _ _ _ ?_;simp -dsimp[];simpa using hx
        ·rw[h7,if_pos rfl]at hx;rw[h7]at hc3;refine wx ?_;simp -dsimp[hjb,LS,LR,aT,h5,LV,h6];refine cPx (hc3) (by simp) ?_;simp -dsimp[aa j (by omega)];refine hN2 (j+1,t.rows[j].id) _ _ ⟨by simp;omega,hx⟩ (by omega) ?_ ⟨[B.cells [.int .i64 t.rows[j].id,LV false t.rows[j].vals]],?_⟩ ?_ ?_<;>simp[or_imp,forall_and,L1,au,LS,LR,LV]
       ·rw[if_pos h6]at hx;refine wx ?_;simp -dsimp[hjb,LS,LR,aT,h5,LV,show ¬(t.rows[j].vals.length:Int)=t.attrs.length by omega];refine hQ2 _ _ _ ?_;simp -dsimp[];exact hx
     ·rw[ea (by omega)]at hx;refine wx ?_;simp -dsimp[hjb,LS,LR];refine hQ2 _ _ _ ?_;simp -dsimp[];exact hx
structure TbC (t:Tb):Prop where
 ids:t.rows.Pairwise fun r s=>r.id<s.id
 pos:∀r∈t.rows,0<r.id
 len:∀r∈t.rows,r.vals.length=t.attrs.length
 val:∀r∈t.rows,r.vals.all ai=true
 wide:t.attrs.length≤16
theorem nc{n:Nat} : ∀{rs:List Rw} {last:Int},bU n last rs=0→(∀r∈rs,last<r.id)∧(rs.Pairwise fun r s=>r.id<s.id)∧(∀r∈rs,r.vals.length=n)∧∀r∈rs,r.vals.all ai=true
 | [],_,_=>by simp
 | r::rs,last,h=>by
  rw[bU]at h;split at h
  ·cases h
  ·rename_i h1;split at h
   ·cases h
   ·rename_i h2;split at h
    ·rename_i h3;obtain⟨a,b,c,d⟩:=nc h;refine⟨fun x hx=>?_,List.pairwise_cons.2 ⟨a,b⟩,fun x hx=>?_,fun x hx=>?_⟩
     ·rcases List.mem_cons.1 hx with rfl | hx
      ·omega
      ·have:=a x hx;omega
     ·rcases List.mem_cons.1 hx with rfl | hx
      ·simpa using h2
      ·exact c x hx
     ·rcases List.mem_cons.1 hx with rfl | hx
      ·exact h3
      ·exact d x hx
    ·cases h
theorem tbC{t:Tb}(h:aQ t=0):TbC t:=by
 unfold aQ at h;split at h
 ·split at h
  ·cases h
  ·rename_i h2;split at h
   ·obtain⟨a,b,c,d⟩:=nc h;exact⟨b,fun r hr=>a r hr,c,d,by omega⟩
   ·cases h
 ·cases h
def ofV(m:Int):Vl :=
 if m=0 then⟨1,0,br⟩ else
 if m=1 then⟨1,1,br⟩ else
 if m=2 then⟨1,2,br⟩ else
 if m=3 then⟨0,0,br⟩ else
 if m=4 then⟨2,0,⟨#[97]⟩⟩ else
 if m=5 then⟨2,0,⟨#[98]⟩⟩ else
 if m=6 then⟨2,0,br⟩ else
 if m=7 then⟨3,1,br⟩ else
 if m=8 then⟨1,-1,br⟩ else
 if m=9 then⟨2,0,⟨#[97,98]⟩⟩ else
 if m=10 then⟨3,2,br⟩ else
 ⟨1,7,br⟩
def ofC(c:Int):Vl:=ofV (c.tmod 12)
theorem of01(c:Int):aE Tryz.prog 58 [.int .u8 c] fun r=>r=ac (ofC c):=by
 unfold ofC;obtain⟨m,hm⟩:∃m,m=c.tmod 12:=⟨_,rfl⟩;rw[←hm];have hm:=hm.symm;by_cases h0:m=0
 ·have e:ofV m=ofV 0:=by rw[h0]
  rw[e];refine sPx Tryz.func58 rfl rfl ?_;simp -dsimp[Tryz.f58,ba,hm,h0];rfl
 by_cases h1:m=1
 ·have e:ofV m=ofV 1:=by rw[h1]
  rw[e];refine sPx Tryz.func58 rfl rfl ?_;simp -dsimp[Tryz.f58,ba,hm,h1];rfl
 by_cases h2:m=2
 ·have e:ofV m=ofV 2:=by rw[h2]
  rw[e];refine sPx Tryz.func58 rfl rfl ?_;simp -dsimp[Tryz.f58,ba,hm,h2];rfl
 by_cases h3:m=3
 ·have e:ofV m=ofV 3:=by rw[h3]
  rw[e];refine sPx Tryz.func58 rfl rfl ?_;simp -dsimp[Tryz.f58,ba,hm,h3];rfl
 by_cases h4:m=4
 ·have e:ofV m=ofV 4:=by rw[h4]
  rw[e];refine sPx Tryz.func58 rfl rfl ?_;simp -dsimp[Tryz.f58,ba,hm,h4];rfl
 by_cases h5:m=5
 ·have e:ofV m=ofV 5:=by rw[h5]
  rw[e];refine sPx Tryz.func58 rfl rfl ?_;simp -dsimp[Tryz.f58,ba,hm,h5];rfl
 by_cases h6:m=6
 ·have e:ofV m=ofV 6:=by rw[h6]
  rw[e];refine sPx Tryz.func58 rfl rfl ?_;simp -dsimp[Tryz.f58,ba,hm,h6];rfl
 by_cases h7:m=7
 ·have e:ofV m=ofV 7:=by rw[h7]
  rw[e];refine sPx Tryz.func58 rfl rfl ?_;simp -dsimp[Tryz.f58,ba,hm,h7];rfl
 by_cases h8:m=8
 ·have e:ofV m=ofV 8:=by rw[h8]
  rw[e];refine sPx Tryz.func58 rfl rfl ?_;simp -dsimp[Tryz.f58,ba,hm,h8];rfl
 by_cases h9:m=9
 ·have e:ofV m=ofV 9:=by rw[h9]
  rw[e];refine sPx Tryz.func58 rfl rfl ?_;simp -dsimp[Tryz.f58,ba,hm,h9];rfl
 by_cases h10:m=10
 ·have e:ofV m=ofV 10:=by rw[h10]
  rw[e];refine sPx Tryz.func58 rfl rfl ?_;simp -dsimp[Tryz.f58,ba,hm,h10];rfl
 have e:ofV m=⟨1,7,br⟩:=by unfold ofV;simp[h0,h1,h2,h3,h4,h5,h6,h7,h8,h9,h10]
 rw[e];refine sPx Tryz.func58 rfl rfl ?_;simp -dsimp[Tryz.f58,ba,hm,h0,h1,h2,h3,h4,h5,h6,h7,h8,h9,h10];rfl
def lfB:V→V→Prop
 | x,y=>y=x∨(∃z xs,x = .lst z true xs∧y = .lst z false xs)∨(∃z,x = .nilS∧y = .lst z false [])
def LfL:List V→List V→Prop
 | [],[]=>True
 | x::xs,y::ys=>lfB x y∧LfL xs ys
 | _,_=>False
theorem LfL.len:∀{xs ys:List V},LfL xs ys→xs.length=ys.length
 | [],[],_=>rfl
 | [],_::_,h=>h.elim
 | _::_,[],h=>h.elim
 | _::_,_::_,h=>by simp[h.2.len]
theorem LfL.at_:∀{xs ys:List V},LfL xs ys→∀(i:Nat) x y,xs[i]?=some x→ys[i]?=some y→lfB x y
 | [],_,_,i,x,y,h,_=>by simp at h
 | _::_,[],h,_,_,_,_,_=>h.elim
 | a::xs,b::ys,h,0,x,y,h1,h2=>by simp at h1 h2;subst h1;subst h2;exact h.1
 | a::xs,b::ys,h,i+1,x,y,h1,h2=>h.2.at_ i x y (by simpa using h1) (by simpa using h2)
theorem lf_rel{s:AM.St}{x y:V}{u:Value}(h:Rel s x u)(hl:lfB x y):Rel s y u:=by
 rcases hl with rfl | ⟨z,xs,rfl,rfl⟩ | ⟨z,rfl,rfl⟩
 ·exact h
 ·cases h with
  | lst _ _ _ A cap b off u hcap hfull hA hz hcell hrel=>exact .lst z false xs A cap b off u hcap (fun h=>by cases h) hA hz hcell hrel
 ·cases h;exact bR z false none 0 (fun _=>rfl)
theorem lf_one{x y:V}(hl:lfB x y)(h:x.one=true):y.one=true:=by
 rcases hl with rfl | ⟨z,xs,rfl,rfl⟩ | ⟨z,rfl,rfl⟩
 ·exact h
 ·rfl
 ·rfl
theorem W_lf{P:Program}(k0:Nat)(fr' cs':List V){c:Code}{Q:Exit→List V→List B→Prop}{fr:List V}{H:List B}{cs:List V}(hk:H[k0]?=some (.cells cs))(ho:LfL fr fr')(hc:LfL cs cs')
  (h:W P c Q fr' (H.set k0 (.cells cs'))):W P c Q fr H:=by
 intro s a hA hg hf hd;obtain⟨rfl,hZ⟩:=hA;have hst:=bF (w:=s.w) (bl':=.cells cs') hg hk (lvC hk) trivial rfl rfl rfl (cd _) (fun _ _ _=>rfl);have hl:=ho.len;have hlc:=hc.len
 have hgd:AM.Good (s.setB s.w k0 (.cells cs')):=by
  refine bP hg hk (lvC hk) trivial rfl rfl rfl (cd _) (fun _ _ _=>rfl) (fun hst=>?_);obtain⟨h1,vs,t,h2,h3,h4⟩:=hg.blk k0 _ hk;refine⟨fun d hd=>?_,vs,t,h2,by omega,fun i d u hd hu=>?_⟩
  ·obtain⟨i,hi⟩:=List.mem_iff_getElem?.1 hd;have hx:cs[i]?=some (cs[i]'(by have:=aB hi;omega)):=ca _;exact lf_one (hc.at_ i _ d hx hi) (h1 _ (cm _))
  ·have hx:cs[i]?=some (cs[i]'(by have:=aB hd;omega)):=ca _;exact(lf_rel (h4 i _ u hx hu) (hc.at_ i _ d hx hd)).step hst
 have:=h (s.setB s.w k0 (.cells cs')) a ⟨rfl,hZ.step hst⟩ hgd ⟨by rw[hf.len,hl],fun i v u hv hu=>by
  have hx:fr[i]?=some (fr[i]'(by have:=aB hv;omega)):=ca _
  exact(lf_rel (hf.rel i _ u hx hu) (ho.at_ i _ v hx hv)).step hst⟩ hd
 exact wp_mono this fun _ _ _ hl=>bS hst hl
theorem lfB_refl(x:V):lfB x x:=.inl rfl
theorem lfL_refl:∀xs:List V,LfL xs xs
 | []=>trivial
 | x::xs=>⟨lfB_refl x,lfL_refl xs⟩
structure Rcp where
 a:Int
 gap:Int
 rows:List (List Int)
def LU(xs:List Int):V:=.lst 1 false (xs.map bp)
def bD(f:Bool)(x:Rcp):V:=.agg [.int .u8 x.a,.int .u8 x.gap,.lst 1 f (x.rows.map LU)]
@[simp] theorem LU_pure (xs:List Int):AM.Pure (LU xs):=by simp[LU]
@[simp] theorem encRcp_pure (f:Bool) (x:Rcp):AM.Pure (bD f x):=by simp[bD]
def L8:List ByteArray:=[⟨#[97]⟩,⟨#[98]⟩,⟨#[99]⟩,⟨#[100]⟩,⟨#[101]⟩,⟨#[102]⟩,⟨#[103]⟩,⟨#[104]⟩]
def dJ(cs:List Int)(k:Nat):List Vl:=(ce k).map fun j=>ofC (cs.getD j 0)
def wRow(gap:Int)(cs:List Int)(n i:Nat):Rw:=⟨1+(i:Int)*(1+gap.tmod 3),dJ cs n⟩
def eL(x:Rcp)(n i:Nat):List Rw:=(ce i).map fun j=>wRow x.gap (x.rows.getD j []) n j
def wideT(x:Rcp)(n:Nat):Tb:=⟨⟨#[114]⟩,L8.take n,eL x n x.rows.length⟩
theorem wVals_succ(cs:List Int)(k:Nat):dJ cs (k+1)=dJ cs k++[ofC (cs.getD k 0)]:=by simp[dJ,nd]
theorem wVals_len(cs:List Int)(k:Nat):(dJ cs k).length=k:=by simp[dJ]
theorem wRows_succ(x:Rcp)(n i:Nat):eL x n (i+1)=eL x n i++[wRow x.gap (x.rows.getD i []) n i]:=by simp[eL,nd]
theorem wRows_len(x:Rcp)(n i:Nat):(eL x n i).length=i:=by simp[eL]
theorem cap32(n:Nat)(h:n≤1000000000):n≤9223372036854775806∧(n+1)*32≤140737488355328:=by omega
theorem L8_take(n:Nat):pg n [V.str ⟨#[97]⟩,V.str ⟨#[98]⟩,V.str ⟨#[99]⟩,V.str ⟨#[100]⟩,V.str ⟨#[101]⟩,V.str ⟨#[102]⟩,V.str ⟨#[103]⟩,V.str ⟨#[104]⟩]=(L8.take n).map V.str:=by rw[pc];rfl
theorem ownF_refl(k:Nat):∀xs:List V,gZ k xs xs
 | []=>trivial
 | x::xs=>⟨.inl rfl,ownF_refl k xs⟩
theorem ownAt_nil(k:Nat):∀(i:Nat) (xs:List V),bn k [] i xs=xs
 | _,[]=>rfl
 | i,x::xs=>by simp only[bn,List.contains_nil,dc,if_false,ownAt_nil k (i+1) xs]
theorem eR(k:Nat)(xs:List V):gZ k xs (bn k [] 0 xs):=by rw[ownAt_nil];exact ownF_refl k xs
theorem wide03(x:Rcp)(n:Nat)(f:Bool)(hn:n≤8)(hr:x.rows.length≤1000000)(hc:∀r∈x.rows,r.length≤9223372036854775807)(h0:0≤x.gap):
  aE Tryz.prog 23 [bD f x,.int .i64 n] fun r=>r=aF false false (wideT x n):=by
 have hg:=hX 3 h0;have hg2:=gB x.gap (show(0:Int)<3 by omega);obtain⟨g,hge⟩:∃g,g=x.gap.tmod 3:=⟨_,rfl⟩;rw[←hge]at hg hg2;have hgs:=hge.symm;have hw1:IntKind.i64.wrap g=g:=wrap64 (by omega) (by omega);have hw2:IntKind.i64.wrap (1+g)=1+g:=wrap64 (by omega) (by omega)
 have hl8:(L8.take n).length=n:=by simp[L8];omega
 have hne:(n=0∧pg n (L8.map V.str)=[])∨(¬n=0∧¬pg n (L8.map V.str)=[]):=by
  by_cases hz:n=0
  ·exact .inl ⟨hz,by rw[hz];rfl⟩
  ·refine .inr ⟨hz,fun h=>?_⟩;have:=congrArg List.length h;rw[←pc,ov,hl8]at this;exact hz this
 have hlt:(pg n (L8.map V.str)).length=n:=by rw[←pc,ov,hl8]
 have hcp:n≤9223372036854775807∧n*16≤140737488355328:=by omega
 rcases hne with⟨hz,hne⟩ | ⟨hz,hne⟩
 case' inl =>
  refine bf (aK (tkf 26) Tryz.func23 rfl rfl ?_);refine W_x (tkf 26) mixed ?_;simp -dsimp[Tryz.f23,ba,bD,L8_take,hn,hne,bo]
 case' inr =>
  refine bf (aK (tkf 26) Tryz.func23 rfl rfl ?_);refine W_x (tkf 26) mixed ?_;simp -dsimp[Tryz.f23,ba,bD,L8_take,hn,hz,hne,hlt,hcp,bo]
 all_goals
  refine aR (W_lf 2 _ [.str ⟨#[114]⟩,.lst 1 false (pg n (L8.map V.str)),.nilS] rfl (lfL_refl _) (by simp[LfL,lfB,hne]) (dV 41 2 [] 2 [2] rfl (eR _ _) (by simp) (W_loopM 66 0x3ffffffffffffefc0 (by simp[mB]<;>rfl) (σ:=Nat) (fun i=>i≤x.rows.length) (fun i=>x.rows.length-i) (fun i=>[(6,.int .i64 i)]) (fun i=>[B.cells [.int .u8 x.a,.int .u8 x.gap,.lst 1 f (x.rows.map LU)],B.cells [.str br,.nilS,.nilS],B.cells [.str ⟨#[114]⟩,.lst 1 false (pg n (L8.map V.str)),.buf 3 0 i i],B.buf 41 2 ((eL x n i).map aT) false]) 0 (by omega) (by simp) (by simp[eL]) (by simp) ?_)));intro i hi N Q hN hQ;have hwl:=wRows_len x n i;by_cases hb:i<x.rows.length
  ·have hg0:x.rows.getD i []=x.rows[i]:=by simp[hb]
   have hws:=wRows_succ x n i;rw[hg0]at hws;have hcl:=hc x.rows[i] (cm hb);obtain⟨cs,hcs⟩:∃cs,cs=x.rows[i]:=⟨_,rfl⟩;rw[←hcs]at hws hcl;have hcs':=hcs.symm;have hp0:0≤(i:Int)*(1+g):=Int.mul_nonneg (by omega) (by omega);have hp1:(i:Int)*(1+g)≤i*3:=Int.mul_le_mul_of_nonneg_left (by omega) (by omega);have hw3:IntKind.i64.wrap ((i:Int)*(1+g))=(i:Int)*(1+g):=wrap64 (by omega) (by omega);have hw4:IntKind.i64.wrap (1+(i:Int)*(1+g))=1+(i:Int)*(1+g):=wrap64 (by omega) (by omega)
   have hrow:wRow x.gap cs n i=⟨1+(i:Int)*(1+g),dJ cs n⟩:=by rw[hge];rfl
   rw[hrow]at hws;obtain⟨id,hid⟩:∃id,id=1+(i:Int)*(1+g):=⟨_,rfl⟩;rw[←hid]at hws hw4
   have hw5:IntKind.i64.wrap (1+(i:Int)*(1+g))=id:=by rw[←hid];exact hw4
   refine W_x (tkf 26) mixed ?_;simp -dsimp[hb,hgs,hw1,hw2,hw3,hw5,bo];refine aR (dV 43 3 [] 4 [1] rfl (eR _ _) (by simp) (W_loopM 60 0xfffffff00000300 (by simp[mB]<;>rfl) (σ:=Nat) (fun k=>k≤n) (fun k=>n-k) (fun k=>[(8,.int .i64 k)]) (fun k=>[B.cells [.int .u8 x.a,.int .u8 x.gap,.lst 1 f (x.rows.map LU)],B.cells [.str br,.nilS,.nilS],B.cells [.str ⟨#[114]⟩,.lst 1 false (pg n (L8.map V.str)),.buf 3 0 i i],B.buf 41 2 ((eL x n i).map aT) false,B.cells [.int .i64 id,.buf 5 0 k k],B.buf 43 3 ((dJ cs k).map ac) false]) 0 (by omega) (by simp) (by simp[dJ]) (by simp) ?_));intro k hk N2 Q2 hN2 hQ2;have hvl:=wVals_len cs k;have hvs:=wVals_succ cs k;by_cases hkb:k<n
   ·by_cases hkc:k<cs.length
    ·have hg1:cs.getD k 0=cs[k]:=by simp[hkc]
     rw[hg1]at hvs;have hco:=of01 cs[k];refine W_x (tkf 26) mixed ?_;simp -dsimp[hkb,hb,LU,hcs',hkc,bp,bo];refine aR (ao (tkf 26) mixed [5,7] [] [(ac (ofC cs[k]),[])] (by kernel_rfl) fun C K hC hK=>?_);simp -implicitDefEqProofs [cap32 k (by omega),hvl,ac,bo];refine⟨hC _ _ _ _ (aW hco (by simp)),hK _ _ ?_⟩;simp -dsimp[aa k (by omega),bo];refine hN2 (k+1) _ _ (by omega) (by omega) ?_ ⟨[],?_⟩ ?_ ?_<;>simp[or_imp,forall_and,L1,au,hvs,LS,ac,aT,LV]
    ·have hg1:cs.getD k 0=0:=by simp[hkc]
     rw[hg1]at hvs;have hco:=of01 0;refine W_x (tkf 26) mixed ?_;simp -dsimp[hkb,hb,LU,hcs',hkc,bp,bo];refine aR (ao (tkf 26) mixed [5,7] [] [(ac (ofC 0),[])] (by kernel_rfl) fun C K hC hK=>?_);simp -implicitDefEqProofs [cap32 k (by omega),hvl,ac,bo];refine⟨hC _ _ _ _ (aW hco (by simp)),hK _ _ ?_⟩;simp -dsimp[aa k (by omega),bo];refine hN2 (k+1) _ _ (by omega) (by omega) ?_ ⟨[],?_⟩ ?_ ?_<;>simp[or_imp,forall_and,L1,au,hvs,LS,ac,aT,LV]
   ·obtain rfl:k=n:=by omega
    refine eI 5 [] 4 [1] rfl rfl (by simp) (by simp[hvl]) ?_;refine W_x (tkf 26) mixed ?_;simp -dsimp[hkb,bo];refine hQ2 _ _ _ ?_;simp -dsimp[hwl,cap32 i (by omega),aa i (by omega),bo];refine hN (i+1) _ _ (by omega) (by omega) ?_ ⟨[B.cells [.int .i64 id,LV false (dJ cs k)],B.buf 43 3 ((dJ cs k).map ac) true],?_⟩ ?_ ?_<;>simp[or_imp,forall_and,L1,au,hws,aT,LV]
  ·obtain rfl:i=x.rows.length:=by omega
   refine eI 3 [] 2 [2] rfl rfl (by simp) (by simp[hwl]) ?_;refine W_x (tkf 26) mixed ?_;simp -dsimp[hb,bo];refine hQ _ _ _ ?_;simp -dsimp[bo];simp only[aF,wideT,LS,LR,pc]
end
end Go.Proofs.YtpedcgdgjoblkaaGreatDoor
