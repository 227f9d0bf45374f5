/- JM9: own texts of this seat, joined and shortened by pack4.py: C3, W1, W2, Pl1, Enc, W6, W7, W8, W9, W10, Pl2, W12, W13, W16, W17. -/
import Derived.Test.YtdnhplencamncaaGreatDoorJM6
import Derived.Test.YtdnhplencamncaaGreatDoorJM8
import Derived.WalkSpells
import Derived.WalkLawsBesides
import Derived.Lib.Hide
import Derived.Maps.AppendAt
set_option linter.unusedVariables false
set_option linter.unusedSimpArgs false
set_option maxRecDepth 100000
set_option maxHeartbeats 64000000
open Bool renaming false_or→pr
open List renaming replicate→oE,mem_of_getElem?→oH,drop_eq_getElem_cons→oK,append_nil→oU,drop_of_length_le→oV,length_cons→og,map_nil→pJ
open Nat renaming le_refl→oJ,lt_of_lt_of_le→om,beq→pO,eq_of_beq_eq_true→qm
namespace Go.Proofs.YtdnhplencamncaaGreatDoor
section
open Go Go.AM Go.RowKit
theorem mixed:Tryz.prog.follows .mixedOrders=true:=by kernel_rfl
theorem wx{c:Code}{Q:Exit→List V→List B→Prop}{fr:List V}{H:List B}(h:WX T (aL Tryz.prog) (LW Tryz.prog) c Q fr H):W Tryz.prog c Q fr H:=W_x tok mixed h
theorem sPx{f:FuncId}{fn:Func}{c:Code}(hf:Tryz.prog.funcs[f]?=some fn)(hb:fn.body=some c)(hn:(fn.name == "runtime.NumGoroutine")=false){args:List V}{K:V→Prop}(h:WX T (aL Tryz.prog) (LW Tryz.prog) c (retQ T fn.results.toList fun r H=>∃r',Exp H r r'∧AM.Pure r'∧K r') (args++oE (fn.ntmps-args.length) (.tup [])) []):aJ Tryz.prog f args K:=dJ (aE tok hf hb hn (wx h))
theorem sOx{f:FuncId}{fn:Func}{c:Code}(hf:Tryz.prog.funcs[f]?=some fn)(hb:fn.body=some c)(hn:(fn.name == "runtime.NumGoroutine")=false){args:List V}{K:Nat→Nat→List V→Prop}(h:WX T (aL Tryz.prog) (LW Tryz.prog) c (retQ T fn.results.toList fun r H=>∃k e z xs,r = .buf k 0 xs.length xs.length∧H[k]?=some (.buf e z xs false)∧(∀x∈xs,AM.Pure x)∧K e z xs) (args++oE (fn.ntmps-args.length) (.tup [])) []):dr Tryz.prog f args K:=conO_of_conH (aE tok hf hb hn (wx h))
theorem tkf(n:Nat):TOk Tryz.prog (bM T fun t=>t == n):=tok_flag tok _
def ext:am:=fun f args H=>match f,args with
 | 341,[.int .u32 x]=>some (.int .i64 (tzI x),H)
 | 339,[.str a,.str b]=>some (.int .i64 (jC a b),H)
 | _,_=>none
theorem ext_ok:aa Tryz.prog ext:=fun f args H r H' h=>by
 unfold ext at h;split at h
 ·cases h;rename_i x;have:=aT (H:=H) (tz_con x) (by simp);simpa only[aL,oU] using this
 ·cases h;rename_i a b;have:=aT (H:=H) (cmp_con a b) (by simp);simpa only[aL,oU] using this
 ·cases h
theorem allNamed:(Tryz.prog.funcs.toList.all fun fn=>!(fn.name == "runtime.NumGoroutine"))=true:=by kernel_rfl
theorem af:∀(f:Nat) (fn:Func),Tryz.prog.funcs[f]?=some fn→(fn.name == "runtime.NumGoroutine")=false:=fun f fn h=>by
 have:=List.all_eq_true.1 allNamed fn (by rw[Array.mem_toList_iff];exact Array.mem_of_getElem? h);simpa using this
def buf1(H:List B):List V→List V→Option (Nat×Nat×Nat×List V)
 | a::as',b::bs=>if eqV 40 a b=true then buf1 H as' bs else match a with
  | .buf k 0 n m=>match H[k]? with
   | some (.buf e z xs _)=>if n=xs.length∧m=xs.length∧eqV 40 (.lst z false xs) b=true∧eqL (eqV 40) as' bs=true then some (k,e,z,xs) else none
   | _=>none
  | _=>none
 | _,_=>none
theorem repF_refl(p q:V):∀xs:List V,dM p q xs xs
 | []=>trivial
 | _::xs=>⟨.inl rfl,repF_refl p q xs⟩
theorem buf1_ok{H:List B} : ∀{args ga:List V} {k e z:Nat} {xs:List V},buf1 H args ga=some (k,e,z,xs)→(∃fz,H[k]?=some (.buf e z xs fz))∧dM (.buf k 0 xs.length xs.length) (.lst z false xs) args ga
 | [],_,_,_,_,_,h=>by simp[buf1]at h
 | _::_,[],_,_,_,_,h=>by simp[buf1]at h
 | a::as',b::bs,k,e,z,xs,h=>by
  unfold buf1 at h;split at h
  ·rename_i he;obtain⟨h1,h2⟩:=buf1_ok h;exact⟨h1,.inl (dG _ _ _ he).symm,h2⟩
  ·split at h
   ·rename_i k' n m;split at h
    ·rename_i e' z' xs' fz hk;split at h
     ·rename_i hc;obtain⟨rfl,rfl,h3,h4⟩:=hc;cases h;refine⟨⟨fz,hk⟩,.inr ⟨rfl,(dG _ _ _ h3).symm⟩,?_⟩;rw[dy (dG 40) h4];exact repF_refl _ _ _
     ·cases h
    ·cases h
   ·cases h
def gx(g:FuncId)(ga:List V)(gr:V)(ext:am):am:=fun f args H=>if pO f g then(if eqL (eqV 40) args ga then some (gr,H) else match buf1 H args ga with
 | some _=>some (gr,H)
 | none=>ext f args H) else ext f args H
def nR(g:FuncId)(ga:List V)(gr:V)(ext:am):am:=fun f args H=>if pO f g then(if eqL (eqV 40) args ga then some (gr,H) else match buf1 H args ga with
 | some (k,e,z,xs)=>some (gr,H.set k (.buf e z xs true))
 | none=>ext f args H) else ext f args H
theorem pure_of_lst{z:Nat}{f:Bool}{xs:List V}(h:AM.Pure (.lst z f xs)):∀x∈xs,AM.Pure x:=by cases h;assumption
theorem bm{ext:am}(he:aa Tryz.prog ext){g:FuncId}{ga:List V}{gr:V}(hc:aJ Tryz.prog g ga fun x=>x=gr)(hq:∀a∈ga,AM.Pure a)(hs:Scalar gr):aa Tryz.prog (gx g ga gr ext):=fun f args H r H' h=>by
 unfold gx at h;split at h
 ·rename_i hf;have hfg:f=g:=qm hf;subst hfg;split at h
  ·rename_i ha;have ha:=dy (dG 40) ha;cases h;subst ha;have:=aT (H:=H) hc hq;simpa only[aL,oU] using this
  ·split at h
   ·rename_i o ho;obtain⟨k,e,z,xs⟩:=o;cases h;obtain⟨⟨fz,hk⟩,hr⟩:=buf1_ok ho
    have:=callX (H:=H) (args:=args) hc hr.len (fun i a a' h1 h2=>by
     have hp:=hq a' (oH h2)
     rcases hr.at_ i a a' h1 h2 with rfl | ⟨rfl,rfl⟩
     ·exact .pure _ hp
     ·exact gD hk rfl (pure_of_lst hp)) hs
    simpa only[aL,oU] using this
   ·exact he f args H r H' h
 ·exact he f args H r H' h
theorem eJ{ext:am}(he:aa Tryz.prog ext){g:FuncId}{ga:List V}{gr:V}(hc:aJ Tryz.prog g ga fun x=>x=gr)(hq:∀a∈ga,AM.Pure a):aa Tryz.prog (nR g ga gr ext):=fun f args H r H' h=>by
 unfold nR at h;split at h
 ·rename_i hf;have hfg:f=g:=qm hf;subst hfg;split at h
  ·rename_i ha;have ha:=dy (dG 40) ha;cases h;subst ha;have:=aT (H:=H) hc hq;simpa only[aL,oU] using this
  ·split at h
   ·rename_i k e z xs ho;cases h;obtain⟨⟨fz,hk⟩,hr⟩:=buf1_ok ho;have:=callF (H:=H) (args:=args) k hk hc hr hq;simpa only[aL,oU] using this
   ·exact he f args H r H' h
 ·exact he f args H r H' h
end
end Go.Proofs.YtdnhplencamncaaGreatDoor
namespace Go.Proofs.YtdnhplencamncaaGreatDoor
section
open Go Go.AM
def aQ(n:Int):V:=.int .i64 n
def L1(f:Bool)(xs:List Int):V:=.lst 1 f (xs.map aQ)
@[simp] theorem encI_pure (n:Int):AM.Pure (aQ n):=by simp[aQ]
@[simp] theorem L1_pure (f:Bool) (xs:List Int):AM.Pure (L1 f xs):=by simp[L1,aQ]
theorem wrap64{n:Int}(h1 : -9223372036854775808≤n)(h2:n<9223372036854775808):IntKind.i64.wrap n=n:=by rw[IntKind.wrap_i64];omega
theorem aP(i:Nat)(h:i<9223372036854775807):IntKind.i64.wrap ((i:Int)+1)=((i+1:Nat):Int):=by rw[wrap64 (by omega) (by omega)];rfl
def cP(xs:List Int)(x:Int):Bool:=xs.contains x
theorem eQ(y x:Int)(xs:List Int):cP (y::xs) x=(x == y||cP xs x):=by simp only[cP,List.contains_cons]
theorem di{xs:List Int}{x:Int} : cP xs x=true↔x∈xs:=by simp[cP]
def ascFrom(xs:List Int)(i:Nat):Bool:=if h:i<xs.length then(if xs[i]≤xs[i-1] then false else ascFrom xs (i+1)) else true
termination_by xs.length-i
def asc(xs:List Int):Bool:=ascFrom xs 1
def kJ(us bs:List Int):Bool:=us.all fun x=>cP bs x
def cR:List Int→List Int→Bool
 | [],[]=>false
 | [],_::_=>true
 | _::_,[]=>false
 | x::xs,y::ys=>if x=y then cR xs ys else decide (x<y)
theorem nan_c(x:Int):aJ Tryz.prog 111 [.int .i64 x] fun r=>r = .bool false:=by
 refine sPx Tryz.func111 rfl rfl ?_;simp -dsimp[Tryz.f111,oE]
def bR(x y:Int):Int:=if x<y then -1 else if y<x then 1 else 0
theorem cmp64(x y:Int):aJ Tryz.prog 55 [.int .i64 x,.int .i64 y] fun r=>r = .int .i64 (bR x y):=by
 refine sPx Tryz.func55 rfl rfl ?_;simp -dsimp[Tryz.f55,oE];refine cPx (nan_c x) (by simp) ?_;simp -dsimp[];refine cPx (nan_c y) (by simp) ?_;simp -dsimp[];unfold bR;split
 ·rfl
 ·split<;>rfl
def cV:List Int→List Int→Int
 | [],[]=>0
 | [],_::_=>-1
 | _::_,[]=>1
 | x::xs,y::ys=>if bR x y=0 then cV xs ys else bR x y
theorem cmpL_lex:∀us bs:List Int,decide (0≤cV us bs)= !cR us bs
 | [],[]=>rfl
 | [],_::_=>rfl
 | _::_,[]=>rfl
 | x::xs,y::ys=>by
  have ih:=cmpL_lex xs ys;simp only[cV,cR,bR];by_cases h:x=y
  ·subst h;simp[ih]
  ·rcases Int.lt_or_gt_of_ne h with h1 | h1
   ·simp[h,h1]
   ·have h2:¬x<y:=by omega
    simp[h,h1,h2]
def LL(g:Bool)(es:List (List Int)):V:=.lst 1 g (es.map (L1 false))
def encH(f g:Bool)(vs:List Int)(es:List (List Int)):V:=.agg [L1 f vs,LL g es]
@[simp] theorem LL_pure (g:Bool) (es:List (List Int)):AM.Pure (LL g es):=by simp[LL]
@[simp] theorem encH_pure (f g:Bool) (vs:List Int) (es:List (List Int)):AM.Pure (encH f g vs es):=by simp[encH]
@[simp] theorem encI_oneV (n:Int):cT (aQ n)=true:=rfl
@[simp] theorem L1_oneV (f:Bool) (xs:List Int):cT (L1 f xs)=true:=rfl
def ixI(xs:List Int)(x:Int)(i:Nat):Int:=if h:i<xs.length then(if x=xs[i] then(i:Int) else ixI xs x (i+1)) else -1
termination_by xs.length-i
theorem ixI_mem(xs:List Int)(x:Int)(i:Nat):decide (0≤ixI xs x i)=cP (xs.drop i) x:=by
 fun_induction ixI xs x i with
 | case1 i h h0=>rw[oK h,eQ];simp[h0]
 | case2 i h h0 ih=>rw[oK h,eQ,ih];simp[h0]
 | case3 i h=>rw[oV (by omega)];rfl
theorem cap8(n:Nat)(h:n≤1000000000):n≤9223372036854775806∧(n+1)*8≤140737488355328:=by omega
theorem nu(n:Nat)(h:n≤1000000000):n≤9223372036854775806∧(n+1)*24≤140737488355328:=by omega
theorem jL(n:Nat)(h:n<9223372036854775807):IntKind.i64.wrap (n:Int)=n:=wrap64 (by omega) (by omega)
end
end Go.Proofs.YtdnhplencamncaaGreatDoor
section
namespace Go.Proofs.YtdnhplencamncaaGreatDoor
open Go Go.AM
end Go.Proofs.YtdnhplencamncaaGreatDoor
end
section
namespace Go.Proofs.YtdnhplencamncaaGreatDoor
open Go Go.AM
end Go.Proofs.YtdnhplencamncaaGreatDoor
end
namespace Go.Proofs.YtdnhplencamncaaGreatDoor
section
open Go Go.AM
def encU(n:Int):V:=.int .u8 n
@[simp] theorem encU_pure (n:Int):AM.Pure (encU n):=by simp[encU]
end
end Go.Proofs.YtdnhplencamncaaGreatDoor
section
namespace Go.Proofs.YtdnhplencamncaaGreatDoor
open Go Go.AM
end Go.Proofs.YtdnhplencamncaaGreatDoor
end
section
namespace Go.Proofs.YtdnhplencamncaaGreatDoor
open Go Go.AM
end Go.Proofs.YtdnhplencamncaaGreatDoor
end
namespace Go.Proofs.YtdnhplencamncaaGreatDoor
section
open Go Go.AM Go.RowKit
theorem infoC2:(Tryz.prog.info? 2).map (fun i=>(i.zero,i.size,i.bytes))=some (some (.int .i64 0),1,8):=by kernel_rfl
theorem cloneE(A:Option Addr)(cap:Nat)(w:World):
  Calls Tryz.prog 59 #[.slice A 0 cap] w fun e w'=>∃v,e = .returned v∧w'.ownsRow w.heap.size 2 1 v 0 []∧Below w.heap.size w w':=by
 have hnil:=fun W A n c=>Lib.run_eql_slice_nil (P:=Tryz.prog) W 106 2 A n c 0 0 Tryz.underlying106
 cases A with
 | none =>
  go_enter Tryz.func59,Tryz.ntmps59
  go_wp2
  go_ret
  exact⟨_,rfl,World.ownsRow_nil _ _ _ _,Below.refl _ _⟩
 | some ad =>
  obtain⟨i0,hi,hz0,hz1,hz2⟩:=info_parts infoC2;have hown:(w.alloc (.cells #[] 2)).ownsRow w.heap.size 2 1 (.slice (some ⟨w.heap.size,0,none⟩) 0 0) 0 []:=World.ownsRow_lit w #[] 0 (oJ _) (by simp[maxLen]) (by simp)
  have hnews:∀j u,([]:List Value)[j]?=some u→(w.alloc (.cells #[] 2)).cell? (ad.add j)=some u:=by
   intro j u hu;simp at hu
  have hone:∀u∈([]:List Value),u.oneCell'=true:=by intro u hu;cases hu
  have h63:0+0≤maxLen:=by simp[maxLen]
  have hby:(0+0)*8≤140737488355328:=by omega
  have hlen:([]:List Value).length=0*1:=by simp
  have Hi:=Lib.hid (show Tryz.prog.info? 2=some i0∧i0.zero=some _∧i0.size=1∧i0.bytes=8 from⟨hi,hz0,hz1,hz2⟩);have Hw:=Lib.hid (And.intro hown (And.intro hnews (And.intro hone (And.intro h63 (And.intro hby hlen)))));clear hnews hone hown hi hz0 hz1 hz2 h63 hby hlen
  go_enter Tryz.func59,Tryz.ntmps59
  go_wp2_with (at_builtin;refine wpList_append_own _ rfl _ _ 106 rfl w.heap.size 2 i0 _ 1 8 Tryz.underlying106 Hi.out.1 Hi.out.2.1 Hi.out.2.2.1 Hi.out.2.2.2 rfl (by omega) (.slice (some ⟨w.heap.size,0,none⟩) 0 0) 0 [] rfl Hw.out.1 ad 0 cap [] rfl Hw.out.2.2.2.2.2 Hw.out.2.1 Hw.out.2.2.1 Hw.out.2.2.2.1 Hw.out.2.2.2.2.1 (by simp) ?_;intro v1 w1 ho hg hn;have Ho:=Lib.hid ho;have Hg:=Lib.hid hg;have Hn:=Lib.hid hn;clear ho hg hn)
  go_ret
  exact⟨v1,rfl,by have:=Ho.out;simpa using this,((Below.refl _ _).alloc (oJ _) _).grown Hg.out (by simp) (by simp[Value.ownBlock])⟩
theorem nc{f:FuncId}{args:List V}{e:Nat}(hE:AM.Enters Tryz.prog f)(h:∀(F:Nat→Prop) (w:World) (vals:Array Value),vals.size=args.length→(∀(i:Nat) a u,args[i]?=some a→vals[i]?=some u→Rel (AM.base F w) a u)→
  Calls Tryz.prog f vals w fun e' w'=>∃v,e' = .returned v∧w'.ownsRow w.heap.size e 1 v 0 []∧Below w.heap.size w w'):dr Tryz.prog f args fun e' z ys=>e'=e∧z=1∧ys=[]:=by
 refine⟨hE,fun F w vals hZ hF hsz hrel=>(h F w vals hsz hrel).mono fun e' w' ⟨v,he,hown,hb⟩=>?_⟩;obtain⟨_,⟨hv,_⟩ | ⟨g,c,cur,hv,hg,hc,hn,hm,hs,_⟩⟩:=hown
 ·have hF':∀b,F b→b<w'.heap.size:=fun b hb'=>om (hF b hb') hb.size
  obtain⟨p1,_⟩:=lD (AM.base_good hF') (w:=w') 0 e 1 false rfl rfl rfl (oJ _) (fun _ _=>rfl);refine⟨v,e,1,[],none,0,0,he,hv,fun h=>absurd rfl h,by simp,fun h=>absurd rfl h,?_,hb,rfl,rfl,rfl⟩;refine⟨hF',fun k hk=>absurd (hk.2 e 1 [] false (by have:=hk.1;simp at this;subst this;rfl)) (by simp),fun j k hj hk _=>by have:=hj.1;have:=hk.1;simp at *;omega,fun k bl hk=>?_⟩
  have hk0:k=0:=by have:=aB hk;simp at this;omega
  subst hk0;simp at hk;subst hk;exact⟨#[],fun h=>absurd rfl h,by simp,by simp,by simp[maxLen],(fun x hx=>by cases hx),(fun i x j c u hx=>by simp at hx)⟩
 ·have hF':∀b,F b→b<w'.heap.size:=fun b hb'=>om (hF b hb') hb.size
  refine⟨v,e,1,[],some ⟨g,0,none⟩,g,c,he,hv,fun _=>rfl,by simp,fun _=>hg,?_,hb,rfl,rfl,rfl⟩;refine⟨hF',fun k hk=>⟨(Array.getElem?_eq_some_iff.1 hc).1,fun hf=>by have:=hF g hf;omega⟩,fun j k hj hk _=>by have:=hj.1;have:=hk.1;simp at *;omega,fun k bl hk=>?_⟩
  have hk0:k=0:=by have:=aB hk;simp at this;omega
  subst hk0;simp at hk;subst hk;exact⟨cur,fun _=>hc,by simpa using hs,by simp,hm,(fun x hx=>by cases hx),(fun i x j c u hx=>by simp at hx)⟩
theorem clone64(xs:List Int)(f:Bool)(hl:xs.length≤1000000):dr Tryz.prog 59 [L1 f xs] fun e z ys=>e=2∧z=1∧ys=xs.map aQ:=by
 cases xs with
 | nil =>
  refine nc ⟨Tryz.f59,Tryz.func59,rfl,rfl⟩ (fun F w vals hsz hrel=>?_)
  obtain⟨u0,rfl⟩:∃u0,vals = #[u0]:=by
   obtain⟨l⟩:=vals
   match l,hsz with
   | [a],_=>exact⟨a,rfl⟩
  have r0:=hrel 0 _ u0 rfl rfl;simp only[L1,pJ]at r0;cases r0;exact cloneE _ _ _
 | cons x xs =>
  have hl':xs.length≤1000000:=by simp only[og]at hl;omega
  refine sOx Tryz.func59 rfl rfl ?_;simp -dsimp[Tryz.f59,oE,L1,eK,cap8 xs.length (by omega)];exact⟨0,2,1,aQ x::xs.map aQ,by simp,rfl,by simp,rfl,rfl,rfl⟩
theorem clone64p(xs:List Int)(f:Bool)(hl:xs.length≤1000000):aJ Tryz.prog 59 [L1 f xs] fun r=>r=L1 false xs :=
 ⟨(clone64 xs f hl).1,fun F w vals hZ hF hsz hrel=>((eM (clone64 xs f hl)).2 F w vals hZ hF hsz hrel).mono fun e w' ⟨u,r,h1,h2,h3,h4,e',z,ys,h5,h6,h7,h8⟩=>by
  subst h6;subst h7;subst h8
  exact⟨u,r,h1,h2,h3,h4,h5⟩⟩
end
end Go.Proofs.YtdnhplencamncaaGreatDoor
section
namespace Go.Proofs.YtdnhplencamncaaGreatDoor
open Go Go.AM
end Go.Proofs.YtdnhplencamncaaGreatDoor
end
namespace Go.Proofs.YtdnhplencamncaaGreatDoor
section
open Go Go.AM
def mE(us:List Int):List (V×V):=us.map fun x=>(V.int .i64 x,V.bool true)
theorem mE_snoc(us:List Int)(x:Int):mE (us++[x])=mE us++[(V.int .i64 x,V.bool true)]:=by simp[mE]
@[simp ↓ high] theorem rbB_mE (n:Nat) (kk:KK) (us:List Int):rbB n (.map kk (mE us))↔True:=by
 refine⟨fun _=>trivial,fun _ p hp=>?_⟩;obtain⟨x,_,rfl⟩:=List.mem_map.1 hp;exact⟨trivial,trivial⟩
@[simp ↓ high] theorem rbB_mE2 (n:Nat) (kk:KK) (us:List Int) (x:Int):rbB n (.map kk (mE us++[(V.int .i64 x,V.bool true)]))↔True:=by
 rw[←mE_snoc];exact rbB_mE n kk _
@[simp ↓ high] theorem forall_rbB_cons (n:Nat) (b:B) (l:List B):(∀bl∈b::l,rbB n bl)↔(rbB n b∧∀bl∈l,rbB n bl):=List.forall_mem_cons
@[simp ↓ high] theorem forall_rbB_nil (n:Nat):(∀bl∈([]:List B),rbB n bl)↔True:=by simp
theorem nQ(x u:Int)(us:List Int)(i:Nat):cK (.int .i64 x) (mE (u::us)) i=if(x == u)=true then some (i,.bool true) else cK (.int .i64 x) (mE us) (i+1):=rfl
theorem find_no(x:Int):∀(us:List Int) (i:Nat),cP us x=false→cK (.int .i64 x) (mE us) i=none
 | [],_,_=>rfl
 | u::us,i,h=>by
  rw[eQ,Bool.or_eq_false_iff]at h;rw[nQ,h.1,if_neg (by simp)];exact find_no x us (i+1) h.2
theorem nK(x:Int):∀(us:List Int) (i:Nat),cP us x=true→∃j,cK (.int .i64 x) (mE us) i=some (i+j,.bool true)∧us[j]?=some x
 | [],_,h=>by simp[cP]at h
 | u::us,i,h=>by
  rw[nQ];cases hq:x == u
  ·rw[eQ,hq,pr]at h;obtain⟨j,h1,h2⟩:=nK x us (i+1) h;exact⟨j+1,by rw[if_neg (by simp)];rw[show i+(j+1)=i+1+j by omega];exact h1,by simpa using h2⟩
  ·exact⟨0,by simp,by simp[(beq_iff_eq.1 hq)]⟩
end
end Go.Proofs.YtdnhplencamncaaGreatDoor
