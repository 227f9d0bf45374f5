/- JB9: texts C3, W1, W2, Pl1, Enc, Open, W6, W7, W8, W3, SO1, SO2, joined and shortened by pack6.py. -/
import Derived.Test.YtnaokiodhoadjaaGreatDoorJB8
import Derived.Deep.LoopGhost
import Derived.Shelf.SlicesQ.Load
import Derived.Shelf.SlSortCmp.Kit1
import Derived.Sort.Grow
import Derived.Shelf.SlSortCmp.NoneTotal
set_option linter.all false
set_option maxRecDepth 100000
set_option maxHeartbeats 64000000
open List renaming replicate→tg
open Nat renaming beq→vB,sub_zero→xe
open Option renaming map_some→uS,getD_some→wA
namespace Go.Proofs.YtnaokiodhoadjaaGreatDoor
section
open Go Go.AM Go.RowKit Go.Proofs.Tryz
def mixed:prog.follows .mixedOrders=true:=by kernel_rfl
def wx{c:Code}{Q:Exit->List V->List B->Prop}{fr:List V}{H:List B}(h:WX T (aM prog) (LW prog) c Q fr H):W prog c Q fr H:=W_x tok mixed h
def sPx{f:FuncId}{fn:Func}{c:Code}(hf:prog.funcs[f]?=some fn){args:List V}{K:V->Prop}(h:WX T (aM prog) (LW prog) c (retQ T fn.results.toList fun r H=>∃a,Exp H r a/\AM.Pure a/\K a) (args++tg (fn.ntmps-args.length) (.tup [])) [])(hb:fn.body=some c:=by exact rfl)(hn:(fn.name == "runtime.NumGoroutine")=false:=by exact rfl):aK prog f args K:=bM (aH tok hf hb hn (wx h))
def sOx{f:FuncId}{fn:Func}{c:Code}(hf:prog.funcs[f]?=some fn){args:List V}{K:Nat->Nat->List V->Prop}(h:WX T (aM prog) (LW prog) c (retQ T fn.results.toList fun r H=>∃k e z xs,r = .buf k 0 xs.length xs.length/\H[k]?=some (.buf e z xs false)/\(∀x∈xs,AM.Pure x)/\K e z xs) (args++tg (fn.ntmps-args.length) (.tup [])) [])(hb:fn.body=some c:=by exact rfl)(hn:(fn.name == "runtime.NumGoroutine")=false:=by exact rfl):ia prog f args K:=conO_of_conH (aH tok hf hb hn (wx h))
def tkf(n:Nat):TOk prog (aL T fun t=>t == n):=tok_flag tok _
def ext:bC:=fun f args H=>match f,args with
 | 244,[.int .u32 x]=>some (.int .i64 (tzI x),H)
 | 269,[.str a,.str b]=>some (.int .i64 (mt a b),H)
 | _,_=>none
def bX:aa prog ext:=fun f args H r H' h=>by
 unfold ext at h;split at h
 .cases h;rename_i x;have:=bQ (H:=H) (tz_con x) ζ;simpa only[aM,uC] using this
 .cases h;rename_i a b;have:=bQ (H:=H) (cmp_con a b) ζ;simpa only[aM,uC] using this
 .cases h
def allNamed:(prog.funcs.toList.all fun fn=>!(fn.name == "runtime.NumGoroutine"))=true:=by kernel_rfl
def aT:∀(f:Nat) (fn:Func),prog.funcs[f]?=some fn->(fn.name == "runtime.NumGoroutine")=false:=fun f fn h=>by
 have:=List.all_eq_true.1 allNamed fn (by rw[Array.mem_toList_iff];exact Array.mem_of_getElem? h);simpa using this
def buf1(H:List B):List V->List V->Option (Nat×Nat×Nat×List V)
 | a::as',b::bs=>if eqV 40 a b=true then buf1 H as' bs else match a with
  | .buf k 0 n m=>match H[k]? with
   | some (.buf e z xs _)=>if n=xs.length/\m=xs.length/\eqV 40 (.lst z false xs) b=true/\eqL (eqV 40) as' bs=true then some (k,e,z,xs) else none
   | _=>none
  | _=>none
 | _,_=>none
theorem repF_refl(p q:V):∀xs:List V,pe p q xs xs
 | []=>trivial
 | _::xs=>⟨.inl rfl,repF_refl p q xs⟩
theorem buf1_ok{H:List B} : ∀{args c:List V} {k e z:Nat} {xs:List V},buf1 H args c=some (k,e,z,xs)->(∃fz,H[k]?=some (.buf e z xs fz))/\pe (.buf k 0 xs.length xs.length) (.lst z false xs) args c
 | [],_,_,_,_,_,h=>by simp[buf1]at h
 | _::_,[],_,_,_,_,h=>by simp[buf1]at h
 | a::as',b::bs,k,e,z,xs,h=>by
  unfold buf1 at h;split at h
  .rename_i he;obtain⟨h1,h2⟩:=buf1_ok h;exact⟨h1,.inl (eW _ _ _ he).symm,h2⟩
  .split at h
   .rename_i k' n m;split at h
    .rename_i e' j g fz hk;split at h
     .rename_i f;obtain⟨rfl,rfl,d,i⟩:=f;cases h;refine⟨⟨fz,hk⟩,.inr ⟨rfl,(eW _ _ _ d).symm⟩,?_⟩;rw[fS (eW 40) i];exact repF_refl _ _ _
     .cases h
    .cases h
   .cases h
def ka(g:FuncId)(a:List V)(b:V)(ext:bC):bC:=fun f args H=>if vB f g then(if eqL (eqV 40) args a then some (b,H) else match buf1 H args a with
 | some _=>some (b,H)
 | none=>ext f args H) else ext f args H
def sZ(g:FuncId)(a:List V)(b:V)(ext:bC):bC:=fun f args H=>if vB f g then(if eqL (eqV 40) args a then some (b,H) else match buf1 H args a with
 | some (k,e,z,xs)=>some (b,H.set k (.buf e z xs true))
 | none=>ext f args H) else ext f args H
def pure_of_lst{z:Nat}{f:Bool}{xs:List V}(h:AM.Pure (.lst z f xs)):∀x∈xs,AM.Pure x:=by cases h;assumption
def dD{ext:bC}(he:aa prog ext){g:FuncId}{b:List V}{d:V}(l:aK prog g b fun x=>x=d)(hq:∀a∈b,AM.Pure a)(hs:Scalar d):aa prog (ka g b d ext):=fun f args H r H' h=>by
 unfold ka at h;split at h
 .rename_i hf;have c:f=g:=xD hf;subst c;split at h
  .rename_i ha;have ha:=fS (eW 40) ha;cases h;subst ha;have:=bQ (H:=H) l hq;simpa only[aM,uC] using this
  .split at h
   .rename_i o ho;obtain⟨k,e,z,xs⟩:=o;cases h;obtain⟨⟨fz,hk⟩,hr⟩:=buf1_ok ho
    have:=callX (H:=H) (args:=args) l hr.len (fun i a j h1 h2=>by
     have hp:=hq j (tn h2)
     rcases hr.at_ i a j h1 h2 with rfl | ⟨rfl,rfl⟩
     .exact .pure _ hp
     .exact dr hk rfl (pure_of_lst hp)) hs
    simpa only[aM,uC] using this
   .exact he f args H r H' h
 .exact he f args H r H' h
def fj{ext:bC}(he:aa prog ext){g:FuncId}{b:List V}{i:V}(d:aK prog g b fun x=>x=i)(hq:∀a∈b,AM.Pure a):aa prog (sZ g b i ext):=fun f args H r H' h=>by
 unfold sZ at h;split at h
 .rename_i hf;have c:f=g:=xD hf;subst c;split at h
  .rename_i ha;have ha:=fS (eW 40) ha;cases h;subst ha;have:=bQ (H:=H) d hq;simpa only[aM,uC] using this
  .split at h
   .rename_i k e z xs ho;cases h;obtain⟨⟨fz,hk⟩,hr⟩:=buf1_ok ho;have:=callF (H:=H) (args:=args) k hk d hr hq;simpa only[aM,uC] using this
   .exact he f args H r H' h
 .exact he f args H r H' h
end
section
open Go Go.AM Go.Proofs.Tryz
def aG(n:Int):V:=.int .i64 n
def L1(f:Bool)(xs:List Int):V:=.lst 1 f (xs.map aG)
@[simp] theorem encI_pure (n:Int):AM.Pure (aG n):=by simp[aG]
@[simp] theorem L1_pure (f:Bool) (xs:List Int):AM.Pure (L1 f xs):=by simp[L1,aG]
def wrap64{n:Int}(h1 : -9223372036854775808<=n)(h2:n<9223372036854775808):IntKind.i64.wrap n=n:=by rw[IntKind.wrap_i64];omega
def aE(i:Nat)(h:i<9223372036854775807):IntKind.i64.wrap ((i:Int)+1)=((i+1:Nat):Int):=by rw[wrap64 ω ω];rfl
def jz(i:Nat)(h:i<9223372036854775807)(h1:1<=i):IntKind.i64.wrap ((i:Int)-1)=((i-1:Nat):Int):=by rw[wrap64 ω ω];omega
def cY(xs:List Int)(x:Int):Bool:=xs.contains x
def pD(y x:Int)(xs:List Int):cY (y::xs) x=(x == y||cY xs x):=by simp only[cY,List.contains_cons]
theorem memB_nil(x:Int):cY [] x=false:=rfl
def bP{xs:List Int}{x:Int} : cY xs x=true↔x∈xs:=by simp[cY]
def rC(xs:List Int)(i:Nat):Bool:=if h:i<xs.length then(if xs[i]<=xs[i-1] then false else rC xs (i+1)) else true
termination_by xs.length-i
def asc(xs:List Int):Bool:=rC xs 1
def has03(xs:List Int)(x:Int)(f:Bool)(hl:xs.length<=1000000):aK prog 197 [L1 f xs,.int .i64 x] fun r=>r = .bool (cY xs x):=by
 refine sPx func197 ?_;simp -dsimp[f197,tg];refine aI (mA [4,5,6,7,8,9,10,11,12,13,14,15,16,17] (σ:=Nat) (fun i=>cY (xs.drop i) x=cY xs x) (fun i=>xs.length-i) (fun i=>[(5,.int .i64 i)]) (fun _=>[]) 0 rfl ζ rfl ζ ?_);intro i hx;by_cases hb:i<xs.length
 .rw[th hb,pD]at hx;by_cases hq:xs[i]=x
  .refine wx ?_;simp -dsimp[L1,aG,hb,hq];rw[hq]at hx;simpa using hx.symm
  .have a:(x == xs[i])=false:=by simpa using fun h:x=xs[i]=>hq h.symm
   rw[a,vP]at hx;refine wx ?_;simp -dsimp[L1,aG,hb,hq,aE i ω];refine cG ?_;refine⟨i+1,hx,ω,?_,⟨[],rfl⟩,?_,?_⟩<;>simp[L1,aG]
 .rw[tj ω,memB_nil]at hx;refine wx ?_;simp -dsimp[hb,L1];exact hx.symm
def has37(xs:List Int)(x:Int)(f:Bool)(hl:xs.length<=1000000):aK prog 144 [L1 f xs,.int .i64 x] fun r=>r = .bool (cY xs x):=by
 refine sPx func144 ?_;simp -dsimp[f144,tg];refine cPx (has03 xs x f hl) ?_;simp -dsimp[L1]
def eO(us bs:List Int):Bool:=us.all fun x=>cY bs x
def within37(us bs:List Int)(f g:Bool)(hl:us.length<=1000000)(b:bs.length<=1000000):aK prog 88 [L1 f us,L1 g bs] fun r=>r = .bool (eO us bs):=by
 refine sPx func88 ?_;simp -dsimp[f88,tg];refine aI (mA [4,5,6,7,8,9,10,11,12,13,14,15,16,17,18] (σ:=Nat) (fun i=>eO (us.drop i) bs=eO us bs) (fun i=>us.length-i) (fun i=>[(5,.int .i64 i)]) (fun _=>[]) 0 rfl ζ rfl ζ ?_);intro i hx;by_cases hb:i<us.length
 .rw[th hb]at hx;have a:(cY bs us[i]&&eO (us.drop (i+1)) bs)=eO us bs:=hx;refine wx ?_;cases hq:cY bs us[i]
  .rw[hq]at a;have c:=has37 bs us[i] g b;rw[hq]at c;simp -dsimp[L1,hb,aG];refine cPx c ?_;simp -dsimp[hb];simpa using a.symm
  .rw[hq]at a;have c:=has37 bs us[i] g b;rw[hq]at c;simp -dsimp[L1,hb,aG];refine cPx c ?_;simp -dsimp[hb,aE i ω];refine cG ?_;refine⟨i+1,by simpa using a,ω,?_,⟨[],rfl⟩,?_,?_⟩<;>simp[L1,aG]
 .rw[tj ω]at hx;refine wx ?_;simp -dsimp[hb,L1];simpa[eO] using hx.symm
def ah:List Int->List Int->Bool
 | [],[]=>false
 | [],_::_=>true
 | _::_,[]=>false
 | x::xs,y::ys=>if x=y then ah xs ys else decide (x<y)
def before37(us bs:List Int)(f g:Bool)(hl:us.length<=1000000)(a:bs.length<=1000000):aK prog 89 [L1 f us,L1 g bs] fun r=>r = .bool (ah us bs):=by
 refine sPx func89 ?_;simp -dsimp[f89,tg];refine aI (mA [4,5,6,7,8,9,10,11,12,13,14,15,16,17,18,19,20,21,22,23,24,25,26,27,28,29,30,31,32,33,34,35] (σ:=Nat) (fun i=>i<=us.length/\i<=bs.length/\ah (us.drop i) (bs.drop i)=ah us bs) (fun i=>us.length-i) (fun i=>[(5,.int .i64 i)]) (fun _=>[]) 0 ⟨ω,ω,rfl⟩ ζ rfl ζ ?_);rintro i ⟨h1,h2,hx⟩;by_cases ha:i<us.length
 .by_cases hb:i<bs.length
  .rw[th ha,th hb,ah]at hx;by_cases hq:us[i]=bs[i]
   .rw[if_pos hq]at hx;refine wx ?_;simp -dsimp[L1,aG,ha,hb,hq,aE i ω];refine sTx ?_;refine cG ?_;refine⟨i+1,⟨ω,ω,hx⟩,ω,?_,⟨[],rfl⟩,?_,?_⟩<;>simp[L1,aG]
   .rw[if_neg hq]at hx;refine wx ?_;simp -dsimp[L1,aG,ha,hb,hq];refine sTx ?_;refine sTx ?_;exact hx
  .rw[th ha,tj (l:=bs) ω,ah]at hx;refine wx ?_;simp -dsimp[L1,ha,hb];rw[<-hx];simp;omega
 .by_cases hb:i<bs.length
  .rw[th hb,tj (l:=us) ω,ah]at hx;refine wx ?_;simp -dsimp[L1,ha,hb];rw[<-hx];simp;omega
  .rw[tj (l:=us) ω,tj (l:=bs) ω,ah]at hx;refine wx ?_;simp -dsimp[L1,ha,hb];rw[<-hx];simp;omega
def nan_c(x:Int):aK prog 162 [.int .i64 x] fun r=>r = .bool false:=by
 refine sPx func162 ?_;simp -dsimp[f162,tg]
def nan_s(x:Int):aK prog 100 [.int .i64 x] fun r=>r = .bool false:=by
 refine sPx func100 ?_;simp -dsimp[f100,tg]
def less64(x y:Int):aK prog 99 [.int .i64 x,.int .i64 y] fun r=>r = .bool (decide (x<y)):=by
 refine sPx func99 ?_;simp -dsimp[f99,tg];refine cPx (nan_c x) ?_;simp -dsimp
def bG(x y:Int):Int:=if x<y then -1 else if y<x then 1 else 0
def cmp64(x y:Int):aK prog 115 [.int .i64 x,.int .i64 y] fun r=>r = .int .i64 (bG x y):=by
 refine sPx func115 ?_;simp -dsimp[f115,tg];refine cPx (nan_c x) ?_;simp -dsimp;refine cPx (nan_c y) ?_;simp -dsimp;unfold bG;split
 .rfl
 .split<;>rfl
def eZ:List Int->List Int->Int
 | [],[]=>0
 | [],_::_=>-1
 | _::_,[]=>1
 | x::xs,y::ys=>if bG x y=0 then eZ xs ys else bG x y
def bsI(xs:List Int)(x:Int)(lo hi:Nat):Nat :=
 if h:lo<hi then(if(xs[(lo+hi) / 2]?).getD 0<x then bsI xs x ((lo+hi) / 2+1) hi else bsI xs x lo ((lo+hi) / 2)) else lo
termination_by hi-lo
def bsP(xs:List Int)(x:Int):Nat:=bsI xs x 0 xs.length
def bsF(xs:List Int)(x:Int):Bool:=xs[bsP xs x]? == some x
def shr1(lo hi:Nat)(h:lo+hi<2000002):IntKind.i64.wrap ((IntKind.u64.wrap ((lo:Int)+(hi:Int))).fdiv (2^min 1 IntKind.u64.bits))=(((lo+hi) / 2:Nat):Int):=by
 have h2:(2:Int)^min 1 IntKind.u64.bits=2:=by decide
 have h1:IntKind.u64.wrap ((lo:Int)+(hi:Int))=(lo:Int)+(hi:Int):=by rw[IntKind.wrap_u64];omega
 rw[h2,h1,wO _ ω,wrap64 ω ω];omega
def bsearch64(xs:List Int)(x:Int)(f:Bool)(hl:xs.length<=1000000):aK prog 58 [L1 f xs,.int .i64 x] fun r=>r = .tup [.int .i64 (bsP xs x),.bool (bsF xs x)]:=by
 refine sPx func58 ?_;simp -dsimp[f58,tg,L1];refine aI (mA [7,8,9,13,14,15,16,17,18,19,20,21,22,23,24,25,26,27,28,29,30] (σ:=Nat×Nat) (fun p=>p.1<=p.2/\p.2<=xs.length/\bsI xs x p.1 p.2=bsP xs x) (fun p=>p.2-p.1) (fun p=>[(7,.int .i64 p.1),(8,.int .i64 p.2)]) (fun _=>[]) (0,xs.length) ⟨ω,ω,rfl⟩ ζ rfl ζ ?_);rintro⟨lo,hi⟩ ⟨h1,h2,hx⟩;simp only at h1 h2 hx;by_cases hb:lo<hi
 .have c:IntKind.i64.wrap ((lo:Int)+(hi:Int))=((lo+hi:Nat):Int):=by rw[wrap64 ω ω];rfl
  have hs:=shr1 lo hi ω;rw[bsI,dif_pos hb]at hx;obtain⟨m,em⟩:=ξ ((lo+hi) / 2);rw[<-em]at hs hx
  have hm:m<xs.length:=by omega
  rw[tm hm,wA]at hx;have a:=less64 xs[m] x;have b:=aE m ω;by_cases hq:xs[m]<x
  .rw[if_pos hq]at hx;rw[decide_eq_true hq]at a;refine wx ?_;simp -dsimp[L1,aG,hb,c,hs,hm];refine cPx a ?_;simp -dsimp[b];refine cG ?_;refine⟨(m+1,hi),⟨θ,h2,hx⟩,ω,?_,⟨[],rfl⟩,?_,?_⟩<;>simp[L1,aG]
  .rw[if_neg hq]at hx;rw[decide_eq_false hq]at a;refine wx ?_;simp -dsimp[L1,aG,hb,c,hs,hm];refine cPx a ?_;simp -dsimp;refine cG ?_;refine⟨(lo,m),⟨θ,θ,hx⟩,ω,?_,⟨[],rfl⟩,?_,?_⟩<;>simp[L1,aG]
 .rw[bsI,dif_neg hb]at hx;by_cases hn:lo<xs.length
  .by_cases hq:xs[lo]=x
   .refine wx ?_;simp -dsimp[L1,aG,hb,hn,hq];simp[hx.symm,bsF,hn,hq]
   .refine wx ?_;simp -dsimp[L1,aG,hb,hn,hq];refine cPx (nan_s xs[lo]) ?_;simp -dsimp;simp[hx.symm,bsF,hn,hq]
  .refine wx ?_;simp -dsimp[L1,aG,hb,hn];simp[hx.symm,bsF,hn]
def qH(xs:List Int)(i:Nat)(h1:1<=i):rC xs i=true↔∀j,i<=j->∀(h:j<xs.length),xs[j-1]<xs[j]:=by
 fun_induction rC xs i with
 | case1 i h h0=>simp only[uM,false_iff];intro a;have:=a i (uA _) h;omega
 | case2 i h h0 c =>
  rw[c ω];constructor
  .intro a j b hl
   rcases uP i j with h2 | h2
   .exact a j ω hl
   .obtain rfl:j=i:=by omega
    omega
  .intro a j b hl;exact a j ω hl
 | case3 i h=>simp only[true_iff];intro j b hl;omega
def nA{xs:List Int}(h:asc xs=true):∀(i j:Nat) (hi:i<xs.length) (b:j<xs.length),i<j->xs[i]<xs[j]:=by
 have h1:=(qH xs 1 ω).1 h;intro i j hi b c
 induction j with
 | zero=>omega
 | succ j d =>
  have h2:=h1 (j+1) ω b;simp only[wH]at h2
  rcases uP i j with a | a
  .have:=d ω a;omega
  .obtain rfl:i=j:=by omega
   exact h2
def bsI_ok{xs:List Int}(hs:asc xs=true)(x:Int)(lo hi:Nat)(e:lo<=hi)(d:hi<=xs.length)(h1:∀j (h:j<xs.length),j<lo->xs[j]<x)(h2:∀j (h:j<xs.length),hi<=j->x<=xs[j]):
  (∀j (h:j<xs.length),j<bsI xs x lo hi->xs[j]<x)/\∀j (h:j<xs.length),bsI xs x lo hi<=j->x<=xs[j]:=by
 fun_induction bsI xs x lo hi with
 | case1 lo hi h0 hq c =>
  have hm:(lo+hi) / 2<xs.length:=by omega
  rw[tm hm,wA]at hq;refine c ω d (fun j h b=>?_) h2
  rcases uP j ((lo+hi) / 2) with a | a
  .have:=nA hs j _ h hm a;omega
  .obtain rfl:j=(lo+hi) / 2:=by omega
   exact hq
 | case2 lo hi h0 hq c =>
  have hm:(lo+hi) / 2<xs.length:=by omega
  rw[tm hm,wA]at hq;refine c ω ω h1 (fun j h b=>?_)
  rcases uP ((lo+hi) / 2) j with a | a
  .have:=nA hs _ j hm h a;omega
  .obtain rfl:j=(lo+hi) / 2:=by omega
   omega
 | case3 lo hi h0=>exact⟨fun j h b=>h1 j h b,fun j h b=>h2 j h ω⟩
def bsF_mem{xs:List Int}(hs:asc xs=true)(x:Int):bsF xs x=cY xs x:=by
 obtain⟨h1,h2⟩:=bsI_ok hs x 0 xs.length ω ω (fun j h b=>absurd b ω) (fun j h b=>absurd h ω);rw[vH,bP];unfold bsF bsP;constructor
 .intro h;have:=beq_iff_eq.1 h;exact tn this
 .intro h;obtain⟨j,b,rfl⟩:=List.mem_iff_getElem.1 h
  have a1:bsI xs xs[j] 0 xs.length<=j:=by
   rcases uP j (bsI xs xs[j] 0 xs.length) with a | a
   .have:=h1 j b a;omega
   .exact a
  have c:j<=bsI xs xs[j] 0 xs.length:=by
   rcases uP (bsI xs xs[j] 0 xs.length) j with a | a
   .have d:=h2 _ ω (uA _);have:=nA hs _ j ω b a;omega
   .exact a
  rw[(ω:bsI xs xs[j] 0 xs.length=j)];simp[b]
theorem cmpL_lex:∀us bs:List Int,decide (0<=eZ us bs)= !ah us bs
 | [],[]=>rfl
 | [],_::_=>rfl
 | _::_,[]=>rfl
 | x::xs,y::ys=>by
  have a:=cmpL_lex xs ys;simp only[eZ,ah,bG];by_cases h:x=y
  .subst h;simp[a]
  .rcases Int.lt_or_gt_of_ne h with h1 | h1
   .simp[h,h1]
   .have h2:¬x<y:=by omega
    simp[h,h1,h2]
def LL(g:Bool)(es:List (List Int)):V:=.lst 1 g (es.map (L1 false))
def qX(f g:Bool)(vs:List Int)(es:List (List Int)):V:=.agg [L1 f vs,LL g es]
@[simp] theorem LL_pure (g:Bool) (es:List (List Int)):AM.Pure (LL g es):=by simp[LL]
@[simp] theorem encH_pure (f g:Bool) (vs:List Int) (es:List (List Int)):AM.Pure (qX f g vs es):=by simp[qX]
def Small(vs:List Int)(es:List (List Int)):Prop:=vs.length<=1000000/\es.length<=1000000/\∀e∈es,e.length<=1000000
@[simp] theorem encI_oneV (n:Int):cC (aG n)=true:=rfl
@[simp] theorem L1_oneV (f:Bool) (xs:List Int):cC (L1 f xs)=true:=rfl
def eAt(es:List (List Int))(i:Nat):List Int:=es.getD i []
def dV{es:List (List Int)}{i:Nat}(h:i<es.length):eAt es i=es[i]:=by simp[eAt,h]
def agg_rel{w:World}{vs:List V}{us:Array Value}(h:CR w vs us.toList):Rel (AM.base (fun _=>False) w) (.agg vs) (.agg us):=
 .agg vs us (by simpa using h.len.symm) h.one (fun i c u a hu=>h.rel i c u a (by simpa using hu))
def equal64(us bs:List Int)(f g:Bool)(hl:us.length<=1000000)(b:bs.length<=1000000):aK prog 161 [L1 f us,L1 g bs] fun r=>r = .bool (decide (us=bs)):=by
 by_cases hn:us.length=bs.length
 .refine sPx func161 ?_;simp -dsimp[f161,tg,L1,hn];refine aI (mA [4,5,13,14,15,16,17,18,19,20,21,22,23,24,25] (σ:=Nat) (fun i=>i<=us.length/\us.take i=bs.take i) (fun i=>us.length-i) (fun i=>[(13,.int .i64 i)]) (fun _=>[]) 0 ⟨ω,ζ⟩ ζ rfl ζ ?_);rintro i ⟨h1,h2⟩;by_cases hb:i<bs.length
  .have ha:i<us.length:=by omega
   by_cases hq:us[i]=bs[i]
   .refine wx ?_;simp -dsimp[L1,aG,ha,hb,hq,aE i ω];refine sTx ?_;refine cG ?_;refine⟨i+1,⟨ω,by rw[tz ha,tz hb,h2,hq]⟩,ω,?_,⟨[],rfl⟩,?_,?_⟩<;>simp[L1,aG]
   .refine wx ?_;simp -dsimp[L1,aG,ha,hb,hq];refine sTx ?_;rintro rfl;exact hq rfl
  .refine wx ?_;simp -dsimp[L1,hb];rw[uY ω,uY ω]at h2;exact h2
 .have a:¬us=bs:=fun h=>hn (by rw[h])
  refine sPx func161 ?_;simp -dsimp[f161,tg,L1,hn,(ω:¬((us.length:Int)=bs.length))];exact a
def gd(s:Int)(i:Nat):Bool:=IntKind.u32.wrap ↑((s.fdiv (2^min i IntKind.u32.bits) % 2^IntKind.u32.bits).toNat &&& 1 % 2^IntKind.u32.bits)== 1
def has02(s:Int)(i:Nat)(hi:i<32):aK prog 238 [.int .u32 s,.int .i64 i] fun r=>r = .bool (gd s i):=by
 refine sPx func238 ?_;simp -dsimp[f238,tg,(ω:(i:Int)<32)];rfl
def jx(n:Nat)(h:n<=1000000000):n<=9223372036854775806/\(n+1)*8<=140737488355328:=by omega
def eb(n:Nat)(h:n<=1000000000):n<=9223372036854775806/\(n+1)*24<=140737488355328:=by omega
def capL8(n:Nat)(h:n<=1000000000):n<=9223372036854775807/\n*8<=140737488355328:=by omega
def bA(n:Nat)(h:n<9223372036854775807):IntKind.i64.wrap (n:Int)=n:=wrap64 ω ω
def sr(l:List (List Int))(i k:Nat):Bool:=eO (eAt l k) (eAt l i)&&(decide ((eAt l k).length<(eAt l i).length)||decide (k<i))
def fP(l:List (List Int))(i:Nat):Nat->Bool
 | 0=>true
 | k+1=>fP l i k&&!sr l i k
def keepE(l:List (List Int))(i:Nat):Bool:=fP l i l.length
def cN(a:List (List Int))(e:List Int):Nat->Nat
 | 0=>0
 | k+1=>if ah e (eAt a k) then cN a e k else k+1
def bu(a:List (List Int))(e:List Int)(k:Nat):List (List Int):=a.take k++e::a.drop k
def jR(a:List (List Int))(e:List Int):List (List Int):=bu a e (cN a e a.length)
def bH(l:List (List Int)):Nat->List (List Int)
 | 0=>[]
 | i+1=>if keepE l i then jR (bH l i) (eAt l i) else bH l i
def bI(l:List (List Int)):List (List Int):=bH l l.length
def insE_len(a:List (List Int))(e:List Int):(jR a e).length=a.length+1:=by simp[jR,bu];omega
theorem kg(l:List (List Int)):∀i,(bH l i).length<=i
 | 0=>by simp[bH]
 | i+1=>by
  have:=kg l i;simp only[bH];split
  .rw[insE_len];omega
  .omega
def insE_mem{a:List (List Int)}{e x:List Int}(h:x∈jR a e):x=e\/x∈a:=by
 simp only[jR,bu,vG,tw]at h
 rcases h with h | h | h
 .exact .inr (uh h)
 .exact .inl h
 .exact .inr (vF h)
theorem kf{l:List (List Int)} : ∀{i:Nat},i<=l.length->∀{x:List Int},x∈bH l i->x∈l
 | 0,_,x,h=>by simp[bH]at h
 | i+1,hi,x,h=>by
  simp only[bH]at h;split at h
  .rcases insE_mem h with rfl | h
   .rw[dV ω];exact ti _
   .exact kf ω h
  .exact kf ω h
def insAt_k(a:List (List Int))(e:List Int)(k:Nat)(hk:k<=a.length)(h:k<(bu a e k).length):(bu a e k)[k]=e:=by
 simp[bu,hk]
def insAt_p(a:List (List Int))(e:List Int)(k:Nat)(hk:k<=a.length)(h1:1<=k)(h:k-1<(bu a e k).length):(bu a e k)[k-1]=eAt a (k-1):=by
 have:k-1<a.length:=by omega
 have hl:k-1<(a.take k).length:=by simp;omega
 simp only[bu];rw[List.getElem_append_left hl];simp[eAt,this]
def lQ(a:List (List Int))(e:List Int)(k:Nat):(bu a e k).length=a.length+1:=by simp[bu];omega
def sI(a:List (List Int))(e:List Int)(k:Nat)(hk:k<=a.length)(h1:1<=k):((bu a e k).set k (eAt a (k-1))).set (k-1) e=bu a e (k-1):=by
 obtain⟨m,rfl⟩:∃m,k=m+1:=⟨k-1,ω⟩
 have hm:m<a.length:=by omega
 have hl:(a.take m).length=m:=by simp;omega
 have d:a.take (m+1)=a.take m++[a[m]]:=tz hm;have c:a.drop m=a[m]::a.drop (m+1):=th hm
 have b:eAt a m=a[m]:=by simp[eAt,hm]
 simp only[bu,wH,d,c,b];generalize a.take m=A at hl;generalize a.drop (m+1)=D;subst hl;simp[List.set_append]
end
end Go.Proofs.YtnaokiodhoadjaaGreatDoor
section
namespace Go.Proofs.YtnaokiodhoadjaaGreatDoor
open Go Go.AM Go.Proofs.Tryz
end Go.Proofs.YtnaokiodhoadjaaGreatDoor
end
namespace Go.Proofs.YtnaokiodhoadjaaGreatDoor
section
open Go Go.AM Go.RowKit Go.Lib Go.Sort Go.Proofs.Tryz
def nanK64(x:Int)(W:World):Calls prog 162 #[.int .i64 x] W fun e a=>e = .returned (.bool false)/\a=W:=by
 go_enter func162,ntmps162
 go_wp2
 go_ret
 exact⟨rfl,rfl⟩
def cmpK64(x y:Int)(W:World):Calls prog 115 #[.int .i64 x,.int .i64 y] W fun e a=>e = .returned (.int .i64 (bG x y))/\a=W:=by
 have h1:=nanK64 x W;have h2:=nanK64 y W;by_cases c:x<y
 .rw[show bG x y = -1 by unfold bG;rw[if_pos c]]
  go_enter func115,ntmps115
  go_wp2_with (go_at_call 162;first | (refine h1.mono ?_;rintro e a ⟨rfl,rfl⟩) | (refine h2.mono ?_;rintro e a ⟨rfl,rfl⟩))
  go_ret
  exact⟨rfl,rfl⟩
 .by_cases b:y<x
  .rw[show bG x y=1 by unfold bG;rw[if_neg c,if_pos b]];have d:x > y:=b
   go_enter func115,ntmps115
   go_wp2_with (go_at_call 162;first | (refine h1.mono ?_;rintro e a ⟨rfl,rfl⟩) | (refine h2.mono ?_;rintro e a ⟨rfl,rfl⟩))
   go_ret
   exact⟨rfl,rfl⟩
  .rw[show bG x y=0 by unfold bG;rw[if_neg c,if_neg b]];have d:¬x > y:=b
   go_enter func115,ntmps115
   go_wp2_with (go_at_call 162;first | (refine h1.mono ?_;rintro e a ⟨rfl,rfl⟩) | (refine h2.mono ?_;rintro e a ⟨rfl,rfl⟩))
   go_ret
   exact⟨rfl,rfl⟩
def AtI(w:World)(A:Option Addr)(l:List Int):Prop:=∀(i:Nat) (h:i<l.length),∃b o,A=some ⟨b,o,none⟩/\b<w.heap.size/\w.cell? ⟨b,o+i,none⟩=some (.int .i64 l[i])
def AtI.grown{w:World}{A:Option Addr}{l:List Int}(h:AtI w A l)(q:Nat)(os:Array Obj):AtI (grow (w.drewN q) os) A l:=fun i hi=>by
 obtain⟨b,o,h1,h2,a⟩:=h i hi;refine⟨b,o,h1,?_,?_⟩
 .rw[size_grow];exact uT h2 (xR _ _)
 .rw[cell?_grow _ _ _ (by exact h2)];exact a
def GW(W w:World):Prop:=∃q os,w=grow (W.drewN q) os
def GW.refl(W:World):GW W W:=⟨0,#[],by rw[grow_empty];rfl⟩
def GW.at{W w:World}(h:GW W w){A:Option Addr}{l:List Int}(g:AtI W A l):AtI w A l:=by
 obtain⟨q,os,rfl⟩:=h;exact g.grown q os
def compareIK(a b:List Int)(A B:Option Addr)(w t:Nat)(W:World)(hA:AtI W A a)(o:AtI W B b)(ha:a.length<=1000000)(hb:b.length<=1000000):
  Calls prog 159 #[.slice A a.length w,.slice B b.length t] W fun e l=>e = .returned (.int .i64 (eZ a b))/\∃q k,l=grow (W.drewN q) k:=by
 have p:=fun x y W=>cmpK64 x y W
 obtain⟨r,hr⟩:=ξ (eZ a b);rw[<-hr]
 go_enter func159,ntmps159
 go_wp2
 go_loopg [11] a.length (fun g j v=>∃(i:Nat),j = .int .i64 i/\i<=a.length/\i<=b.length/\a.length-i<=g/\Aside (GW W v)/\eZ (a.drop i) (b.drop i)=r)
 case atStart=>exact⟨0,rfl,ω,ω,ω,GW.refl W,by rw[uG,uG,hr]⟩
 clear hr
 case round =>
  obtain⟨i,rfl,hi,D,G,c,hx⟩:=hrel;by_cases h1:i<a.length
  .obtain⟨F,I,h,u,m⟩:=(c.out.at hA) i h1;subst h;by_cases h2:i<b.length
   .obtain⟨E,H,f,C,n⟩:=(c.out.at o) i h2;subst f;rw[th h1,th h2,eZ]at hx;generalize a[i]=x at m hx;generalize b[i]=y at n hx;obtain⟨z,hz⟩:=ξ (bG x y)
    have d:=fun W=>p x y W
    rw[<-hz]at hx d;clear hz p hA o;by_cases hq:z=0
    .rw[if_pos hq]at hx;subst hq
     go_wp2_with (go_at_call 115;refine(d _).mono ?_;rintro e l ⟨rfl,rfl⟩)
     go_roundg (a.length-(i+1))
     case measure=>omega
     case rel=>exact⟨i+1,by go_num,ω,ω,uA _,c.out,hx⟩
    .rw[if_neg hq]at hx
     go_wp2_with (go_at_call 115;refine(d _).mono ?_;rintro e l ⟨rfl,rfl⟩)
     go_ret
     exact⟨by first | rfl | (rw[hx];rfl),c.out⟩
   .rw[th h1,tj (show b.length<=i by omega),eZ]at hx
    have s:¬(i:Int)<b.length:=by omega
    go_wp2_with fail
    go_ret
    exact⟨by first | rfl | (rw[hx];rfl),c.out⟩
  .rw[tj (show a.length<=i by omega)]at hx;by_cases h2:a.length<b.length
   .rw[th (show i<b.length by omega),eZ]at hx
    go_wp2_with fail
    go_ret
    exact⟨by rw[hx];rfl,c.out⟩
   .rw[tj (show b.length<=i by omega),eZ]at hx
    go_wp2_with fail
    go_ret
    exact⟨by rw[hx];rfl,c.out⟩
def putRow_id{a:Type} [Inhabited a] (enc:a->Value)(w:World)(blk off:Nat)(d:Array a):putRow enc w blk off d=putRow id w blk off (d.map enc):=by
 unfold putRow
 refine mapBlock_congr _ _ _ _ fun c _ _ _=>?_
 apply Array.ext_getElem?;intro k;simp only[putCells,xY,Array.size_map]
 cases c[k]? with
 | none=>rfl
 | some y =>
  simp only[uS];by_cases h:off<=k/\k<off+d.size
  .rw[if_pos h,if_pos h]
   have hk:k-off<d.size:=by omega
   rw[getElem!_pos d (k-off) hk,getElem!_pos (d.map enc) (k-off) (by simpa using hk)];simp
  .rw[if_neg h,if_neg h]
def row_turned{s:AM.St}(h:AM.Good s){k e z:Nat}{xs ys:List V}(hk:s.H[k]?=some (.buf e z xs false))(g:s.κ k≠0)(F:Array Value)(n:Nat)(os:Array Obj)(hl:ys.length=xs.length)(L:F.size=xs.length*z)
  (D:∀y∈ys,y.cells.length=z/\∀c∈y.cells,c.one=true) (hr:∀i y j c,ys[i]?=some y->y.cells[j]?=some c->Rel s c F[i*z+j]!) (W:World) (hW:W=grow (putRow id (Go.Sort.ahead s.w n) (s.φ k) 0 F) os):
  AM.Good (s.setB W k (.buf e z ys false))/\AM.Step s (s.setB W k (.buf e z ys false)):=by
 have a:=lvB hk g;have l:=(h.lt k a).1;obtain⟨vs,h1,h2,K,J,N,M⟩:=h.blk k _ hk;have hb:=h1 g
 have ho:∀b,b<s.w.heap.size->b≠s.φ k->W.heap[b]?=s.w.heap[b]?:=fun b p q=>by
  subst hW;rw[heap_grow_old _ _ (by rw[Go.Proofs.size_putRow];exact p)];simp only[putRow,mapBlock,Go.Sort.ahead,xC,if_neg (Ne.symm q)]
 have m:W.heap[s.φ k]?=some (.cells (putCells id 0 F vs) e (0,0)):=by
  subst hW;rw[heap_grow_old _ _ (by rw[Go.Proofs.size_putRow];exact l)];simp[putRow,mapBlock,Go.Sort.ahead,xC,hb,onCells]
 have f:s.w.heap.size<=W.heap.size:=by
  subst hW;rw[size_grow,Go.Proofs.size_putRow];exact xR _ _
 have ha:B.alike (.buf e z xs false) (.buf e z ys false):=⟨rfl,rfl,hl.symm,rfl,rfl⟩
 have t:W.os=s.w.os:=by subst hW;rfl
 have E:W.tape=s.w.tape:=by subst hW;rfl
 have G:W.output=s.w.output:=by subst hW;rfl
 clear hW;have d:=bj (w:=W) h hk a ha t E G f ho;refine⟨bw h hk a ha t E G f ho (fun _=>?_),d⟩;refine⟨putCells id 0 F vs,fun _=>m,by simp only[putCells,Array.size_mapIdx];exact h2,by rw[hl];exact K,J,D,fun i x j c u hi C hu=>?_⟩;have I:=aB hi;have r:=aB C;rw[(D x (tn hi)).1]at r
 have A:i*z+j<F.size:=by
  rw[L];have:=uI z (show i+1<=xs.length by omega);rw[uR,yI]at this;omega
 have o:u=F[i*z+j]!:=by
  simp only[putCells,xY]at hu
  cases hv:vs[i*z+j]? with
  | none=>rw[hv]at hu;cases hu
  | some v =>
   rw[hv,uS,if_pos ⟨ω,ω⟩,xe]at hu;exact(Option.some.inj hu).symm
 rw[o];exact(hr i x j c hi C).step d
end
end Go.Proofs.YtnaokiodhoadjaaGreatDoor
