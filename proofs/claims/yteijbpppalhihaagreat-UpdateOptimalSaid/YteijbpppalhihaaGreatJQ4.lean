/- JQ4: own texts of this seat, joined and shortened by pack.py: T8, T9, T10, Wd, T11, U3, V1, U1, U2, U4, U5, V2, V3, V4, V6, V7, U6, V5, V8, V9, V10, V11, X1, X2, X3, X4, Op, S1, S2, S4, H1, H2, Cut, H3. -/
import Derived.Test.YteijbpppalhihaaGreatJQ3
import Derived.StillTailTactics
import Derived.Sort.Grow
import Derived.Shelf.SlSortCmp.NoneTotal
set_option linter.unusedVariables false
set_option linter.unusedSimpArgs false
set_option maxRecDepth 100000
set_option maxHeartbeats 64000000
namespace Go.Proofs.YteijbpppalhihaaGreat
section
open Go Go.AM
def fq(vs:List Vl)(s:Int):Nat→List Vl
 | 0=>[]
 | i+1=>if fF s i then fq vs s i++[vs.getD i ⟨0,0,ByteArray.empty⟩] else fq vs s i
def jR(vs:List Vl)(s:Int):List Vl:=fq vs s vs.length
theorem ov(vs:List Vl)(s:Int):∀i,(fq vs s i).length≤i
 | 0=>by simp[fq]
 | i+1=>by
  have:=ov vs s i;simp only[fq];split
  ·simp;omega
  ·omega
theorem ou(vs:List Vl)(s:Int):∀i,i≤vs.length→∀v∈fq vs s i,v∈vs
 | 0,_,v,h=>by simp[fq]at h
 | i+1,hi,v,h=>by
  simp only[fq]at h;split at h
  ·rcases List.mem_append.1 h with h | h
   ·exact ou vs s i (by omega) v h
   ·simp only[List.mem_singleton]at h;subst h
    have hb:i<vs.length:=by omega
    have:vs.getD i ⟨0,0,ByteArray.empty⟩=vs[i]:=by simp[hb]
    rw[this];exact List.getElem_mem hb
  ·exact ou vs s i (by omega) v h
theorem values03(r:Rw)(s:Int)(hl:r.vals.length≤31):aR Tryz.prog 99 [aL r,.int .u32 s] fun x=>x=LV false (jR r.vals s):=by
 refine aC (aD tok Tryz.func99 rfl rfl ?_);refine wx ?_;simp -implicitDefEqProofs -dsimp[Tryz.f99,List.replicate,aL,LV];refine aK (eY 68 3 [5] (by simp) (W_loopM 25 [5,6,7,8,9,10,11,12,13,14,15,16,17,18,19,20,21,22,23,24] (by simp[mB]<;>rfl) (σ:=Nat) (fun i=>i≤r.vals.length) (fun i=>r.vals.length-i) (fun i=>[(6,.int .i64 i),(5,.buf 1 0 (fq r.vals s i).length (fq r.vals s i).length)]) (fun i=>[B.cells [.int .i64 r.id,.lst 3 false (r.vals.map ap)],B.buf 68 3 ((fq r.vals s i).map ap) false]) 0 (by omega) (by simp[fq]) (by simp[fq]) (by simp) ?_));intro i hi N Q hN hQ;have hvl:=ov r.vals s i;by_cases hb:i<r.vals.length
 ·have hst:fq r.vals s (i+1)=if fF s i then fq r.vals s i++[r.vals[i]] else fq r.vals s i:=by simp[fq,hb]
  have hc:=has02 s i (by omega);cases hh:fF s i
  ·rw[hh]at hc hst;refine wx ?_;simp -implicitDefEqProofs -dsimp[hb];refine(aF (hc) (by simp)).mono ?_;rintro r H' ⟨rfl,rfl⟩;simp -implicitDefEqProofs -dsimp[aJ i (by omega)];refine hN (i+1) _ _ (by omega) (by omega) ?_ ⟨[],?_⟩ ?_ ?_<;>simp[or_imp,forall_and,L1,aW,hst,ap]
  ·rw[hh]at hc hst;refine wx ?_;simp -implicitDefEqProofs -dsimp[hb];refine(aF (hc) (by simp)).mono ?_;rintro r H' ⟨rfl,rfl⟩;simp -implicitDefEqProofs -dsimp[hb,ap,md (fq r.vals s i).length (by omega),aJ i (by omega)];refine hN (i+1) _ _ (by omega) (by omega) ?_ ⟨[],?_⟩ ?_ ?_<;>simp[or_imp,forall_and,L1,aW,hst,ap]
 ·obtain rfl:i=r.vals.length:=by omega
  refine wx ?_;simp -implicitDefEqProofs -dsimp[hb];refine hQ _ _ _ ?_;simp -implicitDefEqProofs -dsimp[];exact dK rfl (by simp[jR]) (by simp)
def cR(a b:Rw)(s:Int):Bool:=eQ (jR a.vals s) (jR b.vals s)== 0
theorem agree03(a b:Rw)(s:Int)(hl:a.vals.length≤31)(hl2:b.vals.length≤31)(hs:∀v∈a.vals,v.s.size≤maxLen):aR Tryz.prog 62 [aL a,aL b,.int .u32 s] fun x=>x = .bool (cR a b s):=by
 have hc1:=values03 a s hl;have hc2:=values03 b s hl2;have h1:=ov a.vals s a.vals.length;have hc3:=same01 (jR a.vals s) (jR b.vals s) false false (by unfold jR;omega) (fun v hv=>hs v (ou _ _ _ (Nat.le_refl _) v hv));simp only[aL,LV]at hc1 hc2 hc3;refine aC (aD tok Tryz.func62 rfl rfl ?_);refine wx ?_;simp -implicitDefEqProofs -dsimp[Tryz.f62,List.replicate,aL,LV];refine .inr ⟨aI (by kernel_rfl),?_⟩;refine ae _ (aF (hc1) (by simp)) ?_;simp -implicitDefEqProofs -dsimp[];refine ae _ (aF (hc2) (by simp)) ?_;simp -implicitDefEqProofs -dsimp[];refine ae _ (aF (hc3) (by simp)) ?_;simp -implicitDefEqProofs -dsimp[];rfl
theorem u32w(a:Nat)(h:a<4294967296):IntKind.u32.wrap (a:Int)=a:=by rw[IntKind.wrap_u32];omega
theorem mod32(a:Nat)(h:a<4294967296):((a:Int) % 2^IntKind.u32.bits).toNat=a:=by
 have:(2:Int)^IntKind.u32.bits=4294967296:=rfl;rw[this];omega
theorem modN(a:Nat)(h:a<4294967296):a % 2^IntKind.u32.bits=a:=Nat.mod_eq_of_lt h
theorem or32(a b:Nat)(ha:a<4294967296)(hb:b<4294967296):IntKind.u32.wrap ((a % 2^IntKind.u32.bits ||| b % 2^IntKind.u32.bits:Nat):Int)=((a ||| b:Nat):Int):=by
 rw[modN a ha,modN b hb];exact u32w _ (Nat.or_lt_two_pow (n:=32) ha hb)
theorem and32(a b:Nat)(ha:a<4294967296)(hb:b<4294967296):IntKind.u32.wrap ((a % 2^IntKind.u32.bits &&& b % 2^IntKind.u32.bits:Nat):Int)=((a &&& b:Nat):Int):=by
 rw[modN a ha,modN b hb];exact u32w _ (Nat.lt_of_le_of_lt Nat.and_le_left ha)
theorem shl32(i:Nat)(h:i<32):IntKind.u32.wrap (2^min i IntKind.u32.bits:Int)=((2^i:Nat):Int):=by
 have h1:min i IntKind.u32.bits=i:=Nat.min_eq_left (by show i≤32;omega);have h2:2^i<4294967296:=Nat.pow_lt_pow_right (by omega) h;rw[h1,←u32w _ h2];congr 1
def dn:Nat→Nat
 | 0=>0
 | i+1=>dn i ||| 2^i
theorem lr:∀n,n≤32→dn n<4294967296
 | 0,_=>by simp[dn]
 | i+1,h=>Nat.or_lt_two_pow (n:=32) (lr i (by omega)) (Nat.pow_lt_pow_right (by omega) (by omega))
theorem fullN_bit:∀n k,(dn n).testBit k=decide (k<n)
 | 0,k=>by simp[dn]
 | i+1,k=>by
  rw[dn,Nat.testBit_or,fullN_bit i k,Nat.testBit_two_pow];rw[Bool.eq_iff_iff];simp only[Bool.or_eq_true,decide_eq_true_eq];omega
theorem full02(n:Nat)(hn:n≤32):aR Tryz.prog 86 [.int .i64 n] fun r=>r = .int .u32 (dn n):=by
 refine aC (aD tok Tryz.func86 rfl rfl ?_);refine wx ?_;simp -implicitDefEqProofs -dsimp[Tryz.f86,List.replicate];refine aK (W_loopM 18 [3,4,5,6,7,8,9,10,11,12,13,14,15,16,17] (by simp[mB]<;>rfl) (σ:=Nat) (fun i=>i≤n) (fun i=>n-i) (fun i=>[(4,.int .i64 i),(3,.int .u32 (dn i))]) (fun _=>[]) 0 (by omega) (by simp[dn]) rfl (by simp) ?_);intro i hi N Q hN hQ;by_cases hb:i<n
 ·have h1:=shl32 i (by omega);have h2:=lr i (by omega);have h3:2^i<4294967296:=Nat.pow_lt_pow_right (by omega) (show i<32 by omega)
  have hf:dn (i+1)=dn i ||| 2^i:=rfl
  obtain⟨p,hp⟩:∃p,p=2^i:=⟨_,rfl⟩;rw[←hp]at h1 h3 hf;have h4:=or32 (dn i) p h2 h3;rw[←hf]at h4;refine wx ?_;simp -implicitDefEqProofs -dsimp[hb,show(i:Int)<32 by omega,aJ i (by omega),h1,h4];refine hN (i+1) _ _ (by omega) (by omega) ?_ ⟨[],?_⟩ ?_ ?_<;>simp[or_imp,forall_and,L1,aW]
 ·obtain rfl:i=n:=by omega
  refine wx ?_;simp -implicitDefEqProofs -dsimp[hb];refine hQ _ _ _ ?_;simp -implicitDefEqProofs -dsimp[]
theorem sub02(a b:Nat)(ha:a<4294967296)(hb:b<4294967296):aR Tryz.prog 129 [.int .u32 a,.int .u32 b] fun r=>r = .bool (decide (a &&& b=a)):=by
 refine aC (aD tok Tryz.func129 rfl rfl ?_);refine wx ?_;simp -implicitDefEqProofs -dsimp[Tryz.f129,List.replicate,and32 a b ha hb];rw[Bool.eq_iff_iff,beq_iff_eq,decide_eq_true_iff];omega
theorem eM(s i:Nat)(hs:s<4294967296)(hi:i<32):fF s i=s.testBit i:=by
 have h1:min i IntKind.u32.bits=i:=Nat.min_eq_left (by show i≤32;omega)
 have h2:((s:Int).fdiv (2^i) % 2^IntKind.u32.bits).toNat=s / 2^i:=by
  have h3:(s:Int).fdiv (2^i)=((s / 2^i:Nat):Int):=by
   rw[Int.fdiv_eq_ediv_of_nonneg _ (by have:(0:Int)<2^i:=Int.pow_pos (by omega);omega)];simp
  rw[h3];exact mod32 _ (Nat.lt_of_le_of_lt (Nat.div_le_self _ _) hs)
 have h4:(1 % 2^IntKind.u32.bits:Nat)=1:=rfl;unfold fF;rw[h1,h2,h4,Nat.and_one_is_mod,u32w _ (by omega),Nat.testBit_eq_decide_div_mod_eq];rw[Bool.eq_iff_iff,beq_iff_eq,decide_eq_true_iff];omega
structure Fd where
 l:Nat
 r:Nat
def encD(d:Fd):V:=.agg [.int .u8 (d.l:Int),.int .u8 (d.r:Int)]
def cT(d:Fd):V:=.agg [.int .u32 (d.l:Int),.int .u32 (d.r:Int)]
@[simp] theorem encD_pure (d:Fd):AM.Pure (encD d):=by simp[encD]
@[simp] theorem encF_pure (d:Fd):AM.Pure (cT d):=by simp[cT]
@[simp] theorem encF_oneV (d:Fd):dm (cT d)=true:=rfl
def LF(f:Bool)(ds:List Fd):V:=.lst 2 f (ds.map cT)
@[simp] theorem LF_pure (f:Bool) (ds:List Fd):AM.Pure (LF f ds):=by simp[LF]
def fdOf(n:Nat)(d:Fd):Fd:=⟨d.l &&& dn n,d.r &&& dn n⟩
def mE(n:Nat)(ds:List Fd)(i:Nat):List Fd:=(ds.take i).map (fdOf n)
theorem fdsTo_len(n:Nat)(ds:List Fd)(i:Nat)(h:i≤ds.length):(mE n ds i).length=i:=by simp[mE];omega
theorem fdsTo_succ(n:Nat)(ds:List Fd)(i:Nat)(h:i<ds.length):mE n ds (i+1)=mE n ds i++[fdOf n ds[i]]:=by
 unfold mE;rw[List.take_succ_eq_append_getElem h,List.map_append];rfl
theorem cap8b(n:Nat)(h:n≤1000000000):n≤9223372036854775806∧(n+1)*8≤140737488355328:=by omega
theorem list09(n:Nat)(ds:List Fd)(f:Bool)(hn:n≤32)(hl:ds.length≤1000000)(hd:∀d∈ds,d.l<256∧d.r<256):aR Tryz.prog 39 [.int .i64 n,.lst 2 f (ds.map encD)] fun r=>r=LF false (ds.map (fdOf n)):=by
 have hF:=lr n hn;have hc:=full02 n hn;refine aC (aD tok Tryz.func39 rfl rfl ?_);refine wx ?_;simp -implicitDefEqProofs -dsimp[Tryz.f39,List.replicate];refine(aF (hc) (by simp)).mono ?_;rintro r H' ⟨rfl,rfl⟩;simp -implicitDefEqProofs -dsimp[];refine aK (eY 46 2 [6] (by simp) (W_loopM 36 [6,7,10,11,12,13,14,15,16,17,18,19,20,21,22,23,24,25,26,27,28,29,30,31,32,33,34,35] (by simp[mB]<;>rfl) (σ:=Nat) (fun i=>i≤ds.length) (fun i=>ds.length-i) (fun i=>[(7,.int .i64 i),(6,.buf 0 0 i i)]) (fun i=>[B.buf 46 2 ((mE n ds i).map cT) false]) 0 (by omega) (by simp) (by simp[mE]) (by simp) ?_));intro i hi N Q hN hQ;have hli:=fdsTo_len n ds i hi;by_cases hb:i<ds.length
 ·obtain⟨h1,h2⟩:=hd ds[i] (List.getElem_mem hb);have hst:=fdsTo_succ n ds i hb;have e1:=and32 ds[i].l (dn n) (by omega) hF;have e2:=and32 ds[i].r (dn n) (by omega) hF;have w1:=u32w ds[i].l (by omega);have w2:=u32w ds[i].r (by omega);refine wx ?_;simp -implicitDefEqProofs -dsimp[hb];refine aK (am tok mixed [19] [] [] (by kernel_rfl) fun C K hC hK=>?_);simp -implicitDefEqProofs [hb,encD,w1,w2,e1,e2,cap8b i (by omega),hli];refine hK _ _ ?_;simp -implicitDefEqProofs -dsimp[aJ i (by omega)];refine hN (i+1) _ _ (by omega) (by omega) ?_ ⟨[],?_⟩ ?_ ?_<;>simp[or_imp,forall_and,L1,aW,hst,cT,fdOf,encD]
 ·obtain rfl:i=ds.length:=by omega
  refine wx ?_;simp -implicitDefEqProofs -dsimp[hb];refine hQ _ _ _ ?_;simp -implicitDefEqProofs -dsimp[];rw[show LF false (ds.map (fdOf n))=LF false (mE n ds ds.length) by unfold mE;rw[List.take_length]];exact dK rfl (by rw[List.length_map];exact hli.symm) (by simp)
section
def isApp:Go.Op→Bool
 | .call c=>match c.callee with
  | .builtin .append=>true
  | _=>false
 | _=>false
def statP(ops:Array Oper)(E:List Nat)(tab:List (Nat×List Nat)):Bool :=
 stat1 ops&&nZ ops E&&(List.range ops.size).all fun i=>E.contains i||(match ops[i]? with
  | some o=>(bm o.op||isApp o.op)&&(dz o.op||(List.range (E.length+1)).all fun c=>!im (aO [] ops.toList) E i c||c == cZ E i||(iH tab i).contains c)
  | none=>true)
def oblP(T:AM.Ty)(ops:Array Oper)(C:V→List V→List B→(V→List B→Prop)→Prop)(E:List Nat)(tab:List (Nat×List Nat))(Hs:Nat→List B):List Oper→Nat→Nat→List V→List V→Prop
 | [],_,_,_,_=>True
 | _::_,_,_,_,[]=>False
 | o::rest,i,c,fr,v::vs =>
  (match bR ops fr o with
   | some true=>match bE o.op with
    | some (f,args)=>if E.contains i then C (aU fr f) (args.map (aU fr)) (Hs c) (fun r H'=>r=v∧H'=Hs (c+1))
     else fK (fun c'=>C (aU fr f) (args.map (aU fr)) (Hs c') (fun r H'=>r=v∧H'=Hs c')) (c::iH tab i)
    | none=>if E.contains i||dz o.op then True else fK (fun c'=>aop T o.op (aU fr) (Hs c')=some (v,Hs c')) (if bm o.op then iH tab i else c::iH tab i)
   | _=>True)∧oblP T ops C E tab Hs rest (i+1) (if E.contains i then c+1 else c) (bJ fr o.dst v) vs
def DrawP(T:AM.Ty)(ops:Array Oper)(E:List Nat)(tab:List (Nat×List Nat))(cv:List (V×List B))(C:V→List V→List B→(V→List B→Prop)→Prop)(K:List V→List B→Prop)(fr:List V)(H:List B):Prop :=
 match AM.runT T ops E ops.toList 0 fr H cv with
 | none=>False
 | some (vs,hs,f)=>hs.length=E.length∧oblP T ops C E tab (fun c=>(H::hs)[c]?.getD []) ops.toList 0 0 fr vs∧K f ((H::hs)[E.length]?.getD [])
section
variable {P:Program} {T:AM.Ty}
theorem oV{ops:Array Oper}{C:V→List V→List B→(V→List B→Prop)→Prop}{E:List Nat}{tab:List (Nat×List Nat)}{Hs:Nat→List B}(hasc:mi E=true)
  (hst:∀i o,ops[i]?=some o→E.contains i=false→(bm o.op=true∨isApp o.op=true)∧(dz o.op=true∨∀c,c<E.length+1→im (aO [] ops.toList) E i c=true→c=cZ E i∨c∈iH tab i)):
  ∀(l:List Oper) (i:Nat) (fr:List V) (H:List B) (cv:List (V×List B)) (vs:List V) (hs:List (List B)) (f:List V),l=ops.toList.drop i→AM.runT T ops E l i fr H cv=some (vs,hs,f)→(∀k,k≤hs.length→Hs (cZ E i+k)=((H::hs)[k]?).getD [])→
   oblP T ops C E tab Hs l i (cZ E i) fr vs→bu T ops C (aO [] ops.toList) E Hs l i fr vs
 | [],i,fr,H,cv,vs,hs,f,hl,hr,hH,h=>trivial
 | o::rest,i,fr,H,cv,vs,hs,f,hl,hr,hH,h=>by
  have ho:ops[i]?=some o:=by
   have:=congrArg (fun l=>l[0]?) hl;simp at this;exact this.symm
  have hrest:rest=ops.toList.drop (i+1):=by
   have:=congrArg List.tail hl;simpa using this
  have hHi:Hs (cZ E i)=H:=by have:=hH 0 (Nat.zero_le _);simpa using this
  simp only[AM.runT]at hr
  cases hw:bR ops fr o with
  | none=>rw[hw]at hr;cases hr
  | some b =>
  rw[hw]at hr
  cases b with
  | false =>
   simp only at hr;split at hr
   ·cases hr
   rename_i hE
   have hE:E.contains i=false:=by simpa using hE
   split at hr
   ·rename_i vs' hs' f' hr';cases hr;simp only[oblP,hw,hE,Bool.false_eq_true,if_false]at h;simp only[bu,hw];refine⟨⟨by first | trivial | rfl,hE⟩,oV hasc hst rest (i+1) _ H cv vs' _ _ hrest hr' (fun k hk=>?_) ?_⟩
    ·rw[cQ hasc,hE];simpa using hH k hk
    ·rw[cQ hasc,hE];simpa using h.2
   ·cases hr
  | true =>
   simp only at hr
   have fin:∀(v:V) (H':List B) (cv':List (V×List B)),(if E.contains i then(match AM.runT T ops E rest (i+1) (bJ fr o.dst v) H' cv' with
      | some (vs,hs,f)=>some (v::vs,H'::hs,f)
      | none=>none)
     else(match AM.runT T ops E rest (i+1) (bJ fr o.dst v) H cv' with
      | some (vs,hs,f)=>some (v::vs,hs,f)
      | none=>none))=some (vs,hs,f)→
     ∃vs',vs=v::vs'∧(E.contains i=true→Hs (cZ E i+1)=H')∧(oblP T ops C E tab Hs rest (i+1) (if E.contains i then cZ E i+1 else cZ E i) (bJ fr o.dst v) vs'→bu T ops C (aO [] ops.toList) E Hs rest (i+1) (bJ fr o.dst v) vs'):=fun v H' cv' hq=>by
    cases hE:E.contains i with
    | true =>
     rw[hE]at hq;simp only[if_true]at hq;split at hq
     ·rename_i vs' hs' f' hr';cases hq;refine⟨vs',rfl,fun _=>?_,fun hh=>?_⟩
      ·have:=hH 1 (by simp);simpa using this
      ·refine oV hasc hst rest (i+1) _ H' cv' vs' hs' _ hrest hr' (fun k hk=>?_) ?_
       ·rw[cQ hasc,hE];have:=hH (k+1) (by simp;omega);simp only[if_true,List.getElem?_cons_succ]at this ⊢;rw[show cZ E i+1+k=cZ E i+(k+1) by omega];exact this
       ·rw[cQ hasc,hE];simpa using hh
     ·cases hq
    | false =>
     rw[hE]at hq;simp only[Bool.false_eq_true,if_false]at hq;split at hq
     ·rename_i vs' hs' f' hr';cases hq;refine⟨vs',rfl,(fun h=>by cases h),fun hh=>?_⟩;refine oV hasc hst rest (i+1) _ H cv' vs' hs _ hrest hr' (fun k hk=>?_) ?_
      ·rw[cQ hasc,hE];simpa using hH k hk
      ·rw[cQ hasc,hE];simpa using hh
     ·cases hq
   cases hc:bE o.op with
   | some p =>
    obtain⟨g,args⟩:=p;rw[hc]at hr;simp only at hr;split at hr
    ·rename_i v H' cv';obtain⟨vs',rfl,hEH,hrec⟩:=fin v H' cv' hr;simp only[oblP,hw,hc]at h;simp only[bu,hw,hc];refine⟨?_,hrec h.2⟩
     cases hE:E.contains i with
     | true =>
      rw[hE]at h;simp only[if_true]at h ⊢;rw[mV hasc hE];exact h.1
     | false =>
      rw[hE]at h;simp only[Bool.false_eq_true,if_false]at h ⊢;obtain⟨_,s2⟩:=hst i o ho hE
      have hns:dz o.op=false:=by
       cases hop:o.op<;>rw[hop]at hc<;>simp only[bE]at hc<;>first | (cases hc;done) | rfl
      rw[hns]at s2;have s2:=s2.resolve_left (by simp);refine allC_of (fun c hcm=>?_);split
      ·rename_i hp
       rcases s2 c (by simpa using hcm) hp with rfl | hm
       ·exact dM h.1 _ (by simp)
       ·exact dM h.1 _ (by simp[hm])
      ·trivial
    ·cases hr
   | none =>
    rw[hc]at hr;simp only at hr
    cases hop:aop T o.op (aU fr) H with
    | none=>rw[hop]at hr;cases hr
    | some q =>
     obtain⟨v,H'⟩:=q;rw[hop]at hr;simp only at hr;obtain⟨vs',rfl,hEH,hrec⟩:=fin v H' cv hr;simp only[oblP,hw,hc]at h;simp only[bu,hw,hc];refine⟨?_,hrec h.2⟩
     cases hE:E.contains i with
     | true =>
      simp only[if_true];rw[mV hasc hE,hHi,hEH hE];exact hop
     | false =>
      rw[hE]at h;simp only[Bool.false_eq_true,if_false,Bool.false_or]at h ⊢;obtain⟨s1,s2⟩:=hst i o ho hE;refine allC_of (fun c hcm=>?_);split
      ·rename_i hp
       cases hsc:dz o.op with
       | true=>exact jx hsc hop _
       | false =>
        rw[hsc]at h s2;simp only[Bool.false_eq_true,if_false]at h
        cases hso:bm o.op with
        | true =>
         rw[hso,if_pos rfl]at h;have hHH:=ib hso hop;subst hHH
         rcases(s2.resolve_left (by simp)) c (by simpa using hcm) hp with rfl | hm
         ·rw[hHi];exact hop
         ·exact dM h.1 _ hm
        | false =>
         rw[hso,if_neg (by simp)]at h
         rcases(s2.resolve_left (by simp)) c (by simpa using hcm) hp with rfl | hm
         ·exact dM h.1 _ (by simp)
         ·exact dM h.1 _ (by simp[hm])
      ·trivial
where
 allC_of {p:Nat→Prop} : ∀{l:List Nat},(∀c∈l,p c)→fK p l
  | [],_=>trivial
  | c::l,h=>⟨h c (by simp),allC_of (fun d hd=>h d (by simp[hd]))⟩
theorem oq(hT:TOk P T)(hm:P.follows .mixedOrders=true){id:Nat}{ops:Array Oper}{Q:Exit→List V→List B→Prop}{fr:List V}{H:List B}(E:List Nat)(tab:List (Nat×List Nat))(cv:List (V×List B))(hst:statP ops E tab=true)
  (h:∀(C:V→List V→List B→(V→List B→Prop)→Prop) (K:List V→List B→Prop),(∀fv args H K',aT P fv args H K'→C fv args H K')→(∀fr H,Q .normal fr H→K fr H)→DrawP T ops E tab cv C K fr H):W P (.region id ops true) Q fr H:=by
 refine W_draw hT hm E cv fun C K hC hK=>?_
 have h1:=h C K hC hK;unfold DrawP at h1;unfold nY;simp only[statP,Bool.and_eq_true]at hst;obtain⟨⟨st1,st2⟩,st3⟩:=hst;split at h1
 ·exact h1.elim
 ·rename_i vs hs f hr;rw[hr];obtain⟨a1,a2,a3⟩:=h1
  have hasc:mi E=true:=by
   unfold nZ at st2;simp only[Bool.and_eq_true]at st2;exact st2.1.1
  have h00:cZ E 0=0:=by cases E<;>simp[cZ]
  refine⟨⟨oP st1 st2,a1⟩,?_,a3⟩;refine oV hasc (fun i o ho hE=>?_) ops.toList 0 fr H cv vs hs f (by simp) hr (fun k hk=>by rw[h00,Nat.zero_add]) (by rw[h00];exact a2);have hil:i<ops.size:=(Array.getElem?_eq_some_iff.1 ho).1;have:=List.all_eq_true.1 st3 i (by simpa using hil);rw[hE,ho,Bool.false_or]at this;simp only[Bool.and_eq_true,Bool.or_eq_true]at this;refine⟨this.1,this.2.imp (fun h=>h) (fun hall c hc hp=>?_)⟩;have h3:=List.all_eq_true.1 hall c (by simpa using hc);simp only[Bool.or_eq_true,Bool.not_eq_true',beq_iff_eq]at h3
  rcases h3 with(h3 | h3) | h3
  ·rw[hp]at h3;cases h3
  ·exact .inl h3
  ·exact .inr (List.contains_iff_mem.1 h3)
end
attribute [simp] DrawP oblP
end
theorem rel_agg_lf{s:AM.St}{cs ds:List V}{u:Value}(h:Rel s (.agg cs) u)(hl:LfL cs ds):Rel s (.agg ds) u:=by
 cases h with
 | agg _ us h1 h2 h3 =>
  have hlen:=hl.len;refine .agg ds us (by omega) (fun d hd=>?_) (fun i d u hd hu=>?_)
  ·obtain⟨i,hi⟩:=List.mem_iff_getElem?.1 hd;have hc:cs[i]?=some (cs[i]'(by have:=aE hi;omega)):=List.getElem?_eq_getElem _;exact lf_one (hl.at_ i _ d hc hi) (h2 _ (List.mem_of_getElem? hc))
  ·have hc:cs[i]?=some (cs[i]'(by have:=aE hd;omega)):=List.getElem?_eq_getElem _;exact nE (h3 i _ u hc hu) (hl.at_ i _ d hc hd)
theorem conP_lf{P:Program}{f:FuncId}{args:List V}{v v':V}(h:aR P f args fun r=>r=v)(hr:∀(s:AM.St) u,Rel s v u→Rel s v' u)(hp:AM.Pure v'):aR P f args fun r=>r=v':=by
 refine⟨h.1,fun F w vals hZ hF hsz hrel=>(h.2 F w vals hZ hF hsz hrel).mono fun e w' ⟨u,r,a1,a2,a3,a4,a5⟩=>?_⟩;subst a5;exact⟨u,v',a1,hp,hr _ u a3,a4,rfl⟩
theorem cap32l(n:Nat)(h:n≤1000000000):n≤9223372036854775807∧n*32≤140737488355328:=by omega
theorem cp03(r:Rw)(hl:r.vals.length≤1000000):aR Tryz.prog 96 [aL r] fun x=>x=aL r:=by
 by_cases h0:r.vals=[]
 ·refine conP_lf (v:=.agg [.int .i64 r.id,.lst 3 true []]) ?_ (fun s u h=>?_) (by simp)
  ·refine aC (aD (az tok (fun t=>t == 64)) Tryz.func96 rfl rfl ?_);refine W_x (az tok (fun t=>t == 64)) mixed ?_;simp -implicitDefEqProofs -dsimp[Tryz.f96,List.replicate,aL,LV,bk];refine aK (oq (az tok (fun t=>t == 64)) mixed [7] [] [] (by kernel_rfl) fun C K hC hK=>?_);simp -implicitDefEqProofs [h0,bk];refine hK _ _ ?_;simp -implicitDefEqProofs -dsimp[bk]
  ·have:=rel_agg_lf (ds:=[.int .i64 r.id,.lst 3 false []]) h (by simp[LfL,lfB]);simpa[aL,LV,h0] using this
 ·refine aC (aD (az tok (fun t=>t == 64)) Tryz.func96 rfl rfl ?_);refine W_x (az tok (fun t=>t == 64)) mixed ?_;simp -implicitDefEqProofs -dsimp[Tryz.f96,List.replicate,aL,LV,bk];refine aK (oq (az tok (fun t=>t == 64)) mixed [7] [] [] (by kernel_rfl) fun C K hC hK=>?_);simp -implicitDefEqProofs [h0,cap32l r.vals.length (by omega),bk];refine hK _ _ ?_;simp -implicitDefEqProofs -dsimp[bk];rfl
theorem cap16l(n:Nat)(h:n≤1000000000):n≤9223372036854775807∧n*16≤140737488355328:=by omega
theorem with03(t:Tb)(rs:List Rw)(f g h:Bool)(ha:t.attrs.length≤1000000)(hr:rs.length≤1000000)(hv:∀r∈rs,r.vals.length≤1000000):aR Tryz.prog 57 [aG f g t,LR h rs] fun x=>x=aG false false ⟨t.name,t.attrs,rs⟩:=by
 have hne:t.attrs=[]∨¬t.attrs=[]:=by by_cases h:t.attrs=[];exact .inl h;exact .inr h
 rcases hne with hne | hne
 case' inl =>
  refine aC (aD (az tok (fun t=>t == 29)) Tryz.func57 rfl rfl ?_);refine W_x (az tok (fun t=>t == 29)) mixed ?_;simp -implicitDefEqProofs -dsimp[Tryz.f57,List.replicate,aG,LS,LR,bk];refine aK (oq (az tok (fun t=>t == 29)) mixed [7,8] [(1,[1]),(2,[1]),(4,[1]),(5,[1])] [] (by kernel_rfl) fun C K hC hK=>?_);simp -implicitDefEqProofs [hne,bk];refine hK _ _ ?_;simp -implicitDefEqProofs -dsimp[bk]
 case' inr =>
  refine aC (aD (az tok (fun t=>t == 29)) Tryz.func57 rfl rfl ?_);refine W_x (az tok (fun t=>t == 29)) mixed ?_;simp -implicitDefEqProofs -dsimp[Tryz.f57,List.replicate,aG,LS,LR,bk];refine aK (oq (az tok (fun t=>t == 29)) mixed [7,8] [(1,[1]),(2,[1]),(4,[1]),(5,[1])] [] (by kernel_rfl) fun C K hC hK=>?_);simp -implicitDefEqProofs [hne,cap16l t.attrs.length (by omega),bk];refine hK _ _ ?_;simp -implicitDefEqProofs -dsimp[bk]
 all_goals
  refine aK (W_lf 2 _ [.str t.name,.lst 1 false (t.attrs.map V.str),.nilS] rfl (pj _) (by simp[LfL,lfB,hne]) (co 66 2 [] 2 [2] rfl (et _ _) (by simp) (W_loopM 30 [6,9,11,12,13,14,15,16,17,18,19,20,21,22,23,24,25,26,27,28,29] (by simp[mB]<;>rfl) (σ:=Nat) (fun i=>i≤rs.length) (fun i=>rs.length-i) (fun i=>[(6,.int .i64 i)]) (fun i=>[B.cells [.str t.name,.lst 1 f (t.attrs.map V.str),.lst 2 g (t.rows.map aL)],B.cells [.str ByteArray.empty,.nilS,.nilS],B.cells [.str t.name,.lst 1 false (t.attrs.map V.str),.buf 3 0 i i],B.buf 66 2 ((rs.take i).map aL) false]) 0 (by omega) (by simp[hne]) (by simp[hne]) (by simp) ?_)));intro i hi N Q hN hQ
  have hli:(rs.take i).length=i:=by simp;omega
  by_cases hb:i<rs.length
  ·have hst:rs.take (i+1)=rs.take i++[rs[i]]:=List.take_succ_eq_append_getElem hb;have hc:=cp03 rs[i] (hv _ (List.getElem_mem hb));obtain⟨l,hl⟩:∃l,l=rs.take i:=⟨_,rfl⟩;rw[←hl]at hst hli ⊢;refine W_x (az tok (fun t=>t == 29)) mixed ?_;simp -implicitDefEqProofs -dsimp[hb,bk];refine aK (am (az tok (fun t=>t == 29)) mixed [8,10] [] [(aL rs[i],[])] (by kernel_rfl) fun C K hC hK=>?_);simp -implicitDefEqProofs [hb,aL,LV,hli,md i (by omega),bk];refine⟨hC _ _ _ _ (aF hc (by simp)),hK _ _ ?_⟩;simp -implicitDefEqProofs -dsimp[aJ i (by omega),bk];refine hN (i+1) _ _ (by omega) (by omega) ?_ ⟨[],?_⟩ ?_ ?_<;>simp[or_imp,forall_and,L1,aW,hst,aL,LV]
  ·obtain rfl:i=rs.length:=by omega
   rw[List.take_length];refine iA 3 [] 2 [2] rfl rfl (by simp) (by simp) ?_;refine W_x (az tok (fun t=>t == 29)) mixed ?_;simp -implicitDefEqProofs -dsimp[hb,bk];refine hQ _ _ _ ?_;simp -implicitDefEqProofs -dsimp[bk];simp only[aG,LS,LR]
structure Cr where
 id:Int
 attr:Int
theorem Cr.eq_iff{a b:Cr} : a=b↔a.id=b.id∧a.attr=b.attr:=by
 cases a;cases b;simp
def cLt(a b:Cr):Prop:=a.id<b.id∨(a.id=b.id∧a.attr<b.attr)
theorem ez(a:Cr):¬cLt a a:=by unfold cLt;omega
theorem ek{a b c:Cr}(h:cLt a b)(g:cLt b c):cLt a c:=by unfold cLt at *;omega
theorem cLt_tri(a b:Cr):cLt a b∨a=b∨cLt b a:=by
 rw[Cr.eq_iff];unfold cLt;omega
def bp(a b:Cr):Int:=if bZ a.id b.id=0 then bZ a.attr b.attr else bZ a.id b.id
theorem cmpI_lt(x y:Int):bZ x y<0↔x<y:=by
 unfold bZ;split
 ·simp;omega
 ·split<;>simp<;>omega
theorem mZ(x y:Int):bZ x y=0↔x=y:=by
 unfold bZ;split
 ·simp;omega
 ·split<;>simp<;>omega
theorem eR(a b:Cr):bp a b<0↔cLt a b:=by
 unfold bp cLt;have h1:=mZ a.id b.id;split
 ·rename_i h;rw[cmpI_lt];have:=h1.1 h;omega
 ·rename_i h;rw[cmpI_lt]
  have:¬a.id=b.id:=fun e=>h (h1.2 e)
  omega
theorem fU(a b:Cr):bp a b=0↔a=b:=by
 unfold bp;rw[Cr.eq_iff];have h1:=mZ a.id b.id;split
 ·rename_i h;rw[mZ];exact⟨fun h2=>⟨h1.1 h,h2⟩,fun h2=>h2.2⟩
 ·rename_i h;exact⟨fun h2=>absurd h2 h,fun h2=>absurd (h1.2 h2.1) h⟩
def aY(l:List Cr):Prop:=l.Pairwise cLt
theorem dy{l:List Cr}(h:aY l){i j:Nat}(hi:i<l.length)(hj:j<l.length)(hij:i<j):cLt l[i] l[j]:=List.pairwise_iff_getElem.1 h i j hi hj hij
def cAt(l:List Cr)(i:Nat):Cr:=l.getD i ⟨0,0⟩
def bsC(l:List Cr)(x:Cr)(lo hi:Nat):Nat :=
 if lo<hi then(if bp (cAt l ((lo+hi) / 2)) x<0 then bsC l x ((lo+hi) / 2+1) hi else bsC l x lo ((lo+hi) / 2)) else lo
termination_by hi-lo
theorem jF{l:List Cr}{i:Nat}(h:i<l.length):cAt l i=l[i]:=by simp[cAt,h]
theorem bsC_ok{l:List Cr}(hs:aY l)(x:Cr)(lo hi:Nat)(hlh:lo≤hi)(hhl:hi≤l.length)(h1:∀j (h:j<l.length),j<lo→cLt l[j] x)(h2:∀j (h:j<l.length),hi≤j→¬cLt l[j] x):
  (∀j (h:j<l.length),j<bsC l x lo hi→cLt l[j] x)∧∀j (h:j<l.length),bsC l x lo hi≤j→¬cLt l[j] x:=by
 fun_induction bsC l x lo hi with
 | case1 lo hi h0 hq ih =>
  have hm:(lo+hi) / 2<l.length:=by omega
  rw[jF hm,eR]at hq;refine ih (by omega) hhl (fun j h hj=>?_) h2
  rcases Nat.lt_or_ge j ((lo+hi) / 2) with h3 | h3
  ·exact ek (dy hs h hm h3) hq
  ·have:j=(lo+hi) / 2:=by omega
   subst this;exact hq
 | case2 lo hi h0 hq ih =>
  have hm:(lo+hi) / 2<l.length:=by omega
  rw[jF hm,eR]at hq;refine ih (by omega) (by omega) h1 (fun j h hj hc=>?_)
  rcases Nat.lt_or_ge ((lo+hi) / 2) j with h3 | h3
  ·exact hq (ek (dy hs hm h h3) hc)
  ·have:j=(lo+hi) / 2:=by omega
   subst this;exact hq hc
 | case3 lo hi h0=>exact⟨fun j h hj=>h1 j h hj,fun j h hj=>h2 j h (by omega)⟩
theorem bsC_mem{l:List Cr}(hs:aY l)(x:Cr):(∃h:bsC l x 0 l.length<l.length,bp l[bsC l x 0 l.length] x=0)↔x∈l:=by
 obtain⟨h1,h2⟩:=bsC_ok hs x 0 l.length (by omega) (by omega) (fun j h hj=>absurd hj (by omega)) (fun j h hj=>absurd h (by omega));constructor
 ·rintro⟨h,hc⟩;rw[fU]at hc;exact hc▸List.getElem_mem h
 ·intro h;obtain⟨j,hj,rfl⟩:=List.mem_iff_getElem.1 h
  have a1:bsC l l[j] 0 l.length≤j:=by
   rcases Nat.lt_or_ge j (bsC l l[j] 0 l.length) with h3 | h3
   ·exact absurd (h1 j hj h3) (ez _)
   ·exact h3
  have a2:j≤bsC l l[j] 0 l.length:=by
   rcases Nat.lt_or_ge (bsC l l[j] 0 l.length) j with h3 | h3
   ·have hb:bsC l l[j] 0 l.length<l.length:=by omega
    exact absurd (dy hs hb hj h3) (h2 _ hb (Nat.le_refl _))
   ·exact h3
  have e:bsC l l[j] 0 l.length=j:=by omega
  exact⟨by omega,by rw[fU];congr 1⟩
def aN(c:Cr):V:=.agg [.int .i64 c.id,.int .i64 c.attr]
@[simp] theorem encCr_pure (c:Cr):AM.Pure (aN c):=by simp[aN]
@[simp] theorem encCr_oneV (c:Cr):dm (aN c)=true:=rfl
def LC(f:Bool)(l:List Cr):V:=.lst 2 f (l.map aN)
@[simp] theorem LC_pure (f:Bool) (l:List Cr):AM.Pure (LC f l):=by simp[LC]
theorem kL(a b:Cr):aR Tryz.prog 75 [aN a,aN b] fun r=>r = .int .i64 (bp a b):=by
 have hc1:=cmp64 a.id b.id;have hc2:=cmpInt a.attr b.attr;have hc3:=orInt [bZ a.id b.id,bZ a.attr b.attr] true (by simp)
 have he:orI [bZ a.id b.id,bZ a.attr b.attr]=bp a b:=by
  unfold bp;simp only[orI];split
  ·split
   ·rename_i h;exact h.symm
   ·rfl
  ·rfl
 rw[he]at hc3;simp only[L1,List.map_cons,List.map_nil,aW]at hc3;refine aC (aD tok Tryz.func75 rfl rfl ?_);refine wx ?_;simp -implicitDefEqProofs -dsimp[Tryz.f75,List.replicate,aN];refine .inr ⟨aI (by kernel_rfl),?_⟩;refine ae _ (aF (hc1) (by simp)) ?_;simp -implicitDefEqProofs -dsimp[];refine ae _ (aF (hc2) (by simp)) ?_;simp -implicitDefEqProofs -dsimp[];refine ae _ (aF (hc3) (by simp)) ?_;simp -implicitDefEqProofs -dsimp[]
section
abbrev Dm:=Vl ⊕ Nat
structure Prob where
 m:Nat
 n:Nat
 K:Nat→Option Vl
 fds:List Fd
def Agr(q:Prob)(σ:Nat→Dm)(i k s:Nat):Prop:=∀a,a<q.n→s.testBit a=true→σ (i*q.n+a)=σ (k*q.n+a)
structure Sol (q:Prob) (σ:Nat→Dm):Prop where
 fix:∀x v,x<q.m*q.n→q.K x=some v→σ x = .inl v
 dep:∀d∈q.fds,∀i k,i<q.m→k<i→Agr q σ i k d.l→Agr q σ i k d.r
def Okq(q:Prob):Prop:=∃σ,Sol q σ
theorem aq{m n i a:Nat}(hi:i<m)(ha:a<n):i*n+a<m*n:=by
 have:(i+1)*n≤m*n:=Nat.mul_le_mul_right n hi;rw[Nat.add_mul]at this;omega
structure Frt (q:Prob) (P:List Nat) (r h:Nat→Nat):Prop where
 len:P.length=q.m*q.n
 lt:∀x,x<q.m*q.n→r x<q.m*q.n
 root:∀x,x<q.m*q.n→P.getD (r x) 0=r x
 self:∀x,x<q.m*q.n→P.getD x 0=x→r x=x
 step:∀x,x<q.m*q.n→P.getD x 0≠x→P.getD x 0<q.m*q.n∧r (P.getD x 0)=r x∧h (P.getD x 0)<h x
 known:∀x,x<q.m*q.n→q.K x≠none→r x=x
 sem:∀σ,Sol q σ→∀x,x<q.m*q.n→σ x=σ (r x)
def eqv(q:Prob)(r:Nat→Nat)(x y:Nat):Prop:=r x=r y∨∃v,q.K (r x)=some v∧q.K (r y)=some v
def eE(q:Prob)(r:Nat→Nat)(x:Nat):Dm:=match q.K (r x) with
 | some v=>.inl v
 | none=>.inr (r x)
theorem eqv_iff(q:Prob)(r:Nat→Nat)(x y:Nat):eE q r x=eE q r y↔eqv q r x y:=by
 unfold eE eqv
 cases h1:q.K (r x) with
 | some v =>
  cases h2:q.K (r y) with
  | some w =>
   simp only[Sum.inl.injEq,Option.some.injEq];constructor
   ·rintro rfl;exact .inr ⟨v,rfl,rfl⟩
   ·rintro(h | ⟨u,h3,h4⟩)
    ·rw[h,h2]at h1;exact(Option.some.inj h1).symm
    ·exact h3.trans h4.symm
  | none =>
   simp only[reduceCtorEq,false_iff];rintro(h | ⟨u,h3,h4⟩)
   ·rw[h,h2]at h1;cases h1
   ·cases h4
 | none =>
  cases h2:q.K (r y) with
  | some w =>
   simp only[reduceCtorEq,false_iff];rintro(h | ⟨u,h3,h4⟩)
   ·rw[h,h2]at h1;cases h1
   ·cases h3
  | none =>
   simp only[Sum.inr.injEq];constructor
   ·exact .inl
   ·rintro(h | ⟨u,h3,h4⟩)
    ·exact h
    ·cases h3
section
variable {q:Prob} {P:List Nat} {r h:Nat→Nat}
theorem Frt.eqv_sem(f:Frt q P r h){σ:Nat→Dm}(hs:Sol q σ){x y:Nat}(hx:x<q.m*q.n)(hy:y<q.m*q.n)(he:eqv q r x y):σ x=σ y:=by
 rw[f.sem σ hs x hx,f.sem σ hs y hy]
 rcases he with he | ⟨v,h1,h2⟩
 ·rw[he]
 ·rw[hs.fix _ v (f.lt x hx) h1,hs.fix _ v (f.lt y hy) h2]
def eT(q:Prob)(r:Nat→Nat):Prop:=∀d∈q.fds,∀i k,i<q.m→k<i→(∀a,a<q.n→d.l.testBit a=true→eqv q r (i*q.n+a) (k*q.n+a))→∀a,a<q.n→d.r.testBit a=true→eqv q r (i*q.n+a) (k*q.n+a)
theorem Frt.sol(f:Frt q P r h)(hc:eT q r):Sol q (eE q r):=by
 refine⟨fun x v hx hk=>?_,fun d hd i k hi hk hl a ha hb=>?_⟩
 ·unfold eE;rw[f.known x hx (by rw[hk];simp),hk]
 ·exact(eqv_iff q r _ _).2 (hc d hd i k hi hk (fun b hb1 hb2=>(eqv_iff q r _ _).1 (hl b hb1 hb2)) a ha hb)
theorem frt_init(q:Prob):Frt q (List.range (q.m*q.n)) (fun x=>x) (fun _=>0):=by
 have hg:∀x,x<q.m*q.n→(List.range (q.m*q.n)).getD x 0=x:=fun x hx=>by simp[hx]
 refine⟨by simp,fun x hx=>hx,fun x hx=>hg x hx,fun x hx _=>rfl,fun x hx hne=>absurd (hg x hx) hne,fun x hx _=>rfl,fun σ hs x hx=>rfl⟩
theorem iP(P:List Nat)(k v x:Nat)(hk:k<P.length):(P.set k v).getD x 0=if x=k then v else P.getD x 0:=by
 by_cases hx:x=k
 ·subst hx;simp[hk]
 ·rw[if_neg hx];simp only[List.getD_eq_getElem?_getD];rw[List.getElem?_set_ne (Ne.symm hx)]
theorem Frt.join(f:Frt q P r h){i k:Nat}(hi:i<q.m*q.n)(hk:k<q.m*q.n)(hri:r i=i)(hrk:r k=k)(hne:i≠k)(hK:q.K k=none)(hs:∀σ,Sol q σ→σ i=σ k):
  Frt q (P.set k i) (fun x=>if r x=k then i else r x) (fun x=>if r x=k then h x+h i+1 else h x):=by
 have hkl:k<P.length:=by rw[f.len];exact hk
 have hpk:P.getD k 0=k:=by have:=f.root k hk;rwa [hrk]at this
 have hpi:P.getD i 0=i:=by have:=f.root i hi;rwa [hri]at this
 refine⟨by rw[List.length_set];exact f.len,fun x hx=>?_,fun x hx=>?_,fun x hx hp=>?_,fun x hx hp=>?_,fun x hx hkx=>?_,fun σ hσ x hx=>?_⟩
 ·split
  ·exact hi
  ·exact f.lt x hx
 ·rw[iP _ _ _ _ hkl];split
  ·first | exact hpi | (rw[if_neg hne];exact hpi)
  ·rename_i h1
   first | exact f.root x hx | (rw[if_neg h1];exact f.root x hx)
 ·rw[iP _ _ _ _ hkl]at hp;by_cases hxk:x=k
  ·rw[if_pos hxk]at hp;exact absurd (hp.trans hxk) hne
  ·rw[if_neg hxk]at hp;have:=f.self x hx hp;rw[this,if_neg hxk]
 ·rw[iP _ _ _ _ hkl]at hp ⊢;by_cases hxk:x=k
  ·subst hxk;rw[if_pos rfl]at hp ⊢;refine⟨hi,?_,?_⟩
   ·rw[hri,hrk,if_neg hne,if_pos rfl]
   ·rw[hri,hrk,if_neg hne,if_pos rfl];omega
  ·rw[if_neg hxk]at hp ⊢;obtain⟨h1,h2,h3⟩:=f.step x hx hp;refine⟨h1,by rw[h2],?_⟩;rw[h2];split
   ·omega
   ·exact h3
 ·have:=f.known x hx hkx;rw[this];by_cases hxk:x=k
  ·subst hxk;exact absurd hK hkx
  ·rw[if_neg hxk]
 ·rw[f.sem σ hσ x hx];split
  ·rename_i h1;rw[h1];exact(hs σ hσ).symm
  ·rfl
def mX(P:List Nat):Nat:=((List.range P.length).filter fun x=>P.getD x 0 == x).length
theorem filter_le{p p':Nat→Bool} : ∀{l:List Nat},(∀x∈l,p' x=true→p x=true)→(l.filter p').length≤(l.filter p).length
 | [],_=>Nat.le_refl _
 | a::l,hle=>by
  have ih:=filter_le (l:=l) (fun x hx=>hle x (List.mem_cons_of_mem _ hx));have ha:=hle a List.mem_cons_self;simp only[List.filter_cons]
  cases hp':p' a with
  | false=>cases hp:p a<;>simp<;>omega
  | true=>rw[ha hp'];simp;omega
theorem nH{p p':Nat→Bool}{k:Nat}(h1:p k=true)(h2:p' k=false):∀{l:List Nat},(∀x∈l,p' x=true→p x=true)→k∈l→(l.filter p').length<(l.filter p).length
 | [],_,hk=>by cases hk
 | a::l,hle,hk=>by
  have hle':∀x∈l,p' x=true→p x=true:=fun x hx=>hle x (List.mem_cons_of_mem _ hx)
  have ha:=hle a List.mem_cons_self;have hq:=filter_le hle';simp only[List.filter_cons]
  rcases List.mem_cons.1 hk with hk | hk
  ·rw[←hk,h1,h2];simp;omega
  ·have ih:=nH h1 h2 hle' hk
   cases hp':p' a with
   | false=>cases hp:p a<;>simp<;>omega
   | true=>rw[ha hp'];simp;omega
theorem cntR_join{P:List Nat}{i k:Nat}(hk:k<P.length)(hpk:P.getD k 0=k)(hne:i≠k):mX (P.set k i)<mX P:=by
 unfold mX;rw[List.length_set];refine nH (k:=k) (by simpa using hpk) ?_ (fun x _ hx=>?_) (by simpa using hk)
 rotate_left
 ·rw[iP _ _ _ _ hk]at hx;by_cases hxk:x=k
  ·rw[if_pos hxk,beq_iff_eq]at hx;exact absurd (hx.trans hxk) hne
  ·rwa [if_neg hxk]at hx
 ·rw[iP _ _ _ _ hk,if_pos rfl,beq_eq_false_iff_ne];exact hne
end
end
section
def app(τ:Nat→Dm):Dm→Dm
 | .inl v=>.inl v
 | .inr s=>τ s
structure Ent (q:Prob) (e:Nat→Dm):Prop where
 fix:∀x v,x<q.m*q.n→q.K x=some v→e x = .inl v
 sem:∀σ,Sol q σ→∃τ:Nat→Dm,∀x,x<q.m*q.n→σ x=app τ (e x)
def fX(q:Prob)(e:Nat→Dm):Prop:=∀d∈q.fds,∀i k,i<q.m→k<i→Agr q e i k d.l→Agr q e i k d.r
theorem Ent.sol{q:Prob}{e:Nat→Dm}(h:Ent q e)(hc:fX q e):Sol q e:=⟨h.fix,hc⟩
open Classical in
noncomputable def repE(e:Nat→Dm)(s:Nat)(y:Dm)(x:Nat):Dm:=if e x = .inr s then y else e x
theorem Ent.rep{q:Prob}{e:Nat→Dm}(h:Ent q e){x0 y0 s:Nat}(hx:x0<q.m*q.n)(hy:y0<q.m*q.n)(he:e x0 = .inr s)(hs:∀σ,Sol q σ→σ x0=σ y0):Ent q (repE e s (e y0)):=by
 refine⟨fun x v hxn hk=>?_,fun σ hσ=>?_⟩
 ·unfold repE;rw[h.fix x v hxn hk,if_neg (by simp)]
 ·obtain⟨τ,ht⟩:=h.sem σ hσ;refine⟨τ,fun x hxn=>?_⟩;unfold repE;split
  ·rename_i h1;have h2:=hs σ hσ;rw[ht x0 hx,ht y0 hy,he]at h2;rw[ht x hxn,h1,h2]
  ·exact ht x hxn
theorem Ent.clash{q:Prob}{e:Nat→Dm}(h:Ent q e){x y:Nat}{v w:Vl}(hx:x<q.m*q.n)(hy:y<q.m*q.n)(h1:e x = .inl v)(h2:e y = .inl w)(hne:v≠w)(hs:∀σ,Sol q σ→σ x=σ y):¬Okq q:=by
 rintro⟨σ,hσ⟩;obtain⟨τ,ht⟩:=h.sem σ hσ;have:=hs σ hσ;rw[ht x hx,ht y hy,h1,h2]at this;exact hne (Sum.inl.inj this)
open Classical in
noncomputable def hasSym(N:Nat)(e:Nat→Dm)(s:Nat):Bool:=decide (∃x,x<N∧e x = .inr s)
noncomputable def oH(N S:Nat)(e:Nat→Dm):Nat:=((List.range S).filter (hasSym N e)).length
open Classical in
theorem cntS_rep{N S s y0:Nat}{e:Nat→Dm}{x0:Nat}(hx:x0<N)(hy:y0<N)(he:e x0 = .inr s)(hne:e y0≠.inr s)(hs:s<S):oH N S (repE e s (e y0))<oH N S e:=by
 unfold oH;refine nH (k:=s) ?_ ?_ (fun s' _ h=>?_) (by simpa using hs)
 rotate_left 2
 ·unfold hasSym at h ⊢;obtain⟨x,hxN,h1⟩:=of_decide_eq_true h;unfold repE at h1;refine decide_eq_true ?_;split at h1
  ·exact⟨y0,hy,h1⟩
  ·exact⟨x,hxN,h1⟩
 ·exact decide_eq_true ⟨x0,hx,he⟩
 ·refine decide_eq_false ?_;rintro⟨x,hxN,h1⟩;unfold repE at h1;split at h1
  ·exact hne h1
  ·rename_i h2;exact h2 h1
theorem ent_init{q:Prob}{e:Nat→Dm}(hf:∀x v,x<q.m*q.n→q.K x=some v→e x = .inl v)(ho:∀x,x<q.m*q.n→q.K x=none→∃s,e x = .inr s)(hi:∀x y s,x<q.m*q.n→y<q.m*q.n→e x = .inr s→e y = .inr s→x=y):Ent q e:=by
 refine⟨hf,fun σ hσ=>?_⟩;refine⟨fun s=>open Classical in if h:∃x,x<q.m*q.n∧e x = .inr s then σ h.choose else .inr 0,fun x hx=>?_⟩
 cases hk:q.K x with
 | some v=>rw[hf x v hx hk,hσ.fix x v hx hk];rfl
 | none =>
  obtain⟨s,hs⟩:=ho x hx hk;rw[hs];have hex:∃x,x<q.m*q.n∧e x = .inr s:=⟨x,hx,hs⟩;simp only[app,dif_pos hex];have:=hex.choose_spec;rw[hi x hex.choose s hx this.1 hs this.2]
end
section
structure IsNxt (u:Int→Bool) (n m:Int):Prop where
 gt:n<m
 free:u m=false
 all:∀k,n<k→k<m→u k=true
theorem IsNxt.uniq{u:Int→Bool}{n a b:Int}(h:IsNxt u n a)(g:IsNxt u n b):a=b:=by
 rcases Int.lt_trichotomy a b with h1 | h1 | h1
 ·have:=g.all a h.gt h1;rw[h.free]at this;cases this
 ·exact h1
 ·have:=h.all b g.gt h1;rw[g.free]at this;cases this
open Classical in
noncomputable def nxt(u:Int→Bool)(n:Int):Int:=if h:∃m,IsNxt u n m then h.choose else n+1
theorem nxt_eq{u:Int→Bool}{n m:Int}(h:IsNxt u n m):nxt u n=m:=by
 unfold nxt;have hex:∃m,IsNxt u n m:=⟨m,h⟩;rw[dif_pos hex];exact hex.choose_spec.uniq h
noncomputable def da(u:Int→Bool):Nat→Int
 | 0=>0
 | k+1=>nxt u (da u k)
open Classical in
noncomputable def fp(c:Nat→Dm)(x:Nat):Nat:=((List.range (x+1)).find? fun y=>decide (c y=c x)).getD x
open Classical in
noncomputable def bO(c:Nat→Dm)(y:Nat):Nat:=((List.range y).filter fun z=>decide ((∃s,c z = .inr s)∧fp c z=z)).length
noncomputable def fw(u:Int→Bool)(c:Nat→Dm)(x:Nat):Vl:=match c x with
 | .inl v=>v
 | .inr _=>⟨3,da u (bO c (fp c x)+1),ByteArray.empty⟩
theorem fp_le(c:Nat→Dm)(x:Nat):fp c x≤x:=by
 unfold fp
 cases h:(List.range (x+1)).find? fun y=>open Classical in decide (c y=c x) with
 | none=>simp
 | some y =>
  have:=List.mem_of_find?_eq_some h;simp at this;simp;omega
theorem ew(c:Nat→Dm)(x:Nat):c (fp c x)=c x:=by
 unfold fp
 cases h:(List.range (x+1)).find? fun y=>open Classical in decide (c y=c x) with
 | none=>simp
 | some y =>
  have:=List.find?_some h;simpa using this
section
variable {c c':Nat→Dm} {N:Nat} (he:∀x y,x<N→y<N→(c x=c y↔c' x=c' y)) (hv:∀x v,x<N→(c x = .inl v↔c' x = .inl v))
include he in
theorem fp_eq{x:Nat}(hx:x<N):fp c x=fp c' x:=by
 unfold fp;congr 1
 refine find_congr fun y hy=>?_
 have hy:y<x+1:=by simpa using hy
 exact decide_eq_decide.2 (he y x (by omega) hx)
where
 find_congr {l:List Nat} {p p':Nat→Bool} (h:∀y∈l,p y=p' y):l.find? p=l.find? p':=by
  induction l with
  | nil=>rfl
  | cons a l ih =>
   simp only[List.find?_cons,h a List.mem_cons_self,ih (fun y hy=>h y (List.mem_cons_of_mem _ hy))]
include hv in
theorem inr_eq{x:Nat}(hx:x<N):(∃s,c x = .inr s)↔∃s,c' x = .inr s:=by
 constructor
 ·rintro⟨s,hs⟩
  cases h:c' x with
  | inl v=>have:=(hv x v hx).2 h;rw[hs]at this;cases this
  | inr s'=>exact⟨s',rfl⟩
 ·rintro⟨s,hs⟩
  cases h:c x with
  | inl v=>have:=(hv x v hx).1 h;rw[hs]at this;cases this
  | inr s'=>exact⟨s',rfl⟩
include he hv in
theorem rank_eq{y:Nat}(hy:y≤N):bO c y=bO c' y:=by
 unfold bO;congr 1
 refine List.filter_congr fun z hz=>?_
 have hz:z<y:=by simpa using hz
 refine decide_eq_decide.2 ?_;rw[inr_eq hv (show z<N by omega),fp_eq he (show z<N by omega)]
include he hv in
theorem out_eq(u:Int→Bool){x:Nat}(hx:x<N):fw u c x=fw u c' x:=by
 unfold fw
 cases h:c x with
 | inl v=>rw[(hv x v hx).1 h]
 | inr s =>
  obtain⟨s',h'⟩:=(inr_eq hv hx).1 ⟨s,h⟩;rw[h'];have hf:=fp_eq he hx;have hfl:=fp_le c x;simp only;rw[←hf,rank_eq he hv (show fp c x≤N by omega)]
end
end
section
theorem cmpL_zero:∀(a b:List UInt8),Lib.compareBytes a b=0↔a=b
 | [],[]=>by simp[Lib.compareBytes]
 | [],_::_=>by simp[Lib.compareBytes]
 | _::_,[]=>by simp[Lib.compareBytes]
 | a::xs,b::bs=>by
  rw[Lib.compareBytes,List.cons.injEq];split
  ·rename_i h;constructor
   ·intro h2;cases h2
   ·rintro⟨rfl,_⟩;exact absurd h (UInt8.lt_irrefl _)
  ·split
   ·rename_i h;constructor
    ·intro h2;cases h2
    ·rintro⟨rfl,_⟩;exact absurd h (UInt8.lt_irrefl _)
   ·rename_i h1 h2;rw[cmpL_zero xs bs];constructor
    ·intro h;exact⟨UInt8.le_antisymm (UInt8.not_lt.1 h2) (UInt8.not_lt.1 h1),h⟩
    ·exact fun h=>h.2
theorem cmpS_zero(a b:ByteArray):nT a b=0↔a=b:=by
 unfold nT;rw[cmpL_zero];constructor
 ·intro h;cases a;cases b;simp only[ByteArray.mk.injEq];exact Array.ext' h
 ·rintro rfl;rfl
theorem dF(a b:Vl):fI a b=0↔a=b:=by
 unfold fI;have h1:=mZ a.k b.k;have h2:=mZ a.n b.n;have h3:=cmpS_zero a.s b.s
 have he:a=b↔a.k=b.k∧a.n=b.n∧a.s=b.s:=by cases a;cases b;simp
 rw[he];split
 ·rename_i g1;split
  ·rename_i g2;rw[h3];exact⟨fun h=>⟨h1.1 g1,h2.1 g2,h⟩,fun h=>h.2.2⟩
  ·rename_i g2;exact⟨fun h=>absurd h g2,fun h=>absurd (h2.2 h.2.1) g2⟩
 ·rename_i g1;exact⟨fun h=>absurd h g1,fun h=>absurd (h1.2 h.1) g1⟩
def cL(t:Tb)(i:Nat):Rw:=t.rows.getD i ⟨0,[]⟩
def bP(t:Tb)(x:Nat):Cr:=⟨(cL t (x / t.attrs.length)).id,((x % t.attrs.length:Nat):Int)⟩
def vAt(vs:List Vl)(a:Nat):Vl:=vs.getD a ⟨0,0,ByteArray.empty⟩
def bC(t:Tb)(x:Nat):Vl:=vAt (cL t (x / t.attrs.length)).vals (x % t.attrs.length)
theorem om{n i a:Nat}(h:a<n):(i*n+a) / n=i∧(i*n+a) % n=a:=by
 constructor
 ·rw[Nat.mul_comm,Nat.mul_add_div (by omega),Nat.div_eq_of_lt h];rfl
 ·rw[Nat.mul_comm,Nat.mul_add_mod,Nat.mod_eq_of_lt h]
theorem fS(t:Tb){i a:Nat}(ha:a<t.attrs.length):bP t (i*t.attrs.length+a)=⟨(cL t i).id,(a:Int)⟩:=by
 obtain⟨h1,h2⟩:=om (i:=i) ha;unfold bP;rw[h1,h2]
theorem dr(t:Tb){i a:Nat}(ha:a<t.attrs.length):bC t (i*t.attrs.length+a)=vAt (cL t i).vals a:=by
 obtain⟨h1,h2⟩:=om (i:=i) ha;unfold bC;rw[h1,h2]
theorem av{t:Tb}{i:Nat}(h:i<t.rows.length):cL t i=t.rows[i]:=by simp[cL,h]
theorem fC{vs:List Vl}{i:Nat}(h:i<vs.length):vAt vs i=vs[i]:=by simp[vAt,h]
open Classical in
noncomputable def aS(t:Tb)(fds:List Fd)(cells:List Cr):Prob:=⟨t.rows.length,t.attrs.length,fun x=>if bP t x∈cells then none else some (bC t x),fds⟩
theorem lT{t:Tb}{fds:List Fd}{l:List Cr}{x:Nat}(h:bP t x∈l):(aS t fds l).K x=none:=by simp only[aS,if_pos h]
theorem ef{t:Tb}{fds:List Fd}{l:List Cr}{x:Nat}(h:¬bP t x∈l):(aS t fds l).K x=some (bC t x):=by simp only[aS,if_neg h]
open Classical in
noncomputable def okB(q:Prob):Bool:=decide (Okq q)
theorem fQ{q:Prob} : okB q=true↔Okq q:=by unfold okB;simp
theorem pX{q:Prob}(h:Okq q):okB q=true:=fQ.2 h
theorem mz{q:Prob}(h:¬Okq q):okB q=false:=by
 cases hb:okB q
 ·rfl
 ·exact absurd (fQ.1 hb) h
theorem okq_mono{t:Tb}{fds:List Fd}{l l':List Cr}(h:∀c∈l,c∈l'):Okq (aS t fds l)→Okq (aS t fds l'):=by
 rintro⟨σ,hs⟩;refine⟨σ,fun x v hx hk=>hs.fix x v hx ?_,hs.dep⟩;unfold aS at hk ⊢;simp only at hk ⊢;by_cases h1:bP t x∈l'
 ·rw[if_pos h1]at hk;cases hk
 ·rw[if_neg h1]at hk;rw[if_neg (fun h2=>h1 (h _ h2))];exact hk
theorem okq_congr{t:Tb}{fds:List Fd}{l l':List Cr}(h:∀x,x<t.rows.length*t.attrs.length→(bP t x∈l↔bP t x∈l')):Okq (aS t fds l)↔Okq (aS t fds l'):=by
 have one:∀l l':List Cr,(∀x,x<t.rows.length*t.attrs.length→(bP t x∈l↔bP t x∈l'))→Okq (aS t fds l)→Okq (aS t fds l'):=by
  rintro l l' h ⟨σ,hs⟩;refine⟨σ,fun x v hx hk=>hs.fix x v hx ?_,hs.dep⟩;unfold aS at hk ⊢;simp only at hk ⊢;rw[←hk];by_cases h1:bP t x∈l
  ·rw[if_pos h1,if_pos ((h x hx).1 h1)]
  ·rw[if_neg h1,if_neg (fun h2=>h1 ((h x hx).2 h2))]
 exact⟨one l l' h,one l' l fun x hx=>(h x hx).symm⟩
def ak(t:Tb):List Cr:=(List.range (t.rows.length*t.attrs.length)).map (bP t)
open Classical in
noncomputable def bg(t:Tb)(l:List Cr):List Cr:=(ak t).filter fun c=>decide (c∉l)
theorem iq{t:Tb}{x:Nat}(h:x<t.rows.length*t.attrs.length):bP t x∈ak t:=List.mem_map.2 ⟨x,by simpa using h,rfl⟩
theorem cU{t:Tb}{l:List Cr}{c:Cr} : c∈bg t l↔c∈ak t∧c∉l:=by simp[bg]
def Nec(t:Tb)(fds:List Fd)(l:List Cr):Prop:=¬Okq (aS t fds (bg t l))
open Classical in
noncomputable def lX(t:Tb)(fds:List Fd)(l:List Cr):Bool:=decide (Nec t fds l)
theorem cN{t:Tb}{fds:List Fd}{l:List Cr} : lX t fds l=true↔Nec t fds l:=by unfold lX;simp
theorem necB_eq(t:Tb)(fds:List Fd)(l:List Cr):lX t fds l = !okB (aS t fds (bg t l)):=by
 unfold lX Nec okB;simp
theorem nec_mono{t:Tb}{fds:List Fd}{l l':List Cr}(h:∀c∈l,c∈l')(hn:Nec t fds l):Nec t fds l':=fun ho=>hn (okq_mono (fun c hc=>by
 rw[cU]at hc ⊢
 exact⟨hc.1,fun h2=>hc.2 (h c h2)⟩) ho)
structure TbV (t:Tb):Prop where
 ok:TbOk t
 attrs:t.attrs.length≤16
 rows:t.rows.length≤1000
 names:gp t.attrs=true
 name:bt t.name=true
 len:∀r∈t.rows,r.vals.length=t.attrs.length
 vals:∀r∈t.rows,∀v∈r.vals,bV v=true
 asc:t.rows.Pairwise fun a b=>a.id<b.id
theorem ij{n:Nat} : ∀{rs:List Rw} {last:Int},dt n last rs=0→(∀r∈rs,last<r.id)∧(∀r∈rs,r.vals.length=n)∧(∀r∈rs,∀v∈r.vals,bV v=true)∧rs.Pairwise fun a b=>a.id<b.id
 | [],_,_=>by simp
 | r::rs,last,h=>by
  rw[dt]at h;split at h
  ·cases h
  ·rename_i h1;split at h
   ·cases h
   ·rename_i h2;split at h
    ·rename_i h3;obtain⟨a,b,c,d⟩:=ij h;refine⟨?_,?_,?_,?_⟩
     ·intro r' hr
      rcases List.mem_cons.1 hr with rfl | hr
      ·omega
      ·have:=a r' hr;omega
     ·intro r' hr
      rcases List.mem_cons.1 hr with rfl | hr
      ·omega
      ·exact b r' hr
     ·intro r' hr
      rcases List.mem_cons.1 hr with rfl | hr
      ·exact fun v hv=>(List.all_eq_true.1 h3) v hv
      ·exact c r' hr
     ·exact List.pairwise_cons.2 ⟨a,d⟩
    ·cases h
theorem jS{t:Tb}(h:TbOk t)(hv:validT t=0):TbV t:=by
 unfold validT at hv;split at hv
 ·rename_i h1;split at hv
  ·cases hv
  ·rename_i h2;split at hv
   ·rename_i h3;obtain⟨a,b,c,d⟩:=ij hv;exact⟨h,by omega,by omega,h3,h1,b,c,d⟩
   ·cases hv
 ·cases hv
theorem TbV.ids{t:Tb}(h:TbV t){i k:Nat}(hik:i<k)(hk:k<t.rows.length):(cL t i).id<(cL t k).id:=by
 rw[av hk,av (show i<t.rows.length by omega)];exact List.pairwise_iff_getElem.1 h.asc i k (by omega) hk hik
theorem TbV.cells_lt{t:Tb}(h:TbV t){x y:Nat}(hxy:x<y)(hy:y<t.rows.length*t.attrs.length):cLt (bP t x) (bP t y):=by
 have hn:0<t.attrs.length:=by
  rcases Nat.eq_zero_or_pos t.attrs.length with h0 | h0
  ·rw[h0]at hy;omega
  ·exact h0
 have e1:=Nat.div_add_mod x t.attrs.length;have e2:=Nat.div_add_mod y t.attrs.length;have l1:=Nat.mod_lt x hn;have l2:=Nat.mod_lt y hn;have hd:x / t.attrs.length≤y / t.attrs.length:=Nat.div_le_div_right (by omega)
 have hm:y / t.attrs.length<t.rows.length:=by rw[Nat.div_lt_iff_lt_mul hn];exact hy
 rcases Nat.lt_or_ge (x / t.attrs.length) (y / t.attrs.length) with h1 | h1
 ·exact .inl (h.ids h1 hm)
 ·have:x / t.attrs.length=y / t.attrs.length:=by omega
  unfold cLt bP;refine .inr ⟨by rw[this],?_⟩;simp only;rw[this]at e1;omega
theorem TbV.crAt_inj{t:Tb}(h:TbV t){x y:Nat}(hx:x<t.rows.length*t.attrs.length)(hy:y<t.rows.length*t.attrs.length)(he:bP t x=bP t y):x=y:=by
 rcases Nat.lt_trichotomy x y with h1 | h1 | h1
 ·exact absurd (he▸h.cells_lt h1 hy) (ez _)
 ·exact h1
 ·exact absurd (he▸h.cells_lt h1 hx) (ez _)
theorem TbV.sorted{t:Tb}(h:TbV t):aY (ak t):=by
 unfold ak aY;rw[List.pairwise_map,List.pairwise_iff_getElem];intro i j hi hj hij;simp only[List.length_range]at hi hj;rw[List.getElem_range,List.getElem_range];exact h.cells_lt hij hj
theorem TbV.sorted_others{t:Tb}(h:TbV t)(l:List Cr):aY (bg t l):=List.Pairwise.filter _ h.sorted
end
section
def encN(n:Nat):V:=.int .i64 (n:Int)
@[simp] theorem encN_pure (n:Nat):AM.Pure (encN n):=by simp[encN]
@[simp] theorem encN_oneV (n:Nat):dm (encN n)=true:=rfl
def fR:Option Vl→V
 | none=>.nilP
 | some v=>.pin [.int .i64 v.k,.int .i64 v.n,.str v.s] 0
@[simp] theorem encK_pure (o:Option Vl):AM.Pure (fR o):=by cases o<;>simp[fR]
@[simp] theorem encK_oneV (o:Option Vl):dm (fR o)=true:=by cases o<;>rfl
def knL(K:Nat→Option Vl)(N:Nat):List V:=(List.range N).map fun x=>fR (K x)
def paL(P:List Nat):List V:=P.map encN
theorem lg(K:Nat→Option Vl)(N:Nat):(knL K N).length=N:=by simp[knL]
theorem paL_len(P:List Nat):(paL P).length=P.length:=by simp[paL]
theorem lh(K:Nat→Option Vl){N x:Nat}(h:x<(knL K N).length):(knL K N)[x]=fR (K x):=by simp[knL]
theorem paL_get{P:List Nat}{x:Nat}(h:x<(paL P).length):(paL P)[x] = .int .i64 (P.getD x 0:Nat):=by
 have h2:x<P.length:=by simpa[paL] using h
 simp[paL,encN,h2]
theorem paL_set(P:List Nat)(x v:Nat):(paL P).set x (.int .i64 (v:Int))=paL (P.set x v):=by
 unfold paL;rw[List.map_set];rfl
theorem paL_pure(P:List Nat):∀x∈paL P,AM.Pure x∧dm x=true:=by
 intro x hx;obtain⟨n,_,rfl⟩:=List.mem_map.1 hx;exact⟨encN_pure n,encN_oneV n⟩
theorem knL_pure(K:Nat→Option Vl)(N:Nat):∀x∈knL K N,AM.Pure x∧dm x=true:=by
 intro x hx;obtain⟨n,_,rfl⟩:=List.mem_map.1 hx;exact⟨encK_pure _,encK_oneV _⟩
def Ht(H:List B)(kp:Nat)(P:List Nat):List B:=H.set kp (.buf 3 1 (paL P) false)
structure HOk (H:List B) (k0 kp kq n N:Nat) (K:Nat→Option Vl):Prop where
 h0:H[k0]?=some (.cells [.int .i64 n,.buf kp 0 N N,.buf kq 0 N N])
 hp:kp<H.length
 hq:H[kq]?=some (.buf 113 1 (knL K N) false)
 n0:kp≠k0
 nq:kp≠kq
 rb:∀P,∀bl∈Ht H kp P,rbB H.length bl
theorem gu(H:List B)(kp:Nat)(P:List Nat):(Ht H kp P).length=H.length:=by simp[Ht]
section
variable {H:List B} {k0 kp kq n N:Nat} {K:Nat→Option Vl} (g:HOk H k0 kp kq n N K)
include g
theorem HOk.at0(P:List Nat):(Ht H kp P)[k0]?=some (.cells [.int .i64 n,.buf kp 0 N N,.buf kq 0 N N]):=by
 unfold Ht;rw[List.getElem?_set_ne g.n0];exact g.h0
theorem HOk.atp(P:List Nat):(Ht H kp P)[kp]?=some (.buf 3 1 (paL P) false):=by
 unfold Ht;rw[List.getElem?_set_self g.hp]
theorem HOk.atq(P:List Nat):(Ht H kp P)[kq]?=some (.buf 113 1 (knL K N) false):=by
 unfold Ht;rw[List.getElem?_set_ne g.nq];exact g.hq
omit g in
theorem ht_set(P P':List Nat):(Ht H kp P).set kp (.buf 3 1 (paL P') false)=Ht H kp P':=by
 unfold Ht;rw[List.set_set]
theorem HOk.rbs(P:List Nat):∀bl∈Ht H kp P,rbB (Ht H kp P).length bl:=by rw[gu];exact g.rb P
theorem HOk.lt0:k0<H.length:=aE g.h0
end
theorem pK{q:Prob}{P:List Nat}{r h:Nat→Nat}(f:Frt q P r h){H:List B}{k0 kp kq n N:Nat}(hNe:q.m*q.n=N)(g:HOk H k0 kp kq n N q.K)(hN:N≤1000000)(x:Nat)(hx:x<N):
  bA Tryz.prog 54 [.ptr k0 0,.int .i64 x] (Ht H kp P) fun r' H'=>r' = .int .i64 (r x)∧H'=Ht H kp P:=by
 have h0:=g.at0 P;have h1:=g.atp P;have hrb:=g.rbs P
 have hl0:k0<(Ht H kp P).length:=by rw[gu];exact g.lt0
 obtain⟨flen,flt,froot,fself,fstep,fknown,fsem⟩:=f;simp only[hNe]at flen flt froot fself fstep
 have hpl:(paL P).length=N:=by rw[paL_len,flen]
 refine aD tok Tryz.func54 rfl rfl ?_;refine wx ?_;simp -implicitDefEqProofs -dsimp[Tryz.f54,List.replicate];refine aK (W_loopM 21 [1,5,6,7,8,9,10,11,12,13,14,15,16,17,18,19,20] (by simp[mB]<;>rfl) (σ:=Nat) (fun j=>j<N∧r j=r x) (fun j=>h j) (fun j=>[(1,.int .i64 j)]) (fun _=>Ht H kp P) x ⟨hx,rfl⟩ (by simp) rfl (by simp) ?_);rintro j ⟨hj,hx2⟩ N2 Q hN2 hQ
 have hat:=fun h=>paL_get (P:=P) (x:=j) h
 by_cases he:P.getD j 0=j
 ·have hs:=fself j hj he;rw[he]at hat;refine wx ?_;simp -implicitDefEqProofs -dsimp[h0,h1,hat,hpl,hj];refine hQ _ _ _ ?_;simp -implicitDefEqProofs -dsimp[];omega
 ·obtain⟨s1,s2,s3⟩:=fstep j hj he;obtain⟨p,hp⟩:∃p,p=P.getD j 0:=⟨_,rfl⟩;rw[←hp]at hat he s1 s2 s3;refine wx ?_;simp -implicitDefEqProofs -dsimp[h0,h1,hat,hpl,hj,show ¬((p:Int)=j) by omega];refine hN2 p _ _ ⟨s1,by rw[s2];exact hx2⟩ s3 (by simp) ⟨[],by simp⟩ (by simp[hl0]) hrb
end
section
open Classical in
noncomputable def eqvB(q:Prob)(r:Nat→Nat)(x y:Nat):Bool:=decide (eqv q r x y)
theorem ji{q:Prob}{r:Nat→Nat}{x y:Nat} : eqvB q r x y=true↔eqv q r x y:=by unfold eqvB;simp
theorem eqvB_same{q:Prob}{r:Nat→Nat}{x y:Nat}(h:r x=r y):eqvB q r x y=true:=ji.2 (.inl h)
theorem eqvB_vals{q:Prob}{r:Nat→Nat}{x y:Nat}{v w:Vl}(h:q.K (r x)=some v)(g:q.K (r y)=some w):eqvB q r x y=(fI v w == 0):=by
 rw[Bool.eq_iff_iff,ji,beq_iff_eq,dF];constructor
 ·rintro(e | ⟨u,h1,h2⟩)
  ·rw[e,g]at h;exact(Option.some.inj h).symm
  ·rw[h]at h1;rw[g]at h2;exact(Option.some.inj h1).trans (Option.some.inj h2).symm
 ·rintro rfl;exact .inr ⟨v,h,g⟩
theorem eqvB_none{q:Prob}{r:Nat→Nat}{x y:Nat}(hne:r x≠r y)(h:q.K (r x)=none∨q.K (r y)=none):eqvB q r x y=false:=by
 cases hb:eqvB q r x y
 ·rfl
 ·rcases ji.1 hb with e | ⟨u,h1,h2⟩
  ·exact absurd e hne
  ·rcases h with h | h
   ·rw[h]at h1;cases h1
   ·rw[h]at h2;cases h2
theorem same_u{q:Prob}{P:List Nat}{r h:Nat→Nat}(f:Frt q P r h){H:List B}{k0 kp kq n N:Nat}(hNe:q.m*q.n=N)(g:HOk H k0 kp kq n N q.K)(hN:N≤1000000)(x y:Nat)(hx:x<N)(hy:y<N):
  bA Tryz.prog 133 [.ptr k0 0,.int .i64 x,.int .i64 y] (Ht H kp P) fun r' H'=>r' = .bool (eqvB q r x y)∧H'=Ht H kp P:=by
 have h0:=g.at0 P;have h2:=g.atq P;have hkl:=lg q.K N;have c1:=pK f hNe g hN x hx;have c2:=pK f hNe g hN y hy;have lx:r x<N:=hNe▸f.lt x (hNe▸hx);have ly:r y<N:=hNe▸f.lt y (hNe▸hy)
 have ax:=fun h=>lh q.K (N:=N) (x:=r x) h
 have ay:=fun h=>lh q.K (N:=N) (x:=r y) h
 by_cases he:r x=r y
 ·rw[eqvB_same he];refine aD tok Tryz.func133 rfl rfl ?_;refine wx ?_;simp -implicitDefEqProofs -dsimp[Tryz.f133,List.replicate];refine aT.mono (K:=fun r' H'=>r' = .int .i64 (r x)∧H'=Ht H kp P) c1 ?_;rintro _ _ ⟨rfl,rfl⟩;simp -implicitDefEqProofs -dsimp[];refine aT.mono (K:=fun r' H'=>r' = .int .i64 (r y)∧H'=Ht H kp P) c2 ?_;rintro _ _ ⟨rfl,rfl⟩;simp -implicitDefEqProofs -dsimp[he];exact .inr (aI (by kernel_rfl))
 ·have hne:¬((r x:Int)=r y):=by omega
  cases hk1:q.K (r x) with
  | none =>
   rw[hk1]at ax;rw[eqvB_none he (.inl hk1)];refine aD tok Tryz.func133 rfl rfl ?_;refine wx ?_;simp -implicitDefEqProofs -dsimp[Tryz.f133,List.replicate];refine aT.mono (K:=fun r' H'=>r' = .int .i64 (r x)∧H'=Ht H kp P) c1 ?_;rintro _ _ ⟨rfl,rfl⟩;simp -implicitDefEqProofs -dsimp[];refine aT.mono (K:=fun r' H'=>r' = .int .i64 (r y)∧H'=Ht H kp P) c2 ?_;rintro _ _ ⟨rfl,rfl⟩;simp -implicitDefEqProofs -dsimp[hne,h0,h2,ax,hkl,lx,fR,gT];exact .inr (aI (by kernel_rfl))
  | some v =>
   rw[hk1]at ax
   cases hk2:q.K (r y) with
   | none =>
    rw[hk2]at ay;rw[eqvB_none he (.inr hk2)];refine aD tok Tryz.func133 rfl rfl ?_;refine wx ?_;simp -implicitDefEqProofs -dsimp[Tryz.f133,List.replicate];refine aT.mono (K:=fun r' H'=>r' = .int .i64 (r x)∧H'=Ht H kp P) c1 ?_;rintro _ _ ⟨rfl,rfl⟩;simp -implicitDefEqProofs -dsimp[];refine aT.mono (K:=fun r' H'=>r' = .int .i64 (r y)∧H'=Ht H kp P) c2 ?_;rintro _ _ ⟨rfl,rfl⟩;simp -implicitDefEqProofs -dsimp[hne,h0,h2,ax,ay,hkl,lx,ly,fR,gT];exact .inr (aI (by kernel_rfl))
   | some w =>
    rw[hk2]at ay;rw[eqvB_vals hk1 hk2];have c3:=ia v w;simp only[ap]at c3;refine aD tok Tryz.func133 rfl rfl ?_;refine wx ?_;simp -implicitDefEqProofs -dsimp[Tryz.f133,List.replicate];refine aT.mono (K:=fun r' H'=>r' = .int .i64 (r x)∧H'=Ht H kp P) c1 ?_;rintro _ _ ⟨rfl,rfl⟩;simp -implicitDefEqProofs -dsimp[];refine aT.mono (K:=fun r' H'=>r' = .int .i64 (r y)∧H'=Ht H kp P) c2 ?_;rintro _ _ ⟨rfl,rfl⟩;simp -implicitDefEqProofs -dsimp[hne,h0,h2,ax,ay,hkl,lx,ly,fR,gT];refine .inr ⟨aI (by kernel_rfl),?_⟩;refine ae _ (aF (c3) (by simp)) ?_;simp -implicitDefEqProofs -dsimp[hne]
end
def qe(q:Prob)(P:List Nat)(r:Nat→Nat)(x y:Nat)(b:Bool)(P':List Nat):Prop :=
 (b=false∧¬Okq q)∨(b=true∧eqv q r x y∧P'=P)∨(b=true∧mX P'<mX P∧∃r' h',Frt q P' r' h')
theorem join_vals{q:Prob}{P:List Nat}{r h:Nat→Nat}(f:Frt q P r h){x y:Nat}(hx:x<q.m*q.n)(hy:y<q.m*q.n)(hs:∀σ,Sol q σ→σ x=σ y){v w:Vl}(h1:q.K (r x)=some v)(h2:q.K (r y)=some w):qe q P r x y (fI v w == 0) P:=by
 by_cases he:v=w
 ·refine .inr (.inl ⟨by rw[beq_iff_eq,dF];exact he,?_,rfl⟩);subst he;exact .inr ⟨v,h1,h2⟩
 ·refine .inl ⟨by rw[beq_eq_false_iff_ne];exact fun h=>he ((dF v w).1 h),?_⟩;rintro⟨σ,hσ⟩;have e:=hs σ hσ;rw[f.sem σ hσ x hx,f.sem σ hσ y hy,hσ.fix _ v (f.lt x hx) h1,hσ.fix _ w (f.lt y hy) h2]at e;exact he (Sum.inl.inj e)
theorem join_set{q:Prob}{P:List Nat}{r h:Nat→Nat}(f:Frt q P r h){x y i k:Nat}(hx:x<q.m*q.n)(hy:y<q.m*q.n)(hs:∀σ,Sol q σ→σ x=σ y)(hik:(i=r x∧k=r y)∨(i=r y∧k=r x))(hK:q.K k=none):qe q P r x y true (P.set k i):=by
 have hi:i<q.m*q.n:=by rcases hik with⟨rfl,_⟩ | ⟨rfl,_⟩;exact f.lt x hx;exact f.lt y hy
 have hk:k<q.m*q.n:=by rcases hik with⟨_,rfl⟩ | ⟨_,rfl⟩;exact f.lt y hy;exact f.lt x hx
 have rr:∀z,z<q.m*q.n→r (r z)=r z:=fun z hz=>f.self (r z) (f.lt z hz) (f.root z hz)
 have hri:r i=i:=by rcases hik with⟨rfl,_⟩ | ⟨rfl,_⟩;exact rr x hx;exact rr y hy
 have hrk:r k=k:=by rcases hik with⟨_,rfl⟩ | ⟨_,rfl⟩;exact rr y hy;exact rr x hx
 have hpk:P.getD k 0=k:=by have:=f.root k hk;rwa [hrk]at this
 have hkl:k<P.length:=by rw[f.len];exact hk
 by_cases he:i=k
 ·refine .inr (.inl ⟨rfl,?_,?_⟩)
  ·rcases hik with⟨h1,h2⟩ | ⟨h1,h2⟩
   ·exact .inl (by omega)
   ·exact .inl (by omega)
  ·subst he
   have:P[i]=i:=by simpa[hkl] using hpk
   conv=>rhs;rw[←List.set_getElem_self hkl]
   rw[this]
 ·refine .inr (.inr ⟨rfl,cntR_join hkl hpk he,_,_,f.join hi hk hri hrk he hK fun σ hσ=>?_⟩);have e:=hs σ hσ;rw[f.sem σ hσ x hx,f.sem σ hσ y hy]at e
  rcases hik with⟨rfl,rfl⟩ | ⟨rfl,rfl⟩
  ·exact e
  ·exact e.symm
def pl(q:Prob)(r:Nat→Nat)(x y:Nat):Bool:=match q.K (r x),q.K (r y) with
 | some v,some w=>fI v w == 0
 | _,_=>true
def nk(q:Prob)(P:List Nat)(r:Nat→Nat)(x y:Nat):List Nat:=match q.K (r x),q.K (r y) with
 | some _,some _=>P
 | some _,none=>P.set (r y) (r x)
 | none,_=>P.set (r x) (r y)
theorem join_post{q:Prob}{P:List Nat}{r h:Nat→Nat}(f:Frt q P r h){x y:Nat}(hx:x<q.m*q.n)(hy:y<q.m*q.n)(hs:∀σ,Sol q σ→σ x=σ y):qe q P r x y (pl q r x y) (nk q P r x y):=by
 unfold pl nk
 cases hk1:q.K (r x) with
 | none=>exact join_set f hx hy hs (.inr ⟨rfl,rfl⟩) hk1
 | some v =>
  cases hk2:q.K (r y) with
  | none=>exact join_set f hx hy hs (.inl ⟨rfl,rfl⟩) hk2
  | some w=>exact join_vals f hx hy hs hk1 hk2
theorem join_u{q:Prob}{P:List Nat}{r h:Nat→Nat}(f:Frt q P r h){H:List B}{k0 kp kq n N:Nat}(hNe:q.m*q.n=N)(g:HOk H k0 kp kq n N q.K)(hN:N≤1000000)(x y:Nat)(hx:x<N)(hy:y<N):
  bA Tryz.prog 95 [.ptr k0 0,.int .i64 x,.int .i64 y] (Ht H kp P) fun r' H'=>r' = .bool (pl q r x y)∧H'=Ht H kp (nk q P r x y):=by
 have h0:=g.at0 P;have h1:=g.atp P;have h2:=g.atq P;have hset:=ht_set (H:=H) (kp:=kp) P;have hkl:=lg q.K N;have c1:=pK f hNe g hN x hx;have c2:=pK f hNe g hN y hy;have lx:r x<N:=hNe▸f.lt x (hNe▸hx);have ly:r y<N:=hNe▸f.lt y (hNe▸hy)
 have ax:=fun h=>lh q.K (N:=N) (x:=r x) h
 have ay:=fun h=>lh q.K (N:=N) (x:=r y) h
 have hpl:(paL P).length=N:=by rw[paL_len,f.len,hNe]
 have bx:=fun h=>paL_get (P:=P) (x:=r x) h
 have bY:=fun h=>paL_get (P:=P) (x:=r y) h
 have sx:=paL_set P (r x) (r y);have sy:=paL_set P (r y) (r x);unfold pl nk
 cases hk1:q.K (r x) with
 | none =>
  rw[hk1]at ax;refine aD tok Tryz.func95 rfl rfl ?_;refine wx ?_;simp -implicitDefEqProofs -dsimp[Tryz.f95,List.replicate];refine aT.mono (K:=fun r' H'=>r' = .int .i64 (r x)∧H'=Ht H kp P) c1 ?_;rintro _ _ ⟨rfl,rfl⟩;simp -implicitDefEqProofs -dsimp[];refine aT.mono (K:=fun r' H'=>r' = .int .i64 (r y)∧H'=Ht H kp P) c2 ?_;rintro _ _ ⟨rfl,rfl⟩;simp -implicitDefEqProofs -dsimp[h0,h2,ax,hkl,lx,fR,gT,h1,hpl,bx,sx,hset]
 | some v =>
  rw[hk1]at ax
  cases hk2:q.K (r y) with
  | none =>
   rw[hk2]at ay;refine aD tok Tryz.func95 rfl rfl ?_;refine wx ?_;simp -implicitDefEqProofs -dsimp[Tryz.f95,List.replicate];refine aT.mono (K:=fun r' H'=>r' = .int .i64 (r x)∧H'=Ht H kp P) c1 ?_;rintro _ _ ⟨rfl,rfl⟩;simp -implicitDefEqProofs -dsimp[];refine aT.mono (K:=fun r' H'=>r' = .int .i64 (r y)∧H'=Ht H kp P) c2 ?_;rintro _ _ ⟨rfl,rfl⟩;simp -implicitDefEqProofs -dsimp[h0,h2,ax,ay,hkl,lx,ly,fR,gT,h1,hpl,bY,sy,hset]
  | some w =>
   rw[hk2]at ay;have c3:=ia v w;simp only[ap]at c3;refine aD tok Tryz.func95 rfl rfl ?_;refine wx ?_;simp -implicitDefEqProofs -dsimp[Tryz.f95,List.replicate];refine aT.mono (K:=fun r' H'=>r' = .int .i64 (r x)∧H'=Ht H kp P) c1 ?_;rintro _ _ ⟨rfl,rfl⟩;simp -implicitDefEqProofs -dsimp[];refine aT.mono (K:=fun r' H'=>r' = .int .i64 (r y)∧H'=Ht H kp P) c2 ?_;rintro _ _ ⟨rfl,rfl⟩;simp -implicitDefEqProofs -dsimp[h0,h2,ax,ay,hkl,lx,ly,fR,gT];refine .inr ⟨aI (by kernel_rfl),?_⟩;refine ae _ (aF (c3) (by simp)) ?_;simp -implicitDefEqProofs -dsimp[]
section
def AgrE(q:Prob)(r:Nat→Nat)(i k:Nat)(s:Int)(n:Nat):Prop:=∀a,a<n→fF s a=true→eqv q r (i*q.n+a) (k*q.n+a)
open Classical in
noncomputable def agB(q:Prob)(r:Nat→Nat)(i k:Nat)(s:Int):Bool:=decide (AgrE q r i k s q.n)
theorem kT{q:Prob}{r:Nat→Nat}{i k:Nat}{s:Int} : agB q r i k s=true↔AgrE q r i k s q.n:=by unfold agB;simp
theorem agB_no{q:Prob}{r:Nat→Nat}{i k:Nat}{s:Int}{a:Nat}(ha:a<q.n)(hb:fF s a=true)(he:eqvB q r (i*q.n+a) (k*q.n+a)=false):agB q r i k s=false:=by
 cases hc:agB q r i k s
 ·rfl
 ·have:=ji.2 (kT.1 hc a ha hb);rw[he]at this;cases this
theorem dT(s:Int)(a:Nat):(IntKind.u32.wrap ↑((s.fdiv (2^min a IntKind.u32.bits) % 2^IntKind.u32.bits).toNat &&& 1 % 2^IntKind.u32.bits)== 1)=fF s a:=rfl
theorem ptrRb{H:List B}{k0 kp kq n N:Nat}{K:Nat→Option Vl}(g:HOk H k0 kp kq n N K)(P:List Nat):k0<(Ht H kp P).length:=by rw[gu];exact g.lt0
theorem agree_u{q:Prob}{P:List Nat}{r h:Nat→Nat}(f:Frt q P r h){H:List B}{k0 kp kq n N:Nat}(hNe:q.m*q.n=N)(hn:q.n=n)(g:HOk H k0 kp kq n N q.K)(hN:N≤1000000)(i k:Nat)(s:Int)(hi:i<q.m)(hk:k<q.m)(hn2:n≤16):
  bA Tryz.prog 94 [.ptr k0 0,.int .i64 i,.int .i64 k,.int .u32 s] (Ht H kp P) fun r' H'=>r' = .bool (agB q r i k s)∧H'=Ht H kp P:=by
 obtain⟨E,hE⟩:∃E,E=agB q r i k s:=⟨_,rfl⟩;rw[←hE];have h0:=g.at0 P;have hrb:=g.rbs P;have hl0:=ptrRb g P;refine aD tok Tryz.func94 rfl rfl ?_;refine wx ?_;simp -implicitDefEqProofs -dsimp[Tryz.f94,List.replicate,h0];refine aK (W_loopM 44 [8,9,14,15,16,17,18,19,20,21,22,23,24,25,26,27,28,29,30,31,32,33,34,35,36,37,38,39,40,41,42,43] (by simp[mB]<;>rfl) (σ:=Nat) (fun a=>a≤n∧AgrE q r i k s a) (fun a=>n-a) (fun a=>[(14,.int .i64 a)]) (fun _=>Ht H kp P) 0 ⟨by omega,fun a ha=>by omega⟩ (by simp) rfl (by simp) ?_);rintro a ⟨ha,hx⟩ N2 Q hN2 hQ;by_cases hb:a<n
 ·have li:=aq hi (hn▸hb);have lk:=aq hk (hn▸hb);have ci:=same_u f hNe g hN (i*q.n+a) (k*q.n+a) (hNe▸li) (hNe▸lk);have hx2:AgrE q r i k s a:=hx;cases hh:fF s a
  ·refine wx ?_;simp -implicitDefEqProofs -dsimp[h0,hb,dT,hh,show(a:Int)<32 by omega];refine .inr ⟨aI (by kernel_rfl),?_⟩;simp -implicitDefEqProofs -dsimp[aJ a (by omega)];refine hN2 (a+1) _ _ ⟨by omega,fun b hb1 hb2=>?_⟩ (by omega) (by simp) ⟨[],by simp⟩ (by simp[hl0]) hrb
   rcases Nat.lt_or_ge b a with h1 | h1
   ·exact hx b h1 hb2
   ·have:b=a:=by omega
    subst this;rw[hh]at hb2;cases hb2
  ·rw[hn]at li lk ci
   have hNe2:q.m*n=N:=by rw[←hn];exact hNe
   rw[hNe2]at li lk
   have w1:IntKind.i64.wrap ((i:Int)*n)=((i*n:Nat):Int):=by rw[wrap64 (by omega) (by omega)];push_cast;rfl
   have w2:IntKind.i64.wrap ((k:Int)*n)=((k*n:Nat):Int):=by rw[wrap64 (by omega) (by omega)];push_cast;rfl
   have w3:IntKind.i64.wrap (((i*n:Nat):Int)+(a:Int))=((i*n+a:Nat):Int):=by rw[wrap64 (by omega) (by omega)];push_cast;rfl
   have w4:IntKind.i64.wrap (((k*n:Nat):Int)+(a:Int))=((k*n+a:Nat):Int):=by rw[wrap64 (by omega) (by omega)];push_cast;rfl
   have e1:i*q.n+a=i*n+a:=by rw[hn]
   have e2:k*q.n+a=k*n+a:=by rw[hn]
   obtain⟨xi,hxi⟩:∃xi,xi=i*n+a:=⟨_,rfl⟩;obtain⟨xk,hxk⟩:∃xk,xk=k*n+a:=⟨_,rfl⟩;obtain⟨yi,hyi⟩:∃yi,yi=i*n:=⟨_,rfl⟩;obtain⟨yk,hyk⟩:∃yk,yk=k*n:=⟨_,rfl⟩;rw[←hxi]at w3 e1 ci;rw[←hxk]at w4 e2 ci;rw[←hyi]at w1 w3;rw[←hyk]at w2 w4;cases he:eqvB q r xi xk
   ·rw[he]at ci;have hno:=agB_no (k:=k) (i:=i) (hn▸hb) hh (by rw[e1,e2];exact he);rw[hno]at hE;refine wx ?_;simp -implicitDefEqProofs -dsimp[h0,hb,dT,hh,show(a:Int)<32 by omega,w1,w2,w3,w4];refine .inr ⟨aI (by kernel_rfl),?_⟩;refine ae _ ci ?_;simp -implicitDefEqProofs -dsimp[hh];refine hQ _ _ _ ?_;simp -implicitDefEqProofs -dsimp[];exact hE
   ·rw[he]at ci;refine wx ?_;simp -implicitDefEqProofs -dsimp[h0,hb,dT,hh,show(a:Int)<32 by omega,w1,w2,w3,w4];refine .inr ⟨aI (by kernel_rfl),?_⟩;refine ae _ ci ?_;simp -implicitDefEqProofs -dsimp[hh,aJ a (by omega)];refine hN2 (a+1) _ _ ⟨by omega,fun b hb1 hb2=>?_⟩ (by omega) (by simp) ⟨[],by simp⟩ (by simp[hl0]) hrb
    rcases Nat.lt_or_ge b a with h1 | h1
    ·exact hx b h1 hb2
    ·have:b=a:=by omega
     subst this;rw[e1,e2];exact ji.1 he
 ·have hyes:agB q r i k s=true:=kT.2 fun b hb1 hb2=>hx b (by omega) hb2
  rw[hyes]at hE;refine wx ?_;simp -implicitDefEqProofs -dsimp[hb];refine hQ _ _ _ ?_;simp -implicitDefEqProofs -dsimp[];exact hE
end
section
def bU(fds:List Fd):Prop:=fds.length≤1000000∧∀d∈fds,d.l<4294967296∧d.r<4294967296
def ClsP(q:Prob)(r:Nat→Nat)(d:Fd)(i k:Nat):Prop:=AgrE q r i k d.l q.n→AgrE q r i k d.r q.n
def ClsD(q:Prob)(r:Nat→Nat)(d:Fd)(m:Nat):Prop:=∀i k,i<m→k<i→ClsP q r d i k
theorem qa{q:Prob}{r:Nat→Nat}{i k s:Nat}(hs:s<4294967296)(hn:q.n≤16):AgrE q r i k s q.n↔∀a,a<q.n→s.testBit a=true→eqv q r (i*q.n+a) (k*q.n+a):=by
 unfold AgrE;constructor
 ·intro h a ha hb;exact h a ha (by rw[eM s a hs (by omega)];exact hb)
 ·intro h a ha hb;exact h a ha (by rw[eM s a hs (by omega)]at hb;exact hb)
theorem closed_of{q:Prob}{r:Nat→Nat}(hn:q.n≤16)(hd:∀d∈q.fds,d.l<4294967296∧d.r<4294967296)(h:∀d∈q.fds,ClsD q r d q.m):eT q r:=fun d hd1 i k hi hk hl =>
 (qa (hd d hd1).2 hn).1 (h d hd1 i k hi hk ((qa (hd d hd1).1 hn).2 hl))
theorem must{q:Prob}{P:List Nat}{r h:Nat→Nat}(f:Frt q P r h)(hn:q.n≤16){d:Fd}(hd:d∈q.fds)(hb:d.l<4294967296∧d.r<4294967296){i k a:Nat}(hi:i<q.m)(hk:k<i)(hl:AgrE q r i k d.l q.n)(ha:a<q.n)(hr:fF d.r a=true):
  ∀σ,Sol q σ→σ (i*q.n+a)=σ (k*q.n+a):=fun σ hσ=>by
 refine hσ.dep d hd i k hi hk (fun b hb1 hb2=>?_) a ha (by rw[eM _ _ hb.2 (by omega)]at hr;exact hr);exact f.eqv_sem hσ (aq hi hb1) (aq (by omega) hb1) ((qa hb.1 hn).1 hl b hb1 hb2)
theorem ht_app(H:List B)(kp:Nat)(P:List Nat)(c:B)(h:kp<H.length):Ht H kp P++[c]=Ht (H++[c]) kp P:=by
 unfold Ht;rw[List.set_append_left _ _ h]
theorem rb1_mono{n m:Nat}(h:n≤m){v:V}(hv:rb1 n v):rb1 m v:=by
 cases v<;>simp only[rb1]at hv ⊢<;>first | exact hv | omega | trivial
theorem oR{n m:Nat}(h:n≤m){v:V}(hv:rb n v):rb m v:=by
 cases v<;>simp only[rb]at hv ⊢<;>first | exact rb1_mono h hv | exact fun c hc=>rb1_mono h (hv c hc) | trivial
theorem eK{n m:Nat}(h:n≤m){bl:B}(hb:rbB n bl):rbB m bl:=by
 cases bl with
 | cells cs=>exact fun c hc=>oR h (hb c hc)
 | map kk es=>exact fun p hp=>⟨oR h (hb p hp).1,oR h (hb p hp).2⟩
 | buf e z xs fz=>exact fun x hx c hc=>oR h (hb x hx c hc)
theorem HOk.app{H:List B}{k0 kp kq n N:Nat}{K:Nat→Option Vl}(g:HOk H k0 kp kq n N K)(a b:Int):HOk (H++[B.cells [.int .u32 a,.int .u32 b]]) k0 kp kq n N K:=by
 refine⟨?_,by have:=g.hp;simp;omega,?_,g.n0,g.nq,fun P bl hb=>?_⟩
 ·rw[List.getElem?_append_left g.lt0];exact g.h0
 ·rw[List.getElem?_append_left (aE g.hq)];exact g.hq
 ·rw[←ht_app _ _ _ _ g.hp]at hb
  rcases List.mem_append.1 hb with hb | hb
  ·have:=g.rb P bl hb;exact eK (by simp) this
  ·simp only[List.mem_singleton]at hb;subst hb;simp
open Classical in
noncomputable def rFn(q:Prob)(P:List Nat):Nat→Nat:=if h:∃r h,Frt q P r h then h.choose else id
def Fr(q:Prob)(P:List Nat):Prop:=∃h,Frt q P (rFn q P) h
theorem nr{q:Prob}{P:List Nat}{r h:Nat→Nat}(f:Frt q P r h):Fr q P:=by
 have hex:∃r h,Frt q P r h:=⟨r,h,f⟩;unfold Fr rFn;rw[dif_pos hex];exact hex.choose_spec
inductive FlSt where
 | top (ag:Bool) (P:List Nat)
 | fd (j:Nat) (ag:Bool) (P:List Nat)
 | row (j i:Nat) (ag:Bool) (P:List Nat)
 | col (j i k:Nat) (ag:Bool) (P:List Nat)
 | att (j i k a:Nat) (P:List Nat)
 | done (b:Bool) (P:List Nat) (tl:List B)
def fdAt(q:Prob)(j:Nat):Fd:=q.fds.getD j ⟨0,0⟩
def fdB(d:Fd):B:=B.cells [.int .u32 (d.l:Int),.int .u32 (d.r:Int)]
open Classical in
noncomputable def kv(q:Prob):FlSt→FlSt
 | .top false P=>.done true P []
 | .top true P=>.fd 0 false P
 | .fd j ag P=>if j<q.fds.length then .row j 0 ag P else .top ag P
 | .row j i ag P=>if i<q.m then .col j i 0 ag P else .fd (j+1) ag P
 | .col j i k ag P=>if k<i then(if agB q (rFn q P) i k (fdAt q j).l=false∨agB q (rFn q P) i k (fdAt q j).r=true then .col j i (k+1) ag P else .att j i k 0 P) else .row j (i+1) ag P
 | .att j i k a P=>if a<q.n then(if fF (fdAt q j).r a=true then(if pl q (rFn q P) (i*q.n+a) (k*q.n+a)=true then .att j i k (a+1) (nk q P (rFn q P) (i*q.n+a) (k*q.n+a)) else .done false (nk q P (rFn q P) (i*q.n+a) (k*q.n+a)) [fdB (fdAt q j)]) else .att j i k (a+1) P) else .col j i (k+1) true P
 | .done b P tl=>.done b P tl
noncomputable def fit(q:Prob):Nat→FlSt→FlSt
 | 0,s=>s
 | n+1,s=>fit q n (kv q s)
theorem od(q:Prob):∀(n k:Nat) (s:FlSt),fit q (n+k) s=fit q k (fit q n s)
 | 0,k,s=>by rw[Nat.zero_add];rfl
 | n+1,k,s=>by rw[show n+1+k=(n+k)+1 by omega];exact od q n k (kv q s)
theorem pz(q:Prob)(b:Bool)(P:List Nat)(tl:List B):∀n,fit q n (.done b P tl)= .done b P tl
 | 0=>rfl
 | n+1=>pz q b P tl n
def Rch(q:Prob)(s t:FlSt):Prop:=∃n,fit q n s=t
theorem Rch.refl(q:Prob)(s:FlSt):Rch q s s:=⟨0,rfl⟩
theorem Rch.step{q:Prob}{s t u:FlSt}(h:Rch q s t)(hs:kv q t=u):Rch q s u:=by
 obtain⟨n,hn⟩:=h;refine⟨n+1,?_⟩;rw[od,hn];exact hs
theorem Rch.uniq{q:Prob}{s:FlSt}{b b':Bool}{P P':List Nat}{tl tl':List B}(h:Rch q s (.done b P tl))(g:Rch q s (.done b' P' tl')):FlSt.done b P tl = .done b' P' tl':=by
 obtain⟨n,hn⟩:=h;obtain⟨m,hm⟩:=g
 rcases Nat.le_total n m with e | e
 ·obtain⟨k,rfl⟩:=Nat.exists_eq_add_of_le e;rw[od,hn,pz]at hm;exact hm
 ·obtain⟨k,rfl⟩:=Nat.exists_eq_add_of_le e;rw[od,hm,pz]at hn;exact hn.symm
open Classical in
noncomputable def qD(q:Prob)(P:List Nat):List Nat:=if h:∃o:Bool×List Nat×List B,Rch q (.top true P) (.done o.1 o.2.1 o.2.2) then h.choose.2.1 else P
open Classical in
noncomputable def fillT(q:Prob)(P:List Nat):List B:=if h:∃o:Bool×List Nat×List B,Rch q (.top true P) (.done o.1 o.2.1 o.2.2) then h.choose.2.2 else []
theorem fill_eq{q:Prob}{P P':List Nat}{b:Bool}{tl:List B}(h:Rch q (.top true P) (.done b P' tl)):qD q P=P'∧fillT q P=tl:=by
 have hex:∃o:Bool×List Nat×List B,Rch q (.top true P) (.done o.1 o.2.1 o.2.2):=⟨(b,P',tl),h⟩;have:=Rch.uniq hex.choose_spec h;unfold qD fillT;rw[dif_pos hex,dif_pos hex];simp only[FlSt.done.injEq]at this;exact⟨this.2.1,this.2.2⟩
def Mid(q:Prob)(P0:List Nat)(ag:Bool)(P:List Nat)(C:(Nat→Nat)→Prop):Prop:=Fr q P∧(ag=true→mX P<mX P0)∧(ag=false→P=P0∧C (rFn q P))
theorem Mid.imp{q:Prob}{P0 P:List Nat}{ag:Bool}{C C':(Nat→Nat)→Prop}(h:Mid q P0 ag P C)(hi:ag=false→∀r,C r→C' r):Mid q P0 ag P C':=by
 obtain⟨a,b,c⟩:=h;exact⟨a,b,fun e=>⟨(c e).1,hi e _ (c e).2⟩⟩
theorem fill_u{q:Prob}{P0:List Nat}{r0 h0':Nat→Nat}(f0:Frt q P0 r0 h0'){H:List B}{k0 kp kq n N:Nat}(hNe:q.m*q.n=N)(hn:q.n=n)(g:HOk H k0 kp kq n N q.K)(hN:N≤1000000)(hn2:n≤16)(hm:q.m≤1000000)(ff:Bool)(hF:bU q.fds):
  bA Tryz.prog 52 [.ptr k0 0,.int .i64 q.m,LF ff q.fds] (Ht H kp P0) fun r' H'=>r' = .bool (okB q)∧H'=Ht H kp (qD q P0)++fillT q P0∧(okB q=true→fillT q P0=[]∧Fr q (qD q P0)∧eT q (rFn q (qD q P0))):=by
 obtain⟨hF1,hF2⟩:=hF;obtain⟨fds,hfds⟩:∃fds,fds=q.fds:=⟨_,rfl⟩;rw[←hfds]at hF1 hF2 ⊢;obtain⟨m,hme⟩:∃m,m=q.m:=⟨_,rfl⟩;rw[←hme]at hm ⊢;refine aD tok Tryz.func52 rfl rfl ?_;refine wx ?_;simp -implicitDefEqProofs -dsimp[Tryz.f52,List.replicate,LF];refine aK (W_loopM 81 [6,7,9,10,11,12,13,14,15,16,17,18,19,20,21,22,23,24,25,26,27,28,29,30,31,32,33,34,35,36,37,38,39,40,41,42,43,44,45,46,47,48,49,50,51,52,53,54,55,56,57,58,59,60,61,62,63,64,65,66,67,68,69,70,71,72,73,74,75,76,77,78,79,80] (by simp[mB]<;>rfl) (σ:=Bool×List Nat) (fun p=>Fr q p.2∧(p.1=false→eT q (rFn q p.2))∧Rch q (.top true P0) (.top p.1 p.2)) (fun p=>mX p.2+(if p.1 then 1 else 0)) (fun p=>[(7,.bool p.1)]) (fun p=>Ht H kp p.2) (true,P0) ⟨nr f0,(fun h=>by cases h),Rch.refl _ _⟩ (by simp) rfl (by simp[gu]) ?_);rintro⟨ag,P⟩ ⟨f,hcl,hR⟩ N1 Q1 hN1 hQ1;simp only at f hcl hR;have hl0:=ptrRb g P
 cases ag with
 | false =>
  refine wx ?_;simp -implicitDefEqProofs -dsimp[];refine hQ1 _ _ _ ?_;simp -implicitDefEqProofs -dsimp[];obtain⟨e1,e2⟩:=fill_eq (hR.step (u:=.done true P []) rfl);obtain⟨h,f⟩:=f;rw[pX ⟨_,f.sol (hcl rfl)⟩,e1,e2];exact⟨rfl,by rw[List.append_nil],fun _=>⟨rfl,⟨h,f⟩,hcl rfl⟩⟩
 | true =>
  refine wx ?_;simp -implicitDefEqProofs -dsimp[];refine aK (W_loopM 81 [6,7,9,10,11,12,16,17,18,19,20,21,22,23,24,25,26,27,28,29,30,31,32,33,34,35,36,37,38,39,40,41,42,43,44,45,46,47,48,49,50,51,52,53,54,55,56,57,58,59,60,61,62,63,64,65,66,67,68,69,70,71,72,73,74,75,76,77,78,79,80] (by simp[mB]<;>rfl) (σ:=Nat×Bool×List Nat) (fun p=>p.1≤fds.length∧Mid q P p.2.1 p.2.2 (fun r=>∀d∈fds.take p.1,ClsD q r d m)∧Rch q (.top true P0) (.fd p.1 p.2.1 p.2.2)) (fun p=>fds.length-p.1) (fun p=>[(16,.int .i64 p.1),(7,.bool p.2.1)]) (fun p=>Ht H kp p.2.2) (0,false,P) ⟨by simp,⟨f,by simp,fun _=>⟨rfl,by simp⟩⟩,hR.step rfl⟩ (by simp) rfl (by simp[gu]) ?_);rintro⟨j,ag2,P2⟩ ⟨hj,hmid,hR2⟩ N2 Q2 hN2 hQ2;simp only at hj hmid hR2 hN2;by_cases hjb:j<fds.length
  ·have hdm:fds[j]∈fds:=List.getElem_mem hjb;obtain⟨d,hd⟩:∃d,d=fds[j]:=⟨_,rfl⟩;rw[←hd]at hdm;have hd':=hd.symm;have hdb:=hF2 d hdm;have g2:=g.app d.l d.r;obtain⟨H2,hH2⟩:∃H2,H2=H++[B.cells [.int .u32 (d.l:Int),.int .u32 (d.r:Int)]]:=⟨_,rfl⟩;rw[←hH2]at g2
   have happ:∀P,Ht H kp P++[B.cells [.int .u32 (d.l:Int),.int .u32 (d.r:Int)]]=Ht H2 kp P:=fun P=>by rw[ht_app _ _ _ _ g.hp,hH2]
   have hcell:∀P,(Ht H2 kp P)[H.length]?=some (B.cells [.int .u32 (d.l:Int),.int .u32 (d.r:Int)]):=fun P=>by
    rw[←happ P,List.getElem?_append_right (by rw[gu];omega),gu];simp
   have hlc:∀P,H.length<(Ht H2 kp P).length:=fun P=>by rw[gu,hH2];simp
   have hlen:=fun P=>gu H kp P
   have hlen2:=fun P=>gu H2 kp P
   have hle:H.length≤H2.length:=by rw[hH2];simp
   have hl2:=fun P=>ptrRb g2 P
   have hrb2:=fun P=>g2.rbs P
   refine wx ?_;simp -implicitDefEqProofs -dsimp[hjb,cT,hd',happ,hlen];refine aK (W_loopM 80 [6,7,10,11,12,21,22,23,24,25,26,27,28,29,30,31,32,33,34,35,36,37,38,39,40,41,42,43,44,45,46,47,48,49,50,51,52,53,54,55,56,57,58,59,60,61,62,63,64,65,66,67,68,69,70,71,72,73,74,75,76,77,78,79] (by simp[mB]<;>rfl) (σ:=Nat×Bool×List Nat) (fun p=>p.1≤m∧Mid q P p.2.1 p.2.2 (fun r=>(∀d∈fds.take j,ClsD q r d m)∧ClsD q r d p.1)∧Rch q (.top true P0) (.row j p.1 p.2.1 p.2.2)) (fun p=>m-p.1) (fun p=>[(21,.int .i64 p.1),(7,.bool p.2.1)]) (fun p=>Ht H2 kp p.2.2) (0,ag2,P2) ⟨by simp,hmid.imp fun _ r hr=>⟨hr,fun i k hi=>by omega⟩,hR2.step (by simp only[kv,if_pos (hfds▸hjb)])⟩ (by simp) rfl (by simp[hlen2,hle]) ?_);rintro⟨i,ag3,P3⟩ ⟨hi,hmid3,hR3⟩ N3 Q3 hN3 hQ3;simp only at hi hmid3 hR3 hN3;by_cases hib:i<m
   ·refine wx ?_;simp -implicitDefEqProofs -dsimp[hib];refine aK (W_loopM 79 [6,7,11,12,25,26,27,28,29,30,31,32,33,34,35,36,37,38,39,40,41,42,43,44,45,46,47,48,49,50,51,52,53,54,55,56,57,58,59,60,61,62,63,64,65,66,67,68,69,70,71,72,73,74,75,76,77,78] (by simp[mB]<;>rfl) (σ:=Nat×Bool×List Nat) (fun p=>p.1≤i∧Mid q P p.2.1 p.2.2 (fun r=>(∀d∈fds.take j,ClsD q r d m)∧ClsD q r d i∧∀k,k<p.1→ClsP q r d i k)∧Rch q (.top true P0) (.col j i p.1 p.2.1 p.2.2)) (fun p=>i-p.1) (fun p=>[(25,.int .i64 p.1),(7,.bool p.2.1)]) (fun p=>Ht H2 kp p.2.2) (0,ag3,P3) ⟨by simp,hmid3.imp fun _ r hr=>⟨hr.1,hr.2,fun k hk=>by omega⟩,hR3.step (by simp only[kv,if_pos (hme▸hib)])⟩ (by simp) rfl (by simp[hlen2]) ?_);rintro⟨k,ag4,P4⟩ ⟨hk,hmid4,hR4⟩ N4 Q4 hN4 hQ4;simp only at hk hmid4 hR4 hN4;by_cases hkb:k<i
    ·obtain⟨f4',m1,m2⟩:=hmid4;obtain⟨h4,f4⟩:=f4';obtain⟨r4,hr4⟩:∃r4,r4=rFn q P4:=⟨_,rfl⟩;rw[←hr4]at f4 m2
     have hfd:fdAt q j=d:=by rw[hd,←show fds.getD j ⟨0,0⟩=fds[j] by simp[hjb],hfds];rfl
     have c1:=agree_u f4 hNe hn g2 hN i k (d.l:Int) (by omega) (by omega) hn2;have c2:=agree_u f4 hNe hn g2 hN i k (d.r:Int) (by omega) (by omega) hn2
     have same:∀(hP:ClsP q r4 d i k),∀(N:List V→List B→Prop),True:=fun _ _=>trivial
     cases ha1:agB q r4 i k d.l with
     | false =>
      rw[ha1]at c1
      have hcp:ClsP q r4 d i k:=fun hx=>by rw[kT.2 hx]at ha1;cases ha1
      refine wx ?_;simp -implicitDefEqProofs -dsimp[hkb,hcell];refine aT.mono (K:=fun r' H'=>r' = .bool false∧H'=Ht H2 kp P4) c1 ?_;rintro _ _ ⟨rfl,rfl⟩;simp -implicitDefEqProofs -dsimp[aJ k (by omega)];refine hN4 (k+1,ag4,P4) _ _ ⟨by simp only;omega,⟨nr f4,m1,fun e=>⟨(m2 e).1,hr4▸⟨(m2 e).2.1,(m2 e).2.2.1,fun k' hk'=>?_⟩⟩⟩,hR4.step (by simp only[kv,if_pos hkb,←hr4,hfd];rw[if_pos (.inl ha1)])⟩ (by simp only;omega) (by simp) ⟨[],by simp⟩ (by simp[hl2,hlc]) (hrb2 _)
      rcases Nat.lt_or_ge k' k with e1 | e1
      ·exact(m2 e).2.2.2 k' e1
      ·have:k'=k:=by simp only at hk';omega
       subst this;exact hcp
     | true =>
      rw[ha1]at c1
      cases ha2:agB q r4 i k d.r with
      | true =>
       rw[ha2]at c2
       have hcp:ClsP q r4 d i k:=fun _=>kT.1 ha2
       refine wx ?_;simp -implicitDefEqProofs -dsimp[hkb,hcell];refine aT.mono (K:=fun r' H'=>r' = .bool true∧H'=Ht H2 kp P4) c1 ?_;rintro _ _ ⟨rfl,rfl⟩;simp -implicitDefEqProofs -dsimp[hcell];refine aT.mono (K:=fun r' H'=>r' = .bool true∧H'=Ht H2 kp P4) c2 ?_;rintro _ _ ⟨rfl,rfl⟩;simp -implicitDefEqProofs -dsimp[aJ k (by omega)];refine hN4 (k+1,ag4,P4) _ _ ⟨by simp only;omega,⟨nr f4,m1,fun e=>⟨(m2 e).1,hr4▸⟨(m2 e).2.1,(m2 e).2.2.1,fun k' hk'=>?_⟩⟩⟩,hR4.step (by simp only[kv,if_pos hkb,←hr4,hfd];rw[if_pos (.inr ha2)])⟩ (by simp only;omega) (by simp) ⟨[],by simp⟩ (by simp[hl2,hlc]) (hrb2 _)
       rcases Nat.lt_or_ge k' k with e1 | e1
       ·exact(m2 e).2.2.2 k' e1
       ·have:k'=k:=by simp only at hk';omega
        subst this;exact hcp
      | false =>
       rw[ha2]at c2
       have hle4:mX P4≤mX P:=by
        cases ag4 with
        | true=>exact Nat.le_of_lt (m1 rfl)
        | false=>rw[(m2 rfl).1];exact Nat.le_refl _
       have h0a:=g2.at0;refine wx ?_;simp -implicitDefEqProofs -dsimp[hkb,hcell];refine aT.mono (K:=fun r' H'=>r' = .bool true∧H'=Ht H2 kp P4) c1 ?_;rintro _ _ ⟨rfl,rfl⟩;simp -implicitDefEqProofs -dsimp[hcell];refine aT.mono (K:=fun r' H'=>r' = .bool false∧H'=Ht H2 kp P4) c2 ?_;rintro _ _ ⟨rfl,rfl⟩;simp -implicitDefEqProofs -dsimp[h0a];refine aK (W_loopM 78 [6,12,47,48,49,50,51,52,53,54,55,56,57,58,59,60,61,62,63,64,65,66,67,68,69,70,71,72,73,74,75,76,77] (by simp[mB]<;>rfl) (σ:=Nat×List Nat) (fun p=>p.1≤n∧Fr q p.2∧(mX p.2<mX P4∨(p.2=P4∧AgrE q r4 i k d.r p.1))∧Rch q (.top true P0) (.att j i k p.1 p.2)) (fun p=>n-p.1) (fun p=>[(47,.int .i64 p.1)]) (fun p=>Ht H2 kp p.2) (0,P4) ⟨by simp,nr f4,.inr ⟨rfl,fun b hb=>by omega⟩,hR4.step (by simp only[kv,if_pos hkb,←hr4,hfd];rw[if_neg (by rw[ha1,ha2];simp)])⟩ (by simp) rfl (by simp[hlen2]) ?_);rintro⟨a,P5⟩ ⟨ha,f5',hdj,hR5⟩ N5 Q5 hN5 hQ5;simp only at ha f5' hdj hR5 hN5;obtain⟨h5,f5⟩:=f5';obtain⟨r5,hr5⟩:∃r5,r5=rFn q P5:=⟨_,rfl⟩;rw[←hr5]at f5;have h0b:=g2.at0 P5;by_cases hab:a<n
       ·cases hh:fF (d.r:Int) a with
        | false =>
         refine wx ?_;simp -implicitDefEqProofs -dsimp[hab,hcell,dT,hh,show(a:Int)<32 by omega];refine .inr ⟨aI (by kernel_rfl),?_⟩;simp -implicitDefEqProofs -dsimp[aJ a (by omega)];refine hN5 (a+1,P5) _ _ ⟨by simp only;omega,nr f5,?_,hR5.step (by simp only[kv,if_pos (hn▸hab),hfd,hh];rw[if_neg (by simp)])⟩ (by simp only;omega) (by simp) ⟨[],by simp⟩ (by simp[hl2,hlc]) (hrb2 _)
         rcases hdj with e1 | ⟨e1,e3⟩
         ·exact .inl e1
         ·refine .inr ⟨e1,fun b hb1 hb2=>?_⟩
          rcases Nat.lt_or_ge b a with e4 | e4
          ·exact e3 b e4 hb2
          ·have:b=a:=by simp only at hb1;omega
           subst this;rw[hh]at hb2;cases hb2
        | true =>
         have li:=aq (n:=n) (show i<q.m by omega) hab;have lk:=aq (n:=n) (show k<q.m by omega) hab
         have hNe2:q.m*n=N:=by rw[←hn];exact hNe
         have hmust:=must f4 (by omega) (hfds▸hdm) hdb (show i<q.m by omega) hkb (kT.1 ha1) (hn▸hab) hh;rw[hn]at hmust
         have li':i*n+a<q.m*q.n:=by rw[hn];exact li
         have lk':k*n+a<q.m*q.n:=by rw[hn];exact lk
         have hpost:=join_post f5 li' lk' hmust;have cj:=join_u f5 hNe g2 hN (i*n+a) (k*n+a) (by omega) (by omega);rw[hNe2]at li lk
         have w1:IntKind.i64.wrap ((i:Int)*n)=((i*n:Nat):Int):=by rw[wrap64 (by omega) (by omega)];push_cast;rfl
         have w2:IntKind.i64.wrap ((k:Int)*n)=((k*n:Nat):Int):=by rw[wrap64 (by omega) (by omega)];push_cast;rfl
         have w3:IntKind.i64.wrap (((i*n:Nat):Int)+(a:Int))=((i*n+a:Nat):Int):=by rw[wrap64 (by omega) (by omega)];push_cast;rfl
         have w4:IntKind.i64.wrap (((k*n:Nat):Int)+(a:Int))=((k*n+a:Nat):Int):=by rw[wrap64 (by omega) (by omega)];push_cast;rfl
         have e1:i*q.n+a=i*n+a:=by rw[hn]
         have e2:k*q.n+a=k*n+a:=by rw[hn]
         obtain⟨xi,hxi⟩:∃xi,xi=i*n+a:=⟨_,rfl⟩;obtain⟨xk,hxk⟩:∃xk,xk=k*n+a:=⟨_,rfl⟩;obtain⟨yi,hyi⟩:∃yi,yi=i*n:=⟨_,rfl⟩;obtain⟨yk,hyk⟩:∃yk,yk=k*n:=⟨_,rfl⟩;rw[←hxi]at w3 e1;rw[←hxk]at w4 e2;rw[←hxi,←hxk]at cj hpost;rw[←hyi]at w1 w3;rw[←hyk]at w2 w4;obtain⟨jb,hjb⟩:∃b,b=pl q r5 xi xk:=⟨_,rfl⟩;obtain⟨jp,hjp⟩:∃b,b=nk q P5 r5 xi xk:=⟨_,rfl⟩;rw[←hjb,←hjp]at cj hpost
         have hjb2:pl q (rFn q P5) (i*q.n+a) (k*q.n+a)=jb:=by rw[←hr5,e1,e2];exact hjb.symm
         have hjp2:nk q P5 (rFn q P5) (i*q.n+a) (k*q.n+a)=jp:=by rw[←hr5,e1,e2];exact hjp.symm
         cases jb with
         | false =>
          have hno:¬Okq q:=by
           rcases hpost with⟨_,e⟩ | ⟨e,_⟩ | ⟨e,_⟩
           ·exact e
           ·cases e
           ·cases e
          refine wx ?_;simp -implicitDefEqProofs -dsimp[hab,hcell,dT,hh,show(a:Int)<32 by omega,h0b,w1,w2,w3,w4];refine .inl (aK (am tok mixed [24] [] [(.bool false,Ht H2 kp jp)] (by kernel_rfl) fun C K hC hK=>?_));simp -implicitDefEqProofs [hcell,dT,hh,show(a:Int)<32 by omega,h0b,w1,w2,w3,w4];refine⟨hC _ _ _ _ cj,hK _ _ ?_⟩;simp -implicitDefEqProofs -dsimp[];refine hQ5 _ _ _ ?_;simp -implicitDefEqProofs -dsimp[];refine hQ4 _ _ _ ?_;simp -implicitDefEqProofs -dsimp[];refine hQ3 _ _ _ ?_;simp -implicitDefEqProofs -dsimp[];refine hQ2 _ _ _ ?_;simp -implicitDefEqProofs -dsimp[];refine hQ1 _ _ _ ?_;simp -implicitDefEqProofs -dsimp[];obtain⟨x1,x2⟩:=fill_eq (hR5.step (u:=.done false jp [fdB d]) (by simp only[kv,if_pos (hn▸hab),hfd,if_pos hh,hjb2,hjp2];rw[if_neg (by simp)]));rw[mz hno,x1,x2];exact⟨rfl,by rw[fdB,happ],fun e=>by cases e⟩
         | true =>
          refine wx ?_;simp -implicitDefEqProofs -dsimp[hab,hcell,dT,hh,show(a:Int)<32 by omega,h0b,w1,w2,w3,w4];refine .inl (aK (am tok mixed [24] [] [(.bool true,Ht H2 kp jp)] (by kernel_rfl) fun C K hC hK=>?_));simp -implicitDefEqProofs [hcell,dT,hh,show(a:Int)<32 by omega,h0b,w1,w2,w3,w4];refine⟨hC _ _ _ _ cj,hK _ _ ?_⟩;simp -implicitDefEqProofs -dsimp[aJ a (by omega)];have hRn:=hR5.step (u:=.att j i k (a+1) jp) (by simp only[kv,if_pos (hn▸hab),hfd,if_pos hh,hjb2,hjp2];rw[if_pos trivial]);refine hN5 (a+1,jp) _ _ ⟨by simp only;omega,?_⟩ (by simp only;omega) (by simp) ⟨[],by simp⟩ (by simp[hl2,hlc]) (hrb2 _)
          rcases hpost with⟨e,_⟩ | ⟨_,e,e'⟩ | ⟨_,e,r',h',f'⟩
          ·cases e
          ·simp only;rw[e']at hRn ⊢;refine⟨nr f5,?_,hRn⟩
           rcases hdj with d1 | ⟨d1,d3⟩
           ·exact .inl d1
           ·refine .inr ⟨d1,fun b hb1 hb2=>?_⟩
            rcases Nat.lt_or_ge b a with e4 | e4
            ·exact d3 b e4 hb2
            ·have:b=a:=by omega
             subst this;rw[e1,e2,hr4,←d1,←hr5];exact e
          ·refine⟨nr f',.inl ?_,hRn⟩;simp only
           rcases hdj with d1 | ⟨d1,d3⟩
           ·omega
           ·rw[←d1];exact e
       ·have hae:a=n:=by omega
        subst hae;refine wx ?_;simp -implicitDefEqProofs -dsimp[hab];refine hQ5 _ _ _ ?_;simp -implicitDefEqProofs -dsimp[aJ k (by omega)]
        have hlt:mX P5<mX P4:=by
         rcases hdj with e1 | ⟨e1,e3⟩
         ·exact e1
         ·rw[kT.2 (hn▸e3)]at ha2;cases ha2
        refine hN4 (k+1,true,P5) _ _ ⟨by simp only;omega,⟨nr f5,fun _=>by simp only;omega,fun e=>by cases e⟩,hR5.step (by simp only[kv];rw[if_neg (by omega)])⟩ (by simp only;omega) (by simp) ⟨[],by simp⟩ (by simp[hl2,hlc]) (hrb2 _)
    ·have hke:k=i:=by omega
     subst hke;refine wx ?_;simp -implicitDefEqProofs -dsimp[hkb];refine hQ4 _ _ _ ?_;simp -implicitDefEqProofs -dsimp[aJ k (by omega)];refine hN3 (k+1,ag4,P4) _ _ ⟨by simp only;omega,hmid4.imp fun _ r hr=>⟨hr.1,fun i' k' hi' hk'=>?_⟩,hR4.step (by simp only[kv];rw[if_neg hkb])⟩ (by simp only;omega) (by simp) ⟨[],by simp⟩ (by simp[hl2,hlc]) (hrb2 _)
     rcases Nat.lt_or_ge i' k with e1 | e1
     ·exact hr.2.1 i' k' e1 hk'
     ·have:i'=k:=by simp only at hi';omega
      subst this;exact hr.2.2 k' hk'
   ·have hie:i=m:=by omega
    subst hie;refine wx ?_;simp -implicitDefEqProofs -dsimp[hib];refine hQ3 _ _ _ ?_;simp -implicitDefEqProofs -dsimp[aJ j (by omega)];refine hN2 (j+1,ag3,P3) _ _ ⟨by simp only;omega,hmid3.imp fun _ r hr=>fun d' hd'=>?_,hR3.step (by simp only[kv];rw[if_neg (by omega)])⟩ (by simp only;omega) (by simp) ⟨_,(happ P3).symm⟩ (by simp[hlen,g.lt0]) (g.rbs _);simp only at hd';rw[List.take_succ_eq_append_getElem hjb]at hd'
    rcases List.mem_append.1 hd' with e1 | e1
    ·exact hr.1 d' e1
    ·simp only[List.mem_singleton]at e1;rw[e1,←hd];exact hr.2
  ·have hje:j=fds.length:=by omega
   subst hje;obtain⟨f2,m1,m2⟩:=hmid;refine wx ?_;simp -implicitDefEqProofs -dsimp[hjb];refine hQ2 _ _ _ ?_;simp -implicitDefEqProofs -dsimp[];refine hN1 (ag2,P2) _ _ ⟨f2,fun e=>?_,hR2.step (by simp only[kv,←hfds];rw[if_neg (by omega)])⟩ ?_ (by simp) ⟨[],by simp⟩ (by simp[ptrRb g]) (g.rbs _)
   ·have:=(m2 e).2;rw[List.take_length]at this;exact closed_of (by omega) (hfds▸hF2) (by rw[←hfds,←hme];exact this)
   ·cases ag2 with
    | true=>have:=m1 rfl;simp;omega
    | false=>have:=(m2 rfl).1;simp[this]
end
section
theorem sub_erase{l:List Cr}{i:Nat} : ∀c∈l.eraseIdx i,c∈l:=fun _ h=>List.mem_of_mem_eraseIdx h
theorem ie{l:List Cr}{i:Nat}(h:aY l):aY (l.eraseIdx i):=List.Pairwise.sublist (List.eraseIdx_sublist l i) h
structure IsCoreP (t:Tb) (fds:List Fd) (l:List Cr):Prop where
 nec:Nec t fds l
 min:∀i,i<l.length→¬Nec t fds (l.eraseIdx i)
open Classical in
noncomputable def coreB(t:Tb)(fds:List Fd)(l:List Cr):Bool:=decide (IsCoreP t fds l)
theorem nN{t:Tb}{fds:List Fd}{l:List Cr} : coreB t fds l=true↔IsCoreP t fds l:=by unfold coreB;simp
structure CoreSt (t:Tb) (fds:List Fd) (fixed l:List Cr) (i:Nat):Prop where
 le:i≤l.length
 sub:∀c∈l,c∈fixed
 sorted:aY l
 nec:Nec t fds l
 min:∀j,j<i→¬Nec t fds (l.eraseIdx j)
theorem CoreSt.drop{t:Tb}{fds:List Fd}{fixed l:List Cr}{i:Nat}(h:CoreSt t fds fixed l i)(hi:i<l.length)(hn:Nec t fds (l.eraseIdx i)):CoreSt t fds fixed (l.eraseIdx i) i:=by
 refine⟨by rw[List.length_eraseIdx];split<;>omega,fun c hc=>h.sub c (sub_erase c hc),ie h.sorted,hn,fun j hj hc=>h.min j hj (nec_mono (fun c hc=>?_) hc)⟩;obtain⟨k,hk,rfl⟩:=List.mem_iff_getElem.1 hc;rw[List.mem_eraseIdx_iff_getElem]at *;rw[List.getElem_eraseIdx];rw[List.length_eraseIdx]at hk;rw[List.length_eraseIdx,if_pos hi]at hk
 have hj':j<l.length-1:=by omega
 rw[if_pos hj']at hk;split
 ·rename_i h1;rw[List.getElem_eraseIdx];split
  ·exact⟨k,by omega,by omega,rfl⟩
  ·exact⟨k+1,by omega,by omega,rfl⟩
 ·rename_i h1;rw[List.getElem_eraseIdx];split
  ·exact⟨k+1,by omega,by omega,rfl⟩
  ·exact⟨k+1+1,by omega,by omega,rfl⟩
theorem CoreSt.keep{t:Tb}{fds:List Fd}{fixed l:List Cr}{i:Nat}(h:CoreSt t fds fixed l i)(hi:i<l.length)(hn:¬Nec t fds (l.eraseIdx i)):CoreSt t fds fixed l (i+1):=by
 refine⟨hi,h.sub,h.sorted,h.nec,fun j hj=>?_⟩
 rcases Nat.lt_or_ge j i with h1 | h1
 ·exact h.min j h1
 ·have:j=i:=by omega
  subst this;exact hn
theorem CoreSt.done{t:Tb}{fds:List Fd}{fixed l:List Cr}(h:CoreSt t fds fixed l l.length):IsCoreP t fds l:=⟨h.nec,h.min⟩
def mG(n:Nat)(d:Fd):Bool:=decide (d.l<2^n)&&decide (d.r<2^n)
def cG(n:Nat)(fds:List Fd):Int:=if 64<fds.length then 3 else if fds.all (mG n) then 0 else 1
end
theorem shr1(lo hi:Nat)(h:lo+hi≤4000000):IntKind.i64.wrap ((IntKind.u64.wrap ((lo+hi:Nat):Int)).fdiv (2^min 1 IntKind.u64.bits))=(((lo+hi) / 2:Nat):Int):=by
 have h1:(2:Int)^min 1 IntKind.u64.bits=2:=rfl
 have h2:IntKind.u64.wrap ((lo+hi:Nat):Int)=((lo+hi:Nat):Int):=by rw[IntKind.wrap_u64];omega
 rw[h2,h1,Int.fdiv_eq_ediv_of_nonneg _ (by omega),wrap64 (by omega) (by omega)];omega
def bsF(l:List Cr)(x:Cr):Bool:=decide (bsC l x 0 l.length<l.length)&&(bp (cAt l (bsC l x 0 l.length)) x == 0)
theorem mf{l:List Cr}(hs:aY l)(x:Cr):bsF l x=true↔x∈l:=by
 rw[←bsC_mem hs x];unfold bsF;rw[Bool.and_eq_true,decide_eq_true_iff,beq_iff_eq];constructor
 ·rintro⟨h1,h2⟩;exact⟨h1,by rwa [jF h1]at h2⟩
 ·rintro⟨h1,h2⟩;exact⟨h1,by rwa [jF h1]⟩
theorem iY(l:List Cr)(x:Cr)(f:Bool)(hl:l.length≤1000000):aR Tryz.prog 74 [LC f l,aN x,.fn 75 []] fun r=>r = .tup [.int .i64 (bsC l x 0 l.length),.bool (bsF l x)]:=by
 obtain⟨E,hE⟩:∃E,E=bsC l x 0 l.length:=⟨_,rfl⟩
 have hF:bsF l x=(decide (E<l.length)&&(bp (cAt l E) x == 0)):=by rw[hE];rfl
 rw[←hE];refine aC (aD tok Tryz.func74 rfl rfl ?_);refine wx ?_;simp -implicitDefEqProofs -dsimp[Tryz.f74,List.replicate,LC,aN];refine aK (W_loopM 35 [9,10,11,15,16,17,18,19,20,21,22,23,24,25,26,27,28,29,30,31,32,33,34] (by simp[mB]<;>rfl) (σ:=Nat×Nat) (fun p=>p.1≤p.2∧p.2≤l.length∧bsC l x p.1 p.2=E) (fun p=>p.2-p.1) (fun p=>[(9,.int .i64 p.1),(10,.int .i64 p.2)]) (fun _=>[B.cells [.int .i64 x.id,.int .i64 x.attr]]) (0,l.length) ⟨by omega,by omega,hE.symm⟩ (by simp) rfl (by simp) ?_);rintro⟨lo,hi⟩ ⟨h1,h2,hx⟩ N Q hN hQ;simp only at h1 h2 hx;by_cases hb:lo<hi
 ·have hw:IntKind.i64.wrap ((lo:Int)+(hi:Int))=((lo+hi:Nat):Int):=by rw[wrap64 (by omega) (by omega)];rfl
  have hs:=shr1 lo hi (by omega);rw[bsC,if_pos hb]at hx;obtain⟨m,em⟩:∃m,m=(lo+hi) / 2:=⟨_,rfl⟩;rw[←em]at hs hx;obtain⟨sm,esm⟩:∃sm,sm=lo+hi:=⟨_,rfl⟩;rw[←esm]at hs hw em
  have hm:m<l.length:=by omega
  rw[jF hm]at hx;have hc:=kL l[m] x;simp only[aN]at hc;have hs1:=aJ m (by omega);by_cases hq:bp l[m] x<0
  ·rw[if_pos hq]at hx;refine wx ?_;simp -implicitDefEqProofs -dsimp[hb,hw,hs,hm,aN];refine .inr ⟨aI (by kernel_rfl),?_⟩;refine ae _ (aF (hc) (by simp)) ?_;simp -implicitDefEqProofs -dsimp[hq,hs1];refine hN (m+1,hi) _ _ ⟨by simp only;omega,h2,hx⟩ (by omega) ?_ ⟨[],?_⟩ ?_ ?_<;>simp[or_imp,forall_and,L1,aW]
  ·rw[if_neg hq]at hx;refine wx ?_;simp -implicitDefEqProofs -dsimp[hb,hw,hs,hm,aN];refine .inr ⟨aI (by kernel_rfl),?_⟩;refine ae _ (aF (hc) (by simp)) ?_;simp -implicitDefEqProofs -dsimp[hq,hs1];refine hN (lo,m) _ _ ⟨by simp only;omega,by simp only;omega,hx⟩ (by omega) ?_ ⟨[],?_⟩ ?_ ?_<;>simp[or_imp,forall_and,L1,aW]
 ·rw[bsC,if_neg hb]at hx;subst hx;by_cases hn:lo<l.length
  ·have hc:=kL l[lo] x;simp only[aN]at hc;rw[jF hn]at hF;refine wx ?_;simp -implicitDefEqProofs -dsimp[hb];refine hQ _ _ _ ?_;simp -implicitDefEqProofs -dsimp[hn,aN];refine .inr ⟨aI (by kernel_rfl),?_⟩;refine ae _ (aF (hc) (by simp)) ?_;simp -implicitDefEqProofs -dsimp[hn];rw[hF];simp[hn]
  ·refine wx ?_;simp -implicitDefEqProofs -dsimp[hb];refine hQ _ _ _ ?_;simp -implicitDefEqProofs -dsimp[hn,aN];refine .inr ⟨aI (by kernel_rfl),?_⟩;rw[hF];simp[hn]
def paR(c:Nat):List V:=paL (List.range c)
theorem paR_zero:paR 0=[]:=rfl
theorem knL_zero(K:Nat→Option Vl):knL K 0=[]:=rfl
theorem paR_pure(c:Nat):∀x∈paR c,AM.Pure x∧dm x=true:=paL_pure _
@[simp ↓ high] theorem rb_paR (k e z c:Nat) (fz:Bool):rbB k (.buf e z (paR c) fz)↔True:=rbB_buf1 (paR_pure c)
@[simp ↓ high] theorem rb_paL (k e z:Nat) (P:List Nat) (fz:Bool):rbB k (.buf e z (paL P) fz)↔True:=rbB_buf1 (paL_pure P)
@[simp ↓ high] theorem rb_knL (K:Nat→Option Vl) (k e z c:Nat) (fz:Bool):rbB k (.buf e z (knL K c) fz)↔True:=rbB_buf1 (knL_pure K c)
theorem paR_len(c:Nat):(paR c).length=c:=by simp[paR,paL]
theorem paR_succ(c:Nat):paR (c+1)=paR c++[.int .i64 c]:=by simp[paR,paL,List.range_succ,encN]
theorem knL_succ(K:Nat→Option Vl)(c:Nat):knL K (c+1)=knL K c++[fR (K c)]:=by simp[knL,List.range_succ]
def hY(H:List B)(ff gg:Bool)(t:Tb)(K:Nat→Option Vl):List B:=H++[B.cells [.str t.name,LS ff t.attrs,LR gg t.rows],B.cells [.int .i64 t.attrs.length,.buf (H.length+2) 0 (t.rows.length*t.attrs.length) (t.rows.length*t.attrs.length),.buf (H.length+3) 0 (t.rows.length*t.attrs.length) (t.rows.length*t.attrs.length)],B.buf 3 1 (paR (t.rows.length*t.attrs.length)) false,B.buf 113 1 (knL K (t.rows.length*t.attrs.length)) false]
theorem begin1(t:Tb)(ff gg cf:Bool)(fds:List Fd)(cells:List Cr)(hv:TbV t)(hs:aY cells)(hcl:cells.length≤1000000)(b0:B)(hb:∀bl∈[b0],rbB 1 bl):
  bA Tryz.prog 51 [aG ff gg t,LC cf cells] [b0] fun r' H'=>r' = .ptr 2 0∧H'=hY [b0] ff gg t (aS t fds cells).K:=by
 have hm:=hv.rows;have hn:=hv.attrs;obtain⟨K,hKe⟩:∃K,K=(aS t fds cells).K:=⟨_,rfl⟩;rw[←hKe];obtain⟨n,hne⟩:∃n,n=t.attrs.length:=⟨_,rfl⟩;obtain⟨m,hme⟩:∃m,m=t.rows.length:=⟨_,rfl⟩;have hne':=hne.symm;have hme':=hme.symm;rw[hne']at hn;rw[hme']at hm
 have hb0:∀k,1≤k→rbB k b0:=fun k hk=>eK hk (hb _ (by simp))
 refine aD tok Tryz.func51 rfl rfl ?_;refine wx ?_;simp -implicitDefEqProofs -dsimp[Tryz.f51,List.replicate,aG,LS,LR,hne',hme'];refine aK (co 3 1 [] 2 [1] rfl (et _ _) (by simp) (co 113 1 [] 2 [2] rfl (et _ _) (by simp) (W_loopM 77 [7,8,9,10,19,20,21,22,23,24,25,26,27,28,29,30,31,32,33,34,35,36,37,38,39,40,41,42,43,44,45,46,47,48,49,50,51,52,53,54,55,56,57,58,59,60,61,62,63,64,65,66,67,68,69,70,71,72,73,74,75,76] (by simp[mB]<;>rfl) (σ:=Nat×Nat) (fun p=>p.1≤m∧p.2=p.1*n) (fun p=>m-p.1) (fun p=>[(19,.int .i64 p.1)]) (fun p=>[b0,B.cells [.str t.name,.lst 1 ff (t.attrs.map V.str),.lst 2 gg (t.rows.map aL)],B.cells [.int .i64 n,.buf 3 0 p.2 p.2,.buf 4 0 p.2 p.2],B.buf 3 1 (paR p.2) false,B.buf 113 1 (knL K p.2) false]) (0,0) ⟨by simp,by simp⟩ (by simp) (by simp[paR_zero,knL_zero]) (by simp) ?_)));rintro⟨i,c⟩ ⟨hi,hc⟩ N Q hN hQ;simp only at hi hc hN;by_cases hib:i<m
 ·have hit:i<t.rows.length:=by omega
  obtain⟨rw,hrw⟩:∃rw,rw=t.rows[i]:=⟨_,rfl⟩;have hrw':=hrw.symm
  have hvl:rw.vals.length=n:=by rw[hrw,hne];exact hv.len _ (List.getElem_mem hit)
  refine wx ?_;simp -implicitDefEqProofs -dsimp[hib,hrw',aL,hit,LV,hne'];refine aK (W_loopM 76 [8,9,10,26,27,28,29,30,31,32,33,34,35,36,37,38,39,40,41,42,43,44,45,46,47,48,49,50,51,52,53,54,55,56,57,58,59,60,61,62,63,64,65,66,67,68,69,70,71,72,73,74,75] (by simp[mB]<;>rfl) (σ:=Nat×Nat) (fun p=>p.1≤n∧p.2=i*n+p.1) (fun p=>n-p.1) (fun p=>[(26,.int .i64 p.1)]) (fun p=>[b0,B.cells [.str t.name,.lst 1 ff (t.attrs.map V.str),.lst 2 gg (t.rows.map aL)],B.cells [.int .i64 n,.buf 3 0 p.2 p.2,.buf 4 0 p.2 p.2],B.buf 3 1 (paR p.2) false,B.buf 113 1 (knL K p.2) false,B.cells [.int .i64 rw.id,.lst 3 false (rw.vals.map ap)]]) (0,c) ⟨by simp,by simp[hc]⟩ (by simp) (by simp) (by simp) ?_);rintro⟨a,c2⟩ ⟨ha,hc2⟩ N2 Q2 hN2 hQ2;simp only at ha hc2 hN2;by_cases hab:a<n
  ·have hlt:=aq hib hab;have hbig:m*n≤1000*16:=Nat.mul_le_mul hm hn;have hpl:=paR_len c2;have hkl:=lg K c2;have hps:=paR_succ c2;have hks:=knL_succ K c2
   have hat:bP t (i*n+a)=⟨rw.id,(a:Int)⟩:=by
    rw[hne,fS t (hne▸hab),av hit,←hrw]
   have hvt:bC t (i*n+a)=vAt rw.vals a:=by
    rw[hne,dr t (hne▸hab),av hit,←hrw]
   have hbs:=iY cells ⟨rw.id,(a:Int)⟩ cf hcl;simp only[aN]at hbs;have hmem:=mf hs ⟨rw.id,(a:Int)⟩;have hcap:=cap8 c2 (by omega)
   cases hq:bsF cells ⟨rw.id,(a:Int)⟩ with
   | true =>
    rw[hq]at hbs
    have hKc:K c2=none:=by rw[hKe,hc2];exact lT (by rw[hat];exact hmem.1 hq)
    rw[hKc]at hks;refine wx ?_;simp -implicitDefEqProofs -dsimp[hab];refine aK (am tok mixed [11,14] [(0,[1])] [] (by kernel_rfl) fun C K hC hK=>?_);simp -implicitDefEqProofs [hpl,hcap];refine hK _ _ ?_;simp -implicitDefEqProofs -dsimp[];refine(aF (hbs) (by simp)).mono ?_;rintro r H' ⟨rfl,rfl⟩;simp -implicitDefEqProofs -dsimp[hkl,hcap,aJ a (by omega),fR];refine hN2 (a+1,c2+1) _ _ ⟨by simp only;omega,by simp only;omega⟩ (by simp only;omega) (by simp) ⟨[],by simp[hps,hks,fR]⟩ (by simp[LC]) (by simp[↓hb0])
   | false =>
    rw[hq]at hbs
    have hKc:K c2=some (vAt rw.vals a):=by rw[hKe,hc2,←hvt];exact ef (by rw[hat];exact fun h=>by rw[hmem.2 h]at hq;cases hq)
    rw[hKc]at hks
    have hva:a<rw.vals.length:=by omega
    have hvi:=fC hva;rw[hvi]at hks;refine wx ?_;simp -implicitDefEqProofs -dsimp[hab];refine aK (am tok mixed [11,14] [(0,[1])] [] (by kernel_rfl) fun C K hC hK=>?_);simp -implicitDefEqProofs [hpl,hcap];refine hK _ _ ?_;simp -implicitDefEqProofs -dsimp[];refine(aF (hbs) (by simp)).mono ?_;rintro r H' ⟨rfl,rfl⟩;simp -implicitDefEqProofs -dsimp[];refine aK (am tok mixed [10,13] [(0,[1])] [] (by kernel_rfl) fun C K hC hK=>?_);simp -implicitDefEqProofs [hkl,hcap,hva,ap,fR];refine hK _ _ ?_;simp -implicitDefEqProofs -dsimp[aJ a (by omega)];refine hN2 (a+1,c2+1) _ _ ⟨by simp only;omega,by simp only;omega⟩ (by simp only;omega) (by simp) ⟨[],by simp[hps,hks,fR]⟩ (by simp[LC]) (by simp[↓hb0])
  ·have hae:a=n:=by omega
   subst hae;refine wx ?_;simp -implicitDefEqProofs -dsimp[hab];refine hQ2 _ _ _ ?_;simp -implicitDefEqProofs -dsimp[aJ i (by omega)];refine hN (i+1,c2) _ _ ⟨by simp only;omega,by simp only;rw[hc2,Nat.add_mul];omega⟩ (by simp only;omega) (by simp) ⟨_,rfl⟩ (by simp[LC]) (by simp[↓hb0])
 ·have hie:i=m:=by omega
  subst hie;refine wx ?_;simp -implicitDefEqProofs -dsimp[hib];refine hQ _ _ _ ?_;simp -implicitDefEqProofs -dsimp[];simp[hY,LS,LR,←hme,←hne,hc]
@[simp ↓ high] theorem rbB_LC (n e z:Nat) (l:List Cr) (fz:Bool):rbB n (.buf e z (l.map aN) fz)↔True:=rbB_buf1 (fun x hx=>by
 obtain⟨c,_,rfl⟩:=List.mem_map.1 hx
 exact⟨encCr_pure c,rfl⟩)
theorem begOk(H:List B)(ff gg:Bool)(t:Tb)(K:Nat→Option Vl)(hb:∀bl∈H,rbB H.length bl):HOk (hY H ff gg t K) (H.length+1) (H.length+2) (H.length+3) t.attrs.length (t.rows.length*t.attrs.length) K:=by
 have hlen:(hY H ff gg t K).length=H.length+4:=by simp[hY]
 refine⟨?_,by omega,?_,by omega,by omega,fun P bl hbl=>?_⟩
 ·unfold hY;rw[List.getElem?_append_right (by omega)];simp
 ·unfold hY;rw[List.getElem?_append_right (by omega)];simp
 ·rw[hlen];unfold Ht hY at hbl;rw[List.set_append_right _ _ (by omega)]at hbl
  rcases List.mem_append.1 hbl with h | h
  ·exact eK (by omega) (hb bl h)
  ·simp only[show H.length+2-H.length=2 by omega,List.set_cons_succ,List.set_cons_zero,List.mem_cons,List.not_mem_nil,or_false]at h
   rcases h with rfl | rfl | rfl | rfl
   ·simp[LS,LR]
   ·simp
   ·simp
   ·simp
theorem begHt(H:List B)(ff gg:Bool)(t:Tb)(K:Nat→Option Vl):Ht (hY H ff gg t K) (H.length+2) (List.range (t.rows.length*t.attrs.length))=hY H ff gg t K:=by
 unfold Ht hY;rw[List.set_append_right _ _ (by omega)];simp only[show H.length+2-H.length=2 by omega,List.set_cons_succ,List.set_cons_zero];rfl
theorem ec{t:Tb}(hv:TbV t):t.rows.length*t.attrs.length≤1000000:=by
 have:=Nat.mul_le_mul hv.rows hv.attrs;omega
theorem qI(t:Tb)(ff gg df cf:Bool)(fds:List Fd)(cells:List Cr)(hv:TbV t)(hF:bU fds)(hs:aY cells)(hcl:cells.length≤1000000):
  aR Tryz.prog 44 [aG ff gg t,LF df fds,LC cf cells] fun r=>r = .bool (okB (aS t fds cells)):=by
 obtain⟨b0,hb0⟩:∃b0,b0=B.cells [.str t.name,.lst 1 ff (t.attrs.map V.str),.lst 2 gg (t.rows.map aL)]:=⟨_,rfl⟩
 have hrb:∀bl∈[b0],rbB 1 bl:=by rw[hb0];simp
 have c1:=begin1 t ff gg cf fds cells hv hs hcl b0 hrb;have g:=begOk [b0] ff gg t (aS t fds cells).K hrb;have c2:=fill_u (frt_init (aS t fds cells)) (rfl:(aS t fds cells).m*(aS t fds cells).n=_) rfl g (ec hv) hv.attrs (by have:=hv.rows;show t.rows.length≤_;omega) df hF;have hht:=begHt [b0] ff gg t (aS t fds cells).K;rw[show List.range ((aS t fds cells).m*(aS t fds cells).n)=List.range (t.rows.length*t.attrs.length) from rfl]at c2;rw[hht]at c2;have c2:=c2.mono (K':=fun r' H'=>r' = .bool (okB (aS t fds cells))∧H'=Ht (hY [b0] ff gg t (aS t fds cells).K) 3 (qD (aS t fds cells) (List.range (t.rows.length*t.attrs.length)))++fillT (aS t fds cells) (List.range (t.rows.length*t.attrs.length))) (fun r H ⟨a,b,_⟩=>⟨a,b⟩);obtain⟨H1,hH1⟩:∃H1,H1=hY [b0] ff gg t (aS t fds cells).K:=⟨_,rfl⟩;obtain⟨H2,hH2⟩:∃H2,H2=Ht (hY [b0] ff gg t (aS t fds cells).K) 3 (qD (aS t fds cells) (List.range (t.rows.length*t.attrs.length)))++fillT (aS t fds cells) (List.range (t.rows.length*t.attrs.length)):=⟨_,rfl⟩;obtain⟨R,hR⟩:∃R,R=okB (aS t fds cells):=⟨_,rfl⟩;rw[←hH1]at c1;rw[←hH2,←hR,←hH1]at c2;rw[←hR]
 have hat:H1[0]?=some b0:=by rw[hH1];rfl
 rw[hb0]at hat;rw[hb0]at c1;simp only[show(aS t fds cells).m=t.rows.length from rfl,show(aS t fds cells).fds=fds from rfl]at c2;simp only[aG,LS,LR,LC]at c1;simp only[LF]at c2;refine aC (aD tok Tryz.func44 rfl rfl ?_);refine wx ?_;simp -implicitDefEqProofs -dsimp[Tryz.f44,List.replicate,aG,LS,LR,LC,LF];refine .inl (aK (am tok mixed [2,7] [(4,[0]),(5,[0])] [(.ptr 2 0,H1),(.bool R,H2)] (by kernel_rfl) fun C K hC hK=>?_));simp -implicitDefEqProofs [hat];refine⟨⟨hC _ _ _ _ c1,hC _ _ _ _ c2⟩,hK _ _ ?_⟩;simp -implicitDefEqProofs -dsimp[]
noncomputable def dj(t:Tb)(l:List Cr)(x:Nat):List Cr:=open Classical in ((List.range x).map (bP t)).filter fun c=>decide (c∉l)
theorem mw(t:Tb)(l:List Cr):dj t l (t.rows.length*t.attrs.length)=bg t l:=rfl
theorem ip(t:Tb)(l:List Cr):dj t l 0=[]:=rfl
theorem othTo_in{t:Tb}{l:List Cr}{x:Nat}(h:bP t x∈l):dj t l (x+1)=dj t l x:=by
 unfold dj;rw[List.range_succ,List.map_append,List.filter_append];simp[h]
theorem othTo_out{t:Tb}{l:List Cr}{x:Nat}(h:bP t x∉l):dj t l (x+1)=dj t l x++[bP t x]:=by
 unfold dj;rw[List.range_succ,List.map_append,List.filter_append];simp[h]
theorem mv(t:Tb)(l:List Cr)(x:Nat):(dj t l x).length≤x:=by
 unfold dj;exact Nat.le_trans (List.length_filter_le _ _) (by simp)
theorem oA(n:Nat)(h:n≤1000000000):n≤9223372036854775806∧(n+1)*16≤140737488355328:=by omega
theorem all_u(t:Tb)(ff gg cf:Bool)(but:List Cr)(hv:TbV t)(hs:aY but)(hcl:but.length≤1000000):aR Tryz.prog 66 [aG ff gg t,LC cf but] fun r=>r=LC false (bg t but):=by
 have hm:=hv.rows;have hn:=hv.attrs;obtain⟨n,hne⟩:∃n,n=t.attrs.length:=⟨_,rfl⟩;obtain⟨m,hme⟩:∃m,m=t.rows.length:=⟨_,rfl⟩;have hne':=hne.symm;have hme':=hme.symm;rw[hne']at hn;rw[hme']at hm;refine aC (aD tok Tryz.func66 rfl rfl ?_);refine wx ?_;simp -implicitDefEqProofs -dsimp[Tryz.f66,List.replicate,aG,LS,LR,hne',hme'];refine aK (eY 49 2 [5] (by simp) (W_loopM 43 [5,7,8,9,10,11,15,16,17,18,19,20,21,22,23,24,25,26,27,28,29,30,31,32,33,34,35,36,37,38,39,40,41,42] (by simp[mB]<;>rfl) (σ:=Nat×Nat) (fun p=>p.1≤m∧p.2=p.1*n) (fun p=>m-p.1) (fun p=>[(15,.int .i64 p.1),(5,.buf 1 0 (dj t but p.2).length (dj t but p.2).length)]) (fun p=>[B.cells [.str t.name,.lst 1 ff (t.attrs.map V.str),.lst 2 gg (t.rows.map aL)],B.buf 49 2 ((dj t but p.2).map aN) false]) (0,0) ⟨by simp,by simp⟩ (by simp[ip]) (by simp[ip]) (by simp) ?_));rintro⟨i,c⟩ ⟨hi,hc⟩ N Q hN hQ;simp only at hi hc hN;by_cases hib:i<m
 ·have hit:i<t.rows.length:=by omega
  obtain⟨rw,hrw⟩:∃rw,rw=t.rows[i]:=⟨_,rfl⟩;have hrw':=hrw.symm;refine wx ?_;simp -implicitDefEqProofs -dsimp[hib,hrw',aL,hit,LV,hne'];refine aK (W_loopM 42 [5,8,9,10,11,22,23,24,25,26,27,28,29,30,31,32,33,34,35,36,37,38,39,40,41] (by simp[mB]<;>rfl) (σ:=Nat×Nat) (fun p=>p.1≤n∧p.2=i*n+p.1) (fun p=>n-p.1) (fun p=>[(22,.int .i64 p.1),(5,.buf 1 0 (dj t but p.2).length (dj t but p.2).length)]) (fun p=>[B.cells [.str t.name,.lst 1 ff (t.attrs.map V.str),.lst 2 gg (t.rows.map aL)],B.buf 49 2 ((dj t but p.2).map aN) false,B.cells [.int .i64 rw.id,.lst 3 false (rw.vals.map ap)]]) (0,c) ⟨by simp,by simp[hc]⟩ (by simp) (by simp) (by simp) ?_);rintro⟨a,c2⟩ ⟨ha,hc2⟩ N2 Q2 hN2 hQ2;simp only at ha hc2 hN2;by_cases hab:a<n
  ·have hlt:=aq hib hab;have hbig:m*n≤1000*16:=Nat.mul_le_mul hm hn;have hol:=mv t but c2
   have hat:bP t c2=⟨rw.id,(a:Int)⟩:=by
    rw[hc2,hne,fS t (hne▸hab),av hit,←hrw]
   have hbs:=iY but ⟨rw.id,(a:Int)⟩ cf hcl;simp only[aN]at hbs;have hmem:=mf hs ⟨rw.id,(a:Int)⟩
   cases hq:bsF but ⟨rw.id,(a:Int)⟩ with
   | true =>
    rw[hq]at hbs;have hst:=othTo_in (t:=t) (l:=but) (x:=c2) (by rw[hat];exact hmem.1 hq);refine wx ?_;simp -implicitDefEqProofs -dsimp[hab];refine(aF (hbs) (by simp)).mono ?_;rintro r H' ⟨rfl,rfl⟩;simp -implicitDefEqProofs -dsimp[aJ a (by omega)];refine hN2 (a+1,c2+1) _ _ ⟨by simp only;omega,by simp only;omega⟩ (by simp only;omega) (by simp[hst]) ⟨[B.cells [.int .i64 rw.id,.int .i64 a]],by simp[hst]⟩ (by simp[LC]) (by simp)
   | false =>
    rw[hq]at hbs;have hst:=othTo_out (t:=t) (l:=but) (x:=c2) (by rw[hat];exact fun h=>by rw[hmem.2 h]at hq;cases hq);rw[hat]at hst;refine wx ?_;simp -implicitDefEqProofs -dsimp[hab];refine(aF (hbs) (by simp)).mono ?_;rintro r H' ⟨rfl,rfl⟩;simp -implicitDefEqProofs -dsimp[oA (dj t but c2).length (by omega),aJ a (by omega)];refine hN2 (a+1,c2+1) _ _ ⟨by simp only;omega,by simp only;omega⟩ (by simp only;omega) (by simp[hst]) ⟨[B.cells [.int .i64 rw.id,.int .i64 a]],by simp[hst,aN]⟩ (by simp[LC]) (by simp)
  ·have hae:a=n:=by omega
   subst hae;refine wx ?_;simp -implicitDefEqProofs -dsimp[hab];refine hQ2 _ _ _ ?_;simp -implicitDefEqProofs -dsimp[aJ i (by omega)];refine hN (i+1,c2) _ _ ⟨by simp only;omega,by simp only;rw[hc2,Nat.add_mul];omega⟩ (by simp only;omega) (by simp) ⟨_,rfl⟩ (by simp[LC]) (by simp)
 ·have hie:i=m:=by omega
  subst hie;refine wx ?_;simp -implicitDefEqProofs -dsimp[hib];refine hQ _ _ _ ?_;simp -implicitDefEqProofs -dsimp[];rw[←mw,←hme,←hne,←hc];exact dK rfl (by simp) (by simp)
theorem fy(t:Tb)(hv:TbV t)(l:List Cr):(bg t l).length≤1000000:=by
 have h:=mv t l (t.rows.length*t.attrs.length);rw[mw]at h;have:=ec hv;omega
theorem nh(t:Tb)(ff gg df cf:Bool)(fds:List Fd)(cells:List Cr)(hv:TbV t)(hF:bU fds)(hs:aY cells)(hcl:cells.length≤1000000):
  aR Tryz.prog 48 [aG ff gg t,LF df fds,LC cf cells] fun r=>r = .bool (lX t fds cells):=by
 have c1:=all_u t ff gg cf cells hv hs hcl;have c2:=qI t ff gg df false fds (bg t cells) hv hF (hv.sorted_others cells) (fy t hv cells);rw[necB_eq];simp only[aG,LS,LR,LC,LF]at c1 c2;refine aC (aD tok Tryz.func48 rfl rfl ?_);refine wx ?_;simp -implicitDefEqProofs -dsimp[Tryz.f48,List.replicate,aG,LS,LR,LC,LF];refine .inr ⟨aI (by kernel_rfl),?_⟩;refine ae _ (aF (c1) (by simp)) ?_;simp -implicitDefEqProofs -dsimp[];refine ae _ (aF (c2) (by simp)) ?_;simp -implicitDefEqProofs -dsimp[]
section
theorem or_lt{a b n:Nat} : a ||| b<2^n↔a<2^n∧b<2^n:=by
 constructor
 ·intro h;exact⟨Nat.lt_of_le_of_lt Nat.left_le_or h,Nat.lt_of_le_of_lt Nat.right_le_or h⟩
 ·rintro⟨h1,h2⟩;exact Nat.or_lt_two_pow h1 h2
theorem shr32(a n:Nat)(hn:n≤16):((a:Int)).fdiv (2^min n IntKind.u32.bits)=((a / 2^n:Nat):Int):=by
 have h1:min n IntKind.u32.bits=n:=Nat.min_eq_left (by show n≤32;omega);rw[h1,Int.fdiv_eq_ediv_of_nonneg _ (by have:(0:Int)<2^n:=Int.pow_pos (by omega);omega)];simp
theorem fdOk_or(n:Nat)(d:Fd):mG n d=decide ((d.l ||| d.r) / 2^n=0):=by
 rw[Bool.eq_iff_iff,decide_eq_true_iff,Nat.div_eq_zero_iff_lt (Nat.pow_pos (by omega)),or_lt];unfold mG;simp
theorem closureValid(n:Nat)(fds:List Fd)(f:Bool)(hn:n≤16)(hF:bU fds):aR Tryz.prog 88 [.int .i64 n,LF f fds] fun r=>r = .int .i64 (cG n fds):=by
 obtain⟨hF1,hF2⟩:=hF
 have hn1:¬(16:Int)<n:=by omega
 have hn0:¬(n:Int)<0:=by omega
 unfold cG;by_cases h64:64<fds.length
 ·rw[if_pos h64];refine aC (aD tok Tryz.func88 rfl rfl ?_);refine wx ?_;simp -implicitDefEqProofs -dsimp[Tryz.f88,List.replicate,LF,hn0,hn1,show(64:Int)<fds.length by omega]
 ·rw[if_neg h64]
  obtain⟨E,hE⟩:∃E:Int,E=if fds.all (mG n) then 0 else 1:=⟨_,rfl⟩
  rw[←hE];refine aC (aD tok Tryz.func88 rfl rfl ?_);refine wx ?_;simp -implicitDefEqProofs -dsimp[Tryz.f88,List.replicate,LF,hn0,hn1,show ¬(64:Int)<fds.length by omega];refine aK (W_loopM 31 [4,6,18,19,20,21,22,23,24,25,26,27,28,29,30] (by simp[mB]<;>rfl) (σ:=Nat) (fun i=>i≤fds.length∧(if(fds.drop i).all (mG n) then(0:Int) else 1)=E) (fun i=>fds.length-i) (fun i=>[(18,.int .i64 i)]) (fun _=>[]) 0 ⟨by omega,by rw[hE,List.drop_zero]⟩ (by simp) rfl (by simp) ?_);rintro i ⟨hi,hx⟩ N Q hN hQ;by_cases hb:i<fds.length
  ·rw[List.drop_eq_getElem_cons hb,List.all_cons,fdOk_or]at hx;obtain⟨h1,h2⟩:=hF2 fds[i] (List.getElem_mem hb);have ho:=or32 fds[i].l fds[i].r h1 h2;have hs:=shr32 (fds[i].l ||| fds[i].r) n hn;obtain⟨q,hq⟩:∃q,q=(fds[i].l ||| fds[i].r) / 2^n:=⟨_,rfl⟩;rw[←hq]at hs hx
   obtain⟨o,hoe⟩:∃o,o=fds[i].l ||| fds[i].r:=⟨_,rfl⟩
   rw[←hoe]at ho hs;by_cases h0:q=0
   ·rw[decide_eq_true h0,Bool.true_and]at hx;rw[h0]at hs;refine wx ?_;simp -implicitDefEqProofs -dsimp[hb,cT,ho,hs,aJ i (by omega)];refine hN (i+1) _ _ ⟨by omega,hx⟩ (by omega) ?_ ⟨[B.cells [.int .u32 (fds[i].l:Int),.int .u32 (fds[i].r:Int)]],?_⟩ ?_ ?_<;>simp[or_imp,forall_and,L1,aW,LF]
   ·rw[decide_eq_false h0,Bool.false_and,if_neg (by simp)]at hx;refine wx ?_;simp -implicitDefEqProofs -dsimp[hb,cT,ho,hs,show ¬((q:Int)=0) by omega,h0];refine hQ _ _ _ ?_;simp -implicitDefEqProofs -dsimp[];exact hx
  ·rw[List.drop_of_length_le (by omega)]at hx;refine wx ?_;simp -implicitDefEqProofs -dsimp[hb];refine hQ _ _ _ ?_;simp -implicitDefEqProofs -dsimp[];simpa using hx
open Classical in
noncomputable def kY(l:List Cr):Bool:=decide (aY l)
theorem jw{l:List Cr} : kY l=true↔aY l:=by unfold kY;simp
theorem jI{l:List Cr}(h:∀j (h:j+1<l.length),cLt l[j] l[j+1]):aY l:=by
 unfold aY;rw[List.pairwise_iff_getElem];intro i j hi hj hij
 induction j with
 | zero=>omega
 | succ j ih =>
  rcases Nat.lt_or_ge i j with h1 | h1
  ·exact ek (ih (by omega) h1) (h j hj)
  ·have:i=j:=by omega
   subst this;exact h i hj
theorem sortB_no{l:List Cr}{j:Nat}(h:j+1<l.length)(hn:¬cLt l[j] l[j+1]):kY l=false:=by
 cases hb:kY l
 ·rfl
 ·exact absurd (dy (jw.1 hb) (by omega) h (by omega)) hn
theorem ordered_u(l:List Cr)(f:Bool)(hl:l.length≤1000000):aR Tryz.prog 89 [LC f l] fun r=>r = .bool (kY l):=by
 obtain⟨E,hE⟩:∃E,E=kY l:=⟨_,rfl⟩;rw[←hE];refine aC (aD tok Tryz.func89 rfl rfl ?_);refine wx ?_;simp -implicitDefEqProofs -dsimp[Tryz.f89,List.replicate,LC];refine aK (W_loopM 21 [2,3,4,5,6,7,8,9,10,11,12,13,14,15,16,17,18,19,20] (by simp[mB]<;>rfl) (σ:=Nat) (fun i=>1≤i∧∀j (h:j+1<l.length),j+1<i→cLt l[j] l[j+1]) (fun i=>l.length-i) (fun i=>[(3,.int .i64 i)]) (fun _=>[]) 1 ⟨by omega,fun j _ h=>by omega⟩ (by simp) rfl (by simp) ?_);rintro i ⟨hi,hx⟩ N Q hN hQ;by_cases hb:i<l.length
 ·obtain⟨k,hki⟩:∃k,i=k+1:=⟨i-1,by omega⟩
  have hk:k<l.length:=by omega
  have hc:=kL l[k] l[i]
  have hw:IntKind.i64.wrap ((i:Int)-1)=(k:Int):=by rw[wrapP i (by omega) hi];omega
  simp only[aN]at hc;by_cases hq:bp l[k] l[i]<0
  ·have hlt:=(eR _ _).1 hq;refine wx ?_;simp -implicitDefEqProofs -dsimp[hb,hw,hk,aN];refine .inr ⟨aI (by kernel_rfl),?_⟩;refine ae _ (aF (hc) (by simp)) ?_;simp -implicitDefEqProofs -dsimp[show ¬0≤bp l[k] l[i] by omega,aJ i (by omega)];refine hN (i+1) _ _ ⟨by omega,fun j h hj=>?_⟩ (by omega) (by simp) ⟨[],rfl⟩ (by simp) (by simp)
   rcases Nat.lt_or_ge j k with h1 | h1
   ·exact hx j h (by omega)
   ·have:j=k:=by omega
    subst this;subst hki;exact hlt
  ·have hno:kY l=false:=by
    subst hki;exact sortB_no hb (fun h=>hq ((eR _ _).2 h))
   rw[hno]at hE;refine wx ?_;simp -implicitDefEqProofs -dsimp[hb,hw,hk,aN];refine .inr ⟨aI (by kernel_rfl),?_⟩;refine ae _ (aF (hc) (by simp)) ?_;simp -implicitDefEqProofs -dsimp[show 0≤bp l[k] l[i] by omega];refine hQ _ _ _ ?_;simp -implicitDefEqProofs -dsimp[];exact hE
 ·have hyes:kY l=true:=jw.2 (jI fun j h=>hx j h (by omega));rw[hyes]at hE;refine wx ?_;simp -implicitDefEqProofs -dsimp[hb];refine hQ _ _ _ ?_;simp -implicitDefEqProofs -dsimp[];exact hE
def ixR(p:Rw→Bool)(rs:List Rw)(i:Nat):Int:=if h:i<rs.length then(if p rs[i] then(i:Int) else ixR p rs (i+1)) else -1
termination_by rs.length-i
theorem ixR_any(p:Rw→Bool)(rs:List Rw)(i:Nat):decide (0≤ixR p rs i)=(rs.drop i).any p:=by
 fun_induction ixR p rs i with
 | case1 i h h0=>rw[List.drop_eq_getElem_cons h,List.any_cons,h0];simp
 | case2 i h h0 ih=>rw[List.drop_eq_getElem_cons h,List.any_cons,ih];simp[h0]
 | case3 i h=>rw[List.drop_of_length_le (by omega)];rfl
theorem idxFuncR(H:List B)(fv:V)(p:Rw→Bool)(rs:List Rw)(g:Bool)(hes:rs.length≤1000000)(hH:∀bl∈H,rbB H.length bl)(hfv:rb H.length fv)
  (hp:∀m∈rs,aT Tryz.prog fv [aL m] H fun r H'=>r = .bool (p m)∧∃G,H'=H++G):bA Tryz.prog 130 [LR g rs,fv] H fun r H'=>r = .int .i64 (ixR p rs 0)∧∃G,H'=H++G:=by
 refine aD tok Tryz.func130 rfl rfl ?_;refine wx ?_;simp -implicitDefEqProofs -dsimp[Tryz.f130,List.replicate,LR];refine aK (W_loopM 19 [4,5,8,9,10,11,12,13,14,15,16,17,18] (by simp[mB]<;>rfl) (σ:=Nat) (fun i=>ixR p rs i=ixR p rs 0) (fun i=>rs.length-i) (fun i=>[(8,.int .i64 i)]) (fun _=>H) 0 rfl (by simp) rfl (by simp) ?_);intro i hx N Q hN hQ;by_cases hb:i<rs.length
 ·rw[ixR,dif_pos hb]at hx;have hc:=hp rs[i] (List.getElem_mem hb);cases hq:p rs[i]
  ·rw[hq]at hc hx;simp only[aL,LV]at hc;refine wx ?_;simp -implicitDefEqProofs -dsimp[hb,aL,LV];refine hc.mono ?_;rintro r H' ⟨rfl,G,rfl⟩;simp -implicitDefEqProofs -dsimp[aJ i (by omega)];refine hN (i+1) _ _ (by simpa using hx) (by omega) (by simp) ⟨G,rfl⟩ (by simp;exact hfv) hH
  ·rw[hq]at hc hx;simp only[aL,LV]at hc;refine wx ?_;simp -implicitDefEqProofs -dsimp[hb,aL,LV];refine hc.mono ?_;rintro r H' ⟨rfl,G,rfl⟩;simp -implicitDefEqProofs -dsimp[];refine hQ _ _ _ ?_;simp -implicitDefEqProofs -dsimp[];simpa using hx
 ·rw[ixR,dif_neg hb]at hx;refine wx ?_;simp -implicitDefEqProofs -dsimp[hb];refine hQ _ _ _ ?_;simp -implicitDefEqProofs -dsimp[];simpa using hx
def hasId(t:Tb)(id:Int):Bool:=t.rows.any fun r=>r.id == id
def lv(t:Tb)(id:Int):Int:=ixR (fun r=>r.id == id) t.rows 0
theorem findI_has(t:Tb)(id:Int):decide (0≤lv t id)=hasId t id:=by
 have:=ixR_any (fun r=>r.id == id) t.rows 0;rw[List.drop_zero]at this;exact this
theorem find_t(t:Tb)(ff gg:Bool)(id:Int)(hr:t.rows.length≤1000000):aR Tryz.prog 90 [aG ff gg t,.int .i64 id] fun r=>r = .tup [.int .i64 (if 0≤lv t id then lv t id else 0),.bool (hasId t id)]:=by
 have hh:=findI_has t id
 have hclo:∀m∈t.rows,aT Tryz.prog (.fn 131 [.ptr 1 0]) [aL m] [B.cells [.str t.name,LS ff t.attrs,LR gg t.rows],B.cells [.int .i64 id]] fun r H'=>r = .bool (m.id == id)∧∃G,H'=[B.cells [.str t.name,LS ff t.attrs,LR gg t.rows],B.cells [.int .i64 id]]++G:=fun m hm=>by
  simp only[aT,List.cons_append,List.nil_append];refine aD tok Tryz.func131 rfl rfl ?_;refine wx ?_;simp -implicitDefEqProofs -dsimp[Tryz.f131,List.replicate,aL,LS,LR,LV]
 have hcf:=idxFuncR [B.cells [.str t.name,LS ff t.attrs,LR gg t.rows],B.cells [.int .i64 id]] (.fn 131 [.ptr 1 0]) (fun m=>m.id == id) t.rows gg hr (by simp[LS,LR]) (by simp) hclo;simp only[LS,LR]at hcf;rw[←hh];refine aC (aD tok Tryz.func90 rfl rfl ?_);refine wx ?_;simp -implicitDefEqProofs -dsimp[Tryz.f90,List.replicate,aG,LS,LR];refine aT.mono (K:=fun r H'=>r = .int .i64 (lv t id)∧∃G,H'=[B.cells [.str t.name,.lst 1 ff (t.attrs.map V.str),.lst 2 gg (t.rows.map aL)],B.cells [.int .i64 id]]++G) hcf ?_;rintro r H' ⟨rfl,G,rfl⟩;by_cases h0:0≤lv t id
 ·rw[if_pos h0];simp -implicitDefEqProofs -dsimp[h0,show ¬lv t id<0 by omega]
 ·rw[if_neg h0];simp -implicitDefEqProofs -dsimp[h0,show lv t id<0 by omega]
end
def dq(t:Tb)(c:Cr):Bool:=hasId t c.id&&(decide (0≤c.attr)&&decide (c.attr<t.attrs.length))
noncomputable def dO(t:Tb)(fds:List Fd)(cells:List Cr):Int:=open Classical in if validT t≠0 then validT t else if cG t.attrs.length fds≠0 then cG t.attrs.length fds else if 60<t.rows.length*t.attrs.length then 3 else if ¬aY cells then 1 else if cells.all (dq t) then 0 else 4
theorem kO{t:Tb}{fds:List Fd}{cells:List Cr}(h:TbOk t)(he:dO t fds cells=0):TbV t∧cG t.attrs.length fds=0∧t.rows.length*t.attrs.length≤60∧aY cells∧cells.all (dq t)=true:=by
 unfold dO at he;split at he
 ·rename_i h1;exact absurd he h1
 ·rename_i h1;split at he
  ·rename_i h2;exact absurd he h2
  ·rename_i h2;split at he
   ·cases he
   ·rename_i h3;split at he
    ·cases he
    ·rename_i h4;split at he
     ·rename_i h5;exact⟨jS h (Classical.not_not.1 h1),Classical.not_not.1 h2,by omega,Classical.not_not.1 h4,h5⟩
     ·cases he
theorem oh(t:Tb)(ff gg df cf:Bool)(fds:List Fd)(cells:List Cr)(ht:TbOk t)(hF:bU fds)(hcl:cells.length≤1000000):
  aR Tryz.prog 43 [aG ff gg t,LF df fds,LC cf cells] fun r=>r = .int .i64 (dO t fds cells):=by
 have c1:=oz t ff gg ht;simp only[aG,LS,LR]at c1;by_cases h1:validT t=0
 ·have hv:=jS ht h1;rw[h1]at c1;have c2:=closureValid t.attrs.length fds df hv.attrs hF;by_cases h2:cG t.attrs.length fds=0
  ·rw[h2]at c2;have hm:=hv.rows;have hn:=hv.attrs;have hmn:=Nat.mul_le_mul hm hn
   have hw:IntKind.i64.wrap ((t.rows.length:Int)*(t.attrs.length:Int))=((t.rows.length*t.attrs.length:Nat):Int):=by rw[wrap64 (by rw[←Int.natCast_mul];omega) (by rw[←Int.natCast_mul];omega)];push_cast;rfl
   obtain⟨mn,hmn'⟩:∃mn,mn=t.rows.length*t.attrs.length:=⟨_,rfl⟩;rw[←hmn']at hw;by_cases h3:60<mn
   ·rw[show dO t fds cells=3 by unfold dO;rw[if_neg (by simp[h1]),if_neg (by simp[h2]),if_pos (by omega)]];refine aC (aD tok Tryz.func43 rfl rfl ?_);refine wx ?_;simp -implicitDefEqProofs -dsimp[Tryz.f43,List.replicate,aG,LS,LR];refine(aF (c1) (by simp)).mono ?_;rintro r H' ⟨rfl,rfl⟩;simp -implicitDefEqProofs -dsimp[];refine(aF (c2) (by simp)).mono ?_;rintro r H' ⟨rfl,rfl⟩;simp -implicitDefEqProofs -dsimp[hw,show(60:Int)<mn by omega]
   ·have c3:=ordered_u cells cf hcl;by_cases h4:aY cells
    ·rw[jw.2 h4]at c3;obtain⟨E,hE⟩:∃E,E=dO t fds cells:=⟨_,rfl⟩
     have hE1:dO t fds cells=if cells.all (dq t) then(0:Int) else 4:=by unfold dO;rw[if_neg (by simp[h1]),if_neg (by simp[h2]),if_neg (by omega),if_neg (by simp[h4])]
     have hE2:(if cells.all (dq t) then(0:Int) else 4)=E:=by rw[hE,hE1]
     rw[←hE];simp only[LC]at c3;refine aC (aD tok Tryz.func43 rfl rfl ?_);refine wx ?_;simp -implicitDefEqProofs -dsimp[Tryz.f43,List.replicate,aG,LS,LR,LC];refine(aF (c1) (by simp)).mono ?_;rintro r H' ⟨rfl,rfl⟩;simp -implicitDefEqProofs -dsimp[];refine(aF (c2) (by simp)).mono ?_;rintro r H' ⟨rfl,rfl⟩;simp -implicitDefEqProofs -dsimp[hw,show ¬(60:Int)<mn by omega];refine(aF (c3) (by simp)).mono ?_;rintro r H' ⟨rfl,rfl⟩;simp -implicitDefEqProofs -dsimp[];refine aK (W_loopM 66 [6,10,11,12,39,40,41,42,43,44,45,46,47,48,49,50,51,52,53,54,55,56,57,58,59,60,61,62,63,64,65] (by simp[mB]<;>rfl) (σ:=Nat) (fun i=>i≤cells.length∧(if(cells.drop i).all (dq t) then(0:Int) else 4)=E) (fun i=>cells.length-i) (fun i=>[(39,.int .i64 i)]) (fun _=>[B.cells [.str t.name,.lst 1 ff (t.attrs.map V.str),.lst 2 gg (t.rows.map aL)]]) 0 ⟨by omega,by rw[List.drop_zero];exact hE2⟩ (by simp) (by simp) (by simp) ?_);rintro i ⟨hi,hx⟩ N Q hN hQ;by_cases hb:i<cells.length
     ·rw[List.drop_eq_getElem_cons hb,List.all_cons]at hx;obtain⟨c,hc⟩:∃c,c=cells[i]:=⟨_,rfl⟩;rw[←hc]at hx;have hc':=hc.symm;have c4:=find_t t ff gg c.id ht.rows;simp only[aG,LS,LR]at c4;obtain⟨fi,hfi⟩:∃fi,fi=(if 0≤lv t c.id then lv t c.id else 0):=⟨_,rfl⟩;rw[←hfi]at c4
      cases h5:hasId t c.id with
      | false =>
       rw[h5]at c4;rw[show dq t c=false by simp[dq,h5],Bool.false_and,if_neg (by simp)]at hx;refine wx ?_;simp -implicitDefEqProofs -dsimp[hb,hc',aN];refine(aF (c4) (by simp)).mono ?_;rintro r H' ⟨rfl,rfl⟩;simp -implicitDefEqProofs -dsimp[];refine hQ _ _ _ ?_;simp -implicitDefEqProofs -dsimp[];exact hx
      | true =>
       rw[h5]at c4;by_cases h6:0≤c.attr
       ·by_cases h7:c.attr<t.attrs.length
        ·rw[show dq t c=true by simp[dq,h5,h6,h7],Bool.true_and]at hx;refine wx ?_;simp -implicitDefEqProofs -dsimp[hb,hc',aN];refine(aF (c4) (by simp)).mono ?_;rintro r H' ⟨rfl,rfl⟩;simp -implicitDefEqProofs -dsimp[show ¬c.attr<0 by omega,show ¬(t.attrs.length:Int)≤c.attr by omega,aJ i (by omega)];refine hN (i+1) _ _ ⟨by omega,hx⟩ (by omega) ?_ ⟨[B.cells [.int .i64 c.id,.int .i64 c.attr]],?_⟩ ?_ ?_<;>simp[or_imp,forall_and,L1,aW,LF,LC]
        ·rw[show dq t c=false by simp[dq,h7],Bool.false_and,if_neg (by simp)]at hx;refine wx ?_;simp -implicitDefEqProofs -dsimp[hb,hc',aN];refine(aF (c4) (by simp)).mono ?_;rintro r H' ⟨rfl,rfl⟩;simp -implicitDefEqProofs -dsimp[show ¬c.attr<0 by omega,show(t.attrs.length:Int)≤c.attr by omega];refine hQ _ _ _ ?_;simp -implicitDefEqProofs -dsimp[];exact hx
       ·rw[show dq t c=false by simp[dq,h6],Bool.false_and,if_neg (by simp)]at hx;refine wx ?_;simp -implicitDefEqProofs -dsimp[hb,hc',aN];refine(aF (c4) (by simp)).mono ?_;rintro r H' ⟨rfl,rfl⟩;simp -implicitDefEqProofs -dsimp[show c.attr<0 by omega];refine hQ _ _ _ ?_;simp -implicitDefEqProofs -dsimp[];exact hx
     ·rw[List.drop_of_length_le (by omega)]at hx;refine wx ?_;simp -implicitDefEqProofs -dsimp[hb];refine hQ _ _ _ ?_;simp -implicitDefEqProofs -dsimp[];simpa using hx
    ·have hno:kY cells=false:=by
      cases hb:kY cells
      ·rfl
      ·exact absurd (jw.1 hb) h4
     rw[hno]at c3;rw[show dO t fds cells=1 by unfold dO;rw[if_neg (by simp[h1]),if_neg (by simp[h2]),if_neg (by omega),if_pos h4]];refine aC (aD tok Tryz.func43 rfl rfl ?_);refine wx ?_;simp -implicitDefEqProofs -dsimp[Tryz.f43,List.replicate,aG,LS,LR];refine(aF (c1) (by simp)).mono ?_;rintro r H' ⟨rfl,rfl⟩;simp -implicitDefEqProofs -dsimp[];refine(aF (c2) (by simp)).mono ?_;rintro r H' ⟨rfl,rfl⟩;simp -implicitDefEqProofs -dsimp[hw,show ¬(60:Int)<mn by omega];refine(aF (c3) (by simp)).mono ?_;rintro r H' ⟨rfl,rfl⟩;simp -implicitDefEqProofs -dsimp[]
  ·rw[show dO t fds cells=cG t.attrs.length fds by unfold dO;rw[if_neg (by simp[h1]),if_pos h2]];refine aC (aD tok Tryz.func43 rfl rfl ?_);refine wx ?_;simp -implicitDefEqProofs -dsimp[Tryz.f43,List.replicate,aG,LS,LR];refine(aF (c1) (by simp)).mono ?_;rintro r H' ⟨rfl,rfl⟩;simp -implicitDefEqProofs -dsimp[];refine(aF (c2) (by simp)).mono ?_;rintro r H' ⟨rfl,rfl⟩;simp -implicitDefEqProofs -dsimp[h2]
 ·rw[show dO t fds cells=validT t by unfold dO;rw[if_pos h1]];refine aC (aD tok Tryz.func43 rfl rfl ?_);refine wx ?_;simp -implicitDefEqProofs -dsimp[Tryz.f43,List.replicate,aG,LS,LR];refine(aF (c1) (by simp)).mono ?_;rintro r H' ⟨rfl,rfl⟩;simp -implicitDefEqProofs -dsimp[h1]
section
open Classical in
noncomputable def eA(l:List Cr)(c:Cr):Bool:=decide (c∈l)
theorem bW{l:List Cr}{c:Cr} : eA l c=true↔c∈l:=by unfold eA;simp
theorem eqCr(H:List B)(a b c d:Int):gT T H 49 (.agg [.int .i64 a,.int .i64 b]) (.agg [.int .i64 c,.int .i64 d])=some (a == c&&b == d):=by
 have h1:∀x y:Int,eqD T 9999 2 (.int .i64 x) (.int .i64 y)=some (x == y):=fun x y=>by simp[eqD]
 have h2:∀x y:Int,eqD T 9999 3 (.int .i64 x) (.int .i64 y)=some (x == y):=fun x y=>by simp[eqD]
 simp only[gT];rw[show(10000:Nat)=9999+1 from rfl,eqD];simp only[T_49];simp only[if_true,eqFs,jn,T_2,T_3,db,List.getElem?_cons_zero,List.getElem?_cons_succ,Bool.false_eq_true,if_false,h1,h2];cases (a == c)<;>cases (b == d)<;>simp
theorem nn(l:List Cr)(c:Cr)(f:Bool)(hl:l.length≤1000000):aR Tryz.prog 50 [LC f l,aN c] fun r=>r = .bool (eA l c):=by
 obtain⟨E,hE⟩:∃E,E=eA l c:=⟨_,rfl⟩;rw[←hE];refine aC (aD tok Tryz.func50 rfl rfl ?_);refine wx ?_;simp -implicitDefEqProofs -dsimp[Tryz.f50,List.replicate,LC,aN];refine aK (W_loopM 18 [4,5,6,7,8,9,10,11,12,13,14,15,16,17] (by simp[mB]<;>rfl) (σ:=Nat) (fun i=>∀j (h:j<l.length),j<i→l[j]≠c) (fun i=>l.length-i) (fun i=>[(5,.int .i64 i)]) (fun _=>[B.cells [.int .i64 c.id,.int .i64 c.attr]]) 0 (fun j _ h=>by omega) (by simp) rfl (by simp) ?_);intro i hx N Q hN hQ;by_cases hb:i<l.length
 ·cases hq:(l[i].id == c.id&&l[i].attr == c.attr) with
  | true =>
   have he:l[i]=c:=by
    rw[Bool.and_eq_true,beq_iff_eq,beq_iff_eq]at hq;exact Cr.eq_iff.2 hq
   rw[bW.2 (he▸List.getElem_mem hb)]at hE;refine wx ?_;simp -implicitDefEqProofs -dsimp[hb,aN,eqCr,hq];refine .inr ⟨aI (by kernel_rfl),?_⟩;refine hQ _ _ _ ?_;simp -implicitDefEqProofs -dsimp[];exact hE
  | false =>
   have he:l[i]≠c:=fun h=>by subst h;simp at hq
   refine wx ?_;simp -implicitDefEqProofs -dsimp[hb,aN,eqCr,hq];refine .inr ⟨aI (by kernel_rfl),?_⟩;simp -implicitDefEqProofs -dsimp[aJ i (by omega)];refine hN (i+1) _ _ (fun j h hj=>?_) (by omega) (by simp) ⟨[],rfl⟩ (by simp) (by simp)
   rcases Nat.lt_or_ge j i with h1 | h1
   ·exact hx j h h1
   ·have:j=i:=by omega
    subst this;exact he
 ·have hno:eA l c=false:=by
   cases hh:eA l c
   ·rfl
   ·obtain⟨j,hj,h2⟩:=List.mem_iff_getElem.1 (bW.1 hh);exact absurd h2 (hx j hj (by omega))
  rw[hno]at hE;refine wx ?_;simp -implicitDefEqProofs -dsimp[hb];refine hQ _ _ _ ?_;simp -implicitDefEqProofs -dsimp[];exact hE
def ey(t:Tb)(c:Nat):List Cr:=(List.range c).map (bP t)
theorem cellsTo_succ(t:Tb)(c:Nat):ey t (c+1)=ey t c++[bP t c]:=by simp[ey,List.range_succ]
theorem nz(t:Tb)(c:Nat):(ey t c).length=c:=by simp[ey]
theorem gO(t:Tb):(ak t).length=t.rows.length*t.attrs.length:=by simp[ak]
theorem ol(t:Tb)(ff gg:Bool)(hr:t.rows.length≤1000)(hn:t.attrs.length≤1000):aR Tryz.prog 18 [aG ff gg t] fun r=>r=LC false (ak t):=by
 obtain⟨n,hne⟩:∃n,n=t.attrs.length:=⟨_,rfl⟩;obtain⟨m,hme⟩:∃m,m=t.rows.length:=⟨_,rfl⟩;have hne':=hne.symm;have hme':=hme.symm;rw[hne']at hn;rw[hme']at hr;refine aC (aD tok Tryz.func18 rfl rfl ?_);refine wx ?_;simp -implicitDefEqProofs -dsimp[Tryz.f18,List.replicate,aG,LS,LR];refine aK (eY 49 2 [3] (by simp) (W_loopM 31 [3,4,5,6,7,8,9,10,11,12,13,14,15,16,17,18,19,20,21,22,23,24,25,26,27,28,29,30] (by simp[mB]<;>rfl) (σ:=Nat×Nat) (fun p=>p.1≤m∧p.2=p.1*n) (fun p=>m-p.1) (fun p=>[(4,.int .i64 p.1),(3,.buf 1 0 p.2 p.2)]) (fun p=>[B.cells [.str t.name,.lst 1 ff (t.attrs.map V.str),.lst 2 gg (t.rows.map aL)],B.buf 49 2 ((ey t p.2).map aN) false]) (0,0) ⟨by simp,by simp⟩ (by simp) (by simp[ey]) (by simp) ?_));rintro⟨i,c⟩ ⟨hi,hc⟩ N Q hN hQ;simp only at hi hc hN;by_cases hib:i<m
 ·have hit:i<t.rows.length:=by omega
  obtain⟨rw,hrw⟩:∃rw,rw=t.rows[i]:=⟨_,rfl⟩;have hrw':=hrw.symm;refine wx ?_;simp -implicitDefEqProofs -dsimp[hib,hme'];refine aK (W_loopM 31 [3,5,13,14,15,16,17,18,19,20,21,22,23,24,25,26,27,28,29,30] (by simp[mB]<;>rfl) (σ:=Nat×Nat) (fun p=>p.1≤n∧p.2=i*n+p.1) (fun p=>n-p.1) (fun p=>[(5,.int .i64 p.1),(3,.buf 1 0 p.2 p.2)]) (fun p=>[B.cells [.str t.name,.lst 1 ff (t.attrs.map V.str),.lst 2 gg (t.rows.map aL)],B.buf 49 2 ((ey t p.2).map aN) false]) (0,c) ⟨by simp,by simp[hc]⟩ (by simp) (by simp) (by simp) ?_);rintro⟨a,c2⟩ ⟨ha,hc2⟩ N2 Q2 hN2 hQ2;simp only at ha hc2 hN2;by_cases hab:a<n
  ·have hlt:=aq hib hab;have hbig:m*n≤1000*1000:=Nat.mul_le_mul hr hn;have hol:=nz t c2
   have hat:bP t c2=⟨rw.id,(a:Int)⟩:=by
    rw[hc2,hne,fS t (hne▸hab),av hit,←hrw]
   have hst:=cellsTo_succ t c2;rw[hat]at hst;refine wx ?_;simp -implicitDefEqProofs -dsimp[hab,hne',hit,hrw',aL,hol,oA c2 (by omega),aJ a (by omega)];refine hN2 (a+1,c2+1) _ _ ⟨by simp only;omega,by simp only;omega⟩ (by simp only;omega) (by simp) ⟨[],by simp[hst,aN]⟩ (by simp) (by simp)
  ·have hae:a=n:=by omega
   subst hae;refine wx ?_;simp -implicitDefEqProofs -dsimp[hab,hne'];refine hQ2 _ _ _ ?_;simp -implicitDefEqProofs -dsimp[aJ i (by omega)];refine hN (i+1,c2) _ _ ⟨by simp only;omega,by simp only;rw[hc2,Nat.add_mul];omega⟩ (by simp only;omega) (by simp) ⟨[],by simp⟩ (by simp) (by simp)
 ·have hie:i=m:=by omega
  subst hie;refine wx ?_;simp -implicitDefEqProofs -dsimp[hib,hme'];refine hQ _ _ _ ?_;simp -implicitDefEqProofs -dsimp[];rw[show ak t=ey t c by unfold ak ey;rw[hc,←hme,←hne]];exact dK rfl (by simp[nz]) (by simp)
end
theorem cellsT_at{t:Tb}{i:Nat}(h:i<(ak t).length):(ak t)[i]=bP t i:=by simp[ak]
theorem others_r(t:Tb)(ff gg cf:Bool)(l:List Cr)(hr:t.rows.length≤1000)(hn:t.attrs.length≤1000)(hl:l.length≤1000000):aR Tryz.prog 21 [aG ff gg t,LC cf l] fun r=>r=LC false (bg t l):=by
 have c1:=ol t ff gg hr hn;have hbig:t.rows.length*t.attrs.length≤1000*1000:=Nat.mul_le_mul hr hn;obtain⟨all,hall⟩:∃all,all=ak t:=⟨_,rfl⟩
 have hlen:all.length=t.rows.length*t.attrs.length:=by rw[hall,gO]
 have hat:∀i (h:i<all.length),all[i]=bP t i:=fun i h=>by subst hall;exact cellsT_at h
 rw[←hall]at c1;simp only[aG,LS,LR,LC]at c1;rw[←mw,←hlen];refine aC (aD tok Tryz.func21 rfl rfl ?_);refine wx ?_;simp -implicitDefEqProofs -dsimp[Tryz.f21,List.replicate,aG,LS,LR,LC];refine(aF (c1) (by simp)).mono ?_;rintro r H' ⟨rfl,rfl⟩;simp -implicitDefEqProofs -dsimp[];refine aK (eY 49 2 [6] (by simp) (W_loopM 30 [6,7,10,11,12,13,14,15,16,17,18,19,20,21,22,23,24,25,26,27,28,29] (by simp[mB]<;>rfl) (σ:=Nat) (fun i=>i≤all.length) (fun i=>all.length-i) (fun i=>[(7,.int .i64 i),(6,.buf 1 0 (dj t l i).length (dj t l i).length)]) (fun i=>[B.cells [.str t.name,.lst 1 ff (t.attrs.map V.str),.lst 2 gg (t.rows.map aL)],B.buf 49 2 ((dj t l i).map aN) false]) 0 (by omega) (by simp[ip]) (by simp[ip]) (by simp) ?_));intro i hi N Q hN hQ;by_cases hb:i<all.length
 ·have h1:=hat i hb;obtain⟨x,hx⟩:∃x,x=all[i]:=⟨_,rfl⟩;rw[←hx]at h1;have hx':=hx.symm;have hol:=mv t l i;have hc:=nn l x cf hl;simp only[LC,aN]at hc
  cases hq:eA l x with
  | true =>
   rw[hq]at hc;have hst:=othTo_in (t:=t) (l:=l) (x:=i) (h1▸bW.1 hq);refine wx ?_;simp -implicitDefEqProofs -dsimp[hb,hx',aN];refine(aF (hc) (by simp)).mono ?_;rintro r H' ⟨rfl,rfl⟩;simp -implicitDefEqProofs -dsimp[aJ i (by omega)];refine hN (i+1) _ _ (by omega) (by omega) (by simp[hst]) ⟨[],by simp[hst]⟩ (by simp[LC]) (by simp)
  | false =>
   rw[hq]at hc;have hst:=othTo_out (t:=t) (l:=l) (x:=i) (h1▸fun h=>by rw[bW.2 h]at hq;cases hq);rw[←h1]at hst;refine wx ?_;simp -implicitDefEqProofs -dsimp[hb,hx',aN];refine(aF (hc) (by simp)).mono ?_;rintro r H' ⟨rfl,rfl⟩;simp -implicitDefEqProofs -dsimp[hb,hx',aN,oA (dj t l i).length (by omega),aJ i (by omega)];refine hN (i+1) _ _ (by omega) (by omega) (by simp[hst]) ⟨[],by simp[hst,aN]⟩ (by simp[LC]) (by simp)
 ·obtain rfl:i=all.length:=by omega
  refine wx ?_;simp -implicitDefEqProofs -dsimp[hb];refine hQ _ _ _ ?_;simp -implicitDefEqProofs -dsimp[];exact dK rfl (by simp) (by simp)
structure Cs where
 r:Rcp
 d:List Fd
def gf(f g:Bool)(c:Cs):V:=.agg [.int .u8 c.r.a,.int .u8 c.r.gap,.lst 1 f (c.r.rows.map LU),.lst 2 g (c.d.map encD)]
@[simp] theorem encCs_pure (f g:Bool) (c:Cs):AM.Pure (gf f g c):=by simp[gf]
structure CsOk (c:Cs):Prop where
 a:0≤c.r.a∧c.r.a<256
 gap:0≤c.r.gap
 rows:∀r∈c.r.rows,r.length≤9223372036854775807
 rlen:c.r.rows.length≤9223372036854775807
 dlen:c.d.length≤9223372036854775807
 deps:∀d∈c.d,d.l<256∧d.r<256
def csN(c:Cs):Nat:=(c.r.a.tmod 4).toNat
def csB(c:Cs):Bool:=decide (c.r.rows.length≤4)&&(decide (c.r.rows.length*csN c≤9)&&decide (c.d.length≤3))
def csT(c:Cs):Tb:=ot c.r (csN c)
def csF(c:Cs):List Fd:=c.d.map (fdOf (csN c))
theorem csN_lt{c:Cs}(h:CsOk c):csN c<4∧c.r.a.tmod 4=(csN c:Int):=by
 have h1:=Int.tmod_nonneg 4 h.a.1;have h2:=Int.tmod_lt_of_pos c.r.a (show(0:Int)<4 by omega);unfold csN;omega
def offV:V:=.tup [.agg [.str ByteArray.empty,.nilS,.nilS],.nilS,.bool false]
theorem of_no(c:Cs)(f g:Bool)(h:CsOk c)(hb:csB c=false):aR Tryz.prog 11 [gf f g c] fun r=>r=offV:=by
 obtain⟨h1,h2⟩:=csN_lt h;obtain⟨n,hn⟩:∃n,n=csN c:=⟨_,rfl⟩;rw[←hn]at h1 h2;have hw:IntKind.i64.wrap (n:Int)=n:=iD n (by omega);unfold csB at hb;rw[←hn]at hb;by_cases r1:c.r.rows.length≤4
 ·have hmn:c.r.rows.length*n≤4*4:=Nat.mul_le_mul r1 (by omega)
  have hw2:IntKind.i64.wrap ((c.r.rows.length:Int)*(n:Int))=((c.r.rows.length*n:Nat):Int):=by rw[wrap64 (by rw[←Int.natCast_mul];omega) (by rw[←Int.natCast_mul];omega)];push_cast;rfl
  obtain⟨mn,hmn'⟩:∃mn,mn=c.r.rows.length*n:=⟨_,rfl⟩;rw[←hmn']at hw2 hb;by_cases r2:mn≤9
  ·have r3:¬c.d.length≤3:=by
    intro r3;rw[decide_eq_true r1,decide_eq_true r2,decide_eq_true r3]at hb;cases hb
   refine aC (aD tok Tryz.func11 rfl rfl ?_);refine wx ?_;simp -implicitDefEqProofs -dsimp[Tryz.f11,List.replicate,gf,h2,hw,hw2,show ¬(4:Int)<c.r.rows.length by omega,show ¬(9:Int)<mn by omega,show(3:Int)<c.d.length by omega];rfl
  ·refine aC (aD tok Tryz.func11 rfl rfl ?_);refine wx ?_;simp -implicitDefEqProofs -dsimp[Tryz.f11,List.replicate,gf,h2,hw,hw2,show ¬(4:Int)<c.r.rows.length by omega,show(9:Int)<mn by omega];rfl
 ·refine aC (aD tok Tryz.func11 rfl rfl ?_);refine wx ?_;simp -implicitDefEqProofs -dsimp[Tryz.f11,List.replicate,gf,h2,hw,show(4:Int)<c.r.rows.length by omega];rfl
theorem of_yes(c:Cs)(f g:Bool)(h:CsOk c)(hb:csB c=true):aR Tryz.prog 11 [gf f g c] fun r=>r = .tup [aG false false (csT c),LF false (csF c),.bool true]:=by
 obtain⟨h1,h2⟩:=csN_lt h;unfold csT csF;obtain⟨n,hn⟩:∃n,n=csN c:=⟨_,rfl⟩;rw[←hn]at h1 h2 ⊢;have hw:IntKind.i64.wrap (n:Int)=n:=iD n (by omega);unfold csB at hb;rw[←hn]at hb;simp only[Bool.and_eq_true,decide_eq_true_iff]at hb;obtain⟨r1,r2,r3⟩:=hb
 have hw2:IntKind.i64.wrap ((c.r.rows.length:Int)*(n:Int))=((c.r.rows.length*n:Nat):Int):=by rw[wrap64 (by rw[←Int.natCast_mul];omega) (by rw[←Int.natCast_mul];omega)];push_cast;rfl
 obtain⟨mn,hmn'⟩:∃mn,mn=c.r.rows.length*n:=⟨_,rfl⟩;rw[←hmn']at hw2 r2;have c1:=wide03 c.r n f (by omega) (by omega) h.rows h.gap;have c2:=list09 n c.d g (by omega) (by omega) h.deps;simp only[nK,aG,LS,LR]at c1;obtain⟨w,hwt⟩:∃w,w=ot c.r n:=⟨_,rfl⟩;rw[←hwt]at c1 ⊢;refine aC (aD tok Tryz.func11 rfl rfl ?_);refine wx ?_;simp -implicitDefEqProofs -dsimp[Tryz.f11,List.replicate,gf,h2,hw,hw2,show ¬(4:Int)<c.r.rows.length by omega,show ¬(9:Int)<mn by omega,show ¬(3:Int)<c.d.length by omega];refine aK (am tok mixed [8] [] [(.agg [.str w.name,.lst 1 false (w.attrs.map V.str),.lst 2 false (w.rows.map aL)],[]),(LF false (c.d.map (fdOf n)),[])] (by kernel_rfl) fun C K hC hK=>?_);simp -implicitDefEqProofs [];refine⟨⟨hC _ _ _ _ (aF c1 (by simp)),hC _ _ _ _ (aF c2 (by simp))⟩,hK _ _ ?_⟩;simp -implicitDefEqProofs -dsimp[aG,LS,LR]
theorem pI{n:Nat} : ∀{rs:List Rw} {last:Int},(∀r∈rs,last<r.id)→(∀r∈rs,r.vals.length=n)→(∀r∈rs,∀v∈r.vals,bV v=true)→rs.Pairwise (fun a b=>a.id<b.id)→dt n last rs=0
 | [],_,_,_,_,_=>rfl
 | r::rs,last,h1,h2,h3,h4=>by
  have a1:=h1 r List.mem_cons_self;have a2:=h2 r List.mem_cons_self;have a3:r.vals.all bV=true:=List.all_eq_true.2 (h3 r List.mem_cons_self);rw[List.pairwise_cons]at h4;rw[dt,if_neg (by omega),if_neg (by omega),a3,if_pos rfl];exact pI h4.1 (fun r' hr=>h2 r' (List.mem_cons_of_mem _ hr)) (fun r' hr=>h3 r' (List.mem_cons_of_mem _ hr)) h4.2
theorem TbV.validT{t:Tb}(h:TbV t)(hpos:∀r∈t.rows,0<r.id):validT t=0:=by
 unfold Go.Proofs.YteijbpppalhihaaGreat.validT;rw[h.name,if_pos rfl,if_neg (by have:=h.attrs;have:=h.rows;omega),h.names,if_pos rfl];exact pI hpos h.len h.vals h.asc
theorem ofV_valid(m:Int):bV (ofV m)=true:=by
 unfold ofV
 repeat' split
 all_goals kernel_rfl
theorem wide_rows{x:Rcp}{n:Nat}(hg:0≤x.gap):(∀r∈(ot x n).rows,0<r.id∧r.vals.length=n∧∀v∈r.vals,bV v=true)∧(ot x n).rows.Pairwise fun a b=>a.id<b.id:=by
 have h0:=Int.tmod_nonneg 3 hg;constructor
 ·intro r hr;obtain⟨i,hi,rfl⟩:=List.mem_map.1 hr;refine⟨?_,wVals_len _ _,fun v hv=>?_⟩
  ·show 0<1+(i:Int)*(1+x.gap.tmod 3);have:=Int.mul_nonneg (show(0:Int)≤i by omega) (show 0≤1+x.gap.tmod 3 by omega);omega
  ·obtain⟨j,_,rfl⟩:=List.mem_map.1 hv;exact ofV_valid _
 ·show((List.range x.rows.length).map _).Pairwise _;rw[List.pairwise_map];refine List.Pairwise.imp ?_ List.pairwise_lt_range;intro i j hij;show 1+(i:Int)*(1+x.gap.tmod 3)<1+(j:Int)*(1+x.gap.tmod 3);have:=Int.mul_lt_mul_of_pos_right (show(i:Int)<j by omega) (show 0<1+x.gap.tmod 3 by omega);omega
theorem names_small:∀n,n<4→gp (L8.take n)=true
 | 0,_=>by kernel_rfl
 | 1,_=>by kernel_rfl
 | 2,_=>by kernel_rfl
 | 3,_=>by kernel_rfl
 | n+4,h=>by omega
structure CsV (c:Cs):Prop where
 tv:TbV (csT c)
 valid:validT (csT c)=0
 attrs:(csT c).attrs.length=csN c
 rows:(csT c).rows.length=c.r.rows.length
 small:(csT c).rows.length*(csT c).attrs.length≤9
 n4:csN c<4
 m4:c.r.rows.length≤4
 fok:bU (csF c)
 ferr:cG (csT c).attrs.length (csF c)=0
 flen:(csF c).length≤3
theorem jd:∀n,dn n<2^n
 | 0=>by simp[dn]
 | i+1=>Nat.or_lt_two_pow (n:=i+1) (Nat.lt_trans (jd i) (Nat.pow_lt_pow_right (by omega) (by omega))) (Nat.pow_lt_pow_right (by omega) (by omega))
theorem csV{c:Cs}(h:CsOk c)(hb:csB c=true):CsV c:=by
 obtain⟨h1,h2⟩:=csN_lt h;unfold csB at hb;simp only[Bool.and_eq_true,decide_eq_true_iff]at hb;obtain⟨r1,r2,r3⟩:=hb
 have ha:(csT c).attrs.length=csN c:=by
  show(L8.take (csN c)).length=_;rw[List.length_take];have:L8.length=8:=rfl;omega
 have hr:(csT c).rows.length=c.r.rows.length:=wRows_len _ _ _;obtain⟨w1,w2⟩:=wide_rows (x:=c.r) (n:=csN c) h.gap
 have tv:TbV (csT c):=by
  refine⟨⟨(show(⟨#[114]⟩:ByteArray).size≤maxLen by decide),by omega,by omega,fun s hs=>?_⟩,by omega,by omega,names_small _ h1,(show bt ⟨#[114]⟩=true by kernel_rfl),fun r hr=>?_,fun r hr=>(w1 r hr).2.2,w2⟩
  ·have hs:=List.mem_of_mem_take (show s∈L8.take (csN c) from hs)
   have:∀s∈L8,s.size≤maxLen:=by
    intro s hs;simp only[L8,List.mem_cons,List.not_mem_nil,or_false]at hs
    rcases hs with rfl | rfl | rfl | rfl | rfl | rfl | rfl | rfl<;>decide
   exact this s hs
  ·rw[ha];exact(w1 r hr).2.1
 refine⟨tv,tv.validT fun r hr=>(w1 r hr).1,ha,hr,by rw[ha,hr];exact r2,h1,r1,⟨by simp[csF];omega,fun d hd=>?_⟩,?_,by simp[csF];exact r3⟩
 ·obtain⟨d',hd',rfl⟩:=List.mem_map.1 hd;have:=h.deps d' hd';exact⟨Nat.lt_of_le_of_lt Nat.and_le_left (by omega),Nat.lt_of_le_of_lt Nat.and_le_left (by omega)⟩
 ·unfold cG;rw[if_neg (by simp[csF];omega),if_pos];rw[List.all_eq_true];intro d hd;obtain⟨d',hd',rfl⟩:=List.mem_map.1 hd;have hf:=jd (csN c);simp only[mG,fdOf,Bool.and_eq_true,decide_eq_true_iff,ha];exact⟨Nat.lt_of_le_of_lt Nat.and_le_right hf,Nat.lt_of_le_of_lt Nat.and_le_right hf⟩
structure CellsOk (t:Tb) (l:List Cr):Prop where
 sorted:aY l
 mem:∀c∈l,c∈ak t
 len:l.length≤1000000
theorem qX{t:Tb}(_:TbV t){c:Cr} : dq t c=true↔c∈ak t:=by
 unfold dq ak hasId;simp only[Bool.and_eq_true,decide_eq_true_iff,List.any_eq_true,beq_iff_eq,List.mem_map,List.mem_range];constructor
 ·rintro⟨⟨r,hr,hid⟩,h1,h2⟩;obtain⟨i,hi,rfl⟩:=List.mem_iff_getElem.1 hr
  have ha:c.attr.toNat<t.attrs.length:=by omega
  refine⟨i*t.attrs.length+c.attr.toNat,aq hi ha,?_⟩;rw[fS t ha,av hi,Cr.eq_iff];exact⟨hid,by simp;omega⟩
 ·rintro⟨x,hx,rfl⟩
  have hn:0<t.attrs.length:=by
   rcases Nat.eq_zero_or_pos t.attrs.length with h0 | h0
   ·rw[h0]at hx;omega
   ·exact h0
  have hm:x / t.attrs.length<t.rows.length:=by rw[Nat.div_lt_iff_lt_mul hn];exact hx
  refine⟨⟨t.rows[x / t.attrs.length],List.getElem_mem hm,?_⟩,?_,?_⟩
  ·unfold bP;rw[av hm]
  ·unfold bP;simp only;omega
  ·unfold bP;simp only;have:=Nat.mod_lt x hn;omega
theorem chk_ok{t:Tb}{fds:List Fd}{l:List Cr}(hv:TbV t)(h1:validT t=0)(h2:cG t.attrs.length fds=0)(h3:t.rows.length*t.attrs.length≤60)(hl:CellsOk t l):dO t fds l=0:=by
 unfold dO;rw[if_neg (by simp[h1]),if_neg (by simp[h2]),if_neg (by omega),if_neg (by simp[hl.sorted]),if_pos];rw[List.all_eq_true]
 exact fun c hc=>(qX hv).2 (hl.mem c hc)
theorem others_others{t:Tb}{fds:List Fd}{l:List Cr} : Okq (aS t fds (bg t (bg t l)))↔Okq (aS t fds l):=okq_congr fun x hx=>by
 rw[cU,cU];have:=iq hx;constructor
 ·rintro⟨_,h2⟩
  exact Classical.byContradiction fun h3=>h2 ⟨this,h3⟩
 ·intro h;exact⟨this,fun h2=>h2.2 h⟩
theorem gokN(s:AM.St):GOk Tryz.prog s:=fun g hg=>by
 rw[show Tryz.prog.globalNamed "math/bits.deBruijn32tab" = none by kernel_rfl]at hg;cases hg
theorem cells_ok:∀t i,T t=some i→Tryz.prog.cellsOf t=i.size:=fun t i hi=>by
 obtain⟨inf,h1,h2,_⟩:=tok.info t i hi;simp[Program.cellsOf,h1,h2]
theorem la{α:Type}{enc:α→V}{p:α→Prop} : ∀{xs:List V},(∀x∈xs,∃a,x=enc a∧p a)→∃ys:List α,xs=ys.map enc∧∀y∈ys,p y
 | [],_=>⟨[],rfl,by simp⟩
 | x::xs,h=>by
  obtain⟨a,rfl,ha⟩:=h x (by simp);obtain⟨ys,rfl,hy⟩:=la (xs:=xs) (fun y hy=>h y (by simp[hy]));exact⟨a::ys,rfl,fun y hm=>(List.mem_cons.1 hm).elim (fun e=>e▸ha) (hy y)⟩
theorem sh_u8{n:Nat}{ws:List V}(h:Sh T (n+1) 5 ws):∃m:Int,ws=[.int .u8 m]∧0≤m∧m≤255:=by
 simp[Sh]at h;obtain⟨m,rfl,hm⟩:=h;refine⟨m,rfl,?_⟩;simp[Lit.wf,IntKind.min,IntKind.max,IntKind.signed,IntKind.bits]at hm;omega
theorem sh_fld{n t:Nat}{i:TI}{fs:Array Field}{sz:Nat}{ws:List V}(h:Sh T (n+1) t ws)(hT:T t=some i)(hd:i.desc = .struct fs)(hs:i.size=sz):ws.length=sz∧∀(k:Nat) f j,fs[k]?=some f→T f.type=some j→Sh T n f.type ((ws.drop f.offset).take j.size):=by
 rw[Sh]at h;simp only[hT,hd]at h;refine⟨by rw[←hs];exact h.1,fun k f j hk hj=>?_⟩;obtain⟨j',h1,h2⟩:=h.2 f (by rw[Array.mem_toList_iff];exact Array.mem_of_getElem? hk);rw[hj]at h1;cases h1;exact h2
theorem sh_lst{n t e:Nat}{i j:TI}{ws:List V}(h:Sh T (n+1) t ws)(hT:T t=some i)(hd:i.desc = .slice e)(hj:T e=some j):∃xs,ws=[.lst j.size false xs]∧xs.length≤maxLen∧∀x∈xs,∃ws,Sh T n e ws∧ws.length=j.size∧x=(if db j.desc then .agg ws else ws.headD .undef):=by
 rw[Sh]at h;simp only[hT,hd,hj]at h;exact h
theorem sh_rows{n:Nat}{ws:List V}(h:Sh T (n+3) 22 ws):∃rs:List (List Int),ws=[.lst 1 false (rs.map LU)]∧rs.length≤maxLen∧∀r∈rs,r.length≤maxLen:=by
 obtain⟨xs,rfl,hl,hx⟩:=sh_lst h T_22 rfl T_155
 obtain⟨rs,rfl,hr⟩:∃rs:List (List Int),xs=rs.map LU∧∀r∈rs,r.length≤maxLen:=la fun x hxm=>by
  obtain⟨ws,hs,_,rfl⟩:=hx x hxm;obtain⟨ys,rfl,hl2,hy⟩:=sh_lst hs T_155 rfl T_5
  obtain⟨ns,rfl,_⟩:∃ns:List Int,ys=ns.map encU∧∀n∈ns,True:=la fun y hym=>by
   obtain⟨ws,hs,_,rfl⟩:=hy y hym;obtain⟨m,rfl,_⟩:=sh_u8 hs;exact⟨m,by simp[db,encU],trivial⟩
  exact⟨ns,by simp[db,LU],by simpa using hl2⟩
 exact⟨rs,rfl,by simpa using hl,hr⟩
theorem sh_deps{n:Nat}{ws:List V}(h:Sh T (n+3) 25 ws):∃ds:List Fd,ws=[.lst 2 false (ds.map encD)]∧ds.length≤maxLen∧∀d∈ds,d.l<256∧d.r<256:=by
 obtain⟨xs,rfl,hl,hx⟩:=sh_lst h T_25 rfl T_158
 obtain⟨ds,rfl,hd⟩:∃ds:List Fd,xs=ds.map encD∧∀d∈ds,d.l<256∧d.r<256:=la fun x hxm=>by
  obtain⟨ws,hs,_,rfl⟩:=hx x hxm;obtain⟨hlen,hf⟩:=sh_fld hs T_158 rfl rfl
  obtain⟨a,b,rfl⟩:∃a b,ws=[a,b]:=by
   match ws,hlen with
   | [a,b],_=>exact⟨a,b,rfl⟩
  obtain⟨m,e1,p1,p2⟩:=sh_u8 (hf 0 _ _ rfl T_5);obtain⟨k,e2,q1,q2⟩:=sh_u8 (hf 1 _ _ rfl T_5);simp at e1 e2;subst e1;subst e2;refine⟨⟨m.toNat,k.toNat⟩,?_,by simp only;omega,by simp only;omega⟩;simp[db,encD,Int.toNat_of_nonneg p1,Int.toNat_of_nonneg q1]
 exact⟨ds,rfl,by simpa using hl,hd⟩
theorem sh_recipe{n:Nat}{ws:List V}(h:Sh T (n+4) 24 ws):∃r:Rcp,ws=[.int .u8 r.a,.int .u8 r.gap,.lst 1 false (r.rows.map LU)]∧(0≤r.a∧r.a≤255)∧0≤r.gap∧r.rows.length≤maxLen∧∀x∈r.rows,x.length≤maxLen:=by
 obtain⟨hlen,hf⟩:=sh_fld h T_24 rfl rfl
 obtain⟨a,b,c,rfl⟩:∃a b c,ws=[a,b,c]:=by
  match ws,hlen with
  | [a,b,c],_=>exact⟨a,b,c,rfl⟩
 obtain⟨m,e1,p1,p2⟩:=sh_u8 (hf 0 _ _ rfl T_5);obtain⟨k,e2,q1,q2⟩:=sh_u8 (hf 1 _ _ rfl T_5);obtain⟨rs,e3,l1,l2⟩:=sh_rows (hf 2 _ _ rfl T_22);simp at e1 e2 e3;subst e1;subst e2;subst e3;exact⟨⟨m,k,rs⟩,rfl,⟨p1,p2⟩,q1,l1,l2⟩
theorem sh_case{n:Nat}{ws:List V}(h:Sh T (n+5) 27 ws):∃c:Cs,.agg ws=gf false false c∧CsOk c:=by
 obtain⟨hlen,hf⟩:=sh_fld h T_27 rfl rfl
 obtain⟨a,b,c,d,rfl⟩:∃a b c d,ws=[a,b,c,d]:=by
  match ws,hlen with
  | [a,b,c,d],_=>exact⟨a,b,c,d,rfl⟩
 obtain⟨r,e1,p1,p2,p3,p4⟩:=sh_recipe (hf 0 _ _ rfl T_24);obtain⟨ds,e2,q1,q2⟩:=sh_deps (hf 1 _ _ rfl T_25);simp at e1 e2;obtain⟨rfl,rfl,rfl⟩:=e1;subst e2;exact⟨⟨r,ds⟩,rfl,⟨⟨p1.1,by show r.a<256;omega⟩,p2,p4,p3,q1,q2⟩⟩
theorem agg_rel{w:World}{vs:List V}{us:Array Value}(h:CR w vs us.toList):Rel (AM.base (fun _=>False) w) (.agg vs) (.agg us):=
 .agg vs us (by simpa using h.len.symm) h.one (fun i c u hc hu=>h.rel i c u hc (by simpa using hu))
end
end Go.Proofs.YteijbpppalhihaaGreat
namespace Go.Proofs.YteijbpppalhihaaGreat
section
open Go Go.AM Go.RowKit Go.Lib
theorem nanK64(x:Int)(W:World):Calls Tryz.prog 169 #[.int .i64 x] W fun e w'=>e = .returned (.bool false)∧w'=W:=by
 go_enter Tryz.func169,Tryz.ntmps169
 go_wp2
 go_ret
 exact⟨rfl,rfl⟩
theorem cmpK64(x y:Int)(W:World):Calls Tryz.prog 123 #[.int .i64 x,.int .i64 y] W fun e w'=>e = .returned (.int .i64 (bZ x y))∧w'=W:=by
 have h1:=nanK64 x W;have h2:=nanK64 y W;by_cases c1:x<y
 ·rw[show bZ x y = -1 by unfold bZ;rw[if_pos c1]]
  go_enter Tryz.func123,Tryz.ntmps123
  go_wp2_with (go_at_call 169;first | (refine h1.mono ?_;rintro e w' ⟨rfl,rfl⟩) | (refine h2.mono ?_;rintro e w' ⟨rfl,rfl⟩))
  go_ret
  exact⟨rfl,rfl⟩
 ·by_cases c2:y<x
  ·rw[show bZ x y=1 by unfold bZ;rw[if_neg c1,if_pos c2]];have c3:x > y:=c2
   go_enter Tryz.func123,Tryz.ntmps123
   go_wp2_with (go_at_call 169;first | (refine h1.mono ?_;rintro e w' ⟨rfl,rfl⟩) | (refine h2.mono ?_;rintro e w' ⟨rfl,rfl⟩))
   go_ret
   exact⟨rfl,rfl⟩
  ·rw[show bZ x y=0 by unfold bZ;rw[if_neg c1,if_neg c2]];have c3:¬x > y:=c2
   go_enter Tryz.func123,Tryz.ntmps123
   go_wp2_with (go_at_call 169;first | (refine h1.mono ?_;rintro e w' ⟨rfl,rfl⟩) | (refine h2.mono ?_;rintro e w' ⟨rfl,rfl⟩))
   go_ret
   exact⟨rfl,rfl⟩
theorem nanKI(x:Int)(W:World):Calls Tryz.prog 170 #[.int .i64 x] W fun e w'=>e = .returned (.bool false)∧w'=W:=by
 go_enter Tryz.func170,Tryz.ntmps170
 go_wp2
 go_ret
 exact⟨rfl,rfl⟩
theorem cmpKI(x y:Int)(W:World):Calls Tryz.prog 124 #[.int .i64 x,.int .i64 y] W fun e w'=>e = .returned (.int .i64 (bZ x y))∧w'=W:=by
 have h1:=nanKI x W;have h2:=nanKI y W;by_cases c1:x<y
 ·rw[show bZ x y = -1 by unfold bZ;rw[if_pos c1]]
  go_enter Tryz.func124,Tryz.ntmps124
  go_wp2_with (go_at_call 170;first | (refine h1.mono ?_;rintro e w' ⟨rfl,rfl⟩) | (refine h2.mono ?_;rintro e w' ⟨rfl,rfl⟩))
  go_ret
  exact⟨rfl,rfl⟩
 ·by_cases c2:y<x
  ·rw[show bZ x y=1 by unfold bZ;rw[if_neg c1,if_pos c2]];have c3:x > y:=c2
   go_enter Tryz.func124,Tryz.ntmps124
   go_wp2_with (go_at_call 170;first | (refine h1.mono ?_;rintro e w' ⟨rfl,rfl⟩) | (refine h2.mono ?_;rintro e w' ⟨rfl,rfl⟩))
   go_ret
   exact⟨rfl,rfl⟩
  ·rw[show bZ x y=0 by unfold bZ;rw[if_neg c1,if_neg c2]];have c3:¬x > y:=c2
   go_enter Tryz.func124,Tryz.ntmps124
   go_wp2_with (go_at_call 170;first | (refine h1.mono ?_;rintro e w' ⟨rfl,rfl⟩) | (refine h2.mono ?_;rintro e w' ⟨rfl,rfl⟩))
   go_ret
   exact⟨rfl,rfl⟩
end
end Go.Proofs.YteijbpppalhihaaGreat
namespace Go.Proofs.YteijbpppalhihaaGreat
section
open Go Go.AM Go.RowKit Go.Lib Go.Sort
theorem orK(c d:Int)(b:Nat)(W:World)(h0:W.cell? ⟨b,0,none⟩=some (.int .i64 c))(h1:W.cell? ⟨b,1,none⟩=some (.int .i64 d)):Calls Tryz.prog 122 #[.slice (some ⟨b,0,none⟩) 2 2] W fun e w'=>e = .returned (.int .i64 (if c=0 then d else c))∧w'=W:=by
 go_enter Tryz.func122,Tryz.ntmps122
 go_wp2
 go_loop [8] (fun m=>m = .int .i64 0∨(m = .int .i64 1∧c=0)∨(m = .int .i64 2∧c=0∧d=0)) (fun m=>2-(intOf m).toNat)
 case atStart=>exact .inl rfl
 case round =>
  rcases hrel with rfl | ⟨rfl,hc⟩ | ⟨rfl,hc,hd⟩
  ·by_cases hc:c=0
   ·go_wp2
    exact⟨.inr (.inl ⟨rfl,hc⟩),by simp[intOf]⟩
   ·go_wp2
    go_ret
    exact⟨rfl,rfl⟩
  ·by_cases hd:d=0
   ·go_wp2
    exact⟨.inr (.inr ⟨rfl,hc,hd⟩),by simp[intOf]⟩
   ·go_wp2
    go_ret
    exact⟨rfl,rfl⟩
  ·go_wp2
   go_ret
   exact⟨rfl,rfl⟩
theorem region_two{P:Program}{id:Nat}{Q:Exit→Act→World→Prop}{a:Act}{w:World}{l:List Oper}(n:Nat)(hm:P.follows .mixedOrders=true)(hB:Region.lexTailB .any l.toArray n=true)
  (h:∀W',W'=w.drew→wpStill P l.toArray W' (fun a'=>wpList P l.toArray Q (l.drop n) a' W') (l.take n) a):(Code.region id l.toArray true).wp P Q a w :=
 wp_region_still_tail n hm hB (h _ rfl)
theorem compareK(x y:Cr)(W:World):Calls Tryz.prog 75 #[.agg #[.int .i64 x.id,.int .i64 x.attr],.agg #[.int .i64 y.id,.int .i64 y.attr]] W fun e w'=>e = .returned (.int .i64 (bp x y))∧∃q os',w'=grow (W.drewN q) os':=by
 have h1:=fun W=>cmpK64 x.id y.id W
 have h2:=fun W=>cmpKI x.attr y.attr W
 have hor:(if bZ x.id y.id=0 then bZ x.attr y.attr else bZ x.id y.id)=bp x y:=by
  unfold bp;split
  ·rfl
  ·rfl
 generalize bZ x.id y.id=c at h1 hor;generalize bZ x.attr y.attr=d at h2 hor
 have h3:=fun b W=>orK c d b W
 rw[hor]at h3;generalize bp x y=r at h3 ⊢;clear hor;obtain⟨xi,xa⟩:=x;obtain⟨yi,ya⟩:=y;simp only at h1 h2 ⊢
 go_enter Tryz.func75,Tryz.ntmps75
 go_wp2_with fail
 refine region_two 10 mixed (by kernel_rfl) fun W3 hW3=>?_
 have c0:W3.cell? ⟨W.heap.size,0,none⟩=some (.int .i64 xi):=by subst hW3;simp
 have c1:W3.cell? ⟨W.heap.size,1,none⟩=some (.int .i64 xa):=by subst hW3;simp
 have c2:W3.cell? ⟨W.heap.size+1,0,none⟩=some (.int .i64 yi):=by subst hW3;simp
 have c3:W3.cell? ⟨W.heap.size+1,1,none⟩=some (.int .i64 ya):=by subst hW3;simp
 have hG:Hid (∃os',W3=grow (W.drewN 1) os'):=by
  subst hW3;exact⟨_,by rw[alloc_eq_grow,alloc_eq_grow,grow_grow];rfl⟩
 clear hW3;simp only[List.take_succ_cons,List.take_zero,List.drop_succ_cons,List.drop_zero]
 repeat still_step
 still_call (h1 _)
 repeat still_step
 still_call (h2 _)
 refine wpStill_nil ?_
 go_wp2_with (go_at_call 122;refine(h3 _ _ (by simp) (by simp)).mono ?_;rintro e w' ⟨rfl,rfl⟩)
 go_ret
 obtain⟨os',hos⟩:=hG.out;exact⟨rfl,1,_,by rw[hos,alloc_eq_grow,grow_grow]⟩
theorem putRow_id{α:Type} [Inhabited α] (enc:α→Value)(w:World)(blk off:Nat)(d:Array α):putRow enc w blk off d=putRow id w blk off (d.map enc):=by
 unfold putRow
 refine mapBlock_congr _ _ _ _ fun c _ _ _=>?_
 apply Array.ext_getElem?;intro k;simp only[putCells,Array.getElem?_mapIdx,Array.size_map]
 cases c[k]? with
 | none=>rfl
 | some y =>
  simp only[Option.map_some];by_cases h:off≤k∧k<off+d.size
  ·rw[if_pos h,if_pos h]
   have hk:k-off<d.size:=by omega
   rw[getElem!_pos d (k-off) hk,getElem!_pos (d.map enc) (k-off) (by simpa using hk)];simp
  ·rw[if_neg h,if_neg h]
theorem pJ{s:AM.St}(hg:AM.Good s){k e z:Nat}{xs ys:List V}(hk:s.H[k]?=some (.buf e z xs false))(hκ:s.κ k≠0)(F:Array Value)(n:Nat)(os:Array Obj)(hl:ys.length=xs.length)(hF:F.size=xs.length*z)
  (hy:∀y∈ys,y.cells.length=z∧∀c∈y.cells,c.one=true) (hr:∀i y j c,ys[i]?=some y→y.cells[j]?=some c→Rel s c F[i*z+j]!) (W:World) (hW:W=grow (putRow id (Go.Sort.ahead s.w n) (s.φ k) 0 F) os):
  AM.Good (s.setB W k (.buf e z ys false))∧AM.Step s (s.setB W k (.buf e z ys false)):=by
 have hlk:=lvB hk hκ;have hlt:=(hg.lt k hlk).1;obtain⟨vs,h1,h2,h3,h4,h5,h6⟩:=hg.blk k _ hk;have hb:=h1 hκ
 have ho:∀b,b<s.w.heap.size→b≠s.φ k→W.heap[b]?=s.w.heap[b]?:=fun b hb' hne=>by
  subst hW;rw[heap_grow_old _ _ (by rw[Go.Proofs.size_putRow];exact hb')];simp only[putRow,mapBlock,Go.Sort.ahead,Array.getElem?_modify,if_neg (Ne.symm hne)]
 have hbk:W.heap[s.φ k]?=some (.cells (putCells id 0 F vs) e (0,0)):=by
  subst hW;rw[heap_grow_old _ _ (by rw[Go.Proofs.size_putRow];exact hlt)];simp[putRow,mapBlock,Go.Sort.ahead,Array.getElem?_modify,hb,onCells]
 have hsz:s.w.heap.size≤W.heap.size:=by
  subst hW;rw[size_grow,Go.Proofs.size_putRow];exact Nat.le_add_right _ _
 have ha:B.alike (.buf e z xs false) (.buf e z ys false):=⟨rfl,rfl,hl.symm,rfl,rfl⟩
 have e1:W.os=s.w.os:=by subst hW;rfl
 have e2:W.tape=s.w.tape:=by subst hW;rfl
 have e3:W.output=s.w.output:=by subst hW;rfl
 clear hW;have hst:=bw (w:=W) hg hk hlk ha e1 e2 e3 hsz ho;refine⟨cJ hg hk hlk ha e1 e2 e3 hsz ho (fun _=>?_),hst⟩;refine⟨putCells id 0 F vs,fun _=>hbk,by simp only[putCells,Array.size_mapIdx];exact h2,by rw[hl];exact h3,h4,hy,fun i x j c u hi hj hu=>?_⟩;have hil:=aE hi;have hjl:=aE hj;rw[(hy x (List.mem_of_getElem? hi)).1]at hjl
 have hlt2:i*z+j<F.size:=by
  rw[hF];have:=Nat.mul_le_mul_right z (show i+1≤xs.length by omega);rw[Nat.add_mul,Nat.one_mul]at this;omega
 have hu2:u=F[i*z+j]!:=by
  simp only[putCells,Array.getElem?_mapIdx]at hu
  cases hv:vs[i*z+j]? with
  | none=>rw[hv]at hu;cases hu
  | some v =>
   rw[hv,Option.map_some,if_pos ⟨by omega,by omega⟩,Nat.sub_zero]at hu;exact(Option.some.inj hu).symm
 rw[hu2];exact(hr i x j c hi hj).step hst
end
end Go.Proofs.YteijbpppalhihaaGreat
namespace Go.Proofs.YteijbpppalhihaaGreat
section
open Go Go.AM
def LLi(g:Bool)(es:List (List Int)):V:=.lst 1 g (es.map (L1 false))
@[simp] theorem LLi_pure (g:Bool) (es:List (List Int)):AM.Pure (LLi g es):=by simp[LLi]
def jL(f g:Bool)(ws:List Int)(es:List (List Int)):V:=.agg [L1 f ws,LLi g es]
@[simp] theorem encHs_pure (f g:Bool) (ws:List Int) (es:List (List Int)):AM.Pure (jL f g ws es):=by simp[jL]
def wOk(w:Int):Bool:=decide (1≤w)&&decide (w≤1000000)
def gL(n:Int):Int→List Int→Bool
 | _,[]=>true
 | last,v::vs=>(decide (last<v)&&decide (v<n))&&gL n v vs
def eOk(n:Int)(e:List Int):Bool:=gL n (-1) e&&!e.isEmpty
def jW(n:Int)(es:List (List Int)):Int:=if es.all (eOk n) then 0 else 1
def mo(ws:List Int)(es:List (List Int)):Int:=if 200<ws.length∨2000<es.length then 3 else if ws.all wOk then jW ws.length es else 1
theorem hsValid(ws:List Int)(es:List (List Int))(f g:Bool)(hl:∀e∈es,e.length≤1000000):aR Tryz.prog 107 [jL f g ws es] fun r=>r = .int .i64 (mo ws es):=by
 unfold mo;by_cases h1:200<ws.length
 ·rw[if_pos (.inl h1)];refine aC (aD tok Tryz.func107 rfl rfl ?_);refine wx ?_;simp -implicitDefEqProofs -dsimp[Tryz.f107,List.replicate,jL,LLi,show(200:Int)<ws.length by omega,L1]
 ·by_cases h2:2000<es.length
  ·rw[if_pos (.inr h2)];refine aC (aD tok Tryz.func107 rfl rfl ?_);refine wx ?_;simp -implicitDefEqProofs -dsimp[Tryz.f107,List.replicate,jL,LLi,show ¬(200:Int)<ws.length by omega,show(2000:Int)<es.length by omega,L1]
  ·rw[if_neg (fun h=>h.elim h1 h2)]
   obtain⟨E,hE⟩:∃E,E=if ws.all wOk then jW ws.length es else 1:=⟨_,rfl⟩
   rw[←hE];refine aC (aD tok Tryz.func107 rfl rfl ?_);refine wx ?_;simp -implicitDefEqProofs -dsimp[Tryz.f107,List.replicate,jL,LLi,show ¬(200:Int)<ws.length by omega,show ¬(2000:Int)<es.length by omega,L1];refine aK (W_loopM 34 [2,4,23,24,25,26,27,28,29,30,31,32,33] (by simp[mB]<;>rfl) (σ:=Nat) (fun i=>i≤ws.length∧(if(ws.drop i).all wOk then jW ws.length es else 1)=E) (fun i=>ws.length-i) (fun i=>[(23,.int .i64 i)]) (fun _=>[B.cells [.lst 1 f (ws.map aW),.lst 1 g (es.map (L1 false))]]) 0 ⟨by omega,by rw[List.drop_zero,hE]⟩ (by simp) (by simp[L1]) (by simp) ?_);rintro i ⟨hi,hx⟩ N1 Q1 hN1 hQ1;by_cases hb:i<ws.length
   ·rw[List.drop_eq_getElem_cons hb,List.all_cons]at hx;obtain⟨w,hw⟩:∃w,w=ws[i]:=⟨_,rfl⟩;rw[←hw]at hx;have hw':=hw.symm;by_cases q1:1≤w
    ·by_cases q2:w≤1000000
     ·rw[show wOk w=true by simp[wOk,q1,q2],Bool.true_and]at hx;refine wx ?_;simp -implicitDefEqProofs -dsimp[hb,hw',aW,show ¬w<1 by omega,show ¬(1000000:Int)<w by omega,aJ i (by omega),L1];refine hN1 (i+1) _ _ ⟨by omega,hx⟩ (by omega) ?_ ⟨[],?_⟩ ?_ ?_<;>simp[or_imp,forall_and,L1,aW]
     ·rw[show wOk w=false by simp[wOk,q2],Bool.false_and,if_neg (by simp)]at hx;refine wx ?_;simp -implicitDefEqProofs -dsimp[hb,hw',aW,show ¬w<1 by omega,show(1000000:Int)<w by omega,L1];refine hQ1 _ _ _ ?_;simp -implicitDefEqProofs -dsimp[L1];exact hx
    ·rw[show wOk w=false by simp[wOk,q1],Bool.false_and,if_neg (by simp)]at hx;refine wx ?_;simp -implicitDefEqProofs -dsimp[hb,hw',aW,show w<1 by omega,L1];refine hQ1 _ _ _ ?_;simp -implicitDefEqProofs -dsimp[L1];exact hx
   ·rw[List.drop_of_length_le (by omega),List.all_nil,if_pos rfl]at hx;refine wx ?_;simp -implicitDefEqProofs -dsimp[hb,L1];refine hQ1 _ _ _ ?_;simp -implicitDefEqProofs -dsimp[L1];refine aK (W_loopM 63 [2,6,7,9,37,38,39,40,41,42,43,44,45,46,47,48,49,50,51,52,53,54,55,56,57,58,59,60,61,62] (by simp[mB]<;>rfl) (σ:=Nat) (fun j=>j≤es.length∧jW ws.length (es.drop j)=E) (fun j=>es.length-j) (fun j=>[(37,.int .i64 j)]) (fun _=>[B.cells [.lst 1 f (ws.map aW),.lst 1 g (es.map (L1 false))]]) 0 ⟨by omega,by rw[List.drop_zero,hx]⟩ (by simp) (by simp[L1]) (by simp) ?_);rintro j ⟨hj,hy⟩ N2 Q2 hN2 hQ2;by_cases hjb:j<es.length
    ·rw[List.drop_eq_getElem_cons hjb,jW,List.all_cons]at hy;have hle:=hl es[j] (List.getElem_mem hjb);obtain⟨e,he⟩:∃e,e=es[j]:=⟨_,rfl⟩;rw[←he]at hy hle;have he':=he.symm;obtain⟨R,hR⟩:∃R,R=(es.drop (j+1)).all (eOk ws.length):=⟨_,rfl⟩;rw[←hR]at hy;rw[eOk]at hy;refine wx ?_;simp -implicitDefEqProofs -dsimp[hjb,he',L1];refine aK (W_loopM 59 [2,7,9,43,44,45,46,47,48,49,50,51,52,53,54,55,56,57,58] (by simp[mB]<;>rfl) (σ:=Nat×Int) (fun p=>p.1≤e.length∧(if((gL ws.length p.2 (e.drop p.1)&&!e.isEmpty)&&R)=true then(0:Int) else 1)=E) (fun p=>e.length-p.1) (fun p=>[(43,.int .i64 p.1),(7,.int .i64 p.2)]) (fun _=>[B.cells [.lst 1 f (ws.map aW),.lst 1 g (es.map (L1 false))]]) (0,-1) ⟨by simp,by rw[List.drop_zero];exact hy⟩ (by simp) (by simp[L1]) (by simp) ?_);rintro⟨k,last⟩ ⟨hk,hz⟩ N3 Q3 hN3 hQ3;simp only at hk hz hN3;by_cases hkb:k<e.length
     ·rw[List.drop_eq_getElem_cons hkb,gL]at hz;obtain⟨v,hv⟩:∃v,v=e[k]:=⟨_,rfl⟩;rw[←hv]at hz;have hv':=hv.symm;by_cases q1:last<v
      ·by_cases q2:v<ws.length
       ·rw[decide_eq_true q1,decide_eq_true q2,Bool.true_and,Bool.true_and]at hz;refine wx ?_;simp -implicitDefEqProofs -dsimp[hkb,hv',aW,show ¬v≤last by omega,show ¬(ws.length:Int)≤v by omega,aJ k (by omega),L1];refine hN3 (k+1,v) _ _ ⟨by simp only;omega,hz⟩ (by omega) ?_ ⟨[],?_⟩ ?_ ?_<;>simp[or_imp,forall_and,L1,aW]
       ·rw[decide_eq_false q2,Bool.and_false,Bool.false_and,Bool.false_and,Bool.false_and,if_neg (by simp)]at hz;refine wx ?_;simp -implicitDefEqProofs -dsimp[hkb,hv',aW,show ¬v≤last by omega,show(ws.length:Int)≤v by omega,L1];refine hQ3 _ _ _ ?_;simp -implicitDefEqProofs -dsimp[L1];refine hQ2 _ _ _ ?_;simp -implicitDefEqProofs -dsimp[L1];exact hz
      ·rw[decide_eq_false q1,Bool.false_and,Bool.false_and,Bool.false_and,Bool.false_and,if_neg (by simp)]at hz;refine wx ?_;simp -implicitDefEqProofs -dsimp[hkb,hv',aW,show v≤last by omega,L1];refine hQ3 _ _ _ ?_;simp -implicitDefEqProofs -dsimp[L1];refine hQ2 _ _ _ ?_;simp -implicitDefEqProofs -dsimp[L1];exact hz
     ·rw[List.drop_of_length_le (by omega),gL,Bool.true_and]at hz;by_cases h0:e.length=0
      ·have hen:e=[]:=List.length_eq_zero_iff.1 h0;rw[hen]at hz;simp at hz;refine wx ?_;simp -implicitDefEqProofs -dsimp[hkb,L1];refine hQ3 _ _ _ ?_;simp -implicitDefEqProofs -dsimp[h0,L1];refine hQ2 _ _ _ ?_;simp -implicitDefEqProofs -dsimp[L1];exact hz
      ·have hen:e.isEmpty=false:=by cases e with
        | nil=>simp at h0
        | cons a b=>rfl
       rw[hen,Bool.not_false,Bool.true_and,hR]at hz;refine wx ?_;simp -implicitDefEqProofs -dsimp[hkb,L1];refine hQ3 _ _ _ ?_;simp -implicitDefEqProofs -dsimp[h0,show ¬(e.length:Int)=0 by omega,aJ j (by omega),L1];refine hN2 (j+1) _ _ ⟨by omega,hz⟩ (by omega) ?_ ⟨[],?_⟩ ?_ ?_<;>simp[or_imp,forall_and,L1,aW]
    ·rw[List.drop_of_length_le (by omega)]at hy;refine wx ?_;simp -implicitDefEqProofs -dsimp[hjb,L1];refine hQ2 _ _ _ ?_;simp -implicitDefEqProofs -dsimp[L1];exact hy
structure Shr where
 e:Int
 a:Int
structure Nde where
 v:Int
 l:List Shr
def gE(m:List Nat)(k:Nat)(e:List Nat):Bool:=e.any fun v=>decide (m.getD v 0=k)
def gM(m:List Nat)(es:List (List Nat)):Bool:=es.any fun e=>!gE m 1 e&&!gE m 0 e
def nj(m:List Nat)(ws:List Int)(a:Int):List Nat→List Int→Option (List Int)
 | [],ld=>some ld
 | v::e,ld=>if m.getD v 0=0∧ws.getD v 0<ld.getD v 0+a then none else nj m ws a e (ld.set v (ld.getD v 0+a))
def okS(es:List (List Nat))(m:List Nat)(x:Shr):Bool:=decide (0≤x.e)&&decide (x.e<es.length)&&decide (1≤x.a)&&decide (x.a≤1000000000000)&&!gE m 1 (es.getD x.e.toNat [])
def fN(ws:List Int)(es:List (List Nat))(m:List Nat)(b:Int):List Shr→List Int→Int→Bool
 | [],_,s=>decide (b≤s)
 | x::l,ld,s=>if okS es m x=true then(match nj m ws x.a (es.getD x.e.toNat []) ld with
  | none=>false
  | some ld'=>fN ws es m b l ld' (s+x.a)) else false
def shE(ws:List Int)(es:List (List Nat))(m:List Nat)(l:List Shr)(b:Int):Bool:=decide (l.length≤10000)&&fN ws es m b l (List.replicate m.length 0) 0
def dZ(ws:List Int)(es:List (List Nat)):Nat→List Nat→List Nde→Int→Option (List Nde)×Bool
 | 0,_,_,_=>(none,false)
 | _+1,_,[],_=>(none,false)
 | k+1,m,x::r,b =>
  if x.v = -1 then(some r,if x.l=[] then decide (b≤0)||gM m es else shE ws es m x.l b)
  else if x.v<0∨(m.length:Int)≤x.v∨x.l≠[]∨m.getD x.v.toNat 0≠0 then(none,false)
  else match dZ ws es k (m.set x.v.toNat 1) r (b-ws.getD x.v.toNat 0) with
   | (some r',true)=>dZ ws es k (m.set x.v.toNat 2) r' b
   | p=>p
def jN:List Shr→Int
 | []=>0
 | x::l=>x.a+jN l
def ldR(es:List (List Nat))(v:Nat):List Shr→Int
 | []=>0
 | x::l=>(if v∈es.getD x.e.toNat [] then x.a else 0)+ldR es v l
def gq(e ch:List Nat):Bool:=e.any fun v=>ch.contains v
def okR(es:List (List Nat))(ch:List Nat)(x:Shr):Bool:=decide (0≤x.e)&&decide (x.e<es.length)&&decide (1≤x.a)&&decide (x.a≤1000000000000)&&!gq (es.getD x.e.toNat []) ch
def il(ws:List Int)(es:List (List Nat))(ch ex:List Nat)(b:Int)(l:List Shr):Bool :=
 decide (l.length≤10000)&&(l.all (okR es ch)&&((List.range ws.length).all (fun v=>decide (ldR es v l≤ws.getD v 0)||ex.contains v)&&decide (b≤jN l)))
def fV(es:List (List Nat))(ex:List Nat):Bool:=es.any fun e=>e.all fun v=>ex.contains v
def cH(ws:List Int)(es:List (List Nat)):Nat→List Nat→List Nat→Int→List Nde→Int
 | 0,_,_,_,_=>-1
 | _+1,_,_,_,[]=>-1
 | k+1,ch,ex,b,x::r =>
  if x.v = -1 then(if(if x.l=[] then decide (b≤0)||fV es ex else il ws es ch ex b x.l)=true then 1 else -1)
  else if x.l≠[]∨x.v<0∨(ws.length:Int)≤x.v∨x.v.toNat∈ch∨x.v.toNat∈ex then -1
  else if cH ws es k (ch++[x.v.toNat]) ex (b-ws.getD x.v.toNat 0) r<0 then -1
  else if cH ws es k ch (ex++[x.v.toNat]) b (r.drop (cH ws es k (ch++[x.v.toNat]) ex (b-ws.getD x.v.toNat 0) r).toNat)<0 then -1
  else 1+cH ws es k (ch++[x.v.toNat]) ex (b-ws.getD x.v.toNat 0) r+cH ws es k ch (ex++[x.v.toNat]) b (r.drop (cH ws es k (ch++[x.v.toNat]) ex (b-ws.getD x.v.toNat 0) r).toNat)
def jP(n:Nat)(es:List (List Nat)):Prop:=∀e∈es,e≠[]∧e.Pairwise (· < ·)∧∀v∈e,v<n
structure Cor (n:Nat) (m ch ex:List Nat):Prop where
 len:m.length=n
 c:∀v<n,(m.getD v 0=1↔v∈ch)
 x:∀v<n,(m.getD v 0=2↔v∈ex)
 le:∀v<n,m.getD v 0≤2
theorem ah{α:Type}(l:List α){i:Nat}(d:α)(h:i<l.length):l.getD i d=l[i]:=by simp[List.getD,h]
theorem ac{α:Type}(l:List α){i:Nat}(h:i<l.length)(a d:α):(l.set i a).getD i d=a:=by simp[List.getD,h]
theorem af{α:Type}(l:List α){i j:Nat}(h:i≠j)(a d:α):(l.set i a).getD j d=l.getD j d:=by simp[List.getD,List.getElem?_set_ne h]
theorem Cor.set1{n:Nat}{m ch ex:List Nat}(g:Cor n m ch ex){v:Nat}(hv:v<n)(h0:m.getD v 0=0):Cor n (m.set v 1) (ch++[v]) ex:=by
 have hl:v<m.length:=by rw[g.len];exact hv
 refine⟨by simp[g.len],fun u hu=>?_,fun u hu=>?_,fun u hu=>?_⟩
 ·by_cases e:v=u
  ·subst e;rw[ac _ hl];simp
  ·rw[af _ e,g.c u hu];simp;omega
 ·by_cases e:v=u
  ·subst e;rw[ac _ hl,←g.x v hv,h0];simp
  ·rw[af _ e,g.x u hu]
 ·by_cases e:v=u
  ·subst e;rw[ac _ hl];omega
  ·rw[af _ e];exact g.le u hu
theorem Cor.set2{n:Nat}{m ch ex:List Nat}(g:Cor n m ch ex){v:Nat}(hv:v<n)(h0:m.getD v 0=0):Cor n (m.set v 2) ch (ex++[v]):=by
 have hl:v<m.length:=by rw[g.len];exact hv
 refine⟨by simp[g.len],fun u hu=>?_,fun u hu=>?_,fun u hu=>?_⟩
 ·by_cases e:v=u
  ·subst e;rw[ac _ hl,←g.c v hv,h0];simp
  ·rw[af _ e,g.c u hu]
 ·by_cases e:v=u
  ·subst e;rw[ac _ hl];simp
  ·rw[af _ e,g.x u hu];simp;omega
 ·by_cases e:v=u
  ·subst e;rw[ac _ hl];omega
  ·rw[af _ e];exact g.le u hu
theorem has1_meets{n:Nat}{m ch ex:List Nat}(g:Cor n m ch ex){e:List Nat}(he:∀v∈e,v<n):gE m 1 e=gq e ch:=by
 unfold gE gq;rw[Bool.eq_iff_iff];simp only[List.any_eq_true,decide_eq_true_eq,List.contains_iff_mem];exact⟨fun⟨v,hv,h⟩=>⟨v,hv,(g.c v (he v hv)).1 h⟩,fun⟨v,hv,h⟩=>⟨v,hv,(g.c v (he v hv)).2 h⟩⟩
theorem dead_closed{n:Nat}{m ch ex:List Nat}(g:Cor n m ch ex){es:List (List Nat)}(he:jP n es):gM m es=fV es ex:=by
 unfold gM fV gE;rw[Bool.eq_iff_iff];simp only[List.any_eq_true,Bool.and_eq_true,Bool.not_eq_true',List.any_eq_false,decide_eq_true_eq,List.all_eq_true,List.contains_iff_mem];constructor
 ·rintro⟨e,h1,h2,h3⟩;refine⟨e,h1,fun v hv=>?_⟩;have hvn:=(he e h1).2.2 v hv;have a1:=h2 v hv;have a0:=h3 v hv;have:=g.le v hvn;exact(g.x v hvn).1 (by omega)
 ·rintro⟨e,h1,h2⟩;refine⟨e,h1,fun v hv=>?_,fun v hv=>?_⟩
  ·have:=(g.x v ((he e h1).2.2 v hv)).2 (h2 v hv);omega
  ·have:=(g.x v ((he e h1).2.2 v hv)).2 (h2 v hv);omega
theorem load_spec(m:List Nat)(ws:List Int)(a:Int)(n:Nat):∀(e:List Nat) (ld:List Int),e.Pairwise (· < ·)→(∀v∈e,v<n)→ld.length=n →
  (nj m ws a e ld=none∧∃v∈e,m.getD v 0=0∧ws.getD v 0<ld.getD v 0+a)∨
  ((∀v∈e,m.getD v 0=0→ld.getD v 0+a≤ws.getD v 0)∧∃ld',nj m ws a e ld=some ld'∧ld'.length=n∧∀v,ld'.getD v 0=ld.getD v 0+if v∈e then a else 0)
 | [],ld,_,_,hl=>.inr ⟨by simp,ld,rfl,hl,by simp⟩
 | v::e,ld,hp,hn,hl=>by
  obtain⟨hp1,hp2⟩:=List.pairwise_cons.1 hp
  have hv:v<ld.length:=by rw[hl];exact hn v (by simp)
  rw[nj];by_cases h:m.getD v 0=0∧ws.getD v 0<ld.getD v 0+a
  ·rw[if_pos h];exact .inl ⟨rfl,v,by simp,h⟩
  ·rw[if_neg h]
   rcases load_spec m ws a n e (ld.set v (ld.getD v 0+a)) hp2 (fun u hu=>hn u (by simp[hu])) (by simp[hl]) with⟨h1,u,hu,h2,h3⟩ | ⟨h1,ld',h2,h3,h4⟩
   ·refine .inl ⟨h1,u,by simp[hu],h2,?_⟩;have:=hp1 u hu
    rwa [af _ (by omega)]at h3
   ·refine .inr ⟨fun u hu h0=>?_,ld',h2,h3,fun u=>?_⟩
    ·rcases List.mem_cons.1 hu with rfl | hu
     ·have:=not_and.1 h h0;omega
     ·have h5:=h1 u hu h0;have:=hp1 u hu
      rwa [af _ (by omega)]at h5
    ·rw[h4 u];by_cases e1:v=u
     ·subst e1;rw[ac _ hv,if_neg (fun hu=>by have:=hp1 v hu;omega)];simp
     ·rw[af _ e1]
      have:(u∈v::e)↔u∈e:=by simp;omega
      simp only[this]
theorem fm{es:List (List Nat)}{i:Nat}(h:i<es.length):es.getD i []∈es:=by
 rw[ah _ _ h];exact List.getElem_mem h
theorem jU(ws:List Int)(es:List (List Nat))(m:List Nat)(b:Int){n:Nat}(he:jP n es):∀(l:List Shr) (ld:List Int) (s:Int),ld.length=n→(∀v<n,m.getD v 0=0→ld.getD v 0≤ws.getD v 0)→
  (fN ws es m b l ld s=true↔(∀x∈l,okS es m x=true)∧(∀v<n,m.getD v 0=0→ld.getD v 0+ldR es v l≤ws.getD v 0)∧b≤s+jN l)
 | [],ld,s,hl,hi=>by
  simp only[fN,decide_eq_true_eq,ldR,jN,Int.add_zero];exact⟨fun h=>⟨by simp,hi,h⟩,fun h=>h.2.2⟩
 | x::l,ld,s,hl,hi=>by
  rw[fN];by_cases hx:okS es m x=true
  ·rw[if_pos hx];have hx':=hx;simp only[okS,Bool.and_eq_true,decide_eq_true_eq]at hx';obtain⟨⟨⟨⟨x1,x2⟩,x3⟩,x4⟩,x5⟩:=hx';have hmem:=fm (es:=es) (i:=x.e.toNat) (by omega);obtain⟨e1,e2,e3⟩:=he _ hmem
   have hnn:∀(l':List Shr),(∀y∈l',okS es m y=true)→∀v,0≤ldR es v l':=by
    intro l'
    induction l' with
    | nil=>intro _ v;simp[ldR]
    | cons y l' ih =>
     intro hy v;have h0:=hy y (by simp);simp only[okS,Bool.and_eq_true,decide_eq_true_eq]at h0;have:=ih (fun z hz=>hy z (by simp[hz])) v;rw[ldR];split<;>omega
   rcases load_spec m ws x.a n _ ld e2 e3 hl with⟨h1,v,hv,h2,h3⟩ | ⟨h1,ld',h2,h3,h4⟩
   ·rw[h1];refine⟨fun h=>by simp at h,fun⟨g1,g2,g3⟩=>?_⟩;have:=g2 v (e3 v hv) h2;have h5:=hnn l (fun y hy=>g1 y (by simp[hy])) v;rw[ldR,if_pos hv]at this;omega
   ·rw[h2];simp only
    rw[jU ws es m b he l ld' (s+x.a) h3 (fun v hv h0=>by
     rw[h4 v];split
     ·exact h1 v (by assumption) h0
     ·simpa using hi v hv h0)]
    simp only[List.forall_mem_cons,ldR,jN,h4,hx,true_and];constructor
    ·rintro⟨g1,g2,g3⟩;exact⟨g1,fun v hv h0=>by have:=g2 v hv h0;omega,by omega⟩
    ·rintro⟨g1,g2,g3⟩;exact⟨g1,fun v hv h0=>by have:=g2 v hv h0;omega,by omega⟩
  ·rw[if_neg hx];exact⟨fun h=>by simp at h,fun h=>absurd (h.1 x (by simp)) hx⟩
theorem fk(n v:Nat):(List.replicate n (0:Int)).getD v 0=0:=by
 simp only[List.getD,List.getElem?_replicate];split<;>rfl
theorem sh_right{ws:List Int}{es:List (List Nat)}{m ch ex:List Nat}(g:Cor ws.length m ch ex)(he:jP ws.length es)(hw:∀w∈ws,1≤w)(l:List Shr)(b:Int):shE ws es m l b=il ws es ch ex b l:=by
 unfold shE il;by_cases hl:l.length≤10000
 ·rw[decide_eq_true hl,Bool.true_and,Bool.true_and,Bool.eq_iff_iff]
  have hw0:∀v<ws.length,1≤ws.getD v 0:=fun v hv=>by rw[ah _ _ hv];exact hw _ (List.getElem_mem hv)
  rw[jU ws es m b he l _ 0 (by simp[g.len]) (fun v hv _=>by rw[fk];have:=hw0 v hv;omega)];simp only[Bool.and_eq_true,List.all_eq_true,decide_eq_true_eq,List.mem_range,Bool.or_eq_true,List.contains_iff_mem,fk,Int.zero_add]
  have hok:∀x:Shr,okS es m x=okR es ch x:=fun x=>by
   unfold okS okR;by_cases h1:0≤x.e
   ·by_cases h2:x.e<es.length
    ·rw[has1_meets g (he _ (fm (by omega))).2.2]
    ·simp[h2]
   ·simp[h1]
  simp only[hok];constructor
  ·rintro⟨h1,h2,h3⟩;refine⟨h1,fun v hv=>?_,h3⟩;by_cases h0:m.getD v 0=0
   ·exact .inl (h2 v hv h0)
   ·by_cases h5:m.getD v 0=2
    ·exact .inr ((g.x v hv).1 h5)
    ·have hc:v∈ch:=(g.c v hv).1 (by have:=g.le v hv;omega);refine .inl ?_
     have:ldR es v l=0:=by
      clear h2 h3 hl
      induction l with
      | nil=>rfl
      | cons y l ih =>
       have hy:=h1 y (by simp);simp only[okR,Bool.and_eq_true,Bool.not_eq_true',gq,List.any_eq_false,List.contains_iff_mem]at hy;rw[ldR,if_neg (fun hm=>hy.2 v hm hc),ih (fun z hz=>h1 z (by simp[hz]))];rfl
     have:=hw0 v hv;omega
  ·rintro⟨h1,h2,h3⟩;refine⟨h1,fun v hv h0=>?_,h3⟩
   rcases h2 v hv with h | h
   ·exact h
   ·have:=(g.x v hv).2 h;omega
 ·simp[hl]
theorem qT{ws:List Int}{es:List (List Nat)}(he:jP ws.length es)(hw:∀w∈ws,1≤w):∀(k:Nat) (m ch ex:List Nat) (b:Int) (l:List Nde),Cor ws.length m ch ex →
  ((dZ ws es k m l b).2=true→∃j:Nat,1≤j∧j≤l.length∧(dZ ws es k m l b).1=some (l.drop j)∧cH ws es k ch ex b l=j)∧((dZ ws es k m l b).2=false→cH ws es k ch ex b l = -1)
 | 0,m,ch,ex,b,l,g=>by simp[dZ,cH]
 | k+1,m,ch,ex,b,[],g=>by simp[dZ,cH]
 | k+1,m,ch,ex,b,x::r,g=>by
  rw[dZ,cH];by_cases h1:x.v = -1
  ·rw[if_pos h1,if_pos h1]
   have hq:(if x.l=[] then decide (b≤0)||gM m es else shE ws es m x.l b)=(if x.l=[] then decide (b≤0)||fV es ex else il ws es ch ex b x.l):=by
    rw[dead_closed g he,sh_right g he hw]
   rw[hq];generalize (if x.l=[] then decide (b≤0)||fV es ex else il ws es ch ex b x.l)=q;cases q
   ·simp
   ·simp only[if_true];exact⟨fun _=>⟨1,by omega,by simp,by simp,rfl⟩,fun h=>by simp at h⟩
  ·rw[if_neg h1,if_neg h1]
   have hiff:(x.v<0∨(m.length:Int)≤x.v∨x.l≠[]∨m.getD x.v.toNat 0≠0)↔(x.l≠[]∨x.v<0∨(ws.length:Int)≤x.v∨x.v.toNat∈ch∨x.v.toNat∈ex):=by
    rw[g.len];by_cases a1:x.v<0
    ·simp[a1]
    ·by_cases a2:(ws.length:Int)≤x.v
     ·simp[a2]
     ·have hv:x.v.toNat<ws.length:=by omega
      have e1:=g.c _ hv;have e2:=g.x _ hv;have e3:=g.le _ hv
      have:m.getD x.v.toNat 0≠0↔(x.v.toNat∈ch∨x.v.toNat∈ex):=by
       rw[←e1,←e2];omega
      rw[this];by_cases a3:x.l=[]<;>simp[a1,a2,a3]
   by_cases h2:x.v<0∨(m.length:Int)≤x.v∨x.l≠[]∨m.getD x.v.toNat 0≠0
   ·rw[if_pos h2,if_pos (hiff.1 h2)];simp
   ·rw[if_neg h2,if_neg (fun h=>h2 (hiff.2 h))]
    have hv:x.v.toNat<ws.length:=by rw[←g.len];omega
    have h0:m.getD x.v.toNat 0=0:=by
     by_cases a:m.getD x.v.toNat 0=0
     ·exact a
     ·exact absurd (.inr (.inr (.inr a))) h2
    obtain⟨i1,i2⟩:=qT he hw k _ _ _ (b-ws.getD x.v.toNat 0) r (g.set1 hv h0);obtain⟨p,hp⟩:∃p,p=dZ ws es k (m.set x.v.toNat 1) r (b-ws.getD x.v.toNat 0):=⟨_,rfl⟩;rw[←hp]at i1 i2 ⊢;obtain⟨p1,p2⟩:=p;cases p2
    ·rw[i2 rfl,if_pos (by omega)];cases p1<;>simp
    ·obtain⟨j,j1,j2,j3,j4⟩:=i1 rfl;simp only at j3;rw[j3,j4,if_neg (by omega),Int.toNat_natCast];simp only;obtain⟨k1,k2⟩:=qT he hw k _ _ _ b (r.drop j) (g.set2 hv h0);cases hd:(dZ ws es k (m.set x.v.toNat 2) (r.drop j) b).2
     ·rw[k2 hd,if_pos (by omega)];simp
     ·obtain⟨i,l1,l2,l3,l4⟩:=k1 hd;rw[l4,if_neg (by omega),l3];rw[List.length_drop]at l2;refine⟨fun _=>⟨1+j+i,by omega,by simp;omega,?_,by omega⟩,fun h=>by simp at h⟩;rw[show 1+j+i=(j+i)+1 by omega,List.drop_succ_cons,List.drop_drop]
def qU(ws:List Int)(es:List (List Nat))(b:Int)(l:List Nde):Bool:=match dZ ws es (l.length+1) (List.replicate ws.length 0) l b with
 | (some r,true)=>decide (r.length=0)
 | _=>false
def checkRf(ws:List Int)(es:List (List Nat))(b:Int)(l:List Nde):Bool:=decide (0<l.length)&&decide (cH ws es (l.length+1) [] [] b l=l.length)
theorem check_same{ws:List Int}{es:List (List Nat)}(he:jP ws.length es)(hw:∀w∈ws,1≤w)(b:Int)(l:List Nde):qU ws es b l=checkRf ws es b l:=by
 unfold qU checkRf
 have hm0:∀v,(List.replicate ws.length 0).getD v 0=0:=fun v=>by
  simp only[List.getD,List.getElem?_replicate];split<;>rfl
 have g:Cor ws.length (List.replicate ws.length 0) [] []:=⟨by simp,fun v _=>by rw[hm0];simp,fun v _=>by rw[hm0];simp,fun v _=>by rw[hm0];omega⟩;obtain⟨h1,h2⟩:=qT he hw (l.length+1) _ _ _ b l g;obtain⟨p,hp⟩:∃p,p=dZ ws es (l.length+1) (List.replicate ws.length 0) l b:=⟨_,rfl⟩;rw[←hp]at h1 h2 ⊢;obtain⟨p1,p2⟩:=p;cases p2
 ·rw[h2 rfl]
  have h3:(match (p1,false) with
   | (some r,true)=>decide (r.length=0)
   | _=>false)=false:=by cases p1<;>rfl
  rw[h3]
  symm
  simp only[Bool.and_eq_false_iff,decide_eq_false_iff_not];exact .inr (by omega)
 ·obtain⟨j,j1,j2,j3,j4⟩:=h1 rfl;simp only at j3;rw[j3,j4,Bool.eq_iff_iff];simp only[List.length_drop,Bool.and_eq_true,decide_eq_true_eq];omega
theorem kK{P:Program}{f:FuncId}{args:List V}{H:List B}{σ:Type}{ok:σ→Prop}{rf:σ→V}{Hf:σ→List B}(h:bA P f args H fun r H'=>∃x,ok x∧r=rf x∧∃G,H'=Hf x++G)(hl:∀x,ok x→H.length≤(Hf x).length)(hr:∀x,ok x→rb (Hf x).length (rf x))(hb:∀x,ok x→∀bl∈Hf x,rbB (Hf x).length bl):bA P f args H fun r H'=>∃x,ok x∧r=rf x∧H'=Hf x:=by
 refine⟨h.1,fun s vals h1 h2 h3 h4=>(h.2 s vals h1 h2 h3 h4).mono fun e w' ⟨u,s',r,a,b,c,d,e1,x,k1,k2,G,k3⟩=>?_⟩;subst k2;exact⟨u,s'.cut (Hf x),rf x,a,b,qM c k3 (hb x k1),jl c k3 (Step.refl _) s d (by rw[h1.1];exact hl x k1),kJ k3 e1 (hr x k1),x,k1,rfl,rfl⟩
theorem conH_cutU{P:Program}{f:FuncId}{args:List V}{H Hf:List B}(h:bA P f args H fun _ H'=>∃G,H'=Hf++G)(hl:H.length≤Hf.length)(hb:∀bl∈Hf,rbB Hf.length bl):bA P f args H fun r H'=>r = .undef∧H'=Hf:=by
 refine⟨h.1,fun s vals h1 h2 h3 h4=>(h.2 s vals h1 h2 h3 h4).mono fun e w' ⟨u,s',r,a,b,c,d,e1,G,k3⟩=>?_⟩;exact⟨u,s'.cut Hf,.undef,a,b,qM c k3 hb,jl c k3 (Step.refl _) s d (by rw[h1.1];exact hl),.undef _,rfl,rfl⟩
section
def eN(n:Nat):V:=.int .i64 (n:Int)
@[simp] theorem eN_pure (n:Nat):AM.Pure (eN n):=by simp[eN]
@[simp] theorem eN_oneV (n:Nat):dm (eN n)=true:=rfl
def Ln(f:Bool)(e:List Nat):V:=.lst 1 f (e.map eN)
@[simp] theorem Ln_pure (f:Bool) (e:List Nat):AM.Pure (Ln f e):=by simp[Ln]
@[simp] theorem Ln_oneV (f:Bool) (e:List Nat):dm (Ln f e)=true:=rfl
def LLn(g:Bool)(es:List (List Nat)):V:=.lst 1 g (es.map (Ln false))
@[simp] theorem LLn_pure (g:Bool) (es:List (List Nat)):AM.Pure (LLn g es):=by simp[LLn]
def nuL(m:List Nat):List V:=m.map eN
theorem aw(m:List Nat):(nuL m).length=m.length:=by simp[nuL]
theorem bQ{m:List Nat}{x:Nat}(h:x<(nuL m).length):(nuL m)[x] = .int .i64 (m.getD x 0:Nat):=by
 have h2:x<m.length:=by simpa[nuL] using h
 simp[nuL,eN,h2]
theorem cW(m:List Nat)(x v:Nat):(nuL m).set x (.int .i64 (v:Int))=nuL (m.set x v):=by
 unfold nuL;rw[List.map_set];rfl
theorem cx(m:List Nat):∀x∈nuL m,AM.Pure x∧dm x=true:=by
 intro x hx;obtain⟨n,_,rfl⟩:=List.mem_map.1 hx;exact⟨eN_pure n,eN_oneV n⟩
def inL(m:List Int):List V:=m.map aW
theorem eu(m:List Int):(inL m).length=m.length:=by simp[inL]
theorem ev{m:List Int}{x:Nat}(h:x<(inL m).length):(inL m)[x] = .int .i64 (m.getD x 0):=by
 have h2:x<m.length:=by simpa[inL] using h
 simp[inL,aW,h2]
theorem ll(m:List Int)(x:Nat)(v:Int):(inL m).set x (.int .i64 v)=inL (m.set x v):=by
 unfold inL;rw[List.map_set];rfl
theorem iO(m:List Int):∀x∈inL m,AM.Pure x∧dm x=true:=by
 intro x hx;obtain⟨n,_,rfl⟩:=List.mem_map.1 hx;exact⟨encI_pure n,encI_oneV n⟩
theorem rbM1{n m:Nat}(h:n≤m){v:V}(hv:rb1 n v):rb1 m v:=by
 cases v<;>simp only[rb1]at hv ⊢<;>first | exact hv | omega | trivial
theorem rbM{n m:Nat}(h:n≤m){v:V}(hv:rb n v):rb m v:=by
 cases v<;>simp only[rb]at hv ⊢<;>first | exact rbM1 h hv | exact fun c hc=>rbM1 h (hv c hc) | trivial
theorem rbBM{n m:Nat}(h:n≤m){bl:B}(hb:rbB n bl):rbB m bl:=by
 cases bl with
 | cells cs=>exact fun c hc=>rbM h (hb c hc)
 | map kk es=>exact fun p hp=>⟨rbM h (hb p hp).1,rbM h (hb p hp).2⟩
 | buf e z xs fz=>exact fun x hx c hc=>rbM h (hb x hx c hc)
theorem rbs_app{H G:List B}(hH:∀bl∈H,rbB H.length bl)(hG:∀bl∈G,rbB (H.length+G.length) bl):∀bl∈H++G,rbB (H++G).length bl:=fun bl hb=>by
 rw[List.length_append]
 rcases List.mem_append.1 hb with h | h
 ·exact rbBM (by omega) (hH bl h)
 ·exact hG bl h
theorem fO{H:List B}{k:Nat}{b:B}(hH:∀bl∈H,rbB H.length bl)(hb:rbB H.length b):∀bl∈H.set k b,rbB (H.set k b).length bl:=fun bl h=>by
 rw[List.length_set]
 rcases List.mem_or_eq_of_mem_set h with h | rfl
 ·exact hH bl h
 ·exact hb
theorem fo{P:Program}{f:FuncId}{args:List V}{H:List B}{v:V}(h:bA P f args H fun r H'=>r=v∧∃G,H'=H++G)(hr:rb H.length v)(hb:∀bl∈H,rbB H.length bl):bA P f args H fun r H'=>r=v∧H'=H:=by
 refine(kK (σ:=Unit) (ok:=fun _=>True) (rf:=fun _=>v) (Hf:=fun _=>H) (h.mono fun r H' ⟨a,G,b⟩=>⟨(),trivial,a,G,b⟩) (fun _ _=>Nat.le_refl _) (fun _ _=>hr) (fun _ _=>hb)).mono ?_;rintro r H' ⟨_,_,a,b⟩;exact⟨a,b⟩
theorem bK{P:Program}{f:FuncId}{args:List V}{H:List B}{K K':V→List B→Prop}(h:bA P f args H K)(hk:∀r H',K r H'→K' r H'):aT P (.fn f []) args H K':=by
 simp only[aT,List.append_nil];exact h.mono hk
structure SAt (H:List B) (k0 km:Nat) (f g:Bool) (ws:List Int) (es:List (List Nat)) (n:Nat) (m:List Nat) (lf:Int):Prop where
 h0:H[k0]?=some (.cells [L1 f ws,LLn g es,.buf km 0 n n,.int .i64 lf])
 hm:H[km]?=some (.buf 3 1 (nuL m) false)
 rb:∀bl∈H,rbB H.length bl
 lm:m.length=n
 lw:ws.length=n
 n0:km≠k0
theorem SAt.app{H:List B}{k0 km:Nat}{f g:Bool}{ws:List Int}{es:List (List Nat)}{n:Nat}{m:List Nat}{lf:Int}(s:SAt H k0 km f g ws es n m lf)(G:List B)(hG:∀bl∈G,rbB (H.length+G.length) bl):SAt (H++G) k0 km f g ws es n m lf :=
 ⟨by rw[List.getElem?_append_left (aE s.h0)];exact s.h0,by rw[List.getElem?_append_left (aE s.hm)];exact s.hm,rbs_app s.rb hG,s.lm,s.lw,s.n0⟩
theorem SAt.mark{H:List B}{k0 km:Nat}{f g:Bool}{ws:List Int}{es:List (List Nat)}{n:Nat}{m:List Nat}{lf:Int}(s:SAt H k0 km f g ws es n m lf)(v c:Nat):SAt (H.set km (.buf 3 1 (nuL (m.set v c)) false)) k0 km f g ws es n (m.set v c) lf :=
 ⟨by rw[List.getElem?_set_ne s.n0];exact s.h0,by rw[List.getElem?_set_self (aE s.hm)],fO s.rb ((rbB_buf1 (cx _)).2 trivial),by simp[s.lm],s.lw,s.n0⟩
theorem SAt.back{H:List B}{k0 km:Nat}{f g:Bool}{ws:List Int}{es:List (List Nat)}{n:Nat}{m:List Nat}{lf:Int}(s:SAt H k0 km f g ws es n m lf)(b c:B):((H.set km b).set km c).set km (.buf 3 1 (nuL m) false)=H:=by
 rw[List.set_set,List.set_set];have h:=aE s.hm
 have:H[km] = .buf 3 1 (nuL m) false:=by have:=s.hm;rw[List.getElem?_eq_getElem h]at this;exact Option.some.inj this
 rw[←this,List.set_getElem_self]
def ixN(p:Nat→Bool)(e:List Nat)(i:Nat):Int:=if h:i<e.length then(if p e[i] then(i:Int) else ixN p e (i+1)) else -1
termination_by e.length-i
theorem ixN_any(p:Nat→Bool)(e:List Nat)(i:Nat):decide (0≤ixN p e i)=(e.drop i).any p:=by
 fun_induction ixN p e i with
 | case1 i h h0=>rw[List.drop_eq_getElem_cons h,List.any_cons,h0];simp
 | case2 i h h0 ih=>rw[List.drop_eq_getElem_cons h,List.any_cons,ih];simp[h0]
 | case3 i h=>rw[List.drop_of_length_le (by omega)];rfl
theorem idxFuncN(H:List B)(fv:V)(p:Nat→Bool)(e:List Nat)(g:Bool)(hes:e.length≤1000000)(hH:∀bl∈H,rbB H.length bl)(hfv:rb H.length fv)
  (hp:∀v∈e,aT Tryz.prog fv [.int .i64 (v:Int)] H fun r H'=>r = .bool (p v)∧H'=H):bA Tryz.prog 184 [Ln g e,fv] H fun r H'=>r = .int .i64 (ixN p e 0)∧H'=H:=by
 refine aD tok Tryz.func184 rfl rfl ?_;refine wx ?_;simp -implicitDefEqProofs -dsimp[Tryz.f184,List.replicate,Ln];refine aK (W_loopM 19 [4,5,8,9,10,11,12,13,14,15,16,17,18] (by simp[mB]<;>rfl) (σ:=Nat) (fun i=>ixN p e i=ixN p e 0) (fun i=>e.length-i) (fun i=>[(8,.int .i64 i)]) (fun _=>H) 0 rfl (by simp) rfl (by simp) ?_);intro i hx N Q hN hQ;by_cases hb:i<e.length
 ·rw[ixN,dif_pos hb]at hx;have hc:=hp e[i] (List.getElem_mem hb);cases hq:p e[i]
  ·rw[hq]at hc hx;refine wx ?_;simp -implicitDefEqProofs -dsimp[hb,eN];refine hc.mono ?_;rintro r H' ⟨rfl,rfl⟩;simp -implicitDefEqProofs -dsimp[aJ i (by omega)];refine hN (i+1) _ _ (by simpa using hx) (by omega) (by simp) ⟨[],by simp⟩ (by simp;exact hfv) hH
  ·rw[hq]at hc hx;refine wx ?_;simp -implicitDefEqProofs -dsimp[hb,eN];refine hc.mono ?_;rintro r H' ⟨rfl,rfl⟩;simp -implicitDefEqProofs -dsimp[];refine hQ _ _ _ ?_;simp -implicitDefEqProofs -dsimp[];simpa using hx
 ·rw[ixN,dif_neg hb]at hx;refine wx ?_;simp -implicitDefEqProofs -dsimp[hb];refine hQ _ _ _ ?_;simp -implicitDefEqProofs -dsimp[];simpa using hx
theorem contFuncN(H:List B)(fv:V)(p:Nat→Bool)(e:List Nat)(g:Bool)(hes:e.length≤1000000)(hH:∀bl∈H,rbB H.length bl)(hfv:rb H.length fv)
  (hp:∀v∈e,aT Tryz.prog fv [.int .i64 (v:Int)] H fun r H'=>r = .bool (p v)∧H'=H):bA Tryz.prog 141 [Ln g e,fv] H fun r H'=>r = .bool (e.any p)∧H'=H:=by
 have h0:=ixN_any p e 0;rw[List.drop_zero]at h0;have hc:=idxFuncN H fv p e g hes hH hfv hp;refine aD tok Tryz.func141 rfl rfl ?_;refine wx ?_;simp -implicitDefEqProofs -dsimp[Tryz.f141,List.replicate];refine(show aT Tryz.prog (.fn 184 []) _ H _ from by simpa[aT] using hc).mono ?_;rintro r H' ⟨rfl,rfl⟩;simp -implicitDefEqProofs -dsimp[];rw[←h0]
def ixL(p:List Nat→Bool)(es:List (List Nat))(i:Nat):Int:=if h:i<es.length then(if p es[i] then(i:Int) else ixL p es (i+1)) else -1
termination_by es.length-i
theorem ixL_any(p:List Nat→Bool)(es:List (List Nat))(i:Nat):decide (0≤ixL p es i)=(es.drop i).any p:=by
 fun_induction ixL p es i with
 | case1 i h h0=>rw[List.drop_eq_getElem_cons h,List.any_cons,h0];simp
 | case2 i h h0 ih=>rw[List.drop_eq_getElem_cons h,List.any_cons,ih];simp[h0]
 | case3 i h=>rw[List.drop_of_length_le (by omega)];rfl
theorem idxFuncL(H:List B)(fv:V)(p:List Nat→Bool)(es:List (List Nat))(g:Bool)(hes:es.length≤1000000)(hH:∀bl∈H,rbB H.length bl)(hfv:rb H.length fv)
  (hp:∀m∈es,aT Tryz.prog fv [Ln false m] H fun r H'=>r = .bool (p m)∧H'=H):bA Tryz.prog 214 [LLn g es,fv] H fun r H'=>r = .int .i64 (ixL p es 0)∧H'=H:=by
 refine aD tok Tryz.func214 rfl rfl ?_;refine wx ?_;simp -implicitDefEqProofs -dsimp[Tryz.f214,List.replicate,LLn];refine aK (W_loopM 19 [4,5,8,9,10,11,12,13,14,15,16,17,18] (by simp[mB]<;>rfl) (σ:=Nat) (fun i=>ixL p es i=ixL p es 0) (fun i=>es.length-i) (fun i=>[(8,.int .i64 i)]) (fun _=>H) 0 rfl (by simp) rfl (by simp) ?_);intro i hx N Q hN hQ;by_cases hb:i<es.length
 ·rw[ixL,dif_pos hb]at hx;have hc:=hp es[i] (List.getElem_mem hb);cases hq:p es[i]
  ·rw[hq]at hc hx;refine wx ?_;simp -implicitDefEqProofs -dsimp[hb];refine hc.mono ?_;rintro r H' ⟨rfl,rfl⟩;simp -implicitDefEqProofs -dsimp[aJ i (by omega)];refine hN (i+1) _ _ (by simpa using hx) (by omega) (by simp) ⟨[],by simp⟩ (by simp;exact hfv) hH
  ·rw[hq]at hc hx;refine wx ?_;simp -implicitDefEqProofs -dsimp[hb];refine hc.mono ?_;rintro r H' ⟨rfl,rfl⟩;simp -implicitDefEqProofs -dsimp[];refine hQ _ _ _ ?_;simp -implicitDefEqProofs -dsimp[];simpa using hx
 ·rw[ixL,dif_neg hb]at hx;refine wx ?_;simp -implicitDefEqProofs -dsimp[hb];refine hQ _ _ _ ?_;simp -implicitDefEqProofs -dsimp[];simpa using hx
theorem contFuncL(H:List B)(fv:V)(p:List Nat→Bool)(es:List (List Nat))(g:Bool)(hes:es.length≤1000000)(hH:∀bl∈H,rbB H.length bl)(hfv:rb H.length fv)
  (hp:∀m∈es,aT Tryz.prog fv [Ln false m] H fun r H'=>r = .bool (p m)∧H'=H):bA Tryz.prog 187 [LLn g es,fv] H fun r H'=>r = .bool (es.any p)∧H'=H:=by
 have h0:=ixL_any p es 0;rw[List.drop_zero]at h0;have hc:=idxFuncL H fv p es g hes hH hfv hp;refine aD tok Tryz.func187 rfl rfl ?_;refine wx ?_;simp -implicitDefEqProofs -dsimp[Tryz.f187,List.replicate];refine(show aT Tryz.prog (.fn 214 []) _ H _ from by simpa[aT] using hc).mono ?_;rintro r H' ⟨rfl,rfl⟩;simp -implicitDefEqProofs -dsimp[];rw[←h0]
section
variable {H:List B} {k0 km:Nat} {f g:Bool} {ws:List Int} {es:List (List Nat)} {n:Nat} {m:List Nat} {lf:Int}
theorem has_h(s:SAt H k0 km f g ws es n m lf)(e:List Nat)(fe:Bool)(k:Nat)(hl:e.length≤1000000)(he:∀v∈e,v<n):
  bA Tryz.prog 189 [.ptr k0 0,Ln fe e,.int .i64 k] H fun r H'=>r = .bool (gE m k e)∧H'=H:=by
 refine fo ?_ (by simp[rb,rb1]) s.rb;have hl0:k0<H.length:=aE s.h0;have s2:=s.app [B.cells [.ptr k0 0],B.cells [.int .i64 k]] (by simp[rbB,rb,rb1];omega)
 have g1:(H++[B.cells [.ptr k0 0],B.cells [.int .i64 k]])[H.length]?=some (B.cells [.ptr k0 0]):=by simp
 have g2:(H++[B.cells [.ptr k0 0],B.cells [.int .i64 k]])[H.length+1]?=some (B.cells [.int .i64 k]):=by simp
 have hnl:=aw m;have hlm:=s.lm
 have hcf:=contFuncN (H++[B.cells [.ptr k0 0],B.cells [.int .i64 k]]) (.fn 215 [.ptr H.length 0,.ptr (H.length+1) 0]) (fun v=>decide (m.getD v 0=k)) e fe hl s2.rb (by simp[rb,rb1]) (fun v hv=>by
  have hvn:=he v hv;obtain⟨HH,hHH⟩:∃HH,HH=H++[B.cells [.ptr k0 0],B.cells [.int .i64 k]]:=⟨_,rfl⟩;rw[←hHH]at s2 g1 g2 ⊢;have h0:=s2.h0;have hm:=s2.hm
  have hat:=fun h=>bQ (m:=m) (x:=v) h
  obtain⟨c,hcv⟩:∃c,c=m.getD v 0:=⟨_,rfl⟩;rw[←hcv]at hat ⊢;simp only[aT,List.cons_append,List.nil_append];by_cases hq:c=k
  ·rw[decide_eq_true hq];subst hq;refine aD tok Tryz.func215 rfl rfl ?_;refine wx ?_;simp -implicitDefEqProofs -dsimp[Tryz.f215,List.replicate,h0,hm,g1,g2,hat,hnl,hlm,hvn];exact .inr (aI (by kernel_rfl))
  ·rw[decide_eq_false hq];refine aD tok Tryz.func215 rfl rfl ?_;refine wx ?_;simp -implicitDefEqProofs -dsimp[Tryz.f215,List.replicate,h0,hm,g1,g2,hat,hnl,hlm,hvn,show ¬((c:Int)=k) by omega]
   exact .inr (aI (by kernel_rfl)))
 refine aD tok Tryz.func189 rfl rfl ?_;refine wx ?_;simp -implicitDefEqProofs -dsimp[Tryz.f189,List.replicate];refine aT.mono (K:=fun r H'=>r = .bool (e.any fun v=>decide (m.getD v 0=k))∧H'=H++[B.cells [.ptr k0 0],B.cells [.int .i64 k]]) hcf ?_;rintro r H' ⟨rfl,rfl⟩;simp -implicitDefEqProofs -dsimp[];rfl
theorem dead_h(s:SAt H k0 km f g ws es n m lf)(he:jP n es)(hes:es.length≤1000000)(hl:∀e∈es,e.length≤1000000):
  bA Tryz.prog 146 [.ptr k0 0] H fun r H'=>r = .bool (gM m es)∧H'=H:=by
 refine fo ?_ (by simp[rb,rb1]) s.rb;have hl0:k0<H.length:=aE s.h0;have s2:=s.app [B.cells [.ptr k0 0]] (by simp[rbB,rb,rb1];omega)
 have g1:(H++[B.cells [.ptr k0 0]])[H.length]?=some (B.cells [.ptr k0 0]):=by simp
 have hcf:=contFuncL (H++[B.cells [.ptr k0 0]]) (.fn 188 [.ptr H.length 0]) (fun e=>!gE m 1 e&&!gE m 0 e) es g hes s2.rb (by simp[rb,rb1]) (fun e hm=>by
  obtain⟨HH,hHH⟩:∃HH,HH=H++[B.cells [.ptr k0 0]]:=⟨_,rfl⟩;rw[←hHH]at s2 g1 ⊢;have c1:=has_h s2 e false 1 (hl e hm) (he e hm).2.2;have c0:=has_h s2 e false 0 (hl e hm) (he e hm).2.2;simp only[aT,List.cons_append,List.nil_append]
  cases h1:gE m 1 e with
  | true =>
   rw[h1]at c1;refine aD tok Tryz.func188 rfl rfl ?_;refine wx ?_;simp -implicitDefEqProofs -dsimp[Tryz.f188,List.replicate,g1];refine bK c1 ?_;rintro r H' ⟨rfl,rfl⟩;simp -implicitDefEqProofs -dsimp[]
  | false =>
   rw[h1]at c1;refine aD tok Tryz.func188 rfl rfl ?_;refine wx ?_;simp -implicitDefEqProofs -dsimp[Tryz.f188,List.replicate,g1];refine bK c1 ?_;rintro r H' ⟨rfl,rfl⟩;simp -implicitDefEqProofs -dsimp[g1];refine bK c0 ?_;rintro r H' ⟨rfl,rfl⟩;simp -implicitDefEqProofs -dsimp[]
 )
 have h0:=s2.h0;refine aD tok Tryz.func146 rfl rfl ?_;refine wx ?_;simp -implicitDefEqProofs -dsimp[Tryz.f146,List.replicate,h0];refine aT.mono (K:=fun r H'=>r = .bool (es.any fun e=>!gE m 1 e&&!gE m 0 e)∧H'=H++[B.cells [.ptr k0 0]]) hcf ?_;rintro r H' ⟨rfl,rfl⟩;simp -implicitDefEqProofs -dsimp[];rfl
def aQ(x:Shr):V:=.agg [.int .i64 x.e,.int .i64 x.a]
@[simp] theorem encSh_pure (x:Shr):AM.Pure (aQ x):=by simp[aQ]
@[simp] theorem encSh_oneV (x:Shr):dm (aQ x)=true:=rfl
def LSh(f:Bool)(l:List Shr):V:=.lst 2 f (l.map aQ)
@[simp] theorem LSh_pure (f:Bool) (l:List Shr):AM.Pure (LSh f l):=by simp[LSh]
def aa(x:Nde):V:=.agg [.int .i64 x.v,LSh false x.l]
@[simp] theorem encNd_pure (x:Nde):AM.Pure (aa x):=by simp[aa]
@[simp] theorem encNd_oneV (x:Nde):dm (aa x)=true:=rfl
def LNd(f:Bool)(l:List Nde):V:=.lst 2 f (l.map aa)
@[simp] theorem LNd_pure (f:Bool) (l:List Nde):AM.Pure (LNd f l):=by simp[LNd]
structure HsB (ws:List Int) (es:List (List Nat)):Prop where
 w:∀v<ws.length,1≤ws.getD v 0∧ws.getD v 0≤1000000
 n:ws.length≤200
 ne:es.length≤2000
 ed:jP ws.length es
theorem jP.len{n:Nat}{es:List (List Nat)}(h:jP n es):∀e∈es,e.length≤n:=fun e he=>by
 obtain⟨_,h2,h3⟩:=h e he;have hnd:e.Nodup:=h2.imp (fun h=>by omega);have:=hnd.length_le_of_subset (l₂:=List.range n) (fun v hv=>List.mem_range.2 (h3 v hv));simpa using this
def ldOk(n:Nat)(A:Int)(ld:List Int):Prop:=ld.length=n∧∀v<n,0≤ld.getD v 0∧ld.getD v 0≤A
theorem ldOk.set{n:Nat}{A A':Int}{ld:List Int}(h:ldOk n A ld)(hA:A≤A'){v:Nat}(hv:v<n){a:Int}(h0:0≤ld.getD v 0+a)(h1:ld.getD v 0+a≤A'):ldOk n A' (ld.set v (ld.getD v 0+a)):=by
 refine⟨by simp[h.1],fun u hu=>?_⟩;by_cases e:v=u
 ·subst e;rw[ac _ (by rw[h.1];exact hv)];exact⟨h0,h1⟩
 ·rw[af _ e];have:=h.2 u hu;exact⟨this.1,by omega⟩
end
end
end
end Go.Proofs.YteijbpppalhihaaGreat
