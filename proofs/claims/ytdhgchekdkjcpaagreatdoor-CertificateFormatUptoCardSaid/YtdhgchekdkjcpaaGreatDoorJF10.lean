/- JF10: own texts of this seat, joined and shortened by pack4.py: Cf, Pw, Fa, Pf, Fb, Fc, Sz, Ln, Kt, Ku, Kv, Ka, Ga, Gb, Kp, C3, Ky, C4b. -/
import Derived.Test.YtdhgchekdkjcpaaGreatDoorJF8
import Derived.Test.YtdhgchekdkjcpaaGreatDoorJF9
set_option linter.unusedVariables false
set_option linter.unusedSimpArgs false
set_option maxRecDepth 100000
set_option maxHeartbeats 64000000
open Array renaming getElem?_append→iL
open Bool renaming and_eq_true→gp
open List renaming mem_of_getElem?→gf,getElem?_eq_getElem→gg,length_append→gh,take_of_length_le→gj,replicate→gk,getElem_mem→go,length_cons→gw,getElem?_map→gz,append_nil→hG,map_cons→hU,length_take→iC,length_map→iE,all_eq_true→iH,append_assoc→iM,mem_of_mem_take→iN,length_nil→iO,map_nil→iU,map_congr_left→iY,take_append_drop→iZ,mem_cons_of_mem→il,mem_cons_self→ir,map_append→iu,take_length→jD,mem_cons→jE,map_map→jM
open Nat renaming mul_le_mul_right→gm,le_refl→gn,add_mul→gu,le_trans→iT,strongRecOn→iy
open Option renaming map_some→hM,map_eq_some_iff→iA,getD_some→io
namespace Go.Proofs.YtdhgchekdkjcpaaGreatDoor
section
open Go Go.AM Go.Lib
structure Cel where
 id:Int
 a:Int
structure Csh where
 e:Int
 a:Int
structure Cnd where
 v:Int
 l:List Csh
structure Cpr where
 s:Nat
 a:Int
 b:Int
structure Cst where
 r:Int
 f:List Int
 d:Fd
structure Cert where
 k:Int
 del:List Int
 w:Int
 prf:List Cnd
 cells:List Cel
 t:Tb
 cores:List (List Cel)
 upr:List Cnd
 sets:List Nat
 prs:List Cpr
 steps:List Cst
 g:Fd
def cC(x:Cel):V:=.agg [.int .i64 x.id,.int .i64 x.a]
def cQ(x:Csh):V:=.agg [.int .i64 x.e,.int .i64 x.a]
def cd(l:List Csh):V:=.lst 2 false (l.map cQ)
def am(x:Cnd):V:=.agg [.int .i64 x.v,cd x.l]
def aE(l:List Cel):V:=.lst 2 false (l.map cC)
def dJ(x:Cpr):V:=.agg [.int .u32 (x.s:Int),.int .i64 x.a,.int .i64 x.b]
def bi(x:Cst):V:=.agg [.int .i64 x.r,.lst 1 false (x.f.map aN),.int .u32 (x.d.l:Int),.int .u32 (x.d.r:Int)]
def encS(n:Nat):V:=.int .u32 (n:Int)
def aC(l:List Cnd):V:=.lst 2 false (l.map am)
def aB(c:Cert):List V:=[.int .i64 c.k,.lst 1 false (c.del.map aN),.int .i64 c.w,aC c.prf,aE c.cells,.str c.t.name,.lst 1 false (c.t.attrs.map V.str),.lst 2 false (c.t.rows.map gX),.lst 1 false (c.cores.map aE),aC c.upr,.lst 1 false (c.sets.map encS),.lst 3 false (c.prs.map dJ),.lst 4 false (c.steps.map bi),.int .u32 (c.g.l:Int),.int .u32 (c.g.r:Int)]
def aF(c:Cert):V:=.agg (aB c)
@[simp] theorem encCel_pure (x:Cel):AM.Pure (cC x):=by simp[cC]
@[simp] theorem encCel_oneV (x:Cel):eH (cC x)=true:=rfl
@[simp] theorem encCsh_pure (x:Csh):AM.Pure (cQ x):=by simp[cQ]
@[simp] theorem encCsh_oneV (x:Csh):eH (cQ x)=true:=rfl
@[simp] theorem LCsh_pure (l:List Csh):AM.Pure (cd l):=by simp[cd]
@[simp] theorem encCnd_pure (x:Cnd):AM.Pure (am x):=by simp[am]
@[simp] theorem encCnd_oneV (x:Cnd):eH (am x)=true:=rfl
@[simp] theorem LCel_pure (l:List Cel):AM.Pure (aE l):=by simp[aE]
@[simp] theorem LCel_oneV (l:List Cel):eH (aE l)=true:=rfl
@[simp] theorem encCpr_pure (x:Cpr):AM.Pure (dJ x):=by simp[dJ]
@[simp] theorem encCpr_oneV (x:Cpr):eH (dJ x)=true:=rfl
@[simp] theorem encCst_pure (x:Cst):AM.Pure (bi x):=by simp[bi]
@[simp] theorem encCst_oneV (x:Cst):eH (bi x)=true:=rfl
@[simp] theorem encS_pure (x:Nat):AM.Pure (encS x):=by simp[encS]
@[simp] theorem encS_oneV (x:Nat):eH (encS x)=true:=rfl
@[simp] theorem LCnd_pure (l:List Cnd):AM.Pure (aC l):=by simp[aC]
@[simp] theorem encCert_pure (c:Cert):AM.Pure (aF c):=by simp[aF,aB]
def bs(l:List UInt8):ByteArray:=⟨l.toArray⟩
theorem bv(l:List UInt8):(bs l).data.toList=l:=by simp[bs]
theorem dL(b:ByteArray):bs b.data.toList=b:=by simp[bs]
theorem ao(l m:List UInt8):bs l++bs m=bs (l++m):=by
 have:(bs l++bs m).data.toList=(bs (l++m)).data.toList:=by rw[ByteArray.data_append];simp[bs]
 rw[←dL (bs l++bs m),this,bv]
theorem aI(l:List UInt8):(bs l).size=l.length:=by simp[bs,ByteArray.size]
def fD(ns:List Int):List UInt8:=ns.flatMap fun n=>32::itoa n
def aA(w:List UInt8)(ns:List Int):List UInt8:=w++fD ns
theorem numT_snoc(ns:List Int)(n:Int):fD (ns++[n])=fD ns++32::itoa n:=by simp[fD]
def wDel:List UInt8:=[100,101,108,101,116,101,115]
def bp:List UInt8:=[114,111,119]
def eX:List UInt8:=[110,111,100,101]
def dS:List UInt8:=[108,101,97,102]
def wChg:List UInt8:=[99,104,97,110,103,101,115]
def aw:List UInt8:=[99,101,108,108]
def au:List UInt8:=[99,111,114,101]
def eI:List UInt8:=[107,101,121,115]
def bo:List UInt8:=[115,101,116]
def av:List UInt8:=[112,97,105,114]
def cr:List UInt8:=[112,114,111,111,102]
def ap:List UInt8:=[115,116,101,112]
def bO:List UInt8:=[101,110,100]
def aO(l:List Cel):List Int:=l.flatMap fun x=>[x.id,x.a]
def shN(l:List Csh):List Int:=l.flatMap fun x=>[x.e,x.a]
def ar(x:Cnd):Bool:=decide (x.v = -1)||(decide (0≤x.v)&&x.l.isEmpty)
def ndL(x:Cnd):List UInt8:=if x.v = -1 then aA dS (shN x.l) else aA eX [x.v]
def bn:List Cnd→List Cnd
 | []=>[]
 | x::l=>if ar x=true then x::bn l else []
def stN(s:Cst):List Int:=[s.r,(s.d.l:Int),(s.d.r:Int)]++s.f
def al(c:Cert):List (List UInt8):=
 if c.k=1 then aA wDel [c.w]::c.del.map fun i=>aA bp [i]
 else if c.k=2 then aA wChg []::((c.cells.map fun x=>aA aw (aO [x]))++c.cores.map fun l=>aA au (aO l))
 else if c.k=3 then aA eI []::((c.sets.map fun(s:Nat)=>aA bo [(s:Int)])++c.prs.map fun p=>aA av [(p.s:Int),p.a,p.b])
 else if c.k=4 then aA cr [(c.g.l:Int),(c.g.r:Int)]::c.steps.map fun s=>aA ap (stN s)
 else []
def aq(c:Cert):List Cnd:=if c.k=1 then c.prf else if c.k=2 then c.upr else []
def okC(c:Cert):Bool:=decide (1≤c.k∧c.k≤4)&&(aq c).all ar
def bM(c:Cert):List (List UInt8):=al c++(aq c).map ndL++[bO]
def lnT(ls:List (List UInt8)):List UInt8:=ls.flatMap fun l=>l++[10]
theorem gL:∀(ls:List (List UInt8)),ls≠[]→[10].intercalate ls++[10]=lnT ls
 | [],h=>absurd rfl h
 | [x],_=>by simp[lnT,List.intercalate,List.intersperse]
 | x::y::r,_=>by
  have ih:=gL (y::r) (by simp)
  have e:([10]:List UInt8).intercalate (x::y::r)=x++10::[10].intercalate (y::r):=by simp[List.intercalate,List.intersperse]
  rw[e,iM,List.cons_append,ih];simp[lnT]
def dC(c:Cert):Int:=if okC c=true then(if(lnT (bM c)).length≤65536 then 0 else 3) else 1
def cF(c:Cert):List UInt8:=if dC c=0 then lnT (bM c) else []
def isS(n:Int):Prop:=0≤n∧n<4294967296
instance (n:Int):Decidable (isS n):=by unfold isS;infer_instance
def okR(c:Cert):Prop :=
 (∀i∈c.del,inI i)∧inI c.w∧(∀x∈c.prf,inI x.v∧∀s∈x.l,inI s.e∧inI s.a)∧(∀x∈c.cells,inI x.id∧inI x.a)∧(∀l∈c.cores,∀x∈l,inI x.id∧inI x.a)∧(∀x∈c.upr,inI x.v∧∀s∈x.l,inI s.e∧inI s.a)∧(∀s∈c.sets,s<4294967296)∧(∀p∈c.prs,p.s<4294967296∧inI p.a∧inI p.b)∧(∀s∈c.steps,inI s.r∧(∀i∈s.f,inI i)∧s.d.l<4294967296∧s.d.r<4294967296)∧c.g.l<4294967296∧c.g.r<4294967296
theorem sz_mk(a:Array UInt8):(ByteArray.mk a).size=a.size:=rfl
theorem aP(a:Array UInt8):ByteArray.mk a=bs a.toList:=rfl
theorem ck{u:Nat}(h:u≤9223372036854775808):(decDigits u).length≤19:=dec_len19 h
theorem dig_lit:∀u:Fin 10,(⟨#[48,49,50,51,52,53,54,55,56,57]⟩:ByteArray).extract u.val (u.val+1)=bs [UInt8.ofNat (48+u.val)]:=by decide
theorem dig_n(u:Nat)(h:u<9223372036854775808):aS Tryz.prog 82 [.int .i64 (u:Int)] fun r=>r = .str (bs (decDigits u)):=by
 induction u using iy with
 | _ u ih =>
  have hn:¬(u:Int)<0:=by omega
  have hm:¬(u:Int)= -9223372036854775808:=by omega
  by_cases h1:u<10
  ·have h10:(u:Int)<10:=by omega
   have hs:=dig_lit ⟨u,h1⟩;simp only at hs;refine sPx Tryz.func82 rfl rfl ?_;simp -dsimp[Tryz.f82,gk,hn,hm,h10,aX u (by omega),hs,h1,(show(0:Int)≤(u:Int)+1 by omega),(show u+1≤10 by omega),sz_mk];rw[fJ h1];simp
  ·have h10:¬(u:Int)<10:=by omega
   obtain⟨q,hqe⟩:∃q,q=u / 10:=⟨_,rfl⟩;obtain⟨m,hme⟩:∃m,m=u % 10:=⟨_,rfl⟩
   have hq:IntKind.i64.wrap ((u:Int) / 10)=(q:Int):=by rw[bH (by omega) (by omega)];omega
   have hr:(u:Int).tmod 10=(m:Int):=by rw[Int.tmod_eq_emod_of_nonneg (by omega)];omega
   have l1:=ck (u:=q) (by omega);have l2:=ck (u:=m) (by omega);refine sPx Tryz.func82 rfl rfl ?_;simp -dsimp[Tryz.f82,gk,hn,hm,h10,hq,hr];refine cPx (ih q (by omega) (by omega)) (by simp) ?_;simp -dsimp[hr];refine cPx (ih m (by omega) (by omega)) (by simp) ?_;simp -dsimp[aI,ao,(show(decDigits q).length+(decDigits m).length≤9223372036854775807 by omega)];rw[dec_big h1,←hqe,←hme,fJ (show m<10 by omega)]
theorem dig_ok(n:Int)(h:inI n):aS Tryz.prog 82 [.int .i64 n] fun r=>r = .str (bs (itoa n)):=by
 obtain⟨h0,h1⟩:=h;by_cases hn:n<0
 case neg =>
  obtain⟨u,rfl⟩:=Int.eq_ofNat_of_zero_le (show 0≤n by omega)
  have e:itoa (u:Int)=decDigits u:=by unfold itoa;rw[if_neg hn,Int.toNat_natCast]
  rw[e];exact dig_n u (by omega)
 by_cases hm:n = -9223372036854775808
 ·subst hm
  have e:(⟨#[45,57,50,50,51,51,55,50,48,51,54,56,53,52,55,55,53,56,48,56]⟩:ByteArray)=bs (itoa (-9223372036854775808)):=by
   have:itoa (-9223372036854775808)=[45,57,50,50,51,51,55,50,48,51,54,56,53,52,55,55,53,56,48,56]:=by
    show 45::decDigits 9223372036854775808=_;congr 1
    repeat rw[dec_big (by decide)]
    rw[fJ (by decide)];rfl
   rw[this];rfl
  refine sPx Tryz.func82 rfl rfl ?_;simp -dsimp[Tryz.f82,gk,e]
 ·obtain⟨u,hu⟩:∃u:Nat,(u:Int)= -n:=⟨n.natAbs,by omega⟩
  have e:itoa n=45::decDigits u:=by unfold itoa;rw[if_pos hn];congr 2;omega
  have hw:IntKind.i64.wrap (-n)=(u:Int):=by rw[bH (by omega) (by omega),hu]
  have l1:=ck (u:=u) (by omega);refine sPx Tryz.func82 rfl rfl ?_;simp -dsimp[Tryz.f82,gk,hn,hm,hw];refine cPx (dig_n u (by omega)) (by simp) ?_;simp -dsimp[aP,aI,ao,e,(show(decDigits u).length+1≤9223372036854775807 by omega),(show 1+(decDigits u).length≤9223372036854775807 by omega)]
theorem dd{n:Int}(h:inI n):(itoa n).length≤20:=by
 obtain⟨h0,h1⟩:=h;unfold itoa;split
 ·have:=ck (u:=n.natAbs) (by omega);simp;omega
 ·have:=ck (u:=n.toNat) (by omega);omega
theorem bD:∀(ns:List Int),(∀n∈ns,inI n)→(fD ns).length≤21*ns.length
 | [],_=>by simp[fD]
 | n::ns,h=>by
  have h1:=dd (h n ir);have h2:=bD ns (fun x hx=>h x (il _ hx));have:fD (n::ns)=(32::itoa n)++fD ns:=rfl;rw[this];simp;omega
theorem gM(w:List UInt8)(ns:List Int)(n:Int):aA w (ns++[n])=aA w ns++32::itoa n:=by
 unfold aA;rw[numT_snoc,iM]
theorem ag{α:Type}(l:List α){i:Nat}(h:i<l.length):l.take (i+1)=l.take i++[l[i]]:=by
 rw[List.take_add_one,gg h];rfl
theorem cP(w:List UInt8)(f:Bool)(ns:List Int)(hw:w.length≤100)(hl:ns.length≤1000000)(hn:∀n∈ns,inI n):aS Tryz.prog 60 [.str (bs w),.lst 1 f (ns.map aN)] fun r=>r = .str (bs (aA w ns++[10])):=by
 have hT:=bD ns hn;refine sPx Tryz.func60 rfl rfl ?_;simp -dsimp[Tryz.f60,gk];refine ak (W_loopM 20 0xfffe1 (by simp[mB]<;>rfl) (σ:=Nat) (fun i=>i≤ns.length) (fun i=>ns.length-i) (fun i=>[(0,.str (bs (aA w (ns.take i)))),(5,.int .i64 i)]) (fun _=>[]) 0 (by simp) (by simp[aA,fD]) rfl (by simp) ?_);rintro i hi N Q hN hQ;have hT:=bD (ns.take i) (fun n h=>hn n (iN h))
 have hlt:(ns.take i).length≤1000000:=by rw[iC];omega
 have hw2:(aA w (ns.take i)).length≤22000000:=by unfold aA;rw[gh];omega
 by_cases hb:i<ns.length
 ·have hin:=hn _ (go hb);have hil:=dd hin;obtain⟨x,hx⟩:∃x,x=ns[i]:=⟨_,rfl⟩;have hx':=hx.symm;rw[hx']at hin hil;refine wx ?_;simp -dsimp[hb,hx',aN,aP,aI,ao,(show(aA w (ns.take i)).length+1≤9223372036854775807 by omega)];refine cPx (dig_ok x hin) (by simp) ?_;simp -dsimp[aP,aI,ao,aX i (by omega),(show(aA w (ns.take i)).length+1+(itoa x).length≤9223372036854775807 by omega)];refine hN (i+1) _ _ (by omega) (by omega) ?_ ⟨[],rfl⟩ (by simp) (by simp);rw[ag ns hb,←hx,gM];simp;rfl
 ·have e:ns.take i=ns:=gj (by omega);rw[e]at hw2;refine wx ?_;simp -dsimp[hb];refine hQ _ _ _ ?_;simp -dsimp[e,aP,aI,ao,(show(aA w ns).length+1≤9223372036854775807 by omega)]
theorem fy{l:List Cel}(h:∀x∈l,inI x.id∧inI x.a):∀n∈aO l,inI n:=by
 intro n hn;obtain⟨x,hx,hn⟩:=List.mem_flatMap.1 hn;simp at hn
 rcases hn with rfl | rfl
 ·exact(h x hx).1
 ·exact(h x hx).2
theorem shN_in{l:List Csh}(h:∀x∈l,inI x.e∧inI x.a):∀n∈shN l,inI n:=by
 intro n hn;obtain⟨x,hx,hn⟩:=List.mem_flatMap.1 hn;simp at hn
 rcases hn with rfl | rfl
 ·exact(h x hx).1
 ·exact(h x hx).2
def body(c:Cert):List (List UInt8):=al c++(aq c).map ndL
theorem okC_ex{c:Cert}(h:okC c=true):(1≤c.k∧c.k≤4)∧∀x∈aq c,ar x=true:=by
 unfold okC at h;rw[gp,decide_eq_true_iff,iH]at h;exact h
theorem cz(a b:List (List UInt8)):lnT (a++b)=lnT a++lnT b:=by simp[lnT]
theorem cO(ls:List (List UInt8))(i:Nat):(lnT (ls.take i)).length≤(lnT ls).length:=by
 have:lnT ls=lnT (ls.take i)++lnT (ls.drop i):=by rw[←cz,iZ]
 rw[this,gh];omega
theorem lnT_snoc(ls:List (List UInt8))(x:List UInt8):lnT (ls++[x])=lnT ls++(x++[10]):=by simp[lnT]
theorem af{α β:Type}(l:List α)(g:α→β){i:Nat}(h:i<l.length):(l.map g).take (i+1)=(l.map g).take i++[g l[i]]:=by rw[←List.map_take,ag l h,iu,List.map_take];rfl
theorem bt{α:Type}(l:List α)(g:α→List UInt8){i:Nat}(h:i<l.length):lnT ((l.map g).take (i+1))=lnT ((l.map g).take i)++(g l[i]++[10]):=by rw[af l g h,lnT_snoc]
theorem dX:∀(l:List Csh) (j:Nat),j≤l.length→(shN (l.take j)).length=2*j
 | l,0,_=>rfl
 | [],j+1,h=>by simp at h
 | x::l,j+1,h=>by
  have:=dX l j (by simpa using h);show([x.e,x.a]++shN (l.take j)).length=_;simp;omega
theorem shN_snoc(l:List Csh){j:Nat}(h:j<l.length):shN (l.take (j+1))=shN (l.take j)++[l[j].e,l[j].a]:=by
 rw[ag l h,shN,List.flatMap_append];rfl
def ndsV(l:List Cnd):V:=if l.all ar=true then .tup [.str (bs (lnT (l.map ndL))),.bool true] else .tup [.str (bs []),.bool false]
theorem ndsV_no{l:List Cnd}{x:Cnd}(hx:x∈l)(h:¬ar x=true):ndsV l = .tup [.str (bs []),.bool false]:=by
 unfold ndsV;rw[if_neg (fun h2=>h (List.all_eq_true.1 h2 x hx))]
theorem ndsV_yes{l:List Cnd}(h:∀x∈l,ar x=true):ndsV l = .tup [.str (bs (lnT (l.map ndL))),.bool true]:=by
 unfold ndsV;rw[if_pos (List.all_eq_true.2 h)]
def cndR(x:Cnd):Prop:=inI x.v∧(∀s∈x.l,inI s.e∧inI s.a)∧x.l.length≤100000
theorem nodes_r(f:Bool)(l:List Cnd)(hl:l.length≤1000000)(hr:∀x∈l,cndR x)(hz:(lnT (l.map ndL)).length≤1000000000):aS Tryz.prog 61 [.lst 2 f (l.map am)] fun r=>r=ndsV l:=by
 obtain⟨E,hE⟩:∃E,E=ndsV l:=⟨_,rfl⟩;rw[←hE];refine sPx Tryz.func61 rfl rfl ?_;simp -dsimp[Tryz.f61,gk];refine ak (W_loopM 79 0x7ffffffffffffffffffc (by simp[mB]<;>rfl) (σ:=Nat) (fun i=>i≤l.length∧∀x∈l.take i,ar x=true) (fun i=>l.length-i) (fun i=>[(4,.str (bs (lnT ((l.map ndL).take i)))),(5,.int .i64 i)]) (fun _=>[]) 0 (by simp) (by simp[lnT];rfl) rfl (by simp) ?_);rintro i ⟨hi,hok⟩ N Q hN hQ;have hzi:=cO (l.map ndL) i
 have hzi:(lnT ((l.map ndL).take i)).length≤1000000000:=by omega
 by_cases hb:i<l.length
 case neg =>
  have e:l.take i=l:=gj (by omega);have e2:(l.map ndL).take i=l.map ndL:=gj (by simp;omega);rw[e]at hok;have:=ndsV_yes hok;rw[←hE]at this;subst this;refine wx ?_;simp -dsimp[hb];refine hQ _ _ _ ?_;simp -dsimp[e2]
 have hm:=go hb;have hx:=hr _ hm;have hnx:=bt l ndL hb
 have hno:¬ar l[i]=true→E = .tup [.str (bs []),.bool false]:=fun h=>by rw[hE];exact ndsV_no hm h
 have hyes:ar l[i]=true→∀x∈l.take (i+1),ar x=true:=fun h x hx=>by
  rw[ag l hb]at hx
  rcases List.mem_append.1 hx with hx | hx
  ·exact hok x hx
  ·rw[List.mem_singleton.1 hx];exact h
 obtain⟨x,hxe⟩:∃x,x=l[i]:=⟨_,rfl⟩;have hxe':=hxe.symm;rw[hxe']at hx hno hyes hnx;obtain⟨o,hoe⟩:∃o,o=lnT ((l.map ndL).take i):=⟨_,rfl⟩;rw[←hoe]at hzi hnx ⊢;obtain⟨v,sh⟩:=x;obtain⟨hv,hs,hsl⟩:=hx;simp only at hv hs hsl;by_cases h0:0≤v
 ·by_cases hse:sh=[]
  ·subst hse
   have ho:ar ⟨v,[]⟩=true:=by simp[ar,h0]
   have hnd:ndL ⟨v,[]⟩=aA eX [v]:=by unfold ndL;rw[if_neg (by show ¬v = -1;omega)]
   have hc:=cP eX true [v] (by decide) (by simp) (by simpa using hv);simp only[hU,iU,aN]at hc
   have hll:(aA eX [v]++[10]).length≤1000:=by
    have:=dd hv;simp[aA,fD,eX];omega
   obtain⟨g,hg⟩:∃g,g=aA eX [v]++[10]:=⟨_,rfl⟩;rw[←hg]at hc hll;rw[hnd,←hg]at hnx;refine wx ?_;simp -dsimp[hb,hxe',am,cd,h0];refine cPx (hc) (by simp) ?_;simp -dsimp[aP,aI,ao,aX i (by omega),(show o.length+g.length≤9223372036854775807 by omega)];refine hN (i+1) _ _ ⟨by omega,hyes ho⟩ (by omega) ?_ ⟨[],rfl⟩ (by simp) (by simp);simp only[hnx];simp
  ·have ho:¬ar ⟨v,sh⟩=true:=by
    simp[ar];exact⟨by omega,fun _=>hse⟩
   have:=hno ho;subst this
   have hs0:¬(sh.length:Int)=0:=by
    have:=List.length_pos_iff.2 hse;omega
   refine wx ?_;simp -dsimp[hb,hxe',am,cd,h0,hs0,hse,(show ¬v = -1 by omega)];refine hQ _ _ _ ?_;simp -dsimp[aP]
 ·by_cases h1:v = -1
  case neg =>
   have ho:¬ar ⟨v,sh⟩=true:=by
    simp[ar];exact⟨h1,fun h=>by omega⟩
   have:=hno ho;subst this;refine wx ?_;simp -dsimp[hb,hxe',am,cd,h0,h1];refine hQ _ _ _ ?_;simp -dsimp[aP]
  subst h1
  have ho:ar ⟨-1,sh⟩=true:=by simp[ar]
  have hnd:ndL ⟨-1,sh⟩=aA dS (shN sh):=rfl
  have hlN:(shN sh).length=2*sh.length:=by
   have:=dX sh sh.length (gn _)
   rwa [jD]at this
  have hin:=shN_in hs;have hc:=cP dS false (shN sh) (by decide) (by omega) hin
  have hll:(aA dS (shN sh)++[10]).length≤100000000:=by
   have:=bD _ hin;simp[aA,dS];omega
  obtain⟨g,hg⟩:∃g,g=aA dS (shN sh)++[10]:=⟨_,rfl⟩;rw[←hg]at hc hll;rw[hnd,←hg]at hnx;refine wx ?_;simp -dsimp[hb,hxe',am,cd];refine ak (W_own 2 1 [6] (by simp) (W_loopM 75 0x7fffffff000000000c0 (by simp[mB]<;>rfl) (σ:=Nat) (fun j=>j≤sh.length) (fun j=>sh.length-j) (fun j=>[(7,.int .i64 j),(6,.buf 0 0 (2*j) (2*j))]) (fun j=>[B.buf 2 1 ((shN (sh.take j)).map aN) false]) 0 (by omega) (by simp) (by simp[shN]) (by simp) ?_));intro j hj N2 Q2 hN2 hQ2;have hlj:=dX sh j hj;by_cases hjb:j<sh.length
  ·have hsn:=shN_snoc sh hjb;obtain⟨y,hy⟩:∃y,y=sh[j]:=⟨_,rfl⟩;have hy':=hy.symm;rw[hy']at hsn;refine wx ?_;simp -dsimp[hb,hxe',am,cd,hjb];refine ak (W_drawT tok mixed [20] [] [] (by kernel_rfl) fun C K hC hK=>?_);simp -implicitDefEqProofs [hb,hxe',am,cd,hjb,hy',cQ,hlj,aX j (by omega),(show 2*j≤9223372036854775805∧(2*j+2)*8≤140737488355328 by omega)];refine hK _ _ ?_;simp -dsimp[aX j (by omega)];refine hN2 (j+1) _ _ (by omega) (by omega) ?_ ⟨[],?_⟩ (by simp) ?_<;>simp[hsn,Nat.mul_add,aN,or_imp,forall_and]
  ·have ej:sh.take j=sh:=gj (by omega)
   have hje:j=sh.length:=by omega
   rw[ej];have hc2:=callF (H:=[B.buf 2 1 ((shN sh).map aN) false]) (args:=[.str (bs dS),.buf 0 0 (2*j) (2*j)]) 0 (rfl) hc (by simp[hlN,hje]) (by simp);refine wx ?_;simp -dsimp[hb,hxe',am,cd,hjb];refine hQ2 _ _ _ ?_;simp -dsimp[];refine hc2.mono ?_;rintro r H' ⟨rfl,rfl⟩;simp -dsimp[aP,aI,ao,aX i (by omega),(show o.length+g.length≤9223372036854775807 by omega)];refine hN (i+1) _ _ ⟨by omega,hyes ho⟩ (by omega) ?_ ⟨_,rfl⟩ (by simp) (by simp);simp only[hnx];simp
def pT(c:Cert):List UInt8:=if(aq c).all ar=true then lnT ((aq c).map ndL) else []
def cg(c:Cert):List UInt8:=if 1≤c.k∧c.k≤4 then lnT (al c)++pT c++(bO++[10]) else []
structure SzC (c:Cert):Prop where
 r:okR c
 hd:(lnT (al c)).length≤1000000000
 pf:(lnT ((aq c).map ndL)).length≤1000000000
 nds:∀x∈aq c,cndR x
 ln:(aq c).length≤1000000
 l1:c.del.length≤1000000
 l2:c.cells.length≤1000000
 l3:c.cores.length≤1000000
 l4:∀l∈c.cores,l.length≤100000
 l5:c.sets.length≤1000000
 l6:c.prs.length≤1000000
 l7:c.steps.length≤1000000
 l8:∀s∈c.steps,s.f.length≤100000
theorem bP(x:List UInt8)(ls:List (List UInt8)):lnT (x::ls)=(x++[10])++lnT ls:=by simp[lnT]
theorem pT_len{c:Cert}(h:SzC c):(pT c).length≤1000000000:=by
 unfold pT;split
 ·exact h.pf
 ·simp
theorem ndsV_pT(c:Cert):ndsV (aq c)= .tup [.str (bs (pT c)),.bool ((aq c).all ar)]:=by
 unfold ndsV pT;split
 ·rename_i h;rw[h]
 ·rename_i h;rw[Bool.not_eq_true]at h;rw[h]
theorem text_1(c:Cert)(hk:c.k=1)(h:SzC c):aS Tryz.prog 36 [aF c] fun r=>r = .tup [.str (bs (cg c)),.bool (okC c)]:=by
 have hp:=ndsV_pT c;have hpl:=pT_len h;have hn:=nodes_r false (aq c) h.ln h.nds h.pf;rw[hp]at hn;have hd:=h.hd
 have hok:okC c=(aq c).all ar:=by simp[okC,hk]
 have htx:cg c=lnT (al c)++pT c++(bO++[10]):=by unfold cg;rw[if_pos (by omega)]
 rw[hok,htx];obtain⟨P,hP⟩:∃P,P=pT c:=⟨_,rfl⟩;obtain⟨Q0,hQ0⟩:∃Q0,Q0=(aq c).all ar:=⟨_,rfl⟩;rw[←hP]at hpl;rw[←hP,←hQ0]at hn ⊢
 have hhd:al c=aA wDel [c.w]::c.del.map fun i=>aA bp [i]:=by unfold al;rw[if_pos hk]
 rw[hhd,bP]at hd ⊢
 have hpc:aq c=c.prf:=by unfold aq;rw[if_pos hk]
 rw[hpc]at hn;obtain⟨r1,r2,_⟩:=h.r;have hl1:=h.l1;obtain⟨k,del,w,prf,cells,t,cores,upr,sets,prs,steps,g⟩:=c;simp only at hk r1 r2 hl1 hd hn ⊢;subst hk;clear hpc hhd hP hQ0 htx hok hp h;have c1:=cP wDel true [w] (by decide) (by simp) (by simpa using r2);simp only[hU,iU,aN]at c1;obtain⟨A,hA⟩:∃A,A=aA wDel [w]++[10]:=⟨_,rfl⟩;rw[←hA]at c1 hd ⊢;rw[gh]at hd
 try unfold aC at hn
 refine sPx Tryz.func36 rfl rfl ?_;simp -dsimp[Tryz.f36,gk,aF,aB,aC];refine cPx (c1) (by simp) ?_;simp -dsimp[];refine ak (W_loopM 44 0xffffc000090 (by simp[mB]<;>rfl) (σ:=Nat) (fun i=>i≤del.length) (fun i=>del.length-i) (fun i=>[(4,.str (bs (A++lnT ((del.map fun i=>aA bp [i]).take i)))),(7,.int .i64 i)]) (fun _=>[B.cells (aB ⟨1,del,w,prf,cells,t,cores,upr,sets,prs,steps,g⟩)]) 0 (by omega) (by simp[lnT]) (by simp[aB,aC]) (by simp) ?_);intro i hi N Q hN hQ;have hzi:=cO (del.map fun i=>aA bp [i]) i;by_cases hb:i<del.length
 ·have hnx:=bt del (fun i=>aA bp [i]) hb;have hin:=r1 _ (go hb);obtain⟨x,hx⟩:∃x,x=del[i]:=⟨_,rfl⟩;have hx':=hx.symm;rw[hx']at hnx hin;obtain⟨o,hoe⟩:∃o,o=lnT ((del.map fun i=>aA bp [i]).take i):=⟨_,rfl⟩;rw[←hoe]at hzi hnx ⊢;have c2:=cP bp true [x] (by decide) (by simp) (by simpa using hin);simp only[hU,iU,aN]at c2
  have hll:(aA bp [x]++[10]).length≤1000:=by
   have:=dd hin;simp[aA,fD,bp];omega
  obtain⟨y,hy⟩:∃y,y=aA bp [x]++[10]:=⟨_,rfl⟩;rw[←hy]at c2 hll;simp only[←hy]at hnx;refine wx ?_;simp -dsimp[aB,hb,hx',aN];refine cPx (c2) (by simp) ?_;simp -dsimp[aP,aI,ao,aX i (by omega),(show A.length+o.length+y.length≤9223372036854775807 by omega),(show A.length+(o.length+y.length)≤9223372036854775807 by omega)];refine hN (i+1) _ _ (by omega) (by omega) ?_ ⟨[],rfl⟩ (by simp[aC,aE]) (by simp[aB,aC,aE]);simp only[hnx];simp[aP]
 ·have e:(del.map fun i=>aA bp [i]).take i=del.map fun i=>aA bp [i]:=gj (by simp;omega)
  rw[e];obtain⟨o,hoe⟩:∃o,o=lnT (del.map fun i=>aA bp [i]):=⟨_,rfl⟩;rw[←hoe]at hd ⊢;refine wx ?_;simp -dsimp[aB,hb];refine hQ _ _ _ ?_;simp -dsimp[aC];refine cPx (hn) (by simp) ?_;simp -dsimp[aP,aI,ao,(show A.length+o.length+P.length≤9223372036854775807 by omega),(show A.length+(o.length+P.length)≤9223372036854775807 by omega),(show A.length+(o.length+P.length)≤9223372036854775803 by omega)];simp[hoe,bO]
def aY{α:Type}(f:α→Nat)(l:List α):Nat:=(l.map f).sum
theorem fA{α:Type}(f:α→Nat)(x:α)(l:List α):aY f (x::l)=f x+aY f l:=by simp[aY]
theorem dn{α:Type}(f:α→Nat)(x:α)(l:List α):aY f (l++[x])=aY f l+f x:=by simp[aY]
theorem dT{α:Type}(f:α→Nat):∀{l:List α} {x:α},x∈l→f x≤aY f l
 | y::l,x,h=>by
  rw[fA]
  rcases List.mem_cons.1 h with rfl | h
  ·omega
  ·have:=dT f h;omega
theorem dU{α:Type}(f:α→Nat)(h:∀x,1≤f x):∀(l:List α),l.length≤aY f l
 | []=>by simp
 | x::l=>by rw[fA,gw];have:=h x;have:=dU f h l;omega
theorem dm{α:Type}(f:α→Nat)(l:List α)(i:Nat):aY f (l.take i)≤aY f l:=by
 have e:aY f l=aY f (l.take i)+aY f (l.drop i):=by
  unfold aY;rw[←List.sum_append,←iu,iZ]
 omega
def fewN(c:Cert):Nat:=c.del.length+c.cells.length+c.sets.length+c.prs.length+aY (fun x:Cnd=>1+x.l.length) c.prf+aY (fun x:Cnd=>1+x.l.length) c.upr+aY (fun l:List Cel=>1+l.length) c.cores+aY (fun s:Cst=>1+s.f.length) c.steps
theorem cU{α:Type}(f:α→List UInt8)(K:Nat):∀(l:List α),(∀x∈l,(f x).length≤K)→(lnT (l.map f)).length≤l.length*(K+1)
 | [],_=>by simp[lnT]
 | x::l,h=>by
  have h1:=h x ir;have h2:=cU f K l (fun y hy=>h y (il _ hy));simp only[hU,bP,gh,gw,iO,gu];omega
theorem lineT_len(w:List UInt8)(ns:List Int)(h:∀n∈ns,inI n):(aA w ns).length≤w.length+21*ns.length:=by
 have:=bD ns h;unfold aA;rw[gh];omega
theorem celN_lenZ(l:List Cel):(aO l).length=2*l.length:=by
 induction l with
 | nil=>rfl
 | cons x l ih=>have:aO (x::l)=[x.id,x.a]++aO l:=rfl;rw[this,gh,ih,gw];simp;omega
theorem shN_lenZ(l:List Csh):(shN l).length=2*l.length:=by
 induction l with
 | nil=>rfl
 | cons x l ih=>have:shN (x::l)=[x.e,x.a]++shN l:=rfl;rw[this,gh,ih,gw];simp;omega
theorem celN_inZ{l:List Cel}(h:∀x∈l,inI x.id∧inI x.a):∀n∈aO l,inI n:=fun n hn=>by
 obtain⟨x,hx,hn⟩:=List.mem_flatMap.1 hn;simp at hn
 rcases hn with rfl | rfl
 ·exact(h x hx).1
 ·exact(h x hx).2
theorem shN_inZ{l:List Csh}(h:∀x∈l,inI x.e∧inI x.a):∀n∈shN l,inI n:=fun n hn=>by
 obtain⟨x,hx,hn⟩:=List.mem_flatMap.1 hn;simp at hn
 rcases hn with rfl | rfl
 ·exact(h x hx).1
 ·exact(h x hx).2
theorem dl{n:Nat}(h:n<4294967296):inI (n:Int):=by unfold inI;omega
theorem mul6{a:Nat}(k:Nat)(h:a≤600):a*k≤600*k:=gm _ h
theorem fa(w:List UInt8)(ns:List Int)(K:Nat)(h:∀n∈ns,inI n)(h2:w.length+21*ns.length≤K):(aA w ns).length≤K:=iT (lineT_len w ns h) h2
theorem few_sz{c:Cert}(h:fewN c≤600)(r:okR c):SzC c:=by
 obtain⟨r1,r2,r3,r4,r5,r6,r7,r8,r9,r10,r11⟩:=r;unfold fewN at h;have e1:=dU (fun x:Cnd=>1+x.l.length) (fun x=>by omega) c.prf;have e2:=dU (fun x:Cnd=>1+x.l.length) (fun x=>by omega) c.upr;have e3:=dU (fun l:List Cel=>1+l.length) (fun x=>by omega) c.cores;have e4:=dU (fun s:Cst=>1+s.f.length) (fun x=>by omega) c.steps
 have m1:∀x∈c.prf,x.l.length≤600:=fun x hx=>by have:=dT (fun x:Cnd=>1+x.l.length) hx;omega
 have m2:∀x∈c.upr,x.l.length≤600:=fun x hx=>by have:=dT (fun x:Cnd=>1+x.l.length) hx;omega
 have m3:∀l∈c.cores,l.length≤600:=fun x hx=>by have:=dT (fun l:List Cel=>1+l.length) hx;omega
 have m4:∀s∈c.steps,s.f.length≤600:=fun x hx=>by have:=dT (fun s:Cst=>1+s.f.length) hx;omega
 have nd:∀l:List Cnd,(∀x∈l,inI x.v∧∀s∈x.l,inI s.e∧inI s.a)→(∀x∈l,x.l.length≤600)→∀x∈l,(ndL x).length≤30000:=fun l hl hm x hx=>by
  unfold ndL;have:=hm x hx;split
  ·exact fa _ _ _ (shN_inZ (hl x hx).2) (by rw[shN_lenZ];simp[dS];omega)
  ·exact fa _ _ _ (fun n hn=>by simp at hn;subst hn;exact(hl x hx).1) (by simp[eX])
 have hprf:(∀x∈aq c,cndR x)∧(aq c).length≤600∧∀x∈aq c,(ndL x).length≤30000:=by
  unfold aq;split
  ·exact⟨fun x hx=>⟨(r3 x hx).1,(r3 x hx).2,by have:=m1 x hx;omega⟩,by omega,nd _ r3 m1⟩
  ·split
   ·exact⟨fun x hx=>⟨(r6 x hx).1,(r6 x hx).2,by have:=m2 x hx;omega⟩,by omega,nd _ r6 m2⟩
   ·simp
 refine⟨⟨r1,r2,r3,r4,r5,r6,r7,r8,r9,r10,r11⟩,?_,?_,hprf.1,by omega,by omega,by omega,by omega,fun l hl=>by have:=m3 l hl;omega,by omega,by omega,by omega,fun s hs=>by have:=m4 s hs;omega⟩
 ·unfold al;split
  ·rw[bP,gh,gh];have a1:=fa wDel [c.w] 100 (fun n hn=>by simp at hn;subst hn;exact r2) (by simp[wDel]);have a2:=cU (fun i=>aA bp [i]) 100 c.del (fun x hx=>fa _ _ _ (fun n hn=>by simp at hn;subst hn;exact r1 _ hx) (by simp[bp]));have a3:=mul6 101 (show c.del.length≤600 by omega);simp only[gw,iO];omega
  ·split
   ·rw[bP,cz,gh,gh,gh];have a1:=fa wChg [] 100 (fun n hn=>by simp at hn) (by simp[wChg]);have a2:=cU (fun x=>aA aw (aO [x])) 100 c.cells (fun x hx=>fa _ _ _ (celN_inZ (fun y hy=>by simp at hy;subst hy;exact r4 _ hx)) (by rw[celN_lenZ];simp[aw]));have a3:=mul6 101 (show c.cells.length≤600 by omega);have a4:=cU (fun l=>aA au (aO l)) 30000 c.cores (fun l hl=>fa _ _ _ (celN_inZ (r5 l hl)) (by rw[celN_lenZ];have:=m3 l hl;simp[au];omega));have a5:=mul6 30001 (show c.cores.length≤600 by omega);simp only[gw,iO];omega
   ·split
    ·rw[bP,cz,gh,gh,gh];have a1:=fa eI [] 100 (fun n hn=>by simp at hn) (by simp[eI]);have a2:=cU (fun s:Nat=>aA bo [(s:Int)]) 100 c.sets (fun x hx=>fa _ _ _ (fun n hn=>by simp at hn;subst hn;exact dl (r7 x hx)) (by simp[bo]));have a3:=mul6 101 (show c.sets.length≤600 by omega);have a4:=cU (fun p:Cpr=>aA av [(p.s:Int),p.a,p.b]) 100 c.prs (fun p hp=>fa _ _ _ (fun n hn=>by simp at hn;rcases hn with rfl | rfl | rfl;exact dl (r8 p hp).1;exact(r8 p hp).2.1;exact(r8 p hp).2.2) (by simp[av]));have a5:=mul6 101 (show c.prs.length≤600 by omega);simp only[gw,iO];omega
    ·split
     ·rw[bP,gh,gh];have a1:=fa cr [(c.g.l:Int),(c.g.r:Int)] 100 (fun n hn=>by simp at hn;rcases hn with rfl | rfl;exact dl r10;exact dl r11) (by simp[cr])
      have a2:=cU (fun s=>aA ap (stN s)) 30000 c.steps (fun s hs=>fa _ _ _ (fun n hn=>by
       have q:=r9 s hs;unfold stN at hn;simp at hn
       rcases hn with rfl | rfl | rfl | hn
       ·exact q.1
       ·exact dl q.2.2.1
       ·exact dl q.2.2.2
       ·exact q.2.1 n hn) (by have:=m4 s hs;simp[stN,ap];omega))
      have a3:=mul6 30001 (show c.steps.length≤600 by omega);simp only[gw,iO];omega
     ·simp[lnT]
 ·have a2:=cU ndL 30000 (aq c) hprf.2.2;have a3:=mul6 30001 hprf.2.1;omega
theorem addB_set(b:UInt8):∀(xs:List (List UInt8)),xs≠[]→∃p,xs[xs.length-1]?=some p∧addB b xs=xs.set (xs.length-1) (p++[b])
 | [],h=>absurd rfl h
 | [p],_=>⟨p,rfl,rfl⟩
 | p::q::r,_=>by
  obtain⟨z,h1,h2⟩:=addB_set b (q::r) (by simp);refine⟨z,by simpa using h1,?_⟩;show p::addB b (q::r)=_;rw[h2];simp
theorem bs_ext(l:List UInt8){i:Nat}(h:i<l.length):(bs l).extract i (i+1)=bs [l[i]]:=by
 have e:((bs l).extract i (i+1)).data.toList=[l[i]]:=by
  rw[ByteArray.data_extract];simp[bs,List.take_one]
 rw[←dL ((bs l).extract i (i+1)),e]
theorem bs_get(l:List UInt8)(i:Nat)(h:i<(bs l).size):(bs l)[i]'h=l[i]'(by rw[aI]at h;exact h):=rfl
theorem ne_toI{b c:UInt8}(h:¬b=c):¬(b.toNat:Int)=(c.toNat:Int):=fun e=>h (UInt8.toNat_inj.1 (by omega))
theorem spl_le(c:UInt8):∀(l:List UInt8),∀p∈spl c l,p.length≤l.length
 | [],p,h=>by simp[spl]at h;subst h;simp
 | b::l,p,h=>by
  by_cases hb:b=c
  ·rw[spl,if_pos hb]at h
   rcases List.mem_cons.1 h with rfl | h
   ·simp
   ·have:=spl_le c l p h;simp;omega
  ·obtain⟨q,qs,e1,e2⟩:=dV (l:=l) hb;rw[e2]at h
   rcases List.mem_cons.1 h with rfl | h
   ·have:=spl_le c l q (by rw[e1];exact ir);simp;omega
   ·have:=spl_le c l p (by rw[e1];exact il _ h);simp;omega
theorem lines_r(l:List UInt8)(hl:l.length≤100000000):aS Tryz.prog 22 [.str (bs l)] fun r=>r = .lst 1 false ((spl 10 l).map fun p=>.str (bs p)):=by
 refine bj (ay tok Tryz.func22 rfl rfl ?_);refine ey (W_x tok mixed ?_);simp -dsimp[Tryz.f22,gk];refine ey (W_regionO tok (t:=28) (len:=1) (v:=.buf 0 0 1 1) (H':=[.buf 9 1 [.str (bs [])] false]) rfl rfl rfl (by simp[eE,aP]) ?_);simp;refine wx ?_;simp -dsimp[];refine ak (W_loopM 36 0xfffffffd8 (by simp[mB]<;>rfl) (σ:=Nat) (fun i=>i≤l.length) (fun i=>l.length-i) (fun i=>[(3,.buf 0 0 (spl 10 (l.take i)).length (spl 10 (l.take i)).length),(4,.int .i64 i)]) (fun i=>[B.buf 9 1 ((spl 10 (l.take i)).map fun p=>.str (bs p)) false]) 0 (by simp) (by simp[spl]) (by simp[spl]) (by simp) ?_);rintro i hi N Q hN hQ;have hPn:=spl_ne 10 (l.take i)
 have hPl:(spl 10 (l.take i)).length≤i+1:=by
  rw[fk];have:=List.count_le_length (a:=(10:UInt8)) (l:=l.take i);rw[iC]at this;omega
 by_cases hb:i<l.length
 ·have hs:=spl_snoc 10 l[i] (l.take i);rw[←ag l hb]at hs;have hx:=bs_ext l hb;obtain⟨b,hbe⟩:∃b,b=l[i]:=⟨_,rfl⟩;have hbe':=hbe.symm;rw[←hbe]at hs hx;have hL:spl 10 (l.take (i+1))≠[]:=spl_ne _ _;obtain⟨R,hR⟩:∃R,R=spl 10 (l.take (i+1)):=⟨_,rfl⟩;obtain⟨P,hP⟩:∃P,P=spl 10 (l.take i):=⟨_,rfl⟩;rw[←hP]at hPn hPl hs ⊢;by_cases h10:b=10
  ·rw[if_pos h10]at hs;subst h10;refine wx ?_;simp -dsimp[hb,aI,bs_get,hbe',aP,cap16 P.length (by omega)];refine hN (i+1) _ _ (by omega) (by omega) ?_ ⟨[],?_⟩ (by simp) (by simp)
   ·rw[hs];simp[aX i (by omega)]
   ·rw[hs];simp[aP]
  ·rw[if_neg h10]at hs;obtain⟨p,hp1,hp2⟩:=addB_set b P hPn;have hn:¬(b.toNat:Int)=10:=ne_toI h10
   have hP1:1≤P.length:=by cases P;exact absurd rfl hPn;simp
   have hpl:p.length≤i:=by
    have h1:=spl_le 10 _ p (hP▸gf hp1);rw[iC]at h1;omega
   obtain⟨hlt,hpe⟩:=List.getElem?_eq_some_iff.1 hp1;refine wx ?_;simp -dsimp[hb,aI,bs_get,hbe',hn];refine ak (W_drawT tok mixed [17] [] [] (by kernel_rfl) fun C K hC hK=>?_);simp -implicitDefEqProofs [hb,(show(0:Int)≤(i:Int)+1 by omega),aI,wrapP P.length (by omega) hP1,aX i (by omega),hpe,hx,ao,(show p.length≤9223372036854775806 by omega),(show P.length-1<P.length by omega),(show p.length+1≤9223372036854775807 by omega),(show i≤i+1 by omega),(show i+1≤l.length by omega)];refine hK _ _ ?_;simp -dsimp[aX i (by omega)];refine hN (i+1) _ _ (by omega) (by omega) ?_ ⟨[],?_⟩ (by simp) (by simp)
   ·rw[hs,hp2];simp
   ·rw[hs,hp2,List.map_set];simp
 ·have e:l.take i=l:=gj (by omega);rw[e];refine wx ?_;simp -dsimp[hb,aI];refine hQ _ _ _ ?_;simp -dsimp[];obtain⟨R,hR⟩:∃R,R=spl 10 l:=⟨_,rfl⟩;rw[←hR];exact exp_buf (k:=0) (e:=9) (z:=1) (xs:=R.map fun p=>.str (bs p)) (fz:=false) rfl (by simp) (by simp)
theorem vals2{a b:V}{vals:Array Value}(h:vals.size=[a,b].length):∃v0 v1,vals = #[v0,v1]:=by
 obtain⟨l⟩:=vals
 match l,h with
 | [a,b],_=>exact⟨a,b,rfl⟩
theorem fp{s:AM.St}{k:IntKind}{n:Int}{u:Value}(h:Rel s (.int k n) u):u = .int k n:=by cases h;rfl
theorem cy{s:AM.St}{x:ByteArray}{u:Value}(h:Rel s (.str x) u):u = .string x:=by cases h;rfl
theorem below_grow(w:World)(k:Nat)(os:Array Obj):Go.RowKit.Below w.heap.size w (Go.Sort.grow (w.drewN k) os):=⟨rfl,rfl,rfl,by simp[Go.Sort.grow,World.drewN],fun b hb=>by simp[Go.Sort.grow,World.drewN,iL,hb]⟩
theorem below_alloc(w:World)(o:Obj):Go.RowKit.Below w.heap.size w (w.alloc o):=(Go.RowKit.Below.refl _ w).alloc (gn _) o
theorem tab_pow{F:Nat→Prop}{w:World}(hZ:GOk Tryz.prog (AM.base F w)):Lib.TabIs Tryz.prog w "internal/strconv.uint64pow10" .u64 Lib.pow10Tab:=by
 cases hg:Program.globalNamed Tryz.prog "internal/strconv.uint64pow10" with
 | none =>
  have:(Program.globalNamed Tryz.prog "internal/strconv.uint64pow10").isSome=true:=by kernel_rfl
  rw[hg]at this;cases this
 | some g =>
  obtain⟨cs,h1,h2⟩:=hZ.var (nm:= "internal/strconv.uint64pow10") (C:=pow10C) (by simp[gLib]) hg;unfold Lib.TabIs;rw[show(AM.base F w).w=w from rfl]at h1;rw[h1,h2]
theorem fmtInt_k(n:Int)(h:inI n):aS Tryz.prog 42 [.int .i64 n,.int .i64 10] fun r=>r = .str (bs (itoa n)):=by
 refine⟨⟨Tryz.f42,Tryz.func42,rfl,rfl⟩,fun F w vals hZ hF hsz hrel=>?_⟩;obtain⟨v0,v1,rfl⟩:=vals2 hsz;obtain rfl:=fp (hrel 0 _ v0 rfl rfl);obtain rfl:=fp (hrel 1 _ v1 rfl rfl)
 exact(Go.Proofs.Any.strconv_FormatInt_10 lays173 n h.1 h.2 w (tab_pow hZ)).mono fun e w' ⟨h1,k,os,h2⟩=>⟨_,_,h1,.str _,.str _,by subst h2;exact below_grow w k os,rfl⟩
theorem maxlen_k{F:Nat→Prop}{w:World}(hZ:GOk Tryz.prog (AM.base F w)):∃m,w.cell? ⟨bx.g 1,0,none⟩=some (.int .i64 m):=by
 have hg:Program.globalNamed Tryz.prog "internal/bytealg.MaxLen" = some (bx.g 1):=by kernel_rfl
 obtain⟨_,cs,t,m,h2,k,h3⟩:=hZ ("internal/bytealg.MaxLen",maxLenC) (by simp[gLib]) _ hg;have h2:w.heap[bx.g 1]?=_:=h2;exact⟨k,by simp[World.cell?,h2,h3]⟩
theorem count_k(l:List UInt8)(c:UInt8)(hl:l.length≤1000000000):aS Tryz.prog 37 [.str (bs l),.str (bs [c])] fun r=>r = .int .i64 ((spl c l).length-1:Nat):=by
 refine⟨⟨Tryz.f37,Tryz.func37,rfl,rfl⟩,fun F w vals hZ hF hsz hrel=>?_⟩;obtain⟨v0,v1,rfl⟩:=vals2 hsz;obtain rfl:=cy (hrel 0 _ v0 rfl rfl);obtain rfl:=cy (hrel 1 _ v1 rfl rfl);obtain⟨m,hm⟩:=maxlen_k hZ;have:=Go.Proofs.Any.strings_Count_any lays138 (bs l) (bs [c]) m w (by rw[aI];omega) hm (by rw[aI];simp)
 refine this.mono fun e w' ⟨h1,h2⟩=>⟨_,_,h1,.int _ _,.int _ _,by subst h2;exact Go.RowKit.Below.refl _ _,?_⟩
 have e:Lib.countB (bs l) (bs [c])=Lib.count l [c]:=by
  unfold Lib.countB;rw[bv,bv]
 rw[e,Lib.count_one,fk];rfl
theorem bG(w:World)(o:Obj):(w.alloc o).heap[w.heap.size]?=some o:=by
 show(w.heap.push o)[w.heap.size]?=some o;simp
theorem gb(w:World)(o:Obj):(w.alloc o).heap.size=w.heap.size+1:=by
 show(w.heap.push o).size=_;simp
theorem rel_strs{F:Nat→Prop}{w:World}(hF:∀b,F b→b<w.heap.size)(ss:List ByteArray)(t:TypeId):Rel (AM.base F (w.alloc (.cells (ss.map Value.string).toArray t))) (.lst 1 false (ss.map V.str)) (.slice (some ⟨w.heap.size,0,none⟩) ss.length ss.length):=by
 have hnew:=bG w (.cells (ss.map Value.string).toArray t);have hsz:=gb w (.cells (ss.map Value.string).toArray t);generalize w.alloc (.cells (ss.map Value.string).toArray t)=W at hnew hsz ⊢
 have hcell:∀i m,ss[i]?=some m→W.cell? ⟨w.heap.size,i,none⟩=some (.string m):=fun i m hm=>by simp[World.cell?,hnew,hm]
 have hget:∀(i:Nat) (x:V) (j:Nat) (c:V),(ss.map V.str)[i]?=some x→x.cells[j]?=some c→∃m,ss[i]?=some m∧j=0∧c = .str m:=fun i x j c h1 h2=>by
  simp only[gz,iA]at h1;obtain⟨a,ha,rfl⟩:=h1
  match j,h2 with
  | 0,h2=>simp[V.cells]at h2;exact⟨a,ha,rfl,h2.symm⟩
  | j+1,h2=>simp[V.cells]at h2
 have:=Rel.lst (s:=AM.base F W) 1 false (ss.map V.str) (some ⟨w.heap.size,0,none⟩) ss.length w.heap.size 0 (fun i j=>((ss[i]?).map Value.string).getD Go.undef) (by simp) (fun h=>by cases h)
  (fun h0=>⟨rfl,by show w.heap.size<W.heap.size;omega,fun hf=>by have:=hF _ hf;omega,fun k hk=>by have:=hk.1;simp[AM.base]at this⟩)
  (fun x hxm=>by
   obtain⟨a,_,rfl⟩:=List.mem_map.1 hxm
   exact⟨rfl,fun c hc=>by simp[V.cells]at hc;subst hc;rfl⟩)
  (fun i x j c h1 h2=>by
   obtain⟨m,hm,rfl,rfl⟩:=hget i x j c h1 h2;simp only[hm,hM,io];have:=hcell i m hm
   simpa[AM.base] using this)
  (fun i x j c h1 h2=>by
   obtain⟨m,hm,rfl,rfl⟩:=hget i x j c h1 h2;simp only[hm,hM,io]
   exact .str _)
 simpa using this
theorem split_k(l:List UInt8)(c:UInt8)(hl:l.length≤1000000000):aS Tryz.prog 19 [.str (bs l),.str (bs [c])] fun r=>r = .lst 1 false ((spl c l).map fun p=>.str (bs p)):=by
 refine⟨⟨Tryz.f19,Tryz.func19,rfl,rfl⟩,fun F w vals hZ hF hsz hrel=>?_⟩;obtain⟨v0,v1,rfl⟩:=vals2 hsz;obtain rfl:=cy (hrel 0 _ v0 rfl rfl);obtain rfl:=cy (hrel 1 _ v1 rfl rfl);obtain⟨m,hm⟩:=maxlen_k hZ
 have h1:1≤(bs [c]).size:=by rw[aI];simp
 have:=Go.Proofs.Any.strings_Split lays146 (by kernel_rfl) (bs l) (bs [c]) m w (by rw[aI];omega) hm h1
 have ec:Lib.countB (bs l) (bs [c])=Lib.count l [c]:=by
  unfold Lib.countB;rw[bv,bv]
 have es:Lib.splitB (bs [c]) 0 (Lib.countB (bs l) (bs [c])) (bs l)=(spl c l).map bs:=by
  have h2:=Lib.splitB_data (bs [c]) 0 (Lib.countB (bs l) (bs [c])) (bs l);rw[bv,bv,ec,split_one]at h2;rw[←h2,ec,jM]
  conv=>lhs;rw[←List.map_id (Lib.splitB _ _ _ _)]
  refine iY fun x _=>?_
  exact(dL x).symm
 have el:Lib.countB (bs l) (bs [c])+1=((spl c l).map bs).length:=by rw[←es];exact(Lib.splitB_all (bs [c]) h1 0 _ _ rfl).symm
 rw[el,es]at this
 refine this.mono fun e w' ⟨h1,h2⟩=>⟨_,_,h1,?_,?_,by subst h2;exact below_alloc w _,rfl⟩
 ·exact .lst _ _ _ (fun x hx=>by obtain⟨p,_,rfl⟩:=List.mem_map.1 hx;exact .str _)
 ·have:=rel_strs hF ((spl c l).map bs) (bx.t 9);rw[jM (f:=bs) (g:=V.str)]at this;subst h2;exact this
theorem extra156:Go.Proofs.Builder.Extra Tryz.prog fX:={
 sizeBuilder:=by kernel_rfl
 liesBuilder:=by kernel_rfl
 t5:=Tryz.underlying5
 a5:=Tryz.isAgg5
 z5:=Tryz.sizeOf5
 v5:=Tryz.zeroValue5
 infoByte:=by kernel_rfl
 cellsByte:=by kernel_rfl
 sizeByte:=by kernel_rfl
 neB5:=by decide
}
theorem join_k(f:Bool)(ls:List (List UInt8))(hl:ls.length≤100000000000)(hz:(lnT ls).length≤100000000000):aS Tryz.prog 35 [.lst 1 f (ls.map fun p=>.str (bs p)),.str (bs [10])] fun r=>r = .str (bs ([10].intercalate ls)):=by
 refine⟨⟨Tryz.f35,Tryz.func35,rfl,rfl⟩,fun F w vals hZ hF hsz hrel=>?_⟩;obtain⟨v0,v1,rfl⟩:=vals2 hsz;obtain rfl:=cy (hrel 1 _ v1 rfl rfl);have h0:=hrel 0 _ v0 rfl rfl
 have hbd:(bs ([10].intercalate ls)).size≤140737488355328:=by
  rw[aI]
  cases ls with
  | nil=>simp[List.intercalate,List.intersperse]
  | cons x l =>
   have:=congrArg List.length (gL (x::l) (by simp));rw[gh]at this;omega
 cases h0 with
 | lst _ _ _ A cap b off u hcap hfull hA hz2 hcell hr =>
  rw[iE]at hcap ⊢;by_cases hp:0<ls.length
  case neg =>
   obtain rfl:ls=[]:=List.length_eq_zero_iff.1 (by omega)
   exact(Go.Proofs.Any.strings_Join_none lays156 extra156 A cap (bs [10]) w).mono fun e w' ⟨h1,h2⟩=>⟨_,_,h1,.str _,.str _,by subst h2;exact Go.RowKit.Below.refl _ _,rfl⟩
  obtain⟨rfl,hP⟩:=hA (by simpa using hp);have hbk:b<w.heap.size:=hP.1
  have hc:∀(j:Nat) x,(ls.map bs)[j]?=some x→w.cell? ⟨b,off+j,none⟩=some (.string x):=fun j x hx=>by
   rw[gz,iA]at hx;obtain⟨p,hp2,rfl⟩:=hx
   have hx2:(ls.map fun p=>V.str (bs p))[j]?=some (.str (bs p)):=by simp[hp2]
   have g1:=hcell j _ 0 (.str (bs p)) hx2 rfl;have g2:=hr j _ 0 (.str (bs p)) hx2 rfl;rw[cy g2]at g1;simpa[AM.base] using g1
  have hm:(ls.map bs).map (·.data.toList)=ls:=by
   rw[jM]
   conv=>rhs;rw[←List.map_id ls]
   exact iY fun x _=>bv x
  have hj:Lib.join ((ls.map bs).map (·.data.toList)) (bs [10]).data.toList=[10].intercalate ls:=by rw[hm,bv];rfl
  have:=Go.Proofs.Any.strings_Join lays156 extra156 b off cap (ls.map bs) (bs [10]) w hc hbk (by rw[iE];omega) (by rw[iE];omega) (by rw[hj];rw[aI]at hbd;exact hbd);rw[hj,iE]at this
  exact this.mono fun e w' ⟨h1,h2⟩=>⟨_,_,h1,.str _,.str _,h2,rfl⟩
end
end Go.Proofs.YtdhgchekdkjcpaaGreatDoor
namespace Go.Proofs.YtdhgchekdkjcpaaGreatDoor
section
open Go Go.AM
theorem callHF{P:Program}{f:FuncId}{args args':List V}{H:List B}{K:V→List B→Prop}(k:Nat){e z:Nat}{xs:List V}{fz:Bool}(hk:H[k]?=some (.buf e z xs fz))(h:bR P f args' (H.set k (.buf e z xs true)) K)(hr:RepF (.buf k 0 xs.length xs.length) (.lst z false xs) args args'):
  aK P (.fn f []) args H K:=by
 simp only[aK,hG];refine⟨h.1,fun s vals hA hg hsz hrel=>?_⟩;obtain⟨rfl,hZ⟩:=hA;obtain⟨p1,p2,_⟩:=frz_ok hg hk;have hl:=hr.len
 refine(h.2 (s.frz k (.buf e z xs true)) vals ⟨rfl,hZ.step p2⟩ p1 (by omega) (fun i b u hb hu=>?_)).mono fun e' w' ⟨u,s',r,a1,a2,a3,a4,a5,a6⟩=>⟨u,s',r,a1,a2,a3,p2.trans a4,a5,a6⟩
 have hx:args[i]?=some (args[i]'(by have:=getElem?_lt hb;omega)):=gg _;exact frz_rep hg hk (hrel i _ u hx hu) (hr.at_ i _ b hx hb)
end
end Go.Proofs.YtdhgchekdkjcpaaGreatDoor
namespace Go.Proofs.YtdhgchekdkjcpaaGreatDoor
section
open Go Go.AM Go.Lib
def wrH(C0:B)(ls:List (List UInt8))(R:List B):List B:=C0::B.cells [.buf 2 0 ls.length ls.length]::B.buf 9 1 (ls.map fun p=>.str (bs p)) false::R
theorem bS(C0:B)(ls:List (List UInt8))(R:List B):(wrH C0 ls R).length=R.length+3:=by simp[wrH]
theorem cA{C0:B}{R:List B}(hC:rbB (R.length+3) C0)(hR:∀bl∈R,rbB (R.length+3) bl)(ls:List (List UInt8)):∀bl∈wrH C0 ls R,rbB (wrH C0 ls R).length bl:=by
 rw[bS];intro bl hbl;unfold wrH at hbl
 rcases List.mem_cons.1 hbl with rfl | hbl
 ·exact hC
 rcases List.mem_cons.1 hbl with rfl | hbl
 ·simp
 rcases List.mem_cons.1 hbl with rfl | hbl
 ·simp
 ·exact hR _ hbl
theorem cE(C0:B)(R:List B)(hC:rbB (R.length+3) C0)(hR:∀bl∈R,rbB (R.length+3) bl)(ls:List (List UInt8))(w:List UInt8)(f:Bool)(ns:List Int)(hls:ls.length≤100000000)(hw:w.length≤100)(hl:ns.length≤1000000)(hn:∀n∈ns,inI n):
  bR Tryz.prog 54 [.ptr 1 0,.str (bs w),.lst 1 f (ns.map aN)] (wrH C0 ls R) fun r H'=>r = .tup []∧H'=wrH C0 (ls++[aA w ns]) R:=by
 have hT:=bD ns hn;refine ay tok Tryz.func54 rfl rfl ?_;refine wx ?_;simp -dsimp[Tryz.f54,gk,wrH];refine ak (W_loopM 20 0xffc82 (by simp[mB]<;>rfl) (σ:=Nat) (fun i=>i≤ns.length) (fun i=>ns.length-i) (fun i=>[(1,.str (bs (aA w (ns.take i)))),(10,.int .i64 i)]) (fun _=>wrH C0 ls R) 0 (by simp) (by simp[aA,fD]) (by simp[wrH]) (by simp[wrH]) ?_);rintro i hi N Q hN hQ;simp only[wrH]at hN hQ ⊢;have hT:=bD (ns.take i) (fun n h=>hn n (iN h))
 have hlt:(ns.take i).length≤1000000:=by rw[iC];omega
 have hw2:(aA w (ns.take i)).length≤22000000:=by unfold aA;rw[gh];omega
 by_cases hb:i<ns.length
 ·have hin:=hn _ (go hb);have hil:=dd hin;obtain⟨x,hx⟩:∃x,x=ns[i]:=⟨_,rfl⟩;have hx':=hx.symm;rw[hx']at hin hil;refine wx ?_;simp -dsimp[hb,hx',aN];refine cPx (fmtInt_k x hin) (by simp) ?_;simp -dsimp[aP,aI,ao,aX i (by omega),(show 1+(itoa x).length≤9223372036854775807 by omega),(show(aA w (ns.take i)).length+(1+(itoa x).length)≤9223372036854775807 by omega),(show(aA w (ns.take i)).length+((itoa x).length+1)≤9223372036854775807 by omega),(show(itoa x).length+1≤9223372036854775807 by omega),(show(itoa x).length≤9223372036854775806 by omega)];refine hN (i+1) _ _ (by omega) (by omega) ?_ ⟨[],(hG _).symm⟩ ?_ ?_
  ·simp only[ag ns hb,←hx,gM];simp
  ·simp
  ·exact cA hC hR ls
 ·have e:ns.take i=ns:=gj (by omega);rw[e]at hw2;refine wx ?_;simp -dsimp[hb,e];refine hQ _ _ _ ?_;simp -dsimp[(show ls.length≤9223372036854775806∧(ls.length+1)*16≤140737488355328 by omega),(show ls.length≤9223372036854775806 by omega),(show(ls.length+1)*16≤140737488355328 by omega)]
theorem fF:∀(l:List Cnd),(∀x∈l,ar x=true)→bn l=l
 | [],_=>rfl
 | x::l,h=>by
  rw[bn,if_pos (h x ir),fF l (fun y hy=>h y (il _ hy))]
theorem gG:∀(l:List Cnd) (i:Nat) (h:i<l.length),(∀x∈l.take i,ar x=true)→¬ar l[i]=true→bn l=l.take i
 | [],i,h,_,_=>by simp at h
 | x::l,0,h,_,h2=>by
  rw[bn,if_neg (by simpa using h2)];rfl
 | x::l,i+1,h,h1,h2=>by
  rw[bn,if_pos (h1 x (by simp)),gG l i (by simpa using h) (fun y hy=>h1 y (by simp[hy])) (by simpa using h2)];rfl
theorem nodes_c(C0 C3:B)(hC:∀n,rbB n C0)(hC3:∀n,rbB n C3)(ls:List (List UInt8))(f:Bool)(l:List Cnd)(hls:ls.length≤10000000)(hl:l.length≤1000000)(hr:∀x∈l,cndR x):
  bR Tryz.prog 55 [.ptr 1 0,.lst 2 f (l.map am)] (wrH C0 ls [C3]) fun r H'=>r = .bool (l.all ar)∧∃G,H'=wrH C0 (ls++(bn l).map ndL) [C3]++G:=by
 obtain⟨b0,hb0⟩:∃b0,b0=l.all ar:=⟨_,rfl⟩;obtain⟨P,hP⟩:∃P,P=(bn l).map ndL:=⟨_,rfl⟩;rw[←hb0,←hP];refine ay tok Tryz.func55 rfl rfl ?_;refine wx ?_;simp -dsimp[Tryz.f55,gk,wrH];refine ak (W_loopM 52 0xffffffffff2d0 (by simp[mB]<;>rfl) (σ:=Nat) (fun i=>i≤l.length∧∀x∈l.take i,ar x=true) (fun i=>l.length-i) (fun i=>[(12,.int .i64 i)]) (fun i=>wrH C0 (ls++(l.map ndL).take i) [C3]) 0 (by simp) (by simp) (by simp[wrH]) (by simp[wrH]) ?_);rintro i ⟨hi,hok⟩ N Q hN hQ;by_cases hb:i<l.length
 case neg =>
  have e:l.take i=l:=gj (by omega);have e2:(l.map ndL).take i=l.map ndL:=gj (by simp;omega);rw[e]at hok;have h1:b0=true:=hb0.trans (List.all_eq_true.2 hok)
  have h2:P=l.map ndL:=by rw[hP,fF l hok]
  subst h1;simp only[wrH,e2];rw[←h2];refine wx ?_;simp -dsimp[hb];refine hQ _ _ _ ?_;simp -dsimp[];exact⟨[],by simp[wrH]⟩
 have hm:=go hb;have hx:=hr _ hm;have hnx:=af l ndL hb
 have hno:¬ar l[i]=true→b0=false∧P=(l.map ndL).take i:=fun h=>by
  refine⟨?_,?_⟩
  ·rw[hb0,Bool.eq_false_iff]
   exact fun h2=>h (List.all_eq_true.1 h2 _ hm)
  ·rw[hP,gG l i hb hok h,List.map_take]
 have hyes:ar l[i]=true→∀x∈l.take (i+1),ar x=true:=fun h x hx=>by
  rw[ag l hb]at hx
  rcases List.mem_append.1 hx with hx | hx
  ·exact hok x hx
  ·rw[List.mem_singleton.1 hx];exact h
 have hlt:((l.map ndL).take i).length≤1000000:=by rw[iC];omega
 obtain⟨x,hxe⟩:∃x,x=l[i]:=⟨_,rfl⟩;have hxe':=hxe.symm;rw[hxe']at hx hno hyes hnx;obtain⟨O,hO⟩:∃O,O=ls++(l.map ndL).take i:=⟨_,rfl⟩
 have hOl:O.length≤100000000:=by rw[hO,gh];omega
 have hO2:∀y:List UInt8,(l.map ndL).take (i+1)=(l.map ndL).take i++[y]→ls++(l.map ndL).take (i+1)=O++[y]:=fun y e=>by rw[e,hO,iM]
 have hno:¬ar x=true→b0=false∧ls++P=O:=fun h=>⟨(hno h).1,by rw[(hno h).2,hO]⟩
 rw[←hO];obtain⟨v,sh⟩:=x;obtain⟨hv,hs,hsl⟩:=hx;simp only at hv hs hsl;by_cases h1:v = -1
 case neg =>
  by_cases h0:0≤v∧sh=[]
  ·obtain⟨h0,rfl⟩:=h0
   have ho:ar ⟨v,[]⟩=true:=by simp[ar,h0]
   have hnd:ndL ⟨v,[]⟩=aA eX [v]:=by unfold ndL;rw[if_neg h1]
   have hc:=cE C0 [C3,B.cells [.int .i64 v,.lst 2 false []]] (hC _) (by intro bl hbl;rcases List.mem_cons.1 hbl with rfl | hbl;exact hC3 _;simp at hbl;subst hbl;simp) O eX true [v] hOl (by decide) (by simp) (by simpa using hv);simp only[hU,iU,aN]at hc;simp only[wrH]at hc ⊢;refine wx ?_;simp -dsimp[hb,hxe',am,cd,h0,h1,(show ¬v<0 by omega)];refine wcE hc ?_;simp -dsimp[aX i (by omega)];refine hN (i+1) _ _ ⟨by omega,hyes ho⟩ (by omega) ?_ ⟨[B.cells [.int .i64 v,.lst 2 false []]],?_⟩ ?_ ?_
   ·simp
   ·rw[hO2 _ (hnd▸hnx)];simp[wrH]
   ·simp[bS]
   ·exact cA (hC _) (by simpa using hC3 _) _
  ·have ho:¬ar ⟨v,sh⟩=true:=by
    simp[ar,h1]
    exact fun h2 h3=>h0 ⟨h2,h3⟩
   obtain⟨e1,e2⟩:=hno ho;subst e1;simp only[wrH];by_cases h2:v<0
   ·refine wx ?_;simp -dsimp[hb,hxe',am,cd,h1,h2];refine hQ _ _ _ ?_;simp -dsimp[];exact⟨[_],by rw[e2];simp[wrH];rfl⟩
   ·have hs0:¬sh=[]:=fun e=>h0 ⟨by omega,e⟩
    have hs1:=List.length_pos_iff.2 hs0;refine wx ?_;simp -dsimp[hb,hxe',am,cd,h1,h2,hs0,hs1,(show(0:Int)<(sh.length:Int) by omega)];refine hQ _ _ _ ?_;simp -dsimp[];exact⟨[_],by rw[e2];simp[wrH];rfl⟩
 subst h1
 have ho:ar ⟨-1,sh⟩=true:=by simp[ar]
 have hnd:ndL ⟨-1,sh⟩=aA dS (shN sh):=rfl
 have hlN:(shN sh).length=2*sh.length:=by
  have:=dX sh sh.length (gn _)
  rwa [jD]at this
 have hin:=shN_in hs
 have hx0:=fun X2 (h2:∀n,rbB n X2)=>cE C0 [C3,B.cells [.int .i64 (-1),.lst 2 false (sh.map cQ)],X2] (hC _) (by
  intro bl hbl
  rcases List.mem_cons.1 hbl with rfl | hbl
  ·exact hC3 _
  rcases List.mem_cons.1 hbl with rfl | hbl
  ·simp
  ·rw[List.mem_singleton.1 hbl];exact h2 _) O dS false (shN sh) hOl (by decide) (by omega) hin
 have hc:=hx0 (B.buf 2 1 ((shN sh).map aN) true) (fun n=>by simp[aN]);simp only[wrH]at hc ⊢;refine wx ?_;simp -dsimp[hb,hxe',am,cd];refine ak (W_own 2 1 [7] (by simp) (W_loopM 48 0xfff000000280 (by simp[mB]<;>rfl) (σ:=Nat) (fun j=>j≤sh.length) (fun j=>sh.length-j) (fun j=>[(36,.int .i64 j),(7,.buf 5 0 (2*j) (2*j))]) (fun j=>[C0,B.cells [.buf 2 0 O.length O.length],B.buf 9 1 (O.map fun p=>.str (bs p)) false,C3,B.cells [.int .i64 (-1),.lst 2 false (sh.map cQ)],B.buf 2 1 ((shN (sh.take j)).map aN) false]) 0 (by omega) (by simp) (by simp[shN]) (by simp) ?_));intro j hj N2 Q2 hN2 hQ2;have hlj:=dX sh j hj;by_cases hjb:j<sh.length
 ·have hsn:=shN_snoc sh hjb;obtain⟨y,hy⟩:∃y,y=sh[j]:=⟨_,rfl⟩;have hy':=hy.symm;rw[hy']at hsn;refine wx ?_;simp -dsimp[hjb,hy',cQ,hlj,aX j (by omega),(show 2*j≤9223372036854775805∧(2*j+2)*8≤140737488355328 by omega)];refine hN2 (j+1) _ _ (by omega) (by omega) ?_ ⟨[B.cells [.int .i64 y.e,.int .i64 y.a]],?_⟩ ?_ ?_
  ·simp[Nat.mul_add]
  ·simp[hsn,aN]
  ·simp
  ·intro bl hbl;simp only[jE,List.not_mem_nil,or_false]at hbl
   rcases hbl with rfl | rfl | rfl | rfl | rfl | rfl
   ·exact hC _
   ·simp
   ·simp
   ·exact hC3 _
   ·simp
   ·simp[aN]
 ·have ej:sh.take j=sh:=gj (by omega)
  have hje:j=sh.length:=by omega
  rw[ej];refine wx ?_;simp -dsimp[hjb];refine hQ2 _ _ _ ?_;simp -dsimp[];refine(callHF 5 (args':=[.ptr 1 0,.str (bs dS),.lst 1 false ((shN sh).map aN)]) (e:=2) (z:=1) (xs:=(shN sh).map aN) (fz:=false) rfl hc (by simp[hlN,hje];rfl)).mono ?_;rintro r H' ⟨rfl,rfl⟩;simp -dsimp[aX i (by omega)];refine hN (i+1) _ _ ⟨by omega,hyes ho⟩ (by omega) ?_ ⟨[B.cells [.int .i64 (-1),.lst 2 false (sh.map cQ)],B.buf 2 1 ((shN sh).map aN) true],?_⟩ ?_ ?_
  ·simp
  ·rw[hO2 _ (hnd▸hnx)];simp[wrH]
  ·simp[bS]
  ·exact cA (hC _) (by simpa using hC3 _) _
theorem vals3{a b c:V}{vals:Array Value}(h:vals.size=[a,b,c].length):∃v0 v1 v2,vals = #[v0,v1,v2]:=by
 obtain⟨l⟩:=vals
 match l,h with
 | [a,b,c],_=>exact⟨a,b,c,rfl⟩
def fT(l:List UInt8):V:=match parseIntB 64 l with
 | .ok v=>.tup [.int .i64 v,.nilI]
 | .range=>.tup [.int .i64 (intSat 64 l),.ifc]
 | _=>.tup [.int .i64 0,.ifc]
theorem gC{s:AM.St}{n:Int}{r:V}{u:Value}(h:Rel s r u):Rel s (.tup [.int .i64 n,r]) (.tuple #[.int .i64 n,u]):=by
 refine .tup _ _ rfl (fun i c w hc hw=>?_)
 match i with
 | 0=>simp at hc hw;subst hc;subst hw;exact .int _ _
 | 1=>simp at hc hw;subst hc;subst hw;exact h
 | k+2=>simp at hc
theorem err_cell{F:Nat→Prop}{w:World}(hZ:GOk Tryz.prog (AM.base F w)){nm:String}{g:Nat}(hm:(nm,errC)∈gLib)(hg:Program.globalNamed Tryz.prog nm=some g):∃ev,w.cell? ⟨g,0,none⟩=some ev∧(ev = .nilIface∨∃te pe,ev = .iface te pe):=by
 obtain⟨_,cs,t,m,h2,ev,h3,h4⟩:=hZ (nm,errC) hm _ hg;have h2:w.heap[g]?=_:=h2;exact⟨ev,by simp[World.cell?,h2,h3],h4⟩
theorem parseInt_k(l:List UInt8)(hl:l.length≤1000000000):aS Tryz.prog 41 [.str (bs l),.int .i64 10,.int .i64 64] fun r=>r=fT l:=by
 refine⟨⟨Tryz.f41,Tryz.func41,rfl,rfl⟩,fun F w vals hZ hF hsz hrel=>?_⟩;obtain⟨v0,v1,v2,rfl⟩:=vals3 hsz;obtain rfl:=cy (hrel 0 _ v0 rfl rfl);obtain rfl:=fp (hrel 1 _ v1 rfl rfl);obtain rfl:=fp (hrel 2 _ v2 rfl rfl);have hd:(bs l).data.toList=l:=bv l
 cases hp:parseIntB 64 l with
 | ok v =>
  have e:fT l = .tup [.int .i64 v,.nilI]:=by unfold fT;rw[hp]
  rw[e]
  refine(Go.Proofs.Any.strconv_ParseInt_10_at64_ok lays174 (bs l) (by rw[aI];omega) v (by rw[hd];exact hp) w).mono fun e w' ⟨h1,h2⟩=>⟨_,_,h1,by simp,gC .nilI,?_,rfl⟩
  rcases h2 with rfl | ⟨t,rfl⟩
  ·exact Go.RowKit.Below.refl _ _
  ·exact Lib.bytesWorld_below _ _ _
 | range =>
  have e:fT l = .tup [.int .i64 (intSat 64 l),.ifc]:=by unfold fT;rw[hp]
  rw[e];obtain⟨ev,q1,q2⟩:=err_cell hZ (nm:= "strconv.ErrRange") (g:=dc.g 16) (by simp[gLib]) (by kernel_rfl)
  refine(Go.Proofs.Any.strconv_ParseInt_10_at64_range lays174 (bs l) (by rw[aI];omega) (by rw[hd];exact hp) ev w q1 q2).mono fun e w' ⟨N,h1,_,_,h2⟩=>?_
  rw[hd]at h1;exact⟨_,_,h1,by simp,gC (.ifc _ _),h2,rfl⟩
 | _ =>
  have e:fT l = .tup [.int .i64 0,.ifc]:=by unfold fT;rw[hp]
  rw[e];obtain⟨ev,q1,q2⟩:=err_cell hZ (nm:= "strconv.ErrSyntax") (g:=dc.g 15) (by simp[gLib]) (by kernel_rfl)
  exact(Go.Proofs.Any.strconv_ParseInt_10_at64_syntax lays174 (bs l) (by rw[aI];omega) (by rw[hd];exact hp) ev w q1 q2).mono fun e w' ⟨N,h1,_,_,h2⟩=>⟨_,_,h1,by simp,gC (.ifc _ _),h2,rfl⟩
end
end Go.Proofs.YtdhgchekdkjcpaaGreatDoor
namespace Go.Proofs.YtdhgchekdkjcpaaGreatDoor
section
open Go Go.AM Go.RowKit Go.Lib
def dig1(a:ByteArray):Option Int:=if a.data.toList=[48] then some 0 else if a.data.toList=[49] then some 1 else if a.data.toList=[50] then some 2 else none
theorem dig1_ok{a:ByteArray}{n:Int}(h:dig1 a=some n):fT a.data.toList = .tup [.int .i64 n,.nilI]∧a=bs (itoa n):=by
 unfold dig1 at h;have e:=(dL a).symm;split at h
 ·rename_i h1;cases h;rw[h1]at e ⊢;exact⟨by kernel_rfl,by rw[e];kernel_rfl⟩
 ·split at h
  ·rename_i h1;cases h;rw[h1]at e ⊢;exact⟨by kernel_rfl,by rw[e];kernel_rfl⟩
  ·split at h
   ·rename_i h1;cases h;rw[h1]at e ⊢;exact⟨by kernel_rfl,by rw[e];kernel_rfl⟩
   ·cases h
def itoa1(n:Int):Option ByteArray:=if n=0 then some ⟨#[48]⟩ else if n=1 then some ⟨#[49]⟩ else if n=2 then some ⟨#[50]⟩ else none
theorem itoa1_ok{n:Int}{a:ByteArray}(h:itoa1 n=some a):a=bs (itoa n)∧inI n:=by
 unfold itoa1 at h;split at h
 ·rename_i h1;cases h;subst h1;exact⟨by kernel_rfl,by unfold inI;omega⟩
 ·split at h
  ·rename_i h1;cases h;subst h1;exact⟨by kernel_rfl,by unfold inI;omega⟩
  ·split at h
   ·rename_i h1;cases h;subst h1;exact⟨by kernel_rfl,by unfold inI;omega⟩
   ·cases h
def cutE(a b:ByteArray):Option V:=match b.data.toList with
 | [c]=>if a.data.toList.length≤1000 then some (.lst 1 false ((spl c a.data.toList).map fun p=>.str (bs p))) else none
 | _=>none
def ext:cD:=fun f args H=>match f,args with
 | 224,[.int .u32 x]=>some (.int .i64 (tzI x),H)
 | 256,[.str a,.str b]=>some (.int .i64 (cmpS a b),H)
 | 19,[.str a,.str b]=>(cutE a b).map fun v=>(v,H)
 | 41,[.str a,.int .i64 10,.int .i64 64]=>(dig1 a).map fun n=>(.tup [.int .i64 n,.nilI],H)
 | 42,[.int .i64 n,.int .i64 10]=>(itoa1 n).map fun a=>(.str a,H)
 | _,_=>none
theorem gT:bN Tryz.prog ext:=fun f args H r H' h=>by
 unfold ext at h;split at h
 ·cases h;rename_i x;have:=co (H:=H) (tz_con x) (by simp);simpa only[aK,hG] using this
 ·cases h;rename_i a b;have:=co (H:=H) (cmp_con a b) (by simp);simpa only[aK,hG] using this
 ·rename_i a b
  cases hc:cutE a b with
  | none=>rw[hc]at h;cases h
  | some v =>
   rw[hc]at h;cases h;unfold cutE at hc;split at hc
   ·rename_i c hb;split at hc
    ·rename_i hl;cases hc;have:=co (H:=H) (split_k a.data.toList c (by omega)) (by simp);rw[dL,←hb,dL]at this;simpa only[aK,hG] using this
    ·cases hc
   ·cases hc
 ·rename_i a
  cases hc:dig1 a with
  | none=>rw[hc]at h;cases h
  | some n =>
   rw[hc]at h;cases h;obtain⟨e1,e2⟩:=dig1_ok hc
   have hl:a.data.toList.length≤1000000000:=by
    unfold dig1 at hc;split at hc
    ·rename_i q;rw[q];simp
    ·split at hc
     ·rename_i q;rw[q];simp
     ·split at hc
      ·rename_i q;rw[q];simp
      ·cases hc
   have:=co (H:=H) (parseInt_k a.data.toList hl) (by simp);rw[dL,e1]at this;simpa only[aK,hG] using this
 ·rename_i n
  cases hc:itoa1 n with
  | none=>rw[hc]at h;cases h
  | some a =>
   rw[hc]at h;cases h;obtain⟨e1,e2⟩:=itoa1_ok hc;have:=co (H:=H) (fmtInt_k n e2) (by simp);rw[←e1]at this;simpa only[aK,hG] using this
 ·cases h
theorem allNamed:(Tryz.prog.funcs.toList.all fun fn=>!(fn.name == "runtime.NumGoroutine"))=true:=by kernel_rfl
theorem bd:∀(f:Nat) (fn:Func),Tryz.prog.funcs[f]?=some fn→(fn.name == "runtime.NumGoroutine")=false:=fun f fn h=>by
 have:=List.all_eq_true.1 allNamed fn (by rw[Array.mem_toList_iff];exact Array.mem_of_getElem? h);simpa using this
end
end Go.Proofs.YtdhgchekdkjcpaaGreatDoor
namespace Go.Proofs.YtdhgchekdkjcpaaGreatDoor
section
open Go Go.AM Go.Lib
def fb(n:Int):V:=.agg [.int .i64 1,.int .i64 n,.str ⟨#[]⟩]
def keyB(b:UInt8):List UInt8:=[1,128,0,0,0,0,0,0,b]
def keyL(b:UInt8):V:=.lst 1 false ((keyB b).map fun c=>.int .u8 (c.toNat:Int))
theorem key_of(n:Int)(b:UInt8)(h1:aS Tryz.prog 213 [fb n] fun x=>x = .bool true)(h2:aS Tryz.prog 242 [.lst 1 true [.int .u8 1],.int .i64 n] fun x=>x=keyL b):
  aS Tryz.prog 202 [fb n] fun x=>x = .tup [.str ⟨(keyB b).toArray⟩,.int .i64 0]:=by
 refine bj (ay tok Tryz.func202 rfl rfl ?_);refine ey (W_x tok mixed ?_);simp -dsimp[Tryz.f202,gk,fb];simp only[fb]at h1;refine ey (W_x tok mixed ?_);simp -dsimp;refine cPx (h1) (by simp) ?_;simp -dsimp;refine ey (W_x tok mixed ?_);simp -dsimp;refine ey (W_x tok mixed ?_);simp -dsimp;refine cPx (h2) (by simp) ?_;simp -dsimp;refine ey (W_regionB tok (src:=57) (dst:=9) (e:=5) (l:=keyB b) (f:=false) rfl rfl rfl rfl rfl Tryz.underlying57 Tryz.underlying5 Tryz.underlying9 (by simp[keyB]) (by simp[keyL]) ?_);simp -dsimp;refine wx ?_;simp -dsimp[]
theorem val_1:aS Tryz.prog 213 [fb 1] fun x=>x = .bool true:=aJ tok mixed bd gT (fuel:=1000) (d:=40) (by kernel_rfl) (.bool _)
theorem val_2:aS Tryz.prog 213 [fb 2] fun x=>x = .bool true:=aJ tok mixed bd gT (fuel:=1000) (d:=40) (by kernel_rfl) (.bool _)
theorem keyL_pure(b:UInt8):AM.Pure (keyL b):=by simp[keyL]
theorem num_1:aS Tryz.prog 242 [.lst 1 true [.int .u8 1],.int .i64 1] fun x=>x=keyL 1:=aJ tok mixed bd gT (fuel:=1000) (d:=40) (by kernel_rfl) (keyL_pure 1)
theorem num_2:aS Tryz.prog 242 [.lst 1 true [.int .u8 1],.int .i64 2] fun x=>x=keyL 2:=aJ tok mixed bd gT (fuel:=1000) (d:=40) (by kernel_rfl) (keyL_pure 2)
theorem key_1:aS Tryz.prog 202 [fb 1] fun x=>x = .tup [.str ⟨(keyB 1).toArray⟩,.int .i64 0]:=key_of 1 1 val_1 num_1
theorem key_2:aS Tryz.prog 202 [fb 2] fun x=>x = .tup [.str ⟨(keyB 2).toArray⟩,.int .i64 0]:=key_of 2 2 val_2 num_2
def keyV(n:Int):Option V:=if n=1 then some (.tup [.str ⟨#[1,128,0,0,0,0,0,0,1]⟩,.int .i64 0]) else if n=2 then some (.tup [.str ⟨#[1,128,0,0,0,0,0,0,2]⟩,.int .i64 0]) else none
def extK:cD:=fun f args H=>match f,args with
 | 202,[.agg [.int .i64 1,.int .i64 n,.str s]]=>if s.data.toList=[] then(keyV n).map fun v=>(v,H) else none
 | f,args=>ext f args H
theorem cW:bN Tryz.prog extK:=fun f args H r H' h=>by
 unfold extK at h;split at h
 ·rename_i n s;split at h
  ·rename_i hs
   cases hk:keyV n with
   | none=>rw[hk]at h;cases h
   | some v =>
    rw[hk]at h;cases h
    have es:s=⟨#[]⟩:=by cases s;rename_i d;have:=Array.toList_inj.1 (show d.toList=(#[]:Array UInt8).toList by simpa using hs);rw[this]
    subst es;unfold keyV at hk;split at hk
    ·rename_i hn;cases hk;subst hn;have:=co (H:=H) key_1 (by simp[fb]);simpa only[aK,hG,fb,keyB] using this
    ·split at hk
     ·rename_i hn;cases hk;subst hn;have:=co (H:=H) key_2 (by simp[fb]);simpa only[aK,hG,fb,keyB] using this
     ·cases hk
  ·cases h
 ·exact gT _ _ H r H' h
end
end Go.Proofs.YtdhgchekdkjcpaaGreatDoor
namespace Go.Proofs.YtdhgchekdkjcpaaGreatDoor
section
open Go Go.AM
def clA8:List V:=[.str ⟨#[100,101,108,101,116,101,115,32,49,10,114,111,119,32,49,10,114,111,119,32,50,10,108,101,97,102,32,48,32,49,10,101,110,100,10]⟩]
def clR8:V:=.tup [.agg [.int .i64 1,.lst 1 false [.int .i64 1,.int .i64 2],.int .i64 1,.lst 2 false [.agg [.int .i64 (-1),.lst 2 false [.agg [.int .i64 0,.int .i64 1]]]],.nilS,.str ⟨#[]⟩,.nilS,.nilS,.nilS,.nilS,.nilS,.nilS,.nilS,.int .u32 0,.int .u32 0],.int .i64 0,.int .i64 0]
theorem clP8:AM.Pure clR8:=by simp[clR8]
theorem clQ8:∀a∈clA8,AM.Pure a:=by simp[clA8]
theorem cl8:aS Tryz.prog 7 clA8 fun x=>x=clR8:=aJ tok mixed bd cW (fuel:=1000) (d:=40) (by kernel_rfl) clP8
def clA1:List V:=[.str ⟨#[100,101,108,101,116,101,115,32,49,10,114,111,119,32,50,10,108,101,97,102,32,48,32,49,10,101,110,100,10]⟩]
def clR1:V:=.tup [.agg [.int .i64 1,.lst 1 false [.int .i64 2],.int .i64 1,.lst 2 false [.agg [.int .i64 (-1),.lst 2 false [.agg [.int .i64 0,.int .i64 1]]]],.nilS,.str ⟨#[]⟩,.nilS,.nilS,.nilS,.nilS,.nilS,.nilS,.nilS,.int .u32 0,.int .u32 0],.int .i64 0,.int .i64 0]
theorem clP1:AM.Pure clR1:=by simp[clR1]
theorem clQ1:∀a∈clA1,AM.Pure a:=by simp[clA1]
theorem cl1:aS Tryz.prog 7 clA1 fun x=>x=clR1:=aJ tok mixed bd cW (fuel:=1000) (d:=40) (by kernel_rfl) clP1
def clA0:List V:=[.agg [.int .u8 0,.int .u8 0,.lst 1 true [.lst 1 true [.int .u8 1,.int .u8 1],.lst 1 true [.int .u8 1,.int .u8 2]]],.int .i64 2]
def clR0:V:=.agg [.str ⟨#[114]⟩,.lst 1 false [.str ⟨#[97]⟩,.str ⟨#[98]⟩],.lst 2 false [.agg [.int .i64 1,.lst 3 false [.agg [.int .i64 1,.int .i64 1,.str ⟨#[]⟩],.agg [.int .i64 1,.int .i64 1,.str ⟨#[]⟩]]],.agg [.int .i64 2,.lst 3 false [.agg [.int .i64 1,.int .i64 1,.str ⟨#[]⟩],.agg [.int .i64 1,.int .i64 2,.str ⟨#[]⟩]]]]]
theorem clP0:AM.Pure clR0:=by simp[clR0]
theorem clQ0:∀a∈clA0,AM.Pure a:=by simp[clA0]
theorem cl0:aS Tryz.prog 17 clA0 fun x=>x=clR0:=aJ tok mixed bd cW (fuel:=1000) (d:=40) (by kernel_rfl) clP0
end
end Go.Proofs.YtdhgchekdkjcpaaGreatDoor
