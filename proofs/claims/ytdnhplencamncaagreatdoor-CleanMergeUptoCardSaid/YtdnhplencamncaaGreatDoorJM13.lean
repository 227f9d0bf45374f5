/- JM13: own texts of this seat, joined and shortened by pack4.py: Rc, LKa, Bs, Mx, Sb, Sa, G2, GI, Sc, KlS, SoR, Ss, Bo2. -/
import Derived.Test.YtdnhplencamncaaGreatDoorJM12
import Derived.Test.YtdnhplencamncaaGreatDoorChecked
import Derived.Shelf.Sort.Plain
import Derived.RowKit
import Derived.Shelf.Slices.In.SortNone
set_option linter.unusedVariables false
set_option linter.unusedSimpArgs false
set_option maxRecDepth 100000
set_option maxHeartbeats 64000000
open Array renaming getElem?_toList→pV,getElem?_eq_getElem→pn,getElem_map→qO,getElem?_map→qz,size_map→rp
open Int renaming natCast_ediv→ra,tmod_nonneg→rm
open List renaming replicate→oE,mem_of_getElem?→oH,getElem_mem→oI,drop_eq_getElem_cons→oK,range→oM,append_nil→oU,drop_of_length_le→oV,length_map→oW,getElem?_map→oc,map_append→oe,length_cons→og,map_congr_left→oo,map_cons→oq,mem_cons_self→ou,mem_cons_of_mem→ow,take_of_length_le→pA,drop_zero→pC,map_nil→pJ,getElem?_cons_succ→pL,ext_getElem?→pT,eq_nil_of_length_eq_zero→pX,ext_getElem→pw,mem_range→qK,getElem_map→qM,getElem_range→qT,any_cons→qW,getElem?_set→qY,getElem?_range→qZ,take→qi,length_mergeSort→qn,map_set→qw,getElem_set→rF,pairwise_map→rU
open Nat renaming le_refl→oJ,mul_le_mul_right→ol,add_mul→ov,zero_add→pI,zero_mul→pz,add_zero→qH,gcd→qo,mul_one→rO,sub_zero→rR,le_add_right→rd,div_le_self→rn,mod_lt→ro
open Option renaming map_some→pB,map_eq_some_iff→po
namespace Go.Proofs.YtdnhplencamncaaGreatDoor
section
open Go Go.AM
structure Snt where
 lv:Int
 lc:Int
 op:Int
 rv:Int
 rc:Int
structure Rul where
 k:Int
 fd:Fd
 cl:Int
 cr:Int
 cs:List Int
 xs:List Int
 ys:List Int
 nv:Int
 sn:List Snt
def encSnt(s:Snt):V:=.agg [.int .u8 s.lv,.int .u8 s.lc,.int .u8 s.op,.int .u8 s.rv,.int .u8 s.rc]
def encRul(r:Rul):V:=.agg [.int .u8 r.k,.int .u8 (r.fd.l:Int),.int .u8 (r.fd.r:Int),.int .u8 r.cl,.int .u8 r.cr,LU r.cs,LU r.xs,LU r.ys,.int .u8 r.nv,.lst 5 false (r.sn.map encSnt)]
@[simp] theorem encSnt_pure (s:Snt):AM.Pure (encSnt s):=by simp[encSnt]
@[simp] theorem encRul_pure (s:Rul):AM.Pure (encRul s):=by simp[encRul,LU,encU]
@[simp] theorem encRul_oneV (s:Rul):cT (encRul s)=true:=by simp[encRul,cT,LU,V.one]
structure SntOk (s:Snt):Prop where
 lv:0≤s.lv∧s.lv<256
 lc:0≤s.lc∧s.lc<256
 op:0≤s.op∧s.op<256
 rv:0≤s.rv∧s.rv<256
 rc:0≤s.rc∧s.rc<256
structure RulOk (r:Rul):Prop where
 k:0≤r.k∧r.k<256
 fd:r.fd.l<256∧r.fd.r<256
 cl:0≤r.cl∧r.cl<256
 cr:0≤r.cr∧r.cr<256
 cs:r.cs.length≤9223372036854775807
 csv:∀c∈r.cs,0≤c∧c<256
 xs:r.xs.length≤9223372036854775807
 xsv:∀c∈r.xs,0≤c∧c<256
 ys:r.ys.length≤9223372036854775807
 ysv:∀c∈r.ys,0≤c∧c<256
 nv:0≤r.nv∧r.nv<256
 sn:r.sn.length≤1048576
 snv:∀s∈r.sn,SntOk s
theorem ofV_val(m:Int):aW (ofV m)=true:=by
 unfold ofV
 repeat' split
 all_goals kernel_rfl
def ig(x:Rcp):Tb:=wideT x (x.a.tmod 6).toNat
theorem mW{n:Nat} : ∀{rs:List Rw} {last:Int},(∀r∈rs,last<r.id)→(∀r∈rs,r.vals.length=n)→(∀r∈rs,∀v∈r.vals,aW v=true)→rs.Pairwise (fun a b=>a.id<b.id)→bj n last rs=0
 | [],_,_,_,_,_=>rfl
 | r::rs,last,h1,h2,h3,h4=>by
  have a1:=h1 r ou;have a2:=h2 r ou;have a3:r.vals.all aW=true:=List.all_eq_true.2 (h3 r ou);rw[List.pairwise_cons]at h4;rw[bj,if_neg (by omega),if_neg (by omega),a3,if_pos rfl];exact mW h4.1 (fun r' hr=>h2 r' (ow _ hr)) (fun r' hr=>h3 r' (ow _ hr)) h4.2
theorem wideT_rows{x:Rcp}{n:Nat}(hg:0≤x.gap):(∀r∈(wideT x n).rows,0<r.id∧r.vals.length=n∧∀v∈r.vals,∃m,v=ofV m)∧(wideT x n).rows.Pairwise fun a b=>a.id<b.id:=by
 have h0:=rm 3 hg;constructor
 ·intro r hr;obtain⟨i,hi,rfl⟩:=List.mem_map.1 hr;refine⟨?_,wVals_len _ _,fun v hv=>?_⟩
  ·show 0<1+(i:Int)*(1+x.gap.tmod 3);have:=Int.mul_nonneg (show(0:Int)≤i by omega) (show 0≤1+x.gap.tmod 3 by omega);omega
  ·obtain⟨j,_,rfl⟩:=List.mem_map.1 hv;exact⟨_,rfl⟩
 ·show((oM x.rows.length).map _).Pairwise _;rw[rU];refine List.Pairwise.imp ?_ List.pairwise_lt_range;intro i j hij;show 1+(i:Int)*(1+x.gap.tmod 3)<1+(j:Int)*(1+x.gap.tmod 3);have:=Int.mul_lt_mul_of_pos_right (show(i:Int)<j by omega) (show 0<1+x.gap.tmod 3 by omega);omega
theorem names_few:∀n,n<6→ec (L8.take n)=true
 | 0,_=>by kernel_rfl
 | 1,_=>by kernel_rfl
 | 2,_=>by kernel_rfl
 | 3,_=>by kernel_rfl
 | 4,_=>by kernel_rfl
 | 5,_=>by kernel_rfl
 | n+6,h=>by omega
theorem ofV_sz(m:Int):(ofV m).s.size≤maxLen:=by
 unfold ofV
 repeat' split
 all_goals decide
structure RcpOk (x:Rcp):Prop where
 a:0≤x.a∧x.a<256
 gap:0≤x.gap
 rows:x.rows.length≤6
 len:∀r∈x.rows,r.length≤9223372036854775807
theorem tbOf_n{x:Rcp}(h:0≤x.a):(x.a.tmod 6).toNat<6∧(((x.a.tmod 6).toNat:Nat):Int)=x.a.tmod 6:=by
 have h1:=rm 6 h;have h2:=Int.tmod_lt_of_pos x.a (show(0:Int)<6 by omega);omega
structure Sim where
 a:Int
 m:Int
 l:Int
structure Lnk where
 rules:List (List Sim)
 block:List Int
 surv:List Int
def bD(s:Sim):V:=.agg [.int .i64 s.a,.int .i64 s.m,.int .i64 s.l]
def LSm(f:Bool)(l:List Sim):V:=.lst 3 f (l.map bD)
def LQm(f:Bool)(l:List (List Sim)):V:=.lst 1 f (l.map (LSm false))
def aV(L:Lnk):V:=.agg [LQm false L.rules,L1 false L.block,L1 false L.surv]
@[simp] theorem encSim_pure (s:Sim):AM.Pure (bD s):=by simp[bD]
@[simp] theorem encSim_one (s:Sim):cT (bD s)=true:=rfl
@[simp] theorem LSm_pure (f:Bool) (l:List Sim):AM.Pure (LSm f l):=by simp[LSm]
@[simp] theorem LSm_one (f:Bool) (l:List Sim):cT (LSm f l)=true:=rfl
@[simp] theorem LQm_pure (f:Bool) (l:List (List Sim)):AM.Pure (LQm f l):=by simp[LQm]
@[simp] theorem encLnk_pure (L:Lnk):AM.Pure (aV L):=by simp[aV,L1]
def simOk(s:Sim):Bool :=
 if s.m=1 then decide (s.l=0)
 else if s.m=2∨s.m=4 then decide (0≤s.l∧s.l≤200)
 else if s.m=3 then decide (0≤s.l∧s.l≤100) else false
def gramB(a b:List UInt8)(l:Int):Bool :=
 decide (l*(((a.length+1+(b.length+1)) / qo (2*shN (grS a) (grS b)) (a.length+1+(b.length+1)):Nat):Int)≤100*((2*shN (grS a) (grS b) / qo (2*shN (grS a) (grS b)) (a.length+1+(b.length+1)):Nat):Int))
def kP(v w:Vl)(s:Sim):Bool :=
 if ¬v.k=2∨¬w.k=2 then dS v w
 else if s.m=2 then decide (((ed v.s.data.toList w.s.data.toList:Nat):Int)≤s.l)
 else if s.m=3 then gramB v.s.data.toList w.s.data.toList s.l
 else if s.m=4 then decide (v.s.data.toList.take s.l.toNat=w.s.data.toList.take s.l.toNat)
 else decide (v.s=w.s)
def bs(l:List UInt8):ByteArray:=⟨l.toArray⟩
theorem cQ(l:List UInt8):(bs l).data.toList=l:=by simp[bs]
theorem bs_self(b:ByteArray):bs b.data.toList=b:=by simp[bs]
theorem bs_app(l m:List UInt8):bs l++bs m=bs (l++m):=by
 have:(bs l++bs m).data.toList=(bs (l++m)).data.toList:=by rw[ByteArray.data_append];simp[bs]
 rw[←bs_self (bs l++bs m),this,cQ]
theorem bW(l:List UInt8):(bs l).size=l.length:=by simp[bs,ByteArray.size]
theorem bs_inj{l m:List UInt8}(h:bs l=bs m):l=m:=by rw[←cQ l,h,cQ]
theorem bs_get(l:List UInt8)(i:Nat)(h:i<(bs l).size):(bs l)[i]'h=l[i]'(by rw[bW]at h;exact h):=rfl
theorem ne_toI{b c:UInt8}(h:¬b=c):¬(b.toNat:Int)=(c.toNat:Int):=fun e=>h (UInt8.toNat_inj.1 (by omega))
theorem lit_bs(a:Array UInt8):ByteArray.mk a=bs a.toList:=rfl
theorem bs_cut(l:List UInt8)(i j:Nat):(bs l).extract i j=bs ((l.take j).drop i):=by
 have e:((bs l).extract i j).data.toList=(l.take j).drop i:=by
  rw[ByteArray.data_extract];simp[bs,List.drop_take]
 rw[←bs_self ((bs l).extract i j),e]
theorem exB(s:ByteArray):∃l,s=bs l:=⟨_,(bs_self s).symm⟩
def mxA(m n i:Nat):List V:=(oM n).map fun t=>if t<i then .buf (t+1) 0 m m else .nilS
def rwB(r:List Int):B:=.buf 3 1 (r.map aQ) false
def mxB(M:List (List Int)):List B:=M.map rwB
theorem ll(m n i:Nat):(mxA m n i).length=n:=by simp[mxA]
theorem mxA_zero(m n:Nat):mxA m n 0=oE n .nilS:=by
 apply pw
 ·simp[mxA]
 ·intro i h1 h2;simp[mxA]
theorem mxA_set{m n i:Nat}(h:i<n):(mxA m n i).set i (.buf (i+1) 0 m m)=mxA m n (i+1):=by
 apply pw
 ·simp[mxA]
 ·intro t h1 h2;rw[rF];simp only[mxA,qM,qT];by_cases ht:i=t
  ·subst ht;rw[if_pos rfl,if_pos (by omega)]
  ·rw[if_neg ht];by_cases h3:t<i
   ·rw[if_pos h3,if_pos (by omega)]
   ·rw[if_neg h3,if_neg (by omega)]
theorem mxA_get{m n i t:Nat}(h:t<i)(hi:i≤n):(mxA m n i)[t]?=some (.buf (t+1) 0 m m):=by
 unfold mxA;rw[oc,qZ (by omega)];simp[h]
theorem jd(M:List (List Int)):(mxB M).length=M.length:=by simp[mxB]
theorem mxB_get{M:List (List Int)}{i:Nat}{r:List Int}(h:M[i]?=some r):(mxB M)[i]?=some (.buf 3 1 (r.map aQ) false):=by
 unfold mxB;rw[oc,h];rfl
theorem mxB_set(M:List (List Int))(i:Nat)(r:List Int):(mxB M).set i (.buf 3 1 (r.map aQ) false)=mxB (M.set i r):=by
 unfold mxB;rw[qw];rfl
theorem mxB_snoc(M:List (List Int))(r:List Int):mxB M++[.buf 3 1 (r.map aQ) false]=mxB (M++[r]):=by
 unfold mxB;rw[oe];rfl
theorem mx_rbr(n:Nat)(r:List Int):rbB n (.buf 3 1 (r.map aQ) false):=(rbB_buf1 (by intro x hx;obtain⟨y,_,rfl⟩:=List.mem_map.1 hx;simp[aQ])).2 trivial
theorem mx_rb{m n i:Nat}{M:List (List Int)}(h:i≤M.length):∀bl∈(B.buf 26 1 (mxA m n i) false::mxB M),rbB (B.buf 26 1 (mxA m n i) false::mxB M).length bl:=fun bl hbl=>by
 rcases List.mem_cons.1 hbl with rfl | hbl
 ·intro x hx c hc;unfold mxA at hx;obtain⟨t,ht,rfl⟩:=List.mem_map.1 hx;by_cases h1:t<i
  ·rw[if_pos h1]at hc;simp[V.cells]at hc;subst hc;simp[rb,rb1,jd];omega
  ·rw[if_neg h1]at hc;simp[V.cells]at hc;subst hc;simp[rb,rb1]
 ·unfold mxB at hbl;obtain⟨r,_,rfl⟩:=List.mem_map.1 hbl;exact mx_rbr _ r
def edR(a b:List UInt8)(c d i:Nat):List Int:=(oM (b.length+1)).map fun j=>if c≤i∨(i+1=c∧d≤j) then((edI a b i j:Nat):Int) else 0
def edM(a b:List UInt8)(c d:Nat):List (List Int):=(oM (a.length+1)).map (edR a b c d)
theorem lz(a b:List UInt8)(c d i:Nat):(edR a b c d i).length=b.length+1:=by simp[edR]
theorem dY(a b:List UInt8)(c d:Nat):(edM a b c d).length=a.length+1:=by simp[edM]
theorem jv{a b:List UInt8}{c d i:Nat}(h:i<a.length+1):(edM a b c d)[i]?=some (edR a b c d i):=by
 unfold edM;rw[oc,qZ h];rfl
theorem mA{a b:List UInt8}{c d i j:Nat}(h:j<b.length+1)(h2:c≤i∨(i+1=c∧d≤j)):(edR a b c d i)[j]?=some ((edI a b i j:Nat):Int):=by
 unfold edR;rw[oc,qZ h];simp only[pB];rw[if_pos h2]
theorem edM_start(a b:List UInt8):edM a b (a.length+1) (b.length+1)=oE (a.length+1) (oE (b.length+1) 0):=by
 apply pw
 ·simp[edM]
 ·intro i h1 h2;simp only[edM,qM,qT,List.getElem_replicate];apply pw
  ·simp[edR]
  ·intro j h3 h4;simp only[edR,qM,qT,List.getElem_replicate];rw[dY]at h1;rw[lz]at h3;rw[if_neg (by omega)]
theorem edM_next(a b:List UInt8)(c:Nat):edM a b (c+1) 0=edM a b c (b.length+1):=by
 unfold edM;apply oo;intro i hi;unfold edR;apply oo;intro j hj;rw[qK]at hi hj;show(if c+1≤i∨(i+1=c+1∧0≤j) then((edI a b i j:Nat):Int) else 0)=(if c≤i∨(i+1=c∧b.length+1≤j) then((edI a b i j:Nat):Int) else 0);by_cases h:c≤i
 ·have h1:c+1≤i∨(i+1=c+1∧0≤j):=by omega
  rw[if_pos h1,if_pos (.inl h)]
 ·have h1:¬(c+1≤i∨(i+1=c+1∧0≤j)):=by omega
  have h2:¬(c≤i∨(i+1=c∧b.length+1≤j)):=by omega
  rw[if_neg h1,if_neg h2]
theorem edR_at{a b:List UInt8}{c d i j:Nat}(h:j<(edR a b c d i).length):(edR a b c d i)[j]'h=if c≤i∨(i+1=c∧d≤j) then((edI a b i j:Nat):Int) else 0:=by simp[edR]
theorem edM_at{a b:List UInt8}{c d i:Nat}(h:i<(edM a b c d).length):(edM a b c d)[i]'h=edR a b c d i:=by simp[edM]
theorem edM_set{a b:List UInt8}{i j:Nat}{v:Int}(hi:i<a.length+1)(hj:j<b.length+1)(hv:v=((edI a b i j:Nat):Int)):(edM a b (i+1) (j+1)).set i ((edR a b (i+1) (j+1) i).set j v)=edM a b (i+1) j:=by
 apply pw
 ·simp[edM]
 ·intro t h1 h2;simp only[rF,edM_at];by_cases ht:i=t
  ·subst ht;rw[if_pos rfl];apply pw
   ·simp[edR]
   ·intro k h3 h4;simp only[rF,edR_at];by_cases hk:j=k
    ·subst hk;have h5:i+1≤i∨(True∧j≤j):=.inr ⟨trivial,oJ _⟩;rw[if_pos rfl,if_pos h5,hv]
    ·rw[if_neg hk];by_cases h5:j+1≤k
     ·have h6:i+1≤i∨(True∧j+1≤k):=.inr ⟨trivial,h5⟩;have h7:i+1≤i∨(True∧j≤k):=.inr ⟨trivial,by omega⟩;rw[if_pos h6,if_pos h7]
     ·have h6:¬(i+1≤i∨(True∧j+1≤k)):=by omega
      have h7:¬(i+1≤i∨(True∧j≤k)):=by omega
      rw[if_neg h6,if_neg h7]
  ·rw[if_neg ht];apply pw
   ·simp[edR]
   ·intro k h3 h4;rw[edR_at,edR_at];by_cases h5:i+1≤t
    ·rw[if_pos (.inl h5),if_pos (.inl h5)]
    ·have h6:¬(i+1≤t∨(t+1=i+1∧j+1≤k)):=by omega
     have h7:¬(i+1≤t∨(t+1=i+1∧j≤k)):=by omega
     rw[if_neg h6,if_neg h7]
theorem encI_set(r:List Int)(j:Nat)(v:Int):(r.map aQ).set j (.int .i64 v)=(r.set j v).map aQ:=by rw[qw];rfl
theorem mC{A:B}{a b:List UInt8}{i j:Nat}{v:Int}(hi:i<a.length+1)(hj:j<b.length+1)(hv:v=((edI a b i j:Nat):Int)):A::(mxB (edM a b (i+1) (j+1))).set i (.buf 3 1 (((edR a b (i+1) (j+1) i).map aQ).set j (.int .i64 v)) false)=A::mxB (edM a b (i+1) j)++[]:=by
 rw[encI_set,mxB_set,edM_set hi hj hv,oU]
theorem dists_u(a b:List UInt8)(ha:a.length≤200)(hb:b.length≤200):aJ Tryz.prog 328 [.str (bs a),.str (bs b)] fun r=>r = .lst 1 false ((edM a b 0 (b.length+1)).map (L1 false)):=by
 obtain⟨n1,hn1⟩:∃n1,n1=a.length+1:=⟨_,rfl⟩;obtain⟨m1,hm1⟩:∃m1,m1=b.length+1:=⟨_,rfl⟩
 have hwn:IntKind.i64.wrap ((a.length:Int)+1)=(n1:Int):=by rw[aP _ (by omega)];omega
 have hwm:IntKind.i64.wrap ((b.length:Int)+1)=(m1:Int):=by rw[aP _ (by omega)];omega
 have k1:(24:Int)*(n1:Int)≤281474976710656:=by omega
 have k2:(8:Int)*(m1:Int)≤281474976710656:=by omega
 have k3:(n1:Int)≤9223372036854775807:=by omega
 have k4:(m1:Int)≤9223372036854775807:=by omega
 refine au (aE tok Tryz.func328 rfl rfl ?_);refine wx ?_;simp -dsimp[Tryz.f328,oE,bW,hwn,k1,k3];refine aI (W_loopM 26 0x3ff8040 (by simp[mB]<;>rfl) (σ:=Nat) (fun i=>i≤n1) (fun i=>n1-i) (fun i=>[(15,.int .i64 i)]) (fun i=>B.buf 26 1 (mxA m1 n1 i) false::mxB (oE i (oE m1 0))) 0 (by omega) (by simp) (by simp[mxA_zero,mxB]) (by simp) ?_);rintro i hi N Q hN hQ;by_cases hb0:i<n1
 ·have hL:=ll m1 n1 i;have hs:=mxA_set (m:=m1) hb0
  have hz:∀h,(mxA m1 n1 i)[i]'h = .nilS:=fun h=>by simp[mxA]
  refine wx ?_;simp -dsimp[hb0,bW,hwm,k2,k4,hL,jd,hz];simp -dsimp[aP i (by omega)];refine hN (i+1) _ _ (by omega) (by omega) ?_ ⟨[],?_⟩ ?_ ?_
  ·simp
  ·rw[hs,List.replicate_succ',←mxB_snoc];simp[aQ]
  ·simp
  ·exact mx_rb (by simp)
 ·obtain rfl:i=n1:=by omega
  have hst:mxB (oE i (oE m1 0))=mxB (edM a b i m1):=by rw[hn1,hm1,edM_start]
  refine wx ?_;simp -dsimp[hb0];refine hQ _ _ _ ?_;simp -dsimp[bW];refine aI (W_loopM 124 0xffffffffffffffffffffffff0000180 (by simp[mB]<;>rfl) (σ:=Nat) (fun c=>c≤i) (fun c=>c) (fun c=>[(7,.int .i64 ((c:Int)-1))]) (fun c=>B.buf 26 1 (mxA m1 i i) false::mxB (edM a b c m1)) i (oJ _) (by simp[hn1]) (by rw[hst]) (by simp[jd,dY,hn1]) ?_);rintro c hc N2 Q2 hN2 hQ2
  rcases c with _ | r
  ·refine wx ?_;simp -dsimp[];refine hQ2 _ _ _ ?_;simp -dsimp[];rw[←hm1];have hl:=ll m1 i i
   have h:=ExpX.bufx (H:=B.buf 26 1 (mxA m1 i i) false::mxB (edM a b 0 m1)) 0 26 1 (mxA m1 i i) ((edM a b 0 m1).map (L1 false)) false rfl (by rw[hl,oW,dY,hn1]) (fun t c d h1 h2=>by
    have ht:t<i:=by have:=aB h1;omega
    rw[mxA_get ht (oJ _)]at h1;cases h1;rw[oc,jv (by omega)]at h2;simp only[pB,Option.some.injEq]at h2;subst h2;have h3:=ExpX.buf (H:=B.buf 26 1 (mxA m1 i i) false::mxB (edM a b 0 m1)) (t+1) 3 1 ((edR a b 0 m1 t).map aQ) false (by rw[pL];exact mxB_get (jv (by omega))) (fun x hx=>by obtain⟨y,_,rfl⟩:=List.mem_map.1 hx;simp[aQ]);rw[oW,lz,←hm1]at h3
    exact h3)
   rw[hl]at h;exact h
  ·have hAg:=mxA_get (m:=m1) (n:=i) (i:=i) (t:=r) (by omega) (oJ _)
   have hAe:∀h,(mxA m1 i i)[r]'h = .buf (r+1) 0 m1 m1:=fun h=>(List.getElem?_eq_some_iff.1 hAg).2
   have hAl:=ll m1 i i
   have hr0:(0:Int)≤(r:Int):=by omega
   have hri:r<i:=by omega
   have hrii:(r:Int)<(i:Int):=by omega
   refine wx ?_;simp -dsimp[bW,hr0];refine aI (W_loopM 124 0xffffffffffffffffffffffc00000100 (by simp[mB]<;>rfl) (σ:=Nat) (fun d=>d≤m1) (fun d=>d) (fun d=>[(8,.int .i64 ((d:Int)-1))]) (fun d=>B.buf 26 1 (mxA m1 i i) false::mxB (edM a b (r+1) d)) m1 (oJ _) (by simp[hm1]) rfl (by simp[jd,dY,hn1]) ?_);rintro d hd N3 Q3 hN3 hQ3
   rcases d with _ | j
   ·refine wx ?_;simp -dsimp[];refine hQ3 _ _ _ ?_;simp -dsimp[];refine hN2 r _ _ (by omega) (by omega) ?_ ⟨[],?_⟩ ?_ ?_
    ·simp[wrap64 (n:=(r:Int)-1) (by omega) (by omega)]
    ·rw[edM_next,←hm1];simp
    ·simp
    ·exact mx_rb (by rw[dY,hn1];exact oJ _)
   ·have hj0:(0:Int)≤(j:Int):=by omega
    have hjm:(j:Int)<(m1:Int):=by omega
    have hjm2:j<m1:=by omega
    have hRg:(mxB (edM a b (r+1) (j+1)))[r]?=some (.buf 3 1 ((edR a b (r+1) (j+1) r).map aQ) false):=mxB_get (jv (by omega))
    have hRe:∀h,(mxB (edM a b (r+1) (j+1)))[r]'h = .buf 3 1 ((edR a b (r+1) (j+1) r).map aQ) false:=fun h=>(List.getElem?_eq_some_iff.1 hRg).2
    have hRl:(mxB (edM a b (r+1) (j+1))).length=i:=by rw[jd,dY,hn1]
    have hrl:=lz a b (r+1) (j+1) r;rw[←hm1]at hrl;by_cases h1:r=a.length
    ·subst h1
     have hv:IntKind.i64.wrap ((b.length:Int)-(j:Int))=((edI a b a.length j:Nat):Int):=by rw[edI_left,wrap64 (by omega) (by omega)];omega
     have hst2:=edM_set (a:=a) (b:=b) (i:=a.length) (j:=j) (v:=((edI a b a.length j:Nat):Int)) (by omega) (by omega) rfl;have hw:IntKind.i64.wrap ((j:Int)-1)=(j:Int)-1:=wrap64 (by omega) (by omega);refine wx ?_;simp -dsimp[bW,hj0,hAg,hAe,hAl,hri,hrii,hr0,hjm,hjm2,hRg,hRe,hRl,hrl,hv];simp -dsimp[hw];refine hN3 j _ _ (by omega) (by omega) ?_ ⟨[],?_⟩ ?_ ?_
     ·simp
     ·exact mC (by omega) (by omega) rfl
     ·simp
     ·exact mx_rb (by rw[dY,hn1];exact oJ _)
    ·have hra:r<a.length:=by omega
     have h1i:¬(r:Int)=(a.length:Int):=by omega
     have hw:IntKind.i64.wrap ((j:Int)-1)=(j:Int)-1:=wrap64 (by omega) (by omega);by_cases h2:j=b.length
     ·subst h2
      have hv:IntKind.i64.wrap ((a.length:Int)-(r:Int))=((edI a b r b.length:Nat):Int):=by rw[edI_right,wrap64 (by omega) (by omega)];omega
      refine wx ?_;simp -dsimp[bW,hj0,h1,h1i,hAg,hAe,hAl,hri,hrii,hr0,hjm,hjm2,hRg,hRe,hRl,hrl,hv];simp -dsimp[hw];refine hN3 b.length _ _ (by omega) (by omega) ?_ ⟨[],?_⟩ ?_ ?_
      ·simp
      ·exact mC (by omega) (by omega) rfl
      ·simp
      ·exact mx_rb (by rw[dY,hn1];exact oJ _)
     ·have hjb:j<b.length:=by omega
      have h2i:¬(j:Int)=(b.length:Int):=by omega
      have hwr:IntKind.i64.wrap ((r:Int)+1)=(r:Int)+1:=aP r (by omega);have hwj:IntKind.i64.wrap ((j:Int)+1)=(j:Int)+1:=aP j (by omega)
      have hr1:(0:Int)≤(r:Int)+1:=by omega
      have hj1:(0:Int)≤(j:Int)+1:=by omega
      have hr1i:r+1<i:=by omega
      have hr1ii:(r:Int)+1<(i:Int):=by omega
      have hj1m:j+1<m1:=by omega
      have hj1mm:(j:Int)+1<(m1:Int):=by omega
      have hBg:=mxA_get (m:=m1) (n:=i) (i:=i) (t:=r+1) (by omega) (oJ _)
      have hBe:∀h,(mxA m1 i i)[r+1]'h = .buf (r+1+1) 0 m1 m1:=fun h=>(List.getElem?_eq_some_iff.1 hBg).2
      have hSg:(mxB (edM a b (r+1) (j+1)))[r+1]?=some (.buf 3 1 ((edR a b (r+1) (j+1) (r+1)).map aQ) false):=mxB_get (jv (by omega))
      have hSe:∀h,(mxB (edM a b (r+1) (j+1)))[r+1]'h = .buf 3 1 ((edR a b (r+1) (j+1) (r+1)).map aQ) false:=fun h=>(List.getElem?_eq_some_iff.1 hSg).2
      have hsl:=lz a b (r+1) (j+1) (r+1);rw[←hm1]at hsl;have v1:(edR a b (r+1) (j+1) (r+1))[j+1]?=some ((edI a b (r+1) (j+1):Nat):Int):=mA (by omega) (.inl (oJ _));have v2:(edR a b (r+1) (j+1) (r+1))[j]?=some ((edI a b (r+1) j:Nat):Int):=mA (by omega) (.inl (oJ _));have v3:(edR a b (r+1) (j+1) r)[j+1]?=some ((edI a b r (j+1):Nat):Int):=mA (by omega) (.inr ⟨rfl,oJ _⟩)
      have e1:∀h,(edR a b (r+1) (j+1) (r+1))[j+1]'h=((edI a b (r+1) (j+1):Nat):Int):=fun h=>(List.getElem?_eq_some_iff.1 v1).2
      have e2:∀h,(edR a b (r+1) (j+1) (r+1))[j]'h=((edI a b (r+1) j:Nat):Int):=fun h=>(List.getElem?_eq_some_iff.1 v2).2
      have e3:∀h,(edR a b (r+1) (j+1) r)[j+1]'h=((edI a b r (j+1):Nat):Int):=fun h=>(List.getElem?_eq_some_iff.1 v3).2
      obtain⟨x,hx⟩:∃x,x=a[r]:=⟨_,rfl⟩;obtain⟨y,hy⟩:∃y,y=b[j]:=⟨_,rfl⟩;have hx':=hx.symm;have hy':=hy.symm;by_cases h3:x=y
      ·have hv:=edI_same hra hjb (by rw[hx',hy',h3]);subst h3;refine wx ?_;simp -dsimp[bW,bs_get,hj0,h1,h1i,h2,h2i,hra,hjb,hx',hy',hr0];refine .inr ⟨aS (by kernel_rfl),?_⟩;refine aI (aX tok mixed [15] [] [] (by kernel_rfl) fun C K hC hK=>?_);simp -implicitDefEqProofs [hj0,hr0,hAg,hAe,hAl,hri,hrii,hjm,hjm2,hRg,hRe,hRl,hrl,hwr,hwj,hr1,hj1,hr1i,hr1ii,hj1m,hj1mm,hBg,hBe,hSg,hSe,hsl,v1,e1,aQ];refine hK _ _ ?_;simp -dsimp[hw];refine hN3 j _ _ (by omega) (by omega) ?_ ⟨[],?_⟩ ?_ ?_
       ·simp
       ·exact mC (by omega) (by omega) (by rw[hv])
       ·simp
       ·exact mx_rb (by rw[dY,hn1];exact oJ _)
      ·have hv:=edI_diff hra hjb (by rw[hx',hy'];exact h3);have hxy:¬(x.toNat:Int)=(y.toNat:Int):=ne_toI h3;have hle:=edI_le a b r j;refine wx ?_;simp -dsimp[bW,bs_get,hj0,h1,h1i,h2,h2i,hra,hjb,hx',hy',hr0,hxy];refine .inr ⟨aS (by kernel_rfl),?_⟩;refine aI (aX tok mixed [33] [] [] (by kernel_rfl) fun C K hC hK=>?_);simp -implicitDefEqProofs [hj0,hr0,hAg,hAe,hAl,hri,hrii,hjm,hjm2,hRg,hRe,hRl,hrl,hwr,hwj,hr1,hj1,hr1i,hr1ii,hj1m,hj1mm,hBg,hBe,hSg,hSe,hsl,v1,e1,v2,e2,v3,e3,aQ];refine hK _ _ ?_;simp -dsimp[hw];refine hN3 j _ _ (by omega) (by omega) ?_ ⟨[],?_⟩ ?_ ?_
       ·simp
       ·exact mC (by omega) (by omega) (by refine Eq.trans (wrap64 ?_ ?_) ?_<;>(repeat' split)<;>omega)
       ·simp
       ·exact mx_rb (by rw[dY,hn1];exact oJ _)
theorem wrapU{n:Int}(h0:0≤n)(h1:n<18446744073709551616):IntKind.u64.wrap n=n:=by
 rw[IntKind.wrap_u64];omega
theorem abs_u(n:Nat)(h:n<9223372036854775808):aJ Tryz.prog 333 [.int .i64 (n:Int)] fun r=>r = .int .u64 (n:Int):=by
 have hn:¬(n:Int)<0:=by omega
 refine sPx Tryz.func333 rfl rfl ?_;simp -dsimp[Tryz.f333,oE,hn];simp -dsimp[wrapU (n:=(n:Int)) (by omega) (by omega)]
theorem gcd_u(a b:Nat)(ha:a<9223372036854775808)(hb:b<9223372036854775808):aJ Tryz.prog 334 [.int .u64 (a:Int),.int .u64 (b:Int)] fun r=>r = .int .u64 ((qo a b:Nat):Int):=by
 obtain⟨E,hE⟩:∃E,E=qo a b:=⟨_,rfl⟩;rw[←hE];refine sPx Tryz.func334 rfl rfl ?_;simp -dsimp[Tryz.f334,oE];refine aI (W_loopM 11 2019 (by simp[mB]<;>rfl) (σ:=Nat×Nat) (fun p=>qo p.1 p.2=E∧p.1<9223372036854775808∧p.2<9223372036854775808) (fun p=>p.2) (fun p=>[(0,.int .u64 (p.1:Int)),(1,.int .u64 (p.2:Int))]) (fun _=>[]) (a,b) ⟨hE.symm,ha,hb⟩ (by simp) rfl (by simp) ?_);rintro⟨x,y⟩ ⟨h1,h2,h3⟩ N Q hN hQ;simp only at h1 h2 h3;by_cases hy:0<y
 ·have hyi:(0:Int)<(y:Int):=by omega
  have hy0:¬(y:Int)=0:=by omega
  have hyn:¬y=0:=by omega
  have hm:((x:Int).tmod (y:Int))=((x % y:Nat):Int):=by rw[Int.tmod_eq_emod_of_nonneg (by omega)];rfl
  have hlt:=ro x hy;refine wx ?_;simp -dsimp[hyi,hy,hyn];refine .inr ⟨aS (by kernel_rfl),?_⟩;refine hN (y,x % y) _ _ ⟨?_,by simp only;omega,by simp only;omega⟩ (by simp only;omega) ?_ ⟨[],?_⟩ ?_ ?_
  ·simp only;rw[←h1,Nat.gcd_comm x y,Nat.gcd_rec y x];exact Nat.gcd_comm _ _
  all_goals simp[Int.tmod_eq_emod_of_nonneg]
 ·have hy0:y=0:=by omega
  subst hy0;refine wx ?_;simp -dsimp[];refine hQ _ _ _ ?_;simp -dsimp[];rw[←h1];simp
theorem of_u(n d:Nat)(hn:n<9223372036854775808)(hd:d<9223372036854775808):aJ Tryz.prog 335 [.bool false,.int .u64 (n:Int),.int .u64 (d:Int)] fun r=>r = .tup [.agg [.int .i64 (n:Int),.int .i64 (d:Int)],.int .i64 0]:=by
 have h1:¬(9223372036854775807:Int)<(n:Int):=by omega
 have h2:¬(9223372036854775807:Int)<(d:Int):=by omega
 have h3:IntKind.i64.wrap (n:Int)=(n:Int):=wrap64 (by omega) (by omega);have h4:IntKind.i64.wrap (d:Int)=(d:Int):=wrap64 (by omega) (by omega);refine sPx Tryz.func335 rfl rfl ?_;simp -dsimp[Tryz.f335,oE,h1,h2,h3,h4]
theorem make_u(n d:Nat)(hn:n<9223372036854775808)(hd:d<9223372036854775808)(hp:0<d):aJ Tryz.prog 284 [.int .i64 (n:Int),.int .i64 (d:Int)] fun r=>r = .tup [.agg [.int .i64 ((n / qo n d:Nat):Int),.int .i64 ((d / qo n d:Nat):Int)],.int .i64 0]:=by
 have c1:=abs_u n hn;have c2:=abs_u d hd;have c3:=gcd_u n d hn hd;have hg:0<qo n d:=Nat.gcd_pos_of_pos_right n hp;have q1:=rn n (qo n d);have q2:=rn d (qo n d);have c4:=of_u (n / qo n d) (d / qo n d) (by omega) (by omega);obtain⟨g,hge⟩:∃g,g=qo n d:=⟨_,rfl⟩;rw[←hge]at c3 c4 hg q1 q2 ⊢
 have h1:¬(n:Int)<0:=by omega
 have h2:¬(d:Int)<0:=by omega
 have h3:¬d=0:=by omega
 have h4:¬g=0:=by omega
 have w1:IntKind.u64.wrap ((n:Int) / (g:Int))=(n:Int) / (g:Int):=by rw[←ra];exact wrapU (Int.natCast_nonneg _) (by omega)
 have w2:IntKind.u64.wrap ((d:Int) / (g:Int))=(d:Int) / (g:Int):=by rw[←ra];exact wrapU (Int.natCast_nonneg _) (by omega)
 rw[ra,ra]at c4 ⊢;refine sPx Tryz.func284 rfl rfl ?_;simp -dsimp[Tryz.f284,oE,h3];refine cPx (c1) (by simp) ?_;simp -dsimp[];refine cPx (c2) (by simp) ?_;simp -dsimp[];refine cPx (c3) (by simp) ?_;simp -dsimp[];refine aI (aX tok mixed [14] [] [(.tup [.agg [.int .i64 ((n:Int) / (g:Int)),.int .i64 ((d:Int) / (g:Int))],.int .i64 0],[])] (by kernel_rfl) fun C K hC hK=>?_);simp -implicitDefEqProofs [h1,h2,h4,eK,eqA,w1,w2];refine⟨hC _ _ _ _ (aT c4 (by simp)),hK _ _ ?_⟩;simp -dsimp[]
def ixP{α:Type}(p:α→Bool)(es:List α)(i:Nat):Int:=if h:i<es.length then(if p es[i] then(i:Int) else ixP p es (i+1)) else -1
termination_by es.length-i
theorem lq{α:Type}(p:α→Bool)(es:List α)(i:Nat):decide (0≤ixP p es i)=(es.drop i).any p:=by
 fun_induction ixP p es i with
 | case1 i h h0=>rw[oK h,qW,h0];simp
 | case2 i h h0 ih=>rw[oK h,qW,ih];simp[h0]
 | case3 i h=>rw[oV (by omega)];rfl
theorem ix_I(H:List B)(fv:V)(p:Int→Bool)(es:List Int)(g:Bool)(hes:es.length≤1100000)(hH:∀bl∈H,rbB H.length bl)(hfv:rb H.length fv)
  (hp:∀m∈es,aL Tryz.prog fv [V.int .i64 m] H fun r H'=>r = .bool (p m)∧H'=H):aU Tryz.prog 107 [L1 g es,fv] H fun r H'=>r = .int .i64 (ixP p es 0)∧H'=H:=by
 refine aE tok Tryz.func107 rfl rfl ?_;refine wx ?_;simp -dsimp[Tryz.f107,oE,L1];refine aI (W_loopM 19 0x7ff30 (by simp[mB]<;>rfl) (σ:=Nat) (fun i=>ixP p es i=ixP p es 0) (fun i=>es.length-i) (fun i=>[(8,.int .i64 i)]) (fun _=>H) 0 rfl (by simp) rfl (by simp) ?_);intro i hx N Q hN hQ;by_cases hb:i<es.length
 ·rw[ixP,dif_pos hb]at hx;have hc:=hp es[i] (oI hb);cases hq:p es[i]
  ·rw[hq]at hc hx;refine wx ?_;simp -dsimp[hb,aQ];refine hc.mono ?_;rintro r H' ⟨rfl,rfl⟩;simp -dsimp[aP i (by omega)];refine hN (i+1) _ _ (by simpa using hx) (by omega) (by simp) ⟨[],by simp⟩ (by simp;exact hfv) hH
  ·rw[hq]at hc hx;refine wx ?_;simp -dsimp[hb,aQ];refine hc.mono ?_;rintro r H' ⟨rfl,rfl⟩;simp -dsimp[];refine hQ _ _ _ ?_;simp -dsimp[];simpa using hx
 ·rw[ixP,dif_neg hb]at hx;refine wx ?_;simp -dsimp[hb];refine hQ _ _ _ ?_;simp -dsimp[];simpa using hx
theorem nb(H:List B)(fv:V)(p:Int→Bool)(es:List Int)(g:Bool)(hes:es.length≤1100000)(hH:∀bl∈H,rbB H.length bl)(hfv:rb H.length fv)
  (hp:∀m∈es,aL Tryz.prog fv [V.int .i64 m] H fun r H'=>r = .bool (p m)∧H'=H):aU Tryz.prog 49 [L1 g es,fv] H fun r H'=>r = .bool (es.any p)∧H'=H:=by
 have h0:=lq p es 0;rw[pC]at h0;have hc:=ix_I H fv p es g hes hH hfv hp;refine aE tok Tryz.func49 rfl rfl ?_;refine wx ?_;simp -dsimp[Tryz.f49,oE];refine aL.mono (K:=fun r H'=>r = .int .i64 (ixP p es 0)∧H'=H) hc ?_;rintro r H' ⟨rfl,rfl⟩;simp -dsimp[];rw[←h0]
theorem ix_R(H:List B)(fv:V)(p:Rw→Bool)(es:List Rw)(g:Bool)(hes:es.length≤1000000)(hH:∀bl∈H,rbB H.length bl)(hfv:rb H.length fv)
  (hp:∀m∈es,aL Tryz.prog fv [aC m] H fun r H'=>r = .bool (p m)∧H'=H):aU Tryz.prog 73 [LR g es,fv] H fun r H'=>r = .int .i64 (ixP p es 0)∧H'=H:=by
 refine aE tok Tryz.func73 rfl rfl ?_;refine wx ?_;simp -dsimp[Tryz.f73,oE,LR];refine aI (W_loopM 19 0x7ff30 (by simp[mB]<;>rfl) (σ:=Nat) (fun i=>ixP p es i=ixP p es 0) (fun i=>es.length-i) (fun i=>[(8,.int .i64 i)]) (fun _=>H) 0 rfl (by simp) rfl (by simp) ?_);intro i hx N Q hN hQ;by_cases hb:i<es.length
 ·rw[ixP,dif_pos hb]at hx;have hc:=hp es[i] (oI hb);cases hq:p es[i]
  ·rw[hq]at hc hx;refine wx ?_;simp -dsimp[hb];refine hc.mono ?_;rintro r H' ⟨rfl,rfl⟩;simp -dsimp[aP i (by omega)];refine hN (i+1) _ _ (by simpa using hx) (by omega) (by simp) ⟨[],by simp⟩ (by simp;exact hfv) hH
  ·rw[hq]at hc hx;refine wx ?_;simp -dsimp[hb];refine hc.mono ?_;rintro r H' ⟨rfl,rfl⟩;simp -dsimp[];refine hQ _ _ _ ?_;simp -dsimp[];simpa using hx
 ·rw[ixP,dif_neg hb]at hx;refine wx ?_;simp -dsimp[hb];refine hQ _ _ _ ?_;simp -dsimp[];simpa using hx
theorem cont_R(H:List B)(fv:V)(p:Rw→Bool)(es:List Rw)(g:Bool)(hes:es.length≤1000000)(hH:∀bl∈H,rbB H.length bl)(hfv:rb H.length fv)
  (hp:∀m∈es,aL Tryz.prog fv [aC m] H fun r H'=>r = .bool (p m)∧H'=H):aU Tryz.prog 109 [LR g es,fv] H fun r H'=>r = .bool (es.any p)∧H'=H:=by
 have h0:=lq p es 0;rw[pC]at h0;have hc:=ix_R H fv p es g hes hH hfv hp;refine aE tok Tryz.func109 rfl rfl ?_;refine wx ?_;simp -dsimp[Tryz.f109,oE];refine aL.mono (K:=fun r H'=>r = .int .i64 (ixP p es 0)∧H'=H) hc ?_;rintro r H' ⟨rfl,rfl⟩;simp -dsimp[];rw[←h0]
theorem ix_S(H:List B)(fv:V)(p:ByteArray→Bool)(es:List ByteArray)(g:Bool)(hes:es.length≤2000000)(hH:∀bl∈H,rbB H.length bl)(hfv:rb H.length fv)
  (hp:∀m∈es,aL Tryz.prog fv [V.str m] H fun r H'=>r = .bool (p m)∧H'=H):aU Tryz.prog 354 [LS g es,fv] H fun r H'=>r = .int .i64 (ixP p es 0)∧H'=H:=by
 refine aE tok Tryz.func354 rfl rfl ?_;refine wx ?_;simp -dsimp[Tryz.f354,oE,LS];refine aI (W_loopM 19 0x7ff30 (by simp[mB]<;>rfl) (σ:=Nat) (fun i=>ixP p es i=ixP p es 0) (fun i=>es.length-i) (fun i=>[(8,.int .i64 i)]) (fun _=>H) 0 rfl (by simp) rfl (by simp) ?_);intro i hx N Q hN hQ;by_cases hb:i<es.length
 ·rw[ixP,dif_pos hb]at hx;have hc:=hp es[i] (oI hb);cases hq:p es[i]
  ·rw[hq]at hc hx;refine wx ?_;simp -dsimp[hb];refine hc.mono ?_;rintro r H' ⟨rfl,rfl⟩;simp -dsimp[aP i (by omega)];refine hN (i+1) _ _ (by simpa using hx) (by omega) (by simp) ⟨[],by simp⟩ (by simp;exact hfv) hH
  ·rw[hq]at hc hx;refine wx ?_;simp -dsimp[hb];refine hc.mono ?_;rintro r H' ⟨rfl,rfl⟩;simp -dsimp[];refine hQ _ _ _ ?_;simp -dsimp[];simpa using hx
 ·rw[ixP,dif_neg hb]at hx;refine wx ?_;simp -dsimp[hb];refine hQ _ _ _ ?_;simp -dsimp[];simpa using hx
theorem cont_S(H:List B)(fv:V)(p:ByteArray→Bool)(es:List ByteArray)(g:Bool)(hes:es.length≤2000000)(hH:∀bl∈H,rbB H.length bl)(hfv:rb H.length fv)
  (hp:∀m∈es,aL Tryz.prog fv [V.str m] H fun r H'=>r = .bool (p m)∧H'=H):aU Tryz.prog 329 [LS g es,fv] H fun r H'=>r = .bool (es.any p)∧H'=H:=by
 have h0:=lq p es 0;rw[pC]at h0;have hc:=ix_S H fv p es g hes hH hfv hp;refine aE tok Tryz.func329 rfl rfl ?_;refine wx ?_;simp -dsimp[Tryz.f329,oE];refine aL.mono (K:=fun r H'=>r = .int .i64 (ixP p es 0)∧H'=H) hc ?_;rintro r H' ⟨rfl,rfl⟩;simp -dsimp[];rw[←h0]
theorem ix_M(H:List B)(fv:V)(p:Sim→Bool)(es:List Sim)(g:Bool)(hes:es.length≤2000000)(hH:∀bl∈H,rbB H.length bl)(hfv:rb H.length fv)
  (hp:∀m∈es,aL Tryz.prog fv [bD m] H fun r H'=>r = .bool (p m)∧H'=H):aU Tryz.prog 237 [LSm g es,fv] H fun r H'=>r = .int .i64 (ixP p es 0)∧H'=H:=by
 refine aE tok Tryz.func237 rfl rfl ?_;refine wx ?_;simp -dsimp[Tryz.f237,oE,LSm];refine aI (W_loopM 19 0x7ff30 (by simp[mB]<;>rfl) (σ:=Nat) (fun i=>ixP p es i=ixP p es 0) (fun i=>es.length-i) (fun i=>[(8,.int .i64 i)]) (fun _=>H) 0 rfl (by simp) rfl (by simp) ?_);intro i hx N Q hN hQ;by_cases hb:i<es.length
 ·rw[ixP,dif_pos hb]at hx;have hc:=hp es[i] (oI hb);cases hq:p es[i]
  ·rw[hq]at hc hx;refine wx ?_;simp -dsimp[hb];refine hc.mono ?_;rintro r H' ⟨rfl,rfl⟩;simp -dsimp[aP i (by omega)];refine hN (i+1) _ _ (by simpa using hx) (by omega) (by simp) ⟨[],by simp⟩ (by simp;exact hfv) hH
  ·rw[hq]at hc hx;refine wx ?_;simp -dsimp[hb];refine hc.mono ?_;rintro r H' ⟨rfl,rfl⟩;simp -dsimp[];refine hQ _ _ _ ?_;simp -dsimp[];simpa using hx
 ·rw[ixP,dif_neg hb]at hx;refine wx ?_;simp -dsimp[hb];refine hQ _ _ _ ?_;simp -dsimp[];simpa using hx
theorem cont_M(H:List B)(fv:V)(p:Sim→Bool)(es:List Sim)(g:Bool)(hes:es.length≤2000000)(hH:∀bl∈H,rbB H.length bl)(hfv:rb H.length fv)
  (hp:∀m∈es,aL Tryz.prog fv [bD m] H fun r H'=>r = .bool (p m)∧H'=H):aU Tryz.prog 169 [LSm g es,fv] H fun r H'=>r = .bool (es.any p)∧H'=H:=by
 have h0:=lq p es 0;rw[pC]at h0;have hc:=ix_M H fv p es g hes hH hfv hp;refine aE tok Tryz.func169 rfl rfl ?_;refine wx ?_;simp -dsimp[Tryz.f169,oE];refine aL.mono (K:=fun r H'=>r = .int .i64 (ixP p es 0)∧H'=H) hc ?_;rintro r H' ⟨rfl,rfl⟩;simp -dsimp[];rw[←h0]
theorem ix_Q(H:List B)(fv:V)(p:(List Sim)→Bool)(es:List (List Sim))(g:Bool)(hes:es.length≤2000000)(hH:∀bl∈H,rbB H.length bl)(hfv:rb H.length fv)
  (hp:∀m∈es,aL Tryz.prog fv [LSm false m] H fun r H'=>r = .bool (p m)∧H'=H):aU Tryz.prog 167 [LQm g es,fv] H fun r H'=>r = .int .i64 (ixP p es 0)∧H'=H:=by
 refine aE tok Tryz.func167 rfl rfl ?_;refine wx ?_;simp -dsimp[Tryz.f167,oE,LQm];refine aI (W_loopM 19 0x7ff30 (by simp[mB]<;>rfl) (σ:=Nat) (fun i=>ixP p es i=ixP p es 0) (fun i=>es.length-i) (fun i=>[(8,.int .i64 i)]) (fun _=>H) 0 rfl (by simp) rfl (by simp) ?_);intro i hx N Q hN hQ;by_cases hb:i<es.length
 ·rw[ixP,dif_pos hb]at hx;have hc:=hp es[i] (oI hb);cases hq:p es[i]
  ·rw[hq]at hc hx;refine wx ?_;simp -dsimp[hb];refine hc.mono ?_;rintro r H' ⟨rfl,rfl⟩;simp -dsimp[aP i (by omega)];refine hN (i+1) _ _ (by simpa using hx) (by omega) (by simp) ⟨[],by simp⟩ (by simp;exact hfv) hH
  ·rw[hq]at hc hx;refine wx ?_;simp -dsimp[hb];refine hc.mono ?_;rintro r H' ⟨rfl,rfl⟩;simp -dsimp[];refine hQ _ _ _ ?_;simp -dsimp[];simpa using hx
 ·rw[ixP,dif_neg hb]at hx;refine wx ?_;simp -dsimp[hb];refine hQ _ _ _ ?_;simp -dsimp[];simpa using hx
theorem long1(s:ByteArray):aJ Tryz.prog 330 [.str s] fun r=>r = .bool (decide (200<s.size)):=by
 by_cases h:200<s.size
 ·have h2:(200:Int)<(s.size:Int):=by omega
  refine sPx Tryz.func330 rfl rfl ?_;simp -dsimp[Tryz.f330,oE,h2,h]
 ·have h2:¬(200:Int)<(s.size:Int):=by omega
  refine sPx Tryz.func330 rfl rfl ?_;simp -dsimp[Tryz.f330,oE,h2,h]
theorem long_u(ss:List ByteArray)(f:Bool)(hl:ss.length≤2000000):aJ Tryz.prog 282 [LS f ss] fun r=>r = .bool (ss.any fun s=>decide (200<s.size)):=by
 have hc:=cont_S [] (.fn 330 []) (fun s=>decide (200<s.size)) ss f hl (by simp) (by simp) (fun m _=>aT (long1 m) (by simp));refine sPx Tryz.func282 rfl rfl ?_;simp -dsimp[Tryz.f282,oE];refine aL.mono (K:=fun r H'=>r = .bool (ss.any fun s=>decide (200<s.size))∧H'=[]) hc ?_;rintro r H' ⟨rfl,rfl⟩;simp -dsimp[]
theorem dist_u(a b:List UInt8)(ha:a.length≤200)(hb:b.length≤200):aJ Tryz.prog 281 [.str (bs a),.str (bs b)] fun r=>r = .tup [.int .i64 (ed a b:Nat),.int .i64 0]:=by
 have c1:=long_u [bs a,bs b] true (by simp)
 have e1:[bs a,bs b].any (fun s=>decide (200<s.size))=false:=by simp[bW];omega
 rw[e1]at c1;have c2:=dists_u a b ha hb;have g1:(edM a b 0 (b.length+1))[0]?=some (edR a b 0 (b.length+1) 0):=jv (by omega);have g2:(edR a b 0 (b.length+1) 0)[0]?=some ((ed a b:Nat):Int):=mA (by omega) (.inl (oJ _));obtain⟨M,hM⟩:∃M,M=edM a b 0 (b.length+1):=⟨_,rfl⟩;obtain⟨R,hR⟩:∃R,R=edR a b 0 (b.length+1) 0:=⟨_,rfl⟩;rw[←hM]at c2 g1;rw[←hR]at g1 g2;simp only[LS,oq,pJ]at c1;refine sPx Tryz.func281 rfl rfl ?_;simp -dsimp[Tryz.f281,oE];refine cPx (c1) (by simp) ?_;simp -dsimp[];refine cPx (c2) (by simp) ?_;simp -dsimp[g1,g2,L1,aQ]
theorem within_u(a b:List UInt8)(ha:a.length≤200)(hb:b.length≤200)(m:Int):aJ Tryz.prog 234 [.str (bs a),.str (bs b),.int .i64 m] fun r=>r = .tup [.bool (decide (((ed a b:Nat):Int)≤m)),.int .i64 0]:=by
 have c1:=dist_u a b ha hb;refine sPx Tryz.func234 rfl rfl ?_;simp -dsimp[Tryz.f234,oE];refine cPx (c1) (by simp) ?_;simp -dsimp[]
theorem shared_u(xs ys:List (List UInt8))(f g:Bool)(hx:xs.length≤1000000):aJ Tryz.prog 285 [.lst 1 f (xs.map fun p=>.str (bs p)),.lst 1 g (ys.map fun p=>.str (bs p))] fun r=>r = .int .i64 (shN xs ys:Nat):=by
 obtain⟨E,hE⟩:∃E,E=shN xs ys:=⟨_,rfl⟩;rw[←hE];have hle:=kQ xs ys;refine sPx Tryz.func285 rfl rfl ?_;simp -dsimp[Tryz.f285,oE];refine aI (W_loopM 38 0x3fffffffe3 (by simp[mB]<;>rfl) (σ:=List (List UInt8)×List (List UInt8)×Nat) (fun p=>shN p.1 p.2.1+p.2.2=E∧p.2.2+p.1.length≤xs.length) (fun p=>p.1.length+p.2.1.length) (fun p=>[(0,.lst 1 f (p.1.map fun p=>.str (bs p))),(1,.lst 1 g (p.2.1.map fun p=>.str (bs p))),(5,.int .i64 (p.2.2:Nat))]) (fun _=>[]) (xs,ys,0) ⟨by simp[hE],by simp⟩ (by simp) rfl (by simp) ?_);rintro⟨us,ws,n⟩ ⟨h1,h2⟩ N Q hN hQ;simp only at h1 h2
 cases us with
 | nil =>
  rw[shN]at h1;refine wx ?_;simp -dsimp[];refine hQ _ _ _ ?_;simp -dsimp[];omega
 | cons x us =>
  cases ws with
  | nil =>
   rw[shN]at h1;refine wx ?_;simp -dsimp[];refine hQ _ _ _ ?_;simp -dsimp[];omega
  | cons y ws =>
   have c1:=gZ (bs x) (bs y)
   have e1:jC (bs x) (bs y)=Lib.compareBytes x y:=by unfold jC;rw[cQ,cQ]
   rw[e1]at c1;obtain⟨k,hk⟩:∃k,k=Lib.compareBytes x y:=⟨_,rfl⟩;rw[shN,←hk]at h1;rw[←hk]at c1
   have q1:(0:Int)<(us.length:Int)+1:=by omega
   have q2:(0:Int)<(ws.length:Int)+1:=by omega
   have q3:1≤us.length+1:=by omega
   have q4:1≤ws.length+1:=by omega
   simp only[og]at h2
   have t1:qi us.length (us.map fun p=>V.str (bs p))=us.map fun p=>V.str (bs p):=pA (by simp)
   have t2:qi ws.length (ws.map fun p=>V.str (bs p))=ws.map fun p=>V.str (bs p):=pA (by simp)
   by_cases hk1:k<0
   ·rw[if_pos hk1]at h1;refine wx ?_;simp -dsimp[q1,q2];refine .inr ⟨aS (by kernel_rfl),?_⟩;refine az _ (aT (c1) (by simp)) ?_;simp -dsimp[hk1,q3,q4,t1,t2];refine hN (us,y::ws,n) _ _ ⟨h1,by simp only;omega⟩ (by simp only[og];omega) ?_ ⟨[],?_⟩ ?_ ?_<;>simp
   ·rw[if_neg hk1]at h1;by_cases hk2:0<k
    ·rw[if_pos hk2]at h1;refine wx ?_;simp -dsimp[q1,q2];refine .inr ⟨aS (by kernel_rfl),?_⟩;refine az _ (aT (c1) (by simp)) ?_;simp -dsimp[hk1,hk2,q3,q4,t1,t2];refine hN (x::us,ws,n) _ _ ⟨h1,by simp only[og];omega⟩ (by simp only[og];omega) ?_ ⟨[],?_⟩ ?_ ?_<;>simp
    ·rw[if_neg hk2]at h1;refine wx ?_;simp -dsimp[q1,q2];refine .inr ⟨aS (by kernel_rfl),?_⟩;refine az _ (aT (c1) (by simp)) ?_;simp -dsimp[hk1,hk2,q3,q4,t1,t2];refine .inr ⟨aS (by kernel_rfl),?_⟩;simp -dsimp[aP n (by omega)];refine hN (us,ws,n+1) _ _ ⟨by simp only;omega,by simp only;omega⟩ (by simp only[og];omega) ?_ ⟨[],?_⟩ ?_ ?_<;>simp
end
end Go.Proofs.YtdnhplencamncaaGreatDoor
namespace Go.Proofs.YtdnhplencamncaaGreatDoor
section
open Go
def lays190_ren:Go.Shelf.Ren:=⟨fun | 190=>332 | 125=>106 | 258=>360 | 128=>185 | 129=>186 | 302=>376 | 303=>377 | 304=>378 | 305=>379 | 306=>380 | 307=>381 | 308=>382 | 309=>383 | 310=>384 | 333=>390 | 329=>241 | 330=>242 | 334=>391 | 335=>392 | 336=>393 | 344=>395 | n=>n,fun | 31=>29 | 9=>9 | 3=>3 | 46=>201 | 0=>0 | 51=>58 | 53=>296 | 4=>4 | 183=>289 | 182=>288 | 131=>102 | 5=>5 | 218=>347 | 222=>351 | 228=>401 | 229=>402 | n=>n,fun | n=>n⟩
theorem lays190:Go.Proofs.Lays.n190 Tryz.prog lays190_ren:={
 mixed:=by kernel_rfl
 f125:=Tryz.func106.trans (congrArg some (by kernel_rfl))
 f128:=Tryz.func185.trans (congrArg some (by kernel_rfl))
 f129:=Tryz.func186.trans (congrArg some (by kernel_rfl))
 f190:=Tryz.func332.trans (congrArg some (by kernel_rfl))
 f258:=Tryz.func360.trans (congrArg some (by kernel_rfl))
 f302:=Tryz.func376.trans (congrArg some (by kernel_rfl))
 f303:=Tryz.func377.trans (congrArg some (by kernel_rfl))
 f304:=Tryz.func378.trans (congrArg some (by kernel_rfl))
 f305:=Tryz.func379.trans (congrArg some (by kernel_rfl))
 f306:=Tryz.func380.trans (congrArg some (by kernel_rfl))
 f307:=Tryz.func381.trans (congrArg some (by kernel_rfl))
 f308:=Tryz.func382.trans (congrArg some (by kernel_rfl))
 f309:=Tryz.func383.trans (congrArg some (by kernel_rfl))
 f310:=Tryz.func384.trans (congrArg some (by kernel_rfl))
 f329:=Tryz.func241.trans (congrArg some (by kernel_rfl))
 f330:=Tryz.func242.trans (congrArg some (by kernel_rfl))
 f333:=Tryz.func390.trans (congrArg some (by kernel_rfl))
 f334:=Tryz.func391.trans (congrArg some (by kernel_rfl))
 f335:=Tryz.func392.trans (congrArg some (by kernel_rfl))
 f336:=Tryz.func393.trans (congrArg some (by kernel_rfl))
 f344:=Tryz.func395.trans (congrArg some (by kernel_rfl))
 t0:=Tryz.underlying0
 a0:=Tryz.isAgg0
 z0:=Tryz.sizeOf0
 v0:=Tryz.zeroValue0
 t3:=Tryz.underlying3
 a3:=Tryz.isAgg3
 z3:=Tryz.sizeOf3
 v3:=Tryz.zeroValue3
 t4:=Tryz.underlying4
 a4:=Tryz.isAgg4
 z4:=Tryz.sizeOf4
 v4:=Tryz.zeroValue4
 t5:=Tryz.underlying5
 a5:=Tryz.isAgg5
 z5:=Tryz.sizeOf5
 v5:=Tryz.zeroValue5
 t9:=Tryz.underlying9
 a9:=Tryz.isAgg9
 z9:=Tryz.sizeOf9
 v9:=Tryz.zeroValue9
 t31:=Tryz.underlying29
 a31:=Tryz.isAgg29
 z31:=Tryz.sizeOf29
 v31:=Tryz.zeroValue29
 t46:=Tryz.underlying201
 a46:=Tryz.isAgg201
 z46:=Tryz.sizeOf201
 v46:=Tryz.zeroValue201
 t51:=Tryz.underlying58
 a51:=Tryz.isAgg58
 z51:=Tryz.sizeOf58
 v51:=Tryz.zeroValue58
 t53:=Tryz.underlying296
 a53:=Tryz.isAgg296
 z53:=Tryz.sizeOf296
 v53:=Tryz.zeroValue296
 t131:=Tryz.underlying102
 a131:=Tryz.isAgg102
 z131:=Tryz.sizeOf102
 v131:=Tryz.zeroValue102
 t182:=Tryz.underlying288
 a182:=Tryz.isAgg288
 z182:=Tryz.sizeOf288
 v182:=Tryz.zeroValue288
 t183:=Tryz.underlying289
 a183:=Tryz.isAgg289
 z183:=Tryz.sizeOf289
 v183:=Tryz.zeroValue289
 t218:=Tryz.underlying347
 a218:=Tryz.isAgg347
 z218:=Tryz.sizeOf347
 v218:=Tryz.zeroValue347
 t222:=Tryz.underlying351
 a222:=Tryz.isAgg351
 z222:=Tryz.sizeOf351
 v222:=Tryz.zeroValue351
 t228:=Tryz.underlying401
 a228:=Tryz.isAgg401
 z228:=Tryz.sizeOf401
 v228:=Tryz.zeroValue401
 t229:=Tryz.underlying402
 a229:=Tryz.isAgg402
 z229:=Tryz.sizeOf402
 v229:=Tryz.zeroValue402
 }
def lays189_ren:Go.Shelf.Ren:=⟨fun | 189=>163 | 125=>106 | 257=>236 | 128=>185 | 129=>186 | 294=>286 | 295=>287 | 296=>288 | 297=>289 | 298=>290 | 299=>291 | 216=>292 | 300=>293 | 301=>294 | 328=>336 | 329=>241 | 330=>242 | 331=>337 | 332=>338 | 215=>276 | 343=>361 | n=>n,fun | 28=>26 | 3=>3 | 46=>201 | 0=>0 | 51=>58 | 53=>296 | 4=>4 | 183=>289 | 182=>288 | 131=>102 | 5=>5 | 9=>9 | 218=>347 | 222=>351 | 228=>401 | 229=>402 | n=>n,fun | n=>n⟩
theorem lays189:Go.Proofs.Lays.n189 Tryz.prog lays189_ren:={
 mixed:=by kernel_rfl
 f125:=Tryz.func106.trans (congrArg some (by kernel_rfl))
 f128:=Tryz.func185.trans (congrArg some (by kernel_rfl))
 f129:=Tryz.func186.trans (congrArg some (by kernel_rfl))
 f189:=Tryz.func163.trans (congrArg some (by kernel_rfl))
 f215:=Tryz.func276.trans (congrArg some (by kernel_rfl))
 f216:=Tryz.func292.trans (congrArg some (by kernel_rfl))
 f257:=Tryz.func236.trans (congrArg some (by kernel_rfl))
 f294:=Tryz.func286.trans (congrArg some (by kernel_rfl))
 f295:=Tryz.func287.trans (congrArg some (by kernel_rfl))
 f296:=Tryz.func288.trans (congrArg some (by kernel_rfl))
 f297:=Tryz.func289.trans (congrArg some (by kernel_rfl))
 f298:=Tryz.func290.trans (congrArg some (by kernel_rfl))
 f299:=Tryz.func291.trans (congrArg some (by kernel_rfl))
 f300:=Tryz.func293.trans (congrArg some (by kernel_rfl))
 f301:=Tryz.func294.trans (congrArg some (by kernel_rfl))
 f328:=Tryz.func336.trans (congrArg some (by kernel_rfl))
 f329:=Tryz.func241.trans (congrArg some (by kernel_rfl))
 f330:=Tryz.func242.trans (congrArg some (by kernel_rfl))
 f331:=Tryz.func337.trans (congrArg some (by kernel_rfl))
 f332:=Tryz.func338.trans (congrArg some (by kernel_rfl))
 f343:=Tryz.func361.trans (congrArg some (by kernel_rfl))
 t0:=Tryz.underlying0
 a0:=Tryz.isAgg0
 z0:=Tryz.sizeOf0
 v0:=Tryz.zeroValue0
 t3:=Tryz.underlying3
 a3:=Tryz.isAgg3
 z3:=Tryz.sizeOf3
 v3:=Tryz.zeroValue3
 t4:=Tryz.underlying4
 a4:=Tryz.isAgg4
 z4:=Tryz.sizeOf4
 v4:=Tryz.zeroValue4
 t5:=Tryz.underlying5
 a5:=Tryz.isAgg5
 z5:=Tryz.sizeOf5
 v5:=Tryz.zeroValue5
 t9:=Tryz.underlying9
 a9:=Tryz.isAgg9
 z9:=Tryz.sizeOf9
 v9:=Tryz.zeroValue9
 t28:=Tryz.underlying26
 a28:=Tryz.isAgg26
 z28:=Tryz.sizeOf26
 v28:=Tryz.zeroValue26
 t46:=Tryz.underlying201
 a46:=Tryz.isAgg201
 z46:=Tryz.sizeOf201
 v46:=Tryz.zeroValue201
 t51:=Tryz.underlying58
 a51:=Tryz.isAgg58
 z51:=Tryz.sizeOf58
 v51:=Tryz.zeroValue58
 t53:=Tryz.underlying296
 a53:=Tryz.isAgg296
 z53:=Tryz.sizeOf296
 v53:=Tryz.zeroValue296
 t131:=Tryz.underlying102
 a131:=Tryz.isAgg102
 z131:=Tryz.sizeOf102
 v131:=Tryz.zeroValue102
 t182:=Tryz.underlying288
 a182:=Tryz.isAgg288
 z182:=Tryz.sizeOf288
 v182:=Tryz.zeroValue288
 t183:=Tryz.underlying289
 a183:=Tryz.isAgg289
 z183:=Tryz.sizeOf289
 v183:=Tryz.zeroValue289
 t218:=Tryz.underlying347
 a218:=Tryz.isAgg347
 z218:=Tryz.sizeOf347
 v218:=Tryz.zeroValue347
 t222:=Tryz.underlying351
 a222:=Tryz.isAgg351
 z222:=Tryz.sizeOf351
 v222:=Tryz.zeroValue351
 t228:=Tryz.underlying401
 a228:=Tryz.isAgg401
 z228:=Tryz.sizeOf401
 v228:=Tryz.zeroValue401
 t229:=Tryz.underlying402
 a229:=Tryz.isAgg402
 z229:=Tryz.sizeOf402
 v229:=Tryz.zeroValue402
 }
end
end Go.Proofs.YtdnhplencamncaaGreatDoor
namespace Go.Proofs.YtdnhplencamncaaGreatDoor
section
open Go Go.AM Go.RowKit Go.Lib Go.Sort
theorem kN{α:Type} [Inhabited α] (enc:α→Value)(w:World)(blk off:Nat)(d:Array α):(putRow enc w blk off d).heap.size=w.heap.size:=by simp[putRow,mapBlock]
theorem kU{α:Type} [Inhabited α] (enc:α→Value)(w:World)(blk off:Nat)(d:Array α):putRow enc w blk off d=putRow id w blk off (d.map enc):=by
 unfold putRow
 refine mapBlock_congr _ _ _ _ fun c _ _ _=>?_
 apply Array.ext_getElem?;intro k;simp only[putCells,Array.getElem?_mapIdx,rp]
 cases c[k]? with
 | none=>rfl
 | some y =>
  simp only[pB];by_cases h:off≤k∧k<off+d.size
  ·rw[if_pos h,if_pos h]
   have hk:k-off<d.size:=by omega
   rw[getElem!_pos d (k-off) hk,getElem!_pos (d.map enc) (k-off) (by simpa using hk)];simp
  ·rw[if_neg h,if_neg h]
theorem ij{s:AM.St}(hg:AM.Good s){k e z:Nat}{xs ys:List V}(hk:s.H[k]?=some (.buf e z xs false))(hκ:s.κ k≠0)(F:Array Value)(n:Nat)(os:Array Obj)(hl:ys.length=xs.length)(hF:F.size=xs.length*z)
  (hy:∀y∈ys,y.cells.length=z∧∀c∈y.cells,c.one=true) (hr:∀i y j c,ys[i]?=some y→y.cells[j]?=some c→Rel s c F[i*z+j]!) (W:World) (hW:W=grow (putRow id (Go.Sort.ahead s.w n) (s.φ k) 0 F) os):
  AM.Good (s.setB W k (.buf e z ys false))∧AM.Step s (s.setB W k (.buf e z ys false)):=by
 have hlk:=lvB hk hκ;have hlt:=(hg.lt k hlk).1;obtain⟨vs,h1,h2,h3,h4,h5,h6⟩:=hg.blk k _ hk;have hb:=h1 hκ
 have ho:∀b,b<s.w.heap.size→b≠s.φ k→W.heap[b]?=s.w.heap[b]?:=fun b hb' hne=>by
  subst hW;rw[heap_grow_old _ _ (by rw[kN];exact hb')];simp only[putRow,mapBlock,Go.Sort.ahead,Array.getElem?_modify,if_neg (Ne.symm hne)]
 have hbk:W.heap[s.φ k]?=some (.cells (putCells id 0 F vs) e (0,0)):=by
  subst hW;rw[heap_grow_old _ _ (by rw[kN];exact hlt)];simp[putRow,mapBlock,Go.Sort.ahead,Array.getElem?_modify,hb,onCells]
 have hsz:s.w.heap.size≤W.heap.size:=by
  subst hW;rw[size_grow,kN];exact rd _ _
 have ha:B.alike (.buf e z xs false) (.buf e z ys false):=⟨rfl,rfl,hl.symm,rfl,rfl⟩
 have e1:W.os=s.w.os:=by subst hW;rfl
 have e2:W.tape=s.w.tape:=by subst hW;rfl
 have e3:W.output=s.w.output:=by subst hW;rfl
 clear hW;have hst:=bI (w:=W) hg hk hlk ha e1 e2 e3 hsz ho;refine⟨bQ hg hk hlk ha e1 e2 e3 hsz ho (fun _=>?_),hst⟩;refine⟨putCells id 0 F vs,fun _=>hbk,by simp only[putCells,Array.size_mapIdx];exact h2,by rw[hl];exact h3,h4,hy,fun i x j c u hi hj hu=>?_⟩;have hil:=aB hi;have hjl:=aB hj;rw[(hy x (oH hi)).1]at hjl
 have hlt2:i*z+j<F.size:=by
  rw[hF];have:=ol z (show i+1≤xs.length by omega);rw[ov,Nat.one_mul]at this;omega
 have hu2:u=F[i*z+j]!:=by
  simp only[putCells,Array.getElem?_mapIdx]at hu
  cases hv:vs[i*z+j]? with
  | none=>rw[hv]at hu;cases hu
  | some v =>
   rw[hv,pB,if_pos ⟨by omega,by omega⟩,rR]at hu;exact(Option.some.inj hu).symm
 rw[hu2];exact(hr i x j c hi hj).step hst
end
end Go.Proofs.YtdnhplencamncaaGreatDoor
namespace Go.Proofs.YtdnhplencamncaaGreatDoor
section
open Go Go.AM
def srtB(ls:List (List UInt8)):List (List UInt8):=ls.mergeSort fun x y=>decide (x≤y)
def cz(ls:List Int):List Int:=ls.mergeSort fun x y=>decide (x≤y)
theorem sort1{α:Type} [Inhabited α] {P:Program}{f:FuncId}{fn:Func}(hf:P.funcs[f]?=some fn)(hb:fn.body.isSome=true)(hn:(fn.name == "runtime.NumGoroutine")=false){v:α→V}{enc:α→Value}{srt:List α→List α}{H:List B}{k e:Nat}(ls:List α)(n:Nat)(hln:ls.length=n)
  (hk:H[k]?=some (.buf e 1 (ls.map v) false)) (hone:∀a,(v a).cells=[v a]∧(v a).one=true) (hrel:∀s a u,Rel s (v a) u→u=enc a) (hrel2:∀s a,Rel s (v a) (enc a)) (hp:∀l,(srt l).length=l.length)
  (h0:∀A c w,Calls P f #[.slice A 0 c] w fun e w'=>e = .returned (.tuple #[])∧w'=w)
  (h:∀(b c:Nat) (w:World),Go.Sort.Holds enc w b 0 ls.toArray→b<w.heap.size→Calls P f #[.slice (some ⟨b,0,none⟩) ls.length c] w fun e w'=>e = .returned (.tuple #[])∧∃m os,w'=Go.Sort.grow (Go.Sort.putRow enc (Go.Sort.ahead w m) b 0 (srt ls).toArray) os):
  aU P f [.buf k 0 n n] H fun r H'=>r = .tup []∧H'=H.set k (.buf e 1 ((srt ls).map v) false):=by
 subst hln;refine⟨⟨fn,hf,hb,hn⟩,fun s vals hA hg hsz hr=>?_⟩;obtain⟨rfl,hZ⟩:=hA
 obtain⟨u0,rfl⟩:∃u0,vals = #[u0]:=by
  obtain⟨l⟩:=vals
  match l,hsz with
  | [a],_=>exact⟨a,rfl⟩
 have r0:=hr 0 _ u0 rfl rfl
 cases r0 with
 | buf _ _ _ _ e2 z2 xs2 fz2 A n c hk2 ht hh =>
 rw[hk]at hk2;cases hk2;obtain⟨hA,rfl,hcap,_⟩:=hh (by simp);rw[pI]at hcap;by_cases hz:ls=[]
 ·subst hz;refine(h0 A c s.w).mono ?_;rintro e' w' ⟨rfl,rfl⟩;refine⟨_,s,.tup [],rfl,rfl,hg,Step.refl s,.tup [] #[] rfl (by simp),rfl,?_⟩;rw[show srt []=[] from pX (by rw[hp];rfl)];apply pT;intro i;rw[qY];split
  ·rename_i h;subst h;rw[if_pos (aB hk),hk]
  ·rfl
 ·have hpos:0<ls.length:=List.length_pos_iff.2 hz;obtain⟨vs,g2,g3,g4,g5,g6,g7⟩:=hg.blk k _ hk;rw[oW]at g4
  have hκ:s.κ k≠0:=by omega
  have hA:=hA hκ;subst hA;have g2:=g2 hκ;have hlt:=(hg.lt k (lvB hk hκ)).1
  have hel:∀i (hi:i<ls.length),vs[i]?=some (enc ls[i]):=fun i hi=>by
   obtain⟨u,hu⟩:∃u,vs[i]?=some u:=⟨_,pn (show i<vs.size by omega)⟩;rw[hu,hrel s ls[i] u (g7 i _ 0 _ u (show(ls.map v)[i]?=some (v ls[i]) by simp[hi]) (by rw[(hone _).1];rfl) (by simpa using hu))]
  have hH:Go.Sort.Holds enc s.w (s.φ k) 0 ls.toArray:=fun j hj=>by
   have hj':j<ls.length:=by simpa using hj
   rw[getElem!_pos ls.toArray j hj,pI];refine⟨?_,?_⟩
   ·simp only[World.cell?,g2,hel j hj'];simp
   ·simp[World.frozen?,g2]
  have hc:=h (s.φ k) c s.w hH hlt;simp only[pz]at *;rw[oW]at *;refine hc.mono ?_;rintro e' w' ⟨rfl,m,os,rfl⟩
  have hs:=ij (ys:=(srt ls).map v) hg hk hκ ((srt ls).toArray.map enc) m os (by rw[oW,oW,hp]) (by simp[hp]) (fun y hy=>by
   obtain⟨a,_,rfl⟩:=List.mem_map.1 hy;rw[(hone a).1]
   exact⟨rfl,fun c hc=>by simp at hc;subst hc;exact(hone a).2⟩) (fun i y j c hi hj=>by
   rw[oc]at hi;obtain⟨a,ha,rfl⟩:=Option.map_eq_some_iff.1 hi;rw[(hone a).1]at hj
   have hj0:j=0:=by have:=aB hj;simp at this;omega
   subst hj0;simp at hj;subst hj;have hil:=aB ha;rw[rO,qH,getElem!_pos _ _ (by simpa using hil)];simp only[qO,List.getElem_toArray];rw[(List.getElem?_eq_some_iff.1 ha).2]
   exact hrel2 s a) _ rfl
  refine⟨_,_,.tup [],rfl,?_,hs.1,hs.2,.tup [] #[] rfl (by simp),rfl,rfl⟩;show Go.Sort.grow (Go.Sort.putRow id _ _ 0 ((srt ls).toArray.map enc)) os=_;rw[←kU enc]
theorem strRel{s:St}{a:List UInt8}{u:Value}(h:Rel s (V.str (bs a)) u):u=Go.Proofs.encStr a:=by
 cases h;rfl
theorem sortS_u{H:List B}{k e:Nat}(ls:List (List UInt8))(n:Nat)(hln:ls.length=n)(hl:n<4611686018427387904)(hk:H[k]?=some (.buf e 1 (ls.map fun p=>.str (bs p)) false)):
  aU Tryz.prog 332 [.buf k 0 n n] H fun r H'=>r = .tup []∧H'=H.set k (.buf e 1 ((srtB ls).map fun p=>.str (bs p)) false):=by
 subst hln
 exact sort1 (f:=332) Tryz.func332 rfl rfl (v:=fun p=>.str (bs p)) (enc:=Go.Proofs.encStr) (srt:=srtB) ls _ rfl hk (fun a=>⟨rfl,rfl⟩) (fun s a u h=>strRel h) (fun s a=>.str _) (fun l=>qn l)
  (fun A c w=>Go.Proofs.Any.slices_Sort_string_none lays190 A c w) (fun b c w hH hb=>Go.Proofs.Any.slices_Sort_string lays190 b 0 c ls w hH hb hl)
theorem intRel{s:St}{a:Int}{u:Value}(h:Rel s (aQ a) u):u=Value.int .i64 a:=by
 cases h;rfl
theorem sortI_u{H:List B}{k e:Nat}(ls:List Int)(n:Nat)(hln:ls.length=n)(hl:n<4611686018427387904)(hk:H[k]?=some (.buf e 1 (ls.map aQ) false)):
  aU Tryz.prog 163 [.buf k 0 n n] H fun r H'=>r = .tup []∧H'=H.set k (.buf e 1 ((cz ls).map aQ) false):=by
 subst hln
 exact sort1 (f:=163) Tryz.func163 rfl rfl (v:=aQ) (enc:=Value.int .i64) (srt:=cz) ls _ rfl hk (fun a=>⟨rfl,rfl⟩) (fun s a u h=>intRel h) (fun s a=>.int _ _) (fun l=>qn l)
  (fun A c w=>Go.Proofs.Any.slices_Sort_int_none lays189 A c w) (fun b c w hH hb=>Go.Proofs.Any.slices_Sort_int lays189 b 0 c ls w hH hb hl)
end
end Go.Proofs.YtdnhplencamncaaGreatDoor
namespace Go.AM
section
open Go
section
section
variable {P:Program} {T:Ty} {s:St}
theorem W_regionO2(hT:TOk P T){id:Nat}{ops:Array Oper}{Q:Exit→List V→List B→Prop}{fr:List V}{H:List B}{o0 o:Oper}{rest:List Oper}{x:Operand}{t:TypeId}{len:Nat}{ps:Array (Nat×Operand)}{v:V}{H':List B}
  (hl:ops.toList=o0::o::rest) (hg0:o0.guard=none) (ho0:o0.op = .move x) (hgd:o.guard=none) (ho:o.op = .buildSlice t len ps)
  (hb:iR T H t len (ps.toList.map fun p=>(p.1,aO (ak fr o0.dst (aO fr x)) p.2))=some (v,H'))
  (h:fi T ops (aL P) (Q .normal) rest (ak (ak fr o0.dst (aO fr x)) o.dst v) H'):W P (.region id ops false) Q fr H:=by
 intro s a hH hg hf hd;obtain⟨rfl,hz⟩:=hH;refine wp_region ?_
 have hsz:1<ops.size:=by have:=congrArg List.length hl;simp at this;omega
 have h00:ops[0]?=some o0:=by
  have:=congrArg (fun l=>l[0]?) hl;simpa using this
 have h01:ops[1]?=some o:=by
  have:=congrArg (fun l=>l[1]?) hl;simpa using this
 have key:wpOps P ops (gL s Q) ((oM ops.size).drop 0) a s.w:=by
  rw[oK (by simp;omega)];simp only[qT,wpOps,h00]
  have hw0:Region.wanted o0 (yielded ops a.tmps)=true:=by unfold Region.wanted;rw[hg0]
  rw[hw0];simp only[if_true];left
  have hrun0:(execOp a.eval o0).run P s.w = .ok (.value (a.eval x)) s.w:=by
   unfold execOp;rw[ho0];rfl
  unfold Oper.wp;rw[hrun0,Oper.upon_value];have hf1:FRel s (ak fr o0.dst (aO fr x)) (a.put o0.dst (a.eval x)).tmps:=hf.put (hf.eval x) o0.dst;have hd1:=hd;rw[←eW a o0.dst (a.eval x)]at hd1;generalize a.put o0.dst (a.eval x)=a1 at hf1 hd1;rw[oK (by simp;omega)];simp only[qT,wpOps,h01]
  have hw:Region.wanted o (yielded ops a1.tmps)=true:=by unfold Region.wanted;rw[hgd]
  rw[hw];simp only[if_true];left
  obtain⟨u,s1,k1,k2,k3,k4,k5⟩:=ny (P:=P) hT hg (uparts:=ps.map fun(i,x)=>(i,a1.eval x)) (by simp) (fun i p u hp hu=>by
   simp only[oc,pV,po]at hp;obtain⟨q,hq,rfl⟩:=hp;simp only[qz,hq,pB,Option.some.injEq]at hu;subst hu
   exact⟨rfl,hf1.eval _⟩) hb
  subst k2
  have hrun:(execOp a1.eval o).run P s.w = .ok (.value u) s1.w:=by
   unfold execOp;rw[ho];simp[k1]
  unfold Oper.wp;rw[hrun,Oper.upon_value]
  exact iJ hT rest 2 s1 _ (a1.put o.dst u) (by rw[hl];rfl) (hz.step k4) k3 ((hf1.step k4).put k5 o.dst) (by rw[eW];exact hd1) h
   (fun s' fr' a' j1 j2 j3 j4 j5=>⟨fr',s',rfl,j1,k4.trans j2,j3,j4,j5⟩)
 simpa using key
end
end
end
end Go.AM
