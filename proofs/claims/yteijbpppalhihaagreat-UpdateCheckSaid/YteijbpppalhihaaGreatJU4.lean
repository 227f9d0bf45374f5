/- JU4: own texts of this seat, joined and shortened by pack.py: U5, V2, V3, V4, V6, V7, U6, V5, V8, V9, V10, V11, X1, X2, X3, X4, Op, S1, S2, S4, H1, H2, Cut, H3, S6, Gr, Cl, X5, X7. -/
import Derived.Test.YteijbpppalhihaaGreatJU3
import Derived.StillTailTactics
import Derived.Sort.Grow
import Derived.Shelf.SlSortCmp.NoneTotal
import Derived.WalkKit
import Derived.Lib.Walk
import Derived.Lib.SliceRun
import Derived.Lib.AppendZerosOnto
import Derived.OwnWalk
import Derived.WalkSpells
import Derived.WalkLawsBesides
import Derived.Lib.Hide
import Derived.Maps.AppendAt
set_option linter.unusedVariables false
set_option linter.unusedSimpArgs false
set_option maxRecDepth 100000
set_option maxHeartbeats 64000000
namespace Go.Proofs.YteijbpppalhihaaGreat
section
open Go Go.AM
section
theorem cmpL_zero:∀(a b:List UInt8),Lib.compareBytes a b=0↔a=b
 | [],[]=>by simp[Lib.compareBytes]
 | [],_::_=>by simp[Lib.compareBytes]
 | _::_,[]=>by simp[Lib.compareBytes]
 | a::xs,b::bs=>by
  rw[Lib.compareBytes,List.cons.injEq];split
  ·rename_i h;constructor
   ·intro h2;cases h2
   ·rintro⟨rfl,_⟩;exact absurd h (UInt8.lt_irrefl _)
  ·split
   ·rename_i h;constructor
    ·intro h2;cases h2
    ·rintro⟨rfl,_⟩;exact absurd h (UInt8.lt_irrefl _)
   ·rename_i h1 h2;rw[cmpL_zero xs bs];constructor
    ·intro h;exact⟨UInt8.le_antisymm (UInt8.not_lt.1 h2) (UInt8.not_lt.1 h1),h⟩
    ·exact fun h=>h.2
theorem cmpS_zero(a b:ByteArray):mv a b=0↔a=b:=by
 unfold mv;rw[cmpL_zero];constructor
 ·intro h;cases a;cases b;simp only[ByteArray.mk.injEq];exact Array.ext' h
 ·rintro rfl;rfl
theorem dQ(a b:Vl):gE a b=0↔a=b:=by
 unfold gE;have h1:=mH a.k b.k;have h2:=mH a.n b.n;have h3:=cmpS_zero a.s b.s
 have he:a=b↔a.k=b.k∧a.n=b.n∧a.s=b.s:=by cases a;cases b;simp
 rw[he];split
 ·rename_i g1;split
  ·rename_i g2;rw[h3];exact⟨fun h=>⟨h1.1 g1,h2.1 g2,h⟩,fun h=>h.2.2⟩
  ·rename_i g2;exact⟨fun h=>absurd h g2,fun h=>absurd (h2.2 h.2.1) g2⟩
 ·rename_i g1;exact⟨fun h=>absurd h g1,fun h=>absurd (h1.2 h.1) g1⟩
def cI(t:Tb)(i:Nat):Rw:=t.rows.getD i ⟨0,[]⟩
def bN(t:Tb)(x:Nat):Cr:=⟨(cI t (x / t.attrs.length)).id,((x % t.attrs.length:Nat):Int)⟩
def vAt(vs:List Vl)(a:Nat):Vl:=vs.getD a ⟨0,0,ByteArray.empty⟩
def bL(t:Tb)(x:Nat):Vl:=vAt (cI t (x / t.attrs.length)).vals (x % t.attrs.length)
theorem oI{n i a:Nat}(h:a<n):(i*n+a) / n=i∧(i*n+a) % n=a:=by
 constructor
 ·rw[Nat.mul_comm,Nat.mul_add_div (by omega),Nat.div_eq_of_lt h];rfl
 ·rw[Nat.mul_comm,Nat.mul_add_mod,Nat.mod_eq_of_lt h]
theorem gS(t:Tb){i a:Nat}(ha:a<t.attrs.length):bN t (i*t.attrs.length+a)=⟨(cI t i).id,(a:Int)⟩:=by
 obtain⟨h1,h2⟩:=oI (i:=i) ha;unfold bN;rw[h1,h2]
theorem fD(t:Tb){i a:Nat}(ha:a<t.attrs.length):bL t (i*t.attrs.length+a)=vAt (cI t i).vals a:=by
 obtain⟨h1,h2⟩:=oI (i:=i) ha;unfold bL;rw[h1,h2]
theorem bF{t:Tb}{i:Nat}(h:i<t.rows.length):cI t i=t.rows[i]:=by simp[cI,h]
theorem gV{vs:List Vl}{i:Nat}(h:i<vs.length):vAt vs i=vs[i]:=by simp[vAt,h]
open Classical in
noncomputable def aW(t:Tb)(fds:List Fd)(cells:List Cr):Prob:=⟨t.rows.length,t.attrs.length,fun x=>if bN t x∈cells then none else some (bL t x),fds⟩
theorem lI{t:Tb}{fds:List Fd}{l:List Cr}{x:Nat}(h:bN t x∈l):(aW t fds l).K x=none:=by simp only[aW,if_pos h]
theorem fT{t:Tb}{fds:List Fd}{l:List Cr}{x:Nat}(h:¬bN t x∈l):(aW t fds l).K x=some (bL t x):=by simp only[aW,if_neg h]
open Classical in
noncomputable def okB(q:Prob):Bool:=decide (Okq q)
theorem fH{q:Prob} : okB q=true↔Okq q:=by unfold okB;simp
theorem okB_true{q:Prob}(h:Okq q):okB q=true:=fH.2 h
theorem okB_false{q:Prob}(h:¬Okq q):okB q=false:=by
 cases hb:okB q
 ·rfl
 ·exact absurd (fH.1 hb) h
theorem okq_mono{t:Tb}{fds:List Fd}{l l':List Cr}(h:∀c∈l,c∈l'):Okq (aW t fds l)→Okq (aW t fds l'):=by
 rintro⟨σ,hs⟩;refine⟨σ,fun x v hx hk=>hs.fix x v hx ?_,hs.dep⟩;unfold aW at hk ⊢;simp only at hk ⊢;by_cases h1:bN t x∈l'
 ·rw[if_pos h1]at hk;cases hk
 ·rw[if_neg h1]at hk;rw[if_neg (fun h2=>h1 (h _ h2))];exact hk
theorem okq_congr{t:Tb}{fds:List Fd}{l l':List Cr}(h:∀x,x<t.rows.length*t.attrs.length→(bN t x∈l↔bN t x∈l')):Okq (aW t fds l)↔Okq (aW t fds l'):=by
 have one:∀l l':List Cr,(∀x,x<t.rows.length*t.attrs.length→(bN t x∈l↔bN t x∈l'))→Okq (aW t fds l)→Okq (aW t fds l'):=by
  rintro l l' h ⟨σ,hs⟩;refine⟨σ,fun x v hx hk=>hs.fix x v hx ?_,hs.dep⟩;unfold aW at hk ⊢;simp only at hk ⊢;rw[←hk];by_cases h1:bN t x∈l
  ·rw[if_pos h1,if_pos ((h x hx).1 h1)]
  ·rw[if_neg h1,if_neg (fun h2=>h1 ((h x hx).2 h2))]
 exact⟨one l l' h,one l' l fun x hx=>(h x hx).symm⟩
def aa(t:Tb):List Cr:=(List.range (t.rows.length*t.attrs.length)).map (bN t)
open Classical in
noncomputable def bX(t:Tb)(l:List Cr):List Cr:=(aa t).filter fun c=>decide (c∉l)
theorem kd{t:Tb}{x:Nat}(h:x<t.rows.length*t.attrs.length):bN t x∈aa t:=List.mem_map.2 ⟨x,by simpa using h,rfl⟩
theorem cP{t:Tb}{l:List Cr}{c:Cr} : c∈bX t l↔c∈aa t∧c∉l:=by simp[bX]
def Nec(t:Tb)(fds:List Fd)(l:List Cr):Prop:=¬Okq (aW t fds (bX t l))
open Classical in
noncomputable def na(t:Tb)(fds:List Fd)(l:List Cr):Bool:=decide (Nec t fds l)
theorem pB{t:Tb}{fds:List Fd}{l:List Cr} : na t fds l=true↔Nec t fds l:=by unfold na;simp
theorem necB_eq(t:Tb)(fds:List Fd)(l:List Cr):na t fds l = !okB (aW t fds (bX t l)):=by
 unfold na Nec okB;simp
theorem nec_mono{t:Tb}{fds:List Fd}{l l':List Cr}(h:∀c∈l,c∈l')(hn:Nec t fds l):Nec t fds l':=fun ho=>hn (okq_mono (fun c hc=>by
 rw[cP]at hc ⊢
 exact⟨hc.1,fun h2=>hc.2 (h c h2)⟩) ho)
structure TbV (t:Tb):Prop where
 ok:TbOk t
 attrs:t.attrs.length≤16
 rows:t.rows.length≤1000
 names:gc t.attrs=true
 name:bn t.name=true
 len:∀r∈t.rows,r.vals.length=t.attrs.length
 vals:∀r∈t.rows,∀v∈r.vals,bP v=true
 asc:t.rows.Pairwise fun a b=>a.id<b.id
theorem iZ{n:Nat} : ∀{rs:List Rw} {last:Int},dp n last rs=0→(∀r∈rs,last<r.id)∧(∀r∈rs,r.vals.length=n)∧(∀r∈rs,∀v∈r.vals,bP v=true)∧rs.Pairwise fun a b=>a.id<b.id
 | [],_,_=>by simp
 | r::rs,last,h=>by
  rw[dp]at h;split at h
  ·cases h
  ·rename_i h1;split at h
   ·cases h
   ·rename_i h2;split at h
    ·rename_i h3;obtain⟨a,b,c,d⟩:=iZ h;refine⟨?_,?_,?_,?_⟩
     ·intro r' hr
      rcases List.mem_cons.1 hr with rfl | hr
      ·omega
      ·have:=a r' hr;omega
     ·intro r' hr
      rcases List.mem_cons.1 hr with rfl | hr
      ·omega
      ·exact b r' hr
     ·intro r' hr
      rcases List.mem_cons.1 hr with rfl | hr
      ·exact fun v hv=>(List.all_eq_true.1 h3) v hv
      ·exact c r' hr
     ·exact List.pairwise_cons.2 ⟨a,d⟩
    ·cases h
theorem iU{t:Tb}(h:TbOk t)(hv:validT t=0):TbV t:=by
 unfold validT at hv;split at hv
 ·rename_i h1;split at hv
  ·cases hv
  ·rename_i h2;split at hv
   ·rename_i h3;obtain⟨a,b,c,d⟩:=iZ hv;exact⟨h,by omega,by omega,h3,h1,b,c,d⟩
   ·cases hv
 ·cases hv
theorem TbV.ids{t:Tb}(h:TbV t){i k:Nat}(hik:i<k)(hk:k<t.rows.length):(cI t i).id<(cI t k).id:=by
 rw[bF hk,bF (show i<t.rows.length by omega)];exact List.pairwise_iff_getElem.1 h.asc i k (by omega) hk hik
theorem TbV.cells_lt{t:Tb}(h:TbV t){x y:Nat}(hxy:x<y)(hy:y<t.rows.length*t.attrs.length):cLt (bN t x) (bN t y):=by
 have hn:0<t.attrs.length:=by
  rcases Nat.eq_zero_or_pos t.attrs.length with h0 | h0
  ·rw[h0]at hy;omega
  ·exact h0
 have e1:=Nat.div_add_mod x t.attrs.length;have e2:=Nat.div_add_mod y t.attrs.length;have l1:=Nat.mod_lt x hn;have l2:=Nat.mod_lt y hn;have hd:x / t.attrs.length≤y / t.attrs.length:=Nat.div_le_div_right (by omega)
 have hm:y / t.attrs.length<t.rows.length:=by rw[Nat.div_lt_iff_lt_mul hn];exact hy
 rcases Nat.lt_or_ge (x / t.attrs.length) (y / t.attrs.length) with h1 | h1
 ·exact .inl (h.ids h1 hm)
 ·have:x / t.attrs.length=y / t.attrs.length:=by omega
  unfold cLt bN;refine .inr ⟨by rw[this],?_⟩;simp only;rw[this]at e1;omega
theorem TbV.crAt_inj{t:Tb}(h:TbV t){x y:Nat}(hx:x<t.rows.length*t.attrs.length)(hy:y<t.rows.length*t.attrs.length)(he:bN t x=bN t y):x=y:=by
 rcases Nat.lt_trichotomy x y with h1 | h1 | h1
 ·exact absurd (he▸h.cells_lt h1 hy) (eh _)
 ·exact h1
 ·exact absurd (he▸h.cells_lt h1 hx) (eh _)
theorem TbV.sorted{t:Tb}(h:TbV t):aZ (aa t):=by
 unfold aa aZ;rw[List.pairwise_map,List.pairwise_iff_getElem];intro i j hi hj hij;simp only[List.length_range]at hi hj;rw[List.getElem_range,List.getElem_range];exact h.cells_lt hij hj
theorem TbV.sorted_others{t:Tb}(h:TbV t)(l:List Cr):aZ (bX t l):=List.Pairwise.filter _ h.sorted
end
section
def encN(n:Nat):V:=.int .i64 (n:Int)
@[simp] theorem encN_pure (n:Nat):AM.Pure (encN n):=by simp[encN]
@[simp] theorem encN_oneV (n:Nat):dc (encN n)=true:=rfl
def fK:Option Vl→V
 | none=>.nilP
 | some v=>.pin [.int .i64 v.k,.int .i64 v.n,.str v.s] 0
@[simp] theorem encK_pure (o:Option Vl):AM.Pure (fK o):=by cases o<;>simp[fK]
@[simp] theorem encK_oneV (o:Option Vl):dc (fK o)=true:=by cases o<;>rfl
def knL(K:Nat→Option Vl)(N:Nat):List V:=(List.range N).map fun x=>fK (K x)
def paL(P:List Nat):List V:=P.map encN
theorem lS(K:Nat→Option Vl)(N:Nat):(knL K N).length=N:=by simp[knL]
theorem paL_len(P:List Nat):(paL P).length=P.length:=by simp[paL]
theorem lT(K:Nat→Option Vl){N x:Nat}(h:x<(knL K N).length):(knL K N)[x]=fK (K x):=by simp[knL]
theorem paL_get{P:List Nat}{x:Nat}(h:x<(paL P).length):(paL P)[x] = .int .i64 (P.getD x 0:Nat):=by
 have h2:x<P.length:=by simpa[paL] using h
 simp[paL,encN,h2]
theorem paL_set(P:List Nat)(x v:Nat):(paL P).set x (.int .i64 (v:Int))=paL (P.set x v):=by
 unfold paL;rw[List.map_set];rfl
theorem paL_pure(P:List Nat):∀x∈paL P,AM.Pure x∧dc x=true:=by
 intro x hx;obtain⟨n,_,rfl⟩:=List.mem_map.1 hx;exact⟨encN_pure n,encN_oneV n⟩
theorem knL_pure(K:Nat→Option Vl)(N:Nat):∀x∈knL K N,AM.Pure x∧dc x=true:=by
 intro x hx;obtain⟨n,_,rfl⟩:=List.mem_map.1 hx;exact⟨encK_pure _,encK_oneV _⟩
def Ht(H:List B)(kp:Nat)(P:List Nat):List B:=H.set kp (.buf 3 1 (paL P) false)
structure HOk (H:List B) (k0 kp kq n N:Nat) (K:Nat→Option Vl):Prop where
 h0:H[k0]?=some (.cells [.int .i64 n,.buf kp 0 N N,.buf kq 0 N N])
 hp:kp<H.length
 hq:H[kq]?=some (.buf 113 1 (knL K N) false)
 n0:kp≠k0
 nq:kp≠kq
 rb:∀P,∀bl∈Ht H kp P,rbB H.length bl
theorem gf(H:List B)(kp:Nat)(P:List Nat):(Ht H kp P).length=H.length:=by simp[Ht]
section
variable {H:List B} {k0 kp kq n N:Nat} {K:Nat→Option Vl} (g:HOk H k0 kp kq n N K)
include g
theorem HOk.at0(P:List Nat):(Ht H kp P)[k0]?=some (.cells [.int .i64 n,.buf kp 0 N N,.buf kq 0 N N]):=by
 unfold Ht;rw[List.getElem?_set_ne g.n0];exact g.h0
theorem HOk.atp(P:List Nat):(Ht H kp P)[kp]?=some (.buf 3 1 (paL P) false):=by
 unfold Ht;rw[List.getElem?_set_self g.hp]
theorem HOk.atq(P:List Nat):(Ht H kp P)[kq]?=some (.buf 113 1 (knL K N) false):=by
 unfold Ht;rw[List.getElem?_set_ne g.nq];exact g.hq
omit g in
theorem ht_set(P P':List Nat):(Ht H kp P).set kp (.buf 3 1 (paL P') false)=Ht H kp P':=by
 unfold Ht;rw[List.set_set]
theorem HOk.rbs(P:List Nat):∀bl∈Ht H kp P,rbB (Ht H kp P).length bl:=by rw[gf];exact g.rb P
theorem HOk.lt0:k0<H.length:=aE g.h0
end
theorem oZ{q:Prob}{P:List Nat}{r h:Nat→Nat}(f:Frt q P r h){H:List B}{k0 kp kq n N:Nat}(hNe:q.m*q.n=N)(g:HOk H k0 kp kq n N q.K)(hN:N≤1000000)(x:Nat)(hx:x<N):
  az Tryz.prog 54 [.ptr k0 0,.int .i64 x] (Ht H kp P) fun r' H'=>r' = .int .i64 (r x)∧H'=Ht H kp P:=by
 have h0:=g.at0 P;have h1:=g.atp P;have hrb:=g.rbs P
 have hl0:k0<(Ht H kp P).length:=by rw[gf];exact g.lt0
 obtain⟨flen,flt,froot,fself,fstep,fknown,fsem⟩:=f;simp only[hNe]at flen flt froot fself fstep
 have hpl:(paL P).length=N:=by rw[paL_len,flen]
 refine aD tok Tryz.func54 rfl rfl ?_;refine wx ?_;simp -implicitDefEqProofs -dsimp[Tryz.f54,List.replicate];refine aK (W_loopM 21 [1,5,6,7,8,9,10,11,12,13,14,15,16,17,18,19,20] (by simp[mB]<;>rfl) (σ:=Nat) (fun j=>j<N∧r j=r x) (fun j=>h j) (fun j=>[(1,.int .i64 j)]) (fun _=>Ht H kp P) x ⟨hx,rfl⟩ (by simp) rfl (by simp) ?_);rintro j ⟨hj,hx2⟩ N2 Q hN2 hQ
 have hat:=fun h=>paL_get (P:=P) (x:=j) h
 by_cases he:P.getD j 0=j
 ·have hs:=fself j hj he;rw[he]at hat;refine wx ?_;simp -implicitDefEqProofs -dsimp[h0,h1,hat,hpl,hj];refine hQ _ _ _ ?_;simp -implicitDefEqProofs -dsimp[];omega
 ·obtain⟨s1,s2,s3⟩:=fstep j hj he;obtain⟨p,hp⟩:∃p,p=P.getD j 0:=⟨_,rfl⟩;rw[←hp]at hat he s1 s2 s3;refine wx ?_;simp -implicitDefEqProofs -dsimp[h0,h1,hat,hpl,hj,show ¬((p:Int)=j) by omega];refine hN2 p _ _ ⟨s1,by rw[s2];exact hx2⟩ s3 (by simp) ⟨[],by simp⟩ (by simp[hl0]) hrb
end
section
open Classical in
noncomputable def eqvB(q:Prob)(r:Nat→Nat)(x y:Nat):Bool:=decide (eqv q r x y)
theorem ja{q:Prob}{r:Nat→Nat}{x y:Nat} : eqvB q r x y=true↔eqv q r x y:=by unfold eqvB;simp
theorem eqvB_same{q:Prob}{r:Nat→Nat}{x y:Nat}(h:r x=r y):eqvB q r x y=true:=ja.2 (.inl h)
theorem eqvB_vals{q:Prob}{r:Nat→Nat}{x y:Nat}{v w:Vl}(h:q.K (r x)=some v)(g:q.K (r y)=some w):eqvB q r x y=(gE v w == 0):=by
 rw[Bool.eq_iff_iff,ja,beq_iff_eq,dQ];constructor
 ·rintro(e | ⟨u,h1,h2⟩)
  ·rw[e,g]at h;exact(Option.some.inj h).symm
  ·rw[h]at h1;rw[g]at h2;exact(Option.some.inj h1).trans (Option.some.inj h2).symm
 ·rintro rfl;exact .inr ⟨v,h,g⟩
theorem eqvB_none{q:Prob}{r:Nat→Nat}{x y:Nat}(hne:r x≠r y)(h:q.K (r x)=none∨q.K (r y)=none):eqvB q r x y=false:=by
 cases hb:eqvB q r x y
 ·rfl
 ·rcases ja.1 hb with e | ⟨u,h1,h2⟩
  ·exact absurd e hne
  ·rcases h with h | h
   ·rw[h]at h1;cases h1
   ·rw[h]at h2;cases h2
theorem same_u{q:Prob}{P:List Nat}{r h:Nat→Nat}(f:Frt q P r h){H:List B}{k0 kp kq n N:Nat}(hNe:q.m*q.n=N)(g:HOk H k0 kp kq n N q.K)(hN:N≤1000000)(x y:Nat)(hx:x<N)(hy:y<N):
  az Tryz.prog 133 [.ptr k0 0,.int .i64 x,.int .i64 y] (Ht H kp P) fun r' H'=>r' = .bool (eqvB q r x y)∧H'=Ht H kp P:=by
 have h0:=g.at0 P;have h2:=g.atq P;have hkl:=lS q.K N;have c1:=oZ f hNe g hN x hx;have c2:=oZ f hNe g hN y hy;have lx:r x<N:=hNe▸f.lt x (hNe▸hx);have ly:r y<N:=hNe▸f.lt y (hNe▸hy)
 have ax:=fun h=>lT q.K (N:=N) (x:=r x) h
 have ay:=fun h=>lT q.K (N:=N) (x:=r y) h
 by_cases he:r x=r y
 ·rw[eqvB_same he];refine aD tok Tryz.func133 rfl rfl ?_;refine wx ?_;simp -implicitDefEqProofs -dsimp[Tryz.f133,List.replicate];refine aV.mono (K:=fun r' H'=>r' = .int .i64 (r x)∧H'=Ht H kp P) c1 ?_;rintro _ _ ⟨rfl,rfl⟩;simp -implicitDefEqProofs -dsimp[];refine aV.mono (K:=fun r' H'=>r' = .int .i64 (r y)∧H'=Ht H kp P) c2 ?_;rintro _ _ ⟨rfl,rfl⟩;simp -implicitDefEqProofs -dsimp[he];exact .inr (aJ (by kernel_rfl))
 ·have hne:¬((r x:Int)=r y):=by omega
  cases hk1:q.K (r x) with
  | none =>
   rw[hk1]at ax;rw[eqvB_none he (.inl hk1)];refine aD tok Tryz.func133 rfl rfl ?_;refine wx ?_;simp -implicitDefEqProofs -dsimp[Tryz.f133,List.replicate];refine aV.mono (K:=fun r' H'=>r' = .int .i64 (r x)∧H'=Ht H kp P) c1 ?_;rintro _ _ ⟨rfl,rfl⟩;simp -implicitDefEqProofs -dsimp[];refine aV.mono (K:=fun r' H'=>r' = .int .i64 (r y)∧H'=Ht H kp P) c2 ?_;rintro _ _ ⟨rfl,rfl⟩;simp -implicitDefEqProofs -dsimp[hne,h0,h2,ax,hkl,lx,fK,eZ];exact .inr (aJ (by kernel_rfl))
  | some v =>
   rw[hk1]at ax
   cases hk2:q.K (r y) with
   | none =>
    rw[hk2]at ay;rw[eqvB_none he (.inr hk2)];refine aD tok Tryz.func133 rfl rfl ?_;refine wx ?_;simp -implicitDefEqProofs -dsimp[Tryz.f133,List.replicate];refine aV.mono (K:=fun r' H'=>r' = .int .i64 (r x)∧H'=Ht H kp P) c1 ?_;rintro _ _ ⟨rfl,rfl⟩;simp -implicitDefEqProofs -dsimp[];refine aV.mono (K:=fun r' H'=>r' = .int .i64 (r y)∧H'=Ht H kp P) c2 ?_;rintro _ _ ⟨rfl,rfl⟩;simp -implicitDefEqProofs -dsimp[hne,h0,h2,ax,ay,hkl,lx,ly,fK,eZ];exact .inr (aJ (by kernel_rfl))
   | some w =>
    rw[hk2]at ay;rw[eqvB_vals hk1 hk2];have c3:=iT v w;simp only[am]at c3;refine aD tok Tryz.func133 rfl rfl ?_;refine wx ?_;simp -implicitDefEqProofs -dsimp[Tryz.f133,List.replicate];refine aV.mono (K:=fun r' H'=>r' = .int .i64 (r x)∧H'=Ht H kp P) c1 ?_;rintro _ _ ⟨rfl,rfl⟩;simp -implicitDefEqProofs -dsimp[];refine aV.mono (K:=fun r' H'=>r' = .int .i64 (r y)∧H'=Ht H kp P) c2 ?_;rintro _ _ ⟨rfl,rfl⟩;simp -implicitDefEqProofs -dsimp[hne,h0,h2,ax,ay,hkl,lx,ly,fK,eZ];refine .inr ⟨aJ (by kernel_rfl),?_⟩;refine aj _ (aG (c3) (by simp)) ?_;simp -implicitDefEqProofs -dsimp[hne]
end
def qG(q:Prob)(P:List Nat)(r:Nat→Nat)(x y:Nat)(b:Bool)(P':List Nat):Prop :=
 (b=false∧¬Okq q)∨(b=true∧eqv q r x y∧P'=P)∨(b=true∧mE P'<mE P∧∃r' h',Frt q P' r' h')
theorem join_vals{q:Prob}{P:List Nat}{r h:Nat→Nat}(f:Frt q P r h){x y:Nat}(hx:x<q.m*q.n)(hy:y<q.m*q.n)(hs:∀σ,Sol q σ→σ x=σ y){v w:Vl}(h1:q.K (r x)=some v)(h2:q.K (r y)=some w):qG q P r x y (gE v w == 0) P:=by
 by_cases he:v=w
 ·refine .inr (.inl ⟨by rw[beq_iff_eq,dQ];exact he,?_,rfl⟩);subst he;exact .inr ⟨v,h1,h2⟩
 ·refine .inl ⟨by rw[beq_eq_false_iff_ne];exact fun h=>he ((dQ v w).1 h),?_⟩;rintro⟨σ,hσ⟩;have e:=hs σ hσ;rw[f.sem σ hσ x hx,f.sem σ hσ y hy,hσ.fix _ v (f.lt x hx) h1,hσ.fix _ w (f.lt y hy) h2]at e;exact he (Sum.inl.inj e)
theorem join_set{q:Prob}{P:List Nat}{r h:Nat→Nat}(f:Frt q P r h){x y i k:Nat}(hx:x<q.m*q.n)(hy:y<q.m*q.n)(hs:∀σ,Sol q σ→σ x=σ y)(hik:(i=r x∧k=r y)∨(i=r y∧k=r x))(hK:q.K k=none):qG q P r x y true (P.set k i):=by
 have hi:i<q.m*q.n:=by rcases hik with⟨rfl,_⟩ | ⟨rfl,_⟩;exact f.lt x hx;exact f.lt y hy
 have hk:k<q.m*q.n:=by rcases hik with⟨_,rfl⟩ | ⟨_,rfl⟩;exact f.lt y hy;exact f.lt x hx
 have rr:∀z,z<q.m*q.n→r (r z)=r z:=fun z hz=>f.self (r z) (f.lt z hz) (f.root z hz)
 have hri:r i=i:=by rcases hik with⟨rfl,_⟩ | ⟨rfl,_⟩;exact rr x hx;exact rr y hy
 have hrk:r k=k:=by rcases hik with⟨_,rfl⟩ | ⟨_,rfl⟩;exact rr y hy;exact rr x hx
 have hpk:P.getD k 0=k:=by have:=f.root k hk;rwa [hrk]at this
 have hkl:k<P.length:=by rw[f.len];exact hk
 by_cases he:i=k
 ·refine .inr (.inl ⟨rfl,?_,?_⟩)
  ·rcases hik with⟨h1,h2⟩ | ⟨h1,h2⟩
   ·exact .inl (by omega)
   ·exact .inl (by omega)
  ·subst he
   have:P[i]=i:=by simpa[hkl] using hpk
   conv=>rhs;rw[←List.set_getElem_self hkl]
   rw[this]
 ·refine .inr (.inr ⟨rfl,cntR_join hkl hpk he,_,_,f.join hi hk hri hrk he hK fun σ hσ=>?_⟩);have e:=hs σ hσ;rw[f.sem σ hσ x hx,f.sem σ hσ y hy]at e
  rcases hik with⟨rfl,rfl⟩ | ⟨rfl,rfl⟩
  ·exact e
  ·exact e.symm
def pM(q:Prob)(r:Nat→Nat)(x y:Nat):Bool:=match q.K (r x),q.K (r y) with
 | some v,some w=>gE v w == 0
 | _,_=>true
def nO(q:Prob)(P:List Nat)(r:Nat→Nat)(x y:Nat):List Nat:=match q.K (r x),q.K (r y) with
 | some _,some _=>P
 | some _,none=>P.set (r y) (r x)
 | none,_=>P.set (r x) (r y)
theorem join_post{q:Prob}{P:List Nat}{r h:Nat→Nat}(f:Frt q P r h){x y:Nat}(hx:x<q.m*q.n)(hy:y<q.m*q.n)(hs:∀σ,Sol q σ→σ x=σ y):qG q P r x y (pM q r x y) (nO q P r x y):=by
 unfold pM nO
 cases hk1:q.K (r x) with
 | none=>exact join_set f hx hy hs (.inr ⟨rfl,rfl⟩) hk1
 | some v =>
  cases hk2:q.K (r y) with
  | none=>exact join_set f hx hy hs (.inl ⟨rfl,rfl⟩) hk2
  | some w=>exact join_vals f hx hy hs hk1 hk2
theorem join_u{q:Prob}{P:List Nat}{r h:Nat→Nat}(f:Frt q P r h){H:List B}{k0 kp kq n N:Nat}(hNe:q.m*q.n=N)(g:HOk H k0 kp kq n N q.K)(hN:N≤1000000)(x y:Nat)(hx:x<N)(hy:y<N):
  az Tryz.prog 95 [.ptr k0 0,.int .i64 x,.int .i64 y] (Ht H kp P) fun r' H'=>r' = .bool (pM q r x y)∧H'=Ht H kp (nO q P r x y):=by
 have h0:=g.at0 P;have h1:=g.atp P;have h2:=g.atq P;have hset:=ht_set (H:=H) (kp:=kp) P;have hkl:=lS q.K N;have c1:=oZ f hNe g hN x hx;have c2:=oZ f hNe g hN y hy;have lx:r x<N:=hNe▸f.lt x (hNe▸hx);have ly:r y<N:=hNe▸f.lt y (hNe▸hy)
 have ax:=fun h=>lT q.K (N:=N) (x:=r x) h
 have ay:=fun h=>lT q.K (N:=N) (x:=r y) h
 have hpl:(paL P).length=N:=by rw[paL_len,f.len,hNe]
 have bx:=fun h=>paL_get (P:=P) (x:=r x) h
 have bY:=fun h=>paL_get (P:=P) (x:=r y) h
 have sx:=paL_set P (r x) (r y);have sy:=paL_set P (r y) (r x);unfold pM nO
 cases hk1:q.K (r x) with
 | none =>
  rw[hk1]at ax;refine aD tok Tryz.func95 rfl rfl ?_;refine wx ?_;simp -implicitDefEqProofs -dsimp[Tryz.f95,List.replicate];refine aV.mono (K:=fun r' H'=>r' = .int .i64 (r x)∧H'=Ht H kp P) c1 ?_;rintro _ _ ⟨rfl,rfl⟩;simp -implicitDefEqProofs -dsimp[];refine aV.mono (K:=fun r' H'=>r' = .int .i64 (r y)∧H'=Ht H kp P) c2 ?_;rintro _ _ ⟨rfl,rfl⟩;simp -implicitDefEqProofs -dsimp[h0,h2,ax,hkl,lx,fK,eZ,h1,hpl,bx,sx,hset]
 | some v =>
  rw[hk1]at ax
  cases hk2:q.K (r y) with
  | none =>
   rw[hk2]at ay;refine aD tok Tryz.func95 rfl rfl ?_;refine wx ?_;simp -implicitDefEqProofs -dsimp[Tryz.f95,List.replicate];refine aV.mono (K:=fun r' H'=>r' = .int .i64 (r x)∧H'=Ht H kp P) c1 ?_;rintro _ _ ⟨rfl,rfl⟩;simp -implicitDefEqProofs -dsimp[];refine aV.mono (K:=fun r' H'=>r' = .int .i64 (r y)∧H'=Ht H kp P) c2 ?_;rintro _ _ ⟨rfl,rfl⟩;simp -implicitDefEqProofs -dsimp[h0,h2,ax,ay,hkl,lx,ly,fK,eZ,h1,hpl,bY,sy,hset]
  | some w =>
   rw[hk2]at ay;have c3:=iT v w;simp only[am]at c3;refine aD tok Tryz.func95 rfl rfl ?_;refine wx ?_;simp -implicitDefEqProofs -dsimp[Tryz.f95,List.replicate];refine aV.mono (K:=fun r' H'=>r' = .int .i64 (r x)∧H'=Ht H kp P) c1 ?_;rintro _ _ ⟨rfl,rfl⟩;simp -implicitDefEqProofs -dsimp[];refine aV.mono (K:=fun r' H'=>r' = .int .i64 (r y)∧H'=Ht H kp P) c2 ?_;rintro _ _ ⟨rfl,rfl⟩;simp -implicitDefEqProofs -dsimp[h0,h2,ax,ay,hkl,lx,ly,fK,eZ];refine .inr ⟨aJ (by kernel_rfl),?_⟩;refine aj _ (aG (c3) (by simp)) ?_;simp -implicitDefEqProofs -dsimp[]
section
def AgrE(q:Prob)(r:Nat→Nat)(i k:Nat)(s:Int)(n:Nat):Prop:=∀a,a<n→ft s a=true→eqv q r (i*q.n+a) (k*q.n+a)
open Classical in
noncomputable def agB(q:Prob)(r:Nat→Nat)(i k:Nat)(s:Int):Bool:=decide (AgrE q r i k s q.n)
theorem kP{q:Prob}{r:Nat→Nat}{i k:Nat}{s:Int} : agB q r i k s=true↔AgrE q r i k s q.n:=by unfold agB;simp
theorem agB_no{q:Prob}{r:Nat→Nat}{i k:Nat}{s:Int}{a:Nat}(ha:a<q.n)(hb:ft s a=true)(he:eqvB q r (i*q.n+a) (k*q.n+a)=false):agB q r i k s=false:=by
 cases hc:agB q r i k s
 ·rfl
 ·have:=ja.2 (kP.1 hc a ha hb);rw[he]at this;cases this
theorem dJ(s:Int)(a:Nat):(IntKind.u32.wrap ↑((s.fdiv (2^min a IntKind.u32.bits) % 2^IntKind.u32.bits).toNat &&& 1 % 2^IntKind.u32.bits)== 1)=ft s a:=rfl
theorem ptrRb{H:List B}{k0 kp kq n N:Nat}{K:Nat→Option Vl}(g:HOk H k0 kp kq n N K)(P:List Nat):k0<(Ht H kp P).length:=by rw[gf];exact g.lt0
theorem agree_u{q:Prob}{P:List Nat}{r h:Nat→Nat}(f:Frt q P r h){H:List B}{k0 kp kq n N:Nat}(hNe:q.m*q.n=N)(hn:q.n=n)(g:HOk H k0 kp kq n N q.K)(hN:N≤1000000)(i k:Nat)(s:Int)(hi:i<q.m)(hk:k<q.m)(hn2:n≤16):
  az Tryz.prog 94 [.ptr k0 0,.int .i64 i,.int .i64 k,.int .u32 s] (Ht H kp P) fun r' H'=>r' = .bool (agB q r i k s)∧H'=Ht H kp P:=by
 obtain⟨E,hE⟩:∃E,E=agB q r i k s:=⟨_,rfl⟩;rw[←hE];have h0:=g.at0 P;have hrb:=g.rbs P;have hl0:=ptrRb g P;refine aD tok Tryz.func94 rfl rfl ?_;refine wx ?_;simp -implicitDefEqProofs -dsimp[Tryz.f94,List.replicate,h0];refine aK (W_loopM 44 [8,9,14,15,16,17,18,19,20,21,22,23,24,25,26,27,28,29,30,31,32,33,34,35,36,37,38,39,40,41,42,43] (by simp[mB]<;>rfl) (σ:=Nat) (fun a=>a≤n∧AgrE q r i k s a) (fun a=>n-a) (fun a=>[(14,.int .i64 a)]) (fun _=>Ht H kp P) 0 ⟨by omega,fun a ha=>by omega⟩ (by simp) rfl (by simp) ?_);rintro a ⟨ha,hx⟩ N2 Q hN2 hQ;by_cases hb:a<n
 ·have li:=bB hi (hn▸hb);have lk:=bB hk (hn▸hb);have ci:=same_u f hNe g hN (i*q.n+a) (k*q.n+a) (hNe▸li) (hNe▸lk);have hx2:AgrE q r i k s a:=hx;cases hh:ft s a
  ·refine wx ?_;simp -implicitDefEqProofs -dsimp[h0,hb,dJ,hh,show(a:Int)<32 by omega];refine .inr ⟨aJ (by kernel_rfl),?_⟩;simp -implicitDefEqProofs -dsimp[aM a (by omega)];refine hN2 (a+1) _ _ ⟨by omega,fun b hb1 hb2=>?_⟩ (by omega) (by simp) ⟨[],by simp⟩ (by simp[hl0]) hrb
   rcases Nat.lt_or_ge b a with h1 | h1
   ·exact hx b h1 hb2
   ·have:b=a:=by omega
    subst this;rw[hh]at hb2;cases hb2
  ·rw[hn]at li lk ci
   have hNe2:q.m*n=N:=by rw[←hn];exact hNe
   rw[hNe2]at li lk
   have w1:IntKind.i64.wrap ((i:Int)*n)=((i*n:Nat):Int):=by rw[wrap64 (by omega) (by omega)];push_cast;rfl
   have w2:IntKind.i64.wrap ((k:Int)*n)=((k*n:Nat):Int):=by rw[wrap64 (by omega) (by omega)];push_cast;rfl
   have w3:IntKind.i64.wrap (((i*n:Nat):Int)+(a:Int))=((i*n+a:Nat):Int):=by rw[wrap64 (by omega) (by omega)];push_cast;rfl
   have w4:IntKind.i64.wrap (((k*n:Nat):Int)+(a:Int))=((k*n+a:Nat):Int):=by rw[wrap64 (by omega) (by omega)];push_cast;rfl
   have e1:i*q.n+a=i*n+a:=by rw[hn]
   have e2:k*q.n+a=k*n+a:=by rw[hn]
   obtain⟨xi,hxi⟩:∃xi,xi=i*n+a:=⟨_,rfl⟩;obtain⟨xk,hxk⟩:∃xk,xk=k*n+a:=⟨_,rfl⟩;obtain⟨yi,hyi⟩:∃yi,yi=i*n:=⟨_,rfl⟩;obtain⟨yk,hyk⟩:∃yk,yk=k*n:=⟨_,rfl⟩;rw[←hxi]at w3 e1 ci;rw[←hxk]at w4 e2 ci;rw[←hyi]at w1 w3;rw[←hyk]at w2 w4;cases he:eqvB q r xi xk
   ·rw[he]at ci;have hno:=agB_no (k:=k) (i:=i) (hn▸hb) hh (by rw[e1,e2];exact he);rw[hno]at hE;refine wx ?_;simp -implicitDefEqProofs -dsimp[h0,hb,dJ,hh,show(a:Int)<32 by omega,w1,w2,w3,w4];refine .inr ⟨aJ (by kernel_rfl),?_⟩;refine aj _ ci ?_;simp -implicitDefEqProofs -dsimp[hh];refine hQ _ _ _ ?_;simp -implicitDefEqProofs -dsimp[];exact hE
   ·rw[he]at ci;refine wx ?_;simp -implicitDefEqProofs -dsimp[h0,hb,dJ,hh,show(a:Int)<32 by omega,w1,w2,w3,w4];refine .inr ⟨aJ (by kernel_rfl),?_⟩;refine aj _ ci ?_;simp -implicitDefEqProofs -dsimp[hh,aM a (by omega)];refine hN2 (a+1) _ _ ⟨by omega,fun b hb1 hb2=>?_⟩ (by omega) (by simp) ⟨[],by simp⟩ (by simp[hl0]) hrb
    rcases Nat.lt_or_ge b a with h1 | h1
    ·exact hx b h1 hb2
    ·have:b=a:=by omega
     subst this;rw[e1,e2];exact ja.1 he
 ·have hyes:agB q r i k s=true:=kP.2 fun b hb1 hb2=>hx b (by omega) hb2
  rw[hyes]at hE;refine wx ?_;simp -implicitDefEqProofs -dsimp[hb];refine hQ _ _ _ ?_;simp -implicitDefEqProofs -dsimp[];exact hE
end
section
def bo(fds:List Fd):Prop:=fds.length≤1000000∧∀d∈fds,d.l<4294967296∧d.r<4294967296
def ClsP(q:Prob)(r:Nat→Nat)(d:Fd)(i k:Nat):Prop:=AgrE q r i k d.l q.n→AgrE q r i k d.r q.n
def ClsD(q:Prob)(r:Nat→Nat)(d:Fd)(m:Nat):Prop:=∀i k,i<m→k<i→ClsP q r d i k
theorem qD{q:Prob}{r:Nat→Nat}{i k s:Nat}(hs:s<4294967296)(hn:q.n≤16):AgrE q r i k s q.n↔∀a,a<q.n→s.testBit a=true→eqv q r (i*q.n+a) (k*q.n+a):=by
 unfold AgrE;constructor
 ·intro h a ha hb;exact h a ha (by rw[eG s a hs (by omega)];exact hb)
 ·intro h a ha hb;exact h a ha (by rw[eG s a hs (by omega)]at hb;exact hb)
theorem closed_of{q:Prob}{r:Nat→Nat}(hn:q.n≤16)(hd:∀d∈q.fds,d.l<4294967296∧d.r<4294967296)(h:∀d∈q.fds,ClsD q r d q.m):eO q r:=fun d hd1 i k hi hk hl =>
 (qD (hd d hd1).2 hn).1 (h d hd1 i k hi hk ((qD (hd d hd1).1 hn).2 hl))
theorem must{q:Prob}{P:List Nat}{r h:Nat→Nat}(f:Frt q P r h)(hn:q.n≤16){d:Fd}(hd:d∈q.fds)(hb:d.l<4294967296∧d.r<4294967296){i k a:Nat}(hi:i<q.m)(hk:k<i)(hl:AgrE q r i k d.l q.n)(ha:a<q.n)(hr:ft d.r a=true):
  ∀σ,Sol q σ→σ (i*q.n+a)=σ (k*q.n+a):=fun σ hσ=>by
 refine hσ.dep d hd i k hi hk (fun b hb1 hb2=>?_) a ha (by rw[eG _ _ hb.2 (by omega)]at hr;exact hr);exact f.eqv_sem hσ (bB hi hb1) (bB (by omega) hb1) ((qD hb.1 hn).1 hl b hb1 hb2)
theorem ht_app(H:List B)(kp:Nat)(P:List Nat)(c:B)(h:kp<H.length):Ht H kp P++[c]=Ht (H++[c]) kp P:=by
 unfold Ht;rw[List.set_append_left _ _ h]
theorem rb1_mono{n m:Nat}(h:n≤m){v:V}(hv:rb1 n v):rb1 m v:=by
 cases v<;>simp only[rb1]at hv ⊢<;>first | exact hv | omega | trivial
theorem nt{n m:Nat}(h:n≤m){v:V}(hv:rb n v):rb m v:=by
 cases v<;>simp only[rb]at hv ⊢<;>first | exact rb1_mono h hv | exact fun c hc=>rb1_mono h (hv c hc) | trivial
theorem ej{n m:Nat}(h:n≤m){bl:B}(hb:rbB n bl):rbB m bl:=by
 cases bl with
 | cells cs=>exact fun c hc=>nt h (hb c hc)
 | map kk es=>exact fun p hp=>⟨nt h (hb p hp).1,nt h (hb p hp).2⟩
 | buf e z xs fz=>exact fun x hx c hc=>nt h (hb x hx c hc)
theorem HOk.app{H:List B}{k0 kp kq n N:Nat}{K:Nat→Option Vl}(g:HOk H k0 kp kq n N K)(a b:Int):HOk (H++[B.cells [.int .u32 a,.int .u32 b]]) k0 kp kq n N K:=by
 refine⟨?_,by have:=g.hp;simp;omega,?_,g.n0,g.nq,fun P bl hb=>?_⟩
 ·rw[List.getElem?_append_left g.lt0];exact g.h0
 ·rw[List.getElem?_append_left (aE g.hq)];exact g.hq
 ·rw[←ht_app _ _ _ _ g.hp]at hb
  rcases List.mem_append.1 hb with hb | hb
  ·have:=g.rb P bl hb;exact ej (by simp) this
  ·simp only[List.mem_singleton]at hb;subst hb;simp
open Classical in
noncomputable def rFn(q:Prob)(P:List Nat):Nat→Nat:=if h:∃r h,Frt q P r h then h.choose else id
def Fr(q:Prob)(P:List Nat):Prop:=∃h,Frt q P (rFn q P) h
theorem nR{q:Prob}{P:List Nat}{r h:Nat→Nat}(f:Frt q P r h):Fr q P:=by
 have hex:∃r h,Frt q P r h:=⟨r,h,f⟩;unfold Fr rFn;rw[dif_pos hex];exact hex.choose_spec
inductive FlSt where
 | top (ag:Bool) (P:List Nat)
 | fd (j:Nat) (ag:Bool) (P:List Nat)
 | row (j i:Nat) (ag:Bool) (P:List Nat)
 | col (j i k:Nat) (ag:Bool) (P:List Nat)
 | att (j i k a:Nat) (P:List Nat)
 | done (b:Bool) (P:List Nat) (tl:List B)
def fdAt(q:Prob)(j:Nat):Fd:=q.fds.getD j ⟨0,0⟩
def fdB(d:Fd):B:=B.cells [.int .u32 (d.l:Int),.int .u32 (d.r:Int)]
open Classical in
noncomputable def kh(q:Prob):FlSt→FlSt
 | .top false P=>.done true P []
 | .top true P=>.fd 0 false P
 | .fd j ag P=>if j<q.fds.length then .row j 0 ag P else .top ag P
 | .row j i ag P=>if i<q.m then .col j i 0 ag P else .fd (j+1) ag P
 | .col j i k ag P=>if k<i then(if agB q (rFn q P) i k (fdAt q j).l=false∨agB q (rFn q P) i k (fdAt q j).r=true then .col j i (k+1) ag P else .att j i k 0 P) else .row j (i+1) ag P
 | .att j i k a P=>if a<q.n then(if ft (fdAt q j).r a=true then(if pM q (rFn q P) (i*q.n+a) (k*q.n+a)=true then .att j i k (a+1) (nO q P (rFn q P) (i*q.n+a) (k*q.n+a)) else .done false (nO q P (rFn q P) (i*q.n+a) (k*q.n+a)) [fdB (fdAt q j)]) else .att j i k (a+1) P) else .col j i (k+1) true P
 | .done b P tl=>.done b P tl
noncomputable def fit(q:Prob):Nat→FlSt→FlSt
 | 0,s=>s
 | n+1,s=>fit q n (kh q s)
theorem oD(q:Prob):∀(n k:Nat) (s:FlSt),fit q (n+k) s=fit q k (fit q n s)
 | 0,k,s=>by rw[Nat.zero_add];rfl
 | n+1,k,s=>by rw[show n+1+k=(n+k)+1 by omega];exact oD q n k (kh q s)
theorem pW(q:Prob)(b:Bool)(P:List Nat)(tl:List B):∀n,fit q n (.done b P tl)= .done b P tl
 | 0=>rfl
 | n+1=>pW q b P tl n
def Rch(q:Prob)(s t:FlSt):Prop:=∃n,fit q n s=t
theorem Rch.refl(q:Prob)(s:FlSt):Rch q s s:=⟨0,rfl⟩
theorem Rch.step{q:Prob}{s t u:FlSt}(h:Rch q s t)(hs:kh q t=u):Rch q s u:=by
 obtain⟨n,hn⟩:=h;refine⟨n+1,?_⟩;rw[oD,hn];exact hs
theorem Rch.uniq{q:Prob}{s:FlSt}{b b':Bool}{P P':List Nat}{tl tl':List B}(h:Rch q s (.done b P tl))(g:Rch q s (.done b' P' tl')):FlSt.done b P tl = .done b' P' tl':=by
 obtain⟨n,hn⟩:=h;obtain⟨m,hm⟩:=g
 rcases Nat.le_total n m with e | e
 ·obtain⟨k,rfl⟩:=Nat.exists_eq_add_of_le e;rw[oD,hn,pW]at hm;exact hm
 ·obtain⟨k,rfl⟩:=Nat.exists_eq_add_of_le e;rw[oD,hm,pW]at hn;exact hn.symm
open Classical in
noncomputable def pb(q:Prob)(P:List Nat):List Nat:=if h:∃o:Bool×List Nat×List B,Rch q (.top true P) (.done o.1 o.2.1 o.2.2) then h.choose.2.1 else P
open Classical in
noncomputable def fillT(q:Prob)(P:List Nat):List B:=if h:∃o:Bool×List Nat×List B,Rch q (.top true P) (.done o.1 o.2.1 o.2.2) then h.choose.2.2 else []
theorem fill_eq{q:Prob}{P P':List Nat}{b:Bool}{tl:List B}(h:Rch q (.top true P) (.done b P' tl)):pb q P=P'∧fillT q P=tl:=by
 have hex:∃o:Bool×List Nat×List B,Rch q (.top true P) (.done o.1 o.2.1 o.2.2):=⟨(b,P',tl),h⟩;have:=Rch.uniq hex.choose_spec h;unfold pb fillT;rw[dif_pos hex,dif_pos hex];simp only[FlSt.done.injEq]at this;exact⟨this.2.1,this.2.2⟩
def Mid(q:Prob)(P0:List Nat)(ag:Bool)(P:List Nat)(C:(Nat→Nat)→Prop):Prop:=Fr q P∧(ag=true→mE P<mE P0)∧(ag=false→P=P0∧C (rFn q P))
theorem Mid.imp{q:Prob}{P0 P:List Nat}{ag:Bool}{C C':(Nat→Nat)→Prop}(h:Mid q P0 ag P C)(hi:ag=false→∀r,C r→C' r):Mid q P0 ag P C':=by
 obtain⟨a,b,c⟩:=h;exact⟨a,b,fun e=>⟨(c e).1,hi e _ (c e).2⟩⟩
theorem fill_u{q:Prob}{P0:List Nat}{r0 h0':Nat→Nat}(f0:Frt q P0 r0 h0'){H:List B}{k0 kp kq n N:Nat}(hNe:q.m*q.n=N)(hn:q.n=n)(g:HOk H k0 kp kq n N q.K)(hN:N≤1000000)(hn2:n≤16)(hm:q.m≤1000000)(ff:Bool)(hF:bo q.fds):
  az Tryz.prog 52 [.ptr k0 0,.int .i64 q.m,LF ff q.fds] (Ht H kp P0) fun r' H'=>r' = .bool (okB q)∧H'=Ht H kp (pb q P0)++fillT q P0∧(okB q=true→fillT q P0=[]∧Fr q (pb q P0)∧eO q (rFn q (pb q P0))):=by
 obtain⟨hF1,hF2⟩:=hF;obtain⟨fds,hfds⟩:∃fds,fds=q.fds:=⟨_,rfl⟩;rw[←hfds]at hF1 hF2 ⊢;obtain⟨m,hme⟩:∃m,m=q.m:=⟨_,rfl⟩;rw[←hme]at hm ⊢;refine aD tok Tryz.func52 rfl rfl ?_;refine wx ?_;simp -implicitDefEqProofs -dsimp[Tryz.f52,List.replicate,LF];refine aK (W_loopM 81 [6,7,9,10,11,12,13,14,15,16,17,18,19,20,21,22,23,24,25,26,27,28,29,30,31,32,33,34,35,36,37,38,39,40,41,42,43,44,45,46,47,48,49,50,51,52,53,54,55,56,57,58,59,60,61,62,63,64,65,66,67,68,69,70,71,72,73,74,75,76,77,78,79,80] (by simp[mB]<;>rfl) (σ:=Bool×List Nat) (fun p=>Fr q p.2∧(p.1=false→eO q (rFn q p.2))∧Rch q (.top true P0) (.top p.1 p.2)) (fun p=>mE p.2+(if p.1 then 1 else 0)) (fun p=>[(7,.bool p.1)]) (fun p=>Ht H kp p.2) (true,P0) ⟨nR f0,(fun h=>by cases h),Rch.refl _ _⟩ (by simp) rfl (by simp[gf]) ?_);rintro⟨ag,P⟩ ⟨f,hcl,hR⟩ N1 Q1 hN1 hQ1;simp only at f hcl hR;have hl0:=ptrRb g P
 cases ag with
 | false =>
  refine wx ?_;simp -implicitDefEqProofs -dsimp[];refine hQ1 _ _ _ ?_;simp -implicitDefEqProofs -dsimp[];obtain⟨e1,e2⟩:=fill_eq (hR.step (u:=.done true P []) rfl);obtain⟨h,f⟩:=f;rw[okB_true ⟨_,f.sol (hcl rfl)⟩,e1,e2];exact⟨rfl,by rw[List.append_nil],fun _=>⟨rfl,⟨h,f⟩,hcl rfl⟩⟩
 | true =>
  refine wx ?_;simp -implicitDefEqProofs -dsimp[];refine aK (W_loopM 81 [6,7,9,10,11,12,16,17,18,19,20,21,22,23,24,25,26,27,28,29,30,31,32,33,34,35,36,37,38,39,40,41,42,43,44,45,46,47,48,49,50,51,52,53,54,55,56,57,58,59,60,61,62,63,64,65,66,67,68,69,70,71,72,73,74,75,76,77,78,79,80] (by simp[mB]<;>rfl) (σ:=Nat×Bool×List Nat) (fun p=>p.1≤fds.length∧Mid q P p.2.1 p.2.2 (fun r=>∀d∈fds.take p.1,ClsD q r d m)∧Rch q (.top true P0) (.fd p.1 p.2.1 p.2.2)) (fun p=>fds.length-p.1) (fun p=>[(16,.int .i64 p.1),(7,.bool p.2.1)]) (fun p=>Ht H kp p.2.2) (0,false,P) ⟨by simp,⟨f,by simp,fun _=>⟨rfl,by simp⟩⟩,hR.step rfl⟩ (by simp) rfl (by simp[gf]) ?_);rintro⟨j,ag2,P2⟩ ⟨hj,hmid,hR2⟩ N2 Q2 hN2 hQ2;simp only at hj hmid hR2 hN2;by_cases hjb:j<fds.length
  ·have hdm:fds[j]∈fds:=List.getElem_mem hjb;obtain⟨d,hd⟩:∃d,d=fds[j]:=⟨_,rfl⟩;rw[←hd]at hdm;have hd':=hd.symm;have hdb:=hF2 d hdm;have g2:=g.app d.l d.r;obtain⟨H2,hH2⟩:∃H2,H2=H++[B.cells [.int .u32 (d.l:Int),.int .u32 (d.r:Int)]]:=⟨_,rfl⟩;rw[←hH2]at g2
   have happ:∀P,Ht H kp P++[B.cells [.int .u32 (d.l:Int),.int .u32 (d.r:Int)]]=Ht H2 kp P:=fun P=>by rw[ht_app _ _ _ _ g.hp,hH2]
   have hcell:∀P,(Ht H2 kp P)[H.length]?=some (B.cells [.int .u32 (d.l:Int),.int .u32 (d.r:Int)]):=fun P=>by
    rw[←happ P,List.getElem?_append_right (by rw[gf];omega),gf];simp
   have hlc:∀P,H.length<(Ht H2 kp P).length:=fun P=>by rw[gf,hH2];simp
   have hlen:=fun P=>gf H kp P
   have hlen2:=fun P=>gf H2 kp P
   have hle:H.length≤H2.length:=by rw[hH2];simp
   have hl2:=fun P=>ptrRb g2 P
   have hrb2:=fun P=>g2.rbs P
   refine wx ?_;simp -implicitDefEqProofs -dsimp[hjb,eP,hd',happ,hlen];refine aK (W_loopM 80 [6,7,10,11,12,21,22,23,24,25,26,27,28,29,30,31,32,33,34,35,36,37,38,39,40,41,42,43,44,45,46,47,48,49,50,51,52,53,54,55,56,57,58,59,60,61,62,63,64,65,66,67,68,69,70,71,72,73,74,75,76,77,78,79] (by simp[mB]<;>rfl) (σ:=Nat×Bool×List Nat) (fun p=>p.1≤m∧Mid q P p.2.1 p.2.2 (fun r=>(∀d∈fds.take j,ClsD q r d m)∧ClsD q r d p.1)∧Rch q (.top true P0) (.row j p.1 p.2.1 p.2.2)) (fun p=>m-p.1) (fun p=>[(21,.int .i64 p.1),(7,.bool p.2.1)]) (fun p=>Ht H2 kp p.2.2) (0,ag2,P2) ⟨by simp,hmid.imp fun _ r hr=>⟨hr,fun i k hi=>by omega⟩,hR2.step (by simp only[kh,if_pos (hfds▸hjb)])⟩ (by simp) rfl (by simp[hlen2,hle]) ?_);rintro⟨i,ag3,P3⟩ ⟨hi,hmid3,hR3⟩ N3 Q3 hN3 hQ3;simp only at hi hmid3 hR3 hN3;by_cases hib:i<m
   ·refine wx ?_;simp -implicitDefEqProofs -dsimp[hib];refine aK (W_loopM 79 [6,7,11,12,25,26,27,28,29,30,31,32,33,34,35,36,37,38,39,40,41,42,43,44,45,46,47,48,49,50,51,52,53,54,55,56,57,58,59,60,61,62,63,64,65,66,67,68,69,70,71,72,73,74,75,76,77,78] (by simp[mB]<;>rfl) (σ:=Nat×Bool×List Nat) (fun p=>p.1≤i∧Mid q P p.2.1 p.2.2 (fun r=>(∀d∈fds.take j,ClsD q r d m)∧ClsD q r d i∧∀k,k<p.1→ClsP q r d i k)∧Rch q (.top true P0) (.col j i p.1 p.2.1 p.2.2)) (fun p=>i-p.1) (fun p=>[(25,.int .i64 p.1),(7,.bool p.2.1)]) (fun p=>Ht H2 kp p.2.2) (0,ag3,P3) ⟨by simp,hmid3.imp fun _ r hr=>⟨hr.1,hr.2,fun k hk=>by omega⟩,hR3.step (by simp only[kh,if_pos (hme▸hib)])⟩ (by simp) rfl (by simp[hlen2]) ?_);rintro⟨k,ag4,P4⟩ ⟨hk,hmid4,hR4⟩ N4 Q4 hN4 hQ4;simp only at hk hmid4 hR4 hN4;by_cases hkb:k<i
    ·obtain⟨f4',m1,m2⟩:=hmid4;obtain⟨h4,f4⟩:=f4';obtain⟨r4,hr4⟩:∃r4,r4=rFn q P4:=⟨_,rfl⟩;rw[←hr4]at f4 m2
     have hfd:fdAt q j=d:=by rw[hd,←show fds.getD j ⟨0,0⟩=fds[j] by simp[hjb],hfds];rfl
     have c1:=agree_u f4 hNe hn g2 hN i k (d.l:Int) (by omega) (by omega) hn2;have c2:=agree_u f4 hNe hn g2 hN i k (d.r:Int) (by omega) (by omega) hn2
     have same:∀(hP:ClsP q r4 d i k),∀(N:List V→List B→Prop),True:=fun _ _=>trivial
     cases ha1:agB q r4 i k d.l with
     | false =>
      rw[ha1]at c1
      have hcp:ClsP q r4 d i k:=fun hx=>by rw[kP.2 hx]at ha1;cases ha1
      refine wx ?_;simp -implicitDefEqProofs -dsimp[hkb,hcell];refine aV.mono (K:=fun r' H'=>r' = .bool false∧H'=Ht H2 kp P4) c1 ?_;rintro _ _ ⟨rfl,rfl⟩;simp -implicitDefEqProofs -dsimp[aM k (by omega)];refine hN4 (k+1,ag4,P4) _ _ ⟨by simp only;omega,⟨nR f4,m1,fun e=>⟨(m2 e).1,hr4▸⟨(m2 e).2.1,(m2 e).2.2.1,fun k' hk'=>?_⟩⟩⟩,hR4.step (by simp only[kh,if_pos hkb,←hr4,hfd];rw[if_pos (.inl ha1)])⟩ (by simp only;omega) (by simp) ⟨[],by simp⟩ (by simp[hl2,hlc]) (hrb2 _)
      rcases Nat.lt_or_ge k' k with e1 | e1
      ·exact(m2 e).2.2.2 k' e1
      ·have:k'=k:=by simp only at hk';omega
       subst this;exact hcp
     | true =>
      rw[ha1]at c1
      cases ha2:agB q r4 i k d.r with
      | true =>
       rw[ha2]at c2
       have hcp:ClsP q r4 d i k:=fun _=>kP.1 ha2
       refine wx ?_;simp -implicitDefEqProofs -dsimp[hkb,hcell];refine aV.mono (K:=fun r' H'=>r' = .bool true∧H'=Ht H2 kp P4) c1 ?_;rintro _ _ ⟨rfl,rfl⟩;simp -implicitDefEqProofs -dsimp[hcell];refine aV.mono (K:=fun r' H'=>r' = .bool true∧H'=Ht H2 kp P4) c2 ?_;rintro _ _ ⟨rfl,rfl⟩;simp -implicitDefEqProofs -dsimp[aM k (by omega)];refine hN4 (k+1,ag4,P4) _ _ ⟨by simp only;omega,⟨nR f4,m1,fun e=>⟨(m2 e).1,hr4▸⟨(m2 e).2.1,(m2 e).2.2.1,fun k' hk'=>?_⟩⟩⟩,hR4.step (by simp only[kh,if_pos hkb,←hr4,hfd];rw[if_pos (.inr ha2)])⟩ (by simp only;omega) (by simp) ⟨[],by simp⟩ (by simp[hl2,hlc]) (hrb2 _)
       rcases Nat.lt_or_ge k' k with e1 | e1
       ·exact(m2 e).2.2.2 k' e1
       ·have:k'=k:=by simp only at hk';omega
        subst this;exact hcp
      | false =>
       rw[ha2]at c2
       have hle4:mE P4≤mE P:=by
        cases ag4 with
        | true=>exact Nat.le_of_lt (m1 rfl)
        | false=>rw[(m2 rfl).1];exact Nat.le_refl _
       have h0a:=g2.at0;refine wx ?_;simp -implicitDefEqProofs -dsimp[hkb,hcell];refine aV.mono (K:=fun r' H'=>r' = .bool true∧H'=Ht H2 kp P4) c1 ?_;rintro _ _ ⟨rfl,rfl⟩;simp -implicitDefEqProofs -dsimp[hcell];refine aV.mono (K:=fun r' H'=>r' = .bool false∧H'=Ht H2 kp P4) c2 ?_;rintro _ _ ⟨rfl,rfl⟩;simp -implicitDefEqProofs -dsimp[h0a];refine aK (W_loopM 78 [6,12,47,48,49,50,51,52,53,54,55,56,57,58,59,60,61,62,63,64,65,66,67,68,69,70,71,72,73,74,75,76,77] (by simp[mB]<;>rfl) (σ:=Nat×List Nat) (fun p=>p.1≤n∧Fr q p.2∧(mE p.2<mE P4∨(p.2=P4∧AgrE q r4 i k d.r p.1))∧Rch q (.top true P0) (.att j i k p.1 p.2)) (fun p=>n-p.1) (fun p=>[(47,.int .i64 p.1)]) (fun p=>Ht H2 kp p.2) (0,P4) ⟨by simp,nR f4,.inr ⟨rfl,fun b hb=>by omega⟩,hR4.step (by simp only[kh,if_pos hkb,←hr4,hfd];rw[if_neg (by rw[ha1,ha2];simp)])⟩ (by simp) rfl (by simp[hlen2]) ?_);rintro⟨a,P5⟩ ⟨ha,f5',hdj,hR5⟩ N5 Q5 hN5 hQ5;simp only at ha f5' hdj hR5 hN5;obtain⟨h5,f5⟩:=f5';obtain⟨r5,hr5⟩:∃r5,r5=rFn q P5:=⟨_,rfl⟩;rw[←hr5]at f5;have h0b:=g2.at0 P5;by_cases hab:a<n
       ·cases hh:ft (d.r:Int) a with
        | false =>
         refine wx ?_;simp -implicitDefEqProofs -dsimp[hab,hcell,dJ,hh,show(a:Int)<32 by omega];refine .inr ⟨aJ (by kernel_rfl),?_⟩;simp -implicitDefEqProofs -dsimp[aM a (by omega)];refine hN5 (a+1,P5) _ _ ⟨by simp only;omega,nR f5,?_,hR5.step (by simp only[kh,if_pos (hn▸hab),hfd,hh];rw[if_neg (by simp)])⟩ (by simp only;omega) (by simp) ⟨[],by simp⟩ (by simp[hl2,hlc]) (hrb2 _)
         rcases hdj with e1 | ⟨e1,e3⟩
         ·exact .inl e1
         ·refine .inr ⟨e1,fun b hb1 hb2=>?_⟩
          rcases Nat.lt_or_ge b a with e4 | e4
          ·exact e3 b e4 hb2
          ·have:b=a:=by simp only at hb1;omega
           subst this;rw[hh]at hb2;cases hb2
        | true =>
         have li:=bB (n:=n) (show i<q.m by omega) hab;have lk:=bB (n:=n) (show k<q.m by omega) hab
         have hNe2:q.m*n=N:=by rw[←hn];exact hNe
         have hmust:=must f4 (by omega) (hfds▸hdm) hdb (show i<q.m by omega) hkb (kP.1 ha1) (hn▸hab) hh;rw[hn]at hmust
         have li':i*n+a<q.m*q.n:=by rw[hn];exact li
         have lk':k*n+a<q.m*q.n:=by rw[hn];exact lk
         have hpost:=join_post f5 li' lk' hmust;have cj:=join_u f5 hNe g2 hN (i*n+a) (k*n+a) (by omega) (by omega);rw[hNe2]at li lk
         have w1:IntKind.i64.wrap ((i:Int)*n)=((i*n:Nat):Int):=by rw[wrap64 (by omega) (by omega)];push_cast;rfl
         have w2:IntKind.i64.wrap ((k:Int)*n)=((k*n:Nat):Int):=by rw[wrap64 (by omega) (by omega)];push_cast;rfl
         have w3:IntKind.i64.wrap (((i*n:Nat):Int)+(a:Int))=((i*n+a:Nat):Int):=by rw[wrap64 (by omega) (by omega)];push_cast;rfl
         have w4:IntKind.i64.wrap (((k*n:Nat):Int)+(a:Int))=((k*n+a:Nat):Int):=by rw[wrap64 (by omega) (by omega)];push_cast;rfl
         have e1:i*q.n+a=i*n+a:=by rw[hn]
         have e2:k*q.n+a=k*n+a:=by rw[hn]
         obtain⟨xi,hxi⟩:∃xi,xi=i*n+a:=⟨_,rfl⟩;obtain⟨xk,hxk⟩:∃xk,xk=k*n+a:=⟨_,rfl⟩;obtain⟨yi,hyi⟩:∃yi,yi=i*n:=⟨_,rfl⟩;obtain⟨yk,hyk⟩:∃yk,yk=k*n:=⟨_,rfl⟩;rw[←hxi]at w3 e1;rw[←hxk]at w4 e2;rw[←hxi,←hxk]at cj hpost;rw[←hyi]at w1 w3;rw[←hyk]at w2 w4;obtain⟨jb,hjb⟩:∃b,b=pM q r5 xi xk:=⟨_,rfl⟩;obtain⟨jp,hjp⟩:∃b,b=nO q P5 r5 xi xk:=⟨_,rfl⟩;rw[←hjb,←hjp]at cj hpost
         have hjb2:pM q (rFn q P5) (i*q.n+a) (k*q.n+a)=jb:=by rw[←hr5,e1,e2];exact hjb.symm
         have hjp2:nO q P5 (rFn q P5) (i*q.n+a) (k*q.n+a)=jp:=by rw[←hr5,e1,e2];exact hjp.symm
         cases jb with
         | false =>
          have hno:¬Okq q:=by
           rcases hpost with⟨_,e⟩ | ⟨e,_⟩ | ⟨e,_⟩
           ·exact e
           ·cases e
           ·cases e
          refine wx ?_;simp -implicitDefEqProofs -dsimp[hab,hcell,dJ,hh,show(a:Int)<32 by omega,h0b,w1,w2,w3,w4];refine .inl (aK (ai tok mixed [24] [] [(.bool false,Ht H2 kp jp)] (by kernel_rfl) fun C K hC hK=>?_));simp -implicitDefEqProofs [hcell,dJ,hh,show(a:Int)<32 by omega,h0b,w1,w2,w3,w4];refine⟨hC _ _ _ _ cj,hK _ _ ?_⟩;simp -implicitDefEqProofs -dsimp[];refine hQ5 _ _ _ ?_;simp -implicitDefEqProofs -dsimp[];refine hQ4 _ _ _ ?_;simp -implicitDefEqProofs -dsimp[];refine hQ3 _ _ _ ?_;simp -implicitDefEqProofs -dsimp[];refine hQ2 _ _ _ ?_;simp -implicitDefEqProofs -dsimp[];refine hQ1 _ _ _ ?_;simp -implicitDefEqProofs -dsimp[];obtain⟨x1,x2⟩:=fill_eq (hR5.step (u:=.done false jp [fdB d]) (by simp only[kh,if_pos (hn▸hab),hfd,if_pos hh,hjb2,hjp2];rw[if_neg (by simp)]));rw[okB_false hno,x1,x2];exact⟨rfl,by rw[fdB,happ],fun e=>by cases e⟩
         | true =>
          refine wx ?_;simp -implicitDefEqProofs -dsimp[hab,hcell,dJ,hh,show(a:Int)<32 by omega,h0b,w1,w2,w3,w4];refine .inl (aK (ai tok mixed [24] [] [(.bool true,Ht H2 kp jp)] (by kernel_rfl) fun C K hC hK=>?_));simp -implicitDefEqProofs [hcell,dJ,hh,show(a:Int)<32 by omega,h0b,w1,w2,w3,w4];refine⟨hC _ _ _ _ cj,hK _ _ ?_⟩;simp -implicitDefEqProofs -dsimp[aM a (by omega)];have hRn:=hR5.step (u:=.att j i k (a+1) jp) (by simp only[kh,if_pos (hn▸hab),hfd,if_pos hh,hjb2,hjp2];rw[if_pos trivial]);refine hN5 (a+1,jp) _ _ ⟨by simp only;omega,?_⟩ (by simp only;omega) (by simp) ⟨[],by simp⟩ (by simp[hl2,hlc]) (hrb2 _)
          rcases hpost with⟨e,_⟩ | ⟨_,e,e'⟩ | ⟨_,e,r',h',f'⟩
          ·cases e
          ·simp only;rw[e']at hRn ⊢;refine⟨nR f5,?_,hRn⟩
           rcases hdj with d1 | ⟨d1,d3⟩
           ·exact .inl d1
           ·refine .inr ⟨d1,fun b hb1 hb2=>?_⟩
            rcases Nat.lt_or_ge b a with e4 | e4
            ·exact d3 b e4 hb2
            ·have:b=a:=by omega
             subst this;rw[e1,e2,hr4,←d1,←hr5];exact e
          ·refine⟨nR f',.inl ?_,hRn⟩;simp only
           rcases hdj with d1 | ⟨d1,d3⟩
           ·omega
           ·rw[←d1];exact e
       ·have hae:a=n:=by omega
        subst hae;refine wx ?_;simp -implicitDefEqProofs -dsimp[hab];refine hQ5 _ _ _ ?_;simp -implicitDefEqProofs -dsimp[aM k (by omega)]
        have hlt:mE P5<mE P4:=by
         rcases hdj with e1 | ⟨e1,e3⟩
         ·exact e1
         ·rw[kP.2 (hn▸e3)]at ha2;cases ha2
        refine hN4 (k+1,true,P5) _ _ ⟨by simp only;omega,⟨nR f5,fun _=>by simp only;omega,fun e=>by cases e⟩,hR5.step (by simp only[kh];rw[if_neg (by omega)])⟩ (by simp only;omega) (by simp) ⟨[],by simp⟩ (by simp[hl2,hlc]) (hrb2 _)
    ·have hke:k=i:=by omega
     subst hke;refine wx ?_;simp -implicitDefEqProofs -dsimp[hkb];refine hQ4 _ _ _ ?_;simp -implicitDefEqProofs -dsimp[aM k (by omega)];refine hN3 (k+1,ag4,P4) _ _ ⟨by simp only;omega,hmid4.imp fun _ r hr=>⟨hr.1,fun i' k' hi' hk'=>?_⟩,hR4.step (by simp only[kh];rw[if_neg hkb])⟩ (by simp only;omega) (by simp) ⟨[],by simp⟩ (by simp[hl2,hlc]) (hrb2 _)
     rcases Nat.lt_or_ge i' k with e1 | e1
     ·exact hr.2.1 i' k' e1 hk'
     ·have:i'=k:=by simp only at hi';omega
      subst this;exact hr.2.2 k' hk'
   ·have hie:i=m:=by omega
    subst hie;refine wx ?_;simp -implicitDefEqProofs -dsimp[hib];refine hQ3 _ _ _ ?_;simp -implicitDefEqProofs -dsimp[aM j (by omega)];refine hN2 (j+1,ag3,P3) _ _ ⟨by simp only;omega,hmid3.imp fun _ r hr=>fun d' hd'=>?_,hR3.step (by simp only[kh];rw[if_neg (by omega)])⟩ (by simp only;omega) (by simp) ⟨_,(happ P3).symm⟩ (by simp[hlen,g.lt0]) (g.rbs _);simp only at hd';rw[List.take_succ_eq_append_getElem hjb]at hd'
    rcases List.mem_append.1 hd' with e1 | e1
    ·exact hr.1 d' e1
    ·simp only[List.mem_singleton]at e1;rw[e1,←hd];exact hr.2
  ·have hje:j=fds.length:=by omega
   subst hje;obtain⟨f2,m1,m2⟩:=hmid;refine wx ?_;simp -implicitDefEqProofs -dsimp[hjb];refine hQ2 _ _ _ ?_;simp -implicitDefEqProofs -dsimp[];refine hN1 (ag2,P2) _ _ ⟨f2,fun e=>?_,hR2.step (by simp only[kh,←hfds];rw[if_neg (by omega)])⟩ ?_ (by simp) ⟨[],by simp⟩ (by simp[ptrRb g]) (g.rbs _)
   ·have:=(m2 e).2;rw[List.take_length]at this;exact closed_of (by omega) (hfds▸hF2) (by rw[←hfds,←hme];exact this)
   ·cases ag2 with
    | true=>have:=m1 rfl;simp;omega
    | false=>have:=(m2 rfl).1;simp[this]
end
theorem sub_erase{l:List Cr}{i:Nat} : ∀c∈l.eraseIdx i,c∈l:=fun _ h=>List.mem_of_mem_eraseIdx h
theorem iX{l:List Cr}{i:Nat}(h:aZ l):aZ (l.eraseIdx i):=List.Pairwise.sublist (List.eraseIdx_sublist l i) h
structure IsCoreP (t:Tb) (fds:List Fd) (l:List Cr):Prop where
 nec:Nec t fds l
 min:∀i,i<l.length→¬Nec t fds (l.eraseIdx i)
structure CoreSt (t:Tb) (fds:List Fd) (fixed l:List Cr) (i:Nat):Prop where
 le:i≤l.length
 sub:∀c∈l,c∈fixed
 sorted:aZ l
 nec:Nec t fds l
 min:∀j,j<i→¬Nec t fds (l.eraseIdx j)
theorem CoreSt.drop{t:Tb}{fds:List Fd}{fixed l:List Cr}{i:Nat}(h:CoreSt t fds fixed l i)(hi:i<l.length)(hn:Nec t fds (l.eraseIdx i)):CoreSt t fds fixed (l.eraseIdx i) i:=by
 refine⟨by rw[List.length_eraseIdx];split<;>omega,fun c hc=>h.sub c (sub_erase c hc),iX h.sorted,hn,fun j hj hc=>h.min j hj (nec_mono (fun c hc=>?_) hc)⟩;obtain⟨k,hk,rfl⟩:=List.mem_iff_getElem.1 hc;rw[List.mem_eraseIdx_iff_getElem]at *;rw[List.getElem_eraseIdx];rw[List.length_eraseIdx]at hk;rw[List.length_eraseIdx,if_pos hi]at hk
 have hj':j<l.length-1:=by omega
 rw[if_pos hj']at hk;split
 ·rename_i h1;rw[List.getElem_eraseIdx];split
  ·exact⟨k,by omega,by omega,rfl⟩
  ·exact⟨k+1,by omega,by omega,rfl⟩
 ·rename_i h1;rw[List.getElem_eraseIdx];split
  ·exact⟨k+1,by omega,by omega,rfl⟩
  ·exact⟨k+1+1,by omega,by omega,rfl⟩
theorem CoreSt.keep{t:Tb}{fds:List Fd}{fixed l:List Cr}{i:Nat}(h:CoreSt t fds fixed l i)(hi:i<l.length)(hn:¬Nec t fds (l.eraseIdx i)):CoreSt t fds fixed l (i+1):=by
 refine⟨hi,h.sub,h.sorted,h.nec,fun j hj=>?_⟩
 rcases Nat.lt_or_ge j i with h1 | h1
 ·exact h.min j h1
 ·have:j=i:=by omega
  subst this;exact hn
theorem CoreSt.done{t:Tb}{fds:List Fd}{fixed l:List Cr}(h:CoreSt t fds fixed l l.length):IsCoreP t fds l:=⟨h.nec,h.min⟩
def lh(n:Nat)(d:Fd):Bool:=decide (d.l<2^n)&&decide (d.r<2^n)
def cC(n:Nat)(fds:List Fd):Int:=if 64<fds.length then 3 else if fds.all (lh n) then 0 else 1
theorem shr1(lo hi:Nat)(h:lo+hi≤4000000):IntKind.i64.wrap ((IntKind.u64.wrap ((lo+hi:Nat):Int)).fdiv (2^min 1 IntKind.u64.bits))=(((lo+hi) / 2:Nat):Int):=by
 have h1:(2:Int)^min 1 IntKind.u64.bits=2:=rfl
 have h2:IntKind.u64.wrap ((lo+hi:Nat):Int)=((lo+hi:Nat):Int):=by rw[IntKind.wrap_u64];omega
 rw[h2,h1,Int.fdiv_eq_ediv_of_nonneg _ (by omega),wrap64 (by omega) (by omega)];omega
def bsF(l:List Cr)(x:Cr):Bool:=decide (bsC l x 0 l.length<l.length)&&(bj (cAt l (bsC l x 0 l.length)) x == 0)
theorem mM{l:List Cr}(hs:aZ l)(x:Cr):bsF l x=true↔x∈l:=by
 rw[←bsC_mem hs x];unfold bsF;rw[Bool.and_eq_true,decide_eq_true_iff,beq_iff_eq];constructor
 ·rintro⟨h1,h2⟩;exact⟨h1,by rwa [gh h1]at h2⟩
 ·rintro⟨h1,h2⟩;exact⟨h1,by rwa [gh h1]⟩
theorem iR(l:List Cr)(x:Cr)(f:Bool)(hl:l.length≤1000000):aS Tryz.prog 74 [LC f l,aO x,.fn 75 []] fun r=>r = .tup [.int .i64 (bsC l x 0 l.length),.bool (bsF l x)]:=by
 obtain⟨E,hE⟩:∃E,E=bsC l x 0 l.length:=⟨_,rfl⟩
 have hF:bsF l x=(decide (E<l.length)&&(bj (cAt l E) x == 0)):=by rw[hE];rfl
 rw[←hE];refine aC (aD tok Tryz.func74 rfl rfl ?_);refine wx ?_;simp -implicitDefEqProofs -dsimp[Tryz.f74,List.replicate,LC,aO];refine aK (W_loopM 35 [9,10,11,15,16,17,18,19,20,21,22,23,24,25,26,27,28,29,30,31,32,33,34] (by simp[mB]<;>rfl) (σ:=Nat×Nat) (fun p=>p.1≤p.2∧p.2≤l.length∧bsC l x p.1 p.2=E) (fun p=>p.2-p.1) (fun p=>[(9,.int .i64 p.1),(10,.int .i64 p.2)]) (fun _=>[B.cells [.int .i64 x.id,.int .i64 x.attr]]) (0,l.length) ⟨by omega,by omega,hE.symm⟩ (by simp) rfl (by simp) ?_);rintro⟨lo,hi⟩ ⟨h1,h2,hx⟩ N Q hN hQ;simp only at h1 h2 hx;by_cases hb:lo<hi
 ·have hw:IntKind.i64.wrap ((lo:Int)+(hi:Int))=((lo+hi:Nat):Int):=by rw[wrap64 (by omega) (by omega)];rfl
  have hs:=shr1 lo hi (by omega);rw[bsC,if_pos hb]at hx;obtain⟨m,em⟩:∃m,m=(lo+hi) / 2:=⟨_,rfl⟩;rw[←em]at hs hx;obtain⟨sm,esm⟩:∃sm,sm=lo+hi:=⟨_,rfl⟩;rw[←esm]at hs hw em
  have hm:m<l.length:=by omega
  rw[gh hm]at hx;have hc:=kI l[m] x;simp only[aO]at hc;have hs1:=aM m (by omega);by_cases hq:bj l[m] x<0
  ·rw[if_pos hq]at hx;refine wx ?_;simp -implicitDefEqProofs -dsimp[hb,hw,hs,hm,aO];refine .inr ⟨aJ (by kernel_rfl),?_⟩;refine aj _ (aG (hc) (by simp)) ?_;simp -implicitDefEqProofs -dsimp[hq,hs1];refine hN (m+1,hi) _ _ ⟨by simp only;omega,h2,hx⟩ (by omega) ?_ ⟨[],?_⟩ ?_ ?_<;>simp[or_imp,forall_and,L1,ac]
  ·rw[if_neg hq]at hx;refine wx ?_;simp -implicitDefEqProofs -dsimp[hb,hw,hs,hm,aO];refine .inr ⟨aJ (by kernel_rfl),?_⟩;refine aj _ (aG (hc) (by simp)) ?_;simp -implicitDefEqProofs -dsimp[hq,hs1];refine hN (lo,m) _ _ ⟨by simp only;omega,by simp only;omega,hx⟩ (by omega) ?_ ⟨[],?_⟩ ?_ ?_<;>simp[or_imp,forall_and,L1,ac]
 ·rw[bsC,if_neg hb]at hx;subst hx;by_cases hn:lo<l.length
  ·have hc:=kI l[lo] x;simp only[aO]at hc;rw[gh hn]at hF;refine wx ?_;simp -implicitDefEqProofs -dsimp[hb];refine hQ _ _ _ ?_;simp -implicitDefEqProofs -dsimp[hn,aO];refine .inr ⟨aJ (by kernel_rfl),?_⟩;refine aj _ (aG (hc) (by simp)) ?_;simp -implicitDefEqProofs -dsimp[hn];rw[hF];simp[hn]
  ·refine wx ?_;simp -implicitDefEqProofs -dsimp[hb];refine hQ _ _ _ ?_;simp -implicitDefEqProofs -dsimp[hn,aO];refine .inr ⟨aJ (by kernel_rfl),?_⟩;rw[hF];simp[hn]
def paR(c:Nat):List V:=paL (List.range c)
theorem paR_zero:paR 0=[]:=rfl
theorem knL_zero(K:Nat→Option Vl):knL K 0=[]:=rfl
theorem paR_pure(c:Nat):∀x∈paR c,AM.Pure x∧dc x=true:=paL_pure _
@[simp ↓ high] theorem rb_paR (k e z c:Nat) (fz:Bool):rbB k (.buf e z (paR c) fz)↔True:=rbB_buf1 (paR_pure c)
@[simp ↓ high] theorem rb_paL (k e z:Nat) (P:List Nat) (fz:Bool):rbB k (.buf e z (paL P) fz)↔True:=rbB_buf1 (paL_pure P)
@[simp ↓ high] theorem rb_knL (K:Nat→Option Vl) (k e z c:Nat) (fz:Bool):rbB k (.buf e z (knL K c) fz)↔True:=rbB_buf1 (knL_pure K c)
theorem paR_len(c:Nat):(paR c).length=c:=by simp[paR,paL]
theorem paR_succ(c:Nat):paR (c+1)=paR c++[.int .i64 c]:=by simp[paR,paL,List.range_succ,encN]
theorem knL_succ(K:Nat→Option Vl)(c:Nat):knL K (c+1)=knL K c++[fK (K c)]:=by simp[knL,List.range_succ]
def gn(H:List B)(ff gg:Bool)(t:Tb)(K:Nat→Option Vl):List B:=H++[B.cells [.str t.name,LS ff t.attrs,LR gg t.rows],B.cells [.int .i64 t.attrs.length,.buf (H.length+2) 0 (t.rows.length*t.attrs.length) (t.rows.length*t.attrs.length),.buf (H.length+3) 0 (t.rows.length*t.attrs.length) (t.rows.length*t.attrs.length)],B.buf 3 1 (paR (t.rows.length*t.attrs.length)) false,B.buf 113 1 (knL K (t.rows.length*t.attrs.length)) false]
theorem begin1(t:Tb)(ff gg cf:Bool)(fds:List Fd)(cells:List Cr)(hv:TbV t)(hs:aZ cells)(hcl:cells.length≤1000000)(b0:B)(hb:∀bl∈[b0],rbB 1 bl):
  az Tryz.prog 51 [aF ff gg t,LC cf cells] [b0] fun r' H'=>r' = .ptr 2 0∧H'=gn [b0] ff gg t (aW t fds cells).K:=by
 have hm:=hv.rows;have hn:=hv.attrs;obtain⟨K,hKe⟩:∃K,K=(aW t fds cells).K:=⟨_,rfl⟩;rw[←hKe];obtain⟨n,hne⟩:∃n,n=t.attrs.length:=⟨_,rfl⟩;obtain⟨m,hme⟩:∃m,m=t.rows.length:=⟨_,rfl⟩;have hne':=hne.symm;have hme':=hme.symm;rw[hne']at hn;rw[hme']at hm
 have hb0:∀k,1≤k→rbB k b0:=fun k hk=>ej hk (hb _ (by simp))
 refine aD tok Tryz.func51 rfl rfl ?_;refine wx ?_;simp -implicitDefEqProofs -dsimp[Tryz.f51,List.replicate,aF,LS,LR,hne',hme'];refine aK (co 3 1 [] 2 [1] rfl (fI _ _) (by simp) (co 113 1 [] 2 [2] rfl (fI _ _) (by simp) (W_loopM 77 [7,8,9,10,19,20,21,22,23,24,25,26,27,28,29,30,31,32,33,34,35,36,37,38,39,40,41,42,43,44,45,46,47,48,49,50,51,52,53,54,55,56,57,58,59,60,61,62,63,64,65,66,67,68,69,70,71,72,73,74,75,76] (by simp[mB]<;>rfl) (σ:=Nat×Nat) (fun p=>p.1≤m∧p.2=p.1*n) (fun p=>m-p.1) (fun p=>[(19,.int .i64 p.1)]) (fun p=>[b0,B.cells [.str t.name,.lst 1 ff (t.attrs.map V.str),.lst 2 gg (t.rows.map aN)],B.cells [.int .i64 n,.buf 3 0 p.2 p.2,.buf 4 0 p.2 p.2],B.buf 3 1 (paR p.2) false,B.buf 113 1 (knL K p.2) false]) (0,0) ⟨by simp,by simp⟩ (by simp) (by simp[paR_zero,knL_zero]) (by simp) ?_)));rintro⟨i,c⟩ ⟨hi,hc⟩ N Q hN hQ;simp only at hi hc hN;by_cases hib:i<m
 ·have hit:i<t.rows.length:=by omega
  obtain⟨rw,hrw⟩:∃rw,rw=t.rows[i]:=⟨_,rfl⟩;have hrw':=hrw.symm
  have hvl:rw.vals.length=n:=by rw[hrw,hne];exact hv.len _ (List.getElem_mem hit)
  refine wx ?_;simp -implicitDefEqProofs -dsimp[hib,hrw',aN,hit,LV,hne'];refine aK (W_loopM 76 [8,9,10,26,27,28,29,30,31,32,33,34,35,36,37,38,39,40,41,42,43,44,45,46,47,48,49,50,51,52,53,54,55,56,57,58,59,60,61,62,63,64,65,66,67,68,69,70,71,72,73,74,75] (by simp[mB]<;>rfl) (σ:=Nat×Nat) (fun p=>p.1≤n∧p.2=i*n+p.1) (fun p=>n-p.1) (fun p=>[(26,.int .i64 p.1)]) (fun p=>[b0,B.cells [.str t.name,.lst 1 ff (t.attrs.map V.str),.lst 2 gg (t.rows.map aN)],B.cells [.int .i64 n,.buf 3 0 p.2 p.2,.buf 4 0 p.2 p.2],B.buf 3 1 (paR p.2) false,B.buf 113 1 (knL K p.2) false,B.cells [.int .i64 rw.id,.lst 3 false (rw.vals.map am)]]) (0,c) ⟨by simp,by simp[hc]⟩ (by simp) (by simp) (by simp) ?_);rintro⟨a,c2⟩ ⟨ha,hc2⟩ N2 Q2 hN2 hQ2;simp only at ha hc2 hN2;by_cases hab:a<n
  ·have hlt:=bB hib hab;have hbig:m*n≤1000*16:=Nat.mul_le_mul hm hn;have hpl:=paR_len c2;have hkl:=lS K c2;have hps:=paR_succ c2;have hks:=knL_succ K c2
   have hat:bN t (i*n+a)=⟨rw.id,(a:Int)⟩:=by
    rw[hne,gS t (hne▸hab),bF hit,←hrw]
   have hvt:bL t (i*n+a)=vAt rw.vals a:=by
    rw[hne,fD t (hne▸hab),bF hit,←hrw]
   have hbs:=iR cells ⟨rw.id,(a:Int)⟩ cf hcl;simp only[aO]at hbs;have hmem:=mM hs ⟨rw.id,(a:Int)⟩;have hcap:=cap8 c2 (by omega)
   cases hq:bsF cells ⟨rw.id,(a:Int)⟩ with
   | true =>
    rw[hq]at hbs
    have hKc:K c2=none:=by rw[hKe,hc2];exact lI (by rw[hat];exact hmem.1 hq)
    rw[hKc]at hks;refine wx ?_;simp -implicitDefEqProofs -dsimp[hab];refine aK (ai tok mixed [11,14] [(0,[1])] [] (by kernel_rfl) fun C K hC hK=>?_);simp -implicitDefEqProofs [hpl,hcap];refine hK _ _ ?_;simp -implicitDefEqProofs -dsimp[];refine(aG (hbs) (by simp)).mono ?_;rintro r H' ⟨rfl,rfl⟩;simp -implicitDefEqProofs -dsimp[hkl,hcap,aM a (by omega),fK];refine hN2 (a+1,c2+1) _ _ ⟨by simp only;omega,by simp only;omega⟩ (by simp only;omega) (by simp) ⟨[],by simp[hps,hks,fK]⟩ (by simp[LC]) (by simp[↓hb0])
   | false =>
    rw[hq]at hbs
    have hKc:K c2=some (vAt rw.vals a):=by rw[hKe,hc2,←hvt];exact fT (by rw[hat];exact fun h=>by rw[hmem.2 h]at hq;cases hq)
    rw[hKc]at hks
    have hva:a<rw.vals.length:=by omega
    have hvi:=gV hva;rw[hvi]at hks;refine wx ?_;simp -implicitDefEqProofs -dsimp[hab];refine aK (ai tok mixed [11,14] [(0,[1])] [] (by kernel_rfl) fun C K hC hK=>?_);simp -implicitDefEqProofs [hpl,hcap];refine hK _ _ ?_;simp -implicitDefEqProofs -dsimp[];refine(aG (hbs) (by simp)).mono ?_;rintro r H' ⟨rfl,rfl⟩;simp -implicitDefEqProofs -dsimp[];refine aK (ai tok mixed [10,13] [(0,[1])] [] (by kernel_rfl) fun C K hC hK=>?_);simp -implicitDefEqProofs [hkl,hcap,hva,am,fK];refine hK _ _ ?_;simp -implicitDefEqProofs -dsimp[aM a (by omega)];refine hN2 (a+1,c2+1) _ _ ⟨by simp only;omega,by simp only;omega⟩ (by simp only;omega) (by simp) ⟨[],by simp[hps,hks,fK]⟩ (by simp[LC]) (by simp[↓hb0])
  ·have hae:a=n:=by omega
   subst hae;refine wx ?_;simp -implicitDefEqProofs -dsimp[hab];refine hQ2 _ _ _ ?_;simp -implicitDefEqProofs -dsimp[aM i (by omega)];refine hN (i+1,c2) _ _ ⟨by simp only;omega,by simp only;rw[hc2,Nat.add_mul];omega⟩ (by simp only;omega) (by simp) ⟨_,rfl⟩ (by simp[LC]) (by simp[↓hb0])
 ·have hie:i=m:=by omega
  subst hie;refine wx ?_;simp -implicitDefEqProofs -dsimp[hib];refine hQ _ _ _ ?_;simp -implicitDefEqProofs -dsimp[];simp[gn,LS,LR,←hme,←hne,hc]
@[simp ↓ high] theorem rbB_LC (n e z:Nat) (l:List Cr) (fz:Bool):rbB n (.buf e z (l.map aO) fz)↔True:=rbB_buf1 (fun x hx=>by
 obtain⟨c,_,rfl⟩:=List.mem_map.1 hx
 exact⟨encCr_pure c,rfl⟩)
theorem begOk(H:List B)(ff gg:Bool)(t:Tb)(K:Nat→Option Vl)(hb:∀bl∈H,rbB H.length bl):HOk (gn H ff gg t K) (H.length+1) (H.length+2) (H.length+3) t.attrs.length (t.rows.length*t.attrs.length) K:=by
 have hlen:(gn H ff gg t K).length=H.length+4:=by simp[gn]
 refine⟨?_,by omega,?_,by omega,by omega,fun P bl hbl=>?_⟩
 ·unfold gn;rw[List.getElem?_append_right (by omega)];simp
 ·unfold gn;rw[List.getElem?_append_right (by omega)];simp
 ·rw[hlen];unfold Ht gn at hbl;rw[List.set_append_right _ _ (by omega)]at hbl
  rcases List.mem_append.1 hbl with h | h
  ·exact ej (by omega) (hb bl h)
  ·simp only[show H.length+2-H.length=2 by omega,List.set_cons_succ,List.set_cons_zero,List.mem_cons,List.not_mem_nil,or_false]at h
   rcases h with rfl | rfl | rfl | rfl
   ·simp[LS,LR]
   ·simp
   ·simp
   ·simp
theorem begHt(H:List B)(ff gg:Bool)(t:Tb)(K:Nat→Option Vl):Ht (gn H ff gg t K) (H.length+2) (List.range (t.rows.length*t.attrs.length))=gn H ff gg t K:=by
 unfold Ht gn;rw[List.set_append_right _ _ (by omega)];simp only[show H.length+2-H.length=2 by omega,List.set_cons_succ,List.set_cons_zero];rfl
theorem fg{t:Tb}(hv:TbV t):t.rows.length*t.attrs.length≤1000000:=by
 have:=Nat.mul_le_mul hv.rows hv.attrs;omega
theorem pk(t:Tb)(ff gg df cf:Bool)(fds:List Fd)(cells:List Cr)(hv:TbV t)(hF:bo fds)(hs:aZ cells)(hcl:cells.length≤1000000):
  aS Tryz.prog 44 [aF ff gg t,LF df fds,LC cf cells] fun r=>r = .bool (okB (aW t fds cells)):=by
 obtain⟨b0,hb0⟩:∃b0,b0=B.cells [.str t.name,.lst 1 ff (t.attrs.map V.str),.lst 2 gg (t.rows.map aN)]:=⟨_,rfl⟩
 have hrb:∀bl∈[b0],rbB 1 bl:=by rw[hb0];simp
 have c1:=begin1 t ff gg cf fds cells hv hs hcl b0 hrb;have g:=begOk [b0] ff gg t (aW t fds cells).K hrb;have c2:=fill_u (frt_init (aW t fds cells)) (rfl:(aW t fds cells).m*(aW t fds cells).n=_) rfl g (fg hv) hv.attrs (by have:=hv.rows;show t.rows.length≤_;omega) df hF;have hht:=begHt [b0] ff gg t (aW t fds cells).K;rw[show List.range ((aW t fds cells).m*(aW t fds cells).n)=List.range (t.rows.length*t.attrs.length) from rfl]at c2;rw[hht]at c2;have c2:=c2.mono (K':=fun r' H'=>r' = .bool (okB (aW t fds cells))∧H'=Ht (gn [b0] ff gg t (aW t fds cells).K) 3 (pb (aW t fds cells) (List.range (t.rows.length*t.attrs.length)))++fillT (aW t fds cells) (List.range (t.rows.length*t.attrs.length))) (fun r H ⟨a,b,_⟩=>⟨a,b⟩);obtain⟨H1,hH1⟩:∃H1,H1=gn [b0] ff gg t (aW t fds cells).K:=⟨_,rfl⟩;obtain⟨H2,hH2⟩:∃H2,H2=Ht (gn [b0] ff gg t (aW t fds cells).K) 3 (pb (aW t fds cells) (List.range (t.rows.length*t.attrs.length)))++fillT (aW t fds cells) (List.range (t.rows.length*t.attrs.length)):=⟨_,rfl⟩;obtain⟨R,hR⟩:∃R,R=okB (aW t fds cells):=⟨_,rfl⟩;rw[←hH1]at c1;rw[←hH2,←hR,←hH1]at c2;rw[←hR]
 have hat:H1[0]?=some b0:=by rw[hH1];rfl
 rw[hb0]at hat;rw[hb0]at c1;simp only[show(aW t fds cells).m=t.rows.length from rfl,show(aW t fds cells).fds=fds from rfl]at c2;simp only[aF,LS,LR,LC]at c1;simp only[LF]at c2;refine aC (aD tok Tryz.func44 rfl rfl ?_);refine wx ?_;simp -implicitDefEqProofs -dsimp[Tryz.f44,List.replicate,aF,LS,LR,LC,LF];refine .inl (aK (ai tok mixed [2,7] [(4,[0]),(5,[0])] [(.ptr 2 0,H1),(.bool R,H2)] (by kernel_rfl) fun C K hC hK=>?_));simp -implicitDefEqProofs [hat];refine⟨⟨hC _ _ _ _ c1,hC _ _ _ _ c2⟩,hK _ _ ?_⟩;simp -implicitDefEqProofs -dsimp[]
noncomputable def da(t:Tb)(l:List Cr)(x:Nat):List Cr:=open Classical in ((List.range x).map (bN t)).filter fun c=>decide (c∉l)
theorem mX(t:Tb)(l:List Cr):da t l (t.rows.length*t.attrs.length)=bX t l:=rfl
theorem ii(t:Tb)(l:List Cr):da t l 0=[]:=rfl
theorem othTo_in{t:Tb}{l:List Cr}{x:Nat}(h:bN t x∈l):da t l (x+1)=da t l x:=by
 unfold da;rw[List.range_succ,List.map_append,List.filter_append];simp[h]
theorem othTo_out{t:Tb}{l:List Cr}{x:Nat}(h:bN t x∉l):da t l (x+1)=da t l x++[bN t x]:=by
 unfold da;rw[List.range_succ,List.map_append,List.filter_append];simp[h]
theorem mW(t:Tb)(l:List Cr)(x:Nat):(da t l x).length≤x:=by
 unfold da;exact Nat.le_trans (List.length_filter_le _ _) (by simp)
theorem je(n:Nat)(h:n≤1000000000):n≤9223372036854775806∧(n+1)*16≤140737488355328:=by omega
theorem all_u(t:Tb)(ff gg cf:Bool)(but:List Cr)(hv:TbV t)(hs:aZ but)(hcl:but.length≤1000000):aS Tryz.prog 66 [aF ff gg t,LC cf but] fun r=>r=LC false (bX t but):=by
 have hm:=hv.rows;have hn:=hv.attrs;obtain⟨n,hne⟩:∃n,n=t.attrs.length:=⟨_,rfl⟩;obtain⟨m,hme⟩:∃m,m=t.rows.length:=⟨_,rfl⟩;have hne':=hne.symm;have hme':=hme.symm;rw[hne']at hn;rw[hme']at hm;refine aC (aD tok Tryz.func66 rfl rfl ?_);refine wx ?_;simp -implicitDefEqProofs -dsimp[Tryz.f66,List.replicate,aF,LS,LR,hne',hme'];refine aK (gG 49 2 [5] (by simp) (W_loopM 43 [5,7,8,9,10,11,15,16,17,18,19,20,21,22,23,24,25,26,27,28,29,30,31,32,33,34,35,36,37,38,39,40,41,42] (by simp[mB]<;>rfl) (σ:=Nat×Nat) (fun p=>p.1≤m∧p.2=p.1*n) (fun p=>m-p.1) (fun p=>[(15,.int .i64 p.1),(5,.buf 1 0 (da t but p.2).length (da t but p.2).length)]) (fun p=>[B.cells [.str t.name,.lst 1 ff (t.attrs.map V.str),.lst 2 gg (t.rows.map aN)],B.buf 49 2 ((da t but p.2).map aO) false]) (0,0) ⟨by simp,by simp⟩ (by simp[ii]) (by simp[ii]) (by simp) ?_));rintro⟨i,c⟩ ⟨hi,hc⟩ N Q hN hQ;simp only at hi hc hN;by_cases hib:i<m
 ·have hit:i<t.rows.length:=by omega
  obtain⟨rw,hrw⟩:∃rw,rw=t.rows[i]:=⟨_,rfl⟩;have hrw':=hrw.symm;refine wx ?_;simp -implicitDefEqProofs -dsimp[hib,hrw',aN,hit,LV,hne'];refine aK (W_loopM 42 [5,8,9,10,11,22,23,24,25,26,27,28,29,30,31,32,33,34,35,36,37,38,39,40,41] (by simp[mB]<;>rfl) (σ:=Nat×Nat) (fun p=>p.1≤n∧p.2=i*n+p.1) (fun p=>n-p.1) (fun p=>[(22,.int .i64 p.1),(5,.buf 1 0 (da t but p.2).length (da t but p.2).length)]) (fun p=>[B.cells [.str t.name,.lst 1 ff (t.attrs.map V.str),.lst 2 gg (t.rows.map aN)],B.buf 49 2 ((da t but p.2).map aO) false,B.cells [.int .i64 rw.id,.lst 3 false (rw.vals.map am)]]) (0,c) ⟨by simp,by simp[hc]⟩ (by simp) (by simp) (by simp) ?_);rintro⟨a,c2⟩ ⟨ha,hc2⟩ N2 Q2 hN2 hQ2;simp only at ha hc2 hN2;by_cases hab:a<n
  ·have hlt:=bB hib hab;have hbig:m*n≤1000*16:=Nat.mul_le_mul hm hn;have hol:=mW t but c2
   have hat:bN t c2=⟨rw.id,(a:Int)⟩:=by
    rw[hc2,hne,gS t (hne▸hab),bF hit,←hrw]
   have hbs:=iR but ⟨rw.id,(a:Int)⟩ cf hcl;simp only[aO]at hbs;have hmem:=mM hs ⟨rw.id,(a:Int)⟩
   cases hq:bsF but ⟨rw.id,(a:Int)⟩ with
   | true =>
    rw[hq]at hbs;have hst:=othTo_in (t:=t) (l:=but) (x:=c2) (by rw[hat];exact hmem.1 hq);refine wx ?_;simp -implicitDefEqProofs -dsimp[hab];refine(aG (hbs) (by simp)).mono ?_;rintro r H' ⟨rfl,rfl⟩;simp -implicitDefEqProofs -dsimp[aM a (by omega)];refine hN2 (a+1,c2+1) _ _ ⟨by simp only;omega,by simp only;omega⟩ (by simp only;omega) (by simp[hst]) ⟨[B.cells [.int .i64 rw.id,.int .i64 a]],by simp[hst]⟩ (by simp[LC]) (by simp)
   | false =>
    rw[hq]at hbs;have hst:=othTo_out (t:=t) (l:=but) (x:=c2) (by rw[hat];exact fun h=>by rw[hmem.2 h]at hq;cases hq);rw[hat]at hst;refine wx ?_;simp -implicitDefEqProofs -dsimp[hab];refine(aG (hbs) (by simp)).mono ?_;rintro r H' ⟨rfl,rfl⟩;simp -implicitDefEqProofs -dsimp[je (da t but c2).length (by omega),aM a (by omega)];refine hN2 (a+1,c2+1) _ _ ⟨by simp only;omega,by simp only;omega⟩ (by simp only;omega) (by simp[hst]) ⟨[B.cells [.int .i64 rw.id,.int .i64 a]],by simp[hst,aO]⟩ (by simp[LC]) (by simp)
  ·have hae:a=n:=by omega
   subst hae;refine wx ?_;simp -implicitDefEqProofs -dsimp[hab];refine hQ2 _ _ _ ?_;simp -implicitDefEqProofs -dsimp[aM i (by omega)];refine hN (i+1,c2) _ _ ⟨by simp only;omega,by simp only;rw[hc2,Nat.add_mul];omega⟩ (by simp only;omega) (by simp) ⟨_,rfl⟩ (by simp[LC]) (by simp)
 ·have hie:i=m:=by omega
  subst hie;refine wx ?_;simp -implicitDefEqProofs -dsimp[hib];refine hQ _ _ _ ?_;simp -implicitDefEqProofs -dsimp[];rw[←mX,←hme,←hne,←hc];exact dr rfl (by simp) (by simp)
theorem fk(t:Tb)(hv:TbV t)(l:List Cr):(bX t l).length≤1000000:=by
 have h:=mW t l (t.rows.length*t.attrs.length);rw[mX]at h;have:=fg hv;omega
theorem nL(t:Tb)(ff gg df cf:Bool)(fds:List Fd)(cells:List Cr)(hv:TbV t)(hF:bo fds)(hs:aZ cells)(hcl:cells.length≤1000000):
  aS Tryz.prog 48 [aF ff gg t,LF df fds,LC cf cells] fun r=>r = .bool (na t fds cells):=by
 have c1:=all_u t ff gg cf cells hv hs hcl;have c2:=pk t ff gg df false fds (bX t cells) hv hF (hv.sorted_others cells) (fk t hv cells);rw[necB_eq];simp only[aF,LS,LR,LC,LF]at c1 c2;refine aC (aD tok Tryz.func48 rfl rfl ?_);refine wx ?_;simp -implicitDefEqProofs -dsimp[Tryz.f48,List.replicate,aF,LS,LR,LC,LF];refine .inr ⟨aJ (by kernel_rfl),?_⟩;refine aj _ (aG (c1) (by simp)) ?_;simp -implicitDefEqProofs -dsimp[];refine aj _ (aG (c2) (by simp)) ?_;simp -implicitDefEqProofs -dsimp[]
section
theorem or_lt{a b n:Nat} : a ||| b<2^n↔a<2^n∧b<2^n:=by
 constructor
 ·intro h;exact⟨Nat.lt_of_le_of_lt Nat.left_le_or h,Nat.lt_of_le_of_lt Nat.right_le_or h⟩
 ·rintro⟨h1,h2⟩;exact Nat.or_lt_two_pow h1 h2
theorem shr32(a n:Nat)(hn:n≤16):((a:Int)).fdiv (2^min n IntKind.u32.bits)=((a / 2^n:Nat):Int):=by
 have h1:min n IntKind.u32.bits=n:=Nat.min_eq_left (by show n≤32;omega);rw[h1,Int.fdiv_eq_ediv_of_nonneg _ (by have:(0:Int)<2^n:=Int.pow_pos (by omega);omega)];simp
theorem fdOk_or(n:Nat)(d:Fd):lh n d=decide ((d.l ||| d.r) / 2^n=0):=by
 rw[Bool.eq_iff_iff,decide_eq_true_iff,Nat.div_eq_zero_iff_lt (Nat.pow_pos (by omega)),or_lt];unfold lh;simp
theorem closureValid(n:Nat)(fds:List Fd)(f:Bool)(hn:n≤16)(hF:bo fds):aS Tryz.prog 88 [.int .i64 n,LF f fds] fun r=>r = .int .i64 (cC n fds):=by
 obtain⟨hF1,hF2⟩:=hF
 have hn1:¬(16:Int)<n:=by omega
 have hn0:¬(n:Int)<0:=by omega
 unfold cC;by_cases h64:64<fds.length
 ·rw[if_pos h64];refine aC (aD tok Tryz.func88 rfl rfl ?_);refine wx ?_;simp -implicitDefEqProofs -dsimp[Tryz.f88,List.replicate,LF,hn0,hn1,show(64:Int)<fds.length by omega]
 ·rw[if_neg h64]
  obtain⟨E,hE⟩:∃E:Int,E=if fds.all (lh n) then 0 else 1:=⟨_,rfl⟩
  rw[←hE];refine aC (aD tok Tryz.func88 rfl rfl ?_);refine wx ?_;simp -implicitDefEqProofs -dsimp[Tryz.f88,List.replicate,LF,hn0,hn1,show ¬(64:Int)<fds.length by omega];refine aK (W_loopM 31 [4,6,18,19,20,21,22,23,24,25,26,27,28,29,30] (by simp[mB]<;>rfl) (σ:=Nat) (fun i=>i≤fds.length∧(if(fds.drop i).all (lh n) then(0:Int) else 1)=E) (fun i=>fds.length-i) (fun i=>[(18,.int .i64 i)]) (fun _=>[]) 0 ⟨by omega,by rw[hE,List.drop_zero]⟩ (by simp) rfl (by simp) ?_);rintro i ⟨hi,hx⟩ N Q hN hQ;by_cases hb:i<fds.length
  ·rw[List.drop_eq_getElem_cons hb,List.all_cons,fdOk_or]at hx;obtain⟨h1,h2⟩:=hF2 fds[i] (List.getElem_mem hb);have ho:=or32 fds[i].l fds[i].r h1 h2;have hs:=shr32 (fds[i].l ||| fds[i].r) n hn;obtain⟨q,hq⟩:∃q,q=(fds[i].l ||| fds[i].r) / 2^n:=⟨_,rfl⟩;rw[←hq]at hs hx
   obtain⟨o,hoe⟩:∃o,o=fds[i].l ||| fds[i].r:=⟨_,rfl⟩
   rw[←hoe]at ho hs;by_cases h0:q=0
   ·rw[decide_eq_true h0,Bool.true_and]at hx;rw[h0]at hs;refine wx ?_;simp -implicitDefEqProofs -dsimp[hb,eP,ho,hs,aM i (by omega)];refine hN (i+1) _ _ ⟨by omega,hx⟩ (by omega) ?_ ⟨[B.cells [.int .u32 (fds[i].l:Int),.int .u32 (fds[i].r:Int)]],?_⟩ ?_ ?_<;>simp[or_imp,forall_and,L1,ac,LF]
   ·rw[decide_eq_false h0,Bool.false_and,if_neg (by simp)]at hx;refine wx ?_;simp -implicitDefEqProofs -dsimp[hb,eP,ho,hs,show ¬((q:Int)=0) by omega,h0];refine hQ _ _ _ ?_;simp -implicitDefEqProofs -dsimp[];exact hx
  ·rw[List.drop_of_length_le (by omega)]at hx;refine wx ?_;simp -implicitDefEqProofs -dsimp[hb];refine hQ _ _ _ ?_;simp -implicitDefEqProofs -dsimp[];simpa using hx
open Classical in
noncomputable def kS(l:List Cr):Bool:=decide (aZ l)
theorem jn{l:List Cr} : kS l=true↔aZ l:=by unfold kS;simp
theorem jA{l:List Cr}(h:∀j (h:j+1<l.length),cLt l[j] l[j+1]):aZ l:=by
 unfold aZ;rw[List.pairwise_iff_getElem];intro i j hi hj hij
 induction j with
 | zero=>omega
 | succ j ih =>
  rcases Nat.lt_or_ge i j with h1 | h1
  ·exact ea (ih (by omega) h1) (h j hj)
  ·have:i=j:=by omega
   subst this;exact h i hj
theorem sortB_no{l:List Cr}{j:Nat}(h:j+1<l.length)(hn:¬cLt l[j] l[j+1]):kS l=false:=by
 cases hb:kS l
 ·rfl
 ·exact absurd (du (jn.1 hb) (by omega) h (by omega)) hn
theorem ordered_u(l:List Cr)(f:Bool)(hl:l.length≤1000000):aS Tryz.prog 89 [LC f l] fun r=>r = .bool (kS l):=by
 obtain⟨E,hE⟩:∃E,E=kS l:=⟨_,rfl⟩;rw[←hE];refine aC (aD tok Tryz.func89 rfl rfl ?_);refine wx ?_;simp -implicitDefEqProofs -dsimp[Tryz.f89,List.replicate,LC];refine aK (W_loopM 21 [2,3,4,5,6,7,8,9,10,11,12,13,14,15,16,17,18,19,20] (by simp[mB]<;>rfl) (σ:=Nat) (fun i=>1≤i∧∀j (h:j+1<l.length),j+1<i→cLt l[j] l[j+1]) (fun i=>l.length-i) (fun i=>[(3,.int .i64 i)]) (fun _=>[]) 1 ⟨by omega,fun j _ h=>by omega⟩ (by simp) rfl (by simp) ?_);rintro i ⟨hi,hx⟩ N Q hN hQ;by_cases hb:i<l.length
 ·obtain⟨k,hki⟩:∃k,i=k+1:=⟨i-1,by omega⟩
  have hk:k<l.length:=by omega
  have hc:=kI l[k] l[i]
  have hw:IntKind.i64.wrap ((i:Int)-1)=(k:Int):=by rw[wrapP i (by omega) hi];omega
  simp only[aO]at hc;by_cases hq:bj l[k] l[i]<0
  ·have hlt:=(eK _ _).1 hq;refine wx ?_;simp -implicitDefEqProofs -dsimp[hb,hw,hk,aO];refine .inr ⟨aJ (by kernel_rfl),?_⟩;refine aj _ (aG (hc) (by simp)) ?_;simp -implicitDefEqProofs -dsimp[show ¬0≤bj l[k] l[i] by omega,aM i (by omega)];refine hN (i+1) _ _ ⟨by omega,fun j h hj=>?_⟩ (by omega) (by simp) ⟨[],rfl⟩ (by simp) (by simp)
   rcases Nat.lt_or_ge j k with h1 | h1
   ·exact hx j h (by omega)
   ·have:j=k:=by omega
    subst this;subst hki;exact hlt
  ·have hno:kS l=false:=by
    subst hki;exact sortB_no hb (fun h=>hq ((eK _ _).2 h))
   rw[hno]at hE;refine wx ?_;simp -implicitDefEqProofs -dsimp[hb,hw,hk,aO];refine .inr ⟨aJ (by kernel_rfl),?_⟩;refine aj _ (aG (hc) (by simp)) ?_;simp -implicitDefEqProofs -dsimp[show 0≤bj l[k] l[i] by omega];refine hQ _ _ _ ?_;simp -implicitDefEqProofs -dsimp[];exact hE
 ·have hyes:kS l=true:=jn.2 (jA fun j h=>hx j h (by omega));rw[hyes]at hE;refine wx ?_;simp -implicitDefEqProofs -dsimp[hb];refine hQ _ _ _ ?_;simp -implicitDefEqProofs -dsimp[];exact hE
def ixR(p:Rw→Bool)(rs:List Rw)(i:Nat):Int:=if h:i<rs.length then(if p rs[i] then(i:Int) else ixR p rs (i+1)) else -1
termination_by rs.length-i
theorem ixR_any(p:Rw→Bool)(rs:List Rw)(i:Nat):decide (0≤ixR p rs i)=(rs.drop i).any p:=by
 fun_induction ixR p rs i with
 | case1 i h h0=>rw[List.drop_eq_getElem_cons h,List.any_cons,h0];simp
 | case2 i h h0 ih=>rw[List.drop_eq_getElem_cons h,List.any_cons,ih];simp[h0]
 | case3 i h=>rw[List.drop_of_length_le (by omega)];rfl
theorem idxFuncR(H:List B)(fv:V)(p:Rw→Bool)(rs:List Rw)(g:Bool)(hes:rs.length≤1000000)(hH:∀bl∈H,rbB H.length bl)(hfv:rb H.length fv)
  (hp:∀m∈rs,aV Tryz.prog fv [aN m] H fun r H'=>r = .bool (p m)∧∃G,H'=H++G):az Tryz.prog 130 [LR g rs,fv] H fun r H'=>r = .int .i64 (ixR p rs 0)∧∃G,H'=H++G:=by
 refine aD tok Tryz.func130 rfl rfl ?_;refine wx ?_;simp -implicitDefEqProofs -dsimp[Tryz.f130,List.replicate,LR];refine aK (W_loopM 19 [4,5,8,9,10,11,12,13,14,15,16,17,18] (by simp[mB]<;>rfl) (σ:=Nat) (fun i=>ixR p rs i=ixR p rs 0) (fun i=>rs.length-i) (fun i=>[(8,.int .i64 i)]) (fun _=>H) 0 rfl (by simp) rfl (by simp) ?_);intro i hx N Q hN hQ;by_cases hb:i<rs.length
 ·rw[ixR,dif_pos hb]at hx;have hc:=hp rs[i] (List.getElem_mem hb);cases hq:p rs[i]
  ·rw[hq]at hc hx;simp only[aN,LV]at hc;refine wx ?_;simp -implicitDefEqProofs -dsimp[hb,aN,LV];refine hc.mono ?_;rintro r H' ⟨rfl,G,rfl⟩;simp -implicitDefEqProofs -dsimp[aM i (by omega)];refine hN (i+1) _ _ (by simpa using hx) (by omega) (by simp) ⟨G,rfl⟩ (by simp;exact hfv) hH
  ·rw[hq]at hc hx;simp only[aN,LV]at hc;refine wx ?_;simp -implicitDefEqProofs -dsimp[hb,aN,LV];refine hc.mono ?_;rintro r H' ⟨rfl,G,rfl⟩;simp -implicitDefEqProofs -dsimp[];refine hQ _ _ _ ?_;simp -implicitDefEqProofs -dsimp[];simpa using hx
 ·rw[ixR,dif_neg hb]at hx;refine wx ?_;simp -implicitDefEqProofs -dsimp[hb];refine hQ _ _ _ ?_;simp -implicitDefEqProofs -dsimp[];simpa using hx
def hasId(t:Tb)(id:Int):Bool:=t.rows.any fun r=>r.id == id
def lY(t:Tb)(id:Int):Int:=ixR (fun r=>r.id == id) t.rows 0
theorem findI_has(t:Tb)(id:Int):decide (0≤lY t id)=hasId t id:=by
 have:=ixR_any (fun r=>r.id == id) t.rows 0;rw[List.drop_zero]at this;exact this
theorem find_t(t:Tb)(ff gg:Bool)(id:Int)(hr:t.rows.length≤1000000):aS Tryz.prog 90 [aF ff gg t,.int .i64 id] fun r=>r = .tup [.int .i64 (if 0≤lY t id then lY t id else 0),.bool (hasId t id)]:=by
 have hh:=findI_has t id
 have hclo:∀m∈t.rows,aV Tryz.prog (.fn 131 [.ptr 1 0]) [aN m] [B.cells [.str t.name,LS ff t.attrs,LR gg t.rows],B.cells [.int .i64 id]] fun r H'=>r = .bool (m.id == id)∧∃G,H'=[B.cells [.str t.name,LS ff t.attrs,LR gg t.rows],B.cells [.int .i64 id]]++G:=fun m hm=>by
  simp only[aV,List.cons_append,List.nil_append];refine aD tok Tryz.func131 rfl rfl ?_;refine wx ?_;simp -implicitDefEqProofs -dsimp[Tryz.f131,List.replicate,aN,LS,LR,LV]
 have hcf:=idxFuncR [B.cells [.str t.name,LS ff t.attrs,LR gg t.rows],B.cells [.int .i64 id]] (.fn 131 [.ptr 1 0]) (fun m=>m.id == id) t.rows gg hr (by simp[LS,LR]) (by simp) hclo;simp only[LS,LR]at hcf;rw[←hh];refine aC (aD tok Tryz.func90 rfl rfl ?_);refine wx ?_;simp -implicitDefEqProofs -dsimp[Tryz.f90,List.replicate,aF,LS,LR];refine aV.mono (K:=fun r H'=>r = .int .i64 (lY t id)∧∃G,H'=[B.cells [.str t.name,.lst 1 ff (t.attrs.map V.str),.lst 2 gg (t.rows.map aN)],B.cells [.int .i64 id]]++G) hcf ?_;rintro r H' ⟨rfl,G,rfl⟩;by_cases h0:0≤lY t id
 ·rw[if_pos h0];simp -implicitDefEqProofs -dsimp[h0,show ¬lY t id<0 by omega]
 ·rw[if_neg h0];simp -implicitDefEqProofs -dsimp[h0,show lY t id<0 by omega]
end
def dm(t:Tb)(c:Cr):Bool:=hasId t c.id&&(decide (0≤c.attr)&&decide (c.attr<t.attrs.length))
noncomputable def dl(t:Tb)(fds:List Fd)(cells:List Cr):Int:=open Classical in if validT t≠0 then validT t else if cC t.attrs.length fds≠0 then cC t.attrs.length fds else if 60<t.rows.length*t.attrs.length then 3 else if ¬aZ cells then 1 else if cells.all (dm t) then 0 else 4
theorem kK{t:Tb}{fds:List Fd}{cells:List Cr}(h:TbOk t)(he:dl t fds cells=0):TbV t∧cC t.attrs.length fds=0∧t.rows.length*t.attrs.length≤60∧aZ cells∧cells.all (dm t)=true:=by
 unfold dl at he;split at he
 ·rename_i h1;exact absurd he h1
 ·rename_i h1;split at he
  ·rename_i h2;exact absurd he h2
  ·rename_i h2;split at he
   ·cases he
   ·rename_i h3;split at he
    ·cases he
    ·rename_i h4;split at he
     ·rename_i h5;exact⟨iU h (Classical.not_not.1 h1),Classical.not_not.1 h2,by omega,Classical.not_not.1 h4,h5⟩
     ·cases he
theorem oH(t:Tb)(ff gg df cf:Bool)(fds:List Fd)(cells:List Cr)(ht:TbOk t)(hF:bo fds)(hcl:cells.length≤1000000):
  aS Tryz.prog 43 [aF ff gg t,LF df fds,LC cf cells] fun r=>r = .int .i64 (dl t fds cells):=by
 have c1:=oR t ff gg ht;simp only[aF,LS,LR]at c1;by_cases h1:validT t=0
 ·have hv:=iU ht h1;rw[h1]at c1;have c2:=closureValid t.attrs.length fds df hv.attrs hF;by_cases h2:cC t.attrs.length fds=0
  ·rw[h2]at c2;have hm:=hv.rows;have hn:=hv.attrs;have hmn:=Nat.mul_le_mul hm hn
   have hw:IntKind.i64.wrap ((t.rows.length:Int)*(t.attrs.length:Int))=((t.rows.length*t.attrs.length:Nat):Int):=by rw[wrap64 (by rw[←Int.natCast_mul];omega) (by rw[←Int.natCast_mul];omega)];push_cast;rfl
   obtain⟨mn,hmn'⟩:∃mn,mn=t.rows.length*t.attrs.length:=⟨_,rfl⟩;rw[←hmn']at hw;by_cases h3:60<mn
   ·rw[show dl t fds cells=3 by unfold dl;rw[if_neg (by simp[h1]),if_neg (by simp[h2]),if_pos (by omega)]];refine aC (aD tok Tryz.func43 rfl rfl ?_);refine wx ?_;simp -implicitDefEqProofs -dsimp[Tryz.f43,List.replicate,aF,LS,LR];refine(aG (c1) (by simp)).mono ?_;rintro r H' ⟨rfl,rfl⟩;simp -implicitDefEqProofs -dsimp[];refine(aG (c2) (by simp)).mono ?_;rintro r H' ⟨rfl,rfl⟩;simp -implicitDefEqProofs -dsimp[hw,show(60:Int)<mn by omega]
   ·have c3:=ordered_u cells cf hcl;by_cases h4:aZ cells
    ·rw[jn.2 h4]at c3;obtain⟨E,hE⟩:∃E,E=dl t fds cells:=⟨_,rfl⟩
     have hE1:dl t fds cells=if cells.all (dm t) then(0:Int) else 4:=by unfold dl;rw[if_neg (by simp[h1]),if_neg (by simp[h2]),if_neg (by omega),if_neg (by simp[h4])]
     have hE2:(if cells.all (dm t) then(0:Int) else 4)=E:=by rw[hE,hE1]
     rw[←hE];simp only[LC]at c3;refine aC (aD tok Tryz.func43 rfl rfl ?_);refine wx ?_;simp -implicitDefEqProofs -dsimp[Tryz.f43,List.replicate,aF,LS,LR,LC];refine(aG (c1) (by simp)).mono ?_;rintro r H' ⟨rfl,rfl⟩;simp -implicitDefEqProofs -dsimp[];refine(aG (c2) (by simp)).mono ?_;rintro r H' ⟨rfl,rfl⟩;simp -implicitDefEqProofs -dsimp[hw,show ¬(60:Int)<mn by omega];refine(aG (c3) (by simp)).mono ?_;rintro r H' ⟨rfl,rfl⟩;simp -implicitDefEqProofs -dsimp[];refine aK (W_loopM 66 [6,10,11,12,39,40,41,42,43,44,45,46,47,48,49,50,51,52,53,54,55,56,57,58,59,60,61,62,63,64,65] (by simp[mB]<;>rfl) (σ:=Nat) (fun i=>i≤cells.length∧(if(cells.drop i).all (dm t) then(0:Int) else 4)=E) (fun i=>cells.length-i) (fun i=>[(39,.int .i64 i)]) (fun _=>[B.cells [.str t.name,.lst 1 ff (t.attrs.map V.str),.lst 2 gg (t.rows.map aN)]]) 0 ⟨by omega,by rw[List.drop_zero];exact hE2⟩ (by simp) (by simp) (by simp) ?_);rintro i ⟨hi,hx⟩ N Q hN hQ;by_cases hb:i<cells.length
     ·rw[List.drop_eq_getElem_cons hb,List.all_cons]at hx;obtain⟨c,hc⟩:∃c,c=cells[i]:=⟨_,rfl⟩;rw[←hc]at hx;have hc':=hc.symm;have c4:=find_t t ff gg c.id ht.rows;simp only[aF,LS,LR]at c4;obtain⟨fi,hfi⟩:∃fi,fi=(if 0≤lY t c.id then lY t c.id else 0):=⟨_,rfl⟩;rw[←hfi]at c4
      cases h5:hasId t c.id with
      | false =>
       rw[h5]at c4;rw[show dm t c=false by simp[dm,h5],Bool.false_and,if_neg (by simp)]at hx;refine wx ?_;simp -implicitDefEqProofs -dsimp[hb,hc',aO];refine(aG (c4) (by simp)).mono ?_;rintro r H' ⟨rfl,rfl⟩;simp -implicitDefEqProofs -dsimp[];refine hQ _ _ _ ?_;simp -implicitDefEqProofs -dsimp[];exact hx
      | true =>
       rw[h5]at c4;by_cases h6:0≤c.attr
       ·by_cases h7:c.attr<t.attrs.length
        ·rw[show dm t c=true by simp[dm,h5,h6,h7],Bool.true_and]at hx;refine wx ?_;simp -implicitDefEqProofs -dsimp[hb,hc',aO];refine(aG (c4) (by simp)).mono ?_;rintro r H' ⟨rfl,rfl⟩;simp -implicitDefEqProofs -dsimp[show ¬c.attr<0 by omega,show ¬(t.attrs.length:Int)≤c.attr by omega,aM i (by omega)];refine hN (i+1) _ _ ⟨by omega,hx⟩ (by omega) ?_ ⟨[B.cells [.int .i64 c.id,.int .i64 c.attr]],?_⟩ ?_ ?_<;>simp[or_imp,forall_and,L1,ac,LF,LC]
        ·rw[show dm t c=false by simp[dm,h7],Bool.false_and,if_neg (by simp)]at hx;refine wx ?_;simp -implicitDefEqProofs -dsimp[hb,hc',aO];refine(aG (c4) (by simp)).mono ?_;rintro r H' ⟨rfl,rfl⟩;simp -implicitDefEqProofs -dsimp[show ¬c.attr<0 by omega,show(t.attrs.length:Int)≤c.attr by omega];refine hQ _ _ _ ?_;simp -implicitDefEqProofs -dsimp[];exact hx
       ·rw[show dm t c=false by simp[dm,h6],Bool.false_and,if_neg (by simp)]at hx;refine wx ?_;simp -implicitDefEqProofs -dsimp[hb,hc',aO];refine(aG (c4) (by simp)).mono ?_;rintro r H' ⟨rfl,rfl⟩;simp -implicitDefEqProofs -dsimp[show c.attr<0 by omega];refine hQ _ _ _ ?_;simp -implicitDefEqProofs -dsimp[];exact hx
     ·rw[List.drop_of_length_le (by omega)]at hx;refine wx ?_;simp -implicitDefEqProofs -dsimp[hb];refine hQ _ _ _ ?_;simp -implicitDefEqProofs -dsimp[];simpa using hx
    ·have hno:kS cells=false:=by
      cases hb:kS cells
      ·rfl
      ·exact absurd (jn.1 hb) h4
     rw[hno]at c3;rw[show dl t fds cells=1 by unfold dl;rw[if_neg (by simp[h1]),if_neg (by simp[h2]),if_neg (by omega),if_pos h4]];refine aC (aD tok Tryz.func43 rfl rfl ?_);refine wx ?_;simp -implicitDefEqProofs -dsimp[Tryz.f43,List.replicate,aF,LS,LR];refine(aG (c1) (by simp)).mono ?_;rintro r H' ⟨rfl,rfl⟩;simp -implicitDefEqProofs -dsimp[];refine(aG (c2) (by simp)).mono ?_;rintro r H' ⟨rfl,rfl⟩;simp -implicitDefEqProofs -dsimp[hw,show ¬(60:Int)<mn by omega];refine(aG (c3) (by simp)).mono ?_;rintro r H' ⟨rfl,rfl⟩;simp -implicitDefEqProofs -dsimp[]
  ·rw[show dl t fds cells=cC t.attrs.length fds by unfold dl;rw[if_neg (by simp[h1]),if_pos h2]];refine aC (aD tok Tryz.func43 rfl rfl ?_);refine wx ?_;simp -implicitDefEqProofs -dsimp[Tryz.f43,List.replicate,aF,LS,LR];refine(aG (c1) (by simp)).mono ?_;rintro r H' ⟨rfl,rfl⟩;simp -implicitDefEqProofs -dsimp[];refine(aG (c2) (by simp)).mono ?_;rintro r H' ⟨rfl,rfl⟩;simp -implicitDefEqProofs -dsimp[h2]
 ·rw[show dl t fds cells=validT t by unfold dl;rw[if_pos h1]];refine aC (aD tok Tryz.func43 rfl rfl ?_);refine wx ?_;simp -implicitDefEqProofs -dsimp[Tryz.f43,List.replicate,aF,LS,LR];refine(aG (c1) (by simp)).mono ?_;rintro r H' ⟨rfl,rfl⟩;simp -implicitDefEqProofs -dsimp[h1]
section
open Classical in
noncomputable def dD(l:List Cr)(c:Cr):Bool:=decide (c∈l)
theorem bd{l:List Cr}{c:Cr} : dD l c=true↔c∈l:=by unfold dD;simp
theorem eqCr(H:List B)(a b c d:Int):eZ T H 49 (.agg [.int .i64 a,.int .i64 b]) (.agg [.int .i64 c,.int .i64 d])=some (a == c&&b == d):=by
 have h1:∀x y:Int,eqD T 9999 2 (.int .i64 x) (.int .i64 y)=some (x == y):=fun x y=>by simp[eqD]
 have h2:∀x y:Int,eqD T 9999 3 (.int .i64 x) (.int .i64 y)=some (x == y):=fun x y=>by simp[eqD]
 simp only[eZ];rw[show(10000:Nat)=9999+1 from rfl,eqD];simp only[T_49];simp only[if_true,eqFs,jc,T_2,T_3,dU,List.getElem?_cons_zero,List.getElem?_cons_succ,Bool.false_eq_true,if_false,h1,h2];cases (a == c)<;>cases (b == d)<;>simp
theorem pQ(l:List Cr)(c:Cr)(f:Bool)(hl:l.length≤1000000):aS Tryz.prog 50 [LC f l,aO c] fun r=>r = .bool (dD l c):=by
 obtain⟨E,hE⟩:∃E,E=dD l c:=⟨_,rfl⟩;rw[←hE];refine aC (aD tok Tryz.func50 rfl rfl ?_);refine wx ?_;simp -implicitDefEqProofs -dsimp[Tryz.f50,List.replicate,LC,aO];refine aK (W_loopM 18 [4,5,6,7,8,9,10,11,12,13,14,15,16,17] (by simp[mB]<;>rfl) (σ:=Nat) (fun i=>∀j (h:j<l.length),j<i→l[j]≠c) (fun i=>l.length-i) (fun i=>[(5,.int .i64 i)]) (fun _=>[B.cells [.int .i64 c.id,.int .i64 c.attr]]) 0 (fun j _ h=>by omega) (by simp) rfl (by simp) ?_);intro i hx N Q hN hQ;by_cases hb:i<l.length
 ·cases hq:(l[i].id == c.id&&l[i].attr == c.attr) with
  | true =>
   have he:l[i]=c:=by
    rw[Bool.and_eq_true,beq_iff_eq,beq_iff_eq]at hq;exact Cr.eq_iff.2 hq
   rw[bd.2 (he▸List.getElem_mem hb)]at hE;refine wx ?_;simp -implicitDefEqProofs -dsimp[hb,aO,eqCr,hq];refine .inr ⟨aJ (by kernel_rfl),?_⟩;refine hQ _ _ _ ?_;simp -implicitDefEqProofs -dsimp[];exact hE
  | false =>
   have he:l[i]≠c:=fun h=>by subst h;simp at hq
   refine wx ?_;simp -implicitDefEqProofs -dsimp[hb,aO,eqCr,hq];refine .inr ⟨aJ (by kernel_rfl),?_⟩;simp -implicitDefEqProofs -dsimp[aM i (by omega)];refine hN (i+1) _ _ (fun j h hj=>?_) (by omega) (by simp) ⟨[],rfl⟩ (by simp) (by simp)
   rcases Nat.lt_or_ge j i with h1 | h1
   ·exact hx j h h1
   ·have:j=i:=by omega
    subst this;exact he
 ·have hno:dD l c=false:=by
   cases hh:dD l c
   ·rfl
   ·obtain⟨j,hj,h2⟩:=List.mem_iff_getElem.1 (bd.1 hh);exact absurd h2 (hx j hj (by omega))
  rw[hno]at hE;refine wx ?_;simp -implicitDefEqProofs -dsimp[hb];refine hQ _ _ _ ?_;simp -implicitDefEqProofs -dsimp[];exact hE
def eg(t:Tb)(c:Nat):List Cr:=(List.range c).map (bN t)
theorem cellsTo_succ(t:Tb)(c:Nat):eg t (c+1)=eg t c++[bN t c]:=by simp[eg,List.range_succ]
theorem nV(t:Tb)(c:Nat):(eg t c).length=c:=by simp[eg]
theorem dM(t:Tb):(aa t).length=t.rows.length*t.attrs.length:=by simp[aa]
theorem dR(t:Tb)(ff gg:Bool)(hr:t.rows.length≤1000)(hn:t.attrs.length≤1000):aS Tryz.prog 18 [aF ff gg t] fun r=>r=LC false (aa t):=by
 obtain⟨n,hne⟩:∃n,n=t.attrs.length:=⟨_,rfl⟩;obtain⟨m,hme⟩:∃m,m=t.rows.length:=⟨_,rfl⟩;have hne':=hne.symm;have hme':=hme.symm;rw[hne']at hn;rw[hme']at hr;refine aC (aD tok Tryz.func18 rfl rfl ?_);refine wx ?_;simp -implicitDefEqProofs -dsimp[Tryz.f18,List.replicate,aF,LS,LR];refine aK (gG 49 2 [3] (by simp) (W_loopM 31 [3,4,5,6,7,8,9,10,11,12,13,14,15,16,17,18,19,20,21,22,23,24,25,26,27,28,29,30] (by simp[mB]<;>rfl) (σ:=Nat×Nat) (fun p=>p.1≤m∧p.2=p.1*n) (fun p=>m-p.1) (fun p=>[(4,.int .i64 p.1),(3,.buf 1 0 p.2 p.2)]) (fun p=>[B.cells [.str t.name,.lst 1 ff (t.attrs.map V.str),.lst 2 gg (t.rows.map aN)],B.buf 49 2 ((eg t p.2).map aO) false]) (0,0) ⟨by simp,by simp⟩ (by simp) (by simp[eg]) (by simp) ?_));rintro⟨i,c⟩ ⟨hi,hc⟩ N Q hN hQ;simp only at hi hc hN;by_cases hib:i<m
 ·have hit:i<t.rows.length:=by omega
  obtain⟨rw,hrw⟩:∃rw,rw=t.rows[i]:=⟨_,rfl⟩;have hrw':=hrw.symm;refine wx ?_;simp -implicitDefEqProofs -dsimp[hib,hme'];refine aK (W_loopM 31 [3,5,13,14,15,16,17,18,19,20,21,22,23,24,25,26,27,28,29,30] (by simp[mB]<;>rfl) (σ:=Nat×Nat) (fun p=>p.1≤n∧p.2=i*n+p.1) (fun p=>n-p.1) (fun p=>[(5,.int .i64 p.1),(3,.buf 1 0 p.2 p.2)]) (fun p=>[B.cells [.str t.name,.lst 1 ff (t.attrs.map V.str),.lst 2 gg (t.rows.map aN)],B.buf 49 2 ((eg t p.2).map aO) false]) (0,c) ⟨by simp,by simp[hc]⟩ (by simp) (by simp) (by simp) ?_);rintro⟨a,c2⟩ ⟨ha,hc2⟩ N2 Q2 hN2 hQ2;simp only at ha hc2 hN2;by_cases hab:a<n
  ·have hlt:=bB hib hab;have hbig:m*n≤1000*1000:=Nat.mul_le_mul hr hn;have hol:=nV t c2
   have hat:bN t c2=⟨rw.id,(a:Int)⟩:=by
    rw[hc2,hne,gS t (hne▸hab),bF hit,←hrw]
   have hst:=cellsTo_succ t c2;rw[hat]at hst;refine wx ?_;simp -implicitDefEqProofs -dsimp[hab,hne',hit,hrw',aN,hol,je c2 (by omega),aM a (by omega)];refine hN2 (a+1,c2+1) _ _ ⟨by simp only;omega,by simp only;omega⟩ (by simp only;omega) (by simp) ⟨[],by simp[hst,aO]⟩ (by simp) (by simp)
  ·have hae:a=n:=by omega
   subst hae;refine wx ?_;simp -implicitDefEqProofs -dsimp[hab,hne'];refine hQ2 _ _ _ ?_;simp -implicitDefEqProofs -dsimp[aM i (by omega)];refine hN (i+1,c2) _ _ ⟨by simp only;omega,by simp only;rw[hc2,Nat.add_mul];omega⟩ (by simp only;omega) (by simp) ⟨[],by simp⟩ (by simp) (by simp)
 ·have hie:i=m:=by omega
  subst hie;refine wx ?_;simp -implicitDefEqProofs -dsimp[hib,hme'];refine hQ _ _ _ ?_;simp -implicitDefEqProofs -dsimp[];rw[show aa t=eg t c by unfold aa eg;rw[hc,←hme,←hne]];exact dr rfl (by simp[nV]) (by simp)
end
theorem cellsT_at{t:Tb}{i:Nat}(h:i<(aa t).length):(aa t)[i]=bN t i:=by simp[aa]
theorem others_r(t:Tb)(ff gg cf:Bool)(l:List Cr)(hr:t.rows.length≤1000)(hn:t.attrs.length≤1000)(hl:l.length≤1000000):aS Tryz.prog 21 [aF ff gg t,LC cf l] fun r=>r=LC false (bX t l):=by
 have c1:=dR t ff gg hr hn;have hbig:t.rows.length*t.attrs.length≤1000*1000:=Nat.mul_le_mul hr hn;obtain⟨all,hall⟩:∃all,all=aa t:=⟨_,rfl⟩
 have hlen:all.length=t.rows.length*t.attrs.length:=by rw[hall,dM]
 have hat:∀i (h:i<all.length),all[i]=bN t i:=fun i h=>by subst hall;exact cellsT_at h
 rw[←hall]at c1;simp only[aF,LS,LR,LC]at c1;rw[←mX,←hlen];refine aC (aD tok Tryz.func21 rfl rfl ?_);refine wx ?_;simp -implicitDefEqProofs -dsimp[Tryz.f21,List.replicate,aF,LS,LR,LC];refine(aG (c1) (by simp)).mono ?_;rintro r H' ⟨rfl,rfl⟩;simp -implicitDefEqProofs -dsimp[];refine aK (gG 49 2 [6] (by simp) (W_loopM 30 [6,7,10,11,12,13,14,15,16,17,18,19,20,21,22,23,24,25,26,27,28,29] (by simp[mB]<;>rfl) (σ:=Nat) (fun i=>i≤all.length) (fun i=>all.length-i) (fun i=>[(7,.int .i64 i),(6,.buf 1 0 (da t l i).length (da t l i).length)]) (fun i=>[B.cells [.str t.name,.lst 1 ff (t.attrs.map V.str),.lst 2 gg (t.rows.map aN)],B.buf 49 2 ((da t l i).map aO) false]) 0 (by omega) (by simp[ii]) (by simp[ii]) (by simp) ?_));intro i hi N Q hN hQ;by_cases hb:i<all.length
 ·have h1:=hat i hb;obtain⟨x,hx⟩:∃x,x=all[i]:=⟨_,rfl⟩;rw[←hx]at h1;have hx':=hx.symm;have hol:=mW t l i;have hc:=pQ l x cf hl;simp only[LC,aO]at hc
  cases hq:dD l x with
  | true =>
   rw[hq]at hc;have hst:=othTo_in (t:=t) (l:=l) (x:=i) (h1▸bd.1 hq);refine wx ?_;simp -implicitDefEqProofs -dsimp[hb,hx',aO];refine(aG (hc) (by simp)).mono ?_;rintro r H' ⟨rfl,rfl⟩;simp -implicitDefEqProofs -dsimp[aM i (by omega)];refine hN (i+1) _ _ (by omega) (by omega) (by simp[hst]) ⟨[],by simp[hst]⟩ (by simp[LC]) (by simp)
  | false =>
   rw[hq]at hc;have hst:=othTo_out (t:=t) (l:=l) (x:=i) (h1▸fun h=>by rw[bd.2 h]at hq;cases hq);rw[←h1]at hst;refine wx ?_;simp -implicitDefEqProofs -dsimp[hb,hx',aO];refine(aG (hc) (by simp)).mono ?_;rintro r H' ⟨rfl,rfl⟩;simp -implicitDefEqProofs -dsimp[hb,hx',aO,je (da t l i).length (by omega),aM i (by omega)];refine hN (i+1) _ _ (by omega) (by omega) (by simp[hst]) ⟨[],by simp[hst,aO]⟩ (by simp[LC]) (by simp)
 ·obtain rfl:i=all.length:=by omega
  refine wx ?_;simp -implicitDefEqProofs -dsimp[hb];refine hQ _ _ _ ?_;simp -implicitDefEqProofs -dsimp[];exact dr rfl (by simp) (by simp)
structure Cs where
 r:Rcp
 d:List Fd
def gA(f g:Bool)(c:Cs):V:=.agg [.int .u8 c.r.a,.int .u8 c.r.gap,.lst 1 f (c.r.rows.map LU),.lst 2 g (c.d.map encD)]
@[simp] theorem encCs_pure (f g:Bool) (c:Cs):AM.Pure (gA f g c):=by simp[gA]
structure CsOk (c:Cs):Prop where
 a:0≤c.r.a∧c.r.a<256
 gap:0≤c.r.gap
 rows:∀r∈c.r.rows,r.length≤9223372036854775807
 rlen:c.r.rows.length≤9223372036854775807
 dlen:c.d.length≤9223372036854775807
 deps:∀d∈c.d,d.l<256∧d.r<256
def csN(c:Cs):Nat:=(c.r.a.tmod 4).toNat
def csB(c:Cs):Bool:=decide (c.r.rows.length≤4)&&(decide (c.r.rows.length*csN c≤9)&&decide (c.d.length≤3))
def csT(c:Cs):Tb:=oM c.r (csN c)
def csF(c:Cs):List Fd:=c.d.map (fdOf (csN c))
theorem csN_lt{c:Cs}(h:CsOk c):csN c<4∧c.r.a.tmod 4=(csN c:Int):=by
 have h1:=Int.tmod_nonneg 4 h.a.1;have h2:=Int.tmod_lt_of_pos c.r.a (show(0:Int)<4 by omega);unfold csN;omega
def offV:V:=.tup [.agg [.str ByteArray.empty,.nilS,.nilS],.nilS,.bool false]
theorem of_no(c:Cs)(f g:Bool)(h:CsOk c)(hb:csB c=false):aS Tryz.prog 11 [gA f g c] fun r=>r=offV:=by
 obtain⟨h1,h2⟩:=csN_lt h;obtain⟨n,hn⟩:∃n,n=csN c:=⟨_,rfl⟩;rw[←hn]at h1 h2;have hw:IntKind.i64.wrap (n:Int)=n:=dS n (by omega);unfold csB at hb;rw[←hn]at hb;by_cases r1:c.r.rows.length≤4
 ·have hmn:c.r.rows.length*n≤4*4:=Nat.mul_le_mul r1 (by omega)
  have hw2:IntKind.i64.wrap ((c.r.rows.length:Int)*(n:Int))=((c.r.rows.length*n:Nat):Int):=by rw[wrap64 (by rw[←Int.natCast_mul];omega) (by rw[←Int.natCast_mul];omega)];push_cast;rfl
  obtain⟨mn,hmn'⟩:∃mn,mn=c.r.rows.length*n:=⟨_,rfl⟩;rw[←hmn']at hw2 hb;by_cases r2:mn≤9
  ·have r3:¬c.d.length≤3:=by
    intro r3;rw[decide_eq_true r1,decide_eq_true r2,decide_eq_true r3]at hb;cases hb
   refine aC (aD tok Tryz.func11 rfl rfl ?_);refine wx ?_;simp -implicitDefEqProofs -dsimp[Tryz.f11,List.replicate,gA,h2,hw,hw2,show ¬(4:Int)<c.r.rows.length by omega,show ¬(9:Int)<mn by omega,show(3:Int)<c.d.length by omega];rfl
  ·refine aC (aD tok Tryz.func11 rfl rfl ?_);refine wx ?_;simp -implicitDefEqProofs -dsimp[Tryz.f11,List.replicate,gA,h2,hw,hw2,show ¬(4:Int)<c.r.rows.length by omega,show(9:Int)<mn by omega];rfl
 ·refine aC (aD tok Tryz.func11 rfl rfl ?_);refine wx ?_;simp -implicitDefEqProofs -dsimp[Tryz.f11,List.replicate,gA,h2,hw,show(4:Int)<c.r.rows.length by omega];rfl
theorem of_yes(c:Cs)(f g:Bool)(h:CsOk c)(hb:csB c=true):aS Tryz.prog 11 [gA f g c] fun r=>r = .tup [aF false false (csT c),LF false (csF c),.bool true]:=by
 obtain⟨h1,h2⟩:=csN_lt h;unfold csT csF;obtain⟨n,hn⟩:∃n,n=csN c:=⟨_,rfl⟩;rw[←hn]at h1 h2 ⊢;have hw:IntKind.i64.wrap (n:Int)=n:=dS n (by omega);unfold csB at hb;rw[←hn]at hb;simp only[Bool.and_eq_true,decide_eq_true_iff]at hb;obtain⟨r1,r2,r3⟩:=hb
 have hw2:IntKind.i64.wrap ((c.r.rows.length:Int)*(n:Int))=((c.r.rows.length*n:Nat):Int):=by rw[wrap64 (by rw[←Int.natCast_mul];omega) (by rw[←Int.natCast_mul];omega)];push_cast;rfl
 obtain⟨mn,hmn'⟩:∃mn,mn=c.r.rows.length*n:=⟨_,rfl⟩;rw[←hmn']at hw2 r2;have c1:=wide03 c.r n f (by omega) (by omega) h.rows h.gap;have c2:=list09 n c.d g (by omega) (by omega) h.deps;simp only[ml,aF,LS,LR]at c1;obtain⟨w,hwt⟩:∃w,w=oM c.r n:=⟨_,rfl⟩;rw[←hwt]at c1 ⊢;refine aC (aD tok Tryz.func11 rfl rfl ?_);refine wx ?_;simp -implicitDefEqProofs -dsimp[Tryz.f11,List.replicate,gA,h2,hw,hw2,show ¬(4:Int)<c.r.rows.length by omega,show ¬(9:Int)<mn by omega,show ¬(3:Int)<c.d.length by omega];refine aK (ai tok mixed [8] [] [(.agg [.str w.name,.lst 1 false (w.attrs.map V.str),.lst 2 false (w.rows.map aN)],[]),(LF false (c.d.map (fdOf n)),[])] (by kernel_rfl) fun C K hC hK=>?_);simp -implicitDefEqProofs [];refine⟨⟨hC _ _ _ _ (aG c1 (by simp)),hC _ _ _ _ (aG c2 (by simp))⟩,hK _ _ ?_⟩;simp -implicitDefEqProofs -dsimp[aF,LS,LR]
theorem oX{n:Nat} : ∀{rs:List Rw} {last:Int},(∀r∈rs,last<r.id)→(∀r∈rs,r.vals.length=n)→(∀r∈rs,∀v∈r.vals,bP v=true)→rs.Pairwise (fun a b=>a.id<b.id)→dp n last rs=0
 | [],_,_,_,_,_=>rfl
 | r::rs,last,h1,h2,h3,h4=>by
  have a1:=h1 r List.mem_cons_self;have a2:=h2 r List.mem_cons_self;have a3:r.vals.all bP=true:=List.all_eq_true.2 (h3 r List.mem_cons_self);rw[List.pairwise_cons]at h4;rw[dp,if_neg (by omega),if_neg (by omega),a3,if_pos rfl];exact oX h4.1 (fun r' hr=>h2 r' (List.mem_cons_of_mem _ hr)) (fun r' hr=>h3 r' (List.mem_cons_of_mem _ hr)) h4.2
theorem TbV.validT{t:Tb}(h:TbV t)(hpos:∀r∈t.rows,0<r.id):validT t=0:=by
 unfold Go.Proofs.YteijbpppalhihaaGreat.validT;rw[h.name,if_pos rfl,if_neg (by have:=h.attrs;have:=h.rows;omega),h.names,if_pos rfl];exact oX hpos h.len h.vals h.asc
theorem ma(m:Int):bP (ofV m)=true:=by
 unfold ofV
 repeat' split
 all_goals kernel_rfl
theorem wide_rows{x:Rcp}{n:Nat}(hg:0≤x.gap):(∀r∈(oM x n).rows,0<r.id∧r.vals.length=n∧∀v∈r.vals,bP v=true)∧(oM x n).rows.Pairwise fun a b=>a.id<b.id:=by
 have h0:=Int.tmod_nonneg 3 hg;constructor
 ·intro r hr;obtain⟨i,hi,rfl⟩:=List.mem_map.1 hr;refine⟨?_,wVals_len _ _,fun v hv=>?_⟩
  ·show 0<1+(i:Int)*(1+x.gap.tmod 3);have:=Int.mul_nonneg (show(0:Int)≤i by omega) (show 0≤1+x.gap.tmod 3 by omega);omega
  ·obtain⟨j,_,rfl⟩:=List.mem_map.1 hv;exact ma _
 ·show((List.range x.rows.length).map _).Pairwise _;rw[List.pairwise_map];refine List.Pairwise.imp ?_ List.pairwise_lt_range;intro i j hij;show 1+(i:Int)*(1+x.gap.tmod 3)<1+(j:Int)*(1+x.gap.tmod 3);have:=Int.mul_lt_mul_of_pos_right (show(i:Int)<j by omega) (show 0<1+x.gap.tmod 3 by omega);omega
theorem names_small:∀n,n<4→gc (L8.take n)=true
 | 0,_=>by kernel_rfl
 | 1,_=>by kernel_rfl
 | 2,_=>by kernel_rfl
 | 3,_=>by kernel_rfl
 | n+4,h=>by omega
structure CsV (c:Cs):Prop where
 tv:TbV (csT c)
 valid:validT (csT c)=0
 attrs:(csT c).attrs.length=csN c
 rows:(csT c).rows.length=c.r.rows.length
 small:(csT c).rows.length*(csT c).attrs.length≤9
 n4:csN c<4
 m4:c.r.rows.length≤4
 fok:bo (csF c)
 ferr:cC (csT c).attrs.length (csF c)=0
 flen:(csF c).length≤3
theorem jU:∀n,dg n<2^n
 | 0=>by simp[dg]
 | i+1=>Nat.or_lt_two_pow (n:=i+1) (Nat.lt_trans (jU i) (Nat.pow_lt_pow_right (by omega) (by omega))) (Nat.pow_lt_pow_right (by omega) (by omega))
theorem csV{c:Cs}(h:CsOk c)(hb:csB c=true):CsV c:=by
 obtain⟨h1,h2⟩:=csN_lt h;unfold csB at hb;simp only[Bool.and_eq_true,decide_eq_true_iff]at hb;obtain⟨r1,r2,r3⟩:=hb
 have ha:(csT c).attrs.length=csN c:=by
  show(L8.take (csN c)).length=_;rw[List.length_take];have:L8.length=8:=rfl;omega
 have hr:(csT c).rows.length=c.r.rows.length:=wRows_len _ _ _;obtain⟨w1,w2⟩:=wide_rows (x:=c.r) (n:=csN c) h.gap
 have tv:TbV (csT c):=by
  refine⟨⟨(show(⟨#[114]⟩:ByteArray).size≤maxLen by decide),by omega,by omega,fun s hs=>?_⟩,by omega,by omega,names_small _ h1,(show bn ⟨#[114]⟩=true by kernel_rfl),fun r hr=>?_,fun r hr=>(w1 r hr).2.2,w2⟩
  ·have hs:=List.mem_of_mem_take (show s∈L8.take (csN c) from hs)
   have:∀s∈L8,s.size≤maxLen:=by
    intro s hs;simp only[L8,List.mem_cons,List.not_mem_nil,or_false]at hs
    rcases hs with rfl | rfl | rfl | rfl | rfl | rfl | rfl | rfl<;>decide
   exact this s hs
  ·rw[ha];exact(w1 r hr).2.1
 refine⟨tv,tv.validT fun r hr=>(w1 r hr).1,ha,hr,by rw[ha,hr];exact r2,h1,r1,⟨by simp[csF];omega,fun d hd=>?_⟩,?_,by simp[csF];exact r3⟩
 ·obtain⟨d',hd',rfl⟩:=List.mem_map.1 hd;have:=h.deps d' hd';exact⟨Nat.lt_of_le_of_lt Nat.and_le_left (by omega),Nat.lt_of_le_of_lt Nat.and_le_left (by omega)⟩
 ·unfold cC;rw[if_neg (by simp[csF];omega),if_pos];rw[List.all_eq_true];intro d hd;obtain⟨d',hd',rfl⟩:=List.mem_map.1 hd;have hf:=jU (csN c);simp only[lh,fdOf,Bool.and_eq_true,decide_eq_true_iff,ha];exact⟨Nat.lt_of_le_of_lt Nat.and_le_right hf,Nat.lt_of_le_of_lt Nat.and_le_right hf⟩
structure CellsOk (t:Tb) (l:List Cr):Prop where
 sorted:aZ l
 mem:∀c∈l,c∈aa t
 len:l.length≤1000000
theorem mK{t:Tb}(_:TbV t){c:Cr} : dm t c=true↔c∈aa t:=by
 unfold dm aa hasId;simp only[Bool.and_eq_true,decide_eq_true_iff,List.any_eq_true,beq_iff_eq,List.mem_map,List.mem_range];constructor
 ·rintro⟨⟨r,hr,hid⟩,h1,h2⟩;obtain⟨i,hi,rfl⟩:=List.mem_iff_getElem.1 hr
  have ha:c.attr.toNat<t.attrs.length:=by omega
  refine⟨i*t.attrs.length+c.attr.toNat,bB hi ha,?_⟩;rw[gS t ha,bF hi,Cr.eq_iff];exact⟨hid,by simp;omega⟩
 ·rintro⟨x,hx,rfl⟩
  have hn:0<t.attrs.length:=by
   rcases Nat.eq_zero_or_pos t.attrs.length with h0 | h0
   ·rw[h0]at hx;omega
   ·exact h0
  have hm:x / t.attrs.length<t.rows.length:=by rw[Nat.div_lt_iff_lt_mul hn];exact hx
  refine⟨⟨t.rows[x / t.attrs.length],List.getElem_mem hm,?_⟩,?_,?_⟩
  ·unfold bN;rw[bF hm]
  ·unfold bN;simp only;omega
  ·unfold bN;simp only;have:=Nat.mod_lt x hn;omega
theorem chk_ok{t:Tb}{fds:List Fd}{l:List Cr}(hv:TbV t)(h1:validT t=0)(h2:cC t.attrs.length fds=0)(h3:t.rows.length*t.attrs.length≤60)(hl:CellsOk t l):dl t fds l=0:=by
 unfold dl;rw[if_neg (by simp[h1]),if_neg (by simp[h2]),if_neg (by omega),if_neg (by simp[hl.sorted]),if_pos];rw[List.all_eq_true]
 exact fun c hc=>(mK hv).2 (hl.mem c hc)
theorem others_others{t:Tb}{fds:List Fd}{l:List Cr} : Okq (aW t fds (bX t (bX t l)))↔Okq (aW t fds l):=okq_congr fun x hx=>by
 rw[cP,cP];have:=kd hx;constructor
 ·rintro⟨_,h2⟩
  exact Classical.byContradiction fun h3=>h2 ⟨this,h3⟩
 ·intro h;exact⟨this,fun h2=>h2.2 h⟩
theorem gokN(s:AM.St):GOk Tryz.prog s:=fun g hg=>by
 rw[show Tryz.prog.globalNamed "math/bits.deBruijn32tab" = none by kernel_rfl]at hg;cases hg
theorem cells_ok:∀t i,T t=some i→Tryz.prog.cellsOf t=i.size:=fun t i hi=>by
 obtain⟨inf,h1,h2,_⟩:=tok.info t i hi;simp[Program.cellsOf,h1,h2]
theorem lQ{α:Type}{enc:α→V}{p:α→Prop} : ∀{xs:List V},(∀x∈xs,∃a,x=enc a∧p a)→∃ys:List α,xs=ys.map enc∧∀y∈ys,p y
 | [],_=>⟨[],rfl,by simp⟩
 | x::xs,h=>by
  obtain⟨a,rfl,ha⟩:=h x (by simp);obtain⟨ys,rfl,hy⟩:=lQ (xs:=xs) (fun y hy=>h y (by simp[hy]));exact⟨a::ys,rfl,fun y hm=>(List.mem_cons.1 hm).elim (fun e=>e▸ha) (hy y)⟩
theorem oV{n:Nat}{ws:List V}(h:Sh T (n+1) 5 ws):∃m:Int,ws=[.int .u8 m]∧0≤m∧m≤255:=by
 simp[Sh]at h;obtain⟨m,rfl,hm⟩:=h;refine⟨m,rfl,?_⟩;simp[Lit.wf,IntKind.min,IntKind.max,IntKind.signed,IntKind.bits]at hm;omega
theorem sh_fld{n t:Nat}{i:TI}{fs:Array Field}{sz:Nat}{ws:List V}(h:Sh T (n+1) t ws)(hT:T t=some i)(hd:i.desc = .struct fs)(hs:i.size=sz):ws.length=sz∧∀(k:Nat) f j,fs[k]?=some f→T f.type=some j→Sh T n f.type ((ws.drop f.offset).take j.size):=by
 rw[Sh]at h;simp only[hT,hd]at h;refine⟨by rw[←hs];exact h.1,fun k f j hk hj=>?_⟩;obtain⟨j',h1,h2⟩:=h.2 f (by rw[Array.mem_toList_iff];exact Array.mem_of_getElem? hk);rw[hj]at h1;cases h1;exact h2
theorem sh_lst{n t e:Nat}{i j:TI}{ws:List V}(h:Sh T (n+1) t ws)(hT:T t=some i)(hd:i.desc = .slice e)(hj:T e=some j):∃xs,ws=[.lst j.size false xs]∧xs.length≤maxLen∧∀x∈xs,∃ws,Sh T n e ws∧ws.length=j.size∧x=(if dU j.desc then .agg ws else ws.headD .undef):=by
 rw[Sh]at h;simp only[hT,hd,hj]at h;exact h
theorem sh_rows{n:Nat}{ws:List V}(h:Sh T (n+3) 22 ws):∃rs:List (List Int),ws=[.lst 1 false (rs.map LU)]∧rs.length≤maxLen∧∀r∈rs,r.length≤maxLen:=by
 obtain⟨xs,rfl,hl,hx⟩:=sh_lst h T_22 rfl T_155
 obtain⟨rs,rfl,hr⟩:∃rs:List (List Int),xs=rs.map LU∧∀r∈rs,r.length≤maxLen:=lQ fun x hxm=>by
  obtain⟨ws,hs,_,rfl⟩:=hx x hxm;obtain⟨ys,rfl,hl2,hy⟩:=sh_lst hs T_155 rfl T_5
  obtain⟨ns,rfl,_⟩:∃ns:List Int,ys=ns.map encU∧∀n∈ns,True:=lQ fun y hym=>by
   obtain⟨ws,hs,_,rfl⟩:=hy y hym;obtain⟨m,rfl,_⟩:=oV hs;exact⟨m,by simp[dU,encU],trivial⟩
  exact⟨ns,by simp[dU,LU],by simpa using hl2⟩
 exact⟨rs,rfl,by simpa using hl,hr⟩
theorem sh_deps{n:Nat}{ws:List V}(h:Sh T (n+3) 25 ws):∃ds:List Fd,ws=[.lst 2 false (ds.map encD)]∧ds.length≤maxLen∧∀d∈ds,d.l<256∧d.r<256:=by
 obtain⟨xs,rfl,hl,hx⟩:=sh_lst h T_25 rfl T_158
 obtain⟨ds,rfl,hd⟩:∃ds:List Fd,xs=ds.map encD∧∀d∈ds,d.l<256∧d.r<256:=lQ fun x hxm=>by
  obtain⟨ws,hs,_,rfl⟩:=hx x hxm;obtain⟨hlen,hf⟩:=sh_fld hs T_158 rfl rfl
  obtain⟨a,b,rfl⟩:∃a b,ws=[a,b]:=by
   match ws,hlen with
   | [a,b],_=>exact⟨a,b,rfl⟩
  obtain⟨m,e1,p1,p2⟩:=oV (hf 0 _ _ rfl T_5);obtain⟨k,e2,q1,q2⟩:=oV (hf 1 _ _ rfl T_5);simp at e1 e2;subst e1;subst e2;refine⟨⟨m.toNat,k.toNat⟩,?_,by simp only;omega,by simp only;omega⟩;simp[dU,encD,Int.toNat_of_nonneg p1,Int.toNat_of_nonneg q1]
 exact⟨ds,rfl,by simpa using hl,hd⟩
theorem sh_recipe{n:Nat}{ws:List V}(h:Sh T (n+4) 24 ws):∃r:Rcp,ws=[.int .u8 r.a,.int .u8 r.gap,.lst 1 false (r.rows.map LU)]∧(0≤r.a∧r.a≤255)∧0≤r.gap∧r.rows.length≤maxLen∧∀x∈r.rows,x.length≤maxLen:=by
 obtain⟨hlen,hf⟩:=sh_fld h T_24 rfl rfl
 obtain⟨a,b,c,rfl⟩:∃a b c,ws=[a,b,c]:=by
  match ws,hlen with
  | [a,b,c],_=>exact⟨a,b,c,rfl⟩
 obtain⟨m,e1,p1,p2⟩:=oV (hf 0 _ _ rfl T_5);obtain⟨k,e2,q1,q2⟩:=oV (hf 1 _ _ rfl T_5);obtain⟨rs,e3,l1,l2⟩:=sh_rows (hf 2 _ _ rfl T_22);simp at e1 e2 e3;subst e1;subst e2;subst e3;exact⟨⟨m,k,rs⟩,rfl,⟨p1,p2⟩,q1,l1,l2⟩
theorem sh_case{n:Nat}{ws:List V}(h:Sh T (n+5) 27 ws):∃c:Cs,.agg ws=gA false false c∧CsOk c:=by
 obtain⟨hlen,hf⟩:=sh_fld h T_27 rfl rfl
 obtain⟨a,b,c,d,rfl⟩:∃a b c d,ws=[a,b,c,d]:=by
  match ws,hlen with
  | [a,b,c,d],_=>exact⟨a,b,c,d,rfl⟩
 obtain⟨r,e1,p1,p2,p3,p4⟩:=sh_recipe (hf 0 _ _ rfl T_24);obtain⟨ds,e2,q1,q2⟩:=sh_deps (hf 1 _ _ rfl T_25);simp at e1 e2;obtain⟨rfl,rfl,rfl⟩:=e1;subst e2;exact⟨⟨r,ds⟩,rfl,⟨⟨p1.1,by show r.a<256;omega⟩,p2,p4,p3,q1,q2⟩⟩
theorem agg_rel{w:World}{vs:List V}{us:Array Value}(h:CR w vs us.toList):Rel (AM.base (fun _=>False) w) (.agg vs) (.agg us):=
 .agg vs us (by simpa using h.len.symm) h.one (fun i c u hc hu=>h.rel i c u hc (by simpa using hu))
end
end Go.Proofs.YteijbpppalhihaaGreat
namespace Go.Proofs.YteijbpppalhihaaGreat
section
open Go Go.AM Go.RowKit Go.Lib
theorem nanK64(x:Int)(W:World):Calls Tryz.prog 169 #[.int .i64 x] W fun e w'=>e = .returned (.bool false)∧w'=W:=by
 go_enter Tryz.func169,Tryz.ntmps169
 go_wp2
 go_ret
 exact⟨rfl,rfl⟩
theorem cmpK64(x y:Int)(W:World):Calls Tryz.prog 123 #[.int .i64 x,.int .i64 y] W fun e w'=>e = .returned (.int .i64 (bU x y))∧w'=W:=by
 have h1:=nanK64 x W;have h2:=nanK64 y W;by_cases c1:x<y
 ·rw[show bU x y = -1 by unfold bU;rw[if_pos c1]]
  go_enter Tryz.func123,Tryz.ntmps123
  go_wp2_with (go_at_call 169;first | (refine h1.mono ?_;rintro e w' ⟨rfl,rfl⟩) | (refine h2.mono ?_;rintro e w' ⟨rfl,rfl⟩))
  go_ret
  exact⟨rfl,rfl⟩
 ·by_cases c2:y<x
  ·rw[show bU x y=1 by unfold bU;rw[if_neg c1,if_pos c2]];have c3:x > y:=c2
   go_enter Tryz.func123,Tryz.ntmps123
   go_wp2_with (go_at_call 169;first | (refine h1.mono ?_;rintro e w' ⟨rfl,rfl⟩) | (refine h2.mono ?_;rintro e w' ⟨rfl,rfl⟩))
   go_ret
   exact⟨rfl,rfl⟩
  ·rw[show bU x y=0 by unfold bU;rw[if_neg c1,if_neg c2]];have c3:¬x > y:=c2
   go_enter Tryz.func123,Tryz.ntmps123
   go_wp2_with (go_at_call 169;first | (refine h1.mono ?_;rintro e w' ⟨rfl,rfl⟩) | (refine h2.mono ?_;rintro e w' ⟨rfl,rfl⟩))
   go_ret
   exact⟨rfl,rfl⟩
theorem nanKI(x:Int)(W:World):Calls Tryz.prog 170 #[.int .i64 x] W fun e w'=>e = .returned (.bool false)∧w'=W:=by
 go_enter Tryz.func170,Tryz.ntmps170
 go_wp2
 go_ret
 exact⟨rfl,rfl⟩
theorem cmpKI(x y:Int)(W:World):Calls Tryz.prog 124 #[.int .i64 x,.int .i64 y] W fun e w'=>e = .returned (.int .i64 (bU x y))∧w'=W:=by
 have h1:=nanKI x W;have h2:=nanKI y W;by_cases c1:x<y
 ·rw[show bU x y = -1 by unfold bU;rw[if_pos c1]]
  go_enter Tryz.func124,Tryz.ntmps124
  go_wp2_with (go_at_call 170;first | (refine h1.mono ?_;rintro e w' ⟨rfl,rfl⟩) | (refine h2.mono ?_;rintro e w' ⟨rfl,rfl⟩))
  go_ret
  exact⟨rfl,rfl⟩
 ·by_cases c2:y<x
  ·rw[show bU x y=1 by unfold bU;rw[if_neg c1,if_pos c2]];have c3:x > y:=c2
   go_enter Tryz.func124,Tryz.ntmps124
   go_wp2_with (go_at_call 170;first | (refine h1.mono ?_;rintro e w' ⟨rfl,rfl⟩) | (refine h2.mono ?_;rintro e w' ⟨rfl,rfl⟩))
   go_ret
   exact⟨rfl,rfl⟩
  ·rw[show bU x y=0 by unfold bU;rw[if_neg c1,if_neg c2]];have c3:¬x > y:=c2
   go_enter Tryz.func124,Tryz.ntmps124
   go_wp2_with (go_at_call 170;first | (refine h1.mono ?_;rintro e w' ⟨rfl,rfl⟩) | (refine h2.mono ?_;rintro e w' ⟨rfl,rfl⟩))
   go_ret
   exact⟨rfl,rfl⟩
end
end Go.Proofs.YteijbpppalhihaaGreat
namespace Go.Proofs.YteijbpppalhihaaGreat
section
open Go Go.AM Go.RowKit Go.Lib Go.Sort
theorem orK(c d:Int)(b:Nat)(W:World)(h0:W.cell? ⟨b,0,none⟩=some (.int .i64 c))(h1:W.cell? ⟨b,1,none⟩=some (.int .i64 d)):Calls Tryz.prog 122 #[.slice (some ⟨b,0,none⟩) 2 2] W fun e w'=>e = .returned (.int .i64 (if c=0 then d else c))∧w'=W:=by
 go_enter Tryz.func122,Tryz.ntmps122
 go_wp2
 go_loop [8] (fun m=>m = .int .i64 0∨(m = .int .i64 1∧c=0)∨(m = .int .i64 2∧c=0∧d=0)) (fun m=>2-(intOf m).toNat)
 case atStart=>exact .inl rfl
 case round =>
  rcases hrel with rfl | ⟨rfl,hc⟩ | ⟨rfl,hc,hd⟩
  ·by_cases hc:c=0
   ·go_wp2
    exact⟨.inr (.inl ⟨rfl,hc⟩),by simp[intOf]⟩
   ·go_wp2
    go_ret
    exact⟨rfl,rfl⟩
  ·by_cases hd:d=0
   ·go_wp2
    exact⟨.inr (.inr ⟨rfl,hc,hd⟩),by simp[intOf]⟩
   ·go_wp2
    go_ret
    exact⟨rfl,rfl⟩
  ·go_wp2
   go_ret
   exact⟨rfl,rfl⟩
theorem region_two{P:Program}{id:Nat}{Q:Exit→Act→World→Prop}{a:Act}{w:World}{l:List Oper}(n:Nat)(hm:P.follows .mixedOrders=true)(hB:Region.lexTailB .any l.toArray n=true)
  (h:∀W',W'=w.drew→wpStill P l.toArray W' (fun a'=>wpList P l.toArray Q (l.drop n) a' W') (l.take n) a):(Code.region id l.toArray true).wp P Q a w :=
 wp_region_still_tail n hm hB (h _ rfl)
theorem compareK(x y:Cr)(W:World):Calls Tryz.prog 75 #[.agg #[.int .i64 x.id,.int .i64 x.attr],.agg #[.int .i64 y.id,.int .i64 y.attr]] W fun e w'=>e = .returned (.int .i64 (bj x y))∧∃q os',w'=grow (W.drewN q) os':=by
 have h1:=fun W=>cmpK64 x.id y.id W
 have h2:=fun W=>cmpKI x.attr y.attr W
 have hor:(if bU x.id y.id=0 then bU x.attr y.attr else bU x.id y.id)=bj x y:=by
  unfold bj;split
  ·rfl
  ·rfl
 generalize bU x.id y.id=c at h1 hor;generalize bU x.attr y.attr=d at h2 hor
 have h3:=fun b W=>orK c d b W
 rw[hor]at h3;generalize bj x y=r at h3 ⊢;clear hor;obtain⟨xi,xa⟩:=x;obtain⟨yi,ya⟩:=y;simp only at h1 h2 ⊢
 go_enter Tryz.func75,Tryz.ntmps75
 go_wp2_with fail
 refine region_two 10 mixed (by kernel_rfl) fun W3 hW3=>?_
 have c0:W3.cell? ⟨W.heap.size,0,none⟩=some (.int .i64 xi):=by subst hW3;simp
 have c1:W3.cell? ⟨W.heap.size,1,none⟩=some (.int .i64 xa):=by subst hW3;simp
 have c2:W3.cell? ⟨W.heap.size+1,0,none⟩=some (.int .i64 yi):=by subst hW3;simp
 have c3:W3.cell? ⟨W.heap.size+1,1,none⟩=some (.int .i64 ya):=by subst hW3;simp
 have hG:Hid (∃os',W3=grow (W.drewN 1) os'):=by
  subst hW3;exact⟨_,by rw[alloc_eq_grow,alloc_eq_grow,grow_grow];rfl⟩
 clear hW3;simp only[List.take_succ_cons,List.take_zero,List.drop_succ_cons,List.drop_zero]
 repeat still_step
 still_call (h1 _)
 repeat still_step
 still_call (h2 _)
 refine wpStill_nil ?_
 go_wp2_with (go_at_call 122;refine(h3 _ _ (by simp) (by simp)).mono ?_;rintro e w' ⟨rfl,rfl⟩)
 go_ret
 obtain⟨os',hos⟩:=hG.out;exact⟨rfl,1,_,by rw[hos,alloc_eq_grow,grow_grow]⟩
theorem putRow_id{α:Type} [Inhabited α] (enc:α→Value)(w:World)(blk off:Nat)(d:Array α):putRow enc w blk off d=putRow id w blk off (d.map enc):=by
 unfold putRow
 refine mapBlock_congr _ _ _ _ fun c _ _ _=>?_
 apply Array.ext_getElem?;intro k;simp only[putCells,Array.getElem?_mapIdx,Array.size_map]
 cases c[k]? with
 | none=>rfl
 | some y =>
  simp only[Option.map_some];by_cases h:off≤k∧k<off+d.size
  ·rw[if_pos h,if_pos h]
   have hk:k-off<d.size:=by omega
   rw[getElem!_pos d (k-off) hk,getElem!_pos (d.map enc) (k-off) (by simpa using hk)];simp
  ·rw[if_neg h,if_neg h]
theorem oY{s:AM.St}(hg:AM.Good s){k e z:Nat}{xs ys:List V}(hk:s.H[k]?=some (.buf e z xs false))(hκ:s.κ k≠0)(F:Array Value)(n:Nat)(os:Array Obj)(hl:ys.length=xs.length)(hF:F.size=xs.length*z)
  (hy:∀y∈ys,y.cells.length=z∧∀c∈y.cells,c.one=true) (hr:∀i y j c,ys[i]?=some y→y.cells[j]?=some c→Rel s c F[i*z+j]!) (W:World) (hW:W=grow (putRow id (Go.Sort.ahead s.w n) (s.φ k) 0 F) os):
  AM.Good (s.setB W k (.buf e z ys false))∧AM.Step s (s.setB W k (.buf e z ys false)):=by
 have hlk:=lvB hk hκ;have hlt:=(hg.lt k hlk).1;obtain⟨vs,h1,h2,h3,h4,h5,h6⟩:=hg.blk k _ hk;have hb:=h1 hκ
 have ho:∀b,b<s.w.heap.size→b≠s.φ k→W.heap[b]?=s.w.heap[b]?:=fun b hb' hne=>by
  subst hW;rw[heap_grow_old _ _ (by rw[Go.Proofs.size_putRow];exact hb')];simp only[putRow,mapBlock,Go.Sort.ahead,Array.getElem?_modify,if_neg (Ne.symm hne)]
 have hbk:W.heap[s.φ k]?=some (.cells (putCells id 0 F vs) e (0,0)):=by
  subst hW;rw[heap_grow_old _ _ (by rw[Go.Proofs.size_putRow];exact hlt)];simp[putRow,mapBlock,Go.Sort.ahead,Array.getElem?_modify,hb,onCells]
 have hsz:s.w.heap.size≤W.heap.size:=by
  subst hW;rw[size_grow,Go.Proofs.size_putRow];exact Nat.le_add_right _ _
 have ha:B.alike (.buf e z xs false) (.buf e z ys false):=⟨rfl,rfl,hl.symm,rfl,rfl⟩
 have e1:W.os=s.w.os:=by subst hW;rfl
 have e2:W.tape=s.w.tape:=by subst hW;rfl
 have e3:W.output=s.w.output:=by subst hW;rfl
 clear hW;have hst:=bq (w:=W) hg hk hlk ha e1 e2 e3 hsz ho;refine⟨cH hg hk hlk ha e1 e2 e3 hsz ho (fun _=>?_),hst⟩;refine⟨putCells id 0 F vs,fun _=>hbk,by simp only[putCells,Array.size_mapIdx];exact h2,by rw[hl];exact h3,h4,hy,fun i x j c u hi hj hu=>?_⟩;have hil:=aE hi;have hjl:=aE hj;rw[(hy x (List.mem_of_getElem? hi)).1]at hjl
 have hlt2:i*z+j<F.size:=by
  rw[hF];have:=Nat.mul_le_mul_right z (show i+1≤xs.length by omega);rw[Nat.add_mul,Nat.one_mul]at this;omega
 have hu2:u=F[i*z+j]!:=by
  simp only[putCells,Array.getElem?_mapIdx]at hu
  cases hv:vs[i*z+j]? with
  | none=>rw[hv]at hu;cases hu
  | some v =>
   rw[hv,Option.map_some,if_pos ⟨by omega,by omega⟩,Nat.sub_zero]at hu;exact(Option.some.inj hu).symm
 rw[hu2];exact(hr i x j c hi hj).step hst
end
end Go.Proofs.YteijbpppalhihaaGreat
namespace Go.Proofs.YteijbpppalhihaaGreat
section
open Go Go.AM
def LLi(g:Bool)(es:List (List Int)):V:=.lst 1 g (es.map (L1 false))
@[simp] theorem LLi_pure (g:Bool) (es:List (List Int)):AM.Pure (LLi g es):=by simp[LLi]
def jD(f g:Bool)(ws:List Int)(es:List (List Int)):V:=.agg [L1 f ws,LLi g es]
@[simp] theorem encHs_pure (f g:Bool) (ws:List Int) (es:List (List Int)):AM.Pure (jD f g ws es):=by simp[jD]
def wOk(w:Int):Bool:=decide (1≤w)&&decide (w≤1000000)
def gC(n:Int):Int→List Int→Bool
 | _,[]=>true
 | last,v::vs=>(decide (last<v)&&decide (v<n))&&gC n v vs
def eOk(n:Int)(e:List Int):Bool:=gC n (-1) e&&!e.isEmpty
def jM(n:Int)(es:List (List Int)):Int:=if es.all (eOk n) then 0 else 1
def mR(ws:List Int)(es:List (List Int)):Int:=if 200<ws.length∨2000<es.length then 3 else if ws.all wOk then jM ws.length es else 1
theorem hsValid(ws:List Int)(es:List (List Int))(f g:Bool)(hl:∀e∈es,e.length≤1000000):aS Tryz.prog 107 [jD f g ws es] fun r=>r = .int .i64 (mR ws es):=by
 unfold mR;by_cases h1:200<ws.length
 ·rw[if_pos (.inl h1)];refine aC (aD tok Tryz.func107 rfl rfl ?_);refine wx ?_;simp -implicitDefEqProofs -dsimp[Tryz.f107,List.replicate,jD,LLi,show(200:Int)<ws.length by omega,L1]
 ·by_cases h2:2000<es.length
  ·rw[if_pos (.inr h2)];refine aC (aD tok Tryz.func107 rfl rfl ?_);refine wx ?_;simp -implicitDefEqProofs -dsimp[Tryz.f107,List.replicate,jD,LLi,show ¬(200:Int)<ws.length by omega,show(2000:Int)<es.length by omega,L1]
  ·rw[if_neg (fun h=>h.elim h1 h2)]
   obtain⟨E,hE⟩:∃E,E=if ws.all wOk then jM ws.length es else 1:=⟨_,rfl⟩
   rw[←hE];refine aC (aD tok Tryz.func107 rfl rfl ?_);refine wx ?_;simp -implicitDefEqProofs -dsimp[Tryz.f107,List.replicate,jD,LLi,show ¬(200:Int)<ws.length by omega,show ¬(2000:Int)<es.length by omega,L1];refine aK (W_loopM 34 [2,4,23,24,25,26,27,28,29,30,31,32,33] (by simp[mB]<;>rfl) (σ:=Nat) (fun i=>i≤ws.length∧(if(ws.drop i).all wOk then jM ws.length es else 1)=E) (fun i=>ws.length-i) (fun i=>[(23,.int .i64 i)]) (fun _=>[B.cells [.lst 1 f (ws.map ac),.lst 1 g (es.map (L1 false))]]) 0 ⟨by omega,by rw[List.drop_zero,hE]⟩ (by simp) (by simp[L1]) (by simp) ?_);rintro i ⟨hi,hx⟩ N1 Q1 hN1 hQ1;by_cases hb:i<ws.length
   ·rw[List.drop_eq_getElem_cons hb,List.all_cons]at hx;obtain⟨w,hw⟩:∃w,w=ws[i]:=⟨_,rfl⟩;rw[←hw]at hx;have hw':=hw.symm;by_cases q1:1≤w
    ·by_cases q2:w≤1000000
     ·rw[show wOk w=true by simp[wOk,q1,q2],Bool.true_and]at hx;refine wx ?_;simp -implicitDefEqProofs -dsimp[hb,hw',ac,show ¬w<1 by omega,show ¬(1000000:Int)<w by omega,aM i (by omega),L1];refine hN1 (i+1) _ _ ⟨by omega,hx⟩ (by omega) ?_ ⟨[],?_⟩ ?_ ?_<;>simp[or_imp,forall_and,L1,ac]
     ·rw[show wOk w=false by simp[wOk,q2],Bool.false_and,if_neg (by simp)]at hx;refine wx ?_;simp -implicitDefEqProofs -dsimp[hb,hw',ac,show ¬w<1 by omega,show(1000000:Int)<w by omega,L1];refine hQ1 _ _ _ ?_;simp -implicitDefEqProofs -dsimp[L1];exact hx
    ·rw[show wOk w=false by simp[wOk,q1],Bool.false_and,if_neg (by simp)]at hx;refine wx ?_;simp -implicitDefEqProofs -dsimp[hb,hw',ac,show w<1 by omega,L1];refine hQ1 _ _ _ ?_;simp -implicitDefEqProofs -dsimp[L1];exact hx
   ·rw[List.drop_of_length_le (by omega),List.all_nil,if_pos rfl]at hx;refine wx ?_;simp -implicitDefEqProofs -dsimp[hb,L1];refine hQ1 _ _ _ ?_;simp -implicitDefEqProofs -dsimp[L1];refine aK (W_loopM 63 [2,6,7,9,37,38,39,40,41,42,43,44,45,46,47,48,49,50,51,52,53,54,55,56,57,58,59,60,61,62] (by simp[mB]<;>rfl) (σ:=Nat) (fun j=>j≤es.length∧jM ws.length (es.drop j)=E) (fun j=>es.length-j) (fun j=>[(37,.int .i64 j)]) (fun _=>[B.cells [.lst 1 f (ws.map ac),.lst 1 g (es.map (L1 false))]]) 0 ⟨by omega,by rw[List.drop_zero,hx]⟩ (by simp) (by simp[L1]) (by simp) ?_);rintro j ⟨hj,hy⟩ N2 Q2 hN2 hQ2;by_cases hjb:j<es.length
    ·rw[List.drop_eq_getElem_cons hjb,jM,List.all_cons]at hy;have hle:=hl es[j] (List.getElem_mem hjb);obtain⟨e,he⟩:∃e,e=es[j]:=⟨_,rfl⟩;rw[←he]at hy hle;have he':=he.symm;obtain⟨R,hR⟩:∃R,R=(es.drop (j+1)).all (eOk ws.length):=⟨_,rfl⟩;rw[←hR]at hy;rw[eOk]at hy;refine wx ?_;simp -implicitDefEqProofs -dsimp[hjb,he',L1];refine aK (W_loopM 59 [2,7,9,43,44,45,46,47,48,49,50,51,52,53,54,55,56,57,58] (by simp[mB]<;>rfl) (σ:=Nat×Int) (fun p=>p.1≤e.length∧(if((gC ws.length p.2 (e.drop p.1)&&!e.isEmpty)&&R)=true then(0:Int) else 1)=E) (fun p=>e.length-p.1) (fun p=>[(43,.int .i64 p.1),(7,.int .i64 p.2)]) (fun _=>[B.cells [.lst 1 f (ws.map ac),.lst 1 g (es.map (L1 false))]]) (0,-1) ⟨by simp,by rw[List.drop_zero];exact hy⟩ (by simp) (by simp[L1]) (by simp) ?_);rintro⟨k,last⟩ ⟨hk,hz⟩ N3 Q3 hN3 hQ3;simp only at hk hz hN3;by_cases hkb:k<e.length
     ·rw[List.drop_eq_getElem_cons hkb,gC]at hz;obtain⟨v,hv⟩:∃v,v=e[k]:=⟨_,rfl⟩;rw[←hv]at hz;have hv':=hv.symm;by_cases q1:last<v
      ·by_cases q2:v<ws.length
       ·rw[decide_eq_true q1,decide_eq_true q2,Bool.true_and,Bool.true_and]at hz;refine wx ?_;simp -implicitDefEqProofs -dsimp[hkb,hv',ac,show ¬v≤last by omega,show ¬(ws.length:Int)≤v by omega,aM k (by omega),L1];refine hN3 (k+1,v) _ _ ⟨by simp only;omega,hz⟩ (by omega) ?_ ⟨[],?_⟩ ?_ ?_<;>simp[or_imp,forall_and,L1,ac]
       ·rw[decide_eq_false q2,Bool.and_false,Bool.false_and,Bool.false_and,Bool.false_and,if_neg (by simp)]at hz;refine wx ?_;simp -implicitDefEqProofs -dsimp[hkb,hv',ac,show ¬v≤last by omega,show(ws.length:Int)≤v by omega,L1];refine hQ3 _ _ _ ?_;simp -implicitDefEqProofs -dsimp[L1];refine hQ2 _ _ _ ?_;simp -implicitDefEqProofs -dsimp[L1];exact hz
      ·rw[decide_eq_false q1,Bool.false_and,Bool.false_and,Bool.false_and,Bool.false_and,if_neg (by simp)]at hz;refine wx ?_;simp -implicitDefEqProofs -dsimp[hkb,hv',ac,show v≤last by omega,L1];refine hQ3 _ _ _ ?_;simp -implicitDefEqProofs -dsimp[L1];refine hQ2 _ _ _ ?_;simp -implicitDefEqProofs -dsimp[L1];exact hz
     ·rw[List.drop_of_length_le (by omega),gC,Bool.true_and]at hz;by_cases h0:e.length=0
      ·have hen:e=[]:=List.length_eq_zero_iff.1 h0;rw[hen]at hz;simp at hz;refine wx ?_;simp -implicitDefEqProofs -dsimp[hkb,L1];refine hQ3 _ _ _ ?_;simp -implicitDefEqProofs -dsimp[h0,L1];refine hQ2 _ _ _ ?_;simp -implicitDefEqProofs -dsimp[L1];exact hz
      ·have hen:e.isEmpty=false:=by cases e with
        | nil=>simp at h0
        | cons a b=>rfl
       rw[hen,Bool.not_false,Bool.true_and,hR]at hz;refine wx ?_;simp -implicitDefEqProofs -dsimp[hkb,L1];refine hQ3 _ _ _ ?_;simp -implicitDefEqProofs -dsimp[h0,show ¬(e.length:Int)=0 by omega,aM j (by omega),L1];refine hN2 (j+1) _ _ ⟨by omega,hz⟩ (by omega) ?_ ⟨[],?_⟩ ?_ ?_<;>simp[or_imp,forall_and,L1,ac]
    ·rw[List.drop_of_length_le (by omega)]at hy;refine wx ?_;simp -implicitDefEqProofs -dsimp[hjb,L1];refine hQ2 _ _ _ ?_;simp -implicitDefEqProofs -dsimp[L1];exact hy
structure Shr where
 e:Int
 a:Int
structure Nde where
 v:Int
 l:List Shr
def fJ(m:List Nat)(k:Nat)(e:List Nat):Bool:=e.any fun v=>decide (m.getD v 0=k)
def fA(m:List Nat)(es:List (List Nat)):Bool:=es.any fun e=>!fJ m 1 e&&!fJ m 0 e
def nN(m:List Nat)(ws:List Int)(a:Int):List Nat→List Int→Option (List Int)
 | [],ld=>some ld
 | v::e,ld=>if m.getD v 0=0∧ws.getD v 0<ld.getD v 0+a then none else nN m ws a e (ld.set v (ld.getD v 0+a))
def okS(es:List (List Nat))(m:List Nat)(x:Shr):Bool:=decide (0≤x.e)&&decide (x.e<es.length)&&decide (1≤x.a)&&decide (x.a≤1000000000000)&&!fJ m 1 (es.getD x.e.toNat [])
def fE(ws:List Int)(es:List (List Nat))(m:List Nat)(b:Int):List Shr→List Int→Int→Bool
 | [],_,s=>decide (b≤s)
 | x::l,ld,s=>if okS es m x=true then(match nN m ws x.a (es.getD x.e.toNat []) ld with
  | none=>false
  | some ld'=>fE ws es m b l ld' (s+x.a)) else false
def shE(ws:List Int)(es:List (List Nat))(m:List Nat)(l:List Shr)(b:Int):Bool:=decide (l.length≤10000)&&fE ws es m b l (List.replicate m.length 0) 0
def cN(ws:List Int)(es:List (List Nat)):Nat→List Nat→List Nde→Int→Option (List Nde)×Bool
 | 0,_,_,_=>(none,false)
 | _+1,_,[],_=>(none,false)
 | k+1,m,x::r,b =>
  if x.v = -1 then(some r,if x.l=[] then decide (b≤0)||fA m es else shE ws es m x.l b)
  else if x.v<0∨(m.length:Int)≤x.v∨x.l≠[]∨m.getD x.v.toNat 0≠0 then(none,false)
  else match cN ws es k (m.set x.v.toNat 1) r (b-ws.getD x.v.toNat 0) with
   | (some r',true)=>cN ws es k (m.set x.v.toNat 2) r' b
   | p=>p
def gX:List Shr→Int
 | []=>0
 | x::l=>x.a+gX l
def ldR(es:List (List Nat))(v:Nat):List Shr→Int
 | []=>0
 | x::l=>(if v∈es.getD x.e.toNat [] then x.a else 0)+ldR es v l
def gd(e ch:List Nat):Bool:=e.any fun v=>ch.contains v
def okR(es:List (List Nat))(ch:List Nat)(x:Shr):Bool:=decide (0≤x.e)&&decide (x.e<es.length)&&decide (1≤x.a)&&decide (x.a≤1000000000000)&&!gd (es.getD x.e.toNat []) ch
def ia(ws:List Int)(es:List (List Nat))(ch ex:List Nat)(b:Int)(l:List Shr):Bool :=
 decide (l.length≤10000)&&(l.all (okR es ch)&&((List.range ws.length).all (fun v=>decide (ldR es v l≤ws.getD v 0)||ex.contains v)&&decide (b≤gX l)))
def fN(es:List (List Nat))(ex:List Nat):Bool:=es.any fun e=>e.all fun v=>ex.contains v
def cE(ws:List Int)(es:List (List Nat)):Nat→List Nat→List Nat→Int→List Nde→Int
 | 0,_,_,_,_=>-1
 | _+1,_,_,_,[]=>-1
 | k+1,ch,ex,b,x::r =>
  if x.v = -1 then(if(if x.l=[] then decide (b≤0)||fN es ex else ia ws es ch ex b x.l)=true then 1 else -1)
  else if x.l≠[]∨x.v<0∨(ws.length:Int)≤x.v∨x.v.toNat∈ch∨x.v.toNat∈ex then -1
  else if cE ws es k (ch++[x.v.toNat]) ex (b-ws.getD x.v.toNat 0) r<0 then -1
  else if cE ws es k ch (ex++[x.v.toNat]) b (r.drop (cE ws es k (ch++[x.v.toNat]) ex (b-ws.getD x.v.toNat 0) r).toNat)<0 then -1
  else 1+cE ws es k (ch++[x.v.toNat]) ex (b-ws.getD x.v.toNat 0) r+cE ws es k ch (ex++[x.v.toNat]) b (r.drop (cE ws es k (ch++[x.v.toNat]) ex (b-ws.getD x.v.toNat 0) r).toNat)
def gq(n:Nat)(es:List (List Nat)):Prop:=∀e∈es,e≠[]∧e.Pairwise (· < ·)∧∀v∈e,v<n
structure Cor (n:Nat) (m ch ex:List Nat):Prop where
 len:m.length=n
 c:∀v<n,(m.getD v 0=1↔v∈ch)
 x:∀v<n,(m.getD v 0=2↔v∈ex)
 le:∀v<n,m.getD v 0≤2
theorem ak{α:Type}(l:List α){i:Nat}(d:α)(h:i<l.length):l.getD i d=l[i]:=by simp[List.getD,h]
theorem aX{α:Type}(l:List α){i:Nat}(h:i<l.length)(a d:α):(l.set i a).getD i d=a:=by simp[List.getD,h]
theorem af{α:Type}(l:List α){i j:Nat}(h:i≠j)(a d:α):(l.set i a).getD j d=l.getD j d:=by simp[List.getD,List.getElem?_set_ne h]
theorem Cor.set1{n:Nat}{m ch ex:List Nat}(g:Cor n m ch ex){v:Nat}(hv:v<n)(h0:m.getD v 0=0):Cor n (m.set v 1) (ch++[v]) ex:=by
 have hl:v<m.length:=by rw[g.len];exact hv
 refine⟨by simp[g.len],fun u hu=>?_,fun u hu=>?_,fun u hu=>?_⟩
 ·by_cases e:v=u
  ·subst e;rw[aX _ hl];simp
  ·rw[af _ e,g.c u hu];simp;omega
 ·by_cases e:v=u
  ·subst e;rw[aX _ hl,←g.x v hv,h0];simp
  ·rw[af _ e,g.x u hu]
 ·by_cases e:v=u
  ·subst e;rw[aX _ hl];omega
  ·rw[af _ e];exact g.le u hu
theorem Cor.set2{n:Nat}{m ch ex:List Nat}(g:Cor n m ch ex){v:Nat}(hv:v<n)(h0:m.getD v 0=0):Cor n (m.set v 2) ch (ex++[v]):=by
 have hl:v<m.length:=by rw[g.len];exact hv
 refine⟨by simp[g.len],fun u hu=>?_,fun u hu=>?_,fun u hu=>?_⟩
 ·by_cases e:v=u
  ·subst e;rw[aX _ hl,←g.c v hv,h0];simp
  ·rw[af _ e,g.c u hu]
 ·by_cases e:v=u
  ·subst e;rw[aX _ hl];simp
  ·rw[af _ e,g.x u hu];simp;omega
 ·by_cases e:v=u
  ·subst e;rw[aX _ hl];omega
  ·rw[af _ e];exact g.le u hu
theorem has1_meets{n:Nat}{m ch ex:List Nat}(g:Cor n m ch ex){e:List Nat}(he:∀v∈e,v<n):fJ m 1 e=gd e ch:=by
 unfold fJ gd;rw[Bool.eq_iff_iff];simp only[List.any_eq_true,decide_eq_true_eq,List.contains_iff_mem];exact⟨fun⟨v,hv,h⟩=>⟨v,hv,(g.c v (he v hv)).1 h⟩,fun⟨v,hv,h⟩=>⟨v,hv,(g.c v (he v hv)).2 h⟩⟩
theorem dead_closed{n:Nat}{m ch ex:List Nat}(g:Cor n m ch ex){es:List (List Nat)}(he:gq n es):fA m es=fN es ex:=by
 unfold fA fN fJ;rw[Bool.eq_iff_iff];simp only[List.any_eq_true,Bool.and_eq_true,Bool.not_eq_true',List.any_eq_false,decide_eq_true_eq,List.all_eq_true,List.contains_iff_mem];constructor
 ·rintro⟨e,h1,h2,h3⟩;refine⟨e,h1,fun v hv=>?_⟩;have hvn:=(he e h1).2.2 v hv;have a1:=h2 v hv;have a0:=h3 v hv;have:=g.le v hvn;exact(g.x v hvn).1 (by omega)
 ·rintro⟨e,h1,h2⟩;refine⟨e,h1,fun v hv=>?_,fun v hv=>?_⟩
  ·have:=(g.x v ((he e h1).2.2 v hv)).2 (h2 v hv);omega
  ·have:=(g.x v ((he e h1).2.2 v hv)).2 (h2 v hv);omega
theorem load_spec(m:List Nat)(ws:List Int)(a:Int)(n:Nat):∀(e:List Nat) (ld:List Int),e.Pairwise (· < ·)→(∀v∈e,v<n)→ld.length=n →
  (nN m ws a e ld=none∧∃v∈e,m.getD v 0=0∧ws.getD v 0<ld.getD v 0+a)∨
  ((∀v∈e,m.getD v 0=0→ld.getD v 0+a≤ws.getD v 0)∧∃ld',nN m ws a e ld=some ld'∧ld'.length=n∧∀v,ld'.getD v 0=ld.getD v 0+if v∈e then a else 0)
 | [],ld,_,_,hl=>.inr ⟨by simp,ld,rfl,hl,by simp⟩
 | v::e,ld,hp,hn,hl=>by
  obtain⟨hp1,hp2⟩:=List.pairwise_cons.1 hp
  have hv:v<ld.length:=by rw[hl];exact hn v (by simp)
  rw[nN];by_cases h:m.getD v 0=0∧ws.getD v 0<ld.getD v 0+a
  ·rw[if_pos h];exact .inl ⟨rfl,v,by simp,h⟩
  ·rw[if_neg h]
   rcases load_spec m ws a n e (ld.set v (ld.getD v 0+a)) hp2 (fun u hu=>hn u (by simp[hu])) (by simp[hl]) with⟨h1,u,hu,h2,h3⟩ | ⟨h1,ld',h2,h3,h4⟩
   ·refine .inl ⟨h1,u,by simp[hu],h2,?_⟩;have:=hp1 u hu
    rwa [af _ (by omega)]at h3
   ·refine .inr ⟨fun u hu h0=>?_,ld',h2,h3,fun u=>?_⟩
    ·rcases List.mem_cons.1 hu with rfl | hu
     ·have:=not_and.1 h h0;omega
     ·have h5:=h1 u hu h0;have:=hp1 u hu
      rwa [af _ (by omega)]at h5
    ·rw[h4 u];by_cases e1:v=u
     ·subst e1;rw[aX _ hv,if_neg (fun hu=>by have:=hp1 v hu;omega)];simp
     ·rw[af _ e1]
      have:(u∈v::e)↔u∈e:=by simp;omega
      simp only[this]
theorem eY{es:List (List Nat)}{i:Nat}(h:i<es.length):es.getD i []∈es:=by
 rw[ak _ _ h];exact List.getElem_mem h
theorem gP(ws:List Int)(es:List (List Nat))(m:List Nat)(b:Int){n:Nat}(he:gq n es):∀(l:List Shr) (ld:List Int) (s:Int),ld.length=n→(∀v<n,m.getD v 0=0→ld.getD v 0≤ws.getD v 0)→
  (fE ws es m b l ld s=true↔(∀x∈l,okS es m x=true)∧(∀v<n,m.getD v 0=0→ld.getD v 0+ldR es v l≤ws.getD v 0)∧b≤s+gX l)
 | [],ld,s,hl,hi=>by
  simp only[fE,decide_eq_true_eq,ldR,gX,Int.add_zero];exact⟨fun h=>⟨by simp,hi,h⟩,fun h=>h.2.2⟩
 | x::l,ld,s,hl,hi=>by
  rw[fE];by_cases hx:okS es m x=true
  ·rw[if_pos hx];have hx':=hx;simp only[okS,Bool.and_eq_true,decide_eq_true_eq]at hx';obtain⟨⟨⟨⟨x1,x2⟩,x3⟩,x4⟩,x5⟩:=hx';have hmem:=eY (es:=es) (i:=x.e.toNat) (by omega);obtain⟨e1,e2,e3⟩:=he _ hmem
   have hnn:∀(l':List Shr),(∀y∈l',okS es m y=true)→∀v,0≤ldR es v l':=by
    intro l'
    induction l' with
    | nil=>intro _ v;simp[ldR]
    | cons y l' ih =>
     intro hy v;have h0:=hy y (by simp);simp only[okS,Bool.and_eq_true,decide_eq_true_eq]at h0;have:=ih (fun z hz=>hy z (by simp[hz])) v;rw[ldR];split<;>omega
   rcases load_spec m ws x.a n _ ld e2 e3 hl with⟨h1,v,hv,h2,h3⟩ | ⟨h1,ld',h2,h3,h4⟩
   ·rw[h1];refine⟨fun h=>by simp at h,fun⟨g1,g2,g3⟩=>?_⟩;have:=g2 v (e3 v hv) h2;have h5:=hnn l (fun y hy=>g1 y (by simp[hy])) v;rw[ldR,if_pos hv]at this;omega
   ·rw[h2];simp only
    rw[gP ws es m b he l ld' (s+x.a) h3 (fun v hv h0=>by
     rw[h4 v];split
     ·exact h1 v (by assumption) h0
     ·simpa using hi v hv h0)]
    simp only[List.forall_mem_cons,ldR,gX,h4,hx,true_and];constructor
    ·rintro⟨g1,g2,g3⟩;exact⟨g1,fun v hv h0=>by have:=g2 v hv h0;omega,by omega⟩
    ·rintro⟨g1,g2,g3⟩;exact⟨g1,fun v hv h0=>by have:=g2 v hv h0;omega,by omega⟩
  ·rw[if_neg hx];exact⟨fun h=>by simp at h,fun h=>absurd (h.1 x (by simp)) hx⟩
theorem dy(n v:Nat):(List.replicate n (0:Int)).getD v 0=0:=by
 simp only[List.getD,List.getElem?_replicate];split<;>rfl
theorem sh_right{ws:List Int}{es:List (List Nat)}{m ch ex:List Nat}(g:Cor ws.length m ch ex)(he:gq ws.length es)(hw:∀w∈ws,1≤w)(l:List Shr)(b:Int):shE ws es m l b=ia ws es ch ex b l:=by
 unfold shE ia;by_cases hl:l.length≤10000
 ·rw[decide_eq_true hl,Bool.true_and,Bool.true_and,Bool.eq_iff_iff]
  have hw0:∀v<ws.length,1≤ws.getD v 0:=fun v hv=>by rw[ak _ _ hv];exact hw _ (List.getElem_mem hv)
  rw[gP ws es m b he l _ 0 (by simp[g.len]) (fun v hv _=>by rw[dy];have:=hw0 v hv;omega)];simp only[Bool.and_eq_true,List.all_eq_true,decide_eq_true_eq,List.mem_range,Bool.or_eq_true,List.contains_iff_mem,dy,Int.zero_add]
  have hok:∀x:Shr,okS es m x=okR es ch x:=fun x=>by
   unfold okS okR;by_cases h1:0≤x.e
   ·by_cases h2:x.e<es.length
    ·rw[has1_meets g (he _ (eY (by omega))).2.2]
    ·simp[h2]
   ·simp[h1]
  simp only[hok];constructor
  ·rintro⟨h1,h2,h3⟩;refine⟨h1,fun v hv=>?_,h3⟩;by_cases h0:m.getD v 0=0
   ·exact .inl (h2 v hv h0)
   ·by_cases h5:m.getD v 0=2
    ·exact .inr ((g.x v hv).1 h5)
    ·have hc:v∈ch:=(g.c v hv).1 (by have:=g.le v hv;omega);refine .inl ?_
     have:ldR es v l=0:=by
      clear h2 h3 hl
      induction l with
      | nil=>rfl
      | cons y l ih =>
       have hy:=h1 y (by simp);simp only[okR,Bool.and_eq_true,Bool.not_eq_true',gd,List.any_eq_false,List.contains_iff_mem]at hy;rw[ldR,if_neg (fun hm=>hy.2 v hm hc),ih (fun z hz=>h1 z (by simp[hz]))];rfl
     have:=hw0 v hv;omega
  ·rintro⟨h1,h2,h3⟩;refine⟨h1,fun v hv h0=>?_,h3⟩
   rcases h2 v hv with h | h
   ·exact h
   ·have:=(g.x v hv).2 h;omega
 ·simp[hl]
theorem pv{ws:List Int}{es:List (List Nat)}(he:gq ws.length es)(hw:∀w∈ws,1≤w):∀(k:Nat) (m ch ex:List Nat) (b:Int) (l:List Nde),Cor ws.length m ch ex →
  ((cN ws es k m l b).2=true→∃j:Nat,1≤j∧j≤l.length∧(cN ws es k m l b).1=some (l.drop j)∧cE ws es k ch ex b l=j)∧((cN ws es k m l b).2=false→cE ws es k ch ex b l = -1)
 | 0,m,ch,ex,b,l,g=>by simp[cN,cE]
 | k+1,m,ch,ex,b,[],g=>by simp[cN,cE]
 | k+1,m,ch,ex,b,x::r,g=>by
  rw[cN,cE];by_cases h1:x.v = -1
  ·rw[if_pos h1,if_pos h1]
   have hq:(if x.l=[] then decide (b≤0)||fA m es else shE ws es m x.l b)=(if x.l=[] then decide (b≤0)||fN es ex else ia ws es ch ex b x.l):=by
    rw[dead_closed g he,sh_right g he hw]
   rw[hq];generalize (if x.l=[] then decide (b≤0)||fN es ex else ia ws es ch ex b x.l)=q;cases q
   ·simp
   ·simp only[if_true];exact⟨fun _=>⟨1,by omega,by simp,by simp,rfl⟩,fun h=>by simp at h⟩
  ·rw[if_neg h1,if_neg h1]
   have hiff:(x.v<0∨(m.length:Int)≤x.v∨x.l≠[]∨m.getD x.v.toNat 0≠0)↔(x.l≠[]∨x.v<0∨(ws.length:Int)≤x.v∨x.v.toNat∈ch∨x.v.toNat∈ex):=by
    rw[g.len];by_cases a1:x.v<0
    ·simp[a1]
    ·by_cases a2:(ws.length:Int)≤x.v
     ·simp[a2]
     ·have hv:x.v.toNat<ws.length:=by omega
      have e1:=g.c _ hv;have e2:=g.x _ hv;have e3:=g.le _ hv
      have:m.getD x.v.toNat 0≠0↔(x.v.toNat∈ch∨x.v.toNat∈ex):=by
       rw[←e1,←e2];omega
      rw[this];by_cases a3:x.l=[]<;>simp[a1,a2,a3]
   by_cases h2:x.v<0∨(m.length:Int)≤x.v∨x.l≠[]∨m.getD x.v.toNat 0≠0
   ·rw[if_pos h2,if_pos (hiff.1 h2)];simp
   ·rw[if_neg h2,if_neg (fun h=>h2 (hiff.2 h))]
    have hv:x.v.toNat<ws.length:=by rw[←g.len];omega
    have h0:m.getD x.v.toNat 0=0:=by
     by_cases a:m.getD x.v.toNat 0=0
     ·exact a
     ·exact absurd (.inr (.inr (.inr a))) h2
    obtain⟨i1,i2⟩:=pv he hw k _ _ _ (b-ws.getD x.v.toNat 0) r (g.set1 hv h0);obtain⟨p,hp⟩:∃p,p=cN ws es k (m.set x.v.toNat 1) r (b-ws.getD x.v.toNat 0):=⟨_,rfl⟩;rw[←hp]at i1 i2 ⊢;obtain⟨p1,p2⟩:=p;cases p2
    ·rw[i2 rfl,if_pos (by omega)];cases p1<;>simp
    ·obtain⟨j,j1,j2,j3,j4⟩:=i1 rfl;simp only at j3;rw[j3,j4,if_neg (by omega),Int.toNat_natCast];simp only;obtain⟨k1,k2⟩:=pv he hw k _ _ _ b (r.drop j) (g.set2 hv h0);cases hd:(cN ws es k (m.set x.v.toNat 2) (r.drop j) b).2
     ·rw[k2 hd,if_pos (by omega)];simp
     ·obtain⟨i,l1,l2,l3,l4⟩:=k1 hd;rw[l4,if_neg (by omega),l3];rw[List.length_drop]at l2;refine⟨fun _=>⟨1+j+i,by omega,by simp;omega,?_,by omega⟩,fun h=>by simp at h⟩;rw[show 1+j+i=(j+i)+1 by omega,List.drop_succ_cons,List.drop_drop]
def nA(ws:List Int)(es:List (List Nat))(b:Int)(l:List Nde):Bool:=match cN ws es (l.length+1) (List.replicate ws.length 0) l b with
 | (some r,true)=>decide (r.length=0)
 | _=>false
def checkRf(ws:List Int)(es:List (List Nat))(b:Int)(l:List Nde):Bool:=decide (0<l.length)&&decide (cE ws es (l.length+1) [] [] b l=l.length)
theorem check_same{ws:List Int}{es:List (List Nat)}(he:gq ws.length es)(hw:∀w∈ws,1≤w)(b:Int)(l:List Nde):nA ws es b l=checkRf ws es b l:=by
 unfold nA checkRf
 have hm0:∀v,(List.replicate ws.length 0).getD v 0=0:=fun v=>by
  simp only[List.getD,List.getElem?_replicate];split<;>rfl
 have g:Cor ws.length (List.replicate ws.length 0) [] []:=⟨by simp,fun v _=>by rw[hm0];simp,fun v _=>by rw[hm0];simp,fun v _=>by rw[hm0];omega⟩;obtain⟨h1,h2⟩:=pv he hw (l.length+1) _ _ _ b l g;obtain⟨p,hp⟩:∃p,p=cN ws es (l.length+1) (List.replicate ws.length 0) l b:=⟨_,rfl⟩;rw[←hp]at h1 h2 ⊢;obtain⟨p1,p2⟩:=p;cases p2
 ·rw[h2 rfl]
  have h3:(match (p1,false) with
   | (some r,true)=>decide (r.length=0)
   | _=>false)=false:=by cases p1<;>rfl
  rw[h3]
  symm
  simp only[Bool.and_eq_false_iff,decide_eq_false_iff_not];exact .inr (by omega)
 ·obtain⟨j,j1,j2,j3,j4⟩:=h1 rfl;simp only at j3;rw[j3,j4,Bool.eq_iff_iff];simp only[List.length_drop,Bool.and_eq_true,decide_eq_true_eq];omega
theorem mu{P:Program}{f:FuncId}{args:List V}{H:List B}{σ:Type}{ok:σ→Prop}{rf:σ→V}{Hf:σ→List B}(h:az P f args H fun r H'=>∃x,ok x∧r=rf x∧∃G,H'=Hf x++G)(hl:∀x,ok x→H.length≤(Hf x).length)(hr:∀x,ok x→rb (Hf x).length (rf x))(hb:∀x,ok x→∀bl∈Hf x,rbB (Hf x).length bl):az P f args H fun r H'=>∃x,ok x∧r=rf x∧H'=Hf x:=by
 refine⟨h.1,fun s vals h1 h2 h3 h4=>(h.2 s vals h1 h2 h3 h4).mono fun e w' ⟨u,s',r,a,b,c,d,e1,x,k1,k2,G,k3⟩=>?_⟩;subst k2;exact⟨u,s'.cut (Hf x),rf x,a,b,cut_good c k3 (hb x k1),lv c k3 (Step.refl _) s d (by rw[h1.1];exact hl x k1),kG k3 e1 (hr x k1),x,k1,rfl,rfl⟩
section
def eN(n:Nat):V:=.int .i64 (n:Int)
@[simp] theorem eN_pure (n:Nat):AM.Pure (eN n):=by simp[eN]
@[simp] theorem eN_oneV (n:Nat):dc (eN n)=true:=rfl
def Ln(f:Bool)(e:List Nat):V:=.lst 1 f (e.map eN)
@[simp] theorem Ln_pure (f:Bool) (e:List Nat):AM.Pure (Ln f e):=by simp[Ln]
@[simp] theorem Ln_oneV (f:Bool) (e:List Nat):dc (Ln f e)=true:=rfl
def LLn(g:Bool)(es:List (List Nat)):V:=.lst 1 g (es.map (Ln false))
@[simp] theorem LLn_pure (g:Bool) (es:List (List Nat)):AM.Pure (LLn g es):=by simp[LLn]
def nuL(m:List Nat):List V:=m.map eN
theorem aw(m:List Nat):(nuL m).length=m.length:=by simp[nuL]
theorem bO{m:List Nat}{x:Nat}(h:x<(nuL m).length):(nuL m)[x] = .int .i64 (m.getD x 0:Nat):=by
 have h2:x<m.length:=by simpa[nuL] using h
 simp[nuL,eN,h2]
theorem cR(m:List Nat)(x v:Nat):(nuL m).set x (.int .i64 (v:Int))=nuL (m.set x v):=by
 unfold nuL;rw[List.map_set];rfl
theorem cY(m:List Nat):∀x∈nuL m,AM.Pure x∧dc x=true:=by
 intro x hx;obtain⟨n,_,rfl⟩:=List.mem_map.1 hx;exact⟨eN_pure n,eN_oneV n⟩
def inL(m:List Int):List V:=m.map ac
theorem ee(m:List Int):(inL m).length=m.length:=by simp[inL]
theorem ef{m:List Int}{x:Nat}(h:x<(inL m).length):(inL m)[x] = .int .i64 (m.getD x 0):=by
 have h2:x<m.length:=by simpa[inL] using h
 simp[inL,ac,h2]
theorem lV(m:List Int)(x:Nat)(v:Int):(inL m).set x (.int .i64 v)=inL (m.set x v):=by
 unfold inL;rw[List.map_set];rfl
theorem iE(m:List Int):∀x∈inL m,AM.Pure x∧dc x=true:=by
 intro x hx;obtain⟨n,_,rfl⟩:=List.mem_map.1 hx;exact⟨encI_pure n,encI_oneV n⟩
theorem rbM1{n m:Nat}(h:n≤m){v:V}(hv:rb1 n v):rb1 m v:=by
 cases v<;>simp only[rb1]at hv ⊢<;>first | exact hv | omega | trivial
theorem rbM{n m:Nat}(h:n≤m){v:V}(hv:rb n v):rb m v:=by
 cases v<;>simp only[rb]at hv ⊢<;>first | exact rbM1 h hv | exact fun c hc=>rbM1 h (hv c hc) | trivial
theorem rbBM{n m:Nat}(h:n≤m){bl:B}(hb:rbB n bl):rbB m bl:=by
 cases bl with
 | cells cs=>exact fun c hc=>rbM h (hb c hc)
 | map kk es=>exact fun p hp=>⟨rbM h (hb p hp).1,rbM h (hb p hp).2⟩
 | buf e z xs fz=>exact fun x hx c hc=>rbM h (hb x hx c hc)
theorem rbs_app{H G:List B}(hH:∀bl∈H,rbB H.length bl)(hG:∀bl∈G,rbB (H.length+G.length) bl):∀bl∈H++G,rbB (H++G).length bl:=fun bl hb=>by
 rw[List.length_append]
 rcases List.mem_append.1 hb with h | h
 ·exact rbBM (by omega) (hH bl h)
 ·exact hG bl h
theorem fF{H:List B}{k:Nat}{b:B}(hH:∀bl∈H,rbB H.length bl)(hb:rbB H.length b):∀bl∈H.set k b,rbB (H.set k b).length bl:=fun bl h=>by
 rw[List.length_set]
 rcases List.mem_or_eq_of_mem_set h with h | rfl
 ·exact hH bl h
 ·exact hb
theorem fW{P:Program}{f:FuncId}{args:List V}{H:List B}{v:V}(h:az P f args H fun r H'=>r=v∧∃G,H'=H++G)(hr:rb H.length v)(hb:∀bl∈H,rbB H.length bl):az P f args H fun r H'=>r=v∧H'=H:=by
 refine(mu (σ:=Unit) (ok:=fun _=>True) (rf:=fun _=>v) (Hf:=fun _=>H) (h.mono fun r H' ⟨a,G,b⟩=>⟨(),trivial,a,G,b⟩) (fun _ _=>Nat.le_refl _) (fun _ _=>hr) (fun _ _=>hb)).mono ?_;rintro r H' ⟨_,_,a,b⟩;exact⟨a,b⟩
theorem bJ{P:Program}{f:FuncId}{args:List V}{H:List B}{K K':V→List B→Prop}(h:az P f args H K)(hk:∀r H',K r H'→K' r H'):aV P (.fn f []) args H K':=by
 simp only[aV,List.append_nil];exact h.mono hk
structure SAt (H:List B) (k0 km:Nat) (f g:Bool) (ws:List Int) (es:List (List Nat)) (n:Nat) (m:List Nat) (lf:Int):Prop where
 h0:H[k0]?=some (.cells [L1 f ws,LLn g es,.buf km 0 n n,.int .i64 lf])
 hm:H[km]?=some (.buf 3 1 (nuL m) false)
 rb:∀bl∈H,rbB H.length bl
 lm:m.length=n
 lw:ws.length=n
 n0:km≠k0
theorem SAt.app{H:List B}{k0 km:Nat}{f g:Bool}{ws:List Int}{es:List (List Nat)}{n:Nat}{m:List Nat}{lf:Int}(s:SAt H k0 km f g ws es n m lf)(G:List B)(hG:∀bl∈G,rbB (H.length+G.length) bl):SAt (H++G) k0 km f g ws es n m lf :=
 ⟨by rw[List.getElem?_append_left (aE s.h0)];exact s.h0,by rw[List.getElem?_append_left (aE s.hm)];exact s.hm,rbs_app s.rb hG,s.lm,s.lw,s.n0⟩
theorem SAt.mark{H:List B}{k0 km:Nat}{f g:Bool}{ws:List Int}{es:List (List Nat)}{n:Nat}{m:List Nat}{lf:Int}(s:SAt H k0 km f g ws es n m lf)(v c:Nat):SAt (H.set km (.buf 3 1 (nuL (m.set v c)) false)) k0 km f g ws es n (m.set v c) lf :=
 ⟨by rw[List.getElem?_set_ne s.n0];exact s.h0,by rw[List.getElem?_set_self (aE s.hm)],fF s.rb ((rbB_buf1 (cY _)).2 trivial),by simp[s.lm],s.lw,s.n0⟩
theorem SAt.back{H:List B}{k0 km:Nat}{f g:Bool}{ws:List Int}{es:List (List Nat)}{n:Nat}{m:List Nat}{lf:Int}(s:SAt H k0 km f g ws es n m lf)(b c:B):((H.set km b).set km c).set km (.buf 3 1 (nuL m) false)=H:=by
 rw[List.set_set,List.set_set];have h:=aE s.hm
 have:H[km] = .buf 3 1 (nuL m) false:=by have:=s.hm;rw[List.getElem?_eq_getElem h]at this;exact Option.some.inj this
 rw[←this,List.set_getElem_self]
def ixN(p:Nat→Bool)(e:List Nat)(i:Nat):Int:=if h:i<e.length then(if p e[i] then(i:Int) else ixN p e (i+1)) else -1
termination_by e.length-i
theorem ixN_any(p:Nat→Bool)(e:List Nat)(i:Nat):decide (0≤ixN p e i)=(e.drop i).any p:=by
 fun_induction ixN p e i with
 | case1 i h h0=>rw[List.drop_eq_getElem_cons h,List.any_cons,h0];simp
 | case2 i h h0 ih=>rw[List.drop_eq_getElem_cons h,List.any_cons,ih];simp[h0]
 | case3 i h=>rw[List.drop_of_length_le (by omega)];rfl
theorem idxFuncN(H:List B)(fv:V)(p:Nat→Bool)(e:List Nat)(g:Bool)(hes:e.length≤1000000)(hH:∀bl∈H,rbB H.length bl)(hfv:rb H.length fv)
  (hp:∀v∈e,aV Tryz.prog fv [.int .i64 (v:Int)] H fun r H'=>r = .bool (p v)∧H'=H):az Tryz.prog 184 [Ln g e,fv] H fun r H'=>r = .int .i64 (ixN p e 0)∧H'=H:=by
 refine aD tok Tryz.func184 rfl rfl ?_;refine wx ?_;simp -implicitDefEqProofs -dsimp[Tryz.f184,List.replicate,Ln];refine aK (W_loopM 19 [4,5,8,9,10,11,12,13,14,15,16,17,18] (by simp[mB]<;>rfl) (σ:=Nat) (fun i=>ixN p e i=ixN p e 0) (fun i=>e.length-i) (fun i=>[(8,.int .i64 i)]) (fun _=>H) 0 rfl (by simp) rfl (by simp) ?_);intro i hx N Q hN hQ;by_cases hb:i<e.length
 ·rw[ixN,dif_pos hb]at hx;have hc:=hp e[i] (List.getElem_mem hb);cases hq:p e[i]
  ·rw[hq]at hc hx;refine wx ?_;simp -implicitDefEqProofs -dsimp[hb,eN];refine hc.mono ?_;rintro r H' ⟨rfl,rfl⟩;simp -implicitDefEqProofs -dsimp[aM i (by omega)];refine hN (i+1) _ _ (by simpa using hx) (by omega) (by simp) ⟨[],by simp⟩ (by simp;exact hfv) hH
  ·rw[hq]at hc hx;refine wx ?_;simp -implicitDefEqProofs -dsimp[hb,eN];refine hc.mono ?_;rintro r H' ⟨rfl,rfl⟩;simp -implicitDefEqProofs -dsimp[];refine hQ _ _ _ ?_;simp -implicitDefEqProofs -dsimp[];simpa using hx
 ·rw[ixN,dif_neg hb]at hx;refine wx ?_;simp -implicitDefEqProofs -dsimp[hb];refine hQ _ _ _ ?_;simp -implicitDefEqProofs -dsimp[];simpa using hx
theorem contFuncN(H:List B)(fv:V)(p:Nat→Bool)(e:List Nat)(g:Bool)(hes:e.length≤1000000)(hH:∀bl∈H,rbB H.length bl)(hfv:rb H.length fv)
  (hp:∀v∈e,aV Tryz.prog fv [.int .i64 (v:Int)] H fun r H'=>r = .bool (p v)∧H'=H):az Tryz.prog 141 [Ln g e,fv] H fun r H'=>r = .bool (e.any p)∧H'=H:=by
 have h0:=ixN_any p e 0;rw[List.drop_zero]at h0;have hc:=idxFuncN H fv p e g hes hH hfv hp;refine aD tok Tryz.func141 rfl rfl ?_;refine wx ?_;simp -implicitDefEqProofs -dsimp[Tryz.f141,List.replicate];refine(show aV Tryz.prog (.fn 184 []) _ H _ from by simpa[aV] using hc).mono ?_;rintro r H' ⟨rfl,rfl⟩;simp -implicitDefEqProofs -dsimp[];rw[←h0]
def ixL(p:List Nat→Bool)(es:List (List Nat))(i:Nat):Int:=if h:i<es.length then(if p es[i] then(i:Int) else ixL p es (i+1)) else -1
termination_by es.length-i
theorem ixL_any(p:List Nat→Bool)(es:List (List Nat))(i:Nat):decide (0≤ixL p es i)=(es.drop i).any p:=by
 fun_induction ixL p es i with
 | case1 i h h0=>rw[List.drop_eq_getElem_cons h,List.any_cons,h0];simp
 | case2 i h h0 ih=>rw[List.drop_eq_getElem_cons h,List.any_cons,ih];simp[h0]
 | case3 i h=>rw[List.drop_of_length_le (by omega)];rfl
theorem idxFuncL(H:List B)(fv:V)(p:List Nat→Bool)(es:List (List Nat))(g:Bool)(hes:es.length≤1000000)(hH:∀bl∈H,rbB H.length bl)(hfv:rb H.length fv)
  (hp:∀m∈es,aV Tryz.prog fv [Ln false m] H fun r H'=>r = .bool (p m)∧H'=H):az Tryz.prog 214 [LLn g es,fv] H fun r H'=>r = .int .i64 (ixL p es 0)∧H'=H:=by
 refine aD tok Tryz.func214 rfl rfl ?_;refine wx ?_;simp -implicitDefEqProofs -dsimp[Tryz.f214,List.replicate,LLn];refine aK (W_loopM 19 [4,5,8,9,10,11,12,13,14,15,16,17,18] (by simp[mB]<;>rfl) (σ:=Nat) (fun i=>ixL p es i=ixL p es 0) (fun i=>es.length-i) (fun i=>[(8,.int .i64 i)]) (fun _=>H) 0 rfl (by simp) rfl (by simp) ?_);intro i hx N Q hN hQ;by_cases hb:i<es.length
 ·rw[ixL,dif_pos hb]at hx;have hc:=hp es[i] (List.getElem_mem hb);cases hq:p es[i]
  ·rw[hq]at hc hx;refine wx ?_;simp -implicitDefEqProofs -dsimp[hb];refine hc.mono ?_;rintro r H' ⟨rfl,rfl⟩;simp -implicitDefEqProofs -dsimp[aM i (by omega)];refine hN (i+1) _ _ (by simpa using hx) (by omega) (by simp) ⟨[],by simp⟩ (by simp;exact hfv) hH
  ·rw[hq]at hc hx;refine wx ?_;simp -implicitDefEqProofs -dsimp[hb];refine hc.mono ?_;rintro r H' ⟨rfl,rfl⟩;simp -implicitDefEqProofs -dsimp[];refine hQ _ _ _ ?_;simp -implicitDefEqProofs -dsimp[];simpa using hx
 ·rw[ixL,dif_neg hb]at hx;refine wx ?_;simp -implicitDefEqProofs -dsimp[hb];refine hQ _ _ _ ?_;simp -implicitDefEqProofs -dsimp[];simpa using hx
theorem contFuncL(H:List B)(fv:V)(p:List Nat→Bool)(es:List (List Nat))(g:Bool)(hes:es.length≤1000000)(hH:∀bl∈H,rbB H.length bl)(hfv:rb H.length fv)
  (hp:∀m∈es,aV Tryz.prog fv [Ln false m] H fun r H'=>r = .bool (p m)∧H'=H):az Tryz.prog 187 [LLn g es,fv] H fun r H'=>r = .bool (es.any p)∧H'=H:=by
 have h0:=ixL_any p es 0;rw[List.drop_zero]at h0;have hc:=idxFuncL H fv p es g hes hH hfv hp;refine aD tok Tryz.func187 rfl rfl ?_;refine wx ?_;simp -implicitDefEqProofs -dsimp[Tryz.f187,List.replicate];refine(show aV Tryz.prog (.fn 214 []) _ H _ from by simpa[aV] using hc).mono ?_;rintro r H' ⟨rfl,rfl⟩;simp -implicitDefEqProofs -dsimp[];rw[←h0]
section
variable {H:List B} {k0 km:Nat} {f g:Bool} {ws:List Int} {es:List (List Nat)} {n:Nat} {m:List Nat} {lf:Int}
theorem has_h(s:SAt H k0 km f g ws es n m lf)(e:List Nat)(fe:Bool)(k:Nat)(hl:e.length≤1000000)(he:∀v∈e,v<n):
  az Tryz.prog 189 [.ptr k0 0,Ln fe e,.int .i64 k] H fun r H'=>r = .bool (fJ m k e)∧H'=H:=by
 refine fW ?_ (by simp[rb,rb1]) s.rb;have hl0:k0<H.length:=aE s.h0;have s2:=s.app [B.cells [.ptr k0 0],B.cells [.int .i64 k]] (by simp[rbB,rb,rb1];omega)
 have g1:(H++[B.cells [.ptr k0 0],B.cells [.int .i64 k]])[H.length]?=some (B.cells [.ptr k0 0]):=by simp
 have g2:(H++[B.cells [.ptr k0 0],B.cells [.int .i64 k]])[H.length+1]?=some (B.cells [.int .i64 k]):=by simp
 have hnl:=aw m;have hlm:=s.lm
 have hcf:=contFuncN (H++[B.cells [.ptr k0 0],B.cells [.int .i64 k]]) (.fn 215 [.ptr H.length 0,.ptr (H.length+1) 0]) (fun v=>decide (m.getD v 0=k)) e fe hl s2.rb (by simp[rb,rb1]) (fun v hv=>by
  have hvn:=he v hv;obtain⟨HH,hHH⟩:∃HH,HH=H++[B.cells [.ptr k0 0],B.cells [.int .i64 k]]:=⟨_,rfl⟩;rw[←hHH]at s2 g1 g2 ⊢;have h0:=s2.h0;have hm:=s2.hm
  have hat:=fun h=>bO (m:=m) (x:=v) h
  obtain⟨c,hcv⟩:∃c,c=m.getD v 0:=⟨_,rfl⟩;rw[←hcv]at hat ⊢;simp only[aV,List.cons_append,List.nil_append];by_cases hq:c=k
  ·rw[decide_eq_true hq];subst hq;refine aD tok Tryz.func215 rfl rfl ?_;refine wx ?_;simp -implicitDefEqProofs -dsimp[Tryz.f215,List.replicate,h0,hm,g1,g2,hat,hnl,hlm,hvn];exact .inr (aJ (by kernel_rfl))
  ·rw[decide_eq_false hq];refine aD tok Tryz.func215 rfl rfl ?_;refine wx ?_;simp -implicitDefEqProofs -dsimp[Tryz.f215,List.replicate,h0,hm,g1,g2,hat,hnl,hlm,hvn,show ¬((c:Int)=k) by omega]
   exact .inr (aJ (by kernel_rfl)))
 refine aD tok Tryz.func189 rfl rfl ?_;refine wx ?_;simp -implicitDefEqProofs -dsimp[Tryz.f189,List.replicate];refine aV.mono (K:=fun r H'=>r = .bool (e.any fun v=>decide (m.getD v 0=k))∧H'=H++[B.cells [.ptr k0 0],B.cells [.int .i64 k]]) hcf ?_;rintro r H' ⟨rfl,rfl⟩;simp -implicitDefEqProofs -dsimp[];rfl
theorem dead_h(s:SAt H k0 km f g ws es n m lf)(he:gq n es)(hes:es.length≤1000000)(hl:∀e∈es,e.length≤1000000):
  az Tryz.prog 146 [.ptr k0 0] H fun r H'=>r = .bool (fA m es)∧H'=H:=by
 refine fW ?_ (by simp[rb,rb1]) s.rb;have hl0:k0<H.length:=aE s.h0;have s2:=s.app [B.cells [.ptr k0 0]] (by simp[rbB,rb,rb1];omega)
 have g1:(H++[B.cells [.ptr k0 0]])[H.length]?=some (B.cells [.ptr k0 0]):=by simp
 have hcf:=contFuncL (H++[B.cells [.ptr k0 0]]) (.fn 188 [.ptr H.length 0]) (fun e=>!fJ m 1 e&&!fJ m 0 e) es g hes s2.rb (by simp[rb,rb1]) (fun e hm=>by
  obtain⟨HH,hHH⟩:∃HH,HH=H++[B.cells [.ptr k0 0]]:=⟨_,rfl⟩;rw[←hHH]at s2 g1 ⊢;have c1:=has_h s2 e false 1 (hl e hm) (he e hm).2.2;have c0:=has_h s2 e false 0 (hl e hm) (he e hm).2.2;simp only[aV,List.cons_append,List.nil_append]
  cases h1:fJ m 1 e with
  | true =>
   rw[h1]at c1;refine aD tok Tryz.func188 rfl rfl ?_;refine wx ?_;simp -implicitDefEqProofs -dsimp[Tryz.f188,List.replicate,g1];refine bJ c1 ?_;rintro r H' ⟨rfl,rfl⟩;simp -implicitDefEqProofs -dsimp[]
  | false =>
   rw[h1]at c1;refine aD tok Tryz.func188 rfl rfl ?_;refine wx ?_;simp -implicitDefEqProofs -dsimp[Tryz.f188,List.replicate,g1];refine bJ c1 ?_;rintro r H' ⟨rfl,rfl⟩;simp -implicitDefEqProofs -dsimp[g1];refine bJ c0 ?_;rintro r H' ⟨rfl,rfl⟩;simp -implicitDefEqProofs -dsimp[]
 )
 have h0:=s2.h0;refine aD tok Tryz.func146 rfl rfl ?_;refine wx ?_;simp -implicitDefEqProofs -dsimp[Tryz.f146,List.replicate,h0];refine aV.mono (K:=fun r H'=>r = .bool (es.any fun e=>!fJ m 1 e&&!fJ m 0 e)∧H'=H++[B.cells [.ptr k0 0]]) hcf ?_;rintro r H' ⟨rfl,rfl⟩;simp -implicitDefEqProofs -dsimp[];rfl
def aQ(x:Shr):V:=.agg [.int .i64 x.e,.int .i64 x.a]
@[simp] theorem encSh_pure (x:Shr):AM.Pure (aQ x):=by simp[aQ]
@[simp] theorem encSh_oneV (x:Shr):dc (aQ x)=true:=rfl
def LSh(f:Bool)(l:List Shr):V:=.lst 2 f (l.map aQ)
@[simp] theorem LSh_pure (f:Bool) (l:List Shr):AM.Pure (LSh f l):=by simp[LSh]
def aT(x:Nde):V:=.agg [.int .i64 x.v,LSh false x.l]
@[simp] theorem encNd_pure (x:Nde):AM.Pure (aT x):=by simp[aT]
@[simp] theorem encNd_oneV (x:Nde):dc (aT x)=true:=rfl
def LNd(f:Bool)(l:List Nde):V:=.lst 2 f (l.map aT)
@[simp] theorem LNd_pure (f:Bool) (l:List Nde):AM.Pure (LNd f l):=by simp[LNd]
structure HsB (ws:List Int) (es:List (List Nat)):Prop where
 w:∀v<ws.length,1≤ws.getD v 0∧ws.getD v 0≤1000000
 n:ws.length≤200
 ne:es.length≤2000
 ed:gq ws.length es
theorem gq.len{n:Nat}{es:List (List Nat)}(h:gq n es):∀e∈es,e.length≤n:=fun e he=>by
 obtain⟨_,h2,h3⟩:=h e he;have hnd:e.Nodup:=h2.imp (fun h=>by omega);have:=hnd.length_le_of_subset (l₂:=List.range n) (fun v hv=>List.mem_range.2 (h3 v hv));simpa using this
def ldOk(n:Nat)(A:Int)(ld:List Int):Prop:=ld.length=n∧∀v<n,0≤ld.getD v 0∧ld.getD v 0≤A
theorem ldOk.set{n:Nat}{A A':Int}{ld:List Int}(h:ldOk n A ld)(hA:A≤A'){v:Nat}(hv:v<n){a:Int}(h0:0≤ld.getD v 0+a)(h1:ld.getD v 0+a≤A'):ldOk n A' (ld.set v (ld.getD v 0+a)):=by
 refine⟨by simp[h.1],fun u hu=>?_⟩;by_cases e:v=u
 ·subst e;rw[aX _ (by rw[h.1];exact hv)];exact⟨h0,h1⟩
 ·rw[af _ e];have:=h.2 u hu;exact⟨this.1,by omega⟩
end
end
section
def crL(m:List Cr):List V:=m.map aO
theorem bG(m:List Cr):(crL m).length=m.length:=by simp[crL]
theorem lz{m:List Cr}{x:Nat}(h:x<(crL m).length):(crL m)[x] = .agg [.int .i64 (cAt m x).id,.int .i64 (cAt m x).attr]:=by
 have h2:x<m.length:=by simpa[crL] using h
 simp[crL,aO,cAt,h2]
theorem crL_set(m:List Cr)(x:Nat)(v:Cr):(crL m).set x (.agg [.int .i64 v.id,.int .i64 v.attr])=crL (m.set x v):=by
 unfold crL;rw[List.map_set];rfl
theorem iM(m:List Cr):∀x∈crL m,AM.Pure x∧dc x=true:=by
 intro x hx;obtain⟨c,_,rfl⟩:=List.mem_map.1 hx;exact⟨encCr_pure c,rfl⟩
theorem gD(n e:Nat)(m:List Cr)(fz:Bool):rbB n (.buf e 2 (crL m) fz):=(rbB_LC n e 2 m fz).2 trivial
section
variable {H:List B} {k0:Nat}
def CB(H:List B)(k0:Nat)(m:List Cr):List B:=H.set k0 (.buf 49 2 (crL m) false)
theorem CB_at(h:k0<H.length)(m:List Cr):(CB H k0 m)[k0]?=some (.buf 49 2 (crL m) false):=by
 unfold CB;rw[List.getElem?_set_self h]
theorem qH(m m':List Cr):(CB H k0 m).set k0 (.buf 49 2 (crL m') false)=CB H k0 m':=by
 unfold CB;rw[List.set_set]
theorem qI(m:List Cr):(CB H k0 m).length=H.length:=by simp[CB]
theorem CB_rb(hH:∀bl∈H,rbB H.length bl)(m:List Cr):∀bl∈CB H k0 m,rbB (CB H k0 m).length bl:=fF hH (gD _ _ _ _)
end
instance:DecidableEq Cr:=fun a b=>decidable_of_iff _ Cr.eq_iff.symm
def cpF(l:List Cr):Nat→List Cr
 | 0=>[]
 | 1=>[cAt l 0]
 | p+2=>if cAt l (p+1)=cAt l p then cpF l (p+1) else cpF l (p+1)++[cAt l (p+1)]
def eR(l:List Cr):List Cr:=cpF l l.length
theorem oF{l:List Cr}{p:Nat}(hp:1≤p)(h:cAt l p=cAt l (p-1)):cpF l (p+1)=cpF l p:=by
 obtain⟨q,rfl⟩:∃q,p=q+1:=⟨p-1,by omega⟩;rw[cpF,if_pos (by simpa using h)]
theorem cpF_no{l:List Cr}{p:Nat}(hp:1≤p)(h:¬cAt l p=cAt l (p-1)):cpF l (p+1)=cpF l p++[cAt l p]:=by
 obtain⟨q,rfl⟩:∃q,p=q+1:=⟨p-1,by omega⟩;rw[cpF,if_neg (by simpa using h)]
theorem cpF_len(l:List Cr):∀p,(cpF l p).length≤p
 | 0=>by simp[cpF]
 | 1=>by simp[cpF]
 | p+2=>by
  have:=cpF_len l (p+1);rw[cpF];split
  ·omega
  ·simp;omega
theorem cpF_pos(l:List Cr):∀p,1≤p→1≤(cpF l p).length
 | 0,h=>by omega
 | 1,_=>by simp[cpF]
 | p+2,_=>by
  have:=cpF_pos l (p+1) (by omega);rw[cpF];split
  ·exact this
  ·simp
theorem gz{l:List Cr}{k:Nat}(h:k<l.length):l.take (k+1)=l.take k++[cAt l k]:=by
 rw[List.take_succ_eq_append_getElem h,gh h]
structure CpI (l ys:List Cr) (kk p:Nat):Prop where
 lt:kk<p
 len:ys.length=l.length
 tk:ys.take kk=cpF l p
 kl:kk=(cpF l p).length
 hi:∀i,p-1≤i→cAt ys i=cAt l i
theorem CpI.start{l:List Cr}{k:Nat}(hk:1≤k)(hl:k<l.length)(h:cpF l k=l.take k)(he:cAt l k=cAt l (k-1)):CpI l l k (k+1):=
 ⟨by omega,rfl,by rw[oF hk he,h],by rw[oF hk he,h];simp;omega,fun _ _=>rfl⟩
theorem CpI.skip{l ys:List Cr}{kk p:Nat}(h:CpI l ys kk p)(hp:1≤p)(he:cAt l p=cAt l (p-1)):CpI l ys kk (p+1):=
 ⟨by have:=h.lt;omega,h.len,by rw[oF hp he];exact h.tk,by rw[oF hp he];exact h.kl,fun i hi=>h.hi i (by omega)⟩
theorem CpI.keep{l ys:List Cr}{kk p:Nat}(h:CpI l ys kk p)(hp:1≤p)(hpl:p<l.length)(he:¬cAt l p=cAt l (p-1)):CpI l (ys.set kk (cAt l p)) (kk+1) (p+1):=by
 have h1:=h.lt;have h2:=h.len;refine⟨by omega,by simp[h2],?_,by rw[cpF_no hp he];have:=h.kl;simp;omega,fun i hi=>?_⟩
 ·rw[cpF_no hp he,←h.tk,gz (by simp;omega),List.take_set_of_le (by omega)];congr 2;simp[cAt,show kk<ys.length by omega]
 ·rw[←h.hi i (by omega)];unfold cAt;simp only[List.getD_eq_getElem?_getD];rw[List.getElem?_set_ne (by omega)]
theorem CpI.done{l ys:List Cr}{kk:Nat}(h:CpI l ys kk l.length):eR l=ys.take kk∧(eR l).length=kk:=⟨h.tk.symm,h.kl.symm⟩
section
variable {H:List B} {k0:Nat}
theorem crL_fill(ys:List Cr)(kk n:Nat)(hn:ys.length=n):List.take kk (crL ys)++(List.replicate (n-kk) (V.agg [.int .i64 0,.int .i64 0])++List.drop n (crL ys))=crL (ys.take kk++List.replicate (n-kk) ⟨0,0⟩):=by
 unfold crL;rw[List.drop_of_length_le (by simp;omega),List.append_nil,List.map_append,List.map_replicate,List.map_take];rfl
theorem compact_h(hk0:k0<H.length)(hH:∀bl∈H,rbB H.length bl)(l:List Cr)(n:Nat)(hn:l.length=n)(hn2:n≤1000000):
  az Tryz.prog 102 [.buf k0 0 n n] (CB H k0 l) fun r H'=>r = .buf k0 0 (eR l).length n∧H'=CB H k0 (eR l++List.replicate (n-(eR l).length) ⟨0,0⟩):=by
 have g0:=CB_at hk0 l;have hnl:=bG l;by_cases h2:n<2
 ·have hc:eR l=l:=by
   unfold eR
   match l,hn with
   | [],_=>rfl
   | [x],_=>rfl
   | _::_::_,hn=>simp at hn;omega
  rw[hc,hn,Nat.sub_self,List.replicate_zero,List.append_nil];refine aD tok Tryz.func102 rfl rfl ?_;refine wx ?_;simp -implicitDefEqProofs -dsimp[Tryz.f102,List.replicate,g0,hnl,hn,h2,show(n:Int)<2 by omega]
 ·obtain⟨R,hR⟩:∃R,R=eR l++List.replicate (n-(eR l).length) ⟨0,0⟩:=⟨_,rfl⟩;obtain⟨m,hm⟩:∃m,m=(eR l).length:=⟨_,rfl⟩;rw[←hR,←hm];refine aD tok Tryz.func102 rfl rfl ?_;refine wx ?_;simp -implicitDefEqProofs -dsimp[Tryz.f102,List.replicate,g0,hnl,hn,h2,show ¬(n:Int)<2 by omega];refine aK (W_loopM 60 [2,3,4,5,10,11,12,13,14,15,16,17,18,19,20,21,22,23,24,25,26,27,28,29,30,31,32,33,34,35,36,37,38,39,40,41,42,43,44,45,46,47,48,49,50,51,52,53,54,55,56,57,58,59] (by simp[mB]<;>rfl) (σ:=Nat) (fun k=>1≤k∧k≤n∧cpF l k=l.take k) (fun k=>n-k) (fun k=>[(3,.int .i64 k)]) (fun _=>CB H k0 l) 1 ⟨by omega,by omega,by rw[gz (k:=0) (by omega)];rfl⟩ (by simp) (by simp) (by simp[qI]) ?_);rintro k ⟨hk,hkn,hx⟩ N Q hN hQ;by_cases hb:k<n
  ·obtain⟨q,rfl⟩:∃q,k=q+1:=⟨k-1,by omega⟩
   have a1:=fun h=>lz (m:=l) (x:=q+1) h
   have a0:=fun h=>lz (m:=l) (x:=q) h
   have wq:IntKind.i64.wrap (((q:Int)+1)-1)=(q:Int):=by rw[wrap64 (by omega) (by omega)];omega
   have hq:q<n:=by omega
   have w2:IntKind.i64.wrap ((q:Int)+1+1)=(q:Int)+1+1:=wrap64 (by omega) (by omega);obtain⟨x,hxx⟩:∃x,x=cAt l (q+1):=⟨_,rfl⟩;obtain⟨y,hyy⟩:∃y,y=cAt l q:=⟨_,rfl⟩;rw[←hxx]at a1;rw[←hyy]at a0;by_cases he:x=y
   ·have heq:(x.id == y.id&&x.attr == y.attr)=true:=by subst he;simp
    refine wx ?_;simp -implicitDefEqProofs -dsimp[g0,hnl,hn,hb,a1,a0,wq,hq,dS q (by omega),show(0:Int)≤(q:Int)+1 by omega,show(q:Int)+1<(n:Int) by omega,eqCr,heq];refine .inr ⟨aJ (by kernel_rfl),?_⟩;simp -implicitDefEqProofs -dsimp[hkn,show ¬q+1=n by omega];refine aK (W_loopM 54 [3,5,29,30,31,32,33,34,35,36,37,38,39,40,41,42,43,44,45,46,47,48,49,50,51,52,53] (by simp[mB]<;>rfl) (σ:=Nat×Nat×List Cr) (fun p=>1≤p.2.1∧q+1+p.2.1≤n∧CpI l p.2.2 p.1 (q+1+p.2.1)) (fun p=>n-p.2.1) (fun p=>[(3,.int .i64 p.1),(5,.int .i64 p.2.1),(4,.buf k0 (q+1) (n-(q+1)) n)]) (fun p=>CB H k0 p.2.2) (q+1,1,l) ⟨Nat.le_refl _,by show q+1+1≤n;omega,CpI.start (by omega) (by omega) hx (by rw[show q+1-1=q by omega,←hxx,←hyy];exact he)⟩ (by simp) (by simp) (by simp[qI]) ?_);rintro⟨kk,k2,ys⟩ ⟨i1,i2,I⟩ N2 Q2 hN2 hQ2;simp only at i1 i2 I hN2;have g1:=CB_at hk0 ys;have ynl:=bG ys
    have yl:ys.length=n:=by rw[I.len,hn]
    have hlt:=I.lt;by_cases hb2:q+1+k2<n
    ·obtain⟨r,rfl⟩:∃r,k2=r+1:=⟨k2-1,by omega⟩;obtain⟨u,hu⟩:∃u,u=cAt l (q+1+(r+1)):=⟨_,rfl⟩;obtain⟨v,hv⟩:∃v,v=cAt l (q+1+r):=⟨_,rfl⟩
     have b1:=fun h=>lz (m:=ys) (x:=q+1+(r+1)) h
     have b0:=fun h=>lz (m:=ys) (x:=q+1+r) h
     rw[I.hi _ (by omega),←hu]at b1;rw[I.hi _ (by omega),←hv]at b0
     have wr:IntKind.i64.wrap (((r:Int)+1)-1)=(r:Int):=by rw[wrap64 (by omega) (by omega)];omega
     have wr1:IntKind.i64.wrap (r:Int)=(r:Int):=dS r (by omega);have wr2:IntKind.i64.wrap ((r:Int)+1+1)=(r:Int)+1+1:=wrap64 (by omega) (by omega);obtain⟨d,hd⟩:∃d,d=n-(q+1):=⟨_,rfl⟩;rw[←hd];by_cases huv:u=v
     ·have heq2:(u.id == v.id&&u.attr == v.attr)=true:=by subst huv;simp
      refine wx ?_;simp -implicitDefEqProofs -dsimp[g1,ynl,yl,hb2,show q+1+r<n by omega,b1,b0,wr,wr1,wr2,eqCr,heq2,show(r:Int)+1<(d:Int) by omega,show r+1<d by omega,show r<d by omega,show(0:Int)≤(r:Int)+1 by omega];refine .inr ⟨aJ (by kernel_rfl),?_⟩;refine hN2 (kk,r+1+1,ys) _ _ ⟨by simp only;omega,by simp only;omega,I.skip (by omega) (by rw[show q+1+(r+1)-1=q+1+r by omega,←hu,←hv];exact huv)⟩ (by simp only;omega) (by simp[hd]) ⟨[],by simp⟩ (by simp[qI];exact hk0) (CB_rb hH ys)
     ·have heq2:(u.id == v.id&&u.attr == v.attr)=false:=by
       cases h:(u.id == v.id&&u.attr == v.attr)
       ·rfl
       ·rw[Bool.and_eq_true,beq_iff_eq,beq_iff_eq]at h;exact absurd (Cr.eq_iff.2 h) huv
      have hkn2:kk<n:=by omega
      have c0:=fun h=>lz (m:=ys) (x:=kk) h
      have hst:=crL_set ys kk u;have hcs:=qH (H:=H) (k0:=k0) ys (ys.set kk u);have wk:IntKind.i64.wrap ((kk:Int)+1)=(kk:Int)+1:=wrap64 (by omega) (by omega);have hI2:=I.keep (by omega) (by rw[hn];omega) (by rw[show q+1+(r+1)-1=q+1+r by omega,←hu,←hv];exact huv);rw[←hu]at hI2;refine wx ?_;simp -implicitDefEqProofs -dsimp[g1,ynl,yl,hb2,show q+1+r<n by omega,b1,b0,wr,wr1,wr2,eqCr,heq2,show(r:Int)+1<(d:Int) by omega,show r+1<d by omega,show r<d by omega,show(0:Int)≤(r:Int)+1 by omega];refine .inr ⟨aJ (by kernel_rfl),?_⟩;simp -implicitDefEqProofs -dsimp[g1,ynl,yl,hb2,hkn2,b1,c0,hst,hcs,wk,wr2,show r+1<d by omega,show(r:Int)+1<(d:Int) by omega,show(0:Int)≤(r:Int)+1 by omega];refine hN2 (kk+1,r+1+1,ys.set kk u) _ _ ⟨by simp only;omega,by simp only;omega,hI2⟩ (by simp only;omega) (by simp[hd]) ⟨[],by simp⟩ (by simp[qI];exact hk0) (CB_rb hH _)
    ·obtain⟨d,hd⟩:∃d,d=n-(q+1):=⟨_,rfl⟩;rw[←hd]
     have hpn:q+1+k2=n:=by omega
     rw[hpn,←hn]at I;obtain⟨e1,e2⟩:=I.done
     have hmk:m=kk:=by rw[hm];exact e2
     have hkl:kk<n:=by have:=I.lt;omega
     have hfill:=crL_fill ys kk n yl;have hcs:=qH (H:=H) (k0:=k0) ys (ys.take kk++List.replicate (n-kk) ⟨0,0⟩)
     have hRR:R=ys.take kk++List.replicate (n-kk) ⟨0,0⟩:=by rw[hR,e2,e1]
     have hkp:1≤kk:=by rw[←e2];exact cpF_pos l l.length (by omega)
     have g2:=CB_at hk0 (ys.take kk++List.replicate (n-kk) ⟨0,0⟩)
     have hRl:(crL (ys.take kk++List.replicate (n-kk) ⟨0,0⟩)).length=n:=by rw[bG,←hRR,hR,e2,e1,List.length_append,List.length_take,List.length_replicate];omega
     rw[←hRR]at hfill hcs g2 hRl;refine wx ?_;simp -implicitDefEqProofs -dsimp[g1,ynl,yl,show ¬(k2:Int)<(d:Int) by omega,show ¬k2<d by omega];refine hQ2 _ _ _ ?_;simp -implicitDefEqProofs -dsimp[g1,ynl,yl,hkl,show kk≤n by omega,show ¬kk=n by omega,hfill,hcs,g2,hRl,show ¬n-kk=0 by omega,show ¬0=kk by omega];refine hQ _ _ _ ?_;simp -implicitDefEqProofs -dsimp[];exact hmk.symm
   ·have heq:(x.id == y.id&&x.attr == y.attr)=false:=by
     cases h:(x.id == y.id&&x.attr == y.attr)
     ·rfl
     ·rw[Bool.and_eq_true,beq_iff_eq,beq_iff_eq]at h;exact absurd (Cr.eq_iff.2 h) he
    refine wx ?_;simp -implicitDefEqProofs -dsimp[g0,hnl,hn,hb,a1,a0,wq,hq,dS q (by omega),w2,show(0:Int)≤(q:Int)+1 by omega,show(q:Int)+1<(n:Int) by omega,eqCr,heq];refine .inr ⟨aJ (by kernel_rfl),?_⟩;refine hN (q+1+1) _ _ ⟨by omega,by omega,by rw[cpF_no (by omega) (by rw[show q+1-1=q by omega,←hxx,←hyy];exact he),hx,gz (k:=q+1) (by omega)]⟩ (by omega) (by simp) ⟨[],by simp⟩ (by simp[qI];exact hk0) (CB_rb hH l)
  ·obtain rfl:k=n:=by omega
   refine wx ?_;simp -implicitDefEqProofs -dsimp[g0,hnl,hn,hb];refine hQ _ _ _ ?_;simp -implicitDefEqProofs -dsimp[]
   have hcl:eR l=l:=by
    unfold eR;rw[hn,hx,←hn,List.take_length]
   rw[hm,hR,hcl,hn,Nat.sub_self,List.replicate_zero,List.append_nil];exact⟨rfl,rfl⟩
end
end
end
end Go.Proofs.YteijbpppalhihaaGreat
namespace Go.Proofs.YteijbpppalhihaaGreat
section
open Go Go.AM Go.RowKit Go.Lib
theorem conO_row{f:FuncId}{args:List V}{e z:Nat}(hE:AM.Enters Tryz.prog f)(h:∀(F:Nat→Prop) (w:World) (vals:Array Value),vals.size=args.length→(∀(i:Nat) a u,args[i]?=some a→vals[i]?=some u→Rel (AM.base F w) a u)→
  Calls Tryz.prog f vals w fun e' w'=>∃v,e' = .returned v∧Below w.heap.size w w'∧(v = .slice none 0 0∨∃g c cur,v = .slice (some ⟨g,0,none⟩) 0 c∧w.heap.size≤g∧w'.heap[g]?=some (.cells cur e (0,0))∧c≠0∧c≤maxLen∧cur.size=c*z)):gK Tryz.prog f args fun e' z' ys=>e'=e∧z'=z∧ys=[]:=by
 refine⟨hE,fun F w vals hZ hF hsz hrel=>(h F w vals hsz hrel).mono fun e' w' ⟨v,he,hb,hv⟩=>?_⟩
 rcases hv with hv | ⟨g,c,cur,hv,hg,hc,hn,hm,hs⟩
 ·have hF':∀b,F b→b<w'.heap.size:=fun b hb'=>Nat.lt_of_lt_of_le (hF b hb') hb.size
  obtain⟨p1,_⟩:=nI (AM.base_good hF') (w:=w') 0 e z false rfl rfl rfl (Nat.le_refl _) (fun _ _=>rfl);refine⟨v,e,z,[],none,0,0,he,hv,fun h=>absurd rfl h,by simp,fun h=>absurd rfl h,?_,hb,rfl,rfl,rfl⟩;refine⟨hF',fun k hk=>absurd (hk.2 e z [] false (by have:=hk.1;simp at this;subst this;rfl)) (by simp),fun j k hj hk _=>by have:=hj.1;have:=hk.1;simp at *;omega,fun k bl hk=>?_⟩
  have hk0:k=0:=by have:=aE hk;simp at this;omega
  subst hk0;simp at hk;subst hk;exact⟨#[],fun h=>absurd rfl h,by simp,by simp,by simp[maxLen],(fun x hx=>by cases hx),(fun i x j c u hx=>by simp at hx)⟩
 ·have hF':∀b,F b→b<w'.heap.size:=fun b hb'=>Nat.lt_of_lt_of_le (hF b hb') hb.size
  refine⟨v,e,z,[],some ⟨g,0,none⟩,g,c,he,hv,fun _=>rfl,by simp,fun _=>hg,?_,hb,rfl,rfl,rfl⟩;refine⟨hF',fun k hk=>⟨(Array.getElem?_eq_some_iff.1 hc).1,fun hf=>by have:=hF g hf;omega⟩,fun j k hj hk _=>by have:=hj.1;have:=hk.1;simp at *;omega,fun k bl hk=>?_⟩
  have hk0:k=0:=by have:=aE hk;simp at this;omega
  subst hk0;simp at hk;subst hk;exact⟨cur,fun _=>hc,by simpa using hs,by simp,hm,(fun x hx=>by cases hx),(fun i x j c u hx=>by simp at hx)⟩
theorem infoG_C:(Tryz.prog.info? 49).map (fun i=>(i.zero,i.size,i.bytes))=some (some (.agg #[.int .i64 0,.int .i64 0]),2,16):=by kernel_rfl
theorem growPos_C(n:Nat)(w:World)(h0:0<n)(hn:n≤1000000):Calls Tryz.prog 137 #[.slice none 0 0,.int .i64 n] w fun e w' =>
   e = .returned (.slice (some ⟨w.heap.size,0,none⟩) 0 (grownCap w n 0 49))∧w'=w.drew.alloc (.cells (Builtin.zeroCells (.agg #[.int .i64 0,.int .i64 0]:Value).cells n++Builtin.zeroCells (.agg #[.int .i64 0,.int .i64 0]:Value).cells (grownCap w n 0 49-n)) 49):=by
 obtain⟨i0,hi0,hz0,hs0,hby⟩:=info_parts infoG_C
 have h1:¬((n:Int)<0):=by omega
 have hz25:∀w,(Go.sizeOf 49).run Tryz.prog w = .ok 2 w:=fun w=>by simp[Go.sizeOf,typeInfo,hi0,hs0]
 have hold:(Builtin.firstCells i0.size 0 (.slice none 0 0)).run Tryz.prog w.drew = .ok ([]:List Value).toArray w.drew:=run_firstCells_none w.drew i0.size 0 0 0
 have hbig:(0+n)*i0.bytes≤140737488355328:=by rw[hby];omega
 have hrz:∀ty,(Builtin.append_ #[37,3] ty #[.slice none 0 0,.int .i64 (n:Int)]).run Tryz.prog w =
   .ok (.slice (some ⟨w.heap.size,0,none⟩) n (grownCap w n 0 49)) (w.drew.alloc (.cells (Builtin.zeroCells (.agg #[.int .i64 0,.int .i64 0]:Value).cells n++Builtin.zeroCells (.agg #[.int .i64 0,.int .i64 0]:Value).cells (grownCap w n 0 49-n)) 49)):=fun ty=>by
  have h:=Lib.run_append_grow_zeros (P:=Tryz.prog) w 37 3 ty 49 i0 _ .i64 .i64 Tryz.underlying37 Tryz.underlying3 hi0 hz0 none 0 0 [] hold n h0 (by omega) (by omega) (by omega)
   (by rw[hby];omega)
   (growslice_fits (by omega) hbig)
  simpa using h
 have hGn:n≤grownCap w n 0 49:=grownCap_ge w _ _ _;obtain⟨G,hG⟩:∃G,G=grownCap w n 0 49:=⟨_,rfl⟩;rw[←hG]at hrz hGn ⊢
 have hG63:G≤9223372036854775807:=by
  have:=grownCap_le_maxLen w n 0 49 (by unfold maxLen;omega);rw[←hG]at this;unfold maxLen at this;omega
 have h2:RowKit.wrap64 ((0:Int)-0)=0:=by unfold RowKit.wrap64;omega
 have h3:RowKit.wrap64 ((n:Int)-0)=(n:Int):=by unfold RowKit.wrap64;omega
 have h4:(n:Int)> 0:=by omega
 clear hold hG hbig
 go_enter Tryz.func137,Tryz.ntmps137
 go_wp2_with (at_builtin;refine Lib.wpList_append_run _ rfl _ _ _ _ rfl _ _ rfl rfl _ _ (hrz _) ?_)
 all_goals (go_ret;exact⟨rfl,rfl⟩)
theorem growNil_C(w:World):Calls Tryz.prog 137 #[.slice none 0 0,.int .i64 0] w fun e w'=>e = .returned (.slice none 0 0)∧w'=w:=by
 go_enter Tryz.func137,Tryz.ntmps137
 go_wp2
 go_ret
 exact⟨rfl,rfl⟩
theorem kg(n:Nat)(hn:n≤1000000):gK Tryz.prog 137 [.nilS,.int .i64 n] fun e z ys=>e=49∧z=2∧ys=[]:=by
 refine conO_row ⟨Tryz.f137,Tryz.func137,rfl,rfl⟩ (fun F w vals hsz hrel=>?_)
 obtain⟨u0,u1,rfl⟩:∃u0 u1,vals = #[u0,u1]:=by
  obtain⟨l⟩:=vals
  match l,hsz with
  | [a,b],_=>exact⟨a,b,rfl⟩
 have r0:=hrel 0 _ u0 rfl rfl;have r1:=hrel 1 _ u1 rfl rfl;cases r0;cases r1;by_cases h0:n=0
 ·subst h0
  exact(growNil_C w).mono fun e w' ⟨h1,h2⟩=>⟨_,h1,by subst h2;exact Below.refl _ _,.inl rfl⟩
 ·refine(growPos_C n w (by omega) hn).mono fun e w' ⟨h1,h2⟩=>?_
  subst h2;have hge:=grownCap_ge w n 0 49;refine⟨_,h1,((Below.refl _ _).drew).alloc (Nat.le_refl _) _,.inr ⟨w.heap.size,grownCap w n 0 49,Builtin.zeroCells (.agg #[.int .i64 0,.int .i64 0]:Value).cells n++Builtin.zeroCells (.agg #[.int .i64 0,.int .i64 0]:Value).cells (grownCap w n 0 49-n),rfl,Nat.le_refl _,?_,by omega,grownCap_le_maxLen w n 0 49 (by unfold maxLen;omega),?_⟩⟩
  ·exact Array.getElem?_push_size (xs:=w.heap)
  ·rw[Array.size_append,size_zeroCells,size_zeroCells,←Nat.add_mul,Nat.add_sub_cancel' hge];rfl
theorem grow_nil_C:aS Tryz.prog 137 [.nilS,.int .i64 0] fun r=>r = .nilS:=by
 refine⟨⟨Tryz.f137,Tryz.func137,rfl,rfl⟩,fun F w vals hZ hF hsz hrel=>?_⟩
 obtain⟨u0,u1,rfl⟩:∃u0 u1,vals = #[u0,u1]:=by
  obtain⟨l⟩:=vals
  match l,hsz with
  | [a,b],_=>exact⟨a,b,rfl⟩
 have r0:=hrel 0 _ u0 rfl rfl;have r1:=hrel 1 _ u1 rfl rfl;cases r0;cases r1
 refine(growNil_C w).mono fun e w' ⟨h1,h2⟩=>⟨_,_,h1,.nilS,.nilS,by subst h2;exact Below.refl _ _,rfl⟩
end
end Go.Proofs.YteijbpppalhihaaGreat
namespace Go.Proofs.YteijbpppalhihaaGreat
section
open Go Go.AM Go.RowKit
theorem iO{f:FuncId}{args:List V}{e z:Nat}(hE:AM.Enters Tryz.prog f)(h:∀(F:Nat→Prop) (w:World) (vals:Array Value),vals.size=args.length→(∀(i:Nat) a u,args[i]?=some a→vals[i]?=some u→Rel (AM.base F w) a u)→
  Calls Tryz.prog f vals w fun e' w'=>∃v,e' = .returned v∧Below w.heap.size w w'∧(v = .slice none 0 0∨∃g c cur,v = .slice (some ⟨g,0,none⟩) 0 c∧w.heap.size≤g∧w'.heap[g]?=some (.cells cur e (0,0))∧c≤maxLen∧cur.size=c*z)):gK Tryz.prog f args fun e' z' ys=>e'=e∧z'=z∧ys=[]:=by
 refine⟨hE,fun F w vals hZ hF hsz hrel=>(h F w vals hsz hrel).mono fun e' w' ⟨v,he,hb,hv⟩=>?_⟩
 rcases hv with hv | ⟨g,c,cur,hv,hg,hc,hm,hs⟩
 ·have hF':∀b,F b→b<w'.heap.size:=fun b hb'=>Nat.lt_of_lt_of_le (hF b hb') hb.size
  obtain⟨p1,_⟩:=nI (AM.base_good hF') (w:=w') 0 e z false rfl rfl rfl (Nat.le_refl _) (fun _ _=>rfl);refine⟨v,e,z,[],none,0,0,he,hv,fun h=>absurd rfl h,by simp,fun h=>absurd rfl h,?_,hb,rfl,rfl,rfl⟩;refine⟨hF',fun k hk=>absurd (hk.2 e z [] false (by have:=hk.1;simp at this;subst this;rfl)) (by simp),fun j k hj hk _=>by have:=hj.1;have:=hk.1;simp at *;omega,fun k bl hk=>?_⟩
  have hk0:k=0:=by have:=aE hk;simp at this;omega
  subst hk0;simp at hk;subst hk;exact⟨#[],fun h=>absurd rfl h,by simp,by simp,by simp[maxLen],(fun x hx=>by cases hx),(fun i x j c u hx=>by simp at hx)⟩
 ·have hF':∀b,F b→b<w'.heap.size:=fun b hb'=>Nat.lt_of_lt_of_le (hF b hb') hb.size
  refine⟨v,e,z,[],some ⟨g,0,none⟩,g,c,he,hv,fun _=>rfl,by simp,fun _=>hg,?_,hb,rfl,rfl,rfl⟩;refine⟨hF',fun k hk=>⟨(Array.getElem?_eq_some_iff.1 hc).1,fun hf=>by have:=hF g hf;omega⟩,fun j k hj hk _=>by have:=hj.1;have:=hk.1;simp at *;omega,fun k bl hk=>?_⟩
  have hk0:k=0:=by have:=aE hk;simp at this;omega
  subst hk0;simp at hk;subst hk;exact⟨cur,fun _=>hc,by simpa using hs,by simp,hm,(fun x hx=>by cases hx),(fun i x j c u hx=>by simp at hx)⟩
theorem infoD_C:(Tryz.prog.info? 49).map (fun i=>(i.zero,i.size,i.bytes))=some (some (.agg #[.int .i64 0,.int .i64 0]),2,16):=by kernel_rfl
theorem cloneE_C(A:Option Addr)(cap:Nat)(w:World):
  Calls Tryz.prog 16 #[.slice A 0 cap] w fun e w'=>∃v,e = .returned v∧w'.ownsRow w.heap.size 49 2 v 0 []∧Below w.heap.size w w':=by
 have hnil:=fun W A n c=>Lib.run_eql_slice_nil (P:=Tryz.prog) W 37 49 A n c 0 0 Tryz.underlying37
 cases A with
 | none =>
  go_enter Tryz.func16,Tryz.ntmps16
  go_wp2
  go_ret
  exact⟨_,rfl,World.ownsRow_nil _ _ _ _,Below.refl _ _⟩
 | some ad =>
  obtain⟨i0,hi,hz0,hz1,hz2⟩:=info_parts infoD_C;have hown:(w.alloc (.cells #[] 49)).ownsRow w.heap.size 49 2 (.slice (some ⟨w.heap.size,0,none⟩) 0 0) 0 []:=World.ownsRow_lit w #[] 0 (Nat.le_refl _) (by simp[maxLen]) (by simp)
  have hnews:∀j u,([]:List Value)[j]?=some u→(w.alloc (.cells #[] 49)).cell? (ad.add j)=some u:=by
   intro j u hu;simp at hu
  have hone:∀u∈([]:List Value),u.oneCell'=true:=by intro u hu;cases hu
  have h63:0+0≤maxLen:=by simp[maxLen]
  have hby:(0+0)*16≤140737488355328:=by omega
  have hlen:([]:List Value).length=0*2:=by simp
  have Hi:=Lib.hid (show Tryz.prog.info? 49=some i0∧i0.zero=some _∧i0.size=2∧i0.bytes=16 from⟨hi,hz0,hz1,hz2⟩);have Hw:=Lib.hid (And.intro hown (And.intro hnews (And.intro hone (And.intro h63 (And.intro hby hlen)))));clear hnews hone hown hi hz0 hz1 hz2 h63 hby hlen
  go_enter Tryz.func16,Tryz.ntmps16
  go_wp2_with (at_builtin;refine wpList_append_own _ rfl _ _ 37 rfl w.heap.size 49 i0 _ 2 16 Tryz.underlying37 Hi.out.1 Hi.out.2.1 Hi.out.2.2.1 Hi.out.2.2.2 rfl (by omega) (.slice (some ⟨w.heap.size,0,none⟩) 0 0) 0 [] rfl Hw.out.1 ad 0 cap [] rfl Hw.out.2.2.2.2.2 Hw.out.2.1 Hw.out.2.2.1 Hw.out.2.2.2.1 Hw.out.2.2.2.2.1 (by simp) ?_;intro v1 w1 ho hg hn;have Ho:=Lib.hid ho;have Hg:=Lib.hid hg;have Hn:=Lib.hid hn;clear ho hg hn)
  go_ret
  exact⟨v1,rfl,by have:=Ho.out;simpa using this,((Below.refl _ _).alloc (Nat.le_refl _) _).grown Hg.out (by simp) (by simp[Value.ownBlock])⟩
section
theorem cap16b(n k:Nat)(h:n+k≤1000000000):n+k≤9223372036854775807∧(n+k)*16≤140737488355328:=by omega
theorem concat2(a b:List Cr)(f g:Bool)(ha:a.length≤1000000)(hb:b.length≤1000000)(hs:(a++b).length≤1000000):aS Tryz.prog 100 [.lst 1 true [LC f a,LC g b]] fun r=>r=LC false (a++b):=by
 have hab:a.length+b.length≤1000000:=by rw[List.length_append]at hs;exact hs
 have w11:IntKind.i64.wrap (1:Int)=1:=wrap64 (by omega) (by omega);have w12:IntKind.i64.wrap (2:Int)=2:=wrap64 (by omega) (by omega);refine aC (aD tok Tryz.func100 rfl rfl ?_);refine wx ?_;simp -implicitDefEqProofs -dsimp[Tryz.f100,List.replicate,LC];refine aK (W_loopM 23 [3,5,11,12,13,14,15,16,17,18,19,20,21,22] (by simp[mB]<;>rfl) (σ:=Nat×Nat) (fun p=>(p.1=0∧p.2=0)∨(p.1=1∧p.2=a.length)∨(p.1=2∧p.2=a.length+b.length)) (fun p=>2-p.1) (fun p=>[(11,.int .i64 p.1),(3,.int .i64 p.2)]) (fun _=>[]) (0,0) (.inl ⟨rfl,rfl⟩) (by simp) rfl (by simp) ?_);rintro⟨i,c⟩ hx N Q hN hQ;simp only at hx hN
 rcases hx with⟨rfl,rfl⟩ | ⟨rfl,rfl⟩ | ⟨rfl,rfl⟩
 ·have w1:IntKind.i64.wrap ((a.length:Int))=(a.length:Int):=dS _ (by omega);refine wx ?_;simp -implicitDefEqProofs -dsimp[w1];refine hN (1,a.length) _ _ (.inr (.inl ⟨rfl,rfl⟩)) (by simp) (by simp[w11,w12]) ⟨[],rfl⟩ (by simp) (by simp)
 ·have w1:IntKind.i64.wrap ((a.length:Int)+(b.length:Int))=((a.length+b.length:Nat):Int):=by rw[wrap64 (by omega) (by omega)];push_cast;rfl
  obtain⟨s,hse⟩:∃s,s=a.length+b.length:=⟨_,rfl⟩;rw[←hse]at w1;refine wx ?_;simp -implicitDefEqProofs -dsimp[w1,show ¬(s:Int)<0 by omega];refine hN (2,s) _ _ (.inr (.inr ⟨rfl,hse⟩)) (by simp) (by simp[w11,w12]) ⟨[],rfl⟩ (by simp) (by simp)
 ·obtain⟨s,hse⟩:∃s,s=a.length+b.length:=⟨_,rfl⟩;rw[←hse];have hg:=ep (H:=[]) (kg s (by omega)) (by simp);refine wx ?_;simp -implicitDefEqProofs -dsimp[];refine hQ _ _ _ ?_;simp -implicitDefEqProofs -dsimp[];refine hg.mono ?_;rintro r H' ⟨e,z,xs,rfl,rfl,_,rfl,rfl,rfl⟩;simp -implicitDefEqProofs -dsimp[];refine aK (W_loopM 35 [6,8,27,28,29,30,31,32,33,34] (by simp[mB]<;>rfl) (σ:=Nat×List Cr) (fun p=>(p.1=0∧p.2=[])∨(p.1=1∧p.2=a)∨(p.1=2∧p.2=a++b)) (fun p=>2-p.1) (fun p=>[(27,.int .i64 p.1),(6,.buf 0 0 p.2.length p.2.length)]) (fun p=>[B.buf 49 2 (p.2.map aO) false]) (0,[]) (.inl ⟨rfl,rfl⟩) (by simp) rfl (by simp) ?_);rintro⟨i,c⟩ hx N2 Q2 hN2 hQ2;simp only at hx hN2
  rcases hx with⟨rfl,rfl⟩ | ⟨rfl,rfl⟩ | ⟨rfl,rfl⟩
  ·by_cases h0:a=[]
   ·refine wx ?_;simp -implicitDefEqProofs -dsimp[h0,w11];refine hN2 (1,a) _ _ (.inr (.inl ⟨rfl,rfl⟩)) (by simp) (by simp[h0,w11]) ⟨[],by simp[h0]⟩ (by simp) (by simp)
   ·refine wx ?_;simp -implicitDefEqProofs -dsimp[h0,w11,show a.length≤9223372036854775807 by omega,show a.length*16≤140737488355328 by omega];refine hN2 (1,a) _ _ (.inr (.inl ⟨rfl,rfl⟩)) (by simp) (by simp[w11]) ⟨[],by simp⟩ (by simp) (by simp)
  ·by_cases h0:b=[]
   ·refine wx ?_;simp -implicitDefEqProofs -dsimp[h0,w12];refine hN2 (2,c++b) _ _ (.inr (.inr ⟨rfl,rfl⟩)) (by simp) (by simp[h0,w12]) ⟨[],by simp[h0]⟩ (by simp) (by simp)
   ·refine wx ?_;simp -implicitDefEqProofs -dsimp[h0,w12,cap16b c.length b.length (by omega)];refine hN2 (2,c++b) _ _ (.inr (.inr ⟨rfl,rfl⟩)) (by simp) (by simp[w12]) ⟨[],by simp⟩ (by simp) (by simp)
  ·refine wx ?_;simp -implicitDefEqProofs -dsimp[];refine hQ2 _ _ _ ?_;simp -implicitDefEqProofs -dsimp[];rw[show LC false (a++b)= .lst 2 false (a.map aO++b.map aO) by simp[LC]];refine dr rfl (by simp) ?_;simp only[List.mem_append,List.mem_map];rintro x (⟨c,_,rfl⟩ | ⟨c,_,rfl⟩)<;>exact encCr_pure c
theorem pure_crs(l:List Cr):∀x∈l.map aO,AM.Pure x:=fun x hx=>by
 obtain⟨c,_,rfl⟩:=List.mem_map.1 hx;exact encCr_pure c
theorem nX(l:List Cr)(i:Nat):l.take i++l.drop (i+1)=l.eraseIdx i:=(List.eraseIdx_eq_take_drop_succ l i).symm
theorem less_u(l:List Cr)(i:Nat)(f:Bool)(hl:l.length≤1000000)(hi:i<l.length):aS Tryz.prog 82 [LC f l,.int .i64 i] fun r=>r=LC false (l.eraseIdx i):=by
 have c1:=concat2 (l.take i) (l.drop (i+1)) (f&&i == l.length) f (by simp;omega) (by simp;omega) (by simp;omega);rw[nX]at c1;simp only[LC,List.map_take,List.map_drop]at c1
 have hi1:i≤l.length:=by omega
 have hi2:i+1≤l.length:=by omega
 have htl:(List.map aO l).take l.length=List.map aO l:=by rw[←List.length_map (f:=aO)];exact List.take_length
 refine aC (aD tok Tryz.func82 rfl rfl ?_);refine wx ?_;simp -implicitDefEqProofs -dsimp[Tryz.f82,List.replicate,LC,hi1,hi2,htl,aM i (by omega),show(0:Int)≤(i:Int)+1 by omega];refine .inr ⟨aJ (by kernel_rfl),?_⟩
 refine aj _ (aG c1 (by
  simp
  exact⟨fun x hx=>pure_crs l x (List.mem_of_mem_take hx),fun x hx=>pure_crs l x (List.mem_of_mem_drop hx)⟩)) ?_
 simp -implicitDefEqProofs -dsimp[];rfl
open Classical in
noncomputable def fB(t:Tb)(fds:List Fd)(f:Bool)(l:List Cr)(i:Nat):Bool×List Cr :=
 if h:i<l.length then(if na t fds (l.eraseIdx i)=true then fB t fds false (l.eraseIdx i) i else fB t fds f l (i+1)) else(f,l)
termination_by 2*l.length-i
decreasing_by
 ·rw[List.length_eraseIdx_of_lt h];omega
 ·omega
theorem coreG_ok{t:Tb}{fds:List Fd}{fixed:List Cr}(f:Bool)(l:List Cr)(i:Nat)(h:CoreSt t fds fixed l i):IsCoreP t fds (fB t fds f l i).2∧(∀c∈(fB t fds f l i).2,c∈fixed)∧aZ (fB t fds f l i).2:=by
 fun_induction fB t fds f l i with
 | case1 f l i h1 h2 ih=>exact ih (h.drop h1 (pB.1 h2))
 | case2 f l i h1 h2 ih=>exact ih (h.keep h1 (fun hn=>h2 (pB.2 hn)))
 | case3 f l i h1 =>
  have:i=l.length:=by have:=h.le;omega
  subst this;exact⟨h.done,h.sub,h.sorted⟩
theorem core_u(t:Tb)(ff gg df cf:Bool)(fds:List Fd)(l0:List Cr)(hv:TbV t)(hF:bo fds)(hs:aZ l0)(hl:l0.length≤1000000):
  aS Tryz.prog 49 [aF ff gg t,LF df fds,LC cf l0] fun r=>r=LC (fB t fds cf l0 0).1 (fB t fds cf l0 0).2:=by
 obtain⟨E,hE⟩:∃E,E=fB t fds cf l0 0:=⟨_,rfl⟩;rw[←hE];refine aC (aD tok Tryz.func49 rfl rfl ?_);refine wx ?_;simp -implicitDefEqProofs -dsimp[Tryz.f49,List.replicate,aF,LS,LR,LC,LF];refine aK (W_loopM 23 [2,7,8,9,10,11,12,13,14,15,16,17,18,19,20,21,22] (by simp[mB]<;>rfl) (σ:=Bool×List Cr×Nat) (fun p=>p.2.1.length≤1000000∧aZ p.2.1∧fB t fds p.1 p.2.1 p.2.2=E∧p.2.2≤p.2.1.length) (fun p=>2*p.2.1.length-p.2.2) (fun p=>[(2,.lst 2 p.1 (p.2.1.map aO)),(7,.int .i64 p.2.2)]) (fun _=>[B.cells [.str t.name,.lst 1 ff (t.attrs.map V.str),.lst 2 gg (t.rows.map aN)]]) (cf,l0,0) ⟨hl,hs,hE.symm,by simp⟩ (by simp) (by simp) (by simp) ?_);rintro⟨f,l,i⟩ ⟨hl,hs,hx,hi⟩ N Q hN hQ;simp only at hl hs hx hi hN;by_cases hb:i<l.length
 ·have c1:=less_u l i f hl hb;have c2:=nL t ff gg df false fds (l.eraseIdx i) hv hF (iX hs) (by rw[List.length_eraseIdx_of_lt hb];omega);obtain⟨l',hl'⟩:∃l',l'=l.eraseIdx i:=⟨_,rfl⟩
  have hlen:l'.length=l.length-1:=by rw[hl',List.length_eraseIdx_of_lt hb]
  have hs':aZ l':=hl'▸iX hs;rw[fB,dif_pos hb,←hl']at hx;rw[←hl']at c1 c2;simp only[aF,LS,LR,LC,LF]at c1 c2
  cases hq:na t fds l' with
  | true =>
   rw[hq]at c2;rw[if_pos hq]at hx;refine wx ?_;simp -implicitDefEqProofs -dsimp[hb];refine(aG (c1) (by simp)).mono ?_;rintro r H' ⟨rfl,rfl⟩;simp -implicitDefEqProofs -dsimp[];refine(aG (c2) (by simp)).mono ?_;rintro r H' ⟨rfl,rfl⟩;simp -implicitDefEqProofs -dsimp[];refine hN (false,l',i) _ _ ⟨by simp only;omega,hs',hx,by simp only;omega⟩ (by simp only;omega) (by simp) ⟨[],by simp⟩ (by simp[encF_pure]) (by simp)
  | false =>
   rw[hq]at c2;rw[if_neg (by rw[hq];simp)]at hx;refine wx ?_;simp -implicitDefEqProofs -dsimp[hb];refine(aG (c1) (by simp)).mono ?_;rintro r H' ⟨rfl,rfl⟩;simp -implicitDefEqProofs -dsimp[];refine(aG (c2) (by simp)).mono ?_;rintro r H' ⟨rfl,rfl⟩;simp -implicitDefEqProofs -dsimp[aM i (by omega)];refine hN (f,l,i+1) _ _ ⟨hl,hs,hx,by simp only;omega⟩ (by simp only;omega) (by simp) ⟨[],by simp⟩ (by simp) (by simp)
 ·rw[fB,dif_neg hb]at hx;subst hx;refine wx ?_;simp -implicitDefEqProofs -dsimp[hb];refine hQ _ _ _ ?_;simp -implicitDefEqProofs -dsimp[];rfl
end
end
end Go.Proofs.YteijbpppalhihaaGreat
namespace Go.Proofs.YteijbpppalhihaaGreat
section
open Go Go.AM
theorem sub_full(a n:Nat):decide (a &&& dg n=a)=decide (a<2^n):=by
 rw[Bool.eq_iff_iff,decide_eq_true_iff,decide_eq_true_iff];constructor
 ·intro h;rw[←h];exact Nat.lt_of_le_of_lt Nat.and_le_right (jU n)
 ·intro h
  refine Nat.eq_of_testBit_eq fun i=>?_
  rw[Nat.testBit_and,fullN_bit];by_cases hi:i<n
  ·simp[hi]
  ·have:a.testBit i=false:=Nat.testBit_lt_two_pow (Nat.lt_of_lt_of_le h (Nat.pow_le_pow_right (by omega) (by omega)));simp[this]
theorem valid09(n:Nat)(fds:List Fd)(f:Bool)(hn:n≤16)(hF:bo fds):aS Tryz.prog 85 [.int .i64 n,LF f fds] fun r=>r = .int .i64 (cC n fds):=by
 obtain⟨hF1,hF2⟩:=hF
 have hn1:¬(16:Int)<n:=by omega
 have hn0:¬(n:Int)<0:=by omega
 have hfl:=lX n (by omega);unfold cC;by_cases h64:64<fds.length
 ·rw[if_pos h64];refine aC (aD tok Tryz.func85 rfl rfl ?_);refine wx ?_;simp -implicitDefEqProofs -dsimp[Tryz.f85,List.replicate,LF,hn0,hn1,show(64:Int)<fds.length by omega]
 ·rw[if_neg h64]
  obtain⟨E,hE⟩:∃E:Int,E=if fds.all (lh n) then 0 else 1:=⟨_,rfl⟩
  rw[←hE];have cf:=full02 n (by omega);refine aC (aD tok Tryz.func85 rfl rfl ?_);refine wx ?_;simp -implicitDefEqProofs -dsimp[Tryz.f85,List.replicate,LF,hn0,hn1,show ¬(64:Int)<fds.length by omega];refine(aG (cf) (by simp)).mono ?_;rintro r H' ⟨rfl,rfl⟩;simp -implicitDefEqProofs -dsimp[];refine aK (W_loopM 42 [4,6,18,19,20,21,22,23,24,25,26,27,28,29,30,31,32,33,34,35,36,37,38,39,40,41] (by simp[mB]<;>rfl) (σ:=Nat) (fun i=>i≤fds.length∧(if(fds.drop i).all (lh n) then(0:Int) else 1)=E) (fun i=>fds.length-i) (fun i=>[(6,.int .i64 i)]) (fun _=>[]) 0 ⟨by omega,by rw[hE,List.drop_zero]⟩ (by simp) rfl (by simp) ?_);rintro i ⟨hi,hx⟩ N Q hN hQ;by_cases hb:i<fds.length
  ·rw[List.drop_eq_getElem_cons hb,List.all_cons]at hx;obtain⟨h1,h2⟩:=hF2 fds[i] (List.getElem_mem hb);have d1:=sub02 fds[i].l (dg n) h1 hfl;have d2:=sub02 fds[i].r (dg n) h2 hfl;rw[sub_full]at d1 d2
   cases q1:decide (fds[i].l<2^n) with
   | false =>
    rw[q1]at d1;rw[show lh n fds[i]=false by unfold lh;rw[q1];rfl,Bool.false_and,if_neg (by simp)]at hx;refine wx ?_;simp -implicitDefEqProofs -dsimp[hb,eP];refine(aG (d1) (by simp)).mono ?_;rintro r H' ⟨rfl,rfl⟩;simp -implicitDefEqProofs -dsimp[];refine hQ _ _ _ ?_;simp -implicitDefEqProofs -dsimp[];exact hx
   | true =>
    rw[q1]at d1
    cases q2:decide (fds[i].r<2^n) with
    | false =>
     rw[q2]at d2;rw[show lh n fds[i]=false by unfold lh;rw[q1,q2];rfl,Bool.false_and,if_neg (by simp)]at hx;refine wx ?_;simp -implicitDefEqProofs -dsimp[hb,eP];refine(aG (d1) (by simp)).mono ?_;rintro r H' ⟨rfl,rfl⟩;simp -implicitDefEqProofs -dsimp[hb,eP];refine(aG (d2) (by simp)).mono ?_;rintro r H' ⟨rfl,rfl⟩;simp -implicitDefEqProofs -dsimp[];refine hQ _ _ _ ?_;simp -implicitDefEqProofs -dsimp[];exact hx
    | true =>
     rw[q2]at d2;rw[show lh n fds[i]=true by unfold lh;rw[q1,q2];rfl,Bool.true_and]at hx;refine wx ?_;simp -implicitDefEqProofs -dsimp[hb,eP];refine(aG (d1) (by simp)).mono ?_;rintro r H' ⟨rfl,rfl⟩;simp -implicitDefEqProofs -dsimp[hb,eP];refine(aG (d2) (by simp)).mono ?_;rintro r H' ⟨rfl,rfl⟩;simp -implicitDefEqProofs -dsimp[aM i (by omega)];refine hN (i+1) _ _ ⟨by omega,hx⟩ (by omega) ?_ ⟨[],?_⟩ ?_ ?_<;>simp[or_imp,forall_and,L1,ac,LF]
  ·rw[List.drop_of_length_le (by omega)]at hx;refine wx ?_;simp -implicitDefEqProofs -dsimp[hb];refine hQ _ _ _ ?_;simp -implicitDefEqProofs -dsimp[];simpa using hx
def ltC(a b:Cr):Bool:=decide (a.id<b.id∨(a.id=b.id∧a.attr<b.attr))
theorem ltC_iff{a b:Cr} : ltC a b=true↔cLt a b:=by unfold ltC cLt;simp
theorem before_r(a b:Cr):aS Tryz.prog 83 [aO a,aO b] fun r=>r = .bool (ltC a b):=by
 unfold ltC;by_cases h1:a.id<b.id
 ·rw[decide_eq_true (.inl h1)];refine aC (aD tok Tryz.func83 rfl rfl ?_);refine wx ?_;simp -implicitDefEqProofs -dsimp[Tryz.f83,List.replicate,aO,h1]
 ·by_cases h2:a.id=b.id
  ·by_cases h3:a.attr<b.attr
   ·rw[decide_eq_true (.inr ⟨h2,h3⟩)];refine aC (aD tok Tryz.func83 rfl rfl ?_);refine wx ?_;simp -implicitDefEqProofs -dsimp[Tryz.f83,List.replicate,aO,h1,h2,h3]
   ·rw[decide_eq_false (by omega)];refine aC (aD tok Tryz.func83 rfl rfl ?_);refine wx ?_;simp -implicitDefEqProofs -dsimp[Tryz.f83,List.replicate,aO,h1,h2,h3]
  ·rw[decide_eq_false (by omega)];refine aC (aD tok Tryz.func83 rfl rfl ?_);refine wx ?_;simp -implicitDefEqProofs -dsimp[Tryz.f83,List.replicate,aO,h1,h2]
noncomputable def jf(t:Tb)(fds:List Fd):Int:=open Classical in if validT t≠0 then validT t else if cC t.attrs.length fds≠0 then cC t.attrs.length fds else if 60<t.rows.length*t.attrs.length then 3 else 0
noncomputable def pJ(t:Tb)(cells:List Cr):Int:=open Classical in if ¬aZ cells then 1 else if cells.all (dm t) then 0 else 4
theorem chkE_eq(t:Tb)(fds:List Fd)(cells:List Cr):dl t fds cells=if jf t fds=0 then pJ t cells else jf t fds:=by
 unfold dl jf pJ;by_cases h1:validT t=0
 ·rw[if_neg (show ¬validT t≠0 by simp[h1]),if_neg (show ¬validT t≠0 by simp[h1])];by_cases h2:cC t.attrs.length fds=0
  ·rw[if_neg (show ¬cC t.attrs.length fds≠0 by simp[h2]),if_neg (show ¬cC t.attrs.length fds≠0 by simp[h2])];by_cases h3:60<t.rows.length*t.attrs.length
   ·rw[if_pos h3,if_pos h3,if_neg (by omega)]
   ·rw[if_neg h3,if_neg h3,if_pos rfl]
  ·rw[if_pos h2,if_pos h2,if_neg h2]
 ·rw[if_pos h1,if_pos h1,if_neg h1]
theorem chkE_nil(t:Tb)(fds:List Fd):dl t fds []=jf t fds:=by
 rw[chkE_eq];split
 ·rename_i h;rw[h];unfold pJ;rw[if_neg (by simp[aZ]),if_pos (by simp)]
 ·rfl
theorem base_r(t:Tb)(ff gg df:Bool)(fds:List Fd)(ht:TbOk t)(hF:bo fds):aS Tryz.prog 37 [aF ff gg t,LF df fds] fun r=>r = .int .i64 (jf t fds):=by
 have c1:=valid03 t ff gg ht;simp only[aF,LS,LR]at c1;unfold jf;by_cases h1:validT t=0
 ·have hv:=iU ht h1;rw[h1]at c1;rw[if_neg (show ¬validT t≠0 by simp[h1])];have c2:=valid09 t.attrs.length fds df hv.attrs hF;by_cases h2:cC t.attrs.length fds=0
  ·rw[h2]at c2;rw[if_neg (show ¬cC t.attrs.length fds≠0 by simp[h2])];have hmn:=Nat.mul_le_mul hv.rows hv.attrs
   have hw:IntKind.i64.wrap ((t.rows.length:Int)*(t.attrs.length:Int))=((t.rows.length*t.attrs.length:Nat):Int):=by rw[wrap64 (by rw[←Int.natCast_mul];omega) (by rw[←Int.natCast_mul];omega)];push_cast;rfl
   obtain⟨mn,hmn'⟩:∃mn,mn=t.rows.length*t.attrs.length:=⟨_,rfl⟩;rw[←hmn']at hw ⊢;by_cases h3:60<mn
   ·rw[if_pos h3];refine aC (aD tok Tryz.func37 rfl rfl ?_);refine wx ?_;simp -implicitDefEqProofs -dsimp[Tryz.f37,List.replicate,aF,LS,LR];refine(aG (c1) (by simp)).mono ?_;rintro r H' ⟨rfl,rfl⟩;simp -implicitDefEqProofs -dsimp[];refine(aG (c2) (by simp)).mono ?_;rintro r H' ⟨rfl,rfl⟩;simp -implicitDefEqProofs -dsimp[hw,show(60:Int)<mn by omega]
   ·rw[if_neg h3];refine aC (aD tok Tryz.func37 rfl rfl ?_);refine wx ?_;simp -implicitDefEqProofs -dsimp[Tryz.f37,List.replicate,aF,LS,LR];refine(aG (c1) (by simp)).mono ?_;rintro r H' ⟨rfl,rfl⟩;simp -implicitDefEqProofs -dsimp[];refine(aG (c2) (by simp)).mono ?_;rintro r H' ⟨rfl,rfl⟩;simp -implicitDefEqProofs -dsimp[hw,show ¬(60:Int)<mn by omega]
  ·rw[if_pos h2];refine aC (aD tok Tryz.func37 rfl rfl ?_);refine wx ?_;simp -implicitDefEqProofs -dsimp[Tryz.f37,List.replicate,aF,LS,LR];refine(aG (c1) (by simp)).mono ?_;rintro r H' ⟨rfl,rfl⟩;simp -implicitDefEqProofs -dsimp[];refine(aG (c2) (by simp)).mono ?_;rintro r H' ⟨rfl,rfl⟩;simp -implicitDefEqProofs -dsimp[h2]
 ·rw[if_pos h1];refine aC (aD tok Tryz.func37 rfl rfl ?_);refine wx ?_;simp -implicitDefEqProofs -dsimp[Tryz.f37,List.replicate,aF,LS,LR];refine(aG (c1) (by simp)).mono ?_;rintro r H' ⟨rfl,rfl⟩;simp -implicitDefEqProofs -dsimp[h1]
theorem error_r(t:Tb)(ff gg df cf:Bool)(fds:List Fd)(l:List Cr)(ht:TbOk t)(hF:bo fds)(hl:l.length≤1000000):aS Tryz.prog 36 [aF ff gg t,LF df fds,LC cf l] fun r=>r = .int .i64 (dl t fds l):=by
 have c1:=base_r t ff gg df fds ht hF;simp only[aF,LS,LR]at c1;rw[chkE_eq];by_cases h0:jf t fds=0
 ·rw[if_pos h0];rw[h0]at c1
  have hv:TbV t:=iU ht (by
   unfold jf at h0;by_cases h1:validT t=0
   ·exact h1
   ·rw[if_pos h1]at h0;exact h0)
  obtain⟨E,hE⟩:∃E,E=pJ t l:=⟨_,rfl⟩;rw[←hE];refine aC (aD tok Tryz.func36 rfl rfl ?_);refine wx ?_;simp -implicitDefEqProofs -dsimp[Tryz.f36,List.replicate,aF,LS,LR,LC];refine(aG (c1) (by simp)).mono ?_;rintro r H' ⟨rfl,rfl⟩;simp -implicitDefEqProofs -dsimp[];refine aK (W_loopM 34 [6,8,17,18,19,20,21,22,23,24,25,26,27,28,29,30,31,32,33] (by simp[mB]<;>rfl) (σ:=Nat) (fun i=>1≤i∧∀j (h:j+1<l.length),j+1<i→cLt l[j] l[j+1]) (fun i=>l.length-i) (fun i=>[(8,.int .i64 i)]) (fun _=>[B.cells [.str t.name,.lst 1 ff (t.attrs.map V.str),.lst 2 gg (t.rows.map aN)]]) 1 ⟨by omega,fun j _ h=>by omega⟩ (by simp) (by simp) (by simp) ?_);rintro i ⟨hi,hx⟩ N Q hN hQ;by_cases hb:i<l.length
  ·obtain⟨k,hki⟩:∃k,i=k+1:=⟨i-1,by omega⟩
   have hk:k<l.length:=by omega
   have hc:=before_r l[k] l[i]
   have hw:IntKind.i64.wrap ((i:Int)-1)=(k:Int):=by rw[wrapP i (by omega) hi];omega
   simp only[aO]at hc
   cases hq:ltC l[k] l[i] with
   | true =>
    rw[hq]at hc;have hlt:=ltC_iff.1 hq;refine wx ?_;simp -implicitDefEqProofs -dsimp[hb,hw,hk,aO];refine .inr ⟨aJ (by kernel_rfl),?_⟩;refine aj _ (aG (hc) (by simp)) ?_;simp -implicitDefEqProofs -dsimp[aM i (by omega)];refine hN (i+1) _ _ ⟨by omega,fun j h hj=>?_⟩ (by omega) (by simp) ⟨[],by simp⟩ (by simp[LF]) (by simp)
    rcases Nat.lt_or_ge j k with h1 | h1
    ·exact hx j h (by omega)
    ·have:j=k:=by omega
     subst this;subst hki;exact hlt
   | false =>
    rw[hq]at hc
    have hno:¬aZ l:=fun hs=>by
     subst hki;have:=du hs hk hb (by omega);rw[ltC_iff.2 this]at hq;cases hq
    have hE1:(1:Int)=E:=by rw[hE];unfold pJ;rw[if_pos hno]
    refine wx ?_;simp -implicitDefEqProofs -dsimp[hb,hw,hk,aO];refine .inr ⟨aJ (by kernel_rfl),?_⟩;refine aj _ (aG (hc) (by simp)) ?_;simp -implicitDefEqProofs -dsimp[];refine hQ _ _ _ ?_;simp -implicitDefEqProofs -dsimp[];exact hE1
  ·have hs:aZ l:=jA fun j h=>hx j h (by omega)
   have hE3:pJ t l=if l.all (dm t) then(0:Int) else 4:=by unfold pJ;rw[if_neg (by simp[hs])]
   have hE2:(if l.all (dm t) then(0:Int) else 4)=E:=by rw[hE,hE3]
   have c2:=dR t ff gg hv.rows (by have:=hv.attrs;omega);simp only[aF,LS,LR,LC]at c2
   have hcl:(aa t).length≤1000000:=by rw[dM];exact fg hv
   refine wx ?_;simp -implicitDefEqProofs -dsimp[hb];refine hQ _ _ _ ?_;simp -implicitDefEqProofs -dsimp[];refine(aG (c2) (by simp)).mono ?_;rintro r H' ⟨rfl,rfl⟩;simp -implicitDefEqProofs -dsimp[];refine aK (W_loopM 49 [6,10,36,37,38,39,40,41,42,43,44,45,46,47,48] (by simp[mB]<;>rfl) (σ:=Nat) (fun i=>i≤l.length∧(if(l.drop i).all (dm t) then(0:Int) else 4)=E) (fun i=>l.length-i) (fun i=>[(10,.int .i64 i)]) (fun _=>[B.cells [.str t.name,.lst 1 ff (t.attrs.map V.str),.lst 2 gg (t.rows.map aN)]]) 0 ⟨by omega,by rw[List.drop_zero];exact hE2⟩ (by simp) (by simp) (by simp) ?_);rintro i ⟨hi,hx⟩ N Q hN hQ;by_cases hb:i<l.length
   ·rw[List.drop_eq_getElem_cons hb,List.all_cons]at hx;obtain⟨c,hc⟩:∃c,c=l[i]:=⟨_,rfl⟩;rw[←hc]at hx;have hc':=hc.symm;have c3:=pQ (aa t) c false hcl;simp only[LC,aO]at c3
    have he:dD (aa t) c=dm t c:=by rw[Bool.eq_iff_iff,bd,mK hv]
    rw[he]at c3
    cases hq:dm t c with
    | true =>
     rw[hq]at c3;rw[hq,Bool.true_and]at hx;refine wx ?_;simp -implicitDefEqProofs -dsimp[hb,hc',aO];refine(aG (c3) (by simp)).mono ?_;rintro r H' ⟨rfl,rfl⟩;simp -implicitDefEqProofs -dsimp[aM i (by omega)];refine hN (i+1) _ _ ⟨by omega,hx⟩ (by omega) (by simp) ⟨[],by simp⟩ (by simp[LF]) (by simp)
    | false =>
     rw[hq]at c3;rw[hq,Bool.false_and,if_neg (by simp)]at hx;refine wx ?_;simp -implicitDefEqProofs -dsimp[hb,hc',aO];refine(aG (c3) (by simp)).mono ?_;rintro r H' ⟨rfl,rfl⟩;simp -implicitDefEqProofs -dsimp[];refine hQ _ _ _ ?_;simp -implicitDefEqProofs -dsimp[];exact hx
   ·rw[List.drop_of_length_le (by omega)]at hx;refine wx ?_;simp -implicitDefEqProofs -dsimp[hb];refine hQ _ _ _ ?_;simp -implicitDefEqProofs -dsimp[];simpa using hx
 ·rw[if_neg h0];refine aC (aD tok Tryz.func36 rfl rfl ?_);refine wx ?_;simp -implicitDefEqProofs -dsimp[Tryz.f36,List.replicate,aF,LS,LR,LC];refine(aG (c1) (by simp)).mono ?_;rintro r H' ⟨rfl,rfl⟩;simp -implicitDefEqProofs -dsimp[h0]
theorem check_nil(t:Tb)(ff gg df:Bool)(fds:List Fd)(ht:TbOk t)(hF:bo fds):aS Tryz.prog 43 [aF ff gg t,LF df fds,.nilS] fun r=>r = .int .i64 (jf t fds):=by
 have c1:=oH t ff gg df false fds [] ht hF (by simp);rw[chkE_nil]at c1;refine mr c1 rfl (fun i a b ha hb=>?_)
 match i with
 | 0=>simp at ha hb;subst ha;subst hb;exact .refl _
 | 1=>simp at ha hb;subst ha;subst hb;exact .refl _
 | 2=>simp at ha hb;subst ha;subst hb;exact .nil _ _
 | k+3=>simp at ha
end
end Go.Proofs.YteijbpppalhihaaGreat
