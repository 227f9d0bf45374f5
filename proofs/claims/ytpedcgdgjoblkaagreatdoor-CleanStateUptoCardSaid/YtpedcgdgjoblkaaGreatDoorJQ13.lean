/- JQ13: own texts of this seat, joined and shortened by pack4.py: T7, T8, T9, T10, G1, Rc, Rd, Wd, T11, RO, RQ, Rl, T12. -/
import Derived.Test.YtpedcgdgjoblkaaGreatDoorJQ10
set_option linter.unusedVariables false
set_option linter.unusedSimpArgs false
set_option maxRecDepth 100000
set_option maxHeartbeats 64000000
open Bool renaming false_and→fb,true_and→fk,and_false→pQ,and_true→pr
open ByteArray renaming empty→br
open Int renaming tmod_lt_of_pos→gB,tmod_nonneg→hX
open List renaming replicate→ba,mem_of_getElem?→bv,getElem?_eq_getElem→ca,range→ce,getElem_mem→cm,drop_eq_getElem_cons→cw,not_mem_nil→dk,drop_of_length_le→ea,mem_cons→ed,take_succ_eq_append_getElem→fp,mem_of_mem_take→kR,take_of_length_le→lm,range_succ→nd,length_map→ov,take_length→oz,mem_singleton→pT,length_take→pW
open Nat renaming le_trans→kT,mod_eq_of_lt→pX,min_eq_left→pl
namespace Go.Proofs.YtpedcgdgjoblkaaGreatDoor
section
open Go Go.AM
theorem fh(x y:Int):aE Tryz.prog 78 [.int .i64 x,.int .i64 y] fun r=>r = .int .i64 (dH x y):=by
 refine sPx Tryz.func78 rfl rfl ?_;simp -dsimp[Tryz.f78,ba];unfold dH;split
 ·rfl
 ·split<;>rfl
theorem cmpS_drop(a b:ByteArray)(i:Nat)(ha:i<a.size)(hb:i<b.size):Lib.compareBytes (a.data.toList.drop i) (b.data.toList.drop i)=if a[i]<b[i] then -1 else if b[i]<a[i] then 1 else Lib.compareBytes (a.data.toList.drop (i+1)) (b.data.toList.drop (i+1)):=by
 have h1:i<a.data.toList.length:=by rw[eH];exact ha
 have h2:i<b.data.toList.length:=by rw[eH];exact hb
 rw[cw h1,cw h2,Lib.compareBytes];rfl
theorem cmpS_end(a b:ByteArray)(i:Nat)(hi:i≤a.size)(hj:i≤b.size)(h:¬(i<a.size∧i<b.size)):Lib.compareBytes (a.data.toList.drop i) (b.data.toList.drop i)=dH a.size b.size:=by
 have l1:=eH a;have l2:=eH b;by_cases h1:i<a.size
 ·have h2:i=b.size:=by omega
  have h3:i<a.data.toList.length:=by omega
  rw[cw h3,ea (l:=b.data.toList) (by omega),Lib.compareBytes];unfold dH;rw[if_neg (by omega),if_pos (by omega)]
 ·rw[ea (l:=a.data.toList) (by omega)];by_cases h2:i<b.size
  ·have h3:i<b.data.toList.length:=by omega
   rw[cw h3,Lib.compareBytes];unfold dH;rw[if_pos (by omega)]
  ·rw[ea (l:=b.data.toList) (by omega),Lib.compareBytes];unfold dH;rw[if_neg (by omega),if_neg (by omega)]
theorem strings01(a b:ByteArray)(ha:a.size≤maxLen):aE Tryz.prog 79 [.str a,.str b] fun r=>r = .int .i64 (cmpS a b):=by
 refine sPx Tryz.func79 rfl rfl ?_;simp -dsimp[Tryz.f79,ba];refine aR (W_loopM 34 0x3fffffff0 (by simp[mB]<;>rfl) (σ:=Nat) (fun i=>i≤a.size∧i≤b.size∧Lib.compareBytes (a.data.toList.drop i) (b.data.toList.drop i)=cmpS a b) (fun i=>a.size-i) (fun i=>[(5,.int .i64 i)]) (fun _=>[]) 0 ⟨by omega,by omega,rfl⟩ (by simp) rfl (by simp) ?_);rintro i ⟨hi,hj,hx⟩ N Q hN hQ;by_cases h:i<a.size∧i<b.size
 ·obtain⟨h1,h2⟩:=h;rw[cmpS_drop a b i h1 h2]at hx;obtain⟨x1,x2⟩:=ci h1;obtain⟨y1,y2⟩:=ci h2;by_cases hq:aj a i=aj b i
  ·have e1:¬a[i]<b[i]:=fun h=>by have:=UInt8.lt_iff_toNat_lt.1 h;omega
   have e2:¬b[i]<a[i]:=fun h=>by have:=UInt8.lt_iff_toNat_lt.1 h;omega
   rw[if_neg e1,if_neg e2]at hx;refine wx ?_;simp -dsimp[h1,h2,x1,y1,x2,y2,hq];refine .inr ⟨bN (by kernel_rfl),?_⟩;simp -dsimp[aa i (by unfold maxLen at ha;omega)];refine hN (i+1) _ _ ⟨by omega,by omega,hx⟩ (by omega) ?_ ⟨[],?_⟩ ?_ ?_<;>simp[or_imp,forall_and,L1,au]
  ·have hs:dH (aj a i) (aj b i)=cmpS a b:=by
    rw[←hx,←x2,←y2];unfold dH;by_cases e1:a[i]<b[i]
    ·have e1':(a[i].toNat:Int)<b[i].toNat:=by have:=UInt8.lt_iff_toNat_lt.1 e1;omega
     rw[if_pos e1,if_pos e1']
    ·have e1':¬((a[i].toNat:Int)<b[i].toNat):=fun h=>e1 (UInt8.lt_iff_toNat_lt.2 (by omega))
     have e2:b[i]<a[i]:=UInt8.lt_iff_toNat_lt.2 (by omega)
     have e2':(b[i].toNat:Int)<a[i].toNat:=by have:=UInt8.lt_iff_toNat_lt.1 e2;omega
     rw[if_neg e1,if_neg e1',if_pos e2,if_pos e2']
   have hw1:IntKind.i64.wrap (aj a i)=aj a i:=by rw[←x2];exact wrap64 (by omega) (by have:=UInt8.toNat_lt a[i];omega)
   have hw2:IntKind.i64.wrap (aj b i)=aj b i:=by rw[←y2];exact wrap64 (by omega) (by have:=UInt8.toNat_lt b[i];omega)
   have hc:=fh (aj a i) (aj b i);refine wx ?_;simp -dsimp[h1,h2,x1,y1,x2,y2,hq];refine .inr ⟨bN (by kernel_rfl),?_⟩;simp -dsimp[h1,h2,x1,y1,x2,y2,hw1,hw2];refine .inr ⟨bN (by kernel_rfl),?_⟩;refine ag _ (aW (hc) (by simp)) ?_;simp -dsimp[];refine hQ _ _ _ ?_;simp -dsimp[];exact hs
 ·rw[cmpS_end a b i hi hj h]at hx;have hc:=fh a.size b.size;by_cases h1:i<a.size
  ·have h2:¬i<b.size:=fun h2=>h ⟨h1,h2⟩
   refine wx ?_;simp -dsimp[h1,h2];refine hQ _ _ _ ?_;simp -dsimp[];refine cPx (hc) (by simp) ?_;simp -dsimp[];exact hx
  ·refine wx ?_;simp -dsimp[h1];refine hQ _ _ _ ?_;simp -dsimp[];refine cPx (hc) (by simp) ?_;simp -dsimp[];exact hx
def cmpV(a b:Vl):Int:=if dH a.k b.k=0 then(if dH a.n b.n=0 then cmpS a.s b.s else dH a.n b.n) else dH a.k b.k
theorem compare01(a b:Vl)(ha:a.s.size≤maxLen):aE Tryz.prog 41 [ac a,ac b] fun r=>r = .int .i64 (cmpV a b):=by
 have hc1:=fh a.k b.k;have hc2:=fh a.n b.n;have hc3:=strings01 a.s b.s ha;unfold cmpV;by_cases h1:dH a.k b.k=0
 ·by_cases h2:dH a.n b.n=0
  ·rw[if_pos h1,if_pos h2];refine sPx Tryz.func41 rfl rfl ?_;simp -dsimp[Tryz.f41,ba,ac];refine cPx (hc1) (by simp) ?_;simp -dsimp[h1];refine cPx (hc2) (by simp) ?_;simp -dsimp[h2];refine cPx (hc3) (by simp) ?_;simp -dsimp[]
  ·rw[if_pos h1,if_neg h2];refine sPx Tryz.func41 rfl rfl ?_;simp -dsimp[Tryz.f41,ba,ac];refine cPx (hc1) (by simp) ?_;simp -dsimp[h1];refine cPx (hc2) (by simp) ?_;simp -dsimp[h2]
 ·rw[if_neg h1];refine sPx Tryz.func41 rfl rfl ?_;simp -dsimp[Tryz.f41,ba,ac];refine cPx (hc1) (by simp) ?_;simp -dsimp[h1]
def oQ:List Vl→List Vl→Int
 | [],[]=>0
 | [],_::_=>-1
 | _::_,[]=>1
 | x::xs,y::ys=>if cmpV x y=0 then oQ xs ys else cmpV x y
theorem cmpVs_end(us bs:List Vl)(i:Nat)(h1:i≤us.length)(h2:i≤bs.length)(h:¬(i<us.length∧i<bs.length)):oQ (us.drop i) (bs.drop i)=dH us.length bs.length:=by
 unfold dH;by_cases ha:i<us.length
 ·rw[cw ha,ea (l:=bs) (by omega),oQ,if_neg (by omega),if_pos (by omega)]
 ·rw[ea (l:=us) (by omega)];by_cases hb:i<bs.length
  ·rw[cw hb,oQ,if_pos (by omega)]
  ·rw[ea (l:=bs) (by omega),oQ,if_neg (by omega),if_neg (by omega)]
theorem lists01(us bs:List Vl)(f g:Bool)(hl:us.length≤1000000)(hs:∀v∈us,v.s.size≤maxLen):aE Tryz.prog 68 [LV f us,LV g bs] fun r=>r = .int .i64 (oQ us bs):=by
 obtain⟨E,hE⟩:∃E,E=oQ us bs:=⟨_,rfl⟩;rw[←hE];refine sPx Tryz.func68 rfl rfl ?_;simp -dsimp[Tryz.f68,ba,LV];refine aR (W_loopM 31 0x7ffffff0 (by simp[mB]<;>rfl) (σ:=Nat) (fun i=>i≤us.length∧i≤bs.length∧oQ (us.drop i) (bs.drop i)=E) (fun i=>us.length-i) (fun i=>[(5,.int .i64 i)]) (fun _=>[]) 0 ⟨by omega,by omega,hE.symm⟩ (by simp) rfl (by simp) ?_);rintro i ⟨hi,hj,hx⟩ N Q hN hQ;by_cases h:i<us.length∧i<bs.length
 ·obtain⟨h1,h2⟩:=h;have hc:=compare01 us[i] bs[i] (hs _ (cm h1));simp only[ac]at hc;rw[cw h1,cw h2,oQ]at hx;by_cases h3:cmpV us[i] bs[i]=0
  ·rw[if_pos h3]at hx;refine wx ?_;simp -dsimp[h1,h2,ac];refine .inr ⟨bN (by kernel_rfl),?_⟩;refine ag _ (aW (hc) (by simp)) ?_;simp -dsimp[h3,aa i (by omega)];refine hN (i+1) _ _ ⟨by omega,by omega,hx⟩ (by omega) ?_ ⟨[],?_⟩ ?_ ?_<;>simp[or_imp,forall_and,L1,au]
  ·rw[if_neg h3]at hx;refine wx ?_;simp -dsimp[h1,h2,ac];refine .inr ⟨bN (by kernel_rfl),?_⟩;refine ag _ (aW (hc) (by simp)) ?_;simp -dsimp[h3];refine hQ _ _ _ ?_;simp -dsimp[];exact hx
 ·rw[cmpVs_end us bs i hi hj h]at hx;have hc:=fh us.length bs.length;by_cases h1:i<us.length
  ·have h2:¬i<bs.length:=fun h2=>h ⟨h1,h2⟩
   refine wx ?_;simp -dsimp[h1,h2];refine hQ _ _ _ ?_;simp -dsimp[];refine cPx (hc) (by simp) ?_;simp -dsimp[];exact hx
  ·refine wx ?_;simp -dsimp[h1];refine hQ _ _ _ ?_;simp -dsimp[];refine cPx (hc) (by simp) ?_;simp -dsimp[];exact hx
theorem same01(us bs:List Vl)(f g:Bool)(hl:us.length≤1000000)(hs:∀v∈us,v.s.size≤maxLen):aE Tryz.prog 33 [LV f us,LV g bs] fun r=>r = .bool (oQ us bs == 0):=by
 have hc:=lists01 us bs f g hl hs;refine sPx Tryz.func33 rfl rfl ?_;simp -dsimp[Tryz.f33,ba];refine cPx (hc) (by simp) ?_;simp -dsimp[]
end
end Go.Proofs.YtpedcgdgjoblkaaGreatDoor
section
namespace Go.Proofs.YtpedcgdgjoblkaaGreatDoor
open Go Go.AM
end Go.Proofs.YtpedcgdgjoblkaaGreatDoor
end
namespace Go.Proofs.YtpedcgdgjoblkaaGreatDoor
section
open Go Go.AM
theorem u32w(a:Nat)(h:a<4294967296):IntKind.u32.wrap (a:Int)=a:=by rw[IntKind.wrap_u32];omega
theorem modN(a:Nat)(h:a<4294967296):a % 2^IntKind.u32.bits=a:=pX h
theorem or32(a b:Nat)(ha:a<4294967296)(hb:b<4294967296):IntKind.u32.wrap ((a % 2^IntKind.u32.bits ||| b % 2^IntKind.u32.bits:Nat):Int)=((a ||| b:Nat):Int):=by
 rw[modN a ha,modN b hb];exact u32w _ (Nat.or_lt_two_pow (n:=32) ha hb)
theorem and32(a b:Nat)(ha:a<4294967296)(hb:b<4294967296):IntKind.u32.wrap ((a % 2^IntKind.u32.bits &&& b % 2^IntKind.u32.bits:Nat):Int)=((a &&& b:Nat):Int):=by
 rw[modN a ha,modN b hb];exact u32w _ (Nat.lt_of_le_of_lt Nat.and_le_left ha)
theorem shl32(i:Nat)(h:i<32):IntKind.u32.wrap (2^min i IntKind.u32.bits:Int)=((2^i:Nat):Int):=by
 have h1:min i IntKind.u32.bits=i:=pl (by show i≤32;omega);have h2:2^i<4294967296:=Nat.pow_lt_pow_right (by omega) h;rw[h1,←u32w _ h2];congr 1
def jE:Nat→Nat
 | 0=>0
 | i+1=>jE i ||| 2^i
theorem gJ:∀n,n≤32→jE n<4294967296
 | 0,_=>by simp[jE]
 | i+1,h=>Nat.or_lt_two_pow (n:=32) (gJ i (by omega)) (Nat.pow_lt_pow_right (by omega) (by omega))
theorem full02(n:Nat)(hn:n≤32):aE Tryz.prog 178 [.int .i64 n] fun r=>r = .int .u32 (jE n):=by
 refine sPx Tryz.func178 rfl rfl ?_;simp -dsimp[Tryz.f178,ba];refine aR (W_loopM 18 0x3fff8 (by simp[mB]<;>rfl) (σ:=Nat) (fun i=>i≤n) (fun i=>n-i) (fun i=>[(4,.int .i64 i),(3,.int .u32 (jE i))]) (fun _=>[]) 0 (by omega) (by simp[jE]) rfl (by simp) ?_);intro i hi N Q hN hQ;by_cases hb:i<n
 ·have h1:=shl32 i (by omega);have h2:=gJ i (by omega);have h3:2^i<4294967296:=Nat.pow_lt_pow_right (by omega) (show i<32 by omega)
  have hf:jE (i+1)=jE i ||| 2^i:=rfl
  obtain⟨p,hp⟩:∃p,p=2^i:=⟨_,rfl⟩;rw[←hp]at h1 h3 hf;have h4:=or32 (jE i) p h2 h3;rw[←hf]at h4;refine wx ?_;simp -dsimp[hb,show(i:Int)<32 by omega,aa i (by omega),h1,h4];refine hN (i+1) _ _ (by omega) (by omega) ?_ ⟨[],?_⟩ ?_ ?_<;>simp[or_imp,forall_and,L1,au]
 ·obtain rfl:i=n:=by omega
  refine wx ?_;simp -dsimp[hb];refine hQ _ _ _ ?_;simp -dsimp[]
structure Fd where
 l:Nat
 r:Nat
def encD(d:Fd):V:=.agg [.int .u8 (d.l:Int),.int .u8 (d.r:Int)]
def gR(d:Fd):V:=.agg [.int .u32 (d.l:Int),.int .u32 (d.r:Int)]
@[simp] theorem encD_pure (d:Fd):AM.Pure (encD d):=by simp[encD]
@[simp] theorem encF_pure (d:Fd):AM.Pure (gR d):=by simp[gR]
@[simp] theorem encF_oneV (d:Fd):cq (gR d)=true:=rfl
def LF(f:Bool)(ds:List Fd):V:=.lst 2 f (ds.map gR)
@[simp] theorem LF_pure (f:Bool) (ds:List Fd):AM.Pure (LF f ds):=by simp[LF]
def fdOf(n:Nat)(d:Fd):Fd:=⟨d.l &&& jE n,d.r &&& jE n⟩
def eY(n:Nat)(ds:List Fd)(i:Nat):List Fd:=(ds.take i).map (fdOf n)
theorem fdsTo_len(n:Nat)(ds:List Fd)(i:Nat)(h:i≤ds.length):(eY n ds i).length=i:=by simp[eY];omega
theorem fdsTo_succ(n:Nat)(ds:List Fd)(i:Nat)(h:i<ds.length):eY n ds (i+1)=eY n ds i++[fdOf n ds[i]]:=by
 unfold eY;rw[fp h,List.map_append];rfl
theorem cap8b(n:Nat)(h:n≤1000000000):n≤9223372036854775806∧(n+1)*8≤140737488355328:=by omega
theorem list09(n:Nat)(ds:List Fd)(f:Bool)(hn:n≤32)(hl:ds.length≤1000000)(hd:∀d∈ds,d.l<256∧d.r<256):aE Tryz.prog 127 [.int .i64 n,.lst 2 f (ds.map encD)] fun r=>r=LF false (ds.map (fdOf n)):=by
 have hF:=gJ n hn;have hc:=full02 n hn;refine sPx Tryz.func127 rfl rfl ?_;simp -dsimp[Tryz.f127,ba];refine cPx (hc) (by simp) ?_;simp -dsimp[];refine aR (W_own 88 2 [6] (by simp) (W_loopM 36 0xffffffcc0 (by simp[mB]<;>rfl) (σ:=Nat) (fun i=>i≤ds.length) (fun i=>ds.length-i) (fun i=>[(7,.int .i64 i),(6,.buf 0 0 i i)]) (fun i=>[B.buf 88 2 ((eY n ds i).map gR) false]) 0 (by omega) (by simp) (by simp[eY]) (by simp) ?_));intro i hi N Q hN hQ;have hli:=fdsTo_len n ds i hi;by_cases hb:i<ds.length
 ·obtain⟨h1,h2⟩:=hd ds[i] (cm hb);have hst:=fdsTo_succ n ds i hb;have e1:=and32 ds[i].l (jE n) (by omega) hF;have e2:=and32 ds[i].r (jE n) (by omega) hF;have w1:=u32w ds[i].l (by omega);have w2:=u32w ds[i].r (by omega);refine wx ?_;simp -dsimp[hb];refine aR (ao tok mixed [19] [] [] (by kernel_rfl) fun C K hC hK=>?_);simp -implicitDefEqProofs [hb,encD,w1,w2,e1,e2,cap8b i (by omega),hli];refine hK _ _ ?_;simp -dsimp[aa i (by omega)];refine hN (i+1) _ _ (by omega) (by omega) ?_ ⟨[],?_⟩ ?_ ?_<;>simp[or_imp,forall_and,L1,au,hst,gR,fdOf,encD]
 ·obtain rfl:i=ds.length:=by omega
  refine wx ?_;simp -dsimp[hb];refine hQ _ _ _ ?_;simp -dsimp[];rw[show LF false (ds.map (fdOf n))=LF false (eY n ds ds.length) by unfold eY;rw[oz]];exact lz rfl (by rw[ov];exact hli.symm) (by simp)
structure Tm where
 v:Int
 a:Int
 x:Vl
structure At where
 l:Tm
 op:Int
 r:Tm
structure Dn where
 vars:Int
 atoms:List At
structure Cl where
 any:Bool
 x:Vl
structure Cfd where
 l:List Int
 r:Int
 p:List Cl
structure Od where
 l:List Int
 r:List Int
def dt(t:Tm):V:=.agg [.int .i64 t.v,.int .i64 t.a,.int .i64 t.x.k,.int .i64 t.x.n,.str t.x.s]
def du(a:At):V:=.agg [.int .i64 a.l.v,.int .i64 a.l.a,.int .i64 a.l.x.k,.int .i64 a.l.x.n,.str a.l.x.s,.int .i64 a.op,.int .i64 a.r.v,.int .i64 a.r.a,.int .i64 a.r.x.k,.int .i64 a.r.x.n,.str a.r.x.s]
def dG(c:Cl):V:=.agg [.bool c.any,.int .i64 c.x.k,.int .i64 c.x.n,.str c.x.s]
@[simp] theorem encTm_pure (t:Tm):AM.Pure (dt t):=by simp[dt]
@[simp] theorem encAt_pure (a:At):AM.Pure (du a):=by simp[du]
@[simp] theorem encCl_pure (c:Cl):AM.Pure (dG c):=by simp[dG]
@[simp] theorem encAt_oneV (a:At):cq (du a)=true:=rfl
@[simp] theorem encCl_oneV (c:Cl):cq (dG c)=true:=rfl
def LA(f:Bool)(al:List At):V:=.lst 11 f (al.map du)
def LCl(f:Bool)(cs:List Cl):V:=.lst 4 f (cs.map dG)
@[simp] theorem LA_pure (f:Bool) (al:List At):AM.Pure (LA f al):=by simp[LA]
@[simp] theorem LCl_pure (f:Bool) (cs:List Cl):AM.Pure (LCl f cs):=by simp[LCl]
def encDn(f:Bool)(d:Dn):V:=.agg [.int .i64 d.vars,LA f d.atoms]
def gT(f g:Bool)(c:Cfd):V:=.agg [L1 f c.l,.int .i64 c.r,LCl g c.p]
def encOd(f g:Bool)(d:Od):V:=.agg [L1 f d.l,L1 g d.r]
@[simp] theorem encDn_pure (f:Bool) (d:Dn):AM.Pure (encDn f d):=by simp[encDn]
@[simp] theorem encCfd_pure (f g:Bool) (c:Cfd):AM.Pure (gT f g c):=by simp[gT]
@[simp] theorem encOd_pure (f g:Bool) (d:Od):AM.Pure (encOd f g d):=by simp[encOd]
structure Cn where
 name:ByteArray
 table:ByteArray
 kind:Int
 fd:Fd
 m1:Int
 m2:Int
 i1:ByteArray
 i2:List Int
 i3:ByteArray
 i4:List Int
 cfd:Cfd
 od:Od
 dn:Dn
def cE(c:Cn):V:=.agg [.str c.name,.str c.table,.int .i64 c.kind,.int .u32 (c.fd.l:Int),.int .u32 (c.fd.r:Int),.int .u32 c.m1,.int .u32 c.m2,.str c.i1,L1 false c.i2,.str c.i3,L1 false c.i4,L1 false c.cfd.l,.int .i64 c.cfd.r,LCl false c.cfd.p,L1 false c.od.l,L1 false c.od.r,.int .i64 c.dn.vars,LA false c.dn.atoms]
def LCn(f:Bool)(cs:List Cn):V:=.lst 18 f (cs.map cE)
@[simp] theorem encCn_pure (c:Cn):AM.Pure (cE c):=by simp[cE]
@[simp] theorem LCn_pure (f:Bool) (cs:List Cn):AM.Pure (LCn f cs):=by simp[LCn]
@[simp] theorem encCn_oneV (c:Cn):cq (cE c)=true:=by simp[cE,cq,L1,LCl,LA,V.one]
def zV:Vl:=⟨0,0,br⟩
structure Snt where
 lv:Int
 lc:Int
 op:Int
 rv:Int
 rc:Int
structure Rul where
 k:Int
 fd:Fd
 cl:Int
 cr:Int
 cs:List Int
 xs:List Int
 ys:List Int
 nv:Int
 sn:List Snt
def cP(s:Snt):V:=.agg [.int .u8 s.lv,.int .u8 s.lc,.int .u8 s.op,.int .u8 s.rv,.int .u8 s.rc]
def aq(r:Rul):V:=.agg [.int .u8 r.k,.int .u8 (r.fd.l:Int),.int .u8 (r.fd.r:Int),.int .u8 r.cl,.int .u8 r.cr,LU r.cs,LU r.xs,LU r.ys,.int .u8 r.nv,.lst 5 false (r.sn.map cP)]
@[simp] theorem encSnt_pure (s:Snt):AM.Pure (cP s):=by simp[cP]
@[simp] theorem encRul_pure (s:Rul):AM.Pure (aq s):=by simp[aq,LU,bp]
@[simp] theorem encRul_oneV (s:Rul):cq (aq s)=true:=by simp[aq,cq,LU,V.one]
structure SntOk (s:Snt):Prop where
 lv:0≤s.lv∧s.lv<256
 lc:0≤s.lc∧s.lc<256
 op:0≤s.op∧s.op<256
 rv:0≤s.rv∧s.rv<256
 rc:0≤s.rc∧s.rc<256
structure RulOk (r:Rul):Prop where
 k:0≤r.k∧r.k<256
 fd:r.fd.l<256∧r.fd.r<256
 cl:0≤r.cl∧r.cl<256
 cr:0≤r.cr∧r.cr<256
 cs:r.cs.length≤9223372036854775807
 csv:∀c∈r.cs,0≤c∧c<256
 xs:r.xs.length≤9223372036854775807
 xsv:∀c∈r.xs,0≤c∧c<256
 ys:r.ys.length≤9223372036854775807
 ysv:∀c∈r.ys,0≤c∧c<256
 nv:0≤r.nv∧r.nv<256
 sn:r.sn.length≤1048576
 snv:∀s∈r.sn,SntOk s
def cfL(s:Int)(b:Nat)(n:Nat):List Int:=((ce n).filter fun a=>hasB s a&&!decide (a=b)).map fun a:Nat=>(a:Int)
theorem cfL_succ(s:Int)(b n:Nat):cfL s b (n+1)=if(hasB s n&&!decide (n=b))=true then cfL s b n++[(n:Int)] else cfL s b n:=by
 unfold cfL;rw[nd,List.filter_append,List.map_append];by_cases h:(hasB s n&&!decide (n=b))=true
 ·rw[if_pos h,List.filter_cons_of_pos (p:=fun a=>hasB s a&&!decide (a=b)) h];rfl
 ·rw[if_neg h,List.filter_cons_of_neg (p:=fun a=>hasB s a&&!decide (a=b)) h];simp
theorem cfL_len(s:Int)(b n:Nat):(cfL s b n).length≤n:=by
 unfold cfL;rw[ov];exact kT (List.length_filter_le _ _) (by simp)
def clOf(cs:List Int)(k:Nat):Cl:=if k<cs.length∧¬(cs.getD k 0).tmod 2=0 then⟨false,ofC (((cs.getD k 0).tdiv 2).tmod 3)⟩ else⟨true,zV⟩
def cfP(cs:List Int)(m:Nat):List Cl:=(ce m).map (clOf cs)
theorem cfP_succ(cs:List Int)(m:Nat):cfP cs (m+1)=cfP cs m++[clOf cs m]:=by simp[cfP,nd]
theorem cfP_len(cs:List Int)(m:Nat):(cfP cs m).length=m:=by simp[cfP]
def cfR(n:Nat)(b:Int):Nat:=(b.tmod n).toNat
def cfOf(n:Nat)(s b:Int)(cs:List Int):Cfd:=⟨cfL s (cfR n b) n,(cfR n b:Int),cfP cs ((cfL s (cfR n b) n).length+1)⟩
theorem cfR_lt{n:Nat}{b:Int}(hn:0<n)(hb:0≤b):(cfR n b:Int)=b.tmod n∧cfR n b<n:=by
 unfold cfR;have h1:=hX (n:Int) hb;have h2:=gB b (show(0:Int)<n by omega);omega
theorem ofV_val(m:Int):ai (ofV m)=true:=by
 unfold ofV
 repeat' split
 all_goals kernel_rfl
def mbF(n:Nat)(l:List Int):List Int:=if n=0 then [] else(l.take 5).map fun x=>x.tmod n
def odOf(n:Nat)(xs ys:List Int):Od:=⟨mbF n xs,mbF n ys⟩
def tmOf(n:Nat)(vars:Int)(v c:Int):Tm:=if v.tmod (vars+1)=0∨n=0 then⟨0,0,ofC c⟩ else⟨v.tmod (vars+1),c.tmod n,zV⟩
def atOf(n:Nat)(vars:Int)(s:Snt):At:=⟨tmOf n vars s.lv s.lc,1+s.op.tmod 4,tmOf n vars s.rv s.rc⟩
def dnOf(n:Nat)(nv:Int)(sn:List Snt):Dn:=⟨1+nv.tmod 3,sn.map (atOf n (1+nv.tmod 3))⟩
def strR:ByteArray:=⟨#[114]⟩
def strC:ByteArray:=⟨#[99]⟩
def cn0:Cn:=⟨strC,strR,0,⟨0,0⟩,0,0,br,[],br,[],⟨[],0,[]⟩,⟨[],[]⟩,⟨0,[]⟩⟩
def iS(n:Nat)(r:Rul):Cn :=
 if r.k.tmod 5=1∧0<n then { cn0 with kind:=4,cfd:=cfOf n r.cl r.cr r.cs } else
 if r.k.tmod 5=2 then { cn0 with kind:=5,od:=odOf n r.xs r.ys } else
 if r.k.tmod 5=3 then { cn0 with kind:=6,dn:=dnOf n r.nv r.sn } else
 { cn0 with kind:=1,fd:=fdOf n r.fd }
def cR(r:Rul):Bool:=!decide (r.k.tmod 5=3)||decide (r.sn.length≤5)
def ia(x:Rcp):Tb:=wideT x (x.a.tmod 6).toNat
theorem fm{n:Nat} : ∀{rs:List Rw} {last:Int},(∀r∈rs,last<r.id)→(∀r∈rs,r.vals.length=n)→(∀r∈rs,∀v∈r.vals,ai v=true)→rs.Pairwise (fun a b=>a.id<b.id)→bU n last rs=0
 | [],_,_,_,_,_=>rfl
 | r::rs,last,h1,h2,h3,h4=>by
  have a1:=h1 r List.mem_cons_self;have a2:=h2 r List.mem_cons_self;have a3:r.vals.all ai=true:=List.all_eq_true.2 (h3 r List.mem_cons_self);rw[List.pairwise_cons]at h4;rw[bU,if_neg (by omega),if_neg (by omega),a3,if_pos rfl];exact fm h4.1 (fun r' hr=>h2 r' (List.mem_cons_of_mem _ hr)) (fun r' hr=>h3 r' (List.mem_cons_of_mem _ hr)) h4.2
theorem wideT_rows{x:Rcp}{n:Nat}(hg:0≤x.gap):(∀r∈(wideT x n).rows,0<r.id∧r.vals.length=n∧∀v∈r.vals,∃m,v=ofV m)∧(wideT x n).rows.Pairwise fun a b=>a.id<b.id:=by
 have h0:=hX 3 hg;constructor
 ·intro r hr;obtain⟨i,hi,rfl⟩:=List.mem_map.1 hr;refine⟨?_,wVals_len _ _,fun v hv=>?_⟩
  ·show 0<1+(i:Int)*(1+x.gap.tmod 3);have:=Int.mul_nonneg (show(0:Int)≤i by omega) (show 0≤1+x.gap.tmod 3 by omega);omega
  ·obtain⟨j,_,rfl⟩:=List.mem_map.1 hv;exact⟨_,rfl⟩
 ·show((ce x.rows.length).map _).Pairwise _;rw[List.pairwise_map];refine List.Pairwise.imp ?_ List.pairwise_lt_range;intro i j hij;show 1+(i:Int)*(1+x.gap.tmod 3)<1+(j:Int)*(1+x.gap.tmod 3);have:=Int.mul_lt_mul_of_pos_right (show(i:Int)<j by omega) (show 0<1+x.gap.tmod 3 by omega);omega
theorem names_few:∀n,n<6→cO (L8.take n)=true
 | 0,_=>by kernel_rfl
 | 1,_=>by kernel_rfl
 | 2,_=>by kernel_rfl
 | 3,_=>by kernel_rfl
 | 4,_=>by kernel_rfl
 | 5,_=>by kernel_rfl
 | n+6,h=>by omega
theorem ofV_sz(m:Int):(ofV m).s.size≤maxLen:=by
 unfold ofV
 repeat' split
 all_goals decide
structure RcpOk (x:Rcp):Prop where
 a:0≤x.a∧x.a<256
 gap:0≤x.gap
 rows:x.rows.length≤6
 len:∀r∈x.rows,r.length≤9223372036854775807
theorem tbOf_n{x:Rcp}(h:0≤x.a):(x.a.tmod 6).toNat<6∧(((x.a.tmod 6).toNat:Nat):Int)=x.a.tmod 6:=by
 have h1:=hX 6 h;have h2:=gB x.a (show(0:Int)<6 by omega);omega
structure TbS (t:Tb):Prop where
 ok:TbOk t
 sz:∀r∈t.rows,∀v∈r.vals,v.s.size≤maxLen
 few:t.rows.length≤8
theorem tbOf_attrs{x:Rcp}(h:0≤x.a):(ia x).attrs.length=(x.a.tmod 6).toNat:=by
 obtain⟨h1,_⟩:=tbOf_n h;show(L8.take (x.a.tmod 6).toNat).length=_;rw[pW];have:L8.length=8:=rfl;omega
theorem tbOf_rows(x:Rcp):(ia x).rows.length=x.rows.length:=wRows_len _ _ _
theorem tbOf_ok{x:Rcp}(h:RcpOk x):TbS (ia x)∧aQ (ia x)=0:=by
 obtain⟨h1,_⟩:=tbOf_n h.a.1;have ha:=tbOf_attrs h.a.1;have hr:=tbOf_rows x;have h6:=h.rows;obtain⟨w1,w2⟩:=wideT_rows (x:=x) (n:=(x.a.tmod 6).toNat) h.gap
 have ok:TbOk (ia x):=⟨(show(⟨#[114]⟩:ByteArray).size≤maxLen by decide),by omega,by omega,fun s hs=>by
  have hs:=kR (show s∈L8.take (x.a.tmod 6).toNat from hs)
  have:∀s∈L8,s.size≤maxLen:=by
   intro s hs;simp only[L8,ed,dk,or_false]at hs
   rcases hs with rfl | rfl | rfl | rfl | rfl | rfl | rfl | rfl<;>decide
  exact this s hs⟩
 refine⟨⟨ok,fun r hr v hv=>by obtain⟨m,rfl⟩:=(w1 r hr).2.2 v hv;exact ofV_sz m,by omega⟩,?_⟩;unfold aQ;rw[show av (ia x).name=true by kernel_rfl,if_pos rfl,if_neg (by omega),show cO (ia x).attrs=true from names_few _ h1,if_pos rfl];exact fm (fun r hr=>(w1 r hr).1) (fun r hr=>by rw[ha];exact(w1 r hr).2.1) (fun r hr v hv=>by obtain⟨m,rfl⟩:=(w1 r hr).2.2 v hv;exact ofV_val m) w2
section
def oblP(T:AM.Ty)(ops:Array Oper)(C:V→List V→List B→(V→List B→Prop)→Prop)(E:List Nat)(tab:List (Nat×List Nat))(Hs:Nat→List B):List Oper→Nat→Nat→List V→List V→Prop
 | [],_,_,_,_=>True
 | _::_,_,_,_,[]=>False
 | o::rest,i,c,fr,v::vs =>
  (match ak ops fr o with
   | some true=>match aY o.op with
    | some (f,args)=>if E.contains i then C (aD fr f) (args.map (aD fr)) (Hs c) (fun r H'=>r=v∧H'=Hs (c+1))
     else cG (fun c'=>C (aD fr f) (args.map (aD fr)) (Hs c') (fun r H'=>r=v∧H'=Hs c')) (c::dK tab i)
    | none=>if E.contains i||cM o.op then True else cG (fun c'=>aop T o.op (aD fr) (Hs c')=some (v,Hs c')) (if bO o.op then dK tab i else c::dK tab i)
   | _=>True)∧oblP T ops C E tab Hs rest (i+1) (if E.contains i then c+1 else c) (ae fr o.dst v) vs
def DrawP(T:AM.Ty)(ops:Array Oper)(E:List Nat)(tab:List (Nat×List Nat))(cv:List (V×List B))(C:V→List V→List B→(V→List B→Prop)→Prop)(K:List V→List B→Prop)(fr:List V)(H:List B):Prop :=
 match AM.runT T ops E ops.toList 0 fr H cv with
 | none=>False
 | some (vs,hs,f)=>hs.length=E.length∧oblP T ops C E tab (fun c=>(H::hs)[c]?.getD []) ops.toList 0 0 fr vs∧K f ((H::hs)[E.length]?.getD [])
section
variable {P:Program} {T:AM.Ty}
end
attribute [simp] DrawP oblP
end
theorem rel_agg_lf{s:AM.St}{cs ds:List V}{u:Value}(h:Rel s (.agg cs) u)(hl:LfL cs ds):Rel s (.agg ds) u:=by
 cases h with
 | agg _ us h1 h2 h3 =>
  have hlen:=hl.len;refine .agg ds us (by omega) (fun d hd=>?_) (fun i d u hd hu=>?_)
  ·obtain⟨i,hi⟩:=List.mem_iff_getElem?.1 hd;have hc:cs[i]?=some (cs[i]'(by have:=aB hi;omega)):=ca _;exact lf_one (hl.at_ i _ d hc hi) (h2 _ (bv hc))
  ·have hc:cs[i]?=some (cs[i]'(by have:=aB hd;omega)):=ca _;exact lf_rel (h3 i _ u hc hu) (hl.at_ i _ d hc hd)
theorem conP_lf{P:Program}{f:FuncId}{args:List V}{v v':V}(h:aE P f args fun r=>r=v)(hr:∀(s:AM.St) u,Rel s v u→Rel s v' u)(hp:AM.Pure v'):aE P f args fun r=>r=v':=by
 refine⟨h.1,fun F w vals hZ hF hsz hrel=>(h.2 F w vals hZ hF hsz hrel).mono fun e w' ⟨u,r,a1,a2,a3,a4,a5⟩=>?_⟩;subst a5;exact⟨u,v',a1,hp,hr _ u a3,a4,rfl⟩
theorem atoms_rb(n e:Nat)(al:List At)(fz:Bool):rbB n (.buf e 11 (al.map du) fz):=by
 intro x hx;obtain⟨y,_,rfl⟩:=List.mem_map.1 hx;intro c hc;simp only[du,V.cells,ed,dk,or_false]at hc
 rcases hc with rfl | rfl | rfl | rfl | rfl | rfl | rfl | rfl | rfl | rfl | rfl<;>simp[rb,rb1]
theorem cap104(n:Nat)(h:n≤1000000000):n≤9223372036854775806∧(n+1)*104≤140737488355328:=by omega
theorem members17(n:Nat)(l:List Int)(f:Bool)(hl:l.length≤9223372036854775807)(hv:∀c∈l,0≤c∧c<256)(hn:n≤100):aE Tryz.prog 176 [.int .i64 n,.lst 1 f (l.map bp)] fun r=>r=L1 false (mbF n l):=by
 by_cases h0:n=0
 ·subst h0;rw[show mbF 0 l=[] from rfl];refine sPx Tryz.func176 rfl rfl ?_;simp -dsimp[Tryz.f176,ba];refine aR (W_own 3 1 [5] (by simp) (W_loopM 31 0x7fffffe0 (by simp[mB]<;>rfl) (σ:=Nat) (fun i=>i≤0) (fun i=>l.length-i) (fun i=>[(6,.int .i64 i),(5,.buf 0 0 i i)]) (fun i=>[B.buf 3 1 [] false]) 0 (by omega) (by simp) (by simp) (by simp) ?_));intro i hi N Q hN hQ
  obtain rfl:i=0:=by omega
  refine gY 0 [5] rfl (by simp) ?_;by_cases hb:0<l.length
  ·refine wx ?_;simp -dsimp[hb,show(0:Int)<l.length by omega];refine hQ _ _ _ ?_;simp -dsimp[L1]
  ·refine wx ?_;simp -dsimp[hb,show ¬(0:Int)<l.length by omega];refine hQ _ _ _ ?_;simp -dsimp[L1]
 ·have hmb:mbF n l=(l.take 5).map fun x=>x.tmod n:=by unfold mbF;rw[if_neg h0]
  obtain⟨M,hM⟩:∃M,M=mbF n l:=⟨_,rfl⟩
  have hMl:M.length=min 5 l.length:=by rw[hM,hmb];simp
  have hMi:∀i (h:i<l.length),i<5→M.take (i+1)=M.take i++[l[i].tmod n]:=fun i h h5=>by
   rw[fp (by omega)];congr 2;simp[hM,hmb]
  rw[←hM]
  have hrb:∀l:List Int,∀bl∈[B.buf 3 1 (l.map au) false],rbB 1 bl:=fun l bl hbl=>by
   simp only[pT]at hbl;subst hbl;exact(rbB_buf1 (fun x hx=>by obtain⟨y,_,rfl⟩:=List.mem_map.1 hx;exact⟨by simp,rfl⟩)).2 trivial
  have hnp:(0:Int)<n:=by omega
  refine sPx Tryz.func176 rfl rfl ?_;simp -dsimp[Tryz.f176,ba];refine aR (W_own 3 1 [5] (by simp) (W_loopM 31 0x7fffffe0 (by simp[mB]<;>rfl) (σ:=Nat) (fun i=>i≤l.length∧i≤5) (fun i=>l.length-i) (fun i=>[(6,.int .i64 i),(5,.buf 0 0 i i)]) (fun i=>[B.buf 3 1 ((M.take i).map au) false]) 0 (by omega) (by simp) (by simp) (by simp) ?_));rintro i ⟨hi,hi5⟩ N Q hN hQ
  have htl:(M.take i).length=i:=by simp;omega
  by_cases hb:i<l.length
  ·by_cases h5:i<5
   ·have hst:=hMi i hb h5;obtain⟨x,hxe⟩:∃x,x=l[i]:=⟨_,rfl⟩;have hx:=hv x (by rw[hxe];exact cm hb);rw[←hxe]at hst;have w1:IntKind.i64.wrap x=x:=wrap64 (by omega) (by omega);have t0:=hX (n:Int) hx.1;have t1:=gB x hnp;have w2:IntKind.i64.wrap (x.tmod n)=x.tmod n:=wrap64 (by omega) (by omega);obtain⟨m,hm⟩:∃m,m=M.take i:=⟨_,rfl⟩;rw[←hm]at hst htl ⊢;refine wx ?_;simp -dsimp[hb,hxe.symm,bp,h5,show(i:Int)<5 by omega,hnp,show 0<n by omega,h0,show ¬(n:Int)=0 by omega,w1,w2,htl,cap8 i (by omega),eJ i (by omega),aa i (by omega)];refine hN (i+1) _ _ ⟨by omega,by omega⟩ (by omega) (by simp) ⟨[],by simp[hst,au]⟩ (by simp) (hrb _)
   ·obtain rfl:i=5:=by omega
    rw[lm (by omega)];refine gY 0 [5] rfl (by simp;omega) ?_;refine wx ?_;simp -dsimp[hb,h5,show(5:Int)<l.length by omega];refine hQ _ _ _ ?_;simp -dsimp[L1]
    skip
  ·obtain rfl:i=l.length:=by omega
   rw[lm (by omega)];refine gY 0 [5] rfl (by simp;omega) ?_;refine wx ?_;simp -dsimp[hb];refine hQ _ _ _ ?_;simp -dsimp[L1]
   skip
theorem odOf17(n:Nat)(xs ys:List Int)(f g:Bool)(hl:xs.length≤9223372036854775807)(hv:∀c∈xs,0≤c∧c<256)(hl2:ys.length≤9223372036854775807)(hv2:∀c∈ys,0≤c∧c<256)(hn:n≤100):aE Tryz.prog 125 [.int .i64 n,.agg [.lst 1 f (xs.map bp),.lst 1 g (ys.map bp)]] fun r=>r=encOd false false (odOf n xs ys):=by
 have c1:=members17 n xs f hl hv hn;have c2:=members17 n ys g hl2 hv2 hn;simp only[L1]at c1 c2;refine sPx Tryz.func125 rfl rfl ?_;simp -dsimp[Tryz.f125,ba];refine aR (ao tok mixed [9] [] [(.lst 1 false ((mbF n xs).map au),[]),(.lst 1 false ((mbF n ys).map au),[])] (by kernel_rfl) fun C K hC hK=>?_);simp -implicitDefEqProofs [];refine⟨⟨hC _ _ _ _ (aW c1 (by simp)),hC _ _ _ _ (aW c2 (by simp))⟩,hK _ _ ?_⟩;simp -dsimp[encOd,odOf,L1]
theorem side18(n:Nat)(vars v c:Int)(hn:n≤100)(h1:1≤vars)(h3:vars≤3)(hv:0≤v∧v<256)(hc:0≤c∧c<256):aE Tryz.prog 177 [.int .i64 n,.int .i64 vars,.agg [.int .u8 v,.int .u8 c]] fun r=>r=dt (tmOf n vars v c):=by
 have w1:IntKind.i64.wrap v=v:=wrap64 (by omega) (by omega);have w2:IntKind.i64.wrap (vars+1)=vars+1:=wrap64 (by omega) (by omega);have t0:=hX (vars+1) hv.1;have t1:=gB v (show(0:Int)<vars+1 by omega);have w3:IntKind.i64.wrap (v.tmod (vars+1))=v.tmod (vars+1):=wrap64 (by omega) (by omega);have w4:IntKind.i64.wrap c=c:=wrap64 (by omega) (by omega);have c1:=of01 c;simp only[ac]at c1
 have hz:¬vars+1=0:=by omega
 unfold tmOf;obtain⟨q,hq⟩:∃q,q=v.tmod (vars+1):=⟨_,rfl⟩;rw[←hq]at t0 t1 w3 ⊢;have hq':=hq.symm;by_cases hq0:q=0
 ·rw[if_pos (.inl hq0)];refine sPx Tryz.func177 rfl rfl ?_;simp -dsimp[Tryz.f177,ba,w1,w2,hz,hq',w3,hq0];refine cPx (c1) (by simp) ?_;simp -dsimp[dt]
 ·by_cases h0:n=0
  ·rw[if_pos (.inr h0)];refine sPx Tryz.func177 rfl rfl ?_;simp -dsimp[Tryz.f177,ba,w1,w2,hz,hq',w3,hq0,h0];refine cPx (c1) (by simp) ?_;simp -dsimp[dt]
  ·rw[if_neg (by omega)];have s0:=hX (n:Int) hc.1;have s1:=gB c (show(0:Int)<n by omega);have w5:IntKind.i64.wrap (c.tmod n)=c.tmod n:=wrap64 (by omega) (by omega);refine sPx Tryz.func177 rfl rfl ?_;simp -dsimp[Tryz.f177,ba,w1,w2,hz,hq',w3,hq0,h0,show ¬(n:Int)=0 by omega,w4,w5];simp[dt,zV]
theorem dnOf18(n:Nat)(nv:Int)(sn:List Snt)(f:Bool)(hn:n≤100)(hv:0≤nv∧nv<256)(hl:sn.length≤2000000)(hs:∀s∈sn,SntOk s):aE Tryz.prog 126 [.int .i64 n,.agg [.int .u8 nv,.lst 5 f (sn.map cP)]] fun r=>r = .tup [encDn false (dnOf n nv sn),.bool (decide (sn.length≤5))]:=by
 have t0:=hX 3 hv.1;have t1:=gB nv (show(0:Int)<3 by omega)
 have w0:IntKind.u8.wrap (nv.tmod 3)=nv.tmod 3:=by rw[IntKind.wrap_u8];omega
 have w1:IntKind.i64.wrap (nv.tmod 3)=nv.tmod 3:=wrap64 (by omega) (by omega);have w2:IntKind.i64.wrap (1+nv.tmod 3)=1+nv.tmod 3:=wrap64 (by omega) (by omega);have hdn:dnOf n nv sn=⟨1+nv.tmod 3,sn.map (atOf n (1+nv.tmod 3))⟩:=rfl;rw[hdn];obtain⟨q,hq⟩:∃q,q=nv.tmod 3:=⟨_,rfl⟩;rw[←hq]at t0 t1 w0 w1 w2 ⊢;obtain⟨vs,hvs⟩:∃vs,vs=1+q:=⟨_,rfl⟩;rw[←hvs]at w2 ⊢;have hq':=hq.symm;have hvs':=hvs.symm;obtain⟨A,hA⟩:∃A,A=sn.map (atOf n vs):=⟨_,rfl⟩
 have hAl:A.length=sn.length:=by rw[hA,ov]
 have hAi:∀i (h:i<sn.length),A.take (i+1)=A.take i++[atOf n vs sn[i]]:=fun i h=>by
  rw[fp (by omega)];congr 2;simp[hA]
 rw[←hA]
 have hrb:∀(i:Nat) (al:List At),∀bl∈[B.cells [.int .u8 nv,.lst 5 f (sn.map cP)],B.cells [.int .i64 0,.nilS],B.cells [.int .i64 vs,.buf 3 0 i i],B.buf 300 11 (al.map du) false],rbB 4 bl:=fun i al bl hbl=>by
  simp only[ed,dk,or_false]at hbl
  rcases hbl with rfl | rfl | rfl | rfl
  ·intro c hc;simp at hc;rcases hc with rfl | rfl<;>simp[rb,rb1]
  ·intro c hc;simp at hc;rcases hc with rfl | rfl<;>simp[rb,rb1]
  ·intro c hc;simp at hc;rcases hc with rfl | rfl<;>simp[rb,rb1]
  ·exact atoms_rb _ _ _ _
 refine sPx Tryz.func126 rfl rfl ?_;simp -dsimp[Tryz.f126,ba,hq',w0,w1,hvs',w2];refine aR (dV 300 11 [] 2 [1] rfl (by simp) (by simp) (W_loopM 50 0x3ffffffff8180 (by simp[mB]<;>rfl) (σ:=Nat) (fun i=>i≤sn.length) (fun i=>sn.length-i) (fun i=>[(7,.int .i64 i)]) (fun i=>[B.cells [.int .u8 nv,.lst 5 f (sn.map cP)],B.cells [.int .i64 0,.nilS],B.cells [.int .i64 vs,.buf 3 0 i i],B.buf 300 11 ((A.take i).map du) false]) 0 (by omega) (by simp) (by simp) (by simp) ?_));intro i hi N Q hN hQ
 have htl:(A.take i).length=i:=by simp;omega
 by_cases hb:i<sn.length
 ·have hst:=hAi i hb;have hk:=hs _ (cm hb);obtain⟨s,hse⟩:∃s,s=sn[i]:=⟨_,rfl⟩;rw[←hse]at hst hk;have o0:=hX 4 hk.op.1;have o1:=gB s.op (show(0:Int)<4 by omega)
  have v0:IntKind.u8.wrap (s.op.tmod 4)=s.op.tmod 4:=by rw[IntKind.wrap_u8];omega
  have v1:IntKind.i64.wrap (s.op.tmod 4)=s.op.tmod 4:=wrap64 (by omega) (by omega);have v2:IntKind.i64.wrap (1+s.op.tmod 4)=1+s.op.tmod 4:=wrap64 (by omega) (by omega);have c1:=side18 n vs s.lv s.lc hn (by omega) (by omega) hk.lv hk.lc;have c2:=side18 n vs s.rv s.rc hn (by omega) (by omega) hk.rv hk.rc;have hat:atOf n vs s=⟨tmOf n vs s.lv s.lc,1+s.op.tmod 4,tmOf n vs s.rv s.rc⟩:=rfl;rw[hat]at hst;obtain⟨tl,htl1⟩:∃tl,tl=tmOf n vs s.lv s.lc:=⟨_,rfl⟩;obtain⟨tr,htr1⟩:∃tr,tr=tmOf n vs s.rv s.rc:=⟨_,rfl⟩;rw[←htl1]at c1 hst;rw[←htr1]at c2 hst;simp only[dt]at c1 c2;obtain⟨al,hal⟩:∃al,al=A.take i:=⟨_,rfl⟩;rw[←hal]at hst htl ⊢;refine wx ?_;simp -dsimp[hb,hse.symm,cP];refine aR (ao tok mixed [21,23] [] [(dt tl,[]),(dt tr,[])] (by kernel_rfl) fun C K hC hK=>?_);simp -implicitDefEqProofs [dt,v0,v1,v2,htl,cap104 i (by omega),eJ i (by omega)];refine⟨⟨hC _ _ _ _ (aW c1 (by simp)),hC _ _ _ _ (aW c2 (by simp))⟩,hK _ _ ?_⟩;simp -dsimp[aa i (by omega)];refine hN (i+1) _ _ (by omega) (by omega) (by simp) ⟨[B.cells [.int .u8 s.lv,.int .u8 s.lc,.int .u8 s.op,.int .u8 s.rv,.int .u8 s.rc]],by simp[hst,du]⟩ (by simp) (hrb _ _)
 ·obtain rfl:i=sn.length:=by omega
  rw[lm (by omega)];refine eI 3 [] 2 [1] rfl rfl (by simp) (by simp[hAl]) ?_;refine wx ?_;simp -dsimp[hb];refine hQ _ _ _ ?_;simp -dsimp[]
  have h5:((sn.length:Int)≤5)↔sn.length≤5:=by omega
  refine aR (ao tok mixed [5] [(1,[1]),(2,[1]),(3,[1]),(4,[1])] [] (by kernel_rfl) fun C K hC hK=>?_);simp -implicitDefEqProofs [h5];refine hK _ _ ?_;simp -dsimp[encDn,LA]
  done
theorem u32u8{c:Int}(h:0≤c∧c<256):IntKind.u32.wrap c=c:=by rw[IntKind.wrap_u32];omega
theorem capCl(n:Nat)(h:n≤1000000000):n≤9223372036854775806∧(n+1)*40≤140737488355328:=by omega
theorem cls_rb(n e:Nat)(al:List Cl)(fz:Bool):rbB n (.buf e 4 (al.map dG) fz):=by
 intro x hx;obtain⟨y,_,rfl⟩:=List.mem_map.1 hx;intro c hc;simp only[dG,V.cells,ed,dk,or_false]at hc
 rcases hc with rfl | rfl | rfl | rfl<;>simp[rb,rb1]
theorem nums_rb(n e:Nat)(l:List Int)(fz:Bool):rbB n (.buf e 1 (l.map au) fz):=by
 intro x hx;obtain⟨y,_,rfl⟩:=List.mem_map.1 hx;intro c hc;simp only[au,V.cells,ed,dk,or_false]at hc;subst hc;simp[rb1]
theorem cfOf16(n:Nat)(s b:Int)(cs:List Int)(f:Bool)(hn0:0<n)(hn:n≤16)(hs:0≤s∧s<256)(hb:0≤b∧b<256)(hl:cs.length≤9223372036854775807)(hv:∀c∈cs,0≤c∧c<256):aE Tryz.prog 124 [.int .i64 n,.agg [.int .u8 s,.int .u8 b,.lst 1 f (cs.map bp)]] fun r=>r=gT false false (cfOf n s b cs):=by
 obtain⟨r1,r2⟩:=cfR_lt hn0 hb.1;unfold cfOf;obtain⟨R,hR⟩:∃R,R=cfR n b:=⟨_,rfl⟩;rw[←hR]at r1 r2 ⊢;have w1:IntKind.i64.wrap b=b:=wrap64 (by omega) (by omega);have w2:IntKind.i64.wrap (R:Int)=(R:Int):=wrap64 (by omega) (by omega);have ws:=u32u8 hs
 have hnz:¬(n:Int)=0:=by omega
 obtain⟨L,hL⟩:∃L,L=cfL s R n:=⟨_,rfl⟩
 have hLl:L.length≤16:=by rw[hL];exact kT (cfL_len _ _ _) hn
 rw[←hL]
 have hrb1:∀l:List Int,∀bl∈[B.cells [.int .u8 s,.int .u8 b,.lst 1 f (cs.map bp)],B.cells [.nilS,.int .i64 0,.nilS],B.cells [.buf 3 0 l.length l.length,.int .i64 R,.nilS],B.buf 3 1 (l.map au) false],rbB 4 bl:=fun l bl hbl=>by
  simp only[ed,dk,or_false]at hbl
  rcases hbl with rfl | rfl | rfl | rfl
  ·intro c hc;simp at hc;rcases hc with rfl | rfl | rfl<;>simp[rb,rb1]
  ·intro c hc;simp only[ed,dk,or_false]at hc;rcases hc with rfl | rfl | rfl<;>simp[rb,rb1]
  ·intro c hc;simp at hc;rcases hc with rfl | rfl | rfl<;>simp[rb,rb1]
  ·exact nums_rb _ _ _ _
 have hrb2:∀(m:Nat) (ps:List Cl),∀bl∈[B.cells [.int .u8 s,.int .u8 b,.lst 1 f (cs.map bp)],B.cells [.nilS,.int .i64 0,.nilS],B.cells [.lst 1 false (L.map au),.int .i64 R,.buf 4 0 m m],B.buf 3 1 (L.map au) true,B.buf 290 4 (ps.map dG) false],rbB 5 bl:=fun m ps bl hbl=>by
  simp only[ed,dk,or_false]at hbl
  rcases hbl with rfl | rfl | rfl | rfl | rfl
  ·intro c hc;simp at hc;rcases hc with rfl | rfl | rfl<;>simp[rb,rb1]
  ·intro c hc;simp only[ed,dk,or_false]at hc;rcases hc with rfl | rfl | rfl<;>simp[rb,rb1]
  ·intro c hc;simp at hc;rcases hc with rfl | rfl | rfl<;>simp[rb,rb1]
  ·exact nums_rb _ _ _ _
  ·exact cls_rb _ _ _ _
 refine sPx Tryz.func124 rfl rfl ?_;simp -dsimp[Tryz.f124,ba,hnz,show ¬n=0 by omega,w1,r1.symm,w2];refine aR (dV 3 1 [] 2 [0] rfl (by simp) (by simp) (W_loopM 36 0xfffffc040 (by simp[mB]<;>rfl) (σ:=Nat×List Int) (fun p=>p.1≤n∧p.2=cfL s R p.1) (fun p=>n-p.1) (fun p=>[(6,.int .i64 p.1)]) (fun p=>[B.cells [.int .u8 s,.int .u8 b,.lst 1 f (cs.map bp)],B.cells [.nilS,.int .i64 0,.nilS],B.cells [.buf 3 0 p.2.length p.2.length,.int .i64 R,.nilS],B.buf 3 1 (p.2.map au) false]) (0,[]) ⟨by omega,rfl⟩ (by simp) (by simp) (by simp) ?_));rintro⟨i,l⟩ ⟨hi,hle⟩ N Q hN hQ;simp only at hi hle
 have hll:l.length≤i:=by rw[hle];exact cfL_len _ _ _
 by_cases hib:i<n
 ·have ch:=has02 s i (by omega);have hsu:=cfL_succ s R i;rw[←hle]at hsu
  cases hq:hasB s i with
  | false =>
   rw[hq]at ch;rw[hq,fb,if_neg (by simp)]at hsu;refine wx ?_;simp -dsimp[hib,ws];refine cPx (ch) (by simp) ?_;simp -dsimp[aa i (by omega)];refine hN (i+1,l) _ _ ⟨by simp only;omega,hsu.symm⟩ (by simp only;omega) (by simp) ⟨[],by simp⟩ (by simp) (hrb1 _)
  | true =>
   rw[hq]at ch;by_cases hiR:i=R
   ·rw[hq,decide_eq_true hiR,Bool.not_true,pQ,if_neg (by simp)]at hsu;refine wx ?_;simp -dsimp[hib,ws];refine cPx (ch) (by simp) ?_;simp -dsimp[show(i:Int)=R by omega,hiR,aa i (by omega),aa R (by omega)];refine hN (i+1,l) _ _ ⟨by simp only;omega,hsu.symm⟩ (by simp only;omega) (by simp[hiR]) ⟨[],by simp⟩ (by simp) (hrb1 _)
   ·rw[hq,decide_eq_false hiR,Bool.not_false,pr,if_pos rfl]at hsu;refine wx ?_;simp -dsimp[hib,ws];refine cPx (ch) (by simp) ?_;simp -dsimp[show ¬(i:Int)=R by omega,hiR,cap8 l.length (by omega),eJ l.length (by omega),aa i (by omega)];refine hN (i+1,l++[(i:Int)]) _ _ ⟨by simp only;omega,hsu.symm⟩ (by simp only;omega) (by simp) ⟨[],by simp[au]⟩ (by simp) (hrb1 _)
 ·obtain rfl:i=n:=by omega
  rw[←hL]at hle;subst hle;obtain⟨m,hm⟩:∃m,m=l.length:=⟨_,rfl⟩;refine eI 3 [] 2 [0] rfl rfl (by simp) (by simp) ?_;refine wx ?_;simp -dsimp[hib];refine hQ _ _ _ ?_;simp -dsimp[];refine aR (dV 290 4 [] 2 [2] rfl (by simp) (by simp) (W_loopM 77 0x1ffffffffff000000080 (by simp[mB]<;>rfl) (σ:=Nat) (fun k=>k≤l.length+1) (fun k=>l.length+1-k) (fun k=>[(7,.int .i64 k)]) (fun k=>[B.cells [.int .u8 s,.int .u8 b,.lst 1 f (cs.map bp)],B.cells [.nilS,.int .i64 0,.nilS],B.cells [.lst 1 false (l.map au),.int .i64 R,.buf 4 0 k k],B.buf 3 1 (l.map au) true,B.buf 290 4 ((cfP cs k).map dG) false]) 0 (by omega) (by simp) (by simp[cfP]) (by simp) ?_));intro k hk N2 Q2 hN2 hQ2;have hpl:=cfP_len cs k;have hps:=cfP_succ cs k;obtain⟨ps,hpe⟩:∃ps,ps=cfP cs k:=⟨_,rfl⟩;rw[←hpe]at hpl hps ⊢;by_cases hkb:k≤l.length
  ·by_cases hkc:k<cs.length
   ·have hg:cs.getD k 0=cs[k]:=by simp[hkc]
    unfold clOf at hps;rw[hg]at hps;have hx:=hv _ (cm hkc);obtain⟨x,hxe⟩:∃x,x=cs[k]:=⟨_,rfl⟩;rw[←hxe]at hps hx;have t0:=hX 2 hx.1;have t1:=gB x (show(0:Int)<2 by omega)
    have u1:IntKind.u8.wrap (x.tmod 2)=x.tmod 2:=by rw[IntKind.wrap_u8];omega
    by_cases h2:x.tmod 2=0
    ·rw[if_neg (by omega)]at hps;refine wx ?_;simp -dsimp[show(k:Int)≤l.length by omega,hkb,hkc,show ¬cs.length≤k by omega,hxe.symm,bp,u1,h2];simp -dsimp[hpl,capCl k (by omega),eJ k (by omega),aa k (by omega)];refine hN2 (k+1) _ _ (by omega) (by omega) (by simp) ⟨[],by simp[hps,dG,zV]⟩ (by simp) (hrb2 _ _)
    ·rw[if_pos ⟨hkc,h2⟩]at hps
     have d0:0≤x.tdiv 2∧x.tdiv 2<256:=by rw[Int.tdiv_eq_ediv_of_nonneg hx.1];omega
     have u2:IntKind.u8.wrap (x.tdiv 2)=x.tdiv 2:=by rw[IntKind.wrap_u8];omega
     have d1:=hX 3 d0.1;have d2:=gB (x.tdiv 2) (show(0:Int)<3 by omega)
     have u3:IntKind.u8.wrap ((x.tdiv 2).tmod 3)=(x.tdiv 2).tmod 3:=by rw[IntKind.wrap_u8];omega
     have co:=of01 ((x.tdiv 2).tmod 3);obtain⟨vl,hvl⟩:∃vl,vl=ofC ((x.tdiv 2).tmod 3):=⟨_,rfl⟩;rw[←hvl]at co hps;simp only[ac]at co;refine wx ?_;simp -dsimp[show(k:Int)≤l.length by omega,hkb,hkc,show ¬cs.length≤k by omega,hxe.symm,bp,u1,h2];refine aR (ao tok mixed [12,14] [] [(ac vl,[])] (by kernel_rfl) fun C K hC hK=>?_);simp -implicitDefEqProofs [hkc,hxe.symm,bp,ac,u2,u3,hpl,capCl k (by omega),eJ k (by omega)];refine⟨hC _ _ _ _ (aW co (by simp)),hK _ _ ?_⟩;simp -dsimp[aa k (by omega)];refine hN2 (k+1) _ _ (by omega) (by omega) (by simp) ⟨[],by simp[hps,dG]⟩ (by simp) (hrb2 _ _)
   ·unfold clOf at hps;rw[if_neg (by omega)]at hps;refine wx ?_;simp -dsimp[show(k:Int)≤l.length by omega,hkb,hkc,show(cs.length:Int)≤k by omega,show cs.length≤k by omega];simp -dsimp[hpl,capCl k (by omega),eJ k (by omega),aa k (by omega)];refine hN2 (k+1) _ _ (by omega) (by omega) (by simp) ⟨[],by simp[hps,dG,zV]⟩ (by simp) (hrb2 _ _)
  ·obtain rfl:k=l.length+1:=by omega
   refine eI 4 [] 2 [2] rfl rfl (by simp) (by simp[hpl]) ?_;refine wx ?_;simp -dsimp[show ¬((l.length:Int)+1≤l.length) by omega];refine hQ2 _ _ _ ?_;simp -dsimp[];simp[gT,L1,LCl,hpe]
theorem rel_tup2{s:AM.St}{a a' b:V}{u:Value}(h:Rel s (.tup [a,b]) u)(ha:∀x,Rel s a x→Rel s a' x):Rel s (.tup [a',b]) u:=by
 cases h with
 | tup _ us hl hr =>
  refine .tup _ us (by simpa using hl) (fun i v x hv hx=>?_)
  match i with
  | 0=>simp at hv;subst hv;exact ha _ (hr 0 a x rfl hx)
  | 1=>simp at hv;subst hv;exact hr 1 _ x rfl hx
  | i+2=>simp at hv
def fM(a b:ByteArray):Bool:=a.toList == b.toList
theorem eqSt_self(a:ByteArray):fM a a=true:=by simp[fM]
def eqSs(a b:List ByteArray):Bool:=decide (a.length=b.length)&&(ce a.length).all fun i=>fM (sAt a i) (sAt b i)
theorem eqSs_self(a:List ByteArray):eqSs a a=true:=by simp[eqSs,eqSt_self]
theorem strings03(a b:List ByteArray)(f g:Bool)(hl:a.length≤1000000):aE Tryz.prog 75 [LS f a,LS g b] fun r=>r = .bool (eqSs a b):=by
 unfold eqSs;by_cases h0:a.length=b.length
 ·rw[decide_eq_true h0,fk]
  obtain⟨E,hE⟩:∃E,E=(ce a.length).all fun i=>fM (sAt a i) (sAt b i):=⟨_,rfl⟩
  rw[←hE];refine sPx Tryz.func75 rfl rfl ?_;simp -dsimp[Tryz.f75,ba,LS,h0];refine aR (W_loopM 26 0x3fff830 (by simp[mB]<;>rfl) (σ:=Nat) (fun i=>i≤a.length∧(ce i).all (fun i=>fM (sAt a i) (sAt b i))=true) (fun i=>a.length-i) (fun i=>[(5,.int .i64 i)]) (fun _=>[]) 0 ⟨by omega,rfl⟩ (by simp) rfl (by simp) ?_);rintro i ⟨hi,hall⟩ N Q hN hQ;by_cases hb:i<a.length
  ·have hb2:i<b.length:=by omega
   have ha1:sAt a i=a[i]:=by simp[sAt,hb]
   have ha2:sAt b i=b[i]:=by simp[sAt,hb2]
   cases hq:(a[i].toList == b[i].toList) with
   | true =>
    refine wx ?_;simp -dsimp[hb,hb2,hq];refine .inr ⟨bN (by kernel_rfl),?_⟩;simp -dsimp[aa i (by omega)];refine hN (i+1) _ _ ⟨by omega,bT hall (by unfold fM;rw[ha1,ha2,hq])⟩ (by omega) (by simp) ⟨[],rfl⟩ (by simp) (by simp)
   | false =>
    have hno:(ce a.length).all (fun i=>fM (sAt a i) (sAt b i))=false:=by
     cases hh:(ce a.length).all (fun i=>fM (sAt a i) (sAt b i))
     ·rfl
     ·have:=List.all_eq_true.1 hh i (by simpa using hb);rw[fM,ha1,ha2,hq]at this;cases this
    rw[hno]at hE;refine wx ?_;simp -dsimp[hb,hb2,hq];refine .inr ⟨bN (by kernel_rfl),?_⟩;refine hQ _ _ _ ?_;simp -dsimp[];exact hE
  ·obtain rfl:i=a.length:=by omega
   rw[hall]at hE;refine wx ?_;simp -dsimp[hb];refine hQ _ _ _ ?_;simp -dsimp[];exact hE
 ·rw[decide_eq_false h0,fb];refine sPx Tryz.func75 rfl rfl ?_;simp -dsimp[Tryz.f75,ba,LS,show ¬((a.length:Int)=b.length) by omega]
def eqRw(a b:Rw):Bool:=decide (a.id=b.id)&&oQ a.vals b.vals == 0
theorem cmpI_self(x:Int):dH x x=0:=by unfold dH;simp
theorem cmpB_self:∀a:List UInt8,Lib.compareBytes a a=0
 | []=>by simp[Lib.compareBytes]
 | x::xs=>by
  rw[Lib.compareBytes,if_neg (UInt8.lt_irrefl _),if_neg (UInt8.lt_irrefl _)];exact cmpB_self xs
theorem cmpV_self(v:Vl):cmpV v v=0:=by
 unfold cmpV;rw[if_pos (cmpI_self _),if_pos (cmpI_self _)];exact cmpB_self _
theorem equalRows03(a b:Rw)(hl:a.vals.length≤1000000)(hs:∀v∈a.vals,v.s.size≤maxLen):aE Tryz.prog 76 [aT a,aT b] fun r=>r = .bool (eqRw a b):=by
 have c1:=same01 a.vals b.vals false false hl hs;simp only[LV]at c1;unfold eqRw;by_cases h:a.id=b.id
 ·rw[decide_eq_true h,fk];refine sPx Tryz.func76 rfl rfl ?_;simp -dsimp[Tryz.f76,ba,aT,LV,h];refine cPx (c1) (by simp) ?_;simp -dsimp[]
 ·rw[decide_eq_false h,fb];refine sPx Tryz.func76 rfl rfl ?_;simp -dsimp[Tryz.f76,ba,aT,LV,h]
def rwG(rs:List Rw)(i:Nat):Rw:=rs.getD i ⟨0,[]⟩
def eqRs(a b:List Rw):Bool:=(ce a.length).all fun i=>eqRw (rwG a i) (rwG b i)
def eqTb(t u:Tb):Bool:=fM t.name u.name&&(eqSs t.attrs u.attrs&&(decide (t.rows.length=u.rows.length)&&eqRs t.rows u.rows))
theorem equal03(t u:Tb)(f g f2 g2:Bool)(ha:t.attrs.length≤1000000)(hr:t.rows.length≤1000000)(hl:∀r∈t.rows,r.vals.length≤1000000∧∀v∈r.vals,v.s.size≤maxLen):aE Tryz.prog 39 [aF f g t,aF f2 g2 u] fun r=>r = .bool (eqTb t u):=by
 have c1:=strings03 t.attrs u.attrs f f2 ha;simp only[LS]at c1;unfold eqTb
 cases h1:(t.name.toList == u.name.toList) with
 | false =>
  rw[fM,h1,fb];refine sPx Tryz.func39 rfl rfl ?_;simp -dsimp[Tryz.f39,ba,aF,LS,LR,h1]
 | true =>
  rw[fM,h1,fk]
  cases h2:eqSs t.attrs u.attrs with
  | false =>
   rw[h2]at c1;rw[fb];refine sPx Tryz.func39 rfl rfl ?_;simp -dsimp[Tryz.f39,ba,aF,LS,LR,h1];refine cPx (c1) (by simp) ?_;simp -dsimp[]
  | true =>
   rw[h2]at c1;rw[fk];by_cases h3:t.rows.length=u.rows.length
   ·rw[decide_eq_true h3,fk];unfold eqRs
    obtain⟨E,hE⟩:∃E,E=(ce t.rows.length).all fun i=>eqRw (rwG t.rows i) (rwG u.rows i):=⟨_,rfl⟩
    rw[←hE];refine sPx Tryz.func39 rfl rfl ?_;simp -dsimp[Tryz.f39,ba,aF,LS,LR,h1];refine cPx (c1) (by simp) ?_;simp -dsimp[h3];refine aR (W_loopM 47 0x7ffff0000030 (by simp[mB]<;>rfl) (σ:=Nat) (fun i=>i≤t.rows.length∧(ce i).all (fun i=>eqRw (rwG t.rows i) (rwG u.rows i))=true) (fun i=>t.rows.length-i) (fun i=>[(5,.int .i64 i)]) (fun _=>[B.cells [.str t.name,.lst 1 f (t.attrs.map V.str),.lst 2 g (t.rows.map aT)],B.cells [.str u.name,.lst 1 f2 (u.attrs.map V.str),.lst 2 g2 (u.rows.map aT)]]) 0 ⟨by omega,rfl⟩ (by simp) (by simp) (by simp) ?_);rintro i ⟨hi,hall⟩ N Q hN hQ;by_cases hb:i<t.rows.length
    ·have hb2:i<u.rows.length:=by omega
     have ha1:rwG t.rows i=t.rows[i]:=by simp[rwG,hb]
     have ha2:rwG u.rows i=u.rows[i]:=by simp[rwG,hb2]
     obtain⟨hx1,hx2⟩:=hl t.rows[i] (cm hb);have c2:=equalRows03 t.rows[i] u.rows[i] hx1 hx2;obtain⟨x,hx⟩:∃x,x=t.rows[i]:=⟨_,rfl⟩;obtain⟨y,hy⟩:∃y,y=u.rows[i]:=⟨_,rfl⟩;rw[←hx]at ha1 c2;rw[←hy]at ha2 c2;have hx':=hx.symm;have hy':=hy.symm;simp only[aT,LV]at c2
     cases hq:eqRw x y with
     | true =>
      rw[hq]at c2;refine wx ?_;simp -dsimp[hb,hb2,hx',hy',aT,LV];refine .inr ⟨bN (by kernel_rfl),?_⟩;refine ag _ (aW (c2) (by simp)) ?_;simp -dsimp[aa i (by omega)];refine hN (i+1) _ _ ⟨by omega,bT hall (by rw[ha1,ha2,hq])⟩ (by omega) (by simp) ⟨[],by simp⟩ (by simp) (by simp)
     | false =>
      rw[hq]at c2
      have hno:(ce t.rows.length).all (fun i=>eqRw (rwG t.rows i) (rwG u.rows i))=false:=by
       cases hh:(ce t.rows.length).all (fun i=>eqRw (rwG t.rows i) (rwG u.rows i))
       ·rfl
       ·have:=List.all_eq_true.1 hh i (by simpa using hb);rw[ha1,ha2,hq]at this;cases this
      rw[hno]at hE;refine wx ?_;simp -dsimp[hb,hb2,hx',hy',aT,LV];refine .inr ⟨bN (by kernel_rfl),?_⟩;refine ag _ (aW (c2) (by simp)) ?_;simp -dsimp[];refine hQ _ _ _ ?_;simp -dsimp[];exact hE
    ·obtain rfl:i=t.rows.length:=by omega
     rw[hall]at hE;refine wx ?_;simp -dsimp[hb];refine hQ _ _ _ ?_;simp -dsimp[];exact hE
   ·rw[decide_eq_false h3,fb];refine sPx Tryz.func39 rfl rfl ?_;simp -dsimp[Tryz.f39,ba,aF,LS,LR,h1];refine cPx (c1) (by simp) ?_;simp -dsimp[show ¬((t.rows.length:Int)=u.rows.length) by omega]
theorem gW:∀vs:List Vl,oQ vs vs=0
 | []=>rfl
 | v::vs=>by
  simp only[oQ,cmpV_self];simpa using gW vs
theorem eqRs_self(a:List Rw):eqRs a a=true:=by simp[eqRs,eqRw,gW]
theorem eqTb_self(t:Tb):eqTb t t=true:=by simp[eqTb,eqSt_self,eqSs_self,eqRs_self]
@[simp ↓ high] theorem rbB_rws (n e z:Nat) (l:List Rw) (fz:Bool):rbB n (.buf e z (l.map aT) fz)↔True:=by
 refine⟨fun _=>trivial,fun _ x hx c hc=>?_⟩;obtain⟨r,_,rfl⟩:=List.mem_map.1 hx;simp[aT,LV,V.cells]at hc
 rcases hc with rfl | rfl<;>simp
@[simp ↓ high] theorem rbB_vls (n e z:Nat) (l:List Vl) (fz:Bool):rbB n (.buf e z (l.map ac) fz)↔True:=by
 refine⟨fun _=>trivial,fun _ x hx c hc=>?_⟩;obtain⟨r,_,rfl⟩:=List.mem_map.1 hx;simp[ac,V.cells]at hc
 rcases hc with rfl | rfl | rfl<;>simp
end
end Go.Proofs.YtpedcgdgjoblkaaGreatDoor
