/- JG14: own texts of this seat, joined and shortened by pack4.py: Wo, Fi, Pa, Pb, No, Pc, A0, Pd, Pe, Ps, Pn, Ph, B0. -/
import Derived.Test.YtdhgchekdkjcpaaGreatDoorJG13
set_option linter.unusedVariables false
set_option linter.unusedSimpArgs false
set_option maxRecDepth 100000
set_option maxHeartbeats 64000000
open Bool renaming or_false→mD
open ByteArray renaming empty→aX
open Int renaming tmod_eq_emod_of_nonneg→kz,eq_ofNat_of_zero_le→lZ
open List renaming replicate→kQ,getElem?_eq_getElem→kR,mem_of_getElem?→kS,take_of_length_le→kV,getElem_mem→kW,nil_append→kX,length_cons→kZ,cons_append→kf,length_take→kg,map_cons→kj,eq_nil_of_length_eq_zero→kr,count_le_length→kw,drop_zero→ky,map_nil→lD,drop_eq_getElem_cons→lH,drop_of_length_le→lf,take→lh,take_succ_cons→ll,take_zero→ly,any_cons→mF,length_drop→mL,any_nil→mR,map_take→mV
namespace Go.Proofs.YtdhgchekdkjcpaaGreatDoor
section
open Go Go.AM Go.Lib
def wdV:Option (List UInt8×List Int)→V
 | some (w,ns)=>.tup [.str (bs w),.lst 1 false (ns.map aD),.bool true]
 | none=>.tup [.str (bs []),.nilS,.bool false]
theorem gW(l:List UInt8)(hl:l.length≤100000):ab Tryz.prog 23 [.str (bs l)] fun r=>r=wdV (rdL l):=by
 obtain⟨w,ws,hw⟩:∃w ws,spl 32 l=w::ws:=by
  cases h:spl 32 l with
  | nil=>exact absurd h (dq 32 l)
  | cons w ws=>exact⟨w,ws,rfl⟩
 have hwl:ws.length≤100000:=by
  have:=cD 32 l;have h2:=kw (a:=(32:UInt8)) (l:=l);rw[hw,kZ]at this;omega
 obtain⟨E,hE⟩:∃E,E=wdV (rdL l):=⟨_,rfl⟩;rw[←hE];refine ay (aB tok Tryz.func23 rfl rfl ?_);refine fM (W_x tok mixed ?_);simp -dsimp[Tryz.f23,kQ];refine fM (W_regionO tok (t:=28) (len:=1) (v:=.buf 0 0 1 1) (H':=[.buf 9 1 [.str (bs [])] false]) rfl rfl rfl (by simp[eK,aC]) ?_);simp;refine wx ?_;simp -dsimp[];refine aS (W_loopM 42 0x3fffffff060 (by simp[mB]<;>rfl) (σ:=Nat) (fun i=>i≤l.length) (fun i=>l.length-i) (fun i=>[(5,.buf 0 0 (spl 32 (l.take i)).length (spl 32 (l.take i)).length),(6,.int .i64 i)]) (fun i=>[B.buf 9 1 ((spl 32 (l.take i)).map fun p=>.str (bs p)) false]) 0 (by simp) (by simp[spl]) (by simp[spl]) (by simp) ?_);rintro i hi N Q hN hQ;have hPn:=dq 32 (l.take i)
 have hPl:(spl 32 (l.take i)).length≤i+1:=by
  rw[cD];have:=kw (a:=(32:UInt8)) (l:=l.take i);rw[kg]at this;omega
 by_cases hb:i<l.length
 ·have hs:=spl_snoc 32 l[i] (l.take i);rw[←ap l hb]at hs;have hx:=bs_ext l hb;obtain⟨b,hbe⟩:∃b,b=l[i]:=⟨_,rfl⟩;have hbe':=hbe.symm;rw[←hbe]at hs hx;obtain⟨P,hP⟩:∃P,P=spl 32 (l.take i):=⟨_,rfl⟩;rw[←hP]at hPn hPl hs ⊢;by_cases h10:b=32
  ·rw[if_pos h10]at hs;subst h10;refine wx ?_;simp -dsimp[hb,aM,bA,hbe',aC,fx P.length (by omega)];refine hN (i+1) _ _ (by omega) (by omega) ?_ ⟨[],?_⟩ (by simp) (by simp)
   ·rw[hs];simp[aC,aO i (by omega)]
   ·rw[hs];simp[aC]
  ·rw[if_neg h10]at hs;obtain⟨p,hp1,hp2⟩:=kK b P hPn;have hn:¬(b.toNat:Int)=32:=ne_toI h10
   have hP1:1≤P.length:=by cases P;exact absurd rfl hPn;simp
   have hpl:p.length≤i:=by
    have h1:=cK 32 _ p (hP▸kS hp1);rw[kg]at h1;omega
   obtain⟨hlt,hpe⟩:=List.getElem?_eq_some_iff.1 hp1;refine wx ?_;simp -dsimp[hb,aM,bA,hbe',hn];refine aS (ai tok mixed [17] [] [] (by kernel_rfl) fun C K hC hK=>?_);simp -implicitDefEqProofs [hb,(show(0:Int)≤(i:Int)+1 by omega),aM,wrapP P.length (by omega) hP1,aO i (by omega),hpe,hx,kF,(show p.length≤9223372036854775806 by omega),(show P.length-1<P.length by omega),(show p.length+1≤9223372036854775807 by omega),(show i≤i+1 by omega),(show i+1≤l.length by omega)];refine hK _ _ ?_;simp -dsimp[aO i (by omega)];refine hN (i+1) _ _ (by omega) (by omega) ?_ ⟨[],?_⟩ (by simp) (by simp)
   ·rw[hs,hp2];simp
   ·rw[hs,hp2,List.map_set];simp
 have e:l.take i=l:=kV (by omega);rw[e,hw];clear hPn hPl hN;refine wx ?_;simp -dsimp[hb,aM];refine hQ _ _ _ ?_;simp -dsimp[];refine aS (W_own 2 1 [7] (by simp) (W_loopM 62 0x3ffffc000000079c (by simp[mB]<;>rfl) (σ:=Nat) (fun i=>i≤ws.length∧∀x∈ws.take i,(bQ x).isSome=true) (fun i=>ws.length-i) (fun i=>[(7,.buf 1 0 ((ws.take i).filterMap bQ).length ((ws.take i).filterMap bQ).length),(8,.int .i64 ((i+1:Nat):Int))]) (fun i=>[B.buf 9 1 ((w::ws).map fun p=>.str (bs p)) false,B.buf 2 1 (((ws.take i).filterMap bQ).map aD) false]) 0 ⟨by omega,by simp⟩ (by simp) (by simp) (by simp) ?_));rintro i ⟨hi,hok⟩ N Q hN hQ
 have hFl:((ws.take i).filterMap bQ).length≤100000:=by
  have h1:=List.length_filterMap_le bQ (ws.take i);rw[kg]at h1;omega
 by_cases hb:i<ws.length
 ·have hm:=kW hb;have htk:=ap ws hb;obtain⟨x,hx⟩:∃x,x=ws[i]:=⟨_,rfl⟩;have hx':=hx.symm;rw[hx']at hm htk;have hp:=number_r x;obtain⟨F,hF⟩:∃F,F=(ws.take i).filterMap bQ:=⟨_,rfl⟩;rw[←hF]at hFl ⊢
  cases hn:bQ x with
  | some n =>
   rw[hn]at hp;unfold nuV at hp;simp only at hp;refine wx ?_;simp -dsimp[hb,hx',(show(0:Int)≤(i:Int)+1 by omega)];refine cPx (hp) (by simp) ?_;simp -dsimp[cap8 F.length (by omega),aD,aa (n:=(i:Int)+1+1) (by omega) (by omega)];refine hN (i+1) _ _ ⟨by omega,fun y hy=>?_⟩ (by omega) ?_ ⟨[],?_⟩ (by simp) (by generalize List.filterMap bQ (lh (i+1) ws)=F2;simp[aD])
   ·rw[htk]at hy
    rcases List.mem_append.1 hy with hy | hy
    ·exact hok y hy
    ·rw[List.mem_singleton.1 hy,hn];rfl
   ·rw[htk,List.filterMap_append,←hF];simp[hn]
   ·rw[htk,List.filterMap_append,←hF];simp[hn,aD]
  | none =>
   have hE2:E = .tup [.str (bs []),.nilS,.bool false]:=by rw[hE,rdL_none hw hm hn];rfl
   rw[hn]at hp;unfold nuV at hp;simp only at hp;refine wx ?_;simp -dsimp[hb,hx',(show(0:Int)≤(i:Int)+1 by omega)];refine cPx (hp) (by simp) ?_;simp -dsimp[];refine hQ _ _ _ ?_;simp -dsimp[];rw[hE2];exact⟨.pure _ (by simp),by simp⟩
 ·have e:ws.take i=ws:=kV (by omega);rw[e]at hok hFl ⊢
  have hE2:E=wdV (some (w,ws.filterMap bQ)):=by rw[hE,rdL_some hw hok]
  obtain⟨F,hF⟩:∃F,F=ws.filterMap bQ:=⟨_,rfl⟩;rw[←hF]at hE2 hFl ⊢;refine wx ?_;simp -dsimp[hb];refine hQ _ _ _ ?_;simp -dsimp[];rw[hE2];refine⟨?_,by simp[wdV]⟩;refine .tup _ _ rfl (fun j c d hc hd=>?_)
  match j with
  | 0=>simp[wdV]at hc hd;subst hc;subst hd;exact .pure _ (by simp)
  | 1=>simp[wdV]at hc hd;subst hc;subst hd;exact bJ (k:=1) (e:=2) (fz:=false) rfl (by simp) (by simp)
  | 2=>simp[wdV]at hc hd;subst hc;subst hd;exact .pure _ (by simp)
  | m+3=>simp at hc
theorem dj(n:Int):ab Tryz.prog 50 [.int .i64 n] fun r=>r = .bool (decide (isS n)):=by
 by_cases h0:0≤n
 ·by_cases h1:n<4294967296
  ·rw[decide_eq_true (show isS n from⟨h0,h1⟩)];refine sPx Tryz.func50 rfl rfl ?_;simp -dsimp[Tryz.f50,kQ,h0,h1]
  ·rw[decide_eq_false (fun h:isS n=>h1 h.2)];refine sPx Tryz.func50 rfl rfl ?_;simp -dsimp[Tryz.f50,kQ,h0,h1]
 ·rw[decide_eq_false (fun h:isS n=>h0 h.1)];refine sPx Tryz.func50 rfl rfl ?_;simp -dsimp[Tryz.f50,kQ,h0]
def aH(k w:Int)(l r:Nat):V:=.agg [.int .i64 k,.nilS,.int .i64 w,.nilS,.nilS,.str aX,.nilS,.nilS,.nilS,.nilS,.nilS,.nilS,.nilS,.int .u32 (l:Int),.int .u32 (r:Int)]
@[simp] theorem certN_pure (k w:Int) (l r:Nat):AM.Pure (aH k w l r):=by simp[aH]
theorem dD{n:Int}(h:isS n):IntKind.u32.wrap n=((n.toNat:Nat):Int):=by
 obtain⟨h1,h2⟩:=h;rw[IntKind.wrap_u32];omega
def ie(o:Option Cert)(r:V):Prop:=match o with
 | some c=>r = .tup [aH c.k c.w c.g.l c.g.r,.bool true]
 | none=>∃k,r = .tup [aH k 0 0 0,.bool false]
theorem dt{α:Type}{l:List α}(h:l.length=1):∃a,l=[a]:=by
 match l,h with
 | [a],_=>exact⟨a,rfl⟩
theorem jP{α:Type}{l:List α}(h:l.length=2):∃a b,l=[a,b]:=by
 match l,h with
 | [a,b],_=>exact⟨a,b,rfl⟩
theorem jv(ns:List Int):ac dG ns=if ns.length=0 then some { aF with k:=2 } else none:=by
 unfold ac;rw[if_neg (fun h=>by cases h.1)];by_cases h:ns.length=0
 ·rw[if_pos ⟨rfl,h⟩,if_pos h]
 ·rw[if_neg (fun h2=>h h2.2),if_neg (fun h2=>by cases h2.1),if_neg (fun h2=>by cases h2.1),if_neg h]
theorem iq(ns:List Int):ac cC ns=if ns.length=0 then some { aF with k:=3 } else none:=by
 unfold ac;rw[if_neg (fun h=>by cases h.1),if_neg (fun h=>by cases h.1)];by_cases h:ns.length=0
 ·rw[if_pos ⟨rfl,h⟩,if_pos h]
 ·rw[if_neg (fun h2=>h h2.2),if_neg (fun h2=>by cases h2.1),if_neg h]
theorem gv(ns:List Int):ac bD ns=if ns.length=2∧isS (gN ns 0)∧isS (gN ns 1) then some { aF with k:=4,g:=⟨(gN ns 0).toNat,(gN ns 1).toNat⟩ } else none:=by
 unfold ac;rw[if_neg (fun h=>by cases h.1),if_neg (fun h=>by cases h.1),if_neg (fun h=>by cases h.1)];by_cases h:ns.length=2∧isS (gN ns 0)∧isS (gN ns 1)
 ·rw[if_pos ⟨rfl,h⟩,if_pos h]
 ·rw[if_neg (fun h2=>h h2.2),if_neg h]
theorem firstC_no{w:List UInt8}(h1:¬w=dM)(h2:¬w=dG)(h3:¬w=cC)(h4:¬w=bD)(ns:List Int):ac w ns=none:=by
 unfold ac;rw[if_neg (fun h=>h1 h.1),if_neg (fun h=>h2 h.1),if_neg (fun h=>h3 h.1),if_neg (fun h=>h4 h.1)]
theorem gq(w:List UInt8)(f:Bool)(ns:List Int):ab Tryz.prog 24 [.str (bs w),.lst 1 f (ns.map aD)] (ie (ac w ns)):=by
 by_cases h1:w=dM
 ·subst h1;by_cases hn:ns.length=1
  ·obtain⟨a,rfl⟩:=dt hn
   have e:ac dM [a]=some { aF with k:=1,w:=a }:=by rfl
   rw[e];refine sPx Tryz.func24 rfl rfl ?_;simp -dsimp[Tryz.f24,kQ,dM,aC,aD,ie,aH];simp[aF]
  ·have e:ac dM ns=none:=by
    unfold ac;rw[if_neg (fun h=>hn h.2),if_neg (fun h=>by cases h.1),if_neg (fun h=>by cases h.1),if_neg (fun h=>by cases h.1)]
   rw[e]
   have hn2:¬(ns.length:Int)=1:=by omega
   refine sPx Tryz.func24 rfl rfl ?_;simp -dsimp[Tryz.f24,kQ,dM,aC,hn2,ie,aH]
 have n1:¬(bs w).toList=(bs [100,101,108,101,116,101,115]).toList:=ae h1;by_cases h2:w=dG
 ·subst h2;have n1:¬(bs [99,104,97,110,103,101,115]).toList=(bs [100,101,108,101,116,101,115]).toList:=n1;rw[jv];by_cases hn:ns.length=0
  ·rw[if_pos hn];obtain rfl:ns=[]:=kr hn;refine sPx Tryz.func24 rfl rfl ?_;simp -dsimp[Tryz.f24,kQ,dG,aC,n1,ie,aH];simp[aF]
  ·rw[if_neg hn]
   have hn2:¬ns=[]:=fun h=>hn (by rw[h];rfl)
   refine sPx Tryz.func24 rfl rfl ?_;simp -dsimp[Tryz.f24,kQ,dG,aC,n1,hn2,ie,aH]
 have n2:¬(bs w).toList=(bs [99,104,97,110,103,101,115]).toList:=ae h2;by_cases h3:w=cC
 ·subst h3;have n1:¬(bs [107,101,121,115]).toList=(bs [100,101,108,101,116,101,115]).toList:=n1;have n2:¬(bs [107,101,121,115]).toList=(bs [99,104,97,110,103,101,115]).toList:=n2;rw[iq];by_cases hn:ns.length=0
  ·rw[if_pos hn];obtain rfl:ns=[]:=kr hn;refine sPx Tryz.func24 rfl rfl ?_;simp -dsimp[Tryz.f24,kQ,cC,aC,n1,n2,ie,aH];simp[aF]
  ·rw[if_neg hn]
   have hn2:¬ns=[]:=fun h=>hn (by rw[h];rfl)
   refine sPx Tryz.func24 rfl rfl ?_;simp -dsimp[Tryz.f24,kQ,cC,aC,n1,n2,hn2,ie,aH]
 have n3:¬(bs w).toList=(bs [107,101,121,115]).toList:=ae h3;by_cases h4:w=bD
 ·subst h4;have n1:¬(bs [112,114,111,111,102]).toList=(bs [100,101,108,101,116,101,115]).toList:=n1;have n2:¬(bs [112,114,111,111,102]).toList=(bs [99,104,97,110,103,101,115]).toList:=n2;have n3:¬(bs [112,114,111,111,102]).toList=(bs [107,101,121,115]).toList:=n3;rw[gv];by_cases hn:ns.length=2
  ·obtain⟨a,b,rfl⟩:=jP hn;have ga:gN [a,b] 0=a:=rfl;have gb:gN [a,b] 1=b:=rfl;rw[ga,gb];have ca:=dj a;have cb:=dj b;by_cases ha:isS a
   ·rw[decide_eq_true ha]at ca;by_cases hb:isS b
    ·rw[decide_eq_true hb]at cb;rw[if_pos ⟨hn,ha,hb⟩];refine sPx Tryz.func24 rfl rfl ?_;simp -dsimp[Tryz.f24,kQ,bD,aC,n1,n2,n3,aD,ie,aH];refine cPx (ca) (by simp) ?_;simp -dsimp[];refine cPx (cb) (by simp) ?_;simp -dsimp[];refine aS (ai tok mixed [10] [] [] (by kernel_rfl) fun C K hC hK=>?_);simp -implicitDefEqProofs [aD,dD ha,dD hb];refine hK _ _ ?_;simp -dsimp[];simp[aF,ie,aH]
    ·rw[decide_eq_false hb]at cb;rw[if_neg (fun h=>hb h.2.2)];refine sPx Tryz.func24 rfl rfl ?_;simp -dsimp[Tryz.f24,kQ,bD,aC,n1,n2,n3,aD,ie,aH];refine cPx (ca) (by simp) ?_;simp -dsimp[];refine cPx (cb) (by simp) ?_;simp -dsimp[];exact⟨0,by simp[aH]⟩
   ·rw[decide_eq_false ha]at ca;rw[if_neg (fun h=>ha h.2.1)];refine sPx Tryz.func24 rfl rfl ?_;simp -dsimp[Tryz.f24,kQ,bD,aC,n1,n2,n3,aD,ie,aH];refine cPx (ca) (by simp) ?_;simp -dsimp[];exact⟨0,by simp[aH]⟩
  ·rw[if_neg (fun h=>hn h.1)]
   have hn2:¬(ns.length:Int)=2:=by omega
   refine sPx Tryz.func24 rfl rfl ?_;simp -dsimp[Tryz.f24,kQ,bD,aC,n1,n2,n3,hn2,ie,aH]
 have n4:¬(bs w).toList=(bs [112,114,111,111,102]).toList:=ae h4;rw[firstC_no h1 h2 h3 h4];refine sPx Tryz.func24 rfl rfl ?_;simp -dsimp[Tryz.f24,kQ,aC,n1,n2,n3,n4,ie,aH]
def ixG(p:Int→Bool)(es:List Int)(i:Nat):Int:=if h:i<es.length then(if p es[i] then(i:Int) else ixG p es (i+1)) else -1
termination_by es.length-i
theorem ixG_any(p:Int→Bool)(es:List Int)(i:Nat):decide (0≤ixG p es i)=(es.drop i).any p:=by
 fun_induction ixG p es i with
 | case1 i h h0=>rw[lH h,mF,h0];simp
 | case2 i h h0 ih=>rw[lH h,mF,ih];simp[h0]
 | case3 i h=>rw[lf (by omega)];rfl
theorem idxFunc64(H:List B)(fv:V)(p:Int→Bool)(es:List Int)(g:Bool)(hes:es.length≤1000000)(hH:∀bl∈H,rbB H.length bl)(hfv:rb H.length fv)
  (hp:∀m∈es,af Tryz.prog fv [.int .i64 m] H fun r H'=>r = .bool (p m)∧H'=H):aq Tryz.prog 186 [L1 g es,fv] H fun r H'=>r = .int .i64 (ixG p es 0)∧H'=H:=by
 refine aB tok Tryz.func186 rfl rfl ?_;refine wx ?_;simp -dsimp[Tryz.f186,kQ,L1];refine aS (W_loopM 19 0x7ff30 (by simp[mB]<;>rfl) (σ:=Nat) (fun i=>ixG p es i=ixG p es 0) (fun i=>es.length-i) (fun i=>[(8,.int .i64 i)]) (fun _=>H) 0 rfl (by simp) rfl (by simp) ?_);intro i hx N Q hN hQ;by_cases hb:i<es.length
 ·rw[ixG,dif_pos hb]at hx;have hc:=hp es[i] (kW hb);cases hq:p es[i]
  ·rw[hq]at hc hx;refine wx ?_;simp -dsimp[hb,aD];refine hc.mono ?_;rintro r H' ⟨rfl,rfl⟩;simp -dsimp[aO i (by omega)];refine hN (i+1) _ _ (by simpa using hx) (by omega) (by simp) ⟨[],by simp⟩ (by simp;exact hfv) hH
  ·rw[hq]at hc hx;refine wx ?_;simp -dsimp[hb,aD];refine hc.mono ?_;rintro r H' ⟨rfl,rfl⟩;simp -dsimp[];refine hQ _ _ _ ?_;simp -dsimp[];simpa using hx
 ·rw[ixG,dif_neg hb]at hx;refine wx ?_;simp -dsimp[hb];refine hQ _ _ _ ?_;simp -dsimp[];simpa using hx
theorem contFunc64(H:List B)(fv:V)(p:Int→Bool)(es:List Int)(g:Bool)(hes:es.length≤1000000)(hH:∀bl∈H,rbB H.length bl)(hfv:rb H.length fv)
  (hp:∀m∈es,af Tryz.prog fv [.int .i64 m] H fun r H'=>r = .bool (p m)∧H'=H):aq Tryz.prog 121 [L1 g es,fv] H fun r H'=>r = .bool (es.any p)∧H'=H:=by
 have h0:=ixG_any p es 0;rw[ky]at h0;have hc:=idxFunc64 H fv p es g hes hH hfv hp;refine aB tok Tryz.func121 rfl rfl ?_;refine wx ?_;simp -dsimp[Tryz.f121,kQ];refine af.mono (K:=fun r H'=>r = .int .i64 (ixG p es 0)∧H'=H) hc ?_;rintro r H' ⟨rfl,rfl⟩;simp -dsimp[];rw[←h0]
def lnV(w:List UInt8)(ns:List Int):V:=.agg [.str (bs w),.lst 1 false (ns.map aD)]
@[simp] theorem lnV_pure (w:List UInt8) (ns:List Int):AM.Pure (lnV w ns):=by simp[lnV]
theorem cq(w:List UInt8)(ns:List Int)(n:Nat):ab Tryz.prog 44 [lnV w ns,.int .i64 n] fun r=>r = .bool (decide (ns.length=n)):=by
 by_cases h:ns.length=n
 ·have h2:(ns.length:Int)=(n:Int):=by omega
  rw[decide_eq_true h];refine sPx Tryz.func44 rfl rfl ?_;simp -dsimp[Tryz.f44,kQ,lnV,h2]
 ·have h2:¬(ns.length:Int)=(n:Int):=by omega
  rw[decide_eq_false h];refine sPx Tryz.func44 rfl rfl ?_;simp -dsimp[Tryz.f44,kQ,lnV,h2]
theorem noset_c(n:Int):ab Tryz.prog 122 [.int .i64 n] fun r=>r = .bool (!decide (isS n)):=by
 by_cases h0:n<0
 ·rw[decide_eq_false (fun h:isS n=>by have:=h.1;omega)];refine sPx Tryz.func122 rfl rfl ?_;simp -dsimp[Tryz.f122,kQ,h0]
 ·by_cases h1:4294967295<n
  ·rw[decide_eq_false (fun h:isS n=>by have:=h.2;omega)];refine sPx Tryz.func122 rfl rfl ?_;simp -dsimp[Tryz.f122,kQ,h0,h1]
  ·rw[decide_eq_true (show isS n from⟨by omega,by omega⟩)];refine sPx Tryz.func122 rfl rfl ?_;simp -dsimp[Tryz.f122,kQ,h0,h1]
theorem jR(w:List UInt8)(ns:List Int)(a b:Nat)(hab:a≤b)(hb:b≤ns.length)(hl:ns.length≤100000):ab Tryz.prog 75 [lnV w ns,.int .i64 a,.int .i64 b] fun r=>r = .bool (!((ns.take b).drop a).any fun n=>!decide (isS n)):=by
 have hc:=contFunc64 [B.cells [.str (bs w),.lst 1 false (ns.map aD)]] (.fn 122 []) (fun n=>!decide (isS n)) ((ns.take b).drop a) false (by rw[mL,kg];omega) (by simp) (by simp) (fun m _=>cr (noset_c m) (by simp));simp only[L1]at hc;rw[List.map_drop,mV]at hc;refine sPx Tryz.func75 rfl rfl ?_;simp -dsimp[Tryz.f75,kQ,lnV,hab,hb];refine wcE hc ?_;simp -dsimp[]
theorem at_c(R0:B)(c0 c1 c2 c3 c4 c5 c6 c7 c8 c9 c10 c11 c12 c13 c14:V)(R:List B)(s t:Nat)(d ok:Bool):
  aq Tryz.prog 77 [.ptr 1 0,.int .i64 t,.bool ok] (R0::B.cells [c0,c1,c2,c3,c4,c5,c6,c7,c8,c9,c10,c11,c12,c13,c14,.int .i64 s,.bool d]::R)
   fun r H'=>r = .bool (ok&&decide (s≤t))∧H'=R0::B.cells [c0,c1,c2,c3,c4,c5,c6,c7,c8,c9,c10,c11,c12,c13,c14,.int .i64 (if ok&&decide (s≤t) then t else s:Nat),.bool d]::R:=by
 cases ok with
 | false =>
  refine aB tok Tryz.func77 rfl rfl ?_;refine wx ?_;simp -dsimp[Tryz.f77,kQ]
 | true =>
  by_cases h:s≤t
  ·have h2:¬(t:Int)<(s:Int):=by omega
   refine aB tok Tryz.func77 rfl rfl ?_;refine wx ?_;simp -dsimp[Tryz.f77,kQ,h2];exact⟨h,by rw[if_pos h]⟩
  ·have h2:(t:Int)<(s:Int):=by omega
   refine aB tok Tryz.func77 rfl rfl ?_;refine wx ?_;simp -dsimp[Tryz.f77,kQ,h2];exact⟨by omega,by rw[if_neg h]⟩
def ndV:Option Cnd→V
 | some x=>.tup [aE x,.bool true]
 | none=>.tup [.agg [.int .i64 0,.nilS],.bool false]
theorem shN_at:∀(l:List Csh) (j:Nat) (y:Csh),l[j]?=some y→(shN l)[2*j]?=some y.e∧(shN l)[2*j+1]?=some y.a
 | [],j,y,h=>by simp at h
 | x::l,0,y,h=>by
  simp at h;subst h;exact⟨rfl,rfl⟩
 | x::l,j+1,y,h=>by
  have:=shN_at l j y (by simpa using h);have e:shN (x::l)=x.e::x.a::shN l:=rfl;rw[e,show 2*(j+1)=2*j+1+1 by omega];simpa using this
theorem dI(w:List UInt8)(f:Bool)(ns:List Int)(hl:ns.length≤100000):ab Tryz.prog 51 [.str (bs w),.lst 1 f (ns.map aD)] fun r=>r=ndV (aW w ns):=by
 by_cases h1:w=au
 ·subst h1;by_cases hn:ns.length=1
  ·obtain⟨a,rfl⟩:=dt hn;have ga:gN [a] 0=a:=rfl;by_cases ha:0≤a
   ·have e:aW au [a]=some ⟨a,[]⟩:=by unfold aW;rw[if_pos ⟨rfl,rfl,ha⟩,ga]
    rw[e];refine iC (v:=.tup [.agg [.int .i64 a,.nilS],.bool true]) ?_ ?_ (by simp[ndV])
    ·refine sPx Tryz.func51 rfl rfl ?_;simp -dsimp[Tryz.f51,kQ,au,aC,aD,ha]
    ·refine .tup _ _ rfl (fun j c d hc hd=>?_)
     match j with
     | 0 =>
      simp[ndV]at hc hd;subst hc;subst hd;refine .agg _ _ rfl (fun j c d hc hd=>?_)
      match j with
      | 0=>simp at hc hd;subst hc;subst hd;exact .refl _
      | 1=>simp[ag]at hc hd;subst hc;subst hd;exact .nil _ _
      | m+2=>simp at hc
     | 1=>simp[ndV]at hc hd;subst hc;subst hd;exact .refl _
     | m+2=>simp at hc
   ·have e:aW au [a]=none:=by unfold aW;rw[if_neg (fun h=>ha h.2.2),if_neg (fun h=>by cases h.1)]
    rw[e];have n1:¬(bs [110,111,100,101]).toList=(bs [108,101,97,102]).toList:=ae (by decide);refine sPx Tryz.func51 rfl rfl ?_;simp -dsimp[Tryz.f51,kQ,au,aC,aD,ha,n1,ndV]
  ·have e:aW au ns=none:=by unfold aW;rw[if_neg (fun h=>hn h.2.1),if_neg (fun h=>by cases h.1)]
   rw[e];have n1:¬(bs [110,111,100,101]).toList=(bs [108,101,97,102]).toList:=ae (by decide)
   have hn2:¬(ns.length:Int)=1:=by omega
   refine sPx Tryz.func51 rfl rfl ?_;simp -dsimp[Tryz.f51,kQ,au,aC,hn2,n1,ndV]
 have n1:¬(bs w).toList=(bs [110,111,100,101]).toList:=ae h1;by_cases h2:w=bc
 case neg =>
  have e:aW w ns=none:=by unfold aW;rw[if_neg (fun h=>h1 h.1),if_neg (fun h=>h2 h.1)]
  rw[e];have n2:¬(bs w).toList=(bs [108,101,97,102]).toList:=ae h2;refine sPx Tryz.func51 rfl rfl ?_;simp -dsimp[Tryz.f51,kQ,aC,n1,n2,ndV]
 subst h2;have n1:¬(bs [108,101,97,102]).toList=(bs [110,111,100,101]).toList:=n1;by_cases hev:ns.length % 2=0
 case neg =>
  have e:aW bc ns=none:=by unfold aW;rw[if_neg (fun h=>h1 h.1),if_neg (fun h=>hev h.2)]
  rw[e]
  have hn2:¬((ns.length:Int) % 2=0):=by omega
  have hn3:¬((ns.length:Int).tmod 2=0):=by rw[kz (by omega)];omega
  refine sPx Tryz.func51 rfl rfl ?_;simp -dsimp[Tryz.f51,kQ,bc,aC,n1,hn2,hn3,ndV]
 have e:aW bc ns=some ⟨-1,shP ns⟩:=by unfold aW;rw[if_neg (fun h=>h1 h.1),if_pos ⟨rfl,hev⟩]
 rw[e];have hsn:=shN_P ns hev;obtain⟨sh,hsh⟩:∃sh,sh=shP ns:=⟨_,rfl⟩;rw[←hsh]at hsn ⊢;have hlz:=fB sh;rw[hsn]at hlz
 have hn2:(ns.length:Int) % 2=0:=by omega
 have hn3:(ns.length:Int).tmod 2=0:=by rw[kz (by omega)];omega
 refine ay (aB tok Tryz.func51 rfl rfl ?_);refine wx ?_;simp -dsimp[Tryz.f51,kQ,bc,aC,n1,hn2,hn3]
 have hshl:sh.length≤50000:=by omega
 refine aS (ba 139 2 [] 1 [1] rfl (by simp) (by simp) (W_loopM 56 0xfffff800000080 (by simp[mB]<;>rfl) (σ:=Nat) (fun j=>j≤sh.length) (fun j=>sh.length-j) (fun j=>[(7,.int .i64 ((2*j:Nat):Int))]) (fun j=>[B.cells [.int .i64 0,.nilS],B.cells [.int .i64 (-1),.buf 2 0 j j],B.buf 139 2 ((sh.take j).map aN) false]) 0 (by simp) (by simp) (by simp) (by simp) ?_));rintro j hj N Q hN hQ;obtain⟨m,hm⟩:∃m,m=2*j:=⟨_,rfl⟩;rw[←hm]
 have hjl:(sh.take j).length=j:=by rw[kg];omega
 by_cases hb:j<sh.length
 ·have hmb:m<ns.length:=by omega
  have hmb2:m+1<ns.length:=by omega
  obtain⟨y,hy⟩:∃y,sh[j]?=some y:=⟨_,kR hb⟩;obtain⟨a1,a2⟩:=shN_at sh j y hy;rw[hsn,←hm]at a1 a2;obtain⟨q1,b1⟩:=List.getElem?_eq_some_iff.1 a1;obtain⟨q2,b2⟩:=List.getElem?_eq_some_iff.1 a2
  have htk:sh.take (j+1)=sh.take j++[y]:=by rw[ap sh hb];rw[kR hb]at hy;rw[Option.some.inj hy]
  obtain⟨S,hS⟩:∃S,S=sh.take j:=⟨_,rfl⟩;rw[←hS]at hjl htk ⊢;refine wx ?_;simp -dsimp[hmb];refine aS (ai tok mixed [13,15] [] [] (by kernel_rfl) fun C K hC hK=>?_);simp -implicitDefEqProofs [(show(0:Int)≤(m:Int)+1 by omega),hmb,hmb2,aO m (by omega),b1,b2,aD,fx j (by omega),hjl];refine hK _ _ ?_;simp -dsimp[aa (n:=(m:Int)+2) (by omega) (by omega)];refine hN (j+1) _ _ (by omega) (by omega) ?_ ⟨[],?_⟩ (by simp) (by generalize lh (j+1) sh=S2;simp[aN])
  ·simp;omega
  ·rw[htk];simp[aN]
 ·have e:sh.take j=sh:=kV (by omega)
  have hje:j=sh.length:=by omega
  rw[e];refine wx ?_;simp -dsimp[(show ¬m<ns.length by omega)];refine hQ _ _ _ ?_;simp -dsimp[];refine⟨?_,by simp[ndV]⟩;refine .tup _ _ rfl (fun i c d hc hd=>?_)
  match i with
  | 0=>simp[ndV]at hc hd;subst hc;subst hd;exact ExpX.agg2 (.pure _ (by simp)) (bJ (k:=2) (e:=139) (fz:=false) rfl (by simp[hje]) (by simp))
  | 1=>simp[ndV]at hc hd;subst hc;subst hd;exact .pure _ (by simp)
  | m+2=>simp at hc
theorem eS{fr fr':List V}{H H1 H2:List B}(h:Rp fr H fr' H1)(e:H1=H2):Rp fr H fr' H2:=e▸h
def cV(R0:B)(wt:Int)(del:List Int)(prf:List Cnd)(st:Nat)(dn:Bool):List B :=
 [R0,B.cells [.int .i64 1,.buf 2 0 del.length del.length,.int .i64 wt,.buf 3 0 prf.length prf.length,.nilS,.str aX,.nilS,.nilS,.nilS,.nilS,.nilS,.nilS,.nilS,.int .u32 0,.int .u32 0,.int .i64 (st:Nat),.bool dn],
  B.buf 2 1 (del.map aD) false,B.buf 108 2 (prf.map aE) false]
def LnB(w:List UInt8)(ns:List Int):B:=B.cells [.str (bs w),.lst 1 false (ns.map aD)]
def Nd1R(R0:B)(wt:Int)(del:List Int)(prf:List Cnd)(o:Option Cnd)(r:V)(H':List B):Prop:=match o with
 | some x=>r = .bool true∧∃G,H'=cV R0 wt del (prf++[x]) 3 false++G
 | none=>r = .bool false∧∃G,H'=R0::G
theorem node_c1(R0:B)(hR0:∀n,rbB n R0)(wt:Int)(del:List Int)(prf:List Cnd)(s:Nat)(hs:s≤3)(w:List UInt8)(ns:List Int)(hl:ns.length≤100000)(hp:prf.length≤100000):
  ∃b H0,aq Tryz.prog 76 [.ptr 1 0,lnV w ns,.ptr 1 3] (cV R0 wt del prf s false++[LnB w ns,LnB w ns,LnB w ns]) (fun r H'=>r = .bool b∧H'=H0)∧Nd1R R0 wt del prf (aW w ns) (.bool b) H0:=by
 have hcap:prf.length≤9223372036854775806∧(prf.length+1)*32≤140737488355328:=by omega
 have hat:∀R ok,_:=fun R ok=>at_c R0 (.int .i64 1) (.buf 2 0 del.length del.length) (.int .i64 wt) (.buf 3 0 prf.length prf.length) .nilS (.str aX) .nilS .nilS .nilS .nilS .nilS .nilS .nilS (.int .u32 0) (.int .u32 0) R s 3 false ok
 by_cases h1:w=au
 ·subst h1;have n1:¬(bs [110,111,100,101]).toList=(bs [108,101,97,102]).toList:=ae (by decide);have hh:=cq au ns 1;by_cases hn:ns.length=1
  ·obtain⟨a,rfl⟩:=dt hn;rw[decide_eq_true hn]at hh;simp only[lnV,au,kj,lD,aD]at hh;have ga:gN [a] 0=a:=rfl;by_cases ha:0≤a
   ·have e:aW au [a]=some ⟨a,[]⟩:=by unfold aW;rw[if_pos ⟨rfl,rfl,ha⟩,ga]
    rw[e]
    have hna:¬a<0:=by omega
    refine⟨true,[R0,B.cells [.int .i64 1,.buf 2 0 del.length del.length,.int .i64 wt,.buf 3 0 (prf.length+1) (prf.length+1),.nilS,.str aX,.nilS,.nilS,.nilS,.nilS,.nilS,.nilS,.nilS,.int .u32 0,.int .u32 0,.int .i64 3,.bool false],B.buf 2 1 (del.map aD) false,B.buf 108 2 (prf.map aE++[aE ⟨a,[]⟩]) false,B.cells [.str (bs [110,111,100,101]),.lst 1 false [.int .i64 a]],B.cells [.str (bs [110,111,100,101]),.lst 1 false [.int .i64 a]],B.cells [.str (bs [110,111,100,101]),.lst 1 false [.int .i64 a]],B.cells [.str (bs [110,111,100,101]),.lst 1 false [.int .i64 a]],B.cells [.int .i64 a,.nilS]],bF ?g1,?g2⟩
    case g1 =>
     refine aB tok Tryz.func76 rfl rfl ?_;refine wx ?_;simp -dsimp[Tryz.f76,kQ,cV,LnB,lnV,au,aC,n1,aD];refine cPx (hh) (by simp) ?_;simp -dsimp[ha];refine wcE (hat _ true) ?_;simp -dsimp[hs,ha,hna];refine aS (ai tok mixed [6,8] [(0,[1])] [] (by kernel_rfl) fun C K hC hK=>?_);simp -implicitDefEqProofs [hcap];refine hK _ _ ?_;simp -dsimp[];refine eS (rp_E 3 prf.length (x:=.agg [.int .i64 a,.nilS]) (y:=aE ⟨a,[]⟩) rfl (by simp) rfl (by simp[aE,ag,V.cells,V.one]) (fun j c d hc hd=>?_)) (by simp)
     match j with
     | 0=>simp[V.cells,aE]at hc hd;subst hc;subst hd;exact cx _ _
     | 1=>simp[V.cells,aE,ag]at hc hd;subst hc;subst hd;exact wk_nil _ _ _
     | m+2=>simp[V.cells]at hc
    case g2 =>
     unfold Nd1R;refine⟨rfl,[LnB au [a],LnB au [a],LnB au [a],LnB au [a],B.cells [.int .i64 a,.nilS]],?_⟩;simp[cV,LnB,au,aD]
   ·have e:aW au [a]=none:=by unfold aW;rw[if_neg (fun h=>ha h.2.2),if_neg (fun h=>by cases h.1)]
    rw[e];refine⟨false,R0::?H11,bF ?g11,rfl,_,rfl⟩
    case g11 =>
     refine aB tok Tryz.func76 rfl rfl ?_;refine wx ?_;simp -dsimp[Tryz.f76,kQ,cV,LnB,lnV,au,aC,n1,aD];refine cPx (hh) (by simp) ?_;simp -dsimp[ha];refine wcE (hat _ false) ?_;simp -dsimp[hs,ha];exact dc _ _
  ·rw[decide_eq_false hn]at hh
   have e:aW au ns=none:=by unfold aW;rw[if_neg (fun h=>hn h.2.1),if_neg (fun h=>by cases h.1)]
   rw[e];simp only[lnV,au]at hh;refine⟨false,R0::?H12,bF ?g12,rfl,_,rfl⟩
   case g12 =>
    refine aB tok Tryz.func76 rfl rfl ?_;refine wx ?_;simp -dsimp[Tryz.f76,kQ,cV,LnB,lnV,au,aC,n1];refine cPx (hh) (by simp) ?_;simp -dsimp[];refine wcE (hat _ false) ?_;simp -dsimp[hs];exact dc _ _
 have n1:¬(bs w).toList=(bs [110,111,100,101]).toList:=ae h1;by_cases h2:w=bc
 case neg =>
  have e:aW w ns=none:=by unfold aW;rw[if_neg (fun h=>h1 h.1),if_neg (fun h=>h2 h.1)]
  rw[e];have n2:¬(bs w).toList=(bs [108,101,97,102]).toList:=ae h2;refine⟨false,R0::?H13,bF ?g13,rfl,_,rfl⟩
  case g13 =>
   refine aB tok Tryz.func76 rfl rfl ?_;refine wx ?_;simp -dsimp[Tryz.f76,kQ,cV,LnB,lnV,aC,n1,n2];refine wcE (hat _ false) ?_;simp -dsimp[hs];exact dc _ _
 subst h2;have n1:¬(bs [108,101,97,102]).toList=(bs [110,111,100,101]).toList:=n1;by_cases hev:ns.length % 2=0
 case neg =>
  have e:aW bc ns=none:=by unfold aW;rw[if_neg (fun h=>h1 h.1),if_neg (fun h=>hev h.2)]
  rw[e]
  have hn3:¬((ns.length:Int).tmod 2=0):=by rw[kz (by omega)];omega
  have hn4:((ns.length:Int).tmod 2 == 0)=false:=by simpa using hn3
  refine⟨false,R0::?H14,bF ?g14,rfl,_,rfl⟩
  case g14 =>
   refine aB tok Tryz.func76 rfl rfl ?_;refine wx ?_;simp -dsimp[Tryz.f76,kQ,cV,LnB,lnV,bc,aC,n1,hn4];refine wcE (hat _ false) ?_;simp -dsimp[hs];exact dc _ _
 have e:aW bc ns=some ⟨-1,shP ns⟩:=by unfold aW;rw[if_neg (fun h=>h1 h.1),if_pos ⟨rfl,hev⟩]
 rw[e];have hsn:=shN_P ns hev;obtain⟨sh,hsh⟩:∃sh,sh=shP ns:=⟨_,rfl⟩;rw[←hsh]at hsn ⊢;have hlz:=fB sh;rw[hsn]at hlz
 have hshl:sh.length≤50000:=by omega
 have hn2:(ns.length:Int) % 2=0:=by omega
 have hn3:(ns.length:Int).tmod 2=0:=by rw[kz (by omega)];omega
 obtain⟨L,hL⟩:∃L,L=LnB bc ns:=⟨_,rfl⟩
 have hLr:∀n,rbB n L:=fun n=>by rw[hL];simp[LnB]
 have hL':B.cells [.str (bs [108,101,97,102]),.lst 1 false (ns.map aD)]=L:=hL.symm;refine⟨true,[R0,B.cells [.int .i64 1,.buf 2 0 del.length del.length,.int .i64 wt,.buf 3 0 (prf.length+1) (prf.length+1),.nilS,.str aX,.nilS,.nilS,.nilS,.nilS,.nilS,.nilS,.nilS,.int .u32 0,.int .u32 0,.int .i64 3,.bool false],B.buf 2 1 (del.map aD) false,B.buf 108 2 (prf.map aE++[aE ⟨-1,sh⟩]) false,L,L,L,B.cells [.str (bs [108,101,97,102]),.lst 1 false (ns.map aD)],B.cells [.int .i64 (-1),.buf 9 0 sh.length sh.length],B.buf 139 2 (sh.map aN) true],bF ?_,?_⟩
 ·rw[←hL];refine aB tok Tryz.func76 rfl rfl ?_;refine wx ?_;simp -dsimp[Tryz.f76,kQ,cV,lnV,bc,aC,n1,hn2,hn3];refine wcE (hat _ true) ?_;simp -dsimp[hs];refine aS (ba 139 2 [] 8 [1] rfl (by simp) (by simp) (W_loopM 67 0x7fffff80000000200 (by simp[mB]<;>rfl) (σ:=Nat) (fun j=>j≤sh.length) (fun j=>sh.length-j) (fun j=>[(9,.int .i64 ((2*j+1:Nat):Int))]) (fun j=>[R0,B.cells [.int .i64 1,.buf 2 0 del.length del.length,.int .i64 wt,.buf 3 0 prf.length prf.length,.nilS,.str aX,.nilS,.nilS,.nilS,.nilS,.nilS,.nilS,.nilS,.int .u32 0,.int .u32 0,.int .i64 3,.bool false],B.buf 2 1 (del.map aD) false,B.buf 108 2 (prf.map aE) false,L,L,L,B.cells [.str (bs [108,101,97,102]),.lst 1 false (ns.map aD)],B.cells [.int .i64 (-1),.buf 9 0 j j],B.buf 139 2 ((sh.take j).map aN) false]) 0 (by simp) (by simp) (by simp) (by simp) ?_));rintro j hj N Q hN hQ;obtain⟨m,hm⟩:∃m,m=2*j:=⟨_,rfl⟩;rw[←hm]
  have hjl:(sh.take j).length=j:=by rw[kg];omega
  by_cases hb:j<sh.length
  ·have hmb:m<ns.length:=by omega
   have hmb2:m+1<ns.length:=by omega
   obtain⟨y,hy⟩:∃y,sh[j]?=some y:=⟨_,kR hb⟩;obtain⟨a1,a2⟩:=shN_at sh j y hy;rw[hsn,←hm]at a1 a2;obtain⟨q1,b1⟩:=List.getElem?_eq_some_iff.1 a1;obtain⟨q2,b2⟩:=List.getElem?_eq_some_iff.1 a2
   have htk:sh.take (j+1)=sh.take j++[y]:=by rw[ap sh hb];rw[kR hb]at hy;rw[Option.some.inj hy]
   obtain⟨S,hS⟩:∃S,S=sh.take j:=⟨_,rfl⟩;rw[←hS]at hjl htk ⊢;obtain⟨m1,hm1⟩:∃m1,m1=m+1:=⟨_,rfl⟩
   have hmi:IntKind.i64.wrap ((m1:Int)-1)=(m:Int):=by rw[aa (by omega) (by omega)];omega
   rw[←hm1]at hmb2 ⊢;simp only[←hm1]at b2;refine wx ?_;simp -dsimp[hmb2];refine aS (ai tok mixed [15,17] [] [] (by kernel_rfl) fun C K hC hK=>?_);simp -implicitDefEqProofs [hmb,hmb2,hmi,b1,b2,aD,fx j (by omega),hjl];refine hK _ _ ?_;simp -dsimp[aa (n:=(m1:Int)+2) (by omega) (by omega)]
   refine hN (j+1) _ _ (by omega) (by omega) ?_ ⟨[],?_⟩ (by simp) (by
    refine List.forall_mem_cons.2 ⟨hR0 _,?_⟩;refine List.forall_mem_cons.2 ⟨by simp,?_⟩;refine List.forall_mem_cons.2 ⟨by simp[aD],?_⟩;refine List.forall_mem_cons.2 ⟨by simp[aE,ag],?_⟩;refine List.forall_mem_cons.2 ⟨hLr _,?_⟩;refine List.forall_mem_cons.2 ⟨hLr _,?_⟩;refine List.forall_mem_cons.2 ⟨hLr _,?_⟩;generalize lh (j+1) sh=S2
    simp[aN,aD])
   ·simp;omega
   ·rw[htk];simp[aN]
  ·have e:sh.take j=sh:=kV (by omega)
   have hje:j=sh.length:=by omega
   rw[e];clear hN hjl;subst hje
   have hend:¬(m:Int)+1<(ns.length:Int):=by omega
   refine wx ?_;simp -dsimp[hend];refine hQ _ _ _ ?_;simp -dsimp[];refine aS (ai tok mixed [6,8] [(0,[1])] [] (by kernel_rfl) fun C K hC hK=>?_);simp -implicitDefEqProofs [hcap];refine hK _ _ ?_;simp -dsimp[];refine eS (fD (jT 9 [] (xs:=sh.map aN) rfl (by simp)) (rp_E 3 prf.length (x:=.agg [.int .i64 (-1),.buf 9 0 sh.length sh.length]) (y:=aE ⟨-1,sh⟩) rfl (by simp) rfl (by simp[aE,ag,V.cells,V.one]) (fun j c d hc hd=>?_))) ?_
   ·match j with
    | 0=>simp[V.cells,aE]at hc hd;subst hc;subst hd;exact cx _ _
    | 1 =>
     simp[V.cells,aE,ag]at hc hd;subst hc;subst hd;have:=jO (H:=[R0,B.cells [.int .i64 1,.buf 2 0 del.length del.length,.int .i64 wt,.buf 3 0 (prf.length+1) (prf.length+1),.nilS,.str aX,.nilS,.nilS,.nilS,.nilS,.nilS,.nilS,.nilS,.int .u32 0,.int .u32 0,.int .i64 3,.bool false],B.buf 2 1 (del.map aD) false,B.buf 108 2 (prf.map aE++[.agg [.int .i64 (-1),.buf 9 0 sh.length sh.length]]) false,L,L,L,B.cells [.str (bs [108,101,97,102]),.lst 1 false (ns.map aD)],B.cells [.int .i64 (-1),.buf 9 0 sh.length sh.length],B.buf 139 2 (sh.map aN) true]) (k:=9) (e:=139) (z:=2) (xs:=sh.map aN) rfl;simpa using this
    | m+2=>simp[V.cells]at hc
   ·simp
 ·unfold Nd1R;refine⟨rfl,[L,L,L,B.cells [.str (bs [108,101,97,102]),.lst 1 false (ns.map aD)],B.cells [.int .i64 (-1),.buf 9 0 sh.length sh.length],B.buf 139 2 (sh.map aN) true],?_⟩;simp[cV]
def st1(R0:B)(wt:Int)(del:List Int)(prf:List Cnd):List B :=
 [R0,B.cells [.int .i64 1,.buf 2 0 del.length del.length,.int .i64 wt,.buf 3 0 prf.length prf.length,.nilS,.str aX,.nilS,.nilS,.nilS,.nilS,.nilS,.nilS,.nilS,.int .u32 0,.int .u32 0],
  B.buf 2 1 (del.map aD) false,B.buf 108 2 (prf.map aE) false]
theorem gU{c:Cert}(hk:c.k=1){st:Nat}{w:List UInt8}{ns:List Int}(h:¬(w=bR∧st=0∧ns.length=1)):ad c st w ns=match aW w ns with
  | none=>none
  | some n=>some ({ c with prf:=c.prf++[n] },2):=by
 unfold ad;rw[if_neg (fun h2=>h h2.2),if_neg (fun h2=>by rw[hk]at h2;exact absurd h2.1 (by decide)),if_neg (fun h2=>by rw[hk]at h2;exact absurd h2.1 (by decide)),if_neg (fun h2=>by rw[hk]at h2;exact absurd h2.1 (by decide)),if_neg (fun h2=>by rw[hk]at h2;exact absurd h2.1 (by decide)),if_neg (fun h2=>by rw[hk]at h2;exact absurd h2.1 (by decide))]
 cases aW w ns with
 | none=>rfl
 | some n=>simp only;rw[if_pos hk]
theorem dS(ns:List Int):aW bR ns=none:=by unfold aW;rw[if_neg (fun h=>by cases h.1),if_neg (fun h=>by cases h.1)]
def gB(R0:B)(o:Option (Cert×Nat))(r:V)(H':List B):Prop:=match o with
 | some (c',st')=>r = .tup [.int .i64 (st':Nat),.bool true]∧∃G,H'=st1 R0 c'.w c'.del c'.prf++G
 | none=>r = .tup [.int .i64 0,.bool false]∧∃G,H'=R0::G
def Pd1R(R0:B)(o:Option (Cert×Nat))(r:V)(H':List B):Prop:=match o with
 | some (c',st')=>r = .bool true∧∃G,H'=cV R0 c'.w c'.del c'.prf (st'+1) false++G
 | none=>r = .bool false∧∃G,H'=R0::G
theorem deletes_c(R0:B)(hR0:∀n,rbB n R0)(c:Cert)(hk:c.k=1)(st:Nat)(hst:st≤2)(w:List UInt8)(ns:List Int)(hl:ns.length≤100000)(h1:c.del.length≤100000)(hp:c.prf.length≤100000):
  aq Tryz.prog 45 [.ptr 1 0,lnV w ns] (cV R0 c.w c.del c.prf (st+1) false++[LnB w ns,LnB w ns]) (Pd1R R0 (ad c st w ns)):=by
 by_cases hw:w=bR
 case neg =>
  have e:=gU (c:=c) hk (st:=st) (ns:=ns) (w:=w) (fun h=>hw h.1);have n1:¬(bs w).toList=(bs [114,111,119]).toList:=ae hw;rw[e];obtain⟨b,H0,hn,hr⟩:=node_c1 R0 hR0 c.w c.del c.prf (st+1) (by omega) w ns hl hp
  have hr2:Pd1R R0 (match aW w ns with
   | none=>none
   | some n=>some ({ c with prf:=c.prf++[n] },2)) (.bool b) H0:=by
   unfold Nd1R at hr
   cases hx:aW w ns with
   | none=>rw[hx]at hr;exact hr
   | some x=>rw[hx]at hr;exact hr
  obtain⟨L,hL⟩:∃L,L=LnB w ns:=⟨_,rfl⟩;simp only[cV,LnB,lnV,kf,kX]at hn;refine aB tok Tryz.func45 rfl rfl ?_;refine wx ?_;simp -dsimp[Tryz.f45,kQ,cV,LnB,lnV,aC,n1];refine .inl (aS (ai tok mixed [7] [] [(.bool b,H0)] (by kernel_rfl) fun C K hC hK=>?_));simp -implicitDefEqProofs [lnV];refine⟨hC _ _ _ _ (wcm (by simpa using hn) fun _ _ h=>h),hK _ _ ?_⟩;simp -dsimp[];exact hr2
 subst hw;have hh:=cq bR ns 1;simp only[lnV,bR]at hh
 have hat:∀R ok,_:=fun R ok=>at_c R0 (.int .i64 1) (.buf 2 0 c.del.length c.del.length) (.int .i64 c.w) (.buf 3 0 c.prf.length c.prf.length) .nilS (.str aX) .nilS .nilS .nilS .nilS .nilS .nilS .nilS (.int .u32 0) (.int .u32 0) R (st+1) 1 false ok
 by_cases hn:ns.length=1
 ·obtain⟨a,rfl⟩:=dt hn;rw[decide_eq_true hn]at hh;simp only[kj,lD,aD]at hh;by_cases hs:st=0
  ·subst hs
   have e:ad c 0 bR [a]=some ({ c with del:=c.del++[a] },0):=by unfold ad;rw[if_pos ⟨hk,rfl,rfl,rfl⟩];rfl
   rw[e];refine aB tok Tryz.func45 rfl rfl ?_;refine wx ?_;simp -dsimp[Tryz.f45,kQ,cV,LnB,lnV,bR,aC,aD];refine cPx (hh) (by simp) ?_;simp -dsimp[];refine wcE (by simpa using hat _ true) ?_;simp -dsimp[];refine aS (ai tok mixed [12,17] [(0,[1])] [] (by kernel_rfl) fun C K hC hK=>?_);simp -implicitDefEqProofs [cap8 c.del.length (by omega)];refine hK _ _ ?_;simp -dsimp[];unfold Pd1R;refine⟨by simp,[LnB bR [a],LnB bR [a],LnB bR [a]],?_⟩;simp[cV,LnB,bR,aD]
  ·have e:ad c st bR [a]=none:=by rw[gU hk (fun h=>hs h.2.1),dS]
   rw[e]
   have hs2:¬st+1≤1:=by omega
   refine aB tok Tryz.func45 rfl rfl ?_;refine wx ?_;simp -dsimp[Tryz.f45,kQ,cV,LnB,lnV,bR,aC,aD];refine cPx (hh) (by simp) ?_;simp -dsimp[];refine wcE (by simpa using hat _ true) ?_;simp -dsimp[hs,hs2];exact⟨rfl,_,rfl⟩
 ·have e:ad c st bR ns=none:=by rw[gU hk (fun h=>hn h.2.2),dS]
  rw[e];rw[decide_eq_false hn]at hh;refine aB tok Tryz.func45 rfl rfl ?_;refine wx ?_;simp -dsimp[Tryz.f45,kQ,cV,LnB,lnV,bR,aC];refine cPx (hh) (by simp) ?_;simp -dsimp[];refine wcE (by simpa using hat _ false) ?_;simp -dsimp[];exact⟨rfl,_,rfl⟩
def dH(R0:B)(sets:List Nat)(prs:List Cpr)(st:Nat)(dn:Bool):List B :=
 [R0,B.cells [.int .i64 3,.nilS,.int .i64 0,.nilS,.nilS,.str aX,.nilS,.nilS,.nilS,.nilS,.buf 2 0 sets.length sets.length,.buf 3 0 prs.length prs.length,.nilS,.int .u32 0,.int .u32 0,.int .i64 (st:Nat),.bool dn],
  B.buf 39 1 (sets.map ax) false,B.buf 135 3 (prs.map aQ) false]
theorem kJ{c:Cert}(hk:c.k=3)(st:Nat)(w:List UInt8)(ns:List Int):ad c st w ns=if w=bT∧st=0∧ns.length=1∧isS (gN ns 0) then some ({ c with sets:=c.sets++[(gN ns 0).toNat] },0)
  else if w=ar∧ns.length=3∧isS (gN ns 0) then some ({ c with prs:=c.prs++[⟨(gN ns 0).toNat,gN ns 1,gN ns 2⟩] },1) else none:=by
 unfold ad;rw[if_neg (fun h=>by rw[hk]at h;exact absurd h.1 (by decide)),if_neg (fun h=>by rw[hk]at h;exact absurd h.1 (by decide)),if_neg (fun h=>by rw[hk]at h;exact absurd h.1 (by decide))];by_cases h1:w=bT∧st=0∧ns.length=1∧isS (gN ns 0)
 ·rw[if_pos ⟨hk,h1⟩,if_pos h1]
 ·rw[if_neg (fun h=>h1 h.2),if_neg h1];by_cases h2:w=ar∧ns.length=3∧isS (gN ns 0)
  ·rw[if_pos ⟨hk,h2⟩,if_pos h2]
  ·rw[if_neg (fun h=>h2 h.2),if_neg h2,if_neg (fun h=>by rw[hk]at h;exact absurd h.1 (by decide))]
   cases aW w ns with
   | none=>rfl
   | some n =>
    simp only;rw[if_neg (by rw[hk];decide),if_neg (by rw[hk];decide)]
def Pd3R(R0:B)(o:Option (Cert×Nat))(r:V)(H':List B):Prop:=match o with
 | some (c',st')=>r = .bool true∧∃G,H'=dH R0 c'.sets c'.prs (st'+1) false++G
 | none=>r = .bool false∧∃G,H'=R0::G
theorem three_of{α:Type}{l:List α}(h:l.length=3):∃a b c,l=[a,b,c]:=by
 match l,h with
 | [a,b,c],_=>exact⟨a,b,c,rfl⟩
theorem keys_c(R0:B)(c:Cert)(hk:c.k=3)(st:Nat)(hst:st≤1)(w:List UInt8)(ns:List Int)(hl:ns.length≤100000)(h1:c.sets.length≤100000)(h2:c.prs.length≤100000):
  aq Tryz.prog 47 [.ptr 1 0,lnV w ns] (dH R0 c.sets c.prs (st+1) false++[LnB w ns,LnB w ns]) (Pd3R R0 (ad c st w ns)):=by
 rw[kJ hk]
 have hat:∀R t ok,_:=fun R t ok=>at_c R0 (.int .i64 3) .nilS (.int .i64 0) .nilS .nilS (.str aX) .nilS .nilS .nilS .nilS (.buf 2 0 c.sets.length c.sets.length) (.buf 3 0 c.prs.length c.prs.length) .nilS (.int .u32 0) (.int .u32 0) R (st+1) t false ok
 by_cases hw:w=bT
 ·subst hw;have n2:¬(bs [115,101,116]).toList=(bs [112,97,105,114]).toList:=ae (by decide);rw[if_neg (show ¬(bT=ar∧ns.length=3∧isS (gN ns 0)) from fun h=>by cases h.1)];have hh:=cq bT ns 1;simp only[lnV,bT]at hh;by_cases hn:ns.length=1
  ·obtain⟨a,rfl⟩:=dt hn;have ga:gN [a] 0=a:=rfl;rw[ga];rw[decide_eq_true hn]at hh;have hse:=jR bT [a] 0 1 (by omega) (by simp) (by simp);simp only[lnV,bT,kj,lD,aD]at hh hse;simp only[ll,ly,ky,mF,mR,mD,Bool.not_not]at hse;by_cases ha:isS a
   ·rw[decide_eq_true ha]at hse;by_cases hs:st=0
    ·subst hs;rw[if_pos ⟨rfl,rfl,rfl,ha⟩];refine aB tok Tryz.func47 rfl rfl ?_;refine wx ?_;simp -dsimp[Tryz.f47,kQ,dH,LnB,lnV,bT,aC,aD];refine cPx (hh) (by simp) ?_;simp -dsimp[];refine cPx (hse) (by simp) ?_;simp -dsimp[];refine wcE (by simpa using hat _ 1 true) ?_;simp -dsimp[];refine aS (ai tok mixed [12,16] [(0,[1])] [] (by kernel_rfl) fun C K hC hK=>?_);simp -implicitDefEqProofs [cap8 c.sets.length (by omega),dD ha,(show c.sets.length≤9223372036854775806∧(c.sets.length+1)*4≤140737488355328 by omega)];refine hK _ _ ?_;simp -dsimp[];unfold Pd3R;refine⟨by simp,[LnB bT [a],LnB bT [a],LnB bT [a]],?_⟩;simp[dH,LnB,bT,aD,ax]
    ·rw[if_neg (fun h=>hs h.2.1)]
     have hs2:¬st+1≤1:=by omega
     refine aB tok Tryz.func47 rfl rfl ?_;refine wx ?_;simp -dsimp[Tryz.f47,kQ,dH,LnB,lnV,bT,aC,aD,n2];refine cPx (hh) (by simp) ?_;simp -dsimp[];refine cPx (hse) (by simp) ?_;simp -dsimp[];refine wcE (by simpa using hat _ 1 true) ?_;simp -dsimp[aC,hs,hs2,n2];exact⟨rfl,_,rfl⟩
   ·rw[decide_eq_false ha]at hse;rw[if_neg (fun h=>ha h.2.2.2)];refine aB tok Tryz.func47 rfl rfl ?_;refine wx ?_;simp -dsimp[Tryz.f47,kQ,dH,LnB,lnV,bT,aC,aD,n2];refine cPx (hh) (by simp) ?_;simp -dsimp[];refine cPx (hse) (by simp) ?_;simp -dsimp[];refine wcE (by simpa using hat _ 1 false) ?_;simp -dsimp[aC,n2];exact⟨rfl,_,rfl⟩
  ·rw[decide_eq_false hn]at hh;rw[if_neg (fun h=>hn h.2.2.1)];refine aB tok Tryz.func47 rfl rfl ?_;refine wx ?_;simp -dsimp[Tryz.f47,kQ,dH,LnB,lnV,bT,aC,n2];refine cPx (hh) (by simp) ?_;simp -dsimp[];refine wcE (by simpa using hat _ 1 false) ?_;simp -dsimp[aC,n2];exact⟨rfl,_,rfl⟩
 rw[if_neg (fun h=>hw h.1)];have n1:¬(bs w).toList=(bs [115,101,116]).toList:=ae hw;by_cases hw2:w=ar
 case neg =>
  have n2:¬(bs w).toList=(bs [112,97,105,114]).toList:=ae hw2;rw[if_neg (fun h=>hw2 h.1)];refine aB tok Tryz.func47 rfl rfl ?_;refine wx ?_;simp -dsimp[Tryz.f47,kQ,dH,LnB,lnV,aC,n1,n2];exact⟨rfl,_,rfl⟩
 subst hw2;have n1:¬(bs [112,97,105,114]).toList=(bs [115,101,116]).toList:=n1;have hh:=cq ar ns 3;simp only[lnV,ar]at hh;by_cases hn:ns.length=3
 ·obtain⟨a,b,d,rfl⟩:=three_of hn;have ga:gN [a,b,d] 0=a:=rfl;have gb:gN [a,b,d] 1=b:=rfl;have gd:gN [a,b,d] 2=d:=rfl;rw[ga,gb,gd];rw[decide_eq_true hn]at hh;have hse:=jR ar [a,b,d] 0 1 (by omega) (by simp) (by simp);simp only[lnV,ar,kj,lD,aD]at hh hse;simp only[ll,ly,ky,mF,mR,mD,Bool.not_not]at hse;by_cases ha:isS a
  ·rw[decide_eq_true ha]at hse;rw[if_pos ⟨rfl,rfl,ha⟩]
   have hs2:st+1≤2:=by omega
   refine aB tok Tryz.func47 rfl rfl ?_;refine wx ?_;simp -dsimp[Tryz.f47,kQ,dH,LnB,lnV,ar,aC,aD,n1];refine cPx (hh) (by simp) ?_;simp -dsimp[];refine cPx (hse) (by simp) ?_;simp -dsimp[];refine wcE (by simpa using hat _ 2 true) ?_;simp -dsimp[hst,hs2];refine aS (ai tok mixed [21,25] [(0,[1])] [] (by kernel_rfl) fun C K hC hK=>?_);simp -implicitDefEqProofs [dD ha,cap24 c.prs.length (by omega)];refine hK _ _ ?_;simp -dsimp[];unfold Pd3R;refine⟨by simp,[LnB ar [a,b,d],LnB ar [a,b,d],LnB ar [a,b,d]],?_⟩;simp[dH,LnB,ar,aD,aQ]
  ·rw[decide_eq_false ha]at hse;rw[if_neg (fun h=>ha h.2.2)];refine aB tok Tryz.func47 rfl rfl ?_;refine wx ?_;simp -dsimp[Tryz.f47,kQ,dH,LnB,lnV,ar,aC,aD,n1];refine cPx (hh) (by simp) ?_;simp -dsimp[];refine cPx (hse) (by simp) ?_;simp -dsimp[];refine wcE (by simpa using hat _ 2 false) ?_;simp -dsimp[];exact⟨rfl,_,rfl⟩
 ·rw[decide_eq_false hn]at hh;rw[if_neg (fun h=>hn h.2.1)];refine aB tok Tryz.func47 rfl rfl ?_;refine wx ?_;simp -dsimp[Tryz.f47,kQ,dH,LnB,lnV,ar,aC,n1];refine cPx (hh) (by simp) ?_;simp -dsimp[];refine wcE (by simpa using hat _ 2 false) ?_;simp -dsimp[];exact⟨rfl,_,rfl⟩
def eD(R0:B)(steps:List Cst)(g:Fd)(st:Nat)(dn:Bool):List B :=
 [R0,B.cells [.int .i64 4,.nilS,.int .i64 0,.nilS,.nilS,.str aX,.nilS,.nilS,.nilS,.nilS,.nilS,.nilS,.buf 2 0 steps.length steps.length,.int .u32 (g.l:Int),.int .u32 (g.r:Int),.int .i64 (st:Nat),.bool dn],
  B.buf 110 4 (steps.map aL) false]
theorem kI{c:Cert}(hk:c.k=4)(st:Nat)(w:List UInt8)(ns:List Int):ad c st w ns=if w=bB∧3≤ns.length∧isS (gN ns 1)∧isS (gN ns 2) then some ({ c with steps:=c.steps++[⟨gN ns 0,ns.drop 3,⟨(gN ns 1).toNat,(gN ns 2).toNat⟩⟩] },0) else none:=by
 unfold ad;rw[if_neg (fun h=>by rw[hk]at h;exact absurd h.1 (by decide)),if_neg (fun h=>by rw[hk]at h;exact absurd h.1 (by decide)),if_neg (fun h=>by rw[hk]at h;exact absurd h.1 (by decide)),if_neg (fun h=>by rw[hk]at h;exact absurd h.1 (by decide)),if_neg (fun h=>by rw[hk]at h;exact absurd h.1 (by decide))];by_cases h1:w=bB∧3≤ns.length∧isS (gN ns 1)∧isS (gN ns 2)
 ·rw[if_pos ⟨hk,h1⟩,if_pos h1]
 ·rw[if_neg (fun h=>h1 h.2),if_neg h1]
  cases aW w ns with
  | none=>rfl
  | some n =>
   simp only;rw[if_neg (by rw[hk];decide),if_neg (by rw[hk];decide)]
def Pd4R(R0:B)(o:Option (Cert×Nat))(r:V)(H':List B):Prop:=match o with
 | some (c',st')=>r = .bool true∧∃G,H'=eD R0 c'.steps c'.g (st'+1) false++G
 | none=>r = .bool false∧∃G,H'=R0::G
theorem more_of{α:Type}{l:List α}(h:3≤l.length):∃a b c r,l=a::b::c::r:=by
 match l,h with
 | a::b::c::r,_=>exact⟨a,b,c,r,rfl⟩
theorem steps_c(R0:B)(hR0:∀n,rbB n R0)(c:Cert)(hk:c.k=4)(w:List UInt8)(ns:List Int)(hl:ns.length≤100000)(h1:c.steps.length≤100000):
  aq Tryz.prog 48 [.ptr 1 0,lnV w ns] (eD R0 c.steps c.g 1 false++[LnB w ns,LnB w ns]) (Pd4R R0 (ad c 0 w ns)):=by
 rw[kI hk];by_cases hw:w=bB
 case neg =>
  have n1:¬(bs w).toList=(bs [115,116,101,112]).toList:=ae hw;rw[if_neg (fun h=>hw h.1)];refine aB tok Tryz.func48 rfl rfl ?_;refine wx ?_;simp -dsimp[Tryz.f48,kQ,eD,LnB,lnV,aC,n1];exact⟨rfl,_,rfl⟩
 subst hw;by_cases hn:3≤ns.length
 case neg =>
  rw[if_neg (fun h=>hn h.2.1)]
  have hn2:(ns.length:Int)<3:=by omega
  refine aB tok Tryz.func48 rfl rfl ?_;refine wx ?_;simp -dsimp[Tryz.f48,kQ,eD,LnB,lnV,bB,aC,hn2];exact⟨rfl,_,rfl⟩
 have hse:=jR bB ns 1 3 (by omega) hn hl;obtain⟨a,b,d,r,rfl⟩:=more_of hn;have ga:gN (a::b::d::r) 0=a:=rfl;have gb:gN (a::b::d::r) 1=b:=rfl;have gd:gN (a::b::d::r) 2=d:=rfl;have gr:(a::b::d::r).drop 3=r:=rfl;rw[ga,gb,gd,gr]
 have hn3:¬((r.length:Int)+1+1+1<3):=by omega
 have hn4:¬(((a::b::d::r).length:Int)<3):=by simp;omega
 simp only[lnV,bB,kj,aD,ll,ly,List.drop_succ_cons,ky,mF,mR,mD]at hse;by_cases hs:isS b∧isS d
 case neg =>
  rw[if_neg (fun h=>hs h.2.2)]
  have hb:(!decide (isS b)||!decide (isS d))=true:=by
   by_cases h1:isS b
   ·have h2:¬isS d:=fun h=>hs ⟨h1,h⟩
    simp[h2]
   ·simp[h1]
  rw[hb]at hse;refine aB tok Tryz.func48 rfl rfl ?_;refine wx ?_;simp -dsimp[Tryz.f48,kQ,eD,LnB,lnV,bB,aC,hn3,hn4,aD];refine cPx (hse) (by simp) ?_;simp -dsimp[];exact⟨rfl,_,rfl⟩
 obtain⟨hb,hd⟩:=hs
 have hbd:(!decide (isS b)||!decide (isS d))=false:=by simp[hb,hd]
 rw[hbd]at hse;rw[if_pos ⟨rfl,hn,hb,hd⟩]
 have hrl:r.length≤100000:=by simp at hl;omega
 obtain⟨b,rfl⟩:=lZ hb.1;obtain⟨d,rfl⟩:=lZ hd.1;have htl:lh r.length (r.map aD)=r.map aD:=kV (by simp)
 have hcap:c.steps.length≤9223372036854775806∧(c.steps.length+1)*40≤140737488355328:=by omega
 refine bF ?_;refine aB tok Tryz.func48 rfl rfl ?_;refine wx ?_;simp -dsimp[Tryz.f48,kQ,eD,LnB,lnV,bB,aC,hn3,hn4,aD];refine cPx (hse) (by simp) ?_;simp -dsimp[];refine aS (ai tok mixed [16,17] [(0,[1]),(1,[1]),(2,[1]),(3,[1]),(4,[1]),(5,[1]),(6,[1]),(7,[1]),(8,[1]),(9,[1]),(10,[1]),(11,[1]),(12,[1]),(13,[1]),(14,[1]),(15,[1])] [] (by kernel_rfl) fun C K hC hK=>?_);simp -implicitDefEqProofs [dD hb,dD hd];refine hK _ _ ?_;simp -dsimp[];refine aS (ba 3 1 [] 6 [1] rfl (by simp) (by simp) (W_loopM 53 0x1ffc0000000080 (by simp[mB]<;>rfl) (σ:=Nat) (fun i=>i≤r.length) (fun i=>r.length-i) (fun i=>[(42,.int .i64 i)]) (fun i=>[R0,B.cells [.int .i64 4,.nilS,.int .i64 0,.nilS,.nilS,.str aX,.nilS,.nilS,.nilS,.nilS,.nilS,.nilS,.buf 2 0 c.steps.length c.steps.length,.int .u32 (c.g.l:Int),.int .u32 (c.g.r:Int),.int .i64 1,.bool false],B.buf 110 4 (c.steps.map aL) false,B.cells [.str (bs [115,116,101,112]),.lst 1 false (.int .i64 a::.int .i64 (b:Int)::.int .i64 (d:Int)::r.map aD)],B.cells [.str (bs [115,116,101,112]),.lst 1 false (.int .i64 a::.int .i64 (b:Int)::.int .i64 (d:Int)::r.map aD)],B.cells [.str (bs [115,116,101,112]),.lst 1 false (.int .i64 a::.int .i64 (b:Int)::.int .i64 (d:Int)::r.map aD)],B.cells [.int .i64 a,.buf 7 0 i i,.int .u32 (b:Int),.int .u32 (d:Int)],B.buf 3 1 ((r.take i).map aD) false]) 0 (by simp) (by simp) (by simp) (by simp) ?_));rintro i hi N Q hN hQ
 have hil:(r.take i).length=i:=by rw[kg];omega
 by_cases hbi:i<r.length
 ·have htk:=ap r hbi;obtain⟨x,hx⟩:∃x,x=r[i]:=⟨_,rfl⟩;have hx':=hx.symm;rw[hx']at htk;obtain⟨S,hS⟩:∃S,S=r.take i:=⟨_,rfl⟩;rw[←hS]at hil htk ⊢;refine wx ?_;simp -dsimp[hbi,hx',htl,aD,cap8 i (by omega),hil,aO i (by omega)];refine hN (i+1) _ _ (by omega) (by omega) ?_ ⟨[],?_⟩ (by simp[htl]) (by refine List.forall_mem_cons.2 ⟨hR0 _,?_⟩;generalize lh (i+1) r=S2;simp[aD,aL])
  ·simp[htl]
  ·rw[htk];simp[aD]
 ·have e:r.take i=r:=kV (by omega)
  have hie:i=r.length:=by omega
  rw[e];clear hN hil;subst hie;refine wx ?_;simp -dsimp[hbi];refine hQ _ _ _ ?_;simp -dsimp[];refine aS (ai tok mixed [8,12] [(0,[1])] [] (by kernel_rfl) fun C K hC hK=>?_);simp -implicitDefEqProofs [hcap];refine hK _ _ ?_;simp -dsimp[];refine⟨_,eS (H2:=[R0,B.cells [.int .i64 4,.nilS,.int .i64 0,.nilS,.nilS,.str aX,.nilS,.nilS,.nilS,.nilS,.nilS,.nilS,.buf 2 0 (c.steps.length+1) (c.steps.length+1),.int .u32 (c.g.l:Int),.int .u32 (c.g.r:Int),.int .i64 1,.bool false],B.buf 110 4 (c.steps.map aL++[aL ⟨a,r,⟨b,d⟩⟩]) false,B.cells [.str (bs [115,116,101,112]),.lst 1 false (.int .i64 a::.int .i64 (b:Int)::.int .i64 (d:Int)::r.map aD)],B.cells [.str (bs [115,116,101,112]),.lst 1 false (.int .i64 a::.int .i64 (b:Int)::.int .i64 (d:Int)::r.map aD)],B.cells [.str (bs [115,116,101,112]),.lst 1 false (.int .i64 a::.int .i64 (b:Int)::.int .i64 (d:Int)::r.map aD)],B.cells [.int .i64 a,.buf 7 0 r.length r.length,.int .u32 (b:Int),.int .u32 (d:Int)],B.buf 3 1 (r.map aD) true]) (fD (jT 7 [] (xs:=r.map aD) rfl (by simp)) (rp_E 2 c.steps.length (x:=.agg [.int .i64 a,.buf 7 0 r.length r.length,.int .u32 (b:Int),.int .u32 (d:Int)]) (y:=aL ⟨a,r,⟨b,d⟩⟩) rfl (by simp) rfl (by simp[aL,V.cells,V.one]) (fun j p q hp hq=>?_))) (by simp),?_⟩
  ·match j with
   | 0=>simp[V.cells,aL]at hp hq;subst hp;subst hq;exact cx _ _
   | 1 =>
    simp[V.cells,aL]at hp hq;subst hp;subst hq;have:=jO (H:=[R0,B.cells [.int .i64 4,.nilS,.int .i64 0,.nilS,.nilS,.str aX,.nilS,.nilS,.nilS,.nilS,.nilS,.nilS,.buf 2 0 (c.steps.length+1) (c.steps.length+1),.int .u32 (c.g.l:Int),.int .u32 (c.g.r:Int),.int .i64 1,.bool false],B.buf 110 4 (c.steps.map aL++[.agg [.int .i64 a,.buf 7 0 r.length r.length,.int .u32 (b:Int),.int .u32 (d:Int)]]) false,B.cells [.str (bs [115,116,101,112]),.lst 1 false (.int .i64 a::.int .i64 (b:Int)::.int .i64 (d:Int)::r.map aD)],B.cells [.str (bs [115,116,101,112]),.lst 1 false (.int .i64 a::.int .i64 (b:Int)::.int .i64 (d:Int)::r.map aD)],B.cells [.str (bs [115,116,101,112]),.lst 1 false (.int .i64 a::.int .i64 (b:Int)::.int .i64 (d:Int)::r.map aD)],B.cells [.int .i64 a,.buf 7 0 r.length r.length,.int .u32 (b:Int),.int .u32 (d:Int)],B.buf 3 1 (r.map aD) true]) (k:=7) (e:=3) (z:=1) (xs:=r.map aD) rfl;simpa using this
   | 2=>simp[V.cells,aL]at hp hq;subst hp;subst hq;exact cx _ _
   | 3=>simp[V.cells,aL]at hp hq;subst hp;subst hq;exact cx _ _
   | m+4=>simp[V.cells]at hp
  ·unfold Pd4R;refine⟨by simp,[B.cells [.str (bs [115,116,101,112]),.lst 1 false (.int .i64 a::.int .i64 (b:Int)::.int .i64 (d:Int)::r.map aD)],B.cells [.str (bs [115,116,101,112]),.lst 1 false (.int .i64 a::.int .i64 (b:Int)::.int .i64 (d:Int)::r.map aD)],B.cells [.str (bs [115,116,101,112]),.lst 1 false (.int .i64 a::.int .i64 (b:Int)::.int .i64 (d:Int)::r.map aD)],B.cells [.int .i64 a,.buf 7 0 r.length r.length,.int .u32 (b:Int),.int .u32 (d:Int)],B.buf 3 1 (r.map aD) true],?_⟩;simp[eD]
def cG(R0:B)(cells:List Cel)(cores:List (List Cel))(prf:List Cnd)(st:Nat)(dn:Bool):List B :=
 [R0,B.cells [.int .i64 2,.nilS,.int .i64 0,.nilS,.buf 2 0 cells.length cells.length,.str aX,.nilS,.nilS,.buf 3 0 cores.length cores.length,.buf 4 0 prf.length prf.length,.nilS,.nilS,.nilS,.int .u32 0,.int .u32 0,.int .i64 (st:Nat),.bool dn],
  B.buf 133 2 (cells.map aK) false,B.buf 27 1 (cores.map aJ) false,B.buf 108 2 (prf.map aE) false]
def Nd2R(R0:B)(cells:List Cel)(cores:List (List Cel))(prf:List Cnd)(o:Option Cnd)(r:V)(H':List B):Prop:=match o with
 | some x=>r = .bool true∧∃G,H'=cG R0 cells cores (prf++[x]) 3 false++G
 | none=>r = .bool false∧∃G,H'=R0::G
theorem node_c2(R0:B)(hR0:∀n,rbB n R0)(cells:List Cel)(cores:List (List Cel))(prf:List Cnd)(s:Nat)(hs:s≤3)(w:List UInt8)(ns:List Int)(hl:ns.length≤100000)(hp:prf.length≤100000):
  ∃b H0,aq Tryz.prog 76 [.ptr 1 0,lnV w ns,.ptr 1 9] (cG R0 cells cores prf s false++[LnB w ns,LnB w ns,LnB w ns]) (fun r H'=>r = .bool b∧H'=H0)∧Nd2R R0 cells cores prf (aW w ns) (.bool b) H0:=by
 have hcap:prf.length≤9223372036854775806∧(prf.length+1)*32≤140737488355328:=by omega
 have hat:∀R ok,_:=fun R ok=>at_c R0 (.int .i64 2) .nilS (.int .i64 0) .nilS (.buf 2 0 cells.length cells.length) (.str aX) .nilS .nilS (.buf 3 0 cores.length cores.length) (.buf 4 0 prf.length prf.length) .nilS .nilS .nilS (.int .u32 0) (.int .u32 0) R s 3 false ok
 by_cases h1:w=au
 ·subst h1;have n1:¬(bs [110,111,100,101]).toList=(bs [108,101,97,102]).toList:=ae (by decide);have hh:=cq au ns 1;by_cases hn:ns.length=1
  ·obtain⟨a,rfl⟩:=dt hn;rw[decide_eq_true hn]at hh;simp only[lnV,au,kj,lD,aD]at hh;have ga:gN [a] 0=a:=rfl;by_cases ha:0≤a
   ·have e:aW au [a]=some ⟨a,[]⟩:=by unfold aW;rw[if_pos ⟨rfl,rfl,ha⟩,ga]
    rw[e]
    have hna:¬a<0:=by omega
    refine⟨true,[R0,B.cells [.int .i64 2,.nilS,.int .i64 0,.nilS,.buf 2 0 cells.length cells.length,.str aX,.nilS,.nilS,.buf 3 0 cores.length cores.length,.buf 4 0 (prf.length+1) (prf.length+1),.nilS,.nilS,.nilS,.int .u32 0,.int .u32 0,.int .i64 3,.bool false],B.buf 133 2 (cells.map aK) false,B.buf 27 1 (cores.map aJ) false,B.buf 108 2 (prf.map aE++[aE ⟨a,[]⟩]) false,B.cells [.str (bs [110,111,100,101]),.lst 1 false [.int .i64 a]],B.cells [.str (bs [110,111,100,101]),.lst 1 false [.int .i64 a]],B.cells [.str (bs [110,111,100,101]),.lst 1 false [.int .i64 a]],B.cells [.str (bs [110,111,100,101]),.lst 1 false [.int .i64 a]],B.cells [.int .i64 a,.nilS]],bF ?g1,?g2⟩
    case g1 =>
     refine aB tok Tryz.func76 rfl rfl ?_;refine wx ?_;simp -dsimp[Tryz.f76,kQ,cG,LnB,lnV,au,aC,n1,aD];refine cPx (hh) (by simp) ?_;simp -dsimp[ha];refine wcE (hat _ true) ?_;simp -dsimp[hs,ha,hna];refine aS (ai tok mixed [6,8] [(0,[1])] [] (by kernel_rfl) fun C K hC hK=>?_);simp -implicitDefEqProofs [hcap];refine hK _ _ ?_;simp -dsimp[];refine eS (rp_E 4 prf.length (x:=.agg [.int .i64 a,.nilS]) (y:=aE ⟨a,[]⟩) rfl (by simp) rfl (by simp[aE,ag,V.cells,V.one]) (fun j c d hc hd=>?_)) (by simp)
     match j with
     | 0=>simp[V.cells,aE]at hc hd;subst hc;subst hd;exact cx _ _
     | 1=>simp[V.cells,aE,ag]at hc hd;subst hc;subst hd;exact wk_nil _ _ _
     | m+2=>simp[V.cells]at hc
    case g2 =>
     unfold Nd2R;refine⟨rfl,[LnB au [a],LnB au [a],LnB au [a],LnB au [a],B.cells [.int .i64 a,.nilS]],?_⟩;simp[cG,LnB,au,aD]
   ·have e:aW au [a]=none:=by unfold aW;rw[if_neg (fun h=>ha h.2.2),if_neg (fun h=>by cases h.1)]
    rw[e];refine⟨false,R0::?H11,bF ?g11,rfl,_,rfl⟩
    case g11 =>
     refine aB tok Tryz.func76 rfl rfl ?_;refine wx ?_;simp -dsimp[Tryz.f76,kQ,cG,LnB,lnV,au,aC,n1,aD];refine cPx (hh) (by simp) ?_;simp -dsimp[ha];refine wcE (hat _ false) ?_;simp -dsimp[hs,ha];exact dc _ _
  ·rw[decide_eq_false hn]at hh
   have e:aW au ns=none:=by unfold aW;rw[if_neg (fun h=>hn h.2.1),if_neg (fun h=>by cases h.1)]
   rw[e];simp only[lnV,au]at hh;refine⟨false,R0::?H12,bF ?g12,rfl,_,rfl⟩
   case g12 =>
    refine aB tok Tryz.func76 rfl rfl ?_;refine wx ?_;simp -dsimp[Tryz.f76,kQ,cG,LnB,lnV,au,aC,n1];refine cPx (hh) (by simp) ?_;simp -dsimp[];refine wcE (hat _ false) ?_;simp -dsimp[hs];exact dc _ _
 have n1:¬(bs w).toList=(bs [110,111,100,101]).toList:=ae h1;by_cases h2:w=bc
 case neg =>
  have e:aW w ns=none:=by unfold aW;rw[if_neg (fun h=>h1 h.1),if_neg (fun h=>h2 h.1)]
  rw[e];have n2:¬(bs w).toList=(bs [108,101,97,102]).toList:=ae h2;refine⟨false,R0::?H13,bF ?g13,rfl,_,rfl⟩
  case g13 =>
   refine aB tok Tryz.func76 rfl rfl ?_;refine wx ?_;simp -dsimp[Tryz.f76,kQ,cG,LnB,lnV,aC,n1,n2];refine wcE (hat _ false) ?_;simp -dsimp[hs];exact dc _ _
 subst h2;have n1:¬(bs [108,101,97,102]).toList=(bs [110,111,100,101]).toList:=n1;by_cases hev:ns.length % 2=0
 case neg =>
  have e:aW bc ns=none:=by unfold aW;rw[if_neg (fun h=>h1 h.1),if_neg (fun h=>hev h.2)]
  rw[e]
  have hn3:¬((ns.length:Int).tmod 2=0):=by rw[kz (by omega)];omega
  have hn4:((ns.length:Int).tmod 2 == 0)=false:=by simpa using hn3
  refine⟨false,R0::?H14,bF ?g14,rfl,_,rfl⟩
  case g14 =>
   refine aB tok Tryz.func76 rfl rfl ?_;refine wx ?_;simp -dsimp[Tryz.f76,kQ,cG,LnB,lnV,bc,aC,n1,hn4];refine wcE (hat _ false) ?_;simp -dsimp[hs];exact dc _ _
 have e:aW bc ns=some ⟨-1,shP ns⟩:=by unfold aW;rw[if_neg (fun h=>h1 h.1),if_pos ⟨rfl,hev⟩]
 rw[e];have hsn:=shN_P ns hev;obtain⟨sh,hsh⟩:∃sh,sh=shP ns:=⟨_,rfl⟩;rw[←hsh]at hsn ⊢;have hlz:=fB sh;rw[hsn]at hlz
 have hshl:sh.length≤50000:=by omega
 have hn2:(ns.length:Int) % 2=0:=by omega
 have hn3:(ns.length:Int).tmod 2=0:=by rw[kz (by omega)];omega
 obtain⟨L,hL⟩:∃L,L=LnB bc ns:=⟨_,rfl⟩
 have hLr:∀n,rbB n L:=fun n=>by rw[hL];simp[LnB]
 have hL':B.cells [.str (bs [108,101,97,102]),.lst 1 false (ns.map aD)]=L:=hL.symm;refine⟨true,[R0,B.cells [.int .i64 2,.nilS,.int .i64 0,.nilS,.buf 2 0 cells.length cells.length,.str aX,.nilS,.nilS,.buf 3 0 cores.length cores.length,.buf 4 0 (prf.length+1) (prf.length+1),.nilS,.nilS,.nilS,.int .u32 0,.int .u32 0,.int .i64 3,.bool false],B.buf 133 2 (cells.map aK) false,B.buf 27 1 (cores.map aJ) false,B.buf 108 2 (prf.map aE++[aE ⟨-1,sh⟩]) false,L,L,L,B.cells [.str (bs [108,101,97,102]),.lst 1 false (ns.map aD)],B.cells [.int .i64 (-1),.buf 10 0 sh.length sh.length],B.buf 139 2 (sh.map aN) true],bF ?_,?_⟩
 ·rw[←hL];refine aB tok Tryz.func76 rfl rfl ?_;refine wx ?_;simp -dsimp[Tryz.f76,kQ,cG,lnV,bc,aC,n1,hn2,hn3];refine wcE (hat _ true) ?_;simp -dsimp[hs];refine aS (ba 139 2 [] 9 [1] rfl (by simp) (by simp) (W_loopM 67 0x7fffff80000000200 (by simp[mB]<;>rfl) (σ:=Nat) (fun j=>j≤sh.length) (fun j=>sh.length-j) (fun j=>[(9,.int .i64 ((2*j+1:Nat):Int))]) (fun j=>[R0,B.cells [.int .i64 2,.nilS,.int .i64 0,.nilS,.buf 2 0 cells.length cells.length,.str aX,.nilS,.nilS,.buf 3 0 cores.length cores.length,.buf 4 0 prf.length prf.length,.nilS,.nilS,.nilS,.int .u32 0,.int .u32 0,.int .i64 3,.bool false],B.buf 133 2 (cells.map aK) false,B.buf 27 1 (cores.map aJ) false,B.buf 108 2 (prf.map aE) false,L,L,L,B.cells [.str (bs [108,101,97,102]),.lst 1 false (ns.map aD)],B.cells [.int .i64 (-1),.buf 10 0 j j],B.buf 139 2 ((sh.take j).map aN) false]) 0 (by simp) (by simp) (by simp) (by simp) ?_));rintro j hj N Q hN hQ;obtain⟨m,hm⟩:∃m,m=2*j:=⟨_,rfl⟩;rw[←hm]
  have hjl:(sh.take j).length=j:=by rw[kg];omega
  by_cases hb:j<sh.length
  ·have hmb:m<ns.length:=by omega
   have hmb2:m+1<ns.length:=by omega
   obtain⟨y,hy⟩:∃y,sh[j]?=some y:=⟨_,kR hb⟩;obtain⟨a1,a2⟩:=shN_at sh j y hy;rw[hsn,←hm]at a1 a2;obtain⟨q1,b1⟩:=List.getElem?_eq_some_iff.1 a1;obtain⟨q2,b2⟩:=List.getElem?_eq_some_iff.1 a2
   have htk:sh.take (j+1)=sh.take j++[y]:=by rw[ap sh hb];rw[kR hb]at hy;rw[Option.some.inj hy]
   obtain⟨S,hS⟩:∃S,S=sh.take j:=⟨_,rfl⟩;rw[←hS]at hjl htk ⊢;obtain⟨m1,hm1⟩:∃m1,m1=m+1:=⟨_,rfl⟩
   have hmi:IntKind.i64.wrap ((m1:Int)-1)=(m:Int):=by rw[aa (by omega) (by omega)];omega
   rw[←hm1]at hmb2 ⊢;simp only[←hm1]at b2;refine wx ?_;simp -dsimp[hmb2];refine aS (ai tok mixed [15,17] [] [] (by kernel_rfl) fun C K hC hK=>?_);simp -implicitDefEqProofs [hmb,hmb2,hmi,b1,b2,aD,fx j (by omega),hjl];refine hK _ _ ?_;simp -dsimp[aa (n:=(m1:Int)+2) (by omega) (by omega)]
   refine hN (j+1) _ _ (by omega) (by omega) ?_ ⟨[],?_⟩ (by simp) (by
    refine List.forall_mem_cons.2 ⟨hR0 _,?_⟩;refine List.forall_mem_cons.2 ⟨by simp,?_⟩;refine List.forall_mem_cons.2 ⟨by simp[aK],?_⟩;refine List.forall_mem_cons.2 ⟨by simp[aJ,aK],?_⟩;refine List.forall_mem_cons.2 ⟨by simp[aE,ag],?_⟩;refine List.forall_mem_cons.2 ⟨hLr _,?_⟩;refine List.forall_mem_cons.2 ⟨hLr _,?_⟩;refine List.forall_mem_cons.2 ⟨hLr _,?_⟩;generalize lh (j+1) sh=S2
    simp[aN,aD])
   ·simp;omega
   ·rw[htk];simp[aN]
  ·have e:sh.take j=sh:=kV (by omega)
   have hje:j=sh.length:=by omega
   rw[e];clear hN hjl;subst hje
   have hend:¬(m:Int)+1<(ns.length:Int):=by omega
   refine wx ?_;simp -dsimp[hend];refine hQ _ _ _ ?_;simp -dsimp[];refine aS (ai tok mixed [6,8] [(0,[1])] [] (by kernel_rfl) fun C K hC hK=>?_);simp -implicitDefEqProofs [hcap];refine hK _ _ ?_;simp -dsimp[];refine eS (fD (jT 10 [] (xs:=sh.map aN) rfl (by simp)) (rp_E 4 prf.length (x:=.agg [.int .i64 (-1),.buf 10 0 sh.length sh.length]) (y:=aE ⟨-1,sh⟩) rfl (by simp) rfl (by simp[aE,ag,V.cells,V.one]) (fun j c d hc hd=>?_))) ?_
   ·match j with
    | 0=>simp[V.cells,aE]at hc hd;subst hc;subst hd;exact cx _ _
    | 1 =>
     simp[V.cells,aE,ag]at hc hd;subst hc;subst hd;have:=jO (H:=[R0,B.cells [.int .i64 2,.nilS,.int .i64 0,.nilS,.buf 2 0 cells.length cells.length,.str aX,.nilS,.nilS,.buf 3 0 cores.length cores.length,.buf 4 0 (prf.length+1) (prf.length+1),.nilS,.nilS,.nilS,.int .u32 0,.int .u32 0,.int .i64 3,.bool false],B.buf 133 2 (cells.map aK) false,B.buf 27 1 (cores.map aJ) false,B.buf 108 2 (prf.map aE++[.agg [.int .i64 (-1),.buf 10 0 sh.length sh.length]]) false,L,L,L,B.cells [.str (bs [108,101,97,102]),.lst 1 false (ns.map aD)],B.cells [.int .i64 (-1),.buf 10 0 sh.length sh.length],B.buf 139 2 (sh.map aN) true]) (k:=10) (e:=139) (z:=2) (xs:=sh.map aN) rfl;simpa using this
    | m+2=>simp[V.cells]at hc
   ·simp
 ·unfold Nd2R;refine⟨rfl,[L,L,L,B.cells [.str (bs [108,101,97,102]),.lst 1 false (ns.map aD)],B.cells [.int .i64 (-1),.buf 10 0 sh.length sh.length],B.buf 139 2 (sh.map aN) true],?_⟩;simp[cG]
theorem celN_at:∀(l:List Cel) (j:Nat) (y:Cel),l[j]?=some y→(az l)[2*j]?=some y.id∧(az l)[2*j+1]?=some y.a
 | [],j,y,h=>by simp at h
 | x::l,0,y,h=>by
  simp at h;subst h;exact⟨rfl,rfl⟩
 | x::l,j+1,y,h=>by
  have:=celN_at l j y (by simpa using h);have e:az (x::l)=x.id::x.a::az l:=rfl;rw[e,show 2*(j+1)=2*j+1+1 by omega];simpa using this
theorem cells_l(w:List UInt8)(ns:List Int)(hl:ns.length≤100000)(hev:ns.length % 2=0):ab Tryz.prog 78 [lnV w ns] fun r=>r=aJ (iW ns):=by
 have hsn:=celN_P ns hev;obtain⟨l,hlp⟩:∃l,l=iW ns:=⟨_,rfl⟩;rw[←hlp]at hsn ⊢;have hlz:=eJ l;rw[hsn]at hlz;refine sPx Tryz.func78 rfl rfl ?_;simp -dsimp[Tryz.f78,kQ,lnV];refine aS (W_own 133 2 [3] (by simp) (W_loopM 27 0x7fffff8 (by simp[mB]<;>rfl) (σ:=Nat) (fun j=>j≤l.length) (fun j=>l.length-j) (fun j=>[(3,.buf 1 0 j j),(4,.int .i64 ((2*j+1:Nat):Int))]) (fun j=>[B.cells [.str (bs w),.lst 1 false (ns.map aD)],B.buf 133 2 ((l.take j).map aK) false]) 0 (by simp) (by simp) (by simp) (by simp) ?_));rintro j hj N Q hN hQ;obtain⟨m,hm⟩:∃m,m=2*j:=⟨_,rfl⟩;rw[←hm]
 have hjl:(l.take j).length=j:=by rw[kg];omega
 obtain⟨m1,hm1⟩:∃m1,m1=m+1:=⟨_,rfl⟩;by_cases hb:j<l.length
 ·have hmb:m<ns.length:=by omega
  have hmb2:m1<ns.length:=by omega
  obtain⟨y,hy⟩:∃y,l[j]?=some y:=⟨_,kR hb⟩;obtain⟨a1,a2⟩:=celN_at l j y hy;rw[hsn,←hm]at a1 a2;rw[←hm1]at a2 ⊢;obtain⟨q1,b1⟩:=List.getElem?_eq_some_iff.1 a1;obtain⟨q2,b2⟩:=List.getElem?_eq_some_iff.1 a2
  have htk:l.take (j+1)=l.take j++[y]:=by rw[ap l hb];rw[kR hb]at hy;rw[Option.some.inj hy]
  obtain⟨S,hS⟩:∃S,S=l.take j:=⟨_,rfl⟩;rw[←hS]at hjl htk ⊢
  have hmi:IntKind.i64.wrap ((m1:Int)-1)=(m:Int):=by rw[aa (by omega) (by omega)];omega
  refine wx ?_;simp -dsimp[hmb2];refine aS (ai tok mixed [14] [] [] (by kernel_rfl) fun C K hC hK=>?_);simp -implicitDefEqProofs [hmb,hmb2,hmi,b1,b2,aD,fx j (by omega),hjl];refine hK _ _ ?_;simp -dsimp[aa (n:=(m1:Int)+2) (by omega) (by omega)];refine hN (j+1) _ _ (by omega) (by omega) ?_ ⟨[],?_⟩ (by simp) (by generalize lh (j+1) l=S2;simp[aK])
  ·simp;omega
  ·rw[htk];simp[aK]
 ·have e:l.take j=l:=kV (by omega)
  have hje:j=l.length:=by omega
  rw[e];clear hN hjl;subst hje
  have hend:¬(m:Int)+1<(ns.length:Int):=by omega
  refine wx ?_;simp -dsimp[hend];refine hQ _ _ _ ?_;simp -dsimp[];unfold aJ;exact exp_buf (k:=1) (e:=133) (z:=2) (xs:=l.map aK) (fz:=false) rfl (by simp) (by simp)
def st3(R0:B)(sets:List Nat)(prs:List Cpr):List B :=
 [R0,B.cells [.int .i64 3,.nilS,.int .i64 0,.nilS,.nilS,.str aX,.nilS,.nilS,.nilS,.nilS,.buf 2 0 sets.length sets.length,.buf 3 0 prs.length prs.length,.nilS,.int .u32 0,.int .u32 0],
  B.buf 39 1 (sets.map ax) false,B.buf 135 3 (prs.map aQ) false]
def gA(R0:B)(o:Option (Cert×Nat))(r:V)(H':List B):Prop:=match o with
 | some (c',st')=>r = .tup [.int .i64 (st':Nat),.bool true]∧∃G,H'=st3 R0 c'.sets c'.prs++G
 | none=>r = .tup [.int .i64 0,.bool false]∧∃G,H'=R0::G
theorem nodeC_set(ns:List Int):aW bT ns=none:=by unfold aW;rw[if_neg (fun h=>by cases h.1),if_neg (fun h=>by cases h.1)]
theorem nodeC_pair(ns:List Int):aW ar ns=none:=by unfold aW;rw[if_neg (fun h=>by cases h.1),if_neg (fun h=>by cases h.1)]
end
end Go.Proofs.YtdhgchekdkjcpaaGreatDoor
