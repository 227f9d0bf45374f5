/- JG24: own texts of this seat, joined and shortened by pack4.py: B2a, Pm2. -/
import Derived.Test.YtdhgchekdkjcpaaGreatDoorJG15
set_option linter.unusedVariables false
set_option linter.unusedSimpArgs false
set_option maxRecDepth 100000
set_option maxHeartbeats 64000000
open ByteArray renaming empty→aX
open List renaming replicate→kQ,length_append→kT,getElem_mem→kW,nil_append→kX,length_cons→kZ,cons_append→kf,length_nil→kq,count_le_length→kw,map_append→lC,getElem_append_right→lI,mem_append_left→lP,take→lh,take_left'→mI
namespace Go.Proofs.YtdhgchekdkjcpaaGreatDoor
section
open Go Go.AM Go.Lib
theorem add_2a(R0:B)(hR0:∀n,rbB n R0)(c:Cert)(hk:c.k=2)(st:Nat)(w:List UInt8)(f:Bool)(ns:List Int)(h1:c.cells.length≤100000)(h2:c.cores.length≤100000)(h3:c.upr.length≤100000)(hl:ns.length≤100000)(hw:w=ao):
  aq Tryz.prog 25 [.ptr 1 0,.int .i64 st,.str (bs w),.lst 1 f (ns.map aD)] (st2 R0 c.cells c.cores c.upr) (fP R0 (ad c st w ns)):=by
 rw[addC_2 hk];subst hw;rw[if_neg (show ¬(ao=al∧st≤1∧ns.length % 2=0) from fun h=>by cases h.1),gK];have n2:¬(bs [99,101,108,108]).toList=(bs [99,111,114,101]).toList:=ae (by decide);have hnd:=dI ao f ns hl;rw[gK]at hnd;simp only[ao,ndV]at hnd;by_cases hs:st=0
 case neg =>
  rw[if_neg (fun h=>hs h.2.1)]
  have hs2:¬(st:Int)=0:=by omega
  refine aB tok Tryz.func25 rfl rfl ?_;refine wx ?_;simp (maxSteps:=8000000) -implicitDefEqProofs -dsimp[Tryz.f25,kQ,st2,ao,aC,hs,hs2,n2];refine cPx (hnd) (by simp) ?_;simp (maxSteps:=2000000) -implicitDefEqProofs -dsimp[];exact⟨rfl,_,rfl⟩
 subst hs;by_cases hn:ns.length=2
 case neg =>
  rw[if_neg (fun h=>hn h.2.2)]
  have hn2:¬(ns.length:Int)=2:=by omega
  refine aB tok Tryz.func25 rfl rfl ?_;refine wx ?_;simp (maxSteps:=8000000) -implicitDefEqProofs -dsimp[Tryz.f25,kQ,st2,ao,aC,hn2,n2];refine cPx (hnd) (by simp) ?_;simp (maxSteps:=2000000) -implicitDefEqProofs -dsimp[];exact⟨rfl,_,rfl⟩
 rw[if_pos ⟨rfl,rfl,hn⟩];obtain⟨a,b,rfl⟩:=jP hn;refine aB tok Tryz.func25 rfl rfl ?_;refine wx ?_;simp (maxSteps:=8000000) -implicitDefEqProofs -dsimp[Tryz.f25,kQ,st2,ao,aC,aD,n2];refine aS (ai tok mixed [14,18] [(0,[1])] [] (by kernel_rfl) fun C K hC hK=>?_);simp -implicitDefEqProofs [aD,fx c.cells.length (by omega)];refine hK _ _ ?_;simp -dsimp[];unfold fP;refine⟨by simp,[],?_⟩;simp[st2,aK,gN]
theorem parse_2(s:List UInt8)(hl:s.length≤65536)(x z:List UInt8)(qs:List (List UInt8))(hps:spl 10 s=x::qs++[z])(w0:List UInt8)(ns0:List Int)(hr0:rdL x=some (w0,ns0))(cf:Cert)(hf:ac w0 ns0=some cf)(hk:cf.k=2):
  ab Tryz.prog 7 [.str (bs s)] fun r=>r=psV (bG s):=by
 have hsp:=eN s 10 (by omega)
 have hcl:(x::qs).length≤65536:=by
  have h1:=cD 10 s;have h2:=kw (a:=(10:UInt8)) (l:=s);rw[hps]at h1;simp only[kT,kZ,kq]at h1 ⊢;omega
 have hpl:∀p∈x::qs,p.length≤65536:=fun p hp=>by
  have:=cK 10 s p (by rw[hps];exact lP _ hp);omega
 have hst:=cZ hps hr0 hf hk;rw[hps,lC]at hsp
 have hx0:∀h,(x::qs)[0]'h=x:=fun _=>rfl
 obtain⟨X,hX⟩:∃X,X=x::qs:=⟨_,rfl⟩;rw[←hX]at hps hsp hcl hpl;obtain⟨E,hE⟩:∃E,E=psV (bG s):=⟨_,rfl⟩;rw[←hE]
 have hno:¬(65536:Int)<(s.length:Int):=by omega
 have hw1:IntKind.i64.wrap (X.length:Int)=(X.length:Int):=aa (by omega) (by omega);have htk:lh X.length (List.map (fun p=>V.str (bs p)) X++[V.str (bs z)])=List.map (fun p=>V.str (bs p)) X:=mI (by simp)
 have hxl:X.length≤X.length+1:=by omega
 have hpu:∀(x:V),(∃a,a∈X∧V.str (bs a)=x)∨x=V.str (bs z)→AM.Pure x:=by
  rintro v (⟨a,_,rfl⟩ | rfl)
  ·exact .str _
  ·exact .str _
 have hwo:IntKind.i64.wrap 1=1:=by rfl
 have hRR:∀n,rbB n (B.cells [.int .i64 0,.nilS,.int .i64 0,.nilS,.nilS,.str aX,.nilS,.nilS,.nilS,.nilS,.nilS,.nilS,.nilS,.int .u32 0,.int .u32 0]):=fun n=>by simp
 have hgi:∀h,(List.map (fun p=>V.str (bs p)) X++[V.str (bs z)])[X.length]'h=V.str (bs z):=fun h=>by rw[lI (by simp)];simp
 refine ay (aB tok Tryz.func7 rfl rfl ?_);refine wx ?_;simp -dsimp[Tryz.f7,kQ,hno,aM,aC];refine cPx (hsp) (by simp) ?_;simp -dsimp[hw1,htk,hxl];refine aS (ba 133 2 [] 1 [4] rfl (by simp) (by simp) (ba 27 1 [] 1 [8] rfl (by simp) (by simp) (ba 108 2 [] 1 [9] rfl (by simp) (by simp) (W_loopM 49 0x1fffff8000f18 (by simp[mB]<;>rfl) (σ:=Nat×Int×Nat×Cert×Bool) (fun p=>p.1≤X.length∧(p=(0,0,0,aF,false)∨(p.2.1=2∧∃st,p.2.2.1=st+1∧RdS s 2 p.1 p.2.2.2.1 st p.2.2.2.2))) (fun p=>X.length-p.1) (fun p=>[(27,.int .i64 p.1)]) (fun p=>[B.cells [.int .i64 0,.nilS,.int .i64 0,.nilS,.nilS,.str aX,.nilS,.nilS,.nilS,.nilS,.nilS,.nilS,.nilS,.int .u32 0,.int .u32 0],B.cells [.int .i64 p.2.1,.nilS,.int .i64 0,.nilS,.buf 2 0 p.2.2.2.1.cells.length p.2.2.2.1.cells.length,.str aX,.nilS,.nilS,.buf 3 0 p.2.2.2.1.cores.length p.2.2.2.1.cores.length,.buf 4 0 p.2.2.2.1.upr.length p.2.2.2.1.upr.length,.nilS,.nilS,.nilS,.int .u32 0,.int .u32 0,.int .i64 (p.2.2.1:Nat),.bool p.2.2.2.2],B.buf 133 2 (p.2.2.2.1.cells.map aK) false,B.buf 27 1 (p.2.2.2.1.cores.map aJ) false,B.buf 108 2 (p.2.2.2.1.upr.map aE) false]) (0,0,0,aF,false) ⟨by simp,.inl rfl⟩ (by simp) (by simp[aF]) (by simp) ?_))));rintro⟨i,kd,sg,c,dn⟩ ⟨hi,hok⟩ N Q hN hQ;simp only at hi hok;have hz0:aF.w=0:=rfl;have hz1:aF.g.l=0:=rfl;have hz2:aF.g.r=0:=rfl
 have hxs:∀(h:i<X.length),rdL X[i]=none→E=psV (none,i+1):=fun h hn=>by
  rcases hok with h0 | ⟨_,st,_,h1⟩
  ·cases h0
   have:X[0]'h=x:=by subst hX;rfl
   rw[this,hr0]at hn;cases hn
  ·rw[hE,dA hps h1 h hn]
 by_cases hb:i<X.length
 ·have hm:=kW hb;have hy0:=hpl _ hm;obtain⟨y,hy⟩:∃y,y=X[i]:=⟨_,rfl⟩;have hy':=hy.symm;rw[hy']at hy0;have hrd:=jU y (by omega)
  cases hr:rdL y with
  | none =>
   have hE2:=hxs hb (by rw[hy'];exact hr);rw[hr]at hrd;simp only[rdV]at hrd;refine wx ?_;simp -dsimp[hb,hy'];refine cPx (hrd) (by simp) ?_;simp -dsimp[aO i (by omega)];refine hQ _ _ _ ?_;simp -dsimp[];rw[hE2];exact⟨.pure _ (by simp[psV,aH]),by simp[psV,aH]⟩
  | some p =>
   obtain⟨w,ns⟩:=p
   have hnl:ns.length≤100000:=by have:=dN hr;omega
   rw[hr]at hrd;simp only[rdV]at hrd
   rcases hok with h0 | ⟨hkd,st,hsg,h⟩
   ·cases h0
    have hx1:y=x:=by rw[hy];subst hX;rfl
    rw[hx1,hr0]at hr;cases hr;obtain⟨hw0,hn0,hcf⟩:=ea hf hk;have hnx:=nx0_2 (B.cells [.int .i64 0,.nilS,.int .i64 0,.nilS,.nilS,.str aX,.nilS,.nilS,.nilS,.nilS,.nilS,.nilS,.nilS,.int .u32 0,.int .u32 0]) (B.buf 133 2 (aF.cells.map aK) false) (B.buf 27 1 (aF.cores.map aJ) false) (B.buf 108 2 (aF.upr.map aE) false) .nilS .nilS (.buf 2 0 aF.cells.length aF.cells.length) (.str aX) .nilS .nilS (.buf 3 0 aF.cores.length aF.cores.length) (.buf 4 0 aF.upr.length aF.upr.length) .nilS .nilS .nilS w0 ns0 hw0 hn0;simp only[lnV,LnB]at hnx;refine wx ?_;simp -dsimp[hb,hy',hz0,hz1,hz2];refine cPx (hrd) (by simp) ?_;simp -dsimp[];refine wcm (by simpa using hnx) ?_;rintro r H' ⟨rfl,G,rfl⟩;simp -dsimp[hwo];refine hN (1,2,1,cf,false) _ _ ⟨by simp only;omega,.inr ⟨rfl,0,rfl,hst⟩⟩ (by simp only;omega) (by simp) ⟨G,?_⟩ (by simp;exact hpu) (by simp[aD,aE,ag,aN,aK,aJ,ax,aQ,aL]);subst hcf;simp[aD,aE,ag,aN,aK,aJ,ax,aQ,aL]
   ·subst hkd;subst hsg
    have h1:c.cells.length≤100000:=by have:=h.2.1;unfold eF at this;omega
    have h2:c.cores.length≤100000:=by have:=h.2.1;unfold eF at this;omega
    have h3:c.upr.length≤100000:=by have:=h.2.1;unfold eF at this;omega
    cases dn with
    | true =>
     have hE2:E=psV (none,i+1):=by rw[hE,ck hps h hb]
     have hnx:=fun R=>next_d (B.cells [.int .i64 0,.nilS,.int .i64 0,.nilS,.nilS,.str aX,.nilS,.nilS,.nilS,.nilS,.nilS,.nilS,.nilS,.int .u32 0,.int .u32 0]) (.int .i64 2) .nilS (.int .i64 0) .nilS (.buf 2 0 c.cells.length c.cells.length) (.str aX) .nilS .nilS (.buf 3 0 c.cores.length c.cores.length) (.buf 4 0 c.upr.length c.upr.length) .nilS .nilS .nilS (.int .u32 0) (.int .u32 0) (.int .i64 ((st+1:Nat):Int)) R w ns
     simp only[lnV]at hnx;refine wx ?_;simp -dsimp[hb,hy'];refine cPx (hrd) (by simp) ?_;simp -dsimp[];refine wcm (by simpa using hnx _) ?_;rintro r H' ⟨rfl,G,rfl⟩;simp -dsimp[aO i (by omega)];refine hQ _ _ _ ?_;simp -dsimp[];rw[hE2];exact⟨.pure _ (by simp[psV,aH]),by simp[psV,aH]⟩
    | false =>
     have hnx:=next_2 (B.cells [.int .i64 0,.nilS,.int .i64 0,.nilS,.nilS,.str aX,.nilS,.nilS,.nilS,.nilS,.nilS,.nilS,.nilS,.int .u32 0,.int .u32 0]) hRR c h.1 st h.2.2.1 w ns hnl h1 h2 h3;by_cases he:w=aT∧ns.length=0
     ·have e:kO (B.cells [.int .i64 0,.nilS,.int .i64 0,.nilS,.nilS,.str aX,.nilS,.nilS,.nilS,.nilS,.nilS,.nilS,.nilS,.int .u32 0,.int .u32 0]) c st w ns=fun r H'=>r = .bool true∧∃G,H'=cG (B.cells [.int .i64 0,.nilS,.int .i64 0,.nilS,.nilS,.str aX,.nilS,.nilS,.nilS,.nilS,.nilS,.nilS,.nilS,.int .u32 0,.int .u32 0]) c.cells c.cores c.upr (st+1) true++G:=by
       funext r H';unfold kO;rw[if_pos he]
      rw[e]at hnx;simp only[cG,lnV,LnB,kf,kX]at hnx;refine wx ?_;simp -dsimp[hb,hy'];refine cPx (hrd) (by simp) ?_;simp -dsimp[];refine wcm (by simpa using hnx) ?_;rintro r H' ⟨rfl,G,rfl⟩;simp -dsimp[aO i (by omega)];refine hN (i+1,2,st+1,c,true) _ _ ⟨by simp only;omega,.inr ⟨rfl,st,rfl,dd hps h hb (by rw[hy'];exact hr) he⟩⟩ (by simp only;omega) (by simp) ⟨G,?_⟩ (by simp;exact hpu) (by simp[aD,aE,ag,aN,aK,aJ,ax,aQ,aL]);simp
     ·have e:kO (B.cells [.int .i64 0,.nilS,.int .i64 0,.nilS,.nilS,.str aX,.nilS,.nilS,.nilS,.nilS,.nilS,.nilS,.nilS,.int .u32 0,.int .u32 0]) c st w ns=Pd2R (B.cells [.int .i64 0,.nilS,.int .i64 0,.nilS,.nilS,.str aX,.nilS,.nilS,.nilS,.nilS,.nilS,.nilS,.nilS,.int .u32 0,.int .u32 0]) (ad c st w ns):=by
       funext r H';unfold kO;rw[if_neg he]
      rw[e]at hnx
      cases ha:ad c st w ns with
      | none =>
       have hE2:E=psV (none,i+1):=by rw[hE,cR hps h hb (by rw[hy'];exact hr) he ha]
       rw[ha]at hnx;simp only[cG,lnV,LnB,kf,kX,Pd2R]at hnx;refine wx ?_;simp -dsimp[hb,hy'];refine cPx (hrd) (by simp) ?_;simp -dsimp[];refine wcm (by simpa using hnx) ?_;rintro r H' ⟨rfl,G,rfl⟩;simp -dsimp[aO i (by omega)];refine hQ _ _ _ ?_;simp -dsimp[];rw[hE2];exact⟨.pure _ (by simp[psV,aH]),by simp[psV,aH]⟩
      | some q =>
       obtain⟨c',st'⟩:=q;have hnext:=cS hps h hb (by rw[hy'];exact hr) he ha;rw[ha]at hnx;simp only[cG,lnV,LnB,kf,kX,Pd2R]at hnx;refine wx ?_;simp -dsimp[hb,hy'];refine cPx (hrd) (by simp) ?_;simp -dsimp[];refine wcm (by simpa using hnx) ?_;rintro r H' ⟨rfl,G,rfl⟩;simp -dsimp[aO i (by omega)];refine hN (i+1,2,st'+1,c',false) _ _ ⟨by simp only;omega,.inr ⟨rfl,st',rfl,hnext⟩⟩ (by simp only;omega) (by simp) ⟨G,?_⟩ (by simp;exact hpu) (by simp[aD,aE,ag,aN,aK,aJ,ax,aQ,aL]);simp[cG]
 ·have hin:i=X.length:=by omega
  subst hin
  rcases hok with h0 | ⟨hkd,st,hsg,h⟩
  ·exfalso
   injection h0 with h1 h2
   rw[hX]at h1;simp at h1
  ·have hE2:E=psV (if dn=true∧z=[] then(some c,0) else(none,X.length+1)):=by rw[hE,bp hps h]
   subst hkd;subst hsg
   have hnz:¬z=[]→¬(bs z).toList=(bs []).toList:=fun h=>ae h
   cases dn with
   | true =>
    by_cases hz:z=[]
    ·subst hz;rw[if_pos ⟨rfl,rfl⟩]at hE2;refine wx ?_;simp -dsimp[hb];refine hQ _ _ _ ?_;simp -dsimp[hgi,aC];rw[hE2];simp only[psV,encN_2 h.1];refine⟨.tup _ _ rfl (aA (.agg _ _ rfl ?_) (aA (.pure _ (by simp)) (aA (.pure _ (by simp)) (bg _)))),by simp[aD,aE,ag,aN,aK,aJ,ax,aQ,aL]⟩;refine aA (.pure _ (by simp)) ?_;refine aA (.pure _ (by simp)) ?_;refine aA (.pure _ (by simp)) ?_;refine aA (.pure _ (by simp)) ?_;refine aA (bJ (k:=2) (e:=133) (fz:=false) rfl (by simp) (by simp[aD,aE,ag,aN,aK,aJ,ax,aQ,aL])) ?_;refine aA (.pure _ (by simp)) ?_;refine aA (.pure _ (by simp)) ?_;refine aA (.pure _ (by simp)) ?_;refine aA (bJ (k:=3) (e:=27) (fz:=false) rfl (by simp) (by simp[aD,aE,ag,aN,aK,aJ,ax,aQ,aL])) ?_;refine aA (bJ (k:=4) (e:=108) (fz:=false) rfl (by simp) (by simp[aD,aE,ag,aN,aK,aJ,ax,aQ,aL])) ?_;refine aA (.pure _ (by simp)) ?_;refine aA (.pure _ (by simp)) ?_;refine aA (.pure _ (by simp)) ?_;refine aA (.pure _ (by simp)) ?_;refine aA (.pure _ (by simp)) ?_;exact bg _
    ·have hnz:=hnz hz;rw[if_neg (fun h=>hz h.2)]at hE2;refine wx ?_;simp -dsimp[hb];refine hQ _ _ _ ?_;simp -dsimp[hgi,aC,hnz,aO X.length (by omega)];rw[hE2];exact⟨.pure _ (by simp[psV,aH]),by simp[psV,aH]⟩
   | false =>
    rw[if_neg (fun h=>by cases h.1)]at hE2;by_cases hz:z=[]
    ·subst hz;refine wx ?_;simp -dsimp[hb];refine hQ _ _ _ ?_;simp -dsimp[hgi,aC,aO X.length (by omega)];rw[hE2];exact⟨.pure _ (by simp[psV,aH]),by simp[psV,aH]⟩
    ·have hnz:=hnz hz;refine wx ?_;simp -dsimp[hb];refine hQ _ _ _ ?_;simp -dsimp[hgi,aC,hnz,aO X.length (by omega)];rw[hE2];exact⟨.pure _ (by simp[psV,aH]),by simp[psV,aH]⟩
end
end Go.Proofs.YtdhgchekdkjcpaaGreatDoor
