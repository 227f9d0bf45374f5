/- JG23: own texts of this seat, joined and shortened by pack4.py: A1, Pr1. -/
import Derived.Test.YtdhgchekdkjcpaaGreatDoorJG15
import Derived.Test.YtdhgchekdkjcpaaGreatDoorJG21
import Derived.Test.YtdhgchekdkjcpaaGreatDoorJG22
set_option linter.unusedVariables false
set_option linter.unusedSimpArgs false
set_option maxRecDepth 100000
set_option maxHeartbeats 64000000
open Bool renaming false_eq_true→ke
open ByteArray renaming empty→aX
open List renaming replicate→kQ,length_append→kT,getElem?_append_left→kU,getElem_mem→kW,length_cons→kZ,length_nil→kq,count_le_length→kw,map_append→lC,getElem_append_right→lI,mem_append_left→lP,getElem_append_left→li
namespace Go.Proofs.YtdhgchekdkjcpaaGreatDoor
section
open Go Go.AM Go.Lib
theorem add_1(R0:B)(c:Cert)(hk:c.k=1)(st:Nat)(w:List UInt8)(f:Bool)(ns:List Int)(h1:c.del.length≤100000)(h2:c.prf.length≤100000)(hl:ns.length≤100000):
  aq Tryz.prog 25 [.ptr 1 0,.int .i64 st,.str (bs w),.lst 1 f (ns.map aD)] (st1 R0 c.w c.del c.prf) (gB R0 (ad c st w ns)):=by
 by_cases hw:w=bR
 ·exact add_1a R0 c hk st w f ns h1 h2 hl hw
 ·cases hx:aW w ns with
  | none=>exact add_1b R0 c hk st w f ns h1 h2 hl hw hx
  | some x=>exact add_1c R0 c hk st w f ns h1 h2 hl hw x hx
def rh1(o:Bool)(kd:Int)(c:Cert):List B :=
 if o then [B.cells [.int .i64 0,.nilS,.int .i64 0,.nilS,.nilS,.str aX,.nilS,.nilS,.nilS,.nilS,.nilS,.nilS,.nilS,.int .u32 0,.int .u32 0],B.cells [.int .i64 1,.buf 2 0 c.del.length c.del.length,.int .i64 c.w,.buf 3 0 c.prf.length c.prf.length,.nilS,.str aX,.nilS,.nilS,.nilS,.nilS,.nilS,.nilS,.nilS,.int .u32 0,.int .u32 0],B.buf 2 1 (c.del.map aD) false,B.buf 108 2 (c.prf.map aE) false] else [B.cells [.int .i64 0,.nilS,.int .i64 0,.nilS,.nilS,.str aX,.nilS,.nilS,.nilS,.nilS,.nilS,.nilS,.nilS,.int .u32 0,.int .u32 0],B.cells [.int .i64 kd,.nilS,.int .i64 c.w,.nilS,.nilS,.str aX,.nilS,.nilS,.nilS,.nilS,.nilS,.nilS,.nilS,.int .u32 0,.int .u32 0]]
theorem rh1_len(o:Bool)(kd:Int)(c:Cert):2≤(rh1 o kd c).length:=by cases o<;>simp[rh1]
theorem rh1_own{P:Program}{co:Code}{Q:Exit→List V→List B→Prop}{fr:List V}(o:Bool)(c:Cert)(he:o=false→c.del=[]∧c.prf=[])(h:W P co Q fr (rh1 true 1 c)):W P co Q fr (rh1 o 1 c):=by
 cases o with
 | true=>exact h
 | false =>
  have he:=he rfl;simp only[rh1,if_true]at h;simp only[rh1,ke,if_false];refine ba 2 1 [] 1 [1] rfl (ce _ _) (by simp) (ba 108 2 [] 1 [3] rfl (ce _ _) (by simp) (?_));simpa[he,cu] using h
theorem parse_r1(s:List UInt8)(hl:s.length≤65536)(x z:List UInt8)(qs:List (List UInt8))(hps:spl 10 s=x::qs++[z])(w0:List UInt8)(ns0:List Int)(hr0:rdL x=some (w0,ns0))(cf:Cert)(hf:ac w0 ns0=some cf)(hk:cf.k=1):
  ab Tryz.prog 8 [.str (bs s)] fun r=>r=psV (bG s):=by
 have hsp:=gj s (by omega)
 have hcl:(x::qs).length≤65536:=by
  have h1:=cD 10 s;have h2:=kw (a:=(10:UInt8)) (l:=s);rw[hps]at h1;simp only[kT,kZ,kq]at h1 ⊢;omega
 have hpl:∀p∈x::qs,p.length≤65536:=fun p hp=>by
  have:=cK 10 s p (by rw[hps];exact lP _ hp);omega
 have hst:=cZ hps hr0 hf hk
 have hfr:ab Tryz.prog 24 [.str (bs w0),.lst 1 false (ns0.map aD)] fun r=>r = .tup [aH cf.k cf.w cf.g.l cf.g.r,.bool true]:=by
  have h:=gq w0 false ns0;rw[hf]at h;exact h
 simp only[aH]at hfr
 have hcl0:cf.g.l=0:=by
  obtain⟨a0,hw0,hn0,hcf⟩:=ff hf hk;rw[hcf];rfl
 have hcr0:cf.g.r=0:=by
  obtain⟨a0,hw0,hn0,hcf⟩:=ff hf hk;rw[hcf];rfl
 rw[hk,hcl0,hcr0]at hfr;rw[hps,lC]at hsp;obtain⟨X,hX⟩:∃X,X=x::qs:=⟨_,rfl⟩;rw[←hX]at hps hsp hcl hpl;obtain⟨E,hE⟩:∃E,E=psV (bG s):=⟨_,rfl⟩;rw[←hE]
 have hno:¬(65536:Int)<(s.length:Int):=by omega
 have hw1:IntKind.i64.wrap (X.length:Int)=(X.length:Int):=aa (by omega) (by omega)
 have hpu:∀(x:V),(∃a,a∈X∧V.str (bs a)=x)∨x=V.str (bs z)→AM.Pure x:=by
  rintro v (⟨a,_,rfl⟩ | rfl)
  ·exact .str _
  ·exact .str _
 have hwo:IntKind.i64.wrap 1=1:=by rfl
 have hRR:∀n,rbB n (B.cells [.int .i64 0,.nilS,.int .i64 0,.nilS,.nilS,.str aX,.nilS,.nilS,.nilS,.nilS,.nilS,.nilS,.nilS,.int .u32 0,.int .u32 0]):=fun n=>by simp
 have hz0:aF.w=0:=rfl;have hz1:aF.g.l=0:=rfl;have hz2:aF.g.r=0:=rfl
 have hgl:∀(i:Nat) h h2,(List.map (fun p=>V.str (bs p)) X++[V.str (bs z)])[i]'h=V.str (bs (X[i]'h2)):=fun i h h2=>by rw[li (by simpa using h2)];simp
 have hgi:∀h,(List.map (fun p=>V.str (bs p)) X++[V.str (bs z)])[X.length]'h=V.str (bs z):=fun h=>by rw[lI (by simp)];simp
 refine ay (aB tok Tryz.func8 rfl rfl ?_);refine wx ?_;simp -dsimp[Tryz.f8,kQ,hno,aM,aC];refine cPx (hsp) (by simp) ?_;simp -dsimp[];refine aS (W_loopM 89 0x1fffffffffffffffffc0f98 (by simp[mB]<;>rfl) (σ:=Nat×Bool×Int×Nat×Cert) (fun p=>p.1≤X.length∧(p=(0,false,0,0,aF)∨(p.2.2.1=1∧RdS s 1 p.1 p.2.2.2.2 p.2.2.2.1 false∧(p.2.1=false→p.2.2.2.2=cf∧p.1=1)))) (fun p=>X.length-p.1) (fun p=>[(7,.int .i64 (p.2.2.2.1:Nat)),(8,.int .i64 p.1)]) (fun p=>rh1 p.2.1 p.2.2.1 p.2.2.2.2) (0,false,0,0,aF) ⟨by simp,.inl rfl⟩ (by simp) (by simp[rh1,aF]) (by intro p _;exact rh1_len _ _ _) ?_);rintro⟨i,o,kd,st,c⟩ ⟨hi,hok⟩ N Q hN hQ;simp only at hi hok;by_cases hb:i<X.length
 ·have hm:=kW hb;have hy0:=hpl _ hm;obtain⟨y,hy⟩:∃y,y=X[i]:=⟨_,rfl⟩;have hy':=hy.symm;rw[hy']at hy0
  have hgq:(List.map (fun p=>V.str (bs p)) X++[V.str (bs z)])[i]?=some (V.str (bs y)):=by rw[kU (by simpa using hb)];simp[hb,hy']
  have hb':i<X.length+1:=by omega
  have hgy:∀h,(List.map (fun p=>V.str (bs p)) X++[V.str (bs z)])[i]'h=V.str (bs y):=fun h=>by rw[hgl i h hb,hy']
  have hrd:=gW y (by omega)
  rcases hok with h0 | ⟨hkd,h,ho⟩
  ·cases h0
   have hx1:y=x:=by rw[hy];subst hX;rfl
   rw[hx1,hr0]at hrd;simp only[wdV]at hrd;rw[←hx1]at hrd;obtain⟨a0,hw0,hn0,hcf⟩:=ff hf hk;refine wx ?_;simp -dsimp[hb,hb',hgy,hgq,hw1,rh1,hz0,hz1,hz2];refine cPx (hrd) (by simp) ?_;simp -dsimp[];refine cPx (hfr) (by simp) ?_;simp -dsimp[hwo];refine hN (1,false,1,0,cf) _ _ ⟨by simp only;omega,.inr ⟨rfl,hst,fun _=>⟨rfl,rfl⟩⟩⟩ (by simp only;omega) (by simp) ⟨[],?_⟩ (by simp[rh1];exact hpu) (by simp[rh1]);simp[rh1]
  ·subst hkd
   refine rh1_own o c (fun h=>by
    obtain⟨hc2,_⟩:=ho h;obtain⟨a0,hw0,hn0,hcf⟩:=ff hf hk;rw[hc2,hcf]
    simp[aF]) ?_
   have h1i:1≤i:=h.2.2.2.2.2.1
   have hi0:(0:Int)<(i:Int):=by omega
   have hin:¬(i:Int)=0:=by omega
   have hin2:¬i=0:=by omega
   have hip:0<i:=by omega
   have h1:c.del.length≤100000:=by have:=h.2.1;unfold eF at this;omega
   have h2:c.prf.length≤100000:=by have:=h.2.1;unfold eF at this;omega
   cases hr:rdL y with
   | none =>
    have hE2:E=psV (none,i+1):=by rw[hE,dA hps h hb (by rw[hy'];exact hr)]
    rw[hr]at hrd;simp only[wdV]at hrd;refine wx ?_;simp -dsimp[hb,hb',hgy,hgq,hw1,rh1];refine cPx (hrd) (by simp) ?_;simp -dsimp[aO i (by omega)];refine hQ _ _ _ ?_;simp -dsimp[];rw[hE2];exact⟨.pure _ (by simp[psV,aH]),by simp[psV,aH]⟩
   | some p =>
    obtain⟨w,ns⟩:=p
    have hnl:ns.length≤100000:=by have:=dN hr;omega
    rw[hr]at hrd;simp only[wdV]at hrd;have hnx:=add_1 (B.cells [.int .i64 0,.nilS,.int .i64 0,.nilS,.nilS,.str aX,.nilS,.nilS,.nilS,.nilS,.nilS,.nilS,.nilS,.int .u32 0,.int .u32 0]) c h.1 st w false ns h1 h2 hnl;by_cases hw:w=aT
    ·by_cases hn:ns.length=0
     ·have he2:=dd hps h hb (by rw[hy'];exact hr) ⟨hw,hn⟩;subst hw;simp only[aT]at hrd;have hw2:IntKind.i64.wrap ((i:Int)+2)=(i:Int)+2:=aa (by omega) (by omega);by_cases hla:i+1=X.length
      ·have hw3:IntKind.i64.wrap ((i:Int)+2)=(X.length:Int)+1:=by rw[hw2];omega
       have hws:IntKind.i64.wrap ((i:Int)+1)=(X.length:Int):=by rw[aO i (by omega)];omega
       rw[hla]at he2;clear hw2
       have hgl2:(List.map (fun p=>V.str (bs p)) X++[V.str (bs z)])[X.length]?=some (V.str (bs z)):=by simp
       have hE2:E=psV (if true=true∧z=[] then(some c,0) else(none,X.length+1)):=by rw[hE,bp hps he2]
       by_cases hz:z=[]
       ·have hzt:(bs z).toList=(bs []).toList:=by rw[hz]
        rw[if_pos ⟨rfl,hz⟩]at hE2;refine wx ?_;simp -dsimp[hb,hb',hgy,hgq,hw1,rh1,aC];refine cPx (hrd) (by simp) ?_;simp -dsimp[hi0,hip,hn,aC,hw3,hgi,hgl2,hws,hzt];refine hQ _ _ _ ?_;simp -dsimp[];rw[hE2];simp only[psV,encN_1 h.1];refine⟨.tup _ _ rfl (aA (.agg _ _ rfl ?_) (aA (.pure _ (by simp)) (aA (.pure _ (by simp)) (bg _)))),by simp[aD,aE,ag,aN,aK,aJ,ax,aQ,aL]⟩;refine aA (.pure _ (by simp)) ?_;refine aA (bJ (k:=2) (e:=2) (fz:=false) rfl (by simp) (by simp[aD,aE,ag,aN,aK,aJ,ax,aQ,aL])) ?_;refine aA (.pure _ (by simp)) ?_;refine aA (bJ (k:=3) (e:=108) (fz:=false) rfl (by simp) (by simp[aD,aE,ag,aN,aK,aJ,ax,aQ,aL])) ?_;refine aA (.pure _ (by simp)) ?_;refine aA (.pure _ (by simp)) ?_;refine aA (.pure _ (by simp)) ?_;refine aA (.pure _ (by simp)) ?_;refine aA (.pure _ (by simp)) ?_;refine aA (.pure _ (by simp)) ?_;refine aA (.pure _ (by simp)) ?_;refine aA (.pure _ (by simp)) ?_;refine aA (.pure _ (by simp)) ?_;refine aA (.pure _ (by simp)) ?_;refine aA (.pure _ (by simp)) ?_;exact bg _
       ·have hnz:¬(bs z).toList=(bs []).toList:=ae hz;rw[if_neg (fun h=>hz h.2)]at hE2;refine wx ?_;simp -dsimp[hb,hb',hgy,hgq,hw1,rh1,aC];refine cPx (hrd) (by simp) ?_;simp -dsimp[hi0,hip,hn,aC,hw3,hgi,hgl2,hws,hnz];refine hQ _ _ _ ?_;simp -dsimp[];rw[hE2];exact⟨.pure _ (by simp[psV,aH]),by simp[psV,aH]⟩
      ·have hq:¬(i:Int)+2=(X.length:Int)+1:=by omega
       have hqb:¬(i:Int)+1=(X.length:Int):=by omega
       have hE2:E=psV (none,i+1+1):=by rw[hE,ck hps he2 (by omega)]
       have hq3:((i+1+1:Nat):Int)=(i:Int)+2:=by omega
       rw[psV,hq3]at hE2;refine wx ?_;simp -dsimp[hb,hb',hgy,hgq,hw1,rh1,aC];refine cPx (hrd) (by simp) ?_;simp -dsimp[hi0,hip,hn,aC,hw2,hq,hqb];refine hQ _ _ _ ?_;simp -dsimp[];rw[hE2];exact⟨.pure _ (by simp[psV,aH]),by simp[psV,aH]⟩
     ·have he:¬(w=aT∧ns.length=0):=fun h=>hn h.2
      rw[hw]at hr hrd hnx he;simp only[aT]at hrd hnx
      cases ha:ad c st aT ns with
      | none =>
       have hE2:E=psV (none,i+1):=by rw[hE,cR hps h hb (by rw[hy'];exact hr) he ha]
       simp only[aT]at ha;rw[ha]at hnx;simp only[st1,gB]at hnx;refine wx ?_;simp -dsimp[hb,hb',hgy,hgq,hw1,rh1,aC];refine cPx (hrd) (by simp) ?_;simp -dsimp[hi0,hip,hin,hin2,hn,aC];refine wcm (by simpa using hnx) ?_;rintro r H' ⟨rfl,G,rfl⟩;simp -dsimp[aO i (by omega)];refine hQ _ _ _ ?_;simp -dsimp[];rw[hE2];exact⟨.pure _ (by simp[psV,aH]),by simp[psV,aH]⟩
      | some q =>
       obtain⟨c',st'⟩:=q;have hnext:=cS hps h hb (by rw[hy'];exact hr) he ha;simp only[aT]at ha;rw[ha]at hnx;simp only[st1,gB]at hnx;refine wx ?_;simp -dsimp[hb,hb',hgy,hgq,hw1,rh1,aC];refine cPx (hrd) (by simp) ?_;simp -dsimp[hi0,hip,hin,hin2,hn,aC];refine wcm (by simpa using hnx) ?_;rintro r H' ⟨rfl,G,rfl⟩;simp -dsimp[aO i (by omega)];refine hN (i+1,true,1,st',c') _ _ ⟨by simp only;omega,.inr ⟨rfl,hnext,fun h=>(by cases h)⟩⟩ (by simp only;omega) (by simp) ⟨G,?_⟩ (by simp[rh1];exact hpu) (by simp[rh1,aD,aE,ag,aN,aK,aJ,ax,aQ,aL]);simp[rh1,st1]
    ·have he:¬(w=aT∧ns.length=0):=fun h=>hw h.1
     have hnw:¬(bs w).toList=(bs [101,110,100]).toList:=ae hw
     cases ha:ad c st w ns with
     | none =>
      have hE2:E=psV (none,i+1):=by rw[hE,cR hps h hb (by rw[hy'];exact hr) he ha]
      skip
      rw[ha]at hnx;simp only[st1,gB]at hnx;refine wx ?_;simp -dsimp[hb,hb',hgy,hgq,hw1,rh1,aC];refine cPx (hrd) (by simp) ?_;simp -dsimp[hi0,hip,hin,hin2,hnw,aC];refine wcm (by simpa using hnx) ?_;rintro r H' ⟨rfl,G,rfl⟩;simp -dsimp[aO i (by omega)];refine hQ _ _ _ ?_;simp -dsimp[];rw[hE2];exact⟨.pure _ (by simp[psV,aH]),by simp[psV,aH]⟩
     | some q =>
      obtain⟨c',st'⟩:=q;have hnext:=cS hps h hb (by rw[hy'];exact hr) he ha
      skip
      rw[ha]at hnx;simp only[st1,gB]at hnx;refine wx ?_;simp -dsimp[hb,hb',hgy,hgq,hw1,rh1,aC];refine cPx (hrd) (by simp) ?_;simp -dsimp[hi0,hip,hin,hin2,hnw,aC];refine wcm (by simpa using hnx) ?_;rintro r H' ⟨rfl,G,rfl⟩;simp -dsimp[aO i (by omega)];refine hN (i+1,true,1,st',c') _ _ ⟨by simp only;omega,.inr ⟨rfl,hnext,fun h=>(by cases h)⟩⟩ (by simp only;omega) (by simp) ⟨G,?_⟩ (by simp[rh1];exact hpu) (by simp[rh1,aD,aE,ag,aN,aK,aJ,ax,aQ,aL]);simp[rh1,st1]
 ·have hin:i=X.length:=by omega
  subst hin
  rcases hok with h0 | ⟨hkd,h,ho⟩
  ·exfalso
   injection h0 with h1 h2
   rw[hX]at h1;simp at h1
  ·subst hkd
   refine rh1_own o c (fun h=>by
    obtain⟨hc2,_⟩:=ho h;obtain⟨a0,hw0,hn0,hcf⟩:=ff hf hk;rw[hc2,hcf]
    simp[aF]) ?_
   have hE2:E=psV (none,X.length+1):=by rw[hE,bp hps h,if_neg (fun h=>by cases h.1)]
   refine wx ?_;simp -dsimp[hb,hw1,rh1];refine hQ _ _ _ ?_;simp -dsimp[];rw[hE2];exact⟨.pure _ (by simp[psV,aH]),by simp[psV,aH]⟩
end
end Go.Proofs.YtdhgchekdkjcpaaGreatDoor
