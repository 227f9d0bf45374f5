/- JG39: own texts of this seat, joined and shortened by pack4.py: Pr0. -/
import Derived.Test.YtdhgchekdkjcpaaGreatDoorJG23
import Derived.Test.YtdhgchekdkjcpaaGreatDoorJG27
import Derived.Test.YtdhgchekdkjcpaaGreatDoorJG32
import Derived.Test.YtdhgchekdkjcpaaGreatDoorJG36
import Derived.Test.YtdhgchekdkjcpaaGreatDoorJG38
set_option linter.unusedVariables false
set_option linter.unusedSimpArgs false
set_option maxRecDepth 100000
set_option maxHeartbeats 64000000
open ByteArray renaming empty→aX
open List renaming replicate→kQ,length_append→kT,getElem?_append_left→kU,getElem_mem→kW,length_cons→kZ,length_nil→kq,eq_nil_of_length_eq_zero→kr,count_le_length→kw,map_append→lC,mem_append_left→lP
namespace Go.Proofs.YtdhgchekdkjcpaaGreatDoor
section
open Go Go.AM Go.Lib
theorem parse_r0(s:List UInt8)(hl:s.length≤65536)(z:List UInt8)(X:List (List UInt8))(hps:spl 10 s=X++[z])(hw:∀x qs,X=x::qs→∀w ns,rdL x=some (w,ns)→ac w ns=none):
  ab Tryz.prog 8 [.str (bs s)] fun r=>r=psV (bG s):=by
 have hsp:=gj s (by omega)
 have hcl:X.length≤65536:=by
  have h1:=cD 10 s;have h2:=kw (a:=(10:UInt8)) (l:=s);rw[hps]at h1;simp only[kT,kZ,kq]at h1 ⊢;omega
 have hpl:∀p∈X,p.length≤65536:=fun p hp=>by
  have:=cK 10 s p (by rw[hps];exact lP _ hp);omega
 have hE2:bG s=(none,1):=by
  cases hX:X with
  | nil=>rw[hX]at hps;exact par_one hps
  | cons x qs =>
   rw[hX]at hps
   cases hr:rdL x with
   | none=>exact par_none0 hps hr
   | some p=>exact ja hps hr (hw x qs hX p.1 p.2 hr)
 rw[hps,lC]at hsp;obtain⟨E,hE⟩:∃E,E=psV (bG s):=⟨_,rfl⟩;rw[←hE];rw[hE2]at hE
 have hno:¬(65536:Int)<(s.length:Int):=by omega
 have hw1:IntKind.i64.wrap (X.length:Int)=(X.length:Int):=aa (by omega) (by omega)
 have hpu:∀(x:V),(∃a,a∈X∧V.str (bs a)=x)∨x=V.str (bs z)→AM.Pure x:=by
  rintro v (⟨a,_,rfl⟩ | rfl)
  ·exact .str _
  ·exact .str _
 have hwo:IntKind.i64.wrap 1=1:=by rfl
 refine ay (aB tok Tryz.func8 rfl rfl ?_);refine wx ?_;simp -dsimp[Tryz.f8,kQ,hno,aM,aC];refine cPx (hsp) (by simp) ?_;simp -dsimp[];refine aS (W_loopM 89 0x1fffffffffffffffffc0f98 (by simp[mB]<;>rfl) (σ:=Nat) (fun p=>p=0) (fun p=>0) (fun p=>[(7,.int .i64 0),(8,.int .i64 p)]) (fun p=>[B.cells [.int .i64 0,.nilS,.int .i64 0,.nilS,.nilS,.str aX,.nilS,.nilS,.nilS,.nilS,.nilS,.nilS,.nilS,.int .u32 0,.int .u32 0],B.cells [.int .i64 0,.nilS,.int .i64 0,.nilS,.nilS,.str aX,.nilS,.nilS,.nilS,.nilS,.nilS,.nilS,.nilS,.int .u32 0,.int .u32 0]]) 0 rfl (by simp) (by simp) (by simp) ?_);rintro i rfl N Q hN hQ;by_cases hb:0<X.length
 ·have hm:=kW hb;have hy0:=hpl _ hm;obtain⟨y,hy⟩:∃y,y=X[0]:=⟨_,rfl⟩;have hy':=hy.symm;rw[hy']at hy0
  have hgq:(List.map (fun p=>V.str (bs p)) X++[V.str (bs z)])[0]?=some (V.str (bs y)):=by rw[kU (by simpa using hb)];simp[hb,hy']
  have hgy:∀h,(List.map (fun p=>V.str (bs p)) X++[V.str (bs z)])[0]'h=V.str (bs y):=fun h=>(List.getElem?_eq_some_iff.1 hgq).2
  have hb':0<X.length+1:=by omega
  have hrd:=gW y (by omega)
  cases hr:rdL y with
  | none =>
   rw[hr]at hrd;simp only[wdV]at hrd;refine wx ?_;simp -dsimp[hb,hb',hgy,hgq,hw1];refine cPx (hrd) (by simp) ?_;simp -dsimp[hwo];refine hQ _ _ _ ?_;simp -dsimp[];rw[hE];exact⟨.pure _ (by simp[psV,aH]),by simp[psV,aH]⟩
  | some p =>
   obtain⟨w,ns⟩:=p;rw[hr]at hrd;simp only[wdV]at hrd
   have hf:ac w ns=none:=by
    cases hX:X with
    | nil=>rw[hX]at hb;simp at hb
    | cons x qs =>
     refine hw x qs hX w ns ?_;rw[←hr,hy];subst hX;rfl
   have hfr:=gq w false ns;rw[hf]at hfr;refine wx ?_;simp -dsimp[hb,hb',hgy,hgq,hw1];refine cPx (hrd) (by simp) ?_;simp -dsimp[];refine(callK hfr (by simp)).mono ?_;rintro r H' ⟨rfl,_,k0,rfl⟩;simp -dsimp[aH,hwo];refine hQ _ _ _ ?_;simp -dsimp[];rw[hE];exact⟨.pure _ (by simp[psV,aH]),by simp[psV,aH]⟩
 ·obtain rfl:X=[]:=kr (by omega);refine wx ?_;simp -dsimp[hwo,hw1];refine hQ _ _ _ ?_;simp -dsimp[hwo];rw[hE];exact⟨.pure _ (by simp[psV,aH]),by simp[psV,aH]⟩
theorem parse_r(s:List UInt8)(hl:s.length≤65536):ab Tryz.prog 8 [.str (bs s)] fun r=>r=psV (bG s):=by
 obtain⟨X,z,hps⟩:=spl_last 10 s;by_cases hw:∀x qs,X=x::qs→∀w ns,rdL x=some (w,ns)→ac w ns=none
 ·exact parse_r0 s hl z X hps hw
 ·cases hX:X with
  | nil=>exact absurd (fun x qs h=>by rw[hX]at h;cases h) hw
  | cons x qs =>
   subst hX
   cases hr:rdL x with
   | none=>exact absurd (fun x2 qs2 h w ns h2=>by cases h;rw[hr]at h2;cases h2) hw
   | some p =>
    obtain⟨w,ns⟩:=p
    cases hf:ac w ns with
    | none=>exact absurd (fun x2 qs2 h w2 ns2 h2=>by cases h;rw[hr]at h2;cases h2;exact hf) hw
    | some c =>
     obtain⟨_,h1,h4⟩:=gO hf
     have hc:c.k=1∨c.k=2∨c.k=3∨c.k=4:=by omega
     rcases hc with hk | hk | hk | hk
     ·exact parse_r1 s hl x z qs hps w ns hr c hf hk
     ·exact parse_r2 s hl x z qs hps w ns hr c hf hk
     ·exact parse_r3 s hl x z qs hps w ns hr c hf hk
     ·exact parse_r4 s hl x z qs hps w ns hr c hf hk
end
end Go.Proofs.YtdhgchekdkjcpaaGreatDoor
