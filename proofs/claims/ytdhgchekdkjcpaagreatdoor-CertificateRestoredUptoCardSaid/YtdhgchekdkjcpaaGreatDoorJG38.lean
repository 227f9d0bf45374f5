/- JG38: own texts of this seat, joined and shortened by pack4.py: Pm0. -/
import Derived.Test.YtdhgchekdkjcpaaGreatDoorJG24
import Derived.Test.YtdhgchekdkjcpaaGreatDoorJG33
import Derived.Test.YtdhgchekdkjcpaaGreatDoorJG35
import Derived.Test.YtdhgchekdkjcpaaGreatDoorJG37
set_option linter.unusedVariables false
set_option linter.unusedSimpArgs false
set_option maxRecDepth 100000
set_option maxHeartbeats 64000000
open ByteArray renaming empty→aX
open List renaming replicate→kQ,length_append→kT,getElem_mem→kW,length_cons→kZ,length_nil→kq,eq_nil_of_length_eq_zero→kr,count_le_length→kw,map_append→lC,getElem_append_right→lI,mem_append_left→lP,take→lh,take_left'→mI
namespace Go.Proofs.YtdhgchekdkjcpaaGreatDoor
section
open Go Go.AM Go.Lib
theorem parse_0(s:List UInt8)(hl:s.length≤65536)(z:List UInt8)(X:List (List UInt8))(hps:spl 10 s=X++[z])(hw:∀x qs,X=x::qs→∀w ns,rdL x=some (w,ns)→ac w ns=none):
  ab Tryz.prog 7 [.str (bs s)] fun r=>r=psV (bG s):=by
 have hsp:=eN s 10 (by omega)
 have hcl:X.length≤65536:=by
  have h1:=cD 10 s;have h2:=kw (a:=(10:UInt8)) (l:=s);rw[hps]at h1;simp only[kT,kZ,kq]at h1 ⊢;omega
 have hpl:∀p∈X,p.length≤65536:=fun p hp=>by
  have:=cK 10 s p (by rw[hps];exact lP _ hp);omega
 have hE2:bG s=(none,1):=by
  cases hX:X with
  | nil=>rw[hX]at hps;exact par_one hps
  | cons x qs =>
   rw[hX]at hps
   cases hr:rdL x with
   | none=>exact par_none0 hps hr
   | some p=>exact ja hps hr (hw x qs hX p.1 p.2 hr)
 rw[hps,lC]at hsp;obtain⟨E,hE⟩:∃E,E=psV (bG s):=⟨_,rfl⟩;rw[←hE];rw[hE2]at hE
 have hno:¬(65536:Int)<(s.length:Int):=by omega
 have hw1:IntKind.i64.wrap (X.length:Int)=(X.length:Int):=aa (by omega) (by omega);have htk:lh X.length (List.map (fun p=>V.str (bs p)) X++[V.str (bs z)])=List.map (fun p=>V.str (bs p)) X:=mI (by simp)
 have hxl:X.length≤X.length+1:=by omega
 have hwo:IntKind.i64.wrap 1=1:=by rfl
 have hgi:∀h,(List.map (fun p=>V.str (bs p)) X++[V.str (bs z)])[X.length]'h=V.str (bs z):=fun h=>by rw[lI (by simp)];simp
 refine ay (aB tok Tryz.func7 rfl rfl ?_);refine wx ?_;simp -dsimp[Tryz.f7,kQ,hno,aM,aC];refine cPx (hsp) (by simp) ?_;simp -dsimp[hw1,htk,hxl];refine aS (W_loopM 49 0x1fffff8000f18 (by simp[mB]<;>rfl) (σ:=Nat) (fun p=>p=0) (fun p=>0) (fun p=>[(27,.int .i64 p)]) (fun p=>[B.cells [.int .i64 0,.nilS,.int .i64 0,.nilS,.nilS,.str aX,.nilS,.nilS,.nilS,.nilS,.nilS,.nilS,.nilS,.int .u32 0,.int .u32 0],B.cells [.int .i64 0,.nilS,.int .i64 0,.nilS,.nilS,.str aX,.nilS,.nilS,.nilS,.nilS,.nilS,.nilS,.nilS,.int .u32 0,.int .u32 0,.int .i64 0,.bool false]]) 0 rfl (by simp) (by simp) (by simp) ?_);rintro i rfl N Q hN hQ;by_cases hb:0<X.length
 ·have hm:=kW hb;have hy0:=hpl _ hm;obtain⟨y,hy⟩:∃y,y=X[0]:=⟨_,rfl⟩;have hy':=hy.symm;rw[hy']at hy0;have hrd:=jU y (by omega)
  cases hr:rdL y with
  | none =>
   rw[hr]at hrd;simp only[rdV]at hrd;refine wx ?_;simp -dsimp[hb,hy'];refine cPx (hrd) (by simp) ?_;simp -dsimp[hwo];refine hQ _ _ _ ?_;simp -dsimp[];rw[hE];exact⟨.pure _ (by simp[psV,aH]),by simp[psV,aH]⟩
  | some p =>
   obtain⟨w,ns⟩:=p
   have hnl:ns.length≤100000:=by have:=dN hr;omega
   rw[hr]at hrd;simp only[rdV]at hrd
   have hf:ac w ns=none:=by
    cases hX:X with
    | nil=>rw[hX]at hb;simp at hb
    | cons x qs =>
     refine hw x qs hX w ns ?_;rw[←hr,hy];subst hX;rfl
   have hnx:=nx0_0 (B.cells [.int .i64 0,.nilS,.int .i64 0,.nilS,.nilS,.str aX,.nilS,.nilS,.nilS,.nilS,.nilS,.nilS,.nilS,.int .u32 0,.int .u32 0]) .nilS .nilS .nilS (.str aX) .nilS .nilS .nilS .nilS .nilS .nilS .nilS w ns hnl hf;simp only[lnV,LnB]at hnx;refine wx ?_;simp -dsimp[hb,hy'];refine cPx (hrd) (by simp) ?_;simp -dsimp[];refine wcm (by simpa using hnx) ?_;rintro r H' ⟨rfl,G,rfl⟩;simp -dsimp[hwo];refine hQ _ _ _ ?_;simp -dsimp[];rw[hE];exact⟨.pure _ (by simp[psV,aH]),by simp[psV,aH]⟩
 ·obtain rfl:X=[]:=kr (by omega);by_cases hz:z=[]
  ·subst hz;refine wx ?_;simp -dsimp[];refine hQ _ _ _ ?_;simp -dsimp[aC,hwo];rw[hE];exact⟨.pure _ (by simp[psV,aH]),by simp[psV,aH]⟩
  ·have hnz:¬(bs z).toList=(bs []).toList:=ae hz;refine wx ?_;simp -dsimp[];refine hQ _ _ _ ?_;simp -dsimp[aC,hnz,hwo];rw[hE];exact⟨.pure _ (by simp[psV,aH]),by simp[psV,aH]⟩
theorem spl_last(c:UInt8)(l:List UInt8):∃X z,spl c l=X++[z]:=⟨_,_,(List.dropLast_concat_getLast (dq c l)).symm⟩
theorem parse_c(s:List UInt8)(hl:s.length≤65536):ab Tryz.prog 7 [.str (bs s)] fun r=>r=psV (bG s):=by
 obtain⟨X,z,hps⟩:=spl_last 10 s;by_cases hw:∀x qs,X=x::qs→∀w ns,rdL x=some (w,ns)→ac w ns=none
 ·exact parse_0 s hl z X hps hw
 ·cases hX:X with
  | nil=>exact absurd (fun x qs h=>by rw[hX]at h;cases h) hw
  | cons x qs =>
   subst hX
   cases hr:rdL x with
   | none=>exact absurd (fun x2 qs2 h w ns h2=>by cases h;rw[hr]at h2;cases h2) hw
   | some p =>
    obtain⟨w,ns⟩:=p
    cases hf:ac w ns with
    | none=>exact absurd (fun x2 qs2 h w2 ns2 h2=>by cases h;rw[hr]at h2;cases h2;exact hf) hw
    | some c =>
     obtain⟨_,h1,h4⟩:=gO hf
     have hc:c.k=1∨c.k=2∨c.k=3∨c.k=4:=by omega
     rcases hc with hk | hk | hk | hk
     ·exact parse_1 s hl x z qs hps w ns hr c hf hk
     ·exact parse_2 s hl x z qs hps w ns hr c hf hk
     ·exact parse_3 s hl x z qs hps w ns hr c hf hk
     ·exact parse_4 s hl x z qs hps w ns hr c hf hk
end
end Go.Proofs.YtdhgchekdkjcpaaGreatDoor
