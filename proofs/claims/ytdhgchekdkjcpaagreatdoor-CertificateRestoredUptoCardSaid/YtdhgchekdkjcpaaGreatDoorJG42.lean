/- JG42: own texts of this seat, joined and shortened by pack4.py: Lw. -/
import Derived.Test.YtdhgchekdkjcpaaGreatDoorJG20
import Derived.Test.YtdhgchekdkjcpaaGreatDoorJG39
import Derived.Test.YtdhgchekdkjcpaaGreatDoorJG41
set_option linter.unusedVariables false
set_option linter.unusedSimpArgs false
set_option maxRecDepth 100000
set_option maxHeartbeats 64000000
open ByteArray renaming empty→aX
open List renaming replicate→kQ,map_nil→lD
namespace Go.Proofs.YtdhgchekdkjcpaaGreatDoor
section
open Go Go.AM Go.Lib
theorem jY(s:List UInt8)(hl:s.length≤65536):ab Tryz.prog 7 [.str (bs s)] fun r=>r=prV (bG s):=iC (parse_c s hl) (le_ps s) (by simp[prV])
theorem parse_rW(s:List UInt8)(hl:s.length≤65536):ab Tryz.prog 8 [.str (bs s)] fun r=>r=prV (bG s):=iC (parse_r s hl) (le_ps s) (by simp[prV])
theorem stringsZ:ab Tryz.prog 32 [.lst 1 false [],.nilS] fun r=>r = .bool true:=by
 refine sPx Tryz.func32 rfl rfl ?_;simp -dsimp[Tryz.f32,kQ];refine aS (W_loopM 26 0x3fff830 (by simp[mB]<;>rfl) (σ:=Nat) (fun i=>i=0) (fun _=>0) (fun i=>[(5,.int .i64 0)]) (fun _=>[]) 0 rfl (by simp) rfl (by simp) ?_);rintro i rfl N Q hN hQ;refine wx ?_;simp -dsimp[];refine hQ _ _ _ ?_;simp -dsimp[]
theorem equalZ:ab Tryz.prog 10 [.agg [.str aX,.lst 1 false [],.lst 2 false []],.agg [.str aX,.nilS,.nilS]] fun r=>r = .bool true:=by
 refine sPx Tryz.func10 rfl rfl ?_;simp -dsimp[Tryz.f10,kQ];refine cPx (stringsZ) (by simp) ?_;simp -dsimp[];refine aS (W_loopM 47 0x7ffff0000030 (by simp[mB]<;>rfl) (σ:=Nat) (fun i=>i=0) (fun _=>0) (fun i=>[(5,.int .i64 0)]) (fun _=>[B.cells [.str aX,.lst 1 false [],.lst 2 false []],B.cells [.str aX,.nilS,.nilS]]) 0 rfl (by simp) rfl (by simp) ?_);rintro i rfl N Q hN hQ;refine wx ?_;simp -dsimp[];refine hQ _ _ _ ?_;simp -dsimp[]
theorem lawParse(s:ByteArray):ab Tryz.prog 3 [.str s] fun r=>r = .bool true:=by
 obtain⟨l,rfl⟩:∃l,s=bs l:=⟨_,(dO s).symm⟩;by_cases hl:l.length≤2000
 ·have h1:=jY l (by omega);have h2:=parse_rW l (by omega);obtain⟨hln,ht⟩:=prC_ln l (by omega);have h3:=same_r _ hln;simp only[prV]at h1 h2;obtain⟨c,hc⟩:∃c,c=prC (bG l):=⟨_,rfl⟩;obtain⟨n,hn⟩:∃n:Int,n=((bG l).2:Nat):=⟨_,rfl⟩;obtain⟨e,he⟩:∃e,e=prE (bG l):=⟨_,rfl⟩;rw[←hc,←hn,←he]at h1 h2;rw[←hc]at h3 ht;clear hln;simp only[aU,aI,aZ,aJ,ht,tb0,lD]at h1 h2 h3
  have hno:¬(2000:Int)<(l.length:Int):=by omega
  refine sPx Tryz.func3 rfl rfl ?_;simp -dsimp[Tryz.f3,kQ,aM,hno];refine cPx (bi) (by simp) ?_;simp -dsimp[aM,hno];refine cPx (h1) (by simp) ?_;simp -dsimp[];refine cPx (h2) (by simp) ?_;simp -dsimp[];refine cPx (h3) (by simp) ?_;simp -dsimp[];refine cPx (equalZ) (by simp) ?_;simp -dsimp[]
 ·have hno:(2000:Int)<(l.length:Int):=by omega
  refine sPx Tryz.func3 rfl rfl ?_;simp -dsimp[Tryz.f3,kQ,aM,hno];refine cPx (bi) (by simp) ?_;simp -dsimp[aM,hno];refine cPx (bi) (by simp) ?_;simp -dsimp[]
theorem back_ok{l:List UInt8}(hl:l.length≤2000):prE (bG l)=2∨(prE (bG l)=0∧SzC (prC (bG l))∧ft (prC (bG l))=0∧dv (prC (bG l))=l):=by
 cases h:bG l with
 | mk o n =>
  cases o with
  | none=>exact .inl rfl
  | some c =>
   obtain⟨_,ok,hr,e⟩:=fe h;refine .inr ⟨rfl,(ok_ln ok hr (by rw[e];omega)).2,?_⟩;have ok2:=(onlyC_ok ok hr).1
   have e2:lnT (ak (bC c))=l:=by rw[only_lines ok,e]
   have e3:ft (bC c)=0:=by unfold ft;rw[if_pos ok2,if_pos (by rw[e2];omega)]
   refine⟨e3,?_⟩;show dv (bC c)=l;unfold dv;rw[if_pos e3,e2]
theorem fmt_ok{c:Cert}(hr:okR c)(he:ft c=0):okC c=true∧(dv c).length≤65536∧bG (dv c)=(some (bC c),0):=by
 by_cases ok:okC c=true
 ·refine⟨ok,?_⟩;have hl:=fmtT_len c
  have e:dv c=lnT (ak c):=by unfold dv;rw[if_pos he]
  rw[e]at hl ⊢;exact⟨hl,parse_fmt ok hr⟩
 ·unfold ft at he;rw[if_neg ok]at he;cases he
theorem lawRestored(c:Cert)(s:ByteArray)(h:CertB 1048576 c):ab Tryz.prog 4 [aU c,.str s] fun r=>r = .bool true:=by
 obtain⟨l,rfl⟩:∃l,s=bs l:=⟨_,(dO s).symm⟩;have h1:=few_r c h;by_cases hf:fewN c≤600
 case neg =>
  rw[decide_eq_false hf]at h1;clear h;simp only[aU,aI,aZ,aJ]at h1;refine sPx Tryz.func4 rfl rfl ?_;simp -dsimp[Tryz.f4,kQ,aU,aI,aZ,aJ];refine cPx (bi) (by simp) ?_;simp -dsimp[];refine cPx (h1) (by simp) ?_;simp -dsimp[];refine cPx (bi) (by simp) ?_;simp -dsimp[]
 rw[decide_eq_true hf]at h1;by_cases hl:l.length≤2000
 case neg =>
  have hno:(2000:Int)<(l.length:Int):=by omega
  clear h;simp only[aU,aI,aZ,aJ]at h1;refine sPx Tryz.func4 rfl rfl ?_;simp -dsimp[Tryz.f4,kQ,aU,aI,aZ,aJ];refine cPx (bi) (by simp) ?_;simp -dsimp[];refine cPx (h1) (by simp) ?_;simp -dsimp[aM,hno];refine cPx (bi) (by simp) ?_;simp -dsimp[]
 have hno:¬(2000:Int)<(l.length:Int):=by omega
 have h2:=jt c (few_sz hf h.r);have h3:=jY l (by omega);have hb:=back_ok hl;simp only[prV]at h3;obtain⟨d,hd⟩:∃d,d=prC (bG l):=⟨_,rfl⟩;obtain⟨n,hn⟩:∃n:Int,n=((bG l).2:Nat):=⟨_,rfl⟩;obtain⟨e,he⟩:∃e,e=prE (bG l):=⟨_,rfl⟩;rw[←hd,←hn,←he]at h3;rw[←hd,←he]at hb;have hr:=h.r;clear h;by_cases hz:ft c=0
 ·obtain⟨ok,ht,hp⟩:=fmt_ok hr hz;have h4:=jY (dv c) ht;rw[hp]at h4;simp only[prV,prC,prE,(fY ok).1]at h4;have h5:=only_r c ok;have h6:=same_r (bC c) (ok_ln ok hr (by have e:dv c=lnT (ak c):=by { unfold dv;rw[if_pos hz] };rw[←e];exact ht)).1;rw[hz]at h2;obtain⟨g,hg⟩:∃g,g=bC c:=⟨_,rfl⟩;obtain⟨t,htt⟩:∃t,t=dv c:=⟨_,rfl⟩;rw[←hg]at h4 h5 h6;rw[←htt]at h2 h4;clear hp ht
  rcases hb with hb | ⟨hb,hs,hb1,hb2⟩
  ·rw[hb]at h3;simp only[aU,aI,aZ,aJ]at h1 h2 h3 h4 h5 h6;refine sPx Tryz.func4 rfl rfl ?_;simp -dsimp[Tryz.f4,kQ,aU,aI,aZ,aJ];refine cPx (bi) (by simp) ?_;simp -dsimp[];refine cPx (h1) (by simp) ?_;simp -dsimp[aM,hno];refine cPx (h2) (by simp) ?_;simp -dsimp[];refine cPx (h4) (by simp) ?_;simp -dsimp[];refine .inr ⟨cj (by kernel_rfl),?_⟩;refine cy_of _ (cr (h5) (by simp)) ?_;simp -dsimp[];refine cy_of _ (cr (h6) (by simp)) ?_;simp -dsimp[];refine cPx (h3) (by simp) ?_;simp -dsimp[]
  ·have h7:=jt d hs;rw[hb1,hb2]at h7;rw[hb]at h3;clear hs;simp only[aU,aI,aZ,aJ]at h1 h2 h3 h4 h5 h6 h7;refine sPx Tryz.func4 rfl rfl ?_;simp -dsimp[Tryz.f4,kQ,aU,aI,aZ,aJ];refine cPx (bi) (by simp) ?_;simp -dsimp[];refine cPx (h1) (by simp) ?_;simp -dsimp[aM,hno];refine cPx (h2) (by simp) ?_;simp -dsimp[];refine cPx (h4) (by simp) ?_;simp -dsimp[];refine .inr ⟨cj (by kernel_rfl),?_⟩;refine cy_of _ (cr (h5) (by simp)) ?_;simp -dsimp[];refine cy_of _ (cr (h6) (by simp)) ?_;simp -dsimp[];refine cPx (h3) (by simp) ?_;simp -dsimp[];refine cPx (h7) (by simp) ?_;simp -dsimp[]
 ·obtain⟨z,hzz⟩:∃z,z=ft c:=⟨_,rfl⟩;obtain⟨t,htt⟩:∃t,t=dv c:=⟨_,rfl⟩;rw[←hzz]at h2 hz;rw[←htt]at h2
  rcases hb with hb | ⟨hb,hs,hb1,hb2⟩
  ·rw[hb]at h3;simp only[aU,aI,aZ,aJ]at h1 h2 h3;refine sPx Tryz.func4 rfl rfl ?_;simp -dsimp[Tryz.f4,kQ,aU,aI,aZ,aJ];refine cPx (bi) (by simp) ?_;simp -dsimp[];refine cPx (h1) (by simp) ?_;simp -dsimp[aM,hno];refine cPx (h2) (by simp) ?_;simp -dsimp[hz];refine cPx (h3) (by simp) ?_;simp -dsimp[]
  ·have h7:=jt d hs;rw[hb1,hb2]at h7;rw[hb]at h3;clear hs;simp only[aU,aI,aZ,aJ]at h1 h2 h3 h7;refine sPx Tryz.func4 rfl rfl ?_;simp -dsimp[Tryz.f4,kQ,aU,aI,aZ,aJ];refine cPx (bi) (by simp) ?_;simp -dsimp[];refine cPx (h1) (by simp) ?_;simp -dsimp[aM,hno];refine cPx (h2) (by simp) ?_;simp -dsimp[hz];refine cPx (h3) (by simp) ?_;simp -dsimp[];refine cPx (h7) (by simp) ?_;simp -dsimp[]
end
end Go.Proofs.YtdhgchekdkjcpaaGreatDoor
