/- JX30: own texts of this seat, joined and shortened by pack4.py: H10. -/
import Derived.Test.YtjogkbekekdkjaaGreatDoorJX29
set_option linter.unusedVariables false
set_option linter.unusedSimpArgs false
set_option maxRecDepth 100000
set_option maxHeartbeats 64000000
open Bool renaming and_eq_true→rX,false_and→rZ,true_and→re,not_eq_true'→sL,false_or→sf,and_false→sv,not_false→uP,true_or→uS,not_true→vL
open Int renaming toNat_natCast→sT
open List renaming replicate→rO,drop_eq_getElem_cons→rP,getElem_mem→rQ,drop_of_length_le→rR,range→rh,drop_zero→rk,all_cons→sZ,all_nil→uL,range_eq_range'→uq
open Nat renaming lt_or_ge→sy,sub_zero→uY
namespace Go.Proofs.YtjogkbekekdkjaaGreatDoor
section
open Go Go.AM
theorem okR_parts{es:List (List Nat)}{ch:List Nat}{x:Shr}(h:okR es ch x=true):∃j:Nat,x.e=j∧j<es.length∧1≤x.a∧x.a≤1000000000000∧dW (es.getD j []) ch=false:=by
 simp only[okR,rX,decide_eq_true_eq,sL]at h;obtain⟨⟨⟨⟨h1,h2⟩,h3⟩,h4⟩,h5⟩:=h;obtain⟨j,hj⟩:∃j:Nat,x.e=j:=⟨x.e.toNat,by omega⟩;rw[hj,sT]at h5;exact⟨j,hj,by omega,h3,h4,h5⟩
theorem right39(ws:List Int)(es:List (List Nat))(f g fc fx fl:Bool)(ch ex:List Nat)(b:Int)(l:List Shr)(hw:ws.length≤1000000)(hne:es.length≤1000000)(hl:∀e∈es,e.length≤1000000)(hc:ch.length≤1000000)(hx:ex.length≤1000000):
  aL Tryz.prog 154 [aR f g ws es,dQ fc fx ch ex b,LSh fl l] fun r=>r = .bool (ib ws es ch ex b l):=by
 obtain⟨E,hE⟩:∃E,E=ib ws es ch ex b l:=⟨_,rfl⟩;rw[←hE];unfold ib at hE;by_cases h0:10000<l.length
 ·rw[decide_eq_false (by omega),rZ]at hE;subst hE;refine sPx Tryz.func154 rfl rfl ?_;simp -dsimp[Tryz.f154,rO,aR,dQ,show(10000:Int)<l.length by omega,L1,LLn,Ln,LSh,aP]
 ·rw[decide_eq_true (by omega),re]at hE;obtain⟨B0,hB0⟩:∃B0,B0=((rh ws.length).all (fun v=>decide (ldR es v l≤ws.getD v 0)||ex.contains v)&&decide (b≤gf l)):=⟨_,rfl⟩;rw[←hB0]at hE;refine sPx Tryz.func154 rfl rfl ?_;simp -dsimp[Tryz.f154,rO,aR,dQ,show ¬(10000:Int)<l.length by omega,L1,LLn,Ln,LSh,aP];refine aG (W_loopM 75 0x7ffffffffffffff81c0 (by simp[mB]<;>rfl) (σ:=Nat×Int) (fun p=>p.1≤l.length∧(∀k (h:k<l.length),k<p.1→okR es ch l[k]=true)∧((l.drop p.1).all (okR es ch)&&B0)=E∧p.2+gf (l.drop p.1)=gf l∧0≤p.2∧p.2≤p.1*1000000000000) (fun p=>l.length-p.1) (fun p=>[(8,.int .i64 p.1),(7,.int .i64 p.2)]) (fun _=>[B.cells [.lst 1 f (ws.map aE),.lst 1 g (es.map (Ln false))],B.cells [.lst 1 fc (ch.map eN),.lst 1 fx (ex.map eN),.int .i64 b]]) (0,0) ⟨by simp,fun k h h2=>by simp at h2,by rw[rk];exact hE.symm,by simp,by simp,by simp⟩ (by simp) rfl (by simp) ?_);rintro⟨i,sm⟩ ⟨hi,hk,hy,hs,hs0,hs1⟩ N Q hN hQ;simp only at hi hk hy hs hs0 hs1 hN;by_cases hb:i<l.length
  ·rw[rP hb,sZ]at hy;rw[rP hb,gf]at hs;obtain⟨x,hxe⟩:∃x,x=l[i]:=⟨_,rfl⟩;rw[←hxe]at hy hs;have hxl:=hxe.symm;obtain⟨xe,xa⟩:=x;have hok:okR es ch ⟨xe,xa⟩=(decide (0≤xe)&&decide (xe<es.length)&&decide (1≤xa)&&decide (xa≤1000000000000)&&!dW (es.getD xe.toNat []) ch):=rfl;rw[hok]at hy;simp only at hs;by_cases c1:xe<0
   ·rw[decide_eq_false (by omega)]at hy;simp only[rZ]at hy;refine wx ?_;simp -dsimp[hb,hxl,c1,L1,LLn,Ln,LSh,aP];refine .inr ⟨aC (by kernel_rfl),?_⟩;refine hQ _ _ _ ?_;simp -dsimp[L1,LLn,Ln,LSh,aP];exact hy.symm
   by_cases c2:(es.length:Int)≤xe
   ·rw[decide_eq_false (show ¬xe<es.length by omega)]at hy;simp only[sv,rZ]at hy;refine wx ?_;simp -dsimp[hb,hxl,c1,c2,L1,LLn,Ln,LSh,aP];refine .inr ⟨aC (by kernel_rfl),?_⟩;refine hQ _ _ _ ?_;simp -dsimp[L1,LLn,Ln,LSh,aP];exact hy.symm
   by_cases c3:xa<1
   ·rw[decide_eq_false (show ¬1≤xa by omega)]at hy;simp only[sv,rZ]at hy;refine wx ?_;simp -dsimp[hb,hxl,c1,c2,c3,L1,LLn,Ln,LSh,aP];refine .inr ⟨aC (by kernel_rfl),?_⟩;refine hQ _ _ _ ?_;simp -dsimp[L1,LLn,Ln,LSh,aP];exact hy.symm
   by_cases c4:1000000000000<xa
   ·rw[decide_eq_false (show ¬xa≤1000000000000 by omega)]at hy;simp only[sv,rZ]at hy;refine wx ?_;simp -dsimp[hb,hxl,c1,c2,c3,c4,L1,LLn,Ln,LSh,aP];refine .inr ⟨aC (by kernel_rfl),?_⟩;refine hQ _ _ _ ?_;simp -dsimp[L1,LLn,Ln,LSh,aP];exact hy.symm
   obtain⟨j,rfl⟩:∃j:Nat,xe=j:=⟨xe.toNat,by omega⟩
   have hj:j<es.length:=by omega
   rw[decide_eq_true (show(0:Int)≤j by omega),decide_eq_true (show(j:Int)<es.length by omega),decide_eq_true (show 1≤xa by omega),decide_eq_true (show xa≤1000000000000 by omega),sT,eD hj]at hy hok;simp only[re]at hy hok;have hle:=hl es[j] (rQ hj);obtain⟨e,he⟩:∃e,e=es[j]:=⟨_,rfl⟩;rw[←he]at hy hle hok;have hej:=he.symm;have cm:=meets39 e ch false fc hle hc;simp only[Ln]at cm
   cases hm:dW e ch with
   | true =>
    rw[hm]at cm hy;simp only[vL,rZ]at hy;refine wx ?_;simp -dsimp[hb,hxl,c1,hj,hej,c3,c4,show ¬(es.length:Int)≤j by omega,L1,LLn,Ln,LSh,aP];refine .inr ⟨aC (by kernel_rfl),?_⟩;refine aN _ (aK (cm) (by simp)) ?_;simp -dsimp[L1,LLn,Ln,LSh,aP];refine hQ _ _ _ ?_;simp -dsimp[L1,LLn,Ln,LSh,aP];exact hy.symm
   | false =>
    rw[hm]at cm hy hok;simp only[uP,re]at hy hok;have hw1:IntKind.i64.wrap (sm+xa)=sm+xa:=wrap64 (by omega) (by omega);refine wx ?_;simp -dsimp[hb,hxl,c1,hj,hej,c3,c4,show ¬(es.length:Int)≤j by omega,L1,LLn,Ln,LSh,aP];refine .inr ⟨aC (by kernel_rfl),?_⟩;refine aN _ (aK (cm) (by simp)) ?_;simp -dsimp[hb,hxl,hw1,aH i (by omega),L1,LLn,Ln,LSh,aP];refine hN (i+1,sm+xa) _ _ ⟨by simp only;omega,fun k h h2=>?_,hy,by simp only;omega,by simp only;omega,by simp only;omega⟩ (by simp only;omega) (by simp) ⟨[],rfl⟩ (by simp) (by simp)
    rcases sy k i with h3 | h3
    ·exact hk k h h3
    ·have:k=i:=by simp only at h2;omega
     subst this;rw[hxl];exact hok
  ·rw[rR (by omega),uL,re]at hy;rw[rR (by omega),gf]at hs
   have hk2:∀k (h:k<l.length),okR es ch l[k]=true:=fun k h=>hk k h (by omega)
   have hsm:sm=gf l:=by omega
   refine wx ?_;simp -dsimp[hb,L1,LLn,Ln,LSh,aP];refine hQ _ _ _ ?_;simp -dsimp[L1,LLn,Ln,LSh,aP];rw[hB0,uq]at hy;refine aG (W_loopM 120 0xfffffffffff8000000000000000e40 (by simp[mB]<;>rfl) (σ:=Nat) (fun v=>v≤ws.length∧((List.range' v (ws.length-v)).all (fun v=>decide (ldR es v l≤ws.getD v 0)||ex.contains v)&&decide (b≤gf l))=E) (fun v=>ws.length-v) (fun v=>[(9,.int .i64 v)]) (fun _=>[B.cells [.lst 1 f (ws.map aE),.lst 1 g (es.map (Ln false))],B.cells [.lst 1 fc (ch.map eN),.lst 1 fx (ex.map eN),.int .i64 b]]) 0 ⟨by omega,by rw[uY];exact hy⟩ (by simp) rfl (by simp) ?_);rintro v ⟨hv,hz⟩ N2 Q2 hN2 hQ2;by_cases hvb:v<ws.length
   ·rw[show ws.length-v=(ws.length-(v+1))+1 by omega,List.range'_succ,sZ]at hz;refine wx ?_;simp -dsimp[hvb,L1,LLn,Ln,LSh,aP];refine aG (W_loopM 106 0x3fffffc00000000000000000c00 (by simp[mB]<;>rfl) (σ:=Nat×Int) (fun p=>p.1≤l.length∧p.2+ldR es v (l.drop p.1)=ldR es v l∧0≤p.2∧p.2≤p.1*1000000000000) (fun p=>l.length-p.1) (fun p=>[(11,.int .i64 p.1),(10,.int .i64 p.2)]) (fun _=>[B.cells [.lst 1 f (ws.map aE),.lst 1 g (es.map (Ln false))],B.cells [.lst 1 fc (ch.map eN),.lst 1 fx (ex.map eN),.int .i64 b]]) (0,0) ⟨by simp,by simp,by simp,by simp⟩ (by simp) rfl (by simp) ?_);rintro⟨i2,ld⟩ ⟨hi2,hd,hd0,hd1⟩ N3 Q3 hN3 hQ3;simp only at hi2 hd hd0 hd1 hN3;by_cases hb2:i2<l.length
    ·rw[rP hb2,ldR]at hd;have hok:=hk2 i2 hb2;obtain⟨x,hxe⟩:∃x,x=l[i2]:=⟨_,rfl⟩;rw[←hxe]at hd hok;have hxl:=hxe.symm;obtain⟨j,hj1,hj,ha1,ha2,_⟩:=okR_parts hok;obtain⟨xe,xa⟩:=x;simp only at hj1 ha1 ha2 hd;subst hj1;rw[sT,eD hj]at hd;have hle:=hl es[j] (rQ hj);obtain⟨e,he⟩:∃e,e=es[j]:=⟨_,rfl⟩;rw[←he]at hd hle;have hej:=he.symm;have cm:=qE e v false hle;simp only[Ln]at cm;by_cases hm:v∈e
     ·rw[List.contains_iff_mem.2 hm]at cm;rw[if_pos hm]at hd;have hw1:IntKind.i64.wrap (ld+xa)=ld+xa:=wrap64 (by omega) (by omega);refine wx ?_;simp -dsimp[hb2,hxl,hj,hej,L1,LLn,Ln,LSh,aP];refine .inr ⟨aC (by kernel_rfl),?_⟩;refine aN _ (aK (cm) (by simp)) ?_;simp -dsimp[hb2,hxl,hw1,aH i2 (by omega),L1,LLn,Ln,LSh,aP];refine hN3 (i2+1,ld+xa) _ _ ⟨by simp only;omega,by simp only;omega,by simp only;omega,by simp only;omega⟩ (by simp only;omega) (by simp) ⟨[],rfl⟩ (by simp) (by simp)
     ·rw[show e.contains v=false by simpa using hm]at cm;rw[if_neg hm]at hd;refine wx ?_;simp -dsimp[hb2,hxl,hj,hej,L1,LLn,Ln,LSh,aP];refine .inr ⟨aC (by kernel_rfl),?_⟩;refine aN _ (aK (cm) (by simp)) ?_;simp -dsimp[aH i2 (by omega),L1,LLn,Ln,LSh,aP];refine hN3 (i2+1,ld) _ _ ⟨by simp only;omega,by simp only;omega,by simp only;omega,by simp only;omega⟩ (by simp only;omega) (by simp) ⟨[],rfl⟩ (by simp) (by simp)
    ·rw[rR (by omega),ldR]at hd
     have hld:ldR es v l=ld:=by omega
     rw[hld,am _ _ hvb]at hz;obtain⟨w,hww⟩:∃w,w=ws[v]:=⟨_,rfl⟩;rw[←hww]at hz;have hwl:=hww.symm;have cm:=qE ex v fx hx;simp only[Ln]at cm;by_cases hlt:w<ld
     ·rw[decide_eq_false (by omega),sf]at hz
      cases hm:ex.contains v with
      | true =>
       rw[hm]at cm hz;refine wx ?_;simp -dsimp[hb2,L1,LLn,Ln,LSh,aP];refine hQ3 _ _ _ ?_;simp -dsimp[hvb,hwl,hlt,aE,L1,LLn,Ln,LSh,aP];refine cPx (cm) (by simp) ?_;simp -dsimp[aH v (by omega),L1,LLn,Ln,LSh,aP];refine hN2 (v+1) _ _ ⟨by omega,by simpa using hz⟩ (by omega) (by simp) ⟨[],rfl⟩ (by simp) (by simp)
      | false =>
       rw[hm]at cm hz;refine wx ?_;simp -dsimp[hb2,L1,LLn,Ln,LSh,aP];refine hQ3 _ _ _ ?_;simp -dsimp[hvb,hwl,hlt,aE,L1,LLn,Ln,LSh,aP];refine cPx (cm) (by simp) ?_;simp -dsimp[L1,LLn,Ln,LSh,aP];refine hQ2 _ _ _ ?_;simp -dsimp[L1,LLn,Ln,LSh,aP];simpa using hz.symm
     ·rw[decide_eq_true (by omega),uS]at hz;refine wx ?_;simp -dsimp[hb2,L1,LLn,Ln,LSh,aP];refine hQ3 _ _ _ ?_;simp -dsimp[hvb,hwl,hlt,aE,aH v (by omega),L1,LLn,Ln,LSh,aP];refine hN2 (v+1) _ _ ⟨by omega,by simpa using hz⟩ (by omega) (by simp) ⟨[],rfl⟩ (by simp) (by simp)
   ·rw[show ws.length-v=0 by omega,List.range'_zero,uL,re,←hsm]at hz;by_cases hq:b≤sm
    ·rw[decide_eq_true hq]at hz;refine wx ?_;simp -dsimp[hvb,L1,LLn,Ln,LSh,aP];refine hQ2 _ _ _ ?_;simp -dsimp[hq,L1,LLn,Ln,LSh,aP];exact hz.symm
    ·rw[decide_eq_false hq]at hz;refine wx ?_;simp -dsimp[hvb,L1,LLn,Ln,LSh,aP];refine hQ2 _ _ _ ?_;simp -dsimp[hq,L1,LLn,Ln,LSh,aP];exact hz.symm
end
end Go.Proofs.YtjogkbekekdkjaaGreatDoor
