/- JG13: own texts of this seat, joined and shortened by pack4.py: NuA, NuB, Nu, C4c. -/
import Derived.Test.YtdhgchekdkjcpaaGreatDoorJG11
set_option linter.unusedVariables false
set_option linter.unusedSimpArgs false
set_option maxRecDepth 100000
set_option maxHeartbeats 64000000
open Bool renaming false_eq_true→ke
open List renaming replicate→kQ,getElem?_eq_getElem→kR,drop_zero→ky,drop_eq_getElem_cons→lH,drop_of_length_le→lf
namespace Go.Proofs.YtdhgchekdkjcpaaGreatDoor
section
open Go Go.AM Go.Lib
theorem num_A(l:List UInt8)(E:V)(hE:E=nuV (bQ l))(h0:¬l=[])(hpos:0<l.length)(h20:¬(20:Int)<(l.length:Int))(c0:UInt8)(hc0':l[0]=c0)(hhd:l.head?=some c0)(e45:c0=45)(h1:(1:Int)<(l.length:Int))(c1:UInt8)(hc1':l[1]=c1)(h48:¬(c1.toNat:Int)=48):ab Tryz.prog 49 [.str (bs l)] fun r=>r=E:=by
 have h45:(c0.toNat:Int)=45:=by rw[e45];rfl
 have hnr:=gi h0 h20
 have hof:ofN l=1:=by unfold ofN;rw[if_pos ⟨by omega,by rw[hhd,e45]⟩]
 have hd1:(l.drop 1).head?=some l[1]:=by rw[List.head?_drop,kR]
 rw[hof,hd1,hc1',hhd,e45,if_neg (fun h=>h48 (by have:=Option.some.inj h.1;rw[this];rfl))]at hnr;have hst:gI true (l.drop 1) 0=bQ l:=hnr.symm;refine sPx Tryz.func49 rfl rfl ?_;simp -dsimp[Tryz.f49,kQ,aM,bA,hc0',hc1',h45,h48,h20,h1,h0,hpos,(show 1<l.length by omega)];refine aS (W_loopM 86 0x3ffffffffffffc0000007c (by simp[mB]<;>rfl) (σ:=Nat×Int) (fun x=>x.1≤l.length∧inI x.2∧gI true (l.drop x.1) x.2=bQ l) (fun x=>l.length-x.1) (fun x=>[(4,.int .i64 x.1),(5,.int .i64 x.2)]) (fun _=>[]) (1,0) ⟨by simp only;omega,by unfold inI;simp,hst⟩ (by simp) rfl (by simp) ?_);rintro⟨i,n⟩ ⟨hi,hn,hg⟩ N Q hN hQ;simp only at hi hn hg ⊢;by_cases hb:i<l.length
 case neg =>
  rw[lf (by omega)]at hg
  have hz:E = .tup [.int .i64 n,.bool true]:=by rw[hE,←hg];rfl
  refine wx ?_;simp -dsimp[hb,aM];refine hQ _ _ _ ?_;simp -dsimp[];exact hz.symm
 have hdr:l.drop i=l[i]::l.drop (i+1):=lH hb;rw[hdr]at hg;obtain⟨c,hc⟩:∃c,c=l[i]:=⟨_,rfl⟩;have hc':=hc.symm;rw[hc']at hg;unfold gI at hg;by_cases hd:cE c
 case neg =>
  rw[if_neg hd]at hg
  have hz:E = .tup [.int .i64 0,.bool false]:=by rw[hE,←hg];rfl
  by_cases h1:(c.toNat:Int)<48
  ·refine wx ?_;simp -dsimp[hb,aM,bA,hc',hc0',hpos,h45,h1];refine hQ _ _ _ ?_;simp -dsimp[];exact hz.symm
  ·have h2:(57:Int)<(c.toNat:Int):=by unfold cE at hd;omega
   refine wx ?_;simp -dsimp[hb,aM,bA,hc',hc0',hpos,h45,h1,h2];refine hQ _ _ _ ?_;simp -dsimp[];exact hz.symm
 rw[if_pos hd]at hg;obtain⟨d1,d2⟩:=hd
 have n48:¬(c.toNat:Int)<48:=by omega
 have n57:¬(57:Int)<(c.toNat:Int):=by omega
 have w8:=wrap8d d1 d2
 have hdv:dgV c≤9:=by unfold dgV;omega
 have w64:IntKind.i64.wrap ((dgV c:Nat):Int)=((dgV c:Nat):Int):=aa (by omega) (by omega);have wn:IntKind.i64.wrap (-((dgV c:Nat):Int))= -((dgV c:Nat):Int):=aa (by omega) (by omega);obtain⟨hn1,hn2⟩:=hn;simp only[ke,if_false,if_true,eq_self]at hg;by_cases o1:922337203685477580<n
 ·rw[if_pos (.inl o1)]at hg
  have hz:E = .tup [.int .i64 0,.bool false]:=by rw[hE,←hg];rfl
  refine wx ?_;simp -dsimp[hb,aM,bA,hc',hc0',hpos,h45,n48,n57,w8,w64,wn,o1];refine hQ _ _ _ ?_;simp -dsimp[];exact hz.symm
 by_cases o2:n < -922337203685477580
 ·rw[if_pos (.inr (.inl o2))]at hg
  have hz:E = .tup [.int .i64 0,.bool false]:=by rw[hE,←hg];rfl
  refine wx ?_;simp -dsimp[hb,aM,bA,hc',hc0',hpos,h45,n48,n57,w8,w64,wn,o1,o2];refine hQ _ _ _ ?_;simp -dsimp[];exact hz.symm
 by_cases o3:n=922337203685477580
 ·by_cases o4:7<(-(dgV c:Int))
  ·rw[if_pos (.inr (.inr (.inl ⟨o3,o4⟩)))]at hg
   have hz:E = .tup [.int .i64 0,.bool false]:=by rw[hE,←hg];rfl
   refine wx ?_;simp -dsimp[hb,aM,bA,hc',hc0',hpos,h45,n48,n57,w8,w64,wn,o3,o4];refine hQ _ _ _ ?_;simp -dsimp[];exact hz.symm
  ·subst o3;rw[if_neg (by omega)]at hg;refine wx ?_;simp -dsimp[hb,aM,bA,hc',hc0',hpos,h45,n48,n57,w8,w64,wn,o4,aO i (by omega),aa (n:=9223372036854775800) (by omega) (by omega),aa (n:=9223372036854775800+(-(dgV c:Int))) (by omega) (by omega)];exact hN (i+1,10*922337203685477580+(-(dgV c:Int))) _ _ ⟨by simp only;omega,by unfold inI;simp only;omega,hg⟩ (by simp only;omega) (by simp) ⟨[],rfl⟩ (by simp) (by simp)
 by_cases o5:n = -922337203685477580
 ·by_cases o6:(-(dgV c:Int))< -8
  ·rw[if_pos (.inr (.inr (.inr ⟨o5,o6⟩)))]at hg
   have hz:E = .tup [.int .i64 0,.bool false]:=by rw[hE,←hg];rfl
   refine wx ?_;simp -dsimp[hb,aM,bA,hc',hc0',hpos,h45,n48,n57,w8,w64,wn,o5,o6];refine hQ _ _ _ ?_;simp -dsimp[];exact hz.symm
  ·subst o5;rw[if_neg (by omega)]at hg;refine wx ?_;simp -dsimp[hb,aM,bA,hc',hc0',hpos,h45,n48,n57,w8,w64,wn,o6,aO i (by omega),aa (n:=(-9223372036854775800)) (by omega) (by omega),aa (n:=(-9223372036854775800)+(-(dgV c:Int))) (by omega) (by omega)];exact hN (i+1,10*(-922337203685477580)+(-(dgV c:Int))) _ _ ⟨by simp only;omega,by unfold inI;simp only;omega,hg⟩ (by simp only;omega) (by simp) ⟨[],rfl⟩ (by simp) (by simp)
 rw[if_neg (by omega)]at hg;refine wx ?_;simp -dsimp[hb,aM,bA,hc',hc0',hpos,h45,n48,n57,w8,w64,wn,o1,o2,o3,o5,aO i (by omega),aa (n:=10*n) (by omega) (by omega),aa (n:=10*n+(-(dgV c:Int))) (by omega) (by omega)];exact hN (i+1,10*n+(-(dgV c:Int))) _ _ ⟨by simp only;omega,by unfold inI;simp only;omega,hg⟩ (by simp only;omega) (by simp) ⟨[],rfl⟩ (by simp) (by simp)
theorem num_B(l:List UInt8)(E:V)(hE:E=nuV (bQ l))(h0:¬l=[])(hpos:0<l.length)(h20:¬(20:Int)<(l.length:Int))(c0:UInt8)(hc0':l[0]=c0)(hhd:l.head?=some c0)(n45:¬c0=45)(h1:(1:Int)<(l.length:Int))(h48:¬(c0.toNat:Int)=48):ab Tryz.prog 49 [.str (bs l)] fun r=>r=E:=by
 have h45:¬(c0.toNat:Int)=45:=fun e=>n45 (u45 e)
 have hnr:=gi h0 h20
 have hof:ofN l=0:=by unfold ofN;rw[if_neg (fun h=>n45 (by rw[hhd]at h;exact Option.some.inj h.2))]
 have hbq:(l.head? == some 45)=false:=by rw[hhd];simpa using n45
 rw[hof,ky,hbq,if_neg (fun h=>h48 (by have:=h.1;rw[hhd]at this;have:=Option.some.inj this;rw[this];rfl))]at hnr
 have hst:gI false (l.drop 0) 0=bQ l:=by rw[ky];exact hnr.symm
 refine sPx Tryz.func49 rfl rfl ?_;simp -dsimp[Tryz.f49,kQ,aM,bA,hc0',h45,h48,h20,h1,h0,hpos];refine aS (W_loopM 86 0x3ffffffffffffc0000007c (by simp[mB]<;>rfl) (σ:=Nat×Int) (fun x=>x.1≤l.length∧inI x.2∧gI false (l.drop x.1) x.2=bQ l) (fun x=>l.length-x.1) (fun x=>[(4,.int .i64 x.1),(5,.int .i64 x.2)]) (fun _=>[]) (0,0) ⟨by simp only;omega,by unfold inI;simp,hst⟩ (by simp) rfl (by simp) ?_);rintro⟨i,n⟩ ⟨hi,hn,hg⟩ N Q hN hQ;simp only at hi hn hg ⊢;by_cases hb:i<l.length
 case neg =>
  rw[lf (by omega)]at hg
  have hz:E = .tup [.int .i64 n,.bool true]:=by rw[hE,←hg];rfl
  refine wx ?_;simp -dsimp[hb,aM];refine hQ _ _ _ ?_;simp -dsimp[];exact hz.symm
 have hdr:l.drop i=l[i]::l.drop (i+1):=lH hb;rw[hdr]at hg;obtain⟨c,hc⟩:∃c,c=l[i]:=⟨_,rfl⟩;have hc':=hc.symm;rw[hc']at hg;unfold gI at hg;by_cases hd:cE c
 case neg =>
  rw[if_neg hd]at hg
  have hz:E = .tup [.int .i64 0,.bool false]:=by rw[hE,←hg];rfl
  by_cases h1:(c.toNat:Int)<48
  ·refine wx ?_;simp -dsimp[hb,aM,bA,hc',hc0',hpos,h45,h1];refine hQ _ _ _ ?_;simp -dsimp[];exact hz.symm
  ·have h2:(57:Int)<(c.toNat:Int):=by unfold cE at hd;omega
   refine wx ?_;simp -dsimp[hb,aM,bA,hc',hc0',hpos,h45,h1,h2];refine hQ _ _ _ ?_;simp -dsimp[];exact hz.symm
 rw[if_pos hd]at hg;obtain⟨d1,d2⟩:=hd
 have n48:¬(c.toNat:Int)<48:=by omega
 have n57:¬(57:Int)<(c.toNat:Int):=by omega
 have w8:=wrap8d d1 d2
 have hdv:dgV c≤9:=by unfold dgV;omega
 have w64:IntKind.i64.wrap ((dgV c:Nat):Int)=((dgV c:Nat):Int):=aa (by omega) (by omega);have wn:IntKind.i64.wrap (-((dgV c:Nat):Int))= -((dgV c:Nat):Int):=aa (by omega) (by omega);obtain⟨hn1,hn2⟩:=hn;simp only[ke,if_false,if_true,eq_self]at hg;by_cases o1:922337203685477580<n
 ·rw[if_pos (.inl o1)]at hg
  have hz:E = .tup [.int .i64 0,.bool false]:=by rw[hE,←hg];rfl
  refine wx ?_;simp -dsimp[hb,aM,bA,hc',hc0',hpos,h45,n48,n57,w8,w64,o1];refine hQ _ _ _ ?_;simp -dsimp[];exact hz.symm
 by_cases o2:n < -922337203685477580
 ·rw[if_pos (.inr (.inl o2))]at hg
  have hz:E = .tup [.int .i64 0,.bool false]:=by rw[hE,←hg];rfl
  refine wx ?_;simp -dsimp[hb,aM,bA,hc',hc0',hpos,h45,n48,n57,w8,w64,o1,o2];refine hQ _ _ _ ?_;simp -dsimp[];exact hz.symm
 by_cases o3:n=922337203685477580
 ·by_cases o4:7<(dgV c:Int)
  ·rw[if_pos (.inr (.inr (.inl ⟨o3,o4⟩)))]at hg
   have hz:E = .tup [.int .i64 0,.bool false]:=by rw[hE,←hg];rfl
   refine wx ?_;simp -dsimp[hb,aM,bA,hc',hc0',hpos,h45,n48,n57,w8,w64,o3,o4];refine hQ _ _ _ ?_;simp -dsimp[];exact hz.symm
  ·subst o3;rw[if_neg (by omega)]at hg;refine wx ?_;simp -dsimp[hb,aM,bA,hc',hc0',hpos,h45,n48,n57,w8,w64,o4,aO i (by omega),aa (n:=9223372036854775800) (by omega) (by omega),aa (n:=9223372036854775800+(dgV c:Int)) (by omega) (by omega)];exact hN (i+1,10*922337203685477580+(dgV c:Int)) _ _ ⟨by simp only;omega,by unfold inI;simp only;omega,hg⟩ (by simp only;omega) (by simp) ⟨[],rfl⟩ (by simp) (by simp)
 by_cases o5:n = -922337203685477580
 ·by_cases o6:(dgV c:Int)< -8
  ·rw[if_pos (.inr (.inr (.inr ⟨o5,o6⟩)))]at hg
   have hz:E = .tup [.int .i64 0,.bool false]:=by rw[hE,←hg];rfl
   refine wx ?_;simp -dsimp[hb,aM,bA,hc',hc0',hpos,h45,n48,n57,w8,w64,o5,o6];refine hQ _ _ _ ?_;simp -dsimp[];exact hz.symm
  ·subst o5;rw[if_neg (by omega)]at hg;refine wx ?_;simp -dsimp[hb,aM,bA,hc',hc0',hpos,h45,n48,n57,w8,w64,o6,aO i (by omega),aa (n:=(-9223372036854775800)) (by omega) (by omega),aa (n:=(-9223372036854775800)+(dgV c:Int)) (by omega) (by omega)];exact hN (i+1,10*(-922337203685477580)+(dgV c:Int)) _ _ ⟨by simp only;omega,by unfold inI;simp only;omega,hg⟩ (by simp only;omega) (by simp) ⟨[],rfl⟩ (by simp) (by simp)
 rw[if_neg (by omega)]at hg;refine wx ?_;simp -dsimp[hb,aM,bA,hc',hc0',hpos,h45,n48,n57,w8,w64,o1,o2,o3,o5,aO i (by omega),aa (n:=10*n) (by omega) (by omega),aa (n:=10*n+(dgV c:Int)) (by omega) (by omega)];exact hN (i+1,10*n+(dgV c:Int)) _ _ ⟨by simp only;omega,by unfold inI;simp only;omega,hg⟩ (by simp only;omega) (by simp) ⟨[],rfl⟩ (by simp) (by simp)
theorem num_C(c0:UInt8)(hd:¬cE c0)(h45:¬(c0.toNat:Int)=45):ab Tryz.prog 49 [.str (bs [c0])] fun r=>r = .tup [.int .i64 0,.bool false]:=by
 have h48:¬(c0.toNat:Int)=48:=fun e=>hd (by unfold cE;omega)
 have hg0:∀h,([c0]:List UInt8)[0]'h=c0:=fun _=>rfl
 refine sPx Tryz.func49 rfl rfl ?_;simp -dsimp[Tryz.f49,kQ,aM,bA,h45,h48];refine aS (W_loopM 86 0x3ffffffffffffc0000007c (by simp[mB]<;>rfl) (σ:=Unit) (fun _=>True) (fun _=>0) (fun _=>[(4,.int .i64 0),(5,.int .i64 0)]) (fun _=>[]) () trivial (by simp) rfl (by simp) ?_);rintro _ _ N Q hN hQ;by_cases h1:(c0.toNat:Int)<48
 ·refine wx ?_;simp -dsimp[aM,bA,h1];refine hQ _ _ _ ?_;simp -dsimp[]
 ·have h2:(57:Int)<(c0.toNat:Int):=by unfold cE at hd;omega
  refine wx ?_;simp -dsimp[aM,bA,h1,h2];refine hQ _ _ _ ?_;simp -dsimp[]
theorem num_C45(c0:UInt8)(hd:¬cE c0)(h45:(c0.toNat:Int)=45):ab Tryz.prog 49 [.str (bs [c0])] fun r=>r = .tup [.int .i64 0,.bool false]:=by
 have h48:¬(c0.toNat:Int)=48:=fun e=>hd (by unfold cE;omega)
 have hg0:∀h,([c0]:List UInt8)[0]'h=c0:=fun _=>rfl
 refine sPx Tryz.func49 rfl rfl ?_;simp -dsimp[Tryz.f49,kQ,aM,bA,h45,h48];refine aS (W_loopM 86 0x3ffffffffffffc0000007c (by simp[mB]<;>rfl) (σ:=Unit) (fun _=>True) (fun _=>0) (fun _=>[(4,.int .i64 0),(5,.int .i64 0)]) (fun _=>[]) () trivial (by simp) rfl (by simp) ?_);rintro _ _ N Q hN hQ;by_cases h1:(c0.toNat:Int)<48
 ·refine wx ?_;simp -dsimp[aM,bA,h1];refine hQ _ _ _ ?_;simp -dsimp[]
 ·have h2:(57:Int)<(c0.toNat:Int):=by unfold cE at hd;omega
  refine wx ?_;simp -dsimp[aM,bA,h1,h2];refine hQ _ _ _ ?_;simp -dsimp[]
theorem dgt_0:ab Tryz.prog 49 [.str ⟨#[48]⟩] fun x=>x = .tup [.int .i64 0,.bool true]:=aR tok mixed bZ cX (fuel:=1000) (d:=40) (by kernel_rfl) (by simp)
theorem dgt_1:ab Tryz.prog 49 [.str ⟨#[49]⟩] fun x=>x = .tup [.int .i64 1,.bool true]:=aR tok mixed bZ cX (fuel:=1000) (d:=40) (by kernel_rfl) (by simp)
theorem dgt_2:ab Tryz.prog 49 [.str ⟨#[50]⟩] fun x=>x = .tup [.int .i64 2,.bool true]:=aR tok mixed bZ cX (fuel:=1000) (d:=40) (by kernel_rfl) (by simp)
theorem dgt_3:ab Tryz.prog 49 [.str ⟨#[51]⟩] fun x=>x = .tup [.int .i64 3,.bool true]:=aR tok mixed bZ cX (fuel:=1000) (d:=40) (by kernel_rfl) (by simp)
theorem dgt_4:ab Tryz.prog 49 [.str ⟨#[52]⟩] fun x=>x = .tup [.int .i64 4,.bool true]:=aR tok mixed bZ cX (fuel:=1000) (d:=40) (by kernel_rfl) (by simp)
theorem dgt_5:ab Tryz.prog 49 [.str ⟨#[53]⟩] fun x=>x = .tup [.int .i64 5,.bool true]:=aR tok mixed bZ cX (fuel:=1000) (d:=40) (by kernel_rfl) (by simp)
theorem dgt_6:ab Tryz.prog 49 [.str ⟨#[54]⟩] fun x=>x = .tup [.int .i64 6,.bool true]:=aR tok mixed bZ cX (fuel:=1000) (d:=40) (by kernel_rfl) (by simp)
theorem dgt_7:ab Tryz.prog 49 [.str ⟨#[55]⟩] fun x=>x = .tup [.int .i64 7,.bool true]:=aR tok mixed bZ cX (fuel:=1000) (d:=40) (by kernel_rfl) (by simp)
theorem dgt_8:ab Tryz.prog 49 [.str ⟨#[56]⟩] fun x=>x = .tup [.int .i64 8,.bool true]:=aR tok mixed bZ cX (fuel:=1000) (d:=40) (by kernel_rfl) (by simp)
theorem dgt_9:ab Tryz.prog 49 [.str ⟨#[57]⟩] fun x=>x = .tup [.int .i64 9,.bool true]:=aR tok mixed bZ cX (fuel:=1000) (d:=40) (by kernel_rfl) (by simp)
theorem number_r(l:List UInt8):ab Tryz.prog 49 [.str (bs l)] fun r=>r=nuV (bQ l):=by
 by_cases h0:l=[]
 ·subst h0;refine sPx Tryz.func49 rfl rfl ?_;simp -dsimp[Tryz.f49,kQ,aM];rfl
 have hpos:0<l.length:=List.length_pos_iff.2 h0
 have hhd:l.head?=some l[0]:=by cases l;exact absurd rfl h0;rfl
 obtain⟨c0,hc0⟩:∃c0,c0=l[0]:=⟨_,rfl⟩;have hc0':=hc0.symm;rw[hc0']at hhd;by_cases h20:(20:Int)<(l.length:Int)
 ·have hz:nuV (bQ l)= .tup [.int .i64 0,.bool false]:=by
   unfold bQ;rw[if_pos (.inr (by omega))];rfl
  rw[hz];by_cases h45:(c0.toNat:Int)=45
  ·refine sPx Tryz.func49 rfl rfl ?_;simp -dsimp[Tryz.f49,kQ,aM,bA,hc0',h45,h20,(show(1:Int)<(l.length:Int) by omega),h0,hpos]
  ·refine sPx Tryz.func49 rfl rfl ?_;simp -dsimp[Tryz.f49,kQ,aM,bA,hc0',h45,h20,(show(1:Int)<(l.length:Int) by omega),h0,hpos]
 by_cases h1:(1:Int)<(l.length:Int)
 ·by_cases e45:c0=45
  ·obtain⟨c1,hc1⟩:∃c1,c1=l[1]:=⟨_,rfl⟩;have hc1':=hc1.symm;by_cases h48:(c1.toNat:Int)=48
   ·have hnr:=gi h0 h20
    have hof:ofN l=1:=by unfold ofN;rw[if_pos ⟨by omega,by rw[hhd,e45]⟩]
    have hd1:(l.drop 1).head?=some l[1]:=by rw[List.head?_drop,kR]
    rw[hof,hd1,hc1',if_pos ⟨by rw[u48 h48],by omega⟩]at hnr;rw[hnr]
    have h45:(c0.toNat:Int)=45:=by rw[e45];rfl
    refine sPx Tryz.func49 rfl rfl ?_;simp -dsimp[Tryz.f49,kQ,aM,bA,hc0',hc1',h45,h48,h20,h1,h0,hpos,(show 1<l.length by omega)];rfl
   ·exact num_A l _ rfl h0 hpos h20 c0 hc0' hhd e45 h1 c1 hc1' h48
  ·by_cases h48:(c0.toNat:Int)=48
   ·have h45:¬(c0.toNat:Int)=45:=by omega
    have hnr:=gi h0 h20
    have hof:ofN l=0:=by unfold ofN;rw[if_neg (fun h=>e45 (by rw[hhd]at h;exact Option.some.inj h.2))]
    rw[hof,ky,if_pos ⟨by rw[hhd,u48 h48],by omega⟩]at hnr;rw[hnr];refine sPx Tryz.func49 rfl rfl ?_;simp -dsimp[Tryz.f49,kQ,aM,bA,hc0',h45,h48,h20,h1,h0,hpos];rfl
   ·exact num_B l _ rfl h0 hpos h20 c0 hc0' hhd e45 h1 h48
 ·have hl:l=[c0]:=by
   match l,hpos,h1,hc0' with
   | [x],_,_,h=>simpa using h
   | x::y::r,_,h,_=>exact absurd (by simp;omega) h
  subst hl;by_cases hd:cE c0
  ·obtain⟨d1,d2⟩:=hd
   have:c0.toNat=48∨c0.toNat=49∨c0.toNat=50∨c0.toNat=51∨c0.toNat=52∨c0.toNat=53∨c0.toNat=54∨c0.toNat=55∨c0.toNat=56∨c0.toNat=57:=by omega
   rcases this with h | h | h | h | h | h | h | h | h | h
   ·obtain rfl:c0=48:=UInt8.toNat_inj.1 h;exact dgt_0
   ·obtain rfl:c0=49:=UInt8.toNat_inj.1 h;exact dgt_1
   ·obtain rfl:c0=50:=UInt8.toNat_inj.1 h;exact dgt_2
   ·obtain rfl:c0=51:=UInt8.toNat_inj.1 h;exact dgt_3
   ·obtain rfl:c0=52:=UInt8.toNat_inj.1 h;exact dgt_4
   ·obtain rfl:c0=53:=UInt8.toNat_inj.1 h;exact dgt_5
   ·obtain rfl:c0=54:=UInt8.toNat_inj.1 h;exact dgt_6
   ·obtain rfl:c0=55:=UInt8.toNat_inj.1 h;exact dgt_7
   ·obtain rfl:c0=56:=UInt8.toNat_inj.1 h;exact dgt_8
   ·obtain rfl:c0=57:=UInt8.toNat_inj.1 h;exact dgt_9
  ·have hz:nuV (bQ [c0])= .tup [.int .i64 0,.bool false]:=by
    have hnr:=gi h0 h20
    have hof:ofN [c0]=0:=by unfold ofN;rw[if_neg (fun h=>by simp at h)]
    rw[hof,ky,if_neg (fun h=>by simp at h)]at hnr;rw[hnr];unfold gI;rw[if_neg hd];rfl
   rw[hz];by_cases h45:(c0.toNat:Int)=45
   ·exact num_C45 c0 hd h45
   ·exact num_C c0 hd h45
end
end Go.Proofs.YtdhgchekdkjcpaaGreatDoor
namespace Go.Proofs.YtdhgchekdkjcpaaGreatDoor
section
open Go Go.AM
def clA12:List V:=[.agg [.str ⟨#[114]⟩,.lst 1 false [.str ⟨#[97]⟩,.str ⟨#[98]⟩],.lst 2 false [.agg [.int .i64 1,.lst 3 false [.agg [.int .i64 1,.int .i64 1,.str ⟨#[]⟩],.agg [.int .i64 1,.int .i64 1,.str ⟨#[]⟩]]],.agg [.int .i64 2,.lst 3 false [.agg [.int .i64 1,.int .i64 1,.str ⟨#[]⟩],.agg [.int .i64 1,.int .i64 2,.str ⟨#[]⟩]]]]],.int .u32 2]
def clR12:V:=.tup [.lst 1 false [],.int .i64 0]
theorem clP12:AM.Pure clR12:=by simp[clR12]
theorem clQ12:∀a∈clA12,AM.Pure a:=by simp[clA12]
theorem cl12:ab Tryz.prog 146 clA12 fun x=>x=clR12:=aR tok mixed bZ dl (fuel:=1000) (d:=40) (by kernel_rfl) clP12
def clA11:List V:=[.str ⟨#[107,101,121,115,10,115,101,116,32,50,10,112,97,105,114,32,49,32,49,32,50,10,101,110,100,10]⟩]
def clR11:V:=.tup [.agg [.int .i64 3,.nilS,.int .i64 0,.nilS,.nilS,.str ⟨#[]⟩,.nilS,.nilS,.nilS,.nilS,.lst 1 false [.int .u32 2],.lst 3 false [.agg [.int .u32 1,.int .i64 1,.int .i64 2]],.nilS,.int .u32 0,.int .u32 0],.int .i64 0,.int .i64 0]
theorem clP11:AM.Pure clR11:=by simp[clR11]
theorem clQ11:∀a∈clA11,AM.Pure a:=by simp[clA11]
theorem cl11:ab Tryz.prog 7 clA11 fun x=>x=clR11:=aR tok mixed bZ dl (fuel:=1000) (d:=40) (by kernel_rfl) clP11
def clA4:List V:=[.agg [.lst 1 false [.int .i64 1,.int .i64 1],.lst 1 false [.lst 1 false [.int .i64 0,.int .i64 1]]]]
def clR4:V:=.int .i64 0
theorem clP4:AM.Pure clR4:=by simp[clR4]
theorem clQ4:∀a∈clA4,AM.Pure a:=by simp[clA4]
theorem cl4:ab Tryz.prog 134 clA4 fun x=>x=clR4:=aR tok mixed bZ dl (fuel:=1000) (d:=40) (by kernel_rfl) clP4
end
end Go.Proofs.YtdhgchekdkjcpaaGreatDoor
