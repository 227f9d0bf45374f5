/- JQ6: own texts of this seat, joined and shortened by pack.py: H4, H6, H7, Cl64, H13, H14, H15, H16, H17, C3, H18, H19, OwB, H20, H22, H23, H21, H24, Q6, V12, U7, Mp, T12. -/
import Derived.Test.YteijbpppalhihaaGreatJQ5
import Derived.WalkSpells
import Derived.WalkLawsBesides
import Derived.Lib.Hide
import Derived.Maps.AppendAt
set_option linter.unusedVariables false
set_option linter.unusedSimpArgs false
set_option maxRecDepth 100000
set_option maxHeartbeats 64000000
namespace Go.Proofs.YteijbpppalhihaaGreat
section
open Go Go.AM
section
section
variable {H:List B} {k0 km:Nat} {f g:Bool} {ws:List Int} {es:List (List Nat)} {n:Nat} {m:List Nat} {lf:Int}
theorem eD{es:List (List Nat)}{i:Nat}(h:i<es.length):es.getD i []=es[i]:=ah _ _ h
theorem shares_h(s:SAt H k0 km f g ws es n m lf)(hb:HsB ws es)(l:List Shr)(fl:Bool)(b:Int):
  bA Tryz.prog 171 [.ptr k0 0,LSh fl l,.int .i64 b] H fun r H'=>r = .bool (shE ws es m l b)∧H'=H:=by
 refine fo ?_ (by simp[rb,rb1]) s.rb;have h0:=s.h0;have hlm:=s.lm;have hlw:=s.lw;have hk0:k0<H.length:=aE s.h0;have hkm:km<H.length:=aE s.hm
 have hn2:n≤200:=by have:=hb.n;omega
 have he2:=hb.ne;by_cases hll:l.length≤10000
 ·obtain⟨E,hE⟩:∃E,E=shE ws es m l b:=⟨_,rfl⟩;have hE2:=hE;unfold shE at hE2;rw[decide_eq_true hll,Bool.true_and,hlm]at hE2;rw[←hE];have hm:=s.hm;have hnl:=aw m;refine aD tok Tryz.func171 rfl rfl ?_;refine wx ?_;simp -implicitDefEqProofs -dsimp[Tryz.f171,List.replicate,h0,hm,hnl,hlm,show ¬(10000:Int)<l.length by omega,show(8:Int)*n≤281474976710656 by omega,show(n:Int)≤9223372036854775807 by omega,aQ,LSh,LLn,Ln];refine aK (W_loopM 116 [6,8,10,12,24,25,26,27,28,29,30,31,32,33,34,35,36,37,38,39,40,41,42,43,44,45,46,47,48,49,50,51,52,53,54,55,56,57,58,59,60,61,62,63,64,65,66,67,68,69,70,71,72,73,74,75,76,77,78,79,80,81,82,83,84,85,86,87,88,89,90,91,92,93,94,95,96,97,98,99,100,101,102,103,104,105,106,107,108,109,110,111,112,113,114,115] (by simp[mB]<;>rfl) (σ:=Nat×Int×List Int) (fun p=>p.1≤l.length∧fN ws es m b (l.drop p.1) p.2.2 p.2.1=E∧ldOk n (p.1*200000000000000) p.2.2∧0≤p.2.1∧p.2.1≤p.1*1000000000000) (fun p=>l.length-p.1) (fun p=>[(24,.int .i64 p.1),(8,.int .i64 p.2.1)]) (fun p=>H++[.buf 2 1 (inL p.2.2) false]) (0,0,List.replicate n 0) ⟨by simp,by rw[List.drop_zero];exact hE2.symm,⟨by simp,fun v _=>by rw[fk];simp⟩,by simp,by simp⟩ (by simp) (by simp[inL,aW]) (by simp) ?_);rintro⟨i,sm,ld⟩ ⟨hi,hx,hld,hs0,hs1⟩ N Q hN hQ;simp only at hi hx hld hs0 hs1 hN;by_cases hbi:i<l.length
  ·rw[List.drop_eq_getElem_cons hbi,fN]at hx;obtain⟨x,hxe⟩:∃x,x=l[i]:=⟨_,rfl⟩;rw[←hxe]at hx;have hxl:=hxe.symm;obtain⟨xe,xa⟩:=x;have hok:okS es m ⟨xe,xa⟩=(decide (0≤xe)&&decide (xe<es.length)&&decide (1≤xa)&&decide (xa≤1000000000000)&&!gE m 1 (es.getD xe.toNat [])):=rfl;rw[hok]at hx;clear hok;simp only at hx;have s2:=s.app [B.buf 2 1 (inL ld) false,B.cells [.int .i64 xe,.int .i64 xa]] (by intro bl h;rcases List.mem_cons.1 h with rfl | h;exact(rbB_buf1 (iO _)).2 trivial;rcases List.mem_cons.1 h with rfl | h;simp[rbB,rb,rb1];cases h);have g0:=s2.h0;have gm:=s2.hm
   have gx:(H++[B.buf 2 1 (inL ld) false,B.cells [.int .i64 xe,.int .i64 xa]])[H.length+1]?=some (B.cells [.int .i64 xe,.int .i64 xa]):=by simp
   by_cases c1:xe<0
   ·skip
    rw[decide_eq_false (by omega)]at hx;simp only[Bool.false_and,Bool.false_eq_true,if_false]at hx;refine wx ?_;simp -implicitDefEqProofs -dsimp[hbi,hxl,gx,c1,aQ,LSh,LLn,Ln];refine .inr ⟨aI (by kernel_rfl),?_⟩;refine hQ _ _ _ ?_;simp -implicitDefEqProofs -dsimp[aQ,LSh,LLn,Ln];exact hx.symm
   by_cases c2:(es.length:Int)≤xe
   ·skip
    rw[decide_eq_false (show ¬xe<es.length by omega)]at hx;simp only[Bool.and_false,Bool.false_and,Bool.false_eq_true,if_false]at hx;refine wx ?_;simp -implicitDefEqProofs -dsimp[hbi,hxl,gx,g0,c1,c2,aQ,LSh,LLn,Ln];refine .inr ⟨aI (by kernel_rfl),?_⟩;refine hQ _ _ _ ?_;simp -implicitDefEqProofs -dsimp[aQ,LSh,LLn,Ln];exact hx.symm
   by_cases c3:xa<1
   ·skip
    rw[decide_eq_false (show ¬1≤xa by omega)]at hx;simp only[Bool.and_false,Bool.false_and,Bool.false_eq_true,if_false]at hx;refine wx ?_;simp -implicitDefEqProofs -dsimp[hbi,hxl,gx,g0,c1,c2,c3,aQ,LSh,LLn,Ln];refine .inr ⟨aI (by kernel_rfl),?_⟩;refine hQ _ _ _ ?_;simp -implicitDefEqProofs -dsimp[aQ,LSh,LLn,Ln];exact hx.symm
   by_cases c4:1000000000000<xa
   ·skip
    rw[decide_eq_false (show ¬xa≤1000000000000 by omega)]at hx;simp only[Bool.and_false,Bool.false_and,Bool.false_eq_true,if_false]at hx;refine wx ?_;simp -implicitDefEqProofs -dsimp[hbi,hxl,gx,g0,c1,c2,c3,c4,aQ,LSh,LLn,Ln];refine .inr ⟨aI (by kernel_rfl),?_⟩;refine hQ _ _ _ ?_;simp -implicitDefEqProofs -dsimp[aQ,LSh,LLn,Ln];exact hx.symm
   obtain⟨j,rfl⟩:∃j:Nat,xe=j:=⟨xe.toNat,by omega⟩
   have hj:j<es.length:=by omega
   rw[decide_eq_true (show(0:Int)≤j by omega),decide_eq_true (show(j:Int)<es.length by omega),decide_eq_true (show 1≤xa by omega),decide_eq_true (show xa≤1000000000000 by omega),Int.toNat_natCast,eD hj]at hx;simp only[Bool.true_and]at hx;obtain⟨e1,e2,e3⟩:=hb.ed es[j] (List.getElem_mem hj);have e4:=hb.ed.len es[j] (List.getElem_mem hj);obtain⟨e,he⟩:∃e,e=es[j]:=⟨_,rfl⟩;rw[←he]at hx e1 e2 e3 e4;have hej:=he.symm;have ch:=has_h s2 e false 1 (by omega) (fun v hv=>by have:=e3 v hv;omega);simp only[Ln]at ch
   cases hh:gE m 1 e with
   | true =>
    rw[hh]at hx ch;simp only[Bool.not_true,Bool.false_eq_true,if_false]at hx;refine wx ?_;simp -implicitDefEqProofs -dsimp[hbi,hxl,gx,g0,c1,hj,hej,c3,c4,show ¬(es.length:Int)≤j by omega,aQ,LSh,LLn,Ln];refine .inr ⟨aI (by kernel_rfl),?_⟩;refine ae _ (bK ch fun _ _ h=>h) ?_;simp -implicitDefEqProofs -dsimp[aQ,LSh,LLn,Ln];refine hQ _ _ _ ?_;simp -implicitDefEqProofs -dsimp[aQ,LSh,LLn,Ln];exact hx.symm
   | false =>
    rw[hh]at hx ch;simp only[Bool.not_false,if_true]at hx;have hw1:IntKind.i64.wrap (sm+xa)=sm+xa:=wrap64 (by omega) (by omega);refine wx ?_;simp -implicitDefEqProofs -dsimp[hbi,hxl,gx,g0,c1,hj,hej,c3,c4,show ¬(es.length:Int)≤j by omega,aQ,LSh,LLn,Ln];refine .inr ⟨aI (by kernel_rfl),?_⟩;refine ae _ (bK ch fun _ _ h=>h) ?_;simp -implicitDefEqProofs -dsimp[hw1,gx,g0,hj,hej,aQ,LSh,LLn,Ln];refine .inr ⟨aI (by kernel_rfl),?_⟩
    have hE0:0≤(i:Int)*200000000000000:=by omega
    refine aK (W_loopM 115 [6,12,79,80,81,82,83,84,85,86,87,88,89,90,91,92,93,94,95,96,97,98,99,100,101,102,103,104,105,106,107,108,109,110,111,112,113,114] (by simp[mB]<;>rfl) (σ:=Nat×List Int) (fun q=>q.1≤e.length∧(match nj m ws xa (e.drop q.1) q.2 with | none=>false | some ld'=>fN ws es m b (l.drop (i+1)) ld' (sm+xa))=E∧ldOk n (i*200000000000000+q.1*1000000000000) q.2) (fun q=>e.length-q.1) (fun q=>[(79,.int .i64 q.1)]) (fun q=>H++[.buf 2 1 (inL q.2) false,.cells [.int .i64 j,.int .i64 xa]]) (0,ld) ⟨by simp,by rw[List.drop_zero];exact hx,by simpa using hld⟩ (by simp) (by simp) (by simp) ?_);rintro⟨k,ld2⟩ ⟨hk,hy,hl2⟩ N2 Q2 hN2 hQ2;simp only at hk hy hl2 hN2
    have g9:(H++[B.buf 2 1 (inL ld2) false,B.cells [.int .i64 j,.int .i64 xa]])[H.length]?=some (B.buf 2 1 (inL ld2) false):=by simp
    have gx2:(H++[B.buf 2 1 (inL ld2) false,B.cells [.int .i64 j,.int .i64 xa]])[H.length+1]?=some (B.cells [.int .i64 j,.int .i64 xa]):=by simp
    by_cases hbk:k<e.length
    ·rw[List.drop_eq_getElem_cons hbk,nj]at hy;have hvn:=e3 e[k] (List.getElem_mem hbk);obtain⟨v,hv⟩:∃v,v=e[k]:=⟨_,rfl⟩;rw[←hv]at hy hvn;have hev:=hv.symm;obtain⟨z1,z2⟩:=hl2.2 v (by omega);have hset:=hl2.set (A':=(i:Int)*200000000000000+((k+1:Nat):Int)*1000000000000) (by omega) (v:=v) (a:=xa) (by omega) (by omega) (by omega)
     have hgl:=fun h=>ev (m:=ld2) (x:=v) h
     have hll2:=eu ld2;have hl21:=hl2.1;have hst:=ll ld2 v (ld2.getD v 0+xa);obtain⟨z,hz⟩:∃z,z=ld2.getD v 0:=⟨_,rfl⟩;rw[←hz]at hgl hy hset hst z1 z2;have hw2:IntKind.i64.wrap (z+xa)=z+xa:=wrap64 (by omega) (by omega)
     have hvn2:v<n:=by omega
     have hs9:(H++[B.buf 2 1 (inL ld2) false,B.cells [.int .i64 j,.int .i64 xa]]).set H.length (B.buf 2 1 (inL (ld2.set v (z+xa))) false)=H++[B.buf 2 1 (inL (ld2.set v (z+xa))) false,B.cells [.int .i64 j,.int .i64 xa]]:=by simp[List.set_append_right]
     refine wx ?_;simp -implicitDefEqProofs -dsimp[hbk,hev,eN,aQ,LSh,LLn,Ln];obtain⟨HH,hHH⟩:∃HH,HH=H++[B.buf 2 1 (inL ld2) false,B.cells [.int .i64 j,.int .i64 xa]]:=⟨_,rfl⟩;rw[←hHH]at g9 gx2 hs9 ⊢;refine aK (am tok mixed [8] [] [] (by kernel_rfl) fun C K hC hK=>?_);simp -implicitDefEqProofs [g9,gx2,hgl,hll2,hl21,hvn2,hw2,hst,hs9,aQ,LSh,LLn,Ln];refine hK _ _ ?_;have s4:=s.app [B.buf 2 1 (inL (ld2.set v (z+xa))) false,B.cells [.int .i64 j,.int .i64 xa]] (by intro bl h;rcases List.mem_cons.1 h with rfl | h;exact(rbB_buf1 (iO _)).2 trivial;rcases List.mem_cons.1 h with rfl | h;simp[rbB,rb,rb1];cases h);have q0:=s4.h0;have qm:=s4.hm
     have q9:(H++[B.buf 2 1 (inL (ld2.set v (z+xa))) false,B.cells [.int .i64 j,.int .i64 xa]])[H.length]?=some (B.buf 2 1 (inL (ld2.set v (z+xa))) false):=by simp
     have hgl4:=fun h=>ev (m:=ld2.set v (z+xa)) (x:=v) h
     have hll4:=eu (ld2.set v (z+xa));have hl41:=hset.1;rw[ac _ (by omega)]at hgl4
     have hat:=fun h=>bQ (m:=m) (x:=v) h
     have hvw:v<ws.length:=by omega
     have hwl:=(ah ws 0 hvw).symm;obtain⟨w,hw⟩:∃w,w=ws.getD v 0:=⟨_,rfl⟩;obtain⟨c,hc⟩:∃c,c=m.getD v 0:=⟨_,rfl⟩;rw[←hc]at hat hy;rw[←hw]at hwl hy;by_cases hc0:c=0
     ·subst hc0;by_cases hlt:w<z+xa
      ·rw[if_pos ⟨rfl,hlt⟩]at hy;simp only at hy;simp -implicitDefEqProofs -dsimp[q0,qm,q9,hgl4,hll4,hl41,hat,hnl,hlm,hvn2,hvw,hwl,hlt,aW,L1,aQ,LSh,LLn,Ln];refine .inr ⟨aI (by kernel_rfl),?_⟩;refine hQ2 _ _ _ ?_;simp -implicitDefEqProofs -dsimp[aQ,LSh,LLn,Ln];refine hQ _ _ _ ?_;simp -implicitDefEqProofs -dsimp[aQ,LSh,LLn,Ln];exact hy.symm
      ·rw[if_neg (fun h=>hlt h.2)]at hy;simp -implicitDefEqProofs -dsimp[q0,qm,q9,hgl4,hll4,hl41,hat,hnl,hlm,hvn2,hvw,hwl,hlt,aW,L1,aQ,LSh,LLn,Ln];refine .inr ⟨aI (by kernel_rfl),?_⟩;simp -implicitDefEqProofs -dsimp[aJ k (by omega),aQ,LSh,LLn,Ln];refine hN2 (k+1,ld2.set v (z+xa)) _ _ ⟨by simp only;omega,hy,hset⟩ (by simp only;omega) (by simp) ⟨[],by simp⟩ (by simp;omega) s4.rb
     ·rw[if_neg (fun h=>hc0 h.1)]at hy;simp -implicitDefEqProofs -dsimp[q0,qm,q9,hgl4,hll4,hl41,hat,hnl,hlm,hvn2,hc0,show ¬((c:Int)=0) by omega,aQ,LSh,LLn,Ln];refine .inr ⟨aI (by kernel_rfl),?_⟩;simp -implicitDefEqProofs -dsimp[aJ k (by omega),aQ,LSh,LLn,Ln];refine hN2 (k+1,ld2.set v (z+xa)) _ _ ⟨by simp only;omega,hy,hset⟩ (by simp only;omega) (by simp) ⟨[],by simp⟩ (by simp;omega) s4.rb
    ·have s3:=s.app [B.buf 2 1 (inL ld2) false] (by intro bl h;rcases List.mem_cons.1 h with rfl | h;exact(rbB_buf1 (iO _)).2 trivial;cases h);rw[List.drop_of_length_le (by omega),nj]at hy;simp only at hy;refine wx ?_;simp -implicitDefEqProofs -dsimp[hbk,aQ,LSh,LLn,Ln];refine hQ2 _ _ _ ?_;simp -implicitDefEqProofs -dsimp[aJ i (by omega),aQ,LSh,LLn,Ln];refine hN (i+1,sm+xa,ld2) _ _ ⟨by simp only;omega,hy,⟨hl2.1,fun v hv=>?_⟩,by simp only;omega,by simp only;omega⟩ (by simp only;omega) (by simp) ⟨[B.cells [.int .i64 j,.int .i64 xa]],by simp⟩ (by simp;omega) s3.rb;have:=hl2.2 v hv;simp only;omega
  ·rw[List.drop_of_length_le (by omega),fN]at hx;by_cases hq:b≤sm
   ·rw[decide_eq_true hq]at hx;refine wx ?_;simp -implicitDefEqProofs -dsimp[hbi,aQ,LSh,LLn,Ln];refine hQ _ _ _ ?_;simp -implicitDefEqProofs -dsimp[hq,aQ,LSh,LLn,Ln];exact hx.symm
   ·rw[decide_eq_false hq]at hx;refine wx ?_;simp -implicitDefEqProofs -dsimp[hbi,aQ,LSh,LLn,Ln];refine hQ _ _ _ ?_;simp -implicitDefEqProofs -dsimp[hq,aQ,LSh,LLn,Ln];exact hx.symm
 ·rw[show shE ws es m l b=false by unfold shE;rw[decide_eq_false hll,Bool.false_and]];refine aD tok Tryz.func171 rfl rfl ?_;refine wx ?_;simp -implicitDefEqProofs -dsimp[Tryz.f171,List.replicate,LSh,show(10000:Int)<l.length by omega]
end
end
def encR(fl:Bool):Option (List Nde)→V
 | none=>.nilS
 | some l=>LNd fl l
@[simp] theorem encR_pure (fl:Bool) (o:Option (List Nde)):AM.Pure (encR fl o):=by cases o<;>simp[encR]
@[simp] theorem encR_oneV (fl:Bool) (o:Option (List Nde)):dm (encR fl o)=true:=by cases o<;>rfl
theorem encR_rb(n:Nat)(fl:Bool)(o:Option (List Nde)):rb1 n (encR fl o):=pR (encR_pure fl o) (by cases o<;>rfl)
theorem chk_nil(ws:List Int)(es:List (List Nat))(k:Nat)(m:List Nat)(b:Int):dZ ws es k m [] b=(none,false):=by cases k<;>rfl
theorem og(ws:List Int)(es:List (List Nat)):∀(k:Nat) (m:List Nat) (l:List Nde) (b:Int) (r:List Nde),(dZ ws es k m l b).1=some r→r.length≤l.length
 | 0,m,l,b,r,h=>by simp[dZ]at h
 | k+1,m,[],b,r,h=>by simp[dZ]at h
 | k+1,m,x::l,b,r,h=>by
  rw[dZ]at h;split at h
  ·simp only[Option.some.injEq]at h;subst h;simp
  ·split at h
   ·cases h
   ·split at h
    ·rename_i r' hr;have h1:=og ws es k _ _ _ _ (congrArg Prod.fst hr);have h2:=og ws es k _ _ _ _ h;simp;omega
    ·have:=og ws es k _ _ _ _ h;simp;omega
theorem ma(ws:List Int)(es:List (List Nat)):∀(k:Nat) (m:List Nat) (l:List Nde) (b:Int),(dZ ws es k m l b).2=true→∃r,(dZ ws es k m l b).1=some r
 | 0,m,l,b,h=>by simp[dZ]at h
 | k+1,m,[],b,h=>by simp[dZ]at h
 | k+1,m,x::l,b,h=>by
  rw[dZ]at h ⊢;split
  ·exact⟨_,rfl⟩
  ·rename_i h1;rw[if_neg h1]at h;split
   ·rename_i h2;rw[if_pos h2]at h;cases h
   ·rename_i h2;rw[if_neg h2]at h;have ih:=ma ws es k (m.set x.v.toNat 1) l (b-ws.getD x.v.toNat 0)
    revert h ih
    generalize dZ ws es k (m.set x.v.toNat 1) l (b-ws.getD x.v.toNat 0)=p;obtain⟨p1,p2⟩:=p;cases p2
    ·intro h;cases p1<;>cases h
    ·cases p1 with
     | none=>intro _ ih;obtain⟨r,hr⟩:=ih rfl;cases hr
     | some r'=>intro h _;exact ma ws es k _ _ _ h
theorem SAt.back1{H:List B}{k0 km:Nat}{f g:Bool}{ws:List Int}{es:List (List Nat)}{n:Nat}{m:List Nat}{lf:Int}(s:SAt H k0 km f g ws es n m lf)(b:B):(H.set km b).set km (.buf 3 1 (nuL m) false)=H:=by
 have:=s.back b b;rw[List.set_set,List.set_set]at this;rw[List.set_set];exact this
theorem check_h{k0 km:Nat}{f g:Bool}{ws:List Int}{es:List (List Nat)}{n:Nat}{lf:Int}(hb:HsB ws es)(fl:Bool)(k:Nat):∀(l:List Nde) (H:List B) (m:List Nat) (b:Int),SAt H k0 km f g ws es n m lf→l.length≤k→-9000000000000000000+1000000*(l.length:Int)≤b→b≤9000000000000000000 →
  bA Tryz.prog 125 [.ptr k0 0,LNd fl l,.int .i64 b] H fun r H'=>r = .tup [encR fl (dZ ws es k m l b).1,.bool (dZ ws es k m l b).2]∧H'=H:=by
 induction k with
 | zero =>
  intro l H m b s hk hb1 hb2;have:l=[]:=List.length_eq_zero_iff.1 (by omega);subst this;rw[chk_nil];refine aD tok Tryz.func125 rfl rfl ?_;refine wx ?_;simp -implicitDefEqProofs -dsimp[Tryz.f125,List.replicate,LNd];rfl
 | succ k ih =>
  intro l H m b s hk hb1 hb2
  cases l with
  | nil =>
   rw[chk_nil];refine aD tok Tryz.func125 rfl rfl ?_;refine wx ?_;simp -implicitDefEqProofs -dsimp[Tryz.f125,List.replicate,LNd];rfl
  | cons x r =>
   simp only[List.length_cons]at hk hb1;refine fo ?_ (by intro c hc;simp at hc;rcases hc with rfl | rfl;exact encR_rb _ _ _;trivial) s.rb;have hk0:k0<H.length:=aE s.h0;have hkm:km<H.length:=aE s.hm;have hlm:=s.lm;have hlw:=s.lw
   have hn2:n≤200:=by have:=hb.n;omega
   obtain⟨xv,xl⟩:=x;obtain⟨P,hP⟩:∃P,P=dZ ws es (k+1) m (⟨xv,xl⟩::r) b:=⟨_,rfl⟩;rw[←hP];rw[dZ]at hP;simp only at hP;have s2:=s.app [B.cells [.int .i64 xv,LSh false xl]] (by simp[rbB,rb,rb1,LSh])
   have gx:(H++[B.cells [.int .i64 xv,LSh false xl]])[H.length]?=some (B.cells [.int .i64 xv,LSh false xl]):=by simp
   have hes:es.length≤1000000:=by have:=hb.ne;omega
   have hel:∀e∈es,e.length≤1000000:=fun e he=>by have:=hb.ed.len e he;have:=hb.n;omega
   have hed:jP n es:=hlw▸hb.ed;have cd:=dead_h s2 hed hes hel;have cs:=shares_h s2 hb xl false b;simp only[LSh]at gx cs s2 cd;have htk:List.take r.length (r.map aa)=r.map aa:=List.take_of_length_le (by simp);have g0:=s2.h0;have gm:=s2.hm;have hnl:=aw m
   have hrl:¬((r.length:Int)+1=0):=by omega
   obtain⟨D,hD⟩:∃D,D=gM m es:=⟨_,rfl⟩;rw[←hD]at cd hP;obtain⟨S,hS⟩:∃S,S=shE ws es m xl b:=⟨_,rfl⟩;rw[←hS]at cs hP;refine aD tok Tryz.func125 rfl rfl ?_;refine wx ?_;simp -implicitDefEqProofs -dsimp[Tryz.f125,List.replicate,LNd,hrl,aa,LSh];refine aK (am tok mixed [5,6] [(0,[1]),(1,[1]),(2,[1]),(3,[1,2]),(4,[1,2])] [] (by kernel_rfl) fun C K hC hK=>?_);simp -implicitDefEqProofs [LNd,htk,aa,LSh];refine hK _ _ ?_;obtain⟨HH,hHH⟩:∃HH,HH=H++[B.cells [.int .i64 xv,.lst 2 false (xl.map aQ)]]:=⟨_,rfl⟩;have hex:∃G,HH=H++G:=⟨_,hHH⟩;rw[←hHH]at s2 gx cd cs g0 gm ⊢;clear hC hK C K;by_cases c1:xv = -1
   ·rw[if_pos c1]at hP;subst c1
    cases xl with
    | nil =>
     rw[if_pos rfl]at hP;by_cases c2:b≤0
     ·rw[decide_eq_true c2,Bool.true_or]at hP;subst hP;simp -implicitDefEqProofs -dsimp[gx,c2,aa,LSh];exact⟨rfl,hex⟩
     ·rw[decide_eq_false c2,Bool.false_or]at hP;subst hP;simp -implicitDefEqProofs -dsimp[gx,c2,aa,LSh];refine bK cd ?_;rintro _ _ ⟨rfl,rfl⟩;simp -implicitDefEqProofs -dsimp[aa,LSh];exact⟨rfl,hex⟩
    | cons y ys =>
     rw[if_neg (by simp)]at hP;subst hP
     have hyl:¬((ys.length:Int)+1=0):=by omega
     simp -implicitDefEqProofs -dsimp[gx,hyl,aa,LSh];refine bK cs ?_;rintro _ _ ⟨rfl,rfl⟩;simp -implicitDefEqProofs -dsimp[aa,LSh];exact⟨rfl,hex⟩
   ·rw[if_neg c1]at hP;by_cases c2:xv<0
    ·rw[if_pos (.inl c2)]at hP;subst hP;simp -implicitDefEqProofs -dsimp[gx,g0,c1,c2,aa,LSh];refine .inr ⟨aI (by kernel_rfl),?_⟩;exact⟨rfl,hex⟩
    by_cases c3:(n:Int)≤xv
    ·rw[if_pos (.inr (.inl (hlm▸c3)))]at hP;subst hP;simp -implicitDefEqProofs -dsimp[gx,g0,gm,hnl,hlm,c1,c2,c3,aa,LSh];refine .inr ⟨aI (by kernel_rfl),?_⟩;exact⟨rfl,hex⟩
    by_cases c4:xl=[]
    ·subst c4;obtain⟨v,rfl⟩:∃v:Nat,xv=v:=⟨xv.toNat,by omega⟩
     have hvn:v<n:=by omega
     have hat:=fun h=>bQ (m:=m) (x:=v) h
     obtain⟨c,hc⟩:∃c,c=m.getD v 0:=⟨_,rfl⟩;by_cases c5:c=0
     ·rw[if_neg (by rw[Int.toNat_natCast,←hc,hlm];rintro(h | h | h | h)<;>first | omega | exact h rfl | exact h c5)]at hP;rw[Int.toNat_natCast]at hP;rw[←hc,c5]at hat
      have c6:¬((n:Int)≤v):=by omega
      simp -implicitDefEqProofs -dsimp[gx,g0,gm,c1,c2,c6,hat,hnl,hlm,hvn,aa,LSh];refine .inr ⟨aI (by kernel_rfl),?_⟩
      have hvw:v<ws.length:=by omega
      have hwl:=(ah ws 0 hvw).symm;have hwb:=hb.w v hvw;obtain⟨w,hw⟩:∃w,w=ws.getD v 0:=⟨_,rfl⟩;rw[←hw]at hwl hwb hP;have hbw:IntKind.i64.wrap (b-w)=b-w:=wrap64 (by omega) (by omega)
      have hm0:m.set v 0=m:=by
       have:m[v]'(by omega)=0:=by rw[←ah m 0 (by omega),←hc];exact c5
       conv=>rhs;rw[←List.set_getElem_self (show v<m.length by omega)]
       rw[this]
      have hst1:(nuL m).set v (.int .i64 1)=nuL (m.set v 1):=cW m v 1;have hst2:(nuL (m.set v 1)).set v (.int .i64 2)=nuL (m.set v 2):=(cW (m.set v 1) v 2).trans (by rw[List.set_set]);have hst3:(nuL (m.set v 1)).set v (.int .i64 0)=nuL m:=(cW (m.set v 1) v 0).trans (by rw[List.set_set,hm0]);have hst4:(nuL (m.set v 2)).set v (.int .i64 0)=nuL m:=(cW (m.set v 2) v 0).trans (by rw[List.set_set,hm0]);refine aK (am tok mixed [7] [] [] (by kernel_rfl) fun C K hC hK=>?_);simp -implicitDefEqProofs [gx,g0,gm,hat,hnl,hlm,hvn,hst1,aa,LSh];refine hK _ _ ?_;clear hC hK C K;have s3:=s2.mark v 1;have s4:=s2.mark v 2;have hb3:=s2.back1 (.buf 3 1 (nuL (m.set v 1)) false);have hb4:=s2.back1 (.buf 3 1 (nuL (m.set v 2)) false)
      have hkn:km≠H.length:=by omega
      have gx3:(HH.set km (.buf 3 1 (nuL (m.set v 1)) false))[H.length]?=some (B.cells [.int .i64 v,.lst 2 false []]):=by rw[List.getElem?_set_ne hkn];exact gx
      have gx4:(HH.set km (.buf 3 1 (nuL (m.set v 2)) false))[H.length]?=some (B.cells [.int .i64 v,.lst 2 false []]):=by rw[List.getElem?_set_ne hkn];exact gx
      have hs34:(HH.set km (.buf 3 1 (nuL (m.set v 1)) false)).set km (.buf 3 1 (nuL (m.set v 2)) false)=HH.set km (.buf 3 1 (nuL (m.set v 2)) false):=by rw[List.set_set]
      obtain⟨H3,hH3⟩:∃H3,H3=HH.set km (.buf 3 1 (nuL (m.set v 1)) false):=⟨_,rfl⟩;obtain⟨H4,hH4⟩:∃H4,H4=HH.set km (.buf 3 1 (nuL (m.set v 2)) false):=⟨_,rfl⟩;rw[←hH3]at s3 hb3 gx3 hs34 ⊢;rw[←hH4]at s4 hb4 gx4 hs34;have h03:=s3.h0;have hm3:=s3.hm;have h04:=s4.h0;have hm4:=s4.hm
      have hat3:=fun h=>bQ (m:=m.set v 1) (x:=v) h
      have hat4:=fun h=>bQ (m:=m.set v 2) (x:=v) h
      have nl3:=aw (m.set v 1);have nl4:=aw (m.set v 2);rw[List.length_set]at nl3 nl4;have i3:=ih r H3 (m.set v 1) (b-w) s3 (by omega) (by omega) (by omega);have hsome:=ma ws es k (m.set v 1) r (b-w);have hlen:=og ws es k (m.set v 1) r (b-w);obtain⟨p,hp⟩:∃p,p=dZ ws es k (m.set v 1) r (b-w):=⟨_,rfl⟩;rw[←hp]at i3 hsome hlen hP;obtain⟨p1,p2⟩:=p;simp only[LNd]at i3;simp -implicitDefEqProofs -dsimp[gx3,h03,hm3,hvw,hwl,hbw,L1,aW,aa,LSh];refine .inr ⟨aI (by kernel_rfl),?_⟩;refine ae _ (bK i3 fun _ _ h=>h) ?_
      cases p2 with
      | false =>
       have hP2:P=(p1,false):=by rw[hP];cases p1<;>rfl
       subst hP2;simp -implicitDefEqProofs -dsimp[aa,LSh];refine aK (am tok mixed [7] [] [] (by kernel_rfl) fun C K hC hK=>?_);simp -implicitDefEqProofs [gx3,h03,hm3,hat3,nl3,hlm,hvn,hst3,hb3,aa,LSh];refine hK _ _ ?_;simp -implicitDefEqProofs -dsimp[aa,LSh];exact hex
      | true =>
       obtain⟨r',hr'⟩:=hsome rfl;simp only at hr';subst hr';have hlr:=hlen r' rfl;simp only at hP;have i4:=ih r' H4 (m.set v 2) b s4 (by omega) (by omega) hb2;rw[←hP]at i4;simp -implicitDefEqProofs -dsimp[encR,aa,LSh];refine aK (am tok mixed [7] [] [] (by kernel_rfl) fun C K hC hK=>?_);simp -implicitDefEqProofs [gx3,h03,hm3,hat3,nl3,hlm,hvn,hst2,hs34,aa,LSh];refine hK _ _ ?_;clear hC hK C K;simp -implicitDefEqProofs -dsimp[aa,LSh];refine bK i4 ?_;rintro _ _ ⟨rfl,rfl⟩;simp -implicitDefEqProofs -dsimp[aa,LSh];refine aK (am tok mixed [7] [] [] (by kernel_rfl) fun C K hC hK=>?_);simp -implicitDefEqProofs [gx4,h04,hm4,hat4,nl4,hlm,hvn,hst4,hb4,aa,LSh];refine hK _ _ ?_;simp -implicitDefEqProofs -dsimp[aa,LSh];exact hex
     ·rw[if_pos (.inr (.inr (.inr (by rw[Int.toNat_natCast,←hc];exact c5))))]at hP;rw[←hc]at hat;subst hP;simp -implicitDefEqProofs -dsimp[gx,g0,gm,c1,c2,c3,hat,hnl,hlm,hvn,c5,show ¬((c:Int)=0) by omega,aa,LSh];refine .inr ⟨aI (by kernel_rfl),?_⟩;exact⟨rfl,hex⟩
    ·rw[if_pos (.inr (.inr (.inl c4)))]at hP;subst hP;have hyl:=List.length_pos_iff.2 c4;simp -implicitDefEqProofs -dsimp[gx,g0,gm,hnl,hlm,c1,c2,c3,hyl,c4,aa,LSh];refine .inr ⟨aI (by kernel_rfl),?_⟩;exact⟨rfl,hex⟩
def ab(f g:Bool)(ws:List Int)(es:List (List Nat)):V:=.agg [L1 f ws,LLn g es]
@[simp] theorem encHn_pure (f g:Bool) (ws:List Int) (es:List (List Nat)):AM.Pure (ab f g ws es):=by simp[ab]
def cst(es:List (List Nat)):List (List Int):=es.map fun e=>e.map fun(v:Nat)=>(v:Int)
theorem LLi_cst(g:Bool)(es:List (List Nat)):LLi g (cst es)=LLn g es:=by
 simp[LLi,LLn,cst,L1,Ln,aW,eN,Function.comp_def]
theorem encHs_cst(f g:Bool)(ws:List Int)(es:List (List Nat)):jL f g ws (cst es)=ab f g ws es:=by
 unfold jL ab;rw[LLi_cst]
def kf(ws:List Int)(es:List (List Nat)):Int:=mo ws (cst es)
theorem lA(n:Nat):∀(e:List Nat) (last:Int),gL n last (e.map fun(v:Nat)=>(v:Int))=true↔(∀v∈e,last<v∧v<n)∧e.Pairwise (· < ·)
 | [],last=>by simp[gL]
 | v::e,last=>by
  rw[List.map_cons,gL,Bool.and_eq_true,Bool.and_eq_true,lA n e v];simp only[decide_eq_true_eq,List.forall_mem_cons,List.pairwise_cons];constructor
  ·rintro⟨⟨h1,h2⟩,h3,h4⟩;exact⟨⟨⟨h1,by omega⟩,fun u hu=>⟨by have:=(h3 u hu).1;omega,(h3 u hu).2⟩⟩,fun u hu=>by have:=(h3 u hu).1;omega,h4⟩
  ·rintro⟨⟨⟨h1,h2⟩,h3⟩,h4,h5⟩;exact⟨⟨h1,by omega⟩,fun u hu=>⟨by have:=h4 u hu;omega,(h3 u hu).2⟩,h5⟩
theorem fY{ws:List Int}{es:List (List Nat)} : kf ws es=0↔HsB ws es:=by
 unfold kf mo;constructor
 ·intro h;split at h
  ·cases h
  ·rename_i h1;split at h
   ·rename_i h2;unfold jW at h;split at h
    ·rename_i h3;rw[List.all_eq_true]at h2 h3;refine⟨fun v hv=>?_,by omega,by simp[cst]at h1;omega,fun e he=>?_⟩
     ·have:=h2 _ (List.getElem_mem hv);rw[ah _ _ hv];simpa[wOk] using this
     ·have:=h3 (e.map fun(v:Nat)=>(v:Int)) (List.mem_map.2 ⟨e,he,rfl⟩);rw[eOk,Bool.and_eq_true,lA]at this;exact⟨by rintro rfl;simp at this,this.1.2,fun v hv=>(this.1.1 v hv).2⟩
    ·cases h
   ·cases h
 ·rintro⟨h1,h2,h3,h4⟩;rw[if_neg (by simp[cst];omega),if_pos ?_,jW,if_pos ?_]
  ·rw[List.all_eq_true];intro x hx;obtain⟨e,he,rfl⟩:=List.mem_map.1 hx;obtain⟨e1,e2,e3⟩:=h4 e he;rw[eOk,Bool.and_eq_true,lA];refine⟨⟨fun v hv=>⟨by omega,e3 v hv⟩,e2⟩,?_⟩
   cases e with
   | nil=>exact absurd rfl e1
   | cons a b=>rfl
  ·rw[List.all_eq_true];intro w hw;obtain⟨i,hi,rfl⟩:=List.mem_iff_getElem.1 hw;have:=h1 i hi;rw[ah _ _ hi]at this;simpa[wOk] using this
theorem lp(ws:List Int)(es:List (List Nat))(f g:Bool)(hl:∀e∈es,e.length≤1000000):aR Tryz.prog 107 [ab f g ws es] fun r=>r = .int .i64 (kf ws es):=by
 have:=hsValid ws (cst es) f g (fun e he=>by obtain⟨e',h,rfl⟩:=List.mem_map.1 he;rw[List.length_map];exact hl e' h)
 rwa [encHs_cst]at this
def nsH(H:List B)(f g:Bool)(ws:List Int)(es:List (List Nat))(lf:Int):List B:=H++[.cells [L1 f ws,LLn g es],.buf 3 1 (nuL (List.replicate ws.length 0)) false,.cells [L1 f ws,LLn g es,.buf (H.length+1) 0 ws.length ws.length,.int .i64 lf]]
theorem nsH_at{H:List B}(hH:∀bl∈H,rbB H.length bl)(f g:Bool)(ws:List Int)(es:List (List Nat))(lf:Int):SAt (nsH H f g ws es lf) (H.length+2) (H.length+1) f g ws es ws.length (List.replicate ws.length 0) lf:=by
 refine⟨by simp[nsH],by simp[nsH],?_,by simp,rfl,by omega⟩;refine rbs_app hH ?_;intro bl hb
 rcases List.mem_cons.1 hb with rfl | hb
 ·intro c hc;simp at hc;rcases hc with rfl | rfl<;>exact cI (by simp) rfl
 rcases List.mem_cons.1 hb with rfl | hb
 ·exact(rbB_buf1 (cx _)).2 trivial
 rcases List.mem_cons.1 hb with rfl | hb
 ·intro c hc;simp at hc;rcases hc with rfl | rfl | rfl | rfl
  ·exact cI (by simp) rfl
  ·exact cI (by simp) rfl
  ·simp[rb,rb1]
  ·trivial
 ·cases hb
theorem jZ(H:List B)(f g:Bool)(ws:List Int)(es:List (List Nat))(lf:Int)(hn:ws.length≤200):
  bA Tryz.prog 105 [ab f g ws es,.int .i64 lf] H fun r H'=>r = .ptr (H.length+2) 0∧H'=nsH H f g ws es lf:=by
 have g0:(H++[B.cells [L1 f ws,LLn g es]])[H.length]?=some (B.cells [L1 f ws,LLn g es]):=by simp
 have hr:List.replicate ws.length (V.int .i64 0)=nuL (List.replicate ws.length 0):=by simp[nuL,eN]
 refine aD tok Tryz.func105 rfl rfl ?_;refine wx ?_;simp -implicitDefEqProofs -dsimp[Tryz.f105,List.replicate,ab];refine aK (am tok mixed [4,7] [(0,[1]),(5,[0])] [] (by kernel_rfl) fun C K hC hK=>?_);simp -implicitDefEqProofs [g0,L1,LLn,hr,show(8:Int)*ws.length≤281474976710656 by omega,show(ws.length:Int)≤9223372036854775807 by omega];refine hK _ _ ?_;simp -implicitDefEqProofs -dsimp[];simp[nsH,L1,LLn]
def fJ(ws:List Int)(es:List (List Nat))(b:Int)(l:List Nde):Bool:=if kf ws es=0 then(if b < -1000000000000000∨1000000000000000<b then false else qU ws es b l) else false
theorem hsCheck(ws:List Int)(es:List (List Nat))(f g fl:Bool)(b:Int)(l:List Nde)(hl:∀e∈es,e.length≤1000000)(hp:l.length≤1000000):aR Tryz.prog 76 [ab f g ws es,.int .i64 b,LNd fl l] fun r=>r = .bool (fJ ws es b l):=by
 have cv:=lp ws es f g hl;obtain⟨E,hE⟩:∃E,E=kf ws es:=⟨_,rfl⟩;unfold fJ;rw[←hE]at cv ⊢;simp only[ab]at cv;by_cases h0:E=0
 ·rw[if_pos h0];have hb:=fY.1 (hE.symm.trans h0);subst h0;by_cases h1:b < -1000000000000000
  ·rw[if_pos (.inl h1)];refine aC (aD tok Tryz.func76 rfl rfl ?_);refine wx ?_;simp -implicitDefEqProofs -dsimp[Tryz.f76,List.replicate,ab];refine(aF (cv) (by simp)).mono ?_;rintro r H' ⟨rfl,rfl⟩;simp -implicitDefEqProofs -dsimp[h1]
  ·by_cases h2:1000000000000000<b
   ·rw[if_pos (.inr h2)];refine aC (aD tok Tryz.func76 rfl rfl ?_);refine wx ?_;simp -implicitDefEqProofs -dsimp[Tryz.f76,List.replicate,ab];refine(aF (cv) (by simp)).mono ?_;rintro r H' ⟨rfl,rfl⟩;simp -implicitDefEqProofs -dsimp[h1,h2]
   ·rw[if_neg (fun h=>h.elim h1 h2)];have c1:=jZ [B.cells [L1 f ws,LLn g es]] f g ws es 0 hb.n;have sa:=nsH_at (H:=[B.cells [L1 f ws,LLn g es]]) (by intro bl hb;simp at hb;subst hb;intro c hc;simp at hc;rcases hc with rfl | rfl<;>exact cI (by simp) rfl) f g ws es 0;have c2:=check_h hb fl (l.length+1) l _ _ b sa (by omega) (by omega) (by omega)
    have hch:qU ws es b l=(match dZ ws es (l.length+1) (List.replicate ws.length 0) l b with
     | (some r,true)=>decide (r.length=0)
     | _=>false):=rfl
    rw[hch];have hsome:=ma ws es (l.length+1) (List.replicate ws.length 0) l b;obtain⟨p,hp⟩:∃p,p=dZ ws es (l.length+1) (List.replicate ws.length 0) l b:=⟨_,rfl⟩;rw[←hp]at c2 hsome ⊢;obtain⟨p1,p2⟩:=p;simp only[ab]at c1;refine aC (aD tok Tryz.func76 rfl rfl ?_);refine wx ?_;simp -implicitDefEqProofs -dsimp[Tryz.f76,List.replicate,ab];refine(aF (cv) (by simp)).mono ?_;rintro r H' ⟨rfl,rfl⟩;simp -implicitDefEqProofs -dsimp[h1,h2];refine bK c1 ?_;rintro _ _ ⟨rfl,rfl⟩;simp -implicitDefEqProofs -dsimp[];refine bK c2 ?_;rintro _ _ ⟨rfl,rfl⟩
    cases p2 with
    | false =>
     have hm:(match (p1,false) with
      | (some r,true)=>decide (r.length=0)
      | _=>false)=false:=by cases p1<;>rfl
     rw[hm];simp -implicitDefEqProofs -dsimp[]
    | true =>
     obtain⟨r,hr⟩:=hsome rfl;simp only at hr;subst hr;by_cases h3:r.length=0
     ·simp -implicitDefEqProofs -dsimp[encR,LNd,h3]
     ·simp -implicitDefEqProofs -dsimp[encR,LNd,h3]
 ·rw[if_neg h0];refine aC (aD tok Tryz.func76 rfl rfl ?_);refine wx ?_;simp -implicitDefEqProofs -dsimp[Tryz.f76,List.replicate,ab];refine(aF (cv) (by simp)).mono ?_;rintro r H' ⟨rfl,rfl⟩;simp -implicitDefEqProofs -dsimp[h0]
end
end Go.Proofs.YteijbpppalhihaaGreat
namespace Go.Proofs.YteijbpppalhihaaGreat
section
open Go Go.AM Go.RowKit
theorem infoCl64:(Tryz.prog.info? 2).map (fun i=>(i.zero,i.size,i.bytes))=some (some (.int .i64 0),1,8):=by kernel_rfl
theorem cloneE(A:Option Addr)(cap:Nat)(w:World):
  Calls Tryz.prog 190 #[.slice A 0 cap] w fun e w'=>∃v,e = .returned v∧w'.ownsRow w.heap.size 2 1 v 0 []∧Below w.heap.size w w':=by
 have hnil:=fun W A n c=>Lib.run_eql_slice_nil (P:=Tryz.prog) W 126 2 A n c 0 0 Tryz.underlying126
 cases A with
 | none =>
  go_enter Tryz.func190,Tryz.ntmps190
  go_wp2
  go_ret
  exact⟨_,rfl,World.ownsRow_nil _ _ _ _,Below.refl _ _⟩
 | some ad =>
  obtain⟨i0,hi,hz0,hz1,hz2⟩:=info_parts infoCl64;have hown:(w.alloc (.cells #[] 2)).ownsRow w.heap.size 2 1 (.slice (some ⟨w.heap.size,0,none⟩) 0 0) 0 []:=World.ownsRow_lit w #[] 0 (Nat.le_refl _) (by simp[maxLen]) (by simp)
  have hnews:∀j u,([]:List Value)[j]?=some u→(w.alloc (.cells #[] 2)).cell? (ad.add j)=some u:=by
   intro j u hu;simp at hu
  have hone:∀u∈([]:List Value),u.oneCell'=true:=by intro u hu;cases hu
  have h63:0+0≤maxLen:=by simp[maxLen]
  have hby:(0+0)*8≤140737488355328:=by omega
  have hlen:([]:List Value).length=0*1:=by simp
  have Hi:=Lib.hid (show Tryz.prog.info? 2=some i0∧i0.zero=some _∧i0.size=1∧i0.bytes=8 from⟨hi,hz0,hz1,hz2⟩);have Hw:=Lib.hid (And.intro hown (And.intro hnews (And.intro hone (And.intro h63 (And.intro hby hlen)))));clear hnews hone hown hi hz0 hz1 hz2 h63 hby hlen
  go_enter Tryz.func190,Tryz.ntmps190
  go_wp2_with (at_builtin;refine wpList_append_own _ rfl _ _ 126 rfl w.heap.size 2 i0 _ 1 8 Tryz.underlying126 Hi.out.1 Hi.out.2.1 Hi.out.2.2.1 Hi.out.2.2.2 rfl (by omega) (.slice (some ⟨w.heap.size,0,none⟩) 0 0) 0 [] rfl Hw.out.1 ad 0 cap [] rfl Hw.out.2.2.2.2.2 Hw.out.2.1 Hw.out.2.2.1 Hw.out.2.2.2.1 Hw.out.2.2.2.2.1 (by simp) ?_;intro v1 w1 ho hg hn;have Ho:=Lib.hid ho;have Hg:=Lib.hid hg;have Hn:=Lib.hid hn;clear ho hg hn)
  go_ret
  exact⟨v1,rfl,by have:=Ho.out;simpa using this,((Below.refl _ _).alloc (Nat.le_refl _) _).grown Hg.out (by simp) (by simp[Value.ownBlock])⟩
theorem conO_own{f:FuncId}{args:List V}{e:Nat}(hE:AM.Enters Tryz.prog f)(h:∀(F:Nat→Prop) (w:World) (vals:Array Value),vals.size=args.length→(∀(i:Nat) a u,args[i]?=some a→vals[i]?=some u→Rel (AM.base F w) a u)→
  Calls Tryz.prog f vals w fun e' w'=>∃v,e' = .returned v∧w'.ownsRow w.heap.size e 1 v 0 []∧Below w.heap.size w w'):kX Tryz.prog f args fun e' z ys=>e'=e∧z=1∧ys=[]:=by
 refine⟨hE,fun F w vals hZ hF hsz hrel=>(h F w vals hsz hrel).mono fun e' w' ⟨v,he,hown,hb⟩=>?_⟩;obtain⟨_,⟨hv,_⟩ | ⟨g,c,cur,hv,hg,hc,hn,hm,hs,_⟩⟩:=hown
 ·have hF':∀b,F b→b<w'.heap.size:=fun b hb'=>Nat.lt_of_lt_of_le (hF b hb') hb.size
  obtain⟨p1,_⟩:=nc (AM.base_good hF') (w:=w') 0 e 1 false rfl rfl rfl (Nat.le_refl _) (fun _ _=>rfl);refine⟨v,e,1,[],none,0,0,he,hv,fun h=>absurd rfl h,by simp,fun h=>absurd rfl h,?_,hb,rfl,rfl,rfl⟩;refine⟨hF',fun k hk=>absurd (hk.2 e 1 [] false (by have:=hk.1;simp at this;subst this;rfl)) (by simp),fun j k hj hk _=>by have:=hj.1;have:=hk.1;simp at *;omega,fun k bl hk=>?_⟩
  have hk0:k=0:=by have:=aE hk;simp at this;omega
  subst hk0;simp at hk;subst hk;exact⟨#[],fun h=>absurd rfl h,by simp,by simp,by simp[maxLen],(fun x hx=>by cases hx),(fun i x j c u hx=>by simp at hx)⟩
 ·have hF':∀b,F b→b<w'.heap.size:=fun b hb'=>Nat.lt_of_lt_of_le (hF b hb') hb.size
  refine⟨v,e,1,[],some ⟨g,0,none⟩,g,c,he,hv,fun _=>rfl,by simp,fun _=>hg,?_,hb,rfl,rfl,rfl⟩;refine⟨hF',fun k hk=>⟨(Array.getElem?_eq_some_iff.1 hc).1,fun hf=>by have:=hF g hf;omega⟩,fun j k hj hk _=>by have:=hj.1;have:=hk.1;simp at *;omega,fun k bl hk=>?_⟩
  have hk0:k=0:=by have:=aE hk;simp at this;omega
  subst hk0;simp at hk;subst hk;exact⟨cur,fun _=>hc,by simpa using hs,by simp,hm,(fun x hx=>by cases hx),(fun i x j c u hx=>by simp at hx)⟩
theorem clone64(xs:List Int)(f:Bool)(hl:xs.length≤1000000):kX Tryz.prog 190 [L1 f xs] fun e z ys=>e=2∧z=1∧ys=xs.map aW:=by
 cases xs with
 | nil =>
  refine conO_own ⟨Tryz.f190,Tryz.func190,rfl,rfl⟩ (fun F w vals hsz hrel=>?_)
  obtain⟨u0,rfl⟩:∃u0,vals = #[u0]:=by
   obtain⟨l⟩:=vals
   match l,hsz with
   | [a],_=>exact⟨a,rfl⟩
  have r0:=hrel 0 _ u0 rfl rfl;simp only[L1,List.map_nil]at r0;cases r0;exact cloneE _ _ _
 | cons x xs =>
  have hl':xs.length≤1000000:=by simp only[List.length_cons]at hl;omega
  refine mU (aD tok Tryz.func190 rfl rfl ?_);refine wx ?_;simp -implicitDefEqProofs -dsimp[Tryz.f190,List.replicate,L1,gT,cap8 xs.length (by omega)];exact⟨0,2,1,aW x::xs.map aW,by simp,rfl,by simp,rfl,rfl,rfl⟩
end
end Go.Proofs.YteijbpppalhihaaGreat
namespace Go.Proofs.YteijbpppalhihaaGreat
section
open Go Go.AM
section
def scl(f g:Bool)(ws:List Int)(es:List (List Nat))(km n:Nat)(lf:Int):B:=.cells [L1 f ws,LLn g es,.buf km 0 n n,.int .i64 lf]
theorem scl_rb{N:Nat}(f g:Bool)(ws:List Int)(es:List (List Nat)){km:Nat}(n:Nat)(lf:Int)(h:km<N):rbB N (scl f g ws es km n lf):=by
 intro c hc;simp only[List.mem_cons,List.not_mem_nil,or_false]at hc
 rcases hc with rfl | rfl | rfl | rfl
 ·exact cI (by simp) rfl
 ·exact cI (by simp) rfl
 ·exact h
 ·trivial
section
variable {H:List B} {k0 km:Nat} {f g:Bool} {ws:List Int} {es:List (List Nat)} {n:Nat} {m:List Nat} {lf:Int}
theorem SAt.left(s:SAt H k0 km f g ws es n m lf)(lf':Int):SAt (H.set k0 (scl f g ws es km n lf')) k0 km f g ws es n m lf' :=
 ⟨by rw[List.getElem?_set_self (aE s.h0)];rfl,by rw[List.getElem?_set_ne (Ne.symm s.n0)];exact s.hm,fO s.rb (scl_rb f g ws es n lf' (aE s.hm)),s.lm,s.lw,s.n0⟩
theorem spend_h(s:SAt H k0 km f g ws es n m lf)(h1 : -9000000000000000000≤lf)(h2:lf≤9000000000000000000):
  bA Tryz.prog 145 [.ptr k0 0] H fun r H'=>r = .bool (decide (0≤lf-1))∧H'=H.set k0 (scl f g ws es km n (lf-1)):=by
 have h0:=s.h0;have hk0:k0<H.length:=aE s.h0;have s2:=s.left (lf-1);have h02:=s2.h0;have hw:IntKind.i64.wrap (lf-1)=lf-1:=wrap64 (by omega) (by omega);have hst:H.set k0 (B.cells [L1 f ws,LLn g es,.buf km 0 n n,.int .i64 (lf-1)])=H.set k0 (scl f g ws es km n (lf-1)):=rfl;by_cases hq:0≤lf-1
 ·rw[decide_eq_true hq];refine aD tok Tryz.func145 rfl rfl ?_;refine wx ?_;simp -implicitDefEqProofs -dsimp[Tryz.f145,List.replicate,h0,hw,hst,h02,hq,scl];omega
 ·rw[decide_eq_false hq];refine aD tok Tryz.func145 rfl rfl ?_;refine wx ?_;simp -implicitDefEqProofs -dsimp[Tryz.f145,List.replicate,h0,hw,hst,h02,hq,scl];omega
theorem branch_h(s:SAt H k0 km f g ws es n m lf)(hb:HsB ws es):
  bA Tryz.prog 148 [.ptr k0 0] H fun r H'=>r = .int .i64 (brS es m)∧H'=H:=by
 refine fo ?_ (by simp[rb,rb1]) s.rb;have h0:=s.h0;have hm:=s.hm;have hnl:=aw m;have hlm:=s.lm;have hlw:=s.lw;have hk0:k0<H.length:=aE s.h0;have hkm:km<H.length:=aE s.hm
 have hn2:n≤200:=by have:=hb.n;omega
 have he2:=hb.ne;obtain⟨E,hE⟩:∃E,E=brS es m:=⟨_,rfl⟩;rw[←hE];unfold brS at hE;rw[hlm]at hE
 have hcr:∀c:List Int,rbB (H.length+1) (B.buf 3 1 (inL c) false):=fun c=>(rbB_buf1 (iO _)).2 trivial
 have sN:∀c:List Int,SAt (H++[B.buf 3 1 (inL c) false]) k0 km f g ws es n m lf:=fun c=>s.app [B.buf 3 1 (inL c) false] (by intro bl h;rcases List.mem_cons.1 h with rfl | h;exact hcr c;cases h)
 have hrep:List.replicate n (V.int .i64 0)=inL (List.replicate n 0):=by simp[inL,aW]
 have h0r:=(sN (List.replicate n 0)).h0;refine aD tok Tryz.func148 rfl rfl ?_;refine wx ?_;simp -implicitDefEqProofs -dsimp[Tryz.f148,List.replicate,hrep,h0r,h0,hm,hnl,hlm,show(8:Int)*n≤281474976710656 by omega,show(n:Int)≤9223372036854775807 by omega,LLn,Ln];refine aK (W_loopM 64 [4,6,8,21,22,23,24,25,26,27,28,29,30,31,32,33,34,35,36,37,38,39,40,41,42,43,44,45,46,47,48,49,50,51,52,53,54,55,56,57,58,59,60,61,62,63] (by simp[mB]<;>rfl) (σ:=Nat×List Int×Int) (fun p=>p.1≤es.length∧brF m (es.drop p.1) p.2.1 p.2.2=E∧ldOk n (p.1*200) p.2.1∧-1≤p.2.2∧p.2.2<n) (fun p=>es.length-p.1) (fun p=>[(21,.int .i64 p.1),(4,.int .i64 p.2.2)]) (fun p=>H++[.buf 3 1 (inL p.2.1) false]) (0,List.replicate n 0,-1) ⟨by simp,by rw[List.drop_zero];exact hE.symm,⟨by simp,fun v _=>by rw[fk];simp⟩,by simp,by simp only;omega⟩ (by simp) (by simp) (by simp) ?_);rintro⟨i,c,b⟩ ⟨hi,hx,hc,hb1,hb2⟩ N Q hN hQ;simp only at hi hx hc hb1 hb2 hN;by_cases hbi:i<es.length
 ·rw[List.drop_eq_getElem_cons hbi,brF]at hx;have hmem:=List.getElem_mem hbi;obtain⟨e1,e2,e3⟩:=hb.ed es[i] hmem;have e4:=hb.ed.len es[i] hmem;obtain⟨e,he⟩:∃e,e=es[i]:=⟨_,rfl⟩;rw[←he]at hx e1 e2 e3 e4;have hei:=he.symm;have s1:=sN c;have ch:=has_h s1 e false 1 (by omega) (fun v hv=>by have:=e3 v hv;omega);simp only[Ln]at ch
  cases hh:gE m 1 e with
  | true =>
   rw[hh]at ch;rw[if_pos hh]at hx;refine wx ?_;simp -implicitDefEqProofs -dsimp[hbi,hei,LLn,Ln];refine bK ch ?_;rintro _ _ ⟨rfl,rfl⟩;simp -implicitDefEqProofs -dsimp[aJ i (by omega),LLn,Ln];refine hN (i+1,c,b) _ _ ⟨by simp only;omega,hx,⟨hc.1,fun v hv=>by have:=hc.2 v hv;simp only;omega⟩,hb1,hb2⟩ (by simp only;omega) (by simp) ⟨[],by simp⟩ (by simp;omega) s1.rb
  | false =>
   rw[hh]at ch;rw[if_neg (by simp[hh])]at hx;refine wx ?_;simp -implicitDefEqProofs -dsimp[hbi,hei,LLn,Ln];refine bK ch ?_;rintro _ _ ⟨rfl,rfl⟩;simp -implicitDefEqProofs -dsimp[LLn,Ln];refine aK (W_loopM 63 [4,8,30,31,32,33,34,35,36,37,38,39,40,41,42,43,44,45,46,47,48,49,50,51,52,53,54,55,56,57,58,59,60,61,62] (by simp[mB]<;>rfl) (σ:=Nat×List Int×Int) (fun q=>q.1≤e.length∧brF m (es.drop (i+1)) (brE m (e.drop q.1) q.2.1 q.2.2).1 (brE m (e.drop q.1) q.2.1 q.2.2).2=E∧ldOk n (i*200+q.1) q.2.1∧-1≤q.2.2∧q.2.2<n) (fun q=>e.length-q.1) (fun q=>[(30,.int .i64 q.1),(4,.int .i64 q.2.2)]) (fun q=>H++[.buf 3 1 (inL q.2.1) false]) (0,c,b) ⟨by simp,by rw[List.drop_zero];exact hx,by simpa using hc,hb1,hb2⟩ (by simp) (by simp) (by simp) ?_);rintro⟨k,c2,b2⟩ ⟨hk,hy,hc2,hb3,hb4⟩ N2 Q2 hN2 hQ2;simp only at hk hy hc2 hb3 hb4 hN2;have s2:=sN c2;by_cases hbk:k<e.length
   ·rw[List.drop_eq_getElem_cons hbk,brE]at hy;have hvn:=e3 e[k] (List.getElem_mem hbk);obtain⟨v,hv⟩:∃v,v=e[k]:=⟨_,rfl⟩;rw[←hv]at hy hvn;have hev:=hv.symm
    have hvn2:v<n:=by omega
    have g0:=s2.h0;have gm:=s2.hm
    have hat:=fun h=>bQ (m:=m) (x:=v) h
    obtain⟨mc,hmc⟩:∃mc,mc=m.getD v 0:=⟨_,rfl⟩;rw[←hmc]at hat hy;by_cases h00:mc=0
    ·subst h00;rw[if_pos rfl]at hy
     have hgl:=fun h=>ev (m:=c2) (x:=v) h
     have hll:=eu c2;have hl1:=hc2.1;obtain⟨z1,z2⟩:=hc2.2 v hvn2;have hset:=hc2.set (A':=(i:Int)*200+((k+1:Nat):Int)) (by omega) hvn2 (a:=1) (by omega) (by omega);have hst:=ll c2 v (c2.getD v 0+1)
     have g9:(H++[B.buf 3 1 (inL c2) false])[H.length]?=some (B.buf 3 1 (inL c2) false):=by simp
     obtain⟨c3,hc3⟩:∃c3,c3=c2.set v (c2.getD v 0+1):=⟨_,rfl⟩
     have hcv:c3.getD v 0=c2.getD v 0+1:=by rw[hc3,ac _ (by omega)]
     rw[←hc3]at hy hset hst;obtain⟨z,hz⟩:∃z,z=c2.getD v 0:=⟨_,rfl⟩;rw[←hz]at hgl hy hst z1 z2 hcv;have hw2:IntKind.i64.wrap (z+1)=z+1:=wrap64 (by omega) (by omega)
     have hs9:(H++[B.buf 3 1 (inL c2) false]).set H.length (B.buf 3 1 (inL c3) false)=H++[B.buf 3 1 (inL c3) false]:=by simp[List.set_append_right]
     have s3:=sN c3
     have q9:(H++[B.buf 3 1 (inL c3) false])[H.length]?=some (B.buf 3 1 (inL c3) false):=by simp
     have hll3:=eu c3;have hl13:=hset.1
     have hgl3:=fun h=>ev (m:=c3) (x:=v) h
     rw[hcv]at hgl3;by_cases hbn:b2<0
     ·rw[if_pos (.inl hbn)]at hy;refine wx ?_;simp -implicitDefEqProofs -dsimp[hbk,hev,eN,g0,gm,hat,hnl,hlm,hvn2,g9,hgl,hll,hl1,hw2,hst,hs9,hbn,LLn,Ln];refine .inr ⟨aI (by kernel_rfl),?_⟩;simp -implicitDefEqProofs -dsimp[aJ k (by omega),LLn,Ln];refine hN2 (k+1,c3,v) _ _ ⟨by simp only;omega,hy,hset,by simp only;omega,by simp only;omega⟩ (by simp only;omega) (by simp) ⟨[],by simp⟩ (by simp;omega) s3.rb
     ·obtain⟨q,rfl⟩:∃q:Nat,b2=q:=⟨b2.toNat,by omega⟩
      have hqn:q<n:=by omega
      rw[Int.toNat_natCast]at hy
      have hgq:=fun h=>ev (m:=c3) (x:=q) h
      obtain⟨y,hy2⟩:∃y,y=c3.getD q 0:=⟨_,rfl⟩;rw[←hy2]at hgq hy;by_cases hlt:y<z+1
      ·rw[if_pos (.inr hlt)]at hy;refine wx ?_;simp -implicitDefEqProofs -dsimp[hbk,hev,eN,g0,gm,hat,hnl,hlm,hvn2,g9,hgl,hll,hl1,hw2,hst,hs9,hbn,q9,hgl3,hll3,hl13,hqn,hgq,hlt,LLn,Ln];refine .inr ⟨aI (by kernel_rfl),?_⟩;simp -implicitDefEqProofs -dsimp[aJ k (by omega),LLn,Ln];refine hN2 (k+1,c3,v) _ _ ⟨by simp only;omega,hy,hset,by simp only;omega,by simp only;omega⟩ (by simp only;omega) (by simp) ⟨[],by simp⟩ (by simp;omega) s3.rb
      ·rw[if_neg (by rintro(h | h)<;>omega)]at hy;refine wx ?_;simp -implicitDefEqProofs -dsimp[hbk,hev,eN,g0,gm,hat,hnl,hlm,hvn2,g9,hgl,hll,hl1,hw2,hst,hs9,hbn,q9,hgl3,hll3,hl13,hqn,hgq,hlt,LLn,Ln];refine .inr ⟨aI (by kernel_rfl),?_⟩;simp -implicitDefEqProofs -dsimp[aJ k (by omega),LLn,Ln];refine hN2 (k+1,c3,q) _ _ ⟨by simp only;omega,hy,hset,by simp only;omega,by simp only;omega⟩ (by simp only;omega) (by simp) ⟨[],by simp⟩ (by simp;omega) s3.rb
    ·rw[if_neg h00]at hy;refine wx ?_;simp -implicitDefEqProofs -dsimp[hbk,hev,eN,g0,gm,hat,hnl,hlm,hvn2,h00,show ¬((mc:Int)=0) by omega,LLn,Ln];simp -implicitDefEqProofs -dsimp[aJ k (by omega),LLn,Ln];refine hN2 (k+1,c2,b2) _ _ ⟨by simp only;omega,hy,⟨hc2.1,fun v hv=>by have:=hc2.2 v hv;simp only;omega⟩,hb3,hb4⟩ (by simp only;omega) (by simp) ⟨[],by simp⟩ (by simp;omega) s2.rb
   ·rw[show e.drop k=[] from List.drop_of_length_le (by omega),brE]at hy;refine wx ?_;simp -implicitDefEqProofs -dsimp[hbk,LLn,Ln];refine hQ2 _ _ _ ?_;simp -implicitDefEqProofs -dsimp[aJ i (by omega),LLn,Ln];refine hN (i+1,c2,b2) _ _ ⟨by simp only;omega,hy,⟨hc2.1,fun v hv=>by have:=hc2.2 v hv;simp only;omega⟩,hb3,hb4⟩ (by simp only;omega) (by simp) ⟨[],by simp⟩ (by simp;omega) s2.rb
 ·rw[List.drop_of_length_le (by omega),brF]at hx;refine wx ?_;simp -implicitDefEqProofs -dsimp[hbi,LLn,Ln];refine hQ _ _ _ ?_;simp -implicitDefEqProofs -dsimp[LLn,Ln];exact hx
end
end
section
theorem rb_sh{N:Nat}(l:List Shr)(fz:Bool):rbB N (.buf 151 2 (l.map aQ) fz):=(rbB_buf1 (fun x hx=>by obtain⟨y,_,rfl⟩:=List.mem_map.1 hx;exact⟨encSh_pure y,encSh_oneV y⟩)).2 trivial
section
variable {H:List B} {k0 km:Nat} {f g:Bool} {ws:List Int} {es:List (List Nat)} {n:Nat} {m:List Nat} {lf:Int}
def rmOk(n:Nat)(A:Int)(rm:List Int):Prop:=rm.length=n∧∀v<n,-A≤rm.getD v 0∧rm.getD v 0≤1000000
theorem rmOk.set{n:Nat}{A A':Int}{rm:List Int}(h:rmOk n A rm)(hA:A≤A'){v:Nat}(hv:v<n){a:Int}(h0 : -A'≤rm.getD v 0-a)(h1:rm.getD v 0-a≤1000000):rmOk n A' (rm.set v (rm.getD v 0-a)):=by
 refine⟨by simp[h.1],fun u hu=>?_⟩;by_cases e:v=u
 ·subst e;rw[ac _ (by rw[h.1];exact hv)];exact⟨h0,h1⟩
 ·rw[af _ e];have:=h.2 u hu;exact⟨by omega,this.2⟩
theorem packing_h(s:SAt H k0 km f g ws es n m lf)(hb:HsB ws es):
  bA Tryz.prog 147 [.ptr k0 0] H fun r H'=>r = .tup [LSh false (eV ws es m).1,.int .i64 (eV ws es m).2]∧H'=H:=by
 refine fo ?_ (by intro c hc;simp at hc;rcases hc with rfl | rfl;exact pR (LSh_pure _ _) rfl;trivial) s.rb;have h0:=s.h0;have hm:=s.hm;have hnl:=aw m;have hlm:=s.lm;have hlw:=s.lw;have hk0:k0<H.length:=aE s.h0;have hkm:km<H.length:=aE s.hm
 have hn2:n≤200:=by have:=hb.n;omega
 have he2:=hb.ne;obtain⟨E,hE⟩:∃E,E=eV ws es m:=⟨_,rfl⟩;rw[←hE];unfold eV at hE;have cc:=clone64 ws f (by omega)
 have sN:∀(rm:List Int) (G:List B),(∀bl∈G,rbB (H.length+1+G.length) bl)→SAt (H++(B.buf 2 1 (inL rm) false::G)) k0 km f g ws es n m lf:=fun rm G hG=>s.app (B.buf 2 1 (inL rm) false::G) (by
  intro bl h
  rcases List.mem_cons.1 h with rfl | h
  ·exact(rbB_buf1 (iO _)).2 trivial
  ·exact rbBM (by simp;omega) (hG bl h))
 refine aD tok Tryz.func147 rfl rfl ?_;refine wx ?_;simp -implicitDefEqProofs -dsimp[Tryz.f147,List.replicate,h0,LLn,Ln];refine(callO cc (by simp)).mono ?_;rintro r H' ⟨e0,z0,xs0,rfl,rfl,hp0,rfl,rfl,rfl⟩;have hin:ws.map aW=inL ws:=rfl;have s1:=sN ws [] (by simp);have h01:=s1.h0
 have hil:(inL ws).length=n:=by rw[eu,hlw]
 simp -implicitDefEqProofs -dsimp[hin,h01,hil,LLn,Ln];refine aK (eY 151 2 [5] (by simp) (W_loopM 81 [5,6,7,8,9,11,13,26,27,28,29,30,31,32,33,34,35,36,37,38,39,40,41,42,43,44,45,46,47,48,49,50,51,52,53,54,55,56,57,58,59,60,61,62,63,64,65,66,67,68,69,70,71,72,73,74,75,76,77,78,79,80] (by simp[mB]<;>rfl) (σ:=Nat×List Int×List Shr×Int) (fun p=>p.1≤es.length∧p.2.2.1++(dS m (es.drop p.1) p.1 p.2.1).1=E.1∧p.2.2.2+(dS m (es.drop p.1) p.1 p.2.1).2=E.2∧rmOk n (p.1*200000000) p.2.1∧(∀v<n,m.getD v 0=0→0≤p.2.1.getD v 0)∧0≤p.2.2.2∧p.2.2.2≤p.1*1000000∧p.2.2.1.length≤p.1) (fun p=>es.length-p.1) (fun p=>[(26,.int .i64 p.1),(5,.buf (H.length+1) 0 p.2.2.1.length p.2.2.1.length),(6,.int .i64 p.2.2.2)]) (fun p=>H++[.buf 2 1 (inL p.2.1) false,.buf 151 2 (p.2.2.1.map aQ) false]) (0,ws,[],0) ⟨by simp,by rw[List.drop_zero,List.nil_append];rw[hE],by rw[List.drop_zero,Int.zero_add];rw[hE],⟨hlw,fun v hv=>by have:=hb.w v (by omega);simp only;omega⟩,fun v hv _=>by have:=hb.w v (by omega);simp only;omega,by simp,by simp,by simp⟩ (by simp) (by simp) (by simp) ?_));rintro⟨i,rm,out,sm⟩ ⟨hi,hx1,hx2,hr,hr0,hs0,hs1,ho⟩ N Q hN hQ;simp only at hi hx1 hx2 hr hr0 hs0 hs1 ho hN
 have g5:(H++[B.buf 2 1 (inL rm) false,B.buf 151 2 (out.map aQ) false])[H.length+1]?=some (B.buf 151 2 (out.map aQ) false):=by simp
 by_cases hbi:i<es.length
 ·rw[List.drop_eq_getElem_cons hbi,dS]at hx1 hx2;have hmem:=List.getElem_mem hbi;obtain⟨e1,e2,e3⟩:=hb.ed es[i] hmem;have e4:=hb.ed.len es[i] hmem;obtain⟨e,he⟩:∃e,e=es[i]:=⟨_,rfl⟩;rw[←he]at hx1 hx2 e1 e2 e3 e4;have hei:=he.symm;have s2:=sN rm [B.buf 151 2 (out.map aQ) false] (by intro bl h;rcases List.mem_cons.1 h with rfl | h;exact rb_sh _ _;cases h);have ch:=has_h s2 e false 1 (by omega) (fun v hv=>by have:=e3 v hv;omega);simp only[Ln]at ch;have g0:=s2.h0;have gm:=s2.hm
  cases hh:gE m 1 e with
  | true =>
   rw[hh]at ch;rw[if_pos hh]at hx1 hx2;refine wx ?_;simp -implicitDefEqProofs -dsimp[hbi,hei,LLn,Ln];refine bK ch ?_;rintro _ _ ⟨rfl,rfl⟩;simp -implicitDefEqProofs -dsimp[aJ i (by omega),LLn,Ln];refine hN (i+1,rm,out,sm) _ _ ⟨by simp only;omega,hx1,hx2,⟨hr.1,fun v hv=>by have:=hr.2 v hv;simp only;omega⟩,hr0,hs0,by simp only;omega,by simp only;omega⟩ (by simp only;omega) (by simp) ⟨[],by simp⟩ (by simp[L1];omega) s2.rb
  | false =>
   rw[hh]at ch;rw[if_neg (by simp[hh])]at hx1 hx2;obtain⟨q1,q2,q3,q4⟩:=pM (m:=m) e2 (fun v hv=>by have:=e3 v hv;omega) hr.1 hr0;obtain⟨A,hA⟩:∃A,A=gQ m rm e 1000000:=⟨_,rfl⟩;rw[←hA]at hx1 hx2 q1 q2 q3 q4;refine wx ?_;simp -implicitDefEqProofs -dsimp[hbi,hei,LLn,Ln];refine bK ch ?_;rintro _ _ ⟨rfl,rfl⟩;simp -implicitDefEqProofs -dsimp[LLn,Ln];refine aK (W_loopM 55 [9,11,36,37,38,39,40,41,42,43,44,45,46,47,48,49,50,51,52,53,54] (by simp[mB]<;>rfl) (σ:=Nat×Int) (fun q=>q.1≤e.length∧gQ m rm (e.drop q.1) q.2=A∧0≤q.2∧q.2≤1000000) (fun q=>e.length-q.1) (fun q=>[(36,.int .i64 q.1),(9,.int .i64 q.2)]) (fun _=>H++[.buf 2 1 (inL rm) false,.buf 151 2 (out.map aQ) false]) (0,1000000) ⟨by simp,by rw[List.drop_zero];exact hA.symm,by simp,by simp⟩ (by simp) (by simp) (by simp) ?_);rintro⟨k,a⟩ ⟨hk,hy,ha0,ha1⟩ N2 Q2 hN2 hQ2;simp only at hk hy ha0 ha1 hN2;by_cases hbk:k<e.length
   ·rw[List.drop_eq_getElem_cons hbk,gQ]at hy;have hvn:=e3 e[k] (List.getElem_mem hbk);obtain⟨v,hv⟩:∃v,v=e[k]:=⟨_,rfl⟩;rw[←hv]at hy hvn;have hev:=hv.symm
    have hvn2:v<n:=by omega
    have hat:=fun h=>bQ (m:=m) (x:=v) h
    have hgl:=fun h=>ev (m:=rm) (x:=v) h
    have hll:=eu rm;have hl1:=hr.1
    have g9:(H++[B.buf 2 1 (inL rm) false,B.buf 151 2 (out.map aQ) false])[H.length]?=some (B.buf 2 1 (inL rm) false):=by simp
    obtain⟨z1,z2⟩:=hr.2 v hvn2;have hr0v:=hr0 v hvn2;obtain⟨mc,hmc⟩:∃mc,mc=m.getD v 0:=⟨_,rfl⟩;rw[←hmc]at hat hy hr0v;obtain⟨z,hz⟩:∃z,z=rm.getD v 0:=⟨_,rfl⟩;rw[←hz]at hgl hy z1 z2 hr0v;by_cases h00:mc=0
    ·subst h00;rw[if_pos rfl]at hy;have hr0z:=hr0v rfl;by_cases hlt:z<a
     ·rw[show min a z=z by omega]at hy;refine wx ?_;simp -implicitDefEqProofs -dsimp[hbk,hev,eN,g0,gm,hat,hnl,hlm,hvn2,g9,hgl,hll,hl1,hlt,LLn,Ln];simp -implicitDefEqProofs -dsimp[aJ k (by omega),hlt,LLn,Ln];refine hN2 (k+1,z) _ _ ⟨by simp only;omega,hy,hr0z,by simp only;omega⟩ (by simp only;omega) (by simp) ⟨[],by simp⟩ (by simp[L1];omega) s2.rb
     ·rw[show min a z=a by omega]at hy;refine wx ?_;simp -implicitDefEqProofs -dsimp[hbk,hev,eN,g0,gm,hat,hnl,hlm,hvn2,g9,hgl,hll,hl1,hlt,LLn,Ln];simp -implicitDefEqProofs -dsimp[aJ k (by omega),hlt,LLn,Ln];refine hN2 (k+1,a) _ _ ⟨by simp only;omega,hy,ha0,ha1⟩ (by simp only;omega) (by simp) ⟨[],by simp⟩ (by simp[L1];omega) s2.rb
    ·rw[if_neg h00]at hy;refine wx ?_;simp -implicitDefEqProofs -dsimp[hbk,hev,eN,g0,gm,hat,hnl,hlm,hvn2,h00,show ¬((mc:Int)=0) by omega,LLn,Ln];simp -implicitDefEqProofs -dsimp[aJ k (by omega),LLn,Ln];refine hN2 (k+1,a) _ _ ⟨by simp only;omega,hy,ha0,ha1⟩ (by simp only;omega) (by simp) ⟨[],by simp⟩ (by simp[L1];omega) s2.rb
   ·rw[show e.drop k=[] from List.drop_of_length_le (by omega),gQ]at hy;subst hy;by_cases ha:a=0
    ·subst ha;rw[if_pos rfl]at hx1 hx2;refine wx ?_;simp -implicitDefEqProofs -dsimp[hbk,LLn,Ln];refine hQ2 _ _ _ ?_;simp -implicitDefEqProofs -dsimp[aJ i (by omega),LLn,Ln];refine hN (i+1,rm,out,sm) _ _ ⟨by simp only;omega,hx1,hx2,⟨hr.1,fun v hv=>by have:=hr.2 v hv;simp only;omega⟩,hr0,hs0,by simp only;omega,by simp only;omega⟩ (by simp only;omega) (by simp) ⟨[],by simp⟩ (by simp[L1];omega) s2.rb
    ·rw[if_neg ha]at hx1 hx2;obtain⟨R,hR⟩:∃R,R=mq a e rm:=⟨_,rfl⟩;rw[←hR]at hx1 hx2 q1 q2;refine wx ?_;simp -implicitDefEqProofs -dsimp[hbk,LLn,Ln];refine hQ2 _ _ _ ?_;simp -implicitDefEqProofs -dsimp[ha,LLn,Ln];refine aK (W_loopM 71 [13,59,60,61,62,63,64,65,66,67,68,69,70] (by simp[mB]<;>rfl) (σ:=Nat×List Int) (fun q=>q.1≤e.length∧mq a (e.drop q.1) q.2=R∧rmOk n (i*200000000+q.1*1000000) q.2) (fun q=>e.length-q.1) (fun q=>[(59,.int .i64 q.1)]) (fun q=>H++[.buf 2 1 (inL q.2) false,.buf 151 2 (out.map aQ) false]) (0,rm) ⟨by simp,by rw[List.drop_zero];exact hR.symm,by simpa using hr⟩ (by simp) (by simp) (by simp) ?_);rintro⟨k3,rm3⟩ ⟨hk3,hy3,hr3⟩ N3 Q3 hN3 hQ3;simp only at hk3 hy3 hr3 hN3;by_cases hbk3:k3<e.length
     ·rw[List.drop_eq_getElem_cons hbk3,mq]at hy3;have hvn:=e3 e[k3] (List.getElem_mem hbk3);obtain⟨v,hv⟩:∃v,v=e[k3]:=⟨_,rfl⟩;rw[←hv]at hy3 hvn;have hev:=hv.symm
      have hvn2:v<n:=by omega
      have hgl:=fun h=>ev (m:=rm3) (x:=v) h
      have hll:=eu rm3;have hl1:=hr3.1
      have g9:(H++[B.buf 2 1 (inL rm3) false,B.buf 151 2 (out.map aQ) false])[H.length]?=some (B.buf 2 1 (inL rm3) false):=by simp
      obtain⟨z1,z2⟩:=hr3.2 v hvn2;have hset:=hr3.set (A':=(i:Int)*200000000+((k3+1:Nat):Int)*1000000) (by omega) hvn2 (a:=a) (by omega) (by omega);have hst:=ll rm3 v (rm3.getD v 0-a);obtain⟨rm4,hrm4⟩:∃rm4,rm4=rm3.set v (rm3.getD v 0-a):=⟨_,rfl⟩;rw[←hrm4]at hy3 hset hst;obtain⟨z,hz⟩:∃z,z=rm3.getD v 0:=⟨_,rfl⟩;rw[←hz]at hgl hst z1 z2;have hw2:IntKind.i64.wrap (z-a)=z-a:=wrap64 (by omega) (by omega)
      have hs9:(H++[B.buf 2 1 (inL rm3) false,B.buf 151 2 (out.map aQ) false]).set H.length (B.buf 2 1 (inL rm4) false)=H++[B.buf 2 1 (inL rm4) false,B.buf 151 2 (out.map aQ) false]:=by simp[List.set_append_right]
      have s4:=sN rm4 [B.buf 151 2 (out.map aQ) false] (by intro bl h;rcases List.mem_cons.1 h with rfl | h;exact rb_sh _ _;cases h);refine wx ?_;simp -implicitDefEqProofs -dsimp[hbk3,hev,eN,hvn2,g9,hgl,hll,hl1,hw2,hst,hs9,LLn,Ln];simp -implicitDefEqProofs -dsimp[aJ k3 (by omega),LLn,Ln];refine hN3 (k3+1,rm4) _ _ ⟨by simp only;omega,hy3,hset⟩ (by simp only;omega) (by simp) ⟨[],by simp⟩ (by simp[L1];omega) s4.rb
     ·rw[show e.drop k3=[] from List.drop_of_length_le (by omega),mq]at hy3;subst hy3
      have g5b:(H++[B.buf 2 1 (inL rm3) false,B.buf 151 2 (out.map aQ) false])[H.length+1]?=some (B.buf 151 2 (out.map aQ) false):=by simp
      have hs5:(H++[B.buf 2 1 (inL rm3) false,B.buf 151 2 (out.map aQ) false]).set (H.length+1) (B.buf 151 2 ((out++[(⟨(i:Int),a⟩:Shr)]).map aQ) false)=H++[B.buf 2 1 (inL rm3) false,B.buf 151 2 ((out++[(⟨(i:Int),a⟩:Shr)]).map aQ) false]:=by simp[List.set_append_right]
      have hoa:out.map aQ++[.agg [.int .i64 (i:Int),.int .i64 a]]=(out++[(⟨(i:Int),a⟩:Shr)]).map aQ:=by simp[aQ]
      have s6:=sN rm3 [B.buf 151 2 ((out++[(⟨(i:Int),a⟩:Shr)]).map aQ) false] (by intro bl h;rcases List.mem_cons.1 h with rfl | h;exact rb_sh _ _;cases h);have hw6:IntKind.i64.wrap (sm+a)=sm+a:=wrap64 (by omega) (by omega);refine wx ?_;simp -implicitDefEqProofs -dsimp[hbk3,LLn,Ln];refine hQ3 _ _ _ ?_;simp -implicitDefEqProofs -dsimp[g5b,hoa,hs5,hw6,aJ i (by omega),show out.length≤9223372036854775806 by omega,show(out.length+1)*16≤140737488355328 by omega,LLn,Ln];refine hN (i+1,rm3,out++[(⟨(i:Int),a⟩:Shr)],sm+a) _ _ ⟨by simp only;omega,by simp only[List.append_assoc,List.cons_append,List.nil_append];exact hx1,by simp only;omega,⟨q1,fun v hv=>by have:=hr3.2 v hv;simp only;omega⟩,q2,by simp only;omega,by simp only;omega,by simp;omega⟩ (by simp only;omega) (by simp) ⟨[],by simp⟩ (by simp[L1];omega) s6.rb
 ·rw[show es.drop i=[] from List.drop_of_length_le (by omega),dS]at hx1 hx2;rw[List.append_nil]at hx1;rw[Int.add_zero]at hx2;refine qb (H.length+1) [5] g5 (by simp) ?_;refine wx ?_;simp -implicitDefEqProofs -dsimp[hbi,LLn,Ln];refine hQ _ _ _ ?_;simp -implicitDefEqProofs -dsimp[LLn,Ln];exact⟨by rw[←hx1];rfl,hx2⟩
end
end
section
def bcl(fl:Bool)(b:Bst):B:=.cells [.lst 1 fl (b.l.map eN),.int .i64 b.w]
theorem bcl_rb(N:Nat)(fl:Bool)(b:Bst):rbB N (bcl fl b):=by
 intro c hc;simp only[List.mem_cons,List.not_mem_nil,or_false]at hc
 rcases hc with rfl | rfl
 ·exact cI (Ln_pure fl b.l) rfl
 ·trivial
section
variable (H:List B) (k0 km kb:Nat) (f g:Bool) (ws:List Int) (es:List (List Nat))
def HS(lf:Int)(m:List Nat)(c:B):List B:=((H.set k0 (scl f g ws es km ws.length lf)).set km (.buf 3 1 (nuL m) false)).set kb c
end
structure BOk (H:List B) (k0 km kb:Nat):Prop where
 l0:k0<H.length
 lm:km<H.length
 lb:kb<H.length
 n0:km≠k0
 n1:kb≠k0
 n2:kb≠km
 rb:∀bl∈H,rbB H.length bl
section
variable {H:List B} {k0 km kb:Nat} {f g:Bool} {ws:List Int} {es:List (List Nat)} {lf:Int} {m:List Nat} {c:B}
theorem cq:(HS H k0 km kb f g ws es lf m c).length=H.length:=by simp[HS]
theorem BOk.at0(o:BOk H k0 km kb):(HS H k0 km kb f g ws es lf m c)[k0]?=some (.cells [L1 f ws,LLn g es,.buf km 0 ws.length ws.length,.int .i64 lf]):=by
 unfold HS;rw[List.getElem?_set_ne o.n1,List.getElem?_set_ne o.n0,List.getElem?_set_self o.l0];rfl
theorem BOk.atm(o:BOk H k0 km kb):(HS H k0 km kb f g ws es lf m c)[km]?=some (.buf 3 1 (nuL m) false):=by
 unfold HS;rw[List.getElem?_set_ne o.n2,List.getElem?_set_self (by simp;exact o.lm)]
theorem BOk.atb(o:BOk H k0 km kb):(HS H k0 km kb f g ws es lf m c)[kb]?=some c:=by
 unfold HS;rw[List.getElem?_set_self (by simp;exact o.lb)]
theorem BOk.set0(o:BOk H k0 km kb)(lf':Int):(HS H k0 km kb f g ws es lf m c).set k0 (scl f g ws es km ws.length lf')=HS H k0 km kb f g ws es lf' m c:=by
 unfold HS;rw[List.set_comm _ _ o.n1,List.set_comm _ _ o.n0,List.set_set]
theorem BOk.setm(o:BOk H k0 km kb)(m':List Nat):(HS H k0 km kb f g ws es lf m c).set km (.buf 3 1 (nuL m') false)=HS H k0 km kb f g ws es lf m' c:=by
 unfold HS;rw[List.set_comm _ _ o.n2,List.set_set]
theorem BOk.setb(o:BOk H k0 km kb)(c':B):(HS H k0 km kb f g ws es lf m c).set kb c'=HS H k0 km kb f g ws es lf m c':=by
 unfold HS;rw[List.set_set]
theorem BOk.rbs(o:BOk H k0 km kb)(hc:rbB H.length c):∀bl∈HS H k0 km kb f g ws es lf m c,rbB (HS H k0 km kb f g ws es lf m c).length bl:=by
 have h1:=fO o.rb (k:=k0) (b:=scl f g ws es km ws.length lf) (scl_rb f g ws es ws.length lf o.lm);have h2:=fO h1 (k:=km) (b:=.buf 3 1 (nuL m) false) ((rbB_buf1 (cx m)).2 trivial);exact fO h2 (by simpa using hc)
theorem BOk.sat(o:BOk H k0 km kb)(hc:rbB H.length c)(hm:m.length=ws.length):SAt (HS H k0 km kb f g ws es lf m c) k0 km f g ws es ws.length m lf :=
 ⟨o.at0,o.atm,o.rbs hc,hm,rfl,o.n0⟩
theorem lY{ws:List Int}{es:List (List Nat)}{P:Int×Bst} : ∀(k:Nat) (m:List Nat) (lf:Int) (b:Bst) (w:Int),nC ws es k m lf b w=some P→P.1≤lf
 | 0,_,_,_,_,h=>by simp[nC]at h
 | k+1,m,lf,b,w,h=>by
  rw[nC]at h;split at h
  ·cases h
  ·split at h
   ·cases h;simp only;omega
   ·split at h
    ·cases h;simp only;omega
    ·split at h
     ·cases h;simp only;omega
     ·split at h
      ·cases h
      ·rename_i p hp;have h1:=lY (P:=p) k _ _ _ _ hp;have h2:=lY (P:=P) k _ _ _ _ h;omega
theorem chosen_take(m:List Nat)(i:Nat)(h:i<m.length):(List.range (i+1)).filter (fun v=>decide (m.getD v 0=1))=(List.range i).filter (fun v=>decide (m.getD v 0=1))++if m.getD i 0=1 then [i] else []:=by
 rw[List.range_succ,List.filter_append];congr 1;by_cases hq:m.getD i 0=1
 ·rw[if_pos hq,List.filter_cons,if_pos (decide_eq_true hq)];rfl
 ·rw[if_neg hq,List.filter_cons,if_neg (by rw[decide_eq_false hq];simp)];rfl
def QB(H:List B)(k0 km kb:Nat)(f g:Bool)(ws:List Int)(es:List (List Nat))(lf:Int)(m:List Nat)(b:Bst)(H':List B):Prop:=∃fl,H'=HS H k0 km kb f g ws es lf m (bcl fl b)
def QT(H:List B)(k0 km kb:Nat)(f g:Bool)(ws:List Int)(es:List (List Nat))(lf:Int)(m:List Nat)(b:Bst)(H':List B):Prop:=∃fl G,H'=HS H k0 km kb f g ws es lf m (bcl fl b)++G
theorem min_cut{k:FuncId}{args:List V}{H0:List B}{b:Bst}(o:BOk H k0 km kb)(h0:H0.length≤H.length)(hq:bA Tryz.prog k args H0 fun r H'=>r = .bool true∧QT H k0 km kb f g ws es lf m b H'):bA Tryz.prog k args H0 fun r H'=>r = .bool true∧QB H k0 km kb f g ws es lf m b H':=by
 refine(kK (σ:=Bool) (ok:=fun _=>True) (rf:=fun _=>.bool true) (Hf:=fun x=>HS H k0 km kb f g ws es lf m (bcl x b)) (hq.mono fun r H' ⟨h1,fl,G,h2⟩=>⟨fl,trivial,h1,G,h2⟩) (fun x _=>by rw[cq];exact h0) (fun x _=>by simp[rb,rb1]) (fun x _=>o.rbs (bcl_rb _ _ _))).mono ?_;rintro r H' ⟨x,_,h1,h2⟩;exact⟨h1,x,h2⟩
def chT(m:List Nat)(i:Nat):List Nat:=(List.range i).filter fun v=>decide (m.getD v 0=1)
theorem chT_succ(m:List Nat)(i:Nat)(h:i<m.length):chT m (i+1)=chT m i++if m.getD i 0=1 then [i] else []:=chosen_take m i h
theorem chT_len(m:List Nat)(i:Nat):(chT m i).length≤i:=by
 have:=List.length_filter_le (fun v=>decide (m.getD v 0=1)) (List.range i);simpa[chT] using this
theorem HS_append(c:B)(X:B)(k:Nat)(Y:B)(h:k<H.length):(HS H k0 km kb f g ws es lf m c++[X]).set k Y=(HS H k0 km kb f g ws es lf m c).set k Y++[X]:=by
 rw[List.set_append_left _ _ (by rw[cq];exact h)]
theorem minimum_h(o:BOk H k0 km kb)(hb:HsB ws es)(k:Nat):∀(m:List Nat) (lf:Int) (b:Bst) (fl:Bool) (w:Int) (P:Int×Bst),m.length=ws.length→nC ws es k m lf b w=some P→-9000000000000000000≤P.1→lf≤9000000000000000000→0≤w→w≤4000000000000000000-1000000*(k:Int)→
  bA Tryz.prog 106 [.ptr k0 0,.ptr kb 0,.int .i64 w] (HS H k0 km kb f g ws es lf m (bcl fl b)) fun r H'=>r = .bool true∧QB H k0 km kb f g ws es P.1 m P.2 H':=by
 induction k with
 | zero=>intro m lf b fl w P hm h;simp[nC]at h
 | succ k ih =>
  intro m lf b fl w P hm h hP hlf hw0 hw1;have hle:=lY _ _ _ _ _ h;rw[nC]at h
  have hnl:¬lf-1<0:=by
   intro hq;rw[if_pos hq]at h;cases h
  rw[if_neg hnl]at h;refine min_cut o (by rw[cq];exact Nat.le_refl _) ?_;have hcr:=bcl_rb H.length fl b;have s0:=o.sat (f:=f) (g:=g) (ws:=ws) (es:=es) (lf:=lf) (m:=m) hcr hm;have s1:=o.sat (f:=f) (g:=g) (ws:=ws) (es:=es) (lf:=lf-1) (m:=m) hcr hm;have c1:=spend_h s0 (by omega) hlf;rw[o.set0]at c1;rw[decide_eq_true (show 0≤lf-1 by omega)]at c1
  have hes:es.length≤1000000:=by have:=hb.ne;omega
  have hel:∀e∈es,e.length≤1000000:=fun e he=>by have:=hb.ed.len e he;have:=hb.n;omega
  have c2:=dead_h s1 hb.ed hes hel;have c3:=packing_h s1 hb;have c4:=branch_h s1 hb;have hpk:=io (m:=m) hb.ed es 0 ws (by simp) rfl (fun v hv _=>by have:=(hb.w v hv).1;omega);obtain⟨_,_,_,_,p5,p6⟩:=hpk;have he2:=hb.ne;have gb:(HS H k0 km kb f g ws es (lf-1) m (bcl fl b))[kb]?=some (.cells [.lst 1 fl (b.l.map eN),.int .i64 b.w]):=o.atb;have g0:=s1.h0;have gm:=s1.hm;have hml:=aw m;obtain⟨D,hD⟩:∃D,D=gM m es:=⟨_,rfl⟩;rw[←hD]at c2 h
  change 0≤(eV ws es m).2 at p6
  change (eV ws es m).2≤_ at p5
  obtain⟨S,hS⟩:∃S,S=eV ws es m:=⟨_,rfl⟩;rw[←hS]at c3 h p5 p6;have hbr:=mg hb.ed m;obtain⟨br,hbre⟩:∃br,br=brS es m:=⟨_,rfl⟩;rw[←hbre]at c4 h hbr;have hw2:IntKind.i64.wrap (w+S.2)=w+S.2:=wrap64 (by omega) (by omega);refine aD tok Tryz.func106 rfl rfl ?_;refine wx ?_;simp -implicitDefEqProofs -dsimp[Tryz.f106,List.replicate];refine bK c1 ?_;rintro _ _ ⟨rfl,rfl⟩;simp -implicitDefEqProofs -dsimp[];refine bK c2 ?_;rintro _ _ ⟨rfl,rfl⟩
  cases D with
  | true =>
   rw[if_pos rfl]at h;cases h;simp -implicitDefEqProofs -dsimp[];exact⟨fl,[],by rw[List.append_nil]⟩
  | false =>
   rw[if_neg (by simp)]at h;simp -implicitDefEqProofs -dsimp[];refine bK c3 ?_;rintro _ _ ⟨rfl,rfl⟩;by_cases hq:b.w≤w+S.2
   ·rw[if_pos hq]at h;cases h;simp -implicitDefEqProofs -dsimp[gb,hw2,hq];exact⟨fl,[],by rw[List.append_nil]⟩
   ·rw[if_neg hq]at h;simp -implicitDefEqProofs -dsimp[gb,hw2,hq];refine bK c4 ?_;rintro _ _ ⟨rfl,rfl⟩;by_cases hbn:br<0
    ·rw[if_pos hbn]at h;cases h;have hs1:(HS H k0 km kb f g ws es (lf-1) m (bcl fl b)).set kb (.cells [.nilS,.int .i64 b.w])=HS H k0 km kb f g ws es (lf-1) m (.cells [.nilS,.int .i64 b.w]):=o.setb _;have gb1:(HS H k0 km kb f g ws es (lf-1) m (.cells [.nilS,.int .i64 b.w]))[kb]?=some (.cells [.nilS,.int .i64 b.w]):=o.atb;have hs2:(HS H k0 km kb f g ws es (lf-1) m (.cells [.nilS,.int .i64 b.w])).set kb (.cells [.nilS,.int .i64 w])=HS H k0 km kb f g ws es (lf-1) m (.cells [.nilS,.int .i64 w]):=o.setb _;have gb2:(HS H k0 km kb f g ws es (lf-1) m (.cells [.nilS,.int .i64 w]))[kb]?=some (.cells [.nilS,.int .i64 w]):=o.atb;have g02:=o.at0 (f:=f) (g:=g) (ws:=ws) (es:=es) (lf:=lf-1) (m:=m) (c:=.cells [.nilS,.int .i64 w]);have gm2:=o.atm (f:=f) (g:=g) (ws:=ws) (es:=es) (lf:=lf-1) (m:=m) (c:=.cells [.nilS,.int .i64 w]);have hn2:=hb.n;simp -implicitDefEqProofs -dsimp[hbn,gb,hs1,gb1,hs2,g02,gm2,hml,hm];refine aK (co 3 1 [] kb [0] (cs:=[.nilS,.int .i64 w]) gb2 (by simp) (by simp) (W_loopM 65 [10,11,47,48,49,50,51,52,53,54,55,56,57,58,59,60,61,62,63,64] (by simp[mB]<;>rfl) (σ:=Nat) (fun i=>i≤ws.length) (fun i=>ws.length-i) (fun i=>[(47,.int .i64 i)]) (fun i=>HS H k0 km kb f g ws es (lf-1) m (.cells [.buf H.length 0 (chT m i).length (chT m i).length,.int .i64 w])++[.buf 3 1 (nuL (chT m i)) false]) 0 (by omega) (by simp) (by simp[o.setb,cq,chT,nuL]) (by simp[cq]) ?_));intro i hi N Q hN hQ
     have kN:(HS H k0 km kb f g ws es (lf-1) m (.cells [.buf H.length 0 (chT m i).length (chT m i).length,.int .i64 w])++[B.buf 3 1 (nuL (chT m i)) false])[H.length]?=some (B.buf 3 1 (nuL (chT m i)) false):=by
      rw[List.getElem?_append_right (by rw[cq];exact Nat.le_refl _),cq];simp
     have kb1:(HS H k0 km kb f g ws es (lf-1) m (.cells [.buf H.length 0 (chT m i).length (chT m i).length,.int .i64 w])++[B.buf 3 1 (nuL (chT m i)) false])[kb]?=some (.cells [.buf H.length 0 (chT m i).length (chT m i).length,.int .i64 w]):=by
      rw[List.getElem?_append_left (by rw[cq];exact o.lb)];exact o.atb
     have km1:(HS H k0 km kb f g ws es (lf-1) m (.cells [.buf H.length 0 (chT m i).length (chT m i).length,.int .i64 w])++[B.buf 3 1 (nuL (chT m i)) false])[km]?=some (.buf 3 1 (nuL m) false):=by
      rw[List.getElem?_append_left (by rw[cq];exact o.lm)];exact o.atm
     have hcl:=chT_len m i;by_cases hbi:i<ws.length
     ·have hat:=fun h=>bQ (m:=m) (x:=i) h
      have hsu:=chT_succ m i (by omega);obtain⟨mc,hmc⟩:∃mc,mc=m.getD i 0:=⟨_,rfl⟩;rw[←hmc]at hat hsu
      have srb:∀(j:Nat) (l:List Nat),∀bl∈HS H k0 km kb f g ws es (lf-1) m (.cells [.buf H.length 0 j j,.int .i64 w])++[B.buf 3 1 (nuL l) false],rbB (HS H k0 km kb f g ws es (lf-1) m (.cells [.buf H.length 0 j j,.int .i64 w])++[B.buf 3 1 (nuL l) false]).length bl:=fun j l=>by
       intro bl hbl;have h1:=fO o.rb (k:=k0) (b:=scl f g ws es km ws.length (lf-1)) (scl_rb f g ws es ws.length (lf-1) o.lm);have h2:=fO h1 (k:=km) (b:=.buf 3 1 (nuL m) false) ((rbB_buf1 (cx m)).2 trivial);rw[List.length_append,cq]
       rcases List.mem_append.1 hbl with h3 | h3
       ·rcases List.mem_or_eq_of_mem_set h3 with h4 | rfl
        ·exact rbBM (by simp) (h2 bl h4)
        ·simp[rbB,rb,rb1]
       ·rcases List.mem_cons.1 h3 with rfl | h3
        ·exact(rbB_buf1 (cx _)).2 trivial
        ·cases h3
      by_cases hq1:mc=1
      ·subst hq1;rw[if_pos rfl]at hsu
       have hna:nuL (chT m i)++[.int .i64 (i:Int)]=nuL (chT m (i+1)):=by rw[hsu];simp[nuL,eN]
       have hln:(chT m (i+1)).length=(chT m i).length+1:=by rw[hsu];simp
       have hnl1:=aw (chT m i)
       have hsN:(HS H k0 km kb f g ws es (lf-1) m (.cells [.buf H.length 0 (chT m i).length (chT m i).length,.int .i64 w])++[B.buf 3 1 (nuL (chT m i)) false]).set H.length (B.buf 3 1 (nuL (chT m (i+1))) false)=HS H k0 km kb f g ws es (lf-1) m (.cells [.buf H.length 0 (chT m i).length (chT m i).length,.int .i64 w])++[B.buf 3 1 (nuL (chT m (i+1))) false]:=by
        rw[List.set_append_right _ _ (by rw[cq];exact Nat.le_refl _),cq,Nat.sub_self];rfl
       have hsK:(HS H k0 km kb f g ws es (lf-1) m (.cells [.buf H.length 0 (chT m i).length (chT m i).length,.int .i64 w])++[B.buf 3 1 (nuL (chT m (i+1))) false]).set kb (.cells [.buf H.length 0 ((chT m i).length+1) ((chT m i).length+1),.int .i64 w])=HS H k0 km kb f g ws es (lf-1) m (.cells [.buf H.length 0 ((chT m i).length+1) ((chT m i).length+1),.int .i64 w])++[B.buf 3 1 (nuL (chT m (i+1))) false]:=by
        rw[HS_append _ _ _ _ o.lb,o.setb]
       have kb2:(HS H k0 km kb f g ws es (lf-1) m (.cells [.buf H.length 0 (chT m i).length (chT m i).length,.int .i64 w])++[B.buf 3 1 (nuL (chT m (i+1))) false])[kb]?=some (.cells [.buf H.length 0 (chT m i).length (chT m i).length,.int .i64 w]):=by
        rw[List.getElem?_append_left (by rw[cq];exact o.lb)];exact o.atb
       refine wx ?_;simp -implicitDefEqProofs -dsimp[hbi,km1,hat,hml,hm,kb1,kN,hna,hnl1,hsN,hsK,kb2,aJ i (by omega),show(chT m i).length≤9223372036854775806 by omega,show((chT m i).length+1)*8≤140737488355328 by omega];refine hN (i+1) _ _ (by omega) (by omega) (by simp[hln]) ⟨[],by simp[hln]⟩ ?_ (by simp only[hln];exact srb _ _);have h1:=o.l0;have h2:=o.lm;have h3:=o.lb;simp[cq,LSh];omega
      ·rw[if_neg hq1,List.append_nil]at hsu;refine wx ?_;simp -implicitDefEqProofs -dsimp[hbi,km1,hat,hml,hm,hq1,show ¬((mc:Int)=1) by omega,aJ i (by omega)];refine hN (i+1) _ _ (by omega) (by omega) (by simp[hsu]) ⟨[],by simp[hsu]⟩ ?_ (by simp only[hsu];exact srb _ _);have h1:=o.l0;have h2:=o.lm;have h3:=o.lb;simp[cq,LSh];omega
     ·obtain rfl:i=ws.length:=by omega
      have hnu:=aw (chT m ws.length);refine iA H.length [] kb [0] kN kb1 (by simp) (by simp[hnu]) ?_;refine wx ?_;simp -implicitDefEqProofs -dsimp[hbi];refine hQ _ _ _ ?_;simp -implicitDefEqProofs -dsimp[];refine⟨false,[B.buf 3 1 (nuL (chT m ws.length)) true],?_⟩;rw[List.set_append_right _ _ (by rw[cq];exact Nat.le_refl _),cq,Nat.sub_self,show [B.buf 3 1 (nuL (chT m ws.length)) false].set 0 (B.buf 3 1 (nuL (chT m ws.length)) true)=[B.buf 3 1 (nuL (chT m ws.length)) true] from rfl,HS_append _ _ _ _ o.lb,o.setb];unfold bcl chosenL;rw[hm];rfl
    ·rw[if_neg hbn]at h
     rcases hbr with⟨hbr,_⟩ | ⟨hv1,hv2,hv3⟩
     ·exact absurd hbr hbn
     obtain⟨v,rfl⟩:∃v:Nat,br=v:=⟨br.toNat,by omega⟩;rw[Int.toNat_natCast]at hv1 hv3 h;have hwl:=(ah ws 0 hv1).symm;have hwb:=hb.w v hv1;obtain⟨wv,hwv⟩:∃wv,wv=ws.getD v 0:=⟨_,rfl⟩;rw[←hwv]at hwl hwb h;have hww:IntKind.i64.wrap (w+wv)=w+wv:=wrap64 (by omega) (by omega)
     have hm0:m.set v 0=m:=by
      have:m[v]'(by omega)=0:=by rw[←ah m 0 (by omega)];exact hv3
      conv=>rhs;rw[←List.set_getElem_self (show v<m.length by omega)]
      rw[this]
     have hat:=fun h=>bQ (m:=m) (x:=v) h
     rw[hv3]at hat
     have hat1:=fun h=>bQ (m:=m.set v 1) (x:=v) h
     have hat2:=fun h=>bQ (m:=m.set v 2) (x:=v) h
     have nl1:=aw (m.set v 1);have nl2:=aw (m.set v 2);rw[List.length_set]at nl1 nl2;have hst1:(nuL m).set v (.int .i64 1)=nuL (m.set v 1):=cW m v 1;have hst2:(nuL (m.set v 1)).set v (.int .i64 2)=nuL (m.set v 2):=(cW (m.set v 1) v 2).trans (by rw[List.set_set]);have hst3:(nuL (m.set v 2)).set v (.int .i64 0)=nuL m:=(cW (m.set v 2) v 0).trans (by rw[List.set_set,hm0]);have k1:=o.setm (f:=f) (g:=g) (ws:=ws) (es:=es) (lf:=lf-1) (m:=m) (c:=bcl fl b) (m.set v 1);have k10:=o.at0 (f:=f) (g:=g) (ws:=ws) (es:=es) (lf:=lf-1) (m:=m.set v 1) (c:=bcl fl b)
     cases hp:nC ws es k (m.set v 1) (lf-1) b (w+wv) with
     | none=>rw[hp]at h;cases h
     | some p =>
      rw[hp]at h;simp only at h;have l1:=lY _ _ _ _ _ hp;have l2:=lY _ _ _ _ _ h;have i1:=ih (m.set v 1) (lf-1) b fl (w+wv) p (by simp[hm]) hp (by omega) (by omega) (by omega) (by omega);simp -implicitDefEqProofs -dsimp[hbn,g0,gm,hat,hml,hm,hv1,hst1,k1,k10,hwl,hww,L1,aW];refine bK i1 ?_;rintro _ _ ⟨rfl,fl1,rfl⟩;have j0:=o.at0 (f:=f) (g:=g) (ws:=ws) (es:=es) (lf:=p.1) (m:=m.set v 1) (c:=bcl fl1 p.2);have jm:=o.atm (f:=f) (g:=g) (ws:=ws) (es:=es) (lf:=p.1) (m:=m.set v 1) (c:=bcl fl1 p.2);have js:=o.setm (f:=f) (g:=g) (ws:=ws) (es:=es) (lf:=p.1) (m:=m.set v 1) (c:=bcl fl1 p.2) (m.set v 2);have i2:=ih (m.set v 2) p.1 p.2 fl1 w P (by simp[hm]) h hP (by omega) hw0 (by omega);simp -implicitDefEqProofs -dsimp[j0,jm,hat1,nl1,hm,hv1,hst2,js];refine bK i2 ?_;rintro _ _ ⟨rfl,fl2,rfl⟩;have n0:=o.at0 (f:=f) (g:=g) (ws:=ws) (es:=es) (lf:=P.1) (m:=m.set v 2) (c:=bcl fl2 P.2);have nm:=o.atm (f:=f) (g:=g) (ws:=ws) (es:=es) (lf:=P.1) (m:=m.set v 2) (c:=bcl fl2 P.2);have ns:=o.setm (f:=f) (g:=g) (ws:=ws) (es:=es) (lf:=P.1) (m:=m.set v 2) (c:=bcl fl2 P.2) m;simp -implicitDefEqProofs -dsimp[n0,nm,hat2,nl2,hm,hv1,hst3,ns];exact⟨fl2,[],by rw[List.append_nil]⟩
end
end
section
def shV:List Shr→V
 | []=>.nilS
 | x::l=>.lst 2 false (aQ x::l.map aQ)
def iT(x:Nde):V:=.agg [.int .i64 x.v,shV x.l]
@[simp] theorem shV_pure (l:List Shr):AM.Pure (shV l):=by cases l<;>simp[shV]
theorem shV_one(l:List Shr):(shV l).one=true:=by cases l<;>rfl
@[simp] theorem encNp_pure (x:Nde):AM.Pure (iT x):=by
 unfold iT;simp[shV_one]
theorem encNp_ok(x:Nde):AM.Pure (iT x)∧dm (iT x)=true∧(iT x).cells.length=2:=by
 refine⟨encNp_pure x,?_,rfl⟩;show([V.int .i64 x.v,shV x.l]:List V).all V.one=true;rw[List.all_cons,List.all_cons,shV_one];rfl
theorem kI(l:List Nde):∀x∈l.map iT,AM.Pure x∧dm x=true∧x.cells.length=2:=fun x hx=>by
 obtain⟨y,_,rfl⟩:=List.mem_map.1 hx;exact encNp_ok y
def PR(l:List Nde)(r:V):Prop:=∃fl,r = .tup [.lst 2 fl (l.map iT),.int .i64 0]
section
variable {H:List B} {k0 km kb:Nat} {f g:Bool} {ws:List Int} {es:List (List Nat)} {lf:Int} {m:List Nat} {c:B}
def QP(H:List B)(k0 km kb:Nat)(f g:Bool)(ws:List Int)(es:List (List Nat))(lf:Int)(m:List Nat)(c:B)(H':List B):Prop:=∃G,H'=HS H k0 km kb f g ws es lf m c++G
theorem prv_cut{k:FuncId}{args:List V}{H0:List B}{l:List Nde}(o:BOk H k0 km kb)(hc:rbB H.length c)(h0:H0.length≤H.length)(hq:bA Tryz.prog k args H0 fun r H'=>PR l r∧QP H k0 km kb f g ws es lf m c H'):bA Tryz.prog k args H0 fun r H'=>PR l r∧H'=HS H k0 km kb f g ws es lf m c:=by
 refine(kK (σ:=Bool) (ok:=fun _=>True) (rf:=fun x=>.tup [.lst 2 x (l.map iT),.int .i64 0]) (Hf:=fun _=>HS H k0 km kb f g ws es lf m c) (hq.mono fun r H' ⟨⟨fl,h1⟩,G,h2⟩=>⟨fl,trivial,h1,G,h2⟩) (fun x _=>by rw[cq];exact h0) (fun x _=>?_) (fun x _=>o.rbs hc)).mono ?_
 ·intro y hy;simp only[List.mem_cons,List.not_mem_nil,or_false]at hy
  rcases hy with rfl | rfl
  ·intro z hz;exact(kI l z hz).1
  ·trivial
 ·rintro r H' ⟨x,_,h1,h2⟩;exact⟨⟨x,h1⟩,h2⟩
theorem lS{ws:List Int}{es:List (List Nat)}{P:List Nde×Int} : ∀(k:Nat) (m:List Nat) (lf b:Int),iK ws es k m lf b=some P→P.2≤lf
 | 0,_,_,_,h=>by simp[iK]at h
 | k+1,m,lf,b,h=>by
  rw[iK]at h;split at h
  ·cases h
  ·split at h
   ·cases h;simp only;omega
   ·split at h
    ·cases h;simp only;omega
    ·split at h
     ·cases h
     ·split at h
      ·cases h
      ·rename_i p hp;split at h
       ·cases h
       ·rename_i q hq;have h1:=lS (P:=p) k _ _ _ hp;have h2:=lS (P:=q) k _ _ _ hq;cases h;simp only;omega
theorem prove_h(o:BOk H k0 km kb)(hc:rbB H.length c)(hb:HsB ws es)(k:Nat):∀(m:List Nat) (lf b:Int) (P:List Nde×Int),m.length=ws.length→iK ws es k m lf b=some P→-9000000000000000000≤P.2→lf≤9000000000000000000→b≤4000000000000000000→-4000000000000000000+1000000*(k:Int)≤b→P.1.length≤1000000 →
  bA Tryz.prog 108 [.ptr k0 0,.int .i64 b] (HS H k0 km kb f g ws es lf m c) fun r H'=>PR P.1 r∧H'=HS H k0 km kb f g ws es P.2 m c:=by
 induction k with
 | zero=>intro m lf b P hm h;simp[iK]at h
 | succ k ih =>
  intro m lf b P hm h hP hlf hb1 hb0 hPl;have hle:=lS _ _ _ _ h;rw[iK]at h
  have hnl:¬lf-1<0:=by
   intro hq;rw[if_pos hq]at h;cases h
  rw[if_neg hnl]at h;refine prv_cut o hc (by rw[cq];exact Nat.le_refl _) ?_;have s0:=o.sat (f:=f) (g:=g) (ws:=ws) (es:=es) (lf:=lf) (m:=m) hc hm;have s1:=o.sat (f:=f) (g:=g) (ws:=ws) (es:=es) (lf:=lf-1) (m:=m) hc hm;have c1:=spend_h s0 (by omega) hlf;rw[o.set0]at c1;rw[decide_eq_true (show 0≤lf-1 by omega)]at c1
  have hes:es.length≤1000000:=by have:=hb.ne;omega
  have hel:∀e∈es,e.length≤1000000:=fun e he=>by have:=hb.ed.len e he;have:=hb.n;omega
  have c2:=dead_h s1 hb.ed hes hel;have c3:=packing_h s1 hb;have c4:=branch_h s1 hb;obtain⟨_,p2,_,_,p5,p6⟩:=io (m:=m) hb.ed es 0 ws (by simp) rfl (fun v hv _=>by have:=(hb.w v hv).1;omega);have g0:=s1.h0;have gm:=s1.hm;have hml:=aw m;obtain⟨D,hD⟩:∃D,D=gM m es:=⟨_,rfl⟩;rw[←hD]at c2 h
  change jN (eV ws es m).1=(eV ws es m).2 at p2
  obtain⟨S,hS⟩:∃S,S=eV ws es m:=⟨_,rfl⟩;rw[←hS]at c3 h p2;have hbr:=mg hb.ed m;obtain⟨br,hbre⟩:∃br,br=brS es m:=⟨_,rfl⟩;rw[←hbre]at c4 h hbr;refine aD tok Tryz.func108 rfl rfl ?_;refine wx ?_;simp -implicitDefEqProofs -dsimp[Tryz.f108,List.replicate];refine bK c1 ?_;rintro _ _ ⟨rfl,rfl⟩;by_cases hq0:b≤0
  ·rw[if_pos (.inl hq0)]at h;cases h;simp -implicitDefEqProofs -dsimp[hq0];exact⟨⟨true,rfl⟩,[],by rw[List.append_nil]⟩
  ·simp -implicitDefEqProofs -dsimp[hq0];refine bK c2 ?_;rintro _ _ ⟨rfl,rfl⟩
   cases D with
   | true =>
    rw[if_pos (.inr rfl)]at h;cases h;simp -implicitDefEqProofs -dsimp[];exact⟨⟨true,rfl⟩,[],by rw[List.append_nil]⟩
   | false =>
    rw[if_neg (by rintro(h | h);exact hq0 h;cases h)]at h;simp -implicitDefEqProofs -dsimp[];refine bK c3 ?_;rintro _ _ ⟨rfl,rfl⟩;by_cases hq:b≤S.2
    ·rw[if_pos hq]at h;cases h;obtain⟨S1,S2⟩:=S
     cases S1 with
     | nil=>simp only[jN]at p2 hq;omega
     | cons y ys =>
      simp -implicitDefEqProofs -dsimp[hq,LSh,aQ];exact⟨⟨true,by simp[iT,shV,aQ]⟩,[],by rw[List.append_nil]⟩
    ·rw[if_neg hq]at h;simp -implicitDefEqProofs -dsimp[hq,LSh];refine bK c4 ?_;rintro _ _ ⟨rfl,rfl⟩;by_cases hbn:br<0
     ·rw[if_pos hbn]at h;cases h
     rw[if_neg hbn]at h
     rcases hbr with⟨hbr,_⟩ | ⟨hv1,hv2,hv3⟩
     ·exact absurd hbr hbn
     obtain⟨v,rfl⟩:∃v:Nat,br=v:=⟨br.toNat,by omega⟩;rw[Int.toNat_natCast]at hv1 hv3 h;have hwl:=(ah ws 0 hv1).symm;have hwb:=hb.w v hv1;obtain⟨wv,hwv⟩:∃wv,wv=ws.getD v 0:=⟨_,rfl⟩;rw[←hwv]at hwl hwb h;have hww:IntKind.i64.wrap (b-wv)=b-wv:=wrap64 (by omega) (by omega)
     have hm0:m.set v 0=m:=by
      have:m[v]'(by omega)=0:=by rw[←ah m 0 (by omega)];exact hv3
      conv=>rhs;rw[←List.set_getElem_self (show v<m.length by omega)]
      rw[this]
     have hat:=fun h=>bQ (m:=m) (x:=v) h
     rw[hv3]at hat
     have hat1:=fun h=>bQ (m:=m.set v 1) (x:=v) h
     have hat2:=fun h=>bQ (m:=m.set v 2) (x:=v) h
     have nl1:=aw (m.set v 1);have nl2:=aw (m.set v 2);rw[List.length_set]at nl1 nl2;have hst1:(nuL m).set v (.int .i64 1)=nuL (m.set v 1):=cW m v 1;have hst2:(nuL (m.set v 1)).set v (.int .i64 2)=nuL (m.set v 2):=(cW (m.set v 1) v 2).trans (by rw[List.set_set]);have hst3:(nuL (m.set v 2)).set v (.int .i64 0)=nuL m:=(cW (m.set v 2) v 0).trans (by rw[List.set_set,hm0]);have k1:=o.setm (f:=f) (g:=g) (ws:=ws) (es:=es) (lf:=lf-1) (m:=m) (c:=c) (m.set v 1);have k10:=o.at0 (f:=f) (g:=g) (ws:=ws) (es:=es) (lf:=lf-1) (m:=m.set v 1) (c:=c)
     cases hp:iK ws es k (m.set v 1) (lf-1) (b-wv) with
     | none=>rw[hp]at h;cases h
     | some p =>
      rw[hp]at h;simp only at h
      cases hp2:iK ws es k (m.set v 2) p.2 b with
      | none=>rw[hp2]at h;cases h
      | some q =>
       rw[hp2]at h;cases h;simp only[List.length_cons,List.length_append]at hPl;simp only at hP hle;have l1:=lS _ _ _ _ hp;have l2:=lS _ _ _ _ hp2;have i1:=ih (m.set v 1) (lf-1) (b-wv) p (by simp[hm]) hp (by omega) (by omega) (by omega) (by omega) (by omega);have i2:=ih (m.set v 2) p.2 b q (by simp[hm]) hp2 hP (by omega) hb1 (by omega) (by omega);simp -implicitDefEqProofs -dsimp[hbn,g0,gm,hat,hml,hm,hv1,hst1,k1,k10,hwl,hww,L1,aW];refine bK i1 ?_;rintro _ _ ⟨⟨fl1,rfl⟩,rfl⟩;have j0:=o.at0 (f:=f) (g:=g) (ws:=ws) (es:=es) (lf:=p.2) (m:=m.set v 1) (c:=c);have jm:=o.atm (f:=f) (g:=g) (ws:=ws) (es:=es) (lf:=p.2) (m:=m.set v 1) (c:=c);have js:=o.setm (f:=f) (g:=g) (ws:=ws) (es:=es) (lf:=p.2) (m:=m.set v 1) (c:=c) (m.set v 2);simp -implicitDefEqProofs -dsimp[j0,jm,hat1,nl1,hm,hv1,hst2,js];refine bK i2 ?_;rintro _ _ ⟨⟨fl2,rfl⟩,rfl⟩;have n0:=o.at0 (f:=f) (g:=g) (ws:=ws) (es:=es) (lf:=q.2) (m:=m.set v 2) (c:=c);have nm:=o.atm (f:=f) (g:=g) (ws:=ws) (es:=es) (lf:=q.2) (m:=m.set v 2) (c:=c);have ns:=o.setm (f:=f) (g:=g) (ws:=ws) (es:=es) (lf:=q.2) (m:=m.set v 2) (c:=c) m
       have cc:=concat_N [⟨true,[.agg [.int .i64 (v:Int),.nilS]]⟩,⟨fl1,p.1.map iT⟩,⟨fl2,q.1.map iT⟩] true (fun l hl=>by
        simp only[List.mem_cons,List.not_mem_nil,or_false]at hl
        rcases hl with rfl | rfl | rfl
        ·exact kI [⟨(v:Int),[]⟩]
        ·exact kI p.1
        ·exact kI q.1) (by simp) (by simp[cz];omega)
       simp only[List.map_cons,List.map_nil,dU]at cc;simp -implicitDefEqProofs -dsimp[n0,nm,hat2,nl2,hm,hv1,hst3,ns];refine(aF cc (by simp)).mono ?_;rintro r H' ⟨rfl,rfl⟩;simp -implicitDefEqProofs -dsimp[];exact⟨⟨false,by simp[cz,iT,shV]⟩,[],by rw[List.append_nil]⟩
end
end
theorem rel_lst_le{s:AM.St}{z:Nat}{xs ys:List V}{fl:Bool}{u:Value}(h:Rel s (.lst z fl xs) u)(hl:xs.length=ys.length)(hz:∀y∈ys,y.cells.length=z∧∀c∈y.cells,c.one=true)
  (hle:∀(i:Nat) x y,xs[i]?=some x→ys[i]?=some y→∀(j:Nat) c,y.cells[j]?=some c→∃d,x.cells[j]?=some d∧lfB d c):Rel s (.lst z fl ys) u:=by
 cases h with
 | lst _ _ _ A cap b off u hcap hfull hA hz0 hcell hrel =>
  rw[hl];refine .lst z fl ys A cap b off u (by omega) (fun h=>by rw[←hl];exact hfull h) (fun h=>hA (by omega)) hz (fun i y j c hy hc=>?_) (fun i y j c hy hc=>?_)
  ·have hx:xs[i]?=some (xs[i]'(by have:=aE hy;omega)):=List.getElem?_eq_getElem _;obtain⟨d,hd,_⟩:=hle i _ y hx hy j c hc;exact hcell i _ j d hx hd
  ·have hx:xs[i]?=some (xs[i]'(by have:=aE hy;omega)):=List.getElem?_eq_getElem _;obtain⟨d,hd,h2⟩:=hle i _ y hx hy j c hc;exact nE (hrel i _ j d hx hd) h2
theorem nP{P:Program}{f:FuncId}{args:List V}{K K':V→Prop}(h:aR P f args K)(hk:∀s u r,K r→Rel s r u→∃r',Rel s r' u∧AM.Pure r'∧K' r'):aR P f args K':=by
 refine⟨h.1,fun F w vals hZ hF hsz hrel=>(h.2 F w vals hZ hF hsz hrel).mono fun e w' ⟨u,r,a1,a2,a3,a4,a5⟩=>?_⟩;obtain⟨r',b1,b2,b3⟩:=hk _ u r a5 a3;exact⟨u,r',a1,b2,b1,a4,b3⟩
theorem shV_lf(l:List Shr):lfB (shV l) (LSh false l):=by
 cases l with
 | nil=>exact .inr (.inr ⟨2,rfl,rfl⟩)
 | cons x l=>exact .inl rfl
theorem rel_nodes{s:AM.St}{fl:Bool}{l:List Nde}{u:Value}(h:Rel s (.lst 2 fl (l.map iT)) u):Rel s (LNd fl l) u:=by
 refine rel_lst_le h (by simp) (fun y hy=>?_) (fun i x y hx hy j c hc=>?_)
 ·obtain⟨z,_,rfl⟩:=List.mem_map.1 hy;refine⟨rfl,fun c hc=>?_⟩;simp only[aa,V.cells,List.mem_cons,List.not_mem_nil,or_false]at hc
  rcases hc with rfl | rfl<;>rfl
 ·rw[List.getElem?_map]at hx hy
  cases hz:l[i]? with
  | none=>rw[hz]at hx;cases hx
  | some z =>
   rw[hz]at hx hy;simp only[Option.map_some,Option.some.injEq]at hx hy;subst hx;subst hy
   match j with
   | 0=>simp[aa,V.cells]at hc;subst hc;exact⟨_,rfl,.inl rfl⟩
   | 1=>simp[aa,V.cells]at hc;subst hc;exact⟨_,rfl,shV_lf z.l⟩
   | j+2=>simp[aa,V.cells]at hc
def PN(l:List Nde)(r:V):Prop:=∃fl,r = .tup [LNd fl l,.int .i64 0]
theorem prove_u{ws:List Int}{es:List (List Nat)}(hb:HsB ws es)(f g:Bool)(b lf:Int)(P:List Nde×Int)(h:iK ws es (ws.length+1) (List.replicate ws.length 0) lf b=some P)(h1:1≤lf)(h2:lf≤9000000000000000000)(h3 : -1000000000000000≤b)(h4:b≤1000000000000000)(hP : -9000000000000000000≤P.2)(hl:P.1.length≤1000000):
  aR Tryz.prog 65 [ab f g ws es,.int .i64 b,.int .i64 lf] (PN P.1):=by
 refine nP (K:=PR P.1) ?_ (fun s u r ⟨fl,hr⟩ hrel=>?_)
 ·have hel:∀e∈es,e.length≤1000000:=fun e he=>by have:=hb.ed.len e he;have:=hb.n;omega
  have cv:=lp ws es f g hel;rw[fY.2 hb]at cv
  have hr0:∀bl∈[B.cells [L1 f ws,LLn g es]],rbB [B.cells [L1 f ws,LLn g es]].length bl:=by
   intro bl hb;simp at hb;subst hb;intro c hc;simp at hc;rcases hc with rfl | rfl<;>exact cI (by simp) rfl
  have c1:=jZ [B.cells [L1 f ws,LLn g es]] f g ws es lf hb.n;have sa:=nsH_at hr0 f g ws es lf;have o:BOk (nsH [B.cells [L1 f ws,LLn g es]] f g ws es lf) 3 2 0:=⟨by simp[nsH],by simp[nsH],by simp[nsH],by omega,by omega,by omega,sa.rb⟩;have c2:=prove_h (c:=B.cells [L1 f ws,LLn g es]) (f:=f) (g:=g) o (rbBM (by simp[nsH]) (hr0 _ (by simp))) hb (ws.length+1) (List.replicate ws.length 0) lf b P (by simp) h hP h2 (by omega) (by have:=hb.n;omega) hl;have hH:HS (nsH [B.cells [L1 f ws,LLn g es]] f g ws es lf) 3 2 0 f g ws es lf (List.replicate ws.length 0) (B.cells [L1 f ws,LLn g es])=nsH [B.cells [L1 f ws,LLn g es]] f g ws es lf:=rfl;rw[hH]at c2;simp only[ab]at cv c1;refine aC (aD tok Tryz.func65 rfl rfl ?_);refine wx ?_;simp -implicitDefEqProofs -dsimp[Tryz.f65,List.replicate,ab];refine(aF (cv) (by simp)).mono ?_;rintro r H' ⟨rfl,rfl⟩;simp -implicitDefEqProofs -dsimp[show ¬lf<1 by omega,show ¬b < -1000000000000000 by omega,show ¬1000000000000000<b by omega];refine bK c1 ?_;rintro _ _ ⟨rfl,rfl⟩;simp -implicitDefEqProofs -dsimp[];refine bK c2 ?_;rintro _ _ ⟨⟨fl,rfl⟩,rfl⟩;simp -implicitDefEqProofs -dsimp[];exact⟨fl,rfl⟩
 ·subst hr;refine⟨.tup [LNd fl P.1,.int .i64 0],?_,by simp,fl,rfl⟩
  cases hrel with
  | tup _ us hs h =>
   refine .tup _ us hs (fun i c u hc hu=>?_)
   match i with
   | 0=>simp at hc;subst hc;exact rel_nodes (h 0 _ u rfl hu)
   | 1=>simp at hc;subst hc;exact h 1 _ u rfl hu
   | i+2=>simp at hc
end
end Go.Proofs.YteijbpppalhihaaGreat
namespace Go.Proofs.YteijbpppalhihaaGreat
section
open Go Go.AM Go.RowKit
def ext:bG:=fun f args H=>match f,args with
 | 174,[.str a,.str b]=>some (.int .i64 (nT a b),H)
 | 137,[.nilS,.int .i64 n]=>if n=0 then some (.nilS,H) else if 0≤n∧n≤1000000 then some (.buf H.length 0 0 0,H++[.buf 49 2 [] false]) else none
 | _,_=>none
theorem aj:ao Tryz.prog ext:=fun f args H r H' h=>by
 unfold ext at h;split at h
 ·cases h;rename_i a b;have:=aF (H:=H) (cmp_con a b) (by simp);simpa only[aT,List.append_nil] using this
 ·rename_i n;split at h
  ·rename_i h0;subst h0;cases h;have:=aF (H:=H) grow_nil_C (by simp);simpa only[aT,List.append_nil] using this
  split at h
  ·rename_i hc;cases h;have:=callO (H:=H) (ku n.toNat (by omega)) (by simp);rw[Int.toNat_of_nonneg hc.1]at this
   have h2:=aT.mono this (K':=fun x y=>x = .buf H.length 0 0 0∧y=H++[.buf 49 2 [] false]) (by
    rintro r H' ⟨e,z,xs,rfl,rfl,_,rfl,rfl,rfl⟩
    exact⟨rfl,rfl⟩)
   simpa only[aT,List.append_nil] using h2
  ·cases h
 ·cases h
theorem allNamed:(Tryz.prog.funcs.toList.all fun fn=>!(fn.name == "runtime.NumGoroutine"))=true:=by kernel_rfl
theorem ai:∀(f:Nat) (fn:Func),Tryz.prog.funcs[f]?=some fn→(fn.name == "runtime.NumGoroutine")=false:=fun f fn h=>by
 have:=List.all_eq_true.1 allNamed fn (by rw[Array.mem_toList_iff];exact Array.mem_of_getElem? h);simpa using this
def buf1(H:List B):List V→List V→Option (Nat×Nat×Nat×List V)
 | a::as',b::bs=>if eqV 40 a b=true then buf1 H as' bs else match a with
  | .buf k 0 n m=>match H[k]? with
   | some (.buf e z xs _)=>if n=xs.length∧m=xs.length∧eqV 40 (.lst z false xs) b=true∧eqL (eqV 40) as' bs=true then some (k,e,z,xs) else none
   | _=>none
  | _=>none
 | _,_=>none
theorem repF_refl(p q:V):∀xs:List V,oJ p q xs xs
 | []=>trivial
 | _::xs=>⟨.inl rfl,repF_refl p q xs⟩
theorem buf1_ok{H:List B} : ∀{args ga:List V} {k e z:Nat} {xs:List V},buf1 H args ga=some (k,e,z,xs)→(∃fz,H[k]?=some (.buf e z xs fz))∧oJ (.buf k 0 xs.length xs.length) (.lst z false xs) args ga
 | [],_,_,_,_,_,h=>by simp[buf1]at h
 | _::_,[],_,_,_,_,h=>by simp[buf1]at h
 | a::as',b::bs,k,e,z,xs,h=>by
  unfold buf1 at h;split at h
  ·rename_i he;obtain⟨h1,h2⟩:=buf1_ok h;exact⟨h1,.inl (eP _ _ _ he).symm,h2⟩
  ·split at h
   ·rename_i k' n m;split at h
    ·rename_i e' z' xs' fz hk;split at h
     ·rename_i hc;obtain⟨rfl,rfl,h3,h4⟩:=hc;cases h;refine⟨⟨fz,hk⟩,.inr ⟨rfl,(eP _ _ _ h3).symm⟩,?_⟩;rw[fH (eP 40) h4];exact repF_refl _ _ _
     ·cases h
    ·cases h
   ·cases h
def iz(g:FuncId)(ga:List V)(gr:V)(ext:bG):bG:=fun f args H=>if Nat.beq f g then(if eqL (eqV 40) args ga then some (gr,H) else match buf1 H args ga with
 | some _=>some (gr,H)
 | none=>ext f args H) else ext f args H
def mH(g:FuncId)(ga:List V)(gr:V)(ext:bG):bG:=fun f args H=>if Nat.beq f g then(if eqL (eqV 40) args ga then some (gr,H) else match buf1 H args ga with
 | some (k,e,z,xs)=>some (gr,H.set k (.buf e z xs true))
 | none=>ext f args H) else ext f args H
theorem pure_of_lst{z:Nat}{f:Bool}{xs:List V}(h:AM.Pure (.lst z f xs)):∀x∈xs,AM.Pure x:=by cases h;assumption
theorem cC{ext:bG}(he:ao Tryz.prog ext){g:FuncId}{ga:List V}{gr:V}(hc:aR Tryz.prog g ga fun x=>x=gr)(hq:∀a∈ga,AM.Pure a)(hs:Scalar gr):ao Tryz.prog (iz g ga gr ext):=fun f args H r H' h=>by
 unfold iz at h;split at h
 ·rename_i hf;have hfg:f=g:=Nat.eq_of_beq_eq_true hf;subst hfg;split at h
  ·rename_i ha;have ha:=fH (eP 40) ha;cases h;subst ha;have:=aF (H:=H) hc hq;simpa only[aT,List.append_nil] using this
  ·split at h
   ·rename_i o ho;obtain⟨k,e,z,xs⟩:=o;cases h;obtain⟨⟨fz,hk⟩,hr⟩:=buf1_ok ho
    have:=callX (H:=H) (args:=args) hc hr.len (fun i a a' h1 h2=>by
     have hp:=hq a' (List.mem_of_getElem? h2)
     rcases hr.at_ i a a' h1 h2 with rfl | ⟨rfl,rfl⟩
     ·exact .pure _ hp
     ·exact dK hk rfl (pure_of_lst hp)) hs
    simpa only[aT,List.append_nil] using this
   ·exact he f args H r H' h
 ·exact he f args H r H' h
theorem du{ext:bG}(he:ao Tryz.prog ext){g:FuncId}{ga:List V}{gr:V}(hc:aR Tryz.prog g ga fun x=>x=gr)(hq:∀a∈ga,AM.Pure a):ao Tryz.prog (mH g ga gr ext):=fun f args H r H' h=>by
 unfold mH at h;split at h
 ·rename_i hf;have hfg:f=g:=Nat.eq_of_beq_eq_true hf;subst hfg;split at h
  ·rename_i ha;have ha:=fH (eP 40) ha;cases h;subst ha;have:=aF (H:=H) hc hq;simpa only[aT,List.append_nil] using this
  ·split at h
   ·rename_i k e z xs ho;cases h;obtain⟨⟨fz,hk⟩,hr⟩:=buf1_ok ho;have:=callF (H:=H) (args:=args) k hk hc hr hq;simpa only[aT,List.append_nil] using this
   ·exact he f args H r H' h
 ·exact he f args H r H' h
end
end Go.Proofs.YteijbpppalhihaaGreat
namespace Go.Proofs.YteijbpppalhihaaGreat
section
open Go Go.AM
section
def swp(j:Nat)(l:List Nat):List Nat:=(l.set (j+1) (l.getD j 0)).set j (l.getD (j+1) 0)
def gY(lt:Nat→Nat→Bool):Nat→List Nat→List Nat
 | 0,l=>l
 | j+1,l=>if lt (l.getD (j+1) 0) (l.getD j 0)=true then gY lt j (swp j l) else l
def isF(lt:Nat→Nat→Bool):Nat→Nat→List Nat→List Nat
 | 0,_,l=>l
 | r+1,i,l=>isF lt r (i+1) (gY lt i l)
theorem swp_len(j:Nat)(l:List Nat):(swp j l).length=l.length:=by simp[swp]
theorem swp_perm(j:Nat)(l:List Nat)(h:j+1<l.length):(swp j l).Perm l:=by
 unfold swp;rw[ah l 0 h,ah l 0 (show j<l.length by omega)];exact List.set_set_perm h (by omega)
theorem ig(lt:Nat→Nat→Bool):∀(j:Nat) (l:List Nat),j<l.length→(gY lt j l).Perm l
 | 0,l,_=>.refl _
 | j+1,l,h=>by
  rw[gY];split
  ·exact(ig lt j (swp j l) (by rw[swp_len];omega)).trans (swp_perm j l h)
  ·exact .refl _
theorem ja(lt:Nat→Nat→Bool):∀(r i:Nat) (l:List Nat),i+r≤l.length→(isF lt r i l).Perm l
 | 0,_,l,_=>.refl _
 | r+1,i,l,h=>by
  rw[isF];have h1:=ig lt i l (by omega);exact(ja lt r (i+1) _ (by rw[h1.length_eq];omega)).trans h1
def insB(x:Nat):List Nat→List Nat
 | []=>[x]
 | y::rp=>if x<y then insB x rp++[y] else rp.reverse++[y,x]
def ltN(a b:Nat):Bool:=decide (a<b)
theorem sink_ins(x:Nat):∀(rp post:List Nat),gY ltN rp.length (rp.reverse++x::post)=insB x rp++post
 | [],post=>rfl
 | y::rp,post=>by
  have e:(y::rp).reverse++x::post=rp.reverse++y::x::post:=by simp
  rw[e,List.length_cons,gY,insB]
  have g1:(rp.reverse++y::x::post).getD (rp.length+1) 0=x:=by
   simp[List.getD,List.getElem?_append_right]
  have g2:(rp.reverse++y::x::post).getD rp.length 0=y:=by
   simp[List.getD,List.getElem?_append_right]
  have g3:swp rp.length (rp.reverse++y::x::post)=rp.reverse++x::y::post:=by
   unfold swp;rw[g1,g2,List.set_append_right _ _ (by simp),List.set_append_right _ _ (by simp)];simp
  rw[g1,g2,g3];by_cases h:x<y
  ·rw[if_pos (by simp[ltN,h]),if_pos h,sink_ins x rp (y::post)];simp
  ·rw[if_neg (by simp[ltN,h]),if_neg h];simp
theorem insB_mem(x:Nat):∀(rp:List Nat) (z:Nat),z∈insB x rp↔z=x∨z∈rp
 | [],z=>by simp[insB]
 | y::rp,z=>by
  rw[insB];split
  ·rw[List.mem_append,List.mem_singleton,List.mem_cons,insB_mem x rp z];constructor
   ·rintro((h | h) | h)
    ·exact .inl h
    ·exact .inr (.inr h)
    ·exact .inr (.inl h)
   ·rintro(h | h | h)
    ·exact .inl (.inl h)
    ·exact .inr h
    ·exact .inl (.inr h)
  ·simp only[List.mem_append,List.mem_reverse,List.mem_cons,List.not_mem_nil,or_false];constructor
   ·rintro(h | h | h)<;>simp[h]
   ·rintro(h | h | h)<;>simp[h]
theorem nl(x:Nat):∀rp:List Nat,rp.reverse.Pairwise (·≤·)→(insB x rp).Pairwise (·≤·)
 | [],_=>by simp[insB]
 | y::rp,h=>by
  rw[List.reverse_cons,List.pairwise_append]at h;obtain⟨h1,_,h3⟩:=h;rw[insB];split
  ·rename_i hx;rw[List.pairwise_append];refine⟨nl x rp h1,by simp,fun a ha b hb=>?_⟩;rw[List.mem_singleton]at hb;subst hb
   rcases(insB_mem x rp a).1 ha with rfl | ha
   ·omega
   ·exact h3 a (by simpa using ha) b (by simp)
  ·rename_i hx;rw[List.pairwise_append];refine⟨h1,by simp;omega,fun a ha b hb=>?_⟩;have:=h3 a ha y (by simp);simp at hb
   rcases hb with rfl | rfl<;>omega
theorem pn:∀(r i:Nat) (l:List Nat),i+r=l.length→(l.take i).Pairwise (·≤·)→(isF ltN r i l).Pairwise (·≤·)
 | 0,i,l,h,hs=>by
  rw[isF]
  rwa [List.take_of_length_le (by omega)]at hs
 | r+1,i,l,h,hs=>by
  rw[isF]
  have hi:i<l.length:=by omega
  have e:l=(l.take i).reverse.reverse++l[i]::l.drop (i+1):=by
   rw[List.reverse_reverse,←List.drop_eq_getElem_cons hi,List.take_append_drop]
  have hl:(l.take i).reverse.length=i:=by simp;omega
  have hk:=sink_ins l[i] (l.take i).reverse (l.drop (i+1));rw[hl,←e]at hk
  have hin:(insB l[i] (l.take i).reverse).length=i+1:=by
   have h1:=(ig ltN i l hi).length_eq;rw[hk,List.length_append,List.length_drop]at h1;omega
  refine pn r (i+1) _ (by rw[(ig ltN i l hi).length_eq];omega) ?_;rw[hk,List.take_left' hin];exact nl _ _ (by rwa [List.reverse_reverse])
section
variable {H:List B} {k:Nat}
def SL(H:List B)(k:Nat)(l:List Nat):List B:=H.set k (.buf 3 1 (nuL l) false)
theorem SL_at{H:List B}{k:Nat}(h:k<H.length)(l:List Nat):(SL H k l)[k]?=some (.buf 3 1 (nuL l) false):=by
 unfold SL;rw[List.getElem?_set_self h]
theorem SL_set(H:List B)(k:Nat)(l l':List Nat):(SL H k l).set k (.buf 3 1 (nuL l') false)=SL H k l':=by
 unfold SL;rw[List.set_set]
theorem iB(H:List B)(k:Nat)(l:List Nat):(SL H k l).length=H.length:=by simp[SL]
theorem SL_rb{H:List B}(hH:∀bl∈H,rbB H.length bl)(k:Nat)(l:List Nat):∀bl∈SL H k l,rbB (SL H k l).length bl:=fO hH ((rbB_buf1 (cx l)).2 trivial)
theorem nan_I(x:Int):aR Tryz.prog 170 [.int .i64 x] fun r=>r = .bool false:=by
 refine aC (aD tok Tryz.func170 rfl rfl ?_);refine wx ?_;simp -implicitDefEqProofs -dsimp[Tryz.f170,List.replicate]
theorem less_I(a b:Nat):aR Tryz.prog 211 [.int .i64 (a:Int),.int .i64 (b:Int)] fun r=>r = .bool (ltN a b):=by
 unfold ltN;by_cases h:a<b
 ·rw[decide_eq_true h];refine aC (aD tok Tryz.func211 rfl rfl ?_);refine wx ?_;simp -implicitDefEqProofs -dsimp[Tryz.f211,List.replicate];refine(aF (nan_I a) (by simp)).mono ?_;rintro r H' ⟨rfl,rfl⟩;simp -implicitDefEqProofs -dsimp[h]
 ·rw[decide_eq_false h];refine aC (aD tok Tryz.func211 rfl rfl ?_);refine wx ?_;simp -implicitDefEqProofs -dsimp[Tryz.f211,List.replicate];refine(aF (nan_I a) (by simp)).mono ?_;rintro r H' ⟨rfl,rfl⟩;simp -implicitDefEqProofs -dsimp[h]
theorem insOrd_h(hk:k<H.length)(hH:∀bl∈H,rbB H.length bl)(l:List Nat)(n:Nat)(hn:l.length=n)(hn2:n≤1000000):
  bA Tryz.prog 205 [.buf k 0 n n,.int .i64 0,.int .i64 n] (SL H k l) fun _ H'=>H'=SL H k (isF ltN (n-1) 1 l):=by
 obtain⟨S,hS⟩:∃S,S=isF ltN (n-1) 1 l:=⟨_,rfl⟩;rw[←hS];have w1:IntKind.i64.wrap (1:Int)=1:=wrap64 (by omega) (by omega);refine aD tok Tryz.func205 rfl rfl ?_;refine wx ?_;simp -implicitDefEqProofs -dsimp[Tryz.f205,List.replicate,w1];refine aK (W_loopM 49 [6,7,10,11,12,13,14,15,16,17,18,19,20,21,22,23,24,25,26,27,28,29,30,31,32,33,34,35,36,37,38,39,40,41,42,43,44,45,46,47,48] (by simp[mB]<;>rfl) (σ:=Nat×List Nat) (fun p=>1≤p.1∧p.1≤n+1∧p.2.length=n∧isF ltN (n-p.1) p.1 p.2=S) (fun p=>n+1-p.1) (fun p=>[(6,.int .i64 p.1)]) (fun p=>SL H k p.2) (1,l) ⟨by simp,by simp,hn,hS.symm⟩ (by simp) (by simp) (by simp[iB]) ?_);rintro⟨i,l1⟩ ⟨hi,hi2,hl1,hx⟩ N Q hN hQ;simp only at hi hi2 hl1 hx hN;by_cases hb:i<n
 ·rw[show n-i=(n-(i+1))+1 by omega,isF]at hx;refine wx ?_;simp -implicitDefEqProofs -dsimp[hb];refine aK (W_loopM 49 [7,16,17,18,19,20,21,22,23,24,25,26,27,28,29,30,31,32,33,34,35,36,37,38,39,40,41,42,43,44,45,46,47,48] (by simp[mB]<;>rfl) (σ:=Nat×List Nat) (fun p=>p.1≤i∧p.2.length=n∧gY ltN p.1 p.2=gY ltN i l1) (fun p=>p.1) (fun p=>[(7,.int .i64 p.1)]) (fun p=>SL H k p.2) (i,l1) ⟨by simp,hl1,rfl⟩ (by simp) (by simp) (by simp[iB]) ?_);rintro⟨j,l2⟩ ⟨hj,hl2,hy⟩ N2 Q2 hN2 hQ2;simp only at hj hl2 hy hN2;have g9:=SL_at hk l2;have hnl:=aw l2
  cases j with
  | zero =>
   rw[gY]at hy;refine wx ?_;simp -implicitDefEqProofs -dsimp[];refine .inr ⟨aI (by kernel_rfl),?_⟩;refine hQ2 _ _ _ ?_;simp -implicitDefEqProofs -dsimp[aJ i (by omega)];refine hN (i+1,l2) _ _ ⟨by simp only;omega,by simp only;omega,hl2,by rw[hy];exact hx⟩ (by simp only;omega) (by simp) ⟨[],by simp⟩ (by simp[iB];exact hk) (SL_rb hH k l2)
  | succ j =>
   rw[gY]at hy
   have a1:=fun h=>bQ (m:=l2) (x:=j+1) h
   have a0:=fun h=>bQ (m:=l2) (x:=j) h
   have wj:IntKind.i64.wrap (((j:Int)+1)-1)=(j:Int):=by rw[wrap64 (by omega) (by omega)];omega
   have wj2:IntKind.i64.wrap (j:Int)=(j:Int):=iD j (by omega)
   have hj1:j+1<n:=by omega
   have hj0:j<n:=by omega
   obtain⟨x,hxx⟩:∃x,x=l2.getD (j+1) 0:=⟨_,rfl⟩;obtain⟨y,hyy⟩:∃y,y=l2.getD j 0:=⟨_,rfl⟩;rw[←hxx,←hyy]at hy;rw[←hxx]at a1;rw[←hyy]at a0;have cl:=less_I x y
   cases hq:ltN x y with
   | true =>
    rw[hq]at cl;rw[if_pos hq]at hy;refine wx ?_;simp -implicitDefEqProofs -dsimp[g9,hnl,hl2,hj1,hj0,a1,a0,wj,wj2,show(0:Int)≤(j:Int)+1 by omega,show(j:Int)+1<(n:Int) by omega];refine .inr ⟨aI (by kernel_rfl),?_⟩;refine ae _ (aF (cl) (by simp)) ?_;simp -implicitDefEqProofs -dsimp[]
    have hsw:swp j l2=(l2.set (j+1) y).set j x:=by unfold swp;rw[←hxx,←hyy]
    have hst1:(nuL l2).set (j+1) (.int .i64 (y:Int))=nuL (l2.set (j+1) y):=cW l2 (j+1) y
    have hst2:(nuL (l2.set (j+1) y)).set j (.int .i64 (x:Int))=nuL (swp j l2):=by rw[hsw];exact cW _ j x
    have q9:=SL_at hk (l2.set (j+1) y);have qs1:=SL_set H k l2 (l2.set (j+1) y);have qs2:=SL_set H k (l2.set (j+1) y) (swp j l2);have qnl:=aw (l2.set (j+1) y);rw[List.length_set]at qnl
    have b0:=fun h=>bQ (m:=l2.set (j+1) y) (x:=j) h
    refine aK (am tok mixed [15,17] [(2,[1]),(3,[1]),(4,[1])] [] (by kernel_rfl) fun C K hC hK=>?_);simp -implicitDefEqProofs [g9,hnl,hl2,hj1,hj0,a1,a0,wj,wj2,hst1,hst2,q9,qs1,qs2,qnl,b0,show(0:Int)≤(j:Int)+1 by omega,show(j:Int)+1<(n:Int) by omega];refine hK _ _ ?_;simp -implicitDefEqProofs -dsimp[wj,wj2];refine hN2 (j,swp j l2) _ _ ⟨by simp only;omega,by rw[swp_len];exact hl2,hy⟩ (by simp only;omega) (by simp) ⟨[],by simp⟩ (by simp[iB];exact hk) (SL_rb hH k _)
   | false =>
    rw[hq]at cl;rw[if_neg (by rw[hq];simp)]at hy;refine wx ?_;simp -implicitDefEqProofs -dsimp[g9,hnl,hl2,hj1,hj0,a1,a0,wj,wj2,show(0:Int)≤(j:Int)+1 by omega,show(j:Int)+1<(n:Int) by omega];refine .inr ⟨aI (by kernel_rfl),?_⟩;refine ae _ (aF (cl) (by simp)) ?_;simp -implicitDefEqProofs -dsimp[];refine hQ2 _ _ _ ?_;simp -implicitDefEqProofs -dsimp[aJ i (by omega)];refine hN (i+1,l2) _ _ ⟨by simp only;omega,by simp only;omega,hl2,by rw[hy];exact hx⟩ (by simp only;omega) (by simp) ⟨[],by simp⟩ (by simp[iB];exact hk) (SL_rb hH k l2)
 ·rw[show n-i=0 by omega,isF]at hx;subst hx;refine wx ?_;simp -implicitDefEqProofs -dsimp[hb];refine hQ _ _ _ ?_;simp -implicitDefEqProofs -dsimp[]
end
end
section
def oD(cf:Nat→Nat→Int)(a b:Nat):Bool:=decide (cf a b<0)
section
variable {H:List B} {k:Nat}
theorem insCmp_h(hk:k<H.length)(hH:∀bl∈H,rbB H.length bl)(l:List Nat)(n:Nat)(hn:l.length=n)(hn2:n≤1000000)(fv:V)(hfv:rb H.length fv)(cf:Nat→Nat→Int)(hp:∀a b,a∈l→b∈l→∀l',aT Tryz.prog fv [.int .i64 (a:Int),.int .i64 (b:Int)] (SL H k l') fun r H'=>r = .int .i64 (cf a b)∧H'=SL H k l'):
  bA Tryz.prog 203 [.buf k 0 n n,.int .i64 0,.int .i64 n,fv] (SL H k l) fun _ H'=>H'=SL H k (isF (oD cf) (n-1) 1 l):=by
 obtain⟨S,hS⟩:∃S,S=isF (oD cf) (n-1) 1 l:=⟨_,rfl⟩;rw[←hS];have w1:IntKind.i64.wrap (1:Int)=1:=wrap64 (by omega) (by omega);refine aD tok Tryz.func203 rfl rfl ?_;refine wx ?_;simp -implicitDefEqProofs -dsimp[Tryz.f203,List.replicate,w1];refine aK (W_loopM 53 [8,9,12,13,14,15,16,17,18,19,20,21,22,23,24,25,26,27,28,29,30,31,32,33,34,35,36,37,38,39,40,41,42,43,44,45,46,47,48,49,50,51,52] (by simp[mB]<;>rfl) (σ:=Nat×List Nat) (fun p=>1≤p.1∧p.1≤n+1∧p.2.length=n∧p.2.Perm l∧isF (oD cf) (n-p.1) p.1 p.2=S) (fun p=>n+1-p.1) (fun p=>[(8,.int .i64 p.1)]) (fun p=>SL H k p.2) (1,l) ⟨by simp,by simp,hn,.refl _,hS.symm⟩ (by simp) (by simp) (by simp[iB]) ?_);rintro⟨i,l1⟩ ⟨hi,hi2,hl1,hpm,hx⟩ N Q hN hQ;simp only at hi hi2 hl1 hpm hx hN;by_cases hb:i<n
 ·rw[show n-i=(n-(i+1))+1 by omega,isF]at hx;refine wx ?_;simp -implicitDefEqProofs -dsimp[hb];refine aK (W_loopM 53 [9,18,19,20,21,22,23,24,25,26,27,28,29,30,31,32,33,34,35,36,37,38,39,40,41,42,43,44,45,46,47,48,49,50,51,52] (by simp[mB]<;>rfl) (σ:=Nat×List Nat) (fun p=>p.1≤i∧p.2.length=n∧p.2.Perm l∧gY (oD cf) p.1 p.2=gY (oD cf) i l1) (fun p=>p.1) (fun p=>[(9,.int .i64 p.1)]) (fun p=>SL H k p.2) (i,l1) ⟨by simp,hl1,hpm,rfl⟩ (by simp) (by simp) (by simp[iB]) ?_);rintro⟨j,l2⟩ ⟨hj,hl2,hpm2,hy⟩ N2 Q2 hN2 hQ2;simp only at hj hl2 hpm2 hy hN2;have g9:=SL_at hk l2;have hnl:=aw l2
  cases j with
  | zero =>
   rw[gY]at hy;refine wx ?_;simp -implicitDefEqProofs -dsimp[];refine .inr ⟨aI (by kernel_rfl),?_⟩;refine hQ2 _ _ _ ?_;simp -implicitDefEqProofs -dsimp[aJ i (by omega)];refine hN (i+1,l2) _ _ ⟨by simp only;omega,by simp only;omega,hl2,hpm2,by rw[hy];exact hx⟩ (by simp only;omega) (by simp) ⟨[],by simp⟩ (by simp[iB];exact⟨hk,hfv⟩) (SL_rb hH k l2)
  | succ j =>
   rw[gY]at hy
   have a1:=fun h=>bQ (m:=l2) (x:=j+1) h
   have a0:=fun h=>bQ (m:=l2) (x:=j) h
   have wj:IntKind.i64.wrap (((j:Int)+1)-1)=(j:Int):=by rw[wrap64 (by omega) (by omega)];omega
   have wj2:IntKind.i64.wrap (j:Int)=(j:Int):=iD j (by omega)
   have hj1:j+1<n:=by omega
   have hj0:j<n:=by omega
   obtain⟨x,hxx⟩:∃x,x=l2.getD (j+1) 0:=⟨_,rfl⟩;obtain⟨y,hyy⟩:∃y,y=l2.getD j 0:=⟨_,rfl⟩;rw[←hxx,←hyy]at hy;rw[←hxx]at a1;rw[←hyy]at a0;have hmx:x∈l:=hpm2.mem_iff.1 (by rw[hxx,ah l2 0 (by omega)];exact List.getElem_mem _);have hmy:y∈l:=hpm2.mem_iff.1 (by rw[hyy,ah l2 0 (by omega)];exact List.getElem_mem _);have cl:=hp x y hmx hmy l2;obtain⟨z,hz⟩:∃z,z=cf x y:=⟨_,rfl⟩;rw[←hz]at cl
   have hzq:oD cf x y=decide (z<0):=by rw[hz];rfl
   cases hq:oD cf x y with
   | true =>
    rw[if_pos hq]at hy;rw[hzq]at hq;have hz0:=of_decide_eq_true hq;refine wx ?_;simp -implicitDefEqProofs -dsimp[g9,hnl,hl2,hj1,hj0,a1,a0,wj,wj2,show(0:Int)≤(j:Int)+1 by omega,show(j:Int)+1<(n:Int) by omega];refine .inr ⟨aI (by kernel_rfl),?_⟩;refine ae _ cl ?_;simp -implicitDefEqProofs -dsimp[hz0]
    have hsw:swp j l2=(l2.set (j+1) y).set j x:=by unfold swp;rw[←hxx,←hyy]
    have hst1:(nuL l2).set (j+1) (.int .i64 (y:Int))=nuL (l2.set (j+1) y):=cW l2 (j+1) y
    have hst2:(nuL (l2.set (j+1) y)).set j (.int .i64 (x:Int))=nuL (swp j l2):=by rw[hsw];exact cW _ j x
    have q9:=SL_at hk (l2.set (j+1) y);have qs1:=SL_set H k l2 (l2.set (j+1) y);have qs2:=SL_set H k (l2.set (j+1) y) (swp j l2);have qnl:=aw (l2.set (j+1) y);rw[List.length_set]at qnl
    have b0:=fun h=>bQ (m:=l2.set (j+1) y) (x:=j) h
    refine aK (am tok mixed [15,17] [(2,[1]),(3,[1]),(4,[1])] [] (by kernel_rfl) fun C K hC hK=>?_);simp -implicitDefEqProofs [g9,hnl,hl2,hj1,hj0,a1,a0,wj,wj2,hst1,hst2,q9,qs1,qs2,qnl,b0,show(0:Int)≤(j:Int)+1 by omega,show(j:Int)+1<(n:Int) by omega];refine hK _ _ ?_;simp -implicitDefEqProofs -dsimp[wj,wj2];refine hN2 (j,swp j l2) _ _ ⟨by simp only;omega,by rw[swp_len];exact hl2,(swp_perm j l2 (by omega)).trans hpm2,hy⟩ (by simp only;omega) (by simp) ⟨[],by simp⟩ (by simp[iB];exact⟨hk,hfv⟩) (SL_rb hH k _)
   | false =>
    rw[if_neg (by rw[hq];simp)]at hy;rw[hzq]at hq;have hz0:=of_decide_eq_false hq;refine wx ?_;simp -implicitDefEqProofs -dsimp[g9,hnl,hl2,hj1,hj0,a1,a0,wj,wj2,show(0:Int)≤(j:Int)+1 by omega,show(j:Int)+1<(n:Int) by omega];refine .inr ⟨aI (by kernel_rfl),?_⟩;refine ae _ cl ?_;simp -implicitDefEqProofs -dsimp[hz0];refine hQ2 _ _ _ ?_;simp -implicitDefEqProofs -dsimp[aJ i (by omega)];refine hN (i+1,l2) _ _ ⟨by simp only;omega,by simp only;omega,hl2,hpm2,by rw[hy];exact hx⟩ (by simp only;omega) (by simp) ⟨[],by simp⟩ (by simp[iB];exact⟨hk,hfv⟩) (SL_rb hH k l2)
 ·rw[show n-i=0 by omega,isF]at hx;subst hx;refine wx ?_;simp -implicitDefEqProofs -dsimp[hb];refine hQ _ _ _ ?_;simp -implicitDefEqProofs -dsimp[]
theorem bitsLen(n:Nat)(h:n≤12):∃v:Int,aR Tryz.prog 110 [.int .u64 (n:Int)] fun r=>r = .int .i64 v :=
 match n,h with
 | 0,_=>⟨0,aH tok mixed ai aj (fuel:=1000) (d:=40) (by kernel_rfl) (by simp)⟩
 | 1,_=>⟨1,aH tok mixed ai aj (fuel:=1000) (d:=40) (by kernel_rfl) (by simp)⟩
 | 2,_=>⟨2,aH tok mixed ai aj (fuel:=1000) (d:=40) (by kernel_rfl) (by simp)⟩
 | 3,_=>⟨2,aH tok mixed ai aj (fuel:=1000) (d:=40) (by kernel_rfl) (by simp)⟩
 | 4,_=>⟨3,aH tok mixed ai aj (fuel:=1000) (d:=40) (by kernel_rfl) (by simp)⟩
 | 5,_=>⟨3,aH tok mixed ai aj (fuel:=1000) (d:=40) (by kernel_rfl) (by simp)⟩
 | 6,_=>⟨3,aH tok mixed ai aj (fuel:=1000) (d:=40) (by kernel_rfl) (by simp)⟩
 | 7,_=>⟨3,aH tok mixed ai aj (fuel:=1000) (d:=40) (by kernel_rfl) (by simp)⟩
 | 8,_=>⟨4,aH tok mixed ai aj (fuel:=1000) (d:=40) (by kernel_rfl) (by simp)⟩
 | 9,_=>⟨4,aH tok mixed ai aj (fuel:=1000) (d:=40) (by kernel_rfl) (by simp)⟩
 | 10,_=>⟨4,aH tok mixed ai aj (fuel:=1000) (d:=40) (by kernel_rfl) (by simp)⟩
 | 11,_=>⟨4,aH tok mixed ai aj (fuel:=1000) (d:=40) (by kernel_rfl) (by simp)⟩
 | 12,_=>⟨4,aH tok mixed ai aj (fuel:=1000) (d:=40) (by kernel_rfl) (by simp)⟩
 | n+13,h=>by omega
theorem sort_h(hk:k<H.length)(hH:∀bl∈H,rbB H.length bl)(l:List Nat)(n:Nat)(hn:l.length=n)(hn2:n≤12):
  bA Tryz.prog 143 [.buf k 0 n n] (SL H k l) fun _ H'=>H'=SL H k (isF ltN (n-1) 1 l):=by
 obtain⟨v,hv⟩:=bitsLen n hn2;have c1:=insOrd_h hk hH l n hn (by omega)
 have c2:bA Tryz.prog 185 [.buf k 0 n n,.int .i64 0,.int .i64 n,.int .i64 v] (SL H k l) fun _ H'=>H'=SL H k (isF ltN (n-1) 1 l):=by
  have w0:IntKind.i64.wrap (n:Int)=n:=iD n (by omega);refine aD tok Tryz.func185 rfl rfl ?_;refine wx ?_;simp -implicitDefEqProofs -dsimp[Tryz.f185,List.replicate];refine aK (W_loopM 134 [1,2,3,8,9,10,11,12,13,14,15,16,17,18,19,20,21,22,23,24,25,26,27,28,29,30,31,32,33,34,35,36,37,38,39,40,41,42,43,44,45,46,47,48,49,50,51,52,53,54,55,56,57,58,59,60,61,62,63,64,65,66,67,68,69,70,71,72,73,74,75,76,77,78,79,80,81,82,83,84,85,86,87,88,89,90,91,92,93,94,95,96,97,98,99,100,101,102,103,104,105,106,107,108,109,110,111,112,113,114,115,116,117,118,119,120,121,122,123,124,125,126,127,128,129,130,131,132,133] (by simp[mB]<;>rfl) (σ:=Nat) (fun p=>p=0) (fun p=>0) (fun _=>[(8,.bool true),(9,.bool true),(1,.int .i64 0),(2,.int .i64 n),(3,.int .i64 v)]) (fun _=>SL H k l) 0 rfl (by simp) (by simp) (by simp) ?_);rintro p rfl N Q hN hQ;refine wx ?_;simp -implicitDefEqProofs -dsimp[w0,show(n:Int)≤12 by omega,show n≤12 by omega];refine bK c1 ?_;rintro _ _ rfl;simp -implicitDefEqProofs -dsimp[];refine hQ _ _ _ ?_;simp -implicitDefEqProofs -dsimp[]
 have wu:IntKind.u64.wrap (n:Int)=(n:Int):=by rw[IntKind.wrap_u64];omega
 have g9:=SL_at hk l;have hnl:=aw l;refine aD tok Tryz.func143 rfl rfl ?_;refine wx ?_;simp -implicitDefEqProofs -dsimp[Tryz.f143,List.replicate,g9,hnl,hn,wu];refine(aF hv (by simp)).mono ?_;rintro r H' ⟨rfl,rfl⟩;simp -implicitDefEqProofs -dsimp[];refine bK c2 ?_;rintro _ _ rfl;simp -implicitDefEqProofs -dsimp[]
theorem sortStable_h(hk:k<H.length)(hH:∀bl∈H,rbB H.length bl)(l:List Nat)(n:Nat)(hn:l.length=n)(hn2:n<20)(fv:V)(hfv:rb H.length fv)(cf:Nat→Nat→Int)(hp:∀a b,a∈l→b∈l→∀l',aT Tryz.prog fv [.int .i64 (a:Int),.int .i64 (b:Int)] (SL H k l') fun r H'=>r = .int .i64 (cf a b)∧H'=SL H k l'):
  bA Tryz.prog 139 [.buf k 0 n n,fv] (SL H k l) fun _ H'=>H'=SL H k (isF (oD cf) (n-1) 1 l):=by
 have c1:=insCmp_h hk hH l n hn (by omega) fv hfv cf hp
 have c2:bA Tryz.prog 183 [.buf k 0 n n,.int .i64 n,fv] (SL H k l) fun _ H'=>H'=SL H k (isF (oD cf) (n-1) 1 l):=by
  refine aD tok Tryz.func183 rfl rfl ?_;refine wx ?_;simp -implicitDefEqProofs -dsimp[Tryz.f183,List.replicate];refine aK (W_loopM 23 [7,8,11,12,13,14,15,16,17,18,19,20,21,22] (by simp[mB]<;>rfl) (σ:=Nat) (fun p=>p=0) (fun p=>0) (fun _=>[(7,.int .i64 0),(8,.int .i64 20)]) (fun _=>SL H k l) 0 rfl (by simp) (by simp) (by simp) ?_);rintro p rfl N Q hN hQ;refine wx ?_;simp -implicitDefEqProofs -dsimp[show ¬(20:Int)≤n by omega,show ¬20≤n by omega];refine hQ _ _ _ ?_;simp -implicitDefEqProofs -dsimp[];refine bK c1 ?_;rintro _ _ rfl;simp -implicitDefEqProofs -dsimp[];refine aK (W_loopM 63 [6,7,8,9,28,29,30,31,32,33,34,35,36,37,38,39,40,41,42,43,44,45,46,47,48,49,50,51,52,53,54,55,56,57,58,59,60,61,62] (by simp[mB]<;>rfl) (σ:=Nat) (fun p=>p=0) (fun p=>0) (fun _=>[(6,.int .i64 20)]) (fun _=>SL H k (isF (oD cf) (n-1) 1 l)) 0 rfl (by simp) (by simp) (by simp) ?_);rintro p rfl N2 Q2 hN2 hQ2;refine wx ?_;simp -implicitDefEqProofs -dsimp[show ¬(20:Int)<n by omega,show ¬20<n by omega];refine hQ2 _ _ _ ?_;simp -implicitDefEqProofs -dsimp[]
 have g9:=SL_at hk l;have hnl:=aw l;refine aD tok Tryz.func139 rfl rfl ?_;refine wx ?_;simp -implicitDefEqProofs -dsimp[Tryz.f139,List.replicate,g9,hnl,hn];refine bK c2 ?_;rintro _ _ rfl;simp -implicitDefEqProofs -dsimp[]
end
end
theorem W_ownB{P:Program}(e z j:Nat){k0 e0:Nat}{xs:List V}{c:Code}{Q:Exit→List V→List B→Prop}{fr:List V}{H:List B}(hk:H[k0]?=some (.buf e0 1 xs false))(hj:xs[j]?=some .nilS)
  (h:W P c Q fr (H.set k0 (.buf e0 1 (xs.set j (.buf H.length 0 0 0)) false)++[.buf e z [] false])):W P c Q fr H:=by
 intro s a hA hg hf hd;obtain⟨rfl,hZ⟩:=hA;obtain⟨p1,p2⟩:=nc hg 0 e z false rfl rfl rfl (Nat.le_refl _) (fun _ _=>rfl);generalize hs1:s.push s.w 0 0 (.buf e z [] false)=s1 at p1 p2
 have hk1:s1.H[k0]?=some (.buf e0 1 xs false):=by rw[←hs1];simp only[St.push];rw[List.getElem?_append_left (aE hk)];exact hk
 have hr1:∀x y u,Rel s x u→(y=x∨(x = .nilS∧y = .buf s.H.length 0 0 0))→Rel s1 y u:=fun x y u h1 h2=>by subst hs1;exact rel_own p2 h1 h2
 have hw1:s1.w=s.w:=by rw[←hs1];rfl
 have hφ:s1.φ k0=s.φ k0:=by rw[←hs1];exact cD _ _ (by have:=aE hk;omega)
 have hκ:s1.κ k0=s.κ k0:=by rw[←hs1];exact cD _ _ (by have:=aE hk;omega)
 obtain⟨vs,g2,g3,g4,g5,g6,g7⟩:=hg.blk k0 _ hk
 have hκ0:s1.κ k0≠0:=by have:=aE hj;omega
 have hlv:=lvB hk1 hκ0;have hst:=bw (w:=s1.w) (bl':=.buf e0 1 (xs.set j (.buf s.H.length 0 0 0)) false) p1 hk1 hlv (by simp[B.alike]) rfl rfl rfl (Nat.le_refl _) (fun _ _ _=>rfl)
 have hat:∀(i:Nat) y,(xs.set j (.buf s.H.length 0 0 0))[i]?=some y→∃x,xs[i]?=some x∧(y=x∨(x = .nilS∧y = .buf s.H.length 0 0 0)):=fun i y hy=>by
  by_cases e1:j=i
  ·subst e1;rw[List.getElem?_set_self (aE hj)]at hy;exact⟨.nilS,hj,.inr ⟨rfl,(Option.some.inj hy).symm⟩⟩
  ·rw[List.getElem?_set_ne e1]at hy;exact⟨y,hy,.inl rfl⟩
 have hgd:AM.Good (s1.setB s1.w k0 (.buf e0 1 (xs.set j (.buf s.H.length 0 0 0)) false)):=by
  refine cJ p1 hk1 hlv (by simp[B.alike]) rfl rfl rfl (Nat.le_refl _) (fun _ _ _=>rfl) (fun hst=>?_);refine⟨vs,fun _=>by show s1.w.heap[s1.φ k0]?=_;rw[hw1,hφ];exact g2 (by rw[←hκ];exact hκ0),?_,?_,?_,fun y hy=>?_,fun i y j' d u hy hd hu=>?_⟩
  ·show vs.size=s1.κ k0*1;rw[hκ];exact g3
  ·show _≤s1.κ k0;rw[hκ,List.length_set];exact g4
  ·show s1.κ k0≤_;rw[hκ];exact g5
  ·obtain⟨i,hi⟩:=List.mem_iff_getElem?.1 hy;obtain⟨x,hx,h9⟩:=hat i y hi
   rcases h9 with h9 | ⟨_,h9⟩
   ·rw[h9];exact g6 x (List.mem_of_getElem? hx)
   ·rw[h9];exact⟨rfl,fun c hc=>by simp[V.cells]at hc;subst hc;rfl⟩
  ·obtain⟨x,hx,h9⟩:=hat i y hy
   rcases h9 with h9 | ⟨h8,h9⟩
   ·subst h9;exact(hr1 d d u (g7 i y j' d u hx hd hu) (.inl rfl)).step hst
   ·subst h9;subst h8
    have hj0:j'=0:=by have:=aE hd;simp[V.cells]at this;exact this
    subst hj0;simp[V.cells]at hd;subst hd;exact(hr1 .nilS _ u (g7 i .nilS 0 .nilS u hx rfl hu) (.inr ⟨rfl,rfl⟩)).step hst
 have hH:(s1.setB s1.w k0 (.buf e0 1 (xs.set j (.buf s.H.length 0 0 0)) false)).H=s.H.set k0 (.buf e0 1 (xs.set j (.buf s.H.length 0 0 0)) false)++[.buf e z [] false]:=by
  rw[←hs1];simp only[St.setB,St.push];rw[List.set_append,if_pos (aE hk)]
 have:=h (s1.setB s1.w k0 (.buf e0 1 (xs.set j (.buf s.H.length 0 0 0)) false)) a ⟨hH,(hZ.step p2).step hst⟩ hgd ⟨by rw[hf.len],fun i v u hv hu=>(hr1 v v u (hf.rel i v u hv hu) (.inl rfl)).step hst⟩ hd;have e1:(s1.setB s1.w k0 (.buf e0 1 (xs.set j (.buf s.H.length 0 0 0)) false)).w=s.w:=hw1;rw[e1]at this
 exact wp_mono this fun _ _ _ hl=>cX (p2.trans hst) hl
theorem W_ownBs{P:Program}(e z:Nat){k0 e0:Nat}{c:Code}{Q:Exit→List V→List B→Prop}{fr:List V} : ∀(m:Nat) (xs:List V) (H:List B),H[k0]?=some (.buf e0 1 (xs++List.replicate m .nilS) false)→
  W P c Q fr (H.set k0 (.buf e0 1 (xs++(List.range m).map fun i=>.buf (H.length+i) 0 0 0) false)++List.replicate m (.buf e z [] false))→W P c Q fr H
 | 0,xs,H,hk,h=>by
  have he:H.set k0 (.buf e0 1 (xs++(List.range 0).map fun i=>.buf (H.length+i) 0 0 0) false)++List.replicate 0 (.buf e z [] false)=H:=by
   simp only[List.range_zero,List.map_nil,List.append_nil,List.replicate_zero]at hk ⊢;have hlt:=aE hk;rw[List.getElem?_eq_getElem hlt]at hk;rw[←Option.some.inj hk,List.set_getElem_self]
  rwa [he]at h
 | m+1,xs,H,hk,h=>by
  have hj:(xs++List.replicate (m+1) V.nilS)[xs.length]?=some .nilS:=by
   rw[List.getElem?_append_right (Nat.le_refl _),Nat.sub_self];rfl
  refine W_ownB e z xs.length hk hj ?_
  have hset:(xs++List.replicate (m+1) V.nilS).set xs.length (.buf H.length 0 0 0)=(xs++[.buf H.length 0 0 0])++List.replicate m .nilS:=by
   rw[List.set_append_right _ _ (Nat.le_refl _),Nat.sub_self,List.replicate_succ,List.set_cons_zero];simp
  rw[hset];have hlt:=aE hk;refine W_ownBs e z m (xs++[.buf H.length 0 0 0]) _ (by rw[List.getElem?_append_left (by simpa using hlt),List.getElem?_set_self hlt]) ?_;rw[List.set_append_left _ _ (by simpa using hlt),List.set_set]
  have e1:(xs++[V.buf H.length 0 0 0])++(List.range m).map (fun i=>V.buf ((H.set k0 (.buf e0 1 ((xs++[.buf H.length 0 0 0])++List.replicate m .nilS) false)++[B.buf e z [] false]).length+i) 0 0 0)=xs++(List.range (m+1)).map fun i=>V.buf (H.length+i) 0 0 0:=by
   rw[List.range_succ_eq_map,List.map_cons,List.map_map,List.append_assoc,List.singleton_append,Nat.add_zero];congr 2;refine List.map_congr_left (fun i _=>?_);simp only[List.length_append,List.length_set,List.length_cons,List.length_nil,Function.comp_apply];congr 1;omega
  rw[e1,List.append_assoc,show [B.buf e z [] false]++List.replicate m (.buf e z [] false)=List.replicate (m+1) (.buf e z [] false) from rfl];exact h
section
def ow{α:Type}(L:Nat→α)(v:Nat)(l:α):Nat→α:=fun u=>if u=v then l else L u
def atR(n:Nat)(Lh:Nat→Nat):List V:=(List.range n).map fun v=>.buf (v+4) 0 (Lh v) (Lh v)
def GH(C0:B)(E n:Nat)(rem:List Int)(Lh:Nat→Nat)(L:Nat→List Nat)(tl:List B):List B :=
 C0::.buf 3 1 (inL rem) false::.cells [.buf 1 0 E E]::.buf 109 1 (atR n Lh) false::((List.range n).map (fun v=>.buf 3 1 (nuL (L v)) false)++tl)
section
variable {C0:B} {E n:Nat} {rem:List Int} {Lh:Nat→Nat} {L:Nat→List Nat} {tl:List B}
theorem GH_0:(GH C0 E n rem Lh L tl)[0]?=some C0:=rfl
theorem GH_1:(GH C0 E n rem Lh L tl)[1]?=some (.buf 3 1 (inL rem) false):=rfl
theorem GH_2:(GH C0 E n rem Lh L tl)[2]?=some (.cells [.buf 1 0 E E]):=rfl
theorem GH_3:(GH C0 E n rem Lh L tl)[3]?=some (.buf 109 1 (atR n Lh) false):=rfl
theorem GH_v{v:Nat}(h:v<n):(GH C0 E n rem Lh L tl)[v+4]?=some (.buf 3 1 (nuL (L v)) false):=by
 show((List.range n).map (fun v=>B.buf 3 1 (nuL (L v)) false)++tl)[v]?=_;rw[List.getElem?_append_left (by simpa using h)];simp[h]
theorem GH_tl(i:Nat):(GH C0 E n rem Lh L tl)[n+4+i]?=tl[i]?:=by
 rw[show n+4+i=n+i+4 by omega];show((List.range n).map (fun v=>B.buf 3 1 (nuL (L v)) false)++tl)[n+i]?=_;rw[List.getElem?_append_right (by simp)];simp
theorem eS:(GH C0 E n rem Lh L tl).length=n+4+tl.length:=by
 simp[GH];omega
theorem GH_set1(rem':List Int):(GH C0 E n rem Lh L tl).set 1 (.buf 3 1 (inL rem') false)=GH C0 E n rem' Lh L tl:=rfl
theorem GH_set3(Lh':Nat→Nat):(GH C0 E n rem Lh L tl).set 3 (.buf 109 1 (atR n Lh') false)=GH C0 E n rem Lh' L tl:=rfl
theorem kA{α:Type}(n v:Nat)(F F':Nat→α)(y:α)(h1:F' v=y)(h2:∀u,u≠v→F' u=F u):((List.range n).map F).set v y=(List.range n).map F':=by
 refine List.ext_getElem (by simp) (fun i hi1 hi2=>?_);rw[List.getElem_set];split
 ·rename_i he;subst he;simp[h1]
 ·rename_i he;simp[h2 i (fun h=>he h.symm)]
theorem GH_setv{v:Nat}(h:v<n)(l:List Nat):(GH C0 E n rem Lh L tl).set (v+4) (.buf 3 1 (nuL l) false)=GH C0 E n rem Lh (ow L v l) tl:=by
 show C0::_::_::_::(((List.range n).map (fun v=>B.buf 3 1 (nuL (L v)) false)++tl).set v (.buf 3 1 (nuL l) false))=_;rw[List.set_append_left _ _ (by simpa using h),kA n v _ (fun u=>B.buf 3 1 (nuL (ow L v l u)) false) _ (by simp[ow]) (fun u hu=>by simp[ow,hu])];rfl
theorem atR_len:(atR n Lh).length=n:=by simp[atR]
theorem atR_get{v:Nat}(h:v<(atR n Lh).length):(atR n Lh)[v] = .buf (v+4) 0 (Lh v) (Lh v):=by simp[atR]
theorem atR_set(v m:Nat):(atR n Lh).set v (.buf (v+4) 0 m m)=atR n (ow Lh v m):=by
 unfold atR;exact kA n v _ _ _ (by simp[ow]) (fun u hu=>by simp[ow,hu])
theorem GH_rb(h0:rbB 1 C0)(ht:∀bl∈tl,rbB (n+4+tl.length) bl):∀bl∈GH C0 E n rem Lh L tl,rbB (GH C0 E n rem Lh L tl).length bl:=by
 rw[eS];intro bl hb;unfold GH at hb
 rcases List.mem_cons.1 hb with rfl | hb
 ·exact rbBM (by omega) h0
 rcases List.mem_cons.1 hb with rfl | hb
 ·exact(rbB_buf1 (iO _)).2 trivial
 rcases List.mem_cons.1 hb with rfl | hb
 ·intro c hc;simp at hc;subst hc;show 1<_;omega
 rcases List.mem_cons.1 hb with rfl | hb
 ·intro x hx c hc;obtain⟨v,hv,rfl⟩:=List.mem_map.1 hx;rw[List.mem_range]at hv;simp[V.cells]at hc;subst hc;show v+4<_;omega
 rcases List.mem_append.1 hb with hb | hb
 ·obtain⟨v,_,rfl⟩:=List.mem_map.1 hb;exact(rbB_buf1 (cx _)).2 trivial
 ·exact ht bl hb
end
def LE(es:List (List Nat))(i k v:Nat):List Nat:=(List.range i).filter (fun j=>decide (v∈es.getD j []))++if v∈(es.getD i []).take k then [i] else []
theorem LE_succ{es:List (List Nat)}{i k:Nat}(hk:k<(es.getD i []).length)(hn:(es.getD i []).Nodup):LE es i (k+1)=ow (LE es i k) (es.getD i [])[k] (LE es i k (es.getD i [])[k]++[i]):=by
 funext u;unfold ow LE;rw[List.take_succ_eq_append_getElem hk];by_cases h:u=(es.getD i [])[k]
 ·rw[if_pos h,if_pos (by rw[h];exact List.mem_append_right _ (List.mem_singleton.2 rfl)),h]
  have:¬(es.getD i [])[k]∈(es.getD i []).take k:=by
   intro hm;obtain⟨j,hj,he⟩:=List.mem_iff_getElem.1 hm;rw[List.getElem_take]at he
   have hjk:j<k:=by rw[List.length_take]at hj;omega
   exact List.pairwise_iff_getElem.1 hn j k (by omega) hk hjk he
  rw[if_neg this,List.append_nil]
 ·rw[if_neg h]
  have:(u∈(es.getD i []).take k++[(es.getD i [])[k]])↔u∈(es.getD i []).take k:=by
   rw[List.mem_append,List.mem_singleton];exact⟨fun h2=>h2.elim id (fun e=>absurd e h),.inl⟩
  simp only[this]
theorem LE_next(es:List (List Nat))(i:Nat):LE es (i+1) 0=LE es i (es.getD i []).length:=by
 funext u;unfold LE;rw[List.range_succ,List.filter_append,List.take_zero,if_neg (by simp),List.append_nil,List.take_length];congr 1;rw[List.filter_cons,List.filter_nil];by_cases h:u∈es.getD i []
 ·rw[if_pos (decide_eq_true h),if_pos h]
 ·rw[if_neg (by simpa using h),if_neg h]
theorem LE_len(es:List (List Nat))(i k v:Nat):(LE es i k v).length≤i+1:=by
 unfold LE;have:=List.length_filter_le (fun j=>decide (v∈es.getD j [])) (List.range i);rw[List.length_append];split<;>simp at this ⊢<;>omega
theorem LE_mem(es:List (List Nat))(j v:Nat):j∈LE es es.length 0 v↔j<es.length∧v∈es.getD j []:=by
 unfold LE;rw[List.take_zero,if_neg (by simp),List.append_nil,List.mem_filter,List.mem_range,decide_eq_true_iff]
def ea(es:List (List Nat))(i:Nat):List Int:=(List.range es.length).map fun j=>if j<i then((es.getD j []).length:Int) else 0
theorem lP(es:List (List Nat))(i:Nat):(ea es i).length=es.length:=by simp[ea]
theorem remF_set{es:List (List Nat)}{i:Nat} : (ea es i).set i ((es.getD i []).length:Int)=ea es (i+1):=by
 unfold ea;refine kA _ i _ _ _ (by simp) (fun u hu=>?_)
 have:u<i+1↔u<i:=by omega
 simp only[this]
theorem remF_get{es:List (List Nat)}{j:Nat}(h:j<es.length):(ea es es.length).getD j 0=((es.getD j []).length:Int):=by
 rw[ah _ _ (by rw[lP];exact h)];simp[ea,h]
end
section
theorem idxFuncB(H:List B)(k:Nat)(fv:V)(p:Nat→Bool)(e:List Nat)(m:Nat)(hm:m=e.length)(hk:H[k]?=some (.buf 3 1 (nuL e) false))(hes:e.length≤1000000)(hH:∀bl∈H,rbB H.length bl)(hfv:rb H.length fv)
  (hp:∀v∈e,aT Tryz.prog fv [.int .i64 (v:Int)] H fun r H'=>r = .bool (p v)∧H'=H):bA Tryz.prog 184 [.buf k 0 m m,fv] H fun r H'=>r = .int .i64 (ixN p e 0)∧H'=H:=by
 subst hm;have hkl:k<H.length:=aE hk;have hnl:=aw e;refine aD tok Tryz.func184 rfl rfl ?_;refine wx ?_;simp -implicitDefEqProofs -dsimp[Tryz.f184,List.replicate,hk,hnl];refine aK (W_loopM 19 [4,5,8,9,10,11,12,13,14,15,16,17,18] (by simp[mB]<;>rfl) (σ:=Nat) (fun i=>ixN p e i=ixN p e 0) (fun i=>e.length-i) (fun i=>[(8,.int .i64 i)]) (fun _=>H) 0 rfl (by simp) rfl (by simp) ?_);intro i hx N Q hN hQ;by_cases hb:i<e.length
 ·rw[ixN,dif_pos hb]at hx;have hc:=hp e[i] (List.getElem_mem hb)
  have hat:=fun h=>bQ (m:=e) (x:=i) h
  rw[ah e 0 hb]at hat;obtain⟨v,hv⟩:∃v,v=e[i]:=⟨_,rfl⟩;rw[←hv]at hat hc hx;cases hq:p v
  ·rw[hq]at hc hx;refine wx ?_;simp -implicitDefEqProofs -dsimp[hb,hk,hnl,hat];refine hc.mono ?_;rintro r H' ⟨rfl,rfl⟩;simp -implicitDefEqProofs -dsimp[aJ i (by omega)];refine hN (i+1) _ _ (by simpa using hx) (by omega) (by simp) ⟨[],by simp⟩ (by simp[hkl];exact hfv) hH
  ·rw[hq]at hc hx;refine wx ?_;simp -implicitDefEqProofs -dsimp[hb,hk,hnl,hat];refine hc.mono ?_;rintro r H' ⟨rfl,rfl⟩;simp -implicitDefEqProofs -dsimp[];refine hQ _ _ _ ?_;simp -implicitDefEqProofs -dsimp[];simpa using hx
 ·rw[ixN,dif_neg hb]at hx;refine wx ?_;simp -implicitDefEqProofs -dsimp[hb];refine hQ _ _ _ ?_;simp -implicitDefEqProofs -dsimp[];simpa using hx
theorem contFuncB(H:List B)(k:Nat)(fv:V)(p:Nat→Bool)(e:List Nat)(m:Nat)(hm:m=e.length)(hk:H[k]?=some (.buf 3 1 (nuL e) false))(hes:e.length≤1000000)(hH:∀bl∈H,rbB H.length bl)(hfv:rb H.length fv)
  (hp:∀v∈e,aT Tryz.prog fv [.int .i64 (v:Int)] H fun r H'=>r = .bool (p v)∧H'=H):bA Tryz.prog 141 [.buf k 0 m m,fv] H fun r H'=>r = .bool (e.any p)∧H'=H:=by
 have h0:=ixN_any p e 0;rw[List.drop_zero]at h0;have hc:=idxFuncB H k fv p e m hm hk hes hH hfv hp;refine aD tok Tryz.func141 rfl rfl ?_;refine wx ?_;simp -implicitDefEqProofs -dsimp[Tryz.f141,List.replicate];refine(show aT Tryz.prog (.fn 184 []) _ H _ from by simpa[aT] using hc).mono ?_;rintro r H' ⟨rfl,rfl⟩;simp -implicitDefEqProofs -dsimp[];rw[←h0]
section
variable {C0:B} {E n:Nat} {rem:List Int} {Lh:Nat→Nat} {L:Nat→List Nat} {tl:List B}
theorem GH_app(X:B):GH C0 E n rem Lh L tl++[X]=GH C0 E n rem Lh L (tl++[X]):=by simp[GH]
theorem GH_SL(X:B)(l:List Nat):SL (GH C0 E n rem Lh L (X::tl)) (n+4) l=GH C0 E n rem Lh L (.buf 3 1 (nuL l) false::tl):=by
 show C0::_::_::_::(((List.range n).map (fun v=>B.buf 3 1 (nuL (L v)) false)++X::tl).set n (.buf 3 1 (nuL l) false))=_;rw[List.set_append_right _ _ (by simp)];simp[GH]
theorem GH_SL2(X Y:B)(l:List Nat):SL (GH C0 E n rem Lh L (X::Y::tl)) (n+5) l=GH C0 E n rem Lh L (X::.buf 3 1 (nuL l) false::tl):=by
 show C0::_::_::_::(((List.range n).map (fun v=>B.buf 3 1 (nuL (L v)) false)++X::Y::tl).set (n+1) (.buf 3 1 (nuL l) false))=_;rw[List.set_append_right _ _ (by simp)];simp[GH]
end
def kU(n i:Nat):List Nat:=(List.range n).map fun j=>if j<i then j else 0
theorem ordF_len(n i:Nat):(kU n i).length=n:=by simp[kU]
theorem ordF_set(n i:Nat):(kU n i).set i i=kU n (i+1):=by
 unfold kU;refine kA _ i _ _ _ (by simp) (fun u hu=>?_)
 have:u<i+1↔u<i:=by omega
 simp only[this]
theorem ordF_all(n:Nat):kU n n=List.range n:=by
 unfold kU;refine List.ext_getElem (by simp) (fun i h1 h2=>?_);simp at h1;simp[h1]
theorem ordF_zero(n:Nat):List.replicate n (V.int .i64 0)=nuL (kU n 0):=by
 unfold nuL kU;refine List.ext_getElem (by simp) (fun i h1 h2=>by simp[eN])
end
def kep(ord out:List Nat)(p v:Nat):Bool:=decide (v∈out∨v∈ord.drop p)
structure GI (es:List (List Nat)) (ord:List Nat) (p:Nat) (rem:List Int) (out:List Nat):Prop where
 len:rem.length=es.length
 cnt:∀j<es.length,rem.getD j 0=((es.getD j []).countP (kep ord out p):Nat)
 pos:∀j<es.length,1≤rem.getD j 0
 sub:∀v∈out,v∈ord.take p
 nd:out.Nodup
theorem pb{ord:List Nat}(hn:ord.Nodup){p:Nat}(hp:p<ord.length):ord[p]∉ord.take p∧ord[p]∉ord.drop (p+1):=by
 have h:ord=ord.take p++ord[p]::ord.drop (p+1):=by rw[←List.drop_eq_getElem_cons hp,List.take_append_drop]
 have hn2:=hn;rw[h,List.nodup_append]at hn2;obtain⟨_,h2,h3⟩:=hn2;exact⟨fun hm=>h3 _ hm _ (List.mem_cons_self) rfl,(List.nodup_cons.1 h2).1⟩
theorem GI.keep{es:List (List Nat)}{ord:List Nat}{p:Nat}{rem:List Int}{out:List Nat}(g:GI es ord p rem out)(hn:ord.Nodup)(hp:p<ord.length):GI es ord (p+1) rem (out++[ord[p]]):=by
 have hk:kep ord (out++[ord[p]]) (p+1)=kep ord out p:=by
  funext v;unfold kep;rw[List.drop_eq_getElem_cons hp];simp only[List.mem_append,List.mem_cons,List.not_mem_nil,or_false,or_assoc]
 have ho:ord[p]∉out:=fun h=>(pb hn hp).1 (g.sub _ h)
 refine⟨g.len,fun j hj=>by rw[hk];exact g.cnt j hj,g.pos,fun v hv=>?_,?_⟩
 ·rw[List.take_succ_eq_append_getElem hp]
  rcases List.mem_append.1 hv with h | h
  ·exact List.mem_append_left _ (g.sub v h)
  ·exact List.mem_append_right _ h
 ·rw[List.nodup_append];refine⟨g.nd,by simp,fun a ha b hb=>?_⟩;rw[List.mem_singleton]at hb;subst hb;rintro rfl;exact ho ha
theorem mR{P Q:Nat→Bool}{v:Nat}(hq:Q v=false)(hpv:P v=true)(h:∀u,u≠v→P u=Q u):∀e:List Nat,e.Nodup→e.countP P=e.countP Q+if v∈e then 1 else 0
 | [],_=>by simp
 | u::e,hn=>by
  obtain⟨h1,h2⟩:=List.nodup_cons.1 hn;rw[List.countP_cons,List.countP_cons,mR hq hpv h e h2];by_cases hu:u=v
  ·subst hu;rw[if_neg h1,if_pos hpv,hq,if_pos List.mem_cons_self,if_neg (by simp)]
  ·rw[h u hu]
   have:(v∈u::e)↔v∈e:=by
    rw[List.mem_cons];exact⟨fun h=>h.elim (fun e=>absurd e.symm hu) id,.inr⟩
   simp only[this];omega
theorem GI.out{es:List (List Nat)}{ord:List Nat}{p:Nat}{rem rem':List Int}{out:List Nat}{L:List Nat}(g:GI es ord p rem out)(hn:ord.Nodup)(hp:p<ord.length)(hE:∀e∈es,e.Nodup)(hL:∀j,j∈L↔j<es.length∧ord[p]∈es.getD j [])
  (h1:∀j∈L,rem.getD j 0≠1) (hl:rem'.length=es.length) (hr:∀j<es.length,rem'.getD j 0=rem.getD j 0-if j∈L then 1 else 0):GI es ord (p+1) rem' out:=by
 obtain⟨n1,n2⟩:=pb hn hp
 have ho:ord[p]∉out:=fun h=>n1 (g.sub _ h)
 refine⟨hl,fun j hj=>?_,fun j hj=>?_,fun v hv=>?_,g.nd⟩
 ·have hs:=mR (P:=kep ord out p) (Q:=kep ord out (p+1)) (v:=ord[p]) (by unfold kep;exact decide_eq_false (by rintro(h | h);exact ho h;exact n2 h)) (by unfold kep;rw[List.drop_eq_getElem_cons hp];exact decide_eq_true (.inr List.mem_cons_self)) (fun u hu=>by
   unfold kep;rw[List.drop_eq_getElem_cons hp]
   have:(u∈out∨u∈ord[p]::ord.drop (p+1))↔(u∈out∨u∈ord.drop (p+1)):=by
    rw[List.mem_cons];exact⟨fun h=>h.elim .inl (fun h=>h.elim (fun e=>absurd e hu) .inr),fun h=>h.elim .inl (fun h=>.inr (.inr h))⟩
   simp only[this]) (es.getD j []) (hE _ (fm hj))
  rw[hr j hj,g.cnt j hj,hs];by_cases hm:j∈L
  ·rw[if_pos hm,if_pos ((hL j).1 hm).2];omega
  ·rw[if_neg hm,if_neg (fun h=>hm ((hL j).2 ⟨hj,h⟩))];omega
 ·rw[hr j hj];have h2:=g.pos j hj;split
  ·have:=h1 j (by assumption);omega
  ·omega
 ·rw[List.take_succ_eq_append_getElem hp];exact List.mem_append_left _ (g.sub v hv)
theorem GI.hits{es:List (List Nat)}{ord:List Nat}{p:Nat}{rem:List Int}{out:List Nat}(g:GI es ord p rem out)(hp:ord.length≤p):∀e∈es,∃v∈e,v∈out:=by
 intro e he;obtain⟨j,hj,rfl⟩:=List.mem_iff_getElem.1 he;have h1:=g.cnt j hj;have h2:=g.pos j hj;rw[ah es [] hj]at h1
 have h3:0<(es[j]).countP (kep ord out p):=by omega
 obtain⟨v,hv,hk⟩:=List.countP_pos_iff.1 h3;refine⟨v,hv,?_⟩;unfold kep at hk;rw[List.drop_of_length_le hp]at hk;simpa using hk
theorem GI.start{es:List (List Nat)}{n:Nat}{ord:List Nat}{rem:List Int}(he:jP n es)(hp:ord.Perm (List.range n))(hl:rem.length=es.length)(hr:∀j<es.length,rem.getD j 0=((es.getD j []).length:Int)):GI es ord 0 rem []:=by
 refine⟨hl,fun j hj=>?_,fun j hj=>?_,by simp,by simp⟩
 ·rw[hr j hj]
  have:(es.getD j []).countP (kep ord [] 0)=(es.getD j []).length:=by
   rw[List.countP_eq_length];intro v hv;unfold kep;exact decide_eq_true (.inr (by rw[List.drop_zero];exact hp.mem_iff.2 (List.mem_range.2 ((he _ (fm hj)).2.2 v hv))))
  rw[this]
 ·rw[hr j hj];have:=(he _ (fm hj)).1;have:0<(es.getD j []).length:=List.length_pos_iff.2 this;omega
theorem sort_ok{n:Nat}{es:List (List Nat)}{ord:List Nat}{p:Nat}{rem:List Int}{out:List Nat}(g:GI es ord p rem out)(hp:ord.length≤p)(ho:∀v∈ord,v<n):(isF ltN (out.length-1) 1 out).Pairwise (· < ·)∧(∀v∈isF ltN (out.length-1) 1 out,v<n)∧∀e∈es,∃v∈e,v∈isF ltN (out.length-1) 1 out:=by
 have hpm:(isF ltN (out.length-1) 1 out).Perm out:=by
  by_cases h0:out.length=0
  ·rw[h0];exact .refl _
  ·exact ja _ _ _ _ (by omega)
 have hso:(isF ltN (out.length-1) 1 out).Pairwise (·≤·):=by
  by_cases h0:out.length=0
  ·have:out=[]:=List.length_eq_zero_iff.1 h0;subst this;simp[isF]
  ·refine pn _ _ _ (by omega) ?_
   cases out with
   | nil=>simp at h0
   | cons a l=>simp
 have hnd:=hpm.nodup_iff.2 g.nd;refine⟨?_,fun v hv=>ho v (List.mem_of_mem_take (g.sub v (hpm.mem_iff.1 hv))),fun e he=>?_⟩
 ·exact(hso.and hnd).imp (fun h=>by omega)
 ·obtain⟨v,h1,h2⟩:=g.hits hp e he;exact⟨v,h1,hpm.mem_iff.2 h2⟩
structure GrOk (n:Nat) (es:List (List Nat)) (l:List Nat):Prop where
 s:l.Pairwise (· < ·)
 n:∀v∈l,v<n
 h:∀e∈es,∃v∈e,v∈l
def qL(rm:List Int)(j:Nat):List Int:=rm.set j (rm.getD j 0-1)
def grF(L:Nat→List Nat):List Nat→List Int→List Nat→List Nat
 | [],_,out=>out
 | v::l,rem,out=>if(L v).any (fun j=>decide (rem.getD j 0=1))=true then grF L l rem (out++[v]) else grF L l ((L v).foldl qL rem) out
def pv(ws:List Int)(n:Nat):List Nat:=isF (oD fun a b=>ws.getD b 0-ws.getD a 0) (n-1) 1 (List.range n)
noncomputable def greedyO(ws:List Int)(es:List (List Nat)):List Nat:=grF (LE es es.length 0) (pv ws ws.length) (ea es es.length) []
noncomputable def iw(ws:List Int)(es:List (List Nat)):List Nat:=isF ltN ((greedyO ws es).length-1) 1 (greedyO ws es)
theorem dec_len:∀(l:List Nat) (rm:List Int),(l.foldl qL rm).length=rm.length
 | [],rm=>rfl
 | j::l,rm=>by rw[List.foldl_cons,dec_len l];simp[qL]
theorem dec_get:∀(l:List Nat) (rm:List Int),l.Nodup→(∀j∈l,j<rm.length)→∀i,(l.foldl qL rm).getD i 0=rm.getD i 0-if i∈l then 1 else 0
 | [],rm,_,_,i=>by simp
 | j::l,rm,hn,hl,i=>by
  rw[List.nodup_cons]at hn;have hj:=hl j (by simp);rw[List.foldl_cons,dec_get l _ hn.2 (fun k hk=>by simp only[qL,List.length_set];exact hl k (by simp[hk])) i];by_cases hij:j=i
  ·subst hij;rw[if_neg hn.1,if_pos (by simp)];unfold qL;rw[ac _ hj];omega
  ·unfold qL;rw[af _ hij]
   have:(i∈j::l)↔i∈l:=by rw[List.mem_cons];exact⟨fun h=>h.elim (fun e=>absurd e.symm hij) id,.inr⟩
   simp only[this]
theorem grF_gi{es:List (List Nat)}{ord:List Nat}{n:Nat}{L:Nat→List Nat}(hol:ord.length=n)(hon:ord.Nodup)(hdnd:∀e∈es,e.Nodup)(hLm:∀v j,j∈L v↔j<es.length∧v∈es.getD j [])(hLn:∀v,(L v).Nodup):
  ∀(k p:Nat) (rem:List Int) (out:List Nat),p+k=n→GI es ord p rem out→out.length≤p→∃rem',GI es ord n rem' (grF L (ord.drop p) rem out)∧(grF L (ord.drop p) rem out).length≤n
 | 0,p,rem,out,hk,gi,ho=>by
  obtain rfl:p=n:=by omega
  rw[List.drop_of_length_le (by omega)];exact⟨rem,gi,ho⟩
 | k+1,p,rem,out,hk,gi,ho=>by
  have hpo:p<ord.length:=by omega
  rw[List.drop_eq_getElem_cons hpo,grF];split
  ·exact grF_gi hol hon hdnd hLm hLn k (p+1) rem _ (by omega) (gi.keep hon hpo) (by simp;omega)
  ·rename_i hany
   have hany2:∀j∈L ord[p],rem.getD j 0≠1:=fun j hj he=>hany (List.any_eq_true.2 ⟨j,hj,decide_eq_true he⟩)
   refine grF_gi hol hon hdnd hLm hLn k (p+1) _ _ (by omega) (GI.out (rem':=(L ord[p]).foldl qL rem) (L:=L ord[p]) gi hon hpo hdnd (hLm ord[p]) hany2 (by rw[dec_len,gi.len]) (fun j hj=>?_)) (by omega);exact dec_get _ _ (hLn _) (fun i hi=>by rw[gi.len];exact((hLm _ i).1 hi).1) j
theorem pu{ws:List Int}{es:List (List Nat)}(hb:HsB ws es)(hn:ws.length≤12):GrOk ws.length es (iw ws es):=by
 have hed:=hb.ed
 have hLm:∀v j,j∈LE es es.length 0 v↔j<es.length∧v∈es.getD j []:=fun v j=>LE_mem es j v
 have hLn:∀v,(LE es es.length 0 v).Nodup:=fun v=>by
  unfold LE;rw[List.take_zero,if_neg (by simp),List.append_nil];exact(List.nodup_range).filter _
 have hperm:(pv ws ws.length).Perm (List.range ws.length):=by
  unfold pv;by_cases h0:ws.length=0
  ·rw[h0];exact .refl _
  ·exact ja _ _ _ _ (by simp;omega)
 have hol:(pv ws ws.length).length=ws.length:=by rw[hperm.length_eq];simp
 have hon:(pv ws ws.length).Nodup:=hperm.nodup_iff.2 List.nodup_range
 have hom:∀v∈pv ws ws.length,v<ws.length:=fun v hv=>List.mem_range.1 (hperm.mem_iff.1 hv)
 have hdnd:∀e∈es,e.Nodup:=fun e he=>(hed e he).2.1.imp (fun h=>by omega)
 obtain⟨rem',gi,hl⟩:=grF_gi hol hon hdnd hLm hLn ws.length 0 (ea es es.length) [] (by omega) (GI.start hed hperm (lP es _) (fun j hj=>remF_get hj)) (by simp);rw[List.drop_zero]at gi hl;have hso:=sort_ok gi (by omega) hom;exact⟨hso.1,hso.2.1,hso.2.2⟩
theorem greedy_u{ws:List Int}{es:List (List Nat)}(hb:HsB ws es)(f g:Bool)(hn:ws.length≤12):
  aR Tryz.prog 103 [ab f g ws es] fun r=>r = .tup [Ln false (iw ws es),.int .i64 0]:=by
 obtain⟨GF,hGF⟩:∃GF,GF=iw ws es:=⟨_,rfl⟩;rw[←hGF]
 have hel:∀e∈es,e.length≤1000000:=fun e he=>by have:=hb.ed.len e he;omega
 have cv:=lp ws es f g hel;rw[fY.2 hb]at cv;have he2:=hb.ne;obtain⟨n,hnn⟩:∃n,n=ws.length:=⟨_,rfl⟩;rw[←hnn]at hn
 have hrep:List.replicate es.length (V.int .i64 0)=inL (ea es 0):=by
  unfold inL ea;rw[List.map_map];refine List.ext_getElem (by simp) (fun i h1 h2=>by simp[aW])
 have hed:jP n es:=hnn▸hb.ed;obtain⟨C0,hC0⟩:∃C0,C0=B.cells [.lst 1 f (ws.map aW),.lst 1 g (es.map (Ln false))]:=⟨_,rfl⟩
 have hrb0:rbB 1 C0:=by
  subst hC0;intro c hc;simp only[List.mem_cons,List.not_mem_nil,or_false]at hc
  rcases hc with rfl | rfl
  ·exact cI (L1_pure f ws) rfl
  ·exact cI (LLn_pure g es) rfl
 simp only[ab,L1,LLn]at cv;refine mT (aD tok Tryz.func103 rfl rfl ?_);refine wx ?_;simp -implicitDefEqProofs -dsimp[Tryz.f103,List.replicate,L1,LLn,Ln,ab];refine(aF (cv) (by simp)).mono ?_;rintro r H' ⟨rfl,rfl⟩;simp -implicitDefEqProofs -dsimp[hrep,←hnn,show(8:Int)*es.length≤281474976710656 by omega,show(es.length:Int)≤9223372036854775807 by omega,show(24:Int)*n≤281474976710656 by omega,show(n:Int)≤9223372036854775807 by omega,L1,LLn,Ln,ab];refine aK (W_ownBs 3 1 n [] _ (k0:=3) (e0:=109) rfl (W_loopM 62 [7,8,10,34,35,36,37,38,39,40,41,42,43,44,45,46,47,48,49,50,51,52,53,54,55,56,57,58,59,60,61] (by simp[mB]<;>rfl) (σ:=Nat) (fun i=>i≤es.length) (fun i=>es.length-i) (fun i=>[(34,.int .i64 i)]) (fun i=>GH C0 es.length n (ea es i) (fun v=>(LE es i 0 v).length) (LE es i 0) []) 0 (by omega) (by simp) ?_ ?_ ?_))
 ·rw[hC0];simp[GH,atR,LE,nuL,Function.comp_def,Nat.add_comm];exact List.ext_getElem (by simp) (fun i h1 h2=>by simp)
 ·intro i _;simp[GH]
 intro i hi N Q hN hQ;by_cases hbi:i<es.length
 ·obtain⟨e1,e2,e3⟩:=hed es[i] (List.getElem_mem hbi);have e4:=hel es[i] (List.getElem_mem hbi);have hge:es.getD i []=es[i]:=eD hbi
  have hnd:(es.getD i []).Nodup:=by rw[hge];exact e2.imp (fun h=>by omega)
  obtain⟨e,he⟩:∃e,e=es[i]:=⟨_,rfl⟩;rw[←he]at e1 e2 e3 e4 hge;have hei:=he.symm;have hrs:=remF_set (es:=es) (i:=i);rw[hge]at hrs;have hst:=ll (ea es i) i (e.length:Int);rw[hrs]at hst;have q0:=GH_0 (C0:=C0) (E:=es.length) (n:=n) (rem:=ea es i) (Lh:=fun v=>(LE es i 0 v).length) (L:=LE es i 0) (tl:=[]);have q1:=GH_1 (C0:=C0) (E:=es.length) (n:=n) (rem:=ea es i) (Lh:=fun v=>(LE es i 0 v).length) (L:=LE es i 0) (tl:=[]);have q2:=GH_2 (C0:=C0) (E:=es.length) (n:=n) (rem:=ea es i) (Lh:=fun v=>(LE es i 0 v).length) (L:=LE es i 0) (tl:=[]);have qs:=GH_set1 (C0:=C0) (E:=es.length) (n:=n) (rem:=ea es i) (Lh:=fun v=>(LE es i 0 v).length) (L:=LE es i 0) (tl:=[]) (ea es (i+1))
  have hgl:=fun h=>ev (m:=ea es i) (x:=i) h
  have hll:=(eu (ea es i)).trans (lP es i);refine wx ?_;simp -implicitDefEqProofs -dsimp[hbi,hei,q1,q2,qs,hst,hgl,hll,L1,LLn,Ln,ab];refine aK (W_loopM 61 [10,46,47,48,49,50,51,52,53,54,55,56,57,58,59,60] (by simp[mB]<;>rfl) (σ:=Nat) (fun k=>k≤e.length) (fun k=>e.length-k) (fun k=>[(46,.int .i64 k)]) (fun k=>GH C0 es.length n (ea es (i+1)) (fun v=>(LE es i k v).length) (LE es i k) []) 0 (by omega) (by simp) (by simp) (by intro k _;simp[GH]) ?_);intro k hk N2 Q2 hN2 hQ2;by_cases hbk:k<e.length
  ·have hvn:=e3 e[k] (List.getElem_mem hbk);have hls:=LE_succ (es:=es) (i:=i) (k:=k) (by rw[hge];exact hbk) hnd
   have hgk:(es.getD i [])[k]'(by rw[hge];exact hbk)=e[k]:=by simp only[hge]
   rw[hgk]at hls;obtain⟨v,hv⟩:∃v,v=e[k]:=⟨_,rfl⟩;rw[←hv]at hvn hls;have hev:=hv.symm;have hlen:=LE_len es i k v;have r3:=GH_3 (C0:=C0) (E:=es.length) (n:=n) (rem:=ea es (i+1)) (Lh:=fun v=>(LE es i k v).length) (L:=LE es i k) (tl:=[]);have rv:=GH_v (C0:=C0) (E:=es.length) (n:=n) (rem:=ea es (i+1)) (Lh:=fun v=>(LE es i k v).length) (L:=LE es i k) (tl:=[]) hvn;have rsv:=GH_setv (C0:=C0) (E:=es.length) (n:=n) (rem:=ea es (i+1)) (Lh:=fun v=>(LE es i k v).length) (L:=LE es i k) (tl:=[]) hvn (LE es i k v++[i]);rw[←hls]at rsv;have r3b:=GH_3 (C0:=C0) (E:=es.length) (n:=n) (rem:=ea es (i+1)) (Lh:=fun v=>(LE es i k v).length) (L:=LE es i (k+1)) (tl:=[])
   have hLh:(fun u=>(LE es i (k+1) u).length)=ow (fun u=>(LE es i k u).length) v ((LE es i k v).length+1):=by
    funext u;rw[hls];unfold ow;by_cases h:u=v
    ·rw[if_pos h,if_pos h];simp
    ·rw[if_neg h,if_neg h]
   have rs3:=GH_set3 (C0:=C0) (E:=es.length) (n:=n) (rem:=ea es (i+1)) (Lh:=fun v=>(LE es i k v).length) (L:=LE es i (k+1)) (tl:=[]) (fun u=>(LE es i (k+1) u).length)
   have ra:=fun h=>atR_get (n:=n) (Lh:=fun v=>(LE es i k v).length) (v:=v) h
   have ral:=atR_len (n:=n) (Lh:=fun v=>(LE es i k v).length);have ras:=atR_set (n:=n) (Lh:=fun v=>(LE es i k v).length) v ((LE es i k v).length+1);rw[←hLh]at ras
   have hna:nuL (LE es i k v)++[.int .i64 (i:Int)]=nuL (LE es i k v++[i]):=by simp[nuL,eN]
   have hnl:=aw (LE es i k v);obtain⟨m,hm⟩:∃m,m=(LE es i k v).length:=⟨_,rfl⟩;rw[←hm]at ra ras hnl hlen;refine wx ?_;simp -implicitDefEqProofs -dsimp[hbk,hev,eN,r3,rv,rsv,r3b,rs3,ra,ral,ras,hna,hnl,hvn,show m≤9223372036854775806 by omega,show(m+1)*8≤140737488355328 by omega,aJ k (by omega),L1,LLn,Ln,ab];refine hN2 (k+1) _ _ (by omega) (by omega) (by simp) ⟨[],by simp⟩ (by simp[eS]) (GH_rb hrb0 (by simp))
  ·obtain rfl:k=e.length:=by omega
   have hnx:=LE_next es i;rw[hge]at hnx;refine wx ?_;simp -implicitDefEqProofs -dsimp[hbk,L1,LLn,Ln,ab];refine hQ2 _ _ _ ?_;simp -implicitDefEqProofs -dsimp[aJ i (by omega),L1,LLn,Ln,ab];refine hN (i+1) _ _ (by omega) (by omega) (by simp) ⟨[],by simp[hnx]⟩ (by simp[GH]) ?_;exact GH_rb hrb0 (by simp)
 ·obtain rfl:i=es.length:=by omega
  clear hN hi;obtain⟨L,hL⟩:∃L,L=LE es es.length 0:=⟨_,rfl⟩
  have hLm:∀v j,j∈L v↔j<es.length∧v∈es.getD j []:=fun v j=>by rw[hL];exact LE_mem es j v
  have hLl:∀v,(L v).length≤2001:=fun v=>by rw[hL];have:=LE_len es es.length 0 v;omega
  have hLn:∀v,(L v).Nodup:=fun v=>by
   rw[hL];unfold LE;rw[List.take_zero,if_neg (by simp),List.append_nil];exact(List.nodup_range).filter _
  obtain⟨rem0,hrem0⟩:∃r,r=ea es es.length:=⟨_,rfl⟩
  have hr0l:rem0.length=es.length:=by rw[hrem0];exact lP es _
  have hr0g:∀j<es.length,rem0.getD j 0=((es.getD j []).length:Int):=fun j hj=>by rw[hrem0];exact remF_get hj
  rw[←hL,←hrem0]
  obtain⟨Lh,hLh⟩:∃Lh:Nat→Nat,Lh=fun v=>(L v).length:=⟨_,rfl⟩
  have hLhe:∀v,Lh v=(L v).length:=fun v=>by rw[hLh]
  rw[←hLh]
  have q0:∀(rem:List Int) (tl:List B),(GH C0 es.length n rem Lh L tl)[0]?=some (B.cells [.lst 1 f (ws.map aW),.lst 1 g (es.map (Ln false))]):=fun rem tl=>by rw[GH_0,hC0]
  have q0g:∀(rem:List Int) (tl:List B) (h:0<(GH C0 es.length n rem Lh L tl).length),(GH C0 es.length n rem Lh L tl)[0]=B.cells [.lst 1 f (ws.map aW),.lst 1 g (es.map (Ln false))]:=fun rem tl h=>hC0
  have hgl0:(GH C0 es.length n rem0 Lh L []).length=n+4:=eS;have hga:=GH_app (C0:=C0) (E:=es.length) (n:=n) (rem:=rem0) (Lh:=Lh) (L:=L) (tl:=[]) (.buf 3 1 (nuL (kU n 0)) false);rw[List.nil_append]at hga
  have hrbT:∀(tl:List (List Nat)),∀bl∈tl.map (fun l=>B.buf 3 1 (nuL l) false),rbB (n+4+(tl.map (fun l=>B.buf 3 1 (nuL l) false)).length) bl:=fun tl bl hb=>by
   obtain⟨l,_,rfl⟩:=List.mem_map.1 hb;exact(rbB_buf1 (cx l)).2 trivial
  have r4:∀(rem:List Int) (X:B) (tl:List B),(GH C0 es.length n rem Lh L (X::tl))[n+4]?=some X:=fun rem X tl=>GH_tl 0
  have hnl0:=(aw (kU n 0)).trans (ordF_len n 0);refine wx ?_;simp -implicitDefEqProofs -dsimp[hbi,L1,LLn,Ln,ab];refine hQ _ _ _ ?_;simp -implicitDefEqProofs -dsimp[q0,q0g,hgl0,r4,hnl0,ordF_zero n,hga,←hnn,show(8:Int)*n≤281474976710656 by omega,show(n:Int)≤9223372036854775807 by omega,L1,LLn,Ln,ab]
  have hsl:∀(rem:List Int) (X:B) (l:List Nat) (tl:List B),(GH C0 es.length n rem Lh L (X::tl)).set (n+4) (.buf 3 1 (nuL l) false)=GH C0 es.length n rem Lh L (.buf 3 1 (nuL l) false::tl):=fun rem X l tl=>GH_SL X l
  refine aK (W_loopM 76 [12,68,69,70,71,72,73,74,75] (by simp[mB]<;>rfl) (σ:=Nat) (fun i=>i≤n) (fun i=>n-i) (fun i=>[(68,.int .i64 i)]) (fun i=>GH C0 es.length n rem0 Lh L [.buf 3 1 (nuL (kU n i)) false]) 0 (by omega) (by simp) (by simp) (by intro i _;simp[GH]) ?_);intro i hi N2 Q2 hN2 hQ2;by_cases hbi2:i<n
  ·have hst:(nuL (kU n i)).set i (.int .i64 (i:Int))=nuL (kU n (i+1)):=(cW _ i i).trans (by rw[ordF_set]);have hnl:=(aw (kU n i)).trans (ordF_len n i)
   have hat:=fun h=>bQ (m:=kU n i) (x:=i) h
   refine wx ?_;simp -implicitDefEqProofs -dsimp[hbi2,r4,hsl,hst,hnl,hat,L1,LLn,Ln,ab];simp -implicitDefEqProofs -dsimp[aJ i (by omega),L1,LLn,Ln,ab];refine hN2 (i+1) _ _ (by omega) (by omega) (by simp) ⟨[],by simp⟩ (by simp[eS]) (GH_rb hrb0 (hrbT [_]))
  ·obtain rfl:n=i:=by omega
   rw[ordF_all];refine wx ?_;simp -implicitDefEqProofs -dsimp[hbi2,L1,LLn,Ln,ab];refine hQ2 _ _ _ ?_;simp -implicitDefEqProofs -dsimp[L1,LLn,Ln,ab]
   have hlt4:n+4<(GH C0 es.length n rem0 Lh L [.buf 3 1 (nuL (List.range n)) false]).length:=by rw[eS];simp
   have hrbS:=GH_rb (C0:=C0) (E:=es.length) (n:=n) (rem:=rem0) (Lh:=Lh) (L:=L) hrb0 (hrbT [List.range n]);simp only[List.map_cons,List.map_nil]at hrbS
   have hsort:=sortStable_h hlt4 hrbS (List.range n) n (by simp) (by omega) (.fn 140 [.ptr 0 0]) (by simp[rb,rb1,eS]) (fun a b=>ws.getD b 0-ws.getD a 0) (fun a b ha hbm l'=>by
    rw[List.mem_range]at ha hbm;rw[GH_SL];have wa:=(ah ws 0 (by omega:a<ws.length)).symm;have wb:=(ah ws 0 (by omega:b<ws.length)).symm;have ba:=hb.w a (by omega);have bb:=hb.w b (by omega);obtain⟨x,hx⟩:∃x,x=ws.getD a 0:=⟨_,rfl⟩;obtain⟨y,hy⟩:∃y,y=ws.getD b 0:=⟨_,rfl⟩;rw[←hx]at wa ba ⊢;rw[←hy]at wb bb ⊢;have hw:IntKind.i64.wrap (y-x)=y-x:=wrap64 (by omega) (by omega);have qq:=q0 rem0 [.buf 3 1 (nuL l') false];obtain⟨HH,hHH⟩:∃HH,HH=GH C0 es.length n rem0 Lh L [.buf 3 1 (nuL l') false]:=⟨_,rfl⟩;rw[←hHH]at qq ⊢;simp only[aT,List.cons_append,List.nil_append];refine aD tok Tryz.func140 rfl rfl ?_;refine wx ?_;simp -implicitDefEqProofs -dsimp[Tryz.f140,List.replicate,qq,wa,wb,hw,aW,show a<ws.length by omega,show b<ws.length by omega,L1,LLn,Ln,ab]
    exact .inr (aI (by kernel_rfl)))
   simp only[GH_SL]at hsort;obtain⟨ord,hord⟩:∃ord,ord=isF (oD fun a b=>ws.getD b 0-ws.getD a 0) (n-1) 1 (List.range n):=⟨_,rfl⟩
   have hperm:ord.Perm (List.range n):=by
    rw[hord];by_cases h0:n=0
    ·subst h0;exact .refl _
    ·exact ja _ _ _ _ (by simp;omega)
   rw[←hord]at hsort;obtain⟨OUT,hOUT⟩:∃OUT,OUT=grF L ord rem0 []:=⟨_,rfl⟩
   have hGO:GF=isF ltN (OUT.length-1) 1 OUT:=by
    rw[hGF,hOUT,hord,hL,hrem0];unfold iw greedyO pv;rw[←hnn]
   have hol:ord.length=n:=by rw[hperm.length_eq];simp
   have hon:ord.Nodup:=hperm.nodup_iff.2 List.nodup_range
   have hom:∀v∈ord,v<n:=fun v hv=>List.mem_range.1 (hperm.mem_iff.1 hv)
   have hnl4:=(aw ord).trans hol;refine bK hsort ?_;rintro _ _ rfl
   have hlen1:(GH C0 es.length n rem0 Lh L [.buf 3 1 (nuL ord) false]).length=n+5:=by rw[eS];rfl
   have hdnd:∀e∈es,e.Nodup:=fun e he=>(hed e he).2.1.imp (fun h=>by omega)
   have q2:∀(rem:List Int) (tl:List B),(GH C0 es.length n rem Lh L tl)[2]?=some (.cells [.buf 1 0 es.length es.length]):=fun rem tl=>GH_2
   have q1:∀(rem:List Int) (tl:List B),(GH C0 es.length n rem Lh L tl)[1]?=some (.buf 3 1 (inL rem) false):=fun rem tl=>GH_1
   have q3:∀(rem:List Int) (tl:List B),(GH C0 es.length n rem Lh L tl)[3]?=some (.buf 109 1 (atR n Lh) false):=fun rem tl=>GH_3
   have q1s:∀(rem rem':List Int) (tl:List B),(GH C0 es.length n rem Lh L tl).set 1 (.buf 3 1 (inL rem') false)=GH C0 es.length n rem' Lh L tl:=fun rem rem' tl=>GH_set1 rem'
   have r5:∀(rem:List Int) (X Y:B),(GH C0 es.length n rem Lh L [X,Y])[n+5]?=some Y:=fun rem X Y=>GH_tl 1
   have hsl2:∀(rem:List Int) (X Y:B) (l:List Nat),(GH C0 es.length n rem Lh L [X,Y]).set (n+5) (.buf 3 1 (nuL l) false)=GH C0 es.length n rem Lh L [X,.buf 3 1 (nuL l) false]:=fun rem X Y l=>GH_SL2 X Y l
   have hgl2:∀(rem:List Int) (X Y:B),(GH C0 es.length n rem Lh L [X,Y]).length=n+6:=fun rem X Y=>by rw[eS];rfl
   have hrb2:∀(rem:List Int) (l l':List Nat),∀bl∈GH C0 es.length n rem Lh L [.buf 3 1 (nuL l) false,.buf 3 1 (nuL l') false],rbB (GH C0 es.length n rem Lh L [.buf 3 1 (nuL l) false,.buf 3 1 (nuL l') false]).length bl:=fun rem l l'=>GH_rb hrb0 (hrbT [l,l'])
   have hga2:GH C0 es.length n rem0 Lh L [.buf 3 1 (nuL ord) false]++[B.buf 3 1 [] false]=GH C0 es.length n rem0 Lh L [.buf 3 1 (nuL ord) false,.buf 3 1 (nuL []) false]:=GH_app _;simp -implicitDefEqProofs -dsimp[r4,hnl4,L1,LLn,Ln,ab];refine aK (eY 3 1 [13] (by simp) (W_loopM 112 [13,15,17,78,81,82,83,84,85,86,87,88,89,90,91,92,93,94,95,96,97,98,99,100,101,102,103,104,105,106,107,108,109,110,111] (by simp[mB]<;>rfl) (σ:=Nat×List Int×List Nat) (fun p=>p.1≤n∧GI es ord p.1 p.2.1 p.2.2∧p.2.2.length≤p.1∧(∀j<es.length,p.2.1.getD j 0≤1000000)∧grF L (ord.drop p.1) p.2.1 p.2.2=OUT) (fun p=>n-p.1) (fun p=>[(81,.int .i64 p.1),(13,.buf (n+5) 0 p.2.2.length p.2.2.length)]) (fun p=>GH C0 es.length n p.2.1 Lh L [.buf 3 1 (nuL ord) false,.buf 3 1 (nuL p.2.2) false]) (0,rem0,[]) ⟨by simp,GI.start hed hperm hr0l hr0g,by simp,fun j hj=>by rw[hr0g j hj];have:=hel _ (fm hj);omega,by rw[List.drop_zero,hOUT]⟩ (by simp[hlen1]) (by rw[hga2]) (by intro p _;simp[eS]) ?_));rintro⟨p,rem,out⟩ ⟨hp,gi,hol2,hub,hgh⟩ N3 Q3 hN3 hQ3;simp only at hp gi hol2 hub hgh hN3;by_cases hbp:p<n
   ·have hpo:p<ord.length:=by omega
    have hvn:=hom ord[p] (List.getElem_mem hpo);have hkeep:=gi.keep hon hpo
    have hout:=fun rem'=>GI.out (rem':=rem') (L:=L ord[p]) gi hon hpo hdnd (hLm ord[p])
    have hato:=fun h=>bQ (m:=ord) (x:=p) h
    rw[ah ord 0 hpo]at hato;obtain⟨v,hv⟩:∃v,v=ord[p]:=⟨_,rfl⟩;rw[List.drop_eq_getElem_cons hpo,←hv,grF]at hgh;rw[←hv]at hvn hkeep hout hato
    have hclo:∀j∈L v,aT Tryz.prog (.fn 142 [.ptr 2 0]) [.int .i64 (j:Int)] (GH C0 es.length n rem Lh L [.buf 3 1 (nuL ord) false,.buf 3 1 (nuL out) false]) fun r H'=>r = .bool (decide (rem.getD j 0=1))∧H'=GH C0 es.length n rem Lh L [.buf 3 1 (nuL ord) false,.buf 3 1 (nuL out) false]:=fun j hj=>by
     have hjl:=((hLm v j).1 hj).1;have a2:=q2 rem [.buf 3 1 (nuL ord) false,.buf 3 1 (nuL out) false];have a1:=q1 rem [.buf 3 1 (nuL ord) false,.buf 3 1 (nuL out) false];obtain⟨HH,hHH⟩:∃HH,HH=GH C0 es.length n rem Lh L [.buf 3 1 (nuL ord) false,.buf 3 1 (nuL out) false]:=⟨_,rfl⟩;rw[←hHH]at a1 a2 ⊢
     have hgl:=fun h=>ev (m:=rem) (x:=j) h
     have hll:=(eu rem).trans gi.len;obtain⟨z,hz⟩:∃z,z=rem.getD j 0:=⟨_,rfl⟩;rw[←hz]at hgl ⊢;simp only[aT,List.cons_append,List.nil_append];by_cases hq:z=1
     ·rw[decide_eq_true hq];refine aD tok Tryz.func142 rfl rfl ?_;refine wx ?_;simp -implicitDefEqProofs -dsimp[Tryz.f142,List.replicate,a1,a2,hgl,hll,hjl,hq,L1,LLn,Ln,ab]
     ·rw[decide_eq_false hq];refine aD tok Tryz.func142 rfl rfl ?_;refine wx ?_;simp -implicitDefEqProofs -dsimp[Tryz.f142,List.replicate,a1,a2,hgl,hll,hjl,hq,L1,LLn,Ln,ab]
    have hcl:=contFuncB (GH C0 es.length n rem Lh L [.buf 3 1 (nuL ord) false,.buf 3 1 (nuL out) false]) (v+4) (.fn 142 [.ptr 2 0]) (fun j=>decide (rem.getD j 0=1)) (L v) (Lh v) (hLhe v) (GH_v hvn) (by have:=hLl v;omega) (hrb2 rem ord out) (by simp[rb,rb1,eS]) hclo
    have ra:=fun h=>atR_get (n:=n) (Lh:=Lh) (v:=v) h
    have ral:=atR_len (n:=n) (Lh:=Lh);have hnlo:=aw out;have b3:=q3 rem [.buf 3 1 (nuL ord) false,.buf 3 1 (nuL out) false];have b4:=r4 rem (.buf 3 1 (nuL ord) false) [.buf 3 1 (nuL out) false];have b5:=r5 rem (.buf 3 1 (nuL ord) false) (.buf 3 1 (nuL out) false);have b5s:=hsl2 rem (.buf 3 1 (nuL ord) false) (.buf 3 1 (nuL out) false) (out++[v])
    obtain⟨any,hany⟩:∃any,any=(L v).any fun j=>decide (rem.getD j 0=1):=⟨_,rfl⟩
    rw[←hany]at hcl;refine wx ?_;simp -implicitDefEqProofs -dsimp[hbp,b3,b4,hnl4,hato,ra,ral,hvn,L1,LLn,Ln,ab];refine bK hcl ?_;rintro _ _ ⟨rfl,rfl⟩;rw[←hany]at hgh
    cases any with
    | true =>
     rw[if_pos rfl]at hgh
     have hna:nuL out++[.int .i64 (v:Int)]=nuL (out++[v]):=by simp[nuL,eN]
     simp -implicitDefEqProofs -dsimp[b5,hnlo,hna,b5s,aJ p (by omega),show out.length≤9223372036854775806 by omega,show(out.length+1)*8≤140737488355328 by omega,L1,LLn,Ln,ab];refine hN3 (p+1,rem,out++[v]) _ _ ⟨by simp only;omega,hkeep,by simp;omega,hub,hgh⟩ (by simp only;omega) (by simp) ⟨[],by simp⟩ (by simp[eS]) (hrb2 _ _ _)
    | false =>
     rw[if_neg (by simp)]at hgh
     have hany2:∀j∈L v,rem.getD j 0≠1:=fun j hj he=>by
      have:=List.any_eq_false.1 hany.symm j hj;rw[he]at this;exact this rfl
     have hnLv:(nuL (L v)).length=Lh v:=(aw (L v)).trans (hLhe v).symm
     have bv:∀rem',(GH C0 es.length n rem' Lh L [.buf 3 1 (nuL ord) false,.buf 3 1 (nuL out) false])[v+4]?=some (.buf 3 1 (nuL (L v)) false):=fun rem'=>GH_v hvn
     simp -implicitDefEqProofs -dsimp[b3,ra,ral,hvn,bv,hnLv,L1,LLn,Ln,ab];refine aK (W_loopM 111 [17,100,101,102,103,104,105,106,107,108,109,110] (by simp[mB]<;>rfl) (σ:=Nat×List Int) (fun q=>q.1≤Lh v∧q.2.length=es.length∧(∀j<es.length,q.2.getD j 0=rem.getD j 0-if j∈(L v).take q.1 then 1 else 0)∧((L v).drop q.1).foldl qL q.2=(L v).foldl qL rem) (fun q=>Lh v-q.1) (fun q=>[(100,.int .i64 q.1)]) (fun q=>GH C0 es.length n q.2 Lh L [.buf 3 1 (nuL ord) false,.buf 3 1 (nuL out) false]) (0,rem) ⟨by simp,gi.len,fun j _=>by simp,by rw[List.drop_zero]⟩ (by simp) (by simp) (by intro q _;simp[eS]) ?_);rintro⟨q,rm⟩ ⟨hq,hrl,hrg,hgq⟩ N4 Q4 hN4 hQ4;simp only at hq hrl hrg hgq hN4;by_cases hbq:q<Lh v
     ·have hql:q<(L v).length:=by rw[←hLhe v];exact hbq
      have hatq:=fun h=>bQ (m:=L v) (x:=q) h
      rw[ah (L v) 0 hql]at hatq;have hjm:(L v)[q]∈L v:=List.getElem_mem hql
      have hnt:(L v)[q]∉(L v).take q:=fun hm=>by
       obtain⟨a,ha,he⟩:=List.mem_iff_getElem.1 hm;rw[List.getElem_take]at he
       have haq:a<q:=by rw[List.length_take]at ha;omega
       exact List.pairwise_iff_getElem.1 (hLn v) a q (by omega) hql haq he
      have htk:=List.take_succ_eq_append_getElem hql;obtain⟨j,hj⟩:∃j,j=(L v)[q]:=⟨_,rfl⟩;rw[List.drop_eq_getElem_cons hql,←hj,List.foldl_cons]at hgq;unfold qL at hgq;rw[←hj]at hatq hjm hnt htk;have hjl:=((hLm v j).1 hjm).1;have a2:=q2 rm [.buf 3 1 (nuL ord) false,.buf 3 1 (nuL out) false];have a1:=q1 rm [.buf 3 1 (nuL ord) false,.buf 3 1 (nuL out) false];have a1s:=q1s rm (rm.set j (rm.getD j 0-1)) [.buf 3 1 (nuL ord) false,.buf 3 1 (nuL out) false];have bvr:=bv rm
      have hgl:=fun h=>ev (m:=rm) (x:=j) h
      have hll:=(eu rm).trans hrl;have hst:=ll rm j (rm.getD j 0-1);have hz0:=hrg j hjl;rw[if_neg hnt]at hz0;have hz1:=gi.pos j hjl;have hz2:=hub j hjl;obtain⟨z,hz⟩:∃z,z=rm.getD j 0:=⟨_,rfl⟩;rw[←hz]at hgl hst a1s hz0 hgq;have hw1:IntKind.i64.wrap (z-1)=z-1:=wrap64 (by omega) (by omega);refine wx ?_;simp -implicitDefEqProofs -dsimp[hbq,bvr,hnLv,hatq,a2,a1,a1s,hgl,hll,hst,hjl,hw1,aJ q (by have:=hLl v;have:=hLhe v;omega),L1,LLn,Ln,ab];refine hN4 (q+1,rm.set j (z-1)) _ _ ⟨by simp only;omega,by simp[hrl],fun i hi=>?_,hgq⟩ (by simp only;omega) (by simp) ⟨[],by simp⟩ (by simp[eS];omega) (hrb2 _ _ _);simp only;rw[htk];by_cases hij:j=i
      ·subst hij;rw[ac _ (by omega),if_pos (List.mem_append_right _ (List.mem_singleton.2 rfl)),hz0];omega
      ·rw[af _ hij,hrg i hi]
       have:(i∈(L v).take q++[j])↔i∈(L v).take q:=by
        rw[List.mem_append,List.mem_singleton];exact⟨fun h=>h.elim id (fun e=>absurd e.symm hij),.inl⟩
       simp only[this]
     ·obtain rfl:q=Lh v:=by omega
      have htk:(L v).take (Lh v)=L v:=List.take_of_length_le (by rw[hLhe v];exact Nat.le_refl _);rw[htk]at hrg;rw[List.drop_of_length_le (by rw[hLhe v];exact Nat.le_refl _),List.foldl_nil]at hgq;rw[←hgq]at hgh;have gi2:=hout rm hany2 hrl hrg;refine wx ?_;simp -implicitDefEqProofs -dsimp[hbq,L1,LLn,Ln,ab];refine hQ4 _ _ _ ?_;simp -implicitDefEqProofs -dsimp[aJ p (by omega),L1,LLn,Ln,ab];refine hN3 (p+1,rm,out) _ _ ⟨by simp only;omega,gi2,by simp only;omega,fun j hj=>?_,hgh⟩ (by simp only;omega) (by simp) ⟨[],by simp⟩ (by simp[eS]) (hrb2 _ _ _);have:=hub j hj;simp only;rw[hrg j hj];split<;>omega
   ·obtain rfl:n=p:=by omega
    rw[List.drop_of_length_le (by omega)]at hgh;have hgo:out=OUT:=hgh
    have hlt5:n+5<(GH C0 es.length n rem Lh L [.buf 3 1 (nuL ord) false,.buf 3 1 (nuL out) false]).length:=by rw[hgl2];omega
    have hs:=sort_h hlt5 (hrb2 rem ord out) out out.length rfl (by omega);simp only[GH_SL2]at hs;obtain⟨res,hres⟩:∃res,res=isF ltN (out.length-1) 1 out:=⟨_,rfl⟩
    have hrl:out.length=res.length:=by
     rw[hres];by_cases h0:out.length=0
     ·rw[h0];exact h0.symm
     ·exact(ja ltN _ _ _ (by omega)).length_eq.symm
    have hresG:res=GF:=by rw[hGO,hres,hgo]
    rw[←hres]at hs;refine wx ?_;simp -implicitDefEqProofs -dsimp[hbp,L1,LLn,Ln,ab];refine hQ3 _ _ _ ?_;simp -implicitDefEqProofs -dsimp[L1,LLn,Ln,ab];refine bK hs ?_;rintro _ _ rfl;simp -implicitDefEqProofs -dsimp[L1,LLn,Ln,ab];rw[←hresG];refine .tup _ _ rfl (fun i c d h1 h2=>?_)
    match i with
    | 0=>simp at h1 h2;subst h1;subst h2;exact expx_buf (r5 rem _ _) (hrl.trans (aw res).symm) (fun x hx=>(cx res x hx).1)
    | 1=>simp at h1 h2;subst h1;subst h2;exact .pure _ (by simp)
    | i+2=>simp at h1
def wl(ws:List Int):List Nat→Int
 | []=>0
 | v::l=>ws.getD v 0+wl ws l
theorem ml(ws:List Int):∀a b:List Nat,wl ws (a++b)=wl ws a+wl ws b
 | [],b=>by simp[wl]
 | v::a,b=>by rw[List.cons_append,wl,wl,ml ws a b];omega
theorem gU(ws:List Int)(T:Nat→Bool):∀n,dv ws T n=wl ws ((List.range n).filter T)
 | 0=>rfl
 | n+1=>by
  rw[dv,List.range_succ,List.filter_append,ml,gU ws T n,List.filter_cons,List.filter_nil];by_cases h:T n=true
  ·rw[if_pos h,if_pos h];simp[wl]
  ·rw[if_neg h,if_neg h];simp[wl]
theorem kg:∀l1 l2:List Nat,l1.Pairwise (· < ·)→l2.Pairwise (· < ·)→(∀x,x∈l1↔x∈l2)→l1=l2
 | [],[],_,_,_=>rfl
 | [],y::l2,_,_,h=>by have:=(h y).2 List.mem_cons_self;cases this
 | x::l1,[],_,_,h=>by have:=(h x).1 List.mem_cons_self;cases this
 | x::l1,y::l2,h1,h2,h=>by
  obtain⟨a1,a2⟩:=List.pairwise_cons.1 h1;obtain⟨b1,b2⟩:=List.pairwise_cons.1 h2;have hx:=(h x).1 List.mem_cons_self;have hy:=(h y).2 List.mem_cons_self
  have e:x=y:=by
   rcases List.mem_cons.1 hx with e | hx
   ·exact e
   ·rcases List.mem_cons.1 hy with e | hy
    ·exact e.symm
    ·have:=b1 x hx;have:=a1 y hy;omega
  subst e;congr 1;refine kg l1 l2 a2 b2 (fun z=>⟨fun hz=>?_,fun hz=>?_⟩)
  ·rcases List.mem_cons.1 ((h z).1 (List.mem_cons_of_mem _ hz)) with e | hz2
   ·subst e;have:=a1 z hz;omega
   ·exact hz2
  ·rcases List.mem_cons.1 ((h z).2 (List.mem_cons_of_mem _ hz)) with e | hz2
   ·subst e;have:=b1 z hz;omega
   ·exact hz2
theorem gn{n:Nat}{l:List Nat}(hs:l.Pairwise (· < ·))(hn:∀v∈l,v<n):l=(List.range n).filter fun v=>decide (v∈l):=by
 refine kg _ _ hs (List.pairwise_lt_range.filter _) (fun x=>?_);rw[List.mem_filter,List.mem_range,decide_eq_true_iff];exact⟨fun h=>⟨hn x h,h⟩,fun h=>h.2⟩
theorem wl_le{ws:List Int}{n:Nat}(hw:∀v<n,1≤ws.getD v 0∧ws.getD v 0≤1000000):∀l:List Nat,(∀v∈l,v<n)→0≤wl ws l∧wl ws l≤1000000*(l.length:Int)
 | [],_=>by simp[wl]
 | v::l,h=>by
  have h1:=wl_le hw l (fun u hu=>h u (List.mem_cons_of_mem _ hu));have h2:=hw v (h v List.mem_cons_self);rw[wl,List.length_cons];omega
theorem index_I(e:List Nat)(v:Nat)(fe:Bool)(hl:e.length≤1000000):aR Tryz.prog 186 [Ln fe e,.int .i64 (v:Int)] fun r=>r = .int .i64 (ixN (fun u=>decide (u=v)) e 0):=by
 refine aC (aD tok Tryz.func186 rfl rfl ?_);refine wx ?_;simp -implicitDefEqProofs -dsimp[Tryz.f186,List.replicate,Ln];refine aK (W_loopM 19 [4,5,8,9,10,11,12,13,14,15,16,17,18] (by simp[mB]<;>rfl) (σ:=Nat) (fun i=>ixN (fun u=>decide (u=v)) e i=ixN (fun u=>decide (u=v)) e 0) (fun i=>e.length-i) (fun i=>[(8,.int .i64 i)]) (fun _=>[]) 0 rfl (by simp) rfl (by simp) ?_);intro i hx N Q hN hQ;by_cases hb:i<e.length
 ·rw[ixN,dif_pos hb]at hx;obtain⟨u,hu⟩:∃u,u=e[i]:=⟨_,rfl⟩;rw[←hu]at hx;have hu':=hu.symm;by_cases hq:u=v
  ·rw[if_pos (decide_eq_true hq)]at hx;refine wx ?_;simp -implicitDefEqProofs -dsimp[hb,hu',eN,hq];refine hQ _ _ _ ?_;simp -implicitDefEqProofs -dsimp[];simpa using hx
  ·rw[if_neg (by simp[hq])]at hx;refine wx ?_;simp -implicitDefEqProofs -dsimp[hb,hu',eN,show ¬(v:Int)=u by omega,show ¬v=u by omega,aJ i (by omega)];refine hN (i+1) _ _ hx (by omega) (by simp) ⟨[],rfl⟩ (by simp) (by simp)
 ·rw[ixN,dif_neg hb]at hx;refine wx ?_;simp -implicitDefEqProofs -dsimp[hb];refine hQ _ _ _ ?_;simp -implicitDefEqProofs -dsimp[];simpa using hx
theorem contains_I(e:List Nat)(v:Nat)(fe:Bool)(hl:e.length≤1000000):aR Tryz.prog 144 [Ln fe e,.int .i64 (v:Int)] fun r=>r = .bool (decide (v∈e)):=by
 have h0:=ixN_any (fun u=>decide (u=v)) e 0;rw[List.drop_zero]at h0
 have h1:(e.any fun u=>decide (u=v))=decide (v∈e):=by
  rw[Bool.eq_iff_iff];simp
 rw[h1]at h0;have hc:=index_I e v fe hl;refine aC (aD tok Tryz.func144 rfl rfl ?_);refine wx ?_;simp -implicitDefEqProofs -dsimp[Tryz.f144,List.replicate];refine(aF (hc) (by simp)).mono ?_;rintro r H' ⟨rfl,rfl⟩;simp -implicitDefEqProofs -dsimp[];exact decide_eq_decide.1 h0
theorem weight_u{ws:List Int}{es:List (List Nat)}(hb:HsB ws es)(f g fl:Bool)(l:List Nat)(hs:l.Pairwise (· < ·))(hn:∀v∈l,v<ws.length):aR Tryz.prog 104 [ab f g ws es,Ln fl l] fun r=>r = .tup [.int .i64 (wl ws l),.int .i64 0]:=by
 have hel:∀e∈es,e.length≤1000000:=fun e he=>by have:=hb.ed.len e he;have:=hb.n;omega
 have cv:=lp ws es f g hel;rw[fY.2 hb]at cv;have hn2:=hb.n
 have hll:l.length≤200:=by
  have hnd:l.Nodup:=hs.imp (fun h=>by omega);have:=hnd.length_le_of_subset (l₂:=List.range ws.length) (fun v hv=>List.mem_range.2 (hn v hv));simp at this;omega
 simp only[ab,L1,LLn]at cv;refine aC (aD tok Tryz.func104 rfl rfl ?_);refine wx ?_;simp -implicitDefEqProofs -dsimp[Tryz.f104,List.replicate,ab,L1,LLn,Ln];refine(aF (cv) (by simp)).mono ?_;rintro r H' ⟨rfl,rfl⟩;simp -implicitDefEqProofs -dsimp[L1,LLn,Ln];refine aK (W_loopM 46 [4,5,7,8,9,17,18,19,20,21,22,23,24,25,26,27,28,29,30,31,32,33,34,35,36,37,38,39,40,41,42,43,44,45] (by simp[mB]<;>rfl) (σ:=Nat) (fun i=>i≤l.length) (fun i=>l.length-i) (fun i=>[(17,.int .i64 i),(7,.int .i64 (wl ws (l.take i)))]) (fun _=>[B.cells [.lst 1 f (ws.map aW),.lst 1 g (es.map (Ln false))]]) 0 (by omega) (by simp[wl]) rfl (by simp) ?_);intro i hi N Q hN hQ;by_cases hbi:i<l.length
 ·have hvn:=hn l[i] (List.getElem_mem hbi);have hnd:l.Nodup:=hs.imp (fun h=>by omega);have hnt:=(pb hnd hbi).1
  have htk:wl ws (l.take (i+1))=wl ws (l.take i)+ws.getD l[i] 0:=by rw[List.take_succ_eq_append_getElem hbi,ml];simp[wl]
  have hb1:=wl_le hb.w (l.take i) (fun v hv=>hn v (List.mem_of_mem_take hv))
  have hlt:(l.take i).length≤200:=by rw[List.length_take];omega
  obtain⟨v,hv⟩:∃v,v=l[i]:=⟨_,rfl⟩;rw[←hv]at hvn hnt htk;have hv':=hv.symm
  have hc:=fun fl=>contains_I (l.take i) v fl (by omega)
  rw[decide_eq_false hnt]at hc;simp only[Ln,List.map_take]at hc;have hwl:=(ah ws 0 hvn).symm;have hwb:=hb.w v hvn;obtain⟨w,hw⟩:∃w,w=ws.getD v 0:=⟨_,rfl⟩;rw[←hw]at hwl hwb htk;obtain⟨s,hs0⟩:∃s,s=wl ws (l.take i):=⟨_,rfl⟩;rw[←hs0]at htk hb1;have hw1:IntKind.i64.wrap (s+w)=s+w:=wrap64 (by omega) (by omega);rw[←hs0];refine wx ?_;simp -implicitDefEqProofs -dsimp[hbi,hv',eN,hvn,show ¬(v:Int)<0 by omega,show ¬(ws.length:Int)≤v by omega,show ¬ws.length≤v by omega,show i≤l.length by omega,L1,LLn,Ln];refine(aF (hc _) (by simp;intro x hx;obtain⟨y,_,rfl⟩:=List.mem_map.1 (List.mem_of_mem_take hx);exact eN_pure y)).mono ?_;rintro r H' ⟨rfl,rfl⟩;simp -implicitDefEqProofs -dsimp[hvn,hwl,aW,hw1,aJ i (by omega),L1,LLn,Ln];refine hN (i+1) _ _ (by omega) (by omega) (by simp[htk]) ⟨[],rfl⟩ (by simp) (by simp)
 ·obtain rfl:i=l.length:=by omega
  rw[List.take_length];refine wx ?_;simp -implicitDefEqProofs -dsimp[hbi,L1,LLn,Ln];refine hQ _ _ _ ?_;simp -implicitDefEqProofs -dsimp[L1,LLn,Ln]
structure MinOk (n:Nat) (ws:List Int) (es:List (List Nat)) (T:Nat→Bool):Prop where
 h:∀e∈es,∃v∈e,T v=true
 m:∀T':Nat→Bool,(∀e∈es,∃v∈e,T' v=true)→dv ws T n≤dv ws T' n
theorem pT(n:Nat)(T:Nat→Bool)(ws:List Int):∀j,phi (List.replicate n 0) T ws j=dv ws T j
 | 0=>rfl
 | j+1=>by
  have h0:(List.replicate n 0).getD j 0=0:=by
   simp only[List.getD,List.getElem?_replicate];split<;>rfl
  rw[phi,dv,pT n T ws j,h0];by_cases h:T j=true<;>simp[h]
theorem wsum_zero(n:Nat)(ws:List Int):∀j,dv ws (fun u=>decide ((List.replicate n 0).getD u 0=1)) j=0
 | 0=>rfl
 | j+1=>by
  have h0:(List.replicate n 0).getD j 0=0:=by
   simp only[List.getD,List.getElem?_replicate];split<;>rfl
  rw[dv,wsum_zero n ws j,h0];simp
theorem fh(n:Nat):dl (List.replicate n 0)=n:=by
 unfold dl;rw[List.countP_replicate];simp
theorem min_all{ws:List Int}{es:List (List Nat)}(hb:HsB ws es){lf:Int}(hlf:2^(ws.length+1)-1≤lf){l:List Nat}(hl:GrOk ws.length es l):
  ∃P T,nC ws es (ws.length+1) (List.replicate ws.length 0) lf ⟨l,wl ws l⟩ 0=some P∧lf-(2^(ws.length+1)-1)≤P.1∧MinOk ws.length ws es T∧P.2.l=(List.range ws.length).filter T∧P.2.w=dv ws T ws.length:=by
 have h0:∀v,(List.replicate ws.length 0).getD v 0=0:=fun v=>by
  simp only[List.getD,List.getElem?_replicate];split<;>rfl
 have g:Wok ws.length ws (List.replicate ws.length 0):=⟨rfl,by simp,fun v hv=>(hb.w v hv).1,fun v _=>by rw[h0];omega⟩;obtain⟨lf',b',m1,m2,m3,m4,m5⟩:=min_ok hb.ed (ws.length+1) (List.replicate ws.length 0) lf ⟨l,wl ws l⟩ 0 g (by rw[fh];omega) (by rw[fh];exact hlf) (by rw[wsum_zero]);rw[fh]at m2
 have hall:∀T':Nat→Bool,(∀e∈es,∃v∈e,T' v=true)→b'.w≤dv ws T' ws.length:=fun T' hT=>by
  have hX:Ext ws.length es (List.replicate ws.length 0) T':=⟨fun v _ h=>by rw[h0]at h;omega,fun v _ h=>by rw[h0]at h;omega,hT⟩;have:=m4 T' hX;rw[pT]at this;omega
 rcases m5 with rfl | ⟨T,hT⟩
 ·refine⟨_,fun v=>decide (v∈l),m1,m2,⟨fun e he=>?_,fun T' hT'=>?_⟩,gn hl.s hl.n,?_⟩
  ·obtain⟨v,h1,h2⟩:=hl.h e he;exact⟨v,h1,by simpa using h2⟩
  ·have:=hall T' hT';rw[gU,←gn hl.s hl.n];exact this
  ·rw[gU,←gn hl.s hl.n]
 ·refine⟨_,T,m1,m2,⟨hT.h,fun T' hT'=>?_⟩,hT.l,hT.w⟩;have:=hall T' hT';rw[hT.w]at this;exact this
noncomputable def nB(ws:List Int)(es:List (List Nat))(lf:Int):List Nat:=match nC ws es (ws.length+1) (List.replicate ws.length 0) lf ⟨iw ws es,wl ws (iw ws es)⟩ 0 with
 | some P=>P.2.l
 | none=>[]
theorem minL_ok{ws:List Int}{es:List (List Nat)}(hb:HsB ws es)(hn:ws.length≤12){lf:Int}(hlf:2^(ws.length+1)-1≤lf):∃T,MinOk ws.length ws es T∧nB ws es lf=(List.range ws.length).filter T:=by
 obtain⟨P,T,m1,m2,m3,m4,m5⟩:=min_all hb hlf (pu hb hn);refine⟨T,m3,?_⟩;unfold nB;rw[m1];exact m4
def PL(ws:List Int)(es:List (List Nat))(lf:Int)(r:V):Prop:=∃fl,r = .tup [.lst 1 fl ((nB ws es lf).map eN),.int .i64 (wl ws (nB ws es lf)),.int .i64 0]
theorem minimum_u{ws:List Int}{es:List (List Nat)}(hb:HsB ws es)(f g:Bool)(hn:ws.length≤12)(lf:Int)(hlf:2^(ws.length+1)-1≤lf)(h1:1≤lf)(h2:lf≤9000000000000000000):
  aR Tryz.prog 64 [ab f g ws es,.int .i64 lf] (PL ws es lf):=by
 have hgr:=pu hb hn;have cg:=greedy_u hb f g hn;have hn2:=hb.n;simp only[ab,L1,LLn,Ln]at cg;refine aC (aD tok Tryz.func64 rfl rfl ?_);refine wx ?_;simp -implicitDefEqProofs -dsimp[Tryz.f64,List.replicate,ab,L1,LLn,Ln];obtain⟨l,hle⟩:∃l,l=iw ws es:=⟨_,rfl⟩;rw[←hle]at cg hgr;have hl:=hgr;refine(aF (cg) (by simp)).mono ?_;rintro r H' ⟨rfl,rfl⟩;have cw:=weight_u hb f g false l hl.s hl.n;obtain⟨P,T,m1,m2,m3,m4,m5⟩:=min_all hb hlf hl
 have hML:nB ws es lf=P.2.l:=by unfold nB;rw[←hle,m1]
 have hMw:P.2.w=wl ws P.2.l:=by rw[m4,m5,gU]
 have c1:=jZ [B.cells [.lst 1 f (ws.map aW),.lst 1 g (es.map (Ln false))],B.cells [.lst 1 false (l.map eN),.int .i64 (wl ws l)]] f g ws es lf hb.n
 have hr0:∀bl∈[B.cells [.lst 1 f (ws.map aW),.lst 1 g (es.map (Ln false))],B.cells [.lst 1 false (l.map eN),.int .i64 (wl ws l)]],rbB [B.cells [.lst 1 f (ws.map aW),.lst 1 g (es.map (Ln false))],B.cells [.lst 1 false (l.map eN),.int .i64 (wl ws l)]].length bl:=by
  intro bl hbl;simp only[List.mem_cons,List.not_mem_nil,or_false]at hbl
  rcases hbl with rfl | rfl
  ·intro c hc;simp only[List.mem_cons,List.not_mem_nil,or_false]at hc
   rcases hc with rfl | rfl
   ·exact cI (L1_pure f ws) rfl
   ·exact cI (LLn_pure g es) rfl
  ·exact bcl_rb _ false ⟨l,wl ws l⟩
 have sa:=nsH_at hr0 f g ws es lf;have o:BOk (nsH [B.cells [.lst 1 f (ws.map aW),.lst 1 g (es.map (Ln false))],B.cells [.lst 1 false (l.map eN),.int .i64 (wl ws l)]] f g ws es lf) 4 3 1:=⟨by simp[nsH],by simp[nsH],by simp[nsH],by omega,by omega,by omega,sa.rb⟩;have hp1:(0:Int)≤2^(ws.length+1):=Int.le_of_lt (Int.pow_pos (by omega));have c2:=minimum_h (f:=f) (g:=g) o hb (ws.length+1) (List.replicate ws.length 0) lf ⟨l,wl ws l⟩ false 0 P (by simp) m1 (by omega) h2 (by omega) (by omega);have hH:HS (nsH [B.cells [.lst 1 f (ws.map aW),.lst 1 g (es.map (Ln false))],B.cells [.lst 1 false (l.map eN),.int .i64 (wl ws l)]] f g ws es lf) 4 3 1 f g ws es lf (List.replicate ws.length 0) (bcl false ⟨l,wl ws l⟩)=nsH [B.cells [.lst 1 f (ws.map aW),.lst 1 g (es.map (Ln false))],B.cells [.lst 1 false (l.map eN),.int .i64 (wl ws l)]] f g ws es lf:=rfl;rw[hH]at c2;simp only[ab,L1,LLn,Ln]at cw;simp only[ab,L1,LLn]at c1;simp -implicitDefEqProofs -dsimp[show ¬lf<1 by omega,L1,LLn,Ln];refine(aF (cw) (by simp)).mono ?_;rintro r H' ⟨rfl,rfl⟩;simp -implicitDefEqProofs -dsimp[L1,LLn,Ln];refine bK c1 ?_;rintro _ _ ⟨rfl,rfl⟩;simp -implicitDefEqProofs -dsimp[L1,LLn,Ln];refine bK c2 ?_;rintro _ _ ⟨rfl,fl,rfl⟩;have gB:(HS (nsH [B.cells [.lst 1 f (ws.map aW),.lst 1 g (es.map (Ln false))],B.cells [.lst 1 false (l.map eN),.int .i64 (wl ws l)]] f g ws es lf) 4 3 1 f g ws es P.1 (List.replicate ws.length 0) (bcl fl P.2))[1]?=some (.cells [.lst 1 fl (P.2.l.map eN),.int .i64 P.2.w]):=o.atb;simp -implicitDefEqProofs -dsimp[gB,L1,LLn,Ln];refine .inr ⟨aI (by kernel_rfl),?_⟩;exact⟨fl,by rw[hML,hMw]⟩
section
theorem enough_meets{t:Tb}{fds:List Fd}{L K:List Cr}(hL:Okq (aS t fds L))(hc:∀c∈L,c∈ak t)(hK:Nec t fds K):∃c∈K,c∈L:=by
 refine Classical.byContradiction fun h=>hK (okq_mono (fun c hcl=>?_) hL)
 exact cU.2 ⟨hc c hcl,fun hk=>h ⟨c,hk,hcl⟩⟩
def dg(vs:List Cr)(v:Nat):Cr:=vs.getD v ⟨0,0⟩
open Classical in
noncomputable def cP(vs:List Cr)(K:List Cr):List Nat:=(List.range vs.length).filter fun v=>decide (dg vs v∈K)
theorem iU{vs K:List Cr}{v:Nat} : v∈cP vs K↔v<vs.length∧dg vs v∈K:=by
 unfold cP;rw[List.mem_filter,List.mem_range];simp
def aX(n:Nat):List Int:=List.replicate n 1
theorem wl_ones(n:Nat):∀l:List Nat,(∀v∈l,v<n)→wl (aX n) l=l.length
 | [],_=>rfl
 | v::l,h=>by
  rw[wl,wl_ones n l (fun u hu=>h u (List.mem_cons_of_mem _ hu)),List.length_cons]
  have:(aX n).getD v 0=1:=by
   unfold aX;rw[ah _ _ (by simpa using h v List.mem_cons_self)];simp
  rw[this];omega
theorem mj(n:Nat)(T:Nat→Bool):dv (aX n) T n=(((List.range n).filter T).length:Nat):=by
 rw[gU,wl_ones n _ (fun v hv=>List.mem_range.1 (List.mem_filter.1 hv).1)]
def ck(vs:List Cr)(T:Nat→Bool):List Cr:=((List.range vs.length).filter T).map (dg vs)
theorem qW{vs:List Cr}{T:Nat→Bool}{c:Cr} : c∈ck vs T↔∃v,v<vs.length∧T v=true∧dg vs v=c:=by
 unfold ck;rw[List.mem_map];constructor
 ·rintro⟨v,h1,h2⟩;rw[List.mem_filter,List.mem_range]at h1;exact⟨v,h1.1,h1.2,h2⟩
 ·rintro⟨v,h1,h2,h3⟩;exact⟨v,List.mem_filter.2 ⟨List.mem_range.2 h1,h2⟩,h3⟩
theorem cAtD_inj{vs:List Cr}(hn:vs.Nodup){a b:Nat}(ha:a<vs.length)(hb:b<vs.length)(h:dg vs a=dg vs b):a=b:=by
 unfold dg at h;rw[ah _ _ ha,ah _ _ hb]at h
 rcases Nat.lt_trichotomy a b with h1 | h1 | h1
 ·exact absurd h (List.pairwise_iff_getElem.1 hn a b ha hb h1)
 ·exact h1
 ·exact absurd h.symm (List.pairwise_iff_getElem.1 hn b a hb ha h1)
theorem iN{α β:Type}{f:α→β} : ∀{l:List α},l.Nodup→(∀a∈l,∀b∈l,f a=f b→a=b)→(l.map f).Nodup
 | [],_,_=>by simp
 | a::l,hn,hi=>by
  obtain⟨h1,h2⟩:=List.nodup_cons.1 hn;rw[List.map_cons,List.nodup_cons];refine⟨fun hm=>?_,iN h2 (fun x hx y hy=>hi x (List.mem_cons_of_mem _ hx) y (List.mem_cons_of_mem _ hy))⟩;obtain⟨b,hb,he⟩:=List.mem_map.1 hm;have:=hi a List.mem_cons_self b (List.mem_cons_of_mem _ hb) he.symm;subst this;exact h1 hb
theorem hit_le{t:Tb}{fds:List Fd}{vs:List Cr}{cores:List (List Cr)}(hv:vs.Nodup)(hsub:∀K∈cores,∀c∈K,c∈vs)(hnec:∀K∈cores,Nec t fds K){T:Nat→Bool}(hT:MinOk vs.length (aX vs.length) (cores.map (cP vs)) T){L:List Cr}(hL:Okq (aS t fds L))(hLc:∀c∈L,c∈ak t)(hLn:L.Nodup):(ck vs T).length≤L.length:=by
 classical
 have hm:=hT.m (fun v=>decide (dg vs v∈L)) (fun e he=>by
  obtain⟨K,hK,rfl⟩:=List.mem_map.1 he;obtain⟨c,h1,h2⟩:=enough_meets hL hLc (hnec K hK);obtain⟨v,hvl,rfl⟩:=List.mem_iff_getElem.1 (hsub K hK c h1);have hg:dg vs v=vs[v]:=ah _ _ hvl
  exact⟨v,iU.2 ⟨hvl,by rw[hg];exact h1⟩,by rw[hg];exact decide_eq_true h2⟩)
 rw[mj,mj]at hm
 have h1:(ck vs T).length=((List.range vs.length).filter T).length:=by simp[ck]
 have h2:((List.range vs.length).filter fun v=>decide (dg vs v∈L)).length≤L.length:=by
  have hnd:(((List.range vs.length).filter fun v=>decide (dg vs v∈L)).map (dg vs)).Nodup:=iN (List.nodup_range.filter _) (fun a ha b hb he=>cAtD_inj hv (List.mem_range.1 (List.mem_filter.1 ha).1) (List.mem_range.1 (List.mem_filter.1 hb).1) he)
  have:=hnd.length_le_of_subset (l₂:=L) (fun c hc=>by
   obtain⟨v,h3,rfl⟩:=List.mem_map.1 hc
   exact of_decide_eq_true (List.mem_filter.1 h3).2)
  simpa using this
 omega
theorem core_new{t:Tb}{fds:List Fd}{vs:List Cr}{cores:List (List Cr)}(hsub:∀K∈cores,∀c∈K,c∈vs){T:Nat→Bool}(hT:∀e∈cores.map (cP vs),∃v∈e,T v=true){K:List Cr}(hK:∀c∈K,c∉ck vs T):K∉cores:=by
 intro hm;obtain⟨v,h1,h2⟩:=hT _ (List.mem_map.2 ⟨K,hm,rfl⟩);obtain⟨h3,h4⟩:=iU.1 h1;exact hK _ h4 (qW.2 ⟨v,h3,h2,rfl⟩)
end
theorem begin2(t:Tb)(ff gg cf:Bool)(fds:List Fd)(cells:List Cr)(hv:TbV t)(hs:aY cells)(hcl:cells.length≤1000000)(b0 b1:B)(hb:∀bl∈[b0,b1],rbB 1 bl):
  bA Tryz.prog 51 [aG ff gg t,LC cf cells] [b0,b1] fun r' H'=>r' = .ptr 3 0∧H'=hY [b0,b1] ff gg t (aS t fds cells).K:=by
 have hm:=hv.rows;have hn:=hv.attrs;obtain⟨K,hKe⟩:∃K,K=(aS t fds cells).K:=⟨_,rfl⟩;rw[←hKe];obtain⟨n,hne⟩:∃n,n=t.attrs.length:=⟨_,rfl⟩;obtain⟨m,hme⟩:∃m,m=t.rows.length:=⟨_,rfl⟩;have hne':=hne.symm;have hme':=hme.symm;rw[hne']at hn;rw[hme']at hm
 have hb0:∀k,1≤k→rbB k b0:=fun k hk=>eK hk (hb _ (by simp))
 have hb1:∀k,1≤k→rbB k b1:=fun k hk=>eK hk (hb _ (by simp))
 refine aD tok Tryz.func51 rfl rfl ?_;refine wx ?_;simp -implicitDefEqProofs -dsimp[Tryz.f51,List.replicate,aG,LS,LR,hne',hme'];refine aK (co 3 1 [] 3 [1] rfl (et _ _) (by simp) (co 113 1 [] 3 [2] rfl (et _ _) (by simp) (W_loopM 77 [7,8,9,10,19,20,21,22,23,24,25,26,27,28,29,30,31,32,33,34,35,36,37,38,39,40,41,42,43,44,45,46,47,48,49,50,51,52,53,54,55,56,57,58,59,60,61,62,63,64,65,66,67,68,69,70,71,72,73,74,75,76] (by simp[mB]<;>rfl) (σ:=Nat×Nat) (fun p=>p.1≤m∧p.2=p.1*n) (fun p=>m-p.1) (fun p=>[(19,.int .i64 p.1)]) (fun p=>[b0,b1,B.cells [.str t.name,.lst 1 ff (t.attrs.map V.str),.lst 2 gg (t.rows.map aL)],B.cells [.int .i64 n,.buf 4 0 p.2 p.2,.buf 5 0 p.2 p.2],B.buf 3 1 (paR p.2) false,B.buf 113 1 (knL K p.2) false]) (0,0) ⟨by simp,by simp⟩ (by simp) (by simp[paR_zero,knL_zero]) (by simp) ?_)));rintro⟨i,c⟩ ⟨hi,hc⟩ N Q hN hQ;simp only at hi hc hN;by_cases hib:i<m
 ·have hit:i<t.rows.length:=by omega
  obtain⟨rw,hrw⟩:∃rw,rw=t.rows[i]:=⟨_,rfl⟩;have hrw':=hrw.symm
  have hvl:rw.vals.length=n:=by rw[hrw,hne];exact hv.len _ (List.getElem_mem hit)
  refine wx ?_;simp -implicitDefEqProofs -dsimp[hib,hrw',aL,hit,LV,hne'];refine aK (W_loopM 76 [8,9,10,26,27,28,29,30,31,32,33,34,35,36,37,38,39,40,41,42,43,44,45,46,47,48,49,50,51,52,53,54,55,56,57,58,59,60,61,62,63,64,65,66,67,68,69,70,71,72,73,74,75] (by simp[mB]<;>rfl) (σ:=Nat×Nat) (fun p=>p.1≤n∧p.2=i*n+p.1) (fun p=>n-p.1) (fun p=>[(26,.int .i64 p.1)]) (fun p=>[b0,b1,B.cells [.str t.name,.lst 1 ff (t.attrs.map V.str),.lst 2 gg (t.rows.map aL)],B.cells [.int .i64 n,.buf 4 0 p.2 p.2,.buf 5 0 p.2 p.2],B.buf 3 1 (paR p.2) false,B.buf 113 1 (knL K p.2) false,B.cells [.int .i64 rw.id,.lst 3 false (rw.vals.map ap)]]) (0,c) ⟨by simp,by simp[hc]⟩ (by simp) (by simp) (by simp) ?_);rintro⟨a,c2⟩ ⟨ha,hc2⟩ N2 Q2 hN2 hQ2;simp only at ha hc2 hN2;by_cases hab:a<n
  ·have hlt:=aq hib hab;have hbig:m*n≤1000*16:=Nat.mul_le_mul hm hn;have hpl:=paR_len c2;have hkl:=lg K c2;have hps:=paR_succ c2;have hks:=knL_succ K c2
   have hat:bP t (i*n+a)=⟨rw.id,(a:Int)⟩:=by
    rw[hne,fS t (hne▸hab),av hit,←hrw]
   have hvt:bC t (i*n+a)=vAt rw.vals a:=by
    rw[hne,dr t (hne▸hab),av hit,←hrw]
   have hbs:=iY cells ⟨rw.id,(a:Int)⟩ cf hcl;simp only[aN]at hbs;have hmem:=mf hs ⟨rw.id,(a:Int)⟩;have hcap:=cap8 c2 (by omega)
   cases hq:bsF cells ⟨rw.id,(a:Int)⟩ with
   | true =>
    rw[hq]at hbs
    have hKc:K c2=none:=by rw[hKe,hc2];exact lT (by rw[hat];exact hmem.1 hq)
    rw[hKc]at hks;refine wx ?_;simp -implicitDefEqProofs -dsimp[hab];refine aK (am tok mixed [11,14] [(0,[1])] [] (by kernel_rfl) fun C K hC hK=>?_);simp -implicitDefEqProofs [hpl,hcap];refine hK _ _ ?_;simp -implicitDefEqProofs -dsimp[];refine(aF (hbs) (by simp)).mono ?_;rintro r H' ⟨rfl,rfl⟩;simp -implicitDefEqProofs -dsimp[hkl,hcap,aJ a (by omega),fR];refine hN2 (a+1,c2+1) _ _ ⟨by simp only;omega,by simp only;omega⟩ (by simp only;omega) (by simp) ⟨[],by simp[hps,hks,fR]⟩ (by simp[LC]) (by simp[↓hb0,↓hb1])
   | false =>
    rw[hq]at hbs
    have hKc:K c2=some (vAt rw.vals a):=by rw[hKe,hc2,←hvt];exact ef (by rw[hat];exact fun h=>by rw[hmem.2 h]at hq;cases hq)
    rw[hKc]at hks
    have hva:a<rw.vals.length:=by omega
    have hvi:=fC hva;rw[hvi]at hks;refine wx ?_;simp -implicitDefEqProofs -dsimp[hab];refine aK (am tok mixed [11,14] [(0,[1])] [] (by kernel_rfl) fun C K hC hK=>?_);simp -implicitDefEqProofs [hpl,hcap];refine hK _ _ ?_;simp -implicitDefEqProofs -dsimp[];refine(aF (hbs) (by simp)).mono ?_;rintro r H' ⟨rfl,rfl⟩;simp -implicitDefEqProofs -dsimp[];refine aK (am tok mixed [10,13] [(0,[1])] [] (by kernel_rfl) fun C K hC hK=>?_);simp -implicitDefEqProofs [hkl,hcap,hva,ap,fR];refine hK _ _ ?_;simp -implicitDefEqProofs -dsimp[aJ a (by omega)];refine hN2 (a+1,c2+1) _ _ ⟨by simp only;omega,by simp only;omega⟩ (by simp only;omega) (by simp) ⟨[],by simp[hps,hks,fR]⟩ (by simp[LC]) (by simp[↓hb0,↓hb1])
  ·have hae:a=n:=by omega
   subst hae;refine wx ?_;simp -implicitDefEqProofs -dsimp[hab];refine hQ2 _ _ _ ?_;simp -implicitDefEqProofs -dsimp[aJ i (by omega)];refine hN (i+1,c2) _ _ ⟨by simp only;omega,by simp only;rw[hc2,Nat.add_mul];omega⟩ (by simp only;omega) (by simp) ⟨_,rfl⟩ (by simp[LC]) (by simp[↓hb0,↓hb1])
 ·have hie:i=m:=by omega
  subst hie;refine wx ?_;simp -implicitDefEqProofs -dsimp[hib];refine hQ _ _ _ ?_;simp -implicitDefEqProofs -dsimp[];simp[hY,LS,LR,←hme,←hne,hc]
section
structure GenS (q:Prob) (c:Nat→Dm):Prop where
 sol:Sol q c
 gen:∀σ,Sol q σ→∃τ:Nat→Dm,∀x,x<q.m*q.n→σ x=app τ (c x)
theorem GenS.eq_iff{q:Prob}{c:Nat→Dm}(h:GenS q c){x y:Nat}(hx:x<q.m*q.n)(hy:y<q.m*q.n):c x=c y↔∀σ,Sol q σ→σ x=σ y :=
 ⟨fun he σ hs=>by
  obtain⟨τ,ht⟩:=h.gen σ hs
  rw[ht x hx,ht y hy,he],fun hf=>hf c h.sol⟩
theorem GenS.val_iff{q:Prob}{c:Nat→Dm}(h:GenS q c){x:Nat}{v:Vl}(hx:x<q.m*q.n):c x = .inl v↔∀σ,Sol q σ→σ x = .inl v :=
 ⟨fun he σ hs=>by
  obtain⟨τ,ht⟩:=h.gen σ hs
  rw[ht x hx,he];rfl,fun hf=>hf c h.sol⟩
theorem GenS.out{q:Prob}{c c':Nat→Dm}(h:GenS q c)(g:GenS q c')(u:Int→Bool){x:Nat}(hx:x<q.m*q.n):fw u c x=fw u c' x :=
 out_eq (N:=q.m*q.n) (fun _ _ hx hy=>(h.eq_iff hx hy).trans (g.eq_iff hx hy).symm) (fun _ _ hx=>(h.val_iff hx).trans (g.val_iff hx).symm) u hx
theorem Frt.gen{q:Prob}{P:List Nat}{r h:Nat→Nat}(f:Frt q P r h)(hc:eT q r):GenS q (eE q r):=by
 refine⟨f.sol hc,fun σ hσ=>⟨σ,fun x hx=>?_⟩⟩;unfold eE;rw[f.sem σ hσ x hx]
 cases hk:q.K (r x) with
 | some v=>exact hσ.fix _ v (f.lt x hx) hk
 | none=>rfl
theorem Ent.gen{q:Prob}{e:Nat→Dm}(h:Ent q e)(hc:fX q e):GenS q e:=⟨h.sol hc,h.sem⟩
open Classical in
noncomputable def genC(q:Prob):Nat→Dm:=if h:∃c,GenS q c then h.choose else fun _=>.inr 0
theorem genC_ok{q:Prob}{c:Nat→Dm}(h:GenS q c):GenS q (genC q):=by
 have hex:∃c,GenS q c:=⟨c,h⟩;unfold genC;rw[dif_pos hex];exact hex.choose_spec
def fD(t:Tb)(k:Int):Bool:=(List.range (t.rows.length*t.attrs.length)).any fun y=>decide ((bC t y).k=3)&&decide ((bC t y).n=k)
noncomputable def gG(t:Tb)(c:Nat→Dm)(i:Nat):Rw:=⟨(cL t i).id,(List.range t.attrs.length).map fun a=>fw (fD t) c (i*t.attrs.length+a)⟩
noncomputable def ei(t:Tb)(c:Nat→Dm):Tb:=⟨t.name,t.attrs,(List.range t.rows.length).map (gG t c)⟩
theorem filT_congr{t:Tb}{fds:List Fd}{l:List Cr}{c c':Nat→Dm}(h:GenS (aS t fds l) c)(g:GenS (aS t fds l) c'):ei t c=ei t c':=by
 unfold ei;congr 1
 refine List.map_congr_left fun i hi=>?_
 unfold gG;congr 1
 refine List.map_congr_left fun a ha=>?_
 exact h.out g _ (aq (m:=(aS t fds l).m) (n:=(aS t fds l).n) (List.mem_range.1 hi) (List.mem_range.1 ha))
noncomputable def iR(t:Tb)(fds:List Fd)(l:List Cr):Tb:=ei t (genC (aS t fds l))
theorem jg{t:Tb}{fds:List Fd}{l:List Cr}{c:Nat→Dm}(h:GenS (aS t fds l) c):iR t fds l=ei t c:=filT_congr (genC_ok h) h
def Bnd(u:Int→Bool)(b:Int):Prop:=∀k,u k=true→k≤b
theorem pZ{u:Int→Bool}{b:Int}(hu:Bnd u b)(n:Int):∀(d:Nat) (k:Int),n<k→(∀j,n<j→j<k→u j=true)→b+1-k≤d→∃m,IsNxt u n m∧m≤max k (b+1)
 | 0,k,h1,h2,h3=>by
  refine⟨k,⟨h1,?_,h2⟩,by omega⟩;cases hk:u k
  ·rfl
  ·have:=hu k hk;omega
 | d+1,k,h1,h2,h3=>by
  cases hk:u k with
  | false=>exact⟨k,⟨h1,hk,h2⟩,by omega⟩
  | true =>
   have hb:=hu k hk
   obtain⟨m,hm,hl⟩:=pZ hu n d (k+1) (by omega) (fun j hj1 hj2=>by
    rcases Int.lt_or_le j k with h | h
    ·exact h2 j hj1 h
    ·have:j=k:=by omega
     subst this;exact hk) (by omega)
   exact⟨m,hm,by omega⟩
theorem nA{u:Int→Bool}{b:Int}(hu:Bnd u b)(n:Int):IsNxt u n (nxt u n)∧nxt u n≤max (n+1) (b+1):=by
 obtain⟨m,hm,hl⟩:=pZ hu n (b+1-(n+1)).toNat (n+1) (by omega) (fun j h1 h2=>by omega) (by omega);rw[nxt_eq hm];exact⟨hm,hl⟩
theorem oW{u:Int→Bool}{b:Int}(hu:Bnd u b)(hb:0≤b):∀k:Nat,0≤da u k∧da u k≤b+k
 | 0=>by simp[da];exact hb
 | k+1=>by
  have ih:=oW hu hb k;have h:=nA hu (da u k);have:=h.1.gt;rw[da];omega
theorem fp_min(c:Nat→Dm)(x:Nat):∀z,z<fp c x→c z≠c x:=by
 intro z hz he;unfold fp at hz
 cases h:(List.range (x+1)).find? fun y=>open Classical in decide (c y=c x) with
 | none =>
  rw[h]at hz;have:=List.find?_eq_none.1 h x (by simp);simp at this
 | some y =>
  rw[h]at hz;simp only[Option.getD_some]at hz;obtain⟨_,as',bs,h3,h4⟩:=List.find?_eq_some_iff_append.1 h
  have hzm:z∈as':=by
   have hy:y<x+1:=by have:=List.mem_of_find?_eq_some h;simpa using this
   have hall:z∈as'++y::bs:=by rw[←h3];simp;omega
   rcases List.mem_append.1 hall with h5 | h5
   ·exact h5
   ·exfalso
    have hp:(as'++y::bs).Pairwise (· < ·):=by rw[←h3];exact List.pairwise_lt_range
    rw[List.pairwise_append]at hp
    rcases List.mem_cons.1 h5 with h6 | h6
    ·omega
    ·have:=(List.pairwise_cons.1 hp.2.1).1 z h6;omega
  have:=h4 z hzm;simp[he]at this
theorem lu{c:Nat→Dm}{x y:Nat}(h:c y=c x):fp c y=fp c x:=by
 have h1:=fp_min c x;have h2:=fp_min c y;have h3:=ew c x;have h4:=ew c y
 rcases Nat.lt_trichotomy (fp c y) (fp c x) with e | e | e
 ·exact absurd (h4.trans h) (h1 _ e)
 ·exact e
 ·exact absurd (h3.trans h.symm) (h2 _ e)
def bM(d:Dm):Prop:=∃s,d = .inr s
theorem isSym_inl{d:Dm}{v:Vl}(h:d = .inl v):¬bM d:=by rintro⟨s,hs⟩;rw[h]at hs;cases hs
theorem fj{d:Dm}(h:¬bM d):∃v,d = .inl v:=by
 cases d with
 | inl v=>exact⟨v,rfl⟩
 | inr s=>exact absurd ⟨s,rfl⟩ h
theorem lR{c:Nat→Dm}{x:Nat}(h1:bM (c x))(h2:fp c x=x):bO c (x+1)=bO c x+1:=by
 unfold bO;rw[List.range_succ,List.filter_append,List.length_append];congr 1;rw[List.filter_cons,if_pos (by simpa[bM] using And.intro h1 h2)];rfl
theorem lQ{c:Nat→Dm}{x:Nat}(h:¬(bM (c x)∧fp c x=x)):bO c (x+1)=bO c x:=by
 unfold bO;rw[List.range_succ,List.filter_append,List.length_append];rw[show List.filter _ [x]=[] by rw[List.filter_cons,if_neg (by simpa[bM] using h)];rfl];rfl
theorem rank_le(c:Nat→Dm)(x:Nat):bO c x≤x:=by
 unfold bO;exact Nat.le_trans (List.length_filter_le _ _) (by simp)
noncomputable def cls(u:Int→Bool)(c:Nat→Dm)(x:Nat):Int:=da u (bO c (fp c x)+1)
theorem er{u:Int→Bool}{c:Nat→Dm}{x:Nat}{v:Vl}(h:c x = .inl v):fw u c x=v:=by unfold fw;rw[h]
theorem fP{u:Int→Bool}{c:Nat→Dm}{x:Nat}(h:bM (c x)):fw u c x=⟨3,cls u c x,ByteArray.empty⟩:=by
 obtain⟨s,hs⟩:=h;unfold fw;rw[hs];rfl
theorem cls_new{u:Int→Bool}{c:Nat→Dm}{x:Nat}(h:fp c x=x):cls u c x=nxt u (da u (bO c x)):=by
 unfold cls;rw[h];rfl
theorem qR{u:Int→Bool}{c:Nat→Dm}{x y:Nat}(h:c y=c x):cls u c y=cls u c x:=by
 unfold cls;rw[lu h]
open Classical in
noncomputable def nmL(c:Nat→Dm)(r:Nat→Nat)(x:Nat):List Nat:=((List.range x).filter fun y=>decide (bM (c y)∧fp c y=y)).map r
theorem nmL_zero(c:Nat→Dm)(r:Nat→Nat):nmL c r 0=[]:=rfl
theorem nmL_new{c:Nat→Dm}{r:Nat→Nat}{x:Nat}(h1:bM (c x))(h2:fp c x=x):nmL c r (x+1)=nmL c r x++[r x]:=by
 unfold nmL;rw[List.range_succ,List.filter_append,List.map_append];congr 1;rw[List.filter_cons,if_pos (by simpa using And.intro h1 h2)];rfl
theorem nmL_old{c:Nat→Dm}{r:Nat→Nat}{x:Nat}(h:¬(bM (c x)∧fp c x=x)):nmL c r (x+1)=nmL c r x:=by
 unfold nmL;rw[List.range_succ,List.filter_append,List.map_append];rw[show List.filter _ [x]=[] by rw[List.filter_cons,if_neg (by simpa using h)];rfl];simp
theorem nmL_mem{q:Prob}{r:Nat→Nat}{x:Nat}(h:bM (eE q r x)):r x∈nmL (eE q r) r x↔fp (eE q r) x≠x:=by
 have hr:∀y,eE q r y=eE q r x→r y=r x:=fun y he=>by
  obtain⟨s,hs⟩:=h
  have h1:eE q r x = .inr (r x):=by
   unfold eE at hs ⊢
   cases hk:q.K (r x) with
   | some v=>rw[hk]at hs;cases hs
   | none=>rfl
  rw[h1]at he;unfold eE at he
  cases hk:q.K (r y) with
  | some v=>rw[hk]at he;cases he
  | none=>rw[hk]at he;exact Sum.inr.inj he
 have hle:=fp_le (eE q r) x;constructor
 ·intro hm;obtain⟨y,hy,hyr⟩:=List.mem_map.1 hm;obtain⟨h1,h2⟩:=List.mem_filter.1 hy
  have hlt:y<x:=by simpa using h1
  obtain⟨h3,h4⟩:bM (eE q r y)∧fp (eE q r) y=y:=by simpa using h2
  have:eE q r y=eE q r x:=by unfold eE;rw[hyr]
  have:=lu this;omega
 ·intro hne;have h1:=ew (eE q r) x;refine List.mem_map.2 ⟨fp (eE q r) x,List.mem_filter.2 ⟨by simp;omega,by simpa using And.intro (show bM (eE q r (fp (eE q r) x)) by rw[h1];exact h) (lu h1)⟩,hr _ h1⟩
theorem fp_fp(c:Nat→Dm)(x:Nat):fp c (fp c x)=fp c x:=lu (ew c x)
end
def mF(enc:Int→V)(us:List Int):List (V×V):=us.map fun x=>(V.int .i64 x,enc x)
theorem mF_nil(enc:Int→V):mF enc []=[]:=rfl
theorem mF_snoc(enc:Int→V)(us:List Int)(x:Int):mF enc (us++[x])=mF enc us++[(V.int .i64 x,enc x)]:=by simp[mF]
theorem qB(enc:Int→V)(x u:Int)(us:List Int)(i:Nat):gF (.int .i64 x) (mF enc (u::us)) i=if(x == u)=true then some (i,enc u) else gF (.int .i64 x) (mF enc us) (i+1):=rfl
theorem lz{enc:Int→V}{x:Int} : ∀{us:List Int} {i:Nat},ir us x=false→gF (.int .i64 x) (mF enc us) i=none
 | [],_,_=>rfl
 | u::us,i,h=>by
  rw[memB_cons,Bool.or_eq_false_iff]at h;rw[qB,h.1,if_neg (by simp)];exact lz h.2
theorem iQ{enc:Int→V}{x:Int} : ∀{us:List Int} {i:Nat},ir us x=true→∃j,gF (.int .i64 x) (mF enc us) i=some (i+j,enc x)∧us[j]?=some x
 | [],_,h=>by simp[ir]at h
 | u::us,i,h=>by
  rw[qB];cases hq:x == u
  ·rw[memB_cons,hq,Bool.false_or]at h;obtain⟨j,h1,h2⟩:=iQ (enc:=enc) (i:=i+1) h;exact⟨j+1,by rw[if_neg (by simp)];rw[show i+(j+1)=i+1+j by omega];exact h1,by simpa using h2⟩
  ·exact⟨0,by simp[beq_iff_eq.1 hq],by simp[beq_iff_eq.1 hq]⟩
theorem set_mF{enc:Int→V}{us:List Int}{x:Int}{j:Nat}(h:us[j]?=some x):(mF enc us).set j (V.int .i64 x,enc x)=mF enc us:=by
 unfold mF;apply List.ext_getElem?;intro k;by_cases hk:j=k
 ·subst hk;have hl:=aE h;rw[List.getElem?_set_self (by simpa using hl),List.getElem?_map,h];rfl
 ·rw[List.getElem?_set_ne hk]
theorem rbB_mF{enc:Int→V}(he:∀n x,rb n (enc x))(n:Nat)(kk:KK)(us:List Int):rbB n (.map kk (mF enc us))↔True:=by
 refine⟨fun _=>trivial,fun _ p hp=>?_⟩;obtain⟨x,_,rfl⟩:=List.mem_map.1 hp;exact⟨trivial,he n x⟩
def addK(us:List Int)(k:Int):List Int:=if ir us k=true then us else us++[k]
theorem addK_yes{us:List Int}{k:Int}(h:ir us k=true):addK us k=us:=by unfold addK;rw[if_pos h]
theorem addK_no{us:List Int}{k:Int}(h:ir us k=false):addK us k=us++[k]:=by unfold addK;rw[if_neg (by rw[h];simp)]
theorem addK_mem{us:List Int}{k x:Int} : x∈addK us k↔x∈us∨x=k:=by
 cases h:ir us k with
 | true =>
  rw[addK_yes h];exact⟨.inl,fun g=>g.elim id fun e=>by rw[e];exact pd.1 h⟩
 | false=>rw[addK_no h];simp
theorem eH{P:Program}{f:FuncId}{args:List V}{H:List B}{K K':V→List B→Prop}(h:bA P f args H K)(hk:∀r H',K r H'→K' r H'):aT P (.fn f []) args H K':=by
 simp only[aT,List.append_nil];exact h.mono hk
def ej(a b:ByteArray):Bool:=a.toList == b.toList
theorem nJ(a:ByteArray):ej a a=true:=by simp[ej]
def jk(a b:List ByteArray):Bool:=decide (a.length=b.length)&&(List.range a.length).all fun i=>ej (sAt a i) (sAt b i)
theorem eqSs_self(a:List ByteArray):jk a a=true:=by simp[jk,nJ]
theorem strings03(a b:List ByteArray)(f g:Bool)(hl:a.length≤1000000):aR Tryz.prog 59 [LS f a,LS g b] fun r=>r = .bool (jk a b):=by
 unfold jk;by_cases h0:a.length=b.length
 ·rw[decide_eq_true h0,Bool.true_and]
  obtain⟨E,hE⟩:∃E,E=(List.range a.length).all fun i=>ej (sAt a i) (sAt b i):=⟨_,rfl⟩
  rw[←hE];refine aC (aD tok Tryz.func59 rfl rfl ?_);refine wx ?_;simp -implicitDefEqProofs -dsimp[Tryz.f59,List.replicate,LS,h0];refine aK (W_loopM 26 [4,5,11,12,13,14,15,16,17,18,19,20,21,22,23,24,25] (by simp[mB]<;>rfl) (σ:=Nat) (fun i=>i≤a.length∧(List.range i).all (fun i=>ej (sAt a i) (sAt b i))=true) (fun i=>a.length-i) (fun i=>[(5,.int .i64 i)]) (fun _=>[]) 0 ⟨by omega,rfl⟩ (by simp) rfl (by simp) ?_);rintro i ⟨hi,hall⟩ N Q hN hQ;by_cases hb:i<a.length
  ·have hb2:i<b.length:=by omega
   have ha1:sAt a i=a[i]:=by simp[sAt,hb]
   have ha2:sAt b i=b[i]:=by simp[sAt,hb2]
   cases hq:(a[i].toList == b[i].toList) with
   | true =>
    refine wx ?_;simp -implicitDefEqProofs -dsimp[hb,hb2,hq];refine .inr ⟨aI (by kernel_rfl),?_⟩;simp -implicitDefEqProofs -dsimp[aJ i (by omega)];refine hN (i+1) _ _ ⟨by omega,dV hall (by unfold ej;rw[ha1,ha2,hq])⟩ (by omega) (by simp) ⟨[],rfl⟩ (by simp) (by simp)
   | false =>
    have hno:(List.range a.length).all (fun i=>ej (sAt a i) (sAt b i))=false:=by
     cases hh:(List.range a.length).all (fun i=>ej (sAt a i) (sAt b i))
     ·rfl
     ·have:=List.all_eq_true.1 hh i (by simpa using hb);rw[ej,ha1,ha2,hq]at this;cases this
    rw[hno]at hE;refine wx ?_;simp -implicitDefEqProofs -dsimp[hb,hb2,hq];refine .inr ⟨aI (by kernel_rfl),?_⟩;refine hQ _ _ _ ?_;simp -implicitDefEqProofs -dsimp[];exact hE
  ·obtain rfl:i=a.length:=by omega
   rw[hall]at hE;refine wx ?_;simp -implicitDefEqProofs -dsimp[hb];refine hQ _ _ _ ?_;simp -implicitDefEqProofs -dsimp[];exact hE
 ·rw[decide_eq_false h0,Bool.false_and];refine aC (aD tok Tryz.func59 rfl rfl ?_);refine wx ?_;simp -implicitDefEqProofs -dsimp[Tryz.f59,List.replicate,LS,show ¬((a.length:Int)=b.length) by omega]
def eqRw(a b:Rw):Bool:=decide (a.id=b.id)&&eQ a.vals b.vals == 0
theorem cmpI_self(x:Int):bZ x x=0:=by unfold bZ;simp
theorem cmpB_self:∀a:List UInt8,Lib.compareBytes a a=0
 | []=>by simp[Lib.compareBytes]
 | x::xs=>by
  rw[Lib.compareBytes,if_neg (UInt8.lt_irrefl _),if_neg (UInt8.lt_irrefl _)];exact cmpB_self xs
theorem cmpV_self(v:Vl):fI v v=0:=by
 unfold fI;rw[if_pos (cmpI_self _),if_pos (cmpI_self _)];exact cmpB_self _
theorem equalRows03(a b:Rw)(hl:a.vals.length≤1000000)(hs:∀v∈a.vals,v.s.size≤maxLen):aR Tryz.prog 60 [aL a,aL b] fun r=>r = .bool (eqRw a b):=by
 have c1:=same01 a.vals b.vals false false hl hs;simp only[LV]at c1;unfold eqRw;by_cases h:a.id=b.id
 ·rw[decide_eq_true h,Bool.true_and];refine aC (aD tok Tryz.func60 rfl rfl ?_);refine wx ?_;simp -implicitDefEqProofs -dsimp[Tryz.f60,List.replicate,aL,LV,h];refine(aF (c1) (by simp)).mono ?_;rintro r H' ⟨rfl,rfl⟩;simp -implicitDefEqProofs -dsimp[]
 ·rw[decide_eq_false h,Bool.false_and];refine aC (aD tok Tryz.func60 rfl rfl ?_);refine wx ?_;simp -implicitDefEqProofs -dsimp[Tryz.f60,List.replicate,aL,LV,h]
def rwG(rs:List Rw)(i:Nat):Rw:=rs.getD i ⟨0,[]⟩
def eqRs(a b:List Rw):Bool:=(List.range a.length).all fun i=>eqRw (rwG a i) (rwG b i)
def eqTb(t u:Tb):Bool:=ej t.name u.name&&(jk t.attrs u.attrs&&(decide (t.rows.length=u.rows.length)&&eqRs t.rows u.rows))
theorem equal03(t u:Tb)(f g f2 g2:Bool)(ha:t.attrs.length≤1000000)(hr:t.rows.length≤1000000)(hl:∀r∈t.rows,r.vals.length≤1000000∧∀v∈r.vals,v.s.size≤maxLen):aR Tryz.prog 25 [aG f g t,aG f2 g2 u] fun r=>r = .bool (eqTb t u):=by
 have c1:=strings03 t.attrs u.attrs f f2 ha;simp only[LS]at c1;unfold eqTb
 cases h1:(t.name.toList == u.name.toList) with
 | false =>
  rw[ej,h1,Bool.false_and];refine aC (aD tok Tryz.func25 rfl rfl ?_);refine wx ?_;simp -implicitDefEqProofs -dsimp[Tryz.f25,List.replicate,aG,LS,LR,h1]
 | true =>
  rw[ej,h1,Bool.true_and]
  cases h2:jk t.attrs u.attrs with
  | false =>
   rw[h2]at c1;rw[Bool.false_and];refine aC (aD tok Tryz.func25 rfl rfl ?_);refine wx ?_;simp -implicitDefEqProofs -dsimp[Tryz.f25,List.replicate,aG,LS,LR,h1];refine(aF (c1) (by simp)).mono ?_;rintro r H' ⟨rfl,rfl⟩;simp -implicitDefEqProofs -dsimp[]
  | true =>
   rw[h2]at c1;rw[Bool.true_and];by_cases h3:t.rows.length=u.rows.length
   ·rw[decide_eq_true h3,Bool.true_and];unfold eqRs
    obtain⟨E,hE⟩:∃E,E=(List.range t.rows.length).all fun i=>eqRw (rwG t.rows i) (rwG u.rows i):=⟨_,rfl⟩
    rw[←hE];refine aC (aD tok Tryz.func25 rfl rfl ?_);refine wx ?_;simp -implicitDefEqProofs -dsimp[Tryz.f25,List.replicate,aG,LS,LR,h1];refine(aF (c1) (by simp)).mono ?_;rintro r H' ⟨rfl,rfl⟩;simp -implicitDefEqProofs -dsimp[h3];refine aK (W_loopM 47 [4,5,28,29,30,31,32,33,34,35,36,37,38,39,40,41,42,43,44,45,46] (by simp[mB]<;>rfl) (σ:=Nat) (fun i=>i≤t.rows.length∧(List.range i).all (fun i=>eqRw (rwG t.rows i) (rwG u.rows i))=true) (fun i=>t.rows.length-i) (fun i=>[(5,.int .i64 i)]) (fun _=>[B.cells [.str t.name,.lst 1 f (t.attrs.map V.str),.lst 2 g (t.rows.map aL)],B.cells [.str u.name,.lst 1 f2 (u.attrs.map V.str),.lst 2 g2 (u.rows.map aL)]]) 0 ⟨by omega,rfl⟩ (by simp) (by simp) (by simp) ?_);rintro i ⟨hi,hall⟩ N Q hN hQ;by_cases hb:i<t.rows.length
    ·have hb2:i<u.rows.length:=by omega
     have ha1:rwG t.rows i=t.rows[i]:=by simp[rwG,hb]
     have ha2:rwG u.rows i=u.rows[i]:=by simp[rwG,hb2]
     obtain⟨hx1,hx2⟩:=hl t.rows[i] (List.getElem_mem hb);have c2:=equalRows03 t.rows[i] u.rows[i] hx1 hx2;obtain⟨x,hx⟩:∃x,x=t.rows[i]:=⟨_,rfl⟩;obtain⟨y,hy⟩:∃y,y=u.rows[i]:=⟨_,rfl⟩;rw[←hx]at ha1 c2;rw[←hy]at ha2 c2;have hx':=hx.symm;have hy':=hy.symm;simp only[aL,LV]at c2
     cases hq:eqRw x y with
     | true =>
      rw[hq]at c2;refine wx ?_;simp -implicitDefEqProofs -dsimp[hb,hb2,hx',hy',aL,LV];refine .inr ⟨aI (by kernel_rfl),?_⟩;refine ae _ (aF (c2) (by simp)) ?_;simp -implicitDefEqProofs -dsimp[aJ i (by omega)];refine hN (i+1) _ _ ⟨by omega,dV hall (by rw[ha1,ha2,hq])⟩ (by omega) (by simp) ⟨[],by simp⟩ (by simp) (by simp)
     | false =>
      rw[hq]at c2
      have hno:(List.range t.rows.length).all (fun i=>eqRw (rwG t.rows i) (rwG u.rows i))=false:=by
       cases hh:(List.range t.rows.length).all (fun i=>eqRw (rwG t.rows i) (rwG u.rows i))
       ·rfl
       ·have:=List.all_eq_true.1 hh i (by simpa using hb);rw[ha1,ha2,hq]at this;cases this
      rw[hno]at hE;refine wx ?_;simp -implicitDefEqProofs -dsimp[hb,hb2,hx',hy',aL,LV];refine .inr ⟨aI (by kernel_rfl),?_⟩;refine ae _ (aF (c2) (by simp)) ?_;simp -implicitDefEqProofs -dsimp[];refine hQ _ _ _ ?_;simp -implicitDefEqProofs -dsimp[];exact hE
    ·obtain rfl:i=t.rows.length:=by omega
     rw[hall]at hE;refine wx ?_;simp -implicitDefEqProofs -dsimp[hb];refine hQ _ _ _ ?_;simp -implicitDefEqProofs -dsimp[];exact hE
   ·rw[decide_eq_false h3,Bool.false_and];refine aC (aD tok Tryz.func25 rfl rfl ?_);refine wx ?_;simp -implicitDefEqProofs -dsimp[Tryz.f25,List.replicate,aG,LS,LR,h1];refine(aF (c1) (by simp)).mono ?_;rintro r H' ⟨rfl,rfl⟩;simp -implicitDefEqProofs -dsimp[show ¬((t.rows.length:Int)=u.rows.length) by omega]
theorem qP:∀vs:List Vl,eQ vs vs=0
 | []=>rfl
 | v::vs=>by
  simp only[eQ,cmpV_self];simpa using qP vs
theorem eqRs_self(a:List Rw):eqRs a a=true:=by simp[eqRs,eqRw,qP]
theorem eqTb_self(t:Tb):eqTb t t=true:=by simp[eqTb,nJ,eqSs_self,eqRs_self]
@[simp ↓ high] theorem rbB_rws (n e z:Nat) (l:List Rw) (fz:Bool):rbB n (.buf e z (l.map aL) fz)↔True:=by
 refine⟨fun _=>trivial,fun _ x hx c hc=>?_⟩;obtain⟨r,_,rfl⟩:=List.mem_map.1 hx;simp[aL,LV,V.cells]at hc
 rcases hc with rfl | rfl<;>simp
@[simp ↓ high] theorem rbB_vls (n e z:Nat) (l:List Vl) (fz:Bool):rbB n (.buf e z (l.map ap) fz)↔True:=by
 refine⟨fun _=>trivial,fun _ x hx c hc=>?_⟩;obtain⟨r,_,rfl⟩:=List.mem_map.1 hx;simp[ap,V.cells]at hc
 rcases hc with rfl | rfl | rfl<;>simp
end
end Go.Proofs.YteijbpppalhihaaGreat
