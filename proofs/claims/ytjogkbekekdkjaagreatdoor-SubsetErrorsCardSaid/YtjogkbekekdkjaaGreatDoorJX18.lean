/- JX18: own texts of this seat, joined and shortened by pack4.py: CF. -/
import Derived.Test.YtjogkbekekdkjaaGreatDoorJX16
set_option linter.unusedVariables false
set_option linter.unusedSimpArgs false
set_option maxRecDepth 100000
set_option maxHeartbeats 64000000
open Bool renaming and_eq_true→rX,false_and→rZ,true_and→re,eq_iff_iff→sb,and_false→sv,not_false→uP,not_true→vL
open ByteArray renaming empty→rY
open Int renaming eq_ofNat_of_zero_le→su
open List renaming replicate→rO,drop_eq_getElem_cons→rP,getElem_mem→rQ,drop_of_length_le→rR,getElem?_eq_getElem→rT,drop_zero→rk,all_cons→sZ,all_nil→uL
open Nat renaming add_sub_cancel→tz
namespace Go.Proofs.YtjogkbekekdkjaaGreatDoor
section
open Go Go.AM
theorem zero_valid:bW zV=true:=by decide +kernel
theorem zeroV_eq{v:Vl}(h:kp v=true):v=zV:=(mh _ _).1 h
theorem clF_ref(c:Cl)(v:Vl):clF c v=(c.any||decide (eX v c.x=0)):=by
 unfold clF;congr 1;rw[sb,mh,decide_eq_true_eq,iO];exact⟨fun h=>h.symm,fun h=>h.symm⟩
theorem nk(n r b a:Int)(l:List Int):oO n r b (a::l)=(decide (b<a)&&(decide (a<n)&&(!decide (a=r)&&oO n r a l))):=rfl
theorem ascI_ats{n r:Int} : ∀{l:List Int} {b:Int},-1≤b→oO n r b l=true→∀a∈l,0≤a∧a<n
 | [],_,_,_,a,h=>by cases h
 | x::l,b,hb,h,a,ha=>by
  rw[nk,rX,rX,rX,decide_eq_true_eq,decide_eq_true_eq]at h
  rcases List.mem_cons.1 ha with rfl | ha
  ·exact⟨by omega,h.2.1⟩
  ·exact ascI_ats (b:=x) (by omega) h.2.2.2 a ha
theorem valid1C(c:Cl):aL Tryz.prog 184 [ao c] fun r=>r = .bool (!clB c):=by
 have cv:=kx c.x;simp only[aX]at cv;unfold clB kp
 cases ha:c.any with
 | true =>
  rw[if_pos rfl]
  have hv:∀b,ey ⟨c.x.k,c.x.n,c.x.s⟩ ⟨0,0,rY⟩=b→ey c.x ⟨0,0,rY⟩=b:=fun b h=>h
  cases hz:ey ⟨c.x.k,c.x.n,c.x.s⟩ ⟨0,0,rY⟩ with
  | true =>
   refine sPx Tryz.func184 rfl rfl ?_;simp -dsimp[Tryz.f184,rO,ao,ha,oM,hz]
  | false =>
   refine sPx Tryz.func184 rfl rfl ?_;simp -dsimp[Tryz.f184,rO,ao,ha,oM,hz]
 | false =>
  rw[if_neg (by simp)];refine sPx Tryz.func184 rfl rfl ?_;simp -dsimp[Tryz.f184,rO,ao,ha];refine cPx (cv) (by simp) ?_;simp -dsimp[]
theorem validC_u(n:Nat)(c:Cfd)(f g:Bool)(hn:n≤16)(hl:c.l.length≤1000000)(hp:c.p.length≤1000000):aL Tryz.prog 128 [.int .i64 n,ah f g c] fun r=>r = .bool (cfB n c):=by
 have n1:¬(n:Int)<0:=by omega
 have n2:¬(16:Int)<n:=by omega
 have wl:=aH c.l.length (by omega);unfold cfB;by_cases h1:0≤c.r
 case neg =>
  rw[decide_eq_false h1,rZ];refine sPx Tryz.func128 rfl rfl ?_;simp -dsimp[Tryz.f128,rO,ah,L1,LCl,n1,n2,show c.r<0 by omega]
 rw[decide_eq_true h1,re]
 have h1':¬c.r<0:=by omega
 by_cases h2:c.r<n
 case neg =>
  rw[decide_eq_false h2,rZ];refine sPx Tryz.func128 rfl rfl ?_;simp -dsimp[Tryz.f128,rO,ah,L1,LCl,n1,n2,h1',show(n:Int)≤c.r by omega]
 rw[decide_eq_true h2,re]
 have h2':¬(n:Int)≤c.r:=by omega
 by_cases h3:c.p.length=c.l.length+1
 case neg =>
  rw[decide_eq_false h3,rZ];refine sPx Tryz.func128 rfl rfl ?_;simp -dsimp[Tryz.f128,rO,ah,L1,LCl,n1,n2,h1',h2',wl,h3,show ¬(c.p.length:Int)=(c.l.length:Int)+1 by omega]
 rw[decide_eq_true h3,re];obtain⟨E,hE⟩:∃E,E=oO n c.r (-1) c.l:=⟨_,rfl⟩;rw[←hE];refine sPx Tryz.func128 rfl rfl ?_;simp -dsimp[Tryz.f128,rO,ah,L1,LCl,n1,n2,h1',h2',wl,h3,show(c.p.length:Int)=(c.l.length:Int)+1 by omega];refine aG (W_loopM 58 0x3ffffc0000000b0 (by simp[mB]<;>rfl) (σ:=Nat×Int) (fun p=>oO n c.r p.2 (c.l.drop p.1)=E) (fun p=>c.l.length-p.1) (fun p=>[(38,.int .i64 p.1),(5,.int .i64 p.2)]) (fun _=>[B.cells [.lst 1 f (c.l.map aE),.int .i64 c.r,.lst 4 g (c.p.map ao)]]) (0,-1) (by rw[hE];rfl) (by simp) (by simp) (by simp) ?_);rintro⟨i,b⟩ hx N Q hN hQ;simp only at hx;by_cases hi:i<c.l.length
 ·rw[rP hi,nk]at hx;obtain⟨a,ha⟩:∃a,a=c.l[i]:=⟨_,rfl⟩;rw[←ha]at hx;by_cases q1:b<a
  case neg =>
   rw[decide_eq_false q1,rZ]at hx;refine wx ?_;simp -dsimp[hi,ha.symm,aE,show a≤b by omega];refine hQ _ _ _ ?_;simp -dsimp[];rw[←hx];simp
  rw[decide_eq_true q1,re]at hx;by_cases q2:a<n
  case neg =>
   rw[decide_eq_false q2,rZ]at hx;refine wx ?_;simp -dsimp[hi,ha.symm,aE,show ¬a≤b by omega,show(n:Int)≤a by omega];refine hQ _ _ _ ?_;simp -dsimp[];rw[←hx];simp
  rw[decide_eq_true q2,re]at hx;by_cases q3:a=c.r
  ·rw[decide_eq_true q3,vL,rZ]at hx;have ha2:c.l[i]=c.r:=ha.symm.trans q3;refine wx ?_;simp -dsimp[hi,ha2,aE,show ¬c.r≤b by omega,show ¬(n:Int)≤c.r by omega];refine hQ _ _ _ ?_;simp -dsimp[];rw[←hx];simp
  ·rw[decide_eq_false q3,uP,re]at hx;refine wx ?_;simp -dsimp[hi,ha.symm,aE,show ¬a≤b by omega,show ¬(n:Int)≤a by omega,q3,aH i (by omega)];refine hN (i+1,a) _ _ hx (by simp only;omega) (by simp) ⟨_,rfl⟩ (by simp[aE]) (by simp[aE])
 ·rw[rR (by omega)]at hx;have hx2:true=E:=hx
  obtain⟨u,hu⟩:∃u,u=c.p.any fun a=>!clB a:=⟨_,rfl⟩
  have hfin:(!u)=(E&&c.p.all clB):=by rw[hu,mw,←hx2];rfl
  have hc:=cont_L [B.cells [.lst 1 f (c.l.map aE),.int .i64 c.r,.lst 4 g (c.p.map ao)]] (.fn 184 []) (fun a=>!clB a) c.p g hp (by simp[aE]) (by simp) (fun m _=>aK (valid1C m) (by simp));simp only[LCl]at hc;refine wx ?_;simp -dsimp[hi];refine hQ _ _ _ ?_;simp -dsimp[];rw[←hu]at hc;refine aQ.mono (K:=fun r H'=>r = .bool u∧H'=[B.cells [.lst 1 f (c.l.map aE),.int .i64 c.r,.lst 4 g (c.p.map ao)]]) hc ?_;rintro r H' ⟨rfl,rfl⟩;rw[←hfin];simp -dsimp[]
theorem valid16(n:Nat)(c:Cfd)(f g:Bool)(hn:n≤16)(hl:c.l.length≤1000000)(hp:c.p.length≤1000000):aL Tryz.prog 204 [.int .i64 n,ah f g c] fun r=>r = .bool (cfB n c):=by
 have n1:¬(n:Int)<0:=by omega
 have n2:¬(16:Int)<n:=by omega
 have wl:=aH c.l.length (by omega);unfold cfB;by_cases h3:c.p.length=c.l.length+1
 case neg =>
  rw[decide_eq_false h3,rZ,sv,sv];refine sPx Tryz.func204 rfl rfl ?_;simp -dsimp[Tryz.f204,rO,ah,L1,LCl,n1,n2,wl,h3,show ¬(c.p.length:Int)=(c.l.length:Int)+1 by omega]
 by_cases h1:0≤c.r
 case neg =>
  rw[decide_eq_false h1,rZ];refine sPx Tryz.func204 rfl rfl ?_;simp -dsimp[Tryz.f204,rO,ah,L1,LCl,n1,n2,wl,h3,show(c.p.length:Int)=(c.l.length:Int)+1 by omega,show c.r<0 by omega]
 rw[decide_eq_true h1,re]
 have h1':¬c.r<0:=by omega
 by_cases h2:c.r<n
 case neg =>
  rw[decide_eq_false h2,rZ];refine sPx Tryz.func204 rfl rfl ?_;simp -dsimp[Tryz.f204,rO,ah,L1,LCl,n1,n2,wl,h3,show(c.p.length:Int)=(c.l.length:Int)+1 by omega,h1',show(n:Int)≤c.r by omega]
 rw[decide_eq_true h2,re]
 have h2':¬(n:Int)≤c.r:=by omega
 rw[decide_eq_true h3,re];obtain⟨E,hE⟩:∃E,E=oO n c.r (-1) c.l:=⟨_,rfl⟩;rw[←hE];obtain⟨G,hG⟩:∃G,G=(E&&c.p.all clB):=⟨_,rfl⟩;rw[←hG];refine sPx Tryz.func204 rfl rfl ?_;simp -dsimp[Tryz.f204,rO,ah,L1,LCl,n1,n2,h1',h2',wl,h3,show(c.p.length:Int)=(c.l.length:Int)+1 by omega];refine aG (W_loopM 85 0x1ffffffffffff800000030 (by simp[mB]<;>rfl) (σ:=Nat×Int) (fun p=>oO n c.r p.2 (c.l.drop p.1)=E∧(p.1=0→p.2 = -1)∧(0<p.1→c.l[p.1-1]?=some p.2∧0≤p.2)) (fun p=>c.l.length-p.1) (fun p=>[(5,.int .i64 p.1)]) (fun _=>[B.cells [.lst 1 f (c.l.map aE),.int .i64 c.r,.lst 4 g (c.p.map ao)]]) (0,-1) ⟨by rw[hE];rfl,fun _=>rfl,fun h=>by simp at h⟩ (by simp) (by simp) (by simp) ?_);rintro⟨i,b⟩ ⟨hx,i0,i1⟩ N Q hN hQ;simp only at hx i0 i1;by_cases hi:i<c.l.length
 ·rw[rP hi,nk]at hx;obtain⟨a,ha⟩:∃a,a=c.l[i]:=⟨_,rfl⟩;rw[←ha]at hx
  have hnext:0≤a→((i+1=0→a = -1)∧(0<i+1→c.l[i+1-1]?=some a∧0≤a)):=fun h=>⟨fun h=>by omega,fun _=>⟨by rw[tz,rT hi,ha],h⟩⟩
  by_cases p0:0≤a
  case neg =>
   have hb:¬b<a:=by
    rcases Nat.eq_zero_or_pos i with h | h
    ·have:=i0 h;omega
    ·have:=(i1 h).2;omega
   rw[decide_eq_false hb,rZ]at hx;refine wx ?_;simp -dsimp[hi,ha.symm,aE,show a<0 by omega];refine .inr ⟨aC (by kernel_rfl),?_⟩;refine hQ _ _ _ ?_;simp -dsimp[];rw[hG,←hx];simp
  by_cases p1:a<n
  case neg =>
   have hx2:false=E:=by rw[←hx,decide_eq_false p1];simp
   refine wx ?_;simp -dsimp[hi,ha.symm,aE,show ¬a<0 by omega,show(n:Int)≤a by omega];refine .inr ⟨aC (by kernel_rfl),?_⟩;refine hQ _ _ _ ?_;simp -dsimp[];rw[hG,←hx2];simp
  by_cases p2:a=c.r
  ·have hx2:false=E:=by rw[←hx,decide_eq_true p2];simp
   have ha2:c.l[i]=c.r:=ha.symm.trans p2;refine wx ?_;simp -dsimp[hi,ha2,aE,show ¬c.r<0 by omega,show ¬(n:Int)≤c.r by omega];refine .inr ⟨aC (by kernel_rfl),?_⟩;refine hQ _ _ _ ?_;simp -dsimp[];rw[hG,←hx2];simp
  rw[decide_eq_true p1,decide_eq_false p2,uP,re,re]at hx
  rcases Nat.eq_zero_or_pos i with h | h
  ·have hb:=i0 h;rw[decide_eq_true (by omega),re]at hx;refine wx ?_;simp -dsimp[hi,ha.symm,aE,show ¬a<0 by omega,show ¬(n:Int)≤a by omega,p2,show ¬0<i by omega,aH i (by omega)];refine .inr ⟨aC (by kernel_rfl),?_⟩;refine hN (i+1,a) _ _ ⟨hx,hnext p0⟩ (by simp only;omega) (by simp) ⟨_,rfl⟩ (by simp[aE]) (by simp[aE])
  ·obtain⟨hg,hb0⟩:=i1 h
   have hj:((i-1:Nat):Int)<c.l.length:=by omega
   by_cases hb:b<a
   ·rw[decide_eq_true hb,re]at hx;refine wx ?_;simp -dsimp[hi,ha.symm,aE,show ¬a<0 by omega,show ¬(n:Int)≤a by omega,p2,h,hg,hj,hU i (by omega) h,show ¬a≤b by omega,aH i (by omega)];refine .inr ⟨aC (by kernel_rfl),?_⟩;refine hN (i+1,a) _ _ ⟨hx,hnext p0⟩ (by simp only;omega) (by simp) ⟨_,rfl⟩ (by simp[aE]) (by simp[aE])
   ·rw[decide_eq_false hb,rZ]at hx;refine wx ?_;simp -dsimp[hi,ha.symm,aE,show ¬a<0 by omega,show ¬(n:Int)≤a by omega,p2,h,hg,hj,hU i (by omega) h,show a≤b by omega,aH i (by omega)];refine .inr ⟨aC (by kernel_rfl),?_⟩;refine hQ _ _ _ ?_;simp -dsimp[];rw[hG,←hx];simp
 ·rw[rR (by omega)]at hx;have hx2:true=E:=hx;obtain⟨F,hF⟩:∃F,F=c.p.all clB:=⟨_,rfl⟩
  have hGF:G=F:=by rw[hG,←hx2,hF];rfl
  refine wx ?_;simp -dsimp[hi];refine hQ _ _ _ ?_;simp -dsimp[];refine aG (W_loopM 111 0x7fffffe0000000000000000000d0 (by simp[mB]<;>rfl) (σ:=Nat) (fun j=>(c.p.drop j).all clB=F) (fun j=>c.p.length-j) (fun j=>[(6,.int .i64 j)]) (fun _=>[B.cells [.lst 1 f (c.l.map aE),.int .i64 c.r,.lst 4 g (c.p.map ao)]]) 0 (by rw[hF,rk]) (by simp) (by simp) (by simp) ?_);intro j hy N2 Q2 hN2 hQ2;by_cases hj:j<c.p.length
  ·rw[rP hj,sZ]at hy;obtain⟨y,hye⟩:∃y,y=c.p[j]:=⟨_,rfl⟩;rw[←hye]at hy;have cv:=valid01 y.x;simp only[aX]at cv
   cases ha:y.any with
   | true =>
    cases hz:kp y.x with
    | true =>
     have hz2:ey ⟨y.x.k,y.x.n,y.x.s⟩ ⟨0,0,rY⟩=true:=hz;rw[show clB y=true by unfold clB;rw[ha,if_pos rfl,hz],re]at hy;have hzz:ey ⟨0,0,rY⟩ ⟨0,0,rY⟩=true:=(mh _ _).2 rfl;have hxe:=zeroV_eq hz;rw[hxe,zero_valid]at cv;simp only[zV]at cv;refine wx ?_;simp -dsimp[hj,hye.symm,ao,ha,oM,hxe,zV,hzz];refine cPx (cv) (by simp) ?_;simp -dsimp[aH j (by omega)];refine hN2 (j+1) _ _ hy (by omega) (by simp) ⟨_,rfl⟩ (by simp[aE]) (by simp[aE])
    | false =>
     have hz2:ey ⟨y.x.k,y.x.n,y.x.s⟩ ⟨0,0,rY⟩=false:=hz;rw[show clB y=false by unfold clB;rw[ha,if_pos rfl,hz],rZ]at hy;refine wx ?_;simp -dsimp[hj,hye.symm,ao,ha,oM,hz2];refine hQ2 _ _ _ ?_;simp -dsimp[];rw[hGF,←hy]
   | false =>
    cases hz:bW y.x with
    | true =>
     rw[show clB y=true by unfold clB;rw[ha,if_neg (by simp),hz],re]at hy;rw[hz]at cv;refine wx ?_;simp -dsimp[hj,hye.symm,ao,ha];refine cPx (cv) (by simp) ?_;simp -dsimp[aH j (by omega)];refine hN2 (j+1) _ _ hy (by omega) (by simp) ⟨_,rfl⟩ (by simp[aE]) (by simp[aE])
    | false =>
     rw[show clB y=false by unfold clB;rw[ha,if_neg (by simp),hz],rZ]at hy;rw[hz]at cv;refine wx ?_;simp -dsimp[hj,hye.symm,ao,ha];refine cPx (cv) (by simp) ?_;simp -dsimp[];refine hQ2 _ _ _ ?_;simp -dsimp[];rw[hGF,←hy]
  ·rw[rR (by omega),uL]at hy;refine wx ?_;simp -dsimp[hj];refine hQ2 _ _ _ ?_;simp -dsimp[];rw[hGF,←hy]
theorem fits16(v:Vl)(c:Cl)(h:v.s.size≤maxLen):aL Tryz.prog 257 [aX v,ao c] fun r=>r = .bool (clF c v):=by
 rw[clF_ref];have c1:=fW v c.x h;simp only[aX]at c1;obtain⟨q,hq⟩:∃q,q=eX v c.x:=⟨_,rfl⟩;rw[←hq]at c1 ⊢
 cases ha:c.any with
 | true =>
  refine sPx Tryz.func257 rfl rfl ?_;simp -dsimp[Tryz.f257,rO,aX,ao,ha]
 | false =>
  by_cases h0:q=0
  ·refine sPx Tryz.func257 rfl rfl ?_;simp -dsimp[Tryz.f257,rO,aX,ao,ha];refine cPx (c1) (by simp) ?_;simp -dsimp[h0]
  ·refine sPx Tryz.func257 rfl rfl ?_;simp -dsimp[Tryz.f257,rO,aX,ao,ha];refine cPx (c1) (by simp) ?_;simp -dsimp[h0]
theorem fits_u(c:Cl)(v:Vl):aL Tryz.prog 187 [ao c,aX v] fun r=>r = .bool (clF c v):=by
 unfold clF
 cases ha:c.any with
 | true =>
  refine sPx Tryz.func187 rfl rfl ?_;simp -dsimp[Tryz.f187,rO,aX,ao,ha]
 | false =>
  refine sPx Tryz.func187 rfl rfl ?_;simp -dsimp[Tryz.f187,rO,aX,ao,ha,oM]
theorem right_u(c:Cfd)(f g:Bool)(hp:c.p.length=c.l.length+1):aL Tryz.prog 188 [ah f g c] fun r=>r=ao (oN c.p c.l.length):=by
 have hb:c.l.length<c.p.length:=by omega
 have he:oN c.p c.l.length=c.p[c.l.length]:=by simp[oN,hb]
 rw[he];obtain⟨k,hk⟩:∃k,k=c.l.length:=⟨_,rfl⟩;simp only[←hk]at hb ⊢;obtain⟨x,hx⟩:∃x,x=c.p[k]:=⟨_,rfl⟩;rw[←hx];refine sPx Tryz.func188 rfl rfl ?_;simp -dsimp[Tryz.f188,rO,ah,L1,LCl,ao,hk.symm,hb,hx.symm]
theorem left16(c:Cfd)(r:Rw)(f g f2:Bool)(n:Nat)(hv:r.vals.length=n)(ho:gd n c.l)(hp:c.p.length=c.l.length+1)(hl:c.l.length≤1000000)(hs:∀v∈r.vals,v.s.size≤maxLen):aL Tryz.prog 256 [ah f g c,LV f2 r.vals] fun x=>x = .bool (fy c r):=by
 obtain⟨E,hE⟩:∃E,E=fy c r:=⟨_,rfl⟩;rw[←hE];refine sPx Tryz.func256 rfl rfl ?_;simp -dsimp[Tryz.f256,rO,ah,L1,LCl,LV];refine aG (W_loopM 28 0xffffff0 (by simp[mB]<;>rfl) (σ:=Nat) (fun i=>oA c r i (c.l.drop i)=E) (fun i=>c.l.length-i) (fun i=>[(5,.int .i64 i)]) (fun _=>[B.cells [.lst 1 f (c.l.map aE),.int .i64 c.r,.lst 4 g (c.p.map ao)]]) 0 (by rw[hE];rfl) (by simp) (by simp) (by simp) ?_);intro i hx N Q hN hQ;by_cases hi:i<c.l.length
 ·rw[rP hi,oA]at hx;obtain⟨h1,h2⟩:=ho _ (rQ hi);obtain⟨k,hk⟩:=su h1
  have hkv:k<r.vals.length:=by omega
  have hip:i<c.p.length:=by omega
  have hce:oN c.p i=c.p[i]:=by simp[oN,hip]
  rw[hk,cQ hkv,hce]at hx;have hsz:=hs _ (rQ hkv);obtain⟨x,hxx⟩:∃x,x=r.vals[k]:=⟨_,rfl⟩;obtain⟨y,hyy⟩:∃y,y=c.p[i]:=⟨_,rfl⟩;rw[←hxx,←hyy]at hx;rw[←hxx]at hsz;have cc:=fits16 x y hsz;simp only[aX,ao]at cc
  cases hq:clF y x with
  | true =>
   rw[hq]at cc hx;refine wx ?_;simp -dsimp[hi,hk,aE,aX,ao,hkv,hip,hxx.symm,hyy.symm];refine .inr ⟨aC (by kernel_rfl),?_⟩;refine aN _ (aK (cc) (by simp)) ?_;simp -dsimp[aH i (by omega)];refine hN (i+1) _ _ (by simpa using hx) (by omega) (by simp) ⟨_,rfl⟩ (by simp[aE]) (by simp[aE])
  | false =>
   rw[hq]at cc hx;refine wx ?_;simp -dsimp[hi,hk,aE,aX,ao,hkv,hip,hxx.symm,hyy.symm];refine .inr ⟨aC (by kernel_rfl),?_⟩;refine aN _ (aK (cc) (by simp)) ?_;simp -dsimp[];refine hQ _ _ _ ?_;simp -dsimp[];simpa using hx
 ·rw[rR (by omega),oA]at hx;refine wx ?_;simp -dsimp[hi];refine hQ _ _ _ ?_;simp -dsimp[];rw[←hx]
theorem left_u(c:Cfd)(r:Rw)(f g f2:Bool)(n:Nat)(hv:r.vals.length=n)(ho:gd n c.l)(hp:c.p.length=c.l.length+1)(hl:c.l.length≤1000000):aL Tryz.prog 186 [ah f g c,LV f2 r.vals] fun x=>x = .bool (fy c r):=by
 obtain⟨E,hE⟩:∃E,E=fy c r:=⟨_,rfl⟩;rw[←hE];refine sPx Tryz.func186 rfl rfl ?_;simp -dsimp[Tryz.f186,rO,ah,L1,LCl,LV];refine aG (W_loopM 27 0x7fffc70 (by simp[mB]<;>rfl) (σ:=Nat) (fun i=>oA c r i (c.l.drop i)=E) (fun i=>c.l.length-i) (fun i=>[(10,.int .i64 i)]) (fun _=>[B.cells [.lst 1 f (c.l.map aE),.int .i64 c.r,.lst 4 g (c.p.map ao)]]) 0 (by rw[hE];rfl) (by simp) (by simp) (by simp) ?_);intro i hx N Q hN hQ;by_cases hi:i<c.l.length
 ·rw[rP hi,oA]at hx;obtain⟨h1,h2⟩:=ho _ (rQ hi);obtain⟨k,hk⟩:=su h1
  have hkv:k<r.vals.length:=by omega
  have hip:i<c.p.length:=by omega
  have hce:oN c.p i=c.p[i]:=by simp[oN,hip]
  rw[hk,cQ hkv,hce]at hx;obtain⟨x,hxx⟩:∃x,x=r.vals[k]:=⟨_,rfl⟩;obtain⟨y,hyy⟩:∃y,y=c.p[i]:=⟨_,rfl⟩;rw[←hxx,←hyy]at hx;have cc:=fits_u y x;simp only[aX,ao]at cc
  cases hq:clF y x with
  | true =>
   rw[hq]at cc hx;refine wx ?_;simp -dsimp[hi,hk,aE,aX,ao,hkv,hip,hxx.symm,hyy.symm];refine .inr ⟨aC (by kernel_rfl),?_⟩;refine aN _ (aK (cc) (by simp)) ?_;simp -dsimp[aH i (by omega)];refine hN (i+1) _ _ (by simpa using hx) (by omega) (by simp) ⟨_,rfl⟩ (by simp[aE]) (by simp[aE])
  | false =>
   rw[hq]at cc hx;refine wx ?_;simp -dsimp[hi,hk,aE,aX,ao,hkv,hip,hxx.symm,hyy.symm];refine .inr ⟨aC (by kernel_rfl),?_⟩;refine aN _ (aK (cc) (by simp)) ?_;simp -dsimp[];refine hQ _ _ _ ?_;simp -dsimp[];simpa using hx
 ·rw[rR (by omega),oA]at hx;refine wx ?_;simp -dsimp[hi];refine hQ _ _ _ ?_;simp -dsimp[];rw[←hx]
end
end Go.Proofs.YtjogkbekekdkjaaGreatDoor
