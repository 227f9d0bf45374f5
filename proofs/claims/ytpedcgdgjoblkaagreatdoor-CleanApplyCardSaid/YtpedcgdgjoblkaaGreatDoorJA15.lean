/- JA15: own texts of this seat, joined and shortened by pack4.py: RO, RQ, RS, RT, T12, PF, Ve, PV, PA, ClV, ClT, TJ, TK, ClB, Rbm, PD, PG, PS, PE. -/
import Derived.Test.YtpedcgdgjoblkaaGreatDoorJA13
import Derived.WalkSpells
import Derived.WalkLawsBesides
import Derived.Lib.Hide
import Derived.Maps.AppendAt
set_option linter.unusedVariables false
set_option linter.unusedSimpArgs false
set_option maxRecDepth 100000
set_option maxHeartbeats 64000000
open Bool renaming and_eq_true→kR,false_eq_true→kU,true_and→ke,false_and→kj,eq_iff_iff→mc
open ByteArray renaming empty→kI
open Int renaming tmod_nonneg→mt
open List renaming replicate→aI,getElem?_eq_getElem→kJ,getElem_mem→kN,range→kQ,not_mem_nil→kS,drop_eq_getElem_cons→kT,mem_cons→kZ,drop_of_length_le→kf,length_map→kh,getElem?_cons_succ→kp,length_append→kr,length_cons→kw,nil_append→lD,take_of_length_le→lE,map_cons→lH,all_eq_true→lM,mem_cons_self→lT,map_congr_left→lW,map_append→lZ,length_filter_le→lg,drop_zero→lh,getElem?_cons_zero→lj,mem_cons_of_mem→ln,cons_append→lp,getD_eq_getElem?_getD→lw,mem_or_eq_of_mem_set→ly,filter_append→mH,filter_cons→mP,mem_append→mR,mem_filter→mr
open Nat renaming le_refl→kM,lt_of_lt_of_le→ka,lt_or_ge→lJ,le_trans→lQ
open Option renaming getD_some→lz
section
namespace Go.Proofs.YtpedcgdgjoblkaaGreatDoor
open Go Go.AM
end Go.Proofs.YtpedcgdgjoblkaaGreatDoor
end
section
namespace Go.Proofs.YtpedcgdgjoblkaaGreatDoor
open Go Go.AM
end Go.Proofs.YtpedcgdgjoblkaaGreatDoor
end
namespace Go.Proofs.YtpedcgdgjoblkaaGreatDoor
section
open Go Go.AM
theorem table03(x:Rcp)(f:Bool)(ha:0≤x.a∧x.a<256)(hg:0≤x.gap)(hc:∀r∈x.rows,r.length≤9223372036854775807):aK Tryz.prog 6 [au f x,.int .i64 6] fun r=>r=if x.rows.length≤6 then .tup [aD false false (jH x),.bool true] else .tup [.agg [.str kI,.nilS,.nilS],.bool false]:=by
 by_cases h6:x.rows.length≤6
 ·rw[if_pos h6];obtain⟨h1,h2⟩:=tbOf_n ha.1;have t0:=mt 6 ha.1;have t1:=Int.tmod_lt_of_pos x.a (show(0:Int)<6 by omega);have c1:=wide03 x (x.a.tmod 6).toNat f (by omega) (by omega) hc hg;rw[h2]at c1
  have w0:IntKind.u8.wrap (x.a.tmod 6)=x.a.tmod 6:=by rw[IntKind.wrap_u8];omega
  have w1:IntKind.i64.wrap (x.a.tmod 6)=x.a.tmod 6:=wrap64 (by omega) (by omega);rw[show wideT x (x.a.tmod 6).toNat=jH x from rfl]at c1;obtain⟨t,ht⟩:∃t,t=jH x:=⟨_,rfl⟩;rw[←ht]at c1 ⊢;simp only[au,aD,LS,LR]at c1;refine sPx Tryz.func6 rfl rfl ?_;simp -dsimp[Tryz.f6,aI,au,w0,w1,show ¬(6:Int)<x.rows.length by omega];refine cPx (c1) (by simp) ?_;simp -dsimp[aD,LS,LR]
 ·rw[if_neg h6];refine sPx Tryz.func6 rfl rfl ?_;simp -dsimp[Tryz.f6,aI,au,show(6:Int)<x.rows.length by omega]
end
end Go.Proofs.YtpedcgdgjoblkaaGreatDoor
section
namespace Go.Proofs.YtpedcgdgjoblkaaGreatDoor
open Go Go.AM
end Go.Proofs.YtpedcgdgjoblkaaGreatDoor
end
namespace Go.Proofs.YtpedcgdgjoblkaaGreatDoor
section
open Go Go.AM
def fb(a b:ByteArray):Bool:=a.toList == b.toList
theorem eqSt_self(a:ByteArray):fb a a=true:=by simp[fb]
def eqSs(a b:List ByteArray):Bool:=decide (a.length=b.length)&&(kQ a.length).all fun i=>fb (sAt a i) (sAt b i)
theorem eqSs_self(a:List ByteArray):eqSs a a=true:=by simp[eqSs,eqSt_self]
theorem strings03(a b:List ByteArray)(f g:Bool)(hl:a.length≤1000000):aK Tryz.prog 75 [LS f a,LS g b] fun r=>r = .bool (eqSs a b):=by
 unfold eqSs;by_cases h0:a.length=b.length
 ·rw[decide_eq_true h0,ke]
  obtain⟨E,hE⟩:∃E,E=(kQ a.length).all fun i=>fb (sAt a i) (sAt b i):=⟨_,rfl⟩
  rw[←hE];refine sPx Tryz.func75 rfl rfl ?_;simp -dsimp[Tryz.f75,aI,LS,h0];refine aO (W_loopM 26 0x3fff830 (by simp[mB]<;>rfl) (σ:=Nat) (fun i=>i≤a.length∧(kQ i).all (fun i=>fb (sAt a i) (sAt b i))=true) (fun i=>a.length-i) (fun i=>[(5,.int .i64 i)]) (fun _=>[]) 0 ⟨by omega,rfl⟩ (by simp) rfl (by simp) ?_);rintro i ⟨hi,hall⟩ N Q hN hQ;by_cases hb:i<a.length
  ·have hb2:i<b.length:=by omega
   have ha1:sAt a i=a[i]:=by simp[sAt,hb]
   have ha2:sAt b i=b[i]:=by simp[sAt,hb2]
   cases hq:(a[i].toList == b[i].toList) with
   | true =>
    refine wx ?_;simp -dsimp[hb,hb2,hq];refine .inr ⟨aR (by kernel_rfl),?_⟩;simp -dsimp[aX i (by omega)];refine hN (i+1) _ _ ⟨by omega,br hall (by unfold fb;rw[ha1,ha2,hq])⟩ (by omega) (by simp) ⟨[],rfl⟩ (by simp) (by simp)
   | false =>
    have hno:(kQ a.length).all (fun i=>fb (sAt a i) (sAt b i))=false:=by
     cases hh:(kQ a.length).all (fun i=>fb (sAt a i) (sAt b i))
     ·rfl
     ·have:=List.all_eq_true.1 hh i (by simpa using hb);rw[fb,ha1,ha2,hq]at this;cases this
    rw[hno]at hE;refine wx ?_;simp -dsimp[hb,hb2,hq];refine .inr ⟨aR (by kernel_rfl),?_⟩;refine hQ _ _ _ ?_;simp -dsimp[];exact hE
  ·obtain rfl:i=a.length:=by omega
   rw[hall]at hE;refine wx ?_;simp -dsimp[hb];refine hQ _ _ _ ?_;simp -dsimp[];exact hE
 ·rw[decide_eq_false h0,kj];refine sPx Tryz.func75 rfl rfl ?_;simp -dsimp[Tryz.f75,aI,LS,show ¬((a.length:Int)=b.length) by omega]
def iZ(a b:Rw):Bool:=decide (a.id=b.id)&&bw a.vals b.vals == 0
theorem cmpI_self(x:Int):dZ x x=0:=by unfold dZ;simp
theorem cmpB_self:∀a:List UInt8,Lib.compareBytes a a=0
 | []=>by simp[Lib.compareBytes]
 | x::xs=>by
  rw[Lib.compareBytes,if_neg (UInt8.lt_irrefl _),if_neg (UInt8.lt_irrefl _)];exact cmpB_self xs
theorem cmpV_self(v:Vl):jy v v=0:=by
 unfold jy;rw[if_pos (cmpI_self _),if_pos (cmpI_self _)];exact cmpB_self _
theorem iV(a b:Rw)(hl:a.vals.length≤1000000)(hs:∀v∈a.vals,v.s.size≤maxLen):aK Tryz.prog 76 [aC a,aC b] fun r=>r = .bool (iZ a b):=by
 have c1:=same01 a.vals b.vals false false hl hs;simp only[LV]at c1;unfold iZ;by_cases h:a.id=b.id
 ·rw[decide_eq_true h,ke];refine sPx Tryz.func76 rfl rfl ?_;simp -dsimp[Tryz.f76,aI,aC,LV,h];refine cPx (c1) (by simp) ?_;simp -dsimp[]
 ·rw[decide_eq_false h,kj];refine sPx Tryz.func76 rfl rfl ?_;simp -dsimp[Tryz.f76,aI,aC,LV,h]
def rwG(rs:List Rw)(i:Nat):Rw:=rs.getD i ⟨0,[]⟩
def eqRs(a b:List Rw):Bool:=(kQ a.length).all fun i=>iZ (rwG a i) (rwG b i)
def eqTb(t u:Tb):Bool:=fb t.name u.name&&(eqSs t.attrs u.attrs&&(decide (t.rows.length=u.rows.length)&&eqRs t.rows u.rows))
theorem gT(t u:Tb)(f g f2 g2:Bool)(ha:t.attrs.length≤1000000)(hr:t.rows.length≤1000000)(hl:∀r∈t.rows,r.vals.length≤1000000∧∀v∈r.vals,v.s.size≤maxLen):aK Tryz.prog 39 [aD f g t,aD f2 g2 u] fun r=>r = .bool (eqTb t u):=by
 have c1:=strings03 t.attrs u.attrs f f2 ha;simp only[LS]at c1;unfold eqTb
 cases h1:(t.name.toList == u.name.toList) with
 | false =>
  rw[fb,h1,kj];refine sPx Tryz.func39 rfl rfl ?_;simp -dsimp[Tryz.f39,aI,aD,LS,LR,h1]
 | true =>
  rw[fb,h1,ke]
  cases h2:eqSs t.attrs u.attrs with
  | false =>
   rw[h2]at c1;rw[kj];refine sPx Tryz.func39 rfl rfl ?_;simp -dsimp[Tryz.f39,aI,aD,LS,LR,h1];refine cPx (c1) (by simp) ?_;simp -dsimp[]
  | true =>
   rw[h2]at c1;rw[ke];by_cases h3:t.rows.length=u.rows.length
   ·rw[decide_eq_true h3,ke];unfold eqRs
    obtain⟨E,hE⟩:∃E,E=(kQ t.rows.length).all fun i=>iZ (rwG t.rows i) (rwG u.rows i):=⟨_,rfl⟩
    rw[←hE];refine sPx Tryz.func39 rfl rfl ?_;simp -dsimp[Tryz.f39,aI,aD,LS,LR,h1];refine cPx (c1) (by simp) ?_;simp -dsimp[h3];refine aO (W_loopM 47 0x7ffff0000030 (by simp[mB]<;>rfl) (σ:=Nat) (fun i=>i≤t.rows.length∧(kQ i).all (fun i=>iZ (rwG t.rows i) (rwG u.rows i))=true) (fun i=>t.rows.length-i) (fun i=>[(5,.int .i64 i)]) (fun _=>[B.cells [.str t.name,.lst 1 f (t.attrs.map V.str),.lst 2 g (t.rows.map aC)],B.cells [.str u.name,.lst 1 f2 (u.attrs.map V.str),.lst 2 g2 (u.rows.map aC)]]) 0 ⟨by omega,rfl⟩ (by simp) (by simp) (by simp) ?_);rintro i ⟨hi,hall⟩ N Q hN hQ;by_cases hb:i<t.rows.length
    ·have hb2:i<u.rows.length:=by omega
     have ha1:rwG t.rows i=t.rows[i]:=by simp[rwG,hb]
     have ha2:rwG u.rows i=u.rows[i]:=by simp[rwG,hb2]
     obtain⟨hx1,hx2⟩:=hl t.rows[i] (kN hb);have c2:=iV t.rows[i] u.rows[i] hx1 hx2;obtain⟨x,hx⟩:∃x,x=t.rows[i]:=⟨_,rfl⟩;obtain⟨y,hy⟩:∃y,y=u.rows[i]:=⟨_,rfl⟩;rw[←hx]at ha1 c2;rw[←hy]at ha2 c2;have hx':=hx.symm;have hy':=hy.symm;simp only[aC,LV]at c2
     cases hq:iZ x y with
     | true =>
      rw[hq]at c2;refine wx ?_;simp -dsimp[hb,hb2,hx',hy',aC,LV];refine .inr ⟨aR (by kernel_rfl),?_⟩;refine av _ (aP (c2) (by simp)) ?_;simp -dsimp[aX i (by omega)];refine hN (i+1) _ _ ⟨by omega,br hall (by rw[ha1,ha2,hq])⟩ (by omega) (by simp) ⟨[],by simp⟩ (by simp) (by simp)
     | false =>
      rw[hq]at c2
      have hno:(kQ t.rows.length).all (fun i=>iZ (rwG t.rows i) (rwG u.rows i))=false:=by
       cases hh:(kQ t.rows.length).all (fun i=>iZ (rwG t.rows i) (rwG u.rows i))
       ·rfl
       ·have:=List.all_eq_true.1 hh i (by simpa using hb);rw[ha1,ha2,hq]at this;cases this
      rw[hno]at hE;refine wx ?_;simp -dsimp[hb,hb2,hx',hy',aC,LV];refine .inr ⟨aR (by kernel_rfl),?_⟩;refine av _ (aP (c2) (by simp)) ?_;simp -dsimp[];refine hQ _ _ _ ?_;simp -dsimp[];exact hE
    ·obtain rfl:i=t.rows.length:=by omega
     rw[hall]at hE;refine wx ?_;simp -dsimp[hb];refine hQ _ _ _ ?_;simp -dsimp[];exact hE
   ·rw[decide_eq_false h3,kj];refine sPx Tryz.func39 rfl rfl ?_;simp -dsimp[Tryz.f39,aI,aD,LS,LR,h1];refine cPx (c1) (by simp) ?_;simp -dsimp[show ¬((t.rows.length:Int)=u.rows.length) by omega]
theorem fh:∀vs:List Vl,bw vs vs=0
 | []=>rfl
 | v::vs=>by
  simp only[bw,cmpV_self];simpa using fh vs
theorem eqRs_self(a:List Rw):eqRs a a=true:=by simp[eqRs,iZ,fh]
theorem hU(t:Tb):eqTb t t=true:=by simp[eqTb,eqSt_self,eqSs_self,eqRs_self]
@[simp ↓ high] theorem rbB_rws (n e z:Nat) (l:List Rw) (fz:Bool):rbB n (.buf e z (l.map aC) fz)↔True:=by
 refine⟨fun _=>trivial,fun _ x hx c hc=>?_⟩;obtain⟨r,_,rfl⟩:=List.mem_map.1 hx;simp[aC,LV,V.cells]at hc
 rcases hc with rfl | rfl<;>simp
@[simp ↓ high] theorem rbB_vls (n e z:Nat) (l:List Vl) (fz:Bool):rbB n (.buf e z (l.map aJ) fz)↔True:=by
 refine⟨fun _=>trivial,fun _ x hx c hc=>?_⟩;obtain⟨r,_,rfl⟩:=List.mem_map.1 hx;simp[aJ,V.cells]at hc
 rcases hc with rfl | rfl | rfl<;>simp
def fnd(rs:List Rw)(id:Int)(i:Nat):Nat×Bool:=if h:i<rs.length then(if rs[i].id=id then(i,true) else fnd rs id (i+1)) else(0,false)
termination_by rs.length-i
theorem jm(t:Tb)(f g:Bool)(id:Int)(hr:t.rows.length≤1000000):aK Tryz.prog 32 [aD f g t,.int .i64 id] fun r=>r = .tup [.int .i64 (fnd t.rows id 0).1,.bool (fnd t.rows id 0).2]:=by
 obtain⟨E,hE⟩:∃E,E=fnd t.rows id 0:=⟨_,rfl⟩;rw[←hE];refine sPx Tryz.func32 rfl rfl ?_;simp -dsimp[Tryz.f32,aI,aD,LS,LR];refine aO (W_loopM 23 0x7ffff0 (by simp[mB]<;>rfl) (σ:=Nat) (fun i=>fnd t.rows id i=E) (fun i=>t.rows.length-i) (fun i=>[(6,.int .i64 i)]) (fun _=>[B.cells [.str t.name,.lst 1 f (t.attrs.map V.str),.lst 2 g (t.rows.map aC)]]) 0 hE.symm (by simp) (by simp) (by simp) ?_);intro i hx N Q hN hQ;by_cases hb:i<t.rows.length
 ·rw[fnd,dif_pos hb]at hx;by_cases hq:t.rows[i].id=id
  ·rw[if_pos hq]at hx;subst hx;refine wx ?_;simp -dsimp[hb,aC,LV,hq];refine hQ _ _ _ ?_;simp -dsimp[]
  ·rw[if_neg hq]at hx;refine wx ?_;simp -dsimp[hb,aC,LV,hq];simp -dsimp[aX i (by omega)];refine hN (i+1) _ _ hx (by omega) (by simp) ⟨[],by simp⟩ (by simp) (by simp)
 ·rw[fnd,dif_neg hb]at hx;subst hx;refine wx ?_;simp -dsimp[hb];refine hQ _ _ _ ?_;simp -dsimp[]
theorem fnd_at{rs:List Rw}{i:Nat}(h:i<rs.length)(hp:rs.Pairwise fun a b=>a.id<b.id)(d:Nat):∀j,j+d=i→fnd rs rs[i].id j=(i,true):=by
 induction d with
 | zero =>
  intro j e
  obtain rfl:j=i:=by omega
  rw[fnd,dif_pos h,if_pos rfl]
 | succ d ih =>
  intro j e;rw[fnd,dif_pos (by omega),if_neg]
  ·exact ih (j+1) (by omega)
  ·have:=List.pairwise_iff_getElem.1 hp j i (by omega) h (by omega);omega
def ixR(p:Rw→Bool)(rs:List Rw)(i:Nat):Int:=if h:i<rs.length then(if p rs[i] then(i:Int) else ixR p rs (i+1)) else -1
termination_by rs.length-i
theorem idxFuncR(H:List B)(fv:V)(p:Rw→Bool)(rs:List Rw)(g:Bool)(hes:rs.length≤1000000)(hH:∀bl∈H,rbB H.length bl)(hfv:rb H.length fv)
  (hp:∀m∈rs,aM Tryz.prog fv [aC m] H fun r H'=>r = .bool (p m)∧∃G,H'=H++G):aT Tryz.prog 87 [LR g rs,fv] H fun r H'=>r = .int .i64 (ixR p rs 0)∧∃G,H'=H++G:=by
 refine aG tok Tryz.func87 rfl rfl ?_;refine wx ?_;simp -dsimp[Tryz.f87,aI,LR];refine aO (W_loopM 19 0x7ff30 (by simp[mB]<;>rfl) (σ:=Nat) (fun i=>ixR p rs i=ixR p rs 0) (fun i=>rs.length-i) (fun i=>[(8,.int .i64 i)]) (fun _=>H) 0 rfl (by simp) rfl (by simp) ?_);intro i hx N Q hN hQ;by_cases hb:i<rs.length
 ·rw[ixR,dif_pos hb]at hx;have hc:=hp rs[i] (kN hb);cases hq:p rs[i]
  ·rw[hq]at hc hx;simp only[aC,LV]at hc;refine wx ?_;simp -dsimp[hb,aC,LV];refine hc.mono ?_;rintro r H' ⟨rfl,G,rfl⟩;simp -dsimp[aX i (by omega)];refine hN (i+1) _ _ (by simpa using hx) (by omega) (by simp) ⟨G,rfl⟩ (by simp;exact hfv) hH
  ·rw[hq]at hc hx;simp only[aC,LV]at hc;refine wx ?_;simp -dsimp[hb,aC,LV];refine hc.mono ?_;rintro r H' ⟨rfl,G,rfl⟩;simp -dsimp[];refine hQ _ _ _ ?_;simp -dsimp[];simpa using hx
 ·rw[ixR,dif_neg hb]at hx;refine wx ?_;simp -dsimp[hb];refine hQ _ _ _ ?_;simp -dsimp[];simpa using hx
theorem ixR_fnd(rs:List Rw)(id:Int)(i:Nat):ixR (fun r=>r.id == id) rs i=if(fnd rs id i).2=true then((fnd rs id i).1:Int) else -1:=by
 fun_induction fnd rs id i with
 | case1 i hi he=>rw[ixR,dif_pos hi,if_pos (by simpa using he)];rfl
 | case2 i hi he ih=>rw[ixR,dif_pos hi,if_neg (by simpa using he)];exact ih
 | case3 i hi=>rw[ixR,dif_neg hi];rfl
theorem fnd_no0{rs:List Rw}{id:Int}(i:Nat):(fnd rs id i).2=false→(fnd rs id i).1=0:=by
 fun_induction fnd rs id i with
 | case1 i hi he=>intro h;cases h
 | case2 i hi he ih=>exact ih
 | case3 i hi=>exact fun _=>rfl
theorem dt(t:Tb)(ff gg:Bool)(id:Int)(hr:t.rows.length≤1000000):aK Tryz.prog 45 [aD ff gg t,.int .i64 id] fun r=>r = .tup [.int .i64 (fnd t.rows id 0).1,.bool (fnd t.rows id 0).2]:=by
 have hclo:∀m∈t.rows,aM Tryz.prog (.fn 88 [.ptr 1 0]) [aC m] [B.cells [.str t.name,LS ff t.attrs,LR gg t.rows],B.cells [.int .i64 id]] fun r H'=>r = .bool (m.id == id)∧∃G,H'=[B.cells [.str t.name,LS ff t.attrs,LR gg t.rows],B.cells [.int .i64 id]]++G:=fun m hm=>by
  simp only[aM,lp,lD];refine aG tok Tryz.func88 rfl rfl ?_;refine wx ?_;simp -dsimp[Tryz.f88,aI,aC,LS,LR,LV]
 have hcf:=idxFuncR [B.cells [.str t.name,LS ff t.attrs,LR gg t.rows],B.cells [.int .i64 id]] (.fn 88 [.ptr 1 0]) (fun m=>m.id == id) t.rows gg hr (by simp[LS,LR]) (by simp) hclo;rw[ixR_fnd]at hcf;simp only[LS,LR]at hcf
 cases h0:(fnd t.rows id 0).2 with
 | true =>
  rw[h0,if_pos rfl]at hcf;obtain⟨n,hn⟩:∃n,n=(fnd t.rows id 0).1:=⟨_,rfl⟩;rw[←hn]at hcf ⊢;refine sPx Tryz.func45 rfl rfl ?_;simp -dsimp[Tryz.f45,aI,aD,LS,LR];refine aM.mono (K:=fun r H'=>r = .int .i64 (n:Int)∧∃G,H'=[B.cells [.str t.name,.lst 1 ff (t.attrs.map V.str),.lst 2 gg (t.rows.map aC)],B.cells [.int .i64 id]]++G) hcf ?_;rintro r H' ⟨rfl,G,rfl⟩;simp -dsimp[show(0:Int)≤(n:Int) by omega,show ¬(n:Int)<0 by omega]
 | false =>
  rw[h0,if_neg (by simp)]at hcf;rw[fnd_no0 0 h0];refine sPx Tryz.func45 rfl rfl ?_;simp -dsimp[Tryz.f45,aI,aD,LS,LR];refine aM.mono (K:=fun r H'=>r = .int .i64 (-1)∧∃G,H'=[B.cells [.str t.name,.lst 1 ff (t.attrs.map V.str),.lst 2 gg (t.rows.map aC)],B.cells [.int .i64 id]]++G) hcf ?_;rintro r H' ⟨rfl,G,rfl⟩;simp -dsimp[]
theorem cmpI_eq(x y:Int):dZ x y=0↔x=y:=by
 unfold dZ;split
 ·simp;omega
 ·split<;>simp<;>omega
theorem cmpB_zero:∀(a b:List UInt8),Lib.compareBytes a b=0↔a=b
 | [],[]=>by simp[Lib.compareBytes]
 | [],_::_=>by simp[Lib.compareBytes]
 | _::_,[]=>by simp[Lib.compareBytes]
 | a::xs,b::bs=>by
  rw[Lib.compareBytes,List.cons.injEq];split
  ·rename_i h;constructor
   ·intro h2;cases h2
   ·rintro⟨rfl,_⟩;exact absurd h (UInt8.lt_irrefl _)
  ·split
   ·rename_i h;constructor
    ·intro h2;cases h2
    ·rintro⟨rfl,_⟩;exact absurd h (UInt8.lt_irrefl _)
   ·rename_i h1 h2;rw[cmpB_zero xs bs];constructor
    ·intro h;exact⟨UInt8.le_antisymm (UInt8.not_lt.1 h2) (UInt8.not_lt.1 h1),h⟩
    ·exact fun h=>h.2
theorem cmpS_zero(a b:ByteArray):cmpS a b=0↔a=b:=by
 unfold cmpS;rw[cmpB_zero];constructor
 ·intro h;cases a;cases b;simp only[ByteArray.mk.injEq];exact Array.ext' h
 ·rintro rfl;rfl
theorem iD(a b:Vl):jy a b=0↔a=b:=by
 unfold jy;have h1:=cmpI_eq a.k b.k;have h2:=cmpI_eq a.n b.n;have h3:=cmpS_zero a.s b.s
 have he:a=b↔a.k=b.k∧a.n=b.n∧a.s=b.s:=by cases a;cases b;simp
 rw[he];split
 ·rename_i g1;split
  ·rename_i g2;rw[h3];exact⟨fun h=>⟨h1.1 g1,h2.1 g2,h⟩,fun h=>h.2.2⟩
  ·rename_i g2;exact⟨fun h=>absurd h g2,fun h=>absurd (h2.2 h.2.1) g2⟩
 ·rename_i g1;exact⟨fun h=>absurd h g1,fun h=>absurd (h1.2 h.1) g1⟩
theorem fg:∀{us vs:List Vl},bw us vs=0↔us=vs
 | [],[]=>by simp[bw]
 | [],_::_=>by simp[bw]
 | _::_,[]=>by simp[bw]
 | u::us,v::vs=>by
  rw[bw,List.cons.injEq];have h1:=iD u v;have h2:=fg (us:=us) (vs:=vs);split
  ·rename_i h;rw[h2];exact⟨fun h3=>⟨h1.1 h,h3⟩,fun h3=>h3.2⟩
  ·rename_i h;exact⟨fun h3=>absurd h3 h,fun h3=>absurd (h1.2 h3.1) h⟩
instance decVl:DecidableEq Vl:=fun a b =>
 if h:a.k=b.k∧a.n=b.n∧a.s=b.s then .isTrue (by
  obtain⟨k,n,s⟩:=a;obtain⟨k',n',s'⟩:=b;obtain⟨rfl,rfl,rfl⟩:=h
  rfl) else .isFalse (fun e=>h (by subst e;exact⟨rfl,rfl,rfl⟩))
theorem ba_beqV(a b:ByteArray):(a == b)=decide (a=b):=by
 rw[mc,decide_eq_true_iff];cases a;cases b;rename_i x y;rw[ByteArray.mk.injEq,show((ByteArray.mk x == ByteArray.mk y)=(x == y)) from rfl];exact beq_iff_eq
theorem int_beqV(a b:Int):(a == b)=decide (a=b):=by
 rw[mc,decide_eq_true_iff];exact beq_iff_eq
theorem eqVl9(H:List B)(a b:Vl):gU T H 43 (.agg [.int .i64 a.k,.int .i64 a.n,.str a.s]) (.agg [.int .i64 b.k,.int .i64 b.n,.str b.s])=some (decide (a=b)):=by
 have h1:∀x y:Int,eqD T 9999 3 (.int .i64 x) (.int .i64 y)=some (decide (x=y)):=fun x y=>by simp[eqD,int_beqV]
 have h2:∀x y:Int,eqD T 9999 2 (.int .i64 x) (.int .i64 y)=some (decide (x=y)):=fun x y=>by simp[eqD,int_beqV]
 have h3:∀x y:ByteArray,eqD T 9999 9 (.str x) (.str y)=some (decide (x=y)):=fun x y=>by simp[eqD,ba_beqV]
 simp only[gU];rw[show(10000:Nat)=9999+1 from rfl,eqD];simp only[T_43];simp only[if_true,eqFs,fe,T_3,T_2,T_9,bP,lj,kp,kU,if_false,h1,h2,h3];obtain⟨k,n,s⟩:=a;obtain⟨k',n',s'⟩:=b;by_cases e1:k=k'<;>by_cases e2:n=n'<;>by_cases e3:s=s'<;>simp[e1,e2,e3]
theorem eqSt_beq(a b:ByteArray):fb a b=decide (a=b):=by
 unfold fb;rw[mc,beq_iff_eq,decide_eq_true_iff];constructor
 ·intro h
  have h2:a.data.toList=b.data.toList:=by simpa[ByteArray.toList_eq] using h
  cases a;cases b;simp only[ByteArray.mk.injEq];exact Array.toList_inj.1 h2
 ·rintro rfl;rfl
theorem eqSt_eq{a b:ByteArray}(h:(a.toList == b.toList)=true):a=b:=by
 have:=eqSt_beq a b;unfold fb at this;rw[h]at this;simpa using this.symm
structure Chg where
 k:Int
 row:Rw
 a:Int
 v:Vl
def vl0:Vl:=⟨0,0,kI⟩
def fc(nm:ByteArray)(c:Chg):V:=.agg [.int .i64 c.k,.str nm,.str kI,.nilS,.nilS,.int .i64 c.row.id,LV false c.row.vals,.int .i64 c.a,.int .i64 c.v.k,.int .i64 c.v.n,.str c.v.s]
@[simp] theorem encChg_pure (nm:ByteArray) (c:Chg):AM.Pure (fc nm c):=by simp[fc,LV]
@[simp] theorem encChg_oneV (nm:ByteArray) (c:Chg):dA (fc nm c)=true:=by simp[fc,dA,LV,V.one]
def LCh(f:Bool)(nm:ByteArray)(l:List Chg):V:=.lst 11 f (l.map (fc nm))
@[simp] theorem LCh_pure (f:Bool) (nm:ByteArray) (l:List Chg):AM.Pure (LCh f nm l):=by simp[LCh]
def atV(l:List Vl)(i:Nat):Vl:=l.getD i vl0
def dQ(tv:List Vl):Nat→List Vl→List Vl
 | 0,now=>now
 | a+1,now=>(dQ tv a now).set a (atV tv a)
theorem set_same{l:List Vl}{a:Nat}{v:Vl}(h:a<l.length)(e:atV l a=v):l.set a v=l:=by
 subst e;unfold atV;rw[lw,kJ h,lz,List.set_getElem_self]
def inT(t:Tb)(id:Int):Bool:=(fnd t.rows id 0).2
def atT(t:Tb)(id:Int):Rw:=rwG t.rows (fnd t.rows id 0).1
end
end Go.Proofs.YtpedcgdgjoblkaaGreatDoor
namespace Go.Proofs.YtpedcgdgjoblkaaGreatDoor
section
open Go Go.AM Go.RowKit
theorem cm{f:FuncId}{args:List V}{e z:Nat}(hE:AM.Enters Tryz.prog f)(h:∀(F:Nat→Prop) (w:World) (vals:Array Value),vals.size=args.length→(∀(i:Nat) a u,args[i]?=some a→vals[i]?=some u→Rel (AM.base F w) a u)→
  Calls Tryz.prog f vals w fun e' w'=>∃v,e' = .returned v∧Below w.heap.size w w'∧(v = .slice none 0 0∨∃g c cur,v = .slice (some ⟨g,0,none⟩) 0 c∧w.heap.size≤g∧w'.heap[g]?=some (.cells cur e (0,0))∧c≤maxLen∧cur.size=c*z)):df Tryz.prog f args fun e' z' ys=>e'=e∧z'=z∧ys=[]:=by
 refine⟨hE,fun F w vals hZ hF hsz hrel=>(h F w vals hsz hrel).mono fun e' w' ⟨v,he,hb,hv⟩=>?_⟩
 rcases hv with hv | ⟨g,c,cur,hv,hg,hc,hm,hs⟩
 ·have hF':∀b,F b→b<w'.heap.size:=fun b hb'=>ka (hF b hb') hb.size
  obtain⟨p1,_⟩:=push0 (AM.base_good hF') (w:=w') 0 e z false rfl rfl rfl (kM _) (fun _ _=>rfl);refine⟨v,e,z,[],none,0,0,he,hv,fun h=>absurd rfl h,by simp,fun h=>absurd rfl h,?_,hb,rfl,rfl,rfl⟩;refine⟨hF',fun k hk=>absurd (hk.2 e z [] false (by have:=hk.1;simp at this;subst this;rfl)) (by simp),fun j k hj hk _=>by have:=hj.1;have:=hk.1;simp at *;omega,fun k bl hk=>?_⟩
  have hk0:k=0:=by have:=aB hk;simp at this;omega
  subst hk0;simp at hk;subst hk;exact⟨#[],fun h=>absurd rfl h,by simp,by simp,by simp[maxLen],(fun x hx=>by cases hx),(fun i x j c u hx=>by simp at hx)⟩
 ·have hF':∀b,F b→b<w'.heap.size:=fun b hb'=>ka (hF b hb') hb.size
  refine⟨v,e,z,[],some ⟨g,0,none⟩,g,c,he,hv,fun _=>rfl,by simp,fun _=>hg,?_,hb,rfl,rfl,rfl⟩;refine⟨hF',fun k hk=>⟨(Array.getElem?_eq_some_iff.1 hc).1,fun hf=>by have:=hF g hf;omega⟩,fun j k hj hk _=>by have:=hj.1;have:=hk.1;simp at *;omega,fun k bl hk=>?_⟩
  have hk0:k=0:=by have:=aB hk;simp at this;omega
  subst hk0;simp at hk;subst hk;exact⟨cur,fun _=>hc,by simpa using hs,by simp,hm,(fun x hx=>by cases hx),(fun i x j c u hx=>by simp at hx)⟩
theorem cap32c(n:Nat)(h:n≤1000000):n≤9223372036854775806∧(n+1)*32≤140737488355328:=by omega
theorem infoD_V:(Tryz.prog.info? 43).map (fun i=>(i.zero,i.size,i.bytes))=some (some (.agg #[.int .i64 0,.int .i64 0,.string ⟨#[]⟩]),3,32):=by kernel_rfl
theorem cloneE_V(A:Option Addr)(cap:Nat)(w:World):
  Calls Tryz.prog 89 #[.slice A 0 cap] w fun e w'=>∃v,e = .returned v∧w'.ownsRow w.heap.size 43 3 v 0 []∧Below w.heap.size w w':=by
 have hnil:=fun W A n c=>Lib.run_eql_slice_nil (P:=Tryz.prog) W 39 43 A n c 0 0 Tryz.underlying39
 cases A with
 | none =>
  go_enter Tryz.func89,Tryz.ntmps89
  go_wp2
  go_ret
  exact⟨_,rfl,World.ownsRow_nil _ _ _ _,Below.refl _ _⟩
 | some ad =>
  obtain⟨i0,hi,hz0,hz1,hz2⟩:=info_parts infoD_V;have hown:(w.alloc (.cells #[] 43)).ownsRow w.heap.size 43 3 (.slice (some ⟨w.heap.size,0,none⟩) 0 0) 0 []:=World.ownsRow_lit w #[] 0 (kM _) (by simp[maxLen]) (by simp)
  have hnews:∀j u,([]:List Value)[j]?=some u→(w.alloc (.cells #[] 43)).cell? (ad.add j)=some u:=by
   intro j u hu;simp at hu
  have hone:∀u∈([]:List Value),u.oneCell'=true:=by intro u hu;cases hu
  have h63:0+0≤maxLen:=by simp[maxLen]
  have hby:(0+0)*32≤140737488355328:=by omega
  have hlen:([]:List Value).length=0*3:=by simp
  have Hi:=Lib.hid (show Tryz.prog.info? 43=some i0∧i0.zero=some _∧i0.size=3∧i0.bytes=32 from⟨hi,hz0,hz1,hz2⟩);have Hw:=Lib.hid (And.intro hown (And.intro hnews (And.intro hone (And.intro h63 (And.intro hby hlen)))));clear hnews hone hown hi hz0 hz1 hz2 h63 hby hlen
  go_enter Tryz.func89,Tryz.ntmps89
  go_wp2_with (at_builtin;refine wpList_append_own _ rfl _ _ 39 rfl w.heap.size 43 i0 _ 3 32 Tryz.underlying39 Hi.out.1 Hi.out.2.1 Hi.out.2.2.1 Hi.out.2.2.2 rfl (by omega) (.slice (some ⟨w.heap.size,0,none⟩) 0 0) 0 [] rfl Hw.out.1 ad 0 cap [] rfl Hw.out.2.2.2.2.2 Hw.out.2.1 Hw.out.2.2.1 Hw.out.2.2.2.1 Hw.out.2.2.2.2.1 (by simp) ?_;intro v1 w1 ho hg hn;have Ho:=Lib.hid ho;have Hg:=Lib.hid hg;have Hn:=Lib.hid hn;clear ho hg hn)
  go_ret
  exact⟨v1,rfl,by have:=Ho.out;simpa using this,((Below.refl _ _).alloc (kM _) _).grown Hg.out (by simp) (by simp[Value.ownBlock])⟩
theorem cloneN_V:∀(f:Bool),aK Tryz.prog 89 [.lst 3 f []] fun r=>r = .lst 3 false []:=fun f=>by
 have hO:df Tryz.prog 89 [.lst 3 f []] fun e z ys=>e=43∧z=3∧ys=[]:=cm ⟨Tryz.f89,Tryz.func89,rfl,rfl⟩ (fun F w vals hsz hrel=>by
  obtain⟨u0,rfl⟩:∃u0,vals = #[u0]:=by
   obtain⟨l⟩:=vals
   match l,hsz with
   | [a],_=>exact⟨a,rfl⟩
  have r0:=hrel 0 _ u0 rfl rfl;cases r0
  refine(cloneE_V _ _ _).mono fun e' w' ⟨v,he,hown,hb⟩=>⟨v,he,hb,?_⟩
  obtain⟨_,⟨hv,_⟩ | ⟨g,c,cur,hv,hg,hc,hn,hm,hs,_⟩⟩:=hown
  ·exact .inl hv
  ·exact .inr ⟨g,c,cur,hv,hg,hc,hm,hs⟩)
 refine⟨hO.1,fun F w vals hZ hF hsz hrel=>((cZ hO).2 F w vals hZ hF hsz hrel).mono fun e w' ⟨u,r,h1,h2,h3,h4,e',z,ys,h5,h6,h7,h8⟩=>?_⟩;subst h6;subst h7;subst h8;exact⟨u,r,h1,h2,h3,h4,h5⟩
theorem clone_V(l:List Vl)(f:Bool)(hl:l.length≤1000000):aK Tryz.prog 89 [LV f l] fun r=>r=LV false l:=by
 cases l with
 | nil=>exact cloneN_V f
 | cons x xs =>
  have hl':xs.length≤1000000:=by simp only[kw]at hl;omega
  refine sPx Tryz.func89 rfl rfl ?_;simp -dsimp[Tryz.f89,aI,LV,gU,cap32c xs.length (by omega),aJ];exact fJ rfl (by simp) (by simp)
theorem cloneO0_V(f:Bool):df Tryz.prog 89 [.lst 3 f []] fun e z ys=>e=43∧z=3∧ys=[]:=cm ⟨Tryz.f89,Tryz.func89,rfl,rfl⟩ (fun F w vals hsz hrel=>by
  obtain⟨u0,rfl⟩:∃u0,vals = #[u0]:=by
   obtain⟨l⟩:=vals
   match l,hsz with
   | [a],_=>exact⟨a,rfl⟩
  have r0:=hrel 0 _ u0 rfl rfl;cases r0
  refine(cloneE_V _ _ _).mono fun e' w' ⟨v,he,hown,hb⟩=>⟨v,he,hb,?_⟩
  obtain⟨_,⟨hv,_⟩ | ⟨g,c,cur,hv,hg,hc,hn,hm,hs,_⟩⟩:=hown
  ·exact .inl hv
  ·exact .inr ⟨g,c,cur,hv,hg,hc,hm,hs⟩)
theorem cloneO_V(l:List Vl)(f:Bool)(hl:l.length≤1000000):df Tryz.prog 89 [.lst 3 f (l.map aJ)] fun e z ys=>e=43∧z=3∧ys=l.map aJ:=by
 cases l with
 | nil=>exact cloneO0_V f
 | cons x xs =>
  have hl':xs.length≤1000000:=by simp only[kw]at hl;omega
  refine sOx Tryz.func89 rfl rfl ?_;simp -dsimp[Tryz.f89,aI,gU,cap32c xs.length (by omega),aJ];exact⟨0,43,3,aJ x::xs.map aJ,by simp,rfl,by simp,rfl,rfl,rfl⟩
theorem cap16c(n:Nat)(h:n≤1000000):n≤9223372036854775806∧(n+1)*16≤140737488355328:=by omega
theorem infoD_S:(Tryz.prog.info? 9).map (fun i=>(i.zero,i.size,i.bytes))=some (some (.string ⟨#[]⟩),1,16):=by kernel_rfl
theorem cloneE_S(A:Option Addr)(cap:Nat)(w:World):
  Calls Tryz.prog 107 #[.slice A 0 cap] w fun e w'=>∃v,e = .returned v∧w'.ownsRow w.heap.size 9 1 v 0 []∧Below w.heap.size w w':=by
 have hnil:=fun W A n c=>Lib.run_eql_slice_nil (P:=Tryz.prog) W 26 9 A n c 0 0 Tryz.underlying26
 cases A with
 | none =>
  go_enter Tryz.func107,Tryz.ntmps107
  go_wp2
  go_ret
  exact⟨_,rfl,World.ownsRow_nil _ _ _ _,Below.refl _ _⟩
 | some ad =>
  obtain⟨i0,hi,hz0,hz1,hz2⟩:=info_parts infoD_S;have hown:(w.alloc (.cells #[] 9)).ownsRow w.heap.size 9 1 (.slice (some ⟨w.heap.size,0,none⟩) 0 0) 0 []:=World.ownsRow_lit w #[] 0 (kM _) (by simp[maxLen]) (by simp)
  have hnews:∀j u,([]:List Value)[j]?=some u→(w.alloc (.cells #[] 9)).cell? (ad.add j)=some u:=by
   intro j u hu;simp at hu
  have hone:∀u∈([]:List Value),u.oneCell'=true:=by intro u hu;cases hu
  have h63:0+0≤maxLen:=by simp[maxLen]
  have hby:(0+0)*16≤140737488355328:=by omega
  have hlen:([]:List Value).length=0*1:=by simp
  have Hi:=Lib.hid (show Tryz.prog.info? 9=some i0∧i0.zero=some _∧i0.size=1∧i0.bytes=16 from⟨hi,hz0,hz1,hz2⟩);have Hw:=Lib.hid (And.intro hown (And.intro hnews (And.intro hone (And.intro h63 (And.intro hby hlen)))));clear hnews hone hown hi hz0 hz1 hz2 h63 hby hlen
  go_enter Tryz.func107,Tryz.ntmps107
  go_wp2_with (at_builtin;refine wpList_append_own _ rfl _ _ 26 rfl w.heap.size 9 i0 _ 1 16 Tryz.underlying26 Hi.out.1 Hi.out.2.1 Hi.out.2.2.1 Hi.out.2.2.2 rfl (by omega) (.slice (some ⟨w.heap.size,0,none⟩) 0 0) 0 [] rfl Hw.out.1 ad 0 cap [] rfl Hw.out.2.2.2.2.2 Hw.out.2.1 Hw.out.2.2.1 Hw.out.2.2.2.1 Hw.out.2.2.2.2.1 (by simp) ?_;intro v1 w1 ho hg hn;have Ho:=Lib.hid ho;have Hg:=Lib.hid hg;have Hn:=Lib.hid hn;clear ho hg hn)
  go_ret
  exact⟨v1,rfl,by have:=Ho.out;simpa using this,((Below.refl _ _).alloc (kM _) _).grown Hg.out (by simp) (by simp[Value.ownBlock])⟩
theorem cloneN_S:∀(f:Bool),aK Tryz.prog 107 [.lst 1 f []] fun r=>r = .lst 1 false []:=fun f=>by
 have hO:df Tryz.prog 107 [.lst 1 f []] fun e z ys=>e=9∧z=1∧ys=[]:=cm ⟨Tryz.f107,Tryz.func107,rfl,rfl⟩ (fun F w vals hsz hrel=>by
  obtain⟨u0,rfl⟩:∃u0,vals = #[u0]:=by
   obtain⟨l⟩:=vals
   match l,hsz with
   | [a],_=>exact⟨a,rfl⟩
  have r0:=hrel 0 _ u0 rfl rfl;cases r0
  refine(cloneE_S _ _ _).mono fun e' w' ⟨v,he,hown,hb⟩=>⟨v,he,hb,?_⟩
  obtain⟨_,⟨hv,_⟩ | ⟨g,c,cur,hv,hg,hc,hn,hm,hs,_⟩⟩:=hown
  ·exact .inl hv
  ·exact .inr ⟨g,c,cur,hv,hg,hc,hm,hs⟩)
 refine⟨hO.1,fun F w vals hZ hF hsz hrel=>((cZ hO).2 F w vals hZ hF hsz hrel).mono fun e w' ⟨u,r,h1,h2,h3,h4,e',z,ys,h5,h6,h7,h8⟩=>?_⟩;subst h6;subst h7;subst h8;exact⟨u,r,h1,h2,h3,h4,h5⟩
theorem iy(l:List ByteArray)(f:Bool)(hl:l.length≤1000000):aK Tryz.prog 107 [LS f l] fun r=>r=LS false l:=by
 cases l with
 | nil=>exact cloneN_S f
 | cons x xs =>
  have hl':xs.length≤1000000:=by simp only[kw]at hl;omega
  refine sPx Tryz.func107 rfl rfl ?_;simp -dsimp[Tryz.f107,aI,LS,gU,cap16c xs.length (by omega),V.str];exact fJ rfl (by simp) (by simp)
end
end Go.Proofs.YtpedcgdgjoblkaaGreatDoor
namespace Go.Proofs.YtpedcgdgjoblkaaGreatDoor
section
open Go Go.AM
def LTb(g:Bool)(ts:List Tb):V:=.lst 3 g (ts.map (aD false false))
@[simp] theorem LTb_pure (g:Bool) (ts:List Tb):AM.Pure (LTb g ts):=by simp[LTb]
def ixT(p:Tb→Bool)(rs:List Tb)(i:Nat):Int:=if h:i<rs.length then(if p rs[i] then(i:Int) else ixT p rs (i+1)) else -1
termination_by rs.length-i
theorem idxFuncT(H:List B)(fv:V)(p:Tb→Bool)(rs:List Tb)(g:Bool)(hes:rs.length≤1000000)(hH:∀bl∈H,rbB H.length bl)(hfv:rb H.length fv)
  (hp:∀m∈rs,aM Tryz.prog fv [aD false false m] H fun r H'=>r = .bool (p m)∧∃G,H'=H++G):aT Tryz.prog 172 [LTb g rs,fv] H fun r H'=>r = .int .i64 (ixT p rs 0)∧∃G,H'=H++G:=by
 refine aG tok Tryz.func172 rfl rfl ?_;refine wx ?_;simp -dsimp[Tryz.f172,aI,LTb];refine aO (W_loopM 19 0x7ff30 (by simp[mB]<;>rfl) (σ:=Nat) (fun i=>ixT p rs i=ixT p rs 0) (fun i=>rs.length-i) (fun i=>[(8,.int .i64 i)]) (fun _=>H) 0 rfl (by simp) rfl (by simp) ?_);intro i hx N Q hN hQ;by_cases hb:i<rs.length
 ·rw[ixT,dif_pos hb]at hx;have hc:=hp rs[i] (kN hb);cases hq:p rs[i]
  ·rw[hq]at hc hx;simp only[aD,LS,LR]at hc;refine wx ?_;simp -dsimp[hb,aD,LS,LTb];refine hc.mono ?_;rintro r H' ⟨rfl,G,rfl⟩;simp -dsimp[aX i (by omega)];refine hN (i+1) _ _ (by simpa using hx) (by omega) (by simp) ⟨G,rfl⟩ (by simp;exact hfv) hH
  ·rw[hq]at hc hx;simp only[aD,LS,LR]at hc;refine wx ?_;simp -dsimp[hb,aD,LS,LTb];refine hc.mono ?_;rintro r H' ⟨rfl,G,rfl⟩;simp -dsimp[];refine hQ _ _ _ ?_;simp -dsimp[];simpa using hx
 ·rw[ixT,dif_neg hb]at hx;refine wx ?_;simp -dsimp[hb];refine hQ _ _ _ ?_;simp -dsimp[];simpa using hx
theorem jk(ts:List Tb)(g:Bool)(nm:ByteArray)(hr:ts.length≤1000000):aK Tryz.prog 120 [.agg [LTb g ts],.str nm] fun r=>r = .int .i64 (ixT (fun t=>t.name.toList == nm.toList) ts 0):=by
 have hclo:∀m∈ts,aM Tryz.prog (.fn 173 [.ptr 1 0]) [aD false false m] [B.cells [LTb g ts],B.cells [.str nm]] fun r H'=>r = .bool (m.name.toList == nm.toList)∧∃G,H'=[B.cells [LTb g ts],B.cells [.str nm]]++G:=fun m hm=>by
  simp only[aM,lp,lD];refine aG tok Tryz.func173 rfl rfl ?_;refine wx ?_;simp -dsimp[Tryz.f173,aI,aD,LS,LR,LTb]
 have hcf:=idxFuncT [B.cells [LTb g ts],B.cells [.str nm]] (.fn 173 [.ptr 1 0]) (fun m=>m.name.toList == nm.toList) ts g hr (by simp[LTb]) (by simp) hclo;obtain⟨n,hn⟩:∃n,n=ixT (fun t:Tb=>t.name.toList == nm.toList) ts 0:=⟨_,rfl⟩;rw[←hn]at hcf ⊢;simp only[LTb]at hcf;refine sPx Tryz.func120 rfl rfl ?_;simp -dsimp[Tryz.f120,aI,LTb];refine aM.mono (K:=fun r H'=>r = .int .i64 n∧∃G,H'=[B.cells [.lst 3 g (ts.map (aD false false))],B.cells [.str nm]]++G) hcf ?_;rintro r H' ⟨rfl,G,rfl⟩;simp -dsimp[]
def ju(ts:List Tb)(t:Tb):Int:=if aH t=0 then(if 0≤ixT (fun u=>u.name.toList == t.name.toList) ts 0 then 5 else if 50≤ts.length then 3 else 0) else aH t
theorem creates_s(ts:List Tb)(g:Bool)(t:Tb)(f f2:Bool)(hr:ts.length≤1000000)(hk:TbOk t):aK Tryz.prog 119 [.agg [LTb g ts],aD f f2 t] fun r=>r = .int .i64 (ju ts t):=by
 have c1:=cI t f f2 hk;have c2:=jk ts g t.name hr;simp only[aD,LS,LR]at c1;simp only[LTb]at c2;by_cases h1:aH t=0
 case neg =>
  rw[show ju ts t=aH t by unfold ju;rw[if_neg h1]];refine sPx Tryz.func119 rfl rfl ?_;simp -dsimp[Tryz.f119,aI,aD,LS,LR,LTb];refine cPx (c1) (by simp) ?_;simp -dsimp[h1]
 rw[h1]at c1;obtain⟨n,hn⟩:∃n,n=ixT (fun u:Tb=>u.name.toList == t.name.toList) ts 0:=⟨_,rfl⟩;rw[←hn]at c2;by_cases h2:0≤n
 ·rw[show ju ts t=5 by unfold ju;rw[if_pos h1,←hn,if_pos h2]];refine sPx Tryz.func119 rfl rfl ?_;simp -dsimp[Tryz.f119,aI,aD,LS,LR,LTb];refine cPx (c1) (by simp) ?_;simp -dsimp[];refine cPx (c2) (by simp) ?_;simp -dsimp[h2]
 ·by_cases h3:50≤ts.length
  ·rw[show ju ts t=3 by unfold ju;rw[if_pos h1,←hn,if_neg h2,if_pos h3]];refine sPx Tryz.func119 rfl rfl ?_;simp -dsimp[Tryz.f119,aI,aD,LS,LR,LTb];refine cPx (c1) (by simp) ?_;simp -dsimp[];refine cPx (c2) (by simp) ?_;simp -dsimp[h2,show(50:Int)≤ts.length by omega]
  ·rw[show ju ts t=0 by unfold ju;rw[if_pos h1,←hn,if_neg h2,if_neg h3]];refine sPx Tryz.func119 rfl rfl ?_;simp -dsimp[Tryz.f119,aI,aD,LS,LR,LTb];refine cPx (c1) (by simp) ?_;simp -dsimp[];refine cPx (c2) (by simp) ?_;simp -dsimp[h2,show ¬(50:Int)≤ts.length by omega]
end
end Go.Proofs.YtpedcgdgjoblkaaGreatDoor
namespace Go.Proofs.YtpedcgdgjoblkaaGreatDoor
section
open Go Go.AM Go.RowKit
theorem cap64c(n:Nat)(h:n≤1000000):n≤9223372036854775806∧(n+1)*64≤140737488355328:=by omega
theorem infoD_B:(Tryz.prog.info? 29).map (fun i=>(i.zero,i.size,i.bytes))=some (some (.agg #[.string ⟨#[]⟩,.slice none 0 0,.slice none 0 0]),3,64):=by kernel_rfl
theorem cloneE_B(A:Option Addr)(cap:Nat)(w:World):
  Calls Tryz.prog 81 #[.slice A 0 cap] w fun e w'=>∃v,e = .returned v∧w'.ownsRow w.heap.size 29 3 v 0 []∧Below w.heap.size w w':=by
 have hnil:=fun W A n c=>Lib.run_eql_slice_nil (P:=Tryz.prog) W 117 29 A n c 0 0 Tryz.underlying117
 cases A with
 | none =>
  go_enter Tryz.func81,Tryz.ntmps81
  go_wp2
  go_ret
  exact⟨_,rfl,World.ownsRow_nil _ _ _ _,Below.refl _ _⟩
 | some ad =>
  obtain⟨i0,hi,hz0,hz1,hz2⟩:=info_parts infoD_B;have hown:(w.alloc (.cells #[] 29)).ownsRow w.heap.size 29 3 (.slice (some ⟨w.heap.size,0,none⟩) 0 0) 0 []:=World.ownsRow_lit w #[] 0 (kM _) (by simp[maxLen]) (by simp)
  have hnews:∀j u,([]:List Value)[j]?=some u→(w.alloc (.cells #[] 29)).cell? (ad.add j)=some u:=by
   intro j u hu;simp at hu
  have hone:∀u∈([]:List Value),u.oneCell'=true:=by intro u hu;cases hu
  have h63:0+0≤maxLen:=by simp[maxLen]
  have hby:(0+0)*64≤140737488355328:=by omega
  have hlen:([]:List Value).length=0*3:=by simp
  have Hi:=Lib.hid (show Tryz.prog.info? 29=some i0∧i0.zero=some _∧i0.size=3∧i0.bytes=64 from⟨hi,hz0,hz1,hz2⟩);have Hw:=Lib.hid (And.intro hown (And.intro hnews (And.intro hone (And.intro h63 (And.intro hby hlen)))));clear hnews hone hown hi hz0 hz1 hz2 h63 hby hlen
  go_enter Tryz.func81,Tryz.ntmps81
  go_wp2_with (at_builtin;refine wpList_append_own _ rfl _ _ 117 rfl w.heap.size 29 i0 _ 3 64 Tryz.underlying117 Hi.out.1 Hi.out.2.1 Hi.out.2.2.1 Hi.out.2.2.2 rfl (by omega) (.slice (some ⟨w.heap.size,0,none⟩) 0 0) 0 [] rfl Hw.out.1 ad 0 cap [] rfl Hw.out.2.2.2.2.2 Hw.out.2.1 Hw.out.2.2.1 Hw.out.2.2.2.1 Hw.out.2.2.2.2.1 (by simp) ?_;intro v1 w1 ho hg hn;have Ho:=Lib.hid ho;have Hg:=Lib.hid hg;have Hn:=Lib.hid hn;clear ho hg hn)
  go_ret
  exact⟨v1,rfl,by have:=Ho.out;simpa using this,((Below.refl _ _).alloc (kM _) _).grown Hg.out (by simp) (by simp[Value.ownBlock])⟩
theorem cloneN_B:∀(f:Bool),aK Tryz.prog 81 [.lst 3 f []] fun r=>r = .lst 3 false []:=fun f=>by
 have hO:df Tryz.prog 81 [.lst 3 f []] fun e z ys=>e=29∧z=3∧ys=[]:=cm ⟨Tryz.f81,Tryz.func81,rfl,rfl⟩ (fun F w vals hsz hrel=>by
  obtain⟨u0,rfl⟩:∃u0,vals = #[u0]:=by
   obtain⟨l⟩:=vals
   match l,hsz with
   | [a],_=>exact⟨a,rfl⟩
  have r0:=hrel 0 _ u0 rfl rfl;cases r0
  refine(cloneE_B _ _ _).mono fun e' w' ⟨v,he,hown,hb⟩=>⟨v,he,hb,?_⟩
  obtain⟨_,⟨hv,_⟩ | ⟨g,c,cur,hv,hg,hc,hn,hm,hs,_⟩⟩:=hown
  ·exact .inl hv
  ·exact .inr ⟨g,c,cur,hv,hg,hc,hm,hs⟩)
 refine⟨hO.1,fun F w vals hZ hF hsz hrel=>((cZ hO).2 F w vals hZ hF hsz hrel).mono fun e w' ⟨u,r,h1,h2,h3,h4,e',z,ys,h5,h6,h7,h8⟩=>?_⟩;subst h6;subst h7;subst h8;exact⟨u,r,h1,h2,h3,h4,h5⟩
theorem cloneO0_B(f:Bool):df Tryz.prog 81 [.lst 3 f []] fun e z ys=>e=29∧z=3∧ys=[]:=cm ⟨Tryz.f81,Tryz.func81,rfl,rfl⟩ (fun F w vals hsz hrel=>by
  obtain⟨u0,rfl⟩:∃u0,vals = #[u0]:=by
   obtain⟨l⟩:=vals
   match l,hsz with
   | [a],_=>exact⟨a,rfl⟩
  have r0:=hrel 0 _ u0 rfl rfl;cases r0
  refine(cloneE_B _ _ _).mono fun e' w' ⟨v,he,hown,hb⟩=>⟨v,he,hb,?_⟩
  obtain⟨_,⟨hv,_⟩ | ⟨g,c,cur,hv,hg,hc,hn,hm,hs,_⟩⟩:=hown
  ·exact .inl hv
  ·exact .inr ⟨g,c,cur,hv,hg,hc,hm,hs⟩)
theorem jz(l:List Tb)(f:Bool)(hl:l.length≤1000000):df Tryz.prog 81 [.lst 3 f (l.map (aD false false))] fun e z ys=>e=29∧z=3∧ys=l.map (aD false false):=by
 cases l with
 | nil=>exact cloneO0_B f
 | cons x xs =>
  have hl':xs.length≤1000000:=by simp only[kw]at hl;omega
  refine sOx Tryz.func81 rfl rfl ?_;simp -dsimp[Tryz.f81,aI,gU,cap64c xs.length (by omega),aD];exact⟨0,29,3,(aD false false) x::xs.map (aD false false),by simp,rfl,by simp,rfl,rfl,rfl⟩
end
end Go.Proofs.YtpedcgdgjoblkaaGreatDoor
namespace Go.Proofs.YtpedcgdgjoblkaaGreatDoor
section
open Go Go.AM
theorem rb1_mono{n m:Nat}(h:n≤m){v:V}(hv:rb1 n v):rb1 m v:=by
 cases v<;>simp only[rb1]at hv ⊢<;>first | exact hv | omega | trivial
theorem il{n m:Nat}(h:n≤m){v:V}(hv:rb n v):rb m v:=by
 cases v<;>simp only[rb]at hv ⊢<;>first | exact rb1_mono h hv | exact fun c hc=>rb1_mono h (hv c hc) | trivial
theorem eT{n m:Nat}(h:n≤m){bl:B}(hb:rbB n bl):rbB m bl:=by
 cases bl with
 | cells cs=>exact fun c hc=>il h (hb c hc)
 | map kk es=>exact fun p hp=>⟨il h (hb p hp).1,il h (hb p hp).2⟩
 | buf e z xs fz=>exact fun x hx c hc=>il h (hb x hx c hc)
def Srt(rs:List Rw):Prop:=rs.Pairwise fun r s=>r.id<s.id
theorem srt_ext:∀{l m:List Rw},Srt l→Srt m→(∀r,r∈l↔r∈m)→l=m
 | [],[],_,_,_=>rfl
 | [],b::m,_,_,h=>absurd ((h b).2 lT) (by simp)
 | a::l,[],_,_,h=>absurd ((h a).1 lT) (by simp)
 | a::l,b::m,hl,hm,h=>by
  obtain⟨h1,h2⟩:=List.pairwise_cons.1 hl;obtain⟨h3,h4⟩:=List.pairwise_cons.1 hm
  have hab:a=b:=by
   rcases List.mem_cons.1 ((h a).1 lT) with e | e
   ·exact e
   ·rcases List.mem_cons.1 ((h b).2 lT) with e' | e'
    ·exact e'.symm
    ·have:=h1 b e';have:=h3 a e;omega
  subst hab;congr 1
  refine srt_ext h2 h4 fun r=>⟨fun hr=>?_,fun hr=>?_⟩
  ·rcases List.mem_cons.1 ((h r).1 (ln _ hr)) with e | e
   ·subst e;have:=h1 _ hr;omega
   ·exact e
  ·rcases List.mem_cons.1 ((h r).2 (ln _ hr)) with e | e
   ·subst e;have:=h3 _ hr;omega
   ·exact e
theorem srt_id{l:List Rw}(h:Srt l){r s:Rw}(hr:r∈l)(hs:s∈l)(e:r.id=s.id):r=s:=by
 induction l with
 | nil=>cases hr
 | cons a l ih =>
  obtain⟨h1,h2⟩:=List.pairwise_cons.1 h
  rcases List.mem_cons.1 hr with e1 | e1<;>rcases List.mem_cons.1 hs with e2 | e2
  ·rw[e1,e2]
  ·subst e1;have:=h1 s e2;omega
  ·subst e2;have:=h1 r e1;omega
  ·exact ih h2 e1 e2
def cS(rs:List Rw)(id:Int):List Rw:=rs.filter fun r=>!decide (r.id=id)
def cL(rs:List Rw)(r:Rw):List Rw:=rs.filter (fun s=>decide (s.id<r.id))++r::rs.filter (fun s=>decide (r.id<s.id))
def eM(rs:List Rw)(id:Int)(a:Nat)(v:Vl):List Rw:=rs.map fun r=>if r.id=id then⟨r.id,r.vals.set a v⟩ else r
theorem dp{rs:List Rw}{id:Int}{r:Rw} : r∈cS rs id↔r∈rs∧¬r.id=id:=by simp[cS]
theorem iq{rs:List Rw}{r s:Rw} : s∈cL rs r↔s=r∨(s∈rs∧¬s.id=r.id):=by
 simp only[cL,mR,kZ,mr,decide_eq_true_eq];constructor
 ·rintro(⟨h1,h2⟩ | h | ⟨h1,h2⟩)
  ·exact .inr ⟨h1,by omega⟩
  ·exact .inl h
  ·exact .inr ⟨h1,by omega⟩
 ·rintro(h | ⟨h1,h2⟩)
  ·exact .inr (.inl h)
  ·by_cases h3:s.id<r.id
   ·exact .inl ⟨h1,h3⟩
   ·exact .inr (.inr ⟨h1,by omega⟩)
theorem mem_chg{rs:List Rw}{id:Int}{a:Nat}{v:Vl}{s:Rw} : s∈eM rs id a v↔(s∈rs∧¬s.id=id)∨∃r∈rs,r.id=id∧s=⟨r.id,r.vals.set a v⟩:=by
 simp only[eM,List.mem_map];constructor
 ·rintro⟨r,hr,h⟩;by_cases e:r.id=id
  ·rw[if_pos e]at h;exact .inr ⟨r,hr,e,h.symm⟩
  ·rw[if_neg e]at h;subst h;exact .inl ⟨hr,e⟩
 ·rintro(⟨h1,h2⟩ | ⟨r,hr,e,h⟩)
  ·exact⟨s,h1,if_neg h2⟩
  ·exact⟨r,hr,by rw[if_pos e,h]⟩
theorem srt_del{rs:List Rw}(h:Srt rs)(id:Int):Srt (cS rs id):=List.Pairwise.filter _ h
theorem srt_ins{rs:List Rw}(h:Srt rs)(r:Rw):Srt (cL rs r):=by
 refine List.pairwise_append.2 ⟨List.Pairwise.filter _ h,List.pairwise_cons.2 ⟨fun s hs=>?_,List.Pairwise.filter _ h⟩,fun x hx y hy=>?_⟩
 ·simpa using(List.mem_filter.1 hs).2
 ·have h1:x.id<r.id:=by simpa using(List.mem_filter.1 hx).2
  rcases List.mem_cons.1 hy with rfl | hy
  ·exact h1
  ·have:r.id<y.id:=by simpa using(List.mem_filter.1 hy).2
   omega
theorem chg_id(id:Int)(a:Nat)(v:Vl)(r:Rw):(if r.id=id then(⟨r.id,r.vals.set a v⟩:Rw) else r).id=r.id:=by split<;>rfl
theorem srt_chg{rs:List Rw}(h:Srt rs)(id:Int)(a:Nat)(v:Vl):Srt (eM rs id a v):=by
 refine List.pairwise_map.2 (h.imp fun {x y} hxy=>?_);rw[chg_id,chg_id];exact hxy
theorem del_ins{rs:List Rw}{r:Rw}(h:Srt rs)(hn:∀s∈rs,¬s.id=r.id):cS (cL rs r) r.id=rs:=by
 refine srt_ext (srt_del (srt_ins h r) _) h fun s=>?_
 rw[dp,iq];constructor
 ·rintro⟨rfl | ⟨h1,_⟩,h2⟩
  ·exact absurd rfl h2
  ·exact h1
 ·intro hs;exact⟨.inr ⟨hs,hn s hs⟩,hn s hs⟩
theorem ins_del{rs:List Rw}{r:Rw}(h:Srt rs)(hr:r∈rs):cL (cS rs r.id) r=rs:=by
 refine srt_ext (srt_ins (srt_del h _) r) h fun s=>?_
 rw[iq,dp];constructor
 ·rintro(rfl | ⟨⟨h1,_⟩,_⟩)
  ·exact hr
  ·exact h1
 ·intro hs;by_cases e:s.id=r.id
  ·exact .inl (srt_id h hs hr e)
  ·exact .inr ⟨⟨hs,e⟩,e⟩
theorem chg_chg{rs:List Rw}{r:Rw}(h:Srt rs)(hr:r∈rs){a:Nat}(ha:a<r.vals.length)(v:Vl):eM (eM rs r.id a v) r.id a (atV r.vals a)=rs:=by
 have hs:atV r.vals a=r.vals[a]:=by simp[atV,ha]
 unfold eM;rw[List.map_map]
 conv=>rhs;rw[←List.map_id rs]
 refine lW fun s hs2=>?_
 simp only[Function.comp,id];by_cases e:s.id=r.id
 ·obtain rfl:=srt_id h hs2 hr e;rw[if_pos rfl,if_pos rfl,List.set_set,hs,List.set_getElem_self]
 ·rw[if_neg e,if_neg e]
theorem fnd_iff{rs:List Rw}{id:Int}(i:Nat):(fnd rs id i).2=true↔∃r∈rs.drop i,r.id=id:=by
 fun_induction fnd rs id i with
 | case1 i hi he=>exact⟨fun _=>⟨rs[i],by rw[kT hi];exact lT,he⟩,fun _=>rfl⟩
 | case2 i hi he ih =>
  rw[ih,kT hi];constructor
  ·rintro⟨r,hr,e⟩;exact⟨r,ln _ hr,e⟩
  ·rintro⟨r,hr,e⟩
   rcases List.mem_cons.1 hr with rfl | hr
   ·exact absurd e he
   ·exact⟨r,hr,e⟩
 | case3 i hi=>rw[kf (by omega)];simp
theorem fnd_id{rs:List Rw}{id:Int}(i:Nat):(fnd rs id i).2=true→(rwG rs (fnd rs id i).1).id=id∧rwG rs (fnd rs id i).1∈rs:=by
 fun_induction fnd rs id i with
 | case1 i hi he=>exact fun _=>by simp only[rwG,lw,kJ hi,lz];exact⟨he,kN hi⟩
 | case2 i hi he ih=>exact ih
 | case3 i hi=>intro h;cases h
theorem iv{t:Tb}{id:Int} : inT t id=true↔∃r∈t.rows,r.id=id:=by unfold inT;rw[fnd_iff,lh]
theorem iH{t:Tb}{id:Int}(h:inT t id=true):(atT t id).id=id∧atT t id∈t.rows:=fnd_id 0 h
theorem atT_mem{t:Tb}{r:Rw}(hs:Srt t.rows)(hr:r∈t.rows):inT t r.id=true∧atT t r.id=r:=by
 have h:inT t r.id=true:=iv.2 ⟨r,hr,rfl⟩;exact⟨h,srt_id hs (iH h).2 hr (iH h).1⟩
def wrT(t:Tb)(rs:List Rw):Tb:=⟨t.name,t.attrs,rs⟩
structure Ch where
 k:Int
 nm:ByteArray
 tb:Tb
 row:Rw
 a:Int
 v:Vl
def ai(t:Tb)(r:Rw):Int:=if ¬r.vals.length=t.attrs.length then 6 else if r.id≤0∨r.vals.all aV=false then 1 else if inT t r.id=true then 5 else if 1000≤t.rows.length then 3 else 0
def bh(t:Tb)(r:Rw):Bool:=inT t r.id&&decide ((atT t r.id).vals=r.vals)
def ae(t:Tb)(c:Ch):Option Tb :=
 if c.nm=t.name then
  if c.k=2 then(if ai t c.row=0 then some (wrT t (cL t.rows c.row)) else none)
  else if bh t c.row=true then
   if c.k=3 then some (wrT t (cS t.rows c.row.id))
   else if c.k=4 then(if 0≤c.a∧c.a<t.attrs.length∧aV c.v=true then some (wrT t (eM t.rows c.row.id c.a.toNat c.v)) else none)
   else none
  else none
 else none
def runT(t:Tb):List Ch→Option Tb
 | []=>some t
 | c::l=>match ae t c with
  | some u=>runT u l
  | none=>none
theorem iM(t:Tb)(l m:List Ch):runT t (l++m)=(runT t l).bind fun u=>runT u m:=by
 induction l generalizing t with
 | nil=>rfl
 | cons c l ih =>
  simp only[lp,runT]
  cases ae t c with
  | none=>rfl
  | some u=>exact ih u
def dR(c:Ch):Bool:=decide (c.k=4)&&decide (atV c.row.vals c.a.toNat=c.v)
def eL(c:Ch):Ch:=if c.k=4 then⟨c.k,c.nm,⟨kI,[],[]⟩,c.row,c.a,c.v⟩ else⟨c.k,c.nm,⟨kI,[],[]⟩,c.row,0,vl0⟩
def am(l:List Ch):List Ch:=(l.filter fun c=>!dR c).map eL
def gx(c:Ch):Ch:=if c.k=2 then { c with k:=3 } else if c.k=3 then { c with k:=2 } else if c.k=4 then { c with row:=⟨c.row.id,c.row.vals.set c.a.toNat c.v⟩,v:=atV c.row.vals c.a.toNat } else c
theorem cP{t:Tb}(h:aH t=0):Srt t.rows:=(tbC h).ids
theorem jF{t:Tb}(h:aH t=0){rs:List Rw}(hl:rs.length≤1000)(hs:Srt rs)(hr:∀r∈rs,0<r.id∧r.vals.length=t.attrs.length∧r.vals.all aV=true):aH (wrT t rs)=0:=by
 have hw:=(tbC h).wide;have e:aH (wrT t rs)=(if bI t.name=true then(if 16<t.attrs.length∨1000<rs.length then 3 else if ct t.attrs=true then bV t.attrs.length 0 rs else 1) else 1):=rfl;rw[e];unfold aH at h;split at h
 ·rename_i h1;split at h
  ·cases h
  ·split at h
   ·rename_i h3;rw[if_pos h1,if_neg (by omega),if_pos h3]
    have:∀(rs:List Rw) (last:Int),(∀r∈rs,last<r.id∧r.vals.length=t.attrs.length∧r.vals.all aV=true)→Srt rs→bV t.attrs.length last rs=0:=by
     intro rs
     induction rs with
     | nil=>intros;rfl
     | cons r rs ih =>
      intro last h4 h5;obtain⟨a,b,c⟩:=h4 r lT;obtain⟨d,e⟩:=List.pairwise_cons.1 h5;rw[bV,if_neg (by omega),if_neg (by simp[b]),if_pos c];exact ih _ (fun s hs2=>⟨d s hs2,(h4 s (ln _ hs2)).2⟩) e
    exact this rs 0 hr hs
   ·cases h
 ·cases h
theorem bE{t:Tb}(h:aH t=0):t.rows.length≤1000:=by
 unfold aH at h;split at h
 ·split at h
  ·cases h
  ·omega
 ·cases h
theorem aw{t:Tb}(h:aH t=0):∀r∈t.rows,0<r.id∧r.vals.length=t.attrs.length∧r.vals.all aV=true:=fun r hr=>⟨(tbC h).pos r hr,(tbC h).len r hr,(tbC h).val r hr⟩
theorem bo{t:Tb}{r:Rw}(h:ai t r=0):r.vals.length=t.attrs.length∧0<r.id∧r.vals.all aV=true∧(∀s∈t.rows,¬s.id=r.id)∧t.rows.length<1000:=by
 unfold ai at h;split at h
 ·cases h
 ·rename_i h1;split at h
  ·cases h
  ·rename_i h2;split at h
   ·cases h
   ·rename_i h3;split at h
    ·cases h
    ·refine⟨by simpa using h1,by omega,?_,fun s hs e=>h3 (iv.2 ⟨s,hs,e⟩),by omega⟩;cases hq:r.vals.all aV
     ·exact absurd (.inr hq) h2
     ·rfl
theorem ins_len{t:Tb}(rs:List Rw)(r:Rw)(hn:∀s∈rs,¬s.id=r.id):(cL rs r).length=rs.length+1:=by
 induction rs with
 | nil=>rfl
 | cons s rs ih =>
  have h1:=hn s lT
  have h2:=ih fun s hs=>hn s (ln _ hs)
  simp only[cL,kr,kw,mP]at h2 ⊢;by_cases h3:s.id<r.id
  ·rw[if_pos (by simpa using h3),if_neg (by simp;omega)];simp only[kw];omega
  ·rw[if_neg (by simpa using h3),if_pos (by simp;omega)];simp only[kw];omega
theorem ie{t u:Tb}{c:Ch}(h:aH t=0)(hs:ae t c=some u):aH u=0∧u.name=t.name∧u.attrs=t.attrs:=by
 have hsrt:=cP h;have hrow:=aw h;have hrl:=bE h;unfold ae at hs;split at hs
 case isFalse=>cases hs
 split at hs
 ·split at hs
  case isFalse=>cases hs
  rename_i h2;obtain⟨a,b,c1,d,e⟩:=bo h2;cases hs;refine⟨jF h (by rw[ins_len (t:=t) _ _ d];omega) (srt_ins hsrt _) fun r hr=>?_,rfl,rfl⟩
  rcases iq.1 hr with rfl | ⟨hr,_⟩
  ·exact⟨b,a,c1⟩
  ·exact hrow r hr
 ·split at hs
  case isFalse=>cases hs
  split at hs
  ·cases hs;exact⟨jF h (lQ (lg _ _) hrl) (srt_del hsrt _) fun r hr=>hrow r (dp.1 hr).1,rfl,rfl⟩
  ·split at hs
   case isFalse=>cases hs
   split at hs
   case isFalse=>cases hs
   rename_i h5;cases hs;refine⟨jF h (by rw[eM,kh];exact hrl) (srt_chg hsrt _ _ _) fun r hr=>?_,rfl,rfl⟩
   rcases mem_chg.1 hr with⟨hr,_⟩ | ⟨s,hs2,_,rfl⟩
   ·exact hrow r hr
   ·obtain⟨a,b,d⟩:=hrow s hs2;refine⟨a,by simpa using b,?_⟩;rw[lM]at d ⊢;intro x hx
    rcases ly hx with hx | rfl
    ·exact d x hx
    ·exact h5.2.2
theorem fy{t:Tb}(h:aH t=0){r:Rw}(hi:bh t r=true):r∈t.rows:=by
 unfold bh at hi;rw[kR,decide_eq_true_iff]at hi;obtain⟨h1,h2⟩:=hi;have h3:=iH h1
 have:r=atT t r.id:=by
  obtain⟨id,vs⟩:=r
  cases hq:atT t id with
  | mk id' vs' =>
   simp only[hq]at h2 h3;rw[←h2,←h3.1]
 rw[this];exact h3.2
theorem rowIs_of{t:Tb}(h:aH t=0){r:Rw}(hr:r∈t.rows):bh t r=true:=by
 obtain⟨a,b⟩:=atT_mem (cP h) hr;unfold bh;rw[a,b];simp
theorem step_inv{t u:Tb}{c:Ch}(h:aH t=0)(hs:ae t c=some u):ae u (gx c)=some t:=by
 have hsrt:=cP h;have hrow:=aw h;have hrl:=bE h;obtain⟨hu,hn,hat⟩:=ie h hs;unfold ae at hs;split at hs
 case isFalse=>cases hs
 rename_i hnm;split at hs
 ·rename_i hk;split at hs
  case isFalse=>cases hs
  rename_i h2;obtain⟨a,b,c1,d,e⟩:=bo h2;cases hs;have hmem:c.row∈(wrT t (cL t.rows c.row)).rows:=iq.2 (.inl rfl);unfold gx;rw[if_pos hk];unfold ae;rw[if_pos (by simpa[wrT] using hnm),if_neg (by simp),if_pos (rowIs_of hu hmem),if_pos rfl];simp only[wrT];rw[del_ins hsrt d]
 ·rename_i hk;split at hs
  case isFalse=>cases hs
  rename_i hri;have hmem:=fy h hri;obtain⟨a,b,c1⟩:=hrow _ hmem;split at hs
  ·rename_i hk3;cases hs;unfold gx;rw[if_neg hk,if_pos hk3];unfold ae
   have hi:ai (wrT t (cS t.rows c.row.id)) c.row=0:=by
    unfold ai
    have hl:(cS t.rows c.row.id).length<t.rows.length:=by
     have h1:(cS t.rows c.row.id).length≤t.rows.length:=lg _ _
     rcases lJ (cS t.rows c.row.id).length t.rows.length with h2 | h2
     ·exact h2
     ·exfalso;have h3:cS t.rows c.row.id=t.rows:=(List.filter_sublist).eq_of_length (by unfold cS at h1 h2;omega);have:=hmem;rw[←h3,dp]at this;exact this.2 rfl
    have hno:¬inT (wrT t (cS t.rows c.row.id)) c.row.id=true:=by
     rw[iv];rintro⟨r,hr,e⟩;exact(dp.1 hr).2 e
    rw[if_neg (by simp[wrT,b]),if_neg (by rw[c1];simp;omega),if_neg hno,if_neg (by simp only[wrT];omega)]
   rw[if_pos (by simpa[wrT] using hnm),if_pos rfl];simp only;rw[if_pos hi];simp only[wrT];rw[ins_del hsrt hmem]
  ·rename_i hk3;split at hs
   case isFalse=>cases hs
   rename_i hk4;split at hs
   case isFalse=>cases hs
   rename_i h5;cases hs
   have hal:c.a.toNat<c.row.vals.length:=by omega
   have hov:aV (atV c.row.vals c.a.toNat)=true:=by
    have:atV c.row.vals c.a.toNat=c.row.vals[c.a.toNat]:=by simp[atV,hal]
    rw[this];exact List.all_eq_true.1 c1 _ (kN hal)
   have hm2:(⟨c.row.id,c.row.vals.set c.a.toNat c.v⟩:Rw)∈(wrT t (eM t.rows c.row.id c.a.toNat c.v)).rows:=mem_chg.2 (.inr ⟨c.row,hmem,rfl,rfl⟩);unfold gx;rw[if_neg hk,if_neg hk3,if_pos hk4];unfold ae;simp only;rw[if_pos (by simpa[wrT] using hnm),if_neg hk,if_pos (rowIs_of hu hm2),if_neg hk3,if_pos hk4,if_pos ⟨h5.1,h5.2.1,hov⟩];simp only[wrT];rw[chg_chg hsrt hmem hal]
theorem step_cln{t u:Tb}{c:Ch}(hs:ae t c=some u):ae t (eL c)=some u:=by
 rw[←hs];unfold eL;split<;>rename_i h
 ·rfl
 ·unfold ae;simp only[if_neg h]
theorem step_nop{t u:Tb}{c:Ch}(h:aH t=0)(hs:ae t c=some u)(hn:dR c=true):u=t:=by
 unfold dR at hn;rw[kR,decide_eq_true_iff,decide_eq_true_iff]at hn;obtain⟨hk4,hv⟩:=hn;unfold ae at hs;split at hs
 case isFalse=>cases hs
 rw[if_neg (show ¬c.k=2 by omega)]at hs;split at hs
 case isFalse=>cases hs
 rename_i hri;rw[if_neg (show ¬c.k=3 by omega)]at hs;split at hs
 case isFalse=>cases hs
 rename_i h5;cases hs;have hmem:=fy h hri;have hl:=(aw h _ hmem).2.1
 have:eM t.rows c.row.id c.a.toNat c.v=t.rows:=by
  unfold eM
  conv=>rhs;rw[←List.map_id t.rows]
  refine lW fun s hs2=>?_
  simp only[id];by_cases e:s.id=c.row.id
  ·obtain rfl:=srt_id (cP h) hs2 hmem e;rw[if_pos rfl,set_same (by omega) hv]
  ·rw[if_neg e]
 unfold wrT;rw[this]
theorem eff_snoc(l:List Ch)(c:Ch):am (l++[c])=am l++(if dR c=true then [] else [eL c]):=by
 unfold am;rw[mH,lZ];congr 1;cases hq:dR c<;>simp[List.filter,hq]
theorem run_eff{t u:Tb}{l:List Ch}(h:aH t=0)(hs:runT t l=some u):runT t (am l)=some u:=by
 induction l generalizing t with
 | nil=>exact hs
 | cons c l ih =>
  rw[runT]at hs
  cases hq:ae t c with
  | none=>rw[hq]at hs;cases hs
  | some w =>
   rw[hq]at hs;have h1:=ih (ie h hq).1 hs
   cases hn:dR c with
   | true =>
    have:=step_nop h hq hn;subst this
    have:am (c::l)=am l:=by unfold am;rw[mP,if_neg (by simp[hn])]
    rw[this];exact h1
   | false =>
    have:am (c::l)=eL c::am l:=by unfold am;rw[mP,if_pos (by simp[hn]),lH]
    rw[this,runT,step_cln hq];exact h1
def chC(f g:Bool)(c:Ch):List V:=[.int .i64 c.k,.str c.nm,.str c.tb.name,.lst 1 f (c.tb.attrs.map V.str),.lst 2 g (c.tb.rows.map aC),.int .i64 c.row.id,.lst 3 false (c.row.vals.map aJ),.int .i64 c.a,.int .i64 c.v.k,.int .i64 c.v.n,.str c.v.s]
def aE(f g:Bool)(c:Ch):V:=.agg (chC f g c)
@[simp] theorem encCh_pure (f g:Bool) (c:Ch):AM.Pure (aE f g c):=by simp[aE,chC]
@[simp] theorem encCh_oneV (f g:Bool) (c:Ch):dA (aE f g c)=true:=by simp[aE,chC,dA,V.one]
def jr(a b:Ch):Bool:=decide (a.k=b.k)&&((a.nm.toList == b.nm.toList)&&(eqTb a.tb b.tb&&(iZ a.row b.row&&(decide (a.a=b.a)&&decide (a.v=b.v)))))
theorem eqCh_self(a:Ch):jr a a=true:=by simp[jr,hU,iZ,fh]
structure ChOk (c:Ch):Prop where
 attrs:c.tb.attrs.length≤1000000
 rows:c.tb.rows.length≤1000000
 row:∀r∈c.tb.rows,r.vals.length≤1000000∧∀v∈r.vals,v.s.size≤maxLen
 vals:c.row.vals.length≤1000000∧∀v∈c.row.vals,v.s.size≤maxLen
theorem equal59(a b:Ch)(f g f2 g2:Bool)(h:ChOk a):aK Tryz.prog 77 [aE f g a,aE f2 g2 b] fun r=>r = .bool (jr a b):=by
 have c1:=gT a.tb b.tb f g f2 g2 h.attrs h.rows h.row;have c2:=iV a.row b.row h.vals.1 h.vals.2
 have e1:=fun H=>eqVl9 H a.v b.v
 simp only[aD,LS,LR,aC,LV]at c1 c2;unfold jr;by_cases h1:a.k=b.k
 case neg =>
  rw[decide_eq_false h1,kj];refine sPx Tryz.func77 rfl rfl ?_;simp -dsimp[Tryz.f77,aI,aE,chC,h1]
 rw[decide_eq_true h1,ke]
 cases h2:(a.nm.toList == b.nm.toList) with
 | false =>
  rw[kj];refine sPx Tryz.func77 rfl rfl ?_;simp -dsimp[Tryz.f77,aI,aE,chC,h1,h2]
 | true =>
 rw[ke]
 cases h3:eqTb a.tb b.tb with
 | false =>
  rw[h3]at c1;rw[kj];refine sPx Tryz.func77 rfl rfl ?_;simp -dsimp[Tryz.f77,aI,aE,chC,h1,h2];refine cPx (c1) (by simp) ?_;simp -dsimp[]
 | true =>
 rw[h3]at c1;rw[ke]
 cases h4:iZ a.row b.row with
 | false =>
  rw[h4]at c2;rw[kj];refine sPx Tryz.func77 rfl rfl ?_;simp -dsimp[Tryz.f77,aI,aE,chC,h1,h2];refine cPx (c1) (by simp) ?_;simp -dsimp[];refine cPx (c2) (by simp) ?_;simp -dsimp[]
 | true =>
 rw[h4]at c2;rw[ke];by_cases h5:a.a=b.a
 case neg =>
  rw[decide_eq_false h5,kj];refine sPx Tryz.func77 rfl rfl ?_;simp -dsimp[Tryz.f77,aI,aE,chC,h1,h2];refine cPx (c1) (by simp) ?_;simp -dsimp[];refine cPx (c2) (by simp) ?_;simp -dsimp[h5]
 rw[decide_eq_true h5,ke];refine sPx Tryz.func77 rfl rfl ?_;simp -dsimp[Tryz.f77,aI,aE,chC,h1,h2];refine cPx (c1) (by simp) ?_;simp -dsimp[];refine cPx (c2) (by simp) ?_;simp -dsimp[h5,e1]
def eqCs(a b:List Ch):Bool:=decide (a.length=b.length)&&(kQ a.length).all fun i=>jr (a.getD i ⟨0,kI,⟨kI,[],[]⟩,⟨0,[]⟩,0,vl0⟩) (b.getD i ⟨0,kI,⟨kI,[],[]⟩,⟨0,[]⟩,0,vl0⟩)
theorem eqCs_self(a:List Ch):eqCs a a=true:=by simp[eqCs,eqCh_self]
theorem same59(A B:List V)(l m:List Ch)(f g:Bool)(ha:A.length=l.length)(hb:B.length=m.length)(hl:l.length≤1000000)(pa:∀x∈A,AM.Pure x)(pb:∀x∈B,AM.Pure x)
  (hc:∀i (h1:i<A.length) (h2:i<B.length) (h3:i<l.length) (h4:i<m.length),(∃xs ys,A[i] = .agg xs∧B[i] = .agg ys∧xs.length=11∧ys.length=11)∧aK Tryz.prog 77 [A[i],B[i]] fun r=>r = .bool (jr l[i] m[i])):
  aK Tryz.prog 40 [.lst 11 f A,.lst 11 g B] fun r=>r = .bool (eqCs l m):=by
 unfold eqCs;obtain⟨z,hz⟩:∃z:Ch,z=⟨0,kI,⟨kI,[],[]⟩,⟨0,[]⟩,0,vl0⟩:=⟨_,rfl⟩;rw[←hz];by_cases h0:l.length=m.length
 ·rw[decide_eq_true h0,ke]
  obtain⟨E,hE⟩:∃E,E=(kQ l.length).all fun i=>jr (l.getD i z) (m.getD i z):=⟨_,rfl⟩
  rw[←hE]
  have hAB:A.length=B.length:=by omega
  refine sPx Tryz.func40 rfl rfl ?_;simp -dsimp[Tryz.f40,aI,hAB];refine aO (W_loopM 27 0x7fff830 (by simp[mB]<;>rfl) (σ:=Nat) (fun i=>i≤l.length∧(kQ i).all (fun i=>jr (l.getD i z) (m.getD i z))=true) (fun i=>l.length-i) (fun i=>[(5,.int .i64 i)]) (fun _=>[]) 0 ⟨by omega,rfl⟩ (by simp) rfl (by simp) ?_);rintro i ⟨hi,hall⟩ N Q hN hQ;by_cases hb1:i<l.length
  ·have q1:i<A.length:=by omega
   have q2:i<B.length:=by omega
   have q3:i<m.length:=by omega
   obtain⟨⟨xs,ys,w1,w2,w3,w4⟩,c1⟩:=hc i q1 q2 hb1 q3;rw[w1,w2]at c1
   have ha1:l.getD i z=l[i]:=by simp[hb1]
   have ha2:m.getD i z=m[i]:=by simp[q3]
   have p1:AM.Pure (.agg xs):=by rw[←w1];exact pa _ (kN q1)
   have p2:AM.Pure (.agg ys):=by rw[←w2];exact pb _ (kN q2)
   have t1:xs.take 11=xs:=lE (by omega);have t2:ys.take 11=ys:=lE (by omega)
   cases hq:jr l[i] m[i] with
   | true =>
    rw[hq]at c1;refine wx ?_;simp -dsimp[hAB.symm,q1,w1,w2,w3,w4,t1,t2];refine .inr ⟨aR (by kernel_rfl),?_⟩;refine av _ (aP c1 (by intro a ha;simp only[kZ,kS,or_false]at ha;rcases ha with rfl | rfl<;>assumption)) ?_;simp -dsimp[aX i (by omega)];refine hN (i+1) _ _ ⟨by omega,br hall (by rw[ha1,ha2,hq])⟩ (by omega) (by simp[hAB]) ⟨[],by simp⟩ (by simp;exact⟨pa,pb,pa,pb⟩) (by simp)
   | false =>
    rw[hq]at c1
    have hno:(kQ l.length).all (fun i=>jr (l.getD i z) (m.getD i z))=false:=by
     cases hh:(kQ l.length).all (fun i=>jr (l.getD i z) (m.getD i z))
     ·rfl
     ·have:=List.all_eq_true.1 hh i (by simpa using hb1);rw[ha1,ha2,hq]at this;cases this
    rw[hno]at hE;refine wx ?_;simp -dsimp[hAB.symm,q1,w1,w2,w3,w4,t1,t2];refine .inr ⟨aR (by kernel_rfl),?_⟩;refine av _ (aP c1 (by intro a ha;simp only[kZ,kS,or_false]at ha;rcases ha with rfl | rfl<;>assumption)) ?_;simp -dsimp[];refine hQ _ _ _ ?_;simp -dsimp[];exact hE
  ·obtain rfl:i=l.length:=by omega
   rw[hall]at hE;refine wx ?_;simp -dsimp[show ¬l.length<A.length by omega,show ¬((l.length:Int)<A.length) by omega];refine hQ _ _ _ ?_;simp -dsimp[];exact hE
 ·rw[decide_eq_false h0,kj];refine sPx Tryz.func40 rfl rfl ?_;simp -dsimp[Tryz.f40,aI,show ¬(A.length:Int)=B.length by omega]
end
end Go.Proofs.YtpedcgdgjoblkaaGreatDoor
section
namespace Go.Proofs.YtpedcgdgjoblkaaGreatDoor
open Go Go.AM
end Go.Proofs.YtpedcgdgjoblkaaGreatDoor
end
namespace Go.Proofs.YtpedcgdgjoblkaaGreatDoor
section
open Go Go.AM
def tb0:Tb:=⟨kI,[],[]⟩
def setR(rs:List Rw)(id:Int)(vs:List Vl):List Rw:=rs.map fun r=>if r.id=id then⟨r.id,vs⟩ else r
theorem set_set(rs:List Rw)(id:Int)(vs ws:List Vl):setR (setR rs id vs) id ws=setR rs id ws:=by
 unfold setR;rw[List.map_map]
 refine lW fun r _=>?_
 simp only[Function.comp];by_cases e:r.id=id
 ·rw[if_pos e,if_pos e,if_pos e]
 ·rw[if_neg e,if_neg e]
end
end Go.Proofs.YtpedcgdgjoblkaaGreatDoor
