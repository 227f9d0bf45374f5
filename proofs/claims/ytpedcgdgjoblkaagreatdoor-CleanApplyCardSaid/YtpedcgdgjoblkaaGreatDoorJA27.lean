/- JA27: own texts of this seat, joined and shortened by pack4.py: UA, UJ, UK. -/
import Derived.Test.YtpedcgdgjoblkaaGreatDoorJA24
import Derived.Test.YtpedcgdgjoblkaaGreatDoorJA26
set_option linter.unusedVariables false
set_option linter.unusedSimpArgs false
set_option maxRecDepth 100000
set_option maxHeartbeats 64000000
open Bool renaming and_eq_true→kR,true_and→ke,eq_false_iff→mh
open ByteArray renaming empty→kI
open Int renaming eq_ofNat_of_zero_le→mQ,toNat_natCast→mT
open List renaming replicate→aI,mem_of_getElem?→kK,getElem_mem→kN,not_mem_nil→kS,drop_eq_getElem_cons→kT,append_nil→kX,take_succ_eq_append_getElem→kY,mem_cons→kZ,getElem?_map→kb,length_map→kh,take_length→km,set_cons_zero→kn,set_cons_succ→ko,length_append→kr,length_take→lC,map_append→lZ,length_filter_le→lg,mem_singleton→mA,length_nil→mK
open Nat renaming le_trans→lQ
open Option renaming map_some→kx
namespace Go.Proofs.YtpedcgdgjoblkaaGreatDoor
section
open Go Go.AM
def dz(dl nl:List V):List V:=if nl=[] then dl else dl++[.lst 11 false nl]
theorem addX_pure{dl nl:List V}(h:∀x∈dl,AM.Pure x)(h2:∀x∈nl,AM.Pure x):∀x∈dz dl nl,AM.Pure x:=fun x hx=>by
 unfold dz at hx;split at hx
 ·exact h x hx
 ·rcases List.mem_append.1 hx with q | q
  ·exact h x q
  ·rw[List.mem_singleton.1 q];exact(pure_lst _ _ _).2 h2
theorem addX_one{dl nl:List V}(h:∀x∈dl,∀c∈x.cells,c.one=true):∀x∈dz dl nl,∀c∈x.cells,c.one=true:=fun x hx=>by
 unfold dz at hx;split at hx
 ·exact h x hx
 ·rcases List.mem_append.1 hx with q | q
  ·exact h x q
  ·rw[List.mem_singleton.1 q];simp[V.cells,V.one]
theorem commit0l(H:List B)(k:Nat)(f:Bool):aT Tryz.prog 57 [.ptr k 0,.lst 11 f []] H fun r H'=>r = .tup []∧H'=H:=by
 refine aG tok Tryz.func57 rfl rfl ?_;refine wx ?_;simp -dsimp[Tryz.f57,aI]
theorem commit_x(db:V)(dl nl:List V)(hd:dl.length≤1000000)(p:StO db .nilS dl nl):aT Tryz.prog 22 [.ptr 0 0] [stB db (.buf 1 0 dl.length dl.length) .nilS true (.buf 2 0 nl.length nl.length),dnS dl,nwS nl] fun r H'=>r = .int .i64 0∧∃G,H'=[stB db (.buf 1 0 (dz dl nl).length (dz dl nl).length) .nilS false .nilS,dnS (dz dl nl)]++G:=by
 by_cases h0:nl=[]
 ·subst h0;have e0:dz dl []=dl:=if_pos rfl;rw[e0];have c1:=jD (k:=2) (e:=45) (z:=11) (xs:=[]) (fz:=false) (cs':=[.lst 11 false [],.int .i64 0]) (endO db (.buf 1 0 dl.length dl.length) .nilS (.buf 2 0 0 0) (dnS dl) (nwS [])) rfl (by simp[eD])
  have c2:=fun H=>commit0l H 0 false
  simp only[kn,ko,stB,mK]at c1 c2 ⊢;refine aG tok Tryz.func22 rfl rfl ?_;refine wx ?_;simp -dsimp[Tryz.f22,aI];refine c1.mono ?_;rintro r H' ⟨rfl,rfl⟩;simp -dsimp[];refine wcE (c2 _) ?_;simp -dsimp[]
 ·have e0:dz dl nl=dl++[.lst 11 false nl]:=if_neg h0;rw[e0];have:=commit_o db .nilS dl nl (List.length_pos_iff.2 h0) hd p;simpa using this
def tkT(t:Tb)(l:List Ch)(i:Nat):Tb:=(runT t (l.take i)).getD t
theorem tkT_zero(t:Tb)(l:List Ch):tkT t l 0=t:=rfl
theorem tkT_some{t u:Tb}{l:List Ch}(h:runT t l=some u):∀{i:Nat},i≤l.length→runT t (l.take i)=some (tkT t l i)
 | 0,_=>rfl
 | i+1,hi=>by
  obtain⟨w,w',_,_,h3⟩:=runT_take h (show i<l.length by omega);unfold tkT;rw[h3];rfl
theorem tkT_all{t u:Tb}{l:List Ch}(h:runT t l=some u):tkT t l l.length=u:=by
 unfold tkT;rw[km,h];rfl
theorem jG{t u:Tb}{l:List Ch}(h:runT t l=some u){i:Nat}(hi:i<l.length):ae (tkT t l i) l[i]=some (tkT t l (i+1)):=by
 obtain⟨w,w',h1,h2,h3⟩:=runT_take h hi;unfold tkT;rw[h1,h3];exact h2
theorem gi{t u:Tb}{l:List Ch}(hv:aH t=0)(hk:TbOk t)(h:runT t l=some u){i:Nat}(hi:i≤l.length):aH (tkT t l i)=0∧TbOk (tkT t l i)∧(tkT t l i).name=t.name∧(tkT t l i).attrs=t.attrs:=by
 obtain⟨h1,h2,h3⟩:=jJ hv (tkT_some h hi);have:=bE h1;exact⟨h1,⟨by rw[h2];exact hk.name,by rw[h3];exact hk.attrs,by omega,by rw[h3];exact hk.strs⟩,h2,h3⟩
theorem eP{t u:Tb}{c:Ch}(h:aH t=0)(hs:ae t c=some u):c.row.vals.length=t.attrs.length∧t.attrs.length≤16:=by
 refine⟨?_,(tbC h).wide⟩;unfold ae at hs;split at hs
 case isFalse=>cases hs
 split at hs
 ·split at hs
  case isFalse=>cases hs
  rename_i h2;exact(bo h2).1
 ·split at hs
  case isFalse=>cases hs
  rename_i h2;exact(aw h _ (fy h h2)).2.1
theorem rowIs_eq{t:Tb}{r:Rw}(hi:bh t r=true):inT t r.id=true∧atT t r.id=r:=by
 unfold bh at hi;rw[kR,decide_eq_true_iff]at hi;obtain⟨h1,h2⟩:=hi;have h3:=iH h1;refine⟨h1,?_⟩;obtain⟨id,vs⟩:=r
 cases hq:atT t id with
 | mk id' vs' =>
  simp only[hq]at h2 h3;rw[h2,h3.1]
theorem eff_take{l:List Ch}{i:Nat}(h:i<l.length):am (l.take (i+1))=am (l.take i)++(if dR l[i]=true then [] else [eL l[i]]):=by
 rw[kY h,eff_snoc]
theorem eff_len(l:List Ch)(i:Nat):(am (l.take i)).length≤i:=by
 unfold am;rw[kh];exact lQ (lg _ _) (by rw[lC];omega)
theorem stO_mk(t:Tb){dl:List V}(h1:∀x∈dl,AM.Pure x)(h2:∀x∈dl,∀c∈x.cells,c.one=true)(l:List Ch):StO (LTb false [t]) .nilS dl (l.map (aE false false)):=
 ⟨by simp,by simp,h1,fun x hx=>by obtain⟨c,_,rfl⟩:=List.mem_map.1 hx;simp,rfl,rfl,h2,fun x hx=>by obtain⟨c,_,rfl⟩:=List.mem_map.1 hx;exact encCh_one c⟩
def stE(t:Tb)(m q:Nat):B:=stB (LTb false [t]) (.buf 1 0 m m) .nilS true (.buf 2 0 q q)
theorem end_o(t u:Tb)(l:List Ch)(h:Bool)(hv:aH t=0)(hk:TbOk t)(hl:l.length≤1000000)(hr:runT t l=some u)(dl:List V)(hd:dl.length≤1000000)(h1:∀x∈dl,AM.Pure x)(h2:∀x∈dl,∀c∈x.cells,c.one=true):
  aT Tryz.prog 31 [.ptr 0 0,.str t.name,.lst 11 h (l.map (aE false false))] [stB (LTb false [t]) (.buf 1 0 dl.length dl.length) .nilS true .nilS,dnS dl] fun r H'=>r = .int .i64 0∧H'=[stB (LTb false [u]) (.buf 1 0 (dz dl ((am l).map (aE false false))).length (dz dl ((am l).map (aE false false))).length) .nilS false .nilS,dnS (dz dl ((am l).map (aE false false)))]:=by
 have hpE:∀x∈(am l).map (aE false false),AM.Pure x:=fun x hx=>by obtain⟨c,_,rfl⟩:=List.mem_map.1 hx;simp
 refine eK ?_ (by simp) (by simp[rb]) (StP.rb ⟨by simp,by simp,by simp,addX_pure h1 hpE,rfl,rfl,rfl,addX_one h2⟩);obtain⟨m,hm⟩:∃m,m=dl.length:=⟨_,rfl⟩;have cx:=commit_x (LTb false [u]) dl ((am l).map (aE false false)) hd (stO_mk u h1 h2 _);rw[kh,←hm]at cx;rw[←hm];obtain⟨D,hD⟩:∃D,D=dnS dl:=⟨_,rfl⟩
 have hrbD:∀n,rbB n D:=fun n=>by rw[hD];exact(cA h1 h2).2 trivial
 have hrbS:∀(w:Tb) (q n:Nat),3≤n→rbB n (stE w m q):=fun w q n hn c hc=>by
  simp only[kZ,kS,or_false]at hc
  rcases hc with rfl | rfl | rfl | rfl | rfl
  ·exact bW (by simp) rfl
  ·show 1<n;omega
  ·simp[rb,rb1]
  ·simp[rb,rb1]
  ·show 2<n;omega
 have hrbN:∀(l:List Ch) (n:Nat),rbB n (nwS (l.map (aE false false))):=fun l n=>chs_rb _ _ _ _
 obtain⟨nm,hnm⟩:∃nm,nm=t.name:=⟨_,rfl⟩;have h0e:tkT t l 0=t:=rfl;have hue:=tkT_all hr;rw[←hD]at cx ⊢;rw[←hnm];refine aG tok Tryz.func31 rfl rfl ?_;refine cO 45 11 [] 0 [4] rfl (bu _ _) (by simp[stB]) ?_;refine wx ?_;simp -dsimp[Tryz.f31,aI,stB];refine aO (W_loopM 49 0x1fffffffff340 (by simp[mB]<;>rfl) (σ:=Nat) (fun i=>i≤l.length) (fun i=>l.length-i) (fun i=>[(12,.int .i64 i)]) (fun i=>[stE (tkT t l i) m (am (l.take i)).length,D,nwS ((am (l.take i)).map (aE false false))]) 0 (by omega) (by simp) (by simp[stE,stB,am,nwS,tkT_zero]) (by simp) ?_);intro i hi N Q hN hQ;by_cases hb:i<l.length
 ·obtain⟨hvu,hku,hnu,hau⟩:=gi hv hk hr (show i≤l.length by omega);have hst:=jG hr hb;have hes:=eff_take hb;have hel:=eff_len l i;obtain⟨c,hce⟩:∃c,c=l[i]:=⟨_,rfl⟩;rw[←hce]at hst hes;have hce':=hce.symm;obtain⟨v,hve⟩:∃v,v=tkT t l i:=⟨_,rfl⟩;obtain⟨w,hwe⟩:∃w,w=tkT t l (i+1):=⟨_,rfl⟩;obtain⟨el,hee⟩:∃el,el=am (l.take i):=⟨_,rfl⟩;rw[←hve]at hvu hku hnu hau hst;rw[←hve];rw[←hwe]at hst;rw[←hee]at hes hel;rw[←hee];obtain⟨q,hq⟩:∃q,q=el.length:=⟨_,rfl⟩;rw[←hq]at hel ⊢;have hrow:=eP hvu hst
  have hrl:c.row.vals.length≤1000000:=by omega
  have p:=stO_mk v h1 h2 el
  have hnn:v.name=nm:=by rw[hnu,hnm]
  obtain⟨k,cn,tb,row,a,vv⟩:=c;simp only at hrl hrow;have hst2:=hst;unfold ae at hst2;simp only at hst2;by_cases hn:cn=v.name
  case neg=>rw[if_neg hn]at hst2;cases hst2
  rw[if_pos hn]at hst2;subst hn;by_cases hk2:k=2
  ·subst hk2;rw[if_pos rfl]at hst2;by_cases he:ai v row=0
   case neg=>rw[if_neg he]at hst2;cases hst2
   have hsx:ae v ⟨2,v.name,tb0,row,0,vl0⟩=some w:=by
    unfold ae;simp only[if_true];rw[if_pos he];rw[if_pos he]at hst2;exact hst2
   have ci:=fun G=>gC (H:=[stB (LTb false [v]) (.buf 1 0 m m) .nilS true (.buf 2 0 q q),D,nwS (el.map (aE false false)),G]) (k:=0) (L:=1) (M:=2) (insert_o v w row false hvu hku hrl hsx .nilS dl (el.map (aE false false)) m q (by rw[kh,hq]) (by omega) p) p (p.step _) (by simp) (by simp) (by decide) (by decide) (by decide) rfl (by rw[hD];rfl) rfl
   have hnew:el++[eL ⟨2,v.name,tb,row,a,vv⟩]=am (l.take (i+1)):=by rw[hes,if_neg (by simp[dR])]
   have hcl:eL ⟨2,v.name,tb,row,a,vv⟩=⟨2,v.name,tb0,row,0,vl0⟩:=rfl;rw[hcl]at hnew
   have e1:∀q,stB (LTb false [v]) (.buf 1 0 m m) .nilS true (.buf 2 0 q q)=stE v m q:=fun _=>rfl
   have e2:∀q,stB (LTb false [w]) (.buf 1 0 m m) .nilS true (.buf 2 0 q q)=stE w m q:=fun _=>rfl
   rw[←hD]at ci;simp only[e1,e2,kn,ko]at ci
   have e3:el.map (aE false false)++[aE false false ⟨2,v.name,tb0,row,0,vl0⟩]=(am (l.take (i+1))).map (aE false false):=by rw[←hnew,lZ];rfl
   have e4:(am (l.take (i+1))).length=q+1:=by rw[←hnew,kr,hq];rfl
   rw[e3]at ci;rw[hnn]at ci hce';obtain⟨S,hS⟩:∃S,S=stE v m q:=⟨_,rfl⟩;obtain⟨N0,hN0⟩:∃N0,N0=nwS (el.map (aE false false)):=⟨_,rfl⟩;rw[←hS,←hN0]at ci ⊢;simp only[aC,LV]at ci;refine wx ?_;simp -dsimp[hb,hce',aE,chC];refine wcE (ci _) ?_;simp -dsimp[aX i (by omega)];refine hN (i+1) _ _ (by omega) (by omega) (by simp) ⟨[B.cells (chC false false ⟨2,nm,tb,row,a,vv⟩)],by simp[e4,←hwe,chC]⟩ (by simp) ?_;intro bl hbl;simp only[kZ,kS,or_false]at hbl
   rcases hbl with rfl | rfl | rfl
   ·exact hrbS _ _ _ (by simp)
   ·exact hrbD _
   ·exact hrbN _ _
  rw[if_neg hk2]at hst2;by_cases hri:bh v row=true
  case neg=>rw[if_neg hri]at hst2;cases hst2
  rw[if_pos hri]at hst2;obtain⟨hin,hat⟩:=rowIs_eq hri;by_cases hk3:k=3
  ·subst hk3;rw[if_pos rfl]at hst2
   have hsx:ae v ⟨3,v.name,tb0,atT v row.id,0,vl0⟩=some w:=by
    rw[hat];unfold ae;simp only[if_true];rw[if_neg (by decide),if_pos hri];exact hst2
   have ci:=fun G=>gC (H:=[stB (LTb false [v]) (.buf 1 0 m m) .nilS true (.buf 2 0 q q),D,nwS (el.map (aE false false)),G]) (k:=0) (L:=1) (M:=2) (delete_o v w row.id false hvu hku hin hsx .nilS dl (el.map (aE false false)) m q (by rw[kh,hq]) (by omega) p) p (p.step _) (by simp) (by simp) (by decide) (by decide) (by decide) rfl (by rw[hD];rfl) rfl
   rw[hat]at ci
   have hnew:el++[eL ⟨3,v.name,tb,row,a,vv⟩]=am (l.take (i+1)):=by rw[hes,if_neg (by simp[dR])]
   have hcl:eL ⟨3,v.name,tb,row,a,vv⟩=⟨3,v.name,tb0,row,0,vl0⟩:=rfl;rw[hcl]at hnew
   have e1:∀q,stB (LTb false [v]) (.buf 1 0 m m) .nilS true (.buf 2 0 q q)=stE v m q:=fun _=>rfl
   have e2:∀q,stB (LTb false [w]) (.buf 1 0 m m) .nilS true (.buf 2 0 q q)=stE w m q:=fun _=>rfl
   rw[←hD]at ci;simp only[e1,e2,kn,ko]at ci
   have e3:el.map (aE false false)++[aE false false ⟨3,v.name,tb0,row,0,vl0⟩]=(am (l.take (i+1))).map (aE false false):=by rw[←hnew,lZ];rfl
   have e4:(am (l.take (i+1))).length=q+1:=by rw[←hnew,kr,hq];rfl
   rw[e3]at ci;rw[hnn]at ci hce';obtain⟨S,hS⟩:∃S,S=stE v m q:=⟨_,rfl⟩;obtain⟨N0,hN0⟩:∃N0,N0=nwS (el.map (aE false false)):=⟨_,rfl⟩;rw[←hS,←hN0]at ci ⊢;refine wx ?_;simp -dsimp[hb,hce',aE,chC];refine wcE (ci _) ?_;simp -dsimp[aX i (by omega)];refine hN (i+1) _ _ (by omega) (by omega) (by simp) ⟨[B.cells (chC false false ⟨3,nm,tb,row,a,vv⟩)],by simp[e4,←hwe,chC]⟩ (by simp) ?_;intro bl hbl;simp only[kZ,kS,or_false]at hbl
   rcases hbl with rfl | rfl | rfl
   ·exact hrbS _ _ _ (by simp)
   ·exact hrbD _
   ·exact hrbN _ _
  rw[if_neg hk3]at hst2;by_cases hk4:k=4
  case neg=>rw[if_neg hk4]at hst2;cases hst2
  subst hk4;rw[if_pos rfl]at hst2;by_cases hcc:0≤a∧a<v.attrs.length∧aV vv=true
  case neg=>rw[if_neg hcc]at hst2;cases hst2
  rw[if_pos hcc]at hst2;obtain⟨ha0,ha1,hvv⟩:=hcc;obtain⟨b,rfl⟩:=mQ ha0
  have hbl:b<(atT v row.id).vals.length:=by rw[hat];omega
  have hatV:atV row.vals b=row.vals[b]'(by omega):=by simp[atV,show b<row.vals.length by omega]
  by_cases hno:row.vals[b]'(by omega)=vv
  ·have hnop:dR ⟨4,v.name,tb,row,b,vv⟩=true:=by
    unfold dR;simp only[mT,decide_true,ke,decide_eq_true_eq];rw[hatV];exact hno
   have hwv:w=v:=step_nop hvu hst hnop
   have ci:=fun G=>gC (H:=[stB (LTb false [v]) (.buf 1 0 m m) .nilS true (.buf 2 0 q q),D,nwS (el.map (aE false false)),G]) (k:=0) (L:=1) (M:=2) (change_nop v row.id b vv false hvu hku hin hbl hvv (by simp only[hat];exact hno) .nilS dl (el.map (aE false false)) m q p) p p (by simp) (by simp) (by decide) (by decide) (by decide) rfl (by rw[hD];rfl) rfl
   have hnew:el=am (l.take (i+1)):=by rw[hes,if_pos hnop,kX]
   have e1:∀q,stB (LTb false [v]) (.buf 1 0 m m) .nilS true (.buf 2 0 q q)=stE v m q:=fun _=>rfl
   rw[←hD]at ci;simp only[e1,kn,ko]at ci;rw[hnn]at ci hce';obtain⟨S,hS⟩:∃S,S=stE v m q:=⟨_,rfl⟩;obtain⟨N0,hN0⟩:∃N0,N0=nwS (el.map (aE false false)):=⟨_,rfl⟩;rw[←hS,←hN0]at ci ⊢;simp only[aJ]at ci;refine wx ?_;simp -dsimp[hb,hce',aE,chC];refine wcE (ci _) ?_;simp -dsimp[aX i (by omega)];refine hN (i+1) _ _ (by omega) (by omega) (by simp) ⟨[B.cells (chC false false ⟨4,nm,tb,row,b,vv⟩)],by simp[←hnew,←hwe,hwv,←hq,←hS,←hN0,chC]⟩ (by simp) ?_;intro bl hbl;simp only[kZ,kS,or_false]at hbl
   rcases hbl with rfl | rfl | rfl
   ·exact hrbS _ _ _ (by simp)
   ·exact hrbD _
   ·exact hrbN _ _
  ·have hnop:¬dR ⟨4,v.name,tb,row,b,vv⟩=true:=by
    unfold dR;simp only[mT,decide_true,ke,decide_eq_true_eq];rw[hatV];exact hno
   have hsx:ae v ⟨4,v.name,tb0,atT v row.id,b,vv⟩=some w:=by
    rw[hat];unfold ae;simp only[if_true];rw[if_neg (by decide),if_pos hri,if_neg (by decide),if_pos ⟨by omega,ha1,hvv⟩];exact hst2
   have ci:=fun G=>gC (H:=[stB (LTb false [v]) (.buf 1 0 m m) .nilS true (.buf 2 0 q q),D,nwS (el.map (aE false false)),G]) (k:=0) (L:=1) (M:=2) (change_o v w row.id b vv false hvu hku hin hbl hvv (by simp only[hat];exact hno) hsx .nilS dl (el.map (aE false false)) m q (by rw[kh,hq]) (by omega) p) p (p.step _) (by simp) (by simp) (by decide) (by decide) (by decide) rfl (by rw[hD];rfl) rfl
   rw[hat]at ci
   have hnew:el++[eL ⟨4,v.name,tb,row,b,vv⟩]=am (l.take (i+1)):=by rw[hes,if_neg hnop]
   have hcl:eL ⟨4,v.name,tb,row,b,vv⟩=⟨4,v.name,tb0,row,b,vv⟩:=rfl;rw[hcl]at hnew
   have e1:∀q,stB (LTb false [v]) (.buf 1 0 m m) .nilS true (.buf 2 0 q q)=stE v m q:=fun _=>rfl
   have e2:∀q,stB (LTb false [w]) (.buf 1 0 m m) .nilS true (.buf 2 0 q q)=stE w m q:=fun _=>rfl
   rw[←hD]at ci;simp only[e1,e2,kn,ko]at ci
   have e3:el.map (aE false false)++[aE false false ⟨4,v.name,tb0,row,b,vv⟩]=(am (l.take (i+1))).map (aE false false):=by rw[←hnew,lZ];rfl
   have e4:(am (l.take (i+1))).length=q+1:=by rw[←hnew,kr,hq];rfl
   rw[e3]at ci;rw[hnn]at ci hce';obtain⟨S,hS⟩:∃S,S=stE v m q:=⟨_,rfl⟩;obtain⟨N0,hN0⟩:∃N0,N0=nwS (el.map (aE false false)):=⟨_,rfl⟩;rw[←hS,←hN0]at ci ⊢;simp only[aJ]at ci;refine wx ?_;simp -dsimp[hb,hce',aE,chC];refine wcE (ci _) ?_;simp -dsimp[aX i (by omega)];refine hN (i+1) _ _ (by omega) (by omega) (by simp) ⟨[B.cells (chC false false ⟨4,nm,tb,row,b,vv⟩)],by simp[e4,←hwe,chC]⟩ (by simp) ?_;intro bl hbl;simp only[kZ,kS,or_false]at hbl
   rcases hbl with rfl | rfl | rfl
   ·exact hrbS _ _ _ (by simp)
   ·exact hrbD _
   ·exact hrbN _ _
 ·obtain rfl:i=l.length:=by omega
  rw[hue,km]
  have e1:∀q,stB (LTb false [u]) (.buf 1 0 m m) .nilS true (.buf 2 0 q q)=stE u m q:=fun _=>rfl
  rw[e1]at cx;refine wx ?_;simp -dsimp[hb];refine hQ _ _ _ ?_;simp -dsimp[];refine wcm cx ?_;rintro r H' ⟨rfl,G,rfl⟩;simp -dsimp[]
theorem apply_yes(t u:Tb)(l:List Ch)(h:Bool)(ht:TbL t)(hv:aH t=0)(hl:l.length≤1000000)(hr:runT t l=some u)(dl:List V)(hd:dl.length≤1000000)(h1:∀x∈dl,AM.Pure x)(h2:∀x∈dl,∀c∈x.cells,c.one=true):
  aT Tryz.prog 9 [.ptr 0 0,.str t.name,.lst 11 h (l.map (aE false false))] [stB (LTb false [t]) (.buf 1 0 dl.length dl.length) .nilS false .nilS,dnS dl] fun r H'=>r = .int .i64 0∧H'=[stB (LTb false [u]) (.buf 1 0 (dz dl ((am l).map (aE false false))).length (dz dl ((am l).map (aE false false))).length) .nilS false .nilS,dnS (dz dl ((am l).map (aE false false)))]:=by
 have hpE:∀x∈(am l).map (aE false false),AM.Pure x:=fun x hx=>by obtain⟨c,_,rfl⟩:=List.mem_map.1 hx;simp
 have p2:StP (LTb false [u]) .nilS .nilS (dz dl ((am l).map (aE false false))):=⟨by simp,by simp,by simp,addX_pure h1 hpE,rfl,rfl,rfl,addX_one h2⟩;have p1:StP (LTb false [t]) .nilS .nilS dl:=⟨by simp,by simp,by simp,h1,rfl,rfl,rfl,h2⟩;refine eK ?_ (by simp) (by simp[rb]) p2.rb;have c1:=cbeg_ok t .nilS dl.length dl ht p1;have c2:=fits_u t false false h l hv ht.ok hl;rw[hr,Option.isSome_some]at c2
 have c3:=fun G=>ja (H:=[stB (LTb false [t]) (.buf 1 0 dl.length dl.length) .nilS true .nilS,dnS dl,G]) (k:=0) (L:=1) (end_o t u l h hv ht.ok hl hr dl hd h1 h2) p1 p2 (by simp) (by simp) (by decide) rfl rfl
 obtain⟨S,hS⟩:∃S,S=stB (LTb false [t]) (.buf 1 0 dl.length dl.length) .nilS false .nilS:=⟨_,rfl⟩;obtain⟨S1,hS1⟩:∃S,S=stB (LTb false [t]) (.buf 1 0 dl.length dl.length) .nilS true .nilS:=⟨_,rfl⟩;obtain⟨D,hD⟩:∃D,D=dnS dl:=⟨_,rfl⟩;obtain⟨F,hF⟩:∃F,F=dz dl ((am l).map (aE false false)):=⟨_,rfl⟩;obtain⟨S2,hS2⟩:∃S,S=stB (LTb false [u]) (.buf 1 0 F.length F.length) .nilS false .nilS:=⟨_,rfl⟩;obtain⟨D2,hD2⟩:∃D,D=dnS F:=⟨_,rfl⟩;simp only[←hF,←hS,←hS1,←hS2,←hD,←hD2,kn,ko]at c1 c3 ⊢;simp only[aD,LS,LR]at c1 c2;refine aG tok Tryz.func9 rfl rfl ?_;refine wx ?_;simp -dsimp[Tryz.f9,aI];refine wcE c1 ?_;simp -dsimp[];refine cPx (c2) (by simp) ?_;simp -dsimp[];refine wcE (c3 _) ?_;simp -dsimp[]
theorem apply_no(t:Tb)(l:List Ch)(h:Bool)(ht:TbL t)(hv:aH t=0)(hl:l.length≤1000000)(hr:runT t l=none)(dl:List V)(h1:∀x∈dl,AM.Pure x)(h2:∀x∈dl,∀c∈x.cells,c.one=true)(m:Nat):
  aT Tryz.prog 9 [.ptr 0 0,.str t.name,.lst 11 h (l.map (aE false false))] [stB (LTb false [t]) (.buf 1 0 m m) .nilS false .nilS,dnS dl] fun r H'=>r = .int .i64 16∧H'=[stB (LTb false [t]) (.buf 1 0 m m) .nilS false .nilS,dnS dl]:=by
 have p1:StP (LTb false [t]) .nilS .nilS dl:=⟨by simp,by simp,by simp,h1,rfl,rfl,rfl,h2⟩;refine eK ?_ (by simp) (by simp[rb]) p1.rb;have c1:=cbeg_ok t .nilS m dl ht p1;have c2:=fits_u t false false h l hv ht.ok hl;rw[hr,Option.isSome_none]at c2
 have c3:=fun G=>ja (H:=[stB (LTb false [t]) (.buf 1 0 m m) .nilS true .nilS,dnS dl,G]) (k:=0) (L:=1) (rollback0 (LTb false [t]) .nilS m dl p1) p1 p1 (by simp) (by simp) (by decide) rfl rfl
 obtain⟨S,hS⟩:∃S,S=stB (LTb false [t]) (.buf 1 0 m m) .nilS false .nilS:=⟨_,rfl⟩;obtain⟨S1,hS1⟩:∃S,S=stB (LTb false [t]) (.buf 1 0 m m) .nilS true .nilS:=⟨_,rfl⟩;obtain⟨D,hD⟩:∃D,D=dnS dl:=⟨_,rfl⟩;simp only[←hS,←hS1,←hD,kn,ko]at c1 c3 ⊢;simp only[aD,LS,LR]at c1 c2;refine aG tok Tryz.func9 rfl rfl ?_;refine wx ?_;simp -dsimp[Tryz.f9,aI];refine wcE c1 ?_;simp -dsimp[];refine cPx (c2) (by simp) ?_;simp -dsimp[];refine wcE (c3 _) ?_;simp -dsimp[]
theorem val_sz{v:Vl}(h:aV v=true):v.s.size≤maxLen:=by
 have e:v.s.toList.isEmpty=true→v.s.size≤maxLen:=fun he=>by
  rw[List.isEmpty_iff,ba_toList]at he;have:=ey v.s;rw[he]at this;simp at this;rw[←this];decide
 have e2:v.s.size≤200→v.s.size≤maxLen:=fun he=>by
  have:(200:Nat)≤maxLen:=by decide
  omega
 unfold aV at h;split at h
 ·rw[kR]at h;exact e h.2
 ·split at h
  ·exact e h
  ·split at h
   ·rw[kR,decide_eq_true_iff,decide_eq_true_iff]at h;exact e2 h.2
   ·rw[kR,kR]at h;exact e h.2.2
theorem row_sz{t:Tb}(h:aH t=0):∀r∈t.rows,∀v∈r.vals,v.s.size≤maxLen:=fun r hr v hv=>val_sz (List.all_eq_true.1 ((tbC h).val r hr) v hv)
def apR(t:Tb)(l:List Ch):V:=match runT t l with
 | some u=>.tup [aD false false u,.bool true]
 | none=>.tup [zTb,.bool false]
theorem apR_some{t u:Tb}{l:List Ch}(h:runT t l=some u):apR t l = .tup [aD false false u,.bool true]:=by unfold apR;rw[h]
theorem apR_none{t:Tb}{l:List Ch}(h:runT t l=none):apR t l = .tup [zTb,.bool false]:=by unfold apR;rw[h]
theorem apR_cons{t u:Tb}{c:Ch}{l:List Ch}(h:ae t c=some u):apR t (c::l)=apR u l:=by unfold apR;rw[runT,h]
theorem apR_stop{t:Tb}{c:Ch}{l:List Ch}(h:ae t c=none):apR t (c::l)= .tup [zTb,.bool false]:=apR_none (by rw[runT,h])
theorem insErr_in{t:Tb}{r:Rw}(h:inT t r.id=true):¬ai t r=0:=fun e=>by
 obtain⟨r',hr',e2⟩:=iv.1 h;exact(bo e).2.2.2.1 r' hr' e2
structure ApS where
 i:Nat
 u:Tb
theorem apply_r(t:Tb)(h:Bool)(l:List Ch)(hv:aH t=0)(hk:TbOk t)(hl:l.length≤1000000):aK Tryz.prog 11 [aD false false t,.lst 11 h (l.map (aE false false))] fun r=>r=apR t l:=by
 obtain⟨E,hE⟩:∃E,E=apR t l:=⟨_,rfl⟩;rw[←hE];refine sPx Tryz.func11 rfl rfl ?_;simp -dsimp[Tryz.f11,aI,aD,LS,LR];refine aO (W_loopM 96 0xffffffffffffffffffffffe0 (by simp[mB]<;>rfl) (σ:=ApS) (fun p=>p.i≤l.length∧aH p.u=0∧TbOk p.u∧apR p.u (l.drop p.i)=E) (fun p=>l.length-p.i) (fun p=>[(6,.int .i64 p.i)]) (fun p=>[B.cells [.str p.u.name,.lst 1 false (p.u.attrs.map V.str),.lst 2 false (p.u.rows.map aC)],B.cells [.str kI,.nilS,.nilS]]) ⟨0,t⟩ ⟨by simp,hv,hk,by simpa using hE.symm⟩ (by simp) rfl (by simp) ?_);rintro⟨i,u⟩ ⟨hi,hvu,hku,hx⟩ N Q hN hQ;simp only at hi hvu hku hx;by_cases hb:i<l.length
 ·rw[kT hb]at hx;obtain⟨c,hce⟩:∃c,c=l[i]:=⟨_,rfl⟩;rw[←hce]at hx;have hce':=hce.symm
  have hne:ae u c=none→E = .tup [zTb,.bool false]:=fun e=>by rw[←hx,apR_stop e]
  have hgo:∀w,ae u c=some w→apR w (l.drop (i+1))=E∧aH w=0∧TbOk w:=fun w e=>by
   rw[apR_cons e]at hx;exact⟨hx,gj hvu hku e⟩
  obtain⟨k,nm,tb,row,a,v⟩:=c;unfold ae at hne hgo;simp only at hne hgo;by_cases hn:nm=u.name
  case neg =>
   have hn':=eqSt_ne hn;rw[if_neg hn]at hne;have e0:=hne rfl;subst e0;refine wx ?_;simp -dsimp[hb,hce',aE,chC,hn'];refine hQ _ _ _ ?_;simp -dsimp[zTb]
  simp only[if_pos hn]at hne hgo;subst hn;have hr:=bE hvu;have hvr:=aw hvu;have cf:=jm u false false row.id (by omega);simp only[aD,LS,LR]at cf;have ci:=insert_r u false false row hvu hku;have cd:=delete_r u false false row.id hvu hku;have cc:=change_r u false false row.id a v hvu hku;simp only[aD,LS,LR,aC,LV,aJ]at ci cd cc;by_cases hin:inT u row.id=true
  case neg =>
   have hf:(fnd u.rows row.id 0).2=false:=by simpa[inT] using hin
   rw[hf]at cf
   have hri:¬bh u row=true:=by unfold bh;simp[hin]
   obtain⟨kk,hke⟩:∃kk,kk=(fnd u.rows row.id 0).1:=⟨_,rfl⟩;rw[←hke]at cf;by_cases h2:k=2
   ·subst h2;simp only[if_true]at hne hgo;by_cases he:ai u row=0
    ·rw[gH he]at ci;obtain⟨hx2,hw1,hw2⟩:=hgo _ (if_pos he);obtain⟨D,hD⟩:∃D,D=cL u.rows row:=⟨_,rfl⟩;rw[←hD]at ci hx2 hw1 hw2;simp only[aD,LS,LR,wrT]at ci;refine wx ?_;simp -dsimp[hb,hce',aE,chC];refine cPx (cf) (by simp) ?_;simp -dsimp[];refine .inr ⟨aR (by kernel_rfl),?_⟩;refine cPx (ci) (by simp) ?_;simp -dsimp[aX i (by omega)];refine hN ⟨i+1,wrT u D⟩ _ _ ⟨by simp only;omega,hw1,hw2,hx2⟩ (by simp only;omega) (by simp) ⟨_,rfl⟩ (by simp) (by simp)
    ·rw[bJ (e:=ai u row) rfl he]at ci;have e0:=hne (if_neg he);subst e0;refine wx ?_;simp -dsimp[hb,hce',aE,chC];refine cPx (cf) (by simp) ?_;simp -dsimp[];refine .inr ⟨aR (by kernel_rfl),?_⟩;refine cPx (ci) (by simp) ?_;simp -dsimp[zTb,he];refine hQ _ _ _ ?_;simp -dsimp[zTb]
   ·simp only[if_neg h2,if_neg hri]at hne hgo;have e0:=hne (by first | rfl | trivial);subst e0;by_cases h3:k=3
    ·refine wx ?_;simp -dsimp[hb,hce',aE,chC,h2,h3];refine cPx (cf) (by simp) ?_;simp -dsimp[h2,h3];refine .inr ⟨aR (by kernel_rfl),?_⟩;refine hQ _ _ _ ?_;simp -dsimp[zTb]
    ·by_cases h4:k=4
     ·refine wx ?_;simp -dsimp[hb,hce',aE,chC,h2,h3,h4];refine cPx (cf) (by simp) ?_;simp -dsimp[h2,h3,h4];refine .inr ⟨aR (by kernel_rfl),?_⟩;refine hQ _ _ _ ?_;simp -dsimp[zTb]
     ·refine wx ?_;simp -dsimp[hb,hce',aE,chC,h2,h3,h4];refine cPx (cf) (by simp) ?_;simp -dsimp[h2,h3,h4];refine .inr ⟨aR (by kernel_rfl),?_⟩;refine hQ _ _ _ ?_;simp -dsimp[zTb]
  have hin':(fnd u.rows row.id 0).2=true:=hin;have hkl:=eo 0 hin';rw[hin']at cf;have hat:atT u row.id=rwG u.rows (fnd u.rows row.id 0).1:=rfl;obtain⟨kk,hke⟩:∃kk,kk=(fnd u.rows row.id 0).1:=⟨_,rfl⟩;simp only[←hke]at cf hkl hat;rw[bg hkl]at hat;have hrm:=kN hkl
  have hrv:u.rows[kk].vals.length≤1000000:=by
   have:=(hvr _ hrm).2.1;have:=hku.attrs;omega
  have c3:=same01 u.rows[kk].vals row.vals false false hrv (row_sz hvu _ hrm);obtain⟨rk,hrk⟩:∃rk,rk=u.rows[kk]:=⟨_,rfl⟩;rw[←hrk]at hat c3;simp only[LV]at c3;have hinE:¬ai u row=0:=insErr_in hin
  have hri:bh u row=decide (rk.vals=row.vals):=by unfold bh;rw[hat,hin,ke]
  by_cases h2:k=2
  ·subst h2;simp only[if_true]at hne hgo;rw[bJ (e:=ai u row) rfl hinE]at ci;have e0:=hne (if_neg hinE);subst e0
   cases hq:(bw rk.vals row.vals == 0) with
   | true =>
    rw[hq]at c3;refine wx ?_;simp -dsimp[hb,hce',aE,chC];refine cPx (cf) (by simp) ?_;simp -dsimp[hkl,hrk.symm,aC,LV];refine .inr ⟨aR (by kernel_rfl),?_⟩;refine av _ (aP (c3) (by simp)) ?_;simp -dsimp[];refine cPx (ci) (by simp) ?_;simp -dsimp[zTb,hinE];refine hQ _ _ _ ?_;simp -dsimp[zTb]
   | false =>
    rw[hq]at c3;refine wx ?_;simp -dsimp[hb,hce',aE,chC];refine cPx (cf) (by simp) ?_;simp -dsimp[hkl,hrk.symm,aC,LV];refine .inr ⟨aR (by kernel_rfl),?_⟩;refine av _ (aP (c3) (by simp)) ?_;simp -dsimp[];refine cPx (ci) (by simp) ?_;simp -dsimp[zTb,hinE];refine hQ _ _ _ ?_;simp -dsimp[zTb]
  simp only[if_neg h2]at hne hgo;by_cases hvals:rk.vals=row.vals
  case neg =>
   have hq:(bw rk.vals row.vals == 0)=false:=by rw[mh];intro e;exact hvals (fg.1 (by simpa using e))
   rw[hq]at c3;rw[if_neg (by rw[hri];simp[hvals])]at hne;have e0:=hne (by first | rfl | trivial);subst e0;by_cases h3:k=3
   ·refine wx ?_;simp -dsimp[hb,hce',aE,chC,h2,h3];refine cPx (cf) (by simp) ?_;simp -dsimp[hkl,hrk.symm,aC,LV];refine .inr ⟨aR (by kernel_rfl),?_⟩;refine av _ (aP (c3) (by simp)) ?_;simp -dsimp[h2,h3];refine hQ _ _ _ ?_;simp -dsimp[zTb]
   ·by_cases h4:k=4
    ·refine wx ?_;simp -dsimp[hb,hce',aE,chC,h2,h3,h4];refine cPx (cf) (by simp) ?_;simp -dsimp[hkl,hrk.symm,aC,LV];refine .inr ⟨aR (by kernel_rfl),?_⟩;refine av _ (aP (c3) (by simp)) ?_;simp -dsimp[h2,h3,h4];refine hQ _ _ _ ?_;simp -dsimp[zTb]
    ·refine wx ?_;simp -dsimp[hb,hce',aE,chC,h2,h3,h4];refine cPx (cf) (by simp) ?_;simp -dsimp[hkl,hrk.symm,aC,LV];refine .inr ⟨aR (by kernel_rfl),?_⟩;refine av _ (aP (c3) (by simp)) ?_;simp -dsimp[h2,h3,h4];refine hQ _ _ _ ?_;simp -dsimp[zTb]
  have hq:(bw rk.vals row.vals == 0)=true:=by rw[fg.2 hvals];rfl
  rw[hq]at c3
  have hri2:bh u row=true:=by rw[hri];simp[hvals]
  simp only[if_pos hri2]at hne hgo;by_cases h3:k=3
  ·simp only[if_pos h3]at hne hgo;subst h3;unfold delV at cd;rw[if_pos hin]at cd;obtain⟨hx2,hw1,hw2⟩:=hgo _ rfl;obtain⟨D,hD⟩:∃D,D=cS u.rows row.id:=⟨_,rfl⟩;rw[←hD]at cd hx2 hw1 hw2;simp only[aD,LS,LR,wrT]at cd;refine wx ?_;simp -dsimp[hb,hce',aE,chC];refine cPx (cf) (by simp) ?_;simp -dsimp[hkl,hrk.symm,aC,LV];refine .inr ⟨aR (by kernel_rfl),?_⟩;refine av _ (aP (c3) (by simp)) ?_;simp -dsimp[];refine cPx (cd) (by simp) ?_;simp -dsimp[aX i (by omega)];refine hN ⟨i+1,wrT u D⟩ _ _ ⟨by simp only;omega,hw1,hw2,hx2⟩ (by simp only;omega) (by simp) ⟨_,rfl⟩ (by simp) (by simp)
  simp only[if_neg h3]at hne hgo;by_cases h4:k=4
  case neg =>
   rw[if_neg h4]at hne;have e0:=hne rfl;subst e0;refine wx ?_;simp -dsimp[hb,hce',aE,chC,h2,h3,h4];refine cPx (cf) (by simp) ?_;simp -dsimp[hkl,hrk.symm,aC,LV];refine .inr ⟨aR (by kernel_rfl),?_⟩;refine av _ (aP (c3) (by simp)) ?_;simp -dsimp[h2,h3,h4];refine hQ _ _ _ ?_;simp -dsimp[zTb]
  simp only[if_pos h4]at hne hgo;subst h4;unfold eu at cc;by_cases hcc:0≤a∧a<u.attrs.length∧aV v=true
  ·obtain⟨hx2,hw1,hw2⟩:=hgo _ (if_pos hcc);rw[iz hin (by omega) (by omega) hcc.2.2,if_pos rfl]at cc;obtain⟨D,hD⟩:∃D,D=eM u.rows row.id a.toNat v:=⟨_,rfl⟩;rw[←hD]at cc hx2 hw1 hw2;simp only[aD,LS,LR,wrT]at cc;refine wx ?_;simp -dsimp[hb,hce',aE,chC];refine cPx (cf) (by simp) ?_;simp -dsimp[hkl,hrk.symm,aC,LV];refine .inr ⟨aR (by kernel_rfl),?_⟩;refine av _ (aP (c3) (by simp)) ?_;simp -dsimp[];refine cPx (cc) (by simp) ?_;simp -dsimp[aX i (by omega)];refine hN ⟨i+1,wrT u D⟩ _ _ ⟨by simp only;omega,hw1,hw2,hx2⟩ (by simp only;omega) (by simp) ⟨_,rfl⟩ (by simp) (by simp)
  ·have e0:=hne (if_neg hcc);subst e0
   have hee:¬ev u row.id a v=0:=by
    unfold ev;rw[if_pos hin];intro hq;split at hq
    ·cases hq
    ·split at hq
     ·exact hcc ⟨by omega,by omega,by assumption⟩
     ·cases hq
   rw[if_neg hee]at cc;simp only[zTb]at cc;refine wx ?_;simp -dsimp[hb,hce',aE,chC];refine cPx (cf) (by simp) ?_;simp -dsimp[hkl,hrk.symm,aC,LV];refine .inr ⟨aR (by kernel_rfl),?_⟩;refine av _ (aP (c3) (by simp)) ?_;simp -dsimp[];refine cPx (cc) (by simp) ?_;simp -dsimp[hee];refine hQ _ _ _ ?_;simp -dsimp[zTb]
 ·obtain rfl:i=l.length:=by omega
  rw[List.drop_length]at hx;have e0:E = .tup [aD false false u,.bool true]:=hx.symm;subst e0;refine wx ?_;simp -dsimp[hb];refine hQ _ _ _ ?_;simp -dsimp[aD,LS,LR]
def encN(c:Ch):V:=fc c.nm ⟨c.k,c.row,c.a,c.v⟩
@[simp] theorem encN_pure (c:Ch):AM.Pure (encN c):=encChg_pure _ _
theorem rel_encN{s:AM.St}{l:List Ch}{f:Bool}{u:Value}(ht:∀c∈l,c.tb=tb0)(h:Rel s (.lst 11 f (l.map encN)) u):Rel s (.lst 11 f (l.map (aE false false))) u:=by
 refine rel_lst_le h (by simp) (fun y hy=>?_) (fun i x y hx hy j c hc=>?_)
 ·obtain⟨z,_,rfl⟩:=List.mem_map.1 hy;refine⟨rfl,fun c hc=>?_⟩;simp only[aE,chC,V.cells,kZ,kS,or_false]at hc
  rcases hc with rfl | rfl | rfl | rfl | rfl | rfl | rfl | rfl | rfl | rfl | rfl<;>rfl
 ·rw[kb]at hx hy
  cases hz:l[i]? with
  | none=>rw[hz]at hx;cases hx
  | some z =>
   rw[hz]at hx hy;simp only[kx,Option.some.injEq]at hx hy;subst hx;subst hy;have e0:=ht z (kK hz)
   match j with
   | 0=>simp[aE,chC,V.cells]at hc;subst hc;exact⟨_,rfl,.inl rfl⟩
   | 1=>simp[aE,chC,V.cells]at hc;subst hc;exact⟨_,rfl,.inl rfl⟩
   | 2=>simp[aE,chC,e0,tb0,V.cells]at hc;subst hc;exact⟨_,rfl,.inl rfl⟩
   | 3=>simp[aE,chC,e0,tb0,V.cells]at hc;subst hc;exact⟨_,rfl,.inr (.inr ⟨1,rfl,rfl⟩)⟩
   | 4=>simp[aE,chC,e0,tb0,V.cells]at hc;subst hc;exact⟨_,rfl,.inr (.inr ⟨2,rfl,rfl⟩)⟩
   | 5=>simp[aE,chC,V.cells]at hc;subst hc;exact⟨_,rfl,.inl rfl⟩
   | 6=>simp[aE,chC,V.cells]at hc;subst hc;exact⟨_,rfl,.inl rfl⟩
   | 7=>simp[aE,chC,V.cells]at hc;subst hc;exact⟨_,rfl,.inl rfl⟩
   | 8=>simp[aE,chC,V.cells]at hc;subst hc;exact⟨_,rfl,.inl rfl⟩
   | 9=>simp[aE,chC,V.cells]at hc;subst hc;exact⟨_,rfl,.inl rfl⟩
   | 10=>simp[aE,chC,V.cells]at hc;subst hc;exact⟨_,rfl,.inl rfl⟩
   | j+11=>simp[aE,chC,V.cells]at hc
theorem clnC_tb(c:Ch):(eL c).tb=tb0:=by unfold eL;split<;>rfl
theorem effL_tb(l:List Ch):∀c∈am l,c.tb=tb0:=fun c hc=>by
 unfold am at hc;obtain⟨d,_,rfl⟩:=List.mem_map.1 hc;exact clnC_tb d
structure EfOk (l:List Ch):Prop where
 len:l.length≤1000000
 k4:∀c∈l,c.k=4→0≤c.a∧c.a<c.row.vals.length
 vals:∀c∈l,c.row.vals.length≤1000000∧∀v∈c.row.vals,v.s.size≤maxLen
theorem eff_r0(l:List Ch)(f:Bool)(h:EfOk l):aK Tryz.prog 13 [.lst 11 f (l.map (aE false false))] fun r=>r = .lst 11 false ((am l).map encN):=by
 have hrb:∀(E:List Ch) (n:Nat),rbB n (.buf 45 11 (E.map encN) false):=fun E n=>(cA (by simp) (by simp[encN,fc,LV,V.cells,V.one])).2 trivial
 refine sPx Tryz.func13 rfl rfl ?_;simp -dsimp[Tryz.f13,aI];refine aO (W_own 45 11 [3] (by simp) (W_loopM 58 0x3fffffffffffff8 (by simp[mB]<;>rfl) (σ:=Nat) (fun i=>i≤l.length) (fun i=>l.length-i) (fun i=>[(4,.int .i64 i),(3,.buf 0 0 (am (l.take i)).length (am (l.take i)).length)]) (fun i=>[B.buf 45 11 ((am (l.take i)).map encN) false]) 0 (by omega) (by simp[am]) (by simp[am]) (by simp) ?_));intro i hi N Q hN hQ;by_cases hb:i<l.length
 ·have hes:=eff_take hb;have hel:=eff_len l i;have hkc:=h.k4 _ (kN hb);have hvc:=h.vals _ (kN hb);have hll:=h.len;obtain⟨c,hce⟩:∃c,c=l[i]:=⟨_,rfl⟩;rw[←hce]at hes hkc hvc;have hce':=hce.symm;obtain⟨E,hE⟩:∃E,E=am (l.take i):=⟨_,rfl⟩;rw[←hE]at hes hel ⊢;obtain⟨q,hq⟩:∃q,q=E.length:=⟨_,rfl⟩;rw[←hq]at hel ⊢;obtain⟨M,hM⟩:∃M,M=E.map encN:=⟨_,rfl⟩
  have hMl:M.length=q:=by rw[hM,kh,hq]
  rw[←hM];obtain⟨k,nm,tb,row,a,v⟩:=c;simp only at hkc hvc;by_cases h4:k=4
  ·subst h4;obtain⟨h0,h1⟩:=hkc rfl;obtain⟨b,rfl⟩:=mQ h0
   have hbl:b<row.vals.length:=by omega
   have c3:=compare01 row.vals[b] v (hvc.2 _ (kN hbl))
   have hatV:atV row.vals b=row.vals[b]:=by simp[atV,hbl]
   obtain⟨o,ho⟩:∃o,o=row.vals[b]:=⟨_,rfl⟩;have ho':=ho.symm;rw[←ho]at c3 hatV;simp only[aJ]at c3;by_cases hno:o=v
   ·have hnop:dR ⟨4,nm,tb,row,b,v⟩=true:=by
     unfold dR;simp only[mT,decide_true,ke,decide_eq_true_eq];rw[hatV];exact hno
    rw[if_pos hnop,kX]at hes;rw[(iD o v).2 hno]at c3;refine wx ?_;simp -dsimp[hb,hce',aE,chC];refine aO (aS tok mixed [16,17] [(0,[1]),(1,[1]),(2,[1]),(3,[1]),(4,[1]),(5,[1]),(6,[1]),(7,[1]),(8,[1]),(9,[1]),(10,[1]),(11,[1]),(12,[1]),(13,[1]),(14,[1]),(15,[1])] [] (by kernel_rfl) fun C K hC hK=>?_);simp -implicitDefEqProofs [hb,hce',aE,chC];refine hK _ _ ?_;simp -dsimp[];refine aO (aS tok mixed [11,13] [(5,[1]),(6,[1]),(7,[1]),(8,[1]),(9,[1])] [] (by kernel_rfl) fun C K hC hK=>?_);simp -implicitDefEqProofs [hb,hce',aE,chC];refine hK _ _ ?_;simp -dsimp[hbl,ho',aJ];refine .inr ⟨aR (by kernel_rfl),?_⟩;refine av _ (aP (c3) (by simp)) ?_;simp -dsimp[aX i (by omega)];refine hN (i+1) _ _ (by omega) (by omega) (by simp[hes,←hq]) ⟨[B.cells [.int .i64 4,.str nm,.str kI,.nilS,.nilS,.int .i64 row.id,.lst 3 false (row.vals.map aJ),.int .i64 b,.int .i64 v.k,.int .i64 v.n,.str v.s]],by simp[hes,←hM]⟩ (by simp) ?_;intro bl hbl;simp only[mA]at hbl;subst hbl;exact hrb _ _
   ·have hnop:¬dR ⟨4,nm,tb,row,b,v⟩=true:=by
     unfold dR;simp only[mT,decide_true,ke,decide_eq_true_eq];rw[hatV];exact hno
    rw[if_neg hnop]at hes
    have hcz:¬jy o v=0:=fun e=>hno ((iD o v).1 e)
    obtain⟨z,hz⟩:∃z,z=jy o v:=⟨_,rfl⟩;rw[←hz]at c3 hcz
    have hMn:M++[.agg [.int .i64 4,.str nm,.str kI,.nilS,.nilS,.int .i64 row.id,.lst 3 false (row.vals.map aJ),.int .i64 b,.int .i64 v.k,.int .i64 v.n,.str v.s]]=(am (l.take (i+1))).map encN:=by rw[hes,lZ,hM];rfl
    have hel2:(am (l.take (i+1))).length=q+1:=by rw[hes,kr,hq];rfl
    refine wx ?_;simp -dsimp[hb,hce',aE,chC];refine aO (aS tok mixed [16,17] [(0,[1]),(1,[1]),(2,[1]),(3,[1]),(4,[1]),(5,[1]),(6,[1]),(7,[1]),(8,[1]),(9,[1]),(10,[1]),(11,[1]),(12,[1]),(13,[1]),(14,[1]),(15,[1])] [] (by kernel_rfl) fun C K hC hK=>?_);simp -implicitDefEqProofs [hb,hce',aE,chC];refine hK _ _ ?_;simp -dsimp[];refine aO (aS tok mixed [11,13] [(5,[1]),(6,[1]),(7,[1]),(8,[1]),(9,[1])] [] (by kernel_rfl) fun C K hC hK=>?_);simp -implicitDefEqProofs [hb,hce',aE,chC];refine hK _ _ ?_;simp -dsimp[hbl,ho',aJ];refine .inr ⟨aR (by kernel_rfl),?_⟩;refine av _ (aP (c3) (by simp)) ?_;simp -dsimp[hcz,hMl,kD q (by omega),aX i (by omega)];refine hN (i+1) _ _ (by omega) (by omega) (by simp[hel2]) ⟨[B.cells [.int .i64 4,.str nm,.str kI,.nilS,.nilS,.int .i64 row.id,.lst 3 false (row.vals.map aJ),.int .i64 b,.int .i64 v.k,.int .i64 v.n,.str v.s]],by simp[←hMn]⟩ (by simp) ?_;intro bl hbl;simp only[mA]at hbl;subst hbl;exact hrb _ _
  ·have hnop:¬dR ⟨k,nm,tb,row,a,v⟩=true:=by
    unfold dR;simp[h4]
   rw[if_neg hnop]at hes
   have hcl:eL ⟨k,nm,tb,row,a,v⟩=⟨k,nm,tb0,row,0,vl0⟩:=by unfold eL;rw[if_neg h4];rfl
   rw[hcl]at hes
   have hMn:M++[.agg [.int .i64 k,.str nm,.str kI,.nilS,.nilS,.int .i64 row.id,.lst 3 false (row.vals.map aJ),.int .i64 0,.int .i64 0,.int .i64 0,.str kI]]=(am (l.take (i+1))).map encN:=by rw[hes,lZ,hM];rfl
   have hel2:(am (l.take (i+1))).length=q+1:=by rw[hes,kr,hq];rfl
   refine wx ?_;simp -dsimp[hb,hce',aE,chC];refine aO (aS tok mixed [16,17] [(0,[1]),(1,[1]),(2,[1]),(3,[1]),(4,[1]),(5,[1]),(6,[1]),(7,[1]),(8,[1]),(9,[1]),(10,[1]),(11,[1]),(12,[1]),(13,[1]),(14,[1]),(15,[1])] [] (by kernel_rfl) fun C K hC hK=>?_);simp -implicitDefEqProofs [hb,hce',aE,chC];refine hK _ _ ?_;simp -dsimp[h4,hMl,kD q (by omega),aX i (by omega)];refine hN (i+1) _ _ (by omega) (by omega) (by simp[hel2]) ⟨[B.cells [.int .i64 k,.str nm,.str kI,.nilS,.nilS,.int .i64 row.id,.lst 3 false (row.vals.map aJ),.int .i64 0,.int .i64 0,.int .i64 0,.str kI]],by simp[←hMn]⟩ (by simp) ?_;intro bl hbl;simp only[mA]at hbl;subst hbl;exact hrb _ _
 ·obtain rfl:i=l.length:=by omega
  rw[km];refine W_frz 0 [3] rfl (by simp) ?_;refine wx ?_;simp -dsimp[hb];refine hQ _ _ _ ?_;simp -dsimp[]
theorem eff_r(l:List Ch)(f:Bool)(h:EfOk l):aK Tryz.prog 13 [.lst 11 f (l.map (aE false false))] fun r=>r = .lst 11 false ((am l).map (aE false false)):=
 conP_resR (eff_r0 l f h) fun s x r hr hrel=>⟨_,rel_encN (effL_tb l) (hr▸hrel),(pure_lst _ _ _).2 fun x hx=>by obtain⟨c,_,rfl⟩:=List.mem_map.1 hx;simp,rfl⟩
end
end Go.Proofs.YtpedcgdgjoblkaaGreatDoor
