/- JM40: own texts of this seat, joined and shortened by pack4.py: UA, UR, UD. -/
import Derived.Test.YtdnhplencamncaaGreatDoorJM36
import Derived.Test.YtdnhplencamncaaGreatDoorJM37
import Derived.Test.YtdnhplencamncaaGreatDoorJM39
set_option linter.unusedVariables false
set_option linter.unusedSimpArgs false
set_option maxRecDepth 100000
set_option maxHeartbeats 64000000
open Bool renaming and_eq_true→oP,true_and→pE
open ByteArray renaming empty→oF
open Int renaming eq_ofNat_of_zero_le→pU,toNat_natCast→qP
open List renaming replicate→oE,getElem?_eq_getElem→oG,getElem_mem→oI,take_succ_eq_append_getElem→oN,not_mem_nil→oO,mem_cons→oR,length_append→oT,append_nil→oU,length_map→oW,take_length→oY,getElem?_map→oc,map_append→oe,map_cons→oq,length_take→ot,set_cons_zero→oz,set_cons_succ→pG,map_nil→pJ,length_set→pN,length_filter_le→pf,getD_eq_getElem?_getD→pj,mem_append→qB,length_nil→qD,getElem_map→qM
open Nat renaming le_trans→pY,sub_self→px,zero_le→qV,sub_zero→rR
open Option renaming getD_some→qG
namespace Go.Proofs.YtdnhplencamncaaGreatDoor
section
open Go Go.AM
def kF(dl nl:List V):List V:=if nl=[] then dl else dl++[.lst 11 false nl]
theorem addX_pure{dl nl:List V}(h:∀x∈dl,AM.Pure x)(h2:∀x∈nl,AM.Pure x):∀x∈kF dl nl,AM.Pure x:=fun x hx=>by
 unfold kF at hx;split at hx
 ·exact h x hx
 ·rcases List.mem_append.1 hx with q | q
  ·exact h x q
  ·rw[List.mem_singleton.1 q];exact(pure_lst _ _ _).2 h2
theorem addX_one{dl nl:List V}(h:∀x∈dl,∀c∈x.cells,c.one=true):∀x∈kF dl nl,∀c∈x.cells,c.one=true:=fun x hx=>by
 unfold kF at hx;split at hx
 ·exact h x hx
 ·rcases List.mem_append.1 hx with q | q
  ·exact h x q
  ·rw[List.mem_singleton.1 q];simp[V.cells,V.one]
theorem commit0l(H:List B)(k:Nat)(f:Bool):aU Tryz.prog 88 [.ptr k 0,.lst 11 f []] H fun r H'=>r = .tup []∧H'=H:=by
 refine aE tok Tryz.func88 rfl rfl ?_;refine wx ?_;simp -dsimp[Tryz.f88,oE]
theorem commit_x(db:V)(dl nl:List V)(hd:dl.length≤1000000)(p:StO db .nilS dl nl):aU Tryz.prog 93 [.ptr 0 0] [stB db (.buf 1 0 dl.length dl.length) .nilS true (.buf 2 0 nl.length nl.length),dnS dl,nwS nl] fun r H'=>r = .int .i64 0∧∃G,H'=[stB db (.buf 1 0 (kF dl nl).length (kF dl nl).length) .nilS false .nilS,dnS (kF dl nl)]++G:=by
 by_cases h0:nl=[]
 ·subst h0;have e0:kF dl []=dl:=if_pos rfl;rw[e0];have c1:=mM (k:=2) (e:=81) (z:=11) (xs:=[]) (fz:=false) (cs':=[.lst 11 false [],.int .i64 0]) (endO db (.buf 1 0 dl.length dl.length) .nilS (.buf 2 0 0 0) (dnS dl) (nwS [])) rfl (by simp[dM])
  have c2:=fun H=>commit0l H 0 false
  simp only[oz,pG,stB,qD]at c1 c2 ⊢;refine aE tok Tryz.func93 rfl rfl ?_;refine wx ?_;simp -dsimp[Tryz.f93,oE];refine c1.mono ?_;rintro r H' ⟨rfl,rfl⟩;simp -dsimp[];refine wcE (c2 _) ?_;simp -dsimp[]
 ·have e0:kF dl nl=dl++[.lst 11 false nl]:=if_neg h0;rw[e0];have:=commit_o db .nilS dl nl (List.length_pos_iff.2 h0) hd p;simpa using this
def tkT(t:Tb)(l:List Ch)(i:Nat):Tb:=(runT t (l.take i)).getD t
theorem tkT_zero(t:Tb)(l:List Ch):tkT t l 0=t:=rfl
theorem tkT_some{t u:Tb}{l:List Ch}(h:runT t l=some u):∀{i:Nat},i≤l.length→runT t (l.take i)=some (tkT t l i)
 | 0,_=>rfl
 | i+1,hi=>by
  obtain⟨w,w',_,_,h3⟩:=runT_take h (show i<l.length by omega);unfold tkT;rw[h3];rfl
theorem tkT_all{t u:Tb}{l:List Ch}(h:runT t l=some u):tkT t l l.length=u:=by
 unfold tkT;rw[oY,h];rfl
theorem mO{t u:Tb}{l:List Ch}(h:runT t l=some u){i:Nat}(hi:i<l.length):av (tkT t l i) l[i]=some (tkT t l (i+1)):=by
 obtain⟨w,w',h1,h2,h3⟩:=runT_take h hi;unfold tkT;rw[h1,h3];exact h2
theorem kM{t u:Tb}{l:List Ch}(hv:aG t=0)(hk:TbOk t)(h:runT t l=some u){i:Nat}(hi:i≤l.length):aG (tkT t l i)=0∧TbOk (tkT t l i)∧(tkT t l i).name=t.name∧(tkT t l i).attrs=t.attrs:=by
 obtain⟨h1,h2,h3⟩:=runT_valid hv (tkT_some h hi);have:=cX h1;exact⟨h1,⟨by rw[h2];exact hk.name,by rw[h3];exact hk.attrs,by omega,by rw[h3];exact hk.strs⟩,h2,h3⟩
theorem jQ{t u:Tb}{c:Ch}(h:aG t=0)(hs:av t c=some u):c.row.vals.length=t.attrs.length∧t.attrs.length≤16:=by
 refine⟨?_,(tbC h).wide⟩;unfold av at hs;split at hs
 case isFalse=>cases hs
 split at hs
 ·split at hs
  case isFalse=>cases hs
  rename_i h2;exact(dm h2).1
 ·split at hs
  case isFalse=>cases hs
  rename_i h2;exact(ay h _ (mX h h2)).2.1
theorem rowIs_eq{t:Tb}{r:Rw}(hi:fN t r=true):inT t r.id=true∧atT t r.id=r:=by
 unfold fN at hi;rw[oP,decide_eq_true_iff]at hi;obtain⟨h1,h2⟩:=hi;have h3:=gK h1;refine⟨h1,?_⟩;obtain⟨id,vs⟩:=r
 cases hq:atT t id with
 | mk id' vs' =>
  simp only[hq]at h2 h3;rw[h2,h3.1]
theorem eff_take{l:List Ch}{i:Nat}(h:i<l.length):cy (l.take (i+1))=cy (l.take i)++(if jc l[i]=true then [] else [lU l[i]]):=by
 rw[oN h,eff_snoc]
theorem eff_len(l:List Ch)(i:Nat):(cy (l.take i)).length≤i:=by
 unfold cy;rw[oW];exact pY (pf _ _) (by rw[ot];omega)
theorem stO_mk(t:Tb){dl:List V}(h1:∀x∈dl,AM.Pure x)(h2:∀x∈dl,∀c∈x.cells,c.one=true)(l:List Ch):StO (LTb false [t]) .nilS dl (l.map (aK false false)):=
 ⟨by simp,by simp,h1,fun x hx=>by obtain⟨c,_,rfl⟩:=List.mem_map.1 hx;simp,rfl,rfl,h2,fun x hx=>by obtain⟨c,_,rfl⟩:=List.mem_map.1 hx;exact encCh_one c⟩
def stE(t:Tb)(m q:Nat):B:=stB (LTb false [t]) (.buf 1 0 m m) .nilS true (.buf 2 0 q q)
theorem end_o(t u:Tb)(l:List Ch)(h:Bool)(hv:aG t=0)(hk:TbOk t)(hl:l.length≤1000000)(hr:runT t l=some u)(dl:List V)(hd:dl.length≤1000000)(h1:∀x∈dl,AM.Pure x)(h2:∀x∈dl,∀c∈x.cells,c.one=true):
  aU Tryz.prog 42 [.ptr 0 0,.str t.name,.lst 11 h (l.map (aK false false))] [stB (LTb false [t]) (.buf 1 0 dl.length dl.length) .nilS true .nilS,dnS dl] fun r H'=>r = .int .i64 0∧H'=[stB (LTb false [u]) (.buf 1 0 (kF dl ((cy l).map (aK false false))).length (kF dl ((cy l).map (aK false false))).length) .nilS false .nilS,dnS (kF dl ((cy l).map (aK false false)))]:=by
 have hpE:∀x∈(cy l).map (aK false false),AM.Pure x:=fun x hx=>by obtain⟨c,_,rfl⟩:=List.mem_map.1 hx;simp
 refine gW ?_ (by simp) (by simp[rb]) (StP.rb ⟨by simp,by simp,by simp,addX_pure h1 hpE,rfl,rfl,rfl,addX_one h2⟩);obtain⟨m,hm⟩:∃m,m=dl.length:=⟨_,rfl⟩;have cx:=commit_x (LTb false [u]) dl ((cy l).map (aK false false)) hd (stO_mk u h1 h2 _);rw[oW,←hm]at cx;rw[←hm];obtain⟨D,hD⟩:∃D,D=dnS dl:=⟨_,rfl⟩
 have hrbD:∀n,rbB n D:=fun n=>by rw[hD];exact(dB h1 h2).2 trivial
 have hrbS:∀(w:Tb) (q n:Nat),3≤n→rbB n (stE w m q):=fun w q n hn c hc=>by
  simp only[oR,oO,or_false]at hc
  rcases hc with rfl | rfl | rfl | rfl | rfl
  ·exact bJ (by simp) rfl
  ·show 1<n;omega
  ·simp[rb,rb1]
  ·simp[rb,rb1]
  ·show 2<n;omega
 have hrbN:∀(l:List Ch) (n:Nat),rbB n (nwS (l.map (aK false false))):=fun l n=>chs_rb _ _ _ _
 obtain⟨nm,hnm⟩:∃nm,nm=t.name:=⟨_,rfl⟩;have h0e:tkT t l 0=t:=rfl;have hue:=tkT_all hr;rw[←hD]at cx ⊢;rw[←hnm];refine aE tok Tryz.func42 rfl rfl ?_;refine dL 81 11 [] 0 [4] rfl (cD _ _) (by simp[stB]) ?_;refine wx ?_;simp -dsimp[Tryz.f42,oE,stB];refine aI (W_loopM 49 0x1fffffffff340 (by simp[mB]<;>rfl) (σ:=Nat) (fun i=>i≤l.length) (fun i=>l.length-i) (fun i=>[(12,.int .i64 i)]) (fun i=>[stE (tkT t l i) m (cy (l.take i)).length,D,nwS ((cy (l.take i)).map (aK false false))]) 0 (by omega) (by simp) (by simp[stE,stB,cy,nwS,tkT_zero]) (by simp) ?_);intro i hi N Q hN hQ;by_cases hb:i<l.length
 ·obtain⟨hvu,hku,hnu,hau⟩:=kM hv hk hr (show i≤l.length by omega);have hst:=mO hr hb;have hes:=eff_take hb;have hel:=eff_len l i;obtain⟨c,hce⟩:∃c,c=l[i]:=⟨_,rfl⟩;rw[←hce]at hst hes;have hce':=hce.symm;obtain⟨v,hve⟩:∃v,v=tkT t l i:=⟨_,rfl⟩;obtain⟨w,hwe⟩:∃w,w=tkT t l (i+1):=⟨_,rfl⟩;obtain⟨el,hee⟩:∃el,el=cy (l.take i):=⟨_,rfl⟩;rw[←hve]at hvu hku hnu hau hst;rw[←hve];rw[←hwe]at hst;rw[←hee]at hes hel;rw[←hee];obtain⟨q,hq⟩:∃q,q=el.length:=⟨_,rfl⟩;rw[←hq]at hel ⊢;have hrow:=jQ hvu hst
  have hrl:c.row.vals.length≤1000000:=by omega
  have p:=stO_mk v h1 h2 el
  have hnn:v.name=nm:=by rw[hnu,hnm]
  obtain⟨k,cn,tb,row,a,vv⟩:=c;simp only at hrl hrow;have hst2:=hst;unfold av at hst2;simp only at hst2;by_cases hn:cn=v.name
  case neg=>rw[if_neg hn]at hst2;cases hst2
  rw[if_pos hn]at hst2;subst hn;by_cases hk2:k=2
  ·subst hk2;rw[if_pos rfl]at hst2;by_cases he:bX v row=0
   case neg=>rw[if_neg he]at hst2;cases hst2
   have hsx:av v ⟨2,v.name,tb0,row,0,vl0⟩=some w:=by
    unfold av;simp only[if_true];rw[if_pos he];rw[if_pos he]at hst2;exact hst2
   have ci:=fun G=>je (H:=[stB (LTb false [v]) (.buf 1 0 m m) .nilS true (.buf 2 0 q q),D,nwS (el.map (aK false false)),G]) (k:=0) (L:=1) (M:=2) (insert_o v w row false hvu hku hrl hsx .nilS dl (el.map (aK false false)) m q (by rw[oW,hq]) (by omega) p) p (p.step _) (by simp) (by simp) (by decide) (by decide) (by decide) rfl (by rw[hD];rfl) rfl
   have hnew:el++[lU ⟨2,v.name,tb,row,a,vv⟩]=cy (l.take (i+1)):=by rw[hes,if_neg (by simp[jc])]
   have hcl:lU ⟨2,v.name,tb,row,a,vv⟩=⟨2,v.name,tb0,row,0,vl0⟩:=rfl;rw[hcl]at hnew
   have e1:∀q,stB (LTb false [v]) (.buf 1 0 m m) .nilS true (.buf 2 0 q q)=stE v m q:=fun _=>rfl
   have e2:∀q,stB (LTb false [w]) (.buf 1 0 m m) .nilS true (.buf 2 0 q q)=stE w m q:=fun _=>rfl
   rw[←hD]at ci;simp only[e1,e2,oz,pG]at ci
   have e3:el.map (aK false false)++[aK false false ⟨2,v.name,tb0,row,0,vl0⟩]=(cy (l.take (i+1))).map (aK false false):=by rw[←hnew,oe];rfl
   have e4:(cy (l.take (i+1))).length=q+1:=by rw[←hnew,oT,hq];rfl
   rw[e3]at ci;rw[hnn]at ci hce';obtain⟨S,hS⟩:∃S,S=stE v m q:=⟨_,rfl⟩;obtain⟨N0,hN0⟩:∃N0,N0=nwS (el.map (aK false false)):=⟨_,rfl⟩;rw[←hS,←hN0]at ci ⊢;simp only[aC,LV]at ci;refine wx ?_;simp -dsimp[hb,hce',aK,chC];refine wcE (ci _) ?_;simp -dsimp[aP i (by omega)];refine hN (i+1) _ _ (by omega) (by omega) (by simp) ⟨[B.cells (chC false false ⟨2,nm,tb,row,a,vv⟩)],by simp[e4,←hwe,chC]⟩ (by simp) ?_;intro bl hbl;simp only[oR,oO,or_false]at hbl
   rcases hbl with rfl | rfl | rfl
   ·exact hrbS _ _ _ (by simp)
   ·exact hrbD _
   ·exact hrbN _ _
  rw[if_neg hk2]at hst2;by_cases hri:fN v row=true
  case neg=>rw[if_neg hri]at hst2;cases hst2
  rw[if_pos hri]at hst2;obtain⟨hin,hat⟩:=rowIs_eq hri;by_cases hk3:k=3
  ·subst hk3;rw[if_pos rfl]at hst2
   have hsx:av v ⟨3,v.name,tb0,atT v row.id,0,vl0⟩=some w:=by
    rw[hat];unfold av;simp only[if_true];rw[if_neg (by decide),if_pos hri];exact hst2
   have ci:=fun G=>je (H:=[stB (LTb false [v]) (.buf 1 0 m m) .nilS true (.buf 2 0 q q),D,nwS (el.map (aK false false)),G]) (k:=0) (L:=1) (M:=2) (delete_o v w row.id false hvu hku hin hsx .nilS dl (el.map (aK false false)) m q (by rw[oW,hq]) (by omega) p) p (p.step _) (by simp) (by simp) (by decide) (by decide) (by decide) rfl (by rw[hD];rfl) rfl
   rw[hat]at ci
   have hnew:el++[lU ⟨3,v.name,tb,row,a,vv⟩]=cy (l.take (i+1)):=by rw[hes,if_neg (by simp[jc])]
   have hcl:lU ⟨3,v.name,tb,row,a,vv⟩=⟨3,v.name,tb0,row,0,vl0⟩:=rfl;rw[hcl]at hnew
   have e1:∀q,stB (LTb false [v]) (.buf 1 0 m m) .nilS true (.buf 2 0 q q)=stE v m q:=fun _=>rfl
   have e2:∀q,stB (LTb false [w]) (.buf 1 0 m m) .nilS true (.buf 2 0 q q)=stE w m q:=fun _=>rfl
   rw[←hD]at ci;simp only[e1,e2,oz,pG]at ci
   have e3:el.map (aK false false)++[aK false false ⟨3,v.name,tb0,row,0,vl0⟩]=(cy (l.take (i+1))).map (aK false false):=by rw[←hnew,oe];rfl
   have e4:(cy (l.take (i+1))).length=q+1:=by rw[←hnew,oT,hq];rfl
   rw[e3]at ci;rw[hnn]at ci hce';obtain⟨S,hS⟩:∃S,S=stE v m q:=⟨_,rfl⟩;obtain⟨N0,hN0⟩:∃N0,N0=nwS (el.map (aK false false)):=⟨_,rfl⟩;rw[←hS,←hN0]at ci ⊢;refine wx ?_;simp -dsimp[hb,hce',aK,chC];refine wcE (ci _) ?_;simp -dsimp[aP i (by omega)];refine hN (i+1) _ _ (by omega) (by omega) (by simp) ⟨[B.cells (chC false false ⟨3,nm,tb,row,a,vv⟩)],by simp[e4,←hwe,chC]⟩ (by simp) ?_;intro bl hbl;simp only[oR,oO,or_false]at hbl
   rcases hbl with rfl | rfl | rfl
   ·exact hrbS _ _ _ (by simp)
   ·exact hrbD _
   ·exact hrbN _ _
  rw[if_neg hk3]at hst2;by_cases hk4:k=4
  case neg=>rw[if_neg hk4]at hst2;cases hst2
  subst hk4;rw[if_pos rfl]at hst2;by_cases hcc:0≤a∧a<v.attrs.length∧aW vv=true
  case neg=>rw[if_neg hcc]at hst2;cases hst2
  rw[if_pos hcc]at hst2;obtain⟨ha0,ha1,hvv⟩:=hcc;obtain⟨b,rfl⟩:=pU ha0
  have hbl:b<(atT v row.id).vals.length:=by rw[hat];omega
  have hatV:atV row.vals b=row.vals[b]'(by omega):=by simp[atV,show b<row.vals.length by omega]
  by_cases hno:row.vals[b]'(by omega)=vv
  ·have hnop:jc ⟨4,v.name,tb,row,b,vv⟩=true:=by
    unfold jc;simp only[qP,decide_true,pE,decide_eq_true_eq];rw[hatV];exact hno
   have hwv:w=v:=step_nop hvu hst hnop
   have ci:=fun G=>je (H:=[stB (LTb false [v]) (.buf 1 0 m m) .nilS true (.buf 2 0 q q),D,nwS (el.map (aK false false)),G]) (k:=0) (L:=1) (M:=2) (change_nop v row.id b vv false hvu hku hin hbl hvv (by simp only[hat];exact hno) .nilS dl (el.map (aK false false)) m q p) p p (by simp) (by simp) (by decide) (by decide) (by decide) rfl (by rw[hD];rfl) rfl
   have hnew:el=cy (l.take (i+1)):=by rw[hes,if_pos hnop,oU]
   have e1:∀q,stB (LTb false [v]) (.buf 1 0 m m) .nilS true (.buf 2 0 q q)=stE v m q:=fun _=>rfl
   rw[←hD]at ci;simp only[e1,oz,pG]at ci;rw[hnn]at ci hce';obtain⟨S,hS⟩:∃S,S=stE v m q:=⟨_,rfl⟩;obtain⟨N0,hN0⟩:∃N0,N0=nwS (el.map (aK false false)):=⟨_,rfl⟩;rw[←hS,←hN0]at ci ⊢;simp only[aF]at ci;refine wx ?_;simp -dsimp[hb,hce',aK,chC];refine wcE (ci _) ?_;simp -dsimp[aP i (by omega)];refine hN (i+1) _ _ (by omega) (by omega) (by simp) ⟨[B.cells (chC false false ⟨4,nm,tb,row,b,vv⟩)],by simp[←hnew,←hwe,hwv,←hq,←hS,←hN0,chC]⟩ (by simp) ?_;intro bl hbl;simp only[oR,oO,or_false]at hbl
   rcases hbl with rfl | rfl | rfl
   ·exact hrbS _ _ _ (by simp)
   ·exact hrbD _
   ·exact hrbN _ _
  ·have hnop:¬jc ⟨4,v.name,tb,row,b,vv⟩=true:=by
    unfold jc;simp only[qP,decide_true,pE,decide_eq_true_eq];rw[hatV];exact hno
   have hsx:av v ⟨4,v.name,tb0,atT v row.id,b,vv⟩=some w:=by
    rw[hat];unfold av;simp only[if_true];rw[if_neg (by decide),if_pos hri,if_neg (by decide),if_pos ⟨by omega,ha1,hvv⟩];exact hst2
   have ci:=fun G=>je (H:=[stB (LTb false [v]) (.buf 1 0 m m) .nilS true (.buf 2 0 q q),D,nwS (el.map (aK false false)),G]) (k:=0) (L:=1) (M:=2) (change_o v w row.id b vv false hvu hku hin hbl hvv (by simp only[hat];exact hno) hsx .nilS dl (el.map (aK false false)) m q (by rw[oW,hq]) (by omega) p) p (p.step _) (by simp) (by simp) (by decide) (by decide) (by decide) rfl (by rw[hD];rfl) rfl
   rw[hat]at ci
   have hnew:el++[lU ⟨4,v.name,tb,row,b,vv⟩]=cy (l.take (i+1)):=by rw[hes,if_neg hnop]
   have hcl:lU ⟨4,v.name,tb,row,b,vv⟩=⟨4,v.name,tb0,row,b,vv⟩:=rfl;rw[hcl]at hnew
   have e1:∀q,stB (LTb false [v]) (.buf 1 0 m m) .nilS true (.buf 2 0 q q)=stE v m q:=fun _=>rfl
   have e2:∀q,stB (LTb false [w]) (.buf 1 0 m m) .nilS true (.buf 2 0 q q)=stE w m q:=fun _=>rfl
   rw[←hD]at ci;simp only[e1,e2,oz,pG]at ci
   have e3:el.map (aK false false)++[aK false false ⟨4,v.name,tb0,row,b,vv⟩]=(cy (l.take (i+1))).map (aK false false):=by rw[←hnew,oe];rfl
   have e4:(cy (l.take (i+1))).length=q+1:=by rw[←hnew,oT,hq];rfl
   rw[e3]at ci;rw[hnn]at ci hce';obtain⟨S,hS⟩:∃S,S=stE v m q:=⟨_,rfl⟩;obtain⟨N0,hN0⟩:∃N0,N0=nwS (el.map (aK false false)):=⟨_,rfl⟩;rw[←hS,←hN0]at ci ⊢;simp only[aF]at ci;refine wx ?_;simp -dsimp[hb,hce',aK,chC];refine wcE (ci _) ?_;simp -dsimp[aP i (by omega)];refine hN (i+1) _ _ (by omega) (by omega) (by simp) ⟨[B.cells (chC false false ⟨4,nm,tb,row,b,vv⟩)],by simp[e4,←hwe,chC]⟩ (by simp) ?_;intro bl hbl;simp only[oR,oO,or_false]at hbl
   rcases hbl with rfl | rfl | rfl
   ·exact hrbS _ _ _ (by simp)
   ·exact hrbD _
   ·exact hrbN _ _
 ·obtain rfl:i=l.length:=by omega
  rw[hue,oY]
  have e1:∀q,stB (LTb false [u]) (.buf 1 0 m m) .nilS true (.buf 2 0 q q)=stE u m q:=fun _=>rfl
  rw[e1]at cx;refine wx ?_;simp -dsimp[hb];refine hQ _ _ _ ?_;simp -dsimp[];refine wcm cx ?_;rintro r H' ⟨rfl,G,rfl⟩;simp -dsimp[]
theorem stQ_mk{db dn ud:V}(t:Tb)(p:StQ db dn ud):StQ (LTb false [t]) dn ud:=⟨by simp,p.ydn,p.yud,rfl,p.odn,p.oud⟩
def stU(t:Tb)(dn ud:V):B:=stB (LTb false [t]) dn ud false .nilS
theorem inv_ok{t u:Tb}{c:Ch}(h:aG t=0)(hs:av t c=some u):InvOk c:=by
 obtain⟨h1,h2⟩:=jQ h hs;unfold av at hs;split at hs
 case isFalse=>cases hs
 split at hs
 ·rename_i hk;exact⟨.inl hk,fun e=>by omega,by omega⟩
 ·rename_i hk;split at hs
  case isFalse=>cases hs
  split at hs
  ·rename_i hk3;exact⟨.inr (.inl hk3),fun e=>by omega,by omega⟩
  ·split at hs
   case isFalse=>cases hs
   rename_i hk4;split at hs
   case isFalse=>cases hs
   rename_i h5;exact⟨.inr (.inr hk4),fun e=>by omega,by omega⟩
theorem inv_len{t u:Tb}{c:Ch}(h:aG t=0)(hs:av t c=some u):(kZ c).row.vals.length≤1000000:=by
 obtain⟨h1,h2⟩:=jQ h hs;unfold kZ;split
 ·simp only;omega
 ·split
  ·simp only;omega
  ·split
   ·simp only[pN];omega
   ·omega
def stF(t:Tb)(fx:Bool)(xs:List Tx)(ud:V):B:=stB (LTb false [t]) (.lst 1 fx (xs.map aY)) ud false .nilS
theorem fM(t:Tb)(fx:Bool)(xs:List Tx){ud:V}(h:AM.Pure ud)(h1:ud.one=true):StQ (LTb false [t]) (.lst 1 fx (xs.map aY)) ud:=⟨by simp,by simp,h,rfl,rfl,h1⟩
def rvF(f:Bool)(xs:List V):List V:=([V.ptr 0 0,V.lst 11 f xs]++oE 42 (V.tup [])).set 2 (V.ptr 1 0)
def rvM(f:Bool)(xs:List V):List V:=((rvF f xs).set 6 (V.lst 11 f xs)).set 7 V.undef
def rvB(f:Bool)(xs:List V)(i:Nat)(c:V):List V:=(((rvM f xs).set 8 (.int .i64 (i:Int))).set 9 c).set 5 (.ptr 2 0)
theorem revert_l(t u:Tb)(l:List Ch)(f:Bool)(dn ud:V)(hv:aG t=0)(hk:TbOk t)(hl:l.length≤1000000)(hr:runT t l=some u)(p:StQ (LTb false [t]) dn ud):
  aU Tryz.prog 68 [.ptr 0 0,.lst 11 f (l.map (aK false false))] [stU u dn ud] fun r H'=>r = .tup []∧H'=[stU t dn ud,.cells [.ptr 0 0]]:=by
 obtain⟨xs,hxs⟩:∃xs,xs=l.map (aK false false):=⟨_,rfl⟩
 have hxl:xs.length=l.length:=by rw[hxs,oW]
 have hue:=tkT_all hr;have h0e:tkT t l 0=t:=rfl;rw[←hxs];by_cases h0:l=[]
 ·subst h0;have:xs=[]:=hxs;subst this
  have e:u=t:=by rw[runT]at hr;exact(Option.some.inj hr).symm
  subst e;have:=lB [stU u dn ud] 0 f (stQ_mk u p).rb1 (by simp[stU,stB]) (by simp);exact this
 have hlp:0<l.length:=List.length_pos_iff.2 h0
 obtain⟨Hs,hHs⟩:∃Hs:Nat→List B,Hs=fun k=>[stU (tkT t l (l.length-k)) dn ud,.cells [.ptr 0 0]]:=⟨_,rfl⟩
 have eH:∀k,Hs k=[stU (tkT t l (l.length-k)) dn ud,.cells [.ptr 0 0]]:=fun k=>by rw[hHs]
 have hb1:=back_mk (Hs 0) f xs
 obtain⟨ci,hci⟩:∃ci:Nat→Ch,ci=fun k=>l.getD (l.length-1-k) ⟨0,oF,tb0,⟨0,[]⟩,0,vl0⟩:=⟨_,rfl⟩
 have hix:∀k,l.length-1-k<l.length:=fun k=>Nat.lt_of_le_of_lt (Nat.sub_le _ _) (Nat.sub_lt hlp Nat.one_pos)
 have eC:∀k (hk:k<l.length),ci k=l[l.length-1-k]'(hix k):=fun k hk=>by
  rw[hci];simp only;rw[pj,oG (hix k),qG]
 have eX:∀k (hk:k<l.length),xs.getD (l.length-1-k) .undef=aK false false (ci k):=fun k hk=>by
  have e:xs[l.length-1-k]?=some (aK false false (l[l.length-1-k]'(hix k))):=by rw[hxs,oc,oG (hix k)];rfl
  rw[eC k hk,pj,e];rfl
 have hno:∀(Q:List V→List B→Prop),NoOut (fun e fr H'=>e = .normal∧Q fr H'):=fun Q fr H h=>by cases h.1
 have hfin:=nf tok (f:=68) (gf:=197) (z:=11) (args:=[.ptr 0 0,.lst 11 f xs]) (H:=[stU u dn ud]) Tryz.func68 rfl rfl rfl (by decide) (enters_of Tryz.func197 rfl rfl)
  (((rvF f xs).set 6 (V.lst 11 f xs)).set 7 (V.fn 197 [V.ptr 2 0])) (rvM f xs)
  ?less Hs (fun k=>Hs k++[.cells (chC false false (ci k))]) (fun k=>rvB f xs (l.length-1-k) (aK false false (ci k))) xs f l.length hxl.symm ?head ?hg ?hl ?rb0 (fun k hk=>?rb) (fun k hk=>by rw[eH,eH];rfl) (fun k hk=>mf ?nm) (fun k hk=>mf ?nmB) ?hx ?it (fun k hlk=>?asg) (fun k hlk=>?body)
 case less=>simp[rvM,rvF,oE]
 case head =>
  rw[eH,rR,hue]at hb1;rw[eH,rR,hue];obtain⟨S,hS⟩:∃S,S=stU u dn ud:=⟨_,rfl⟩;rw[←hS]at hb1 ⊢;refine wx ?_;simp -dsimp[Tryz.f68,oE];refine wx ?_;simp -dsimp;refine wcE hb1 ?_;simp -dsimp[rvF,oE]
 case hg=>simp[rvF,oE,eH]
 case hl=>simp[eH]
 case rb0 =>
  simp[rvM,rvF,oE,eH,rb,rb1];intro x hx;rw[hxs]at hx;obtain⟨c,_,rfl⟩:=List.mem_map.1 hx;simp
 case rb =>
  intro bl hbl;rw[eH]at hbl;simp only[oR,oO,or_false]at hbl
  rcases hbl with rfl | rfl
  ·exact(stQ_mk _ p).rbn _
  ·intro c hc;rw[List.mem_singleton.1 hc];show 0<_;rw[eH];simp
 case nm =>
  intro b hb kk es;rw[eH]at hb;simp only[oR,oO,or_false]at hb
  rcases hb with rfl | rfl<;>simp[stU,stB]
 case nmB =>
  intro b hb kk es;rw[eH]at hb;simp only[oR,oO,or_false,qB]at hb
  rcases hb with(rfl | rfl) | rfl<;>simp[stU,stB]
 case hx =>
  intro x hx;rw[hxs]at hx;obtain⟨c,_,rfl⟩:=List.mem_map.1 hx;refine⟨_,rfl,rfl,fun d hd=>?_⟩;simp only[chC,oR,oO,or_false]at hd
  rcases hd with rfl | rfl | rfl | rfl | rfl | rfl | rfl | rfl | rfl | rfl | rfl<;>simp[V.one]
 case it =>
  intro Bs b off cap us w h1 h2 h3 h4 _
  rcases h3 with h3 | ⟨e,_⟩
  ·rw[if_neg (by omega)]at h3;exact back_ix l.length Bs b off cap us w hl h1 h2 h3 h4
  ·omega
 case asg =>
  intro l' m';rw[eX k hlk,eH];obtain⟨S,hS⟩:∃S,S=stU (tkT t l (l.length-k)) dn ud:=⟨_,rfl⟩;rw[←hS];refine ie tok mixed _ _ _ _ rfl (fun fr H h=>by cases h.1) ?_;simp -dsimp[rvB,rvM,rvF,oE,aK,chC]
 case body =>
  intro l' m';have hst:=mO hr (show l.length-1-k<l.length by omega);obtain⟨hvu,hku,hnu,hau⟩:=kM hv hk hr (show l.length-1-k≤l.length by omega);rw[←eC k hlk]at hst;rw[show l.length-1-k+1=l.length-k by omega]at hst;obtain⟨q,hq⟩:∃q,q=l.length-1-k:=⟨_,rfl⟩;rw[eH,eH,show l.length-(k+1)=q by omega,←hq];rw[←hq]at hst hvu hku;obtain⟨c,hc⟩:∃c,c=ci k:=⟨_,rfl⟩;rw[←hc]at hst ⊢;obtain⟨v,hve⟩:∃v,v=tkT t l q:=⟨_,rfl⟩;obtain⟨w,hwe⟩:∃w,w=tkT t l (l.length-k):=⟨_,rfl⟩;rw[←hve,←hwe]at hst;rw[←hve]at hvu hku ⊢;rw[←hwe];obtain⟨hvw,hkw⟩:=tbOk_step hvu hku hst;have hio:=inv_ok hvu hst;have c1:=inv_u c false false hio;have c2:=oA w v (kZ c) false false false hvw hkw (inv_len hvu hst) (step_inv hvu hst)
  have hk1:¬c.k=1:=by rcases hio.k with h | h | h<;>omega
  obtain⟨ic,hic⟩:∃ic,ic=kZ c:=⟨_,rfl⟩;rw[←hic]at c1 c2;simp only[aK,chC,LTb,oq,pJ]at c1 c2;simp only[stU,stB,LTb,oq,pJ];obtain⟨VW,hVW⟩:∃V,V=aD false false w:=⟨_,rfl⟩;obtain⟨VV,hVV⟩:∃V,V=aD false false v:=⟨_,rfl⟩
  have hpw:AM.Pure VW:=by rw[hVW];simp
  rw[←hVW]at c2;rw[←hVV]at c2;rw[←hVW,←hVV];refine ie tok mixed _ _ _ _ rfl (fun fr H h=>by cases h.1) ?_;simp -dsimp[rvB,rvM,rvF,oE,aK,chC,hk1];refine lr_of (WR_drawT tok mixed rfl (fun fr H h=>by have h2:=And.left h;cases h2) [13] [] [(aK false false ic,[]),(.tup [.agg [.lst 3 false [VV]],.int .i64 0],[])] (by kernel_rfl) fun C K hC hK=>?_);simp -implicitDefEqProofs [aK,chC];refine⟨⟨hC _ _ _ _ (aT c1 (by simp)),hC _ _ _ _ (aT c2 (by simp[hpw]))⟩,hK _ _ ?_⟩;simp -dsimp
 rw[eH,px,h0e]at hfin;exact hfin
theorem undo_l(t u:Tb)(xs:List Tx)(x:Tx)(fx:Bool)(hv:aG t=0)(hk:TbOk t)(hl:x.l.length≤1000000)(hr:runT t x.l=some u)(hx:xs.length≤1000000):
  aU Tryz.prog 28 [.ptr 0 0] [stF u fx (xs++[x]) .nilS] fun r H'=>r = .int .i64 0∧H'=[stF t true xs (.lst 1 false [aY x])]:=by
 refine gW ?_ (by simp) (by simp[rb]) (fM t true xs (ud:=.lst 1 false [aY x]) (by simp) rfl).rb1;obtain⟨y,hy⟩:∃y,y=(xs++[x]).map aY:=⟨_,rfl⟩
 have hyl:y.length=xs.length+1:=by rw[hy];simp
 have hyx:∀h:xs.length<y.length,y[xs.length] = .lst 11 x.f (x.l.map (aK false false)):=fun h=>by subst hy;simp[aY]
 have hyt:y.take xs.length=xs.map aY:=by rw[hy];simp
 have p:=(fM u fx (xs++[x]) (ud:=.nilS) (by simp) rfl);have c1:=revert_l t u x.l x.f (.lst 1 fx y) .nilS hv hk hl hr (by rw[hy];exact stQ_mk t p);obtain⟨n,hn⟩:∃n,n=xs.length:=⟨_,rfl⟩;rw[←hn]at hyl hx hyt
 have hyx':∀h:n<y.length,y[n] = .lst 11 x.f (x.l.map (aK false false)):=fun h=>by subst hn;exact hyx h
 obtain⟨ex,hex⟩:∃ex,ex=x.l.map (aK false false):=⟨_,rfl⟩;obtain⟨xt,hxt⟩:∃xt,xt=xs.map aY:=⟨_,rfl⟩;simp only[stF,stU,stB,←hy,aY,←hex,←hxt]at *;have wn:IntKind.i64.wrap (n:Int)=n:=wrap64 (by omega) (by omega)
 have hn1:¬((n:Int)+1=0):=by omega
 have hyx2:y[n]?=some (.lst 11 x.f ex):=by rw[oG (by omega),hyx']
 refine aE (tkf 119) Tryz.func28 rfl rfl ?_;refine W_x (tkf 119) mixed ?_;simp -dsimp[Tryz.f28,oE,hyl,hyx',hyx2,wn,hn1,bM];refine wcE c1 ?_;simp -dsimp[hyl,wn,hn1,bM];refine aI (mJ (tkf 119) mixed [20,23] [] [] (by kernel_rfl) fun C K hC hK=>?_);simp -implicitDefEqProofs [hyl,hyt,wn,hn1,bM];refine hK _ _ ?_;simp -dsimp[bM]
theorem redo_l(t u:Tb)(xs:List Tx)(x:Tx)(hv:aG t=0)(hk:TbOk t)(hl:x.l.length≤1000000)(hr:runT t x.l=some u)(hx:xs.length≤1000000):
  aU Tryz.prog 29 [.ptr 0 0] [stF t true xs (.lst 1 false [aY x])] fun r H'=>r = .int .i64 0∧H'=[stF u false (xs++[x]) (.lst 1 true [])]:=by
 refine gW ?_ (by simp) (by simp[rb]) (fM u false (xs++[x]) (ud:=.lst 1 true []) (by simp) rfl).rb1;obtain⟨y,hy⟩:∃y,y=xs.map aY:=⟨_,rfl⟩
 have hyl:y.length=xs.length:=by rw[hy];simp
 have hyE:(xs++[x]).map aY=y++[aY x]:=by rw[hy,oe];rfl
 have hy1:∀v∈y,AM.Pure v:=fun v hv=>by rw[hy]at hv;obtain⟨z,_,rfl⟩:=List.mem_map.1 hv;simp
 obtain⟨n,hn⟩:∃n,n=xs.length:=⟨_,rfl⟩;rw[←hn]at hyl hx;have hue:=tkT_all hr;have h0e:tkT t x.l 0=t:=rfl;obtain⟨l,hle⟩:∃l,l=x.l:=⟨_,rfl⟩;obtain⟨fx,hfx⟩:∃fx,fx=x.f:=⟨_,rfl⟩
 have hex:aY x = .lst 11 fx (l.map (aK false false)):=by rw[hfx,hle];rfl
 rw[←hle]at hl hr hue h0e;have hll:0≤l.length:=qV _;simp only[stF,hyE,←hy,hex]
 obtain⟨SF,hSF⟩:∃SF:Nat→B,SF=fun i=>B.cells [.lst 3 false [aD false false (tkT t l i)],.lst 1 true y,.lst 1 false [.lst 11 fx (l.map (aK false false))],.bool false,.nilS]:=⟨_,rfl⟩
 have eS:∀i,SF i=B.cells [.lst 3 false [aD false false (tkT t l i)],.lst 1 true y,.lst 1 false [.lst 11 fx (l.map (aK false false))],.bool false,.nilS]:=fun i=>by rw[hSF]
 have hrbS:∀i k,rbB k (SF i):=fun i k=>by
  rw[eS];intro c hc;simp only[oR,oO,or_false]at hc
  rcases hc with rfl | rfl | rfl | rfl | rfl
  ·exact bJ (by simp) rfl
  ·exact bJ ((pure_lst _ _ _).2 hy1) rfl
  ·exact bJ (by simp) rfl
  ·simp[rb,rb1]
  ·simp[rb,rb1]
 have e0:stB (LTb false [t]) (.lst 1 true y) (.lst 1 false [.lst 11 fx (l.map (aK false false))]) false .nilS=SF 0:=by rw[eS,h0e];rfl
 rw[e0];have wz:IntKind.i64.wrap (0:Int)=0:=wrap64 (by omega) (by omega);refine aE (tkf 119) Tryz.func29 rfl rfl ?_;refine W_x (tkf 119) mixed ?_;simp -dsimp[Tryz.f29,oE,eS,wz,bM];refine aI (W_loopM 47 0x7fffc0000040 (by simp[mB]<;>rfl) (σ:=Nat) (fun i=>i≤l.length) (fun i=>l.length-i) (fun i=>[(30,.int .i64 i)]) (fun i=>[SF i]) 0 (by omega) (by simp) (by simp[eS]) (by simp) ?_);intro i hi N Q hN hQ;by_cases hb:i<l.length
 ·obtain⟨hvu,hku,hnu,hau⟩:=kM hv hk hr (show i≤l.length by omega);have hst:=mO hr hb;have hrow:=jQ hvu hst;obtain⟨c,hce⟩:∃c,c=l[i]:=⟨_,rfl⟩;rw[←hce]at hst hrow;have hce':=hce.symm;have c2:=oA (tkT t l i) (tkT t l (i+1)) c false false false hvu hku (by omega) hst;have eS0:=eS i;have eS1:=eS (i+1);obtain⟨v,hve⟩:∃v,v=aD false false (tkT t l i):=⟨_,rfl⟩;obtain⟨w,hwe⟩:∃w,w=aD false false (tkT t l (i+1)):=⟨_,rfl⟩
  have hvp:AM.Pure v:=by rw[hve];simp
  simp only[LTb,oq,pJ]at c2;rw[←hve]at c2 eS0;rw[←hwe]at c2 eS1;simp only[aK,chC]at c2;refine W_x (tkf 119) mixed ?_;simp -dsimp[hb,hce',aK,chC,eS0,bM];refine aI (aX (tkf 119) mixed [12] [(9,[1])] [(.tup [.agg [.lst 3 false [w]],.int .i64 0],[])] (by kernel_rfl) fun C K hC hK=>?_);simp -implicitDefEqProofs [eS0,bM];refine⟨hC _ _ _ _ (aT c2 (by simp[hvp])),hK _ _ ?_⟩;simp -dsimp[aP i (by omega),bM];refine hN (i+1) _ _ (by omega) (by omega) (by simp) ⟨[B.cells (chC false false c)],by simp[eS1,chC]⟩ (by simp) ?_;intro bl hbl;rw[List.mem_singleton.1 hbl];exact hrbS _ _
 ·obtain rfl:i=l.length:=by omega
  have eS1:=eS l.length;rw[hue]at eS1;refine W_x (tkf 119) mixed ?_;simp -dsimp[hb,bM];refine hQ _ _ _ ?_;simp -dsimp[eS1,wz,bM];refine aI (mJ (tkf 119) mixed [20,23] [] [] (by kernel_rfl) fun C K hC hK=>?_);simp -implicitDefEqProofs [eS1,hyl,wz,nu n (by omega),bM];refine hK _ _ ?_;simp -dsimp[bM];rfl
theorem same_ch(l:List Ch)(f g:Bool)(hl:l.length≤1000000)(hc:∀c∈l,ChOk c):aJ Tryz.prog 26 [.lst 11 f (l.map (aK false false)),.lst 11 g (l.map (aK false false))] fun r=>r = .bool true:=by
 have hp:∀x∈l.map (aK false false),AM.Pure x:=fun x hx=>by obtain⟨c,_,rfl⟩:=List.mem_map.1 hx;simp
 have:=same59 (l.map (aK false false)) (l.map (aK false false)) l l f g (by simp) (by simp) hl hp hp (fun i h1 h2 h3 h4=>by
  have hi:i<l.length:=by simpa using h1
  refine⟨⟨_,_,by rw[qM];rfl,by rw[qM];rfl,rfl,rfl⟩,?_⟩;have:=equal59 l[i] l[i] false false false false (hc _ (oI hi));rw[qM]
  exact this)
 rw[eqCs_self]at this;exact this
def txA(t:Tb)(l:List Ch):List Tx:=if l=[] then txC t else txC t++[⟨false,l⟩]
theorem txA_add(t:Tb)(l:List Ch):kF ((txC t).map aY) (l.map (aK false false))=(txA t l).map aY:=by
 unfold kF txA;by_cases h:l=[]
 ·subst h;rfl
 ·rw[if_neg h,if_neg (by simpa using h),oe];rfl
theorem txA_jr(t:Tb)(l:List Ch):jrL (txA t l)=fT t::l:=by
 unfold txA;by_cases h:l=[]
 ·subst h;rfl
 ·rw[if_neg h];simp[jrL,txC]
theorem txA_len(t:Tb)(l:List Ch):(txA t l).length≤2:=by
 unfold txA txC;split<;>simp
structure LsOk (l:List Ch):Prop where
 len:l.length≤900000
 ok:∀c∈l,ChOk c∧ChL c
theorem txA_ok{t:Tb}{l:List Ch}(ht:TbL t)(h:LsOk l):∀x∈txA t l,∀c∈x.l,ChL c:=fun x hx c hc=>by
 have h0:∀x∈txC t,∀c∈x.l,ChL c:=fun x hx c hc=>by
  simp[txC]at hx;subst hx;simp at hc;subst hc;exact⟨ht,by simp[fT]⟩
 unfold txA at hx;split at hx
 ·exact h0 x hx c hc
 ·rcases List.mem_append.1 hx with q | q
  ·exact h0 x q c hc
  ·rw[List.mem_singleton.1 q]at hc;exact(h.ok c hc).2
theorem is_f{t u:Tb}{l:List Ch}(fx:Bool){ud L:V}(ht:TbL t)(hu:TbL u)(hz0:∀r∈t.rows,∀v∈r.vals,v.s.size≤maxLen)(hz:∀r∈u.rows,∀v∈r.vals,v.s.size≤maxLen)(h:LsOk l)(hud:AM.Pure ud)(hu1:ud.one=true)(hL:AM.Pure L)
  (hs:aJ Tryz.prog 26 [.lst 11 false (l.map (aK false false)),L] fun r=>r = .bool true):aU Tryz.prog 10 [.ptr 0 0,aD false false t,aD false false u,L] [stF u fx (txA t l) ud] fun r H'=>r = .bool true∧H'=[stF u fx (txA t l) ud] :=
 is_l t u fx (txA t l) l false false false false false L ud false (txA_jr t l) (by have:=txA_len t l;omega) (by rw[txA_jr];have:=h.len;simp;omega) (txA_ok ht h) hu hz0 hz hL (fM u fx _ hud hu1) hs
end
end Go.Proofs.YtdnhplencamncaaGreatDoor
