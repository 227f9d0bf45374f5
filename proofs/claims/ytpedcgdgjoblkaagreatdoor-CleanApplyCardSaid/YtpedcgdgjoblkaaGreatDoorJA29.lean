/- JA29: own texts of this seat, joined and shortened by pack4.py: UR, UD. -/
import Derived.Test.YtpedcgdgjoblkaaGreatDoorJA27
import Derived.Test.YtpedcgdgjoblkaaGreatDoorJA28
set_option linter.unusedVariables false
set_option linter.unusedSimpArgs false
set_option maxRecDepth 100000
set_option maxHeartbeats 64000000
open ByteArray renaming empty→kI
open List renaming replicate→aI,getElem?_eq_getElem→kJ,getElem_mem→kN,not_mem_nil→kS,mem_cons→kZ,getElem?_map→kb,length_map→kh,map_cons→lH,length_set→lS,map_nil→lU,map_append→lZ,getD_eq_getElem?_getD→lw,mem_append→mR
open Nat renaming sub_self→mX,sub_zero→mu
open Option renaming getD_some→lz
namespace Go.Proofs.YtpedcgdgjoblkaaGreatDoor
section
open Go Go.AM
theorem stQ_mk{db dn ud:V}(t:Tb)(p:StQ db dn ud):StQ (LTb false [t]) dn ud:=⟨by simp,p.ydn,p.yud,rfl,p.odn,p.oud⟩
def stU(t:Tb)(dn ud:V):B:=stB (LTb false [t]) dn ud false .nilS
theorem inv_ok{t u:Tb}{c:Ch}(h:aH t=0)(hs:ae t c=some u):InvOk c:=by
 obtain⟨h1,h2⟩:=eP h hs;unfold ae at hs;split at hs
 case isFalse=>cases hs
 split at hs
 ·rename_i hk;exact⟨.inl hk,fun e=>by omega,by omega⟩
 ·rename_i hk;split at hs
  case isFalse=>cases hs
  split at hs
  ·rename_i hk3;exact⟨.inr (.inl hk3),fun e=>by omega,by omega⟩
  ·split at hs
   case isFalse=>cases hs
   rename_i hk4;split at hs
   case isFalse=>cases hs
   rename_i h5;exact⟨.inr (.inr hk4),fun e=>by omega,by omega⟩
theorem inv_len{t u:Tb}{c:Ch}(h:aH t=0)(hs:ae t c=some u):(gx c).row.vals.length≤1000000:=by
 obtain⟨h1,h2⟩:=eP h hs;unfold gx;split
 ·simp only;omega
 ·split
  ·simp only;omega
  ·split
   ·simp only[lS];omega
   ·omega
def stF(t:Tb)(fx:Bool)(xs:List Tx)(ud:V):B:=stB (LTb false [t]) (.lst 1 fx (xs.map aa)) ud false .nilS
theorem stQ_f(t:Tb)(fx:Bool)(xs:List Tx){ud:V}(h:AM.Pure ud)(h1:ud.one=true):StQ (LTb false [t]) (.lst 1 fx (xs.map aa)) ud:=⟨by simp,by simp,h,rfl,rfl,h1⟩
def rvF(f:Bool)(xs:List V):List V:=([V.ptr 0 0,V.lst 11 f xs]++aI 42 (V.tup [])).set 2 (V.ptr 1 0)
def rvM(f:Bool)(xs:List V):List V:=((rvF f xs).set 6 (V.lst 11 f xs)).set 7 V.undef
def rvB(f:Bool)(xs:List V)(i:Nat)(c:V):List V:=(((rvM f xs).set 8 (.int .i64 (i:Int))).set 9 c).set 5 (.ptr 2 0)
theorem revert_l(t u:Tb)(l:List Ch)(f:Bool)(dn ud:V)(hv:aH t=0)(hk:TbOk t)(hl:l.length≤1000000)(hr:runT t l=some u)(p:StQ (LTb false [t]) dn ud):
  aT Tryz.prog 42 [.ptr 0 0,.lst 11 f (l.map (aE false false))] [stU u dn ud] fun r H'=>r = .tup []∧H'=[stU t dn ud,.cells [.ptr 0 0]]:=by
 obtain⟨xs,hxs⟩:∃xs,xs=l.map (aE false false):=⟨_,rfl⟩
 have hxl:xs.length=l.length:=by rw[hxs,kh]
 have hue:=tkT_all hr;have h0e:tkT t l 0=t:=rfl;rw[←hxs];by_cases h0:l=[]
 ·subst h0;have:xs=[]:=hxs;subst this
  have e:u=t:=by rw[runT]at hr;exact(Option.some.inj hr).symm
  subst e;have:=iN [stU u dn ud] 0 f (stQ_mk u p).rb1 (by simp[stU,stB]) (by simp);exact this
 have hlp:0<l.length:=List.length_pos_iff.2 h0
 obtain⟨Hs,hHs⟩:∃Hs:Nat→List B,Hs=fun k=>[stU (tkT t l (l.length-k)) dn ud,.cells [.ptr 0 0]]:=⟨_,rfl⟩
 have eH:∀k,Hs k=[stU (tkT t l (l.length-k)) dn ud,.cells [.ptr 0 0]]:=fun k=>by rw[hHs]
 have hb1:=back_mk (Hs 0) f xs
 obtain⟨ci,hci⟩:∃ci:Nat→Ch,ci=fun k=>l.getD (l.length-1-k) ⟨0,kI,tb0,⟨0,[]⟩,0,vl0⟩:=⟨_,rfl⟩
 have hix:∀k,l.length-1-k<l.length:=fun k=>Nat.lt_of_le_of_lt (Nat.sub_le _ _) (Nat.sub_lt hlp Nat.one_pos)
 have eC:∀k (hk:k<l.length),ci k=l[l.length-1-k]'(hix k):=fun k hk=>by
  rw[hci];simp only;rw[lw,kJ (hix k),lz]
 have eX:∀k (hk:k<l.length),xs.getD (l.length-1-k) .undef=aE false false (ci k):=fun k hk=>by
  have e:xs[l.length-1-k]?=some (aE false false (l[l.length-1-k]'(hix k))):=by rw[hxs,kb,kJ (hix k)];rfl
  rw[eC k hk,lw,e];rfl
 have hno:∀(Q:List V→List B→Prop),NoOut (fun e fr H'=>e = .normal∧Q fr H'):=fun Q fr H h=>by cases h.1
 have hfin:=jx tok (f:=42) (gf:=118) (z:=11) (args:=[.ptr 0 0,.lst 11 f xs]) (H:=[stU u dn ud]) Tryz.func42 rfl rfl rfl (by decide) (enters_of Tryz.func118 rfl rfl)
  (((rvF f xs).set 6 (V.lst 11 f xs)).set 7 (V.fn 118 [V.ptr 2 0])) (rvM f xs)
  ?less Hs (fun k=>Hs k++[.cells (chC false false (ci k))]) (fun k=>rvB f xs (l.length-1-k) (aE false false (ci k))) xs f l.length hxl.symm ?head ?hg ?hl ?rb0 (fun k hk=>?rb) (fun k hk=>by rw[eH,eH];rfl) (fun k hk=>jT ?nm) (fun k hk=>jT ?nmB) ?hx ?it (fun k hlk=>?asg) (fun k hlk=>?body)
 case less=>simp[rvM,rvF,aI]
 case head =>
  rw[eH,mu,hue]at hb1;rw[eH,mu,hue];obtain⟨S,hS⟩:∃S,S=stU u dn ud:=⟨_,rfl⟩;rw[←hS]at hb1 ⊢;refine wx ?_;simp -dsimp[Tryz.f42,aI];refine wx ?_;simp -dsimp;refine wcE hb1 ?_;simp -dsimp[rvF,aI]
 case hg=>simp[rvF,aI,eH]
 case hl=>simp[eH]
 case rb0 =>
  simp[rvM,rvF,aI,eH,rb,rb1];intro x hx;rw[hxs]at hx;obtain⟨c,_,rfl⟩:=List.mem_map.1 hx;simp
 case rb =>
  intro bl hbl;rw[eH]at hbl;simp only[kZ,kS,or_false]at hbl
  rcases hbl with rfl | rfl
  ·exact(stQ_mk _ p).rbn _
  ·intro c hc;rw[List.mem_singleton.1 hc];show 0<_;rw[eH];simp
 case nm =>
  intro b hb kk es;rw[eH]at hb;simp only[kZ,kS,or_false]at hb
  rcases hb with rfl | rfl<;>simp[stU,stB]
 case nmB =>
  intro b hb kk es;rw[eH]at hb;simp only[kZ,kS,or_false,mR]at hb
  rcases hb with(rfl | rfl) | rfl<;>simp[stU,stB]
 case hx =>
  intro x hx;rw[hxs]at hx;obtain⟨c,_,rfl⟩:=List.mem_map.1 hx;refine⟨_,rfl,rfl,fun d hd=>?_⟩;simp only[chC,kZ,kS,or_false]at hd
  rcases hd with rfl | rfl | rfl | rfl | rfl | rfl | rfl | rfl | rfl | rfl | rfl<;>simp[V.one]
 case it =>
  intro Bs b off cap us w h1 h2 h3 h4 _
  rcases h3 with h3 | ⟨e,_⟩
  ·rw[if_neg (by omega)]at h3;exact back_ix l.length Bs b off cap us w hl h1 h2 h3 h4
  ·omega
 case asg =>
  intro l' m';rw[eX k hlk,eH];obtain⟨S,hS⟩:∃S,S=stU (tkT t l (l.length-k)) dn ud:=⟨_,rfl⟩;rw[←hS];refine fT tok mixed _ _ _ _ rfl (fun fr H h=>by cases h.1) ?_;simp -dsimp[rvB,rvM,rvF,aI,aE,chC]
 case body =>
  intro l' m';have hst:=jG hr (show l.length-1-k<l.length by omega);obtain⟨hvu,hku,hnu,hau⟩:=gi hv hk hr (show l.length-1-k≤l.length by omega);rw[←eC k hlk]at hst;rw[show l.length-1-k+1=l.length-k by omega]at hst;obtain⟨q,hq⟩:∃q,q=l.length-1-k:=⟨_,rfl⟩;rw[eH,eH,show l.length-(k+1)=q by omega,←hq];rw[←hq]at hst hvu hku;obtain⟨c,hc⟩:∃c,c=ci k:=⟨_,rfl⟩;rw[←hc]at hst ⊢;obtain⟨v,hve⟩:∃v,v=tkT t l q:=⟨_,rfl⟩;obtain⟨w,hwe⟩:∃w,w=tkT t l (l.length-k):=⟨_,rfl⟩;rw[←hve,←hwe]at hst;rw[←hve]at hvu hku ⊢;rw[←hwe];obtain⟨hvw,hkw⟩:=gj hvu hku hst;have hio:=inv_ok hvu hst;have c1:=inv_u c false false hio;have c2:=apply_ok w v (gx c) false false false hvw hkw (inv_len hvu hst) (step_inv hvu hst)
  have hk1:¬c.k=1:=by rcases hio.k with h | h | h<;>omega
  obtain⟨ic,hic⟩:∃ic,ic=gx c:=⟨_,rfl⟩;rw[←hic]at c1 c2;simp only[aE,chC,LTb,lH,lU]at c1 c2;simp only[stU,stB,LTb,lH,lU];obtain⟨VW,hVW⟩:∃V,V=aD false false w:=⟨_,rfl⟩;obtain⟨VV,hVV⟩:∃V,V=aD false false v:=⟨_,rfl⟩
  have hpw:AM.Pure VW:=by rw[hVW];simp
  rw[←hVW]at c2;rw[←hVV]at c2;rw[←hVW,←hVV];refine fT tok mixed _ _ _ _ rfl (fun fr H h=>by cases h.1) ?_;simp -dsimp[rvB,rvM,rvF,aI,aE,chC,hk1];refine lr_of (WR_drawT tok mixed rfl (fun fr H h=>by have h2:=And.left h;cases h2) [13] [] [(aE false false ic,[]),(.tup [.agg [.lst 3 false [VV]],.int .i64 0],[])] (by kernel_rfl) fun C K hC hK=>?_);simp -implicitDefEqProofs [aE,chC];refine⟨⟨hC _ _ _ _ (aP c1 (by simp)),hC _ _ _ _ (aP c2 (by simp[hpw]))⟩,hK _ _ ?_⟩;simp -dsimp
 rw[eH,mX,h0e]at hfin;exact hfin
theorem undo_l(t u:Tb)(xs:List Tx)(x:Tx)(fx:Bool)(hv:aH t=0)(hk:TbOk t)(hl:x.l.length≤1000000)(hr:runT t x.l=some u)(hx:xs.length≤1000000):
  aT Tryz.prog 14 [.ptr 0 0] [stF u fx (xs++[x]) .nilS] fun r H'=>r = .int .i64 0∧H'=[stF t true xs (.lst 1 false [aa x])]:=by
 refine eK ?_ (by simp) (by simp[rb]) (stQ_f t true xs (ud:=.lst 1 false [aa x]) (by simp) rfl).rb1;obtain⟨y,hy⟩:∃y,y=(xs++[x]).map aa:=⟨_,rfl⟩
 have hyl:y.length=xs.length+1:=by rw[hy];simp
 have hyx:∀h:xs.length<y.length,y[xs.length] = .lst 11 x.f (x.l.map (aE false false)):=fun h=>by subst hy;simp[aa]
 have hyt:y.take xs.length=xs.map aa:=by rw[hy];simp
 have p:=(stQ_f u fx (xs++[x]) (ud:=.nilS) (by simp) rfl);have c1:=revert_l t u x.l x.f (.lst 1 fx y) .nilS hv hk hl hr (by rw[hy];exact stQ_mk t p);obtain⟨n,hn⟩:∃n,n=xs.length:=⟨_,rfl⟩;rw[←hn]at hyl hx hyt
 have hyx':∀h:n<y.length,y[n] = .lst 11 x.f (x.l.map (aE false false)):=fun h=>by subst hn;exact hyx h
 obtain⟨ex,hex⟩:∃ex,ex=x.l.map (aE false false):=⟨_,rfl⟩;obtain⟨xt,hxt⟩:∃xt,xt=xs.map aa:=⟨_,rfl⟩;simp only[stF,stU,stB,←hy,aa,←hex,←hxt]at *;have wn:IntKind.i64.wrap (n:Int)=n:=wrap64 (by omega) (by omega)
 have hn1:¬((n:Int)+1=0):=by omega
 have hyx2:y[n]?=some (.lst 11 x.f ex):=by rw[kJ (by omega),hyx']
 refine aG (tkf 125) Tryz.func14 rfl rfl ?_;refine W_x (tkf 125) mixed ?_;simp -dsimp[Tryz.f14,aI,hyl,hyx',hyx2,wn,hn1,aZ];refine wcE c1 ?_;simp -dsimp[hyl,wn,hn1,aZ];refine aO (dG (tkf 125) mixed [20,23] [] [] (by kernel_rfl) fun C K hC hK=>?_);simp -implicitDefEqProofs [hyl,hyt,wn,hn1,aZ];refine hK _ _ ?_;simp -dsimp[aZ]
theorem same_ch(l:List Ch)(f g:Bool)(hl:l.length≤1000000)(hc:∀c∈l,ChOk c):aK Tryz.prog 40 [.lst 11 f (l.map (aE false false)),.lst 11 g (l.map (aE false false))] fun r=>r = .bool true:=by
 have hp:∀x∈l.map (aE false false),AM.Pure x:=fun x hx=>by obtain⟨c,_,rfl⟩:=List.mem_map.1 hx;simp
 have:=same59 (l.map (aE false false)) (l.map (aE false false)) l l f g (by simp) (by simp) hl hp hp (fun i h1 h2 h3 h4=>by
  have hi:i<l.length:=by simpa using h1
  refine⟨⟨_,_,by rw[List.getElem_map];rfl,by rw[List.getElem_map];rfl,rfl,rfl⟩,?_⟩;have:=equal59 l[i] l[i] false false false false (hc _ (kN hi));rw[List.getElem_map]
  exact this)
 rw[eqCs_self]at this;exact this
def txA(t:Tb)(l:List Ch):List Tx:=if l=[] then txC t else txC t++[⟨false,l⟩]
theorem txA_add(t:Tb)(l:List Ch):dz ((txC t).map aa) (l.map (aE false false))=(txA t l).map aa:=by
 unfold dz txA;by_cases h:l=[]
 ·subst h;rfl
 ·rw[if_neg h,if_neg (by simpa using h),lZ];rfl
theorem txA_jr(t:Tb)(l:List Ch):jrL (txA t l)=dV t::l:=by
 unfold txA;by_cases h:l=[]
 ·subst h;rfl
 ·rw[if_neg h];simp[jrL,txC]
theorem txA_len(t:Tb)(l:List Ch):(txA t l).length≤2:=by
 unfold txA txC;split<;>simp
structure LsOk (l:List Ch):Prop where
 len:l.length≤900000
 ok:∀c∈l,ChOk c∧ChL c
theorem txA_ok{t:Tb}{l:List Ch}(ht:TbL t)(h:LsOk l):∀x∈txA t l,∀c∈x.l,ChL c:=fun x hx c hc=>by
 have h0:∀x∈txC t,∀c∈x.l,ChL c:=fun x hx c hc=>by
  simp[txC]at hx;subst hx;simp at hc;subst hc;exact⟨ht,by simp[dV]⟩
 unfold txA at hx;split at hx
 ·exact h0 x hx c hc
 ·rcases List.mem_append.1 hx with q | q
  ·exact h0 x q c hc
  ·rw[List.mem_singleton.1 q]at hc;exact(h.ok c hc).2
theorem is_f{t u:Tb}{l:List Ch}(fx:Bool){ud L:V}(ht:TbL t)(hu:TbL u)(hz0:∀r∈t.rows,∀v∈r.vals,v.s.size≤maxLen)(hz:∀r∈u.rows,∀v∈r.vals,v.s.size≤maxLen)(h:LsOk l)(hud:AM.Pure ud)(hu1:ud.one=true)(hL:AM.Pure L)
  (hs:aK Tryz.prog 40 [.lst 11 false (l.map (aE false false)),L] fun r=>r = .bool true):aT Tryz.prog 12 [.ptr 0 0,aD false false t,aD false false u,L] [stF u fx (txA t l) ud] fun r H'=>r = .bool true∧H'=[stF u fx (txA t l) ud] :=
 is_l t u fx (txA t l) l false false false false false L ud false (txA_jr t l) (by have:=txA_len t l;omega) (by rw[txA_jr];have:=h.len;simp;omega) (txA_ok ht h) hu hz0 hz hL (stQ_f u fx _ hud hu1) hs
end
end Go.Proofs.YtpedcgdgjoblkaaGreatDoor
