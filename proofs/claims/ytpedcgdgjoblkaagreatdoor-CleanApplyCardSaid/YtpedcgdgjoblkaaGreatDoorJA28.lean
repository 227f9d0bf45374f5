/- JA28: own texts of this seat, joined and shortened by pack4.py: UL. -/
import Derived.Test.YtpedcgdgjoblkaaGreatDoorJA23
set_option linter.unusedVariables false
set_option linter.unusedSimpArgs false
set_option maxRecDepth 100000
set_option maxHeartbeats 64000000
open List renaming replicate→aI,mem_of_getElem?→kK,getElem_mem→kN,getElem?_set_ne→kP,not_mem_nil→kS,getElem?_set_self→kW,take_succ_eq_append_getElem→kY,mem_cons→kZ,take_length→km,getElem?_cons_succ→kp,append_assoc→kv,take_of_length_le→lE,take→mL
open Nat renaming le_refl→kM
namespace Go.Proofs.YtpedcgdgjoblkaaGreatDoor
section
open Go Go.AM
def g1(k:Nat)(_:Nat):Nat:=k
theorem lift1{P:Program}{f:FuncId}{args0 args:List V}{A0 B0 C0 D0:B}{r0:V}{H:List B}{k:Nat}(h:aT P f args0 [A0] fun r H'=>r=r0∧H'=[C0])
  (h0:H[k]?=some B0) (R0:RenB (g1 k) 1 A0 B0) (S0:RenB (g1 k) 1 C0 D0)
  (hal:args0.length=args.length) (ha:∀(i:Nat) a b,args0[i]?=some a→args[i]?=some b→Ren (g1 k) 1 a b) (hr:AM.Pure r0):aT P f args H fun r H'=>r=r0∧H'=H.set k D0:=by
 have hk:=aB h0;refine fN 1 1 (g1 k) h rfl rfl (kM _) (fun i j hi hj e=>by omega) (fun i hi=>hk) (fun i h1 h2=>absurd h1 (by omega)) (fun i b hb=>?_) (fun i b hb=>?_) (by simp) (fun j hj hno=>?_) hal ha hr
 ·match i with
  | 0=>simp at hb;subst hb;exact⟨_,h0,R0⟩
  | i+1=>simp at hb
 ·match i with
  | 0=>simp at hb;subst hb;exact⟨D0,by show(H.set k D0)[k]?=_;rw[kW hk],S0⟩
  | i+1=>simp at hb
 ·have n0:k≠j:=hno 0 (by omega);rw[kP n0]
structure StQ (db dn ud:V):Prop where
 ydb:AM.Pure db
 ydn:AM.Pure dn
 yud:AM.Pure ud
 odb:db.one=true
 odn:dn.one=true
 oud:ud.one=true
theorem StQ.rbn{db dn ud:V}(h:StQ db dn ud){o:Bool}(n:Nat):rbB n (stB db dn ud o .nilS):=fun c hc=>by
 simp only[kZ,kS,or_false]at hc
 rcases hc with rfl | rfl | rfl | rfl | rfl
 ·exact bW h.ydb h.odb
 ·exact bW h.ydn h.odn
 ·exact bW h.yud h.oud
 ·simp[rb,rb1]
 ·simp[rb,rb1]
theorem StQ.rb1{db dn ud:V}(h:StQ db dn ud){o:Bool}{n:Nat} : ∀bl∈[stB db dn ud o .nilS],rbB n bl:=fun bl hbl=>by
 rw[List.mem_singleton.1 hbl];exact h.rbn n
theorem liftL{P:Program}{f:FuncId}{ar:List V}{db dn ud db' dn' ud' r0:V}{o o':Bool}{H:List B}{k:Nat}
  (h:aT P f (.ptr 0 0::ar) [stB db dn ud o .nilS] fun r H'=>r=r0∧H'=[stB db' dn' ud' o' .nilS])
  (p:StQ db dn ud) (p':StQ db' dn' ud') (has:∀a∈ar,AM.Pure a) (hr:AM.Pure r0) (h0:H[k]?=some (stB db dn ud o .nilS)):
  aT P f (.ptr k 0::ar) H fun r H'=>r=r0∧H'=H.set k (stB db' dn' ud' o' .nilS):=by
 refine lift1 h h0 (ij p.ydb p.ydn p.yud (by simp) p.odb p.odn p.oud rfl) (ij p'.ydb p'.ydn p'.yud (by simp) p'.odb p'.odn p'.oud rfl) rfl (fun i a b ha hb=>?_) hr
 cases i with
 | zero =>
  simp at ha hb;subst ha;subst hb;exact .ptr 0 0 (by omega)
 | succ i =>
  simp only[kp]at ha hb;rw[ha]at hb;cases hb;exact .pure _ (has _ (kK ha))
theorem liftL0{P:Program}{f:FuncId}{ar:List V}{db dn ud r0:V}{o:Bool}{H:List B}{k:Nat}
  (h:aT P f (.ptr 0 0::ar) [stB db dn ud o .nilS] fun r H'=>r=r0∧H'=[stB db dn ud o .nilS])
  (p:StQ db dn ud) (has:∀a∈ar,AM.Pure a) (hr:AM.Pure r0) (h0:H[k]?=some (stB db dn ud o .nilS)):
  aT P f (.ptr k 0::ar) H fun r H'=>r=r0∧H'=H :=
 (liftL h p p has hr h0).mono fun r H' ⟨e1,e2⟩=>⟨e1,by rw[e2,gm h0]⟩
theorem db_l(ts:List Tb)(g:Bool)(dn ud:V)(o:Bool)(hl:ts.length≤1000000)(ht:∀t∈ts,TbL t)(p:StQ (LTb g ts) dn ud):
  aT Tryz.prog 37 [.ptr 0 0] [stB (LTb g ts) dn ud o .nilS] fun r H'=>r = .agg [LTb false ts]∧H'=[stB (LTb g ts) dn ud o .nilS]:=by
 refine eK ?_ (by simp) (by simp[LTb]) p.rb1;obtain⟨S,hS⟩:∃S,S=stB (LTb g ts) dn ud o .nilS:=⟨_,rfl⟩;have hSe:S=B.cells [.lst 3 g (ts.map (aD false false)),dn,ud,.bool o,.nilS]:=hS
 have hrbS:∀n,rbB n S:=fun n=>by rw[hS];exact p.rbn n
 rw[←hS];refine aG tok Tryz.func37 rfl rfl ?_;refine wx ?_;simp -dsimp[Tryz.f37,aI,hSe];refine aO (cO 29 3 [] 2 [0] rfl (bu _ _) (by simp) (W_loopM 24 0xfff020 (by simp[mB]<;>rfl) (σ:=Nat) (fun i=>i≤ts.length) (fun i=>ts.length-i) (fun i=>[(12,.int .i64 i)]) (fun i=>[S,B.cells [.nilS],B.cells [.buf 3 0 i i],B.buf 29 3 ((ts.take i).map (aD false false)) false]) 0 (by omega) (by simp) (by simp[hSe]) (by simp) ?_));intro i hi N Q hN hQ
 have hli:(ts.take i).length=i:=by simp;omega
 by_cases hb:i<ts.length
 ·have hst:ts.take (i+1)=ts.take i++[ts[i]]:=kY hb;have hh:=ht _ (kN hb);obtain⟨t,hte⟩:∃t,t=ts[i]:=⟨_,rfl⟩;rw[←hte]at hst hh;have hc:=dY t false false hh.a hh.r hh.v;simp only[aD,LS,LR]at hc;obtain⟨l,hl2⟩:∃l,l=ts.take i:=⟨_,rfl⟩;rw[←hl2]at hst hli ⊢;refine wx ?_;simp -dsimp[hb,hte.symm,aD,LS,LR];refine aO (aS tok mixed [5,7] [] [(aD false false t,[])] (by kernel_rfl) fun C K hC hK=>?_);simp -implicitDefEqProofs [hb,aD,LS,LR,hli,cap64c i (by omega)];refine⟨hC _ _ _ _ (aP hc (by simp)),hK _ _ ?_⟩;simp -dsimp[aX i (by omega)];refine hN (i+1) _ _ (by omega) (by omega) (by simp) ⟨[B.cells [.str t.name,.lst 1 false (t.attrs.map V.str),.lst 2 false (t.rows.map aC)]],by simp[hst,aD,LS,LR]⟩ (by simp) ?_;intro bl hbl;simp only[kZ,kS,or_false]at hbl
  rcases hbl with rfl | rfl | rfl | rfl
  ·exact hrbS _
  ·simp
  ·simp
  ·exact tbs_rb _ _ _ _
 ·obtain rfl:i=ts.length:=by omega
  rw[km];refine fm 3 [] 2 [0] rfl rfl (by simp) (by simp) ?_;refine wx ?_;simp -dsimp[hb];refine hQ _ _ _ ?_;simp -dsimp[];rfl
theorem journal_l(db:V)(fx:Bool)(xs:List Tx)(ud:V)(o:Bool)(hx:xs.length≤1000000)(hl:(jrL xs).length≤1000000)(hc:∀x∈xs,∀c∈x.l,ChL c)(p:StQ db (.lst 1 fx (xs.map aa)) ud):
  aT Tryz.prog 38 [.ptr 0 0] [stB db (.lst 1 fx (xs.map aa)) ud o .nilS] fun r H'=>r = .lst 11 false ((jrL xs).map (aE false false))∧H'=[stB db (.lst 1 fx (xs.map aa)) ud o .nilS]:=by
 refine eK ?_ (by simp) (by simp) p.rb1;obtain⟨S,hS⟩:∃S,S=stB db (.lst 1 fx (xs.map aa)) ud o .nilS:=⟨_,rfl⟩;have hSe:S=B.cells [db,.lst 1 fx (xs.map aa),ud,.bool o,.nilS]:=hS;rw[←hS]
 have hrbS:∀n,rbB n S:=fun n=>by rw[hS];exact p.rbn n
 have hrb:∀(l:List Ch),∀bl∈[S,B.buf 45 11 (l.map (aE false false)) false],rbB 2 bl:=fun l bl hbl=>by
  simp only[kZ,kS,or_false]at hbl
  rcases hbl with rfl | rfl
  ·exact hrbS _
  ·exact chs_rb _ _ _ _
 refine aG tok Tryz.func38 rfl rfl ?_;refine wx ?_;simp -dsimp[Tryz.f38,aI,hSe];refine aO (W_own 45 11 [3] (by simp) (W_loopM 37 0x1fffffe0a8 (by simp[mB]<;>rfl) (σ:=Nat) (fun i=>i≤xs.length) (fun i=>xs.length-i) (fun i=>[(13,.int .i64 i),(3,.buf 1 0 (jrL (xs.take i)).length (jrL (xs.take i)).length)]) (fun i=>[S,B.buf 45 11 ((jrL (xs.take i)).map (aE false false)) false]) 0 (by omega) (by simp[jrL]) (by simp[jrL,hSe]) (by simp) ?_));intro i hi N Q hN hQ;by_cases hb:i<xs.length
 ·have hst:=jr_take hb;have hln:=jr_len2 hb;have hxc:=hc _ (kN hb);obtain⟨x,hxe⟩:∃x,x=xs[i]:=⟨_,rfl⟩;rw[←hxe]at hst hln hxc;obtain⟨l,hle⟩:∃l,l=jrL (xs.take i):=⟨_,rfl⟩;rw[←hle]at hst hln ⊢;obtain⟨y,hye⟩:∃y,y=x.l:=⟨_,rfl⟩;rw[←hye]at hst hln hxc;have hye':=hye.symm;refine wx ?_;simp -dsimp[hb,hxe.symm,aa,hye'];refine aO (W_loopM 36 0xffff80088 (by simp[mB]<;>rfl) (σ:=Nat) (fun j=>j≤y.length) (fun j=>y.length-j) (fun j=>[(19,.int .i64 j),(3,.buf 1 0 (l++y.take j).length (l++y.take j).length)]) (fun j=>[S,B.buf 45 11 ((l++y.take j).map (aE false false)) false]) 0 (by omega) (by simp) (by simp) (by simp) ?_);intro j hj N2 Q2 hN2 hQ2
  have hyl:(l++y.take j).length=l.length+j:=by simp;omega
  by_cases hb2:j<y.length
  ·have hs2:l++y.take (j+1)=(l++y.take j)++[y[j]]:=by rw[kY hb2,kv]
   have hcc:=hxc _ (kN hb2);obtain⟨c,hce⟩:∃c,c=y[j]:=⟨_,rfl⟩;rw[←hce]at hs2 hcc;obtain⟨z,hz⟩:∃z,z=l++y.take j:=⟨_,rfl⟩;rw[←hz]at hs2 hyl ⊢;have c1:=dY c.tb false false hcc.t.a hcc.t.r hcc.t.v;have c2:=row_s c.row hcc.v;simp only[aD,LS,LR,aC,LV]at c1 c2;refine wx ?_;simp -dsimp[hb2,hce.symm,aE,chC];refine aO (aS tok mixed [7,9] [] [(.agg [.str c.tb.name,.lst 1 false (c.tb.attrs.map V.str),.lst 2 false (c.tb.rows.map aC)],[]),(.agg [.int .i64 c.row.id,.lst 3 false (c.row.vals.map aJ)],[])] (by kernel_rfl) fun C K hC hK=>?_);simp -implicitDefEqProofs [];refine⟨⟨hC _ _ _ _ (aP c1 (by simp)),hC _ _ _ _ (aP c2 (by simp))⟩,hK _ _ ?_⟩;simp -dsimp[hyl,kD (l.length+j) (by omega),aX j (by omega)];refine hN2 (j+1) _ _ (by omega) (by omega) (by simp[hs2,hyl]) ⟨[B.cells (chC false false c)],by simp[hs2,aE,chC]⟩ (by simp) (hrb _)
  ·obtain rfl:j=y.length:=by omega
   rw[km];refine wx ?_;simp -dsimp[hb2];refine hQ2 _ _ _ ?_;simp -dsimp[aX i (by omega)];refine hN (i+1) _ _ (by omega) (by omega) (by simp[hst]) ⟨[],by simp[hst]⟩ (by simp) (hrb _)
 ·obtain rfl:i=xs.length:=by omega
  rw[km];refine W_frz 1 [3] rfl (by simp) ?_;refine wx ?_;simp -dsimp[hb];refine hQ _ _ _ ?_;simp -dsimp[]
theorem is_l(t0 u:Tb)(fx:Bool)(xs:List Tx)(js:List Ch)(f1 g1 f2 g2 gg:Bool)(L ud:V)(o:Bool)(hj:jrL xs=dV t0::js)(hx:xs.length≤1000000)(hl:(jrL xs).length≤1000000)(hc:∀x∈xs,∀c∈x.l,ChL c)(hu:TbL u)
  (hz0:∀r∈t0.rows,∀v∈r.vals,v.s.size≤maxLen) (hz:∀r∈u.rows,∀v∈r.vals,v.s.size≤maxLen) (hL:AM.Pure L) (p:StQ (LTb gg [u]) (.lst 1 fx (xs.map aa)) ud)
  (hs:aK Tryz.prog 40 [.lst 11 false (js.map (aE false false)),L] fun r=>r = .bool true):
  aT Tryz.prog 12 [.ptr 0 0,aD f1 g1 t0,aD f2 g2 u,L] [stB (LTb gg [u]) (.lst 1 fx (xs.map aa)) ud o .nilS] fun r H'=>r = .bool true∧H'=[stB (LTb gg [u]) (.lst 1 fx (xs.map aa)) ud o .nilS]:=by
 refine eK ?_ (by simp) (by simp) p.rb1
 have h0:TbL t0:=by
  have hm:dV t0∈jrL xs:=by rw[hj];simp
  obtain⟨x,hx1,hx2⟩:=List.mem_flatMap.1 hm;exact(hc x hx1 _ hx2).t
 have c1:=db_l [u] gg (.lst 1 fx (xs.map aa)) ud o (by simp) (fun t ht=>by simp at ht;subst ht;exact hu) p;have c2:=journal_l (LTb gg [u]) fx xs ud o hx hl hc p;have c3:=gT u u false false f2 g2 hu.a hu.r (fun r hr=>⟨hu.v r hr,hz r hr⟩);have c4:=gT t0 t0 false false f1 g1 h0.a h0.r (fun r hr=>⟨h0.v r hr,hz0 r hr⟩);rw[hU]at c3 c4;rw[hj]at c2
 have d1:=fun G0 G1=>liftL0 (H:=[stB (LTb gg [u]) (.lst 1 fx (xs.map aa)) ud o .nilS,G0,G1]) (k:=0) c1 p (by simp) (by simp[LTb]) rfl
 have d2:=fun G0 G1 G2=>liftL0 (H:=[stB (LTb gg [u]) (.lst 1 fx (xs.map aa)) ud o .nilS,G0,G1,G2]) (k:=0) c2 p (by simp) (by simp) rfl
 obtain⟨S,hS⟩:∃S,S=stB (LTb gg [u]) (.lst 1 fx (xs.map aa)) ud o .nilS:=⟨_,rfl⟩;simp only[←hS]at d1 d2 ⊢;simp only[aD,LS,LR]at c3 c4;refine aG tok Tryz.func12 rfl rfl ?_;refine wx ?_;simp -dsimp[Tryz.f12,aI,aD,LS,LR];refine wcm (d1 _ _) ?_;rintro r H' ⟨rfl,rfl⟩;simp -dsimp[LTb,aD,LS,LR];refine wcm (d2 _ _ _) ?_;rintro r H' ⟨rfl,rfl⟩;simp -dsimp[LTb,aD,LS,LR];refine .inr ⟨aR (by kernel_rfl),?_⟩;refine av _ (aP (c3) (by simp)) ?_;simp -dsimp[aE,chC,dV];refine av _ (aP (c4) (by simp)) ?_;simp -dsimp[aE,chC,dV];rw[show mL js.length (js.map (aE false false))=js.map (aE false false) from lE (by simp)];refine av _ (aP hs (by simp;exact hL)) ?_;simp -dsimp[]
end
end Go.Proofs.YtpedcgdgjoblkaaGreatDoor
