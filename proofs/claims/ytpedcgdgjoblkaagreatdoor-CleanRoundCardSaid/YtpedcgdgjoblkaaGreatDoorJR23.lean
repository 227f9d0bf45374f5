/- JR23: own texts of this seat, joined and shortened by pack4.py: FT, UL. -/
import Derived.Test.YtpedcgdgjoblkaaGreatDoorJR21
set_option linter.unusedVariables false
set_option linter.unusedSimpArgs false
set_option maxRecDepth 100000
set_option maxHeartbeats 64000000
open List renaming replicate→aJ,mem_of_getElem?→kW,getElem_mem→kZ,getElem?_set_ne→kb,not_mem_nil→kf,mem_cons→kh,drop_eq_getElem_cons→km,take_succ_eq_append_getElem→kn,getElem?_set_self→ko,take_length→ku,append_assoc→kz,getElem?_cons_succ→lR,take_of_length_le→lV,take→mj
open Nat renaming le_refl→kY
namespace Go.Proofs.YtpedcgdgjoblkaaGreatDoor
section
open Go Go.AM
theorem eqSt_ne{a b:ByteArray}(h:¬a=b):(a.toList == b.toList)=false:=by
 rw[Bool.eq_false_iff];exact fun e=>h (eqSt_eq e)
theorem tbOk_step{t u:Tb}{c:Ch}(hv:aF t=0)(hk:TbOk t)(hs:af t c=some u):aF u=0∧TbOk u:=by
 obtain⟨h1,h2,h3⟩:=dL hv hs;have:=bn h1;exact⟨h1,by rw[h2];exact hk.name,by rw[h3];exact hk.attrs,by omega,by rw[h3];exact hk.strs⟩
structure FTsS where
 i:Nat
 u:Tb
 f:Bool
 g:Bool
theorem fits_u(t:Tb)(f g h:Bool)(l:List Ch)(hv:aF t=0)(hk:TbOk t)(hl:l.length≤1000000)(hc:∀c∈l,c.row.vals.length≤1000000):aL Tryz.prog 29 [aD f g t,.lst 11 h (l.map (aG false false))] fun r=>r = .bool (runT t l).isSome:=by
 obtain⟨E,hE⟩:∃E,E=(runT t l).isSome:=⟨_,rfl⟩;rw[←hE];refine sPx Tryz.func29 rfl rfl ?_;simp -dsimp[Tryz.f29,aJ,aD,LS,LR];refine aO (W_loopM 86 0x3ffffffffffffffffff3d0 (by simp[mB]<;>rfl) (σ:=FTsS) (fun p=>p.i≤l.length∧aF p.u=0∧TbOk p.u∧(runT p.u (l.drop p.i)).isSome=E) (fun p=>l.length-p.i) (fun p=>[(12,.int .i64 p.i)]) (fun p=>[B.cells [.str p.u.name,.lst 1 p.f (p.u.attrs.map V.str),.lst 2 p.g (p.u.rows.map aC)]]) ⟨0,t,f,g⟩ ⟨by simp,hv,hk,by simpa using hE.symm⟩ (by simp) rfl (by simp) ?_);rintro⟨i,u,f',g'⟩ ⟨hi,hvu,hku,hx⟩ N Q hN hQ;simp only at hi hvu hku hx;by_cases hb:i<l.length
 ·rw[km hb]at hx;have hcl:=hc _ (kZ hb);obtain⟨c,hce⟩:∃c,c=l[i]:=⟨_,rfl⟩;rw[←hce]at hx hcl;have hce':=hce.symm
  have hne:af u c=none→E=false:=fun e=>by
   simp only[runT,e]at hx;exact hx.symm
  have hgo:∀w,af u c=some w→(runT w (l.drop (i+1))).isSome=E∧aF w=0∧TbOk w:=fun w e=>by
   simp only[runT,e]at hx;exact⟨hx,tbOk_step hvu hku e⟩
  obtain⟨k,nm,tb,row,a,v⟩:=c;simp only at hcl;unfold af at hne hgo;simp only at hne hgo;by_cases hn:nm=u.name
  case neg =>
   have hn':=eqSt_ne hn;rw[if_neg hn]at hne;have e0:=hne rfl;subst e0;refine wx ?_;simp -dsimp[hb,hce',aG,chC,hn'];refine hQ _ _ _ ?_;simp -dsimp[]
  simp only[if_pos hn]at hne hgo;subst hn;by_cases h2:k=2
  ·simp only[if_pos h2]at hne hgo;subst h2;have ci:=insert_u u f' g' row hvu hku hcl;by_cases he:bF u row=0
   ·rw[insV_ok he]at ci;obtain⟨hx2,hw1,hw2⟩:=hgo _ (if_pos he);obtain⟨D,hD⟩:∃D,D=dk u.rows row:=⟨_,rfl⟩;rw[←hD]at ci hx2 hw1 hw2;simp only[aD,LS,LR,aC,LV,wrT]at ci;refine wx ?_;simp -dsimp[hb,hce',aG,chC];refine cPx (ci) (by simp) ?_;simp -dsimp[aT i (by omega)];refine hN ⟨i+1,wrT u D,false,false⟩ _ _ ⟨by simp only;omega,hw1,hw2,hx2⟩ (by simp only;omega) (by simp) ⟨_,rfl⟩ (by simp) (by simp)
   ·rw[dj (e:=bF u row) rfl he]at ci;have e0:=hne (if_neg he);subst e0;simp only[aD,LS,LR,aC,LV]at ci;refine wx ?_;simp -dsimp[hb,hce',aG,chC];refine cPx (ci) (by simp) ?_;simp -dsimp[zTb,he];refine hQ _ _ _ ?_;simp -dsimp[]
  ·simp only[if_neg h2]at hne hgo;have hr:=bn hvu;have hvr:=am hvu;have cf:=dS u f' g' row.id (by omega);simp only[aD,LS,LR]at cf;by_cases hin:inT u row.id=true
   case neg =>
    have hf:(fnd u.rows row.id 0).2=false:=by simpa[inT] using hin
    rw[hf]at cf
    have hri:¬cD u row=true:=by unfold cD;simp[hin]
    have e0:=hne (if_neg hri);subst e0;refine wx ?_;simp -dsimp[hb,hce',aG,chC,h2];refine cPx (cf) (by simp) ?_;simp -dsimp[];refine .inr ⟨aU (by kernel_rfl),?_⟩;refine hQ _ _ _ ?_;simp -dsimp[]
   have hin':(fnd u.rows row.id 0).2=true:=hin;have hkl:=fB 0 hin';rw[hin']at cf;have hat:atT u row.id=rwG u.rows (fnd u.rows row.id 0).1:=rfl;obtain⟨kk,hke⟩:∃kk,kk=(fnd u.rows row.id 0).1:=⟨_,rfl⟩;simp only[←hke]at cf hkl hat;rw[cK hkl]at hat
   have hrv:u.rows[kk].vals.length≤1000000:=by
    have:=(hvr _ (kZ hkl)).2.1;have:=hku.attrs;omega
   have c3:=jL u.rows[kk].vals row.vals false false hrv;obtain⟨rk,hrk⟩:∃rk,rk=u.rows[kk]:=⟨_,rfl⟩;rw[←hrk]at hat c3;simp only[LV]at c3;by_cases hvals:rk.vals=row.vals
   case neg =>
    rw[decide_eq_false hvals]at c3
    have hri:¬cD u row=true:=by unfold cD;rw[hat];simp[hvals]
    have e0:=hne (if_neg hri);subst e0;refine wx ?_;simp -dsimp[hb,hce',aG,chC,h2];refine cPx (cf) (by simp) ?_;simp -dsimp[hkl,hrk.symm,aC,LV];refine .inr ⟨aU (by kernel_rfl),?_⟩;refine bD _ (aQ (c3) (by simp)) ?_;simp -dsimp[];refine hQ _ _ _ ?_;simp -dsimp[]
   have hri:cD u row=true:=by unfold cD;rw[hat];simp[hin,hvals]
   simp only[if_pos hri]at hne hgo;rw[decide_eq_true hvals]at c3;by_cases h3:k=3
   ·simp only[if_pos h3]at hne hgo;subst h3;have ci:=delete_u u f' g' row.id hvu hku;unfold delV at ci;rw[if_pos hin]at ci;obtain⟨hx2,hw1,hw2⟩:=hgo _ rfl;obtain⟨D,hD⟩:∃D,D=cX u.rows row.id:=⟨_,rfl⟩;rw[←hD]at ci hx2 hw1 hw2;simp only[aD,LS,LR,wrT]at ci;refine wx ?_;simp -dsimp[hb,hce',aG,chC];refine cPx (cf) (by simp) ?_;simp -dsimp[hkl,hrk.symm,aC,LV];refine .inr ⟨aU (by kernel_rfl),?_⟩;refine bD _ (aQ (c3) (by simp)) ?_;simp -dsimp[];refine cPx (ci) (by simp) ?_;simp -dsimp[aT i (by omega)];refine hN ⟨i+1,wrT u D,false,false⟩ _ _ ⟨by simp only;omega,hw1,hw2,hx2⟩ (by simp only;omega) (by simp) ⟨_,rfl⟩ (by simp) (by simp)
   ·simp only[if_neg h3]at hne hgo;by_cases h4:k=4
    ·simp only[if_pos h4]at hne hgo;subst h4;have ci:=change_u u f' g' row.id a v hvu hku;unfold kK at ci;by_cases hcc:0≤a∧a<u.attrs.length∧aY v=true
     ·obtain⟨hx2,hw1,hw2⟩:=hgo _ (if_pos hcc);rw[chgV_ok hin (by omega) (by omega) hcc.2.2,if_pos rfl]at ci;obtain⟨D,hD⟩:∃D,D=eR u.rows row.id a.toNat v:=⟨_,rfl⟩;rw[←hD]at ci hx2 hw1 hw2;simp only[aD,LS,LR,wrT,aH]at ci;refine wx ?_;simp -dsimp[hb,hce',aG,chC];refine cPx (cf) (by simp) ?_;simp -dsimp[hkl,hrk.symm,aC,LV];refine .inr ⟨aU (by kernel_rfl),?_⟩;refine bD _ (aQ (c3) (by simp)) ?_;simp -dsimp[];refine cPx (ci) (by simp) ?_;simp -dsimp[aT i (by omega)];refine hN ⟨i+1,wrT u D,false,false⟩ _ _ ⟨by simp only;omega,hw1,hw2,hx2⟩ (by simp only;omega) (by simp) ⟨_,rfl⟩ (by simp) (by simp)
     ·have e0:=hne (if_neg hcc);subst e0
      have hee:¬kL u row.id a v=0:=by
       unfold kL;rw[if_pos hin];intro hq;split at hq
       ·cases hq
       ·split at hq
        ·exact hcc ⟨by omega,by omega,by assumption⟩
        ·cases hq
      rw[if_neg hee]at ci;simp only[aD,LS,LR,zTb,aH]at ci;refine wx ?_;simp -dsimp[hb,hce',aG,chC];refine cPx (cf) (by simp) ?_;simp -dsimp[hkl,hrk.symm,aC,LV];refine .inr ⟨aU (by kernel_rfl),?_⟩;refine bD _ (aQ (c3) (by simp)) ?_;simp -dsimp[];refine cPx (ci) (by simp) ?_;simp -dsimp[hee];refine hQ _ _ _ ?_;simp -dsimp[]
    ·have e0:=hne (if_neg h4);subst e0;refine wx ?_;simp -dsimp[hb,hce',aG,chC,h2];refine cPx (cf) (by simp) ?_;simp -dsimp[hkl,hrk.symm,aC,LV];refine .inr ⟨aU (by kernel_rfl),?_⟩;refine bD _ (aQ (c3) (by simp)) ?_;simp -dsimp[h2,h3,h4];refine hQ _ _ _ ?_;simp -dsimp[]
 ·obtain rfl:i=l.length:=by omega
  rw[List.drop_length]at hx;have e0:E=true:=hx.symm;subst e0;refine wx ?_;simp -dsimp[hb];refine hQ _ _ _ ?_;simp -dsimp[]
def g1(k:Nat)(_:Nat):Nat:=k
theorem lift1{P:Program}{f:FuncId}{args0 args:List V}{A0 B0 C0 D0:B}{r0:V}{H:List B}{k:Nat}(h:aR P f args0 [A0] fun r H'=>r=r0∧H'=[C0])
  (h0:H[k]?=some B0) (R0:RenB (g1 k) 1 A0 B0) (S0:RenB (g1 k) 1 C0 D0)
  (hal:args0.length=args.length) (ha:∀(i:Nat) a b,args0[i]?=some a→args[i]?=some b→Ren (g1 k) 1 a b) (hr:AM.Pure r0):aR P f args H fun r H'=>r=r0∧H'=H.set k D0:=by
 have hk:=aB h0;refine fV 1 1 (g1 k) h rfl rfl (kY _) (fun i j hi hj e=>by omega) (fun i hi=>hk) (fun i h1 h2=>absurd h1 (by omega)) (fun i b hb=>?_) (fun i b hb=>?_) (by simp) (fun j hj hno=>?_) hal ha hr
 ·match i with
  | 0=>simp at hb;subst hb;exact⟨_,h0,R0⟩
  | i+1=>simp at hb
 ·match i with
  | 0=>simp at hb;subst hb;exact⟨D0,by show(H.set k D0)[k]?=_;rw[ko hk],S0⟩
  | i+1=>simp at hb
 ·have n0:k≠j:=hno 0 (by omega);rw[kb n0]
structure StQ (db dn ud:V):Prop where
 ydb:AM.Pure db
 ydn:AM.Pure dn
 yud:AM.Pure ud
 odb:db.one=true
 odn:dn.one=true
 oud:ud.one=true
theorem StQ.rbn{db dn ud:V}(h:StQ db dn ud){o:Bool}(n:Nat):rbB n (stB db dn ud o .nilS):=fun c hc=>by
 simp only[kh,kf,or_false]at hc
 rcases hc with rfl | rfl | rfl | rfl | rfl
 ·exact bS h.ydb h.odb
 ·exact bS h.ydn h.odn
 ·exact bS h.yud h.oud
 ·simp[rb,rb1]
 ·simp[rb,rb1]
theorem StQ.rb1{db dn ud:V}(h:StQ db dn ud){o:Bool}{n:Nat} : ∀bl∈[stB db dn ud o .nilS],rbB n bl:=fun bl hbl=>by
 rw[List.mem_singleton.1 hbl];exact h.rbn n
theorem liftL{P:Program}{f:FuncId}{ar:List V}{db dn ud db' dn' ud' r0:V}{o o':Bool}{H:List B}{k:Nat}
  (h:aR P f (.ptr 0 0::ar) [stB db dn ud o .nilS] fun r H'=>r=r0∧H'=[stB db' dn' ud' o' .nilS])
  (p:StQ db dn ud) (p':StQ db' dn' ud') (has:∀a∈ar,AM.Pure a) (hr:AM.Pure r0) (h0:H[k]?=some (stB db dn ud o .nilS)):
  aR P f (.ptr k 0::ar) H fun r H'=>r=r0∧H'=H.set k (stB db' dn' ud' o' .nilS):=by
 refine lift1 h h0 (ir p.ydb p.ydn p.yud (by simp) p.odb p.odn p.oud rfl) (ir p'.ydb p'.ydn p'.yud (by simp) p'.odb p'.odn p'.oud rfl) rfl (fun i a b ha hb=>?_) hr
 cases i with
 | zero =>
  simp at ha hb;subst ha;subst hb;exact .ptr 0 0 (by omega)
 | succ i =>
  simp only[lR]at ha hb;rw[ha]at hb;cases hb;exact .pure _ (has _ (kW ha))
theorem jg{P:Program}{f:FuncId}{ar:List V}{db dn ud r0:V}{o:Bool}{H:List B}{k:Nat}
  (h:aR P f (.ptr 0 0::ar) [stB db dn ud o .nilS] fun r H'=>r=r0∧H'=[stB db dn ud o .nilS])
  (p:StQ db dn ud) (has:∀a∈ar,AM.Pure a) (hr:AM.Pure r0) (h0:H[k]?=some (stB db dn ud o .nilS)):
  aR P f (.ptr k 0::ar) H fun r H'=>r=r0∧H'=H :=
 (liftL h p p has hr h0).mono fun r H' ⟨e1,e2⟩=>⟨e1,by rw[e2,hU h0]⟩
theorem db_l(ts:List Tb)(g:Bool)(dn ud:V)(o:Bool)(hl:ts.length≤1000000)(ht:∀t∈ts,TbL t)(p:StQ (LTb g ts) dn ud):
  aR Tryz.prog 37 [.ptr 0 0] [stB (LTb g ts) dn ud o .nilS] fun r H'=>r = .agg [LTb false ts]∧H'=[stB (LTb g ts) dn ud o .nilS]:=by
 refine fZ ?_ (by simp) (by simp[LTb]) p.rb1;obtain⟨S,hS⟩:∃S,S=stB (LTb g ts) dn ud o .nilS:=⟨_,rfl⟩;have hSe:S=B.cells [.lst 3 g (ts.map (aD false false)),dn,ud,.bool o,.nilS]:=hS
 have hrbS:∀n,rbB n S:=fun n=>by rw[hS];exact p.rbn n
 rw[←hS];refine aI tok Tryz.func37 rfl rfl ?_;refine wx ?_;simp -dsimp[Tryz.f37,aJ,hSe];refine aO (dW 29 3 [] 2 [0] rfl (cQ _ _) (by simp) (W_loopM 24 0xfff020 (by simp[mB]<;>rfl) (σ:=Nat) (fun i=>i≤ts.length) (fun i=>ts.length-i) (fun i=>[(12,.int .i64 i)]) (fun i=>[S,B.cells [.nilS],B.cells [.buf 3 0 i i],B.buf 29 3 ((ts.take i).map (aD false false)) false]) 0 (by omega) (by simp) (by simp[hSe]) (by simp) ?_));intro i hi N Q hN hQ
 have hli:(ts.take i).length=i:=by simp;omega
 by_cases hb:i<ts.length
 ·have hst:ts.take (i+1)=ts.take i++[ts[i]]:=kn hb;have hh:=ht _ (kZ hb);obtain⟨t,hte⟩:∃t,t=ts[i]:=⟨_,rfl⟩;rw[←hte]at hst hh;have hc:=fE t false false hh.a hh.r hh.v;simp only[aD,LS,LR]at hc;obtain⟨l,hl2⟩:∃l,l=ts.take i:=⟨_,rfl⟩;rw[←hl2]at hst hli ⊢;refine wx ?_;simp -dsimp[hb,hte.symm,aD,LS,LR];refine aO (aX tok mixed [5,7] [] [(aD false false t,[])] (by kernel_rfl) fun C K hC hK=>?_);simp -implicitDefEqProofs [hb,aD,LS,LR,hli,cap64c i (by omega)];refine⟨hC _ _ _ _ (aQ hc (by simp)),hK _ _ ?_⟩;simp -dsimp[aT i (by omega)];refine hN (i+1) _ _ (by omega) (by omega) (by simp) ⟨[B.cells [.str t.name,.lst 1 false (t.attrs.map V.str),.lst 2 false (t.rows.map aC)]],by simp[hst,aD,LS,LR]⟩ (by simp) ?_;intro bl hbl;simp only[kh,kf,or_false]at hbl
  rcases hbl with rfl | rfl | rfl | rfl
  ·exact hrbS _
  ·simp
  ·simp
  ·exact tbs_rb _ _ _ _
 ·obtain rfl:i=ts.length:=by omega
  rw[ku];refine gD 3 [] 2 [0] rfl rfl (by simp) (by simp) ?_;refine wx ?_;simp -dsimp[hb];refine hQ _ _ _ ?_;simp -dsimp[];rfl
theorem journal_l(db:V)(fx:Bool)(xs:List Tx)(ud:V)(o:Bool)(hx:xs.length≤1000000)(hl:(jrL xs).length≤1000000)(hc:∀x∈xs,∀c∈x.l,ChL c)(p:StQ db (.lst 1 fx (xs.map aj)) ud):
  aR Tryz.prog 38 [.ptr 0 0] [stB db (.lst 1 fx (xs.map aj)) ud o .nilS] fun r H'=>r = .lst 11 false ((jrL xs).map (aG false false))∧H'=[stB db (.lst 1 fx (xs.map aj)) ud o .nilS]:=by
 refine fZ ?_ (by simp) (by simp) p.rb1;obtain⟨S,hS⟩:∃S,S=stB db (.lst 1 fx (xs.map aj)) ud o .nilS:=⟨_,rfl⟩;have hSe:S=B.cells [db,.lst 1 fx (xs.map aj),ud,.bool o,.nilS]:=hS;rw[←hS]
 have hrbS:∀n,rbB n S:=fun n=>by rw[hS];exact p.rbn n
 have hrb:∀(l:List Ch),∀bl∈[S,B.buf 45 11 (l.map (aG false false)) false],rbB 2 bl:=fun l bl hbl=>by
  simp only[kh,kf,or_false]at hbl
  rcases hbl with rfl | rfl
  ·exact hrbS _
  ·exact chs_rb _ _ _ _
 refine aI tok Tryz.func38 rfl rfl ?_;refine wx ?_;simp -dsimp[Tryz.f38,aJ,hSe];refine aO (W_own 45 11 [3] (by simp) (W_loopM 37 0x1fffffe0a8 (by simp[mB]<;>rfl) (σ:=Nat) (fun i=>i≤xs.length) (fun i=>xs.length-i) (fun i=>[(13,.int .i64 i),(3,.buf 1 0 (jrL (xs.take i)).length (jrL (xs.take i)).length)]) (fun i=>[S,B.buf 45 11 ((jrL (xs.take i)).map (aG false false)) false]) 0 (by omega) (by simp[jrL]) (by simp[jrL,hSe]) (by simp) ?_));intro i hi N Q hN hQ;by_cases hb:i<xs.length
 ·have hst:=jr_take hb;have hln:=jr_len2 hb;have hxc:=hc _ (kZ hb);obtain⟨x,hxe⟩:∃x,x=xs[i]:=⟨_,rfl⟩;rw[←hxe]at hst hln hxc;obtain⟨l,hle⟩:∃l,l=jrL (xs.take i):=⟨_,rfl⟩;rw[←hle]at hst hln ⊢;obtain⟨y,hye⟩:∃y,y=x.l:=⟨_,rfl⟩;rw[←hye]at hst hln hxc;have hye':=hye.symm;refine wx ?_;simp -dsimp[hb,hxe.symm,aj,hye'];refine aO (W_loopM 36 0xffff80088 (by simp[mB]<;>rfl) (σ:=Nat) (fun j=>j≤y.length) (fun j=>y.length-j) (fun j=>[(19,.int .i64 j),(3,.buf 1 0 (l++y.take j).length (l++y.take j).length)]) (fun j=>[S,B.buf 45 11 ((l++y.take j).map (aG false false)) false]) 0 (by omega) (by simp) (by simp) (by simp) ?_);intro j hj N2 Q2 hN2 hQ2
  have hyl:(l++y.take j).length=l.length+j:=by simp;omega
  by_cases hb2:j<y.length
  ·have hs2:l++y.take (j+1)=(l++y.take j)++[y[j]]:=by rw[kn hb2,kz]
   have hcc:=hxc _ (kZ hb2);obtain⟨c,hce⟩:∃c,c=y[j]:=⟨_,rfl⟩;rw[←hce]at hs2 hcc;obtain⟨z,hz⟩:∃z,z=l++y.take j:=⟨_,rfl⟩;rw[←hz]at hs2 hyl ⊢;have c1:=fE c.tb false false hcc.t.a hcc.t.r hcc.t.v;have c2:=row_s c.row hcc.v;simp only[aD,LS,LR,aC,LV]at c1 c2;refine wx ?_;simp -dsimp[hb2,hce.symm,aG,chC];refine aO (aX tok mixed [7,9] [] [(.agg [.str c.tb.name,.lst 1 false (c.tb.attrs.map V.str),.lst 2 false (c.tb.rows.map aC)],[]),(.agg [.int .i64 c.row.id,.lst 3 false (c.row.vals.map aH)],[])] (by kernel_rfl) fun C K hC hK=>?_);simp -implicitDefEqProofs [];refine⟨⟨hC _ _ _ _ (aQ c1 (by simp)),hC _ _ _ _ (aQ c2 (by simp))⟩,hK _ _ ?_⟩;simp -dsimp[hyl,capG (l.length+j) (by omega),aT j (by omega)];refine hN2 (j+1) _ _ (by omega) (by omega) (by simp[hs2,hyl]) ⟨[B.cells (chC false false c)],by simp[hs2,aG,chC]⟩ (by simp) (hrb _)
  ·obtain rfl:j=y.length:=by omega
   rw[ku];refine wx ?_;simp -dsimp[hb2];refine hQ2 _ _ _ ?_;simp -dsimp[aT i (by omega)];refine hN (i+1) _ _ (by omega) (by omega) (by simp[hst]) ⟨[],by simp[hst]⟩ (by simp) (hrb _)
 ·obtain rfl:i=xs.length:=by omega
  rw[ku];refine W_frz 1 [3] rfl (by simp) ?_;refine wx ?_;simp -dsimp[hb];refine hQ _ _ _ ?_;simp -dsimp[]
theorem is_l(t0 u:Tb)(fx:Bool)(xs:List Tx)(js:List Ch)(f1 g1 f2 g2 gg:Bool)(L ud:V)(o:Bool)(hj:jrL xs=ft t0::js)(hx:xs.length≤1000000)(hl:(jrL xs).length≤1000000)(hc:∀x∈xs,∀c∈x.l,ChL c)(hu:TbL u)
  (hz0:∀r∈t0.rows,∀v∈r.vals,v.s.size≤maxLen) (hz:∀r∈u.rows,∀v∈r.vals,v.s.size≤maxLen) (hL:AM.Pure L) (p:StQ (LTb gg [u]) (.lst 1 fx (xs.map aj)) ud)
  (hs:aL Tryz.prog 40 [.lst 11 false (js.map (aG false false)),L] fun r=>r = .bool true):
  aR Tryz.prog 12 [.ptr 0 0,aD f1 g1 t0,aD f2 g2 u,L] [stB (LTb gg [u]) (.lst 1 fx (xs.map aj)) ud o .nilS] fun r H'=>r = .bool true∧H'=[stB (LTb gg [u]) (.lst 1 fx (xs.map aj)) ud o .nilS]:=by
 refine fZ ?_ (by simp) (by simp) p.rb1
 have h0:TbL t0:=by
  have hm:ft t0∈jrL xs:=by rw[hj];simp
  obtain⟨x,hx1,hx2⟩:=List.mem_flatMap.1 hm;exact(hc x hx1 _ hx2).t
 have c1:=db_l [u] gg (.lst 1 fx (xs.map aj)) ud o (by simp) (fun t ht=>by simp at ht;subst ht;exact hu) p;have c2:=journal_l (LTb gg [u]) fx xs ud o hx hl hc p;have c3:=equal03 u u false false f2 g2 hu.a hu.r (fun r hr=>⟨hu.v r hr,hz r hr⟩);have c4:=equal03 t0 t0 false false f1 g1 h0.a h0.r (fun r hr=>⟨h0.v r hr,hz0 r hr⟩);rw[iJ]at c3 c4;rw[hj]at c2
 have d1:=fun G0 G1=>jg (H:=[stB (LTb gg [u]) (.lst 1 fx (xs.map aj)) ud o .nilS,G0,G1]) (k:=0) c1 p (by simp) (by simp[LTb]) rfl
 have d2:=fun G0 G1 G2=>jg (H:=[stB (LTb gg [u]) (.lst 1 fx (xs.map aj)) ud o .nilS,G0,G1,G2]) (k:=0) c2 p (by simp) (by simp) rfl
 obtain⟨S,hS⟩:∃S,S=stB (LTb gg [u]) (.lst 1 fx (xs.map aj)) ud o .nilS:=⟨_,rfl⟩;simp only[←hS]at d1 d2 ⊢;simp only[aD,LS,LR]at c3 c4;refine aI tok Tryz.func12 rfl rfl ?_;refine wx ?_;simp -dsimp[Tryz.f12,aJ,aD,LS,LR];refine wcm (d1 _ _) ?_;rintro r H' ⟨rfl,rfl⟩;simp -dsimp[LTb,aD,LS,LR];refine wcm (d2 _ _ _) ?_;rintro r H' ⟨rfl,rfl⟩;simp -dsimp[LTb,aD,LS,LR];refine .inr ⟨aU (by kernel_rfl),?_⟩;refine bD _ (aQ (c3) (by simp)) ?_;simp -dsimp[aG,chC,ft];refine bD _ (aQ (c4) (by simp)) ?_;simp -dsimp[aG,chC,ft];rw[show mj js.length (js.map (aG false false))=js.map (aG false false) from lV (by simp)];refine bD _ (aQ hs (by simp;exact hL)) ?_;simp -dsimp[]
end
end Go.Proofs.YtpedcgdgjoblkaaGreatDoor
