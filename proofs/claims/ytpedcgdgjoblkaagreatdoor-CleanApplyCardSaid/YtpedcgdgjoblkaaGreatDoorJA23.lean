/- JA23: own texts of this seat, joined and shortened by pack4.py: AP, AQ, LO, SI, SJ, FT. -/
import Derived.Test.YtpedcgdgjoblkaaGreatDoorJA21
import Derived.Test.YtpedcgdgjoblkaaGreatDoorJA22
set_option linter.unusedVariables false
set_option linter.unusedSimpArgs false
set_option maxRecDepth 100000
set_option maxHeartbeats 64000000
open Bool renaming and_eq_true→kR,eq_false_iff→mh
open ByteArray renaming empty→kI
open List renaming replicate→aI,mem_of_getElem?→kK,getElem_mem→kN,getElem?_set_ne→kP,not_mem_nil→kS,drop_eq_getElem_cons→kT,getElem?_set_self→kW,mem_cons→kZ,set_cons_zero→kn,set_cons_succ→ko,getElem?_cons_succ→kp,map_cons→lH,map_nil→lU
open Nat renaming le_refl→kM
namespace Go.Proofs.YtpedcgdgjoblkaaGreatDoor
section
open Go Go.AM
theorem iu{t:Tb}{nm:ByteArray}(h:nm=t.name):ixT (fun t=>t.name.toList == nm.toList) [t] 0=0:=by
 rw[ixT];simp[h]
theorem apply_ins(t:Tb)(g f1 g1:Bool)(tb:Tb)(row:Rw)(a:Int)(v:Vl)(hv:aH t=0)(hk:TbOk t)(hrl:row.vals.length≤1000000)(he:ai t row=0):
  aK Tryz.prog 82 [.agg [LTb g [t]],aE f1 g1 ⟨2,t.name,tb,row,a,v⟩] fun x=>x = .tup [.agg [LTb false [wrT t (cL t.rows row)]],.int .i64 0]:=by
 have c1:=jk [t] g t.name (by simp);rw[iu rfl]at c1;have c2:=insert_u t false false row hv hk hrl;rw[gH he]at c2;have c3:=jz [t] g (by simp);obtain⟨D,hD⟩:∃D,D=cL t.rows row:=⟨_,rfl⟩;rw[←hD]at c2 ⊢;simp only[LTb,aD,LS,LR,aC,LV,lH,lU,wrT]at c1 c2 c3;refine bK (aG tok Tryz.func82 rfl rfl ?_);refine wx ?_;simp -dsimp[Tryz.f82,aI,aE,chC,aD,LS,LR,LTb,aC,LV];refine cPx (c1) (by simp) ?_;simp -dsimp[];refine cPx (c2) (by simp) ?_;simp -dsimp[];refine(gX c3 (by simp)).mono ?_;rintro x H' ⟨e,z,ys,rfl,rfl,_,rfl,rfl,rfl⟩;simp -dsimp[];exact exp_db rfl (by simp)
theorem apply_del(t:Tb)(g f1 g1:Bool)(tb:Tb)(row:Rw)(a:Int)(v:Vl)(hv:aH t=0)(hk:TbOk t)(hrl:row.vals.length≤1000000)(hi:bh t row=true):
  aK Tryz.prog 82 [.agg [LTb g [t]],aE f1 g1 ⟨3,t.name,tb,row,a,v⟩] fun x=>x = .tup [.agg [LTb false [wrT t (cS t.rows row.id)]],.int .i64 0]:=by
 unfold bh at hi;rw[kR,decide_eq_true_iff]at hi;obtain⟨hin,hvals⟩:=hi;have hr:=bE hv;have hvr:=aw hv;have hin':(fnd t.rows row.id 0).2=true:=hin;have hkl:=eo 0 hin';have c1:=jk [t] g t.name (by simp);rw[iu rfl]at c1;have c2:=dt t false false row.id (by omega);rw[hin']at c2;have hat:atT t row.id=rwG t.rows (fnd t.rows row.id 0).1:=rfl;rw[hat,bg hkl]at hvals;obtain⟨k,hke⟩:∃k,k=(fnd t.rows row.id 0).1:=⟨_,rfl⟩;simp only[←hke]at c2 hkl hvals
 have hrv:t.rows[k].vals.length≤1000000:=by
  have:=(hvr _ (kN hkl)).2.1;have:=hk.attrs;omega
 have c3:=jE t.rows[k].vals row.vals false false hrv;obtain⟨rk,hrk⟩:∃rk,rk=t.rows[k]:=⟨_,rfl⟩;rw[←hrk]at hvals c3;rw[decide_eq_true hvals]at c3;have c4:=delete_u t false false row.id hv hk;unfold delV at c4;rw[if_pos hin]at c4;have c5:=jz [t] g (by simp);obtain⟨D,hD⟩:∃D,D=cS t.rows row.id:=⟨_,rfl⟩;rw[←hD]at c4 ⊢;simp only[LTb,aD,LS,LR,LV,aJ,lH,lU,wrT]at c1 c2 c3 c4 c5;refine bK (aG tok Tryz.func82 rfl rfl ?_);refine wx ?_;simp -dsimp[Tryz.f82,aI,aE,chC,aD,LS,LR,LTb];refine cPx (c1) (by simp) ?_;simp -dsimp[];refine cPx (c2) (by simp) ?_;simp -dsimp[hkl,hrk.symm,aC,LV];refine .inr ⟨aR (by kernel_rfl),?_⟩;refine av _ (aP (c3) (by simp)) ?_;simp -dsimp[];refine cPx (c4) (by simp) ?_;simp -dsimp[];refine(gX c5 (by simp)).mono ?_;rintro x H' ⟨e,z,ys,rfl,rfl,_,rfl,rfl,rfl⟩;simp -dsimp[];exact exp_db rfl (by simp)
theorem apply_chg(t:Tb)(g f1 g1:Bool)(tb:Tb)(row:Rw)(a:Int)(v:Vl)(hv:aH t=0)(hk:TbOk t)(hrl:row.vals.length≤1000000)(hi:bh t row=true)(ha:0≤a)(ha2:a<t.attrs.length)(hvv:aV v=true):
  aK Tryz.prog 82 [.agg [LTb g [t]],aE f1 g1 ⟨4,t.name,tb,row,a,v⟩] fun x=>x = .tup [.agg [LTb false [wrT t (eM t.rows row.id a.toNat v)]],.int .i64 0]:=by
 unfold bh at hi;rw[kR,decide_eq_true_iff]at hi;obtain⟨hin,hvals⟩:=hi;have hr:=bE hv;have hvr:=aw hv;have hin':(fnd t.rows row.id 0).2=true:=hin;have hkl:=eo 0 hin';have c1:=jk [t] g t.name (by simp);rw[iu rfl]at c1;have c2:=dt t false false row.id (by omega);rw[hin']at c2;have hat:atT t row.id=rwG t.rows (fnd t.rows row.id 0).1:=rfl;rw[hat,bg hkl]at hvals;obtain⟨k,hke⟩:∃k,k=(fnd t.rows row.id 0).1:=⟨_,rfl⟩;simp only[←hke]at c2 hkl hvals
 have hrv:t.rows[k].vals.length≤1000000:=by
  have:=(hvr _ (kN hkl)).2.1;have:=hk.attrs;omega
 have c3:=jE t.rows[k].vals row.vals false false hrv;obtain⟨rk,hrk⟩:∃rk,rk=t.rows[k]:=⟨_,rfl⟩;rw[←hrk]at hvals c3;rw[decide_eq_true hvals]at c3;have c4:=change_u t false false row.id a v hv hk;unfold eu at c4;rw[iz hin (by omega) (by omega) hvv,if_pos rfl]at c4;have c5:=jz [t] g (by simp);obtain⟨D,hD⟩:∃D,D=eM t.rows row.id a.toNat v:=⟨_,rfl⟩;rw[←hD]at c4 ⊢;simp only[LTb,aD,LS,LR,LV,aJ,lH,lU,wrT]at c1 c2 c3 c4 c5;refine bK (aG tok Tryz.func82 rfl rfl ?_);refine wx ?_;simp -dsimp[Tryz.f82,aI,aE,chC,aD,LS,LR,LTb];refine cPx (c1) (by simp) ?_;simp -dsimp[];refine cPx (c2) (by simp) ?_;simp -dsimp[hkl,hrk.symm,aC,LV];refine .inr ⟨aR (by kernel_rfl),?_⟩;refine av _ (aP (c3) (by simp)) ?_;simp -dsimp[];refine cPx (c4) (by simp) ?_;simp -dsimp[];refine(gX c5 (by simp)).mono ?_;rintro x H' ⟨e,z,ys,rfl,rfl,_,rfl,rfl,rfl⟩;simp -dsimp[];exact exp_db rfl (by simp)
theorem apply_ok(t u:Tb)(c:Ch)(g f1 g1:Bool)(hv:aH t=0)(hk:TbOk t)(hrl:c.row.vals.length≤1000000)(hs:ae t c=some u):aK Tryz.prog 82 [.agg [LTb g [t]],aE f1 g1 c] fun x=>x = .tup [.agg [LTb false [u]],.int .i64 0]:=by
 obtain⟨k,nm,tb,row,a,v⟩:=c;unfold ae at hs;simp only at hs hrl;by_cases hn:nm=t.name
 case neg=>rw[if_neg hn]at hs;cases hs
 rw[if_pos hn]at hs;subst hn;by_cases h2:k=2
 ·rw[if_pos h2]at hs;subst h2;by_cases he:ai t row=0
  ·rw[if_pos he]at hs;cases hs;exact apply_ins t g f1 g1 tb row a v hv hk hrl he
  ·rw[if_neg he]at hs;cases hs
 ·rw[if_neg h2]at hs;by_cases hi:bh t row=true
  case neg=>rw[if_neg hi]at hs;cases hs
  rw[if_pos hi]at hs;by_cases h3:k=3
  ·rw[if_pos h3]at hs;subst h3;cases hs;exact apply_del t g f1 g1 tb row a v hv hk hrl hi
  ·rw[if_neg h3]at hs;by_cases h4:k=4
   ·rw[if_pos h4]at hs;subst h4;by_cases hc:0≤a∧a<t.attrs.length∧aV v=true
    ·rw[if_pos hc]at hs;cases hs;exact apply_chg t g f1 g1 tb row a v hv hk hrl hi hc.1 hc.2.1 hc.2.2
    ·rw[if_neg hc]at hs;cases hs
   ·rw[if_neg h4]at hs;cases hs
def nwS(nl:List V):B:=.buf 45 11 nl false
theorem perform_o(t u:Tb)(c:Ch)(g:Bool)(hv:aH t=0)(hk:TbOk t)(hrl:c.row.vals.length≤1000000)(hs:ae t c=some u)(dn ud:V)(D:B)(nl:List V)(m:Nat)(hm:nl.length=m)(hml:m≤1000000)(hD:∀n,2≤n→rbB n D):
  aT Tryz.prog 59 [.ptr 0 0,aE false false c] [stB (LTb g [t]) dn ud true (.buf 2 0 m m),D,nwS nl] fun r H'=>r = .int .i64 0∧∃G,H'=[stB (LTb false [u]) dn ud true (.buf 2 0 (m+1) (m+1)),D,nwS (nl++[aE false false c])]++G:=by
 have c1:=apply_ok t u c g false false hv hk hrl hs;simp only[aE,chC,LTb,aD,LS,LR,lH,lU]at c1;refine aG tok Tryz.func59 rfl rfl ?_;refine wx ?_;simp -dsimp[Tryz.f59,aI,aE,chC,LTb,aD,LS,LR,stB,nwS];refine aO (aS tok mixed [9,10] [(0,[1]),(1,[1]),(2,[1]),(3,[1]),(4,[1]),(5,[1]),(6,[1]),(7,[1]),(8,[1,2])] [(.tup [.agg [.lst 3 false [.agg [.str u.name,.lst 1 false (u.attrs.map V.str),.lst 2 false (u.rows.map aC)]]],.int .i64 0],[])] (by kernel_rfl) fun C K hC hK=>?_);simp -implicitDefEqProofs [];refine⟨⟨hC _ _ _ _ (aP c1 (by simp)),hC _ _ _ _ (aP c1 (by simp))⟩,hK _ _ ?_⟩;simp -dsimp[hm];refine aO (aS tok mixed [7,10] [(0,[1])] [] (by kernel_rfl) fun C K hC hK=>?_);simp -implicitDefEqProofs [hm,kD m hml];refine hK _ _ ?_;simp -dsimp[hm,kD m hml]
 all_goals exact⟨rfl,rfl⟩
def g3(k L M:Nat)(i:Nat):Nat:=if i=0 then k else if i=1 then L else M
theorem lift3{P:Program}{f:FuncId}{args0 args:List V}{A0 A1 A2 B0 B1 B2 C0 C1 C2 D0 D1 D2:B}{r0:V}{H:List B}{k L M:Nat}(h:aT P f args0 [A0,A1,A2] fun r H'=>r=r0∧H'=[C0,C1,C2])
  (hkL:k≠L) (hkM:k≠M) (hLM:L≠M) (h0:H[k]?=some B0) (h1:H[L]?=some B1) (h2:H[M]?=some B2) (R0:RenB (g3 k L M) 3 A0 B0) (R1:RenB (g3 k L M) 3 A1 B1) (R2:RenB (g3 k L M) 3 A2 B2) (S0:RenB (g3 k L M) 3 C0 D0) (S1:RenB (g3 k L M) 3 C1 D1) (S2:RenB (g3 k L M) 3 C2 D2)
  (hal:args0.length=args.length) (ha:∀(i:Nat) a b,args0[i]?=some a→args[i]?=some b→Ren (g3 k L M) 3 a b) (hr:AM.Pure r0):aT P f args H fun r H'=>r=r0∧H'=((H.set k D0).set L D1).set M D2:=by
 have hk:=aB h0;have hL:=aB h1;have hM:=aB h2;refine fN 3 3 (g3 k L M) h rfl rfl (kM _) (fun i j hi hj e=>?_) (fun i hi=>?_) (fun i h1 h2=>absurd h1 (by omega)) (fun i b hb=>?_) (fun i b hb=>?_) (by simp) (fun j hj hno=>?_) hal ha hr
 ·match i,j,hi,hj with
  | 0,0,_,_=>rfl
  | 0,1,_,_=>simp[g3]at e;exact absurd e hkL
  | 0,2,_,_=>simp[g3]at e;exact absurd e hkM
  | 1,0,_,_=>simp[g3]at e;exact absurd e.symm hkL
  | 1,1,_,_=>rfl
  | 1,2,_,_=>simp[g3]at e;exact absurd e hLM
  | 2,0,_,_=>simp[g3]at e;exact absurd e.symm hkM
  | 2,1,_,_=>simp[g3]at e;exact absurd e.symm hLM
  | 2,2,_,_=>rfl
 ·match i,hi with
  | 0,_=>exact hk
  | 1,_=>exact hL
  | 2,_=>exact hM
 ·match i with
  | 0=>simp at hb;subst hb;exact⟨_,h0,R0⟩
  | 1=>simp at hb;subst hb;exact⟨_,h1,R1⟩
  | 2=>simp at hb;subst hb;exact⟨_,h2,R2⟩
  | i+3=>simp at hb
 ·match i with
  | 0 =>
   simp at hb;subst hb;exact⟨D0,by show(((H.set k D0).set L D1).set M D2)[k]?=_;rw[kP (Ne.symm hkM),kP (Ne.symm hkL),kW hk],S0⟩
  | 1 =>
   simp at hb;subst hb;exact⟨D1,by show(((H.set k D0).set L D1).set M D2)[L]?=_;rw[kP (Ne.symm hLM),kW (by simpa using hL)],S1⟩
  | 2 =>
   simp at hb;subst hb;exact⟨D2,by show(((H.set k D0).set L D1).set M D2)[M]?=_;rw[kW (by simpa using hM)],S2⟩
  | i+3=>simp at hb
 ·have n0:k≠j:=hno 0 (by omega);have n1:L≠j:=hno 1 (by omega);have n2:M≠j:=hno 2 (by omega);rw[kP n2,kP n1,kP n0]
theorem ren_so{g:Nat→Nat}{n m q:Nat}{db ud:V}{o:Bool}(h1:1<n)(h2:2<n)(hd:AM.Pure db)(hu:AM.Pure ud)(o1:db.one=true)(o2:ud.one=true):RenB g n (stB db (.buf 1 0 m m) ud o (.buf 2 0 q q)) (stB db (.buf (g 1) 0 m m) ud o (.buf (g 2) 0 q q)):=by
 refine .cells _ _ rfl (fun c hc=>?_) (fun i c d hc hd'=>?_)
 ·simp only[kZ,kS,or_false]at hc
  rcases hc with rfl | rfl | rfl | rfl | rfl<;>first | rfl | assumption
 ·match i with
  | 0=>simp at hc hd';subst hc;subst hd';exact .pure _ hd
  | 1=>simp at hc hd';subst hc;subst hd';exact .buf 1 0 m m h1
  | 2=>simp at hc hd';subst hc;subst hd';exact .pure _ hu
  | 3=>simp at hc hd';subst hc;subst hd';exact .pure _ (.bool _)
  | 4=>simp at hc hd';subst hc;subst hd';exact .buf 2 0 q q h2
  | i+5=>simp at hc
theorem ren_nw{g:Nat→Nat}{n:Nat}{nl:List V}(h:∀x∈nl,AM.Pure x):RenB g n (nwS nl) (nwS nl):=.buf _ _ _ _ h
structure StO (db ud:V) (dl nl:List V):Prop where
 qdb:AM.Pure db
 qud:AM.Pure ud
 qdl:∀x∈dl,AM.Pure x
 qnl:∀x∈nl,AM.Pure x
 rdb:db.one=true
 rud:ud.one=true
 rdl:∀x∈dl,∀c∈x.cells,c.one=true
 rnl:∀x∈nl,∀c∈x.cells,c.one=true
theorem StO.rb{db ud:V}{dl nl:List V}{m q:Nat}{o:Bool}(h:StO db ud dl nl):∀bl∈[stB db (.buf 1 0 m m) ud o (.buf 2 0 q q),dnS dl,nwS nl],rbB 3 bl:=fun bl hbl=>by
 simp only[kZ,kS,or_false]at hbl
 rcases hbl with rfl | rfl | rfl
 ·intro c hc;simp only[kZ,kS,or_false]at hc
  rcases hc with rfl | rfl | rfl | rfl | rfl
  ·exact bW h.qdb h.rdb
  ·show 1<3;omega
  ·exact bW h.qud h.rud
  ·simp[rb,rb1]
  ·show 2<3;omega
 ·exact(cA h.qdl h.rdl).2 trivial
 ·exact(cA h.qnl h.rnl).2 trivial
theorem gC{P:Program}{f:FuncId}{ar:List V}{db ud db' ud' r0:V}{dl dl' nl nl':List V}{m m' q q':Nat}{o o':Bool}{H:List B}{k L M:Nat}
  (h:aT P f (.ptr 0 0::ar) [stB db (.buf 1 0 m m) ud o (.buf 2 0 q q),dnS dl,nwS nl] fun r H'=>r=r0∧H'=[stB db' (.buf 1 0 m' m') ud' o' (.buf 2 0 q' q'),dnS dl',nwS nl'])
  (p:StO db ud dl nl) (p':StO db' ud' dl' nl') (has:∀a∈ar,AM.Pure a) (hr:AM.Pure r0) (hkL:k≠L) (hkM:k≠M) (hLM:L≠M) (h0:H[k]?=some (stB db (.buf L 0 m m) ud o (.buf M 0 q q))) (h1:H[L]?=some (dnS dl)) (h2:H[M]?=some (nwS nl)):
  aT P f (.ptr k 0::ar) H fun r H'=>r=r0∧H'=((H.set k (stB db' (.buf L 0 m' m') ud' o' (.buf M 0 q' q'))).set L (dnS dl')).set M (nwS nl'):=by
 have e:g3 k L M 1=L:=rfl;have e2:g3 k L M 2=M:=rfl;refine lift3 h hkL hkM hLM h0 h1 h2 ?_ (go p.qdl) (ren_nw p.qnl) ?_ (go p'.qdl) (ren_nw p'.qnl) rfl (fun i a b ha hb=>?_) hr
 ·have:=ren_so (g:=g3 k L M) (n:=3) (m:=m) (q:=q) (o:=o) (by omega) (by omega) p.qdb p.qud p.rdb p.rud
  rwa [e,e2]at this
 ·have:=ren_so (g:=g3 k L M) (n:=3) (m:=m') (q:=q') (o:=o') (by omega) (by omega) p'.qdb p'.qud p'.rdb p'.rud
  rwa [e,e2]at this
 ·cases i with
  | zero =>
   simp at ha hb;subst ha;subst hb;exact .ptr 0 0 (by omega)
  | succ i =>
   simp only[kp]at ha hb;rw[ha]at hb;cases hb;exact .pure _ (has _ (kK ha))
theorem encCh_one(c:Ch):∀x∈(aE false false c).cells,x.one=true:=by simp[aE,chC,V.cells,V.one]
theorem StO.step{t u:Tb}{g:Bool}{ud:V}{dl nl:List V}(h:StO (LTb g [t]) ud dl nl)(c:Ch):StO (LTb false [u]) ud dl (nl++[aE false false c]):=
 ⟨by simp,h.qud,h.qdl,fun x hx=>by
  rcases List.mem_append.1 hx with q | q
  ·exact h.qnl x q
  ·rw[List.mem_singleton.1 q];simp,rfl,h.rud,h.rdl,fun x hx=>by
  rcases List.mem_append.1 hx with q | q
  ·exact h.rnl x q
  ·rw[List.mem_singleton.1 q];exact encCh_one c⟩
theorem gp(t u:Tb)(c:Ch)(g:Bool)(hv:aH t=0)(hk:TbOk t)(hrl:c.row.vals.length≤1000000)(hs:ae t c=some u)(ud:V)(dl nl:List V)(m q:Nat)(hq:nl.length=q)(hql:q≤1000000)(p:StO (LTb g [t]) ud dl nl):
  aT Tryz.prog 59 [.ptr 0 0,aE false false c] [stB (LTb g [t]) (.buf 1 0 m m) ud true (.buf 2 0 q q),dnS dl,nwS nl] fun r H'=>r = .int .i64 0∧H'=[stB (LTb false [u]) (.buf 1 0 m m) ud true (.buf 2 0 (q+1) (q+1)),dnS dl,nwS (nl++[aE false false c])] :=
 eK (perform_o t u c g hv hk hrl hs (.buf 1 0 m m) ud (dnS dl) nl q hq hql (fun n hn=>(cA p.qdl p.rdl).2 trivial)) (by simp) (by simp[rb,rb1]) (p.step c).rb
theorem wcE{P:Program}{f:FuncId}{args:List V}{H H0:List B}{r0:V}{K:V→List B→Prop}(h:aT P f args H fun r H'=>r=r0∧H'=H0)(hk:K r0 H0):aM P (.fn f []) args H K :=
 wcm h fun _ _ hh=>hh.1▸hh.2▸hk
theorem le_ch{p k nm id vs a vk vn vv:V} : ∀(i:Nat) x y,[p,.agg [k,nm,.str kI,.nilS,.nilS,id,vs,a,vk,vn,vv]][i]?=some x→[p,.agg [k,nm,.str kI,.lst 1 false [],.lst 2 false [],id,vs,a,vk,vn,vv]][i]?=some y→Le x y:=fun i x y hx hy=>by
 match i with
 | 0=>simp at hx hy;subst hx;subst hy;exact .refl _
 | 1 =>
  simp at hx hy;subst hx;subst hy;refine .agg _ _ rfl (fun j u v hu hv=>?_)
  match j with
  | 0=>simp at hu hv;subst hu;subst hv;exact .refl _
  | 1=>simp at hu hv;subst hu;subst hv;exact .refl _
  | 2=>simp at hu hv;subst hu;subst hv;exact .refl _
  | 3=>simp at hu hv;subst hu;subst hv;exact .nil _ _
  | 4=>simp at hu hv;subst hu;subst hv;exact .nil _ _
  | 5=>simp at hu hv;subst hu;subst hv;exact .refl _
  | 6=>simp at hu hv;subst hu;subst hv;exact .refl _
  | 7=>simp at hu hv;subst hu;subst hv;exact .refl _
  | 8=>simp at hu hv;subst hu;subst hv;exact .refl _
  | 9=>simp at hu hv;subst hu;subst hv;exact .refl _
  | 10=>simp at hu hv;subst hu;subst hv;exact .refl _
  | j+11=>simp at hu
 | i+2=>simp at hx
theorem insert_o(u w:Tb)(row:Rw)(g:Bool)(hv:aH u=0)(hk:TbOk u)(hrl:row.vals.length≤1000000)(hs:ae u ⟨2,u.name,tb0,row,0,vl0⟩=some w)(ud:V)(dl nl:List V)(m q:Nat)(hq:nl.length=q)(hql:q≤1000000)(p:StO (LTb g [u]) ud dl nl):
  aT Tryz.prog 65 [.ptr 0 0,.str u.name,aC row] [stB (LTb g [u]) (.buf 1 0 m m) ud true (.buf 2 0 q q),dnS dl,nwS nl] fun r H'=>r = .int .i64 0∧H'=[stB (LTb false [w]) (.buf 1 0 m m) ud true (.buf 2 0 (q+1) (q+1)),dnS dl,nwS (nl++[aE false false ⟨2,u.name,tb0,row,0,vl0⟩])]:=by
 refine eK ?_ (by simp) (by simp[rb,rb1]) (p.step _).rb;have c1:=row_s row hrl
 have c2:=fun G=>gC (H:=[stB (LTb g [u]) (.buf 1 0 m m) ud true (.buf 2 0 q q),dnS dl,nwS nl,G]) (k:=0) (L:=1) (M:=2) (gp u w ⟨2,u.name,tb0,row,0,vl0⟩ g hv hk hrl hs ud dl nl m q hq hql p) p (p.step _) (by simp) (by simp) (by decide) (by decide) (by decide) rfl rfl rfl
 obtain⟨S,hS⟩:∃S,S=stB (LTb g [u]) (.buf 1 0 m m) ud true (.buf 2 0 q q):=⟨_,rfl⟩;obtain⟨S1,hS1⟩:∃S,S=stB (LTb false [w]) (.buf 1 0 m m) ud true (.buf 2 0 (q+1) (q+1)):=⟨_,rfl⟩;obtain⟨D,hD⟩:∃D,D=dnS dl:=⟨_,rfl⟩;obtain⟨N,hN⟩:∃N,N=nwS nl:=⟨_,rfl⟩;obtain⟨N1,hN1⟩:∃N,N=nwS (nl++[aE false false ⟨2,u.name,tb0,row,0,vl0⟩]):=⟨_,rfl⟩;simp only[←hS,←hS1,←hD,←hN,←hN1,kn,ko]at c2 ⊢;simp only[aC,LV,aE,chC,tb0,vl0,lU]at c1 c2;refine aG tok Tryz.func65 rfl rfl ?_;refine wx ?_;simp -dsimp[Tryz.f65,aI,aC,LV];refine cPx (c1) (by simp) ?_;simp -dsimp[];refine wcE (gV (c2 _) rfl le_ch) ?_;simp -dsimp[]
theorem cut1P{P:Program}{f:FuncId}{args:List V}{H Hf:List B}{r0:V}(h:aT P f args H fun r H'=>r=r0∧∃G,H'=Hf++G)(hl:H.length≤Hf.length)(hp:AM.Pure r0)(hb:∀bl∈Hf,rbB Hf.length bl):aT P f args H fun r H'=>r=r0∧H'=Hf:=by
 refine⟨h.1,fun s vals h1 h2 h3 h4=>(h.2 s vals h1 h2 h3 h4).mono fun e w' ⟨u,s',r,a,b,c,d,e1,k1,G,k3⟩=>?_⟩;subst k1;exact⟨u,s'.cut Hf,r,a,b,dU c k3 hb,cz c k3 (Step.refl _) s d (by rw[h1.1];exact hl),Rel.pure_ e1 hp (fun b hb=>⟨bv k3 hb,rfl⟩),rfl,rfl⟩
theorem kF(u:Tb)(id:Int)(g:Bool)(hv:aH u=0)(hk:TbOk u)(hin:inT u id=true)(ud:V)(dl nl:List V)(m q:Nat)(p:StO (LTb g [u]) ud dl nl):
  aT Tryz.prog 115 [.ptr 0 0,.str u.name,.int .i64 id] [stB (LTb g [u]) (.buf 1 0 m m) ud true (.buf 2 0 q q),dnS dl,nwS nl] fun r H'=>r = .tup [aC (atT u id),.int .i64 0]∧H'=[stB (LTb g [u]) (.buf 1 0 m m) ud true (.buf 2 0 q q),dnS dl,nwS nl]:=by
 refine cut1P ?_ (by simp) (by simp) p.rb;have hr:=bE hv;have hvr:=aw hv;have c1:=jk [u] g u.name (by simp);rw[iu rfl]at c1;have cf:=dt u false false id (by omega);have hin':(fnd u.rows id 0).2=true:=hin;have hkl:=eo 0 hin';rw[hin']at cf;have hat:atT u id=rwG u.rows (fnd u.rows id 0).1:=rfl;obtain⟨kk,hke⟩:∃kk,kk=(fnd u.rows id 0).1:=⟨_,rfl⟩;simp only[←hke]at cf hkl hat;rw[bg hkl]at hat
 have hrv:u.rows[kk].vals.length≤1000000:=by
  have:=(hvr _ (kN hkl)).2.1;have:=hk.attrs;omega
 have c3:=row_s u.rows[kk] hrv;obtain⟨rk,hrk⟩:∃rk,rk=u.rows[kk]:=⟨_,rfl⟩;rw[←hrk]at hat c3;rw[hat];obtain⟨D,hD⟩:∃D,D=dnS dl:=⟨_,rfl⟩;obtain⟨N,hN⟩:∃N,N=nwS nl:=⟨_,rfl⟩;simp only[←hD,←hN];simp only[aC,LV,LTb,aD,LS,LR,lH,lU]at c1 cf c3;refine aG tok Tryz.func115 rfl rfl ?_;refine wx ?_;simp -dsimp[Tryz.f115,aI,stB,LTb,aD,LS,LR];refine cPx (c1) (by simp) ?_;simp -dsimp[];refine cPx (cf) (by simp) ?_;simp -dsimp[hkl,hrk.symm,aC,LV];refine cPx (c3) (by simp) ?_;simp -dsimp[];exact⟨rfl,rfl⟩
theorem delete_o(u w:Tb)(id:Int)(g:Bool)(hv:aH u=0)(hk:TbOk u)(hin:inT u id=true)(hs:ae u ⟨3,u.name,tb0,atT u id,0,vl0⟩=some w)(ud:V)(dl nl:List V)(m q:Nat)(hq:nl.length=q)(hql:q≤1000000)(p:StO (LTb g [u]) ud dl nl):
  aT Tryz.prog 66 [.ptr 0 0,.str u.name,.int .i64 id] [stB (LTb g [u]) (.buf 1 0 m m) ud true (.buf 2 0 q q),dnS dl,nwS nl] fun r H'=>r = .int .i64 0∧H'=[stB (LTb false [w]) (.buf 1 0 m m) ud true (.buf 2 0 (q+1) (q+1)),dnS dl,nwS (nl++[aE false false ⟨3,u.name,tb0,atT u id,0,vl0⟩])]:=by
 refine eK ?_ (by simp) (by simp[rb,rb1]) (p.step _).rb
 have hrl:(atT u id).vals.length≤1000000:=by
  have:=(aw hv _ (iH hin).2).2.1;have:=hk.attrs;omega
 have c1:=kF u id g hv hk hin ud dl nl m q p
 have c2:=fun G=>gC (H:=[stB (LTb g [u]) (.buf 1 0 m m) ud true (.buf 2 0 q q),dnS dl,nwS nl,G]) (k:=0) (L:=1) (M:=2) (gp u w ⟨3,u.name,tb0,atT u id,0,vl0⟩ g hv hk hrl hs ud dl nl m q hq hql p) p (p.step _) (by simp) (by simp) (by decide) (by decide) (by decide) rfl rfl rfl
 obtain⟨S,hS⟩:∃S,S=stB (LTb g [u]) (.buf 1 0 m m) ud true (.buf 2 0 q q):=⟨_,rfl⟩;obtain⟨S1,hS1⟩:∃S,S=stB (LTb false [w]) (.buf 1 0 m m) ud true (.buf 2 0 (q+1) (q+1)):=⟨_,rfl⟩;obtain⟨D,hD⟩:∃D,D=dnS dl:=⟨_,rfl⟩;obtain⟨N,hN⟩:∃N,N=nwS nl:=⟨_,rfl⟩;obtain⟨N1,hN1⟩:∃N,N=nwS (nl++[aE false false ⟨3,u.name,tb0,atT u id,0,vl0⟩]):=⟨_,rfl⟩;simp only[←hS,←hS1,←hD,←hN,←hN1,kn,ko]at c1 c2 ⊢;simp only[aC,LV,aE,chC,tb0,vl0,lU]at c1 c2;refine aG tok Tryz.func66 rfl rfl ?_;refine wx ?_;simp -dsimp[Tryz.f66,aI];refine wcE c1 ?_;simp -dsimp[];refine wcE (gV (c2 _) rfl le_ch) ?_;simp -dsimp[]
theorem change_o(u w:Tb)(id:Int)(b:Nat)(v:Vl)(g:Bool)(hv:aH u=0)(hk:TbOk u)(hin:inT u id=true)(hb:b<(atT u id).vals.length)(hvv:aV v=true)(hno:¬(atT u id).vals[b]=v)(hs:ae u ⟨4,u.name,tb0,atT u id,b,v⟩=some w)(ud:V)(dl nl:List V)(m q:Nat)(hq:nl.length=q)(hql:q≤1000000)(p:StO (LTb g [u]) ud dl nl):
  aT Tryz.prog 67 [.ptr 0 0,.str u.name,.agg [.int .i64 id,.int .i64 b],aJ v] [stB (LTb g [u]) (.buf 1 0 m m) ud true (.buf 2 0 q q),dnS dl,nwS nl] fun r H'=>r = .int .i64 0∧H'=[stB (LTb false [w]) (.buf 1 0 m m) ud true (.buf 2 0 (q+1) (q+1)),dnS dl,nwS (nl++[aE false false ⟨4,u.name,tb0,atT u id,b,v⟩])]:=by
 refine eK ?_ (by simp) (by simp[rb,rb1]) (p.step _).rb
 have hrl:(atT u id).vals.length≤1000000:=by
  have:=(aw hv _ (iH hin).2).2.1;have:=hk.attrs;omega
 have c1:=kF u id g hv hk hin ud dl nl m q p
 have c2:=fun G0 G1 G2=>gC (H:=[stB (LTb g [u]) (.buf 1 0 m m) ud true (.buf 2 0 q q),dnS dl,nwS nl,G0,G1,G2]) (k:=0) (L:=1) (M:=2) (gp u w ⟨4,u.name,tb0,atT u id,b,v⟩ g hv hk hrl hs ud dl nl m q hq hql p) p (p.step _) (by simp) (by simp) (by decide) (by decide) (by decide) rfl rfl rfl
 have c3:=co v;rw[hvv]at c3
 have c4:=fun G0 G1=>gC (H:=[stB (LTb g [u]) (.buf 1 0 m m) ud true (.buf 2 0 q q),dnS dl,nwS nl,G0,G1]) (k:=0) (L:=1) (M:=2) c1 p p (by simp) (by simp) (by decide) (by decide) (by decide) rfl rfl rfl
 obtain⟨x,hx⟩:∃x,x=atT u id:=⟨_,rfl⟩;simp only[←hx]at c2 c4 hb hno ⊢;clear c1 hs
 have e1:=fun H=>eqVl9 H x.vals[b] v
 have e2:decide (x.vals[b]=v)=false:=by simp[hno]
 obtain⟨S,hS⟩:∃S,S=stB (LTb g [u]) (.buf 1 0 m m) ud true (.buf 2 0 q q):=⟨_,rfl⟩;obtain⟨S1,hS1⟩:∃S,S=stB (LTb false [w]) (.buf 1 0 m m) ud true (.buf 2 0 (q+1) (q+1)):=⟨_,rfl⟩;obtain⟨D,hD⟩:∃D,D=dnS dl:=⟨_,rfl⟩;obtain⟨N,hN⟩:∃N,N=nwS nl:=⟨_,rfl⟩;obtain⟨N1,hN1⟩:∃N,N=nwS (nl++[aE false false ⟨4,u.name,tb0,x,b,v⟩]):=⟨_,rfl⟩;simp only[←hS,←hS1,←hD,←hN,←hN1,kn,ko]at c2 c4 ⊢;simp only[aC,LV,aE,chC,tb0,lU,aJ]at c2 c3 c4;refine aG tok Tryz.func67 rfl rfl ?_;refine wx ?_;simp -dsimp[Tryz.f67,aI,aJ];refine wcE (c4 _ _) ?_;simp (maxSteps:=2000000) -implicitDefEqProofs -dsimp[hb,e1,e2];refine .inr ⟨aR (by kernel_rfl),?_⟩;refine av _ (aP (c3) (by simp)) ?_;simp -dsimp[hb,aJ,e1,e2];refine wcE (gV (c2 _ _ _) rfl le_ch) ?_;simp -dsimp[]
theorem change_nop(u:Tb)(id:Int)(b:Nat)(v:Vl)(g:Bool)(hv:aH u=0)(hk:TbOk u)(hin:inT u id=true)(hb:b<(atT u id).vals.length)(hvv:aV v=true)(hno:(atT u id).vals[b]=v)(ud:V)(dl nl:List V)(m q:Nat)(p:StO (LTb g [u]) ud dl nl):
  aT Tryz.prog 67 [.ptr 0 0,.str u.name,.agg [.int .i64 id,.int .i64 b],aJ v] [stB (LTb g [u]) (.buf 1 0 m m) ud true (.buf 2 0 q q),dnS dl,nwS nl] fun r H'=>r = .int .i64 0∧H'=[stB (LTb g [u]) (.buf 1 0 m m) ud true (.buf 2 0 q q),dnS dl,nwS nl]:=by
 refine eK ?_ (by simp) (by simp[rb,rb1]) p.rb;have c1:=kF u id g hv hk hin ud dl nl m q p;have c3:=co v;rw[hvv]at c3
 have c4:=fun G0 G1=>gC (H:=[stB (LTb g [u]) (.buf 1 0 m m) ud true (.buf 2 0 q q),dnS dl,nwS nl,G0,G1]) (k:=0) (L:=1) (M:=2) c1 p p (by simp) (by simp) (by decide) (by decide) (by decide) rfl rfl rfl
 obtain⟨x,hx⟩:∃x,x=atT u id:=⟨_,rfl⟩;simp only[←hx]at c4 hb hno ⊢;clear c1
 have e1:=fun H=>eqVl9 H x.vals[b] v
 have e2:decide (x.vals[b]=v)=true:=by simp[hno]
 obtain⟨S,hS⟩:∃S,S=stB (LTb g [u]) (.buf 1 0 m m) ud true (.buf 2 0 q q):=⟨_,rfl⟩;obtain⟨D,hD⟩:∃D,D=dnS dl:=⟨_,rfl⟩;obtain⟨N,hN⟩:∃N,N=nwS nl:=⟨_,rfl⟩;simp only[←hS,←hD,←hN,kn,ko]at c4 ⊢;simp only[aC,LV,aJ]at c3 c4;refine aG tok Tryz.func67 rfl rfl ?_;refine wx ?_;simp -dsimp[Tryz.f67,aI,aJ];refine wcE (c4 _ _) ?_;simp (maxSteps:=2000000) -implicitDefEqProofs -dsimp[hb,e1,e2];refine .inr ⟨aR (by kernel_rfl),?_⟩;refine av _ (aP (c3) (by simp)) ?_;simp -dsimp[hb,aJ,e1,e2]
theorem eqSt_ne{a b:ByteArray}(h:¬a=b):(a.toList == b.toList)=false:=by
 rw[mh];exact fun e=>h (eqSt_eq e)
theorem gj{t u:Tb}{c:Ch}(hv:aH t=0)(hk:TbOk t)(hs:ae t c=some u):aH u=0∧TbOk u:=by
 obtain⟨h1,h2,h3⟩:=ie hv hs;have:=bE h1;exact⟨h1,by rw[h2];exact hk.name,by rw[h3];exact hk.attrs,by omega,by rw[h3];exact hk.strs⟩
structure FTsS where
 i:Nat
 u:Tb
 f:Bool
 g:Bool
theorem fits_u(t:Tb)(f g h:Bool)(l:List Ch)(hv:aH t=0)(hk:TbOk t)(hl:l.length≤1000000):aK Tryz.prog 29 [aD f g t,.lst 11 h (l.map (aE false false))] fun r=>r = .bool (runT t l).isSome:=by
 obtain⟨E,hE⟩:∃E,E=(runT t l).isSome:=⟨_,rfl⟩;rw[←hE];refine sPx Tryz.func29 rfl rfl ?_;simp -dsimp[Tryz.f29,aI,aD,LS,LR];refine aO (W_loopM 86 0x3ffffffffffffffffff3d0 (by simp[mB]<;>rfl) (σ:=FTsS) (fun p=>p.i≤l.length∧aH p.u=0∧TbOk p.u∧(runT p.u (l.drop p.i)).isSome=E) (fun p=>l.length-p.i) (fun p=>[(12,.int .i64 p.i)]) (fun p=>[B.cells [.str p.u.name,.lst 1 p.f (p.u.attrs.map V.str),.lst 2 p.g (p.u.rows.map aC)]]) ⟨0,t,f,g⟩ ⟨by simp,hv,hk,by simpa using hE.symm⟩ (by simp) rfl (by simp) ?_);rintro⟨i,u,f',g'⟩ ⟨hi,hvu,hku,hx⟩ N Q hN hQ;simp only at hi hvu hku hx;by_cases hb:i<l.length
 ·rw[kT hb]at hx;obtain⟨c,hce⟩:∃c,c=l[i]:=⟨_,rfl⟩;rw[←hce]at hx;have hce':=hce.symm
  have hne:ae u c=none→E=false:=fun e=>by
   simp only[runT,e]at hx;exact hx.symm
  have hgo:∀w,ae u c=some w→(runT w (l.drop (i+1))).isSome=E∧aH w=0∧TbOk w:=fun w e=>by
   simp only[runT,e]at hx;exact⟨hx,gj hvu hku e⟩
  obtain⟨k,nm,tb,row,a,v⟩:=c;unfold ae at hne hgo;simp only at hne hgo;by_cases hn:nm=u.name
  case neg =>
   have hn':=eqSt_ne hn;rw[if_neg hn]at hne;have e0:=hne rfl;subst e0;refine wx ?_;simp -dsimp[hb,hce',aE,chC,hn'];refine hQ _ _ _ ?_;simp -dsimp[]
  simp only[if_pos hn]at hne hgo;subst hn;by_cases h2:k=2
  ·simp only[if_pos h2]at hne hgo;subst h2;have ci:=insert_u2 u f' g' row hvu hku;by_cases he:ai u row=0
   ·rw[gH he]at ci;obtain⟨hx2,hw1,hw2⟩:=hgo _ (if_pos he);obtain⟨D,hD⟩:∃D,D=cL u.rows row:=⟨_,rfl⟩;rw[←hD]at ci hx2 hw1 hw2;simp only[aD,LS,LR,aC,LV,wrT]at ci;refine wx ?_;simp -dsimp[hb,hce',aE,chC];refine cPx (ci) (by simp) ?_;simp -dsimp[aX i (by omega)];refine hN ⟨i+1,wrT u D,false,false⟩ _ _ ⟨by simp only;omega,hw1,hw2,hx2⟩ (by simp only;omega) (by simp) ⟨_,rfl⟩ (by simp) (by simp)
   ·rw[bJ (e:=ai u row) rfl he]at ci;have e0:=hne (if_neg he);subst e0;simp only[aD,LS,LR,aC,LV]at ci;refine wx ?_;simp -dsimp[hb,hce',aE,chC];refine cPx (ci) (by simp) ?_;simp -dsimp[zTb,he];refine hQ _ _ _ ?_;simp -dsimp[]
  ·simp only[if_neg h2]at hne hgo;have hr:=bE hvu;have hvr:=aw hvu;have cf:=dt u f' g' row.id (by omega);simp only[aD,LS,LR]at cf;by_cases hin:inT u row.id=true
   case neg =>
    have hf:(fnd u.rows row.id 0).2=false:=by simpa[inT] using hin
    rw[hf]at cf
    have hri:¬bh u row=true:=by unfold bh;simp[hin]
    have e0:=hne (if_neg hri);subst e0;refine wx ?_;simp -dsimp[hb,hce',aE,chC,h2];refine cPx (cf) (by simp) ?_;simp -dsimp[];refine .inr ⟨aR (by kernel_rfl),?_⟩;refine hQ _ _ _ ?_;simp -dsimp[]
   have hin':(fnd u.rows row.id 0).2=true:=hin;have hkl:=eo 0 hin';rw[hin']at cf;have hat:atT u row.id=rwG u.rows (fnd u.rows row.id 0).1:=rfl;obtain⟨kk,hke⟩:∃kk,kk=(fnd u.rows row.id 0).1:=⟨_,rfl⟩;simp only[←hke]at cf hkl hat;rw[bg hkl]at hat
   have hrv:u.rows[kk].vals.length≤1000000:=by
    have:=(hvr _ (kN hkl)).2.1;have:=hku.attrs;omega
   have c3:=jE u.rows[kk].vals row.vals false false hrv;obtain⟨rk,hrk⟩:∃rk,rk=u.rows[kk]:=⟨_,rfl⟩;rw[←hrk]at hat c3;simp only[LV]at c3;by_cases hvals:rk.vals=row.vals
   case neg =>
    rw[decide_eq_false hvals]at c3
    have hri:¬bh u row=true:=by unfold bh;rw[hat];simp[hvals]
    have e0:=hne (if_neg hri);subst e0;refine wx ?_;simp -dsimp[hb,hce',aE,chC,h2];refine cPx (cf) (by simp) ?_;simp -dsimp[hkl,hrk.symm,aC,LV];refine .inr ⟨aR (by kernel_rfl),?_⟩;refine av _ (aP (c3) (by simp)) ?_;simp -dsimp[];refine hQ _ _ _ ?_;simp -dsimp[]
   have hri:bh u row=true:=by unfold bh;rw[hat];simp[hin,hvals]
   simp only[if_pos hri]at hne hgo;rw[decide_eq_true hvals]at c3;by_cases h3:k=3
   ·simp only[if_pos h3]at hne hgo;subst h3;have ci:=delete_u u f' g' row.id hvu hku;unfold delV at ci;rw[if_pos hin]at ci;obtain⟨hx2,hw1,hw2⟩:=hgo _ rfl;obtain⟨D,hD⟩:∃D,D=cS u.rows row.id:=⟨_,rfl⟩;rw[←hD]at ci hx2 hw1 hw2;simp only[aD,LS,LR,wrT]at ci;refine wx ?_;simp -dsimp[hb,hce',aE,chC];refine cPx (cf) (by simp) ?_;simp -dsimp[hkl,hrk.symm,aC,LV];refine .inr ⟨aR (by kernel_rfl),?_⟩;refine av _ (aP (c3) (by simp)) ?_;simp -dsimp[];refine cPx (ci) (by simp) ?_;simp -dsimp[aX i (by omega)];refine hN ⟨i+1,wrT u D,false,false⟩ _ _ ⟨by simp only;omega,hw1,hw2,hx2⟩ (by simp only;omega) (by simp) ⟨_,rfl⟩ (by simp) (by simp)
   ·simp only[if_neg h3]at hne hgo;by_cases h4:k=4
    ·simp only[if_pos h4]at hne hgo;subst h4;have ci:=change_u u f' g' row.id a v hvu hku;unfold eu at ci;by_cases hcc:0≤a∧a<u.attrs.length∧aV v=true
     ·obtain⟨hx2,hw1,hw2⟩:=hgo _ (if_pos hcc);rw[iz hin (by omega) (by omega) hcc.2.2,if_pos rfl]at ci;obtain⟨D,hD⟩:∃D,D=eM u.rows row.id a.toNat v:=⟨_,rfl⟩;rw[←hD]at ci hx2 hw1 hw2;simp only[aD,LS,LR,wrT,aJ]at ci;refine wx ?_;simp -dsimp[hb,hce',aE,chC];refine cPx (cf) (by simp) ?_;simp -dsimp[hkl,hrk.symm,aC,LV];refine .inr ⟨aR (by kernel_rfl),?_⟩;refine av _ (aP (c3) (by simp)) ?_;simp -dsimp[];refine cPx (ci) (by simp) ?_;simp -dsimp[aX i (by omega)];refine hN ⟨i+1,wrT u D,false,false⟩ _ _ ⟨by simp only;omega,hw1,hw2,hx2⟩ (by simp only;omega) (by simp) ⟨_,rfl⟩ (by simp) (by simp)
     ·have e0:=hne (if_neg hcc);subst e0
      have hee:¬ev u row.id a v=0:=by
       unfold ev;rw[if_pos hin];intro hq;split at hq
       ·cases hq
       ·split at hq
        ·exact hcc ⟨by omega,by omega,by assumption⟩
        ·cases hq
      rw[if_neg hee]at ci;simp only[aD,LS,LR,zTb,aJ]at ci;refine wx ?_;simp -dsimp[hb,hce',aE,chC];refine cPx (cf) (by simp) ?_;simp -dsimp[hkl,hrk.symm,aC,LV];refine .inr ⟨aR (by kernel_rfl),?_⟩;refine av _ (aP (c3) (by simp)) ?_;simp -dsimp[];refine cPx (ci) (by simp) ?_;simp -dsimp[hee];refine hQ _ _ _ ?_;simp -dsimp[]
    ·have e0:=hne (if_neg h4);subst e0;refine wx ?_;simp -dsimp[hb,hce',aE,chC,h2];refine cPx (cf) (by simp) ?_;simp -dsimp[hkl,hrk.symm,aC,LV];refine .inr ⟨aR (by kernel_rfl),?_⟩;refine av _ (aP (c3) (by simp)) ?_;simp -dsimp[h2,h3,h4];refine hQ _ _ _ ?_;simp -dsimp[]
 ·obtain rfl:i=l.length:=by omega
  rw[List.drop_length]at hx;have e0:E=true:=hx.symm;subst e0;refine wx ?_;simp -dsimp[hb];refine hQ _ _ _ ?_;simp -dsimp[]
end
end Go.Proofs.YtpedcgdgjoblkaaGreatDoor
