/- JA21: own texts of this seat, joined and shortened by pack4.py: TN, TE, TF, TG, TH, TNb, UI. -/
import Derived.Test.YtpedcgdgjoblkaaGreatDoorJA20
set_option linter.unusedVariables false
set_option linter.unusedSimpArgs false
set_option maxRecDepth 100000
set_option maxHeartbeats 64000000
open ByteArray renaming empty→kI
open Int renaming eq_ofNat_of_zero_le→mQ,toNat_natCast→mT
open List renaming replicate→aI,getElem?_eq_getElem→kJ,getElem?_append_left→kL,getElem_mem→kN,getElem?_append_right→kO,getElem?_set_ne→kP,range→kQ,not_mem_nil→kS,getElem?_set_self→kW,append_nil→kX,take_succ_eq_append_getElem→kY,mem_cons→kZ,getElem?_map→kb,getElem?_take→kg,length_map→kh,take_length→km,getElem?_cons_succ→kp,getElem?_drop→kq,length_append→kr,append_assoc→kv,getElem?_eq_none→kz,take_append_drop→lA,length_take→lC,nil_append→lD,range_succ→lR,length_set→lS,getElem_of_mem→lX,ext_getElem?→lf,cons_append→lp,filter_append→mH,getElem?_set→mS,flatMap_append→mZ,getElem_take→mi,getElem_drop→mj,map_set→nA
open Nat renaming le_refl→kM,lt_or_ge→lJ,min_eq_left→li,add_zero→mM
open Option renaming map_some→kx
namespace Go.Proofs.YtpedcgdgjoblkaaGreatDoor
section
open Go Go.AM
def insV(t:Tb)(r:Rw):V:=.tup [if ai t r=0 then aD false false (wrT t (cL t.rows r)) else zTb,.int .i64 (ai t r)]
theorem bJ{t:Tb}{r:Rw}{e:Int}(h:ai t r=e)(h0:¬e=0):insV t r = .tup [zTb,.int .i64 e]:=by
 unfold insV;rw[h,if_neg h0]
theorem gH{t:Tb}{r:Rw}(h:ai t r=0):insV t r = .tup [aD false false (wrT t (cL t.rows r)),.int .i64 0]:=by
 unfold insV;rw[h,if_pos rfl]
theorem rwB_rb(n:Nat)(r:Rw):rbB n (.cells [.int .i64 r.id,.lst 3 false (r.vals.map aJ)]):=fun c hc=>by
 simp only[kZ,kS,or_false]at hc
 rcases hc with rfl | rfl<;>simp[rb,rb1]
theorem tbB_rb(n:Nat)(t:Tb)(f g:Bool):rbB n (.cells [.str t.name,.lst 1 f (t.attrs.map V.str),.lst 2 g (t.rows.map aC)]):=fun c hc=>by
 simp only[kZ,kS,or_false]at hc
 rcases hc with rfl | rfl | rfl<;>simp[rb,rb1]
theorem insert_u(t:Tb)(f g:Bool)(r:Rw)(hv:aH t=0)(hk:TbOk t)(hrl:r.vals.length≤1000000):aK Tryz.prog 62 [aD f g t,aC r] fun x=>x=insV t r:=by
 have c1:=cI t f g hk;rw[hv]at c1;have hr:=bE hv;have hvr:=aw hv;have cf:=dt t f g r.id (by omega);have cv:=validVals r.vals false hrl;simp only[aD,LS,LR]at c1 cf;simp only[LV]at cv;by_cases h6:r.vals.length=t.attrs.length
 case neg =>
  rw[bJ (e:=6) (by unfold ai;rw[if_pos h6]) (by decide)];refine sPx Tryz.func62 rfl rfl ?_;simp -dsimp[Tryz.f62,aI,aD,LS,LR,aC,LV];refine cPx (c1) (by simp) ?_;simp -dsimp[];refine cPx (cf) (by simp) ?_;simp -dsimp[show ¬(r.vals.length:Int)=t.attrs.length by omega,zTb]
 by_cases h1:r.id≤0
 case pos =>
  rw[bJ (e:=1) (by unfold ai;rw[if_neg (fun h=>h h6),if_pos (.inl h1)]) (by decide)];refine sPx Tryz.func62 rfl rfl ?_;simp -dsimp[Tryz.f62,aI,aD,LS,LR,aC,LV];refine cPx (c1) (by simp) ?_;simp -dsimp[];refine cPx (cf) (by simp) ?_;simp -dsimp[h6,h1,zTb]
 cases h2:r.vals.all aV with
 | false =>
  rw[h2]at cv;rw[bJ (e:=1) (by unfold ai;rw[if_neg (fun h=>h h6),if_pos (.inr h2)]) (by decide)];refine sPx Tryz.func62 rfl rfl ?_;simp -dsimp[Tryz.f62,aI,aD,LS,LR,aC,LV];refine cPx (c1) (by simp) ?_;simp -dsimp[];refine cPx (cf) (by simp) ?_;simp -dsimp[h6,h1];refine cPx (cv) (by simp) ?_;simp -dsimp[zTb]
 | true =>
 rw[h2]at cv
 have hno:¬(r.id≤0∨r.vals.all aV=false):=by rw[h2];simp[h1]
 cases h5:(fnd t.rows r.id 0).2 with
 | true =>
  rw[h5]at cf;rw[bJ (e:=5) (by unfold ai inT;rw[if_neg (fun h=>h h6),if_neg hno,if_pos h5]) (by decide)];refine sPx Tryz.func62 rfl rfl ?_;simp -dsimp[Tryz.f62,aI,aD,LS,LR,aC,LV];refine cPx (c1) (by simp) ?_;simp -dsimp[];refine cPx (cf) (by simp) ?_;simp -dsimp[h6,h1];refine cPx (cv) (by simp) ?_;simp -dsimp[zTb]
 | false =>
 rw[h5]at cf
 have h5':¬(fnd t.rows r.id 0).2=true:=by rw[h5];simp
 by_cases h3:1000≤t.rows.length
 case pos =>
  rw[bJ (e:=3) (by unfold ai inT;rw[if_neg (fun h=>h h6),if_neg hno,if_neg h5',if_pos h3]) (by decide)];refine sPx Tryz.func62 rfl rfl ?_;simp -dsimp[Tryz.f62,aI,aD,LS,LR,aC,LV];refine cPx (c1) (by simp) ?_;simp -dsimp[];refine cPx (cf) (by simp) ?_;simp -dsimp[h6,h1];refine cPx (cv) (by simp) ?_;simp -dsimp[show(1000:Int)≤t.rows.length by omega,zTb]
 have h0:ai t r=0:=by unfold ai inT;rw[if_neg (fun h=>h h6),if_neg hno,if_neg h5',if_neg h3]
 have hn:=(bo h0).2.2.2.1;have hix:=ins_ix (cP hv) hn;have hle:=plR_le (cP hv) r.id;have cb:=bsearchR t.rows r.id false (by omega);have cc:=jw r hrl;rw[gH h0];obtain⟨p,hp⟩:∃p,p=plR t.rows r.id:=⟨_,rfl⟩;rw[←hp]at hix hle cb;obtain⟨q,hq⟩:∃q,q=bsT t.rows r.id:=⟨_,rfl⟩;rw[←hq]at cb;have cw:=with_w t t.rows f g g hk.attrs (by omega) (fun s hs=>by have:=(hvr s hs).2.1;have:=hk.attrs;omega) (.cells [.str t.name,.lst 1 f (t.attrs.map V.str),.lst 2 g (t.rows.map aC)]) (.cells [.int .i64 r.id,.lst 3 false (r.vals.map aJ)]) (.cells [.str kI,.nilS,.nilS]) (fun k=>tbB_rb _ _ _ _) (fun k=>rwB_rb _ _) (fun k=>by simp);simp only[aD,LS,LR,aC,LV]at cw cb cc;refine sPx Tryz.func62 rfl rfl ?_;simp -dsimp[Tryz.f62,aI,aD,LS,LR,aC,LV];refine cPx (c1) (by simp) ?_;simp -dsimp[];refine cPx (cf) (by simp) ?_;simp -dsimp[h6,h1];refine cPx (cv) (by simp) ?_;simp -dsimp[show ¬(1000:Int)≤t.rows.length by omega];refine wcm cw ?_;rintro x H' ⟨rfl,A,A1,A2,rfl,hrb⟩;simp -dsimp[];refine(callX (args:=[.buf 6 0 t.rows.length t.rows.length,.int .i64 r.id,.fn 110 []]) (args':=[.lst 2 false (t.rows.map aC),.int .i64 r.id,.fn 110 []]) cb rfl (fun i a a' h1 h2=>?_) (.tup _ fun c hc=>?_)).mono ?_
 ·match i with
  | 0=>simp at h1 h2;subst h1;subst h2;exact fJ rfl (by simp) (by simp)
  | 1=>simp at h1 h2;subst h1;subst h2;exact .pure _ (.int _ _)
  | 2=>simp at h1 h2;subst h1;subst h2;exact .pure _ (.fn _)
  | i+3=>simp at h1
 ·simp at hc
  rcases hc with rfl | rfl
  ·exact .int _ _
  ·exact .bool _
 rintro x H' ⟨rfl,rfl⟩;simp -dsimp[];obtain⟨D,hD⟩:∃D,D=cL t.rows r:=⟨_,rfl⟩;rw[←hD]at hix ⊢
 have hDm:(t.rows.map aC).take p++V.agg [.int .i64 r.id,.lst 3 false (r.vals.map aJ)]::(t.rows.map aC).drop p=D.map aC:=by rw[hix];simp[aC,LV]
 have hDl:(D.map aC).length=t.rows.length+1:=by rw[hix];simp;omega
 obtain⟨B0,hB0⟩:∃B0:B,B0 = .cells [.str t.name,.lst 1 f (t.attrs.map V.str),.lst 2 g (t.rows.map aC)]:=⟨_,rfl⟩
 have ci:∀fl B1 B2 G7,aM Tryz.prog (.fn 111 []) [.buf 6 0 t.rows.length t.rows.length,.int .i64 p,.lst 2 fl [.agg [.int .i64 r.id,.lst 3 false (r.vals.map aJ)]]] [B0,B1,B2,A,A1,A2,.buf 41 2 (t.rows.map aC) false,G7] fun x H'=>x = .lst 2 false (D.map aC)∧H'=[B0,B1,B2,A,A1,A2,.buf 41 2 (D.map aC) true,G7]:=fun fl B1 B2 G7=>by
  have i1:=insR_con [B0,B1,B2,A,A1,A2,.buf 41 2 (t.rows.map aC) false,G7] 6 (t.rows.map aC) p fl (.agg [.int .i64 r.id,.lst 3 false (r.vals.map aJ)]) rfl (by simp;omega) (by simp;omega);rw[hDm]at i1;simp only[kh]at i1;refine(wcall_frz (k:=6) (e:=41) (z:=2) (xs:=D.map aC) (fz:=false) i1 rfl hDl).mono ?_;rintro x H' ⟨rfl,rfl⟩;exact⟨by rw[←hDl,km],rfl⟩
 simp only[hB0]at ci;refine aO (aS tok mixed [6,8] [] [(.agg [.int .i64 r.id,.lst 3 false (r.vals.map aJ)],[]),(.lst 2 false (D.map aC),[.cells [.str t.name,.lst 1 f (t.attrs.map V.str),.lst 2 g (t.rows.map aC)],.cells [.int .i64 r.id,.lst 3 false (r.vals.map aJ)],.cells [.str kI,.nilS,.nilS],A,A1,A2,.buf 41 2 (D.map aC) true,.cells [.str t.name,.lst 1 false (t.attrs.map V.str),.buf 6 0 t.rows.length t.rows.length]])] (by kernel_rfl) fun C K hC hK=>?_);simp -implicitDefEqProofs [];refine⟨⟨hC _ _ _ _ (aP cc (by simp)),hC _ _ _ _ (ci true _ _ _)⟩,hK _ _ ?_⟩;simp -dsimp[wrT];rfl
def setT(t:Tb)(i a:Nat)(v:Vl):Tb:=⟨t.name,t.attrs,t.rows.set i (setV (rwG t.rows i) a v)⟩
theorem expT{H:List B}{nm:ByteArray}{ats:List V}{m:Nat}{l:V}(hp:∀x∈ats,AM.Pure x)(h:ExpX H (.buf 7 0 m m) l):ExpX H (.tup [.agg [.str nm,.lst 1 false ats,.buf 7 0 m m],.int .i64 0]) (.tup [.agg [.str nm,.lst 1 false ats,l],.int .i64 0]):=by
 refine .tup _ _ rfl (fun i c d hc hd=>?_)
 match i with
 | 0 =>
  simp at hc hd;subst hc;subst hd;refine .agg _ _ rfl (fun j c d hc hd=>?_)
  match j with
  | 0=>simp at hc hd;subst hc;subst hd;exact .pure _ (by simp)
  | 1=>simp at hc hd;subst hc;subst hd;exact .pure _ (by simpa using hp)
  | 2=>simp at hc hd;subst hc;subst hd;exact h
  | k+3=>simp at hc
 | 1=>simp at hc hd;subst hc;subst hd;exact .pure _ (by simp)
 | k+2=>simp at hc
theorem chg_ok_r(t:Tb)(f g:Bool)(i a:Nat)(v:Vl)(h:aH t=0)(hk0:TbOk t)(hi:i<t.rows.length)(ha:a<t.attrs.length)(hv:aV v=true):aK Tryz.prog 36 [aD f g t,.agg [.int .i64 (rwG t.rows i).id,.int .i64 (a:Int)],aJ v] fun r=>r = .tup [aD false false (setT t i a v),.int .i64 0]:=by
 have hm:=bE h;have hn:=(tbC h).wide;have hln0:=(tbC h).len;have c1:=ib t f g hk0;rw[h]at c1;have hgi:=bg hi;have c2:=jm t f g (rwG t.rows i).id (by omega);rw[hgi,fnd_at hi (tbC h).ids i 0 (by omega)]at c2;have c3:=valid01 v;rw[hv]at c3;obtain⟨n,hne⟩:∃n,n=t.attrs.length:=⟨_,rfl⟩;have hne':=hne.symm
 have hln:∀j,j<t.rows.length→(rwG t.rows j).vals.length=n:=fun j hj=>by rw[bg hj,hne];exact hln0 _ (kN hj)
 have hli:=hln i hi;obtain⟨r,hr⟩:∃r,r=rwG t.rows i:=⟨_,rfl⟩;rw[←hr]at hgi hli ⊢;rw[←hgi]at c2;obtain⟨TB,hTB⟩:∃TB,TB=B.cells [.str t.name,.lst 1 f (t.attrs.map V.str),.lst 2 g (t.rows.map aC)]:=⟨_,rfl⟩;obtain⟨CB,hCB⟩:∃CB,CB=B.cells [.int .i64 r.id,.int .i64 (a:Int)]:=⟨_,rfl⟩;obtain⟨VB,hVB⟩:∃VB,VB=B.cells [.int .i64 v.k,.int .i64 v.n,.str v.s]:=⟨_,rfl⟩;obtain⟨ZB,hZB⟩:∃ZB,ZB=B.cells [.str kI,.nilS,.nilS]:=⟨_,rfl⟩
 have c4:=with_h t t.rows f g g (by omega) (fun e=>by rw[e]at ha;simp at ha) (by omega) (fun r' hr'=>by
  have:=hln0 r' hr'
  exact⟨by omega,fun e=>by rw[e]at this;simp at this;omega⟩) TB CB VB ZB (fun k=>by rw[hTB];simp) (fun k=>by rw[hCB];simp) (fun k=>by rw[hVB];simp) (fun k=>by rw[hZB];simp)
 rw[hTB,hCB,hVB,hZB]at c4;simp only[aD,LS,LR]at c1 c2 c4;simp only[aJ]at c3;refine bK (aG tok Tryz.func36 rfl rfl ?_);refine wx ?_;simp -dsimp[Tryz.f36,aI,aD,LS,LR,aJ];refine cPx (c1) (by simp) ?_;simp -dsimp[];refine cPx (c2) (by simp) ?_;simp -dsimp[show ¬((a:Int)<0) by omega,hne',show ¬((n:Int)≤(a:Int)) by omega];refine cPx (c3) (by simp) ?_;simp -dsimp[];refine wcall_of c4 ?_;rintro r' H' ⟨rfl,A,A1,A2,hH,hrb⟩
 have htb:TbH H' 7 (fun j=>10+3*j) t.rows:=by rw[hH];exact wh_tbh _ _ _ _ _ _ _ _
 have e0:H'[0]?=some (B.cells [.str t.name,.lst 1 f (t.attrs.map V.str),.lst 2 g (t.rows.map aC)]):=by rw[hH];rfl
 have e1:H'[1]?=some (B.cells [.int .i64 r.id,.int .i64 (a:Int)]):=by rw[hH];rfl
 have e2:H'[2]?=some (B.cells [.int .i64 v.k,.int .i64 v.n,.str v.s]):=by rw[hH];rfl
 have e3:H'[3]?=some (B.cells [.str kI,.nilS,.nilS]):=by rw[hH];rfl
 have hlen:H'.length=8+3*t.rows.length:=by rw[hH];simp[fM];omega
 clear hH;obtain⟨L,hL⟩:∃L,L=8+3*t.rows.length:=⟨_,rfl⟩;obtain⟨k,hk⟩:∃k,k=10+3*i:=⟨_,rfl⟩;rw[←hL]at hlen
 have hkL:k<L:=by omega
 have hki:(fun j=>10+3*j) i=k:=hk.symm;have e7:=htb.hk
 have ek:H'[k]?=some (.buf 43 3 (r.vals.map aJ) false):=by rw[hk,hr];exact htb.row i hi
 have gl:∀{x:Nat} {b:B},H'[x]?=some b→∀X,(H'++X)[x]?=some b:=fun {x b} hx X=>by rw[kL (aB hx)];exact hx
 obtain⟨T11,hT11⟩:∃T11,T11=B.cells [.str t.name,.lst 1 false (t.attrs.map V.str),.buf 7 0 t.rows.length t.rows.length]:=⟨_,rfl⟩
 obtain⟨EL,hEL⟩:∃EL,EL=(kQ t.rows.length).map fun j=>V.agg [.int .i64 (rwG t.rows j).id,.buf (10+3*j) 0 (rwG t.rows j).vals.length (rwG t.rows j).vals.length]:=⟨_,rfl⟩
 have hELl:EL.length=t.rows.length:=by rw[hEL];simp
 have hELi:∀h:i<EL.length,EL[i] = .agg [.int .i64 r.id,.buf k 0 n n]:=fun h=>by subst hEL;simp[hk,←hr,hli]
 have e7':H'[7]?=some (B.buf 41 2 EL false):=by rw[hEL];exact e7
 have x1:=fun X=>gl e1 X
 have x2:=fun X=>gl e2 X
 have x3:=fun X=>gl e3 X
 have x7:=fun X=>gl e7' X
 have xk:=fun X=>gl ek X
 have x1':=fun X=>bB (x1 X)
 have x2':=fun X=>bB (x2 X)
 have x7':=fun X=>bB (x7 X)
 have xk':=fun X=>bB (xk X)
 have xL:∀X:List B,(H'++X)[L]?=X[0]?:=fun X=>by rw[←hlen];exact ei H' X
 have xL':∀A X,∀h,(H'++A::X)[L]'h=A:=fun A X=>bB (by rw[xL];rfl)
 have hvs:((r.vals.map aJ).set a (V.agg [.int .i64 v.k,.int .i64 v.n,.str v.s]))=(r.vals.map aJ).set a (aJ v):=rfl
 have hlk:∀Y,(H'.set k Y).length=L:=fun Y=>by rw[lS,hlen]
 have hlk3:∀Y Z,((H'.set k Y).set 3 Z).length=L:=fun Y Z=>by rw[lS,lS,hlen]
 have yL:∀Y X,(H'.set k Y++X)[L]?=X[0]?:=fun Y X=>by
  have:=ei (H'.set k Y) X
  rwa [hlk]at this
 have y3:∀Y X,(H'.set k Y++X)[3]?=some (B.cells [.str kI,.nilS,.nilS]):=fun Y X=>by
  rw[kL (by rw[hlk];omega),kP (by omega)];exact e3
 have yL':∀Y A X,∀h,(H'.set k Y++A::X)[L]'h=A:=fun Y A X=>bB (by rw[yL];rfl)
 have y3':=fun Y X=>bB (y3 Y X)
 have z3:∀Y Z X,((H'.set k Y).set 3 Z++X)[3]?=some Z:=fun Y Z X=>by rw[kL (by rw[hlk3];omega),kW (by rw[hlk];omega)]
 have z3':=fun Y Z X=>bB (z3 Y Z X)
 have hLb:7<L∧3<L:=by omega
 simp -dsimp[hlen];refine aO (aS tok mixed [10] [] [] (by kernel_rfl) fun C K hC hK=>?_);simp -implicitDefEqProofs [x1,x2,x7,xk,x1',x2',x7',xk',xL,xL',hELl,hELi,hi,hlen,hLb,hkL,hli,hne',ha,show a<n by omega,aJ];refine hK _ _ ?_;simp -dsimp[yL,yL',y3,y3',hlk,hlk3,z3,z3',hlen,hLb,hkL,show 3<L+1 by omega];have t1:=((htb.set (a:=a) hi v).other (x:=3) (by omega) (fun j _=>by show 3≠10+3*j;omega) (B.cells [V.str t.name,V.lst 1 false (List.map V.str t.attrs),V.buf 7 0 t.rows.length t.rows.length])).app [B.cells [V.str t.name,V.lst 1 false (List.map V.str t.attrs),V.buf 7 0 t.rows.length t.rows.length]];simp only[aD,LS,setT,←hr];refine expT (by simp) ?_;have t2:=t1.exp;rw[lS,←hr]at t2;rw[hk];exact t2
theorem copied_gT(H:List B)(id:Int)(vs:List Vl)(hc:aM Tryz.prog (.fn 89 []) [(.lst 3 false (vs.map aJ))] (H++[B.cells [.int .i64 id,(.lst 3 false (vs.map aJ))],B.cells [.int .i64 0,.nilS]]) fun r H'=>r = .buf (H.length+2) 0 vs.length vs.length∧H'=H++[B.cells [.int .i64 id,(.lst 3 false (vs.map aJ))],B.cells [.int .i64 0,.nilS],B.buf 43 3 (vs.map aJ) false]):
  aT Tryz.prog 112 [.agg [.int .i64 id,(.lst 3 false (vs.map aJ))]] H fun x H'=>x = .agg [.int .i64 id,.buf (H.length+2) 0 vs.length vs.length]∧H'=H++cpB H.length id (.lst 3 false (vs.map aJ)) vs false:=by
 refine aG tok Tryz.func112 rfl rfl ?_;refine wx ?_;simp -dsimp[Tryz.f112,aI,eh,ef,ei,jf,iL,iK];refine aO (aS tok mixed [4,6] [(1,[1])] [(.buf (H.length+2) 0 vs.length vs.length,H++[B.cells [.int .i64 id,(.lst 3 false (vs.map aJ))],B.cells [.int .i64 0,.nilS],B.buf 43 3 (vs.map aJ) false])] (by kernel_rfl) fun C K hC hK=>?_);simp -implicitDefEqProofs [eh,ef,ei,jf,iL,iK];refine⟨hC _ _ _ _ hc,hK _ _ ?_⟩;simp -dsimp[eh,ef,ei,jf,iL,iK];simp[cpB]
theorem copied_oT(H:List B)(r:Rw)(hl:r.vals.length≤1000000):aT Tryz.prog 112 [aC r] H fun x H'=>x = .agg [.int .i64 r.id,.buf (H.length+2) 0 r.vals.length r.vals.length]∧H'=H++cpB H.length r.id (LV false r.vals) r.vals false :=
 copied_gT H r.id r.vals (by
  have:=clone_at (H++[B.cells [.int .i64 r.id,LV false r.vals],B.cells [.int .i64 0,.nilS]]) r.vals hl
  simpa[kv,LV] using this)
def cpT4(L:Nat)(r:Rw):List B:=B.cells [.int .i64 r.id,.lst 3 false (r.vals.map aJ)]::cpB (L+1) r.id (.lst 3 false (r.vals.map aJ)) r.vals false
def eJ(rs:List Rw)(i:Nat):List V:=(kQ i).map fun j=>.agg [.int .i64 (rwG rs j).id,.buf (11+4*j) 0 (rwG rs j).vals.length (rwG rs j).vals.length]
def dX(rs:List Rw)(i:Nat):List B:=(kQ i).flatMap fun j=>cpT4 (8+4*j) (rwG rs j)
theorem dW(rs:List Rw)(i:Nat):(dX rs i).length=4*i:=by
 induction i with
 | zero=>rfl
 | succ i ih=>simp only[dX,lR,mZ,kr]at ih ⊢;rw[ih];simp[cpT4,cpB];omega
theorem iB(rs:List Rw)(i:Nat):dX rs (i+1)=dX rs i++cpT4 (8+4*i) (rwG rs i):=by simp[dX,lR]
theorem elE_succ4(rs:List Rw)(i:Nat):eJ rs (i+1)=eJ rs i++[.agg [.int .i64 (rwG rs i).id,.buf (11+4*i) 0 (rwG rs i).vals.length (rwG rs i).vals.length]]:=by simp[eJ,lR]
theorem elE_len4(rs:List Rw)(i:Nat):(eJ rs i).length=i:=by simp[eJ]
theorem cpG_at4(rs:List Rw){i j:Nat}(h:j<i):(dX rs i)[4*j+3]?=some (.buf 43 3 ((rwG rs j).vals.map aJ) false):=by
 induction i with
 | zero=>omega
 | succ i ih =>
  rw[iB]
  rcases lJ j i with e | e
  ·rw[kL (by rw[dW];omega)];exact ih e
  ·have:j=i:=by omega
   subst this;rw[kO (by rw[dW];omega),dW,show 4*j+3-4*j=3 by omega];rfl
theorem cpG_rb4(rs:List Rw)(i:Nat):∀bl∈dX rs i,rbB (8+4*i) bl:=by
 induction i with
 | zero=>intro bl h;cases h
 | succ i ih =>
  intro bl h;rw[iB]at h
  rcases List.mem_append.1 h with h | h
  ·exact eT (by omega) (ih bl h)
  ·unfold cpT4 cpB at h;simp only[kZ,kS,or_false]at h
   rcases h with rfl | rfl | rfl | rfl
   ·simp
   ·simp
   ·simp;omega
   ·simp
theorem elE_rb4(rs:List Rw)(e i:Nat)(fz:Bool):rbB (8+4*i) (.buf e 2 (eJ rs i) fz):=by
 intro x hx c hc;obtain⟨j,hj,rfl⟩:=List.mem_map.1 hx;have hj:=List.mem_range.1 hj;simp[V.cells]at hc
 rcases hc with rfl | rfl
 ·trivial
 ·show 11+4*j<8+4*i;omega
theorem wh_rb4{t:Tb}{rs:List Rw}{f g:Bool}{c0 c1 c2 c3:B}(hb0:∀k,rbB k c0)(hb1:∀k,rbB k c1)(hb2:∀k,rbB k c2)(hb3:∀k,rbB k c3)(i:Nat):∀bl∈c0::c1::c2::c3::B.cells [.str t.name,.lst 1 f (t.attrs.map V.str),.lst 2 g (t.rows.map aC)]::B.cells [.str kI,.nilS,.nilS]::B.cells [.str t.name,.lst 1 false (t.attrs.map V.str),.buf 7 0 i i]::B.buf 41 2 (eJ rs i) false::dX rs i,rbB (c0::c1::c2::c3::B.cells [.str t.name,.lst 1 f (t.attrs.map V.str),.lst 2 g (t.rows.map aC)]::B.cells [.str kI,.nilS,.nilS]::B.cells [.str t.name,.lst 1 false (t.attrs.map V.str),.buf 7 0 i i]::B.buf 41 2 (eJ rs i) false::dX rs i).length bl:=by
 have hlen:(c0::c1::c2::c3::B.cells [.str t.name,.lst 1 f (t.attrs.map V.str),.lst 2 g (t.rows.map aC)]::B.cells [.str kI,.nilS,.nilS]::B.cells [.str t.name,.lst 1 false (t.attrs.map V.str),.buf 7 0 i i]::B.buf 41 2 (eJ rs i) false::dX rs i).length=8+4*i:=by simp[dW];omega
 rw[hlen];intro bl h
 rcases List.mem_cons.1 h with rfl | h
 ·exact hb0 _
 rcases List.mem_cons.1 h with rfl | h
 ·exact hb1 _
 rcases List.mem_cons.1 h with rfl | h
 ·exact hb2 _
 rcases List.mem_cons.1 h with rfl | h
 ·exact hb3 _
 rcases List.mem_cons.1 h with rfl | h
 ·simp
 rcases List.mem_cons.1 h with rfl | h
 ·simp
 rcases List.mem_cons.1 h with rfl | h
 ·simp;omega
 rcases List.mem_cons.1 h with rfl | h
 ·exact elE_rb4 rs _ i _
 ·exact cpG_rb4 rs i bl h
theorem with_hp(t:Tb)(rs:List Rw)(f g h:Bool)(ha:t.attrs.length≤1000000)(hr:rs.length≤1000000)(hv:∀r∈rs,r.vals.length≤1000000)(c0 c1 c2 c3:B)(hb0:∀k,rbB k c0)(hb1:∀k,rbB k c1)(hb2:∀k,rbB k c2)(hb3:∀k,rbB k c3):
  aT Tryz.prog 108 [aD f g t,LR h rs] [c0,c1,c2,c3] fun x H'=>x = .agg [.str t.name,.lst 1 false (t.attrs.map V.str),.buf 7 0 rs.length rs.length]∧∃A A1 A2,H'=c0::c1::c2::c3::A::A1::A2::B.buf 41 2 (eJ rs rs.length) false::dX rs rs.length∧(∀k,7<k→rbB k A∧rbB k A1∧rbB k A2):=by
 have cc:=iy t.attrs f ha;simp only[LS]at cc;refine aG tok Tryz.func108 rfl rfl ?_;refine wx ?_;simp -dsimp[Tryz.f108,aI,aD,LS,LR];refine aO (aS tok mixed [6,7] [(0,[1]),(1,[1]),(2,[1]),(3,[1]),(4,[1]),(5,[1])] [(.lst 1 false (t.attrs.map V.str),[])] (by kernel_rfl) fun C K hC hK=>?_);simp -implicitDefEqProofs [];refine⟨⟨hC _ _ _ _ (aP cc (by simp)),hC _ _ _ _ (aP cc (by simp))⟩,hK _ _ ?_⟩;simp -dsimp[];refine aO (cO 41 2 [] 6 [2] rfl (bu _ _) (by simp) (W_loopM 28 0xfff3080 (by simp[mB]<;>rfl) (σ:=Nat) (fun i=>i≤rs.length) (fun i=>rs.length-i) (fun i=>[(16,.int .i64 i)]) (fun i=>c0::c1::c2::c3::B.cells [.str t.name,.lst 1 f (t.attrs.map V.str),.lst 2 g (t.rows.map aC)]::B.cells [.str kI,.nilS,.nilS]::B.cells [.str t.name,.lst 1 false (t.attrs.map V.str),.buf 7 0 i i]::B.buf 41 2 (eJ rs i) false::dX rs i) 0 (by omega) (by simp) (by simp[eJ,dX]) (by simp) ?_));intro i hi N Q hN hQ;have hll:=elE_len4 rs i;have hgl:=dW rs i;by_cases hb:i<rs.length
 ·have h1:=hv rs[i] (kN hb);have hgi:=bg hb;obtain⟨r,hre⟩:∃r,r=rs[i]:=⟨_,rfl⟩;rw[←hre]at h1 hgi;have hre':=hre.symm;have hc:=copied_oT (c0::c1::c2::c3::B.cells [.str t.name,.lst 1 f (t.attrs.map V.str),.lst 2 g (t.rows.map aC)]::B.cells [.str kI,.nilS,.nilS]::B.cells [.str t.name,.lst 1 false (t.attrs.map V.str),.buf 7 0 i i]::B.buf 41 2 (eJ rs i) false::dX rs i++[B.cells [.int .i64 r.id,.lst 3 false (r.vals.map aJ)]]) r h1;have hes:=elE_succ4 rs i;have hgs:=iB rs i;rw[hgi]at hes hgs
  have hlen:(c0::c1::c2::c3::B.cells [.str t.name,.lst 1 f (t.attrs.map V.str),.lst 2 g (t.rows.map aC)]::B.cells [.str kI,.nilS,.nilS]::B.cells [.str t.name,.lst 1 false (t.attrs.map V.str),.buf 7 0 i i]::B.buf 41 2 (eJ rs i) false::dX rs i++[B.cells [.int .i64 r.id,.lst 3 false (r.vals.map aJ)]]).length=9+4*i:=by simp[hgl];omega
  have hlen0:(c0::c1::c2::c3::B.cells [.str t.name,.lst 1 f (t.attrs.map V.str),.lst 2 g (t.rows.map aC)]::B.cells [.str kI,.nilS,.nilS]::B.cells [.str t.name,.lst 1 false (t.attrs.map V.str),.buf 7 0 i i]::B.buf 41 2 (eJ rs i) false::dX rs i).length=8+4*i:=by simp[hgl];omega
  rw[hlen,show 9+4*i+2=11+4*i by omega]at hc
  have hcp:cpT4 (8+4*i) r=B.cells [.int .i64 r.id,.lst 3 false (r.vals.map aJ)]::cpB (9+4*i) r.id (.lst 3 false (r.vals.map aJ)) r.vals false:=by unfold cpT4;rw[show 8+4*i+1=9+4*i by omega]
  rw[hcp]at hgs;simp only[aC,LV,lp,kv,lD,←hgs]at hc;have hrb:=wh_rb4 (t:=t) (rs:=rs) (f:=f) (g:=g) hb0 hb1 hb2 hb3 (i+1)
  have hgx:(dX rs i++[B.cells [V.int IntKind.i64 r.id,V.lst 3 false (r.vals.map aJ)]])[4*i]?=some (B.cells [V.int IntKind.i64 r.id,V.lst 3 false (r.vals.map aJ)]):=by rw[kO (by omega),hgl];simp
  have hgx':=bB hgx;refine wx ?_;simp -dsimp[hb,hre',aC,LV,hgl];refine aO (aS tok mixed [3,5,7] [(1,[1])] [(.agg [.int .i64 r.id,.buf (11+4*i) 0 r.vals.length r.vals.length],c0::c1::c2::c3::B.cells [.str t.name,.lst 1 f (t.attrs.map V.str),.lst 2 g (t.rows.map aC)]::B.cells [.str kI,.nilS,.nilS]::B.cells [.str t.name,.lst 1 false (t.attrs.map V.str),.buf 7 0 i i]::B.buf 41 2 (eJ rs i) false::dX rs (i+1))] (by kernel_rfl) fun C K hC hK=>?_);simp -implicitDefEqProofs [hgx,hgx',hgl,hll,ew i (by omega)];refine⟨hC _ _ _ _ hc,hK _ _ ?_⟩;simp -dsimp[aX i (by omega)];refine hN (i+1) _ _ (by omega) (by omega) (by simp) ⟨[],by simp[hes]⟩ (by simp) hrb
 ·obtain rfl:i=rs.length:=by omega
  refine wx ?_;simp -dsimp[hb];refine hQ _ _ _ ?_;simp -dsimp[];exact⟨_,_,_,⟨rfl,rfl,rfl⟩,fun k hk=>⟨by simp,by simp;exact hk,by simp;exact hk⟩⟩
theorem wh_tbh4(rs:List Rw)(c0 c1 c2 c3 c4 c5 c6:B):TbH (c0::c1::c2::c3::c4::c5::c6::B.buf 41 2 (eJ rs rs.length) false::dX rs rs.length) 7 (fun j=>11+4*j) rs:=by
 refine⟨rfl,fun j hj=>?_,fun i j _ _ h=>by have h:11+4*i=11+4*j:=h;omega,fun j _=>by show 11+4*j≠7;omega⟩;have:=cpG_at4 rs hj;show(c0::c1::c2::c3::c4::c5::c6::B.buf 41 2 (eJ rs rs.length) false::dX rs rs.length)[11+4*j]?=_;rw[show 11+4*j=(4*j+3)+8 by omega];simp only[kp];exact this
theorem chg_ok_u(t:Tb)(f g:Bool)(i a:Nat)(v:Vl)(h:aH t=0)(hk0:TbOk t)(hi:i<t.rows.length)(ha:a<t.attrs.length)(hv:aV v=true):aK Tryz.prog 64 [aD f g t,.agg [.int .i64 (rwG t.rows i).id,.int .i64 (a:Int)],aJ v] fun r=>r = .tup [aD false false (setT t i a v),.int .i64 0]:=by
 have hm:=bE h;have hn:=(tbC h).wide;have hln0:=(tbC h).len;have c1:=cI t f g hk0;rw[h]at c1;have hgi:=bg hi;have c2:=dt t f g (rwG t.rows i).id (by omega);rw[hgi,fnd_at hi (tbC h).ids i 0 (by omega)]at c2;have c3:=co v;rw[hv]at c3;obtain⟨n,hne⟩:∃n,n=t.attrs.length:=⟨_,rfl⟩;have hne':=hne.symm
 have hln:∀j,j<t.rows.length→(rwG t.rows j).vals.length=n:=fun j hj=>by rw[bg hj,hne];exact hln0 _ (kN hj)
 have hli:=hln i hi;obtain⟨r,hr⟩:∃r,r=rwG t.rows i:=⟨_,rfl⟩;rw[←hr]at hgi hli ⊢;rw[←hgi]at c2;obtain⟨TB,hTB⟩:∃TB,TB=B.cells [.str t.name,.lst 1 f (t.attrs.map V.str),.lst 2 g (t.rows.map aC)]:=⟨_,rfl⟩;obtain⟨CB,hCB⟩:∃CB,CB=B.cells [.int .i64 r.id,.int .i64 (a:Int)]:=⟨_,rfl⟩;obtain⟨VB,hVB⟩:∃VB,VB=B.cells [.int .i64 v.k,.int .i64 v.n,.str v.s]:=⟨_,rfl⟩;obtain⟨ZB,hZB⟩:∃ZB,ZB=B.cells [.str kI,.nilS,.nilS]:=⟨_,rfl⟩
 have c4:=with_hp t t.rows f g g (by omega) (by omega) (fun r' hr'=>by
  have:=hln0 r' hr'
  omega) TB CB VB ZB (fun k=>by rw[hTB];simp) (fun k=>by rw[hCB];simp) (fun k=>by rw[hVB];simp) (fun k=>by rw[hZB];simp)
 rw[hTB,hCB,hVB,hZB]at c4;simp only[aD,LS,LR]at c1 c2 c4;simp only[aJ]at c3;refine bK (aG tok Tryz.func64 rfl rfl ?_);refine wx ?_;simp -dsimp[Tryz.f64,aI,aD,LS,LR,aJ];refine cPx (c1) (by simp) ?_;simp -dsimp[];refine cPx (c2) (by simp) ?_;simp -dsimp[show ¬((a:Int)<0) by omega,hne',show ¬((n:Int)≤(a:Int)) by omega];refine cPx (c3) (by simp) ?_;simp -dsimp[];refine wcall_of c4 ?_;rintro r' H' ⟨rfl,A,A1,A2,hH,hrb⟩
 have htb:TbH H' 7 (fun j=>11+4*j) t.rows:=by rw[hH];exact wh_tbh4 _ _ _ _ _ _ _ _
 have e0:H'[0]?=some (B.cells [.str t.name,.lst 1 f (t.attrs.map V.str),.lst 2 g (t.rows.map aC)]):=by rw[hH];rfl
 have e1:H'[1]?=some (B.cells [.int .i64 r.id,.int .i64 (a:Int)]):=by rw[hH];rfl
 have e2:H'[2]?=some (B.cells [.int .i64 v.k,.int .i64 v.n,.str v.s]):=by rw[hH];rfl
 have e3:H'[3]?=some (B.cells [.str kI,.nilS,.nilS]):=by rw[hH];rfl
 have hlen:H'.length=8+4*t.rows.length:=by rw[hH];simp[dW];omega
 clear hH;obtain⟨L,hL⟩:∃L,L=8+4*t.rows.length:=⟨_,rfl⟩;obtain⟨k,hk⟩:∃k,k=11+4*i:=⟨_,rfl⟩;rw[←hL]at hlen
 have hkL:k<L:=by omega
 have hki:(fun j=>11+4*j) i=k:=hk.symm;have e7:=htb.hk
 have ek:H'[k]?=some (.buf 43 3 (r.vals.map aJ) false):=by rw[hk,hr];exact htb.row i hi
 have gl:∀{x:Nat} {b:B},H'[x]?=some b→∀X,(H'++X)[x]?=some b:=fun {x b} hx X=>by rw[kL (aB hx)];exact hx
 obtain⟨T11,hT11⟩:∃T11,T11=B.cells [.str t.name,.lst 1 false (t.attrs.map V.str),.buf 7 0 t.rows.length t.rows.length]:=⟨_,rfl⟩
 obtain⟨EL,hEL⟩:∃EL,EL=(kQ t.rows.length).map fun j=>V.agg [.int .i64 (rwG t.rows j).id,.buf (11+4*j) 0 (rwG t.rows j).vals.length (rwG t.rows j).vals.length]:=⟨_,rfl⟩
 have hELl:EL.length=t.rows.length:=by rw[hEL];simp
 have hELi:∀h:i<EL.length,EL[i] = .agg [.int .i64 r.id,.buf k 0 n n]:=fun h=>by subst hEL;simp[hk,←hr,hli]
 have e7':H'[7]?=some (B.buf 41 2 EL false):=by rw[hEL];exact e7
 have x1:=fun X=>gl e1 X
 have x2:=fun X=>gl e2 X
 have x3:=fun X=>gl e3 X
 have x7:=fun X=>gl e7' X
 have xk:=fun X=>gl ek X
 have x1':=fun X=>bB (x1 X)
 have x2':=fun X=>bB (x2 X)
 have x7':=fun X=>bB (x7 X)
 have xk':=fun X=>bB (xk X)
 have xL:∀X:List B,(H'++X)[L]?=X[0]?:=fun X=>by rw[←hlen];exact ei H' X
 have xL':∀A X,∀h,(H'++A::X)[L]'h=A:=fun A X=>bB (by rw[xL];rfl)
 have hvs:((r.vals.map aJ).set a (V.agg [.int .i64 v.k,.int .i64 v.n,.str v.s]))=(r.vals.map aJ).set a (aJ v):=rfl
 have hlk:∀Y,(H'.set k Y).length=L:=fun Y=>by rw[lS,hlen]
 have hlk3:∀Y Z,((H'.set k Y).set 3 Z).length=L:=fun Y Z=>by rw[lS,lS,hlen]
 have yL:∀Y X,(H'.set k Y++X)[L]?=X[0]?:=fun Y X=>by
  have:=ei (H'.set k Y) X
  rwa [hlk]at this
 have y3:∀Y X,(H'.set k Y++X)[3]?=some (B.cells [.str kI,.nilS,.nilS]):=fun Y X=>by
  rw[kL (by rw[hlk];omega),kP (by omega)];exact e3
 have yL':∀Y A X,∀h,(H'.set k Y++A::X)[L]'h=A:=fun Y A X=>bB (by rw[yL];rfl)
 have y3':=fun Y X=>bB (y3 Y X)
 have z3:∀Y Z X,((H'.set k Y).set 3 Z++X)[3]?=some Z:=fun Y Z X=>by rw[kL (by rw[hlk3];omega),kW (by rw[hlk];omega)]
 have z3':=fun Y Z X=>bB (z3 Y Z X)
 have hLb:7<L∧3<L:=by omega
 simp -dsimp[hlen];refine aO (aS tok mixed [10] [] [] (by kernel_rfl) fun C K hC hK=>?_);simp -implicitDefEqProofs [x1,x2,x7,xk,x1',x2',x7',xk',xL,xL',hELl,hELi,hi,hlen,hLb,hkL,hli,hne',ha,show a<n by omega,aJ];refine hK _ _ ?_;simp -dsimp[yL,yL',y3,y3',hlk,hlk3,z3,z3',hlen,hLb,hkL,show 3<L+1 by omega];have t1:=((htb.set (a:=a) hi v).other (x:=3) (by omega) (fun j _=>by show 3≠11+4*j;omega) (B.cells [V.str t.name,V.lst 1 false (List.map V.str t.attrs),V.buf 7 0 t.rows.length t.rows.length])).app [B.cells [V.str t.name,V.lst 1 false (List.map V.str t.attrs),V.buf 7 0 t.rows.length t.rows.length]];simp only[aD,LS,setT,←hr];refine expT (by simp) ?_;have t2:=t1.exp;rw[lS,←hr]at t2;rw[hk];exact t2
theorem chg_set{rs:List Rw}(hs:Srt rs){i:Nat}(h:i<rs.length)(a:Nat)(v:Vl):eM rs rs[i].id a v=rs.set i (setV (rwG rs i) a v):=by
 have hp:=List.pairwise_iff_getElem.1 hs
 refine lf fun j=>?_
 unfold eM;rw[kb,mS];by_cases hj:j<rs.length
 ·rw[kJ hj,kx];by_cases e:i=j
  ·subst e;rw[if_pos rfl,if_pos rfl,if_pos h,bg h];rfl
  ·rw[if_neg e,if_neg];intro e2
   rcases Nat.lt_or_gt_of_ne e with q | q
   ·have:=hp i j h hj q;omega
   ·have:=hp j i hj h q;omega
 ·rw[kz (by omega),if_neg (by omega)];rfl
def ev(t:Tb)(id a:Int)(v:Vl):Int:=if inT t id=true then(if a<0∨(t.attrs.length:Int)≤a then 6 else if aV v=true then 0 else 1) else 4
def eu(t:Tb)(id a:Int)(v:Vl):V:=.tup [if ev t id a v=0 then aD false false (wrT t (eM t.rows id a.toNat v)) else zTb,.int .i64 (ev t id a v)]
theorem cT{t:Tb}{id a:Int}{v:Vl}{e:Int}(h:ev t id a v=e)(h0:¬e=0):eu t id a v = .tup [zTb,.int .i64 e]:=by
 unfold eu;rw[h,if_neg h0]
theorem iz{t:Tb}{id a:Int}{v:Vl}(h:inT t id=true)(h1:¬a<0)(h2:¬(t.attrs.length:Int)≤a)(h3:aV v=true):ev t id a v=0:=by
 unfold ev;rw[if_pos h,if_neg (by omega),if_pos h3]
theorem chg_ok{t:Tb}{id a:Int}{v:Vl}(hv:aH t=0)(h:inT t id=true)(h1:¬a<0)(h2:¬(t.attrs.length:Int)≤a)(h3:aV v=true):∃i:Nat,∃_:i<t.rows.length,∃b:Nat,b<t.attrs.length∧a=(b:Int)∧(rwG t.rows i).id=id∧eu t id a v = .tup [aD false false (setT t i b v),.int .i64 0]:=by
 have hkl:=eo 0 h;obtain⟨hid,_⟩:=fnd_id 0 h;obtain⟨b,hb⟩:=mQ (show 0≤a by omega);refine⟨_,hkl,b,by omega,hb,hid,?_⟩;have e:=chg_set (cP hv) hkl b v;rw[←bg hkl,hid]at e;unfold eu;rw[iz h h1 h2 h3,if_pos rfl,hb];simp only[mT];rw[e];rfl
theorem change_r(t:Tb)(f g:Bool)(id a:Int)(v:Vl)(hv:aH t=0)(hk:TbOk t):aK Tryz.prog 36 [aD f g t,.agg [.int .i64 id,.int .i64 a],aJ v] fun r=>r=eu t id a v:=by
 have c1:=ib t f g hk;rw[hv]at c1;have hr:=bE hv;have cf:=jm t f g id (by omega);have c3:=valid01 v;obtain⟨k,hke⟩:∃k,k=(fnd t.rows id 0).1:=⟨_,rfl⟩;by_cases hin:inT t id=true
 case neg =>
  have hin':(fnd t.rows id 0).2=false:=by simpa[inT] using hin
  rw[hin',←hke]at cf;have e:eu t id a v = .tup [zTb,.int .i64 4]:=cT (by unfold ev;rw[if_neg hin]) (by decide);rw[e];simp only[aD,LS,LR]at c1 cf;refine sPx Tryz.func36 rfl rfl ?_;simp -dsimp[Tryz.f36,aI,aD,LS,LR,aJ];refine cPx (c1) (by simp) ?_;simp -dsimp[];refine cPx (cf) (by simp) ?_;simp -dsimp[];rfl
 have hin':(fnd t.rows id 0).2=true:=hin;by_cases h1:a<0
 case pos =>
  rw[hin',←hke]at cf;have e:eu t id a v = .tup [zTb,.int .i64 6]:=cT (by unfold ev;rw[if_pos hin,if_pos (Or.inl h1)]) (by decide);rw[e];simp only[aD,LS,LR]at c1 cf;refine sPx Tryz.func36 rfl rfl ?_;simp -dsimp[Tryz.f36,aI,aD,LS,LR,aJ];refine cPx (c1) (by simp) ?_;simp -dsimp[];refine cPx (cf) (by simp) ?_;simp -dsimp[h1];rfl
 by_cases h2:(t.attrs.length:Int)≤a
 case pos =>
  rw[hin',←hke]at cf;have e:eu t id a v = .tup [zTb,.int .i64 6]:=cT (by unfold ev;rw[if_pos hin,if_pos (Or.inr h2)]) (by decide);rw[e];simp only[aD,LS,LR]at c1 cf;refine sPx Tryz.func36 rfl rfl ?_;simp -dsimp[Tryz.f36,aI,aD,LS,LR,aJ];refine cPx (c1) (by simp) ?_;simp -dsimp[];refine cPx (cf) (by simp) ?_;simp -dsimp[h1,h2];rfl
 cases h3:aV v with
 | false =>
  rw[hin',←hke]at cf;rw[h3]at c3;have e:eu t id a v = .tup [zTb,.int .i64 1]:=cT (by unfold ev;rw[if_pos hin,if_neg (show ¬(a<0∨(t.attrs.length:Int)≤a) by omega),if_neg (by simp[h3])]) (by decide);rw[e];simp only[aD,LS,LR]at c1 cf;simp only[aJ]at c3;refine sPx Tryz.func36 rfl rfl ?_;simp -dsimp[Tryz.f36,aI,aD,LS,LR,aJ];refine cPx (c1) (by simp) ?_;simp -dsimp[];refine cPx (cf) (by simp) ?_;simp -dsimp[h1,h2];refine cPx (c3) (by simp) ?_;simp -dsimp[];rfl
 | true =>
  obtain⟨i,hi,b,hb,rfl,hid,e⟩:=chg_ok hv hin h1 h2 h3;rw[e,←hid];exact chg_ok_r t f g i b v hv hk hi hb h3
theorem change_u(t:Tb)(f g:Bool)(id a:Int)(v:Vl)(hv:aH t=0)(hk:TbOk t):aK Tryz.prog 64 [aD f g t,.agg [.int .i64 id,.int .i64 a],aJ v] fun r=>r=eu t id a v:=by
 have c1:=cI t f g hk;rw[hv]at c1;have hr:=bE hv;have cf:=dt t f g id (by omega);have c3:=co v;obtain⟨k,hke⟩:∃k,k=(fnd t.rows id 0).1:=⟨_,rfl⟩;by_cases hin:inT t id=true
 case neg =>
  have hin':(fnd t.rows id 0).2=false:=by simpa[inT] using hin
  rw[hin',←hke]at cf;have e:eu t id a v = .tup [zTb,.int .i64 4]:=cT (by unfold ev;rw[if_neg hin]) (by decide);rw[e];simp only[aD,LS,LR]at c1 cf;refine sPx Tryz.func64 rfl rfl ?_;simp -dsimp[Tryz.f64,aI,aD,LS,LR,aJ];refine cPx (c1) (by simp) ?_;simp -dsimp[];refine cPx (cf) (by simp) ?_;simp -dsimp[];rfl
 have hin':(fnd t.rows id 0).2=true:=hin;by_cases h1:a<0
 case pos =>
  rw[hin',←hke]at cf;have e:eu t id a v = .tup [zTb,.int .i64 6]:=cT (by unfold ev;rw[if_pos hin,if_pos (Or.inl h1)]) (by decide);rw[e];simp only[aD,LS,LR]at c1 cf;refine sPx Tryz.func64 rfl rfl ?_;simp -dsimp[Tryz.f64,aI,aD,LS,LR,aJ];refine cPx (c1) (by simp) ?_;simp -dsimp[];refine cPx (cf) (by simp) ?_;simp -dsimp[h1];rfl
 by_cases h2:(t.attrs.length:Int)≤a
 case pos =>
  rw[hin',←hke]at cf;have e:eu t id a v = .tup [zTb,.int .i64 6]:=cT (by unfold ev;rw[if_pos hin,if_pos (Or.inr h2)]) (by decide);rw[e];simp only[aD,LS,LR]at c1 cf;refine sPx Tryz.func64 rfl rfl ?_;simp -dsimp[Tryz.f64,aI,aD,LS,LR,aJ];refine cPx (c1) (by simp) ?_;simp -dsimp[];refine cPx (cf) (by simp) ?_;simp -dsimp[h1,h2];rfl
 cases h3:aV v with
 | false =>
  rw[hin',←hke]at cf;rw[h3]at c3;have e:eu t id a v = .tup [zTb,.int .i64 1]:=cT (by unfold ev;rw[if_pos hin,if_neg (show ¬(a<0∨(t.attrs.length:Int)≤a) by omega),if_neg (by simp[h3])]) (by decide);rw[e];simp only[aD,LS,LR]at c1 cf;simp only[aJ]at c3;refine sPx Tryz.func64 rfl rfl ?_;simp -dsimp[Tryz.f64,aI,aD,LS,LR,aJ];refine cPx (c1) (by simp) ?_;simp -dsimp[];refine cPx (cf) (by simp) ?_;simp -dsimp[h1,h2];refine cPx (c3) (by simp) ?_;simp -dsimp[];rfl
 | true =>
  obtain⟨i,hi,b,hb,rfl,hid,e⟩:=chg_ok hv hin h1 h2 h3;rw[e,←hid];exact chg_ok_u t f g i b v hv hk hi hb h3
theorem insert_u2(t:Tb)(f g:Bool)(r:Rw)(hv:aH t=0)(hk:TbOk t):aK Tryz.prog 62 [aD f g t,aC r] fun x=>x=insV t r:=by
 have hw:=(tbC hv).wide;by_cases h6:r.vals.length=t.attrs.length
 ·exact insert_u t f g r hv hk (by omega)
 ·have c1:=cI t f g hk;rw[hv]at c1;have hr:=bE hv;have cf:=dt t f g r.id (by omega);simp only[aD,LS,LR]at c1 cf;rw[bJ (e:=6) (by unfold ai;rw[if_pos h6]) (by decide)];refine sPx Tryz.func62 rfl rfl ?_;simp -dsimp[Tryz.f62,aI,aD,LS,LR,aC,LV];refine cPx (c1) (by simp) ?_;simp -dsimp[];refine cPx (cf) (by simp) ?_;simp -dsimp[show ¬(r.vals.length:Int)=t.attrs.length by omega,zTb]
def woT(t:Tb)(f g:Bool):List B:=[B.cells [.str t.name,.lst 1 f (t.attrs.map V.str),.lst 2 g (t.rows.map aC)],B.cells [.str t.name,.lst 1 false (t.attrs.map V.str),.buf 6 0 t.rows.length t.rows.length],B.cells [.str t.name,.lst 1 false (t.attrs.map V.str),.buf 6 0 t.rows.length t.rows.length],B.buf 41 2 (t.rows.map aC) false]
theorem with_w3(t:Tb)(f g:Bool)(ha:t.attrs.length≤1000000)(hr:t.rows.length≤1000000)(hv:∀r∈t.rows,r.vals.length≤1000000)(c0 c1 c2:B)(hb0:∀k,rbB k c0)(hb1:∀k,rbB k c1)(hb2:∀k,rbB k c2):
  aT Tryz.prog 71 [aD f g t,LR g t.rows] [c0,c1,c2] fun x H'=>x = .agg [.str t.name,.lst 1 false (t.attrs.map V.str),.buf 6 0 t.rows.length t.rows.length]∧H'=[c0,c1,c2]++woT t f g:=by
 have hne:t.attrs=[]∨¬t.attrs=[]:=by by_cases h:t.attrs=[];exact .inl h;exact .inr h
 rcases hne with hne | hne
 case' inl =>
  refine aG (tkf 26) Tryz.func71 rfl rfl ?_;refine W_x (tkf 26) mixed ?_;simp -dsimp[Tryz.f71,aI,aD,LS,LR,aZ];refine aO (dG (tkf 26) mixed [7,8] [(1,[1]),(2,[1]),(4,[1]),(5,[1])] [] (by kernel_rfl) fun C K hC hK=>?_);simp -implicitDefEqProofs [hne,aZ];refine hK _ _ ?_;simp -dsimp[aZ]
 case' inr =>
  refine aG (tkf 26) Tryz.func71 rfl rfl ?_;refine W_x (tkf 26) mixed ?_;simp -dsimp[Tryz.f71,aI,aD,LS,LR,aZ];refine aO (dG (tkf 26) mixed [7,8] [(1,[1]),(2,[1]),(4,[1]),(5,[1])] [] (by kernel_rfl) fun C K hC hK=>?_);simp -implicitDefEqProofs [hne,cap16l t.attrs.length (by omega),aZ];refine hK _ _ ?_;simp -dsimp[aZ]
 all_goals
  refine aO (W_lf 5 _ [.str t.name,.lst 1 false (t.attrs.map V.str),.nilS] rfl (ed _) (by simp[LfL,lfB,hne]) (cO 41 2 [] 5 [2] rfl (bu _ _) (by simp) (W_loopM 30 0x3ffffa40 (by simp[mB]<;>rfl) (σ:=Nat) (fun i=>i≤t.rows.length) (fun i=>t.rows.length-i) (fun i=>[(6,.int .i64 i)]) (fun i=>[c0,c1,c2,B.cells [.str t.name,.lst 1 f (t.attrs.map V.str),.lst 2 g (t.rows.map aC)],B.cells [.str kI,.nilS,.nilS],B.cells [.str t.name,.lst 1 false (t.attrs.map V.str),.buf 6 0 i i],B.buf 41 2 ((t.rows.take i).map aC) false]) 0 (by omega) (by simp[hne]) (by simp[hne]) (by simp) ?_)));intro i hi N Q hN hQ
  have hli:(t.rows.take i).length=i:=by simp;omega
  by_cases hb:i<t.rows.length
  ·have hst:t.rows.take (i+1)=t.rows.take i++[t.rows[i]]:=kY hb;have hc:=cp03 t.rows[i] (hv _ (kN hb));obtain⟨l,hl⟩:∃l,l=t.rows.take i:=⟨_,rfl⟩;rw[←hl]at hst hli ⊢;refine W_x (tkf 26) mixed ?_;simp -dsimp[hb,aZ];refine aO (aS (tkf 26) mixed [8,10] [] [(aC t.rows[i],[])] (by kernel_rfl) fun C K hC hK=>?_);simp -implicitDefEqProofs [hb,aC,LV,hli,ew i (by omega),aZ];refine⟨hC _ _ _ _ (aP hc (by simp)),hK _ _ ?_⟩;simp -dsimp[aX i (by omega),aZ];refine hN (i+1) _ _ (by omega) (by omega) (by simp) ⟨[],by simp[hst,aC,LV]⟩ (by simp) ?_;intro bl hbl;simp only[kZ,kS,or_false]at hbl
   rcases hbl with rfl | rfl | rfl | rfl | rfl | rfl | rfl
   ·exact hb0 _
   ·exact hb1 _
   ·exact hb2 _
   ·simp
   ·simp
   ·simp
   ·simp
  ·obtain rfl:i=t.rows.length:=by omega
   rw[km];refine W_x (tkf 26) mixed ?_;simp -dsimp[hb,aZ];refine hQ _ _ _ ?_;simp -dsimp[aZ];simp[woT]
def fQ(rs:List Rw)(r:Rw)(k:Nat):List Rw:=rs.take k++r::rs.drop k
theorem gI{rs:List Rw}{r:Rw}{k:Nat}(h:k≤rs.length):(fQ rs r k).length=rs.length+1:=by simp[fQ];omega
theorem insK_at{rs:List Rw}{r:Rw}{k:Nat}(h:k≤rs.length):(fQ rs r k)[k]?=some r:=by
 unfold fQ;rw[kO (by simp;omega)];simp[li h]
theorem insK_pre{rs:List Rw}{r:Rw}{k:Nat}(h:k<rs.length):(fQ rs r (k+1))[k]?=some rs[k]:=by
 unfold fQ;rw[kL (by simp;omega),kg,if_pos (by omega),kJ h]
theorem insK_swap{rs:List Rw}{r:Rw}{k:Nat}(h:k<rs.length):((fQ rs r (k+1)).set (k+1) rs[k]).set k r=fQ rs r k:=by
 have hl:=gI (r:=r) (show k+1≤rs.length by omega);have hl2:=gI (r:=r) (show k≤rs.length by omega)
 refine lf fun j=>?_
 rw[mS,mS,lS,hl];by_cases e:k=j
 ·subst e;rw[if_pos rfl,if_pos (by omega),insK_at (by omega)]
 ·rw[if_neg e];by_cases e2:k+1=j
  ·subst e2;rw[if_pos rfl,if_pos (by omega)];unfold fQ;rw[kO (by simp;omega)];simp only[lC,li (show k≤rs.length by omega)];rw[show k+1-k=0+1 by omega,kp,kq,mM,kJ h]
  ·rw[if_neg e2];unfold fQ;by_cases e3:j<k
   ·rw[kL (by simp;omega),kL (by simp;omega),kg,kg,if_pos (by omega),if_pos (by omega)]
   ·rw[kO (by simp;omega),kO (by simp;omega)];simp only[lC,li (show k≤rs.length by omega),li (show k+1≤rs.length by omega)];obtain⟨d,rfl⟩:∃d,j=k+2+d:=⟨j-(k+2),by omega⟩;rw[show k+2+d-(k+1)=d+1 by omega,show k+2+d-k=d+1+1 by omega,kp,kp,kq,kq];congr 1;omega
theorem insK_done{rs:List Rw}{r:Rw}(hs:Srt rs)(hn:∀s∈rs,¬s.id=r.id){k:Nat}(hk:k≤rs.length)(h1:∀j (h:j<rs.length),k≤j→r.id<rs[j].id)(h2:∀j (h:j<rs.length),j<k→rs[j].id<r.id):fQ rs r k=cL rs r:=by
 have a:rs.filter (fun s=>decide (s.id<r.id))=rs.take k:=by
  conv=>lhs;rw[←lA k rs]
  rw[mH,List.filter_eq_self.2,List.filter_eq_nil_iff.2,kX]
  ·intro s hs;obtain⟨j,hj,rfl⟩:=lX hs;rw[mj];have:=h1 (k+j) (by simp at hj;omega) (by omega);simp;omega
  ·intro s hs;obtain⟨j,hj,rfl⟩:=lX hs;rw[mi];have:=h2 j (by simp at hj;omega) (by simp at hj;omega);simp;exact this
 have b:rs.filter (fun s=>decide (r.id<s.id))=rs.drop k:=by
  conv=>lhs;rw[←lA k rs]
  rw[mH,List.filter_eq_nil_iff.2,List.filter_eq_self.2,lD]
  ·intro s hs;obtain⟨j,hj,rfl⟩:=lX hs;rw[mj];have:=h1 (k+j) (by simp at hj;omega) (by omega);simp;exact this
  ·intro s hs;obtain⟨j,hj,rfl⟩:=lX hs;rw[mi];have:=h2 j (by simp at hj;omega) (by simp at hj;omega);simp;omega
 unfold fQ cL;rw[a,b]
theorem exp6{H:List B}{e m:Nat}{nm:ByteArray}{ats l:List V}{fz:Bool}(hk:H[6]?=some (.buf e 2 l fz))(hl:m=l.length)(ha:∀x∈ats,AM.Pure x)(hp:∀x∈l,AM.Pure x):ExpX H (.tup [.agg [.str nm,.lst 1 false ats,.buf 6 0 m m],.int .i64 0]) (.tup [.agg [.str nm,.lst 1 false ats,.lst 2 false l],.int .i64 0]):=by
 refine .tup _ _ rfl (fun i c d hc hd=>?_)
 match i with
 | 0 =>
  simp at hc hd;subst hc;subst hd;refine .agg _ _ rfl (fun j c d hc hd=>?_)
  match j with
  | 0=>simp at hc hd;subst hc;subst hd;exact .pure _ (by simp)
  | 1=>simp at hc hd;subst hc;subst hd;exact .pure _ ((pure_lst _ _ _).2 ha)
  | 2=>simp at hc hd;subst hc;subst hd;exact gN hk hl hp
  | k+3=>simp at hc
 | 1=>simp at hc hd;subst hc;subst hd;exact .pure _ (by simp)
 | k+2=>simp at hc
theorem insert_r(t:Tb)(f g:Bool)(r:Rw)(hv:aH t=0)(hk:TbOk t):aK Tryz.prog 34 [aD f g t,aC r] fun x=>x=insV t r:=by
 have c1:=ib t f g hk;rw[hv]at c1;have hr:=bE hv;have hvr:=aw hv;have hw:=(tbC hv).wide;have cf:=jm t f g r.id (by omega);simp only[aD,LS,LR]at c1 cf;by_cases h6:r.vals.length=t.attrs.length
 case neg =>
  rw[bJ (e:=6) (by unfold ai;rw[if_pos h6]) (by decide)];refine sPx Tryz.func34 rfl rfl ?_;simp -dsimp[Tryz.f34,aI,aD,LS,LR,aC,LV];refine cPx (c1) (by simp) ?_;simp -dsimp[show ¬(r.vals.length:Int)=t.attrs.length by omega,zTb]
 have h6':(r.vals.length:Int)=t.attrs.length:=by omega
 have cv:=valids01 r.vals false (by omega);simp only[LV]at cv;by_cases h1:r.id≤0
 ·rw[bJ (e:=1) (by unfold ai;rw[if_neg (by simp[h6]),if_pos (.inl h1)]) (by decide)];refine sPx Tryz.func34 rfl rfl ?_;simp -dsimp[Tryz.f34,aI,aD,LS,LR,aC,LV];refine cPx (c1) (by simp) ?_;simp -dsimp[h6',h1,zTb]
 cases h2:r.vals.all aV with
 | false =>
  rw[h2]at cv;rw[bJ (e:=1) (by unfold ai;rw[if_neg (by simp[h6]),if_pos (.inr h2)]) (by decide)];refine sPx Tryz.func34 rfl rfl ?_;simp -dsimp[Tryz.f34,aI,aD,LS,LR,aC,LV];refine cPx (c1) (by simp) ?_;simp -dsimp[h6',h1];refine cPx (cv) (by simp) ?_;simp -dsimp[zTb]
 | true =>
 rw[h2]at cv;obtain⟨ki,hki⟩:∃k,k=(fnd t.rows r.id 0).1:=⟨_,rfl⟩;rw[←hki]at cf;by_cases hin:inT t r.id=true
 ·have hin':(fnd t.rows r.id 0).2=true:=hin;rw[hin']at cf;rw[bJ (e:=5) (by unfold ai;rw[if_neg (by simp[h6]),if_neg (by simp[h2];omega),if_pos hin]) (by decide)];refine sPx Tryz.func34 rfl rfl ?_;simp -dsimp[Tryz.f34,aI,aD,LS,LR,aC,LV];refine cPx (c1) (by simp) ?_;simp -dsimp[h6',h1];refine cPx (cv) (by simp) ?_;simp -dsimp[];refine cPx (cf) (by simp) ?_;simp -dsimp[zTb]
 have hin':(fnd t.rows r.id 0).2=false:=by simpa[inT] using hin
 rw[hin']at cf;by_cases h3:1000≤t.rows.length
 ·rw[bJ (e:=3) (by unfold ai;rw[if_neg (by simp[h6]),if_neg (by simp[h2];omega),if_neg hin,if_pos h3]) (by decide)];refine sPx Tryz.func34 rfl rfl ?_;simp -dsimp[Tryz.f34,aI,aD,LS,LR,aC,LV];refine cPx (c1) (by simp) ?_;simp -dsimp[h6',h1];refine cPx (cv) (by simp) ?_;simp -dsimp[];refine cPx (cf) (by simp) ?_;simp -dsimp[show(1000:Int)≤(t.rows.length:Int) by omega,zTb]
 have h3':¬(1000:Int)≤(t.rows.length:Int):=by omega
 have he:ai t r=0:=by unfold ai;rw[if_neg (by simp[h6]),if_neg (by simp[h2];omega),if_neg hin,if_neg h3]
 have hno:=(bo he).2.2.2.1;have hsrt:=cP hv;rw[gH he];have cw:=with_w3 t f g hk.attrs (by omega) (fun r' hr'=>by have:=(hvr r' hr').2.1;omega) (.cells [.str t.name,.lst 1 f (t.attrs.map V.str),.lst 2 g (t.rows.map aC)]) (.cells [.int .i64 r.id,.lst 3 false (r.vals.map aJ)]) (.cells [.str kI,.nilS,.nilS]) (fun k=>tbB_rb k t f g) (fun k=>rwB_rb k r) (fun k=>by simp);have cp:=cp03 r (by omega);obtain⟨n,hn⟩:∃n,n=t.rows.length:=⟨_,rfl⟩;have hn':=hn.symm
 obtain⟨X,hX⟩:∃X:Nat→List V,X=fun k=>(fQ t.rows r k).map aC:=⟨_,rfl⟩
 have eX:∀k,X k=(fQ t.rows r k).map aC:=fun k=>by rw[hX]
 have eXn:t.rows.map aC++[aC r]=X n:=by rw[eX,hn];simp[fQ]
 have eXl:∀k,k≤n→(X k).length=n+1:=fun k hk=>by rw[eX,kh,gI (by omega),hn]
 have hrbX:∀k m,rbB m (.buf 41 2 (X k) false):=fun k m=>by rw[eX];simp
 simp only[aD,LS,LR,aC,LV,woT,lp,lD,hn']at cw cp
 have hrb6:∀(m a b:Nat),6<m→rbB m (.cells [.str t.name,.lst 1 false (t.attrs.map V.str),.buf 6 0 a b]):=fun m a b hm c hc=>by
  simp only[kZ,kS,or_false]at hc
  rcases hc with rfl | rfl | rfl
  ·simp[rb1]
  ·simp[rb1]
  ·show 6<m;exact hm
 have eXn':t.rows.map aC++[.agg [.int .i64 r.id,.lst 3 false (r.vals.map aJ)]]=X n:=eXn;refine bK (aG tok Tryz.func34 rfl rfl ?_);refine wx ?_;simp -dsimp[Tryz.f34,aI,aD,LS,LR,aC,LV];refine cPx (c1) (by simp) ?_;simp -dsimp[h6',h1];refine cPx (cv) (by simp) ?_;simp -dsimp[];refine cPx (cf) (by simp) ?_;simp -dsimp[h3'];refine wcm cw ?_;rintro x H' ⟨rfl,rfl⟩;simp -dsimp[];refine aO (aS tok mixed [5,7] [] [(.agg [.int .i64 r.id,.lst 3 false (r.vals.map aJ)],[])] (by kernel_rfl) fun C K hC hK=>?_);simp -implicitDefEqProofs [hn',ew n (by omega)];refine⟨hC _ _ _ _ (aP cp (by simp)),hK _ _ ?_⟩;have hXn:=eXl n (kM _);simp -dsimp[hn',eXn',hXn,wrapN n (by omega)];refine aO (W_loopM 104 0xffffffffff0000000000000400 (by simp[mB]<;>rfl) (σ:=Nat) (fun k=>k≤n∧∀j (h:j<t.rows.length),k≤j→r.id<t.rows[j].id) (fun k=>k) (fun k=>[(10,.int .i64 k)]) (fun k=>[B.cells [.str t.name,.lst 1 f (t.attrs.map V.str),.lst 2 g (t.rows.map aC)],B.cells [.int .i64 r.id,.lst 3 false (r.vals.map aJ)],B.cells [.str kI,.nilS,.nilS],B.cells [.str t.name,.lst 1 f (t.attrs.map V.str),.lst 2 g (t.rows.map aC)],B.cells [.str t.name,.lst 1 false (t.attrs.map V.str),.buf 6 0 n n],B.cells [.str t.name,.lst 1 false (t.attrs.map V.str),.buf 6 0 n n],B.buf 41 2 (X k) false,B.cells [.str t.name,.lst 1 false (t.attrs.map V.str),.buf 6 0 (n+1) (n+1)]]) n ⟨kM _,fun j h h2=>by omega⟩ (by simp) (by simp) (by simp) ?_);rintro k ⟨hkn,hks⟩ N Q hN hQ;have hXl:=eXl k hkn;by_cases hst:∃j,k=j+1∧∃h:j<t.rows.length,r.id<t.rows[j].id
 ·obtain⟨j,rfl,hj,hlt⟩:=hst
  have hat:(X (j+1))[j+1]?=some (.agg [.int .i64 r.id,.lst 3 false (r.vals.map aJ)]):=by rw[eX,kb,insK_at (by omega)];rfl
  have hap:(X (j+1))[j]?=some (.agg [.int .i64 t.rows[j].id,.lst 3 false (t.rows[j].vals.map aJ)]):=by rw[eX,kb,insK_pre hj];rfl
  have hsw:((X (j+1)).set (j+1) (.agg [.int .i64 t.rows[j].id,.lst 3 false (t.rows[j].vals.map aJ)])).set j (.agg [.int .i64 r.id,.lst 3 false (r.vals.map aJ)])=X j:=by
   rw[eX,eX,←insK_swap hj,nA,nA];rfl
  have hXj:=eXl j (by omega);obtain⟨q,hq⟩:∃q,q=t.rows[j]:=⟨_,rfl⟩;rw[←hq]at hap hsw hlt;obtain⟨Y,hY⟩:∃Y,Y=X (j+1):=⟨_,rfl⟩;rw[←hY]at hat hap hsw hXl;simp only[←hY];have hat':=bB hat;have hap':=bB hap;have wj:IntKind.i64.wrap (j:Int)=j:=wrap64 (by omega) (by omega);refine wx ?_;simp -dsimp[hXl,hat,hap,hat',hap',wj,show(0:Int)<(j:Int)+1 by omega,show(0:Int)≤(j:Int)+1 by omega,show(j:Int)<(n:Int)+1 by omega,show j<n by omega,show j+1<n+1 by omega,show j<n+1 by omega,hlt];refine .inr ⟨aR (by kernel_rfl),?_⟩;refine aO (aS tok mixed [19,21] [(3,[1]),(4,[1]),(5,[1]),(6,[1])] [] (by kernel_rfl) fun C K hC hK=>?_);simp -implicitDefEqProofs [hXl,hat,hap,hat',hap',wj,show(0:Int)≤(j:Int)+1 by omega,show(j:Int)<(n:Int)+1 by omega,show j<n by omega,show j+1<n+1 by omega,show j<n+1 by omega];refine hK _ _ ?_;simp -dsimp[wj,hsw];refine hN j _ _ ⟨by omega,fun i h2 h3=>?_⟩ (by omega) (by simp) ⟨[],by simp[hsw]⟩ (by simp) ?_
  ·by_cases e:i=j
   ·subst e;rw[←hq];exact hlt
   ·exact hks i h2 (by omega)
  ·intro bl hbl;simp only[kZ,kS,or_false]at hbl
   rcases hbl with rfl | rfl | rfl | rfl | rfl | rfl | rfl | rfl
   ·exact tbB_rb _ t f g
   ·exact rwB_rb _ r
   ·simp
   ·exact tbB_rb _ t f g
   ·exact hrb6 _ _ _ (by simp)
   ·exact hrb6 _ _ _ (by simp)
   ·exact hrbX _ _
   ·exact hrb6 _ _ _ (by simp)
 ·have hdone:fQ t.rows r k=cL t.rows r:=by
   refine insK_done hsrt hno (by omega) hks (fun j h h2=>?_)
   have hk0:k-1<t.rows.length:=by omega
   have h4:¬r.id<t.rows[k-1].id:=fun h5=>hst ⟨k-1,by omega,hk0,h5⟩
   have h5:=hno _ (kN hk0);by_cases e:j=k-1
   ·subst e;omega
   ·have:=List.pairwise_iff_getElem.1 hsrt j (k-1) h hk0 (by omega);omega
  have hXk:X k=(cL t.rows r).map aC:=by rw[eX,hdone]
  have hil:(cL t.rows r).length=n+1:=by rw[←hdone,gI (by omega),hn]
  have hil2:n+1=((cL t.rows r).map aC).length:=by rw[kh,hil]
  have hip:∀x∈(cL t.rows r).map aC,AM.Pure x:=fun x hx=>by obtain⟨y,_,rfl⟩:=List.mem_map.1 hx;simp
  cases k with
  | zero =>
   rw[hXk]at hXl;simp only[hXk];obtain⟨Z,hZ⟩:∃Z,Z=(cL t.rows r).map aC:=⟨_,rfl⟩;rw[←hZ]at hXl;simp only[←hZ];refine wx ?_;simp -dsimp[hXl];refine .inr ⟨aR (by kernel_rfl),?_⟩;refine hQ _ _ _ ?_;simp -dsimp[];rw[hZ];exact exp6 rfl hil2 (by simp) hip
  | succ j =>
   have hj:j<t.rows.length:=by omega
   have hlt:¬r.id<t.rows[j].id:=fun h5=>hst ⟨j,rfl,hj,h5⟩
   have hat:(X (j+1))[j+1]?=some (.agg [.int .i64 r.id,.lst 3 false (r.vals.map aJ)]):=by rw[eX,kb,insK_at (by omega)];rfl
   have hap:(X (j+1))[j]?=some (.agg [.int .i64 t.rows[j].id,.lst 3 false (t.rows[j].vals.map aJ)]):=by rw[eX,kb,insK_pre hj];rfl
   rw[hXk]at hXl hat hap;simp only[hXk];obtain⟨q,hq⟩:∃q,q=t.rows[j]:=⟨_,rfl⟩;rw[←hq]at hap hlt;obtain⟨Z,hZ⟩:∃Z,Z=(cL t.rows r).map aC:=⟨_,rfl⟩;rw[←hZ]at hXl hat hap;simp only[←hZ];have hat':=bB hat;have hap':=bB hap;have wj:IntKind.i64.wrap (j:Int)=j:=wrap64 (by omega) (by omega);refine wx ?_;simp -dsimp[hXl,hat,hap,hat',hap',wj,show(0:Int)<(j:Int)+1 by omega,show(0:Int)≤(j:Int)+1 by omega,show(j:Int)<(n:Int)+1 by omega,show j<n by omega,show j+1<n+1 by omega,show j<n+1 by omega,hlt];refine .inr ⟨aR (by kernel_rfl),?_⟩;refine hQ _ _ _ ?_;simp -dsimp[];rw[hZ];exact exp6 rfl hil2 (by simp) hip
end
end Go.Proofs.YtpedcgdgjoblkaaGreatDoor
