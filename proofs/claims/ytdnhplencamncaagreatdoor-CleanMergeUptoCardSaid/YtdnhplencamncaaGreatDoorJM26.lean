/- JM26: own texts of this seat, joined and shortened by pack4.py: TM, TN, AP, AQ, LO, SI, SJ, TNb, FT. -/
import Derived.Test.YtdnhplencamncaaGreatDoorJM16
import Derived.Test.YtdnhplencamncaaGreatDoorJM25
set_option linter.unusedVariables false
set_option linter.unusedSimpArgs false
set_option maxRecDepth 100000
set_option maxHeartbeats 64000000
open Bool renaming and_eq_true→oP
open ByteArray renaming empty→oF
open List renaming replicate→oE,mem_of_getElem?→oH,getElem_mem→oI,take_succ_eq_append_getElem→oN,not_mem_nil→oO,getElem?_set_ne→oQ,mem_cons→oR,length_map→oW,getElem?_set_self→oX,take_length→oY,map_cons→oq,set_cons_zero→oz,set_cons_succ→pG,map_nil→pJ,getElem?_cons_succ→pL
open Nat renaming le_refl→oJ
namespace Go.Proofs.YtdnhplencamncaaGreatDoor
section
open Go Go.AM
def wiH(c0 c1 c2:B)(t:Tb)(f g:Bool)(x:V)(l:List Rw):List B:=[c0,c1,c2,B.cells [.str t.name,.lst 1 f (t.attrs.map V.str),.lst 2 g (t.rows.map aC)],B.cells [.str oF,.nilS,.nilS],B.cells [.str t.name,.lst 1 false (t.attrs.map V.str),x],B.buf 53 2 (l.map aC) false]
theorem rowB_rb(n e:Nat)(l:List Rw)(fz:Bool):rbB n (.buf e 2 (l.map aC) fz):=(dB (by simp) (by simp[aC,V.cells,LV,V.one])).2 trivial
theorem with_w(t:Tb)(rs:List Rw)(f g h:Bool)(ha:t.attrs.length≤1000000)(hr:rs.length≤1000000)(hv:∀r∈rs,r.vals.length≤1000000)(c0 c1 c2:B)(hb0:∀k,rbB k c0)(hb1:∀k,rbB k c1)(hb2:∀k,rbB k c2):
  aU Tryz.prog 117 [aD f g t,LR h rs] [c0,c1,c2] fun x H'=>x = .agg [.str t.name,.lst 1 false (t.attrs.map V.str),.buf 6 0 rs.length rs.length]∧∃A A1 A2,H'=[c0,c1,c2,A,A1,A2,B.buf 53 2 (rs.map aC) false]∧∀k,6<k→rbB k A∧rbB k A1∧rbB k A2:=by
 have cc:=jz t.attrs f ha;simp only[LS]at cc;refine aE tok Tryz.func117 rfl rfl ?_;refine wx ?_;simp -dsimp[Tryz.f117,oE,aD,LS,LR];refine aI (aX tok mixed [6,7] [(0,[1]),(1,[1]),(2,[1]),(3,[1]),(4,[1]),(5,[1])] [(.lst 1 false (t.attrs.map V.str),[])] (by kernel_rfl) fun C K hC hK=>?_);simp -implicitDefEqProofs [];refine⟨⟨hC _ _ _ _ (aT cc (by simp)),hC _ _ _ _ (aT cc (by simp))⟩,hK _ _ ?_⟩;simp -dsimp[];refine aI (dL 53 2 [] 5 [2] rfl (cD _ _) (by simp) (W_loopM 28 0xfff3080 (by simp[mB]<;>rfl) (σ:=Nat) (fun i=>i≤rs.length) (fun i=>rs.length-i) (fun i=>[(16,.int .i64 i)]) (fun i=>wiH c0 c1 c2 t f g (.buf 6 0 i i) (rs.take i)) 0 (by omega) (by simp) (by simp[wiH]) (by simp[wiH]) ?_));intro i hi N Q hN hQ
 have hli:(rs.take i).length=i:=by simp;omega
 simp only[wiH]at hN ⊢;by_cases hb:i<rs.length
 ·have hst:rs.take (i+1)=rs.take i++[rs[i]]:=oN hb;have hc:=na rs[i] (hv _ (oI hb));obtain⟨r,hre⟩:∃r,r=rs[i]:=⟨_,rfl⟩;rw[←hre]at hst hc;obtain⟨l,hl⟩:∃l,l=rs.take i:=⟨_,rfl⟩;rw[←hl]at hst hli ⊢;simp only[aC,LV]at hc;refine wx ?_;simp -dsimp[hb,hre.symm,aC,LV];refine aI (aX tok mixed [5,7] [] [(.agg [.int .i64 r.id,.lst 3 false (r.vals.map aF)],[])] (by kernel_rfl) fun C K hC hK=>?_);simp -implicitDefEqProofs [hb,aC,LV,hli,nt i (by omega)];refine⟨hC _ _ _ _ (aT hc (by simp)),hK _ _ ?_⟩;simp -dsimp[aP i (by omega)];refine hN (i+1) _ _ (by omega) (by omega) (by simp) ⟨[B.cells [.int .i64 r.id,.lst 3 false (r.vals.map aF)]],by simp[hst,aC,LV]⟩ (by simp) ?_;intro bl hbl;simp only[oR,oO,or_false]at hbl
  rcases hbl with rfl | rfl | rfl | rfl | rfl | rfl | rfl
  ·exact hb0 _
  ·exact hb1 _
  ·exact hb2 _
  ·simp
  ·simp
  ·simp
  ·exact rowB_rb _ _ _ _
 ·obtain rfl:i=rs.length:=by omega
  rw[oY];refine wx ?_;simp -dsimp[hb];refine hQ _ _ _ ?_;simp -dsimp[];exact⟨_,_,_,⟨rfl,rfl,rfl⟩,fun k hk=>⟨by simp,by simp;omega,by simp;omega⟩⟩
def insV(t:Tb)(r:Rw):V:=.tup [if bX t r=0 then aD false false (wrT t (fw t.rows r)) else zTb,.int .i64 (bX t r)]
theorem gn{t:Tb}{r:Rw}{e:Int}(h:bX t r=e)(h0:¬e=0):insV t r = .tup [zTb,.int .i64 e]:=by
 unfold insV;rw[h,if_neg h0]
theorem insV_ok{t:Tb}{r:Rw}(h:bX t r=0):insV t r = .tup [aD false false (wrT t (fw t.rows r)),.int .i64 0]:=by
 unfold insV;rw[h,if_pos rfl]
theorem rwB_rb(n:Nat)(r:Rw):rbB n (.cells [.int .i64 r.id,.lst 3 false (r.vals.map aF)]):=fun c hc=>by
 simp only[oR,oO,or_false]at hc
 rcases hc with rfl | rfl<;>simp[rb,rb1]
theorem tbB_rb(n:Nat)(t:Tb)(f g:Bool):rbB n (.cells [.str t.name,.lst 1 f (t.attrs.map V.str),.lst 2 g (t.rows.map aC)]):=fun c hc=>by
 simp only[oR,oO,or_false]at hc
 rcases hc with rfl | rfl | rfl<;>simp[rb,rb1]
theorem insert_u(t:Tb)(f g:Bool)(r:Rw)(hv:aG t=0)(hk:TbOk t)(hrl:r.vals.length≤1000000):aJ Tryz.prog 130 [aD f g t,aC r] fun x=>x=insV t r:=by
 have c1:=cI t f g hk;rw[hv]at c1;have hr:=cX hv;have hvr:=ay hv;have cf:=gB t f g r.id (by omega);have cv:=validVals r.vals false hrl;simp only[aD,LS,LR]at c1 cf;simp only[LV]at cv;by_cases h6:r.vals.length=t.attrs.length
 case neg =>
  rw[gn (e:=6) (by unfold bX;rw[if_pos h6]) (by decide)];refine sPx Tryz.func130 rfl rfl ?_;simp -dsimp[Tryz.f130,oE,aD,LS,LR,aC,LV];refine cPx (c1) (by simp) ?_;simp -dsimp[];refine cPx (cf) (by simp) ?_;simp -dsimp[show ¬(r.vals.length:Int)=t.attrs.length by omega,zTb]
 by_cases h1:r.id≤0
 case pos =>
  rw[gn (e:=1) (by unfold bX;rw[if_neg (fun h=>h h6),if_pos (.inl h1)]) (by decide)];refine sPx Tryz.func130 rfl rfl ?_;simp -dsimp[Tryz.f130,oE,aD,LS,LR,aC,LV];refine cPx (c1) (by simp) ?_;simp -dsimp[];refine cPx (cf) (by simp) ?_;simp -dsimp[h6,h1,zTb]
 cases h2:r.vals.all aW with
 | false =>
  rw[h2]at cv;rw[gn (e:=1) (by unfold bX;rw[if_neg (fun h=>h h6),if_pos (.inr h2)]) (by decide)];refine sPx Tryz.func130 rfl rfl ?_;simp -dsimp[Tryz.f130,oE,aD,LS,LR,aC,LV];refine cPx (c1) (by simp) ?_;simp -dsimp[];refine cPx (cf) (by simp) ?_;simp -dsimp[h6,h1];refine cPx (cv) (by simp) ?_;simp -dsimp[zTb]
 | true =>
 rw[h2]at cv
 have hno:¬(r.id≤0∨r.vals.all aW=false):=by rw[h2];simp[h1]
 cases h5:(fnd t.rows r.id 0).2 with
 | true =>
  rw[h5]at cf;rw[gn (e:=5) (by unfold bX inT;rw[if_neg (fun h=>h h6),if_neg hno,if_pos h5]) (by decide)];refine sPx Tryz.func130 rfl rfl ?_;simp -dsimp[Tryz.f130,oE,aD,LS,LR,aC,LV];refine cPx (c1) (by simp) ?_;simp -dsimp[];refine cPx (cf) (by simp) ?_;simp -dsimp[h6,h1];refine cPx (cv) (by simp) ?_;simp -dsimp[zTb]
 | false =>
 rw[h5]at cf
 have h5':¬(fnd t.rows r.id 0).2=true:=by rw[h5];simp
 by_cases h3:1000≤t.rows.length
 case pos =>
  rw[gn (e:=3) (by unfold bX inT;rw[if_neg (fun h=>h h6),if_neg hno,if_neg h5',if_pos h3]) (by decide)];refine sPx Tryz.func130 rfl rfl ?_;simp -dsimp[Tryz.f130,oE,aD,LS,LR,aC,LV];refine cPx (c1) (by simp) ?_;simp -dsimp[];refine cPx (cf) (by simp) ?_;simp -dsimp[h6,h1];refine cPx (cv) (by simp) ?_;simp -dsimp[show(1000:Int)≤t.rows.length by omega,zTb]
 have h0:bX t r=0:=by unfold bX inT;rw[if_neg (fun h=>h h6),if_neg hno,if_neg h5',if_neg h3]
 have hn:=(dm h0).2.2.2.1;have hix:=ins_ix (bV hv) hn;have hle:=plR_le (bV hv) r.id;have cb:=bsearchR t.rows r.id false (by omega);have cc:=na r hrl;rw[insV_ok h0];obtain⟨p,hp⟩:∃p,p=plR t.rows r.id:=⟨_,rfl⟩;rw[←hp]at hix hle cb;obtain⟨q,hq⟩:∃q,q=bsT t.rows r.id:=⟨_,rfl⟩;rw[←hq]at cb;have cw:=with_w t t.rows f g g hk.attrs (by omega) (fun s hs=>by have:=(hvr s hs).2.1;have:=hk.attrs;omega) (.cells [.str t.name,.lst 1 f (t.attrs.map V.str),.lst 2 g (t.rows.map aC)]) (.cells [.int .i64 r.id,.lst 3 false (r.vals.map aF)]) (.cells [.str oF,.nilS,.nilS]) (fun k=>tbB_rb _ _ _ _) (fun k=>rwB_rb _ _) (fun k=>by simp);simp only[aD,LS,LR,aC,LV]at cw cb cc;refine sPx Tryz.func130 rfl rfl ?_;simp -dsimp[Tryz.f130,oE,aD,LS,LR,aC,LV];refine cPx (c1) (by simp) ?_;simp -dsimp[];refine cPx (cf) (by simp) ?_;simp -dsimp[h6,h1];refine cPx (cv) (by simp) ?_;simp -dsimp[show ¬(1000:Int)≤t.rows.length by omega];refine wcm cw ?_;rintro x H' ⟨rfl,A,A1,A2,rfl,hrb⟩;simp -dsimp[];refine(callX (args:=[.buf 6 0 t.rows.length t.rows.length,.int .i64 r.id,.fn 201 []]) (args':=[.lst 2 false (t.rows.map aC),.int .i64 r.id,.fn 201 []]) cb rfl (fun i a a' h1 h2=>?_) (.tup _ fun c hc=>?_)).mono ?_
 ·match i with
  | 0=>simp at h1 h2;subst h1;subst h2;exact gD rfl (by simp) (by simp)
  | 1=>simp at h1 h2;subst h1;subst h2;exact .pure _ (.int _ _)
  | 2=>simp at h1 h2;subst h1;subst h2;exact .pure _ (.fn _)
  | i+3=>simp at h1
 ·simp at hc
  rcases hc with rfl | rfl
  ·exact .int _ _
  ·exact .bool _
 rintro x H' ⟨rfl,rfl⟩;simp -dsimp[];obtain⟨D,hD⟩:∃D,D=fw t.rows r:=⟨_,rfl⟩;rw[←hD]at hix ⊢
 have hDm:(t.rows.map aC).take p++V.agg [.int .i64 r.id,.lst 3 false (r.vals.map aF)]::(t.rows.map aC).drop p=D.map aC:=by rw[hix];simp[aC,LV]
 have hDl:(D.map aC).length=t.rows.length+1:=by rw[hix];simp;omega
 obtain⟨B0,hB0⟩:∃B0:B,B0 = .cells [.str t.name,.lst 1 f (t.attrs.map V.str),.lst 2 g (t.rows.map aC)]:=⟨_,rfl⟩
 have ci:∀fl B1 B2 G7,aL Tryz.prog (.fn 202 []) [.buf 6 0 t.rows.length t.rows.length,.int .i64 p,.lst 2 fl [.agg [.int .i64 r.id,.lst 3 false (r.vals.map aF)]]] [B0,B1,B2,A,A1,A2,.buf 53 2 (t.rows.map aC) false,G7] fun x H'=>x = .lst 2 false (D.map aC)∧H'=[B0,B1,B2,A,A1,A2,.buf 53 2 (D.map aC) true,G7]:=fun fl B1 B2 G7=>by
  have i1:=insR_con [B0,B1,B2,A,A1,A2,.buf 53 2 (t.rows.map aC) false,G7] 6 (t.rows.map aC) p fl (.agg [.int .i64 r.id,.lst 3 false (r.vals.map aF)]) rfl (by simp;omega) (by simp;omega);rw[hDm]at i1;simp only[oW]at i1;refine(wcall_frz (k:=6) (e:=53) (z:=2) (xs:=D.map aC) (fz:=false) i1 rfl hDl).mono ?_;rintro x H' ⟨rfl,rfl⟩;exact⟨by rw[←hDl,oY],rfl⟩
 simp only[hB0]at ci;refine aI (aX tok mixed [6,8] [] [(.agg [.int .i64 r.id,.lst 3 false (r.vals.map aF)],[]),(.lst 2 false (D.map aC),[.cells [.str t.name,.lst 1 f (t.attrs.map V.str),.lst 2 g (t.rows.map aC)],.cells [.int .i64 r.id,.lst 3 false (r.vals.map aF)],.cells [.str oF,.nilS,.nilS],A,A1,A2,.buf 53 2 (D.map aC) true,.cells [.str t.name,.lst 1 false (t.attrs.map V.str),.buf 6 0 t.rows.length t.rows.length]])] (by kernel_rfl) fun C K hC hK=>?_);simp -implicitDefEqProofs [];refine⟨⟨hC _ _ _ _ (aT cc (by simp)),hC _ _ _ _ (ci true _ _ _)⟩,hK _ _ ?_⟩;simp -dsimp[wrT];rfl
theorem lp{t:Tb}{nm:ByteArray}(h:nm=t.name):ixT (fun t=>t.name.toList == nm.toList) [t] 0=0:=by
 rw[ixT];simp[h]
theorem apply_ins(t:Tb)(g f1 g1:Bool)(tb:Tb)(row:Rw)(a:Int)(v:Vl)(hv:aG t=0)(hk:TbOk t)(hrl:row.vals.length≤1000000)(he:bX t row=0):
  aJ Tryz.prog 69 [.agg [LTb g [t]],aK f1 g1 ⟨2,t.name,tb,row,a,v⟩] fun x=>x = .tup [.agg [LTb false [wrT t (fw t.rows row)]],.int .i64 0]:=by
 have c1:=nM [t] g t.name (by simp);rw[lp rfl]at c1;have c2:=insert_u t false false row hv hk hrl;rw[insV_ok he]at c2;have c3:=nk [t] g (by simp);obtain⟨D,hD⟩:∃D,D=fw t.rows row:=⟨_,rfl⟩;rw[←hD]at c2 ⊢;simp only[LTb,aD,LS,LR,aC,LV,oq,pJ,wrT]at c1 c2 c3;refine au (aE tok Tryz.func69 rfl rfl ?_);refine wx ?_;simp -dsimp[Tryz.f69,oE,aK,chC,aD,LS,LR,LTb,aC,LV];refine cPx (c1) (by simp) ?_;simp -dsimp[];refine cPx (c2) (by simp) ?_;simp -dsimp[];refine(fb c3 (by simp)).mono ?_;rintro x H' ⟨e,z,ys,rfl,rfl,_,rfl,rfl,rfl⟩;simp -dsimp[];exact exp_db rfl (by simp)
theorem apply_del(t:Tb)(g f1 g1:Bool)(tb:Tb)(row:Rw)(a:Int)(v:Vl)(hv:aG t=0)(hk:TbOk t)(hrl:row.vals.length≤1000000)(hi:fN t row=true):
  aJ Tryz.prog 69 [.agg [LTb g [t]],aK f1 g1 ⟨3,t.name,tb,row,a,v⟩] fun x=>x = .tup [.agg [LTb false [wrT t (eE t.rows row.id)]],.int .i64 0]:=by
 unfold fN at hi;rw[oP,decide_eq_true_iff]at hi;obtain⟨hin,hvals⟩:=hi;have hr:=cX hv;have hvr:=ay hv;have hin':(fnd t.rows row.id 0).2=true:=hin;have hkl:=iv 0 hin';have c1:=nM [t] g t.name (by simp);rw[lp rfl]at c1;have c2:=gB t false false row.id (by omega);rw[hin']at c2;have hat:atT t row.id=rwG t.rows (fnd t.rows row.id 0).1:=rfl;rw[hat,dt hkl]at hvals;obtain⟨k,hke⟩:∃k,k=(fnd t.rows row.id 0).1:=⟨_,rfl⟩;simp only[←hke]at c2 hkl hvals
 have hrv:t.rows[k].vals.length≤1000000:=by
  have:=(hvr _ (oI hkl)).2.1;have:=hk.attrs;omega
 have c3:=valsEq_u t.rows[k].vals row.vals false false hrv;obtain⟨rk,hrk⟩:∃rk,rk=t.rows[k]:=⟨_,rfl⟩;rw[←hrk]at hvals c3;rw[decide_eq_true hvals]at c3;have c4:=delete_u t false false row.id hv hk;unfold delV at c4;rw[if_pos hin]at c4;have c5:=nk [t] g (by simp);obtain⟨D,hD⟩:∃D,D=eE t.rows row.id:=⟨_,rfl⟩;rw[←hD]at c4 ⊢;simp only[LTb,aD,LS,LR,LV,aF,oq,pJ,wrT]at c1 c2 c3 c4 c5;refine au (aE tok Tryz.func69 rfl rfl ?_);refine wx ?_;simp -dsimp[Tryz.f69,oE,aK,chC,aD,LS,LR,LTb];refine cPx (c1) (by simp) ?_;simp -dsimp[];refine cPx (c2) (by simp) ?_;simp -dsimp[hkl,hrk.symm,aC,LV];refine .inr ⟨aS (by kernel_rfl),?_⟩;refine az _ (aT (c3) (by simp)) ?_;simp -dsimp[];refine cPx (c4) (by simp) ?_;simp -dsimp[];refine(fb c5 (by simp)).mono ?_;rintro x H' ⟨e,z,ys,rfl,rfl,_,rfl,rfl,rfl⟩;simp -dsimp[];exact exp_db rfl (by simp)
theorem apply_chg(t:Tb)(g f1 g1:Bool)(tb:Tb)(row:Rw)(a:Int)(v:Vl)(hv:aG t=0)(hk:TbOk t)(hrl:row.vals.length≤1000000)(hi:fN t row=true)(ha:0≤a)(ha2:a<t.attrs.length)(hvv:aW v=true):
  aJ Tryz.prog 69 [.agg [LTb g [t]],aK f1 g1 ⟨4,t.name,tb,row,a,v⟩] fun x=>x = .tup [.agg [LTb false [wrT t (gX t.rows row.id a.toNat v)]],.int .i64 0]:=by
 unfold fN at hi;rw[oP,decide_eq_true_iff]at hi;obtain⟨hin,hvals⟩:=hi;have hr:=cX hv;have hvr:=ay hv;have hin':(fnd t.rows row.id 0).2=true:=hin;have hkl:=iv 0 hin';have c1:=nM [t] g t.name (by simp);rw[lp rfl]at c1;have c2:=gB t false false row.id (by omega);rw[hin']at c2;have hat:atT t row.id=rwG t.rows (fnd t.rows row.id 0).1:=rfl;rw[hat,dt hkl]at hvals;obtain⟨k,hke⟩:∃k,k=(fnd t.rows row.id 0).1:=⟨_,rfl⟩;simp only[←hke]at c2 hkl hvals
 have hrv:t.rows[k].vals.length≤1000000:=by
  have:=(hvr _ (oI hkl)).2.1;have:=hk.attrs;omega
 have c3:=valsEq_u t.rows[k].vals row.vals false false hrv;obtain⟨rk,hrk⟩:∃rk,rk=t.rows[k]:=⟨_,rfl⟩;rw[←hrk]at hvals c3;rw[decide_eq_true hvals]at c3;have c4:=change_u t false false row.id a v hv hk;unfold chgV at c4;rw[chgV_ok hin (by omega) (by omega) hvv,if_pos rfl]at c4;have c5:=nk [t] g (by simp);obtain⟨D,hD⟩:∃D,D=gX t.rows row.id a.toNat v:=⟨_,rfl⟩;rw[←hD]at c4 ⊢;simp only[LTb,aD,LS,LR,LV,aF,oq,pJ,wrT]at c1 c2 c3 c4 c5;refine au (aE tok Tryz.func69 rfl rfl ?_);refine wx ?_;simp -dsimp[Tryz.f69,oE,aK,chC,aD,LS,LR,LTb];refine cPx (c1) (by simp) ?_;simp -dsimp[];refine cPx (c2) (by simp) ?_;simp -dsimp[hkl,hrk.symm,aC,LV];refine .inr ⟨aS (by kernel_rfl),?_⟩;refine az _ (aT (c3) (by simp)) ?_;simp -dsimp[];refine cPx (c4) (by simp) ?_;simp -dsimp[];refine(fb c5 (by simp)).mono ?_;rintro x H' ⟨e,z,ys,rfl,rfl,_,rfl,rfl,rfl⟩;simp -dsimp[];exact exp_db rfl (by simp)
theorem oA(t u:Tb)(c:Ch)(g f1 g1:Bool)(hv:aG t=0)(hk:TbOk t)(hrl:c.row.vals.length≤1000000)(hs:av t c=some u):aJ Tryz.prog 69 [.agg [LTb g [t]],aK f1 g1 c] fun x=>x = .tup [.agg [LTb false [u]],.int .i64 0]:=by
 obtain⟨k,nm,tb,row,a,v⟩:=c;unfold av at hs;simp only at hs hrl;by_cases hn:nm=t.name
 case neg=>rw[if_neg hn]at hs;cases hs
 rw[if_pos hn]at hs;subst hn;by_cases h2:k=2
 ·rw[if_pos h2]at hs;subst h2;by_cases he:bX t row=0
  ·rw[if_pos he]at hs;cases hs;exact apply_ins t g f1 g1 tb row a v hv hk hrl he
  ·rw[if_neg he]at hs;cases hs
 ·rw[if_neg h2]at hs;by_cases hi:fN t row=true
  case neg=>rw[if_neg hi]at hs;cases hs
  rw[if_pos hi]at hs;by_cases h3:k=3
  ·rw[if_pos h3]at hs;subst h3;cases hs;exact apply_del t g f1 g1 tb row a v hv hk hrl hi
  ·rw[if_neg h3]at hs;by_cases h4:k=4
   ·rw[if_pos h4]at hs;subst h4;by_cases hc:0≤a∧a<t.attrs.length∧aW v=true
    ·rw[if_pos hc]at hs;cases hs;exact apply_chg t g f1 g1 tb row a v hv hk hrl hi hc.1 hc.2.1 hc.2.2
    ·rw[if_neg hc]at hs;cases hs
   ·rw[if_neg h4]at hs;cases hs
def nwS(nl:List V):B:=.buf 81 11 nl false
theorem perform_o(t u:Tb)(c:Ch)(g:Bool)(hv:aG t=0)(hk:TbOk t)(hrl:c.row.vals.length≤1000000)(hs:av t c=some u)(dn ud:V)(D:B)(nl:List V)(m:Nat)(hm:nl.length=m)(hml:m≤1000000)(hD:∀n,2≤n→rbB n D):
  aU Tryz.prog 38 [.ptr 0 0,aK false false c] [stB (LTb g [t]) dn ud true (.buf 2 0 m m),D,nwS nl] fun r H'=>r = .int .i64 0∧∃G,H'=[stB (LTb false [u]) dn ud true (.buf 2 0 (m+1) (m+1)),D,nwS (nl++[aK false false c])]++G:=by
 have c1:=oA t u c g false false hv hk hrl hs;simp only[aK,chC,LTb,aD,LS,LR,oq,pJ]at c1;refine aE tok Tryz.func38 rfl rfl ?_;refine wx ?_;simp -dsimp[Tryz.f38,oE,aK,chC,LTb,aD,LS,LR,stB,nwS];refine aI (aX tok mixed [9,10] [(0,[1]),(1,[1]),(2,[1]),(3,[1]),(4,[1]),(5,[1]),(6,[1]),(7,[1]),(8,[1,2])] [(.tup [.agg [.lst 3 false [.agg [.str u.name,.lst 1 false (u.attrs.map V.str),.lst 2 false (u.rows.map aC)]]],.int .i64 0],[])] (by kernel_rfl) fun C K hC hK=>?_);simp -implicitDefEqProofs [];refine⟨⟨hC _ _ _ _ (aT c1 (by simp)),hC _ _ _ _ (aT c1 (by simp))⟩,hK _ _ ?_⟩;simp -dsimp[hm];refine aI (aX tok mixed [7,10] [(0,[1])] [] (by kernel_rfl) fun C K hC hK=>?_);simp -implicitDefEqProofs [hm,capJn m hml];refine hK _ _ ?_;simp -dsimp[hm,capJn m hml]
 all_goals exact⟨rfl,rfl⟩
def g3(k L M:Nat)(i:Nat):Nat:=if i=0 then k else if i=1 then L else M
theorem lift3{P:Program}{f:FuncId}{args0 args:List V}{A0 A1 A2 B0 B1 B2 C0 C1 C2 D0 D1 D2:B}{r0:V}{H:List B}{k L M:Nat}(h:aU P f args0 [A0,A1,A2] fun r H'=>r=r0∧H'=[C0,C1,C2])
  (hkL:k≠L) (hkM:k≠M) (hLM:L≠M) (h0:H[k]?=some B0) (h1:H[L]?=some B1) (h2:H[M]?=some B2) (R0:RenB (g3 k L M) 3 A0 B0) (R1:RenB (g3 k L M) 3 A1 B1) (R2:RenB (g3 k L M) 3 A2 B2) (S0:RenB (g3 k L M) 3 C0 D0) (S1:RenB (g3 k L M) 3 C1 D1) (S2:RenB (g3 k L M) 3 C2 D2)
  (hal:args0.length=args.length) (ha:∀(i:Nat) a b,args0[i]?=some a→args[i]?=some b→Ren (g3 k L M) 3 a b) (hr:AM.Pure r0):aU P f args H fun r H'=>r=r0∧H'=((H.set k D0).set L D1).set M D2:=by
 have hk:=aB h0;have hL:=aB h1;have hM:=aB h2;refine eT 3 3 (g3 k L M) h rfl rfl (oJ _) (fun i j hi hj e=>?_) (fun i hi=>?_) (fun i h1 h2=>absurd h1 (by omega)) (fun i b hb=>?_) (fun i b hb=>?_) (by simp) (fun j hj hno=>?_) hal ha hr
 ·match i,j,hi,hj with
  | 0,0,_,_=>rfl
  | 0,1,_,_=>simp[g3]at e;exact absurd e hkL
  | 0,2,_,_=>simp[g3]at e;exact absurd e hkM
  | 1,0,_,_=>simp[g3]at e;exact absurd e.symm hkL
  | 1,1,_,_=>rfl
  | 1,2,_,_=>simp[g3]at e;exact absurd e hLM
  | 2,0,_,_=>simp[g3]at e;exact absurd e.symm hkM
  | 2,1,_,_=>simp[g3]at e;exact absurd e.symm hLM
  | 2,2,_,_=>rfl
 ·match i,hi with
  | 0,_=>exact hk
  | 1,_=>exact hL
  | 2,_=>exact hM
 ·match i with
  | 0=>simp at hb;subst hb;exact⟨_,h0,R0⟩
  | 1=>simp at hb;subst hb;exact⟨_,h1,R1⟩
  | 2=>simp at hb;subst hb;exact⟨_,h2,R2⟩
  | i+3=>simp at hb
 ·match i with
  | 0 =>
   simp at hb;subst hb;exact⟨D0,by show(((H.set k D0).set L D1).set M D2)[k]?=_;rw[oQ (Ne.symm hkM),oQ (Ne.symm hkL),oX hk],S0⟩
  | 1 =>
   simp at hb;subst hb;exact⟨D1,by show(((H.set k D0).set L D1).set M D2)[L]?=_;rw[oQ (Ne.symm hLM),oX (by simpa using hL)],S1⟩
  | 2 =>
   simp at hb;subst hb;exact⟨D2,by show(((H.set k D0).set L D1).set M D2)[M]?=_;rw[oX (by simpa using hM)],S2⟩
  | i+3=>simp at hb
 ·have n0:k≠j:=hno 0 (by omega);have n1:L≠j:=hno 1 (by omega);have n2:M≠j:=hno 2 (by omega);rw[oQ n2,oQ n1,oQ n0]
theorem ren_so{g:Nat→Nat}{n m q:Nat}{db ud:V}{o:Bool}(h1:1<n)(h2:2<n)(hd:AM.Pure db)(hu:AM.Pure ud)(o1:db.one=true)(o2:ud.one=true):RenB g n (stB db (.buf 1 0 m m) ud o (.buf 2 0 q q)) (stB db (.buf (g 1) 0 m m) ud o (.buf (g 2) 0 q q)):=by
 refine .cells _ _ rfl (fun c hc=>?_) (fun i c d hc hd'=>?_)
 ·simp only[oR,oO,or_false]at hc
  rcases hc with rfl | rfl | rfl | rfl | rfl<;>first | rfl | assumption
 ·match i with
  | 0=>simp at hc hd';subst hc;subst hd';exact .pure _ hd
  | 1=>simp at hc hd';subst hc;subst hd';exact .buf 1 0 m m h1
  | 2=>simp at hc hd';subst hc;subst hd';exact .pure _ hu
  | 3=>simp at hc hd';subst hc;subst hd';exact .pure _ (.bool _)
  | 4=>simp at hc hd';subst hc;subst hd';exact .buf 2 0 q q h2
  | i+5=>simp at hc
theorem ren_nw{g:Nat→Nat}{n:Nat}{nl:List V}(h:∀x∈nl,AM.Pure x):RenB g n (nwS nl) (nwS nl):=.buf _ _ _ _ h
structure StO (db ud:V) (dl nl:List V):Prop where
 qdb:AM.Pure db
 qud:AM.Pure ud
 qdl:∀x∈dl,AM.Pure x
 qnl:∀x∈nl,AM.Pure x
 rdb:db.one=true
 rud:ud.one=true
 rdl:∀x∈dl,∀c∈x.cells,c.one=true
 rnl:∀x∈nl,∀c∈x.cells,c.one=true
theorem StO.rb{db ud:V}{dl nl:List V}{m q:Nat}{o:Bool}(h:StO db ud dl nl):∀bl∈[stB db (.buf 1 0 m m) ud o (.buf 2 0 q q),dnS dl,nwS nl],rbB 3 bl:=fun bl hbl=>by
 simp only[oR,oO,or_false]at hbl
 rcases hbl with rfl | rfl | rfl
 ·intro c hc;simp only[oR,oO,or_false]at hc
  rcases hc with rfl | rfl | rfl | rfl | rfl
  ·exact bJ h.qdb h.rdb
  ·show 1<3;omega
  ·exact bJ h.qud h.rud
  ·simp[rb,rb1]
  ·show 2<3;omega
 ·exact(dB h.qdl h.rdl).2 trivial
 ·exact(dB h.qnl h.rnl).2 trivial
theorem je{P:Program}{f:FuncId}{ar:List V}{db ud db' ud' r0:V}{dl dl' nl nl':List V}{m m' q q':Nat}{o o':Bool}{H:List B}{k L M:Nat}
  (h:aU P f (.ptr 0 0::ar) [stB db (.buf 1 0 m m) ud o (.buf 2 0 q q),dnS dl,nwS nl] fun r H'=>r=r0∧H'=[stB db' (.buf 1 0 m' m') ud' o' (.buf 2 0 q' q'),dnS dl',nwS nl'])
  (p:StO db ud dl nl) (p':StO db' ud' dl' nl') (has:∀a∈ar,AM.Pure a) (hr:AM.Pure r0) (hkL:k≠L) (hkM:k≠M) (hLM:L≠M) (h0:H[k]?=some (stB db (.buf L 0 m m) ud o (.buf M 0 q q))) (h1:H[L]?=some (dnS dl)) (h2:H[M]?=some (nwS nl)):
  aU P f (.ptr k 0::ar) H fun r H'=>r=r0∧H'=((H.set k (stB db' (.buf L 0 m' m') ud' o' (.buf M 0 q' q'))).set L (dnS dl')).set M (nwS nl'):=by
 have e:g3 k L M 1=L:=rfl;have e2:g3 k L M 2=M:=rfl;refine lift3 h hkL hkM hLM h0 h1 h2 ?_ (kT p.qdl) (ren_nw p.qnl) ?_ (kT p'.qdl) (ren_nw p'.qnl) rfl (fun i a b ha hb=>?_) hr
 ·have:=ren_so (g:=g3 k L M) (n:=3) (m:=m) (q:=q) (o:=o) (by omega) (by omega) p.qdb p.qud p.rdb p.rud
  rwa [e,e2]at this
 ·have:=ren_so (g:=g3 k L M) (n:=3) (m:=m') (q:=q') (o:=o') (by omega) (by omega) p'.qdb p'.qud p'.rdb p'.rud
  rwa [e,e2]at this
 ·cases i with
  | zero =>
   simp at ha hb;subst ha;subst hb;exact .ptr 0 0 (by omega)
  | succ i =>
   simp only[pL]at ha hb;rw[ha]at hb;cases hb;exact .pure _ (has _ (oH ha))
theorem encCh_one(c:Ch):∀x∈(aK false false c).cells,x.one=true:=by simp[aK,chC,V.cells,V.one]
theorem StO.step{t u:Tb}{g:Bool}{ud:V}{dl nl:List V}(h:StO (LTb g [t]) ud dl nl)(c:Ch):StO (LTb false [u]) ud dl (nl++[aK false false c]):=
 ⟨by simp,h.qud,h.qdl,fun x hx=>by
  rcases List.mem_append.1 hx with q | q
  ·exact h.qnl x q
  ·rw[List.mem_singleton.1 q];simp,rfl,h.rud,h.rdl,fun x hx=>by
  rcases List.mem_append.1 hx with q | q
  ·exact h.rnl x q
  ·rw[List.mem_singleton.1 q];exact encCh_one c⟩
theorem kV(t u:Tb)(c:Ch)(g:Bool)(hv:aG t=0)(hk:TbOk t)(hrl:c.row.vals.length≤1000000)(hs:av t c=some u)(ud:V)(dl nl:List V)(m q:Nat)(hq:nl.length=q)(hql:q≤1000000)(p:StO (LTb g [t]) ud dl nl):
  aU Tryz.prog 38 [.ptr 0 0,aK false false c] [stB (LTb g [t]) (.buf 1 0 m m) ud true (.buf 2 0 q q),dnS dl,nwS nl] fun r H'=>r = .int .i64 0∧H'=[stB (LTb false [u]) (.buf 1 0 m m) ud true (.buf 2 0 (q+1) (q+1)),dnS dl,nwS (nl++[aK false false c])] :=
 gW (perform_o t u c g hv hk hrl hs (.buf 1 0 m m) ud (dnS dl) nl q hq hql (fun n hn=>(dB p.qdl p.rdl).2 trivial)) (by simp) (by simp[rb,rb1]) (p.step c).rb
theorem wcE{P:Program}{f:FuncId}{args:List V}{H H0:List B}{r0:V}{K:V→List B→Prop}(h:aU P f args H fun r H'=>r=r0∧H'=H0)(hk:K r0 H0):aL P (.fn f []) args H K :=
 wcm h fun _ _ hh=>hh.1▸hh.2▸hk
theorem le_ch{p k nm id vs a vk vn vv:V} : ∀(i:Nat) x y,[p,.agg [k,nm,.str oF,.nilS,.nilS,id,vs,a,vk,vn,vv]][i]?=some x→[p,.agg [k,nm,.str oF,.lst 1 false [],.lst 2 false [],id,vs,a,vk,vn,vv]][i]?=some y→Le x y:=fun i x y hx hy=>by
 match i with
 | 0=>simp at hx hy;subst hx;subst hy;exact .refl _
 | 1 =>
  simp at hx hy;subst hx;subst hy;refine .agg _ _ rfl (fun j u v hu hv=>?_)
  match j with
  | 0=>simp at hu hv;subst hu;subst hv;exact .refl _
  | 1=>simp at hu hv;subst hu;subst hv;exact .refl _
  | 2=>simp at hu hv;subst hu;subst hv;exact .refl _
  | 3=>simp at hu hv;subst hu;subst hv;exact .nil _ _
  | 4=>simp at hu hv;subst hu;subst hv;exact .nil _ _
  | 5=>simp at hu hv;subst hu;subst hv;exact .refl _
  | 6=>simp at hu hv;subst hu;subst hv;exact .refl _
  | 7=>simp at hu hv;subst hu;subst hv;exact .refl _
  | 8=>simp at hu hv;subst hu;subst hv;exact .refl _
  | 9=>simp at hu hv;subst hu;subst hv;exact .refl _
  | 10=>simp at hu hv;subst hu;subst hv;exact .refl _
  | j+11=>simp at hu
 | i+2=>simp at hx
theorem insert_o(u w:Tb)(row:Rw)(g:Bool)(hv:aG u=0)(hk:TbOk u)(hrl:row.vals.length≤1000000)(hs:av u ⟨2,u.name,tb0,row,0,vl0⟩=some w)(ud:V)(dl nl:List V)(m q:Nat)(hq:nl.length=q)(hql:q≤1000000)(p:StO (LTb g [u]) ud dl nl):
  aU Tryz.prog 90 [.ptr 0 0,.str u.name,aC row] [stB (LTb g [u]) (.buf 1 0 m m) ud true (.buf 2 0 q q),dnS dl,nwS nl] fun r H'=>r = .int .i64 0∧H'=[stB (LTb false [w]) (.buf 1 0 m m) ud true (.buf 2 0 (q+1) (q+1)),dnS dl,nwS (nl++[aK false false ⟨2,u.name,tb0,row,0,vl0⟩])]:=by
 refine gW ?_ (by simp) (by simp[rb,rb1]) (p.step _).rb;have c1:=row_s row hrl
 have c2:=fun G=>je (H:=[stB (LTb g [u]) (.buf 1 0 m m) ud true (.buf 2 0 q q),dnS dl,nwS nl,G]) (k:=0) (L:=1) (M:=2) (kV u w ⟨2,u.name,tb0,row,0,vl0⟩ g hv hk hrl hs ud dl nl m q hq hql p) p (p.step _) (by simp) (by simp) (by decide) (by decide) (by decide) rfl rfl rfl
 obtain⟨S,hS⟩:∃S,S=stB (LTb g [u]) (.buf 1 0 m m) ud true (.buf 2 0 q q):=⟨_,rfl⟩;obtain⟨S1,hS1⟩:∃S,S=stB (LTb false [w]) (.buf 1 0 m m) ud true (.buf 2 0 (q+1) (q+1)):=⟨_,rfl⟩;obtain⟨D,hD⟩:∃D,D=dnS dl:=⟨_,rfl⟩;obtain⟨N,hN⟩:∃N,N=nwS nl:=⟨_,rfl⟩;obtain⟨N1,hN1⟩:∃N,N=nwS (nl++[aK false false ⟨2,u.name,tb0,row,0,vl0⟩]):=⟨_,rfl⟩;simp only[←hS,←hS1,←hD,←hN,←hN1,oz,pG]at c2 ⊢;simp only[aC,LV,aK,chC,tb0,vl0,pJ]at c1 c2;refine aE tok Tryz.func90 rfl rfl ?_;refine wx ?_;simp -dsimp[Tryz.f90,oE,aC,LV];refine cPx (c1) (by simp) ?_;simp -dsimp[];refine wcE (jw (c2 _) rfl le_ch) ?_;simp -dsimp[]
theorem cut1P{P:Program}{f:FuncId}{args:List V}{H Hf:List B}{r0:V}(h:aU P f args H fun r H'=>r=r0∧∃G,H'=Hf++G)(hl:H.length≤Hf.length)(hp:AM.Pure r0)(hb:∀bl∈Hf,rbB Hf.length bl):aU P f args H fun r H'=>r=r0∧H'=Hf:=by
 refine⟨h.1,fun s vals h1 h2 h3 h4=>(h.2 s vals h1 h2 h3 h4).mono fun e w' ⟨u,s',r,a,b,c,d,e1,k1,G,k3⟩=>?_⟩;subst k1;exact⟨u,s'.cut Hf,r,a,b,fS c k3 hb,ej c k3 (Step.refl _) s d (by rw[h1.1];exact hl),Rel.pure_ e1 hp (fun b hb=>⟨cU k3 hb,rfl⟩),rfl,rfl⟩
theorem nz(u:Tb)(id:Int)(g:Bool)(hv:aG u=0)(hk:TbOk u)(hin:inT u id=true)(ud:V)(dl nl:List V)(m q:Nat)(p:StO (LTb g [u]) ud dl nl):
  aU Tryz.prog 159 [.ptr 0 0,.str u.name,.int .i64 id] [stB (LTb g [u]) (.buf 1 0 m m) ud true (.buf 2 0 q q),dnS dl,nwS nl] fun r H'=>r = .tup [aC (atT u id),.int .i64 0]∧H'=[stB (LTb g [u]) (.buf 1 0 m m) ud true (.buf 2 0 q q),dnS dl,nwS nl]:=by
 refine cut1P ?_ (by simp) (by simp) p.rb;have hr:=cX hv;have hvr:=ay hv;have c1:=nM [u] g u.name (by simp);rw[lp rfl]at c1;have cf:=gB u false false id (by omega);have hin':(fnd u.rows id 0).2=true:=hin;have hkl:=iv 0 hin';rw[hin']at cf;have hat:atT u id=rwG u.rows (fnd u.rows id 0).1:=rfl;obtain⟨kk,hke⟩:∃kk,kk=(fnd u.rows id 0).1:=⟨_,rfl⟩;simp only[←hke]at cf hkl hat;rw[dt hkl]at hat
 have hrv:u.rows[kk].vals.length≤1000000:=by
  have:=(hvr _ (oI hkl)).2.1;have:=hk.attrs;omega
 have c3:=row_s u.rows[kk] hrv;obtain⟨rk,hrk⟩:∃rk,rk=u.rows[kk]:=⟨_,rfl⟩;rw[←hrk]at hat c3;rw[hat];obtain⟨D,hD⟩:∃D,D=dnS dl:=⟨_,rfl⟩;obtain⟨N,hN⟩:∃N,N=nwS nl:=⟨_,rfl⟩;simp only[←hD,←hN];simp only[aC,LV,LTb,aD,LS,LR,oq,pJ]at c1 cf c3;refine aE tok Tryz.func159 rfl rfl ?_;refine wx ?_;simp -dsimp[Tryz.f159,oE,stB,LTb,aD,LS,LR];refine cPx (c1) (by simp) ?_;simp -dsimp[];refine cPx (cf) (by simp) ?_;simp -dsimp[hkl,hrk.symm,aC,LV];refine cPx (c3) (by simp) ?_;simp -dsimp[];exact⟨rfl,rfl⟩
theorem delete_o(u w:Tb)(id:Int)(g:Bool)(hv:aG u=0)(hk:TbOk u)(hin:inT u id=true)(hs:av u ⟨3,u.name,tb0,atT u id,0,vl0⟩=some w)(ud:V)(dl nl:List V)(m q:Nat)(hq:nl.length=q)(hql:q≤1000000)(p:StO (LTb g [u]) ud dl nl):
  aU Tryz.prog 91 [.ptr 0 0,.str u.name,.int .i64 id] [stB (LTb g [u]) (.buf 1 0 m m) ud true (.buf 2 0 q q),dnS dl,nwS nl] fun r H'=>r = .int .i64 0∧H'=[stB (LTb false [w]) (.buf 1 0 m m) ud true (.buf 2 0 (q+1) (q+1)),dnS dl,nwS (nl++[aK false false ⟨3,u.name,tb0,atT u id,0,vl0⟩])]:=by
 refine gW ?_ (by simp) (by simp[rb,rb1]) (p.step _).rb
 have hrl:(atT u id).vals.length≤1000000:=by
  have:=(ay hv _ (gK hin).2).2.1;have:=hk.attrs;omega
 have c1:=nz u id g hv hk hin ud dl nl m q p
 have c2:=fun G=>je (H:=[stB (LTb g [u]) (.buf 1 0 m m) ud true (.buf 2 0 q q),dnS dl,nwS nl,G]) (k:=0) (L:=1) (M:=2) (kV u w ⟨3,u.name,tb0,atT u id,0,vl0⟩ g hv hk hrl hs ud dl nl m q hq hql p) p (p.step _) (by simp) (by simp) (by decide) (by decide) (by decide) rfl rfl rfl
 obtain⟨S,hS⟩:∃S,S=stB (LTb g [u]) (.buf 1 0 m m) ud true (.buf 2 0 q q):=⟨_,rfl⟩;obtain⟨S1,hS1⟩:∃S,S=stB (LTb false [w]) (.buf 1 0 m m) ud true (.buf 2 0 (q+1) (q+1)):=⟨_,rfl⟩;obtain⟨D,hD⟩:∃D,D=dnS dl:=⟨_,rfl⟩;obtain⟨N,hN⟩:∃N,N=nwS nl:=⟨_,rfl⟩;obtain⟨N1,hN1⟩:∃N,N=nwS (nl++[aK false false ⟨3,u.name,tb0,atT u id,0,vl0⟩]):=⟨_,rfl⟩;simp only[←hS,←hS1,←hD,←hN,←hN1,oz,pG]at c1 c2 ⊢;simp only[aC,LV,aK,chC,tb0,vl0,pJ]at c1 c2;refine aE tok Tryz.func91 rfl rfl ?_;refine wx ?_;simp -dsimp[Tryz.f91,oE];refine wcE c1 ?_;simp -dsimp[];refine wcE (jw (c2 _) rfl le_ch) ?_;simp -dsimp[]
theorem change_o(u w:Tb)(id:Int)(b:Nat)(v:Vl)(g:Bool)(hv:aG u=0)(hk:TbOk u)(hin:inT u id=true)(hb:b<(atT u id).vals.length)(hvv:aW v=true)(hno:¬(atT u id).vals[b]=v)(hs:av u ⟨4,u.name,tb0,atT u id,b,v⟩=some w)(ud:V)(dl nl:List V)(m q:Nat)(hq:nl.length=q)(hql:q≤1000000)(p:StO (LTb g [u]) ud dl nl):
  aU Tryz.prog 92 [.ptr 0 0,.str u.name,.agg [.int .i64 id,.int .i64 b],aF v] [stB (LTb g [u]) (.buf 1 0 m m) ud true (.buf 2 0 q q),dnS dl,nwS nl] fun r H'=>r = .int .i64 0∧H'=[stB (LTb false [w]) (.buf 1 0 m m) ud true (.buf 2 0 (q+1) (q+1)),dnS dl,nwS (nl++[aK false false ⟨4,u.name,tb0,atT u id,b,v⟩])]:=by
 refine gW ?_ (by simp) (by simp[rb,rb1]) (p.step _).rb
 have hrl:(atT u id).vals.length≤1000000:=by
  have:=(ay hv _ (gK hin).2).2.1;have:=hk.attrs;omega
 have c1:=nz u id g hv hk hin ud dl nl m q p
 have c2:=fun G0 G1 G2=>je (H:=[stB (LTb g [u]) (.buf 1 0 m m) ud true (.buf 2 0 q q),dnS dl,nwS nl,G0,G1,G2]) (k:=0) (L:=1) (M:=2) (kV u w ⟨4,u.name,tb0,atT u id,b,v⟩ g hv hk hrl hs ud dl nl m q hq hql p) p (p.step _) (by simp) (by simp) (by decide) (by decide) (by decide) rfl rfl rfl
 have c3:=cG v;rw[hvv]at c3
 have c4:=fun G0 G1=>je (H:=[stB (LTb g [u]) (.buf 1 0 m m) ud true (.buf 2 0 q q),dnS dl,nwS nl,G0,G1]) (k:=0) (L:=1) (M:=2) c1 p p (by simp) (by simp) (by decide) (by decide) (by decide) rfl rfl rfl
 obtain⟨x,hx⟩:∃x,x=atT u id:=⟨_,rfl⟩;simp only[←hx]at c2 c4 hb hno ⊢;clear c1 hs
 have e1:=fun H=>eqVl9 H x.vals[b] v
 have e2:decide (x.vals[b]=v)=false:=by simp[hno]
 obtain⟨S,hS⟩:∃S,S=stB (LTb g [u]) (.buf 1 0 m m) ud true (.buf 2 0 q q):=⟨_,rfl⟩;obtain⟨S1,hS1⟩:∃S,S=stB (LTb false [w]) (.buf 1 0 m m) ud true (.buf 2 0 (q+1) (q+1)):=⟨_,rfl⟩;obtain⟨D,hD⟩:∃D,D=dnS dl:=⟨_,rfl⟩;obtain⟨N,hN⟩:∃N,N=nwS nl:=⟨_,rfl⟩;obtain⟨N1,hN1⟩:∃N,N=nwS (nl++[aK false false ⟨4,u.name,tb0,x,b,v⟩]):=⟨_,rfl⟩;simp only[←hS,←hS1,←hD,←hN,←hN1,oz,pG]at c2 c4 ⊢;simp only[aC,LV,aK,chC,tb0,pJ,aF]at c2 c3 c4;refine aE tok Tryz.func92 rfl rfl ?_;refine wx ?_;simp -dsimp[Tryz.f92,oE,aF];refine wcE (c4 _ _) ?_;simp (maxSteps:=2000000) -implicitDefEqProofs -dsimp[hb,e1,e2];refine .inr ⟨aS (by kernel_rfl),?_⟩;refine az _ (aT (c3) (by simp)) ?_;simp -dsimp[hb,aF,e1,e2];refine wcE (jw (c2 _ _ _) rfl le_ch) ?_;simp -dsimp[]
theorem change_nop(u:Tb)(id:Int)(b:Nat)(v:Vl)(g:Bool)(hv:aG u=0)(hk:TbOk u)(hin:inT u id=true)(hb:b<(atT u id).vals.length)(hvv:aW v=true)(hno:(atT u id).vals[b]=v)(ud:V)(dl nl:List V)(m q:Nat)(p:StO (LTb g [u]) ud dl nl):
  aU Tryz.prog 92 [.ptr 0 0,.str u.name,.agg [.int .i64 id,.int .i64 b],aF v] [stB (LTb g [u]) (.buf 1 0 m m) ud true (.buf 2 0 q q),dnS dl,nwS nl] fun r H'=>r = .int .i64 0∧H'=[stB (LTb g [u]) (.buf 1 0 m m) ud true (.buf 2 0 q q),dnS dl,nwS nl]:=by
 refine gW ?_ (by simp) (by simp[rb,rb1]) p.rb;have c1:=nz u id g hv hk hin ud dl nl m q p;have c3:=cG v;rw[hvv]at c3
 have c4:=fun G0 G1=>je (H:=[stB (LTb g [u]) (.buf 1 0 m m) ud true (.buf 2 0 q q),dnS dl,nwS nl,G0,G1]) (k:=0) (L:=1) (M:=2) c1 p p (by simp) (by simp) (by decide) (by decide) (by decide) rfl rfl rfl
 obtain⟨x,hx⟩:∃x,x=atT u id:=⟨_,rfl⟩;simp only[←hx]at c4 hb hno ⊢;clear c1
 have e1:=fun H=>eqVl9 H x.vals[b] v
 have e2:decide (x.vals[b]=v)=true:=by simp[hno]
 obtain⟨S,hS⟩:∃S,S=stB (LTb g [u]) (.buf 1 0 m m) ud true (.buf 2 0 q q):=⟨_,rfl⟩;obtain⟨D,hD⟩:∃D,D=dnS dl:=⟨_,rfl⟩;obtain⟨N,hN⟩:∃N,N=nwS nl:=⟨_,rfl⟩;simp only[←hS,←hD,←hN,oz,pG]at c4 ⊢;simp only[aC,LV,aF]at c3 c4;refine aE tok Tryz.func92 rfl rfl ?_;refine wx ?_;simp -dsimp[Tryz.f92,oE,aF];refine wcE (c4 _ _) ?_;simp (maxSteps:=2000000) -implicitDefEqProofs -dsimp[hb,e1,e2];refine .inr ⟨aS (by kernel_rfl),?_⟩;refine az _ (aT (c3) (by simp)) ?_;simp -dsimp[hb,aF,e1,e2]
end
end Go.Proofs.YtdnhplencamncaaGreatDoor
section
namespace Go.Proofs.YtdnhplencamncaaGreatDoor
open Go Go.AM
end Go.Proofs.YtdnhplencamncaaGreatDoor
end
namespace Go.Proofs.YtdnhplencamncaaGreatDoor
section
open Go Go.AM
theorem tbOk_step{t u:Tb}{c:Ch}(hv:aG t=0)(hk:TbOk t)(hs:av t c=some u):aG u=0∧TbOk u:=by
 obtain⟨h1,h2,h3⟩:=et hv hs;have:=cX h1;exact⟨h1,by rw[h2];exact hk.name,by rw[h3];exact hk.attrs,by omega,by rw[h3];exact hk.strs⟩
structure FTsS where
 i:Nat
 u:Tb
 f:Bool
 g:Bool
end
end Go.Proofs.YtdnhplencamncaaGreatDoor
