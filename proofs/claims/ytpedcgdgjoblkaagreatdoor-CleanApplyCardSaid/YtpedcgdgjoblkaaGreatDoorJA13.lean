/- JA13: own texts of this seat, joined and shortened by pack4.py: T3, T4, PT, T5, T6, T7, T8, T9, T10, G1, Rc, Rd, T11. -/
import Derived.Test.YtpedcgdgjoblkaaGreatDoorJA10
set_option linter.unusedVariables false
set_option linter.unusedSimpArgs false
set_option maxRecDepth 100000
set_option maxHeartbeats 64000000
open Bool renaming false_eq_true→kU,true_and→ke,false_and→kj
open ByteArray renaming empty→kI
open Int renaming tmod_nonneg→mt
open List renaming replicate→aI,getElem?_eq_getElem→kJ,mem_of_getElem?→kK,getElem_mem→kN,range→kQ,not_mem_nil→kS,drop_eq_getElem_cons→kT,take_succ_eq_append_getElem→kY,mem_cons→kZ,drop_of_length_le→kf,length_map→kh,take_length→km,length_take→lC,mem_of_mem_take→lF,range_succ→lR,mem_cons_self→lT,drop_zero→lh,mem_cons_of_mem→ln,map_take→mG,take→mL,any_cons→mn,all_cons→mw
namespace Go.Proofs.YtpedcgdgjoblkaaGreatDoor
section
open Go Go.AM
theorem valid01(v:Vl):aK Tryz.prog 73 [aJ v] fun r=>r = .bool (aV v):=by
 unfold aV;by_cases h0:v.k=0
 ·by_cases hn:v.n=0
  ·rw[if_pos h0,decide_eq_true hn,ke];refine sPx Tryz.func73 rfl rfl ?_;simp -dsimp[Tryz.f73,aI,aJ,h0,hn]
  ·rw[if_pos h0,decide_eq_false hn,kj];refine sPx Tryz.func73 rfl rfl ?_;simp -dsimp[Tryz.f73,aI,aJ,h0,hn]
 ·rw[if_neg h0];by_cases h1:v.k=1
  ·rw[if_pos h1];refine sPx Tryz.func73 rfl rfl ?_;simp -dsimp[Tryz.f73,aI,aJ,h1]
  ·rw[if_neg h1];by_cases h2:v.k=2
   ·rw[if_pos h2];by_cases hn:v.n=0
    ·rw[decide_eq_true hn,ke];by_cases hz:v.s.size≤200
     ·rw[decide_eq_true hz];refine sPx Tryz.func73 rfl rfl ?_;simp -dsimp[Tryz.f73,aI,aJ,h2,hn,show(v.s.size:Int)≤200 by omega]
     ·rw[decide_eq_false hz];refine sPx Tryz.func73 rfl rfl ?_;simp -dsimp[Tryz.f73,aI,aJ,h2,hn,show ¬(v.s.size:Int)≤200 by omega]
    ·rw[decide_eq_false hn,kj];refine sPx Tryz.func73 rfl rfl ?_;simp -dsimp[Tryz.f73,aI,aJ,h2,hn]
   ·rw[if_neg h2];by_cases h3:v.k=3
    ·rw[decide_eq_true h3,ke];by_cases hn:1≤v.n
     ·rw[decide_eq_true hn,ke];refine sPx Tryz.func73 rfl rfl ?_;simp -dsimp[Tryz.f73,aI,aJ,h3,hn]
     ·rw[decide_eq_false hn,kj];refine sPx Tryz.func73 rfl rfl ?_;simp -dsimp[Tryz.f73,aI,aJ,h3,hn]
    ·rw[decide_eq_false h3,kj];refine sPx Tryz.func73 rfl rfl ?_;simp -dsimp[Tryz.f73,aI,aJ,h0,h1,h2,h3]
theorem co(v:Vl):aK Tryz.prog 114 [aJ v] fun r=>r = .bool (aV v):=by
 unfold aV;by_cases h0:v.k=0
 ·by_cases hn:v.n=0
  ·rw[if_pos h0,decide_eq_true hn,ke];refine sPx Tryz.func114 rfl rfl ?_;simp -dsimp[Tryz.f114,aI,aJ,h0,hn]
  ·rw[if_pos h0,decide_eq_false hn,kj];refine sPx Tryz.func114 rfl rfl ?_;simp -dsimp[Tryz.f114,aI,aJ,h0,hn]
 ·rw[if_neg h0];by_cases h1:v.k=1
  ·rw[if_pos h1];refine sPx Tryz.func114 rfl rfl ?_;simp -dsimp[Tryz.f114,aI,aJ,h1]
  ·rw[if_neg h1];by_cases h2:v.k=2
   ·rw[if_pos h2];by_cases hn:v.n=0
    ·rw[decide_eq_true hn,ke];by_cases hz:v.s.size≤200
     ·rw[decide_eq_true hz];refine sPx Tryz.func114 rfl rfl ?_;simp -dsimp[Tryz.f114,aI,aJ,h2,hn,show(v.s.size:Int)≤200 by omega]
     ·rw[decide_eq_false hz];refine sPx Tryz.func114 rfl rfl ?_;simp -dsimp[Tryz.f114,aI,aJ,h2,hn,show ¬(v.s.size:Int)≤200 by omega]
    ·rw[decide_eq_false hn,kj];refine sPx Tryz.func114 rfl rfl ?_;simp -dsimp[Tryz.f114,aI,aJ,h2,hn]
   ·rw[if_neg h2];by_cases h3:v.k=3
    ·rw[decide_eq_true h3,ke];by_cases hn:1≤v.n
     ·rw[decide_eq_true hn,ke];refine sPx Tryz.func114 rfl rfl ?_;simp -dsimp[Tryz.f114,aI,aJ,h3,hn]
     ·rw[decide_eq_false hn,kj];refine sPx Tryz.func114 rfl rfl ?_;simp -dsimp[Tryz.f114,aI,aJ,h3,hn]
    ·rw[decide_eq_false h3,kj];refine sPx Tryz.func114 rfl rfl ?_;simp -dsimp[Tryz.f114,aI,aJ,h0,h1,h2,h3]
theorem any_drop(p:Vl→Bool)(vs:List Vl)(i:Nat)(h:i<vs.length):(vs.drop i).all p=(p vs[i]&&(vs.drop (i+1)).all p):=by rw[kT h];rfl
theorem valids01(vs:List Vl)(f:Bool)(hl:vs.length≤1000000):aK Tryz.prog 70 [LV f vs] fun r=>r = .bool (vs.all aV):=by
 obtain⟨E,hE⟩:∃E,E=vs.all aV:=⟨_,rfl⟩;rw[←hE];refine sPx Tryz.func70 rfl rfl ?_;simp -dsimp[Tryz.f70,aI,LV];refine aO (W_loopM 16 0xfffc (by simp[mB]<;>rfl) (σ:=Nat) (fun i=>(vs.drop i).all aV=E) (fun i=>vs.length-i) (fun i=>[(3,.int .i64 i)]) (fun _=>[]) 0 (by rw[lh,hE]) (by simp) rfl (by simp) ?_);rintro i hx N Q hN hQ;by_cases hb:i<vs.length
 ·rw[any_drop _ _ _ hb]at hx;have hc:=valid01 vs[i];cases h1:aV vs[i]
  ·rw[h1]at hc;rw[h1,kj]at hx;refine wx ?_;simp -dsimp[hb];refine cPx (hc) (by simp) ?_;simp -dsimp[];refine hQ _ _ _ ?_;simp -dsimp[];simpa using hx
  ·rw[h1]at hc;rw[h1,ke]at hx;refine wx ?_;simp -dsimp[hb];refine cPx (hc) (by simp) ?_;simp -dsimp[aX i (by omega)];refine hN (i+1) _ _ hx (by omega) (by simp) ⟨[],rfl⟩ (by simp) (by simp)
 ·rw[kf (by omega)]at hx;refine wx ?_;simp -dsimp[hb];refine hQ _ _ _ ?_;simp -dsimp[];simpa using hx
def ixV(p:Vl→Bool)(vs:List Vl)(i:Nat):Int:=if h:i<vs.length then(if p vs[i] then(i:Int) else ixV p vs (i+1)) else -1
termination_by vs.length-i
theorem ixV_any(p:Vl→Bool)(vs:List Vl)(i:Nat):decide (0≤ixV p vs i)=(vs.drop i).any p:=by
 fun_induction ixV p vs i with
 | case1 i h h0=>rw[kT h,mn,h0];simp
 | case2 i h h0 ih=>rw[kT h,mn,ih];simp[h0]
 | case3 i h=>rw[kf (by omega)];rfl
theorem idxFuncV(H:List B)(fv:V)(p:Vl→Bool)(vs:List Vl)(g:Bool)(hes:vs.length≤1000000)(hH:∀bl∈H,rbB H.length bl)(hfv:rb H.length fv)
  (hp:∀m∈vs,aM Tryz.prog fv [aJ m] H fun r H'=>r = .bool (p m)∧H'=H):aT Tryz.prog 174 [LV g vs,fv] H fun r H'=>r = .int .i64 (ixV p vs 0)∧H'=H:=by
 refine aG tok Tryz.func174 rfl rfl ?_;refine wx ?_;simp -dsimp[Tryz.f174,aI,LV];refine aO (W_loopM 19 0x7ff30 (by simp[mB]<;>rfl) (σ:=Nat) (fun i=>ixV p vs i=ixV p vs 0) (fun i=>vs.length-i) (fun i=>[(8,.int .i64 i)]) (fun _=>H) 0 rfl (by simp) rfl (by simp) ?_);intro i hx N Q hN hQ;by_cases hb:i<vs.length
 ·rw[ixV,dif_pos hb]at hx;have hc:=hp vs[i] (kN hb);cases hq:p vs[i]
  ·rw[hq]at hc hx;refine wx ?_;simp -dsimp[hb];refine hc.mono ?_;rintro r H' ⟨rfl,rfl⟩;simp -dsimp[aX i (by omega)];refine hN (i+1) _ _ (by simpa using hx) (by omega) (by simp) ⟨[],by simp⟩ (by simp;exact hfv) hH
  ·rw[hq]at hc hx;refine wx ?_;simp -dsimp[hb];refine hc.mono ?_;rintro r H' ⟨rfl,rfl⟩;simp -dsimp[];refine hQ _ _ _ ?_;simp -dsimp[];simpa using hx
 ·rw[ixV,dif_neg hb]at hx;refine wx ?_;simp -dsimp[hb];refine hQ _ _ _ ?_;simp -dsimp[];simpa using hx
theorem contFuncV(H:List B)(fv:V)(p:Vl→Bool)(vs:List Vl)(g:Bool)(hes:vs.length≤1000000)(hH:∀bl∈H,rbB H.length bl)(hfv:rb H.length fv)
  (hp:∀m∈vs,aM Tryz.prog fv [aJ m] H fun r H'=>r = .bool (p m)∧H'=H):aT Tryz.prog 122 [LV g vs,fv] H fun r H'=>r = .bool (vs.any p)∧H'=H:=by
 have h0:=ixV_any p vs 0;rw[lh]at h0;have hc:=idxFuncV H fv p vs g hes hH hfv hp;refine aG tok Tryz.func122 rfl rfl ?_;refine wx ?_;simp -dsimp[Tryz.f122,aI];refine aM.mono (K:=fun r H'=>r = .int .i64 (ixV p vs 0)∧H'=H) hc ?_;rintro r H' ⟨rfl,rfl⟩;simp -dsimp[];rw[←h0]
theorem notValid(v:Vl):aK Tryz.prog 123 [aJ v] fun r=>r = .bool (!aV v):=by
 have hc:=co v;simp only[aJ]at hc;refine sPx Tryz.func123 rfl rfl ?_;simp -dsimp[Tryz.f123,aI,aJ];refine cPx (hc) (by simp) ?_;simp -dsimp[]
theorem validVals(vs:List Vl)(f:Bool)(hl:vs.length≤1000000):aK Tryz.prog 86 [LV f vs] fun r=>r = .bool (vs.all aV):=by
 have hc:=contFuncV [] (.fn 123 []) (fun v=>!aV v) vs f hl (by simp) (by simp) (fun m _=>aP (notValid m) (by simp))
 have he:vs.all aV = !vs.any fun v=>!aV v:=by
  induction vs with
  | nil=>rfl
  | cons v vs ih=>simp only[mw,mn,Bool.not_or,Bool.not_not];rw[ih (by simp at hl;omega) (contFuncV [] (.fn 123 []) (fun v=>!aV v) vs f (by simp at hl;omega) (by simp) (by simp) (fun m _=>aP (notValid m) (by simp)))]
 rw[he];refine sPx Tryz.func86 rfl rfl ?_;simp -dsimp[Tryz.f86,aI];refine aM.mono (K:=fun r H'=>r = .bool (vs.any fun v=>!aV v)∧H'=[]) hc ?_;rintro r H' ⟨rfl,rfl⟩;simp -dsimp[]
structure Rw where
 id:Int
 vals:List Vl
structure Tb where
 name:ByteArray
 attrs:List ByteArray
 rows:List Rw
def aC(r:Rw):V:=.agg [.int .i64 r.id,LV false r.vals]
def LR(g:Bool)(rs:List Rw):V:=.lst 2 g (rs.map aC)
def aD(f g:Bool)(t:Tb):V:=.agg [.str t.name,LS f t.attrs,LR g t.rows]
@[simp] theorem encRw_pure (r:Rw):AM.Pure (aC r):=by simp[aC]
@[simp] theorem LR_pure (g:Bool) (rs:List Rw):AM.Pure (LR g rs):=by simp[LR]
@[simp] theorem encTb_pure (f g:Bool) (t:Tb):AM.Pure (aD f g t):=by simp[aD]
@[simp] theorem encRw_oneV (r:Rw):dA (aC r)=true:=rfl
def bV(n:Nat):Int→List Rw→Int
 | _,[]=>0
 | last,r::rs=>if r.id≤last then 1 else if r.vals.length≠n then 6 else if r.vals.all aV then bV n r.id rs else 1
def aH(t:Tb):Int:=if bI t.name then(if 16<t.attrs.length∨1000<t.rows.length then 3 else if ct t.attrs then bV t.attrs.length 0 t.rows else 1) else 1
structure TbOk (t:Tb):Prop where
 name:t.name.size≤maxLen
 attrs:t.attrs.length≤1000000
 rows:t.rows.length≤1000000
 strs:∀s∈t.attrs,s.size≤maxLen
theorem ib(t:Tb)(f g:Bool)(h:TbOk t):aK Tryz.prog 69 [aD f g t] fun r=>r = .int .i64 (aH t):=by
 obtain⟨hn,ha,hr,hs⟩:=h;have hc1:=jU t.name hn;cases h1:bI t.name
 ·rw[h1]at hc1;rw[show aH t=1 by simp[aH,h1]];refine sPx Tryz.func69 rfl rfl ?_;simp -dsimp[Tryz.f69,aI,aD,LR,LS];refine cPx (hc1) (by simp) ?_;simp -dsimp[]
 ·rw[h1]at hc1;by_cases h2:16<t.attrs.length
  ·rw[show aH t=3 by simp[aH,h1,h2]];refine sPx Tryz.func69 rfl rfl ?_;simp -dsimp[Tryz.f69,aI,aD,LR,LS];refine cPx (hc1) (by simp) ?_;simp -dsimp[show(16:Int)<t.attrs.length by omega]
  ·by_cases h3:1000<t.rows.length
   ·rw[show aH t=3 by simp[aH,h1,h3]];refine sPx Tryz.func69 rfl rfl ?_;simp -dsimp[Tryz.f69,aI,aD,LR,LS];refine cPx (hc1) (by simp) ?_;simp -dsimp[show ¬(16:Int)<t.attrs.length by omega,show(1000:Int)<t.rows.length by omega]
   ·have hc2:=names03 t.attrs f ha hs;simp only[LS]at hc2;cases h4:ct t.attrs
    ·rw[h4]at hc2;rw[show aH t=1 by simp[aH,h1,h2,h3,h4]];refine sPx Tryz.func69 rfl rfl ?_;simp -dsimp[Tryz.f69,aI,aD,LR,LS];refine cPx (hc1) (by simp) ?_;simp -dsimp[show ¬(16:Int)<t.attrs.length by omega,show ¬(1000:Int)<t.rows.length by omega];refine cPx (hc2) (by simp) ?_;simp -dsimp[]
    ·rw[h4]at hc2
     have hE:bV t.attrs.length 0 t.rows=aH t:=by simp[aH,h1,h2,h3,h4]
     obtain⟨E,hEe⟩:∃E,E=aH t:=⟨_,rfl⟩;rw[←hEe]at hE ⊢;refine sPx Tryz.func69 rfl rfl ?_;simp -dsimp[Tryz.f69,aI,aD,LR,LS];refine cPx (hc1) (by simp) ?_;simp -dsimp[show ¬(16:Int)<t.attrs.length by omega,show ¬(1000:Int)<t.rows.length by omega];refine cPx (hc2) (by simp) ?_;simp -dsimp[];refine aO (W_loopM 53 0x1fffffff00003c (by simp[mB]<;>rfl) (σ:=Nat×Int) (fun p=>p.1≤t.rows.length∧bV t.attrs.length p.2 (t.rows.drop p.1)=E) (fun p=>t.rows.length-p.1) (fun p=>[(4,.int .i64 p.1),(3,.int .i64 p.2)]) (fun _=>[B.cells [.str t.name,LS f t.attrs,LR g t.rows]]) (0,0) ⟨by simp,hE⟩ (by simp) (by simp[LS,LR]) (by simp) ?_);rintro⟨i,last⟩ ⟨hi,hx⟩ N Q hN hQ;simp only at hi hx hN;by_cases hb:i<t.rows.length
     ·rw[kT hb]at hx;simp only[bV]at hx;by_cases h5:t.rows[i].id≤last
      ·rw[if_pos h5]at hx;refine wx ?_;simp -dsimp[hb,LS,LR,aC,h5,LV];refine hQ _ _ _ ?_;simp -dsimp[];exact hx
      ·rw[if_neg h5]at hx;by_cases h6:t.rows[i].vals.length=t.attrs.length
       ·rw[if_neg (fun h=>h h6)]at hx;have hc3:=valids01 t.rows[i].vals false (by omega);cases h7:t.rows[i].vals.all aV
        ·rw[h7]at hc3 hx;refine wx ?_;simp -dsimp[hb,LS,LR,aC,h5,LV,h6];simp only[LV]at hc3;refine cPx (hc3) (by simp) ?_;simp -dsimp[];refine hQ _ _ _ ?_;simp -dsimp[];simpa using hx
        ·rw[h7,if_pos rfl]at hx;rw[h7]at hc3;refine wx ?_;simp -dsimp[hb,LS,LR,aC,h5,LV,h6];simp only[LV]at hc3;refine cPx (hc3) (by simp) ?_;simp -dsimp[aX i (by omega)];refine hN (i+1,t.rows[i].id) _ _ ⟨by simp;omega,hx⟩ (by omega) ?_ ⟨[B.cells [.int .i64 t.rows[i].id,LV false t.rows[i].vals]],?_⟩ ?_ ?_<;>simp[or_imp,forall_and,L1,cW,LS,LR,LV]
       ·rw[if_pos h6]at hx;refine wx ?_;simp -dsimp[hb,LS,LR,aC,h5,LV,show ¬(t.rows[i].vals.length:Int)=t.attrs.length by omega];refine hQ _ _ _ ?_;simp -dsimp[];exact hx
     ·rw[kf (by omega)]at hx;refine wx ?_;simp -dsimp[hb,LS,LR];refine hQ _ _ _ ?_;simp -dsimp[];exact hx
theorem cI(t:Tb)(f g:Bool)(h:TbOk t):aK Tryz.prog 43 [aD f g t] fun r=>r = .int .i64 (aH t):=by
 obtain⟨hn,ha,hr,hs⟩:=h;have hc1:=jc t.name hn;cases h1:bI t.name
 ·rw[h1]at hc1;rw[show aH t=1 by simp[aH,h1]];refine sPx Tryz.func43 rfl rfl ?_;simp -dsimp[Tryz.f43,aI,aD,LR,LS];refine cPx (hc1) (by simp) ?_;simp -dsimp[]
 ·rw[h1]at hc1;by_cases h2:16<t.attrs.length
  ·rw[show aH t=3 by simp[aH,h1,h2]];refine sPx Tryz.func43 rfl rfl ?_;simp -dsimp[Tryz.f43,aI,aD,LR,LS];refine cPx (hc1) (by simp) ?_;simp -dsimp[show(16:Int)<t.attrs.length by omega]
  ·by_cases h3:1000<t.rows.length
   ·rw[show aH t=3 by simp[aH,h1,h3]];refine sPx Tryz.func43 rfl rfl ?_;simp -dsimp[Tryz.f43,aI,aD,LR,LS];refine cPx (hc1) (by simp) ?_;simp -dsimp[show ¬(16:Int)<t.attrs.length by omega,show(1000:Int)<t.rows.length by omega]
   ·have hE:(if ct t.attrs then bV t.attrs.length 0 t.rows else 1)=aH t:=by simp[aH,h1,h2,h3]
    obtain⟨E,hEe⟩:∃E,E=aH t:=⟨_,rfl⟩;rw[←hEe]at hE ⊢;refine sPx Tryz.func43 rfl rfl ?_;simp -dsimp[Tryz.f43,aI,aD,LR,LS];refine cPx (hc1) (by simp) ?_;simp -dsimp[show ¬(16:Int)<t.attrs.length by omega,show ¬(1000:Int)<t.rows.length by omega];refine aO (W_loopM 42 0x3fffe00001c (by simp[mB]<;>rfl) (σ:=Nat) (fun i=>i≤t.attrs.length∧(kQ i).all (nmAt t.attrs)=true) (fun i=>t.attrs.length-i) (fun i=>[(25,.int .i64 i)]) (fun _=>[B.cells [.str t.name,LS f t.attrs,LR g t.rows]]) 0 ⟨by omega,rfl⟩ (by simp) (by simp[LS,LR]) (by simp) ?_);rintro i ⟨hi,hall⟩ N Q hN hQ;by_cases hb:i<t.attrs.length
    ·have hsi:sAt t.attrs i=t.attrs[i]:=by simp[sAt,hb]
     have hok:nmAt t.attrs i=(bI t.attrs[i]&&!memS (t.attrs.take i) t.attrs[i]):=by unfold nmAt;rw[hsi]
     have hd1:=jc t.attrs[i] (hs _ (kN hb));have hd2:=containsS (t.attrs.take i) t.attrs[i] (f&&i == t.attrs.length) (by simp;omega);simp only[LS,mG]at hd2;cases h5:bI t.attrs[i]
     ·rw[h5,kj]at hok;rw[h5]at hd1;rw[show ct t.attrs=false from allno hb hok]at hE;refine wx ?_;simp -dsimp[hb,LS,LR];refine cPx (hd1) (by simp) ?_;simp -dsimp[];refine hQ _ _ _ ?_;simp -dsimp[];simpa using hE
     ·rw[h5,ke]at hok;rw[h5]at hd1;cases h6:memS (t.attrs.take i) t.attrs[i]
      ·rw[h6]at hd2 hok;refine wx ?_;simp -dsimp[hb,LS,LR];refine cPx (hd1) (by simp) ?_;simp -dsimp[show i≤t.attrs.length by omega];refine cPx (hd2) (by simp) ?_;simp -dsimp[aX i (by omega)];refine hN (i+1) _ _ ⟨by omega,br hall (by rw[hok];rfl)⟩ (by omega) ?_ ⟨[],?_⟩ ?_ ?_<;>simp[or_imp,forall_and,L1,cW,LS,LR]
      ·rw[h6]at hd2 hok;rw[show ct t.attrs=false from allno hb hok]at hE;refine wx ?_;simp -dsimp[hb,LS,LR];refine cPx (hd1) (by simp) ?_;simp -dsimp[show i≤t.attrs.length by omega];refine cPx (hd2) (by simp) ?_;simp -dsimp[];refine hQ _ _ _ ?_;simp -dsimp[];simpa using hE
    ·obtain rfl:i=t.attrs.length:=by omega
     rw[show ct t.attrs=true from hall,if_pos rfl]at hE;refine wx ?_;simp -dsimp[hb,LS,LR];refine hQ _ _ _ ?_;simp -dsimp[LS,LR];refine aO (W_loopM 70 0x3fffffe000000000a4 (by simp[mB]<;>rfl) (σ:=Nat×Int) (fun p=>p.1≤t.rows.length∧bV t.attrs.length p.2 (t.rows.drop p.1)=E) (fun p=>t.rows.length-p.1) (fun p=>[(45,.int .i64 p.1),(5,.int .i64 p.2)]) (fun _=>[B.cells [.str t.name,LS f t.attrs,LR g t.rows]]) (0,0) ⟨by simp,hE⟩ (by simp) (by simp[LS,LR]) (by simp) ?_);rintro⟨j,last⟩ ⟨hj,hx⟩ N2 Q2 hN2 hQ2;simp only at hj hx hN2;by_cases hjb:j<t.rows.length
     ·rw[kT hjb]at hx;simp only[bV]at hx;by_cases h5:t.rows[j].id≤last
      ·rw[if_pos h5]at hx;refine wx ?_;simp -dsimp[hjb,LS,LR,aC,h5,LV];refine hQ2 _ _ _ ?_;simp -dsimp[];exact hx
      ·rw[if_neg h5]at hx;by_cases h6:t.rows[j].vals.length=t.attrs.length
       ·rw[if_neg (fun h=>h h6)]at hx;have hc3:=validVals t.rows[j].vals false (by omega);simp only[LV]at hc3;cases h7:t.rows[j].vals.all aV
        ·rw[h7]at hc3 hx;refine wx ?_;simp -dsimp[hjb,LS,LR,aC,h5,LV,h6];refine cPx (hc3) (by simp) ?_;simp -dsimp[];refine hQ2 _ _ _ ?_;simp -dsimp[];simpa using hx
        ·rw[h7,if_pos rfl]at hx;rw[h7]at hc3;refine wx ?_;simp -dsimp[hjb,LS,LR,aC,h5,LV,h6];refine cPx (hc3) (by simp) ?_;simp -dsimp[aX j (by omega)];refine hN2 (j+1,t.rows[j].id) _ _ ⟨by simp;omega,hx⟩ (by omega) ?_ ⟨[B.cells [.int .i64 t.rows[j].id,LV false t.rows[j].vals]],?_⟩ ?_ ?_<;>simp[or_imp,forall_and,L1,cW,LS,LR,LV]
       ·rw[if_pos h6]at hx;refine wx ?_;simp -dsimp[hjb,LS,LR,aC,h5,LV,show ¬(t.rows[j].vals.length:Int)=t.attrs.length by omega];refine hQ2 _ _ _ ?_;simp -dsimp[];exact hx
     ·rw[kf (by omega)]at hx;refine wx ?_;simp -dsimp[hjb,LS,LR];refine hQ2 _ _ _ ?_;simp -dsimp[];exact hx
structure TbC (t:Tb):Prop where
 ids:t.rows.Pairwise fun r s=>r.id<s.id
 pos:∀r∈t.rows,0<r.id
 len:∀r∈t.rows,r.vals.length=t.attrs.length
 val:∀r∈t.rows,r.vals.all aV=true
 wide:t.attrs.length≤16
theorem jL{n:Nat} : ∀{rs:List Rw} {last:Int},bV n last rs=0→(∀r∈rs,last<r.id)∧(rs.Pairwise fun r s=>r.id<s.id)∧(∀r∈rs,r.vals.length=n)∧∀r∈rs,r.vals.all aV=true
 | [],_,_=>by simp
 | r::rs,last,h=>by
  rw[bV]at h;split at h
  ·cases h
  ·rename_i h1;split at h
   ·cases h
   ·rename_i h2;split at h
    ·rename_i h3;obtain⟨a,b,c,d⟩:=jL h;refine⟨fun x hx=>?_,List.pairwise_cons.2 ⟨a,b⟩,fun x hx=>?_,fun x hx=>?_⟩
     ·rcases List.mem_cons.1 hx with rfl | hx
      ·omega
      ·have:=a x hx;omega
     ·rcases List.mem_cons.1 hx with rfl | hx
      ·simpa using h2
      ·exact c x hx
     ·rcases List.mem_cons.1 hx with rfl | hx
      ·exact h3
      ·exact d x hx
    ·cases h
theorem tbC{t:Tb}(h:aH t=0):TbC t:=by
 unfold aH at h;split at h
 ·split at h
  ·cases h
  ·rename_i h2;split at h
   ·obtain⟨a,b,c,d⟩:=jL h;exact⟨b,fun r hr=>a r hr,c,d,by omega⟩
   ·cases h
 ·cases h
def ofV(m:Int):Vl :=
 if m=0 then⟨1,0,kI⟩ else
 if m=1 then⟨1,1,kI⟩ else
 if m=2 then⟨1,2,kI⟩ else
 if m=3 then⟨0,0,kI⟩ else
 if m=4 then⟨2,0,⟨#[97]⟩⟩ else
 if m=5 then⟨2,0,⟨#[98]⟩⟩ else
 if m=6 then⟨2,0,kI⟩ else
 if m=7 then⟨3,1,kI⟩ else
 if m=8 then⟨1,-1,kI⟩ else
 if m=9 then⟨2,0,⟨#[97,98]⟩⟩ else
 if m=10 then⟨3,2,kI⟩ else
 ⟨1,7,kI⟩
def ofC(c:Int):Vl:=ofV (c.tmod 12)
theorem of01(c:Int):aK Tryz.prog 58 [.int .u8 c] fun r=>r=aJ (ofC c):=by
 unfold ofC;obtain⟨m,hm⟩:∃m,m=c.tmod 12:=⟨_,rfl⟩;rw[←hm];have hm:=hm.symm;by_cases h0:m=0
 ·have e:ofV m=ofV 0:=by rw[h0]
  rw[e];refine sPx Tryz.func58 rfl rfl ?_;simp -dsimp[Tryz.f58,aI,hm,h0];rfl
 by_cases h1:m=1
 ·have e:ofV m=ofV 1:=by rw[h1]
  rw[e];refine sPx Tryz.func58 rfl rfl ?_;simp -dsimp[Tryz.f58,aI,hm,h1];rfl
 by_cases h2:m=2
 ·have e:ofV m=ofV 2:=by rw[h2]
  rw[e];refine sPx Tryz.func58 rfl rfl ?_;simp -dsimp[Tryz.f58,aI,hm,h2];rfl
 by_cases h3:m=3
 ·have e:ofV m=ofV 3:=by rw[h3]
  rw[e];refine sPx Tryz.func58 rfl rfl ?_;simp -dsimp[Tryz.f58,aI,hm,h3];rfl
 by_cases h4:m=4
 ·have e:ofV m=ofV 4:=by rw[h4]
  rw[e];refine sPx Tryz.func58 rfl rfl ?_;simp -dsimp[Tryz.f58,aI,hm,h4];rfl
 by_cases h5:m=5
 ·have e:ofV m=ofV 5:=by rw[h5]
  rw[e];refine sPx Tryz.func58 rfl rfl ?_;simp -dsimp[Tryz.f58,aI,hm,h5];rfl
 by_cases h6:m=6
 ·have e:ofV m=ofV 6:=by rw[h6]
  rw[e];refine sPx Tryz.func58 rfl rfl ?_;simp -dsimp[Tryz.f58,aI,hm,h6];rfl
 by_cases h7:m=7
 ·have e:ofV m=ofV 7:=by rw[h7]
  rw[e];refine sPx Tryz.func58 rfl rfl ?_;simp -dsimp[Tryz.f58,aI,hm,h7];rfl
 by_cases h8:m=8
 ·have e:ofV m=ofV 8:=by rw[h8]
  rw[e];refine sPx Tryz.func58 rfl rfl ?_;simp -dsimp[Tryz.f58,aI,hm,h8];rfl
 by_cases h9:m=9
 ·have e:ofV m=ofV 9:=by rw[h9]
  rw[e];refine sPx Tryz.func58 rfl rfl ?_;simp -dsimp[Tryz.f58,aI,hm,h9];rfl
 by_cases h10:m=10
 ·have e:ofV m=ofV 10:=by rw[h10]
  rw[e];refine sPx Tryz.func58 rfl rfl ?_;simp -dsimp[Tryz.f58,aI,hm,h10];rfl
 have e:ofV m=⟨1,7,kI⟩:=by unfold ofV;simp[h0,h1,h2,h3,h4,h5,h6,h7,h8,h9,h10]
 rw[e];refine sPx Tryz.func58 rfl rfl ?_;simp -dsimp[Tryz.f58,aI,hm,h0,h1,h2,h3,h4,h5,h6,h7,h8,h9,h10];rfl
structure Rcp where
 a:Int
 gap:Int
 rows:List (List Int)
def LU(xs:List Int):V:=.lst 1 false (xs.map encU)
def au(f:Bool)(x:Rcp):V:=.agg [.int .u8 x.a,.int .u8 x.gap,.lst 1 f (x.rows.map LU)]
@[simp] theorem LU_pure (xs:List Int):AM.Pure (LU xs):=by simp[LU]
@[simp] theorem encRcp_pure (f:Bool) (x:Rcp):AM.Pure (au f x):=by simp[au]
def L8:List ByteArray:=[⟨#[97]⟩,⟨#[98]⟩,⟨#[99]⟩,⟨#[100]⟩,⟨#[101]⟩,⟨#[102]⟩,⟨#[103]⟩,⟨#[104]⟩]
def eN(cs:List Int)(k:Nat):List Vl:=(kQ k).map fun j=>ofC (cs.getD j 0)
def wRow(gap:Int)(cs:List Int)(n i:Nat):Rw:=⟨1+(i:Int)*(1+gap.tmod 3),eN cs n⟩
def ft(x:Rcp)(n i:Nat):List Rw:=(kQ i).map fun j=>wRow x.gap (x.rows.getD j []) n j
def wideT(x:Rcp)(n:Nat):Tb:=⟨⟨#[114]⟩,L8.take n,ft x n x.rows.length⟩
theorem wVals_succ(cs:List Int)(k:Nat):eN cs (k+1)=eN cs k++[ofC (cs.getD k 0)]:=by simp[eN,lR]
theorem wVals_len(cs:List Int)(k:Nat):(eN cs k).length=k:=by simp[eN]
theorem wRows_succ(x:Rcp)(n i:Nat):ft x n (i+1)=ft x n i++[wRow x.gap (x.rows.getD i []) n i]:=by simp[ft,lR]
theorem wRows_len(x:Rcp)(n i:Nat):(ft x n i).length=i:=by simp[ft]
theorem ew(n:Nat)(h:n≤1000000000):n≤9223372036854775806∧(n+1)*32≤140737488355328:=by omega
theorem L8_take(n:Nat):mL n [V.str ⟨#[97]⟩,V.str ⟨#[98]⟩,V.str ⟨#[99]⟩,V.str ⟨#[100]⟩,V.str ⟨#[101]⟩,V.str ⟨#[102]⟩,V.str ⟨#[103]⟩,V.str ⟨#[104]⟩]=(L8.take n).map V.str:=by rw[mG];rfl
theorem ownF_refl(k:Nat):∀xs:List V,kH k xs xs
 | []=>trivial
 | x::xs=>⟨.inl rfl,ownF_refl k xs⟩
theorem ownAt_nil(k:Nat):∀(i:Nat) (xs:List V),cR k [] i xs=xs
 | _,[]=>rfl
 | i,x::xs=>by simp only[cR,List.contains_nil,kU,if_false,ownAt_nil k (i+1) xs]
theorem bu(k:Nat)(xs:List V):kH k xs (cR k [] 0 xs):=by rw[ownAt_nil];exact ownF_refl k xs
theorem wide03(x:Rcp)(n:Nat)(f:Bool)(hn:n≤8)(hr:x.rows.length≤1000000)(hc:∀r∈x.rows,r.length≤9223372036854775807)(h0:0≤x.gap):
  aK Tryz.prog 23 [au f x,.int .i64 n] fun r=>r=aD false false (wideT x n):=by
 have hg:=mt 3 h0;have hg2:=Int.tmod_lt_of_pos x.gap (show(0:Int)<3 by omega);obtain⟨g,hge⟩:∃g,g=x.gap.tmod 3:=⟨_,rfl⟩;rw[←hge]at hg hg2;have hgs:=hge.symm;have hw1:IntKind.i64.wrap g=g:=wrap64 (by omega) (by omega);have hw2:IntKind.i64.wrap (1+g)=1+g:=wrap64 (by omega) (by omega)
 have hl8:(L8.take n).length=n:=by simp[L8];omega
 have hne:(n=0∧mL n (L8.map V.str)=[])∨(¬n=0∧¬mL n (L8.map V.str)=[]):=by
  by_cases hz:n=0
  ·exact .inl ⟨hz,by rw[hz];rfl⟩
  ·refine .inr ⟨hz,fun h=>?_⟩;have:=congrArg List.length h;rw[←mG,kh,hl8]at this;exact hz this
 have hlt:(mL n (L8.map V.str)).length=n:=by rw[←mG,kh,hl8]
 have hcp:n≤9223372036854775807∧n*16≤140737488355328:=by omega
 rcases hne with⟨hz,hne⟩ | ⟨hz,hne⟩
 case' inl =>
  refine bF (aG (tkf 26) Tryz.func23 rfl rfl ?_);refine W_x (tkf 26) mixed ?_;simp -dsimp[Tryz.f23,aI,au,L8_take,hn,hne,aZ]
 case' inr =>
  refine bF (aG (tkf 26) Tryz.func23 rfl rfl ?_);refine W_x (tkf 26) mixed ?_;simp -dsimp[Tryz.f23,aI,au,L8_take,hn,hz,hne,hlt,hcp,aZ]
 all_goals
  refine aO (W_lf 2 _ [.str ⟨#[114]⟩,.lst 1 false (mL n (L8.map V.str)),.nilS] rfl (ed _) (by simp[LfL,lfB,hne]) (cO 41 2 [] 2 [2] rfl (bu _ _) (by simp) (W_loopM 66 0x3ffffffffffffefc0 (by simp[mB]<;>rfl) (σ:=Nat) (fun i=>i≤x.rows.length) (fun i=>x.rows.length-i) (fun i=>[(6,.int .i64 i)]) (fun i=>[B.cells [.int .u8 x.a,.int .u8 x.gap,.lst 1 f (x.rows.map LU)],B.cells [.str kI,.nilS,.nilS],B.cells [.str ⟨#[114]⟩,.lst 1 false (mL n (L8.map V.str)),.buf 3 0 i i],B.buf 41 2 ((ft x n i).map aC) false]) 0 (by omega) (by simp) (by simp[ft]) (by simp) ?_)));intro i hi N Q hN hQ;have hwl:=wRows_len x n i;by_cases hb:i<x.rows.length
  ·have hg0:x.rows.getD i []=x.rows[i]:=by simp[hb]
   have hws:=wRows_succ x n i;rw[hg0]at hws;have hcl:=hc x.rows[i] (kN hb);obtain⟨cs,hcs⟩:∃cs,cs=x.rows[i]:=⟨_,rfl⟩;rw[←hcs]at hws hcl;have hcs':=hcs.symm;have hp0:0≤(i:Int)*(1+g):=Int.mul_nonneg (by omega) (by omega);have hp1:(i:Int)*(1+g)≤i*3:=Int.mul_le_mul_of_nonneg_left (by omega) (by omega);have hw3:IntKind.i64.wrap ((i:Int)*(1+g))=(i:Int)*(1+g):=wrap64 (by omega) (by omega);have hw4:IntKind.i64.wrap (1+(i:Int)*(1+g))=1+(i:Int)*(1+g):=wrap64 (by omega) (by omega)
   have hrow:wRow x.gap cs n i=⟨1+(i:Int)*(1+g),eN cs n⟩:=by rw[hge];rfl
   rw[hrow]at hws;obtain⟨id,hid⟩:∃id,id=1+(i:Int)*(1+g):=⟨_,rfl⟩;rw[←hid]at hws hw4
   have hw5:IntKind.i64.wrap (1+(i:Int)*(1+g))=id:=by rw[←hid];exact hw4
   refine W_x (tkf 26) mixed ?_;simp -dsimp[hb,hgs,hw1,hw2,hw3,hw5,aZ];refine aO (cO 43 3 [] 4 [1] rfl (bu _ _) (by simp) (W_loopM 60 0xfffffff00000300 (by simp[mB]<;>rfl) (σ:=Nat) (fun k=>k≤n) (fun k=>n-k) (fun k=>[(8,.int .i64 k)]) (fun k=>[B.cells [.int .u8 x.a,.int .u8 x.gap,.lst 1 f (x.rows.map LU)],B.cells [.str kI,.nilS,.nilS],B.cells [.str ⟨#[114]⟩,.lst 1 false (mL n (L8.map V.str)),.buf 3 0 i i],B.buf 41 2 ((ft x n i).map aC) false,B.cells [.int .i64 id,.buf 5 0 k k],B.buf 43 3 ((eN cs k).map aJ) false]) 0 (by omega) (by simp) (by simp[eN]) (by simp) ?_));intro k hk N2 Q2 hN2 hQ2;have hvl:=wVals_len cs k;have hvs:=wVals_succ cs k;by_cases hkb:k<n
   ·by_cases hkc:k<cs.length
    ·have hg1:cs.getD k 0=cs[k]:=by simp[hkc]
     rw[hg1]at hvs;have hco:=of01 cs[k];refine W_x (tkf 26) mixed ?_;simp -dsimp[hkb,hb,LU,hcs',hkc,encU,aZ];refine aO (aS (tkf 26) mixed [5,7] [] [(aJ (ofC cs[k]),[])] (by kernel_rfl) fun C K hC hK=>?_);simp -implicitDefEqProofs [ew k (by omega),hvl,aJ,aZ];refine⟨hC _ _ _ _ (aP hco (by simp)),hK _ _ ?_⟩;simp -dsimp[aX k (by omega),aZ];refine hN2 (k+1) _ _ (by omega) (by omega) ?_ ⟨[],?_⟩ ?_ ?_<;>simp[or_imp,forall_and,L1,cW,hvs,LS,aJ,aC,LV]
    ·have hg1:cs.getD k 0=0:=by simp[hkc]
     rw[hg1]at hvs;have hco:=of01 0;refine W_x (tkf 26) mixed ?_;simp -dsimp[hkb,hb,LU,hcs',hkc,encU,aZ];refine aO (aS (tkf 26) mixed [5,7] [] [(aJ (ofC 0),[])] (by kernel_rfl) fun C K hC hK=>?_);simp -implicitDefEqProofs [ew k (by omega),hvl,aJ,aZ];refine⟨hC _ _ _ _ (aP hco (by simp)),hK _ _ ?_⟩;simp -dsimp[aX k (by omega),aZ];refine hN2 (k+1) _ _ (by omega) (by omega) ?_ ⟨[],?_⟩ ?_ ?_<;>simp[or_imp,forall_and,L1,cW,hvs,LS,aJ,aC,LV]
   ·obtain rfl:k=n:=by omega
    refine fm 5 [] 4 [1] rfl rfl (by simp) (by simp[hvl]) ?_;refine W_x (tkf 26) mixed ?_;simp -dsimp[hkb,aZ];refine hQ2 _ _ _ ?_;simp -dsimp[hwl,ew i (by omega),aX i (by omega),aZ];refine hN (i+1) _ _ (by omega) (by omega) ?_ ⟨[B.cells [.int .i64 id,LV false (eN cs k)],B.buf 43 3 ((eN cs k).map aJ) true],?_⟩ ?_ ?_<;>simp[or_imp,forall_and,L1,cW,hws,aC,LV]
  ·obtain rfl:i=x.rows.length:=by omega
   refine fm 3 [] 2 [2] rfl rfl (by simp) (by simp[hwl]) ?_;refine W_x (tkf 26) mixed ?_;simp -dsimp[hb,aZ];refine hQ _ _ _ ?_;simp -dsimp[aZ];simp only[aD,wideT,LS,LR,mG]
theorem jI(x y:Int):aK Tryz.prog 78 [.int .i64 x,.int .i64 y] fun r=>r = .int .i64 (dZ x y):=by
 refine sPx Tryz.func78 rfl rfl ?_;simp -dsimp[Tryz.f78,aI];unfold dZ;split
 ·rfl
 ·split<;>rfl
theorem cmpS_drop(a b:ByteArray)(i:Nat)(ha:i<a.size)(hb:i<b.size):Lib.compareBytes (a.data.toList.drop i) (b.data.toList.drop i)=if a[i]<b[i] then -1 else if b[i]<a[i] then 1 else Lib.compareBytes (a.data.toList.drop (i+1)) (b.data.toList.drop (i+1)):=by
 have h1:i<a.data.toList.length:=by rw[ey];exact ha
 have h2:i<b.data.toList.length:=by rw[ey];exact hb
 rw[kT h1,kT h2,Lib.compareBytes];rfl
theorem cmpS_end(a b:ByteArray)(i:Nat)(hi:i≤a.size)(hj:i≤b.size)(h:¬(i<a.size∧i<b.size)):Lib.compareBytes (a.data.toList.drop i) (b.data.toList.drop i)=dZ a.size b.size:=by
 have l1:=ey a;have l2:=ey b;by_cases h1:i<a.size
 ·have h2:i=b.size:=by omega
  have h3:i<a.data.toList.length:=by omega
  rw[kT h3,kf (l:=b.data.toList) (by omega),Lib.compareBytes];unfold dZ;rw[if_neg (by omega),if_pos (by omega)]
 ·rw[kf (l:=a.data.toList) (by omega)];by_cases h2:i<b.size
  ·have h3:i<b.data.toList.length:=by omega
   rw[kT h3,Lib.compareBytes];unfold dZ;rw[if_pos (by omega)]
  ·rw[kf (l:=b.data.toList) (by omega),Lib.compareBytes];unfold dZ;rw[if_neg (by omega),if_neg (by omega)]
theorem strings01(a b:ByteArray)(ha:a.size≤maxLen):aK Tryz.prog 79 [.str a,.str b] fun r=>r = .int .i64 (cmpS a b):=by
 refine sPx Tryz.func79 rfl rfl ?_;simp -dsimp[Tryz.f79,aI];refine aO (W_loopM 34 0x3fffffff0 (by simp[mB]<;>rfl) (σ:=Nat) (fun i=>i≤a.size∧i≤b.size∧Lib.compareBytes (a.data.toList.drop i) (b.data.toList.drop i)=cmpS a b) (fun i=>a.size-i) (fun i=>[(5,.int .i64 i)]) (fun _=>[]) 0 ⟨by omega,by omega,rfl⟩ (by simp) rfl (by simp) ?_);rintro i ⟨hi,hj,hx⟩ N Q hN hQ;by_cases h:i<a.size∧i<b.size
 ·obtain⟨h1,h2⟩:=h;rw[cmpS_drop a b i h1 h2]at hx;obtain⟨x1,x2⟩:=da h1;obtain⟨y1,y2⟩:=da h2;by_cases hq:bC a i=bC b i
  ·have e1:¬a[i]<b[i]:=fun h=>by have:=UInt8.lt_iff_toNat_lt.1 h;omega
   have e2:¬b[i]<a[i]:=fun h=>by have:=UInt8.lt_iff_toNat_lt.1 h;omega
   rw[if_neg e1,if_neg e2]at hx;refine wx ?_;simp -dsimp[h1,h2,x1,y1,x2,y2,hq];refine .inr ⟨aR (by kernel_rfl),?_⟩;simp -dsimp[aX i (by unfold maxLen at ha;omega)];refine hN (i+1) _ _ ⟨by omega,by omega,hx⟩ (by omega) ?_ ⟨[],?_⟩ ?_ ?_<;>simp[or_imp,forall_and,L1,cW]
  ·have hs:dZ (bC a i) (bC b i)=cmpS a b:=by
    rw[←hx,←x2,←y2];unfold dZ;by_cases e1:a[i]<b[i]
    ·have e1':(a[i].toNat:Int)<b[i].toNat:=by have:=UInt8.lt_iff_toNat_lt.1 e1;omega
     rw[if_pos e1,if_pos e1']
    ·have e1':¬((a[i].toNat:Int)<b[i].toNat):=fun h=>e1 (UInt8.lt_iff_toNat_lt.2 (by omega))
     have e2:b[i]<a[i]:=UInt8.lt_iff_toNat_lt.2 (by omega)
     have e2':(b[i].toNat:Int)<a[i].toNat:=by have:=UInt8.lt_iff_toNat_lt.1 e2;omega
     rw[if_neg e1,if_neg e1',if_pos e2,if_pos e2']
   have hw1:IntKind.i64.wrap (bC a i)=bC a i:=by rw[←x2];exact wrap64 (by omega) (by have:=UInt8.toNat_lt a[i];omega)
   have hw2:IntKind.i64.wrap (bC b i)=bC b i:=by rw[←y2];exact wrap64 (by omega) (by have:=UInt8.toNat_lt b[i];omega)
   have hc:=jI (bC a i) (bC b i);refine wx ?_;simp -dsimp[h1,h2,x1,y1,x2,y2,hq];refine .inr ⟨aR (by kernel_rfl),?_⟩;simp -dsimp[h1,h2,x1,y1,x2,y2,hw1,hw2];refine .inr ⟨aR (by kernel_rfl),?_⟩;refine av _ (aP (hc) (by simp)) ?_;simp -dsimp[];refine hQ _ _ _ ?_;simp -dsimp[];exact hs
 ·rw[cmpS_end a b i hi hj h]at hx;have hc:=jI a.size b.size;by_cases h1:i<a.size
  ·have h2:¬i<b.size:=fun h2=>h ⟨h1,h2⟩
   refine wx ?_;simp -dsimp[h1,h2];refine hQ _ _ _ ?_;simp -dsimp[];refine cPx (hc) (by simp) ?_;simp -dsimp[];exact hx
  ·refine wx ?_;simp -dsimp[h1];refine hQ _ _ _ ?_;simp -dsimp[];refine cPx (hc) (by simp) ?_;simp -dsimp[];exact hx
def jy(a b:Vl):Int:=if dZ a.k b.k=0 then(if dZ a.n b.n=0 then cmpS a.s b.s else dZ a.n b.n) else dZ a.k b.k
theorem compare01(a b:Vl)(ha:a.s.size≤maxLen):aK Tryz.prog 41 [aJ a,aJ b] fun r=>r = .int .i64 (jy a b):=by
 have hc1:=jI a.k b.k;have hc2:=jI a.n b.n;have hc3:=strings01 a.s b.s ha;unfold jy;by_cases h1:dZ a.k b.k=0
 ·by_cases h2:dZ a.n b.n=0
  ·rw[if_pos h1,if_pos h2];refine sPx Tryz.func41 rfl rfl ?_;simp -dsimp[Tryz.f41,aI,aJ];refine cPx (hc1) (by simp) ?_;simp -dsimp[h1];refine cPx (hc2) (by simp) ?_;simp -dsimp[h2];refine cPx (hc3) (by simp) ?_;simp -dsimp[]
  ·rw[if_pos h1,if_neg h2];refine sPx Tryz.func41 rfl rfl ?_;simp -dsimp[Tryz.f41,aI,aJ];refine cPx (hc1) (by simp) ?_;simp -dsimp[h1];refine cPx (hc2) (by simp) ?_;simp -dsimp[h2]
 ·rw[if_neg h1];refine sPx Tryz.func41 rfl rfl ?_;simp -dsimp[Tryz.f41,aI,aJ];refine cPx (hc1) (by simp) ?_;simp -dsimp[h1]
def bw:List Vl→List Vl→Int
 | [],[]=>0
 | [],_::_=>-1
 | _::_,[]=>1
 | x::xs,y::ys=>if jy x y=0 then bw xs ys else jy x y
theorem cmpVs_end(us bs:List Vl)(i:Nat)(h1:i≤us.length)(h2:i≤bs.length)(h:¬(i<us.length∧i<bs.length)):bw (us.drop i) (bs.drop i)=dZ us.length bs.length:=by
 unfold dZ;by_cases ha:i<us.length
 ·rw[kT ha,kf (l:=bs) (by omega),bw,if_neg (by omega),if_pos (by omega)]
 ·rw[kf (l:=us) (by omega)];by_cases hb:i<bs.length
  ·rw[kT hb,bw,if_pos (by omega)]
  ·rw[kf (l:=bs) (by omega),bw,if_neg (by omega),if_neg (by omega)]
theorem lists01(us bs:List Vl)(f g:Bool)(hl:us.length≤1000000)(hs:∀v∈us,v.s.size≤maxLen):aK Tryz.prog 68 [LV f us,LV g bs] fun r=>r = .int .i64 (bw us bs):=by
 obtain⟨E,hE⟩:∃E,E=bw us bs:=⟨_,rfl⟩;rw[←hE];refine sPx Tryz.func68 rfl rfl ?_;simp -dsimp[Tryz.f68,aI,LV];refine aO (W_loopM 31 0x7ffffff0 (by simp[mB]<;>rfl) (σ:=Nat) (fun i=>i≤us.length∧i≤bs.length∧bw (us.drop i) (bs.drop i)=E) (fun i=>us.length-i) (fun i=>[(5,.int .i64 i)]) (fun _=>[]) 0 ⟨by omega,by omega,hE.symm⟩ (by simp) rfl (by simp) ?_);rintro i ⟨hi,hj,hx⟩ N Q hN hQ;by_cases h:i<us.length∧i<bs.length
 ·obtain⟨h1,h2⟩:=h;have hc:=compare01 us[i] bs[i] (hs _ (kN h1));simp only[aJ]at hc;rw[kT h1,kT h2,bw]at hx;by_cases h3:jy us[i] bs[i]=0
  ·rw[if_pos h3]at hx;refine wx ?_;simp -dsimp[h1,h2,aJ];refine .inr ⟨aR (by kernel_rfl),?_⟩;refine av _ (aP (hc) (by simp)) ?_;simp -dsimp[h3,aX i (by omega)];refine hN (i+1) _ _ ⟨by omega,by omega,hx⟩ (by omega) ?_ ⟨[],?_⟩ ?_ ?_<;>simp[or_imp,forall_and,L1,cW]
  ·rw[if_neg h3]at hx;refine wx ?_;simp -dsimp[h1,h2,aJ];refine .inr ⟨aR (by kernel_rfl),?_⟩;refine av _ (aP (hc) (by simp)) ?_;simp -dsimp[h3];refine hQ _ _ _ ?_;simp -dsimp[];exact hx
 ·rw[cmpVs_end us bs i hi hj h]at hx;have hc:=jI us.length bs.length;by_cases h1:i<us.length
  ·have h2:¬i<bs.length:=fun h2=>h ⟨h1,h2⟩
   refine wx ?_;simp -dsimp[h1,h2];refine hQ _ _ _ ?_;simp -dsimp[];refine cPx (hc) (by simp) ?_;simp -dsimp[];exact hx
  ·refine wx ?_;simp -dsimp[h1];refine hQ _ _ _ ?_;simp -dsimp[];refine cPx (hc) (by simp) ?_;simp -dsimp[];exact hx
theorem same01(us bs:List Vl)(f g:Bool)(hl:us.length≤1000000)(hs:∀v∈us,v.s.size≤maxLen):aK Tryz.prog 33 [LV f us,LV g bs] fun r=>r = .bool (bw us bs == 0):=by
 have hc:=lists01 us bs f g hl hs;refine sPx Tryz.func33 rfl rfl ?_;simp -dsimp[Tryz.f33,aI];refine cPx (hc) (by simp) ?_;simp -dsimp[]
end
end Go.Proofs.YtpedcgdgjoblkaaGreatDoor
section
namespace Go.Proofs.YtpedcgdgjoblkaaGreatDoor
open Go Go.AM
end Go.Proofs.YtpedcgdgjoblkaaGreatDoor
end
section
namespace Go.Proofs.YtpedcgdgjoblkaaGreatDoor
open Go Go.AM
end Go.Proofs.YtpedcgdgjoblkaaGreatDoor
end
namespace Go.Proofs.YtpedcgdgjoblkaaGreatDoor
section
open Go Go.AM
structure Fd where
 l:Nat
 r:Nat
def encD(d:Fd):V:=.agg [.int .u8 (d.l:Int),.int .u8 (d.r:Int)]
def encF(d:Fd):V:=.agg [.int .u32 (d.l:Int),.int .u32 (d.r:Int)]
@[simp] theorem encD_pure (d:Fd):AM.Pure (encD d):=by simp[encD]
@[simp] theorem encF_pure (d:Fd):AM.Pure (encF d):=by simp[encF]
@[simp] theorem encF_oneV (d:Fd):dA (encF d)=true:=rfl
def LF(f:Bool)(ds:List Fd):V:=.lst 2 f (ds.map encF)
@[simp] theorem LF_pure (f:Bool) (ds:List Fd):AM.Pure (LF f ds):=by simp[LF]
structure Tm where
 v:Int
 a:Int
 x:Vl
structure At where
 l:Tm
 op:Int
 r:Tm
structure Dn where
 vars:Int
 atoms:List At
structure Cl where
 any:Bool
 x:Vl
structure Cfd where
 l:List Int
 r:Int
 p:List Cl
structure Od where
 l:List Int
 r:List Int
def encTm(t:Tm):V:=.agg [.int .i64 t.v,.int .i64 t.a,.int .i64 t.x.k,.int .i64 t.x.n,.str t.x.s]
def encAt(a:At):V:=.agg [.int .i64 a.l.v,.int .i64 a.l.a,.int .i64 a.l.x.k,.int .i64 a.l.x.n,.str a.l.x.s,.int .i64 a.op,.int .i64 a.r.v,.int .i64 a.r.a,.int .i64 a.r.x.k,.int .i64 a.r.x.n,.str a.r.x.s]
def encCl(c:Cl):V:=.agg [.bool c.any,.int .i64 c.x.k,.int .i64 c.x.n,.str c.x.s]
@[simp] theorem encTm_pure (t:Tm):AM.Pure (encTm t):=by simp[encTm]
@[simp] theorem encAt_pure (a:At):AM.Pure (encAt a):=by simp[encAt]
@[simp] theorem encCl_pure (c:Cl):AM.Pure (encCl c):=by simp[encCl]
@[simp] theorem encAt_oneV (a:At):dA (encAt a)=true:=rfl
@[simp] theorem encCl_oneV (c:Cl):dA (encCl c)=true:=rfl
def LA(f:Bool)(al:List At):V:=.lst 11 f (al.map encAt)
def LCl(f:Bool)(cs:List Cl):V:=.lst 4 f (cs.map encCl)
@[simp] theorem LA_pure (f:Bool) (al:List At):AM.Pure (LA f al):=by simp[LA]
@[simp] theorem LCl_pure (f:Bool) (cs:List Cl):AM.Pure (LCl f cs):=by simp[LCl]
def encDn(f:Bool)(d:Dn):V:=.agg [.int .i64 d.vars,LA f d.atoms]
def encCfd(f g:Bool)(c:Cfd):V:=.agg [L1 f c.l,.int .i64 c.r,LCl g c.p]
def encOd(f g:Bool)(d:Od):V:=.agg [L1 f d.l,L1 g d.r]
@[simp] theorem encDn_pure (f:Bool) (d:Dn):AM.Pure (encDn f d):=by simp[encDn]
@[simp] theorem encCfd_pure (f g:Bool) (c:Cfd):AM.Pure (encCfd f g c):=by simp[encCfd]
@[simp] theorem encOd_pure (f g:Bool) (d:Od):AM.Pure (encOd f g d):=by simp[encOd]
structure Cn where
 name:ByteArray
 table:ByteArray
 kind:Int
 fd:Fd
 m1:Int
 m2:Int
 i1:ByteArray
 i2:List Int
 i3:ByteArray
 i4:List Int
 cfd:Cfd
 od:Od
 dn:Dn
def encCn(c:Cn):V:=.agg [.str c.name,.str c.table,.int .i64 c.kind,.int .u32 (c.fd.l:Int),.int .u32 (c.fd.r:Int),.int .u32 c.m1,.int .u32 c.m2,.str c.i1,L1 false c.i2,.str c.i3,L1 false c.i4,L1 false c.cfd.l,.int .i64 c.cfd.r,LCl false c.cfd.p,L1 false c.od.l,L1 false c.od.r,.int .i64 c.dn.vars,LA false c.dn.atoms]
def LCn(f:Bool)(cs:List Cn):V:=.lst 18 f (cs.map encCn)
@[simp] theorem encCn_pure (c:Cn):AM.Pure (encCn c):=by simp[encCn]
@[simp] theorem LCn_pure (f:Bool) (cs:List Cn):AM.Pure (LCn f cs):=by simp[LCn]
@[simp] theorem encCn_oneV (c:Cn):dA (encCn c)=true:=by simp[encCn,dA,L1,LCl,LA,V.one]
structure Snt where
 lv:Int
 lc:Int
 op:Int
 rv:Int
 rc:Int
structure Rul where
 k:Int
 fd:Fd
 cl:Int
 cr:Int
 cs:List Int
 xs:List Int
 ys:List Int
 nv:Int
 sn:List Snt
def encSnt(s:Snt):V:=.agg [.int .u8 s.lv,.int .u8 s.lc,.int .u8 s.op,.int .u8 s.rv,.int .u8 s.rc]
def encRul(r:Rul):V:=.agg [.int .u8 r.k,.int .u8 (r.fd.l:Int),.int .u8 (r.fd.r:Int),.int .u8 r.cl,.int .u8 r.cr,LU r.cs,LU r.xs,LU r.ys,.int .u8 r.nv,.lst 5 false (r.sn.map encSnt)]
@[simp] theorem encSnt_pure (s:Snt):AM.Pure (encSnt s):=by simp[encSnt]
@[simp] theorem encRul_pure (s:Rul):AM.Pure (encRul s):=by simp[encRul,LU,encU]
@[simp] theorem encRul_oneV (s:Rul):dA (encRul s)=true:=by simp[encRul,dA,LU,V.one]
structure SntOk (s:Snt):Prop where
 lv:0≤s.lv∧s.lv<256
 lc:0≤s.lc∧s.lc<256
 op:0≤s.op∧s.op<256
 rv:0≤s.rv∧s.rv<256
 rc:0≤s.rc∧s.rc<256
structure RulOk (r:Rul):Prop where
 k:0≤r.k∧r.k<256
 fd:r.fd.l<256∧r.fd.r<256
 cl:0≤r.cl∧r.cl<256
 cr:0≤r.cr∧r.cr<256
 cs:r.cs.length≤9223372036854775807
 csv:∀c∈r.cs,0≤c∧c<256
 xs:r.xs.length≤9223372036854775807
 xsv:∀c∈r.xs,0≤c∧c<256
 ys:r.ys.length≤9223372036854775807
 ysv:∀c∈r.ys,0≤c∧c<256
 nv:0≤r.nv∧r.nv<256
 sn:r.sn.length≤1048576
 snv:∀s∈r.sn,SntOk s
theorem ofV_val(m:Int):aV (ofV m)=true:=by
 unfold ofV
 repeat' split
 all_goals kernel_rfl
def jH(x:Rcp):Tb:=wideT x (x.a.tmod 6).toNat
theorem jM{n:Nat} : ∀{rs:List Rw} {last:Int},(∀r∈rs,last<r.id)→(∀r∈rs,r.vals.length=n)→(∀r∈rs,∀v∈r.vals,aV v=true)→rs.Pairwise (fun a b=>a.id<b.id)→bV n last rs=0
 | [],_,_,_,_,_=>rfl
 | r::rs,last,h1,h2,h3,h4=>by
  have a1:=h1 r lT;have a2:=h2 r lT;have a3:r.vals.all aV=true:=List.all_eq_true.2 (h3 r lT);rw[List.pairwise_cons]at h4;rw[bV,if_neg (by omega),if_neg (by omega),a3,if_pos rfl];exact jM h4.1 (fun r' hr=>h2 r' (ln _ hr)) (fun r' hr=>h3 r' (ln _ hr)) h4.2
theorem wideT_rows{x:Rcp}{n:Nat}(hg:0≤x.gap):(∀r∈(wideT x n).rows,0<r.id∧r.vals.length=n∧∀v∈r.vals,∃m,v=ofV m)∧(wideT x n).rows.Pairwise fun a b=>a.id<b.id:=by
 have h0:=mt 3 hg;constructor
 ·intro r hr;obtain⟨i,hi,rfl⟩:=List.mem_map.1 hr;refine⟨?_,wVals_len _ _,fun v hv=>?_⟩
  ·show 0<1+(i:Int)*(1+x.gap.tmod 3);have:=Int.mul_nonneg (show(0:Int)≤i by omega) (show 0≤1+x.gap.tmod 3 by omega);omega
  ·obtain⟨j,_,rfl⟩:=List.mem_map.1 hv;exact⟨_,rfl⟩
 ·show((kQ x.rows.length).map _).Pairwise _;rw[List.pairwise_map];refine List.Pairwise.imp ?_ List.pairwise_lt_range;intro i j hij;show 1+(i:Int)*(1+x.gap.tmod 3)<1+(j:Int)*(1+x.gap.tmod 3);have:=Int.mul_lt_mul_of_pos_right (show(i:Int)<j by omega) (show 0<1+x.gap.tmod 3 by omega);omega
theorem names_few:∀n,n<6→ct (L8.take n)=true
 | 0,_=>by kernel_rfl
 | 1,_=>by kernel_rfl
 | 2,_=>by kernel_rfl
 | 3,_=>by kernel_rfl
 | 4,_=>by kernel_rfl
 | 5,_=>by kernel_rfl
 | n+6,h=>by omega
theorem ofV_sz(m:Int):(ofV m).s.size≤maxLen:=by
 unfold ofV
 repeat' split
 all_goals decide
structure RcpOk (x:Rcp):Prop where
 a:0≤x.a∧x.a<256
 gap:0≤x.gap
 rows:x.rows.length≤6
 len:∀r∈x.rows,r.length≤9223372036854775807
theorem tbOf_n{x:Rcp}(h:0≤x.a):(x.a.tmod 6).toNat<6∧(((x.a.tmod 6).toNat:Nat):Int)=x.a.tmod 6:=by
 have h1:=mt 6 h;have h2:=Int.tmod_lt_of_pos x.a (show(0:Int)<6 by omega);omega
structure TbS (t:Tb):Prop where
 ok:TbOk t
 sz:∀r∈t.rows,∀v∈r.vals,v.s.size≤maxLen
 few:t.rows.length≤8
theorem tbOf_attrs{x:Rcp}(h:0≤x.a):(jH x).attrs.length=(x.a.tmod 6).toNat:=by
 obtain⟨h1,_⟩:=tbOf_n h;show(L8.take (x.a.tmod 6).toNat).length=_;rw[lC];have:L8.length=8:=rfl;omega
theorem tbOf_rows(x:Rcp):(jH x).rows.length=x.rows.length:=wRows_len _ _ _
theorem tbOf_ok{x:Rcp}(h:RcpOk x):TbS (jH x)∧aH (jH x)=0:=by
 obtain⟨h1,_⟩:=tbOf_n h.a.1;have ha:=tbOf_attrs h.a.1;have hr:=tbOf_rows x;have h6:=h.rows;obtain⟨w1,w2⟩:=wideT_rows (x:=x) (n:=(x.a.tmod 6).toNat) h.gap
 have ok:TbOk (jH x):=⟨(show(⟨#[114]⟩:ByteArray).size≤maxLen by decide),by omega,by omega,fun s hs=>by
  have hs:=lF (show s∈L8.take (x.a.tmod 6).toNat from hs)
  have:∀s∈L8,s.size≤maxLen:=by
   intro s hs;simp only[L8,kZ,kS,or_false]at hs
   rcases hs with rfl | rfl | rfl | rfl | rfl | rfl | rfl | rfl<;>decide
  exact this s hs⟩
 refine⟨⟨ok,fun r hr v hv=>by obtain⟨m,rfl⟩:=(w1 r hr).2.2 v hv;exact ofV_sz m,by omega⟩,?_⟩;unfold aH;rw[show bI (jH x).name=true by kernel_rfl,if_pos rfl,if_neg (by omega),show ct (jH x).attrs=true from names_few _ h1,if_pos rfl];exact jM (fun r hr=>(w1 r hr).1) (fun r hr=>by rw[ha];exact(w1 r hr).2.1) (fun r hr v hv=>by obtain⟨m,rfl⟩:=(w1 r hr).2.2 v hv;exact ofV_val m) w2
theorem rel_agg_lf{s:AM.St}{cs ds:List V}{u:Value}(h:Rel s (.agg cs) u)(hl:LfL cs ds):Rel s (.agg ds) u:=by
 cases h with
 | agg _ us h1 h2 h3 =>
  have hlen:=hl.len;refine .agg ds us (by omega) (fun d hd=>?_) (fun i d u hd hu=>?_)
  ·obtain⟨i,hi⟩:=List.mem_iff_getElem?.1 hd;have hc:cs[i]?=some (cs[i]'(by have:=aB hi;omega)):=kJ _;exact lf_one (hl.at_ i _ d hc hi) (h2 _ (kK hc))
  ·have hc:cs[i]?=some (cs[i]'(by have:=aB hd;omega)):=kJ _;exact lf_rel (h3 i _ u hc hu) (hl.at_ i _ d hc hd)
theorem conP_lf{P:Program}{f:FuncId}{args:List V}{v v':V}(h:aK P f args fun r=>r=v)(hr:∀(s:AM.St) u,Rel s v u→Rel s v' u)(hp:AM.Pure v'):aK P f args fun r=>r=v':=by
 refine⟨h.1,fun F w vals hZ hF hsz hrel=>(h.2 F w vals hZ hF hsz hrel).mono fun e w' ⟨u,r,a1,a2,a3,a4,a5⟩=>?_⟩;subst a5;exact⟨u,v',a1,hp,hr _ u a3,a4,rfl⟩
theorem cap32l(n:Nat)(h:n≤1000000000):n≤9223372036854775807∧n*32≤140737488355328:=by omega
theorem cp03(r:Rw)(hl:r.vals.length≤1000000):aK Tryz.prog 72 [aC r] fun x=>x=aC r:=by
 by_cases h0:r.vals=[]
 ·refine conP_lf (v:=.agg [.int .i64 r.id,.lst 3 true []]) ?_ (fun s u h=>?_) (by simp)
  ·refine bF (aG (tkf 39) Tryz.func72 rfl rfl ?_);refine W_x (tkf 39) mixed ?_;simp -dsimp[Tryz.f72,aI,aC,LV,aZ];refine aO (dG (tkf 39) mixed [7] [] [] (by kernel_rfl) fun C K hC hK=>?_);simp -implicitDefEqProofs [h0,aZ];refine hK _ _ ?_;simp -dsimp[aZ]
  ·have:=rel_agg_lf (ds:=[.int .i64 r.id,.lst 3 false []]) h (by simp[LfL,lfB]);simpa[aC,LV,h0] using this
 ·refine bF (aG (tkf 39) Tryz.func72 rfl rfl ?_);refine W_x (tkf 39) mixed ?_;simp -dsimp[Tryz.f72,aI,aC,LV,aZ];refine aO (dG (tkf 39) mixed [7] [] [] (by kernel_rfl) fun C K hC hK=>?_);simp -implicitDefEqProofs [h0,cap32l r.vals.length (by omega),aZ];refine hK _ _ ?_;simp -dsimp[aZ];rfl
theorem cap16l(n:Nat)(h:n≤1000000000):n≤9223372036854775807∧n*16≤140737488355328:=by omega
theorem with03(t:Tb)(rs:List Rw)(f g h:Bool)(ha:t.attrs.length≤1000000)(hr:rs.length≤1000000)(hv:∀r∈rs,r.vals.length≤1000000):aK Tryz.prog 71 [aD f g t,LR h rs] fun x=>x=aD false false ⟨t.name,t.attrs,rs⟩:=by
 have hne:t.attrs=[]∨¬t.attrs=[]:=by by_cases h:t.attrs=[];exact .inl h;exact .inr h
 rcases hne with hne | hne
 case' inl =>
  refine bF (aG (tkf 26) Tryz.func71 rfl rfl ?_);refine W_x (tkf 26) mixed ?_;simp -dsimp[Tryz.f71,aI,aD,LS,LR,aZ];refine aO (dG (tkf 26) mixed [7,8] [(1,[1]),(2,[1]),(4,[1]),(5,[1])] [] (by kernel_rfl) fun C K hC hK=>?_);simp -implicitDefEqProofs [hne,aZ];refine hK _ _ ?_;simp -dsimp[aZ]
 case' inr =>
  refine bF (aG (tkf 26) Tryz.func71 rfl rfl ?_);refine W_x (tkf 26) mixed ?_;simp -dsimp[Tryz.f71,aI,aD,LS,LR,aZ];refine aO (dG (tkf 26) mixed [7,8] [(1,[1]),(2,[1]),(4,[1]),(5,[1])] [] (by kernel_rfl) fun C K hC hK=>?_);simp -implicitDefEqProofs [hne,cap16l t.attrs.length (by omega),aZ];refine hK _ _ ?_;simp -dsimp[aZ]
 all_goals
  refine aO (W_lf 2 _ [.str t.name,.lst 1 false (t.attrs.map V.str),.nilS] rfl (ed _) (by simp[LfL,lfB,hne]) (cO 41 2 [] 2 [2] rfl (bu _ _) (by simp) (W_loopM 30 0x3ffffa40 (by simp[mB]<;>rfl) (σ:=Nat) (fun i=>i≤rs.length) (fun i=>rs.length-i) (fun i=>[(6,.int .i64 i)]) (fun i=>[B.cells [.str t.name,.lst 1 f (t.attrs.map V.str),.lst 2 g (t.rows.map aC)],B.cells [.str kI,.nilS,.nilS],B.cells [.str t.name,.lst 1 false (t.attrs.map V.str),.buf 3 0 i i],B.buf 41 2 ((rs.take i).map aC) false]) 0 (by omega) (by simp[hne]) (by simp[hne]) (by simp) ?_)));intro i hi N Q hN hQ
  have hli:(rs.take i).length=i:=by simp;omega
  by_cases hb:i<rs.length
  ·have hst:rs.take (i+1)=rs.take i++[rs[i]]:=kY hb;have hc:=cp03 rs[i] (hv _ (kN hb));obtain⟨l,hl⟩:∃l,l=rs.take i:=⟨_,rfl⟩;rw[←hl]at hst hli ⊢;refine W_x (tkf 26) mixed ?_;simp -dsimp[hb,aZ];refine aO (aS (tkf 26) mixed [8,10] [] [(aC rs[i],[])] (by kernel_rfl) fun C K hC hK=>?_);simp -implicitDefEqProofs [hb,aC,LV,hli,ew i (by omega),aZ];refine⟨hC _ _ _ _ (aP hc (by simp)),hK _ _ ?_⟩;simp -dsimp[aX i (by omega),aZ];refine hN (i+1) _ _ (by omega) (by omega) ?_ ⟨[],?_⟩ ?_ ?_<;>simp[or_imp,forall_and,L1,cW,hst,aC,LV]
  ·obtain rfl:i=rs.length:=by omega
   rw[km];refine fm 3 [] 2 [2] rfl rfl (by simp) (by simp) ?_;refine W_x (tkf 26) mixed ?_;simp -dsimp[hb,aZ];refine hQ _ _ _ ?_;simp -dsimp[aZ];simp only[aD,LS,LR]
end
end Go.Proofs.YtpedcgdgjoblkaaGreatDoor
