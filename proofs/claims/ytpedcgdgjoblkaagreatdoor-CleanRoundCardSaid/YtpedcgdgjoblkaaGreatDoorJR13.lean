/- JR13: own texts of this seat, joined and shortened by pack4.py: T4, PT, T5, T6, T7, T8, T9, T10, G1, Rc, Rd, T11, RO, T12, Ve, PV, ClV. -/
import Derived.Test.YtpedcgdgjoblkaaGreatDoorJR10
import Derived.WalkSpells
import Derived.WalkLawsBesides
import Derived.Lib.Hide
import Derived.Maps.AppendAt
set_option linter.unusedVariables false
set_option linter.unusedSimpArgs false
set_option maxRecDepth 100000
set_option maxHeartbeats 64000000
open Bool renaming false_eq_true→ki,true_and→kw,false_and→ky,eq_iff_iff→mc
open ByteArray renaming empty→kV
open Int renaming tmod_nonneg→nE
open List renaming replicate→aJ,getElem_mem→kZ,range→ka,not_mem_nil→kf,mem_cons→kh,drop_eq_getElem_cons→km,drop_of_length_le→kx,length_take→lC,length_map→lG,length_cons→lJ,mem_of_mem_take→lL,mem_cons_self→lP,getElem?_cons_succ→lR,mem_cons_of_mem→lX,range_succ→lz,getElem?_cons_zero→mC,map_take→mZ,take→mj
open Nat renaming le_refl→kY,lt_of_lt_of_le→kp
namespace Go.Proofs.YtpedcgdgjoblkaaGreatDoor
section
open Go Go.AM
structure Rw where
 id:Int
 vals:List Vl
structure Tb where
 name:ByteArray
 attrs:List ByteArray
 rows:List Rw
def aC(r:Rw):V:=.agg [.int .i64 r.id,LV false r.vals]
def LR(g:Bool)(rs:List Rw):V:=.lst 2 g (rs.map aC)
def aD(f g:Bool)(t:Tb):V:=.agg [.str t.name,LS f t.attrs,LR g t.rows]
@[simp] theorem encRw_pure (r:Rw):AM.Pure (aC r):=by simp[aC]
@[simp] theorem LR_pure (g:Bool) (rs:List Rw):AM.Pure (LR g rs):=by simp[LR]
@[simp] theorem encTb_pure (f g:Bool) (t:Tb):AM.Pure (aD f g t):=by simp[aD]
@[simp] theorem encRw_oneV (r:Rw):cY (aC r)=true:=rfl
def bR(n:Nat):Int→List Rw→Int
 | _,[]=>0
 | last,r::rs=>if r.id≤last then 1 else if r.vals.length≠n then 6 else if r.vals.all aY then bR n r.id rs else 1
def aF(t:Tb):Int:=if bG t.name then(if 16<t.attrs.length∨1000<t.rows.length then 3 else if dG t.attrs then bR t.attrs.length 0 t.rows else 1) else 1
structure TbOk (t:Tb):Prop where
 name:t.name.size≤maxLen
 attrs:t.attrs.length≤1000000
 rows:t.rows.length≤1000000
 strs:∀s∈t.attrs,s.size≤maxLen
theorem valid03(t:Tb)(f g:Bool)(h:TbOk t):aL Tryz.prog 69 [aD f g t] fun r=>r = .int .i64 (aF t):=by
 obtain⟨hn,ha,hr,hs⟩:=h;have hc1:=jb t.name hn;cases h1:bG t.name
 ·rw[h1]at hc1;rw[show aF t=1 by simp[aF,h1]];refine sPx Tryz.func69 rfl rfl ?_;simp -dsimp[Tryz.f69,aJ,aD,LR,LS];refine cPx (hc1) (by simp) ?_;simp -dsimp[]
 ·rw[h1]at hc1;by_cases h2:16<t.attrs.length
  ·rw[show aF t=3 by simp[aF,h1,h2]];refine sPx Tryz.func69 rfl rfl ?_;simp -dsimp[Tryz.f69,aJ,aD,LR,LS];refine cPx (hc1) (by simp) ?_;simp -dsimp[show(16:Int)<t.attrs.length by omega]
  ·by_cases h3:1000<t.rows.length
   ·rw[show aF t=3 by simp[aF,h1,h3]];refine sPx Tryz.func69 rfl rfl ?_;simp -dsimp[Tryz.f69,aJ,aD,LR,LS];refine cPx (hc1) (by simp) ?_;simp -dsimp[show ¬(16:Int)<t.attrs.length by omega,show(1000:Int)<t.rows.length by omega]
   ·have hc2:=names03 t.attrs f ha hs;simp only[LS]at hc2;cases h4:dG t.attrs
    ·rw[h4]at hc2;rw[show aF t=1 by simp[aF,h1,h2,h3,h4]];refine sPx Tryz.func69 rfl rfl ?_;simp -dsimp[Tryz.f69,aJ,aD,LR,LS];refine cPx (hc1) (by simp) ?_;simp -dsimp[show ¬(16:Int)<t.attrs.length by omega,show ¬(1000:Int)<t.rows.length by omega];refine cPx (hc2) (by simp) ?_;simp -dsimp[]
    ·rw[h4]at hc2
     have hE:bR t.attrs.length 0 t.rows=aF t:=by simp[aF,h1,h2,h3,h4]
     obtain⟨E,hEe⟩:∃E,E=aF t:=⟨_,rfl⟩;rw[←hEe]at hE ⊢;refine sPx Tryz.func69 rfl rfl ?_;simp -dsimp[Tryz.f69,aJ,aD,LR,LS];refine cPx (hc1) (by simp) ?_;simp -dsimp[show ¬(16:Int)<t.attrs.length by omega,show ¬(1000:Int)<t.rows.length by omega];refine cPx (hc2) (by simp) ?_;simp -dsimp[];refine aO (W_loopM 53 0x1fffffff00003c (by simp[mB]<;>rfl) (σ:=Nat×Int) (fun p=>p.1≤t.rows.length∧bR t.attrs.length p.2 (t.rows.drop p.1)=E) (fun p=>t.rows.length-p.1) (fun p=>[(4,.int .i64 p.1),(3,.int .i64 p.2)]) (fun _=>[B.cells [.str t.name,LS f t.attrs,LR g t.rows]]) (0,0) ⟨by simp,hE⟩ (by simp) (by simp[LS,LR]) (by simp) ?_);rintro⟨i,last⟩ ⟨hi,hx⟩ N Q hN hQ;simp only at hi hx hN;by_cases hb:i<t.rows.length
     ·rw[km hb]at hx;simp only[bR]at hx;by_cases h5:t.rows[i].id≤last
      ·rw[if_pos h5]at hx;refine wx ?_;simp -dsimp[hb,LS,LR,aC,h5,LV];refine hQ _ _ _ ?_;simp -dsimp[];exact hx
      ·rw[if_neg h5]at hx;by_cases h6:t.rows[i].vals.length=t.attrs.length
       ·rw[if_neg (fun h=>h h6)]at hx;have hc3:=valids01 t.rows[i].vals false (by omega);cases h7:t.rows[i].vals.all aY
        ·rw[h7]at hc3 hx;refine wx ?_;simp -dsimp[hb,LS,LR,aC,h5,LV,h6];simp only[LV]at hc3;refine cPx (hc3) (by simp) ?_;simp -dsimp[];refine hQ _ _ _ ?_;simp -dsimp[];simpa using hx
        ·rw[h7,if_pos rfl]at hx;rw[h7]at hc3;refine wx ?_;simp -dsimp[hb,LS,LR,aC,h5,LV,h6];simp only[LV]at hc3;refine cPx (hc3) (by simp) ?_;simp -dsimp[aT i (by omega)];refine hN (i+1,t.rows[i].id) _ _ ⟨by simp;omega,hx⟩ (by omega) ?_ ⟨[B.cells [.int .i64 t.rows[i].id,LV false t.rows[i].vals]],?_⟩ ?_ ?_<;>simp[or_imp,forall_and,L1,ct,LS,LR,LV]
       ·rw[if_pos h6]at hx;refine wx ?_;simp -dsimp[hb,LS,LR,aC,h5,LV,show ¬(t.rows[i].vals.length:Int)=t.attrs.length by omega];refine hQ _ _ _ ?_;simp -dsimp[];exact hx
     ·rw[kx (by omega)]at hx;refine wx ?_;simp -dsimp[hb,LS,LR];refine hQ _ _ _ ?_;simp -dsimp[];exact hx
theorem bv(t:Tb)(f g:Bool)(h:TbOk t):aL Tryz.prog 43 [aD f g t] fun r=>r = .int .i64 (aF t):=by
 obtain⟨hn,ha,hr,hs⟩:=h;have hc1:=ji t.name hn;cases h1:bG t.name
 ·rw[h1]at hc1;rw[show aF t=1 by simp[aF,h1]];refine sPx Tryz.func43 rfl rfl ?_;simp -dsimp[Tryz.f43,aJ,aD,LR,LS];refine cPx (hc1) (by simp) ?_;simp -dsimp[]
 ·rw[h1]at hc1;by_cases h2:16<t.attrs.length
  ·rw[show aF t=3 by simp[aF,h1,h2]];refine sPx Tryz.func43 rfl rfl ?_;simp -dsimp[Tryz.f43,aJ,aD,LR,LS];refine cPx (hc1) (by simp) ?_;simp -dsimp[show(16:Int)<t.attrs.length by omega]
  ·by_cases h3:1000<t.rows.length
   ·rw[show aF t=3 by simp[aF,h1,h3]];refine sPx Tryz.func43 rfl rfl ?_;simp -dsimp[Tryz.f43,aJ,aD,LR,LS];refine cPx (hc1) (by simp) ?_;simp -dsimp[show ¬(16:Int)<t.attrs.length by omega,show(1000:Int)<t.rows.length by omega]
   ·have hE:(if dG t.attrs then bR t.attrs.length 0 t.rows else 1)=aF t:=by simp[aF,h1,h2,h3]
    obtain⟨E,hEe⟩:∃E,E=aF t:=⟨_,rfl⟩;rw[←hEe]at hE ⊢;refine sPx Tryz.func43 rfl rfl ?_;simp -dsimp[Tryz.f43,aJ,aD,LR,LS];refine cPx (hc1) (by simp) ?_;simp -dsimp[show ¬(16:Int)<t.attrs.length by omega,show ¬(1000:Int)<t.rows.length by omega];refine aO (W_loopM 42 0x3fffe00001c (by simp[mB]<;>rfl) (σ:=Nat) (fun i=>i≤t.attrs.length∧(ka i).all (nmAt t.attrs)=true) (fun i=>t.attrs.length-i) (fun i=>[(25,.int .i64 i)]) (fun _=>[B.cells [.str t.name,LS f t.attrs,LR g t.rows]]) 0 ⟨by omega,rfl⟩ (by simp) (by simp[LS,LR]) (by simp) ?_);rintro i ⟨hi,hall⟩ N Q hN hQ;by_cases hb:i<t.attrs.length
    ·have hsi:sAt t.attrs i=t.attrs[i]:=by simp[sAt,hb]
     have hok:nmAt t.attrs i=(bG t.attrs[i]&&!memS (t.attrs.take i) t.attrs[i]):=by unfold nmAt;rw[hsi]
     have hd1:=ji t.attrs[i] (hs _ (kZ hb));have hd2:=containsS (t.attrs.take i) t.attrs[i] (f&&i == t.attrs.length) (by simp;omega);simp only[LS,mZ]at hd2;cases h5:bG t.attrs[i]
     ·rw[h5,ky]at hok;rw[h5]at hd1;rw[show dG t.attrs=false from allno hb hok]at hE;refine wx ?_;simp -dsimp[hb,LS,LR];refine cPx (hd1) (by simp) ?_;simp -dsimp[];refine hQ _ _ _ ?_;simp -dsimp[];simpa using hE
     ·rw[h5,kw]at hok;rw[h5]at hd1;cases h6:memS (t.attrs.take i) t.attrs[i]
      ·rw[h6]at hd2 hok;refine wx ?_;simp -dsimp[hb,LS,LR];refine cPx (hd1) (by simp) ?_;simp -dsimp[show i≤t.attrs.length by omega];refine cPx (hd2) (by simp) ?_;simp -dsimp[aT i (by omega)];refine hN (i+1) _ _ ⟨by omega,bY hall (by rw[hok];rfl)⟩ (by omega) ?_ ⟨[],?_⟩ ?_ ?_<;>simp[or_imp,forall_and,L1,ct,LS,LR]
      ·rw[h6]at hd2 hok;rw[show dG t.attrs=false from allno hb hok]at hE;refine wx ?_;simp -dsimp[hb,LS,LR];refine cPx (hd1) (by simp) ?_;simp -dsimp[show i≤t.attrs.length by omega];refine cPx (hd2) (by simp) ?_;simp -dsimp[];refine hQ _ _ _ ?_;simp -dsimp[];simpa using hE
    ·obtain rfl:i=t.attrs.length:=by omega
     rw[show dG t.attrs=true from hall,if_pos rfl]at hE;refine wx ?_;simp -dsimp[hb,LS,LR];refine hQ _ _ _ ?_;simp -dsimp[LS,LR];refine aO (W_loopM 70 0x3fffffe000000000a4 (by simp[mB]<;>rfl) (σ:=Nat×Int) (fun p=>p.1≤t.rows.length∧bR t.attrs.length p.2 (t.rows.drop p.1)=E) (fun p=>t.rows.length-p.1) (fun p=>[(45,.int .i64 p.1),(5,.int .i64 p.2)]) (fun _=>[B.cells [.str t.name,LS f t.attrs,LR g t.rows]]) (0,0) ⟨by simp,hE⟩ (by simp) (by simp[LS,LR]) (by simp) ?_);rintro⟨j,last⟩ ⟨hj,hx⟩ N2 Q2 hN2 hQ2;simp only at hj hx hN2;by_cases hjb:j<t.rows.length
     ·rw[km hjb]at hx;simp only[bR]at hx;by_cases h5:t.rows[j].id≤last
      ·rw[if_pos h5]at hx;refine wx ?_;simp -dsimp[hjb,LS,LR,aC,h5,LV];refine hQ2 _ _ _ ?_;simp -dsimp[];exact hx
      ·rw[if_neg h5]at hx;by_cases h6:t.rows[j].vals.length=t.attrs.length
       ·rw[if_neg (fun h=>h h6)]at hx;have hc3:=validVals t.rows[j].vals false (by omega);simp only[LV]at hc3;cases h7:t.rows[j].vals.all aY
        ·rw[h7]at hc3 hx;refine wx ?_;simp -dsimp[hjb,LS,LR,aC,h5,LV,h6];refine cPx (hc3) (by simp) ?_;simp -dsimp[];refine hQ2 _ _ _ ?_;simp -dsimp[];simpa using hx
        ·rw[h7,if_pos rfl]at hx;rw[h7]at hc3;refine wx ?_;simp -dsimp[hjb,LS,LR,aC,h5,LV,h6];refine cPx (hc3) (by simp) ?_;simp -dsimp[aT j (by omega)];refine hN2 (j+1,t.rows[j].id) _ _ ⟨by simp;omega,hx⟩ (by omega) ?_ ⟨[B.cells [.int .i64 t.rows[j].id,LV false t.rows[j].vals]],?_⟩ ?_ ?_<;>simp[or_imp,forall_and,L1,ct,LS,LR,LV]
       ·rw[if_pos h6]at hx;refine wx ?_;simp -dsimp[hjb,LS,LR,aC,h5,LV,show ¬(t.rows[j].vals.length:Int)=t.attrs.length by omega];refine hQ2 _ _ _ ?_;simp -dsimp[];exact hx
     ·rw[kx (by omega)]at hx;refine wx ?_;simp -dsimp[hjb,LS,LR];refine hQ2 _ _ _ ?_;simp -dsimp[];exact hx
structure TbC (t:Tb):Prop where
 ids:t.rows.Pairwise fun r s=>r.id<s.id
 pos:∀r∈t.rows,0<r.id
 len:∀r∈t.rows,r.vals.length=t.attrs.length
 val:∀r∈t.rows,r.vals.all aY=true
 wide:t.attrs.length≤16
theorem jR{n:Nat} : ∀{rs:List Rw} {last:Int},bR n last rs=0→(∀r∈rs,last<r.id)∧(rs.Pairwise fun r s=>r.id<s.id)∧(∀r∈rs,r.vals.length=n)∧∀r∈rs,r.vals.all aY=true
 | [],_,_=>by simp
 | r::rs,last,h=>by
  rw[bR]at h;split at h
  ·cases h
  ·rename_i h1;split at h
   ·cases h
   ·rename_i h2;split at h
    ·rename_i h3;obtain⟨a,b,c,d⟩:=jR h;refine⟨fun x hx=>?_,List.pairwise_cons.2 ⟨a,b⟩,fun x hx=>?_,fun x hx=>?_⟩
     ·rcases List.mem_cons.1 hx with rfl | hx
      ·omega
      ·have:=a x hx;omega
     ·rcases List.mem_cons.1 hx with rfl | hx
      ·simpa using h2
      ·exact c x hx
     ·rcases List.mem_cons.1 hx with rfl | hx
      ·exact h3
      ·exact d x hx
    ·cases h
theorem tbC{t:Tb}(h:aF t=0):TbC t:=by
 unfold aF at h;split at h
 ·split at h
  ·cases h
  ·rename_i h2;split at h
   ·obtain⟨a,b,c,d⟩:=jR h;exact⟨b,fun r hr=>a r hr,c,d,by omega⟩
   ·cases h
 ·cases h
def ofV(m:Int):Vl :=
 if m=0 then⟨1,0,kV⟩ else
 if m=1 then⟨1,1,kV⟩ else
 if m=2 then⟨1,2,kV⟩ else
 if m=3 then⟨0,0,kV⟩ else
 if m=4 then⟨2,0,⟨#[97]⟩⟩ else
 if m=5 then⟨2,0,⟨#[98]⟩⟩ else
 if m=6 then⟨2,0,kV⟩ else
 if m=7 then⟨3,1,kV⟩ else
 if m=8 then⟨1,-1,kV⟩ else
 if m=9 then⟨2,0,⟨#[97,98]⟩⟩ else
 if m=10 then⟨3,2,kV⟩ else
 ⟨1,7,kV⟩
def ofC(c:Int):Vl:=ofV (c.tmod 12)
theorem of01(c:Int):aL Tryz.prog 58 [.int .u8 c] fun r=>r=aH (ofC c):=by
 unfold ofC;obtain⟨m,hm⟩:∃m,m=c.tmod 12:=⟨_,rfl⟩;rw[←hm];have hm:=hm.symm;by_cases h0:m=0
 ·have e:ofV m=ofV 0:=by rw[h0]
  rw[e];refine sPx Tryz.func58 rfl rfl ?_;simp -dsimp[Tryz.f58,aJ,hm,h0];rfl
 by_cases h1:m=1
 ·have e:ofV m=ofV 1:=by rw[h1]
  rw[e];refine sPx Tryz.func58 rfl rfl ?_;simp -dsimp[Tryz.f58,aJ,hm,h1];rfl
 by_cases h2:m=2
 ·have e:ofV m=ofV 2:=by rw[h2]
  rw[e];refine sPx Tryz.func58 rfl rfl ?_;simp -dsimp[Tryz.f58,aJ,hm,h2];rfl
 by_cases h3:m=3
 ·have e:ofV m=ofV 3:=by rw[h3]
  rw[e];refine sPx Tryz.func58 rfl rfl ?_;simp -dsimp[Tryz.f58,aJ,hm,h3];rfl
 by_cases h4:m=4
 ·have e:ofV m=ofV 4:=by rw[h4]
  rw[e];refine sPx Tryz.func58 rfl rfl ?_;simp -dsimp[Tryz.f58,aJ,hm,h4];rfl
 by_cases h5:m=5
 ·have e:ofV m=ofV 5:=by rw[h5]
  rw[e];refine sPx Tryz.func58 rfl rfl ?_;simp -dsimp[Tryz.f58,aJ,hm,h5];rfl
 by_cases h6:m=6
 ·have e:ofV m=ofV 6:=by rw[h6]
  rw[e];refine sPx Tryz.func58 rfl rfl ?_;simp -dsimp[Tryz.f58,aJ,hm,h6];rfl
 by_cases h7:m=7
 ·have e:ofV m=ofV 7:=by rw[h7]
  rw[e];refine sPx Tryz.func58 rfl rfl ?_;simp -dsimp[Tryz.f58,aJ,hm,h7];rfl
 by_cases h8:m=8
 ·have e:ofV m=ofV 8:=by rw[h8]
  rw[e];refine sPx Tryz.func58 rfl rfl ?_;simp -dsimp[Tryz.f58,aJ,hm,h8];rfl
 by_cases h9:m=9
 ·have e:ofV m=ofV 9:=by rw[h9]
  rw[e];refine sPx Tryz.func58 rfl rfl ?_;simp -dsimp[Tryz.f58,aJ,hm,h9];rfl
 by_cases h10:m=10
 ·have e:ofV m=ofV 10:=by rw[h10]
  rw[e];refine sPx Tryz.func58 rfl rfl ?_;simp -dsimp[Tryz.f58,aJ,hm,h10];rfl
 have e:ofV m=⟨1,7,kV⟩:=by unfold ofV;simp[h0,h1,h2,h3,h4,h5,h6,h7,h8,h9,h10]
 rw[e];refine sPx Tryz.func58 rfl rfl ?_;simp -dsimp[Tryz.f58,aJ,hm,h0,h1,h2,h3,h4,h5,h6,h7,h8,h9,h10];rfl
structure Rcp where
 a:Int
 gap:Int
 rows:List (List Int)
def LU(xs:List Int):V:=.lst 1 false (xs.map encU)
def ae(f:Bool)(x:Rcp):V:=.agg [.int .u8 x.a,.int .u8 x.gap,.lst 1 f (x.rows.map LU)]
@[simp] theorem LU_pure (xs:List Int):AM.Pure (LU xs):=by simp[LU]
@[simp] theorem encRcp_pure (f:Bool) (x:Rcp):AM.Pure (ae f x):=by simp[ae]
def L8:List ByteArray:=[⟨#[97]⟩,⟨#[98]⟩,⟨#[99]⟩,⟨#[100]⟩,⟨#[101]⟩,⟨#[102]⟩,⟨#[103]⟩,⟨#[104]⟩]
def ei(cs:List Int)(k:Nat):List Vl:=(ka k).map fun j=>ofC (cs.getD j 0)
def wRow(gap:Int)(cs:List Int)(n i:Nat):Rw:=⟨1+(i:Int)*(1+gap.tmod 3),ei cs n⟩
def gH(x:Rcp)(n i:Nat):List Rw:=(ka i).map fun j=>wRow x.gap (x.rows.getD j []) n j
def wideT(x:Rcp)(n:Nat):Tb:=⟨⟨#[114]⟩,L8.take n,gH x n x.rows.length⟩
theorem wVals_succ(cs:List Int)(k:Nat):ei cs (k+1)=ei cs k++[ofC (cs.getD k 0)]:=by simp[ei,lz]
theorem wVals_len(cs:List Int)(k:Nat):(ei cs k).length=k:=by simp[ei]
theorem wRows_succ(x:Rcp)(n i:Nat):gH x n (i+1)=gH x n i++[wRow x.gap (x.rows.getD i []) n i]:=by simp[gH,lz]
theorem wRows_len(x:Rcp)(n i:Nat):(gH x n i).length=i:=by simp[gH]
theorem kO(n:Nat)(h:n≤1000000000):n≤9223372036854775806∧(n+1)*32≤140737488355328:=by omega
theorem L8_take(n:Nat):mj n [V.str ⟨#[97]⟩,V.str ⟨#[98]⟩,V.str ⟨#[99]⟩,V.str ⟨#[100]⟩,V.str ⟨#[101]⟩,V.str ⟨#[102]⟩,V.str ⟨#[103]⟩,V.str ⟨#[104]⟩]=(L8.take n).map V.str:=by rw[mZ];rfl
theorem ownF_refl(k:Nat):∀xs:List V,kT k xs xs
 | []=>trivial
 | x::xs=>⟨.inl rfl,ownF_refl k xs⟩
theorem ownAt_nil(k:Nat):∀(i:Nat) (xs:List V),cU k [] i xs=xs
 | _,[]=>rfl
 | i,x::xs=>by simp only[cU,List.contains_nil,ki,if_false,ownAt_nil k (i+1) xs]
theorem cQ(k:Nat)(xs:List V):kT k xs (cU k [] 0 xs):=by rw[ownAt_nil];exact ownF_refl k xs
theorem wide03(x:Rcp)(n:Nat)(f:Bool)(hn:n≤8)(hr:x.rows.length≤1000000)(hc:∀r∈x.rows,r.length≤9223372036854775807)(h0:0≤x.gap):
  aL Tryz.prog 23 [ae f x,.int .i64 n] fun r=>r=aD false false (wideT x n):=by
 have hg:=nE 3 h0;have hg2:=Int.tmod_lt_of_pos x.gap (show(0:Int)<3 by omega);obtain⟨g,hge⟩:∃g,g=x.gap.tmod 3:=⟨_,rfl⟩;rw[←hge]at hg hg2;have hgs:=hge.symm;have hw1:IntKind.i64.wrap g=g:=wrap64 (by omega) (by omega);have hw2:IntKind.i64.wrap (1+g)=1+g:=wrap64 (by omega) (by omega)
 have hl8:(L8.take n).length=n:=by simp[L8];omega
 have hne:(n=0∧mj n (L8.map V.str)=[])∨(¬n=0∧¬mj n (L8.map V.str)=[]):=by
  by_cases hz:n=0
  ·exact .inl ⟨hz,by rw[hz];rfl⟩
  ·refine .inr ⟨hz,fun h=>?_⟩;have:=congrArg List.length h;rw[←mZ,lG,hl8]at this;exact hz this
 have hlt:(mj n (L8.map V.str)).length=n:=by rw[←mZ,lG,hl8]
 have hcp:n≤9223372036854775807∧n*16≤140737488355328:=by omega
 rcases hne with⟨hz,hne⟩ | ⟨hz,hne⟩
 case' inl =>
  refine cH (aI (tkf 26) Tryz.func23 rfl rfl ?_);refine W_x (tkf 26) mixed ?_;simp -dsimp[Tryz.f23,aJ,ae,L8_take,hn,hne,bA]
 case' inr =>
  refine cH (aI (tkf 26) Tryz.func23 rfl rfl ?_);refine W_x (tkf 26) mixed ?_;simp -dsimp[Tryz.f23,aJ,ae,L8_take,hn,hz,hne,hlt,hcp,bA]
 all_goals
  refine aO (W_lf 2 _ [.str ⟨#[114]⟩,.lst 1 false (mj n (L8.map V.str)),.nilS] rfl (gU _) (by simp[LfL,lfB,hne]) (dW 41 2 [] 2 [2] rfl (cQ _ _) (by simp) (W_loopM 66 0x3ffffffffffffefc0 (by simp[mB]<;>rfl) (σ:=Nat) (fun i=>i≤x.rows.length) (fun i=>x.rows.length-i) (fun i=>[(6,.int .i64 i)]) (fun i=>[B.cells [.int .u8 x.a,.int .u8 x.gap,.lst 1 f (x.rows.map LU)],B.cells [.str kV,.nilS,.nilS],B.cells [.str ⟨#[114]⟩,.lst 1 false (mj n (L8.map V.str)),.buf 3 0 i i],B.buf 41 2 ((gH x n i).map aC) false]) 0 (by omega) (by simp) (by simp[gH]) (by simp) ?_)));intro i hi N Q hN hQ;have hwl:=wRows_len x n i;by_cases hb:i<x.rows.length
  ·have hg0:x.rows.getD i []=x.rows[i]:=by simp[hb]
   have hws:=wRows_succ x n i;rw[hg0]at hws;have hcl:=hc x.rows[i] (kZ hb);obtain⟨cs,hcs⟩:∃cs,cs=x.rows[i]:=⟨_,rfl⟩;rw[←hcs]at hws hcl;have hcs':=hcs.symm;have hp0:0≤(i:Int)*(1+g):=Int.mul_nonneg (by omega) (by omega);have hp1:(i:Int)*(1+g)≤i*3:=Int.mul_le_mul_of_nonneg_left (by omega) (by omega);have hw3:IntKind.i64.wrap ((i:Int)*(1+g))=(i:Int)*(1+g):=wrap64 (by omega) (by omega);have hw4:IntKind.i64.wrap (1+(i:Int)*(1+g))=1+(i:Int)*(1+g):=wrap64 (by omega) (by omega)
   have hrow:wRow x.gap cs n i=⟨1+(i:Int)*(1+g),ei cs n⟩:=by rw[hge];rfl
   rw[hrow]at hws;obtain⟨id,hid⟩:∃id,id=1+(i:Int)*(1+g):=⟨_,rfl⟩;rw[←hid]at hws hw4
   have hw5:IntKind.i64.wrap (1+(i:Int)*(1+g))=id:=by rw[←hid];exact hw4
   refine W_x (tkf 26) mixed ?_;simp -dsimp[hb,hgs,hw1,hw2,hw3,hw5,bA];refine aO (dW 43 3 [] 4 [1] rfl (cQ _ _) (by simp) (W_loopM 60 0xfffffff00000300 (by simp[mB]<;>rfl) (σ:=Nat) (fun k=>k≤n) (fun k=>n-k) (fun k=>[(8,.int .i64 k)]) (fun k=>[B.cells [.int .u8 x.a,.int .u8 x.gap,.lst 1 f (x.rows.map LU)],B.cells [.str kV,.nilS,.nilS],B.cells [.str ⟨#[114]⟩,.lst 1 false (mj n (L8.map V.str)),.buf 3 0 i i],B.buf 41 2 ((gH x n i).map aC) false,B.cells [.int .i64 id,.buf 5 0 k k],B.buf 43 3 ((ei cs k).map aH) false]) 0 (by omega) (by simp) (by simp[ei]) (by simp) ?_));intro k hk N2 Q2 hN2 hQ2;have hvl:=wVals_len cs k;have hvs:=wVals_succ cs k;by_cases hkb:k<n
   ·by_cases hkc:k<cs.length
    ·have hg1:cs.getD k 0=cs[k]:=by simp[hkc]
     rw[hg1]at hvs;have hco:=of01 cs[k];refine W_x (tkf 26) mixed ?_;simp -dsimp[hkb,hb,LU,hcs',hkc,encU,bA];refine aO (aX (tkf 26) mixed [5,7] [] [(aH (ofC cs[k]),[])] (by kernel_rfl) fun C K hC hK=>?_);simp -implicitDefEqProofs [kO k (by omega),hvl,aH,bA];refine⟨hC _ _ _ _ (aQ hco (by simp)),hK _ _ ?_⟩;simp -dsimp[aT k (by omega),bA];refine hN2 (k+1) _ _ (by omega) (by omega) ?_ ⟨[],?_⟩ ?_ ?_<;>simp[or_imp,forall_and,L1,ct,hvs,LS,aH,aC,LV]
    ·have hg1:cs.getD k 0=0:=by simp[hkc]
     rw[hg1]at hvs;have hco:=of01 0;refine W_x (tkf 26) mixed ?_;simp -dsimp[hkb,hb,LU,hcs',hkc,encU,bA];refine aO (aX (tkf 26) mixed [5,7] [] [(aH (ofC 0),[])] (by kernel_rfl) fun C K hC hK=>?_);simp -implicitDefEqProofs [kO k (by omega),hvl,aH,bA];refine⟨hC _ _ _ _ (aQ hco (by simp)),hK _ _ ?_⟩;simp -dsimp[aT k (by omega),bA];refine hN2 (k+1) _ _ (by omega) (by omega) ?_ ⟨[],?_⟩ ?_ ?_<;>simp[or_imp,forall_and,L1,ct,hvs,LS,aH,aC,LV]
   ·obtain rfl:k=n:=by omega
    refine gD 5 [] 4 [1] rfl rfl (by simp) (by simp[hvl]) ?_;refine W_x (tkf 26) mixed ?_;simp -dsimp[hkb,bA];refine hQ2 _ _ _ ?_;simp -dsimp[hwl,kO i (by omega),aT i (by omega),bA];refine hN (i+1) _ _ (by omega) (by omega) ?_ ⟨[B.cells [.int .i64 id,LV false (ei cs k)],B.buf 43 3 ((ei cs k).map aH) true],?_⟩ ?_ ?_<;>simp[or_imp,forall_and,L1,ct,hws,aC,LV]
  ·obtain rfl:i=x.rows.length:=by omega
   refine gD 3 [] 2 [2] rfl rfl (by simp) (by simp[hwl]) ?_;refine W_x (tkf 26) mixed ?_;simp -dsimp[hb,bA];refine hQ _ _ _ ?_;simp -dsimp[bA];simp only[aD,wideT,LS,LR,mZ]
theorem jO(x y:Int):aL Tryz.prog 78 [.int .i64 x,.int .i64 y] fun r=>r = .int .i64 (dw x y):=by
 refine sPx Tryz.func78 rfl rfl ?_;simp -dsimp[Tryz.f78,aJ];unfold dw;split
 ·rfl
 ·split<;>rfl
theorem cmpS_drop(a b:ByteArray)(i:Nat)(ha:i<a.size)(hb:i<b.size):Lib.compareBytes (a.data.toList.drop i) (b.data.toList.drop i)=if a[i]<b[i] then -1 else if b[i]<a[i] then 1 else Lib.compareBytes (a.data.toList.drop (i+1)) (b.data.toList.drop (i+1)):=by
 have h1:i<a.data.toList.length:=by rw[gB];exact ha
 have h2:i<b.data.toList.length:=by rw[gB];exact hb
 rw[km h1,km h2,Lib.compareBytes];rfl
theorem cmpS_end(a b:ByteArray)(i:Nat)(hi:i≤a.size)(hj:i≤b.size)(h:¬(i<a.size∧i<b.size)):Lib.compareBytes (a.data.toList.drop i) (b.data.toList.drop i)=dw a.size b.size:=by
 have l1:=gB a;have l2:=gB b;by_cases h1:i<a.size
 ·have h2:i=b.size:=by omega
  have h3:i<a.data.toList.length:=by omega
  rw[km h3,kx (l:=b.data.toList) (by omega),Lib.compareBytes];unfold dw;rw[if_neg (by omega),if_pos (by omega)]
 ·rw[kx (l:=a.data.toList) (by omega)];by_cases h2:i<b.size
  ·have h3:i<b.data.toList.length:=by omega
   rw[km h3,Lib.compareBytes];unfold dw;rw[if_pos (by omega)]
  ·rw[kx (l:=b.data.toList) (by omega),Lib.compareBytes];unfold dw;rw[if_neg (by omega),if_neg (by omega)]
theorem strings01(a b:ByteArray)(ha:a.size≤maxLen):aL Tryz.prog 79 [.str a,.str b] fun r=>r = .int .i64 (cmpS a b):=by
 refine sPx Tryz.func79 rfl rfl ?_;simp -dsimp[Tryz.f79,aJ];refine aO (W_loopM 34 0x3fffffff0 (by simp[mB]<;>rfl) (σ:=Nat) (fun i=>i≤a.size∧i≤b.size∧Lib.compareBytes (a.data.toList.drop i) (b.data.toList.drop i)=cmpS a b) (fun i=>a.size-i) (fun i=>[(5,.int .i64 i)]) (fun _=>[]) 0 ⟨by omega,by omega,rfl⟩ (by simp) rfl (by simp) ?_);rintro i ⟨hi,hj,hx⟩ N Q hN hQ;by_cases h:i<a.size∧i<b.size
 ·obtain⟨h1,h2⟩:=h;rw[cmpS_drop a b i h1 h2]at hx;obtain⟨x1,x2⟩:=dx h1;obtain⟨y1,y2⟩:=dx h2;by_cases hq:az a i=az b i
  ·have e1:¬a[i]<b[i]:=fun h=>by have:=UInt8.lt_iff_toNat_lt.1 h;omega
   have e2:¬b[i]<a[i]:=fun h=>by have:=UInt8.lt_iff_toNat_lt.1 h;omega
   rw[if_neg e1,if_neg e2]at hx;refine wx ?_;simp -dsimp[h1,h2,x1,y1,x2,y2,hq];refine .inr ⟨aU (by kernel_rfl),?_⟩;simp -dsimp[aT i (by unfold maxLen at ha;omega)];refine hN (i+1) _ _ ⟨by omega,by omega,hx⟩ (by omega) ?_ ⟨[],?_⟩ ?_ ?_<;>simp[or_imp,forall_and,L1,ct]
  ·have hs:dw (az a i) (az b i)=cmpS a b:=by
    rw[←hx,←x2,←y2];unfold dw;by_cases e1:a[i]<b[i]
    ·have e1':(a[i].toNat:Int)<b[i].toNat:=by have:=UInt8.lt_iff_toNat_lt.1 e1;omega
     rw[if_pos e1,if_pos e1']
    ·have e1':¬((a[i].toNat:Int)<b[i].toNat):=fun h=>e1 (UInt8.lt_iff_toNat_lt.2 (by omega))
     have e2:b[i]<a[i]:=UInt8.lt_iff_toNat_lt.2 (by omega)
     have e2':(b[i].toNat:Int)<a[i].toNat:=by have:=UInt8.lt_iff_toNat_lt.1 e2;omega
     rw[if_neg e1,if_neg e1',if_pos e2,if_pos e2']
   have hw1:IntKind.i64.wrap (az a i)=az a i:=by rw[←x2];exact wrap64 (by omega) (by have:=UInt8.toNat_lt a[i];omega)
   have hw2:IntKind.i64.wrap (az b i)=az b i:=by rw[←y2];exact wrap64 (by omega) (by have:=UInt8.toNat_lt b[i];omega)
   have hc:=jO (az a i) (az b i);refine wx ?_;simp -dsimp[h1,h2,x1,y1,x2,y2,hq];refine .inr ⟨aU (by kernel_rfl),?_⟩;simp -dsimp[h1,h2,x1,y1,x2,y2,hw1,hw2];refine .inr ⟨aU (by kernel_rfl),?_⟩;refine bD _ (aQ (hc) (by simp)) ?_;simp -dsimp[];refine hQ _ _ _ ?_;simp -dsimp[];exact hs
 ·rw[cmpS_end a b i hi hj h]at hx;have hc:=jO a.size b.size;by_cases h1:i<a.size
  ·have h2:¬i<b.size:=fun h2=>h ⟨h1,h2⟩
   refine wx ?_;simp -dsimp[h1,h2];refine hQ _ _ _ ?_;simp -dsimp[];refine cPx (hc) (by simp) ?_;simp -dsimp[];exact hx
  ·refine wx ?_;simp -dsimp[h1];refine hQ _ _ _ ?_;simp -dsimp[];refine cPx (hc) (by simp) ?_;simp -dsimp[];exact hx
def cmpV(a b:Vl):Int:=if dw a.k b.k=0 then(if dw a.n b.n=0 then cmpS a.s b.s else dw a.n b.n) else dw a.k b.k
theorem compare01(a b:Vl)(ha:a.s.size≤maxLen):aL Tryz.prog 41 [aH a,aH b] fun r=>r = .int .i64 (cmpV a b):=by
 have hc1:=jO a.k b.k;have hc2:=jO a.n b.n;have hc3:=strings01 a.s b.s ha;unfold cmpV;by_cases h1:dw a.k b.k=0
 ·by_cases h2:dw a.n b.n=0
  ·rw[if_pos h1,if_pos h2];refine sPx Tryz.func41 rfl rfl ?_;simp -dsimp[Tryz.f41,aJ,aH];refine cPx (hc1) (by simp) ?_;simp -dsimp[h1];refine cPx (hc2) (by simp) ?_;simp -dsimp[h2];refine cPx (hc3) (by simp) ?_;simp -dsimp[]
  ·rw[if_pos h1,if_neg h2];refine sPx Tryz.func41 rfl rfl ?_;simp -dsimp[Tryz.f41,aJ,aH];refine cPx (hc1) (by simp) ?_;simp -dsimp[h1];refine cPx (hc2) (by simp) ?_;simp -dsimp[h2]
 ·rw[if_neg h1];refine sPx Tryz.func41 rfl rfl ?_;simp -dsimp[Tryz.f41,aJ,aH];refine cPx (hc1) (by simp) ?_;simp -dsimp[h1]
def dv:List Vl→List Vl→Int
 | [],[]=>0
 | [],_::_=>-1
 | _::_,[]=>1
 | x::xs,y::ys=>if cmpV x y=0 then dv xs ys else cmpV x y
theorem cmpVs_end(us bs:List Vl)(i:Nat)(h1:i≤us.length)(h2:i≤bs.length)(h:¬(i<us.length∧i<bs.length)):dv (us.drop i) (bs.drop i)=dw us.length bs.length:=by
 unfold dw;by_cases ha:i<us.length
 ·rw[km ha,kx (l:=bs) (by omega),dv,if_neg (by omega),if_pos (by omega)]
 ·rw[kx (l:=us) (by omega)];by_cases hb:i<bs.length
  ·rw[km hb,dv,if_pos (by omega)]
  ·rw[kx (l:=bs) (by omega),dv,if_neg (by omega),if_neg (by omega)]
theorem lists01(us bs:List Vl)(f g:Bool)(hl:us.length≤1000000)(hs:∀v∈us,v.s.size≤maxLen):aL Tryz.prog 68 [LV f us,LV g bs] fun r=>r = .int .i64 (dv us bs):=by
 obtain⟨E,hE⟩:∃E,E=dv us bs:=⟨_,rfl⟩;rw[←hE];refine sPx Tryz.func68 rfl rfl ?_;simp -dsimp[Tryz.f68,aJ,LV];refine aO (W_loopM 31 0x7ffffff0 (by simp[mB]<;>rfl) (σ:=Nat) (fun i=>i≤us.length∧i≤bs.length∧dv (us.drop i) (bs.drop i)=E) (fun i=>us.length-i) (fun i=>[(5,.int .i64 i)]) (fun _=>[]) 0 ⟨by omega,by omega,hE.symm⟩ (by simp) rfl (by simp) ?_);rintro i ⟨hi,hj,hx⟩ N Q hN hQ;by_cases h:i<us.length∧i<bs.length
 ·obtain⟨h1,h2⟩:=h;have hc:=compare01 us[i] bs[i] (hs _ (kZ h1));simp only[aH]at hc;rw[km h1,km h2,dv]at hx;by_cases h3:cmpV us[i] bs[i]=0
  ·rw[if_pos h3]at hx;refine wx ?_;simp -dsimp[h1,h2,aH];refine .inr ⟨aU (by kernel_rfl),?_⟩;refine bD _ (aQ (hc) (by simp)) ?_;simp -dsimp[h3,aT i (by omega)];refine hN (i+1) _ _ ⟨by omega,by omega,hx⟩ (by omega) ?_ ⟨[],?_⟩ ?_ ?_<;>simp[or_imp,forall_and,L1,ct]
  ·rw[if_neg h3]at hx;refine wx ?_;simp -dsimp[h1,h2,aH];refine .inr ⟨aU (by kernel_rfl),?_⟩;refine bD _ (aQ (hc) (by simp)) ?_;simp -dsimp[h3];refine hQ _ _ _ ?_;simp -dsimp[];exact hx
 ·rw[cmpVs_end us bs i hi hj h]at hx;have hc:=jO us.length bs.length;by_cases h1:i<us.length
  ·have h2:¬i<bs.length:=fun h2=>h ⟨h1,h2⟩
   refine wx ?_;simp -dsimp[h1,h2];refine hQ _ _ _ ?_;simp -dsimp[];refine cPx (hc) (by simp) ?_;simp -dsimp[];exact hx
  ·refine wx ?_;simp -dsimp[h1];refine hQ _ _ _ ?_;simp -dsimp[];refine cPx (hc) (by simp) ?_;simp -dsimp[];exact hx
theorem same01(us bs:List Vl)(f g:Bool)(hl:us.length≤1000000)(hs:∀v∈us,v.s.size≤maxLen):aL Tryz.prog 33 [LV f us,LV g bs] fun r=>r = .bool (dv us bs == 0):=by
 have hc:=lists01 us bs f g hl hs;refine sPx Tryz.func33 rfl rfl ?_;simp -dsimp[Tryz.f33,aJ];refine cPx (hc) (by simp) ?_;simp -dsimp[]
end
end Go.Proofs.YtpedcgdgjoblkaaGreatDoor
section
namespace Go.Proofs.YtpedcgdgjoblkaaGreatDoor
open Go Go.AM
end Go.Proofs.YtpedcgdgjoblkaaGreatDoor
end
section
namespace Go.Proofs.YtpedcgdgjoblkaaGreatDoor
open Go Go.AM
end Go.Proofs.YtpedcgdgjoblkaaGreatDoor
end
namespace Go.Proofs.YtpedcgdgjoblkaaGreatDoor
section
open Go Go.AM
structure Fd where
 l:Nat
 r:Nat
def encD(d:Fd):V:=.agg [.int .u8 (d.l:Int),.int .u8 (d.r:Int)]
def encF(d:Fd):V:=.agg [.int .u32 (d.l:Int),.int .u32 (d.r:Int)]
@[simp] theorem encD_pure (d:Fd):AM.Pure (encD d):=by simp[encD]
@[simp] theorem encF_pure (d:Fd):AM.Pure (encF d):=by simp[encF]
@[simp] theorem encF_oneV (d:Fd):cY (encF d)=true:=rfl
def LF(f:Bool)(ds:List Fd):V:=.lst 2 f (ds.map encF)
@[simp] theorem LF_pure (f:Bool) (ds:List Fd):AM.Pure (LF f ds):=by simp[LF]
structure Tm where
 v:Int
 a:Int
 x:Vl
structure At where
 l:Tm
 op:Int
 r:Tm
structure Dn where
 vars:Int
 atoms:List At
structure Cl where
 any:Bool
 x:Vl
structure Cfd where
 l:List Int
 r:Int
 p:List Cl
structure Od where
 l:List Int
 r:List Int
def encTm(t:Tm):V:=.agg [.int .i64 t.v,.int .i64 t.a,.int .i64 t.x.k,.int .i64 t.x.n,.str t.x.s]
def encAt(a:At):V:=.agg [.int .i64 a.l.v,.int .i64 a.l.a,.int .i64 a.l.x.k,.int .i64 a.l.x.n,.str a.l.x.s,.int .i64 a.op,.int .i64 a.r.v,.int .i64 a.r.a,.int .i64 a.r.x.k,.int .i64 a.r.x.n,.str a.r.x.s]
def encCl(c:Cl):V:=.agg [.bool c.any,.int .i64 c.x.k,.int .i64 c.x.n,.str c.x.s]
@[simp] theorem encTm_pure (t:Tm):AM.Pure (encTm t):=by simp[encTm]
@[simp] theorem encAt_pure (a:At):AM.Pure (encAt a):=by simp[encAt]
@[simp] theorem encCl_pure (c:Cl):AM.Pure (encCl c):=by simp[encCl]
@[simp] theorem encAt_oneV (a:At):cY (encAt a)=true:=rfl
@[simp] theorem encCl_oneV (c:Cl):cY (encCl c)=true:=rfl
def LA(f:Bool)(al:List At):V:=.lst 11 f (al.map encAt)
def LCl(f:Bool)(cs:List Cl):V:=.lst 4 f (cs.map encCl)
@[simp] theorem LA_pure (f:Bool) (al:List At):AM.Pure (LA f al):=by simp[LA]
@[simp] theorem LCl_pure (f:Bool) (cs:List Cl):AM.Pure (LCl f cs):=by simp[LCl]
def encDn(f:Bool)(d:Dn):V:=.agg [.int .i64 d.vars,LA f d.atoms]
def encCfd(f g:Bool)(c:Cfd):V:=.agg [L1 f c.l,.int .i64 c.r,LCl g c.p]
def encOd(f g:Bool)(d:Od):V:=.agg [L1 f d.l,L1 g d.r]
@[simp] theorem encDn_pure (f:Bool) (d:Dn):AM.Pure (encDn f d):=by simp[encDn]
@[simp] theorem encCfd_pure (f g:Bool) (c:Cfd):AM.Pure (encCfd f g c):=by simp[encCfd]
@[simp] theorem encOd_pure (f g:Bool) (d:Od):AM.Pure (encOd f g d):=by simp[encOd]
structure Cn where
 name:ByteArray
 table:ByteArray
 kind:Int
 fd:Fd
 m1:Int
 m2:Int
 i1:ByteArray
 i2:List Int
 i3:ByteArray
 i4:List Int
 cfd:Cfd
 od:Od
 dn:Dn
def encCn(c:Cn):V:=.agg [.str c.name,.str c.table,.int .i64 c.kind,.int .u32 (c.fd.l:Int),.int .u32 (c.fd.r:Int),.int .u32 c.m1,.int .u32 c.m2,.str c.i1,L1 false c.i2,.str c.i3,L1 false c.i4,L1 false c.cfd.l,.int .i64 c.cfd.r,LCl false c.cfd.p,L1 false c.od.l,L1 false c.od.r,.int .i64 c.dn.vars,LA false c.dn.atoms]
def LCn(f:Bool)(cs:List Cn):V:=.lst 18 f (cs.map encCn)
@[simp] theorem encCn_pure (c:Cn):AM.Pure (encCn c):=by simp[encCn]
@[simp] theorem LCn_pure (f:Bool) (cs:List Cn):AM.Pure (LCn f cs):=by simp[LCn]
@[simp] theorem encCn_oneV (c:Cn):cY (encCn c)=true:=by simp[encCn,cY,L1,LCl,LA,V.one]
structure Snt where
 lv:Int
 lc:Int
 op:Int
 rv:Int
 rc:Int
structure Rul where
 k:Int
 fd:Fd
 cl:Int
 cr:Int
 cs:List Int
 xs:List Int
 ys:List Int
 nv:Int
 sn:List Snt
def encSnt(s:Snt):V:=.agg [.int .u8 s.lv,.int .u8 s.lc,.int .u8 s.op,.int .u8 s.rv,.int .u8 s.rc]
def encRul(r:Rul):V:=.agg [.int .u8 r.k,.int .u8 (r.fd.l:Int),.int .u8 (r.fd.r:Int),.int .u8 r.cl,.int .u8 r.cr,LU r.cs,LU r.xs,LU r.ys,.int .u8 r.nv,.lst 5 false (r.sn.map encSnt)]
@[simp] theorem encSnt_pure (s:Snt):AM.Pure (encSnt s):=by simp[encSnt]
@[simp] theorem encRul_pure (s:Rul):AM.Pure (encRul s):=by simp[encRul,LU,encU]
@[simp] theorem encRul_oneV (s:Rul):cY (encRul s)=true:=by simp[encRul,cY,LU,V.one]
structure SntOk (s:Snt):Prop where
 lv:0≤s.lv∧s.lv<256
 lc:0≤s.lc∧s.lc<256
 op:0≤s.op∧s.op<256
 rv:0≤s.rv∧s.rv<256
 rc:0≤s.rc∧s.rc<256
structure RulOk (r:Rul):Prop where
 k:0≤r.k∧r.k<256
 fd:r.fd.l<256∧r.fd.r<256
 cl:0≤r.cl∧r.cl<256
 cr:0≤r.cr∧r.cr<256
 cs:r.cs.length≤9223372036854775807
 csv:∀c∈r.cs,0≤c∧c<256
 xs:r.xs.length≤9223372036854775807
 xsv:∀c∈r.xs,0≤c∧c<256
 ys:r.ys.length≤9223372036854775807
 ysv:∀c∈r.ys,0≤c∧c<256
 nv:0≤r.nv∧r.nv<256
 sn:r.sn.length≤1048576
 snv:∀s∈r.sn,SntOk s
theorem ofV_val(m:Int):aY (ofV m)=true:=by
 unfold ofV
 repeat' split
 all_goals kernel_rfl
def gJ(x:Rcp):Tb:=wideT x (x.a.tmod 6).toNat
theorem jS{n:Nat} : ∀{rs:List Rw} {last:Int},(∀r∈rs,last<r.id)→(∀r∈rs,r.vals.length=n)→(∀r∈rs,∀v∈r.vals,aY v=true)→rs.Pairwise (fun a b=>a.id<b.id)→bR n last rs=0
 | [],_,_,_,_,_=>rfl
 | r::rs,last,h1,h2,h3,h4=>by
  have a1:=h1 r lP;have a2:=h2 r lP;have a3:r.vals.all aY=true:=List.all_eq_true.2 (h3 r lP);rw[List.pairwise_cons]at h4;rw[bR,if_neg (by omega),if_neg (by omega),a3,if_pos rfl];exact jS h4.1 (fun r' hr=>h2 r' (lX _ hr)) (fun r' hr=>h3 r' (lX _ hr)) h4.2
theorem wideT_rows{x:Rcp}{n:Nat}(hg:0≤x.gap):(∀r∈(wideT x n).rows,0<r.id∧r.vals.length=n∧∀v∈r.vals,∃m,v=ofV m)∧(wideT x n).rows.Pairwise fun a b=>a.id<b.id:=by
 have h0:=nE 3 hg;constructor
 ·intro r hr;obtain⟨i,hi,rfl⟩:=List.mem_map.1 hr;refine⟨?_,wVals_len _ _,fun v hv=>?_⟩
  ·show 0<1+(i:Int)*(1+x.gap.tmod 3);have:=Int.mul_nonneg (show(0:Int)≤i by omega) (show 0≤1+x.gap.tmod 3 by omega);omega
  ·obtain⟨j,_,rfl⟩:=List.mem_map.1 hv;exact⟨_,rfl⟩
 ·show((ka x.rows.length).map _).Pairwise _;rw[List.pairwise_map];refine List.Pairwise.imp ?_ List.pairwise_lt_range;intro i j hij;show 1+(i:Int)*(1+x.gap.tmod 3)<1+(j:Int)*(1+x.gap.tmod 3);have:=Int.mul_lt_mul_of_pos_right (show(i:Int)<j by omega) (show 0<1+x.gap.tmod 3 by omega);omega
theorem names_few:∀n,n<6→dG (L8.take n)=true
 | 0,_=>by kernel_rfl
 | 1,_=>by kernel_rfl
 | 2,_=>by kernel_rfl
 | 3,_=>by kernel_rfl
 | 4,_=>by kernel_rfl
 | 5,_=>by kernel_rfl
 | n+6,h=>by omega
theorem ofV_sz(m:Int):(ofV m).s.size≤maxLen:=by
 unfold ofV
 repeat' split
 all_goals decide
structure RcpOk (x:Rcp):Prop where
 a:0≤x.a∧x.a<256
 gap:0≤x.gap
 rows:x.rows.length≤6
 len:∀r∈x.rows,r.length≤9223372036854775807
theorem tbOf_n{x:Rcp}(h:0≤x.a):(x.a.tmod 6).toNat<6∧(((x.a.tmod 6).toNat:Nat):Int)=x.a.tmod 6:=by
 have h1:=nE 6 h;have h2:=Int.tmod_lt_of_pos x.a (show(0:Int)<6 by omega);omega
structure TbS (t:Tb):Prop where
 ok:TbOk t
 sz:∀r∈t.rows,∀v∈r.vals,v.s.size≤maxLen
 few:t.rows.length≤8
theorem tbOf_attrs{x:Rcp}(h:0≤x.a):(gJ x).attrs.length=(x.a.tmod 6).toNat:=by
 obtain⟨h1,_⟩:=tbOf_n h;show(L8.take (x.a.tmod 6).toNat).length=_;rw[lC];have:L8.length=8:=rfl;omega
theorem tbOf_rows(x:Rcp):(gJ x).rows.length=x.rows.length:=wRows_len _ _ _
theorem tbOf_ok{x:Rcp}(h:RcpOk x):TbS (gJ x)∧aF (gJ x)=0:=by
 obtain⟨h1,_⟩:=tbOf_n h.a.1;have ha:=tbOf_attrs h.a.1;have hr:=tbOf_rows x;have h6:=h.rows;obtain⟨w1,w2⟩:=wideT_rows (x:=x) (n:=(x.a.tmod 6).toNat) h.gap
 have ok:TbOk (gJ x):=⟨(show(⟨#[114]⟩:ByteArray).size≤maxLen by decide),by omega,by omega,fun s hs=>by
  have hs:=lL (show s∈L8.take (x.a.tmod 6).toNat from hs)
  have:∀s∈L8,s.size≤maxLen:=by
   intro s hs;simp only[L8,kh,kf,or_false]at hs
   rcases hs with rfl | rfl | rfl | rfl | rfl | rfl | rfl | rfl<;>decide
  exact this s hs⟩
 refine⟨⟨ok,fun r hr v hv=>by obtain⟨m,rfl⟩:=(w1 r hr).2.2 v hv;exact ofV_sz m,by omega⟩,?_⟩;unfold aF;rw[show bG (gJ x).name=true by kernel_rfl,if_pos rfl,if_neg (by omega),show dG (gJ x).attrs=true from names_few _ h1,if_pos rfl];exact jS (fun r hr=>(w1 r hr).1) (fun r hr=>by rw[ha];exact(w1 r hr).2.1) (fun r hr v hv=>by obtain⟨m,rfl⟩:=(w1 r hr).2.2 v hv;exact ofV_val m) w2
theorem cap32l(n:Nat)(h:n≤1000000000):n≤9223372036854775807∧n*32≤140737488355328:=by omega
end
end Go.Proofs.YtpedcgdgjoblkaaGreatDoor
section
namespace Go.Proofs.YtpedcgdgjoblkaaGreatDoor
open Go Go.AM
end Go.Proofs.YtpedcgdgjoblkaaGreatDoor
end
namespace Go.Proofs.YtpedcgdgjoblkaaGreatDoor
section
open Go Go.AM
def cG(a b:ByteArray):Bool:=a.toList == b.toList
theorem eqSt_self(a:ByteArray):cG a a=true:=by simp[cG]
def fY(a b:List ByteArray):Bool:=decide (a.length=b.length)&&(ka a.length).all fun i=>cG (sAt a i) (sAt b i)
theorem eqSs_self(a:List ByteArray):fY a a=true:=by simp[fY,eqSt_self]
theorem strings03(a b:List ByteArray)(f g:Bool)(hl:a.length≤1000000):aL Tryz.prog 75 [LS f a,LS g b] fun r=>r = .bool (fY a b):=by
 unfold fY;by_cases h0:a.length=b.length
 ·rw[decide_eq_true h0,kw]
  obtain⟨E,hE⟩:∃E,E=(ka a.length).all fun i=>cG (sAt a i) (sAt b i):=⟨_,rfl⟩
  rw[←hE];refine sPx Tryz.func75 rfl rfl ?_;simp -dsimp[Tryz.f75,aJ,LS,h0];refine aO (W_loopM 26 0x3fff830 (by simp[mB]<;>rfl) (σ:=Nat) (fun i=>i≤a.length∧(ka i).all (fun i=>cG (sAt a i) (sAt b i))=true) (fun i=>a.length-i) (fun i=>[(5,.int .i64 i)]) (fun _=>[]) 0 ⟨by omega,rfl⟩ (by simp) rfl (by simp) ?_);rintro i ⟨hi,hall⟩ N Q hN hQ;by_cases hb:i<a.length
  ·have hb2:i<b.length:=by omega
   have ha1:sAt a i=a[i]:=by simp[sAt,hb]
   have ha2:sAt b i=b[i]:=by simp[sAt,hb2]
   cases hq:(a[i].toList == b[i].toList) with
   | true =>
    refine wx ?_;simp -dsimp[hb,hb2,hq];refine .inr ⟨aU (by kernel_rfl),?_⟩;simp -dsimp[aT i (by omega)];refine hN (i+1) _ _ ⟨by omega,bY hall (by unfold cG;rw[ha1,ha2,hq])⟩ (by omega) (by simp) ⟨[],rfl⟩ (by simp) (by simp)
   | false =>
    have hno:(ka a.length).all (fun i=>cG (sAt a i) (sAt b i))=false:=by
     cases hh:(ka a.length).all (fun i=>cG (sAt a i) (sAt b i))
     ·rfl
     ·have:=List.all_eq_true.1 hh i (by simpa using hb);rw[cG,ha1,ha2,hq]at this;cases this
    rw[hno]at hE;refine wx ?_;simp -dsimp[hb,hb2,hq];refine .inr ⟨aU (by kernel_rfl),?_⟩;refine hQ _ _ _ ?_;simp -dsimp[];exact hE
  ·obtain rfl:i=a.length:=by omega
   rw[hall]at hE;refine wx ?_;simp -dsimp[hb];refine hQ _ _ _ ?_;simp -dsimp[];exact hE
 ·rw[decide_eq_false h0,ky];refine sPx Tryz.func75 rfl rfl ?_;simp -dsimp[Tryz.f75,aJ,LS,show ¬((a.length:Int)=b.length) by omega]
def im(a b:Rw):Bool:=decide (a.id=b.id)&&dv a.vals b.vals == 0
theorem cmpI_self(x:Int):dw x x=0:=by unfold dw;simp
theorem cmpB_self:∀a:List UInt8,Lib.compareBytes a a=0
 | []=>by simp[Lib.compareBytes]
 | x::xs=>by
  rw[Lib.compareBytes,if_neg (UInt8.lt_irrefl _),if_neg (UInt8.lt_irrefl _)];exact cmpB_self xs
theorem cmpV_self(v:Vl):cmpV v v=0:=by
 unfold cmpV;rw[if_pos (cmpI_self _),if_pos (cmpI_self _)];exact cmpB_self _
theorem ie(a b:Rw)(hl:a.vals.length≤1000000)(hs:∀v∈a.vals,v.s.size≤maxLen):aL Tryz.prog 76 [aC a,aC b] fun r=>r = .bool (im a b):=by
 have c1:=same01 a.vals b.vals false false hl hs;simp only[LV]at c1;unfold im;by_cases h:a.id=b.id
 ·rw[decide_eq_true h,kw];refine sPx Tryz.func76 rfl rfl ?_;simp -dsimp[Tryz.f76,aJ,aC,LV,h];refine cPx (c1) (by simp) ?_;simp -dsimp[]
 ·rw[decide_eq_false h,ky];refine sPx Tryz.func76 rfl rfl ?_;simp -dsimp[Tryz.f76,aJ,aC,LV,h]
def rwG(rs:List Rw)(i:Nat):Rw:=rs.getD i ⟨0,[]⟩
def eqRs(a b:List Rw):Bool:=(ka a.length).all fun i=>im (rwG a i) (rwG b i)
def eqTb(t u:Tb):Bool:=cG t.name u.name&&(fY t.attrs u.attrs&&(decide (t.rows.length=u.rows.length)&&eqRs t.rows u.rows))
theorem equal03(t u:Tb)(f g f2 g2:Bool)(ha:t.attrs.length≤1000000)(hr:t.rows.length≤1000000)(hl:∀r∈t.rows,r.vals.length≤1000000∧∀v∈r.vals,v.s.size≤maxLen):aL Tryz.prog 39 [aD f g t,aD f2 g2 u] fun r=>r = .bool (eqTb t u):=by
 have c1:=strings03 t.attrs u.attrs f f2 ha;simp only[LS]at c1;unfold eqTb
 cases h1:(t.name.toList == u.name.toList) with
 | false =>
  rw[cG,h1,ky];refine sPx Tryz.func39 rfl rfl ?_;simp -dsimp[Tryz.f39,aJ,aD,LS,LR,h1]
 | true =>
  rw[cG,h1,kw]
  cases h2:fY t.attrs u.attrs with
  | false =>
   rw[h2]at c1;rw[ky];refine sPx Tryz.func39 rfl rfl ?_;simp -dsimp[Tryz.f39,aJ,aD,LS,LR,h1];refine cPx (c1) (by simp) ?_;simp -dsimp[]
  | true =>
   rw[h2]at c1;rw[kw];by_cases h3:t.rows.length=u.rows.length
   ·rw[decide_eq_true h3,kw];unfold eqRs
    obtain⟨E,hE⟩:∃E,E=(ka t.rows.length).all fun i=>im (rwG t.rows i) (rwG u.rows i):=⟨_,rfl⟩
    rw[←hE];refine sPx Tryz.func39 rfl rfl ?_;simp -dsimp[Tryz.f39,aJ,aD,LS,LR,h1];refine cPx (c1) (by simp) ?_;simp -dsimp[h3];refine aO (W_loopM 47 0x7ffff0000030 (by simp[mB]<;>rfl) (σ:=Nat) (fun i=>i≤t.rows.length∧(ka i).all (fun i=>im (rwG t.rows i) (rwG u.rows i))=true) (fun i=>t.rows.length-i) (fun i=>[(5,.int .i64 i)]) (fun _=>[B.cells [.str t.name,.lst 1 f (t.attrs.map V.str),.lst 2 g (t.rows.map aC)],B.cells [.str u.name,.lst 1 f2 (u.attrs.map V.str),.lst 2 g2 (u.rows.map aC)]]) 0 ⟨by omega,rfl⟩ (by simp) (by simp) (by simp) ?_);rintro i ⟨hi,hall⟩ N Q hN hQ;by_cases hb:i<t.rows.length
    ·have hb2:i<u.rows.length:=by omega
     have ha1:rwG t.rows i=t.rows[i]:=by simp[rwG,hb]
     have ha2:rwG u.rows i=u.rows[i]:=by simp[rwG,hb2]
     obtain⟨hx1,hx2⟩:=hl t.rows[i] (kZ hb);have c2:=ie t.rows[i] u.rows[i] hx1 hx2;obtain⟨x,hx⟩:∃x,x=t.rows[i]:=⟨_,rfl⟩;obtain⟨y,hy⟩:∃y,y=u.rows[i]:=⟨_,rfl⟩;rw[←hx]at ha1 c2;rw[←hy]at ha2 c2;have hx':=hx.symm;have hy':=hy.symm;simp only[aC,LV]at c2
     cases hq:im x y with
     | true =>
      rw[hq]at c2;refine wx ?_;simp -dsimp[hb,hb2,hx',hy',aC,LV];refine .inr ⟨aU (by kernel_rfl),?_⟩;refine bD _ (aQ (c2) (by simp)) ?_;simp -dsimp[aT i (by omega)];refine hN (i+1) _ _ ⟨by omega,bY hall (by rw[ha1,ha2,hq])⟩ (by omega) (by simp) ⟨[],by simp⟩ (by simp) (by simp)
     | false =>
      rw[hq]at c2
      have hno:(ka t.rows.length).all (fun i=>im (rwG t.rows i) (rwG u.rows i))=false:=by
       cases hh:(ka t.rows.length).all (fun i=>im (rwG t.rows i) (rwG u.rows i))
       ·rfl
       ·have:=List.all_eq_true.1 hh i (by simpa using hb);rw[ha1,ha2,hq]at this;cases this
      rw[hno]at hE;refine wx ?_;simp -dsimp[hb,hb2,hx',hy',aC,LV];refine .inr ⟨aU (by kernel_rfl),?_⟩;refine bD _ (aQ (c2) (by simp)) ?_;simp -dsimp[];refine hQ _ _ _ ?_;simp -dsimp[];exact hE
    ·obtain rfl:i=t.rows.length:=by omega
     rw[hall]at hE;refine wx ?_;simp -dsimp[hb];refine hQ _ _ _ ?_;simp -dsimp[];exact hE
   ·rw[decide_eq_false h3,ky];refine sPx Tryz.func39 rfl rfl ?_;simp -dsimp[Tryz.f39,aJ,aD,LS,LR,h1];refine cPx (c1) (by simp) ?_;simp -dsimp[show ¬((t.rows.length:Int)=u.rows.length) by omega]
theorem fu:∀vs:List Vl,dv vs vs=0
 | []=>rfl
 | v::vs=>by
  simp only[dv,cmpV_self];simpa using fu vs
theorem eqRs_self(a:List Rw):eqRs a a=true:=by simp[eqRs,im,fu]
theorem iJ(t:Tb):eqTb t t=true:=by simp[eqTb,eqSt_self,eqSs_self,eqRs_self]
@[simp ↓ high] theorem rbB_rws (n e z:Nat) (l:List Rw) (fz:Bool):rbB n (.buf e z (l.map aC) fz)↔True:=by
 refine⟨fun _=>trivial,fun _ x hx c hc=>?_⟩;obtain⟨r,_,rfl⟩:=List.mem_map.1 hx;simp[aC,LV,V.cells]at hc
 rcases hc with rfl | rfl<;>simp
@[simp ↓ high] theorem rbB_vls (n e z:Nat) (l:List Vl) (fz:Bool):rbB n (.buf e z (l.map aH) fz)↔True:=by
 refine⟨fun _=>trivial,fun _ x hx c hc=>?_⟩;obtain⟨r,_,rfl⟩:=List.mem_map.1 hx;simp[aH,V.cells]at hc
 rcases hc with rfl | rfl | rfl<;>simp
theorem cmpI_eq(x y:Int):dw x y=0↔x=y:=by
 unfold dw;split
 ·simp;omega
 ·split<;>simp<;>omega
theorem cmpB_zero:∀(a b:List UInt8),Lib.compareBytes a b=0↔a=b
 | [],[]=>by simp[Lib.compareBytes]
 | [],_::_=>by simp[Lib.compareBytes]
 | _::_,[]=>by simp[Lib.compareBytes]
 | a::xs,b::bs=>by
  rw[Lib.compareBytes,List.cons.injEq];split
  ·rename_i h;constructor
   ·intro h2;cases h2
   ·rintro⟨rfl,_⟩;exact absurd h (UInt8.lt_irrefl _)
  ·split
   ·rename_i h;constructor
    ·intro h2;cases h2
    ·rintro⟨rfl,_⟩;exact absurd h (UInt8.lt_irrefl _)
   ·rename_i h1 h2;rw[cmpB_zero xs bs];constructor
    ·intro h;exact⟨UInt8.le_antisymm (UInt8.not_lt.1 h2) (UInt8.not_lt.1 h1),h⟩
    ·exact fun h=>h.2
theorem cmpS_zero(a b:ByteArray):cmpS a b=0↔a=b:=by
 unfold cmpS;rw[cmpB_zero];constructor
 ·intro h;cases a;cases b;simp only[ByteArray.mk.injEq];exact Array.ext' h
 ·rintro rfl;rfl
theorem cmpV_zero(a b:Vl):cmpV a b=0↔a=b:=by
 unfold cmpV;have h1:=cmpI_eq a.k b.k;have h2:=cmpI_eq a.n b.n;have h3:=cmpS_zero a.s b.s
 have he:a=b↔a.k=b.k∧a.n=b.n∧a.s=b.s:=by cases a;cases b;simp
 rw[he];split
 ·rename_i g1;split
  ·rename_i g2;rw[h3];exact⟨fun h=>⟨h1.1 g1,h2.1 g2,h⟩,fun h=>h.2.2⟩
  ·rename_i g2;exact⟨fun h=>absurd h g2,fun h=>absurd (h2.2 h.2.1) g2⟩
 ·rename_i g1;exact⟨fun h=>absurd h g1,fun h=>absurd (h1.2 h.1) g1⟩
instance decVl:DecidableEq Vl:=fun a b =>
 if h:a.k=b.k∧a.n=b.n∧a.s=b.s then .isTrue (by
  obtain⟨k,n,s⟩:=a;obtain⟨k',n',s'⟩:=b;obtain⟨rfl,rfl,rfl⟩:=h
  rfl) else .isFalse (fun e=>h (by subst e;exact⟨rfl,rfl,rfl⟩))
theorem ba_beqV(a b:ByteArray):(a == b)=decide (a=b):=by
 rw[mc,decide_eq_true_iff];cases a;cases b;rename_i x y;rw[ByteArray.mk.injEq,show((ByteArray.mk x == ByteArray.mk y)=(x == y)) from rfl];exact beq_iff_eq
theorem int_beqV(a b:Int):(a == b)=decide (a=b):=by
 rw[mc,decide_eq_true_iff];exact beq_iff_eq
theorem eqVl9(H:List B)(a b:Vl):iK T H 43 (.agg [.int .i64 a.k,.int .i64 a.n,.str a.s]) (.agg [.int .i64 b.k,.int .i64 b.n,.str b.s])=some (decide (a=b)):=by
 have h1:∀x y:Int,eqD T 9999 3 (.int .i64 x) (.int .i64 y)=some (decide (x=y)):=fun x y=>by simp[eqD,int_beqV]
 have h2:∀x y:Int,eqD T 9999 2 (.int .i64 x) (.int .i64 y)=some (decide (x=y)):=fun x y=>by simp[eqD,int_beqV]
 have h3:∀x y:ByteArray,eqD T 9999 9 (.str x) (.str y)=some (decide (x=y)):=fun x y=>by simp[eqD,ba_beqV]
 simp only[iK];rw[show(10000:Nat)=9999+1 from rfl,eqD];simp only[T_43];simp only[if_true,eqFs,fq,T_3,T_2,T_9,br,mC,lR,ki,if_false,h1,h2,h3];obtain⟨k,n,s⟩:=a;obtain⟨k',n',s'⟩:=b;by_cases e1:k=k'<;>by_cases e2:n=n'<;>by_cases e3:s=s'<;>simp[e1,e2,e3]
theorem eqSt_beq(a b:ByteArray):cG a b=decide (a=b):=by
 unfold cG;rw[mc,beq_iff_eq,decide_eq_true_iff];constructor
 ·intro h
  have h2:a.data.toList=b.data.toList:=by simpa[ByteArray.toList_eq] using h
  cases a;cases b;simp only[ByteArray.mk.injEq];exact Array.toList_inj.1 h2
 ·rintro rfl;rfl
theorem eqSt_eq{a b:ByteArray}(h:(a.toList == b.toList)=true):a=b:=by
 have:=eqSt_beq a b;unfold cG at this;rw[h]at this;simpa using this.symm
end
end Go.Proofs.YtpedcgdgjoblkaaGreatDoor
namespace Go.Proofs.YtpedcgdgjoblkaaGreatDoor
section
open Go Go.AM Go.RowKit
theorem du{f:FuncId}{args:List V}{e z:Nat}(hE:AM.Enters Tryz.prog f)(h:∀(F:Nat→Prop) (w:World) (vals:Array Value),vals.size=args.length→(∀(i:Nat) a u,args[i]?=some a→vals[i]?=some u→Rel (AM.base F w) a u)→
  Calls Tryz.prog f vals w fun e' w'=>∃v,e' = .returned v∧Below w.heap.size w w'∧(v = .slice none 0 0∨∃g c cur,v = .slice (some ⟨g,0,none⟩) 0 c∧w.heap.size≤g∧w'.heap[g]?=some (.cells cur e (0,0))∧c≤maxLen∧cur.size=c*z)):dX Tryz.prog f args fun e' z' ys=>e'=e∧z'=z∧ys=[]:=by
 refine⟨hE,fun F w vals hZ hF hsz hrel=>(h F w vals hsz hrel).mono fun e' w' ⟨v,he,hb,hv⟩=>?_⟩
 rcases hv with hv | ⟨g,c,cur,hv,hg,hc,hm,hs⟩
 ·have hF':∀b,F b→b<w'.heap.size:=fun b hb'=>kp (hF b hb') hb.size
  obtain⟨p1,_⟩:=push0 (AM.base_good hF') (w:=w') 0 e z false rfl rfl rfl (kY _) (fun _ _=>rfl);refine⟨v,e,z,[],none,0,0,he,hv,fun h=>absurd rfl h,by simp,fun h=>absurd rfl h,?_,hb,rfl,rfl,rfl⟩;refine⟨hF',fun k hk=>absurd (hk.2 e z [] false (by have:=hk.1;simp at this;subst this;rfl)) (by simp),fun j k hj hk _=>by have:=hj.1;have:=hk.1;simp at *;omega,fun k bl hk=>?_⟩
  have hk0:k=0:=by have:=aB hk;simp at this;omega
  subst hk0;simp at hk;subst hk;exact⟨#[],fun h=>absurd rfl h,by simp,by simp,by simp[maxLen],(fun x hx=>by cases hx),(fun i x j c u hx=>by simp at hx)⟩
 ·have hF':∀b,F b→b<w'.heap.size:=fun b hb'=>kp (hF b hb') hb.size
  refine⟨v,e,z,[],some ⟨g,0,none⟩,g,c,he,hv,fun _=>rfl,by simp,fun _=>hg,?_,hb,rfl,rfl,rfl⟩;refine⟨hF',fun k hk=>⟨(Array.getElem?_eq_some_iff.1 hc).1,fun hf=>by have:=hF g hf;omega⟩,fun j k hj hk _=>by have:=hj.1;have:=hk.1;simp at *;omega,fun k bl hk=>?_⟩
  have hk0:k=0:=by have:=aB hk;simp at this;omega
  subst hk0;simp at hk;subst hk;exact⟨cur,fun _=>hc,by simpa using hs,by simp,hm,(fun x hx=>by cases hx),(fun i x j c u hx=>by simp at hx)⟩
theorem cap32c(n:Nat)(h:n≤1000000):n≤9223372036854775806∧(n+1)*32≤140737488355328:=by omega
theorem infoD_V:(Tryz.prog.info? 43).map (fun i=>(i.zero,i.size,i.bytes))=some (some (.agg #[.int .i64 0,.int .i64 0,.string ⟨#[]⟩]),3,32):=by kernel_rfl
theorem cloneE_V(A:Option Addr)(cap:Nat)(w:World):
  Calls Tryz.prog 89 #[.slice A 0 cap] w fun e w'=>∃v,e = .returned v∧w'.ownsRow w.heap.size 43 3 v 0 []∧Below w.heap.size w w':=by
 have hnil:=fun W A n c=>Lib.run_eql_slice_nil (P:=Tryz.prog) W 39 43 A n c 0 0 Tryz.underlying39
 cases A with
 | none =>
  go_enter Tryz.func89,Tryz.ntmps89
  go_wp2
  go_ret
  exact⟨_,rfl,World.ownsRow_nil _ _ _ _,Below.refl _ _⟩
 | some ad =>
  obtain⟨i0,hi,hz0,hz1,hz2⟩:=info_parts infoD_V;have hown:(w.alloc (.cells #[] 43)).ownsRow w.heap.size 43 3 (.slice (some ⟨w.heap.size,0,none⟩) 0 0) 0 []:=World.ownsRow_lit w #[] 0 (kY _) (by simp[maxLen]) (by simp)
  have hnews:∀j u,([]:List Value)[j]?=some u→(w.alloc (.cells #[] 43)).cell? (ad.add j)=some u:=by
   intro j u hu;simp at hu
  have hone:∀u∈([]:List Value),u.oneCell'=true:=by intro u hu;cases hu
  have h63:0+0≤maxLen:=by simp[maxLen]
  have hby:(0+0)*32≤140737488355328:=by omega
  have hlen:([]:List Value).length=0*3:=by simp
  have Hi:=Lib.hid (show Tryz.prog.info? 43=some i0∧i0.zero=some _∧i0.size=3∧i0.bytes=32 from⟨hi,hz0,hz1,hz2⟩);have Hw:=Lib.hid (And.intro hown (And.intro hnews (And.intro hone (And.intro h63 (And.intro hby hlen)))));clear hnews hone hown hi hz0 hz1 hz2 h63 hby hlen
  go_enter Tryz.func89,Tryz.ntmps89
  go_wp2_with (at_builtin;refine wpList_append_own _ rfl _ _ 39 rfl w.heap.size 43 i0 _ 3 32 Tryz.underlying39 Hi.out.1 Hi.out.2.1 Hi.out.2.2.1 Hi.out.2.2.2 rfl (by omega) (.slice (some ⟨w.heap.size,0,none⟩) 0 0) 0 [] rfl Hw.out.1 ad 0 cap [] rfl Hw.out.2.2.2.2.2 Hw.out.2.1 Hw.out.2.2.1 Hw.out.2.2.2.1 Hw.out.2.2.2.2.1 (by simp) ?_;intro v1 w1 ho hg hn;have Ho:=Lib.hid ho;have Hg:=Lib.hid hg;have Hn:=Lib.hid hn;clear ho hg hn)
  go_ret
  exact⟨v1,rfl,by have:=Ho.out;simpa using this,((Below.refl _ _).alloc (kY _) _).grown Hg.out (by simp) (by simp[Value.ownBlock])⟩
theorem cloneN_V:∀(f:Bool),aL Tryz.prog 89 [.lst 3 f []] fun r=>r = .lst 3 false []:=fun f=>by
 have hO:dX Tryz.prog 89 [.lst 3 f []] fun e z ys=>e=43∧z=3∧ys=[]:=du ⟨Tryz.f89,Tryz.func89,rfl,rfl⟩ (fun F w vals hsz hrel=>by
  obtain⟨u0,rfl⟩:∃u0,vals = #[u0]:=by
   obtain⟨l⟩:=vals
   match l,hsz with
   | [a],_=>exact⟨a,rfl⟩
  have r0:=hrel 0 _ u0 rfl rfl;cases r0
  refine(cloneE_V _ _ _).mono fun e' w' ⟨v,he,hown,hb⟩=>⟨v,he,hb,?_⟩
  obtain⟨_,⟨hv,_⟩ | ⟨g,c,cur,hv,hg,hc,hn,hm,hs,_⟩⟩:=hown
  ·exact .inl hv
  ·exact .inr ⟨g,c,cur,hv,hg,hc,hm,hs⟩)
 refine⟨hO.1,fun F w vals hZ hF hsz hrel=>((eP hO).2 F w vals hZ hF hsz hrel).mono fun e w' ⟨u,r,h1,h2,h3,h4,e',z,ys,h5,h6,h7,h8⟩=>?_⟩;subst h6;subst h7;subst h8;exact⟨u,r,h1,h2,h3,h4,h5⟩
theorem clone_V(l:List Vl)(f:Bool)(hl:l.length≤1000000):aL Tryz.prog 89 [LV f l] fun r=>r=LV false l:=by
 cases l with
 | nil=>exact cloneN_V f
 | cons x xs =>
  have hl':xs.length≤1000000:=by simp only[lJ]at hl;omega
  refine sPx Tryz.func89 rfl rfl ?_;simp -dsimp[Tryz.f89,aJ,LV,iK,cap32c xs.length (by omega),aH];exact fS rfl (by simp) (by simp)
theorem cloneO0_V(f:Bool):dX Tryz.prog 89 [.lst 3 f []] fun e z ys=>e=43∧z=3∧ys=[]:=du ⟨Tryz.f89,Tryz.func89,rfl,rfl⟩ (fun F w vals hsz hrel=>by
  obtain⟨u0,rfl⟩:∃u0,vals = #[u0]:=by
   obtain⟨l⟩:=vals
   match l,hsz with
   | [a],_=>exact⟨a,rfl⟩
  have r0:=hrel 0 _ u0 rfl rfl;cases r0
  refine(cloneE_V _ _ _).mono fun e' w' ⟨v,he,hown,hb⟩=>⟨v,he,hb,?_⟩
  obtain⟨_,⟨hv,_⟩ | ⟨g,c,cur,hv,hg,hc,hn,hm,hs,_⟩⟩:=hown
  ·exact .inl hv
  ·exact .inr ⟨g,c,cur,hv,hg,hc,hm,hs⟩)
theorem cloneO_V(l:List Vl)(f:Bool)(hl:l.length≤1000000):dX Tryz.prog 89 [.lst 3 f (l.map aH)] fun e z ys=>e=43∧z=3∧ys=l.map aH:=by
 cases l with
 | nil=>exact cloneO0_V f
 | cons x xs =>
  have hl':xs.length≤1000000:=by simp only[lJ]at hl;omega
  refine sOx Tryz.func89 rfl rfl ?_;simp -dsimp[Tryz.f89,aJ,iK,cap32c xs.length (by omega),aH];exact⟨0,43,3,aH x::xs.map aH,by simp,rfl,by simp,rfl,rfl,rfl⟩
end
end Go.Proofs.YtpedcgdgjoblkaaGreatDoor
