/- JX12: own texts of this seat, joined and shortened by pack4.py: T4, T5, T6. -/
import Derived.Test.YtjogkbekekdkjaaGreatDoorJX11
set_option linter.unusedVariables false
set_option linter.unusedSimpArgs false
set_option maxRecDepth 100000
set_option maxHeartbeats 64000000
open Bool renaming false_and→rZ,true_and→re,false_eq_true→rn
open ByteArray renaming empty→rY
open Int renaming tmod_lt_of_pos→sR,tmod_nonneg→sW
open List renaming replicate→rO,drop_eq_getElem_cons→rP,getElem_mem→rQ,drop_of_length_le→rR,range→rh,length_map→sK,range_succ→si,map_take→tj,take→uH
namespace Go.Proofs.YtjogkbekekdkjaaGreatDoor
section
open Go Go.AM
structure Rw where
 id:Int
 vals:List Vl
structure Tb where
 name:ByteArray
 attrs:List ByteArray
 rows:List Rw
def aI(r:Rw):V:=.agg [.int .i64 r.id,LV false r.vals]
def LR(g:Bool)(rs:List Rw):V:=.lst 2 g (rs.map aI)
def aD(f g:Bool)(t:Tb):V:=.agg [.str t.name,LS f t.attrs,LR g t.rows]
@[simp] theorem encRw_pure (r:Rw):AM.Pure (aI r):=by simp[aI]
@[simp] theorem LR_pure (g:Bool) (rs:List Rw):AM.Pure (LR g rs):=by simp[LR]
@[simp] theorem encTb_pure (f g:Bool) (t:Tb):AM.Pure (aD f g t):=by simp[aD]
@[simp] theorem encRw_oneV (r:Rw):dV (aI r)=true:=rfl
def dw(n:Nat):Int→List Rw→Int
 | _,[]=>0
 | last,r::rs=>if r.id≤last then 1 else if r.vals.length≠n then 6 else if r.vals.all bW then dw n r.id rs else 1
def aZ(t:Tb):Int:=if bp t.name then(if 16<t.attrs.length∨1000<t.rows.length then 3 else if fq t.attrs then dw t.attrs.length 0 t.rows else 1) else 1
structure TbOk (t:Tb):Prop where
 name:t.name.size≤maxLen
 attrs:t.attrs.length≤1000000
 rows:t.rows.length≤1000000
 strs:∀s∈t.attrs,s.size≤maxLen
theorem iS(t:Tb)(f g:Bool)(h:TbOk t):aL Tryz.prog 83 [aD f g t] fun r=>r = .int .i64 (aZ t):=by
 obtain⟨hn,ha,hr,hs⟩:=h;have hc1:=lG t.name hn;cases h1:bp t.name
 ·rw[h1]at hc1;rw[show aZ t=1 by simp[aZ,h1]];refine sPx Tryz.func83 rfl rfl ?_;simp -dsimp[Tryz.f83,rO,aD,LR,LS];refine cPx (hc1) (by simp) ?_;simp -dsimp[]
 ·rw[h1]at hc1;by_cases h2:16<t.attrs.length
  ·rw[show aZ t=3 by simp[aZ,h1,h2]];refine sPx Tryz.func83 rfl rfl ?_;simp -dsimp[Tryz.f83,rO,aD,LR,LS];refine cPx (hc1) (by simp) ?_;simp -dsimp[show(16:Int)<t.attrs.length by omega]
  ·by_cases h3:1000<t.rows.length
   ·rw[show aZ t=3 by simp[aZ,h1,h3]];refine sPx Tryz.func83 rfl rfl ?_;simp -dsimp[Tryz.f83,rO,aD,LR,LS];refine cPx (hc1) (by simp) ?_;simp -dsimp[show ¬(16:Int)<t.attrs.length by omega,show(1000:Int)<t.rows.length by omega]
   ·have hc2:=names03 t.attrs f ha hs;simp only[LS]at hc2;cases h4:fq t.attrs
    ·rw[h4]at hc2;rw[show aZ t=1 by simp[aZ,h1,h2,h3,h4]];refine sPx Tryz.func83 rfl rfl ?_;simp -dsimp[Tryz.f83,rO,aD,LR,LS];refine cPx (hc1) (by simp) ?_;simp -dsimp[show ¬(16:Int)<t.attrs.length by omega,show ¬(1000:Int)<t.rows.length by omega];refine cPx (hc2) (by simp) ?_;simp -dsimp[]
    ·rw[h4]at hc2
     have hE:dw t.attrs.length 0 t.rows=aZ t:=by simp[aZ,h1,h2,h3,h4]
     obtain⟨E,hEe⟩:∃E,E=aZ t:=⟨_,rfl⟩;rw[←hEe]at hE ⊢;refine sPx Tryz.func83 rfl rfl ?_;simp -dsimp[Tryz.f83,rO,aD,LR,LS];refine cPx (hc1) (by simp) ?_;simp -dsimp[show ¬(16:Int)<t.attrs.length by omega,show ¬(1000:Int)<t.rows.length by omega];refine cPx (hc2) (by simp) ?_;simp -dsimp[];refine aG (W_loopM 53 0x1fffffff00003c (by simp[mB]<;>rfl) (σ:=Nat×Int) (fun p=>p.1≤t.rows.length∧dw t.attrs.length p.2 (t.rows.drop p.1)=E) (fun p=>t.rows.length-p.1) (fun p=>[(4,.int .i64 p.1),(3,.int .i64 p.2)]) (fun _=>[B.cells [.str t.name,LS f t.attrs,LR g t.rows]]) (0,0) ⟨by simp,hE⟩ (by simp) (by simp[LS,LR]) (by simp) ?_);rintro⟨i,last⟩ ⟨hi,hx⟩ N Q hN hQ;simp only at hi hx hN;by_cases hb:i<t.rows.length
     ·rw[rP hb]at hx;simp only[dw]at hx;by_cases h5:t.rows[i].id≤last
      ·rw[if_pos h5]at hx;refine wx ?_;simp -dsimp[hb,LS,LR,aI,h5,LV];refine hQ _ _ _ ?_;simp -dsimp[];exact hx
      ·rw[if_neg h5]at hx;by_cases h6:t.rows[i].vals.length=t.attrs.length
       ·rw[if_neg (fun h=>h h6)]at hx;have hc3:=valids01 t.rows[i].vals false (by omega);cases h7:t.rows[i].vals.all bW
        ·rw[h7]at hc3 hx;refine wx ?_;simp -dsimp[hb,LS,LR,aI,h5,LV,h6];simp only[LV]at hc3;refine cPx (hc3) (by simp) ?_;simp -dsimp[];refine hQ _ _ _ ?_;simp -dsimp[];simpa using hx
        ·rw[h7,if_pos rfl]at hx;rw[h7]at hc3;refine wx ?_;simp -dsimp[hb,LS,LR,aI,h5,LV,h6];simp only[LV]at hc3;refine cPx (hc3) (by simp) ?_;simp -dsimp[aH i (by omega)];refine hN (i+1,t.rows[i].id) _ _ ⟨by simp;omega,hx⟩ (by omega) ?_ ⟨[B.cells [.int .i64 t.rows[i].id,LV false t.rows[i].vals]],?_⟩ ?_ ?_<;>simp[or_imp,forall_and,L1,aE,LS,LR,LV]
       ·rw[if_pos h6]at hx;refine wx ?_;simp -dsimp[hb,LS,LR,aI,h5,LV,show ¬(t.rows[i].vals.length:Int)=t.attrs.length by omega];refine hQ _ _ _ ?_;simp -dsimp[];exact hx
     ·rw[rR (by omega)]at hx;refine wx ?_;simp -dsimp[hb,LS,LR];refine hQ _ _ _ ?_;simp -dsimp[];exact hx
theorem iT(t:Tb)(f g:Bool)(h:TbOk t):aL Tryz.prog 77 [aD f g t] fun r=>r = .int .i64 (aZ t):=by
 obtain⟨hn,ha,hr,hs⟩:=h;have hc1:=lI t.name hn;cases h1:bp t.name
 ·rw[h1]at hc1;rw[show aZ t=1 by simp[aZ,h1]];refine sPx Tryz.func77 rfl rfl ?_;simp -dsimp[Tryz.f77,rO,aD,LR,LS];refine cPx (hc1) (by simp) ?_;simp -dsimp[]
 ·rw[h1]at hc1;by_cases h2:16<t.attrs.length
  ·rw[show aZ t=3 by simp[aZ,h1,h2]];refine sPx Tryz.func77 rfl rfl ?_;simp -dsimp[Tryz.f77,rO,aD,LR,LS];refine cPx (hc1) (by simp) ?_;simp -dsimp[show(16:Int)<t.attrs.length by omega]
  ·by_cases h3:1000<t.rows.length
   ·rw[show aZ t=3 by simp[aZ,h1,h3]];refine sPx Tryz.func77 rfl rfl ?_;simp -dsimp[Tryz.f77,rO,aD,LR,LS];refine cPx (hc1) (by simp) ?_;simp -dsimp[show ¬(16:Int)<t.attrs.length by omega,show(1000:Int)<t.rows.length by omega]
   ·have hE:(if fq t.attrs then dw t.attrs.length 0 t.rows else 1)=aZ t:=by simp[aZ,h1,h2,h3]
    obtain⟨E,hEe⟩:∃E,E=aZ t:=⟨_,rfl⟩;rw[←hEe]at hE ⊢;refine sPx Tryz.func77 rfl rfl ?_;simp -dsimp[Tryz.f77,rO,aD,LR,LS];refine cPx (hc1) (by simp) ?_;simp -dsimp[show ¬(16:Int)<t.attrs.length by omega,show ¬(1000:Int)<t.rows.length by omega];refine aG (W_loopM 42 0x3fffe00001c (by simp[mB]<;>rfl) (σ:=Nat) (fun i=>i≤t.attrs.length∧(rh i).all (nmAt t.attrs)=true) (fun i=>t.attrs.length-i) (fun i=>[(25,.int .i64 i)]) (fun _=>[B.cells [.str t.name,LS f t.attrs,LR g t.rows]]) 0 ⟨by omega,rfl⟩ (by simp) (by simp[LS,LR]) (by simp) ?_);rintro i ⟨hi,hall⟩ N Q hN hQ;by_cases hb:i<t.attrs.length
    ·have hsi:sAt t.attrs i=t.attrs[i]:=by simp[sAt,hb]
     have hok:nmAt t.attrs i=(bp t.attrs[i]&&!memS (t.attrs.take i) t.attrs[i]):=by unfold nmAt;rw[hsi]
     have hd1:=lI t.attrs[i] (hs _ (rQ hb));have hd2:=containsS (t.attrs.take i) t.attrs[i] (f&&i == t.attrs.length) (by simp;omega);simp only[LS,tj]at hd2;cases h5:bp t.attrs[i]
     ·rw[h5,rZ]at hok;rw[h5]at hd1;rw[show fq t.attrs=false from allno hb hok]at hE;refine wx ?_;simp -dsimp[hb,LS,LR];refine cPx (hd1) (by simp) ?_;simp -dsimp[];refine hQ _ _ _ ?_;simp -dsimp[];simpa using hE
     ·rw[h5,re]at hok;rw[h5]at hd1;cases h6:memS (t.attrs.take i) t.attrs[i]
      ·rw[h6]at hd2 hok;refine wx ?_;simp -dsimp[hb,LS,LR];refine cPx (hd1) (by simp) ?_;simp -dsimp[show i≤t.attrs.length by omega];refine cPx (hd2) (by simp) ?_;simp -dsimp[aH i (by omega)];refine hN (i+1) _ _ ⟨by omega,fA hall (by rw[hok];rfl)⟩ (by omega) ?_ ⟨[],?_⟩ ?_ ?_<;>simp[or_imp,forall_and,L1,aE,LS,LR]
      ·rw[h6]at hd2 hok;rw[show fq t.attrs=false from allno hb hok]at hE;refine wx ?_;simp -dsimp[hb,LS,LR];refine cPx (hd1) (by simp) ?_;simp -dsimp[show i≤t.attrs.length by omega];refine cPx (hd2) (by simp) ?_;simp -dsimp[];refine hQ _ _ _ ?_;simp -dsimp[];simpa using hE
    ·obtain rfl:i=t.attrs.length:=by omega
     rw[show fq t.attrs=true from hall,if_pos rfl]at hE;refine wx ?_;simp -dsimp[hb,LS,LR];refine hQ _ _ _ ?_;simp -dsimp[LS,LR];refine aG (W_loopM 70 0x3fffffe000000000a4 (by simp[mB]<;>rfl) (σ:=Nat×Int) (fun p=>p.1≤t.rows.length∧dw t.attrs.length p.2 (t.rows.drop p.1)=E) (fun p=>t.rows.length-p.1) (fun p=>[(45,.int .i64 p.1),(5,.int .i64 p.2)]) (fun _=>[B.cells [.str t.name,LS f t.attrs,LR g t.rows]]) (0,0) ⟨by simp,hE⟩ (by simp) (by simp[LS,LR]) (by simp) ?_);rintro⟨j,last⟩ ⟨hj,hx⟩ N2 Q2 hN2 hQ2;simp only at hj hx hN2;by_cases hjb:j<t.rows.length
     ·rw[rP hjb]at hx;simp only[dw]at hx;by_cases h5:t.rows[j].id≤last
      ·rw[if_pos h5]at hx;refine wx ?_;simp -dsimp[hjb,LS,LR,aI,h5,LV];refine hQ2 _ _ _ ?_;simp -dsimp[];exact hx
      ·rw[if_neg h5]at hx;by_cases h6:t.rows[j].vals.length=t.attrs.length
       ·rw[if_neg (fun h=>h h6)]at hx;have hc3:=validVals t.rows[j].vals false (by omega);simp only[LV]at hc3;cases h7:t.rows[j].vals.all bW
        ·rw[h7]at hc3 hx;refine wx ?_;simp -dsimp[hjb,LS,LR,aI,h5,LV,h6];refine cPx (hc3) (by simp) ?_;simp -dsimp[];refine hQ2 _ _ _ ?_;simp -dsimp[];simpa using hx
        ·rw[h7,if_pos rfl]at hx;rw[h7]at hc3;refine wx ?_;simp -dsimp[hjb,LS,LR,aI,h5,LV,h6];refine cPx (hc3) (by simp) ?_;simp -dsimp[aH j (by omega)];refine hN2 (j+1,t.rows[j].id) _ _ ⟨by simp;omega,hx⟩ (by omega) ?_ ⟨[B.cells [.int .i64 t.rows[j].id,LV false t.rows[j].vals]],?_⟩ ?_ ?_<;>simp[or_imp,forall_and,L1,aE,LS,LR,LV]
       ·rw[if_pos h6]at hx;refine wx ?_;simp -dsimp[hjb,LS,LR,aI,h5,LV,show ¬(t.rows[j].vals.length:Int)=t.attrs.length by omega];refine hQ2 _ _ _ ?_;simp -dsimp[];exact hx
     ·rw[rR (by omega)]at hx;refine wx ?_;simp -dsimp[hjb,LS,LR];refine hQ2 _ _ _ ?_;simp -dsimp[];exact hx
def ofV(m:Int):Vl :=
 if m=0 then⟨1,0,rY⟩ else
 if m=1 then⟨1,1,rY⟩ else
 if m=2 then⟨1,2,rY⟩ else
 if m=3 then⟨0,0,rY⟩ else
 if m=4 then⟨2,0,⟨#[97]⟩⟩ else
 if m=5 then⟨2,0,⟨#[98]⟩⟩ else
 if m=6 then⟨2,0,rY⟩ else
 if m=7 then⟨3,1,rY⟩ else
 if m=8 then⟨1,-1,rY⟩ else
 if m=9 then⟨2,0,⟨#[97,98]⟩⟩ else
 if m=10 then⟨3,2,rY⟩ else
 ⟨1,7,rY⟩
def ofC(c:Int):Vl:=ofV (c.tmod 12)
theorem of01(c:Int):aL Tryz.prog 107 [.int .u8 c] fun r=>r=aX (ofC c):=by
 unfold ofC;obtain⟨m,hm⟩:∃m,m=c.tmod 12:=⟨_,rfl⟩;rw[←hm];have hm:=hm.symm;by_cases h0:m=0
 ·have e:ofV m=ofV 0:=by rw[h0]
  rw[e];refine sPx Tryz.func107 rfl rfl ?_;simp -dsimp[Tryz.f107,rO,hm,h0];rfl
 by_cases h1:m=1
 ·have e:ofV m=ofV 1:=by rw[h1]
  rw[e];refine sPx Tryz.func107 rfl rfl ?_;simp -dsimp[Tryz.f107,rO,hm,h1];rfl
 by_cases h2:m=2
 ·have e:ofV m=ofV 2:=by rw[h2]
  rw[e];refine sPx Tryz.func107 rfl rfl ?_;simp -dsimp[Tryz.f107,rO,hm,h2];rfl
 by_cases h3:m=3
 ·have e:ofV m=ofV 3:=by rw[h3]
  rw[e];refine sPx Tryz.func107 rfl rfl ?_;simp -dsimp[Tryz.f107,rO,hm,h3];rfl
 by_cases h4:m=4
 ·have e:ofV m=ofV 4:=by rw[h4]
  rw[e];refine sPx Tryz.func107 rfl rfl ?_;simp -dsimp[Tryz.f107,rO,hm,h4];rfl
 by_cases h5:m=5
 ·have e:ofV m=ofV 5:=by rw[h5]
  rw[e];refine sPx Tryz.func107 rfl rfl ?_;simp -dsimp[Tryz.f107,rO,hm,h5];rfl
 by_cases h6:m=6
 ·have e:ofV m=ofV 6:=by rw[h6]
  rw[e];refine sPx Tryz.func107 rfl rfl ?_;simp -dsimp[Tryz.f107,rO,hm,h6];rfl
 by_cases h7:m=7
 ·have e:ofV m=ofV 7:=by rw[h7]
  rw[e];refine sPx Tryz.func107 rfl rfl ?_;simp -dsimp[Tryz.f107,rO,hm,h7];rfl
 by_cases h8:m=8
 ·have e:ofV m=ofV 8:=by rw[h8]
  rw[e];refine sPx Tryz.func107 rfl rfl ?_;simp -dsimp[Tryz.f107,rO,hm,h8];rfl
 by_cases h9:m=9
 ·have e:ofV m=ofV 9:=by rw[h9]
  rw[e];refine sPx Tryz.func107 rfl rfl ?_;simp -dsimp[Tryz.f107,rO,hm,h9];rfl
 by_cases h10:m=10
 ·have e:ofV m=ofV 10:=by rw[h10]
  rw[e];refine sPx Tryz.func107 rfl rfl ?_;simp -dsimp[Tryz.f107,rO,hm,h10];rfl
 have e:ofV m=⟨1,7,rY⟩:=by unfold ofV;simp[h0,h1,h2,h3,h4,h5,h6,h7,h8,h9,h10]
 rw[e];refine sPx Tryz.func107 rfl rfl ?_;simp -dsimp[Tryz.f107,rO,hm,h0,h1,h2,h3,h4,h5,h6,h7,h8,h9,h10];rfl
structure Rcp where
 a:Int
 gap:Int
 rows:List (List Int)
def LU(xs:List Int):V:=.lst 1 false (xs.map eH)
def gF(f:Bool)(x:Rcp):V:=.agg [.int .u8 x.a,.int .u8 x.gap,.lst 1 f (x.rows.map LU)]
@[simp] theorem LU_pure (xs:List Int):AM.Pure (LU xs):=by simp[LU]
@[simp] theorem encRcp_pure (f:Bool) (x:Rcp):AM.Pure (gF f x):=by simp[gF]
def L8:List ByteArray:=[⟨#[97]⟩,⟨#[98]⟩,⟨#[99]⟩,⟨#[100]⟩,⟨#[101]⟩,⟨#[102]⟩,⟨#[103]⟩,⟨#[104]⟩]
def jP(cs:List Int)(k:Nat):List Vl:=(rh k).map fun j=>ofC (cs.getD j 0)
def wRow(gap:Int)(cs:List Int)(n i:Nat):Rw:=⟨1+(i:Int)*(1+gap.tmod 3),jP cs n⟩
def lX(x:Rcp)(n i:Nat):List Rw:=(rh i).map fun j=>wRow x.gap (x.rows.getD j []) n j
def wideT(x:Rcp)(n:Nat):Tb:=⟨⟨#[114]⟩,L8.take n,lX x n x.rows.length⟩
theorem wVals_succ(cs:List Int)(k:Nat):jP cs (k+1)=jP cs k++[ofC (cs.getD k 0)]:=by simp[jP,si]
theorem wVals_len(cs:List Int)(k:Nat):(jP cs k).length=k:=by simp[jP]
theorem wRows_succ(x:Rcp)(n i:Nat):lX x n (i+1)=lX x n i++[wRow x.gap (x.rows.getD i []) n i]:=by simp[lX,si]
theorem wRows_len(x:Rcp)(n i:Nat):(lX x n i).length=i:=by simp[lX]
theorem ql(n:Nat)(h:n≤1000000000):n≤9223372036854775806∧(n+1)*32≤140737488355328:=by omega
theorem L8_take(n:Nat):uH n [V.str ⟨#[97]⟩,V.str ⟨#[98]⟩,V.str ⟨#[99]⟩,V.str ⟨#[100]⟩,V.str ⟨#[101]⟩,V.str ⟨#[102]⟩,V.str ⟨#[103]⟩,V.str ⟨#[104]⟩]=(L8.take n).map V.str:=by rw[tj];rfl
theorem ownF_refl(k:Nat):∀xs:List V,qw k xs xs
 | []=>trivial
 | x::xs=>⟨.inl rfl,ownF_refl k xs⟩
theorem ownAt_nil(k:Nat):∀(i:Nat) (xs:List V),ew k [] i xs=xs
 | _,[]=>rfl
 | i,x::xs=>by simp only[ew,List.contains_nil,rn,if_false,ownAt_nil k (i+1) xs]
theorem lfL_own(k:Nat)(xs:List V):qw k xs (ew k [] 0 xs):=by rw[ownAt_nil];exact ownF_refl k xs
theorem wide03(x:Rcp)(n:Nat)(f:Bool)(hn:n≤8)(hr:x.rows.length≤1000000)(hc:∀r∈x.rows,r.length≤9223372036854775807)(h0:0≤x.gap):
  aL Tryz.prog 75 [gF f x,.int .i64 n] fun r=>r=aD false false (wideT x n):=by
 have hg:=sW 3 h0;have hg2:=sR x.gap (show(0:Int)<3 by omega);obtain⟨g,hge⟩:∃g,g=x.gap.tmod 3:=⟨_,rfl⟩;rw[←hge]at hg hg2;have hgs:=hge.symm;have hw1:IntKind.i64.wrap g=g:=wrap64 (by omega) (by omega);have hw2:IntKind.i64.wrap (1+g)=1+g:=wrap64 (by omega) (by omega)
 have hl8:(L8.take n).length=n:=by simp[L8];omega
 have hne:(n=0∧uH n (L8.map V.str)=[])∨(¬n=0∧¬uH n (L8.map V.str)=[]):=by
  by_cases hz:n=0
  ·exact .inl ⟨hz,by rw[hz];rfl⟩
  ·refine .inr ⟨hz,fun h=>?_⟩;have:=congrArg List.length h;rw[←tj,sK,hl8]at this;exact hz this
 have hlt:(uH n (L8.map V.str)).length=n:=by rw[←tj,sK,hl8]
 have hcp:n≤9223372036854775807∧n*16≤140737488355328:=by omega
 rcases hne with⟨hz,hne⟩ | ⟨hz,hne⟩
 case' inl =>
  refine ay (aF (tkf 29) Tryz.func75 rfl rfl ?_);refine W_x (tkf 29) mixed ?_;simp -dsimp[Tryz.f75,rO,gF,L8_take,hn,hne,aM]
 case' inr =>
  refine ay (aF (tkf 29) Tryz.func75 rfl rfl ?_);refine W_x (tkf 29) mixed ?_;simp -dsimp[Tryz.f75,rO,gF,L8_take,hn,hz,hne,hlt,hcp,aM]
 all_goals
  refine aG (W_lf 2 _ [.str ⟨#[114]⟩,.lst 1 false (uH n (L8.map V.str)),.nilS] rfl (pt _) (by simp[LfL,lfB,hne]) (eS 80 2 [] 2 [2] rfl (lfL_own _ _) (by simp) (W_loopM 66 0x3ffffffffffffefc0 (by simp[mB]<;>rfl) (σ:=Nat) (fun i=>i≤x.rows.length) (fun i=>x.rows.length-i) (fun i=>[(6,.int .i64 i)]) (fun i=>[B.cells [.int .u8 x.a,.int .u8 x.gap,.lst 1 f (x.rows.map LU)],B.cells [.str rY,.nilS,.nilS],B.cells [.str ⟨#[114]⟩,.lst 1 false (uH n (L8.map V.str)),.buf 3 0 i i],B.buf 80 2 ((lX x n i).map aI) false]) 0 (by omega) (by simp) (by simp[lX]) (by simp) ?_)));intro i hi N Q hN hQ;have hwl:=wRows_len x n i;by_cases hb:i<x.rows.length
  ·have hg0:x.rows.getD i []=x.rows[i]:=by simp[hb]
   have hws:=wRows_succ x n i;rw[hg0]at hws;have hcl:=hc x.rows[i] (rQ hb);obtain⟨cs,hcs⟩:∃cs,cs=x.rows[i]:=⟨_,rfl⟩;rw[←hcs]at hws hcl;have hcs':=hcs.symm;have hp0:0≤(i:Int)*(1+g):=Int.mul_nonneg (by omega) (by omega);have hp1:(i:Int)*(1+g)≤i*3:=Int.mul_le_mul_of_nonneg_left (by omega) (by omega);have hw3:IntKind.i64.wrap ((i:Int)*(1+g))=(i:Int)*(1+g):=wrap64 (by omega) (by omega);have hw4:IntKind.i64.wrap (1+(i:Int)*(1+g))=1+(i:Int)*(1+g):=wrap64 (by omega) (by omega)
   have hrow:wRow x.gap cs n i=⟨1+(i:Int)*(1+g),jP cs n⟩:=by rw[hge];rfl
   rw[hrow]at hws;obtain⟨id,hid⟩:∃id,id=1+(i:Int)*(1+g):=⟨_,rfl⟩;rw[←hid]at hws hw4
   have hw5:IntKind.i64.wrap (1+(i:Int)*(1+g))=id:=by rw[←hid];exact hw4
   refine W_x (tkf 29) mixed ?_;simp -dsimp[hb,hgs,hw1,hw2,hw3,hw5,aM];refine aG (eS 200 3 [] 4 [1] rfl (lfL_own _ _) (by simp) (W_loopM 60 0xfffffff00000300 (by simp[mB]<;>rfl) (σ:=Nat) (fun k=>k≤n) (fun k=>n-k) (fun k=>[(8,.int .i64 k)]) (fun k=>[B.cells [.int .u8 x.a,.int .u8 x.gap,.lst 1 f (x.rows.map LU)],B.cells [.str rY,.nilS,.nilS],B.cells [.str ⟨#[114]⟩,.lst 1 false (uH n (L8.map V.str)),.buf 3 0 i i],B.buf 80 2 ((lX x n i).map aI) false,B.cells [.int .i64 id,.buf 5 0 k k],B.buf 200 3 ((jP cs k).map aX) false]) 0 (by omega) (by simp) (by simp[jP]) (by simp) ?_));intro k hk N2 Q2 hN2 hQ2;have hvl:=wVals_len cs k;have hvs:=wVals_succ cs k;by_cases hkb:k<n
   ·by_cases hkc:k<cs.length
    ·have hg1:cs.getD k 0=cs[k]:=by simp[hkc]
     rw[hg1]at hvs;have hco:=of01 cs[k];refine W_x (tkf 29) mixed ?_;simp -dsimp[hkb,hb,LU,hcs',hkc,eH,aM];refine aG (aW (tkf 29) mixed [5,7] [] [(aX (ofC cs[k]),[])] (by kernel_rfl) fun C K hC hK=>?_);simp -implicitDefEqProofs [ql k (by omega),hvl,aX,aM];refine⟨hC _ _ _ _ (aK hco (by simp)),hK _ _ ?_⟩;simp -dsimp[aH k (by omega),aM];refine hN2 (k+1) _ _ (by omega) (by omega) ?_ ⟨[],?_⟩ ?_ ?_<;>simp[or_imp,forall_and,L1,aE,hvs,LS,aX,aI,LV]
    ·have hg1:cs.getD k 0=0:=by simp[hkc]
     rw[hg1]at hvs;have hco:=of01 0;refine W_x (tkf 29) mixed ?_;simp -dsimp[hkb,hb,LU,hcs',hkc,eH,aM];refine aG (aW (tkf 29) mixed [5,7] [] [(aX (ofC 0),[])] (by kernel_rfl) fun C K hC hK=>?_);simp -implicitDefEqProofs [ql k (by omega),hvl,aX,aM];refine⟨hC _ _ _ _ (aK hco (by simp)),hK _ _ ?_⟩;simp -dsimp[aH k (by omega),aM];refine hN2 (k+1) _ _ (by omega) (by omega) ?_ ⟨[],?_⟩ ?_ ?_<;>simp[or_imp,forall_and,L1,aE,hvs,LS,aX,aI,LV]
   ·obtain rfl:k=n:=by omega
    refine eT 5 [] 4 [1] rfl rfl (by simp) (by simp[hvl]) ?_;refine W_x (tkf 29) mixed ?_;simp -dsimp[hkb,aM];refine hQ2 _ _ _ ?_;simp -dsimp[hwl,ql i (by omega),aH i (by omega),aM];refine hN (i+1) _ _ (by omega) (by omega) ?_ ⟨[B.cells [.int .i64 id,LV false (jP cs k)],B.buf 200 3 ((jP cs k).map aX) true],?_⟩ ?_ ?_<;>simp[or_imp,forall_and,L1,aE,hws,aI,LV]
  ·obtain rfl:i=x.rows.length:=by omega
   refine eT 3 [] 2 [2] rfl rfl (by simp) (by simp[hwl]) ?_;refine W_x (tkf 29) mixed ?_;simp -dsimp[hb,aM];refine hQ _ _ _ ?_;simp -dsimp[aM];simp only[aD,wideT,LS,LR,tj]
end
end Go.Proofs.YtjogkbekekdkjaaGreatDoor
