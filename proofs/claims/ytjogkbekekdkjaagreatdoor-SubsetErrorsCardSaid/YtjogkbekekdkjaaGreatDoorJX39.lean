/- JX39: own texts of this seat, joined and shortened by pack4.py: SC8, SC9, SC10, SC12, SL0. -/
import Derived.Test.YtjogkbekekdkjaaGreatDoorJX34
import Derived.Test.YtjogkbekekdkjaaGreatDoorJX37
import Derived.Test.YtjogkbekekdkjaaGreatDoorJX38
set_option linter.unusedVariables false
set_option linter.unusedSimpArgs false
set_option maxRecDepth 100000
set_option maxHeartbeats 64000000
open Bool renaming and_eq_true→rX,true_and→re,eq_iff_iff→sb,not_eq_true→sg
open ByteArray renaming empty→rY
open List renaming replicate→rO,drop_eq_getElem_cons→rP,getElem_mem→rQ,drop_of_length_le→rR,not_mem_nil→rS,mem_cons→rU,take_succ_eq_append_getElem→rV,drop_zero→rk,take_of_length_le→rt,length_filter_le→rz,take_length→sJ,length_map→sK,map_append→sX,filter_cons_of_pos→sq,filter_cons_of_neg→sr,map_cons→tF,getD→tO,filter_append→tW,forall_mem_cons→uR,length_range→uj
open Nat renaming le_refl→rd,le_trans→sF,pow_le_pow_right→sd,add_assoc→tJ
namespace Go.Proofs.YtjogkbekekdkjaaGreatDoor
section
open Go Go.AM
theorem butL_take{D:List Int}{a:Int}{i:Nat}(h:i<D.length):gp (D.take (i+1)) a=if D[i]=a then gp (D.take i) a else gp (D.take i) a++[D[i]]:=by
 unfold gp;rw[rV h,tW];split
 ·rename_i he;rw[sr (by simp[he])];simp
 ·rename_i he;rw[sq (by simp[he])];rfl
theorem without_41(D:List Int)(a:Int)(fd:Bool)(hD:D.length≤1000000):aL Tryz.prog 49 [L1 fd D,.int .i64 a] fun r=>r=L1 false (gp D a):=by
 refine sPx Tryz.func49 rfl rfl ?_;simp -dsimp[Tryz.f49,rO,L1];refine aG (bf 2 1 [5] (by simp) (W_loopM 26 0x3ffffe0 (by simp[mB]<;>rfl) (σ:=Nat) (fun i=>i≤D.length) (fun i=>D.length-i) (fun i=>[(6,.int .i64 i),(5,.buf 0 0 (gp (D.take i) a).length (gp (D.take i) a).length)]) (fun i=>[B.buf 2 1 ((gp (D.take i) a).map aE) false]) 0 (by omega) (by simp[gp]) (by simp[gp]) (by simp) ?_));intro i hi N Q hN hQ;have hll:(gp (D.take i) a).length≤i:=sF (butL_len _ _) (by simp;omega)
 have hrb:∀l:List Int,∀bl∈[B.buf 2 1 (l.map aE) false],rbB 1 bl:=fun l bl hbl=>by
  simp only[rU,rS,or_false]at hbl;subst hbl;exact gW _ _ _ _
 by_cases hb:i<D.length
 ·have hs:=butL_take (a:=a) hb;obtain⟨x,hx⟩:∃x,x=D[i]:=⟨_,rfl⟩;obtain⟨l,hl⟩:∃l,l=gp (D.take i) a:=⟨_,rfl⟩;rw[←hx,←hl]at hs;rw[←hl]at hll ⊢;by_cases hxa:x=a
  ·rw[if_pos hxa]at hs;refine wx ?_;simp -dsimp[hb,hx.symm,aE,hxa,aH i (by omega)];refine hN (i+1) _ _ (by omega) (by omega) (by simp[hs]) ⟨[],by simp[hs]⟩ (by simp) (hrb _)
  ·rw[if_neg hxa]at hs;refine wx ?_;simp -dsimp[hb,hx.symm,aE,hxa,go l.length (by omega),ai l.length (by omega),aH i (by omega)];refine hN (i+1) _ _ (by omega) (by omega) (by simp[hs]) ⟨[],by simp[hs,aE]⟩ (by simp) (hrb _)
 ·obtain rfl:i=D.length:=by omega
  rw[sJ];refine wx ?_;simp -dsimp[hb];refine hQ _ _ _ ?_;simp -dsimp[];exact dP rfl (by simp) (by simp[aE])
def rsL(D:List Int)(I:List Int):List Int:=I.filter fun a=>!bj D a
theorem rsL_take{D:List Int}{R:List Rw}{i:Nat}(h:i<R.length):rsL D (aa (R.take (i+1)))=if bj D R[i].id=true then rsL D (aa (R.take i)) else rsL D (aa (R.take i))++[R[i].id]:=by
 unfold rsL aa;rw[rV h,sX,tW];split
 ·rename_i he;rw[tF,sr (by simp[he])];simp
 ·rename_i he;rw[tF,sq (by simp[he])];rfl
theorem rsL_len(D I:List Int):(rsL D I).length≤I.length:=rz _ _
theorem rest_41(t:Tb)(D:List Int)(f g fd:Bool)(ha:t.attrs.length≤1000000)(hr:t.rows.length≤1000000)(hv:∀r∈t.rows,r.vals.length≤1000000)(hD:D.length≤1000000):aL Tryz.prog 90 [aD f g t,L1 fd D] fun r=>r=aD false false (kT (fF t D) t):=by
 have htr:∀n,rbB n (tcB t f g):=fun n=>bS n t f g
 have hrl:(fF t D).length≤1000000:=by
  unfold fF;exact sF (rz _ _) (by rw[bC];exact hr)
 have ck:=keep03 t (fF t D) f g false ha hr hv hrl;have hK:fF t D=rsL D (aa t.rows):=rfl;obtain⟨KT,hKT⟩:∃KT,KT=kT (fF t D) t:=⟨_,rfl⟩;rw[←hKT]at ck ⊢;rw[hK]at ck;obtain⟨R,hR⟩:∃R,R=t.rows:=⟨_,rfl⟩;rw[←hR]at ck hr
 have htB2:tcB t f g=B.cells [.str t.name,.lst 1 f (t.attrs.map V.str),.lst 2 g (R.map aI)]:=by rw[hR];rfl
 have hrb:∀l:List Int,∀bl∈[tcB t f g,B.cells [.str rY,.nilS,.nilS],B.buf 2 1 (l.map aE) false],rbB 3 bl:=fun l bl hbl=>by
  simp only[rU,rS,or_false]at hbl
  rcases hbl with rfl | rfl | rfl
  ·exact htr _
  ·intro c hc;simp only[rU,rS,or_false]at hc;rcases hc with rfl | rfl | rfl<;>simp[rb,rb1]
  ·exact gW _ _ _ _
 simp only[aD,LS,LR,L1]at ck;rw[←hR]at ck;refine sPx Tryz.func90 rfl rfl ?_;simp -dsimp[Tryz.f90,rO,aD,LS,LR,L1,hR.symm];rw[←htB2];refine aG (bf 2 1 [5] (by simp) (W_loopM 32 0xffffffe0 (by simp[mB]<;>rfl) (σ:=Nat×List Int) (fun p=>p.1≤R.length∧p.2=rsL D (aa (R.take p.1))) (fun p=>R.length-p.1) (fun p=>[(6,.int .i64 p.1),(5,.buf 2 0 p.2.length p.2.length)]) (fun p=>[tcB t f g,B.cells [.str rY,.nilS,.nilS],B.buf 2 1 (p.2.map aE) false]) (0,[]) ⟨by omega,rfl⟩ (by simp) (by simp) (by simp) ?_));rintro⟨i,out⟩ ⟨hi,hx⟩ N Q hN hQ;simp only at hi hx
 have hol:out.length≤i:=by
  rw[hx];refine sF (rsL_len _ _) ?_;rw[bC];simp;omega
 by_cases hb:i<R.length
 ·have hsu:=rsL_take (D:=D) hb;obtain⟨r,hre⟩:∃r,r=R[i]:=⟨_,rfl⟩;rw[←hre,←hx]at hsu;have ch:=has03 D r.id fd hD;simp only[L1]at ch
  cases hm:bj D r.id with
  | true =>
   rw[hm]at ch;rw[if_pos hm]at hsu;refine wx ?_;simp -dsimp[htB2,hb,hre.symm,aI,LV];refine cPx (ch) (by simp) ?_;simp -dsimp[aH i (by omega)];refine hN (i+1,out) _ _ ⟨by simp only;omega,hsu.symm⟩ (by simp only;omega) (by simp) ⟨[],by simp[htB2]⟩ (by simp) (hrb _)
  | false =>
   rw[hm]at ch;rw[if_neg (by simp[hm])]at hsu;refine wx ?_;simp -dsimp[htB2,hb,hre.symm,aI,LV];refine cPx (ch) (by simp) ?_;simp -dsimp[hb,hre.symm,aI,LV,go out.length (by omega),ai out.length (by omega),aH i (by omega)];refine hN (i+1,out++[r.id]) _ _ ⟨by simp only;omega,hsu.symm⟩ (by simp only;omega) (by simp) ⟨[],by simp[htB2,aE]⟩ (by simp) (hrb _)
 ·obtain rfl:i=R.length:=by omega
  rw[rt (by omega)]at hx;subst hx;refine cy 2 [5] rfl (by simp) ?_;refine wx ?_;simp -dsimp[htB2,hb];refine hQ _ _ _ ?_;simp -dsimp[];refine cPx (ck) (by simp) ?_;simp -dsimp[aD,LS,LR]
def ju(t:Tb)(cs:List Cn)(i:Nat):Bool:=if h:i<cs.length then(if cnR t cs[i]=[] then ju t cs (i+1) else false) else true
termination_by cs.length-i
theorem cleanF_iff(t:Tb)(cs:List Cn)(i:Nat):ju t cs i=true↔∀c∈cs.drop i,cnR t c=[]:=by
 fun_induction ju t cs i with
 | case1 i h h0 ih=>rw[rP h,uR,ih];simp[h0]
 | case2 i h h0=>rw[rP h,uR];simp[h0]
 | case3 i h=>rw[rR (by omega)];simp
theorem cleanF_hit{t:Tb}{cs:List Cn}(hb:BdOk t cs)(h0:aV t cs=0)(D:List Int):ju (kT (fF t D) t) cs 0=eA (ak (bQ t cs)) D:=by
 obtain⟨h1,_,h3⟩:=cG h0;rw[sb,cleanF_iff,rk,clean_iff (tbC h1) h3]
theorem clean_41(t:Tb)(cs:List Cn)(D:List Int)(f g fc fd:Bool)(hb:BdOk t cs)(hs:TbS t)(h0:aV t cs=0)(hD:D.length≤1000000):aL Tryz.prog 48 [aD f g t,LCn fc cs,L1 fd D] fun r=>r = .bool (eA (ak (bQ t cs)) D):=by
 rw[←cleanF_hit hb h0 D];obtain⟨h1,_,h3⟩:=cG h0;have g1:=tbC h1;have h8:=ln hb h0;have cr:=rest_41 t D f g fd (by have:=g1.wide;omega) (by omega) (fun r hr=>by have:=g1.len r hr;have:=g1.wide;omega) hD;have hk:=tbS_kT (K:=fF t D) hs;have hvk:=validT_kT (K:=fF t D) h1
 have h3k:∀c∈cs,ac (kT (fF t D) t) c=0:=fun c hc=>by rw[cnErr_kT];exact h3 c hc
 obtain⟨KT,hKT⟩:∃KT,KT=kT (fF t D) t:=⟨_,rfl⟩;rw[←hKT]at cr hk hvk h3k ⊢;obtain⟨X,hX⟩:∃X,X=ju KT cs 0:=⟨_,rfl⟩;rw[←hX]
 have htr:∀n f g t,rbB n (tcB t f g):=fun n f g t=>bS n t f g
 have htB:∀(t:Tb) f g,B.cells [.str t.name,.lst 1 f (t.attrs.map V.str),.lst 2 g (t.rows.map aI)]=tcB t f g:=fun _ _ _=>rfl
 simp only[aD,LS,LR,L1]at cr;refine sPx Tryz.func48 rfl rfl ?_;simp -dsimp[Tryz.f48,rO,aD,LS,LR,LCn,L1];refine cPx (cr) (by simp) ?_;simp -dsimp[htB];refine aG (W_loopM 32 0xffffc740 (by simp[mB]<;>rfl) (σ:=Nat) (fun i=>i≤cs.length∧ju KT cs i=X) (fun i=>cs.length-i) (fun i=>[(8,.int .i64 i)]) (fun _=>[tcB t f g,tcB KT false false]) 0 ⟨by omega,hX.symm⟩ (by simp) (by simp) (by simp) ?_);have hfew:=hb.few;rintro i ⟨hi,hx⟩ N Q hN hQ
 have hrb:∀bl∈[tcB t f g,tcB KT false false],rbB 2 bl:=fun bl hbl=>by
  simp only[rU,rS,or_false]at hbl
  rcases hbl with rfl | rfl
  ·exact htr _ _ _ _
  ·exact htr _ _ _ _
 by_cases hib:i<cs.length
 ·rw[ju,dif_pos hib]at hx;have hcb:=hb.cns _ (rQ hib);have hck:=h3k _ (rQ hib);obtain⟨c,hce⟩:∃c,c=cs[i]:=⟨_,rfl⟩;rw[←hce]at hx hcb hck;have cv:=viol37 KT c false false hk hvk hcb;rw[hck,show wlV KT c=LL false (cnR KT c) from by unfold wlV;rw[if_pos hck]]at cv;obtain⟨w,hw⟩:∃w,w=cnR KT c:=⟨_,rfl⟩;rw[←hw]at cv hx;simp only[aD,LS,LR,af,L1,LCl,LA,LL]at cv;by_cases hw0:w=[]
  ·rw[if_pos hw0]at hx;subst hw0;refine wx ?_;simp -dsimp[hib,hce.symm,af,L1,LCl,LA,tcB];refine .inr ⟨aC (by kernel_rfl),?_⟩;refine aN _ (aK (cv) (by simp)) ?_;simp -dsimp[aH i (by omega)];refine hN (i+1) _ _ ⟨by omega,hx⟩ (by omega) (by simp) ⟨[],by simp[tcB]⟩ (by simp) hrb
  ·rw[if_neg hw0]at hx;subst hx;have hwl:=List.length_pos_iff.2 hw0;refine wx ?_;simp -dsimp[hib,hce.symm,af,L1,LCl,LA,tcB];refine .inr ⟨aC (by kernel_rfl),?_⟩;refine aN _ (aK (cv) (by simp)) ?_;simp -dsimp[hw0,hwl,show(0:Int)<w.length by omega];refine hQ _ _ _ ?_;simp -dsimp[]
 ·rw[ju,dif_neg hib]at hx;subst hx;refine wx ?_;simp -dsimp[hib];refine hQ _ _ _ ?_;simp -dsimp[]
theorem repairs_r(t:Tb)(cs:List Cn)(D:List Int)(f g fc fd:Bool)(h:BdOk t cs)(hD:D.length≤1000000):aL Tryz.prog 31 [aD f g t,LCn fc cs,L1 fd D] fun r=>r = .tup [.bool (rpB t cs D),.int .i64 (blE t cs D)]:=by
 have cb:=build37 t cs f g fc h;unfold rpB;by_cases h0:aV t cs=0
 ·have he:blE t cs D=plE (aa t.rows) D:=by unfold blE;rw[if_pos h0]
  have cp:=nt t D f g fd (tbC (cG h0).1) (by have:=ln h h0;omega) hD;have cc:=clean_41 t cs D f g fc fd h (h.small (ln h h0)) h0 hD;obtain⟨p,hp,hpv,hps⟩:=plV_err (aa t.rows) D;rw[hpv]at cp;rw[he];rw[h0,jE h0]at cb;obtain⟨e,hee⟩:∃e,e=plE (aa t.rows) D:=⟨_,rfl⟩;rw[←hee]at cp ⊢;obtain⟨b,hbe⟩:∃b,b=eA (ak (bQ t cs)) D:=⟨_,rfl⟩;rw[←hbe]at cc ⊢;simp only[aD,LS,LR,LCn,iK,L1,LL]at cb cp cc;by_cases hez:e=0
  ·rw[if_pos hez];subst hez
   rcases hps with rfl | ⟨l,rfl⟩
   ·refine sPx Tryz.func31 rfl rfl ?_;simp -dsimp[Tryz.f31,rO,aD,LS,LR,LCn,L1];refine cPx (cb) (by simp) ?_;simp -dsimp[];refine cPx (cp) (by simp) ?_;simp -dsimp[];refine cPx (cc) (by simp) ?_;simp -dsimp[]
   ·refine sPx Tryz.func31 rfl rfl ?_;simp -dsimp[Tryz.f31,rO,aD,LS,LR,LCn,L1];refine cPx (cb) (by simp) ?_;simp -dsimp[];refine cPx (cp) (by simp) ?_;simp -dsimp[];refine cPx (cc) (by simp) ?_;simp -dsimp[]
  ·rw[if_neg hez]
   rcases hps with rfl | ⟨l,rfl⟩
   ·refine sPx Tryz.func31 rfl rfl ?_;simp -dsimp[Tryz.f31,rO,aD,LS,LR,LCn,L1];refine cPx (cb) (by simp) ?_;simp -dsimp[];refine cPx (cp) (by simp) ?_;simp -dsimp[hez]
   ·refine sPx Tryz.func31 rfl rfl ?_;simp -dsimp[Tryz.f31,rO,aD,LS,LR,LCn,L1];refine cPx (cb) (by simp) ?_;simp -dsimp[];refine cPx (cp) (by simp) ?_;simp -dsimp[hez]
 ·have he:blE t cs D=aV t cs:=by unfold blE;rw[if_neg h0]
  rw[he,if_neg h0];rw[qt h0]at cb;obtain⟨e,hee⟩:∃e,e=aV t cs:=⟨_,rfl⟩;rw[←hee]at cb h0 ⊢;simp only[aD,LS,LR,LCn]at cb;refine sPx Tryz.func31 rfl rfl ?_;simp -dsimp[Tryz.f31,rO,aD,LS,LR,LCn,L1];refine cPx (cb) (by simp) ?_;simp -dsimp[h0]
def mnF(E:List (List Int))(D:List Int):Nat→Bool
 | 0=>true
 | i+1=>mnF E D i&&!eA E (gp D (D.getD i 0))
theorem mnF_all(E:List (List Int))(D:List Int):∀i,i≤D.length→mnF E D i = !((D.take i).any fun a=>eA E (gp D a))
 | 0,_=>by simp[mnF]
 | i+1,h=>by
  have hg:D.getD i 0=D[i]:=by simp[tO,show i<D.length by omega]
  rw[mnF,mnF_all E D i (by omega),hg,rV (by omega),List.any_append];simp
theorem mnF_stop{E:List (List Int)}{D:List Int}{i:Nat}(h:mnF E D i=false):∀k,mnF E D (i+k)=false
 | 0=>h
 | k+1=>by rw[←tJ,mnF,mnF_stop h k];rfl
theorem mnF_min{E:List (List Int)}{D:List Int}(h:eA E D=true):minB E D=mnF E D D.length:=by
 rw[minB_any,h,re,mnF_all E D _ (rd _),sJ]
theorem minimal_r(t:Tb)(cs:List Cn)(D:List Int)(f g fc fd:Bool)(h:BdOk t cs)(hD:D.length≤1000000):aL Tryz.prog 19 [aD f g t,LCn fc cs,L1 fd D] fun r=>r = .tup [.bool (rmB t cs D),.int .i64 (blE t cs D)]:=by
 have cr:=repairs_r t cs D f g fc fd h hD
 have htr:∀n,rbB n (tcB t f g):=fun n=>bS n t f g
 have htB:B.cells [.str t.name,.lst 1 f (t.attrs.map V.str),.lst 2 g (t.rows.map aI)]=tcB t f g:=rfl
 have hrb:∀bl∈[tcB t f g],rbB 1 bl:=fun bl hbl=>by
  simp only[rU,rS,or_false]at hbl;subst hbl;exact htr _
 by_cases hyes:blE t cs D=0∧eA (ak (bQ t cs)) D=true
 ·obtain⟨hz,hh⟩:=hyes;obtain⟨h0,_⟩:=bl_ok hz
  have hrp:rpB t cs D=true:=by unfold rpB;rw[if_pos hz,hh]
  have hrm:rmB t cs D=mnF (ak (bQ t cs)) D D.length:=by unfold rmB;rw[if_pos hz,mnF_min hh]
  rw[hrp,hz]at cr;rw[hrm,hz]
  have cc:=fun D' fd' hD'=>clean_41 t cs D' f g fc fd' h (h.small (ln h h0)) h0 hD'
  obtain⟨E,hE⟩:∃E,E=ak (bQ t cs):=⟨_,rfl⟩;rw[←hE]at cc ⊢;simp only[aD,LS,LR,LCn,L1]at cr;refine sPx Tryz.func19 rfl rfl ?_;simp -dsimp[Tryz.f19,rO,aD,LS,LR,LCn,L1];refine cPx (cr) (by simp) ?_;simp -dsimp[htB];refine aG (W_loopM 37 0x1ffffc0500 (by simp[mB]<;>rfl) (σ:=Nat) (fun i=>i≤D.length) (fun i=>D.length-i) (fun i=>[(10,.int .i64 i),(8,.bool (mnF E D i))]) (fun _=>[tcB t f g]) 0 (by omega) (by simp[mnF]) (by simp) (by simp) ?_);intro i hi N Q hN hQ;by_cases hib:i<D.length
  ·have hs:mnF E D (i+1)=(mnF E D i&&!eA E (gp D D[i])):=by
    have hg:D.getD i 0=D[i]:=by simp[tO,hib]
    rw[mnF,hg]
   cases hm:mnF E D i with
   | false =>
    have hst:=mnF_stop hm (D.length-i);rw[show i+(D.length-i)=D.length by omega]at hst;refine wx ?_;simp -dsimp[hib];refine hQ _ _ _ ?_;simp -dsimp[];exact hst
   | true =>
    rw[hm,re]at hs;obtain⟨x,hx⟩:∃x,x=D[i]:=⟨_,rfl⟩;rw[←hx]at hs;have cw:=without_41 D x fd hD;have c2:=cc (gp D x) false (by have:=butL_len D x;omega);obtain⟨L,hL⟩:∃L,L=gp D x:=⟨_,rfl⟩;rw[←hL]at cw c2 hs;obtain⟨b,hb⟩:∃b,b=eA E L:=⟨_,rfl⟩;rw[←hb]at c2 hs;simp only[aD,LS,LR,LCn,L1]at cw c2;refine wx ?_;simp -dsimp[hib,hx.symm,aE,tcB];refine .inr ⟨aC (by kernel_rfl),?_⟩;refine aN _ (aK (cw) (by simp)) ?_;simp -dsimp[];refine aN _ (aK (c2) (by simp)) ?_;simp -dsimp[aH i (by omega)];refine hN (i+1) _ _ (by omega) (by omega) (by simp[hs]) ⟨[],by simp[tcB]⟩ (by simp) hrb
  ·obtain rfl:i=D.length:=by omega
   obtain⟨b,hb⟩:∃b,b=mnF E D D.length:=⟨_,rfl⟩;rw[←hb];refine wx ?_;simp -dsimp[hib];refine hQ _ _ _ ?_;simp -dsimp[];exact hb
 ·have hrp:rpB t cs D=false:=by
   unfold rpB;split
   ·rename_i hz;rw[←sg];exact fun hh=>hyes ⟨hz,hh⟩
   ·rfl
  have hrm:rmB t cs D=false:=by
   unfold rmB;split
   ·rename_i hz;rw[minB_any]
    have:eA (ak (bQ t cs)) D=false:=by rw[←sg];exact fun hh=>hyes ⟨hz,hh⟩
    rw[this];rfl
   ·rfl
  rw[hrp]at cr;rw[hrm];obtain⟨e,hee⟩:∃e,e=blE t cs D:=⟨_,rfl⟩;rw[←hee]at cr ⊢;simp only[aD,LS,LR,LCn,L1]at cr;refine sPx Tryz.func19 rfl rfl ?_;simp -dsimp[Tryz.f19,rO,aD,LS,LR,LCn,L1];refine cPx (cr) (by simp) ?_;simp -dsimp[htB];refine aG (W_loopM 37 0x1ffffc0500 (by simp[mB]<;>rfl) (σ:=Unit) (fun _=>True) (fun _=>0) (fun _=>[(10,.int .i64 0),(8,.bool false)]) (fun _=>[tcB t f g]) () trivial (by simp) (by simp) (by simp) ?_);rintro⟨⟩ _ N Q hN hQ;by_cases hD0:0<D.length
  ·refine wx ?_;simp -dsimp[hD0,show(0:Int)<D.length by omega];refine hQ _ _ _ ?_;simp -dsimp[]
  ·refine wx ?_;simp -dsimp[hD0,show ¬(0:Int)<D.length by omega];refine hQ _ _ _ ?_;simp -dsimp[]
def aj(fd fp:Bool)(D:List Int)(b:Int)(l:List Nde):V:=.agg [L1 fd D,.int .i64 b,LNd fp l]
theorem plV_cases{I D:List Int} : (plE I D=0∧plV I D = .tup [.lst 1 false ((ixE I D).map eN),.int .i64 0])∨(¬plE I D=0∧plV I D = .tup [.nilS,.int .i64 (plE I D)]):=by
 unfold plV;by_cases h:plE I D=0
 ·exact .inl ⟨h,by rw[if_pos h];rfl⟩
 ·exact .inr ⟨h,by rw[if_neg h]⟩
theorem tbc_of{t:Tb}{cs:List Cn}{w:List Int}(h:prE t cs w=0):TbC t:=tbC (cG (gQ h).1).1
theorem check_u(t:Tb)(cs:List Cn)(w D:List Int)(b:Int)(l:List Nde)(f g fc fw fd fp:Bool)(h:BdOk t cs)(hw:w.length≤1000000)(hD:D.length≤1000000)(hl:l.length≤1000000):aL Tryz.prog 21 [aD f g t,LCn fc cs,L1 fw w,aj fd fp D b l] fun r=>r = .bool (jw t cs w D b l):=by
 have c1:=kK t cs w f g fc fw h hw;by_cases hz:prE t cs w=0
 case neg =>
  have hc:jw t cs w D b l=false:=by unfold jw;rw[if_neg hz]
  rw[hc];rw[ic hz]at c1;obtain⟨e,hee⟩:∃e,e=prE t cs w:=⟨_,rfl⟩;rw[←hee]at c1 hz;simp only[aD,LS,LR,LCn,L1]at c1;refine sPx Tryz.func21 rfl rfl ?_;simp -dsimp[Tryz.f21,rO,aD,LS,LR,LCn,L1,aj,LNd];refine cPx (c1) (by simp) ?_;simp -dsimp[hz]
 case pos =>
 obtain⟨h1,h2,h3⟩:=gQ hz;have g1:=tbc_of hz;have h8:=ln h h1;have hwl:=bt h2;have c2:=places_u t D f g fd g1 (by omega) hD
 have hel:∀e∈inE t cs,e.length≤1000000:=fun e he=>by have:=h3.ed.len e he;have:=h3.n;omega
 have c3:=fun l' fl' hl'=>hits_h (inW t w) (inE t cs) l' false false fl' (by have:=h3.ne;omega) hel hl'
 have c4:=fun l' fl' h1' h2'=>pF h3 false false fl' l' h1' h2'
 have c5:=fun b'=>hsCheck (inW t w) (inE t cs) false false fp b' l hel hl
 have hix:=fun q1 q2=>ix_asc (D:=D) ((dr _).2 (oq g1)) q1 q2
 have hpl:=fun hq=>plE_ok (I:=aa t.rows) (D:=D) hq
 have hIl:(aa t.rows).length=(inW t w).length:=by rw[bC,hwl]
 rw[fL hz,hz]at c1;unfold jw;rw[if_pos hz];obtain⟨I,hI⟩:∃I,I=aa t.rows:=⟨_,rfl⟩;obtain⟨W0,hW0⟩:∃W0,W0=inW t w:=⟨_,rfl⟩;obtain⟨E,hE⟩:∃E,E=inE t cs:=⟨_,rfl⟩;rw[←hW0,←hE]at c1;rw[←hI]at c2 hix hpl hIl;rw[←hW0]at hIl;rw[←hW0,←hE]at c3 c4 c5;rw[←hW0,←hE,←hI]
 have htr:∀n,rbB n (tcB t f g):=fun n=>bS n t f g
 rcases plV_cases (I:=I) (D:=D) with⟨hp,hpv⟩ | ⟨hp,hpv⟩
 case inr =>
  rw[hpv]at c2;rw[if_neg hp];obtain⟨e,hee⟩:∃e,e=plE I D:=⟨_,rfl⟩;rw[←hee]at c2 hp;simp only[aD,LS,LR,LCn,L1,aR,LLn]at c1 c2;refine sPx Tryz.func21 rfl rfl ?_;simp -dsimp[Tryz.f21,rO,aD,LS,LR,LCn,L1,aj,LNd];refine cPx (c1) (by simp) ?_;simp -dsimp[];refine cPx (c2) (by simp) ?_;simp -dsimp[hp]
 case inl =>
 rw[hpv]at c2;rw[if_pos hp];obtain⟨q1,q2⟩:=hpl hp;obtain⟨a1,a2⟩:=hix q2 q1;rw[hIl]at a2
 have hXl:(ixE I D).length≤1000000:=by rw[gV];exact hD
 obtain⟨X,hX⟩:∃X,X=ixE I D:=⟨_,rfl⟩;rw[←hX]at c2 a1 a2 hXl ⊢;have d3:=c3 X false hXl;have d4:=c4 X false a1 a2;obtain⟨u,hu⟩:∃u,u=wl W0 X:=⟨_,rfl⟩;rw[←hu]at d4 ⊢;have d5:=c5 u;simp only[aD,LS,LR,LCn,L1,aR,LLn,LNd,Ln]at c1 c2 d3 d4 d5
 cases hh:gl E X with
 | false =>
  rw[hh]at d3;refine sPx Tryz.func21 rfl rfl ?_;simp -dsimp[Tryz.f21,rO,aD,LS,LR,LCn,L1,aj,LNd];refine cPx (c1) (by simp) ?_;simp -dsimp[];refine cPx c2 (by simp) ?_;simp -dsimp[];refine cPx d3 (by simp[eN]) ?_;simp -dsimp[]
 | true =>
  rw[hh]at d3;by_cases hub:u=b
  ·rw[decide_eq_true hub];rw[hub]at d4 d5;obtain⟨k,hk⟩:∃k,k=ej W0 E b l:=⟨_,rfl⟩;rw[←hk]at d5 ⊢;refine sPx Tryz.func21 rfl rfl ?_;simp -dsimp[Tryz.f21,rO,aD,LS,LR,LCn,L1,aj,LNd];refine cPx (c1) (by simp) ?_;simp -dsimp[];refine cPx c2 (by simp) ?_;simp -dsimp[];refine cPx d3 (by simp[eN]) ?_;simp -dsimp[];refine cPx d4 (by simp[eN]) ?_;simp -dsimp[];refine cPx d5 (by simp) ?_;simp -dsimp[]
  ·rw[decide_eq_false hub];refine sPx Tryz.func21 rfl rfl ?_;simp -dsimp[Tryz.f21,rO,aD,LS,LR,LCn,L1,aj,LNd];refine cPx (c1) (by simp) ?_;simp -dsimp[];refine cPx c2 (by simp) ?_;simp -dsimp[];refine cPx d3 (by simp[eN]) ?_;simp -dsimp[];refine cPx d4 (by simp[eN]) ?_;simp -dsimp[hub]
theorem check_r(t:Tb)(cs:List Cn)(w D:List Int)(b:Int)(l:List Nde)(f g fc fw fd fp:Bool)(h:BdOk t cs)(hw:w.length≤1000000)(hD:D.length≤1000000)(hl:l.length≤1000000):aL Tryz.prog 20 [aD f g t,LCn fc cs,L1 fw w,aj fd fp D b l] fun r=>r = .bool (jw t cs w D b l):=by
 have c1:=fT t cs w f g fc fw h hw;by_cases hz:prE t cs w=0
 case neg =>
  have hc:jw t cs w D b l=false:=by unfold jw;rw[if_neg hz]
  rw[hc];rw[ic hz]at c1;obtain⟨e,hee⟩:∃e,e=prE t cs w:=⟨_,rfl⟩;rw[←hee]at c1 hz;simp only[aD,LS,LR,LCn,L1]at c1;refine sPx Tryz.func20 rfl rfl ?_;simp -dsimp[Tryz.f20,rO,aD,LS,LR,LCn,L1,aj,LNd];refine cPx (c1) (by simp) ?_;simp -dsimp[hz]
 case pos =>
 obtain⟨h1,h2,h3⟩:=gQ hz;have g1:=tbc_of hz;have h8:=ln h h1;have hwl:=bt h2;have c2:=nt t D f g fd g1 (by omega) hD
 have hel:∀e∈inE t cs,e.length≤1000000:=fun e he=>by have:=h3.ed.len e he;have:=h3.n;omega
 have c3:=fun l' fl' hl'=>hits39 (inW t w) (inE t cs) l' false false fl' (by have:=h3.ne;omega) hel hl'
 have c4:=fun l' fl' h1' h2'=>weight39 h3 false false fl' l' h1' h2'
 have c5:=fun b'=>check39 (inW t w) (inE t cs) false false fp b' l hel hl
 have hix:=fun q1 q2=>ix_asc (D:=D) ((dr _).2 (oq g1)) q1 q2
 have hpl:=fun hq=>plE_ok (I:=aa t.rows) (D:=D) hq
 have hIl:(aa t.rows).length=(inW t w).length:=by rw[bC,hwl]
 rw[fL hz,hz]at c1;unfold jw;rw[if_pos hz];obtain⟨I,hI⟩:∃I,I=aa t.rows:=⟨_,rfl⟩;obtain⟨W0,hW0⟩:∃W0,W0=inW t w:=⟨_,rfl⟩;obtain⟨E,hE⟩:∃E,E=inE t cs:=⟨_,rfl⟩;rw[←hW0,←hE]at c1;rw[←hI]at c2 hix hpl hIl;rw[←hW0]at hIl;rw[←hW0,←hE]at c3 c4 c5;rw[←hW0,←hE,←hI]
 have htr:∀n,rbB n (tcB t f g):=fun n=>bS n t f g
 rcases plV_cases (I:=I) (D:=D) with⟨hp,hpv⟩ | ⟨hp,hpv⟩
 case inr =>
  rw[hpv]at c2;rw[if_neg hp];obtain⟨e,hee⟩:∃e,e=plE I D:=⟨_,rfl⟩;rw[←hee]at c2 hp;simp only[aD,LS,LR,LCn,L1,aR,LLn]at c1 c2;refine sPx Tryz.func20 rfl rfl ?_;simp -dsimp[Tryz.f20,rO,aD,LS,LR,LCn,L1,aj,LNd];refine cPx (c1) (by simp) ?_;simp -dsimp[];refine cPx (c2) (by simp) ?_;simp -dsimp[hp]
 case inl =>
 rw[hpv]at c2;rw[if_pos hp];obtain⟨q1,q2⟩:=hpl hp;obtain⟨a1,a2⟩:=hix q2 q1;rw[hIl]at a2
 have hXl:(ixE I D).length≤1000000:=by rw[gV];exact hD
 obtain⟨X,hX⟩:∃X,X=ixE I D:=⟨_,rfl⟩;rw[←hX]at c2 a1 a2 hXl ⊢;have d3:=c3 X false hXl;have d4:=c4 X false a1 a2;obtain⟨u,hu⟩:∃u,u=wl W0 X:=⟨_,rfl⟩;rw[←hu]at d4 ⊢;have d5:=c5 u;simp only[aD,LS,LR,LCn,L1,aR,LLn,LNd,Ln]at c1 c2 d3 d4 d5
 cases hh:gl E X with
 | false =>
  rw[hh]at d3;refine sPx Tryz.func20 rfl rfl ?_;simp -dsimp[Tryz.f20,rO,aD,LS,LR,LCn,L1,aj,LNd];refine cPx (c1) (by simp) ?_;simp -dsimp[];refine cPx c2 (by simp) ?_;simp -dsimp[];refine cPx d3 (by simp[eN]) ?_;simp -dsimp[]
 | true =>
  rw[hh]at d3;by_cases hub:u=b
  ·rw[decide_eq_true hub];rw[hub]at d4 d5;obtain⟨k,hk⟩:∃k,k=ej W0 E b l:=⟨_,rfl⟩;rw[←hk]at d5 ⊢;refine sPx Tryz.func20 rfl rfl ?_;simp -dsimp[Tryz.f20,rO,aD,LS,LR,LCn,L1,aj,LNd];refine cPx (c1) (by simp) ?_;simp -dsimp[];refine cPx c2 (by simp) ?_;simp -dsimp[];refine cPx d3 (by simp[eN]) ?_;simp -dsimp[];refine cPx d4 (by simp[eN]) ?_;simp -dsimp[];refine cPx d5 (by simp) ?_;simp -dsimp[]
  ·rw[decide_eq_false hub];refine sPx Tryz.func20 rfl rfl ?_;simp -dsimp[Tryz.f20,rO,aD,LS,LR,LCn,L1,aj,LNd];refine cPx (c1) (by simp) ?_;simp -dsimp[];refine cPx c2 (by simp) ?_;simp -dsimp[];refine cPx d3 (by simp[eN]) ?_;simp -dsimp[];refine cPx d4 (by simp[eN]) ?_;simp -dsimp[hub]
noncomputable def lowB(t:Tb)(cs:List Cn)(w:List Int):Int:=(bw (inW t w) (inE t cs) (rO (inW t w).length 0)).2
noncomputable def highB(t:Tb)(cs:List Cn)(w:List Int):Int:=wl (inW t w) (cL (inW t w) (inE t cs))
noncomputable def bdsV(t:Tb)(cs:List Cn)(w:List Int):V:=if prE t cs w=0 then .tup [.int .i64 (lowB t cs w),.int .i64 (highB t cs w),.int .i64 0] else .tup [.int .i64 0,.int .i64 0,.int .i64 (prE t cs w)]
theorem bounds_u(t:Tb)(cs:List Cn)(w:List Int)(f g fc fw:Bool)(h:BdOk t cs)(hw:w.length≤1000000):aL Tryz.prog 29 [aD f g t,LCn fc cs,L1 fw w] fun r=>r=bdsV t cs w:=by
 have c1:=kK t cs w f g fc fw h hw;unfold bdsV;by_cases hz:prE t cs w=0
 case neg =>
  rw[if_neg hz];rw[ic hz]at c1;obtain⟨e,hee⟩:∃e,e=prE t cs w:=⟨_,rfl⟩;rw[←hee]at c1 hz ⊢;simp only[aD,LS,LR,LCn,L1]at c1;refine sPx Tryz.func29 rfl rfl ?_;simp -dsimp[Tryz.f29,rO,aD,LS,LR,LCn,L1];refine cPx (c1) (by simp) ?_;simp -dsimp[hz]
 case pos =>
 rw[if_pos hz];obtain⟨h1,h2,h3⟩:=gQ hz;have h8:=ln h h1;have hwl:=bt h2;have c2:=packing_u h3 false false;have c3:=greedy_u h3 false false (by omega);have gr:=iq h3 (by omega)
 have c4:=fun fl=>pF h3 false false fl (cL (inW t w) (inE t cs)) gr.s gr.n
 rw[fL hz,hz]at c1;unfold lowB highB;obtain⟨P,hP⟩:∃P,P=bw (inW t w) (inE t cs) (rO (inW t w).length 0):=⟨_,rfl⟩;obtain⟨G,hG⟩:∃G,G=cL (inW t w) (inE t cs):=⟨_,rfl⟩;rw[←hP]at c2 ⊢;rw[←hG]at c3 c4 ⊢;obtain⟨W0,hW0⟩:∃W0,W0=inW t w:=⟨_,rfl⟩;obtain⟨E,hE⟩:∃E,E=inE t cs:=⟨_,rfl⟩;rw[←hW0,←hE]at c1 c2 c3 c4;rw[←hW0];have d4:=c4 false;simp only[aD,LS,LR,LCn,L1,aR,LLn,LSh,Ln]at c1 c2 c3 d4;refine sPx Tryz.func29 rfl rfl ?_;simp -dsimp[Tryz.f29,rO,aD,LS,LR,LCn,L1];refine cPx (c1) (by simp) ?_;simp -dsimp[];refine cPx c2 (by simp) ?_;simp -dsimp[];refine cPx c3 (by simp) ?_;simp -dsimp[];refine cPx d4 (by simp[eN]) ?_;simp -dsimp[]
theorem rel_fl{s:AM.St}{z:Nat}{fl:Bool}{xs:List V}{u:Value}(h:Rel s (.lst z fl xs) u):Rel s (.lst z false xs) u:=by
 cases h with
 | lst _ _ _ A cap b off u hcap hfull hA hz0 hcell hrel=>exact .lst z false xs A cap b off u hcap (fun h=>by cases h) hA hz0 hcell hrel
theorem rel_tup2f{s:AM.St}{b:V}{z:Nat}{fl:Bool}{xs:List V}{u:Value}(h:Rel s (.tup [.lst z fl xs,b]) u):Rel s (.tup [.lst z false xs,b]) u:=by
 cases h with
 | tup _ us hl hr =>
  refine .tup _ us (by simpa using hl) (fun i v x hv hx=>?_)
  match i with
  | 0=>simp at hv;subst hv;exact rel_fl (hr 0 _ x rfl hx)
  | 1=>simp at hv;subst hv;exact hr 1 _ x rfl hx
  | i+2=>simp at hv
theorem rel_tup3f{s:AM.St}{b c:V}{z:Nat}{fl:Bool}{xs:List V}{u:Value}(h:Rel s (.tup [.lst z fl xs,b,c]) u):Rel s (.tup [.lst z false xs,b,c]) u:=by
 cases h with
 | tup _ us hl hr =>
  refine .tup _ us (by simpa using hl) (fun i v x hv hx=>?_)
  match i with
  | 0=>simp at hv;subst hv;exact rel_fl (hr 0 _ x rfl hx)
  | 1=>simp at hv;subst hv;exact hr 1 _ x rfl hx
  | 2=>simp at hv;subst hv;exact hr 2 _ x rfl hx
  | i+3=>simp at hv
noncomputable def opE(t:Tb)(cs:List Cn)(w:List Int)(lf:Int):Int:=if prE t cs w=0 then(if lf<1 then 1 else 0) else prE t cs w
noncomputable def opV(t:Tb)(cs:List Cn)(w:List Int)(lf:Int):V:=if opE t cs w lf=0 then aj false false (fo t cs w) (gj t cs w) (jb t cs w) else .agg [.nilS,.int .i64 0,.nilS]
theorem min_take{I:List Int}{M:List Nat}{i:Nat}(h:i<M.length):((M.take (i+1)).map fun v=>I.getD v 0)=((M.take i).map fun v=>I.getD v 0)++[I.getD M[i] 0]:=by
 rw[rV h,sX];rfl
theorem nK(t:Tb)(cs:List Cn)(w:List Int)(lf:Int)(f g fc fw:Bool)(h:BdOk t cs)(hw:w.length≤1000000)(hlf:lf<1∨lf=10000):aL Tryz.prog 18 [aD f g t,LCn fc cs,L1 fw w,.int .i64 lf] fun r=>r = .tup [opV t cs w lf,.int .i64 (opE t cs w lf)]:=by
 have c1:=kK t cs w f g fc fw h hw;by_cases hz:prE t cs w=0
 case neg =>
  have he:opE t cs w lf=prE t cs w:=by unfold opE;rw[if_neg hz]
  have hv:opV t cs w lf = .agg [.nilS,.int .i64 0,.nilS]:=by unfold opV;rw[he,if_neg hz]
  rw[he,hv];rw[ic hz]at c1;obtain⟨e,hee⟩:∃e,e=prE t cs w:=⟨_,rfl⟩;rw[←hee]at c1 hz ⊢;simp only[aD,LS,LR,LCn,L1]at c1;refine sPx Tryz.func18 rfl rfl ?_;simp -dsimp[Tryz.f18,rO,aD,LS,LR,LCn,L1];refine cPx (c1) (by simp) ?_;simp -dsimp[hz]
 case pos =>
 obtain⟨h1,h2,h3⟩:=gQ hz;have h8:=ln h h1;have hwl:=bt h2;have O:=opt_ok h hz;rw[fL hz,hz]at c1;by_cases hl1:lf<1
 ·have he:opE t cs w lf=1:=by unfold opE;rw[if_pos hz,if_pos hl1]
  have hv:opV t cs w lf = .agg [.nilS,.int .i64 0,.nilS]:=by unfold opV;rw[he,if_neg (by decide)]
  rw[he,hv];simp only[aD,LS,LR,LCn,L1,aR,LLn]at c1;refine sPx Tryz.func18 rfl rfl ?_;simp -dsimp[Tryz.f18,rO,aD,LS,LR,LCn,L1];refine cPx (c1) (by simp) ?_;simp -dsimp[hl1]
 obtain rfl:lf=10000:=hlf.resolve_left hl1
 have he:opE t cs w 10000=0:=by unfold opE;rw[if_pos hz,if_neg (by decide)]
 have hv:opV t cs w 10000=aj false false (fo t cs w) (gj t cs w) (jb t cs w):=by unfold opV;rw[if_pos he]
 rw[he,hv]
 have hpw:(2:Int)^((inW t w).length+1)-1≤10000:=by
  have h1:(2:Nat)^((inW t w).length+1)≤512:=sF (sd (by omega) (show _≤9 by omega)) (by decide);have h2:((2^((inW t w).length+1):Nat):Int)≤(512:Nat):=Int.ofNat_le.2 h1;rw[Int.natCast_pow]at h2;have h3:(((2:Nat):Int))^((inW t w).length+1)=(2:Int)^((inW t w).length+1):=rfl;omega
 have c2:aL Tryz.prog 46 [aR false false (inW t w) (inE t cs),.int .i64 10000] fun r=>r = .tup [.lst 1 false ((kn (inW t w) (inE t cs) 10000).map eN),.int .i64 (gj t cs w),.int .i64 0]:=by
  refine ka (minimum_u h3 false false (by omega) 10000 hpw (by omega) (by omega)) fun s u r hr hrel=>?_
  obtain⟨fl,rfl⟩:=hr;exact⟨_,rel_tup3f hrel,by simp[eN],rfl⟩
 have hMn:∀v∈kn (inW t w) (inE t cs) 10000,v<(inW t w).length:=by
  obtain⟨T,_,hm,_⟩:=fj h hz;rw[hm]
  exact fun v hv=>List.mem_range.1 (List.mem_filter.1 hv).1
 have hMl:(kn (inW t w) (inE t cs) 10000).length≤8:=by
  obtain⟨T,_,hm,_⟩:=fj h hz;rw[hm];exact sF (rz _ _) (by rw[uj,hwl];exact h8)
 obtain⟨lf',hp1,hp2⟩:=O.prv;have hol:=O.len;have hrg:=O.rng
 have c3:aL Tryz.prog 47 [aR false false (inW t w) (inE t cs),.int .i64 (gj t cs w),.int .i64 10000] fun r=>r = .tup [LNd false (jb t cs w),.int .i64 0]:=by
  refine ka (prove_u h3 false false (gj t cs w) 10000 _ hp1 (by omega) (by omega) (by omega) (by omega) (by simp only;omega) (by simp only;omega)) fun s u r hr hrel=>?_
  obtain⟨fl,rfl⟩:=hr;exact⟨_,rel_tup2f hrel,by simp,rfl⟩
 have hOD:fo t cs w=(kn (inW t w) (inE t cs) 10000).map fun v=>(aa t.rows).getD v 0:=rfl
 rw[hOD]
 have htr:∀n,rbB n (tcB t f g):=fun n=>bS n t f g
 obtain⟨M,hM⟩:∃M,M=kn (inW t w) (inE t cs) 10000:=⟨_,rfl⟩;rw[←hM]at c2 hMn hMl ⊢;obtain⟨b,hbe⟩:∃b,b=gj t cs w:=⟨_,rfl⟩;rw[←hbe]at c2 c3 ⊢;obtain⟨N0,hN0⟩:∃N0,N0=jb t cs w:=⟨_,rfl⟩;rw[←hN0]at c3 ⊢;rw[hwl]at hMn;obtain⟨W0,hW0⟩:∃W0,W0=inW t w:=⟨_,rfl⟩;obtain⟨E,hE⟩:∃E,E=inE t cs:=⟨_,rfl⟩;rw[←hW0,←hE]at c1 c2 c3;obtain⟨R,hR⟩:∃R,R=t.rows:=⟨_,rfl⟩;rw[←hR]at hMn ⊢
 have htB:B.cells [.str t.name,.lst 1 f (t.attrs.map V.str),.lst 2 g (R.map aI)]=tcB t f g:=by rw[hR];rfl
 have hid:∀v (h:v<R.length),(aa R).getD v 0=R[v].id:=fun v hv=>by simp[aa,tO,hv]
 simp only[aD,LS,LR,LCn,L1,aR,LLn,LNd]at c1 c2 c3;rw[←hR]at c1;refine sPx Tryz.func18 rfl rfl ?_;simp -dsimp[Tryz.f18,rO,aD,LS,LR,LCn,L1,hR.symm];refine cPx (c1) (by simp) ?_;simp -dsimp[];refine cPx c2 (by simp) ?_;simp -dsimp[];refine cPx c3 (by simp) ?_;simp -dsimp[htB];refine aG (eS 2 1 [] 3 [0] rfl (by simp) (by simp) (W_loopM 75 0x7fff800000000c60000 (by simp[mB]<;>rfl) (σ:=Nat) (fun i=>i≤M.length) (fun i=>M.length-i) (fun i=>[(59,.int .i64 i)]) (fun i=>[tcB t f g,B.cells [.nilS,.int .i64 0,.nilS],B.cells [.lst 1 false (W0.map aE),.lst 1 false (E.map (Ln false))],B.cells [.buf 4 0 i i,.int .i64 b,.lst 2 false (N0.map aS)],B.buf 2 1 (((M.take i).map fun v=>(aa R).getD v 0).map aE) false]) 0 (by omega) (by simp) (by simp) (by simp) ?_));intro i hi N Q hN hQ
 have hrb:∀(i:Nat) (l:List Int),∀bl∈[tcB t f g,B.cells [.nilS,.int .i64 0,.nilS],B.cells [.lst 1 false (W0.map aE),.lst 1 false (E.map (Ln false))],B.cells [.buf 4 0 i i,.int .i64 b,.lst 2 false (N0.map aS)],B.buf 2 1 (l.map aE) false],rbB 5 bl:=fun i l bl hbl=>by
  simp only[rU,rS,or_false]at hbl
  rcases hbl with rfl | rfl | rfl | rfl | rfl
  ·exact htr _
  ·intro c hc;simp only[rU,rS,or_false]at hc;rcases hc with rfl | rfl | rfl<;>simp[rb,rb1]
  ·exact cM (by simp[rb]) (by simp[rb])
  ·intro c hc;simp only[rU,rS,or_false]at hc;rcases hc with rfl | rfl | rfl<;>simp[rb,rb1]
  ·exact gW _ _ _ _
 have htl:((M.take i).map fun v=>(aa R).getD v 0).length=i:=by simp;omega
 by_cases hib:i<M.length
 ·have hs:=min_take (I:=aa R) hib;have hvn:=hMn _ (rQ hib);obtain⟨v,hve⟩:∃v,v=M[i]:=⟨_,rfl⟩;rw[←hve]at hs hvn;rw[hid v hvn]at hs;obtain⟨x,hx⟩:∃x,x=R[v]:=⟨_,rfl⟩;rw[←hx]at hs
  obtain⟨l,hl⟩:∃l,l=(M.take i).map fun v=>(aa R).getD v 0:=⟨_,rfl⟩
  rw[←hl]at hs htl ⊢;rw[←htB];refine wx ?_;simp -dsimp[hib,hve.symm,eN];refine aG (aW tok mixed [9,11] [] [] (by kernel_rfl) fun C K hC hK=>?_);simp -implicitDefEqProofs [hib,hve.symm,eN,hvn,hx.symm,aI,LV,htl,go i (by omega),ai i (by omega)];refine hK _ _ ?_;simp -dsimp[aH i (by omega)];refine hN (i+1) _ _ (by omega) (by omega) (by simp) ⟨[],by rw[hs];simp[aE,←htB]⟩ (by simp) (hrb _ _)
 ·obtain rfl:i=M.length:=by omega
  rw[sJ]at htl ⊢;refine eT 4 [] 3 [0] rfl rfl (by simp) (by simp) ?_;refine wx ?_;simp -dsimp[hib];refine hQ _ _ _ ?_;simp -dsimp[];simp[aj,L1,LNd]
theorem same41(ws:List Int)(es:List (List Nat))(f g f2 g2:Bool)(hw:ws.length≤1000000)(hes:es.length≤1000000)(he:∀e∈es,e.length≤1000000):aL Tryz.prog 17 [aR f g ws es,aR f2 g2 ws es] fun r=>r = .bool true:=by
 have c1:=ids03 ws ws f f2 hw hw;rw[decide_eq_true rfl]at c1;simp only[L1]at c1
 have hrb:∀bl∈[B.cells [.lst 1 f (ws.map aE),.lst 1 g (es.map (Ln false))],B.cells [.lst 1 f2 (ws.map aE),.lst 1 g2 (es.map (Ln false))]],rbB 2 bl:=fun bl hbl=>by
  simp only[rU,rS,or_false]at hbl
  rcases hbl with rfl | rfl<;>exact hs_rb _ _ _ _ _
 refine sPx Tryz.func17 rfl rfl ?_;simp -dsimp[Tryz.f17,rO,aR,L1,LLn];refine cPx (c1) (by simp) ?_;simp -dsimp[];refine aG (W_loopM 69 0x1fffffffffffc00070 (by simp[mB]<;>rfl) (σ:=Nat) (fun i=>i≤es.length) (fun i=>es.length-i) (fun i=>[(5,.int .i64 i)]) (fun _=>[B.cells [.lst 1 f (ws.map aE),.lst 1 g (es.map (Ln false))],B.cells [.lst 1 f2 (ws.map aE),.lst 1 g2 (es.map (Ln false))]]) 0 (by omega) (by simp) (by simp) (by simp) ?_);intro i hi N Q hN hQ;by_cases hb:i<es.length
 ·have h1:=he _ (rQ hb);obtain⟨e,hee⟩:∃e,e=es[i]:=⟨_,rfl⟩;rw[←hee]at h1;refine wx ?_;simp -dsimp[hb,hee.symm,Ln];refine .inr ⟨aC (by kernel_rfl),?_⟩;refine aG (W_loopM 69 0x1ffffffc0000000050 (by simp[mB]<;>rfl) (σ:=Nat) (fun k=>k≤e.length) (fun k=>e.length-k) (fun k=>[(6,.int .i64 k)]) (fun _=>[B.cells [.lst 1 f (ws.map aE),.lst 1 g (es.map (Ln false))],B.cells [.lst 1 f2 (ws.map aE),.lst 1 g2 (es.map (Ln false))]]) 0 (by omega) (by simp) (by simp) (by simp) ?_);intro k hk N2 Q2 hN2 hQ2;by_cases hkb:k<e.length
  ·obtain⟨x,hx⟩:∃x,x=e[k]:=⟨_,rfl⟩;refine wx ?_;simp -dsimp[hkb,hb,hee.symm,hx.symm,Ln,eN];refine .inr ⟨aC (by kernel_rfl),?_⟩;simp -dsimp[aH k (by omega)];refine hN2 (k+1) _ _ (by omega) (by omega) (by simp) ⟨[],by simp⟩ (by simp) hrb
  ·obtain rfl:k=e.length:=by omega
   refine wx ?_;simp -dsimp[hkb,hb,hee.symm,Ln];refine hQ2 _ _ _ ?_;simp -dsimp[aH i (by omega)];refine hN (i+1) _ _ (by omega) (by omega) (by simp) ⟨[],by simp⟩ (by simp) hrb
 ·obtain rfl:i=es.length:=by omega
  refine wx ?_;simp -dsimp[hb];refine hQ _ _ _ ?_;simp -dsimp[]
theorem same41n:aL Tryz.prog 17 [.agg [.nilS,.nilS],.agg [.nilS,.nilS]] fun r=>r = .bool true:=by
 have h:=same41 [] [] false false false false (by simp) (by simp) (by simp);refine na h rfl (fun i a a' h1 h2=>?_)
 have hle:Le (.agg [.nilS,.nilS]) (aR false false [] []):=.agg _ _ rfl (fun i c d h3 h4=>by
  match i with
  | 0=>simp at h3 h4;subst h3;subst h4;exact .nil _ _
  | 1=>simp[LLn]at h3 h4;subst h3;subst h4;exact .nil _ _
  | n+2=>simp at h3)
 match i with
 | 0=>simp at h1 h2;subst h1;subst h2;exact hle
 | 1=>simp at h1 h2;subst h1;subst h2;exact hle
 | n+2=>simp at h1
structure CaseR (t:Tb) (cs:List Cn) (w:List Int):Prop where
 b:BdOk t cs
 s:TbS t
 n:t.rows.length≤6
 e:∀c∈cs,ac t c=0
 z:aV t cs=0
 p:prE t cs w=0
 l4:cs.length≤4
 wl:w=[]∨w.length=t.rows.length
 w6:w.length≤6
 wr:∀x∈w,1≤x∧x≤20
theorem pB{x:Rcp}{rs:List Rul}{ws:List Int}(h:C4Ok x rs ws)(hb:pi x rs=true):CaseR (ofT x) (mH x rs) (wOf (ofT x).rows.length ws):=by
 unfold pi at hb;rw[rX,rX,decide_eq_true_iff,decide_eq_true_iff]at hb;obtain⟨⟨h6,hall⟩,h4⟩:=hb;have hxo:RcpOk x:=⟨h.a,h.gap,h6,h.len⟩
 have hT:ofT x=eV x:=by unfold ofT;rw[if_pos h6]
 have hL:mH x rs=rs.map (eW (eV x).attrs.length):=by unfold mH;rw[if_pos hall,hT]
 obtain⟨h1,h2,h3⟩:=bd_rcp hxo h.r hall h4;have hr:=kG x;rw[hT,hL];have hwr:=wOf_rng (n:=(eV x).rows.length) h.w;have hwl:=wOf_len (eV x).rows.length ws
 have hw6:(wOf (eV x).rows.length ws).length≤6:=by
  rcases hwl with e | e
  ·rw[e];simp
  ·rw[e,hr];exact h6
 exact⟨h1,(tbOf_ok hxo).1,by omega,h2,h3,pr_zero h1 h3 hwl (fun v hv=>by have:=hwr v hv;omega),by rw[sK];exact h4,hwl,hw6,hwr⟩
theorem CaseR.opt{t:Tb}{cs:List Cn}{w:List Int}(h:CaseR t cs w):OptS t cs w:=opt_ok h.b h.p
theorem optD_len{t:Tb}{cs:List Cn}{w:List Int}(h:CaseR t cs w):(fo t cs w).length≤6:=by
 unfold fo;rw[sK];obtain⟨T,_,hm,_⟩:=fj h.b h.p;rw[hm];refine sF (rz _ _) ?_;rw[uj,bt h.wl];exact h.n
theorem CaseR.op{t:Tb}{cs:List Cn}{w:List Int}(h:CaseR t cs w):opE t cs w 10000=0∧opV t cs w 10000=aj false false (fo t cs w) (gj t cs w) (jb t cs w):=by
 have he:opE t cs w 10000=0:=by unfold opE;rw[if_pos h.p,if_neg (by decide)]
 exact⟨he,by unfold opV;rw[if_pos he]⟩
theorem CaseR.hsb{t:Tb}{cs:List Cn}{w:List Int}(h:CaseR t cs w):HsB (inW t w) (inE t cs)∧(inW t w).length≤6:=by
 obtain⟨h1,h2,h3⟩:=gQ h.p;exact⟨h3,by rw[bt h2];exact h.n⟩
theorem CaseR.lst{t:Tb}{cs:List Cn}{w:List Int}(h:CaseR t cs w):aL Tryz.prog 22 [aR false false (inW t w) (inE t cs)] fun r=>r = .int .i64 (jf t cs w):=least39 h.hsb.1 (by have:=h.hsb.2;omega) false false
end
end Go.Proofs.YtjogkbekekdkjaaGreatDoor
