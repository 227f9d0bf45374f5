/- JX9: own texts of this seat, joined and shortened by pack4.py: W9, W10, Pl2, W12, W13, W16, W17, K0, Wk, Pl3, Pl4, Mn, LayI, SO3, Rl, GrH, GrZ, CatZ, Wd, Cl64, Gr, Lo, Dn. -/
import Derived.Test.YtjogkbekekdkjaaGreatDoorJX8
import Derived.WalkSpells
import Derived.WalkLawsBesides
import Derived.Lib.Hide
import Derived.Maps.AppendAt
import Derived.Shelf.SlSortCmp.NoneTotal
import Derived.WalkKit
import Derived.Lib.Walk
import Derived.Lib.SliceRun
import Derived.Lib.AppendZerosOnto
import Derived.OwnWalk
set_option linter.unusedVariables false
set_option linter.unusedSimpArgs false
set_option maxRecDepth 100000
set_option maxHeartbeats 64000000
open Array renaming getElem?_toList→tI,length_toList→tQ,getElem?_eq_getElem→uQ,size_append→ug,getElem_map→vG
open Bool renaming and_eq_true→rX,true_and→re,false_eq_true→rn,not_eq_true'→sL,or_eq_true→sV,false_or→sf
open List renaming replicate→rO,drop_eq_getElem_cons→rP,getElem_mem→rQ,drop_of_length_le→rR,not_mem_nil→rS,getElem?_eq_getElem→rT,mem_cons→rU,take_succ_eq_append_getElem→rV,range→rh,length_append→ri,append_nil→rj,drop_zero→rk,take_of_length_le→rt,getElem?_set_ne→ry,getElem?_set_self→sA,length_cons→sB,mem_singleton→sC,mem_of_mem_take→sD,mem_cons_self→sE,mem_cons_of_mem→sG,all_eq_true→sH,take_length→sJ,length_map→sK,getElem?_map→sQ,map_append→sX,mem_of_mem_drop→sh,getElem?_cons_succ→sk,mem_append→sx,set_set→tC,take_append_drop→tG,any_cons→tK,length_drop→tL,getD→tO,length_take→tR,mem_append_right→tf,pairwise_append→ti,ext_getElem?→tn,map_nil→tt,pairwise_cons→uA,mem_range→uD,map_set→uM,any_eq_true→uO,forall_mem_cons→uR,mem_append_left→uT,getElem?_set→uh,flatten_append→vA,map_map→vE
open Nat renaming le_refl→rd,lt_of_lt_of_le→sI,add_mul→sM,zero_le→sY,lt_or_ge→sy,zero_add→tU,add_zero→tm,add_sub_cancel→tz,zero_mul→uC,strongRecOn→ud,mul_one→vM
open Option renaming map_some→sU
namespace Go.Proofs.YtjogkbekekdkjaaGreatDoor
section
open Go Go.AM
theorem edges37(l:List (List Int))(g:Bool)(hl:l.length≤1000000)(hls:∀e∈l,e.length≤1000000)(hne:∀e∈l,e≠[]):aL Tryz.prog 86 [LL g l] fun r=>r=LL false (ak l):=by
 refine ay (aF (tkf 34) Tryz.func86 rfl rfl ?_);refine W_x (tkf 34) mixed ?_;simp -dsimp[Tryz.f86,rO,LL,L1,aM];refine aG (bf 34 1 [3] (by simp) (W_loopM 93 0x1ffffffffffffffffffffff8 (by simp[mB]<;>rfl) (σ:=Nat) (fun i=>i≤l.length) (fun i=>l.length-i) (fun i=>[(4,.int .i64 i),(3,.buf 0 0 (bH l i).length (bH l i).length)]) (fun i=>[B.buf 34 1 ((bH l i).map (L1 false)) false]) 0 (by omega) (by simp[bH]) (by simp[bH]) (by simp) ?_));intro i hi N Q hN hQ;by_cases hb:i<l.length
 ·have hei:=hls l[i] (rQ hb);have hni:=hne l[i] (rQ hb);have hal:=jp l i
  have hsi:bH l (i+1)=if keepE l i then io (bH l i) (eAt l i) else bH l i:=rfl
  have hEi:eAt l i=l[i]:=dO hb;rw[hEi]at hsi;obtain⟨acc,hacc⟩:∃acc,acc=bH l i:=⟨_,rfl⟩;rw[←hacc]at hal hsi ⊢;refine W_x (tkf 34) mixed ?_;simp -dsimp[LL,hb,L1,aM];refine aG (W_loopM 47 0x7fffffffc060 (by simp[mB]<;>rfl) (σ:=Nat) (fun k=>k≤l.length) (fun k=>l.length-k) (fun k=>[(6,.int .i64 k),(5,.bool (fB l i k))]) (fun _=>[B.buf 34 1 (acc.map (L1 false)) false]) 0 (by omega) (by simp[fB]) (by simp) (by simp) ?_);intro k hk N2 Q2 hN2 hQ2;by_cases hkb:k<l.length
  ·
   have hek:=hls l[k] (rQ hkb);have hc:=within37 l[k] l[i] false false hek hei;have hEk:eAt l k=l[k]:=dO hkb
   have hd:fB l i (k+1)=(fB l i k&&!(dM l[k] l[i]&&(decide (l[k].length<l[i].length)||decide (k<i)))):=by simp only[fB,qX,hEk,hEi]
   simp only[L1]at hc;refine W_x (tkf 34) mixed ?_;simp -dsimp[LL,L1,hb,hkb,L1,aM];refine .inr ⟨aC (by kernel_rfl),?_⟩;refine aN _ (aK (hc) (by simp)) ?_;cases h1:dM l[k] l[i]
   ·rw[h1]at hd;simp -dsimp[aH k (by omega),L1,aM];refine hN2 (k+1) _ _ (by omega) (by omega) ?_ ⟨[],?_⟩ ?_ ?_<;>simp[or_imp,forall_and,L1,aE,hd]
   ·by_cases h2:l[k].length<l[i].length
    ·simp -dsimp[aH k (by omega),hb,hkb,h2,L1,aM];refine hN2 (k+1) _ _ (by omega) (by omega) ?_ ⟨[],?_⟩ ?_ ?_<;>simp[or_imp,forall_and,L1,aE,hd,h1,h2]
    ·by_cases h3:k<i
     ·simp -dsimp[aH k (by omega),hb,hkb,h2,h3,L1,aM];refine hN2 (k+1) _ _ (by omega) (by omega) ?_ ⟨[],?_⟩ ?_ ?_<;>simp[or_imp,forall_and,L1,aE,hd,h1,h2,h3]
     ·simp -dsimp[aH k (by omega),hb,hkb,h2,h3,L1,aM];refine hN2 (k+1) _ _ (by omega) (by omega) ?_ ⟨[],?_⟩ ?_ ?_<;>simp[or_imp,forall_and,L1,aE,hd,h1,h2,h3]
  ·obtain rfl:k=l.length:=by omega
   have hke:fB l i l.length=keepE l i:=rfl;refine W_x (tkf 34) mixed ?_;simp -dsimp[hkb,L1,aM];refine hQ2 _ _ _ ?_;simp -dsimp[L1,aM];cases hkp:keepE l i
   ·rw[hkp]at hsi hke;simp -dsimp[hke,aH i (by omega),L1,aM];refine hN (i+1) _ _ (by omega) (by omega) ?_ ⟨[],?_⟩ ?_ ?_<;>simp[or_imp,forall_and,L1,aE,hsi]
   ·rw[hkp]at hsi hke;simp -dsimp[hke,hb,hni,fI acc.length (by omega),capL8 l[i].length (by omega),ai acc.length (by omega),L1,aM];refine aG (W_loopM 93 0x1fffffffe000000000000080 (by simp[mB]<;>rfl) (σ:=Nat) (fun k=>k≤acc.length∧cO acc l[i] k=cO acc l[i] acc.length) (fun k=>k) (fun k=>[(7,.int .i64 k)]) (fun k=>[B.buf 34 1 ((bx acc l[i] k).map (L1 false)) false]) acc.length ⟨by omega,rfl⟩ (by simp) (by simp[bx,L1]) (by simp) ?_);rintro k ⟨hk1,hk2⟩ N3 Q3 hN3 hQ3;by_cases hk0:k=0
    ·subst hk0
     have hfin:bH l (i+1)=bx acc l[i] 0:=by rw[hsi,if_pos rfl,io,←hk2];rfl
     refine W_x (tkf 34) mixed ?_;simp -dsimp[L1,aM];refine .inr ⟨aC (by kernel_rfl),?_⟩;refine hQ3 _ _ _ ?_;simp -dsimp[aH i (by omega),L1,aM];refine hN (i+1) _ _ (by omega) (by omega) ?_ ⟨[],?_⟩ ?_ ?_<;>simp[or_imp,forall_and,L1,aE,hfin,kQ]
    ·have hcl:=kQ acc l[i] k;have hck:=insAt_k acc l[i] k hk1 (by omega);have hcp:=insAt_p acc l[i] k hk1 (by omega) (by omega);have hsw:=qC acc l[i] k hk1 (by omega)
     have hbk:k<(bx acc l[i] k).length:=by omega
     have hbp:k-1<(bx acc l[i] k).length:=by omega
     obtain⟨a,ha⟩:∃a,a=eAt acc (k-1):=⟨_,rfl⟩;rw[←ha]at hcp hsw;have hal2:a.length≤1000000:=hls a (jo hi (by rw[←hacc,ha,dO (by omega)];exact rQ _));have hc:=before37 l[i] a false false hei hal2;obtain⟨cur,hcur⟩:∃cur,cur=bx acc l[i] k:=⟨_,rfl⟩;rw[←hcur]at hcl hsw hbk hbp ⊢
     have hck:cur[k]=l[i]:=by subst hcur;exact hck
     have hcp:cur[k-1]=a:=by subst hcur;exact hcp
     have hpos:cO acc l[i] k=if ap l[i] a then cO acc l[i] (k-1) else k:=by
      obtain⟨m,rfl⟩:∃m,k=m+1:=⟨k-1,by omega⟩;rw[ha];rfl
     simp only[L1]at hc
     have hgk:cur[k]?=some l[i]:=by rw[rT hbk,hck]
     have hgp:cur[k-1]?=some a:=by rw[rT hbp,hcp]
     have hi1:(k:Int)<(acc.length:Int)+1:=by omega
     have hi2:((k-1:Nat):Int)<(acc.length:Int)+1:=by omega
     cases hlt:ap l[i] a
     ·rw[hlt]at hc hpos
      have hfin:bH l (i+1)=cur:=by rw[hsi,if_pos rfl,io,←hk2,hpos,hcur];rfl
      refine W_x (tkf 34) mixed ?_;simp -dsimp[hgk,hgp,hcl,hi1,hi2,hU k (by omega) (by omega),show 0<k by omega,L1,aM];refine .inr ⟨aC (by kernel_rfl),?_⟩;refine aN _ (aK (hc) (by simp)) ?_;simp -dsimp[L1,aM];refine hQ3 _ _ _ ?_;simp -dsimp[aH i (by omega),L1,aM];refine hN (i+1) _ _ (by omega) (by omega) ?_ ⟨[],?_⟩ ?_ ?_<;>simp[or_imp,forall_and,L1,aE,hfin,hcl]
     ·rw[hlt]at hc hpos;refine W_x (tkf 34) mixed ?_;simp -dsimp[hgk,hgp,hcl,hi1,hi2,hU k (by omega) (by omega),show 0<k by omega,L1,aM];refine .inr ⟨aC (by kernel_rfl),?_⟩;refine aN _ (aK (hc) (by simp)) ?_;simp -dsimp[L1,aM]
      have hs1:((cur.map (L1 false)).set k (V.lst 1 false (a.map aE)))[k-1]?=some (V.lst 1 false (a.map aE)):=by
       rw[ry (by omega),sQ,hgp];rfl
      have hs2:((cur.map (L1 false)).set k (V.lst 1 false (a.map aE))).set (k-1) (V.lst 1 false (l[i].map aE))=(bx acc l[i] (k-1)).map (L1 false):=by
       rw[←hsw];simp only[uM,L1]
      refine aG (aW (tkf 34) mixed [15,17] [(2,[1]),(3,[1]),(4,[1])] [] (by kernel_rfl) fun C K hC hK=>?_);simp -implicitDefEqProofs [hgk,hgp,hcl,hi1,hi2,hU k (by omega) (by omega),hs1,hs2,L1,aM];refine hK _ _ ?_;simp -dsimp[hU k (by omega) (by omega),L1,aM];refine hN3 (k-1) _ _ ⟨by omega,by rw[←hk2,hpos];rfl⟩ (by omega) ?_ ⟨[],?_⟩ ?_ ?_<;>simp[or_imp,forall_and,L1,aE]
 ·have hp:bH l i=ak l:=by unfold ak;congr 1;omega
  refine W_x (tkf 34) mixed ?_;simp -dsimp[hb,L1,aM];refine hQ _ _ _ ?_;simp -dsimp[L1,aM];rw[←hp];exact dP rfl (by simp) (by simp)
def eH(n:Int):V:=.int .u8 n
@[simp] theorem encU_pure (n:Int):AM.Pure (eH n):=by simp[eH]
theorem dr(xs:List Int):asc xs=true↔xs.Pairwise (· < ·):=by
 rw[List.pairwise_iff_getElem];constructor
 ·intro h i j hi hj hij;exact lV h i j hi hj hij
 ·intro h
  exact(oG xs 1 (by omega)).2 fun j hj hl=>h (j-1) j (by omega) hl (by omega)
def ixF(p:List Int→Bool)(es:List (List Int))(i:Nat):Int:=if h:i<es.length then(if p es[i] then(i:Int) else ixF p es (i+1)) else -1
termination_by es.length-i
theorem ixF_any(p:List Int→Bool)(es:List (List Int))(i:Nat):decide (0≤ixF p es i)=(es.drop i).any p:=by
 fun_induction ixF p es i with
 | case1 i h h0=>rw[rP h,tK,h0];simp
 | case2 i h h0 ih=>rw[rP h,tK,ih];simp[h0]
 | case3 i h=>rw[rR (by omega)];rfl
theorem idxFunc(H:List B)(fv:V)(p:List Int→Bool)(es:List (List Int))(g:Bool)(hes:es.length≤1000000)(hH:∀bl∈H,rbB H.length bl)(hfv:rb H.length fv)
  (hp:∀m∈es,aQ Tryz.prog fv [L1 false m] H fun r H'=>r = .bool (p m)∧H'=H):av Tryz.prog 172 [LL g es,fv] H fun r H'=>r = .int .i64 (ixF p es 0)∧H'=H:=by
 refine aF tok Tryz.func172 rfl rfl ?_;refine wx ?_;simp -dsimp[Tryz.f172,rO,LL];refine aG (W_loopM 19 0x7ff30 (by simp[mB]<;>rfl) (σ:=Nat) (fun i=>ixF p es i=ixF p es 0) (fun i=>es.length-i) (fun i=>[(8,.int .i64 i)]) (fun _=>H) 0 rfl (by simp) rfl (by simp) ?_);intro i hx N Q hN hQ;by_cases hb:i<es.length
 ·rw[ixF,dif_pos hb]at hx;have hc:=hp es[i] (rQ hb);cases hq:p es[i]
  ·rw[hq]at hc hx;refine wx ?_;simp -dsimp[hb];refine hc.mono ?_;rintro r H' ⟨rfl,rfl⟩;simp -dsimp[aH i (by omega)];refine hN (i+1) _ _ (by simpa using hx) (by omega) (by simp) ⟨[],by simp⟩ (by simp;exact hfv) hH
  ·rw[hq]at hc hx;refine wx ?_;simp -dsimp[hb];refine hc.mono ?_;rintro r H' ⟨rfl,rfl⟩;simp -dsimp[];refine hQ _ _ _ ?_;simp -dsimp[];simpa using hx
 ·rw[ixF,dif_neg hb]at hx;refine wx ?_;simp -dsimp[hb];refine hQ _ _ _ ?_;simp -dsimp[];simpa using hx
theorem contFunc(H:List B)(fv:V)(p:List Int→Bool)(es:List (List Int))(g:Bool)(hes:es.length≤1000000)(hH:∀bl∈H,rbB H.length bl)(hfv:rb H.length fv)
  (hp:∀m∈es,aQ Tryz.prog fv [L1 false m] H fun r H'=>r = .bool (p m)∧H'=H):av Tryz.prog 117 [LL g es,fv] H fun r H'=>r = .bool (es.any p)∧H'=H:=by
 have h0:=ixF_any p es 0;rw[rk]at h0;have hc:=idxFunc H fv p es g hes hH hfv hp;refine aF tok Tryz.func117 rfl rfl ?_;refine wx ?_;simp -dsimp[Tryz.f117,rO];refine(show aQ Tryz.prog (.fn 172 []) _ H _ from by simpa[aQ] using hc).mono ?_;rintro r H' ⟨rfl,rfl⟩;simp -dsimp[];rw[←h0]
end
end Go.Proofs.YtjogkbekekdkjaaGreatDoor
namespace Go.Proofs.YtjogkbekekdkjaaGreatDoor
section
open Go Go.AM Go.RowKit
theorem infoC2:(Tryz.prog.info? 2).map (fun i=>(i.zero,i.size,i.bytes))=some (some (.int .i64 0),1,8):=by kernel_rfl
theorem cloneE(A:Option Addr)(cap:Nat)(w:World):
  Calls Tryz.prog 15 #[.slice A 0 cap] w fun e w'=>∃v,e = .returned v∧w'.ownsRow w.heap.size 2 1 v 0 []∧Below w.heap.size w w':=by
 have hnil:=fun W A n c=>Lib.run_eql_slice_nil (P:=Tryz.prog) W 34 2 A n c 0 0 Tryz.underlying34
 cases A with
 | none =>
  go_enter Tryz.func15,Tryz.ntmps15
  go_wp2
  go_ret
  exact⟨_,rfl,World.ownsRow_nil _ _ _ _,Below.refl _ _⟩
 | some ad =>
  obtain⟨i0,hi,hz0,hz1,hz2⟩:=info_parts infoC2;have hown:(w.alloc (.cells #[] 2)).ownsRow w.heap.size 2 1 (.slice (some ⟨w.heap.size,0,none⟩) 0 0) 0 []:=World.ownsRow_lit w #[] 0 (rd _) (by simp[maxLen]) (by simp)
  have hnews:∀j u,([]:List Value)[j]?=some u→(w.alloc (.cells #[] 2)).cell? (ad.add j)=some u:=by
   intro j u hu;simp at hu
  have hone:∀u∈([]:List Value),u.oneCell'=true:=by intro u hu;cases hu
  have h63:0+0≤maxLen:=by simp[maxLen]
  have hby:(0+0)*8≤140737488355328:=by omega
  have hlen:([]:List Value).length=0*1:=by simp
  have Hi:=Lib.hid (show Tryz.prog.info? 2=some i0∧i0.zero=some _∧i0.size=1∧i0.bytes=8 from⟨hi,hz0,hz1,hz2⟩);have Hw:=Lib.hid (And.intro hown (And.intro hnews (And.intro hone (And.intro h63 (And.intro hby hlen)))));clear hnews hone hown hi hz0 hz1 hz2 h63 hby hlen
  go_enter Tryz.func15,Tryz.ntmps15
  go_wp2_with (at_builtin;refine wpList_append_own _ rfl _ _ 34 rfl w.heap.size 2 i0 _ 1 8 Tryz.underlying34 Hi.out.1 Hi.out.2.1 Hi.out.2.2.1 Hi.out.2.2.2 rfl (by omega) (.slice (some ⟨w.heap.size,0,none⟩) 0 0) 0 [] rfl Hw.out.1 ad 0 cap [] rfl Hw.out.2.2.2.2.2 Hw.out.2.1 Hw.out.2.2.1 Hw.out.2.2.2.1 Hw.out.2.2.2.2.1 (by simp) ?_;intro v1 w1 ho hg hn;have Ho:=Lib.hid ho;have Hg:=Lib.hid hg;have Hn:=Lib.hid hn;clear ho hg hn)
  go_ret
  exact⟨v1,rfl,by have:=Ho.out;simpa using this,((Below.refl _ _).alloc (rd _) _).grown Hg.out (by simp) (by simp[Value.ownBlock])⟩
theorem conO_own{f:FuncId}{args:List V}{e:Nat}(hE:AM.Enters Tryz.prog f)(h:∀(F:Nat→Prop) (w:World) (vals:Array Value),vals.size=args.length→(∀(i:Nat) a u,args[i]?=some a→vals[i]?=some u→Rel (AM.base F w) a u)→
  Calls Tryz.prog f vals w fun e' w'=>∃v,e' = .returned v∧w'.ownsRow w.heap.size e 1 v 0 []∧Below w.heap.size w w'):gy Tryz.prog f args fun e' z ys=>e'=e∧z=1∧ys=[]:=by
 refine⟨hE,fun F w vals hZ hF hsz hrel=>(h F w vals hsz hrel).mono fun e' w' ⟨v,he,hown,hb⟩=>?_⟩;obtain⟨_,⟨hv,_⟩ | ⟨g,c,cur,hv,hg,hc,hn,hm,hs,_⟩⟩:=hown
 ·have hF':∀b,F b→b<w'.heap.size:=fun b hb'=>sI (hF b hb') hb.size
  obtain⟨p1,_⟩:=pZ (AM.base_good hF') (w:=w') 0 e 1 false rfl rfl rfl (rd _) (fun _ _=>rfl);refine⟨v,e,1,[],none,0,0,he,hv,fun h=>absurd rfl h,by simp,fun h=>absurd rfl h,?_,hb,rfl,rfl,rfl⟩;refine⟨hF',fun k hk=>absurd (hk.2 e 1 [] false (by have:=hk.1;simp at this;subst this;rfl)) (by simp),fun j k hj hk _=>by have:=hj.1;have:=hk.1;simp at *;omega,fun k bl hk=>?_⟩
  have hk0:k=0:=by have:=aB hk;simp at this;omega
  subst hk0;simp at hk;subst hk;exact⟨#[],fun h=>absurd rfl h,by simp,by simp,by simp[maxLen],(fun x hx=>by cases hx),(fun i x j c u hx=>by simp at hx)⟩
 ·have hF':∀b,F b→b<w'.heap.size:=fun b hb'=>sI (hF b hb') hb.size
  refine⟨v,e,1,[],some ⟨g,0,none⟩,g,c,he,hv,fun _=>rfl,by simp,fun _=>hg,?_,hb,rfl,rfl,rfl⟩;refine⟨hF',fun k hk=>⟨(Array.getElem?_eq_some_iff.1 hc).1,fun hf=>by have:=hF g hf;omega⟩,fun j k hj hk _=>by have:=hj.1;have:=hk.1;simp at *;omega,fun k bl hk=>?_⟩
  have hk0:k=0:=by have:=aB hk;simp at this;omega
  subst hk0;simp at hk;subst hk;exact⟨cur,fun _=>hc,by simpa using hs,by simp,hm,(fun x hx=>by cases hx),(fun i x j c u hx=>by simp at hx)⟩
theorem jA(xs:List Int)(f:Bool)(hl:xs.length≤1000000):gy Tryz.prog 15 [L1 f xs] fun e z ys=>e=2∧z=1∧ys=xs.map aE:=by
 cases xs with
 | nil =>
  refine conO_own ⟨Tryz.f15,Tryz.func15,rfl,rfl⟩ (fun F w vals hsz hrel=>?_)
  obtain⟨u0,rfl⟩:∃u0,vals = #[u0]:=by
   obtain⟨l⟩:=vals
   match l,hsz with
   | [a],_=>exact⟨a,rfl⟩
  have r0:=hrel 0 _ u0 rfl rfl;simp only[L1,tt]at r0;cases r0;exact cloneE _ _ _
 | cons x xs =>
  have hl':xs.length≤1000000:=by simp only[sB]at hl;omega
  refine sOx Tryz.func15 rfl rfl ?_;simp -dsimp[Tryz.f15,rO,L1,dm,go xs.length (by omega)];exact⟨0,2,1,aE x::xs.map aE,by simp,rfl,by simp,rfl,rfl,rfl⟩
theorem jt(xs:List Int)(f:Bool)(hl:xs.length≤1000000):aL Tryz.prog 15 [L1 f xs] fun r=>r=L1 false xs :=
 ⟨(jA xs f hl).1,fun F w vals hZ hF hsz hrel=>((eO (jA xs f hl)).2 F w vals hZ hF hsz hrel).mono fun e w' ⟨u,r,h1,h2,h3,h4,e',z,ys,h5,h6,h7,h8⟩=>by
  subst h6;subst h7;subst h8
  exact⟨u,r,h1,h2,h3,h4,h5⟩⟩
end
end Go.Proofs.YtjogkbekekdkjaaGreatDoor
namespace Go.Proofs.YtjogkbekekdkjaaGreatDoor
section
open Go Go.AM
theorem ids03(us bs:List Int)(f g:Bool)(hl:us.length≤1000000)(hl2:bs.length≤1000000):aL Tryz.prog 45 [L1 f us,L1 g bs] fun r=>r = .bool (decide (us=bs)):=by
 by_cases hn:us.length=bs.length
 ·refine sPx Tryz.func45 rfl rfl ?_;simp -dsimp[Tryz.f45,rO,L1,hn];refine aG (W_loopM 26 0x3fff830 (by simp[mB]<;>rfl) (σ:=Nat) (fun i=>i≤us.length∧us.take i=bs.take i) (fun i=>us.length-i) (fun i=>[(5,.int .i64 i)]) (fun _=>[]) 0 ⟨by omega,by simp⟩ (by simp) rfl (by simp) ?_);rintro i ⟨h1,h2⟩ N Q hN hQ;by_cases hb:i<bs.length
  ·have ha:i<us.length:=by omega
   by_cases hq:us[i]=bs[i]
   ·refine wx ?_;simp -dsimp[L1,aE,ha,hb,hq,aH i (by omega)];refine .inr ⟨aC (by kernel_rfl),?_⟩;refine hN (i+1) _ _ ⟨by omega,by rw[rV ha,rV hb,h2,hq]⟩ (by omega) ?_ ⟨[],?_⟩ ?_ ?_<;>simp[or_imp,forall_and,L1,aE]
   ·refine wx ?_;simp -dsimp[L1,aE,ha,hb,hq];refine .inr ⟨aC (by kernel_rfl),?_⟩;refine hQ _ _ _ ?_;simp -dsimp[];rintro rfl;exact hq rfl
  ·refine wx ?_;simp -dsimp[L1,hb,hn];refine hQ _ _ _ ?_;simp -dsimp[];rw[rt (by omega),rt (by omega)]at h2;exact h2
 ·have hne:¬us=bs:=fun h=>hn (by rw[h])
  refine sPx Tryz.func45 rfl rfl ?_;simp -dsimp[Tryz.f45,rO,L1,hn,show ¬((us.length:Int)=bs.length) by omega];exact hne
def ixG(p:Int→Bool)(es:List Int)(i:Nat):Int:=if h:i<es.length then(if p es[i] then(i:Int) else ixG p es (i+1)) else -1
termination_by es.length-i
theorem ixG_any(p:Int→Bool)(es:List Int)(i:Nat):decide (0≤ixG p es i)=(es.drop i).any p:=by
 fun_induction ixG p es i with
 | case1 i h h0=>rw[rP h,tK,h0];simp
 | case2 i h h0 ih=>rw[rP h,tK,ih];simp[h0]
 | case3 i h=>rw[rR (by omega)];rfl
theorem idxFunc64(H:List B)(fv:V)(p:Int→Bool)(es:List Int)(g:Bool)(hes:es.length≤1000000)(hH:∀bl∈H,rbB H.length bl)(hfv:rb H.length fv)
  (hp:∀m∈es,aQ Tryz.prog fv [.int .i64 m] H fun r H'=>r = .bool (p m)∧H'=H):av Tryz.prog 120 [L1 g es,fv] H fun r H'=>r = .int .i64 (ixG p es 0)∧H'=H:=by
 refine aF tok Tryz.func120 rfl rfl ?_;refine wx ?_;simp -dsimp[Tryz.f120,rO,L1];refine aG (W_loopM 19 0x7ff30 (by simp[mB]<;>rfl) (σ:=Nat) (fun i=>ixG p es i=ixG p es 0) (fun i=>es.length-i) (fun i=>[(8,.int .i64 i)]) (fun _=>H) 0 rfl (by simp) rfl (by simp) ?_);intro i hx N Q hN hQ;by_cases hb:i<es.length
 ·rw[ixG,dif_pos hb]at hx;have hc:=hp es[i] (rQ hb);cases hq:p es[i]
  ·rw[hq]at hc hx;refine wx ?_;simp -dsimp[hb,aE];refine hc.mono ?_;rintro r H' ⟨rfl,rfl⟩;simp -dsimp[aH i (by omega)];refine hN (i+1) _ _ (by simpa using hx) (by omega) (by simp) ⟨[],by simp⟩ (by simp;exact hfv) hH
  ·rw[hq]at hc hx;refine wx ?_;simp -dsimp[hb,aE];refine hc.mono ?_;rintro r H' ⟨rfl,rfl⟩;simp -dsimp[];refine hQ _ _ _ ?_;simp -dsimp[];simpa using hx
 ·rw[ixG,dif_neg hb]at hx;refine wx ?_;simp -dsimp[hb];refine hQ _ _ _ ?_;simp -dsimp[];simpa using hx
theorem contFunc64(H:List B)(fv:V)(p:Int→Bool)(es:List Int)(g:Bool)(hes:es.length≤1000000)(hH:∀bl∈H,rbB H.length bl)(hfv:rb H.length fv)
  (hp:∀m∈es,aQ Tryz.prog fv [.int .i64 m] H fun r H'=>r = .bool (p m)∧H'=H):av Tryz.prog 72 [L1 g es,fv] H fun r H'=>r = .bool (es.any p)∧H'=H:=by
 have h0:=ixG_any p es 0;rw[rk]at h0;have hc:=idxFunc64 H fv p es g hes hH hfv hp;refine aF tok Tryz.func72 rfl rfl ?_;refine wx ?_;simp -dsimp[Tryz.f72,rO];refine aQ.mono (K:=fun r H'=>r = .int .i64 (ixG p es 0)∧H'=H) hc ?_;rintro r H' ⟨rfl,rfl⟩;simp -dsimp[];rw[←h0]
def mE(us:List Int):List (V×V):=us.map fun x=>(V.int .i64 x,V.bool true)
theorem mE_snoc(us:List Int)(x:Int):mE (us++[x])=mE us++[(V.int .i64 x,V.bool true)]:=by simp[mE]
@[simp ↓ high] theorem rbB_mE (n:Nat) (kk:KK) (us:List Int):rbB n (.map kk (mE us))↔True:=by
 refine⟨fun _=>trivial,fun _ p hp=>?_⟩;obtain⟨x,_,rfl⟩:=List.mem_map.1 hp;exact⟨trivial,trivial⟩
@[simp ↓ high] theorem rbB_mE2 (n:Nat) (kk:KK) (us:List Int) (x:Int):rbB n (.map kk (mE us++[(V.int .i64 x,V.bool true)]))↔True:=by
 rw[←mE_snoc];exact rbB_mE n kk _
@[simp ↓ high] theorem forall_rbB_cons (n:Nat) (b:B) (l:List B):(∀bl∈b::l,rbB n bl)↔(rbB n b∧∀bl∈l,rbB n bl):=uR
@[simp ↓ high] theorem forall_rbB_nil (n:Nat):(∀bl∈([]:List B),rbB n bl)↔True:=by simp
end
end Go.Proofs.YtjogkbekekdkjaaGreatDoor
section

end
namespace Go.Proofs.YtjogkbekekdkjaaGreatDoor
section
open Go Go.AM
def lfB:V→V→Prop
 | x,y=>y=x∨(∃z xs,x = .lst z true xs∧y = .lst z false xs)∨(∃z,x = .nilS∧y = .lst z false [])
def LfL:List V→List V→Prop
 | [],[]=>True
 | x::xs,y::ys=>lfB x y∧LfL xs ys
 | _,_=>False
theorem LfL.len:∀{xs ys:List V},LfL xs ys→xs.length=ys.length
 | [],[],_=>rfl
 | [],_::_,h=>h.elim
 | _::_,[],h=>h.elim
 | _::_,_::_,h=>by simp[h.2.len]
theorem LfL.at_:∀{xs ys:List V},LfL xs ys→∀(i:Nat) x y,xs[i]?=some x→ys[i]?=some y→lfB x y
 | [],_,_,i,x,y,h,_=>by simp at h
 | _::_,[],h,_,_,_,_,_=>h.elim
 | a::xs,b::ys,h,0,x,y,h1,h2=>by simp at h1 h2;subst h1;subst h2;exact h.1
 | a::xs,b::ys,h,i+1,x,y,h1,h2=>h.2.at_ i x y (by simpa using h1) (by simpa using h2)
theorem nQ{s:AM.St}{x y:V}{u:Value}(h:Rel s x u)(hl:lfB x y):Rel s y u:=by
 rcases hl with rfl | ⟨z,xs,rfl,rfl⟩ | ⟨z,rfl,rfl⟩
 ·exact h
 ·cases h with
  | lst _ _ _ A cap b off u hcap hfull hA hz hcell hrel=>exact .lst z false xs A cap b off u hcap (fun h=>by cases h) hA hz hcell hrel
 ·cases h;exact df z false none 0 (fun _=>rfl)
theorem lf_one{x y:V}(hl:lfB x y)(h:x.one=true):y.one=true:=by
 rcases hl with rfl | ⟨z,xs,rfl,rfl⟩ | ⟨z,rfl,rfl⟩
 ·exact h
 ·rfl
 ·rfl
theorem W_lf{P:Program}(k0:Nat)(fr' cs':List V){c:Code}{Q:Exit→List V→List B→Prop}{fr:List V}{H:List B}{cs:List V}(hk:H[k0]?=some (.cells cs))(ho:LfL fr fr')(hc:LfL cs cs')
  (h:W P c Q fr' (H.set k0 (.cells cs'))):W P c Q fr H:=by
 intro s a hA hg hf hd;obtain⟨rfl,hZ⟩:=hA;have hst:=cB (w:=s.w) (bl':=.cells cs') hg hk (lvC hk) trivial rfl rfl rfl (rd _) (fun _ _ _=>rfl);have hl:=ho.len;have hlc:=hc.len
 have hgd:AM.Good (s.setB s.w k0 (.cells cs')):=by
  refine cJ hg hk (lvC hk) trivial rfl rfl rfl (rd _) (fun _ _ _=>rfl) (fun hst=>?_);obtain⟨h1,vs,t,h2,h3,h4⟩:=hg.blk k0 _ hk;refine⟨fun d hd=>?_,vs,t,h2,by omega,fun i d u hd hu=>?_⟩
  ·obtain⟨i,hi⟩:=List.mem_iff_getElem?.1 hd;have hx:cs[i]?=some (cs[i]'(by have:=aB hi;omega)):=rT _;exact lf_one (hc.at_ i _ d hx hi) (h1 _ (rQ _))
  ·have hx:cs[i]?=some (cs[i]'(by have:=aB hd;omega)):=rT _;exact(nQ (h4 i _ u hx hu) (hc.at_ i _ d hx hd)).step hst
 have:=h (s.setB s.w k0 (.cells cs')) a ⟨rfl,hZ.step hst⟩ hgd ⟨by rw[hf.len,hl],fun i v u hv hu=>by
  have hx:fr[i]?=some (fr[i]'(by have:=aB hv;omega)):=rT _
  exact(nQ (hf.rel i _ u hx hu) (ho.at_ i _ v hx hv)).step hst⟩ hd
 exact wp_mono this fun _ _ _ hl=>cK hst hl
theorem lfB_refl(x:V):lfB x x:=.inl rfl
theorem pt:∀xs:List V,LfL xs xs
 | []=>trivial
 | x::xs=>⟨lfB_refl x,pt xs⟩
theorem dy{a b:List Int} : dM a b=true↔∀x∈a,x∈b:=by
 unfold dM;rw[sH];exact⟨fun h x hx=>bI.1 (h x hx),fun h x hx=>bI.2 (h x hx)⟩
theorem gU:∀a:List Int,ap a a=false
 | []=>rfl
 | x::xs=>by simp only[ap,if_true];exact gU xs
theorem mM:∀a b:List Int,a≠b→ap a b=false→ap b a=true
 | [],[],h,_=>absurd rfl h
 | [],_::_,_,h=>by simp[ap]at h
 | _::_,[],_,_=>rfl
 | x::xs,y::ys,h,hl=>by
  simp only[ap]at hl ⊢;by_cases hxy:x=y
  ·subst hxy;rw[if_pos rfl]at hl ⊢;exact mM xs ys (fun e=>h (by rw[e])) hl
  ·rw[if_neg hxy]at hl;rw[if_neg (fun e=>hxy e.symm)];simp only[decide_eq_false_iff_not]at hl;simp only[decide_eq_true_eq];omega
theorem fV:∀a b c:List Int,ap a b=true→ap b c=true→ap a c=true
 | [],[],_,h,_=>by simp[ap]at h
 | [],_::_,[],_,h=>by simp[ap]at h
 | [],_::_,_::_,_,_=>rfl
 | _::_,[],_,h,_=>by simp[ap]at h
 | _::_,_::_,[],_,h=>by simp[ap]at h
 | x::xs,y::ys,z::zs,h1,h2=>by
  simp only[ap]at h1 h2 ⊢;by_cases hxy:x=y
  ·subst hxy;rw[if_pos rfl]at h1;by_cases hxz:x=z
   ·subst hxz;rw[if_pos rfl]at h2 ⊢;exact fV xs ys zs h1 h2
   ·rw[if_neg hxz]at h2 ⊢;exact h2
  ·rw[if_neg hxy]at h1;simp only[decide_eq_true_eq]at h1;by_cases hyz:y=z
   ·subst hyz;rw[if_neg hxy];simpa using h1
   ·rw[if_neg hyz]at h2;simp only[decide_eq_true_eq]at h2;rw[if_neg (by omega)];simp only[decide_eq_true_eq];omega
structure Hyp (vs:List Int) (es:List (List Int)):Prop where
 va:vs.Pairwise (· < ·)
 ne:∀e∈es,e≠[]
 ea:∀e∈es,e.Pairwise (· < ·)
 sub:∀e∈es,∀x∈e,x∈vs
 lex:es.Pairwise fun a b=>ap a b=true
 min:es.Pairwise fun a b=>¬(∀x∈a,x∈b)∧¬(∀x∈b,x∈a)
theorem nR{l:List (List Int)}{i:Nat} : ∀{n:Nat},fB l i n=true→∀k,k<n→qX l i k=false
 | 0,_,k,hk=>absurd hk (by omega)
 | n+1,h,k,hk=>by
  simp only[fB,rX,sL]at h
  rcases sy k n with h1 | h1
  ·exact nR h.1 k h1
  ·obtain rfl:k=n:=by omega
   exact h.2
theorem insPos_le(acc:List (List Int))(e:List Int):∀k,cO acc e k≤k
 | 0=>by simp[cO]
 | k+1=>by
  simp only[cO];split
  ·have:=insPos_le acc e k;omega
  ·omega
theorem insPos_hi(acc:List (List Int))(e:List Int):∀k,∀j,cO acc e k≤j→j<k→ap e (eAt acc j)=true
 | 0,j,_,h=>absurd h (by omega)
 | k+1,j,h1,h2=>by
  simp only[cO]at h1;split at h1
  ·rename_i hlt
   rcases sy j k with h3 | h3
   ·exact insPos_hi acc e k j h1 h3
   ·obtain rfl:j=k:=by omega
    exact hlt
  ·omega
theorem insPos_lo(acc:List (List Int))(e:List Int):∀k,0<cO acc e k→ap e (eAt acc (cO acc e k-1))=false
 | 0,h=>by simp[cO]at h
 | k+1,h=>by
  simp only[cO]at h ⊢;split
  ·rename_i hlt;rw[if_pos hlt]at h;exact insPos_lo acc e k h
  ·rename_i hlt;simpa using hlt
theorem ins_lex{acc:List (List Int)}{e:List Int}(h:acc.Pairwise fun a b=>ap a b=true)(hne:∀a∈acc,a≠e):(io acc e).Pairwise fun a b=>ap a b=true:=by
 have hp:=insPos_le acc e acc.length;have hi:=insPos_hi acc e acc.length;have lo:=insPos_lo acc e acc.length;unfold io bx;generalize cO acc e acc.length=p at hp hi lo
 have t2:∀a∈acc.drop p,ap e a=true:=fun a ha=>by
  obtain⟨j,hj,rfl⟩:=List.mem_iff_getElem.1 ha;simp only[tL]at hj;simp only[List.getElem_drop];have:=hi (p+j) (by omega) (by omega)
  rwa [dO (by omega)]at this
 have t1:∀a∈acc.take p,ap a e=true:=fun a ha=>by
  obtain⟨j,hj,rfl⟩:=List.mem_iff_getElem.1 ha;simp only[tR]at hj;simp only[List.getElem_take];have h0:=lo (by omega);rw[dO (by omega)]at h0;have h1:=mM e acc[p-1] (fun he=>hne _ (rQ _) he.symm) h0
  rcases sy j (p-1) with h3 | h3
  ·exact fV _ _ _ (List.pairwise_iff_getElem.1 h j (p-1) (by omega) (by omega) h3) h1
  ·obtain rfl:j=p-1:=by omega
   exact h1
 rw[ti,uA];refine⟨h.sublist (List.take_sublist _ _),⟨t2,h.sublist (List.drop_sublist _ _)⟩,fun a ha b hb=>?_⟩
 rcases List.mem_cons.1 hb with rfl | hb
 ·exact t1 a ha
 ·exact fV _ _ _ (t1 a ha) (t2 b hb)
theorem edges_inv{l:List (List Int)} : ∀{i:Nat},i≤l.length→((bH l i).Pairwise fun a b=>ap a b=true)∧∀e∈bH l i,∃j,j<i∧keepE l j=true∧e=eAt l j
 | 0,_=>by simp[bH]
 | i+1,hi=>by
  obtain⟨h1,h2⟩:=edges_inv (l:=l) (i:=i) (by omega);simp only[bH];split
  ·rename_i hk;refine⟨ins_lex h1 (fun a ha he=>?_),fun e he=>?_⟩
   ·obtain⟨j,hj,_,rfl⟩:=h2 a ha;have:=nR hk j (by omega)
    have hw:dM (eAt l j) (eAt l i)=true:=by rw[he];exact dy.2 fun x hx=>hx
    simp[qX,hw,hj]at this
   ·rcases insE_mem he with rfl | he
    ·exact⟨i,by omega,hk,rfl⟩
    ·obtain⟨j,hj,hk',rfl⟩:=h2 e he;exact⟨j,by omega,hk',rfl⟩
  ·exact⟨h1,fun e he=>by obtain⟨j,hj,hk',rfl⟩:=h2 e he;exact⟨j,by omega,hk',rfl⟩⟩
def MinM(l:List (List Int))(e:List Int):Prop:=e∈l∧∀d∈l,(∀x∈d,x∈e)→e.length≤d.length
structure LexSet (es:List (List Int)) (p:List Int→Prop):Prop where
 ord:es.Pairwise fun a b=>ap a b=true
 mem:∀e,e∈es↔p e
theorem lex_ext:∀(a b:List (List Int)),(a.Pairwise fun x y=>ap x y=true)→(b.Pairwise fun x y=>ap x y=true)→(∀e,e∈a↔e∈b)→a=b
 | [],[],_,_,_=>rfl
 | [],y::_,_,_,h=>absurd ((h y).2 (sE ..)) (by simp)
 | x::_,[],_,_,h=>absurd ((h x).1 (sE ..)) (by simp)
 | x::xs,y::ys,hx,hy,h=>by
  rw[uA]at hx hy
  have hxy:x=y:=by
   rcases List.mem_cons.1 ((h x).1 (sE ..)) with e | e
   ·exact e
   ·rcases List.mem_cons.1 ((h y).2 (sE ..)) with e2 | e2
    ·exact e2.symm
    ·have h1:=hy.1 x e;have h2:=hx.1 y e2;have h3:=fV _ _ _ h1 h2;rw[gU]at h3;cases h3
  subst hxy;congr 1;refine lex_ext xs ys hx.2 hy.2 (fun e=>?_);constructor
  ·intro he
   rcases List.mem_cons.1 ((h e).1 (sG _ he)) with e2 | e2
   ·subst e2;have:=hx.1 _ he;rw[gU]at this;cases this
   ·exact e2
  ·intro he
   rcases List.mem_cons.1 ((h e).2 (sG _ he)) with e2 | e2
   ·subst e2;have:=hy.1 _ he;rw[gU]at this;cases this
   ·exact e2
theorem LexSet.eq{a b:List (List Int)}{p q:List Int→Prop}(ha:LexSet a p)(hb:LexSet b q)(h:∀e,p e↔q e):a=b :=
 lex_ext a b ha.ord hb.ord (fun e=>by rw[ha.mem,hb.mem,h])
theorem first_nat{p:Nat→Prop} : ∀n,p n→∃j,p j∧∀k,k<j→¬p k:=by
 intro n
 induction n using ud with
 | ind n ih =>
  intro h;by_cases hk:∃k,k<n∧p k
  ·obtain⟨k,h1,h2⟩:=hk;exact ih k h1 h2
  ·exact⟨n,h,fun k hk' hp=>hk ⟨k,hk',hp⟩⟩
theorem insE_in{acc:List (List Int)}{e x:List Int}(h:x=e∨x∈acc):x∈io acc e:=by
 unfold io bx
 rcases h with rfl | h
 ·simp
 ·have h2:=tG (cO acc e acc.length) acc;rw[←h2]at h
  rcases List.mem_append.1 h with h | h
  ·exact uT _ h
  ·exact tf _ (sG _ h)
theorem edges_all{l:List (List Int)} : ∀{i:Nat},i≤l.length→∀j,j<i→keepE l j=true→eAt l j∈bH l i
 | 0,_,j,h,_=>by omega
 | i+1,hi,j,hj,hk=>by
  simp only[bH];by_cases hji:j=i
  ·subst hji;rw[if_pos hk];exact insE_in (.inl rfl)
  ·have:=edges_all (l:=l) (i:=i) (by omega) j (by omega) hk;split
   ·exact insE_in (.inr this)
   ·exact this
theorem keepTo_of{l:List (List Int)}{i:Nat} : ∀{n:Nat},(∀k,k<n→qX l i k=false)→fB l i n=true
 | 0,_=>rfl
 | n+1,h=>by
  rw[fB,keepTo_of (n:=n) (fun k hk=>h k (by omega)),h n (by omega)];rfl
theorem jz:∀(b a:List Int),a.Pairwise (· < ·)→b.Pairwise (· < ·)→(∀x∈a,x∈b)→a.Sublist b
 | [],a,_,_,hs=>by
  cases a with
  | nil=>exact List.Sublist.slnil
  | cons x a=>exact absurd (hs x (sE ..)) (by simp)
 | y::b,a,ha,hb,hs=>by
  cases a with
  | nil=>exact List.nil_sublist _
  | cons x a =>
   rw[uA]at ha hb
   rcases List.mem_cons.1 (hs x (sE ..)) with e | e
   ·subst e
    exact(jz b a ha.2 hb.2 (fun z hz=>by
     rcases List.mem_cons.1 (hs z (sG _ hz)) with e | e
     ·have:=ha.1 z hz;omega
     ·exact e)).cons_cons x
   ·have hyx:=hb.1 x e
    exact(jz b (x::a) (List.pairwise_cons.2 ha) hb.2 (fun z hz=>by
     rcases List.mem_cons.1 (hs z hz) with e2 | e2
     ·rcases List.mem_cons.1 hz with e3 | e3
      ·omega
      ·have:=ha.1 z e3;omega
     ·exact e2)).cons y
theorem lU{a b:List Int}(ha:a.Pairwise (· < ·))(hb:b.Pairwise (· < ·))(hs:∀x∈a,x∈b)(hl:b.length≤a.length):a=b:=by
 have hna:a.Nodup:=ha.imp fun {x y} h=>by omega
 have hnb:b.Nodup:=hb.imp fun {x y} h=>by omega
 exact(jz b a ha hb hs).eq_of_length_le hl
theorem iM{l:List (List Int)}(hl:∀e∈l,e.Pairwise (· < ·)):LexSet (ak l) (MinM l):=by
 obtain⟨h1,h2⟩:=edges_inv (l:=l) (i:=l.length) (rd _)
 have hm:∀j,j<l.length→eAt l j∈l:=fun j hj=>by rw[dO hj];exact rQ hj
 refine⟨h1,fun e=>⟨fun he=>?_,fun he=>?_⟩⟩
 ·obtain⟨j,hj,hk,rfl⟩:=h2 e he;refine⟨hm j hj,fun d hd hs=>?_⟩;obtain⟨k,hk2,rfl⟩:=List.mem_iff_getElem.1 hd;have:=nR hk k hk2;unfold qX at this;rw[dO hk2,dy.2 hs,re,Bool.or_eq_false_iff]at this;have:=of_decide_eq_false this.1;omega
 ·obtain⟨hel,hmin⟩:=he;obtain⟨j0,hj0,rfl⟩:=List.mem_iff_getElem.1 hel;obtain⟨j,⟨hj,hje⟩,hfirst⟩:=first_nat (p:=fun j=>j<l.length∧eAt l j=l[j0]) j0 ⟨hj0,dO hj0⟩;rw[←hje];refine edges_all (rd _) j hj (keepTo_of fun k hk=>?_);unfold qX;rw[Bool.and_eq_false_iff]
  cases hw:dM (eAt l k) (eAt l j) with
  | false=>exact .inl rfl
  | true =>
   right;have hs:=dy.1 hw;rw[hje]at hs ⊢;have hle:=hmin _ (hm k hk) hs;rw[Bool.or_eq_false_iff,decide_eq_false_iff_not,decide_eq_false_iff_not];refine⟨by omega,fun hkj=>hfirst k hkj ⟨hk,?_⟩⟩;exact lU (hl _ (hm k hk)) (hl _ hel) hs hle
def smK(all:List (List Int))(l:List Int):Bool:=(rh l.length).any fun i=>decide (1<l.length)&&all.contains [l.getD i 0]||decide (2<l.length)&&all.contains (l.eraseIdx i)
theorem contL{all:List (List Int)}{e:List Int} : all.contains e=true↔e∈all:=by simp
theorem erase_sub(l:List Int)(i:Nat):∀x∈l.eraseIdx i,x∈l:=fun x h=>List.mem_of_mem_eraseIdx h
theorem miss_erase:∀(d l:List Int),l.Pairwise (· < ·)→d.Pairwise (· < ·)→(∀x∈d,x∈l)→d.length+1=l.length→∃i,i<l.length∧d=l.eraseIdx i:=fun d l hl hd hs hlen=>by
 have hnl:l.Nodup:=hl.imp fun {x y} h=>by omega
 have hex:∃i,i<l.length∧∀x∈d,x∈l.eraseIdx i:=by
  refine Classical.byContradiction fun hno=>?_
  have hall:∀x∈l,x∈d:=fun x hx=>by
   obtain⟨i,hi,rfl⟩:=List.mem_iff_getElem.1 hx
   refine Classical.byContradiction fun hx2=>hno ⟨i,hi,fun y hy=>?_⟩
   rw[List.mem_eraseIdx_iff_getElem];obtain⟨j,hj,rfl⟩:=List.mem_iff_getElem.1 (hs y hy);exact⟨j,hj,fun e=>hx2 (by subst e;exact hy),rfl⟩
  have:=hnl.length_le_of_subset hall;omega
 obtain⟨i,hi,h⟩:=hex
 have hle:(l.eraseIdx i).length+1=l.length:=by rw[List.length_eraseIdx_of_lt hi];omega
 exact⟨i,hi,lU hd (hl.sublist (List.eraseIdx_sublist ..)) h (by omega)⟩
theorem sm_min{all:List (List Int)}(hA:∀d∈all,d.Pairwise (· < ·)∧d≠[]∧d.length≤3)(l:List Int):(l∈all∧smK all l=false)↔MinM all l:=by
 constructor
 ·rintro⟨hl,hsm⟩;refine⟨hl,fun d hd hs=>?_⟩
  refine Classical.byContradiction fun hlt=>?_
  obtain⟨a1,a2,a3⟩:=hA l hl;obtain⟨d1,d2,d3⟩:=hA d hd;have hd0:0<d.length:=List.length_pos_iff.2 d2
  have hsm2:smK all l=true:=by
   unfold smK;rw[uO];by_cases hd1:d.length=1
   ·obtain⟨x,rfl⟩:=List.length_eq_one_iff.1 hd1;obtain⟨i,hi,hx⟩:=List.mem_iff_getElem.1 (hs x (by simp));refine⟨i,List.mem_range.2 hi,?_⟩;rw[sV];left;rw[show l.getD i 0=l[i] by simp[tO,hi],hx,decide_eq_true (by omega),re];exact contL.2 hd
   ·obtain⟨i,hi,hde⟩:=miss_erase d l a1 d1 hs (by omega);refine⟨i,List.mem_range.2 hi,?_⟩;rw[sV];right;rw[←hde,decide_eq_true (by omega),re];exact contL.2 hd
  rw[hsm2]at hsm;cases hsm
 ·rintro⟨hl,hmin⟩;refine⟨hl,?_⟩
  cases hsm:smK all l with
  | false=>rfl
  | true =>
   exfalso;unfold smK at hsm;rw[uO]at hsm;obtain⟨i,hi,h⟩:=hsm;rw[uD]at hi;rw[sV]at h
   rcases h with h | h
   ·rw[rX,show l.getD i 0=l[i] by simp[tO,hi]]at h;have:=hmin _ (contL.1 h.2) (fun x hx=>by rw[sC]at hx;subst hx;exact rQ hi);have:=of_decide_eq_true h.1;simp at *;omega
   ·rw[rX]at h;have:=hmin _ (contL.1 h.2) (erase_sub l i);rw[List.length_eraseIdx_of_lt hi]at this;omega
def cpL(l:List (List Int)):Nat→List (List Int)
 | 0=>[]
 | 1=>[eAt l 0]
 | p+2=>if eAt l p=eAt l (p+1) then cpL l (p+1) else cpL l (p+1)++[eAt l (p+1)]
def dq(l:List (List Int)):List (List Int):=if l=[] then [] else cpL l l.length
theorem ff{l:List (List Int)}{k:Nat}(h:k<l.length):l.take (k+1)=l.take k++[eAt l k]:=by rw[rV h,dO h]
theorem cpL_ok{l:List (List Int)}(hs:l.Pairwise fun x y=>ap y x=false):∀p,1≤p→p≤l.length→(∃L,cpL l p=L++[eAt l (p-1)])∧((cpL l p).Pairwise fun x y=>ap x y=true)∧∀x,x∈cpL l p↔x∈l.take p
 | 0,h,_=>by omega
 | 1,_,hl=>by
  refine⟨⟨[],rfl⟩,by simp[cpL],fun x=>?_⟩;rw[ff (k:=0) (by omega)];simp[cpL]
 | p+2,_,hl=>by
  obtain⟨⟨L,h1⟩,h2,h3⟩:=cpL_ok hs (p+1) (by omega) (by omega);rw[tz]at h1;rw[cpL,show p+2-1=p+1 by omega]
  have hmem:∀x,x∈l.take (p+2)↔x∈l.take (p+1)∨x=eAt l (p+1):=fun x=>by
   rw[ff (k:=p+1) (by omega)];simp
  split
  ·rename_i he;refine⟨⟨L,by rw[h1,he]⟩,h2,fun x=>?_⟩;rw[hmem,h3];constructor
   ·exact .inl
   ·rintro(h | h)
    ·exact h
    ·rw[h,←he,←h3,h1];simp
  ·rename_i he;refine⟨⟨_,rfl⟩,?_,fun x=>?_⟩
   ·have hlt:ap (eAt l p) (eAt l (p+1))=true:=by
     have:=List.pairwise_iff_getElem.1 hs p (p+1) (by omega) (by omega) (by omega);rw[←dO (show p<l.length by omega),←dO (show p+1<l.length by omega)]at this;exact mM _ _ (fun e=>he e.symm) this
    refine List.pairwise_append.2 ⟨h2,by simp,fun a ha b hb=>?_⟩;rw[sC]at hb;subst hb;rw[h1]at ha h2
    rcases List.mem_append.1 ha with h | h
    ·exact fV _ _ _ ((List.pairwise_append.1 h2).2.2 a h _ (by simp)) hlt
    ·rw[sC]at h;subst h;exact hlt
   ·rw[hmem,sx,h3,sC]
theorem compL_ok{l:List (List Int)}(hs:l.Pairwise fun x y=>ap y x=false):LexSet (dq l) (·∈l):=by
 unfold dq;by_cases h:l=[]
 ·subst h;exact⟨by simp,by simp⟩
 ·rw[if_neg h];obtain⟨_,h1,h2⟩:=cpL_ok hs l.length (List.length_pos_iff.2 h) (rd _);rw[sJ]at h2;exact⟨h1,h2⟩
theorem iz(a b:List Int):eP a b<0↔ap a b=true:=by
 have:=cmpL_lex a b
 cases h:ap a b with
 | true=>rw[h]at this;have:=of_decide_eq_false this;simp;omega
 | false=>rw[h]at this;have:=of_decide_eq_true this;simp;omega
theorem cmpL_irr(a:List Int):¬eP a a<0:=by rw[iz,gU];simp
theorem lQ(a b c:List Int):eP a b<0→eP b c<0→eP a c<0:=by rw[iz,iz,iz];exact fV a b c
theorem cmpL_tri(a b:List Int):eP a b<0∨a=b∨eP b a<0:=by
 rw[iz,iz];by_cases he:a=b
 ·exact .inr (.inl he)
 ·cases h:ap a b with
  | true=>exact .inl rfl
  | false=>exact .inr (.inr (mM a b he h))
theorem oF{a b c:List Int}(h:¬eP a b<0)(g:¬eP b c<0):¬eP a c<0:=by
 intro hac
 rcases cmpL_tri a b with h1 | h1 | h1
 ·exact h h1
 ·subst h1;exact g hac
 ·exact g (lQ _ _ _ h1 hac)
end
end Go.Proofs.YtjogkbekekdkjaaGreatDoor
namespace Go.Proofs.YtjogkbekekdkjaaGreatDoor
section
open Go Go.Shelf
def renI:Go.Shelf.Ren:=⟨fun n=>match n with
  | 6=>136
  | 14=>197
  | 15=>105
  | 20=>246
  | 21=>247
  | 22=>248
  | 23=>249
  | 24=>250
  | 25=>251
  | 26=>252
  | 27=>253
  | 28=>167
  | 29=>168
  | 46=>272
  | 47=>218
  | 48=>219
  | 49=>273
  | 50=>274
  | 57=>286
  | n=>n,fun n=>match n with
  | 0=>0
  | 3=>3
  | 4=>4
  | 5=>5
  | 9=>9
  | 22=>122
  | 24=>34
  | 25=>239
  | 39=>172
  | 45=>254
  | 46=>255
  | 50=>127
  | 53=>45
  | 55=>262
  | 66=>301
  | 70=>305
  | 76=>333
  | 77=>334
  | n=>n,fun n=>n⟩
theorem layI:Go.Proofs.SlLaysF0.n6 Tryz.prog renI:={
 mixed:=by kernel_rfl
 f6:=⟨Tryz.f136.name,by decide,Tryz.func136.trans (congrArg some (by kernel_rfl))⟩
 f14:=⟨Tryz.f197.name,by decide,Tryz.func197.trans (congrArg some (by kernel_rfl))⟩
 f15:=Tryz.func105.trans (congrArg some (by kernel_rfl))
 f20:=⟨Tryz.f246.name,by decide,Tryz.func246.trans (congrArg some (by kernel_rfl))⟩
 f21:=⟨Tryz.f247.name,by decide,Tryz.func247.trans (congrArg some (by kernel_rfl))⟩
 f22:=⟨Tryz.f248.name,by decide,Tryz.func248.trans (congrArg some (by kernel_rfl))⟩
 f23:=⟨Tryz.f249.name,by decide,Tryz.func249.trans (congrArg some (by kernel_rfl))⟩
 f24:=⟨Tryz.f250.name,by decide,Tryz.func250.trans (congrArg some (by kernel_rfl))⟩
 f25:=⟨Tryz.f251.name,by decide,Tryz.func251.trans (congrArg some (by kernel_rfl))⟩
 f26:=⟨Tryz.f252.name,by decide,Tryz.func252.trans (congrArg some (by kernel_rfl))⟩
 f27:=⟨Tryz.f253.name,by decide,Tryz.func253.trans (congrArg some (by kernel_rfl))⟩
 f28:=Tryz.func167.trans (congrArg some (by kernel_rfl))
 f29:=Tryz.func168.trans (congrArg some (by kernel_rfl))
 f46:=⟨Tryz.f272.name,by decide,Tryz.func272.trans (congrArg some (by kernel_rfl))⟩
 f47:=Tryz.func218.trans (congrArg some (by kernel_rfl))
 f48:=Tryz.func219.trans (congrArg some (by kernel_rfl))
 f49:=⟨Tryz.f273.name,by decide,Tryz.func273.trans (congrArg some (by kernel_rfl))⟩
 f50:=⟨Tryz.f274.name,by decide,Tryz.func274.trans (congrArg some (by kernel_rfl))⟩
 f57:=⟨Tryz.f286.name,by decide,Tryz.func286.trans (congrArg some (by kernel_rfl))⟩
 t0:=Tryz.underlying0
 a0:=Tryz.isAgg0
 z0:=Tryz.sizeOf0
 v0:=Tryz.zeroValue0
 t3:=Tryz.underlying3
 a3:=Tryz.isAgg3
 z3:=Tryz.sizeOf3
 v3:=Tryz.zeroValue3
 t4:=Tryz.underlying4
 a4:=Tryz.isAgg4
 z4:=Tryz.sizeOf4
 v4:=Tryz.zeroValue4
 t5:=Tryz.underlying5
 a5:=Tryz.isAgg5
 z5:=Tryz.sizeOf5
 v5:=Tryz.zeroValue5
 t9:=Tryz.underlying9
 a9:=Tryz.isAgg9
 z9:=Tryz.sizeOf9
 v9:=Tryz.zeroValue9
 t22:=Tryz.underlying122
 a22:=Tryz.isAgg122
 z22:=Tryz.sizeOf122
 v22:=Tryz.zeroValue122
 t25:=Tryz.underlying239
 a25:=Tryz.isAgg239
 z25:=Tryz.sizeOf239
 v25:=Tryz.zeroValue239
 t39:=Tryz.underlying172
 a39:=Tryz.isAgg172
 z39:=Tryz.sizeOf172
 v39:=Tryz.zeroValue172
 t45:=Tryz.underlying254
 a45:=Tryz.isAgg254
 z45:=Tryz.sizeOf254
 v45:=Tryz.zeroValue254
 t46:=Tryz.underlying255
 a46:=Tryz.isAgg255
 z46:=Tryz.sizeOf255
 v46:=Tryz.zeroValue255
 t50:=Tryz.underlying127
 a50:=Tryz.isAgg127
 z50:=Tryz.sizeOf127
 v50:=Tryz.zeroValue127
 t53:=Tryz.underlying45
 a53:=Tryz.isAgg45
 z53:=Tryz.sizeOf45
 v53:=Tryz.zeroValue45
 t55:=Tryz.underlying262
 a55:=Tryz.isAgg262
 z55:=Tryz.sizeOf262
 v55:=Tryz.zeroValue262
 t66:=Tryz.underlying301
 a66:=Tryz.isAgg301
 z66:=Tryz.sizeOf301
 v66:=Tryz.zeroValue301
 t70:=Tryz.underlying305
 a70:=Tryz.isAgg305
 z70:=Tryz.sizeOf305
 v70:=Tryz.zeroValue305
 t76:=Tryz.underlying333
 a76:=Tryz.isAgg333
 z76:=Tryz.sizeOf333
 v76:=Tryz.zeroValue333
 t77:=Tryz.underlying334
 a77:=Tryz.isAgg334
 z77:=Tryz.sizeOf334
 v77:=Tryz.zeroValue334 }
end
end Go.Proofs.YtjogkbekekdkjaaGreatDoor
namespace Go.Proofs.YtjogkbekekdkjaaGreatDoor
section
open Go Go.AM Go.RowKit Go.Lib Go.Sort
def cD(ls:List (List Int)):List (List Int):=ls.mergeSort fun x y=>!(ltOf eP) y x
theorem eC(l:List (List Int)):(cD l).Perm l:=List.mergeSort_perm _ _
theorem fh(l:List (List Int)):(cD l).length=l.length:=(eC l).length_eq
theorem swoI:SWO (ltOf eP) where
 irrefl x:=by unfold ltOf;exact decide_eq_false (cmpL_irr x)
 trans x y z h g:=by unfold ltOf at *;exact decide_eq_true (lQ _ _ _ (of_decide_eq_true h) (of_decide_eq_true g))
 ntrans x y z h g:=by unfold ltOf at *;exact decide_eq_false (oF (of_decide_eq_false h) (of_decide_eq_false g))
theorem totI(x y:List Int)(h:ltOf eP x y=false)(g:ltOf eP y x=false):x=y:=by
 unfold ltOf at *
 rcases cmpL_tri x y with h1 | h1 | h1
 ·exact absurd h1 (of_decide_eq_false h)
 ·exact h1
 ·exact absurd h1 (of_decide_eq_false g)
theorem sortLi_sorted(l:List (List Int)):(cD l).Pairwise fun x y=>¬eP y x<0:=by
 have:=List.pairwise_mergeSort (le:=fun x y=>!(ltOf eP) y x) (fun a b c h g=>by
  simp only[sL,ltOf,decide_eq_false_iff_not]at *
  exact oF g h) (fun a b=>by
  simp only[sV,sL,ltOf,decide_eq_false_iff_not];by_cases h:eP b a<0
  ·right;intro g;exact cmpL_irr a (lQ _ _ _ g h)
  ·exact .inl h) l
 refine this.imp fun {x y} h=>?_
 simpa[ltOf] using h
def AI(s:AM.St)(f:Bool):Type:={ p:List Int×Value // p.1.length≤1000000∧Rel s (L1 f p.1) p.2 }
instance (s:AM.St) (f:Bool):Inhabited (AI s f):=⟨⟨([],.slice none 0 0),by simp,by
 refine .lst 1 f [] none 0 0 0 (fun _ _=>undef) (rd _) (fun _=>rfl) (fun h=>by simp at h) (by simp) (by simp) (by simp)⟩⟩
theorem AI.sl{s:AM.St}{f:Bool}{k e z:Nat}{xs:List V}(hk:s.H[k]?=some (.buf e z xs false))(hκ:s.κ k≠0)(a:AI s f):∃A cap,a.1.2 = .slice A a.1.1.length cap ∧
  ∀(i:Nat) (h:i<a.1.1.length),∃b o,A=some ⟨b,o,none⟩∧b≠s.φ k∧b<s.w.heap.size∧s.w.cell? ⟨b,o+i,none⟩=some (.int .i64 a.1.1[i]):=by
 obtain⟨⟨l,u⟩,hl,hr⟩:=a;simp only at hl hr ⊢;simp only[L1]at hr;generalize hxs:l.map aE=ys at hr
 have hyl:ys.length=l.length:=by rw[←hxs];simp
 cases hr with
 | lst _ _ _ A cap b off uf hcap hfull hA hz hcell hrel =>
  refine⟨A,cap,by rw[hyl],fun i hi=>?_⟩;obtain⟨rfl,hP⟩:=hA (by omega)
  have hy:ys[i]?=some (aE l[i]):=by rw[←hxs];simp[hi]
  refine⟨b,off,rfl,?_,hP.1,?_⟩
  ·intro he;obtain⟨e',z',xs',hb⟩:=hP.2.2 k (lvB hk hκ) he.symm;rw[hk]at hb;cases hb
  ·have h1:=hcell i _ 0 _ hy rfl;have h2:=hrel i _ 0 _ hy rfl;rw[tm,vM]at h1;generalize uf i 0=u at h1 h2;cases h2;exact h1
def jK{s:AM.St}{f:Bool}(a:AI s f):Value:=a.1.2
def cfAI{s:AM.St}{f:Bool}(a b:AI s f):Int:=eP a.1.1 b.1.1
theorem permIn_map{α β:Type} [Inhabited α] [Inhabited β] (f:α→β){n:Nat}{d d':Array α}(hn:d.size=n)(h:PermIn 0 n d d'):PermIn 0 n (d.map f) (d'.map f):=by
 obtain⟨h1,h2,h3⟩:=h;refine⟨by simp[h1],fun i hi=>?_,?_⟩
 ·rw[getElem!_neg _ _ (by simp;omega),getElem!_neg _ _ (by simp;omega)]
 ·have e1:(d.map f).extract 0 n=(d.extract 0 n).map f:=by simp
  have e2:(d'.map f).extract 0 n=(d'.extract 0 n).map f:=by simp
  rw[e1,e2,Array.toList_map,Array.toList_map];exact h3.map f
theorem sortedIn_map{α β:Type} [Inhabited α] [Inhabited β] (f:α→β){lt:β→β→Bool}{n:Nat}{d:Array α}(hn:d.size=n)(h:SortedIn (fun x y=>lt (f x) (f y)) 0 n d):SortedIn lt 0 n (d.map f):=fun i j h1 h2 h3=>by
 have:=h i j h1 h2 h3
 have hj:j<d.size:=by omega
 have hi:i<d.size:=by omega
 rw[getElem!_pos d j hj,getElem!_pos d i hi]at this;rw[getElem!_pos (d.map f) j (by simpa using hj),getElem!_pos (d.map f) i (by simpa using hi),vG,vG];exact this
theorem layI1:SlLaysF.n6 Tryz.prog renI:={ layI with a24:=Tryz.isAgg34,z24:=Tryz.sizeOf34 }
def LBi(H:List B)(k e:Nat)(f:Bool)(ls:List (List Int)):List B:=H.set k (.buf e 1 (ls.map (L1 f)) false)
theorem sortLi_u{H:List B}{k e:Nat}{f:Bool}(ls:List (List Int))(n:Nat)(hn:ls.length=n)(hk:k<H.length)(hl:n<4611686018427387904)(hls:∀l∈ls,l.length≤1000000):
  av Tryz.prog 136 [.buf k 0 n n,.fn 137 []] (LBi H k e f ls) fun r H'=>r = .tup []∧H'=LBi H k e f (cD ls):=by
 subst hn
 have hH:(LBi H k e f ls)[k]?=some (.buf e 1 (ls.map (L1 f)) false):=by unfold LBi;rw[sA hk]
 rw[show LBi H k e f (cD ls)=(LBi H k e f ls).set k (.buf e 1 ((cD ls).map (L1 f)) false) by unfold LBi;rw[tC]];generalize LBi H k e f ls=H at hH;refine⟨⟨Tryz.f136,Tryz.func136,rfl,rfl⟩,fun s vals hA hg hsz hrel=>?_⟩;obtain⟨rfl,hZ⟩:=hA
 obtain⟨u0,u1,rfl⟩:∃u0 u1,vals = #[u0,u1]:=by
  obtain⟨l⟩:=vals
  match l,hsz with
  | [a,b],_=>exact⟨a,b,rfl⟩
 have r0:=hrel 0 _ u0 rfl rfl;have r1:=hrel 1 _ u1 rfl rfl
 cases r1 with
 | fn _ _ us hul _ =>
 obtain rfl:us = #[]:=Array.eq_empty_of_size_eq_zero (by simpa using hul)
 cases r0 with
 | buf _ _ _ _ e2 z2 xs2 fz2 A n c hk2 ht hh =>
 rw[hH]at hk2;cases hk2;obtain⟨hA,rfl,hcap,_⟩:=hh (by simp);rw[tU]at hcap;by_cases h0:ls=[]
 ·subst h0;refine(AnyF.slices_SortFunc_none layI A c _ s.w).mono ?_;rintro e' w' ⟨rfl,rfl⟩;refine⟨_,s,.tup [],rfl,rfl,hg,Step.refl s,.tup [] #[] rfl (by simp),rfl,?_⟩;rw[show cD []=[] by simp[cD]];apply tn;intro i;rw[uh];split
  ·rename_i h;subst h;rw[if_pos (aB hH),hH]
  ·rfl
 ·have hpos:0<ls.length:=List.length_pos_iff.2 h0;obtain⟨vs,g2,g3,g4,g5,g6,g7⟩:=hg.blk k _ hH;rw[sK]at g4
  have hκ:s.κ k≠0:=by omega
  have hA:=hA hκ;subst hA;have g2:=g2 hκ;have hlt:=(hg.lt k (lvB hH hκ)).1
  have hel:∀i (h:i<ls.length),∃u,vs[i]?=some u∧Rel s (L1 f ls[i]) u:=fun i h=>by
   obtain⟨u,hu⟩:∃u,vs[i]?=some u:=⟨_,uQ (show i<vs.size by omega)⟩;exact⟨u,hu,g7 i _ 0 _ u (show(ls.map (L1 f))[i]?=some (L1 f ls[i]) by simp[h]) rfl (by simpa using hu)⟩
  obtain⟨d,hds,hdl,hdv⟩:∃d:Array (AI s f),d.size=ls.length∧d.map (fun a=>a.1.1)=ls.toArray∧∀i,i<ls.length→vs[i]?=some (jK d[i]!):=by
   have hx:∀i:Fin ls.length,∃a:AI s f,a.1.1=ls[i]∧vs[i.1]?=some (jK a):=fun i=>by
    obtain⟨u,hu,hr⟩:=hel i.1 i.2;exact⟨⟨(ls[i],u),hls _ (rQ _),hr⟩,rfl,hu⟩
   refine⟨Array.ofFn fun i=>Classical.choose (hx i),by simp,?_,fun i hi=>?_⟩
   ·apply Array.ext
    ·simp
    ·intro i h1 h2;simp only[vG,Array.getElem_ofFn];have:=(Classical.choose_spec (hx ⟨i,by simpa using h2⟩)).1;rw[this];simp
   ·rw[getElem!_pos _ _ (by simpa using hi),Array.getElem_ofFn];exact(Classical.choose_spec (hx ⟨i,hi⟩)).2
  have hOne:OneCell (jK (s:=s) (f:=f)):=fun a=>by
   obtain⟨A,cap,h1,_⟩:=AI.sl hH hκ a;unfold jK;rw[h1];rfl
  have hHo:Holds (jK:AI s f→Value) s.w (s.φ k) (0*1) d:=by
   intro t ht;rw[hds]at ht;refine⟨?_,?_⟩
   ·simp only[World.cell?,g2,uC,tU];simpa using hdv t ht
   ·simp[World.frozen?,g2]
  have hcmp:CmpLays1 Tryz.prog 137 #[] (jK:AI s f→Value) cfAI (s.φ k) (0*1) d.size s.w:=fun m os dk _ x y=>by
   obtain⟨A,ca,a1,a2⟩:=AI.sl hH hκ x;obtain⟨B,cb,b1,b2⟩:=AI.sl hH hκ y
   have hat:∀(A:Option Addr) (l:List Int),(∀(i:Nat) (h:i<l.length),∃b o,A=some ⟨b,o,none⟩∧b≠s.φ k∧b<s.w.heap.size∧s.w.cell? ⟨b,o+i,none⟩=some (.int .i64 l[i]))→
     AtI (sortWorld (jK:AI s f→Value) s.w (s.φ k) (0*1) m dk os) A l:=fun A l h i hi=>by
    obtain⟨b,o,h1,h2,h3,h4⟩:=h i hi
    have hc:∀t,(sortWorld (jK:AI s f→Value) s.w (s.φ k) (0*1) m dk os).cell? ⟨b,t,none⟩=s.w.cell? ⟨b,t,none⟩:=fun t=>by
     unfold sortWorld;rw[cell?_grow _ _ _ (by rw[Go.Proofs.size_putRow];exact h3),cell?_putRow_other _ _ _ _ _ _ (.inl h2)];rfl
    refine⟨b,o,h1,?_,by rw[hc];exact h4⟩;unfold sortWorld;rw[size_grow,Go.Proofs.size_putRow];exact sI h3 (Nat.le_add_right _ _)
   have:=compareIK x.1.1 y.1.1 A B ca cb (sortWorld (jK:AI s f→Value) s.w (s.φ k) (0*1) m dk os) (hat A _ a2) (hat B _ b2) x.2.1 y.2.1;rw[←a1,←b1]at this;exact this
  have hs:=Any.slices_SortFunc layI1 (jK:AI s f→Value) hOne cfAI ⟨fun x=>swoI.irrefl x.1.1,fun x y z=>swoI.trans x.1.1 y.1.1 z.1.1,fun x y z=>swoI.ntrans x.1.1 y.1.1 z.1.1⟩ 137 #[] (s.φ k) (0*1) c d s.w
   (fun args w=>rfl) hcmp hHo hlt (by rw[hds];simpa using hl)
  rw[hds]at hs;refine hs.mono ?_;rintro e' w' ⟨rfl,d',n,os,hp,hso,hw⟩;have hp2:=permIn_map (fun a:AI s f=>a.1.1) hds hp
  have hd':d'.size=ls.length:=by rw[hp.1];exact hds
  have hso2:=sortedIn_map (lt:=ltOf eP) (fun a:AI s f=>a.1.1) hd' hso;rw[hdl]at hp2;have hu:=sorted_unique_holds swoI totI ls.toArray (d'.map fun a=>a.1.1) (by simpa using hp2) (by simpa using hso2)
  have hys:(cD ls).map (L1 f)=d'.toList.map fun a=>L1 f a.1.1:=by
   have:cD ls=(d'.map fun a=>a.1.1).toList:=by rw[hu];simp[cD]
   rw[this,Array.toList_map,vE];rfl
  have hw2:w'=grow (putRow id (Go.Sort.ahead s.w n) (s.φ k) 0 (d'.map jK)) os:=by
   rw[hw,uC];unfold sortWorld;rw[putRow_id]
  rw[hys]
  obtain⟨f1,f2⟩:=row_turned (ys:=d'.toList.map fun a=>L1 f a.1.1) hg hH hκ (d'.map jK) n os (by simp[hd']) (by simp[hd'])
   (fun y hy=>by obtain⟨c,_,rfl⟩:=List.mem_map.1 hy;exact⟨rfl,by simp[L1,V.cells,V.one]⟩) (fun i y j dd hy hd=>by
    have hil:=aB hy;simp only[sK,tQ]at hil
    have hj:j=0:=by
     rw[sQ,tI,uQ hil,sU]at hy;cases hy;have:=aB hd;simp[L1,V.cells]at this;omega
    subst hj;rw[sQ,tI,uQ hil,sU]at hy;cases hy
    have:dd=L1 f d'[i].1.1:=by simpa[L1,V.cells] using hd.symm
    subst this;rw[vM,tm,getElem!_pos _ _ (by simpa using hil),vG]
    exact d'[i].2.2) w' hw2
  exact⟨_,_,.tup [],rfl,rfl,f1,f2,.tup [] #[] rfl (by simp),rfl,rfl⟩
end
end Go.Proofs.YtjogkbekekdkjaaGreatDoor
namespace Go.Proofs.YtjogkbekekdkjaaGreatDoor
section
open Go Go.AM
theorem relL_le{s:AM.St}{z:Nat}{xs ys:List V}{fl:Bool}{u:Value}(h:Rel s (.lst z fl xs) u)(hl:xs.length=ys.length)(hz:∀y∈ys,y.cells.length=z∧∀c∈y.cells,c.one=true)
  (hle:∀(i:Nat) x y,xs[i]?=some x→ys[i]?=some y→∀(j:Nat) c,y.cells[j]?=some c→∃d,x.cells[j]?=some d∧lfB d c):Rel s (.lst z fl ys) u:=by
 cases h with
 | lst _ _ _ A cap b off u hcap hfull hA hz0 hcell hrel =>
  rw[hl];refine .lst z fl ys A cap b off u (by omega) (fun h=>by rw[←hl];exact hfull h) (fun h=>hA (by omega)) hz (fun i y j c hy hc=>?_) (fun i y j c hy hc=>?_)
  ·have hx:xs[i]?=some (xs[i]'(by have:=aB hy;omega)):=rT _;obtain⟨d,hd,_⟩:=hle i _ y hx hy j c hc;exact hcell i _ j d hx hd
  ·have hx:xs[i]?=some (xs[i]'(by have:=aB hy;omega)):=rT _;obtain⟨d,hd,h2⟩:=hle i _ y hx hy j c hc;exact nQ (hrel i _ j d hx hd) h2
theorem conP_resL{P:Program}{f:FuncId}{args:List V}{K K':V→Prop}(h:aL P f args K)(hk:∀s u r,K r→Rel s r u→∃r',Rel s r' u∧AM.Pure r'∧K' r'):aL P f args K':=by
 refine⟨h.1,fun F w vals hZ hF hsz hrel=>(h.2 F w vals hZ hF hsz hrel).mono fun e w' ⟨u,r,a1,a2,a3,a4,a5⟩=>?_⟩;obtain⟨r',b1,b2,b3⟩:=hk _ u r a5 a3;exact⟨u,r',a1,b2,b1,a4,b3⟩
def LT(g:Bool)(es:List (List Int)):V:=.lst 1 g (es.map (L1 true))
theorem nA(n e:Nat)(es:List (List Int)):rbB n (.buf e 1 (es.map (L1 true)) false):=(rbB_buf1 (fun x hx=>by obtain⟨y,_,rfl⟩:=List.mem_map.1 hx;exact⟨by simp,rfl⟩)).2 trivial
theorem oH(n e:Nat)(es:List (List Int)):rbB n (.buf e 1 (es.map (L1 false)) false):=(rbB_buf1 (fun x hx=>by obtain⟨y,_,rfl⟩:=List.mem_map.1 hx;exact⟨by simp,rfl⟩)).2 trivial
theorem rel_LT{s:AM.St}{g:Bool}{es:List (List Int)}{u:Value}(h:Rel s (LT g es) u):Rel s (LL g es) u:=by
 refine relL_le h (by simp) (fun y hy=>?_) (fun i x y hx hy j c hc=>?_)
 ·obtain⟨z,_,rfl⟩:=List.mem_map.1 hy;refine⟨rfl,fun c hc=>?_⟩;simp only[L1,V.cells,rU,rS,or_false]at hc;subst hc;rfl
 ·rw[sQ]at hx hy
  cases hz:es[i]? with
  | none=>rw[hz]at hx;cases hx
  | some z =>
   rw[hz]at hx hy;simp only[sU,Option.some.injEq]at hx hy;subst hx;subst hy
   match j with
   | 0 =>
    simp[L1,V.cells]at hc;subst hc;exact⟨_,rfl,.inr (.inl ⟨1,z.map aE,rfl,rfl⟩)⟩
   | j+1=>simp[L1,V.cells]at hc
theorem rel_tup2{s:AM.St}{a a' b:V}{u:Value}(h:Rel s (.tup [a,b]) u)(ha:∀x,Rel s a x→Rel s a' x):Rel s (.tup [a',b]) u:=by
 cases h with
 | tup _ us hl hr =>
  refine .tup _ us (by simpa using hl) (fun i v x hv hx=>?_)
  match i with
  | 0=>simp at hv;subst hv;exact ha _ (hr 0 a x rfl hx)
  | 1=>simp at hv;subst hv;exact hr 1 _ x rfl hx
  | i+2=>simp at hv
theorem mn{P:Program}{f:FuncId}{args:List V}{es:List (List Int)}{e:Int}(h:aL P f args fun r=>r = .tup [LT false es,.int .i64 e]):aL P f args fun r=>r = .tup [LL false es,.int .i64 e] :=
 conP_resL h fun s u r hr hrel=>⟨_,rel_tup2 (hr▸hrel) fun x=>rel_LT,by simp[LL],rfl⟩
end
end Go.Proofs.YtjogkbekekdkjaaGreatDoor
namespace Go.Proofs.YtjogkbekekdkjaaGreatDoor
section
open Go Go.AM Go.RowKit Go.Lib
theorem conO_row{f:FuncId}{args:List V}{e z:Nat}(hE:AM.Enters Tryz.prog f)(h:∀(F:Nat→Prop) (w:World) (vals:Array Value),vals.size=args.length→(∀(i:Nat) a u,args[i]?=some a→vals[i]?=some u→Rel (AM.base F w) a u)→
  Calls Tryz.prog f vals w fun e' w'=>∃v,e' = .returned v∧Below w.heap.size w w'∧(v = .slice none 0 0∨∃g c cur,v = .slice (some ⟨g,0,none⟩) 0 c∧w.heap.size≤g∧w'.heap[g]?=some (.cells cur e (0,0))∧c≠0∧c≤maxLen∧cur.size=c*z)):gy Tryz.prog f args fun e' z' ys=>e'=e∧z'=z∧ys=[]:=by
 refine⟨hE,fun F w vals hZ hF hsz hrel=>(h F w vals hsz hrel).mono fun e' w' ⟨v,he,hb,hv⟩=>?_⟩
 rcases hv with hv | ⟨g,c,cur,hv,hg,hc,hn,hm,hs⟩
 ·have hF':∀b,F b→b<w'.heap.size:=fun b hb'=>sI (hF b hb') hb.size
  obtain⟨p1,_⟩:=pZ (AM.base_good hF') (w:=w') 0 e z false rfl rfl rfl (rd _) (fun _ _=>rfl);refine⟨v,e,z,[],none,0,0,he,hv,fun h=>absurd rfl h,by simp,fun h=>absurd rfl h,?_,hb,rfl,rfl,rfl⟩;refine⟨hF',fun k hk=>absurd (hk.2 e z [] false (by have:=hk.1;simp at this;subst this;rfl)) (by simp),fun j k hj hk _=>by have:=hj.1;have:=hk.1;simp at *;omega,fun k bl hk=>?_⟩
  have hk0:k=0:=by have:=aB hk;simp at this;omega
  subst hk0;simp at hk;subst hk;exact⟨#[],fun h=>absurd rfl h,by simp,by simp,by simp[maxLen],(fun x hx=>by cases hx),(fun i x j c u hx=>by simp at hx)⟩
 ·have hF':∀b,F b→b<w'.heap.size:=fun b hb'=>sI (hF b hb') hb.size
  refine⟨v,e,z,[],some ⟨g,0,none⟩,g,c,he,hv,fun _=>rfl,by simp,fun _=>hg,?_,hb,rfl,rfl,rfl⟩;refine⟨hF',fun k hk=>⟨(Array.getElem?_eq_some_iff.1 hc).1,fun hf=>by have:=hF g hf;omega⟩,fun j k hj hk _=>by have:=hj.1;have:=hk.1;simp at *;omega,fun k bl hk=>?_⟩
  have hk0:k=0:=by have:=aB hk;simp at this;omega
  subst hk0;simp at hk;subst hk;exact⟨cur,fun _=>hc,by simpa using hs,by simp,hm,(fun x hx=>by cases hx),(fun i x j c u hx=>by simp at hx)⟩
theorem infoG_Z:(Tryz.prog.info? 2).map (fun i=>(i.zero,i.size,i.bytes))=some (some (.int .i64 0),1,8):=by kernel_rfl
theorem growPos_Z(n:Nat)(w:World)(h0:0<n)(hn:n≤1000000):Calls Tryz.prog 196 #[.slice none 0 0,.int .i64 n] w fun e w' =>
   e = .returned (.slice (some ⟨w.heap.size,0,none⟩) 0 (grownCap w n 0 2))∧w'=w.drew.alloc (.cells (Builtin.zeroCells (.int .i64 0:Value).cells n++Builtin.zeroCells (.int .i64 0:Value).cells (grownCap w n 0 2-n)) 2):=by
 obtain⟨i0,hi0,hz0,hs0,hby⟩:=info_parts infoG_Z
 have h1:¬((n:Int)<0):=by omega
 have hz25:∀w,(Go.sizeOf 2).run Tryz.prog w = .ok 1 w:=fun w=>by simp[Go.sizeOf,typeInfo,hi0,hs0]
 have hold:(Builtin.firstCells i0.size 0 (.slice none 0 0)).run Tryz.prog w.drew = .ok ([]:List Value).toArray w.drew:=run_firstCells_none w.drew i0.size 0 0 0
 have hbig:(0+n)*i0.bytes≤140737488355328:=by rw[hby];omega
 have hrz:∀ty,(Builtin.append_ #[34,3] ty #[.slice none 0 0,.int .i64 (n:Int)]).run Tryz.prog w =
   .ok (.slice (some ⟨w.heap.size,0,none⟩) n (grownCap w n 0 2)) (w.drew.alloc (.cells (Builtin.zeroCells (.int .i64 0:Value).cells n++Builtin.zeroCells (.int .i64 0:Value).cells (grownCap w n 0 2-n)) 2)):=fun ty=>by
  have h:=Lib.run_append_grow_zeros (P:=Tryz.prog) w 34 3 ty 2 i0 _ .i64 .i64 Tryz.underlying34 Tryz.underlying3 hi0 hz0 none 0 0 [] hold n h0 (by omega) (by omega) (by omega)
   (by rw[hby];omega)
   (growslice_fits (by omega) hbig)
  simpa using h
 have hGn:n≤grownCap w n 0 2:=grownCap_ge w _ _ _;obtain⟨G,hG⟩:∃G,G=grownCap w n 0 2:=⟨_,rfl⟩;rw[←hG]at hrz hGn ⊢
 have hG63:G≤9223372036854775807:=by
  have:=grownCap_le_maxLen w n 0 2 (by unfold maxLen;omega);rw[←hG]at this;unfold maxLen at this;omega
 have h2:RowKit.wrap64 ((0:Int)-0)=0:=by unfold RowKit.wrap64;omega
 have h3:RowKit.wrap64 ((n:Int)-0)=(n:Int):=by unfold RowKit.wrap64;omega
 have h4:(n:Int)> 0:=by omega
 clear hold hG hbig
 go_enter Tryz.func196,Tryz.ntmps196
 go_wp2_with (at_builtin;refine Lib.wpList_append_run _ rfl _ _ _ _ rfl _ _ rfl rfl _ _ (hrz _) ?_)
 all_goals (go_ret;exact⟨rfl,rfl⟩)
theorem growNil_Z(w:World):Calls Tryz.prog 196 #[.slice none 0 0,.int .i64 0] w fun e w'=>e = .returned (.slice none 0 0)∧w'=w:=by
 go_enter Tryz.func196,Tryz.ntmps196
 go_wp2
 go_ret
 exact⟨rfl,rfl⟩
theorem qF(n:Nat)(hn:n≤1000000):gy Tryz.prog 196 [.nilS,.int .i64 n] fun e z ys=>e=2∧z=1∧ys=[]:=by
 refine conO_row ⟨Tryz.f196,Tryz.func196,rfl,rfl⟩ (fun F w vals hsz hrel=>?_)
 obtain⟨u0,u1,rfl⟩:∃u0 u1,vals = #[u0,u1]:=by
  obtain⟨l⟩:=vals
  match l,hsz with
  | [a,b],_=>exact⟨a,b,rfl⟩
 have r0:=hrel 0 _ u0 rfl rfl;have r1:=hrel 1 _ u1 rfl rfl;cases r0;cases r1;by_cases h0:n=0
 ·subst h0
  exact(growNil_Z w).mono fun e w' ⟨h1,h2⟩=>⟨_,h1,by subst h2;exact Below.refl _ _,.inl rfl⟩
 ·refine(growPos_Z n w (by omega) hn).mono fun e w' ⟨h1,h2⟩=>?_
  subst h2;have hge:=grownCap_ge w n 0 2;refine⟨_,h1,((Below.refl _ _).drew).alloc (rd _) _,.inr ⟨w.heap.size,grownCap w n 0 2,Builtin.zeroCells (.int .i64 0:Value).cells n++Builtin.zeroCells (.int .i64 0:Value).cells (grownCap w n 0 2-n),rfl,rd _,?_,by omega,grownCap_le_maxLen w n 0 2 (by unfold maxLen;omega),?_⟩⟩
  ·exact Array.getElem?_push_size (xs:=w.heap)
  ·rw[ug,size_zeroCells,size_zeroCells,←sM,Nat.add_sub_cancel' hge];rfl
theorem grow_nil_Z:aL Tryz.prog 196 [.nilS,.int .i64 0] fun r=>r = .nilS:=by
 refine⟨⟨Tryz.f196,Tryz.func196,rfl,rfl⟩,fun F w vals hZ hF hsz hrel=>?_⟩
 obtain⟨u0,u1,rfl⟩:∃u0 u1,vals = #[u0,u1]:=by
  obtain⟨l⟩:=vals
  match l,hsz with
  | [a,b],_=>exact⟨a,b,rfl⟩
 have r0:=hrel 0 _ u0 rfl rfl;have r1:=hrel 1 _ u1 rfl rfl;cases r0;cases r1
 refine(growNil_Z w).mono fun e w' ⟨h1,h2⟩=>⟨_,_,h1,.nilS,.nilS,by subst h2;exact Below.refl _ _,rfl⟩
end
end Go.Proofs.YtjogkbekekdkjaaGreatDoor
namespace Go.Proofs.YtjogkbekekdkjaaGreatDoor
section
open Go Go.AM Go.RowKit
structure FlVZ where
 f:Bool
 xs:List V
def gG(l:FlVZ):V:=.lst 1 l.f l.xs
def dY(ls:List FlVZ):List V:=(ls.map (·.xs)).flatten
theorem qk(ls:List FlVZ)(i:Nat)(h:i<ls.length):dY (ls.take (i+1))=dY (ls.take i)++ls[i].xs:=by
 unfold dY;rw[rV h,sX,vA];simp
theorem catL_leZ(ls:List FlVZ)(i:Nat):(dY (ls.take i)).length≤(dY ls).length:=by
 conv=>rhs;rw[←tG i ls]
 unfold dY;rw[sX,vA,ri];omega
theorem lR{ls:List FlVZ}(hp:∀l∈ls,∀x∈l.xs,AM.Pure x∧dV x=true∧x.cells.length=1):∀x∈dY ls,AM.Pure x∧dV x=true:=by
 intro x hx;obtain⟨l,hl,h⟩:=List.mem_flatten.1 hx;obtain⟨y,hy,rfl⟩:=List.mem_map.1 hl;exact⟨(hp y hy x h).1,(hp y hy x h).2.1⟩
theorem catW_Z(n:Nat)(h:n≤1000000):n≤9223372036854775807∧n*8≤140737488355328:=by omega
theorem qc(ls:List FlVZ)(g:Bool)(hp:∀l∈ls,∀x∈l.xs,AM.Pure x∧dV x=true∧x.cells.length=1)(hl:ls.length≤1000000)(hs:(dY ls).length≤1000000):aL Tryz.prog 135 [.lst 1 g (ls.map gG)] fun r=>r = .lst 1 false (dY ls):=by
 have htl:=fun i=>catL_leZ ls i
 have hpF:∀l∈ls,AM.Pure (gG l):=fun l hl=>.lst _ _ _ (fun x hx=>(hp l hl x hx).1)
 refine sPx Tryz.func135 rfl rfl ?_;simp -dsimp[Tryz.f135,rO,gG];refine aG (W_loopM 23 0x7ff828 (by simp[mB]<;>rfl) (σ:=Nat) (fun i=>i≤ls.length) (fun i=>ls.length-i) (fun i=>[(11,.int .i64 i),(3,.int .i64 ((dY (ls.take i)).length:Nat))]) (fun _=>[]) 0 (by omega) (by simp[dY]) rfl (by simp) ?_);intro i hi N Q hN hQ;by_cases hb:i<ls.length
 ·have hsu:=qk ls i hb;have h1:=htl i;have h2:=htl (i+1);rw[hsu,ri]at h2;obtain⟨c,hc⟩:∃c,c=(dY (ls.take i)).length:=⟨_,rfl⟩;rw[←hc]at h1 h2
  have hlx:(dY (ls.take (i+1))).length=c+ls[i].xs.length:=by rw[hsu,ri,hc]
  obtain⟨x,hx⟩:∃x,x=ls[i]:=⟨_,rfl⟩;rw[←hx]at h2 hlx;have hx':=hx.symm;obtain⟨d,hd⟩:∃d,d=c+x.xs.length:=⟨_,rfl⟩
  have hw:IntKind.i64.wrap ((c:Int)+(x.xs.length:Int))=(d:Int):=by rw[wrap64 (by omega) (by omega),hd];push_cast;rfl
  refine wx ?_;simp -dsimp[hb,hx',hw,show ¬(d:Int)<0 by omega,aH i (by omega),←hc,gG];refine hN (i+1) _ _ (by omega) (by omega) (by simp[hlx,hd]) ⟨[],rfl⟩ (by simp;exact hpF) (by simp)
 ·obtain rfl:i=ls.length:=by omega
  rw[sJ];have hg:=eY (H:=[]) (qF (dY ls).length hs) (by simp);refine wx ?_;simp -dsimp[hb,gG];refine hQ _ _ _ ?_;simp -dsimp[gG];refine hg.mono ?_;rintro r H' ⟨e,z,xs,rfl,rfl,_,rfl,rfl,rfl⟩;simp -dsimp[gG];refine aG (W_loopM 35 0x7f8000140 (by simp[mB]<;>rfl) (σ:=Nat) (fun i=>i≤ls.length) (fun i=>ls.length-i) (fun i=>[(27,.int .i64 i),(6,.buf 0 0 (dY (ls.take i)).length (dY (ls.take i)).length)]) (fun i=>[B.buf 2 1 (dY (ls.take i)) false]) 0 (by omega) (by simp[dY]) (by simp[dY]) (by simp) ?_);intro i hi N2 Q2 hN2 hQ2;by_cases hb:i<ls.length
  ·have hsu:=qk ls i hb;have h2:=htl (i+1);have hpi:=hp ls[i] (rQ hb);have hpc:=lR (ls:=ls.take (i+1)) (fun l hl=>hp l (sD hl));obtain⟨x,hx⟩:∃x,x=ls[i]:=⟨_,rfl⟩;rw[←hx]at hsu hpi;have hx':=hx.symm;rw[hsu]at h2 hpc;obtain⟨xs,hxs⟩:∃xs,xs=x.xs:=⟨_,rfl⟩;have hxs':=hxs.symm;rw[←hxs]at hsu h2 hpc hpi;by_cases h0:xs=[]
   ·rw[h0,rj]at hsu;refine wx ?_;simp -dsimp[hb,hx',hxs',h0,aH i (by omega),gG];refine hN2 (i+1) _ _ (by omega) (by omega) (by simp[hsu]) ⟨[],by simp[hsu]⟩ (by simp;exact hpF) (by rw[h0,rj]at hpc;intro bl hbl;rcases List.mem_cons.1 hbl with rfl | hbl;exact(rbB_buf1 (by rw[hsu];exact hpc)).2 trivial;cases hbl)
   ·obtain⟨c,hc⟩:∃c,c=dY (ls.take i):=⟨_,rfl⟩;rw[←hc]at hsu h2 hpc;rw[ri]at h2;refine wx ?_;simp -dsimp[hb,hx',hxs',h0,aH i (by omega),←hc,catW_Z (c.length+xs.length) (by omega),gG];refine hN2 (i+1) _ _ (by omega) (by omega) (by simp[hsu]) ⟨[],by simp[hsu]⟩ (by simp;exact hpF) (by intro bl hbl;rcases List.mem_cons.1 hbl with rfl | hbl;exact(rbB_buf1 (by rw[hsu];exact hpc)).2 trivial;cases hbl)
  ·obtain rfl:i=ls.length:=by omega
   rw[sJ];refine wx ?_;simp -dsimp[hb,gG];refine hQ2 _ _ _ ?_;simp -dsimp[gG];exact⟨dP rfl rfl (fun x hx=>(lR hp x hx).1),fun x hx=>(lR hp x hx).1⟩
end
end Go.Proofs.YtjogkbekekdkjaaGreatDoor
namespace Go.Proofs.YtjogkbekekdkjaaGreatDoor
section
open Go Go.AM
section
def isApp:Go.Op→Bool
 | .call c=>match c.callee with
  | .builtin .append=>true
  | _=>false
 | _=>false
def statP(ops:Array Oper)(E:List Nat)(tab:List (Nat×List Nat)):Bool :=
 stat1 ops&&np ops E&&(rh ops.size).all fun i=>E.contains i||(match ops[i]? with
  | some o=>(cR o.op||isApp o.op)&&(eK o.op||(rh (E.length+1)).all fun c=>!jZ (ab [] ops.toList) E i c||c == dD E i||(iA tab i).contains c)
  | none=>true)
def oblP(T:AM.Ty)(ops:Array Oper)(C:V→List V→List B→(V→List B→Prop)→Prop)(E:List Nat)(tab:List (Nat×List Nat))(Hs:Nat→List B):List Oper→Nat→Nat→List V→List V→Prop
 | [],_,_,_,_=>True
 | _::_,_,_,_,[]=>False
 | o::rest,i,c,fr,v::vs =>
  (match bm ops fr o with
   | some true=>match bK o.op with
    | some (f,args)=>if E.contains i then C (aT fr f) (args.map (aT fr)) (Hs c) (fun r H'=>r=v∧H'=Hs (c+1))
     else fR (fun c'=>C (aT fr f) (args.map (aT fr)) (Hs c') (fun r H'=>r=v∧H'=Hs c')) (c::iA tab i)
    | none=>if E.contains i||eK o.op then True else fR (fun c'=>aop T o.op (aT fr) (Hs c')=some (v,Hs c')) (if cR o.op then iA tab i else c::iA tab i)
   | _=>True)∧oblP T ops C E tab Hs rest (i+1) (if E.contains i then c+1 else c) (bT fr o.dst v) vs
def DrawP(T:AM.Ty)(ops:Array Oper)(E:List Nat)(tab:List (Nat×List Nat))(cv:List (V×List B))(C:V→List V→List B→(V→List B→Prop)→Prop)(K:List V→List B→Prop)(fr:List V)(H:List B):Prop :=
 match AM.runT T ops E ops.toList 0 fr H cv with
 | none=>False
 | some (vs,hs,f)=>hs.length=E.length∧oblP T ops C E tab (fun c=>(H::hs)[c]?.getD []) ops.toList 0 0 fr vs∧K f ((H::hs)[E.length]?.getD [])
section
variable {P:Program} {T:AM.Ty}
theorem oe{ops:Array Oper}{C:V→List V→List B→(V→List B→Prop)→Prop}{E:List Nat}{tab:List (Nat×List Nat)}{Hs:Nat→List B}(hasc:mu E=true)
  (hst:∀i o,ops[i]?=some o→E.contains i=false→(cR o.op=true∨isApp o.op=true)∧(eK o.op=true∨∀c,c<E.length+1→jZ (ab [] ops.toList) E i c=true→c=dD E i∨c∈iA tab i)):
  ∀(l:List Oper) (i:Nat) (fr:List V) (H:List B) (cv:List (V×List B)) (vs:List V) (hs:List (List B)) (f:List V),l=ops.toList.drop i→AM.runT T ops E l i fr H cv=some (vs,hs,f)→(∀k,k≤hs.length→Hs (dD E i+k)=((H::hs)[k]?).getD [])→
   oblP T ops C E tab Hs l i (dD E i) fr vs→cX T ops C (ab [] ops.toList) E Hs l i fr vs
 | [],i,fr,H,cv,vs,hs,f,hl,hr,hH,h=>trivial
 | o::rest,i,fr,H,cv,vs,hs,f,hl,hr,hH,h=>by
  have ho:ops[i]?=some o:=by
   have:=congrArg (fun l=>l[0]?) hl;simp at this;exact this.symm
  have hrest:rest=ops.toList.drop (i+1):=by
   have:=congrArg List.tail hl;simpa using this
  have hHi:Hs (dD E i)=H:=by have:=hH 0 (sY _);simpa using this
  simp only[AM.runT]at hr
  cases hw:bm ops fr o with
  | none=>rw[hw]at hr;cases hr
  | some b =>
  rw[hw]at hr
  cases b with
  | false =>
   simp only at hr;split at hr
   ·cases hr
   rename_i hE
   have hE:E.contains i=false:=by simpa using hE
   split at hr
   ·rename_i vs' hs' f' hr';cases hr;simp only[oblP,hw,hE,rn,if_false]at h;simp only[cX,hw];refine⟨⟨by first | trivial | rfl,hE⟩,oe hasc hst rest (i+1) _ H cv vs' _ _ hrest hr' (fun k hk=>?_) ?_⟩
    ·rw[cY hasc,hE];simpa using hH k hk
    ·rw[cY hasc,hE];simpa using h.2
   ·cases hr
  | true =>
   simp only at hr
   have fin:∀(v:V) (H':List B) (cv':List (V×List B)),(if E.contains i then(match AM.runT T ops E rest (i+1) (bT fr o.dst v) H' cv' with
      | some (vs,hs,f)=>some (v::vs,H'::hs,f)
      | none=>none)
     else(match AM.runT T ops E rest (i+1) (bT fr o.dst v) H cv' with
      | some (vs,hs,f)=>some (v::vs,hs,f)
      | none=>none))=some (vs,hs,f)→
     ∃vs',vs=v::vs'∧(E.contains i=true→Hs (dD E i+1)=H')∧(oblP T ops C E tab Hs rest (i+1) (if E.contains i then dD E i+1 else dD E i) (bT fr o.dst v) vs'→cX T ops C (ab [] ops.toList) E Hs rest (i+1) (bT fr o.dst v) vs'):=fun v H' cv' hq=>by
    cases hE:E.contains i with
    | true =>
     rw[hE]at hq;simp only[if_true]at hq;split at hq
     ·rename_i vs' hs' f' hr';cases hq;refine⟨vs',rfl,fun _=>?_,fun hh=>?_⟩
      ·have:=hH 1 (by simp);simpa using this
      ·refine oe hasc hst rest (i+1) _ H' cv' vs' hs' _ hrest hr' (fun k hk=>?_) ?_
       ·rw[cY hasc,hE];have:=hH (k+1) (by simp;omega);simp only[if_true,sk]at this ⊢;rw[show dD E i+1+k=dD E i+(k+1) by omega];exact this
       ·rw[cY hasc,hE];simpa using hh
     ·cases hq
    | false =>
     rw[hE]at hq;simp only[rn,if_false]at hq;split at hq
     ·rename_i vs' hs' f' hr';cases hq;refine⟨vs',rfl,(fun h=>by cases h),fun hh=>?_⟩;refine oe hasc hst rest (i+1) _ H cv' vs' hs _ hrest hr' (fun k hk=>?_) ?_
      ·rw[cY hasc,hE];simpa using hH k hk
      ·rw[cY hasc,hE];simpa using hh
     ·cases hq
   cases hc:bK o.op with
   | some p =>
    obtain⟨g,args⟩:=p;rw[hc]at hr;simp only at hr;split at hr
    ·rename_i v H' cv';obtain⟨vs',rfl,hEH,hrec⟩:=fin v H' cv' hr;simp only[oblP,hw,hc]at h;simp only[cX,hw,hc];refine⟨?_,hrec h.2⟩
     cases hE:E.contains i with
     | true =>
      rw[hE]at h;simp only[if_true]at h ⊢;rw[mq hasc hE];exact h.1
     | false =>
      rw[hE]at h;simp only[rn,if_false]at h ⊢;obtain⟨_,s2⟩:=hst i o ho hE
      have hns:eK o.op=false:=by
       cases hop:o.op<;>rw[hop]at hc<;>simp only[bK]at hc<;>first | (cases hc;done) | rfl
      rw[hns]at s2;have s2:=s2.resolve_left (by simp);refine allC_of (fun c hcm=>?_);split
      ·rename_i hp
       rcases s2 c (by simpa using hcm) hp with rfl | hm
       ·exact eR h.1 _ (by simp)
       ·exact eR h.1 _ (by simp[hm])
      ·trivial
    ·cases hr
   | none =>
    rw[hc]at hr;simp only at hr
    cases hop:aop T o.op (aT fr) H with
    | none=>rw[hop]at hr;cases hr
    | some q =>
     obtain⟨v,H'⟩:=q;rw[hop]at hr;simp only at hr;obtain⟨vs',rfl,hEH,hrec⟩:=fin v H' cv hr;simp only[oblP,hw,hc]at h;simp only[cX,hw,hc];refine⟨?_,hrec h.2⟩
     cases hE:E.contains i with
     | true =>
      simp only[if_true];rw[mq hasc hE,hHi,hEH hE];exact hop
     | false =>
      rw[hE]at h;simp only[rn,if_false,sf]at h ⊢;obtain⟨s1,s2⟩:=hst i o ho hE;refine allC_of (fun c hcm=>?_);split
      ·rename_i hp
       cases hsc:eK o.op with
       | true=>exact scalOp_ok hsc hop _
       | false =>
        rw[hsc]at h s2;simp only[rn,if_false]at h
        cases hso:cR o.op with
        | true =>
         rw[hso,if_pos rfl]at h;have hHH:=iU hso hop;subst hHH
         rcases(s2.resolve_left (by simp)) c (by simpa using hcm) hp with rfl | hm
         ·rw[hHi];exact hop
         ·exact eR h.1 _ hm
        | false =>
         rw[hso,if_neg (by simp)]at h
         rcases(s2.resolve_left (by simp)) c (by simpa using hcm) hp with rfl | hm
         ·exact eR h.1 _ (by simp)
         ·exact eR h.1 _ (by simp[hm])
      ·trivial
where
 allC_of {p:Nat→Prop} : ∀{l:List Nat},(∀c∈l,p c)→fR p l
  | [],_=>trivial
  | c::l,h=>⟨h c (by simp),allC_of (fun d hd=>h d (by simp[hd]))⟩
theorem pD(hT:TOk P T)(hm:P.follows .mixedOrders=true){id:Nat}{ops:Array Oper}{Q:Exit→List V→List B→Prop}{fr:List V}{H:List B}(E:List Nat)(tab:List (Nat×List Nat))(cv:List (V×List B))(hst:statP ops E tab=true)
  (h:∀(C:V→List V→List B→(V→List B→Prop)→Prop) (K:List V→List B→Prop),(∀fv args H K',aQ P fv args H K'→C fv args H K')→(∀fr H,Q .normal fr H→K fr H)→DrawP T ops E tab cv C K fr H):W P (.region id ops true) Q fr H:=by
 refine W_draw hT hm E cv fun C K hC hK=>?_
 have h1:=h C K hC hK;unfold DrawP at h1;unfold nn;simp only[statP,rX]at hst;obtain⟨⟨st1,st2⟩,st3⟩:=hst;split at h1
 ·exact h1.elim
 ·rename_i vs hs f hr;rw[hr];obtain⟨a1,a2,a3⟩:=h1
  have hasc:mu E=true:=by
   unfold np at st2;simp only[rX]at st2;exact st2.1.1
  have h00:dD E 0=0:=by cases E<;>simp[dD]
  refine⟨⟨oU st1 st2,a1⟩,?_,a3⟩;refine oe hasc (fun i o ho hE=>?_) ops.toList 0 fr H cv vs hs f (by simp) hr (fun k hk=>by rw[h00,tU]) (by rw[h00];exact a2);have hil:i<ops.size:=(Array.getElem?_eq_some_iff.1 ho).1;have:=List.all_eq_true.1 st3 i (by simpa using hil);rw[hE,ho,sf]at this;simp only[rX,sV]at this;refine⟨this.1,this.2.imp (fun h=>h) (fun hall c hc hp=>?_)⟩;have h3:=List.all_eq_true.1 hall c (by simpa using hc);simp only[sV,sL,beq_iff_eq]at h3
  rcases h3 with(h3 | h3) | h3
  ·rw[hp]at h3;cases h3
  ·exact .inl h3
  ·exact .inr (List.contains_iff_mem.1 h3)
end
attribute [simp] DrawP oblP
end
end
end Go.Proofs.YtjogkbekekdkjaaGreatDoor
section

end
section

end
section
namespace Go.Proofs.YtjogkbekekdkjaaGreatDoor
open Go Go.AM
end Go.Proofs.YtjogkbekekdkjaaGreatDoor
end
namespace Go.Proofs.YtjogkbekekdkjaaGreatDoor
section
open Go Go.AM
inductive ExpN (H:List B) (n:Nat):V→V→Prop
 | pure (v:V) (h:AM.Pure v):ExpN H n v v
 | buf (k off len e z:Nat) (xs:List V) (fz:Bool) (hn:n≤k) (hk:H[k]?=some (.buf e z xs fz)) (hl:off+len≤xs.length) (hp:∀x∈xs,AM.Pure x):ExpN H n (.buf k off len xs.length) (.lst z false ((xs.drop off).take len))
 | agg (cs ds:List V) (hl:cs.length=ds.length) (h:∀(i:Nat) c d,cs[i]?=some c→ds[i]?=some d→ExpN H n c d):ExpN H n (.agg cs) (.agg ds)
 | tup (cs ds:List V) (hl:cs.length=ds.length) (h:∀(i:Nat) c d,cs[i]?=some c→ds[i]?=some d→ExpN H n c d):ExpN H n (.tup cs) (.tup ds)
theorem ExpN.ex{H:List B}{n:Nat}{v v':V}(h:ExpN H n v v'):∃d0,∀d,d0≤d→exV H n d v=some v':=by
 induction h with
 | pure v h=>exact mb h
 | buf k off len e z xs fz hn hk hl hp =>
  obtain⟨d0,h0⟩:=gD (f:=exV H n) (xs:=(xs.drop off).take len) (fun v hv=>mb (hp v (sh (sD hv))));refine⟨d0+1,fun d hd=>?_⟩;obtain⟨m,rfl⟩:∃m,d=m+1:=⟨d-1,by omega⟩;simp only[exV];rw[if_neg (by omega),hk];simp only;rw[if_pos ⟨by first | trivial | rfl,hl⟩,h0 m (by omega)]
 | agg cs ds hl _ ih =>
  obtain⟨d0,h0⟩:=nY (f:=exV H n) hl ih;exact⟨d0+1,fun d hd=>by obtain⟨m,rfl⟩:∃m,d=m+1:=⟨d-1,by omega⟩;simp only[exV,h0 m (by omega)]⟩
 | tup cs ds hl _ ih =>
  obtain⟨d0,h0⟩:=nY (f:=exV H n) hl ih;exact⟨d0+1,fun d hd=>by obtain⟨m,rfl⟩:∃m,d=m+1:=⟨d-1,by omega⟩;simp only[exV,h0 m (by omega)]⟩
theorem expn_buf{H:List B}{n k len tot e z:Nat}{xs:List V}{fz:Bool}(hn:n≤k)(hk:H[k]?=some (.buf e z xs fz))(ht:tot=xs.length)(hl:len≤tot)(hp:∀x∈xs,AM.Pure x):ExpN H n (.buf k 0 len tot) (.lst z false (xs.take len)):=by
 subst ht;have:=ExpN.buf k 0 len e z xs fz hn hk (by omega) hp
 rwa [rk]at this
theorem qe{P:Program}{f:FuncId}{args:List V}{H:List B}{K:V→Prop}(h:av P f args H fun x y=>∃G r',y=H++G∧ExpN y H.length x r'∧AM.Pure r'∧K r'):av P f args H fun x y=>K x∧AM.Pure x∧y=H:=by
 refine⟨h.1,fun s vals hA hg hsz hrel=>?_⟩;have hH:=hA.1
 refine(h.2 s vals hA hg hsz hrel).mono fun e w' ⟨u,s',x,a1,a2,a3,a4,a5,G,r',a7,a8,a9,a10⟩=>?_
 have hcl:∀bl∈H,ClB H.length bl:=by have:=hg.cl;rw[hH]at this;exact this
 refine⟨u,s'.cut H,r',a1,a2,cut_good2 a3 a7 hcl,?_,?_,a10,a9,rfl⟩
 ·exact mj a3 a7 (Step.refl (s'.cut H)) s a4 (by rw[hH];exact rd _)
 ·obtain⟨d0,hd⟩:=a8.ex;exact ex_rel a3 a7 d0 x r' u a5 (hd d0 (rd _))
theorem kw{P:Program}{f:FuncId}{args:List V}{K:V→Prop}(h:av P f args [] fun x y=>K x∧AM.Pure x∧y=[]):aL P f args K :=
 ay (h.mono fun r H' ⟨h1,h2,h3⟩=>⟨r,.pure r h2,h2,h1⟩)
end
end Go.Proofs.YtjogkbekekdkjaaGreatDoor
