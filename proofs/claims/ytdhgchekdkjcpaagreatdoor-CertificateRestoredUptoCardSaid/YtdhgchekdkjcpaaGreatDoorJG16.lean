/- JG16: own texts of this seat, joined and shortened by pack4.py: Gb, Fd, Ff, Gc. -/
import Derived.Test.YtdhgchekdkjcpaaGreatDoorJG11
set_option linter.unusedVariables false
set_option linter.unusedSimpArgs false
set_option maxRecDepth 100000
set_option maxHeartbeats 64000000
open List renaming replicate→kQ,length_append→kT,take_of_length_le→kV,getElem_mem→kW,length_take→kg,map_cons→kj,mem_cons_self→lB,map_nil→lD,mem_cons_of_mem→lE,append_assoc→lV,mem_cons→mE,take_length→mM,map_take→mV
open Nat renaming le_refl→kY
namespace Go.Proofs.YtdhgchekdkjcpaaGreatDoor
section
open Go Go.AM Go.Lib
theorem iL:∀(l:List Cnd),(∀x∈l,cL x=true)→cp l=l
 | [],_=>rfl
 | x::l,h=>by
  rw[cp,if_pos (h x lB),iL l (fun y hy=>h y (lE _ hy))]
theorem jg:∀(l:List Cnd) (i:Nat) (h:i<l.length),(∀x∈l.take i,cL x=true)→¬cL l[i]=true→cp l=l.take i
 | [],i,h,_,_=>by simp at h
 | x::l,0,h,_,h2=>by
  rw[cp,if_neg (by simpa using h2)];rfl
 | x::l,i+1,h,h1,h2=>by
  rw[cp,if_pos (h1 x (by simp)),jg l i (by simpa using h) (fun y hy=>h1 y (by simp[hy])) (by simpa using h2)];rfl
theorem nodes_c(C0 C3:B)(hC:∀n,rbB n C0)(hC3:∀n,rbB n C3)(ls:List (List UInt8))(f:Bool)(l:List Cnd)(hls:ls.length≤10000000)(hl:l.length≤1000000)(hr:∀x∈l,cndR x):
  aq Tryz.prog 55 [.ptr 1 0,.lst 2 f (l.map aE)] (wrH C0 ls [C3]) fun r H'=>r = .bool (l.all cL)∧∃G,H'=wrH C0 (ls++(cp l).map ndL) [C3]++G:=by
 obtain⟨b0,hb0⟩:∃b0,b0=l.all cL:=⟨_,rfl⟩;obtain⟨P,hP⟩:∃P,P=(cp l).map ndL:=⟨_,rfl⟩;rw[←hb0,←hP];refine aB tok Tryz.func55 rfl rfl ?_;refine wx ?_;simp -dsimp[Tryz.f55,kQ,wrH];refine aS (W_loopM 52 0xffffffffff2d0 (by simp[mB]<;>rfl) (σ:=Nat) (fun i=>i≤l.length∧∀x∈l.take i,cL x=true) (fun i=>l.length-i) (fun i=>[(12,.int .i64 i)]) (fun i=>wrH C0 (ls++(l.map ndL).take i) [C3]) 0 (by simp) (by simp) (by simp[wrH]) (by simp[wrH]) ?_);rintro i ⟨hi,hok⟩ N Q hN hQ;by_cases hb:i<l.length
 case neg =>
  have e:l.take i=l:=kV (by omega);have e2:(l.map ndL).take i=l.map ndL:=kV (by simp;omega);rw[e]at hok;have h1:b0=true:=hb0.trans (List.all_eq_true.2 hok)
  have h2:P=l.map ndL:=by rw[hP,iL l hok]
  subst h1;simp only[wrH,e2];rw[←h2];refine wx ?_;simp -dsimp[hb];refine hQ _ _ _ ?_;simp -dsimp[];exact⟨[],by simp[wrH]⟩
 have hm:=kW hb;have hx:=hr _ hm;have hnx:=bd l ndL hb
 have hno:¬cL l[i]=true→b0=false∧P=(l.map ndL).take i:=fun h=>by
  refine⟨?_,?_⟩
  ·rw[hb0,Bool.eq_false_iff]
   exact fun h2=>h (List.all_eq_true.1 h2 _ hm)
  ·rw[hP,jg l i hb hok h,mV]
 have hyes:cL l[i]=true→∀x∈l.take (i+1),cL x=true:=fun h x hx=>by
  rw[ap l hb]at hx
  rcases List.mem_append.1 hx with hx | hx
  ·exact hok x hx
  ·rw[List.mem_singleton.1 hx];exact h
 have hlt:((l.map ndL).take i).length≤1000000:=by rw[kg];omega
 obtain⟨x,hxe⟩:∃x,x=l[i]:=⟨_,rfl⟩;have hxe':=hxe.symm;rw[hxe']at hx hno hyes hnx;obtain⟨O,hO⟩:∃O,O=ls++(l.map ndL).take i:=⟨_,rfl⟩
 have hOl:O.length≤100000000:=by rw[hO,kT];omega
 have hO2:∀y:List UInt8,(l.map ndL).take (i+1)=(l.map ndL).take i++[y]→ls++(l.map ndL).take (i+1)=O++[y]:=fun y e=>by rw[e,hO,lV]
 have hno:¬cL x=true→b0=false∧ls++P=O:=fun h=>⟨(hno h).1,by rw[(hno h).2,hO]⟩
 rw[←hO];obtain⟨v,sh⟩:=x;obtain⟨hv,hs,hsl⟩:=hx;simp only at hv hs hsl;by_cases h1:v = -1
 case neg =>
  by_cases h0:0≤v∧sh=[]
  ·obtain⟨h0,rfl⟩:=h0
   have ho:cL ⟨v,[]⟩=true:=by simp[cL,h0]
   have hnd:ndL ⟨v,[]⟩=aG au [v]:=by unfold ndL;rw[if_neg h1]
   have hc:=dL C0 [C3,B.cells [.int .i64 v,.lst 2 false []]] (hC _) (by intro bl hbl;rcases List.mem_cons.1 hbl with rfl | hbl;exact hC3 _;simp at hbl;subst hbl;simp) O au true [v] hOl (by decide) (by simp) (by simpa using hv);simp only[kj,lD,aD]at hc;simp only[wrH]at hc ⊢;refine wx ?_;simp -dsimp[hb,hxe',aE,ag,h0,h1,(show ¬v<0 by omega)];refine wcE hc ?_;simp -dsimp[aO i (by omega)];refine hN (i+1) _ _ ⟨by omega,hyes ho⟩ (by omega) ?_ ⟨[B.cells [.int .i64 v,.lst 2 false []]],?_⟩ ?_ ?_
   ·simp
   ·rw[hO2 _ (hnd▸hnx)];simp[wrH]
   ·simp[cN]
   ·exact dF (hC _) (by simpa using hC3 _) _
  ·have ho:¬cL ⟨v,sh⟩=true:=by
    simp[cL,h1]
    exact fun h2 h3=>h0 ⟨h2,h3⟩
   obtain⟨e1,e2⟩:=hno ho;subst e1;simp only[wrH];by_cases h2:v<0
   ·refine wx ?_;simp -dsimp[hb,hxe',aE,ag,h1,h2];refine hQ _ _ _ ?_;simp -dsimp[];exact⟨[_],by rw[e2];simp[wrH];rfl⟩
   ·have hs0:¬sh=[]:=fun e=>h0 ⟨by omega,e⟩
    have hs1:=List.length_pos_iff.2 hs0;refine wx ?_;simp -dsimp[hb,hxe',aE,ag,h1,h2,hs0,hs1,(show(0:Int)<(sh.length:Int) by omega)];refine hQ _ _ _ ?_;simp -dsimp[];exact⟨[_],by rw[e2];simp[wrH];rfl⟩
 subst h1
 have ho:cL ⟨-1,sh⟩=true:=by simp[cL]
 have hnd:ndL ⟨-1,sh⟩=aG bc (shN sh):=rfl
 have hlN:(shN sh).length=2*sh.length:=by
  have:=jQ sh sh.length (kY _)
  rwa [mM]at this
 have hin:=shN_in hs
 have hx0:=fun X2 (h2:∀n,rbB n X2)=>dL C0 [C3,B.cells [.int .i64 (-1),.lst 2 false (sh.map aN)],X2] (hC _) (by
  intro bl hbl
  rcases List.mem_cons.1 hbl with rfl | hbl
  ·exact hC3 _
  rcases List.mem_cons.1 hbl with rfl | hbl
  ·simp
  ·rw[List.mem_singleton.1 hbl];exact h2 _) O bc false (shN sh) hOl (by decide) (by omega) hin
 have hc:=hx0 (B.buf 2 1 ((shN sh).map aD) true) (fun n=>by simp[aD]);simp only[wrH]at hc ⊢;refine wx ?_;simp -dsimp[hb,hxe',aE,ag];refine aS (W_own 2 1 [7] (by simp) (W_loopM 48 0xfff000000280 (by simp[mB]<;>rfl) (σ:=Nat) (fun j=>j≤sh.length) (fun j=>sh.length-j) (fun j=>[(36,.int .i64 j),(7,.buf 5 0 (2*j) (2*j))]) (fun j=>[C0,B.cells [.buf 2 0 O.length O.length],B.buf 9 1 (O.map fun p=>.str (bs p)) false,C3,B.cells [.int .i64 (-1),.lst 2 false (sh.map aN)],B.buf 2 1 ((shN (sh.take j)).map aD) false]) 0 (by omega) (by simp) (by simp[shN]) (by simp) ?_));intro j hj N2 Q2 hN2 hQ2;have hlj:=jQ sh j hj;by_cases hjb:j<sh.length
 ·have hsn:=shN_snoc sh hjb;obtain⟨y,hy⟩:∃y,y=sh[j]:=⟨_,rfl⟩;have hy':=hy.symm;rw[hy']at hsn;refine wx ?_;simp -dsimp[hjb,hy',aN,hlj,aO j (by omega),(show 2*j≤9223372036854775805∧(2*j+2)*8≤140737488355328 by omega)];refine hN2 (j+1) _ _ (by omega) (by omega) ?_ ⟨[B.cells [.int .i64 y.e,.int .i64 y.a]],?_⟩ ?_ ?_
  ·simp[Nat.mul_add]
  ·simp[hsn,aD]
  ·simp
  ·intro bl hbl;simp only[mE,List.not_mem_nil,or_false]at hbl
   rcases hbl with rfl | rfl | rfl | rfl | rfl | rfl
   ·exact hC _
   ·simp
   ·simp
   ·exact hC3 _
   ·simp
   ·simp[aD]
 ·have ej:sh.take j=sh:=kV (by omega)
  have hje:j=sh.length:=by omega
  rw[ej];refine wx ?_;simp -dsimp[hjb];refine hQ2 _ _ _ ?_;simp -dsimp[];refine(callHF 5 (args':=[.ptr 1 0,.str (bs bc),.lst 1 false ((shN sh).map aD)]) (e:=2) (z:=1) (xs:=(shN sh).map aD) (fz:=false) rfl hc (by simp[hlN,hje];rfl)).mono ?_;rintro r H' ⟨rfl,rfl⟩;simp -dsimp[aO i (by omega)];refine hN (i+1) _ _ ⟨by omega,hyes ho⟩ (by omega) ?_ ⟨[B.cells [.int .i64 (-1),.lst 2 false (sh.map aN)],B.buf 2 1 ((shN sh).map aD) true],?_⟩ ?_ ?_
  ·simp
  ·rw[hO2 _ (hnd▸hnx)];simp[wrH]
  ·simp[cN]
  ·exact dF (hC _) (by simpa using hC3 _) _
theorem iP{n:Nat}(h:n<4294967296):inI (n:Int):=by unfold inI;omega
theorem iX:∀(l:List Cel) (j:Nat),j≤l.length→(az (l.take j)).length=2*j
 | l,0,_=>rfl
 | [],j+1,h=>by simp at h
 | x::l,j+1,h=>by
  have:=iX l j (by simpa using h);show([x.id,x.a]++az (l.take j)).length=_;simp;omega
theorem celN_snoc(l:List Cel){j:Nat}(h:j<l.length):az (l.take (j+1))=az (l.take j)++[l[j].id,l[j].a]:=by
 rw[ap l h,az,List.flatMap_append];rfl
theorem cells_c(f:Bool)(l:List Cel)(hl:l.length≤1000000):ab Tryz.prog 56 [.lst 2 f (l.map aK)] fun r=>r = .lst 1 false ((az l).map aD):=by
 refine sPx Tryz.func56 rfl rfl ?_;simp -dsimp[Tryz.f56,kQ];refine aS (W_own 2 1 [3] (by simp) (W_loopM 20 0xfff28 (by simp[mB]<;>rfl) (σ:=Nat) (fun j=>j≤l.length) (fun j=>l.length-j) (fun j=>[(8,.int .i64 j),(3,.buf 0 0 (2*j) (2*j))]) (fun j=>[B.buf 2 1 ((az (l.take j)).map aD) false]) 0 (by omega) (by simp) (by simp[az]) (by simp) ?_));intro j hj N2 Q2 hN2 hQ2;have hlj:=iX l j hj;by_cases hjb:j<l.length
 ·have hsn:=celN_snoc l hjb;obtain⟨y,hy⟩:∃y,y=l[j]:=⟨_,rfl⟩;have hy':=hy.symm;rw[hy']at hsn;refine wx ?_;simp -dsimp[hjb,hy',aK,hlj,aO j (by omega),(show 2*j≤9223372036854775805∧(2*j+2)*8≤140737488355328 by omega)];refine hN2 (j+1) _ _ (by omega) (by omega) ?_ ⟨[B.cells [.int .i64 y.id,.int .i64 y.a]],?_⟩ ?_ ?_
  ·simp[Nat.mul_add]
  ·simp[hsn,aD]
  ·simp
  ·simp[aD]
 ·have ej:l.take j=l:=kV (by omega)
  have hje:j=l.length:=by omega
  have hlN:(az l).length=2*j:=by rw[ej]at hlj;exact hlj
  rw[ej];refine wx ?_;simp -dsimp[hjb];refine hQ2 _ _ _ ?_;simp -dsimp[]
  trace_state
  have:=Exp.buf (H:=[B.buf 2 1 ((az l).map aD) false]) 0 0 (2*j) 2 1 ((az l).map aD) false rfl (by simp;omega) (by simp[aD]);simpa[hlN,kV] using this
end
end Go.Proofs.YtdhgchekdkjcpaaGreatDoor
