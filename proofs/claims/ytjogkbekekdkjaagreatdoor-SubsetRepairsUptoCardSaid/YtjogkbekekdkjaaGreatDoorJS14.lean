/- JS14: own texts of this seat, joined by pack2.py: SC3, SC9, SC10, SC12, C5, C4a, C4b, C4c, C4, SL0, SL1, SL2. -/
import Derived.Test.YtjogkbekekdkjaaGreatDoorJS13
set_option linter.unusedVariables false
set_option linter.unusedSimpArgs false
set_option maxRecDepth 100000
set_option maxHeartbeats 64000000
namespace Go.Proofs.YtjogkbekekdkjaaGreatDoor
section
open Go Go.AM
theorem problem_r (t:Tb) (cs:List Cn) (w:List Int) (f g fc fw:Bool) (h:BdOk t cs) (hw:w.length≤1000000):ConP Tryz.prog 16 [encTb f g t,LCn fc cs,L1 fw w] fun r=>r = .tup [prV t cs w,.int .i64 (prE t cs w)]:=by
 have cb:=build37 t cs f g fc h
 have htB:B.cells [.str t.name,.lst 1 f (t.attrs.map V.str),.lst 2 g (t.rows.map encRw)]=tcB t f g:=rfl
 have htr:∀n,rbB n (tcB t f g):=fun n=>tcB_rb n t f g
 by_cases h0:buildErr t cs=0
 case neg =>
  have he:prE t cs w=buildErr t cs:=by unfold prE; rw [if_neg h0]
  rw [prV_no (by rw [he]; exact h0),he]
  rw [bdV_no h0] at cb
  obtain ⟨e,hee⟩:∃e,e=buildErr t cs:=⟨_,rfl⟩
  rw [←hee] at cb h0 ⊢
  simp only [encTb,LS,LR,LCn] at cb
  refine conP_of_conH (conH_of_W tok Tryz.func16 rfl rfl ?_)
  refine wx ?_
  simp -implicitDefEqProofs -dsimp [Tryz.f16,List.replicate,encTb,LS,LR,LCn,L1]
  refine (callP (cb) (by simp)).mono ?_
  rintro r H' ⟨rfl,rfl⟩
  simp -implicitDefEqProofs -dsimp [h0]
 case pos =>
 rw [h0,bdV_yes h0] at cb
 obtain ⟨hsm,hh,hel⟩:=edges_small h h0
 by_cases hl:w=[]∨w.length=t.rows.length
 case neg =>
  have he:prE t cs w=6:=by unfold prE; rw [if_pos h0,if_neg hl]
  rw [prV_no (by rw [he]; decide),he]
  obtain ⟨hl1,hl2⟩:=not_or.1 hl
  have hl3:=List.length_pos_iff.2 hl1
  simp only [encTb,LS,LR,LCn,encH,L1,LL] at cb
  refine conP_of_conH (conH_of_W tok Tryz.func16 rfl rfl ?_)
  refine wx ?_
  simp -implicitDefEqProofs -dsimp [Tryz.f16,List.replicate,encTb,LS,LR,LCn,L1]
  refine (callP (cb) (by simp)).mono ?_
  rintro r H' ⟨rfl,rfl⟩
  simp -implicitDefEqProofs -dsimp [show ¬((w.length:Int)=0) by omega,show ¬((w.length:Int)=t.rows.length) by omega,hl1,hl2,hl3]
 case pos =>
 have hV:prE t cs w=validN (inW t w) (inE t cs):=by unfold prE; rw [if_pos h0,if_pos hl]
 have hwl:=inW_len hl
 have hr8:t.rows.length≤8:=by
  obtain ⟨_,h2,_⟩:=build_ok h0
  have:=h.rows; omega
 have gT:=tbC (build_ok h0).1
 have hel2:∀e∈inE t cs,e.length≤1000000:=fun e he=>by
  obtain ⟨x,hx,rfl⟩:=List.mem_map.1 he
  rw [ixE_len]
  exact hsm.2.2 x hx
 have cv:=valid39N (inW t w) (inE t cs) false false hel2
 have hIE:inE t cs=(edgesF (allR t cs)).map (ixE (idsR t.rows)):=rfl
 have hpv:prV t cs w=if validN (inW t w) (inE t cs)=0 then encHn false false (inW t w) (inE t cs) else .agg [.nilS,.nilS]:=by unfold prV; rw [hV]
 rw [hpv,hV]
 have hW1:w=[]→inW t w=List.replicate t.rows.length 1:=fun e=>by rw [e]; exact inW_nil t
 have hW2:w≠[]→inW t w=w:=fun e=>inW_ne e
 have hbs:=fun id=>fnd_bs gT id
 have cf:=fun id=>find03 t f g id (by omega)
 obtain ⟨VE,hVE⟩:∃VE,VE=validN (inW t w) (inE t cs):=⟨_,rfl⟩
 rw [←hVE] at cv ⊢
 rw [hIE] at cv ⊢
 clear hpv hV hVE hIE hel2
 obtain ⟨I,hI⟩:∃I,I=idsR t.rows:=⟨_,rfl⟩
 obtain ⟨E,hE⟩:∃E,E=edgesF (allR t cs):=⟨_,rfl⟩
 obtain ⟨W0,hW0⟩:∃W0,W0=inW t w:=⟨_,rfl⟩
 rw [←hI,←hE] at cb hh hsm
 rw [←hI,←hE,←hW0] at cv ⊢
 rw [←hI] at hbs
 rw [←hE] at hel
 rw [←hW0] at hwl hW1 hW2
 obtain ⟨_,_,hes⟩:=hsm
 have hsub:=hh.sub
 have hne:=hh.ne
 clear hh hW0
 obtain ⟨n,hn⟩:∃n,n=t.rows.length:=⟨_,rfl⟩
 rw [←hn] at hl hwl hr8 hW1
 have hn2:=hn.symm
 have hrbA:∀(ws:List Int) (j:Nat) (l:List (List Nat)),∀bl∈[tcB t f g,B.cells [.nilS,.nilS],B.cells [.lst 1 false (I.map encI),.lst 1 false (E.map (L1 false))],B.cells [.lst 1 false (ws.map encI),.buf 5 0 j j],B.buf 2 1 (ws.map encI) true,B.buf 50 1 (l.map (Ln false)) false],rbB 6 bl:=fun ws j l bl hbl=>by
  simp only [List.mem_cons,List.not_mem_nil,or_false] at hbl
  rcases hbl with rfl | rfl | rfl | rfl | rfl | rfl
  ·exact htr _
  ·exact cell2_rb (by simp [rb]) (by simp [rb])
  ·exact cell2_rb (by simp [rb]) (by simp [rb])
  ·exact cell2_rb (by simp [rb]) (by simp [rb,rb1])
  ·exact intB_rb _ _ _ _
  ·exact lnB_rb _ _ _ _
 have hrbB:∀(ws:List Int) (j:Nat) (l:List (List Nat)) (q:List Nat),∀bl∈[tcB t f g,B.cells [.nilS,.nilS],B.cells [.lst 1 false (I.map encI),.lst 1 false (E.map (L1 false))],B.cells [.lst 1 false (ws.map encI),.buf 5 0 j j],B.buf 2 1 (ws.map encI) true,B.buf 50 1 (l.map (Ln false)) false]++[B.buf 3 1 (q.map eN) false],rbB 7 bl:=fun ws j l q bl hbl=>by
  rcases List.mem_append.1 (show bl∈([tcB t f g,B.cells [.nilS,.nilS],B.cells [.lst 1 false (I.map encI),.lst 1 false (E.map (L1 false))],B.cells [.lst 1 false (ws.map encI),.buf 5 0 j j],B.buf 2 1 (ws.map encI) true,B.buf 50 1 (l.map (Ln false)) false])++[B.buf 3 1 (q.map eN) false] from hbl) with h9 | h9
  ·exact rbBM (by omega) (hrbA ws j l bl h9)
  ·rw [List.mem_singleton] at h9; subst h9; exact nat_rb _ _ _ _
 have hrbW:∀(ws:List Int) (i:Nat),∀bl∈[tcB t f g,B.cells [.nilS,.nilS],B.cells [.lst 1 false (I.map encI),.lst 1 false (E.map (L1 false))],B.cells [.buf 4 0 i i,.nilS],B.buf 2 1 (ws.map encI) false],rbB 5 bl:=fun ws i bl hbl=>by
  simp only [List.mem_cons,List.not_mem_nil,or_false] at hbl
  rcases hbl with rfl | rfl | rfl | rfl | rfl
  ·exact htr _
  ·exact cell2_rb (by simp [rb]) (by simp [rb])
  ·exact cell2_rb (by simp [rb]) (by simp [rb])
  ·exact cell2_rb (by simp [rb,rb1]) (by simp [rb])
  ·exact intB_rb _ _ _ _
 simp only [encTb,LS,LR,LCn,encH,L1,LL] at cb
 simp only [encTb,LS,LR] at cf
 simp only [encHn,L1,LLn,List.map_map] at cv
 have hwt:∀i (h:i<W0.length),W0.take (i+1)=W0.take i++[W0[i]]:=fun i h=>List.take_succ_eq_append_getElem h
 have hWi:∀i (h:i<n),∃x,W0[i]?=some x∧(w=[]→x=1)∧(w≠[]→w[i]?=some x):=fun i h=>by
  refine ⟨W0[i]'(by omega),List.getElem?_eq_getElem _,fun e=>?_,fun e=>?_⟩
  ·have h9:=hW1 e
   subst h9
   simp
  ·have h9:=hW2 e
   subst h9
   exact List.getElem?_eq_getElem _
 by_cases hw0:w=[]
 case' pos =>
  refine conP_of_conH (conH_of_W tok Tryz.func16 rfl rfl ?_)
  refine wx ?_
  simp -implicitDefEqProofs -dsimp [Tryz.f16,List.replicate,encTb,LS,LR,LCn,L1]
  refine (callP (cb) (by simp)).mono ?_
  rintro r H' ⟨rfl,rfl⟩
  simp -implicitDefEqProofs -dsimp [hw0,L1]
 case' neg =>
  have hwl2:w.length=n:=hl.resolve_left hw0
  have hl3:=List.length_pos_iff.2 hw0
  refine conP_of_conH (conH_of_W tok Tryz.func16 rfl rfl ?_)
  refine wx ?_
  simp -implicitDefEqProofs -dsimp [Tryz.f16,List.replicate,encTb,LS,LR,LCn,L1]
  refine (callP (cb) (by simp)).mono ?_
  rintro r H' ⟨rfl,rfl⟩
  have hn0:0<n:=by omega
  simp -implicitDefEqProofs -dsimp [hwl2,hn2,hn0,hw0,show (0:Int)<(n:Int) by omega,show ¬n=0 by omega,show ¬(n:Int)=0 by omega,L1]
 all_goals
  refine lw_of (W_ownC 2 1 [] 3 [0] rfl (by simp) (by simp) (W_loopM 61 [11,12,19,22,23,41,42,43,44,45,46,47,48,49,50,51,52,53,54,55,56,57,58,59,60] (by simp [mB]<;>rfl) (σ:=Nat) (fun i=>i≤n) (fun i=>n - i) (fun i=>[(11,.int .i64 i)]) (fun i=>[tcB t f g,B.cells [.nilS,.nilS],B.cells [.lst 1 false (I.map encI),.lst 1 false (E.map (L1 false))],B.cells [.buf 4 0 i i,.nilS],B.buf 2 1 ((W0.take i).map encI) false]) 0 (by omega) (by simp) (by simp [tcB]) (by simp) ?_))
  intro i hi N Q hN hQ
  have htl:(W0.take i).length=i:=by simp; omega
  by_cases hb:i<n
  ·obtain ⟨x,hx1,hx2,hx3⟩:=hWi i hb
   have hst:W0.take (i+1)=W0.take i++[x]:=by
    rw [List.take_succ_eq_append_getElem (by omega)]
    obtain ⟨_,h9⟩:=List.getElem?_eq_some_iff.1 hx1
    rw [h9]
   obtain ⟨l,hle⟩:∃l,l=W0.take i:=⟨_,rfl⟩
   rw [←hle] at hst htl ⊢
   by_cases hwz:w=[]
   ·try exact absurd hwz hw0
    all_goals
     have hx:=hx2 hwz
     subst hx
     refine wx ?_
     simp -implicitDefEqProofs -dsimp [hb,hn2,hwz,tcB,htl,cap8 i (by omega),wrapN i (by omega),wrapS i (by omega),L1]
     refine hN (i+1) _ _ (by omega) (by omega) (by simp [hn2,hwz]) ⟨[],by simp [hst,encI,tcB]⟩ (by simp) (hrbW _ _)
   ·try exact absurd hw0 hwz
    all_goals
     obtain ⟨q1,q2⟩:=List.getElem?_eq_some_iff.1 (hx3 hwz)
     have hp:0<w.length:=by omega
     refine wx ?_
     simp -implicitDefEqProofs -dsimp [hb,hn2,hwz,q1,q2,hp,show (0:Int)<w.length by omega,tcB,encI,htl,cap8 i (by omega),wrapN i (by omega),wrapS i (by omega),L1]
     refine hN (i+1) _ _ (by omega) (by omega) (by simp [hn2]) ⟨[],by simp [hst,encI,tcB]⟩ (by simp) (hrbW _ _)
  obtain rfl:i=n:=by omega
  rw [List.take_of_length_le (by omega)]
  refine wx ?_
  simp -implicitDefEqProofs -dsimp [hb,hn2,tcB,L1]
  refine hQ _ _ _ ?_
  simp -implicitDefEqProofs -dsimp [htB,L1]
  refine lw_of (W_frzC 4 [] 3 [0] rfl rfl (by simp) (by simp [hwl]) (W_ownC 50 1 [] 3 [1] rfl (by simp) (by simp) (W_loopM 101 [13,14,15,16,17,19,22,23,61,62,63,64,65,66,67,68,69,70,71,72,73,74,75,76,77,78,79,80,81,82,83,84,85,86,87,88,89,90,91,92,93,94,95,96,97,98,99,100] (by simp [mB]<;>rfl) (σ:=Nat) (fun j=>j≤E.length) (fun j=>E.length - j) (fun j=>[(13,.int .i64 j)]) (fun j=>[tcB t f g,B.cells [.nilS,.nilS],B.cells [.lst 1 false (I.map encI),.lst 1 false (E.map (L1 false))],B.cells [.lst 1 false (W0.map encI),.buf 5 0 j j],B.buf 2 1 (W0.map encI) true,B.buf 50 1 (((E.take j).map (ixE I)).map (Ln false)) false]) 0 (by omega) (by simp) (by simp) (by simp) ?_)))
  intro j hj N2 Q2 hN2 hQ2
  have hjl:((E.take j).map (ixE I)).length=j:=by simp; omega
  by_cases hjb:j<E.length
  ·have hst:=ix_take (I:=I) hjb
   have he1:=hes _ (List.getElem_mem hjb)
   have he2:=hne _ (List.getElem_mem hjb)
   have he3:=hsub _ (List.getElem_mem hjb)
   obtain ⟨e,hee⟩:∃e,e=E[j]:=⟨_,rfl⟩
   rw [←hee] at hst he1 he2 he3
   obtain ⟨P,hP⟩:∃P,P=(E.take j).map (ixE I):=⟨_,rfl⟩
   rw [←hP] at hst hjl ⊢
   refine wx ?_
   simp -implicitDefEqProofs -dsimp [hjb,hee.symm,L1]
   refine lw_of (W_own 3 1 [14] (by simp) (W_loopM 95 [14,15,16,17,68,69,70,71,72,73,74,75,76,77,78,79,80,81,82,83,84,85,86,87,88,89,90,91,92,93,94] (by simp [mB]<;>rfl) (σ:=Nat) (fun k=>k≤e.length) (fun k=>e.length - k) (fun k=>[(15,.int .i64 k),(14,.buf 6 0 k k)]) (fun k=>[tcB t f g,B.cells [.nilS,.nilS],B.cells [.lst 1 false (I.map encI),.lst 1 false (E.map (L1 false))],B.cells [.lst 1 false (W0.map encI),.buf 5 0 j j],B.buf 2 1 (W0.map encI) true,B.buf 50 1 (P.map (Ln false)) false]++[B.buf 3 1 ((ixE I (e.take k)).map eN) false]) 0 (by omega) (by simp) (by simp [ixE]) (by simp) ?_))
   intro k hk N3 Q3 hN3 hQ3
   have hkl:(ixE I (e.take k)).length=k:=by rw [ixE_len]; simp; omega
   simp only [List.cons_append,List.nil_append]
   by_cases hkb:k<e.length
   ·have hst2:=ixE_succ (I:=I) hkb
    have hin:=he3 _ (List.getElem_mem hkb)
    obtain ⟨x,hx⟩:∃x,x=e[k]:=⟨_,rfl⟩
    rw [←hx] at hst2 hin
    have cs2:=cf x
    rw [hbs,if_pos (memB_iff.2 hin)] at cs2
    obtain ⟨p,hp⟩:∃p,p=bsP I x:=⟨_,rfl⟩
    rw [←hp] at hst2 cs2
    obtain ⟨q,hq⟩:∃q,q=ixE I (e.take k):=⟨_,rfl⟩
    rw [←hq] at hst2 hkl ⊢
    refine wx ?_
    simp -implicitDefEqProofs -dsimp [hkb,hjb,hee.symm,hx.symm,encI,tcB,L1]
    refine .inr ⟨stop_of (by kernel_rfl),?_⟩
    refine cy_of _ (callP (cs2) (by simp)) ?_
    simp -implicitDefEqProofs -dsimp [hkl,cap8 k (by omega),wrapN k (by omega),wrapS k (by omega),L1]
    refine hN3 (k+1) _ _ (by omega) (by omega) (by simp) ⟨[],by simp [hst2,eN,tcB]⟩ (by simp) (hrbB _ _ _ _)
   ·obtain rfl:k=e.length:=by omega
    rw [List.take_length] at hkl ⊢
    obtain ⟨q,hq⟩:∃q,q=ixE I e:=⟨_,rfl⟩
    rw [←hq] at hst hkl ⊢
    refine W_frz 6 [14] rfl (by simp [hkl]) ?_
    refine wx ?_
    simp -implicitDefEqProofs -dsimp [hkb,hjb,hee.symm,tcB,L1]
    refine hQ3 _ _ _ ?_
    simp -implicitDefEqProofs -dsimp [hjl,cap24 j (by omega),wrapN j (by omega),wrapS j (by omega),L1]
    refine hN2 (j+1) _ _ (by omega) (by omega) (by simp) ⟨[B.buf 3 1 (q.map eN) true],by simp [hst,Ln,tcB]⟩ (by simp) (hrbA _ _ _)
  ·obtain rfl:j=E.length:=by omega
   rw [List.take_length]
   refine W_frzC 5 [] 3 [1] rfl rfl (by simp) (by simp) ?_
   refine wx ?_
   simp -implicitDefEqProofs -dsimp [hjb,L1]
   refine hQ2 _ _ _ ?_
   simp -implicitDefEqProofs -dsimp [L1]
   refine (callP (cv) (by simp)).mono ?_
   rintro r H' ⟨rfl,rfl⟩
   by_cases hz:VE=0
   ·subst hz
    rw [if_pos rfl]
    simp -implicitDefEqProofs -dsimp [L1]
    simp [encHn,L1,LLn]
   ·rw [if_neg hz]
    simp -implicitDefEqProofs -dsimp [hz,L1]
end
end Go.Proofs.YtjogkbekekdkjaaGreatDoor
section
namespace Go.Proofs.YtjogkbekekdkjaaGreatDoor
open Go Go.AM
end Go.Proofs.YtjogkbekekdkjaaGreatDoor
end
section
namespace Go.Proofs.YtjogkbekekdkjaaGreatDoor
open Go Go.AM
end Go.Proofs.YtjogkbekekdkjaaGreatDoor
end
namespace Go.Proofs.YtjogkbekekdkjaaGreatDoor
section
open Go Go.AM
theorem same41 (ws:List Int) (es:List (List Nat)) (f g f2 g2:Bool) (hw:ws.length≤1000000) (hes:es.length≤1000000) (he:∀e∈es,e.length≤1000000):ConP Tryz.prog 17 [encHn f g ws es,encHn f2 g2 ws es] fun r=>r = .bool true:=by
 have c1:=ids03 ws ws f f2 hw hw
 rw [decide_eq_true rfl] at c1
 simp only [L1] at c1
 have hrb:∀bl∈[B.cells [.lst 1 f (ws.map encI),.lst 1 g (es.map (Ln false))],B.cells [.lst 1 f2 (ws.map encI),.lst 1 g2 (es.map (Ln false))]],rbB 2 bl:=fun bl hbl=>by
  simp only [List.mem_cons,List.not_mem_nil,or_false] at hbl
  rcases hbl with rfl | rfl<;>exact hs_rb _ _ _ _ _
 refine conP_of_conH (conH_of_W tok Tryz.func17 rfl rfl ?_)
 refine wx ?_
 simp -implicitDefEqProofs -dsimp [Tryz.f17,List.replicate,encHn,L1,LLn]
 refine (callP (c1) (by simp)).mono ?_
 rintro r H' ⟨rfl,rfl⟩
 simp -implicitDefEqProofs -dsimp []
 refine lw_of (W_loopM 69 [4,5,6,22,23,24,25,26,27,28,29,30,31,32,33,34,35,36,37,38,39,40,41,42,43,44,45,46,47,48,49,50,51,52,53,54,55,56,57,58,59,60,61,62,63,64,65,66,67,68] (by simp [mB]<;>rfl) (σ:=Nat) (fun i=>i≤es.length) (fun i=>es.length - i) (fun i=>[(5,.int .i64 i)]) (fun _=>[B.cells [.lst 1 f (ws.map encI),.lst 1 g (es.map (Ln false))],B.cells [.lst 1 f2 (ws.map encI),.lst 1 g2 (es.map (Ln false))]]) 0 (by omega) (by simp) (by simp) (by simp) ?_)
 intro i hi N Q hN hQ
 by_cases hb:i<es.length
 ·have h1:=he _ (List.getElem_mem hb)
  obtain ⟨e,hee⟩:∃e,e=es[i]:=⟨_,rfl⟩
  rw [←hee] at h1
  refine wx ?_
  simp -implicitDefEqProofs -dsimp [hb,hee.symm,Ln]
  refine .inr ⟨stop_of (by kernel_rfl),?_⟩
  refine lw_of (W_loopM 69 [4,6,42,43,44,45,46,47,48,49,50,51,52,53,54,55,56,57,58,59,60,61,62,63,64,65,66,67,68] (by simp [mB]<;>rfl) (σ:=Nat) (fun k=>k≤e.length) (fun k=>e.length - k) (fun k=>[(6,.int .i64 k)]) (fun _=>[B.cells [.lst 1 f (ws.map encI),.lst 1 g (es.map (Ln false))],B.cells [.lst 1 f2 (ws.map encI),.lst 1 g2 (es.map (Ln false))]]) 0 (by omega) (by simp) (by simp) (by simp) ?_)
  intro k hk N2 Q2 hN2 hQ2
  by_cases hkb:k<e.length
  ·obtain ⟨x,hx⟩:∃x,x=e[k]:=⟨_,rfl⟩
   refine wx ?_
   simp -implicitDefEqProofs -dsimp [hkb,hb,hee.symm,hx.symm,Ln,eN]
   refine .inr ⟨stop_of (by kernel_rfl),?_⟩
   simp -implicitDefEqProofs -dsimp [wrapS k (by omega)]
   refine hN2 (k+1) _ _ (by omega) (by omega) (by simp) ⟨[],by simp⟩ (by simp) hrb
  ·obtain rfl:k=e.length:=by omega
   refine wx ?_
   simp -implicitDefEqProofs -dsimp [hkb,hb,hee.symm,Ln]
   refine hQ2 _ _ _ ?_
   simp -implicitDefEqProofs -dsimp [wrapS i (by omega)]
   refine hN (i+1) _ _ (by omega) (by omega) (by simp) ⟨[],by simp⟩ (by simp) hrb
 ·obtain rfl:i=es.length:=by omega
  refine wx ?_
  simp -implicitDefEqProofs -dsimp [hb]
  refine hQ _ _ _ ?_
  simp -implicitDefEqProofs -dsimp []
end
end Go.Proofs.YtjogkbekekdkjaaGreatDoor
namespace Go.Proofs.YtjogkbekekdkjaaGreatDoor
section
open Go Go.AM Go.RowKit
def extG:ExtF:=fun f args H=>match f,args with
 | 196,[.nilS,.int .i64 n]=>if n=0 then some (.nilS,H) else if 0≤n∧n≤1000000 then some (.buf H.length 0 0 0,H++[.buf 2 1 [] false]) else none
 | 216,[.nilS,.int .i64 n]=>if n=0 then some (.nilS,H) else if 0≤n∧n≤1000000 then some (.buf H.length 0 0 0,H++[.buf 77 2 [] false]) else none
 | f,args=>ext f args H
theorem extG_ok:ExtOk Tryz.prog extG:=fun f args H r H' h=>by
 unfold extG at h
 split at h
 ·rename_i n
  split at h
  ·rename_i h0
   subst h0
   cases h
   have:=callP (H:=H) grow_nil_Z (by simp)
   simpa only [WCall,List.append_nil] using this
  split at h
  ·rename_i hc
   cases h
   have:=callO (H:=H) (grow_con_Z n.toNat (by omega)) (by simp)
   rw [Int.toNat_of_nonneg hc.1] at this
   have h2:=WCall.mono this (K':=fun x y=>x = .buf H.length 0 0 0∧y=H++[.buf 2 1 [] false]) (by
    rintro r H' ⟨e,z,xs,rfl,rfl,_,rfl,rfl,rfl⟩
    exact ⟨rfl,rfl⟩)
   simpa only [WCall,List.append_nil] using h2
  ·cases h
 ·rename_i n
  split at h
  ·rename_i h0
   subst h0
   cases h
   have:=callP (H:=H) grow_nil_N (by simp)
   simpa only [WCall,List.append_nil] using this
  split at h
  ·rename_i hc
   cases h
   have:=callO (H:=H) (grow_con_N n.toNat (by omega)) (by simp)
   rw [Int.toNat_of_nonneg hc.1] at this
   have h2:=WCall.mono this (K':=fun x y=>x = .buf H.length 0 0 0∧y=H++[.buf 77 2 [] false]) (by
    rintro r H' ⟨e,z,xs,rfl,rfl,_,rfl,rfl,rfl⟩
    exact ⟨rfl,rfl⟩)
   simpa only [WCall,List.append_nil] using h2
  ·cases h
 ·exact ext_ok _ _ H r H' h
end
end Go.Proofs.YtjogkbekekdkjaaGreatDoor
namespace Go.Proofs.YtjogkbekekdkjaaGreatDoor
section
open Go Go.AM
def clA25:List V:=[.agg [.lst 1 false [.int .i64 5,.int .i64 1,.int .i64 1,.int .i64 1],.lst 1 false [.lst 1 false [.int .i64 0,.int .i64 1],.lst 1 false [.int .i64 0,.int .i64 2],.lst 1 false [.int .i64 1,.int .i64 2]]],.int .i64 2,.int .i64 10000]
def clR25:V:=.tup [.lst 2 true [.agg [.int .i64 (-1),.lst 2 false [.agg [.int .i64 0,.int .i64 1],.agg [.int .i64 1,.int .i64 1]]]],.int .i64 0]
theorem clP25:AM.Pure clR25:=by simp [clR25]
theorem clQ25:∀a∈clA25,AM.Pure a:=by simp [clA25]
theorem cl25:ConP Tryz.prog 47 clA25 fun x=>x=clR25:=closed_conT tok mixed named extG_ok (fuel:=1000) (d:=40) (by kernel_rfl) clP25
def clA0:List V:=[]
def clR0:V:=.tup [.agg [.str ⟨#[114]⟩,.lst 1 true [.str ⟨#[97]⟩,.str ⟨#[98]⟩],.lst 2 false [.agg [.int .i64 1,.lst 3 false [.agg [.int .i64 1,.int .i64 1,.str ⟨#[]⟩],.agg [.int .i64 1,.int .i64 1,.str ⟨#[]⟩]]],.agg [.int .i64 2,.lst 3 false [.agg [.int .i64 1,.int .i64 1,.str ⟨#[]⟩],.agg [.int .i64 1,.int .i64 2,.str ⟨#[]⟩]]],.agg [.int .i64 3,.lst 3 false [.agg [.int .i64 1,.int .i64 1,.str ⟨#[]⟩],.agg [.int .i64 1,.int .i64 7,.str ⟨#[]⟩]]],.agg [.int .i64 4,.lst 3 false [.agg [.int .i64 1,.int .i64 2,.str ⟨#[]⟩],.agg [.int .i64 1,.int .i64 1,.str ⟨#[]⟩]]]]],.lst 18 true [.agg [.str ⟨#[]⟩,.str ⟨#[114]⟩,.int .i64 1,.int .u32 1,.int .u32 2,.int .u32 0,.int .u32 0,.str ⟨#[]⟩,.nilS,.str ⟨#[]⟩,.nilS,.nilS,.int .i64 0,.nilS,.nilS,.nilS,.int .i64 0,.nilS]]]
theorem clP0:AM.Pure clR0:=by simp [clR0]
theorem clQ0:∀a∈clA0,AM.Pure a:=by simp [clA0]
theorem cl0:ConP Tryz.prog 38 clA0 fun x=>x=clR0:=closed_conT tok mixed named extG_ok (fuel:=1000) (d:=40) (by kernel_rfl) clP0
def clA10:List V:=[.lst 2 false [.agg [.int .i64 3,.lst 3 false [.agg [.int .i64 1,.int .i64 1,.str ⟨#[]⟩],.agg [.int .i64 1,.int .i64 7,.str ⟨#[]⟩]]],.agg [.int .i64 1,.lst 3 false [.agg [.int .i64 1,.int .i64 1,.str ⟨#[]⟩],.agg [.int .i64 1,.int .i64 1,.str ⟨#[]⟩]]]],.lst 11 false [.agg [.int .i64 1,.int .i64 0,.int .i64 0,.int .i64 0,.str ⟨#[]⟩,.int .i64 1,.int .i64 2,.int .i64 0,.int .i64 0,.int .i64 0,.str ⟨#[]⟩],.agg [.int .i64 1,.int .i64 1,.int .i64 0,.int .i64 0,.str ⟨#[]⟩,.int .i64 2,.int .i64 2,.int .i64 1,.int .i64 0,.int .i64 0,.str ⟨#[]⟩]]]
def clR10:V:=.bool true
theorem clP10:AM.Pure clR10:=by simp [clR10]
theorem clQ10:∀a∈clA10,AM.Pure a:=by simp [clA10]
theorem cl10:ConP Tryz.prog 242 clA10 fun x=>x=clR10:=closed_conT tok mixed named extG_ok (fuel:=1000) (d:=40) (by kernel_rfl) clP10
def clA5:List V:=[.lst 2 false [.agg [.int .i64 1,.lst 3 false [.agg [.int .i64 1,.int .i64 1,.str ⟨#[]⟩],.agg [.int .i64 1,.int .i64 1,.str ⟨#[]⟩]]],.agg [.int .i64 3,.lst 3 false [.agg [.int .i64 1,.int .i64 1,.str ⟨#[]⟩],.agg [.int .i64 1,.int .i64 7,.str ⟨#[]⟩]]]],.lst 11 false [.agg [.int .i64 1,.int .i64 0,.int .i64 0,.int .i64 0,.str ⟨#[]⟩,.int .i64 1,.int .i64 2,.int .i64 0,.int .i64 0,.int .i64 0,.str ⟨#[]⟩],.agg [.int .i64 1,.int .i64 1,.int .i64 0,.int .i64 0,.str ⟨#[]⟩,.int .i64 2,.int .i64 2,.int .i64 1,.int .i64 0,.int .i64 0,.str ⟨#[]⟩]]]
def clR5:V:=.bool true
theorem clP5:AM.Pure clR5:=by simp [clR5]
theorem clQ5:∀a∈clA5,AM.Pure a:=by simp [clA5]
theorem cl5:ConP Tryz.prog 242 clA5 fun x=>x=clR5:=closed_conT tok mixed named extG_ok (fuel:=1000) (d:=40) (by kernel_rfl) clP5
def clA28:List V:=[.agg [.lst 1 false [.int .i64 5,.int .i64 1,.int .i64 1,.int .i64 1],.lst 1 false [.lst 1 false [.int .i64 0,.int .i64 1],.lst 1 false [.int .i64 0,.int .i64 2],.lst 1 false [.int .i64 1,.int .i64 2]]],.lst 1 false [.int .i64 1,.int .i64 2]]
def clR28:V:=.bool true
theorem clP28:AM.Pure clR28:=by simp [clR28]
theorem clQ28:∀a∈clA28,AM.Pure a:=by simp [clA28]
theorem cl28:ConP Tryz.prog 55 clA28 fun x=>x=clR28:=closed_conT tok mixed named extG_ok (fuel:=1000) (d:=40) (by kernel_rfl) clP28
def clA2:List V:=[.int .i64 2,.agg [.int .u32 1,.int .u32 2]]
def clR2:V:=.tup [.lst 2 false [.agg [.int .i64 2,.lst 11 false [.agg [.int .i64 1,.int .i64 0,.int .i64 0,.int .i64 0,.str ⟨#[]⟩,.int .i64 1,.int .i64 2,.int .i64 0,.int .i64 0,.int .i64 0,.str ⟨#[]⟩],.agg [.int .i64 1,.int .i64 1,.int .i64 0,.int .i64 0,.str ⟨#[]⟩,.int .i64 2,.int .i64 2,.int .i64 1,.int .i64 0,.int .i64 0,.str ⟨#[]⟩]]]],.int .i64 0]
theorem clP2:AM.Pure clR2:=by simp [clR2]
theorem clQ2:∀a∈clA2,AM.Pure a:=by simp [clA2]
theorem cl2:ConP Tryz.prog 126 clA2 fun x=>x=clR2:=closed_conT tok mixed named extG_ok (fuel:=1000) (d:=40) (by kernel_rfl) clP2
def clA6:List V:=[.lst 2 false [.agg [.int .i64 1,.lst 3 false [.agg [.int .i64 1,.int .i64 1,.str ⟨#[]⟩],.agg [.int .i64 1,.int .i64 1,.str ⟨#[]⟩]]],.agg [.int .i64 4,.lst 3 false [.agg [.int .i64 1,.int .i64 2,.str ⟨#[]⟩],.agg [.int .i64 1,.int .i64 1,.str ⟨#[]⟩]]]],.lst 11 false [.agg [.int .i64 1,.int .i64 0,.int .i64 0,.int .i64 0,.str ⟨#[]⟩,.int .i64 1,.int .i64 2,.int .i64 0,.int .i64 0,.int .i64 0,.str ⟨#[]⟩],.agg [.int .i64 1,.int .i64 1,.int .i64 0,.int .i64 0,.str ⟨#[]⟩,.int .i64 2,.int .i64 2,.int .i64 1,.int .i64 0,.int .i64 0,.str ⟨#[]⟩]]]
def clR6:V:=.bool false
theorem clP6:AM.Pure clR6:=by simp [clR6]
theorem clQ6:∀a∈clA6,AM.Pure a:=by simp [clA6]
theorem cl6:ConP Tryz.prog 242 clA6 fun x=>x=clR6:=closed_conT tok mixed named extG_ok (fuel:=1000) (d:=40) (by kernel_rfl) clP6
def clA19:List V:=[.lst 1 false [.int .i64 1,.int .i64 2,.int .i64 3,.int .i64 4],.int .i64 2]
def clR19:V:=.tup [.int .i64 1,.bool true]
theorem clP19:AM.Pure clR19:=by simp [clR19]
theorem clQ19:∀a∈clA19,AM.Pure a:=by simp [clA19]
theorem cl19:ConP Tryz.prog 40 clA19 fun x=>x=clR19:=closed_conT tok mixed named extG_ok (fuel:=1000) (d:=40) (by kernel_rfl) clP19
def clA22:List V:=[.agg [.lst 1 false [.int .i64 5,.int .i64 1,.int .i64 1,.int .i64 1],.lst 1 false [.lst 1 false [.int .i64 0,.int .i64 1],.lst 1 false [.int .i64 0,.int .i64 2],.lst 1 false [.int .i64 1,.int .i64 2]]]]
def clR22:V:=.tup [.lst 1 false [.int .i64 1,.int .i64 2],.int .i64 0]
theorem clP22:AM.Pure clR22:=by simp [clR22]
theorem clQ22:∀a∈clA22,AM.Pure a:=by simp [clA22]
theorem cl22:ConP Tryz.prog 69 clA22 fun x=>x=clR22:=closed_conT tok mixed named extG_ok (fuel:=1000) (d:=40) (by kernel_rfl) clP22
def clA1:List V:=[.agg [.str ⟨#[114]⟩,.lst 1 true [.str ⟨#[97]⟩,.str ⟨#[98]⟩],.lst 2 false [.agg [.int .i64 1,.lst 3 false [.agg [.int .i64 1,.int .i64 1,.str ⟨#[]⟩],.agg [.int .i64 1,.int .i64 1,.str ⟨#[]⟩]]],.agg [.int .i64 2,.lst 3 false [.agg [.int .i64 1,.int .i64 1,.str ⟨#[]⟩],.agg [.int .i64 1,.int .i64 2,.str ⟨#[]⟩]]],.agg [.int .i64 3,.lst 3 false [.agg [.int .i64 1,.int .i64 1,.str ⟨#[]⟩],.agg [.int .i64 1,.int .i64 7,.str ⟨#[]⟩]]],.agg [.int .i64 4,.lst 3 false [.agg [.int .i64 1,.int .i64 2,.str ⟨#[]⟩],.agg [.int .i64 1,.int .i64 1,.str ⟨#[]⟩]]]]]]
def clR1:V:=.int .i64 0
theorem clP1:AM.Pure clR1:=by simp [clR1]
theorem clQ1:∀a∈clA1,AM.Pure a:=by simp [clA1]
theorem cl1:ConP Tryz.prog 77 clA1 fun x=>x=clR1:=closed_conT tok mixed named extG_ok (fuel:=1000) (d:=40) (by kernel_rfl) clP1
def clA11:List V:=[.lst 2 false [.agg [.int .i64 3,.lst 3 false [.agg [.int .i64 1,.int .i64 1,.str ⟨#[]⟩],.agg [.int .i64 1,.int .i64 7,.str ⟨#[]⟩]]],.agg [.int .i64 2,.lst 3 false [.agg [.int .i64 1,.int .i64 1,.str ⟨#[]⟩],.agg [.int .i64 1,.int .i64 2,.str ⟨#[]⟩]]]],.lst 11 false [.agg [.int .i64 1,.int .i64 0,.int .i64 0,.int .i64 0,.str ⟨#[]⟩,.int .i64 1,.int .i64 2,.int .i64 0,.int .i64 0,.int .i64 0,.str ⟨#[]⟩],.agg [.int .i64 1,.int .i64 1,.int .i64 0,.int .i64 0,.str ⟨#[]⟩,.int .i64 2,.int .i64 2,.int .i64 1,.int .i64 0,.int .i64 0,.str ⟨#[]⟩]]]
def clR11:V:=.bool true
theorem clP11:AM.Pure clR11:=by simp [clR11]
theorem clQ11:∀a∈clA11,AM.Pure a:=by simp [clA11]
theorem cl11:ConP Tryz.prog 242 clA11 fun x=>x=clR11:=closed_conT tok mixed named extG_ok (fuel:=1000) (d:=40) (by kernel_rfl) clP11
def clA8:List V:=[.lst 2 false [.agg [.int .i64 2,.lst 3 false [.agg [.int .i64 1,.int .i64 1,.str ⟨#[]⟩],.agg [.int .i64 1,.int .i64 2,.str ⟨#[]⟩]]],.agg [.int .i64 3,.lst 3 false [.agg [.int .i64 1,.int .i64 1,.str ⟨#[]⟩],.agg [.int .i64 1,.int .i64 7,.str ⟨#[]⟩]]]],.lst 11 false [.agg [.int .i64 1,.int .i64 0,.int .i64 0,.int .i64 0,.str ⟨#[]⟩,.int .i64 1,.int .i64 2,.int .i64 0,.int .i64 0,.int .i64 0,.str ⟨#[]⟩],.agg [.int .i64 1,.int .i64 1,.int .i64 0,.int .i64 0,.str ⟨#[]⟩,.int .i64 2,.int .i64 2,.int .i64 1,.int .i64 0,.int .i64 0,.str ⟨#[]⟩]]]
def clR8:V:=.bool true
theorem clP8:AM.Pure clR8:=by simp [clR8]
theorem clQ8:∀a∈clA8,AM.Pure a:=by simp [clA8]
theorem cl8:ConP Tryz.prog 242 clA8 fun x=>x=clR8:=closed_conT tok mixed named extG_ok (fuel:=1000) (d:=40) (by kernel_rfl) clP8
def clA13:List V:=[.lst 2 false [.agg [.int .i64 4,.lst 3 false [.agg [.int .i64 1,.int .i64 2,.str ⟨#[]⟩],.agg [.int .i64 1,.int .i64 1,.str ⟨#[]⟩]]],.agg [.int .i64 1,.lst 3 false [.agg [.int .i64 1,.int .i64 1,.str ⟨#[]⟩],.agg [.int .i64 1,.int .i64 1,.str ⟨#[]⟩]]]],.lst 11 false [.agg [.int .i64 1,.int .i64 0,.int .i64 0,.int .i64 0,.str ⟨#[]⟩,.int .i64 1,.int .i64 2,.int .i64 0,.int .i64 0,.int .i64 0,.str ⟨#[]⟩],.agg [.int .i64 1,.int .i64 1,.int .i64 0,.int .i64 0,.str ⟨#[]⟩,.int .i64 2,.int .i64 2,.int .i64 1,.int .i64 0,.int .i64 0,.str ⟨#[]⟩]]]
def clR13:V:=.bool false
theorem clP13:AM.Pure clR13:=by simp [clR13]
theorem clQ13:∀a∈clA13,AM.Pure a:=by simp [clA13]
theorem cl13:ConP Tryz.prog 242 clA13 fun x=>x=clR13:=closed_conT tok mixed named extG_ok (fuel:=1000) (d:=40) (by kernel_rfl) clP13
def clA14:List V:=[.lst 2 false [.agg [.int .i64 4,.lst 3 false [.agg [.int .i64 1,.int .i64 2,.str ⟨#[]⟩],.agg [.int .i64 1,.int .i64 1,.str ⟨#[]⟩]]],.agg [.int .i64 2,.lst 3 false [.agg [.int .i64 1,.int .i64 1,.str ⟨#[]⟩],.agg [.int .i64 1,.int .i64 2,.str ⟨#[]⟩]]]],.lst 11 false [.agg [.int .i64 1,.int .i64 0,.int .i64 0,.int .i64 0,.str ⟨#[]⟩,.int .i64 1,.int .i64 2,.int .i64 0,.int .i64 0,.int .i64 0,.str ⟨#[]⟩],.agg [.int .i64 1,.int .i64 1,.int .i64 0,.int .i64 0,.str ⟨#[]⟩,.int .i64 2,.int .i64 2,.int .i64 1,.int .i64 0,.int .i64 0,.str ⟨#[]⟩]]]
def clR14:V:=.bool false
theorem clP14:AM.Pure clR14:=by simp [clR14]
theorem clQ14:∀a∈clA14,AM.Pure a:=by simp [clA14]
theorem cl14:ConP Tryz.prog 242 clA14 fun x=>x=clR14:=closed_conT tok mixed named extG_ok (fuel:=1000) (d:=40) (by kernel_rfl) clP14
def clA27:List V:=[.agg [.str ⟨#[114]⟩,.lst 1 true [.str ⟨#[97]⟩,.str ⟨#[98]⟩],.lst 2 false [.agg [.int .i64 1,.lst 3 false [.agg [.int .i64 1,.int .i64 1,.str ⟨#[]⟩],.agg [.int .i64 1,.int .i64 1,.str ⟨#[]⟩]]],.agg [.int .i64 2,.lst 3 false [.agg [.int .i64 1,.int .i64 1,.str ⟨#[]⟩],.agg [.int .i64 1,.int .i64 2,.str ⟨#[]⟩]]],.agg [.int .i64 3,.lst 3 false [.agg [.int .i64 1,.int .i64 1,.str ⟨#[]⟩],.agg [.int .i64 1,.int .i64 7,.str ⟨#[]⟩]]],.agg [.int .i64 4,.lst 3 false [.agg [.int .i64 1,.int .i64 2,.str ⟨#[]⟩],.agg [.int .i64 1,.int .i64 1,.str ⟨#[]⟩]]]]],.lst 1 true [.int .i64 2,.int .i64 3]]
def clR27:V:=.tup [.lst 1 false [.int .i64 1,.int .i64 2],.int .i64 0]
theorem clP27:AM.Pure clR27:=by simp [clR27]
theorem clQ27:∀a∈clA27,AM.Pure a:=by simp [clA27]
theorem cl27:ConP Tryz.prog 54 clA27 fun x=>x=clR27:=closed_conT tok mixed named extG_ok (fuel:=1000) (d:=40) (by kernel_rfl) clP27
def clA9:List V:=[.lst 2 false [.agg [.int .i64 2,.lst 3 false [.agg [.int .i64 1,.int .i64 1,.str ⟨#[]⟩],.agg [.int .i64 1,.int .i64 2,.str ⟨#[]⟩]]],.agg [.int .i64 4,.lst 3 false [.agg [.int .i64 1,.int .i64 2,.str ⟨#[]⟩],.agg [.int .i64 1,.int .i64 1,.str ⟨#[]⟩]]]],.lst 11 false [.agg [.int .i64 1,.int .i64 0,.int .i64 0,.int .i64 0,.str ⟨#[]⟩,.int .i64 1,.int .i64 2,.int .i64 0,.int .i64 0,.int .i64 0,.str ⟨#[]⟩],.agg [.int .i64 1,.int .i64 1,.int .i64 0,.int .i64 0,.str ⟨#[]⟩,.int .i64 2,.int .i64 2,.int .i64 1,.int .i64 0,.int .i64 0,.str ⟨#[]⟩]]]
def clR9:V:=.bool false
theorem clP9:AM.Pure clR9:=by simp [clR9]
theorem clQ9:∀a∈clA9,AM.Pure a:=by simp [clA9]
theorem cl9:ConP Tryz.prog 242 clA9 fun x=>x=clR9:=closed_conT tok mixed named extG_ok (fuel:=1000) (d:=40) (by kernel_rfl) clP9
def clA18:List V:=[.lst 1 false [.int .i64 1,.int .i64 2,.int .i64 3,.int .i64 4],.int .i64 1]
def clR18:V:=.tup [.int .i64 0,.bool true]
theorem clP18:AM.Pure clR18:=by simp [clR18]
theorem clQ18:∀a∈clA18,AM.Pure a:=by simp [clA18]
theorem cl18:ConP Tryz.prog 40 clA18 fun x=>x=clR18:=closed_conT tok mixed named extG_ok (fuel:=1000) (d:=40) (by kernel_rfl) clP18
def clA29:List V:=[.agg [.lst 1 false [.int .i64 5,.int .i64 1,.int .i64 1,.int .i64 1],.lst 1 false [.lst 1 false [.int .i64 0,.int .i64 1],.lst 1 false [.int .i64 0,.int .i64 2],.lst 1 false [.int .i64 1,.int .i64 2]]],.int .i64 2,.lst 2 true [.agg [.int .i64 (-1),.lst 2 true [.agg [.int .i64 0,.int .i64 1],.agg [.int .i64 1,.int .i64 1]]]]]
def clR29:V:=.bool true
theorem clP29:AM.Pure clR29:=by simp [clR29]
theorem clQ29:∀a∈clA29,AM.Pure a:=by simp [clA29]
theorem cl29:ConP Tryz.prog 57 clA29 fun x=>x=clR29:=closed_conT tok mixed named extG_ok (fuel:=1000) (d:=40) (by kernel_rfl) clP29
def clA31:List V:=[.agg [.lst 1 false [.int .i64 5,.int .i64 1,.int .i64 1,.int .i64 1],.lst 1 false [.lst 1 false [.int .i64 0,.int .i64 1],.lst 1 false [.int .i64 0,.int .i64 2],.lst 1 false [.int .i64 1,.int .i64 2]]],.int .i64 2,.lst 2 true [.agg [.int .i64 (-1),.lst 2 false [.agg [.int .i64 0,.int .i64 1],.agg [.int .i64 1,.int .i64 1]]]]]
def clR31:V:=.bool true
theorem clP31:AM.Pure clR31:=by simp [clR31]
theorem clQ31:∀a∈clA31,AM.Pure a:=by simp [clA31]
theorem cl31:ConP Tryz.prog 57 clA31 fun x=>x=clR31:=closed_conT tok mixed named extG_ok (fuel:=1000) (d:=40) (by kernel_rfl) clP31
def clA7:List V:=[.lst 2 false [.agg [.int .i64 2,.lst 3 false [.agg [.int .i64 1,.int .i64 1,.str ⟨#[]⟩],.agg [.int .i64 1,.int .i64 2,.str ⟨#[]⟩]]],.agg [.int .i64 1,.lst 3 false [.agg [.int .i64 1,.int .i64 1,.str ⟨#[]⟩],.agg [.int .i64 1,.int .i64 1,.str ⟨#[]⟩]]]],.lst 11 false [.agg [.int .i64 1,.int .i64 0,.int .i64 0,.int .i64 0,.str ⟨#[]⟩,.int .i64 1,.int .i64 2,.int .i64 0,.int .i64 0,.int .i64 0,.str ⟨#[]⟩],.agg [.int .i64 1,.int .i64 1,.int .i64 0,.int .i64 0,.str ⟨#[]⟩,.int .i64 2,.int .i64 2,.int .i64 1,.int .i64 0,.int .i64 0,.str ⟨#[]⟩]]]
def clR7:V:=.bool true
theorem clP7:AM.Pure clR7:=by simp [clR7]
theorem clQ7:∀a∈clA7,AM.Pure a:=by simp [clA7]
theorem cl7:ConP Tryz.prog 242 clA7 fun x=>x=clR7:=closed_conT tok mixed named extG_ok (fuel:=1000) (d:=40) (by kernel_rfl) clP7
def clA4:List V:=[.lst 2 false [.agg [.int .i64 1,.lst 3 false [.agg [.int .i64 1,.int .i64 1,.str ⟨#[]⟩],.agg [.int .i64 1,.int .i64 1,.str ⟨#[]⟩]]],.agg [.int .i64 2,.lst 3 false [.agg [.int .i64 1,.int .i64 1,.str ⟨#[]⟩],.agg [.int .i64 1,.int .i64 2,.str ⟨#[]⟩]]]],.lst 11 false [.agg [.int .i64 1,.int .i64 0,.int .i64 0,.int .i64 0,.str ⟨#[]⟩,.int .i64 1,.int .i64 2,.int .i64 0,.int .i64 0,.int .i64 0,.str ⟨#[]⟩],.agg [.int .i64 1,.int .i64 1,.int .i64 0,.int .i64 0,.str ⟨#[]⟩,.int .i64 2,.int .i64 2,.int .i64 1,.int .i64 0,.int .i64 0,.str ⟨#[]⟩]]]
def clR4:V:=.bool true
theorem clP4:AM.Pure clR4:=by simp [clR4]
theorem clQ4:∀a∈clA4,AM.Pure a:=by simp [clA4]
theorem cl4:ConP Tryz.prog 242 clA4 fun x=>x=clR4:=closed_conT tok mixed named extG_ok (fuel:=1000) (d:=40) (by kernel_rfl) clP4
def clA23:List V:=[.agg [.lst 1 false [.int .i64 5,.int .i64 1,.int .i64 1,.int .i64 1],.lst 1 false [.lst 1 false [.int .i64 0,.int .i64 1],.lst 1 false [.int .i64 0,.int .i64 2],.lst 1 false [.int .i64 1,.int .i64 2]]],.lst 1 false [.int .i64 1,.int .i64 2]]
def clR23:V:=.tup [.int .i64 2,.int .i64 0]
theorem clP23:AM.Pure clR23:=by simp [clR23]
theorem clQ23:∀a∈clA23,AM.Pure a:=by simp [clA23]
theorem cl23:ConP Tryz.prog 56 clA23 fun x=>x=clR23:=closed_conT tok mixed named extG_ok (fuel:=1000) (d:=40) (by kernel_rfl) clP23
def clA15:List V:=[.lst 2 false [.agg [.int .i64 4,.lst 3 false [.agg [.int .i64 1,.int .i64 2,.str ⟨#[]⟩],.agg [.int .i64 1,.int .i64 1,.str ⟨#[]⟩]]],.agg [.int .i64 3,.lst 3 false [.agg [.int .i64 1,.int .i64 1,.str ⟨#[]⟩],.agg [.int .i64 1,.int .i64 7,.str ⟨#[]⟩]]]],.lst 11 false [.agg [.int .i64 1,.int .i64 0,.int .i64 0,.int .i64 0,.str ⟨#[]⟩,.int .i64 1,.int .i64 2,.int .i64 0,.int .i64 0,.int .i64 0,.str ⟨#[]⟩],.agg [.int .i64 1,.int .i64 1,.int .i64 0,.int .i64 0,.str ⟨#[]⟩,.int .i64 2,.int .i64 2,.int .i64 1,.int .i64 0,.int .i64 0,.str ⟨#[]⟩]]]
def clR15:V:=.bool false
theorem clP15:AM.Pure clR15:=by simp [clR15]
theorem clQ15:∀a∈clA15,AM.Pure a:=by simp [clA15]
theorem cl15:ConP Tryz.prog 242 clA15 fun x=>x=clR15:=closed_conT tok mixed named extG_ok (fuel:=1000) (d:=40) (by kernel_rfl) clP15
def clA30:List V:=[.agg [.str ⟨#[114]⟩,.lst 1 true [.str ⟨#[97]⟩,.str ⟨#[98]⟩],.lst 2 false [.agg [.int .i64 1,.lst 3 false [.agg [.int .i64 1,.int .i64 1,.str ⟨#[]⟩],.agg [.int .i64 1,.int .i64 1,.str ⟨#[]⟩]]],.agg [.int .i64 2,.lst 3 false [.agg [.int .i64 1,.int .i64 1,.str ⟨#[]⟩],.agg [.int .i64 1,.int .i64 2,.str ⟨#[]⟩]]],.agg [.int .i64 3,.lst 3 false [.agg [.int .i64 1,.int .i64 1,.str ⟨#[]⟩],.agg [.int .i64 1,.int .i64 7,.str ⟨#[]⟩]]],.agg [.int .i64 4,.lst 3 false [.agg [.int .i64 1,.int .i64 2,.str ⟨#[]⟩],.agg [.int .i64 1,.int .i64 1,.str ⟨#[]⟩]]]]],.lst 1 false [.int .i64 2,.int .i64 3]]
def clR30:V:=.tup [.lst 1 false [.int .i64 1,.int .i64 2],.int .i64 0]
theorem clP30:AM.Pure clR30:=by simp [clR30]
theorem clQ30:∀a∈clA30,AM.Pure a:=by simp [clA30]
theorem cl30:ConP Tryz.prog 54 clA30 fun x=>x=clR30:=closed_conT tok mixed named extG_ok (fuel:=1000) (d:=40) (by kernel_rfl) clP30
def clA12:List V:=[.lst 2 false [.agg [.int .i64 3,.lst 3 false [.agg [.int .i64 1,.int .i64 1,.str ⟨#[]⟩],.agg [.int .i64 1,.int .i64 7,.str ⟨#[]⟩]]],.agg [.int .i64 4,.lst 3 false [.agg [.int .i64 1,.int .i64 2,.str ⟨#[]⟩],.agg [.int .i64 1,.int .i64 1,.str ⟨#[]⟩]]]],.lst 11 false [.agg [.int .i64 1,.int .i64 0,.int .i64 0,.int .i64 0,.str ⟨#[]⟩,.int .i64 1,.int .i64 2,.int .i64 0,.int .i64 0,.int .i64 0,.str ⟨#[]⟩],.agg [.int .i64 1,.int .i64 1,.int .i64 0,.int .i64 0,.str ⟨#[]⟩,.int .i64 2,.int .i64 2,.int .i64 1,.int .i64 0,.int .i64 0,.str ⟨#[]⟩]]]
def clR12:V:=.bool false
theorem clP12:AM.Pure clR12:=by simp [clR12]
theorem clQ12:∀a∈clA12,AM.Pure a:=by simp [clA12]
theorem cl12:ConP Tryz.prog 242 clA12 fun x=>x=clR12:=closed_conT tok mixed named extG_ok (fuel:=1000) (d:=40) (by kernel_rfl) clP12
def clA20:List V:=[.lst 1 false [.int .i64 1,.int .i64 2,.int .i64 3,.int .i64 4],.int .i64 3]
def clR20:V:=.tup [.int .i64 2,.bool true]
theorem clP20:AM.Pure clR20:=by simp [clR20]
theorem clQ20:∀a∈clA20,AM.Pure a:=by simp [clA20]
theorem cl20:ConP Tryz.prog 40 clA20 fun x=>x=clR20:=closed_conT tok mixed named extG_ok (fuel:=1000) (d:=40) (by kernel_rfl) clP20
def xt0:ExtF:=fun f args H=>if Nat.beq f 38 then (if eqL (eqV 40) args clA0 then some (clR0,H) else extG f args H) else extG f args H
theorem xt0_ok:ExtOk Tryz.prog xt0:=ext_more extG_ok cl0 clQ0
def xt1:ExtF:=fun f args H=>if Nat.beq f 77 then (if eqL (eqV 40) args clA1 then some (clR1,H) else xt0 f args H) else xt0 f args H
theorem xt1_ok:ExtOk Tryz.prog xt1:=ext_more xt0_ok cl1 clQ1
def xt2:ExtF:=fun f args H=>if Nat.beq f 126 then (if eqL (eqV 40) args clA2 then some (clR2,H) else xt1 f args H) else xt1 f args H
theorem xt2_ok:ExtOk Tryz.prog xt2:=ext_more xt1_ok cl2 clQ2
def xt4:ExtF:=extS 242 clA4 clR4 xt2
theorem xt4_ok:ExtOk Tryz.prog xt4:=extS_ok xt2_ok cl4 clQ4 (by unfold clR4; constructor)
def xt5:ExtF:=extS 242 clA5 clR5 xt4
theorem xt5_ok:ExtOk Tryz.prog xt5:=extS_ok xt4_ok cl5 clQ5 (by unfold clR5; constructor)
def xt6:ExtF:=extS 242 clA6 clR6 xt5
theorem xt6_ok:ExtOk Tryz.prog xt6:=extS_ok xt5_ok cl6 clQ6 (by unfold clR6; constructor)
def xt7:ExtF:=extS 242 clA7 clR7 xt6
theorem xt7_ok:ExtOk Tryz.prog xt7:=extS_ok xt6_ok cl7 clQ7 (by unfold clR7; constructor)
def xt8:ExtF:=extS 242 clA8 clR8 xt7
theorem xt8_ok:ExtOk Tryz.prog xt8:=extS_ok xt7_ok cl8 clQ8 (by unfold clR8; constructor)
def xt9:ExtF:=extS 242 clA9 clR9 xt8
theorem xt9_ok:ExtOk Tryz.prog xt9:=extS_ok xt8_ok cl9 clQ9 (by unfold clR9; constructor)
def xt10:ExtF:=extS 242 clA10 clR10 xt9
theorem xt10_ok:ExtOk Tryz.prog xt10:=extS_ok xt9_ok cl10 clQ10 (by unfold clR10; constructor)
def xt11:ExtF:=extS 242 clA11 clR11 xt10
theorem xt11_ok:ExtOk Tryz.prog xt11:=extS_ok xt10_ok cl11 clQ11 (by unfold clR11; constructor)
def xt12:ExtF:=extS 242 clA12 clR12 xt11
theorem xt12_ok:ExtOk Tryz.prog xt12:=extS_ok xt11_ok cl12 clQ12 (by unfold clR12; constructor)
def xt13:ExtF:=extS 242 clA13 clR13 xt12
theorem xt13_ok:ExtOk Tryz.prog xt13:=extS_ok xt12_ok cl13 clQ13 (by unfold clR13; constructor)
def xt14:ExtF:=extS 242 clA14 clR14 xt13
theorem xt14_ok:ExtOk Tryz.prog xt14:=extS_ok xt13_ok cl14 clQ14 (by unfold clR14; constructor)
def xt15:ExtF:=extS 242 clA15 clR15 xt14
theorem xt15_ok:ExtOk Tryz.prog xt15:=extS_ok xt14_ok cl15 clQ15 (by unfold clR15; constructor)
def xt18:ExtF:=fun f args H=>if Nat.beq f 40 then (if eqL (eqV 40) args clA18 then some (clR18,H) else xt15 f args H) else xt15 f args H
theorem xt18_ok:ExtOk Tryz.prog xt18:=ext_more xt15_ok cl18 clQ18
def xt19:ExtF:=fun f args H=>if Nat.beq f 40 then (if eqL (eqV 40) args clA19 then some (clR19,H) else xt18 f args H) else xt18 f args H
theorem xt19_ok:ExtOk Tryz.prog xt19:=ext_more xt18_ok cl19 clQ19
def xt20:ExtF:=fun f args H=>if Nat.beq f 40 then (if eqL (eqV 40) args clA20 then some (clR20,H) else xt19 f args H) else xt19 f args H
theorem xt20_ok:ExtOk Tryz.prog xt20:=ext_more xt19_ok cl20 clQ20
def xt22:ExtF:=fun f args H=>if Nat.beq f 69 then (if eqL (eqV 40) args clA22 then some (clR22,H) else xt20 f args H) else xt20 f args H
theorem xt22_ok:ExtOk Tryz.prog xt22:=ext_more xt20_ok cl22 clQ22
def xt23:ExtF:=fun f args H=>if Nat.beq f 56 then (if eqL (eqV 40) args clA23 then some (clR23,H) else xt22 f args H) else xt22 f args H
theorem xt23_ok:ExtOk Tryz.prog xt23:=ext_more xt22_ok cl23 clQ23
def xt25:ExtF:=fun f args H=>if Nat.beq f 47 then (if eqL (eqV 40) args clA25 then some (clR25,H) else xt23 f args H) else xt23 f args H
theorem xt25_ok:ExtOk Tryz.prog xt25:=ext_more xt23_ok cl25 clQ25
def xt27:ExtF:=fun f args H=>if Nat.beq f 54 then (if eqL (eqV 40) args clA27 then some (clR27,H) else xt25 f args H) else xt25 f args H
theorem xt27_ok:ExtOk Tryz.prog xt27:=ext_more xt25_ok cl27 clQ27
def xt28:ExtF:=fun f args H=>if Nat.beq f 55 then (if eqL (eqV 40) args clA28 then some (clR28,H) else xt27 f args H) else xt27 f args H
theorem xt28_ok:ExtOk Tryz.prog xt28:=ext_more xt27_ok cl28 clQ28
def xt29:ExtF:=fun f args H=>if Nat.beq f 57 then (if eqL (eqV 40) args clA29 then some (clR29,H) else xt28 f args H) else xt28 f args H
theorem xt29_ok:ExtOk Tryz.prog xt29:=ext_more xt28_ok cl29 clQ29
def xt30:ExtF:=fun f args H=>if Nat.beq f 54 then (if eqL (eqV 40) args clA30 then some (clR30,H) else xt29 f args H) else xt29 f args H
theorem xt30_ok:ExtOk Tryz.prog xt30:=ext_more xt29_ok cl30 clQ30
def xt31:ExtF:=fun f args H=>if Nat.beq f 57 then (if eqL (eqV 40) args clA31 then some (clR31,H) else xt30 f args H) else xt30 f args H
theorem xt31_ok:ExtOk Tryz.prog xt31:=ext_more xt30_ok cl31 clQ31
def clA3:List V:=[.agg [.str ⟨#[114]⟩,.lst 1 true [.str ⟨#[97]⟩,.str ⟨#[98]⟩],.lst 2 false [.agg [.int .i64 1,.lst 3 false [.agg [.int .i64 1,.int .i64 1,.str ⟨#[]⟩],.agg [.int .i64 1,.int .i64 1,.str ⟨#[]⟩]]],.agg [.int .i64 2,.lst 3 false [.agg [.int .i64 1,.int .i64 1,.str ⟨#[]⟩],.agg [.int .i64 1,.int .i64 2,.str ⟨#[]⟩]]],.agg [.int .i64 3,.lst 3 false [.agg [.int .i64 1,.int .i64 1,.str ⟨#[]⟩],.agg [.int .i64 1,.int .i64 7,.str ⟨#[]⟩]]],.agg [.int .i64 4,.lst 3 false [.agg [.int .i64 1,.int .i64 2,.str ⟨#[]⟩],.agg [.int .i64 1,.int .i64 1,.str ⟨#[]⟩]]]]],.agg [.int .i64 2,.lst 11 false [.agg [.int .i64 1,.int .i64 0,.int .i64 0,.int .i64 0,.str ⟨#[]⟩,.int .i64 1,.int .i64 2,.int .i64 0,.int .i64 0,.int .i64 0,.str ⟨#[]⟩],.agg [.int .i64 1,.int .i64 1,.int .i64 0,.int .i64 0,.str ⟨#[]⟩,.int .i64 2,.int .i64 2,.int .i64 1,.int .i64 0,.int .i64 0,.str ⟨#[]⟩]]]]
def clR3:V:=.int .i64 0
theorem clP3:AM.Pure clR3:=by simp [clR3]
theorem clQ3:∀a∈clA3,AM.Pure a:=by simp [clA3]
theorem cl3:ConP Tryz.prog 193 clA3 fun x=>x=clR3:=closed_conT tok mixed named xt31_ok (fuel:=1000) (d:=40) (by kernel_rfl) clP3
def xt3:ExtF:=fun f args H=>if Nat.beq f 193 then (if eqL (eqV 40) args clA3 then some (clR3,H) else xt31 f args H) else xt31 f args H
theorem xt3_ok:ExtOk Tryz.prog xt3:=ext_more xt31_ok cl3 clQ3
def clA16:List V:=[.agg [.str ⟨#[114]⟩,.lst 1 true [.str ⟨#[97]⟩,.str ⟨#[98]⟩],.lst 2 false [.agg [.int .i64 1,.lst 3 false [.agg [.int .i64 1,.int .i64 1,.str ⟨#[]⟩],.agg [.int .i64 1,.int .i64 1,.str ⟨#[]⟩]]],.agg [.int .i64 2,.lst 3 false [.agg [.int .i64 1,.int .i64 1,.str ⟨#[]⟩],.agg [.int .i64 1,.int .i64 2,.str ⟨#[]⟩]]],.agg [.int .i64 3,.lst 3 false [.agg [.int .i64 1,.int .i64 1,.str ⟨#[]⟩],.agg [.int .i64 1,.int .i64 7,.str ⟨#[]⟩]]],.agg [.int .i64 4,.lst 3 false [.agg [.int .i64 1,.int .i64 2,.str ⟨#[]⟩],.agg [.int .i64 1,.int .i64 1,.str ⟨#[]⟩]]]]],.agg [.str ⟨#[]⟩,.str ⟨#[114]⟩,.int .i64 1,.int .u32 1,.int .u32 2,.int .u32 0,.int .u32 0,.str ⟨#[]⟩,.nilS,.str ⟨#[]⟩,.nilS,.nilS,.int .i64 0,.nilS,.nilS,.nilS,.int .i64 0,.nilS]]
def clR16:V:=.tup [.lst 1 false [.lst 1 false [.int .i64 1,.int .i64 2],.lst 1 false [.int .i64 1,.int .i64 3],.lst 1 false [.int .i64 2,.int .i64 3]],.int .i64 0]
theorem clP16:AM.Pure clR16:=by simp [clR16]
theorem clQ16:∀a∈clA16,AM.Pure a:=by simp [clA16]
theorem cl16:ConP Tryz.prog 79 clA16 fun x=>x=clR16:=closed_conT tok mixed named xt3_ok (fuel:=1000) (d:=40) (by kernel_rfl) clP16
def xt16:ExtF:=fun f args H=>if Nat.beq f 79 then (if eqL (eqV 40) args clA16 then some (clR16,H) else xt3 f args H) else xt3 f args H
theorem xt16_ok:ExtOk Tryz.prog xt16:=ext_more xt3_ok cl16 clQ16
def clA17:List V:=[.agg [.str ⟨#[114]⟩,.lst 1 true [.str ⟨#[97]⟩,.str ⟨#[98]⟩],.lst 2 false [.agg [.int .i64 1,.lst 3 false [.agg [.int .i64 1,.int .i64 1,.str ⟨#[]⟩],.agg [.int .i64 1,.int .i64 1,.str ⟨#[]⟩]]],.agg [.int .i64 2,.lst 3 false [.agg [.int .i64 1,.int .i64 1,.str ⟨#[]⟩],.agg [.int .i64 1,.int .i64 2,.str ⟨#[]⟩]]],.agg [.int .i64 3,.lst 3 false [.agg [.int .i64 1,.int .i64 1,.str ⟨#[]⟩],.agg [.int .i64 1,.int .i64 7,.str ⟨#[]⟩]]],.agg [.int .i64 4,.lst 3 false [.agg [.int .i64 1,.int .i64 2,.str ⟨#[]⟩],.agg [.int .i64 1,.int .i64 1,.str ⟨#[]⟩]]]]],.lst 18 true [.agg [.str ⟨#[]⟩,.str ⟨#[114]⟩,.int .i64 1,.int .u32 1,.int .u32 2,.int .u32 0,.int .u32 0,.str ⟨#[]⟩,.nilS,.str ⟨#[]⟩,.nilS,.nilS,.int .i64 0,.nilS,.nilS,.nilS,.int .i64 0,.nilS]]]
def clR17:V:=.tup [.agg [.lst 1 false [.int .i64 1,.int .i64 2,.int .i64 3,.int .i64 4],.lst 1 false [.lst 1 false [.int .i64 1,.int .i64 2],.lst 1 false [.int .i64 1,.int .i64 3],.lst 1 false [.int .i64 2,.int .i64 3]]],.int .i64 0]
theorem clP17:AM.Pure clR17:=by simp [clR17]
theorem clQ17:∀a∈clA17,AM.Pure a:=by simp [clA17]
theorem cl17:ConP Tryz.prog 39 clA17 fun x=>x=clR17:=closed_conT tok mixed named xt16_ok (fuel:=1000) (d:=40) (by kernel_rfl) clP17
def xt17:ExtF:=fun f args H=>if Nat.beq f 39 then (if eqL (eqV 40) args clA17 then some (clR17,H) else xt16 f args H) else xt16 f args H
theorem xt17_ok:ExtOk Tryz.prog xt17:=ext_more xt16_ok cl17 clQ17
def clA21:List V:=[.agg [.str ⟨#[114]⟩,.lst 1 true [.str ⟨#[97]⟩,.str ⟨#[98]⟩],.lst 2 false [.agg [.int .i64 1,.lst 3 false [.agg [.int .i64 1,.int .i64 1,.str ⟨#[]⟩],.agg [.int .i64 1,.int .i64 1,.str ⟨#[]⟩]]],.agg [.int .i64 2,.lst 3 false [.agg [.int .i64 1,.int .i64 1,.str ⟨#[]⟩],.agg [.int .i64 1,.int .i64 2,.str ⟨#[]⟩]]],.agg [.int .i64 3,.lst 3 false [.agg [.int .i64 1,.int .i64 1,.str ⟨#[]⟩],.agg [.int .i64 1,.int .i64 7,.str ⟨#[]⟩]]],.agg [.int .i64 4,.lst 3 false [.agg [.int .i64 1,.int .i64 2,.str ⟨#[]⟩],.agg [.int .i64 1,.int .i64 1,.str ⟨#[]⟩]]]]],.lst 18 true [.agg [.str ⟨#[]⟩,.str ⟨#[114]⟩,.int .i64 1,.int .u32 1,.int .u32 2,.int .u32 0,.int .u32 0,.str ⟨#[]⟩,.nilS,.str ⟨#[]⟩,.nilS,.nilS,.int .i64 0,.nilS,.nilS,.nilS,.int .i64 0,.nilS]],.lst 1 true [.int .i64 5,.int .i64 1,.int .i64 1,.int .i64 1]]
def clR21:V:=.tup [.agg [.lst 1 false [.int .i64 5,.int .i64 1,.int .i64 1,.int .i64 1],.lst 1 false [.lst 1 false [.int .i64 0,.int .i64 1],.lst 1 false [.int .i64 0,.int .i64 2],.lst 1 false [.int .i64 1,.int .i64 2]]],.int .i64 0]
theorem clP21:AM.Pure clR21:=by simp [clR21]
theorem clQ21:∀a∈clA21,AM.Pure a:=by simp [clA21]
theorem cl21:ConP Tryz.prog 13 clA21 fun x=>x=clR21:=closed_conT tok mixed named xt17_ok (fuel:=1000) (d:=40) (by kernel_rfl) clP21
def xt21:ExtF:=fun f args H=>if Nat.beq f 13 then (if eqL (eqV 40) args clA21 then some (clR21,H) else xt17 f args H) else xt17 f args H
theorem xt21_ok:ExtOk Tryz.prog xt21:=ext_more xt17_ok cl21 clQ21
def clA24:List V:=[.agg [.lst 1 false [.int .i64 5,.int .i64 1,.int .i64 1,.int .i64 1],.lst 1 false [.lst 1 false [.int .i64 0,.int .i64 1],.lst 1 false [.int .i64 0,.int .i64 2],.lst 1 false [.int .i64 1,.int .i64 2]]],.int .i64 10000]
def clR24:V:=.tup [.lst 1 false [.int .i64 1,.int .i64 2],.int .i64 2,.int .i64 0]
theorem clP24:AM.Pure clR24:=by simp [clR24]
theorem clQ24:∀a∈clA24,AM.Pure a:=by simp [clA24]
theorem cl24:ConP Tryz.prog 46 clA24 fun x=>x=clR24:=closed_conT tok mixed named xt21_ok (fuel:=1000) (d:=40) (by kernel_rfl) clP24
def xt24:ExtF:=fun f args H=>if Nat.beq f 46 then (if eqL (eqV 40) args clA24 then some (clR24,H) else xt21 f args H) else xt21 f args H
theorem xt24_ok:ExtOk Tryz.prog xt24:=ext_more xt21_ok cl24 clQ24
def clA26:List V:=[.agg [.str ⟨#[114]⟩,.lst 1 true [.str ⟨#[97]⟩,.str ⟨#[98]⟩],.lst 2 false [.agg [.int .i64 1,.lst 3 false [.agg [.int .i64 1,.int .i64 1,.str ⟨#[]⟩],.agg [.int .i64 1,.int .i64 1,.str ⟨#[]⟩]]],.agg [.int .i64 2,.lst 3 false [.agg [.int .i64 1,.int .i64 1,.str ⟨#[]⟩],.agg [.int .i64 1,.int .i64 2,.str ⟨#[]⟩]]],.agg [.int .i64 3,.lst 3 false [.agg [.int .i64 1,.int .i64 1,.str ⟨#[]⟩],.agg [.int .i64 1,.int .i64 7,.str ⟨#[]⟩]]],.agg [.int .i64 4,.lst 3 false [.agg [.int .i64 1,.int .i64 2,.str ⟨#[]⟩],.agg [.int .i64 1,.int .i64 1,.str ⟨#[]⟩]]]]],.lst 18 true [.agg [.str ⟨#[]⟩,.str ⟨#[114]⟩,.int .i64 1,.int .u32 1,.int .u32 2,.int .u32 0,.int .u32 0,.str ⟨#[]⟩,.nilS,.str ⟨#[]⟩,.nilS,.nilS,.int .i64 0,.nilS,.nilS,.nilS,.int .i64 0,.nilS]],.lst 1 true [.int .i64 5,.int .i64 1,.int .i64 1,.int .i64 1],.int .i64 10000]
def clR26:V:=.tup [.agg [.lst 1 false [.int .i64 2,.int .i64 3],.int .i64 2,.lst 2 true [.agg [.int .i64 (-1),.lst 2 false [.agg [.int .i64 0,.int .i64 1],.agg [.int .i64 1,.int .i64 1]]]]],.int .i64 0]
theorem clP26:AM.Pure clR26:=by simp [clR26]
theorem clQ26:∀a∈clA26,AM.Pure a:=by simp [clA26]
theorem cl26:ConP Tryz.prog 18 clA26 fun x=>x=clR26:=closed_conT tok mixed named xt24_ok (fuel:=1000) (d:=40) (by kernel_rfl) clP26
def xt26:ExtF:=fun f args H=>if Nat.beq f 18 then (if eqL (eqV 40) args clA26 then some (clR26,H) else xt24 f args H) else xt24 f args H
theorem xt26_ok:ExtOk Tryz.prog xt26:=ext_more xt24_ok cl26 clQ26
theorem awake_con:ConP Tryz.prog 12 [] fun x=>x = .bool true:=closed_conT tok mixed named xt26_ok (fuel:=1000) (d:=40) (by kernel_rfl) (.bool _)
structure CaseR (t:Tb) (cs:List Cn) (w:List Int):Prop where
 b:BdOk t cs
 s:TbS t
 n:t.rows.length≤6
 e:∀c∈cs,cnErr t c=0
 z:buildErr t cs=0
 p:prE t cs w=0
 l4:cs.length≤4
 wl:w=[]∨w.length=t.rows.length
 w6:w.length≤6
 wr:∀x∈w,1≤x∧x≤20
theorem case_ok {x:Rcp} {rs:List Rul} {ws:List Int} (h:C4Ok x rs ws) (hb:ofB4 x rs=true):CaseR (ofT x) (ofL4 x rs) (wOf (ofT x).rows.length ws):=by
 unfold ofB4 at hb
 rw [Bool.and_eq_true,Bool.and_eq_true,decide_eq_true_iff,decide_eq_true_iff] at hb
 obtain ⟨⟨h6,hall⟩,h4⟩:=hb
 have hxo:RcpOk x:=⟨h.a,h.gap,h6,h.len⟩
 have hT:ofT x=tbOf x:=by unfold ofT; rw [if_pos h6]
 have hL:ofL4 x rs=rs.map (cnOf (tbOf x).attrs.length):=by unfold ofL4; rw [if_pos hall,hT]
 obtain ⟨h1,h2,h3⟩:=bd_rcp hxo h.r hall h4
 have hr:=tbOf_rows x
 rw [hT,hL]
 have hwr:=wOf_rng (n:=(tbOf x).rows.length) h.w
 have hwl:=wOf_len (tbOf x).rows.length ws
 have hw6:(wOf (tbOf x).rows.length ws).length≤6:=by
  rcases hwl with e | e
  ·rw [e]; simp
  ·rw [e,hr]; exact h6
 exact ⟨h1,(tbOf_ok hxo).1,by omega,h2,h3,pr_zero h1 h3 hwl (fun v hv=>by have:=hwr v hv; omega),by rw [List.length_map]; exact h4,hwl,hw6,hwr⟩
theorem CaseR.hsb {t:Tb} {cs:List Cn} {w:List Int} (h:CaseR t cs w):HsB (inW t w) (inE t cs)∧(inW t w).length≤6:=by
 obtain ⟨h1,h2,h3⟩:=pr_ok h.p
 exact ⟨h3,by rw [inW_len h2]; exact h.n⟩
theorem lawProblem (x:Rcp) (rs:List Rul) (ws:List Int) (f f2 f3:Bool) (h:C4Ok x rs ws):ConP Tryz.prog 3 [encC4 f f2 f3 x rs ws] fun r=>r = .bool true:=by
 have c1:=of_41 x rs ws f f2 f3 h
 cases hB:ofB4 x rs with
 | false =>
  rw [hB] at c1
  obtain ⟨t,ht⟩:∃t,t=ofT x:=⟨_,rfl⟩
  obtain ⟨cs,hcs⟩:∃cs,cs=ofL4 x rs:=⟨_,rfl⟩
  obtain ⟨w,hw⟩:∃w,w=wOf (ofT x).rows.length ws:=⟨_,rfl⟩
  rw [←hw,←hcs,←ht] at c1
  simp only [encC4,encTb,LS,LR,LCn,L1] at c1
  refine conP_of_conH (conH_of_W tok Tryz.func3 rfl rfl ?_)
  refine wx ?_
  simp -implicitDefEqProofs -dsimp [Tryz.f3,List.replicate,encC4]
  refine (callP (c1) (by simp)).mono ?_
  rintro r H' ⟨rfl,rfl⟩
  simp -implicitDefEqProofs -dsimp []
  refine (callP (awake_con) (by simp)).mono ?_
  rintro r H' ⟨rfl,rfl⟩
  simp -implicitDefEqProofs -dsimp []
  refine (callP (awake_con) (by simp)).mono ?_
  rintro r H' ⟨rfl,rfl⟩
  simp -implicitDefEqProofs -dsimp []
 | true =>
 have R:=case_ok h hB
 rw [hB] at c1
 obtain ⟨t,ht⟩:∃t,t=ofT x:=⟨_,rfl⟩
 obtain ⟨cs,hcs⟩:∃cs,cs=ofL4 x rs:=⟨_,rfl⟩
 obtain ⟨w,hw⟩:∃w,w=wOf (ofT x).rows.length ws:=⟨_,rfl⟩
 rw [←hw,←hcs,←ht] at c1 R
 clear hw hcs ht hB
 have hw6:=R.w6
 have hl4:=R.l4
 have cl:=clone_K cs false (by omega)
 have cw:=clone64p w false (by omega)
 have cp:=problem_u t cs w false false false false R.b (by omega)
 have cr:=problem_r t cs w false false false false R.b (by omega)
 obtain ⟨H1,H2⟩:=R.hsb
 have csm:=same41 (inW t w) (inE t cs) false false false false (by omega) (by have:=H1.ne; omega) (fun e he=>by have:=H1.ed.len e he; omega)
 rw [R.p,prV_yes R.p] at cp cr
 obtain ⟨W0,hW0⟩:∃W0,W0=inW t w:=⟨_,rfl⟩
 obtain ⟨E,hE⟩:∃E,E=inE t cs:=⟨_,rfl⟩
 rw [←hW0,←hE] at cp cr csm
 simp only [encC4,encTb,LS,LR,LCn,L1,encHn,LLn] at c1 cl cw cp cr csm
 refine conP_of_conH (conH_of_W tok Tryz.func3 rfl rfl ?_)
 refine wx ?_
 simp -implicitDefEqProofs -dsimp [Tryz.f3,List.replicate,encC4]
 refine (callP (c1) (by simp)).mono ?_
 rintro r H' ⟨rfl,rfl⟩
 simp -implicitDefEqProofs -dsimp []
 refine (callP (awake_con) (by simp)).mono ?_
 rintro r H' ⟨rfl,rfl⟩
 simp -implicitDefEqProofs -dsimp []
 refine lw_of (W_drawT tok mixed [9,10] [(0,[1]),(1,[1]),(2,[1]),(3,[1]),(4,[1]),(5,[1]),(6,[1]),(7,[1]),(8,[1,2])] [(.lst 18 false (cs.map encCn),[]),(.lst 1 false (w.map encI),[]),(.tup [.agg [.lst 1 false (W0.map encI),.lst 1 false (E.map (Ln false))],.int .i64 0],[])] (by kernel_rfl) fun C K hC hK=>?_)
 simp -implicitDefEqProofs []
 refine ⟨?_,hK _ _ ?_⟩
 ·repeat' (first | exact hC _ _ _ _ (callP cl (by simp)) | exact hC _ _ _ _ (callP cw (by simp)) | exact hC _ _ _ _ (callP cp (by simp)) | refine And.intro ?_ ?_)
 simp -implicitDefEqProofs -dsimp []
 refine (callP (cr) (by simp)).mono ?_
 rintro r H' ⟨rfl,rfl⟩
 simp -implicitDefEqProofs -dsimp []
 refine (callP (csm) (by simp)).mono ?_
 rintro r H' ⟨rfl,rfl⟩
 simp -implicitDefEqProofs -dsimp []
theorem lawRepairs (x:Rcp) (rs:List Rul) (ws:List Int) (D:List Int) (fd:Bool) (f f2 f3:Bool) (h:C4Ok x rs ws):ConP Tryz.prog 10 [encC4 f f2 f3 x rs ws,L1 fd D] fun r=>r = .bool true:=by
 have c1:=of_41 x rs ws f f2 f3 h
 cases hB:ofB4 x rs with
 | false =>
  rw [hB] at c1
  obtain ⟨t,ht⟩:∃t,t=ofT x:=⟨_,rfl⟩
  obtain ⟨cs,hcs⟩:∃cs,cs=ofL4 x rs:=⟨_,rfl⟩
  obtain ⟨w,hw⟩:∃w,w=wOf (ofT x).rows.length ws:=⟨_,rfl⟩
  rw [←hw,←hcs,←ht] at c1
  simp only [encC4,encTb,LS,LR,LCn,L1] at c1
  refine conP_of_conH (conH_of_W tok Tryz.func10 rfl rfl ?_)
  refine wx ?_
  simp -implicitDefEqProofs -dsimp [Tryz.f10,List.replicate,encC4,L1]
  refine (callP (c1) (by simp)).mono ?_
  rintro r H' ⟨rfl,rfl⟩
  simp -implicitDefEqProofs -dsimp []
  refine (callP (awake_con) (by simp)).mono ?_
  rintro r H' ⟨rfl,rfl⟩
  simp -implicitDefEqProofs -dsimp []
  refine (callP (awake_con) (by simp)).mono ?_
  rintro r H' ⟨rfl,rfl⟩
  simp -implicitDefEqProofs -dsimp []
 | true =>
 have R:=case_ok h hB
 rw [hB] at c1
 obtain ⟨t,ht⟩:∃t,t=ofT x:=⟨_,rfl⟩
 obtain ⟨cs,hcs⟩:∃cs,cs=ofL4 x rs:=⟨_,rfl⟩
 obtain ⟨w,hw⟩:∃w,w=wOf (ofT x).rows.length ws:=⟨_,rfl⟩
 rw [←hw,←hcs,←ht] at c1 R
 clear hw hcs ht hB
 have hw6:=R.w6
 have hl4:=R.l4
 have cl:=clone_K cs false (by omega)
 have cw:=clone64p w false (by omega)
 by_cases h8:D.length≤8
 case neg =>
  simp only [encC4,encTb,LS,LR,LCn,L1] at c1
  refine conP_of_conH (conH_of_W tok Tryz.func10 rfl rfl ?_)
  refine wx ?_
  simp -implicitDefEqProofs -dsimp [Tryz.f10,List.replicate,encC4,L1]
  refine (callP (c1) (by simp)).mono ?_
  rintro r H' ⟨rfl,rfl⟩
  simp -implicitDefEqProofs -dsimp []
  refine (callP (awake_con) (by simp)).mono ?_
  rintro r H' ⟨rfl,rfl⟩
  simp -implicitDefEqProofs -dsimp [show (8:Int)<D.length by omega]
  refine (callP (awake_con) (by simp)).mono ?_
  rintro r H' ⟨rfl,rfl⟩
  simp -implicitDefEqProofs -dsimp []
 case pos =>
 have hDl:D.length≤8:=h8
 have cd:=clone64p D fd (by omega)
 have k1:=repairs_u t cs D false false false false R.b (by omega)
 have k2:=minimal_s t cs D false false false false R.b (by omega)
 have k3:=complete_u t cs D false false false false R.b (by omega)
 have r1:=repairs_r t cs D false false false fd R.b (by omega)
 have r2:=minimal_r t cs D false false false fd R.b (by omega)
 have r3:=complete_r t cs D false false false fd R.b (by omega)
 by_cases hz:cpE t cs D=0
 ·have hbl:blE t cs D=0∧hitB (edgesF (allR t cs)) D=true:=by
   unfold cpE at hz
   split at hz
   ·rename_i q
    refine ⟨q,?_⟩
    split at hz
    ·assumption
    ·cases hz
   ·rename_i q; exact absurd hz q
  obtain ⟨hb0,hh⟩:=hbl
  obtain ⟨_,hpl⟩:=bl_ok hb0
  have hMl:=cmpF_len (edgesF (allR t cs)) D D.length
  have hok:=cmpF_ok (E:=edgesF (allR t cs)) hpl D.length
  have hmn:=cmpF_min hh
  have hcv:cpV t cs D=L1 false (cmpF (edgesF (allR t cs)) D D.length):=by unfold cpV; rw [if_pos hz]
  obtain ⟨M,hM⟩:∃M,M=cmpF (edgesF (allR t cs)) D D.length:=⟨_,rfl⟩
  rw [←hM] at hMl hok hmn hcv
  have k4:=minimal_s t cs M false false false false R.b (by omega)
  have hbM:blE t cs M=0:=by unfold blE; rw [if_pos R.z]; exact hok
  have hrM:rmB t cs M=true:=by unfold rmB; rw [if_pos hbM]; exact hmn
  have ceq:=equal64 M M false false (by omega) (by omega)
  rw [decide_eq_true rfl] at ceq
  rw [hz,hcv] at k3 r3
  rw [hbM,hrM] at k4
  rw [hb0] at k1 k2 r1 r2
  obtain ⟨p1,hp1⟩:∃p,p=rpB t cs D:=⟨_,rfl⟩
  obtain ⟨p2,hp2⟩:∃p,p=rmB t cs D:=⟨_,rfl⟩
  rw [←hp1] at k1 r1
  rw [←hp2] at k2 r2
  simp only [encC4,encTb,LS,LR,LCn,L1] at c1 cd k1 k2 k3 r1 r2 r3 k4 ceq
  refine conP_of_conH (conH_of_W tok Tryz.func10 rfl rfl ?_)
  refine wx ?_
  simp -implicitDefEqProofs -dsimp [Tryz.f10,List.replicate,encC4,L1]
  refine (callP (c1) (by simp)).mono ?_
  rintro r H' ⟨rfl,rfl⟩
  simp -implicitDefEqProofs -dsimp []
  refine (callP (awake_con) (by simp)).mono ?_
  rintro r H' ⟨rfl,rfl⟩
  simp -implicitDefEqProofs -dsimp [show ¬(8:Int)<D.length by omega]
  refine .inr ⟨stop_of (by kernel_rfl),?_⟩
  refine cy_of _ (callP (cd) (by simp)) ?_
  simp -implicitDefEqProofs -dsimp []
  refine cy_of _ (callP (k1) (by simp)) ?_
  simp -implicitDefEqProofs -dsimp []
  refine .inr ⟨stop_of (by kernel_rfl),?_⟩
  refine cy_of _ (callP (cd) (by simp)) ?_
  simp -implicitDefEqProofs -dsimp []
  refine cy_of _ (callP (k2) (by simp)) ?_
  simp -implicitDefEqProofs -dsimp []
  refine .inr ⟨stop_of (by kernel_rfl),?_⟩
  refine cy_of _ (callP (cd) (by simp)) ?_
  simp -implicitDefEqProofs -dsimp []
  refine cy_of _ (callP (k3) (by simp)) ?_
  simp -implicitDefEqProofs -dsimp []
  refine (callP (r1) (by simp)).mono ?_
  rintro r H' ⟨rfl,rfl⟩
  simp -implicitDefEqProofs -dsimp []
  refine (callP (r2) (by simp)).mono ?_
  rintro r H' ⟨rfl,rfl⟩
  simp -implicitDefEqProofs -dsimp []
  refine (callP (r3) (by simp)).mono ?_
  rintro r H' ⟨rfl,rfl⟩
  simp -implicitDefEqProofs -dsimp [eqA2]
  refine (callP (ceq) (by simp)).mono ?_
  rintro r H' ⟨rfl,rfl⟩
  simp -implicitDefEqProofs -dsimp []
  refine (callP (k4) (by simp)).mono ?_
  rintro r H' ⟨rfl,rfl⟩
  simp -implicitDefEqProofs -dsimp []
 ·have hcv:cpV t cs D = .nilS:=by unfold cpV; rw [if_neg hz]
  have ceq:ConP Tryz.prog 35 [.nilS,.nilS] fun r=>r = .bool true:=by
   have q:=equal64 [] [] false false (by simp) (by simp)
   rw [decide_eq_true rfl] at q
   refine conP_args q rfl (fun i a a' h1 h2=>?_)
   match i with
   | 0=>simp at h1 h2; subst h1; subst h2; exact .nil _ _
   | 1=>simp at h1 h2; subst h1; subst h2; exact .nil _ _
   | n+2=>simp at h1
  rw [hcv] at k3 r3
  obtain ⟨e,he⟩:∃e,e=blE t cs D:=⟨_,rfl⟩
  obtain ⟨e2,he2⟩:∃e,e=cpE t cs D:=⟨_,rfl⟩
  obtain ⟨p1,hp1⟩:∃p,p=rpB t cs D:=⟨_,rfl⟩
  obtain ⟨p2,hp2⟩:∃p,p=rmB t cs D:=⟨_,rfl⟩
  rw [←hp1,←he] at k1 r1
  rw [←hp2,←he] at k2 r2
  rw [←he2] at k3 r3 hz
  simp only [encC4,encTb,LS,LR,LCn,L1] at c1 cd k1 k2 k3 r1 r2 r3
  refine conP_of_conH (conH_of_W tok Tryz.func10 rfl rfl ?_)
  refine wx ?_
  simp -implicitDefEqProofs -dsimp [Tryz.f10,List.replicate,encC4,L1]
  refine (callP (c1) (by simp)).mono ?_
  rintro r H' ⟨rfl,rfl⟩
  simp -implicitDefEqProofs -dsimp []
  refine (callP (awake_con) (by simp)).mono ?_
  rintro r H' ⟨rfl,rfl⟩
  simp -implicitDefEqProofs -dsimp [show ¬(8:Int)<D.length by omega]
  refine .inr ⟨stop_of (by kernel_rfl),?_⟩
  refine cy_of _ (callP (cd) (by simp)) ?_
  simp -implicitDefEqProofs -dsimp []
  refine cy_of _ (callP (k1) (by simp)) ?_
  simp -implicitDefEqProofs -dsimp []
  refine .inr ⟨stop_of (by kernel_rfl),?_⟩
  refine cy_of _ (callP (cd) (by simp)) ?_
  simp -implicitDefEqProofs -dsimp []
  refine cy_of _ (callP (k2) (by simp)) ?_
  simp -implicitDefEqProofs -dsimp []
  refine .inr ⟨stop_of (by kernel_rfl),?_⟩
  refine cy_of _ (callP (cd) (by simp)) ?_
  simp -implicitDefEqProofs -dsimp []
  refine cy_of _ (callP (k3) (by simp)) ?_
  simp -implicitDefEqProofs -dsimp []
  refine (callP (r1) (by simp)).mono ?_
  rintro r H' ⟨rfl,rfl⟩
  simp -implicitDefEqProofs -dsimp []
  refine (callP (r2) (by simp)).mono ?_
  rintro r H' ⟨rfl,rfl⟩
  simp -implicitDefEqProofs -dsimp []
  refine (callP (r3) (by simp)).mono ?_
  rintro r H' ⟨rfl,rfl⟩
  simp -implicitDefEqProofs -dsimp [eqA2,hz]
  refine (callP (ceq) (by simp)).mono ?_
  rintro r H' ⟨rfl,rfl⟩
  simp -implicitDefEqProofs -dsimp [hz]
end
end Go.Proofs.YtjogkbekekdkjaaGreatDoor
