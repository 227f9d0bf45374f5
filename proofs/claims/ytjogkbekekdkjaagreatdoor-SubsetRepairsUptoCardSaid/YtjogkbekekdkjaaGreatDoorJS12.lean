/- JS12: own texts of this seat, joined by pack2.py: SC2, SC11, Opc, SC4, SC5, SC7, FrB, DR, DS, DT, DU, BR, BS, BV. -/
import Derived.Test.YtjogkbekekdkjaaGreatDoorJS11
set_option linter.unusedVariables false
set_option linter.unusedSimpArgs false
set_option maxRecDepth 100000
set_option maxHeartbeats 64000000
namespace Go.Proofs.YtjogkbekekdkjaaGreatDoor
section
open Go Go.AM
noncomputable def prV (t:Tb) (cs:List Cn) (w:List Int):V:=if prE t cs w=0 then encHn false false (inW t w) (inE t cs) else .agg [.nilS,.nilS]
theorem prV_yes {t:Tb} {cs:List Cn} {w:List Int} (h:prE t cs w=0):prV t cs w=encHn false false (inW t w) (inE t cs):=by unfold prV; rw [if_pos h]
theorem prV_no {t:Tb} {cs:List Cn} {w:List Int} (h:¬prE t cs w=0):prV t cs w = .agg [.nilS,.nilS]:=by unfold prV; rw [if_neg h]
theorem lnB_rb (n e:Nat) (es:List (List Nat)) (fz:Bool):rbB n (.buf e 1 (es.map (Ln false)) fz):=fun x hx=>by
 obtain ⟨y,_,rfl⟩:=List.mem_map.1 hx
 intro c hc
 simp only [Ln,V.cells,List.mem_cons,List.not_mem_nil,or_false] at hc
 subst hc
 simp [rb1]
theorem intB_rb (n e:Nat) (xs:List Int) (fz:Bool):rbB n (.buf e 1 (xs.map encI) fz):=fun x hx=>by
 obtain ⟨y,_,rfl⟩:=List.mem_map.1 hx
 intro c hc
 simp only [encI,V.cells,List.mem_cons,List.not_mem_nil,or_false] at hc
 subst hc
 simp [rb1]
theorem cell2_rb {n:Nat} {a b:V} (ha:rb n a) (hb:rb n b):rbB n (.cells [a,b]):=fun c hc=>by
 simp only [List.mem_cons,List.not_mem_nil,or_false] at hc
 rcases hc with rfl | rfl
 ·exact ha
 ·exact hb
theorem ix_take {I:List Int} {E:List (List Int)} {j:Nat} (h:j<E.length):(E.take (j+1)).map (ixE I)=(E.take j).map (ixE I)++[ixE I E[j]]:=by
 rw [List.take_succ_eq_append_getElem h,List.map_append]; rfl
theorem inW_nil (t:Tb):inW t []=List.replicate t.rows.length 1:=by unfold inW; rw [if_pos rfl]
theorem inW_ne {t:Tb} {w:List Int} (h:w≠[]):inW t w=w:=by unfold inW; rw [if_neg h]
theorem rep_take (n i:Nat) (h:i<n):(List.replicate n (1:Int)).take (i+1)=(List.replicate n (1:Int)).take i++[1]:=by
 rw [List.take_succ_eq_append_getElem (by simpa using h),List.getElem_replicate]
theorem problem_u (t:Tb) (cs:List Cn) (w:List Int) (f g fc fw:Bool) (h:BdOk t cs) (hw:w.length≤1000000):ConP Tryz.prog 13 [encTb f g t,LCn fc cs,L1 fw w] fun r=>r = .tup [prV t cs w,.int .i64 (prE t cs w)]:=by
 have cb:=build_u t cs f g fc h
 have htB:B.cells [.str t.name,.lst 1 f (t.attrs.map V.str),.lst 2 g (t.rows.map encRw)]=tcB t f g:=rfl
 have htr:∀n,rbB n (tcB t f g):=fun n=>tcB_rb n t f g
 by_cases h0:buildErr t cs=0
 case neg =>
  have he:prE t cs w=buildErr t cs:=by unfold prE; rw [if_neg h0]
  rw [prV_no (by rw [he]; exact h0),he]
  rw [bdV_no h0] at cb
  obtain ⟨e,hee⟩:∃e,e=buildErr t cs:=⟨_,rfl⟩
  rw [←hee] at cb h0 ⊢
  simp only [encTb,LS,LR,LCn] at cb
  refine conP_of_conH (conH_of_W tok Tryz.func13 rfl rfl ?_)
  refine wx ?_
  simp -implicitDefEqProofs -dsimp [Tryz.f13,List.replicate,encTb,LS,LR,LCn,L1]
  refine (callP (cb) (by simp)).mono ?_
  rintro r H' ⟨rfl,rfl⟩
  simp -implicitDefEqProofs -dsimp [h0]
 case pos =>
 rw [h0,bdV_yes h0] at cb
 obtain ⟨hsm,hh,hel⟩:=edges_small h h0
 by_cases hl:w=[]∨w.length=t.rows.length
 case neg =>
  have he:prE t cs w=6:=by unfold prE; rw [if_pos h0,if_neg hl]
  rw [prV_no (by rw [he]; decide),he]
  obtain ⟨hl1,hl2⟩:=not_or.1 hl
  have hl3:=List.length_pos_iff.2 hl1
  simp only [encTb,LS,LR,LCn,encH,L1,LL] at cb
  refine conP_of_conH (conH_of_W tok Tryz.func13 rfl rfl ?_)
  refine wx ?_
  simp -implicitDefEqProofs -dsimp [Tryz.f13,List.replicate,encTb,LS,LR,LCn,L1]
  refine (callP (cb) (by simp)).mono ?_
  rintro r H' ⟨rfl,rfl⟩
  simp -implicitDefEqProofs -dsimp [show (0:Int)<w.length by omega,show ¬((w.length:Int)=t.rows.length) by omega,hl1,hl2,hl3]
 case pos =>
 have hV:prE t cs w=validN (inW t w) (inE t cs):=by unfold prE; rw [if_pos h0,if_pos hl]
 have hwl:=inW_len hl
 have hr8:t.rows.length≤8:=by
  obtain ⟨_,h2,_⟩:=build_ok h0
  have:=h.rows; omega
 have ha:asc (idsR t.rows)=true:=(asc_pair _).2 hh.va
 have cc:=clone64 w fw hw
 have hel2:∀e∈inE t cs,e.length≤1000000:=fun e he=>by
  obtain ⟨x,hx,rfl⟩:=List.mem_map.1 he
  rw [ixE_len]
  exact hsm.2.2 x hx
 have cv:=hsValidN (inW t w) (inE t cs) false false hel2
 have hIE:inE t cs=(edgesF (allR t cs)).map (ixE (idsR t.rows)):=rfl
 have hpv:prV t cs w=if validN (inW t w) (inE t cs)=0 then encHn false false (inW t w) (inE t cs) else .agg [.nilS,.nilS]:=by unfold prV; rw [hV]
 rw [hpv,hV]
 have hIl:(idsR t.rows).length≤1000000:=hsm.1
 have hW1:w=[]→inW t w=List.replicate t.rows.length 1:=fun e=>by rw [e]; exact inW_nil t
 have hW2:w≠[]→inW t w=w:=fun e=>inW_ne e
 obtain ⟨VE,hVE⟩:∃VE,VE=validN (inW t w) (inE t cs):=⟨_,rfl⟩
 rw [←hVE] at cv ⊢
 rw [hIE] at cv ⊢
 clear hpv hV hVE hIE hel2
 obtain ⟨I,hI⟩:∃I,I=idsR t.rows:=⟨_,rfl⟩
 obtain ⟨E,hE⟩:∃E,E=edgesF (allR t cs):=⟨_,rfl⟩
 obtain ⟨W0,hW0⟩:∃W0,W0=inW t w:=⟨_,rfl⟩
 rw [←hI,←hE] at cb hh hsm
 rw [←hI,←hE,←hW0] at cv ⊢
 rw [←hI] at ha hIl
 rw [←hE] at hel
 rw [←hW0] at hwl hW1 hW2
 obtain ⟨_,_,hes⟩:=hsm
 have hsub:=hh.sub
 have hne:=hh.ne
 clear hh hW0
 obtain ⟨n,hn⟩:∃n,n=t.rows.length:=⟨_,rfl⟩
 rw [←hn] at hl hwl hr8 hW1
 have hn2:=hn.symm
 have hrbA:∀(ws:List Int) (j:Nat) (l:List (List Nat)),∀bl∈[tcB t f g,B.cells [.nilS,.nilS],B.cells [.lst 1 false (I.map encI),.lst 1 false (E.map (L1 false))],B.buf 2 1 (ws.map encI) true,B.cells [.lst 1 false (ws.map encI),.buf 5 0 j j],B.buf 50 1 (l.map (Ln false)) false],rbB 6 bl:=fun ws j l bl hbl=>by
  simp only [List.mem_cons,List.not_mem_nil,or_false] at hbl
  rcases hbl with rfl | rfl | rfl | rfl | rfl | rfl
  ·exact htr _
  ·exact cell2_rb (by simp [rb]) (by simp [rb])
  ·exact cell2_rb (by simp [rb]) (by simp [rb])
  ·exact intB_rb _ _ _ _
  ·exact cell2_rb (by simp [rb]) (by simp [rb,rb1])
  ·exact lnB_rb _ _ _ _
 have hrbB:∀(ws:List Int) (j:Nat) (l:List (List Nat)) (q:List Nat),∀bl∈[tcB t f g,B.cells [.nilS,.nilS],B.cells [.lst 1 false (I.map encI),.lst 1 false (E.map (L1 false))],B.buf 2 1 (ws.map encI) true,B.cells [.lst 1 false (ws.map encI),.buf 5 0 j j],B.buf 50 1 (l.map (Ln false)) false]++[B.buf 3 1 (q.map eN) false],rbB 7 bl:=fun ws j l q bl hbl=>by
  rcases List.mem_append.1 (show bl∈([tcB t f g,B.cells [.nilS,.nilS],B.cells [.lst 1 false (I.map encI),.lst 1 false (E.map (L1 false))],B.buf 2 1 (ws.map encI) true,B.cells [.lst 1 false (ws.map encI),.buf 5 0 j j],B.buf 50 1 (l.map (Ln false)) false])++[B.buf 3 1 (q.map eN) false] from hbl) with h9 | h9
  ·exact rbBM (by omega) (hrbA ws j l bl h9)
  ·rw [List.mem_singleton] at h9; subst h9; exact nat_rb _ _ _ _
 have hrbW:∀(ws:List Int) (i:Nat),∀bl∈[tcB t f g,B.cells [.nilS,.nilS],B.cells [.lst 1 false (I.map encI),.lst 1 false (E.map (L1 false))],B.buf 2 1 (ws.map encI) false,B.cells [.buf 3 0 i i,.nilS]],rbB 5 bl:=fun ws i bl hbl=>by
  simp only [List.mem_cons,List.not_mem_nil,or_false] at hbl
  rcases hbl with rfl | rfl | rfl | rfl | rfl
  ·exact htr _
  ·exact cell2_rb (by simp [rb]) (by simp [rb])
  ·exact cell2_rb (by simp [rb]) (by simp [rb])
  ·exact intB_rb _ _ _ _
  ·exact cell2_rb (by simp [rb,rb1]) (by simp [rb])
 simp only [encTb,LS,LR,LCn,encH,L1,LL] at cb
 simp only [L1] at cc
 simp only [encHn,L1,LLn,List.map_map] at cv
 have hedge:∀(j:Nat),j<E.length→True:=fun _ _=>trivial
 by_cases hw0:w=[]
 case' pos =>
  have hW:=hW1 hw0
  subst hw0
  refine conP_of_conH (conH_of_W tok Tryz.func13 rfl rfl ?_)
  refine wx ?_
  simp -implicitDefEqProofs -dsimp [Tryz.f13,List.replicate,encTb,LS,LR,LCn,L1]
  refine (callP (cb) (by simp)).mono ?_
  rintro r H' ⟨rfl,rfl⟩
  simp -implicitDefEqProofs -dsimp [L1]
  refine (callO cc (by simp)).mono ?_
  rintro r H' ⟨e,z,xs,rfl,rfl,_,rfl,rfl,rfl⟩
  simp -implicitDefEqProofs -dsimp [htB,L1]
  refine lw_of (W_loopM 58 [19,22,23,42,43,50,51,52,53,54,55,56,57] (by simp [mB]<;>rfl) (σ:=Nat) (fun i=>i≤n) (fun i=>n - i) (fun i=>[(50,.int .i64 i)]) (fun i=>[tcB t f g,B.cells [.nilS,.nilS],B.cells [.lst 1 false (I.map encI),.lst 1 false (E.map (L1 false))],B.buf 2 1 (((List.replicate n (1:Int)).take i).map encI) false,B.cells [.buf 3 0 i i,.nilS]]) 0 (by omega) (by simp [hn2]) (by simp) (by simp) ?_)
  intro i hi N Q hN hQ
  by_cases hb:i<n
  ·have hst:=rep_take n i hb
   have htl:((List.replicate n (1:Int)).take i).length=i:=by simp; omega
   obtain ⟨l,hle⟩:∃l,l=(List.replicate n (1:Int)).take i:=⟨_,rfl⟩
   rw [←hle] at hst htl ⊢
   refine wx ?_
   simp -implicitDefEqProofs -dsimp [hb,hn2,htl,cap8 i (by omega),wrapN i (by omega),wrapS i (by omega),L1]
   refine hN (i+1) _ _ (by omega) (by omega) (by simp [hn2]) ⟨[],by simp [hst,encI]⟩ (by simp) (hrbW _ _)
  obtain rfl:i=n:=by omega
  have hWt:(List.replicate i (1:Int)).take i=W0:=by rw [hW,List.take_of_length_le (by simp)]
  rw [hWt]
  refine wx ?_
  simp -implicitDefEqProofs -dsimp [hb,hn2,L1]
  refine hQ _ _ _ ?_
  simp -implicitDefEqProofs -dsimp [L1]
 case' neg =>
  have hW:=hW2 hw0
  have hwl2:w.length=n:=hl.resolve_left hw0
  have hl3:=List.length_pos_iff.2 hw0
  have hn0:0<n:=by omega
  refine conP_of_conH (conH_of_W tok Tryz.func13 rfl rfl ?_)
  refine wx ?_
  simp -implicitDefEqProofs -dsimp [Tryz.f13,List.replicate,encTb,LS,LR,LCn,L1]
  refine (callP (cb) (by simp)).mono ?_
  rintro r H' ⟨rfl,rfl⟩
  simp -implicitDefEqProofs -dsimp [hwl2,hn2,hn0,hw0,show (0:Int)<(n:Int) by omega,show ¬n=0 by omega,show ¬(n:Int)=0 by omega,L1]
  refine (callO cc (by simp)).mono ?_
  rintro r H' ⟨e,z,xs,rfl,rfl,_,rfl,rfl,rfl⟩
  simp -implicitDefEqProofs -dsimp [htB,hwl2,hw0,show ¬n=0 by omega,show ¬(n:Int)=0 by omega,L1]
  rw [←hW]
 all_goals
  refine lw_of (W_frzC 3 [] 4 [0] rfl rfl (by simp) (by simp [hwl]) (W_ownC 50 1 [] 4 [1] rfl (by simp) (by simp) (W_loopM 90 [12,13,15,16,17,19,22,23,42,43,61,62,63,64,65,66,67,68,69,70,71,72,73,74,75,76,77,78,79,80,81,82,83,84,85,86,87,88,89] (by simp [mB]<;>rfl) (σ:=Nat) (fun j=>j≤E.length) (fun j=>E.length - j) (fun j=>[(61,.int .i64 j)]) (fun j=>[tcB t f g,B.cells [.nilS,.nilS],B.cells [.lst 1 false (I.map encI),.lst 1 false (E.map (L1 false))],B.buf 2 1 (W0.map encI) true,B.cells [.lst 1 false (W0.map encI),.buf 5 0 j j],B.buf 50 1 (((E.take j).map (ixE I)).map (Ln false)) false]) 0 (by omega) (by simp) (by simp) (by simp) ?_)))
  intro j hj N2 Q2 hN2 hQ2
  have hjl:((E.take j).map (ixE I)).length=j:=by simp; omega
  by_cases hjb:j<E.length
  ·have hst:=ix_take (I:=I) hjb
   have he1:=hes _ (List.getElem_mem hjb)
   have he2:=hne _ (List.getElem_mem hjb)
   have he3:=hsub _ (List.getElem_mem hjb)
   obtain ⟨e,hee⟩:∃e,e=E[j]:=⟨_,rfl⟩
   rw [←hee] at hst he1 he2 he3
   obtain ⟨P,hP⟩:∃P,P=(E.take j).map (ixE I):=⟨_,rfl⟩
   rw [←hP] at hst hjl ⊢
   refine wx ?_
   simp -implicitDefEqProofs -dsimp [hjb,hee.symm,L1]
   refine lw_of (W_own 3 1 [13] (by simp) (W_loopM 83 [13,15,16,17,67,68,69,70,71,72,73,74,75,76,77,78,79,80,81,82] (by simp [mB]<;>rfl) (σ:=Nat) (fun k=>k≤e.length) (fun k=>e.length - k) (fun k=>[(67,.int .i64 k),(13,.buf 6 0 k k)]) (fun k=>[tcB t f g,B.cells [.nilS,.nilS],B.cells [.lst 1 false (I.map encI),.lst 1 false (E.map (L1 false))],B.buf 2 1 (W0.map encI) true,B.cells [.lst 1 false (W0.map encI),.buf 5 0 j j],B.buf 50 1 (P.map (Ln false)) false]++[B.buf 3 1 ((ixE I (e.take k)).map eN) false]) 0 (by omega) (by simp) (by simp [ixE]) (by simp) ?_))
   intro k hk N3 Q3 hN3 hQ3
   have hkl:(ixE I (e.take k)).length=k:=by rw [ixE_len]; simp; omega
   simp only [List.cons_append,List.nil_append]
   by_cases hkb:k<e.length
   ·have hst2:=ixE_succ (I:=I) hkb
    have hin:=he3 _ (List.getElem_mem hkb)
    obtain ⟨x,hx⟩:∃x,x=e[k]:=⟨_,rfl⟩
    rw [←hx] at hst2 hin
    have cs2:=bsearch64 I x false hIl
    simp only [L1] at cs2
    obtain ⟨p,hp⟩:∃p,p=bsP I x:=⟨_,rfl⟩
    rw [←hp] at hst2 cs2
    obtain ⟨q,hq⟩:∃q,q=ixE I (e.take k):=⟨_,rfl⟩
    rw [←hq] at hst2 hkl ⊢
    refine wx ?_
    simp -implicitDefEqProofs -dsimp [hkb,hx.symm,encI,L1]
    refine (callP (cs2) (by simp)).mono ?_
    rintro r H' ⟨rfl,rfl⟩
    simp -implicitDefEqProofs -dsimp [hkl,cap8 k (by omega),wrapN k (by omega),wrapS k (by omega),L1]
    refine hN3 (k+1) _ _ (by omega) (by omega) (by simp) ⟨[],by simp [hst2,eN]⟩ (by simp) (hrbB _ _ _ _)
   ·obtain rfl:k=e.length:=by omega
    rw [List.take_length] at hkl ⊢
    obtain ⟨q,hq⟩:∃q,q=ixE I e:=⟨_,rfl⟩
    rw [←hq] at hst hkl ⊢
    refine W_frz 6 [13] rfl (by simp [hkl]) ?_
    refine wx ?_
    simp -implicitDefEqProofs -dsimp [hkb,L1]
    refine hQ3 _ _ _ ?_
    simp -implicitDefEqProofs -dsimp [hjl,cap24 j (by omega),wrapN j (by omega),wrapS j (by omega),L1]
    refine hN2 (j+1) _ _ (by omega) (by omega) (by simp) ⟨[B.buf 3 1 (q.map eN) true],by simp [hst,Ln]⟩ (by simp) (hrbA _ _ _)
  ·obtain rfl:j=E.length:=by omega
   rw [List.take_length]
   refine W_frzC 5 [] 4 [1] rfl rfl (by simp) (by simp) ?_
   refine wx ?_
   simp -implicitDefEqProofs -dsimp [hjb,L1]
   refine hQ2 _ _ _ ?_
   simp -implicitDefEqProofs -dsimp [L1]
   refine (callP (cv) (by simp)).mono ?_
   rintro r H' ⟨rfl,rfl⟩
   by_cases hz:VE=0
   ·subst hz
    rw [if_pos rfl]
    simp -implicitDefEqProofs -dsimp [L1]
    simp [encHn,L1,LLn]
   ·rw [if_neg hz]
    simp -implicitDefEqProofs -dsimp [hz,L1]
def encC4 (f f2 f3:Bool) (x:Rcp) (rs:List Rul) (ws:List Int):V:=.agg [.int .u8 x.a,.int .u8 x.gap,.lst 1 f (x.rows.map LU),.lst 10 f2 (rs.map encRul),.lst 1 f3 (ws.map encU)]
def ofT (x:Rcp):Tb:=if x.rows.length≤6 then tbOf x else ⟨ByteArray.empty,[],[]⟩
def ofL4 (x:Rcp) (rs:List Rul):List Cn:=if rs.all cnOk=true then rs.map (cnOf (ofT x).attrs.length) else []
def ofB4 (x:Rcp) (rs:List Rul):Bool:=decide (x.rows.length≤6)&&rs.all cnOk&&decide (rs.length≤4)
structure C4Ok (x:Rcp) (rs:List Rul) (ws:List Int):Prop where
 a:0≤x.a∧x.a<256
 gap:0≤x.gap
 len:∀r∈x.rows,r.length≤9223372036854775807
 rl:rs.length≤1048576
 r:∀r∈rs,RulOk r
 w:∀c∈ws,0≤c∧c<256
theorem wOf_zero (ws:List Int):wOf 0 ws=[]:=by unfold wOf; split<;>rfl
theorem wOf_succ {ws:List Int} (h:0<ws.length) (i:Nat):wOf (i+1) ws=wOf i ws++[1+(ws.getD (i % ws.length) 0).tmod 20]:=by
 have h0:ws≠[]:=List.length_pos_iff.1 h
 unfold wOf
 rw [if_neg h0,if_neg h0,List.range_succ,List.map_append]
 rfl
theorem wOf_nil (n:Nat):wOf n []=[]:=by unfold wOf; rw [if_pos rfl]
theorem wOf_len2 {ws:List Int} (h:0<ws.length) (i:Nat):(wOf i ws).length=i:=by
 unfold wOf
 rw [if_neg (List.length_pos_iff.1 h)]
 simp
theorem le_tb0:Le (.agg [.str ByteArray.empty,.nilS,.nilS]) (encTb false false ⟨ByteArray.empty,[],[]⟩):=.agg _ _ rfl (fun i c d h3 h4=>by
 match i with
 | 0=>simp at h3 h4; subst h3; subst h4; exact .refl _
 | 1=>simp [LS] at h3 h4; subst h3; subst h4; exact .nil _ _
 | 2=>simp [LR] at h3 h4; subst h3; subst h4; exact .nil _ _
 | n+3=>simp at h3)
theorem le_tup4 {a b c d a' b' c' d':V} (h1:Le a a') (h2:Le b b') (h3:Le c c') (h4:Le d d'):Le (.tup [a,b,c,d]) (.tup [a',b',c',d']):=.tup _ _ rfl (fun i x y hx hy=>by
 match i with
 | 0=>simp at hx hy; subst hx; subst hy; exact h1
 | 1=>simp at hx hy; subst hx; subst hy; exact h2
 | 2=>simp at hx hy; subst hx; subst hy; exact h3
 | 3=>simp at hx hy; subst hx; subst hy; exact h4
 | n+4=>simp at hx)
theorem u8_mod {c:Int} (h:0≤c∧c<256):IntKind.u8.wrap (c.tmod 20)=c.tmod 20∧IntKind.i64.wrap (c.tmod 20)=c.tmod 20∧IntKind.i64.wrap (1+c.tmod 20)=1+c.tmod 20:=by
 have a1:=Int.tmod_nonneg 20 h.1
 have a2:=Int.tmod_lt_of_pos c (show (0:Int)<20 by omega)
 refine ⟨by rw [IntKind.wrap_u8]; omega,wrap64 (by omega) (by omega),wrap64 (by omega) (by omega)⟩
theorem of_41 (x:Rcp) (rs:List Rul) (ws:List Int) (f f2 f3:Bool) (h:C4Ok x rs ws):ConP Tryz.prog 11 [encC4 f f2 f3 x rs ws] fun r=>r = .tup [encTb false false (ofT x),LCn false (ofL4 x rs),L1 false (wOf (ofT x).rows.length ws),.bool (ofB4 x rs)]:=by
 have c1:=table03 x f h.a h.gap h.len
 by_cases h6:x.rows.length≤6
 case neg =>
  have hT:ofT x=⟨ByteArray.empty,[],[]⟩:=by unfold ofT; rw [if_neg h6]
  have hB:ofB4 x rs=false:=by unfold ofB4; rw [decide_eq_false h6]; rfl
  have hrl:=h.rl
  have c2:=rules37 0 rs f2 (by omega) (by omega) h.r
  rw [if_neg h6] at c1
  unfold ofL4
  rw [hT,hB]
  simp only [List.length_nil,wOf_zero,encRcp] at c1 ⊢
  by_cases hall:rs.all cnOk=true
  ·rw [if_pos hall]
   rw [show rlV 0 rs = .tup [LCn false (rs.map (cnOf 0)),.bool (decide (rs.length≤4))] from by unfold rlV; rw [if_pos hall]] at c2
   obtain ⟨b4,hb4⟩:∃b4,b4=decide (rs.length≤4):=⟨_,rfl⟩
   rw [←hb4] at c2
   obtain ⟨A,hA⟩:∃A,A=rs.map (cnOf 0):=⟨_,rfl⟩
   rw [←hA] at c2 ⊢
   refine conP_res (v:=.tup [.agg [.str ByteArray.empty,.nilS,.nilS],LCn false A,.nilS,.bool false]) ?_ (le_tup4 le_tb0 (.refl _) (.nil _ _) (.refl _)) (by simp)
   simp only [LCn] at c2 ⊢
   refine conP_of_conH (conH_of_W tok Tryz.func11 rfl rfl ?_)
   refine wx ?_
   simp -implicitDefEqProofs -dsimp [Tryz.f11,List.replicate,encC4]
   refine (callP (c1) (by simp)).mono ?_
   rintro r H' ⟨rfl,rfl⟩
   simp -implicitDefEqProofs -dsimp []
   refine (callP (c2) (by simp)).mono ?_
   rintro r H' ⟨rfl,rfl⟩
   simp -implicitDefEqProofs -dsimp []
   refine lw_of (W_loopM 55 [10,11,12,15,18,24,27,28,29,30,31,32,33,34,35,36,37,38,39,40,41,42,43,44,45,46,47,48,49,50,51,52,53,54] (by simp [mB]<;>rfl) (σ:=Unit) (fun _=>True) (fun _=>0) (fun _=>[(11,.int .i64 0),(10,.nilS)]) (fun _=>[B.cells [.int .u8 x.a,.int .u8 x.gap,.lst 1 f (x.rows.map LU),.lst 10 f2 (rs.map encRul),.lst 1 f3 (ws.map encU)],B.cells [.str ByteArray.empty,.nilS,.nilS],B.cells [.str ByteArray.empty,.nilS,.nilS]]) () trivial (by simp) (by simp) (by simp) ?_)
   rintro ⟨⟩ _ N Q hN hQ
   refine wx ?_
   simp -implicitDefEqProofs -dsimp []
   refine hQ _ _ _ ?_
   simp -implicitDefEqProofs -dsimp []
  ·rw [if_neg hall]
   rw [show rlV 0 rs = .tup [.nilS,.bool false] from by unfold rlV; rw [if_neg hall]] at c2
   refine conP_res (v:=.tup [.agg [.str ByteArray.empty,.nilS,.nilS],.nilS,.nilS,.bool false]) ?_ (le_tup4 le_tb0 (.nil _ _) (.nil _ _) (.refl _)) (by simp)
   refine conP_of_conH (conH_of_W tok Tryz.func11 rfl rfl ?_)
   refine wx ?_
   simp -implicitDefEqProofs -dsimp [Tryz.f11,List.replicate,encC4]
   refine (callP (c1) (by simp)).mono ?_
   rintro r H' ⟨rfl,rfl⟩
   simp -implicitDefEqProofs -dsimp []
   refine (callP (c2) (by simp)).mono ?_
   rintro r H' ⟨rfl,rfl⟩
   simp -implicitDefEqProofs -dsimp []
   refine lw_of (W_loopM 55 [10,11,12,15,18,24,27,28,29,30,31,32,33,34,35,36,37,38,39,40,41,42,43,44,45,46,47,48,49,50,51,52,53,54] (by simp [mB]<;>rfl) (σ:=Unit) (fun _=>True) (fun _=>0) (fun _=>[(11,.int .i64 0),(10,.nilS)]) (fun _=>[B.cells [.int .u8 x.a,.int .u8 x.gap,.lst 1 f (x.rows.map LU),.lst 10 f2 (rs.map encRul),.lst 1 f3 (ws.map encU)],B.cells [.str ByteArray.empty,.nilS,.nilS],B.cells [.str ByteArray.empty,.nilS,.nilS]]) () trivial (by simp) (by simp) (by simp) ?_)
   rintro ⟨⟩ _ N Q hN hQ
   refine wx ?_
   simp -implicitDefEqProofs -dsimp []
   refine hQ _ _ _ ?_
   simp -implicitDefEqProofs -dsimp []
 case pos =>
 have hT:ofT x=tbOf x:=by unfold ofT; rw [if_pos h6]
 rw [if_pos h6] at c1
 have hxo:RcpOk x:=⟨h.a,h.gap,h6,h.len⟩
 have hw:=(tbC (tbOf_ok hxo).2).wide
 have hrl:=h.rl
 have hrr:=tbOf_rows x
 have c2:=rules37 (tbOf x).attrs.length rs f2 hw (by omega) h.r
 have hB:ofB4 x rs=(rs.all cnOk&&decide (rs.length≤4)):=by unfold ofB4; rw [decide_eq_true h6,Bool.true_and]
 unfold ofL4
 rw [hT,hB]
 obtain ⟨t,ht⟩:∃t,t=tbOf x:=⟨_,rfl⟩
 rw [←ht] at c1 c2 hw hrr ⊢
 have htr:∀n,rbB n (tcB t false false):=fun n=>tcB_rb n t false false
 have htB:B.cells [.str t.name,.lst 1 false (t.attrs.map V.str),.lst 2 false (t.rows.map encRw)]=tcB t false false:=rfl
 have hlen6:t.rows.length≤6:=by omega
 have hwk:=h.w
 obtain ⟨LV1,B1,hlv,hrl2,hLe,hPu,hrbL⟩:∃(LV1:V) (B1:Bool),rlV t.attrs.length rs = .tup [LV1,.bool B1]∧B1=(rs.all cnOk&&decide (rs.length≤4))∧Le LV1 (LCn false (if rs.all cnOk=true then rs.map (cnOf t.attrs.length) else []))∧AM.Pure LV1∧(LV1 = .nilS∨∃A:List Cn,LV1 = .lst 18 false (A.map encCn)):=by
  by_cases hall:rs.all cnOk=true
  ·exact ⟨LCn false (rs.map (cnOf t.attrs.length)),decide (rs.length≤4),by unfold rlV; rw [if_pos hall],by rw [hall]; rfl,by rw [if_pos hall]; exact .refl _,by simp,.inr ⟨_,rfl⟩⟩
  ·refine ⟨.nilS,false,by unfold rlV; rw [if_neg hall],?_,by rw [if_neg hall]; exact .nil _ _,.nilS,.inl rfl⟩
   rw [Bool.eq_false_iff.2 hall]; rfl
 rw [hlv] at c2
 rw [←hrl2]
 refine conP_res (v:=.tup [encTb false false t,LV1,L1 false (wOf t.rows.length ws),.bool B1]) ?_ (le_tup4 (.refl _) hLe (.refl _) (.refl _)) (by simp)
 simp only [encRcp,encTb,LS,LR] at c1
 have hrb:∀(l:List Int),∀bl∈[B.cells [.int .u8 x.a,.int .u8 x.gap,.lst 1 f (x.rows.map LU),.lst 10 f2 (rs.map encRul),.lst 1 f3 (ws.map encU)],B.cells [.str ByteArray.empty,.nilS,.nilS],tcB t false false,B.buf 2 1 (l.map encI) false],rbB 4 bl:=fun l bl hbl=>by
  simp only [List.mem_cons,List.not_mem_nil,or_false] at hbl
  rcases hbl with rfl | rfl | rfl | rfl
  ·intro c hc; simp only [List.mem_cons,List.not_mem_nil,or_false] at hc; rcases hc with rfl | rfl | rfl | rfl | rfl<;>simp [rb,rb1]
  ·intro c hc; simp only [List.mem_cons,List.not_mem_nil,or_false] at hc; rcases hc with rfl | rfl | rfl<;>simp [rb,rb1]
  ·exact htr _
  ·exact intB_rb _ _ _ _
 rcases hrbL with rfl | ⟨A,rfl⟩
 case' inl =>
  refine conP_of_conH (conH_of_W tok Tryz.func11 rfl rfl ?_)
  refine wx ?_
  simp -implicitDefEqProofs -dsimp [Tryz.f11,List.replicate,encC4]
  refine (callP (c1) (by simp)).mono ?_
  rintro r H' ⟨rfl,rfl⟩
  simp -implicitDefEqProofs -dsimp []
  refine (callP (c2) (by simp)).mono ?_
  rintro r H' ⟨rfl,rfl⟩
  simp -implicitDefEqProofs -dsimp [htB]
 case' inr =>
  refine conP_of_conH (conH_of_W tok Tryz.func11 rfl rfl ?_)
  refine wx ?_
  simp -implicitDefEqProofs -dsimp [Tryz.f11,List.replicate,encC4]
  refine (callP (c1) (by simp)).mono ?_
  rintro r H' ⟨rfl,rfl⟩
  simp -implicitDefEqProofs -dsimp []
  refine (callP c2 (by simp)).mono ?_
  rintro r H' ⟨rfl,rfl⟩
  simp -implicitDefEqProofs -dsimp [htB]
 all_goals
  refine lw_of (W_own 2 1 [10] (by simp) (W_loopM 55 [10,11,12,15,18,24,27,28,29,30,31,32,33,34,35,36,37,38,39,40,41,42,43,44,45,46,47,48,49,50,51,52,53,54] (by simp [mB]<;>rfl) (σ:=Nat) (fun i=>i≤t.rows.length) (fun i=>t.rows.length - i) (fun i=>[(11,.int .i64 i),(10,.buf 3 0 (wOf i ws).length (wOf i ws).length)]) (fun i=>[B.cells [.int .u8 x.a,.int .u8 x.gap,.lst 1 f (x.rows.map LU),.lst 10 f2 (rs.map encRul),.lst 1 f3 (ws.map encU)],B.cells [.str ByteArray.empty,.nilS,.nilS],tcB t false false,B.buf 2 1 ((wOf i ws).map encI) false]) 0 (by omega) (by simp [wOf_zero]) (by simp [wOf_zero]) (by simp) ?_))
  intro i hi N Q hN hQ
  by_cases hw0:0<ws.length
  ·by_cases hib:i<t.rows.length
   ·have hs:=wOf_succ hw0 i
    have hl:=wOf_len2 hw0 i
    have hm:i % ws.length<ws.length:=Nat.mod_lt i hw0
    have hg:ws.getD (i % ws.length) 0=ws[i % ws.length]:=by simp [List.getD,hm]
    have hmi:((i:Int).tmod ws.length)=((i % ws.length:Nat):Int):=rfl
    have hc:=hwk _ (List.getElem_mem hm)
    obtain ⟨c,hce⟩:∃c,c=ws[i % ws.length]:=⟨_,rfl⟩
    rw [hg,←hce] at hs
    rw [←hce] at hc
    obtain ⟨m1,m2,m3⟩:=u8_mod hc
    obtain ⟨k,hk⟩:∃k,k=i % ws.length:=⟨_,rfl⟩
    have hce2:c=ws[k]'(by rw [hk]; exact hm):=by subst hk; exact hce
    have hki:k≤i:=by rw [hk]; exact Nat.mod_le _ _
    rw [←hk] at hm hmi
    obtain ⟨l,hle⟩:∃l,l=wOf i ws:=⟨_,rfl⟩
    rw [←hle] at hs hl ⊢
    refine wx ?_
    simp -implicitDefEqProofs -dsimp [hib,hw0,tcB,show (0:Int)<ws.length by omega]
    refine lw_of (W_drawT tok mixed [14] [] [] (by kernel_rfl) fun C K hC hK=>?_)
    simp -implicitDefEqProofs [hib,hw0,tcB,encU,hmi,hm,hce2.symm,m1,m2,m3,hl,cap8 i (by omega),wrapN i (by omega),wrapN k (by omega),show ¬(ws.length:Int)=0 by omega,show ¬ws.length=0 by omega]
    refine hK _ _ ?_
    simp -implicitDefEqProofs -dsimp [wrapS i (by omega)]
    refine hN (i+1) _ _ (by omega) (by omega) (by simp [hs,hl]) ⟨[],by simp [hs,encI,tcB]⟩ (by simp) (hrb _)
   ·obtain rfl:i=t.rows.length:=by omega
    refine W_frz 3 [10] rfl (by simp) ?_
    refine wx ?_
    simp -implicitDefEqProofs -dsimp [hib,hw0,tcB]
    refine hQ _ _ _ ?_
    simp -implicitDefEqProofs -dsimp [tcB]
    simp [encTb,LS,LR,L1,wOf_nil]
  ·have hws:ws=[]:=by
    match ws,hw0 with
    | [],_=>rfl
    | _::_,hq=>simp at hq
   subst hws
   rw [wOf_nil]
   refine W_frz 3 [10] rfl (by simp) ?_
   by_cases hib:i<t.rows.length
   ·refine wx ?_
    simp -implicitDefEqProofs -dsimp [hib,tcB]
    refine hQ _ _ _ ?_
    simp -implicitDefEqProofs -dsimp [tcB]
    simp [encTb,LS,LR,L1,wOf_nil]
   ·refine wx ?_
    simp -implicitDefEqProofs -dsimp [hib,tcB]
    refine hQ _ _ _ ?_
    simp -implicitDefEqProofs -dsimp [tcB]
    simp [encTb,LS,LR,L1,wOf_nil]
theorem shq_i64s {n Bd:Nat} {ws:List V} (h:ShB T Bd (n+2) 34 ws):∃xs:List Int,ws=[L1 false xs]∧xs.length≤maxLen:=by
 obtain ⟨xs,rfl,hl,hx⟩:=shq_lst h T_34 rfl T_2
 obtain ⟨l,rfl,_⟩:∃l:List Int,xs=l.map encI∧∀c∈l,True:=list_mapq fun x hxm=>by
  obtain ⟨ws,hs,_,rfl⟩:=hx x hxm
  obtain ⟨s,e1⟩:=shq_i64 hs
  subst e1
  exact ⟨s,by simp [isAggD,encI],trivial⟩
 exact ⟨l,rfl,by simpa using hl⟩
theorem shq_case4 {n Bd:Nat} (hB:Bd≤1048576) {ws:List V} (h:ShB T Bd (n+9) 28 ws):∃(x:Rcp) (rs:List Rul) (cs:List Int),.agg ws=encC4 false false false x rs cs∧C4Ok x rs cs:=by
 obtain ⟨hlen,hf⟩:=shq_fld h T_28 rfl rfl
 obtain ⟨a,b,c,d,e,rfl⟩:∃a b c d e,ws=[a,b,c,d,e]:=by
  match ws,hlen with
  | [a,b,c,d,e],_=>exact ⟨a,b,c,d,e,rfl⟩
 obtain ⟨r,e1,p1,p2,p3,p4⟩:=shq_recipe (hf 0 _ _ rfl T_24)
 obtain ⟨l,e2,q1,q2⟩:=shq_rules hB (hf 1 _ _ rfl T_25)
 obtain ⟨us,e3,u1,u2⟩:=shq_u8s (hf 2 _ _ rfl T_26)
 simp at e1 e2 e3
 obtain ⟨rfl,rfl,rfl⟩:=e1
 subst e2
 subst e3
 exact ⟨r,l,us,rfl,⟨p1,p2,p4,q1,q2,u2⟩⟩
theorem tb_rb (n:Nat) (t:Tb) (f g:Bool):rbB n (B.cells [.str t.name,.lst 1 f (t.attrs.map V.str),.lst 2 g (t.rows.map encRw)]):=tcB_rb n t f g
theorem one_rb {n:Nat} {a:V} (ha:rb n a):rbB n (.cells [a]):=fun c hc=>by
 simp only [List.mem_cons,List.not_mem_nil,or_false] at hc
 subst hc; exact ha
theorem intB4_rb (n e:Nat) (xs:List Int) (fz:Bool):rbB n (.buf e 1 (xs.map encI) fz):=fun x hx=>by
 obtain ⟨y,_,rfl⟩:=List.mem_map.1 hx
 intro c hc
 simp only [encI,V.cells,List.mem_cons,List.not_mem_nil,or_false] at hc
 subst hc
 simp [rb1]
theorem places_u (t:Tb) (D:List Int) (f g fd:Bool) (hg:TbC t) (hr:t.rows.length≤1000000) (hD:D.length≤1000000):ConP Tryz.prog 54 [encTb f g t,L1 fd D] fun r=>r=plV (idsR t.rows) D:=by
 have hmem:=fun id=>ixW_bs hg id
 obtain ⟨I,hI⟩:∃I,I=idsR t.rows:=⟨_,rfl⟩
 rw [←hI]
 rw [←hI] at hmem
 refine conP_of_conX (conH_of_W tok Tryz.func54 rfl rfl ?_)
 refine wx ?_
 simp -implicitDefEqProofs -dsimp [Tryz.f54,List.replicate,encTb,LS,LR,L1]
 refine lw_of (W_loopM 27 [4,5,6,11,12,13,14,15,16,17,18,19,20,21,22,23,24,25,26] (by simp [mB]<;>rfl) (σ:=Nat) (fun i=>1≤i∧ascFrom D i=asc D) (fun i=>D.length - i) (fun i=>[(6,.int .i64 i)]) (fun _=>[B.cells [.str t.name,.lst 1 f (t.attrs.map V.str),.lst 2 g (t.rows.map encRw)]]) 1 ⟨by omega,rfl⟩ (by simp) (by simp) (by simp) ?_)
 rintro i ⟨hi,hx⟩ N Q hN hQ
 by_cases hb:i<D.length
 ·have hb2:i - 1<D.length:=by omega
  rw [ascFrom,dif_pos hb] at hx
  obtain ⟨x,hxe⟩:∃x,x=D[i]:=⟨_,rfl⟩
  obtain ⟨y,hye⟩:∃y,y=D[i - 1]:=⟨_,rfl⟩
  rw [←hxe,←hye] at hx
  by_cases hle:x≤y
  ·rw [if_pos hle] at hx
   refine wx ?_
   simp -implicitDefEqProofs -dsimp [hb,hb2,hxe.symm,hye.symm,hle,encI,wrapP i (by omega) hi]
   refine .inr ⟨stop_of (by kernel_rfl),?_⟩
   refine hQ _ _ _ ?_
   simp -implicitDefEqProofs -dsimp []
   rw [plV_asc hx.symm]
   exact ⟨.pure _ (by simp),by simp⟩
  ·rw [if_neg hle] at hx
   refine wx ?_
   simp -implicitDefEqProofs -dsimp [hb,hb2,hxe.symm,hye.symm,hle,encI,wrapP i (by omega) hi]
   refine .inr ⟨stop_of (by kernel_rfl),?_⟩
   simp -implicitDefEqProofs -dsimp [wrapS i (by omega)]
   refine hN (i+1) _ _ ⟨by omega,hx⟩ (by omega) (by simp) ⟨[],by simp⟩ (by simp) (by simp)
 rw [ascFrom,dif_neg hb] at hx
 have h1:=hx.symm
 refine wx ?_
 simp -implicitDefEqProofs -dsimp [hb]
 refine hQ _ _ _ ?_
 simp -implicitDefEqProofs -dsimp []
 refine lw_of (W_own 3 1 [7] (by simp) (W_loopM 44 [4,5,7,9,10,29,30,31,32,33,34,35,36,37,38,39,40,41,42,43] (by simp [mB]<;>rfl) (σ:=Nat) (fun i=>i≤D.length∧∀a∈D.take i,a∈I) (fun i=>D.length - i) (fun i=>[(29,.int .i64 i),(7,.buf 1 0 i i)]) (fun i=>[B.cells [.str t.name,.lst 1 f (t.attrs.map V.str),.lst 2 g (t.rows.map encRw)],B.buf 3 1 ((ixE I (D.take i)).map eN) false]) 0 ⟨by omega,by simp⟩ (by simp) (by simp [ixE]) (by simp) ?_))
 rintro i ⟨hi,hin⟩ N2 Q2 hN2 hQ2
 have hle:(ixE I (D.take i)).length=i:=by rw [ixE_len]; simp; omega
 by_cases hb:i<D.length
 ·have hs:=ixE_succ (I:=I) hb
  have hno:=within_no (I:=I) hb
  have hti:=take_in (I:=I) hb hin
  obtain ⟨d,hd⟩:∃d,d=D[i]:=⟨_,rfl⟩
  rw [←hd] at hs hno hti
  obtain ⟨q,hq⟩:∃q,q=ixE I (D.take i):=⟨_,rfl⟩
  rw [←hq] at hs hle ⊢
  have hH3:∀bl∈[B.cells [.str t.name,.lst 1 f (t.attrs.map V.str),.lst 2 g (t.rows.map encRw)],B.buf 3 1 (q.map eN) false,B.cells [.int .i64 d]],rbB 3 bl:=fun bl hbl=>by
   simp only [List.mem_cons,List.not_mem_nil,or_false] at hbl
   rcases hbl with rfl | rfl | rfl
   ·exact tb_rb _ _ _ _
   ·exact nat_rb _ _ _ _
   ·exact one_rb (by simp [rb,rb1])
  have hcl:∀m∈t.rows,WCall Tryz.prog (.fn 97 [.ptr 2 0]) [encRw m] [B.cells [.str t.name,.lst 1 f (t.attrs.map V.str),.lst 2 g (t.rows.map encRw)],B.buf 3 1 (q.map eN) false,B.cells [.int .i64 d]] fun r H'=>r = .bool (decide (m.id=d))∧H'=[B.cells [.str t.name,.lst 1 f (t.attrs.map V.str),.lst 2 g (t.rows.map encRw)],B.buf 3 1 (q.map eN) false,B.cells [.int .i64 d]]:=fun m _=>by
   simp only [WCall,List.cons_append,List.nil_append]
   refine conH_cut1 ?_ (by simp [rb,rb1]) hH3
   by_cases hm:m.id=d
   ·rw [decide_eq_true hm]
    refine conH_of_W tok Tryz.func97 rfl rfl ?_
    refine wx ?_
    simp -implicitDefEqProofs -dsimp [Tryz.f97,List.replicate,encRw,LV,hm]
   ·rw [decide_eq_false hm]
    refine conH_of_W tok Tryz.func97 rfl rfl ?_
    refine wx ?_
    simp -implicitDefEqProofs -dsimp [Tryz.f97,List.replicate,encRw,LV,hm]
  have hcf:=idxFuncW [B.cells [.str t.name,.lst 1 f (t.attrs.map V.str),.lst 2 g (t.rows.map encRw)],B.buf 3 1 (q.map eN) false,B.cells [.int .i64 d]] (.fn 97 [.ptr 2 0]) (fun m=>decide (m.id=d)) t.rows g hr hH3 (by simp [rb,rb1]) hcl
  rw [hmem] at hcf
  simp only [LR] at hcf
  cases hm:memB I d with
  | false =>
   rw [hm] at hcf
   simp only [Bool.false_eq_true,if_false] at hcf
   refine wx ?_
   simp -implicitDefEqProofs -dsimp [hb,hd.symm,encI]
   refine wc_of hcf ?_
   rintro _ _ ⟨rfl,rfl⟩
   simp -implicitDefEqProofs -dsimp []
   refine hQ2 _ _ _ ?_
   simp -implicitDefEqProofs -dsimp []
   rw [plV_no h1 (hno hm)]
   exact ⟨.pure _ (by simp),by simp⟩
  | true =>
   rw [hm] at hcf
   simp only [if_true] at hcf
   obtain ⟨p,hp⟩:∃p,p=bsP I d:=⟨_,rfl⟩
   rw [←hp] at hs hcf
   refine wx ?_
   simp -implicitDefEqProofs -dsimp [hb,hd.symm,encI]
   refine wc_of hcf ?_
   rintro _ _ ⟨rfl,rfl⟩
   simp -implicitDefEqProofs -dsimp [hle,show ¬((p:Int)<0) by omega,cap8 i (by omega),wrapN i (by omega),wrapS i (by omega)]
   refine hN2 (i+1) _ _ ⟨by omega,hti hm⟩ (by omega) (by simp) ⟨[B.cells [.int .i64 d]],by simp [hs,eN]⟩ (by simp) (fun bl hbl=>?_)
   simp only [List.mem_cons,List.not_mem_nil,or_false] at hbl
   rcases hbl with rfl | rfl
   ·exact tb_rb _ _ _ _
   ·exact nat_rb _ _ _ _
 ·obtain rfl:i=D.length:=by omega
  rw [List.take_length] at hle ⊢
  refine wx ?_
  simp -implicitDefEqProofs -dsimp [hb]
  refine hQ2 _ _ _ ?_
  simp -implicitDefEqProofs -dsimp []
  rw [plV_yes h1 (within_all hin)]
  exact ⟨expx_pairS (expx_buf rfl (by rw [List.length_map,hle]) (by simp [eN])) (.pure _ (by simp)),by simp [Ln_pure]⟩
theorem hits_u (I:List Int) (E:List (List Int)) (D:List Int) (f g fd:Bool) (hs:Small I E) (hD:D.length≤1000000):ConP Tryz.prog 71 [encH f g I E,L1 fd D] fun r=>r = .bool (hitB E D):=by
 obtain ⟨hv,he,hes⟩:=hs
 have hrb:∀bl∈[B.cells [L1 f I,LL g E],B.cells [L1 fd D]],rbB 2 bl:=fun bl hbl=>by
  simp only [List.mem_cons,List.not_mem_nil,or_false] at hbl
  rcases hbl with rfl | rfl
  ·intro c hc
   simp only [List.mem_cons,List.not_mem_nil,or_false] at hc
   rcases hc with rfl | rfl<;>exact pure_rb (by simp) rfl
  ·exact one_rb (pure_rb (by simp) rfl)
 have hin:∀a,WCall Tryz.prog (.fn 119 [.ptr 1 0]) [.int .i64 a] [B.cells [L1 f I,LL g E],B.cells [L1 fd D]] fun r H'=>r = .bool (memB D a)∧H'=[B.cells [L1 f I,LL g E],B.cells [L1 fd D]]:=fun a=>by
  have hc:=contains64 D a fd hD
  simp only [WCall,List.cons_append,List.nil_append]
  refine conH_of_W tok Tryz.func119 rfl rfl ?_
  refine wx ?_
  simp -implicitDefEqProofs -dsimp [Tryz.f119,List.replicate]
  refine (callP (hc) (by simp)).mono ?_
  rintro r H' ⟨rfl,rfl⟩
  simp -implicitDefEqProofs -dsimp []
 have hmid:∀m∈E,WCall Tryz.prog (.fn 118 [.ptr 1 0]) [L1 false m] [B.cells [L1 f I,LL g E],B.cells [L1 fd D]] fun r H'=>r = .bool (!(m.any fun a=>memB D a))∧H'=[B.cells [L1 f I,LL g E],B.cells [L1 fd D]]:=fun m hm=>by
  have hcf:=contFunc64 [B.cells [L1 f I,LL g E],B.cells [L1 fd D]] (.fn 119 [.ptr 1 0]) (fun a=>memB D a) m false (hes m hm) hrb (by simp [rb,rb1]) (fun a _=>hin a)
  simp only [WCall,List.cons_append,List.nil_append]
  refine conH_of_W tok Tryz.func118 rfl rfl ?_
  refine wx ?_
  simp -implicitDefEqProofs -dsimp [Tryz.f118,List.replicate]
  refine wc_of hcf ?_
  rintro _ _ ⟨rfl,rfl⟩
  simp -implicitDefEqProofs -dsimp []
 have hcf:=contFunc [B.cells [L1 f I,LL g E],B.cells [L1 fd D]] (.fn 118 [.ptr 1 0]) (fun m=>!(m.any fun a=>memB D a)) E g he hrb (by simp [rb,rb1]) hmid
 have hEq:hitB E D = !(E.any fun m=>!(m.any fun a=>memB D a)):=by
  unfold hitB
  rw [List.all_eq_not_any_not]
 rw [hEq]
 refine conP_of_conH (conH_of_W tok Tryz.func71 rfl rfl ?_)
 refine wx ?_
 simp -implicitDefEqProofs -dsimp [Tryz.f71,List.replicate,encH]
 refine wc_of hcf ?_
 rintro _ _ ⟨rfl,rfl⟩
 simp -implicitDefEqProofs -dsimp []
section
theorem enc_len (xs:List Int):(xs.map encI).length=xs.length:=by simp
theorem enc_get {xs:List Int} {i:Nat} (h:i<(xs.map encI).length):(xs.map encI)[i] = .int .i64 (xs.getD i 0):=by
 have h2:i<xs.length:=by simpa using h
 simp [encI,h2]
theorem enc_set (xs:List Int) (i:Nat) (v:Int):(xs.map encI).set i (.int .i64 v)=(xs.set i v).map encI:=by
 rw [List.map_set]; rfl
theorem enc_fill (ys:List Int) (k n:Nat) (hn:ys.length=n):List.take k (ys.map encI)++(List.replicate (n - k) (V.int .i64 0)++List.drop n (ys.map encI))=(ys.take k++List.replicate (n - k) 0).map encI:=by
 rw [List.drop_of_length_le (by simp; omega),List.append_nil,List.map_append,List.map_take,List.map_replicate]
 rfl
def IB (H:List B) (k0:Nat) (xs:List Int):List B:=H.set k0 (.buf 2 1 (xs.map encI) false)
section
variable {H:List B} {k0:Nat}
theorem IB_at (h:k0<H.length) (xs:List Int):(IB H k0 xs)[k0]?=some (.buf 2 1 (xs.map encI) false):=by
 unfold IB; rw [List.getElem?_set_self h]
theorem IB_set (xs xs':List Int):(IB H k0 xs).set k0 (.buf 2 1 (xs'.map encI) false)=IB H k0 xs':=by
 unfold IB; rw [List.set_set]
theorem IB_len (xs:List Int):(IB H k0 xs).length=H.length:=by simp [IB]
theorem IB_rb (hH:∀bl∈H,rbB H.length bl) (xs:List Int):∀bl∈IB H k0 xs,rbB (IB H k0 xs).length bl:=rbs_set hH (intB4_rb _ _ _ _)
theorem idxFuncI (hk0:k0<H.length) (hH:∀bl∈H,rbB H.length bl) (fv:V) (p:Int→Bool) (e:List Int) (m:Nat) (hm:e.length=m) (hes:m≤1000000) (hfv:rb H.length fv)
  (hp:∀(v:Int) (ys:List Int),WCall Tryz.prog fv [.int .i64 v] (IB H k0 ys) fun r H'=>r = .bool (p v)∧H'=IB H k0 ys):ConH Tryz.prog 120 [.buf k0 0 m m,fv] (IB H k0 e) fun r H'=>r = .int .i64 (ixG p e 0)∧H'=IB H k0 e:=by
 have hk:=IB_at (H:=H) hk0 e
 have hnl:=(enc_len e).trans hm
 have hkl:=IB_len (H:=H) (k0:=k0) e
 have hrb:=IB_rb (k0:=k0) hH e
 have hcall:=fun v=>hp v e
 obtain ⟨HH,hHH⟩:∃HH,HH=IB H k0 e:=⟨_,rfl⟩
 rw [←hHH] at hk hkl hrb hcall ⊢
 refine conH_of_W tok Tryz.func120 rfl rfl ?_
 refine wx ?_
 simp -implicitDefEqProofs -dsimp [Tryz.f120,List.replicate,hk,hnl]
 refine lw_of (W_loopM 19 [4,5,8,9,10,11,12,13,14,15,16,17,18] (by simp [mB]<;>rfl) (σ:=Nat) (fun i=>ixG p e i=ixG p e 0) (fun i=>m - i) (fun i=>[(8,.int .i64 i)]) (fun _=>HH) 0 rfl (by simp) rfl (by simp) ?_)
 intro i hx N Q hN hQ
 by_cases hb:i<m
 ·have hbe:i<e.length:=by omega
  rw [ixG,dif_pos hbe] at hx
  have hat:=fun h=>enc_get (xs:=e) (i:=i) h
  have hge:e.getD i 0=e[i]:=by simp [hbe]
  rw [hge] at hat
  obtain ⟨v,hv⟩:∃v,v=e[i]:=⟨_,rfl⟩
  rw [←hv] at hat hx
  have hc:=hcall v
  cases hq:p v
  ·rw [hq] at hc hx
   refine wx ?_
   simp -implicitDefEqProofs -dsimp [hb,hk,hnl,hat]
   refine hc.mono ?_
   rintro r H' ⟨rfl,rfl⟩
   simp -implicitDefEqProofs -dsimp [wrapS i (by omega)]
   refine hN (i+1) _ _ (by simpa using hx) (by omega) (by simp) ⟨[],by simp⟩ (by simp [hkl,hk0]; exact hfv) hrb
  ·rw [hq] at hc hx
   refine wx ?_
   simp -implicitDefEqProofs -dsimp [hb,hk,hnl,hat]
   refine hc.mono ?_
   rintro r H' ⟨rfl,rfl⟩
   simp -implicitDefEqProofs -dsimp []
   refine hQ _ _ _ ?_
   simp -implicitDefEqProofs -dsimp []
   simpa using hx
 ·rw [ixG,dif_neg (by omega)] at hx
  refine wx ?_
  simp -implicitDefEqProofs -dsimp [hb]
  refine hQ _ _ _ ?_
  simp -implicitDefEqProofs -dsimp []
  simpa using hx
theorem ixG_no {p:Int→Bool} {e:List Int} (i:Nat):ixG p e i = -1→(e.drop i).filter (fun x=>!p x)=e.drop i:=by
 fun_induction ixG p e i with
 | case1 i h h0=>intro hh; omega
 | case2 i h h0 ih =>
  intro hh
  rw [List.drop_eq_getElem_cons h,List.filter_cons_of_pos (by simp [h0]),ih hh]
 | case3 i h=>intro _; rw [List.drop_of_length_le (by omega)]; rfl
theorem ixG_yes {p:Int→Bool} {e:List Int} (i:Nat):ixG p e i≠-1→∃j:Nat,ixG p e i=(j:Int)∧i≤j∧∃h:j<e.length,p e[j]=true∧((e.take j).drop i).filter (fun x=>!p x)=(e.take j).drop i:=by
 fun_induction ixG p e i with
 | case1 i h h0=>intro hh; exact ⟨i,rfl,Nat.le_refl _,h,h0,by rw [List.drop_of_length_le (by simp; omega)]; rfl⟩
 | case2 i h h0 ih =>
  intro hh
  obtain ⟨j,h1,h2,h3,h4,h5⟩:=ih hh
  refine ⟨j,h1,by omega,h3,h4,?_⟩
  have hl:i<(e.take j).length:=by simp; omega
  rw [List.drop_eq_getElem_cons hl,List.filter_cons_of_pos (by simp [h0]),h5]
 | case3 i h=>intro hh; exact absurd rfl hh
structure DfI (q:Int→Bool) (xs ys:List Int) (i j:Nat):Prop where
 lt:i<j
 len:ys.length=xs.length
 tk:ys.take i=(xs.take j).filter q
 il:i=((xs.take j).filter q).length
 hi:∀k,j≤k→ys.getD k 0=xs.getD k 0
theorem DfI.start {q:Int→Bool} {xs:List Int} {j:Nat} (h:j<xs.length) (hq:q xs[j]=false) (hf:(xs.take j).filter q=xs.take j):DfI q xs xs j (j+1):=by
 have e1:(xs.take (j+1)).filter q=xs.take j:=by
  rw [List.take_succ_eq_append_getElem h,List.filter_append,hf,List.filter_cons_of_neg (by simp [hq])]
  simp
 exact ⟨by omega,rfl,by rw [e1],by rw [e1]; simp; omega,fun _ _=>rfl⟩
theorem DfI.skip {q:Int→Bool} {xs ys:List Int} {i j:Nat} (h:DfI q xs ys i j) (hj:j<xs.length) (hq:q xs[j]=false):DfI q xs ys i (j+1):=by
 have e1:(xs.take (j+1)).filter q=(xs.take j).filter q:=by
  rw [List.take_succ_eq_append_getElem hj,List.filter_append,List.filter_cons_of_neg (by simp [hq])]
  simp
 exact ⟨by have:=h.lt; omega,h.len,by rw [e1]; exact h.tk,by rw [e1]; exact h.il,fun k hk=>h.hi k (by omega)⟩
theorem DfI.keep {q:Int→Bool} {xs ys:List Int} {i j:Nat} (h:DfI q xs ys i j) (hj:j<xs.length) (hq:q xs[j]=true):DfI q xs (ys.set i xs[j]) (i+1) (j+1):=by
 have h1:=h.lt
 have h2:=h.len
 have e1:(xs.take (j+1)).filter q=(xs.take j).filter q++[xs[j]]:=by
  rw [List.take_succ_eq_append_getElem hj,List.filter_append,List.filter_cons_of_pos (by simp [hq])]
  rfl
 have hi:i<(ys.set i xs[j]).length:=by simp; omega
 refine ⟨by omega,by simp [h2],?_,by rw [e1]; have:=h.il; simp; omega,fun k hk=>?_⟩
 ·rw [e1,←h.tk,List.take_succ_eq_append_getElem hi,List.take_set_of_le (by omega),List.getElem_set_self]
 ·rw [←h.hi k (by omega)]
  simp only [List.getD_eq_getElem?_getD]
  rw [List.getElem?_set_ne (by omega)]
theorem DfI.done {q:Int→Bool} {xs ys:List Int} {i j:Nat} (h:DfI q xs ys i j) (hj:j=xs.length):ys.take i=xs.filter q∧i=(xs.filter q).length:=by
 have h1:=h.tk
 have h2:=h.il
 subst hj
 rw [List.take_length] at h1 h2
 exact ⟨h1,h2⟩
theorem deleteFunc_h (hk0:k0<H.length) (hH:∀bl∈H,rbB H.length bl) (fv:V) (p:Int→Bool) (xs:List Int) (n:Nat) (hn:xs.length=n) (hn2:n≤1000000) (hfv:rb H.length fv)
  (hp:∀(v:Int) (ys:List Int),WCall Tryz.prog fv [.int .i64 v] (IB H k0 ys) fun r H'=>r = .bool (p v)∧H'=IB H k0 ys) :
  ConH Tryz.prog 121 [.buf k0 0 n n,fv] (IB H k0 xs) fun r H'=>r = .buf k0 0 (xs.filter fun x=>!p x).length n∧H'=IB H k0 ((xs.filter fun x=>!p x)++List.replicate (n - (xs.filter fun x=>!p x).length) 0):=by
 have ci:=idxFuncI hk0 hH fv p xs n hn hn2 hfv hp
 by_cases hno:ixG p xs 0 = -1
 ·have hf:=ixG_no 0 hno
  rw [List.drop_zero] at hf
  rw [hf,hn,Nat.sub_self,List.replicate_zero,List.append_nil]
  rw [hno] at ci
  refine conH_of_W tok Tryz.func121 rfl rfl ?_
  refine wx ?_
  simp -implicitDefEqProofs -dsimp [Tryz.f121,List.replicate]
  refine wc_of ci ?_
  rintro _ _ ⟨rfl,rfl⟩
  simp -implicitDefEqProofs -dsimp []
 ·obtain ⟨j0,e1,_,e3,e4,e5⟩:=ixG_yes 0 hno
  rw [List.drop_zero] at e5
  rw [e1] at ci
  have hst:=DfI.start (q:=fun x=>!p x) e3 (by simp [e4]) e5
  have hj0:j0<n:=by omega
  obtain ⟨R,hR⟩:∃R,R=IB H k0 ((xs.filter fun x=>!p x)++List.replicate (n - (xs.filter fun x=>!p x).length) 0):=⟨_,rfl⟩
  obtain ⟨m,hm⟩:∃m,m=(xs.filter fun x=>!p x).length:=⟨_,rfl⟩
  rw [←hR,←hm]
  refine conH_of_W tok Tryz.func121 rfl rfl ?_
  refine wx ?_
  simp -implicitDefEqProofs -dsimp [Tryz.f121,List.replicate]
  refine wc_of ci ?_
  rintro _ _ ⟨rfl,rfl⟩
  simp -implicitDefEqProofs -dsimp [show ¬(j0:Int) = -1 by omega,wrapS j0 (by omega)]
  refine lw_of (W_loopM 36 [5,6,7,16,17,18,19,20,21,22,23,24,25,26,27,28,29,30,31,32,33,34,35] (by simp [mB]<;>rfl) (σ:=Nat×Nat×List Int) (fun s=>s.2.1≤n∧DfI (fun x=>!p x) xs s.2.2 s.1 s.2.1) (fun s=>n - s.2.1) (fun s=>[(5,.int .i64 s.1),(6,.int .i64 s.2.1)]) (fun s=>IB H k0 s.2.2) (j0,j0+1,xs) ⟨by simp only; omega,hst⟩ (by simp) (by simp) (by simp [IB_len]) ?_)
  rintro ⟨i,j,ys⟩ ⟨hj,I⟩ N Q hN hQ
  simp only at hj I hN
  have g1:=IB_at (H:=H) hk0 ys
  have yl:ys.length=n:=by rw [I.len,hn]
  have ynl:=(enc_len ys).trans yl
  have hlt:=I.lt
  have hrb:=fun zs=>IB_rb (k0:=k0) hH zs
  have hIl:=fun zs=>IB_len (H:=H) (k0:=k0) zs
  by_cases hb:j<n
  ·have hjx:j<xs.length:=by omega
   have hat:=fun h=>enc_get (xs:=ys) (i:=j) h
   rw [I.hi j (Nat.le_refl _),show xs.getD j 0=xs[j] by simp [hjx]] at hat
   have hsk:=I.skip hjx
   have hkp:=I.keep hjx
   obtain ⟨v,hv⟩:∃v,v=xs[j]:=⟨_,rfl⟩
   rw [←hv] at hat hsk hkp
   have hc:=hp v ys
   have hi1:i<n:=by omega
   have hai:=fun h=>enc_get (xs:=ys) (i:=i) h
   cases hq:p v with
   | true =>
    rw [hq] at hc
    refine wx ?_
    simp -implicitDefEqProofs -dsimp [hb,g1,ynl,hat]
    refine hc.mono ?_
    rintro r H' ⟨rfl,rfl⟩
    simp -implicitDefEqProofs -dsimp [wrapS j (by omega)]
    refine hN (i,j+1,ys) _ _ ⟨by simp only; omega,hsk (by simp [hq])⟩ (by simp only; omega) (by simp) ⟨[],by simp⟩ (by simp [hIl,hk0]; exact hfv) (hrb _)
   | false =>
    rw [hq] at hc
    have hst2:=enc_set ys i v
    have hset:=IB_set (H:=H) (k0:=k0) ys (ys.set i v)
    have hset2:(IB H k0 ys).set k0 (B.buf 2 1 ((ys.map encI).set i (encI v)) false)=IB H k0 (ys.set i v):=by rw [←List.map_set,IB_set]
    refine wx ?_
    simp -implicitDefEqProofs -dsimp [hb,g1,ynl,hat]
    refine hc.mono ?_
    rintro r H' ⟨rfl,rfl⟩
    simp -implicitDefEqProofs -dsimp [g1,ynl,hi1,hai,hst2,hset,wrapS i (by omega),wrapS j (by omega)]
    refine hN (i+1,j+1,ys.set i v) _ _ ⟨by simp only; omega,hkp (by simp [hq])⟩ (by simp only; omega) (by simp) ⟨[],by simp [hset2]⟩ (by simp [hIl,hk0]; exact hfv) (hrb _)
  ·obtain rfl:j=n:=by omega
   obtain ⟨d1,d2⟩:=I.done hn.symm
   have him:i=m:=by rw [hm]; exact d2
   subst him
   have hfill:=enc_fill ys i j yl
   rw [d1] at hfill
   obtain ⟨Z,hZ⟩:∃Z,Z=((xs.filter fun x=>!p x)++List.replicate (j - i) 0).map encI:=⟨_,rfl⟩
   have hRZ:R=IB H k0 ((xs.filter fun x=>!p x)++List.replicate (j - i) 0):=by rw [hR,←hm]
   have hset:(IB H k0 ys).set k0 (B.buf 2 1 Z false)=R:=by rw [hZ,IB_set,hRZ]
   have hRat:R[k0]?=some (.buf 2 1 Z false):=by rw [hRZ,hZ]; exact IB_at hk0 _
   have hZl:Z.length=j:=by rw [hZ,List.length_map,List.length_append,List.length_replicate,←hm]; omega
   rw [←hZ] at hfill
   have hij:i≤j:=by omega
   refine wx ?_
   simp -implicitDefEqProofs -dsimp [hb,g1,ynl]
   refine hQ _ _ _ ?_
   simp -implicitDefEqProofs -dsimp [g1,ynl,hij,hfill,hset,hRat,hZl,show ¬j - i=0 by omega,show ¬i=j by omega,show ¬j=i by omega,show i+(j - i)=j by omega]
   by_cases hi0:0=i
   ·simp [hi0.symm]
   ·simp [hi0]
end
theorem exp_preI {H:List B} {k e m N r:Nat} {fz:Bool} {xs:List Int} (hk:H[k]?=some (.buf e 1 (xs.map encI++List.replicate r (encI 0)) fz)) (hm:xs.length=m) (hN:m+r=N):Exp H (.buf k 0 m N) (.lst 1 false (xs.map encI)):=by
 subst hm
 subst hN
 have hl:(xs.map encI++List.replicate r (encI 0)).length=xs.length+r:=by simp
 have:=Exp.buf k 0 xs.length e 1 (xs.map encI++List.replicate r (encI 0)) fz hk (by rw [hl]; omega) (fun x hx=>by
  rcases List.mem_append.1 hx with q | q
  ·obtain ⟨y,_,rfl⟩:=List.mem_map.1 q; simp
  ·obtain ⟨_,rfl⟩:=List.mem_replicate.1 q; simp)
 rw [List.drop_zero,hl] at this
 have e1:(xs.map encI++List.replicate r (encI 0)).take xs.length=xs.map encI:=by
  rw [List.take_left' (by simp)]
 rw [e1] at this
 exact this
theorem but_u (D:List Int) (a:Int) (fd:Bool) (hD:D.length≤1000000):ConP Tryz.prog 74 [L1 fd D,.int .i64 a] fun r=>r=L1 false (butL D a):=by
 have cc:=clone64 D fd hD
 simp only [L1] at cc
 have hH:∀bl∈[B.cells [.int .i64 a],B.cells [.nilS]],rbB [B.cells [.int .i64 a],B.cells [.nilS]].length bl:=fun bl hbl=>by
  simp only [List.mem_cons,List.not_mem_nil,or_false] at hbl
  rcases hbl with rfl | rfl<;>exact one_rb (by simp [rb,rb1])
 have hp:∀(v:Int) (ys:List Int),WCall Tryz.prog (.fn 122 [.ptr 0 0]) [.int .i64 v] (IB [B.cells [.int .i64 a],B.cells [.nilS]] 1 ys) fun r H'=>r = .bool (decide (v=a))∧H'=IB [B.cells [.int .i64 a],B.cells [.nilS]] 1 ys:=fun v ys=>by
  have g0:(IB [B.cells [.int .i64 a],B.cells [.nilS]] 1 ys)[0]?=some (B.cells [.int .i64 a]):=rfl
  obtain ⟨HH,hHH⟩:∃HH,HH=IB [B.cells [.int .i64 a],B.cells [.nilS]] 1 ys:=⟨_,rfl⟩
  rw [←hHH] at g0 ⊢
  simp only [WCall,List.cons_append,List.nil_append]
  by_cases hva:v=a
  ·rw [decide_eq_true hva]
   refine conH_of_W tok Tryz.func122 rfl rfl ?_
   refine wx ?_
   simp -implicitDefEqProofs -dsimp [Tryz.f122,List.replicate,g0,hva]
  ·rw [decide_eq_false hva]
   refine conH_of_W tok Tryz.func122 rfl rfl ?_
   refine wx ?_
   simp -implicitDefEqProofs -dsimp [Tryz.f122,List.replicate,g0,hva]
 have cd:=deleteFunc_h (H:=[B.cells [.int .i64 a],B.cells [.nilS]]) (k0:=1) (by simp) hH (.fn 122 [.ptr 0 0]) (fun v=>decide (v=a)) D D.length rfl hD (by simp [rb,rb1]) hp
 have hbl:D.filter (fun x=>!decide (x=a))=butL D a:=rfl
 rw [hbl] at cd
 have hIB:∀ys,IB [B.cells [.int .i64 a],B.cells [.nilS]] 1 ys=[B.cells [.int .i64 a],B.buf 2 1 (ys.map encI) false]:=fun ys=>rfl
 rw [hIB,hIB] at cd
 have hle:(butL D a).length≤D.length:=by unfold butL; exact List.length_filter_le _ _
 refine conP_of_conH (conH_of_W tok Tryz.func74 rfl rfl ?_)
 refine wx ?_
 simp -implicitDefEqProofs -dsimp [Tryz.f74,List.replicate,L1]
 refine (callO cc (by simp)).mono ?_
 rintro r H' ⟨e,z,xs,rfl,rfl,_,rfl,rfl,rfl⟩
 simp -implicitDefEqProofs -dsimp []
 refine wc_of cd ?_
 rintro _ _ ⟨rfl,rfl⟩
 simp -implicitDefEqProofs -dsimp []
 exact exp_preI (r:=D.length - (butL D a).length) rfl rfl (by omega)
end
def blE (t:Tb) (cs:List Cn) (D:List Int):Int:=if buildErr t cs=0 then plE (idsR t.rows) D else buildErr t cs
theorem plV_err (I D:List Int):∃p,AM.Pure p∧plV I D = .tup [p,.int .i64 (plE I D)]∧(p = .nilS∨∃l,p = .lst 1 false l):=by
 unfold plV
 split
 ·rename_i h; rw [h]; exact ⟨_,Ln_pure _ _,rfl,.inr ⟨_,rfl⟩⟩
 ·exact ⟨_,.nilS,rfl,.inl rfl⟩
theorem rows8 {t:Tb} {cs:List Cn} (h:BdOk t cs) (h0:buildErr t cs=0):t.rows.length≤8:=by
 obtain ⟨_,h2,_⟩:=build_ok h0
 have:=h.rows; omega
theorem built_u (t:Tb) (cs:List Cn) (D:List Int) (f g fc fd:Bool) (h:BdOk t cs) (hD:D.length≤1000000):ConP Tryz.prog 70 [encTb f g t,LCn fc cs,L1 fd D] fun r=>r = .tup [bdV t cs,.int .i64 (blE t cs D)]:=by
 have cb:=build_u t cs f g fc h
 have hpb:=bdV_pure t cs
 by_cases h0:buildErr t cs=0
 ·have he:blE t cs D=plE (idsR t.rows) D:=by unfold blE; rw [if_pos h0]
  have cp:=places_u t D f g fd (tbC (build_ok h0).1) (by have:=rows8 h h0; omega) hD
  obtain ⟨p,hp,hpv,hps⟩:=plV_err (idsR t.rows) D
  rw [hpv] at cp
  rw [he]
  rw [h0,bdV_yes h0] at cb
  rw [bdV_yes h0]
  obtain ⟨e,hee⟩:∃e,e=plE (idsR t.rows) D:=⟨_,rfl⟩
  rw [←hee] at cp ⊢
  simp only [encTb,LS,LR,LCn,encH,L1,LL] at cb cp ⊢
  rcases hps with rfl | ⟨l,rfl⟩
  ·refine conP_of_conH (conH_of_W tok Tryz.func70 rfl rfl ?_)
   refine wx ?_
   simp -implicitDefEqProofs -dsimp [Tryz.f70,List.replicate,encTb,LS,LR,LCn,L1]
   refine (callP (cb) (by simp)).mono ?_
   rintro r H' ⟨rfl,rfl⟩
   simp -implicitDefEqProofs -dsimp []
   refine (callP (cp) (by simp)).mono ?_
   rintro r H' ⟨rfl,rfl⟩
   simp -implicitDefEqProofs -dsimp []
  ·refine conP_of_conH (conH_of_W tok Tryz.func70 rfl rfl ?_)
   refine wx ?_
   simp -implicitDefEqProofs -dsimp [Tryz.f70,List.replicate,encTb,LS,LR,LCn,L1]
   refine (callP (cb) (by simp)).mono ?_
   rintro r H' ⟨rfl,rfl⟩
   simp -implicitDefEqProofs -dsimp []
   refine (callP cp (fun a ha=>by
    simp only [List.mem_cons,List.not_mem_nil,or_false] at ha
    rcases ha with rfl | rfl<;>simp)).mono ?_
   rintro r H' ⟨rfl,rfl⟩
   simp -implicitDefEqProofs -dsimp []
 ·have he:blE t cs D=buildErr t cs:=by unfold blE; rw [if_neg h0]
  rw [he]
  rw [bdV_no h0] at cb ⊢
  obtain ⟨e,hee⟩:∃e,e=buildErr t cs:=⟨_,rfl⟩
  rw [←hee] at cb h0 ⊢
  simp only [encTb,LS,LR,LCn] at cb
  refine conP_of_conH (conH_of_W tok Tryz.func70 rfl rfl ?_)
  refine wx ?_
  simp -implicitDefEqProofs -dsimp [Tryz.f70,List.replicate,encTb,LS,LR,LCn,L1]
  refine (callP (cb) (by simp)).mono ?_
  rintro r H' ⟨rfl,rfl⟩
  simp -implicitDefEqProofs -dsimp [h0]
theorem bl_ok {t:Tb} {cs:List Cn} {D:List Int} (h:blE t cs D=0):buildErr t cs=0∧plE (idsR t.rows) D=0:=by
 unfold blE at h
 split at h
 ·rename_i h0; exact ⟨h0,h⟩
 ·rename_i h0; exact absurd h h0
def rpB (t:Tb) (cs:List Cn) (D:List Int):Bool:=if blE t cs D=0 then hitB (edgesF (allR t cs)) D else false
def rmB (t:Tb) (cs:List Cn) (D:List Int):Bool:=if blE t cs D=0 then minB (edgesF (allR t cs)) D else false
theorem repairs_u (t:Tb) (cs:List Cn) (D:List Int) (f g fc fd:Bool) (h:BdOk t cs) (hD:D.length≤1000000):ConP Tryz.prog 30 [encTb f g t,LCn fc cs,L1 fd D] fun r=>r = .tup [.bool (rpB t cs D),.int .i64 (blE t cs D)]:=by
 have cb:=built_u t cs D f g fc fd h hD
 unfold rpB
 by_cases hz:blE t cs D=0
 ·obtain ⟨h0,_⟩:=bl_ok hz
  obtain ⟨hsm,_,_⟩:=edges_small h h0
  rw [hz,bdV_yes h0] at cb
  rw [if_pos hz,hz]
  have ch:=hits_u (idsR t.rows) (edgesF (allR t cs)) D false false fd hsm hD
  obtain ⟨b,hb⟩:∃b,b=hitB (edgesF (allR t cs)) D:=⟨_,rfl⟩
  rw [←hb] at ch ⊢
  simp only [encTb,LS,LR,LCn,encH,L1,LL] at cb ch
  refine conP_of_conH (conH_of_W tok Tryz.func30 rfl rfl ?_)
  refine wx ?_
  simp -implicitDefEqProofs -dsimp [Tryz.f30,List.replicate,encTb,LS,LR,LCn,L1]
  refine (callP (cb) (by simp)).mono ?_
  rintro r H' ⟨rfl,rfl⟩
  simp -implicitDefEqProofs -dsimp []
  refine (callP (ch) (by simp)).mono ?_
  rintro r H' ⟨rfl,rfl⟩
  simp -implicitDefEqProofs -dsimp []
 ·rw [if_neg hz]
  obtain ⟨e,hee⟩:∃e,e=blE t cs D:=⟨_,rfl⟩
  rw [←hee] at cb hz ⊢
  by_cases h0:buildErr t cs=0
  ·rw [bdV_yes h0] at cb
   simp only [encTb,LS,LR,LCn,encH,L1,LL] at cb
   refine conP_of_conH (conH_of_W tok Tryz.func30 rfl rfl ?_)
   refine wx ?_
   simp -implicitDefEqProofs -dsimp [Tryz.f30,List.replicate,encTb,LS,LR,LCn,L1]
   refine (callP (cb) (by simp)).mono ?_
   rintro r H' ⟨rfl,rfl⟩
   simp -implicitDefEqProofs -dsimp [hz]
  ·rw [bdV_no h0] at cb
   simp only [encTb,LS,LR,LCn,encH,L1,LL] at cb
   refine conP_of_conH (conH_of_W tok Tryz.func30 rfl rfl ?_)
   refine wx ?_
   simp -implicitDefEqProofs -dsimp [Tryz.f30,List.replicate,encTb,LS,LR,LCn,L1]
   refine (callP (cb) (by simp)).mono ?_
   rintro r H' ⟨rfl,rfl⟩
   simp -implicitDefEqProofs -dsimp [hz]
theorem minB_any (E:List (List Int)) (D:List Int):minB E D=(hitB E D&&!(D.any fun a=>hitB E (butL D a))):=by
 unfold minB
 congr 1
 rw [List.all_eq_not_any_not]
 simp
theorem butL_len (D:List Int) (a:Int):(butL D a).length≤D.length:=by unfold butL; exact List.length_filter_le _ _
theorem minimal_s (t:Tb) (cs:List Cn) (D:List Int) (f g fc fd:Bool) (h:BdOk t cs) (hD:D.length≤1000000):ConP Tryz.prog 32 [encTb f g t,LCn fc cs,L1 fd D] fun r=>r = .tup [.bool (rmB t cs D),.int .i64 (blE t cs D)]:=by
 have cb:=built_u t cs D f g fc fd h hD
 unfold rmB
 by_cases hz:blE t cs D=0
 ·obtain ⟨h0,_⟩:=bl_ok hz
  obtain ⟨hsm,_,_⟩:=edges_small h h0
  rw [hz,bdV_yes h0] at cb
  rw [if_pos hz,hz,minB_any]
  have ch:=fun D' fd' hD'=>hits_u (idsR t.rows) (edgesF (allR t cs)) D' false false fd' hsm hD'
  obtain ⟨I,hI⟩:∃I,I=idsR t.rows:=⟨_,rfl⟩
  obtain ⟨E,hE⟩:∃E,E=edgesF (allR t cs):=⟨_,rfl⟩
  rw [←hI,←hE] at cb hsm ch
  rw [←hE]
  have c1:=ch D fd hD
  have htr:∀n,rbB n (tcB t f g):=fun n=>tcB_rb n t f g
  have htB:B.cells [.str t.name,.lst 1 f (t.attrs.map V.str),.lst 2 g (t.rows.map encRw)]=tcB t f g:=rfl
  have hrb:∀bl∈[tcB t f g,B.cells [.lst 1 fd (D.map encI)],B.cells [.lst 1 false (I.map encI),.lst 1 false (E.map (L1 false))]],rbB 3 bl:=fun bl hbl=>by
   simp only [List.mem_cons,List.not_mem_nil,or_false] at hbl
   rcases hbl with rfl | rfl | rfl
   ·exact htr _
   ·exact one_rb (by simp [rb])
   ·exact cell2_rb (by simp [rb]) (by simp [rb])
  have hcl:∀a∈D,WCall Tryz.prog (.fn 73 [.ptr 2 0,.ptr 1 0]) [.int .i64 a] [tcB t f g,B.cells [.lst 1 fd (D.map encI)],B.cells [.lst 1 false (I.map encI),.lst 1 false (E.map (L1 false))]] fun r H'=>r = .bool (hitB E (butL D a))∧H'=[tcB t f g,B.cells [.lst 1 fd (D.map encI)],B.cells [.lst 1 false (I.map encI),.lst 1 false (E.map (L1 false))]]:=fun a _=>by
   have cu:=but_u D a fd hD
   have c2:=ch (butL D a) false (Nat.le_trans (butL_len D a) hD)
   obtain ⟨L,hL⟩:∃L,L=butL D a:=⟨_,rfl⟩
   rw [←hL] at cu c2 ⊢
   simp only [encH,L1,LL] at cu c2
   simp only [WCall,List.cons_append,List.nil_append]
   refine conH_of_W tok Tryz.func73 rfl rfl ?_
   refine wx ?_
   simp -implicitDefEqProofs -dsimp [Tryz.f73,List.replicate]
   refine .inr ⟨stop_of (by kernel_rfl),?_⟩
   refine cy_of _ (callP (cu) (by simp)) ?_
   simp -implicitDefEqProofs -dsimp []
   refine cy_of _ (callP (c2) (by simp)) ?_
   simp -implicitDefEqProofs -dsimp []
  have cf:=contFunc64 [tcB t f g,B.cells [.lst 1 fd (D.map encI)],B.cells [.lst 1 false (I.map encI),.lst 1 false (E.map (L1 false))]] (.fn 73 [.ptr 2 0,.ptr 1 0]) (fun a=>hitB E (butL D a)) D fd hD hrb (by simp [rb,rb1]) hcl
  cases hb:hitB E D with
  | false =>
   rw [hb] at c1
   simp only [encTb,LS,LR,LCn,encH,L1,LL] at cb c1
   refine conP_of_conH (conH_of_W tok Tryz.func32 rfl rfl ?_)
   refine wx ?_
   simp -implicitDefEqProofs -dsimp [Tryz.f32,List.replicate,encTb,LS,LR,LCn,L1]
   refine (callP (cb) (by simp)).mono ?_
   rintro r H' ⟨rfl,rfl⟩
   simp -implicitDefEqProofs -dsimp []
   refine (callP (c1) (by simp)).mono ?_
   rintro r H' ⟨rfl,rfl⟩
   simp -implicitDefEqProofs -dsimp []
  | true =>
   rw [hb] at c1
   simp only [encTb,LS,LR,LCn,encH,L1,LL] at cb c1 cf
   obtain ⟨b,hbe⟩:∃b,b=D.any fun a=>hitB E (butL D a):=⟨_,rfl⟩
   rw [←hbe] at cf ⊢
   refine conP_of_conH (conH_of_W tok Tryz.func32 rfl rfl ?_)
   refine wx ?_
   simp -implicitDefEqProofs -dsimp [Tryz.f32,List.replicate,encTb,LS,LR,LCn,L1]
   refine (callP (cb) (by simp)).mono ?_
   rintro r H' ⟨rfl,rfl⟩
   simp -implicitDefEqProofs -dsimp []
   refine (callP (c1) (by simp)).mono ?_
   rintro r H' ⟨rfl,rfl⟩
   simp -implicitDefEqProofs -dsimp [htB]
   refine wc_of cf ?_
   rintro _ _ ⟨rfl,rfl⟩
   simp -implicitDefEqProofs -dsimp []
 ·rw [if_neg hz]
  obtain ⟨e,hee⟩:∃e,e=blE t cs D:=⟨_,rfl⟩
  rw [←hee] at cb hz ⊢
  by_cases h0:buildErr t cs=0
  ·rw [bdV_yes h0] at cb
   simp only [encTb,LS,LR,LCn,encH,L1,LL] at cb
   refine conP_of_conH (conH_of_W tok Tryz.func32 rfl rfl ?_)
   refine wx ?_
   simp -implicitDefEqProofs -dsimp [Tryz.f32,List.replicate,encTb,LS,LR,LCn,L1]
   refine (callP (cb) (by simp)).mono ?_
   rintro r H' ⟨rfl,rfl⟩
   simp -implicitDefEqProofs -dsimp [hz]
  ·rw [bdV_no h0] at cb
   simp only [encTb,LS,LR,LCn,encH,L1,LL] at cb
   refine conP_of_conH (conH_of_W tok Tryz.func32 rfl rfl ?_)
   refine wx ?_
   simp -implicitDefEqProofs -dsimp [Tryz.f32,List.replicate,encTb,LS,LR,LCn,L1]
   refine (callP (cb) (by simp)).mono ?_
   rintro r H' ⟨rfl,rfl⟩
   simp -implicitDefEqProofs -dsimp [hz]
def cpE (t:Tb) (cs:List Cn) (D:List Int):Int:=if blE t cs D=0 then (if hitB (edgesF (allR t cs)) D=true then 0 else 15) else blE t cs D
def cpV (t:Tb) (cs:List Cn) (D:List Int):V:=if cpE t cs D=0 then L1 false (cmpF (edgesF (allR t cs)) D D.length) else .nilS
theorem cmpF_len (E:List (List Int)) (D:List Int) (i:Nat):(cmpF E D i).length≤D.length:=(cmpF_sub E D i).length_le
theorem cmpF_succ {E:List (List Int)} {D:List Int} {i:Nat} (h:i<D.length):cmpF E D (i+1)=if hitB E (butL (cmpF E D i) D[i])=true then butL (cmpF E D i) D[i] else cmpF E D i:=by
 have hg:D.getD i 0=D[i]:=by simp [List.getD,h]
 rw [cmpF,hg]
theorem complete_u (t:Tb) (cs:List Cn) (D:List Int) (f g fc fd:Bool) (h:BdOk t cs) (hD:D.length≤1000000):ConP Tryz.prog 33 [encTb f g t,LCn fc cs,L1 fd D] fun r=>r = .tup [cpV t cs D,.int .i64 (cpE t cs D)]:=by
 have cb:=built_u t cs D f g fc fd h hD
 have htr:∀n,rbB n (tcB t f g):=fun n=>tcB_rb n t f g
 have htB:B.cells [.str t.name,.lst 1 f (t.attrs.map V.str),.lst 2 g (t.rows.map encRw)]=tcB t f g:=rfl
 unfold cpV cpE
 by_cases hz:blE t cs D=0
 ·obtain ⟨h0,_⟩:=bl_ok hz
  obtain ⟨hsm,_,_⟩:=edges_small h h0
  rw [hz,bdV_yes h0] at cb
  rw [if_pos hz]
  have ch:=fun D' fd' hD'=>hits_u (idsR t.rows) (edgesF (allR t cs)) D' false false fd' hsm hD'
  obtain ⟨I,hI⟩:∃I,I=idsR t.rows:=⟨_,rfl⟩
  obtain ⟨E,hE⟩:∃E,E=edgesF (allR t cs):=⟨_,rfl⟩
  rw [←hI,←hE] at cb ch
  rw [←hE]
  have c1:=ch D fd hD
  cases hb:hitB E D with
  | false =>
   rw [hb] at c1
   rw [if_neg (by simp),if_neg (by decide)]
   simp only [encTb,LS,LR,LCn,encH,L1,LL] at cb c1
   refine conP_of_conH (conH_of_W tok Tryz.func33 rfl rfl ?_)
   refine wx ?_
   simp -implicitDefEqProofs -dsimp [Tryz.f33,List.replicate,encTb,LS,LR,LCn,L1]
   refine (callP (cb) (by simp)).mono ?_
   rintro r H' ⟨rfl,rfl⟩
   simp -implicitDefEqProofs -dsimp []
   refine (callP (c1) (by simp)).mono ?_
   rintro r H' ⟨rfl,rfl⟩
   simp -implicitDefEqProofs -dsimp []
  | true =>
   rw [hb] at c1
   rw [if_pos rfl,if_pos rfl]
   have cc:=clone64p D fd hD
   have hrb:∀bl∈[tcB t f g,B.cells [.lst 1 false (I.map encI),.lst 1 false (E.map (L1 false))]],rbB 2 bl:=fun bl hbl=>by
    simp only [List.mem_cons,List.not_mem_nil,or_false] at hbl
    rcases hbl with rfl | rfl
    ·exact htr _
    ·exact cell2_rb (by simp [rb]) (by simp [rb])
   simp only [encTb,LS,LR,LCn,encH,L1,LL] at cb c1 cc
   refine conP_of_conH (conH_of_W tok Tryz.func33 rfl rfl ?_)
   refine wx ?_
   simp -implicitDefEqProofs -dsimp [Tryz.f33,List.replicate,encTb,LS,LR,LCn,L1]
   refine (callP (cb) (by simp)).mono ?_
   rintro r H' ⟨rfl,rfl⟩
   simp -implicitDefEqProofs -dsimp []
   refine (callP (c1) (by simp)).mono ?_
   rintro r H' ⟨rfl,rfl⟩
   simp -implicitDefEqProofs -dsimp []
   refine (callP (cc) (by simp)).mono ?_
   rintro r H' ⟨rfl,rfl⟩
   simp -implicitDefEqProofs -dsimp [htB]
   refine lw_of (W_loopM 44 [10,12,13,14,18,19,32,33,34,35,36,37,38,39,40,41,42,43] (by simp [mB]<;>rfl) (σ:=Nat) (fun i=>i≤D.length) (fun i=>D.length - i) (fun i=>[(32,.int .i64 i),(10,.lst 1 false ((cmpF E D i).map encI))]) (fun _=>[tcB t f g,B.cells [.lst 1 false (I.map encI),.lst 1 false (E.map (L1 false))]]) 0 (by omega) (by simp [cmpF]) (by simp) (by simp) ?_)
   intro i hi N Q hN hQ
   by_cases hib:i<D.length
   ·have hs:=cmpF_succ (E:=E) hib
    have hl1:=cmpF_len E D i
    obtain ⟨x,hx⟩:∃x,x=D[i]:=⟨_,rfl⟩
    obtain ⟨o,ho⟩:∃o,o=cmpF E D i:=⟨_,rfl⟩
    rw [←hx,←ho] at hs
    rw [←ho] at hl1 ⊢
    have cu:=but_u o x false (by omega)
    have c2:=ch (butL o x) false (by have:=butL_len o x; omega)
    obtain ⟨L,hL⟩:∃L,L=butL o x:=⟨_,rfl⟩
    rw [←hL] at cu c2 hs
    simp only [encH,L1,LL] at cu c2
    cases hq:hitB E L with
    | true =>
     rw [hq] at c2
     rw [if_pos hq] at hs
     refine wx ?_
     simp -implicitDefEqProofs -dsimp [hib,hx.symm,encI]
     refine (callP (cu) (by simp)).mono ?_
     rintro r H' ⟨rfl,rfl⟩
     simp -implicitDefEqProofs -dsimp []
     refine (callP (c2) (by simp)).mono ?_
     rintro r H' ⟨rfl,rfl⟩
     simp -implicitDefEqProofs -dsimp [wrapS i (by omega)]
     refine hN (i+1) _ _ (by omega) (by omega) (by simp [hs]) ⟨[],by simp⟩ (by simp) hrb
    | false =>
     rw [hq] at c2
     rw [if_neg (by simp [hq])] at hs
     refine wx ?_
     simp -implicitDefEqProofs -dsimp [hib,hx.symm,encI]
     refine (callP (cu) (by simp)).mono ?_
     rintro r H' ⟨rfl,rfl⟩
     simp -implicitDefEqProofs -dsimp []
     refine (callP (c2) (by simp)).mono ?_
     rintro r H' ⟨rfl,rfl⟩
     simp -implicitDefEqProofs -dsimp [wrapS i (by omega)]
     refine hN (i+1) _ _ (by omega) (by omega) (by simp [hs]) ⟨[],by simp⟩ (by simp) hrb
   ·obtain rfl:i=D.length:=by omega
    refine wx ?_
    simp -implicitDefEqProofs -dsimp [hib]
    refine hQ _ _ _ ?_
    simp -implicitDefEqProofs -dsimp []
    rfl
 ·rw [if_neg hz,if_neg hz]
  obtain ⟨e,hee⟩:∃e,e=blE t cs D:=⟨_,rfl⟩
  rw [←hee] at cb hz ⊢
  by_cases h0:buildErr t cs=0
  ·rw [bdV_yes h0] at cb
   simp only [encTb,LS,LR,LCn,encH,L1,LL] at cb
   refine conP_of_conH (conH_of_W tok Tryz.func33 rfl rfl ?_)
   refine wx ?_
   simp -implicitDefEqProofs -dsimp [Tryz.f33,List.replicate,encTb,LS,LR,LCn,L1]
   refine (callP (cb) (by simp)).mono ?_
   rintro r H' ⟨rfl,rfl⟩
   simp -implicitDefEqProofs -dsimp [hz]
  ·rw [bdV_no h0] at cb
   simp only [encTb,LS,LR,LCn,encH,L1,LL] at cb
   refine conP_of_conH (conH_of_W tok Tryz.func33 rfl rfl ?_)
   refine wx ?_
   simp -implicitDefEqProofs -dsimp [Tryz.f33,List.replicate,encTb,LS,LR,LCn,L1]
   refine (callP (cb) (by simp)).mono ?_
   rintro r H' ⟨rfl,rfl⟩
   simp -implicitDefEqProofs -dsimp [hz]
theorem W_frzB {P:Program} (k j:Nat) {k0 e0 e z:Nat} {xs ys:List V} {fz:Bool} {c:Code} {Q:Exit→List V→List B→Prop} {fr:List V} {H:List B} (hne:k0≠k) (hk:H[k]?=some (.buf e z ys fz)) (hk0:H[k0]?=some (.buf e0 1 xs false)) (hj:xs[j]?=some (.buf k 0 ys.length ys.length))
  (h:W P c Q fr ((H.set k (.buf e z ys true)).set k0 (.buf e0 1 (xs.set j (.lst z false ys)) false))):W P c Q fr H:=by
 intro s a hA hg hf hd
 obtain ⟨rfl,hZ⟩:=hA
 obtain ⟨p1,p2,_⟩:=frz_ok hg hk
 generalize hs1:s.frz k (.buf e z ys true)=s1 at p1 p2
 have hk1:s1.H[k0]?=some (.buf e0 1 xs false):=by rw [←hs1]; simp only [St.frz]; rw [List.getElem?_set_ne (Ne.symm hne)]; exact hk0
 have hr1:∀x y u,Rel s x u→(y=x∨(x = .buf k 0 ys.length ys.length∧y = .lst z false ys))→Rel s1 y u:=fun x y u h1 h2=>by subst hs1; exact frz_rep hg hk h1 h2
 have hw1:s1.w=s.w:=by rw [←hs1]; rfl
 have hφ:s1.φ k0=s.φ k0:=by rw [←hs1]; rfl
 have hκ:s1.κ k0=s.κ k0:=by rw [←hs1]; rfl
 obtain ⟨vs,g2,g3,g4,g5,g6,g7⟩:=hg.blk k0 _ hk0
 have hκ0:s1.κ k0≠0:=by have:=getElem?_lt hj; omega
 have hlv:=lvB hk1 hκ0
 have hst:=setB_step (w:=s1.w) (bl':=.buf e0 1 (xs.set j (.lst z false ys)) false) p1 hk1 hlv (by simp [B.alike]) rfl rfl rfl (Nat.le_refl _) (fun _ _ _=>rfl)
 have hat:∀(i:Nat) y,(xs.set j (.lst z false ys))[i]?=some y→∃x,xs[i]?=some x∧(y=x∨(x = .buf k 0 ys.length ys.length∧y = .lst z false ys)):=fun i y hy=>by
  by_cases e1:j=i
  ·subst e1
   rw [List.getElem?_set_self (getElem?_lt hj)] at hy
   exact ⟨_,hj,.inr ⟨rfl,(Option.some.inj hy).symm⟩⟩
  ·rw [List.getElem?_set_ne e1] at hy
   exact ⟨y,hy,.inl rfl⟩
 have hgd:AM.Good (s1.setB s1.w k0 (.buf e0 1 (xs.set j (.lst z false ys)) false)):=by
  refine setB_good p1 hk1 hlv (by simp [B.alike]) rfl rfl rfl (Nat.le_refl _) (fun _ _ _=>rfl) (fun hst=>?_)
  refine ⟨vs,fun _=>by show s1.w.heap[s1.φ k0]?=_; rw [hw1,hφ]; exact g2 (by rw [←hκ]; exact hκ0),?_,?_,?_,fun y hy=>?_,fun i y j' d u hy hd hu=>?_⟩
  ·show vs.size=s1.κ k0*1; rw [hκ]; exact g3
  ·show _≤s1.κ k0; rw [hκ,List.length_set]; exact g4
  ·show s1.κ k0≤_; rw [hκ]; exact g5
  ·obtain ⟨i,hi⟩:=List.mem_iff_getElem?.1 hy
   obtain ⟨x,hx,h9⟩:=hat i y hi
   rcases h9 with h9 | ⟨_,h9⟩
   ·rw [h9]; exact g6 x (List.mem_of_getElem? hx)
   ·rw [h9]; exact ⟨rfl,fun c hc=>by simp [V.cells] at hc; subst hc; rfl⟩
  ·obtain ⟨x,hx,h9⟩:=hat i y hy
   rcases h9 with h9 | ⟨h8,h9⟩
   ·subst h9
    exact (hr1 d d u (g7 i y j' d u hx hd hu) (.inl rfl)).step hst
   ·subst h9; subst h8
    have hj0:j'=0:=by have:=getElem?_lt hd; simp [V.cells] at this; exact this
    subst hj0
    simp [V.cells] at hd
    subst hd
    exact (hr1 _ _ u (g7 i _ 0 _ u hx rfl hu) (.inr ⟨rfl,rfl⟩)).step hst
 have hH:(s1.setB s1.w k0 (.buf e0 1 (xs.set j (.lst z false ys)) false)).H=(s.H.set k (.buf e z ys true)).set k0 (.buf e0 1 (xs.set j (.lst z false ys)) false):=by
  rw [←hs1]; rfl
 have:=h (s1.setB s1.w k0 (.buf e0 1 (xs.set j (.lst z false ys)) false)) a ⟨hH,(hZ.step p2).step hst⟩ hgd ⟨by rw [hf.len],fun i v u hv hu=>(hr1 v v u (hf.rel i v u hv hu) (.inl rfl)).step hst⟩ hd
 have e1:(s1.setB s1.w k0 (.buf e0 1 (xs.set j (.lst z false ys)) false)).w=s.w:=hw1
 rw [e1] at this
 exact wp_mono this fun _ _ _ hl=>leaves_trans (p2.trans hst) hl
theorem before18 (us bs:List Int) (f g:Bool) (hl:us.length≤1000000) (hl2:bs.length≤1000000):ConP Tryz.prog 263 [L1 f us,L1 g bs] fun r=>r = .bool (lexLt us bs):=by
 refine conP_of_conH (conH_of_W tok Tryz.func263 rfl rfl ?_)
 refine wx ?_
 simp -implicitDefEqProofs -dsimp [Tryz.f263,List.replicate]
 refine lw_of (W_loopG [4,5,6,7,8,9,10,11,12,13,14,15,16,17,18,19,20,21,22,23,24,25,26,27,28,29,30,31,32,33,34,35] (σ:=Nat) (fun i=>i≤us.length∧i≤bs.length∧lexLt (us.drop i) (bs.drop i)=lexLt us bs) (fun i=>us.length - i) (fun i=>[(5,.int .i64 i)]) (fun _=>[]) 0 ⟨by omega,by omega,rfl⟩ (by simp) rfl (by simp) ?_)
 rintro i ⟨h1,h2,hx⟩
 by_cases ha:i<us.length
 ·by_cases hb:i<bs.length
  ·rw [List.drop_eq_getElem_cons ha,List.drop_eq_getElem_cons hb,lexLt] at hx
   by_cases hq:us[i]=bs[i]
   ·rw [if_pos hq] at hx
    refine wx ?_
    simp -implicitDefEqProofs -dsimp [L1,encI,ha,hb,hq,wrapS i (by omega)]
    refine .inr ⟨stop_of (by kernel_rfl),?_⟩
    refine stop_of ?_
    refine ⟨i+1,⟨by omega,by omega,hx⟩,by omega,?_,⟨[],rfl⟩,?_,?_⟩<;>simp [L1,encI]
   ·rw [if_neg hq] at hx
    refine wx ?_
    simp -implicitDefEqProofs -dsimp [L1,encI,ha,hb,hq]
    refine .inr ⟨stop_of (by kernel_rfl),?_⟩
    refine .inr ⟨stop_of (by kernel_rfl),?_⟩
    exact hx
  ·rw [List.drop_eq_getElem_cons ha,List.drop_of_length_le (l:=bs) (by omega),lexLt] at hx
   refine wx ?_
   simp -implicitDefEqProofs -dsimp [L1,ha,hb]
   rw [←hx]
   simp
   omega
 ·by_cases hb:i<bs.length
  ·rw [List.drop_eq_getElem_cons hb,List.drop_of_length_le (l:=us) (by omega),lexLt] at hx
   refine wx ?_
   simp -implicitDefEqProofs -dsimp [L1,ha,hb]
   rw [←hx]
   simp
   omega
  ·rw [List.drop_of_length_le (l:=us) (by omega),List.drop_of_length_le (l:=bs) (by omega),lexLt] at hx
   refine wx ?_
   simp -implicitDefEqProofs -dsimp [L1,ha,hb]
   rw [←hx]
   simp
   omega
theorem sink_last (l:List Int) (x:Int) (h:l.Pairwise (·≤·)):(sinkZ ltZ l.length (l++[x])).Pairwise (·≤·)∧(sinkZ ltZ l.length (l++[x])).Perm (l++[x]):=by
 have h1:=sinkZ_ins x l.reverse []
 rw [List.reverse_reverse,List.length_reverse,List.append_nil] at h1
 refine ⟨by rw [h1]; exact inzZ_sorted _ _ (by rwa [List.reverse_reverse]),sinkZ_perm _ _ _ (by simp)⟩
theorem asc18 (rs:List Rw) (f:Bool) (hl:rs.length≤1000):ConP Tryz.prog 213 [LR f rs] fun r=>r=L1 false (srt (idsR rs)):=by
 obtain ⟨I,hI⟩:∃I,I=idsR rs:=⟨_,rfl⟩
 have hIl:I.length=rs.length:=by rw [hI,idsR_len]
 rw [←hI]
 have hbI:∀(l:List Int),∀bl∈[B.buf 2 1 (nzL l) false],rbB 1 bl:=fun l bl hb=>by simp only [List.mem_singleton] at hb; subst hb; exact (rbB_buf1 (nzL_pure l)).2 trivial
 refine conP_of_conH (conH_of_W tok Tryz.func213 rfl rfl ?_)
 refine wx ?_
 simp -implicitDefEqProofs -dsimp [Tryz.f213,List.replicate,LR]
 refine lw_of (W_own 2 1 [3] (by simp) (W_loopM 55 [3,4,5,6,7,8,9,10,11,12,13,14,15,16,17,18,19,20,21,22,23,24,25,26,27,28,29,30,31,32,33,34,35,36,37,38,39,40,41,42,43,44,45,46,47,48,49,50,51,52,53,54] (by simp [mB]<;>rfl) (σ:=Nat×List Int) (fun p=>p.1≤rs.length∧p.2.length=p.1∧p.2.Pairwise (·≤·)∧p.2.Perm (I.take p.1)) (fun p=>rs.length - p.1) (fun p=>[(4,.int .i64 p.1),(3,.buf 0 0 p.1 p.1)]) (fun p=>[B.buf 2 1 (nzL p.2) false]) (0,[]) ⟨by simp,rfl,List.Pairwise.nil,by simp⟩ (by simp) (by simp [nzL]) (by simp) ?_))
 rintro ⟨i,l⟩ ⟨hi,hll,hs,hp⟩ N Q hN hQ
 simp only at hi hll hs hp
 by_cases hb:i<rs.length
 ·obtain ⟨r,hre⟩:∃r,r=rs[i]:=⟨_,rfl⟩
  have hbI2:i<I.length:=by omega
  have hIi:I[i]=r.id:=by rw [hre]; simp [hI,idsR]
  have hts:I.take (i+1)=I.take i++[r.id]:=by rw [List.take_succ_eq_append_getElem hbI2,hIi]
  obtain ⟨q1,q2⟩:=sink_last l r.id hs
  rw [hll] at q1 q2
  obtain ⟨S,hS⟩:∃S,S=sinkZ ltZ i (l++[r.id]):=⟨_,rfl⟩
  rw [←hS] at q1 q2
  have hSl:S.length=i+1:=by rw [q2.length_eq]; simp [hll]
  have hSp:S.Perm (I.take (i+1)):=by rw [hts]; exact q2.trans (hp.append_right _)
  have hnl0:=nzL_len l
  have wi:IntKind.i64.wrap (((i:Int)+1) - 1)=(i:Int):=by rw [wrap64 (by omega) (by omega)]; omega
  refine wx ?_
  simp -implicitDefEqProofs -dsimp [hb,hre.symm,encRw,hnl0,hll,cap8 i (by omega),wi,wrapN i (by omega)]
  refine lw_of (W_loopM 55 [5,23,24,25,26,27,28,29,30,31,32,33,34,35,36,37,38,39,40,41,42,43,44,45,46,47,48,49,50,51,52,53,54] (by simp [mB]<;>rfl) (σ:=Nat×List Int) (fun p=>p.1≤i∧p.2.length=i+1∧sinkZ ltZ p.1 p.2=S) (fun p=>p.1) (fun p=>[(5,.int .i64 p.1)]) (fun p=>[B.buf 2 1 (nzL p.2) false]) (i,l++[r.id]) ⟨by simp,by simp [hll],hS.symm⟩ (by simp) (by simp [nzL,encI]) (by simp) ?_)
  rintro ⟨j,l2⟩ ⟨hj,hl2,hy⟩ N2 Q2 hN2 hQ2
  simp only at hj hl2 hy hN2
  have hnl:=nzL_len l2
  cases j with
  | zero =>
   rw [sinkZ] at hy
   refine wx ?_
   simp -implicitDefEqProofs -dsimp []
   refine .inr ⟨stop_of (by kernel_rfl),?_⟩
   refine hQ2 _ _ _ ?_
   simp -implicitDefEqProofs -dsimp [wrapS i (by omega)]
   refine hN (i+1,l2) _ _ ⟨by simp only; omega,by rw [hy]; exact hSl,by rw [hy]; exact q1,by rw [hy]; exact hSp⟩ (by simp only; omega) (by simp) ⟨[],by simp⟩ (by simp) (hbI _)
  | succ j =>
   rw [sinkZ] at hy
   have a1:=fun h=>nzL_get (m:=l2) (x:=j+1) h
   have a0:=fun h=>nzL_get (m:=l2) (x:=j) h
   have wj:IntKind.i64.wrap (((j:Int)+1) - 1)=(j:Int):=by rw [wrap64 (by omega) (by omega)]; omega
   have wj2:IntKind.i64.wrap (j:Int)=(j:Int):=wrapZ j (by omega)
   have hj1:j+1<i+1:=by omega
   have hj0:j<i+1:=by omega
   obtain ⟨x,hxx⟩:∃x,x=l2.getD (j+1) 0:=⟨_,rfl⟩
   obtain ⟨y,hyy⟩:∃y,y=l2.getD j 0:=⟨_,rfl⟩
   rw [←hxx,←hyy] at hy
   rw [←hxx] at a1
   rw [←hyy] at a0
   have b1:(nzL l2)[j+1]?=some (.int .i64 x):=by rw [List.getElem?_eq_getElem (by rw [hnl]; omega),a1]
   have b0:(nzL l2)[j]?=some (.int .i64 y):=by rw [List.getElem?_eq_getElem (by rw [hnl]; omega),a0]
   by_cases hq:x<y
   ·rw [if_pos (by simp [ltZ,hq])] at hy
    refine wx ?_
    simp -implicitDefEqProofs -dsimp [hnl,hl2,hj1,hj0,a1,a0,b1,b0,wj,wj2,hq,show (0:Int)≤(j:Int)+1 by omega,show (0:Int)<(j:Int)+1 by omega,show (j:Int)<(i:Int) by omega,show (j:Int)<(i:Int)+1 by omega,show j<i+1 by omega,show j<i by omega]
    refine .inr ⟨stop_of (by kernel_rfl),?_⟩
    have hsw:swpZ j l2=(l2.set (j+1) y).set j x:=by unfold swpZ; rw [←hxx,←hyy]
    have hst1:(nzL l2).set (j+1) (.int .i64 y)=nzL (l2.set (j+1) y):=nzL_set l2 (j+1) y
    have hst2:(nzL (l2.set (j+1) y)).set j (.int .i64 x)=nzL (swpZ j l2):=by rw [hsw]; exact nzL_set _ j x
    have qnl:=nzL_len (l2.set (j+1) y)
    rw [List.length_set] at qnl
    have d0:=fun h=>nzL_get (m:=l2.set (j+1) y) (x:=j) h
    refine lw_of (W_drawT tok mixed [15,17] [(2,[1]),(3,[1]),(4,[1])] [] (by kernel_rfl) fun C K hC hK=>?_)
    simp -implicitDefEqProofs [hnl,hl2,hj1,hj0,a1,a0,b1,b0,wj,wj2,hst1,hst2,qnl,d0,show (0:Int)≤(j:Int)+1 by omega,show (j:Int)<(i:Int) by omega,show (j:Int)<(i:Int)+1 by omega,show j<i+1 by omega,show j<i by omega]
    refine hK _ _ ?_
    simp -implicitDefEqProofs -dsimp [wj,wj2]
    refine hN2 (j,swpZ j l2) _ _ ⟨by simp only; omega,by rw [swpZ_len]; exact hl2,hy⟩ (by simp only; omega) (by simp) ⟨[],by simp⟩ (by simp) (hbI _)
   ·rw [if_neg (by simp [ltZ,hq])] at hy
    refine wx ?_
    simp -implicitDefEqProofs -dsimp [hnl,hl2,hj1,hj0,a1,a0,b1,b0,wj,wj2,hq,show (0:Int)≤(j:Int)+1 by omega,show (0:Int)<(j:Int)+1 by omega,show (j:Int)<(i:Int) by omega,show (j:Int)<(i:Int)+1 by omega,show j<i+1 by omega,show j<i by omega]
    refine .inr ⟨stop_of (by kernel_rfl),?_⟩
    refine hQ2 _ _ _ ?_
    simp -implicitDefEqProofs -dsimp [wrapS i (by omega)]
    refine hN (i+1,l2) _ _ ⟨by simp only; omega,by rw [hy]; exact hSl,by rw [hy]; exact q1,by rw [hy]; exact hSp⟩ (by simp only; omega) (by simp) ⟨[],by simp⟩ (by simp) (hbI _)
 ·obtain rfl:i=rs.length:=by omega
  rw [List.take_of_length_le (by omega)] at hp
  refine wx ?_
  simp -implicitDefEqProofs -dsimp [hb]
  refine hQ _ _ _ ?_
  simp -implicitDefEqProofs -dsimp []
  rw [←srt_eq hp hs]
  exact exp_buf rfl (by simp [nzL,hll]) (by simp [nzL,encI])
def sameP (x y:List Int):Bool:=!lexLt y x&&!lexLt x y
theorem put18 (b0 b1:B) (h0:∀n,rbB n b0) (h1:∀n,rbB n b1) (l:List (List Int)) (x:List Int) (hl:l.length≤10000) (hle:∀e∈l,e.length≤1000000) (hxl:x.length≤1000000) :
  ConH Tryz.prog 212 [.buf 2 0 l.length l.length,L1 false x] [b0,b1,.buf 34 1 (l.map (L1 false)) false] fun r H'=>r = .buf 2 0 (putR l x).length (putR l x).length∧H'=[b0,b1,.buf 34 1 ((putR l x).map (L1 false)) false]:=by
 have hrb:∀o:List (List Int),∀bl∈[b0,b1,B.buf 34 1 (o.map (L1 false)) false],rbB 3 bl:=fun o bl hbl=>by
  simp only [List.mem_cons,List.not_mem_nil,or_false] at hbl
  rcases hbl with rfl | rfl | rfl
  ·exact h0 _
  ·exact h1 _
  ·exact LF_rb _ _ _
 obtain ⟨E,hE⟩:∃E,E=l.any (sameP x):=⟨_,rfl⟩
 have hyes:E=true→putR l x=l:=fun h=>by unfold putR; rw [if_pos (by rw [←h,hE]; rfl)]
 have hno:E=false→putR l x=insE l x:=fun h=>by
  unfold putR
  rw [if_neg]
  intro h2
  have:l.any (sameP x)=true:=h2
  rw [←hE,h] at this
  cases this
 obtain ⟨S,hS⟩:∃S,S=putR l x:=⟨_,rfl⟩
 rw [←hS]
 rw [←hS] at hyes hno
 refine conH_of_W tok Tryz.func212 rfl rfl ?_
 refine wx ?_
 simp -implicitDefEqProofs -dsimp [Tryz.f212,List.replicate,L1]
 refine lw_of (W_loopM 30 [4,5,7,8,9,10,11,12,13,14,15,16,17,18,19,20,21,22,23,24,25,26,27,28,29] (by simp [mB]<;>rfl) (σ:=Nat) (fun i=>(l.drop i).any (sameP x)=E) (fun i=>l.length - i) (fun i=>[(5,.int .i64 i)]) (fun _=>[b0,b1,B.buf 34 1 (l.map (L1 false)) false]) 0 (by rw [hE,List.drop_zero]) (by simp) (by simp) (by simp) ?_)
 intro i hx N Q hN hQ
 by_cases hb:i<l.length
 ·rw [List.drop_eq_getElem_cons hb,List.any_cons] at hx
  have hyl:=hle _ (List.getElem_mem hb)
  obtain ⟨y,hye⟩:∃y,y=l[i]:=⟨_,rfl⟩
  rw [←hye] at hx hyl
  have c1:=before18 y x false false hyl hxl
  have c2:=before18 x y false false hxl hyl
  simp only [L1] at c1 c2
  cases q1:lexLt y x with
  | true =>
   rw [q1] at c1
   rw [show sameP x y=false by simp [sameP,q1],Bool.false_or] at hx
   refine wx ?_
   simp -implicitDefEqProofs -dsimp [hb,hye.symm,L1]
   refine (callP (c1) (by simp)).mono ?_
   rintro r H' ⟨rfl,rfl⟩
   simp -implicitDefEqProofs -dsimp [wrapS i (by omega),L1]
   refine hN (i+1) _ _ hx (by omega) (by simp) ⟨[],by simp⟩ (by simp) (hrb _)
  | false =>
   rw [q1] at c1
   cases q2:lexLt x y with
   | true =>
    rw [q2] at c2
    rw [show sameP x y=false by simp [sameP,q2],Bool.false_or] at hx
    refine wx ?_
    simp -implicitDefEqProofs -dsimp [hb,hye.symm,L1]
    refine (callP (c1) (by simp)).mono ?_
    rintro r H' ⟨rfl,rfl⟩
    simp -implicitDefEqProofs -dsimp [hb,hye.symm,L1]
    refine (callP (c2) (by simp)).mono ?_
    rintro r H' ⟨rfl,rfl⟩
    simp -implicitDefEqProofs -dsimp [wrapS i (by omega),L1]
    refine hN (i+1) _ _ hx (by omega) (by simp) ⟨[],by simp⟩ (by simp) (hrb _)
   | false =>
    rw [q2] at c2
    rw [show sameP x y=true by simp [sameP,q1,q2],Bool.true_or] at hx
    have hSl:=hyes hx.symm
    refine wx ?_
    simp -implicitDefEqProofs -dsimp [hb,hye.symm,L1]
    refine (callP (c1) (by simp)).mono ?_
    rintro r H' ⟨rfl,rfl⟩
    simp -implicitDefEqProofs -dsimp [hb,hye.symm,L1]
    refine (callP (c2) (by simp)).mono ?_
    rintro r H' ⟨rfl,rfl⟩
    simp -implicitDefEqProofs -dsimp [L1]
    refine hQ _ _ _ ?_
    simp -implicitDefEqProofs -dsimp [L1]
    rw [hSl]
    exact ⟨rfl,rfl⟩
 ·rw [List.drop_of_length_le (by omega),List.any_nil] at hx
  have hSi:=hno hx.symm
  refine wx ?_
  simp -implicitDefEqProofs -dsimp [hb,L1]
  refine hQ _ _ _ ?_
  simp -implicitDefEqProofs -dsimp [cap24 l.length (by omega),wrapN l.length (by omega),L1]
  refine lw_of (W_loopM 69 [6,37,38,39,40,41,42,43,44,45,46,47,48,49,50,51,52,53,54,55,56,57,58,59,60,61,62,63,64,65,66,67,68] (by simp [mB]<;>rfl) (σ:=Nat) (fun k=>k≤l.length∧insPos l x k=insPos l x l.length) (fun k=>k) (fun k=>[(6,.int .i64 k)]) (fun k=>[b0,b1,B.buf 34 1 ((insAt l x k).map (L1 false)) false]) l.length ⟨by omega,rfl⟩ (by simp) (by simp [insAt,L1]) (by simp) ?_)
  rintro k ⟨hk1,hk2⟩ N3 Q3 hN3 hQ3
  by_cases hk0:k=0
  ·subst hk0
   have hfin:S=insAt l x 0:=by rw [hSi,insE,←hk2]; rfl
   refine wx ?_
   simp -implicitDefEqProofs -dsimp [L1]
   refine .inr ⟨stop_of (by kernel_rfl),?_⟩
   refine hQ3 _ _ _ ?_
   simp -implicitDefEqProofs -dsimp [L1]
   rw [hfin,insAt_len]
   exact ⟨rfl,rfl⟩
  ·have hcl:=insAt_len l x k
   have hck:=insAt_k l x k hk1 (by omega)
   have hcp:=insAt_p l x k hk1 (by omega) (by omega)
   have hsw:=insAt_swap l x k hk1 (by omega)
   have hbk:k<(insAt l x k).length:=by omega
   have hbp:k - 1<(insAt l x k).length:=by omega
   obtain ⟨a,ha⟩:∃a,a=eAt l (k - 1):=⟨_,rfl⟩
   rw [←ha] at hcp hsw
   have hal2:a.length≤1000000:=hle a (by rw [ha,getD_at (by omega)]; exact List.getElem_mem _)
   have hc:=before18 x a false false hxl hal2
   obtain ⟨cur,hcur⟩:∃cur,cur=insAt l x k:=⟨_,rfl⟩
   rw [←hcur] at hcl hsw hbk hbp ⊢
   have hck:cur[k]=x:=by subst hcur; exact hck
   have hcp:cur[k - 1]=a:=by subst hcur; exact hcp
   have hpos:insPos l x k=if lexLt x a then insPos l x (k - 1) else k:=by
    obtain ⟨m,rfl⟩:∃m,k=m+1:=⟨k - 1,by omega⟩
    rw [ha]; rfl
   simp only [L1] at hc
   have hgk:cur[k]?=some x:=by rw [List.getElem?_eq_getElem hbk,hck]
   have hgp:cur[k - 1]?=some a:=by rw [List.getElem?_eq_getElem hbp,hcp]
   have hi1:(k:Int)<(l.length:Int)+1:=by omega
   have hi2:((k - 1:Nat):Int)<(l.length:Int)+1:=by omega
   cases hlt:lexLt x a
   ·rw [hlt] at hc hpos
    have hfin:S=cur:=by rw [hSi,insE,←hk2,hpos,hcur]; rfl
    refine wx ?_
    simp -implicitDefEqProofs -dsimp [hgk,hgp,hcl,hi1,hi2,wrapP k (by omega) (by omega),show 0<k by omega,L1]
    refine .inr ⟨stop_of (by kernel_rfl),?_⟩
    refine cy_of _ (callP (hc) (by simp)) ?_
    simp -implicitDefEqProofs -dsimp [L1]
    refine hQ3 _ _ _ ?_
    simp -implicitDefEqProofs -dsimp [L1]
    rw [hfin,hcl]
    exact ⟨rfl,rfl⟩
   ·rw [hlt] at hc hpos
    refine wx ?_
    simp -implicitDefEqProofs -dsimp [hgk,hgp,hcl,hi1,hi2,wrapP k (by omega) (by omega),show 0<k by omega,L1]
    refine .inr ⟨stop_of (by kernel_rfl),?_⟩
    refine cy_of _ (callP (hc) (by simp)) ?_
    simp -implicitDefEqProofs -dsimp [L1]
    have hs1:((cur.map (L1 false)).set k (V.lst 1 false (a.map encI)))[k - 1]?=some (V.lst 1 false (a.map encI)):=by
     rw [List.getElem?_set_ne (by omega),List.getElem?_map,hgp]; rfl
    have hs2:((cur.map (L1 false)).set k (V.lst 1 false (a.map encI))).set (k - 1) (V.lst 1 false (x.map encI))=(insAt l x (k - 1)).map (L1 false):=by
     rw [←hsw]; simp only [List.map_set,L1]
    refine lw_of (W_drawT tok mixed [15,17] [(2,[1]),(3,[1]),(4,[1])] [] (by kernel_rfl) fun C K hC hK=>?_)
    simp -implicitDefEqProofs [hgk,hgp,hcl,hi1,hi2,wrapP k (by omega) (by omega),hs1,hs2,L1]
    refine hK _ _ ?_
    simp -implicitDefEqProofs -dsimp [wrapP k (by omega) (by omega),L1]
    refine hN3 (k - 1) _ _ ⟨by omega,by rw [←hk2,hpos]; rfl⟩ (by omega) (by simp) ⟨[],by simp⟩ (by simp) (hrb _)
def LRR (os:List (List Rw)):V:=.lst 1 false (os.map (LR false))
@[simp] theorem LRR_pure (os:List (List Rw)):AM.Pure (LRR os):=.lst _ _ _ fun x hx=>by obtain ⟨y,_,rfl⟩:=List.mem_map.1 hx; exact LR_pure _ _
theorem LRR_rb (n e:Nat) (os:List (List Rw)) (fz:Bool):rbB n (.buf e 1 (os.map (LR false)) fz):=fun x hx=>by
 obtain ⟨y,_,rfl⟩:=List.mem_map.1 hx
 intro c hc
 simp only [LR,V.cells,List.mem_cons,List.not_mem_nil,or_false] at hc
 subst hc
 simp [rb1]
theorem step_cons {R:List Rw} {o:List Rw} {j:Nat} (h:j<R.length):((R.drop j).filter fun r=>!usedR o r).map (fun r=>o++[r])=(if usedR o R[j]=true then [] else [o++[R[j]]])++((R.drop (j+1)).filter fun r=>!usedR o r).map (fun r=>o++[r]):=by
 rw [List.drop_eq_getElem_cons h]
 by_cases hu:usedR o R[j]=true
 ·rw [List.filter_cons_of_neg (by simp [hu]),if_pos hu]; rfl
 ·rw [List.filter_cons_of_pos (by simp [hu]),if_neg hu]; rfl
theorem cap24L (n:Nat) (h:n≤1000000000):n≤9223372036854775806∧(n+1)*24≤140737488355328:=by omega
def pvA (R:List Rw) (k:Nat):V:=if k=0 then .lst 1 true [.nilS] else LRR (asR R k)
theorem assign18 (t:Tb) (f g:Bool) (K:Nat) (hK1:1≤K) (hK3:K≤3) (h8:t.rows.length≤8):ConP Tryz.prog 210 [encTb f g t,.int .i64 K] fun r=>r=LRR (asR t.rows K):=by
 obtain ⟨R,hR⟩:∃R,R=t.rows:=⟨_,rfl⟩
 rw [←hR] at h8 ⊢
 have htB:tcB t f g = .cells [.str t.name,.lst 1 f (t.attrs.map V.str),.lst 2 g (R.map encRw)]:=by rw [hR]; rfl
 have hrb:∀bl∈[B.cells [.str t.name,.lst 1 f (t.attrs.map V.str),.lst 2 g (R.map encRw)]],rbB 1 bl:=fun bl hbl=>by
  simp only [List.mem_singleton] at hbl
  subst hbl
  rw [←htB]; exact tcB_rb _ _ _ _
 have hrb2:∀cur:List (List Rw),∀bl∈[B.cells [.str t.name,.lst 1 f (t.attrs.map V.str),.lst 2 g (R.map encRw)],B.buf 30 1 (cur.map (LR false)) false],rbB 2 bl:=fun cur bl hbl=>by
  simp only [List.mem_cons,List.not_mem_nil,or_false] at hbl
  rcases hbl with rfl | rfl
  ·rw [←htB]; exact tcB_rb _ _ _ _
  ·exact LRR_rb _ _ _ _
 have hpp:∀k,AM.Pure (pvA R k):=fun k=>by
  unfold pvA; split
  ·exact .lst _ _ _ (by simp)
  ·exact LRR_pure _
 refine conP_of_conH (conH_of_W (tok_flag tok (fun t=>t == 30)) Tryz.func210 rfl rfl ?_)
 refine W_x (tok_flag tok (fun t=>t == 30)) mixed ?_
 simp -implicitDefEqProofs -dsimp [Tryz.f210,List.replicate,encTb,LS,LR,hR.symm,flagT]
 refine lw_of (W_loopM 77 [5,6,7,8,9,10,11,13,14,15,16,17,18,19,20,21,22,23,24,25,26,27,28,29,30,31,32,33,34,35,36,37,38,39,40,41,42,43,44,45,46,47,48,49,50,51,52,53,54,55,56,57,58,59,60,61,62,63,64,65,66,67,68,69,70,71,72,73,74,75,76] (by simp [mB]<;>rfl) (σ:=Nat) (fun k=>k≤K) (fun k=>K - k) (fun k=>[(6,.int .i64 k),(5,pvA R k)]) (fun _=>[B.cells [.str t.name,.lst 1 f (t.attrs.map V.str),.lst 2 g (R.map encRw)]]) 0 (by omega) (by simp [pvA]) (by simp) (by simp) ?_)
 intro k hk N Q hN hQ
 by_cases hkb:k<K
 ·have hT512:=asR_len R (k+1)
  have hT8:=pow_k (k:=k+1) h8 (by omega)
  obtain ⟨T,hT⟩:∃T,T=asR R (k+1):=⟨_,rfl⟩
  rw [←hT] at hT512
  have hTf:(asR R k).flatMap (stepA R)=T:=by rw [hT]; rfl
  have hpk:pvA R (k+1)=LRR T:=by unfold pvA; rw [if_neg (by omega),hT]
  have hol:∀o∈asR R k,o.length=k:=fun o ho=>(asR_mem.1 ho).1
  by_cases hk0:k=0
  ·subst hk0
   obtain ⟨os,hos⟩:∃os:List (List Rw),os=[[]]:=⟨_,rfl⟩
   have hpv:pvA R 0 = .lst 1 true [.nilS]:=rfl
   rw [show asR R 0=os from hos.symm] at hTf hol
   have hosl:os.length=1:=by rw [hos]; rfl
   have ho512:os.length≤512:=by omega
   refine W_x (tok_flag tok (fun t=>t == 30)) mixed ?_
   simp -implicitDefEqProofs -dsimp [show (0:Int)<(K:Int) by omega,hkb,hpv,flagT]
   refine lw_of (W_own 30 1 [7] (by simp) (W_loopM 76 [7,8,9,10,11,18,19,20,21,22,23,24,25,26,27,28,29,30,31,32,33,34,35,36,37,38,39,40,41,42,43,44,45,46,47,48,49,50,51,52,53,54,55,56,57,58,59,60,61,62,63,64,65,66,67,68,69,70,71,72,73,74,75] (by simp [mB]<;>rfl) (σ:=Nat×List (List Rw)) (fun p=>p.2++(os.drop p.1).flatMap (stepA R)=T) (fun p=>os.length - p.1) (fun p=>[(8,.int .i64 p.1),(7,.buf 1 0 p.2.length p.2.length)]) (fun p=>[B.cells [.str t.name,.lst 1 f (t.attrs.map V.str),.lst 2 g (R.map encRw)],B.buf 30 1 (p.2.map (LR false)) false]) (0,[]) (by simpa using hTf) (by simp) (by simp) (by simp) ?_))
   rintro ⟨i,cur⟩ hx N1 Q1 hN1 hQ1
   simp only at hx
   by_cases hib:i<os.length
   ·rw [List.drop_eq_getElem_cons hib,List.flatMap_cons] at hx
    have hoi:=hol _ (List.getElem_mem hib)
    obtain ⟨o,hoe⟩:∃o,o=os[i]:=⟨_,rfl⟩
    rw [←hoe] at hx hoi
    obtain ⟨Z,hZ⟩:∃Z,Z=(os.drop (i+1)).flatMap (stepA R):=⟨_,rfl⟩
    rw [←hZ] at hx
    obtain rfl:i=0:=by omega
    refine W_x (tok_flag tok (fun t=>t == 30)) mixed ?_
    simp -implicitDefEqProofs -dsimp [hpv,flagT]
    refine lw_of (W_loopM 76 [7,9,10,11,24,25,26,27,28,29,30,31,32,33,34,35,36,37,38,39,40,41,42,43,44,45,46,47,48,49,50,51,52,53,54,55,56,57,58,59,60,61,62,63,64,65,66,67,68,69,70,71,72,73,74,75] (by simp [mB]<;>rfl) (σ:=Nat×List (List Rw)) (fun p=>p.2++(((R.drop p.1).filter fun r=>!usedR o r).map (fun r=>o++[r])++Z)=T) (fun p=>R.length - p.1) (fun p=>[(9,.int .i64 p.1),(7,.buf 1 0 p.2.length p.2.length)]) (fun p=>[B.cells [.str t.name,.lst 1 f (t.attrs.map V.str),.lst 2 g (R.map encRw)],B.buf 30 1 (p.2.map (LR false)) false]) (0,cur) (by rw [←hx]; rfl) (by simp) (by simp) (by simp) ?_)
    rintro ⟨j,cur2⟩ hx2 N2 Q2 hN2 hQ2
    simp only at hx2
    by_cases hjb:j<R.length
    ·rw [step_cons hjb] at hx2
     obtain ⟨r,hre⟩:∃r,r=R[j]:=⟨_,rfl⟩
     rw [←hre] at hx2
     have hcl:cur2.length≤512:=by
      have:=congrArg List.length hx2
      simp only [List.length_append] at this
      omega
     refine W_seq ?_
     refine W_x (tok_flag tok (fun t=>t == 30)) mixed ?_
     simp -implicitDefEqProofs -dsimp [hjb,flagT]
     refine W_seq ?_
     refine W_block ?_
     refine W_seq ?_
     refine W_x (tok_flag tok (fun t=>t == 30)) mixed ?_
     simp -implicitDefEqProofs -dsimp [flagT]
     refine W_seq ?_
     refine W_x (tok_flag tok (fun t=>t == 30)) mixed ?_
     simp -implicitDefEqProofs -dsimp [flagT]
     refine lw_of (W_loopM 58 [10,11,31,32,33,34,35,36,37,38,39,40,41,42,43,44,45,46,47,48,49,50,51,52,53,54,55,56,57] (by simp [mB]<;>rfl) (σ:=Nat) (fun _=>True) (fun q=>0 - q) (fun q=>[(11,.int .i64 q),(10,.bool false)]) (fun _=>[B.cells [.str t.name,.lst 1 f (t.attrs.map V.str),.lst 2 g (R.map encRw)],B.buf 30 1 (cur2.map (LR false)) false]) 0 trivial (by simp) (by simp) (by simp) ?_)
     rintro x hu N3 Q3 hN3 hQ3
     have ho0:o=[]:=List.eq_nil_of_length_eq_zero hoi
     subst ho0
     rw [if_neg (by simp [usedR])] at hx2
     refine W_x (tok_flag tok (fun t=>t == 30)) mixed ?_
     simp -implicitDefEqProofs -dsimp [hpv,show ¬(x:Int)<0 by omega,flagT]
     refine hQ3 _ _ _ ?_
     simp -implicitDefEqProofs -dsimp [flagT]
     refine W_x (tok_flag tok (fun t=>t == 30)) mixed ?_
     simp -implicitDefEqProofs -dsimp [hpv,flagT]
     refine lw_of (W_drawT (tok_flag tok (fun t=>t == 30)) mixed [6,13,15] [(0,[1,2]),(7,[0]),(8,[0]),(9,[0]),(10,[0]),(11,[0]),(12,[0])] [] (by kernel_rfl) fun C K hC hK=>?_)
     simp -implicitDefEqProofs [hpv,hjb,hre.symm,encRw,LR,LV,show IntKind.i64.wrap (1:Int)=1 from wrap64 (by omega) (by omega),cap24L cur2.length (by omega),wrapN cur2.length (by omega),flagT]
     refine hK _ _ ?_
     simp -implicitDefEqProofs -dsimp [flagT]
     refine W_x (tok_flag tok (fun t=>t == 30)) mixed ?_
     simp -implicitDefEqProofs -dsimp [wrapS j (by omega),flagT]
     refine hN2 (j+1,cur2++[[r]]) _ _ (by rw [←hx2]; simp) (by simp only; omega) (by simp [hpv]) ⟨[],by simp [LR,encRw,LV]⟩ (by simp [hpv]) (hrb2 _)
    ·rw [List.drop_of_length_le (show R.length≤j by omega),List.filter_nil,List.map_nil,List.nil_append] at hx2
     refine W_x (tok_flag tok (fun t=>t == 30)) mixed ?_
     simp -implicitDefEqProofs -dsimp [hjb,flagT]
     refine hQ2 _ _ _ ?_
     simp -implicitDefEqProofs -dsimp [show IntKind.i64.wrap (1:Int)=1 from wrap64 (by omega) (by omega),flagT]
     refine hN1 (0+1,cur2) _ _ (by rw [←hx2,hZ]) (by simp only; omega) (by simp) ⟨[],by simp⟩ (by simp) (hrb2 _)
   ·rw [List.drop_of_length_le (show os.length≤i by omega),List.flatMap_nil,List.append_nil] at hx
    subst hx
    refine W_frz 1 [7] rfl (by simp) ?_
    refine W_x (tok_flag tok (fun t=>t == 30)) mixed ?_
    simp -implicitDefEqProofs -dsimp [show ¬(i:Int)<1 by omega,hpv,flagT]
    refine hQ1 _ _ _ ?_
    simp -implicitDefEqProofs -dsimp [show IntKind.i64.wrap (1:Int)=1 from wrap64 (by omega) (by omega),flagT]
    refine hN (0+1) _ _ (by omega) (by omega) (by simp [hpk,LRR]) ⟨[B.buf 30 1 (cur.map (LR false)) true],by simp⟩ (by simp [hpk,LRR]) hrb
  ·obtain ⟨os,hos⟩:∃os:List (List Rw),os=asR R k:=⟨_,rfl⟩
   rw [←hos] at hTf hol
   have ho512:os.length≤512:=by rw [hos]; have:=asR_len R k; have:=pow_k (k:=k) h8 (by omega); omega
   have hpv:pvA R k = .lst 1 false (os.map (LR false)):=by unfold pvA; rw [if_neg hk0,hos]; rfl
   refine W_x (tok_flag tok (fun t=>t == 30)) mixed ?_
   simp -implicitDefEqProofs -dsimp [show (k:Int)<(K:Int) by omega,hkb,hpv,flagT]
   refine lw_of (W_own 30 1 [7] (by simp) (W_loopM 76 [7,8,9,10,11,18,19,20,21,22,23,24,25,26,27,28,29,30,31,32,33,34,35,36,37,38,39,40,41,42,43,44,45,46,47,48,49,50,51,52,53,54,55,56,57,58,59,60,61,62,63,64,65,66,67,68,69,70,71,72,73,74,75] (by simp [mB]<;>rfl) (σ:=Nat×List (List Rw)) (fun p=>p.2++(os.drop p.1).flatMap (stepA R)=T) (fun p=>os.length - p.1) (fun p=>[(8,.int .i64 p.1),(7,.buf 1 0 p.2.length p.2.length)]) (fun p=>[B.cells [.str t.name,.lst 1 f (t.attrs.map V.str),.lst 2 g (R.map encRw)],B.buf 30 1 (p.2.map (LR false)) false]) (0,[]) (by simpa using hTf) (by simp) (by simp) (by simp) ?_))
   rintro ⟨i,cur⟩ hx N1 Q1 hN1 hQ1
   simp only at hx
   by_cases hib:i<os.length
   ·rw [List.drop_eq_getElem_cons hib,List.flatMap_cons] at hx
    have hoi:=hol _ (List.getElem_mem hib)
    obtain ⟨o,hoe⟩:∃o,o=os[i]:=⟨_,rfl⟩
    rw [←hoe] at hx hoi
    obtain ⟨Z,hZ⟩:∃Z,Z=(os.drop (i+1)).flatMap (stepA R):=⟨_,rfl⟩
    rw [←hZ] at hx
    refine W_x (tok_flag tok (fun t=>t == 30)) mixed ?_
    simp -implicitDefEqProofs -dsimp [hib,hpv,hoe.symm,flagT]
    refine lw_of (W_loopM 76 [7,9,10,11,24,25,26,27,28,29,30,31,32,33,34,35,36,37,38,39,40,41,42,43,44,45,46,47,48,49,50,51,52,53,54,55,56,57,58,59,60,61,62,63,64,65,66,67,68,69,70,71,72,73,74,75] (by simp [mB]<;>rfl) (σ:=Nat×List (List Rw)) (fun p=>p.2++(((R.drop p.1).filter fun r=>!usedR o r).map (fun r=>o++[r])++Z)=T) (fun p=>R.length - p.1) (fun p=>[(9,.int .i64 p.1),(7,.buf 1 0 p.2.length p.2.length)]) (fun p=>[B.cells [.str t.name,.lst 1 f (t.attrs.map V.str),.lst 2 g (R.map encRw)],B.buf 30 1 (p.2.map (LR false)) false]) (0,cur) (by rw [←hx]; rfl) (by simp) (by simp) (by simp) ?_)
    rintro ⟨j,cur2⟩ hx2 N2 Q2 hN2 hQ2
    simp only at hx2
    by_cases hjb:j<R.length
    ·rw [step_cons hjb] at hx2
     obtain ⟨r,hre⟩:∃r,r=R[j]:=⟨_,rfl⟩
     rw [←hre] at hx2
     have hcl:cur2.length≤512:=by
      have:=congrArg List.length hx2
      simp only [List.length_append] at this
      omega
     refine W_seq ?_
     refine W_x (tok_flag tok (fun t=>t == 30)) mixed ?_
     simp -implicitDefEqProofs -dsimp [hjb,flagT]
     refine W_seq ?_
     refine W_block ?_
     refine W_seq ?_
     refine W_x (tok_flag tok (fun t=>t == 30)) mixed ?_
     simp -implicitDefEqProofs -dsimp [flagT]
     refine W_seq ?_
     refine W_x (tok_flag tok (fun t=>t == 30)) mixed ?_
     simp -implicitDefEqProofs -dsimp [flagT]
     refine lw_of (W_loopM 58 [10,11,31,32,33,34,35,36,37,38,39,40,41,42,43,44,45,46,47,48,49,50,51,52,53,54,55,56,57] (by simp [mB]<;>rfl) (σ:=Nat×Bool) (fun q=>(q.2||usedR (o.drop q.1) r)=usedR o r) (fun q=>o.length - q.1) (fun q=>[(11,.int .i64 q.1),(10,.bool q.2)]) (fun _=>[B.cells [.str t.name,.lst 1 f (t.attrs.map V.str),.lst 2 g (R.map encRw)],B.buf 30 1 (cur2.map (LR false)) false]) (0,false) (by simp) (by simp) (by simp) (by simp) ?_)
     rintro ⟨x,b⟩ hu N3 Q3 hN3 hQ3
     simp only at hu
     by_cases hxb:x<o.length
     ·rw [List.drop_eq_getElem_cons hxb] at hu
      obtain ⟨y,hye⟩:∃y,y=o[x]:=⟨_,rfl⟩
      rw [←hye] at hu
      rw [show usedR (y::o.drop (x+1)) r=((y.id == r.id)||usedR (o.drop (x+1)) r) from rfl,←Bool.or_assoc] at hu
      cases b with
      | true =>
       refine W_x (tok_flag tok (fun t=>t == 30)) mixed ?_
       simp -implicitDefEqProofs -dsimp [hib,hpv,hoe.symm,hxb,LR,flagT]
       refine .inr ⟨stop_of (by kernel_rfl),?_⟩
       simp -implicitDefEqProofs -dsimp [wrapS x (by omega),flagT]
       refine hN3 (x+1,true) _ _ (by simpa using hu) (by simp only; omega) (by simp) ⟨[],by simp⟩ (by simp [hpv]) (hrb2 _)
      | false =>
       rw [Bool.false_or] at hu
       refine W_x (tok_flag tok (fun t=>t == 30)) mixed ?_
       simp -implicitDefEqProofs -dsimp [hib,hpv,hoe.symm,hxb,hye.symm,hjb,hre.symm,encRw,LR,LV,flagT]
       refine .inr ⟨stop_of (by kernel_rfl),?_⟩
       simp -implicitDefEqProofs -dsimp [wrapS x (by omega),flagT]
       refine hN3 (x+1,y.id == r.id) _ _ hu (by simp only; omega) (by simp) ⟨[],by simp⟩ (by simp [hpv]) (hrb2 _)
     ·rw [List.drop_of_length_le (show o.length≤x by omega)] at hu
      rw [show usedR [] r=false from rfl,Bool.or_false] at hu
      cases b with
      | true =>
       rw [if_pos hu.symm,List.nil_append] at hx2
       refine W_x (tok_flag tok (fun t=>t == 30)) mixed ?_
       simp -implicitDefEqProofs -dsimp [hib,hpv,hoe.symm,hxb,LR,flagT]
       refine hQ3 _ _ _ ?_
       simp -implicitDefEqProofs -dsimp [flagT]
       refine W_seq ?_
       refine W_x (tok_flag tok (fun t=>t == 30)) mixed ?_
       simp -implicitDefEqProofs -dsimp [flagT]
       refine W_x (tok_flag tok (fun t=>t == 30)) mixed ?_
       simp -implicitDefEqProofs -dsimp [flagT]
       refine W_x (tok_flag tok (fun t=>t == 30)) mixed ?_
       simp -implicitDefEqProofs -dsimp [wrapS j (by omega),flagT]
       refine hN2 (j+1,cur2) _ _ hx2 (by simp only; omega) (by simp) ⟨[],by simp⟩ (by simp [hpv]) (hrb2 _)
      | false =>
       rw [if_neg (by rw [←hu]; simp)] at hx2
       refine W_x (tok_flag tok (fun t=>t == 30)) mixed ?_
       simp -implicitDefEqProofs -dsimp [hib,hpv,hoe.symm,hxb,LR,flagT]
       refine hQ3 _ _ _ ?_
       simp -implicitDefEqProofs -dsimp [flagT]
       refine W_x (tok_flag tok (fun t=>t == 30)) mixed ?_
       simp -implicitDefEqProofs -dsimp [hpv,flagT]
       have hone:¬o=[]:=fun e=>by rw [e] at hoi; simp at hoi; omega
       refine lw_of (W_drawT tok mixed [6,13,15] [(0,[1,2]),(7,[0]),(8,[0]),(9,[0]),(10,[0]),(11,[0]),(12,[0])] [] (by kernel_rfl) fun C K hC hK=>?_)
       simp -implicitDefEqProofs [hone,hib,hpv,hoe.symm,hjb,hre.symm,encRw,LR,LV,hoi,hk0,show k≤9223372036854775807 by omega,show k*32≤140737488355328 by omega,show k+1≤9223372036854775807 by omega,show (k+1)*32≤140737488355328 by omega,cap24L cur2.length (by omega),wrapN cur2.length (by omega)]
       refine hK _ _ ?_
       simp -implicitDefEqProofs -dsimp [flagT]
       refine W_frzB 2 cur2.length (k0:=1) (by decide) rfl rfl (by simp [hoi]) ?_
       refine W_x (tok_flag tok (fun t=>t == 30)) mixed ?_
       simp -implicitDefEqProofs -dsimp [wrapS j (by omega),flagT]
       refine hN2 (j+1,cur2++[o++[r]]) _ _ (by rw [←hx2]; simp) (by simp only; omega) (by simp [hpv]) ⟨_,by simp [LR,encRw,LV]; rfl⟩ (by simp [hpv]) (hrb2 _)
    ·rw [List.drop_of_length_le (show R.length≤j by omega),List.filter_nil,List.map_nil,List.nil_append] at hx2
     refine W_x (tok_flag tok (fun t=>t == 30)) mixed ?_
     simp -implicitDefEqProofs -dsimp [hjb,flagT]
     refine hQ2 _ _ _ ?_
     simp -implicitDefEqProofs -dsimp [wrapS i (by omega),flagT]
     refine hN1 (i+1,cur2) _ _ (by rw [←hx2,hZ]) (by simp only; omega) (by simp) ⟨[],by simp⟩ (by simp) (hrb2 _)
   ·rw [List.drop_of_length_le (show os.length≤i by omega),List.flatMap_nil,List.append_nil] at hx
    subst hx
    refine W_frz 1 [7] rfl (by simp) ?_
    refine W_x (tok_flag tok (fun t=>t == 30)) mixed ?_
    simp -implicitDefEqProofs -dsimp [hib,hpv,flagT]
    refine hQ1 _ _ _ ?_
    simp -implicitDefEqProofs -dsimp [wrapS k (by omega),flagT]
    refine hN (k+1) _ _ (by omega) (by omega) (by simp [hpk,LRR]) ⟨[B.buf 30 1 (cur.map (LR false)) true],by simp⟩ (by simp [hpk,LRR]) hrb
 ·obtain rfl:k=K:=by omega
  have hpk:pvA R k=LRR (asR R k):=by unfold pvA; rw [if_neg (by omega)]
  refine W_x (tok_flag tok (fun t=>t == 30)) mixed ?_
  simp -implicitDefEqProofs -dsimp [hkb,hpk,flagT]
  refine hQ _ _ _ ?_
  simp -implicitDefEqProofs -dsimp [flagT]
  exact .pure _ (LRR_pure _)
theorem error18 (t:Tb) (d:Dn) (f g f2:Bool) (h:TbS t) (ha:d.atoms.length≤1000000) (hv:validT t=0) (ho:dnB t.attrs.length d=true):ConP Tryz.prog 209 [encTb f g t,encDn f2 d] fun r=>r = .int .i64 0:=by
 have c1:=valid03 t f g h.ok
 rw [hv] at c1
 have c2:=valid18 t.attrs.length d f2 ha
 rw [ho] at c2
 have h8:=h.few
 simp only [encTb,LS,LR,encDn,LA] at c1 c2
 by_cases h3:d.vars=3
 ·rw [h3] at c2
  refine conP_of_conH (conH_of_W tok Tryz.func209 rfl rfl ?_)
  refine wx ?_
  simp -implicitDefEqProofs -dsimp [Tryz.f209,List.replicate,encTb,LS,LR,encDn,LA,h3]
  refine (callP (c1) (by simp)).mono ?_
  rintro r H' ⟨rfl,rfl⟩
  simp -implicitDefEqProofs -dsimp []
  refine (callP (c2) (by simp)).mono ?_
  rintro r H' ⟨rfl,rfl⟩
  simp -implicitDefEqProofs -dsimp [show ¬(200:Int)<t.rows.length by omega]
 ·refine conP_of_conH (conH_of_W tok Tryz.func209 rfl rfl ?_)
  refine wx ?_
  simp -implicitDefEqProofs -dsimp [Tryz.f209,List.replicate,encTb,LS,LR,encDn,LA]
  refine (callP (c1) (by simp)).mono ?_
  rintro r H' ⟨rfl,rfl⟩
  simp -implicitDefEqProofs -dsimp []
  refine (callP (c2) (by simp)).mono ?_
  rintro r H' ⟨rfl,rfl⟩
  simp -implicitDefEqProofs -dsimp [h3]
theorem fold_cons {α β:Type} {f:β→α→β} {l:List α} {i:Nat} {o:β} (h:i<l.length):(l.drop i).foldl f o=(l.drop (i+1)).foldl f (f o l[i]):=by
 rw [List.drop_eq_getElem_cons h,List.foldl_cons]
theorem putR_lens {l:List (List Int)} {x:List Int} (hl:∀e∈l,e.length≤3) (hx:x.length≤3):∀e∈putR l x,e.length≤3:=fun e he=>by
 rcases putR_mem.1 he with h | h
 ·exact hl e h
 ·rw [h]; exact hx
theorem viol18 (t:Tb) (d:Dn) (f g f2:Bool) (h:TbS t) (hd:DnS d) (ha:d.atoms.length≤1000000) (hv:validT t=0) (ho:dnB t.attrs.length d=true):ConP Tryz.prog 146 [encTb f g t,encDn f2 d] fun r=>r = .tup [LL false ((asR t.rows d.vars.toNat).foldl (stR d) []),.int .i64 0]:=by
 have ct:=tbC hv
 obtain ⟨v1,v3⟩:=dn_vars ho
 have hat:=at_ok ct h hd ho
 have c1:=error18 t d f g f2 h ha hv ho
 obtain ⟨K,hK⟩:∃K,K=d.vars.toNat:=⟨_,rfl⟩
 have hKv:d.vars=(K:Int):=by omega
 have c2:=assign18 t f g K (by omega) (by omega) h.few
 have has512:(asR t.rows K).length≤512:=by have:=asR_len t.rows K; have:=pow_k (k:=K) h.few (by omega); omega
 have hrs:∀rs∈asR t.rows K,rs.length=K∧∀r∈rs,r∈t.rows:=fun rs hrs=>⟨(asR_mem.1 hrs).1,fun r hr=>extA_mem (asR_mem.1 hrs).2 r hr⟩
 rw [←hK] at hat ⊢
 obtain ⟨az,hase⟩:∃az,az=asR t.rows K:=⟨_,rfl⟩
 rw [←hase] at c2 has512 hrs ⊢
 obtain ⟨E,hE⟩:∃E,E=az.foldl (stR d) []:=⟨_,rfl⟩
 rw [←hE]
 have htr:∀n,rbB n (tcB t f g):=fun n=>tcB_rb n t f g
 have hdr:∀n,rbB n (dcB d f2):=fun n=>dcB_rb n d f2
 obtain ⟨tc,htc⟩:∃tc,tc=tcB t f g:=⟨_,rfl⟩
 obtain ⟨dc,hdc⟩:∃dc,dc=dcB d f2:=⟨_,rfl⟩
 rw [←htc] at htr
 rw [←hdc] at hdr
 have htB:B.cells [.str t.name,.lst 1 f (t.attrs.map V.str),.lst 2 g (t.rows.map encRw)]=tc:=by rw [htc]; rfl
 have hdB:B.cells [.int .i64 K,.lst 11 f2 (d.atoms.map encAt)]=dc:=by rw [hdc]; unfold dcB; rw [hKv]
 have hrb:∀o:List (List Int),∀bl∈[tc,dc,B.buf 34 1 (o.map (L1 false)) false],rbB 3 bl:=fun o bl hbl=>by
  simp only [List.mem_cons,List.not_mem_nil,or_false] at hbl
  rcases hbl with rfl | rfl | rfl
  ·exact htr _
  ·exact hdr _
  ·exact LF_rb _ _ _
 simp only [encTb,LR,LS,encDn,LA,LRR] at c1 c2
 rw [hKv] at c1
 refine conP_of_conH (conH_of_W tok Tryz.func146 rfl rfl ?_)
 refine wx ?_
 simp -implicitDefEqProofs -dsimp [Tryz.f146,List.replicate,encTb,encDn,LR,LS,LA,hKv]
 refine (callP (c1) (by simp)).mono ?_
 rintro r H' ⟨rfl,rfl⟩
 simp -implicitDefEqProofs -dsimp []
 refine (callP (c2) (by simp)).mono ?_
 rintro r H' ⟨rfl,rfl⟩
 simp -implicitDefEqProofs -dsimp []
 rw [htB,hdB]
 refine lw_of (W_own 34 1 [7] (by simp) (W_loopM 39 [7,9,20,21,22,23,24,25,26,27,28,29,30,31,32,33,34,35,36,37,38] (by simp [mB]<;>rfl) (σ:=Nat×List (List Int)) (fun p=>p.1≤az.length∧p.2.length≤p.1∧(∀e∈p.2,e.length≤3)∧(az.drop p.1).foldl (stR d) p.2=E) (fun p=>az.length - p.1) (fun p=>[(9,.int .i64 p.1),(7,.buf 2 0 p.2.length p.2.length)]) (fun p=>[tc,dc,B.buf 34 1 (p.2.map (L1 false)) false]) (0,[]) ⟨by simp,by simp,by simp,by rw [hE,List.drop_zero]⟩ (by simp) (by simp) (by simp) ?_))
 rintro ⟨i,out⟩ ⟨hi,hol,hle,hx⟩ N Q hN hQ
 simp only at hi hol hle hx
 by_cases hb:i<az.length
 ·rw [fold_cons hb] at hx
  obtain ⟨q1,q2⟩:=hrs _ (List.getElem_mem hb)
  obtain ⟨rs,hre⟩:∃rs,rs=az[i]:=⟨_,rfl⟩
  rw [←hre] at hx q1 q2
  have c3:=all18 d rs f2 false (hat rs q1 q2) (by omega) ha
  have c4:=asc18 rs false (by omega)
  have c5:=put18 tc dc htr hdr out (srt (idsR rs)) (by omega) (fun e he=>by have:=hle e he; omega) (by rw [srt_len,idsR_len]; omega)
  have hsl:(srt (idsR rs)).length≤3:=by rw [srt_len,idsR_len]; omega
  have hpl:=putR_len out (srt (idsR rs))
  have hps:=putR_lens hle hsl
  unfold stR at hx
  simp only [encDn,LR,LA,L1] at c3 c4 c5
  rw [hKv] at c3
  cases hs:allS d rs with
  | false =>
   rw [hs] at c3 hx
   rw [if_neg (by simp)] at hx
   refine wx ?_
   simp -implicitDefEqProofs -dsimp [hb,hre.symm,LR,←hdB]
   refine .inr ⟨stop_of (by kernel_rfl),?_⟩
   refine cy_of _ (callP (c3) (by simp)) ?_
   simp -implicitDefEqProofs -dsimp [wrapS i (by omega)]
   rw [hdB]
   refine hN (i+1,out) _ _ ⟨by simp only; omega,by simp only; omega,hle,hx⟩ (by simp only; omega) (by simp) ⟨[],by simp⟩ (by simp) (hrb _)
  | true =>
   rw [hs] at c3 hx
   rw [if_pos rfl] at hx
   obtain ⟨O,hO⟩:∃O,O=putR out (srt (idsR rs)):=⟨_,rfl⟩
   rw [←hO] at c5 hx hpl hps
   obtain ⟨S,hS⟩:∃S,S=srt (idsR rs):=⟨_,rfl⟩
   rw [←hS] at c4 c5
   refine wx ?_
   simp -implicitDefEqProofs -dsimp [hb,hre.symm,LR,←hdB]
   refine .inr ⟨stop_of (by kernel_rfl),?_⟩
   refine cy_of _ (callP (c3) (by simp)) ?_
   simp -implicitDefEqProofs -dsimp [hb,hre.symm,LR]
   rw [hdB]
   refine (callP (c4) (by simp)).mono ?_
   rintro r H' ⟨rfl,rfl⟩
   simp -implicitDefEqProofs -dsimp []
   refine wcZ c5 ?_
   rintro r H' ⟨rfl,rfl⟩
   simp -implicitDefEqProofs -dsimp [wrapS i (by omega)]
   refine hN (i+1,O) _ _ ⟨by simp only; omega,by simp only; omega,hps,hx⟩ (by simp only; omega) (by simp) ⟨[],by simp⟩ (by simp) (hrb _)
 ·rw [List.drop_of_length_le (by omega),List.foldl_nil] at hx
  subst hx
  refine W_frz 2 [7] rfl (by simp) ?_
  refine wx ?_
  simp -implicitDefEqProofs -dsimp [hb]
  refine hQ _ _ _ ?_
  simp -implicitDefEqProofs -dsimp [LL]
  skip
theorem sub_full (x n:Nat):decide (x &&& fullN n=x)=decide (x / 2^n=0):=by
 refine decide_eq_decide.2 ⟨fun h=>?_,fun h=>?_⟩
 ·refine Nat.div_eq_of_lt ?_
  refine Nat.lt_pow_two_of_testBit x fun i hi=>?_
  rw [←h,Nat.testBit_and,fullN_bit]
  simp
  omega
 ·have hx:x<2^n:=by
   have hp:0<2^n:=Nat.two_pow_pos n
   rcases Nat.lt_or_ge x (2^n) with h1 | h1
   ·exact h1
   ·have:=Nat.div_pos h1 hp; omega
  refine Nat.eq_of_testBit_eq fun i=>?_
  rw [Nat.testBit_and,fullN_bit]
  by_cases hi:i<n
  ·simp [hi]
  ·have:x.testBit i=false:=Nat.testBit_lt_two_pow (Nat.lt_of_lt_of_le hx (Nat.pow_le_pow_right (by omega) (by omega)))
   simp [this]
theorem pairs37 (t:Tb) (d:Fd) (f g:Bool) (h:TbS t) (hv:validT t=0) (hd:d.l<4294967296∧d.r<4294967296) (ho:fdOk1 t.attrs.length d=true):ConP Tryz.prog 143 [encTb f g t,encF d] fun r=>r = .tup [LL false (prL (fdP d.l d.r) t.rows),.int .i64 0]:=by
 refine conP_LT ?_
 have ct:=tbC hv
 have hn:=ct.wide
 have h1:=or32 d.l d.r hd.1 hd.2
 have c1:=full02 t.attrs.length (by omega)
 have hol:d.l ||| d.r<4294967296:=Nat.or_lt_two_pow (n:=32) hd.1 hd.2
 have c2:=sub02 (d.l ||| d.r) (fullN t.attrs.length) hol (fullN_lt _ (by omega))
 rw [sub_full] at c2
 unfold fdOk1 at ho
 rw [ho] at c2
 obtain ⟨o,hoe⟩:∃o,o=d.l ||| d.r:=⟨_,rfl⟩
 rw [←hoe] at h1 c2
 obtain ⟨R,hR⟩:∃R,R=t.rows:=⟨_,rfl⟩
 obtain ⟨E,hE⟩:∃E,E=prL (fdP d.l d.r) R:=⟨_,rfl⟩
 have hR8:R.length≤8:=by rw [hR]; exact h.few
 have hE64:E.length≤64:=by rw [hE]; exact Nat.le_trans (prL_len R) (sq8 hR8)
 have hlen:∀r∈R,r.vals.length≤16:=by rw [hR]; exact fun r hr=>by have:=ct.len r hr; omega
 have hsz:∀r∈R,∀v∈r.vals,v.s.size≤maxLen:=by rw [hR]; exact h.sz
 rw [←hR,←hE]
 have hrb:∀o:List (List Int),∀bl∈[B.cells [.str t.name,.lst 1 f (t.attrs.map V.str),.lst 2 g (R.map encRw)],B.cells [.int .u32 (d.l:Int),.int .u32 (d.r:Int)],B.buf 34 1 (o.map (L1 true)) false],rbB 3 bl:=fun o bl hbl=>by
  simp only [List.mem_cons,List.not_mem_nil,or_false] at hbl
  rcases hbl with rfl | rfl | rfl
  ·intro c hc; simp at hc; rcases hc with rfl | rfl | rfl<;>simp [rb,rb1]
  ·intro c hc; simp at hc; rcases hc with rfl | rfl<;>simp [rb,rb1]
  ·exact LT_rb _ _ _
 refine conP_of_conH (conH_of_W (tok_flag tok (fun t=>t == 34)) Tryz.func143 rfl rfl ?_)
 refine W_x (tok_flag tok (fun t=>t == 34)) mixed ?_
 simp -implicitDefEqProofs -dsimp [Tryz.f143,List.replicate,encTb,encF,LR,LS,hR.symm,h1,L1,flagT]
 refine .inr ⟨stop_of (by kernel_rfl),?_⟩
 refine cy_of _ (callP (c1) (by simp)) ?_
 simp -implicitDefEqProofs -dsimp [L1,flagT]
 refine cy_of _ (callP (c2) (by simp)) ?_
 simp -implicitDefEqProofs -dsimp [L1,flagT]
 refine lw_of (W_own 34 1 [6] (by simp) (W_loopM 81 [6,7,8,20,21,22,23,24,25,26,27,28,29,30,31,32,33,34,35,36,37,38,39,40,41,42,43,44,45,46,47,48,49,50,51,52,53,54,55,56,57,58,59,60,61,62,63,64,65,66,67,68,69,70,71,72,73,74,75,76,77,78,79,80] (by simp [mB]<;>rfl) (σ:=Nat×List (List Int)) (fun p=>p.2++prL (fdP d.l d.r) (R.drop p.1)=E) (fun p=>R.length - p.1) (fun p=>[(7,.int .i64 p.1),(6,.buf 2 0 p.2.length p.2.length)]) (fun p=>[B.cells [.str t.name,.lst 1 f (t.attrs.map V.str),.lst 2 g (R.map encRw)],B.cells [.int .u32 (d.l:Int),.int .u32 (d.r:Int)],B.buf 34 1 (p.2.map (L1 true)) false]) (0,[]) (by rw [hE]; rfl) (by simp) (by simp) (by simp) ?_))
 rintro ⟨i,out⟩ hx N Q hN hQ
 simp only at hx
 by_cases hb:i<R.length
 ·rw [pr_cons hb] at hx
  have hri:=hlen _ (List.getElem_mem hb)
  have hsi:=hsz _ (List.getElem_mem hb)
  obtain ⟨r,hre⟩:∃r,r=R[i]:=⟨_,rfl⟩
  rw [←hre] at hx hri hsi
  refine W_x (tok_flag tok (fun t=>t == 34)) mixed ?_
  simp -implicitDefEqProofs -dsimp [hb,wrapS i (by omega),L1,flagT]
  refine lw_of (W_loopM 81 [6,8,29,30,31,32,33,34,35,36,37,38,39,40,41,42,43,44,45,46,47,48,49,50,51,52,53,54,55,56,57,58,59,60,61,62,63,64,65,66,67,68,69,70,71,72,73,74,75,76,77,78,79,80] (by simp [mB]<;>rfl) (σ:=Nat×List (List Int)) (fun p=>i<p.1∧p.2++((((R.drop p.1).filter (fdP d.l d.r r)).map fun s=>[r.id,s.id])++prL (fdP d.l d.r) (R.drop (i+1)))=E) (fun p=>R.length - p.1) (fun p=>[(8,.int .i64 p.1),(6,.buf 2 0 p.2.length p.2.length)]) (fun p=>[B.cells [.str t.name,.lst 1 f (t.attrs.map V.str),.lst 2 g (R.map encRw)],B.cells [.int .u32 (d.l:Int),.int .u32 (d.r:Int)],B.buf 34 1 (p.2.map (L1 true)) false]) (i+1,out) ⟨by simp,hx⟩ (by simp) (by simp) (by simp) ?_)
  rintro ⟨k,o2⟩ ⟨hk0,hx2⟩ N2 Q2 hN2 hQ2
  simp only at hk0 hx2
  by_cases hkb:k<R.length
  ·rw [in_cons hkb] at hx2
   have hrk:=hlen _ (List.getElem_mem hkb)
   obtain ⟨s,hse⟩:∃s,s=R[k]:=⟨_,rfl⟩
   rw [←hse] at hx2 hrk
   have c4:=agree03 r s (d.l:Int) (by omega) (by omega) hsi
   have c5:=agree03 r s (d.r:Int) (by omega) (by omega) hsi
   simp only [encRw,LV] at c4 c5
   have ho2:o2.length≤64:=by rw [←hx2] at hE64; simp only [List.length_append] at hE64; omega
   cases q1:agreeR r s (d.l:Int) with
   | false =>
    rw [q1] at c4
    rw [if_neg (by simp [fdP,q1]),List.nil_append] at hx2
    refine W_x (tok_flag tok (fun t=>t == 34)) mixed ?_
    simp -implicitDefEqProofs -dsimp [hb,hkb,hre.symm,hse.symm,encRw,LV,L1,flagT]
    refine .inr ⟨stop_of (by kernel_rfl),?_⟩
    refine cy_of _ (callP (c4) (by simp)) ?_
    simp -implicitDefEqProofs -dsimp [wrapS k (by omega),L1,flagT]
    refine hN2 (k+1,o2) _ _ ⟨by simp only; omega,hx2⟩ (by simp only; omega) (by simp) ⟨_,rfl⟩ (by simp) (by simp [L1])
   | true =>
    rw [q1] at c4
    cases q2:agreeR r s (d.r:Int) with
    | true =>
     rw [q2] at c5
     rw [if_neg (by simp [fdP,q2]),List.nil_append] at hx2
     refine W_x (tok_flag tok (fun t=>t == 34)) mixed ?_
     simp -implicitDefEqProofs -dsimp [hb,hkb,hre.symm,hse.symm,encRw,LV,L1,flagT]
     refine .inr ⟨stop_of (by kernel_rfl),?_⟩
     refine cy_of _ (callP (c4) (by simp)) ?_
     simp -implicitDefEqProofs -dsimp [hb,hkb,hre.symm,hse.symm,encRw,LV,L1,flagT]
     refine cy_of _ (callP (c5) (by simp)) ?_
     simp -implicitDefEqProofs -dsimp [wrapS k (by omega),L1,flagT]
     refine hN2 (k+1,o2) _ _ ⟨by simp only; omega,hx2⟩ (by simp only; omega) (by simp) ⟨_,rfl⟩ (by simp) (by simp [L1])
    | false =>
     rw [q2] at c5
     rw [if_pos (by simp [fdP,q1,q2])] at hx2
     refine W_x (tok_flag tok (fun t=>t == 34)) mixed ?_
     simp -implicitDefEqProofs -dsimp [hb,hkb,hre.symm,hse.symm,encRw,LV,L1,flagT]
     refine .inr ⟨stop_of (by kernel_rfl),?_⟩
     refine cy_of _ (callP (c4) (by simp)) ?_
     simp -implicitDefEqProofs -dsimp [hb,hkb,hre.symm,hse.symm,encRw,LV,L1,flagT]
     refine cy_of _ (callP (c5) (by simp)) ?_
     simp -implicitDefEqProofs -dsimp [L1,flagT]
     refine lw_of (W_drawT (tok_flag tok (fun t=>t == 34)) mixed [15] [] [] (by kernel_rfl) fun C K hC hK=>?_)
     simp -implicitDefEqProofs [hb,hkb,hre.symm,hse.symm,encRw,LV,cap24 o2.length (by omega),wrapN o2.length (by omega),L1,flagT]
     refine hK _ _ ?_
     simp -implicitDefEqProofs -dsimp [wrapS k (by omega),L1,flagT]
     refine hN2 (k+1,o2++[[r.id,s.id]]) _ _ ⟨by simp only; omega,by rw [←hx2]; simp⟩ (by simp only; omega) (by simp) ⟨[],by simp [encI,L1]⟩ (by simp) (hrb _)
  ·rw [List.drop_of_length_le (show R.length≤k by omega)] at hx2
   refine W_x (tok_flag tok (fun t=>t == 34)) mixed ?_
   simp -implicitDefEqProofs -dsimp [hkb,L1,flagT]
   refine hQ2 _ _ _ ?_
   simp -implicitDefEqProofs -dsimp [wrapS i (by omega),L1,flagT]
   refine hN (i+1,o2) _ _ (by simpa using hx2) (by simp only; omega) (by simp) ⟨_,rfl⟩ (by simp) (by simp [L1])
 ·rw [List.drop_of_length_le (show R.length≤i by omega),prL,List.append_nil] at hx
  subst hx
  refine W_frz 2 [6] rfl (by simp) ?_
  refine W_x (tok_flag tok (fun t=>t == 34)) mixed ?_
  simp -implicitDefEqProofs -dsimp [hb,L1,flagT]
  refine hQ _ _ _ ?_
  simp -implicitDefEqProofs -dsimp [LT,L1,flagT]
  skip
theorem pairs37e (t:Tb) (d:Fd) (f g:Bool) (hn:t.attrs.length≤16) (hd:d.l<4294967296∧d.r<4294967296) (ho:fdOk1 t.attrs.length d=false):ConP Tryz.prog 143 [encTb f g t,encF d] fun r=>r = .tup [.nilS,.int .i64 1]:=by
 have h1:=or32 d.l d.r hd.1 hd.2
 have c1:=full02 t.attrs.length (by omega)
 have hol:d.l ||| d.r<4294967296:=Nat.or_lt_two_pow (n:=32) hd.1 hd.2
 have c2:=sub02 (d.l ||| d.r) (fullN t.attrs.length) hol (fullN_lt _ (by omega))
 rw [sub_full] at c2
 unfold fdOk1 at ho
 rw [ho] at c2
 obtain ⟨o,hoe⟩:∃o,o=d.l ||| d.r:=⟨_,rfl⟩
 rw [←hoe] at h1 c2
 refine conP_of_conH (conH_of_W tok Tryz.func143 rfl rfl ?_)
 refine wx ?_
 simp -implicitDefEqProofs -dsimp [Tryz.f143,List.replicate,encTb,encF,LR,LS,h1]
 refine .inr ⟨stop_of (by kernel_rfl),?_⟩
 refine cy_of _ (callP (c1) (by simp)) ?_
 simp -implicitDefEqProofs -dsimp []
 refine cy_of _ (callP (c2) (by simp)) ?_
 simp -implicitDefEqProofs -dsimp []
def wlV (t:Tb) (c:Cn):V:=if cnErr t c=0 then LL false (cnR t c) else .nilS
theorem wlV_pure (t:Tb) (c:Cn):AM.Pure (wlV t c):=by
 unfold wlV
 split
 ·exact LL_pure _ _
 ·exact .nilS
theorem viol16e (t:Tb) (c:Cfd) (f g f2 g2:Bool) (h:TbOk t) (hl:c.l.length≤1000000) (hp:c.p.length≤1000000) (hv:validT t=0) (ho:cfB t.attrs.length c=false):ConP Tryz.prog 144 [encTb f g t,encCfd f2 g2 c] fun r=>r = .tup [.nilS,.int .i64 1]:=by
 have c1:=valid03 t f g h
 rw [hv] at c1
 have c2:=valid16 t.attrs.length c f2 g2 (tbC hv).wide hl hp
 rw [ho] at c2
 simp only [encTb,LS,LR,encCfd,L1,LCl] at c1 c2
 refine conP_of_conH (conH_of_W tok Tryz.func144 rfl rfl ?_)
 refine wx ?_
 simp -implicitDefEqProofs -dsimp [Tryz.f144,List.replicate,encTb,LS,LR,encCfd,L1,LCl]
 refine (callP (c1) (by simp)).mono ?_
 rintro r H' ⟨rfl,rfl⟩
 simp -implicitDefEqProofs -dsimp []
 refine (callP (c2) (by simp)).mono ?_
 rintro r H' ⟨rfl,rfl⟩
 simp -implicitDefEqProofs -dsimp []
theorem error17e (t:Tb) (d:Od) (f g f2 g2:Bool) (h:TbOk t) (hl:d.l.length≤1000000) (hr:d.r.length≤1000000) (hv:validT t=0) (ho:odB t.attrs.length d=false):ConP Tryz.prog 207 [encTb f g t,encOd f2 g2 d] fun r=>r = .int .i64 1:=by
 have c1:=valid03 t f g h
 rw [hv] at c1
 have c2:=valid17 t.attrs.length d f2 g2 hl hr
 rw [ho] at c2
 simp only [encTb,LS,LR,encOd,L1] at c1 c2
 refine conP_of_conH (conH_of_W tok Tryz.func207 rfl rfl ?_)
 refine wx ?_
 simp -implicitDefEqProofs -dsimp [Tryz.f207,List.replicate,encTb,LS,LR,encOd,L1]
 refine (callP (c1) (by simp)).mono ?_
 rintro r H' ⟨rfl,rfl⟩
 simp -implicitDefEqProofs -dsimp []
 refine (callP (c2) (by simp)).mono ?_
 rintro r H' ⟨rfl,rfl⟩
 simp -implicitDefEqProofs -dsimp []
theorem viol17e (t:Tb) (d:Od) (f g f2 g2:Bool) (h:TbOk t) (hl:d.l.length≤1000000) (hr:d.r.length≤1000000) (hv:validT t=0) (ho:odB t.attrs.length d=false):ConP Tryz.prog 145 [encTb f g t,encOd f2 g2 d] fun r=>r = .tup [.nilS,.int .i64 1]:=by
 have c1:=error17e t d f g f2 g2 h hl hr hv ho
 simp only [encTb,LS,LR,encOd,L1] at c1
 refine conP_of_conH (conH_of_W tok Tryz.func145 rfl rfl ?_)
 refine wx ?_
 simp -implicitDefEqProofs -dsimp [Tryz.f145,List.replicate,encTb,LS,LR,encOd,L1]
 refine (callP (c1) (by simp)).mono ?_
 rintro r H' ⟨rfl,rfl⟩
 simp -implicitDefEqProofs -dsimp []
theorem error18e (t:Tb) (d:Dn) (f g f2:Bool) (h:TbOk t) (ha:d.atoms.length≤1000000) (hv:validT t=0) (ho:dnB t.attrs.length d=false):ConP Tryz.prog 209 [encTb f g t,encDn f2 d] fun r=>r = .int .i64 1:=by
 have c1:=valid03 t f g h
 rw [hv] at c1
 have c2:=valid18 t.attrs.length d f2 ha
 rw [ho] at c2
 simp only [encTb,LS,LR,encDn,LA] at c1 c2
 refine conP_of_conH (conH_of_W tok Tryz.func209 rfl rfl ?_)
 refine wx ?_
 simp -implicitDefEqProofs -dsimp [Tryz.f209,List.replicate,encTb,LS,LR,encDn,LA]
 refine (callP (c1) (by simp)).mono ?_
 rintro r H' ⟨rfl,rfl⟩
 simp -implicitDefEqProofs -dsimp []
 refine (callP (c2) (by simp)).mono ?_
 rintro r H' ⟨rfl,rfl⟩
 simp -implicitDefEqProofs -dsimp []
theorem viol18e (t:Tb) (d:Dn) (f g f2:Bool) (h:TbOk t) (ha:d.atoms.length≤1000000) (hv:validT t=0) (ho:dnB t.attrs.length d=false):ConP Tryz.prog 146 [encTb f g t,encDn f2 d] fun r=>r = .tup [.nilS,.int .i64 1]:=by
 have c1:=error18e t d f g f2 h ha hv ho
 simp only [encTb,LS,LR,encDn,LA] at c1
 refine conP_of_conH (conH_of_W tok Tryz.func146 rfl rfl ?_)
 refine wx ?_
 simp -implicitDefEqProofs -dsimp [Tryz.f146,List.replicate,encTb,LS,LR,encDn,LA]
 refine (callP (c1) (by simp)).mono ?_
 rintro r H' ⟨rfl,rfl⟩
 simp -implicitDefEqProofs -dsimp []
theorem viol37 (t:Tb) (c:Cn) (f g:Bool) (h:TbS t) (hv:validT t=0) (hc:CnB c):ConP Tryz.prog 84 [encTb f g t,encCn c] fun r=>r = .tup [wlV t c,.int .i64 (cnErr t c)]:=by
 have ct:=tbC hv
 have hn:=ct.wide
 have hv0:∀e,cnErr t c=e→e≠0→wlV t c = .nilS:=fun e h1 h2=>by unfold wlV; rw [if_neg (by rw [h1]; exact h2)]
 have hv1:cnErr t c=0→wlV t c=LL false (cnR t c):=fun h1=>by unfold wlV; rw [if_pos h1]
 cases hnm:(c.table.toList == t.name.toList) with
 | false =>
  have he:cnErr t c=1:=by unfold cnErr; rw [hnm]; rfl
  rw [he,hv0 1 he (by decide)]
  refine conP_of_conH (conH_of_W tok Tryz.func84 rfl rfl ?_)
  refine wx ?_
  simp -implicitDefEqProofs -dsimp [Tryz.f84,List.replicate,encTb,LS,LR,encCn,L1,LCl,LA,hnm]
 | true =>
  by_cases hlo:c.kind<1
  ·have he:cnErr t c=1:=by unfold cnErr; rw [hnm,decide_eq_false (show ¬1≤c.kind by omega)]; rfl
   rw [he,hv0 1 he (by decide)]
   refine conP_of_conH (conH_of_W tok Tryz.func84 rfl rfl ?_)
   refine wx ?_
   simp -implicitDefEqProofs -dsimp [Tryz.f84,List.replicate,encTb,LS,LR,encCn,L1,LCl,LA,hnm,hlo]
  by_cases hhi:6<c.kind
  ·have he:cnErr t c=1:=by unfold cnErr; rw [hnm,decide_eq_false (show ¬c.kind≤6 by omega),Bool.and_false]; rfl
   rw [he,hv0 1 he (by decide)]
   refine conP_of_conH (conH_of_W tok Tryz.func84 rfl rfl ?_)
   refine wx ?_
   simp -implicitDefEqProofs -dsimp [Tryz.f84,List.replicate,encTb,LS,LR,encCn,L1,LCl,LA,hnm,hlo,hhi]
  have hc0:cnErr t c=if c.kind=2∨c.kind=3 then 14 else if c.kind=1 then (if fdOk1 t.attrs.length c.fd=true then 0 else 1) else
    if c.kind=4 then (if cfB t.attrs.length c.cfd=true then 0 else 1) else if c.kind=5 then (if odB t.attrs.length c.od=true then 0 else 1) else (if dnB t.attrs.length c.dn=true then 0 else 1):=by
   unfold cnErr
   rw [hnm,decide_eq_true (show 1≤c.kind by omega),decide_eq_true (show c.kind≤6 by omega)]; rfl
  have hc6:c.kind=1∨c.kind=2∨c.kind=3∨c.kind=4∨c.kind=5∨c.kind=6:=by omega
  rcases hc6 with hk | hk | hk | hk | hk | hk
  ·cases ho:fdOk1 t.attrs.length c.fd with
   | false =>
    have he:cnErr t c=1:=by rw [hc0,hk,ho]; rfl
    rw [he,hv0 1 he (by decide)]
    have cp:=pairs37e t c.fd f g hn hc.fd ho
    simp only [encTb,LS,LR,encF] at cp
    refine conP_of_conH (conH_of_W tok Tryz.func84 rfl rfl ?_)
    refine wx ?_
    simp -implicitDefEqProofs -dsimp [Tryz.f84,List.replicate,encTb,LS,LR,encCn,L1,LCl,LA,hnm,hk]
    refine (callP (cp) (by simp)).mono ?_
    rintro r H' ⟨rfl,rfl⟩
    simp -implicitDefEqProofs -dsimp []
   | true =>
    have he:cnErr t c=0:=by rw [hc0,hk,ho]; rfl
    rw [he,hv1 he,show cnR t c=prL (fdP c.fd.l c.fd.r) t.rows from by unfold cnR; rw [if_pos hk]]
    have cp:=pairs37 t c.fd f g h hv hc.fd ho
    simp only [encTb,LS,LR,encF] at cp
    refine conP_of_conH (conH_of_W tok Tryz.func84 rfl rfl ?_)
    refine wx ?_
    simp -implicitDefEqProofs -dsimp [Tryz.f84,List.replicate,encTb,LS,LR,encCn,L1,LCl,LA,hnm,hk]
    refine (callP (cp) (by simp)).mono ?_
    rintro r H' ⟨rfl,rfl⟩
    simp -implicitDefEqProofs -dsimp []
  ·have he:cnErr t c=14:=by rw [hc0,hk]; rfl
   rw [he,hv0 14 he (by decide)]
   refine conP_of_conH (conH_of_W tok Tryz.func84 rfl rfl ?_)
   refine wx ?_
   simp -implicitDefEqProofs -dsimp [Tryz.f84,List.replicate,encTb,LS,LR,encCn,L1,LCl,LA,hnm,hk]
  ·have he:cnErr t c=14:=by rw [hc0,hk]; rfl
   rw [he,hv0 14 he (by decide)]
   refine conP_of_conH (conH_of_W tok Tryz.func84 rfl rfl ?_)
   refine wx ?_
   simp -implicitDefEqProofs -dsimp [Tryz.f84,List.replicate,encTb,LS,LR,encCn,L1,LCl,LA,hnm,hk]
  ·cases ho:cfB t.attrs.length c.cfd with
   | false =>
    have he:cnErr t c=1:=by rw [hc0,hk,ho]; rfl
    have cv:=viol16e t c.cfd f g false false h.ok hc.l hc.p hv ho
    simp only [encTb,LS,LR,encCfd,L1,LCl] at cv
    rw [he,hv0 1 he (by decide)]
    refine conP_of_conH (conH_of_W tok Tryz.func84 rfl rfl ?_)
    refine wx ?_
    simp -implicitDefEqProofs -dsimp [Tryz.f84,List.replicate,encTb,LS,LR,encCn,L1,LCl,LA,hnm,hk]
    refine (callP (cv) (by simp)).mono ?_
    rintro r H' ⟨rfl,rfl⟩
    simp -implicitDefEqProofs -dsimp []
   | true =>
    have he:cnErr t c=0:=by rw [hc0,hk,ho]; rfl
    have cv:=viol16 t c.cfd f g false false h hc.l hc.p hv ho
    simp only [encTb,LS,LR,encCfd,L1,LCl] at cv
    rw [he,hv1 he,show cnR t c=cfdV c.cfd t.rows from by unfold cnR; rw [if_neg (by omega),if_pos hk]]
    refine conP_of_conH (conH_of_W tok Tryz.func84 rfl rfl ?_)
    refine wx ?_
    simp -implicitDefEqProofs -dsimp [Tryz.f84,List.replicate,encTb,LS,LR,encCn,L1,LCl,LA,hnm,hk]
    refine (callP (cv) (by simp)).mono ?_
    rintro r H' ⟨rfl,rfl⟩
    simp -implicitDefEqProofs -dsimp []
  ·cases ho:odB t.attrs.length c.od with
   | false =>
    have he:cnErr t c=1:=by rw [hc0,hk,ho]; rfl
    have cv:=viol17e t c.od f g false false h.ok hc.ol hc.or hv ho
    simp only [encTb,LS,LR,encOd,L1] at cv
    rw [he,hv0 1 he (by decide)]
    refine conP_of_conH (conH_of_W tok Tryz.func84 rfl rfl ?_)
    refine wx ?_
    simp -implicitDefEqProofs -dsimp [Tryz.f84,List.replicate,encTb,LS,LR,encCn,L1,LCl,LA,hnm,hk]
    refine (callP (cv) (by simp)).mono ?_
    rintro r H' ⟨rfl,rfl⟩
    simp -implicitDefEqProofs -dsimp []
   | true =>
    have he:cnErr t c=0:=by rw [hc0,hk,ho]; rfl
    have cv:=viol17 t c.od f g false false h hc.ol hc.or hv ho
    simp only [encTb,LS,LR,encOd,L1] at cv
    rw [he,hv1 he,show cnR t c=prL (odP c.od) t.rows from by unfold cnR; rw [if_neg (by omega),if_neg (by omega),if_pos hk]]
    refine conP_of_conH (conH_of_W tok Tryz.func84 rfl rfl ?_)
    refine wx ?_
    simp -implicitDefEqProofs -dsimp [Tryz.f84,List.replicate,encTb,LS,LR,encCn,L1,LCl,LA,hnm,hk]
    refine (callP (cv) (by simp)).mono ?_
    rintro r H' ⟨rfl,rfl⟩
    simp -implicitDefEqProofs -dsimp []
  ·cases ho:dnB t.attrs.length c.dn with
   | false =>
    have he:cnErr t c=1:=by rw [hc0,hk,ho]; rfl
    have cv:=viol18e t c.dn f g false h.ok hc.at_ hv ho
    simp only [encTb,LS,LR,encDn,LA] at cv
    rw [he,hv0 1 he (by decide)]
    refine conP_of_conH (conH_of_W tok Tryz.func84 rfl rfl ?_)
    refine wx ?_
    simp -implicitDefEqProofs -dsimp [Tryz.f84,List.replicate,encTb,LS,LR,encCn,L1,LCl,LA,hnm,hk]
    refine (callP (cv) (by simp)).mono ?_
    rintro r H' ⟨rfl,rfl⟩
    simp -implicitDefEqProofs -dsimp []
   | true =>
    have he:cnErr t c=0:=by rw [hc0,hk,ho]; rfl
    have cv:=viol18 t c.dn f g false h hc.sz hc.at_ hv ho
    simp only [encTb,LS,LR,encDn,LA] at cv
    rw [he,hv1 he,show cnR t c=(asR t.rows c.dn.vars.toNat).foldl (stR c.dn) [] from by unfold cnR; rw [if_neg (by omega),if_neg (by omega),if_neg (by omega)]]
    refine conP_of_conH (conH_of_W tok Tryz.func84 rfl rfl ?_)
    refine wx ?_
    simp -implicitDefEqProofs -dsimp [Tryz.f84,List.replicate,encTb,LS,LR,encCn,L1,LCl,LA,hnm,hk]
    refine (callP (cv) (by simp)).mono ?_
    rintro r H' ⟨rfl,rfl⟩
    simp -implicitDefEqProofs -dsimp []
theorem ids37 (t:Tb) (f g:Bool) (hr:t.rows.length≤1000000):ConP Tryz.prog 85 [encTb f g t] fun r=>r=L1 false (idsR t.rows):=by
 obtain ⟨I,hI⟩:∃I,I=idsR t.rows:=⟨_,rfl⟩
 have hIl:I.length=t.rows.length:=by rw [hI,idsR_len]
 obtain ⟨R,hR⟩:∃R,R=t.rows:=⟨_,rfl⟩
 rw [←hR] at hIl hr
 have hII:∀i (h:i<R.length),I.take (i+1)=I.take i++[R[i].id]:=fun i h=>by
  rw [List.take_succ_eq_append_getElem (by omega)]
  congr 2
  simp [hI,idsR,hR]
 rw [←hI]
 have hrb:∀l:List Int,∀bl∈[B.cells [.str t.name,.lst 1 f (t.attrs.map V.str),.lst 2 g (R.map encRw)],B.buf 2 1 (l.map encI) false],rbB 2 bl:=fun l bl hbl=>by
  simp only [List.mem_cons,List.not_mem_nil,or_false] at hbl
  rcases hbl with rfl | rfl
  ·intro c hc; simp at hc; rcases hc with rfl | rfl | rfl<;>simp [rb,rb1]
  ·exact (rbB_buf1 (fun x hx=>by obtain ⟨y,_,rfl⟩:=List.mem_map.1 hx; exact ⟨by simp,rfl⟩)).2 trivial
 refine conP_of_conH (conH_of_W tok Tryz.func85 rfl rfl ?_)
 refine wx ?_
 simp -implicitDefEqProofs -dsimp [Tryz.f85,List.replicate,encTb,LS,LR,hR.symm]
 refine lw_of (W_own 2 1 [3] (by simp) (W_loopM 21 [3,4,5,6,7,8,9,10,11,12,13,14,15,16,17,18,19,20] (by simp [mB]<;>rfl) (σ:=Nat) (fun i=>i≤R.length) (fun i=>R.length - i) (fun i=>[(4,.int .i64 i),(3,.buf 1 0 i i)]) (fun i=>[B.cells [.str t.name,.lst 1 f (t.attrs.map V.str),.lst 2 g (R.map encRw)],B.buf 2 1 ((I.take i).map encI) false]) 0 (by omega) (by simp) (by simp) (by simp) ?_))
 intro j hj N3 Q3 hN3 hQ3
 have htl:(I.take j).length=j:=by simp; omega
 by_cases hjb:j<R.length
 ·have hst:=hII j hjb
  obtain ⟨r,hre⟩:∃r,r=R[j]:=⟨_,rfl⟩
  rw [←hre] at hst
  obtain ⟨l,hle⟩:∃l,l=I.take j:=⟨_,rfl⟩
  rw [←hle] at hst htl ⊢
  refine wx ?_
  simp -implicitDefEqProofs -dsimp [hjb,hre.symm,encRw,LV,htl,cap8 j (by omega),wrapN j (by omega),wrapS j (by omega)]
  refine hN3 (j+1) _ _ (by omega) (by omega) (by simp) ⟨[],by simp [hst,encI]⟩ (by simp) (hrb _)
 ·obtain rfl:j=R.length:=by omega
  rw [List.take_of_length_le (by omega)]
  refine W_frz 1 [3] rfl (by simp [hIl]) ?_
  refine wx ?_
  simp -implicitDefEqProofs -dsimp [hjb]
  refine hQ3 _ _ _ ?_
  simp -implicitDefEqProofs -dsimp [L1]
  skip
theorem allR_len {t:Tb} (h8:t.rows.length≤8) {cs:List Cn} (h:∀c∈cs,cnErr t c=0) (hl:cs.length≤5):(allR t cs).length≤20000:=by
 have:=flat_len cs (f:=cnR t) (k:=4000) fun c hc=>cnR_len h8 (h c hc)
 unfold allR
 have h2:cs.length*4000≤5*4000:=Nat.mul_le_mul_right _ hl
 omega
theorem allR_snoc (t:Tb) {cs:List Cn} {i:Nat} (h:i<cs.length):allR t (cs.take (i+1))=allR t (cs.take i)++cnR t cs[i]:=by
 unfold allR
 rw [List.take_succ_eq_append_getElem h,List.flatMap_append,List.flatMap_cons,List.flatMap_nil,List.append_nil]
theorem build37 (t:Tb) (cs:List Cn) (f g fc:Bool) (h:BdOk t cs):ConP Tryz.prog 42 [encTb f g t,LCn fc cs] fun r=>r = .tup [bdV t cs,.int .i64 (buildErr t cs)]:=by
 have c1:=valid03 t f g h.ok
 have htB:B.cells [.str t.name,.lst 1 f (t.attrs.map V.str),.lst 2 g (t.rows.map encRw)]=tcB t f g:=rfl
 have htr:∀n,rbB n (tcB t f g):=fun n=>tcB_rb n t f g
 by_cases hv:validT t=0
 case neg =>
  have he:buildErr t cs=validT t:=by unfold buildErr; rw [if_neg hv]
  have hbd:bdV t cs = .agg [.nilS,.nilS]:=by unfold bdV; rw [he,if_neg hv]
  rw [he,hbd]
  obtain ⟨e,hee⟩:∃e,e=validT t:=⟨_,rfl⟩
  rw [←hee] at c1 hv ⊢
  simp only [encTb,LS,LR] at c1
  refine conP_of_conH (conH_of_W tok Tryz.func42 rfl rfl ?_)
  refine wx ?_
  simp -implicitDefEqProofs -dsimp [Tryz.f42,List.replicate,encTb,LS,LR,LCn]
  refine (callP (c1) (by simp)).mono ?_
  rintro r H' ⟨rfl,rfl⟩
  simp -implicitDefEqProofs -dsimp [hv]
 case pos =>
 rw [hv] at c1
 have ct:=tbC hv
 by_cases h2:200<t.rows.length
 ·have he:buildErr t cs=3:=by unfold buildErr; rw [if_pos hv,if_pos h2]
  have hbd:bdV t cs = .agg [.nilS,.nilS]:=by unfold bdV; rw [he,if_neg (by decide)]
  rw [he,hbd]
  simp only [encTb,LS,LR] at c1
  refine conP_of_conH (conH_of_W tok Tryz.func42 rfl rfl ?_)
  refine wx ?_
  simp -implicitDefEqProofs -dsimp [Tryz.f42,List.replicate,encTb,LS,LR,LCn]
  refine (callP (c1) (by simp)).mono ?_
  rintro r H' ⟨rfl,rfl⟩
  simp -implicitDefEqProofs -dsimp [show (200:Int)<t.rows.length by omega]
 have h8:t.rows.length≤8:=by have:=h.rows; omega
 have hts:=h.small h8
 have hcs:=h.cns
 have hl5:=h.few
 have he:buildErr t cs=cnsErr t cs:=by unfold buildErr; rw [if_pos hv,if_neg h2]
 have hbd:bdV t cs=if cnsErr t cs=0 then encH false false (idsR t.rows) (edgesF (allR t cs)) else .agg [.nilS,.nilS]:=by
  unfold bdV
  rw [he]
 rw [he,hbd]
 simp only [encTb,LS,LR] at c1
 have hrb1:∀o:List (List Int),∀bl∈[tcB t f g,B.cells [.nilS,.nilS],B.buf 34 1 (o.map (L1 false)) false],rbB 3 bl:=fun o bl hbl=>by
  simp only [List.mem_cons,List.not_mem_nil,or_false] at hbl
  rcases hbl with rfl | rfl | rfl
  ·exact htr _
  ·intro c hc; simp at hc; subst hc; simp [rb,rb1]
  ·exact LF_rb _ _ _
 refine conP_of_conH (conH_of_W tok Tryz.func42 rfl rfl ?_)
 refine wx ?_
 simp -implicitDefEqProofs -dsimp [Tryz.f42,List.replicate,encTb,LS,LR,LCn]
 refine (callP (c1) (by simp)).mono ?_
 rintro r H' ⟨rfl,rfl⟩
 simp -implicitDefEqProofs -dsimp [show ¬(200:Int)<t.rows.length by omega]
 refine lw_of (W_own 34 1 [7] (by simp) (W_loopM 45 [5,7,8,9,10,23,24,25,26,27,28,29,30,31,32,33,34,35,36,37,38,39,40,41,42,43,44] (by simp [mB]<;>rfl) (σ:=Nat×List (List Int)) (fun p=>p.1≤cs.length∧(∀c∈cs.take p.1,cnErr t c=0)∧cnsErr t (cs.drop p.1)=cnsErr t cs∧p.2=allR t (cs.take p.1)) (fun p=>cs.length - p.1) (fun p=>[(8,.int .i64 p.1),(7,.buf 2 0 p.2.length p.2.length)]) (fun p=>[tcB t f g,B.cells [.nilS,.nilS],B.buf 34 1 (p.2.map (L1 false)) false]) (0,[]) ⟨by simp,by simp,by rw [List.drop_zero],rfl⟩ (by simp) (by simp [tcB]) (by simp) ?_))
 rintro ⟨i,out⟩ ⟨hi,hok,hx,hxo⟩ N Q hN hQ
 simp only at hi hok hx hxo
 by_cases hb:i<cs.length
 ·rw [cnsErr_drop hb] at hx
  have hcb:=hcs _ (List.getElem_mem hb)
  have hsn:=allR_snoc t hb
  have hokS:cnErr t cs[i]=0→∀c∈cs.take (i+1),cnErr t c=0:=fun h0 c hc=>by
   rw [List.take_succ_eq_append_getElem hb] at hc
   rcases List.mem_append.1 hc with h1 | h1
   ·exact hok c h1
   ·rw [List.mem_singleton] at h1; rw [h1]; exact h0
  obtain ⟨c,hce⟩:∃c,c=cs[i]:=⟨_,rfl⟩
  rw [←hce] at hx hcb hsn hokS
  have c2:=viol37 t c f g hts hv hcb
  have hp:=wlV_pure t c
  by_cases h0:cnErr t c=0
  ·rw [if_pos h0] at hx
   rw [h0,show wlV t c=LL false (cnR t c) from by unfold wlV; rw [if_pos h0]] at c2
   have hlen:=allR_len h8 (hokS h0) (by simp; omega)
   rw [hsn,←hxo] at hlen
   obtain ⟨w,hw⟩:∃w,w=cnR t c:=⟨_,rfl⟩
   rw [←hw] at c2 hsn hlen
   rw [←hxo] at hsn
   rw [List.length_append] at hlen
   simp only [encTb,LS,LR,encCn,L1,LCl,LA,LL] at c2
   by_cases hw0:w=[]
   ·subst hw0
    rw [List.append_nil] at hsn
    refine wx ?_
    simp -implicitDefEqProofs -dsimp [hb,hce.symm,encCn,L1,LCl,LA,tcB]
    refine .inr ⟨stop_of (by kernel_rfl),?_⟩
    refine cy_of _ (callP (c2) (by simp)) ?_
    simp -implicitDefEqProofs -dsimp [wrapS i (by omega)]
    refine hN (i+1,out) _ _ ⟨by simp only; omega,hokS h0,hx,hsn.symm⟩ (by simp only; omega) (by simp) ⟨[],by simp [tcB]⟩ (by simp) (hrb1 _)
   ·refine wx ?_
    simp -implicitDefEqProofs -dsimp [hb,hce.symm,encCn,L1,LCl,LA,tcB]
    refine .inr ⟨stop_of (by kernel_rfl),?_⟩
    refine cy_of _ (callP (c2) (by simp)) ?_
    simp -implicitDefEqProofs -dsimp [hw0,capV out.length w.length (by omega),wrapS i (by omega)]
    refine hN (i+1,out++w) _ _ ⟨by simp only; omega,hokS h0,hx,hsn.symm⟩ (by simp only; omega) (by simp) ⟨[],by simp [tcB]⟩ (by simp) (hrb1 _)
  ·rw [if_neg h0] at hx
   rw [show wlV t c = .nilS from by unfold wlV; rw [if_neg h0]] at c2
   obtain ⟨e,hee⟩:∃e,e=cnErr t c:=⟨_,rfl⟩
   rw [←hee] at c2 h0 hx
   simp only [encTb,LS,LR,encCn,L1,LCl,LA] at c2
   refine wx ?_
   simp -implicitDefEqProofs -dsimp [hb,hce.symm,encCn,L1,LCl,LA,tcB]
   refine .inr ⟨stop_of (by kernel_rfl),?_⟩
   refine cy_of _ (callP (c2) (by simp)) ?_
   simp -implicitDefEqProofs -dsimp [h0]
   refine hQ _ _ _ ?_
   simp -implicitDefEqProofs -dsimp []
   rw [←hx]
   exact ⟨fun h=>absurd h h0,rfl⟩
 ·have h0:cnsErr t cs=0:=by rw [←hx,List.drop_of_length_le (by omega)]; rfl
  rw [List.take_of_length_le (by omega)] at hok hxo
  have hAl:=allR_len h8 hok hl5
  have hAE:∀e∈allR t cs,EdgL t.rows e:=fun e hd=>all_edge ct hok hd
  rw [←hxo] at hAl hAE
  have cE:=edges37 out false (by omega) (fun e hd=>by have:=(hAE e hd).2.2.1; omega) (fun e hd=>(hAE e hd).2.1)
  have cI:=ids37 t f g (by omega)
  have hEl:(edgesF out).length≤out.length:=edgesTo_len out out.length
  obtain ⟨PE,hPE⟩:∃PE,PE=edgesF out:=⟨_,rfl⟩
  rw [←hPE] at cE hEl
  obtain ⟨I,hI⟩:∃I,I=idsR t.rows:=⟨_,rfl⟩
  rw [←hI] at cI
  simp only [encTb,LS,LR,LL,L1] at cE cI
  refine W_frz 2 [7] rfl (by simp) ?_
  refine wx ?_
  simp -implicitDefEqProofs -dsimp [hb]
  refine hQ _ _ _ ?_
  simp -implicitDefEqProofs -dsimp [tcB]
  refine (callP (cI) (by simp)).mono ?_
  rintro r H' ⟨rfl,rfl⟩
  simp -implicitDefEqProofs -dsimp [LL,L1]
  refine (callP (cE) (by simp)).mono ?_
  rintro r H' ⟨rfl,rfl⟩
  simp -implicitDefEqProofs -dsimp [show ¬(20000:Int)<PE.length by omega]
  rw [if_pos h0,←hxo,←hPE,←hI]
  simp [encH,L1,LL]
  exact h0.symm
end
end Go.Proofs.YtjogkbekekdkjaaGreatDoor
