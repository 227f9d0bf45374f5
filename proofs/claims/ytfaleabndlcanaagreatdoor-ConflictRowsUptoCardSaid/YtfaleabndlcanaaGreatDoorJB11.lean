/- JB11: own texts of this seat, joined by pack2.py: DR, DS, DT, DU, BR, BS, BV, C4, LE, W14, LB. -/
import Derived.Test.YtfaleabndlcanaaGreatDoorJB10
set_option linter.unusedVariables false
set_option linter.unusedSimpArgs false
set_option maxRecDepth 100000
set_option maxHeartbeats 64000000
namespace Go.Proofs.YtfaleabndlcanaaGreatDoor
section
open Go Go.AM
theorem before18 (us bs:List Int) (f g:Bool) (hl:us.length≤1000000) (hl2:bs.length≤1000000):ConP Tryz.prog 187 [L1 f us,L1 g bs] fun r=>r = .bool (lexLt us bs):=by
 refine conP_of_conH (conH_of_W tok Tryz.func187 rfl rfl ?_)
 refine wx ?_
 simp -implicitDefEqProofs -dsimp [Tryz.f187,List.replicate]
 refine lw_of (W_loopG [4,5,6,7,8,9,10,11,12,13,14,15,16,17,18,19,20,21,22,23,24,25,26,27,28,29,30,31,32,33,34,35] (σ:=Nat) (fun i=>i≤us.length∧i≤bs.length∧lexLt (us.drop i) (bs.drop i)=lexLt us bs) (fun i=>us.length - i) (fun i=>[(5,.int .i64 i)]) (fun _=>[]) 0 ⟨by omega,by omega,rfl⟩ (by simp) rfl (by simp) ?_)
 rintro i ⟨h1,h2,hx⟩
 by_cases ha:i<us.length
 ·by_cases hb:i<bs.length
  ·rw [List.drop_eq_getElem_cons ha,List.drop_eq_getElem_cons hb,lexLt] at hx
   by_cases hq:us[i]=bs[i]
   ·rw [if_pos hq] at hx
    refine wx ?_
    simp -implicitDefEqProofs -dsimp [L1,encI,ha,hb,hq,wrapS i (by omega)]
    refine .inr ⟨stop_of (by kernel_rfl),?_⟩
    refine stop_of ?_
    refine ⟨i+1,⟨by omega,by omega,hx⟩,by omega,?_,⟨[],rfl⟩,?_,?_⟩<;>simp [L1,encI]
   ·rw [if_neg hq] at hx
    refine wx ?_
    simp -implicitDefEqProofs -dsimp [L1,encI,ha,hb,hq]
    refine .inr ⟨stop_of (by kernel_rfl),?_⟩
    refine .inr ⟨stop_of (by kernel_rfl),?_⟩
    exact hx
  ·rw [List.drop_eq_getElem_cons ha,List.drop_of_length_le (l:=bs) (by omega),lexLt] at hx
   refine wx ?_
   simp -implicitDefEqProofs -dsimp [L1,ha,hb]
   rw [←hx]
   simp
   omega
 ·by_cases hb:i<bs.length
  ·rw [List.drop_eq_getElem_cons hb,List.drop_of_length_le (l:=us) (by omega),lexLt] at hx
   refine wx ?_
   simp -implicitDefEqProofs -dsimp [L1,ha,hb]
   rw [←hx]
   simp
   omega
  ·rw [List.drop_of_length_le (l:=us) (by omega),List.drop_of_length_le (l:=bs) (by omega),lexLt] at hx
   refine wx ?_
   simp -implicitDefEqProofs -dsimp [L1,ha,hb]
   rw [←hx]
   simp
   omega
theorem sink_last (l:List Int) (x:Int) (h:l.Pairwise (·≤·)):(sinkZ ltZ l.length (l++[x])).Pairwise (·≤·)∧(sinkZ ltZ l.length (l++[x])).Perm (l++[x]):=by
 have h1:=sinkZ_ins x l.reverse []
 rw [List.reverse_reverse,List.length_reverse,List.append_nil] at h1
 refine ⟨by rw [h1]; exact inzZ_sorted _ _ (by rwa [List.reverse_reverse]),sinkZ_perm _ _ _ (by simp)⟩
theorem asc18 (rs:List Rw) (f:Bool) (hl:rs.length≤1000):ConP Tryz.prog 149 [LR f rs] fun r=>r=L1 false (srt (idsR rs)):=by
 obtain ⟨I,hI⟩:∃I,I=idsR rs:=⟨_,rfl⟩
 have hIl:I.length=rs.length:=by rw [hI,idsR_len]
 rw [←hI]
 have hbI:∀(l:List Int),∀bl∈[B.buf 2 1 (nzL l) false],rbB 1 bl:=fun l bl hb=>by simp only [List.mem_singleton] at hb; subst hb; exact (rbB_buf1 (nzL_pure l)).2 trivial
 refine conP_of_conH (conH_of_W tok Tryz.func149 rfl rfl ?_)
 refine wx ?_
 simp -implicitDefEqProofs -dsimp [Tryz.f149,List.replicate,LR]
 refine lw_of (W_own 2 1 [3] (by simp) (W_loopM 55 [3,4,5,6,7,8,9,10,11,12,13,14,15,16,17,18,19,20,21,22,23,24,25,26,27,28,29,30,31,32,33,34,35,36,37,38,39,40,41,42,43,44,45,46,47,48,49,50,51,52,53,54] (by simp [mB]<;>rfl) (σ:=Nat×List Int) (fun p=>p.1≤rs.length∧p.2.length=p.1∧p.2.Pairwise (·≤·)∧p.2.Perm (I.take p.1)) (fun p=>rs.length - p.1) (fun p=>[(4,.int .i64 p.1),(3,.buf 0 0 p.1 p.1)]) (fun p=>[B.buf 2 1 (nzL p.2) false]) (0,[]) ⟨by simp,rfl,List.Pairwise.nil,by simp⟩ (by simp) (by simp [nzL]) (by simp) ?_))
 rintro ⟨i,l⟩ ⟨hi,hll,hs,hp⟩ N Q hN hQ
 simp only at hi hll hs hp
 by_cases hb:i<rs.length
 ·obtain ⟨r,hre⟩:∃r,r=rs[i]:=⟨_,rfl⟩
  have hbI2:i<I.length:=by omega
  have hIi:I[i]=r.id:=by rw [hre]; simp [hI,idsR]
  have hts:I.take (i+1)=I.take i++[r.id]:=by rw [List.take_succ_eq_append_getElem hbI2,hIi]
  obtain ⟨q1,q2⟩:=sink_last l r.id hs
  rw [hll] at q1 q2
  obtain ⟨S,hS⟩:∃S,S=sinkZ ltZ i (l++[r.id]):=⟨_,rfl⟩
  rw [←hS] at q1 q2
  have hSl:S.length=i+1:=by rw [q2.length_eq]; simp [hll]
  have hSp:S.Perm (I.take (i+1)):=by rw [hts]; exact q2.trans (hp.append_right _)
  have hnl0:=nzL_len l
  have wi:IntKind.i64.wrap (((i:Int)+1) - 1)=(i:Int):=by rw [wrap64 (by omega) (by omega)]; omega
  refine wx ?_
  simp -implicitDefEqProofs -dsimp [hb,hre.symm,encRw,hnl0,hll,cap8 i (by omega),wi,wrapN i (by omega)]
  refine lw_of (W_loopM 55 [5,23,24,25,26,27,28,29,30,31,32,33,34,35,36,37,38,39,40,41,42,43,44,45,46,47,48,49,50,51,52,53,54] (by simp [mB]<;>rfl) (σ:=Nat×List Int) (fun p=>p.1≤i∧p.2.length=i+1∧sinkZ ltZ p.1 p.2=S) (fun p=>p.1) (fun p=>[(5,.int .i64 p.1)]) (fun p=>[B.buf 2 1 (nzL p.2) false]) (i,l++[r.id]) ⟨by simp,by simp [hll],hS.symm⟩ (by simp) (by simp [nzL,encI]) (by simp) ?_)
  rintro ⟨j,l2⟩ ⟨hj,hl2,hy⟩ N2 Q2 hN2 hQ2
  simp only at hj hl2 hy hN2
  have hnl:=nzL_len l2
  cases j with
  | zero =>
   rw [sinkZ] at hy
   refine wx ?_
   simp -implicitDefEqProofs -dsimp []
   refine .inr ⟨stop_of (by kernel_rfl),?_⟩
   refine hQ2 _ _ _ ?_
   simp -implicitDefEqProofs -dsimp [wrapS i (by omega)]
   refine hN (i+1,l2) _ _ ⟨by simp only; omega,by rw [hy]; exact hSl,by rw [hy]; exact q1,by rw [hy]; exact hSp⟩ (by simp only; omega) (by simp) ⟨[],by simp⟩ (by simp) (hbI _)
  | succ j =>
   rw [sinkZ] at hy
   have a1:=fun h=>nzL_get (m:=l2) (x:=j+1) h
   have a0:=fun h=>nzL_get (m:=l2) (x:=j) h
   have wj:IntKind.i64.wrap (((j:Int)+1) - 1)=(j:Int):=by rw [wrap64 (by omega) (by omega)]; omega
   have wj2:IntKind.i64.wrap (j:Int)=(j:Int):=wrapZ j (by omega)
   have hj1:j+1<i+1:=by omega
   have hj0:j<i+1:=by omega
   obtain ⟨x,hxx⟩:∃x,x=l2.getD (j+1) 0:=⟨_,rfl⟩
   obtain ⟨y,hyy⟩:∃y,y=l2.getD j 0:=⟨_,rfl⟩
   rw [←hxx,←hyy] at hy
   rw [←hxx] at a1
   rw [←hyy] at a0
   have b1:(nzL l2)[j+1]?=some (.int .i64 x):=by rw [List.getElem?_eq_getElem (by rw [hnl]; omega),a1]
   have b0:(nzL l2)[j]?=some (.int .i64 y):=by rw [List.getElem?_eq_getElem (by rw [hnl]; omega),a0]
   by_cases hq:x<y
   ·rw [if_pos (by simp [ltZ,hq])] at hy
    refine wx ?_
    simp -implicitDefEqProofs -dsimp [hnl,hl2,hj1,hj0,a1,a0,b1,b0,wj,wj2,hq,show (0:Int)≤(j:Int)+1 by omega,show (0:Int)<(j:Int)+1 by omega,show (j:Int)<(i:Int) by omega,show (j:Int)<(i:Int)+1 by omega,show j<i+1 by omega,show j<i by omega]
    refine .inr ⟨stop_of (by kernel_rfl),?_⟩
    have hsw:swpZ j l2=(l2.set (j+1) y).set j x:=by unfold swpZ; rw [←hxx,←hyy]
    have hst1:(nzL l2).set (j+1) (.int .i64 y)=nzL (l2.set (j+1) y):=nzL_set l2 (j+1) y
    have hst2:(nzL (l2.set (j+1) y)).set j (.int .i64 x)=nzL (swpZ j l2):=by rw [hsw]; exact nzL_set _ j x
    have qnl:=nzL_len (l2.set (j+1) y)
    rw [List.length_set] at qnl
    have d0:=fun h=>nzL_get (m:=l2.set (j+1) y) (x:=j) h
    refine lw_of (W_drawT tok mixed [15,17] [(2,[1]),(3,[1]),(4,[1])] [] (by kernel_rfl) fun C K hC hK=>?_)
    simp -implicitDefEqProofs [hnl,hl2,hj1,hj0,a1,a0,b1,b0,wj,wj2,hst1,hst2,qnl,d0,show (0:Int)≤(j:Int)+1 by omega,show (j:Int)<(i:Int) by omega,show (j:Int)<(i:Int)+1 by omega,show j<i+1 by omega,show j<i by omega]
    refine hK _ _ ?_
    simp -implicitDefEqProofs -dsimp [wj,wj2]
    refine hN2 (j,swpZ j l2) _ _ ⟨by simp only; omega,by rw [swpZ_len]; exact hl2,hy⟩ (by simp only; omega) (by simp) ⟨[],by simp⟩ (by simp) (hbI _)
   ·rw [if_neg (by simp [ltZ,hq])] at hy
    refine wx ?_
    simp -implicitDefEqProofs -dsimp [hnl,hl2,hj1,hj0,a1,a0,b1,b0,wj,wj2,hq,show (0:Int)≤(j:Int)+1 by omega,show (0:Int)<(j:Int)+1 by omega,show (j:Int)<(i:Int) by omega,show (j:Int)<(i:Int)+1 by omega,show j<i+1 by omega,show j<i by omega]
    refine .inr ⟨stop_of (by kernel_rfl),?_⟩
    refine hQ2 _ _ _ ?_
    simp -implicitDefEqProofs -dsimp [wrapS i (by omega)]
    refine hN (i+1,l2) _ _ ⟨by simp only; omega,by rw [hy]; exact hSl,by rw [hy]; exact q1,by rw [hy]; exact hSp⟩ (by simp only; omega) (by simp) ⟨[],by simp⟩ (by simp) (hbI _)
 ·obtain rfl:i=rs.length:=by omega
  rw [List.take_of_length_le (by omega)] at hp
  refine wx ?_
  simp -implicitDefEqProofs -dsimp [hb]
  refine hQ _ _ _ ?_
  simp -implicitDefEqProofs -dsimp []
  rw [←srt_eq hp hs]
  exact exp_buf rfl (by simp [nzL,hll]) (by simp [nzL,encI])
def sameP (x y:List Int):Bool:=!lexLt y x&&!lexLt x y
theorem put18 (b0 b1:B) (h0:∀n,rbB n b0) (h1:∀n,rbB n b1) (l:List (List Int)) (x:List Int) (hl:l.length≤10000) (hle:∀e∈l,e.length≤1000000) (hxl:x.length≤1000000) :
  ConH Tryz.prog 148 [.buf 2 0 l.length l.length,L1 false x] [b0,b1,.buf 46 1 (l.map (L1 false)) false] fun r H'=>r = .buf 2 0 (putR l x).length (putR l x).length∧H'=[b0,b1,.buf 46 1 ((putR l x).map (L1 false)) false]:=by
 have hrb:∀o:List (List Int),∀bl∈[b0,b1,B.buf 46 1 (o.map (L1 false)) false],rbB 3 bl:=fun o bl hbl=>by
  simp only [List.mem_cons,List.not_mem_nil,or_false] at hbl
  rcases hbl with rfl | rfl | rfl
  ·exact h0 _
  ·exact h1 _
  ·exact LF_rb _ _ _
 obtain ⟨E,hE⟩:∃E,E=l.any (sameP x):=⟨_,rfl⟩
 have hyes:E=true→putR l x=l:=fun h=>by unfold putR; rw [if_pos (by rw [←h,hE]; rfl)]
 have hno:E=false→putR l x=insE l x:=fun h=>by
  unfold putR
  rw [if_neg]
  intro h2
  have:l.any (sameP x)=true:=h2
  rw [←hE,h] at this
  cases this
 obtain ⟨S,hS⟩:∃S,S=putR l x:=⟨_,rfl⟩
 rw [←hS]
 rw [←hS] at hyes hno
 refine conH_of_W tok Tryz.func148 rfl rfl ?_
 refine wx ?_
 simp -implicitDefEqProofs -dsimp [Tryz.f148,List.replicate,L1]
 refine lw_of (W_loopM 30 [4,5,7,8,9,10,11,12,13,14,15,16,17,18,19,20,21,22,23,24,25,26,27,28,29] (by simp [mB]<;>rfl) (σ:=Nat) (fun i=>(l.drop i).any (sameP x)=E) (fun i=>l.length - i) (fun i=>[(5,.int .i64 i)]) (fun _=>[b0,b1,B.buf 46 1 (l.map (L1 false)) false]) 0 (by rw [hE,List.drop_zero]) (by simp) (by simp) (by simp) ?_)
 intro i hx N Q hN hQ
 by_cases hb:i<l.length
 ·rw [List.drop_eq_getElem_cons hb,List.any_cons] at hx
  have hyl:=hle _ (List.getElem_mem hb)
  obtain ⟨y,hye⟩:∃y,y=l[i]:=⟨_,rfl⟩
  rw [←hye] at hx hyl
  have c1:=before18 y x false false hyl hxl
  have c2:=before18 x y false false hxl hyl
  simp only [L1] at c1 c2
  cases q1:lexLt y x with
  | true =>
   rw [q1] at c1
   rw [show sameP x y=false by simp [sameP,q1],Bool.false_or] at hx
   refine wx ?_
   simp -implicitDefEqProofs -dsimp [hb,hye.symm,L1]
   refine (callP (c1) (by simp)).mono ?_
   rintro r H' ⟨rfl,rfl⟩
   simp -implicitDefEqProofs -dsimp [wrapS i (by omega),L1]
   refine hN (i+1) _ _ hx (by omega) (by simp) ⟨[],by simp⟩ (by simp) (hrb _)
  | false =>
   rw [q1] at c1
   cases q2:lexLt x y with
   | true =>
    rw [q2] at c2
    rw [show sameP x y=false by simp [sameP,q2],Bool.false_or] at hx
    refine wx ?_
    simp -implicitDefEqProofs -dsimp [hb,hye.symm,L1]
    refine (callP (c1) (by simp)).mono ?_
    rintro r H' ⟨rfl,rfl⟩
    simp -implicitDefEqProofs -dsimp [hb,hye.symm,L1]
    refine (callP (c2) (by simp)).mono ?_
    rintro r H' ⟨rfl,rfl⟩
    simp -implicitDefEqProofs -dsimp [wrapS i (by omega),L1]
    refine hN (i+1) _ _ hx (by omega) (by simp) ⟨[],by simp⟩ (by simp) (hrb _)
   | false =>
    rw [q2] at c2
    rw [show sameP x y=true by simp [sameP,q1,q2],Bool.true_or] at hx
    have hSl:=hyes hx.symm
    refine wx ?_
    simp -implicitDefEqProofs -dsimp [hb,hye.symm,L1]
    refine (callP (c1) (by simp)).mono ?_
    rintro r H' ⟨rfl,rfl⟩
    simp -implicitDefEqProofs -dsimp [hb,hye.symm,L1]
    refine (callP (c2) (by simp)).mono ?_
    rintro r H' ⟨rfl,rfl⟩
    simp -implicitDefEqProofs -dsimp [L1]
    refine hQ _ _ _ ?_
    simp -implicitDefEqProofs -dsimp [L1]
    rw [hSl]
    exact ⟨rfl,rfl⟩
 ·rw [List.drop_of_length_le (by omega),List.any_nil] at hx
  have hSi:=hno hx.symm
  refine wx ?_
  simp -implicitDefEqProofs -dsimp [hb,L1]
  refine hQ _ _ _ ?_
  simp -implicitDefEqProofs -dsimp [cap24 l.length (by omega),wrapN l.length (by omega),L1]
  refine lw_of (W_loopM 69 [6,37,38,39,40,41,42,43,44,45,46,47,48,49,50,51,52,53,54,55,56,57,58,59,60,61,62,63,64,65,66,67,68] (by simp [mB]<;>rfl) (σ:=Nat) (fun k=>k≤l.length∧insPos l x k=insPos l x l.length) (fun k=>k) (fun k=>[(6,.int .i64 k)]) (fun k=>[b0,b1,B.buf 46 1 ((insAt l x k).map (L1 false)) false]) l.length ⟨by omega,rfl⟩ (by simp) (by simp [insAt,L1]) (by simp) ?_)
  rintro k ⟨hk1,hk2⟩ N3 Q3 hN3 hQ3
  by_cases hk0:k=0
  ·subst hk0
   have hfin:S=insAt l x 0:=by rw [hSi,insE,←hk2]; rfl
   refine wx ?_
   simp -implicitDefEqProofs -dsimp [L1]
   refine .inr ⟨stop_of (by kernel_rfl),?_⟩
   refine hQ3 _ _ _ ?_
   simp -implicitDefEqProofs -dsimp [L1]
   rw [hfin,insAt_len]
   exact ⟨rfl,rfl⟩
  ·have hcl:=insAt_len l x k
   have hck:=insAt_k l x k hk1 (by omega)
   have hcp:=insAt_p l x k hk1 (by omega) (by omega)
   have hsw:=insAt_swap l x k hk1 (by omega)
   have hbk:k<(insAt l x k).length:=by omega
   have hbp:k - 1<(insAt l x k).length:=by omega
   obtain ⟨a,ha⟩:∃a,a=eAt l (k - 1):=⟨_,rfl⟩
   rw [←ha] at hcp hsw
   have hal2:a.length≤1000000:=hle a (by rw [ha,getD_at (by omega)]; exact List.getElem_mem _)
   have hc:=before18 x a false false hxl hal2
   obtain ⟨cur,hcur⟩:∃cur,cur=insAt l x k:=⟨_,rfl⟩
   rw [←hcur] at hcl hsw hbk hbp ⊢
   have hck:cur[k]=x:=by subst hcur; exact hck
   have hcp:cur[k - 1]=a:=by subst hcur; exact hcp
   have hpos:insPos l x k=if lexLt x a then insPos l x (k - 1) else k:=by
    obtain ⟨m,rfl⟩:∃m,k=m+1:=⟨k - 1,by omega⟩
    rw [ha]; rfl
   simp only [L1] at hc
   have hgk:cur[k]?=some x:=by rw [List.getElem?_eq_getElem hbk,hck]
   have hgp:cur[k - 1]?=some a:=by rw [List.getElem?_eq_getElem hbp,hcp]
   have hi1:(k:Int)<(l.length:Int)+1:=by omega
   have hi2:((k - 1:Nat):Int)<(l.length:Int)+1:=by omega
   cases hlt:lexLt x a
   ·rw [hlt] at hc hpos
    have hfin:S=cur:=by rw [hSi,insE,←hk2,hpos,hcur]; rfl
    refine wx ?_
    simp -implicitDefEqProofs -dsimp [hgk,hgp,hcl,hi1,hi2,wrapP k (by omega) (by omega),show 0<k by omega,L1]
    refine .inr ⟨stop_of (by kernel_rfl),?_⟩
    refine cy_of _ (callP (hc) (by simp)) ?_
    simp -implicitDefEqProofs -dsimp [L1]
    refine hQ3 _ _ _ ?_
    simp -implicitDefEqProofs -dsimp [L1]
    rw [hfin,hcl]
    exact ⟨rfl,rfl⟩
   ·rw [hlt] at hc hpos
    refine wx ?_
    simp -implicitDefEqProofs -dsimp [hgk,hgp,hcl,hi1,hi2,wrapP k (by omega) (by omega),show 0<k by omega,L1]
    refine .inr ⟨stop_of (by kernel_rfl),?_⟩
    refine cy_of _ (callP (hc) (by simp)) ?_
    simp -implicitDefEqProofs -dsimp [L1]
    have hs1:((cur.map (L1 false)).set k (V.lst 1 false (a.map encI)))[k - 1]?=some (V.lst 1 false (a.map encI)):=by
     rw [List.getElem?_set_ne (by omega),List.getElem?_map,hgp]; rfl
    have hs2:((cur.map (L1 false)).set k (V.lst 1 false (a.map encI))).set (k - 1) (V.lst 1 false (x.map encI))=(insAt l x (k - 1)).map (L1 false):=by
     rw [←hsw]; simp only [List.map_set,L1]
    refine lw_of (W_drawT tok mixed [15,17] [(2,[1]),(3,[1]),(4,[1])] [] (by kernel_rfl) fun C K hC hK=>?_)
    simp -implicitDefEqProofs [hgk,hgp,hcl,hi1,hi2,wrapP k (by omega) (by omega),hs1,hs2,L1]
    refine hK _ _ ?_
    simp -implicitDefEqProofs -dsimp [wrapP k (by omega) (by omega),L1]
    refine hN3 (k - 1) _ _ ⟨by omega,by rw [←hk2,hpos]; rfl⟩ (by omega) (by simp) ⟨[],by simp⟩ (by simp) (hrb _)
def LRR (os:List (List Rw)):V:=.lst 1 false (os.map (LR false))
@[simp] theorem LRR_pure (os:List (List Rw)):AM.Pure (LRR os):=.lst _ _ _ fun x hx=>by obtain ⟨y,_,rfl⟩:=List.mem_map.1 hx; exact LR_pure _ _
theorem LRR_rb (n e:Nat) (os:List (List Rw)) (fz:Bool):rbB n (.buf e 1 (os.map (LR false)) fz):=fun x hx=>by
 obtain ⟨y,_,rfl⟩:=List.mem_map.1 hx
 intro c hc
 simp only [LR,V.cells,List.mem_cons,List.not_mem_nil,or_false] at hc
 subst hc
 simp [rb1]
theorem step_cons {R:List Rw} {o:List Rw} {j:Nat} (h:j<R.length):((R.drop j).filter fun r=>!usedR o r).map (fun r=>o++[r])=(if usedR o R[j]=true then [] else [o++[R[j]]])++((R.drop (j+1)).filter fun r=>!usedR o r).map (fun r=>o++[r]):=by
 rw [List.drop_eq_getElem_cons h]
 by_cases hu:usedR o R[j]=true
 ·rw [List.filter_cons_of_neg (by simp [hu]),if_pos hu]; rfl
 ·rw [List.filter_cons_of_pos (by simp [hu]),if_neg hu]; rfl
theorem cap24L (n:Nat) (h:n≤1000000000):n≤9223372036854775806∧(n+1)*24≤140737488355328:=by omega
def pvA (R:List Rw) (k:Nat):V:=if k=0 then .lst 1 true [.nilS] else LRR (asR R k)
theorem assign18 (t:Tb) (f g:Bool) (K:Nat) (hK1:1≤K) (hK3:K≤3) (h8:t.rows.length≤8):ConP Tryz.prog 146 [encTb f g t,.int .i64 K] fun r=>r=LRR (asR t.rows K):=by
 obtain ⟨R,hR⟩:∃R,R=t.rows:=⟨_,rfl⟩
 rw [←hR] at h8 ⊢
 have htB:tcB t f g = .cells [.str t.name,.lst 1 f (t.attrs.map V.str),.lst 2 g (R.map encRw)]:=by rw [hR]; rfl
 have hrb:∀bl∈[B.cells [.str t.name,.lst 1 f (t.attrs.map V.str),.lst 2 g (R.map encRw)]],rbB 1 bl:=fun bl hbl=>by
  simp only [List.mem_singleton] at hbl
  subst hbl
  rw [←htB]; exact tcB_rb _ _ _ _
 have hrb2:∀cur:List (List Rw),∀bl∈[B.cells [.str t.name,.lst 1 f (t.attrs.map V.str),.lst 2 g (R.map encRw)],B.buf 23 1 (cur.map (LR false)) false],rbB 2 bl:=fun cur bl hbl=>by
  simp only [List.mem_cons,List.not_mem_nil,or_false] at hbl
  rcases hbl with rfl | rfl
  ·rw [←htB]; exact tcB_rb _ _ _ _
  ·exact LRR_rb _ _ _ _
 have hpp:∀k,AM.Pure (pvA R k):=fun k=>by
  unfold pvA; split
  ·exact .lst _ _ _ (by simp)
  ·exact LRR_pure _
 refine conP_of_conH (conH_of_W (tok_flag tok (fun t=>t == 23)) Tryz.func146 rfl rfl ?_)
 refine W_x (tok_flag tok (fun t=>t == 23)) mixed ?_
 simp -implicitDefEqProofs -dsimp [Tryz.f146,List.replicate,encTb,LS,LR,hR.symm,flagT]
 refine lw_of (W_loopM 77 [5,6,7,8,9,10,11,13,14,15,16,17,18,19,20,21,22,23,24,25,26,27,28,29,30,31,32,33,34,35,36,37,38,39,40,41,42,43,44,45,46,47,48,49,50,51,52,53,54,55,56,57,58,59,60,61,62,63,64,65,66,67,68,69,70,71,72,73,74,75,76] (by simp [mB]<;>rfl) (σ:=Nat) (fun k=>k≤K) (fun k=>K - k) (fun k=>[(6,.int .i64 k),(5,pvA R k)]) (fun _=>[B.cells [.str t.name,.lst 1 f (t.attrs.map V.str),.lst 2 g (R.map encRw)]]) 0 (by omega) (by simp [pvA]) (by simp) (by simp) ?_)
 intro k hk N Q hN hQ
 by_cases hkb:k<K
 ·have hT512:=asR_len R (k+1)
  have hT8:=pow_k (k:=k+1) h8 (by omega)
  obtain ⟨T,hT⟩:∃T,T=asR R (k+1):=⟨_,rfl⟩
  rw [←hT] at hT512
  have hTf:(asR R k).flatMap (stepA R)=T:=by rw [hT]; rfl
  have hpk:pvA R (k+1)=LRR T:=by unfold pvA; rw [if_neg (by omega),hT]
  have hol:∀o∈asR R k,o.length=k:=fun o ho=>(asR_mem.1 ho).1
  by_cases hk0:k=0
  ·subst hk0
   obtain ⟨os,hos⟩:∃os:List (List Rw),os=[[]]:=⟨_,rfl⟩
   have hpv:pvA R 0 = .lst 1 true [.nilS]:=rfl
   rw [show asR R 0=os from hos.symm] at hTf hol
   have hosl:os.length=1:=by rw [hos]; rfl
   have ho512:os.length≤512:=by omega
   refine W_x (tok_flag tok (fun t=>t == 23)) mixed ?_
   simp -implicitDefEqProofs -dsimp [show (0:Int)<(K:Int) by omega,hkb,hpv,flagT]
   refine lw_of (W_own 23 1 [7] (by simp) (W_loopM 76 [7,8,9,10,11,18,19,20,21,22,23,24,25,26,27,28,29,30,31,32,33,34,35,36,37,38,39,40,41,42,43,44,45,46,47,48,49,50,51,52,53,54,55,56,57,58,59,60,61,62,63,64,65,66,67,68,69,70,71,72,73,74,75] (by simp [mB]<;>rfl) (σ:=Nat×List (List Rw)) (fun p=>p.2++(os.drop p.1).flatMap (stepA R)=T) (fun p=>os.length - p.1) (fun p=>[(8,.int .i64 p.1),(7,.buf 1 0 p.2.length p.2.length)]) (fun p=>[B.cells [.str t.name,.lst 1 f (t.attrs.map V.str),.lst 2 g (R.map encRw)],B.buf 23 1 (p.2.map (LR false)) false]) (0,[]) (by simpa using hTf) (by simp) (by simp) (by simp) ?_))
   rintro ⟨i,cur⟩ hx N1 Q1 hN1 hQ1
   simp only at hx
   by_cases hib:i<os.length
   ·rw [List.drop_eq_getElem_cons hib,List.flatMap_cons] at hx
    have hoi:=hol _ (List.getElem_mem hib)
    obtain ⟨o,hoe⟩:∃o,o=os[i]:=⟨_,rfl⟩
    rw [←hoe] at hx hoi
    obtain ⟨Z,hZ⟩:∃Z,Z=(os.drop (i+1)).flatMap (stepA R):=⟨_,rfl⟩
    rw [←hZ] at hx
    obtain rfl:i=0:=by omega
    refine W_x (tok_flag tok (fun t=>t == 23)) mixed ?_
    simp -implicitDefEqProofs -dsimp [hpv,flagT]
    refine lw_of (W_loopM 76 [7,9,10,11,24,25,26,27,28,29,30,31,32,33,34,35,36,37,38,39,40,41,42,43,44,45,46,47,48,49,50,51,52,53,54,55,56,57,58,59,60,61,62,63,64,65,66,67,68,69,70,71,72,73,74,75] (by simp [mB]<;>rfl) (σ:=Nat×List (List Rw)) (fun p=>p.2++(((R.drop p.1).filter fun r=>!usedR o r).map (fun r=>o++[r])++Z)=T) (fun p=>R.length - p.1) (fun p=>[(9,.int .i64 p.1),(7,.buf 1 0 p.2.length p.2.length)]) (fun p=>[B.cells [.str t.name,.lst 1 f (t.attrs.map V.str),.lst 2 g (R.map encRw)],B.buf 23 1 (p.2.map (LR false)) false]) (0,cur) (by rw [←hx]; rfl) (by simp) (by simp) (by simp) ?_)
    rintro ⟨j,cur2⟩ hx2 N2 Q2 hN2 hQ2
    simp only at hx2
    by_cases hjb:j<R.length
    ·rw [step_cons hjb] at hx2
     obtain ⟨r,hre⟩:∃r,r=R[j]:=⟨_,rfl⟩
     rw [←hre] at hx2
     have hcl:cur2.length≤512:=by
      have:=congrArg List.length hx2
      simp only [List.length_append] at this
      omega
     refine W_seq ?_
     refine W_x (tok_flag tok (fun t=>t == 23)) mixed ?_
     simp -implicitDefEqProofs -dsimp [hjb,flagT]
     refine W_seq ?_
     refine W_block ?_
     refine W_seq ?_
     refine W_x (tok_flag tok (fun t=>t == 23)) mixed ?_
     simp -implicitDefEqProofs -dsimp [flagT]
     refine W_seq ?_
     refine W_x (tok_flag tok (fun t=>t == 23)) mixed ?_
     simp -implicitDefEqProofs -dsimp [flagT]
     refine lw_of (W_loopM 58 [10,11,31,32,33,34,35,36,37,38,39,40,41,42,43,44,45,46,47,48,49,50,51,52,53,54,55,56,57] (by simp [mB]<;>rfl) (σ:=Nat) (fun _=>True) (fun q=>0 - q) (fun q=>[(11,.int .i64 q),(10,.bool false)]) (fun _=>[B.cells [.str t.name,.lst 1 f (t.attrs.map V.str),.lst 2 g (R.map encRw)],B.buf 23 1 (cur2.map (LR false)) false]) 0 trivial (by simp) (by simp) (by simp) ?_)
     rintro x hu N3 Q3 hN3 hQ3
     have ho0:o=[]:=List.eq_nil_of_length_eq_zero hoi
     subst ho0
     rw [if_neg (by simp [usedR])] at hx2
     refine W_x (tok_flag tok (fun t=>t == 23)) mixed ?_
     simp -implicitDefEqProofs -dsimp [hpv,show ¬(x:Int)<0 by omega,flagT]
     refine hQ3 _ _ _ ?_
     simp -implicitDefEqProofs -dsimp [flagT]
     refine W_x (tok_flag tok (fun t=>t == 23)) mixed ?_
     simp -implicitDefEqProofs -dsimp [hpv,flagT]
     refine lw_of (W_drawT (tok_flag tok (fun t=>t == 23)) mixed [6,13,15] [(0,[1,2]),(7,[0]),(8,[0]),(9,[0]),(10,[0]),(11,[0]),(12,[0])] [] (by kernel_rfl) fun C K hC hK=>?_)
     simp -implicitDefEqProofs [hpv,hjb,hre.symm,encRw,LR,LV,show IntKind.i64.wrap (1:Int)=1 from wrap64 (by omega) (by omega),cap24L cur2.length (by omega),wrapN cur2.length (by omega),flagT]
     refine hK _ _ ?_
     simp -implicitDefEqProofs -dsimp [flagT]
     refine W_x (tok_flag tok (fun t=>t == 23)) mixed ?_
     simp -implicitDefEqProofs -dsimp [wrapS j (by omega),flagT]
     refine hN2 (j+1,cur2++[[r]]) _ _ (by rw [←hx2]; simp) (by simp only; omega) (by simp [hpv]) ⟨[],by simp [LR,encRw,LV]⟩ (by simp [hpv]) (hrb2 _)
    ·rw [List.drop_of_length_le (show R.length≤j by omega),List.filter_nil,List.map_nil,List.nil_append] at hx2
     refine W_x (tok_flag tok (fun t=>t == 23)) mixed ?_
     simp -implicitDefEqProofs -dsimp [hjb,flagT]
     refine hQ2 _ _ _ ?_
     simp -implicitDefEqProofs -dsimp [show IntKind.i64.wrap (1:Int)=1 from wrap64 (by omega) (by omega),flagT]
     refine hN1 (0+1,cur2) _ _ (by rw [←hx2,hZ]) (by simp only; omega) (by simp) ⟨[],by simp⟩ (by simp) (hrb2 _)
   ·rw [List.drop_of_length_le (show os.length≤i by omega),List.flatMap_nil,List.append_nil] at hx
    subst hx
    refine W_frz 1 [7] rfl (by simp) ?_
    refine W_x (tok_flag tok (fun t=>t == 23)) mixed ?_
    simp -implicitDefEqProofs -dsimp [show ¬(i:Int)<1 by omega,hpv,flagT]
    refine hQ1 _ _ _ ?_
    simp -implicitDefEqProofs -dsimp [show IntKind.i64.wrap (1:Int)=1 from wrap64 (by omega) (by omega),flagT]
    refine hN (0+1) _ _ (by omega) (by omega) (by simp [hpk,LRR]) ⟨[B.buf 23 1 (cur.map (LR false)) true],by simp⟩ (by simp [hpk,LRR]) hrb
  ·obtain ⟨os,hos⟩:∃os:List (List Rw),os=asR R k:=⟨_,rfl⟩
   rw [←hos] at hTf hol
   have ho512:os.length≤512:=by rw [hos]; have:=asR_len R k; have:=pow_k (k:=k) h8 (by omega); omega
   have hpv:pvA R k = .lst 1 false (os.map (LR false)):=by unfold pvA; rw [if_neg hk0,hos]; rfl
   refine W_x (tok_flag tok (fun t=>t == 23)) mixed ?_
   simp -implicitDefEqProofs -dsimp [show (k:Int)<(K:Int) by omega,hkb,hpv,flagT]
   refine lw_of (W_own 23 1 [7] (by simp) (W_loopM 76 [7,8,9,10,11,18,19,20,21,22,23,24,25,26,27,28,29,30,31,32,33,34,35,36,37,38,39,40,41,42,43,44,45,46,47,48,49,50,51,52,53,54,55,56,57,58,59,60,61,62,63,64,65,66,67,68,69,70,71,72,73,74,75] (by simp [mB]<;>rfl) (σ:=Nat×List (List Rw)) (fun p=>p.2++(os.drop p.1).flatMap (stepA R)=T) (fun p=>os.length - p.1) (fun p=>[(8,.int .i64 p.1),(7,.buf 1 0 p.2.length p.2.length)]) (fun p=>[B.cells [.str t.name,.lst 1 f (t.attrs.map V.str),.lst 2 g (R.map encRw)],B.buf 23 1 (p.2.map (LR false)) false]) (0,[]) (by simpa using hTf) (by simp) (by simp) (by simp) ?_))
   rintro ⟨i,cur⟩ hx N1 Q1 hN1 hQ1
   simp only at hx
   by_cases hib:i<os.length
   ·rw [List.drop_eq_getElem_cons hib,List.flatMap_cons] at hx
    have hoi:=hol _ (List.getElem_mem hib)
    obtain ⟨o,hoe⟩:∃o,o=os[i]:=⟨_,rfl⟩
    rw [←hoe] at hx hoi
    obtain ⟨Z,hZ⟩:∃Z,Z=(os.drop (i+1)).flatMap (stepA R):=⟨_,rfl⟩
    rw [←hZ] at hx
    refine W_x (tok_flag tok (fun t=>t == 23)) mixed ?_
    simp -implicitDefEqProofs -dsimp [hib,hpv,hoe.symm,flagT]
    refine lw_of (W_loopM 76 [7,9,10,11,24,25,26,27,28,29,30,31,32,33,34,35,36,37,38,39,40,41,42,43,44,45,46,47,48,49,50,51,52,53,54,55,56,57,58,59,60,61,62,63,64,65,66,67,68,69,70,71,72,73,74,75] (by simp [mB]<;>rfl) (σ:=Nat×List (List Rw)) (fun p=>p.2++(((R.drop p.1).filter fun r=>!usedR o r).map (fun r=>o++[r])++Z)=T) (fun p=>R.length - p.1) (fun p=>[(9,.int .i64 p.1),(7,.buf 1 0 p.2.length p.2.length)]) (fun p=>[B.cells [.str t.name,.lst 1 f (t.attrs.map V.str),.lst 2 g (R.map encRw)],B.buf 23 1 (p.2.map (LR false)) false]) (0,cur) (by rw [←hx]; rfl) (by simp) (by simp) (by simp) ?_)
    rintro ⟨j,cur2⟩ hx2 N2 Q2 hN2 hQ2
    simp only at hx2
    by_cases hjb:j<R.length
    ·rw [step_cons hjb] at hx2
     obtain ⟨r,hre⟩:∃r,r=R[j]:=⟨_,rfl⟩
     rw [←hre] at hx2
     have hcl:cur2.length≤512:=by
      have:=congrArg List.length hx2
      simp only [List.length_append] at this
      omega
     refine W_seq ?_
     refine W_x (tok_flag tok (fun t=>t == 23)) mixed ?_
     simp -implicitDefEqProofs -dsimp [hjb,flagT]
     refine W_seq ?_
     refine W_block ?_
     refine W_seq ?_
     refine W_x (tok_flag tok (fun t=>t == 23)) mixed ?_
     simp -implicitDefEqProofs -dsimp [flagT]
     refine W_seq ?_
     refine W_x (tok_flag tok (fun t=>t == 23)) mixed ?_
     simp -implicitDefEqProofs -dsimp [flagT]
     refine lw_of (W_loopM 58 [10,11,31,32,33,34,35,36,37,38,39,40,41,42,43,44,45,46,47,48,49,50,51,52,53,54,55,56,57] (by simp [mB]<;>rfl) (σ:=Nat×Bool) (fun q=>(q.2||usedR (o.drop q.1) r)=usedR o r) (fun q=>o.length - q.1) (fun q=>[(11,.int .i64 q.1),(10,.bool q.2)]) (fun _=>[B.cells [.str t.name,.lst 1 f (t.attrs.map V.str),.lst 2 g (R.map encRw)],B.buf 23 1 (cur2.map (LR false)) false]) (0,false) (by simp) (by simp) (by simp) (by simp) ?_)
     rintro ⟨x,b⟩ hu N3 Q3 hN3 hQ3
     simp only at hu
     by_cases hxb:x<o.length
     ·rw [List.drop_eq_getElem_cons hxb] at hu
      obtain ⟨y,hye⟩:∃y,y=o[x]:=⟨_,rfl⟩
      rw [←hye] at hu
      rw [show usedR (y::o.drop (x+1)) r=((y.id == r.id)||usedR (o.drop (x+1)) r) from rfl,←Bool.or_assoc] at hu
      cases b with
      | true =>
       refine W_x (tok_flag tok (fun t=>t == 23)) mixed ?_
       simp -implicitDefEqProofs -dsimp [hib,hpv,hoe.symm,hxb,LR,flagT]
       refine .inr ⟨stop_of (by kernel_rfl),?_⟩
       simp -implicitDefEqProofs -dsimp [wrapS x (by omega),flagT]
       refine hN3 (x+1,true) _ _ (by simpa using hu) (by simp only; omega) (by simp) ⟨[],by simp⟩ (by simp [hpv]) (hrb2 _)
      | false =>
       rw [Bool.false_or] at hu
       refine W_x (tok_flag tok (fun t=>t == 23)) mixed ?_
       simp -implicitDefEqProofs -dsimp [hib,hpv,hoe.symm,hxb,hye.symm,hjb,hre.symm,encRw,LR,LV,flagT]
       refine .inr ⟨stop_of (by kernel_rfl),?_⟩
       simp -implicitDefEqProofs -dsimp [wrapS x (by omega),flagT]
       refine hN3 (x+1,y.id == r.id) _ _ hu (by simp only; omega) (by simp) ⟨[],by simp⟩ (by simp [hpv]) (hrb2 _)
     ·rw [List.drop_of_length_le (show o.length≤x by omega)] at hu
      rw [show usedR [] r=false from rfl,Bool.or_false] at hu
      cases b with
      | true =>
       rw [if_pos hu.symm,List.nil_append] at hx2
       refine W_x (tok_flag tok (fun t=>t == 23)) mixed ?_
       simp -implicitDefEqProofs -dsimp [hib,hpv,hoe.symm,hxb,LR,flagT]
       refine hQ3 _ _ _ ?_
       simp -implicitDefEqProofs -dsimp [flagT]
       refine W_seq ?_
       refine W_x (tok_flag tok (fun t=>t == 23)) mixed ?_
       simp -implicitDefEqProofs -dsimp [flagT]
       refine W_x (tok_flag tok (fun t=>t == 23)) mixed ?_
       simp -implicitDefEqProofs -dsimp [flagT]
       refine W_x (tok_flag tok (fun t=>t == 23)) mixed ?_
       simp -implicitDefEqProofs -dsimp [wrapS j (by omega),flagT]
       refine hN2 (j+1,cur2) _ _ hx2 (by simp only; omega) (by simp) ⟨[],by simp⟩ (by simp [hpv]) (hrb2 _)
      | false =>
       rw [if_neg (by rw [←hu]; simp)] at hx2
       refine W_x (tok_flag tok (fun t=>t == 23)) mixed ?_
       simp -implicitDefEqProofs -dsimp [hib,hpv,hoe.symm,hxb,LR,flagT]
       refine hQ3 _ _ _ ?_
       simp -implicitDefEqProofs -dsimp [flagT]
       refine W_x (tok_flag tok (fun t=>t == 23)) mixed ?_
       simp -implicitDefEqProofs -dsimp [hpv,flagT]
       have hone:¬o=[]:=fun e=>by rw [e] at hoi; simp at hoi; omega
       refine lw_of (W_drawT tok mixed [6,13,15] [(0,[1,2]),(7,[0]),(8,[0]),(9,[0]),(10,[0]),(11,[0]),(12,[0])] [] (by kernel_rfl) fun C K hC hK=>?_)
       simp -implicitDefEqProofs [hone,hib,hpv,hoe.symm,hjb,hre.symm,encRw,LR,LV,hoi,hk0,show k≤9223372036854775807 by omega,show k*32≤140737488355328 by omega,show k+1≤9223372036854775807 by omega,show (k+1)*32≤140737488355328 by omega,cap24L cur2.length (by omega),wrapN cur2.length (by omega)]
       refine hK _ _ ?_
       simp -implicitDefEqProofs -dsimp [flagT]
       refine W_frzB 2 cur2.length (k0:=1) (by decide) rfl rfl (by simp [hoi]) ?_
       refine W_x (tok_flag tok (fun t=>t == 23)) mixed ?_
       simp -implicitDefEqProofs -dsimp [wrapS j (by omega),flagT]
       refine hN2 (j+1,cur2++[o++[r]]) _ _ (by rw [←hx2]; simp) (by simp only; omega) (by simp [hpv]) ⟨_,by simp [LR,encRw,LV]; rfl⟩ (by simp [hpv]) (hrb2 _)
    ·rw [List.drop_of_length_le (show R.length≤j by omega),List.filter_nil,List.map_nil,List.nil_append] at hx2
     refine W_x (tok_flag tok (fun t=>t == 23)) mixed ?_
     simp -implicitDefEqProofs -dsimp [hjb,flagT]
     refine hQ2 _ _ _ ?_
     simp -implicitDefEqProofs -dsimp [wrapS i (by omega),flagT]
     refine hN1 (i+1,cur2) _ _ (by rw [←hx2,hZ]) (by simp only; omega) (by simp) ⟨[],by simp⟩ (by simp) (hrb2 _)
   ·rw [List.drop_of_length_le (show os.length≤i by omega),List.flatMap_nil,List.append_nil] at hx
    subst hx
    refine W_frz 1 [7] rfl (by simp) ?_
    refine W_x (tok_flag tok (fun t=>t == 23)) mixed ?_
    simp -implicitDefEqProofs -dsimp [hib,hpv,flagT]
    refine hQ1 _ _ _ ?_
    simp -implicitDefEqProofs -dsimp [wrapS k (by omega),flagT]
    refine hN (k+1) _ _ (by omega) (by omega) (by simp [hpk,LRR]) ⟨[B.buf 23 1 (cur.map (LR false)) true],by simp⟩ (by simp [hpk,LRR]) hrb
 ·obtain rfl:k=K:=by omega
  have hpk:pvA R k=LRR (asR R k):=by unfold pvA; rw [if_neg (by omega)]
  refine W_x (tok_flag tok (fun t=>t == 23)) mixed ?_
  simp -implicitDefEqProofs -dsimp [hkb,hpk,flagT]
  refine hQ _ _ _ ?_
  simp -implicitDefEqProofs -dsimp [flagT]
  exact .pure _ (LRR_pure _)
theorem error18 (t:Tb) (d:Dn) (f g f2:Bool) (h:TbS t) (ha:d.atoms.length≤1000000) (hv:validT t=0) (ho:dnB t.attrs.length d=true):ConP Tryz.prog 145 [encTb f g t,encDn f2 d] fun r=>r = .int .i64 0:=by
 have c1:=valid03 t f g h.ok
 rw [hv] at c1
 have c2:=valid18 t.attrs.length d f2 ha
 rw [ho] at c2
 have h8:=h.few
 simp only [encTb,LS,LR,encDn,LA] at c1 c2
 by_cases h3:d.vars=3
 ·rw [h3] at c2
  refine conP_of_conH (conH_of_W tok Tryz.func145 rfl rfl ?_)
  refine wx ?_
  simp -implicitDefEqProofs -dsimp [Tryz.f145,List.replicate,encTb,LS,LR,encDn,LA,h3]
  refine (callP (c1) (by simp)).mono ?_
  rintro r H' ⟨rfl,rfl⟩
  simp -implicitDefEqProofs -dsimp []
  refine (callP (c2) (by simp)).mono ?_
  rintro r H' ⟨rfl,rfl⟩
  simp -implicitDefEqProofs -dsimp [show ¬(200:Int)<t.rows.length by omega]
 ·refine conP_of_conH (conH_of_W tok Tryz.func145 rfl rfl ?_)
  refine wx ?_
  simp -implicitDefEqProofs -dsimp [Tryz.f145,List.replicate,encTb,LS,LR,encDn,LA]
  refine (callP (c1) (by simp)).mono ?_
  rintro r H' ⟨rfl,rfl⟩
  simp -implicitDefEqProofs -dsimp []
  refine (callP (c2) (by simp)).mono ?_
  rintro r H' ⟨rfl,rfl⟩
  simp -implicitDefEqProofs -dsimp [h3]
theorem fold_cons {α β:Type} {f:β→α→β} {l:List α} {i:Nat} {o:β} (h:i<l.length):(l.drop i).foldl f o=(l.drop (i+1)).foldl f (f o l[i]):=by
 rw [List.drop_eq_getElem_cons h,List.foldl_cons]
theorem putR_lens {l:List (List Int)} {x:List Int} (hl:∀e∈l,e.length≤3) (hx:x.length≤3):∀e∈putR l x,e.length≤3:=fun e he=>by
 rcases putR_mem.1 he with h | h
 ·exact hl e h
 ·rw [h]; exact hx
theorem viol18 (t:Tb) (d:Dn) (f g f2:Bool) (h:TbS t) (hd:DnS d) (ha:d.atoms.length≤1000000) (hv:validT t=0) (ho:dnB t.attrs.length d=true):ConP Tryz.prog 94 [encTb f g t,encDn f2 d] fun r=>r = .tup [LL false ((asR t.rows d.vars.toNat).foldl (stR d) []),.int .i64 0]:=by
 have ct:=tbC hv
 obtain ⟨v1,v3⟩:=dn_vars ho
 have hat:=at_ok ct h hd ho
 have c1:=error18 t d f g f2 h ha hv ho
 obtain ⟨K,hK⟩:∃K,K=d.vars.toNat:=⟨_,rfl⟩
 have hKv:d.vars=(K:Int):=by omega
 have c2:=assign18 t f g K (by omega) (by omega) h.few
 have has512:(asR t.rows K).length≤512:=by have:=asR_len t.rows K; have:=pow_k (k:=K) h.few (by omega); omega
 have hrs:∀rs∈asR t.rows K,rs.length=K∧∀r∈rs,r∈t.rows:=fun rs hrs=>⟨(asR_mem.1 hrs).1,fun r hr=>extA_mem (asR_mem.1 hrs).2 r hr⟩
 rw [←hK] at hat ⊢
 obtain ⟨az,hase⟩:∃az,az=asR t.rows K:=⟨_,rfl⟩
 rw [←hase] at c2 has512 hrs ⊢
 obtain ⟨E,hE⟩:∃E,E=az.foldl (stR d) []:=⟨_,rfl⟩
 rw [←hE]
 have htr:∀n,rbB n (tcB t f g):=fun n=>tcB_rb n t f g
 have hdr:∀n,rbB n (dcB d f2):=fun n=>dcB_rb n d f2
 obtain ⟨tc,htc⟩:∃tc,tc=tcB t f g:=⟨_,rfl⟩
 obtain ⟨dc,hdc⟩:∃dc,dc=dcB d f2:=⟨_,rfl⟩
 rw [←htc] at htr
 rw [←hdc] at hdr
 have htB:B.cells [.str t.name,.lst 1 f (t.attrs.map V.str),.lst 2 g (t.rows.map encRw)]=tc:=by rw [htc]; rfl
 have hdB:B.cells [.int .i64 K,.lst 11 f2 (d.atoms.map encAt)]=dc:=by rw [hdc]; unfold dcB; rw [hKv]
 have hrb:∀o:List (List Int),∀bl∈[tc,dc,B.buf 46 1 (o.map (L1 false)) false],rbB 3 bl:=fun o bl hbl=>by
  simp only [List.mem_cons,List.not_mem_nil,or_false] at hbl
  rcases hbl with rfl | rfl | rfl
  ·exact htr _
  ·exact hdr _
  ·exact LF_rb _ _ _
 simp only [encTb,LR,LS,encDn,LA,LRR] at c1 c2
 rw [hKv] at c1
 refine conP_of_conH (conH_of_W tok Tryz.func94 rfl rfl ?_)
 refine wx ?_
 simp -implicitDefEqProofs -dsimp [Tryz.f94,List.replicate,encTb,encDn,LR,LS,LA,hKv]
 refine (callP (c1) (by simp)).mono ?_
 rintro r H' ⟨rfl,rfl⟩
 simp -implicitDefEqProofs -dsimp []
 refine (callP (c2) (by simp)).mono ?_
 rintro r H' ⟨rfl,rfl⟩
 simp -implicitDefEqProofs -dsimp []
 rw [htB,hdB]
 refine lw_of (W_own 46 1 [7] (by simp) (W_loopM 39 [7,9,20,21,22,23,24,25,26,27,28,29,30,31,32,33,34,35,36,37,38] (by simp [mB]<;>rfl) (σ:=Nat×List (List Int)) (fun p=>p.1≤az.length∧p.2.length≤p.1∧(∀e∈p.2,e.length≤3)∧(az.drop p.1).foldl (stR d) p.2=E) (fun p=>az.length - p.1) (fun p=>[(9,.int .i64 p.1),(7,.buf 2 0 p.2.length p.2.length)]) (fun p=>[tc,dc,B.buf 46 1 (p.2.map (L1 false)) false]) (0,[]) ⟨by simp,by simp,by simp,by rw [hE,List.drop_zero]⟩ (by simp) (by simp) (by simp) ?_))
 rintro ⟨i,out⟩ ⟨hi,hol,hle,hx⟩ N Q hN hQ
 simp only at hi hol hle hx
 by_cases hb:i<az.length
 ·rw [fold_cons hb] at hx
  obtain ⟨q1,q2⟩:=hrs _ (List.getElem_mem hb)
  obtain ⟨rs,hre⟩:∃rs,rs=az[i]:=⟨_,rfl⟩
  rw [←hre] at hx q1 q2
  have c3:=all18 d rs f2 false (hat rs q1 q2) (by omega) ha
  have c4:=asc18 rs false (by omega)
  have c5:=put18 tc dc htr hdr out (srt (idsR rs)) (by omega) (fun e he=>by have:=hle e he; omega) (by rw [srt_len,idsR_len]; omega)
  have hsl:(srt (idsR rs)).length≤3:=by rw [srt_len,idsR_len]; omega
  have hpl:=putR_len out (srt (idsR rs))
  have hps:=putR_lens hle hsl
  unfold stR at hx
  simp only [encDn,LR,LA,L1] at c3 c4 c5
  rw [hKv] at c3
  cases hs:allS d rs with
  | false =>
   rw [hs] at c3 hx
   rw [if_neg (by simp)] at hx
   refine wx ?_
   simp -implicitDefEqProofs -dsimp [hb,hre.symm,LR,←hdB]
   refine .inr ⟨stop_of (by kernel_rfl),?_⟩
   refine cy_of _ (callP (c3) (by simp)) ?_
   simp -implicitDefEqProofs -dsimp [wrapS i (by omega)]
   rw [hdB]
   refine hN (i+1,out) _ _ ⟨by simp only; omega,by simp only; omega,hle,hx⟩ (by simp only; omega) (by simp) ⟨[],by simp⟩ (by simp) (hrb _)
  | true =>
   rw [hs] at c3 hx
   rw [if_pos rfl] at hx
   obtain ⟨O,hO⟩:∃O,O=putR out (srt (idsR rs)):=⟨_,rfl⟩
   rw [←hO] at c5 hx hpl hps
   obtain ⟨S,hS⟩:∃S,S=srt (idsR rs):=⟨_,rfl⟩
   rw [←hS] at c4 c5
   refine wx ?_
   simp -implicitDefEqProofs -dsimp [hb,hre.symm,LR,←hdB]
   refine .inr ⟨stop_of (by kernel_rfl),?_⟩
   refine cy_of _ (callP (c3) (by simp)) ?_
   simp -implicitDefEqProofs -dsimp [hb,hre.symm,LR]
   rw [hdB]
   refine (callP (c4) (by simp)).mono ?_
   rintro r H' ⟨rfl,rfl⟩
   simp -implicitDefEqProofs -dsimp []
   refine wcZ c5 ?_
   rintro r H' ⟨rfl,rfl⟩
   simp -implicitDefEqProofs -dsimp [wrapS i (by omega)]
   refine hN (i+1,O) _ _ ⟨by simp only; omega,by simp only; omega,hps,hx⟩ (by simp only; omega) (by simp) ⟨[],by simp⟩ (by simp) (hrb _)
 ·rw [List.drop_of_length_le (by omega),List.foldl_nil] at hx
  subst hx
  refine W_frz 2 [7] rfl (by simp) ?_
  refine wx ?_
  simp -implicitDefEqProofs -dsimp [hb]
  refine hQ _ _ _ ?_
  simp -implicitDefEqProofs -dsimp [LL]
  skip
theorem sub_full (x n:Nat):decide (x &&& fullN n=x)=decide (x / 2^n=0):=by
 refine decide_eq_decide.2 ⟨fun h=>?_,fun h=>?_⟩
 ·refine Nat.div_eq_of_lt ?_
  refine Nat.lt_pow_two_of_testBit x fun i hi=>?_
  rw [←h,Nat.testBit_and,fullN_bit]
  simp
  omega
 ·have hx:x<2^n:=by
   have hp:0<2^n:=Nat.two_pow_pos n
   rcases Nat.lt_or_ge x (2^n) with h1 | h1
   ·exact h1
   ·have:=Nat.div_pos h1 hp; omega
  refine Nat.eq_of_testBit_eq fun i=>?_
  rw [Nat.testBit_and,fullN_bit]
  by_cases hi:i<n
  ·simp [hi]
  ·have:x.testBit i=false:=Nat.testBit_lt_two_pow (Nat.lt_of_lt_of_le hx (Nat.pow_le_pow_right (by omega) (by omega)))
   simp [this]
theorem pairs37 (t:Tb) (d:Fd) (f g:Bool) (h:TbS t) (hv:validT t=0) (hd:d.l<4294967296∧d.r<4294967296) (ho:fdOk1 t.attrs.length d=true):ConP Tryz.prog 91 [encTb f g t,encF d] fun r=>r = .tup [LL false (prL (fdP d.l d.r) t.rows),.int .i64 0]:=by
 refine conP_LT ?_
 have ct:=tbC hv
 have hn:=ct.wide
 have h1:=or32 d.l d.r hd.1 hd.2
 have c1:=full02 t.attrs.length (by omega)
 have hol:d.l ||| d.r<4294967296:=Nat.or_lt_two_pow (n:=32) hd.1 hd.2
 have c2:=sub02 (d.l ||| d.r) (fullN t.attrs.length) hol (fullN_lt _ (by omega))
 rw [sub_full] at c2
 unfold fdOk1 at ho
 rw [ho] at c2
 obtain ⟨o,hoe⟩:∃o,o=d.l ||| d.r:=⟨_,rfl⟩
 rw [←hoe] at h1 c2
 obtain ⟨R,hR⟩:∃R,R=t.rows:=⟨_,rfl⟩
 obtain ⟨E,hE⟩:∃E,E=prL (fdP d.l d.r) R:=⟨_,rfl⟩
 have hR8:R.length≤8:=by rw [hR]; exact h.few
 have hE64:E.length≤64:=by rw [hE]; exact Nat.le_trans (prL_len R) (sq8 hR8)
 have hlen:∀r∈R,r.vals.length≤16:=by rw [hR]; exact fun r hr=>by have:=ct.len r hr; omega
 have hsz:∀r∈R,∀v∈r.vals,v.s.size≤maxLen:=by rw [hR]; exact h.sz
 rw [←hR,←hE]
 have hrb:∀o:List (List Int),∀bl∈[B.cells [.str t.name,.lst 1 f (t.attrs.map V.str),.lst 2 g (R.map encRw)],B.cells [.int .u32 (d.l:Int),.int .u32 (d.r:Int)],B.buf 46 1 (o.map (L1 true)) false],rbB 3 bl:=fun o bl hbl=>by
  simp only [List.mem_cons,List.not_mem_nil,or_false] at hbl
  rcases hbl with rfl | rfl | rfl
  ·intro c hc; simp at hc; rcases hc with rfl | rfl | rfl<;>simp [rb,rb1]
  ·intro c hc; simp at hc; rcases hc with rfl | rfl<;>simp [rb,rb1]
  ·exact LT_rb _ _ _
 refine conP_of_conH (conH_of_W (tok_flag tok (fun t=>t == 46)) Tryz.func91 rfl rfl ?_)
 refine W_x (tok_flag tok (fun t=>t == 46)) mixed ?_
 simp -implicitDefEqProofs -dsimp [Tryz.f91,List.replicate,encTb,encF,LR,LS,hR.symm,h1,L1,flagT]
 refine .inr ⟨stop_of (by kernel_rfl),?_⟩
 refine cy_of _ (callP (c1) (by simp)) ?_
 simp -implicitDefEqProofs -dsimp [L1,flagT]
 refine cy_of _ (callP (c2) (by simp)) ?_
 simp -implicitDefEqProofs -dsimp [L1,flagT]
 refine lw_of (W_own 46 1 [6] (by simp) (W_loopM 81 [6,7,8,20,21,22,23,24,25,26,27,28,29,30,31,32,33,34,35,36,37,38,39,40,41,42,43,44,45,46,47,48,49,50,51,52,53,54,55,56,57,58,59,60,61,62,63,64,65,66,67,68,69,70,71,72,73,74,75,76,77,78,79,80] (by simp [mB]<;>rfl) (σ:=Nat×List (List Int)) (fun p=>p.2++prL (fdP d.l d.r) (R.drop p.1)=E) (fun p=>R.length - p.1) (fun p=>[(7,.int .i64 p.1),(6,.buf 2 0 p.2.length p.2.length)]) (fun p=>[B.cells [.str t.name,.lst 1 f (t.attrs.map V.str),.lst 2 g (R.map encRw)],B.cells [.int .u32 (d.l:Int),.int .u32 (d.r:Int)],B.buf 46 1 (p.2.map (L1 true)) false]) (0,[]) (by rw [hE]; rfl) (by simp) (by simp) (by simp) ?_))
 rintro ⟨i,out⟩ hx N Q hN hQ
 simp only at hx
 by_cases hb:i<R.length
 ·rw [pr_cons hb] at hx
  have hri:=hlen _ (List.getElem_mem hb)
  have hsi:=hsz _ (List.getElem_mem hb)
  obtain ⟨r,hre⟩:∃r,r=R[i]:=⟨_,rfl⟩
  rw [←hre] at hx hri hsi
  refine W_x (tok_flag tok (fun t=>t == 46)) mixed ?_
  simp -implicitDefEqProofs -dsimp [hb,wrapS i (by omega),L1,flagT]
  refine lw_of (W_loopM 81 [6,8,29,30,31,32,33,34,35,36,37,38,39,40,41,42,43,44,45,46,47,48,49,50,51,52,53,54,55,56,57,58,59,60,61,62,63,64,65,66,67,68,69,70,71,72,73,74,75,76,77,78,79,80] (by simp [mB]<;>rfl) (σ:=Nat×List (List Int)) (fun p=>i<p.1∧p.2++((((R.drop p.1).filter (fdP d.l d.r r)).map fun s=>[r.id,s.id])++prL (fdP d.l d.r) (R.drop (i+1)))=E) (fun p=>R.length - p.1) (fun p=>[(8,.int .i64 p.1),(6,.buf 2 0 p.2.length p.2.length)]) (fun p=>[B.cells [.str t.name,.lst 1 f (t.attrs.map V.str),.lst 2 g (R.map encRw)],B.cells [.int .u32 (d.l:Int),.int .u32 (d.r:Int)],B.buf 46 1 (p.2.map (L1 true)) false]) (i+1,out) ⟨by simp,hx⟩ (by simp) (by simp) (by simp) ?_)
  rintro ⟨k,o2⟩ ⟨hk0,hx2⟩ N2 Q2 hN2 hQ2
  simp only at hk0 hx2
  by_cases hkb:k<R.length
  ·rw [in_cons hkb] at hx2
   have hrk:=hlen _ (List.getElem_mem hkb)
   obtain ⟨s,hse⟩:∃s,s=R[k]:=⟨_,rfl⟩
   rw [←hse] at hx2 hrk
   have c4:=agree03 r s (d.l:Int) (by omega) (by omega) hsi
   have c5:=agree03 r s (d.r:Int) (by omega) (by omega) hsi
   simp only [encRw,LV] at c4 c5
   have ho2:o2.length≤64:=by rw [←hx2] at hE64; simp only [List.length_append] at hE64; omega
   cases q1:agreeR r s (d.l:Int) with
   | false =>
    rw [q1] at c4
    rw [if_neg (by simp [fdP,q1]),List.nil_append] at hx2
    refine W_x (tok_flag tok (fun t=>t == 46)) mixed ?_
    simp -implicitDefEqProofs -dsimp [hb,hkb,hre.symm,hse.symm,encRw,LV,L1,flagT]
    refine .inr ⟨stop_of (by kernel_rfl),?_⟩
    refine cy_of _ (callP (c4) (by simp)) ?_
    simp -implicitDefEqProofs -dsimp [wrapS k (by omega),L1,flagT]
    refine hN2 (k+1,o2) _ _ ⟨by simp only; omega,hx2⟩ (by simp only; omega) (by simp) ⟨_,rfl⟩ (by simp) (by simp [L1])
   | true =>
    rw [q1] at c4
    cases q2:agreeR r s (d.r:Int) with
    | true =>
     rw [q2] at c5
     rw [if_neg (by simp [fdP,q2]),List.nil_append] at hx2
     refine W_x (tok_flag tok (fun t=>t == 46)) mixed ?_
     simp -implicitDefEqProofs -dsimp [hb,hkb,hre.symm,hse.symm,encRw,LV,L1,flagT]
     refine .inr ⟨stop_of (by kernel_rfl),?_⟩
     refine cy_of _ (callP (c4) (by simp)) ?_
     simp -implicitDefEqProofs -dsimp [hb,hkb,hre.symm,hse.symm,encRw,LV,L1,flagT]
     refine cy_of _ (callP (c5) (by simp)) ?_
     simp -implicitDefEqProofs -dsimp [wrapS k (by omega),L1,flagT]
     refine hN2 (k+1,o2) _ _ ⟨by simp only; omega,hx2⟩ (by simp only; omega) (by simp) ⟨_,rfl⟩ (by simp) (by simp [L1])
    | false =>
     rw [q2] at c5
     rw [if_pos (by simp [fdP,q1,q2])] at hx2
     refine W_x (tok_flag tok (fun t=>t == 46)) mixed ?_
     simp -implicitDefEqProofs -dsimp [hb,hkb,hre.symm,hse.symm,encRw,LV,L1,flagT]
     refine .inr ⟨stop_of (by kernel_rfl),?_⟩
     refine cy_of _ (callP (c4) (by simp)) ?_
     simp -implicitDefEqProofs -dsimp [hb,hkb,hre.symm,hse.symm,encRw,LV,L1,flagT]
     refine cy_of _ (callP (c5) (by simp)) ?_
     simp -implicitDefEqProofs -dsimp [L1,flagT]
     refine lw_of (W_drawT (tok_flag tok (fun t=>t == 46)) mixed [15] [] [] (by kernel_rfl) fun C K hC hK=>?_)
     simp -implicitDefEqProofs [hb,hkb,hre.symm,hse.symm,encRw,LV,cap24 o2.length (by omega),wrapN o2.length (by omega),L1,flagT]
     refine hK _ _ ?_
     simp -implicitDefEqProofs -dsimp [wrapS k (by omega),L1,flagT]
     refine hN2 (k+1,o2++[[r.id,s.id]]) _ _ ⟨by simp only; omega,by rw [←hx2]; simp⟩ (by simp only; omega) (by simp) ⟨[],by simp [encI,L1]⟩ (by simp) (hrb _)
  ·rw [List.drop_of_length_le (show R.length≤k by omega)] at hx2
   refine W_x (tok_flag tok (fun t=>t == 46)) mixed ?_
   simp -implicitDefEqProofs -dsimp [hkb,L1,flagT]
   refine hQ2 _ _ _ ?_
   simp -implicitDefEqProofs -dsimp [wrapS i (by omega),L1,flagT]
   refine hN (i+1,o2) _ _ (by simpa using hx2) (by simp only; omega) (by simp) ⟨_,rfl⟩ (by simp) (by simp [L1])
 ·rw [List.drop_of_length_le (show R.length≤i by omega),prL,List.append_nil] at hx
  subst hx
  refine W_frz 2 [6] rfl (by simp) ?_
  refine W_x (tok_flag tok (fun t=>t == 46)) mixed ?_
  simp -implicitDefEqProofs -dsimp [hb,L1,flagT]
  refine hQ _ _ _ ?_
  simp -implicitDefEqProofs -dsimp [LT,L1,flagT]
  skip
theorem pairs37e (t:Tb) (d:Fd) (f g:Bool) (hn:t.attrs.length≤16) (hd:d.l<4294967296∧d.r<4294967296) (ho:fdOk1 t.attrs.length d=false):ConP Tryz.prog 91 [encTb f g t,encF d] fun r=>r = .tup [.nilS,.int .i64 1]:=by
 have h1:=or32 d.l d.r hd.1 hd.2
 have c1:=full02 t.attrs.length (by omega)
 have hol:d.l ||| d.r<4294967296:=Nat.or_lt_two_pow (n:=32) hd.1 hd.2
 have c2:=sub02 (d.l ||| d.r) (fullN t.attrs.length) hol (fullN_lt _ (by omega))
 rw [sub_full] at c2
 unfold fdOk1 at ho
 rw [ho] at c2
 obtain ⟨o,hoe⟩:∃o,o=d.l ||| d.r:=⟨_,rfl⟩
 rw [←hoe] at h1 c2
 refine conP_of_conH (conH_of_W tok Tryz.func91 rfl rfl ?_)
 refine wx ?_
 simp -implicitDefEqProofs -dsimp [Tryz.f91,List.replicate,encTb,encF,LR,LS,h1]
 refine .inr ⟨stop_of (by kernel_rfl),?_⟩
 refine cy_of _ (callP (c1) (by simp)) ?_
 simp -implicitDefEqProofs -dsimp []
 refine cy_of _ (callP (c2) (by simp)) ?_
 simp -implicitDefEqProofs -dsimp []
def wlV (t:Tb) (c:Cn):V:=if cnErr t c=0 then LL false (cnR t c) else .nilS
theorem wlV_pure (t:Tb) (c:Cn):AM.Pure (wlV t c):=by
 unfold wlV
 split
 ·exact LL_pure _ _
 ·exact .nilS
theorem viol16e (t:Tb) (c:Cfd) (f g f2 g2:Bool) (h:TbOk t) (hl:c.l.length≤1000000) (hp:c.p.length≤1000000) (hv:validT t=0) (ho:cfB t.attrs.length c=false):ConP Tryz.prog 92 [encTb f g t,encCfd f2 g2 c] fun r=>r = .tup [.nilS,.int .i64 1]:=by
 have c1:=valid03 t f g h
 rw [hv] at c1
 have c2:=valid16 t.attrs.length c f2 g2 (tbC hv).wide hl hp
 rw [ho] at c2
 simp only [encTb,LS,LR,encCfd,L1,LCl] at c1 c2
 refine conP_of_conH (conH_of_W tok Tryz.func92 rfl rfl ?_)
 refine wx ?_
 simp -implicitDefEqProofs -dsimp [Tryz.f92,List.replicate,encTb,LS,LR,encCfd,L1,LCl]
 refine (callP (c1) (by simp)).mono ?_
 rintro r H' ⟨rfl,rfl⟩
 simp -implicitDefEqProofs -dsimp []
 refine (callP (c2) (by simp)).mono ?_
 rintro r H' ⟨rfl,rfl⟩
 simp -implicitDefEqProofs -dsimp []
theorem error17e (t:Tb) (d:Od) (f g f2 g2:Bool) (h:TbOk t) (hl:d.l.length≤1000000) (hr:d.r.length≤1000000) (hv:validT t=0) (ho:odB t.attrs.length d=false):ConP Tryz.prog 143 [encTb f g t,encOd f2 g2 d] fun r=>r = .int .i64 1:=by
 have c1:=valid03 t f g h
 rw [hv] at c1
 have c2:=valid17 t.attrs.length d f2 g2 hl hr
 rw [ho] at c2
 simp only [encTb,LS,LR,encOd,L1] at c1 c2
 refine conP_of_conH (conH_of_W tok Tryz.func143 rfl rfl ?_)
 refine wx ?_
 simp -implicitDefEqProofs -dsimp [Tryz.f143,List.replicate,encTb,LS,LR,encOd,L1]
 refine (callP (c1) (by simp)).mono ?_
 rintro r H' ⟨rfl,rfl⟩
 simp -implicitDefEqProofs -dsimp []
 refine (callP (c2) (by simp)).mono ?_
 rintro r H' ⟨rfl,rfl⟩
 simp -implicitDefEqProofs -dsimp []
theorem viol17e (t:Tb) (d:Od) (f g f2 g2:Bool) (h:TbOk t) (hl:d.l.length≤1000000) (hr:d.r.length≤1000000) (hv:validT t=0) (ho:odB t.attrs.length d=false):ConP Tryz.prog 93 [encTb f g t,encOd f2 g2 d] fun r=>r = .tup [.nilS,.int .i64 1]:=by
 have c1:=error17e t d f g f2 g2 h hl hr hv ho
 simp only [encTb,LS,LR,encOd,L1] at c1
 refine conP_of_conH (conH_of_W tok Tryz.func93 rfl rfl ?_)
 refine wx ?_
 simp -implicitDefEqProofs -dsimp [Tryz.f93,List.replicate,encTb,LS,LR,encOd,L1]
 refine (callP (c1) (by simp)).mono ?_
 rintro r H' ⟨rfl,rfl⟩
 simp -implicitDefEqProofs -dsimp []
theorem error18e (t:Tb) (d:Dn) (f g f2:Bool) (h:TbOk t) (ha:d.atoms.length≤1000000) (hv:validT t=0) (ho:dnB t.attrs.length d=false):ConP Tryz.prog 145 [encTb f g t,encDn f2 d] fun r=>r = .int .i64 1:=by
 have c1:=valid03 t f g h
 rw [hv] at c1
 have c2:=valid18 t.attrs.length d f2 ha
 rw [ho] at c2
 simp only [encTb,LS,LR,encDn,LA] at c1 c2
 refine conP_of_conH (conH_of_W tok Tryz.func145 rfl rfl ?_)
 refine wx ?_
 simp -implicitDefEqProofs -dsimp [Tryz.f145,List.replicate,encTb,LS,LR,encDn,LA]
 refine (callP (c1) (by simp)).mono ?_
 rintro r H' ⟨rfl,rfl⟩
 simp -implicitDefEqProofs -dsimp []
 refine (callP (c2) (by simp)).mono ?_
 rintro r H' ⟨rfl,rfl⟩
 simp -implicitDefEqProofs -dsimp []
theorem viol18e (t:Tb) (d:Dn) (f g f2:Bool) (h:TbOk t) (ha:d.atoms.length≤1000000) (hv:validT t=0) (ho:dnB t.attrs.length d=false):ConP Tryz.prog 94 [encTb f g t,encDn f2 d] fun r=>r = .tup [.nilS,.int .i64 1]:=by
 have c1:=error18e t d f g f2 h ha hv ho
 simp only [encTb,LS,LR,encDn,LA] at c1
 refine conP_of_conH (conH_of_W tok Tryz.func94 rfl rfl ?_)
 refine wx ?_
 simp -implicitDefEqProofs -dsimp [Tryz.f94,List.replicate,encTb,LS,LR,encDn,LA]
 refine (callP (c1) (by simp)).mono ?_
 rintro r H' ⟨rfl,rfl⟩
 simp -implicitDefEqProofs -dsimp []
theorem viol37 (t:Tb) (c:Cn) (f g:Bool) (h:TbS t) (hv:validT t=0) (hc:CnB c):ConP Tryz.prog 43 [encTb f g t,encCn c] fun r=>r = .tup [wlV t c,.int .i64 (cnErr t c)]:=by
 have ct:=tbC hv
 have hn:=ct.wide
 have hv0:∀e,cnErr t c=e→e≠0→wlV t c = .nilS:=fun e h1 h2=>by unfold wlV; rw [if_neg (by rw [h1]; exact h2)]
 have hv1:cnErr t c=0→wlV t c=LL false (cnR t c):=fun h1=>by unfold wlV; rw [if_pos h1]
 cases hnm:(c.table.toList == t.name.toList) with
 | false =>
  have he:cnErr t c=1:=by unfold cnErr; rw [hnm]; rfl
  rw [he,hv0 1 he (by decide)]
  refine conP_of_conH (conH_of_W tok Tryz.func43 rfl rfl ?_)
  refine wx ?_
  simp -implicitDefEqProofs -dsimp [Tryz.f43,List.replicate,encTb,LS,LR,encCn,L1,LCl,LA,hnm]
 | true =>
  by_cases hlo:c.kind<1
  ·have he:cnErr t c=1:=by unfold cnErr; rw [hnm,decide_eq_false (show ¬1≤c.kind by omega)]; rfl
   rw [he,hv0 1 he (by decide)]
   refine conP_of_conH (conH_of_W tok Tryz.func43 rfl rfl ?_)
   refine wx ?_
   simp -implicitDefEqProofs -dsimp [Tryz.f43,List.replicate,encTb,LS,LR,encCn,L1,LCl,LA,hnm,hlo]
  by_cases hhi:6<c.kind
  ·have he:cnErr t c=1:=by unfold cnErr; rw [hnm,decide_eq_false (show ¬c.kind≤6 by omega),Bool.and_false]; rfl
   rw [he,hv0 1 he (by decide)]
   refine conP_of_conH (conH_of_W tok Tryz.func43 rfl rfl ?_)
   refine wx ?_
   simp -implicitDefEqProofs -dsimp [Tryz.f43,List.replicate,encTb,LS,LR,encCn,L1,LCl,LA,hnm,hlo,hhi]
  have hc0:cnErr t c=if c.kind=2∨c.kind=3 then 14 else if c.kind=1 then (if fdOk1 t.attrs.length c.fd=true then 0 else 1) else
    if c.kind=4 then (if cfB t.attrs.length c.cfd=true then 0 else 1) else if c.kind=5 then (if odB t.attrs.length c.od=true then 0 else 1) else (if dnB t.attrs.length c.dn=true then 0 else 1):=by
   unfold cnErr
   rw [hnm,decide_eq_true (show 1≤c.kind by omega),decide_eq_true (show c.kind≤6 by omega)]; rfl
  have hc6:c.kind=1∨c.kind=2∨c.kind=3∨c.kind=4∨c.kind=5∨c.kind=6:=by omega
  rcases hc6 with hk | hk | hk | hk | hk | hk
  ·cases ho:fdOk1 t.attrs.length c.fd with
   | false =>
    have he:cnErr t c=1:=by rw [hc0,hk,ho]; rfl
    rw [he,hv0 1 he (by decide)]
    have cp:=pairs37e t c.fd f g hn hc.fd ho
    simp only [encTb,LS,LR,encF] at cp
    refine conP_of_conH (conH_of_W tok Tryz.func43 rfl rfl ?_)
    refine wx ?_
    simp -implicitDefEqProofs -dsimp [Tryz.f43,List.replicate,encTb,LS,LR,encCn,L1,LCl,LA,hnm,hk]
    refine (callP (cp) (by simp)).mono ?_
    rintro r H' ⟨rfl,rfl⟩
    simp -implicitDefEqProofs -dsimp []
   | true =>
    have he:cnErr t c=0:=by rw [hc0,hk,ho]; rfl
    rw [he,hv1 he,show cnR t c=prL (fdP c.fd.l c.fd.r) t.rows from by unfold cnR; rw [if_pos hk]]
    have cp:=pairs37 t c.fd f g h hv hc.fd ho
    simp only [encTb,LS,LR,encF] at cp
    refine conP_of_conH (conH_of_W tok Tryz.func43 rfl rfl ?_)
    refine wx ?_
    simp -implicitDefEqProofs -dsimp [Tryz.f43,List.replicate,encTb,LS,LR,encCn,L1,LCl,LA,hnm,hk]
    refine (callP (cp) (by simp)).mono ?_
    rintro r H' ⟨rfl,rfl⟩
    simp -implicitDefEqProofs -dsimp []
  ·have he:cnErr t c=14:=by rw [hc0,hk]; rfl
   rw [he,hv0 14 he (by decide)]
   refine conP_of_conH (conH_of_W tok Tryz.func43 rfl rfl ?_)
   refine wx ?_
   simp -implicitDefEqProofs -dsimp [Tryz.f43,List.replicate,encTb,LS,LR,encCn,L1,LCl,LA,hnm,hk]
  ·have he:cnErr t c=14:=by rw [hc0,hk]; rfl
   rw [he,hv0 14 he (by decide)]
   refine conP_of_conH (conH_of_W tok Tryz.func43 rfl rfl ?_)
   refine wx ?_
   simp -implicitDefEqProofs -dsimp [Tryz.f43,List.replicate,encTb,LS,LR,encCn,L1,LCl,LA,hnm,hk]
  ·cases ho:cfB t.attrs.length c.cfd with
   | false =>
    have he:cnErr t c=1:=by rw [hc0,hk,ho]; rfl
    have cv:=viol16e t c.cfd f g false false h.ok hc.l hc.p hv ho
    simp only [encTb,LS,LR,encCfd,L1,LCl] at cv
    rw [he,hv0 1 he (by decide)]
    refine conP_of_conH (conH_of_W tok Tryz.func43 rfl rfl ?_)
    refine wx ?_
    simp -implicitDefEqProofs -dsimp [Tryz.f43,List.replicate,encTb,LS,LR,encCn,L1,LCl,LA,hnm,hk]
    refine (callP (cv) (by simp)).mono ?_
    rintro r H' ⟨rfl,rfl⟩
    simp -implicitDefEqProofs -dsimp []
   | true =>
    have he:cnErr t c=0:=by rw [hc0,hk,ho]; rfl
    have cv:=viol16 t c.cfd f g false false h hc.l hc.p hv ho
    simp only [encTb,LS,LR,encCfd,L1,LCl] at cv
    rw [he,hv1 he,show cnR t c=cfdV c.cfd t.rows from by unfold cnR; rw [if_neg (by omega),if_pos hk]]
    refine conP_of_conH (conH_of_W tok Tryz.func43 rfl rfl ?_)
    refine wx ?_
    simp -implicitDefEqProofs -dsimp [Tryz.f43,List.replicate,encTb,LS,LR,encCn,L1,LCl,LA,hnm,hk]
    refine (callP (cv) (by simp)).mono ?_
    rintro r H' ⟨rfl,rfl⟩
    simp -implicitDefEqProofs -dsimp []
  ·cases ho:odB t.attrs.length c.od with
   | false =>
    have he:cnErr t c=1:=by rw [hc0,hk,ho]; rfl
    have cv:=viol17e t c.od f g false false h.ok hc.ol hc.or hv ho
    simp only [encTb,LS,LR,encOd,L1] at cv
    rw [he,hv0 1 he (by decide)]
    refine conP_of_conH (conH_of_W tok Tryz.func43 rfl rfl ?_)
    refine wx ?_
    simp -implicitDefEqProofs -dsimp [Tryz.f43,List.replicate,encTb,LS,LR,encCn,L1,LCl,LA,hnm,hk]
    refine (callP (cv) (by simp)).mono ?_
    rintro r H' ⟨rfl,rfl⟩
    simp -implicitDefEqProofs -dsimp []
   | true =>
    have he:cnErr t c=0:=by rw [hc0,hk,ho]; rfl
    have cv:=viol17 t c.od f g false false h hc.ol hc.or hv ho
    simp only [encTb,LS,LR,encOd,L1] at cv
    rw [he,hv1 he,show cnR t c=prL (odP c.od) t.rows from by unfold cnR; rw [if_neg (by omega),if_neg (by omega),if_pos hk]]
    refine conP_of_conH (conH_of_W tok Tryz.func43 rfl rfl ?_)
    refine wx ?_
    simp -implicitDefEqProofs -dsimp [Tryz.f43,List.replicate,encTb,LS,LR,encCn,L1,LCl,LA,hnm,hk]
    refine (callP (cv) (by simp)).mono ?_
    rintro r H' ⟨rfl,rfl⟩
    simp -implicitDefEqProofs -dsimp []
  ·cases ho:dnB t.attrs.length c.dn with
   | false =>
    have he:cnErr t c=1:=by rw [hc0,hk,ho]; rfl
    have cv:=viol18e t c.dn f g false h.ok hc.at_ hv ho
    simp only [encTb,LS,LR,encDn,LA] at cv
    rw [he,hv0 1 he (by decide)]
    refine conP_of_conH (conH_of_W tok Tryz.func43 rfl rfl ?_)
    refine wx ?_
    simp -implicitDefEqProofs -dsimp [Tryz.f43,List.replicate,encTb,LS,LR,encCn,L1,LCl,LA,hnm,hk]
    refine (callP (cv) (by simp)).mono ?_
    rintro r H' ⟨rfl,rfl⟩
    simp -implicitDefEqProofs -dsimp []
   | true =>
    have he:cnErr t c=0:=by rw [hc0,hk,ho]; rfl
    have cv:=viol18 t c.dn f g false h hc.sz hc.at_ hv ho
    simp only [encTb,LS,LR,encDn,LA] at cv
    rw [he,hv1 he,show cnR t c=(asR t.rows c.dn.vars.toNat).foldl (stR c.dn) [] from by unfold cnR; rw [if_neg (by omega),if_neg (by omega),if_neg (by omega)]]
    refine conP_of_conH (conH_of_W tok Tryz.func43 rfl rfl ?_)
    refine wx ?_
    simp -implicitDefEqProofs -dsimp [Tryz.f43,List.replicate,encTb,LS,LR,encCn,L1,LCl,LA,hnm,hk]
    refine (callP (cv) (by simp)).mono ?_
    rintro r H' ⟨rfl,rfl⟩
    simp -implicitDefEqProofs -dsimp []
theorem ids37 (t:Tb) (f g:Bool) (hr:t.rows.length≤1000000):ConP Tryz.prog 44 [encTb f g t] fun r=>r=L1 false (idsR t.rows):=by
 obtain ⟨I,hI⟩:∃I,I=idsR t.rows:=⟨_,rfl⟩
 have hIl:I.length=t.rows.length:=by rw [hI,idsR_len]
 obtain ⟨R,hR⟩:∃R,R=t.rows:=⟨_,rfl⟩
 rw [←hR] at hIl hr
 have hII:∀i (h:i<R.length),I.take (i+1)=I.take i++[R[i].id]:=fun i h=>by
  rw [List.take_succ_eq_append_getElem (by omega)]
  congr 2
  simp [hI,idsR,hR]
 rw [←hI]
 have hrb:∀l:List Int,∀bl∈[B.cells [.str t.name,.lst 1 f (t.attrs.map V.str),.lst 2 g (R.map encRw)],B.buf 2 1 (l.map encI) false],rbB 2 bl:=fun l bl hbl=>by
  simp only [List.mem_cons,List.not_mem_nil,or_false] at hbl
  rcases hbl with rfl | rfl
  ·intro c hc; simp at hc; rcases hc with rfl | rfl | rfl<;>simp [rb,rb1]
  ·exact (rbB_buf1 (fun x hx=>by obtain ⟨y,_,rfl⟩:=List.mem_map.1 hx; exact ⟨by simp,rfl⟩)).2 trivial
 refine conP_of_conH (conH_of_W tok Tryz.func44 rfl rfl ?_)
 refine wx ?_
 simp -implicitDefEqProofs -dsimp [Tryz.f44,List.replicate,encTb,LS,LR,hR.symm]
 refine lw_of (W_own 2 1 [3] (by simp) (W_loopM 21 [3,4,5,6,7,8,9,10,11,12,13,14,15,16,17,18,19,20] (by simp [mB]<;>rfl) (σ:=Nat) (fun i=>i≤R.length) (fun i=>R.length - i) (fun i=>[(4,.int .i64 i),(3,.buf 1 0 i i)]) (fun i=>[B.cells [.str t.name,.lst 1 f (t.attrs.map V.str),.lst 2 g (R.map encRw)],B.buf 2 1 ((I.take i).map encI) false]) 0 (by omega) (by simp) (by simp) (by simp) ?_))
 intro j hj N3 Q3 hN3 hQ3
 have htl:(I.take j).length=j:=by simp; omega
 by_cases hjb:j<R.length
 ·have hst:=hII j hjb
  obtain ⟨r,hre⟩:∃r,r=R[j]:=⟨_,rfl⟩
  rw [←hre] at hst
  obtain ⟨l,hle⟩:∃l,l=I.take j:=⟨_,rfl⟩
  rw [←hle] at hst htl ⊢
  refine wx ?_
  simp -implicitDefEqProofs -dsimp [hjb,hre.symm,encRw,LV,htl,cap8 j (by omega),wrapN j (by omega),wrapS j (by omega)]
  refine hN3 (j+1) _ _ (by omega) (by omega) (by simp) ⟨[],by simp [hst,encI]⟩ (by simp) (hrb _)
 ·obtain rfl:j=R.length:=by omega
  rw [List.take_of_length_le (by omega)]
  refine W_frz 1 [3] rfl (by simp [hIl]) ?_
  refine wx ?_
  simp -implicitDefEqProofs -dsimp [hjb]
  refine hQ3 _ _ _ ?_
  simp -implicitDefEqProofs -dsimp [L1]
  skip
theorem allR_len {t:Tb} (h8:t.rows.length≤8) {cs:List Cn} (h:∀c∈cs,cnErr t c=0) (hl:cs.length≤5):(allR t cs).length≤20000:=by
 have:=flat_len cs (f:=cnR t) (k:=4000) fun c hc=>cnR_len h8 (h c hc)
 unfold allR
 have h2:cs.length*4000≤5*4000:=Nat.mul_le_mul_right _ hl
 omega
theorem allR_snoc (t:Tb) {cs:List Cn} {i:Nat} (h:i<cs.length):allR t (cs.take (i+1))=allR t (cs.take i)++cnR t cs[i]:=by
 unfold allR
 rw [List.take_succ_eq_append_getElem h,List.flatMap_append,List.flatMap_cons,List.flatMap_nil,List.append_nil]
theorem build37 (t:Tb) (cs:List Cn) (f g fc:Bool) (h:BdOk t cs):ConP Tryz.prog 14 [encTb f g t,LCn fc cs] fun r=>r = .tup [bdV t cs,.int .i64 (buildErr t cs)]:=by
 have c1:=valid03 t f g h.ok
 have htB:B.cells [.str t.name,.lst 1 f (t.attrs.map V.str),.lst 2 g (t.rows.map encRw)]=tcB t f g:=rfl
 have htr:∀n,rbB n (tcB t f g):=fun n=>tcB_rb n t f g
 by_cases hv:validT t=0
 case neg =>
  have he:buildErr t cs=validT t:=by unfold buildErr; rw [if_neg hv]
  have hbd:bdV t cs = .agg [.nilS,.nilS]:=by unfold bdV; rw [he,if_neg hv]
  rw [he,hbd]
  obtain ⟨e,hee⟩:∃e,e=validT t:=⟨_,rfl⟩
  rw [←hee] at c1 hv ⊢
  simp only [encTb,LS,LR] at c1
  refine conP_of_conH (conH_of_W tok Tryz.func14 rfl rfl ?_)
  refine wx ?_
  simp -implicitDefEqProofs -dsimp [Tryz.f14,List.replicate,encTb,LS,LR,LCn]
  refine (callP (c1) (by simp)).mono ?_
  rintro r H' ⟨rfl,rfl⟩
  simp -implicitDefEqProofs -dsimp [hv]
 case pos =>
 rw [hv] at c1
 have ct:=tbC hv
 by_cases h2:200<t.rows.length
 ·have he:buildErr t cs=3:=by unfold buildErr; rw [if_pos hv,if_pos h2]
  have hbd:bdV t cs = .agg [.nilS,.nilS]:=by unfold bdV; rw [he,if_neg (by decide)]
  rw [he,hbd]
  simp only [encTb,LS,LR] at c1
  refine conP_of_conH (conH_of_W tok Tryz.func14 rfl rfl ?_)
  refine wx ?_
  simp -implicitDefEqProofs -dsimp [Tryz.f14,List.replicate,encTb,LS,LR,LCn]
  refine (callP (c1) (by simp)).mono ?_
  rintro r H' ⟨rfl,rfl⟩
  simp -implicitDefEqProofs -dsimp [show (200:Int)<t.rows.length by omega]
 have h8:t.rows.length≤8:=by have:=h.rows; omega
 have hts:=h.small h8
 have hcs:=h.cns
 have hl5:=h.few
 have he:buildErr t cs=cnsErr t cs:=by unfold buildErr; rw [if_pos hv,if_neg h2]
 have hbd:bdV t cs=if cnsErr t cs=0 then encH false false (idsR t.rows) (edgesF (allR t cs)) else .agg [.nilS,.nilS]:=by
  unfold bdV
  rw [he]
 rw [he,hbd]
 simp only [encTb,LS,LR] at c1
 have hrb1:∀o:List (List Int),∀bl∈[tcB t f g,B.cells [.nilS,.nilS],B.buf 46 1 (o.map (L1 false)) false],rbB 3 bl:=fun o bl hbl=>by
  simp only [List.mem_cons,List.not_mem_nil,or_false] at hbl
  rcases hbl with rfl | rfl | rfl
  ·exact htr _
  ·intro c hc; simp at hc; subst hc; simp [rb,rb1]
  ·exact LF_rb _ _ _
 refine conP_of_conH (conH_of_W tok Tryz.func14 rfl rfl ?_)
 refine wx ?_
 simp -implicitDefEqProofs -dsimp [Tryz.f14,List.replicate,encTb,LS,LR,LCn]
 refine (callP (c1) (by simp)).mono ?_
 rintro r H' ⟨rfl,rfl⟩
 simp -implicitDefEqProofs -dsimp [show ¬(200:Int)<t.rows.length by omega]
 refine lw_of (W_own 46 1 [7] (by simp) (W_loopM 45 [5,7,8,9,10,23,24,25,26,27,28,29,30,31,32,33,34,35,36,37,38,39,40,41,42,43,44] (by simp [mB]<;>rfl) (σ:=Nat×List (List Int)) (fun p=>p.1≤cs.length∧(∀c∈cs.take p.1,cnErr t c=0)∧cnsErr t (cs.drop p.1)=cnsErr t cs∧p.2=allR t (cs.take p.1)) (fun p=>cs.length - p.1) (fun p=>[(8,.int .i64 p.1),(7,.buf 2 0 p.2.length p.2.length)]) (fun p=>[tcB t f g,B.cells [.nilS,.nilS],B.buf 46 1 (p.2.map (L1 false)) false]) (0,[]) ⟨by simp,by simp,by rw [List.drop_zero],rfl⟩ (by simp) (by simp [tcB]) (by simp) ?_))
 rintro ⟨i,out⟩ ⟨hi,hok,hx,hxo⟩ N Q hN hQ
 simp only at hi hok hx hxo
 by_cases hb:i<cs.length
 ·rw [cnsErr_drop hb] at hx
  have hcb:=hcs _ (List.getElem_mem hb)
  have hsn:=allR_snoc t hb
  have hokS:cnErr t cs[i]=0→∀c∈cs.take (i+1),cnErr t c=0:=fun h0 c hc=>by
   rw [List.take_succ_eq_append_getElem hb] at hc
   rcases List.mem_append.1 hc with h1 | h1
   ·exact hok c h1
   ·rw [List.mem_singleton] at h1; rw [h1]; exact h0
  obtain ⟨c,hce⟩:∃c,c=cs[i]:=⟨_,rfl⟩
  rw [←hce] at hx hcb hsn hokS
  have c2:=viol37 t c f g hts hv hcb
  have hp:=wlV_pure t c
  by_cases h0:cnErr t c=0
  ·rw [if_pos h0] at hx
   rw [h0,show wlV t c=LL false (cnR t c) from by unfold wlV; rw [if_pos h0]] at c2
   have hlen:=allR_len h8 (hokS h0) (by simp; omega)
   rw [hsn,←hxo] at hlen
   obtain ⟨w,hw⟩:∃w,w=cnR t c:=⟨_,rfl⟩
   rw [←hw] at c2 hsn hlen
   rw [←hxo] at hsn
   rw [List.length_append] at hlen
   simp only [encTb,LS,LR,encCn,L1,LCl,LA,LL] at c2
   by_cases hw0:w=[]
   ·subst hw0
    rw [List.append_nil] at hsn
    refine wx ?_
    simp -implicitDefEqProofs -dsimp [hb,hce.symm,encCn,L1,LCl,LA,tcB]
    refine .inr ⟨stop_of (by kernel_rfl),?_⟩
    refine cy_of _ (callP (c2) (by simp)) ?_
    simp -implicitDefEqProofs -dsimp [wrapS i (by omega)]
    refine hN (i+1,out) _ _ ⟨by simp only; omega,hokS h0,hx,hsn.symm⟩ (by simp only; omega) (by simp) ⟨[],by simp [tcB]⟩ (by simp) (hrb1 _)
   ·refine wx ?_
    simp -implicitDefEqProofs -dsimp [hb,hce.symm,encCn,L1,LCl,LA,tcB]
    refine .inr ⟨stop_of (by kernel_rfl),?_⟩
    refine cy_of _ (callP (c2) (by simp)) ?_
    simp -implicitDefEqProofs -dsimp [hw0,capV out.length w.length (by omega),wrapS i (by omega)]
    refine hN (i+1,out++w) _ _ ⟨by simp only; omega,hokS h0,hx,hsn.symm⟩ (by simp only; omega) (by simp) ⟨[],by simp [tcB]⟩ (by simp) (hrb1 _)
  ·rw [if_neg h0] at hx
   rw [show wlV t c = .nilS from by unfold wlV; rw [if_neg h0]] at c2
   obtain ⟨e,hee⟩:∃e,e=cnErr t c:=⟨_,rfl⟩
   rw [←hee] at c2 h0 hx
   simp only [encTb,LS,LR,encCn,L1,LCl,LA] at c2
   refine wx ?_
   simp -implicitDefEqProofs -dsimp [hb,hce.symm,encCn,L1,LCl,LA,tcB]
   refine .inr ⟨stop_of (by kernel_rfl),?_⟩
   refine cy_of _ (callP (c2) (by simp)) ?_
   simp -implicitDefEqProofs -dsimp [h0]
   refine hQ _ _ _ ?_
   simp -implicitDefEqProofs -dsimp []
   rw [←hx]
   exact ⟨fun h=>absurd h h0,rfl⟩
 ·have h0:cnsErr t cs=0:=by rw [←hx,List.drop_of_length_le (by omega)]; rfl
  rw [List.take_of_length_le (by omega)] at hok hxo
  have hAl:=allR_len h8 hok hl5
  have hAE:∀e∈allR t cs,EdgL t.rows e:=fun e hd=>all_edge ct hok hd
  rw [←hxo] at hAl hAE
  have cE:=edges37 out false (by omega) (fun e hd=>by have:=(hAE e hd).2.2.1; omega) (fun e hd=>(hAE e hd).2.1)
  have cI:=ids37 t f g (by omega)
  have hEl:(edgesF out).length≤out.length:=edgesTo_len out out.length
  obtain ⟨PE,hPE⟩:∃PE,PE=edgesF out:=⟨_,rfl⟩
  rw [←hPE] at cE hEl
  obtain ⟨I,hI⟩:∃I,I=idsR t.rows:=⟨_,rfl⟩
  rw [←hI] at cI
  simp only [encTb,LS,LR,LL,L1] at cE cI
  refine W_frz 2 [7] rfl (by simp) ?_
  refine wx ?_
  simp -implicitDefEqProofs -dsimp [hb]
  refine hQ _ _ _ ?_
  simp -implicitDefEqProofs -dsimp [tcB]
  refine (callP (cI) (by simp)).mono ?_
  rintro r H' ⟨rfl,rfl⟩
  simp -implicitDefEqProofs -dsimp [LL,L1]
  refine (callP (cE) (by simp)).mono ?_
  rintro r H' ⟨rfl,rfl⟩
  simp -implicitDefEqProofs -dsimp [show ¬(20000:Int)<PE.length by omega]
  rw [if_pos h0,←hxo,←hPE,←hI]
  simp [encH,L1,LL]
  exact h0.symm
def clA0:List V:=[]
def clR0:V:=.tup [.agg [.str ⟨#[114]⟩,.lst 1 true [.str ⟨#[97]⟩,.str ⟨#[98]⟩],.lst 2 false [.agg [.int .i64 1,.lst 3 false [.agg [.int .i64 1,.int .i64 1,.str ⟨#[]⟩],.agg [.int .i64 1,.int .i64 1,.str ⟨#[]⟩]]],.agg [.int .i64 2,.lst 3 false [.agg [.int .i64 1,.int .i64 1,.str ⟨#[]⟩],.agg [.int .i64 1,.int .i64 2,.str ⟨#[]⟩]]],.agg [.int .i64 3,.lst 3 false [.agg [.int .i64 1,.int .i64 2,.str ⟨#[]⟩],.agg [.int .i64 1,.int .i64 1,.str ⟨#[]⟩]]]]],.lst 18 true [.agg [.str ⟨#[]⟩,.str ⟨#[114]⟩,.int .i64 1,.int .u32 1,.int .u32 2,.int .u32 0,.int .u32 0,.str ⟨#[]⟩,.nilS,.str ⟨#[]⟩,.nilS,.nilS,.int .i64 0,.nilS,.nilS,.nilS,.int .i64 0,.nilS],.agg [.str ⟨#[]⟩,.str ⟨#[114]⟩,.int .i64 6,.int .u32 0,.int .u32 0,.int .u32 0,.int .u32 0,.str ⟨#[]⟩,.nilS,.str ⟨#[]⟩,.nilS,.nilS,.int .i64 0,.nilS,.nilS,.nilS,.int .i64 1,.lst 11 true [.agg [.int .i64 1,.int .i64 1,.int .i64 0,.int .i64 0,.str ⟨#[]⟩,.int .i64 1,.int .i64 0,.int .i64 0,.int .i64 1,.int .i64 2,.str ⟨#[]⟩]]]]]
def clA1:List V:=[.agg [.str ⟨#[114]⟩,.lst 1 true [.str ⟨#[97]⟩,.str ⟨#[98]⟩],.lst 2 false [.agg [.int .i64 1,.lst 3 false [.agg [.int .i64 1,.int .i64 1,.str ⟨#[]⟩],.agg [.int .i64 1,.int .i64 1,.str ⟨#[]⟩]]],.agg [.int .i64 2,.lst 3 false [.agg [.int .i64 1,.int .i64 1,.str ⟨#[]⟩],.agg [.int .i64 1,.int .i64 2,.str ⟨#[]⟩]]],.agg [.int .i64 3,.lst 3 false [.agg [.int .i64 1,.int .i64 2,.str ⟨#[]⟩],.agg [.int .i64 1,.int .i64 1,.str ⟨#[]⟩]]]]],.lst 18 false [.agg [.str ⟨#[]⟩,.str ⟨#[114]⟩,.int .i64 1,.int .u32 1,.int .u32 2,.int .u32 0,.int .u32 0,.str ⟨#[]⟩,.nilS,.str ⟨#[]⟩,.nilS,.nilS,.int .i64 0,.nilS,.nilS,.nilS,.int .i64 0,.nilS]]]
def clR1:V:=.tup [.agg [.lst 1 false [.int .i64 1,.int .i64 2,.int .i64 3],.lst 1 false [.lst 1 false [.int .i64 1,.int .i64 2]]],.int .i64 0]
def clA2:List V:=[.agg [.str ⟨#[114]⟩,.lst 1 true [.str ⟨#[97]⟩,.str ⟨#[98]⟩],.lst 2 false [.agg [.int .i64 1,.lst 3 false [.agg [.int .i64 1,.int .i64 1,.str ⟨#[]⟩],.agg [.int .i64 1,.int .i64 1,.str ⟨#[]⟩]]],.agg [.int .i64 2,.lst 3 false [.agg [.int .i64 1,.int .i64 1,.str ⟨#[]⟩],.agg [.int .i64 1,.int .i64 2,.str ⟨#[]⟩]]],.agg [.int .i64 3,.lst 3 false [.agg [.int .i64 1,.int .i64 2,.str ⟨#[]⟩],.agg [.int .i64 1,.int .i64 1,.str ⟨#[]⟩]]]]],.lst 18 true [.agg [.str ⟨#[]⟩,.str ⟨#[114]⟩,.int .i64 1,.int .u32 1,.int .u32 2,.int .u32 0,.int .u32 0,.str ⟨#[]⟩,.nilS,.str ⟨#[]⟩,.nilS,.nilS,.int .i64 0,.nilS,.nilS,.nilS,.int .i64 0,.nilS],.agg [.str ⟨#[]⟩,.str ⟨#[114]⟩,.int .i64 6,.int .u32 0,.int .u32 0,.int .u32 0,.int .u32 0,.str ⟨#[]⟩,.nilS,.str ⟨#[]⟩,.nilS,.nilS,.int .i64 0,.nilS,.nilS,.nilS,.int .i64 1,.lst 11 true [.agg [.int .i64 1,.int .i64 1,.int .i64 0,.int .i64 0,.str ⟨#[]⟩,.int .i64 1,.int .i64 0,.int .i64 0,.int .i64 1,.int .i64 2,.str ⟨#[]⟩]]]]]
def clR2:V:=.tup [.agg [.lst 1 false [.int .i64 1,.int .i64 2,.int .i64 3],.lst 1 false [.lst 1 false [.int .i64 2]]],.int .i64 0]
def ext0:ExtF:=ext
theorem ext0_ok:ExtOk Tryz.prog ext0:=ext_ok
theorem clP0:AM.Pure clR0:=by simp [clR0]
theorem clQ0:∀a∈clA0,AM.Pure a:=by simp [clA0]
theorem cl0:ConP Tryz.prog 37 clA0 fun x=>x=clR0:=closed_conT tok mixed named ext0_ok (fuel:=1000) (d:=40) (by kernel_rfl) clP0
def ext1:ExtF:=fun f args H=>if Nat.beq f 37 then (if eqL (eqV 40) args clA0 then some (clR0,H) else ext0 f args H) else ext0 f args H
theorem ext1_ok:ExtOk Tryz.prog ext1:=ext_more ext0_ok cl0 clQ0
theorem clP1:AM.Pure clR1:=by simp [clR1]
theorem clQ1:∀a∈clA1,AM.Pure a:=by simp [clA1]
theorem cl1:ConP Tryz.prog 12 clA1 fun x=>x=clR1:=closed_conT tok mixed named ext1_ok (fuel:=1000) (d:=40) (by kernel_rfl) clP1
def ext2:ExtF:=fun f args H=>if Nat.beq f 12 then (if eqL (eqV 40) args clA1 then some (clR1,H) else ext1 f args H) else ext1 f args H
theorem ext2_ok:ExtOk Tryz.prog ext2:=ext_more ext1_ok cl1 clQ1
theorem clP2:AM.Pure clR2:=by simp [clR2]
theorem clQ2:∀a∈clA2,AM.Pure a:=by simp [clA2]
theorem cl2:ConP Tryz.prog 12 clA2 fun x=>x=clR2:=closed_conT tok mixed named ext2_ok (fuel:=1000) (d:=40) (by kernel_rfl) clP2
def ext3:ExtF:=fun f args H=>if Nat.beq f 12 then (if eqL (eqV 40) args clA2 then some (clR2,H) else ext2 f args H) else ext2 f args H
theorem ext3_ok:ExtOk Tryz.prog ext3:=ext_more ext2_ok cl2 clQ2
theorem awake_con:ConP Tryz.prog 11 [] fun x=>x = .bool true:=closed_conT tok mixed named ext3_ok (fuel:=1000) (d:=40) (by kernel_rfl) (.bool _)
theorem validT_big {t:Tb} (h:16<t.attrs.length∨1000<t.rows.length):validT t=if nameB t.name=true then 3 else 1:=by
 unfold validT
 rw [if_pos h]
theorem valid03b (t:Tb) (f g:Bool) (hn:t.name.size≤maxLen) (h:16<t.attrs.length):ConP Tryz.prog 42 [encTb f g t] fun r=>r = .int .i64 (validT t):=by
 rw [validT_big (.inl h)]
 have c1:=name03_con t.name hn
 cases hb:nameB t.name with
 | false =>
  rw [hb] at c1
  refine conP_of_conH (conH_of_W tok Tryz.func42 rfl rfl ?_)
  refine wx ?_
  simp -implicitDefEqProofs -dsimp [Tryz.f42,List.replicate,encTb,LS,LR]
  refine (callP (c1) (by simp)).mono ?_
  rintro r H' ⟨rfl,rfl⟩
  simp -implicitDefEqProofs -dsimp []
 | true =>
  rw [hb] at c1
  refine conP_of_conH (conH_of_W tok Tryz.func42 rfl rfl ?_)
  refine wx ?_
  simp -implicitDefEqProofs -dsimp [Tryz.f42,List.replicate,encTb,LS,LR]
  refine (callP (c1) (by simp)).mono ?_
  rintro r H' ⟨rfl,rfl⟩
  simp -implicitDefEqProofs -dsimp [show (16:Int)<t.attrs.length by omega]
theorem tableValidb (t:Tb) (f g:Bool) (hn:t.name.size≤maxLen) (h:16<t.attrs.length):ConP Tryz.prog 38 [encTb f g t] fun r=>r = .int .i64 (validT t):=by
 rw [validT_big (.inl h)]
 have c1:=isName_con t.name hn
 cases hb:nameB t.name with
 | false =>
  rw [hb] at c1
  refine conP_of_conH (conH_of_W tok Tryz.func38 rfl rfl ?_)
  refine wx ?_
  simp -implicitDefEqProofs -dsimp [Tryz.f38,List.replicate,encTb,LS,LR]
  refine (callP (c1) (by simp)).mono ?_
  rintro r H' ⟨rfl,rfl⟩
  simp -implicitDefEqProofs -dsimp []
 | true =>
  rw [hb] at c1
  refine conP_of_conH (conH_of_W tok Tryz.func38 rfl rfl ?_)
  refine wx ?_
  simp -implicitDefEqProofs -dsimp [Tryz.f38,List.replicate,encTb,LS,LR]
  refine (callP (c1) (by simp)).mono ?_
  rintro r H' ⟨rfl,rfl⟩
  simp -implicitDefEqProofs -dsimp [show (16:Int)<t.attrs.length by omega]
theorem build_ub (t:Tb) (cs:List Cn) (f g fc:Bool) (hn:t.name.size≤maxLen) (h:16<t.attrs.length):ConP Tryz.prog 12 [encTb f g t,LCn fc cs] fun r=>r = .tup [.agg [.nilS,.nilS],.int .i64 (validT t)]:=by
 have c1:=tableValidb t f g hn h
 have hv:¬validT t=0:=by rw [validT_big (.inl h)]; split<;>omega
 obtain ⟨e,hee⟩:∃e,e=validT t:=⟨_,rfl⟩
 rw [←hee] at c1 hv ⊢
 simp only [encTb,LS,LR] at c1
 refine conP_of_conH (conH_of_W tok Tryz.func12 rfl rfl ?_)
 refine wx ?_
 simp -implicitDefEqProofs -dsimp [Tryz.f12,List.replicate,encTb,LS,LR,LCn]
 refine (callP (c1) (by simp)).mono ?_
 rintro r H' ⟨rfl,rfl⟩
 simp -implicitDefEqProofs -dsimp [hv]
theorem build37b (t:Tb) (cs:List Cn) (f g fc:Bool) (hn:t.name.size≤maxLen) (h:16<t.attrs.length):ConP Tryz.prog 14 [encTb f g t,LCn fc cs] fun r=>r = .tup [.agg [.nilS,.nilS],.int .i64 (validT t)]:=by
 have c1:=valid03b t f g hn h
 have hv:¬validT t=0:=by rw [validT_big (.inl h)]; split<;>omega
 obtain ⟨e,hee⟩:∃e,e=validT t:=⟨_,rfl⟩
 rw [←hee] at c1 hv ⊢
 simp only [encTb,LS,LR] at c1
 refine conP_of_conH (conH_of_W tok Tryz.func14 rfl rfl ?_)
 refine wx ?_
 simp -implicitDefEqProofs -dsimp [Tryz.f14,List.replicate,encTb,LS,LR,LCn]
 refine (callP (c1) (by simp)).mono ?_
 rintro r H' ⟨rfl,rfl⟩
 simp -implicitDefEqProofs -dsimp [hv]
theorem conP_arg2 {P:Program} {f:FuncId} {a b a' b':V} {K:V→Prop} (h:ConP P f [a',b'] K) (ha:∀s u,Rel s a u→Rel s a' u) (hb:∀s u,Rel s b u→Rel s b' u):ConP P f [a,b] K :=
 ⟨h.1,fun F w vals hZ hF hsz hrel=>h.2 F w vals hZ hF hsz (fun i v u hv hu=>by
  match i with
  | 0=>simp at hv; subst hv; exact ha _ _ (hrel 0 _ u rfl hu)
  | 1=>simp at hv; subst hv; exact hb _ _ (hrel 1 _ u rfl hu)
  | i+2=>simp at hv)⟩
theorem same37n:ConP Tryz.prog 15 [.agg [.nilS,.nilS],.agg [.nilS,.nilS]] fun r=>r = .bool true:=by
 have h:=same37 [] [] [] [] false false false false ⟨by simp,by simp,by simp⟩ ⟨by simp,by simp,by simp⟩
 have hr:∀(s:AM.St) u,Rel s (.agg [.nilS,.nilS]) u→Rel s (encH false false [] []) u:=fun s u h=>rel_agg_lf h ⟨lfN 1,lfN 1,trivial⟩
 exact conP_arg2 h hr hr
structure CnF (c:Cn):Prop where
 l:c.cfd.l.length≤20
 p:c.cfd.p.length≤20
 ol:c.od.l.length≤20
 or:c.od.r.length≤20
 at_:c.dn.atoms.length≤25
theorem lawErrors (t:Tb) (cs:List Cn) (f g fc:Bool) (hn:t.name.size≤maxLen) (hs:∀s∈t.attrs,s.size≤maxLen) (hz:∀r∈t.rows,∀v∈r.vals,v.s.size≤maxLen) (hc:∀c∈cs,CnSz c):ConP Tryz.prog 3 [encTb f g t,LCn fc cs] fun r=>r = .bool true:=by
 have htB:B.cells [.str t.name,.lst 1 f (t.attrs.map V.str),.lst 2 g (t.rows.map encRw)]=tcB t f g:=rfl
 have htr:∀n,rbB n (tcB t f g):=fun n=>tcB_rb n t f g
 by_cases h1:8<t.rows.length∧t.rows.length≤200
 ·refine conP_of_conH (conH_of_W tok Tryz.func3 rfl rfl ?_)
  refine wx ?_
  simp -implicitDefEqProofs -dsimp [Tryz.f3,List.replicate,encTb,LS,LR,LCn]
  refine (callP (awake_con) (by simp)).mono ?_
  rintro r H' ⟨rfl,rfl⟩
  simp -implicitDefEqProofs -dsimp [show (8:Int)<t.rows.length by omega,show (t.rows.length:Int)≤200 by omega]
  refine (callP (awake_con) (by simp)).mono ?_
  rintro r H' ⟨rfl,rfl⟩
  simp -implicitDefEqProofs -dsimp []
 have h1':(¬(8:Int)<t.rows.length)∨((8:Int)<t.rows.length∧¬(t.rows.length:Int)≤200):=by omega
 by_cases h2:300<t.rows.length
 ·refine conP_of_conH (conH_of_W tok Tryz.func3 rfl rfl ?_)
  refine wx ?_
  simp -implicitDefEqProofs -dsimp [Tryz.f3,List.replicate,encTb,LS,LR,LCn]
  refine (callP (awake_con) (by simp)).mono ?_
  rintro r H' ⟨rfl,rfl⟩
  simp -implicitDefEqProofs -dsimp [show (8:Int)<t.rows.length by omega,show ¬(t.rows.length:Int)≤200 by omega,show (300:Int)<t.rows.length by omega]
  refine (callP (awake_con) (by simp)).mono ?_
  rintro r H' ⟨rfl,rfl⟩
  simp -implicitDefEqProofs -dsimp []
 have i2:¬(300:Int)<t.rows.length:=by omega
 by_cases h3:4<cs.length
 ·rcases h1' with q | ⟨q,q'⟩
  ·refine conP_of_conH (conH_of_W tok Tryz.func3 rfl rfl ?_)
   refine wx ?_
   simp -implicitDefEqProofs -dsimp [Tryz.f3,List.replicate,encTb,LS,LR,LCn]
   refine (callP (awake_con) (by simp)).mono ?_
   rintro r H' ⟨rfl,rfl⟩
   simp -implicitDefEqProofs -dsimp [q,i2,show (4:Int)<cs.length by omega]
   refine (callP (awake_con) (by simp)).mono ?_
   rintro r H' ⟨rfl,rfl⟩
   simp -implicitDefEqProofs -dsimp []
  ·refine conP_of_conH (conH_of_W tok Tryz.func3 rfl rfl ?_)
   refine wx ?_
   simp -implicitDefEqProofs -dsimp [Tryz.f3,List.replicate,encTb,LS,LR,LCn]
   refine (callP (awake_con) (by simp)).mono ?_
   rintro r H' ⟨rfl,rfl⟩
   simp -implicitDefEqProofs -dsimp [q,q',i2,show (4:Int)<cs.length by omega]
   refine (callP (awake_con) (by simp)).mono ?_
   rintro r H' ⟨rfl,rfl⟩
   simp -implicitDefEqProofs -dsimp []
 have i3:¬(4:Int)<cs.length:=by omega
 have clo:=clone_K cs fc (by omega)
 have main:(∀c∈cs,CnF c)→∃(hv:V) (e:Int),AM.Pure hv∧ConP Tryz.prog 12 [encTb f g t,LCn false cs] (fun r=>r = .tup [hv,.int .i64 e])∧ConP Tryz.prog 14 [encTb f g t,LCn fc cs] (fun r=>r = .tup [hv,.int .i64 e])∧ConP Tryz.prog 15 [hv,hv] (fun r=>r = .bool true)∧((∃xs ys,hv = .agg [.lst 1 false xs,.lst 1 false ys])∨hv = .agg [.nilS,.nilS]):=fun hF=>by
  by_cases ha:16<t.attrs.length
  ·exact ⟨_,_,by simp,build_ub t cs f g false hn ha,build37b t cs f g fc hn ha,same37n,.inr rfl⟩
  ·have hok:TbOk t:=⟨hn,by omega,by omega,hs⟩
   have hb:BdOk t cs:=⟨hok,fun h8=>⟨hok,hz,h8⟩,by omega,by omega,fun c h=>⟨by have:=(hF c h).l; omega,by have:=(hF c h).p; omega,by have:=(hF c h).ol; omega,by have:=(hF c h).or; omega,by have:=(hF c h).at_; omega,(hc c h).fd,(hc c h).a⟩⟩
   by_cases h0:buildErr t cs=0
   ·obtain ⟨hsm,_,_⟩:=edges_small hb h0
    have c6:=same37 _ _ _ _ false false false false hsm hsm
    simp only [decide_true,Bool.and_self] at c6
    refine ⟨_,_,bdV_pure t cs,build_u t cs f g false hb,build37 t cs f g fc hb,by rw [bdV_yes h0]; exact c6,?_⟩
    rw [bdV_yes h0]
    exact .inl ⟨_,_,rfl⟩
   ·refine ⟨_,_,bdV_pure t cs,build_u t cs f g false hb,build37 t cs f g fc hb,by rw [bdV_no h0]; exact same37n,?_⟩
    rw [bdV_no h0]
    exact .inr rfl
 have hrb:∀bl∈[tcB t f g],rbB 1 bl:=fun bl hbl=>by
  simp only [List.mem_singleton] at hbl
  subst hbl
  exact htr _
 rcases h1' with q | ⟨q,q'⟩
 case' inl =>
  refine conP_of_conH (conH_of_W tok Tryz.func3 rfl rfl ?_)
  refine wx ?_
  simp -implicitDefEqProofs -dsimp [Tryz.f3,List.replicate,encTb,LS,LR,LCn]
  refine (callP (awake_con) (by simp)).mono ?_
  rintro r H' ⟨rfl,rfl⟩
  simp -implicitDefEqProofs -dsimp [q,i2,i3]
 case' inr =>
  refine conP_of_conH (conH_of_W tok Tryz.func3 rfl rfl ?_)
  refine wx ?_
  simp -implicitDefEqProofs -dsimp [Tryz.f3,List.replicate,encTb,LS,LR,LCn]
  refine (callP (awake_con) (by simp)).mono ?_
  rintro r H' ⟨rfl,rfl⟩
  simp -implicitDefEqProofs -dsimp [q,q',i2,i3]
 all_goals
  refine lw_of (W_loopM 77 [4,6,39,40,41,42,43,44,45,46,47,48,49,50,51,52,53,54,55,56,57,58,59,60,61,62,63,64,65,66,67,68,69,70,71,72,73,74,75,76] (by simp [mB]<;>rfl) (σ:=Nat) (fun i=>i≤cs.length∧∀c∈cs.take i,CnF c) (fun i=>cs.length - i) (fun i=>[(39,.int .i64 i)]) (fun _=>[tcB t f g]) 0 ⟨by omega,by simp⟩ (by simp) (by simp [tcB]) (by simp) ?_)
  rintro i ⟨hi,hF⟩ N Q hN hQ
  by_cases hb:i<cs.length
  ·have hFS:CnF cs[i]→∀c∈cs.take (i+1),CnF c:=fun h0 c hm=>by
    rw [List.take_succ_eq_append_getElem hb] at hm
    rcases List.mem_append.1 hm with h1 | h1
    ·exact hF c h1
    ·rw [List.mem_singleton] at h1; rw [h1]; exact h0
   obtain ⟨c,hce⟩:∃c,c=cs[i]:=⟨_,rfl⟩
   rw [←hce] at hFS
   by_cases g1:20<c.cfd.l.length
   ·refine wx ?_
    simp -implicitDefEqProofs -dsimp [hb,hce.symm,encCn,L1,LCl,LA,show (20:Int)<c.cfd.l.length by omega]
    refine hQ _ _ _ ?_
    simp -implicitDefEqProofs -dsimp []
   by_cases g2:20<c.cfd.p.length
   ·refine wx ?_
    simp -implicitDefEqProofs -dsimp [hb,hce.symm,encCn,L1,LCl,LA,show ¬(20:Int)<c.cfd.l.length by omega,show (20:Int)<c.cfd.p.length by omega]
    refine hQ _ _ _ ?_
    simp -implicitDefEqProofs -dsimp []
   by_cases g3:20<c.od.l.length
   ·refine wx ?_
    simp -implicitDefEqProofs -dsimp [hb,hce.symm,encCn,L1,LCl,LA,show ¬(20:Int)<c.cfd.l.length by omega,show ¬(20:Int)<c.cfd.p.length by omega,show (20:Int)<c.od.l.length by omega]
    refine hQ _ _ _ ?_
    simp -implicitDefEqProofs -dsimp []
   by_cases g4:20<c.od.r.length
   ·refine wx ?_
    simp -implicitDefEqProofs -dsimp [hb,hce.symm,encCn,L1,LCl,LA,show ¬(20:Int)<c.cfd.l.length by omega,show ¬(20:Int)<c.cfd.p.length by omega,show ¬(20:Int)<c.od.l.length by omega,show (20:Int)<c.od.r.length by omega]
    refine hQ _ _ _ ?_
    simp -implicitDefEqProofs -dsimp []
   by_cases g5:25<c.dn.atoms.length
   ·refine wx ?_
    simp -implicitDefEqProofs -dsimp [hb,hce.symm,encCn,L1,LCl,LA,show ¬(20:Int)<c.cfd.l.length by omega,show ¬(20:Int)<c.cfd.p.length by omega,show ¬(20:Int)<c.od.l.length by omega,show ¬(20:Int)<c.od.r.length by omega,show (25:Int)<c.dn.atoms.length by omega]
    refine hQ _ _ _ ?_
    simp -implicitDefEqProofs -dsimp []
   refine wx ?_
   simp -implicitDefEqProofs -dsimp [hb,hce.symm,encCn,L1,LCl,LA,show ¬(20:Int)<c.cfd.l.length by omega,show ¬(20:Int)<c.cfd.p.length by omega,show ¬(20:Int)<c.od.l.length by omega,show ¬(20:Int)<c.od.r.length by omega,show ¬(25:Int)<c.dn.atoms.length by omega,wrapS i (by omega)]
   refine hN (i+1) _ _ ⟨by omega,hFS ⟨by omega,by omega,by omega,by omega,by omega⟩⟩ (by omega) (by simp) ⟨[B.cells (cnCells c)],by simp [tcB,cnCells]⟩ (by simp) hrb
  ·rw [List.take_of_length_le (by omega)] at hF
   obtain ⟨hv,e,hp,b1,b2,b3,hsh⟩:=main hF
   simp only [encTb,LS,LR,LCn] at clo b1 b2
   refine wx ?_
   simp -implicitDefEqProofs -dsimp [hb]
   refine hQ _ _ _ ?_
   simp -implicitDefEqProofs -dsimp [tcB]
   rcases hsh with ⟨xs,ys,rfl⟩ | rfl
   ·refine lw_of (W_drawT tok mixed [7,8] [(0,[1]),(1,[1]),(2,[1]),(3,[1]),(4,[1]),(5,[1]),(6,[1,2])] [(LCn false cs,[]),(.tup [.agg [.lst 1 false xs,.lst 1 false ys],.int .i64 e],[])] (by kernel_rfl) fun C K hC hK=>?_)
    simp -implicitDefEqProofs [LCn]
    refine ⟨⟨⟨hC _ _ _ _ (callP clo (by simp)),hC _ _ _ _ (callP clo (by simp))⟩,hC _ _ _ _ (callP b1 (by simp)),hC _ _ _ _ (callP b1 (by simp))⟩,hK _ _ ?_⟩
    simp -implicitDefEqProofs -dsimp []
    refine (callP (b2) (by simp)).mono ?_
    rintro r H' ⟨rfl,rfl⟩
    simp -implicitDefEqProofs -dsimp []
    refine (callP b3 (fun a ha=>?_)).mono ?_
    ·simp only [List.mem_cons,List.not_mem_nil,or_false] at ha
     rcases ha with rfl | rfl<;>exact hp
    rintro r H' ⟨rfl,rfl⟩
    simp -implicitDefEqProofs -dsimp []
   ·refine lw_of (W_drawT tok mixed [7,8] [(0,[1]),(1,[1]),(2,[1]),(3,[1]),(4,[1]),(5,[1]),(6,[1,2])] [(LCn false cs,[]),(.tup [.agg [.nilS,.nilS],.int .i64 e],[])] (by kernel_rfl) fun C K hC hK=>?_)
    simp -implicitDefEqProofs [LCn]
    refine ⟨⟨⟨hC _ _ _ _ (callP clo (by simp)),hC _ _ _ _ (callP clo (by simp))⟩,hC _ _ _ _ (callP b1 (by simp)),hC _ _ _ _ (callP b1 (by simp))⟩,hK _ _ ?_⟩
    simp -implicitDefEqProofs -dsimp []
    refine (callP (b2) (by simp)).mono ?_
    rintro r H' ⟨rfl,rfl⟩
    simp -implicitDefEqProofs -dsimp []
    refine (callP b3 (fun a ha=>?_)).mono ?_
    ·simp only [List.mem_cons,List.not_mem_nil,or_false] at ha
     rcases ha with rfl | rfl<;>exact hp
    rintro r H' ⟨rfl,rfl⟩
    simp -implicitDefEqProofs -dsimp []
end
end Go.Proofs.YtfaleabndlcanaaGreatDoor
section
namespace Go.Proofs.YtfaleabndlcanaaGreatDoor
open Go Go.AM
end Go.Proofs.YtfaleabndlcanaaGreatDoor
end
namespace Go.Proofs.YtfaleabndlcanaaGreatDoor
section
open Go Go.AM
theorem woE_small {vs:List Int} {es:List (List Int)} (h:Small vs es) (ids:List Int):Small (woV vs ids) (woE es ids):=wo_small h ids
structure RcpA (x:Rcp):Prop where
 a:0≤x.a∧x.a<256
 gap:0≤x.gap
 len:∀r∈x.rows,r.length≤9223372036854775807
theorem lawBuild (x:Rcp) (rs:List Rul) (f f2:Bool) (hx:RcpA x) (hl:rs.length≤1048576) (hr:∀r∈rs,RulOk r):ConP Tryz.prog 6 [encRcp f x,.lst 10 f2 (rs.map encRul)] fun r=>r = .bool true:=by
 have c1:=table03 x f hx.a hx.gap hx.len
 by_cases h6:x.rows.length≤6
 case neg =>
  rw [if_neg h6] at c1
  have c2:=rules37 0 rs f2 (by omega) (by omega) hr
  simp only [encRcp] at c1
  by_cases hall:rs.all cnOk=true
  ·rw [show rlV 0 rs = .tup [LCn false (rs.map (cnOf 0)),.bool (decide (rs.length≤4))] from by unfold rlV; rw [if_pos hall]] at c2
   obtain ⟨b4,hb4⟩:∃b4,b4=decide (rs.length≤4):=⟨_,rfl⟩
   rw [←hb4] at c2
   refine conP_of_conH (conH_of_W tok Tryz.func6 rfl rfl ?_)
   refine wx ?_
   simp -implicitDefEqProofs -dsimp [Tryz.f6,List.replicate,encRcp]
   refine (callP (c1) (by simp)).mono ?_
   rintro r H' ⟨rfl,rfl⟩
   simp -implicitDefEqProofs -dsimp []
   refine (callP (c2) (by simp)).mono ?_
   rintro r H' ⟨rfl,rfl⟩
   simp -implicitDefEqProofs -dsimp []
   refine (callP (awake_con) (by simp)).mono ?_
   rintro r H' ⟨rfl,rfl⟩
   simp -implicitDefEqProofs -dsimp []
   refine (callP (awake_con) (by simp)).mono ?_
   rintro r H' ⟨rfl,rfl⟩
   simp -implicitDefEqProofs -dsimp []
  ·rw [show rlV 0 rs = .tup [.nilS,.bool false] from by unfold rlV; rw [if_neg hall]] at c2
   refine conP_of_conH (conH_of_W tok Tryz.func6 rfl rfl ?_)
   refine wx ?_
   simp -implicitDefEqProofs -dsimp [Tryz.f6,List.replicate,encRcp]
   refine (callP (c1) (by simp)).mono ?_
   rintro r H' ⟨rfl,rfl⟩
   simp -implicitDefEqProofs -dsimp []
   refine (callP (c2) (by simp)).mono ?_
   rintro r H' ⟨rfl,rfl⟩
   simp -implicitDefEqProofs -dsimp []
   refine (callP (awake_con) (by simp)).mono ?_
   rintro r H' ⟨rfl,rfl⟩
   simp -implicitDefEqProofs -dsimp []
   refine (callP (awake_con) (by simp)).mono ?_
   rintro r H' ⟨rfl,rfl⟩
   simp -implicitDefEqProofs -dsimp []
 case pos =>
 have hxo:RcpOk x:=⟨hx.a,hx.gap,h6,hx.len⟩
 rw [if_pos h6] at c1
 have hw:=(tbC (tbOf_ok hxo).2).wide
 have c2:=rules37 (tbOf x).attrs.length rs f2 hw (by omega) hr
 have hbd:=fun ha h4=>bd_rcp hxo hr ha h4
 obtain ⟨t,ht⟩:∃t,t=tbOf x:=⟨_,rfl⟩
 rw [←ht] at c1 c2 hw hbd
 simp only [encRcp,encTb,LS,LR] at c1
 by_cases hall:rs.all cnOk=true
 case neg =>
  rw [show rlV t.attrs.length rs = .tup [.nilS,.bool false] from by unfold rlV; rw [if_neg hall]] at c2
  refine conP_of_conH (conH_of_W tok Tryz.func6 rfl rfl ?_)
  refine wx ?_
  simp -implicitDefEqProofs -dsimp [Tryz.f6,List.replicate,encRcp]
  refine (callP (c1) (by simp)).mono ?_
  rintro r H' ⟨rfl,rfl⟩
  simp -implicitDefEqProofs -dsimp []
  refine (callP (c2) (by simp)).mono ?_
  rintro r H' ⟨rfl,rfl⟩
  simp -implicitDefEqProofs -dsimp []
  refine (callP (awake_con) (by simp)).mono ?_
  rintro r H' ⟨rfl,rfl⟩
  simp -implicitDefEqProofs -dsimp []
  refine (callP (awake_con) (by simp)).mono ?_
  rintro r H' ⟨rfl,rfl⟩
  simp -implicitDefEqProofs -dsimp []
 case pos =>
 rw [show rlV t.attrs.length rs = .tup [LCn false (rs.map (cnOf t.attrs.length)),.bool (decide (rs.length≤4))] from by unfold rlV; rw [if_pos hall]] at c2
 by_cases h4:rs.length≤4
 case neg =>
  rw [decide_eq_false h4] at c2
  refine conP_of_conH (conH_of_W tok Tryz.func6 rfl rfl ?_)
  refine wx ?_
  simp -implicitDefEqProofs -dsimp [Tryz.f6,List.replicate,encRcp]
  refine (callP (c1) (by simp)).mono ?_
  rintro r H' ⟨rfl,rfl⟩
  simp -implicitDefEqProofs -dsimp []
  refine (callP (c2) (by simp)).mono ?_
  rintro r H' ⟨rfl,rfl⟩
  simp -implicitDefEqProofs -dsimp []
  refine (callP (awake_con) (by simp)).mono ?_
  rintro r H' ⟨rfl,rfl⟩
  simp -implicitDefEqProofs -dsimp []
  refine (callP (awake_con) (by simp)).mono ?_
  rintro r H' ⟨rfl,rfl⟩
  simp -implicitDefEqProofs -dsimp []
 case pos =>
 rw [decide_eq_true h4] at c2
 obtain ⟨hb,_,h0⟩:=hbd hall h4
 have hcl:(rs.map (cnOf t.attrs.length)).length≤1000000:=by rw [List.length_map]; omega
 obtain ⟨cs,hcs⟩:∃cs,cs=rs.map (cnOf t.attrs.length):=⟨_,rfl⟩
 rw [←hcs] at c2 hb h0 hcl
 have c3:=clone_K cs false hcl
 have c4:=build_u t cs false false false hb
 have c5:=build37 t cs false false false hb
 obtain ⟨hsm,hh,hel⟩:=edges_small hb h0
 rw [h0,bdV_yes h0] at c4 c5
 obtain ⟨I,hI⟩:∃I,I=idsR t.rows:=⟨_,rfl⟩
 obtain ⟨E,hE⟩:∃E,E=edgesF (allR t cs):=⟨_,rfl⟩
 rw [←hI,←hE] at c4 c5 hsm hh
 rw [←hE] at hel
 have c6:=same37 I I E E false false false false hsm hsm
 have c7:=valid_c I E false false hsm
 rw [hh.val hel] at c7
 simp only [decide_true,Bool.and_self] at c6
 simp only [encTb,LS,LR,encH,LCn,L1,LL] at c2 c3 c4 c5 c6 c7
 refine conP_of_conH (conH_of_W tok Tryz.func6 rfl rfl ?_)
 refine wx ?_
 simp -implicitDefEqProofs -dsimp [Tryz.f6,List.replicate,encRcp]
 refine (callP (c1) (by simp)).mono ?_
 rintro r H' ⟨rfl,rfl⟩
 simp -implicitDefEqProofs -dsimp []
 refine (callP (c2) (by simp)).mono ?_
 rintro r H' ⟨rfl,rfl⟩
 simp -implicitDefEqProofs -dsimp []
 refine (callP (awake_con) (by simp)).mono ?_
 rintro r H' ⟨rfl,rfl⟩
 simp -implicitDefEqProofs -dsimp []
 refine lw_of (W_drawT tok mixed [7,8] [(0,[1]),(1,[1]),(2,[1]),(3,[1]),(4,[1]),(5,[1]),(6,[1,2])] [(LCn false cs,[]),(.tup [encH false false I E,.int .i64 0],[])] (by kernel_rfl) fun C K hC hK=>?_)
 simp -implicitDefEqProofs [LCn,encH,L1,LL]
 refine ⟨⟨⟨hC _ _ _ _ (callP c3 (by simp)),hC _ _ _ _ (callP c3 (by simp))⟩,hC _ _ _ _ (callP c4 (by simp)),hC _ _ _ _ (callP c4 (by simp))⟩,hK _ _ ?_⟩
 simp -implicitDefEqProofs -dsimp []
 refine (callP (c5) (by simp)).mono ?_
 rintro r H' ⟨rfl,rfl⟩
 simp -implicitDefEqProofs -dsimp []
 refine (callP (c6) (by simp)).mono ?_
 rintro r H' ⟨rfl,rfl⟩
 simp -implicitDefEqProofs -dsimp []
 refine (callP (c7) (by simp)).mono ?_
 rintro r H' ⟨rfl,rfl⟩
 simp -implicitDefEqProofs -dsimp []
theorem lawRows (x:Rcp) (rs:List Rul) (sv:Int) (f f2:Bool) (hx:RcpA x) (hl:rs.length≤1048576) (hr:∀r∈rs,RulOk r):ConP Tryz.prog 8 [encRcp f x,.lst 10 f2 (rs.map encRul),.int .u8 sv] fun r=>r = .bool true:=by
 have c1:=table03 x f hx.a hx.gap hx.len
 by_cases h6:x.rows.length≤6
 case neg =>
  rw [if_neg h6] at c1
  have c2:=rules37 0 rs f2 (by omega) (by omega) hr
  simp only [encRcp] at c1
  by_cases hall:rs.all cnOk=true
  ·rw [show rlV 0 rs = .tup [LCn false (rs.map (cnOf 0)),.bool (decide (rs.length≤4))] from by unfold rlV; rw [if_pos hall]] at c2
   obtain ⟨b4,hb4⟩:∃b4,b4=decide (rs.length≤4):=⟨_,rfl⟩
   rw [←hb4] at c2
   refine conP_of_conH (conH_of_W tok Tryz.func8 rfl rfl ?_)
   refine wx ?_
   simp -implicitDefEqProofs -dsimp [Tryz.f8,List.replicate,encRcp]
   refine (callP (c1) (by simp)).mono ?_
   rintro r H' ⟨rfl,rfl⟩
   simp -implicitDefEqProofs -dsimp []
   refine (callP (c2) (by simp)).mono ?_
   rintro r H' ⟨rfl,rfl⟩
   simp -implicitDefEqProofs -dsimp []
   refine (callP (awake_con) (by simp)).mono ?_
   rintro r H' ⟨rfl,rfl⟩
   simp -implicitDefEqProofs -dsimp []
   refine (callP (awake_con) (by simp)).mono ?_
   rintro r H' ⟨rfl,rfl⟩
   simp -implicitDefEqProofs -dsimp []
  ·rw [show rlV 0 rs = .tup [.nilS,.bool false] from by unfold rlV; rw [if_neg hall]] at c2
   refine conP_of_conH (conH_of_W tok Tryz.func8 rfl rfl ?_)
   refine wx ?_
   simp -implicitDefEqProofs -dsimp [Tryz.f8,List.replicate,encRcp]
   refine (callP (c1) (by simp)).mono ?_
   rintro r H' ⟨rfl,rfl⟩
   simp -implicitDefEqProofs -dsimp []
   refine (callP (c2) (by simp)).mono ?_
   rintro r H' ⟨rfl,rfl⟩
   simp -implicitDefEqProofs -dsimp []
   refine (callP (awake_con) (by simp)).mono ?_
   rintro r H' ⟨rfl,rfl⟩
   simp -implicitDefEqProofs -dsimp []
   refine (callP (awake_con) (by simp)).mono ?_
   rintro r H' ⟨rfl,rfl⟩
   simp -implicitDefEqProofs -dsimp []
 case pos =>
 have hxo:RcpOk x:=⟨hx.a,hx.gap,h6,hx.len⟩
 rw [if_pos h6] at c1
 have hw:=(tbC (tbOf_ok hxo).2).wide
 have hts:=(tbOf_ok hxo).1
 have hvt:=(tbOf_ok hxo).2
 have c2:=rules37 (tbOf x).attrs.length rs f2 hw (by omega) hr
 have hbd:=fun ha h4=>bd_rcp hxo hr ha h4
 obtain ⟨t,ht⟩:∃t,t=tbOf x:=⟨_,rfl⟩
 rw [←ht] at c1 c2 hw hbd hts hvt
 simp only [encRcp,encTb,LS,LR] at c1
 by_cases hall:rs.all cnOk=true
 case neg =>
  rw [show rlV t.attrs.length rs = .tup [.nilS,.bool false] from by unfold rlV; rw [if_neg hall]] at c2
  refine conP_of_conH (conH_of_W tok Tryz.func8 rfl rfl ?_)
  refine wx ?_
  simp -implicitDefEqProofs -dsimp [Tryz.f8,List.replicate,encRcp]
  refine (callP (c1) (by simp)).mono ?_
  rintro r H' ⟨rfl,rfl⟩
  simp -implicitDefEqProofs -dsimp []
  refine (callP (c2) (by simp)).mono ?_
  rintro r H' ⟨rfl,rfl⟩
  simp -implicitDefEqProofs -dsimp []
  refine (callP (awake_con) (by simp)).mono ?_
  rintro r H' ⟨rfl,rfl⟩
  simp -implicitDefEqProofs -dsimp []
  refine (callP (awake_con) (by simp)).mono ?_
  rintro r H' ⟨rfl,rfl⟩
  simp -implicitDefEqProofs -dsimp []
 case pos =>
 rw [show rlV t.attrs.length rs = .tup [LCn false (rs.map (cnOf t.attrs.length)),.bool (decide (rs.length≤4))] from by unfold rlV; rw [if_pos hall]] at c2
 by_cases h4:rs.length≤4
 case neg =>
  rw [decide_eq_false h4] at c2
  refine conP_of_conH (conH_of_W tok Tryz.func8 rfl rfl ?_)
  refine wx ?_
  simp -implicitDefEqProofs -dsimp [Tryz.f8,List.replicate,encRcp]
  refine (callP (c1) (by simp)).mono ?_
  rintro r H' ⟨rfl,rfl⟩
  simp -implicitDefEqProofs -dsimp []
  refine (callP (c2) (by simp)).mono ?_
  rintro r H' ⟨rfl,rfl⟩
  simp -implicitDefEqProofs -dsimp []
  refine (callP (awake_con) (by simp)).mono ?_
  rintro r H' ⟨rfl,rfl⟩
  simp -implicitDefEqProofs -dsimp []
  refine (callP (awake_con) (by simp)).mono ?_
  rintro r H' ⟨rfl,rfl⟩
  simp -implicitDefEqProofs -dsimp []
 case pos =>
 rw [decide_eq_true h4] at c2
 obtain ⟨hb,_,h0⟩:=hbd hall h4
 obtain ⟨cs,hcs⟩:∃cs,cs=rs.map (cnOf t.attrs.length):=⟨_,rfl⟩
 rw [←hcs] at c2 hb h0
 have c4:=build_u t cs false false false hb
 obtain ⟨hsm,hh,hel⟩:=edges_small hb h0
 rw [h0,bdV_yes h0] at c4
 have hsub:=pickF_sub (idsR t.rows) sv
 have hgs:=woE_small hsm (goneL (idsR t.rows) (pickF (idsR t.rows) sv))
 obtain ⟨l1,l2,l3⟩:=rows_law hb h0 hsub
 have hIs:=hsm.1
 obtain ⟨I,hI⟩:∃I,I=idsR t.rows:=⟨_,rfl⟩
 obtain ⟨E,hE⟩:∃E,E=edgesF (allR t cs):=⟨_,rfl⟩
 rw [←hI,←hE] at c4 hsm hh
 rw [←hI,←hE] at l1 l3 hgs
 rw [←hI] at hsub l2 hIs
 have cp:=pick37 I E sv false false hsm
 obtain ⟨K,hK⟩:∃K,K=pickF I sv:=⟨_,rfl⟩
 rw [←hK] at cp hsub l1 l2 l3 hgs
 have hKl:K.length≤1000000:=Nat.le_trans hsub.length_le hIs
 have ck:=keep03 t K false false false (by omega) (by have:=hts.few; omega) (fun r h=>by have:=(tbC hvt).len r h; omega) hKl
 obtain ⟨hb2,h02⟩:=bd_kT (K:=K) hb hts h0
 have c5:=build_u (kT K t) cs false false false hb2
 rw [h02,bdV_yes h02,l2,l3] at c5
 obtain ⟨hsm2,_,_⟩:=edges_small hb2 h02
 rw [l2,l3] at hsm2
 obtain ⟨KT,hKT⟩:∃KT,KT=kT K t:=⟨_,rfl⟩
 rw [l3] at l1
 rw [←hKT] at ck c5
 have ci:=indep_c I E K false false false hsm hKl
 obtain ⟨G,hG⟩:∃G,G=goneL I K:=⟨_,rfl⟩
 have hGl:G.length≤1000000:=by rw [hG]; exact Nat.le_trans (List.length_filter_le _ _) hIs
 rw [←hG] at c5 hsm2 hgs l1
 have cw:=without_c I E G false false false hsm hGl
 have cs2:=same37 (woV I G) (woV I G) (woE E G) (woE E G) false false false false hsm2 hsm2
 simp only [decide_true,Bool.and_self] at cs2
 obtain ⟨VV,hVV⟩:∃VV,VV=woV I G:=⟨_,rfl⟩
 obtain ⟨EE,hEE⟩:∃EE,EE=woE E G:=⟨_,rfl⟩
 rw [←hVV,←hEE] at c5 cw cs2
 rw [←hEE] at l1
 rw [l1] at ci
 have hGi:∀i (h:i<I.length),goneL (I.take (i+1)) K=if memB K I[i]=true then goneL (I.take i) K else goneL (I.take i) K++[I[i]]:=fun i h=>by
  unfold goneL
  rw [List.take_succ_eq_append_getElem h,List.filter_append]
  by_cases hm:memB K I[i]=true
  ·rw [if_pos hm,List.filter_cons_of_neg (p:=fun v=>!memB K v) (by simp [hm])]; simp
  ·rw [if_neg hm,List.filter_cons_of_pos (p:=fun v=>!memB K v) (by simp [hm])]; rfl
 simp only [encTb,LS,LR,encH,LCn,L1,LL] at c2 c4 cp ck c5 ci cw cs2
 have hB5:∀g:List Int,∀bl∈[B.cells [.int .u8 x.a,.int .u8 x.gap,.lst 1 f (x.rows.map LU)],B.cells [.str t.name,.lst 1 false (t.attrs.map V.str),.lst 2 false (t.rows.map encRw)],B.cells [.lst 1 false (I.map encI),.lst 1 false (E.map (L1 false))],B.buf 2 1 (g.map encI) false],rbB 4 bl:=fun g bl hbl=>by
  simp only [List.mem_cons,List.not_mem_nil,or_false] at hbl
  rcases hbl with rfl | rfl | rfl | rfl
  ·intro c hc; simp only [List.mem_cons,List.not_mem_nil,or_false] at hc; rcases hc with rfl | rfl | rfl<;>simp [rb,rb1]
  ·intro c hc; simp only [List.mem_cons,List.not_mem_nil,or_false] at hc; rcases hc with rfl | rfl | rfl<;>simp [rb,rb1]
  ·intro c hc; simp only [List.mem_cons,List.not_mem_nil,or_false] at hc; rcases hc with rfl | rfl<;>simp [rb,rb1]
  ·exact nums_rb _ _ _ _
 refine conP_of_conH (conH_of_W tok Tryz.func8 rfl rfl ?_)
 refine wx ?_
 simp -implicitDefEqProofs -dsimp [Tryz.f8,List.replicate,encRcp]
 refine (callP (c1) (by simp)).mono ?_
 rintro r H' ⟨rfl,rfl⟩
 simp -implicitDefEqProofs -dsimp []
 refine (callP (c2) (by simp)).mono ?_
 rintro r H' ⟨rfl,rfl⟩
 simp -implicitDefEqProofs -dsimp []
 refine (callP (awake_con) (by simp)).mono ?_
 rintro r H' ⟨rfl,rfl⟩
 simp -implicitDefEqProofs -dsimp []
 refine (callP (c4) (by simp)).mono ?_
 rintro r H' ⟨rfl,rfl⟩
 simp -implicitDefEqProofs -dsimp []
 refine (callP (cp) (by simp)).mono ?_
 rintro r H' ⟨rfl,rfl⟩
 simp -implicitDefEqProofs -dsimp []
 refine lw_of (W_own 2 1 [14] (by simp) (W_loopM 70 [14,16,19,20,21,22,23,24,25,26,27,28,29,30,31,32,33,34,35,36,37,38,39,40,41,42,43,44,45,46,47,48,49,50,51,52,53,57,58,59,60,61,62,63,64,65,66,67,68,69] (by simp [mB]<;>rfl) (σ:=Nat×List Int) (fun p=>p.1≤I.length∧p.2=goneL (I.take p.1) K) (fun p=>I.length - p.1) (fun p=>[(57,.int .i64 p.1),(14,.buf 3 0 p.2.length p.2.length)]) (fun p=>[B.cells [.int .u8 x.a,.int .u8 x.gap,.lst 1 f (x.rows.map LU)],B.cells [.str t.name,.lst 1 false (t.attrs.map V.str),.lst 2 false (t.rows.map encRw)],B.cells [.lst 1 false (I.map encI),.lst 1 false (E.map (L1 false))],B.buf 2 1 (p.2.map encI) false]) (0,[]) ⟨by omega,rfl⟩ (by simp) (by simp) (by simp) ?_))
 rintro ⟨i,g⟩ ⟨hi,hg⟩ N Q hN hQ
 simp only at hi hg
 have hgl:g.length≤I.length:=by rw [hg]; exact Nat.le_trans (List.length_filter_le _ _) (by simp; omega)
 by_cases hib:i<I.length
 ·have hst:=hGi i hib
  have cc:=contains64 K I[i] false hKl
  obtain ⟨v,hv⟩:∃v,v=I[i]:=⟨_,rfl⟩
  rw [←hv] at cc hst
  rw [←hg] at hst
  simp only [L1] at cc
  cases hm:memB K v with
  | true =>
   rw [hm] at cc
   rw [if_pos hm] at hst
   refine wx ?_
   simp -implicitDefEqProofs -dsimp [hib,hv.symm,encI]
   refine (callP (cc) (by simp)).mono ?_
   rintro r H' ⟨rfl,rfl⟩
   simp -implicitDefEqProofs -dsimp [wrapS i (by omega)]
   refine hN (i+1,g) _ _ ⟨by simp only; omega,hst.symm⟩ (by simp only; omega) (by simp) ⟨[],by simp⟩ (by simp) (hB5 _)
  | false =>
   rw [hm] at cc
   rw [if_neg (by simp [hm])] at hst
   refine wx ?_
   simp -implicitDefEqProofs -dsimp [hib,hv.symm,encI]
   refine (callP (cc) (by simp)).mono ?_
   rintro r H' ⟨rfl,rfl⟩
   simp -implicitDefEqProofs -dsimp [cap8 g.length (by omega),wrapN g.length (by omega),wrapS i (by omega)]
   refine hN (i+1,g++[v]) _ _ ⟨by simp only; omega,hst.symm⟩ (by simp only; omega) (by simp) ⟨[],by simp [encI]⟩ (by simp) (hB5 _)
 ·obtain rfl:i=I.length:=by omega
  rw [List.take_of_length_le (by omega),←hG] at hg
  subst hg
  obtain ⟨bz,hbz⟩:∃bz,bz=decide (EE.length=0):=⟨_,rfl⟩
  rw [←hbz] at ci
  have hz:((EE.length:Int) == 0)=bz:=by
   rw [hbz,Bool.eq_iff_iff,decide_eq_true_eq,beq_iff_eq]
   omega
  clear hbz
  refine W_frz 3 [14] rfl (by simp) ?_
  refine wx ?_
  simp -implicitDefEqProofs -dsimp [hib]
  refine hQ _ _ _ ?_
  simp -implicitDefEqProofs -dsimp []
  refine (callP (ck) (by simp)).mono ?_
  rintro r H' ⟨rfl,rfl⟩
  simp -implicitDefEqProofs -dsimp []
  refine (callP (c5) (by simp)).mono ?_
  rintro r H' ⟨rfl,rfl⟩
  simp -implicitDefEqProofs -dsimp []
  refine .inr ⟨stop_of (by kernel_rfl),?_⟩
  refine cy_of _ (callP (ci) (by simp)) ?_
  cases bz with
  | true =>
   simp -implicitDefEqProofs -dsimp [hz,eqA2]
   refine cy_of _ (callP (cw) (by simp)) ?_
   simp -implicitDefEqProofs -dsimp []
   refine cy_of _ (callP (cs2) (by simp)) ?_
   simp -implicitDefEqProofs -dsimp []
  | false =>
   simp -implicitDefEqProofs -dsimp [hz,eqA2]
   refine cy_of _ (callP (cw) (by simp)) ?_
   simp -implicitDefEqProofs -dsimp []
   refine cy_of _ (callP (cs2) (by simp)) ?_
   simp -implicitDefEqProofs -dsimp []
end
end Go.Proofs.YtfaleabndlcanaaGreatDoor
