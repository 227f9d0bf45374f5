/- JX20: own texts of this seat, joined and shortened by pack4.py: DX, DR, DS, DT, DU. -/
import Derived.Test.YtjogkbekekdkjaaGreatDoorJX19
set_option linter.unusedVariables false
set_option linter.unusedSimpArgs false
set_option maxRecDepth 100000
set_option maxHeartbeats 64000000
open Bool renaming and_eq_true→rX,false_or→sf,true_or→uS
open List renaming replicate→rO,drop_eq_getElem_cons→rP,getElem_mem→rQ,drop_of_length_le→rR,not_mem_nil→rS,getElem?_eq_getElem→rT,mem_cons→rU,take_succ_eq_append_getElem→rV,length_append→ri,append_nil→rj,drop_zero→rk,take_of_length_le→rt,nil_append→rx,getElem?_set_ne→ry,mem_singleton→sC,all_eq_true→sH,getElem?_map→sQ,length_set→se,filter_cons_of_pos→sq,filter_cons_of_neg→sr,any_cons→tK,eq_nil_of_length_eq_zero→tS,foldl_cons→ta,length_nil→td,flatMap_cons→tp,map_nil→tt,reverse_reverse→uF,filter_nil→uI,map_set→uM,flatMap_nil→uu,any_nil→vT
namespace Go.Proofs.YtjogkbekekdkjaaGreatDoor
section
open Go Go.AM
theorem tm_ok{t:Tb}(g:TbC t){d:Dn}{rs:List Rw}(hr:rs.length=d.vars.toNat)(hm:∀r∈rs,r∈t.rows){x:Tm}(h:tmB t.attrs.length d.vars x=true):TmOk rs x:=by
 unfold tmB at h;by_cases h0:x.v=0
 ·exact .inl h0
 ·rw[if_neg h0]at h;simp only[rX,decide_eq_true_eq]at h;obtain⟨h1,h2,h3,h4,_⟩:=h
  have hk:(x.v-1).toNat<rs.length:=by omega
  refine .inr ⟨(x.v-1).toNat,x.a.toNat,hk,by omega,by omega,?_⟩;rw[g.len _ (hm _ (rQ hk))];omega
def DnS(d:Dn):Prop:=∀a∈d.atoms,a.l.x.s.size≤maxLen∧a.r.x.s.size≤maxLen
theorem at_ok{t:Tb}(g:TbC t)(hs:TbS t){d:Dn}(hd:DnS d)(h:dnB t.attrs.length d=true):∀rs:List Rw,rs.length=d.vars.toNat→(∀r∈rs,r∈t.rows)→∀a∈d.atoms,AtOk rs a:=fun rs hr hm a ha=>by
 unfold dnB at h;simp only[rX,sH]at h;have h1:=h.2.2.2 a ha;unfold atB at h1;simp only[rX,decide_eq_true_eq]at h1;have ol:=tm_ok g hr hm h1.2.2.1;refine⟨ol,tm_ok g hr hm h1.2.2.2,h1.1,h1.2.1,?_⟩
 rcases ol with h0 | ⟨k,j,hk,e1,e2,e3⟩
 ·have:tmV rs a.l=a.l.x:=by simp[tmV,h0]
  rw[this];exact(hd a ha).1
 ·rw[tmV_at hk e1 e2 e3];exact hs.sz _ (hm _ (rQ hk)) _ (rQ e3)
theorem checkedD_u(t:Tb)(d:Dn)(f g f2:Bool)(h:TbS t)(ha:d.atoms.length≤1000000)(hv:aZ t=0)(ho:dnB t.attrs.length d=true):aL Tryz.prog 193 [aD f g t,aq f2 d] fun r=>r = .int .i64 0:=by
 have c1:=iT t f g h.ok;rw[hv]at c1;have c2:=validD_u t.attrs.length d f2 ha;rw[ho]at c2;have h8:=h.few;simp only[aD,LS,LR,aq,LA]at c1 c2;by_cases h3:d.vars=3
 ·rw[h3]at c2;refine sPx Tryz.func193 rfl rfl ?_;simp -dsimp[Tryz.f193,rO,aD,LS,LR,aq,LA,h3];refine cPx (c1) (by simp) ?_;simp -dsimp[];refine cPx (c2) (by simp) ?_;simp -dsimp[show ¬(200:Int)<t.rows.length by omega]
 ·refine sPx Tryz.func193 rfl rfl ?_;simp -dsimp[Tryz.f193,rO,aD,LS,LR,aq,LA];refine cPx (c1) (by simp) ?_;simp -dsimp[];refine cPx (c2) (by simp) ?_;simp -dsimp[h3]
theorem violD_u(t:Tb)(d:Dn)(f g f2:Bool)(h:TbS t)(hd:DnS d)(ha:d.atoms.length≤1000000)(hv:aZ t=0)(ho:dnB t.attrs.length d=true):aL Tryz.prog 132 [aD f g t,aq f2 d] fun r=>r = .tup [LL false (cD (gL d t.rows d.vars.toNat [] [])),.int .i64 0]:=by
 have ct:=tbC hv;obtain⟨v1,v3⟩:=mi ho;have c1:=checkedD_u t d f g f2 h ha hv ho;have hb:=back_u t d (tcB t f g) (dcB d f2) (fun n=>bS n t f g) (fun n=>qZ n d f2) v1 v3
 have hK0:∀o,(VO (tcB t f g) (dcB d f2) o).length=6:=fun o=>rfl
 have hp0:0+t.rows.length^d.vars.toNat<20000:=by have:=pe (k:=d.vars.toNat) h.few (by omega);omega
 have c2:=visit_u t d f g f2 (.fn 195 [.ptr 3 0,.ptr 4 0]) (VO (tcB t f g) (dcB d f2)) 6 hK0 (VO_rb (fun n=>bS n t f g) (fun n=>qZ n d f2)) (by simp[rb,rb1]) h.few ha (at_ok ct h hd ho) v1 v3 hb d.vars.toNat [] [] [] false (by simp) (by simp) (by simp) hp0 (by simp);rw[rj]at c2;have c3:=conH_lf (args:=[aD f g t,aq f2 d,.nilS,.fn 195 [.ptr 3 0,.ptr 4 0]]) c2 ⟨.inl rfl,.inl rfl,.inr (.inr ⟨2,rfl,rfl⟩),.inl rfl,trivial⟩;obtain⟨o,hoe⟩:∃o,o=gL d t.rows d.vars.toNat [] []:=⟨_,rfl⟩
 have hol:o.length≤512:=by
  have:=jQ (d:=d) (R:=t.rows) d.vars.toNat [] [];have h5:=pe (k:=d.vars.toNat) h.few (by omega);rw[←hoe]at this;simp only[td]at this;omega
 have hls:∀l∈o,l.length≤1000000:=fun l hl=>by
  rw[hoe]at hl
  rcases(la _ _ _ _).1 hl with hh | ⟨q,h1,_,_,h4⟩
  ·cases hh
  ·rw[h4,iV,bC];simp;omega
 rw[←hoe]at c3 ⊢;simp only[rj]at c3;have c4:=sortLi_u (H:=VO (tcB t f g) (dcB d f2) o) (k:=5) (e:=34) (f:=false) o o.length rfl (by show 5<6;omega) (by omega) hls;rw[show LBi (VO (tcB t f g) (dcB d f2) o) 5 34 false o=VO (tcB t f g) (dcB d f2) o from rfl]at c4;have hsl:=fh o;obtain⟨s,hse⟩:∃s,s=cD o:=⟨_,rfl⟩;rw[←hse]at c4 hsl ⊢;simp only[LBi,VO,VK,tcB,dcB,aD,aq,LR,LS,LA,List.set_cons_succ,List.set_cons_zero]at c1 c3 c4;refine bV (aF tok Tryz.func132 rfl rfl ?_);refine cj ?_;refine wx ?_;simp -dsimp[Tryz.f132,rO,aD,aq,LR,LS,LA];refine cj ?_;refine wx ?_;simp -dsimp[];refine cPx (c1) (by simp) ?_;simp -dsimp[];refine cj ?_;refine wx ?_;simp -dsimp[];refine cj ?_;refine wx ?_;simp -dsimp[];refine eS 34 1 [] 4 [0] rfl (by simp) (by simp) ?_;refine cj ?_;refine wx ?_;simp -dsimp[];refine wcZ c3 ?_;rintro r H' ⟨rfl,rfl⟩;simp -dsimp[];refine wx ?_;simp -dsimp[];refine wcZ c4 ?_;rintro r H' ⟨rfl,rfl⟩;simp -dsimp[];rw[←hsl];exact nX (dK rfl (by simp) (fun x hx=>by obtain⟨y,_,rfl⟩:=List.mem_map.1 hx;exact L1_pure _ _))
theorem qr(us bs:List Int)(f g:Bool)(hl:us.length≤1000000)(hl2:bs.length≤1000000):aL Tryz.prog 263 [L1 f us,L1 g bs] fun r=>r = .bool (ap us bs):=by
 refine sPx Tryz.func263 rfl rfl ?_;simp -dsimp[Tryz.f263,rO];refine aG (gc [4,5,6,7,8,9,10,11,12,13,14,15,16,17,18,19,20,21,22,23,24,25,26,27,28,29,30,31,32,33,34,35] (σ:=Nat) (fun i=>i≤us.length∧i≤bs.length∧ap (us.drop i) (bs.drop i)=ap us bs) (fun i=>us.length-i) (fun i=>[(5,.int .i64 i)]) (fun _=>[]) 0 ⟨by omega,by omega,rfl⟩ (by simp) rfl (by simp) ?_);rintro i ⟨h1,h2,hx⟩;by_cases ha:i<us.length
 ·by_cases hb:i<bs.length
  ·rw[rP ha,rP hb,ap]at hx;by_cases hq:us[i]=bs[i]
   ·rw[if_pos hq]at hx;refine wx ?_;simp -dsimp[L1,aE,ha,hb,hq,aH i (by omega)];refine .inr ⟨aC (by kernel_rfl),?_⟩;refine aC ?_;refine⟨i+1,⟨by omega,by omega,hx⟩,by omega,?_,⟨[],rfl⟩,?_,?_⟩<;>simp[L1,aE]
   ·rw[if_neg hq]at hx;refine wx ?_;simp -dsimp[L1,aE,ha,hb,hq];refine .inr ⟨aC (by kernel_rfl),?_⟩;refine .inr ⟨aC (by kernel_rfl),?_⟩;exact hx
  ·rw[rP ha,rR (l:=bs) (by omega),ap]at hx;refine wx ?_;simp -dsimp[L1,ha,hb];rw[←hx];simp;omega
 ·by_cases hb:i<bs.length
  ·rw[rP hb,rR (l:=us) (by omega),ap]at hx;refine wx ?_;simp -dsimp[L1,ha,hb];rw[←hx];simp;omega
  ·rw[rR (l:=us) (by omega),rR (l:=bs) (by omega),ap]at hx;refine wx ?_;simp -dsimp[L1,ha,hb];rw[←hx];simp;omega
theorem sink_last(l:List Int)(x:Int)(h:l.Pairwise (·≤·)):(fE ltZ l.length (l++[x])).Pairwise (·≤·)∧(fE ltZ l.length (l++[x])).Perm (l++[x]):=by
 have h1:=nH x l.reverse [];rw[uF,List.length_reverse,rj]at h1;refine⟨by rw[h1];exact jh _ _ (by rwa [uF]),fi _ _ _ (by simp)⟩
theorem asc18(rs:List Rw)(f:Bool)(hl:rs.length≤1000):aL Tryz.prog 213 [LR f rs] fun r=>r=L1 false (srt (aa rs)):=by
 obtain⟨I,hI⟩:∃I,I=aa rs:=⟨_,rfl⟩
 have hIl:I.length=rs.length:=by rw[hI,bC]
 rw[←hI]
 have hbI:∀(l:List Int),∀bl∈[B.buf 2 1 (nzL l) false],rbB 1 bl:=fun l bl hb=>by simp only[sC]at hb;subst hb;exact(rbB_buf1 (nzL_pure l)).2 trivial
 refine sPx Tryz.func213 rfl rfl ?_;simp -dsimp[Tryz.f213,rO,LR];refine aG (bf 2 1 [3] (by simp) (W_loopM 55 0x7ffffffffffff8 (by simp[mB]<;>rfl) (σ:=Nat×List Int) (fun p=>p.1≤rs.length∧p.2.length=p.1∧p.2.Pairwise (·≤·)∧p.2.Perm (I.take p.1)) (fun p=>rs.length-p.1) (fun p=>[(4,.int .i64 p.1),(3,.buf 0 0 p.1 p.1)]) (fun p=>[B.buf 2 1 (nzL p.2) false]) (0,[]) ⟨by simp,rfl,List.Pairwise.nil,by simp⟩ (by simp) (by simp[nzL]) (by simp) ?_));rintro⟨i,l⟩ ⟨hi,hll,hs,hp⟩ N Q hN hQ;simp only at hi hll hs hp;by_cases hb:i<rs.length
 ·obtain⟨r,hre⟩:∃r,r=rs[i]:=⟨_,rfl⟩
  have hbI2:i<I.length:=by omega
  have hIi:I[i]=r.id:=by rw[hre];simp[hI,aa]
  have hts:I.take (i+1)=I.take i++[r.id]:=by rw[rV hbI2,hIi]
  obtain⟨q1,q2⟩:=sink_last l r.id hs;rw[hll]at q1 q2;obtain⟨S,hS⟩:∃S,S=fE ltZ i (l++[r.id]):=⟨_,rfl⟩;rw[←hS]at q1 q2
  have hSl:S.length=i+1:=by rw[q2.length_eq];simp[hll]
  have hSp:S.Perm (I.take (i+1)):=by rw[hts];exact q2.trans (hp.append_right _)
  have hnl0:=im l
  have wi:IntKind.i64.wrap (((i:Int)+1)-1)=(i:Int):=by rw[wrap64 (by omega) (by omega)];omega
  refine wx ?_;simp -dsimp[hb,hre.symm,aI,hnl0,hll,go i (by omega),wi,ai i (by omega)];refine aG (W_loopM 55 0x7fffffff800020 (by simp[mB]<;>rfl) (σ:=Nat×List Int) (fun p=>p.1≤i∧p.2.length=i+1∧fE ltZ p.1 p.2=S) (fun p=>p.1) (fun p=>[(5,.int .i64 p.1)]) (fun p=>[B.buf 2 1 (nzL p.2) false]) (i,l++[r.id]) ⟨by simp,by simp[hll],hS.symm⟩ (by simp) (by simp[nzL,aE]) (by simp) ?_);rintro⟨j,l2⟩ ⟨hj,hl2,hy⟩ N2 Q2 hN2 hQ2;simp only at hj hl2 hy hN2;have hnl:=im l2
  cases j with
  | zero =>
   rw[fE]at hy;refine wx ?_;simp -dsimp[];refine .inr ⟨aC (by kernel_rfl),?_⟩;refine hQ2 _ _ _ ?_;simp -dsimp[aH i (by omega)];refine hN (i+1,l2) _ _ ⟨by simp only;omega,by rw[hy];exact hSl,by rw[hy];exact q1,by rw[hy];exact hSp⟩ (by simp only;omega) (by simp) ⟨[],by simp⟩ (by simp) (hbI _)
  | succ j =>
   rw[fE]at hy
   have a1:=fun h=>kO (m:=l2) (x:=j+1) h
   have a0:=fun h=>kO (m:=l2) (x:=j) h
   have wj:IntKind.i64.wrap (((j:Int)+1)-1)=(j:Int):=by rw[wrap64 (by omega) (by omega)];omega
   have wj2:IntKind.i64.wrap (j:Int)=(j:Int):=wrapZ j (by omega)
   have hj1:j+1<i+1:=by omega
   have hj0:j<i+1:=by omega
   obtain⟨x,hxx⟩:∃x,x=l2.getD (j+1) 0:=⟨_,rfl⟩;obtain⟨y,hyy⟩:∃y,y=l2.getD j 0:=⟨_,rfl⟩;rw[←hxx,←hyy]at hy;rw[←hxx]at a1;rw[←hyy]at a0
   have b1:(nzL l2)[j+1]?=some (.int .i64 x):=by rw[rT (by rw[hnl];omega),a1]
   have b0:(nzL l2)[j]?=some (.int .i64 y):=by rw[rT (by rw[hnl];omega),a0]
   by_cases hq:x<y
   ·rw[if_pos (by simp[ltZ,hq])]at hy;refine wx ?_;simp -dsimp[hnl,hl2,hj1,hj0,a1,a0,b1,b0,wj,wj2,hq,show(0:Int)≤(j:Int)+1 by omega,show(0:Int)<(j:Int)+1 by omega,show(j:Int)<(i:Int) by omega,show(j:Int)<(i:Int)+1 by omega,show j<i+1 by omega,show j<i by omega];refine .inr ⟨aC (by kernel_rfl),?_⟩
    have hsw:jS j l2=(l2.set (j+1) y).set j x:=by unfold jS;rw[←hxx,←hyy]
    have hst1:(nzL l2).set (j+1) (.int .i64 y)=nzL (l2.set (j+1) y):=og l2 (j+1) y
    have hst2:(nzL (l2.set (j+1) y)).set j (.int .i64 x)=nzL (jS j l2):=by rw[hsw];exact og _ j x
    have qnl:=im (l2.set (j+1) y);rw[se]at qnl
    have d0:=fun h=>kO (m:=l2.set (j+1) y) (x:=j) h
    refine aG (aW tok mixed [15,17] [(2,[1]),(3,[1]),(4,[1])] [] (by kernel_rfl) fun C K hC hK=>?_);simp -implicitDefEqProofs [hnl,hl2,hj1,hj0,a1,a0,b1,b0,wj,wj2,hst1,hst2,qnl,d0,show(0:Int)≤(j:Int)+1 by omega,show(j:Int)<(i:Int) by omega,show(j:Int)<(i:Int)+1 by omega,show j<i+1 by omega,show j<i by omega];refine hK _ _ ?_;simp -dsimp[wj,wj2];refine hN2 (j,jS j l2) _ _ ⟨by simp only;omega,by rw[pL];exact hl2,hy⟩ (by simp only;omega) (by simp) ⟨[],by simp⟩ (by simp) (hbI _)
   ·rw[if_neg (by simp[ltZ,hq])]at hy;refine wx ?_;simp -dsimp[hnl,hl2,hj1,hj0,a1,a0,b1,b0,wj,wj2,hq,show(0:Int)≤(j:Int)+1 by omega,show(0:Int)<(j:Int)+1 by omega,show(j:Int)<(i:Int) by omega,show(j:Int)<(i:Int)+1 by omega,show j<i+1 by omega,show j<i by omega];refine .inr ⟨aC (by kernel_rfl),?_⟩;refine hQ2 _ _ _ ?_;simp -dsimp[aH i (by omega)];refine hN (i+1,l2) _ _ ⟨by simp only;omega,by rw[hy];exact hSl,by rw[hy];exact q1,by rw[hy];exact hSp⟩ (by simp only;omega) (by simp) ⟨[],by simp⟩ (by simp) (hbI _)
 ·obtain rfl:i=rs.length:=by omega
  rw[rt (by omega)]at hp;refine wx ?_;simp -dsimp[hb];refine hQ _ _ _ ?_;simp -dsimp[];rw[←srt_eq hp hs];exact dP rfl (by simp[nzL,hll]) (by simp[nzL,aE])
def lk(x y:List Int):Bool:=!ap y x&&!ap x y
theorem put18(b0 b1:B)(h0:∀n,rbB n b0)(h1:∀n,rbB n b1)(l:List (List Int))(x:List Int)(hl:l.length≤10000)(hle:∀e∈l,e.length≤1000000)(hxl:x.length≤1000000):
  av Tryz.prog 212 [.buf 2 0 l.length l.length,L1 false x] [b0,b1,.buf 34 1 (l.map (L1 false)) false] fun r H'=>r = .buf 2 0 (lD l x).length (lD l x).length∧H'=[b0,b1,.buf 34 1 ((lD l x).map (L1 false)) false]:=by
 have hrb:∀o:List (List Int),∀bl∈[b0,b1,B.buf 34 1 (o.map (L1 false)) false],rbB 3 bl:=fun o bl hbl=>by
  simp only[rU,rS,or_false]at hbl
  rcases hbl with rfl | rfl | rfl
  ·exact h0 _
  ·exact h1 _
  ·exact oH _ _ _
 obtain⟨E,hE⟩:∃E,E=l.any (lk x):=⟨_,rfl⟩
 have hyes:E=true→lD l x=l:=fun h=>by unfold lD;rw[if_pos (by rw[←h,hE];rfl)]
 have hno:E=false→lD l x=io l x:=fun h=>by
  unfold lD;rw[if_neg];intro h2;have:l.any (lk x)=true:=h2;rw[←hE,h]at this;cases this
 obtain⟨S,hS⟩:∃S,S=lD l x:=⟨_,rfl⟩;rw[←hS];rw[←hS]at hyes hno;refine aF tok Tryz.func212 rfl rfl ?_;refine wx ?_;simp -dsimp[Tryz.f212,rO,L1];refine aG (W_loopM 30 0x3fffffb0 (by simp[mB]<;>rfl) (σ:=Nat) (fun i=>(l.drop i).any (lk x)=E) (fun i=>l.length-i) (fun i=>[(5,.int .i64 i)]) (fun _=>[b0,b1,B.buf 34 1 (l.map (L1 false)) false]) 0 (by rw[hE,rk]) (by simp) (by simp) (by simp) ?_);intro i hx N Q hN hQ;by_cases hb:i<l.length
 ·rw[rP hb,tK]at hx;have hyl:=hle _ (rQ hb);obtain⟨y,hye⟩:∃y,y=l[i]:=⟨_,rfl⟩;rw[←hye]at hx hyl;have c1:=qr y x false false hyl hxl;have c2:=qr x y false false hxl hyl;simp only[L1]at c1 c2
  cases q1:ap y x with
  | true =>
   rw[q1]at c1;rw[show lk x y=false by simp[lk,q1],sf]at hx;refine wx ?_;simp -dsimp[hb,hye.symm,L1];refine cPx (c1) (by simp) ?_;simp -dsimp[aH i (by omega),L1];refine hN (i+1) _ _ hx (by omega) (by simp) ⟨[],by simp⟩ (by simp) (hrb _)
  | false =>
   rw[q1]at c1
   cases q2:ap x y with
   | true =>
    rw[q2]at c2;rw[show lk x y=false by simp[lk,q2],sf]at hx;refine wx ?_;simp -dsimp[hb,hye.symm,L1];refine cPx (c1) (by simp) ?_;simp -dsimp[hb,hye.symm,L1];refine cPx (c2) (by simp) ?_;simp -dsimp[aH i (by omega),L1];refine hN (i+1) _ _ hx (by omega) (by simp) ⟨[],by simp⟩ (by simp) (hrb _)
   | false =>
    rw[q2]at c2;rw[show lk x y=true by simp[lk,q1,q2],uS]at hx;have hSl:=hyes hx.symm;refine wx ?_;simp -dsimp[hb,hye.symm,L1];refine cPx (c1) (by simp) ?_;simp -dsimp[hb,hye.symm,L1];refine cPx (c2) (by simp) ?_;simp -dsimp[L1];refine hQ _ _ _ ?_;simp -dsimp[L1];rw[hSl];exact⟨rfl,rfl⟩
 ·rw[rR (by omega),vT]at hx;have hSi:=hno hx.symm;refine wx ?_;simp -dsimp[hb,L1];refine hQ _ _ _ ?_;simp -dsimp[fI l.length (by omega),ai l.length (by omega),L1];refine aG (W_loopM 69 0x1fffffffe000000040 (by simp[mB]<;>rfl) (σ:=Nat) (fun k=>k≤l.length∧cO l x k=cO l x l.length) (fun k=>k) (fun k=>[(6,.int .i64 k)]) (fun k=>[b0,b1,B.buf 34 1 ((bx l x k).map (L1 false)) false]) l.length ⟨by omega,rfl⟩ (by simp) (by simp[bx,L1]) (by simp) ?_);rintro k ⟨hk1,hk2⟩ N3 Q3 hN3 hQ3;by_cases hk0:k=0
  ·subst hk0
   have hfin:S=bx l x 0:=by rw[hSi,io,←hk2];rfl
   refine wx ?_;simp -dsimp[L1];refine .inr ⟨aC (by kernel_rfl),?_⟩;refine hQ3 _ _ _ ?_;simp -dsimp[L1];rw[hfin,kQ];exact⟨rfl,rfl⟩
  ·have hcl:=kQ l x k;have hck:=insAt_k l x k hk1 (by omega);have hcp:=insAt_p l x k hk1 (by omega) (by omega);have hsw:=qC l x k hk1 (by omega)
   have hbk:k<(bx l x k).length:=by omega
   have hbp:k-1<(bx l x k).length:=by omega
   obtain⟨a,ha⟩:∃a,a=eAt l (k-1):=⟨_,rfl⟩;rw[←ha]at hcp hsw;have hal2:a.length≤1000000:=hle a (by rw[ha,dO (by omega)];exact rQ _);have hc:=qr x a false false hxl hal2;obtain⟨cur,hcur⟩:∃cur,cur=bx l x k:=⟨_,rfl⟩;rw[←hcur]at hcl hsw hbk hbp ⊢
   have hck:cur[k]=x:=by subst hcur;exact hck
   have hcp:cur[k-1]=a:=by subst hcur;exact hcp
   have hpos:cO l x k=if ap x a then cO l x (k-1) else k:=by
    obtain⟨m,rfl⟩:∃m,k=m+1:=⟨k-1,by omega⟩;rw[ha];rfl
   simp only[L1]at hc
   have hgk:cur[k]?=some x:=by rw[rT hbk,hck]
   have hgp:cur[k-1]?=some a:=by rw[rT hbp,hcp]
   have hi1:(k:Int)<(l.length:Int)+1:=by omega
   have hi2:((k-1:Nat):Int)<(l.length:Int)+1:=by omega
   cases hlt:ap x a
   ·rw[hlt]at hc hpos
    have hfin:S=cur:=by rw[hSi,io,←hk2,hpos,hcur];rfl
    refine wx ?_;simp -dsimp[hgk,hgp,hcl,hi1,hi2,hU k (by omega) (by omega),show 0<k by omega,L1];refine .inr ⟨aC (by kernel_rfl),?_⟩;refine aN _ (aK (hc) (by simp)) ?_;simp -dsimp[L1];refine hQ3 _ _ _ ?_;simp -dsimp[L1];rw[hfin,hcl];exact⟨rfl,rfl⟩
   ·rw[hlt]at hc hpos;refine wx ?_;simp -dsimp[hgk,hgp,hcl,hi1,hi2,hU k (by omega) (by omega),show 0<k by omega,L1];refine .inr ⟨aC (by kernel_rfl),?_⟩;refine aN _ (aK (hc) (by simp)) ?_;simp -dsimp[L1]
    have hs1:((cur.map (L1 false)).set k (V.lst 1 false (a.map aE)))[k-1]?=some (V.lst 1 false (a.map aE)):=by
     rw[ry (by omega),sQ,hgp];rfl
    have hs2:((cur.map (L1 false)).set k (V.lst 1 false (a.map aE))).set (k-1) (V.lst 1 false (x.map aE))=(bx l x (k-1)).map (L1 false):=by
     rw[←hsw];simp only[uM,L1]
    refine aG (aW tok mixed [15,17] [(2,[1]),(3,[1]),(4,[1])] [] (by kernel_rfl) fun C K hC hK=>?_);simp -implicitDefEqProofs [hgk,hgp,hcl,hi1,hi2,hU k (by omega) (by omega),hs1,hs2,L1];refine hK _ _ ?_;simp -dsimp[hU k (by omega) (by omega),L1];refine hN3 (k-1) _ _ ⟨by omega,by rw[←hk2,hpos];rfl⟩ (by omega) (by simp) ⟨[],by simp⟩ (by simp) (hrb _)
def LRR(os:List (List Rw)):V:=.lst 1 false (os.map (LR false))
@[simp] theorem LRR_pure (os:List (List Rw)):AM.Pure (LRR os):=.lst _ _ _ fun x hx=>by obtain⟨y,_,rfl⟩:=List.mem_map.1 hx;exact LR_pure _ _
theorem LRR_rb(n e:Nat)(os:List (List Rw))(fz:Bool):rbB n (.buf e 1 (os.map (LR false)) fz):=fun x hx=>by
 obtain⟨y,_,rfl⟩:=List.mem_map.1 hx;intro c hc;simp only[LR,V.cells,rU,rS,or_false]at hc;subst hc;simp[rb1]
theorem step_cons{R:List Rw}{o:List Rw}{j:Nat}(h:j<R.length):((R.drop j).filter fun r=>!cT o r).map (fun r=>o++[r])=(if cT o R[j]=true then [] else [o++[R[j]]])++((R.drop (j+1)).filter fun r=>!cT o r).map (fun r=>o++[r]):=by
 rw[rP h];by_cases hu:cT o R[j]=true
 ·rw[sr (by simp[hu]),if_pos hu];rfl
 ·rw[sq (by simp[hu]),if_neg hu];rfl
theorem cap24L(n:Nat)(h:n≤1000000000):n≤9223372036854775806∧(n+1)*24≤140737488355328:=by omega
def pvA(R:List Rw)(k:Nat):V:=if k=0 then .lst 1 true [.nilS] else LRR (asR R k)
theorem assign18(t:Tb)(f g:Bool)(K:Nat)(hK1:1≤K)(hK3:K≤3)(h8:t.rows.length≤8):aL Tryz.prog 210 [aD f g t,.int .i64 K] fun r=>r=LRR (asR t.rows K):=by
 obtain⟨R,hR⟩:∃R,R=t.rows:=⟨_,rfl⟩;rw[←hR]at h8 ⊢
 have htB:tcB t f g = .cells [.str t.name,.lst 1 f (t.attrs.map V.str),.lst 2 g (R.map aI)]:=by rw[hR];rfl
 have hrb:∀bl∈[B.cells [.str t.name,.lst 1 f (t.attrs.map V.str),.lst 2 g (R.map aI)]],rbB 1 bl:=fun bl hbl=>by
  simp only[sC]at hbl;subst hbl;rw[←htB];exact bS _ _ _ _
 have hrb2:∀cur:List (List Rw),∀bl∈[B.cells [.str t.name,.lst 1 f (t.attrs.map V.str),.lst 2 g (R.map aI)],B.buf 30 1 (cur.map (LR false)) false],rbB 2 bl:=fun cur bl hbl=>by
  simp only[rU,rS,or_false]at hbl
  rcases hbl with rfl | rfl
  ·rw[←htB];exact bS _ _ _ _
  ·exact LRR_rb _ _ _ _
 have hpp:∀k,AM.Pure (pvA R k):=fun k=>by
  unfold pvA;split
  ·exact .lst _ _ _ (by simp)
  ·exact LRR_pure _
 refine ay (aF (tkf 30) Tryz.func210 rfl rfl ?_);refine W_x (tkf 30) mixed ?_;simp -dsimp[Tryz.f210,rO,aD,LS,LR,hR.symm,aM];refine aG (W_loopM 77 0x1fffffffffffffffefe0 (by simp[mB]<;>rfl) (σ:=Nat) (fun k=>k≤K) (fun k=>K-k) (fun k=>[(6,.int .i64 k),(5,pvA R k)]) (fun _=>[B.cells [.str t.name,.lst 1 f (t.attrs.map V.str),.lst 2 g (R.map aI)]]) 0 (by omega) (by simp[pvA]) (by simp) (by simp) ?_);intro k hk N Q hN hQ;by_cases hkb:k<K
 ·have hT512:=mv R (k+1);have hT8:=pe (k:=k+1) h8 (by omega);obtain⟨T,hT⟩:∃T,T=asR R (k+1):=⟨_,rfl⟩;rw[←hT]at hT512
  have hTf:(asR R k).flatMap (kr R)=T:=by rw[hT];rfl
  have hpk:pvA R (k+1)=LRR T:=by unfold pvA;rw[if_neg (by omega),hT]
  have hol:∀o∈asR R k,o.length=k:=fun o ho=>(jF.1 ho).1
  by_cases hk0:k=0
  ·subst hk0;obtain⟨os,hos⟩:∃os:List (List Rw),os=[[]]:=⟨_,rfl⟩;have hpv:pvA R 0 = .lst 1 true [.nilS]:=rfl;rw[show asR R 0=os from hos.symm]at hTf hol
   have hosl:os.length=1:=by rw[hos];rfl
   have ho512:os.length≤512:=by omega
   refine W_x (tkf 30) mixed ?_;simp -dsimp[show(0:Int)<(K:Int) by omega,hkb,hpv,aM];refine aG (bf 30 1 [7] (by simp) (W_loopM 76 0xffffffffffffffc0f80 (by simp[mB]<;>rfl) (σ:=Nat×List (List Rw)) (fun p=>p.2++(os.drop p.1).flatMap (kr R)=T) (fun p=>os.length-p.1) (fun p=>[(8,.int .i64 p.1),(7,.buf 1 0 p.2.length p.2.length)]) (fun p=>[B.cells [.str t.name,.lst 1 f (t.attrs.map V.str),.lst 2 g (R.map aI)],B.buf 30 1 (p.2.map (LR false)) false]) (0,[]) (by simpa using hTf) (by simp) (by simp) (by simp) ?_));rintro⟨i,cur⟩ hx N1 Q1 hN1 hQ1;simp only at hx;by_cases hib:i<os.length
   ·rw[rP hib,tp]at hx;have hoi:=hol _ (rQ hib);obtain⟨o,hoe⟩:∃o,o=os[i]:=⟨_,rfl⟩;rw[←hoe]at hx hoi;obtain⟨Z,hZ⟩:∃Z,Z=(os.drop (i+1)).flatMap (kr R):=⟨_,rfl⟩;rw[←hZ]at hx
    obtain rfl:i=0:=by omega
    refine W_x (tkf 30) mixed ?_;simp -dsimp[hpv,aM];refine aG (W_loopM 76 0xfffffffffffff000e80 (by simp[mB]<;>rfl) (σ:=Nat×List (List Rw)) (fun p=>p.2++(((R.drop p.1).filter fun r=>!cT o r).map (fun r=>o++[r])++Z)=T) (fun p=>R.length-p.1) (fun p=>[(9,.int .i64 p.1),(7,.buf 1 0 p.2.length p.2.length)]) (fun p=>[B.cells [.str t.name,.lst 1 f (t.attrs.map V.str),.lst 2 g (R.map aI)],B.buf 30 1 (p.2.map (LR false)) false]) (0,cur) (by rw[←hx];rfl) (by simp) (by simp) (by simp) ?_);rintro⟨j,cur2⟩ hx2 N2 Q2 hN2 hQ2;simp only at hx2;by_cases hjb:j<R.length
    ·rw[step_cons hjb]at hx2;obtain⟨r,hre⟩:∃r,r=R[j]:=⟨_,rfl⟩;rw[←hre]at hx2
     have hcl:cur2.length≤512:=by
      have:=congrArg List.length hx2;simp only[ri]at this;omega
     refine cj ?_;refine W_x (tkf 30) mixed ?_;simp -dsimp[hjb,aM];refine cj ?_;refine mz ?_;refine cj ?_;refine W_x (tkf 30) mixed ?_;simp -dsimp[aM];refine cj ?_;refine W_x (tkf 30) mixed ?_;simp -dsimp[aM];refine aG (W_loopM 58 0x3ffffff80000c00 (by simp[mB]<;>rfl) (σ:=Nat) (fun _=>True) (fun q=>0-q) (fun q=>[(11,.int .i64 q),(10,.bool false)]) (fun _=>[B.cells [.str t.name,.lst 1 f (t.attrs.map V.str),.lst 2 g (R.map aI)],B.buf 30 1 (cur2.map (LR false)) false]) 0 trivial (by simp) (by simp) (by simp) ?_);rintro x hu N3 Q3 hN3 hQ3;have ho0:o=[]:=tS hoi;subst ho0;rw[if_neg (by simp[cT])]at hx2;refine W_x (tkf 30) mixed ?_;simp -dsimp[hpv,show ¬(x:Int)<0 by omega,aM];refine hQ3 _ _ _ ?_;simp -dsimp[aM];refine W_x (tkf 30) mixed ?_;simp -dsimp[hpv,aM];refine aG (aW (tkf 30) mixed [6,13,15] [(0,[1,2]),(7,[0]),(8,[0]),(9,[0]),(10,[0]),(11,[0]),(12,[0])] [] (by kernel_rfl) fun C K hC hK=>?_);simp -implicitDefEqProofs [hpv,hjb,hre.symm,aI,LR,LV,show IntKind.i64.wrap (1:Int)=1 from wrap64 (by omega) (by omega),cap24L cur2.length (by omega),ai cur2.length (by omega),aM];refine hK _ _ ?_;simp -dsimp[aM];refine W_x (tkf 30) mixed ?_;simp -dsimp[aH j (by omega),aM];refine hN2 (j+1,cur2++[[r]]) _ _ (by rw[←hx2];simp) (by simp only;omega) (by simp[hpv]) ⟨[],by simp[LR,aI,LV]⟩ (by simp[hpv]) (hrb2 _)
    ·rw[rR (show R.length≤j by omega),uI,tt,rx]at hx2;refine W_x (tkf 30) mixed ?_;simp -dsimp[hjb,aM];refine hQ2 _ _ _ ?_;simp -dsimp[show IntKind.i64.wrap (1:Int)=1 from wrap64 (by omega) (by omega),aM];refine hN1 (0+1,cur2) _ _ (by rw[←hx2,hZ]) (by simp only;omega) (by simp) ⟨[],by simp⟩ (by simp) (hrb2 _)
   ·rw[rR (show os.length≤i by omega),uu,rj]at hx;subst hx;refine cy 1 [7] rfl (by simp) ?_;refine W_x (tkf 30) mixed ?_;simp -dsimp[show ¬(i:Int)<1 by omega,hpv,aM];refine hQ1 _ _ _ ?_;simp -dsimp[show IntKind.i64.wrap (1:Int)=1 from wrap64 (by omega) (by omega),aM];refine hN (0+1) _ _ (by omega) (by omega) (by simp[hpk,LRR]) ⟨[B.buf 30 1 (cur.map (LR false)) true],by simp⟩ (by simp[hpk,LRR]) hrb
  ·obtain⟨os,hos⟩:∃os:List (List Rw),os=asR R k:=⟨_,rfl⟩;rw[←hos]at hTf hol
   have ho512:os.length≤512:=by rw[hos];have:=mv R k;have:=pe (k:=k) h8 (by omega);omega
   have hpv:pvA R k = .lst 1 false (os.map (LR false)):=by unfold pvA;rw[if_neg hk0,hos];rfl
   refine W_x (tkf 30) mixed ?_;simp -dsimp[show(k:Int)<(K:Int) by omega,hkb,hpv,aM];refine aG (bf 30 1 [7] (by simp) (W_loopM 76 0xffffffffffffffc0f80 (by simp[mB]<;>rfl) (σ:=Nat×List (List Rw)) (fun p=>p.2++(os.drop p.1).flatMap (kr R)=T) (fun p=>os.length-p.1) (fun p=>[(8,.int .i64 p.1),(7,.buf 1 0 p.2.length p.2.length)]) (fun p=>[B.cells [.str t.name,.lst 1 f (t.attrs.map V.str),.lst 2 g (R.map aI)],B.buf 30 1 (p.2.map (LR false)) false]) (0,[]) (by simpa using hTf) (by simp) (by simp) (by simp) ?_));rintro⟨i,cur⟩ hx N1 Q1 hN1 hQ1;simp only at hx;by_cases hib:i<os.length
   ·rw[rP hib,tp]at hx;have hoi:=hol _ (rQ hib);obtain⟨o,hoe⟩:∃o,o=os[i]:=⟨_,rfl⟩;rw[←hoe]at hx hoi;obtain⟨Z,hZ⟩:∃Z,Z=(os.drop (i+1)).flatMap (kr R):=⟨_,rfl⟩;rw[←hZ]at hx;refine W_x (tkf 30) mixed ?_;simp -dsimp[hib,hpv,hoe.symm,aM];refine aG (W_loopM 76 0xfffffffffffff000e80 (by simp[mB]<;>rfl) (σ:=Nat×List (List Rw)) (fun p=>p.2++(((R.drop p.1).filter fun r=>!cT o r).map (fun r=>o++[r])++Z)=T) (fun p=>R.length-p.1) (fun p=>[(9,.int .i64 p.1),(7,.buf 1 0 p.2.length p.2.length)]) (fun p=>[B.cells [.str t.name,.lst 1 f (t.attrs.map V.str),.lst 2 g (R.map aI)],B.buf 30 1 (p.2.map (LR false)) false]) (0,cur) (by rw[←hx];rfl) (by simp) (by simp) (by simp) ?_);rintro⟨j,cur2⟩ hx2 N2 Q2 hN2 hQ2;simp only at hx2;by_cases hjb:j<R.length
    ·rw[step_cons hjb]at hx2;obtain⟨r,hre⟩:∃r,r=R[j]:=⟨_,rfl⟩;rw[←hre]at hx2
     have hcl:cur2.length≤512:=by
      have:=congrArg List.length hx2;simp only[ri]at this;omega
     refine cj ?_;refine W_x (tkf 30) mixed ?_;simp -dsimp[hjb,aM];refine cj ?_;refine mz ?_;refine cj ?_;refine W_x (tkf 30) mixed ?_;simp -dsimp[aM];refine cj ?_;refine W_x (tkf 30) mixed ?_;simp -dsimp[aM];refine aG (W_loopM 58 0x3ffffff80000c00 (by simp[mB]<;>rfl) (σ:=Nat×Bool) (fun q=>(q.2||cT (o.drop q.1) r)=cT o r) (fun q=>o.length-q.1) (fun q=>[(11,.int .i64 q.1),(10,.bool q.2)]) (fun _=>[B.cells [.str t.name,.lst 1 f (t.attrs.map V.str),.lst 2 g (R.map aI)],B.buf 30 1 (cur2.map (LR false)) false]) (0,false) (by simp) (by simp) (by simp) (by simp) ?_);rintro⟨x,b⟩ hu N3 Q3 hN3 hQ3;simp only at hu;by_cases hxb:x<o.length
     ·rw[rP hxb]at hu;obtain⟨y,hye⟩:∃y,y=o[x]:=⟨_,rfl⟩;rw[←hye]at hu;rw[show cT (y::o.drop (x+1)) r=((y.id == r.id)||cT (o.drop (x+1)) r) from rfl,←Bool.or_assoc]at hu
      cases b with
      | true =>
       refine W_x (tkf 30) mixed ?_;simp -dsimp[hib,hpv,hoe.symm,hxb,LR,aM];refine .inr ⟨aC (by kernel_rfl),?_⟩;simp -dsimp[aH x (by omega),aM];refine hN3 (x+1,true) _ _ (by simpa using hu) (by simp only;omega) (by simp) ⟨[],by simp⟩ (by simp[hpv]) (hrb2 _)
      | false =>
       rw[sf]at hu;refine W_x (tkf 30) mixed ?_;simp -dsimp[hib,hpv,hoe.symm,hxb,hye.symm,hjb,hre.symm,aI,LR,LV,aM];refine .inr ⟨aC (by kernel_rfl),?_⟩;simp -dsimp[aH x (by omega),aM];refine hN3 (x+1,y.id == r.id) _ _ hu (by simp only;omega) (by simp) ⟨[],by simp⟩ (by simp[hpv]) (hrb2 _)
     ·rw[rR (show o.length≤x by omega)]at hu;rw[show cT [] r=false from rfl,Bool.or_false]at hu
      cases b with
      | true =>
       rw[if_pos hu.symm,rx]at hx2;refine W_x (tkf 30) mixed ?_;simp -dsimp[hib,hpv,hoe.symm,hxb,LR,aM];refine hQ3 _ _ _ ?_;simp -dsimp[aM];refine cj ?_;refine W_x (tkf 30) mixed ?_;simp -dsimp[aM];refine W_x (tkf 30) mixed ?_;simp -dsimp[aM];refine W_x (tkf 30) mixed ?_;simp -dsimp[aH j (by omega),aM];refine hN2 (j+1,cur2) _ _ hx2 (by simp only;omega) (by simp) ⟨[],by simp⟩ (by simp[hpv]) (hrb2 _)
      | false =>
       rw[if_neg (by rw[←hu];simp)]at hx2;refine W_x (tkf 30) mixed ?_;simp -dsimp[hib,hpv,hoe.symm,hxb,LR,aM];refine hQ3 _ _ _ ?_;simp -dsimp[aM];refine W_x (tkf 30) mixed ?_;simp -dsimp[hpv,aM]
       have hone:¬o=[]:=fun e=>by rw[e]at hoi;simp at hoi;omega
       refine aG (aW tok mixed [6,13,15] [(0,[1,2]),(7,[0]),(8,[0]),(9,[0]),(10,[0]),(11,[0]),(12,[0])] [] (by kernel_rfl) fun C K hC hK=>?_);simp -implicitDefEqProofs [hone,hib,hpv,hoe.symm,hjb,hre.symm,aI,LR,LV,hoi,hk0,show k≤9223372036854775807 by omega,show k*32≤140737488355328 by omega,show k+1≤9223372036854775807 by omega,show(k+1)*32≤140737488355328 by omega,cap24L cur2.length (by omega),ai cur2.length (by omega)];refine hK _ _ ?_;simp -dsimp[aM];refine W_frzB 2 cur2.length (k0:=1) (by decide) rfl rfl (by simp[hoi]) ?_;refine W_x (tkf 30) mixed ?_;simp -dsimp[aH j (by omega),aM];refine hN2 (j+1,cur2++[o++[r]]) _ _ (by rw[←hx2];simp) (by simp only;omega) (by simp[hpv]) ⟨_,by simp[LR,aI,LV];rfl⟩ (by simp[hpv]) (hrb2 _)
    ·rw[rR (show R.length≤j by omega),uI,tt,rx]at hx2;refine W_x (tkf 30) mixed ?_;simp -dsimp[hjb,aM];refine hQ2 _ _ _ ?_;simp -dsimp[aH i (by omega),aM];refine hN1 (i+1,cur2) _ _ (by rw[←hx2,hZ]) (by simp only;omega) (by simp) ⟨[],by simp⟩ (by simp) (hrb2 _)
   ·rw[rR (show os.length≤i by omega),uu,rj]at hx;subst hx;refine cy 1 [7] rfl (by simp) ?_;refine W_x (tkf 30) mixed ?_;simp -dsimp[hib,hpv,aM];refine hQ1 _ _ _ ?_;simp -dsimp[aH k (by omega),aM];refine hN (k+1) _ _ (by omega) (by omega) (by simp[hpk,LRR]) ⟨[B.buf 30 1 (cur.map (LR false)) true],by simp⟩ (by simp[hpk,LRR]) hrb
 ·obtain rfl:k=K:=by omega
  have hpk:pvA R k=LRR (asR R k):=by unfold pvA;rw[if_neg (by omega)]
  refine W_x (tkf 30) mixed ?_;simp -dsimp[hkb,hpk,aM];refine hQ _ _ _ ?_;simp -dsimp[aM];exact .pure _ (LRR_pure _)
theorem error18(t:Tb)(d:Dn)(f g f2:Bool)(h:TbS t)(ha:d.atoms.length≤1000000)(hv:aZ t=0)(ho:dnB t.attrs.length d=true):aL Tryz.prog 209 [aD f g t,aq f2 d] fun r=>r = .int .i64 0:=by
 have c1:=iS t f g h.ok;rw[hv]at c1;have c2:=valid18 t.attrs.length d f2 ha;rw[ho]at c2;have h8:=h.few;simp only[aD,LS,LR,aq,LA]at c1 c2;by_cases h3:d.vars=3
 ·rw[h3]at c2;refine sPx Tryz.func209 rfl rfl ?_;simp -dsimp[Tryz.f209,rO,aD,LS,LR,aq,LA,h3];refine cPx (c1) (by simp) ?_;simp -dsimp[];refine cPx (c2) (by simp) ?_;simp -dsimp[show ¬(200:Int)<t.rows.length by omega]
 ·refine sPx Tryz.func209 rfl rfl ?_;simp -dsimp[Tryz.f209,rO,aD,LS,LR,aq,LA];refine cPx (c1) (by simp) ?_;simp -dsimp[];refine cPx (c2) (by simp) ?_;simp -dsimp[h3]
theorem fold_cons{α β:Type}{f:β→α→β}{l:List α}{i:Nat}{o:β}(h:i<l.length):(l.drop i).foldl f o=(l.drop (i+1)).foldl f (f o l[i]):=by
 rw[rP h,ta]
theorem putR_lens{l:List (List Int)}{x:List Int}(hl:∀e∈l,e.length≤3)(hx:x.length≤3):∀e∈lD l x,e.length≤3:=fun e he=>by
 rcases putR_mem.1 he with h | h
 ·exact hl e h
 ·rw[h];exact hx
theorem viol18(t:Tb)(d:Dn)(f g f2:Bool)(h:TbS t)(hd:DnS d)(ha:d.atoms.length≤1000000)(hv:aZ t=0)(ho:dnB t.attrs.length d=true):aL Tryz.prog 146 [aD f g t,aq f2 d] fun r=>r = .tup [LL false ((asR t.rows d.vars.toNat).foldl (stR d) []),.int .i64 0]:=by
 have ct:=tbC hv;obtain⟨v1,v3⟩:=mi ho;have hat:=at_ok ct h hd ho;have c1:=error18 t d f g f2 h ha hv ho;obtain⟨K,hK⟩:∃K,K=d.vars.toNat:=⟨_,rfl⟩
 have hKv:d.vars=(K:Int):=by omega
 have c2:=assign18 t f g K (by omega) (by omega) h.few
 have has512:(asR t.rows K).length≤512:=by have:=mv t.rows K;have:=pe (k:=K) h.few (by omega);omega
 have hrs:∀rs∈asR t.rows K,rs.length=K∧∀r∈rs,r∈t.rows:=fun rs hrs=>⟨(jF.1 hrs).1,fun r hr=>qP (jF.1 hrs).2 r hr⟩
 rw[←hK]at hat ⊢;obtain⟨az,hase⟩:∃az,az=asR t.rows K:=⟨_,rfl⟩;rw[←hase]at c2 has512 hrs ⊢;obtain⟨E,hE⟩:∃E,E=az.foldl (stR d) []:=⟨_,rfl⟩;rw[←hE]
 have htr:∀n,rbB n (tcB t f g):=fun n=>bS n t f g
 have hdr:∀n,rbB n (dcB d f2):=fun n=>qZ n d f2
 obtain⟨tc,htc⟩:∃tc,tc=tcB t f g:=⟨_,rfl⟩;obtain⟨dc,hdc⟩:∃dc,dc=dcB d f2:=⟨_,rfl⟩;rw[←htc]at htr;rw[←hdc]at hdr
 have htB:B.cells [.str t.name,.lst 1 f (t.attrs.map V.str),.lst 2 g (t.rows.map aI)]=tc:=by rw[htc];rfl
 have hdB:B.cells [.int .i64 K,.lst 11 f2 (d.atoms.map ar)]=dc:=by rw[hdc];unfold dcB;rw[hKv]
 have hrb:∀o:List (List Int),∀bl∈[tc,dc,B.buf 34 1 (o.map (L1 false)) false],rbB 3 bl:=fun o bl hbl=>by
  simp only[rU,rS,or_false]at hbl
  rcases hbl with rfl | rfl | rfl
  ·exact htr _
  ·exact hdr _
  ·exact oH _ _ _
 simp only[aD,LR,LS,aq,LA,LRR]at c1 c2;rw[hKv]at c1;refine sPx Tryz.func146 rfl rfl ?_;simp -dsimp[Tryz.f146,rO,aD,aq,LR,LS,LA,hKv];refine cPx (c1) (by simp) ?_;simp -dsimp[];refine cPx (c2) (by simp) ?_;simp -dsimp[];rw[htB,hdB];refine aG (bf 34 1 [7] (by simp) (W_loopM 39 0x7ffff00280 (by simp[mB]<;>rfl) (σ:=Nat×List (List Int)) (fun p=>p.1≤az.length∧p.2.length≤p.1∧(∀e∈p.2,e.length≤3)∧(az.drop p.1).foldl (stR d) p.2=E) (fun p=>az.length-p.1) (fun p=>[(9,.int .i64 p.1),(7,.buf 2 0 p.2.length p.2.length)]) (fun p=>[tc,dc,B.buf 34 1 (p.2.map (L1 false)) false]) (0,[]) ⟨by simp,by simp,by simp,by rw[hE,rk]⟩ (by simp) (by simp) (by simp) ?_));rintro⟨i,out⟩ ⟨hi,hol,hle,hx⟩ N Q hN hQ;simp only at hi hol hle hx;by_cases hb:i<az.length
 ·rw[fold_cons hb]at hx;obtain⟨q1,q2⟩:=hrs _ (rQ hb);obtain⟨rs,hre⟩:∃rs,rs=az[i]:=⟨_,rfl⟩;rw[←hre]at hx q1 q2;have c3:=all18 d rs f2 false (hat rs q1 q2) (by omega) ha;have c4:=asc18 rs false (by omega);have c5:=put18 tc dc htr hdr out (srt (aa rs)) (by omega) (fun e he=>by have:=hle e he;omega) (by rw[iV,bC];omega)
  have hsl:(srt (aa rs)).length≤3:=by rw[iV,bC];omega
  have hpl:=putR_len out (srt (aa rs));have hps:=putR_lens hle hsl;unfold stR at hx;simp only[aq,LR,LA,L1]at c3 c4 c5;rw[hKv]at c3
  cases hs:my d rs with
  | false =>
   rw[hs]at c3 hx;rw[if_neg (by simp)]at hx;refine wx ?_;simp -dsimp[hb,hre.symm,LR,←hdB];refine .inr ⟨aC (by kernel_rfl),?_⟩;refine aN _ (aK (c3) (by simp)) ?_;simp -dsimp[aH i (by omega)];rw[hdB];refine hN (i+1,out) _ _ ⟨by simp only;omega,by simp only;omega,hle,hx⟩ (by simp only;omega) (by simp) ⟨[],by simp⟩ (by simp) (hrb _)
  | true =>
   rw[hs]at c3 hx;rw[if_pos rfl]at hx;obtain⟨O,hO⟩:∃O,O=lD out (srt (aa rs)):=⟨_,rfl⟩;rw[←hO]at c5 hx hpl hps;obtain⟨S,hS⟩:∃S,S=srt (aa rs):=⟨_,rfl⟩;rw[←hS]at c4 c5;refine wx ?_;simp -dsimp[hb,hre.symm,LR,←hdB];refine .inr ⟨aC (by kernel_rfl),?_⟩;refine aN _ (aK (c3) (by simp)) ?_;simp -dsimp[hb,hre.symm,LR];rw[hdB];refine cPx (c4) (by simp) ?_;simp -dsimp[];refine wcZ c5 ?_;rintro r H' ⟨rfl,rfl⟩;simp -dsimp[aH i (by omega)];refine hN (i+1,O) _ _ ⟨by simp only;omega,by simp only;omega,hps,hx⟩ (by simp only;omega) (by simp) ⟨[],by simp⟩ (by simp) (hrb _)
 ·rw[rR (by omega),List.foldl_nil]at hx;subst hx;refine cy 2 [7] rfl (by simp) ?_;refine wx ?_;simp -dsimp[hb];refine hQ _ _ _ ?_;simp -dsimp[LL]
  skip
end
end Go.Proofs.YtjogkbekekdkjaaGreatDoor
