/- JP18: own texts of this seat, joined and shortened by pack4.py: PL. -/
import Derived.Test.YtjceoiofkccfdaaGreatDoorJP15
import Derived.Test.YtjceoiofkccfdaaGreatDoorJP17
set_option linter.unusedVariables false
set_option linter.unusedSimpArgs false
set_option maxRecDepth 100000
set_option maxHeartbeats 64000000
open Bool renaming and_eq_true→gN,false_and→gV
open ByteArray renaming empty→gI
open List renaming replicate→gG,getElem_mem→gR,length_append→gh,mem_append→iY,getElem_map→ip
namespace Go.Proofs.YtjceoiofkccfdaaGreatDoor
section
open Go Go.AM
theorem chP_mem{id:Int}{tv:List Vl}{now:List Vl}{c:Chg} : ∀{a:Nat},c∈chP id tv a now→∃b,b<a∧c.row.vals=ao tv b now
 | 0,h=>by simp[chP]at h
 | a+1,h=>by
  rw[chP,iY]at h
  rcases h with h | h
  ·obtain⟨b,hb,e⟩:=chP_mem h;exact⟨b,by omega,e⟩
  ·split at h
   ·simp at h
   ·rw[List.mem_singleton]at h;subst h;exact⟨a,by omega,rfl⟩
theorem plan_mem{t u:Tb}(h:aO t=0)(hu:aO u=0)(hat:t.attrs.length=u.attrs.length)(hz:∀r∈t.rows,∀v∈r.vals,v.s.size≤maxLen)(hz2:∀r∈u.rows,∀v∈r.vals,v.s.size≤maxLen){c:Chg}(hc:c∈dw t u):c.row.vals.length≤1000000∧∀v∈c.row.vals,v.s.size≤maxLen:=by
 have hw:=(tbC h).wide;have ht:=valid_row h;have hu2:=valid_row hu;unfold dw at hc;rw[iY,iY]at hc
 rcases hc with hc | hc | hc
 ·obtain⟨r,hr,rfl⟩:=List.mem_map.1 hc;have hr:=(List.mem_filter.1 hr).1;have:=(ht r hr).2.1;exact⟨by simp only;omega,hz r hr⟩
 ·obtain⟨r,hr,hc⟩:=List.mem_flatMap.1 hc;unfold chR at hc;split at hc
  ·rename_i hin;obtain⟨b,hb,e⟩:=chP_mem hc;have h1:=(ht r hr).2.1;have h2:=(atT_of hin).2;have h3:=(hu2 _ h2).2.1;rw[e];exact⟨by rw[dy];omega,nowF_sz (hz2 _ h2) (hz r hr) (by omega)⟩
  ·simp at hc
 ·obtain⟨r,hr,rfl⟩:=List.mem_map.1 hc;have hr:=(List.mem_filter.1 hr).1;have:=(hu2 r hr).2.1;exact⟨by simp only;omega,hz2 r hr⟩
theorem le_chg(nm:ByteArray)(c:Chg):Le (aM nm c) (cP false false (cW nm c)):=.agg _ _ rfl (fun i x y hx hy=>by
 match i with
 | 0=>simp[chC,cW]at hx hy;subst hx;subst hy;exact .refl _
 | 1=>simp[chC,cW]at hx hy;subst hx;subst hy;exact .refl _
 | 2=>simp[chC,cW,tb0]at hx hy;subst hx;subst hy;exact .refl _
 | 3=>simp[chC,cW,tb0]at hx hy;subst hx;subst hy;exact .nil _ _
 | 4=>simp[chC,cW,tb0]at hx hy;subst hx;subst hy;exact .nil _ _
 | 5=>simp[chC,cW]at hx hy;subst hx;subst hy;exact .refl _
 | 6=>simp[chC,cW,LV]at hx hy;subst hx;subst hy;exact .refl _
 | 7=>simp[chC,cW]at hx hy;subst hx;subst hy;exact .refl _
 | 8=>simp[chC,cW]at hx hy;subst hx;subst hy;exact .refl _
 | 9=>simp[chC,cW]at hx hy;subst hx;subst hy;exact .refl _
 | 10=>simp[chC,cW]at hx hy;subst hx;subst hy;exact .refl _
 | n+11=>simp at hx)
theorem sameL(nm:ByteArray)(l:List Chg)(f g:Bool)(hl:l.length≤1000000)(hc:∀c∈l,c.row.vals.length≤1000000∧∀v∈c.row.vals,v.s.size≤maxLen):aJ Tryz.prog 10 [LCh f nm l,LCh g nm l] fun r=>r = .bool true:=by
 have hp:∀x∈l.map (aM nm),AM.Pure x:=fun x hx=>by obtain⟨c,_,rfl⟩:=List.mem_map.1 hx;exact encChg_pure _ _
 have:=same59 (l.map (aM nm)) (l.map (aM nm)) (l.map (cW nm)) (l.map (cW nm)) f g (by simp) (by simp) (by simpa using hl) hp hp (fun i h1 h2 h3 h4=>by
  have hi:i<l.length:=by simpa using h1
  refine⟨⟨_,_,by rw[ip];rfl,by rw[ip];rfl,rfl,rfl⟩,?_⟩;have hk:=hc _ (gR hi);have:=equal59 (cW nm l[i]) (cW nm l[i]) false false false false ⟨by simp[cW,tb0],by simp[cW,tb0],by simp[cW,tb0],hk⟩;rw[ip,ip];refine conP_args this rfl (fun j x y hx hy=>?_)
  match j with
  | 0=>simp at hx hy;subst hx;subst hy;exact le_chg _ _
  | 1=>simp at hx hy;subst hx;subst hy;exact le_chg _ _
  | n+2=>simp at hx)
 rw[eqCs_self]at this;exact this
theorem same_nil:aJ Tryz.prog 10 [.nilS,.nilS] fun r=>r = .bool true:=by
 have:=sameL gI [] false false (by simp) (by simp);refine conP_args this rfl (fun j x y hx hy=>?_)
 match j with
 | 0=>simp[LCh]at hx hy;subst hx;subst hy;exact .nil _ _
 | 1=>simp[LCh]at hx hy;subst hx;subst hy;exact .nil _ _
 | n+2=>simp at hx
theorem few_con(t:Tb)(f g:Bool):aJ Tryz.prog 7 [aS f g t] fun r=>r = .bool (decide (t.rows.length≤8)&&decide (t.attrs.length≤20)):=by
 by_cases h1:t.rows.length≤8
 ·by_cases h2:t.attrs.length≤20
  ·rw[decide_eq_true h1,decide_eq_true h2];refine sPx Tryz.func7 rfl rfl ?_;simp -dsimp[Tryz.f7,gG,aS,LS,LR,show(t.rows.length:Int)≤8 by omega,show(t.attrs.length:Int)≤20 by omega]
  ·rw[decide_eq_true h1,decide_eq_false h2];refine sPx Tryz.func7 rfl rfl ?_;simp -dsimp[Tryz.f7,gG,aS,LS,LR,show(t.rows.length:Int)≤8 by omega,show ¬(t.attrs.length:Int)≤20 by omega]
 ·rw[decide_eq_false h1,gV];refine sPx Tryz.func7 rfl rfl ?_;simp -dsimp[Tryz.f7,gG,aS,LS,LR,show ¬(t.rows.length:Int)≤8 by omega]
theorem lawPlan(t u:Tb)(f g f' g':Bool)(tn:t.name.size≤maxLen)(ta:∀s∈t.attrs,s.size≤maxLen)(hz:∀r∈t.rows,∀v∈r.vals,v.s.size≤maxLen)(un:u.name.size≤maxLen)(ua:∀s∈u.attrs,s.size≤maxLen)(hz2:∀r∈u.rows,∀v∈r.vals,v.s.size≤maxLen):
  aJ Tryz.prog 3 [aS f g t,aS f' g' u] fun r=>r = .bool true:=by
 have f1:=few_con t f g;have f2:=few_con u f' g';simp only[aS,LS,LR]at f1 f2
 cases b1:(decide (t.rows.length≤8)&&decide (t.attrs.length≤20)) with
 | false =>
  rw[b1]at f1;refine sPx Tryz.func3 rfl rfl ?_;simp -dsimp[Tryz.f3,gG,aS,LS,LR];refine cPx (cU) (by simp) ?_;simp -dsimp[];refine cPx (f1) (by simp) ?_;simp -dsimp[];refine cPx (cU) (by simp) ?_;simp -dsimp[]
 | true =>
 rw[b1]at f1
 cases b2:(decide (u.rows.length≤8)&&decide (u.attrs.length≤20)) with
 | false =>
  rw[b2]at f2;refine sPx Tryz.func3 rfl rfl ?_;simp -dsimp[Tryz.f3,gG,aS,LS,LR];refine cPx (cU) (by simp) ?_;simp -dsimp[];refine cPx (f1) (by simp) ?_;simp -dsimp[];refine cPx (f2) (by simp) ?_;simp -dsimp[];refine cPx (cU) (by simp) ?_;simp -dsimp[]
 | true =>
 rw[b2]at f2;rw[gN,decide_eq_true_iff,decide_eq_true_iff]at b1 b2;have A:PlA t u:=⟨⟨tn,by omega,by omega,ta⟩,⟨un,by omega,by omega,ua⟩,b1.1,b2.1⟩;have p1:=plan_u t u f g f' g' A;have p2:=plan_r t u f g f' g' A hz hz2;obtain⟨e,he⟩:∃e,e=ba t u:=⟨_,rfl⟩;rw[←he]at p1 p2
 have hsm:aJ Tryz.prog 10 [co t u,co t u] fun r=>r = .bool true:=by
  by_cases h0:ba t u=0
  ·rw[eS h0]
   have h1:aO t=0:=by
    unfold ba at h0;split at h0
    ·assumption
    ·exact h0
   have h2:aO u=0:=by
    unfold ba at h0;rw[if_pos h1]at h0;split at h0
    ·assumption
    ·exact h0
   have h3:t.attrs.length=u.attrs.length:=by
    unfold ba at h0;rw[if_pos h1,if_pos h2]at h0;split at h0
    ·rename_i h4;rw[gN]at h4;exact gA h4.2
    ·cases h0
   refine sameL _ _ _ _ ?_ (fun c hc=>plan_mem h1 h2 h3 hz hz2 hc);have q1:=gC u t.rows;have q2:=fK u t.attrs.length t.rows;have q3:=fh t u.rows;have q4:t.rows.length*t.attrs.length≤8*20:=Nat.mul_le_mul b1.1 b1.2;unfold dw;simp only[gh];omega
  ·rw[bV h0];exact same_nil
 obtain⟨v,hv,hp⟩:∃v,v=co t u∧AM.Pure v∧v.one=true:=⟨_,rfl,by unfold co;split<;>simp,by unfold co;split<;>rfl⟩;rw[←hv]at p1 p2 hsm;simp only[aS,LS,LR]at p1 p2
 have hpl:∃f l,v = .nilS∨v = .lst 11 f l:=by
  rw[hv];unfold co;split
  ·exact⟨_,_,.inr rfl⟩
  ·exact⟨false,[],.inl rfl⟩
 clear he hv;refine sPx Tryz.func3 rfl rfl ?_;simp -dsimp[Tryz.f3,gG,aS,LS,LR];refine cPx (cU) (by simp) ?_;simp -dsimp[];refine cPx (f1) (by simp) ?_;simp -dsimp[];refine cPx (f2) (by simp) ?_;simp -dsimp[];refine cPx (p1) (by simp) ?_;simp -dsimp[];refine cPx (p2) (by simp) ?_;simp -dsimp[];refine cPx hsm (by simp[hp.1]) ?_;simp -dsimp[]
end
end Go.Proofs.YtjceoiofkccfdaaGreatDoor
