/- JM44: own texts of this seat, joined and shortened by pack4.py: SM0. -/
import Derived.Test.YtjogkbekekdkjaaGreatDoorJM43
set_option linter.unusedVariables false
set_option linter.unusedSimpArgs false
set_option maxRecDepth 100000
set_option maxHeartbeats 64000000
open Bool renaming and_eq_true→pC
open List renaming getElem_mem→ow,length_append→pK,mem_singleton→pe,length_set→qK,length_eraseIdx_of_lt→qT,mem_or_eq_of_mem_set→qY,getD→qZ
namespace Go.Proofs.YtjogkbekekdkjaaGreatDoor
section
open Go Go.AM
theorem opt_at{t:Tb}{cs:List Cn}{w:List Int}(hb:BdOk t cs)(hp:prE t cs w=0)(hw:w.length≤1000000):∃D N,(∀f g fc fw:Bool,aE Tryz.prog 18 [aF f g t,LCn fc cs,L1 fw w,.int .i64 10000] fun r=>r = .tup [oI false false D (ij t cs w) N,.int .i64 0])∧0≤ij t cs w∧ij t cs w≤8000000:=by
 have O:=opt_ok hb hp
 have he:opE t cs w 10000=0:=by unfold opE;rw[if_pos hp,if_neg (by decide)]
 refine⟨np t cs w,nn t cs w,fun f g fc fw=>?_,by rw[←O.wt];exact O.rng.1,by rw[←O.wt];exact O.rng.2⟩;have co:=optimal_s t cs w 10000 f g fc fw hb hw (.inr rfl);rw[he,show opV t cs w 10000=oI false false (np t cs w) (lC t cs w) (nn t cs w) from by unfold opV;rw[if_pos he],O.wt]at co;exact co
theorem more_ok{t:Tb}{cs:List Cn}{w:List Int}(R:CaseR t cs w){c:Cn}(h1:CnB c)(h2:eg t c=0):BdOk t (cs++[c])∧prE t (cs++[c]) w=0:=by
 have hb:BdOk t (cs++[c]):=⟨R.b.ok,R.b.small,R.b.rows,by rw[pK,List.length_singleton];have:=R.l4;omega,fun d hd=>by
  rcases List.mem_append.1 hd with hd | hd
  ·exact R.b.cns d hd
  ·rw[pe]at hd;subst hd;exact h1⟩
 refine⟨hb,nE hb ?_ R.wl fun v hv=>by have:=R.wr v hv;omega⟩;obtain⟨z1,z2,z3⟩:=hU R.z;unfold db;rw[if_pos z1,if_neg (by omega)]
 refine kg fun d hd=>?_
 rcases List.mem_append.1 hd with hd | hd
 ·exact R.e d hd
 ·rw[pe]at hd;subst hd;exact h2
theorem ofT_wide{x:Rcp}{rs:List Rul}{ws:List Int}(h:C4Ok x rs ws):(ofT x).attrs.length≤16:=by
 unfold ofT;split
 ·rename_i h6;exact(tbC (nC ⟨h.a,h.gap,h6,h.len⟩).2).wide
 ·simp
structure MonoF (t:Tb) (cs:List Cn) (w:List Int) (c:Cn):Prop where
 b2:BdOk t (cs++[c])
 p2:prE t (cs++[c]) w=0
 le:ij t cs w≤ij t (cs++[c]) w
theorem mono_f{x:Rcp}{rs:List Rul}{ws:List Int}(h:C4Ok x rs ws)(hb:mS x rs=true){r:Rul}(hr:RulOk r)(hk:cR r=true):MonoF (ofT x) (ofL4 x rs) (wOf (ofT x).rows.length ws) (iS (ofT x).attrs.length r):=by
 have R:=case_ok h hb
 have hn:(ofT x).name=strR:=by
  unfold mS at hb;rw[pC,pC,decide_eq_true_iff]at hb;unfold ofT;rw[if_pos hb.1.1];exact tbOf_name x
 obtain⟨h1,h2⟩:=more_ok R (cnB_of (ofT_wide h) hr hk) (cnOf_ok hn hr hk);exact⟨h1,h2,lst_more R.b h1 R.p h2⟩
structure MonoI (t:Tb) (cs:List Cn) (w:List Int) (i:Nat):Prop where
 b3:BdOk (kT ((dl t.rows).eraseIdx i) t) cs
 p3:prE (kT ((dl t.rows).eraseIdx i) t) cs ((inW t w).eraseIdx i)=0
 p4:prE t cs ((inW t w).set i ((inW t w).getD i 0+5))=0
 le1:ij (kT ((dl t.rows).eraseIdx i) t) cs ((inW t w).eraseIdx i)≤ij t cs w
 le2:ij t cs w≤ij (kT ((dl t.rows).eraseIdx i) t) cs ((inW t w).eraseIdx i)+(inW t w).getD i 0
 le3:ij t cs w≤ij t cs ((inW t w).set i ((inW t w).getD i 0+5))
 rg:1≤(inW t w).getD i 0∧(inW t w).getD i 0≤20
theorem mono_i{t:Tb}{cs:List Cn}{w:List Int}(R:CaseR t cs w){i:Nat}(hi:i<t.rows.length):MonoI t cs w i:=by
 have hl:=iA R.wl
 have hr:∀x∈inW t w,1≤x∧x≤20:=fun x hx=>by
  unfold inW at hx;split at hx
  ·obtain⟨_,rfl⟩:=List.mem_replicate.1 hx;omega
  ·exact R.wr x hx
 obtain⟨b3,z3⟩:=bd_kT (K:=(dl t.rows).eraseIdx i) R.b R.s R.z;obtain⟨_,hh,_⟩:=hY R.b R.z
 have hids:dl (kT ((dl t.rows).eraseIdx i) t).rows=(dl t.rows).eraseIdx i:=by
  rw[kT_ids,kH (List.eraseIdx_sublist _ _) hh.va]
 have hkl:(kT ((dl t.rows).eraseIdx i) t).rows.length=t.rows.length-1:=by
  rw[←gv,hids,qT (by rw[gv];exact hi),gv]
 have hg:(inW t w).getD i 0=(inW t w)[i]'(by omega):=by simp[qZ,show i<(inW t w).length by omega]
 have p3:prE (kT ((dl t.rows).eraseIdx i) t) cs ((inW t w).eraseIdx i)=0:=nE b3 z3 (.inr (by rw[hkl,qT (by omega),hl])) fun v hv=>by have:=hr v (List.mem_of_mem_eraseIdx hv);omega
 have hri:=hr _ (ow (show i<(inW t w).length by omega))
 have p4:prE t cs ((inW t w).set i ((inW t w).getD i 0+5))=0:=nE R.b R.z (.inr (by rw[qK,hl])) fun v hv=>by
  rcases qY hv with hv | rfl
  ·have:=hr v hv;omega
  ·rw[hg];omega
 obtain⟨l1,l2⟩:=lst_less R.b R.p (show i<(inW t w).length by omega) b3 p3;have p4':=p4;rw[hg]at p4';have l3:=lst_heavy R.b R.p (show i<(inW t w).length by omega) p4';exact⟨b3,p3,p4,l1,by rw[hg];exact l2,by rw[hg];exact l3,by rw[hg];exact hri⟩
end
end Go.Proofs.YtjogkbekekdkjaaGreatDoor
