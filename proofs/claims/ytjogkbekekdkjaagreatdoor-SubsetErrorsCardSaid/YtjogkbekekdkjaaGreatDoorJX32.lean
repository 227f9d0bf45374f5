/- JX32: own texts of this seat, joined and shortened by pack4.py: H20, H22, H23, H21, H24, H25, H12. -/
import Derived.Test.YtjogkbekekdkjaaGreatDoorJX28
import Derived.Test.YtjogkbekekdkjaaGreatDoorJX31
set_option linter.unusedVariables false
set_option linter.unusedSimpArgs false
set_option maxRecDepth 100000
set_option maxHeartbeats 64000000
open Bool renaming false_and→rZ,true_and→re,eq_iff_iff→sb
open List renaming replicate→rO,drop_eq_getElem_cons→rP,getElem_mem→rQ,drop_of_length_le→rR,not_mem_nil→rS,mem_cons→rU,take_succ_eq_append_getElem→rV,getElem?_append_left→rg,range→rh,length_append→ri,append_nil→rj,drop_zero→rk,getElem?_append_right→rq,take_of_length_le→rt,nil_append→rx,length_filter_le→rz,length_cons→sB,mem_singleton→sC,mem_of_mem_take→sD,mem_cons_self→sE,mem_cons_of_mem→sG,take_length→sJ,cons_append→sP,set_append_right→sS,length_set→se,range_succ→si,getElem?_cons_zero→sj,getElem?_cons_succ→sk,mem_append→sx,getElem?_replicate→tE,map_cons→tF,take_append_drop→tG,getD→tO,length_take→tR,filter_append→tW,mem_filter→tX,foldl_cons→ta,length_nil→td,mem_append_right→tf,map_take→tj,take_zero→tq,map_nil→tt,mem_range→uD,filter_nil→uI,mem_append_left→uT,filter_cons→uW,length_range→uj,ext_getElem→uw,map_map→vE,nodup_range→vJ
open Nat renaming le_refl→rd,add_comm→vR
namespace Go.Proofs.YtjogkbekekdkjaaGreatDoor
section
open Go Go.AM
section
def pK{α:Type}(L:Nat→α)(v:Nat)(l:α):Nat→α:=fun u=>if u=v then l else L u
def atR(n:Nat)(Lh:Nat→Nat):List V:=(rh n).map fun v=>.buf (v+4) 0 (Lh v) (Lh v)
def GH(C0:B)(E n:Nat)(rem:List Int)(Lh:Nat→Nat)(L:Nat→List Nat)(tl:List B):List B :=
 C0::.buf 3 1 (inL rem) false::.cells [.buf 1 0 E E]::.buf 50 1 (atR n Lh) false::((rh n).map (fun v=>.buf 3 1 (nuL (L v)) false)++tl)
section
variable {C0:B} {E n:Nat} {rem:List Int} {Lh:Nat→Nat} {L:Nat→List Nat} {tl:List B}
theorem GH_0:(GH C0 E n rem Lh L tl)[0]?=some C0:=rfl
theorem GH_1:(GH C0 E n rem Lh L tl)[1]?=some (.buf 3 1 (inL rem) false):=rfl
theorem GH_2:(GH C0 E n rem Lh L tl)[2]?=some (.cells [.buf 1 0 E E]):=rfl
theorem GH_3:(GH C0 E n rem Lh L tl)[3]?=some (.buf 50 1 (atR n Lh) false):=rfl
theorem GH_v{v:Nat}(h:v<n):(GH C0 E n rem Lh L tl)[v+4]?=some (.buf 3 1 (nuL (L v)) false):=by
 show((rh n).map (fun v=>B.buf 3 1 (nuL (L v)) false)++tl)[v]?=_;rw[rg (by simpa using h)];simp[h]
theorem GH_tl(i:Nat):(GH C0 E n rem Lh L tl)[n+4+i]?=tl[i]?:=by
 rw[show n+4+i=n+i+4 by omega];show((rh n).map (fun v=>B.buf 3 1 (nuL (L v)) false)++tl)[n+i]?=_;rw[rq (by simp)];simp
theorem eU:(GH C0 E n rem Lh L tl).length=n+4+tl.length:=by
 simp[GH];omega
theorem GH_set1(rem':List Int):(GH C0 E n rem Lh L tl).set 1 (.buf 3 1 (inL rem') false)=GH C0 E n rem' Lh L tl:=rfl
theorem GH_set3(Lh':Nat→Nat):(GH C0 E n rem Lh L tl).set 3 (.buf 50 1 (atR n Lh') false)=GH C0 E n rem Lh' L tl:=rfl
theorem kI{α:Type}(n v:Nat)(F F':Nat→α)(y:α)(h1:F' v=y)(h2:∀u,u≠v→F' u=F u):((rh n).map F).set v y=(rh n).map F':=by
 refine uw (by simp) (fun i hi1 hi2=>?_);rw[List.getElem_set];split
 ·rename_i he;subst he;simp[h1]
 ·rename_i he;simp[h2 i (fun h=>he h.symm)]
theorem GH_setv{v:Nat}(h:v<n)(l:List Nat):(GH C0 E n rem Lh L tl).set (v+4) (.buf 3 1 (nuL l) false)=GH C0 E n rem Lh (pK L v l) tl:=by
 show C0::_::_::_::(((rh n).map (fun v=>B.buf 3 1 (nuL (L v)) false)++tl).set v (.buf 3 1 (nuL l) false))=_;rw[List.set_append_left _ _ (by simpa using h),kI n v _ (fun u=>B.buf 3 1 (nuL (pK L v l u)) false) _ (by simp[pK]) (fun u hu=>by simp[pK,hu])];rfl
theorem atR_len:(atR n Lh).length=n:=by simp[atR]
theorem atR_get{v:Nat}(h:v<(atR n Lh).length):(atR n Lh)[v] = .buf (v+4) 0 (Lh v) (Lh v):=by simp[atR]
theorem atR_set(v m:Nat):(atR n Lh).set v (.buf (v+4) 0 m m)=atR n (pK Lh v m):=by
 unfold atR;exact kI n v _ _ _ (by simp[pK]) (fun u hu=>by simp[pK,hu])
theorem GH_rb(h0:rbB 1 C0)(ht:∀bl∈tl,rbB (n+4+tl.length) bl):∀bl∈GH C0 E n rem Lh L tl,rbB (GH C0 E n rem Lh L tl).length bl:=by
 rw[eU];intro bl hb;unfold GH at hb
 rcases List.mem_cons.1 hb with rfl | hb
 ·exact rbBM (by omega) h0
 rcases List.mem_cons.1 hb with rfl | hb
 ·exact(rbB_buf1 (iG _)).2 trivial
 rcases List.mem_cons.1 hb with rfl | hb
 ·intro c hc;simp at hc;subst hc;show 1<_;omega
 rcases List.mem_cons.1 hb with rfl | hb
 ·intro x hx c hc;obtain⟨v,hv,rfl⟩:=List.mem_map.1 hx;rw[uD]at hv;simp[V.cells]at hc;subst hc;show v+4<_;omega
 rcases List.mem_append.1 hb with hb | hb
 ·obtain⟨v,_,rfl⟩:=List.mem_map.1 hb;exact(rbB_buf1 (eL _)).2 trivial
 ·exact ht bl hb
end
def LE(es:List (List Nat))(i k v:Nat):List Nat:=(rh i).filter (fun j=>decide (v∈es.getD j []))++if v∈(es.getD i []).take k then [i] else []
theorem LE_succ{es:List (List Nat)}{i k:Nat}(hk:k<(es.getD i []).length)(hn:(es.getD i []).Nodup):LE es i (k+1)=pK (LE es i k) (es.getD i [])[k] (LE es i k (es.getD i [])[k]++[i]):=by
 funext u;unfold pK LE;rw[rV hk];by_cases h:u=(es.getD i [])[k]
 ·rw[if_pos h,if_pos (by rw[h];exact tf _ (List.mem_singleton.2 rfl)),h]
  have:¬(es.getD i [])[k]∈(es.getD i []).take k:=by
   intro hm;obtain⟨j,hj,he⟩:=List.mem_iff_getElem.1 hm;rw[List.getElem_take]at he
   have hjk:j<k:=by rw[tR]at hj;omega
   exact List.pairwise_iff_getElem.1 hn j k (by omega) hk hjk he
  rw[if_neg this,rj]
 ·rw[if_neg h]
  have:(u∈(es.getD i []).take k++[(es.getD i [])[k]])↔u∈(es.getD i []).take k:=by
   rw[sx,sC];exact⟨fun h2=>h2.elim id (fun e=>absurd e h),.inl⟩
  simp only[this]
theorem LE_next(es:List (List Nat))(i:Nat):LE es (i+1) 0=LE es i (es.getD i []).length:=by
 funext u;unfold LE;rw[si,tW,tq,if_neg (by simp),rj,sJ];congr 1;rw[uW,uI];by_cases h:u∈es.getD i []
 ·rw[if_pos (decide_eq_true h),if_pos h]
 ·rw[if_neg (by simpa using h),if_neg h]
theorem LE_len(es:List (List Nat))(i k v:Nat):(LE es i k v).length≤i+1:=by
 unfold LE;have:=rz (fun j=>decide (v∈es.getD j [])) (rh i);rw[ri];split<;>simp at this ⊢<;>omega
theorem LE_mem(es:List (List Nat))(j v:Nat):j∈LE es es.length 0 v↔j<es.length∧v∈es.getD j []:=by
 unfold LE;rw[tq,if_neg (by simp),rj,tX,uD,decide_eq_true_iff]
def eZ(es:List (List Nat))(i:Nat):List Int:=(rh es.length).map fun j=>if j<i then((es.getD j []).length:Int) else 0
theorem lr(es:List (List Nat))(i:Nat):(eZ es i).length=es.length:=by simp[eZ]
theorem remF_set{es:List (List Nat)}{i:Nat} : (eZ es i).set i ((es.getD i []).length:Int)=eZ es (i+1):=by
 unfold eZ;refine kI _ i _ _ _ (by simp) (fun u hu=>?_)
 have:u<i+1↔u<i:=by omega
 simp only[this]
theorem remF_get{es:List (List Nat)}{j:Nat}(h:j<es.length):(eZ es es.length).getD j 0=((es.getD j []).length:Int):=by
 rw[am _ _ (by rw[lr];exact h)];simp[eZ,h]
end
section
theorem idxFuncB(H:List B)(k:Nat)(fv:V)(p:Nat→Bool)(e:List Nat)(m:Nat)(hm:m=e.length)(hk:H[k]?=some (.buf 3 1 (nuL e) false))(hes:e.length≤1000000)(hH:∀bl∈H,rbB H.length bl)(hfv:rb H.length fv)
  (hp:∀v∈e,aQ Tryz.prog fv [.int .i64 (v:Int)] H fun r H'=>r = .bool (p v)∧H'=H):av Tryz.prog 156 [.buf k 0 m m,fv] H fun r H'=>r = .int .i64 (ixN p e 0)∧H'=H:=by
 subst hm;have hkl:k<H.length:=aB hk;have hnl:=bE e;refine aF tok Tryz.func156 rfl rfl ?_;refine wx ?_;simp -dsimp[Tryz.f156,rO,hk,hnl];refine aG (W_loopM 19 0x7ff30 (by simp[mB]<;>rfl) (σ:=Nat) (fun i=>ixN p e i=ixN p e 0) (fun i=>e.length-i) (fun i=>[(8,.int .i64 i)]) (fun _=>H) 0 rfl (by simp) rfl (by simp) ?_);intro i hx N Q hN hQ;by_cases hb:i<e.length
 ·rw[ixN,dif_pos hb]at hx;have hc:=hp e[i] (rQ hb)
  have hat:=fun h=>bR (m:=e) (x:=i) h
  rw[am e 0 hb]at hat;obtain⟨v,hv⟩:∃v,v=e[i]:=⟨_,rfl⟩;rw[←hv]at hat hc hx;cases hq:p v
  ·rw[hq]at hc hx;refine wx ?_;simp -dsimp[hb,hk,hnl,hat];refine hc.mono ?_;rintro r H' ⟨rfl,rfl⟩;simp -dsimp[aH i (by omega)];refine hN (i+1) _ _ (by simpa using hx) (by omega) (by simp) ⟨[],by simp⟩ (by simp[hkl];exact hfv) hH
  ·rw[hq]at hc hx;refine wx ?_;simp -dsimp[hb,hk,hnl,hat];refine hc.mono ?_;rintro r H' ⟨rfl,rfl⟩;simp -dsimp[];refine hQ _ _ _ ?_;simp -dsimp[];simpa using hx
 ·rw[ixN,dif_neg hb]at hx;refine wx ?_;simp -dsimp[hb];refine hQ _ _ _ ?_;simp -dsimp[];simpa using hx
theorem contFuncB(H:List B)(k:Nat)(fv:V)(p:Nat→Bool)(e:List Nat)(m:Nat)(hm:m=e.length)(hk:H[k]?=some (.buf 3 1 (nuL e) false))(hes:e.length≤1000000)(hH:∀bl∈H,rbB H.length bl)(hfv:rb H.length fv)
  (hp:∀v∈e,aQ Tryz.prog fv [.int .i64 (v:Int)] H fun r H'=>r = .bool (p v)∧H'=H):av Tryz.prog 100 [.buf k 0 m m,fv] H fun r H'=>r = .bool (e.any p)∧H'=H:=by
 have h0:=ixN_any p e 0;rw[rk]at h0;have hc:=idxFuncB H k fv p e m hm hk hes hH hfv hp;refine aF tok Tryz.func100 rfl rfl ?_;refine wx ?_;simp -dsimp[Tryz.f100,rO];refine(show aQ Tryz.prog (.fn 156 []) _ H _ from by simpa[aQ] using hc).mono ?_;rintro r H' ⟨rfl,rfl⟩;simp -dsimp[];rw[←h0]
section
variable {C0:B} {E n:Nat} {rem:List Int} {Lh:Nat→Nat} {L:Nat→List Nat} {tl:List B}
theorem GH_app(X:B):GH C0 E n rem Lh L tl++[X]=GH C0 E n rem Lh L (tl++[X]):=by simp[GH]
theorem GH_SL(X:B)(l:List Nat):SL (GH C0 E n rem Lh L (X::tl)) (n+4) l=GH C0 E n rem Lh L (.buf 3 1 (nuL l) false::tl):=by
 show C0::_::_::_::(((rh n).map (fun v=>B.buf 3 1 (nuL (L v)) false)++X::tl).set n (.buf 3 1 (nuL l) false))=_;rw[sS _ _ (by simp)];simp[GH]
theorem GH_SL2(X Y:B)(l:List Nat):SL (GH C0 E n rem Lh L (X::Y::tl)) (n+5) l=GH C0 E n rem Lh L (X::.buf 3 1 (nuL l) false::tl):=by
 show C0::_::_::_::(((rh n).map (fun v=>B.buf 3 1 (nuL (L v)) false)++X::Y::tl).set (n+1) (.buf 3 1 (nuL l) false))=_;rw[sS _ _ (by simp)];simp[GH]
end
def kj(n i:Nat):List Nat:=(rh n).map fun j=>if j<i then j else 0
theorem ordF_len(n i:Nat):(kj n i).length=n:=by simp[kj]
theorem ordF_set(n i:Nat):(kj n i).set i i=kj n (i+1):=by
 unfold kj;refine kI _ i _ _ _ (by simp) (fun u hu=>?_)
 have:u<i+1↔u<i:=by omega
 simp only[this]
theorem ordF_all(n:Nat):kj n n=rh n:=by
 unfold kj;refine uw (by simp) (fun i h1 h2=>?_);simp at h1;simp[h1]
theorem ordF_zero(n:Nat):rO n (V.int .i64 0)=nuL (kj n 0):=by
 unfold nuL kj;refine uw (by simp) (fun i h1 h2=>by simp[eN])
end
def kep(ord out:List Nat)(p v:Nat):Bool:=decide (v∈out∨v∈ord.drop p)
structure GI (es:List (List Nat)) (ord:List Nat) (p:Nat) (rem:List Int) (out:List Nat):Prop where
 len:rem.length=es.length
 cnt:∀j<es.length,rem.getD j 0=((es.getD j []).countP (kep ord out p):Nat)
 pos:∀j<es.length,1≤rem.getD j 0
 sub:∀v∈out,v∈ord.take p
 nd:out.Nodup
theorem mI{ord:List Nat}(hn:ord.Nodup){p:Nat}(hp:p<ord.length):ord[p]∉ord.take p∧ord[p]∉ord.drop (p+1):=by
 have h:ord=ord.take p++ord[p]::ord.drop (p+1):=by rw[←rP hp,tG]
 have hn2:=hn;rw[h,List.nodup_append]at hn2;obtain⟨_,h2,h3⟩:=hn2;exact⟨fun hm=>h3 _ hm _ (sE) rfl,(List.nodup_cons.1 h2).1⟩
theorem GI.keep{es:List (List Nat)}{ord:List Nat}{p:Nat}{rem:List Int}{out:List Nat}(g:GI es ord p rem out)(hn:ord.Nodup)(hp:p<ord.length):GI es ord (p+1) rem (out++[ord[p]]):=by
 have hk:kep ord (out++[ord[p]]) (p+1)=kep ord out p:=by
  funext v;unfold kep;rw[rP hp];simp only[sx,rU,rS,or_false,or_assoc]
 have ho:ord[p]∉out:=fun h=>(mI hn hp).1 (g.sub _ h)
 refine⟨g.len,fun j hj=>by rw[hk];exact g.cnt j hj,g.pos,fun v hv=>?_,?_⟩
 ·rw[rV hp]
  rcases List.mem_append.1 hv with h | h
  ·exact uT _ (g.sub v h)
  ·exact tf _ h
 ·rw[List.nodup_append];refine⟨g.nd,by simp,fun a ha b hb=>?_⟩;rw[sC]at hb;subst hb;rintro rfl;exact ho ha
theorem ml{P Q:Nat→Bool}{v:Nat}(hq:Q v=false)(hpv:P v=true)(h:∀u,u≠v→P u=Q u):∀e:List Nat,e.Nodup→e.countP P=e.countP Q+if v∈e then 1 else 0
 | [],_=>by simp
 | u::e,hn=>by
  obtain⟨h1,h2⟩:=List.nodup_cons.1 hn;rw[List.countP_cons,List.countP_cons,ml hq hpv h e h2];by_cases hu:u=v
  ·subst hu;rw[if_neg h1,if_pos hpv,hq,if_pos sE,if_neg (by simp)]
  ·rw[h u hu]
   have:(v∈u::e)↔v∈e:=by
    rw[rU];exact⟨fun h=>h.elim (fun e=>absurd e.symm hu) id,.inr⟩
   simp only[this];omega
theorem GI.out{es:List (List Nat)}{ord:List Nat}{p:Nat}{rem rem':List Int}{out:List Nat}{L:List Nat}(g:GI es ord p rem out)(hn:ord.Nodup)(hp:p<ord.length)(hE:∀e∈es,e.Nodup)(hL:∀j,j∈L↔j<es.length∧ord[p]∈es.getD j [])
  (h1:∀j∈L,rem.getD j 0≠1) (hl:rem'.length=es.length) (hr:∀j<es.length,rem'.getD j 0=rem.getD j 0-if j∈L then 1 else 0):GI es ord (p+1) rem' out:=by
 obtain⟨n1,n2⟩:=mI hn hp
 have ho:ord[p]∉out:=fun h=>n1 (g.sub _ h)
 refine⟨hl,fun j hj=>?_,fun j hj=>?_,fun v hv=>?_,g.nd⟩
 ·have hs:=ml (P:=kep ord out p) (Q:=kep ord out (p+1)) (v:=ord[p]) (by unfold kep;exact decide_eq_false (by rintro(h | h);exact ho h;exact n2 h)) (by unfold kep;rw[rP hp];exact decide_eq_true (.inr sE)) (fun u hu=>by
   unfold kep;rw[rP hp]
   have:(u∈out∨u∈ord[p]::ord.drop (p+1))↔(u∈out∨u∈ord.drop (p+1)):=by
    rw[rU];exact⟨fun h=>h.elim .inl (fun h=>h.elim (fun e=>absurd e hu) .inr),fun h=>h.elim .inl (fun h=>.inr (.inr h))⟩
   simp only[this]) (es.getD j []) (hE _ (ee hj))
  rw[hr j hj,g.cnt j hj,hs];by_cases hm:j∈L
  ·rw[if_pos hm,if_pos ((hL j).1 hm).2];omega
  ·rw[if_neg hm,if_neg (fun h=>hm ((hL j).2 ⟨hj,h⟩))];omega
 ·rw[hr j hj];have h2:=g.pos j hj;split
  ·have:=h1 j (by assumption);omega
  ·omega
 ·rw[rV hp];exact uT _ (g.sub v hv)
theorem GI.hits{es:List (List Nat)}{ord:List Nat}{p:Nat}{rem:List Int}{out:List Nat}(g:GI es ord p rem out)(hp:ord.length≤p):∀e∈es,∃v∈e,v∈out:=by
 intro e he;obtain⟨j,hj,rfl⟩:=List.mem_iff_getElem.1 he;have h1:=g.cnt j hj;have h2:=g.pos j hj;rw[am es [] hj]at h1
 have h3:0<(es[j]).countP (kep ord out p):=by omega
 obtain⟨v,hv,hk⟩:=List.countP_pos_iff.1 h3;refine⟨v,hv,?_⟩;unfold kep at hk;rw[rR hp]at hk;simpa using hk
theorem GI.start{es:List (List Nat)}{n:Nat}{ord:List Nat}{rem:List Int}(he:gK n es)(hp:ord.Perm (rh n))(hl:rem.length=es.length)(hr:∀j<es.length,rem.getD j 0=((es.getD j []).length:Int)):GI es ord 0 rem []:=by
 refine⟨hl,fun j hj=>?_,fun j hj=>?_,by simp,by simp⟩
 ·rw[hr j hj]
  have:(es.getD j []).countP (kep ord [] 0)=(es.getD j []).length:=by
   rw[List.countP_eq_length];intro v hv;unfold kep;exact decide_eq_true (.inr (by rw[rk];exact hp.mem_iff.2 (List.mem_range.2 ((he _ (ee hj)).2.2 v hv))))
  rw[this]
 ·rw[hr j hj];have:=(he _ (ee hj)).1;have:0<(es.getD j []).length:=List.length_pos_iff.2 this;omega
theorem sort_ok{n:Nat}{es:List (List Nat)}{ord:List Nat}{p:Nat}{rem:List Int}{out:List Nat}(g:GI es ord p rem out)(hp:ord.length≤p)(ho:∀v∈ord,v<n):(isF ltN (out.length-1) 1 out).Pairwise (· < ·)∧(∀v∈isF ltN (out.length-1) 1 out,v<n)∧∀e∈es,∃v∈e,v∈isF ltN (out.length-1) 1 out:=by
 have hpm:(isF ltN (out.length-1) 1 out).Perm out:=by
  by_cases h0:out.length=0
  ·rw[h0];exact .refl _
  ·exact jg _ _ _ _ (by omega)
 have hso:(isF ltN (out.length-1) 1 out).Pairwise (·≤·):=by
  by_cases h0:out.length=0
  ·have:out=[]:=List.length_eq_zero_iff.1 h0;subst this;simp[isF]
  ·refine qA _ _ _ (by omega) ?_
   cases out with
   | nil=>simp at h0
   | cons a l=>simp
 have hnd:=hpm.nodup_iff.2 g.nd;refine⟨?_,fun v hv=>ho v (sD (g.sub v (hpm.mem_iff.1 hv))),fun e he=>?_⟩
 ·exact(hso.and hnd).imp (fun h=>by omega)
 ·obtain⟨v,h1,h2⟩:=g.hits hp e he;exact⟨v,h1,hpm.mem_iff.2 h2⟩
structure GrOk (n:Nat) (es:List (List Nat)) (l:List Nat):Prop where
 s:l.Pairwise (· < ·)
 n:∀v∈l,v<n
 h:∀e∈es,∃v∈e,v∈l
def qY(rm:List Int)(j:Nat):List Int:=rm.set j (rm.getD j 0-1)
def grF(L:Nat→List Nat):List Nat→List Int→List Nat→List Nat
 | [],_,out=>out
 | v::l,rem,out=>if(L v).any (fun j=>decide (rem.getD j 0=1))=true then grF L l rem (out++[v]) else grF L l ((L v).foldl qY rem) out
def qH(ws:List Int)(n:Nat):List Nat:=isF (oJ fun a b=>ws.getD b 0-ws.getD a 0) (n-1) 1 (rh n)
noncomputable def mU(ws:List Int)(es:List (List Nat)):List Nat:=grF (LE es es.length 0) (qH ws ws.length) (eZ es es.length) []
noncomputable def cL(ws:List Int)(es:List (List Nat)):List Nat:=isF ltN ((mU ws es).length-1) 1 (mU ws es)
theorem dec_len:∀(l:List Nat) (rm:List Int),(l.foldl qY rm).length=rm.length
 | [],rm=>rfl
 | j::l,rm=>by rw[ta,dec_len l];simp[qY]
theorem dec_get:∀(l:List Nat) (rm:List Int),l.Nodup→(∀j∈l,j<rm.length)→∀i,(l.foldl qY rm).getD i 0=rm.getD i 0-if i∈l then 1 else 0
 | [],rm,_,_,i=>by simp
 | j::l,rm,hn,hl,i=>by
  rw[List.nodup_cons]at hn;have hj:=hl j (by simp);rw[ta,dec_get l _ hn.2 (fun k hk=>by simp only[qY,se];exact hl k (by simp[hk])) i];by_cases hij:j=i
  ·subst hij;rw[if_neg hn.1,if_pos (by simp)];unfold qY;rw[aU _ hj];omega
  ·unfold qY;rw[aY _ hij]
   have:(i∈j::l)↔i∈l:=by rw[rU];exact⟨fun h=>h.elim (fun e=>absurd e.symm hij) id,.inr⟩
   simp only[this]
theorem grF_gi{es:List (List Nat)}{ord:List Nat}{n:Nat}{L:Nat→List Nat}(hol:ord.length=n)(hon:ord.Nodup)(hdnd:∀e∈es,e.Nodup)(hLm:∀v j,j∈L v↔j<es.length∧v∈es.getD j [])(hLn:∀v,(L v).Nodup):
  ∀(k p:Nat) (rem:List Int) (out:List Nat),p+k=n→GI es ord p rem out→out.length≤p→∃rem',GI es ord n rem' (grF L (ord.drop p) rem out)∧(grF L (ord.drop p) rem out).length≤n
 | 0,p,rem,out,hk,gi,ho=>by
  obtain rfl:p=n:=by omega
  rw[rR (by omega)];exact⟨rem,gi,ho⟩
 | k+1,p,rem,out,hk,gi,ho=>by
  have hpo:p<ord.length:=by omega
  rw[rP hpo,grF];split
  ·exact grF_gi hol hon hdnd hLm hLn k (p+1) rem _ (by omega) (gi.keep hon hpo) (by simp;omega)
  ·rename_i hany
   have hany2:∀j∈L ord[p],rem.getD j 0≠1:=fun j hj he=>hany (List.any_eq_true.2 ⟨j,hj,decide_eq_true he⟩)
   refine grF_gi hol hon hdnd hLm hLn k (p+1) _ _ (by omega) (GI.out (rem':=(L ord[p]).foldl qY rem) (L:=L ord[p]) gi hon hpo hdnd (hLm ord[p]) hany2 (by rw[dec_len,gi.len]) (fun j hj=>?_)) (by omega);exact dec_get _ _ (hLn _) (fun i hi=>by rw[gi.len];exact((hLm _ i).1 hi).1) j
theorem iq{ws:List Int}{es:List (List Nat)}(hb:HsB ws es)(hn:ws.length≤12):GrOk ws.length es (cL ws es):=by
 have hed:=hb.ed
 have hLm:∀v j,j∈LE es es.length 0 v↔j<es.length∧v∈es.getD j []:=fun v j=>LE_mem es j v
 have hLn:∀v,(LE es es.length 0 v).Nodup:=fun v=>by
  unfold LE;rw[tq,if_neg (by simp),rj];exact(vJ).filter _
 have hperm:(qH ws ws.length).Perm (rh ws.length):=by
  unfold qH;by_cases h0:ws.length=0
  ·rw[h0];exact .refl _
  ·exact jg _ _ _ _ (by simp;omega)
 have hol:(qH ws ws.length).length=ws.length:=by rw[hperm.length_eq];simp
 have hon:(qH ws ws.length).Nodup:=hperm.nodup_iff.2 vJ
 have hom:∀v∈qH ws ws.length,v<ws.length:=fun v hv=>List.mem_range.1 (hperm.mem_iff.1 hv)
 have hdnd:∀e∈es,e.Nodup:=fun e he=>(hed e he).2.1.imp (fun h=>by omega)
 obtain⟨rem',gi,hl⟩:=grF_gi hol hon hdnd hLm hLn ws.length 0 (eZ es es.length) [] (by omega) (GI.start hed hperm (lr es _) (fun j hj=>remF_get hj)) (by simp);rw[rk]at gi hl;have hso:=sort_ok gi (by omega) hom;exact⟨hso.1,hso.2.1,hso.2.2⟩
theorem greedy_u{ws:List Int}{es:List (List Nat)}(hb:HsB ws es)(f g:Bool)(hn:ws.length≤12):
  aL Tryz.prog 69 [aR f g ws es] fun r=>r = .tup [Ln false (cL ws es),.int .i64 0]:=by
 obtain⟨GF,hGF⟩:∃GF,GF=cL ws es:=⟨_,rfl⟩;rw[←hGF]
 have hel:∀e∈es,e.length≤1000000:=fun e he=>by have:=hb.ed.len e he;omega
 have cv:=iH ws es f g hel;rw[cS.2 hb]at cv;have he2:=hb.ne;obtain⟨n,hnn⟩:∃n,n=ws.length:=⟨_,rfl⟩;rw[←hnn]at hn
 have hrep:rO es.length (V.int .i64 0)=inL (eZ es 0):=by
  unfold inL eZ;rw[vE];refine uw (by simp) (fun i h1 h2=>by simp[aE])
 have hed:gK n es:=hnn▸hb.ed;obtain⟨C0,hC0⟩:∃C0,C0=B.cells [.lst 1 f (ws.map aE),.lst 1 g (es.map (Ln false))]:=⟨_,rfl⟩
 have hrb0:rbB 1 C0:=by
  subst hC0;intro c hc;simp only[rU,rS,or_false]at hc
  rcases hc with rfl | rfl
  ·exact bq (L1_pure f ws) rfl
  ·exact bq (LLn_pure g es) rfl
 simp only[aR,L1,LLn]at cv;refine bV (aF tok Tryz.func69 rfl rfl ?_);refine wx ?_;simp -dsimp[Tryz.f69,rO,L1,LLn,Ln,aR];refine cPx (cv) (by simp) ?_;simp -dsimp[hrep,←hnn,show(8:Int)*es.length≤281474976710656 by omega,show(es.length:Int)≤9223372036854775807 by omega,show(24:Int)*n≤281474976710656 by omega,show(n:Int)≤9223372036854775807 by omega,L1,LLn,Ln,aR];refine aG (W_ownBs 3 1 n [] _ (k0:=3) (e0:=50) rfl (W_loopM 62 0x3ffffffc00000580 (by simp[mB]<;>rfl) (σ:=Nat) (fun i=>i≤es.length) (fun i=>es.length-i) (fun i=>[(34,.int .i64 i)]) (fun i=>GH C0 es.length n (eZ es i) (fun v=>(LE es i 0 v).length) (LE es i 0) []) 0 (by omega) (by simp) ?_ ?_ ?_))
 ·rw[hC0];simp[GH,atR,LE,nuL,Function.comp_def,vR];exact uw (by simp) (fun i h1 h2=>by simp)
 ·intro i _;simp[GH]
 intro i hi N Q hN hQ;by_cases hbi:i<es.length
 ·obtain⟨e1,e2,e3⟩:=hed es[i] (rQ hbi);have e4:=hel es[i] (rQ hbi);have hge:es.getD i []=es[i]:=eD hbi
  have hnd:(es.getD i []).Nodup:=by rw[hge];exact e2.imp (fun h=>by omega)
  obtain⟨e,he⟩:∃e,e=es[i]:=⟨_,rfl⟩;rw[←he]at e1 e2 e3 e4 hge;have hei:=he.symm;have hrs:=remF_set (es:=es) (i:=i);rw[hge]at hrs;have hst:=mS (eZ es i) i (e.length:Int);rw[hrs]at hst;have q0:=GH_0 (C0:=C0) (E:=es.length) (n:=n) (rem:=eZ es i) (Lh:=fun v=>(LE es i 0 v).length) (L:=LE es i 0) (tl:=[]);have q1:=GH_1 (C0:=C0) (E:=es.length) (n:=n) (rem:=eZ es i) (Lh:=fun v=>(LE es i 0 v).length) (L:=LE es i 0) (tl:=[]);have q2:=GH_2 (C0:=C0) (E:=es.length) (n:=n) (rem:=eZ es i) (Lh:=fun v=>(LE es i 0 v).length) (L:=LE es i 0) (tl:=[]);have qs:=GH_set1 (C0:=C0) (E:=es.length) (n:=n) (rem:=eZ es i) (Lh:=fun v=>(LE es i 0 v).length) (L:=LE es i 0) (tl:=[]) (eZ es (i+1))
  have hgl:=fun h=>et (m:=eZ es i) (x:=i) h
  have hll:=(er (eZ es i)).trans (lr es i);refine wx ?_;simp -dsimp[hbi,hei,q1,q2,qs,hst,hgl,hll,L1,LLn,Ln,aR];refine aG (W_loopM 61 0x1fffc00000000400 (by simp[mB]<;>rfl) (σ:=Nat) (fun k=>k≤e.length) (fun k=>e.length-k) (fun k=>[(46,.int .i64 k)]) (fun k=>GH C0 es.length n (eZ es (i+1)) (fun v=>(LE es i k v).length) (LE es i k) []) 0 (by omega) (by simp) (by simp) (by intro k _;simp[GH]) ?_);intro k hk N2 Q2 hN2 hQ2;by_cases hbk:k<e.length
  ·have hvn:=e3 e[k] (rQ hbk);have hls:=LE_succ (es:=es) (i:=i) (k:=k) (by rw[hge];exact hbk) hnd
   have hgk:(es.getD i [])[k]'(by rw[hge];exact hbk)=e[k]:=by simp only[hge]
   rw[hgk]at hls;obtain⟨v,hv⟩:∃v,v=e[k]:=⟨_,rfl⟩;rw[←hv]at hvn hls;have hev:=hv.symm;have hlen:=LE_len es i k v;have r3:=GH_3 (C0:=C0) (E:=es.length) (n:=n) (rem:=eZ es (i+1)) (Lh:=fun v=>(LE es i k v).length) (L:=LE es i k) (tl:=[]);have rv:=GH_v (C0:=C0) (E:=es.length) (n:=n) (rem:=eZ es (i+1)) (Lh:=fun v=>(LE es i k v).length) (L:=LE es i k) (tl:=[]) hvn;have rsv:=GH_setv (C0:=C0) (E:=es.length) (n:=n) (rem:=eZ es (i+1)) (Lh:=fun v=>(LE es i k v).length) (L:=LE es i k) (tl:=[]) hvn (LE es i k v++[i]);rw[←hls]at rsv;have r3b:=GH_3 (C0:=C0) (E:=es.length) (n:=n) (rem:=eZ es (i+1)) (Lh:=fun v=>(LE es i k v).length) (L:=LE es i (k+1)) (tl:=[])
   have hLh:(fun u=>(LE es i (k+1) u).length)=pK (fun u=>(LE es i k u).length) v ((LE es i k v).length+1):=by
    funext u;rw[hls];unfold pK;by_cases h:u=v
    ·rw[if_pos h,if_pos h];simp
    ·rw[if_neg h,if_neg h]
   have rs3:=GH_set3 (C0:=C0) (E:=es.length) (n:=n) (rem:=eZ es (i+1)) (Lh:=fun v=>(LE es i k v).length) (L:=LE es i (k+1)) (tl:=[]) (fun u=>(LE es i (k+1) u).length)
   have ra:=fun h=>atR_get (n:=n) (Lh:=fun v=>(LE es i k v).length) (v:=v) h
   have ral:=atR_len (n:=n) (Lh:=fun v=>(LE es i k v).length);have ras:=atR_set (n:=n) (Lh:=fun v=>(LE es i k v).length) v ((LE es i k v).length+1);rw[←hLh]at ras
   have hna:nuL (LE es i k v)++[.int .i64 (i:Int)]=nuL (LE es i k v++[i]):=by simp[nuL,eN]
   have hnl:=bE (LE es i k v);obtain⟨m,hm⟩:∃m,m=(LE es i k v).length:=⟨_,rfl⟩;rw[←hm]at ra ras hnl hlen;refine wx ?_;simp -dsimp[hbk,hev,eN,r3,rv,rsv,r3b,rs3,ra,ral,ras,hna,hnl,hvn,show m≤9223372036854775806 by omega,show(m+1)*8≤140737488355328 by omega,aH k (by omega),L1,LLn,Ln,aR];refine hN2 (k+1) _ _ (by omega) (by omega) (by simp) ⟨[],by simp⟩ (by simp[eU]) (GH_rb hrb0 (by simp))
  ·obtain rfl:k=e.length:=by omega
   have hnx:=LE_next es i;rw[hge]at hnx;refine wx ?_;simp -dsimp[hbk,L1,LLn,Ln,aR];refine hQ2 _ _ _ ?_;simp -dsimp[aH i (by omega),L1,LLn,Ln,aR];refine hN (i+1) _ _ (by omega) (by omega) (by simp) ⟨[],by simp[hnx]⟩ (by simp[GH]) ?_;exact GH_rb hrb0 (by simp)
 ·obtain rfl:i=es.length:=by omega
  clear hN hi;obtain⟨L,hL⟩:∃L,L=LE es es.length 0:=⟨_,rfl⟩
  have hLm:∀v j,j∈L v↔j<es.length∧v∈es.getD j []:=fun v j=>by rw[hL];exact LE_mem es j v
  have hLl:∀v,(L v).length≤2001:=fun v=>by rw[hL];have:=LE_len es es.length 0 v;omega
  have hLn:∀v,(L v).Nodup:=fun v=>by
   rw[hL];unfold LE;rw[tq,if_neg (by simp),rj];exact(vJ).filter _
  obtain⟨rem0,hrem0⟩:∃r,r=eZ es es.length:=⟨_,rfl⟩
  have hr0l:rem0.length=es.length:=by rw[hrem0];exact lr es _
  have hr0g:∀j<es.length,rem0.getD j 0=((es.getD j []).length:Int):=fun j hj=>by rw[hrem0];exact remF_get hj
  rw[←hL,←hrem0]
  obtain⟨Lh,hLh⟩:∃Lh:Nat→Nat,Lh=fun v=>(L v).length:=⟨_,rfl⟩
  have hLhe:∀v,Lh v=(L v).length:=fun v=>by rw[hLh]
  rw[←hLh]
  have q0:∀(rem:List Int) (tl:List B),(GH C0 es.length n rem Lh L tl)[0]?=some (B.cells [.lst 1 f (ws.map aE),.lst 1 g (es.map (Ln false))]):=fun rem tl=>by rw[GH_0,hC0]
  have q0g:∀(rem:List Int) (tl:List B) (h:0<(GH C0 es.length n rem Lh L tl).length),(GH C0 es.length n rem Lh L tl)[0]=B.cells [.lst 1 f (ws.map aE),.lst 1 g (es.map (Ln false))]:=fun rem tl h=>hC0
  have hgl0:(GH C0 es.length n rem0 Lh L []).length=n+4:=eU;have hga:=GH_app (C0:=C0) (E:=es.length) (n:=n) (rem:=rem0) (Lh:=Lh) (L:=L) (tl:=[]) (.buf 3 1 (nuL (kj n 0)) false);rw[rx]at hga
  have hrbT:∀(tl:List (List Nat)),∀bl∈tl.map (fun l=>B.buf 3 1 (nuL l) false),rbB (n+4+(tl.map (fun l=>B.buf 3 1 (nuL l) false)).length) bl:=fun tl bl hb=>by
   obtain⟨l,_,rfl⟩:=List.mem_map.1 hb;exact(rbB_buf1 (eL l)).2 trivial
  have r4:∀(rem:List Int) (X:B) (tl:List B),(GH C0 es.length n rem Lh L (X::tl))[n+4]?=some X:=fun rem X tl=>GH_tl 0
  have hnl0:=(bE (kj n 0)).trans (ordF_len n 0);refine wx ?_;simp -dsimp[hbi,L1,LLn,Ln,aR];refine hQ _ _ _ ?_;simp -dsimp[q0,q0g,hgl0,r4,hnl0,ordF_zero n,hga,←hnn,show(8:Int)*n≤281474976710656 by omega,show(n:Int)≤9223372036854775807 by omega,L1,LLn,Ln,aR]
  have hsl:∀(rem:List Int) (X:B) (l:List Nat) (tl:List B),(GH C0 es.length n rem Lh L (X::tl)).set (n+4) (.buf 3 1 (nuL l) false)=GH C0 es.length n rem Lh L (.buf 3 1 (nuL l) false::tl):=fun rem X l tl=>GH_SL X l
  refine aG (W_loopM 76 0xff00000000000001000 (by simp[mB]<;>rfl) (σ:=Nat) (fun i=>i≤n) (fun i=>n-i) (fun i=>[(68,.int .i64 i)]) (fun i=>GH C0 es.length n rem0 Lh L [.buf 3 1 (nuL (kj n i)) false]) 0 (by omega) (by simp) (by simp) (by intro i _;simp[GH]) ?_);intro i hi N2 Q2 hN2 hQ2;by_cases hbi2:i<n
  ·have hst:(nuL (kj n i)).set i (.int .i64 (i:Int))=nuL (kj n (i+1)):=(dA _ i i).trans (by rw[ordF_set]);have hnl:=(bE (kj n i)).trans (ordF_len n i)
   have hat:=fun h=>bR (m:=kj n i) (x:=i) h
   refine wx ?_;simp -dsimp[hbi2,r4,hsl,hst,hnl,hat,L1,LLn,Ln,aR];simp -dsimp[aH i (by omega),L1,LLn,Ln,aR];refine hN2 (i+1) _ _ (by omega) (by omega) (by simp) ⟨[],by simp⟩ (by simp[eU]) (GH_rb hrb0 (hrbT [_]))
  ·obtain rfl:n=i:=by omega
   rw[ordF_all];refine wx ?_;simp -dsimp[hbi2,L1,LLn,Ln,aR];refine hQ2 _ _ _ ?_;simp -dsimp[L1,LLn,Ln,aR]
   have hlt4:n+4<(GH C0 es.length n rem0 Lh L [.buf 3 1 (nuL (rh n)) false]).length:=by rw[eU];simp
   have hrbS:=GH_rb (C0:=C0) (E:=es.length) (n:=n) (rem:=rem0) (Lh:=Lh) (L:=L) hrb0 (hrbT [rh n]);simp only[tF,tt]at hrbS
   have hsort:=sortStable_h hlt4 hrbS (rh n) n (by simp) (by omega) (.fn 114 [.ptr 0 0]) (by simp[rb,rb1,eU]) (fun a b=>ws.getD b 0-ws.getD a 0) (fun a b ha hbm l'=>by
    rw[uD]at ha hbm;rw[GH_SL];have wa:=(am ws 0 (by omega:a<ws.length)).symm;have wb:=(am ws 0 (by omega:b<ws.length)).symm;have ba:=hb.w a (by omega);have bb:=hb.w b (by omega);obtain⟨x,hx⟩:∃x,x=ws.getD a 0:=⟨_,rfl⟩;obtain⟨y,hy⟩:∃y,y=ws.getD b 0:=⟨_,rfl⟩;rw[←hx]at wa ba ⊢;rw[←hy]at wb bb ⊢;have hw:IntKind.i64.wrap (y-x)=y-x:=wrap64 (by omega) (by omega);have qq:=q0 rem0 [.buf 3 1 (nuL l') false];obtain⟨HH,hHH⟩:∃HH,HH=GH C0 es.length n rem0 Lh L [.buf 3 1 (nuL l') false]:=⟨_,rfl⟩;rw[←hHH]at qq ⊢;simp only[aQ,sP,rx];refine aF tok Tryz.func114 rfl rfl ?_;refine wx ?_;simp -dsimp[Tryz.f114,rO,qq,wa,wb,hw,aE,show a<ws.length by omega,show b<ws.length by omega,L1,LLn,Ln,aR]
    exact .inr (aC (by kernel_rfl)))
   simp only[GH_SL]at hsort;obtain⟨ord,hord⟩:∃ord,ord=isF (oJ fun a b=>ws.getD b 0-ws.getD a 0) (n-1) 1 (rh n):=⟨_,rfl⟩
   have hperm:ord.Perm (rh n):=by
    rw[hord];by_cases h0:n=0
    ·subst h0;exact .refl _
    ·exact jg _ _ _ _ (by simp;omega)
   rw[←hord]at hsort;obtain⟨OUT,hOUT⟩:∃OUT,OUT=grF L ord rem0 []:=⟨_,rfl⟩
   have hGO:GF=isF ltN (OUT.length-1) 1 OUT:=by
    rw[hGF,hOUT,hord,hL,hrem0];unfold cL mU qH;rw[←hnn]
   have hol:ord.length=n:=by rw[hperm.length_eq];simp
   have hon:ord.Nodup:=hperm.nodup_iff.2 vJ
   have hom:∀v∈ord,v<n:=fun v hv=>List.mem_range.1 (hperm.mem_iff.1 hv)
   have hnl4:=(bE ord).trans hol;refine bD hsort ?_;rintro _ _ rfl
   have hlen1:(GH C0 es.length n rem0 Lh L [.buf 3 1 (nuL ord) false]).length=n+5:=by rw[eU];rfl
   have hdnd:∀e∈es,e.Nodup:=fun e he=>(hed e he).2.1.imp (fun h=>by omega)
   have q2:∀(rem:List Int) (tl:List B),(GH C0 es.length n rem Lh L tl)[2]?=some (.cells [.buf 1 0 es.length es.length]):=fun rem tl=>GH_2
   have q1:∀(rem:List Int) (tl:List B),(GH C0 es.length n rem Lh L tl)[1]?=some (.buf 3 1 (inL rem) false):=fun rem tl=>GH_1
   have q3:∀(rem:List Int) (tl:List B),(GH C0 es.length n rem Lh L tl)[3]?=some (.buf 50 1 (atR n Lh) false):=fun rem tl=>GH_3
   have q1s:∀(rem rem':List Int) (tl:List B),(GH C0 es.length n rem Lh L tl).set 1 (.buf 3 1 (inL rem') false)=GH C0 es.length n rem' Lh L tl:=fun rem rem' tl=>GH_set1 rem'
   have r5:∀(rem:List Int) (X Y:B),(GH C0 es.length n rem Lh L [X,Y])[n+5]?=some Y:=fun rem X Y=>GH_tl 1
   have hsl2:∀(rem:List Int) (X Y:B) (l:List Nat),(GH C0 es.length n rem Lh L [X,Y]).set (n+5) (.buf 3 1 (nuL l) false)=GH C0 es.length n rem Lh L [X,.buf 3 1 (nuL l) false]:=fun rem X Y l=>GH_SL2 X Y l
   have hgl2:∀(rem:List Int) (X Y:B),(GH C0 es.length n rem Lh L [X,Y]).length=n+6:=fun rem X Y=>by rw[eU];rfl
   have hrb2:∀(rem:List Int) (l l':List Nat),∀bl∈GH C0 es.length n rem Lh L [.buf 3 1 (nuL l) false,.buf 3 1 (nuL l') false],rbB (GH C0 es.length n rem Lh L [.buf 3 1 (nuL l) false,.buf 3 1 (nuL l') false]).length bl:=fun rem l l'=>GH_rb hrb0 (hrbT [l,l'])
   have hga2:GH C0 es.length n rem0 Lh L [.buf 3 1 (nuL ord) false]++[B.buf 3 1 [] false]=GH C0 es.length n rem0 Lh L [.buf 3 1 (nuL ord) false,.buf 3 1 (nuL []) false]:=GH_app _;simp -dsimp[r4,hnl4,L1,LLn,Ln,aR];refine aG (bf 3 1 [13] (by simp) (W_loopM 112 0xfffffffe4000000000000002a000 (by simp[mB]<;>rfl) (σ:=Nat×List Int×List Nat) (fun p=>p.1≤n∧GI es ord p.1 p.2.1 p.2.2∧p.2.2.length≤p.1∧(∀j<es.length,p.2.1.getD j 0≤1000000)∧grF L (ord.drop p.1) p.2.1 p.2.2=OUT) (fun p=>n-p.1) (fun p=>[(81,.int .i64 p.1),(13,.buf (n+5) 0 p.2.2.length p.2.2.length)]) (fun p=>GH C0 es.length n p.2.1 Lh L [.buf 3 1 (nuL ord) false,.buf 3 1 (nuL p.2.2) false]) (0,rem0,[]) ⟨by simp,GI.start hed hperm hr0l hr0g,by simp,fun j hj=>by rw[hr0g j hj];have:=hel _ (ee hj);omega,by rw[rk,hOUT]⟩ (by simp[hlen1]) (by rw[hga2]) (by intro p _;simp[eU]) ?_));rintro⟨p,rem,out⟩ ⟨hp,gi,hol2,hub,hgh⟩ N3 Q3 hN3 hQ3;simp only at hp gi hol2 hub hgh hN3;by_cases hbp:p<n
   ·have hpo:p<ord.length:=by omega
    have hvn:=hom ord[p] (rQ hpo);have hkeep:=gi.keep hon hpo
    have hout:=fun rem'=>GI.out (rem':=rem') (L:=L ord[p]) gi hon hpo hdnd (hLm ord[p])
    have hato:=fun h=>bR (m:=ord) (x:=p) h
    rw[am ord 0 hpo]at hato;obtain⟨v,hv⟩:∃v,v=ord[p]:=⟨_,rfl⟩;rw[rP hpo,←hv,grF]at hgh;rw[←hv]at hvn hkeep hout hato
    have hclo:∀j∈L v,aQ Tryz.prog (.fn 115 [.ptr 2 0]) [.int .i64 (j:Int)] (GH C0 es.length n rem Lh L [.buf 3 1 (nuL ord) false,.buf 3 1 (nuL out) false]) fun r H'=>r = .bool (decide (rem.getD j 0=1))∧H'=GH C0 es.length n rem Lh L [.buf 3 1 (nuL ord) false,.buf 3 1 (nuL out) false]:=fun j hj=>by
     have hjl:=((hLm v j).1 hj).1;have a2:=q2 rem [.buf 3 1 (nuL ord) false,.buf 3 1 (nuL out) false];have a1:=q1 rem [.buf 3 1 (nuL ord) false,.buf 3 1 (nuL out) false];obtain⟨HH,hHH⟩:∃HH,HH=GH C0 es.length n rem Lh L [.buf 3 1 (nuL ord) false,.buf 3 1 (nuL out) false]:=⟨_,rfl⟩;rw[←hHH]at a1 a2 ⊢
     have hgl:=fun h=>et (m:=rem) (x:=j) h
     have hll:=(er rem).trans gi.len;obtain⟨z,hz⟩:∃z,z=rem.getD j 0:=⟨_,rfl⟩;rw[←hz]at hgl ⊢;simp only[aQ,sP,rx];by_cases hq:z=1
     ·rw[decide_eq_true hq];refine aF tok Tryz.func115 rfl rfl ?_;refine wx ?_;simp -dsimp[Tryz.f115,rO,a1,a2,hgl,hll,hjl,hq,L1,LLn,Ln,aR]
     ·rw[decide_eq_false hq];refine aF tok Tryz.func115 rfl rfl ?_;refine wx ?_;simp -dsimp[Tryz.f115,rO,a1,a2,hgl,hll,hjl,hq,L1,LLn,Ln,aR]
    have hcl:=contFuncB (GH C0 es.length n rem Lh L [.buf 3 1 (nuL ord) false,.buf 3 1 (nuL out) false]) (v+4) (.fn 115 [.ptr 2 0]) (fun j=>decide (rem.getD j 0=1)) (L v) (Lh v) (hLhe v) (GH_v hvn) (by have:=hLl v;omega) (hrb2 rem ord out) (by simp[rb,rb1,eU]) hclo
    have ra:=fun h=>atR_get (n:=n) (Lh:=Lh) (v:=v) h
    have ral:=atR_len (n:=n) (Lh:=Lh);have hnlo:=bE out;have b3:=q3 rem [.buf 3 1 (nuL ord) false,.buf 3 1 (nuL out) false];have b4:=r4 rem (.buf 3 1 (nuL ord) false) [.buf 3 1 (nuL out) false];have b5:=r5 rem (.buf 3 1 (nuL ord) false) (.buf 3 1 (nuL out) false);have b5s:=hsl2 rem (.buf 3 1 (nuL ord) false) (.buf 3 1 (nuL out) false) (out++[v])
    obtain⟨any,hany⟩:∃any,any=(L v).any fun j=>decide (rem.getD j 0=1):=⟨_,rfl⟩
    rw[←hany]at hcl;refine wx ?_;simp -dsimp[hbp,b3,b4,hnl4,hato,ra,ral,hvn,L1,LLn,Ln,aR];refine bD hcl ?_;rintro _ _ ⟨rfl,rfl⟩;rw[←hany]at hgh
    cases any with
    | true =>
     rw[if_pos rfl]at hgh
     have hna:nuL out++[.int .i64 (v:Int)]=nuL (out++[v]):=by simp[nuL,eN]
     simp -dsimp[b5,hnlo,hna,b5s,aH p (by omega),show out.length≤9223372036854775806 by omega,show(out.length+1)*8≤140737488355328 by omega,L1,LLn,Ln,aR];refine hN3 (p+1,rem,out++[v]) _ _ ⟨by simp only;omega,hkeep,by simp;omega,hub,hgh⟩ (by simp only;omega) (by simp) ⟨[],by simp⟩ (by simp[eU]) (hrb2 _ _ _)
    | false =>
     rw[if_neg (by simp)]at hgh
     have hany2:∀j∈L v,rem.getD j 0≠1:=fun j hj he=>by
      have:=List.any_eq_false.1 hany.symm j hj;rw[he]at this;exact this rfl
     have hnLv:(nuL (L v)).length=Lh v:=(bE (L v)).trans (hLhe v).symm
     have bv:∀rem',(GH C0 es.length n rem' Lh L [.buf 3 1 (nuL ord) false,.buf 3 1 (nuL out) false])[v+4]?=some (.buf 3 1 (nuL (L v)) false):=fun rem'=>GH_v hvn
     simp -dsimp[b3,ra,ral,hvn,bv,hnLv,L1,LLn,Ln,aR];refine aG (W_loopM 111 0x7ff0000000000000000000020000 (by simp[mB]<;>rfl) (σ:=Nat×List Int) (fun q=>q.1≤Lh v∧q.2.length=es.length∧(∀j<es.length,q.2.getD j 0=rem.getD j 0-if j∈(L v).take q.1 then 1 else 0)∧((L v).drop q.1).foldl qY q.2=(L v).foldl qY rem) (fun q=>Lh v-q.1) (fun q=>[(100,.int .i64 q.1)]) (fun q=>GH C0 es.length n q.2 Lh L [.buf 3 1 (nuL ord) false,.buf 3 1 (nuL out) false]) (0,rem) ⟨by simp,gi.len,fun j _=>by simp,by rw[rk]⟩ (by simp) (by simp) (by intro q _;simp[eU]) ?_);rintro⟨q,rm⟩ ⟨hq,hrl,hrg,hgq⟩ N4 Q4 hN4 hQ4;simp only at hq hrl hrg hgq hN4;by_cases hbq:q<Lh v
     ·have hql:q<(L v).length:=by rw[←hLhe v];exact hbq
      have hatq:=fun h=>bR (m:=L v) (x:=q) h
      rw[am (L v) 0 hql]at hatq;have hjm:(L v)[q]∈L v:=rQ hql
      have hnt:(L v)[q]∉(L v).take q:=fun hm=>by
       obtain⟨a,ha,he⟩:=List.mem_iff_getElem.1 hm;rw[List.getElem_take]at he
       have haq:a<q:=by rw[tR]at ha;omega
       exact List.pairwise_iff_getElem.1 (hLn v) a q (by omega) hql haq he
      have htk:=rV hql;obtain⟨j,hj⟩:∃j,j=(L v)[q]:=⟨_,rfl⟩;rw[rP hql,←hj,ta]at hgq;unfold qY at hgq;rw[←hj]at hatq hjm hnt htk;have hjl:=((hLm v j).1 hjm).1;have a2:=q2 rm [.buf 3 1 (nuL ord) false,.buf 3 1 (nuL out) false];have a1:=q1 rm [.buf 3 1 (nuL ord) false,.buf 3 1 (nuL out) false];have a1s:=q1s rm (rm.set j (rm.getD j 0-1)) [.buf 3 1 (nuL ord) false,.buf 3 1 (nuL out) false];have bvr:=bv rm
      have hgl:=fun h=>et (m:=rm) (x:=j) h
      have hll:=(er rm).trans hrl;have hst:=mS rm j (rm.getD j 0-1);have hz0:=hrg j hjl;rw[if_neg hnt]at hz0;have hz1:=gi.pos j hjl;have hz2:=hub j hjl;obtain⟨z,hz⟩:∃z,z=rm.getD j 0:=⟨_,rfl⟩;rw[←hz]at hgl hst a1s hz0 hgq;have hw1:IntKind.i64.wrap (z-1)=z-1:=wrap64 (by omega) (by omega);refine wx ?_;simp -dsimp[hbq,bvr,hnLv,hatq,a2,a1,a1s,hgl,hll,hst,hjl,hw1,aH q (by have:=hLl v;have:=hLhe v;omega),L1,LLn,Ln,aR];refine hN4 (q+1,rm.set j (z-1)) _ _ ⟨by simp only;omega,by simp[hrl],fun i hi=>?_,hgq⟩ (by simp only;omega) (by simp) ⟨[],by simp⟩ (by simp[eU];omega) (hrb2 _ _ _);simp only;rw[htk];by_cases hij:j=i
      ·subst hij;rw[aU _ (by omega),if_pos (tf _ (List.mem_singleton.2 rfl)),hz0];omega
      ·rw[aY _ hij,hrg i hi]
       have:(i∈(L v).take q++[j])↔i∈(L v).take q:=by
        rw[sx,sC];exact⟨fun h=>h.elim id (fun e=>absurd e.symm hij),.inl⟩
       simp only[this]
     ·obtain rfl:q=Lh v:=by omega
      have htk:(L v).take (Lh v)=L v:=rt (by rw[hLhe v];exact rd _);rw[htk]at hrg;rw[rR (by rw[hLhe v];exact rd _),List.foldl_nil]at hgq;rw[←hgq]at hgh;have gi2:=hout rm hany2 hrl hrg;refine wx ?_;simp -dsimp[hbq,L1,LLn,Ln,aR];refine hQ4 _ _ _ ?_;simp -dsimp[aH p (by omega),L1,LLn,Ln,aR];refine hN3 (p+1,rm,out) _ _ ⟨by simp only;omega,gi2,by simp only;omega,fun j hj=>?_,hgh⟩ (by simp only;omega) (by simp) ⟨[],by simp⟩ (by simp[eU]) (hrb2 _ _ _);have:=hub j hj;simp only;rw[hrg j hj];split<;>omega
   ·obtain rfl:n=p:=by omega
    rw[rR (by omega)]at hgh;have hgo:out=OUT:=hgh
    have hlt5:n+5<(GH C0 es.length n rem Lh L [.buf 3 1 (nuL ord) false,.buf 3 1 (nuL out) false]).length:=by rw[hgl2];omega
    have hs:=sort_h hlt5 (hrb2 rem ord out) out out.length rfl (by omega);simp only[GH_SL2]at hs;obtain⟨res,hres⟩:∃res,res=isF ltN (out.length-1) 1 out:=⟨_,rfl⟩
    have hrl:out.length=res.length:=by
     rw[hres];by_cases h0:out.length=0
     ·rw[h0];exact h0.symm
     ·exact(jg ltN _ _ _ (by omega)).length_eq.symm
    have hresG:res=GF:=by rw[hGO,hres,hgo]
    rw[←hres]at hs;refine wx ?_;simp -dsimp[hbp,L1,LLn,Ln,aR];refine hQ3 _ _ _ ?_;simp -dsimp[L1,LLn,Ln,aR];refine bD hs ?_;rintro _ _ rfl;simp -dsimp[L1,LLn,Ln,aR];rw[←hresG];refine .tup _ _ rfl (fun i c d h1 h2=>?_)
    match i with
    | 0=>simp at h1 h2;subst h1;subst h2;exact dK (r5 rem _ _) (hrl.trans (bE res).symm) (fun x hx=>(eL res x hx).1)
    | 1=>simp at h1 h2;subst h1;subst h2;exact .pure _ (by simp)
    | i+2=>simp at h1
def wl(ws:List Int):List Nat→Int
 | []=>0
 | v::l=>ws.getD v 0+wl ws l
theorem kF(ws:List Int):∀a b:List Nat,wl ws (a++b)=wl ws a+wl ws b
 | [],b=>by simp[wl]
 | v::a,b=>by rw[sP,wl,wl,kF ws a b];omega
theorem dt(ws:List Int)(T:Nat→Bool):∀n,cz ws T n=wl ws ((rh n).filter T)
 | 0=>rfl
 | n+1=>by
  rw[cz,si,tW,kF,dt ws T n,uW,uI];by_cases h:T n=true
  ·rw[if_pos h,if_pos h];simp[wl]
  ·rw[if_neg h,if_neg h];simp[wl]
theorem pP:∀l1 l2:List Nat,l1.Pairwise (· < ·)→l2.Pairwise (· < ·)→(∀x,x∈l1↔x∈l2)→l1=l2
 | [],[],_,_,_=>rfl
 | [],y::l2,_,_,h=>by have:=(h y).2 sE;cases this
 | x::l1,[],_,_,h=>by have:=(h x).1 sE;cases this
 | x::l1,y::l2,h1,h2,h=>by
  obtain⟨a1,a2⟩:=List.pairwise_cons.1 h1;obtain⟨b1,b2⟩:=List.pairwise_cons.1 h2;have hx:=(h x).1 sE;have hy:=(h y).2 sE
  have e:x=y:=by
   rcases List.mem_cons.1 hx with e | hx
   ·exact e
   ·rcases List.mem_cons.1 hy with e | hy
    ·exact e.symm
    ·have:=b1 x hx;have:=a1 y hy;omega
  subst e;congr 1;refine pP l1 l2 a2 b2 (fun z=>⟨fun hz=>?_,fun hz=>?_⟩)
  ·rcases List.mem_cons.1 ((h z).1 (sG _ hz)) with e | hz2
   ·subst e;have:=a1 z hz;omega
   ·exact hz2
  ·rcases List.mem_cons.1 ((h z).2 (sG _ hz)) with e | hz2
   ·subst e;have:=b1 z hz;omega
   ·exact hz2
theorem dg{n:Nat}{l:List Nat}(hs:l.Pairwise (· < ·))(hn:∀v∈l,v<n):l=(rh n).filter fun v=>decide (v∈l):=by
 refine pP _ _ hs (List.pairwise_lt_range.filter _) (fun x=>?_);rw[tX,uD,decide_eq_true_iff];exact⟨fun h=>⟨hn x h,h⟩,fun h=>h.2⟩
theorem wl_le{ws:List Int}{n:Nat}(hw:∀v<n,1≤ws.getD v 0∧ws.getD v 0≤1000000):∀l:List Nat,(∀v∈l,v<n)→0≤wl ws l∧wl ws l≤1000000*(l.length:Int)
 | [],_=>by simp[wl]
 | v::l,h=>by
  have h1:=wl_le hw l (fun u hu=>h u (sG _ hu));have h2:=hw v (h v sE);rw[wl,sB];omega
theorem index_I(e:List Nat)(v:Nat)(fe:Bool)(hl:e.length≤1000000):aL Tryz.prog 157 [Ln fe e,.int .i64 (v:Int)] fun r=>r = .int .i64 (ixN (fun u=>decide (u=v)) e 0):=by
 refine sPx Tryz.func157 rfl rfl ?_;simp -dsimp[Tryz.f157,rO,Ln];refine aG (W_loopM 19 0x7ff30 (by simp[mB]<;>rfl) (σ:=Nat) (fun i=>ixN (fun u=>decide (u=v)) e i=ixN (fun u=>decide (u=v)) e 0) (fun i=>e.length-i) (fun i=>[(8,.int .i64 i)]) (fun _=>[]) 0 rfl (by simp) rfl (by simp) ?_);intro i hx N Q hN hQ;by_cases hb:i<e.length
 ·rw[ixN,dif_pos hb]at hx;obtain⟨u,hu⟩:∃u,u=e[i]:=⟨_,rfl⟩;rw[←hu]at hx;have hu':=hu.symm;by_cases hq:u=v
  ·rw[if_pos (decide_eq_true hq)]at hx;refine wx ?_;simp -dsimp[hb,hu',eN,hq];refine hQ _ _ _ ?_;simp -dsimp[];simpa using hx
  ·rw[if_neg (by simp[hq])]at hx;refine wx ?_;simp -dsimp[hb,hu',eN,show ¬(v:Int)=u by omega,show ¬v=u by omega,aH i (by omega)];refine hN (i+1) _ _ hx (by omega) (by simp) ⟨[],rfl⟩ (by simp) (by simp)
 ·rw[ixN,dif_neg hb]at hx;refine wx ?_;simp -dsimp[hb];refine hQ _ _ _ ?_;simp -dsimp[];simpa using hx
theorem qa(e:List Nat)(v:Nat)(fe:Bool)(hl:e.length≤1000000):aL Tryz.prog 102 [Ln fe e,.int .i64 (v:Int)] fun r=>r = .bool (decide (v∈e)):=by
 have h0:=ixN_any (fun u=>decide (u=v)) e 0;rw[rk]at h0
 have h1:(e.any fun u=>decide (u=v))=decide (v∈e):=by
  rw[sb];simp
 rw[h1]at h0;have hc:=index_I e v fe hl;refine sPx Tryz.func102 rfl rfl ?_;simp -dsimp[Tryz.f102,rO];refine cPx (hc) (by simp) ?_;simp -dsimp[];exact decide_eq_decide.1 h0
theorem pF{ws:List Int}{es:List (List Nat)}(hb:HsB ws es)(f g fl:Bool)(l:List Nat)(hs:l.Pairwise (· < ·))(hn:∀v∈l,v<ws.length):aL Tryz.prog 56 [aR f g ws es,Ln fl l] fun r=>r = .tup [.int .i64 (wl ws l),.int .i64 0]:=by
 have hel:∀e∈es,e.length≤1000000:=fun e he=>by have:=hb.ed.len e he;have:=hb.n;omega
 have cv:=iH ws es f g hel;rw[cS.2 hb]at cv;have hn2:=hb.n
 have hll:l.length≤200:=by
  have hnd:l.Nodup:=hs.imp (fun h=>by omega);have:=hnd.length_le_of_subset (l₂:=rh ws.length) (fun v hv=>List.mem_range.2 (hn v hv));simp at this;omega
 simp only[aR,L1,LLn]at cv;refine sPx Tryz.func56 rfl rfl ?_;simp -dsimp[Tryz.f56,rO,aR,L1,LLn,Ln];refine cPx (cv) (by simp) ?_;simp -dsimp[L1,LLn,Ln];refine aG (W_loopM 46 0x3ffffffe03b0 (by simp[mB]<;>rfl) (σ:=Nat) (fun i=>i≤l.length) (fun i=>l.length-i) (fun i=>[(17,.int .i64 i),(7,.int .i64 (wl ws (l.take i)))]) (fun _=>[B.cells [.lst 1 f (ws.map aE),.lst 1 g (es.map (Ln false))]]) 0 (by omega) (by simp[wl]) rfl (by simp) ?_);intro i hi N Q hN hQ;by_cases hbi:i<l.length
 ·have hvn:=hn l[i] (rQ hbi);have hnd:l.Nodup:=hs.imp (fun h=>by omega);have hnt:=(mI hnd hbi).1
  have htk:wl ws (l.take (i+1))=wl ws (l.take i)+ws.getD l[i] 0:=by rw[rV hbi,kF];simp[wl]
  have hb1:=wl_le hb.w (l.take i) (fun v hv=>hn v (sD hv))
  have hlt:(l.take i).length≤200:=by rw[tR];omega
  obtain⟨v,hv⟩:∃v,v=l[i]:=⟨_,rfl⟩;rw[←hv]at hvn hnt htk;have hv':=hv.symm
  have hc:=fun fl=>qa (l.take i) v fl (by omega)
  rw[decide_eq_false hnt]at hc;simp only[Ln,tj]at hc;have hwl:=(am ws 0 hvn).symm;have hwb:=hb.w v hvn;obtain⟨w,hw⟩:∃w,w=ws.getD v 0:=⟨_,rfl⟩;rw[←hw]at hwl hwb htk;obtain⟨s,hs0⟩:∃s,s=wl ws (l.take i):=⟨_,rfl⟩;rw[←hs0]at htk hb1;have hw1:IntKind.i64.wrap (s+w)=s+w:=wrap64 (by omega) (by omega);rw[←hs0];refine wx ?_;simp -dsimp[hbi,hv',eN,hvn,show ¬(v:Int)<0 by omega,show ¬(ws.length:Int)≤v by omega,show ¬ws.length≤v by omega,show i≤l.length by omega,L1,LLn,Ln];refine cPx (hc _) (by simp;intro x hx;obtain⟨y,_,rfl⟩:=List.mem_map.1 (sD hx);exact eN_pure y) ?_;simp -dsimp[hvn,hwl,aE,hw1,aH i (by omega),L1,LLn,Ln];refine hN (i+1) _ _ (by omega) (by omega) (by simp[htk]) ⟨[],rfl⟩ (by simp) (by simp)
 ·obtain rfl:i=l.length:=by omega
  rw[sJ];refine wx ?_;simp -dsimp[hbi,L1,LLn,Ln];refine hQ _ _ _ ?_;simp -dsimp[L1,LLn,Ln]
structure MinOk (n:Nat) (ws:List Int) (es:List (List Nat)) (T:Nat→Bool):Prop where
 h:∀e∈es,∃v∈e,T v=true
 m:∀T':Nat→Bool,(∀e∈es,∃v∈e,T' v=true)→cz ws T n≤cz ws T' n
theorem ja(n:Nat)(T:Nat→Bool)(ws:List Int):∀j,phi (rO n 0) T ws j=cz ws T j
 | 0=>rfl
 | j+1=>by
  have h0:(rO n 0).getD j 0=0:=by
   simp only[tO,tE];split<;>rfl
  rw[phi,cz,ja n T ws j,h0];by_cases h:T j=true<;>simp[h]
theorem wsum_zero(n:Nat)(ws:List Int):∀j,cz ws (fun u=>decide ((rO n 0).getD u 0=1)) j=0
 | 0=>rfl
 | j+1=>by
  have h0:(rO n 0).getD j 0=0:=by
   simp only[tO,tE];split<;>rfl
  rw[cz,wsum_zero n ws j,h0];simp
theorem fU(n:Nat):di (rO n 0)=n:=by
 unfold di;rw[List.countP_replicate];simp
theorem min_all{ws:List Int}{es:List (List Nat)}(hb:HsB ws es){lf:Int}(hlf:2^(ws.length+1)-1≤lf){l:List Nat}(hl:GrOk ws.length es l):
  ∃P T,nN ws es (ws.length+1) (rO ws.length 0) lf ⟨l,wl ws l⟩ 0=some P∧lf-(2^(ws.length+1)-1)≤P.1∧MinOk ws.length ws es T∧P.2.l=(rh ws.length).filter T∧P.2.w=cz ws T ws.length:=by
 have h0:∀v,(rO ws.length 0).getD v 0=0:=fun v=>by
  simp only[tO,tE];split<;>rfl
 have g:Wok ws.length ws (rO ws.length 0):=⟨rfl,by simp,fun v hv=>(hb.w v hv).1,fun v _=>by rw[h0];omega⟩;obtain⟨lf',b',m1,m2,m3,m4,m5⟩:=min_ok hb.ed (ws.length+1) (rO ws.length 0) lf ⟨l,wl ws l⟩ 0 g (by rw[fU];omega) (by rw[fU];exact hlf) (by rw[wsum_zero]);rw[fU]at m2
 have hall:∀T':Nat→Bool,(∀e∈es,∃v∈e,T' v=true)→b'.w≤cz ws T' ws.length:=fun T' hT=>by
  have hX:Ext ws.length es (rO ws.length 0) T':=⟨fun v _ h=>by rw[h0]at h;omega,fun v _ h=>by rw[h0]at h;omega,hT⟩;have:=m4 T' hX;rw[ja]at this;omega
 rcases m5 with rfl | ⟨T,hT⟩
 ·refine⟨_,fun v=>decide (v∈l),m1,m2,⟨fun e he=>?_,fun T' hT'=>?_⟩,dg hl.s hl.n,?_⟩
  ·obtain⟨v,h1,h2⟩:=hl.h e he;exact⟨v,h1,by simpa using h2⟩
  ·have:=hall T' hT';rw[dt,←dg hl.s hl.n];exact this
  ·rw[dt,←dg hl.s hl.n]
 ·refine⟨_,T,m1,m2,⟨hT.h,fun T' hT'=>?_⟩,hT.l,hT.w⟩;have:=hall T' hT';rw[hT.w]at this;exact this
noncomputable def kn(ws:List Int)(es:List (List Nat))(lf:Int):List Nat:=match nN ws es (ws.length+1) (rO ws.length 0) lf ⟨cL ws es,wl ws (cL ws es)⟩ 0 with
 | some P=>P.2.l
 | none=>[]
theorem minL_ok{ws:List Int}{es:List (List Nat)}(hb:HsB ws es)(hn:ws.length≤12){lf:Int}(hlf:2^(ws.length+1)-1≤lf):∃T,MinOk ws.length ws es T∧kn ws es lf=(rh ws.length).filter T:=by
 obtain⟨P,T,m1,m2,m3,m4,m5⟩:=min_all hb hlf (iq hb hn);refine⟨T,m3,?_⟩;unfold kn;rw[m1];exact m4
def PL(ws:List Int)(es:List (List Nat))(lf:Int)(r:V):Prop:=∃fl,r = .tup [.lst 1 fl ((kn ws es lf).map eN),.int .i64 (wl ws (kn ws es lf)),.int .i64 0]
theorem minimum_u{ws:List Int}{es:List (List Nat)}(hb:HsB ws es)(f g:Bool)(hn:ws.length≤12)(lf:Int)(hlf:2^(ws.length+1)-1≤lf)(h1:1≤lf)(h2:lf≤9000000000000000000):
  aL Tryz.prog 46 [aR f g ws es,.int .i64 lf] (PL ws es lf):=by
 have hgr:=iq hb hn;have cg:=greedy_u hb f g hn;have hn2:=hb.n;simp only[aR,L1,LLn,Ln]at cg;refine sPx Tryz.func46 rfl rfl ?_;simp -dsimp[Tryz.f46,rO,aR,L1,LLn,Ln];obtain⟨l,hle⟩:∃l,l=cL ws es:=⟨_,rfl⟩;rw[←hle]at cg hgr;have hl:=hgr;refine cPx (cg) (by simp) ?_;have cw:=pF hb f g false l hl.s hl.n;obtain⟨P,T,m1,m2,m3,m4,m5⟩:=min_all hb hlf hl
 have hML:kn ws es lf=P.2.l:=by unfold kn;rw[←hle,m1]
 have hMw:P.2.w=wl ws P.2.l:=by rw[m4,m5,dt]
 have c1:=gR [B.cells [.lst 1 f (ws.map aE),.lst 1 g (es.map (Ln false))],B.cells [.lst 1 false (l.map eN),.int .i64 (wl ws l)]] f g ws es lf hb.n
 have hr0:∀bl∈[B.cells [.lst 1 f (ws.map aE),.lst 1 g (es.map (Ln false))],B.cells [.lst 1 false (l.map eN),.int .i64 (wl ws l)]],rbB [B.cells [.lst 1 f (ws.map aE),.lst 1 g (es.map (Ln false))],B.cells [.lst 1 false (l.map eN),.int .i64 (wl ws l)]].length bl:=by
  intro bl hbl;simp only[rU,rS,or_false]at hbl
  rcases hbl with rfl | rfl
  ·intro c hc;simp only[rU,rS,or_false]at hc
   rcases hc with rfl | rfl
   ·exact bq (L1_pure f ws) rfl
   ·exact bq (LLn_pure g es) rfl
  ·exact bcl_rb _ false ⟨l,wl ws l⟩
 have sa:=nsH_at hr0 f g ws es lf;have o:BOk (nsH [B.cells [.lst 1 f (ws.map aE),.lst 1 g (es.map (Ln false))],B.cells [.lst 1 false (l.map eN),.int .i64 (wl ws l)]] f g ws es lf) 4 3 1:=⟨by simp[nsH],by simp[nsH],by simp[nsH],by omega,by omega,by omega,sa.rb⟩;have hp1:(0:Int)≤2^(ws.length+1):=Int.le_of_lt (Int.pow_pos (by omega));have c2:=minimum_h (f:=f) (g:=g) o hb (ws.length+1) (rO ws.length 0) lf ⟨l,wl ws l⟩ false 0 P (by simp) m1 (by omega) h2 (by omega) (by omega);have hH:HS (nsH [B.cells [.lst 1 f (ws.map aE),.lst 1 g (es.map (Ln false))],B.cells [.lst 1 false (l.map eN),.int .i64 (wl ws l)]] f g ws es lf) 4 3 1 f g ws es lf (rO ws.length 0) (bcl false ⟨l,wl ws l⟩)=nsH [B.cells [.lst 1 f (ws.map aE),.lst 1 g (es.map (Ln false))],B.cells [.lst 1 false (l.map eN),.int .i64 (wl ws l)]] f g ws es lf:=rfl;rw[hH]at c2;simp only[aR,L1,LLn,Ln]at cw;simp only[aR,L1,LLn]at c1;simp -dsimp[show ¬lf<1 by omega,L1,LLn,Ln];refine cPx (cw) (by simp) ?_;simp -dsimp[L1,LLn,Ln];refine bD c1 ?_;rintro _ _ ⟨rfl,rfl⟩;simp -dsimp[L1,LLn,Ln];refine bD c2 ?_;rintro _ _ ⟨rfl,fl,rfl⟩;have gB:(HS (nsH [B.cells [.lst 1 f (ws.map aE),.lst 1 g (es.map (Ln false))],B.cells [.lst 1 false (l.map eN),.int .i64 (wl ws l)]] f g ws es lf) 4 3 1 f g ws es P.1 (rO ws.length 0) (bcl fl P.2))[1]?=some (.cells [.lst 1 fl (P.2.l.map eN),.int .i64 P.2.w]):=o.atb;simp -dsimp[gB,L1,LLn,Ln];refine .inr ⟨aC (by kernel_rfl),?_⟩;exact⟨fl,by rw[hML,hMw]⟩
theorem nI{ws:List Int}{es:List (List Nat)}{P:List Nde×Int} : ∀(k:Nat) (m:List Nat) (lf b:Int),gh ws es k m lf b=some P→(P.1.length:Int)≤lf-P.2
 | 0,_,_,_,h=>by simp[gh]at h
 | k+1,m,lf,b,h=>by
  rw[gh]at h;split at h
  ·cases h
  ·split at h
   ·cases h;simp only[sB,td];omega
   ·split at h
    ·cases h;simp only[sB,td];omega
    ·split at h
     ·cases h
     ·split at h
      ·cases h
      ·rename_i p hp;split at h
       ·cases h
       ·rename_i q hq;have h1:=nI (P:=p) k _ _ _ hp;have h2:=nI (P:=q) k _ _ _ hq;cases h;simp only[sB,ri];omega
theorem wsum_range{ws:List Int}{n:Nat}(hw:∀v<n,1≤ws.getD v 0∧ws.getD v 0≤1000000)(T:Nat→Bool):0≤cz ws T n∧cz ws T n≤1000000*(n:Int):=by
 rw[dt];have h:=wl_le hw ((rh n).filter T) (fun v hv=>List.mem_range.1 (List.mem_filter.1 hv).1);have:=rz T (rh n);rw[uj]at this;omega
theorem prove_all{ws:List Int}{es:List (List Nat)}(hb:HsB ws es){lf:Int}(hlf:2^(ws.length+1)-1≤lf){T:Nat→Bool}(hT:MinOk ws.length ws es T):
  ∃P,gh ws es (ws.length+1) (rO ws.length 0) lf (cz ws T ws.length)=some P∧lf-(2^(ws.length+1)-1)≤P.2∧(P.1.length:Int)≤2^(ws.length+1)-1∧ej ws es (cz ws T ws.length) P.1=true:=by
 have h0:∀v,(rO ws.length 0).getD v 0=0:=fun v=>by
  simp only[tO,tE];split<;>rfl
 have g:Wok ws.length ws (rO ws.length 0):=⟨rfl,by simp,fun v hv=>(hb.w v hv).1,fun v _=>by rw[h0];omega⟩
 obtain⟨l,lf',p1,p2,p3⟩:=prv_ok hb.ed (by have:=hb.ne;omega) (ws.length+1) (rO ws.length 0) lf (cz ws T ws.length) g (by rw[fU];omega) (by rw[fU];exact hlf) (fun T' hX=>by
  rw[ja]
  exact hT.m T' hX.h)
 rw[fU]at p2;have hn:=nI _ _ _ _ p1;simp only at hn;refine⟨(l,lf'),p1,p2,by simp only;omega,?_⟩;have hr:=wsum_range hb.w T;have hn2:=hb.n;unfold ej;rw[if_pos (cS.2 hb),if_neg (by omega)];unfold jx;have:=p3 [] (l.length+1) (by omega);rw[rj]at this;simp only;rw[this];rfl
theorem inRange39(b:Int):aL Tryz.prog 94 [.int .i64 b] fun r=>r = .bool (decide (-1000000000000000≤b)&&decide (b≤1000000000000000)):=by
 by_cases h1 : -1000000000000000≤b
 ·by_cases h2:b≤1000000000000000
  ·rw[decide_eq_true h1,decide_eq_true h2];refine sPx Tryz.func94 rfl rfl ?_;simp -dsimp[Tryz.f94,rO,h1,h2]
  ·rw[decide_eq_true h1,decide_eq_false h2];refine sPx Tryz.func94 rfl rfl ?_;simp -dsimp[Tryz.f94,rO,h1,h2]
 ·rw[decide_eq_false h1];refine sPx Tryz.func94 rfl rfl ?_;simp -dsimp[Tryz.f94,rO,h1]
theorem check39(ws:List Int)(es:List (List Nat))(f g fl:Bool)(b:Int)(l:List Nde)(hl:∀e∈es,e.length≤1000000)(hp:l.length≤1000000):aL Tryz.prog 53 [aR f g ws es,.int .i64 b,LNd fl l] fun r=>r = .bool (ej ws es b l):=by
 have cv:=pH ws es f g hl;have ci:=inRange39 b;obtain⟨E,hE⟩:∃E,E=eI ws es:=⟨_,rfl⟩;unfold ej;rw[←hE]at cv ⊢;simp only[aR,L1,LLn]at cv;by_cases h0:E=0
 ·rw[if_pos h0];have hb:=cS.1 (hE.symm.trans h0);subst h0;by_cases h1 : -1000000000000000≤b
  ·by_cases h2:b≤1000000000000000
   ·rw[if_neg (by omega),check_same hb.ed (fun w hw=>by obtain⟨i,hi,rfl⟩:=List.mem_iff_getElem.1 hw;have:=(hb.w i hi).1;rwa [am _ _ hi]at this)];rw[decide_eq_true h1,decide_eq_true h2,re]at ci;unfold checkRf;by_cases h3:l.length=0
    ·have:l=[]:=List.length_eq_zero_iff.1 h3;subst this;refine sPx Tryz.func53 rfl rfl ?_;simp -dsimp[Tryz.f53,rO,aR,LNd,L1,LLn];refine cPx (cv) (by simp) ?_;simp -dsimp[L1,LLn];refine cPx (ci) (by simp) ?_;simp -dsimp[L1,LLn]
    ·have cp:=part39 hb f g fl (l.length+1) l [] [] false false b (by omega) (by simp;omega) (by omega) (by omega)
     have cp2:aL Tryz.prog 95 [aR f g ws es,.agg [.nilS,.nilS,.int .i64 b],LNd fl l] fun r=>r = .int .i64 (cP ws es (l.length+1) [] [] b l):=by
      refine na cp rfl (fun i a a' h1 h2=>?_)
      match i with
      | 0=>simp at h1 h2;subst h1;subst h2;exact .refl _
      | 1 =>
       simp only[sk,sj,Option.some.injEq]at h1 h2;subst h1;subst h2;refine .agg _ _ rfl (fun i c d h3 h4=>?_)
       match i with
       | 0=>simp at h3 h4;subst h3;subst h4;exact .nil _ _
       | 1=>simp at h3 h4;subst h3;subst h4;exact .nil _ _
       | 2=>simp at h3 h4;subst h3;subst h4;exact .refl _
       | n+3=>simp at h3
      | 2=>simp at h1 h2;subst h1;subst h2;exact .refl _
      | n+3=>simp at h1
     obtain⟨p,hp⟩:∃p,p=cP ws es (l.length+1) [] [] b l:=⟨_,rfl⟩;rw[←hp]at cp2 ⊢;simp only[aR,L1,LLn,LNd]at cp2
     have h4:0<l.length:=by omega
     rw[decide_eq_true h4,re];refine sPx Tryz.func53 rfl rfl ?_;simp -dsimp[Tryz.f53,rO,aR,LNd,L1,LLn];refine cPx (cv) (by simp) ?_;simp -dsimp[L1,LLn];refine cPx (ci) (by simp) ?_;simp -dsimp[h4,L1,LLn];refine cPx (cp2) (by simp) ?_;by_cases h5:p=l.length
     ·simp -dsimp[h5,L1,LLn]
     ·simp -dsimp[h5,L1,LLn]
   ·rw[if_pos (by omega)];rw[decide_eq_true h1,decide_eq_false h2]at ci;refine sPx Tryz.func53 rfl rfl ?_;simp -dsimp[Tryz.f53,rO,aR,LNd,L1,LLn];refine cPx (cv) (by simp) ?_;simp -dsimp[L1,LLn];refine cPx (ci) (by simp) ?_;simp -dsimp[L1,LLn]
  ·rw[if_pos (by omega)];rw[decide_eq_false h1,rZ]at ci;refine sPx Tryz.func53 rfl rfl ?_;simp -dsimp[Tryz.f53,rO,aR,LNd,L1,LLn];refine cPx (cv) (by simp) ?_;simp -dsimp[L1,LLn];refine cPx (ci) (by simp) ?_;simp -dsimp[L1,LLn]
 ·rw[if_neg h0];refine sPx Tryz.func53 rfl rfl ?_;simp -dsimp[Tryz.f53,rO,aR,LNd,L1,LLn];refine cPx (cv) (by simp) ?_;simp -dsimp[h0,L1,LLn]
end
end Go.Proofs.YtjogkbekekdkjaaGreatDoor
