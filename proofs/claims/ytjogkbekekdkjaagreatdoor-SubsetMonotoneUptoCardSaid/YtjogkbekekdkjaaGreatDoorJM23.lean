/- JM23: own texts of this seat, joined and shortened by pack4.py: SB1, SB2, SB5, SB4. -/
import Derived.Test.YtjogkbekekdkjaaGreatDoorJM22
set_option linter.unusedVariables false
set_option linter.unusedSimpArgs false
set_option maxRecDepth 100000
set_option maxHeartbeats 64000000
open Bool renaming not_eq_true'→pg,not_eq_true→qc,eq_iff_iff→qo
open Int renaming tmod_lt_of_pos→pq,tmod_nonneg→pw
open List renaming replicate→ou,getElem_mem→ow,mem_cons→pD,range→pG,length_append→pK,all_eq_true→pV,mem_cons_self→pW,mem_cons_of_mem→pZ,length_map→pc,mem_singleton→pe,length_cons→pk,mem_filter→qH,getD→qZ,mem_append_right→qe,mem_append_left→qx,pairwise_map→rX,any_eq_true→rY
open Nat renaming mul_le_mul_right→pN,lt_or_ge→px,lt_trichotomy→rA,mod_lt→sD
namespace Go.Proofs.YtjogkbekekdkjaaGreatDoor
section
open Go Go.AM
theorem jS{vs:List Int}(ha:asc vs=true){x:Int}(hx:x∈vs):∃(h:bsP vs x<vs.length),vs[bsP vs x]=x:=by
 have:=bsF_mem ha x;rw[gh.2 hx]at this;have h2:=beq_iff_eq.1 this;obtain⟨h3,h4⟩:=List.getElem?_eq_some_iff.1 h2;exact⟨h3,h4⟩
theorem bsP_ix{vs:List Int}(ha:asc vs=true){i:Nat}(hi:i<vs.length):bsP vs vs[i]=i:=by
 obtain⟨h1,h2⟩:=jS ha (ow hi)
 rcases rA (bsP vs vs[i]) i with h | h | h
 ·have:=lK ha _ _ h1 hi h;omega
 ·exact h
 ·have:=lK ha _ _ hi h1 h;omega
theorem bsP_lt{vs:List Int}(ha:asc vs=true){a b:Int}(hA:a∈vs)(hB:b∈vs)(h:a<b):bsP vs a<bsP vs b:=by
 obtain⟨h1,e1⟩:=jS ha hA;obtain⟨h2,e2⟩:=jS ha hB
 rcases rA (bsP vs a) (bsP vs b) with q | q | q
 ·exact q
 ·have:vs[bsP vs a]=vs[bsP vs b]:=by congr 1
  omega
 ·have:=lK ha _ _ h2 h1 q;omega
def ixE(vs:List Int)(e:List Int):List Nat:=e.map (bsP vs)
theorem ixE_ok{vs:List Int}{es:List (List Int)}(h:Hyp vs es){e:List Int}(he:e∈es):ixE vs e≠[]∧(ixE vs e).Pairwise (· < ·)∧∀v∈ixE vs e,v<vs.length:=by
 have ha:=(jJ vs).2 h.va;refine⟨fun e0=>h.ne e he (by simpa[ixE] using e0),?_,fun v hv=>?_⟩
 ·unfold ixE;rw[rX];refine List.Pairwise.imp_of_mem ?_ (h.ea e he);intro a b hA hB hab;exact bsP_lt ha (h.sub e he a hA) (h.sub e he b hB) hab
 ·obtain⟨a,hA,rfl⟩:=List.mem_map.1 hv;exact(jS ha (h.sub e he a hA)).1
theorem min_below{l:List (List Int)}{x:List Int}(hx:x∈l):∃e,MinM l e∧∀a∈e,a∈x:=by
 obtain⟨n,⟨e,h1,h2,h3⟩,hn⟩:=first_nat (p:=fun n=>∃e∈l,(∀a∈e,a∈x)∧e.length=n) x.length ⟨x,hx,fun a h=>h,rfl⟩;refine⟨e,⟨h1,fun d hd hs=>?_⟩,h2⟩
 rcases px d.length e.length with q | q
 ·exact absurd ⟨d,hd,fun a ha=>h2 a (hs a ha),rfl⟩ (hn d.length (by omega))
 ·exact q
def kJ(es:List (List Int))(D:List Int):Bool:=es.all fun e=>e.any fun a=>iI D a
theorem lr{es:List (List Int)}{D:List Int} : kJ es D=true↔∀e∈es,∃a∈e,a∈D:=by
 unfold kJ;rw[pV]
 refine forall_congr' fun e=>forall_congr' fun _=>?_
 rw[rY];exact⟨fun⟨a,h1,h2⟩=>⟨a,h1,gh.1 h2⟩,fun⟨a,h1,h2⟩=>⟨a,h1,gh.2 h2⟩⟩
def restL(t:Tb)(D:List Int):List Int:=(dl t.rows).filter fun a=>!iI D a
theorem restL_mem{t:Tb}{D:List Int}{a:Int} : a∈restL t D↔a∈dl t.rows∧a∉D:=by
 unfold restL;rw[qH,pg,←qc,gh]
theorem clean_iff{t:Tb}(g:TbC t){cs:List Cn}(h:∀c∈cs,eg t c=0)(D:List Int):(∀c∈cs,cnR (kT (restL t D) t) c=[])↔kJ (gj (gx t cs)) D=true:=by
 have hE:∀d∈gx t cs,EdgL t.rows d:=fun d hd=>iY g h hd
 have hm:=(io (l:=gx t cs) fun e he=>(hE e he).1).mem;rw[lr];constructor
 ·intro hc e he;have hM:=(hm e).1 he;obtain⟨c,h1,h2⟩:=List.mem_flatMap.1 hM.1
  refine Classical.byContradiction fun hn=>?_
  have hk:∀a∈e,a∈restL t D:=fun a ha=>restL_mem.2 ⟨(hE e hM.1).2.2.2 a ha,fun hD=>hn ⟨a,ha,hD⟩⟩
  have:=(cnR_kR (K:=restL t D) g.ids).2 ⟨h2,hk⟩;rw[hc c h1]at this;cases this
 ·intro hh c h1
  refine List.eq_nil_iff_forall_not_mem.2 fun x hx=>?_
  obtain⟨h2,h3⟩:=(cnR_kR g.ids).1 hx;have hxa:x∈gx t cs:=List.mem_flatMap.2 ⟨c,h1,h2⟩;obtain⟨e,hM,hs⟩:=min_below hxa;obtain⟨a,ha,hD⟩:=hh e ((hm e).2 hM);exact(restL_mem.1 (h3 a (hs a ha))).2 hD
theorem edges_more{t:Tb}(g:TbC t){cs:List Cn}{c:Cn}(h:∀c∈cs,eg t c=0)(hc:eg t c=0){D:List Int}(hh:kJ (gj (gx t (cs++[c]))) D=true):kJ (gj (gx t cs)) D=true:=by
 have h2:∀c'∈cs++[c],eg t c'=0:=fun c' hm=>by
  rcases List.mem_append.1 hm with q | q
  ·exact h c' q
  ·rw[pe]at q;rw[q];exact hc
 rw[←clean_iff g h2]at hh;rw[←clean_iff g h]
 exact fun c' hm=>hh c' (qx _ hm)
def wI:List Int→List Int→List Int→Int
 | a::I,w::ws,D=>(if iI D a=true then w else 0)+wI I ws D
 | _,_,_=>0
theorem nW:∀(I ws:List Int) {D D':List Int},(∀a∈I,a∈D↔a∈D')→wI I ws D=wI I ws D'
 | [],_,_,_,_=>by simp[wI]
 | a::I,[],_,_,_=>by simp[wI]
 | a::I,w::ws,D,D',h=>by
  rw[wI,wI,nW I ws fun b hb=>h b (pZ _ hb)]
  have:iI D a=iI D' a:=by rw[qo,gh,gh];exact h a (pW ..)
  rw[this]
theorem wI_mono:∀(I ws ws':List Int) (D:List Int),ws.length=ws'.length→(∀(i:Nat) (h:i<ws.length) (h':i<ws'.length),ws[i]≤ws'[i])→wI I ws D≤wI I ws' D
 | [],_,_,_,_,_=>by simp[wI]
 | a::I,[],[],_,_,_=>by simp[wI]
 | a::I,w::ws,w'::ws',D,hl,h=>by
  have h1:=wI_mono I ws ws' D (by simpa using hl) (fun i hi hi'=>by have:=h (i+1) (by simpa using hi) (by simpa using hi');simpa using this);have h2:=h 0 (by simp) (by simp);simp only[List.getElem_cons_zero]at h2;rw[wI,wI];split<;>omega
 | a::I,[],w'::ws',_,hl,_=>by simp at hl
 | a::I,w::ws,[],_,hl,_=>by simp at hl
theorem kD:∀(I ws:List Int) (D:List Int) (i:Nat) (h:i<I.length) (h':i<ws.length),wI I ws D=wI (I.eraseIdx i) (ws.eraseIdx i) D+(if iI D I[i]=true then ws[i] else 0)
 | [],_,_,i,h,_=>by simp at h
 | a::I,[],_,i,_,h'=>by simp at h'
 | a::I,w::ws,D,0,_,_=>by
  simp only[List.eraseIdx_cons_zero,List.getElem_cons_zero];rw[wI];omega
 | a::I,w::ws,D,i+1,h,h'=>by
  have:=kD I ws D i (by simpa using h) (by simpa using h');simp only[List.eraseIdx_cons_succ,List.getElem_cons_succ];rw[wI,wI,this];omega
structure MinI (I ws:List Int) (E:List (List Int)) (m:Int):Prop where
 at_:∃D,kJ E D=true∧wI I ws D=m
 le:∀D,kJ E D=true→m≤wI I ws D
theorem MinI.mono{I ws ws':List Int}{E E':List (List Int)}{m m':Int}(h:MinI I ws E m)(h':MinI I ws' E' m')(hE:∀D,kJ E' D=true→kJ E D=true)(hl:ws.length=ws'.length)(hw:∀(i:Nat) (h:i<ws.length) (h':i<ws'.length),ws[i]≤ws'[i]):m≤m':=by
 obtain⟨D,h1,h2⟩:=h'.at_;have:=h.le D (hE D h1);have:=wI_mono I ws ws' D hl hw;omega
theorem MinI.less{I ws:List Int}{E:List (List Int)}{m m':Int}{i:Nat}(hi:i<I.length)(hw:i<ws.length)(hn:I.Nodup)(hE:∀e∈E,∀a∈e,a∈I)(hp:∀w∈ws,0≤w)(h:MinI I ws E m)(h':MinI (I.eraseIdx i) (ws.eraseIdx i) (E.filter fun e=>je e (I.eraseIdx i)) m'):m'≤m∧m≤m'+ws[i]:=by
 have hmem:∀a,a∈I.eraseIdx i↔a∈I∧a≠I[i]:=fun a=>by
  rw[List.mem_eraseIdx_iff_getElem];constructor
  ·rintro⟨j,hj,hji,rfl⟩;refine⟨ow hj,fun e=>hji ?_⟩;have:=List.pairwise_iff_getElem.1 hn
   rcases rA j i with q | q | q
   ·exact absurd e (this j i hj hi q)
   ·exact q
   ·exact absurd e.symm (this i j hi hj q)
  ·rintro⟨h1,h2⟩;obtain⟨j,hj,rfl⟩:=List.mem_iff_getElem.1 h1;exact⟨j,hj,fun e=>h2 (by subst e;rfl),rfl⟩
 have h0:0≤ws[i]:=hp _ (ow hw);constructor
 ·obtain⟨D,h1,h2⟩:=h.at_
  have h3:kJ (E.filter fun e=>je e (I.eraseIdx i)) D=true:=by
   rw[lr]at h1 ⊢
   exact fun e he=>h1 e (List.mem_filter.1 he).1
  have:=h'.le D h3;rw[kD I ws D i hi hw]at h2;split at h2<;>omega
 ·obtain⟨D,h1,h2⟩:=h'.at_
  have h3:kJ E (I[i]::D)=true:=by
   rw[lr]at h1 ⊢;intro e he;by_cases hm:I[i]∈e
   ·exact⟨I[i],hm,pW ..⟩
   ·obtain⟨a,q1,q2⟩:=h1 e (List.mem_filter.2 ⟨he,iO.2 fun a ha=>(hmem a).2 ⟨hE e he a ha,fun e'=>hm (e'▸ha)⟩⟩);exact⟨a,q1,pZ _ q2⟩
  have h4:=h.le _ h3
  rw[kD I ws _ i hi hw,if_pos (gh.2 (pW ..)),nW (D':=D) _ _ fun a ha=>by
   rw[pD]
   exact⟨fun hh=>hh.elim (fun e=>absurd e ((hmem a).1 ha).2) id,.inr⟩]at h4
  omega
def all3(I:List Int):List (List Int):=[]::((I.map fun a=>[a])++((I.flatMap fun a=>I.map fun b=>[a,b])++I.flatMap fun a=>I.flatMap fun b=>I.map fun c=>[a,b,c]))
theorem all3_mem{I x:List Int}(h:∀a∈x,a∈I)(hl:x.length≤3):x∈all3 I:=by
 unfold all3
 match x,hl with
 | [],_=>simp
 | [a],_=>exact pZ _ (qx _ (List.mem_map.2 ⟨a,h a (by simp),rfl⟩))
 | [a,b],_=>exact pZ _ (qe _ (qx _ (List.mem_flatMap.2 ⟨a,h a (by simp),List.mem_map.2 ⟨b,h b (by simp),rfl⟩⟩)))
 | [a,b,c],_=>exact pZ _ (qe _ (qe _ (List.mem_flatMap.2 ⟨a,h a (by simp),List.mem_flatMap.2 ⟨b,h b (by simp),List.mem_map.2 ⟨c,h c (by simp),rfl⟩⟩⟩)))
 | _::_::_::_::_,hl=>simp at hl
theorem all3_len{I:List Int}(h:I.length≤8):(all3 I).length≤585:=by
 have h2:(I.flatMap fun a=>I.map fun b=>[a,b]).length≤64:=by
  have:=ja I (f:=fun a=>I.map fun b=>[a,b]) (k:=8) fun a _=>by rw[pc];exact h
  have:=pN 8 h;omega
 have h3:(I.flatMap fun a=>I.flatMap fun b=>I.map fun c=>[a,b,c]).length≤512:=by
  have:=ja I (f:=fun a=>I.flatMap fun b=>I.map fun c=>[a,b,c]) (k:=64) fun a _=>by
   have:=ja I (f:=fun b=>I.map fun c=>[a,b,c]) (k:=8) fun b _=>by rw[pc];exact h
   have:=pN 8 h;omega
  have:=pN 64 h;omega
 unfold all3;rw[pk,pK,pK,pc];omega
theorem edges_585{t:Tb}{cs:List Cn}(hb:BdOk t cs)(h0:db t cs=0):(gj (gx t cs)).length≤585:=by
 obtain⟨h1,h2,h3⟩:=hU h0;have g:=tbC h1
 have h8:t.rows.length≤8:=by have:=hb.rows;omega
 have hM:=io (l:=gx t cs) fun e he=>(iY g h3 he).1
 have hn:(gj (gx t cs)).Nodup:=hM.ord.imp fun {a b} hab e=>by subst e;rw[ln]at hab;cases hab
 have hs:∀e∈gj (gx t cs),e∈all3 (dl t.rows):=fun e he=>by
  obtain⟨_,_,q3,q4⟩:=iY g h3 ((hM.mem e).1 he).1;exact all3_mem q4 q3
 have:=hn.length_le_of_subset hs;have:=all3_len (I:=dl t.rows) (by rw[gv];exact h8);omega
def wOf(n:Nat)(cs:List Int):List Int:=if cs=[] then [] else(pG n).map fun i=>1+(cs.getD (i % cs.length) 0).tmod 20
theorem wOf_rng{n:Nat}{cs:List Int}(h:∀c∈cs,0≤c∧c<256):∀w∈wOf n cs,1≤w∧w≤20:=fun w hw=>by
 unfold wOf at hw;split at hw
 ·cases hw
 ·rename_i h0;obtain⟨i,_,rfl⟩:=List.mem_map.1 hw;have hl:0<cs.length:=List.length_pos_iff.2 h0;have hi:=sD i hl
  have hg:cs.getD (i % cs.length) 0=cs[i % cs.length]:=by simp[qZ,hi]
  have hc:=h _ (ow hi);rw[hg];have a1:=pw 20 hc.1;have a2:=pq cs[i % cs.length] (show(0:Int)<20 by omega);omega
theorem wOf_len(n:Nat)(cs:List Int):wOf n cs=[]∨(wOf n cs).length=n:=by
 unfold wOf;split
 ·exact .inl rfl
 ·exact .inr (by simp)
def inW(t:Tb)(w:List Int):List Int:=if w=[] then ou t.rows.length 1 else w
theorem iA{t:Tb}{w:List Int}(h:w=[]∨w.length=t.rows.length):(inW t w).length=t.rows.length:=by
 unfold inW;split
 ·simp
 ·rename_i h0
  rcases h with h | h
  ·exact absurd h h0
  ·exact h
theorem inW_rng{t:Tb}{w:List Int}(h:∀x∈w,1≤x∧x≤1000000):∀x∈inW t w,1≤x∧x≤1000000:=fun x hx=>by
 unfold inW at hx;split at hx
 ·obtain⟨_,rfl⟩:=List.mem_replicate.1 hx;omega
 ·exact h x hx
def inE(t:Tb)(cs:List Cn):List (List Nat):=(gj (gx t cs)).map (ixE (dl t.rows))
def butL(D:List Int)(a:Int):List Int:=D.filter fun x=>!decide (x=a)
def plE(I D:List Int):Int:=if asc D=true then(if je D I=true then 0 else 4) else 1
theorem plE_ok{I D:List Int}(h:plE I D=0):D.Pairwise (· < ·)∧∀a∈D,a∈I:=by
 unfold plE at h;split at h
 ·rename_i h1;split at h
  ·rename_i h2;exact⟨(jJ D).1 h1,iO.1 h2⟩
  ·cases h
 ·cases h
theorem plE_of{I D:List Int}(h1:D.Pairwise (· < ·))(h2:∀a∈D,a∈I):plE I D=0:=by
 unfold plE;rw[if_pos ((jJ D).2 h1),if_pos (iO.2 h2)]
def minB(E:List (List Int))(D:List Int):Bool:=kJ E D&&D.all fun a=>!kJ E (butL D a)
end
end Go.Proofs.YtjogkbekekdkjaaGreatDoor
