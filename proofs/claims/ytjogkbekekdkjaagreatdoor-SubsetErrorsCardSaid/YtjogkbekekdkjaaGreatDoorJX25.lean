/- JX25: own texts of this seat, joined and shortened by pack4.py: SB1, SB2, SB5, SB4. -/
import Derived.Test.YtjogkbekekdkjaaGreatDoorJX24
set_option linter.unusedVariables false
set_option linter.unusedSimpArgs false
set_option maxRecDepth 100000
set_option maxHeartbeats 64000000
open Bool renaming not_eq_true'→sL,eq_iff_iff→sb,not_eq_true→sg
open Int renaming tmod_lt_of_pos→sR,tmod_nonneg→sW
open List renaming replicate→rO,getElem_mem→rQ,range→rh,length_append→ri,length_cons→sB,mem_cons_self→sE,mem_cons_of_mem→sG,all_eq_true→sH,length_map→sK,getD→tO,mem_filter→tX,mem_append_right→tf,any_eq_true→uO,mem_append_left→uT,pairwise_map→uV
open Nat renaming mul_le_mul_right→ro,lt_or_ge→sy,lt_trichotomy→uG,mod_lt→uX
namespace Go.Proofs.YtjogkbekekdkjaaGreatDoor
section
open Go Go.AM
theorem gZ{vs:List Int}(ha:asc vs=true){x:Int}(hx:x∈vs):∃(h:bsP vs x<vs.length),vs[bsP vs x]=x:=by
 have:=bsF_mem ha x;rw[bI.2 hx]at this;have h2:=beq_iff_eq.1 this;obtain⟨h3,h4⟩:=List.getElem?_eq_some_iff.1 h2;exact⟨h3,h4⟩
theorem bsP_ix{vs:List Int}(ha:asc vs=true){i:Nat}(hi:i<vs.length):bsP vs vs[i]=i:=by
 obtain⟨h1,h2⟩:=gZ ha (rQ hi)
 rcases uG (bsP vs vs[i]) i with h | h | h
 ·have:=lV ha _ _ h1 hi h;omega
 ·exact h
 ·have:=lV ha _ _ hi h1 h;omega
theorem bsP_lt{vs:List Int}(ha:asc vs=true){a b:Int}(hA:a∈vs)(hB:b∈vs)(h:a<b):bsP vs a<bsP vs b:=by
 obtain⟨h1,e1⟩:=gZ ha hA;obtain⟨h2,e2⟩:=gZ ha hB
 rcases uG (bsP vs a) (bsP vs b) with q | q | q
 ·exact q
 ·have:vs[bsP vs a]=vs[bsP vs b]:=by congr 1
  omega
 ·have:=lV ha _ _ h2 h1 q;omega
def ixE(vs:List Int)(e:List Int):List Nat:=e.map (bsP vs)
theorem ixE_ok{vs:List Int}{es:List (List Int)}(h:Hyp vs es){e:List Int}(he:e∈es):ixE vs e≠[]∧(ixE vs e).Pairwise (· < ·)∧∀v∈ixE vs e,v<vs.length:=by
 have ha:=(dr vs).2 h.va;refine⟨fun e0=>h.ne e he (by simpa[ixE] using e0),?_,fun v hv=>?_⟩
 ·unfold ixE;rw[uV];refine List.Pairwise.imp_of_mem ?_ (h.ea e he);intro a b hA hB hab;exact bsP_lt ha (h.sub e he a hA) (h.sub e he b hB) hab
 ·obtain⟨a,hA,rfl⟩:=List.mem_map.1 hv;exact(gZ ha (h.sub e he a hA)).1
theorem min_below{l:List (List Int)}{x:List Int}(hx:x∈l):∃e,MinM l e∧∀a∈e,a∈x:=by
 obtain⟨n,⟨e,h1,h2,h3⟩,hn⟩:=first_nat (p:=fun n=>∃e∈l,(∀a∈e,a∈x)∧e.length=n) x.length ⟨x,hx,fun a h=>h,rfl⟩;refine⟨e,⟨h1,fun d hd hs=>?_⟩,h2⟩
 rcases sy d.length e.length with q | q
 ·exact absurd ⟨d,hd,fun a ha=>h2 a (hs a ha),rfl⟩ (hn d.length (by omega))
 ·exact q
def eA(es:List (List Int))(D:List Int):Bool:=es.all fun e=>e.any fun a=>bj D a
theorem qD{es:List (List Int)}{D:List Int} : eA es D=true↔∀e∈es,∃a∈e,a∈D:=by
 unfold eA;rw[sH]
 refine forall_congr' fun e=>forall_congr' fun _=>?_
 rw[uO];exact⟨fun⟨a,h1,h2⟩=>⟨a,h1,bI.1 h2⟩,fun⟨a,h1,h2⟩=>⟨a,h1,bI.2 h2⟩⟩
def fF(t:Tb)(D:List Int):List Int:=(aa t.rows).filter fun a=>!bj D a
theorem restL_mem{t:Tb}{D:List Int}{a:Int} : a∈fF t D↔a∈aa t.rows∧a∉D:=by
 unfold fF;rw[tX,sL,←sg,bI]
theorem clean_iff{t:Tb}(g:TbC t){cs:List Cn}(h:∀c∈cs,ac t c=0)(D:List Int):(∀c∈cs,cnR (kT (fF t D) t) c=[])↔eA (ak (bQ t cs)) D=true:=by
 have hE:∀d∈bQ t cs,EdgL t.rows d:=fun d hd=>eQ g h hd
 have hm:=(iM (l:=bQ t cs) fun e he=>(hE e he).1).mem;rw[qD];constructor
 ·intro hc e he;have hM:=(hm e).1 he;obtain⟨c,h1,h2⟩:=List.mem_flatMap.1 hM.1
  refine Classical.byContradiction fun hn=>?_
  have hk:∀a∈e,a∈fF t D:=fun a ha=>restL_mem.2 ⟨(hE e hM.1).2.2.2 a ha,fun hD=>hn ⟨a,ha,hD⟩⟩
  have:=(cnR_kR (K:=fF t D) g.ids).2 ⟨h2,hk⟩;rw[hc c h1]at this;cases this
 ·intro hh c h1
  refine List.eq_nil_iff_forall_not_mem.2 fun x hx=>?_
  obtain⟨h2,h3⟩:=(cnR_kR g.ids).1 hx;have hxa:x∈bQ t cs:=List.mem_flatMap.2 ⟨c,h1,h2⟩;obtain⟨e,hM,hs⟩:=min_below hxa;obtain⟨a,ha,hD⟩:=hh e ((hm e).2 hM);exact(restL_mem.1 (h3 a (hs a ha))).2 hD
def wI:List Int→List Int→List Int→Int
 | a::I,w::ws,D=>(if bj D a=true then w else 0)+wI I ws D
 | _,_,_=>0
theorem wI_congr:∀(I ws:List Int) {D D':List Int},(∀a∈I,a∈D↔a∈D')→wI I ws D=wI I ws D'
 | [],_,_,_,_=>by simp[wI]
 | a::I,[],_,_,_=>by simp[wI]
 | a::I,w::ws,D,D',h=>by
  rw[wI,wI,wI_congr I ws fun b hb=>h b (sG _ hb)]
  have:bj D a=bj D' a:=by rw[sb,bI,bI];exact h a (sE ..)
  rw[this]
theorem nB:∀(I ws:List Int) (D:List Int),(∀w∈ws,0≤w)→0≤wI I ws D
 | [],_,_,_=>by simp[wI]
 | a::I,[],_,_=>by simp[wI]
 | a::I,w::ws,D,h=>by
  have h1:=nB I ws D fun x hx=>h x (sG _ hx)
  have h2:=h w (sE ..);rw[wI];split<;>omega
theorem lY:∀(I ws:List Int) (D:List Int) (i:Nat) (h:i<I.length) (h':i<ws.length),wI I ws D=wI (I.eraseIdx i) (ws.eraseIdx i) D+(if bj D I[i]=true then ws[i] else 0)
 | [],_,_,i,h,_=>by simp at h
 | a::I,[],_,i,_,h'=>by simp at h'
 | a::I,w::ws,D,0,_,_=>by
  simp only[List.eraseIdx_cons_zero,List.getElem_cons_zero];rw[wI];omega
 | a::I,w::ws,D,i+1,h,h'=>by
  have:=lY I ws D i (by simpa using h) (by simpa using h');simp only[List.eraseIdx_cons_succ,List.getElem_cons_succ];rw[wI,wI,this];omega
structure MinI (I ws:List Int) (E:List (List Int)) (m:Int):Prop where
 at_:∃D,eA E D=true∧wI I ws D=m
 le:∀D,eA E D=true→m≤wI I ws D
theorem MinI.unique{I ws:List Int}{E:List (List Int)}{m m':Int}(h:MinI I ws E m)(h':MinI I ws E m'):m=m':=by
 obtain⟨D,h1,h2⟩:=h.at_;obtain⟨D',h3,h4⟩:=h'.at_;have:=h.le D' h3;have:=h'.le D h1;omega
def all3(I:List Int):List (List Int):=[]::((I.map fun a=>[a])++((I.flatMap fun a=>I.map fun b=>[a,b])++I.flatMap fun a=>I.flatMap fun b=>I.map fun c=>[a,b,c]))
theorem all3_mem{I x:List Int}(h:∀a∈x,a∈I)(hl:x.length≤3):x∈all3 I:=by
 unfold all3
 match x,hl with
 | [],_=>simp
 | [a],_=>exact sG _ (uT _ (List.mem_map.2 ⟨a,h a (by simp),rfl⟩))
 | [a,b],_=>exact sG _ (tf _ (uT _ (List.mem_flatMap.2 ⟨a,h a (by simp),List.mem_map.2 ⟨b,h b (by simp),rfl⟩⟩)))
 | [a,b,c],_=>exact sG _ (tf _ (tf _ (List.mem_flatMap.2 ⟨a,h a (by simp),List.mem_flatMap.2 ⟨b,h b (by simp),List.mem_map.2 ⟨c,h c (by simp),rfl⟩⟩⟩)))
 | _::_::_::_::_,hl=>simp at hl
theorem all3_len{I:List Int}(h:I.length≤8):(all3 I).length≤585:=by
 have h2:(I.flatMap fun a=>I.map fun b=>[a,b]).length≤64:=by
  have:=gA I (f:=fun a=>I.map fun b=>[a,b]) (k:=8) fun a _=>by rw[sK];exact h
  have:=ro 8 h;omega
 have h3:(I.flatMap fun a=>I.flatMap fun b=>I.map fun c=>[a,b,c]).length≤512:=by
  have:=gA I (f:=fun a=>I.flatMap fun b=>I.map fun c=>[a,b,c]) (k:=64) fun a _=>by
   have:=gA I (f:=fun b=>I.map fun c=>[a,b,c]) (k:=8) fun b _=>by rw[sK];exact h
   have:=ro 8 h;omega
  have:=ro 64 h;omega
 unfold all3;rw[sB,ri,ri,sK];omega
theorem edges_585{t:Tb}{cs:List Cn}(hb:BdOk t cs)(h0:aV t cs=0):(ak (bQ t cs)).length≤585:=by
 obtain⟨h1,h2,h3⟩:=cG h0;have g:=tbC h1
 have h8:t.rows.length≤8:=by have:=hb.rows;omega
 have hM:=iM (l:=bQ t cs) fun e he=>(eQ g h3 he).1
 have hn:(ak (bQ t cs)).Nodup:=hM.ord.imp fun {a b} hab e=>by subst e;rw[gU]at hab;cases hab
 have hs:∀e∈ak (bQ t cs),e∈all3 (aa t.rows):=fun e he=>by
  obtain⟨_,_,q3,q4⟩:=eQ g h3 ((hM.mem e).1 he).1;exact all3_mem q4 q3
 have:=hn.length_le_of_subset hs;have:=all3_len (I:=aa t.rows) (by rw[bC];exact h8);omega
def wOf(n:Nat)(cs:List Int):List Int:=if cs=[] then [] else(rh n).map fun i=>1+(cs.getD (i % cs.length) 0).tmod 20
theorem wOf_rng{n:Nat}{cs:List Int}(h:∀c∈cs,0≤c∧c<256):∀w∈wOf n cs,1≤w∧w≤20:=fun w hw=>by
 unfold wOf at hw;split at hw
 ·cases hw
 ·rename_i h0;obtain⟨i,_,rfl⟩:=List.mem_map.1 hw;have hl:0<cs.length:=List.length_pos_iff.2 h0;have hi:=uX i hl
  have hg:cs.getD (i % cs.length) 0=cs[i % cs.length]:=by simp[tO,hi]
  have hc:=h _ (rQ hi);rw[hg];have a1:=sW 20 hc.1;have a2:=sR cs[i % cs.length] (show(0:Int)<20 by omega);omega
theorem wOf_len(n:Nat)(cs:List Int):wOf n cs=[]∨(wOf n cs).length=n:=by
 unfold wOf;split
 ·exact .inl rfl
 ·exact .inr (by simp)
def inW(t:Tb)(w:List Int):List Int:=if w=[] then rO t.rows.length 1 else w
theorem bt{t:Tb}{w:List Int}(h:w=[]∨w.length=t.rows.length):(inW t w).length=t.rows.length:=by
 unfold inW;split
 ·simp
 ·rename_i h0
  rcases h with h | h
  ·exact absurd h h0
  ·exact h
theorem inW_rng{t:Tb}{w:List Int}(h:∀x∈w,1≤x∧x≤1000000):∀x∈inW t w,1≤x∧x≤1000000:=fun x hx=>by
 unfold inW at hx;split at hx
 ·obtain⟨_,rfl⟩:=List.mem_replicate.1 hx;omega
 ·exact h x hx
def inE(t:Tb)(cs:List Cn):List (List Nat):=(ak (bQ t cs)).map (ixE (aa t.rows))
def gp(D:List Int)(a:Int):List Int:=D.filter fun x=>!decide (x=a)
def plE(I D:List Int):Int:=if asc D=true then(if dM D I=true then 0 else 4) else 1
theorem plE_ok{I D:List Int}(h:plE I D=0):D.Pairwise (· < ·)∧∀a∈D,a∈I:=by
 unfold plE at h;split at h
 ·rename_i h1;split at h
  ·rename_i h2;exact⟨(dr D).1 h1,dy.1 h2⟩
  ·cases h
 ·cases h
theorem plE_of{I D:List Int}(h1:D.Pairwise (· < ·))(h2:∀a∈D,a∈I):plE I D=0:=by
 unfold plE;rw[if_pos ((dr D).2 h1),if_pos (dy.2 h2)]
def minB(E:List (List Int))(D:List Int):Bool:=eA E D&&D.all fun a=>!eA E (gp D a)
end
end Go.Proofs.YtjogkbekekdkjaaGreatDoor
