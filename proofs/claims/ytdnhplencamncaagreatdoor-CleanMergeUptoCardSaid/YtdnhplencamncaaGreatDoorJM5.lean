/- JM5: own texts of this seat, joined and shortened by pack4.py: AMe. -/
import Derived.Test.YtdnhplencamncaaGreatDoorJM4
set_option linter.unusedVariables false
set_option linter.unusedSimpArgs false
set_option maxRecDepth 100000
set_option maxHeartbeats 64000000
open Bool renaming and_eq_true→oP,false_eq_true→oZ,or_eq_true→pW,eq_false_iff→rS
open List renaming replicate→oE,getElem?_eq_getElem→oG,mem_of_getElem?→oH,getElem?_append_left→oL,range→oM,getElem?_set_ne→oQ,getElem?_append_right→oS,append_nil→oU,getElem?_set_self→oX,getElem?_map→oc,length_cons→og,append_assoc→oh,map_congr_left→oo,getElem?_take→pD,nil_append→pH,getElem?_eq_none→pK,getElem?_drop→pP,mem_of_mem_take→pQ,all_eq_true→pR,ext_getElem?→pT,take_append_drop→pc,mem_of_mem_drop→pq,mem_append→qB,length_nil→qD,getElem?_range→qZ,contains_iff_mem→qc,singleton_append→rB,replicate_zero→rG
open Nat renaming le_refl→oJ,mul_le_mul_right→ol,lt_of_lt_of_le→om,add_mul→ov,zero_add→pI,beq→pO,sub_self→px,lt_succ_self→qL,eq_of_beq_eq_true→qm,strongRecOn→rK
section
namespace Go.AM
open Go
def eqL(f:V→V→Bool):List V→List V→Bool
 | [],[]=>true
 | x::xs,y::ys=>f x y&&eqL f xs ys
 | _,_=>false
def eqV:Nat→V→V→Bool
 | 0,_,_=>false
 | d+1,a,b=>match a,b with
  | .undef,.undef=>true
  | .bool x,.bool y=>x == y
  | .int k x,.int k' y=>decide (k=k')&&x == y
  | .str x,.str y=>x.data.toList == y.data.toList
  | .nilS,.nilS=>true
  | .lst z f xs,.lst z' f' ys=>z == z'&&f == f'&&eqL (eqV d) xs ys
  | .buf k o l t,.buf k' o' l' t'=>k == k'&&o == o'&&l == l'&&t == t'
  | .nilP,.nilP=>true
  | .ptr k o,.ptr k' o'=>k == k'&&o == o'
  | .pin cs o,.pin ds o'=>o == o'&&eqL (eqV d) cs ds
  | .pbuf k o l t,.pbuf k' o' l' t'=>k == k'&&o == o'&&l == l'&&t == t'
  | .sarr k n,.sarr k' n'=>k == k'&&n == n'
  | .nilM,.nilM=>true
  | .map k,.map k'=>k == k'
  | .fn f cs,.fn g ds=>f == g&&eqL (eqV d) cs ds
  | .nilFn,.nilFn=>true
  | .nilI,.nilI=>true
  | .ifc,.ifc=>true
  | .agg cs,.agg ds=>eqL (eqV d) cs ds
  | .tup cs,.tup ds=>eqL (eqV d) cs ds
  | _,_=>false
theorem dy{f:V→V→Bool}(h:∀x y,f x y=true→x=y):∀{xs ys:List V},eqL f xs ys=true→xs=ys
 | [],[],_=>rfl
 | [],_::_,h'=>by simp[eqL]at h'
 | _::_,[],h'=>by simp[eqL]at h'
 | x::xs,y::ys,h'=>by
  simp only[eqL,oP]at h';rw[h x y h'.1,dy h h'.2]
theorem dG:∀(d:Nat) (a b:V),eqV d a b=true→a=b
 | 0,a,b,h=>by simp[eqV]at h
 | d+1,a,b,h=>by
  have ih:=dG d
  cases a<;>cases b<;>simp only[eqV,oP,beq_iff_eq,decide_eq_true_eq,oZ]at h<;>try rfl
  ·rw[h]
  ·rw[h.1,h.2]
  ·rename_i x y;cases x;cases y;have h:=Array.toList_inj.1 h;simp only at h;rw[h]
  ·rw[h.1.1,h.1.2,dy ih h.2]
  ·rw[h.1.1.1,h.1.1.2,h.1.2,h.2]
  ·rw[h.1,h.2]
  ·rw[h.1,dy ih h.2]
  ·rw[h.1.1.1,h.1.1.2,h.1.2,h.2]
  ·rw[h.1,h.2]
  ·rw[h]
  ·rw[h.1,dy ih h.2]
  ·rw[dy ih h]
  ·rw[dy ih h]
def eqE:List (V×V)→List (V×V)→Bool
 | [],[]=>true
 | x::xs,y::ys=>eqV 40 x.1 y.1&&eqV 40 x.2 y.2&&eqE xs ys
 | _,_=>false
theorem eqE_eq:∀{xs ys:List (V×V)},eqE xs ys=true→xs=ys
 | [],[],_=>rfl
 | [],_::_,h'=>by simp[eqE]at h'
 | _::_,[],h'=>by simp[eqE]at h'
 | (a,b)::xs,(c,d)::ys,h'=>by
  simp only[eqE,oP]at h';rw[dG _ _ _ h'.1.1,dG _ _ _ h'.1.2,eqE_eq h'.2]
def eqB:B→B→Bool
 | .cells cs,.cells ds=>eqL (eqV 40) cs ds
 | .map kk es,.map kk' es'=>decide (kk=kk')&&eqE es es'
 | .buf e z xs f,.buf e' z' xs' f'=>e == e'&&z == z'&&f == f'&&eqL (eqV 40) xs xs'
 | _,_=>false
theorem eqB_eq(a b:B)(h:eqB a b=true):a=b:=by
 cases a<;>cases b<;>simp only[eqB,oP,beq_iff_eq,decide_eq_true_eq,oZ]at h
 ·rw[dy (dG 40) h]
 ·rw[h.1,eqE_eq h.2]
 ·rw[h.1.1.1,h.1.1.2,h.1.2,dy (dG 40) h.2]
def eqH:List B→List B→Bool
 | [],[]=>true
 | x::xs,y::ys=>eqB x y&&eqH xs ys
 | _,_=>false
theorem eqH_eq:∀{xs ys:List B},eqH xs ys=true→xs=ys
 | [],[],_=>rfl
 | [],_::_,h'=>by simp[eqH]at h'
 | _::_,[],h'=>by simp[eqH]at h'
 | a::xs,b::ys,h'=>by
  simp only[eqH,oP]at h';rw[eqB_eq _ _ h'.1,eqH_eq h'.2]
inductive Cl (n:Nat):V→Prop
 | undef:Cl n .undef
 | bool (b:Bool):Cl n (.bool b)
 | int (k:IntKind) (m:Int):Cl n (.int k m)
 | str (x:ByteArray):Cl n (.str x)
 | nilS:Cl n .nilS
 | lst (z:Nat) (full:Bool) (xs:List V) (h:∀x∈xs,∀c∈x.cells,Cl n c):Cl n (.lst z full xs)
 | buf (k off len tot:Nat) (h:k<n):Cl n (.buf k off len tot)
 | nilP:Cl n .nilP
 | ptr (k off:Nat) (h:k<n):Cl n (.ptr k off)
 | pin (cs:List V) (off:Nat) (h:∀c∈cs.drop off,Cl n c):Cl n (.pin cs off)
 | pbuf (k i off tot:Nat) (h:k<n):Cl n (.pbuf k i off tot)
 | sarr (k m:Nat) (h:k<n):Cl n (.sarr k m)
 | nilM:Cl n .nilM
 | map (k:Nat) (h:k<n):Cl n (.map k)
 | fn (f:FuncId) (caps:List V) (h:∀c∈caps,Cl n c):Cl n (.fn f caps)
 | nilFn:Cl n .nilFn
 | nilI:Cl n .nilI
 | ifc:Cl n .ifc
 | agg (cs:List V) (h:∀c∈cs,Cl n c):Cl n (.agg cs)
 | tup (vs:List V) (h:∀c∈vs,Cl n c):Cl n (.tup vs)
theorem iT{p:V→Prop}{cs:List V}{us:Array Value}(hl:us.size=cs.length)(h:∀(i:Nat) c u,cs[i]?=some c→us[i]?=some u→p c):∀c∈cs,p c:=fun c hc=>by
 obtain⟨i,hi,rfl⟩:=List.mem_iff_getElem.1 hc;exact h i _ us[i] (oG hi) (by simp)
theorem Rel.cl{s:St}{v:V}{u:Value}(h:Rel s v u):Cl s.H.length v:=by
 induction h with
 | undef u=>exact .undef
 | bool b=>exact .bool b
 | int k n=>exact .int k n
 | str x=>exact .str x
 | nilS=>exact .nilS
 | lst z full xs A cap b off u hcap hfull hA hz hcell hrel ih =>
  refine .lst z full xs fun x hx c hc=>?_
  obtain⟨i,hi⟩:=List.mem_iff_getElem?.1 hx;obtain⟨j,hj⟩:=List.mem_iff_getElem?.1 hc;exact ih i x j c hi hj
 | buf k off len tot e z xs fz A l c hk ht hh=>exact .buf _ _ _ _ (aB hk)
 | nilP=>exact .nilP
 | ptr k off cs hk=>exact .ptr _ _ (aB hk)
 | pin cs off b o u hp h1 hcell hrel ih =>
  refine .pin cs off fun c hc=>?_
  obtain⟨j,hj⟩:=List.mem_iff_getElem?.1 hc;rw[pP]at hj;exact ih j c hj
 | pbuf k i off tot e z xs fz p hk ht hh=>exact .pbuf _ _ _ _ (aB hk)
 | sarr k n cs hk=>exact .sarr _ _ (aB hk)
 | nilM=>exact .nilM
 | map k kk es hk=>exact .map _ (aB hk)
 | fn f caps us hl hh ih=>exact .fn f caps (iT hl ih)
 | nilFn=>exact .nilFn
 | nilI=>exact .nilI
 | ifc t x=>exact .ifc
 | agg cs us hl h1 hh ih=>exact .agg cs (iT hl ih)
 | tup vs us hl hh ih=>exact .tup vs (iT hl ih)
section
variable {P:Program} {T:Ty} {s:St}
theorem Rel.cut{H G:List B}(hH:s.H=H++G){v:V}{u:Value}(h:Rel s v u)(hc:Cl H.length v):Rel (s.cut H) v u:=by
 have get:∀k bl,k<H.length→s.H[k]?=some bl→(s.cut H).H[k]?=some bl:=fun k bl hk hb=>by rw[hH,oL hk]at hb;exact hb
 induction h with
 | undef u=>exact .undef u
 | bool b=>exact .bool b
 | int k n=>exact .int k n
 | str x=>exact .str x
 | nilS=>exact .nilS
 | lst z full xs A cap b off u hcap hfull hA hz hcell hrel ih =>
  cases hc with
  | lst _ _ _ hx =>
   exact .lst z full xs A cap b off u hcap hfull (fun h0=>⟨(hA h0).1,cU hH (hA h0).2⟩) hz hcell (fun i x j c hi hj=>ih i x j c hi hj (hx x (oH hi) c (oH hj)))
 | buf k off len tot e z xs fz A l c hk ht hh=>cases hc with | buf _ _ _ _ hk'=>exact .buf k off len tot e z xs fz A l c (get k _ hk' hk) ht hh
 | nilP=>exact .nilP
 | ptr k off cs hk=>cases hc with | ptr _ _ hk'=>exact .ptr (s:=s.cut H) k off cs (get k _ hk' hk)
 | pin cs off b o u hp h1 hcell hrel ih =>
  cases hc with
  | pin _ _ hx=>exact .pin cs off b o u (cU hH hp) h1 hcell (fun j c hj=>ih j c hj (hx c (oH (by rw[pP];exact hj))))
 | pbuf k i off tot e z xs fz p hk ht hh=>cases hc with | pbuf _ _ _ _ hk'=>exact .pbuf k i off tot e z xs fz p (get k _ hk' hk) ht hh
 | sarr k n cs hk=>cases hc with | sarr _ _ hk'=>exact .sarr (s:=s.cut H) k n cs (get k _ hk' hk)
 | nilM=>exact .nilM
 | map k kk es hk=>cases hc with | map _ hk'=>exact .map (s:=s.cut H) k kk es (get k _ hk' hk)
 | fn f caps us hl hh ih=>cases hc with | fn _ _ hx=>exact .fn f caps us hl (fun i c u a b=>ih i c u a b (hx c (oH a)))
 | nilFn=>exact .nilFn
 | nilI=>exact .nilI
 | ifc t x=>exact .ifc t x
 | agg cs us hl h1 hh ih=>cases hc with | agg _ hx=>exact .agg cs us hl h1 (fun i c u a b=>ih i c u a b (hx c (oH a)))
 | tup vs us hl hh ih=>cases hc with | tup _ hx=>exact .tup vs us hl (fun i c u a b=>ih i c u a b (hx c (oH a)))
def ClB(n:Nat):B→Prop
 | .cells cs=>∀c∈cs,Cl n c
 | .map _ es=>∀p∈es,Cl n p.1∧Cl n p.2
 | .buf _ _ xs _=>∀x∈xs,∀c∈x.cells,Cl n c
theorem Good.cl(hg:Good s):∀bl∈s.H,ClB s.H.length bl:=fun bl hb=>by
 obtain⟨k,hk⟩:=List.mem_iff_getElem?.1 hb;have h:=hg.blk k bl hk
 cases bl with
 | cells cs=>obtain⟨_,vs,t,_,h3,h4⟩:=h;exact iT h3 (fun i c u a b=>(h4 i c u a b).cl)
 | map kk es =>
  obtain⟨_,ms,t,_,h3,h4⟩:=h;intro p hp;obtain⟨i,hi⟩:=List.mem_iff_getElem?.1 hp;have hl:=aB hi;have:=h4 i p ms[i] hi (by simp);exact⟨this.1.cl,this.2.cl⟩
 | buf e z xs fz =>
  obtain⟨vs,h2,h3,h4,h5,h6,h7⟩:=h;intro x hx c hc;obtain⟨i,hi⟩:=List.mem_iff_getElem?.1 hx;obtain⟨j,hj⟩:=List.mem_iff_getElem?.1 hc;have hil:=aB hi;have hjl:=aB hj;rw[(h6 x hx).1]at hjl
  have hlt:i*z+j<vs.size:=by
   rw[h3];have:(i+1)*z≤s.κ k*z:=ol z (by omega);rw[ov]at this;omega
  exact(h7 i x j c vs[i*z+j] hi hj (by simp[hlt])).cl
theorem cut_good2{H G:List B}(hg:Good s)(hH:s.H=H++G)(hb:∀bl∈H,ClB H.length bl):Good (s.cut H):=by
 refine⟨hg.fl,fun k hk=>hg.lt k (fF hH hk),fun j k hj hk=>hg.inj j k (fF hH hj) (fF hH hk),fun k bl hk=>?_⟩;have hk':H[k]?=some bl:=hk
 have hs:s.H[k]?=some bl:=by rw[hH,oL (aB hk')];exact hk'
 have hr:=hg.blk k bl hs;have hbl:=hb bl (oH hk')
 cases bl with
 | cells cs =>
  obtain⟨h1,vs,t,h2,h3,h4⟩:=hr;exact⟨h1,vs,t,h2,h3,fun i c u a b=>(h4 i c u a b).cut hH (hbl c (oH a))⟩
 | map kk es =>
  obtain⟨h1,ms,cl,h2,h3,h4⟩:=hr;exact⟨h1,ms,cl,h2,h3,fun i p m a b=>⟨(h4 i p m a b).1.cut hH (hbl p (oH a)).1,(h4 i p m a b).2.cut hH (hbl p (oH a)).2⟩⟩
 | buf e z xs fz =>
  obtain⟨vs,h2,h3,h4,h5,h6,h7⟩:=hr;exact⟨vs,h2,h3,h4,h5,h6,fun i x j c u a b d=>(h7 i x j c u a b d).cut hH (hbl x (oH a) c (oH b))⟩
def exL(f:V→Option V):List V→Option (List V)
 | []=>some []
 | x::r=>match f x with
  | some y=>match exL f r with
   | some ys=>some (y::ys)
   | none=>none
  | none=>none
theorem dx{f:V→Option V} : ∀{xs ys:List V},exL f xs=some ys→ys.length=xs.length∧∀(i:Nat) y,ys[i]?=some y→∃x,xs[i]?=some x∧f x=some y
 | [],ys,h=>by simp[exL]at h;subst h;exact⟨rfl,by simp⟩
 | x::r,ys,h=>by
  simp only[exL]at h;split at h
  ·rename_i y hy;split at h
   ·rename_i ys' hr;cases h;obtain⟨h1,h2⟩:=dx hr;refine⟨by simp[h1],fun i y' hi=>?_⟩
    cases i with
    | zero=>simp at hi;subst hi;exact⟨x,rfl,hy⟩
    | succ i=>simpa using h2 i y' (by simpa using hi)
   ·cases h
  ·cases h
def exV(H:List B)(n:Nat):Nat→V→Option V
 | 0,_=>none
 | d+1,v=>match v with
  | .undef=>none
  | .lst z full xs=>match exL (exV H n d) xs with
   | some ys=>some (.lst z full ys)
   | none=>none
  | .buf k off len tot=>if k<n then some v else match H[k]? with
   | some (.buf _ z xs _)=>if tot=xs.length∧off+len≤tot then(match exL (exV H n d) ((xs.drop off).take len) with
    | some ys=>some (.lst z false ys)
    | none=>none) else none
   | _=>none
  | .ptr k _=>if k<n then some v else none
  | .pbuf k _ _ _=>if k<n then some v else none
  | .map k=>if k<n then some v else none
  | .sarr k _=>if k<n then some v else none
  | .pin cs off=>match exL (exV H n d) cs with
   | some ds=>some (.pin ds off)
   | none=>none
  | .fn f caps=>match exL (exV H n d) caps with
   | some ds=>some (.fn f ds)
   | none=>none
  | .agg cs=>match exL (exV H n d) cs with
   | some ds=>some (.agg ds)
   | none=>none
  | .tup cs=>match exL (exV H n d) cs with
   | some ds=>some (.tup ds)
   | none=>none
  | _=>some v
theorem exV_one{H:List B}{n d:Nat}{v v':V}(h:exV H n d v=some v'):v'.one=v.one:=by
 cases d with
 | zero=>simp[exV]at h
 | succ d =>
  cases v<;>simp only[exV]at h<;>first | (cases h;rfl) | (cases h;done) | (split at h<;>first | (cases h;rfl) | (cases h;done) | skip)
  all_goals (repeat' (split at h))<;>first | (cases h;rfl) | (cases h;done) | skip
theorem exV_cells{H:List B}{n d:Nat}{v v':V}(h:exV H n d v=some v'):∃d',d'≤d∧exL (exV H n d') v.cells=some v'.cells:=by
 have h0:=h
 cases d with
 | zero=>simp[exV]at h
 | succ d =>
  cases v<;>simp only[exV]at h
  case undef=>cases h
  case agg cs =>
   split at h
   ·rename_i ds hd;cases h;exact⟨d,by omega,hd⟩
   ·cases h
  all_goals
   refine⟨d+1,oJ _,?_⟩
   have hv:v'.cells=[v']:=by
    first
    | (cases h;rfl)
    | ((split at h<;>first | (cases h;rfl) | (cases h;done) | skip);all_goals (repeat' (split at h))<;>first | (cases h;rfl) | (cases h;done) | skip)
   rw[hv];simp only[V.cells,exL];rw[h0]
theorem ex_rel{H G:List B}(hg:Good s)(hH:s.H=H++G)(d:Nat):∀(v v':V) (u:Value),Rel s v u→exV s.H H.length d v=some v'→Rel (s.cut H) v' u:=by
 induction d using rK with
 | _ d ih =>
  intro v v' u hr h;have h0:=h
  have get:∀k bl,k<H.length→s.H[k]?=some bl→(s.cut H).H[k]?=some bl:=fun k bl hk hb=>by rw[hH,oL hk]at hb;exact hb
  have new:∀k,Lv s k→¬k<H.length→(s.cut H).Prot (s.φ k):=fun k hk hn=>by
   refine⟨(hg.lt k hk).1,(hg.lt k hk).2,fun j hj e=>?_⟩;have hj':j<H.length:=hj.1;have:=hg.inj j k (fF hH hj) hk e;omega
  have elems:∀{d':Nat} {xs ys:List V},d'<d→exL (exV s.H H.length d') xs=some ys→∀(i:Nat) y (j:Nat) c',ys[i]?=some y→y.cells[j]?=some c' →
    ∃x c,xs[i]?=some x∧x.cells[j]?=some c∧y.cells.length=x.cells.length∧∀u,Rel s c u→Rel (s.cut H) c' u:=fun {d' xs ys} hd hx i y j c' hi hj=>by
   obtain⟨x,hxi,hex⟩:=(dx hx).2 i y hi;obtain⟨d2,hd2,hc⟩:=exV_cells hex;obtain⟨c,hcj,hec⟩:=(dx hc).2 j c' hj;exact⟨x,c,hxi,hcj,(dx hc).1,fun u hu=>ih d2 (by omega) c c' u hu hec⟩
  have lens:∀{d':Nat} {xs ys:List V},exL (exV s.H H.length d') xs=some ys→∀z,(∀x∈xs,x.cells.length=z∧∀c∈x.cells,c.one=true)→∀y∈ys,y.cells.length=z∧∀c∈y.cells,c.one=true:=fun {d' xs ys} hx z hz y hy=>by
   obtain⟨i,hi⟩:=List.mem_iff_getElem?.1 hy;obtain⟨x,hxi,hex⟩:=(dx hx).2 i y hi;obtain⟨d2,hd2,hc⟩:=exV_cells hex;have:=hz x (oH hxi);refine⟨by rw[(dx hc).1];exact this.1,fun c hcm=>?_⟩;obtain⟨j,hj⟩:=List.mem_iff_getElem?.1 hcm;obtain⟨c0,hcj,hec⟩:=(dx hc).2 j c hj;rw[exV_one hec];exact this.2 c0 (oH hcj)
  have flat:∀{d':Nat} {cs ds:List V},d'<d→exL (exV s.H H.length d') cs=some ds→ds.length=cs.length∧((∀c∈cs,c.one=true)→∀c∈ds,c.one=true)∧∀(i:Nat) c',ds[i]?=some c'→∃c,cs[i]?=some c∧∀u,Rel s c u→Rel (s.cut H) c' u:=fun {d' cs ds} hd hx=>by
   refine⟨(dx hx).1,fun h1 c hc=>?_,fun i c' hi=>?_⟩
   ·obtain⟨i,hi⟩:=List.mem_iff_getElem?.1 hc;obtain⟨x,hxi,hex⟩:=(dx hx).2 i c hi;rw[exV_one hex];exact h1 x (oH hxi)
   ·obtain⟨x,hxi,hex⟩:=(dx hx).2 i c' hi;exact⟨x,hxi,fun u hu=>ih d' hd x c' u hu hex⟩
  cases d with
  | zero=>simp[exV]at h
  | succ d =>
   cases hr with
   | undef u=>simp[exV]at h
   | bool b=>cases h;exact .bool b
   | int k n=>cases h;exact .int k n
   | str x=>cases h;exact .str x
   | nilS=>cases h;exact .nilS
   | nilP=>cases h;exact .nilP
   | nilM=>cases h;exact .nilM
   | nilFn=>cases h;exact .nilFn
   | nilI=>cases h;exact .nilI
   | ifc t x=>cases h;exact .ifc t x
   | lst z full xs A cap b off u hcap hfull hA hz hcell hrel =>
    simp only[exV]at h;split at h
    ·rename_i ys hy;cases h;have hl:=(dx hy).1;rw[←hl];refine .lst z full ys A cap b off u (by omega) (fun hf=>by rw[hfull hf,hl]) (fun h0=>⟨(hA (by omega)).1,cU hH (hA (by omega)).2⟩) (lens hy z hz) (fun i y j c' hi hj=>?_) (fun i y j c' hi hj=>?_)
     ·obtain⟨x,c,e1,e2,_,_⟩:=elems (qL d) hy i y j c' hi hj;exact hcell i x j c e1 e2
     ·obtain⟨x,c,e1,e2,_,e4⟩:=elems (qL d) hy i y j c' hi hj;exact e4 _ (hrel i x j c e1 e2)
    ·cases h
   | buf k off len tot e z xs fz A l c hk ht hh =>
    simp only[exV]at h;split at h
    ·rename_i hkn;cases h;exact .buf k off len tot e z xs fz A l c (get k _ hkn hk) ht hh
    ·rename_i hkn;rw[hk]at h;simp only at h;split at h
     ·rename_i hc;split at h
      ·rename_i ys hy;cases h;obtain⟨hA,rfl,hcap,_⟩:=hh hc.1;obtain⟨vs,g2,g3,g4,g5,g6,g7⟩:=hg.blk k _ hk
       have hsl:((xs.drop off).take l).length=l:=by simp;omega
       by_cases hl0:l=0
       ·subst hl0;rw[List.take_zero]at hy;cases hy;exact bw z false A c (fun h=>by cases h)
       have hκ:s.κ k≠0:=by omega
       have hA:=hA hκ;subst hA;have hkl:=lvB hk hκ
       have hat:∀i x,((xs.drop off).take l)[i]?=some x→xs[off+i]?=some x:=fun i x hi=>by
        have:=aB hi;rw[pD,if_pos (by omega),pP]at hi;exact hi
       have hyl:ys.length=l:=by rw[(dx hy).1,hsl]
       have:=Rel.lst (s:=s.cut H) z false ys (some ⟨s.φ k,off*z,none⟩) c (s.φ k) (off*z) (fun i j=>(s.w.cell? ⟨s.φ k,off*z+i*z+j,none⟩).getD Go.undef) (by omega) (by simp) (fun _=>⟨rfl,new k hkl hkn⟩)
        (lens hy z (fun x hx=>g6 x (pq (pQ hx))))
        (fun i y j c' hi hj=>by
         obtain⟨x,c0,e1,e2,_,_⟩:=elems (qL d) hy i y j c' hi hj;obtain⟨_,_,h3⟩:=eN hg hk (hat i x e1);obtain⟨u,hu,_⟩:=h3 j c0 e2;rw[ov]at hu;show s.w.cell? _=_
         rw[hu];rfl)
        (fun i y j c' hi hj=>by
         obtain⟨x,c0,e1,e2,_,e4⟩:=elems (qL d) hy i y j c' hi hj;obtain⟨_,_,h3⟩:=eN hg hk (hat i x e1);obtain⟨u,hu,hr⟩:=h3 j c0 e2;rw[ov]at hu;rw[hu]
         exact e4 _ hr)
       rwa [hyl]at this
      ·cases h
     ·cases h
   | ptr k off cs hk =>
    simp only[exV]at h;split at h
    ·rename_i hkn;cases h;exact .ptr (s:=s.cut H) k off cs (get k _ hkn hk)
    ·cases h
   | pbuf k i off tot e z xs fz p hk ht hh =>
    simp only[exV]at h;split at h
    ·rename_i hkn;cases h;exact .pbuf k i off tot e z xs fz p (get k _ hkn hk) ht hh
    ·cases h
   | sarr k m cs hk =>
    simp only[exV]at h;split at h
    ·rename_i hkn;cases h;exact .sarr (s:=s.cut H) k m cs (get k _ hkn hk)
    ·cases h
   | map k kk es hk =>
    simp only[exV]at h;split at h
    ·rename_i hkn;cases h;exact .map (s:=s.cut H) k kk es (get k _ hkn hk)
    ·cases h
   | pin cs off b o u hp h1 hcell hrel =>
    simp only[exV]at h;split at h
    ·rename_i ds hd;cases h;obtain⟨f1,f2,f3⟩:=flat (qL d) hd;refine .pin ds off b o u (cU hH hp) (f2 h1) (fun j c' hj=>?_) (fun j c' hj=>?_)
     ·obtain⟨c,e1,e2⟩:=f3 _ c' hj;exact hcell j c e1
     ·obtain⟨c,e1,e2⟩:=f3 _ c' hj;exact e2 _ (hrel j c e1)
    ·cases h
   | fn f caps us hl hh =>
    simp only[exV]at h;split at h
    ·rename_i ds hd;cases h;obtain⟨f1,f2,f3⟩:=flat (qL d) hd;refine .fn f ds us (by omega) (fun i c' u hi hu=>?_);obtain⟨c,e1,e2⟩:=f3 _ c' hi;exact e2 _ (hh i c u e1 hu)
    ·cases h
   | agg cs us hl h1 hh =>
    simp only[exV]at h;split at h
    ·rename_i ds hd;cases h;obtain⟨f1,f2,f3⟩:=flat (qL d) hd;refine .agg ds us (by omega) (f2 h1) (fun i c' u hi hu=>?_);obtain⟨c,e1,e2⟩:=f3 _ c' hi;exact e2 _ (hh i c u e1 hu)
    ·cases h
   | tup cs us hl hh =>
    simp only[exV]at h;split at h
    ·rename_i ds hd;cases h;obtain⟨f1,f2,f3⟩:=flat (qL d) hd;refine .tup ds us (by omega) (fun i c' u hi hu=>?_);obtain⟨c,e1,e2⟩:=f3 _ c' hi;exact e2 _ (hh i c u e1 hu)
    ·cases h
theorem fZ{f:FuncId}{args:List V}{H G:List B}{r r':V}{d:Nat}(h:aU P f args H fun x y=>x=r∧y=H++G)(he:exV (H++G) H.length d r=some r'):aU P f args H fun x y=>x=r'∧y=H:=by
 refine⟨h.1,fun s vals hA hg hsz hrel=>?_⟩;have hH:=hA.1
 refine(h.2 s vals hA hg hsz hrel).mono fun e w' ⟨u,s',x,a1,a2,a3,a4,a5,a6,a7⟩=>?_
 subst a6
 have hcl:∀bl∈H,ClB H.length bl:=by have:=hg.cl;rw[hH]at this;exact this
 refine⟨u,s'.cut H,r',a1,a2,cut_good2 a3 a7 hcl,?_,?_,rfl,rfl⟩
 ·exact ej a3 a7 (Step.refl (s'.cut H)) s a4 (by rw[hH];exact oJ _)
 ·exact ex_rel a3 a7 d x r' u a5 (by rw[a7];exact he)
end
end Go.AM
namespace Go.AM
open Go
abbrev bf:=V→List V→List B→Option (V×List B)
def jr(call:bf)(T:Ty)(ops:Array Oper):List Oper→List V→List B→Option (List V×List B)
 | [],fr,H=>some (fr,H)
 | o::rest,fr,H=>match bA ops fr o with
  | some true=>match aj o.op with
   | some (f,args)=>match call (aO fr f) (args.map (aO fr)) H with
    | some (r,H')=>jr call T ops rest (ak fr o.dst r) H'
    | none=>none
   | none=>match aop T o.op (aO fr) H with
    | some (v,H')=>jr call T ops rest (ak fr o.dst v) H'
    | none=>none
  | some false=>jr call T ops rest (ak fr o.dst (.tup [])) H
  | none=>none
def ma(call:bf)(fv:V)(args:List V)(H:List B):Option V :=
 match call fv args H with
 | some (r,H')=>if eqH (H'.take H.length) H then exV H' H.length 40 r else none
 | none=>none
def bN:Go.Op→Bool
 | .alloc _ | .box .. | .store .. | .makeMap .. | .makeSlice .. | .mapUpdate .. | .insert ..=>false
 | .call c=>match c.callee with
  | .builtin .append=>false
  | .builtin .copy=>false
  | .builtin .clear=>false
  | _=>true
 | _=>true
def allB(p:Nat→Bool):List Nat→Bool
 | []=>true
 | c::l=>p c&&allB p l
structure DRes where
 vs:List V
 cv:List (V×List B)
 E:List Nat
 hs:List (List B)
 fr:List V
def evD(own:Bool)(call:bf)(T:Ty)(ops:Array Oper):List Oper→Nat→List V→List B→Option DRes
 | [],_,fr,_=>some ⟨[],[],[],[],fr⟩
 | o::rest,i,fr,H=>match bA ops fr o with
  | some true=>match aj o.op with
   | some (f,args)=>if own then(match call (aO fr f) (args.map (aO fr)) H with
     | some (r,H')=>if eqH H' H then(match evD own call T ops rest (i+1) (ak fr o.dst r) H with
       | some d=>some ⟨r::d.vs,(r,[])::d.cv,d.E,d.hs,d.fr⟩
       | none=>none)
      else(match evD own call T ops rest (i+1) (ak fr o.dst r) H' with
       | some d=>some ⟨r::d.vs,(r,H')::d.cv,i::d.E,H'::d.hs,d.fr⟩
       | none=>none)
     | none=>none)
    else(match ma call (aO fr f) (args.map (aO fr)) H with
     | some r=>match evD own call T ops rest (i+1) (ak fr o.dst r) H with
      | some d=>some ⟨r::d.vs,(r,[])::d.cv,d.E,d.hs,d.fr⟩
      | none=>none
     | none=>none)
   | none=>match aop T o.op (aO fr) H with
    | some (v,H')=>if bN o.op then(match evD own call T ops rest (i+1) (ak fr o.dst v) H with
      | some d=>some ⟨v::d.vs,d.cv,d.E,d.hs,d.fr⟩
      | none=>none)
     else(match evD own call T ops rest (i+1) (ak fr o.dst v) H' with
      | some d=>some ⟨v::d.vs,d.cv,i::d.E,H'::d.hs,d.fr⟩
      | none=>none)
    | none=>none
  | some false=>match evD own call T ops rest (i+1) (ak fr o.dst (.tup [])) H with
   | some d=>some ⟨.tup []::d.vs,d.cv,d.E,d.hs,d.fr⟩
   | none=>none
  | none=>none
def oblX(call:bf)(T:Ty)(ops:Array Oper)(ms E:List Nat)(Hs:Nat→List B):List Oper→Nat→Nat→List V→List V→Bool
 | [],_,_,_,_=>true
 | _::_,_,_,_,[]=>false
 | o::rest,i,c,fr,v::vs =>
  if E.contains i then oblX call T ops ms E Hs rest (i+1) (c+1) (ak fr o.dst v) vs
  else(match bA ops fr o with
   | some true=>allB (fun c'=>if c'=c then true else if fm ms E i c' then(match aj o.op with
     | some (f,args)=>(match ma call (aO fr f) (args.map (aO fr)) (Hs c') with
      | some r=>eqV 40 r v
      | none=>false)
     | none=>(match aop T o.op (aO fr) (Hs c') with
      | some (v',_)=>eqV 40 v' v&&bN o.op
      | none=>false)) else true) (oM (E.length+1))
   | _=>true)&&oblX call T ops ms E Hs rest (i+1) c (ak fr o.dst v) vs
def stat1(ops:Array Oper):Bool :=
 (oM ops.size).all fun j=>match ops[j]? with
  | none=>true
  | some oj=>oj.after.toList.all (fun e=>!Region.binds .any e||decide (e.on<j)) &&
   (cC ops oj).all (fun t=>(oM ops.size).all fun i=>match ops[i]? with
    | none=>true
    | some oi=>!(oi.dst == some t)||i == j||(decide (i<j)&&bef (aM [] ops.toList) i j)||(decide (j<i)&&bef (aM [] ops.toList) j i))
def jS(ops:Array Oper)(E:List Nat):Bool:=(jH E&&E.all fun e=>decide (e<ops.size))&&E.all fun j=>E.all fun i=>!decide (i<j)||bef (aM [] ops.toList) i j
theorem jR{ops:Array Oper}{E:List Nat}(h1:stat1 ops=true)(h2:jS ops E=true):eU ops E=true:=by
 unfold stat1 at h1;unfold jS at h2;unfold eU;simp only[oP]at h2 ⊢;refine⟨h2.1,?_⟩;rw[pR]at h1 ⊢;intro j hj;have:=h1 j hj;split at this
 ·rename_i hn;first | rw[hn] | rfl
 ·rename_i oj ho
  try rw[ho]
  try simp only
  rw[oP];refine⟨this,?_⟩;rw[pW];by_cases hE:E.contains j=true
  ·right;rw[pR];intro i hi;rw[pW];by_cases hi2:E.contains i=true
   ·right;have h3:=List.all_eq_true.1 h2.2 j (List.contains_iff_mem.1 hE);have h4:=List.all_eq_true.1 h3 i (List.contains_iff_mem.1 hi2);rw[pW]at h4
    rcases h4 with h4 | h4
    ·have:i<j:=by simpa using hi
     simp[this]at h4
    ·exact h4
   ·left;simpa using hi2
  ·left;simpa using hE
def iM(own:Bool)(call:bf)(T:Ty)(ops:Array Oper)(fr:List V)(H:List B):Option (List V×List B):=
 match evD own call T ops ops.toList 0 fr H with
 | some d=>if stat1 ops&&jS ops d.E&&(d.E.isEmpty||oblX call T ops (aM [] ops.toList) d.E (fun c=>(H::d.hs)[c]?.getD []) ops.toList 0 0 fr d.vs) then some (d.fr,(H::d.hs)[d.E.length]?.getD []) else none
 | none=>none
def isEff(o:Oper):Bool:=(aj o.op).isSome||!bN o.op
def chain(ms:List Nat)(ops:Array Oper):Bool :=
 let es:=(oM ops.size).filter fun i=>match ops[i]? with
  | some o=>isEff o
  | none=>false
 es.all fun i=>es.all fun j=>!decide (i<j)||bef ms i j
def evDraw(call:bf)(T:Ty)(ops:Array Oper)(fr:List V)(H:List B):Option (List V×List B):=
 if chain (aM [] ops.toList) ops then
  (match iM true call T ops fr H with
  | some r=>some r
  | none=>iM false call T ops fr H)
 else(match iM false call T ops fr H with
  | some r=>some r
  | none=>iM true call T ops fr H)
def gE(f:List V→List B→Option (Exit×List V×List B)):Nat→List V→List B→Option (Exit×List V×List B)
 | 0,_,_=>none
 | n+1,fr,H=>match f fr H with
  | some (.normal,fr',H')=>gE f n fr' H'
  | r=>r
def aq(call:bf)(T:Ty)(fuel:Nat):Code→List V→List B→Option (Exit×List V×List B)
 | .skip,fr,H=>some (.normal,fr,H)
 | .region _ ops false,fr,H=>match jr call T ops ops.toList fr H with
  | some (fr',H')=>some (.normal,fr',H')
  | none=>none
 | .region _ ops true,fr,H=>match evDraw call T ops fr H with
  | some (fr',H')=>some (.normal,fr',H')
  | none=>none
 | .seq a b,fr,H=>match aq call T fuel a fr H with
  | some (.normal,fr',H')=>aq call T fuel b fr' H'
  | r=>r
 | .cond c a b,fr,H=>match aO fr c with
  | .bool true=>aq call T fuel a fr H
  | .bool false=>aq call T fuel b fr H
  | _=>none
 | .block id c,fr,H=>match aq call T fuel c fr H with
  | some (.exit id',fr',H')=>if id'=id then some (.normal,fr',H') else some (.exit id',fr',H')
  | r=>r
 | .loop c,fr,H=>gE (aq call T fuel c) fuel fr H
 | .exit id,fr,H=>some (.exit id,fr,H)
 | .ret,fr,H=>some (.ret,fr,H)
 | _,_,_=>none
def evFun(P:Program)(T:Ty)(fuel:Nat)(call:bf)(f:FuncId)(args:List V)(H:List B):Option (V×List B):=
 match P.funcs[f]? with
 | some fn=>match fn.body with
  | some c=>match aq call T fuel c (args++oE (fn.ntmps-args.length) (.tup [])) H with
   | some (.normal,fr,H') | some (.ret,fr,H')=>match bq T fr H' fn.results.toList with
    | some vs=>some (lF vs,H')
    | none=>none
   | _=>none
  | none=>none
 | none=>none
abbrev am:=FuncId→List V→List B→Option (V×List B)
def nV(P:Program)(T:Ty)(ext:am)(fuel:Nat):Nat→bf
 | 0,_,_,_=>none
 | d+1,fv,args,H=>match fv with
  | .fn f caps=>match ext f (args++caps) H with
   | some r=>some r
   | none=>evFun P T fuel (nV P T ext fuel d) f (args++caps) H
  | _=>none
section
variable {P:Program} {T:Ty}
def fI(P:Program)(call:bf):Prop:=∀fv args H r H',call fv args H=some (r,H')→aL P fv args H fun x y=>x=r∧y=H'
theorem pcall_ok{call:bf}(hc:fI P call){fv:V}{args:List V}{H:List B}{r:V}(h:ma call fv args H=some r):aL P fv args H fun x y=>x=r∧y=H:=by
 unfold ma at h;split at h
 ·rename_i r0 H' hcall;split at h
  ·rename_i he;have hw:=hc _ _ _ _ _ hcall;have ht:=eqH_eq he
   have hsplit:H'=H++H'.drop H.length:=by
    conv=>lhs;rw[←pc H.length H']
    rw[ht]
   cases fv<;>simp only[aL]at hw ⊢;rw[hsplit]at hw h;exact fZ hw h
  ·cases h
 ·cases h
theorem jq{call:bf}(hc:fI P call){ops:Array Oper}{K:List V→List B→Prop} : ∀{l:List Oper} {fr:List V} {H:List B} {fr':List V} {H':List B},jr call T ops l fr H=some (fr',H')→K fr' H'→fi T ops (aL P) K l fr H
 | [],fr,H,fr',H',h,hk=>by simp only[jr,Option.some.injEq,Prod.mk.injEq]at h;obtain⟨rfl,rfl⟩:=h;exact hk
 | o::rest,fr,H,fr',H',h,hk=>by
  simp only[jr]at h;simp only[fi];split at h
  ·rename_i hw
   try rw[hw]
   try simp only
   split at h
   ·rename_i f args hcall
    try rw[hcall]
    try simp only
    split at h
    ·rename_i r H1 he
     exact(hc _ _ _ _ _ he).mono fun x y ⟨e1,e2⟩=>by subst e1;subst e2;exact jq hc h hk
    ·cases h
   ·rename_i hcall
    try rw[hcall]
    try simp only
    split at h
    ·rename_i v H1 he
     try rw[he]
     exact jq hc h hk
    ·cases h
  ·rename_i hw
   try rw[hw]
   exact jq hc h hk
  ·cases h
theorem fj{o:Go.Op}{ρ:Operand→V}{H H':List B}{v:V}(hs:bN o=true)(h:aop T o ρ H=some (v,H')):H'=H:=by
 cases o<;>simp only[bN,oZ]at hs<;>simp only[aop]at h<;>try (cases h;done)
 all_goals first
  | (cases h;rfl)
  | (exact(ap h).2.symm)
  | skip
 ·split at h<;>cases h;rfl
 ·split at h<;>first | (cases h;rfl) | (cases h;done)
 ·split at h
  ·cases h;rfl
  ·exact(ap h).2.symm
 ·split at h
  ·exact(ap h).2.symm
  ·cases h
 ·split at h
  ·split at h<;>cases h;rfl
  ·cases h
 ·split at h
  ·exact(ap h).2.symm
  ·cases h
 ·rename_i c;split at h
  ·rename_i b hb;rw[hb]at hs;unfold kD at h;split at h
   ·exact(ap h).2.symm
   ·simp at hs
   ·simp at hs
   ·simp at hs
   ·exact(ap h).2.symm
   ·exact(ap h).2.symm
   ·cases h
  ·cases h
theorem allB_ok{p:Nat→Bool}{q:Nat→Prop}(h:∀c,p c=true→q c):∀{l:List Nat},allB p l=true→dq q l
 | [],_=>trivial
 | c::l,hl=>by
  simp only[allB,oP]at hl;exact⟨h c hl.1,allB_ok h hl.2⟩
theorem allC_mono{p q:Nat→Prop}(h:∀c,p c→q c):∀{l:List Nat},dq p l→dq q l
 | [],_=>trivial
 | c::_,hl=>⟨h c hl.1,allC_mono h hl.2⟩
theorem lH{C:V→List V→List B→(V→List B→Prop)→Prop}(hC:∀fv args H K',aL P fv args H K'→C fv args H K'){ops:Array Oper}{ms E:List Nat}{Hs:Nat→List B} : ∀(l:List Oper) (i:Nat) (fr vs:List V),bU T ops (aL P) ms E Hs l i fr vs→bU T ops C ms E Hs l i fr vs
 | [],_,_,_,_=>trivial
 | _::_,_,_,[],h=>h
 | o::rest,i,fr,v::vs,h=>by
  obtain⟨h1,h2⟩:=h;refine⟨?_,lH hC rest (i+1) _ vs h2⟩
  cases hw:bA ops fr o with
  | none=>rw[hw]at h1;exact h1
  | some b =>
   rw[hw]at h1;cases b
   ·exact h1
   ·simp only at h1 ⊢
    cases hcall:aj o.op with
    | none=>rw[hcall]at h1;exact h1
    | some p =>
     obtain⟨f,args⟩:=p;rw[hcall]at h1;simp only at h1 ⊢;split
     ·rename_i hE;rw[if_pos hE]at h1;exact hC _ _ _ _ h1
     ·rename_i hE;rw[if_neg hE]at h1;refine allC_mono (fun c hp=>?_) h1;split
      ·rename_i hpos;rw[if_pos hpos]at hp;exact hC _ _ _ _ hp
      ·trivial
theorem evD_lt{own:Bool}{call:bf}{ops:Array Oper} : ∀(l:List Oper) (i:Nat) (fr:List V) (H:List B) (d:DRes),evD own call T ops l i fr H=some d→d.hs.length=d.E.length∧d.vs.length=l.length∧∀e∈d.E,i≤e
 | [],i,fr,H,d,h=>by simp only[evD,Option.some.injEq]at h;subst h;simp
 | o::rest,i,fr,H,d,h=>by
  have keep:∀{fr':List V} {H':List B} {d':DRes},evD own call T ops rest (i+1) fr' H'=some d'→d'.hs.length=d'.E.length∧d'.vs.length=rest.length∧∀e∈d'.E,i≤e:=fun {fr' H' d'} h'=>by
   obtain⟨k1,k2,k3⟩:=evD_lt rest (i+1) _ _ _ h';exact⟨k1,k2,fun e he=>by have:=k3 e he;omega⟩
  simp only[evD]at h;split at h
  ·split at h
   ·split at h
    ·split at h
     ·split at h
      ·split at h
       ·rename_i d' hd;cases h;obtain⟨k1,k2,k3⟩:=keep hd;exact⟨k1,by simp[k2],k3⟩
       ·cases h
      ·split at h
       ·rename_i d' hd;cases h;obtain⟨k1,k2,k3⟩:=keep hd;exact⟨by simp[k1],by simp[k2],fun e he=>by simp at he;rcases he with rfl | he;exact oJ _;exact k3 e he⟩
       ·cases h
     ·cases h
    ·split at h
     ·split at h
      ·rename_i d' hd;cases h;obtain⟨k1,k2,k3⟩:=keep hd;exact⟨k1,by simp[k2],k3⟩
      ·cases h
     ·cases h
   ·split at h
    ·split at h
     ·split at h
      ·rename_i d' hd;cases h;obtain⟨k1,k2,k3⟩:=keep hd;exact⟨k1,by simp[k2],k3⟩
      ·cases h
     ·split at h
      ·rename_i d' hd;cases h;obtain⟨k1,k2,k3⟩:=keep hd;exact⟨by simp[k1],by simp[k2],fun e he=>by simp at he;rcases he with rfl | he;exact oJ _;exact k3 e he⟩
      ·cases h
    ·cases h
  ·split at h
   ·rename_i d' hd;cases h;obtain⟨k1,k2,k3⟩:=keep hd;exact⟨k1,by simp[k2],k3⟩
   ·cases h
  ·cases h
structure Now (E1:List Nat) (Hs1:List (List B)) (i:Nat) (H:List B):Prop where
 len:Hs1.length=E1.length+1
 cur:Hs1[E1.length]?=some H
 lt:∀e∈E1,e<i
theorem iz{call:bf}(hc:fI P call){own:Bool}{ops:Array Oper}{ms:List Nat} : ∀(l:List Oper) (i:Nat) (fr:List V) (H:List B) (d:DRes),evD own call T ops l i fr H=some d→∀(E1:List Nat) (Hs1:List (List B)),Now E1 Hs1 i H →
  (d.E=[]∧E1=[]∨oblX call T ops ms (E1++d.E) (fun c=>((Hs1++d.hs)[c]?).getD []) l i E1.length fr d.vs=true)→
  runT T ops (E1++d.E) l i fr H d.cv=some (d.vs,d.hs,d.fr)∧bU T ops (aL P) ms (E1++d.E) (fun c=>((Hs1++d.hs)[c]?).getD []) l i fr d.vs
 | [],i,fr,H,d,h,E1,Hs1,hn,_=>by simp only[evD,Option.some.injEq]at h;subst h;exact⟨rfl,trivial⟩
 | o::rest,i,fr,H,d,h,E1,Hs1,hn,hx=>by
  have plain:∀{v:V} {d':DRes},evD own call T ops rest (i+1) (ak fr o.dst v) H=some d'→d.E=d'.E→d.hs=d'.hs→d.vs=v::d'.vs →
    Now E1 Hs1 (i+1) H∧(E1++d.E).contains i=false∧((fun c=>((Hs1++d.hs)[c]?).getD []) E1.length=H)∧(d'.E=[]∧E1=[]∨oblX call T ops ms (E1++d'.E) (fun c=>((Hs1++d'.hs)[c]?).getD []) rest (i+1) E1.length (ak fr o.dst v) d'.vs=true)∧
    (d'.E=[]∧E1=[]∨(match bA ops fr o with
     | some true=>allB (fun c'=>if c'=E1.length then true else if fm ms (E1++d.E) i c' then(match aj o.op with
      | some (f,args)=>(match ma call (aO fr f) (args.map (aO fr)) (((Hs1++d.hs)[c']?).getD []) with
       | some r=>eqV 40 r v
       | none=>false)
      | none=>(match aop T o.op (aO fr) (((Hs1++d.hs)[c']?).getD []) with
       | some (v',_)=>eqV 40 v' v&&bN o.op
       | none=>false)) else true) (oM ((E1++d.E).length+1))
     | _=>true)=true):=fun {v d'} hd e1 e2 e3=>by
   obtain⟨k1,k2,k3⟩:=evD_lt rest (i+1) _ _ _ hd
   have hnc:(E1++d.E).contains i=false:=by
    rw[rS];intro hh;rw[qc,qB]at hh
    rcases hh with hh | hh
    ·have:=hn.lt i hh;omega
    ·rw[e1]at hh;have:=k3 i hh;omega
   refine⟨⟨hn.len,hn.cur,fun e he=>by have:=hn.lt e he;omega⟩,hnc,?_,?_,?_⟩
   ·have:=hn.cur;simp only;rw[oL (by rw[hn.len];omega),this];rfl
   ·rcases hx with⟨hE,hE1⟩ | hx
    ·exact .inl ⟨by rw[←e1];exact hE,hE1⟩
    ·right;rw[e3]at hx;simp only[oblX,hnc,oZ,if_false,oP]at hx;rw[←e1,←e2];exact hx.2
   ·rcases hx with⟨hE,hE1⟩ | hx
    ·exact .inl ⟨by rw[←e1];exact hE,hE1⟩
    ·right;rw[e3]at hx;simp only[oblX,hnc,oZ,if_false,oP]at hx;exact hx.1
  have effect:∀{v:V} {H':List B} {d':DRes},evD own call T ops rest (i+1) (ak fr o.dst v) H'=some d'→d.E=i::d'.E→d.hs=H'::d'.hs→d.vs=v::d'.vs →
    Now (E1++[i]) (Hs1++[H']) (i+1) H'∧(E1++d.E).contains i=true∧(E1++d.E).idxOf i=E1.length∧((fun c=>((Hs1++d.hs)[c]?).getD []) E1.length=H)∧((fun c=>((Hs1++d.hs)[c]?).getD []) (E1.length+1)=H')∧
    (d'.E=[]∧E1++[i]=[]∨oblX call T ops ms (E1++[i]++d'.E) (fun c=>((Hs1++[H']++d'.hs)[c]?).getD []) rest (i+1) (E1++[i]).length (ak fr o.dst v) d'.vs=true):=fun {v H' d'} hd e1 e2 e3=>by
   have hni:i∉E1:=fun hh=>by have:=hn.lt i hh;omega
   refine⟨⟨by simp[hn.len],by simp[hn.len],fun e he=>by simp at he;rcases he with he | rfl;have:=hn.lt e he;omega;omega⟩,?_,?_,?_,?_,?_⟩
   ·rw[qc,e1];simp
   ·rw[e1,List.idxOf_append,if_neg hni];simp
   ·have:=hn.cur;simp only;rw[oL (by rw[hn.len];omega),this];rfl
   ·simp only;rw[e2,oS (by rw[hn.len];omega),hn.len];simp
   ·right
    rcases hx with⟨hE,_⟩ | hx
    ·rw[e1]at hE;cases hE
    ·rw[e3]at hx
     have hcon:(E1++d.E).contains i=true:=by rw[qc,e1];simp
     simp only[oblX,hcon,if_true]at hx;rw[e1,e2]at hx;simpa using hx
  simp only[evD]at h;split at h
  ·rename_i hw;split at h
   ·rename_i f args hcall;split at h
    ·split at h
     ·rename_i r H' hr;have hwc:=hc _ _ _ _ _ hr;split at h
      ·rename_i he;have he:=eqH_eq he;subst he;split at h
       ·rename_i d' hd;cases h;obtain⟨n1,n2,n3,n4,n5⟩:=plain hd rfl rfl rfl;obtain⟨a1,a2⟩:=iz hc rest (i+1) _ _ _ hd E1 Hs1 n1 n4;refine⟨by simp only[runT,hw,hcall,n2,oZ,if_false,a1],⟨?_,a2⟩⟩;simp only[hw,hcall,n2,oZ,if_false];exact callAll hn n3 n5 hw hcall hwc
       ·cases h
      ·split at h
       ·rename_i d' hd;cases h;obtain⟨n1,n2,n3,n4,n5,n6⟩:=effect hd rfl rfl rfl;obtain⟨a1,a2⟩:=iz hc rest (i+1) _ _ _ hd _ _ n1 n6;simp only[oh,rB]at a1 a2;refine⟨by simp only[runT,hw,hcall,n2,if_true,a1],⟨?_,a2⟩⟩;simp only[hw,hcall,n2,if_true];simp only at n4 n5;rw[n3,n4,n5];exact hwc
       ·cases h
     ·cases h
    ·split at h
     ·rename_i r hr;have hwc:=pcall_ok hc hr;split at h
      ·rename_i d' hd;cases h;obtain⟨n1,n2,n3,n4,n5⟩:=plain hd rfl rfl rfl;obtain⟨a1,a2⟩:=iz hc rest (i+1) _ _ _ hd E1 Hs1 n1 n4;refine⟨by simp only[runT,hw,hcall,n2,oZ,if_false,a1],⟨?_,a2⟩⟩;simp only[hw,hcall,n2,oZ,if_false];exact callAll hn n3 n5 hw hcall hwc
      ·cases h
     ·cases h
   ·rename_i hcall;split at h
    ·rename_i v H' hop;split at h
     ·rename_i hst;split at h
      ·rename_i d' hd;cases h;obtain⟨n1,n2,n3,n4,n5⟩:=plain hd rfl rfl rfl;obtain⟨a1,a2⟩:=iz hc rest (i+1) _ _ _ hd E1 Hs1 n1 n4;refine⟨by simp only[runT,hw,hcall,hop,n2,oZ,if_false,a1],⟨?_,a2⟩⟩;simp only[hw,hcall,n2,oZ,if_false];have hH:=fj hst hop;subst hH;exact opAll hn n3 n5 hw hcall hop
      ·cases h
     ·split at h
      ·rename_i d' hd;cases h;obtain⟨n1,n2,n3,n4,n5,n6⟩:=effect hd rfl rfl rfl;obtain⟨a1,a2⟩:=iz hc rest (i+1) _ _ _ hd _ _ n1 n6;simp only[oh,rB]at a1 a2;refine⟨by simp only[runT,hw,hcall,hop,n2,if_true,a1],⟨?_,a2⟩⟩;simp only[hw,hcall,n2,if_true];simp only at n4 n5;rw[n3,n4,n5];exact hop
      ·cases h
    ·cases h
  ·rename_i hw;split at h
   ·rename_i d' hd;cases h;obtain⟨n1,n2,n3,n4,n5⟩:=plain hd rfl rfl rfl;obtain⟨a1,a2⟩:=iz hc rest (i+1) _ _ _ hd E1 Hs1 n1 n4;refine⟨by simp only[runT,hw,n2,oZ,if_false,a1],⟨?_,a2⟩⟩;simp only[hw];exact⟨trivial,n2⟩
   ·cases h
  ·cases h
where
 range_one {E1:List Nat} {dE:List Nat} (h:dE=[]∧E1=[]):oM ((E1++dE).length+1)=[0]:=by obtain⟨rfl,rfl⟩:=h;rfl
 callAll {call:bf} {ops:Array Oper} {ms:List Nat} {o:Oper} {i:Nat} {fr:List V} {H:List B} {E1 dE:List Nat} {Hs1 dh:List (List B)} {f:Operand} {args:List Operand} {r:V} (_hn:Now E1 Hs1 i H)
   (n3:(fun c=>((Hs1++dh)[c]?).getD []) E1.length=H)
   (n5:dE=[]∧E1=[]∨(match bA ops fr o with
     | some true=>allB (fun c'=>if c'=E1.length then true else if fm ms (E1++dE) i c' then(match aj o.op with
      | some (f,args)=>(match ma call (aO fr f) (args.map (aO fr)) (((Hs1++dh)[c']?).getD []) with
       | some r'=>eqV 40 r' r
       | none=>false)
      | none=>(match aop T o.op (aO fr) (((Hs1++dh)[c']?).getD []) with
       | some (v',_)=>eqV 40 v' r&&bN o.op
       | none=>false)) else true) (oM ((E1++dE).length+1))
     | _=>true)=true)
   (hw:bA ops fr o=some true) (hcall:aj o.op=some (f,args)) (hwc:aL P (aO fr f) (args.map (aO fr)) H fun x y=>x=r∧y=H) (hc:fI P call:=by assumption):
   dq (fun c=>if fm ms (E1++dE) i c then aL P (aO fr f) (args.map (aO fr)) ((fun c=>((Hs1++dh)[c]?).getD []) c) (fun x y=>x=r∧y=(fun c=>((Hs1++dh)[c]?).getD []) c) else True) (oM ((E1++dE).length+1)):=by
  rcases n5 with h0 | n5
  ·rw[range_one h0];obtain⟨_,rfl⟩:=h0;simp only[qD]at n3;refine⟨?_,trivial⟩;show(if _ then _ else _);split
   ·simp only;rw[n3];exact hwc
   ·trivial
  ·rw[hw]at n5;simp only[hcall]at n5;refine allB_ok (fun c hp=>?_) n5;split
   ·rename_i hpos;by_cases hce:c=E1.length
    ·subst hce;simp only at n3 ⊢;rw[n3];exact hwc
    ·rw[if_neg hce,if_pos hpos]at hp;split at hp
     ·rename_i r' hr;have:=dG _ _ _ hp;subst this;exact pcall_ok hc hr
     ·cases hp
   ·trivial
 opAll {call:bf} {ops:Array Oper} {ms:List Nat} {o:Oper} {i:Nat} {fr:List V} {H:List B} {E1 dE:List Nat} {Hs1 dh:List (List B)} {r:V} (_hn:Now E1 Hs1 i H)
   (n3:(fun c=>((Hs1++dh)[c]?).getD []) E1.length=H)
   (n5:dE=[]∧E1=[]∨(match bA ops fr o with
     | some true=>allB (fun c'=>if c'=E1.length then true else if fm ms (E1++dE) i c' then(match aj o.op with
      | some (f,args)=>(match ma call (aO fr f) (args.map (aO fr)) (((Hs1++dh)[c']?).getD []) with
       | some r'=>eqV 40 r' r
       | none=>false)
      | none=>(match aop T o.op (aO fr) (((Hs1++dh)[c']?).getD []) with
       | some (v',_)=>eqV 40 v' r&&bN o.op
       | none=>false)) else true) (oM ((E1++dE).length+1))
     | _=>true)=true)
   (hw:bA ops fr o=some true) (hcall:aj o.op=none) (hop:aop T o.op (aO fr) H=some (r,H)):
   dq (fun c=>if fm ms (E1++dE) i c then aop T o.op (aO fr) ((fun c=>((Hs1++dh)[c]?).getD []) c)=some (r,(fun c=>((Hs1++dh)[c]?).getD []) c) else True) (oM ((E1++dE).length+1)):=by
  rcases n5 with h0 | n5
  ·rw[range_one h0];obtain⟨_,rfl⟩:=h0;simp only[qD]at n3;refine⟨?_,trivial⟩;show(if _ then _ else _);split
   ·simp only;rw[n3];exact hop
   ·trivial
  ·rw[hw]at n5;simp only[hcall]at n5;refine allB_ok (fun c hp=>?_) n5;split
   ·rename_i hpos;by_cases hce:c=E1.length
    ·subst hce;simp only at n3 ⊢;rw[n3];exact hop
    ·rw[if_neg hce,if_pos hpos]at hp;split at hp
     ·rename_i v' H' ha;simp only[oP]at hp;have hH:=fj hp.2 ha;rw[ha,dG _ _ _ hp.1,hH]
     ·cases hp
   ·trivial
theorem gF(hT:TOk P T)(hm:P.follows .mixedOrders=true){call:bf}(hc:fI P call){id:Nat}{ops:Array Oper}{fr fr':List V}{H H':List B}{own:Bool}(h:iM own call T ops fr H=some (fr',H')){Q:Exit→List V→List B→Prop}(hq:Q .normal fr' H'):W P (.region id ops true) Q fr H:=by
 unfold iM at h;split at h
 ·rename_i d hd;split at h
  ·rename_i hb;simp only[oP,pW,List.isEmpty_iff]at hb;cases h;obtain⟨k1,k2,_⟩:=evD_lt _ _ _ _ _ hd
   obtain⟨a1,a2⟩:=iz (ms:=aM [] ops.toList) hc _ _ _ _ _ hd [] [H] ⟨rfl,rfl,by simp⟩ (by
    rcases hb.2 with h | h
    ·exact .inl ⟨h,rfl⟩
    ·exact .inr h)
   intro s a h1 h2 h3 h4;refine W_draw hT hm d.E d.cv (fun C K hC hK=>?_) s a h1 h2 h3 h4;unfold gM;simp only[pH,rB]at a1 a2;rw[a1];exact⟨⟨jR hb.1.1 hb.1.2,k1⟩,lH hC _ _ _ _ a2,hK _ _ hq⟩
  ·cases h
 ·cases h
theorem evDraw_ok(hT:TOk P T)(hm:P.follows .mixedOrders=true){call:bf}(hc:fI P call){id:Nat}{ops:Array Oper}{fr fr':List V}{H H':List B}(h:evDraw call T ops fr H=some (fr',H')){Q:Exit→List V→List B→Prop}(hq:Q .normal fr' H'):W P (.region id ops true) Q fr H:=by
 unfold evDraw at h;split at h
 ·split at h
  ·rename_i r hr;cases h;exact gF hT hm hc hr hq
  ·exact gF hT hm hc h hq
 ·split at h
  ·rename_i r hr;cases h;exact gF hT hm hc hr hq
  ·exact gF hT hm hc h hq
theorem evLoop_ok{c:Code}{f:List V→List B→Option (Exit×List V×List B)}(hf:∀fr H e fr' H',f fr H=some (e,fr',H')→∀Q:Exit→List V→List B→Prop,Q e fr' H'→W P c Q fr H){n:Nat}{fr fr':List V}{H H':List B}{e:Exit}(h:gE f n fr H=some (e,fr',H')){Q:Exit→List V→List B→Prop}(hq:Q e fr' H'):W P (.loop c) Q fr H:=by
 refine W_loop (fun m g G=>gE f m g G=some (e,fr',H')) (fun m g G hm=>?_) h
 cases m with
 | zero=>simp[gE]at hm
 | succ m =>
  simp only[gE]at hm;split at hm
  ·rename_i g' G' he;exact hf _ _ _ _ _ he _ ⟨m,qL m,hm⟩
  ·rename_i r hno;refine hf _ _ _ _ _ hm _ ?_
   cases e with
   | normal=>exact absurd hm (hno _ _)
   | _=>exact hq
theorem bZ(hT:TOk P T)(hm:P.follows .mixedOrders=true){call:bf}(hc:fI P call){fuel:Nat} : ∀(c:Code) (fr:List V) (H:List B) (e:Exit) (fr':List V) (H':List B),aq call T fuel c fr H=some (e,fr',H')→∀Q:Exit→List V→List B→Prop,Q e fr' H'→W P c Q fr H
 | .skip,fr,H,e,fr',H',h,Q,hq=>by simp only[aq]at h;cases h;exact W_skip hq
 | .region id ops false,fr,H,e,fr',H',h,Q,hq=>by
  simp only[aq]at h;split at h
  ·rename_i g G he;cases h;intro s a h1 h2 h3 h4;refine W_region hT (fun C K hC hK=>?_) s a h1 h2 h3 h4;exact WOps_mono hC _ _ _ (jq hc he (hK _ _ hq))
  ·cases h
 | .region id ops true,fr,H,e,fr',H',h,Q,hq=>by
  simp only[aq]at h;split at h
  ·rename_i g G he;cases h;exact evDraw_ok hT hm hc he hq
  ·cases h
 | .seq a b,fr,H,e,fr',H',h,Q,hq=>by
  simp only[aq]at h;refine fh ?_;split at h
  ·rename_i g G he;exact bZ hT hm hc a fr H _ g G he _ (bZ hT hm hc b g G e fr' H' h Q hq)
  ·rename_i r hno;refine bZ hT hm hc a fr H _ fr' H' h _ ?_
   cases e with
   | normal=>exact absurd h (hno _ _)
   | _=>exact hq
 | .cond o a b,fr,H,e,fr',H',h,Q,hq=>by
  simp only[aq]at h;split at h
  ·rename_i hb;exact W_cond (b:=true) hb (bZ hT hm hc a fr H e fr' H' h Q hq)
  ·rename_i hb;exact W_cond (b:=false) hb (bZ hT hm hc b fr H e fr' H' h Q hq)
  ·cases h
 | .block id c,fr,H,e,fr',H',h,Q,hq=>by
  simp only[aq]at h;refine mK ?_;split at h
  ·rename_i id' g G he;refine bZ hT hm hc c fr H _ g G he _ ?_;simp only[dU];split
   ·rename_i hid;rw[if_pos hid]at h;cases h;exact hq
   ·rename_i hid;rw[if_neg hid]at h;cases h;exact hq
  ·rename_i r hno;refine bZ hT hm hc c fr H _ fr' H' h _ ?_
   cases e with
   | exit id'=>exact absurd h (hno _ _ _)
   | _=>exact hq
 | .loop c,fr,H,e,fr',H',h,Q,hq=>by
  simp only[aq]at h;exact evLoop_ok (fun g G e' g' G' he Q' hq'=>bZ hT hm hc c g G e' g' G' he Q' hq') h hq
 | .exit id,fr,H,e,fr',H',h,Q,hq=>by simp only[aq]at h;cases h;exact W_exit hq
 | .ret,fr,H,e,fr',H',h,Q,hq=>by simp only[aq]at h;cases h;exact W_ret hq
 | .rangeFunc ..,fr,H,e,fr',H',h,Q,hq=>by simp[aq]at h
 | .scope _,fr,H,e,fr',H',h,Q,hq=>by simp[aq]at h
 | .label _,fr,H,e,fr',H',h,Q,hq=>by simp[aq]at h
 | .goto _,fr,H,e,fr',H',h,Q,hq=>by simp[aq]at h
 | .refuse _,fr,H,e,fr',H',h,Q,hq=>by simp[aq]at h
where
 WOps_mono {C:V→List V→List B→(V→List B→Prop)→Prop} (hC:∀fv args H K',aL P fv args H K'→C fv args H K') {K:List V→List B→Prop} {ops:Array Oper} : ∀(l:List Oper) (fr:List V) (H:List B),fi T ops (aL P) K l fr H→fi T ops C K l fr H
  | [],_,_,h=>h
  | o::rest,fr,H,h=>by
   simp only[fi]at h ⊢;split at h
   ·split at h
    ·exact hC _ _ _ _ (h.mono fun r H' h'=>WOps_mono hC rest _ _ h')
    ·split at h
     ·exact WOps_mono hC rest _ _ h
     ·exact h
   ·exact WOps_mono hC rest _ _ h
   ·exact h
theorem evFun_ok(hT:TOk P T)(hm:P.follows .mixedOrders=true)(hn:∀(f:Nat) (fn:Func),P.funcs[f]?=some fn→(fn.name == "runtime.NumGoroutine")=false){call:bf}(hc:fI P call){fuel:Nat}{f:FuncId}{args:List V}{H H':List B}{r:V}(h:evFun P T fuel call f args H=some (r,H')):aU P f args H fun x y=>x=r∧y=H':=by
 unfold evFun at h;split at h
 ·rename_i fn hf;split at h
  ·rename_i c hb
   have fin:∀{e:Exit} {fr:List V} {H1:List B},(e = .normal∨e = .ret)→aq call T fuel c (args++oE (fn.ntmps-args.length) (.tup [])) H=some (e,fr,H1)→(match bq T fr H1 fn.results.toList with
     | some vs=>some (lF vs,H1)
     | none=>none)=some (r,H')→aU P f args H fun x y=>x=r∧y=H':=fun {e fr H1} he hev hres=>by
    refine aE hT hf hb (hn f fn hf) ?_;refine bZ hT hm hc c _ _ _ _ _ hev _ ?_;split at hres
    ·rename_i vs hvs;cases hres
     rcases he with rfl | rfl<;>simp[retQ,hvs]
    ·cases hres
   split at h
   ·rename_i fr H1 hev;exact fin (.inl rfl) hev h
   ·rename_i fr H1 hev;exact fin (.inr rfl) hev h
   ·cases h
  ·cases h
 ·cases h
def aa(P:Program)(ext:am):Prop:=∀f args H r H',ext f args H=some (r,H')→aU P f args H fun x y=>x=r∧y=H'
theorem evCall_ok(hT:TOk P T)(hm:P.follows .mixedOrders=true)(hn:∀(f:Nat) (fn:Func),P.funcs[f]?=some fn→(fn.name == "runtime.NumGoroutine")=false){ext:am}(he:aa P ext){fuel:Nat} : ∀d,fI P (nV P T ext fuel d)
 | 0=>fun fv args H r H' h=>by simp[nV]at h
 | d+1=>fun fv args H r H' h=>by
  simp only[nV]at h;split at h
  ·rename_i f caps;split at h
   ·rename_i r' hr;cases h;exact he _ _ _ _ _ hr
   ·exact evFun_ok hT hm hn (evCall_ok hT hm hn he d) h
  ·cases h
theorem closed_con(hT:TOk P T)(hm:P.follows .mixedOrders=true)(hn:∀(f:Nat) (fn:Func),P.funcs[f]?=some fn→(fn.name == "runtime.NumGoroutine")=false){ext:am}(hx:aa P ext){fuel d:Nat}{f:FuncId}{args:List V}{r:V}{H':List B}(h:nV P T ext fuel d (.fn f []) args []=some (r,H')){r':V}(he:exV H' 0 40 r=some r')(hp:Pure r'):aJ P f args fun x=>x=r':=by
 have h1:=evCall_ok hT hm hn hx d _ _ _ _ _ h;simp only[aL,oU]at h1;have h2:=fZ (G:=H') (d:=40) h1 he;exact dJ (h2.mono fun x y ⟨e1,e2⟩=>by subst e1;subst e2;exact⟨x,.pure x hp,hp,rfl⟩)
end
end Go.AM
namespace Go.AM
open Go
theorem lC{s:St}(hg:Good s){w:World}{k g c e z:Nat}{xs ys:List V}(hk:s.H[k]?=some (.buf e z xs false))(hpos:xs.length<ys.length)(hos:w.os=s.w.os)(htape:w.tape=s.w.tape)(hout:w.output=s.w.output)(hsz:s.w.heap.size≤w.heap.size)
  (hb:∀b,b<s.w.heap.size→(s.κ k≠0→b≠s.φ k)→w.heap[b]?=s.w.heap[b]?) (hgk:(g=s.φ k∧s.κ k≠0)∨s.w.heap.size≤g):Step s (s.grow w k g c (.buf e z ys false)) where
 F:=rfl
 os:=hos
 tape:=htape
 output:=hout
 size:=hsz
 out b h hn:=hb b h (fun hκ e=>hn k (lvB hk hκ) e.symm)
 len:=by simp[St.grow]
 new i h2 h3:=absurd h2 (by have:=h3.1;simp[St.grow]at this;omega)
 keep i b hi:=by
  have hil:=aB hi;by_cases hik:i=k
  ·subst hik;rw[hk]at hi;cases hi;refine⟨ys,false,by simp[St.grow,hil],by omega,fun he=>by omega,(fun h=>by cases h),?_⟩;simp only[St.grow,aR];exact⟨hgk.imp And.left id,fun hz=>.inr (hgk.elim (fun h=>absurd hz h.2) id)⟩
  ·have hk':(s.grow w k g c (.buf e z ys false)).H[i]?=some b:=by simp only[St.grow];rw[oQ (Ne.symm hik)];exact hi
   have e1:(s.grow w k g c (.buf e z ys false)).φ i=s.φ i:=bH _ _ hik;have e2:(s.grow w k g c (.buf e z ys false)).κ i=s.κ i:=bH _ _ hik
   cases b with
   | cells cs=>exact⟨e1,cs,hk'⟩
   | map kk es=>exact⟨e1,es,hk'⟩
   | buf e0 z0 xs0 fz=>exact⟨xs0,fz,hk',oJ _,fun _=>⟨e1,e2⟩,fun hf=>⟨hf,rfl,fun hz=>hb _ (hg.lt i (lvB hi hz)).1 (fun hκ e=>hik (hg.inj i k (lvB hi hz) (lvB hk hκ) e))⟩,.inl e1,fun hz=>.inl (by rw[e2];exact hz)⟩
theorem regrow_good{s:St}(hg:Good s){w:World}{k g c e z:Nat}{xs ys:List V}(hk:s.H[k]?=some (.buf e z xs false))(hpos:xs.length<ys.length)(hos:w.os=s.w.os)(htape:w.tape=s.w.tape)(hout:w.output=s.w.output)(hsz:s.w.heap.size≤w.heap.size)
  (hb:∀b,b<s.w.heap.size→(s.κ k≠0→b≠s.φ k)→w.heap[b]?=s.w.heap[b]?) (hgk:(g=s.φ k∧s.κ k≠0)∨s.w.heap.size≤g) (hgl:g<w.heap.size)
  (hbl:Step s (s.grow w k g c (.buf e z ys false))→BRel (s.grow w k g c (.buf e z ys false)) k (.buf e z ys false)):Good (s.grow w k g c (.buf e z ys false)):=by
 have hst:=lC (c:=c) hg hk hpos hos htape hout hsz hb hgk;have hkl:=aB hk
 have hlen:(s.grow w k g c (.buf e z ys false)).H.length=s.H.length:=by simp[St.grow]
 have hother:∀i,i≠k→(s.grow w k g c (.buf e z ys false)).φ i=s.φ i:=fun i hi=>bH _ _ hi
 have hself:(s.grow w k g c (.buf e z ys false)).φ k=g:=aR _ _ _
 have hlv:∀i,i≠k→Lv (s.grow w k g c (.buf e z ys false)) i→Lv s i:=fun i hne hl=>⟨by have:=hl.1;omega,fun e' z' xs' fz' hb'=>by
  have:=hl.2 e' z' xs' fz' (by simp only[St.grow];rw[oQ (Ne.symm hne)];exact hb')
  rwa [show(s.grow w k g c (.buf e z ys false)).κ i=s.κ i from bH _ _ hne]at this⟩
 refine⟨fun b h=>om (hg.fl b h) hsz,fun i hi=>?_,fun i j hi hj e=>?_,fun i b hi=>?_⟩
 ·by_cases hik:i=k
  ·subst hik;rw[hself];refine⟨hgl,fun hF=>?_⟩
   rcases hgk with h | h
   ·rw[h.1]at hF;exact(hg.lt i (lvB hk h.2)).2 hF
   ·have:=hg.fl g hF;omega
  ·rw[hother i hik];have:=hg.lt i (hlv i hik hi);exact⟨om this.1 hsz,this.2⟩
 ·have inj2:∀i,Lv s i→i≠k→s.φ i≠g:=fun i hi hne e=>by
   rcases hgk with h | h
   ·exact hne (hg.inj i k hi (lvB hk h.2) (e.trans h.1))
   ·have:=(hg.lt i hi).1;omega
  by_cases hik:i=k<;>by_cases hjk:j=k
  ·omega
  ·subst hik;rw[hself,hother j hjk]at e;exact absurd e.symm (inj2 j (hlv j hjk hj) hjk)
  ·subst hjk;rw[hself,hother i hik]at e;exact absurd e (inj2 i (hlv i hik hi) hik)
  ·rw[hother i hik,hother j hjk]at e;exact hg.inj i j (hlv i hik hi) (hlv j hjk hj) e
 ·by_cases hik:i=k
  ·subst hik
   have:(s.grow w i g c (.buf e z ys false)).H[i]?=some (.buf e z ys false):=by simp[St.grow,hkl]
   rw[this]at hi;cases hi;exact hbl hst
  ·have hi':s.H[i]?=some b:=by simp only[St.grow]at hi;rwa [oQ (Ne.symm hik)]at hi
   exact(hg.blk i b hi').step hst hi' (hother i hik) (bH _ _ hik) (fun hl=>hb _ (hg.lt i hl).1 (fun hκ e=>hik (hg.inj i k hl (lvB hk hκ) e)))
end Go.AM
namespace Go.AM
open Go
inductive FT where
 | nil
 | node (v:V) (l r:FT)
def FT.get:FT→Nat→V
 | .nil,_=>.undef
 | .node v l r,i=>cond (pO i 0) v (cond (pO (i % 2) 1) (l.get (i / 2)) (r.get (i / 2-1)))
def FT.set:FT→Nat→V→FT
 | .nil,_,_=>.nil
 | .node v l r,i,x=>cond (pO i 0) (.node x l r) (cond (pO (i % 2) 1) (.node v (l.set (i / 2) x) r) (.node v l (r.set (i / 2-1) x)))
def FT.has:FT→Nat→Bool
 | .nil,_=>false
 | .node _ l r,i=>cond (pO i 0) true (cond (pO (i % 2) 1) (l.has (i / 2)) (r.has (i / 2-1)))
def FT.full(v:V):Nat→FT
 | 0=>.nil
 | d+1=>.node v (FT.full v d) (FT.full v d)
theorem nD(v:V):∀(d i:Nat),i+1<2^d→(FT.full v d).get i=v∧(FT.full v d).has i=true
 | 0,i,h=>by simp at h
 | d+1,i,h=>by
  have e1:(FT.full v (d+1)).get i=cond (pO i 0) v (cond (pO (i % 2) 1) ((FT.full v d).get (i / 2)) ((FT.full v d).get (i / 2-1))):=rfl;have e2:(FT.full v (d+1)).has i=cond (pO i 0) true (cond (pO (i % 2) 1) ((FT.full v d).has (i / 2)) ((FT.full v d).has (i / 2-1))):=rfl;rw[e1,e2];rw[Nat.pow_succ]at h;cases h0:pO i 0
  ·have hi:i≠0:=fun e=>by subst e;simp at h0
   cases h1:pO (i % 2) 1
   ·have h1':i % 2≠1:=fun e=>by rw[e]at h1;simp at h1
    exact nD v d (i / 2-1) (by omega)
   ·have h1':i % 2=1:=qm h1;exact nD v d (i / 2) (by omega)
  ·exact⟨rfl,rfl⟩
theorem ly(x:V):∀(t:FT) (i j:Nat),t.has i=true→(t.set i x).get j=(if i=j then x else t.get j)∧(t.set i x).has j=t.has j
 | .nil,i,j,h=>by have:FT.has .nil i=false:=rfl;rw[this]at h;cases h
 | .node v l r,i,j,h=>by
  have e0:(FT.node v l r).has i=cond (pO i 0) true (cond (pO (i % 2) 1) (l.has (i / 2)) (r.has (i / 2-1))):=rfl;have e1:(FT.node v l r).set i x=cond (pO i 0) (.node x l r) (cond (pO (i % 2) 1) (.node v (l.set (i / 2) x) r) (.node v l (r.set (i / 2-1) x))):=rfl
  have g:∀(v:V) (l r:FT) (j:Nat),(FT.node v l r).get j=cond (pO j 0) v (cond (pO (j % 2) 1) (l.get (j / 2)) (r.get (j / 2-1))):=fun _ _ _ _=>rfl
  have hh:∀(v:V) (l r:FT) (j:Nat),(FT.node v l r).has j=cond (pO j 0) true (cond (pO (j % 2) 1) (l.has (j / 2)) (r.has (j / 2-1))):=fun _ _ _ _=>rfl
  have bz:∀a b:Nat,pO a b=decide (a=b):=fun a b=>by
   cases hb:pO a b
   ·exact(decide_eq_false (fun e=>by subst e;simp at hb)).symm
   ·exact(decide_eq_true (qm hb)).symm
  rw[e0]at h;rw[e1];simp only[bz]at h ⊢;by_cases hi:i=0
  ·subst hi;simp only[decide_true,cond_true,g,hh,bz];by_cases hj:j=0
   ·subst hj;simp
   ·simp[hj,Ne.symm hj]
  ·simp only[hi,decide_false,cond_false]at h ⊢;by_cases h1:i % 2=1
   ·simp only[h1,decide_true,cond_true]at h ⊢;simp only[g,hh,bz];by_cases hj:j=0
    ·subst hj;simp[hi]
    ·simp only[hj,decide_false,cond_false];by_cases hj1:j % 2=1
     ·obtain⟨k1,k2⟩:=ly x l (i / 2) (j / 2) h;simp only[hj1,decide_true,cond_true,k1,k2,and_true]
      have:(i / 2=j / 2)↔(i=j):=by omega
      simp[this]
     ·simp only[hj1,decide_false,cond_false,and_true];rw[if_neg (fun e:i=j=>hj1 (e▸h1))]
   ·simp only[h1,decide_false,cond_false]at h ⊢;simp only[g,hh,bz];by_cases hj:j=0
    ·subst hj;simp[hi]
    ·simp only[hj,decide_false,cond_false];by_cases hj1:j % 2=1
     ·simp only[hj1,decide_true,cond_true,and_true];rw[if_neg (fun e:i=j=>h1 (e▸hj1))]
     ·obtain⟨k1,k2⟩:=ly x r (i / 2-1) (j / 2-1) h;simp only[hj1,decide_false,cond_false,k1,k2,and_true]
      have:(i / 2-1=j / 2-1)↔(i=j):=by omega
      simp[this]
def ib(n:Nat)(t:FT):Operand→V
 | .tmp i=>cond (Nat.blt i n) (t.get i) .undef
 | .const v=>(gh v).getD .undef
 | .func f=>.fn f []
 | .global _=>.undef
def putT(n:Nat)(t:FT)(d:Option Tmp)(v:V):FT :=
 match d with
 | some i=>cond (Nat.blt i n) (t.set i v) t
 | none=>t
def wantT(n:Nat)(ops:Array Oper)(t:FT)(o:Oper):Option Bool :=
 match o.guard with
 | none=>some true
 | some (j,want)=>match ops[j]? with
  | some oj=>match oj.dst with
   | some d=>match ib n t (.tmp d) with
    | .bool b=>some (b == want)
    | .tup _=>some false
    | _=>none
   | none=>none
  | none=>none
def iy(n:Nat)(call:bf)(T:Ty)(ops:Array Oper):List Oper→FT→List B→Option (FT×List B)
 | [],fr,H=>some (fr,H)
 | o::rest,fr,H=>match wantT n ops fr o with
  | some true=>match aj o.op with
   | some (f,args)=>match call (ib n fr f) (args.map (ib n fr)) H with
    | some (r,H')=>iy n call T ops rest (putT n fr o.dst r) H'
    | none=>none
   | none=>match aop T o.op (ib n fr) H with
    | some (v,H')=>iy n call T ops rest (putT n fr o.dst v) H'
    | none=>none
  | some false=>iy n call T ops rest (putT n fr o.dst (.tup [])) H
  | none=>none
def toL(n:Nat)(t:FT):List V:=(oM n).map t.get
def jb(t:FT):Nat→List V→FT
 | _,[]=>t
 | i,v::r=>jb (t.set i v) (i+1) r
def ofL(d:Nat)(l:List V):FT:=jb (FT.full (.tup []) d) 0 l
structure FR (n:Nat) (t:FT) (fr:List V):Prop where
 len:fr.length=n
 at_:∀i,i<n→fr[i]?=some (t.get i)∧t.has i=true
section
variable {n:Nat} {t:FT} {fr:List V}
theorem blt_iff(a b:Nat):Nat.blt a b=decide (a<b):=by
 unfold Nat.blt;cases h:Nat.ble a.succ b
 ·exact(decide_eq_false (fun hl=>by rw[Nat.ble_eq_true_of_le hl]at h;cases h)).symm
 ·exact(decide_eq_true (Nat.le_of_ble_eq_true h)).symm
theorem FR.eval(h:FR n t fr)(x:Operand):ib n t x=aO fr x:=by
 cases x with
 | tmp i =>
  simp only[ib,aO,blt_iff]
  have key:∀k:Nat,(cond (decide (k<n)) (t.get k) V.undef)=(fr[k]?).getD .undef:=fun k=>by
   by_cases hk:k<n
   ·simp[hk,(h.at_ k hk).1]
   ·have:=h.len;rw[pK (by omega)];simp[hk]
  exact key i
 | const v=>rfl
 | func f=>rfl
 | global g=>rfl
theorem FR.put(h:FR n t fr)(d:Option Tmp)(v:V):FR n (putT n t d v) (ak fr d v):=by
 cases d with
 | none=>exact h
 | some i =>
  have key:∀k:Nat,FR n (cond (Nat.blt k n) (t.set k v) t) (fr.set k v):=fun k=>by
   rw[blt_iff];by_cases hk:k<n
   ·refine⟨by simp[h.len],fun j hj=>?_⟩;have hs:=ly v t k j (h.at_ k hk).2;simp only[hk,decide_true,cond_true];rw[hs.1,hs.2];refine⟨?_,(h.at_ j hj).2⟩;by_cases hkj:k=j
    ·subst hkj;rw[oX (by rw[h.len];exact hk)];simp
    ·rw[oQ hkj,if_neg hkj];exact(h.at_ j hj).1
   ·simp only[hk,decide_false,cond_false];rw[List.set_eq_of_length_le (by rw[h.len];omega)];exact h
  exact key i
theorem FR.want(h:FR n t fr)(ops:Array Oper)(o:Oper):wantT n ops t o=bA ops fr o:=by
 unfold wantT bA
 cases o.guard with
 | none=>rfl
 | some p =>
  obtain⟨j,want⟩:=p;simp only
  cases ops[j]? with
  | none=>rfl
  | some oj =>
   simp only
   cases oj.dst with
   | none=>rfl
   | some d =>
    simp only;rw[h.eval];simp only[aO]
    have key:∀k:Nat,(match (fr[k]?).getD .undef with
      | .bool b=>some (b == want)
      | .tup _=>some false
      | _=>none)=(match fr[k]? with
      | some (.bool b)=>some (b == want)
      | some (.tup _)=>some false
      | _=>none):=fun k=>by
     cases fr[k]? with
     | none=>rfl
     | some v=>cases v<;>rfl
    exact key d
theorem FR.list(h:FR n t fr):toL n t=fr:=by
 apply pT;intro i;by_cases hi:i<n
 ·rw[(h.at_ i hi).1,toL,oc,qZ hi];rfl
 ·have:=h.len;rw[pK (by simp[toL];omega),pK (by omega)]
theorem ofLgo_ok(N:Nat):∀(l:List V) (i:Nat) (t:FT),(∀k,k<N→t.has k=true)→i+l.length≤N→(∀k,k<N→(jb t i l).has k=true)∧(∀k,k<i→(jb t i l).get k=t.get k)∧(∀k v,l[k]?=some v→(jb t i l).get (i+k)=v)∧∀k,i+l.length≤k→(jb t i l).get k=t.get k
 | [],i,t,h,hl=>⟨h,fun _ _=>rfl,by simp,fun _ _=>rfl⟩
 | v::l,i,t,h,hl=>by
  simp only[og]at hl
  have hs:=fun k=>ly v t i k (h i (by omega))
  obtain⟨a1,a2,a3,a4⟩:=ofLgo_ok N l (i+1) (t.set i v) (fun k hk=>by rw[(hs k).2];exact h k hk) (by omega);refine⟨a1,fun k hk=>?_,fun k x hx=>?_,fun k hk=>?_⟩
  ·show(jb (t.set i v) (i+1) l).get k=_;rw[a2 k (by omega),(hs k).1,if_neg (by omega)]
  ·cases k with
   | zero=>simp at hx;subst hx;show(jb (t.set i v) (i+1) l).get i=_;rw[a2 i (by omega),(hs i).1,if_pos rfl]
   | succ k=>have:=a3 k x (by simpa using hx);rw[show i+(k+1)=i+1+k by omega];exact this
  ·simp only[og]at hk;show(jb (t.set i v) (i+1) l).get k=_;rw[a4 k (by omega),(hs k).1,if_neg (by omega)]
theorem ofL_ok{d:Nat}{l:List V}(hn:n<2^d)(hl:l.length≤n):FR n (ofL d l) (l++oE (n-l.length) (.tup [])):=by
 have hf:=fun k (hk:k<n)=>nD (.tup []) d k (by omega)
 obtain⟨a1,a2,a3,a4⟩:=ofLgo_ok n l 0 (FT.full (.tup []) d) (fun k hk=>(hf k hk).2) (by omega);refine⟨by simp;omega,fun i hi=>⟨?_,a1 i hi⟩⟩;by_cases hil:i<l.length
 ·have hx:l[i]?=some l[i]:=oG hil;have:=a3 i _ hx;rw[pI]at this;rw[oL hil,hx];exact congrArg some this.symm
 ·rw[oS (by omega),List.getElem?_replicate,if_pos (by omega)];have:=a4 i (by omega);exact congrArg some ((this.trans (hf i hi).1).symm)
end
def jt(f:FT→List B→Option (Exit×FT×List B)):Nat→FT→List B→Option (Exit×FT×List B)
 | 0,_,_=>none
 | m+1,fr,H=>match f fr H with
  | some (.normal,fr',H')=>jt f m fr' H'
  | r=>r
def bC(n d:Nat)(call:bf)(T:Ty)(fuel:Nat):Code→FT→List B→Option (Exit×FT×List B)
 | .skip,fr,H=>some (.normal,fr,H)
 | .region _ ops false,fr,H=>match iy n call T ops ops.toList fr H with
  | some (fr',H')=>some (.normal,fr',H')
  | none=>none
 | .region _ ops true,fr,H=>match evDraw call T ops (toL n fr) H with
  | some (fr',H')=>if fr'.length=n then some (.normal,ofL d fr',H') else none
  | none=>none
 | .seq a b,fr,H=>match bC n d call T fuel a fr H with
  | some (.normal,fr',H')=>bC n d call T fuel b fr' H'
  | r=>r
 | .cond c a b,fr,H=>match ib n fr c with
  | .bool true=>bC n d call T fuel a fr H
  | .bool false=>bC n d call T fuel b fr H
  | _=>none
 | .block id c,fr,H=>match bC n d call T fuel c fr H with
  | some (.exit id',fr',H')=>if id'=id then some (.normal,fr',H') else some (.exit id',fr',H')
  | r=>r
 | .loop c,fr,H=>jt (bC n d call T fuel c) fuel fr H
 | .exit id,fr,H=>some (.exit id,fr,H)
 | .ret,fr,H=>some (.ret,fr,H)
 | _,_,_=>none
def resT(T:Ty)(n:Nat)(fr:FT)(H:List B):List ResultVar→Option (List V)
 | []=>some []
 | .tmp t::rs=>if t<n then(match resT T n fr H rs with
  | some vs=>some (fr.get t::vs)
  | none=>none) else none
 | .cell a t::rs=>if a<n then(match mt T H t (fr.get a),resT T n fr H rs with
  | some v,some vs=>some (v::vs)
  | _,_=>none) else none
def evFunT(P:Program)(T:Ty)(fuel:Nat)(call:bf)(f:FuncId)(args:List V)(H:List B):Option (V×List B):=
 match P.funcs[f]? with
 | some fn=>match fn.body with
  | some c=>if args.length≤fn.ntmps∧fn.ntmps<256 then(match bC fn.ntmps 8 call T fuel c (ofL 8 args) H with
   | some (.normal,fr,H') | some (.ret,fr,H')=>match resT T fn.ntmps fr H' fn.results.toList with
    | some vs=>some (lF vs,H')
    | none=>none
   | _=>none) else none
  | none=>none
 | none=>none
def ju(P:Program)(T:Ty)(ext:am)(fuel:Nat):Nat→bf
 | 0,_,_,_=>none
 | d+1,fv,args,H=>match fv with
  | .fn f caps=>match ext f (args++caps) H with
   | some r=>some r
   | none=>evFunT P T fuel (ju P T ext fuel d) f (args++caps) H
  | _=>none
section
variable {P:Program} {T:Ty}
theorem map_evalT{n:Nat}{t:FT}{fr:List V}(h:FR n t fr)(args:List Operand):args.map (ib n t)=args.map (aO fr):=oo fun x _=>h.eval x
theorem aopT{n:Nat}{t:FT}{fr:List V}(h:FR n t fr)(o:Go.Op)(H:List B):aop T o (ib n t) H=aop T o (aO fr) H:=by
 have:ib n t=aO fr:=funext h.eval;rw[this]
theorem iL{n:Nat}{call:bf}{ops:Array Oper} : ∀{l:List Oper} {t:FT} {fr:List V} {H:List B} {t':FT} {H':List B},FR n t fr→iy n call T ops l t H=some (t',H')→∃fr',jr call T ops l fr H=some (fr',H')∧FR n t' fr'
 | [],t,fr,H,t',H',h,he=>by simp only[iy,Option.some.injEq,Prod.mk.injEq]at he;obtain⟨rfl,rfl⟩:=he;exact⟨fr,rfl,h⟩
 | o::rest,t,fr,H,t',H',h,he=>by
  simp only[iy]at he;simp only[jr];rw[h.want]at he
  cases hw:bA ops fr o with
  | none=>rw[hw]at he;cases he
  | some b =>
   rw[hw]at he
   cases b with
   | false=>exact iL (h.put o.dst _) he
   | true =>
    simp only at he ⊢
    cases hc:aj o.op with
    | some p =>
     obtain⟨f,args⟩:=p;rw[hc]at he;simp only at he ⊢;rw[h.eval,map_evalT h]at he
     cases hcall:call (aO fr f) (args.map (aO fr)) H with
     | none=>rw[hcall]at he;cases he
     | some q =>
      obtain⟨r,H1⟩:=q;rw[hcall]at he;exact iL (h.put o.dst r) he
    | none =>
     rw[hc]at he;simp only at he ⊢;rw[aopT h]at he
     cases hop:aop T o.op (aO fr) H with
     | none=>rw[hop]at he;cases he
     | some q =>
      obtain⟨v,H1⟩:=q;rw[hop]at he;exact iL (h.put o.dst v) he
theorem nT{n:Nat}{f:FT→List B→Option (Exit×FT×List B)}{g:List V→List B→Option (Exit×List V×List B)}
  (hf:∀t fr H e t' H',FR n t fr→f t H=some (e,t',H')→∃fr',g fr H=some (e,fr',H')∧FR n t' fr'):∀(m:Nat) {t:FT} {fr:List V} {H:List B} {e:Exit} {t':FT} {H':List B},FR n t fr→jt f m t H=some (e,t',H')→∃fr',gE g m fr H=some (e,fr',H')∧FR n t' fr'
 | 0,t,fr,H,e,t',H',h,he=>by simp[jt]at he
 | m+1,t,fr,H,e,t',H',h,he=>by
  simp only[jt]at he;split at he
  ·rename_i t1 H1 h1;obtain⟨fr1,g1,r1⟩:=hf _ _ _ _ _ _ h h1;obtain⟨fr',g2,r2⟩:=nT hf m r1 he;exact⟨fr',by simp only[gE,g1];exact g2,r2⟩
  ·rename_i r hno;obtain⟨fr',g1,r1⟩:=hf _ _ _ _ _ _ h he;refine⟨fr',?_,r1⟩;simp only[gE,g1]
   cases e with
   | normal=>exact absurd he (hno _ _)
   | _=>rfl
theorem bn{n d:Nat}(hd:n<2^d){call:bf}{fuel:Nat} : ∀(c:Code) (t:FT) (fr:List V) (H:List B) (e:Exit) (t':FT) (H':List B),FR n t fr→bC n d call T fuel c t H=some (e,t',H')→∃fr',aq call T fuel c fr H=some (e,fr',H')∧FR n t' fr'
 | .skip,t,fr,H,e,t',H',h,he=>by simp only[bC]at he;cases he;exact⟨fr,rfl,h⟩
 | .region id ops false,t,fr,H,e,t',H',h,he=>by
  simp only[bC]at he;split at he
  ·rename_i t1 H1 h1;cases he;obtain⟨fr',g1,r1⟩:=iL h h1;exact⟨fr',by simp only[aq,g1],r1⟩
  ·cases he
 | .region id ops true,t,fr,H,e,t',H',h,he=>by
  simp only[bC]at he;split at he
  ·rename_i f1 H1 h1;split at he
   ·rename_i hl;cases he;rw[h.list]at h1;have:=ofL_ok (n:=n) (d:=d) (l:=f1) hd (by omega);rw[hl,px]at this;simp only[rG,oU]at this;exact⟨f1,by simp only[aq,h1],this⟩
   ·cases he
  ·cases he
 | .seq a b,t,fr,H,e,t',H',h,he=>by
  simp only[bC]at he;split at he
  ·rename_i t1 H1 h1;obtain⟨fr1,g1,r1⟩:=bn hd a _ _ _ _ _ _ h h1;obtain⟨fr',g2,r2⟩:=bn hd b _ _ _ _ _ _ r1 he;exact⟨fr',by simp only[aq,g1];exact g2,r2⟩
  ·rename_i r hno;obtain⟨fr',g1,r1⟩:=bn hd a _ _ _ _ _ _ h he;refine⟨fr',?_,r1⟩;simp only[aq,g1]
   cases e with
   | normal=>exact absurd he (hno _ _)
   | _=>rfl
 | .cond c a b,t,fr,H,e,t',H',h,he=>by
  simp only[bC]at he;rw[h.eval]at he;split at he
  ·rename_i hb;obtain⟨fr',g1,r1⟩:=bn hd a _ _ _ _ _ _ h he;exact⟨fr',by simp only[aq,hb];exact g1,r1⟩
  ·rename_i hb;obtain⟨fr',g1,r1⟩:=bn hd b _ _ _ _ _ _ h he;exact⟨fr',by simp only[aq,hb];exact g1,r1⟩
  ·cases he
 | .block id c,t,fr,H,e,t',H',h,he=>by
  simp only[bC]at he;split at he
  ·rename_i id' t1 H1 h1;obtain⟨fr1,g1,r1⟩:=bn hd c _ _ _ _ _ _ h h1;split at he
   ·rename_i hid;cases he;exact⟨fr1,by simp only[aq,g1,hid,if_true],r1⟩
   ·rename_i hid;cases he;exact⟨fr1,by simp only[aq,g1,hid,if_false],r1⟩
  ·rename_i r hno;obtain⟨fr',g1,r1⟩:=bn hd c _ _ _ _ _ _ h he;refine⟨fr',?_,r1⟩;simp only[aq,g1]
   cases e with
   | exit id'=>exact absurd he (hno _ _ _)
   | _=>rfl
 | .loop c,t,fr,H,e,t',H',h,he=>by
  simp only[bC]at he;obtain⟨fr',g1,r1⟩:=nT (g:=aq call T fuel c) (fun t fr H e t' H' a b=>bn hd c t fr H e t' H' a b) fuel h he;exact⟨fr',by simp only[aq,g1],r1⟩
 | .exit id,t,fr,H,e,t',H',h,he=>by simp only[bC]at he;cases he;exact⟨fr,rfl,h⟩
 | .ret,t,fr,H,e,t',H',h,he=>by simp only[bC]at he;cases he;exact⟨fr,rfl,h⟩
 | .rangeFunc ..,t,fr,H,e,t',H',h,he=>by simp[bC]at he
 | .scope _,t,fr,H,e,t',H',h,he=>by simp[bC]at he
 | .label _,t,fr,H,e,t',H',h,he=>by simp[bC]at he
 | .goto _,t,fr,H,e,t',H',h,he=>by simp[bC]at he
 | .refuse _,t,fr,H,e,t',H',h,he=>by simp[bC]at he
theorem lZ{n:Nat}{t:FT}{fr:List V}{H:List B}(h:FR n t fr):∀{rs:List ResultVar} {vs:List V},resT T n t H rs=some vs→bq T fr H rs=some vs
 | [],vs,hr=>hr
 | .tmp i::rs,vs,hr=>by
  simp only[resT]at hr;split at hr
  ·rename_i hi;split at hr
   ·rename_i ws hw;cases hr
    have key:∀k:Nat,k<n→fr[k]?=some (t.get k):=fun k hk=>(h.at_ k hk).1
    simp only[bq,jY,lZ h hw];have:=key i hi;rw[this]
   ·cases hr
  ·cases hr
 | .cell a ty::rs,vs,hr=>by
  simp only[resT]at hr;split at hr
  ·rename_i hi;split at hr
   ·rename_i v ws hv hw;cases hr
    have key:∀k:Nat,k<n→fr[k]?=some (t.get k):=fun k hk=>(h.at_ k hk).1
    simp only[bq,jY,lZ h hw];have:=key a hi;rw[this];simp only[hv]
   ·cases hr
  ·cases hr
theorem evFunT_ok{call:bf}{fuel:Nat}{f:FuncId}{args:List V}{H:List B}{r:V×List B}(h:evFunT P T fuel call f args H=some r):evFun P T fuel call f args H=some r:=by
 unfold evFunT at h;unfold evFun
 cases hf:P.funcs[f]? with
 | none=>rw[hf]at h;cases h
 | some fn =>
  rw[hf]at h;simp only at h ⊢
  cases hb:fn.body with
  | none=>rw[hb]at h;cases h
  | some c =>
   rw[hb]at h;simp only at h ⊢;split at h
   ·rename_i hn;have hfr:=ofL_ok (n:=fn.ntmps) (d:=8) (l:=args) hn.2 hn.1
    cases h1:bC fn.ntmps 8 call T fuel c (ofL 8 args) H with
    | none=>rw[h1]at h;cases h
    | some q =>
     obtain⟨e,t1,H1⟩:=q;obtain⟨fr',g1,r1⟩:=bn hn.2 c _ _ _ _ _ _ hfr h1;rw[h1]at h;rw[g1]
     cases e with
     | normal =>
      simp only at h ⊢
      cases hv:resT T fn.ntmps t1 H1 fn.results.toList with
      | none=>rw[hv]at h;cases h
      | some vs=>rw[hv]at h;rw[lZ r1 hv];exact h
     | ret =>
      simp only at h ⊢
      cases hv:resT T fn.ntmps t1 H1 fn.results.toList with
      | none=>rw[hv]at h;cases h
      | some vs=>rw[hv]at h;rw[lZ r1 hv];exact h
     | _=>cases h
   ·cases h
theorem nU(hT:TOk P T)(hm:P.follows .mixedOrders=true)(hn:∀(f:Nat) (fn:Func),P.funcs[f]?=some fn→(fn.name == "runtime.NumGoroutine")=false){ext:am}(he:aa P ext){fuel:Nat} : ∀d,fI P (ju P T ext fuel d)
 | 0=>fun fv args H r H' h=>by simp[ju]at h
 | d+1=>fun fv args H r H' h=>by
  simp only[ju]at h;split at h
  ·rename_i f caps;split at h
   ·rename_i r' hr;cases h;exact he _ _ _ _ _ hr
   ·exact evFun_ok hT hm hn (nU hT hm hn he d) (evFunT_ok h)
  ·cases h
theorem aH(hT:TOk P T)(hm:P.follows .mixedOrders=true)(hn:∀(f:Nat) (fn:Func),P.funcs[f]?=some fn→(fn.name == "runtime.NumGoroutine")=false){ext:am}(hx:aa P ext){fuel d:Nat}{f:FuncId}{args:List V}{r':V}
  (h:(match ju P T ext fuel d (.fn f []) args [] with
   | some (r,H')=>(match exV H' 0 40 r with
    | some x=>eqV 40 x r'
    | none=>false)
   | none=>false)=true) (hp:Pure r'):aJ P f args fun x=>x=r':=by
 split at h
 ·rename_i r H' hev;split at h
  ·rename_i x hex;have:=dG _ _ _ h;subst this;have h1:=nU hT hm hn hx d _ _ _ _ _ hev;simp only[aL,oU]at h1;have h2:=fZ (G:=H') (d:=40) h1 hex;exact dJ (h2.mono fun y z ⟨e1,e2⟩=>by subst e1;subst e2;exact⟨y,.pure y hp,hp,rfl⟩)
  ·cases h
 ·cases h
theorem ac{ext:am}(he:aa P ext){g:FuncId}{ga:List V}{gr:V}(hc:aJ P g ga fun x=>x=gr)(hq:∀a∈ga,Pure a):
  aa P (fun f args H=>if pO f g then(if eqL (eqV 40) args ga then some (gr,H) else ext f args H) else ext f args H):=fun f args H r H' h=>by
 simp only at h;split at h
 ·rename_i hf;have hf:=qm hf;split at h
  ·rename_i ha;have ha:=dy (dG 40) ha;cases h;subst ha;have hfg:f=g:=hf;subst hfg;have:=aT (H:=H) hc hq;simpa only[aL,oU] using this
  ·exact he f args H r H' h
 ·exact he f args H r H' h
end
end Go.AM
end
