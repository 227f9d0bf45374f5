/- JG5: own texts of this seat, joined and shortened by pack4.py: AMe. -/
import Derived.Test.YtdhgchekdkjcpaaGreatDoorJG4
set_option linter.unusedVariables false
set_option linter.unusedSimpArgs false
set_option maxRecDepth 100000
set_option maxHeartbeats 64000000
open Bool renaming and_eq_true→kb,false_eq_true→ke,or_eq_true→lW
open List renaming replicate→kQ,getElem?_eq_getElem→kR,mem_of_getElem?→kS,getElem?_append_left→kU,nil_append→kX,length_cons→kZ,range→ki,getElem?_append_right→km,getElem?_set_ne→kn,getElem?_map→ko,append_nil→kp,length_nil→kq,getElem?_set_self→ku,getElem?_take→lA,all_eq_true→lJ,getElem?_eq_none→lN,getElem?_drop→lQ,append_assoc→lV,mem_of_mem_drop→la,mem_of_mem_take→lb,map_congr_left→lg,ext_getElem?→lj,take_append_drop→lp,take_zero→ly,mem_append→mC
open Nat renaming le_refl→kY,mul_le_mul_right→ka,add_mul→kh,beq→lO,lt_succ_self→lc,zero_add→ld,strongRecOn→lk,sub_self→mQ
section
namespace Go.AM
open Go
def eqL(f:V→V→Bool):List V→List V→Bool
 | [],[]=>true
 | x::xs,y::ys=>f x y&&eqL f xs ys
 | _,_=>false
def eqV:Nat→V→V→Bool
 | 0,_,_=>false
 | d+1,a,b=>match a,b with
  | .undef,.undef=>true
  | .bool x,.bool y=>x == y
  | .int k x,.int k' y=>decide (k=k')&&x == y
  | .str x,.str y=>x.data.toList == y.data.toList
  | .nilS,.nilS=>true
  | .lst z f xs,.lst z' f' ys=>z == z'&&f == f'&&eqL (eqV d) xs ys
  | .buf k o l t,.buf k' o' l' t'=>k == k'&&o == o'&&l == l'&&t == t'
  | .nilP,.nilP=>true
  | .ptr k o,.ptr k' o'=>k == k'&&o == o'
  | .pin cs o,.pin ds o'=>o == o'&&eqL (eqV d) cs ds
  | .pbuf k o l t,.pbuf k' o' l' t'=>k == k'&&o == o'&&l == l'&&t == t'
  | .sarr k n,.sarr k' n'=>k == k'&&n == n'
  | .nilM,.nilM=>true
  | .map k,.map k'=>k == k'
  | .fn f cs,.fn g ds=>f == g&&eqL (eqV d) cs ds
  | .nilFn,.nilFn=>true
  | .nilI,.nilI=>true
  | .ifc,.ifc=>true
  | .agg cs,.agg ds=>eqL (eqV d) cs ds
  | .tup cs,.tup ds=>eqL (eqV d) cs ds
  | _,_=>false
theorem eg{f:V→V→Bool}(h:∀x y,f x y=true→x=y):∀{xs ys:List V},eqL f xs ys=true→xs=ys
 | [],[],_=>rfl
 | [],_::_,h'=>by simp[eqL]at h'
 | _::_,[],h'=>by simp[eqL]at h'
 | x::xs,y::ys,h'=>by
  simp only[eqL,kb]at h';rw[h x y h'.1,eg h h'.2]
theorem ef:∀(d:Nat) (a b:V),eqV d a b=true→a=b
 | 0,a,b,h=>by simp[eqV]at h
 | d+1,a,b,h=>by
  have ih:=ef d
  cases a<;>cases b<;>simp only[eqV,kb,beq_iff_eq,decide_eq_true_eq,ke]at h<;>try rfl
  ·rw[h]
  ·rw[h.1,h.2]
  ·rename_i x y;cases x;cases y;have h:=Array.toList_inj.1 h;simp only at h;rw[h]
  ·rw[h.1.1,h.1.2,eg ih h.2]
  ·rw[h.1.1.1,h.1.1.2,h.1.2,h.2]
  ·rw[h.1,h.2]
  ·rw[h.1,eg ih h.2]
  ·rw[h.1.1.1,h.1.1.2,h.1.2,h.2]
  ·rw[h.1,h.2]
  ·rw[h]
  ·rw[h.1,eg ih h.2]
  ·rw[eg ih h]
  ·rw[eg ih h]
def eqE:List (V×V)→List (V×V)→Bool
 | [],[]=>true
 | x::xs,y::ys=>eqV 40 x.1 y.1&&eqV 40 x.2 y.2&&eqE xs ys
 | _,_=>false
theorem eqE_eq:∀{xs ys:List (V×V)},eqE xs ys=true→xs=ys
 | [],[],_=>rfl
 | [],_::_,h'=>by simp[eqE]at h'
 | _::_,[],h'=>by simp[eqE]at h'
 | (a,b)::xs,(c,d)::ys,h'=>by
  simp only[eqE,kb]at h';rw[ef _ _ _ h'.1.1,ef _ _ _ h'.1.2,eqE_eq h'.2]
def eqB:B→B→Bool
 | .cells cs,.cells ds=>eqL (eqV 40) cs ds
 | .map kk es,.map kk' es'=>decide (kk=kk')&&eqE es es'
 | .buf e z xs f,.buf e' z' xs' f'=>e == e'&&z == z'&&f == f'&&eqL (eqV 40) xs xs'
 | _,_=>false
theorem eqB_eq(a b:B)(h:eqB a b=true):a=b:=by
 cases a<;>cases b<;>simp only[eqB,kb,beq_iff_eq,decide_eq_true_eq,ke]at h
 ·rw[eg (ef 40) h]
 ·rw[h.1,eqE_eq h.2]
 ·rw[h.1.1.1,h.1.1.2,h.1.2,eg (ef 40) h.2]
def eqH:List B→List B→Bool
 | [],[]=>true
 | x::xs,y::ys=>eqB x y&&eqH xs ys
 | _,_=>false
theorem eqH_eq:∀{xs ys:List B},eqH xs ys=true→xs=ys
 | [],[],_=>rfl
 | [],_::_,h'=>by simp[eqH]at h'
 | _::_,[],h'=>by simp[eqH]at h'
 | a::xs,b::ys,h'=>by
  simp only[eqH,kb]at h';rw[eqB_eq _ _ h'.1,eqH_eq h'.2]
inductive Cl (n:Nat):V→Prop
 | undef:Cl n .undef
 | bool (b:Bool):Cl n (.bool b)
 | int (k:IntKind) (m:Int):Cl n (.int k m)
 | str (x:ByteArray):Cl n (.str x)
 | nilS:Cl n .nilS
 | lst (z:Nat) (full:Bool) (xs:List V) (h:∀x∈xs,∀c∈x.cells,Cl n c):Cl n (.lst z full xs)
 | buf (k off len tot:Nat) (h:k<n):Cl n (.buf k off len tot)
 | nilP:Cl n .nilP
 | ptr (k off:Nat) (h:k<n):Cl n (.ptr k off)
 | pin (cs:List V) (off:Nat) (h:∀c∈cs.drop off,Cl n c):Cl n (.pin cs off)
 | pbuf (k i off tot:Nat) (h:k<n):Cl n (.pbuf k i off tot)
 | sarr (k m:Nat) (h:k<n):Cl n (.sarr k m)
 | nilM:Cl n .nilM
 | map (k:Nat) (h:k<n):Cl n (.map k)
 | fn (f:FuncId) (caps:List V) (h:∀c∈caps,Cl n c):Cl n (.fn f caps)
 | nilFn:Cl n .nilFn
 | nilI:Cl n .nilI
 | ifc:Cl n .ifc
 | agg (cs:List V) (h:∀c∈cs,Cl n c):Cl n (.agg cs)
 | tup (vs:List V) (h:∀c∈vs,Cl n c):Cl n (.tup vs)
theorem fo{p:V→Prop}{cs:List V}{us:Array Value}(hl:us.size=cs.length)(h:∀(i:Nat) c u,cs[i]?=some c→us[i]?=some u→p c):∀c∈cs,p c:=fun c hc=>by
 obtain⟨i,hi,rfl⟩:=List.mem_iff_getElem.1 hc;exact h i _ us[i] (kR hi) (by simp)
theorem Rel.cl{s:St}{v:V}{u:Value}(h:Rel s v u):Cl s.H.length v:=by
 induction h with
 | undef u=>exact .undef
 | bool b=>exact .bool b
 | int k n=>exact .int k n
 | str x=>exact .str x
 | nilS=>exact .nilS
 | lst z full xs A cap b off u hcap hfull hA hz hcell hrel ih =>
  refine .lst z full xs fun x hx c hc=>?_
  obtain⟨i,hi⟩:=List.mem_iff_getElem?.1 hx;obtain⟨j,hj⟩:=List.mem_iff_getElem?.1 hc;exact ih i x j c hi hj
 | buf k off len tot e z xs fz A l c hk ht hh=>exact .buf _ _ _ _ (getElem?_lt hk)
 | nilP=>exact .nilP
 | ptr k off cs hk=>exact .ptr _ _ (getElem?_lt hk)
 | pin cs off b o u hp h1 hcell hrel ih =>
  refine .pin cs off fun c hc=>?_
  obtain⟨j,hj⟩:=List.mem_iff_getElem?.1 hc;rw[lQ]at hj;exact ih j c hj
 | pbuf k i off tot e z xs fz p hk ht hh=>exact .pbuf _ _ _ _ (getElem?_lt hk)
 | sarr k n cs hk=>exact .sarr _ _ (getElem?_lt hk)
 | nilM=>exact .nilM
 | map k kk es hk=>exact .map _ (getElem?_lt hk)
 | fn f caps us hl hh ih=>exact .fn f caps (fo hl ih)
 | nilFn=>exact .nilFn
 | nilI=>exact .nilI
 | ifc t x=>exact .ifc
 | agg cs us hl h1 hh ih=>exact .agg cs (fo hl ih)
 | tup vs us hl hh ih=>exact .tup vs (fo hl ih)
section
variable {P:Program} {T:Ty} {s:St}
theorem Rel.cut{H G:List B}(hH:s.H=H++G){v:V}{u:Value}(h:Rel s v u)(hc:Cl H.length v):Rel (s.cut H) v u:=by
 have get:∀k bl,k<H.length→s.H[k]?=some bl→(s.cut H).H[k]?=some bl:=fun k bl hk hb=>by rw[hH,kU hk]at hb;exact hb
 induction h with
 | undef u=>exact .undef u
 | bool b=>exact .bool b
 | int k n=>exact .int k n
 | str x=>exact .str x
 | nilS=>exact .nilS
 | lst z full xs A cap b off u hcap hfull hA hz hcell hrel ih =>
  cases hc with
  | lst _ _ _ hx =>
   exact .lst z full xs A cap b off u hcap hfull (fun h0=>⟨(hA h0).1,eI hH (hA h0).2⟩) hz hcell (fun i x j c hi hj=>ih i x j c hi hj (hx x (kS hi) c (kS hj)))
 | buf k off len tot e z xs fz A l c hk ht hh=>cases hc with | buf _ _ _ _ hk'=>exact .buf k off len tot e z xs fz A l c (get k _ hk' hk) ht hh
 | nilP=>exact .nilP
 | ptr k off cs hk=>cases hc with | ptr _ _ hk'=>exact .ptr (s:=s.cut H) k off cs (get k _ hk' hk)
 | pin cs off b o u hp h1 hcell hrel ih =>
  cases hc with
  | pin _ _ hx=>exact .pin cs off b o u (eI hH hp) h1 hcell (fun j c hj=>ih j c hj (hx c (kS (by rw[lQ];exact hj))))
 | pbuf k i off tot e z xs fz p hk ht hh=>cases hc with | pbuf _ _ _ _ hk'=>exact .pbuf k i off tot e z xs fz p (get k _ hk' hk) ht hh
 | sarr k n cs hk=>cases hc with | sarr _ _ hk'=>exact .sarr (s:=s.cut H) k n cs (get k _ hk' hk)
 | nilM=>exact .nilM
 | map k kk es hk=>cases hc with | map _ hk'=>exact .map (s:=s.cut H) k kk es (get k _ hk' hk)
 | fn f caps us hl hh ih=>cases hc with | fn _ _ hx=>exact .fn f caps us hl (fun i c u a b=>ih i c u a b (hx c (kS a)))
 | nilFn=>exact .nilFn
 | nilI=>exact .nilI
 | ifc t x=>exact .ifc t x
 | agg cs us hl h1 hh ih=>cases hc with | agg _ hx=>exact .agg cs us hl h1 (fun i c u a b=>ih i c u a b (hx c (kS a)))
 | tup vs us hl hh ih=>cases hc with | tup _ hx=>exact .tup vs us hl (fun i c u a b=>ih i c u a b (hx c (kS a)))
def ClB(n:Nat):B→Prop
 | .cells cs=>∀c∈cs,Cl n c
 | .map _ es=>∀p∈es,Cl n p.1∧Cl n p.2
 | .buf _ _ xs _=>∀x∈xs,∀c∈x.cells,Cl n c
theorem Good.cl(hg:Good s):∀bl∈s.H,ClB s.H.length bl:=fun bl hb=>by
 obtain⟨k,hk⟩:=List.mem_iff_getElem?.1 hb;have h:=hg.blk k bl hk
 cases bl with
 | cells cs=>obtain⟨_,vs,t,_,h3,h4⟩:=h;exact fo h3 (fun i c u a b=>(h4 i c u a b).cl)
 | map kk es =>
  obtain⟨_,ms,t,_,h3,h4⟩:=h;intro p hp;obtain⟨i,hi⟩:=List.mem_iff_getElem?.1 hp;have hl:=getElem?_lt hi;have:=h4 i p ms[i] hi (by simp);exact⟨this.1.cl,this.2.cl⟩
 | buf e z xs fz =>
  obtain⟨vs,h2,h3,h4,h5,h6,h7⟩:=h;intro x hx c hc;obtain⟨i,hi⟩:=List.mem_iff_getElem?.1 hx;obtain⟨j,hj⟩:=List.mem_iff_getElem?.1 hc;have hil:=getElem?_lt hi;have hjl:=getElem?_lt hj;rw[(h6 x hx).1]at hjl
  have hlt:i*z+j<vs.size:=by
   rw[h3];have:(i+1)*z≤s.κ k*z:=ka z (by omega);rw[kh]at this;omega
  exact(h7 i x j c vs[i*z+j] hi hj (by simp[hlt])).cl
theorem cut_good2{H G:List B}(hg:Good s)(hH:s.H=H++G)(hb:∀bl∈H,ClB H.length bl):Good (s.cut H):=by
 refine⟨hg.fl,fun k hk=>hg.lt k (ei hH hk),fun j k hj hk=>hg.inj j k (ei hH hj) (ei hH hk),fun k bl hk=>?_⟩;have hk':H[k]?=some bl:=hk
 have hs:s.H[k]?=some bl:=by rw[hH,kU (getElem?_lt hk')];exact hk'
 have hr:=hg.blk k bl hs;have hbl:=hb bl (kS hk')
 cases bl with
 | cells cs =>
  obtain⟨h1,vs,t,h2,h3,h4⟩:=hr;exact⟨h1,vs,t,h2,h3,fun i c u a b=>(h4 i c u a b).cut hH (hbl c (kS a))⟩
 | map kk es =>
  obtain⟨h1,ms,cl,h2,h3,h4⟩:=hr;exact⟨h1,ms,cl,h2,h3,fun i p m a b=>⟨(h4 i p m a b).1.cut hH (hbl p (kS a)).1,(h4 i p m a b).2.cut hH (hbl p (kS a)).2⟩⟩
 | buf e z xs fz =>
  obtain⟨vs,h2,h3,h4,h5,h6,h7⟩:=hr;exact⟨vs,h2,h3,h4,h5,h6,fun i x j c u a b d=>(h7 i x j c u a b d).cut hH (hbl x (kS a) c (kS b))⟩
def exL(f:V→Option V):List V→Option (List V)
 | []=>some []
 | x::r=>match f x with
  | some y=>match exL f r with
   | some ys=>some (y::ys)
   | none=>none
  | none=>none
theorem dJ{f:V→Option V} : ∀{xs ys:List V},exL f xs=some ys→ys.length=xs.length∧∀(i:Nat) y,ys[i]?=some y→∃x,xs[i]?=some x∧f x=some y
 | [],ys,h=>by simp[exL]at h;subst h;exact⟨rfl,by simp⟩
 | x::r,ys,h=>by
  simp only[exL]at h;split at h
  ·rename_i y hy;split at h
   ·rename_i ys' hr;cases h;obtain⟨h1,h2⟩:=dJ hr;refine⟨by simp[h1],fun i y' hi=>?_⟩
    cases i with
    | zero=>simp at hi;subst hi;exact⟨x,rfl,hy⟩
    | succ i=>simpa using h2 i y' (by simpa using hi)
   ·cases h
  ·cases h
def exV(H:List B)(n:Nat):Nat→V→Option V
 | 0,_=>none
 | d+1,v=>match v with
  | .undef=>none
  | .lst z full xs=>match exL (exV H n d) xs with
   | some ys=>some (.lst z full ys)
   | none=>none
  | .buf k off len tot=>if k<n then some v else match H[k]? with
   | some (.buf _ z xs _)=>if tot=xs.length∧off+len≤tot then(match exL (exV H n d) ((xs.drop off).take len) with
    | some ys=>some (.lst z false ys)
    | none=>none) else none
   | _=>none
  | .ptr k _=>if k<n then some v else none
  | .pbuf k _ _ _=>if k<n then some v else none
  | .map k=>if k<n then some v else none
  | .sarr k _=>if k<n then some v else none
  | .pin cs off=>match exL (exV H n d) cs with
   | some ds=>some (.pin ds off)
   | none=>none
  | .fn f caps=>match exL (exV H n d) caps with
   | some ds=>some (.fn f ds)
   | none=>none
  | .agg cs=>match exL (exV H n d) cs with
   | some ds=>some (.agg ds)
   | none=>none
  | .tup cs=>match exL (exV H n d) cs with
   | some ds=>some (.tup ds)
   | none=>none
  | _=>some v
theorem exV_one{H:List B}{n d:Nat}{v v':V}(h:exV H n d v=some v'):v'.one=v.one:=by
 cases d with
 | zero=>simp[exV]at h
 | succ d =>
  cases v<;>simp only[exV]at h<;>first | (cases h;rfl) | (cases h;done) | (split at h<;>first | (cases h;rfl) | (cases h;done) | skip)
  all_goals (repeat' (split at h))<;>first | (cases h;rfl) | (cases h;done) | skip
theorem exV_cells{H:List B}{n d:Nat}{v v':V}(h:exV H n d v=some v'):∃d',d'≤d∧exL (exV H n d') v.cells=some v'.cells:=by
 have h0:=h
 cases d with
 | zero=>simp[exV]at h
 | succ d =>
  cases v<;>simp only[exV]at h
  case undef=>cases h
  case agg cs =>
   split at h
   ·rename_i ds hd;cases h;exact⟨d,by omega,hd⟩
   ·cases h
  all_goals
   refine⟨d+1,kY _,?_⟩
   have hv:v'.cells=[v']:=by
    first
    | (cases h;rfl)
    | ((split at h<;>first | (cases h;rfl) | (cases h;done) | skip);all_goals (repeat' (split at h))<;>first | (cases h;rfl) | (cases h;done) | skip)
   rw[hv];simp only[V.cells,exL];rw[h0]
theorem ex_rel{H G:List B}(hg:Good s)(hH:s.H=H++G)(d:Nat):∀(v v':V) (u:Value),Rel s v u→exV s.H H.length d v=some v'→Rel (s.cut H) v' u:=by
 induction d using lk with
 | _ d ih =>
  intro v v' u hr h;have h0:=h
  have get:∀k bl,k<H.length→s.H[k]?=some bl→(s.cut H).H[k]?=some bl:=fun k bl hk hb=>by rw[hH,kU hk]at hb;exact hb
  have new:∀k,Lv s k→¬k<H.length→(s.cut H).Prot (s.φ k):=fun k hk hn=>by
   refine⟨(hg.lt k hk).1,(hg.lt k hk).2,fun j hj e=>?_⟩;have hj':j<H.length:=hj.1;have:=hg.inj j k (ei hH hj) hk e;omega
  have elems:∀{d':Nat} {xs ys:List V},d'<d→exL (exV s.H H.length d') xs=some ys→∀(i:Nat) y (j:Nat) c',ys[i]?=some y→y.cells[j]?=some c' →
    ∃x c,xs[i]?=some x∧x.cells[j]?=some c∧y.cells.length=x.cells.length∧∀u,Rel s c u→Rel (s.cut H) c' u:=fun {d' xs ys} hd hx i y j c' hi hj=>by
   obtain⟨x,hxi,hex⟩:=(dJ hx).2 i y hi;obtain⟨d2,hd2,hc⟩:=exV_cells hex;obtain⟨c,hcj,hec⟩:=(dJ hc).2 j c' hj;exact⟨x,c,hxi,hcj,(dJ hc).1,fun u hu=>ih d2 (by omega) c c' u hu hec⟩
  have lens:∀{d':Nat} {xs ys:List V},exL (exV s.H H.length d') xs=some ys→∀z,(∀x∈xs,x.cells.length=z∧∀c∈x.cells,c.one=true)→∀y∈ys,y.cells.length=z∧∀c∈y.cells,c.one=true:=fun {d' xs ys} hx z hz y hy=>by
   obtain⟨i,hi⟩:=List.mem_iff_getElem?.1 hy;obtain⟨x,hxi,hex⟩:=(dJ hx).2 i y hi;obtain⟨d2,hd2,hc⟩:=exV_cells hex;have:=hz x (kS hxi);refine⟨by rw[(dJ hc).1];exact this.1,fun c hcm=>?_⟩;obtain⟨j,hj⟩:=List.mem_iff_getElem?.1 hcm;obtain⟨c0,hcj,hec⟩:=(dJ hc).2 j c hj;rw[exV_one hec];exact this.2 c0 (kS hcj)
  have flat:∀{d':Nat} {cs ds:List V},d'<d→exL (exV s.H H.length d') cs=some ds→ds.length=cs.length∧((∀c∈cs,c.one=true)→∀c∈ds,c.one=true)∧∀(i:Nat) c',ds[i]?=some c'→∃c,cs[i]?=some c∧∀u,Rel s c u→Rel (s.cut H) c' u:=fun {d' cs ds} hd hx=>by
   refine⟨(dJ hx).1,fun h1 c hc=>?_,fun i c' hi=>?_⟩
   ·obtain⟨i,hi⟩:=List.mem_iff_getElem?.1 hc;obtain⟨x,hxi,hex⟩:=(dJ hx).2 i c hi;rw[exV_one hex];exact h1 x (kS hxi)
   ·obtain⟨x,hxi,hex⟩:=(dJ hx).2 i c' hi;exact⟨x,hxi,fun u hu=>ih d' hd x c' u hu hex⟩
  cases d with
  | zero=>simp[exV]at h
  | succ d =>
   cases hr with
   | undef u=>simp[exV]at h
   | bool b=>cases h;exact .bool b
   | int k n=>cases h;exact .int k n
   | str x=>cases h;exact .str x
   | nilS=>cases h;exact .nilS
   | nilP=>cases h;exact .nilP
   | nilM=>cases h;exact .nilM
   | nilFn=>cases h;exact .nilFn
   | nilI=>cases h;exact .nilI
   | ifc t x=>cases h;exact .ifc t x
   | lst z full xs A cap b off u hcap hfull hA hz hcell hrel =>
    simp only[exV]at h;split at h
    ·rename_i ys hy;cases h;have hl:=(dJ hy).1;rw[←hl];refine .lst z full ys A cap b off u (by omega) (fun hf=>by rw[hfull hf,hl]) (fun h0=>⟨(hA (by omega)).1,eI hH (hA (by omega)).2⟩) (lens hy z hz) (fun i y j c' hi hj=>?_) (fun i y j c' hi hj=>?_)
     ·obtain⟨x,c,e1,e2,_,_⟩:=elems (lc d) hy i y j c' hi hj;exact hcell i x j c e1 e2
     ·obtain⟨x,c,e1,e2,_,e4⟩:=elems (lc d) hy i y j c' hi hj;exact e4 _ (hrel i x j c e1 e2)
    ·cases h
   | buf k off len tot e z xs fz A l c hk ht hh =>
    simp only[exV]at h;split at h
    ·rename_i hkn;cases h;exact .buf k off len tot e z xs fz A l c (get k _ hkn hk) ht hh
    ·rename_i hkn;rw[hk]at h;simp only at h;split at h
     ·rename_i hc;split at h
      ·rename_i ys hy;cases h;obtain⟨hA,rfl,hcap,_⟩:=hh hc.1;obtain⟨vs,g2,g3,g4,g5,g6,g7⟩:=hg.blk k _ hk
       have hsl:((xs.drop off).take l).length=l:=by simp;omega
       by_cases hl0:l=0
       ·subst hl0;rw[ly]at hy;cases hy;exact cJ z false A c (fun h=>by cases h)
       have hκ:s.κ k≠0:=by omega
       have hA:=hA hκ;subst hA;have hkl:=lvB hk hκ
       have hat:∀i x,((xs.drop off).take l)[i]?=some x→xs[off+i]?=some x:=fun i x hi=>by
        have:=getElem?_lt hi;rw[lA,if_pos (by omega),lQ]at hi;exact hi
       have hyl:ys.length=l:=by rw[(dJ hy).1,hsl]
       have:=Rel.lst (s:=s.cut H) z false ys (some ⟨s.φ k,off*z,none⟩) c (s.φ k) (off*z) (fun i j=>(s.w.cell? ⟨s.φ k,off*z+i*z+j,none⟩).getD Go.undef) (by omega) (by simp) (fun _=>⟨rfl,new k hkl hkn⟩)
        (lens hy z (fun x hx=>g6 x (la (lb hx))))
        (fun i y j c' hi hj=>by
         obtain⟨x,c0,e1,e2,_,_⟩:=elems (lc d) hy i y j c' hi hj;obtain⟨_,_,h3⟩:=en hg hk (hat i x e1);obtain⟨u,hu,_⟩:=h3 j c0 e2;rw[kh]at hu;show s.w.cell? _=_
         rw[hu];rfl)
        (fun i y j c' hi hj=>by
         obtain⟨x,c0,e1,e2,_,e4⟩:=elems (lc d) hy i y j c' hi hj;obtain⟨_,_,h3⟩:=en hg hk (hat i x e1);obtain⟨u,hu,hr⟩:=h3 j c0 e2;rw[kh]at hu;rw[hu]
         exact e4 _ hr)
       rwa [hyl]at this
      ·cases h
     ·cases h
   | ptr k off cs hk =>
    simp only[exV]at h;split at h
    ·rename_i hkn;cases h;exact .ptr (s:=s.cut H) k off cs (get k _ hkn hk)
    ·cases h
   | pbuf k i off tot e z xs fz p hk ht hh =>
    simp only[exV]at h;split at h
    ·rename_i hkn;cases h;exact .pbuf k i off tot e z xs fz p (get k _ hkn hk) ht hh
    ·cases h
   | sarr k m cs hk =>
    simp only[exV]at h;split at h
    ·rename_i hkn;cases h;exact .sarr (s:=s.cut H) k m cs (get k _ hkn hk)
    ·cases h
   | map k kk es hk =>
    simp only[exV]at h;split at h
    ·rename_i hkn;cases h;exact .map (s:=s.cut H) k kk es (get k _ hkn hk)
    ·cases h
   | pin cs off b o u hp h1 hcell hrel =>
    simp only[exV]at h;split at h
    ·rename_i ds hd;cases h;obtain⟨f1,f2,f3⟩:=flat (lc d) hd;refine .pin ds off b o u (eI hH hp) (f2 h1) (fun j c' hj=>?_) (fun j c' hj=>?_)
     ·obtain⟨c,e1,e2⟩:=f3 _ c' hj;exact hcell j c e1
     ·obtain⟨c,e1,e2⟩:=f3 _ c' hj;exact e2 _ (hrel j c e1)
    ·cases h
   | fn f caps us hl hh =>
    simp only[exV]at h;split at h
    ·rename_i ds hd;cases h;obtain⟨f1,f2,f3⟩:=flat (lc d) hd;refine .fn f ds us (by omega) (fun i c' u hi hu=>?_);obtain⟨c,e1,e2⟩:=f3 _ c' hi;exact e2 _ (hh i c u e1 hu)
    ·cases h
   | agg cs us hl h1 hh =>
    simp only[exV]at h;split at h
    ·rename_i ds hd;cases h;obtain⟨f1,f2,f3⟩:=flat (lc d) hd;refine .agg ds us (by omega) (f2 h1) (fun i c' u hi hu=>?_);obtain⟨c,e1,e2⟩:=f3 _ c' hi;exact e2 _ (hh i c u e1 hu)
    ·cases h
   | tup cs us hl hh =>
    simp only[exV]at h;split at h
    ·rename_i ds hd;cases h;obtain⟨f1,f2,f3⟩:=flat (lc d) hd;refine .tup ds us (by omega) (fun i c' u hi hu=>?_);obtain⟨c,e1,e2⟩:=f3 _ c' hi;exact e2 _ (hh i c u e1 hu)
    ·cases h
theorem iV{f:FuncId}{args:List V}{H G:List B}{r r':V}{d:Nat}(h:aq P f args H fun x y=>x=r∧y=H++G)(he:exV (H++G) H.length d r=some r'):aq P f args H fun x y=>x=r'∧y=H:=by
 refine⟨h.1,fun s vals hA hg hsz hrel=>?_⟩;have hH:=hA.1
 refine(h.2 s vals hA hg hsz hrel).mono fun e w' ⟨u,s',x,a1,a2,a3,a4,a5,a6,a7⟩=>?_
 subst a6
 have hcl:∀bl∈H,ClB H.length bl:=by have:=hg.cl;rw[hH]at this;exact this
 refine⟨u,s'.cut H,r',a1,a2,cut_good2 a3 a7 hcl,?_,?_,rfl,rfl⟩
 ·exact kD a3 a7 (Step.refl (s'.cut H)) s a4 (by rw[hH];exact kY _)
 ·exact ex_rel a3 a7 d x r' u a5 (by rw[a7];exact he)
end
end Go.AM
namespace Go.AM
open Go
abbrev bm:=V→List V→List B→Option (V×List B)
def hG(call:bm)(T:Ty)(ops:Array Oper):List Oper→List V→List B→Option (List V×List B)
 | [],fr,H=>some (fr,H)
 | o::rest,fr,H=>match bV ops fr o with
  | some true=>match bH o.op with
   | some (f,args)=>match call (aP fr f) (args.map (aP fr)) H with
    | some (r,H')=>hG call T ops rest (bI fr o.dst r) H'
    | none=>none
   | none=>match aop T o.op (aP fr) H with
    | some (v,H')=>hG call T ops rest (bI fr o.dst v) H'
    | none=>none
  | some false=>hG call T ops rest (bI fr o.dst (.tup [])) H
  | none=>none
def jW(call:bm)(fv:V)(args:List V)(H:List B):Option V :=
 match call fv args H with
 | some (r,H')=>if eqH (H'.take H.length) H then exV H' H.length 40 r else none
 | none=>none
def cO:Go.Op→Bool
 | .alloc _ | .box .. | .store .. | .makeMap .. | .makeSlice .. | .mapUpdate .. | .insert ..=>false
 | .call c=>match c.callee with
  | .builtin .append=>false
  | .builtin .copy=>false
  | .builtin .clear=>false
  | _=>true
 | _=>true
def allB(p:Nat→Bool):List Nat→Bool
 | []=>true
 | c::l=>p c&&allB p l
structure DRes where
 vs:List V
 cv:List (V×List B)
 E:List Nat
 hs:List (List B)
 fr:List V
def evD(own:Bool)(call:bm)(T:Ty)(ops:Array Oper):List Oper→Nat→List V→List B→Option DRes
 | [],_,fr,_=>some ⟨[],[],[],[],fr⟩
 | o::rest,i,fr,H=>match bV ops fr o with
  | some true=>match bH o.op with
   | some (f,args)=>if own then(match call (aP fr f) (args.map (aP fr)) H with
     | some (r,H')=>if eqH H' H then(match evD own call T ops rest (i+1) (bI fr o.dst r) H with
       | some d=>some ⟨r::d.vs,(r,[])::d.cv,d.E,d.hs,d.fr⟩
       | none=>none)
      else(match evD own call T ops rest (i+1) (bI fr o.dst r) H' with
       | some d=>some ⟨r::d.vs,(r,H')::d.cv,i::d.E,H'::d.hs,d.fr⟩
       | none=>none)
     | none=>none)
    else(match jW call (aP fr f) (args.map (aP fr)) H with
     | some r=>match evD own call T ops rest (i+1) (bI fr o.dst r) H with
      | some d=>some ⟨r::d.vs,(r,[])::d.cv,d.E,d.hs,d.fr⟩
      | none=>none
     | none=>none)
   | none=>match aop T o.op (aP fr) H with
    | some (v,H')=>if cO o.op then(match evD own call T ops rest (i+1) (bI fr o.dst v) H with
      | some d=>some ⟨v::d.vs,d.cv,d.E,d.hs,d.fr⟩
      | none=>none)
     else(match evD own call T ops rest (i+1) (bI fr o.dst v) H' with
      | some d=>some ⟨v::d.vs,d.cv,i::d.E,H'::d.hs,d.fr⟩
      | none=>none)
    | none=>none
  | some false=>match evD own call T ops rest (i+1) (bI fr o.dst (.tup [])) H with
   | some d=>some ⟨.tup []::d.vs,d.cv,d.E,d.hs,d.fr⟩
   | none=>none
  | none=>none
def oblX(call:bm)(T:Ty)(ops:Array Oper)(ms E:List Nat)(Hs:Nat→List B):List Oper→Nat→Nat→List V→List V→Bool
 | [],_,_,_,_=>true
 | _::_,_,_,_,[]=>false
 | o::rest,i,c,fr,v::vs =>
  if E.contains i then oblX call T ops ms E Hs rest (i+1) (c+1) (bI fr o.dst v) vs
  else(match bV ops fr o with
   | some true=>allB (fun c'=>if c'=c then true else if gH ms E i c' then(match bH o.op with
     | some (f,args)=>(match jW call (aP fr f) (args.map (aP fr)) (Hs c') with
      | some r=>eqV 40 r v
      | none=>false)
     | none=>(match aop T o.op (aP fr) (Hs c') with
      | some (v',_)=>eqV 40 v' v&&cO o.op
      | none=>false)) else true) (ki (E.length+1))
   | _=>true)&&oblX call T ops ms E Hs rest (i+1) c (bI fr o.dst v) vs
def stat1(ops:Array Oper):Bool :=
 (ki ops.size).all fun j=>match ops[j]? with
  | none=>true
  | some oj=>oj.after.toList.all (fun e=>!Region.binds .any e||decide (e.on<j)) &&
   (df ops oj).all (fun t=>(ki ops.size).all fun i=>match ops[i]? with
    | none=>true
    | some oi=>!(oi.dst == some t)||i == j||(decide (i<j)&&bef (aY [] ops.toList) i j)||(decide (j<i)&&bef (aY [] ops.toList) j i))
def stat2(ops:Array Oper)(E:List Nat):Bool:=(jA E&&E.all fun e=>decide (e<ops.size))&&E.all fun j=>E.all fun i=>!decide (i<j)||bef (aY [] ops.toList) i j
theorem stat_ok{ops:Array Oper}{E:List Nat}(h1:stat1 ops=true)(h2:stat2 ops E=true):gD ops E=true:=by
 unfold stat1 at h1;unfold stat2 at h2;unfold gD;simp only[kb]at h2 ⊢;refine⟨h2.1,?_⟩;rw[lJ]at h1 ⊢;intro j hj;have:=h1 j hj;split at this
 ·rename_i hn;first | rw[hn] | rfl
 ·rename_i oj ho
  try rw[ho]
  try simp only
  rw[kb];refine⟨this,?_⟩;rw[lW];by_cases hE:E.contains j=true
  ·right;rw[lJ];intro i hi;rw[lW];by_cases hi2:E.contains i=true
   ·right;have h3:=List.all_eq_true.1 h2.2 j (List.contains_iff_mem.1 hE);have h4:=List.all_eq_true.1 h3 i (List.contains_iff_mem.1 hi2);rw[lW]at h4
    rcases h4 with h4 | h4
    ·have:i<j:=by simpa using hi
     simp[this]at h4
    ·exact h4
   ·left;simpa using hi2
  ·left;simpa using hE
def fh(own:Bool)(call:bm)(T:Ty)(ops:Array Oper)(fr:List V)(H:List B):Option (List V×List B):=
 match evD own call T ops ops.toList 0 fr H with
 | some d=>if stat1 ops&&stat2 ops d.E&&(d.E.isEmpty||oblX call T ops (aY [] ops.toList) d.E (fun c=>(H::d.hs)[c]?.getD []) ops.toList 0 0 fr d.vs) then some (d.fr,(H::d.hs)[d.E.length]?.getD []) else none
 | none=>none
def isEff(o:Oper):Bool:=(bH o.op).isSome||!cO o.op
def chain(ms:List Nat)(ops:Array Oper):Bool :=
 let es:=(ki ops.size).filter fun i=>match ops[i]? with
  | some o=>isEff o
  | none=>false
 es.all fun i=>es.all fun j=>!decide (i<j)||bef ms i j
def evDraw(call:bm)(T:Ty)(ops:Array Oper)(fr:List V)(H:List B):Option (List V×List B):=
 if chain (aY [] ops.toList) ops then
  (match fh true call T ops fr H with
  | some r=>some r
  | none=>fh false call T ops fr H)
 else(match fh false call T ops fr H with
  | some r=>some r
  | none=>fh true call T ops fr H)
def ed(f:List V→List B→Option (Exit×List V×List B)):Nat→List V→List B→Option (Exit×List V×List B)
 | 0,_,_=>none
 | n+1,fr,H=>match f fr H with
  | some (.normal,fr',H')=>ed f n fr' H'
  | r=>r
def aw(call:bm)(T:Ty)(fuel:Nat):Code→List V→List B→Option (Exit×List V×List B)
 | .skip,fr,H=>some (.normal,fr,H)
 | .region _ ops false,fr,H=>match hG call T ops ops.toList fr H with
  | some (fr',H')=>some (.normal,fr',H')
  | none=>none
 | .region _ ops true,fr,H=>match evDraw call T ops fr H with
  | some (fr',H')=>some (.normal,fr',H')
  | none=>none
 | .seq a b,fr,H=>match aw call T fuel a fr H with
  | some (.normal,fr',H')=>aw call T fuel b fr' H'
  | r=>r
 | .cond c a b,fr,H=>match aP fr c with
  | .bool true=>aw call T fuel a fr H
  | .bool false=>aw call T fuel b fr H
  | _=>none
 | .block id c,fr,H=>match aw call T fuel c fr H with
  | some (.exit id',fr',H')=>if id'=id then some (.normal,fr',H') else some (.exit id',fr',H')
  | r=>r
 | .loop c,fr,H=>ed (aw call T fuel c) fuel fr H
 | .exit id,fr,H=>some (.exit id,fr,H)
 | .ret,fr,H=>some (.ret,fr,H)
 | _,_,_=>none
def evFun(P:Program)(T:Ty)(fuel:Nat)(call:bm)(f:FuncId)(args:List V)(H:List B):Option (V×List B):=
 match P.funcs[f]? with
 | some fn=>match fn.body with
  | some c=>match aw call T fuel c (args++kQ (fn.ntmps-args.length) (.tup [])) H with
   | some (.normal,fr,H') | some (.ret,fr,H')=>match bo T fr H' fn.results.toList with
    | some vs=>some (ii vs,H')
    | none=>none
   | _=>none
  | none=>none
 | none=>none
abbrev dK:=FuncId→List V→List B→Option (V×List B)
def kA(P:Program)(T:Ty)(ext:dK)(fuel:Nat):Nat→bm
 | 0,_,_,_=>none
 | d+1,fv,args,H=>match fv with
  | .fn f caps=>match ext f (args++caps) H with
   | some r=>some r
   | none=>evFun P T fuel (kA P T ext fuel d) f (args++caps) H
  | _=>none
section
variable {P:Program} {T:Ty}
def dy(P:Program)(call:bm):Prop:=∀fv args H r H',call fv args H=some (r,H')→af P fv args H fun x y=>x=r∧y=H'
theorem pcall_ok{call:bm}(hc:dy P call){fv:V}{args:List V}{H:List B}{r:V}(h:jW call fv args H=some r):af P fv args H fun x y=>x=r∧y=H:=by
 unfold jW at h;split at h
 ·rename_i r0 H' hcall;split at h
  ·rename_i he;have hw:=hc _ _ _ _ _ hcall;have ht:=eqH_eq he
   have hsplit:H'=H++H'.drop H.length:=by
    conv=>lhs;rw[←lp H.length H']
    rw[ht]
   cases fv<;>simp only[af]at hw ⊢;rw[hsplit]at hw h;exact iV hw h
  ·cases h
 ·cases h
theorem gz{call:bm}(hc:dy P call){ops:Array Oper}{K:List V→List B→Prop} : ∀{l:List Oper} {fr:List V} {H:List B} {fr':List V} {H':List B},hG call T ops l fr H=some (fr',H')→K fr' H'→eL T ops (af P) K l fr H
 | [],fr,H,fr',H',h,hk=>by simp only[hG,Option.some.injEq,Prod.mk.injEq]at h;obtain⟨rfl,rfl⟩:=h;exact hk
 | o::rest,fr,H,fr',H',h,hk=>by
  simp only[hG]at h;simp only[eL];split at h
  ·rename_i hw
   try rw[hw]
   try simp only
   split at h
   ·rename_i f args hcall
    try rw[hcall]
    try simp only
    split at h
    ·rename_i r H1 he
     exact(hc _ _ _ _ _ he).mono fun x y ⟨e1,e2⟩=>by subst e1;subst e2;exact gz hc h hk
    ·cases h
   ·rename_i hcall
    try rw[hcall]
    try simp only
    split at h
    ·rename_i v H1 he
     try rw[he]
     exact gz hc h hk
    ·cases h
  ·rename_i hw
   try rw[hw]
   exact gz hc h hk
  ·cases h
theorem gC{o:Go.Op}{ρ:Operand→V}{H H':List B}{v:V}(hs:cO o=true)(h:aop T o ρ H=some (v,H')):H'=H:=by
 cases o<;>simp only[cO,ke]at hs<;>simp only[aop]at h<;>try (cases h;done)
 all_goals first
  | (cases h;rfl)
  | (exact(av h).2.symm)
  | skip
 ·split at h<;>cases h;rfl
 ·split at h<;>first | (cases h;rfl) | (cases h;done)
 ·split at h
  ·cases h;rfl
  ·exact(av h).2.symm
 ·split at h
  ·exact(av h).2.symm
  ·cases h
 ·split at h
  ·split at h<;>cases h;rfl
  ·cases h
 ·split at h
  ·exact(av h).2.symm
  ·cases h
 ·rename_i c;split at h
  ·rename_i b hb;rw[hb]at hs;unfold iD at h;split at h
   ·exact(av h).2.symm
   ·simp at hs
   ·simp at hs
   ·simp at hs
   ·exact(av h).2.symm
   ·exact(av h).2.symm
   ·cases h
  ·cases h
theorem allB_ok{p:Nat→Bool}{q:Nat→Prop}(h:∀c,p c=true→q c):∀{l:List Nat},allB p l=true→dx q l
 | [],_=>trivial
 | c::l,hl=>by
  simp only[allB,kb]at hl;exact⟨h c hl.1,allB_ok h hl.2⟩
theorem allC_mono{p q:Nat→Prop}(h:∀c,p c→q c):∀{l:List Nat},dx p l→dx q l
 | [],_=>trivial
 | c::_,hl=>⟨h c hl.1,allC_mono h hl.2⟩
theorem il{C:V→List V→List B→(V→List B→Prop)→Prop}(hC:∀fv args H K',af P fv args H K'→C fv args H K'){ops:Array Oper}{ms E:List Nat}{Hs:Nat→List B} : ∀(l:List Oper) (i:Nat) (fr vs:List V),cW T ops (af P) ms E Hs l i fr vs→cW T ops C ms E Hs l i fr vs
 | [],_,_,_,_=>trivial
 | _::_,_,_,[],h=>h
 | o::rest,i,fr,v::vs,h=>by
  obtain⟨h1,h2⟩:=h;refine⟨?_,il hC rest (i+1) _ vs h2⟩
  cases hw:bV ops fr o with
  | none=>rw[hw]at h1;exact h1
  | some b =>
   rw[hw]at h1;cases b
   ·exact h1
   ·simp only at h1 ⊢
    cases hcall:bH o.op with
    | none=>rw[hcall]at h1;exact h1
    | some p =>
     obtain⟨f,args⟩:=p;rw[hcall]at h1;simp only at h1 ⊢;split
     ·rename_i hE;rw[if_pos hE]at h1;exact hC _ _ _ _ h1
     ·rename_i hE;rw[if_neg hE]at h1;refine allC_mono (fun c hp=>?_) h1;split
      ·rename_i hpos;rw[if_pos hpos]at hp;exact hC _ _ _ _ hp
      ·trivial
theorem evD_lt{own:Bool}{call:bm}{ops:Array Oper} : ∀(l:List Oper) (i:Nat) (fr:List V) (H:List B) (d:DRes),evD own call T ops l i fr H=some d→d.hs.length=d.E.length∧d.vs.length=l.length∧∀e∈d.E,i≤e
 | [],i,fr,H,d,h=>by simp only[evD,Option.some.injEq]at h;subst h;simp
 | o::rest,i,fr,H,d,h=>by
  have keep:∀{fr':List V} {H':List B} {d':DRes},evD own call T ops rest (i+1) fr' H'=some d'→d'.hs.length=d'.E.length∧d'.vs.length=rest.length∧∀e∈d'.E,i≤e:=fun {fr' H' d'} h'=>by
   obtain⟨k1,k2,k3⟩:=evD_lt rest (i+1) _ _ _ h';exact⟨k1,k2,fun e he=>by have:=k3 e he;omega⟩
  simp only[evD]at h;split at h
  ·split at h
   ·split at h
    ·split at h
     ·split at h
      ·split at h
       ·rename_i d' hd;cases h;obtain⟨k1,k2,k3⟩:=keep hd;exact⟨k1,by simp[k2],k3⟩
       ·cases h
      ·split at h
       ·rename_i d' hd;cases h;obtain⟨k1,k2,k3⟩:=keep hd;exact⟨by simp[k1],by simp[k2],fun e he=>by simp at he;rcases he with rfl | he;exact kY _;exact k3 e he⟩
       ·cases h
     ·cases h
    ·split at h
     ·split at h
      ·rename_i d' hd;cases h;obtain⟨k1,k2,k3⟩:=keep hd;exact⟨k1,by simp[k2],k3⟩
      ·cases h
     ·cases h
   ·split at h
    ·split at h
     ·split at h
      ·rename_i d' hd;cases h;obtain⟨k1,k2,k3⟩:=keep hd;exact⟨k1,by simp[k2],k3⟩
      ·cases h
     ·split at h
      ·rename_i d' hd;cases h;obtain⟨k1,k2,k3⟩:=keep hd;exact⟨by simp[k1],by simp[k2],fun e he=>by simp at he;rcases he with rfl | he;exact kY _;exact k3 e he⟩
      ·cases h
    ·cases h
  ·split at h
   ·rename_i d' hd;cases h;obtain⟨k1,k2,k3⟩:=keep hd;exact⟨k1,by simp[k2],k3⟩
   ·cases h
  ·cases h
structure Now (E1:List Nat) (Hs1:List (List B)) (i:Nat) (H:List B):Prop where
 len:Hs1.length=E1.length+1
 cur:Hs1[E1.length]?=some H
 lt:∀e∈E1,e<i
theorem gR{call:bm}(hc:dy P call){own:Bool}{ops:Array Oper}{ms:List Nat} : ∀(l:List Oper) (i:Nat) (fr:List V) (H:List B) (d:DRes),evD own call T ops l i fr H=some d→∀(E1:List Nat) (Hs1:List (List B)),Now E1 Hs1 i H →
  (d.E=[]∧E1=[]∨oblX call T ops ms (E1++d.E) (fun c=>((Hs1++d.hs)[c]?).getD []) l i E1.length fr d.vs=true)→
  cU T ops (E1++d.E) l i fr H d.cv=some (d.vs,d.hs,d.fr)∧cW T ops (af P) ms (E1++d.E) (fun c=>((Hs1++d.hs)[c]?).getD []) l i fr d.vs
 | [],i,fr,H,d,h,E1,Hs1,hn,_=>by simp only[evD,Option.some.injEq]at h;subst h;exact⟨rfl,trivial⟩
 | o::rest,i,fr,H,d,h,E1,Hs1,hn,hx=>by
  have plain:∀{v:V} {d':DRes},evD own call T ops rest (i+1) (bI fr o.dst v) H=some d'→d.E=d'.E→d.hs=d'.hs→d.vs=v::d'.vs →
    Now E1 Hs1 (i+1) H∧(E1++d.E).contains i=false∧((fun c=>((Hs1++d.hs)[c]?).getD []) E1.length=H)∧(d'.E=[]∧E1=[]∨oblX call T ops ms (E1++d'.E) (fun c=>((Hs1++d'.hs)[c]?).getD []) rest (i+1) E1.length (bI fr o.dst v) d'.vs=true)∧
    (d'.E=[]∧E1=[]∨(match bV ops fr o with
     | some true=>allB (fun c'=>if c'=E1.length then true else if gH ms (E1++d.E) i c' then(match bH o.op with
      | some (f,args)=>(match jW call (aP fr f) (args.map (aP fr)) (((Hs1++d.hs)[c']?).getD []) with
       | some r=>eqV 40 r v
       | none=>false)
      | none=>(match aop T o.op (aP fr) (((Hs1++d.hs)[c']?).getD []) with
       | some (v',_)=>eqV 40 v' v&&cO o.op
       | none=>false)) else true) (ki ((E1++d.E).length+1))
     | _=>true)=true):=fun {v d'} hd e1 e2 e3=>by
   obtain⟨k1,k2,k3⟩:=evD_lt rest (i+1) _ _ _ hd
   have hnc:(E1++d.E).contains i=false:=by
    rw[Bool.eq_false_iff];intro hh;rw[List.contains_iff_mem,mC]at hh
    rcases hh with hh | hh
    ·have:=hn.lt i hh;omega
    ·rw[e1]at hh;have:=k3 i hh;omega
   refine⟨⟨hn.len,hn.cur,fun e he=>by have:=hn.lt e he;omega⟩,hnc,?_,?_,?_⟩
   ·have:=hn.cur;simp only;rw[kU (by rw[hn.len];omega),this];rfl
   ·rcases hx with⟨hE,hE1⟩ | hx
    ·exact .inl ⟨by rw[←e1];exact hE,hE1⟩
    ·right;rw[e3]at hx;simp only[oblX,hnc,ke,if_false,kb]at hx;rw[←e1,←e2];exact hx.2
   ·rcases hx with⟨hE,hE1⟩ | hx
    ·exact .inl ⟨by rw[←e1];exact hE,hE1⟩
    ·right;rw[e3]at hx;simp only[oblX,hnc,ke,if_false,kb]at hx;exact hx.1
  have effect:∀{v:V} {H':List B} {d':DRes},evD own call T ops rest (i+1) (bI fr o.dst v) H'=some d'→d.E=i::d'.E→d.hs=H'::d'.hs→d.vs=v::d'.vs →
    Now (E1++[i]) (Hs1++[H']) (i+1) H'∧(E1++d.E).contains i=true∧(E1++d.E).idxOf i=E1.length∧((fun c=>((Hs1++d.hs)[c]?).getD []) E1.length=H)∧((fun c=>((Hs1++d.hs)[c]?).getD []) (E1.length+1)=H')∧
    (d'.E=[]∧E1++[i]=[]∨oblX call T ops ms (E1++[i]++d'.E) (fun c=>((Hs1++[H']++d'.hs)[c]?).getD []) rest (i+1) (E1++[i]).length (bI fr o.dst v) d'.vs=true):=fun {v H' d'} hd e1 e2 e3=>by
   have hni:i∉E1:=fun hh=>by have:=hn.lt i hh;omega
   refine⟨⟨by simp[hn.len],by simp[hn.len],fun e he=>by simp at he;rcases he with he | rfl;have:=hn.lt e he;omega;omega⟩,?_,?_,?_,?_,?_⟩
   ·rw[List.contains_iff_mem,e1];simp
   ·rw[e1,List.idxOf_append,if_neg hni];simp
   ·have:=hn.cur;simp only;rw[kU (by rw[hn.len];omega),this];rfl
   ·simp only;rw[e2,km (by rw[hn.len];omega),hn.len];simp
   ·right
    rcases hx with⟨hE,_⟩ | hx
    ·rw[e1]at hE;cases hE
    ·rw[e3]at hx
     have hcon:(E1++d.E).contains i=true:=by rw[List.contains_iff_mem,e1];simp
     simp only[oblX,hcon,if_true]at hx;rw[e1,e2]at hx;simpa using hx
  simp only[evD]at h;split at h
  ·rename_i hw;split at h
   ·rename_i f args hcall;split at h
    ·split at h
     ·rename_i r H' hr;have hwc:=hc _ _ _ _ _ hr;split at h
      ·rename_i he;have he:=eqH_eq he;subst he;split at h
       ·rename_i d' hd;cases h;obtain⟨n1,n2,n3,n4,n5⟩:=plain hd rfl rfl rfl;obtain⟨a1,a2⟩:=gR hc rest (i+1) _ _ _ hd E1 Hs1 n1 n4;refine⟨by simp only[cU,hw,hcall,n2,ke,if_false,a1],⟨?_,a2⟩⟩;simp only[hw,hcall,n2,ke,if_false];exact callAll hn n3 n5 hw hcall hwc
       ·cases h
      ·split at h
       ·rename_i d' hd;cases h;obtain⟨n1,n2,n3,n4,n5,n6⟩:=effect hd rfl rfl rfl;obtain⟨a1,a2⟩:=gR hc rest (i+1) _ _ _ hd _ _ n1 n6;simp only[lV,List.singleton_append]at a1 a2;refine⟨by simp only[cU,hw,hcall,n2,if_true,a1],⟨?_,a2⟩⟩;simp only[hw,hcall,n2,if_true];simp only at n4 n5;rw[n3,n4,n5];exact hwc
       ·cases h
     ·cases h
    ·split at h
     ·rename_i r hr;have hwc:=pcall_ok hc hr;split at h
      ·rename_i d' hd;cases h;obtain⟨n1,n2,n3,n4,n5⟩:=plain hd rfl rfl rfl;obtain⟨a1,a2⟩:=gR hc rest (i+1) _ _ _ hd E1 Hs1 n1 n4;refine⟨by simp only[cU,hw,hcall,n2,ke,if_false,a1],⟨?_,a2⟩⟩;simp only[hw,hcall,n2,ke,if_false];exact callAll hn n3 n5 hw hcall hwc
      ·cases h
     ·cases h
   ·rename_i hcall;split at h
    ·rename_i v H' hop;split at h
     ·rename_i hst;split at h
      ·rename_i d' hd;cases h;obtain⟨n1,n2,n3,n4,n5⟩:=plain hd rfl rfl rfl;obtain⟨a1,a2⟩:=gR hc rest (i+1) _ _ _ hd E1 Hs1 n1 n4;refine⟨by simp only[cU,hw,hcall,hop,n2,ke,if_false,a1],⟨?_,a2⟩⟩;simp only[hw,hcall,n2,ke,if_false];have hH:=gC hst hop;subst hH;exact opAll hn n3 n5 hw hcall hop
      ·cases h
     ·split at h
      ·rename_i d' hd;cases h;obtain⟨n1,n2,n3,n4,n5,n6⟩:=effect hd rfl rfl rfl;obtain⟨a1,a2⟩:=gR hc rest (i+1) _ _ _ hd _ _ n1 n6;simp only[lV,List.singleton_append]at a1 a2;refine⟨by simp only[cU,hw,hcall,hop,n2,if_true,a1],⟨?_,a2⟩⟩;simp only[hw,hcall,n2,if_true];simp only at n4 n5;rw[n3,n4,n5];exact hop
      ·cases h
    ·cases h
  ·rename_i hw;split at h
   ·rename_i d' hd;cases h;obtain⟨n1,n2,n3,n4,n5⟩:=plain hd rfl rfl rfl;obtain⟨a1,a2⟩:=gR hc rest (i+1) _ _ _ hd E1 Hs1 n1 n4;refine⟨by simp only[cU,hw,n2,ke,if_false,a1],⟨?_,a2⟩⟩;simp only[hw];exact⟨trivial,n2⟩
   ·cases h
  ·cases h
where
 range_one {E1:List Nat} {dE:List Nat} (h:dE=[]∧E1=[]):ki ((E1++dE).length+1)=[0]:=by obtain⟨rfl,rfl⟩:=h;rfl
 callAll {call:bm} {ops:Array Oper} {ms:List Nat} {o:Oper} {i:Nat} {fr:List V} {H:List B} {E1 dE:List Nat} {Hs1 dh:List (List B)} {f:Operand} {args:List Operand} {r:V} (_hn:Now E1 Hs1 i H)
   (n3:(fun c=>((Hs1++dh)[c]?).getD []) E1.length=H)
   (n5:dE=[]∧E1=[]∨(match bV ops fr o with
     | some true=>allB (fun c'=>if c'=E1.length then true else if gH ms (E1++dE) i c' then(match bH o.op with
      | some (f,args)=>(match jW call (aP fr f) (args.map (aP fr)) (((Hs1++dh)[c']?).getD []) with
       | some r'=>eqV 40 r' r
       | none=>false)
      | none=>(match aop T o.op (aP fr) (((Hs1++dh)[c']?).getD []) with
       | some (v',_)=>eqV 40 v' r&&cO o.op
       | none=>false)) else true) (ki ((E1++dE).length+1))
     | _=>true)=true)
   (hw:bV ops fr o=some true) (hcall:bH o.op=some (f,args)) (hwc:af P (aP fr f) (args.map (aP fr)) H fun x y=>x=r∧y=H) (hc:dy P call:=by assumption):
   dx (fun c=>if gH ms (E1++dE) i c then af P (aP fr f) (args.map (aP fr)) ((fun c=>((Hs1++dh)[c]?).getD []) c) (fun x y=>x=r∧y=(fun c=>((Hs1++dh)[c]?).getD []) c) else True) (ki ((E1++dE).length+1)):=by
  rcases n5 with h0 | n5
  ·rw[range_one h0];obtain⟨_,rfl⟩:=h0;simp only[kq]at n3;refine⟨?_,trivial⟩;show(if _ then _ else _);split
   ·simp only;rw[n3];exact hwc
   ·trivial
  ·rw[hw]at n5;simp only[hcall]at n5;refine allB_ok (fun c hp=>?_) n5;split
   ·rename_i hpos;by_cases hce:c=E1.length
    ·subst hce;simp only at n3 ⊢;rw[n3];exact hwc
    ·rw[if_neg hce,if_pos hpos]at hp;split at hp
     ·rename_i r' hr;have:=ef _ _ _ hp;subst this;exact pcall_ok hc hr
     ·cases hp
   ·trivial
 opAll {call:bm} {ops:Array Oper} {ms:List Nat} {o:Oper} {i:Nat} {fr:List V} {H:List B} {E1 dE:List Nat} {Hs1 dh:List (List B)} {r:V} (_hn:Now E1 Hs1 i H)
   (n3:(fun c=>((Hs1++dh)[c]?).getD []) E1.length=H)
   (n5:dE=[]∧E1=[]∨(match bV ops fr o with
     | some true=>allB (fun c'=>if c'=E1.length then true else if gH ms (E1++dE) i c' then(match bH o.op with
      | some (f,args)=>(match jW call (aP fr f) (args.map (aP fr)) (((Hs1++dh)[c']?).getD []) with
       | some r'=>eqV 40 r' r
       | none=>false)
      | none=>(match aop T o.op (aP fr) (((Hs1++dh)[c']?).getD []) with
       | some (v',_)=>eqV 40 v' r&&cO o.op
       | none=>false)) else true) (ki ((E1++dE).length+1))
     | _=>true)=true)
   (hw:bV ops fr o=some true) (hcall:bH o.op=none) (hop:aop T o.op (aP fr) H=some (r,H)):
   dx (fun c=>if gH ms (E1++dE) i c then aop T o.op (aP fr) ((fun c=>((Hs1++dh)[c]?).getD []) c)=some (r,(fun c=>((Hs1++dh)[c]?).getD []) c) else True) (ki ((E1++dE).length+1)):=by
  rcases n5 with h0 | n5
  ·rw[range_one h0];obtain⟨_,rfl⟩:=h0;simp only[kq]at n3;refine⟨?_,trivial⟩;show(if _ then _ else _);split
   ·simp only;rw[n3];exact hop
   ·trivial
  ·rw[hw]at n5;simp only[hcall]at n5;refine allB_ok (fun c hp=>?_) n5;split
   ·rename_i hpos;by_cases hce:c=E1.length
    ·subst hce;simp only at n3 ⊢;rw[n3];exact hop
    ·rw[if_neg hce,if_pos hpos]at hp;split at hp
     ·rename_i v' H' ha;simp only[kb]at hp;have hH:=gC hp.2 ha;rw[ha,ef _ _ _ hp.1,hH]
     ·cases hp
   ·trivial
theorem ee(hT:TOk P T)(hm:P.follows .mixedOrders=true){call:bm}(hc:dy P call){id:Nat}{ops:Array Oper}{fr fr':List V}{H H':List B}{own:Bool}(h:fh own call T ops fr H=some (fr',H')){Q:Exit→List V→List B→Prop}(hq:Q .normal fr' H'):W P (.region id ops true) Q fr H:=by
 unfold fh at h;split at h
 ·rename_i d hd;split at h
  ·rename_i hb;simp only[kb,lW,List.isEmpty_iff]at hb;cases h;obtain⟨k1,k2,_⟩:=evD_lt _ _ _ _ _ hd
   obtain⟨a1,a2⟩:=gR (ms:=aY [] ops.toList) hc _ _ _ _ _ hd [] [H] ⟨rfl,rfl,by simp⟩ (by
    rcases hb.2 with h | h
    ·exact .inl ⟨h,rfl⟩
    ·exact .inr h)
   intro s a h1 h2 h3 h4;refine W_draw hT hm d.E d.cv (fun C K hC hK=>?_) s a h1 h2 h3 h4;unfold fO;simp only[kX,List.singleton_append]at a1 a2;rw[a1];exact⟨⟨stat_ok hb.1.1 hb.1.2,k1⟩,il hC _ _ _ _ a2,hK _ _ hq⟩
  ·cases h
 ·cases h
theorem evDraw_ok(hT:TOk P T)(hm:P.follows .mixedOrders=true){call:bm}(hc:dy P call){id:Nat}{ops:Array Oper}{fr fr':List V}{H H':List B}(h:evDraw call T ops fr H=some (fr',H')){Q:Exit→List V→List B→Prop}(hq:Q .normal fr' H'):W P (.region id ops true) Q fr H:=by
 unfold evDraw at h;split at h
 ·split at h
  ·rename_i r hr;cases h;exact ee hT hm hc hr hq
  ·exact ee hT hm hc h hq
 ·split at h
  ·rename_i r hr;cases h;exact ee hT hm hc hr hq
  ·exact ee hT hm hc h hq
theorem evLoop_ok{c:Code}{f:List V→List B→Option (Exit×List V×List B)}(hf:∀fr H e fr' H',f fr H=some (e,fr',H')→∀Q:Exit→List V→List B→Prop,Q e fr' H'→W P c Q fr H){n:Nat}{fr fr':List V}{H H':List B}{e:Exit}(h:ed f n fr H=some (e,fr',H')){Q:Exit→List V→List B→Prop}(hq:Q e fr' H'):W P (.loop c) Q fr H:=by
 refine W_loop (fun m g G=>ed f m g G=some (e,fr',H')) (fun m g G hm=>?_) h
 cases m with
 | zero=>simp[ed]at hm
 | succ m =>
  simp only[ed]at hm;split at hm
  ·rename_i g' G' he;exact hf _ _ _ _ _ he _ ⟨m,lc m,hm⟩
  ·rename_i r hno;refine hf _ _ _ _ _ hm _ ?_
   cases e with
   | normal=>exact absurd hm (hno _ _)
   | _=>exact hq
theorem bv(hT:TOk P T)(hm:P.follows .mixedOrders=true){call:bm}(hc:dy P call){fuel:Nat} : ∀(c:Code) (fr:List V) (H:List B) (e:Exit) (fr':List V) (H':List B),aw call T fuel c fr H=some (e,fr',H')→∀Q:Exit→List V→List B→Prop,Q e fr' H'→W P c Q fr H
 | .skip,fr,H,e,fr',H',h,Q,hq=>by simp only[aw]at h;cases h;exact W_skip hq
 | .region id ops false,fr,H,e,fr',H',h,Q,hq=>by
  simp only[aw]at h;split at h
  ·rename_i g G he;cases h;intro s a h1 h2 h3 h4;refine W_region hT (fun C K hC hK=>?_) s a h1 h2 h3 h4;exact WOps_mono hC _ _ _ (gz hc he (hK _ _ hq))
  ·cases h
 | .region id ops true,fr,H,e,fr',H',h,Q,hq=>by
  simp only[aw]at h;split at h
  ·rename_i g G he;cases h;exact evDraw_ok hT hm hc he hq
  ·cases h
 | .seq a b,fr,H,e,fr',H',h,Q,hq=>by
  simp only[aw]at h;refine fM ?_;split at h
  ·rename_i g G he;exact bv hT hm hc a fr H _ g G he _ (bv hT hm hc b g G e fr' H' h Q hq)
  ·rename_i r hno;refine bv hT hm hc a fr H _ fr' H' h _ ?_
   cases e with
   | normal=>exact absurd h (hno _ _)
   | _=>exact hq
 | .cond o a b,fr,H,e,fr',H',h,Q,hq=>by
  simp only[aw]at h;split at h
  ·rename_i hb;exact W_cond (b:=true) hb (bv hT hm hc a fr H e fr' H' h Q hq)
  ·rename_i hb;exact W_cond (b:=false) hb (bv hT hm hc b fr H e fr' H' h Q hq)
  ·cases h
 | .block id c,fr,H,e,fr',H',h,Q,hq=>by
  simp only[aw]at h;refine W_block ?_;split at h
  ·rename_i id' g G he;refine bv hT hm hc c fr H _ g G he _ ?_;simp only[dw];split
   ·rename_i hid;rw[if_pos hid]at h;cases h;exact hq
   ·rename_i hid;rw[if_neg hid]at h;cases h;exact hq
  ·rename_i r hno;refine bv hT hm hc c fr H _ fr' H' h _ ?_
   cases e with
   | exit id'=>exact absurd h (hno _ _ _)
   | _=>exact hq
 | .loop c,fr,H,e,fr',H',h,Q,hq=>by
  simp only[aw]at h;exact evLoop_ok (fun g G e' g' G' he Q' hq'=>bv hT hm hc c g G e' g' G' he Q' hq') h hq
 | .exit id,fr,H,e,fr',H',h,Q,hq=>by simp only[aw]at h;cases h;exact W_exit hq
 | .ret,fr,H,e,fr',H',h,Q,hq=>by simp only[aw]at h;cases h;exact W_ret hq
 | .rangeFunc ..,fr,H,e,fr',H',h,Q,hq=>by simp[aw]at h
 | .scope _,fr,H,e,fr',H',h,Q,hq=>by simp[aw]at h
 | .label _,fr,H,e,fr',H',h,Q,hq=>by simp[aw]at h
 | .goto _,fr,H,e,fr',H',h,Q,hq=>by simp[aw]at h
 | .refuse _,fr,H,e,fr',H',h,Q,hq=>by simp[aw]at h
where
 WOps_mono {C:V→List V→List B→(V→List B→Prop)→Prop} (hC:∀fv args H K',af P fv args H K'→C fv args H K') {K:List V→List B→Prop} {ops:Array Oper} : ∀(l:List Oper) (fr:List V) (H:List B),eL T ops (af P) K l fr H→eL T ops C K l fr H
  | [],_,_,h=>h
  | o::rest,fr,H,h=>by
   simp only[eL]at h ⊢;split at h
   ·split at h
    ·exact hC _ _ _ _ (h.mono fun r H' h'=>WOps_mono hC rest _ _ h')
    ·split at h
     ·exact WOps_mono hC rest _ _ h
     ·exact h
   ·exact WOps_mono hC rest _ _ h
   ·exact h
theorem evFun_ok(hT:TOk P T)(hm:P.follows .mixedOrders=true)(hn:∀(f:Nat) (fn:Func),P.funcs[f]?=some fn→(fn.name == "runtime.NumGoroutine")=false){call:bm}(hc:dy P call){fuel:Nat}{f:FuncId}{args:List V}{H H':List B}{r:V}(h:evFun P T fuel call f args H=some (r,H')):aq P f args H fun x y=>x=r∧y=H':=by
 unfold evFun at h;split at h
 ·rename_i fn hf;split at h
  ·rename_i c hb
   have fin:∀{e:Exit} {fr:List V} {H1:List B},(e = .normal∨e = .ret)→aw call T fuel c (args++kQ (fn.ntmps-args.length) (.tup [])) H=some (e,fr,H1)→(match bo T fr H1 fn.results.toList with
     | some vs=>some (ii vs,H1)
     | none=>none)=some (r,H')→aq P f args H fun x y=>x=r∧y=H':=fun {e fr H1} he hev hres=>by
    refine aB hT hf hb (hn f fn hf) ?_;refine bv hT hm hc c _ _ _ _ _ hev _ ?_;split at hres
    ·rename_i vs hvs;cases hres
     rcases he with rfl | rfl<;>simp[retQ,hvs]
    ·cases hres
   split at h
   ·rename_i fr H1 hev;exact fin (.inl rfl) hev h
   ·rename_i fr H1 hev;exact fin (.inr rfl) hev h
   ·cases h
  ·cases h
 ·cases h
def cH(P:Program)(ext:dK):Prop:=∀f args H r H',ext f args H=some (r,H')→aq P f args H fun x y=>x=r∧y=H'
theorem evCall_ok(hT:TOk P T)(hm:P.follows .mixedOrders=true)(hn:∀(f:Nat) (fn:Func),P.funcs[f]?=some fn→(fn.name == "runtime.NumGoroutine")=false){ext:dK}(he:cH P ext){fuel:Nat} : ∀d,dy P (kA P T ext fuel d)
 | 0=>fun fv args H r H' h=>by simp[kA]at h
 | d+1=>fun fv args H r H' h=>by
  simp only[kA]at h;split at h
  ·rename_i f caps;split at h
   ·rename_i r' hr;cases h;exact he _ _ _ _ _ hr
   ·exact evFun_ok hT hm hn (evCall_ok hT hm hn he d) h
  ·cases h
theorem closed_con(hT:TOk P T)(hm:P.follows .mixedOrders=true)(hn:∀(f:Nat) (fn:Func),P.funcs[f]?=some fn→(fn.name == "runtime.NumGoroutine")=false){ext:dK}(hx:cH P ext){fuel d:Nat}{f:FuncId}{args:List V}{r:V}{H':List B}(h:kA P T ext fuel d (.fn f []) args []=some (r,H')){r':V}(he:exV H' 0 40 r=some r')(hp:Pure r'):ab P f args fun x=>x=r':=by
 have h1:=evCall_ok hT hm hn hx d _ _ _ _ _ h;simp only[af,kp]at h1;have h2:=iV (G:=H') (d:=40) h1 he;exact cm (h2.mono fun x y ⟨e1,e2⟩=>by subst e1;subst e2;exact⟨x,.pure x hp,hp,rfl⟩)
end
end Go.AM
namespace Go.AM
open Go
end Go.AM
namespace Go.AM
open Go
inductive FT where
 | nil
 | node (v:V) (l r:FT)
def FT.get:FT→Nat→V
 | .nil,_=>.undef
 | .node v l r,i=>cond (lO i 0) v (cond (lO (i % 2) 1) (l.get (i / 2)) (r.get (i / 2-1)))
def FT.set:FT→Nat→V→FT
 | .nil,_,_=>.nil
 | .node v l r,i,x=>cond (lO i 0) (.node x l r) (cond (lO (i % 2) 1) (.node v (l.set (i / 2) x) r) (.node v l (r.set (i / 2-1) x)))
def FT.has:FT→Nat→Bool
 | .nil,_=>false
 | .node _ l r,i=>cond (lO i 0) true (cond (lO (i % 2) 1) (l.has (i / 2)) (r.has (i / 2-1)))
def FT.full(v:V):Nat→FT
 | 0=>.nil
 | d+1=>.node v (FT.full v d) (FT.full v d)
theorem jp(v:V):∀(d i:Nat),i+1<2^d→(FT.full v d).get i=v∧(FT.full v d).has i=true
 | 0,i,h=>by simp at h
 | d+1,i,h=>by
  have e1:(FT.full v (d+1)).get i=cond (lO i 0) v (cond (lO (i % 2) 1) ((FT.full v d).get (i / 2)) ((FT.full v d).get (i / 2-1))):=rfl;have e2:(FT.full v (d+1)).has i=cond (lO i 0) true (cond (lO (i % 2) 1) ((FT.full v d).has (i / 2)) ((FT.full v d).has (i / 2-1))):=rfl;rw[e1,e2];rw[Nat.pow_succ]at h;cases h0:lO i 0
  ·have hi:i≠0:=fun e=>by subst e;simp at h0
   cases h1:lO (i % 2) 1
   ·have h1':i % 2≠1:=fun e=>by rw[e]at h1;simp at h1
    exact jp v d (i / 2-1) (by omega)
   ·have h1':i % 2=1:=Nat.eq_of_beq_eq_true h1;exact jp v d (i / 2) (by omega)
  ·exact⟨rfl,rfl⟩
theorem jL(x:V):∀(t:FT) (i j:Nat),t.has i=true→(t.set i x).get j=(if i=j then x else t.get j)∧(t.set i x).has j=t.has j
 | .nil,i,j,h=>by have:FT.has .nil i=false:=rfl;rw[this]at h;cases h
 | .node v l r,i,j,h=>by
  have e0:(FT.node v l r).has i=cond (lO i 0) true (cond (lO (i % 2) 1) (l.has (i / 2)) (r.has (i / 2-1))):=rfl;have e1:(FT.node v l r).set i x=cond (lO i 0) (.node x l r) (cond (lO (i % 2) 1) (.node v (l.set (i / 2) x) r) (.node v l (r.set (i / 2-1) x))):=rfl
  have g:∀(v:V) (l r:FT) (j:Nat),(FT.node v l r).get j=cond (lO j 0) v (cond (lO (j % 2) 1) (l.get (j / 2)) (r.get (j / 2-1))):=fun _ _ _ _=>rfl
  have hh:∀(v:V) (l r:FT) (j:Nat),(FT.node v l r).has j=cond (lO j 0) true (cond (lO (j % 2) 1) (l.has (j / 2)) (r.has (j / 2-1))):=fun _ _ _ _=>rfl
  have bz:∀a b:Nat,lO a b=decide (a=b):=fun a b=>by
   cases hb:lO a b
   ·exact(decide_eq_false (fun e=>by subst e;simp at hb)).symm
   ·exact(decide_eq_true (Nat.eq_of_beq_eq_true hb)).symm
  rw[e0]at h;rw[e1];simp only[bz]at h ⊢;by_cases hi:i=0
  ·subst hi;simp only[decide_true,cond_true,g,hh,bz];by_cases hj:j=0
   ·subst hj;simp
   ·simp[hj,Ne.symm hj]
  ·simp only[hi,decide_false,cond_false]at h ⊢;by_cases h1:i % 2=1
   ·simp only[h1,decide_true,cond_true]at h ⊢;simp only[g,hh,bz];by_cases hj:j=0
    ·subst hj;simp[hi]
    ·simp only[hj,decide_false,cond_false];by_cases hj1:j % 2=1
     ·obtain⟨k1,k2⟩:=jL x l (i / 2) (j / 2) h;simp only[hj1,decide_true,cond_true,k1,k2,and_true]
      have:(i / 2=j / 2)↔(i=j):=by omega
      simp[this]
     ·simp only[hj1,decide_false,cond_false,and_true];rw[if_neg (fun e:i=j=>hj1 (e▸h1))]
   ·simp only[h1,decide_false,cond_false]at h ⊢;simp only[g,hh,bz];by_cases hj:j=0
    ·subst hj;simp[hi]
    ·simp only[hj,decide_false,cond_false];by_cases hj1:j % 2=1
     ·simp only[hj1,decide_true,cond_true,and_true];rw[if_neg (fun e:i=j=>h1 (e▸hj1))]
     ·obtain⟨k1,k2⟩:=jL x r (i / 2-1) (j / 2-1) h;simp only[hj1,decide_false,cond_false,k1,k2,and_true]
      have:(i / 2-1=j / 2-1)↔(i=j):=by omega
      simp[this]
def fw(n:Nat)(t:FT):Operand→V
 | .tmp i=>cond (Nat.blt i n) (t.get i) .undef
 | .const v=>(fF v).getD .undef
 | .func f=>.fn f []
 | .global _=>.undef
def putT(n:Nat)(t:FT)(d:Option Tmp)(v:V):FT :=
 match d with
 | some i=>cond (Nat.blt i n) (t.set i v) t
 | none=>t
def wantT(n:Nat)(ops:Array Oper)(t:FT)(o:Oper):Option Bool :=
 match o.guard with
 | none=>some true
 | some (j,want)=>match ops[j]? with
  | some oj=>match oj.dst with
   | some d=>match fw n t (.tmp d) with
    | .bool b=>some (b == want)
    | .tup _=>some false
    | _=>none
   | none=>none
  | none=>none
def gQ(n:Nat)(call:bm)(T:Ty)(ops:Array Oper):List Oper→FT→List B→Option (FT×List B)
 | [],fr,H=>some (fr,H)
 | o::rest,fr,H=>match wantT n ops fr o with
  | some true=>match bH o.op with
   | some (f,args)=>match call (fw n fr f) (args.map (fw n fr)) H with
    | some (r,H')=>gQ n call T ops rest (putT n fr o.dst r) H'
    | none=>none
   | none=>match aop T o.op (fw n fr) H with
    | some (v,H')=>gQ n call T ops rest (putT n fr o.dst v) H'
    | none=>none
  | some false=>gQ n call T ops rest (putT n fr o.dst (.tup [])) H
  | none=>none
def toL(n:Nat)(t:FT):List V:=(ki n).map t.get
def gg(t:FT):Nat→List V→FT
 | _,[]=>t
 | i,v::r=>gg (t.set i v) (i+1) r
def ofL(d:Nat)(l:List V):FT:=gg (FT.full (.tup []) d) 0 l
structure FR (n:Nat) (t:FT) (fr:List V):Prop where
 len:fr.length=n
 at_:∀i,i<n→fr[i]?=some (t.get i)∧t.has i=true
section
variable {n:Nat} {t:FT} {fr:List V}
theorem blt_iff(a b:Nat):Nat.blt a b=decide (a<b):=by
 unfold Nat.blt;cases h:Nat.ble a.succ b
 ·exact(decide_eq_false (fun hl=>by rw[Nat.ble_eq_true_of_le hl]at h;cases h)).symm
 ·exact(decide_eq_true (Nat.le_of_ble_eq_true h)).symm
theorem FR.eval(h:FR n t fr)(x:Operand):fw n t x=aP fr x:=by
 cases x with
 | tmp i =>
  simp only[fw,aP,blt_iff]
  have key:∀k:Nat,(cond (decide (k<n)) (t.get k) V.undef)=(fr[k]?).getD .undef:=fun k=>by
   by_cases hk:k<n
   ·simp[hk,(h.at_ k hk).1]
   ·have:=h.len;rw[lN (by omega)];simp[hk]
  exact key i
 | const v=>rfl
 | func f=>rfl
 | global g=>rfl
theorem FR.put(h:FR n t fr)(d:Option Tmp)(v:V):FR n (putT n t d v) (bI fr d v):=by
 cases d with
 | none=>exact h
 | some i =>
  have key:∀k:Nat,FR n (cond (Nat.blt k n) (t.set k v) t) (fr.set k v):=fun k=>by
   rw[blt_iff];by_cases hk:k<n
   ·refine⟨by simp[h.len],fun j hj=>?_⟩;have hs:=jL v t k j (h.at_ k hk).2;simp only[hk,decide_true,cond_true];rw[hs.1,hs.2];refine⟨?_,(h.at_ j hj).2⟩;by_cases hkj:k=j
    ·subst hkj;rw[ku (by rw[h.len];exact hk)];simp
    ·rw[kn hkj,if_neg hkj];exact(h.at_ j hj).1
   ·simp only[hk,decide_false,cond_false];rw[List.set_eq_of_length_le (by rw[h.len];omega)];exact h
  exact key i
theorem FR.want(h:FR n t fr)(ops:Array Oper)(o:Oper):wantT n ops t o=bV ops fr o:=by
 unfold wantT bV
 cases o.guard with
 | none=>rfl
 | some p =>
  obtain⟨j,want⟩:=p;simp only
  cases ops[j]? with
  | none=>rfl
  | some oj =>
   simp only
   cases oj.dst with
   | none=>rfl
   | some d =>
    simp only;rw[h.eval];simp only[aP]
    have key:∀k:Nat,(match (fr[k]?).getD .undef with
      | .bool b=>some (b == want)
      | .tup _=>some false
      | _=>none)=(match fr[k]? with
      | some (.bool b)=>some (b == want)
      | some (.tup _)=>some false
      | _=>none):=fun k=>by
     cases fr[k]? with
     | none=>rfl
     | some v=>cases v<;>rfl
    exact key d
theorem FR.list(h:FR n t fr):toL n t=fr:=by
 apply lj;intro i;by_cases hi:i<n
 ·rw[(h.at_ i hi).1,toL,ko,List.getElem?_range hi];rfl
 ·have:=h.len;rw[lN (by simp[toL];omega),lN (by omega)]
theorem ofLgo_ok(N:Nat):∀(l:List V) (i:Nat) (t:FT),(∀k,k<N→t.has k=true)→i+l.length≤N→(∀k,k<N→(gg t i l).has k=true)∧(∀k,k<i→(gg t i l).get k=t.get k)∧(∀k v,l[k]?=some v→(gg t i l).get (i+k)=v)∧∀k,i+l.length≤k→(gg t i l).get k=t.get k
 | [],i,t,h,hl=>⟨h,fun _ _=>rfl,by simp,fun _ _=>rfl⟩
 | v::l,i,t,h,hl=>by
  simp only[kZ]at hl
  have hs:=fun k=>jL v t i k (h i (by omega))
  obtain⟨a1,a2,a3,a4⟩:=ofLgo_ok N l (i+1) (t.set i v) (fun k hk=>by rw[(hs k).2];exact h k hk) (by omega);refine⟨a1,fun k hk=>?_,fun k x hx=>?_,fun k hk=>?_⟩
  ·show(gg (t.set i v) (i+1) l).get k=_;rw[a2 k (by omega),(hs k).1,if_neg (by omega)]
  ·cases k with
   | zero=>simp at hx;subst hx;show(gg (t.set i v) (i+1) l).get i=_;rw[a2 i (by omega),(hs i).1,if_pos rfl]
   | succ k=>have:=a3 k x (by simpa using hx);rw[show i+(k+1)=i+1+k by omega];exact this
  ·simp only[kZ]at hk;show(gg (t.set i v) (i+1) l).get k=_;rw[a4 k (by omega),(hs k).1,if_neg (by omega)]
theorem ofL_ok{d:Nat}{l:List V}(hn:n<2^d)(hl:l.length≤n):FR n (ofL d l) (l++kQ (n-l.length) (.tup [])):=by
 have hf:=fun k (hk:k<n)=>jp (.tup []) d k (by omega)
 obtain⟨a1,a2,a3,a4⟩:=ofLgo_ok n l 0 (FT.full (.tup []) d) (fun k hk=>(hf k hk).2) (by omega);refine⟨by simp;omega,fun i hi=>⟨?_,a1 i hi⟩⟩;by_cases hil:i<l.length
 ·have hx:l[i]?=some l[i]:=kR hil;have:=a3 i _ hx;rw[ld]at this;rw[kU hil,hx];exact congrArg some this.symm
 ·rw[km (by omega),List.getElem?_replicate,if_pos (by omega)];have:=a4 i (by omega);exact congrArg some ((this.trans (hf i hi).1).symm)
end
def hU(f:FT→List B→Option (Exit×FT×List B)):Nat→FT→List B→Option (Exit×FT×List B)
 | 0,_,_=>none
 | m+1,fr,H=>match f fr H with
  | some (.normal,fr',H')=>hU f m fr' H'
  | r=>r
def bK(n d:Nat)(call:bm)(T:Ty)(fuel:Nat):Code→FT→List B→Option (Exit×FT×List B)
 | .skip,fr,H=>some (.normal,fr,H)
 | .region _ ops false,fr,H=>match gQ n call T ops ops.toList fr H with
  | some (fr',H')=>some (.normal,fr',H')
  | none=>none
 | .region _ ops true,fr,H=>match evDraw call T ops (toL n fr) H with
  | some (fr',H')=>if fr'.length=n then some (.normal,ofL d fr',H') else none
  | none=>none
 | .seq a b,fr,H=>match bK n d call T fuel a fr H with
  | some (.normal,fr',H')=>bK n d call T fuel b fr' H'
  | r=>r
 | .cond c a b,fr,H=>match fw n fr c with
  | .bool true=>bK n d call T fuel a fr H
  | .bool false=>bK n d call T fuel b fr H
  | _=>none
 | .block id c,fr,H=>match bK n d call T fuel c fr H with
  | some (.exit id',fr',H')=>if id'=id then some (.normal,fr',H') else some (.exit id',fr',H')
  | r=>r
 | .loop c,fr,H=>hU (bK n d call T fuel c) fuel fr H
 | .exit id,fr,H=>some (.exit id,fr,H)
 | .ret,fr,H=>some (.ret,fr,H)
 | _,_,_=>none
def resT(T:Ty)(n:Nat)(fr:FT)(H:List B):List ResultVar→Option (List V)
 | []=>some []
 | .tmp t::rs=>if t<n then(match resT T n fr H rs with
  | some vs=>some (fr.get t::vs)
  | none=>none) else none
 | .cell a t::rs=>if a<n then(match jl T H t (fr.get a),resT T n fr H rs with
  | some v,some vs=>some (v::vs)
  | _,_=>none) else none
def evFunT(P:Program)(T:Ty)(fuel:Nat)(call:bm)(f:FuncId)(args:List V)(H:List B):Option (V×List B):=
 match P.funcs[f]? with
 | some fn=>match fn.body with
  | some c=>if args.length≤fn.ntmps∧fn.ntmps<256 then(match bK fn.ntmps 8 call T fuel c (ofL 8 args) H with
   | some (.normal,fr,H') | some (.ret,fr,H')=>match resT T fn.ntmps fr H' fn.results.toList with
    | some vs=>some (ii vs,H')
    | none=>none
   | _=>none) else none
  | none=>none
 | none=>none
def hY(P:Program)(T:Ty)(ext:dK)(fuel:Nat):Nat→bm
 | 0,_,_,_=>none
 | d+1,fv,args,H=>match fv with
  | .fn f caps=>match ext f (args++caps) H with
   | some r=>some r
   | none=>evFunT P T fuel (hY P T ext fuel d) f (args++caps) H
  | _=>none
section
variable {P:Program} {T:Ty}
theorem map_evalT{n:Nat}{t:FT}{fr:List V}(h:FR n t fr)(args:List Operand):args.map (fw n t)=args.map (aP fr):=lg fun x _=>h.eval x
theorem aopT{n:Nat}{t:FT}{fr:List V}(h:FR n t fr)(o:Go.Op)(H:List B):aop T o (fw n t) H=aop T o (aP fr) H:=by
 have:fw n t=aP fr:=funext h.eval;rw[this]
theorem fg{n:Nat}{call:bm}{ops:Array Oper} : ∀{l:List Oper} {t:FT} {fr:List V} {H:List B} {t':FT} {H':List B},FR n t fr→gQ n call T ops l t H=some (t',H')→∃fr',hG call T ops l fr H=some (fr',H')∧FR n t' fr'
 | [],t,fr,H,t',H',h,he=>by simp only[gQ,Option.some.injEq,Prod.mk.injEq]at he;obtain⟨rfl,rfl⟩:=he;exact⟨fr,rfl,h⟩
 | o::rest,t,fr,H,t',H',h,he=>by
  simp only[gQ]at he;simp only[hG];rw[h.want]at he
  cases hw:bV ops fr o with
  | none=>rw[hw]at he;cases he
  | some b =>
   rw[hw]at he
   cases b with
   | false=>exact fg (h.put o.dst _) he
   | true =>
    simp only at he ⊢
    cases hc:bH o.op with
    | some p =>
     obtain⟨f,args⟩:=p;rw[hc]at he;simp only at he ⊢;rw[h.eval,map_evalT h]at he
     cases hcall:call (aP fr f) (args.map (aP fr)) H with
     | none=>rw[hcall]at he;cases he
     | some q =>
      obtain⟨r,H1⟩:=q;rw[hcall]at he;exact fg (h.put o.dst r) he
    | none =>
     rw[hc]at he;simp only at he ⊢;rw[aopT h]at he
     cases hop:aop T o.op (aP fr) H with
     | none=>rw[hop]at he;cases he
     | some q =>
      obtain⟨v,H1⟩:=q;rw[hop]at he;exact fg (h.put o.dst v) he
theorem jy{n:Nat}{f:FT→List B→Option (Exit×FT×List B)}{g:List V→List B→Option (Exit×List V×List B)}
  (hf:∀t fr H e t' H',FR n t fr→f t H=some (e,t',H')→∃fr',g fr H=some (e,fr',H')∧FR n t' fr'):∀(m:Nat) {t:FT} {fr:List V} {H:List B} {e:Exit} {t':FT} {H':List B},FR n t fr→hU f m t H=some (e,t',H')→∃fr',ed g m fr H=some (e,fr',H')∧FR n t' fr'
 | 0,t,fr,H,e,t',H',h,he=>by simp[hU]at he
 | m+1,t,fr,H,e,t',H',h,he=>by
  simp only[hU]at he;split at he
  ·rename_i t1 H1 h1;obtain⟨fr1,g1,r1⟩:=hf _ _ _ _ _ _ h h1;obtain⟨fr',g2,r2⟩:=jy hf m r1 he;exact⟨fr',by simp only[ed,g1];exact g2,r2⟩
  ·rename_i r hno;obtain⟨fr',g1,r1⟩:=hf _ _ _ _ _ _ h he;refine⟨fr',?_,r1⟩;simp only[ed,g1]
   cases e with
   | normal=>exact absurd he (hno _ _)
   | _=>rfl
theorem bn{n d:Nat}(hd:n<2^d){call:bm}{fuel:Nat} : ∀(c:Code) (t:FT) (fr:List V) (H:List B) (e:Exit) (t':FT) (H':List B),FR n t fr→bK n d call T fuel c t H=some (e,t',H')→∃fr',aw call T fuel c fr H=some (e,fr',H')∧FR n t' fr'
 | .skip,t,fr,H,e,t',H',h,he=>by simp only[bK]at he;cases he;exact⟨fr,rfl,h⟩
 | .region id ops false,t,fr,H,e,t',H',h,he=>by
  simp only[bK]at he;split at he
  ·rename_i t1 H1 h1;cases he;obtain⟨fr',g1,r1⟩:=fg h h1;exact⟨fr',by simp only[aw,g1],r1⟩
  ·cases he
 | .region id ops true,t,fr,H,e,t',H',h,he=>by
  simp only[bK]at he;split at he
  ·rename_i f1 H1 h1;split at he
   ·rename_i hl;cases he;rw[h.list]at h1;have:=ofL_ok (n:=n) (d:=d) (l:=f1) hd (by omega);rw[hl,mQ]at this;simp only[List.replicate_zero,kp]at this;exact⟨f1,by simp only[aw,h1],this⟩
   ·cases he
  ·cases he
 | .seq a b,t,fr,H,e,t',H',h,he=>by
  simp only[bK]at he;split at he
  ·rename_i t1 H1 h1;obtain⟨fr1,g1,r1⟩:=bn hd a _ _ _ _ _ _ h h1;obtain⟨fr',g2,r2⟩:=bn hd b _ _ _ _ _ _ r1 he;exact⟨fr',by simp only[aw,g1];exact g2,r2⟩
  ·rename_i r hno;obtain⟨fr',g1,r1⟩:=bn hd a _ _ _ _ _ _ h he;refine⟨fr',?_,r1⟩;simp only[aw,g1]
   cases e with
   | normal=>exact absurd he (hno _ _)
   | _=>rfl
 | .cond c a b,t,fr,H,e,t',H',h,he=>by
  simp only[bK]at he;rw[h.eval]at he;split at he
  ·rename_i hb;obtain⟨fr',g1,r1⟩:=bn hd a _ _ _ _ _ _ h he;exact⟨fr',by simp only[aw,hb];exact g1,r1⟩
  ·rename_i hb;obtain⟨fr',g1,r1⟩:=bn hd b _ _ _ _ _ _ h he;exact⟨fr',by simp only[aw,hb];exact g1,r1⟩
  ·cases he
 | .block id c,t,fr,H,e,t',H',h,he=>by
  simp only[bK]at he;split at he
  ·rename_i id' t1 H1 h1;obtain⟨fr1,g1,r1⟩:=bn hd c _ _ _ _ _ _ h h1;split at he
   ·rename_i hid;cases he;exact⟨fr1,by simp only[aw,g1,hid,if_true],r1⟩
   ·rename_i hid;cases he;exact⟨fr1,by simp only[aw,g1,hid,if_false],r1⟩
  ·rename_i r hno;obtain⟨fr',g1,r1⟩:=bn hd c _ _ _ _ _ _ h he;refine⟨fr',?_,r1⟩;simp only[aw,g1]
   cases e with
   | exit id'=>exact absurd he (hno _ _ _)
   | _=>rfl
 | .loop c,t,fr,H,e,t',H',h,he=>by
  simp only[bK]at he;obtain⟨fr',g1,r1⟩:=jy (g:=aw call T fuel c) (fun t fr H e t' H' a b=>bn hd c t fr H e t' H' a b) fuel h he;exact⟨fr',by simp only[aw,g1],r1⟩
 | .exit id,t,fr,H,e,t',H',h,he=>by simp only[bK]at he;cases he;exact⟨fr,rfl,h⟩
 | .ret,t,fr,H,e,t',H',h,he=>by simp only[bK]at he;cases he;exact⟨fr,rfl,h⟩
 | .rangeFunc ..,t,fr,H,e,t',H',h,he=>by simp[bK]at he
 | .scope _,t,fr,H,e,t',H',h,he=>by simp[bK]at he
 | .label _,t,fr,H,e,t',H',h,he=>by simp[bK]at he
 | .goto _,t,fr,H,e,t',H',h,he=>by simp[bK]at he
 | .refuse _,t,fr,H,e,t',H',h,he=>by simp[bK]at he
theorem jE{n:Nat}{t:FT}{fr:List V}{H:List B}(h:FR n t fr):∀{rs:List ResultVar} {vs:List V},resT T n t H rs=some vs→bo T fr H rs=some vs
 | [],vs,hr=>hr
 | .tmp i::rs,vs,hr=>by
  simp only[resT]at hr;split at hr
  ·rename_i hi;split at hr
   ·rename_i ws hw;cases hr
    have key:∀k:Nat,k<n→fr[k]?=some (t.get k):=fun k hk=>(h.at_ k hk).1
    simp only[bo,gZ,jE h hw];have:=key i hi;rw[this]
   ·cases hr
  ·cases hr
 | .cell a ty::rs,vs,hr=>by
  simp only[resT]at hr;split at hr
  ·rename_i hi;split at hr
   ·rename_i v ws hv hw;cases hr
    have key:∀k:Nat,k<n→fr[k]?=some (t.get k):=fun k hk=>(h.at_ k hk).1
    simp only[bo,gZ,jE h hw];have:=key a hi;rw[this];simp only[hv]
   ·cases hr
  ·cases hr
theorem evFunT_ok{call:bm}{fuel:Nat}{f:FuncId}{args:List V}{H:List B}{r:V×List B}(h:evFunT P T fuel call f args H=some r):evFun P T fuel call f args H=some r:=by
 unfold evFunT at h;unfold evFun
 cases hf:P.funcs[f]? with
 | none=>rw[hf]at h;cases h
 | some fn =>
  rw[hf]at h;simp only at h ⊢
  cases hb:fn.body with
  | none=>rw[hb]at h;cases h
  | some c =>
   rw[hb]at h;simp only at h ⊢;split at h
   ·rename_i hn;have hfr:=ofL_ok (n:=fn.ntmps) (d:=8) (l:=args) hn.2 hn.1
    cases h1:bK fn.ntmps 8 call T fuel c (ofL 8 args) H with
    | none=>rw[h1]at h;cases h
    | some q =>
     obtain⟨e,t1,H1⟩:=q;obtain⟨fr',g1,r1⟩:=bn hn.2 c _ _ _ _ _ _ hfr h1;rw[h1]at h;rw[g1]
     cases e with
     | normal =>
      simp only at h ⊢
      cases hv:resT T fn.ntmps t1 H1 fn.results.toList with
      | none=>rw[hv]at h;cases h
      | some vs=>rw[hv]at h;rw[jE r1 hv];exact h
     | ret =>
      simp only at h ⊢
      cases hv:resT T fn.ntmps t1 H1 fn.results.toList with
      | none=>rw[hv]at h;cases h
      | some vs=>rw[hv]at h;rw[jE r1 hv];exact h
     | _=>cases h
   ·cases h
theorem jz(hT:TOk P T)(hm:P.follows .mixedOrders=true)(hn:∀(f:Nat) (fn:Func),P.funcs[f]?=some fn→(fn.name == "runtime.NumGoroutine")=false){ext:dK}(he:cH P ext){fuel:Nat} : ∀d,dy P (hY P T ext fuel d)
 | 0=>fun fv args H r H' h=>by simp[hY]at h
 | d+1=>fun fv args H r H' h=>by
  simp only[hY]at h;split at h
  ·rename_i f caps;split at h
   ·rename_i r' hr;cases h;exact he _ _ _ _ _ hr
   ·exact evFun_ok hT hm hn (jz hT hm hn he d) (evFunT_ok h)
  ·cases h
theorem aR(hT:TOk P T)(hm:P.follows .mixedOrders=true)(hn:∀(f:Nat) (fn:Func),P.funcs[f]?=some fn→(fn.name == "runtime.NumGoroutine")=false){ext:dK}(hx:cH P ext){fuel d:Nat}{f:FuncId}{args:List V}{r':V}
  (h:(match hY P T ext fuel d (.fn f []) args [] with
   | some (r,H')=>(match exV H' 0 40 r with
    | some x=>eqV 40 x r'
    | none=>false)
   | none=>false)=true) (hp:Pure r'):ab P f args fun x=>x=r':=by
 split at h
 ·rename_i r H' hev;split at h
  ·rename_i x hex;have:=ef _ _ _ h;subst this;have h1:=jz hT hm hn hx d _ _ _ _ _ hev;simp only[af,kp]at h1;have h2:=iV (G:=H') (d:=40) h1 hex;exact cm (h2.mono fun y z ⟨e1,e2⟩=>by subst e1;subst e2;exact⟨y,.pure y hp,hp,rfl⟩)
  ·cases h
 ·cases h
theorem bY{ext:dK}(he:cH P ext){g:FuncId}{ga:List V}{gr:V}(hc:ab P g ga fun x=>x=gr)(hq:∀a∈ga,Pure a):
  cH P (fun f args H=>if lO f g then(if eqL (eqV 40) args ga then some (gr,H) else ext f args H) else ext f args H):=fun f args H r H' h=>by
 simp only at h;split at h
 ·rename_i hf;have hf:=Nat.eq_of_beq_eq_true hf;split at h
  ·rename_i ha;have ha:=eg (ef 40) ha;cases h;subst ha;have hfg:f=g:=hf;subst hfg;have:=cr (H:=H) hc hq;simpa only[af,kp] using this
  ·exact he f args H r H' h
 ·exact he f args H r H' h
end
end Go.AM
end
