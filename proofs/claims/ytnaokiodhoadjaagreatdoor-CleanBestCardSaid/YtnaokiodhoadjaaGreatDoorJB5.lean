/- JB5: texts AMe, joined and shortened by pack6.py. -/
import Derived.Test.YtnaokiodhoadjaaGreatDoorJB4
set_option linter.all false
set_option maxRecDepth 100000
set_option maxHeartbeats 64000000
open List renaming replicate→tg,range→tr,nil_append→uL,length_cons→uX,length_nil→vm,singleton_append→wX,take_zero→xO,replicate_zero→xl
open Nat renaming beq→vB,strongRecOn→xG,pow_succ→xf
section
namespace Go.AM
open Go
def eqL(f:V->V->Bool):List V->List V->Bool
 | [],[]=>true
 | x::xs,y::ys=>f x y&&eqL f xs ys
 | _,_=>false
def eqV:Nat->V->V->Bool
 | 0,_,_=>false
 | d+1,a,b=>match a,b with
  | .undef,.undef=>true
  | .bool x,.bool y=>x == y
  | .int k x,.int k' y=>decide (k=k')&&x == y
  | .str x,.str y=>x.data.toList == y.data.toList
  | .nilS,.nilS=>true
  | .lst z f xs,.lst z' f' ys=>z == z'&&f == f'&&eqL (eqV d) xs ys
  | .buf k o l t,.buf k' o' l' t'=>k == k'&&o == o'&&l == l'&&t == t'
  | .nilP,.nilP=>true
  | .ptr k o,.ptr k' o'=>k == k'&&o == o'
  | .pin cs o,.pin ds o'=>o == o'&&eqL (eqV d) cs ds
  | .pbuf k o l t,.pbuf k' o' l' t'=>k == k'&&o == o'&&l == l'&&t == t'
  | .sarr k n,.sarr k' n'=>k == k'&&n == n'
  | .nilM,.nilM=>true
  | .map k,.map k'=>k == k'
  | .fn f cs,.fn g ds=>f == g&&eqL (eqV d) cs ds
  | .nilFn,.nilFn=>true
  | .nilI,.nilI=>true
  | .ifc,.ifc=>true
  | .agg cs,.agg ds=>eqL (eqV d) cs ds
  | .tup cs,.tup ds=>eqL (eqV d) cs ds
  | _,_=>false
theorem fS{f:V->V->Bool}(h:∀x y,f x y=true->x=y):∀{xs ys:List V},eqL f xs ys=true->xs=ys
 | [],[],_=>rfl
 | [],_::_,a=>by simp[eqL]at a
 | _::_,[],a=>by simp[eqL]at a
 | x::xs,y::ys,a=>by
  simp only[eqL,tt]at a;rw[h x y a.1,fS h a.2]
theorem eW:∀(d:Nat) (a b:V),eqV d a b=true->a=b
 | 0,a,b,h=>by simp[eqV]at h
 | d+1,a,b,h=>by
  have c:=eW d
  cases a<;>cases b<;>simp only[eqV,tt,beq_iff_eq,decide_eq_true_eq,uM]at h<;>try rfl
  .rw[h]
  .rw[h.1,h.2]
  .rename_i x y;cases x;cases y;have h:=Array.toList_inj.1 h;simp only at h;rw[h]
  .rw[h.1.1,h.1.2,fS c h.2]
  .rw[h.1.1.1,h.1.1.2,h.1.2,h.2]
  .rw[h.1,h.2]
  .rw[h.1,fS c h.2]
  .rw[h.1.1.1,h.1.1.2,h.1.2,h.2]
  .rw[h.1,h.2]
  .rw[h]
  .rw[h.1,fS c h.2]
  .rw[fS c h]
  .rw[fS c h]
def eqE:List (V×V)->List (V×V)->Bool
 | [],[]=>true
 | x::xs,y::ys=>eqV 40 x.1 y.1&&eqV 40 x.2 y.2&&eqE xs ys
 | _,_=>false
theorem eqE_eq:∀{xs ys:List (V×V)},eqE xs ys=true->xs=ys
 | [],[],_=>rfl
 | [],_::_,e=>by simp[eqE]at e
 | _::_,[],e=>by simp[eqE]at e
 | (a,b)::xs,(c,d)::ys,e=>by
  simp only[eqE,tt]at e;rw[eW _ _ _ e.1.1,eW _ _ _ e.1.2,eqE_eq e.2]
def eqB:B->B->Bool
 | .cells cs,.cells ds=>eqL (eqV 40) cs ds
 | .map kk es,.map kk' es'=>decide (kk=kk')&&eqE es es'
 | .buf e z xs f,.buf e' z' xs' f'=>e == e'&&z == z'&&f == f'&&eqL (eqV 40) xs xs'
 | _,_=>false
def eqB_eq(a b:B)(h:eqB a b=true):a=b:=by
 cases a<;>cases b<;>simp only[eqB,tt,beq_iff_eq,decide_eq_true_eq,uM]at h
 .rw[fS (eW 40) h]
 .rw[h.1,eqE_eq h.2]
 .rw[h.1.1.1,h.1.1.2,h.1.2,fS (eW 40) h.2]
def eqH:List B->List B->Bool
 | [],[]=>true
 | x::xs,y::ys=>eqB x y&&eqH xs ys
 | _,_=>false
theorem eqH_eq:∀{xs ys:List B},eqH xs ys=true->xs=ys
 | [],[],_=>rfl
 | [],_::_,c=>by simp[eqH]at c
 | _::_,[],c=>by simp[eqH]at c
 | a::xs,b::ys,c=>by
  simp only[eqH,tt]at c;rw[eqB_eq _ _ c.1,eqH_eq c.2]
inductive Cl (n:Nat):V->Prop
 | undef:Cl n .undef
 | bool (b:Bool):Cl n (.bool b)
 | int (k:IntKind) (m:Int):Cl n (.int k m)
 | str (x:ByteArray):Cl n (.str x)
 | nilS:Cl n .nilS
 | lst (z:Nat) (full:Bool) (xs:List V) (h:∀x∈xs,∀c∈x.cells,Cl n c):Cl n (.lst z full xs)
 | buf (k off len tot:Nat) (h:k<n):Cl n (.buf k off len tot)
 | nilP:Cl n .nilP
 | ptr (k off:Nat) (h:k<n):Cl n (.ptr k off)
 | pin (cs:List V) (off:Nat) (h:∀c∈cs.drop off,Cl n c):Cl n (.pin cs off)
 | pbuf (k i off tot:Nat) (h:k<n):Cl n (.pbuf k i off tot)
 | sarr (k m:Nat) (h:k<n):Cl n (.sarr k m)
 | nilM:Cl n .nilM
 | map (k:Nat) (h:k<n):Cl n (.map k)
 | fn (f:FuncId) (caps:List V) (h:∀c∈caps,Cl n c):Cl n (.fn f caps)
 | nilFn:Cl n .nilFn
 | nilI:Cl n .nilI
 | ifc:Cl n .ifc
 | agg (cs:List V) (h:∀c∈cs,Cl n c):Cl n (.agg cs)
 | tup (vs:List V) (h:∀c∈vs,Cl n c):Cl n (.tup vs)
def lu{p:V->Prop}{cs:List V}{us:Array Value}(hl:us.size=cs.length)(h:∀(i:Nat) c u,cs[i]?=some c->us[i]?=some u->p c):∀c∈cs,p c:=fun c a=>by
 obtain⟨i,hi,rfl⟩:=List.mem_iff_getElem.1 a;exact h i _ us[i] (tm hi) ζ
def Rel.cl{s:St}{v:V}{u:Value}(h:Rel s v u):Cl s.H.length v:=by
 induction h with
 | undef u=>exact .undef
 | bool b=>exact .bool b
 | int k n=>exact .int k n
 | str x=>exact .str x
 | nilS=>exact .nilS
 | lst z full xs A cap b off u hcap hfull hA hz hcell hrel a =>
  refine .lst z full xs fun x hx c m=>?_
  obtain⟨i,hi⟩:=List.mem_iff_getElem?.1 hx;obtain⟨j,g⟩:=List.mem_iff_getElem?.1 m;exact a i x j c hi g
 | buf k off len tot e z xs fz A l c hk ht d=>exact .buf _ _ _ _ (aB hk)
 | nilP=>exact .nilP
 | ptr k off cs hk=>exact .ptr _ _ (aB hk)
 | pin cs off b o u hp h1 hcell hrel a =>
  refine .pin cs off fun c m=>?_
  obtain⟨j,g⟩:=List.mem_iff_getElem?.1 m;rw[vN]at g;exact a j c g
 | pbuf k i off tot e z xs fz p hk ht d=>exact .pbuf _ _ _ _ (aB hk)
 | sarr k n cs hk=>exact .sarr _ _ (aB hk)
 | nilM=>exact .nilM
 | map k kk es hk=>exact .map _ (aB hk)
 | fn f caps us hl d a=>exact .fn f caps (lu hl a)
 | nilFn=>exact .nilFn
 | nilI=>exact .nilI
 | ifc t x=>exact .ifc
 | agg cs us hl h1 d a=>exact .agg cs (lu hl a)
 | tup vs us hl d a=>exact .tup vs (lu hl a)
section
variable {P:Program} {T:Ty} {s:St}
theorem Rel.cut{H G:List B}(w:s.H=H++G){v:V}{u:Value}(h:Rel s v u)(g:Cl H.length v):Rel (s.cut H) v u:=by
 have get:∀k bl,k<H.length->s.H[k]?=some bl->(s.cut H).H[k]?=some bl:=fun k bl hk hb=>by rw[w,tu hk]at hb;exact hb
 induction h with
 | undef u=>exact .undef u
 | bool b=>exact .bool b
 | int k n=>exact .int k n
 | str x=>exact .str x
 | nilS=>exact .nilS
 | lst z full xs A cap b off u hcap hfull hA hz hcell hrel m =>
  cases g with
  | lst _ _ _ hx =>
   exact .lst z full xs A cap b off u hcap hfull (fun h0=>⟨(hA h0).1,iy w (hA h0).2⟩) hz hcell (fun i x j c hi r=>m i x j c hi r (hx x (tn hi) c (tn r)))
 | buf k off len tot e z xs fz A l c hk ht q=>cases g with | buf _ _ _ _ d=>exact .buf k off len tot e z xs fz A l c (get k _ d hk) ht q
 | nilP=>exact .nilP
 | ptr k off cs hk=>cases g with | ptr _ _ d=>exact .ptr (s:=s.cut H) k off cs (get k _ d hk)
 | pin cs off b o u hp h1 hcell hrel m =>
  cases g with
  | pin _ _ hx=>exact .pin cs off b o u (iy w hp) h1 hcell (fun j c r=>m j c r (hx c (tn (by rw[vN];exact r))))
 | pbuf k i off tot e z xs fz p hk ht q=>cases g with | pbuf _ _ _ _ d=>exact .pbuf k i off tot e z xs fz p (get k _ d hk) ht q
 | sarr k n cs hk=>cases g with | sarr _ _ d=>exact .sarr (s:=s.cut H) k n cs (get k _ d hk)
 | nilM=>exact .nilM
 | map k kk es hk=>cases g with | map _ d=>exact .map (s:=s.cut H) k kk es (get k _ d hk)
 | fn f caps us hl q m=>cases g with | fn _ _ hx=>exact .fn f caps us hl (fun i c u a b=>m i c u a b (hx c (tn a)))
 | nilFn=>exact .nilFn
 | nilI=>exact .nilI
 | ifc t x=>exact .ifc t x
 | agg cs us hl h1 q m=>cases g with | agg _ hx=>exact .agg cs us hl h1 (fun i c u a b=>m i c u a b (hx c (tn a)))
 | tup vs us hl q m=>cases g with | tup _ hx=>exact .tup vs us hl (fun i c u a b=>m i c u a b (hx c (tn a)))
def ClB(n:Nat):B->Prop
 | .cells cs=>∀c∈cs,Cl n c
 | .map _ es=>∀p∈es,Cl n p.1/\Cl n p.2
 | .buf _ _ xs _=>∀x∈xs,∀c∈x.cells,Cl n c
theorem Good.cl(q:Good s):∀bl∈s.H,ClB s.H.length bl:=fun bl hb=>by
 obtain⟨k,hk⟩:=List.mem_iff_getElem?.1 hb;have h:=q.blk k bl hk
 cases bl with
 | cells cs=>obtain⟨_,vs,t,_,d,f⟩:=h;exact lu d (fun i c u a b=>(f i c u a b).cl)
 | map kk es =>
  obtain⟨_,ms,t,_,d,f⟩:=h;intro p hp;obtain⟨i,hi⟩:=List.mem_iff_getElem?.1 hp;have hl:=aB hi;have:=f i p ms[i] hi ζ;exact⟨this.1.cl,this.2.cl⟩
 | buf e z xs fz =>
  obtain⟨vs,h2,d,f,w,v,n⟩:=h;intro x hx c o;obtain⟨i,hi⟩:=List.mem_iff_getElem?.1 hx;obtain⟨j,m⟩:=List.mem_iff_getElem?.1 o;have r:=aB hi;have l:=aB m;rw[(v x hx).1]at l
  have g:i*z+j<vs.size:=by
   rw[d];have:(i+1)*z<=s.κ k*z:=uI z ω;rw[uR]at this;omega
  exact(n i x j c vs[i*z+j] hi m (by simp[g])).cl
def cut_good2{H G:List B}(o:Good s)(g:s.H=H++G)(hb:∀bl∈H,ClB H.length bl):Good (s.cut H):=by
 refine⟨o.fl,fun k hk=>o.lt k (jX g hk),fun j k w hk=>o.inj j k (jX g w) (jX g hk),fun k bl hk=>?_⟩;have h:H[k]?=some bl:=hk
 have hs:s.H[k]?=some bl:=by rw[g,tu (aB h)];exact h
 have hr:=o.blk k bl hs;have f:=hb bl (tn h)
 cases bl with
 | cells cs =>
  obtain⟨h1,vs,t,h2,n,l⟩:=hr;exact⟨h1,vs,t,h2,n,fun i c u a b=>(l i c u a b).cut g (f c (tn a))⟩
 | map kk es =>
  obtain⟨h1,ms,cl,h2,n,l⟩:=hr;exact⟨h1,ms,cl,h2,n,fun i p m a b=>⟨(l i p m a b).1.cut g (f p (tn a)).1,(l i p m a b).2.cut g (f p (tn a)).2⟩⟩
 | buf e z xs fz =>
  obtain⟨vs,h2,n,l,r,v,q⟩:=hr;exact⟨vs,h2,n,l,r,v,fun i x j c u a b d=>(q i x j c u a b d).cut g (f x (tn a) c (tn b))⟩
def exL(f:V->Option V):List V->Option (List V)
 | []=>some []
 | x::r=>match f x with
  | some y=>match exL f r with
   | some ys=>some (y::ys)
   | none=>none
  | none=>none
theorem fR{f:V->Option V} : ∀{xs ys:List V},exL f xs=some ys->ys.length=xs.length/\∀(i:Nat) y,ys[i]?=some y->∃x,xs[i]?=some x/\f x=some y
 | [],ys,h=>by simp[exL]at h;subst h;exact⟨rfl,ζ⟩
 | x::r,ys,h=>by
  simp only[exL]at h;split at h
  .rename_i y a;split at h
   .rename_i b hr;cases h;obtain⟨h1,h2⟩:=fR hr;refine⟨by simp[h1],fun i c hi=>?_⟩
    cases i with
    | zero=>simp at hi;subst hi;exact⟨x,rfl,a⟩
    | succ i=>simpa using h2 i c (by simpa using hi)
   .cases h
  .cases h
def exV(H:List B)(n:Nat):Nat->V->Option V
 | 0,_=>none
 | d+1,v=>match v with
  | .undef=>none
  | .lst z full xs=>match exL (exV H n d) xs with
   | some ys=>some (.lst z full ys)
   | none=>none
  | .buf k off len tot=>if k<n then some v else match H[k]? with
   | some (.buf _ z xs _)=>if tot=xs.length/\off+len<=tot then(match exL (exV H n d) ((xs.drop off).take len) with
    | some ys=>some (.lst z false ys)
    | none=>none) else none
   | _=>none
  | .ptr k _=>if k<n then some v else none
  | .pbuf k _ _ _=>if k<n then some v else none
  | .map k=>if k<n then some v else none
  | .sarr k _=>if k<n then some v else none
  | .pin cs off=>match exL (exV H n d) cs with
   | some ds=>some (.pin ds off)
   | none=>none
  | .fn f caps=>match exL (exV H n d) caps with
   | some ds=>some (.fn f ds)
   | none=>none
  | .agg cs=>match exL (exV H n d) cs with
   | some ds=>some (.agg ds)
   | none=>none
  | .tup cs=>match exL (exV H n d) cs with
   | some ds=>some (.tup ds)
   | none=>none
  | _=>some v
def exV_one{H:List B}{n d:Nat}{v v':V}(h:exV H n d v=some v'):v'.one=v.one:=by
 cases d with
 | zero=>simp[exV]at h
 | succ d =>
  cases v<;>simp only[exV]at h<;>first | (cases h;rfl) | (cases h;done) | (split at h<;>first | (cases h;rfl) | (cases h;done) | skip)
  all_goals (repeat' (split at h))<;>first | (cases h;rfl) | (cases h;done) | skip
def exV_cells{H:List B}{n d:Nat}{v v':V}(h:exV H n d v=some v'):∃a,a<=d/\exL (exV H n a) v.cells=some v'.cells:=by
 have h0:=h
 cases d with
 | zero=>simp[exV]at h
 | succ d =>
  cases v<;>simp only[exV]at h
  case undef=>cases h
  case agg cs =>
   split at h
   .rename_i ds b;cases h;exact⟨d,ω,b⟩
   .cases h
  all_goals
   refine⟨d+1,uA _,?_⟩
   have hv:v'.cells=[v']:=by
    first
    | (cases h;rfl)
    | ((split at h<;>first | (cases h;rfl) | (cases h;done) | skip);all_goals (repeat' (split at h))<;>first | (cases h;rfl) | (cases h;done) | skip)
   rw[hv];simp only[V.cells,exL];rw[h0]
def ex_rel{H G:List B}(Q:Good s)(T:s.H=H++G)(d:Nat):∀(v v':V) (u:Value),Rel s v u->exV s.H H.length d v=some v'->Rel (s.cut H) v' u:=by
 induction d using xG with
 | _ d ih =>
  intro v v' u hr h;have h0:=h
  have get:∀k bl,k<H.length->s.H[k]?=some bl->(s.cut H).H[k]?=some bl:=fun k bl hk hb=>by rw[T,tu hk]at hb;exact hb
  have new:∀k,Lv s k->¬k<H.length->(s.cut H).Prot (s.φ k):=fun k hk hn=>by
   refine⟨(Q.lt k hk).1,(Q.lt k hk).2,fun j q e=>?_⟩;have an:j<H.length:=q.1;have:=Q.inj j k (jX T q) hk e;omega
  have g:∀{J:Nat} {xs ys:List V},J<d->exL (exV s.H H.length J) xs=some ys->∀(i:Nat) y (j:Nat) c',ys[i]?=some y->y.cells[j]?=some c' ->
    ∃x c,xs[i]?=some x/\x.cells[j]?=some c/\y.cells.length=x.cells.length/\∀u,Rel s c u->Rel (s.cut H) c' u:=fun {J xs ys} L hx i y j c' hi q=>by
   obtain⟨x,E,D⟩:=(fR hx).2 i y hi;obtain⟨d2,Z,M⟩:=exV_cells D;obtain⟨c,O,P⟩:=(fR M).2 j c' q;exact⟨x,c,E,O,(fR M).1,fun u hu=>ih d2 ω c c' u hu P⟩
  have N:∀{J:Nat} {xs ys:List V},exL (exV s.H H.length J) xs=some ys->∀z,(∀x∈xs,x.cells.length=z/\∀c∈x.cells,c.one=true)->∀y∈ys,y.cells.length=z/\∀c∈y.cells,c.one=true:=fun {J xs ys} hx z hz y I=>by
   obtain⟨i,hi⟩:=List.mem_iff_getElem?.1 I;obtain⟨x,E,D⟩:=(fR hx).2 i y hi;obtain⟨d2,Z,M⟩:=exV_cells D;have:=hz x (tn E);refine⟨by rw[(fR M).1];exact this.1,fun c al=>?_⟩;obtain⟨j,q⟩:=List.mem_iff_getElem?.1 al;obtain⟨c0,O,P⟩:=(fR M).2 j c q;rw[exV_one P];exact this.2 c0 (tn O)
  have F:∀{J:Nat} {cs ds:List V},J<d->exL (exV s.H H.length J) cs=some ds->ds.length=cs.length/\((∀c∈cs,c.one=true)->∀c∈ds,c.one=true)/\∀(i:Nat) c',ds[i]?=some c'->∃c,cs[i]?=some c/\∀u,Rel s c u->Rel (s.cut H) c' u:=fun {J cs ds} L hx=>by
   refine⟨(fR hx).1,fun h1 c M=>?_,fun i c' hi=>?_⟩
   .obtain⟨i,hi⟩:=List.mem_iff_getElem?.1 M;obtain⟨x,E,D⟩:=(fR hx).2 i c hi;rw[exV_one D];exact h1 x (tn E)
   .obtain⟨x,E,D⟩:=(fR hx).2 i c' hi;exact⟨x,E,fun u hu=>ih J L x c' u hu D⟩
  cases d with
  | zero=>simp[exV]at h
  | succ d =>
   cases hr with
   | undef u=>simp[exV]at h
   | bool b=>cases h;exact .bool b
   | int k n=>cases h;exact .int k n
   | str x=>cases h;exact .str x
   | nilS=>cases h;exact .nilS
   | nilP=>cases h;exact .nilP
   | nilM=>cases h;exact .nilM
   | nilFn=>cases h;exact .nilFn
   | nilI=>cases h;exact .nilI
   | ifc t x=>cases h;exact .ifc t x
   | lst z full xs A cap b off u hcap hfull hA hz hcell hrel =>
    simp only[exV]at h;split at h
    .rename_i ys I;cases h;have hl:=(fR I).1;rw[<-hl];refine .lst z full ys A cap b off u ω (fun hf=>by rw[hfull hf,hl]) (fun h0=>⟨(hA ω).1,iy T (hA ω).2⟩) (N I z hz) (fun i y j c' hi q=>?_) (fun i y j c' hi q=>?_)
     .obtain⟨x,c,r,C,_,_⟩:=g (wK d) I i y j c' hi q;exact hcell i x j c r C
     .obtain⟨x,c,r,C,_,U⟩:=g (wK d) I i y j c' hi q;exact U _ (hrel i x j c r C)
    .cases h
   | buf k off len tot e z xs fz A l c hk ht K =>
    simp only[exV]at h;split at h
    .rename_i a;cases h;exact .buf k off len tot e z xs fz A l c (get k _ a hk) ht K
    .rename_i a;rw[hk]at h;simp only at h;split at h
     .rename_i M;split at h
      .rename_i ys I;cases h;obtain⟨hA,rfl,hcap,_⟩:=K M.1;obtain⟨vs,g2,g3,g4,g5,g6,g7⟩:=Q.blk k _ hk
       have ad:((xs.drop off).take l).length=l:=by simp;omega
       by_cases W:l=0
       .subst W;rw[xO]at I;cases I;exact dq z false A c (fun h=>by cases h)
       have R:s.κ k≠0:=by omega
       have hA:=hA R;subst hA;have X:=lvB hk R
       have S:∀i x,((xs.drop off).take l)[i]?=some x->xs[off+i]?=some x:=fun i x hi=>by
        have:=aB hi;rw[uz,if_pos ω,vN]at hi;exact hi
       have Y:ys.length=l:=by rw[(fR I).1,ad]
       have:=Rel.lst (s:=s.cut H) z false ys (some ⟨s.φ k,off*z,none⟩) c (s.φ k) (off*z) (fun i j=>(s.w.cell? ⟨s.φ k,off*z+i*z+j,none⟩).getD Go.undef) ω ζ (fun _=>⟨rfl,new k X a⟩)
        (N I z (fun x hx=>g6 x (vF (uh hx))))
        (fun i y j c' hi q=>by
         obtain⟨x,c0,r,C,_,_⟩:=g (wK d) I i y j c' hi q;obtain⟨_,_,h3⟩:=je Q hk (S i x r);obtain⟨u,hu,_⟩:=h3 j c0 C;rw[uR]at hu;show s.w.cell? _=_
         rw[hu];rfl)
        (fun i y j c' hi q=>by
         obtain⟨x,c0,r,C,_,U⟩:=g (wK d) I i y j c' hi q;obtain⟨_,_,h3⟩:=je Q hk (S i x r);obtain⟨u,hu,hr⟩:=h3 j c0 C;rw[uR]at hu;rw[hu]
         exact U _ hr)
       rwa [Y]at this
      .cases h
     .cases h
   | ptr k off cs hk =>
    simp only[exV]at h;split at h
    .rename_i a;cases h;exact .ptr (s:=s.cut H) k off cs (get k _ a hk)
    .cases h
   | pbuf k i off tot e z xs fz p hk ht K =>
    simp only[exV]at h;split at h
    .rename_i a;cases h;exact .pbuf k i off tot e z xs fz p (get k _ a hk) ht K
    .cases h
   | sarr k m cs hk =>
    simp only[exV]at h;split at h
    .rename_i a;cases h;exact .sarr (s:=s.cut H) k m cs (get k _ a hk)
    .cases h
   | map k kk es hk =>
    simp only[exV]at h;split at h
    .rename_i a;cases h;exact .map (s:=s.cut H) k kk es (get k _ a hk)
    .cases h
   | pin cs off b o u hp h1 hcell hrel =>
    simp only[exV]at h;split at h
    .rename_i ds L;cases h;obtain⟨f1,f2,f3⟩:=F (wK d) L;refine .pin ds off b o u (iy T hp) (f2 h1) (fun j c' q=>?_) (fun j c' q=>?_)
     .obtain⟨c,r,C⟩:=f3 _ c' q;exact hcell j c r
     .obtain⟨c,r,C⟩:=f3 _ c' q;exact C _ (hrel j c r)
    .cases h
   | fn f caps us hl K =>
    simp only[exV]at h;split at h
    .rename_i ds L;cases h;obtain⟨f1,f2,f3⟩:=F (wK d) L;refine .fn f ds us ω (fun i c' u hi hu=>?_);obtain⟨c,r,C⟩:=f3 _ c' hi;exact C _ (K i c u r hu)
    .cases h
   | agg cs us hl h1 K =>
    simp only[exV]at h;split at h
    .rename_i ds L;cases h;obtain⟨f1,f2,f3⟩:=F (wK d) L;refine .agg ds us ω (f2 h1) (fun i c' u hi hu=>?_);obtain⟨c,r,C⟩:=f3 _ c' hi;exact C _ (K i c u r hu)
    .cases h
   | tup cs us hl K =>
    simp only[exV]at h;split at h
    .rename_i ds L;cases h;obtain⟨f1,f2,f3⟩:=F (wK d) L;refine .tup ds us ω (fun i c' u hi hu=>?_);obtain⟨c,r,C⟩:=f3 _ c' hi;exact C _ (K i c u r hu)
    .cases h
def pW{f:FuncId}{args:List V}{H G:List B}{r b:V}{d:Nat}(h:ak P f args H fun x y=>x=r/\y=H++G)(he:exV (H++G) H.length d r=some b):ak P f args H fun x y=>x=b/\y=H:=by
 refine⟨h.1,fun s vals hA i g hrel=>?_⟩;have j:=hA.1
 refine(h.2 s vals hA i g hrel).mono fun e m ⟨u,s',x,a1,k,a3,a4,a5,l,a⟩=>?_
 subst l
 have c:∀bl∈H,ClB H.length bl:=by have:=i.cl;rw[j]at this;exact this
 refine⟨u,s'.cut H,b,a1,k,cut_good2 a3 a c,?_,?_,rfl,rfl⟩
 .exact oN a3 a (Step.refl (s'.cut H)) s a4 (by rw[j];exact uA _)
 .exact ex_rel a3 a d x b u a5 (by rw[a];exact he)
end
end Go.AM
namespace Go.AM
open Go
abbrev cy:=V->List V->List B->Option (V×List B)
def oH(a:cy)(T:Ty)(ops:Array Oper):List Oper->List V->List B->Option (List V×List B)
 | [],fr,H=>some (fr,H)
 | o::rest,fr,H=>match bU ops fr o with
  | some true=>match bF o.op with
   | some (f,args)=>match a (aO fr f) (args.map (aO fr)) H with
    | some (r,H')=>oH a T ops rest (bL fr o.dst r) H'
    | none=>none
   | none=>match aop T o.op (aO fr) H with
    | some (v,H')=>oH a T ops rest (bL fr o.dst v) H'
    | none=>none
  | some false=>oH a T ops rest (bL fr o.dst (.tup [])) H
  | none=>none
def rj(a:cy)(b:V)(args:List V)(H:List B):Option V :=
 match a b args H with
 | some (r,H')=>if eqH (H'.take H.length) H then exV H' H.length 40 r else none
 | none=>none
def cR:Go.Op->Bool
 | .alloc _ | .box .. | .store .. | .makeMap .. | .makeSlice .. | .mapUpdate .. | .insert ..=>false
 | .call c=>match c.callee with
  | .builtin .append=>false
  | .builtin .copy=>false
  | .builtin .clear=>false
  | _=>true
 | _=>true
def allB(p:Nat->Bool):List Nat->Bool
 | []=>true
 | c::l=>p c&&allB p l
structure DRes where
 vs:List V
 cv:List (V×List B)
 E:List Nat
 hs:List (List B)
 fr:List V
def evD(own:Bool)(a:cy)(T:Ty)(ops:Array Oper):List Oper->Nat->List V->List B->Option DRes
 | [],_,fr,_=>some ⟨[],[],[],[],fr⟩
 | o::b,i,fr,H=>match bU ops fr o with
  | some true=>match bF o.op with
   | some (f,args)=>if own then(match a (aO fr f) (args.map (aO fr)) H with
     | some (r,H')=>if eqH H' H then(match evD own a T ops b (i+1) (bL fr o.dst r) H with
       | some d=>some ⟨r::d.vs,(r,[])::d.cv,d.E,d.hs,d.fr⟩
       | none=>none)
      else(match evD own a T ops b (i+1) (bL fr o.dst r) H' with
       | some d=>some ⟨r::d.vs,(r,H')::d.cv,i::d.E,H'::d.hs,d.fr⟩
       | none=>none)
     | none=>none)
    else(match rj a (aO fr f) (args.map (aO fr)) H with
     | some r=>match evD own a T ops b (i+1) (bL fr o.dst r) H with
      | some d=>some ⟨r::d.vs,(r,[])::d.cv,d.E,d.hs,d.fr⟩
      | none=>none
     | none=>none)
   | none=>match aop T o.op (aO fr) H with
    | some (v,H')=>if cR o.op then(match evD own a T ops b (i+1) (bL fr o.dst v) H with
      | some d=>some ⟨v::d.vs,d.cv,d.E,d.hs,d.fr⟩
      | none=>none)
     else(match evD own a T ops b (i+1) (bL fr o.dst v) H' with
      | some d=>some ⟨v::d.vs,d.cv,i::d.E,H'::d.hs,d.fr⟩
      | none=>none)
    | none=>none
  | some false=>match evD own a T ops b (i+1) (bL fr o.dst (.tup [])) H with
   | some d=>some ⟨.tup []::d.vs,d.cv,d.E,d.hs,d.fr⟩
   | none=>none
  | none=>none
def oblX(a:cy)(T:Ty)(ops:Array Oper)(ms E:List Nat)(Hs:Nat->List B):List Oper->Nat->Nat->List V->List V->Bool
 | [],_,_,_,_=>true
 | _::_,_,_,_,[]=>false
 | o::rest,i,c,fr,v::vs =>
  if E.contains i then oblX a T ops ms E Hs rest (i+1) (c+1) (bL fr o.dst v) vs
  else(match bU ops fr o with
   | some true=>allB (fun c'=>if c'=c then true else if kL ms E i c' then(match bF o.op with
     | some (f,args)=>(match rj a (aO fr f) (args.map (aO fr)) (Hs c') with
      | some r=>eqV 40 r v
      | none=>false)
     | none=>(match aop T o.op (aO fr) (Hs c') with
      | some (v',_)=>eqV 40 v' v&&cR o.op
      | none=>false)) else true) (tr (E.length+1))
   | _=>true)&&oblX a T ops ms E Hs rest (i+1) c (bL fr o.dst v) vs
def stat1(ops:Array Oper):Bool :=
 (tr ops.size).all fun j=>match ops[j]? with
  | none=>true
  | some a=>a.after.toList.all (fun e=>!Region.binds .any e||decide (e.on<j)) &&
   (dS ops a).all (fun t=>(tr ops.size).all fun i=>match ops[i]? with
    | none=>true
    | some b=>!(b.dst == some t)||i == j||(decide (i<j)&&bef (aN [] ops.toList) i j)||(decide (j<i)&&bef (aN [] ops.toList) j i))
def stat2(ops:Array Oper)(E:List Nat):Bool:=(qb E&&E.all fun e=>decide (e<ops.size))&&E.all fun j=>E.all fun i=>!decide (i<j)||bef (aN [] ops.toList) i j
def stat_ok{ops:Array Oper}{E:List Nat}(h1:stat1 ops=true)(h2:stat2 ops E=true):iQ ops E=true:=by
 unfold stat1 at h1;unfold stat2 at h2;unfold iQ;simp only[tt]at h2 ⊢;refine⟨h2.1,?_⟩;rw[uZ]at h1 ⊢;intro j e;have:=h1 j e;split at this
 .rename_i hn;first | rw[hn] | rfl
 .rename_i f ho
  try rw[ho]
  try simp only
  rw[tt];refine⟨this,?_⟩;rw[vA];by_cases c:E.contains j=true
  .right;rw[uZ];intro i hi;rw[vA];by_cases b:E.contains i=true
   .right;have d:=List.all_eq_true.1 h2.2 j (List.contains_iff_mem.1 c);have a:=List.all_eq_true.1 d i (List.contains_iff_mem.1 b);rw[vA]at a
    rcases a with a | a
    .have:i<j:=by simpa using hi
     simp[this]at a
    .exact a
   .left;simpa using b
  .left;simpa using c
def lV(own:Bool)(a:cy)(T:Ty)(ops:Array Oper)(fr:List V)(H:List B):Option (List V×List B):=
 match evD own a T ops ops.toList 0 fr H with
 | some d=>if stat1 ops&&stat2 ops d.E&&(d.E.isEmpty||oblX a T ops (aN [] ops.toList) d.E (fun c=>(H::d.hs)[c]?.getD []) ops.toList 0 0 fr d.vs) then some (d.fr,(H::d.hs)[d.E.length]?.getD []) else none
 | none=>none
def isEff(o:Oper):Bool:=(bF o.op).isSome||!cR o.op
def chain(ms:List Nat)(ops:Array Oper):Bool :=
 let es:=(tr ops.size).filter fun i=>match ops[i]? with
  | some o=>isEff o
  | none=>false
 es.all fun i=>es.all fun j=>!decide (i<j)||bef ms i j
def evDraw(a:cy)(T:Ty)(ops:Array Oper)(fr:List V)(H:List B):Option (List V×List B):=
 if chain (aN [] ops.toList) ops then
  (match lV true a T ops fr H with
  | some r=>some r
  | none=>lV false a T ops fr H)
 else(match lV false a T ops fr H with
  | some r=>some r
  | none=>lV true a T ops fr H)
def jV(f:List V->List B->Option (Exit×List V×List B)):Nat->List V->List B->Option (Exit×List V×List B)
 | 0,_,_=>none
 | n+1,fr,H=>match f fr H with
  | some (.normal,a,H')=>jV f n a H'
  | r=>r
def bE(d:cy)(T:Ty)(fuel:Nat):Code->List V->List B->Option (Exit×List V×List B)
 | .skip,fr,H=>some (.normal,fr,H)
 | .region _ ops false,fr,H=>match oH d T ops ops.toList fr H with
  | some (e,H')=>some (.normal,e,H')
  | none=>none
 | .region _ ops true,fr,H=>match evDraw d T ops fr H with
  | some (e,H')=>some (.normal,e,H')
  | none=>none
 | .seq a b,fr,H=>match bE d T fuel a fr H with
  | some (.normal,e,H')=>bE d T fuel b e H'
  | r=>r
 | .cond c a b,fr,H=>match aO fr c with
  | .bool true=>bE d T fuel a fr H
  | .bool false=>bE d T fuel b fr H
  | _=>none
 | .block id c,fr,H=>match bE d T fuel c fr H with
  | some (.exit id',e,H')=>if id'=id then some (.normal,e,H') else some (.exit id',e,H')
  | r=>r
 | .loop c,fr,H=>jV (bE d T fuel c) fuel fr H
 | .exit id,fr,H=>some (.exit id,fr,H)
 | .ret,fr,H=>some (.ret,fr,H)
 | _,_,_=>none
def evFun(P:Program)(T:Ty)(fuel:Nat)(a:cy)(f:FuncId)(args:List V)(H:List B):Option (V×List B):=
 match P.funcs[f]? with
 | some fn=>match fn.body with
  | some c=>match bE a T fuel c (args++tg (fn.ntmps-args.length) (.tup [])) H with
   | some (.normal,fr,H') | some (.ret,fr,H')=>match dJ T fr H' fn.results.toList with
    | some vs=>some (pm vs,H')
    | none=>none
   | _=>none
  | none=>none
 | none=>none
abbrev bC:=FuncId->List V->List B->Option (V×List B)
def sh(P:Program)(T:Ty)(ext:bC)(fuel:Nat):Nat->cy
 | 0,_,_,_=>none
 | d+1,a,args,H=>match a with
  | .fn f caps=>match ext f (args++caps) H with
   | some r=>some r
   | none=>evFun P T fuel (sh P T ext fuel d) f (args++caps) H
  | _=>none
section
variable {P:Program} {T:Ty}
def ib(P:Program)(a:cy):Prop:=∀b args H r H',a b args H=some (r,H')->aM P b args H fun x y=>x=r/\y=H'
def pcall_ok{b:cy}(f:ib P b){e:V}{args:List V}{H:List B}{r:V}(h:rj b e args H=some r):aM P e args H fun x y=>x=r/\y=H:=by
 unfold rj at h;split at h
 .rename_i r0 H' c;split at h
  .rename_i he;have d:=f _ _ _ _ _ c;have ht:=eqH_eq he
   have a:H'=H++H'.drop H.length:=by
    conv=>lhs;rw[<-vT H.length H']
    rw[ht]
   cases e<;>simp only[aM]at d ⊢;rw[a]at d h;exact pW d h
  .cases h
 .cases h
theorem oG{c:cy}(d:ib P c){ops:Array Oper}{K:List V->List B->Prop} : ∀{l:List Oper} {fr:List V} {H:List B} {b:List V} {H':List B},oH c T ops l fr H=some (b,H')->K b H'->jy T ops (aM P) K l fr H
 | [],fr,H,b,H',h,hk=>by simp only[oH,Option.some.injEq,Prod.mk.injEq]at h;obtain⟨rfl,rfl⟩:=h;exact hk
 | o::rest,fr,H,b,H',h,hk=>by
  simp only[oH]at h;simp only[jy];split at h
  .rename_i e
   try rw[e]
   try simp only
   split at h
   .rename_i f args a
    try rw[a]
    try simp only
    split at h
    .rename_i r i he
     exact(d _ _ _ _ _ he).mono fun x y ⟨j,g⟩=>by subst j;subst g;exact oG d h hk
    .cases h
   .rename_i a
    try rw[a]
    try simp only
    split at h
    .rename_i v i he
     try rw[he]
     exact oG d h hk
    .cases h
  .rename_i e
   try rw[e]
   exact oG d h hk
  .cases h
def mP{o:Go.Op}{ρ:Operand->V}{H H':List B}{v:V}(hs:cR o=true)(h:aop T o ρ H=some (v,H')):H'=H:=by
 cases o<;>simp only[cR,uM]at hs<;>simp only[aop]at h<;>try (cases h;done)
 all_goals first
  | (cases h;rfl)
  | (exact(bD h).2.symm)
  | skip
 .split at h<;>cases h;rfl
 .split at h<;>first | (cases h;rfl) | (cases h;done)
 .split at h
  .cases h;rfl
  .exact(bD h).2.symm
 .split at h
  .exact(bD h).2.symm
  .cases h
 .split at h
  .split at h<;>cases h;rfl
  .cases h
 .split at h
  .exact(bD h).2.symm
  .cases h
 .rename_i c;split at h
  .rename_i b hb;rw[hb]at hs;unfold oU at h;split at h
   .exact(bD h).2.symm
   .simp at hs
   .simp at hs
   .simp at hs
   .exact(bD h).2.symm
   .exact(bD h).2.symm
   .cases h
  .cases h
theorem allB_ok{p:Nat->Bool}{q:Nat->Prop}(h:∀c,p c=true->q c):∀{l:List Nat},allB p l=true->gC q l
 | [],_=>trivial
 | c::l,hl=>by
  simp only[allB,tt]at hl;exact⟨h c hl.1,allB_ok h hl.2⟩
theorem allC_mono{p q:Nat->Prop}(h:∀c,p c->q c):∀{l:List Nat},gC p l->gC q l
 | [],_=>trivial
 | c::_,hl=>⟨h c hl.1,allC_mono h hl.2⟩
theorem po{C:V->List V->List B->(V->List B->Prop)->Prop}(j:∀m args H K',aM P m args H K'->C m args H K'){ops:Array Oper}{ms E:List Nat}{Hs:Nat->List B} : ∀(l:List Oper) (i:Nat) (fr vs:List V),dg T ops (aM P) ms E Hs l i fr vs->dg T ops C ms E Hs l i fr vs
 | [],_,_,_,_=>trivial
 | _::_,_,_,[],h=>h
 | o::e,i,fr,v::vs,h=>by
  obtain⟨h1,h2⟩:=h;refine⟨?_,po j e (i+1) _ vs h2⟩
  cases k:bU ops fr o with
  | none=>rw[k]at h1;exact h1
  | some b =>
   rw[k]at h1;cases b
   .exact h1
   .simp only at h1 ⊢
    cases a:bF o.op with
    | none=>rw[a]at h1;exact h1
    | some p =>
     obtain⟨f,args⟩:=p;rw[a]at h1;simp only at h1 ⊢;split
     .rename_i g;rw[if_pos g]at h1;exact j _ _ _ _ h1
     .rename_i g;rw[if_neg g]at h1;refine allC_mono (fun c hp=>?_) h1;split
      .rename_i d;rw[if_pos d]at hp;exact j _ _ _ _ hp
      .trivial
theorem evD_lt{own:Bool}{j:cy}{ops:Array Oper} : ∀(l:List Oper) (i:Nat) (fr:List V) (H:List B) (d:DRes),evD own j T ops l i fr H=some d->d.hs.length=d.E.length/\d.vs.length=l.length/\∀e∈d.E,i<=e
 | [],i,fr,H,d,h=>by simp only[evD,Option.some.injEq]at h;subst h;simp
 | o::f,i,fr,H,d,h=>by
  have keep:∀{k:List V} {H':List B} {c:DRes},evD own j T ops f (i+1) k H'=some c->c.hs.length=c.E.length/\c.vs.length=f.length/\∀e∈c.E,i<=e:=fun {k H' c} h'=>by
   obtain⟨k1,b,a⟩:=evD_lt f (i+1) _ _ _ h';exact⟨k1,b,fun e he=>by have:=a e he;omega⟩
  simp only[evD]at h;split at h
  .split at h
   .split at h
    .split at h
     .split at h
      .split at h
       .rename_i c g;cases h;obtain⟨k1,b,a⟩:=keep g;exact⟨k1,by simp[b],a⟩
       .cases h
      .split at h
       .rename_i c g;cases h;obtain⟨k1,b,a⟩:=keep g;exact⟨by simp[k1],by simp[b],fun e he=>by simp at he;rcases he with rfl | he;exact uA _;exact a e he⟩
       .cases h
     .cases h
    .split at h
     .split at h
      .rename_i c g;cases h;obtain⟨k1,b,a⟩:=keep g;exact⟨k1,by simp[b],a⟩
      .cases h
     .cases h
   .split at h
    .split at h
     .split at h
      .rename_i c g;cases h;obtain⟨k1,b,a⟩:=keep g;exact⟨k1,by simp[b],a⟩
      .cases h
     .split at h
      .rename_i c g;cases h;obtain⟨k1,b,a⟩:=keep g;exact⟨by simp[k1],by simp[b],fun e he=>by simp at he;rcases he with rfl | he;exact uA _;exact a e he⟩
      .cases h
    .cases h
  .split at h
   .rename_i c g;cases h;obtain⟨k1,b,a⟩:=keep g;exact⟨k1,by simp[b],a⟩
   .cases h
  .cases h
structure Now (E1:List Nat) (Hs1:List (List B)) (i:Nat) (H:List B):Prop where
 len:Hs1.length=E1.length+1
 cur:Hs1[E1.length]?=some H
 lt:∀e∈E1,e<i
theorem ml{b:cy}(F:ib P b){own:Bool}{ops:Array Oper}{ms:List Nat} : ∀(l:List Oper) (i:Nat) (fr:List V) (H:List B) (d:DRes),evD own b T ops l i fr H=some d->∀(E1:List Nat) (Hs1:List (List B)),Now E1 Hs1 i H ->
  (d.E=[]/\E1=[]\/oblX b T ops ms (E1++d.E) (fun c=>((Hs1++d.hs)[c]?).getD []) l i E1.length fr d.vs=true)->
  runT T ops (E1++d.E) l i fr H d.cv=some (d.vs,d.hs,d.fr)/\dg T ops (aM P) ms (E1++d.E) (fun c=>((Hs1++d.hs)[c]?).getD []) l i fr d.vs
 | [],i,fr,H,d,h,E1,Hs1,hn,_=>by simp only[evD,Option.some.injEq]at h;subst h;exact⟨rfl,trivial⟩
 | o::g,i,fr,H,d,h,E1,Hs1,hn,hx=>by
  have plain:∀{v:V} {j:DRes},evD own b T ops g (i+1) (bL fr o.dst v) H=some j->d.E=j.E->d.hs=j.hs->d.vs=v::j.vs ->
    Now E1 Hs1 (i+1) H/\(E1++d.E).contains i=false/\((fun c=>((Hs1++d.hs)[c]?).getD []) E1.length=H)/\(j.E=[]/\E1=[]\/oblX b T ops ms (E1++j.E) (fun c=>((Hs1++j.hs)[c]?).getD []) g (i+1) E1.length (bL fr o.dst v) j.vs=true)/\
    (j.E=[]/\E1=[]\/(match bU ops fr o with
     | some true=>allB (fun c'=>if c'=E1.length then true else if kL ms (E1++d.E) i c' then(match bF o.op with
      | some (f,args)=>(match rj b (aO fr f) (args.map (aO fr)) (((Hs1++d.hs)[c']?).getD []) with
       | some r=>eqV 40 r v
       | none=>false)
      | none=>(match aop T o.op (aO fr) (((Hs1++d.hs)[c']?).getD []) with
       | some (v',_)=>eqV 40 v' v&&cR o.op
       | none=>false)) else true) (tr ((E1++d.E).length+1))
     | _=>true)=true):=fun {v j} n D N e3=>by
   obtain⟨k1,X,W⟩:=evD_lt g (i+1) _ _ _ n
   have I:(E1++d.E).contains i=false:=by
    rw[xy];intro G;rw[wE,vG]at G
    rcases G with G | G
    .have:=hn.lt i G;omega
    .rw[D]at G;have:=W i G;omega
   refine⟨⟨hn.len,hn.cur,fun e he=>by have:=hn.lt e he;omega⟩,I,?_,?_,?_⟩
   .have:=hn.cur;simp only;rw[tu (by rw[hn.len];omega),this];rfl
   .rcases hx with⟨K,J⟩ | hx
    .exact .inl ⟨by rw[<-D];exact K,J⟩
    .right;rw[e3]at hx;simp only[oblX,I,uM,if_false,tt]at hx;rw[<-D,<-N];exact hx.2
   .rcases hx with⟨K,J⟩ | hx
    .exact .inl ⟨by rw[<-D];exact K,J⟩
    .right;rw[e3]at hx;simp only[oblX,I,uM,if_false,tt]at hx;exact hx.1
  have u:∀{v:V} {H':List B} {j:DRes},evD own b T ops g (i+1) (bL fr o.dst v) H'=some j->d.E=i::j.E->d.hs=H'::j.hs->d.vs=v::j.vs ->
    Now (E1++[i]) (Hs1++[H']) (i+1) H'/\(E1++d.E).contains i=true/\(E1++d.E).idxOf i=E1.length/\((fun c=>((Hs1++d.hs)[c]?).getD []) E1.length=H)/\((fun c=>((Hs1++d.hs)[c]?).getD []) (E1.length+1)=H')/\
    (j.E=[]/\E1++[i]=[]\/oblX b T ops ms (E1++[i]++j.E) (fun c=>((Hs1++[H']++j.hs)[c]?).getD []) g (i+1) (E1++[i]).length (bL fr o.dst v) j.vs=true):=fun {v H' j} n D N e3=>by
   have S:i∉E1:=fun G=>by have:=hn.lt i G;omega
   refine⟨⟨by simp[hn.len],by simp[hn.len],fun e he=>by simp at he;rcases he with he | rfl;have:=hn.lt e he;omega;omega⟩,?_,?_,?_,?_,?_⟩
   .rw[wE,D];simp
   .rw[D,List.idxOf_append,if_neg S];simp
   .have:=hn.cur;simp only;rw[tu (by rw[hn.len];omega),this];rfl
   .simp only;rw[N,uD (by rw[hn.len];omega),hn.len];simp
   .right
    rcases hx with⟨K,_⟩ | hx
    .rw[D]at K;cases K
    .rw[e3]at hx
     have L:(E1++d.E).contains i=true:=by rw[wE,D];simp
     simp only[oblX,L,if_true]at hx;rw[D,N]at hx;simpa using hx
  simp only[evD]at h;split at h
  .rename_i p;split at h
   .rename_i f args a;split at h
    .split at h
     .rename_i r H' hr;have s:=F _ _ _ _ _ hr;split at h
      .rename_i he;have he:=eqH_eq he;subst he;split at h
       .rename_i j n;cases h;obtain⟨n1,n2,m,n4,k⟩:=plain n rfl rfl rfl;obtain⟨a1,w⟩:=ml F g (i+1) _ _ _ n E1 Hs1 n1 n4;refine⟨by simp only[runT,p,a,n2,uM,if_false,a1],⟨?_,w⟩⟩;simp only[p,a,n2,uM,if_false];exact callAll hn m k p a s
       .cases h
      .split at h
       .rename_i j n;cases h;obtain⟨n1,n2,m,n4,k,Q⟩:=u n rfl rfl rfl;obtain⟨a1,w⟩:=ml F g (i+1) _ _ _ n _ _ n1 Q;simp only[uW,wX]at a1 w;refine⟨by simp only[runT,p,a,n2,if_true,a1],⟨?_,w⟩⟩;simp only[p,a,n2,if_true];simp only at n4 k;rw[m,n4,k];exact s
       .cases h
     .cases h
    .split at h
     .rename_i r hr;have s:=pcall_ok F hr;split at h
      .rename_i j n;cases h;obtain⟨n1,n2,m,n4,k⟩:=plain n rfl rfl rfl;obtain⟨a1,w⟩:=ml F g (i+1) _ _ _ n E1 Hs1 n1 n4;refine⟨by simp only[runT,p,a,n2,uM,if_false,a1],⟨?_,w⟩⟩;simp only[p,a,n2,uM,if_false];exact callAll hn m k p a s
      .cases h
     .cases h
   .rename_i a;split at h
    .rename_i v H' q;split at h
     .rename_i R;split at h
      .rename_i j n;cases h;obtain⟨n1,n2,m,n4,k⟩:=plain n rfl rfl rfl;obtain⟨a1,w⟩:=ml F g (i+1) _ _ _ n E1 Hs1 n1 n4;refine⟨by simp only[runT,p,a,q,n2,uM,if_false,a1],⟨?_,w⟩⟩;simp only[p,a,n2,uM,if_false];have U:=mP R q;subst U;exact opAll hn m k p a q
      .cases h
     .split at h
      .rename_i j n;cases h;obtain⟨n1,n2,m,n4,k,Q⟩:=u n rfl rfl rfl;obtain⟨a1,w⟩:=ml F g (i+1) _ _ _ n _ _ n1 Q;simp only[uW,wX]at a1 w;refine⟨by simp only[runT,p,a,q,n2,if_true,a1],⟨?_,w⟩⟩;simp only[p,a,n2,if_true];simp only at n4 k;rw[m,n4,k];exact q
      .cases h
    .cases h
  .rename_i p;split at h
   .rename_i j n;cases h;obtain⟨n1,n2,m,n4,k⟩:=plain n rfl rfl rfl;obtain⟨a1,w⟩:=ml F g (i+1) _ _ _ n E1 Hs1 n1 n4;refine⟨by simp only[runT,p,n2,uM,if_false,a1],⟨?_,w⟩⟩;simp only[p];exact⟨trivial,n2⟩
   .cases h
  .cases h
where
 range_one {E1:List Nat} {t:List Nat} (h:t=[]/\E1=[]):tr ((E1++t).length+1)=[0]:=by obtain⟨rfl,rfl⟩:=h;rfl
 callAll {b:cy} {ops:Array Oper} {ms:List Nat} {o:Oper} {i:Nat} {fr:List V} {H:List B} {E1 t:List Nat} {Hs1 z:List (List B)} {f:Operand} {args:List Operand} {r:V} (O:Now E1 Hs1 i H)
   (m:(fun c=>((Hs1++z)[c]?).getD []) E1.length=H)
   (k:t=[]/\E1=[]\/(match bU ops fr o with
     | some true=>allB (fun c'=>if c'=E1.length then true else if kL ms (E1++t) i c' then(match bF o.op with
      | some (f,args)=>(match rj b (aO fr f) (args.map (aO fr)) (((Hs1++z)[c']?).getD []) with
       | some M=>eqV 40 M r
       | none=>false)
      | none=>(match aop T o.op (aO fr) (((Hs1++z)[c']?).getD []) with
       | some (v',_)=>eqV 40 v' r&&cR o.op
       | none=>false)) else true) (tr ((E1++t).length+1))
     | _=>true)=true)
   (p:bU ops fr o=some true) (a:bF o.op=some (f,args)) (s:aM P (aO fr f) (args.map (aO fr)) H fun x y=>x=r/\y=H) (F:ib P b:=by assumption):
   gC (fun c=>if kL ms (E1++t) i c then aM P (aO fr f) (args.map (aO fr)) ((fun c=>((Hs1++z)[c]?).getD []) c) (fun x y=>x=r/\y=(fun c=>((Hs1++z)[c]?).getD []) c) else True) (tr ((E1++t).length+1)):=by
  rcases k with h0 | k
  .rw[range_one h0];obtain⟨_,rfl⟩:=h0;simp only[vm]at m;refine⟨?_,trivial⟩;show(if _ then _ else _);split
   .simp only;rw[m];exact s
   .trivial
  .rw[p]at k;simp only[a]at k;refine allB_ok (fun c hp=>?_) k;split
   .rename_i C;by_cases A:c=E1.length
    .subst A;simp only at m ⊢;rw[m];exact s
    .rw[if_neg A,if_pos C]at hp;split at hp
     .rename_i M hr;have:=eW _ _ _ hp;subst this;exact pcall_ok F hr
     .cases hp
   .trivial
 opAll {b:cy} {ops:Array Oper} {ms:List Nat} {o:Oper} {i:Nat} {fr:List V} {H:List B} {E1 t:List Nat} {Hs1 z:List (List B)} {r:V} (O:Now E1 Hs1 i H)
   (m:(fun c=>((Hs1++z)[c]?).getD []) E1.length=H)
   (k:t=[]/\E1=[]\/(match bU ops fr o with
     | some true=>allB (fun c'=>if c'=E1.length then true else if kL ms (E1++t) i c' then(match bF o.op with
      | some (f,args)=>(match rj b (aO fr f) (args.map (aO fr)) (((Hs1++z)[c']?).getD []) with
       | some M=>eqV 40 M r
       | none=>false)
      | none=>(match aop T o.op (aO fr) (((Hs1++z)[c']?).getD []) with
       | some (v',_)=>eqV 40 v' r&&cR o.op
       | none=>false)) else true) (tr ((E1++t).length+1))
     | _=>true)=true)
   (p:bU ops fr o=some true) (a:bF o.op=none) (q:aop T o.op (aO fr) H=some (r,H)):
   gC (fun c=>if kL ms (E1++t) i c then aop T o.op (aO fr) ((fun c=>((Hs1++z)[c]?).getD []) c)=some (r,(fun c=>((Hs1++z)[c]?).getD []) c) else True) (tr ((E1++t).length+1)):=by
  rcases k with h0 | k
  .rw[range_one h0];obtain⟨_,rfl⟩:=h0;simp only[vm]at m;refine⟨?_,trivial⟩;show(if _ then _ else _);split
   .simp only;rw[m];exact q
   .trivial
  .rw[p]at k;simp only[a]at k;refine allB_ok (fun c hp=>?_) k;split
   .rename_i C;by_cases A:c=E1.length
    .subst A;simp only at m ⊢;rw[m];exact q
    .rw[if_neg A,if_pos C]at hp;split at hp
     .rename_i v' H' ha;simp only[tt]at hp;have U:=mP hp.2 ha;rw[ha,eW _ _ _ hp.1,U]
     .cases hp
   .trivial
def jW(l:TOk P T)(hm:P.follows .mixedOrders=true){b:cy}(i:ib P b){id:Nat}{ops:Array Oper}{fr c:List V}{H H':List B}{own:Bool}(h:lV own b T ops fr H=some (c,H')){Q:Exit->List V->List B->Prop}(hq:Q .normal c H'):W P (.region id ops true) Q fr H:=by
 unfold lV at h;split at h
 .rename_i d f;split at h
  .rename_i hb;simp only[tt,vA,List.isEmpty_iff]at hb;cases h;obtain⟨k1,n,_⟩:=evD_lt _ _ _ _ _ f
   obtain⟨a1,e⟩:=ml (ms:=aN [] ops.toList) i _ _ _ _ _ f [] [H] ⟨rfl,rfl,ζ⟩ (by
    rcases hb.2 with h | h
    .exact .inl ⟨h,rfl⟩
    .exact .inr h)
   intro s a h1 h2 g m;refine W_draw l hm d.E d.cv (fun C K k j=>?_) s a h1 h2 g m;unfold kz;simp only[uL,wX]at a1 e;rw[a1];exact⟨⟨stat_ok hb.1.1 hb.1.2,k1⟩,po k _ _ _ _ e,j _ _ hq⟩
  .cases h
 .cases h
def evDraw_ok(c:TOk P T)(hm:P.follows .mixedOrders=true){a:cy}(d:ib P a){id:Nat}{ops:Array Oper}{fr b:List V}{H H':List B}(h:evDraw a T ops fr H=some (b,H')){Q:Exit->List V->List B->Prop}(hq:Q .normal b H'):W P (.region id ops true) Q fr H:=by
 unfold evDraw at h;split at h
 .split at h
  .rename_i r hr;cases h;exact jW c hm d hr hq
  .exact jW c hm d h hq
 .split at h
  .rename_i r hr;cases h;exact jW c hm d hr hq
  .exact jW c hm d h hq
def evLoop_ok{c:Code}{f:List V->List B->Option (Exit×List V×List B)}(hf:∀fr H e a H',f fr H=some (e,a,H')->∀Q:Exit->List V->List B->Prop,Q e a H'->W P c Q fr H){n:Nat}{fr a:List V}{H H':List B}{e:Exit}(h:jV f n fr H=some (e,a,H')){Q:Exit->List V->List B->Prop}(hq:Q e a H'):W P (.loop c) Q fr H:=by
 refine W_loop (fun m g G=>jV f m g G=some (e,a,H')) (fun m g G hm=>?_) h
 cases m with
 | zero=>simp[jV]at hm
 | succ m =>
  simp only[jV]at hm;split at hm
  .rename_i i d he;exact hf _ _ _ _ _ he _ ⟨m,wK m,hm⟩
  .rename_i r b;refine hf _ _ _ _ _ hm _ ?_
   cases e with
   | normal=>exact absurd hm (b _ _)
   | _=>exact hq
theorem dM(i:TOk P T)(hm:P.follows .mixedOrders=true){j:cy}(f:ib P j){fuel:Nat} : ∀(c:Code) (fr:List V) (H:List B) (e:Exit) (d:List V) (H':List B),bE j T fuel c fr H=some (e,d,H')->∀Q:Exit->List V->List B->Prop,Q e d H'->W P c Q fr H
 | .skip,fr,H,e,d,H',h,Q,hq=>by simp only[bE]at h;cases h;exact W_skip hq
 | .region id ops false,fr,H,e,d,H',h,Q,hq=>by
  simp only[bE]at h;split at h
  .rename_i g G he;cases h;intro s a h1 h2 t z;refine W_region i (fun C K m u=>?_) s a h1 h2 t z;exact WOps_mono m _ _ _ (oG f he (u _ _ hq))
  .cases h
 | .region id ops true,fr,H,e,d,H',h,Q,hq=>by
  simp only[bE]at h;split at h
  .rename_i g G he;cases h;exact evDraw_ok i hm f he hq
  .cases h
 | .seq a b,fr,H,e,d,H',h,Q,hq=>by
  simp only[bE]at h;refine cu ?_;split at h
  .rename_i g G he;exact dM i hm f a fr H _ g G he _ (dM i hm f b g G e d H' h Q hq)
  .rename_i r k;refine dM i hm f a fr H _ d H' h _ ?_
   cases e with
   | normal=>exact absurd h (k _ _)
   | _=>exact hq
 | .cond o a b,fr,H,e,d,H',h,Q,hq=>by
  simp only[bE]at h;split at h
  .rename_i hb;exact W_cond (b:=true) hb (dM i hm f a fr H e d H' h Q hq)
  .rename_i hb;exact W_cond (b:=false) hb (dM i hm f b fr H e d H' h Q hq)
  .cases h
 | .block id c,fr,H,e,d,H',h,Q,hq=>by
  simp only[bE]at h;refine oc ?_;split at h
  .rename_i p g G he;refine dM i hm f c fr H _ g G he _ ?_;simp only[iW];split
   .rename_i hid;rw[if_pos hid]at h;cases h;exact hq
   .rename_i hid;rw[if_neg hid]at h;cases h;exact hq
  .rename_i r k;refine dM i hm f c fr H _ d H' h _ ?_
   cases e with
   | exit p=>exact absurd h (k _ _ _)
   | _=>exact hq
 | .loop c,fr,H,e,d,H',h,Q,hq=>by
  simp only[bE]at h;exact evLoop_ok (fun g G e' y v he w n=>dM i hm f c g G e' y v he w n) h hq
 | .exit id,fr,H,e,d,H',h,Q,hq=>by simp only[bE]at h;cases h;exact W_exit hq
 | .ret,fr,H,e,d,H',h,Q,hq=>by simp only[bE]at h;cases h;exact W_ret hq
 | .rangeFunc ..,fr,H,e,d,H',h,Q,hq=>by simp[bE]at h
 | .scope _,fr,H,e,d,H',h,Q,hq=>by simp[bE]at h
 | .label _,fr,H,e,d,H',h,Q,hq=>by simp[bE]at h
 | .goto _,fr,H,e,d,H',h,Q,hq=>by simp[bE]at h
 | .refuse _,fr,H,e,d,H',h,Q,hq=>by simp[bE]at h
where
 WOps_mono {C:V->List V->List B->(V->List B->Prop)->Prop} (m:∀q args H K',aM P q args H K'->C q args H K') {K:List V->List B->Prop} {ops:Array Oper} : ∀(l:List Oper) (fr:List V) (H:List B),jy T ops (aM P) K l fr H->jy T ops C K l fr H
  | [],_,_,h=>h
  | o::rest,fr,H,h=>by
   simp only[jy]at h ⊢;split at h
   .split at h
    .exact m _ _ _ _ (h.mono fun r H' x=>WOps_mono m rest _ _ x)
    .split at h
     .exact WOps_mono m rest _ _ h
     .exact h
   .exact WOps_mono m rest _ _ h
   .exact h
def evFun_ok(k:TOk P T)(hm:P.follows .mixedOrders=true)(hn:∀(f:Nat) (fn:Func),P.funcs[f]?=some fn->(fn.name == "runtime.NumGoroutine")=false){a:cy}(l:ib P a){fuel:Nat}{f:FuncId}{args:List V}{H H':List B}{r:V}(h:evFun P T fuel a f args H=some (r,H')):ak P f args H fun x y=>x=r/\y=H':=by
 unfold evFun at h;split at h
 .rename_i fn hf;split at h
  .rename_i c hb
   have i:∀{e:Exit} {fr:List V} {g:List B},(e = .normal\/e = .ret)->bE a T fuel c (args++tg (fn.ntmps-args.length) (.tup [])) H=some (e,fr,g)->(match dJ T fr g fn.results.toList with
     | some vs=>some (pm vs,g)
     | none=>none)=some (r,H')->ak P f args H fun x y=>x=r/\y=H':=fun {e fr g} he d b=>by
    refine aH k hf hb (hn f fn hf) ?_;refine dM k hm l c _ _ _ _ _ d _ ?_;split at b
    .rename_i vs j;cases b
     rcases he with rfl | rfl<;>simp[retQ,j]
    .cases b
   split at h
   .rename_i fr g d;exact i (.inl rfl) d h
   .rename_i fr g d;exact i (.inr rfl) d h
   .cases h
  .cases h
 .cases h
def aa(P:Program)(ext:bC):Prop:=∀f args H r H',ext f args H=some (r,H')->ak P f args H fun x y=>x=r/\y=H'
theorem evCall_ok(a:TOk P T)(hm:P.follows .mixedOrders=true)(hn:∀(f:Nat) (fn:Func),P.funcs[f]?=some fn->(fn.name == "runtime.NumGoroutine")=false){ext:bC}(he:aa P ext){fuel:Nat} : ∀d,ib P (sh P T ext fuel d)
 | 0=>fun b args H r H' h=>by simp[sh]at h
 | d+1=>fun b args H r H' h=>by
  simp only[sh]at h;split at h
  .rename_i f caps;split at h
   .rename_i c hr;cases h;exact he _ _ _ _ _ hr
   .exact evFun_ok a hm hn (evCall_ok a hm hn he d) h
  .cases h
def closed_con(b:TOk P T)(hm:P.follows .mixedOrders=true)(hn:∀(f:Nat) (fn:Func),P.funcs[f]?=some fn->(fn.name == "runtime.NumGoroutine")=false){ext:bC}(hx:aa P ext){fuel d:Nat}{f:FuncId}{args:List V}{r:V}{H':List B}(h:sh P T ext fuel d (.fn f []) args []=some (r,H')){a:V}(he:exV H' 0 40 r=some a)(hp:Pure a):aK P f args fun x=>x=a:=by
 have h1:=evCall_ok b hm hn hx d _ _ _ _ _ h;simp only[aM,uC]at h1;have h2:=pW (G:=H') (d:=40) h1 he;exact bM (h2.mono fun x y ⟨e,c⟩=>by subst e;subst c;exact⟨x,.pure x hp,hp,rfl⟩)
end
end Go.AM
namespace Go.AM
open Go
end Go.AM
namespace Go.AM
open Go
inductive FT where
 | nil
 | node (v:V) (l r:FT)
def FT.get:FT->Nat->V
 | .nil,_=>.undef
 | .node v l r,i=>cond (vB i 0) v (cond (vB (i % 2) 1) (l.get (i / 2)) (r.get (i / 2-1)))
def FT.set:FT->Nat->V->FT
 | .nil,_,_=>.nil
 | .node v l r,i,x=>cond (vB i 0) (.node x l r) (cond (vB (i % 2) 1) (.node v (l.set (i / 2) x) r) (.node v l (r.set (i / 2-1) x)))
def FT.has:FT->Nat->Bool
 | .nil,_=>false
 | .node _ l r,i=>cond (vB i 0) true (cond (vB (i % 2) 1) (l.has (i / 2)) (r.has (i / 2-1)))
def FT.full(v:V):Nat->FT
 | 0=>.nil
 | d+1=>.node v (FT.full v d) (FT.full v d)
theorem sQ(v:V):∀(d i:Nat),i+1<2^d->(FT.full v d).get i=v/\(FT.full v d).has i=true
 | 0,i,h=>by simp at h
 | d+1,i,h=>by
  have c:(FT.full v (d+1)).get i=cond (vB i 0) v (cond (vB (i % 2) 1) ((FT.full v d).get (i / 2)) ((FT.full v d).get (i / 2-1))):=rfl;have b:(FT.full v (d+1)).has i=cond (vB i 0) true (cond (vB (i % 2) 1) ((FT.full v d).has (i / 2)) ((FT.full v d).has (i / 2-1))):=rfl;rw[c,b];rw[xf]at h;cases h0:vB i 0
  .have hi:i≠0:=fun e=>by subst e;simp at h0
   cases h1:vB (i % 2) 1
   .have a:i % 2≠1:=fun e=>by rw[e]at h1;simp at h1
    exact sQ v d (i / 2-1) ω
   .have a:i % 2=1:=xD h1;exact sQ v d (i / 2) ω
  .exact⟨rfl,rfl⟩
theorem qv(x:V):∀(t:FT) (i j:Nat),t.has i=true->(t.set i x).get j=(if i=j then x else t.get j)/\(t.set i x).has j=t.has j
 | .nil,i,j,h=>by have:FT.has .nil i=false:=rfl;rw[this]at h;cases h
 | .node v l r,i,j,h=>by
  have e0:(FT.node v l r).has i=cond (vB i 0) true (cond (vB (i % 2) 1) (l.has (i / 2)) (r.has (i / 2-1))):=rfl;have n:(FT.node v l r).set i x=cond (vB i 0) (.node x l r) (cond (vB (i % 2) 1) (.node v (l.set (i / 2) x) r) (.node v l (r.set (i / 2-1) x))):=rfl
  have g:∀(v:V) (l r:FT) (j:Nat),(FT.node v l r).get j=cond (vB j 0) v (cond (vB (j % 2) 1) (l.get (j / 2)) (r.get (j / 2-1))):=fun _ _ _ _=>rfl
  have m:∀(v:V) (l r:FT) (j:Nat),(FT.node v l r).has j=cond (vB j 0) true (cond (vB (j % 2) 1) (l.has (j / 2)) (r.has (j / 2-1))):=fun _ _ _ _=>rfl
  have f:∀a b:Nat,vB a b=decide (a=b):=fun a b=>by
   cases hb:vB a b
   .exact(decide_eq_false (fun e=>by subst e;simp at hb)).symm
   .exact(decide_eq_true (xD hb)).symm
  rw[e0]at h;rw[n];simp only[f]at h ⊢;by_cases hi:i=0
  .subst hi;simp only[decide_true,cond_true,g,m,f];by_cases d:j=0
   .subst d;simp
   .simp[d,Ne.symm d]
  .simp only[hi,decide_false,cond_false]at h ⊢;by_cases h1:i % 2=1
   .simp only[h1,decide_true,cond_true]at h ⊢;simp only[g,m,f];by_cases d:j=0
    .subst d;simp[hi]
    .simp only[d,decide_false,cond_false];by_cases c:j % 2=1
     .obtain⟨k1,k⟩:=qv x l (i / 2) (j / 2) h;simp only[c,decide_true,cond_true,k1,k,and_true]
      have:(i / 2=j / 2)↔(i=j):=by omega
      simp[this]
     .simp only[c,decide_false,cond_false,and_true];rw[if_neg (fun e:i=j=>c (e▸h1))]
   .simp only[h1,decide_false,cond_false]at h ⊢;simp only[g,m,f];by_cases d:j=0
    .subst d;simp[hi]
    .simp only[d,decide_false,cond_false];by_cases c:j % 2=1
     .simp only[c,decide_true,cond_true,and_true];rw[if_neg (fun e:i=j=>h1 (e▸c))]
     .obtain⟨k1,k⟩:=qv x r (i / 2-1) (j / 2-1) h;simp only[c,decide_false,cond_false,k1,k,and_true]
      have:(i / 2-1=j / 2-1)↔(i=j):=by omega
      simp[this]
def mL(n:Nat)(t:FT):Operand->V
 | .tmp i=>cond (Nat.blt i n) (t.get i) .undef
 | .const v=>(kP v).getD .undef
 | .func f=>.fn f []
 | .global _=>.undef
def putT(n:Nat)(t:FT)(d:Option Tmp)(v:V):FT :=
 match d with
 | some i=>cond (Nat.blt i n) (t.set i v) t
 | none=>t
def wantT(n:Nat)(ops:Array Oper)(t:FT)(o:Oper):Option Bool :=
 match o.guard with
 | none=>some true
 | some (j,want)=>match ops[j]? with
  | some a=>match a.dst with
   | some d=>match mL n t (.tmp d) with
    | .bool b=>some (b == want)
    | .tup _=>some false
    | _=>none
   | none=>none
  | none=>none
def mj(n:Nat)(a:cy)(T:Ty)(ops:Array Oper):List Oper->FT->List B->Option (FT×List B)
 | [],fr,H=>some (fr,H)
 | o::rest,fr,H=>match wantT n ops fr o with
  | some true=>match bF o.op with
   | some (f,args)=>match a (mL n fr f) (args.map (mL n fr)) H with
    | some (r,H')=>mj n a T ops rest (putT n fr o.dst r) H'
    | none=>none
   | none=>match aop T o.op (mL n fr) H with
    | some (v,H')=>mj n a T ops rest (putT n fr o.dst v) H'
    | none=>none
  | some false=>mj n a T ops rest (putT n fr o.dst (.tup [])) H
  | none=>none
def toL(n:Nat)(t:FT):List V:=(tr n).map t.get
def nZ(t:FT):Nat->List V->FT
 | _,[]=>t
 | i,v::r=>nZ (t.set i v) (i+1) r
def ofL(d:Nat)(l:List V):FT:=nZ (FT.full (.tup []) d) 0 l
structure FR (n:Nat) (t:FT) (fr:List V):Prop where
 len:fr.length=n
 at_:∀i,i<n->fr[i]?=some (t.get i)/\t.has i=true
section
variable {n:Nat} {t:FT} {fr:List V}
def blt_iff(a b:Nat):Nat.blt a b=decide (a<b):=by
 unfold Nat.blt;cases h:Nat.ble a.succ b
 .exact(decide_eq_false (fun hl=>by rw[Nat.ble_eq_true_of_le hl]at h;cases h)).symm
 .exact(decide_eq_true (Nat.le_of_ble_eq_true h)).symm
def FR.eval(h:FR n t fr)(x:Operand):mL n t x=aO fr x:=by
 cases x with
 | tmp i =>
  simp only[mL,aO,blt_iff]
  have key:∀k:Nat,(cond (decide (k<n)) (t.get k) V.undef)=(fr[k]?).getD .undef:=fun k=>by
   by_cases hk:k<n
   .simp[hk,(h.at_ k hk).1]
   .have:=h.len;rw[un ω];simp[hk]
  exact key i
 | const v=>rfl
 | func f=>rfl
 | global g=>rfl
def FR.put(h:FR n t fr)(d:Option Tmp)(v:V):FR n (putT n t d v) (bL fr d v):=by
 cases d with
 | none=>exact h
 | some i =>
  have key:∀k:Nat,FR n (cond (Nat.blt k n) (t.set k v) t) (fr.set k v):=fun k=>by
   rw[blt_iff];by_cases hk:k<n
   .refine⟨by simp[h.len],fun j b=>?_⟩;have hs:=qv v t k j (h.at_ k hk).2;simp only[hk,decide_true,cond_true];rw[hs.1,hs.2];refine⟨?_,(h.at_ j b).2⟩;by_cases a:k=j
    .subst a;rw[uJ (by rw[h.len];exact hk)];simp
    .rw[uH a,if_neg a];exact(h.at_ j b).1
   .simp only[hk,decide_false,cond_false];rw[List.set_eq_of_length_le (by rw[h.len];omega)];exact h
  exact key i
theorem FR.want(h:FR n t fr)(ops:Array Oper)(o:Oper):wantT n ops t o=bU ops fr o:=by
 unfold wantT bU
 cases o.guard with
 | none=>rfl
 | some p =>
  obtain⟨j,want⟩:=p;simp only
  cases ops[j]? with
  | none=>rfl
  | some a =>
   simp only
   cases a.dst with
   | none=>rfl
   | some d =>
    simp only;rw[h.eval];simp only[aO]
    have key:∀k:Nat,(match (fr[k]?).getD .undef with
      | .bool b=>some (b == want)
      | .tup _=>some false
      | _=>none)=(match fr[k]? with
      | some (.bool b)=>some (b == want)
      | some (.tup _)=>some false
      | _=>none):=fun k=>by
     cases fr[k]? with
     | none=>rfl
     | some v=>cases v<;>rfl
    exact key d
def FR.list(h:FR n t fr):toL n t=fr:=by
 apply uw;intro i;by_cases hi:i<n
 .rw[(h.at_ i hi).1,toL,uK,vX hi];rfl
 .have:=h.len;rw[un (by simp[toL];omega),un ω]
theorem ofLgo_ok(N:Nat):∀(l:List V) (i:Nat) (t:FT),(∀k,k<N->t.has k=true)->i+l.length<=N->(∀k,k<N->(nZ t i l).has k=true)/\(∀k,k<i->(nZ t i l).get k=t.get k)/\(∀k v,l[k]?=some v->(nZ t i l).get (i+k)=v)/\∀k,i+l.length<=k->(nZ t i l).get k=t.get k
 | [],i,t,h,hl=>⟨h,fun _ _=>rfl,ζ,fun _ _=>rfl⟩
 | v::l,i,t,h,hl=>by
  simp only[uX]at hl
  have hs:=fun k=>qv v t i k (h i ω)
  obtain⟨a1,a,a3,a4⟩:=ofLgo_ok N l (i+1) (t.set i v) (fun k hk=>by rw[(hs k).2];exact h k hk) ω;refine⟨a1,fun k hk=>?_,fun k x hx=>?_,fun k hk=>?_⟩
  .show(nZ (t.set i v) (i+1) l).get k=_;rw[a k ω,(hs k).1,if_neg ω]
  .cases k with
   | zero=>simp at hx;subst hx;show(nZ (t.set i v) (i+1) l).get i=_;rw[a i ω,(hs i).1,if_pos rfl]
   | succ k=>have:=a3 k x (by simpa using hx);rw[(ω:i+(k+1)=i+1+k)];exact this
  .simp only[uX]at hk;show(nZ (t.set i v) (i+1) l).get k=_;rw[a4 k ω,(hs k).1,if_neg ω]
def ofL_ok{d:Nat}{l:List V}(hn:n<2^d)(hl:l.length<=n):FR n (ofL d l) (l++tg (n-l.length) (.tup [])):=by
 have hf:=fun k (hk:k<n)=>sQ (.tup []) d k ω
 obtain⟨a1,b,a3,a4⟩:=ofLgo_ok n l 0 (FT.full (.tup []) d) (fun k hk=>(hf k hk).2) ω;refine⟨χ,fun i hi=>⟨?_,a1 i hi⟩⟩;by_cases a:i<l.length
 .have hx:l[i]?=some l[i]:=tm a;have:=a3 i _ hx;rw[vD]at this;rw[tu a,hx];exact congrArg some this.symm
 .rw[uD ω,wL,if_pos ω];have:=a4 i ω;exact congrArg some ((this.trans (hf i hi).1).symm)
end
def oI(f:FT->List B->Option (Exit×FT×List B)):Nat->FT->List B->Option (Exit×FT×List B)
 | 0,_,_=>none
 | m+1,fr,H=>match f fr H with
  | some (.normal,a,H')=>oI f m a H'
  | r=>r
def bS(n d:Nat)(e:cy)(T:Ty)(fuel:Nat):Code->FT->List B->Option (Exit×FT×List B)
 | .skip,fr,H=>some (.normal,fr,H)
 | .region _ ops false,fr,H=>match mj n e T ops ops.toList fr H with
  | some (f,H')=>some (.normal,f,H')
  | none=>none
 | .region _ ops true,fr,H=>match evDraw e T ops (toL n fr) H with
  | some (f,H')=>if f.length=n then some (.normal,ofL d f,H') else none
  | none=>none
 | .seq a b,fr,H=>match bS n d e T fuel a fr H with
  | some (.normal,f,H')=>bS n d e T fuel b f H'
  | r=>r
 | .cond c a b,fr,H=>match mL n fr c with
  | .bool true=>bS n d e T fuel a fr H
  | .bool false=>bS n d e T fuel b fr H
  | _=>none
 | .block id c,fr,H=>match bS n d e T fuel c fr H with
  | some (.exit id',f,H')=>if id'=id then some (.normal,f,H') else some (.exit id',f,H')
  | r=>r
 | .loop c,fr,H=>oI (bS n d e T fuel c) fuel fr H
 | .exit id,fr,H=>some (.exit id,fr,H)
 | .ret,fr,H=>some (.ret,fr,H)
 | _,_,_=>none
def resT(T:Ty)(n:Nat)(fr:FT)(H:List B):List ResultVar->Option (List V)
 | []=>some []
 | .tmp t::rs=>if t<n then(match resT T n fr H rs with
  | some vs=>some (fr.get t::vs)
  | none=>none) else none
 | .cell a t::rs=>if a<n then(match sA T H t (fr.get a),resT T n fr H rs with
  | some v,some vs=>some (v::vs)
  | _,_=>none) else none
def evFunT(P:Program)(T:Ty)(fuel:Nat)(a:cy)(f:FuncId)(args:List V)(H:List B):Option (V×List B):=
 match P.funcs[f]? with
 | some fn=>match fn.body with
  | some c=>if args.length<=fn.ntmps/\fn.ntmps<256 then(match bS fn.ntmps 8 a T fuel c (ofL 8 args) H with
   | some (.normal,fr,H') | some (.ret,fr,H')=>match resT T fn.ntmps fr H' fn.results.toList with
    | some vs=>some (pm vs,H')
    | none=>none
   | _=>none) else none
  | none=>none
 | none=>none
def oJ(P:Program)(T:Ty)(ext:bC)(fuel:Nat):Nat->cy
 | 0,_,_,_=>none
 | d+1,a,args,H=>match a with
  | .fn f caps=>match ext f (args++caps) H with
   | some r=>some r
   | none=>evFunT P T fuel (oJ P T ext fuel d) f (args++caps) H
  | _=>none
section
variable {P:Program} {T:Ty}
def map_evalT{n:Nat}{t:FT}{fr:List V}(h:FR n t fr)(args:List Operand):args.map (mL n t)=args.map (aO fr):=vY fun x _=>h.eval x
def aopT{n:Nat}{t:FT}{fr:List V}(h:FR n t fr)(o:Go.Op)(H:List B):aop T o (mL n t) H=aop T o (aO fr) H:=by
 have:mL n t=aO fr:=funext h.eval;rw[this]
theorem lU{n:Nat}{a:cy}{ops:Array Oper} : ∀{l:List Oper} {t:FT} {fr:List V} {H:List B} {g:FT} {H':List B},FR n t fr->mj n a T ops l t H=some (g,H')->∃d,oH a T ops l fr H=some (d,H')/\FR n g d
 | [],t,fr,H,g,H',h,he=>by simp only[mj,Option.some.injEq,Prod.mk.injEq]at he;obtain⟨rfl,rfl⟩:=he;exact⟨fr,rfl,h⟩
 | o::rest,t,fr,H,g,H',h,he=>by
  simp only[mj]at he;simp only[oH];rw[h.want]at he
  cases j:bU ops fr o with
  | none=>rw[j]at he;cases he
  | some b =>
   rw[j]at he
   cases b with
   | false=>exact lU (h.put o.dst _) he
   | true =>
    simp only at he ⊢
    cases i:bF o.op with
    | some p =>
     obtain⟨f,args⟩:=p;rw[i]at he;simp only at he ⊢;rw[h.eval,map_evalT h]at he
     cases c:a (aO fr f) (args.map (aO fr)) H with
     | none=>rw[c]at he;cases he
     | some q =>
      obtain⟨r,k⟩:=q;rw[c]at he;exact lU (h.put o.dst r) he
    | none =>
     rw[i]at he;simp only at he ⊢;rw[aopT h]at he
     cases e:aop T o.op (aO fr) H with
     | none=>rw[e]at he;cases he
     | some q =>
      obtain⟨v,k⟩:=q;rw[e]at he;exact lU (h.put o.dst v) he
theorem sf{n:Nat}{f:FT->List B->Option (Exit×FT×List B)}{g:List V->List B->Option (Exit×List V×List B)}
  (hf:∀t fr H e b H',FR n t fr->f t H=some (e,b,H')->∃a,g fr H=some (e,a,H')/\FR n b a):∀(m:Nat) {t:FT} {fr:List V} {H:List B} {e:Exit} {b:FT} {H':List B},FR n t fr->oI f m t H=some (e,b,H')->∃a,jV g m fr H=some (e,a,H')/\FR n b a
 | 0,t,fr,H,e,b,H',h,he=>by simp[oI]at he
 | m+1,t,fr,H,e,b,H',h,he=>by
  simp only[oI]at he;split at he
  .rename_i t1 l h1;obtain⟨j,c,r1⟩:=hf _ _ _ _ _ _ h h1;obtain⟨a,i,k⟩:=sf hf m r1 he;exact⟨a,by simp only[jV,c];exact i,k⟩
  .rename_i r d;obtain⟨a,c,r1⟩:=hf _ _ _ _ _ _ h he;refine⟨a,?_,r1⟩;simp only[jV,c]
   cases e with
   | normal=>exact absurd he (d _ _)
   | _=>rfl
theorem dF{n d:Nat}(m:n<2^d){k:cy}{fuel:Nat} : ∀(c:Code) (t:FT) (fr:List V) (H:List B) (e:Exit) (i:FT) (H':List B),FR n t fr->bS n d k T fuel c t H=some (e,i,H')->∃f,bE k T fuel c fr H=some (e,f,H')/\FR n i f
 | .skip,t,fr,H,e,i,H',h,he=>by simp only[bS]at he;cases he;exact⟨fr,rfl,h⟩
 | .region id ops false,t,fr,H,e,i,H',h,he=>by
  simp only[bS]at he;split at he
  .rename_i t1 s h1;cases he;obtain⟨f,j,r1⟩:=lU h h1;exact⟨f,by simp only[bE,j],r1⟩
  .cases he
 | .region id ops true,t,fr,H,e,i,H',h,he=>by
  simp only[bS]at he;split at he
  .rename_i f1 s h1;split at he
   .rename_i hl;cases he;rw[h.list]at h1;have:=ofL_ok (n:=n) (d:=d) (l:=f1) m ω;rw[hl,vz]at this;simp only[xl,uC]at this;exact⟨f1,by simp only[bE,h1],this⟩
   .cases he
  .cases he
 | .seq a b,t,fr,H,e,i,H',h,he=>by
  simp only[bS]at he;split at he
  .rename_i t1 s h1;obtain⟨o,j,r1⟩:=dF m a _ _ _ _ _ _ h h1;obtain⟨f,u,v⟩:=dF m b _ _ _ _ _ _ r1 he;exact⟨f,by simp only[bE,j];exact u,v⟩
  .rename_i r p;obtain⟨f,j,r1⟩:=dF m a _ _ _ _ _ _ h he;refine⟨f,?_,r1⟩;simp only[bE,j]
   cases e with
   | normal=>exact absurd he (p _ _)
   | _=>rfl
 | .cond c a b,t,fr,H,e,i,H',h,he=>by
  simp only[bS]at he;rw[h.eval]at he;split at he
  .rename_i hb;obtain⟨f,j,r1⟩:=dF m a _ _ _ _ _ _ h he;exact⟨f,by simp only[bE,hb];exact j,r1⟩
  .rename_i hb;obtain⟨f,j,r1⟩:=dF m b _ _ _ _ _ _ h he;exact⟨f,by simp only[bE,hb];exact j,r1⟩
  .cases he
 | .block id c,t,fr,H,e,i,H',h,he=>by
  simp only[bS]at he;split at he
  .rename_i q t1 s h1;obtain⟨o,j,r1⟩:=dF m c _ _ _ _ _ _ h h1;split at he
   .rename_i hid;cases he;exact⟨o,by simp only[bE,j,hid,if_true],r1⟩
   .rename_i hid;cases he;exact⟨o,by simp only[bE,j,hid,if_false],r1⟩
  .rename_i r p;obtain⟨f,j,r1⟩:=dF m c _ _ _ _ _ _ h he;refine⟨f,?_,r1⟩;simp only[bE,j]
   cases e with
   | exit q=>exact absurd he (p _ _ _)
   | _=>rfl
 | .loop c,t,fr,H,e,i,H',h,he=>by
  simp only[bS]at he;obtain⟨f,j,r1⟩:=sf (g:=bE k T fuel c) (fun t fr H e i H' a b=>dF m c t fr H e i H' a b) fuel h he;exact⟨f,by simp only[bE,j],r1⟩
 | .exit id,t,fr,H,e,i,H',h,he=>by simp only[bS]at he;cases he;exact⟨fr,rfl,h⟩
 | .ret,t,fr,H,e,i,H',h,he=>by simp only[bS]at he;cases he;exact⟨fr,rfl,h⟩
 | .rangeFunc ..,t,fr,H,e,i,H',h,he=>by simp[bS]at he
 | .scope _,t,fr,H,e,i,H',h,he=>by simp[bS]at he
 | .label _,t,fr,H,e,i,H',h,he=>by simp[bS]at he
 | .goto _,t,fr,H,e,i,H',h,he=>by simp[bS]at he
 | .refuse _,t,fr,H,e,i,H',h,he=>by simp[bS]at he
theorem qg{n:Nat}{t:FT}{fr:List V}{H:List B}(h:FR n t fr):∀{rs:List ResultVar} {vs:List V},resT T n t H rs=some vs->dJ T fr H rs=some vs
 | [],vs,hr=>hr
 | .tmp i::rs,vs,hr=>by
  simp only[resT]at hr;split at hr
  .rename_i hi;split at hr
   .rename_i ws b;cases hr
    have key:∀k:Nat,k<n->fr[k]?=some (t.get k):=fun k hk=>(h.at_ k hk).1
    simp only[dJ,nN,qg h b];have:=key i hi;rw[this]
   .cases hr
  .cases hr
 | .cell a ty::rs,vs,hr=>by
  simp only[resT]at hr;split at hr
  .rename_i hi;split at hr
   .rename_i v ws hv b;cases hr
    have key:∀k:Nat,k<n->fr[k]?=some (t.get k):=fun k hk=>(h.at_ k hk).1
    simp only[dJ,nN,qg h b];have:=key a hi;rw[this];simp only[hv]
   .cases hr
  .cases hr
def evFunT_ok{a:cy}{fuel:Nat}{f:FuncId}{args:List V}{H:List B}{r:V×List B}(h:evFunT P T fuel a f args H=some r):evFun P T fuel a f args H=some r:=by
 unfold evFunT at h;unfold evFun
 cases hf:P.funcs[f]? with
 | none=>rw[hf]at h;cases h
 | some fn =>
  rw[hf]at h;simp only at h ⊢
  cases hb:fn.body with
  | none=>rw[hb]at h;cases h
  | some c =>
   rw[hb]at h;simp only at h ⊢;split at h
   .rename_i hn;have b:=ofL_ok (n:=fn.ntmps) (d:=8) (l:=args) hn.2 hn.1
    cases h1:bS fn.ntmps 8 a T fuel c (ofL 8 args) H with
    | none=>rw[h1]at h;cases h
    | some q =>
     obtain⟨e,t1,g⟩:=q;obtain⟨j,i,r1⟩:=dF hn.2 c _ _ _ _ _ _ b h1;rw[h1]at h;rw[i]
     cases e with
     | normal =>
      simp only at h ⊢
      cases hv:resT T fn.ntmps t1 g fn.results.toList with
      | none=>rw[hv]at h;cases h
      | some vs=>rw[hv]at h;rw[qg r1 hv];exact h
     | ret =>
      simp only at h ⊢
      cases hv:resT T fn.ntmps t1 g fn.results.toList with
      | none=>rw[hv]at h;cases h
      | some vs=>rw[hv]at h;rw[qg r1 hv];exact h
     | _=>cases h
   .cases h
theorem sg(a:TOk P T)(hm:P.follows .mixedOrders=true)(hn:∀(f:Nat) (fn:Func),P.funcs[f]?=some fn->(fn.name == "runtime.NumGoroutine")=false){ext:bC}(he:aa P ext){fuel:Nat} : ∀d,ib P (oJ P T ext fuel d)
 | 0=>fun b args H r H' h=>by simp[oJ]at h
 | d+1=>fun b args H r H' h=>by
  simp only[oJ]at h;split at h
  .rename_i f caps;split at h
   .rename_i c hr;cases h;exact he _ _ _ _ _ hr
   .exact evFun_ok a hm hn (sg a hm hn he d) (evFunT_ok h)
  .cases h
def aC(g:TOk P T)(hm:P.follows .mixedOrders=true)(hn:∀(f:Nat) (fn:Func),P.funcs[f]?=some fn->(fn.name == "runtime.NumGoroutine")=false){ext:bC}(hx:aa P ext){fuel d:Nat}{f:FuncId}{args:List V}{b:V}
  (h:(match oJ P T ext fuel d (.fn f []) args [] with
   | some (r,H')=>(match exV H' 0 40 r with
    | some x=>eqV 40 x b
    | none=>false)
   | none=>false)=true) (hp:Pure b):aK P f args fun x=>x=b:=by
 split at h
 .rename_i r H' c;split at h
  .rename_i x a;have:=eW _ _ _ h;subst this;have h1:=sg g hm hn hx d _ _ _ _ _ c;simp only[aM,uC]at h1;have h2:=pW (G:=H') (d:=40) h1 a;exact bM (h2.mono fun y z ⟨i,e⟩=>by subst i;subst e;exact⟨y,.pure y hp,hp,rfl⟩)
  .cases h
 .cases h
def af{ext:bC}(he:aa P ext){g:FuncId}{b:List V}{d:V}(e:aK P g b fun x=>x=d)(hq:∀a∈b,Pure a):
  aa P (fun f args H=>if vB f g then(if eqL (eqV 40) args b then some (d,H) else ext f args H) else ext f args H):=fun f args H r H' h=>by
 simp only at h;split at h
 .rename_i hf;have hf:=xD hf;split at h
  .rename_i ha;have ha:=fS (eW 40) ha;cases h;subst ha;have c:f=g:=hf;subst c;have:=bQ (H:=H) e hq;simpa only[aM,uC] using this
  .exact he f args H r H' h
 .exact he f args H r H' h
end
end Go.AM
end
