/- JB3: texts AMc, joined and shortened by pack6.py. -/
import Derived.Test.YtnaokiodhoadjaaGreatDoorJB2
set_option linter.all false
set_option maxRecDepth 100000
set_option maxHeartbeats 64000000
open Array renaming length_toList→vV,getD→xV,replicate→xW
open List renaming replicate→tg,range→tr,take_zero→xO
open Nat renaming strongRecOn→xG,sub_zero→xe
open Option renaming map_some→uS,getD_some→wA
section
namespace Go.AM
open Go
def eqA(T:Ty)(H:List B)(t:TypeId)(x y:V):Option Bool :=
 match T t with
 | none=>none
 | some i=>match i.desc,x,y with
  | .bool,.bool a,.bool b=>some (a == b)
  | .slice _,.nilS,.nilS=>some true
  | .slice _,.lst _ _ (_::_),.nilS=>some false
  | .slice _,.nilS,.lst _ _ (_::_)=>some false
  | .slice _,.buf k _ _ tot,.nilS=>match H[k]? with
   | some (.buf _ _ xs _)=>if xs.length=tot/\0<tot then some false else none
   | _=>none
  | .pointer _,.nilP,.nilP=>some true
  | .pointer _,.ptr _ _,.nilP=>some false
  | .pointer _,.nilP,.ptr _ _=>some false
  | .pointer _,.pin _ _,.nilP=>some false
  | .map _ _,.nilM,.nilM=>some true
  | .map _ _,.map _,.nilM=>some false
  | .func _ _ _,.nilFn,.nilFn=>some true
  | .func _ _ _,.fn _ _,.nilFn=>some false
  | _,_,_=>none
def eqFs(T:Ty)(f:TypeId->V->V->Option Bool)(xs ys:List V):List Field->Option Bool
 | []=>some true
 | fd::r=>if fd.name = "_" then none else match jw T fd.type xs fd.offset,jw T fd.type ys fd.offset with
  | some a,some b=>match f fd.type a b with
   | some true=>eqFs T f xs ys r
   | some false=>some false
   | none=>none
  | _,_=>none
def eqAr(T:Ty)(f:TypeId->V->V->Option Bool)(e z:Nat)(xs ys:List V):List Nat->Option Bool
 | []=>some true
 | i::r=>match jw T e xs (i*z),jw T e ys (i*z) with
  | some a,some b=>match f e a b with
   | some true=>eqAr T f e z xs ys r
   | some false=>some false
   | none=>none
  | _,_=>none
def eqD(T:Ty):Nat->TypeId->V->V->Option Bool
 | 0,_,_,_=>none
 | d+1,t,x,y=>match T t with
  | none=>none
  | some i=>match i.desc,x,y with
   | .bool,.bool a,.bool b=>some (a == b)
   | .int _,.int k a,.int k' b=>if k=k' then some (a == b) else none
   | .string,.str a,.str b=>some (a == b)
   | .struct c,.agg xs,.agg ys=>if i.eq then eqFs T (eqD T d) xs ys c.toList else none
   | .array n e,.agg xs,.agg ys=>if i.eq then(match T e with
    | some j=>eqAr T (eqD T d) e j.size xs ys (tr n)
    | none=>none) else none
   | _,_,_=>none
def fk(T:Ty)(H:List B)(t:TypeId)(x y:V):Option Bool :=
 match x,y with
 | .agg _,.agg _=>eqD T 10000 t x y
 | _,_=>eqA T H t x y
def binTA(T:Ty)(H:List B)(op:BinOp)(t:TypeId)(x y:V):Option V :=
 match binA op x y with
 | some r=>some r
 | none=>match op with
  | .eql=>(fk T H t x y).map .bool
  | .neq=>(fk T H t x y).map fun b=>.bool !b
  | _=>none
def convA(T:Ty)(a:TypeId):V->Option V
 | .int _ n=>match T a with
  | some i=>match i.desc with
   | .int k=>some (.int k (k.wrap n))
   | _=>none
  | none=>none
 | .str s=>match T a with
  | some i=>match i.desc with
   | .string=>some (.str s)
   | _=>none
  | none=>none
 | _=>none
def oU(T:Ty)(H:List B)(b:Builtin)(args:List V)(a:List TypeId):Option (V×List B):=
 match b,args,a with
 | .len,[x],[t]=>(lenA T H t x).map (·,H)
 | .append,[x,y],[t,tx]=>rD T H t tx x y
 | .copy,[x,y],[t,tx]=>jq T H t tx x y
 | .clear,[x],[t]=>clearA T H t x
 | .max,xs,_=>(kW max2A xs).map (·,H)
 | .min,xs,_=>(kW min2A xs).map (·,H)
 | _,_,_=>none
def dN(T:Ty)(t:TypeId)(op:BinOp)(x v:V)(y:Operand):Option Bool :=
 match y with
 | .const .nilIface=>match T t with
  | some i=>match i.desc with
   | .interface _=>match op,x,v with
    | .eql,.nilI,.nilI=>some true
    | .eql,.ifc,.nilI=>some false
    | .neq,.nilI,.nilI=>some false
    | .neq,.ifc,.nilI=>some true
    | _,_,_=>none
   | _=>none
  | none=>none
 | _=>none
def aop(T:Ty)(o:Go.Op)(ρ:Operand->V)(H:List B):Option (V×List B):=
 match o with
 | .move x | .assign x=>some (ρ x,H)
 | .pick c a b=>match ρ c with
  | .bool t=>some (if t then ρ a else ρ b,H)
  | _=>none
 | .alloc e=>allocA T H e
 | .box _ x=>boxA H (ρ x)
 | .build t parts=>(buildA T t (parts.toList.map fun p=>(p.1,ρ p.2))).map (·,H)
 | .buildSlice t len parts=>(iM T t len (parts.toList.map fun p=>(p.1,ρ p.2))).map (·,H)
 | .load t a=>(sA T H t (ρ a)).map (·,H)
 | .store t a x=>(storeA T H t (ρ a) (ρ x)).map (V.tup [],·)
 | .nilCheck x=>match ρ x with
  | .ptr k off=>some (.ptr k off,H)
  | .pin cs off=>some (.pin cs off,H)
  | .pbuf k i off tot=>some (.pbuf k i off tot,H)
  | .fn f caps=>some (.fn f caps,H)
  | _=>none
 | .binOp op t x y _=>match dN T t op (ρ x) (ρ y) y with
  | some b=>some (.bool b,H)
  | none=>(binTA T H op t (ρ x) (ρ y)).map (·,H)
 | .unOp op _ x=>(unA op (ρ x)).map (·,H)
 | .convert src h x=>if(T src).isSome=true then(convA T h (ρ x)).map (·,H) else none
 | .makeFunc fn first caps=>match fn with
  | .func f=>if first.size=0 then some (.fn f (caps.toList.map ρ),H) else none
  | _=>none
 | .makeMap t r=>match r with
  | none=>ry T H t
  | some _=>none
 | .makeSlice t l c=>makeA T H t (ρ l) (ρ c)
 | .slice t x lo hi mx=>(sliceA T H t (ρ x) (lo.map ρ) (hi.map ρ) (mx.map ρ)).map (·,H)
 | .fieldAddr g x f=>(jU T g f (ρ x)).map (·,H)
 | .field g x f=>(oA T g f (ρ x)).map (·,H)
 | .indexAddr t x d=>(jS T H t (ρ x) (ρ d)).map (·,H)
 | .index t x d=>(indexA T t (ρ x) (ρ d)).map (·,H)
 | .lookup t m k c=>(qm T H t (ρ m) (ρ k) c).map (·,H)
 | .mapUpdate t m k v=>(gY T H t (ρ m) (ρ k) (ρ v)).map (V.tup [],·)
 | .insert t m k v=>(gY T H t (ρ m) (ρ k) (ρ v)).map (V.tup [],·)
 | .extract t d=>match ρ t with
  | .tup vs=>(vs[d]?).map (·,H)
  | _=>none
 | .call c=>match c.callee with
  | .builtin b=>oU T H b (c.args.toList.map ρ) c.argTypes.toList
  | _=>none
 | _=>none
section
variable {P:Program} {T:Ty} {s:St}
def plainEq:Value->Bool
 | .bool _ | .slice .. | .pointer _ | .map _ | .func .. | .nilFunc=>true
 | _=>false
def iI{t:TypeId}{a b:Value}(h:plainEq a=true)(op:BinOp)(c d:Operand):(eqGuard op t c d a b).run P s.w = .ok () s.w:=by
 have e:(match a,b with
   | .nilIface,.nilIface=>true
   | .agg _,.agg _=>true
   | _,_=>false)=false:=by cases a<;>first | rfl | (simp[plainEq]at h)
 unfold eqGuard
 cases a<;>simp only[plainEq]at h<;>first | (cases h;done) | (cases op<;>simp)
theorem lW(t:TypeId)(x y:Value):Op.equal t x y=Op.equalIn (9999+1) t x y:=rfl
def eq_sound(p:TOk P T)(o:Good s){t:TypeId}{x y:V}{j g:Value}{b:Bool}(hx:Rel s x j)(k:Rel s y g)(h:eqA T s.H t x y=some b):
  (Op.equal t j g).run P s.w = .ok b s.w/\(∀(op:BinOp) f a,(eqGuard op t f a j g).run P s.w = .ok () s.w)/\
  binOp .eql t j g=(do pure (.bool (<-Op.equal t j g)))/\binOp .neq t j g=(do pure (.bool (!(<-Op.equal t j g)))):=by
 unfold eqA at h;split at h
 .cases h
 .rename_i i hi;have hu:=p.und t i hi;generalize i.desc=d at hu h;rw[lW,Op.equalIn];split at h<;>(try (cases h;done))
  all_goals (first | (cases hx;cases k;cases h;refine⟨?_,(fun op f a=>iI rfl op f a),rfl,rfl⟩;simp[run_underlying hu];done) | skip)
  .cases k;cases h
   cases hx with
   | lst _ _ _ A cap m off u hcap hfull hA hz hcell hrel =>
    obtain⟨rfl,_⟩:=hA ζ;exact⟨by simp[run_underlying hu],(fun op f a=>iI rfl op f a),rfl,rfl⟩
  .cases hx;cases h
   cases k with
   | lst _ _ _ A cap m off u hcap hfull hA hz hcell hrel =>
    obtain⟨rfl,_⟩:=hA ζ;exact⟨by simp[run_underlying hu],(fun op f a=>iI rfl op f a),rfl,rfl⟩
  .cases k
   cases hx with
   | buf _ _ _ _ e z xs fz A l c hk ht q =>
    rw[hk]at h;simp only at h;split at h
    .rename_i he;cases h;obtain⟨hA,_⟩:=q he.1.symm;obtain⟨_,_,_,n,_⟩:=o.blk _ _ hk;have hA:=hA ω;subst hA;exact⟨by simp[run_underlying hu],(fun op f a=>iI rfl op f a),rfl,rfl⟩
    .cases h
theorem nu{e:Type}{w:World}{a:e->(Option Bool×Unit)->Sem (ForInStep ((Option Bool×Unit)))} : ∀{l:List e} {b:Bool} {bs:List Bool},l.length=bs.length->(∀(i:Nat) x c,l[i]?=some x->bs[i]?=some c->(∀j,j<i->bs[j]?=some true)->(a x (none,())).run P w = .ok (if c then .yield (none,()) else .done (some false,())) w)->b=bs.all id ->
  (forIn l (none,()) a).run P w = .ok (if b then none else some false,()) w
 | [],b,[],_,_,hb=>by subst hb;simp
 | x::l,b,c::bs,hl,h,hb=>by
  have h0:=h 0 x c rfl rfl (fun j d=>absurd d ω);rw[List.forIn_cons];simp only[Sem.run_bind,h0,Result.andThen_ok]
  cases c with
  | false=>subst hb;simp
  | true =>
   have m:=nu (l:=l) (bs:=bs) (b:=b) (by simpa using hl) (fun i y c g f d=>h (i+1) y c (by simpa using g) (by simpa using f) (fun j k=>by
    cases j with
    | zero=>rfl
    | succ j=>simpa using d j ω)) (by subst hb;simp)
   simpa using m
theorem eqD_sound(v:TOk P T):∀(d:Nat) {t:TypeId} {x y:V} {L J:Value} {b:Bool},Rel s x L->Rel s y J->eqD T d t x y=some b->(Op.equalIn d t L J).run P s.w = .ok b s.w
 | 0,t,x,y,L,J,b,hx,H,h=>by simp[eqD]at h
 | d+1,t,x,y,L,J,b,hx,H,h=>by
  have K:=@eqD_sound v d;simp only[eqD]at h;split at h
  .cases h
  .rename_i i hi;have hu:=v.und t i hi;have F:=v.eq t i hi;generalize i.desc=de at hu h;rw[Op.equalIn];split at h
   .cases hx;cases H;cases h;simp[run_underlying hu]
   .cases hx;cases H;split at h
    .rename_i hk;cases h;simp[run_underlying hu,hk]
    .cases h
   .cases hx;cases H;cases h;simp[run_underlying hu]
   .rename_i O xs ys;split at h
    .rename_i he
     cases hx with
     | agg _ us hl h1 M =>
      cases H with
      | agg _ vs G C E =>
       simp only[Sem.run_bind,run_underlying hu,Result.andThen_ok,run_program,(F he).1,uM,if_false,<-Array.forIn_toList]
       have key:∃bs:List Bool,O.toList.length=bs.length/\b=bs.all id/\∀(i:Nat) f c,O.toList[i]?=some f->bs[i]?=some c->(∀j,j<i->bs[j]?=some true)->f.name≠ "_"/\∃q p,(part f.type us f.offset).run P s.w = .ok q s.w/\(part f.type vs f.offset).run P s.w = .ok p s.w/\(Op.equalIn d f.type q p).run P s.w = .ok c s.w:=by
        generalize O.toList=l at h;clear hu F
        induction l with
        | nil=>simp only[eqFs,Option.some.injEq]at h;exact⟨[],rfl,by simp[<-h],ζ⟩
        | cons f l B =>
         simp only[eqFs]at h;split at h
         .cases h
         .rename_i hn;split at h
          .rename_i a c ha z;obtain⟨q,p1,r⟩:=er (P:=P) v hl h1 M ha;obtain⟨p,u,I⟩:=er (P:=P) v G C E z;split at h
           .rename_i hf;obtain⟨bs,k1,A,D⟩:=B h;refine⟨true::bs,by simp[k1],by simp[A],fun i g c' o k m=>?_⟩
            cases i with
            | zero=>simp at o k;subst o;subst k;exact⟨hn,q,p,p1,u,K r I hf⟩
            | succ i=>exact D i g c' (by simpa using o) (by simpa using k) (fun j N=>by simpa using m (j+1) ω)
           .rename_i hf;cases h;refine⟨false::tg l.length false,ζ,ζ,fun i g c' o k m=>?_⟩
            cases i with
            | zero=>simp at o k;subst o;subst k;exact⟨hn,q,p,p1,u,K r I hf⟩
            | succ i=>have:=m 0 ω;simp at this
           .cases h
          .cases h
       obtain⟨bs,k1,A,D⟩:=key;rw[nu (P:=P) (w:=s.w) k1 (fun i f c hf z m=>?_) A]
       .cases b<;>simp
       .obtain⟨hn,q,p,p1,r,u⟩:=D i f c hf z m;simp only[ne_eq,hn,not_false_eq_true,if_true,Sem.run_bind,p1,r,u,Result.andThen_ok];cases c<;>simp
    .cases h
   .rename_i n e xs ys;split at h
    .rename_i he;split at h
     .rename_i j m
      cases hx with
      | agg _ us hl h1 M =>
       cases H with
       | agg _ vs G C E =>
        simp only[Sem.run_bind,run_underlying hu,Result.andThen_ok,ar v m,Std.Legacy.Range.forIn_eq_forIn_range']
        have key:∃bs:List Bool,(tr n).length=bs.length/\b=bs.all id/\∀(i:Nat) f c,(tr n)[i]?=some f->bs[i]?=some c->(∀j,j<i->bs[j]?=some true)->∃q p,(part e us (f*j.size)).run P s.w = .ok q s.w/\(part e vs (f*j.size)).run P s.w = .ok p s.w/\(Op.equalIn d e q p).run P s.w = .ok c s.w:=by
         generalize tr n=l at h;clear hu F
         induction l with
         | nil=>simp only[eqAr,Option.some.injEq]at h;exact⟨[],rfl,by simp[<-h],ζ⟩
         | cons f l B =>
          simp only[eqAr]at h;split at h
          .rename_i a c ha z;obtain⟨q,p1,r⟩:=er (P:=P) v hl h1 M ha;obtain⟨p,u,I⟩:=er (P:=P) v G C E z;split at h
           .rename_i hf;obtain⟨bs,k1,A,D⟩:=B h;refine⟨true::bs,by simp[k1],by simp[A],fun i g c' o k m=>?_⟩
            cases i with
            | zero=>simp at o k;subst o;subst k;exact⟨q,p,p1,u,K r I hf⟩
            | succ i=>exact D i g c' (by simpa using o) (by simpa using k) (fun j N=>by simpa using m (j+1) ω)
           .rename_i hf;cases h;refine⟨false::tg l.length false,ζ,ζ,fun i g c' o k m=>?_⟩
            cases i with
            | zero=>simp at o k;subst o;subst k;exact⟨q,p,p1,u,K r I hf⟩
            | succ i=>have:=m 0 ω;simp at this
           .cases h
          .cases h
        obtain⟨bs,k1,A,D⟩:=key
        have hr:List.range' 0 n 1=tr n:=by rw[List.range_eq_range']
        simp only[Std.Legacy.Range.size,xe,wH,Nat.div_one,hr];rw[nu (P:=P) (w:=s.w) k1 (fun i f c hf z m=>?_) A]
        .cases b<;>simp
        .obtain⟨q,p,p1,r,u⟩:=D i f c hf z m;simp only[Sem.run_bind,p1,r,u,Result.andThen_ok];cases c<;>simp
     .cases h
    .cases h
   .cases h
def eqD_top(e:TOk P T){t:TypeId}{xs ys:List V}{b:Bool}(h:eqD T 10000 t (.agg xs) (.agg ys)=some b):P.eqGuardType P.depth t=false:=by
 rw[show(10000:Nat)=9999+1 from rfl,eqD]at h;split at h
 .cases h
 .rename_i i hi;have a:=e.eq t i hi;split at h
  .rename_i c d;cases c
  .rename_i c d;cases c
  .rename_i c d;cases c
  .split at h
   .rename_i he;exact(a he).2
   .cases h
  .split at h
   .rename_i he;exact(a he).2
   .cases h
  .cases h
def eq2_sound(e:TOk P T)(i:Good s){t:TypeId}{x y:V}{c a:Value}{b:Bool}(hx:Rel s x c)(d:Rel s y a)(h:fk T s.H t x y=some b):
  (Op.equal t c a).run P s.w = .ok b s.w/\(∀(op:BinOp) g f,(eqGuard op t g f c a).run P s.w = .ok () s.w)/\
  binOp .eql t c a=(do pure (.bool (<-Op.equal t c a)))/\binOp .neq t c a=(do pure (.bool (!(<-Op.equal t c a)))):=by
 unfold fk at h;split at h
 .have h1:=eqD_sound (P:=P) e 10000 hx d h;have h2:=eqD_top (P:=P) e h;cases hx;cases d;refine⟨h1,fun op g f=>?_,rfl,rfl⟩;unfold eqGuard;cases op<;>simp[run_program,h2]
 .exact eq_sound e i hx d h
def binT_sound(j:TOk P T)(f:Good s){op:BinOp}{t:TypeId}{x y r:V}{e a:Value}{l k:Operand}(hx:Rel s x e)(c:Rel s y a)(h:binTA T s.H op t x y=some r):
  ∃u,(do eqGuard op t l k e a;binOp op t e a:Sem Value).run P s.w = .ok u s.w/\Rel s r u:=by
 unfold binTA at h;split at h
 .rename_i m hr;cases h;exact bin_sound hx c hr
 .split at h
  .cases hb:fk T s.H t x y with
   | none=>rw[hb]at h;cases h
   | some b =>
    rw[hb]at h;cases h;obtain⟨k1,d,g,i⟩:=eq2_sound (P:=P) j f hx c hb;exact⟨.bool b,by simp only[Sem.run_bind,d,Result.andThen_ok,g,k1,Sem.run_pure],.bool _⟩
  .cases hb:fk T s.H t x y with
   | none=>rw[hb]at h;cases h
   | some b =>
    rw[hb]at h;cases h;obtain⟨k1,d,g,i⟩:=eq2_sound (P:=P) j f hx c hb;exact⟨.bool !b,by simp only[Sem.run_bind,d,Result.andThen_ok,i,k1,Sem.run_pure],.bool _⟩
  .cases h
def conv_sound(e:TOk P T){src a:TypeId}{x r:V}{f:Value}(hx:Rel s x f)(h:convA T a x=some r)(hs:∃i,T src=some i):∃u,(convert src a f).run P s.w = .ok u s.w/\Rel s r u:=by
 obtain⟨i,hi⟩:=hs;have b:=e.und src i hi
 cases hx<;>simp only[convA]at h<;>try (cases h;done)
 case int k n =>
  split at h
  .rename_i j d;have hu:=e.und a j d;split at h
   .rename_i k' c;rw[c]at hu;cases h;exact⟨.int k' (k'.wrap n),by simp[convert,run_underlying b,run_underlying hu,Conv.intToInt],.int _ _⟩
   .cases h
  .cases h
 case str st =>
  split at h
  .rename_i j d;have hu:=e.und a j d;split at h
   .rename_i c;rw[c]at hu;cases h;exact⟨.string st,by simp[convert,run_underlying b,run_underlying hu],.str _⟩
   .cases h
  .cases h
end
end Go.AM
namespace Go.AM
open Go
def dP(P:Program)(s:St)(v:V)(H':List B)(x:Sem Next):Prop :=
 ∃a s',x.run P s.w = .ok a s'.w/\s'.H=H'/\Good s'/\Step s s'/\((∃u,a = .value u/\Rel s' v u)\/(a = .skip/\v = .tup []))
section
variable {P:Program} {T:Ty} {s:St}
def dP.pure_(a:Good s){v:V}{x:Sem Value}(h:∃u,x.run P s.w = .ok u s.w/\Rel s v u):dP P s v s.H (do Pure.pure (.value (<-x))):=by
 obtain⟨u,h1,h2⟩:=h;exact⟨.value u,s,by simp[h1],rfl,a,Step.refl s,.inl ⟨u,rfl,h2⟩⟩
def dP.val{v:V}{H':List B}{x:Sem Value}(h:∃u s',x.run P s.w = .ok u s'.w/\s'.H=H'/\Good s'/\Step s s'/\Rel s' v u):dP P s v H' (do Pure.pure (.value (<-x))):=by
 obtain⟨u,s',h1,h2,b,a,c⟩:=h;exact⟨.value u,s',by simp[h1],h2,b,a,.inl ⟨u,rfl,c⟩⟩
def dP.unit{H':List B}{x:Sem Unit}(h:∃s',x.run P s.w = .ok () s'.w/\s'.H=H'/\Good s'/\Step s s'):dP P s (.tup []) H' (do x;Pure.pure .skip):=by
 obtain⟨s',h1,h2,a,b⟩:=h;exact⟨.skip,s',by simp[h1],h2,a,b,.inr ⟨rfl,rfl⟩⟩
def dP.here(a:Good s){v:V}{u:Value}(h:Rel s v u):dP P s v s.H (Pure.pure (.value u)):=⟨.value u,s,ζ,rfl,a,Step.refl s,.inl ⟨u,rfl,h⟩⟩
def rn{ρ:Operand->V}{a:Operand->Value}(b:∀x,Rel s (ρ x) (a x))(x:Option Operand):ky s (x.map ρ) (x.map a):=by
 cases x with
 | none=>trivial
 | some x=>exact b x
def bD{b:Type}{x:Option b}{H H':List B}{v:b}(h:x.map (fun a=>(a,H))=some (v,H')):x=some v/\H=H':=by
 cases x with
 | none=>cases h
 | some a=>cases h;exact⟨rfl,rfl⟩
def pE{x:Option (List B)}{v w:V}{H':List B}(h:x.map (fun a=>(w,a))=some (v,H')):x=some H'/\w=v:=by
 cases x with
 | none=>cases h
 | some a=>cases h;exact⟨rfl,rfl⟩
def ifc_guard{t:TypeId}{x:Value}(op:BinOp)(a:Operand):(eqGuard op t a (.const .nilIface) x .nilIface).run P s.w = .ok () s.w:=by
 unfold eqGuard;cases op<;>cases x<;>simp
def qr{t:TypeId}{x:Value}{a:Operand}{b:Bool}(he:(Op.equal t x .nilIface).run P s.w = .ok b s.w)(h1:binOp .eql t x .nilIface=(do Pure.pure (.bool (<-Op.equal t x .nilIface))))(h2:binOp .neq t x .nilIface=(do Pure.pure (.bool (!(<-Op.equal t x .nilIface))))):
  (do eqGuard .eql t a (.const .nilIface) x .nilIface;binOp .eql t x .nilIface:Sem Value).run P s.w = .ok (.bool b) s.w /\
  (do eqGuard .neq t a (.const .nilIface) x .nilIface;binOp .neq t x .nilIface:Sem Value).run P s.w = .ok (.bool !b) s.w:=by
 constructor
 .simp only[Sem.run_bind,ifc_guard,Result.andThen_ok,h1,he,Sem.run_pure]
 .simp only[Sem.run_bind,ifc_guard,Result.andThen_ok,h2,he,Sem.run_pure]
def nilCmp_sound(l:TOk P T){op:BinOp}{t:TypeId}{x v:V}{d c:Value}{k y:Operand}{b:Bool}(hx:Rel s x d)(a:Rel s v c)(h:dN T t op x v y=some b):
  ∃u,(do eqGuard op t k y d c;binOp op t d c:Sem Value).run P s.w = .ok u s.w/\Rel s (.bool b) u:=by
 unfold dN at h;split at h
 .split at h
  .rename_i i hi;have hu:=l.und t i hi;split at h
   .rename_i ms j;rw[j]at hu
    have g:(Op.equal t .nilIface .nilIface).run P s.w = .ok true s.w:=by
     rw[lW,Op.equalIn];simp[run_underlying hu]
    have e:∀f v',(Op.equal t (.iface f v') .nilIface).run P s.w = .ok false s.w:=fun f v'=>by
     rw[lW,Op.equalIn];simp[run_underlying hu]
    split at h
    .cases h;cases hx;cases a;exact⟨_,(qr g rfl rfl).1,.bool _⟩
    .cases h;cases hx;cases a;exact⟨_,(qr (e _ _) rfl rfl).1,.bool _⟩
    .cases h;cases hx;cases a;exact⟨_,(qr g rfl rfl).2,.bool _⟩
    .cases h;cases hx;cases a;exact⟨_,(qr (e _ _) rfl rfl).2,.bool _⟩
    .cases h
   .cases h
  .cases h
 .cases h
def jD(D:TOk P T)(j:Good s){ρ:Operand->V}{C:Operand->Value}(d:∀x,Rel s (ρ x) (C x)){o:Oper}{v:V}{H':List B}(h:aop T o.op ρ s.H=some (v,H')):dP P s v H' (execOp C o):=by
 unfold execOp;generalize o.op=op at h ⊢
 have parts:∀(ps:Array (Nat×Operand)),(ps.toList.map fun p=>(p.1,ρ p.2)).length=(ps.map fun(i,x)=>(i,C x)).size /\
   ∀(i:Nat) p u,(ps.toList.map fun p=>(p.1,ρ p.2))[i]?=some p->(ps.map fun(i,x)=>(i,C x))[i]?=some u->p.1=u.1/\Rel s p.2 u.2:=fun ps=>by
  refine⟨ζ,fun i p u hp hu=>?_⟩;simp only[uK,vJ,vd]at hp;obtain⟨q,hq,rfl⟩:=hp;simp only[xu,hq,uS,Option.some.injEq]at hu;subst hu;exact⟨rfl,d _⟩
 cases op with
 | move x=>cases h;exact dP.here j (d x)
 | assign x=>cases h;exact dP.here j (d x)
 | pick c a b =>
  simp only[aop]at h;have L:=d c;generalize ρ c=S at h L
  cases S<;>simp only at h<;>try (cases h;done)
  cases h;rename_i t
  have Q:C c = .bool t:=by generalize C c=uc at L;cases L;rfl
  refine⟨.value (if t then C a else C b),s,by simp[Q,asBool],rfl,j,Step.refl s,.inl ⟨_,rfl,?_⟩⟩;cases t
  .exact d b
  .exact d a
 | alloc e=>exact dP.val (alloc_sound D j h)
 | box e x=>exact dP.val (box_sound j (d x) h)
 | build t ps =>
  obtain⟨n,rfl⟩:=bD h;exact dP.pure_ j (build_sound D (parts ps).1 (parts ps).2 n)
 | buildSlice t len ps =>
  obtain⟨n,rfl⟩:=bD h;exact dP.val (pb D j (parts ps).1 (parts ps).2 n)
 | load t a =>
  obtain⟨n,rfl⟩:=bD h;exact dP.pure_ j (rz D j (d a) n)
 | store t a x =>
  obtain⟨n,rfl⟩:=pE h;exact dP.unit (store_sound D j (d a) (d x) n)
 | nilCheck x =>
  simp only[aop]at h;have hx:=d x;generalize ρ x=vx at h hx;simp only;generalize C x=ux at hx
  cases hx<;>simp only at h<;>try (cases h;done)
  case ptr k off cs hk=>cases h;exact dP.here j (.ptr k off cs hk)
  case pin cs off b o u a1 a2 a3 a4=>cases h;exact dP.here j (.pin cs off b o u a1 a2 a3 a4)
  case pbuf k i off tot e z xs fz p a1 a2 a3=>cases h;exact dP.here j (.pbuf k i off tot e z xs fz p a1 a2 a3)
  case fn f caps us a1 a2=>cases h;exact dP.here j (.fn f caps us a1 a2)
 | binOp op t x y ty =>
  simp only[aop]at h
  cases hn:dN T t op (ρ x) (ρ y) y with
  | some b =>
   rw[hn]at h;cases h;exact dP.pure_ j (nilCmp_sound D (d x) (d y) hn)
  | none =>
   rw[hn]at h;obtain⟨n,rfl⟩:=bD h;exact dP.pure_ j (binT_sound D j (d x) (d y) n)
 | unOp op t x =>
  obtain⟨n,rfl⟩:=bD h;exact dP.pure_ j (un_sound (d x) n)
 | convert src W x =>
  simp only[aop]at h;split at h
  .rename_i hs;obtain⟨n,rfl⟩:=bD h;exact dP.pure_ j (conv_sound D (d x) n (Option.isSome_iff_exists.1 hs))
  .cases h
 | makeFunc fn first caps =>
  cases fn<;>simp only[aop]at h<;>try (cases h;done)
  rename_i f;split at h
  .rename_i h0;cases h
   have:first = #[]:=wB h0
   subst this;refine dP.pure_ j ⟨.func (.func f) #[] (caps.map C),by simp[Instr.makeFunc],.fn f _ _ ζ (fun i c u L hu=>?_)⟩;simp only[uK,vJ,vd]at L;obtain⟨q,hq,rfl⟩:=L;simp only[xu,hq,uS,Option.some.injEq]at hu;subst hu;exact d _
  .cases h
 | makeMap t r =>
  cases r with
  | some x=>simp[aop]at h
  | none =>
   simp only[aop,ry]at h;split at h
   .rename_i kk e hk;exact dP.val (makeMap_sound j h)
   .cases h
 | makeSlice t l c=>exact dP.val (make_sound D j (d l) (d c) h)
 | slice t x lo hi mx =>
  obtain⟨n,rfl⟩:=bD h;exact dP.pure_ j (slice_sound D j (d x) (rn d lo) (rn d hi) (rn d mx) n)
 | fieldAddr U x f =>
  obtain⟨n,rfl⟩:=bD h;exact dP.pure_ j (qU D (d x) n)
 | field U x f =>
  obtain⟨n,rfl⟩:=bD h;exact dP.pure_ j (field_sound D (d x) n)
 | indexAddr t x K =>
  obtain⟨n,rfl⟩:=bD h;exact dP.pure_ j (qS D j (d x) (d K) n)
 | index t x K =>
  obtain⟨n,rfl⟩:=bD h;exact dP.pure_ j (index_sound D (d x) (d K) n)
 | lookup t m k c =>
  obtain⟨n,rfl⟩:=bD h;exact dP.pure_ j (lookup_sound D j (d m) (d k) n)
 | mapUpdate t m k x =>
  obtain⟨n,rfl⟩:=pE h;exact dP.unit (ji D j (d m) (d k) (d x) n)
 | insert t m k x =>
  obtain⟨n,rfl⟩:=pE h;exact dP.unit (ji D j (d m) (d k) (d x) n)
 | extract t K =>
  simp only[aop]at h;have ht:=d t;generalize ρ t=vt at h ht;simp only;generalize C t=ut at ht
  cases ht<;>simp only at h<;>try (cases h;done)
  case tup vs us hl hr =>
   obtain⟨n,rfl⟩:=bD h;have hi:=aB n
   have e:us[K]?=some (us[K]'ω):=by simp[hl,hi]
   exact dP.pure_ j ⟨us[K]'ω,by simp[Instr.extract,e],hr K v _ n e⟩
 | call c =>
  obtain⟨J,args,E⟩:=c
  cases J<;>simp only[aop]at h<;>try (cases h;done)
  rename_i b;simp only[resolve]
  have hargs:∀(i:Nat) (y:V) (u:Value),(args.toList.map ρ)[i]?=some y->(args.map C)[i]?=some u->Rel s y u:=fun i y u G hu=>by
   simp only[uK,vJ,vd]at G;obtain⟨q,hq,rfl⟩:=G;simp only[xu,hq,uS,Option.some.injEq]at hu;subst hu;exact d _
  unfold oU at h;split at h
  .rename_i x t A I;obtain⟨n,rfl⟩:=bD h
   obtain⟨a0,rfl⟩:∃a0,args = #[a0]:=by
    match args,A with
    | ⟨[a0]⟩,_=>exact⟨a0,rfl⟩
    | ⟨[]⟩,A=>simp at A
    | ⟨_::_::_⟩,A=>simp at A
   obtain rfl:E = #[t]:=by cases E;simp at I;simp[I]
   simp at A;subst A;obtain⟨u,k1,F⟩:=len_sound (P:=P) (ty:=o.type) D j (d a0) n;exact⟨.value u,s,by simp[invoke,builtin,k1],rfl,j,Step.refl s,.inl ⟨u,rfl,F⟩⟩
  .rename_i x y t tx A I
   obtain⟨a0,a1,rfl⟩:∃a0 a1,args = #[a0,a1]:=by
    match args,A with
    | ⟨[a0,a1]⟩,_=>exact⟨a0,a1,rfl⟩
    | ⟨[]⟩,A=>simp at A
    | ⟨[_]⟩,A=>simp at A
    | ⟨_::_::_::_⟩,A=>simp at A
   obtain rfl:E = #[t,tx]:=by cases E;simp at I;simp[I]
   simp at A;obtain⟨rfl,rfl⟩:=A;obtain⟨u,s',k1,F,M,O,N⟩:=append_sound (P:=P) (ty:=o.type) D j (d a0) (d a1) h;exact⟨.value u,s',by simp[invoke,builtin,k1],F,M,O,.inl ⟨u,rfl,N⟩⟩
  .rename_i x y t tx A I
   obtain⟨a0,a1,rfl⟩:∃a0 a1,args = #[a0,a1]:=by
    match args,A with
    | ⟨[a0,a1]⟩,_=>exact⟨a0,a1,rfl⟩
    | ⟨[]⟩,A=>simp at A
    | ⟨[_]⟩,A=>simp at A
    | ⟨_::_::_::_⟩,A=>simp at A
   obtain rfl:E = #[t,tx]:=by cases E;simp at I;simp[I]
   simp at A;obtain⟨rfl,rfl⟩:=A;obtain⟨u,s',k1,F,M,O,N⟩:=copy_sound (P:=P) (ty:=o.type) D j (d a0) (d a1) h;exact⟨.value u,s',by simp[invoke,builtin,k1],F,M,O,.inl ⟨u,rfl,N⟩⟩
  .rename_i x t A I
   obtain⟨a0,rfl⟩:∃a0,args = #[a0]:=by
    match args,A with
    | ⟨[a0]⟩,_=>exact⟨a0,rfl⟩
    | ⟨[]⟩,A=>simp at A
    | ⟨_::_::_⟩,A=>simp at A
   obtain rfl:E = #[t]:=by cases E;simp at I;simp[I]
   simp at A;subst A;obtain⟨u,s',k1,F,M,O,N⟩:=clear_sound (P:=P) (ty:=o.type) D j (d a0) h;exact⟨.value u,s',by simp[invoke,builtin,k1],F,M,O,.inl ⟨u,rfl,N⟩⟩
  .obtain⟨n,rfl⟩:=bD h;clear h
   obtain⟨u,k1,F⟩:∃u,(Builtin.max_ E o.type (args.map C)).run P s.w = .ok u s.w/\Rel s v u:=by
    match args,n,hargs with
    | ⟨[]⟩,h,_=>simp[kW]at h
    | ⟨a0::rest⟩,h,hargs =>
     obtain⟨u,k1,F⟩:=mg (P:=P) (g:=Builtin.max2) (fun hx G R=>max2_sound hx G R) (ys:=rest.map ρ) (uys:=rest.map C) (d a0) ζ (fun i y u G hu=>by
      simp only[uK,vd]at G;obtain⟨q,hq,rfl⟩:=G;simp only[uK,hq,uS,Option.some.injEq]at hu
      subst hu;exact d _) h
     exact⟨u,by simpa[Builtin.max_] using k1,F⟩
   exact⟨.value u,s,by simp[invoke,builtin,k1],rfl,j,Step.refl s,.inl ⟨u,rfl,F⟩⟩
  .obtain⟨n,rfl⟩:=bD h;clear h
   obtain⟨u,k1,F⟩:∃u,(Builtin.min_ E o.type (args.map C)).run P s.w = .ok u s.w/\Rel s v u:=by
    match args,n,hargs with
    | ⟨[]⟩,h,_=>simp[kW]at h
    | ⟨a0::rest⟩,h,hargs =>
     obtain⟨u,k1,F⟩:=mg (P:=P) (g:=Builtin.min2) (fun hx G R=>min2_sound hx G R) (ys:=rest.map ρ) (uys:=rest.map C) (d a0) ζ (fun i y u G hu=>by
      simp only[uK,vd]at G;obtain⟨q,hq,rfl⟩:=G;simp only[uK,hq,uS,Option.some.injEq]at hu
      subst hu;exact d _) h
     exact⟨u,by simpa[Builtin.min_] using k1,F⟩
   exact⟨.value u,s,by simp[invoke,builtin,k1],rfl,j,Step.refl s,.inl ⟨u,rfl,F⟩⟩
  .cases h
 | _=>simp[aop]at h
end
end Go.AM
namespace Go.AM
open Go
structure FRel (s:St) (fr:List V) (tmps:Array Value):Prop where
 len:tmps.size=fr.length
 rel:∀(i:Nat) v u,fr[i]?=some v->tmps[i]?=some u->Rel s v u
def bL(fr:List V)(d:Option Tmp)(v:V):List V :=
 match d with
 | some t=>fr.set t v
 | none=>fr
def fu:List Int:=[0,1,28,2,29,14,24,3,30,22,20,15,25,17,4,8,31,27,13,23,21,19,16,7,26,12,18,6,11,5,10,9]
def bitsC(cs:Array Value):Prop:=∀(i:Nat) x,fu[i]?=some x->cs[i]?=some (.int .u8 x)
def gLib:List (String×(Array Value->Prop)):=[("math/bits.deBruijn32tab",bitsC)]
def GOk(P:Program)(s:St):Prop:=∀e∈gLib,∀g,P.globalNamed e.1=some g->s.Prot g/\∃cs t m,s.w.heap[g]?=some (.cells cs t m)/\e.2 cs
def GOk.of{P:Program}{s s':St}(h:GOk P s)(hp:∀b,s.Prot b->s'.Prot b/\s'.w.heap[b]?=s.w.heap[b]?):GOk P s':=fun e he g d=>by
 obtain⟨h1,cs,t,m,h2,c⟩:=h e he g d;obtain⟨a,f⟩:=hp g h1;exact⟨a,cs,t,m,f.trans h2,c⟩
def GOk.step{P:Program}{s s':St}(h:GOk P s)(hs:Step s s'):GOk P s':=h.of fun _ hb=>hs.prot hb
theorem GOk.bits{P:Program}{s:St}(h:GOk P s):∀g,P.globalNamed "math/bits.deBruijn32tab" = some g->s.Prot g/\∀(i:Nat) x,fu[i]?=some x->s.w.cell? ⟨g,i,none⟩=some (.int .u8 x):=fun g b=>by
 obtain⟨h1,cs,t,m,h2,a⟩:=h ("math/bits.deBruijn32tab",bitsC) (by simp[gLib]) g b;exact⟨h1,fun i x hx=>by simp[World.cell?,h2,a i x hx]⟩
def At(P:Program)(s:St)(H:List B):Prop:=s.H=H/\GOk P s
def ak(P:Program)(f:FuncId)(args:List V)(H:List B)(K:V->List B->Prop):Prop :=
 (∃fn,P.funcs[f]?=some fn/\fn.body.isSome=true/\(fn.name == "runtime.NumGoroutine")=false)/\
 ∀(s:St) (vals:Array Value),At P s H->Good s->vals.size=args.length->(∀(i:Nat) a u,args[i]?=some a->vals[i]?=some u->Rel s a u)->
  Calls P f vals s.w fun e b=>∃u s' r,e = .returned u/\s'.w=b/\Good s'/\Step s s'/\Rel s' r u/\K r s'.H
theorem ak.mono{P:Program}{f:FuncId}{args:List V}{H:List B}{K K':V->List B->Prop}(h:ak P f args H K)(hk:∀r H',K r H'->K' r H'):ak P f args H K' :=
 ⟨h.1,fun s vals h1 h2 i j=>(h.2 s vals h1 h2 i j).mono fun _ _ ⟨u,s',r,a,b,c,d,e,g⟩=>⟨u,s',r,a,b,c,d,e,hk _ _ g⟩⟩
def bU(ops:Array Oper)(fr:List V)(o:Oper):Option Bool :=
 match o.guard with
 | none=>some true
 | some (j,want)=>match ops[j]? with
  | some a=>match a.dst with
   | some d=>match fr[d]? with
    | some (.bool b)=>some (b == want)
    | some (.tup _)=>some false
    | _=>none
   | none=>none
  | none=>none
def bF:Go.Op->Option (Operand×List Operand)
 | .call c=>match c.callee with
  | .value f=>some (f,c.args.toList)
  | _=>none
 | _=>none
def aM(P:Program)(a:V)(args:List V)(H:List B)(K:V->List B->Prop):Prop :=
 match a with
 | .fn f caps=>ak P f (args++caps) H K
 | _=>False
theorem aM.mono{P:Program}{a:V}{args:List V}{H:List B}{K K':V->List B->Prop}(h:aM P a args H K)(hk:∀r H',K r H'->K' r H'):aM P a args H K':=by
 cases a<;>simp only[aM]at h ⊢;exact h.mono hk
def jy(T:Ty)(ops:Array Oper)(C:V->List V->List B->(V->List B->Prop)->Prop)(K:List V->List B->Prop):List Oper->List V->List B->Prop
 | [],fr,H=>K fr H
 | o::rest,fr,H =>
  match bU ops fr o with
  | some true=>match bF o.op with
   | some (f,args)=>C (aO fr f) (args.map (aO fr)) H fun r H'=>jy T ops C K rest (bL fr o.dst r) H'
   | none=>match aop T o.op (aO fr) H with
    | some (v,H')=>jy T ops C K rest (bL fr o.dst v) H'
    | none=>False
  | some false=>jy T ops C K rest (bL fr o.dst (.tup [])) H
  | none=>False
def ta(s:St)(Q:Exit->List V->List B->Prop)(e:Exit)(a:Act)(w:World):Prop :=
 ∃fr s',s'.w=w/\Good s'/\Step s s'/\FRel s' fr a.tmps/\a.defers=[]/\Q e fr s'.H
def W(P:Program)(c:Code)(Q:Exit->List V->List B->Prop)(fr:List V)(H:List B):Prop :=
 ∀(s:St) (a:Act),At P s H->Good s->FRel s fr a.tmps->a.defers=[]->c.wp P (ta s Q) a s.w
section
variable {P:Program} {T:Ty} {s:St}
theorem FRel.step{s':St}(hs:Step s s'){fr:List V}{tmps:Array Value}(h:FRel s fr tmps):FRel s' fr tmps:=⟨h.len,fun i v u a b=>(h.rel i v u a b).step hs⟩
theorem FRel.put{fr:List V}{a:Act}(h:FRel s fr a.tmps){v:V}{u:Value}(hv:Rel s v u)(d:Option Tmp):FRel s (bL fr d v) (a.put d u).tmps:=by
 cases d with
 | none=>exact h
 | some t =>
  refine⟨by simp[bL,Act.put,h.len],fun i x y hx b=>?_⟩;simp only[bL]at hx;simp only[Act.put]at b;by_cases hi:i=t
  .subst hi;have hl:=aB hx;simp at hl;rw[uJ hl]at hx
   have:i<a.tmps.size:=by have:=h.len;omega
   simp[this]at b;cases hx;subst b;exact hv
  .rw[uH (Ne.symm hi)]at hx;rw[wW (Ne.symm hi)]at b;exact h.rel i x y hx b
def mU(a:Act)(d:Option Tmp)(u:Value):(a.put d u).defers=a.defers:=by cases d<;>rfl
theorem FRel.eval{fr:List V}{a:Act}(h:FRel s fr a.tmps)(x:Operand):Rel s (aO fr x) (a.eval x):=by
 cases x with
 | tmp t =>
  simp only[aO,Act.eval]
  have key:∀n:Nat,Rel s (fr[n]?.getD .undef) (a.tmps.getD n undef):=fun n=>by
   by_cases ht:n<fr.length
   .have hl:n<a.tmps.size:=by rw[h.len];exact ht
    have b:fr[n]?=some fr[n]:=tm ht
    have d:a.tmps[n]?=some a.tmps[n]:=by simp[hl]
    rw[b,wA];have:=h.rel n _ _ b d;simpa[xV,hl] using this
   .rw[un ω];exact .undef _
  exact key t
 | const v =>
  simp only[aO,Act.eval]
  cases hv:kP v with
  | none=>exact .undef _
  | some x=>exact dp hv
 | global g=>exact .undef _
 | func f=>exact .fn f [] #[] rfl (fun i c u e=>by simp at e)
def ej{ops:Array Oper}{fr:List V}{a:Act}(h:FRel s fr a.tmps){o:Oper}{b:Bool}(c:bU ops fr o=some b):Region.wanted o (yielded ops a.tmps)=b:=by
 unfold bU at c;unfold Region.wanted;split at c
 .rename_i e;cases c;rw[e]
 .rename_i j want e;rw[e];simp only;split at c
  .rename_i l i;split at c
   .rename_i d g
    have hrel:∀v,fr[d]?=some v->∃u,a.tmps[d]?=some u/\Rel s v u:=fun v hv=>by
     have hl:=aB hv
     have f:a.tmps[d]?=some (a.tmps[d]'(by have:=h.len;omega)):=by have:=h.len;simp[this,hl]
     exact⟨_,f,h.rel d v _ hv f⟩
    split at c
    .rename_i k hb;cases c;obtain⟨u,hu,hr⟩:=hrel _ hb;cases hr;simp only[yielded,i,Option.bind_some,g,hu];cases k<;>cases want<;>rfl
    .rename_i vs hb;cases c;obtain⟨u,hu,hr⟩:=hrel _ hb;cases hr;simp[yielded,i,g,hu]
    .cases c
   .cases c
  .cases c
def gq{o:Oper}{f:Operand}{args:List Operand}(j:bF o.op=some (f,args)){fr:List V}{a:Act}(hz:GOk P s)(t:Good s)(hf:FRel s fr a.tmps){K:V->List B->Prop}
  (h:aM P (aO fr f) (args.map (aO fr)) s.H K) {next:Act->World->Prop} {Q:Exit->Act->World->Prop}
  (hk:∀u s' r,Good s'->Step s s'->Rel s' r u->K r s'.H->next (a.put o.dst u) s'.w):o.wp P a s.w next Q:=by
 unfold bF at j;split at j
 .rename_i c ho;split at j
  .rename_i G l;cases j;have b:=hf.eval f;generalize aO fr f=D at h b
   cases D<;>simp only[aM]at h<;>try (cases h;done)
   rename_i g caps;generalize m:a.eval f=uf at b
   cases b with
   | fn _ _ us hl hr =>
    obtain⟨⟨fn,h1,h2,p⟩,d⟩:=h
    have n:(c.args.map a.eval++us).size=(c.args.toList.map (aO fr)++caps).length:=by simp[hl]
    have hrel:∀(i:Nat) x u,(c.args.toList.map (aO fr)++caps)[i]?=some x->(c.args.map a.eval++us)[i]?=some u->Rel s x u:=fun i x u hx hu=>by
     by_cases hi:i<c.args.size
     .rw[tu (by simpa using hi)]at hx;rw[vo,if_pos (by simpa using hi)]at hu;simp only[uK,vJ,vd]at hx;obtain⟨q,hq,rfl⟩:=hx;simp only[xu,hq,uS,Option.some.injEq]at hu;subst hu;exact hf.eval q
     .rw[uD χ]at hx;rw[vo,if_neg χ]at hu;simp only[ud,vV,Array.size_map]at hx hu;exact hr _ x u hx hu
    have C:=d s _ ⟨rfl,hz⟩ t n hrel
    have k:(execOp a.eval o).run P s.w = .ok (.enter g (c.args.map a.eval++us)) s.w:=by
     have hb:¬fn.body=none:=by intro E;rw[E]at h2;cases h2
     have hn:¬fn.name = "runtime.NumGoroutine":=by simpa using p
     unfold execOp;rw[ho];simp[resolve,l,m,Deferred.ofValue,invoke,callFunc,h1,hn,hb]
    unfold Oper.wp;rw[k,Oper.upon_enter]
    refine C.mono fun e F ⟨u,s',r,he,A,k1,y,v,z⟩=>?_
    subst he;subst A;exact hk u s' r k1 y v z
  .cases j
 .cases j
theorem ops_sound(E:TOk P T){ops:Array Oper}{K:List V->List B->Prop}{Q:Exit->Act->World->Prop} : ∀(l:List Oper) (k:Nat) (s:St) (fr:List V) (a:Act),l=ops.toList.drop k->GOk P s->Good s->FRel s fr a.tmps->a.defers=[]->jy T ops (aM P) K l fr s.H ->
  (∀s' d j,Good s'->Step s s'->FRel s' d j.tmps->j.defers=[]->K d s'.H->Q .normal j s'.w)->wpOps P ops Q ((tr ops.size).drop k) a s.w
 | [],k,s,fr,a,hl,_,hg,hf,A,h,hq=>by
  have hk:ops.size<=k:=by have:=congrArg List.length hl;simp at this;omega
  rw[tj (by simpa using hk)];exact hq s fr a hg (Step.refl s) hf A h
 | o::b,k,s,fr,a,hl,hz,hg,hf,A,h,hq=>by
  have hk:k<ops.size:=by
   have:=congrArg List.length hl;simp at this;omega
  have ho:ops[k]?=some o:=by
   have:=congrArg (fun l=>l[0]?) hl;simp at this;exact this.symm
  have g:b=ops.toList.drop (k+1):=by
   have:=congrArg List.tail hl;simpa using this
  rw[th (by simpa using hk)];simp only[List.getElem_range,wpOps,ho];simp only[jy]at h
  have next:∀{e:St} {v:V} {u:Value},Good e->Step s e->Rel e v u->jy T ops (aM P) K b (bL fr o.dst v) e.H->wpOps P ops Q ((tr ops.size).drop (k+1)) (a.put o.dst u) e.w:=fun {e v u} g1 n t D =>
   ops_sound E b (k+1) e (bL fr o.dst v) (a.put o.dst u) g (hz.step n) g1 ((hf.step n).put t o.dst) (by rw[mU];exact A) D (fun s' d j k1 q k3 p z=>hq s' d j k1 (n.trans q) k3 p z)
  split at h
  .rename_i C;rw[ej hf C];simp only[if_true];left;split at h
   .rename_i f args m;exact gq m hz hg hf h (fun u s' r g1 n t D=>next g1 n t D)
   .split at h
    .rename_i v H' y;obtain⟨F,e,k1,q,k3,p,z⟩:=jD (P:=P) E hg (fun x=>hf.eval x) y;subst q;unfold Oper.wp;rw[k1]
     rcases z with⟨u,rfl,hr⟩ | ⟨rfl,rfl⟩
     .rw[Oper.upon_value];exact next k3 p hr h
     .rw[Oper.upon_skip];exact next k3 p (.tup [] #[] rfl (fun i c u m=>by simp at m)) h
    .exact h.elim
  .rename_i C;rw[ej hf C];simp only[uM,if_false];exact next hg (Step.refl s) (.tup [] #[] rfl (fun i c u m=>by simp at m)) h
  .exact h.elim
def W_region(k:TOk P T){id:Nat}{ops:Array Oper}{Q:Exit->List V->List B->Prop}{fr:List V}{H:List B}
  (h:∀(C:V->List V->List B->(V->List B->Prop)->Prop) (K:List V->List B->Prop),(∀c args H K',aM P c args H K'->C c args H K')->(∀fr H,Q .normal fr H->K fr H)->jy T ops C K ops.toList fr H):W P (.region id ops false) Q fr H:=by
 intro s a l d hf i;obtain⟨rfl,hz⟩:=l;refine wp_region ?_;have:=ops_sound k (Q:=ta s Q) ops.toList 0 s fr a ζ hz d hf i (h _ _ (fun _ _ _ _ h=>h) (fun _ _ h=>h)) (fun s' b m k1 g e j f=>⟨b,s',rfl,k1,g,e,j,f⟩);simpa using this
def cK{b c:St}(h:Step b c){Q:Exit->List V->List B->Prop}{e:Exit}{a:Act}{w:World}(hl:ta c Q e a w):ta b Q e a w:=by
 obtain⟨fr,s',a1,d,a3,a4,a5,f⟩:=hl;exact⟨fr,s',a1,d,h.trans a3,a4,a5,f⟩
def W.mono{c:Code}{Q b:Exit->List V->List B->Prop}{fr:List V}{H:List B}(h:W P c Q fr H)(hq:∀e fr H,Q e fr H->b e fr H):W P c b fr H:=fun s a h1 h2 f i =>
 wp_mono (h s a h1 h2 f i) fun _ _ _ ⟨fr,s',a1,d,a3,a4,a5,g⟩=>⟨fr,s',a1,d,a3,a4,a5,hq _ _ _ g⟩
def W_skip{Q:Exit->List V->List B->Prop}{fr:List V}{H:List B}(h:Q .normal fr H):W P .skip Q fr H:=fun s c h1 h2 a b=>wp_skip ⟨fr,s,rfl,h2,Step.refl s,a,b,h1.1▸h⟩
def W_exit{id:Nat}{Q:Exit->List V->List B->Prop}{fr:List V}{H:List B}(h:Q (.exit id) fr H):W P (.exit id) Q fr H:=fun s c h1 h2 a b=>wp_exit ⟨fr,s,rfl,h2,Step.refl s,a,b,h1.1▸h⟩
def W_ret{Q:Exit->List V->List B->Prop}{fr:List V}{H:List B}(h:Q .ret fr H):W P .ret Q fr H:=fun s c h1 h2 a b=>wp_ret ⟨fr,s,rfl,h2,Step.refl s,a,b,h1.1▸h⟩
def mG(N:List V->List B->Prop)(Q:Exit->List V->List B->Prop):Exit->List V->List B->Prop
 | .normal,fr,H=>N fr H
 | e,fr,H=>Q e fr H
def cu{x y:Code}{Q:Exit->List V->List B->Prop}{fr:List V}{H:List B}(h:W P x (mG (W P y Q) Q) fr H):W P (.seq x y) Q fr H:=fun s a h1 h2 i j=>by
 refine wp_seq (wp_mono (h s a h1 h2 i j) fun e g k hl=>?_);obtain⟨c,s',rfl,d,a3,a4,a5,f⟩:=hl
 cases e with
 | normal=>exact wp_mono (f s' g ⟨rfl,h1.2.step a3⟩ d a4 a5) fun _ _ _ b=>cK a3 b
 | _=>exact⟨c,s',rfl,d,a3,a4,a5,f⟩
def W_cond{c:Operand}{x y:Code}{Q:Exit->List V->List B->Prop}{fr:List V}{H:List B}{b:Bool}(e:aO fr c = .bool b)(h:W P (if b then x else y) Q fr H):W P (.cond c x y) Q fr H:=fun s a h1 h2 d f=>by
 have hr:=d.eval c;rw[e]at hr;generalize hu:a.eval c=u at hr;cases hr;exact wp_cond hu (h s a h1 h2 d f)
def iW(id:Nat)(Q:Exit->List V->List B->Prop):Exit->List V->List B->Prop
 | .exit id',fr,H=>if id'=id then Q .normal fr H else Q (.exit id') fr H
 | e,fr,H=>Q e fr H
def oc{id:Nat}{c:Code}{Q:Exit->List V->List B->Prop}{fr:List V}{H:List B}(h:W P c (iW id Q) fr H):W P (.block id c) Q fr H:=fun s a h1 h2 g j=>by
 refine wp_block (wp_mono (h s a h1 h2 g j) fun e k l hl=>?_);obtain⟨b,s',a1,f,a3,a4,a5,d⟩:=hl
 cases e with
 | exit i =>
  simp only[Exit.inBlock,iW]at d ⊢;split
  .rename_i hid;rw[if_pos hid]at d;exact⟨b,s',a1,f,a3,a4,a5,d⟩
  .rename_i hid;rw[if_neg hid]at d;exact⟨b,s',a1,f,a3,a4,a5,d⟩
 | _=>exact⟨b,s',a1,f,a3,a4,a5,d⟩
def oE{p:Nat->Prop}(h:∃n,p n):∃n,p n/\∀m,m<n->¬p m:=by
 obtain⟨n,hn⟩:=h
 induction n using xG with
 | _ n a =>
  by_cases hm:∃m,m<n/\p m
  .obtain⟨m,h1,h2⟩:=hm;exact a m h1 h2
  .exact⟨n,hn,fun m h1 h2=>hm ⟨m,h1,h2⟩⟩
def W_loop{c:Code}{Q:Exit->List V->List B->Prop}(I:Nat->List V->List B->Prop)(j:∀n fr H,I n fr H->W P c (mG (fun g H'=>∃m,m<n/\I m g H') Q) fr H){n:Nat}{fr:List V}{H:List B}(h0:I n fr H):W P (.loop c) Q fr H:=by
 intro s a h1 h2 G F
 let J:Nat->Act->World->Prop:=fun n b d=>∃g s',s'.w=d/\Good s'/\Step s s'/\FRel s' g b.tmps/\b.defers=[]/\I n g s'.H
 have u:∃μ:Act->World->Nat,∀b d,(∃m,J m b d)->J (μ b d) b d/\∀m,m<μ b d->¬J m b d:=by
  have:∀p:Act×World,∃n,(∃m,J m p.1 p.2)->J n p.1 p.2/\∀m,m<n->¬J m p.1 p.2:=fun p=>by
   by_cases h:∃m,J m p.1 p.2
   .obtain⟨n,h1,h2⟩:=oE h;exact⟨n,fun _=>⟨h1,h2⟩⟩
   .exact⟨0,fun M=>absurd M h⟩
  obtain⟨f,hf⟩:=Classical.axiomOfChoice this;exact⟨fun b d=>f (b,d),fun b d h=>hf (b,d) h⟩
 obtain⟨μ,q⟩:=u;refine wp_loop (fun b d=>∃m,J m b d) μ ⟨n,fr,s,rfl,h2,Step.refl s,G,F,h1.1▸h0⟩ (fun b d R=>?_);obtain⟨⟨g,s',rfl,O,t,E,L,N⟩,z⟩:=q b d R
 refine wp_mono (j _ g s'.H N s' b ⟨rfl,h1.2.step t⟩ O E L) fun e o K hl=>?_
 obtain⟨k,i,rfl,x,y,A,C,D⟩:=hl
 cases e with
 | normal =>
  obtain⟨m,hm,v⟩:=D;have r:J m o i.w:=⟨k,i,rfl,x,t.trans y,A,C,v⟩;refine⟨⟨m,r⟩,?_⟩;obtain⟨_,l⟩:=q o i.w ⟨m,r⟩
  rcases uP m (μ o i.w) with h | h
  .exact absurd r (l m h)
  .omega
 | _=>exact⟨k,i,rfl,x,t.trans y,A,C,D⟩
end
end Go.AM
namespace Go.AM
open Go
def nN(T:Ty)(fr:List V)(H:List B):ResultVar->Option V
 | .tmp t=>fr[t]?
 | .cell a t=>match fr[a]? with
  | some p=>sA T H t p
  | none=>none
def dJ(T:Ty)(fr:List V)(H:List B):List ResultVar->Option (List V)
 | []=>some []
 | r::rs=>match nN T fr H r,dJ T fr H rs with
  | some v,some vs=>some (v::vs)
  | _,_=>none
def pm:List V->V
 | [v]=>v
 | vs=>.tup vs
def retQ(T:Ty)(rs:List ResultVar)(K:V->List B->Prop)(e:Exit)(fr:List V)(H:List B):Prop :=
 match e with
 | .normal | .ret=>match dJ T fr H rs with
  | some vs=>K (pm vs) H
  | none=>False
 | _=>False
section
variable {P:Program} {T:Ty} {s:St}
theorem mapM_run{a:Type}{g:a->Sem Value}{w:World} : ∀{l:List a} {us:List Value},l.length=us.length->(∀(i:Nat) x u,l[i]?=some x->us[i]?=some u->(g x).run P w = .ok u w)->(l.mapM g).run P w = .ok us w
 | [],[],_,_=>by simp
 | x::l,u::us,hl,h=>by
  have h0:=h 0 x u rfl rfl;have b:=mapM_run (l:=l) (us:=us) (by simpa using hl) (fun i y v c hv=>h (i+1) y v (by simpa using c) (by simpa using hv));simp[List.mapM_cons,h0,b]
theorem res_sound(g:TOk P T)(f:Good s){fr:List V}{tmps:Array Value}(hf:FRel s fr tmps):∀{rs:List ResultVar} {vs:List V},dJ T fr s.H rs=some vs ->
  ∃us:List Value,us.length=vs.length/\rs.length=vs.length/\(∀(i:Nat) v u,vs[i]?=some v->us[i]?=some u->Rel s v u)/\
   ∀(i:Nat) r u,rs[i]?=some r->us[i]?=some u->(match r with
    | .tmp t=>Pure.pure (tmps.getD t undef)
    | .cell a t=>do loadVar t (<-asAddr (tmps.getD a undef)):Sem Value).run P s.w = .ok u s.w
 | [],vs,h=>by simp[dJ]at h;subst h;exact⟨[],rfl,rfl,ζ,ζ⟩
 | r::rs,vs,h=>by
  simp only[dJ]at h;split at h
  .rename_i v q h1 h2;cases h;obtain⟨us,k1,l,m,A⟩:=res_sound g f hf h2
   have c:∀n x,fr[n]?=some x->∃u,tmps.getD n undef=u/\Rel s x u:=fun n x hx=>by
    have hl:=aB hx
    have d:n<tmps.size:=by rw[hf.len];exact hl
    have o:tmps[n]?=some tmps[n]:=by simp[d]
    exact⟨_,rfl,by have:=hf.rel n x _ hx o;simpa[xV,d] using this⟩
   have one:∃u,(match r with
    | .tmp t=>Pure.pure (tmps.getD t undef)
    | .cell a t=>do loadVar t (<-asAddr (tmps.getD a undef)):Sem Value).run P s.w = .ok u s.w/\Rel s v u:=by
    cases r with
    | tmp t =>
     obtain⟨u,e,hr⟩:=c t v h1;exact⟨u,by simp[e],hr⟩
    | cell a t =>
     simp only[nN]at h1;split at h1
     .rename_i p hp;obtain⟨u,e,hr⟩:=c a p hp;obtain⟨y,q1,k⟩:=rz (P:=P) g f hr h1;refine⟨y,?_,k⟩;simp only;rw[e]
      cases hr<;>simp only[sA]at h1<;>try (cases h1;done)
      all_goals simpa[Instr.loadAt,Instr.sureAddr,asAddr] using q1
     .cases h1
   obtain⟨u,j,z⟩:=one;refine⟨u::us,by simp[k1],by simp[l],fun i a b ha hb=>?_,fun i a b ha hb=>?_⟩
   .cases i with
    | zero=>simp at ha hb;subst ha;subst hb;exact z
    | succ i=>exact m i a b (by simpa using ha) (by simpa using hb)
   .cases i with
    | zero=>simp at ha hb;subst ha;subst hb;exact j
    | succ i=>exact A i a b (by simpa using ha) (by simpa using hb)
  .cases h
def pack_rel{vs:List V}{us:List Value}(hl:us.length=vs.length)(h:∀(i:Nat) v u,vs[i]?=some v->us[i]?=some u->Rel s v u):
  Rel s (pm vs) (if h:us.toArray.size=1 then us.toArray[0] else .tuple us.toArray):=by
 match vs,us,hl with
 | [v],[u],_=>exact h 0 v u rfl rfl
 | [],[],_=>exact .tup [] #[] rfl ζ
 | v::v'::vs,u::u'::us,hl =>
  rw[dif_neg ζ];exact .tup _ _ (by simpa using hl) (fun i a b ha hb=>h i a b ha (by simpa using hb))
def aH(y:TOk P T){f:FuncId}{fn:Func}{c:Code}(hf:P.funcs[f]?=some fn)(hb:fn.body=some c)(hn:(fn.name == "runtime.NumGoroutine")=false){args:List V}{H:List B}{K:V->List B->Prop}
  (h:W P c (retQ T fn.results.toList K) (args++tg (fn.ntmps-args.length) (.tup [])) H):ak P f args H K:=by
 refine⟨⟨fn,hf,by rw[hb];rfl,hn⟩,fun s vals z p n hrel=>?_⟩;refine calls_of_wp hf hb ?_
 have k:FRel s (args++tg (fn.ntmps-args.length) (.tup [])) (vals++xW (fn.ntmps-vals.size) undef):=by
  refine⟨by simp[n],fun i v u hv hu=>?_⟩;by_cases hi:i<args.length
  .rw[tu hi]at hv;rw[vo,if_pos ω]at hu;exact hrel i v u hv hu
  .rw[uD ω]at hv;rw[vo,if_neg ω]at hu;have A:=vn (tn hv)
   have t:u=undef:=by simp[Array.getElem?_replicate]at hu;exact hu.2.symm
   subst A;subst t;exact .tup [] #[] rfl ζ
 refine wp_mono (h s _ z p k rfl) fun e a w hl=>?_
 obtain⟨j,s',rfl,o,a3,a4,a5,d⟩:=hl
 have g:(match dJ T j s'.H fn.results.toList with
   | some vs=>K (pm vs) s'.H
   | none=>False)->a.defers=[]/\∃v,(results fn a.tmps).run P s'.w = .ok v s'.w/\∃u b r,Ending.returned v = .returned u/\b.w=s'.w/\Good b/\Step s b/\Rel b r u/\K r b.H:=fun hk=>by
  split at hk
  .rename_i vs m;obtain⟨us,k1,C,q,x⟩:=res_sound (P:=P) y o a4 m;refine⟨a5,_,?_,_,s',pm vs,rfl,rfl,o,a3,pack_rel k1 q,hk⟩;have hm:=mapM_run (P:=P) (w:=s'.w) (l:=fn.results.toList) (us:=us) ω x;unfold results;rw[Array.mapM_eq_mapM_toList];simp only[Sem.run_bind,Sem.run_map]
   erw [hm]
   simp
  .exact hk.elim
 cases e with
 | normal=>exact g d
 | ret=>exact g d
 | exit id=>exact d.elim
 | goto l=>exact d.elim
 | panic ch=>exact d.elim
 | outgrown=>exact d.elim
end
end Go.AM
namespace Go.AM
open Go Go.RowKit
inductive Pure:V->Prop
 | bool (b:Bool):Pure (.bool b)
 | int (k:IntKind) (n:Int):Pure (.int k n)
 | str (x:ByteArray):Pure (.str x)
 | nilS:Pure .nilS
 | lst (z:Nat) (full:Bool) (xs:List V) (h:∀x∈xs,Pure x):Pure (.lst z full xs)
 | nilP:Pure .nilP
 | pin (cs:List V) (off:Nat) (h:∀c∈cs,Pure c):Pure (.pin cs off)
 | nilM:Pure .nilM
 | fn (f:FuncId):Pure (.fn f [])
 | nilFn:Pure .nilFn
 | nilI:Pure .nilI
 | ifc:Pure .ifc
 | agg (cs:List V) (h:∀c∈cs,Pure c):Pure (.agg cs)
 | tup (vs:List V) (h:∀v∈vs,Pure v):Pure (.tup vs)
theorem Pure.cells{x:V}(h:Pure x):∀c∈x.cells,Pure c:=by
 cases h with
 | agg cs h=>exact h
 | _=>intro c a;simp[V.cells]at a;subst a;constructor<;>assumption
inductive Scalar:V->Prop
 | bool (b:Bool):Scalar (.bool b)
 | int (k:IntKind) (n:Int):Scalar (.int k n)
 | str (x:ByteArray):Scalar (.str x)
 | nilS:Scalar .nilS
 | nilI:Scalar .nilI
 | ifc:Scalar .ifc
 | agg (cs:List V) (h:∀c∈cs,Scalar c):Scalar (.agg cs)
 | tup (vs:List V) (h:∀v∈vs,Scalar v):Scalar (.tup vs)
def base(F:Nat->Prop)(w:World):St:=⟨F,w,id,id,[]⟩
def base_good{F:Nat->Prop}{w:World}(h:∀b,F b->b<w.heap.size):Good (base F w):=⟨h,fun k hk=>by have:=hk.1;simp[base]at this,fun j k a=>by have:=a.1;simp[base]at this,fun k bl hk=>by simp[base]at hk⟩
section
variable {P:Program} {T:Ty} {s t:St}
def Rel.pure_{v:V}{u:Value}(h:Rel s v u)(hp:Pure v)(q:∀b,s.Prot b->t.Prot b/\t.w.heap[b]?=s.w.heap[b]?):Rel t v u:=by
 induction h with
 | undef u=>cases hp
 | bool b=>exact .bool b
 | int k n=>exact .int k n
 | str x=>exact .str x
 | nilS=>exact .nilS
 | lst z full xs A cap b off u hcap hfull hA hz hcell hrel d =>
  cases hp with
  | lst _ _ _ hx =>
   refine .lst z full xs A cap b off u hcap hfull (fun h0=>⟨(hA h0).1,(q b (hA h0).2).1⟩) hz (fun i x j c hi a=>?_) (fun i x j c hi a=>d i x j c hi a ((hx x (tn hi)).cells c (tn a)))
   have h0:0<xs.length:=by have:=aB hi;omega
   rw[World.cell?_of_block (q b (hA h0).2).2];exact hcell i x j c hi a
 | buf k off len tot e z xs fz A l c hk ht r=>cases hp
 | nilP=>exact .nilP
 | ptr k off cs hk=>cases hp
 | pin cs off b o u m h1 hcell hrel d =>
  cases hp with
  | pin _ _ g =>
   refine .pin cs off b o u (q b m).1 h1 (fun j c a=>?_) (fun j c a=>d j c a (g c (tn a)));rw[World.cell?_of_block (q b m).2];exact hcell j c a
 | pbuf k i off tot e z xs fz p hk ht r=>cases hp
 | sarr k n cs hk=>cases hp
 | nilM=>exact .nilM
 | map k kk es hk=>cases hp
 | fn f caps us hl r d=>cases hp;exact .fn f [] us hl (fun i c u g=>by simp at g)
 | nilFn=>exact .nilFn
 | nilI=>exact .nilI
 | ifc t x=>exact .ifc t x
 | agg cs us hl h1 r d=>cases hp with | agg _ g=>exact .agg cs us hl h1 (fun i c u h2 y=>d i c u h2 y (g c (tn h2)))
 | tup vs us hl r d=>cases hp with | tup _ g=>exact .tup vs us hl (fun i c u h2 y=>d i c u h2 y (g c (tn h2)))
def Rel.scalar{v:V}{u:Value}(h:Rel s v u)(hp:Scalar v):Rel t v u:=by
 induction h with
 | bool b=>exact .bool b
 | int k n=>exact .int k n
 | str x=>exact .str x
 | nilS=>exact .nilS
 | nilI=>exact .nilI
 | ifc t x=>exact .ifc t x
 | agg cs us hl h1 f d=>cases hp with | agg _ e=>exact .agg cs us hl h1 (fun i c u h2 a=>d i c u h2 a (e c (tn h2)))
 | tup vs us hl f d=>cases hp with | tup _ e=>exact .tup vs us hl (fun i c u h2 a=>d i c u h2 a (e c (tn h2)))
 | _=>cases hp
inductive Exp (H:List B):V->V->Prop
 | pure (v:V) (h:Pure v):Exp H v v
 | buf (k off len e z:Nat) (xs:List V) (fz:Bool) (hk:H[k]?=some (.buf e z xs fz)) (ho:off+len<=xs.length) (hp:∀x∈xs,Pure x):Exp H (.buf k off len xs.length) (.lst z false ((xs.drop off).take len))
def hold(s:St)(open_:Nat->Prop):Nat->Prop:=fun b=>s.F b\/∃k,Lv s k/\s.φ k=b/\¬open_ k/\∀e z xs,s.H[k]?≠some (.buf e z xs true)
theorem GOk.hold(h:GOk P s)(op:Nat->Prop):GOk P (base (hold s op) s.w):=h.of fun b h1=>by
 refine⟨⟨h1.1,?_,fun k hk=>by have:=hk.1;simp[base]at this⟩,rfl⟩;rintro(hf | ⟨k,hk,e,_,d⟩)
 .exact h1.2.1 hf
 .obtain⟨e',f,a,c⟩:=h1.2.2 k hk e;exact d e' f a c
def Rel.exp(g:Good s){open_:Nat->Prop}{v v':V}{u:Value}(h:Rel s v u)(he:Exp s.H v v')(ho:∀k off len tot,v = .buf k off len tot->open_ k):Rel (base (hold s open_) s.w) v' u:=by
 have D:∀b,s.Prot b->(base (hold s open_) s.w).Prot b/\(base (hold s open_) s.w).w.heap[b]?=s.w.heap[b]?:=fun b hb=>by
  refine⟨⟨hb.1,?_,fun k hk=>by have:=hk.1;simp[base]at this⟩,rfl⟩;rintro(h | ⟨k,hk,e,_,C⟩)
  .exact hb.2.1 h
  .obtain⟨e',I,B,t⟩:=hb.2.2 k hk e;exact C e' I B t
 cases he with
 | pure _ hp=>exact h.pure_ hp D
 | buf k off len e z xs fz hk K hp =>
  cases h with
  | buf _ _ _ _ S T E M A l c o ht J =>
   rw[hk]at o;cases o;obtain⟨hA,rfl,hcap,_⟩:=J rfl;by_cases q:l=0
   .subst q;rw[xO];exact dq z false A c (fun h=>by cases h)
   obtain⟨_,_,_,F,_⟩:=g.blk k _ hk
   have m:s.κ k≠0:=by omega
   have hA:=hA m;subst hA;have a:=lvB hk m
   have G:(base (hold s open_) s.w).Prot (s.φ k):=by
    refine⟨(g.lt k a).1,?_,fun k hk=>by have:=hk.1;simp[base]at this⟩;rintro(h | ⟨k',y,e',hn,_⟩)
    .exact(g.lt k a).2 h
    .have:=g.inj k' k y a e';subst this;exact hn (ho _ _ _ _ rfl)
   obtain⟨vs,P,N,R,O,L,Q⟩:=g.blk k _ hk
   have n:((xs.drop off).take l).length=l:=by simp;omega
   have f:∀i x,((xs.drop off).take l)[i]?=some x->xs[off+i]?=some x:=fun i x hi=>by
    have:=aB hi;rw[uz,if_pos ω,vN]at hi;exact hi
   have:=Rel.lst (s:=base (hold s open_) s.w) z false ((xs.drop off).take l) (some ⟨s.φ k,off*z,none⟩) c (s.φ k) (off*z) (fun i j=>(s.w.cell? ⟨s.φ k,off*z+i*z+j,none⟩).getD Go.undef) ω ζ (fun _=>⟨rfl,G⟩)
    (fun x hx=>L x (vF (uh hx)))
    (fun i x j d hx p=>by
     obtain⟨_,_,r⟩:=je g hk (f i x hx);obtain⟨u,hu,_⟩:=r j d p;rw[uR]at hu;show s.w.cell? _=_
     rw[hu];rfl)
    (fun i x j d hx p=>by
     obtain⟨_,_,r⟩:=je g hk (f i x hx);obtain⟨u,hu,hr⟩:=r j d p;rw[uR]at hu;rw[hu]
     exact hr.pure_ ((hp x (tn (f i x hx))).cells d (tn p)) D)
   rwa [n]at this
def Enters(P:Program)(f:FuncId):Prop:=∃fn,P.funcs[f]?=some fn/\fn.body.isSome=true/\(fn.name == "runtime.NumGoroutine")=false
def aK(P:Program)(f:FuncId)(args:List V)(K:V->Prop):Prop :=
 Enters P f/\∀(F:Nat->Prop) (w:World) (vals:Array Value),GOk P (base F w)->(∀b,F b->b<w.heap.size)->vals.size=args.length->(∀(i:Nat) a u,args[i]?=some a->vals[i]?=some u->Rel (base F w) a u)->
  Calls P f vals w fun e c=>∃u r,e = .returned u/\Pure r/\Rel (base F c) r u/\Below w.heap.size w c/\K r
def ia(P:Program)(f:FuncId)(args:List V)(K:Nat->Nat->List V->Prop):Prop :=
 Enters P f/\∀(F:Nat->Prop) (w:World) (vals:Array Value),GOk P (base F w)->(∀b,F b->b<w.heap.size)->vals.size=args.length->(∀(i:Nat) a u,args[i]?=some a->vals[i]?=some u->Rel (base F w) a u)->
  Calls P f vals w fun e d=>∃u e' z xs A g c,e = .returned u/\u = .slice A xs.length c/\(c≠0->A=some ⟨g,0,none⟩)/\(∀x∈xs,Pure x)/\(c≠0->w.heap.size<=g)/\Good ⟨F,d,fun _=>g,fun _=>c,[.buf e' z xs false]⟩/\Below w.heap.size w d/\K e' z xs
def iX{F:Nat->Prop}{w:World}{s':St}(h:Step (base F w) s'):Below w.heap.size w s'.w:=⟨h.os,h.tape,h.output,h.size,fun b hb=>h.out b hb (fun k hk=>by have:=hk.1;simp[base]at this)⟩
def bM{f:FuncId}{args:List V}{K:V->Prop}(h:ak P f args [] fun r H=>∃a,Exp H r a/\Pure a/\K a):aK P f args K:=by
 refine⟨h.1,fun F w vals l j d hrel=>?_⟩
 refine(h.2 (base F w) vals ⟨rfl,l⟩ (base_good j) d hrel).mono fun e o ⟨u,s',r,a1,i,a3,a4,a5,a,m,g,n⟩=>?_
 subst i;have hb:=iX a4;refine⟨u,a,a1,g,?_,hb,n⟩;have c:s'.F=F:=a4.F;have hr:=a5.exp a3 (open_:=fun _=>True) m (fun _ _ _ _ _=>trivial);exact hr.pure_ (t:=base F s'.w) g (fun b hb=>⟨⟨hb.1,fun hf=>hb.2.1 (Or.inl (by rw[c];exact hf)),fun k hk=>by have:=hk.1;simp[base]at this⟩,rfl⟩)
def conO_of_conH{f:FuncId}{args:List V}{K:Nat->Nat->List V->Prop}(h:ak P f args [] fun r H=>∃k e z xs,r = .buf k 0 xs.length xs.length/\H[k]?=some (.buf e z xs false)/\(∀x∈xs,Pure x)/\K e z xs):ia P f args K:=by
 refine⟨h.1,fun F w vals Q U p hrel=>?_⟩
 refine(h.2 (base F w) vals ⟨rfl,Q⟩ (base_good U) p hrel).mono fun e W ⟨u,s',r,a1,O,a3,a4,a5,k,e',z,xs,D,g,v,a9⟩=>?_
 subst O;subst D;have hb:=iX a4
 have n:s'.κ k≠0->w.heap.size<=s'.φ k:=fun hz=>a4.new k (by simp[base]) (lvB g hz)
 have a:s'.F=F:=a4.F
 cases a5 with
 | buf _ _ _ _ X Z B T A l c o ht L =>
  rw[g]at o;cases o;obtain⟨hA,rfl,hcap,_⟩:=L rfl;rw[vD]at hcap;subst hcap;refine⟨_,e',z,xs,A,s'.φ k,s'.κ k,a1,rfl,fun hz=>by simpa using hA hz,v,n,?_,hb,a9⟩;obtain⟨vs,G,C,N,E,S,I⟩:=a3.blk k _ g
  have R:∀b,s'.Prot b->(St.mk F s'.w (fun _=>s'.φ k) (fun _=>s'.κ k) [.buf e' z xs false]).Prot b/\s'.w.heap[b]?=s'.w.heap[b]?:=fun b hb=>by
   refine⟨⟨hb.1,by rw[<-a];exact hb.2.1,fun i hi he=>?_⟩,rfl⟩;obtain⟨Y,z3,M,t⟩:=hb.2.2 k (lvB g (hi.2 e' z xs false (by have:=hi.1;simp at this;subst this;rfl))) he;rw[g]at t;cases t
  refine⟨fun b s=>by have:=a3.fl b (by rw[a];exact s);exact this,fun i hi=>by
   have m:=lvB g (hi.2 e' z xs false (by have:=hi.1;simp at this;subst this;rfl))
   exact⟨(a3.lt k m).1,by have:=(a3.lt k m).2;rw[a]at this;exact this⟩,fun i j hi J _=>by have:=hi.1;have:=J.1;simp at *;omega,fun i bl hi=>?_⟩
  have q:i=0:=by have:=aB hi;simp at this;omega
  subst q;simp at hi;subst hi;exact⟨vs,G,C,N,E,S,fun i x j d u hx y hu=>(I i x j d u hx y hu).pure_ ((v x (tn hx)).cells d (tn y)) R⟩
def fq{f:FuncId}{args c:List V}{K:V->Prop}{H:List B}(h:aK P f c K)(hl:args.length=c.length)(he:∀(i:Nat) a g,args[i]?=some a->c[i]?=some g->Exp H a g)
  (hs:(∀a∈args,Pure a)\/∀r,K r->Scalar r):ak P f args H fun r H'=>H'=H/\Pure r/\K r:=by
 refine⟨h.1,fun s vals A j C hrel=>?_⟩;obtain⟨rfl,z⟩:=A
 let op:Nat->Prop:=fun _=>¬∀a∈args,Pure a
 have o:∀b,hold s op b->b<s.w.heap.size:=by
  rintro b (h | ⟨k,hk,rfl,_⟩)
  .exact j.fl b h
  .exact(j.lt k hk).1
 refine(h.2 (hold s op) s.w vals (z.hold op) o ω (fun i g u d hu=>?_)).mono fun e l ⟨u,r,a1,q,a3,a4,a5⟩=>?_
 .have hi:i<args.length:=by have:=aB d;omega
  have ha:args[i]?=some args[i]:=tm hi;refine(hrel i _ u ha hu).exp j (he i _ g ha d) (fun k off len tot e hall=>?_);have:=hall _ (ti hi);rw[e]at this;cases this
 .obtain⟨x,v⟩:=ig j (w:=l) a4.os a4.tape a4.output a4.size a4.block;refine⟨u,s.at l,r,a1,rfl,x,v,?_,rfl,q,a5⟩
  rcases hs with hs | hs
  .refine a3.pure_ (t:=s.at l) q (fun b hb=>⟨⟨hb.1,fun hf=>hb.2.1 (Or.inl hf),fun k hk e=>?_⟩,rfl⟩)
   refine Classical.byContradiction fun p=>?_
   exact hb.2.1 (Or.inr ⟨k,hk,e,fun hn=>hn hs,fun e' y n m=>p ⟨e',y,n,m⟩⟩)
  .exact a3.scalar (hs r a5)
def jY{f:FuncId}{args:List V}{K:Nat->Nat->List V->Prop}(h:ia P f args K):aK P f args fun r=>∃e z xs,r = .lst z false xs/\K e z xs:=by
 refine⟨h.1,fun F w vals m l a hrel=>?_⟩
 refine(h.2 F w vals m l a hrel).mono fun e d ⟨u,e',z,xs,A,g,c,a1,i,n,a3,a4,a5,o,j⟩=>?_
 subst i;refine⟨_,.lst z false xs,a1,.lst _ _ _ a3,?_,o,e',z,xs,rfl,j⟩;have hr:Rel ⟨F,d,fun _=>g,fun _=>c,[.buf e' z xs false]⟩ (.buf 0 0 xs.length xs.length) (.slice A xs.length c):=.buf 0 0 xs.length xs.length e' z xs false _ _ _ rfl (uA _) (fun _=>⟨fun hz=>by simpa using n hz,rfl,ζ,ζ⟩);have hx:Exp [B.buf e' z xs false] (.buf 0 0 xs.length xs.length) (.lst z false ((xs.drop 0).take xs.length)):=.buf 0 0 xs.length e' z xs false rfl ζ a3;have:=hr.exp a5 (open_:=fun _=>True) hx (fun _ _ _ _ _=>trivial);simp only[uG,uV]at this;exact this.pure_ (t:=base F d) (.lst _ _ _ a3) (fun b hb=>⟨⟨hb.1,fun hf=>hb.2.1 (Or.inl hf),fun k hk=>by have:=hk.1;simp[base]at this⟩,rfl⟩)
def conH_of_conO{f:FuncId}{args:List V}{K:Nat->Nat->List V->Prop}{H:List B}(h:ia P f args K)(hp:∀a∈args,Pure a):
  ak P f args H fun r H'=>∃e z xs,r = .buf H.length 0 xs.length xs.length/\H'=H++[.buf e z xs false]/\(∀x∈xs,Pure x)/\K e z xs:=by
 refine⟨h.1,fun s vals hH o C hrel=>?_⟩;obtain⟨rfl,hZ⟩:=hH
 have O:∀b,hold s (fun _=>False) b->b<s.w.heap.size:=by
  rintro b (h | ⟨k,hk,rfl,_⟩)
  .exact o.fl b h
  .exact(o.lt k hk).1
 refine(h.2 (hold s fun _=>False) s.w vals (hZ.hold _) O C (fun i a u ha hu=>?_)).mono fun e v ⟨u,e',z,xs,A,J,c,a1,a2,W,a3,a4,a5,l,R⟩=>?_
 .exact(hrel i a u ha hu).exp o (.pure a (hp a (tn ha))) (fun k off len tot e=>by have:=hp a (tn ha);rw[e]at this;cases this)
 .subst a2;by_cases m:c=0
  .subst m;obtain⟨_,_,_,I,_⟩:=a5.blk 0 _ rfl;obtain rfl:xs=[]:=vL (by simpa using I);obtain⟨p1,U⟩:=nQ o 0 e' z false l.os l.tape l.output l.size l.block;refine⟨_,s.push v 0 0 (.buf e' z [] false),.buf s.H.length 0 0 0,a1,rfl,p1,U,?_,e',z,[],rfl,rfl,a3,R⟩;refine .buf s.H.length 0 0 0 e' z [] false _ _ _ (by simp[St.push]) (uA _) (fun _=>?_);simp only[St.push,aR];exact⟨fun h=>absurd rfl h,ζ,ζ,ζ⟩
  have a4:=a4 m;have hA:=W m;subst hA;have M:J<v.heap.size:=(a5.lt 0 (lvB (e:=e') (z:=z) (xs:=xs) (fz:=false) rfl m)).1;obtain⟨g,y⟩:∃g,g=J:=⟨J,rfl⟩;subst y;have q:=ep (bl:=.buf e' z xs false) (c:=c) o l.os l.tape l.output l.size l.block a4;refine⟨_,s.push v g c (.buf e' z xs false),.buf s.H.length 0 xs.length xs.length,a1,rfl,gD o l.os l.tape l.output l.size l.block a4 M (fun q=>?_),q,?_,e',z,xs,rfl,rfl,a3,R⟩
  .obtain⟨vs,Z,T,I,Y,g6,g7⟩:=a5.blk 0 _ rfl;refine⟨vs,fun _=>by simp only[St.push,aR];exact Z m,by simp only[St.push,aR];exact T,by simp only[St.push,aR];exact I,by simp only[St.push,aR];exact Y,g6,fun i x j d u hx S hu=>(g7 i x j d u hx S hu).pure_ (t:=s.push v g c (.buf e' z xs false)) ((a3 x (tn hx)).cells d (tn S)) (fun b hb=>⟨⟨hb.1,fun hf=>hb.2.1 (Or.inl hf),fun k hk he=>?_⟩,rfl⟩)⟩;by_cases n:k<s.H.length
   .have p:Lv s k:=⟨n,fun X z1 L N E=>by
     have:=hk.2 X z1 L N (by simp only[St.push];rw[tu n];exact E)
     rwa [show(s.push v g c (.buf e' z xs false)).κ k=s.κ k from cM _ _ ω]at this⟩
    simp only[St.push]at he ⊢;rw[cM _ _ ω]at he;rw[tu n]
    refine Classical.byContradiction fun Q=>?_
    exact hb.2.1 (Or.inr ⟨k,p,he,fun h=>h,fun e3 z3 G D=>Q ⟨e3,z3,G,D⟩⟩)
   .have F:k=s.H.length:=by have:=hk.1;simp[St.push]at this;omega
    subst F;simp only[St.push,aR]at he;obtain⟨_,_,_,D⟩:=hb.2.2 0 (lvB (e:=e') (z:=z) (xs:=xs) (fz:=false) rfl m) he;simp at D
  .refine .buf s.H.length 0 xs.length xs.length e' z xs false _ _ _ (by simp[St.push]) (uA _) (fun _=>?_);simp only[St.push,aR];exact⟨fun _=>by simp,trivial,ζ,ζ⟩
end
end Go.AM
end
