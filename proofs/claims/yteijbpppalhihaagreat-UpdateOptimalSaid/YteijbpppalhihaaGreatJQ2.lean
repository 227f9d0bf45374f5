/- JQ2: own texts of this seat, joined and shortened by pack.py: AMc, AMd, AMe. -/
import Derived.Test.YteijbpppalhihaaGreatJQ1
import Derived.KernelRfl
import Derived.Orders
set_option linter.unusedVariables false
set_option linter.unusedSimpArgs false
set_option maxRecDepth 100000
set_option maxHeartbeats 64000000
section
namespace Go.AM
open Go
def eqA(T:Ty)(H:List B)(t:TypeId)(x y:V):Option Bool :=
 match T t with
 | none=>none
 | some i=>match i.desc,x,y with
  | .bool,.bool a,.bool b=>some (a == b)
  | .slice _,.nilS,.nilS=>some true
  | .slice _,.lst _ _ (_::_),.nilS=>some false
  | .slice _,.nilS,.lst _ _ (_::_)=>some false
  | .slice _,.buf k _ _ tot,.nilS=>match H[k]? with
   | some (.buf _ _ xs _)=>if xs.length=tot∧0<tot then some false else none
   | _=>none
  | .pointer _,.nilP,.nilP=>some true
  | .pointer _,.ptr _ _,.nilP=>some false
  | .pointer _,.nilP,.ptr _ _=>some false
  | .pointer _,.pin _ _,.nilP=>some false
  | .map _ _,.nilM,.nilM=>some true
  | .map _ _,.map _,.nilM=>some false
  | .func _ _ _,.nilFn,.nilFn=>some true
  | .func _ _ _,.fn _ _,.nilFn=>some false
  | _,_,_=>none
def eqFs(T:Ty)(f:TypeId→V→V→Option Bool)(xs ys:List V):List Field→Option Bool
 | []=>some true
 | fd::r=>if fd.name = "_" then none else match jn T fd.type xs fd.offset,jn T fd.type ys fd.offset with
  | some a,some b=>match f fd.type a b with
   | some true=>eqFs T f xs ys r
   | some false=>some false
   | none=>none
  | _,_=>none
def eqAr(T:Ty)(f:TypeId→V→V→Option Bool)(e z:Nat)(xs ys:List V):List Nat→Option Bool
 | []=>some true
 | i::r=>match jn T e xs (i*z),jn T e ys (i*z) with
  | some a,some b=>match f e a b with
   | some true=>eqAr T f e z xs ys r
   | some false=>some false
   | none=>none
  | _,_=>none
def eqD(T:Ty):Nat→TypeId→V→V→Option Bool
 | 0,_,_,_=>none
 | d+1,t,x,y=>match T t with
  | none=>none
  | some i=>match i.desc,x,y with
   | .bool,.bool a,.bool b=>some (a == b)
   | .int _,.int k a,.int k' b=>if k=k' then some (a == b) else none
   | .string,.str a,.str b=>some (a == b)
   | .struct fs,.agg xs,.agg ys=>if i.eq then eqFs T (eqD T d) xs ys fs.toList else none
   | .array n e,.agg xs,.agg ys=>if i.eq then(match T e with
    | some j=>eqAr T (eqD T d) e j.size xs ys (List.range n)
    | none=>none) else none
   | _,_,_=>none
def gT(T:Ty)(H:List B)(t:TypeId)(x y:V):Option Bool :=
 match x,y with
 | .agg _,.agg _=>eqD T 10000 t x y
 | _,_=>eqA T H t x y
def binTA(T:Ty)(H:List B)(op:BinOp)(t:TypeId)(x y:V):Option V :=
 match binA op x y with
 | some r=>some r
 | none=>match op with
  | .eql=>(gT T H t x y).map .bool
  | .neq=>(gT T H t x y).map fun b=>.bool !b
  | _=>none
def convA(T:Ty)(dst:TypeId):V→Option V
 | .int _ n=>match T dst with
  | some i=>match i.desc with
   | .int k=>some (.int k (k.wrap n))
   | _=>none
  | none=>none
 | .str s=>match T dst with
  | some i=>match i.desc with
   | .string=>some (.str s)
   | _=>none
  | none=>none
 | _=>none
def me(T:Ty)(H:List B)(b:Builtin)(args:List V)(ts:List TypeId):Option (V×List B):=
 match b,args,ts with
 | .len,[x],[t]=>(lenA T H t x).map (·,H)
 | .append,[x,y],[t,tx]=>oo T H t tx x y
 | .copy,[x,y],[t,tx]=>copyA T H t tx x y
 | .clear,[x],[t]=>clearA T H t x
 | .max,xs,_=>(jc max2A xs).map (·,H)
 | .min,xs,_=>(jc min2A xs).map (·,H)
 | _,_,_=>none
def aop(T:Ty)(o:Go.Op)(ρ:Operand→V)(H:List B):Option (V×List B):=
 match o with
 | .move x | .assign x=>some (ρ x,H)
 | .pick c a b=>match ρ c with
  | .bool t=>some (if t then ρ a else ρ b,H)
  | _=>none
 | .alloc e=>allocA T H e
 | .box _ x=>boxA H (ρ x)
 | .build t parts=>(buildA T t (parts.toList.map fun p=>(p.1,ρ p.2))).map (·,H)
 | .buildSlice t len parts=>(gj T t len (parts.toList.map fun p=>(p.1,ρ p.2))).map (·,H)
 | .load t a=>(ph T H t (ρ a)).map (·,H)
 | .store t a x=>(storeA T H t (ρ a) (ρ x)).map (V.tup [],·)
 | .nilCheck x=>match ρ x with
  | .ptr k off=>some (.ptr k off,H)
  | .pin cs off=>some (.pin cs off,H)
  | .pbuf k i off tot=>some (.pbuf k i off tot,H)
  | .fn f caps=>some (.fn f caps,H)
  | _=>none
 | .binOp op t x y _=>(binTA T H op t (ρ x) (ρ y)).map (·,H)
 | .unOp op _ x=>(unA op (ρ x)).map (·,H)
 | .convert src dst x=>if(T src).isSome=true then(convA T dst (ρ x)).map (·,H) else none
 | .makeFunc fn first caps=>match fn with
  | .func f=>if first.size=0 then some (.fn f (caps.toList.map ρ),H) else none
  | _=>none
 | .makeMap t r=>match r with
  | none=>pf T H t
  | some _=>none
 | .makeSlice t l c=>makeA T H t (ρ l) (ρ c)
 | .slice t x lo hi mx=>(sliceA T H t (ρ x) (lo.map ρ) (hi.map ρ) (mx.map ρ)).map (·,H)
 | .fieldAddr st x f=>(iy T st f (ρ x)).map (·,H)
 | .field st x f=>(mD T st f (ρ x)).map (·,H)
 | .indexAddr t x ix=>(iv T H t (ρ x) (ρ ix)).map (·,H)
 | .index t x ix=>(indexA T t (ρ x) (ρ ix)).map (·,H)
 | .lookup t m k c=>(oX T H t (ρ m) (ρ k) c).map (·,H)
 | .mapUpdate t m k v=>(gC T H t (ρ m) (ρ k) (ρ v)).map (V.tup [],·)
 | .insert t m k v=>(gC T H t (ρ m) (ρ k) (ρ v)).map (V.tup [],·)
 | .extract t ix=>match ρ t with
  | .tup vs=>(vs[ix]?).map (·,H)
  | _=>none
 | .call c=>match c.callee with
  | .builtin b=>me T H b (c.args.toList.map ρ) c.argTypes.toList
  | _=>none
 | _=>none
section
variable {P:Program} {T:Ty} {s:St}
def plainEq:Value→Bool
 | .bool _ | .slice .. | .pointer _ | .map _ | .func .. | .nilFunc=>true
 | _=>false
theorem gd{t:TypeId}{ux uy:Value}(h:plainEq ux=true)(op:BinOp)(ox oy:Operand):(eqGuard op t ox oy ux uy).run P s.w = .ok () s.w:=by
 have e:(match ux,uy with
   | .nilIface,.nilIface=>true
   | .agg _,.agg _=>true
   | _,_=>false)=false:=by cases ux<;>first | rfl | (simp[plainEq]at h)
 unfold eqGuard
 cases ux<;>simp only[plainEq]at h<;>first | (cases h;done) | (cases op<;>simp)
theorem equal_one(t:TypeId)(x y:Value):Op.equal t x y=Op.equalIn (9999+1) t x y:=rfl
theorem eq_sound(hT:TOk P T)(hg:Good s){t:TypeId}{x y:V}{ux uy:Value}{b:Bool}(hx:Rel s x ux)(hy:Rel s y uy)(h:eqA T s.H t x y=some b):
  (Op.equal t ux uy).run P s.w = .ok b s.w∧(∀(op:BinOp) ox oy,(eqGuard op t ox oy ux uy).run P s.w = .ok () s.w)∧
  binOp .eql t ux uy=(do pure (.bool (←Op.equal t ux uy)))∧binOp .neq t ux uy=(do pure (.bool (!(←Op.equal t ux uy)))):=by
 unfold eqA at h;split at h
 ·cases h
 ·rename_i i hi;have hu:=hT.und t i hi;generalize i.desc=d at hu h;rw[equal_one,Op.equalIn];split at h<;>(try (cases h;done))
  all_goals (first | (cases hx;cases hy;cases h;refine⟨?_,(fun op ox oy=>gd rfl op ox oy),rfl,rfl⟩;simp[run_underlying hu];done) | skip)
  ·cases hy;cases h
   cases hx with
   | lst _ _ _ A cap bb off u hcap hfull hA hz hcell hrel =>
    obtain⟨rfl,_⟩:=hA (by simp);exact⟨by simp[run_underlying hu],(fun op ox oy=>gd rfl op ox oy),rfl,rfl⟩
  ·cases hx;cases h
   cases hy with
   | lst _ _ _ A cap bb off u hcap hfull hA hz hcell hrel =>
    obtain⟨rfl,_⟩:=hA (by simp);exact⟨by simp[run_underlying hu],(fun op ox oy=>gd rfl op ox oy),rfl,rfl⟩
  ·cases hy
   cases hx with
   | buf _ _ _ _ e z xs fz A l c hk ht hh =>
    rw[hk]at h;simp only at h;split at h
    ·rename_i he;cases h;obtain⟨hA,_⟩:=hh he.1.symm;obtain⟨_,_,_,hk4,_⟩:=hg.blk _ _ hk;have hA:=hA (by omega);subst hA;exact⟨by simp[run_underlying hu],(fun op ox oy=>gd rfl op ox oy),rfl,rfl⟩
    ·cases h
theorem px{α:Type}{w:World}{body:α→(Option Bool×Unit)→Sem (ForInStep ((Option Bool×Unit)))} : ∀{l:List α} {b:Bool} {bs:List Bool},l.length=bs.length→(∀(i:Nat) x c,l[i]?=some x→bs[i]?=some c→(∀j,j<i→bs[j]?=some true)→(body x (none,())).run P w = .ok (if c then .yield (none,()) else .done (some false,())) w)→b=bs.all id →
  (forIn l (none,()) body).run P w = .ok (if b then none else some false,()) w
 | [],b,[],_,_,hb=>by subst hb;simp
 | x::l,b,c::bs,hl,h,hb=>by
  have h0:=h 0 x c rfl rfl (fun j hj=>absurd hj (by omega));rw[List.forIn_cons];simp only[Sem.run_bind,h0,Result.andThen_ok]
  cases c with
  | false=>subst hb;simp
  | true =>
   have ih:=px (l:=l) (bs:=bs) (b:=b) (by simpa using hl) (fun i y c hy hc hj=>h (i+1) y c (by simpa using hy) (by simpa using hc) (fun j hj'=>by
    cases j with
    | zero=>rfl
    | succ j=>simpa using hj j (by omega))) (by subst hb;simp)
   simpa using ih
theorem eqD_sound(hT:TOk P T):∀(d:Nat) {t:TypeId} {x y:V} {ux uy:Value} {b:Bool},Rel s x ux→Rel s y uy→eqD T d t x y=some b→(Op.equalIn d t ux uy).run P s.w = .ok b s.w
 | 0,t,x,y,ux,uy,b,hx,hy,h=>by simp[eqD]at h
 | d+1,t,x,y,ux,uy,b,hx,hy,h=>by
  have ih:=@eqD_sound hT d;simp only[eqD]at h;split at h
  ·cases h
  ·rename_i i hi;have hu:=hT.und t i hi;have heq:=hT.eq t i hi;generalize i.desc=de at hu h;rw[Op.equalIn];split at h
   ·cases hx;cases hy;cases h;simp[run_underlying hu]
   ·cases hx;cases hy;split at h
    ·rename_i hk;cases h;simp[run_underlying hu,hk]
    ·cases h
   ·cases hx;cases hy;cases h;simp[run_underlying hu]
   ·rename_i fs xs ys;split at h
    ·rename_i he
     cases hx with
     | agg _ us hl h1 hh =>
      cases hy with
      | agg _ vs hl2 h12 hh2 =>
       simp only[Sem.run_bind,run_underlying hu,Result.andThen_ok,run_program,(heq he).1,Bool.false_eq_true,if_false,←Array.forIn_toList]
       have key:∃bs:List Bool,fs.toList.length=bs.length∧b=bs.all id∧∀(i:Nat) f c,fs.toList[i]?=some f→bs[i]?=some c→(∀j,j<i→bs[j]?=some true)→f.name≠ "_"∧∃ua ub,(part f.type us f.offset).run P s.w = .ok ua s.w∧(part f.type vs f.offset).run P s.w = .ok ub s.w∧(Op.equalIn d f.type ua ub).run P s.w = .ok c s.w:=by
        generalize fs.toList=l at h;clear hu heq
        induction l with
        | nil=>simp only[eqFs,Option.some.injEq]at h;exact⟨[],rfl,by simp[←h],by simp⟩
        | cons f l ihl =>
         simp only[eqFs]at h;split at h
         ·cases h
         ·rename_i hn;split at h
          ·rename_i a c ha hc;obtain⟨ua,p1,p2⟩:=eg (P:=P) hT hl h1 hh ha;obtain⟨ub,p3,p4⟩:=eg (P:=P) hT hl2 h12 hh2 hc;split at h
           ·rename_i hf;obtain⟨bs,k1,k2,k3⟩:=ihl h;refine⟨true::bs,by simp[k1],by simp[k2],fun i g c' hg hc' hj=>?_⟩
            cases i with
            | zero=>simp at hg hc';subst hg;subst hc';exact⟨hn,ua,ub,p1,p3,ih p2 p4 hf⟩
            | succ i=>exact k3 i g c' (by simpa using hg) (by simpa using hc') (fun j hj'=>by simpa using hj (j+1) (by omega))
           ·rename_i hf;cases h;refine⟨false::List.replicate l.length false,by simp,by simp,fun i g c' hg hc' hj=>?_⟩
            cases i with
            | zero=>simp at hg hc';subst hg;subst hc';exact⟨hn,ua,ub,p1,p3,ih p2 p4 hf⟩
            | succ i=>have:=hj 0 (by omega);simp at this
           ·cases h
          ·cases h
       obtain⟨bs,k1,k2,k3⟩:=key;rw[px (P:=P) (w:=s.w) k1 (fun i f c hf hc hj=>?_) k2]
       ·cases b<;>simp
       ·obtain⟨hn,ua,ub,p1,p2,p3⟩:=k3 i f c hf hc hj;simp only[ne_eq,hn,not_false_eq_true,if_true,Sem.run_bind,p1,p2,p3,Result.andThen_ok];cases c<;>simp
    ·cases h
   ·rename_i n e xs ys;split at h
    ·rename_i he;split at h
     ·rename_i j hj
      cases hx with
      | agg _ us hl h1 hh =>
       cases hy with
       | agg _ vs hl2 h12 hh2 =>
        simp only[Sem.run_bind,run_underlying hu,Result.andThen_ok,bD hT hj,Std.Legacy.Range.forIn_eq_forIn_range']
        have key:∃bs:List Bool,(List.range n).length=bs.length∧b=bs.all id∧∀(i:Nat) f c,(List.range n)[i]?=some f→bs[i]?=some c→(∀j,j<i→bs[j]?=some true)→∃ua ub,(part e us (f*j.size)).run P s.w = .ok ua s.w∧(part e vs (f*j.size)).run P s.w = .ok ub s.w∧(Op.equalIn d e ua ub).run P s.w = .ok c s.w:=by
         generalize List.range n=l at h;clear hu heq
         induction l with
         | nil=>simp only[eqAr,Option.some.injEq]at h;exact⟨[],rfl,by simp[←h],by simp⟩
         | cons f l ihl =>
          simp only[eqAr]at h;split at h
          ·rename_i a c ha hc;obtain⟨ua,p1,p2⟩:=eg (P:=P) hT hl h1 hh ha;obtain⟨ub,p3,p4⟩:=eg (P:=P) hT hl2 h12 hh2 hc;split at h
           ·rename_i hf;obtain⟨bs,k1,k2,k3⟩:=ihl h;refine⟨true::bs,by simp[k1],by simp[k2],fun i g c' hg hc' hj=>?_⟩
            cases i with
            | zero=>simp at hg hc';subst hg;subst hc';exact⟨ua,ub,p1,p3,ih p2 p4 hf⟩
            | succ i=>exact k3 i g c' (by simpa using hg) (by simpa using hc') (fun j hj'=>by simpa using hj (j+1) (by omega))
           ·rename_i hf;cases h;refine⟨false::List.replicate l.length false,by simp,by simp,fun i g c' hg hc' hj=>?_⟩
            cases i with
            | zero=>simp at hg hc';subst hg;subst hc';exact⟨ua,ub,p1,p3,ih p2 p4 hf⟩
            | succ i=>have:=hj 0 (by omega);simp at this
           ·cases h
          ·cases h
        obtain⟨bs,k1,k2,k3⟩:=key
        have hr:List.range' 0 n 1=List.range n:=by rw[List.range_eq_range']
        simp only[Std.Legacy.Range.size,Nat.sub_zero,Nat.add_sub_cancel,Nat.div_one,hr];rw[px (P:=P) (w:=s.w) k1 (fun i f c hf hc hj=>?_) k2]
        ·cases b<;>simp
        ·obtain⟨ua,ub,p1,p2,p3⟩:=k3 i f c hf hc hj;simp only[Sem.run_bind,p1,p2,p3,Result.andThen_ok];cases c<;>simp
     ·cases h
    ·cases h
   ·cases h
theorem eqD_top(hT:TOk P T){t:TypeId}{xs ys:List V}{b:Bool}(h:eqD T 10000 t (.agg xs) (.agg ys)=some b):P.eqGuardType P.depth t=false:=by
 rw[show(10000:Nat)=9999+1 from rfl,eqD]at h;split at h
 ·cases h
 ·rename_i i hi;have heq:=hT.eq t i hi;split at h
  ·rename_i e1 e2;cases e1
  ·rename_i e1 e2;cases e1
  ·rename_i e1 e2;cases e1
  ·split at h
   ·rename_i he;exact(heq he).2
   ·cases h
  ·split at h
   ·rename_i he;exact(heq he).2
   ·cases h
  ·cases h
theorem eq2_sound(hT:TOk P T)(hg:Good s){t:TypeId}{x y:V}{ux uy:Value}{b:Bool}(hx:Rel s x ux)(hy:Rel s y uy)(h:gT T s.H t x y=some b):
  (Op.equal t ux uy).run P s.w = .ok b s.w∧(∀(op:BinOp) ox oy,(eqGuard op t ox oy ux uy).run P s.w = .ok () s.w)∧
  binOp .eql t ux uy=(do pure (.bool (←Op.equal t ux uy)))∧binOp .neq t ux uy=(do pure (.bool (!(←Op.equal t ux uy)))):=by
 unfold gT at h;split at h
 ·have h1:=eqD_sound (P:=P) hT 10000 hx hy h;have h2:=eqD_top (P:=P) hT h;cases hx;cases hy;refine⟨h1,fun op ox oy=>?_,rfl,rfl⟩;unfold eqGuard;cases op<;>simp[run_program,h2]
 ·exact eq_sound hT hg hx hy h
theorem binT_sound(hT:TOk P T)(hg:Good s){op:BinOp}{t:TypeId}{x y r:V}{ux uy:Value}{ox oy:Operand}(hx:Rel s x ux)(hy:Rel s y uy)(h:binTA T s.H op t x y=some r):
  ∃u,(do eqGuard op t ox oy ux uy;binOp op t ux uy:Sem Value).run P s.w = .ok u s.w∧Rel s r u:=by
 unfold binTA at h;split at h
 ·rename_i r' hr;cases h;exact bin_sound hx hy hr
 ·split at h
  ·cases hb:gT T s.H t x y with
   | none=>rw[hb]at h;cases h
   | some b =>
    rw[hb]at h;cases h;obtain⟨k1,k2,k3,k4⟩:=eq2_sound (P:=P) hT hg hx hy hb;exact⟨.bool b,by simp only[Sem.run_bind,k2,Result.andThen_ok,k3,k1,Sem.run_pure],.bool _⟩
  ·cases hb:gT T s.H t x y with
   | none=>rw[hb]at h;cases h
   | some b =>
    rw[hb]at h;cases h;obtain⟨k1,k2,k3,k4⟩:=eq2_sound (P:=P) hT hg hx hy hb;exact⟨.bool !b,by simp only[Sem.run_bind,k2,Result.andThen_ok,k4,k1,Sem.run_pure],.bool _⟩
  ·cases h
theorem conv_sound(hT:TOk P T){src dst:TypeId}{x r:V}{ux:Value}(hx:Rel s x ux)(h:convA T dst x=some r)(hs:∃i,T src=some i):∃u,(convert src dst ux).run P s.w = .ok u s.w∧Rel s r u:=by
 obtain⟨i,hi⟩:=hs;have hus:=hT.und src i hi
 cases hx<;>simp only[convA]at h<;>try (cases h;done)
 case int k n =>
  split at h
  ·rename_i j hj;have hu:=hT.und dst j hj;split at h
   ·rename_i k' hd;rw[hd]at hu;cases h;exact⟨.int k' (k'.wrap n),by simp[convert,run_underlying hus,run_underlying hu,Conv.intToInt],.int _ _⟩
   ·cases h
  ·cases h
 case str st =>
  split at h
  ·rename_i j hj;have hu:=hT.und dst j hj;split at h
   ·rename_i hd;rw[hd]at hu;cases h;exact⟨.string st,by simp[convert,run_underlying hus,run_underlying hu],.str _⟩
   ·cases h
  ·cases h
end
end Go.AM
namespace Go.AM
open Go
def dP(P:Program)(s:St)(v:V)(H':List B)(x:Sem Next):Prop :=
 ∃nx s',x.run P s.w = .ok nx s'.w∧s'.H=H'∧Good s'∧Step s s'∧((∃u,nx = .value u∧Rel s' v u)∨(nx = .skip∧v = .tup []))
section
variable {P:Program} {T:Ty} {s:St}
theorem dP.pure_(hg:Good s){v:V}{x:Sem Value}(h:∃u,x.run P s.w = .ok u s.w∧Rel s v u):dP P s v s.H (do Pure.pure (.value (←x))):=by
 obtain⟨u,h1,h2⟩:=h;exact⟨.value u,s,by simp[h1],rfl,hg,Step.refl s,.inl ⟨u,rfl,h2⟩⟩
theorem dP.val{v:V}{H':List B}{x:Sem Value}(h:∃u s',x.run P s.w = .ok u s'.w∧s'.H=H'∧Good s'∧Step s s'∧Rel s' v u):dP P s v H' (do Pure.pure (.value (←x))):=by
 obtain⟨u,s',h1,h2,h3,h4,h5⟩:=h;exact⟨.value u,s',by simp[h1],h2,h3,h4,.inl ⟨u,rfl,h5⟩⟩
theorem dP.unit{H':List B}{x:Sem Unit}(h:∃s',x.run P s.w = .ok () s'.w∧s'.H=H'∧Good s'∧Step s s'):dP P s (.tup []) H' (do x;Pure.pure .skip):=by
 obtain⟨s',h1,h2,h3,h4⟩:=h;exact⟨.skip,s',by simp[h1],h2,h3,h4,.inr ⟨rfl,rfl⟩⟩
theorem dP.here(hg:Good s){v:V}{u:Value}(h:Rel s v u):dP P s v s.H (Pure.pure (.value u)):=⟨.value u,s,by simp,rfl,hg,Step.refl s,.inl ⟨u,rfl,h⟩⟩
theorem pV{ρ:Operand→V}{ρc:Operand→Value}(hρ:∀x,Rel s (ρ x) (ρc x))(x:Option Operand):jt s (x.map ρ) (x.map ρc):=by
 cases x with
 | none=>trivial
 | some x=>exact hρ x
theorem bL{α:Type}{x:Option α}{H H':List B}{v:α}(h:x.map (fun a=>(a,H))=some (v,H')):x=some v∧H=H':=by
 cases x with
 | none=>cases h
 | some a=>cases h;exact⟨rfl,rfl⟩
theorem nD{x:Option (List B)}{v w:V}{H':List B}(h:x.map (fun a=>(w,a))=some (v,H')):x=some H'∧w=v:=by
 cases x with
 | none=>cases h
 | some a=>cases h;exact⟨rfl,rfl⟩
theorem iZ(hT:TOk P T)(hg:Good s){ρ:Operand→V}{ρc:Operand→Value}(hρ:∀x,Rel s (ρ x) (ρc x)){o:Oper}{v:V}{H':List B}(h:aop T o.op ρ s.H=some (v,H')):dP P s v H' (execOp ρc o):=by
 unfold execOp;generalize o.op=op at h ⊢
 have parts:∀(ps:Array (Nat×Operand)),(ps.toList.map fun p=>(p.1,ρ p.2)).length=(ps.map fun(i,x)=>(i,ρc x)).size ∧
   ∀(i:Nat) p u,(ps.toList.map fun p=>(p.1,ρ p.2))[i]?=some p→(ps.map fun(i,x)=>(i,ρc x))[i]?=some u→p.1=u.1∧Rel s p.2 u.2:=fun ps=>by
  refine⟨by simp,fun i p u hp hu=>?_⟩;simp only[List.getElem?_map,Array.getElem?_toList,Option.map_eq_some_iff]at hp;obtain⟨q,hq,rfl⟩:=hp;simp only[Array.getElem?_map,hq,Option.map_some,Option.some.injEq]at hu;subst hu;exact⟨rfl,hρ _⟩
 cases op with
 | move x=>cases h;exact dP.here hg (hρ x)
 | assign x=>cases h;exact dP.here hg (hρ x)
 | pick c a b =>
  simp only[aop]at h;have hc:=hρ c;generalize ρ c=vc at h hc
  cases vc<;>simp only at h<;>try (cases h;done)
  cases h;rename_i t
  have hc':ρc c = .bool t:=by generalize ρc c=uc at hc;cases hc;rfl
  refine⟨.value (if t then ρc a else ρc b),s,by simp[hc',asBool],rfl,hg,Step.refl s,.inl ⟨_,rfl,?_⟩⟩;cases t
  ·exact hρ b
  ·exact hρ a
 | alloc e=>exact dP.val (alloc_sound hT hg h)
 | box e x=>exact dP.val (box_sound hg (hρ x) h)
 | build t ps =>
  obtain⟨h',rfl⟩:=bL h;exact dP.pure_ hg (build_sound hT (parts ps).1 (parts ps).2 h')
 | buildSlice t len ps =>
  obtain⟨h',rfl⟩:=bL h;exact dP.val (nW hT hg (parts ps).1 (parts ps).2 h')
 | load t a =>
  obtain⟨h',rfl⟩:=bL h;exact dP.pure_ hg (pg hT hg (hρ a) h')
 | store t a x =>
  obtain⟨h',rfl⟩:=nD h;exact dP.unit (store_sound hT hg (hρ a) (hρ x) h')
 | nilCheck x =>
  simp only[aop]at h;have hx:=hρ x;generalize ρ x=vx at h hx;simp only;generalize ρc x=ux at hx
  cases hx<;>simp only at h<;>try (cases h;done)
  case ptr k off cs hk=>cases h;exact dP.here hg (.ptr k off cs hk)
  case pin cs off b o u a1 a2 a3 a4=>cases h;exact dP.here hg (.pin cs off b o u a1 a2 a3 a4)
  case pbuf k i off tot e z xs fz p a1 a2 a3=>cases h;exact dP.here hg (.pbuf k i off tot e z xs fz p a1 a2 a3)
  case fn f caps us a1 a2=>cases h;exact dP.here hg (.fn f caps us a1 a2)
 | binOp op t x y ty =>
  obtain⟨h',rfl⟩:=bL h;exact dP.pure_ hg (binT_sound hT hg (hρ x) (hρ y) h')
 | unOp op t x =>
  obtain⟨h',rfl⟩:=bL h;exact dP.pure_ hg (un_sound (hρ x) h')
 | convert src dst x =>
  simp only[aop]at h;split at h
  ·rename_i hs;obtain⟨h',rfl⟩:=bL h;exact dP.pure_ hg (conv_sound hT (hρ x) h' (Option.isSome_iff_exists.1 hs))
  ·cases h
 | makeFunc fn first caps =>
  cases fn<;>simp only[aop]at h<;>try (cases h;done)
  rename_i f;split at h
  ·rename_i h0;cases h
   have:first = #[]:=Array.eq_empty_of_size_eq_zero h0
   subst this;refine dP.pure_ hg ⟨.func (.func f) #[] (caps.map ρc),by simp[Instr.makeFunc],.fn f _ _ (by simp) (fun i c u hc hu=>?_)⟩;simp only[List.getElem?_map,Array.getElem?_toList,Option.map_eq_some_iff]at hc;obtain⟨q,hq,rfl⟩:=hc;simp only[Array.getElem?_map,hq,Option.map_some,Option.some.injEq]at hu;subst hu;exact hρ _
  ·cases h
 | makeMap t r =>
  cases r with
  | some x=>simp[aop]at h
  | none =>
   simp only[aop,pf]at h;split at h
   ·rename_i kk e hk;exact dP.val (makeMap_sound hg h)
   ·cases h
 | makeSlice t l c=>exact dP.val (make_sound hT hg (hρ l) (hρ c) h)
 | slice t x lo hi mx =>
  obtain⟨h',rfl⟩:=bL h;exact dP.pure_ hg (slice_sound hT hg (hρ x) (pV hρ lo) (pV hρ hi) (pV hρ mx) h')
 | fieldAddr st x f =>
  obtain⟨h',rfl⟩:=bL h;exact dP.pure_ hg (oF hT (hρ x) h')
 | field st x f =>
  obtain⟨h',rfl⟩:=bL h;exact dP.pure_ hg (field_sound hT (hρ x) h')
 | indexAddr t x ix =>
  obtain⟨h',rfl⟩:=bL h;exact dP.pure_ hg (oE hT hg (hρ x) (hρ ix) h')
 | index t x ix =>
  obtain⟨h',rfl⟩:=bL h;exact dP.pure_ hg (index_sound hT (hρ x) (hρ ix) h')
 | lookup t m k c =>
  obtain⟨h',rfl⟩:=bL h;exact dP.pure_ hg (lookup_sound hT hg (hρ m) (hρ k) h')
 | mapUpdate t m k x =>
  obtain⟨h',rfl⟩:=nD h;exact dP.unit (jK hT hg (hρ m) (hρ k) (hρ x) h')
 | insert t m k x =>
  obtain⟨h',rfl⟩:=nD h;exact dP.unit (jK hT hg (hρ m) (hρ k) (hρ x) h')
 | extract t ix =>
  simp only[aop]at h;have ht:=hρ t;generalize ρ t=vt at h ht;simp only;generalize ρc t=ut at ht
  cases ht<;>simp only at h<;>try (cases h;done)
  case tup vs us hl hr =>
   obtain⟨h',rfl⟩:=bL h;have hi:=aE h'
   have e:us[ix]?=some (us[ix]'(by omega)):=by simp[hl,hi]
   exact dP.pure_ hg ⟨us[ix]'(by omega),by simp[Instr.extract,e],hr ix v _ h' e⟩
 | call c =>
  obtain⟨callee,args,ats⟩:=c
  cases callee<;>simp only[aop]at h<;>try (cases h;done)
  rename_i b;simp only[resolve]
  have hargs:∀(i:Nat) (y:V) (u:Value),(args.toList.map ρ)[i]?=some y→(args.map ρc)[i]?=some u→Rel s y u:=fun i y u hy hu=>by
   simp only[List.getElem?_map,Array.getElem?_toList,Option.map_eq_some_iff]at hy;obtain⟨q,hq,rfl⟩:=hy;simp only[Array.getElem?_map,hq,Option.map_some,Option.some.injEq]at hu;subst hu;exact hρ _
  unfold me at h;split at h
  ·rename_i x t e1 e2;obtain⟨h',rfl⟩:=bL h
   obtain⟨a0,rfl⟩:∃a0,args = #[a0]:=by
    match args,e1 with
    | ⟨[a0]⟩,_=>exact⟨a0,rfl⟩
    | ⟨[]⟩,e1=>simp at e1
    | ⟨_::_::_⟩,e1=>simp at e1
   obtain rfl:ats = #[t]:=by cases ats;simp at e2;simp[e2]
   simp at e1;subst e1;obtain⟨u,k1,k2⟩:=len_sound (P:=P) (ty:=o.type) hT hg (hρ a0) h';exact⟨.value u,s,by simp[invoke,builtin,k1],rfl,hg,Step.refl s,.inl ⟨u,rfl,k2⟩⟩
  ·rename_i x y t tx e1 e2
   obtain⟨a0,a1,rfl⟩:∃a0 a1,args = #[a0,a1]:=by
    match args,e1 with
    | ⟨[a0,a1]⟩,_=>exact⟨a0,a1,rfl⟩
    | ⟨[]⟩,e1=>simp at e1
    | ⟨[_]⟩,e1=>simp at e1
    | ⟨_::_::_::_⟩,e1=>simp at e1
   obtain rfl:ats = #[t,tx]:=by cases ats;simp at e2;simp[e2]
   simp at e1;obtain⟨rfl,rfl⟩:=e1;obtain⟨u,s',k1,k2,k3,k4,k5⟩:=append_sound (P:=P) (ty:=o.type) hT hg (hρ a0) (hρ a1) h;exact⟨.value u,s',by simp[invoke,builtin,k1],k2,k3,k4,.inl ⟨u,rfl,k5⟩⟩
  ·rename_i x y t tx e1 e2
   obtain⟨a0,a1,rfl⟩:∃a0 a1,args = #[a0,a1]:=by
    match args,e1 with
    | ⟨[a0,a1]⟩,_=>exact⟨a0,a1,rfl⟩
    | ⟨[]⟩,e1=>simp at e1
    | ⟨[_]⟩,e1=>simp at e1
    | ⟨_::_::_::_⟩,e1=>simp at e1
   obtain rfl:ats = #[t,tx]:=by cases ats;simp at e2;simp[e2]
   simp at e1;obtain⟨rfl,rfl⟩:=e1;obtain⟨u,s',k1,k2,k3,k4,k5⟩:=copy_sound (P:=P) (ty:=o.type) hT hg (hρ a0) (hρ a1) h;exact⟨.value u,s',by simp[invoke,builtin,k1],k2,k3,k4,.inl ⟨u,rfl,k5⟩⟩
  ·rename_i x t e1 e2
   obtain⟨a0,rfl⟩:∃a0,args = #[a0]:=by
    match args,e1 with
    | ⟨[a0]⟩,_=>exact⟨a0,rfl⟩
    | ⟨[]⟩,e1=>simp at e1
    | ⟨_::_::_⟩,e1=>simp at e1
   obtain rfl:ats = #[t]:=by cases ats;simp at e2;simp[e2]
   simp at e1;subst e1;obtain⟨u,s',k1,k2,k3,k4,k5⟩:=clear_sound (P:=P) (ty:=o.type) hT hg (hρ a0) h;exact⟨.value u,s',by simp[invoke,builtin,k1],k2,k3,k4,.inl ⟨u,rfl,k5⟩⟩
  ·obtain⟨h',rfl⟩:=bL h;clear h
   obtain⟨u,k1,k2⟩:∃u,(Builtin.max_ ats o.type (args.map ρc)).run P s.w = .ok u s.w∧Rel s v u:=by
    match args,h',hargs with
    | ⟨[]⟩,h,_=>simp[jc]at h
    | ⟨a0::rest⟩,h,hargs =>
     obtain⟨u,k1,k2⟩:=kw (P:=P) (g:=Builtin.max2) (fun hx hy hh=>max2_sound hx hy hh) (ys:=rest.map ρ) (uys:=rest.map ρc) (hρ a0) (by simp) (fun i y u hy hu=>by
      simp only[List.getElem?_map,Option.map_eq_some_iff]at hy;obtain⟨q,hq,rfl⟩:=hy;simp only[List.getElem?_map,hq,Option.map_some,Option.some.injEq]at hu
      subst hu;exact hρ _) h
     exact⟨u,by simpa[Builtin.max_] using k1,k2⟩
   exact⟨.value u,s,by simp[invoke,builtin,k1],rfl,hg,Step.refl s,.inl ⟨u,rfl,k2⟩⟩
  ·obtain⟨h',rfl⟩:=bL h;clear h
   obtain⟨u,k1,k2⟩:∃u,(Builtin.min_ ats o.type (args.map ρc)).run P s.w = .ok u s.w∧Rel s v u:=by
    match args,h',hargs with
    | ⟨[]⟩,h,_=>simp[jc]at h
    | ⟨a0::rest⟩,h,hargs =>
     obtain⟨u,k1,k2⟩:=kw (P:=P) (g:=Builtin.min2) (fun hx hy hh=>min2_sound hx hy hh) (ys:=rest.map ρ) (uys:=rest.map ρc) (hρ a0) (by simp) (fun i y u hy hu=>by
      simp only[List.getElem?_map,Option.map_eq_some_iff]at hy;obtain⟨q,hq,rfl⟩:=hy;simp only[List.getElem?_map,hq,Option.map_some,Option.some.injEq]at hu
      subst hu;exact hρ _) h
     exact⟨u,by simpa[Builtin.min_] using k1,k2⟩
   exact⟨.value u,s,by simp[invoke,builtin,k1],rfl,hg,Step.refl s,.inl ⟨u,rfl,k2⟩⟩
  ·cases h
 | _=>simp[aop]at h
end
end Go.AM
namespace Go.AM
open Go
structure FRel (s:St) (fr:List V) (tmps:Array Value):Prop where
 len:tmps.size=fr.length
 rel:∀(i:Nat) v u,fr[i]?=some v→tmps[i]?=some u→Rel s v u
def bJ(fr:List V)(d:Option Tmp)(v:V):List V :=
 match d with
 | some t=>fr.set t v
 | none=>fr
def bitsTab:List Int:=[0,1,28,2,29,14,24,3,30,22,20,15,25,17,4,8,31,27,13,23,21,19,16,7,26,12,18,6,11,5,10,9]
def GOk(P:Program)(s:St):Prop:=∀g,P.globalNamed "math/bits.deBruijn32tab" = some g→s.Prot g∧∀(i:Nat) x,bitsTab[i]?=some x→s.w.cell? ⟨g,i,none⟩=some (.int .u8 x)
theorem GOk.step{P:Program}{s s':St}(h:GOk P s)(hs:Step s s'):GOk P s':=fun g hg =>
 ⟨(hs.prot (h g hg).1).1,fun i x hx=>by rw[World.cell?_of_block (hs.prot (h g hg).1).2];exact(h g hg).2 i x hx⟩
def At(P:Program)(s:St)(H:List B):Prop:=s.H=H∧GOk P s
def bA(P:Program)(f:FuncId)(args:List V)(H:List B)(K:V→List B→Prop):Prop :=
 (∃fn,P.funcs[f]?=some fn∧fn.body.isSome=true∧(fn.name == "runtime.NumGoroutine")=false)∧
 ∀(s:St) (vals:Array Value),At P s H→Good s→vals.size=args.length→(∀(i:Nat) a u,args[i]?=some a→vals[i]?=some u→Rel s a u)→
  Calls P f vals s.w fun e w'=>∃u s' r,e = .returned u∧s'.w=w'∧Good s'∧Step s s'∧Rel s' r u∧K r s'.H
theorem bA.mono{P:Program}{f:FuncId}{args:List V}{H:List B}{K K':V→List B→Prop}(h:bA P f args H K)(hk:∀r H',K r H'→K' r H'):bA P f args H K' :=
 ⟨h.1,fun s vals h1 h2 h3 h4=>(h.2 s vals h1 h2 h3 h4).mono fun _ _ ⟨u,s',r,a,b,c,d,e,g⟩=>⟨u,s',r,a,b,c,d,e,hk _ _ g⟩⟩
def bR(ops:Array Oper)(fr:List V)(o:Oper):Option Bool :=
 match o.guard with
 | none=>some true
 | some (j,want)=>match ops[j]? with
  | some oj=>match oj.dst with
   | some d=>match fr[d]? with
    | some (.bool b)=>some (b == want)
    | some (.tup _)=>some false
    | _=>none
   | none=>none
  | none=>none
def bE:Go.Op→Option (Operand×List Operand)
 | .call c=>match c.callee with
  | .value f=>some (f,c.args.toList)
  | _=>none
 | _=>none
def aT(P:Program)(fv:V)(args:List V)(H:List B)(K:V→List B→Prop):Prop :=
 match fv with
 | .fn f caps=>bA P f (args++caps) H K
 | _=>False
theorem aT.mono{P:Program}{fv:V}{args:List V}{H:List B}{K K':V→List B→Prop}(h:aT P fv args H K)(hk:∀r H',K r H'→K' r H'):aT P fv args H K':=by
 cases fv<;>simp only[aT]at h ⊢;exact h.mono hk
def jO(T:Ty)(ops:Array Oper)(C:V→List V→List B→(V→List B→Prop)→Prop)(K:List V→List B→Prop):List Oper→List V→List B→Prop
 | [],fr,H=>K fr H
 | o::rest,fr,H =>
  match bR ops fr o with
  | some true=>match bE o.op with
   | some (f,args)=>C (aU fr f) (args.map (aU fr)) H fun r H'=>jO T ops C K rest (bJ fr o.dst r) H'
   | none=>match aop T o.op (aU fr) H with
    | some (v,H')=>jO T ops C K rest (bJ fr o.dst v) H'
    | none=>False
  | some false=>jO T ops C K rest (bJ fr o.dst (.tup [])) H
  | none=>False
def Leaves(s:St)(Q:Exit→List V→List B→Prop)(e:Exit)(a:Act)(w:World):Prop :=
 ∃fr s',s'.w=w∧Good s'∧Step s s'∧FRel s' fr a.tmps∧a.defers=[]∧Q e fr s'.H
def W(P:Program)(c:Code)(Q:Exit→List V→List B→Prop)(fr:List V)(H:List B):Prop :=
 ∀(s:St) (a:Act),At P s H→Good s→FRel s fr a.tmps→a.defers=[]→c.wp P (Leaves s Q) a s.w
section
variable {P:Program} {T:Ty} {s:St}
theorem FRel.step{s':St}(hs:Step s s'){fr:List V}{tmps:Array Value}(h:FRel s fr tmps):FRel s' fr tmps:=⟨h.len,fun i v u a b=>(h.rel i v u a b).step hs⟩
theorem FRel.put{fr:List V}{a:Act}(h:FRel s fr a.tmps){v:V}{u:Value}(hv:Rel s v u)(d:Option Tmp):FRel s (bJ fr d v) (a.put d u).tmps:=by
 cases d with
 | none=>exact h
 | some t =>
  refine⟨by simp[bJ,Act.put,h.len],fun i x y hx hy=>?_⟩;simp only[bJ]at hx;simp only[Act.put]at hy;by_cases hi:i=t
  ·subst hi;have hl:=aE hx;simp at hl;rw[List.getElem?_set_self hl]at hx
   have:i<a.tmps.size:=by have:=h.len;omega
   simp[this]at hy;cases hx;subst hy;exact hv
  ·rw[List.getElem?_set_ne (Ne.symm hi)]at hx;rw[Array.getElem?_setIfInBounds_ne (Ne.symm hi)]at hy;exact h.rel i x y hx hy
theorem kn(a:Act)(d:Option Tmp)(u:Value):(a.put d u).defers=a.defers:=by cases d<;>rfl
theorem FRel.eval{fr:List V}{a:Act}(h:FRel s fr a.tmps)(x:Operand):Rel s (aU fr x) (a.eval x):=by
 cases x with
 | tmp t =>
  simp only[aU,Act.eval]
  have key:∀n:Nat,Rel s (fr[n]?.getD .undef) (a.tmps.getD n undef):=fun n=>by
   by_cases ht:n<fr.length
   ·have hl:n<a.tmps.size:=by rw[h.len];exact ht
    have e1:fr[n]?=some fr[n]:=List.getElem?_eq_getElem ht
    have e2:a.tmps[n]?=some a.tmps[n]:=by simp[hl]
    rw[e1,Option.getD_some];have:=h.rel n _ _ e1 e2;simpa[Array.getD,hl] using this
   ·rw[List.getElem?_eq_none (by omega)];exact .undef _
  exact key t
 | const v =>
  simp only[aU,Act.eval]
  cases hv:jJ v with
  | none=>exact .undef _
  | some x=>exact dX hv
 | global g=>exact .undef _
 | func f=>exact .fn f [] #[] rfl (fun i c u hc=>by simp at hc)
theorem eZ{ops:Array Oper}{fr:List V}{a:Act}(h:FRel s fr a.tmps){o:Oper}{b:Bool}(hw:bR ops fr o=some b):Region.wanted o (yielded ops a.tmps)=b:=by
 unfold bR at hw;unfold Region.wanted;split at hw
 ·rename_i hg;cases hw;rw[hg]
 ·rename_i j want hg;rw[hg];simp only;split at hw
  ·rename_i oj hj;split at hw
   ·rename_i d hd
    have hrel:∀v,fr[d]?=some v→∃u,a.tmps[d]?=some u∧Rel s v u:=fun v hv=>by
     have hl:=aE hv
     have e2:a.tmps[d]?=some (a.tmps[d]'(by have:=h.len;omega)):=by have:=h.len;simp[this,hl]
     exact⟨_,e2,h.rel d v _ hv e2⟩
    split at hw
    ·rename_i bb hb;cases hw;obtain⟨u,hu,hr⟩:=hrel _ hb;cases hr;simp only[yielded,hj,Option.bind_some,hd,hu];cases bb<;>cases want<;>rfl
    ·rename_i vs hb;cases hw;obtain⟨u,hu,hr⟩:=hrel _ hb;cases hr;simp[yielded,hj,hd,hu]
    ·cases hw
   ·cases hw
  ·cases hw
theorem gP{o:Oper}{f:Operand}{args:List Operand}(hc:bE o.op=some (f,args)){fr:List V}{a:Act}(hz:GOk P s)(hg:Good s)(hf:FRel s fr a.tmps){K:V→List B→Prop}
  (h:aT P (aU fr f) (args.map (aU fr)) s.H K) {next:Act→World→Prop} {Q:Exit→Act→World→Prop}
  (hk:∀u s' r,Good s'→Step s s'→Rel s' r u→K r s'.H→next (a.put o.dst u) s'.w):o.wp P a s.w next Q:=by
 unfold bE at hc;split at hc
 ·rename_i c ho;split at hc
  ·rename_i f' hcal;cases hc;have hfv:=hf.eval f;generalize aU fr f=fv at h hfv
   cases fv<;>simp only[aT]at h<;>try (cases h;done)
   rename_i g caps;generalize huf:a.eval f=uf at hfv
   cases hfv with
   | fn _ _ us hl hr =>
    obtain⟨⟨fn,h1,h2,h3⟩,hcall⟩:=h
    have hsz:(c.args.map a.eval++us).size=(c.args.toList.map (aU fr)++caps).length:=by simp[hl]
    have hrel:∀(i:Nat) x u,(c.args.toList.map (aU fr)++caps)[i]?=some x→(c.args.map a.eval++us)[i]?=some u→Rel s x u:=fun i x u hx hu=>by
     by_cases hi:i<c.args.size
     ·rw[List.getElem?_append_left (by simpa using hi)]at hx;rw[Array.getElem?_append,if_pos (by simpa using hi)]at hu;simp only[List.getElem?_map,Array.getElem?_toList,Option.map_eq_some_iff]at hx;obtain⟨q,hq,rfl⟩:=hx;simp only[Array.getElem?_map,hq,Option.map_some,Option.some.injEq]at hu;subst hu;exact hf.eval q
     ·rw[List.getElem?_append_right (by simp;omega)]at hx;rw[Array.getElem?_append,if_neg (by simp;omega)]at hu;simp only[List.length_map,Array.length_toList,Array.size_map]at hx hu;exact hr _ x u hx hu
    have hC:=hcall s _ ⟨rfl,hz⟩ hg hsz hrel
    have hrun:(execOp a.eval o).run P s.w = .ok (.enter g (c.args.map a.eval++us)) s.w:=by
     have hb:¬fn.body=none:=by intro hh;rw[hh]at h2;cases h2
     have hn:¬fn.name = "runtime.NumGoroutine":=by simpa using h3
     unfold execOp;rw[ho];simp[resolve,hcal,huf,Deferred.ofValue,invoke,callFunc,h1,hn,hb]
    unfold Oper.wp;rw[hrun,Oper.upon_enter]
    refine hC.mono fun e w' ⟨u,s',r,he,hw,k1,k2,k3,k4⟩=>?_
    subst he;subst hw;exact hk u s' r k1 k2 k3 k4
  ·cases hc
 ·cases hc
theorem ops_sound(hT:TOk P T){ops:Array Oper}{K:List V→List B→Prop}{Q:Exit→Act→World→Prop} : ∀(l:List Oper) (k:Nat) (s:St) (fr:List V) (a:Act),l=ops.toList.drop k→GOk P s→Good s→FRel s fr a.tmps→a.defers=[]→jO T ops (aT P) K l fr s.H →
  (∀s' fr' a',Good s'→Step s s'→FRel s' fr' a'.tmps→a'.defers=[]→K fr' s'.H→Q .normal a' s'.w)→wpOps P ops Q ((List.range ops.size).drop k) a s.w
 | [],k,s,fr,a,hl,_,hg,hf,hd,h,hq=>by
  have hk:ops.size≤k:=by have:=congrArg List.length hl;simp at this;omega
  rw[List.drop_of_length_le (by simpa using hk)];exact hq s fr a hg (Step.refl s) hf hd h
 | o::rest,k,s,fr,a,hl,hz,hg,hf,hd,h,hq=>by
  have hk:k<ops.size:=by
   have:=congrArg List.length hl;simp at this;omega
  have ho:ops[k]?=some o:=by
   have:=congrArg (fun l=>l[0]?) hl;simp at this;exact this.symm
  have hrest:rest=ops.toList.drop (k+1):=by
   have:=congrArg List.tail hl;simpa using this
  rw[List.drop_eq_getElem_cons (by simpa using hk)];simp only[List.getElem_range,wpOps,ho];simp only[jO]at h
  have next:∀{s1:St} {v:V} {u:Value},Good s1→Step s s1→Rel s1 v u→jO T ops (aT P) K rest (bJ fr o.dst v) s1.H→wpOps P ops Q ((List.range ops.size).drop (k+1)) (a.put o.dst u) s1.w:=fun {s1 v u} g1 g2 g3 g4 =>
   ops_sound hT rest (k+1) s1 (bJ fr o.dst v) (a.put o.dst u) hrest (hz.step g2) g1 ((hf.step g2).put g3 o.dst) (by rw[kn];exact hd) g4 (fun s' fr' a' k1 k2 k3 k4 k5=>hq s' fr' a' k1 (g2.trans k2) k3 k4 k5)
  split at h
  ·rename_i hw;rw[eZ hf hw];simp only[if_true];left;split at h
   ·rename_i f args hc;exact gP hc hz hg hf h (fun u s' r g1 g2 g3 g4=>next g1 g2 g3 g4)
   ·split at h
    ·rename_i v H' hop;obtain⟨nx,s1,k1,k2,k3,k4,k5⟩:=iZ (P:=P) hT hg (fun x=>hf.eval x) hop;subst k2;unfold Oper.wp;rw[k1]
     rcases k5 with⟨u,rfl,hr⟩ | ⟨rfl,rfl⟩
     ·rw[Oper.upon_value];exact next k3 k4 hr h
     ·rw[Oper.upon_skip];exact next k3 k4 (.tup [] #[] rfl (fun i c u hc=>by simp at hc)) h
    ·exact h.elim
  ·rename_i hw;rw[eZ hf hw];simp only[Bool.false_eq_true,if_false];exact next hg (Step.refl s) (.tup [] #[] rfl (fun i c u hc=>by simp at hc)) h
  ·exact h.elim
theorem W_region(hT:TOk P T){id:Nat}{ops:Array Oper}{Q:Exit→List V→List B→Prop}{fr:List V}{H:List B}
  (h:∀(C:V→List V→List B→(V→List B→Prop)→Prop) (K:List V→List B→Prop),(∀fv args H K',aT P fv args H K'→C fv args H K')→(∀fr H,Q .normal fr H→K fr H)→jO T ops C K ops.toList fr H):W P (.region id ops false) Q fr H:=by
 intro s a hH hg hf hd;obtain⟨rfl,hz⟩:=hH;refine wp_region ?_;have:=ops_sound hT (Q:=Leaves s Q) ops.toList 0 s fr a (by simp) hz hg hf hd (h _ _ (fun _ _ _ _ h=>h) (fun _ _ h=>h)) (fun s' fr' a' k1 k2 k3 k4 k5=>⟨fr',s',rfl,k1,k2,k3,k4,k5⟩);simpa using this
theorem cX{s1 s2:St}(h:Step s1 s2){Q:Exit→List V→List B→Prop}{e:Exit}{a:Act}{w:World}(hl:Leaves s2 Q e a w):Leaves s1 Q e a w:=by
 obtain⟨fr,s',a1,a2,a3,a4,a5,a6⟩:=hl;exact⟨fr,s',a1,a2,h.trans a3,a4,a5,a6⟩
theorem W.mono{c:Code}{Q Q':Exit→List V→List B→Prop}{fr:List V}{H:List B}(h:W P c Q fr H)(hq:∀e fr H,Q e fr H→Q' e fr H):W P c Q' fr H:=fun s a h1 h2 h3 h4 =>
 wp_mono (h s a h1 h2 h3 h4) fun _ _ _ ⟨fr,s',a1,a2,a3,a4,a5,a6⟩=>⟨fr,s',a1,a2,a3,a4,a5,hq _ _ _ a6⟩
theorem W_skip{Q:Exit→List V→List B→Prop}{fr:List V}{H:List B}(h:Q .normal fr H):W P .skip Q fr H:=fun s _a h1 h2 h3 h4=>wp_skip ⟨fr,s,rfl,h2,Step.refl s,h3,h4,h1.1▸h⟩
theorem W_exit{id:Nat}{Q:Exit→List V→List B→Prop}{fr:List V}{H:List B}(h:Q (.exit id) fr H):W P (.exit id) Q fr H:=fun s _a h1 h2 h3 h4=>wp_exit ⟨fr,s,rfl,h2,Step.refl s,h3,h4,h1.1▸h⟩
theorem W_ret{Q:Exit→List V→List B→Prop}{fr:List V}{H:List B}(h:Q .ret fr H):W P .ret Q fr H:=fun s _a h1 h2 h3 h4=>wp_ret ⟨fr,s,rfl,h2,Step.refl s,h3,h4,h1.1▸h⟩
def lJ(N:List V→List B→Prop)(Q:Exit→List V→List B→Prop):Exit→List V→List B→Prop
 | .normal,fr,H=>N fr H
 | e,fr,H=>Q e fr H
theorem W_seq{x y:Code}{Q:Exit→List V→List B→Prop}{fr:List V}{H:List B}(h:W P x (lJ (W P y Q) Q) fr H):W P (.seq x y) Q fr H:=fun s a h1 h2 h3 h4=>by
 refine wp_seq (wp_mono (h s a h1 h2 h3 h4) fun e a' w' hl=>?_);obtain⟨fr',s',rfl,a2,a3,a4,a5,a6⟩:=hl
 cases e with
 | normal=>exact wp_mono (a6 s' a' ⟨rfl,h1.2.step a3⟩ a2 a4 a5) fun _ _ _ hl'=>cX a3 hl'
 | _=>exact⟨fr',s',rfl,a2,a3,a4,a5,a6⟩
theorem W_cond{c:Operand}{x y:Code}{Q:Exit→List V→List B→Prop}{fr:List V}{H:List B}{b:Bool}(hc:aU fr c = .bool b)(h:W P (if b then x else y) Q fr H):W P (.cond c x y) Q fr H:=fun s a h1 h2 h3 h4=>by
 have hr:=h3.eval c;rw[hc]at hr;generalize hu:a.eval c=u at hr;cases hr;exact wp_cond hu (h s a h1 h2 h3 h4)
def gy(id:Nat)(Q:Exit→List V→List B→Prop):Exit→List V→List B→Prop
 | .exit id',fr,H=>if id'=id then Q .normal fr H else Q (.exit id') fr H
 | e,fr,H=>Q e fr H
theorem W_block{id:Nat}{c:Code}{Q:Exit→List V→List B→Prop}{fr:List V}{H:List B}(h:W P c (gy id Q) fr H):W P (.block id c) Q fr H:=fun s a h1 h2 h3 h4=>by
 refine wp_block (wp_mono (h s a h1 h2 h3 h4) fun e a' w' hl=>?_);obtain⟨fr',s',a1,a2,a3,a4,a5,a6⟩:=hl
 cases e with
 | exit id' =>
  simp only[Exit.inBlock,gy]at a6 ⊢;split
  ·rename_i hid;rw[if_pos hid]at a6;exact⟨fr',s',a1,a2,a3,a4,a5,a6⟩
  ·rename_i hid;rw[if_neg hid]at a6;exact⟨fr',s',a1,a2,a3,a4,a5,a6⟩
 | _=>exact⟨fr',s',a1,a2,a3,a4,a5,a6⟩
theorem mI{p:Nat→Prop}(h:∃n,p n):∃n,p n∧∀m,m<n→¬p m:=by
 obtain⟨n,hn⟩:=h
 induction n using Nat.strongRecOn with
 | _ n ih =>
  by_cases hm:∃m,m<n∧p m
  ·obtain⟨m,h1,h2⟩:=hm;exact ih m h1 h2
  ·exact⟨n,hn,fun m h1 h2=>hm ⟨m,h1,h2⟩⟩
theorem W_loop{c:Code}{Q:Exit→List V→List B→Prop}(I:Nat→List V→List B→Prop)(hround:∀n fr H,I n fr H→W P c (lJ (fun fr' H'=>∃m,m<n∧I m fr' H') Q) fr H){n:Nat}{fr:List V}{H:List B}(h0:I n fr H):W P (.loop c) Q fr H:=by
 intro s a h1 h2 h3 h4
 let J:Nat→Act→World→Prop:=fun n a' w'=>∃fr' s',s'.w=w'∧Good s'∧Step s s'∧FRel s' fr' a'.tmps∧a'.defers=[]∧I n fr' s'.H
 have hex:∃μ:Act→World→Nat,∀a' w',(∃m,J m a' w')→J (μ a' w') a' w'∧∀m,m<μ a' w'→¬J m a' w':=by
  have:∀p:Act×World,∃n,(∃m,J m p.1 p.2)→J n p.1 p.2∧∀m,m<n→¬J m p.1 p.2:=fun p=>by
   by_cases h:∃m,J m p.1 p.2
   ·obtain⟨n,h1,h2⟩:=mI h;exact⟨n,fun _=>⟨h1,h2⟩⟩
   ·exact⟨0,fun h'=>absurd h' h⟩
  obtain⟨f,hf⟩:=Classical.axiomOfChoice this;exact⟨fun a' w'=>f (a',w'),fun a' w' h=>hf (a',w') h⟩
 obtain⟨μ,hμ⟩:=hex;refine wp_loop (fun a' w'=>∃m,J m a' w') μ ⟨n,fr,s,rfl,h2,Step.refl s,h3,h4,h1.1▸h0⟩ (fun a' w' hI=>?_);obtain⟨⟨fr',s',rfl,b2,b3,b4,b5,b6⟩,hmin⟩:=hμ a' w' hI
 refine wp_mono (hround _ fr' s'.H b6 s' a' ⟨rfl,h1.2.step b3⟩ b2 b4 b5) fun e a'' w'' hl=>?_
 obtain⟨fr'',s'',rfl,c2,c3,c4,c5,c6⟩:=hl
 cases e with
 | normal =>
  obtain⟨m,hm,hIm⟩:=c6;have hJ:J m a'' s''.w:=⟨fr'',s'',rfl,c2,b3.trans c3,c4,c5,hIm⟩;refine⟨⟨m,hJ⟩,?_⟩;obtain⟨_,hmin'⟩:=hμ a'' s''.w ⟨m,hJ⟩
  rcases Nat.lt_or_ge m (μ a'' s''.w) with h | h
  ·exact absurd hJ (hmin' m h)
  ·omega
 | _=>exact⟨fr'',s'',rfl,c2,b3.trans c3,c4,c5,c6⟩
end
end Go.AM
namespace Go.AM
open Go
def lO(T:Ty)(fr:List V)(H:List B):ResultVar→Option V
 | .tmp t=>fr[t]?
 | .cell a t=>match fr[a]? with
  | some p=>ph T H t p
  | none=>none
def ct(T:Ty)(fr:List V)(H:List B):List ResultVar→Option (List V)
 | []=>some []
 | r::rs=>match lO T fr H r,ct T fr H rs with
  | some v,some vs=>some (v::vs)
  | _,_=>none
def nf:List V→V
 | [v]=>v
 | vs=>.tup vs
def retQ(T:Ty)(rs:List ResultVar)(K:V→List B→Prop)(e:Exit)(fr:List V)(H:List B):Prop :=
 match e with
 | .normal | .ret=>match ct T fr H rs with
  | some vs=>K (nf vs) H
  | none=>False
 | _=>False
section
variable {P:Program} {T:Ty} {s:St}
theorem mapM_run{α:Type}{g:α→Sem Value}{w:World} : ∀{l:List α} {us:List Value},l.length=us.length→(∀(i:Nat) x u,l[i]?=some x→us[i]?=some u→(g x).run P w = .ok u w)→(l.mapM g).run P w = .ok us w
 | [],[],_,_=>by simp
 | x::l,u::us,hl,h=>by
  have h0:=h 0 x u rfl rfl;have ih:=mapM_run (l:=l) (us:=us) (by simpa using hl) (fun i y v hy hv=>h (i+1) y v (by simpa using hy) (by simpa using hv));simp[List.mapM_cons,h0,ih]
theorem res_sound(hT:TOk P T)(hg:Good s){fr:List V}{tmps:Array Value}(hf:FRel s fr tmps):∀{rs:List ResultVar} {vs:List V},ct T fr s.H rs=some vs →
  ∃us:List Value,us.length=vs.length∧rs.length=vs.length∧(∀(i:Nat) v u,vs[i]?=some v→us[i]?=some u→Rel s v u)∧
   ∀(i:Nat) r u,rs[i]?=some r→us[i]?=some u→(match r with
    | .tmp t=>Pure.pure (tmps.getD t undef)
    | .cell a t=>do loadVar t (←asAddr (tmps.getD a undef)):Sem Value).run P s.w = .ok u s.w
 | [],vs,h=>by simp[ct]at h;subst h;exact⟨[],rfl,rfl,by simp,by simp⟩
 | r::rs,vs,h=>by
  simp only[ct]at h;split at h
  ·rename_i v vs' h1 h2;cases h;obtain⟨us,k1,k2,k3,k4⟩:=res_sound hT hg hf h2
   have hat:∀n x,fr[n]?=some x→∃u,tmps.getD n undef=u∧Rel s x u:=fun n x hx=>by
    have hl:=aE hx
    have hlt:n<tmps.size:=by rw[hf.len];exact hl
    have e2:tmps[n]?=some tmps[n]:=by simp[hlt]
    exact⟨_,rfl,by have:=hf.rel n x _ hx e2;simpa[Array.getD,hlt] using this⟩
   have one:∃u,(match r with
    | .tmp t=>Pure.pure (tmps.getD t undef)
    | .cell a t=>do loadVar t (←asAddr (tmps.getD a undef)):Sem Value).run P s.w = .ok u s.w∧Rel s v u:=by
    cases r with
    | tmp t =>
     obtain⟨u,e,hr⟩:=hat t v h1;exact⟨u,by simp[e],hr⟩
    | cell a t =>
     simp only[lO]at h1;split at h1
     ·rename_i p hp;obtain⟨u,e,hr⟩:=hat a p hp;obtain⟨w',q1,q2⟩:=pg (P:=P) hT hg hr h1;refine⟨w',?_,q2⟩;simp only;rw[e]
      cases hr<;>simp only[ph]at h1<;>try (cases h1;done)
      all_goals simpa[Instr.loadAt,Instr.sureAddr,asAddr] using q1
     ·cases h1
   obtain⟨u,o1,o2⟩:=one;refine⟨u::us,by simp[k1],by simp[k2],fun i a b ha hb=>?_,fun i a b ha hb=>?_⟩
   ·cases i with
    | zero=>simp at ha hb;subst ha;subst hb;exact o2
    | succ i=>exact k3 i a b (by simpa using ha) (by simpa using hb)
   ·cases i with
    | zero=>simp at ha hb;subst ha;subst hb;exact o1
    | succ i=>exact k4 i a b (by simpa using ha) (by simpa using hb)
  ·cases h
theorem pack_rel{vs:List V}{us:List Value}(hl:us.length=vs.length)(h:∀(i:Nat) v u,vs[i]?=some v→us[i]?=some u→Rel s v u):
  Rel s (nf vs) (if h:us.toArray.size=1 then us.toArray[0] else .tuple us.toArray):=by
 match vs,us,hl with
 | [v],[u],_=>exact h 0 v u rfl rfl
 | [],[],_=>exact .tup [] #[] rfl (by simp)
 | v::v'::vs,u::u'::us,hl =>
  rw[dif_neg (by simp)];exact .tup _ _ (by simpa using hl) (fun i a b ha hb=>h i a b ha (by simpa using hb))
theorem aD(hT:TOk P T){f:FuncId}{fn:Func}{c:Code}(hf:P.funcs[f]?=some fn)(hb:fn.body=some c)(hn:(fn.name == "runtime.NumGoroutine")=false){args:List V}{H:List B}{K:V→List B→Prop}
  (h:W P c (retQ T fn.results.toList K) (args++List.replicate (fn.ntmps-args.length) (.tup [])) H):bA P f args H K:=by
 refine⟨⟨fn,hf,by rw[hb];rfl,hn⟩,fun s vals hH hg hsz hrel=>?_⟩;refine calls_of_wp hf hb ?_
 have hfr:FRel s (args++List.replicate (fn.ntmps-args.length) (.tup [])) (vals++Array.replicate (fn.ntmps-vals.size) undef):=by
  refine⟨by simp[hsz],fun i v u hv hu=>?_⟩;by_cases hi:i<args.length
  ·rw[List.getElem?_append_left hi]at hv;rw[Array.getElem?_append,if_pos (by omega)]at hu;exact hrel i v u hv hu
  ·rw[List.getElem?_append_right (by omega)]at hv;rw[Array.getElem?_append,if_neg (by omega)]at hu;have e1:=List.eq_of_mem_replicate (List.mem_of_getElem? hv)
   have e2:u=undef:=by simp[Array.getElem?_replicate]at hu;exact hu.2.symm
   subst e1;subst e2;exact .tup [] #[] rfl (by simp)
 refine wp_mono (h s _ hH hg hfr rfl) fun e a w hl=>?_
 obtain⟨fr',s',rfl,a2,a3,a4,a5,a6⟩:=hl
 have fin:(match ct T fr' s'.H fn.results.toList with
   | some vs=>K (nf vs) s'.H
   | none=>False)→a.defers=[]∧∃v,(results fn a.tmps).run P s'.w = .ok v s'.w∧∃u s'' r,Ending.returned v = .returned u∧s''.w=s'.w∧Good s''∧Step s s''∧Rel s'' r u∧K r s''.H:=fun hk=>by
  split at hk
  ·rename_i vs hvs;obtain⟨us,k1,k2,k3,k4⟩:=res_sound (P:=P) hT a2 a4 hvs;refine⟨a5,_,?_,_,s',nf vs,rfl,rfl,a2,a3,pack_rel k1 k3,hk⟩;have hm:=mapM_run (P:=P) (w:=s'.w) (l:=fn.results.toList) (us:=us) (by omega) k4;unfold results;rw[Array.mapM_eq_mapM_toList];simp only[Sem.run_bind,Sem.run_map]
   erw [hm]
   simp
  ·exact hk.elim
 cases e with
 | normal=>exact fin a6
 | ret=>exact fin a6
 | exit id=>exact a6.elim
 | goto l=>exact a6.elim
 | panic ch=>exact a6.elim
 | outgrown=>exact a6.elim
end
end Go.AM
namespace Go.AM
open Go Go.RowKit
inductive Pure:V→Prop
 | bool (b:Bool):Pure (.bool b)
 | int (k:IntKind) (n:Int):Pure (.int k n)
 | str (x:ByteArray):Pure (.str x)
 | nilS:Pure .nilS
 | lst (z:Nat) (full:Bool) (xs:List V) (h:∀x∈xs,Pure x):Pure (.lst z full xs)
 | nilP:Pure .nilP
 | pin (cs:List V) (off:Nat) (h:∀c∈cs,Pure c):Pure (.pin cs off)
 | nilM:Pure .nilM
 | fn (f:FuncId):Pure (.fn f [])
 | nilFn:Pure .nilFn
 | agg (cs:List V) (h:∀c∈cs,Pure c):Pure (.agg cs)
 | tup (vs:List V) (h:∀v∈vs,Pure v):Pure (.tup vs)
theorem Pure.cells{x:V}(h:Pure x):∀c∈x.cells,Pure c:=by
 cases h with
 | agg cs h=>exact h
 | _=>intro c hc;simp[V.cells]at hc;subst hc;constructor<;>assumption
inductive Scalar:V→Prop
 | bool (b:Bool):Scalar (.bool b)
 | int (k:IntKind) (n:Int):Scalar (.int k n)
 | str (x:ByteArray):Scalar (.str x)
 | nilS:Scalar .nilS
 | agg (cs:List V) (h:∀c∈cs,Scalar c):Scalar (.agg cs)
 | tup (vs:List V) (h:∀v∈vs,Scalar v):Scalar (.tup vs)
def base(F:Nat→Prop)(w:World):St:=⟨F,w,id,id,[]⟩
theorem base_good{F:Nat→Prop}{w:World}(h:∀b,F b→b<w.heap.size):Good (base F w):=⟨h,fun k hk=>by have:=hk.1;simp[base]at this,fun j k hj=>by have:=hj.1;simp[base]at this,fun k bl hk=>by simp[base]at hk⟩
section
variable {P:Program} {T:Ty} {s t:St}
theorem Rel.pure_{v:V}{u:Value}(h:Rel s v u)(hp:Pure v)(hw:∀b,s.Prot b→t.Prot b∧t.w.heap[b]?=s.w.heap[b]?):Rel t v u:=by
 induction h with
 | undef u=>cases hp
 | bool b=>exact .bool b
 | int k n=>exact .int k n
 | str x=>exact .str x
 | nilS=>exact .nilS
 | lst z full xs A cap b off u hcap hfull hA hz hcell hrel ih =>
  cases hp with
  | lst _ _ _ hx =>
   refine .lst z full xs A cap b off u hcap hfull (fun h0=>⟨(hA h0).1,(hw b (hA h0).2).1⟩) hz (fun i x j c hi hj=>?_) (fun i x j c hi hj=>ih i x j c hi hj ((hx x (List.mem_of_getElem? hi)).cells c (List.mem_of_getElem? hj)))
   have h0:0<xs.length:=by have:=aE hi;omega
   rw[World.cell?_of_block (hw b (hA h0).2).2];exact hcell i x j c hi hj
 | buf k off len tot e z xs fz A l c hk ht hh=>cases hp
 | nilP=>exact .nilP
 | ptr k off cs hk=>cases hp
 | pin cs off b o u hpr h1 hcell hrel ih =>
  cases hp with
  | pin _ _ hc =>
   refine .pin cs off b o u (hw b hpr).1 h1 (fun j c hj=>?_) (fun j c hj=>ih j c hj (hc c (List.mem_of_getElem? hj)));rw[World.cell?_of_block (hw b hpr).2];exact hcell j c hj
 | pbuf k i off tot e z xs fz p hk ht hh=>cases hp
 | sarr k n cs hk=>cases hp
 | nilM=>exact .nilM
 | map k kk es hk=>cases hp
 | fn f caps us hl hh ih=>cases hp;exact .fn f [] us hl (fun i c u hc=>by simp at hc)
 | nilFn=>exact .nilFn
 | agg cs us hl h1 hh ih=>cases hp with | agg _ hc=>exact .agg cs us hl h1 (fun i c u h2 h3=>ih i c u h2 h3 (hc c (List.mem_of_getElem? h2)))
 | tup vs us hl hh ih=>cases hp with | tup _ hc=>exact .tup vs us hl (fun i c u h2 h3=>ih i c u h2 h3 (hc c (List.mem_of_getElem? h2)))
theorem Rel.scalar{v:V}{u:Value}(h:Rel s v u)(hp:Scalar v):Rel t v u:=by
 induction h with
 | bool b=>exact .bool b
 | int k n=>exact .int k n
 | str x=>exact .str x
 | nilS=>exact .nilS
 | agg cs us hl h1 hh ih=>cases hp with | agg _ hc=>exact .agg cs us hl h1 (fun i c u h2 h3=>ih i c u h2 h3 (hc c (List.mem_of_getElem? h2)))
 | tup vs us hl hh ih=>cases hp with | tup _ hc=>exact .tup vs us hl (fun i c u h2 h3=>ih i c u h2 h3 (hc c (List.mem_of_getElem? h2)))
 | _=>cases hp
inductive Exp (H:List B):V→V→Prop
 | pure (v:V) (h:Pure v):Exp H v v
 | buf (k off len e z:Nat) (xs:List V) (fz:Bool) (hk:H[k]?=some (.buf e z xs fz)) (ho:off+len≤xs.length) (hp:∀x∈xs,Pure x):Exp H (.buf k off len xs.length) (.lst z false ((xs.drop off).take len))
def hold(s:St)(open_:Nat→Prop):Nat→Prop:=fun b=>s.F b∨∃k,Lv s k∧s.φ k=b∧¬open_ k∧∀e z xs,s.H[k]?≠some (.buf e z xs true)
theorem GOk.hold(h:GOk P s)(op:Nat→Prop):GOk P (base (hold s op) s.w):=fun g hg=>by
 obtain⟨h1,h2⟩:=h g hg;refine⟨⟨h1.1,?_,fun k hk=>by have:=hk.1;simp[base]at this⟩,h2⟩;rintro(hf | ⟨k,hk,e,_,hno⟩)
 ·exact h1.2.1 hf
 ·obtain⟨e',z',xs',he'⟩:=h1.2.2 k hk e;exact hno e' z' xs' he'
theorem Rel.exp(hg:Good s){open_:Nat→Prop}{v v':V}{u:Value}(h:Rel s v u)(he:Exp s.H v v')(ho:∀k off len tot,v = .buf k off len tot→open_ k):Rel (base (hold s open_) s.w) v' u:=by
 have hw:∀b,s.Prot b→(base (hold s open_) s.w).Prot b∧(base (hold s open_) s.w).w.heap[b]?=s.w.heap[b]?:=fun b hb=>by
  refine⟨⟨hb.1,?_,fun k hk=>by have:=hk.1;simp[base]at this⟩,rfl⟩;rintro(h | ⟨k,hk,e,_,hno⟩)
  ·exact hb.2.1 h
  ·obtain⟨e',z',xs',he'⟩:=hb.2.2 k hk e;exact hno e' z' xs' he'
 cases he with
 | pure _ hp=>exact h.pure_ hp hw
 | buf k off len e z xs fz hk hle hp =>
  cases h with
  | buf _ _ _ _ e2 z2 xs2 fz2 A l c hk2 ht hh =>
   rw[hk]at hk2;cases hk2;obtain⟨hA,rfl,hcap,_⟩:=hh rfl;by_cases hl0:l=0
   ·subst hl0;rw[List.take_zero];exact dY z false A c (fun h=>by cases h)
   obtain⟨_,_,_,hk4,_⟩:=hg.blk k _ hk
   have hκ:s.κ k≠0:=by omega
   have hA:=hA hκ;subst hA;have hkl:=lvB hk hκ
   have hP:(base (hold s open_) s.w).Prot (s.φ k):=by
    refine⟨(hg.lt k hkl).1,?_,fun k hk=>by have:=hk.1;simp[base]at this⟩;rintro(h | ⟨k',hk',e',hn,_⟩)
    ·exact(hg.lt k hkl).2 h
    ·have:=hg.inj k' k hk' hkl e';subst this;exact hn (ho _ _ _ _ rfl)
   obtain⟨vs,g2,g3,g4,g5,g6,g7⟩:=hg.blk k _ hk
   have hlen:((xs.drop off).take l).length=l:=by simp;omega
   have hat:∀i x,((xs.drop off).take l)[i]?=some x→xs[off+i]?=some x:=fun i x hi=>by
    have:=aE hi;rw[List.getElem?_take,if_pos (by omega),List.getElem?_drop]at hi;exact hi
   have:=Rel.lst (s:=base (hold s open_) s.w) z false ((xs.drop off).take l) (some ⟨s.φ k,off*z,none⟩) c (s.φ k) (off*z) (fun i j=>(s.w.cell? ⟨s.φ k,off*z+i*z+j,none⟩).getD Go.undef) (by omega) (by simp) (fun _=>⟨rfl,hP⟩)
    (fun x hx=>g6 x (List.mem_of_mem_drop (List.mem_of_mem_take hx)))
    (fun i x j d hx hd=>by
     obtain⟨_,_,h3⟩:=jG hg hk (hat i x hx);obtain⟨u,hu,_⟩:=h3 j d hd;rw[Nat.add_mul]at hu;show s.w.cell? _=_
     rw[hu];rfl)
    (fun i x j d hx hd=>by
     obtain⟨_,_,h3⟩:=jG hg hk (hat i x hx);obtain⟨u,hu,hr⟩:=h3 j d hd;rw[Nat.add_mul]at hu;rw[hu]
     exact hr.pure_ ((hp x (List.mem_of_getElem? (hat i x hx))).cells d (List.mem_of_getElem? hd)) hw)
   rwa [hlen]at this
def Enters(P:Program)(f:FuncId):Prop:=∃fn,P.funcs[f]?=some fn∧fn.body.isSome=true∧(fn.name == "runtime.NumGoroutine")=false
def aR(P:Program)(f:FuncId)(args:List V)(K:V→Prop):Prop :=
 Enters P f∧∀(F:Nat→Prop) (w:World) (vals:Array Value),GOk P (base F w)→(∀b,F b→b<w.heap.size)→vals.size=args.length→(∀(i:Nat) a u,args[i]?=some a→vals[i]?=some u→Rel (base F w) a u)→
  Calls P f vals w fun e w'=>∃u r,e = .returned u∧Pure r∧Rel (base F w') r u∧Below w.heap.size w w'∧K r
def kX(P:Program)(f:FuncId)(args:List V)(K:Nat→Nat→List V→Prop):Prop :=
 Enters P f∧∀(F:Nat→Prop) (w:World) (vals:Array Value),GOk P (base F w)→(∀b,F b→b<w.heap.size)→vals.size=args.length→(∀(i:Nat) a u,args[i]?=some a→vals[i]?=some u→Rel (base F w) a u)→
  Calls P f vals w fun e w'=>∃u e' z xs A g c,e = .returned u∧u = .slice A xs.length c∧(c≠0→A=some ⟨g,0,none⟩)∧(∀x∈xs,Pure x)∧(c≠0→w.heap.size≤g)∧Good ⟨F,w',fun _=>g,fun _=>c,[.buf e' z xs false]⟩∧Below w.heap.size w w'∧K e' z xs
theorem gz{F:Nat→Prop}{w:World}{s':St}(h:Step (base F w) s'):Below w.heap.size w s'.w:=⟨h.os,h.tape,h.output,h.size,fun b hb=>h.out b hb (fun k hk=>by have:=hk.1;simp[base]at this)⟩
theorem aC{f:FuncId}{args:List V}{K:V→Prop}(h:bA P f args [] fun r H=>∃r',Exp H r r'∧Pure r'∧K r'):aR P f args K:=by
 refine⟨h.1,fun F w vals hZ hF hsz hrel=>?_⟩
 refine(h.2 (base F w) vals ⟨rfl,hZ⟩ (base_good hF) hsz hrel).mono fun e w' ⟨u,s',r,a1,a2,a3,a4,a5,r',a6,a7,a8⟩=>?_
 subst a2;have hb:=gz a4;refine⟨u,r',a1,a7,?_,hb,a8⟩;have hFs:s'.F=F:=a4.F;have hr:=a5.exp a3 (open_:=fun _=>True) a6 (fun _ _ _ _ _=>trivial);exact hr.pure_ (t:=base F s'.w) a7 (fun b hb=>⟨⟨hb.1,fun hf=>hb.2.1 (Or.inl (by rw[hFs];exact hf)),fun k hk=>by have:=hk.1;simp[base]at this⟩,rfl⟩)
theorem mU{f:FuncId}{args:List V}{K:Nat→Nat→List V→Prop}(h:bA P f args [] fun r H=>∃k e z xs,r = .buf k 0 xs.length xs.length∧H[k]?=some (.buf e z xs false)∧(∀x∈xs,Pure x)∧K e z xs):kX P f args K:=by
 refine⟨h.1,fun F w vals hZ hF hsz hrel=>?_⟩
 refine(h.2 (base F w) vals ⟨rfl,hZ⟩ (base_good hF) hsz hrel).mono fun e w' ⟨u,s',r,a1,a2,a3,a4,a5,k,e',z,xs,a6,a7,a8,a9⟩=>?_
 subst a2;subst a6;have hb:=gz a4
 have hnew:s'.κ k≠0→w.heap.size≤s'.φ k:=fun hz=>a4.new k (by simp[base]) (lvB a7 hz)
 have hFs:s'.F=F:=a4.F
 cases a5 with
 | buf _ _ _ _ e2 z2 xs2 fz2 A l c hk2 ht hh =>
  rw[a7]at hk2;cases hk2;obtain⟨hA,rfl,hcap,_⟩:=hh rfl;rw[Nat.zero_add]at hcap;subst hcap;refine⟨_,e',z,xs,A,s'.φ k,s'.κ k,a1,rfl,fun hz=>by simpa using hA hz,a8,hnew,?_,hb,a9⟩;obtain⟨vs,g2,g3,g4,g5,g6,g7⟩:=a3.blk k _ a7
  have hw:∀b,s'.Prot b→(St.mk F s'.w (fun _=>s'.φ k) (fun _=>s'.κ k) [.buf e' z xs false]).Prot b∧s'.w.heap[b]?=s'.w.heap[b]?:=fun b hb=>by
   refine⟨⟨hb.1,by rw[←hFs];exact hb.2.1,fun i hi he=>?_⟩,rfl⟩;obtain⟨e3,z3,xs3,h3⟩:=hb.2.2 k (lvB a7 (hi.2 e' z xs false (by have:=hi.1;simp at this;subst this;rfl))) he;rw[a7]at h3;cases h3
  refine⟨fun b hF'=>by have:=a3.fl b (by rw[hFs];exact hF');exact this,fun i hi=>by
   have hkl:=lvB a7 (hi.2 e' z xs false (by have:=hi.1;simp at this;subst this;rfl))
   exact⟨(a3.lt k hkl).1,by have:=(a3.lt k hkl).2;rw[hFs]at this;exact this⟩,fun i j hi hj _=>by have:=hi.1;have:=hj.1;simp at *;omega,fun i bl hi=>?_⟩
  have hi0:i=0:=by have:=aE hi;simp at this;omega
  subst hi0;simp at hi;subst hi;exact⟨vs,g2,g3,g4,g5,g6,fun i x j d u hx hd hu=>(g7 i x j d u hx hd hu).pure_ ((a8 x (List.mem_of_getElem? hx)).cells d (List.mem_of_getElem? hd)) hw⟩
theorem fT{f:FuncId}{args args':List V}{K:V→Prop}{H:List B}(h:aR P f args' K)(hl:args.length=args'.length)(he:∀(i:Nat) a a',args[i]?=some a→args'[i]?=some a'→Exp H a a')
  (hs:(∀a∈args,Pure a)∨∀r,K r→Scalar r):bA P f args H fun r H'=>H'=H∧Pure r∧K r:=by
 refine⟨h.1,fun s vals hH hg hsz hrel=>?_⟩;obtain⟨rfl,hZ⟩:=hH
 let op:Nat→Prop:=fun _=>¬∀a∈args,Pure a
 have hFl:∀b,hold s op b→b<s.w.heap.size:=by
  rintro b (h | ⟨k,hk,rfl,_⟩)
  ·exact hg.fl b h
  ·exact(hg.lt k hk).1
 refine(h.2 (hold s op) s.w vals (hZ.hold op) hFl (by omega) (fun i a' u ha' hu=>?_)).mono fun e w' ⟨u,r,a1,a2,a3,a4,a5⟩=>?_
 ·have hi:i<args.length:=by have:=aE ha';omega
  have ha:args[i]?=some args[i]:=List.getElem?_eq_getElem hi;refine(hrel i _ u ha hu).exp hg (he i _ a' ha ha') (fun k off len tot e hall=>?_);have:=hall _ (List.getElem_mem hi);rw[e]at this;cases this
 ·obtain⟨g1,g2⟩:=fZ hg (w:=w') a4.os a4.tape a4.output a4.size a4.block;refine⟨u,s.at w',r,a1,rfl,g1,g2,?_,rfl,a2,a5⟩
  rcases hs with hs | hs
  ·refine a3.pure_ (t:=s.at w') a2 (fun b hb=>⟨⟨hb.1,fun hf=>hb.2.1 (Or.inl hf),fun k hk e=>?_⟩,rfl⟩)
   refine Classical.byContradiction fun hno=>?_
   exact hb.2.1 (Or.inr ⟨k,hk,e,fun hn=>hn hs,fun e' z' xs' he'=>hno ⟨e',z',xs',he'⟩⟩)
  ·exact a3.scalar (hs r a5)
theorem jD{f:FuncId}{args:List V}{K:Nat→Nat→List V→Prop}(h:kX P f args K):aR P f args fun r=>∃e z xs,r = .lst z false xs∧K e z xs:=by
 refine⟨h.1,fun F w vals hZ hF hsz hrel=>?_⟩
 refine(h.2 F w vals hZ hF hsz hrel).mono fun e w' ⟨u,e',z,xs,A,g,c,a1,a2,aA,a3,a4,a5,a6,a7⟩=>?_
 subst a2;refine⟨_,.lst z false xs,a1,.lst _ _ _ a3,?_,a6,e',z,xs,rfl,a7⟩;have hr:Rel ⟨F,w',fun _=>g,fun _=>c,[.buf e' z xs false]⟩ (.buf 0 0 xs.length xs.length) (.slice A xs.length c):=.buf 0 0 xs.length xs.length e' z xs false _ _ _ rfl (Nat.le_refl _) (fun _=>⟨fun hz=>by simpa using aA hz,rfl,by simp,by simp⟩);have hx:Exp [B.buf e' z xs false] (.buf 0 0 xs.length xs.length) (.lst z false ((xs.drop 0).take xs.length)):=.buf 0 0 xs.length e' z xs false rfl (by simp) a3;have:=hr.exp a5 (open_:=fun _=>True) hx (fun _ _ _ _ _=>trivial);simp only[List.drop_zero,List.take_length]at this;exact this.pure_ (t:=base F w') (.lst _ _ _ a3) (fun b hb=>⟨⟨hb.1,fun hf=>hb.2.1 (Or.inl hf),fun k hk=>by have:=hk.1;simp[base]at this⟩,rfl⟩)
theorem conH_of_conO{f:FuncId}{args:List V}{K:Nat→Nat→List V→Prop}{H:List B}(h:kX P f args K)(hp:∀a∈args,Pure a):
  bA P f args H fun r H'=>∃e z xs,r = .buf H.length 0 xs.length xs.length∧H'=H++[.buf e z xs false]∧(∀x∈xs,Pure x)∧K e z xs:=by
 refine⟨h.1,fun s vals hH hg hsz hrel=>?_⟩;obtain⟨rfl,hZ⟩:=hH
 have hFl:∀b,hold s (fun _=>False) b→b<s.w.heap.size:=by
  rintro b (h | ⟨k,hk,rfl,_⟩)
  ·exact hg.fl b h
  ·exact(hg.lt k hk).1
 refine(h.2 (hold s fun _=>False) s.w vals (hZ.hold _) hFl hsz (fun i a u ha hu=>?_)).mono fun e w' ⟨u,e',z,xs,A,g0,c,a1,a2,aA,a3,a4,a5,a6,a7⟩=>?_
 ·exact(hrel i a u ha hu).exp hg (.pure a (hp a (List.mem_of_getElem? ha))) (fun k off len tot e=>by have:=hp a (List.mem_of_getElem? ha);rw[e]at this;cases this)
 ·subst a2;by_cases hc0:c=0
  ·subst hc0;obtain⟨_,_,_,g4,_⟩:=a5.blk 0 _ rfl;obtain rfl:xs=[]:=List.eq_nil_of_length_eq_zero (by simpa using g4);obtain⟨p1,p2⟩:=nc hg 0 e' z false a6.os a6.tape a6.output a6.size a6.block;refine⟨_,s.push w' 0 0 (.buf e' z [] false),.buf s.H.length 0 0 0,a1,rfl,p1,p2,?_,e',z,[],rfl,rfl,a3,a7⟩;refine .buf s.H.length 0 0 0 e' z [] false _ _ _ (by simp[St.push]) (Nat.le_refl _) (fun _=>?_);simp only[St.push,aZ];exact⟨fun h=>absurd rfl h,by simp,by simp,by simp⟩
  have a4:=a4 hc0;have hA:=aA hc0;subst hA;have hgl:g0<w'.heap.size:=(a5.lt 0 (lvB (e:=e') (z:=z) (xs:=xs) (fz:=false) rfl hc0)).1;obtain⟨g,hgg⟩:∃g,g=g0:=⟨g0,rfl⟩;subst hgg;have hst:=eb (bl:=.buf e' z xs false) (c:=c) hg a6.os a6.tape a6.output a6.size a6.block a4;refine⟨_,s.push w' g c (.buf e' z xs false),.buf s.H.length 0 xs.length xs.length,a1,rfl,fg hg a6.os a6.tape a6.output a6.size a6.block a4 hgl (fun hst=>?_),hst,?_,e',z,xs,rfl,rfl,a3,a7⟩
  ·obtain⟨vs,g2,g3,g4,g5,g6,g7⟩:=a5.blk 0 _ rfl;refine⟨vs,fun _=>by simp only[St.push,aZ];exact g2 hc0,by simp only[St.push,aZ];exact g3,by simp only[St.push,aZ];exact g4,by simp only[St.push,aZ];exact g5,g6,fun i x j d u hx hd hu=>(g7 i x j d u hx hd hu).pure_ (t:=s.push w' g c (.buf e' z xs false)) ((a3 x (List.mem_of_getElem? hx)).cells d (List.mem_of_getElem? hd)) (fun b hb=>⟨⟨hb.1,fun hf=>hb.2.1 (Or.inl hf),fun k hk he=>?_⟩,rfl⟩)⟩;by_cases hkl:k<s.H.length
   ·have hkl2:Lv s k:=⟨hkl,fun e1 z1 xs1 fz1 hb1=>by
     have:=hk.2 e1 z1 xs1 fz1 (by simp only[St.push];rw[List.getElem?_append_left hkl];exact hb1)
     rwa [show(s.push w' g c (.buf e' z xs false)).κ k=s.κ k from cD _ _ (by omega)]at this⟩
    simp only[St.push]at he ⊢;rw[cD _ _ (by omega)]at he;rw[List.getElem?_append_left hkl]
    refine Classical.byContradiction fun hno=>?_
    exact hb.2.1 (Or.inr ⟨k,hkl2,he,fun h=>h,fun e3 z3 xs3 h3=>hno ⟨e3,z3,xs3,h3⟩⟩)
   ·have hk':k=s.H.length:=by have:=hk.1;simp[St.push]at this;omega
    subst hk';simp only[St.push,aZ]at he;obtain⟨_,_,_,h3⟩:=hb.2.2 0 (lvB (e:=e') (z:=z) (xs:=xs) (fz:=false) rfl hc0) he;simp at h3
  ·refine .buf s.H.length 0 xs.length xs.length e' z xs false _ _ _ (by simp[St.push]) (Nat.le_refl _) (fun _=>?_);simp only[St.push,aZ];exact⟨fun _=>by simp,trivial,by simp,by simp⟩
end
end Go.AM
end
section
namespace Go.AM
open Go
section
variable {P:Program}
theorem find_now{d:TypeDesc}{kk:KK}(hnow:∀a b,bB a=some kk→bB b=some kk→Instr.sameNow d (di a) (di b)=some (cF a b)){v:V}(hv:bB v=some kk):
  ∀(ks:List V) (es:List MapEntry) (n:Nat),(∀k∈ks,bB k=some kk)→es.map (·.key)=ks.map di →
   ∃r,Instr.findNow d (di v) es n=some r∧((r=none∧∀k∈ks,cF v k=false)∨
    ∃i k e,r=some (n+i,e.val)∧ks[i]?=some k∧es[i]?=some e∧cF v k=true∧∀j k',j<i→ks[j]?=some k'→cF v k'=false)
 | [],[],n,_,_=>⟨none,rfl,.inl ⟨rfl,by simp⟩⟩
 | [],_::_,n,_,h=>by simp at h
 | _::_,[],n,_,h=>by simp at h
 | k::ks,e::es,n,hk,h=>by
  simp only[List.map_cons,List.cons.injEq]at h;obtain⟨h1,h2⟩:=h;have hn:=hnow v k hv (hk k (by simp));rw[←h1]at hn;cases hq:cF v k
  ·rw[hq]at hn;obtain⟨r,hr,hres⟩:=find_now hnow hv ks es (n+1) (fun x hx=>hk x (by simp[hx])) h2;refine⟨r,by simp[Instr.findNow,hn,hr],?_⟩
   rcases hres with⟨rfl,hno⟩ | ⟨i,k',e',rfl,q1,q2,q3,q4⟩
   ·exact .inl ⟨rfl,fun x hx=>(List.mem_cons.1 hx).elim (fun e=>by rw[e];exact hq) (hno x)⟩
   ·refine .inr ⟨i+1,k',e',by rw[Nat.add_assoc,Nat.add_comm 1 i],by simpa using q1,by simpa using q2,q3,fun j k'' hj hk''=>?_⟩
    cases j with
    | zero=>simp at hk'';subst hk'';exact hq
    | succ j=>exact q4 j k'' (by omega) (by simpa using hk'')
  ·rw[hq]at hn;exact⟨some (n,e.val),by simp[Instr.findNow,hn],.inr ⟨0,k,e,rfl,rfl,rfl,hq,fun j _ hj=>absurd hj (by omega)⟩⟩
theorem law_now{t:TypeId}{d:TypeDesc}{kk:KK}(hu:P.underlying t=some d)(hnow:∀a b,bB a=some kk→bB b=some kk→Instr.sameNow d (di a) (di b)=some (cF a b))
  (hc:∀(w:World) (em:Bool) (v:V),bB v=some kk→(Instr.checkKey em 10000 t (di v)).run P w = .ok () w):KLaw P t kk where
 check:=hc
 find w v ks es hv hk h:=by
  obtain⟨r,hr,hres⟩:=find_now hnow hv ks es 0 hk h;refine⟨r,by simp[Instr.findKey,run_underlying hu,hr],?_⟩;simpa using hres
theorem nV(t:TypeId)(em:Bool)(v:Value):Instr.checkKey em 10000 t v=Instr.checkKey em (9999+1) t v:=rfl
theorem bn{t:TypeId}{k:IntKind}(hu:P.underlying t=some (.int k)):KLaw P t (.int k):=by
 have shape:∀a,bB a=some (.int k)→∃n,a = .int k n:=fun a ha=>by
  cases a<;>simp only[bB]at ha<;>try (cases ha;done)
  ·cases ha;exact⟨_,rfl⟩
  ·split at ha<;>cases ha
 refine law_now hu (fun a b ha hb=>?_) (fun w em v hv=>?_)
 ·obtain⟨n,rfl⟩:=shape a ha;obtain⟨m,rfl⟩:=shape b hb;simp[di,fA,Instr.sameNow,cF]
 ·obtain⟨n,rfl⟩:=shape v hv;rw[nV,Instr.checkKey];simp[run_underlying hu,di,fA]
theorem str_law{t:TypeId}(hu:P.underlying t=some .string):KLaw P t .str:=by
 have shape:∀a,bB a=some .str→∃n,a = .str n:=fun a ha=>by
  cases a<;>simp only[bB]at ha<;>try (cases ha;done)
  ·exact⟨_,rfl⟩
  ·split at ha<;>cases ha
 refine law_now hu (fun a b ha hb=>?_) (fun w em v hv=>?_)
 ·obtain⟨n,rfl⟩:=shape a ha;obtain⟨m,rfl⟩:=shape b hb;simp[di,fA,Instr.sameNow,cF]
 ·obtain⟨n,rfl⟩:=shape v hv;rw[nV,Instr.checkKey];simp[run_underlying hu,di,fA]
theorem bool_law{t:TypeId}(hu:P.underlying t=some .bool):KLaw P t .bool:=by
 have shape:∀a,bB a=some .bool→∃n,a = .bool n:=fun a ha=>by
  cases a<;>simp only[bB]at ha<;>try (cases ha;done)
  ·exact⟨_,rfl⟩
  ·split at ha<;>cases ha
 refine law_now hu (fun a b ha hb=>?_) (fun w em v hv=>?_)
 ·obtain⟨n,rfl⟩:=shape a ha;obtain⟨m,rfl⟩:=shape b hb;simp[di,fA,Instr.sameNow,cF]
 ·obtain⟨n,rfl⟩:=shape v hv;rw[nV,Instr.checkKey];simp[run_underlying hu,di,fA]
theorem tok_of{T:Ty}(h:∀t i,T t=some i→P.underlying t=some i.desc∧(P.info? t).map (fun j=>(j.size,j.bytes,j.zero))=some (i.size,i.bytes,some i.zval)∧jJ i.zval=some i.zero∧i.zero.cells.length=i.size∧(∀kk,i.kk=some kk→KLaw P t kk)∧(i.eq=true→P.stoodInHeld t=false∧P.eqGuardType P.depth t=false)):TOk P T where
 key t i kk hi hk:=(h t i hi).2.2.2.2.1 kk hk
 eq t i hi he:=(h t i hi).2.2.2.2.2 he
 und t i hi:=(h t i hi).1
 info t i hi:=by
  obtain⟨_,h2,h3,h4,_⟩:=h t i hi
  cases hp:P.info? t with
  | none=>rw[hp]at h2;cases h2
  | some j =>
   rw[hp]at h2;simp only[Option.map_some,Option.some.injEq,Prod.mk.injEq]at h2;exact⟨j,rfl,h2.1,h2.2.1,h2.2.2,h3,h4⟩
end
end Go.AM
namespace Go.AM
open Go
def aM(P:Program)(t:TypeId)(o:Option TI):Prop:=∀i,o=some i→P.underlying t=some i.desc∧(P.info? t).map (fun j=>(j.size,j.bytes,j.zero))=some (i.size,i.bytes,some i.zval)∧jJ i.zval=some i.zero∧i.zero.cells.length=i.size∧(∀kk,i.kk=some kk→KLaw P t kk)∧(i.eq=true→P.stoodInHeld t=false∧P.eqGuardType P.depth t=false)
def qc(P:Program):Nat→List (Option TI)→Prop
 | _,[]=>True
 | n,o::r=>aM P n o∧qc P (n+1) r
theorem bH{P:Program}{t:Nat} : aM P t none:=fun _ h=>by cases h
theorem trows_nil{P:Program}{n:Nat} : qc P n []:=trivial
theorem aB{P:Program}{n:Nat}{o:Option TI}{l:List (Option TI)}(h:aM P n o)(r:qc P (n+1) l):qc P n (o::l):=⟨h,r⟩
theorem trows_at{P:Program} : ∀{l:List (Option TI)} {n:Nat},qc P n l→∀(k:Nat) o,l[k]?=some o→aM P (n+k) o
 | [],_,_,k,o,h=>by simp at h
 | x::r,n,h,0,o,hk=>by simp at hk;subst hk;exact h.1
 | x::r,n,h,k+1,o,hk=>by
  have:=trows_at h.2 k o (by simpa using hk)
  rwa [show n+1+k=n+(k+1) by omega]at this
theorem tok_rows{P:Program}{l:List (Option TI)}(h:qc P 0 l):TOk P (fun t=>(l[t]?).getD none):=tok_of fun t i hi=>by
 cases hl:l[t]? with
 | none=>rw[hl]at hi;cases hi
 | some o =>
  rw[hl]at hi;have:=trows_at h t o hl i (by simpa using hi)
  rwa [Nat.zero_add]at this
section
variable {P:Program}
end
end Go.AM
namespace Go.AM
open Go
def bk(T:Ty)(S:Nat→Bool):Ty:=fun t=>(T t).map fun i=>{ i with pa:=S t }
theorem az{P:Program}{T:Ty}(h:TOk P T)(S:Nat→Bool):TOk P (bk T S):=by
 have get:∀t i,bk T S t=some i→∃i',T t=some i'∧i = { i' with pa:=S t }:=fun t i hi=>by
  unfold bk at hi
  cases hT:T t with
  | none=>rw[hT]at hi;cases hi
  | some i'=>rw[hT]at hi;simp at hi;exact⟨i',rfl,hi.symm⟩
 refine⟨fun t i hi he=>?_,fun t i kk hi hk=>?_,fun t i hi=>?_,fun t i hi=>?_⟩
 ·obtain⟨i',h1,rfl⟩:=get t i hi;exact h.eq t i' h1 he
 ·obtain⟨i',h1,rfl⟩:=get t i hi;exact h.key t i' kk h1 hk
 ·obtain⟨i',h1,rfl⟩:=get t i hi;exact h.und t i' h1
 ·obtain⟨i',h1,rfl⟩:=get t i hi;exact h.info t i' h1
end Go.AM
namespace Go.AM
open Go
def maskOf(done:List Nat)(es:List Edge):Nat:=es.foldl (fun m e=>if Region.binds .any e then m ||| 2^e.on ||| (done[e.on]?.getD 0) else m) 0
def aO(done:List Nat):List Oper→List Nat
 | []=>done
 | o::rest=>aO (done++[maskOf done o.after.toList]) rest
theorem iu:∀(l:List Oper) (done:List Nat),∃m,aO done l=done++m∧m.length=l.length∧∀(k:Nat) o,l[k]?=some o→m[k]?=some (maskOf (done++m.take k) o.after.toList)
 | [],done=>⟨[],by simp[aO],rfl,by simp⟩
 | o::l,done=>by
  obtain⟨m,h1,h2,h3⟩:=iu l (done++[maskOf done o.after.toList]);refine⟨maskOf done o.after.toList::m,by simp[aO,h1],by simp[h2],fun k o' hk=>?_⟩
  cases k with
  | zero=>simp at hk;subst hk;simp
  | succ k =>
   have:=h3 k o' (by simpa using hk);simpa using this
theorem pe{done:List Nat}{i:Nat} : ∀(es:List Edge) (m0:Nat),(es.foldl (fun m e=>if Region.binds .any e then m ||| 2^e.on ||| (done[e.on]?.getD 0) else m) m0).testBit i=true →
  m0.testBit i=true∨∃e∈es,Region.binds .any e=true∧(i=e.on∨(done[e.on]?.getD 0).testBit i=true)
 | [],m0,h=>.inl h
 | e::es,m0,h=>by
  rw[List.foldl_cons]at h
  rcases pe es _ h with h | ⟨e',h1,h2⟩
  ·split at h
   ·rename_i hb;rw[Nat.testBit_or,Nat.testBit_or,Bool.or_eq_true,Bool.or_eq_true]at h
    rcases h with(h | h) | h
    ·exact .inl h
    ·refine .inr ⟨e,by simp,hb,.inl ?_⟩;rw[Nat.testBit_two_pow]at h;simpa[eq_comm] using h
    ·exact .inr ⟨e,by simp,hb,.inr h⟩
   ·exact .inl h
  ·exact .inr ⟨e',by simp[h1],h2⟩
def eT(ops:Array Oper)(D:Nat→Bool):Prop:=∀j o,ops[j]?=some o→D j=true→∀e∈o.after.toList,Region.binds .any e=true→D e.on=true
theorem ni{ops:Array Oper}{D:Nat→Bool}(hD:eT ops D)(hback:∀(j:Nat) (o:Oper),ops[j]?=some o→∀e∈o.after.toList,Region.binds .any e=true→e.on<j)(j:Nat):
  ∀i m,(aO [] ops.toList)[j]?=some m→m.testBit i=true→D j=true→D i=true:=by
 obtain⟨ms,h1,h2,h3⟩:=iu ops.toList [];rw[List.nil_append]at h1;rw[h1]
 induction j using Nat.strongRecOn with
 | _ j ih =>
  intro i m hm hb hDj
  have hj:j<ops.toList.length:=by have:=aE hm;omega
  have ho:ops.toList[j]?=some ops.toList[j]:=List.getElem?_eq_getElem hj;generalize ops.toList[j]=o at ho
  have ho':ops[j]?=some o:=by simpa using ho
  have hm':=h3 j o ho;rw[hm]at hm';cases hm'
  rcases pe _ _ hb with h | ⟨e,he,hbind,h⟩
  ·simp at h
  ·have hlt:=hback j o ho' e he hbind;have hDe:=hD j o ho' hDj e he hbind
   rcases h with rfl | h
   ·exact hDe
   ·simp only[List.nil_append,List.getElem?_take,if_pos hlt]at h
    cases hme:ms[e.on]? with
    | none=>rw[hme]at h;simp at h
    | some m'=>rw[hme]at h;exact ih e.on hlt i m' hme h hDe
def bh(ops:Array Oper)(fr:List V)(val:Nat→V)(D:Nat→Bool):Nat→Nat→Option V
 | 0,t=>fr[t]?
 | k+1,t=>if D k=true∧(ops[k]?).bind (·.dst)=some t∧t<fr.length then some (val k) else bh ops fr val D k t
theorem gW{ops:Array Oper}{fr:List V}{val:Nat→V}{D:Nat→Bool} : ∀(k t:Nat),(bh ops fr val D k t).isSome=decide (t<fr.length)
 | 0,t=>by
  simp only[bh];by_cases h:t<fr.length
  ·simp[h]
  ·simp[h]
 | k+1,t=>by
  simp only[bh];split
  ·rename_i h;simp[h.2.2]
  ·exact gW k t
theorem dQ{ops:Array Oper}{fr:List V}{val:Nat→V}{D:Nat→Bool}{i t:Nat}(h1:∀j,j<i→(ops[j]?).bind (·.dst)=some t→D j=true)(h2:∀j,i≤j→(ops[j]?).bind (·.dst)=some t→D j=false):
  ∀k,i≤k→bh ops fr val D k t=bh ops fr val (fun _=>true) i t:=by
 have low:∀k,k≤i→bh ops fr val D k t=bh ops fr val (fun _=>true) k t:=by
  intro k
  induction k with
  | zero=>intro _;rfl
  | succ k ih =>
   intro hk;simp only[bh];rw[ih (by omega)];by_cases hd:(ops[k]?).bind (·.dst)=some t
   ·rw[h1 k (by omega) hd];simp
   ·simp[hd]
 intro k hk
 induction k with
 | zero =>
  obtain rfl:i=0:=by omega
  rfl
 | succ k ih =>
  by_cases hki:i=k+1
  ·subst hki;exact low _ (Nat.le_refl _)
  ·simp only[bh];rw[if_neg,ih (by omega)];rintro⟨hD,hd,_⟩;rw[h2 k (by omega) hd]at hD;cases hD
def al(ops:Array Oper)(fr:List V)(val:Nat→V):Nat→List V
 | 0=>fr
 | k+1=>match ops[k]? with
  | some o=>bJ (al ops fr val k) o.dst (val k)
  | none=>al ops fr val k
theorem je{ops:Array Oper}{fr:List V}{val:Nat→V} : ∀k,(al ops fr val k).length=fr.length
 | 0=>rfl
 | k+1=>by
  simp only[al];split
  ·rename_i o ho;cases hd:o.dst<;>simp[bJ,je k]
  ·exact je k
theorem eO{ops:Array Oper}{fr:List V}{val:Nat→V} : ∀k t,(al ops fr val k)[t]?=bh ops fr val (fun _=>true) k t
 | 0,t=>rfl
 | k+1,t=>by
  have ih:=eO (ops:=ops) (fr:=fr) (val:=val) k;have hl:=je (ops:=ops) (fr:=fr) (val:=val) k;simp only[al,bh]
  cases ho:ops[k]? with
  | none=>simp[ih t]
  | some o =>
   cases hd:(o.dst:Option Nat) with
   | none=>simp[bJ,hd,ih t]
   | some d =>
    simp only[bJ,Option.bind_some,hd,Option.some.injEq,true_and];by_cases hdt:d=t
    ·subst hdt;by_cases hlt:d<fr.length
     ·rw[List.getElem?_set_self (by rw[hl];exact hlt)];simp[hlt]
     ·rw[if_neg (by simp[hlt]),List.getElem?_set,if_pos rfl,if_neg (by rw[hl];exact hlt),←ih d,List.getElem?_eq_none (by rw[hl];exact Nat.le_of_not_lt hlt)]
    ·rw[List.getElem?_set_ne hdt,if_neg (by simp[hdt]),ih t]
def dI(ops:Array Oper)(o:Oper):List Nat:=o.looksAt ops++o.dst.toList
def bef(ms:List Nat)(i j:Nat):Bool:=(ms[j]?.getD 0).testBit i
def mi:List Nat→Bool
 | []=>true
 | [_]=>true
 | a::b::r=>decide (a<b)&&mi (b::r)
def ic(ops:Array Oper)(E:List Nat):Bool :=
 let ms:=aO [] ops.toList
 (mi E&&E.all fun e=>decide (e<ops.size))&&(List.range ops.size).all fun j=>match ops[j]? with
  | none=>true
  | some oj=>oj.after.toList.all (fun e=>!Region.binds .any e||decide (e.on<j)) &&
   (dI ops oj).all (fun t=>(List.range ops.size).all fun i=>match ops[i]? with
    | none=>true
    | some oi=>!(oi.dst == some t)||i == j||(decide (i<j)&&bef ms i j)||(decide (j<i)&&bef ms j i)) &&
   (!E.contains j||(List.range j).all fun i=>!E.contains i||bef ms i j)
def im(ms E:List Nat)(i c:Nat):Bool:=(List.range E.length).all fun k=>match E[k]? with
 | none=>true
 | some e=>if k<c then !bef ms i e else !bef ms e i
def fK(p:Nat→Prop):List Nat→Prop
 | []=>True
 | c::cs=>p c∧fK p cs
def runT(T:Ty)(ops:Array Oper)(E:List Nat):List Oper→Nat→List V→List B→List (V×List B)→Option (List V×List (List B)×List V)
 | [],_,fr,_,_=>some ([],[],fr)
 | o::rest,i,fr,H,cv =>
  match bR ops fr o with
  | some false=>if E.contains i then none else match runT T ops E rest (i+1) (bJ fr o.dst (.tup [])) H cv with
   | some (vs,hs,f)=>some (.tup []::vs,hs,f)
   | none=>none
  | some true=>match bE o.op with
   | some _=>match cv with
    | (v,H')::cv'=>if E.contains i then
      (match runT T ops E rest (i+1) (bJ fr o.dst v) H' cv' with
      | some (vs,hs,f)=>some (v::vs,H'::hs,f)
      | none=>none)
     else(match runT T ops E rest (i+1) (bJ fr o.dst v) H cv' with
      | some (vs,hs,f)=>some (v::vs,hs,f)
      | none=>none)
    | []=>none
   | none=>match aop T o.op (aU fr) H with
    | some (v,H')=>if E.contains i then
      (match runT T ops E rest (i+1) (bJ fr o.dst v) H' cv with
      | some (vs,hs,f)=>some (v::vs,H'::hs,f)
      | none=>none)
     else(match runT T ops E rest (i+1) (bJ fr o.dst v) H cv with
      | some (vs,hs,f)=>some (v::vs,hs,f)
      | none=>none)
    | none=>none
  | none=>none
def bu(T:Ty)(ops:Array Oper)(C:V→List V→List B→(V→List B→Prop)→Prop)(ms E:List Nat)(Hs:Nat→List B):List Oper→Nat→List V→List V→Prop
 | [],_,_,_=>True
 | _::_,_,_,[]=>False
 | o::rest,i,fr,v::vs =>
  (match bR ops fr o with
   | some false=>v = .tup []∧E.contains i=false
   | some true=>match bE o.op with
    | some (f,args)=>if E.contains i then C (aU fr f) (args.map (aU fr)) (Hs (E.idxOf i)) (fun r H'=>r=v∧H'=Hs (E.idxOf i+1))
     else fK (fun c=>if im ms E i c then C (aU fr f) (args.map (aU fr)) (Hs c) (fun r H'=>r=v∧H'=Hs c) else True) (List.range (E.length+1))
    | none=>if E.contains i then aop T o.op (aU fr) (Hs (E.idxOf i))=some (v,Hs (E.idxOf i+1))
     else fK (fun c=>if im ms E i c then aop T o.op (aU fr) (Hs c)=some (v,Hs c) else True) (List.range (E.length+1))
   | none=>False)∧bu T ops C ms E Hs rest (i+1) (bJ fr o.dst v) vs
def nY(T:Ty)(ops:Array Oper)(E:List Nat)(cv:List (V×List B))(C:V→List V→List B→(V→List B→Prop)→Prop)(K:List V→List B→Prop)(fr:List V)(H:List B):Prop :=
 match runT T ops E ops.toList 0 fr H cv with
 | none=>False
 | some (vs,hs,f)=>(ic ops E=true∧hs.length=E.length)∧bu T ops C (aO [] ops.toList) E (fun c=>(H::hs)[c]?.getD []) ops.toList 0 fr vs∧K f ((H::hs)[E.length]?.getD [])
theorem fW:∀{E:List Nat},mi E=true→∀(k l a b:Nat),k<l→E[k]?=some a→E[l]?=some b→a<b
 | [],_,k,l,a,b,_,h,_=>by simp at h
 | [x],_,k,l,a,b,hkl,h1,h2=>by have:=aE h2;simp at this;omega
 | x::y::r,h,k,l,a,b,hkl,h1,h2=>by
  simp only[mi,Bool.and_eq_true,decide_eq_true_eq]at h
  cases l with
  | zero=>omega
  | succ l =>
   have h2':(y::r)[l]?=some b:=by simpa using h2
   cases k with
   | zero =>
    simp at h1;subst h1
    cases l with
    | zero=>simp at h2';omega
    | succ l=>have:=fW h.2 0 (l+1) y b (by omega) rfl h2';omega
   | succ k=>exact fW h.2 k l a b (by omega) (by simpa using h1) h2'
theorem kQ{T:Ty}{op:Go.Op}{ρ ρ':Operand→V}{H:List B}(h:∀x∈op.operands,ρ x=ρ' x):aop T op ρ H=aop T op ρ' H:=by
 have pairs:∀ps:Array (Nat×Operand),(∀x∈(ps.toList.map (·.2)).toArray,ρ x=ρ' x)→(ps.toList.map fun p=>(p.1,ρ p.2))=(ps.toList.map fun p=>(p.1,ρ' p.2)):=fun ps hp =>
  List.map_congr_left fun p hm=>by rw[hp p.2 (by simp only[List.mem_toArray,List.mem_map];exact⟨p,hm,rfl⟩)]
 cases op<;>simp only[Op.operands]at h<;>simp only[aop]
 case move x=>rw[h x (by simp)]
 case assign x=>rw[h x (by simp)]
 case box e x=>rw[h x (by simp)]
 case load t x=>rw[h x (by simp)]
 case nilCheck x=>rw[h x (by simp)]
 case unOp o t x=>rw[h x (by simp)]
 case convert a b x=>rw[h x (by simp)]
 case fieldAddr a x f=>rw[h x (by simp)]
 case field a x f=>rw[h x (by simp)]
 case extract x i=>rw[h x (by simp)]
 case pick c a b=>rw[h c (by simp),h a (by simp),h b (by simp)]
 case build t ps=>rw[pairs ps h]
 case buildSlice t l ps=>rw[pairs ps h]
 case store t a v=>rw[h a (by simp),h v (by simp)]
 case binOp o t x y ty=>rw[h x (by simp),h y (by simp)]
 case makeFunc fn first caps =>
  rw[List.map_congr_left (g:=ρ') (fun x hx=>h x (by simp;exact .inr (by simpa using hx)))]
 case makeSlice t l c=>rw[h l (by simp),h c (by simp)]
 case slice t x lo hi mx =>
  have ho:∀y:Option Operand,(∀z∈y.toArray,ρ z=ρ' z)→y.map ρ=y.map ρ':=fun y hy=>by
   cases y with
   | none=>rfl
   | some z=>simp[hy z (by simp)]
  rw[h x (by simp),ho lo (fun z hz=>h z (by simp at hz ⊢;simp[hz])),ho hi (fun z hz=>h z (by simp at hz ⊢;simp[hz])),ho mx (fun z hz=>h z (by simp at hz ⊢;simp[hz]))]
 case indexAddr t x i=>rw[h x (by simp),h i (by simp)]
 case index t x i=>rw[h x (by simp),h i (by simp)]
 case lookup t x i c=>rw[h x (by simp),h i (by simp)]
 case mapUpdate t m k v=>rw[h m (by simp),h k (by simp),h v (by simp)]
 case insert t m k v=>rw[h m (by simp),h k (by simp),h v (by simp)]
 case call c =>
  obtain⟨callee,args,ats⟩:=c;cases callee<;>simp only;rw[List.map_congr_left (g:=ρ') (fun x hx=>h x (by simp[Call.operands];simpa using hx))]
end Go.AM
namespace Go.AM
open Go
section
variable {P:Program} {T:Ty}
def gS(T:Ty)(ops:Array Oper)(C:V→List V→List B→(V→List B→Prop)→Prop)(ms E:List Nat)(Hs:Nat→List B)(o:Oper)(i:Nat)(fr:List V)(v:V):Prop :=
 match bR ops fr o with
 | some false=>v = .tup []∧E.contains i=false
 | some true=>match bE o.op with
  | some (f,args)=>if E.contains i then C (aU fr f) (args.map (aU fr)) (Hs (E.idxOf i)) (fun r H'=>r=v∧H'=Hs (E.idxOf i+1))
   else fK (fun c=>if im ms E i c then C (aU fr f) (args.map (aU fr)) (Hs c) (fun r H'=>r=v∧H'=Hs c) else True) (List.range (E.length+1))
  | none=>if E.contains i then aop T o.op (aU fr) (Hs (E.idxOf i))=some (v,Hs (E.idxOf i+1))
   else fK (fun c=>if im ms E i c then aop T o.op (aU fr) (Hs c)=some (v,Hs c) else True) (List.range (E.length+1))
 | none=>False
theorem dM{p:Nat→Prop} : ∀{l:List Nat},fK p l→∀c∈l,p c
 | [],_,c,hc=>by simp at hc
 | x::l,h,c,hc=>(List.mem_cons.1 hc).elim (fun e=>e▸h.1) (dM h.2 c)
theorem obl_at{ops:Array Oper}{C:V→List V→List B→(V→List B→Prop)→Prop}{ms E:List Nat}{Hs:Nat→List B}{val:Nat→V}{fr0:List V} : ∀(l:List Oper) (i:Nat) (vs:List V),l=ops.toList.drop i→(∀k,k<vs.length→vs[k]?=some (val (i+k)))→
  bu T ops C ms E Hs l i (al ops fr0 val i) vs→∀j o,i≤j→ops[j]?=some o→gS T ops C ms E Hs o j (al ops fr0 val j) (val j)
 | [],i,vs,hl,_,_,j,o,hij,ho=>by
  have h1:ops.toList.length≤i:=by have:=congrArg List.length hl;simp at this;simp;omega
  have h2:=(Array.getElem?_eq_some_iff.1 ho).1;simp at h1;omega
 | o'::rest,i,[],hl,_,h,j,o,hij,ho=>by simp[bu]at h
 | o'::rest,i,v::vs,hl,hv,h,j,o,hij,ho=>by
  have ho':ops[i]?=some o':=by
   have:=congrArg (fun l=>l[0]?) hl;simp at this;exact this.symm
  have hrest:rest=ops.toList.drop (i+1):=by
   have:=congrArg List.tail hl;simpa using this
  have hv0:v=val i:=by have:=hv 0 (by simp);simpa using this
  obtain⟨h1,h2⟩:=h;by_cases hji:j=i
  ·subst hji;rw[ho']at ho;cases ho;rw[←hv0];exact h1
  ·refine obl_at rest (i+1) vs hrest (fun k hk=>?_) ?_ j o (by omega) ho
   ·have:=hv (k+1) (by simpa using hk);rw[show i+1+k=i+(k+1) by omega];simpa using this
   ·simp only[al,ho',←hv0];exact h2
theorem runT_cons{ops:Array Oper}{E:List Nat}{o:Oper}{rest:List Oper}{i:Nat}{fr:List V}{H:List B}{cv:List (V×List B)}{vs:List V}{hs:List (List B)}{f:List V}(h:runT T ops E (o::rest) i fr H cv=some (vs,hs,f)):
  ∃v H' cv' vs' hs',runT T ops E rest (i+1) (bJ fr o.dst v) H' cv'=some (vs',hs',f)∧vs=v::vs':=by
 simp only[runT]at h;split at h
 ·split at h
  ·cases h
  ·split at h
   ·rename_i vs' hs' f' hr;cases h;exact⟨_,_,_,_,_,hr,rfl⟩
   ·cases h
 ·split at h
  ·split at h
   ·split at h
    ·split at h
     ·rename_i vs' hs' f' hr;cases h;exact⟨_,_,_,_,_,hr,rfl⟩
     ·cases h
    ·split at h
     ·rename_i vs' hs' f' hr;cases h;exact⟨_,_,_,_,_,hr,rfl⟩
     ·cases h
   ·cases h
  ·split at h
   ·split at h
    ·split at h
     ·rename_i vs' hs' f' hr;cases h;exact⟨_,_,_,_,_,hr,rfl⟩
     ·cases h
    ·split at h
     ·rename_i vs' hs' f' hr;cases h;exact⟨_,_,_,_,_,hr,rfl⟩
     ·cases h
   ·cases h
 ·cases h
theorem runT_len{ops:Array Oper}{E:List Nat} : ∀{l:List Oper} {i:Nat} {fr:List V} {H:List B} {cv:List (V×List B)} {vs:List V} {hs:List (List B)} {f:List V},runT T ops E l i fr H cv=some (vs,hs,f)→vs.length=l.length
 | [],i,fr,H,cv,vs,hs,f,h=>by simp only[runT,Option.some.injEq,Prod.mk.injEq]at h;rw[←h.1];rfl
 | o::rest,i,fr,H,cv,vs,hs,f,h=>by
  obtain⟨v,H',cv',vs',hs',hr,rfl⟩:=runT_cons h;simp[runT_len hr]
theorem pH{ops:Array Oper}{E:List Nat}{val:Nat→V}{fr0:List V} : ∀(l:List Oper) (i:Nat) (fr:List V) (H:List B) (cv:List (V×List B)) (vs:List V) (hs:List (List B)) (f:List V),l=ops.toList.drop i→fr=al ops fr0 val i →
  (∀k,k<vs.length→vs[k]?=some (val (i+k)))→runT T ops E l i fr H cv=some (vs,hs,f)→f=al ops fr0 val (i+l.length)
 | [],i,fr,H,cv,vs,hs,f,hl,hfr,_,h=>by
  simp only[runT,Option.some.injEq,Prod.mk.injEq]at h;rw[←h.2.2];exact hfr
 | o::rest,i,fr,H,cv,vs,hs,f,hl,hfr,hv,h=>by
  have ho':ops[i]?=some o:=by
   have:=congrArg (fun l=>l[0]?) hl;simp at this;exact this.symm
  have hrest:rest=ops.toList.drop (i+1):=by
   have:=congrArg List.tail hl;simpa using this
  obtain⟨v,H',cv',vs',hs',hr,rfl⟩:=runT_cons h
  have hvi:v=val i:=by have:=hv 0 (by simp);simpa using this
  have hf:=pH (val:=val) (fr0:=fr0) rest (i+1) (bJ fr o.dst v) H' cv' vs' hs' f hrest (by simp only[al,ho',hfr,hvi]) (fun k hk=>by
   have:=hv (k+1) (by simpa using hk);rw[show i+1+k=i+(k+1) by omega]
   simpa using this) hr
  rw[hf];congr 1;simp;omega
def dN(ops:Array Oper)(fr:List V)(val:Nat→V)(D:Nat→Bool):List V:=(List.range fr.length).map fun t=>(bh ops fr val D ops.size t).getD .undef
theorem dH{ops:Array Oper}{fr:List V}{val:Nat→V}{D:Nat→Bool}(t:Nat):(dN ops fr val D)[t]?=bh ops fr val D ops.size t:=by
 have hs:=gW (ops:=ops) (fr:=fr) (val:=val) (D:=D) ops.size t;by_cases ht:t<fr.length
 ·simp only[ht,decide_true]at hs;obtain⟨v,hv⟩:=Option.isSome_iff_exists.1 hs;simp[dN,ht,hv]
 ·simp only[ht,decide_false]at hs;rw[List.getElem?_eq_none (by simp[dN];omega)]
  cases h:bh ops fr val D ops.size t with
  | none=>rfl
  | some v=>rw[h]at hs;cases hs
theorem eI{ops:Array Oper}{fr:List V}{val:Nat→V}{D D':Nat→Bool}{t:Nat}(h:∀j,(ops[j]?).bind (·.dst)=some t→D j=D' j):∀k,bh ops fr val D k t=bh ops fr val D' k t
 | 0=>rfl
 | k+1=>by
  simp only[bh];rw[eI h k];by_cases hd:(ops[k]?).bind (·.dst)=some t
  ·rw[h k hd]
  ·simp[hd]
theorem jf{p q:Nat→Bool}{i:Nat}(hp:p i=true)(hq:q i=false)(hqp:∀j,q j=true→p j=true):∀{l:List Nat},i∈l→(l.filter q).length<(l.filter p).length
 | [],h=>by simp at h
 | x::l,h=>by
  have le:∀l:List Nat,(l.filter q).length≤(l.filter p).length:=fun l=>by
   induction l with
   | nil=>simp
   | cons y l ih =>
    simp only[List.filter_cons];split
    ·rename_i hy;rw[if_pos (hqp y hy)];simp;exact ih
    ·split
     ·simp;omega
     ·exact ih
  simp only[List.filter_cons]
  rcases List.mem_cons.1 h with rfl | h
  ·rw[if_neg (by simp[hq]),if_pos hp];have:=le l;simp;omega
  ·have:=jf hp hq hqp h;split
   ·rename_i hx;rw[if_pos (hqp x hx)];simp;exact this
   ·split
    ·simp;omega
    ·exact this
theorem nt{fr fr':List V}{x:Operand}(h:∀t,x = .tmp t→fr[t]?=fr'[t]?):aU fr x=aU fr' x:=by
 cases x with
 | tmp t=>simp only[aU];rw[h t rfl]
 | _=>rfl
theorem draw_sound(hT:TOk P T){ops:Array Oper}{E:List Nat}{val:Nat→V}{Hs:Nat→List B}{fr:List V}{s0:St}{Q:Exit→Act→World→Prop}(hz0:GOk P s0)
  (hst:ic ops E=true) (hcl:∀i o,ops[i]?=some o→gS T ops (aT P) (aO [] ops.toList) E Hs o i (al ops fr val i) (val i))
  (hQ:∀s a,Good s→Step s0 s→FRel s (al ops fr val ops.size) a.tmps→a.defers=[]→s.H=Hs E.length→Q .normal a s.w):
  ∀(fuel:Nat) (listed:Array Bool) (s:St) (a:Act) (c:Nat),listed.size=ops.size→eT ops (fun i=>listed.getD i false)→
   ((List.range ops.size).filter fun i=>!(listed.getD i false)).length≤fuel→c≤E.length→(∀k e,E[k]?=some e→(listed.getD e false=true↔k<c))→
   Good s→Step s0 s→s.H=Hs c→FRel s (dN ops fr val fun i=>listed.getD i false) a.tmps→a.defers=[]→wpAny P .any ops Q fuel listed a s.w:=by
 simp only[ic,Bool.and_eq_true,List.all_eq_true,decide_eq_true_eq,List.mem_range]at hst;obtain⟨⟨hasc,hE⟩,hops⟩:=hst
 have hback:∀(j:Nat) (o:Oper),ops[j]?=some o→∀e∈o.after.toList,Region.binds .any e=true→e.on<j:=fun j o ho e he hbd=>by
  have hj:=(Array.getElem?_eq_some_iff.1 ho).1;have:=hops j hj;rw[ho]at this;simp only[Bool.and_eq_true,List.all_eq_true]at this;have h1:=this.1.1 e he;rw[hbd]at h1;simpa using h1
 have htmp:∀(j i:Nat) (oj oi:Oper) (t:Nat),ops[j]?=some oj→ops[i]?=some oi→t∈dI ops oj→oi.dst=some t→i=j∨(i<j∧bef (aO [] ops.toList) i j=true)∨(j<i∧bef (aO [] ops.toList) j i=true):=fun j i oj oi t hoj hoi ht hd=>by
  have hj:=(Array.getElem?_eq_some_iff.1 hoj).1;have hi:=(Array.getElem?_eq_some_iff.1 hoi).1;have:=hops j hj;rw[hoj]at this;simp only[Bool.and_eq_true,List.all_eq_true]at this;have h2:=this.1.2 t ht i (by simpa using hi);rw[hoi]at h2;simp only[hd,Bool.or_eq_true,Bool.and_eq_true,decide_eq_true_eq,beq_iff_eq,Bool.not_eq_true',beq_eq_false_iff_ne,ne_eq,not_true_eq_false,false_or]at h2
  rcases h2 with(h | h) | h
  ·exact .inl h
  ·exact .inr (.inl h)
  ·exact .inr (.inr h)
 have heff:∀i j,j∈E→i∈E→i<j→bef (aO [] ops.toList) i j=true:=fun i j hj hi hij=>by
  have hjl:=hE j hj;have:=hops j hjl
  have hoj:ops[j]?=some ops[j]:=by simp[hjl]
  rw[hoj]at this;simp only[Bool.and_eq_true,List.all_eq_true]at this;have h2:=this.2;simp only[Bool.or_eq_true,Bool.not_eq_true',List.all_eq_true,List.mem_range]at h2
  rcases h2 with h2 | h2
  ·simp at h2;exact absurd hj h2
  ·rcases h2 i hij with h3 | h3
   ·simp at h3;exact absurd hi h3
   ·exact h3
 have hmask:∀(D:Nat→Bool),eT ops D→∀i j,j<ops.size→bef (aO [] ops.toList) i j=true→D j=true→D i=true:=fun D hD i j hj hb hDj=>by
  obtain⟨ms,h1,h2,_⟩:=iu ops.toList [];rw[List.nil_append]at h1
  have hlen:(aO [] ops.toList).length=ops.size:=by rw[h1,h2];simp
  have hm:(aO [] ops.toList)[j]?=some ((aO [] ops.toList)[j]'(by omega)):=List.getElem?_eq_getElem (by omega);unfold bef at hb;rw[hm]at hb;exact ni hD hback j i _ hm hb hDj
 have fin:∀(listed:Array Bool) (s:St) (a:Act) (c:Nat),(∀i,i<ops.size→listed.getD i false=true)→c≤E.length→(∀k e,E[k]?=some e→(listed.getD e false=true↔k<c))→Good s→Step s0 s→s.H=Hs c →
   FRel s (dN ops fr val fun i=>listed.getD i false) a.tmps→a.defers=[]→Q .normal a s.w:=fun listed s a c hall hc hpre hg hs hH hf hd=>by
  have hcE:c=E.length:=by
   rcases Nat.lt_or_ge c E.length with h | h
   ·have he:E[c]?=some E[c]:=List.getElem?_eq_getElem h;have:=(hpre c _ he).1 (hall _ (hE _ (List.getElem_mem h)));omega
   ·omega
  subst hcE;refine hQ s a hg hs ?_ hd hH
  have:(dN ops fr val fun i=>listed.getD i false)=al ops fr val ops.size:=by
   apply List.ext_getElem?;intro t;rw[dH,eO];refine dQ (fun j hj _=>hall j hj) (fun j hj hdst=>?_) ops.size (Nat.le_refl _);rw[Array.getElem?_eq_none hj]at hdst;simp at hdst
  rwa [this]at hf
 have done:∀(listed:Array Bool),listed.size=ops.size→Region.ready .any ops listed=[]→∀i,i<ops.size→listed.getD i false=true:=fun listed hsz hr i=>by
  induction i using Nat.strongRecOn with
  | _ i ih =>
   intro hi
   cases hD:listed.getD i false with
   | true=>rfl
   | false =>
    exfalso
    have hmem:i∈Region.ready .any ops listed:=by
     unfold Region.ready;rw[List.mem_filter]
     have ho:ops[i]?=some ops[i]:=by simp[hi]
     have hil:i<listed.size:=by omega
     refine⟨by simpa using hi,?_⟩;rw[ho];simp only[Option.map_some,Option.getD_some,Bool.and_eq_true,Bool.not_eq_true'];refine⟨by simp[Array.getD,hil]at hD ⊢;exact hD,?_⟩;rw[Array.all_eq_true'];intro e he;by_cases hbd:Region.binds .any e=true
     ·have hlt:=hback i _ ho e (by simpa using he) hbd;simp[ih e.on hlt (by omega)]
     ·simp[hbd]
    rw[hr]at hmem;simp at hmem
 intro fuel
 induction fuel with
 | zero =>
  intro listed s a c hsz hcl2 hcnt hc hpre hg hs hH hf hd
  have hall:∀i,i<ops.size→listed.getD i false=true:=fun i hi=>by
   cases hD:listed.getD i false with
   | true=>rfl
   | false =>
    exfalso
    have:i∈(List.range ops.size).filter fun i=>!(listed.getD i false):=by rw[List.mem_filter];exact⟨by simpa using hi,by simp only[hD];rfl⟩
    have h0:((List.range ops.size).filter fun i=>!(listed.getD i false))=[]:=List.eq_nil_of_length_eq_zero (by omega);rw[h0]at this;simp at this
  refine⟨?_,fin listed s a c hall hc hpre hg hs hH hf hd⟩;unfold Region.ready;rw[List.filter_eq_nil_iff];intro i hi
  have hil:i<listed.size:=by rw[hsz];simpa using hi
  have:=hall i (by simpa using hi)
  have h1:listed.getD i true=true:=by simpa[Array.getD,hil] using this
  simp[h1]
 | succ fuel ih =>
  intro listed s a c hsz hcl2 hcnt hc hpre hg hs hH hf hd;refine⟨fun hr=>fin listed s a c (done listed hsz hr) hc hpre hg hs hH hf hd,fun i hi=>?_⟩;unfold Region.ready at hi;rw[List.mem_filter]at hi;obtain⟨hin,hcond⟩:=hi
  have hin:i<ops.size:=by simpa using hin
  have hil:i<listed.size:=by omega
  have ho:ops[i]?=some ops[i]:=by simp[hin]
  generalize ops[i]=o at ho;rw[ho]at hcond;simp only[Option.map_some,Option.getD_some,Bool.and_eq_true,Bool.not_eq_true']at hcond;obtain⟨hDi,hedge⟩:=hcond
  have hDi:listed.getD i false=false:=by simp only[Array.getD,hil,dif_pos]at hDi ⊢;exact hDi
  rw[Array.all_eq_true']at hedge
  have hD':∀j,(listed.setIfInBounds i true).getD j false=if j=i then true else listed.getD j false:=fun j=>by
   by_cases hj:j=i
   ·subst hj;simp[Array.getD,hil]
   ·rw[if_neg hj,Array.getD_eq_getD_getElem?,Array.getD_eq_getD_getElem?,Array.getElem?_setIfInBounds_ne (Ne.symm hj)]
  have hclosed':eT ops (fun j=>(listed.setIfInBounds i true).getD j false):=fun j oj hoj hj e he hb=>by
   simp only[hD']at hj ⊢;by_cases hji:j=i
   ·subst hji;rw[ho]at hoj;cases hoj;have:=hedge e (by simpa using he);rw[hb]at this;simp at this;split
    ·rfl
    ·simpa using this
   ·rw[if_neg hji]at hj;split
    ·rfl
    ·exact hcl2 j oj hoj hj e he hb
  have before:∀j,j≠i→bef (aO [] ops.toList) j i=true→listed.getD j false=true:=fun j hji hb=>by
   have:=hmask _ hclosed' j i hin hb (by simp[hD']);simp only[hD',if_neg hji]at this;exact this
  have behind:∀j,j<ops.size→bef (aO [] ops.toList) i j=true→listed.getD j false=false:=fun j hj hb=>by
   cases hDj:listed.getD j false with
   | false=>rfl
   | true=>have:=hmask _ hcl2 i j hj hb hDj;rw[hDi]at this;cases this
  have meets:∀t,t∈dI ops o→(∀j,j<i→(ops[j]?).bind (·.dst)=some t→listed.getD j false=true)∧(∀j,i<j→(ops[j]?).bind (·.dst)=some t→listed.getD j false=false):=fun t ht=>by
   refine⟨fun j hj hdst=>?_,fun j hj hdst=>?_⟩
   ·cases hoj:ops[j]? with
    | none=>rw[hoj]at hdst;simp at hdst
    | some oj =>
     rw[hoj]at hdst
     rcases htmp i j o oj t ho hoj ht (by simpa using hdst) with h | h | h
     ·omega
     ·exact before j (by omega) h.2
     ·omega
   ·cases hoj:ops[j]? with
    | none=>rw[hoj]at hdst;simp at hdst
    | some oj =>
     rw[hoj]at hdst
     rcases htmp i j o oj t ho hoj ht (by simpa using hdst) with h | h | h
     ·omega
     ·omega
     ·exact behind j (Array.getElem?_eq_some_iff.1 hoj).1 h.2
  have agree:∀t,t∈dI ops o→(dN ops fr val fun i=>listed.getD i false)[t]?=(al ops fr val i)[t]?:=fun t ht=>by
   rw[dH,eO];refine dQ (meets t ht).1 (fun j hj hdst=>?_) ops.size (by omega);by_cases hji:j=i
   ·subst hji;exact hDi
   ·exact(meets t ht).2 j (by omega) hdst
  have hop:∀x∈o.op.operands,aU (dN ops fr val fun i=>listed.getD i false) x=aU (al ops fr val i) x:=fun x hx=>by
   refine nt fun t e=>agree t ?_
   subst e;simp only[dI,Oper.looksAt,List.mem_append,List.mem_filterMap];exact .inl (.inl ⟨.tmp t,by simpa using hx,rfl⟩)
  have hwant:bR ops (dN ops fr val fun i=>listed.getD i false) o=bR ops (al ops fr val i) o:=by
   unfold bR
   cases hgd:o.guard with
   | none=>rfl
   | some g =>
    obtain⟨j,want⟩:=g;simp only
    cases hoj:ops[j]? with
    | none=>rfl
    | some oj =>
     simp only
     cases hdj:oj.dst with
     | none=>rfl
     | some d =>
      simp only;rw[agree d (by simp[dI,Oper.looksAt,hgd,hoj,hdj])]
  have next:∀{s1:St} {u:Value} {c':Nat},Good s1→Step s s1→Rel s1 (val i) u→c'≤E.length→s1.H=Hs c'→(∀k e,E[k]?=some e→((listed.setIfInBounds i true).getD e false=true↔k<c'))→
    wpAny P .any ops Q fuel (listed.setIfInBounds i true) (a.put o.dst u) s1.w:=fun {s1 u c'} g1 g2 g3 g4 g5 g6=>by
   refine ih _ s1 _ c' (by simp[hsz]) hclosed' ?_ g4 g6 g1 (hs.trans g2) g5 ?_ (by rw[kn];exact hd)
   ·have:=jf (p:=fun j=>!(listed.getD j false)) (q:=fun j=>!((listed.setIfInBounds i true).getD j false)) (i:=i) (by simp only[hDi];rfl) (by simp[hD']) (fun j hj=>by
     simp only[hD']at hj;split at hj
     ·simp at hj
     ·exact hj) (l:=List.range ops.size) (by simpa using hin)
    omega
   ·have hnow:(dN ops fr val fun j=>(listed.setIfInBounds i true).getD j false)=bJ (dN ops fr val fun j=>listed.getD j false) o.dst (val i):=by
     apply List.ext_getElem?;intro t;rw[dH]
     cases hdst:(o.dst:Option Nat) with
     | none =>
      simp only[bJ];rw[dH];refine eI (fun j hj=>?_) _;simp only[hD'];split
      ·rename_i hji;subst hji;rw[ho]at hj;simp[hdst]at hj
      ·rfl
     | some d =>
      simp only[bJ]
      have hlen:(dN ops fr val fun j=>listed.getD j false).length=fr.length:=by simp[dN]
      by_cases hdt:d=t
      ·subst hdt;have hm:=meets d (by simp[dI,hdst])
       have e1:=dQ (fr:=fr) (val:=val) (D:=fun j=>(listed.setIfInBounds i true).getD j false) (i:=i+1) (t:=d) (fun j hj hdj=>by
        simp only[hD'];split
        ·rfl
        ·exact hm.1 j (by omega) hdj) (fun j hj hdj=>by
        simp only[hD'];rw[if_neg (by omega)]
        exact hm.2 j (by omega) hdj) ops.size (by omega)
       rw[e1];simp only[bh];by_cases hlt:d<fr.length
       ·rw[if_pos ⟨trivial,by rw[ho];simpa using hdst,hlt⟩,List.getElem?_set_self (by rw[hlen];exact hlt)]
       ·rw[if_neg (by simp[hlt]),List.getElem?_set,if_pos rfl,if_neg (by rw[hlen];exact hlt)];have:=gW (ops:=ops) (fr:=fr) (val:=val) (D:=fun _=>true) i d
        cases h:bh ops fr val (fun _=>true) i d with
        | none=>rfl
        | some v=>rw[h]at this;simp[hlt]at this
      ·rw[List.getElem?_set_ne hdt,dH];refine eI (fun j hj=>?_) _;simp only[hD'];split
       ·rename_i hji;subst hji;rw[ho]at hj;simp[hdst]at hj;exact absurd hj hdt
       ·rfl
    rw[hnow];exact(hf.step g2).put g3 o.dst
  have sameE:i∉E→∀k e,E[k]?=some e→((listed.setIfInBounds i true).getD e false=true↔k<c):=fun hiE k e he=>by
   rw[hD',if_neg (fun h:e=i=>hiE (by rw[←h];exact List.mem_of_getElem? he))];exact hpre k e he
  have hpos:i∉E→im (aO [] ops.toList) E i c=true:=fun hiE=>by
   simp only[im,List.all_eq_true,List.mem_range];intro k hk;have he:E[k]?=some E[k]:=List.getElem?_eq_getElem hk;rw[he];simp only;split
   ·rename_i hkc;have hD:=(hpre k _ he).2 hkc
    cases hb:bef (aO [] ops.toList) i E[k] with
    | false=>rfl
    | true=>have:=behind _ (hE _ (List.getElem_mem hk)) hb;rw[hD]at this;cases this
   ·rename_i hkc
    cases hb:bef (aO [] ops.toList) E[k] i with
    | false=>rfl
    | true =>
     have:=before _ (fun h=>hiE (h▸List.getElem_mem hk)) hb;exact absurd ((hpre k _ he).1 this) hkc
  have eff:i∈E→E.idxOf i=c∧(∀k' e,E[k']?=some e→((listed.setIfInBounds i true).getD e false=true↔k'<c+1))∧c+1≤E.length:=fun hiE=>by
   obtain⟨k,hk⟩:=List.getElem?_of_mem hiE;have hkl:=aE hk
   have hidx:E.idxOf i=k:=by
    have h1:=List.idxOf_lt_length_of_mem hiE
    have h2:E[E.idxOf i]?=some i:=by rw[List.getElem?_eq_getElem h1];simp
    rcases Nat.lt_trichotomy (E.idxOf i) k with h | h | h
    ·have:=fW hasc _ _ _ _ h h2 hk;omega
    ·exact h
    ·have:=fW hasc _ _ _ _ h hk h2;omega
   have hck:c=k:=by
    have h1:¬k<c:=fun h=>by have:=(hpre k i hk).2 h;rw[hDi]at this;cases this
    rcases Nat.lt_or_ge c k with h | h
    ·have he:E[c]?=some (E[c]'(by omega)):=List.getElem?_eq_getElem (by omega);have hlt:=fW hasc _ _ _ _ h he hk;have hb:=heff _ _ hiE (List.getElem_mem (by omega)) hlt;have:=(hpre c _ he).1 (before _ (by omega) hb);omega
    ·omega
   have hpre':∀k' e,E[k']?=some e→((listed.setIfInBounds i true).getD e false=true↔k'<c+1):=fun k' e he=>by
    rw[hD'];by_cases hei:e=i
    ·subst hei
     have:k'=k:=by
      rcases Nat.lt_trichotomy k' k with h | h | h
      ·have:=fW hasc _ _ _ _ h he hk;omega
      ·exact h
      ·have:=fW hasc _ _ _ _ h hk he;omega
     simp;omega
    ·rw[if_neg hei,hpre k' e he];constructor
     ·omega
     ·intro h
      rcases Nat.lt_or_ge k' c with h' | h'
      ·exact h'
      ·exfalso
       have hk'c:k'=k:=by omega
       subst hk'c;rw[hk]at he;cases he;exact hei rfl
   exact⟨by rw[hidx,hck],hpre',by omega⟩
  have hclause:=hcl i o ho;unfold gS at hclause;rw[←hwant]at hclause;unfold wpOp;rw[ho];simp only;split at hclause
  ·
   rename_i hw;rw[eZ hf hw];simp only[Bool.false_eq_true,if_false]
   have hiE:i∉E:=by simpa using hclause.2
   exact next hg (Step.refl s) (by rw[hclause.1];exact .tup [] #[] rfl (by simp)) hc hH (sameE hiE)
  ·rename_i hw;rw[eZ hf hw];simp only[if_true];left;split at hclause
   ·
    rename_i f args hcall
    have hin2:f∈o.op.operands∧∀x∈args,x∈o.op.operands:=by
     unfold bE at hcall;split at hcall
     ·rename_i cc hoc;split at hcall
      ·rename_i f' hcal;cases hcall;rw[hoc];simp only[Op.operands,Call.operands,hcal];exact⟨by simp,fun x hx=>by simp;exact .inr (by simpa using hx)⟩
      ·cases hcall
     ·cases hcall
    have hf1:aU (al ops fr val i) f=aU (dN ops fr val fun i=>listed.getD i false) f:=(hop f hin2.1).symm
    have hf2:args.map (aU (al ops fr val i))=args.map (aU (dN ops fr val fun i=>listed.getD i false)):=List.map_congr_left fun x hx=>(hop x (hin2.2 x hx)).symm
    split at hclause
    ·rename_i hEi
     have hiE:i∈E:=by simpa using hEi
     obtain⟨hidx,hpre',hcE⟩:=eff hiE;have hcc:=hclause;rw[hidx,←hH]at hcc;rw[hf1,hf2]at hcc;refine gP hcall (hz0.step hs) hg hf hcc (fun u s1 r g1 g2 g3 g4=>?_);obtain⟨rfl,g5⟩:=g4;exact next g1 g2 g3 hcE g5 hpre'
    ·rename_i hEi
     have hiE:i∉E:=by simpa using hEi
     have hcc:=dM hclause c (by simp;omega);rw[if_pos (hpos hiE),←hH]at hcc;rw[hf1,hf2]at hcc;refine gP hcall (hz0.step hs) hg hf hcc (fun u s1 r g1 g2 g3 g4=>?_);obtain⟨rfl,g5⟩:=g4;exact next g1 g2 g3 hc (g5.trans hH) (sameE hiE)
   ·split at hclause
    ·
     rename_i hEi
     have hiE:i∈E:=by simpa using hEi
     obtain⟨hidx,hpre',hcE⟩:=eff hiE;rw[hidx,←kQ (ρ:=aU (dN ops fr val fun i=>listed.getD i false)) hop,←hH]at hclause;obtain⟨nx,s1,k1,k2,k3,k4,k5⟩:=iZ (P:=P) hT hg (fun x=>hf.eval x) hclause;unfold Oper.wp;rw[k1]
     rcases k5 with⟨u,rfl,hr⟩ | ⟨rfl,hv⟩
     ·rw[Oper.upon_value];exact next k3 k4 hr hcE k2 hpre'
     ·rw[Oper.upon_skip];exact next k3 k4 (by rw[hv];exact .tup [] #[] rfl (by simp)) hcE k2 hpre'
    ·rename_i hEi
     have hiE:i∉E:=by simpa using hEi
     have hcc:=dM hclause c (by simp;omega);rw[if_pos (hpos hiE),←kQ (ρ:=aU (dN ops fr val fun i=>listed.getD i false)) hop,←hH]at hcc;obtain⟨nx,s1,k1,k2,k3,k4,k5⟩:=iZ (P:=P) hT hg (fun x=>hf.eval x) hcc;unfold Oper.wp;rw[k1]
     rcases k5 with⟨u,rfl,hr⟩ | ⟨rfl,hv⟩
     ·rw[Oper.upon_value];exact next k3 k4 hr hc (k2.trans hH) (sameE hiE)
     ·rw[Oper.upon_skip];exact next k3 k4 (by rw[hv];exact .tup [] #[] rfl (by simp)) hc (k2.trans hH) (sameE hiE)
  ·exact hclause.elim
theorem W_draw(hT:TOk P T)(hm:P.follows .mixedOrders=true){id:Nat}{ops:Array Oper}{Q:Exit→List V→List B→Prop}{fr:List V}{H:List B}(E:List Nat)(cv:List (V×List B))
  (h:∀(C:V→List V→List B→(V→List B→Prop)→Prop) (K:List V→List B→Prop),(∀fv args H K',aT P fv args H K'→C fv args H K')→(∀fr H,Q .normal fr H→K fr H)→nY T ops E cv C K fr H):W P (.region id ops true) Q fr H:=by
 intro s a hH hg hf hd;obtain⟨rfl,hz0⟩:=hH;have hob:=h (aT P) (Q .normal) (fun _ _ _ _ h=>h) (fun _ _ h=>h);unfold nY at hob;split at hob
 ·exact hob.elim
 ·rename_i vs hs f hrun;obtain⟨⟨hst,hlen⟩,hobl,hK⟩:=hob
  let val:Nat→V:=fun i=>(vs[i]?).getD .undef
  have hvl:=runT_len hrun
  have hval:∀k,k<vs.length→vs[k]?=some (val (0+k)):=fun k hk=>by simp[val,hk]
  have hcl:=obl_at (fr0:=fr) (val:=val) ops.toList 0 vs (by simp) hval hobl;have hfr:=pH (fr0:=fr) (val:=val) ops.toList 0 fr s.H cv vs hs f (by simp) rfl hval hrun
  have hfr:f=al ops fr val ops.size:=by simpa using hfr
  refine wp_region_any hm ?_;obtain⟨d1,d2⟩:=fZ hg (w:={ s.w with drawn:=s.w.drawn+1 }) rfl rfl rfl (Nat.le_refl _) (fun _ _=>rfl)
  have hget:∀j,(Array.replicate ops.size false).getD j false=false:=fun j=>by
   rw[Array.getD_eq_getD_getElem?,Array.getElem?_replicate];split<;>rfl
  have hnow:dN ops fr val (fun i=>(Array.replicate ops.size false).getD i false)=fr:=by
   apply List.ext_getElem?;intro t;rw[dH];exact dQ (i:=0) (fun j hj=>absurd hj (by omega)) (fun j _ _=>hget j) ops.size (Nat.zero_le _)
  refine draw_sound hT hz0 (s0:=s) (E:=E) (Hs:=fun c=>((s.H::hs)[c]?).getD []) hst (fun i o ho=>hcl i o (Nat.zero_le _) ho) (fun s' a' k1 k2 k3 k4 k5=>?_) ops.size _ (s.at _) a 0 (by simp) (fun j o _ hj=>by simp only[hget]at hj;cases hj) ?_ (Nat.zero_le _) (fun k e _=>by rw[hget];simp) d1 d2 rfl (by rw[hnow];exact hf.step d2) hd
  ·exact⟨f,s',rfl,k1,k2,by rw[hfr];exact k3,k4,by rw[k5];exact hK⟩
  ·exact Nat.le_trans (List.length_filter_le _ _) (by simp)
end
end Go.AM
namespace Go.AM
open Go
def oK(T:Ty)(ops:Array Oper)(C:V→List V→List B→(V→List B→Prop)→Prop)(K:List V→List B→Prop):List Oper→List V→List B→List V→Prop
 | [],fr,H,_=>K fr H
 | o::rest,fr,H,cv =>
  match bR ops fr o with
  | some true=>match bE o.op with
   | some (f,args)=>match cv with
    | v::cv'=>C (aU fr f) (args.map (aU fr)) H (fun r H'=>r=v∧H'=H)∧oK T ops C K rest (bJ fr o.dst v) H cv'
    | []=>False
   | none=>match aop T o.op (aU fr) H with
    | some (v,H')=>H'=H∧oK T ops C K rest (bJ fr o.dst v) H cv
    | none=>False
  | some false=>oK T ops C K rest (bJ fr o.dst (.tup [])) H cv
  | none=>False
section
variable {P:Program} {T:Ty}
theorem oS(ms:List Nat)(i c:Nat):im ms [] i c=true:=rfl
theorem kB{ops:Array Oper}{C:V→List V→List B→(V→List B→Prop)→Prop}{K:List V→List B→Prop}{ms:List Nat}{H:List B} : ∀(l:List Oper) (i:Nat) (fr:List V) (cv:List V),oK T ops C K l fr H cv →
  ∃vs f,vs.length=l.length∧bu T ops C ms [] (fun _=>H) l i fr vs∧runT T ops [] l i fr H (cv.map fun v=>(v,[]))=some (vs,[],f)∧K f H
 | [],i,fr,cv,h=>⟨[],fr,rfl,trivial,rfl,h⟩
 | o::rest,i,fr,cv,h=>by
  simp only[oK]at h;split at h
  ·rename_i hw;split at h
   ·rename_i f args hc;split at h
    ·rename_i v cv';obtain⟨h1,h2⟩:=h;obtain⟨vs,f',k1,k2,k3,k4⟩:=kB rest (i+1) _ cv' h2;exact⟨v::vs,f',by simp[k1],⟨by simp only[hw,hc];simpa[fK,oS,List.range_succ] using h1,k2⟩,by simp[runT,hw,hc,k3],k4⟩
    ·exact h.elim
   ·rename_i hc;split at h
    ·rename_i v H' hop;obtain⟨rfl,h2⟩:=h;obtain⟨vs,f',k1,k2,k3,k4⟩:=kB rest (i+1) _ cv h2;exact⟨v::vs,f',by simp[k1],⟨by simp only[hw,hc];simpa[fK,oS,List.range_succ] using hop,k2⟩,by simp[runT,hw,hc,hop,k3],k4⟩
    ·exact h.elim
  ·rename_i hw;obtain⟨vs,f',k1,k2,k3,k4⟩:=kB rest (i+1) _ cv h;exact⟨.tup []::vs,f',by simp[k1],⟨by simp[hw],k2⟩,by simp[runT,hw,k3],k4⟩
  ·exact h.elim
theorem W_quiet(hT:TOk P T)(hm:P.follows .mixedOrders=true){id:Nat}{ops:Array Oper}{Q:Exit→List V→List B→Prop}{fr:List V}{H:List B}(cv:List V)(hst:ic ops []=true)
  (h:∀(C:V→List V→List B→(V→List B→Prop)→Prop) (K:List V→List B→Prop),(∀fv args H K',aT P fv args H K'→C fv args H K')→(∀fr H,Q .normal fr H→K fr H)→oK T ops C K ops.toList fr H cv):W P (.region id ops true) Q fr H:=by
 refine W_draw hT hm [] (cv.map fun v=>(v,[])) fun C K hC hK=>?_
 obtain⟨vs,f,k1,k2,k3,k4⟩:=kB (ms:=aO [] ops.toList) ops.toList 0 fr cv (h C K hC hK);unfold nY;rw[k3];refine⟨⟨hst,rfl⟩,?_,by simpa using k4⟩;have:(fun c=>(([H]:List (List B))[c]?).getD []) 0=H:=rfl;exact obl_heap ops.toList 0 fr vs k2
where
 obl_heap {ops:Array Oper} {C:V→List V→List B→(V→List B→Prop)→Prop} {ms:List Nat} {H:List B} : ∀(l:List Oper) (i:Nat) (fr vs:List V),bu T ops C ms [] (fun _=>H) l i fr vs→bu T ops C ms [] (fun c=>(([H]:List (List B))[c]?).getD []) l i fr vs
  | [],_,_,_,_=>trivial
  | _::_,_,_,[],h=>h
  | o::rest,i,fr,v::vs,h=>by
   obtain⟨h1,h2⟩:=h;refine⟨?_,obl_heap rest (i+1) _ vs h2⟩
   cases hw:bR ops fr o with
   | none=>rw[hw]at h1;exact h1
   | some b =>
    rw[hw]at h1;cases b
    ·exact h1
    ·simp only at h1 ⊢
     cases hc:bE o.op with
     | none=>rw[hc]at h1;simpa[fK,oS,List.range_succ] using h1
     | some p =>
      obtain⟨f,args⟩:=p;rw[hc]at h1;simpa[fK,oS,List.range_succ] using h1
end
attribute [simp] jO oK bR bE aop aU bJ boxA allocA V.cells V.one jJ pY jX iy fieldA ph jn db binTA binA eqA unA convA me clearA lenA jc foldA max2A min2A iv indexA mD sliceA bo makeA po oo srcA srcT buildA kC mA bf gj pQ storeA kE pf kkOf oX okRes gF cF eqIs bB kZ gC putA ct lO nf retQ
@[simp ↓] theorem thenQ_normal (N:List V→List B→Prop) (Q:Exit→List V→List B→Prop) (fr:List V) (H:List B):lJ N Q .normal fr H↔N fr H:=⟨fun h=>h,fun h=>h⟩
@[simp ↓] theorem thenQ_ret (N:List V→List B→Prop) (Q:Exit→List V→List B→Prop) (fr:List V) (H:List B):lJ N Q .ret fr H↔Q .ret fr H:=⟨fun h=>h,fun h=>h⟩
@[simp ↓] theorem thenQ_exit (N:List V→List B→Prop) (Q:Exit→List V→List B→Prop) (i:Nat) (fr:List V) (H:List B):lJ N Q (.exit i) fr H↔Q (.exit i) fr H:=⟨fun h=>h,fun h=>h⟩
@[simp ↓] theorem blockQ_normal (id:Nat) (Q:Exit→List V→List B→Prop) (fr:List V) (H:List B):gy id Q .normal fr H↔Q .normal fr H:=⟨fun h=>h,fun h=>h⟩
@[simp ↓] theorem blockQ_ret (id:Nat) (Q:Exit→List V→List B→Prop) (fr:List V) (H:List B):gy id Q .ret fr H↔Q .ret fr H:=⟨fun h=>h,fun h=>h⟩
@[simp ↓] theorem blockQ_same (id:Nat) (Q:Exit→List V→List B→Prop) (fr:List V) (H:List B):gy id Q (.exit id) fr H↔Q .normal fr H:=by unfold gy;simp only[if_true]
@[simp ↓] theorem blockQ_other (id j:Nat) (h:¬j=id) (Q:Exit→List V→List B→Prop) (fr:List V) (H:List B):gy id Q (.exit j) fr H↔Q (.exit j) fr H:=by unfold gy;simp only[if_neg h]
end Go.AM
namespace Go.AM
open Go
def nX:List V→List V→Prop
 | [],[]=>True
 | x::xs,y::ys=>(x = .undef∨x=y)∧nX xs ys
 | _,_=>False
theorem nX.len:∀{xs ys:List V},nX xs ys→xs.length=ys.length
 | [],[],_=>rfl
 | [],_::_,h=>h.elim
 | _::_,[],h=>h.elim
 | _::_,_::_,h=>by simp[h.2.len]
theorem nX.at_:∀{xs ys:List V},nX xs ys→∀(i:Nat) x y,xs[i]?=some x→ys[i]?=some y→x = .undef∨x=y
 | [],_,_,i,x,y,h,_=>by simp at h
 | _::_,[],h,_,_,_,_,_=>h.elim
 | a::xs,b::ys,h,0,x,y,h1,h2=>by simp at h1 h2;subst h1;subst h2;exact h.1
 | a::xs,b::ys,h,i+1,x,y,h1,h2=>h.2.at_ i x y (by simpa using h1) (by simpa using h2)
def rb1(n:Nat):V→Prop
 | .buf k _ _ _ | .ptr k _ | .pbuf k _ _ _ | .map k | .sarr k _=>k<n
 | .lst _ _ xs=>∀x∈xs,Pure x
 | .pin cs _=>∀c∈cs,Pure c
 | .agg _ | .tup _ | .undef=>False
 | .fn _ caps=>caps=[]
 | _=>True
def rb(n:Nat):V→Prop
 | .agg cs=>∀c∈cs,rb1 n c
 | .tup vs=>∀c∈vs,rb1 n c
 | .fn _ caps=>∀c∈caps,rb1 n c
 | .undef=>True
 | v=>rb1 n v
def rbB(n:Nat):B→Prop
 | .cells cs=>∀c∈cs,rb n c
 | .map _ es=>∀p∈es,rb n p.1∧rb n p.2
 | .buf _ _ xs _=>∀x∈xs,∀c∈x.cells,rb n c
section
variable {P:Program} {T:Ty} {s:St}
def St.cut(s:St)(H:List B):St:={ s with H:=H }
theorem jC{H G:List B}(hH:s.H=H++G){k:Nat}(h:Lv (s.cut H) k):Lv s k:=by
 have hk:k<H.length:=h.1;exact⟨by rw[hH];simp;omega,fun e z xs fz hb=>h.2 e z xs fz (by rw[hH,List.getElem?_append_left hk]at hb;exact hb)⟩
theorem iV{H G:List B}(hH:s.H=H++G){b:Nat}(hp:s.Prot b):(s.cut H).Prot b:=by
 refine⟨hp.1,hp.2.1,fun k hk e=>?_⟩;have hk':k<H.length:=hk.1;obtain⟨e1,z,xs,h⟩:=hp.2.2 k (jC hH hk) e;rw[hH,List.getElem?_append_left hk']at h;exact⟨e1,z,xs,h⟩
theorem dp{H G:List B}(hH:s.H=H++G){v:V}{u:Value}(h:Rel s v u)(hv:rb1 H.length v):Rel (s.cut H) v u:=by
 have get:∀k bl,k<H.length→s.H[k]?=some bl→(s.cut H).H[k]?=some bl:=fun k bl hk hb=>by rw[hH,List.getElem?_append_left hk]at hb;exact hb
 have hw:∀b,s.Prot b→(s.cut H).Prot b∧(s.cut H).w.heap[b]?=s.w.heap[b]?:=fun b hb=>⟨iV hH hb,rfl⟩
 cases h with
 | undef u=>cases hv
 | bool b=>exact .bool b
 | int k n=>exact .int k n
 | str x=>exact .str x
 | nilS=>exact .nilS
 | lst z full xs A cap b off u a1 a2 a3 a4 a5 a6=>exact(Rel.lst z full xs A cap b off u a1 a2 a3 a4 a5 a6).pure_ (.lst _ _ _ hv) hw
 | buf k off len tot e z xs fz A l c hk ht hh=>exact .buf k off len tot e z xs fz A l c (get k _ hv hk) ht hh
 | nilP=>exact .nilP
 | ptr k off cs hk=>exact .ptr (s:=s.cut H) k off cs (get k _ hv hk)
 | pin cs off b o u a1 a2 a3 a4=>exact(Rel.pin cs off b o u a1 a2 a3 a4).pure_ (.pin _ _ hv) hw
 | pbuf k i off tot e z xs fz p hk ht hh=>exact .pbuf k i off tot e z xs fz p (get k _ hv hk) ht hh
 | sarr k n cs hk=>exact .sarr (s:=s.cut H) k n cs (get k _ hv hk)
 | nilM=>exact .nilM
 | map k kk es hk=>exact .map (s:=s.cut H) k kk es (get k _ hv hk)
 | fn f caps us hl hh=>simp only[rb1]at hv;subst hv;exact .fn f [] us hl (fun i c u hc=>by simp at hc)
 | nilFn=>exact .nilFn
 | agg cs us hl h1 hh=>cases hv
 | tup vs us hl hh=>cases hv
theorem kJ{H G:List B}(hH:s.H=H++G){v:V}{u:Value}(h:Rel s v u)(hv:rb H.length v):Rel (s.cut H) v u:=by
 cases h with
 | undef u=>exact .undef u
 | agg cs us hl h1 hh=>exact .agg cs us hl h1 (fun i c u a b=>dp hH (hh i c u a b) (hv c (List.mem_of_getElem? a)))
 | tup vs us hl hh=>exact .tup vs us hl (fun i c u a b=>dp hH (hh i c u a b) (hv c (List.mem_of_getElem? a)))
 | fn f caps us hl hh=>exact .fn f caps us hl (fun i c u a b=>dp hH (hh i c u a b) (hv c (List.mem_of_getElem? a)))
 | bool b=>exact .bool b
 | int k n=>exact .int k n
 | str x=>exact .str x
 | nilS=>exact .nilS
 | lst z full xs A cap b off u a1 a2 a3 a4 a5 a6=>exact dp hH (.lst z full xs A cap b off u a1 a2 a3 a4 a5 a6) hv
 | buf k off len tot e z xs fz A l c hk ht hh=>exact dp hH (.buf k off len tot e z xs fz A l c hk ht hh) hv
 | nilP=>exact .nilP
 | ptr k off cs hk=>exact dp hH (.ptr k off cs hk) hv
 | pin cs off b o u a1 a2 a3 a4=>exact dp hH (.pin cs off b o u a1 a2 a3 a4) hv
 | pbuf k i off tot e z xs fz p hk ht hh=>exact dp hH (.pbuf k i off tot e z xs fz p hk ht hh) hv
 | sarr k n cs hk=>exact dp hH (.sarr k n cs hk) hv
 | nilM=>exact .nilM
 | map k kk es hk=>exact dp hH (.map k kk es hk) hv
 | nilFn=>exact .nilFn
theorem qM{H G:List B}(hg:Good s)(hH:s.H=H++G)(hb:∀bl∈H,rbB H.length bl):Good (s.cut H):=by
 refine⟨hg.fl,fun k hk=>hg.lt k (jC hH hk),fun j k hj hk=>hg.inj j k (jC hH hj) (jC hH hk),fun k bl hk=>?_⟩;have hk':H[k]?=some bl:=hk
 have hs:s.H[k]?=some bl:=by rw[hH,List.getElem?_append_left (aE hk')];exact hk'
 have hr:=hg.blk k bl hs;have hbl:=hb bl (List.mem_of_getElem? hk')
 cases bl with
 | cells cs =>
  obtain⟨h1,vs,t,h2,h3,h4⟩:=hr;exact⟨h1,vs,t,h2,h3,fun i c u a b=>kJ hH (h4 i c u a b) (hbl c (List.mem_of_getElem? a))⟩
 | map kk es =>
  obtain⟨h1,ms,cl,h2,h3,h4⟩:=hr;exact⟨h1,ms,cl,h2,h3,fun i p m a b=>⟨kJ hH (h4 i p m a b).1 (hbl p (List.mem_of_getElem? a)).1,kJ hH (h4 i p m a b).2 (hbl p (List.mem_of_getElem? a)).2⟩⟩
 | buf e z xs fz =>
  obtain⟨vs,h2,h3,h4,h5,h6,h7⟩:=hr;exact⟨vs,h2,h3,h4,h5,h6,fun i x j c u a b d=>kJ hH (h7 i x j c u a b d) (hbl x (List.mem_of_getElem? a) c (List.mem_of_getElem? b))⟩
theorem jl{H G:List B}(_hg:Good s)(hH:s.H=H++G){s':St}(h:Step (s.cut H) s'):∀s0,Step s0 s→(s0.H.length≤H.length)→Step s0 s':=by
 intro s0 h0 hl;have hs0len:=h0.len;refine⟨h.F.trans h0.F,h.os.trans h0.os,h.tape.trans h0.tape,h.output.trans h0.output,Nat.le_trans h0.size h.size,fun b hb hk=>?_,Nat.le_trans hl h.len,fun k h1 h2=>?_,fun k bl hk=>?_⟩
 ·have hsz:b<s.w.heap.size:=Nat.lt_of_lt_of_le hb h0.size;rw[h.out b hsz (fun k hkl e=>?_),←h0.out b hb hk]
  ·rfl
  ·have hkl':k<H.length:=hkl.1;have hls:=jC hH hkl;by_cases hk0:k<s0.H.length
   ·have hbk:s0.H[k]?=some s0.H[k]:=List.getElem?_eq_getElem hk0;have hst:=h0.keep k _ hbk;generalize s0.H[k]=bl at hbk hst;have e':s.φ k=b:=e
    cases bl with
    | cells cs=>exact hk k (lvC hbk) (hst.1.symm.trans e')
    | map kk es=>exact hk k (lvM hbk) (hst.1.symm.trans e')
    | buf e0 z xs fz =>
     obtain⟨_,_,hb',_,_,_,hp,hdead⟩:=hst
     rcases hp with hp | hp
     ·by_cases hz:s0.κ k=0
      ·rcases hdead hz with h9 | h9
       ·exact absurd h9 (hls.2 _ _ _ _ hb')
       ·omega
      ·exact hk k (lvB hbk hz) (hp.symm.trans e')
     ·omega
   ·have:=h0.new k (by omega) hls;have e':s.φ k=b:=e;omega
 ·by_cases hkH:k<H.length
  ·have hbk:H[k]?=some H[k]:=List.getElem?_eq_getElem hkH;have hst:=h.keep k _ (show(s.cut H).H[k]?=_ from hbk);have hsz:=h0.size;generalize H[k]=bl at hbk hst
   have hbs:s.H[k]?=some bl:=by rw[hH,List.getElem?_append_left hkH];exact hbk
   cases bl with
   | cells cs=>rw[hst.1];exact h0.new k h1 (lvC hbs)
   | map kk es=>rw[hst.1];exact h0.new k h1 (lvM hbs)
   | buf e0 z xs fz =>
    obtain⟨_,_,hb',_,_,_,hp,hdead⟩:=hst;have hdead':s.κ k=0→s'.κ k=0∨s.w.heap.size≤s'.φ k:=hdead
    rcases hp with hp | hp
    ·by_cases hz:s.κ k=0
     ·rcases hdead' hz with h9 | h9
      ·exact absurd h9 (h2.2 _ _ _ _ hb')
      ·omega
     ·rw[hp];exact h0.new k h1 (lvB hbs hz)
    ·have:s.w.heap.size≤s'.φ k:=hp;omega
  ·have hn:s.w.heap.size≤s'.φ k:=h.new k (by show H.length≤k;omega) h2;have:=h0.size;omega
 ·have hk0:=aE hk;have h1:=h0.keep k bl hk
  have cutget:∀bl',s.H[k]?=some bl'→(s.cut H).H[k]?=some bl':=fun bl' hb=>by rw[hH,List.getElem?_append_left (by omega)]at hb;exact hb
  cases bl with
  | cells cs =>
   obtain⟨e1,cs',hc⟩:=h1;obtain⟨e2,r⟩:=h.keep k _ (cutget _ hc);exact⟨e2.trans e1,r⟩
  | map kk es =>
   obtain⟨e1,cs',hc⟩:=h1;obtain⟨e2,r⟩:=h.keep k _ (cutget _ hc);exact⟨e2.trans e1,r⟩
  | buf e z xs fz =>
   obtain⟨xs1,fz1,hc,l1,q1,f1,p1,d1⟩:=h1;obtain⟨xs2,fz2,hd,l2,q2,f2,p2,d2⟩:=h.keep k _ (cutget _ hc);refine⟨xs2,fz2,hd,Nat.le_trans l1 l2,fun he=>?_,fun hf=>?_,?_,fun hz=>?_⟩
   ·obtain⟨a1,a2⟩:=q1 (by omega);obtain⟨b1,b2⟩:=q2 (by omega);exact⟨b1.trans a1,b2.trans a2⟩
   ·obtain⟨a1,a2,a3⟩:=f1 hf;obtain⟨b1,b2,b3⟩:=f2 a1;obtain⟨e1,e2⟩:=q1 (by rw[a2]);have b3':s.κ k≠0→s'.w.heap[s.φ k]?=s.w.heap[s.φ k]?:=b3;rw[e1,e2]at b3';exact⟨b1,b2.trans a2,fun hz=>(b3' hz).trans (a3 hz)⟩
   ·have:=h0.size
    rcases p2 with p2 | p2
    ·have p2':s'.φ k=s.φ k:=p2
     rcases p1 with p1 | p1
     ·exact .inl (p2'.trans p1)
     ·exact .inr (by omega)
    ·have p2':s.w.heap.size≤s'.φ k:=p2;exact .inr (by omega)
   ·have:=h0.size;have d2':s.κ k=0→s'.κ k=0∨s.w.heap.size≤s'.φ k:=d2
    rcases d1 hz with h9 | h9
    ·rcases d2' h9 with h8 | h8
     ·exact .inl h8
     ·exact .inr (by omega)
    ·rcases p2 with p2 | p2
     ·have p2':s'.φ k=s.φ k:=p2;exact .inr (by omega)
     ·have p2':s.w.heap.size≤s'.φ k:=p2;exact .inr (by omega)
theorem W_loopS{σ:Type}(ok:σ→Prop)(μ:σ→Nat)(F:σ→List V)(Hf:σ→List B){c:Code}{Q:Exit→List V→List B→Prop}{fr:List V}{H:List B}(x0:σ)(h0:ok x0)(hF:nX (F x0) fr)(hH:H=Hf x0)
  (hmin:∀x,ok x→H.length≤(Hf x).length)
  (hround:∀x,ok x→W P c (lJ (fun fr' H'=>∃y,ok y∧μ y<μ x∧nX (F y) fr'∧(∃G,H'=Hf y++G)∧(∀v∈F y,rb (Hf y).length v)∧∀bl∈Hf y,rbB (Hf y).length bl) Q) (F x) (Hf x)):W P (.loop c) Q fr H:=by
 intro s a h1 h2 h3 h4
 let J:Nat→Act→World→Prop:=fun n a' w'=>∃x s',ok x∧n=μ x∧s'.w=w'∧Good s'∧s'.H=Hf x∧(∀t,Step s' t→Step s t)∧FRel s' (F x) a'.tmps∧a'.defers=[]∧GOk P s'
 have less_rel:∀{s':St} {f g:List V} {tmps:Array Value},nX f g→FRel s' g tmps→FRel s' f tmps:=fun {s' f g tmps} hl hf=>by
  refine⟨by rw[hf.len,hl.len],fun i v u hv hu=>?_⟩
  have hi:i<g.length:=by have:=aE hv;rw[hl.len]at this;exact this
  have hg':g[i]?=some g[i]:=List.getElem?_eq_getElem hi
  rcases hl.at_ i v _ hv hg' with rfl | e
  ·exact .undef _
  ·rw[e];exact hf.rel i _ u hg' hu
 have hex:∃ν:Act→World→Nat,∀a' w',(∃m,J m a' w')→J (ν a' w') a' w'∧∀m,m<ν a' w'→¬J m a' w':=by
  have:∀p:Act×World,∃n,(∃m,J m p.1 p.2)→J n p.1 p.2∧∀m,m<n→¬J m p.1 p.2:=fun p=>by
   by_cases h:∃m,J m p.1 p.2
   ·obtain⟨n,k1,k2⟩:=mI h;exact⟨n,fun _=>⟨k1,k2⟩⟩
   ·exact⟨0,fun h'=>absurd h' h⟩
  obtain⟨f,hf⟩:=Classical.axiomOfChoice this;exact⟨fun a' w'=>f (a',w'),fun a' w' h=>hf (a',w') h⟩
 obtain⟨ν,hν⟩:=hex;refine wp_loop (fun a' w'=>∃m,J m a' w') ν ⟨μ x0,x0,s,h0,rfl,rfl,h2,by rw[h1.1,hH],fun _ h=>h,less_rel hF h3,h4,h1.2⟩ (fun a' w' hI=>?_);obtain⟨⟨x,s',k1,k2,rfl,k4,k5,k6,k7,k8,k9⟩,hleast⟩:=hν a' w' hI
 refine wp_mono (hround x k1 s' a' ⟨k5,k9⟩ k4 k7 k8) fun e a'' w'' hl=>?_
 obtain⟨fr'',s'',rfl,c2,c3,c4,c5,c6⟩:=hl
 cases e with
 | normal =>
  obtain⟨y,y1,y2,y3,⟨G,y4⟩,y5,y6⟩:=c6
  have hJ:J (μ y) a'' s''.w:=by
   refine⟨y,s''.cut (Hf y),y1,rfl,rfl,qM c2 y4 y6,rfl,fun t ht=>?_,?_,c5,fun g hg=>⟨iV y4 ((k9.step c3) g hg).1,((k9.step c3) g hg).2⟩⟩
   ·refine jl c2 y4 ht s (k6 s'' c3) ?_;rw[h1.1];exact hmin y y1
   ·have hf:=less_rel y3 c4;exact⟨hf.len,fun i v u hv hu=>kJ y4 (hf.rel i v u hv hu) (y5 v (List.mem_of_getElem? hv))⟩
  refine⟨⟨μ y,hJ⟩,?_⟩;obtain⟨_,hm'⟩:=hν a'' s''.w ⟨μ y,hJ⟩
  rcases Nat.lt_or_ge (μ y) (ν a'' s''.w) with h | h
  ·exact absurd hJ (hm' _ h)
  ·omega
 | _=>exact⟨fr'',s'',rfl,c2,k6 s'' c3,c4,c5,c6⟩
end
attribute [simp] nX rb rb1 rbB
end Go.AM
namespace Go.AM
open Go
@[simp] theorem pure_bool (b:Bool):Pure (.bool b):=.bool b
@[simp] theorem pure_int (k:IntKind) (n:Int):Pure (.int k n):=.int k n
@[simp] theorem pure_str (x:ByteArray):Pure (.str x):=.str x
@[simp] theorem pure_nilS:Pure .nilS:=.nilS
@[simp] theorem pure_nilP:Pure .nilP:=.nilP
@[simp] theorem pure_nilM:Pure .nilM:=.nilM
@[simp] theorem pure_nilFn:Pure .nilFn:=.nilFn
@[simp] theorem pure_fn (f:FuncId):Pure (.fn f []):=.fn f
@[simp] theorem pure_lst (z:Nat) (full:Bool) (xs:List V):Pure (.lst z full xs)↔∀x∈xs,Pure x:=⟨fun h=>by cases h;assumption,.lst z full xs⟩
@[simp] theorem pure_pin (cs:List V) (o:Nat):Pure (.pin cs o)↔∀x∈cs,Pure x:=⟨fun h=>by cases h;assumption,.pin cs o⟩
@[simp] theorem pure_agg (cs:List V):Pure (.agg cs)↔∀x∈cs,Pure x:=⟨fun h=>by cases h;assumption,.agg cs⟩
@[simp] theorem pure_tup (cs:List V):Pure (.tup cs)↔∀x∈cs,Pure x:=⟨fun h=>by cases h;assumption,.tup cs⟩
theorem aF{P:Program}{f:FuncId}{args:List V}{H:List B}{v:V}(h:aR P f args fun r=>r=v)(hp:∀a∈args,Pure a):aT P (.fn f []) args H fun r H'=>r=v∧H'=H:=by
 simp only[aT,List.append_nil]
 refine(fT h rfl (fun i a a' h1 h2=>?_) (.inl hp)).mono fun r H' ⟨h1,_,h3⟩=>⟨h3,h1⟩
 have:a=a':=by rw[h1]at h2;exact Option.some.inj h2
 subst this;exact .pure a (hp a (List.mem_of_getElem? h1))
theorem callK{P:Program}{f:FuncId}{args:List V}{H:List B}{K:V→Prop}(h:aR P f args K)(hp:∀a∈args,Pure a):aT P (.fn f []) args H fun r H'=>H'=H∧Pure r∧K r:=by
 simp only[aT,List.append_nil];refine fT h rfl (fun i a a' h1 h2=>?_) (.inl hp)
 have:a=a':=by rw[h1]at h2;exact Option.some.inj h2
 subst this;exact .pure a (hp a (List.mem_of_getElem? h1))
theorem callO{P:Program}{f:FuncId}{args:List V}{H:List B}{K:Nat→Nat→List V→Prop}(h:kX P f args K)(hp:∀a∈args,Pure a):
  aT P (.fn f []) args H fun r H'=>∃e z xs,r = .buf H.length 0 xs.length xs.length∧H'=H++[.buf e z xs false]∧(∀x∈xs,Pure x)∧K e z xs:=by
 simp only[aT,List.append_nil]
 exact(conH_of_conO h hp).mono fun r H' h=>by simpa using h
end Go.AM
end
section
namespace Go.AM
open Go
def eqL(f:V→V→Bool):List V→List V→Bool
 | [],[]=>true
 | x::xs,y::ys=>f x y&&eqL f xs ys
 | _,_=>false
def eqV:Nat→V→V→Bool
 | 0,_,_=>false
 | d+1,a,b=>match a,b with
  | .undef,.undef=>true
  | .bool x,.bool y=>x == y
  | .int k x,.int k' y=>decide (k=k')&&x == y
  | .str x,.str y=>x.data.toList == y.data.toList
  | .nilS,.nilS=>true
  | .lst z f xs,.lst z' f' ys=>z == z'&&f == f'&&eqL (eqV d) xs ys
  | .buf k o l t,.buf k' o' l' t'=>k == k'&&o == o'&&l == l'&&t == t'
  | .nilP,.nilP=>true
  | .ptr k o,.ptr k' o'=>k == k'&&o == o'
  | .pin cs o,.pin ds o'=>o == o'&&eqL (eqV d) cs ds
  | .pbuf k o l t,.pbuf k' o' l' t'=>k == k'&&o == o'&&l == l'&&t == t'
  | .sarr k n,.sarr k' n'=>k == k'&&n == n'
  | .nilM,.nilM=>true
  | .map k,.map k'=>k == k'
  | .fn f cs,.fn g ds=>f == g&&eqL (eqV d) cs ds
  | .nilFn,.nilFn=>true
  | .agg cs,.agg ds=>eqL (eqV d) cs ds
  | .tup cs,.tup ds=>eqL (eqV d) cs ds
  | _,_=>false
theorem fH{f:V→V→Bool}(h:∀x y,f x y=true→x=y):∀{xs ys:List V},eqL f xs ys=true→xs=ys
 | [],[],_=>rfl
 | [],_::_,h'=>by simp[eqL]at h'
 | _::_,[],h'=>by simp[eqL]at h'
 | x::xs,y::ys,h'=>by
  simp only[eqL,Bool.and_eq_true]at h';rw[h x y h'.1,fH h h'.2]
theorem eP:∀(d:Nat) (a b:V),eqV d a b=true→a=b
 | 0,a,b,h=>by simp[eqV]at h
 | d+1,a,b,h=>by
  have ih:=eP d
  cases a<;>cases b<;>simp only[eqV,Bool.and_eq_true,beq_iff_eq,decide_eq_true_eq,Bool.false_eq_true]at h<;>try rfl
  ·rw[h]
  ·rw[h.1,h.2]
  ·rename_i x y;cases x;cases y;have h:=Array.toList_inj.1 h;simp only at h;rw[h]
  ·rw[h.1.1,h.1.2,fH ih h.2]
  ·rw[h.1.1.1,h.1.1.2,h.1.2,h.2]
  ·rw[h.1,h.2]
  ·rw[h.1,fH ih h.2]
  ·rw[h.1.1.1,h.1.1.2,h.1.2,h.2]
  ·rw[h.1,h.2]
  ·rw[h]
  ·rw[h.1,fH ih h.2]
  ·rw[fH ih h]
  ·rw[fH ih h]
def eqE:List (V×V)→List (V×V)→Bool
 | [],[]=>true
 | x::xs,y::ys=>eqV 40 x.1 y.1&&eqV 40 x.2 y.2&&eqE xs ys
 | _,_=>false
theorem eqE_eq:∀{xs ys:List (V×V)},eqE xs ys=true→xs=ys
 | [],[],_=>rfl
 | [],_::_,h'=>by simp[eqE]at h'
 | _::_,[],h'=>by simp[eqE]at h'
 | (a,b)::xs,(c,d)::ys,h'=>by
  simp only[eqE,Bool.and_eq_true]at h';rw[eP _ _ _ h'.1.1,eP _ _ _ h'.1.2,eqE_eq h'.2]
def eqB:B→B→Bool
 | .cells cs,.cells ds=>eqL (eqV 40) cs ds
 | .map kk es,.map kk' es'=>decide (kk=kk')&&eqE es es'
 | .buf e z xs f,.buf e' z' xs' f'=>e == e'&&z == z'&&f == f'&&eqL (eqV 40) xs xs'
 | _,_=>false
theorem eqB_eq(a b:B)(h:eqB a b=true):a=b:=by
 cases a<;>cases b<;>simp only[eqB,Bool.and_eq_true,beq_iff_eq,decide_eq_true_eq,Bool.false_eq_true]at h
 ·rw[fH (eP 40) h]
 ·rw[h.1,eqE_eq h.2]
 ·rw[h.1.1.1,h.1.1.2,h.1.2,fH (eP 40) h.2]
def eqH:List B→List B→Bool
 | [],[]=>true
 | x::xs,y::ys=>eqB x y&&eqH xs ys
 | _,_=>false
theorem eqH_eq:∀{xs ys:List B},eqH xs ys=true→xs=ys
 | [],[],_=>rfl
 | [],_::_,h'=>by simp[eqH]at h'
 | _::_,[],h'=>by simp[eqH]at h'
 | a::xs,b::ys,h'=>by
  simp only[eqH,Bool.and_eq_true]at h';rw[eqB_eq _ _ h'.1,eqH_eq h'.2]
inductive Cl (n:Nat):V→Prop
 | undef:Cl n .undef
 | bool (b:Bool):Cl n (.bool b)
 | int (k:IntKind) (m:Int):Cl n (.int k m)
 | str (x:ByteArray):Cl n (.str x)
 | nilS:Cl n .nilS
 | lst (z:Nat) (full:Bool) (xs:List V) (h:∀x∈xs,∀c∈x.cells,Cl n c):Cl n (.lst z full xs)
 | buf (k off len tot:Nat) (h:k<n):Cl n (.buf k off len tot)
 | nilP:Cl n .nilP
 | ptr (k off:Nat) (h:k<n):Cl n (.ptr k off)
 | pin (cs:List V) (off:Nat) (h:∀c∈cs.drop off,Cl n c):Cl n (.pin cs off)
 | pbuf (k i off tot:Nat) (h:k<n):Cl n (.pbuf k i off tot)
 | sarr (k m:Nat) (h:k<n):Cl n (.sarr k m)
 | nilM:Cl n .nilM
 | map (k:Nat) (h:k<n):Cl n (.map k)
 | fn (f:FuncId) (caps:List V) (h:∀c∈caps,Cl n c):Cl n (.fn f caps)
 | nilFn:Cl n .nilFn
 | agg (cs:List V) (h:∀c∈cs,Cl n c):Cl n (.agg cs)
 | tup (vs:List V) (h:∀c∈vs,Cl n c):Cl n (.tup vs)
theorem kR{p:V→Prop}{cs:List V}{us:Array Value}(hl:us.size=cs.length)(h:∀(i:Nat) c u,cs[i]?=some c→us[i]?=some u→p c):∀c∈cs,p c:=fun c hc=>by
 obtain⟨i,hi,rfl⟩:=List.mem_iff_getElem.1 hc;exact h i _ us[i] (List.getElem?_eq_getElem hi) (by simp)
theorem Rel.cl{s:St}{v:V}{u:Value}(h:Rel s v u):Cl s.H.length v:=by
 induction h with
 | undef u=>exact .undef
 | bool b=>exact .bool b
 | int k n=>exact .int k n
 | str x=>exact .str x
 | nilS=>exact .nilS
 | lst z full xs A cap b off u hcap hfull hA hz hcell hrel ih =>
  refine .lst z full xs fun x hx c hc=>?_
  obtain⟨i,hi⟩:=List.mem_iff_getElem?.1 hx;obtain⟨j,hj⟩:=List.mem_iff_getElem?.1 hc;exact ih i x j c hi hj
 | buf k off len tot e z xs fz A l c hk ht hh=>exact .buf _ _ _ _ (aE hk)
 | nilP=>exact .nilP
 | ptr k off cs hk=>exact .ptr _ _ (aE hk)
 | pin cs off b o u hp h1 hcell hrel ih =>
  refine .pin cs off fun c hc=>?_
  obtain⟨j,hj⟩:=List.mem_iff_getElem?.1 hc;rw[List.getElem?_drop]at hj;exact ih j c hj
 | pbuf k i off tot e z xs fz p hk ht hh=>exact .pbuf _ _ _ _ (aE hk)
 | sarr k n cs hk=>exact .sarr _ _ (aE hk)
 | nilM=>exact .nilM
 | map k kk es hk=>exact .map _ (aE hk)
 | fn f caps us hl hh ih=>exact .fn f caps (kR hl ih)
 | nilFn=>exact .nilFn
 | agg cs us hl h1 hh ih=>exact .agg cs (kR hl ih)
 | tup vs us hl hh ih=>exact .tup vs (kR hl ih)
section
variable {P:Program} {T:Ty} {s:St}
theorem Rel.cut{H G:List B}(hH:s.H=H++G){v:V}{u:Value}(h:Rel s v u)(hc:Cl H.length v):Rel (s.cut H) v u:=by
 have get:∀k bl,k<H.length→s.H[k]?=some bl→(s.cut H).H[k]?=some bl:=fun k bl hk hb=>by rw[hH,List.getElem?_append_left hk]at hb;exact hb
 induction h with
 | undef u=>exact .undef u
 | bool b=>exact .bool b
 | int k n=>exact .int k n
 | str x=>exact .str x
 | nilS=>exact .nilS
 | lst z full xs A cap b off u hcap hfull hA hz hcell hrel ih =>
  cases hc with
  | lst _ _ _ hx =>
   exact .lst z full xs A cap b off u hcap hfull (fun h0=>⟨(hA h0).1,iV hH (hA h0).2⟩) hz hcell (fun i x j c hi hj=>ih i x j c hi hj (hx x (List.mem_of_getElem? hi) c (List.mem_of_getElem? hj)))
 | buf k off len tot e z xs fz A l c hk ht hh=>cases hc with | buf _ _ _ _ hk'=>exact .buf k off len tot e z xs fz A l c (get k _ hk' hk) ht hh
 | nilP=>exact .nilP
 | ptr k off cs hk=>cases hc with | ptr _ _ hk'=>exact .ptr (s:=s.cut H) k off cs (get k _ hk' hk)
 | pin cs off b o u hp h1 hcell hrel ih =>
  cases hc with
  | pin _ _ hx=>exact .pin cs off b o u (iV hH hp) h1 hcell (fun j c hj=>ih j c hj (hx c (List.mem_of_getElem? (by rw[List.getElem?_drop];exact hj))))
 | pbuf k i off tot e z xs fz p hk ht hh=>cases hc with | pbuf _ _ _ _ hk'=>exact .pbuf k i off tot e z xs fz p (get k _ hk' hk) ht hh
 | sarr k n cs hk=>cases hc with | sarr _ _ hk'=>exact .sarr (s:=s.cut H) k n cs (get k _ hk' hk)
 | nilM=>exact .nilM
 | map k kk es hk=>cases hc with | map _ hk'=>exact .map (s:=s.cut H) k kk es (get k _ hk' hk)
 | fn f caps us hl hh ih=>cases hc with | fn _ _ hx=>exact .fn f caps us hl (fun i c u a b=>ih i c u a b (hx c (List.mem_of_getElem? a)))
 | nilFn=>exact .nilFn
 | agg cs us hl h1 hh ih=>cases hc with | agg _ hx=>exact .agg cs us hl h1 (fun i c u a b=>ih i c u a b (hx c (List.mem_of_getElem? a)))
 | tup vs us hl hh ih=>cases hc with | tup _ hx=>exact .tup vs us hl (fun i c u a b=>ih i c u a b (hx c (List.mem_of_getElem? a)))
def ClB(n:Nat):B→Prop
 | .cells cs=>∀c∈cs,Cl n c
 | .map _ es=>∀p∈es,Cl n p.1∧Cl n p.2
 | .buf _ _ xs _=>∀x∈xs,∀c∈x.cells,Cl n c
theorem Good.cl(hg:Good s):∀bl∈s.H,ClB s.H.length bl:=fun bl hb=>by
 obtain⟨k,hk⟩:=List.mem_iff_getElem?.1 hb;have h:=hg.blk k bl hk
 cases bl with
 | cells cs=>obtain⟨_,vs,t,_,h3,h4⟩:=h;exact kR h3 (fun i c u a b=>(h4 i c u a b).cl)
 | map kk es =>
  obtain⟨_,ms,t,_,h3,h4⟩:=h;intro p hp;obtain⟨i,hi⟩:=List.mem_iff_getElem?.1 hp;have hl:=aE hi;have:=h4 i p ms[i] hi (by simp);exact⟨this.1.cl,this.2.cl⟩
 | buf e z xs fz =>
  obtain⟨vs,h2,h3,h4,h5,h6,h7⟩:=h;intro x hx c hc;obtain⟨i,hi⟩:=List.mem_iff_getElem?.1 hx;obtain⟨j,hj⟩:=List.mem_iff_getElem?.1 hc;have hil:=aE hi;have hjl:=aE hj;rw[(h6 x hx).1]at hjl
  have hlt:i*z+j<vs.size:=by
   rw[h3];have:(i+1)*z≤s.κ k*z:=Nat.mul_le_mul_right z (by omega);rw[Nat.add_mul]at this;omega
  exact(h7 i x j c vs[i*z+j] hi hj (by simp[hlt])).cl
theorem cut_good2{H G:List B}(hg:Good s)(hH:s.H=H++G)(hb:∀bl∈H,ClB H.length bl):Good (s.cut H):=by
 refine⟨hg.fl,fun k hk=>hg.lt k (jC hH hk),fun j k hj hk=>hg.inj j k (jC hH hj) (jC hH hk),fun k bl hk=>?_⟩;have hk':H[k]?=some bl:=hk
 have hs:s.H[k]?=some bl:=by rw[hH,List.getElem?_append_left (aE hk')];exact hk'
 have hr:=hg.blk k bl hs;have hbl:=hb bl (List.mem_of_getElem? hk')
 cases bl with
 | cells cs =>
  obtain⟨h1,vs,t,h2,h3,h4⟩:=hr;exact⟨h1,vs,t,h2,h3,fun i c u a b=>(h4 i c u a b).cut hH (hbl c (List.mem_of_getElem? a))⟩
 | map kk es =>
  obtain⟨h1,ms,cl,h2,h3,h4⟩:=hr;exact⟨h1,ms,cl,h2,h3,fun i p m a b=>⟨(h4 i p m a b).1.cut hH (hbl p (List.mem_of_getElem? a)).1,(h4 i p m a b).2.cut hH (hbl p (List.mem_of_getElem? a)).2⟩⟩
 | buf e z xs fz =>
  obtain⟨vs,h2,h3,h4,h5,h6,h7⟩:=hr;exact⟨vs,h2,h3,h4,h5,h6,fun i x j c u a b d=>(h7 i x j c u a b d).cut hH (hbl x (List.mem_of_getElem? a) c (List.mem_of_getElem? b))⟩
def exL(f:V→Option V):List V→Option (List V)
 | []=>some []
 | x::r=>match f x with
  | some y=>match exL f r with
   | some ys=>some (y::ys)
   | none=>none
  | none=>none
theorem fG{f:V→Option V} : ∀{xs ys:List V},exL f xs=some ys→ys.length=xs.length∧∀(i:Nat) y,ys[i]?=some y→∃x,xs[i]?=some x∧f x=some y
 | [],ys,h=>by simp[exL]at h;subst h;exact⟨rfl,by simp⟩
 | x::r,ys,h=>by
  simp only[exL]at h;split at h
  ·rename_i y hy;split at h
   ·rename_i ys' hr;cases h;obtain⟨h1,h2⟩:=fG hr;refine⟨by simp[h1],fun i y' hi=>?_⟩
    cases i with
    | zero=>simp at hi;subst hi;exact⟨x,rfl,hy⟩
    | succ i=>simpa using h2 i y' (by simpa using hi)
   ·cases h
  ·cases h
def exV(H:List B)(n:Nat):Nat→V→Option V
 | 0,_=>none
 | d+1,v=>match v with
  | .undef=>none
  | .lst z full xs=>match exL (exV H n d) xs with
   | some ys=>some (.lst z full ys)
   | none=>none
  | .buf k off len tot=>if k<n then some v else match H[k]? with
   | some (.buf _ z xs _)=>if tot=xs.length∧off+len≤tot then(match exL (exV H n d) ((xs.drop off).take len) with
    | some ys=>some (.lst z false ys)
    | none=>none) else none
   | _=>none
  | .ptr k _=>if k<n then some v else none
  | .pbuf k _ _ _=>if k<n then some v else none
  | .map k=>if k<n then some v else none
  | .sarr k _=>if k<n then some v else none
  | .pin cs off=>match exL (exV H n d) cs with
   | some ds=>some (.pin ds off)
   | none=>none
  | .fn f caps=>match exL (exV H n d) caps with
   | some ds=>some (.fn f ds)
   | none=>none
  | .agg cs=>match exL (exV H n d) cs with
   | some ds=>some (.agg ds)
   | none=>none
  | .tup cs=>match exL (exV H n d) cs with
   | some ds=>some (.tup ds)
   | none=>none
  | _=>some v
theorem exV_one{H:List B}{n d:Nat}{v v':V}(h:exV H n d v=some v'):v'.one=v.one:=by
 cases d with
 | zero=>simp[exV]at h
 | succ d =>
  cases v<;>simp only[exV]at h<;>first | (cases h;rfl) | (cases h;done) | (split at h<;>first | (cases h;rfl) | (cases h;done) | skip)
  all_goals (repeat' (split at h))<;>first | (cases h;rfl) | (cases h;done) | skip
theorem exV_cells{H:List B}{n d:Nat}{v v':V}(h:exV H n d v=some v'):∃d',d'≤d∧exL (exV H n d') v.cells=some v'.cells:=by
 have h0:=h
 cases d with
 | zero=>simp[exV]at h
 | succ d =>
  cases v<;>simp only[exV]at h
  case undef=>cases h
  case agg cs =>
   split at h
   ·rename_i ds hd;cases h;exact⟨d,by omega,hd⟩
   ·cases h
  all_goals
   refine⟨d+1,Nat.le_refl _,?_⟩
   have hv:v'.cells=[v']:=by
    first
    | (cases h;rfl)
    | ((split at h<;>first | (cases h;rfl) | (cases h;done) | skip);all_goals (repeat' (split at h))<;>first | (cases h;rfl) | (cases h;done) | skip)
   rw[hv];simp only[V.cells,exL];rw[h0]
theorem ex_rel{H G:List B}(hg:Good s)(hH:s.H=H++G)(d:Nat):∀(v v':V) (u:Value),Rel s v u→exV s.H H.length d v=some v'→Rel (s.cut H) v' u:=by
 induction d using Nat.strongRecOn with
 | _ d ih =>
  intro v v' u hr h;have h0:=h
  have get:∀k bl,k<H.length→s.H[k]?=some bl→(s.cut H).H[k]?=some bl:=fun k bl hk hb=>by rw[hH,List.getElem?_append_left hk]at hb;exact hb
  have new:∀k,Lv s k→¬k<H.length→(s.cut H).Prot (s.φ k):=fun k hk hn=>by
   refine⟨(hg.lt k hk).1,(hg.lt k hk).2,fun j hj e=>?_⟩;have hj':j<H.length:=hj.1;have:=hg.inj j k (jC hH hj) hk e;omega
  have elems:∀{d':Nat} {xs ys:List V},d'<d→exL (exV s.H H.length d') xs=some ys→∀(i:Nat) y (j:Nat) c',ys[i]?=some y→y.cells[j]?=some c' →
    ∃x c,xs[i]?=some x∧x.cells[j]?=some c∧y.cells.length=x.cells.length∧∀u,Rel s c u→Rel (s.cut H) c' u:=fun {d' xs ys} hd hx i y j c' hi hj=>by
   obtain⟨x,hxi,hex⟩:=(fG hx).2 i y hi;obtain⟨d2,hd2,hc⟩:=exV_cells hex;obtain⟨c,hcj,hec⟩:=(fG hc).2 j c' hj;exact⟨x,c,hxi,hcj,(fG hc).1,fun u hu=>ih d2 (by omega) c c' u hu hec⟩
  have lens:∀{d':Nat} {xs ys:List V},exL (exV s.H H.length d') xs=some ys→∀z,(∀x∈xs,x.cells.length=z∧∀c∈x.cells,c.one=true)→∀y∈ys,y.cells.length=z∧∀c∈y.cells,c.one=true:=fun {d' xs ys} hx z hz y hy=>by
   obtain⟨i,hi⟩:=List.mem_iff_getElem?.1 hy;obtain⟨x,hxi,hex⟩:=(fG hx).2 i y hi;obtain⟨d2,hd2,hc⟩:=exV_cells hex;have:=hz x (List.mem_of_getElem? hxi);refine⟨by rw[(fG hc).1];exact this.1,fun c hcm=>?_⟩;obtain⟨j,hj⟩:=List.mem_iff_getElem?.1 hcm;obtain⟨c0,hcj,hec⟩:=(fG hc).2 j c hj;rw[exV_one hec];exact this.2 c0 (List.mem_of_getElem? hcj)
  have flat:∀{d':Nat} {cs ds:List V},d'<d→exL (exV s.H H.length d') cs=some ds→ds.length=cs.length∧((∀c∈cs,c.one=true)→∀c∈ds,c.one=true)∧∀(i:Nat) c',ds[i]?=some c'→∃c,cs[i]?=some c∧∀u,Rel s c u→Rel (s.cut H) c' u:=fun {d' cs ds} hd hx=>by
   refine⟨(fG hx).1,fun h1 c hc=>?_,fun i c' hi=>?_⟩
   ·obtain⟨i,hi⟩:=List.mem_iff_getElem?.1 hc;obtain⟨x,hxi,hex⟩:=(fG hx).2 i c hi;rw[exV_one hex];exact h1 x (List.mem_of_getElem? hxi)
   ·obtain⟨x,hxi,hex⟩:=(fG hx).2 i c' hi;exact⟨x,hxi,fun u hu=>ih d' hd x c' u hu hex⟩
  cases d with
  | zero=>simp[exV]at h
  | succ d =>
   cases hr with
   | undef u=>simp[exV]at h
   | bool b=>cases h;exact .bool b
   | int k n=>cases h;exact .int k n
   | str x=>cases h;exact .str x
   | nilS=>cases h;exact .nilS
   | nilP=>cases h;exact .nilP
   | nilM=>cases h;exact .nilM
   | nilFn=>cases h;exact .nilFn
   | lst z full xs A cap b off u hcap hfull hA hz hcell hrel =>
    simp only[exV]at h;split at h
    ·rename_i ys hy;cases h;have hl:=(fG hy).1;rw[←hl];refine .lst z full ys A cap b off u (by omega) (fun hf=>by rw[hfull hf,hl]) (fun h0=>⟨(hA (by omega)).1,iV hH (hA (by omega)).2⟩) (lens hy z hz) (fun i y j c' hi hj=>?_) (fun i y j c' hi hj=>?_)
     ·obtain⟨x,c,e1,e2,_,_⟩:=elems (Nat.lt_succ_self d) hy i y j c' hi hj;exact hcell i x j c e1 e2
     ·obtain⟨x,c,e1,e2,_,e4⟩:=elems (Nat.lt_succ_self d) hy i y j c' hi hj;exact e4 _ (hrel i x j c e1 e2)
    ·cases h
   | buf k off len tot e z xs fz A l c hk ht hh =>
    simp only[exV]at h;split at h
    ·rename_i hkn;cases h;exact .buf k off len tot e z xs fz A l c (get k _ hkn hk) ht hh
    ·rename_i hkn;rw[hk]at h;simp only at h;split at h
     ·rename_i hc;split at h
      ·rename_i ys hy;cases h;obtain⟨hA,rfl,hcap,_⟩:=hh hc.1;obtain⟨vs,g2,g3,g4,g5,g6,g7⟩:=hg.blk k _ hk
       have hsl:((xs.drop off).take l).length=l:=by simp;omega
       by_cases hl0:l=0
       ·subst hl0;rw[List.take_zero]at hy;cases hy;exact dY z false A c (fun h=>by cases h)
       have hκ:s.κ k≠0:=by omega
       have hA:=hA hκ;subst hA;have hkl:=lvB hk hκ
       have hat:∀i x,((xs.drop off).take l)[i]?=some x→xs[off+i]?=some x:=fun i x hi=>by
        have:=aE hi;rw[List.getElem?_take,if_pos (by omega),List.getElem?_drop]at hi;exact hi
       have hyl:ys.length=l:=by rw[(fG hy).1,hsl]
       have:=Rel.lst (s:=s.cut H) z false ys (some ⟨s.φ k,off*z,none⟩) c (s.φ k) (off*z) (fun i j=>(s.w.cell? ⟨s.φ k,off*z+i*z+j,none⟩).getD Go.undef) (by omega) (by simp) (fun _=>⟨rfl,new k hkl hkn⟩)
        (lens hy z (fun x hx=>g6 x (List.mem_of_mem_drop (List.mem_of_mem_take hx))))
        (fun i y j c' hi hj=>by
         obtain⟨x,c0,e1,e2,_,_⟩:=elems (Nat.lt_succ_self d) hy i y j c' hi hj;obtain⟨_,_,h3⟩:=jG hg hk (hat i x e1);obtain⟨u,hu,_⟩:=h3 j c0 e2;rw[Nat.add_mul]at hu;show s.w.cell? _=_
         rw[hu];rfl)
        (fun i y j c' hi hj=>by
         obtain⟨x,c0,e1,e2,_,e4⟩:=elems (Nat.lt_succ_self d) hy i y j c' hi hj;obtain⟨_,_,h3⟩:=jG hg hk (hat i x e1);obtain⟨u,hu,hr⟩:=h3 j c0 e2;rw[Nat.add_mul]at hu;rw[hu]
         exact e4 _ hr)
       rwa [hyl]at this
      ·cases h
     ·cases h
   | ptr k off cs hk =>
    simp only[exV]at h;split at h
    ·rename_i hkn;cases h;exact .ptr (s:=s.cut H) k off cs (get k _ hkn hk)
    ·cases h
   | pbuf k i off tot e z xs fz p hk ht hh =>
    simp only[exV]at h;split at h
    ·rename_i hkn;cases h;exact .pbuf k i off tot e z xs fz p (get k _ hkn hk) ht hh
    ·cases h
   | sarr k m cs hk =>
    simp only[exV]at h;split at h
    ·rename_i hkn;cases h;exact .sarr (s:=s.cut H) k m cs (get k _ hkn hk)
    ·cases h
   | map k kk es hk =>
    simp only[exV]at h;split at h
    ·rename_i hkn;cases h;exact .map (s:=s.cut H) k kk es (get k _ hkn hk)
    ·cases h
   | pin cs off b o u hp h1 hcell hrel =>
    simp only[exV]at h;split at h
    ·rename_i ds hd;cases h;obtain⟨f1,f2,f3⟩:=flat (Nat.lt_succ_self d) hd;refine .pin ds off b o u (iV hH hp) (f2 h1) (fun j c' hj=>?_) (fun j c' hj=>?_)
     ·obtain⟨c,e1,e2⟩:=f3 _ c' hj;exact hcell j c e1
     ·obtain⟨c,e1,e2⟩:=f3 _ c' hj;exact e2 _ (hrel j c e1)
    ·cases h
   | fn f caps us hl hh =>
    simp only[exV]at h;split at h
    ·rename_i ds hd;cases h;obtain⟨f1,f2,f3⟩:=flat (Nat.lt_succ_self d) hd;refine .fn f ds us (by omega) (fun i c' u hi hu=>?_);obtain⟨c,e1,e2⟩:=f3 _ c' hi;exact e2 _ (hh i c u e1 hu)
    ·cases h
   | agg cs us hl h1 hh =>
    simp only[exV]at h;split at h
    ·rename_i ds hd;cases h;obtain⟨f1,f2,f3⟩:=flat (Nat.lt_succ_self d) hd;refine .agg ds us (by omega) (f2 h1) (fun i c' u hi hu=>?_);obtain⟨c,e1,e2⟩:=f3 _ c' hi;exact e2 _ (hh i c u e1 hu)
    ·cases h
   | tup cs us hl hh =>
    simp only[exV]at h;split at h
    ·rename_i ds hd;cases h;obtain⟨f1,f2,f3⟩:=flat (Nat.lt_succ_self d) hd;refine .tup ds us (by omega) (fun i c' u hi hu=>?_);obtain⟨c,e1,e2⟩:=f3 _ c' hi;exact e2 _ (hh i c u e1 hu)
    ·cases h
theorem nS{f:FuncId}{args:List V}{H G:List B}{r r':V}{d:Nat}(h:bA P f args H fun x y=>x=r∧y=H++G)(he:exV (H++G) H.length d r=some r'):bA P f args H fun x y=>x=r'∧y=H:=by
 refine⟨h.1,fun s vals hA hg hsz hrel=>?_⟩;have hH:=hA.1
 refine(h.2 s vals hA hg hsz hrel).mono fun e w' ⟨u,s',x,a1,a2,a3,a4,a5,a6,a7⟩=>?_
 subst a6
 have hcl:∀bl∈H,ClB H.length bl:=by have:=hg.cl;rw[hH]at this;exact this
 refine⟨u,s'.cut H,r',a1,a2,cut_good2 a3 a7 hcl,?_,?_,rfl,rfl⟩
 ·exact jl a3 a7 (Step.refl (s'.cut H)) s a4 (by rw[hH];exact Nat.le_refl _)
 ·exact ex_rel a3 a7 d x r' u a5 (by rw[a7];exact he)
end
end Go.AM
namespace Go.AM
open Go
abbrev cS:=V→List V→List B→Option (V×List B)
def mL(call:cS)(T:Ty)(ops:Array Oper):List Oper→List V→List B→Option (List V×List B)
 | [],fr,H=>some (fr,H)
 | o::rest,fr,H=>match bR ops fr o with
  | some true=>match bE o.op with
   | some (f,args)=>match call (aU fr f) (args.map (aU fr)) H with
    | some (r,H')=>mL call T ops rest (bJ fr o.dst r) H'
    | none=>none
   | none=>match aop T o.op (aU fr) H with
    | some (v,H')=>mL call T ops rest (bJ fr o.dst v) H'
    | none=>none
  | some false=>mL call T ops rest (bJ fr o.dst (.tup [])) H
  | none=>none
def pU(call:cS)(fv:V)(args:List V)(H:List B):Option V :=
 match call fv args H with
 | some (r,H')=>if eqH (H'.take H.length) H then exV H' H.length 40 r else none
 | none=>none
def bm:Go.Op→Bool
 | .alloc _ | .box .. | .store .. | .makeMap .. | .makeSlice .. | .mapUpdate .. | .insert ..=>false
 | .call c=>match c.callee with
  | .builtin .append=>false
  | .builtin .copy=>false
  | .builtin .clear=>false
  | _=>true
 | _=>true
def allB(p:Nat→Bool):List Nat→Bool
 | []=>true
 | c::l=>p c&&allB p l
structure DRes where
 vs:List V
 cv:List (V×List B)
 E:List Nat
 hs:List (List B)
 fr:List V
def evD(own:Bool)(call:cS)(T:Ty)(ops:Array Oper):List Oper→Nat→List V→List B→Option DRes
 | [],_,fr,_=>some ⟨[],[],[],[],fr⟩
 | o::rest,i,fr,H=>match bR ops fr o with
  | some true=>match bE o.op with
   | some (f,args)=>if own then(match call (aU fr f) (args.map (aU fr)) H with
     | some (r,H')=>if eqH H' H then(match evD own call T ops rest (i+1) (bJ fr o.dst r) H with
       | some d=>some ⟨r::d.vs,(r,[])::d.cv,d.E,d.hs,d.fr⟩
       | none=>none)
      else(match evD own call T ops rest (i+1) (bJ fr o.dst r) H' with
       | some d=>some ⟨r::d.vs,(r,H')::d.cv,i::d.E,H'::d.hs,d.fr⟩
       | none=>none)
     | none=>none)
    else(match pU call (aU fr f) (args.map (aU fr)) H with
     | some r=>match evD own call T ops rest (i+1) (bJ fr o.dst r) H with
      | some d=>some ⟨r::d.vs,(r,[])::d.cv,d.E,d.hs,d.fr⟩
      | none=>none
     | none=>none)
   | none=>match aop T o.op (aU fr) H with
    | some (v,H')=>if bm o.op then(match evD own call T ops rest (i+1) (bJ fr o.dst v) H with
      | some d=>some ⟨v::d.vs,d.cv,d.E,d.hs,d.fr⟩
      | none=>none)
     else(match evD own call T ops rest (i+1) (bJ fr o.dst v) H' with
      | some d=>some ⟨v::d.vs,d.cv,i::d.E,H'::d.hs,d.fr⟩
      | none=>none)
    | none=>none
  | some false=>match evD own call T ops rest (i+1) (bJ fr o.dst (.tup [])) H with
   | some d=>some ⟨.tup []::d.vs,d.cv,d.E,d.hs,d.fr⟩
   | none=>none
  | none=>none
def oblX(call:cS)(T:Ty)(ops:Array Oper)(ms E:List Nat)(Hs:Nat→List B):List Oper→Nat→Nat→List V→List V→Bool
 | [],_,_,_,_=>true
 | _::_,_,_,_,[]=>false
 | o::rest,i,c,fr,v::vs =>
  if E.contains i then oblX call T ops ms E Hs rest (i+1) (c+1) (bJ fr o.dst v) vs
  else(match bR ops fr o with
   | some true=>allB (fun c'=>if c'=c then true else if im ms E i c' then(match bE o.op with
     | some (f,args)=>(match pU call (aU fr f) (args.map (aU fr)) (Hs c') with
      | some r=>eqV 40 r v
      | none=>false)
     | none=>(match aop T o.op (aU fr) (Hs c') with
      | some (v',_)=>eqV 40 v' v&&bm o.op
      | none=>false)) else true) (List.range (E.length+1))
   | _=>true)&&oblX call T ops ms E Hs rest (i+1) c (bJ fr o.dst v) vs
def stat1(ops:Array Oper):Bool :=
 (List.range ops.size).all fun j=>match ops[j]? with
  | none=>true
  | some oj=>oj.after.toList.all (fun e=>!Region.binds .any e||decide (e.on<j)) &&
   (dI ops oj).all (fun t=>(List.range ops.size).all fun i=>match ops[i]? with
    | none=>true
    | some oi=>!(oi.dst == some t)||i == j||(decide (i<j)&&bef (aO [] ops.toList) i j)||(decide (j<i)&&bef (aO [] ops.toList) j i))
def nZ(ops:Array Oper)(E:List Nat):Bool:=(mi E&&E.all fun e=>decide (e<ops.size))&&E.all fun j=>E.all fun i=>!decide (i<j)||bef (aO [] ops.toList) i j
theorem oP{ops:Array Oper}{E:List Nat}(h1:stat1 ops=true)(h2:nZ ops E=true):ic ops E=true:=by
 unfold stat1 at h1;unfold nZ at h2;unfold ic;simp only[Bool.and_eq_true]at h2 ⊢;refine⟨h2.1,?_⟩;rw[List.all_eq_true]at h1 ⊢;intro j hj;have:=h1 j hj;split at this
 ·rename_i hn;first | rw[hn] | rfl
 ·rename_i oj ho
  try rw[ho]
  try simp only
  rw[Bool.and_eq_true];refine⟨this,?_⟩;rw[Bool.or_eq_true];by_cases hE:E.contains j=true
  ·right;rw[List.all_eq_true];intro i hi;rw[Bool.or_eq_true];by_cases hi2:E.contains i=true
   ·right;have h3:=List.all_eq_true.1 h2.2 j (List.contains_iff_mem.1 hE);have h4:=List.all_eq_true.1 h3 i (List.contains_iff_mem.1 hi2);rw[Bool.or_eq_true]at h4
    rcases h4 with h4 | h4
    ·have:i<j:=by simpa using hi
     simp[this]at h4
    ·exact h4
   ·left;simpa using hi2
  ·left;simpa using hE
def kH(own:Bool)(call:cS)(T:Ty)(ops:Array Oper)(fr:List V)(H:List B):Option (List V×List B):=
 match evD own call T ops ops.toList 0 fr H with
 | some d=>if stat1 ops&&nZ ops d.E&&(d.E.isEmpty||oblX call T ops (aO [] ops.toList) d.E (fun c=>(H::d.hs)[c]?.getD []) ops.toList 0 0 fr d.vs) then some (d.fr,(H::d.hs)[d.E.length]?.getD []) else none
 | none=>none
def isEff(o:Oper):Bool:=(bE o.op).isSome||!bm o.op
def chain(ms:List Nat)(ops:Array Oper):Bool :=
 let es:=(List.range ops.size).filter fun i=>match ops[i]? with
  | some o=>isEff o
  | none=>false
 es.all fun i=>es.all fun j=>!decide (i<j)||bef ms i j
def evDraw(call:cS)(T:Ty)(ops:Array Oper)(fr:List V)(H:List B):Option (List V×List B):=
 if chain (aO [] ops.toList) ops then
  (match kH true call T ops fr H with
  | some r=>some r
  | none=>kH false call T ops fr H)
 else(match kH false call T ops fr H with
  | some r=>some r
  | none=>kH true call T ops fr H)
def jA(f:List V→List B→Option (Exit×List V×List B)):Nat→List V→List B→Option (Exit×List V×List B)
 | 0,_,_=>none
 | n+1,fr,H=>match f fr H with
  | some (.normal,fr',H')=>jA f n fr' H'
  | r=>r
def bI(call:cS)(T:Ty)(fuel:Nat):Code→List V→List B→Option (Exit×List V×List B)
 | .skip,fr,H=>some (.normal,fr,H)
 | .region _ ops false,fr,H=>match mL call T ops ops.toList fr H with
  | some (fr',H')=>some (.normal,fr',H')
  | none=>none
 | .region _ ops true,fr,H=>match evDraw call T ops fr H with
  | some (fr',H')=>some (.normal,fr',H')
  | none=>none
 | .seq a b,fr,H=>match bI call T fuel a fr H with
  | some (.normal,fr',H')=>bI call T fuel b fr' H'
  | r=>r
 | .cond c a b,fr,H=>match aU fr c with
  | .bool true=>bI call T fuel a fr H
  | .bool false=>bI call T fuel b fr H
  | _=>none
 | .block id c,fr,H=>match bI call T fuel c fr H with
  | some (.exit id',fr',H')=>if id'=id then some (.normal,fr',H') else some (.exit id',fr',H')
  | r=>r
 | .loop c,fr,H=>jA (bI call T fuel c) fuel fr H
 | .exit id,fr,H=>some (.exit id,fr,H)
 | .ret,fr,H=>some (.ret,fr,H)
 | _,_,_=>none
def evFun(P:Program)(T:Ty)(fuel:Nat)(call:cS)(f:FuncId)(args:List V)(H:List B):Option (V×List B):=
 match P.funcs[f]? with
 | some fn=>match fn.body with
  | some c=>match bI call T fuel c (args++List.replicate (fn.ntmps-args.length) (.tup [])) H with
   | some (.normal,fr,H') | some (.ret,fr,H')=>match ct T fr H' fn.results.toList with
    | some vs=>some (nf vs,H')
    | none=>none
   | _=>none
  | none=>none
 | none=>none
abbrev bG:=FuncId→List V→List B→Option (V×List B)
def qH(P:Program)(T:Ty)(ext:bG)(fuel:Nat):Nat→cS
 | 0,_,_,_=>none
 | d+1,fv,args,H=>match fv with
  | .fn f caps=>match ext f (args++caps) H with
   | some r=>some r
   | none=>evFun P T fuel (qH P T ext fuel d) f (args++caps) H
  | _=>none
section
variable {P:Program} {T:Ty}
def iC(P:Program)(call:cS):Prop:=∀fv args H r H',call fv args H=some (r,H')→aT P fv args H fun x y=>x=r∧y=H'
theorem pcall_ok{call:cS}(hc:iC P call){fv:V}{args:List V}{H:List B}{r:V}(h:pU call fv args H=some r):aT P fv args H fun x y=>x=r∧y=H:=by
 unfold pU at h;split at h
 ·rename_i r0 H' hcall;split at h
  ·rename_i he;have hw:=hc _ _ _ _ _ hcall;have ht:=eqH_eq he
   have hsplit:H'=H++H'.drop H.length:=by
    conv=>lhs;rw[←List.take_append_drop H.length H']
    rw[ht]
   cases fv<;>simp only[aT]at hw ⊢;rw[hsplit]at hw h;exact nS hw h
  ·cases h
 ·cases h
theorem mK{call:cS}(hc:iC P call){ops:Array Oper}{K:List V→List B→Prop} : ∀{l:List Oper} {fr:List V} {H:List B} {fr':List V} {H':List B},mL call T ops l fr H=some (fr',H')→K fr' H'→jO T ops (aT P) K l fr H
 | [],fr,H,fr',H',h,hk=>by simp only[mL,Option.some.injEq,Prod.mk.injEq]at h;obtain⟨rfl,rfl⟩:=h;exact hk
 | o::rest,fr,H,fr',H',h,hk=>by
  simp only[mL]at h;simp only[jO];split at h
  ·rename_i hw
   try rw[hw]
   try simp only
   split at h
   ·rename_i f args hcall
    try rw[hcall]
    try simp only
    split at h
    ·rename_i r H1 he
     exact(hc _ _ _ _ _ he).mono fun x y ⟨e1,e2⟩=>by subst e1;subst e2;exact mK hc h hk
    ·cases h
   ·rename_i hcall
    try rw[hcall]
    try simp only
    split at h
    ·rename_i v H1 he
     try rw[he]
     exact mK hc h hk
    ·cases h
  ·rename_i hw
   try rw[hw]
   exact mK hc h hk
  ·cases h
theorem ib{o:Go.Op}{ρ:Operand→V}{H H':List B}{v:V}(hs:bm o=true)(h:aop T o ρ H=some (v,H')):H'=H:=by
 cases o<;>simp only[bm,Bool.false_eq_true]at hs<;>simp only[aop]at h<;>try (cases h;done)
 all_goals first
  | (cases h;rfl)
  | (exact(bL h).2.symm)
  | skip
 ·split at h<;>cases h;rfl
 ·split at h<;>first | (cases h;rfl) | (cases h;done)
 ·split at h
  ·exact(bL h).2.symm
  ·cases h
 ·split at h
  ·split at h<;>cases h;rfl
  ·cases h
 ·split at h
  ·exact(bL h).2.symm
  ·cases h
 ·rename_i c;split at h
  ·rename_i b hb;rw[hb]at hs;unfold me at h;split at h
   ·exact(bL h).2.symm
   ·simp at hs
   ·simp at hs
   ·simp at hs
   ·exact(bL h).2.symm
   ·exact(bL h).2.symm
   ·cases h
  ·cases h
theorem allB_ok{p:Nat→Bool}{q:Nat→Prop}(h:∀c,p c=true→q c):∀{l:List Nat},allB p l=true→fK q l
 | [],_=>trivial
 | c::l,hl=>by
  simp only[allB,Bool.and_eq_true]at hl;exact⟨h c hl.1,allB_ok h hl.2⟩
theorem allC_mono{p q:Nat→Prop}(h:∀c,p c→q c):∀{l:List Nat},fK p l→fK q l
 | [],_=>trivial
 | c::_,hl=>⟨h c hl.1,allC_mono h hl.2⟩
theorem ng{C:V→List V→List B→(V→List B→Prop)→Prop}(hC:∀fv args H K',aT P fv args H K'→C fv args H K'){ops:Array Oper}{ms E:List Nat}{Hs:Nat→List B} : ∀(l:List Oper) (i:Nat) (fr vs:List V),bu T ops (aT P) ms E Hs l i fr vs→bu T ops C ms E Hs l i fr vs
 | [],_,_,_,_=>trivial
 | _::_,_,_,[],h=>h
 | o::rest,i,fr,v::vs,h=>by
  obtain⟨h1,h2⟩:=h;refine⟨?_,ng hC rest (i+1) _ vs h2⟩
  cases hw:bR ops fr o with
  | none=>rw[hw]at h1;exact h1
  | some b =>
   rw[hw]at h1;cases b
   ·exact h1
   ·simp only at h1 ⊢
    cases hcall:bE o.op with
    | none=>rw[hcall]at h1;exact h1
    | some p =>
     obtain⟨f,args⟩:=p;rw[hcall]at h1;simp only at h1 ⊢;split
     ·rename_i hE;rw[if_pos hE]at h1;exact hC _ _ _ _ h1
     ·rename_i hE;rw[if_neg hE]at h1;refine allC_mono (fun c hp=>?_) h1;split
      ·rename_i hpos;rw[if_pos hpos]at hp;exact hC _ _ _ _ hp
      ·trivial
theorem evD_lt{own:Bool}{call:cS}{ops:Array Oper} : ∀(l:List Oper) (i:Nat) (fr:List V) (H:List B) (d:DRes),evD own call T ops l i fr H=some d→d.hs.length=d.E.length∧d.vs.length=l.length∧∀e∈d.E,i≤e
 | [],i,fr,H,d,h=>by simp only[evD,Option.some.injEq]at h;subst h;simp
 | o::rest,i,fr,H,d,h=>by
  have keep:∀{fr':List V} {H':List B} {d':DRes},evD own call T ops rest (i+1) fr' H'=some d'→d'.hs.length=d'.E.length∧d'.vs.length=rest.length∧∀e∈d'.E,i≤e:=fun {fr' H' d'} h'=>by
   obtain⟨k1,k2,k3⟩:=evD_lt rest (i+1) _ _ _ h';exact⟨k1,k2,fun e he=>by have:=k3 e he;omega⟩
  simp only[evD]at h;split at h
  ·split at h
   ·split at h
    ·split at h
     ·split at h
      ·split at h
       ·rename_i d' hd;cases h;obtain⟨k1,k2,k3⟩:=keep hd;exact⟨k1,by simp[k2],k3⟩
       ·cases h
      ·split at h
       ·rename_i d' hd;cases h;obtain⟨k1,k2,k3⟩:=keep hd;exact⟨by simp[k1],by simp[k2],fun e he=>by simp at he;rcases he with rfl | he;exact Nat.le_refl _;exact k3 e he⟩
       ·cases h
     ·cases h
    ·split at h
     ·split at h
      ·rename_i d' hd;cases h;obtain⟨k1,k2,k3⟩:=keep hd;exact⟨k1,by simp[k2],k3⟩
      ·cases h
     ·cases h
   ·split at h
    ·split at h
     ·split at h
      ·rename_i d' hd;cases h;obtain⟨k1,k2,k3⟩:=keep hd;exact⟨k1,by simp[k2],k3⟩
      ·cases h
     ·split at h
      ·rename_i d' hd;cases h;obtain⟨k1,k2,k3⟩:=keep hd;exact⟨by simp[k1],by simp[k2],fun e he=>by simp at he;rcases he with rfl | he;exact Nat.le_refl _;exact k3 e he⟩
      ·cases h
    ·cases h
  ·split at h
   ·rename_i d' hd;cases h;obtain⟨k1,k2,k3⟩:=keep hd;exact⟨k1,by simp[k2],k3⟩
   ·cases h
  ·cases h
structure Now (E1:List Nat) (Hs1:List (List B)) (i:Nat) (H:List B):Prop where
 len:Hs1.length=E1.length+1
 cur:Hs1[E1.length]?=some H
 lt:∀e∈E1,e<i
theorem kz{call:cS}(hc:iC P call){own:Bool}{ops:Array Oper}{ms:List Nat} : ∀(l:List Oper) (i:Nat) (fr:List V) (H:List B) (d:DRes),evD own call T ops l i fr H=some d→∀(E1:List Nat) (Hs1:List (List B)),Now E1 Hs1 i H →
  (d.E=[]∧E1=[]∨oblX call T ops ms (E1++d.E) (fun c=>((Hs1++d.hs)[c]?).getD []) l i E1.length fr d.vs=true)→
  runT T ops (E1++d.E) l i fr H d.cv=some (d.vs,d.hs,d.fr)∧bu T ops (aT P) ms (E1++d.E) (fun c=>((Hs1++d.hs)[c]?).getD []) l i fr d.vs
 | [],i,fr,H,d,h,E1,Hs1,hn,_=>by simp only[evD,Option.some.injEq]at h;subst h;exact⟨rfl,trivial⟩
 | o::rest,i,fr,H,d,h,E1,Hs1,hn,hx=>by
  have plain:∀{v:V} {d':DRes},evD own call T ops rest (i+1) (bJ fr o.dst v) H=some d'→d.E=d'.E→d.hs=d'.hs→d.vs=v::d'.vs →
    Now E1 Hs1 (i+1) H∧(E1++d.E).contains i=false∧((fun c=>((Hs1++d.hs)[c]?).getD []) E1.length=H)∧(d'.E=[]∧E1=[]∨oblX call T ops ms (E1++d'.E) (fun c=>((Hs1++d'.hs)[c]?).getD []) rest (i+1) E1.length (bJ fr o.dst v) d'.vs=true)∧
    (d'.E=[]∧E1=[]∨(match bR ops fr o with
     | some true=>allB (fun c'=>if c'=E1.length then true else if im ms (E1++d.E) i c' then(match bE o.op with
      | some (f,args)=>(match pU call (aU fr f) (args.map (aU fr)) (((Hs1++d.hs)[c']?).getD []) with
       | some r=>eqV 40 r v
       | none=>false)
      | none=>(match aop T o.op (aU fr) (((Hs1++d.hs)[c']?).getD []) with
       | some (v',_)=>eqV 40 v' v&&bm o.op
       | none=>false)) else true) (List.range ((E1++d.E).length+1))
     | _=>true)=true):=fun {v d'} hd e1 e2 e3=>by
   obtain⟨k1,k2,k3⟩:=evD_lt rest (i+1) _ _ _ hd
   have hnc:(E1++d.E).contains i=false:=by
    rw[Bool.eq_false_iff];intro hh;rw[List.contains_iff_mem,List.mem_append]at hh
    rcases hh with hh | hh
    ·have:=hn.lt i hh;omega
    ·rw[e1]at hh;have:=k3 i hh;omega
   refine⟨⟨hn.len,hn.cur,fun e he=>by have:=hn.lt e he;omega⟩,hnc,?_,?_,?_⟩
   ·have:=hn.cur;simp only;rw[List.getElem?_append_left (by rw[hn.len];omega),this];rfl
   ·rcases hx with⟨hE,hE1⟩ | hx
    ·exact .inl ⟨by rw[←e1];exact hE,hE1⟩
    ·right;rw[e3]at hx;simp only[oblX,hnc,Bool.false_eq_true,if_false,Bool.and_eq_true]at hx;rw[←e1,←e2];exact hx.2
   ·rcases hx with⟨hE,hE1⟩ | hx
    ·exact .inl ⟨by rw[←e1];exact hE,hE1⟩
    ·right;rw[e3]at hx;simp only[oblX,hnc,Bool.false_eq_true,if_false,Bool.and_eq_true]at hx;exact hx.1
  have effect:∀{v:V} {H':List B} {d':DRes},evD own call T ops rest (i+1) (bJ fr o.dst v) H'=some d'→d.E=i::d'.E→d.hs=H'::d'.hs→d.vs=v::d'.vs →
    Now (E1++[i]) (Hs1++[H']) (i+1) H'∧(E1++d.E).contains i=true∧(E1++d.E).idxOf i=E1.length∧((fun c=>((Hs1++d.hs)[c]?).getD []) E1.length=H)∧((fun c=>((Hs1++d.hs)[c]?).getD []) (E1.length+1)=H')∧
    (d'.E=[]∧E1++[i]=[]∨oblX call T ops ms (E1++[i]++d'.E) (fun c=>((Hs1++[H']++d'.hs)[c]?).getD []) rest (i+1) (E1++[i]).length (bJ fr o.dst v) d'.vs=true):=fun {v H' d'} hd e1 e2 e3=>by
   have hni:i∉E1:=fun hh=>by have:=hn.lt i hh;omega
   refine⟨⟨by simp[hn.len],by simp[hn.len],fun e he=>by simp at he;rcases he with he | rfl;have:=hn.lt e he;omega;omega⟩,?_,?_,?_,?_,?_⟩
   ·rw[List.contains_iff_mem,e1];simp
   ·rw[e1,List.idxOf_append,if_neg hni];simp
   ·have:=hn.cur;simp only;rw[List.getElem?_append_left (by rw[hn.len];omega),this];rfl
   ·simp only;rw[e2,List.getElem?_append_right (by rw[hn.len];omega),hn.len];simp
   ·right
    rcases hx with⟨hE,_⟩ | hx
    ·rw[e1]at hE;cases hE
    ·rw[e3]at hx
     have hcon:(E1++d.E).contains i=true:=by rw[List.contains_iff_mem,e1];simp
     simp only[oblX,hcon,if_true]at hx;rw[e1,e2]at hx;simpa using hx
  simp only[evD]at h;split at h
  ·rename_i hw;split at h
   ·rename_i f args hcall;split at h
    ·split at h
     ·rename_i r H' hr;have hwc:=hc _ _ _ _ _ hr;split at h
      ·rename_i he;have he:=eqH_eq he;subst he;split at h
       ·rename_i d' hd;cases h;obtain⟨n1,n2,n3,n4,n5⟩:=plain hd rfl rfl rfl;obtain⟨a1,a2⟩:=kz hc rest (i+1) _ _ _ hd E1 Hs1 n1 n4;refine⟨by simp only[runT,hw,hcall,n2,Bool.false_eq_true,if_false,a1],⟨?_,a2⟩⟩;simp only[hw,hcall,n2,Bool.false_eq_true,if_false];exact callAll hn n3 n5 hw hcall hwc
       ·cases h
      ·split at h
       ·rename_i d' hd;cases h;obtain⟨n1,n2,n3,n4,n5,n6⟩:=effect hd rfl rfl rfl;obtain⟨a1,a2⟩:=kz hc rest (i+1) _ _ _ hd _ _ n1 n6;simp only[List.append_assoc,List.singleton_append]at a1 a2;refine⟨by simp only[runT,hw,hcall,n2,if_true,a1],⟨?_,a2⟩⟩;simp only[hw,hcall,n2,if_true];simp only at n4 n5;rw[n3,n4,n5];exact hwc
       ·cases h
     ·cases h
    ·split at h
     ·rename_i r hr;have hwc:=pcall_ok hc hr;split at h
      ·rename_i d' hd;cases h;obtain⟨n1,n2,n3,n4,n5⟩:=plain hd rfl rfl rfl;obtain⟨a1,a2⟩:=kz hc rest (i+1) _ _ _ hd E1 Hs1 n1 n4;refine⟨by simp only[runT,hw,hcall,n2,Bool.false_eq_true,if_false,a1],⟨?_,a2⟩⟩;simp only[hw,hcall,n2,Bool.false_eq_true,if_false];exact callAll hn n3 n5 hw hcall hwc
      ·cases h
     ·cases h
   ·rename_i hcall;split at h
    ·rename_i v H' hop;split at h
     ·rename_i hst;split at h
      ·rename_i d' hd;cases h;obtain⟨n1,n2,n3,n4,n5⟩:=plain hd rfl rfl rfl;obtain⟨a1,a2⟩:=kz hc rest (i+1) _ _ _ hd E1 Hs1 n1 n4;refine⟨by simp only[runT,hw,hcall,hop,n2,Bool.false_eq_true,if_false,a1],⟨?_,a2⟩⟩;simp only[hw,hcall,n2,Bool.false_eq_true,if_false];have hH:=ib hst hop;subst hH;exact opAll hn n3 n5 hw hcall hop
      ·cases h
     ·split at h
      ·rename_i d' hd;cases h;obtain⟨n1,n2,n3,n4,n5,n6⟩:=effect hd rfl rfl rfl;obtain⟨a1,a2⟩:=kz hc rest (i+1) _ _ _ hd _ _ n1 n6;simp only[List.append_assoc,List.singleton_append]at a1 a2;refine⟨by simp only[runT,hw,hcall,hop,n2,if_true,a1],⟨?_,a2⟩⟩;simp only[hw,hcall,n2,if_true];simp only at n4 n5;rw[n3,n4,n5];exact hop
      ·cases h
    ·cases h
  ·rename_i hw;split at h
   ·rename_i d' hd;cases h;obtain⟨n1,n2,n3,n4,n5⟩:=plain hd rfl rfl rfl;obtain⟨a1,a2⟩:=kz hc rest (i+1) _ _ _ hd E1 Hs1 n1 n4;refine⟨by simp only[runT,hw,n2,Bool.false_eq_true,if_false,a1],⟨?_,a2⟩⟩;simp only[hw];exact⟨trivial,n2⟩
   ·cases h
  ·cases h
where
 range_one {E1:List Nat} {dE:List Nat} (h:dE=[]∧E1=[]):List.range ((E1++dE).length+1)=[0]:=by obtain⟨rfl,rfl⟩:=h;rfl
 callAll {call:cS} {ops:Array Oper} {ms:List Nat} {o:Oper} {i:Nat} {fr:List V} {H:List B} {E1 dE:List Nat} {Hs1 dh:List (List B)} {f:Operand} {args:List Operand} {r:V} (_hn:Now E1 Hs1 i H)
   (n3:(fun c=>((Hs1++dh)[c]?).getD []) E1.length=H)
   (n5:dE=[]∧E1=[]∨(match bR ops fr o with
     | some true=>allB (fun c'=>if c'=E1.length then true else if im ms (E1++dE) i c' then(match bE o.op with
      | some (f,args)=>(match pU call (aU fr f) (args.map (aU fr)) (((Hs1++dh)[c']?).getD []) with
       | some r'=>eqV 40 r' r
       | none=>false)
      | none=>(match aop T o.op (aU fr) (((Hs1++dh)[c']?).getD []) with
       | some (v',_)=>eqV 40 v' r&&bm o.op
       | none=>false)) else true) (List.range ((E1++dE).length+1))
     | _=>true)=true)
   (hw:bR ops fr o=some true) (hcall:bE o.op=some (f,args)) (hwc:aT P (aU fr f) (args.map (aU fr)) H fun x y=>x=r∧y=H) (hc:iC P call:=by assumption):
   fK (fun c=>if im ms (E1++dE) i c then aT P (aU fr f) (args.map (aU fr)) ((fun c=>((Hs1++dh)[c]?).getD []) c) (fun x y=>x=r∧y=(fun c=>((Hs1++dh)[c]?).getD []) c) else True) (List.range ((E1++dE).length+1)):=by
  rcases n5 with h0 | n5
  ·rw[range_one h0];obtain⟨_,rfl⟩:=h0;simp only[List.length_nil]at n3;refine⟨?_,trivial⟩;show(if _ then _ else _);split
   ·simp only;rw[n3];exact hwc
   ·trivial
  ·rw[hw]at n5;simp only[hcall]at n5;refine allB_ok (fun c hp=>?_) n5;split
   ·rename_i hpos;by_cases hce:c=E1.length
    ·subst hce;simp only at n3 ⊢;rw[n3];exact hwc
    ·rw[if_neg hce,if_pos hpos]at hp;split at hp
     ·rename_i r' hr;have:=eP _ _ _ hp;subst this;exact pcall_ok hc hr
     ·cases hp
   ·trivial
 opAll {call:cS} {ops:Array Oper} {ms:List Nat} {o:Oper} {i:Nat} {fr:List V} {H:List B} {E1 dE:List Nat} {Hs1 dh:List (List B)} {r:V} (_hn:Now E1 Hs1 i H)
   (n3:(fun c=>((Hs1++dh)[c]?).getD []) E1.length=H)
   (n5:dE=[]∧E1=[]∨(match bR ops fr o with
     | some true=>allB (fun c'=>if c'=E1.length then true else if im ms (E1++dE) i c' then(match bE o.op with
      | some (f,args)=>(match pU call (aU fr f) (args.map (aU fr)) (((Hs1++dh)[c']?).getD []) with
       | some r'=>eqV 40 r' r
       | none=>false)
      | none=>(match aop T o.op (aU fr) (((Hs1++dh)[c']?).getD []) with
       | some (v',_)=>eqV 40 v' r&&bm o.op
       | none=>false)) else true) (List.range ((E1++dE).length+1))
     | _=>true)=true)
   (hw:bR ops fr o=some true) (hcall:bE o.op=none) (hop:aop T o.op (aU fr) H=some (r,H)):
   fK (fun c=>if im ms (E1++dE) i c then aop T o.op (aU fr) ((fun c=>((Hs1++dh)[c]?).getD []) c)=some (r,(fun c=>((Hs1++dh)[c]?).getD []) c) else True) (List.range ((E1++dE).length+1)):=by
  rcases n5 with h0 | n5
  ·rw[range_one h0];obtain⟨_,rfl⟩:=h0;simp only[List.length_nil]at n3;refine⟨?_,trivial⟩;show(if _ then _ else _);split
   ·simp only;rw[n3];exact hop
   ·trivial
  ·rw[hw]at n5;simp only[hcall]at n5;refine allB_ok (fun c hp=>?_) n5;split
   ·rename_i hpos;by_cases hce:c=E1.length
    ·subst hce;simp only at n3 ⊢;rw[n3];exact hop
    ·rw[if_neg hce,if_pos hpos]at hp;split at hp
     ·rename_i v' H' ha;simp only[Bool.and_eq_true]at hp;have hH:=ib hp.2 ha;rw[ha,eP _ _ _ hp.1,hH]
     ·cases hp
   ·trivial
theorem jB(hT:TOk P T)(hm:P.follows .mixedOrders=true){call:cS}(hc:iC P call){id:Nat}{ops:Array Oper}{fr fr':List V}{H H':List B}{own:Bool}(h:kH own call T ops fr H=some (fr',H')){Q:Exit→List V→List B→Prop}(hq:Q .normal fr' H'):W P (.region id ops true) Q fr H:=by
 unfold kH at h;split at h
 ·rename_i d hd;split at h
  ·rename_i hb;simp only[Bool.and_eq_true,Bool.or_eq_true,List.isEmpty_iff]at hb;cases h;obtain⟨k1,k2,_⟩:=evD_lt _ _ _ _ _ hd
   obtain⟨a1,a2⟩:=kz (ms:=aO [] ops.toList) hc _ _ _ _ _ hd [] [H] ⟨rfl,rfl,by simp⟩ (by
    rcases hb.2 with h | h
    ·exact .inl ⟨h,rfl⟩
    ·exact .inr h)
   intro s a h1 h2 h3 h4;refine W_draw hT hm d.E d.cv (fun C K hC hK=>?_) s a h1 h2 h3 h4;unfold nY;simp only[List.nil_append,List.singleton_append]at a1 a2;rw[a1];exact⟨⟨oP hb.1.1 hb.1.2,k1⟩,ng hC _ _ _ _ a2,hK _ _ hq⟩
  ·cases h
 ·cases h
theorem evDraw_ok(hT:TOk P T)(hm:P.follows .mixedOrders=true){call:cS}(hc:iC P call){id:Nat}{ops:Array Oper}{fr fr':List V}{H H':List B}(h:evDraw call T ops fr H=some (fr',H')){Q:Exit→List V→List B→Prop}(hq:Q .normal fr' H'):W P (.region id ops true) Q fr H:=by
 unfold evDraw at h;split at h
 ·split at h
  ·rename_i r hr;cases h;exact jB hT hm hc hr hq
  ·exact jB hT hm hc h hq
 ·split at h
  ·rename_i r hr;cases h;exact jB hT hm hc hr hq
  ·exact jB hT hm hc h hq
theorem evLoop_ok{c:Code}{f:List V→List B→Option (Exit×List V×List B)}(hf:∀fr H e fr' H',f fr H=some (e,fr',H')→∀Q:Exit→List V→List B→Prop,Q e fr' H'→W P c Q fr H){n:Nat}{fr fr':List V}{H H':List B}{e:Exit}(h:jA f n fr H=some (e,fr',H')){Q:Exit→List V→List B→Prop}(hq:Q e fr' H'):W P (.loop c) Q fr H:=by
 refine W_loop (fun m g G=>jA f m g G=some (e,fr',H')) (fun m g G hm=>?_) h
 cases m with
 | zero=>simp[jA]at hm
 | succ m =>
  simp only[jA]at hm;split at hm
  ·rename_i g' G' he;exact hf _ _ _ _ _ he _ ⟨m,Nat.lt_succ_self m,hm⟩
  ·rename_i r hno;refine hf _ _ _ _ _ hm _ ?_
   cases e with
   | normal=>exact absurd hm (hno _ _)
   | _=>exact hq
theorem dD(hT:TOk P T)(hm:P.follows .mixedOrders=true){call:cS}(hc:iC P call){fuel:Nat} : ∀(c:Code) (fr:List V) (H:List B) (e:Exit) (fr':List V) (H':List B),bI call T fuel c fr H=some (e,fr',H')→∀Q:Exit→List V→List B→Prop,Q e fr' H'→W P c Q fr H
 | .skip,fr,H,e,fr',H',h,Q,hq=>by simp only[bI]at h;cases h;exact W_skip hq
 | .region id ops false,fr,H,e,fr',H',h,Q,hq=>by
  simp only[bI]at h;split at h
  ·rename_i g G he;cases h;intro s a h1 h2 h3 h4;refine W_region hT (fun C K hC hK=>?_) s a h1 h2 h3 h4;exact WOps_mono hC _ _ _ (mK hc he (hK _ _ hq))
  ·cases h
 | .region id ops true,fr,H,e,fr',H',h,Q,hq=>by
  simp only[bI]at h;split at h
  ·rename_i g G he;cases h;exact evDraw_ok hT hm hc he hq
  ·cases h
 | .seq a b,fr,H,e,fr',H',h,Q,hq=>by
  simp only[bI]at h;refine W_seq ?_;split at h
  ·rename_i g G he;exact dD hT hm hc a fr H _ g G he _ (dD hT hm hc b g G e fr' H' h Q hq)
  ·rename_i r hno;refine dD hT hm hc a fr H _ fr' H' h _ ?_
   cases e with
   | normal=>exact absurd h (hno _ _)
   | _=>exact hq
 | .cond o a b,fr,H,e,fr',H',h,Q,hq=>by
  simp only[bI]at h;split at h
  ·rename_i hb;exact W_cond (b:=true) hb (dD hT hm hc a fr H e fr' H' h Q hq)
  ·rename_i hb;exact W_cond (b:=false) hb (dD hT hm hc b fr H e fr' H' h Q hq)
  ·cases h
 | .block id c,fr,H,e,fr',H',h,Q,hq=>by
  simp only[bI]at h;refine W_block ?_;split at h
  ·rename_i id' g G he;refine dD hT hm hc c fr H _ g G he _ ?_;simp only[gy];split
   ·rename_i hid;rw[if_pos hid]at h;cases h;exact hq
   ·rename_i hid;rw[if_neg hid]at h;cases h;exact hq
  ·rename_i r hno;refine dD hT hm hc c fr H _ fr' H' h _ ?_
   cases e with
   | exit id'=>exact absurd h (hno _ _ _)
   | _=>exact hq
 | .loop c,fr,H,e,fr',H',h,Q,hq=>by
  simp only[bI]at h;exact evLoop_ok (fun g G e' g' G' he Q' hq'=>dD hT hm hc c g G e' g' G' he Q' hq') h hq
 | .exit id,fr,H,e,fr',H',h,Q,hq=>by simp only[bI]at h;cases h;exact W_exit hq
 | .ret,fr,H,e,fr',H',h,Q,hq=>by simp only[bI]at h;cases h;exact W_ret hq
 | .rangeFunc ..,fr,H,e,fr',H',h,Q,hq=>by simp[bI]at h
 | .scope _,fr,H,e,fr',H',h,Q,hq=>by simp[bI]at h
 | .label _,fr,H,e,fr',H',h,Q,hq=>by simp[bI]at h
 | .goto _,fr,H,e,fr',H',h,Q,hq=>by simp[bI]at h
 | .refuse _,fr,H,e,fr',H',h,Q,hq=>by simp[bI]at h
where
 WOps_mono {C:V→List V→List B→(V→List B→Prop)→Prop} (hC:∀fv args H K',aT P fv args H K'→C fv args H K') {K:List V→List B→Prop} {ops:Array Oper} : ∀(l:List Oper) (fr:List V) (H:List B),jO T ops (aT P) K l fr H→jO T ops C K l fr H
  | [],_,_,h=>h
  | o::rest,fr,H,h=>by
   simp only[jO]at h ⊢;split at h
   ·split at h
    ·exact hC _ _ _ _ (h.mono fun r H' h'=>WOps_mono hC rest _ _ h')
    ·split at h
     ·exact WOps_mono hC rest _ _ h
     ·exact h
   ·exact WOps_mono hC rest _ _ h
   ·exact h
theorem evFun_ok(hT:TOk P T)(hm:P.follows .mixedOrders=true)(hn:∀(f:Nat) (fn:Func),P.funcs[f]?=some fn→(fn.name == "runtime.NumGoroutine")=false){call:cS}(hc:iC P call){fuel:Nat}{f:FuncId}{args:List V}{H H':List B}{r:V}(h:evFun P T fuel call f args H=some (r,H')):bA P f args H fun x y=>x=r∧y=H':=by
 unfold evFun at h;split at h
 ·rename_i fn hf;split at h
  ·rename_i c hb
   have fin:∀{e:Exit} {fr:List V} {H1:List B},(e = .normal∨e = .ret)→bI call T fuel c (args++List.replicate (fn.ntmps-args.length) (.tup [])) H=some (e,fr,H1)→(match ct T fr H1 fn.results.toList with
     | some vs=>some (nf vs,H1)
     | none=>none)=some (r,H')→bA P f args H fun x y=>x=r∧y=H':=fun {e fr H1} he hev hres=>by
    refine aD hT hf hb (hn f fn hf) ?_;refine dD hT hm hc c _ _ _ _ _ hev _ ?_;split at hres
    ·rename_i vs hvs;cases hres
     rcases he with rfl | rfl<;>simp[retQ,hvs]
    ·cases hres
   split at h
   ·rename_i fr H1 hev;exact fin (.inl rfl) hev h
   ·rename_i fr H1 hev;exact fin (.inr rfl) hev h
   ·cases h
  ·cases h
 ·cases h
def ao(P:Program)(ext:bG):Prop:=∀f args H r H',ext f args H=some (r,H')→bA P f args H fun x y=>x=r∧y=H'
theorem evCall_ok(hT:TOk P T)(hm:P.follows .mixedOrders=true)(hn:∀(f:Nat) (fn:Func),P.funcs[f]?=some fn→(fn.name == "runtime.NumGoroutine")=false){ext:bG}(he:ao P ext){fuel:Nat} : ∀d,iC P (qH P T ext fuel d)
 | 0=>fun fv args H r H' h=>by simp[qH]at h
 | d+1=>fun fv args H r H' h=>by
  simp only[qH]at h;split at h
  ·rename_i f caps;split at h
   ·rename_i r' hr;cases h;exact he _ _ _ _ _ hr
   ·exact evFun_ok hT hm hn (evCall_ok hT hm hn he d) h
  ·cases h
theorem closed_con(hT:TOk P T)(hm:P.follows .mixedOrders=true)(hn:∀(f:Nat) (fn:Func),P.funcs[f]?=some fn→(fn.name == "runtime.NumGoroutine")=false){ext:bG}(hx:ao P ext){fuel d:Nat}{f:FuncId}{args:List V}{r:V}{H':List B}(h:qH P T ext fuel d (.fn f []) args []=some (r,H')){r':V}(he:exV H' 0 40 r=some r')(hp:Pure r'):aR P f args fun x=>x=r':=by
 have h1:=evCall_ok hT hm hn hx d _ _ _ _ _ h;simp only[aT,List.append_nil]at h1;have h2:=nS (G:=H') (d:=40) h1 he;exact aC (h2.mono fun x y ⟨e1,e2⟩=>by subst e1;subst e2;exact⟨x,.pure x hp,hp,rfl⟩)
end
end Go.AM
namespace Go.AM
open Go
end Go.AM
namespace Go.AM
open Go
inductive FT where
 | nil
 | node (v:V) (l r:FT)
def FT.get:FT→Nat→V
 | .nil,_=>.undef
 | .node v l r,i=>cond (Nat.beq i 0) v (cond (Nat.beq (i % 2) 1) (l.get (i / 2)) (r.get (i / 2-1)))
def FT.set:FT→Nat→V→FT
 | .nil,_,_=>.nil
 | .node v l r,i,x=>cond (Nat.beq i 0) (.node x l r) (cond (Nat.beq (i % 2) 1) (.node v (l.set (i / 2) x) r) (.node v l (r.set (i / 2-1) x)))
def FT.has:FT→Nat→Bool
 | .nil,_=>false
 | .node _ l r,i=>cond (Nat.beq i 0) true (cond (Nat.beq (i % 2) 1) (l.has (i / 2)) (r.has (i / 2-1)))
def FT.full(v:V):Nat→FT
 | 0=>.nil
 | d+1=>.node v (FT.full v d) (FT.full v d)
theorem pw(v:V):∀(d i:Nat),i+1<2^d→(FT.full v d).get i=v∧(FT.full v d).has i=true
 | 0,i,h=>by simp at h
 | d+1,i,h=>by
  have e1:(FT.full v (d+1)).get i=cond (Nat.beq i 0) v (cond (Nat.beq (i % 2) 1) ((FT.full v d).get (i / 2)) ((FT.full v d).get (i / 2-1))):=rfl;have e2:(FT.full v (d+1)).has i=cond (Nat.beq i 0) true (cond (Nat.beq (i % 2) 1) ((FT.full v d).has (i / 2)) ((FT.full v d).has (i / 2-1))):=rfl;rw[e1,e2];rw[Nat.pow_succ]at h;cases h0:Nat.beq i 0
  ·have hi:i≠0:=fun e=>by subst e;simp at h0
   cases h1:Nat.beq (i % 2) 1
   ·have h1':i % 2≠1:=fun e=>by rw[e]at h1;simp at h1
    exact pw v d (i / 2-1) (by omega)
   ·have h1':i % 2=1:=Nat.eq_of_beq_eq_true h1;exact pw v d (i / 2) (by omega)
  ·exact⟨rfl,rfl⟩
theorem oc(x:V):∀(t:FT) (i j:Nat),t.has i=true→(t.set i x).get j=(if i=j then x else t.get j)∧(t.set i x).has j=t.has j
 | .nil,i,j,h=>by have:FT.has .nil i=false:=rfl;rw[this]at h;cases h
 | .node v l r,i,j,h=>by
  have e0:(FT.node v l r).has i=cond (Nat.beq i 0) true (cond (Nat.beq (i % 2) 1) (l.has (i / 2)) (r.has (i / 2-1))):=rfl;have e1:(FT.node v l r).set i x=cond (Nat.beq i 0) (.node x l r) (cond (Nat.beq (i % 2) 1) (.node v (l.set (i / 2) x) r) (.node v l (r.set (i / 2-1) x))):=rfl
  have g:∀(v:V) (l r:FT) (j:Nat),(FT.node v l r).get j=cond (Nat.beq j 0) v (cond (Nat.beq (j % 2) 1) (l.get (j / 2)) (r.get (j / 2-1))):=fun _ _ _ _=>rfl
  have hh:∀(v:V) (l r:FT) (j:Nat),(FT.node v l r).has j=cond (Nat.beq j 0) true (cond (Nat.beq (j % 2) 1) (l.has (j / 2)) (r.has (j / 2-1))):=fun _ _ _ _=>rfl
  have bz:∀a b:Nat,Nat.beq a b=decide (a=b):=fun a b=>by
   cases hb:Nat.beq a b
   ·exact(decide_eq_false (fun e=>by subst e;simp at hb)).symm
   ·exact(decide_eq_true (Nat.eq_of_beq_eq_true hb)).symm
  rw[e0]at h;rw[e1];simp only[bz]at h ⊢;by_cases hi:i=0
  ·subst hi;simp only[decide_true,cond_true,g,hh,bz];by_cases hj:j=0
   ·subst hj;simp
   ·simp[hj,Ne.symm hj]
  ·simp only[hi,decide_false,cond_false]at h ⊢;by_cases h1:i % 2=1
   ·simp only[h1,decide_true,cond_true]at h ⊢;simp only[g,hh,bz];by_cases hj:j=0
    ·subst hj;simp[hi]
    ·simp only[hj,decide_false,cond_false];by_cases hj1:j % 2=1
     ·obtain⟨k1,k2⟩:=oc x l (i / 2) (j / 2) h;simp only[hj1,decide_true,cond_true,k1,k2,and_true]
      have:(i / 2=j / 2)↔(i=j):=by omega
      simp[this]
     ·simp only[hj1,decide_false,cond_false,and_true];rw[if_neg (fun e:i=j=>hj1 (e▸h1))]
   ·simp only[h1,decide_false,cond_false]at h ⊢;simp only[g,hh,bz];by_cases hj:j=0
    ·subst hj;simp[hi]
    ·simp only[hj,decide_false,cond_false];by_cases hj1:j % 2=1
     ·simp only[hj1,decide_true,cond_true,and_true];rw[if_neg (fun e:i=j=>h1 (e▸hj1))]
     ·obtain⟨k1,k2⟩:=oc x r (i / 2-1) (j / 2-1) h;simp only[hj1,decide_false,cond_false,k1,k2,and_true]
      have:(i / 2-1=j / 2-1)↔(i=j):=by omega
      simp[this]
def ka(n:Nat)(t:FT):Operand→V
 | .tmp i=>cond (Nat.blt i n) (t.get i) .undef
 | .const v=>(jJ v).getD .undef
 | .func f=>.fn f []
 | .global _=>.undef
def putT(n:Nat)(t:FT)(d:Option Tmp)(v:V):FT :=
 match d with
 | some i=>cond (Nat.blt i n) (t.set i v) t
 | none=>t
def wantT(n:Nat)(ops:Array Oper)(t:FT)(o:Oper):Option Bool :=
 match o.guard with
 | none=>some true
 | some (j,want)=>match ops[j]? with
  | some oj=>match oj.dst with
   | some d=>match ka n t (.tmp d) with
    | .bool b=>some (b == want)
    | .tup _=>some false
    | _=>none
   | none=>none
  | none=>none
def ky(n:Nat)(call:cS)(T:Ty)(ops:Array Oper):List Oper→FT→List B→Option (FT×List B)
 | [],fr,H=>some (fr,H)
 | o::rest,fr,H=>match wantT n ops fr o with
  | some true=>match bE o.op with
   | some (f,args)=>match call (ka n fr f) (args.map (ka n fr)) H with
    | some (r,H')=>ky n call T ops rest (putT n fr o.dst r) H'
    | none=>none
   | none=>match aop T o.op (ka n fr) H with
    | some (v,H')=>ky n call T ops rest (putT n fr o.dst v) H'
    | none=>none
  | some false=>ky n call T ops rest (putT n fr o.dst (.tup [])) H
  | none=>none
def toL(n:Nat)(t:FT):List V:=(List.range n).map t.get
def lW(t:FT):Nat→List V→FT
 | _,[]=>t
 | i,v::r=>lW (t.set i v) (i+1) r
def ofL(d:Nat)(l:List V):FT:=lW (FT.full (.tup []) d) 0 l
structure FR (n:Nat) (t:FT) (fr:List V):Prop where
 len:fr.length=n
 at_:∀i,i<n→fr[i]?=some (t.get i)∧t.has i=true
section
variable {n:Nat} {t:FT} {fr:List V}
theorem blt_iff(a b:Nat):Nat.blt a b=decide (a<b):=by
 unfold Nat.blt;cases h:Nat.ble a.succ b
 ·exact(decide_eq_false (fun hl=>by rw[Nat.ble_eq_true_of_le hl]at h;cases h)).symm
 ·exact(decide_eq_true (Nat.le_of_ble_eq_true h)).symm
theorem FR.eval(h:FR n t fr)(x:Operand):ka n t x=aU fr x:=by
 cases x with
 | tmp i =>
  simp only[ka,aU,blt_iff]
  have key:∀k:Nat,(cond (decide (k<n)) (t.get k) V.undef)=(fr[k]?).getD .undef:=fun k=>by
   by_cases hk:k<n
   ·simp[hk,(h.at_ k hk).1]
   ·have:=h.len;rw[List.getElem?_eq_none (by omega)];simp[hk]
  exact key i
 | const v=>rfl
 | func f=>rfl
 | global g=>rfl
theorem FR.put(h:FR n t fr)(d:Option Tmp)(v:V):FR n (putT n t d v) (bJ fr d v):=by
 cases d with
 | none=>exact h
 | some i =>
  have key:∀k:Nat,FR n (cond (Nat.blt k n) (t.set k v) t) (fr.set k v):=fun k=>by
   rw[blt_iff];by_cases hk:k<n
   ·refine⟨by simp[h.len],fun j hj=>?_⟩;have hs:=oc v t k j (h.at_ k hk).2;simp only[hk,decide_true,cond_true];rw[hs.1,hs.2];refine⟨?_,(h.at_ j hj).2⟩;by_cases hkj:k=j
    ·subst hkj;rw[List.getElem?_set_self (by rw[h.len];exact hk)];simp
    ·rw[List.getElem?_set_ne hkj,if_neg hkj];exact(h.at_ j hj).1
   ·simp only[hk,decide_false,cond_false];rw[List.set_eq_of_length_le (by rw[h.len];omega)];exact h
  exact key i
theorem FR.want(h:FR n t fr)(ops:Array Oper)(o:Oper):wantT n ops t o=bR ops fr o:=by
 unfold wantT bR
 cases o.guard with
 | none=>rfl
 | some p =>
  obtain⟨j,want⟩:=p;simp only
  cases ops[j]? with
  | none=>rfl
  | some oj =>
   simp only
   cases oj.dst with
   | none=>rfl
   | some d =>
    simp only;rw[h.eval];simp only[aU]
    have key:∀k:Nat,(match (fr[k]?).getD .undef with
      | .bool b=>some (b == want)
      | .tup _=>some false
      | _=>none)=(match fr[k]? with
      | some (.bool b)=>some (b == want)
      | some (.tup _)=>some false
      | _=>none):=fun k=>by
     cases fr[k]? with
     | none=>rfl
     | some v=>cases v<;>rfl
    exact key d
theorem FR.list(h:FR n t fr):toL n t=fr:=by
 apply List.ext_getElem?;intro i;by_cases hi:i<n
 ·rw[(h.at_ i hi).1,toL,List.getElem?_map,List.getElem?_range hi];rfl
 ·have:=h.len;rw[List.getElem?_eq_none (by simp[toL];omega),List.getElem?_eq_none (by omega)]
theorem ofLgo_ok(N:Nat):∀(l:List V) (i:Nat) (t:FT),(∀k,k<N→t.has k=true)→i+l.length≤N→(∀k,k<N→(lW t i l).has k=true)∧(∀k,k<i→(lW t i l).get k=t.get k)∧(∀k v,l[k]?=some v→(lW t i l).get (i+k)=v)∧∀k,i+l.length≤k→(lW t i l).get k=t.get k
 | [],i,t,h,hl=>⟨h,fun _ _=>rfl,by simp,fun _ _=>rfl⟩
 | v::l,i,t,h,hl=>by
  simp only[List.length_cons]at hl
  have hs:=fun k=>oc v t i k (h i (by omega))
  obtain⟨a1,a2,a3,a4⟩:=ofLgo_ok N l (i+1) (t.set i v) (fun k hk=>by rw[(hs k).2];exact h k hk) (by omega);refine⟨a1,fun k hk=>?_,fun k x hx=>?_,fun k hk=>?_⟩
  ·show(lW (t.set i v) (i+1) l).get k=_;rw[a2 k (by omega),(hs k).1,if_neg (by omega)]
  ·cases k with
   | zero=>simp at hx;subst hx;show(lW (t.set i v) (i+1) l).get i=_;rw[a2 i (by omega),(hs i).1,if_pos rfl]
   | succ k=>have:=a3 k x (by simpa using hx);rw[show i+(k+1)=i+1+k by omega];exact this
  ·simp only[List.length_cons]at hk;show(lW (t.set i v) (i+1) l).get k=_;rw[a4 k (by omega),(hs k).1,if_neg (by omega)]
theorem ofL_ok{d:Nat}{l:List V}(hn:n<2^d)(hl:l.length≤n):FR n (ofL d l) (l++List.replicate (n-l.length) (.tup [])):=by
 have hf:=fun k (hk:k<n)=>pw (.tup []) d k (by omega)
 obtain⟨a1,a2,a3,a4⟩:=ofLgo_ok n l 0 (FT.full (.tup []) d) (fun k hk=>(hf k hk).2) (by omega);refine⟨by simp;omega,fun i hi=>⟨?_,a1 i hi⟩⟩;by_cases hil:i<l.length
 ·have hx:l[i]?=some l[i]:=List.getElem?_eq_getElem hil;have:=a3 i _ hx;rw[Nat.zero_add]at this;rw[List.getElem?_append_left hil,hx];exact congrArg some this.symm
 ·rw[List.getElem?_append_right (by omega),List.getElem?_replicate,if_pos (by omega)];have:=a4 i (by omega);exact congrArg some ((this.trans (hf i hi).1).symm)
end
def mM(f:FT→List B→Option (Exit×FT×List B)):Nat→FT→List B→Option (Exit×FT×List B)
 | 0,_,_=>none
 | m+1,fr,H=>match f fr H with
  | some (.normal,fr',H')=>mM f m fr' H'
  | r=>r
def bS(n d:Nat)(call:cS)(T:Ty)(fuel:Nat):Code→FT→List B→Option (Exit×FT×List B)
 | .skip,fr,H=>some (.normal,fr,H)
 | .region _ ops false,fr,H=>match ky n call T ops ops.toList fr H with
  | some (fr',H')=>some (.normal,fr',H')
  | none=>none
 | .region _ ops true,fr,H=>match evDraw call T ops (toL n fr) H with
  | some (fr',H')=>if fr'.length=n then some (.normal,ofL d fr',H') else none
  | none=>none
 | .seq a b,fr,H=>match bS n d call T fuel a fr H with
  | some (.normal,fr',H')=>bS n d call T fuel b fr' H'
  | r=>r
 | .cond c a b,fr,H=>match ka n fr c with
  | .bool true=>bS n d call T fuel a fr H
  | .bool false=>bS n d call T fuel b fr H
  | _=>none
 | .block id c,fr,H=>match bS n d call T fuel c fr H with
  | some (.exit id',fr',H')=>if id'=id then some (.normal,fr',H') else some (.exit id',fr',H')
  | r=>r
 | .loop c,fr,H=>mM (bS n d call T fuel c) fuel fr H
 | .exit id,fr,H=>some (.exit id,fr,H)
 | .ret,fr,H=>some (.ret,fr,H)
 | _,_,_=>none
def resT(T:Ty)(n:Nat)(fr:FT)(H:List B):List ResultVar→Option (List V)
 | []=>some []
 | .tmp t::rs=>if t<n then(match resT T n fr H rs with
  | some vs=>some (fr.get t::vs)
  | none=>none) else none
 | .cell a t::rs=>if a<n then(match ph T H t (fr.get a),resT T n fr H rs with
  | some v,some vs=>some (v::vs)
  | _,_=>none) else none
def evFunT(P:Program)(T:Ty)(fuel:Nat)(call:cS)(f:FuncId)(args:List V)(H:List B):Option (V×List B):=
 match P.funcs[f]? with
 | some fn=>match fn.body with
  | some c=>if args.length≤fn.ntmps∧fn.ntmps<256 then(match bS fn.ntmps 8 call T fuel c (ofL 8 args) H with
   | some (.normal,fr,H') | some (.ret,fr,H')=>match resT T fn.ntmps fr H' fn.results.toList with
    | some vs=>some (nf vs,H')
    | none=>none
   | _=>none) else none
  | none=>none
 | none=>none
def mN(P:Program)(T:Ty)(ext:bG)(fuel:Nat):Nat→cS
 | 0,_,_,_=>none
 | d+1,fv,args,H=>match fv with
  | .fn f caps=>match ext f (args++caps) H with
   | some r=>some r
   | none=>evFunT P T fuel (mN P T ext fuel d) f (args++caps) H
  | _=>none
section
variable {P:Program} {T:Ty}
theorem map_evalT{n:Nat}{t:FT}{fr:List V}(h:FR n t fr)(args:List Operand):args.map (ka n t)=args.map (aU fr):=List.map_congr_left fun x _=>h.eval x
theorem aopT{n:Nat}{t:FT}{fr:List V}(h:FR n t fr)(o:Go.Op)(H:List B):aop T o (ka n t) H=aop T o (aU fr) H:=by
 have:ka n t=aU fr:=funext h.eval;rw[this]
theorem kG{n:Nat}{call:cS}{ops:Array Oper} : ∀{l:List Oper} {t:FT} {fr:List V} {H:List B} {t':FT} {H':List B},FR n t fr→ky n call T ops l t H=some (t',H')→∃fr',mL call T ops l fr H=some (fr',H')∧FR n t' fr'
 | [],t,fr,H,t',H',h,he=>by simp only[ky,Option.some.injEq,Prod.mk.injEq]at he;obtain⟨rfl,rfl⟩:=he;exact⟨fr,rfl,h⟩
 | o::rest,t,fr,H,t',H',h,he=>by
  simp only[ky]at he;simp only[mL];rw[h.want]at he
  cases hw:bR ops fr o with
  | none=>rw[hw]at he;cases he
  | some b =>
   rw[hw]at he
   cases b with
   | false=>exact kG (h.put o.dst _) he
   | true =>
    simp only at he ⊢
    cases hc:bE o.op with
    | some p =>
     obtain⟨f,args⟩:=p;rw[hc]at he;simp only at he ⊢;rw[h.eval,map_evalT h]at he
     cases hcall:call (aU fr f) (args.map (aU fr)) H with
     | none=>rw[hcall]at he;cases he
     | some q =>
      obtain⟨r,H1⟩:=q;rw[hcall]at he;exact kG (h.put o.dst r) he
    | none =>
     rw[hc]at he;simp only at he ⊢;rw[aopT h]at he
     cases hop:aop T o.op (aU fr) H with
     | none=>rw[hop]at he;cases he
     | some q =>
      obtain⟨v,H1⟩:=q;rw[hop]at he;exact kG (h.put o.dst v) he
theorem qF{n:Nat}{f:FT→List B→Option (Exit×FT×List B)}{g:List V→List B→Option (Exit×List V×List B)}
  (hf:∀t fr H e t' H',FR n t fr→f t H=some (e,t',H')→∃fr',g fr H=some (e,fr',H')∧FR n t' fr'):∀(m:Nat) {t:FT} {fr:List V} {H:List B} {e:Exit} {t':FT} {H':List B},FR n t fr→mM f m t H=some (e,t',H')→∃fr',jA g m fr H=some (e,fr',H')∧FR n t' fr'
 | 0,t,fr,H,e,t',H',h,he=>by simp[mM]at he
 | m+1,t,fr,H,e,t',H',h,he=>by
  simp only[mM]at he;split at he
  ·rename_i t1 H1 h1;obtain⟨fr1,g1,r1⟩:=hf _ _ _ _ _ _ h h1;obtain⟨fr',g2,r2⟩:=qF hf m r1 he;exact⟨fr',by simp only[jA,g1];exact g2,r2⟩
  ·rename_i r hno;obtain⟨fr',g1,r1⟩:=hf _ _ _ _ _ _ h he;refine⟨fr',?_,r1⟩;simp only[jA,g1]
   cases e with
   | normal=>exact absurd he (hno _ _)
   | _=>rfl
theorem cY{n d:Nat}(hd:n<2^d){call:cS}{fuel:Nat} : ∀(c:Code) (t:FT) (fr:List V) (H:List B) (e:Exit) (t':FT) (H':List B),FR n t fr→bS n d call T fuel c t H=some (e,t',H')→∃fr',bI call T fuel c fr H=some (e,fr',H')∧FR n t' fr'
 | .skip,t,fr,H,e,t',H',h,he=>by simp only[bS]at he;cases he;exact⟨fr,rfl,h⟩
 | .region id ops false,t,fr,H,e,t',H',h,he=>by
  simp only[bS]at he;split at he
  ·rename_i t1 H1 h1;cases he;obtain⟨fr',g1,r1⟩:=kG h h1;exact⟨fr',by simp only[bI,g1],r1⟩
  ·cases he
 | .region id ops true,t,fr,H,e,t',H',h,he=>by
  simp only[bS]at he;split at he
  ·rename_i f1 H1 h1;split at he
   ·rename_i hl;cases he;rw[h.list]at h1;have:=ofL_ok (n:=n) (d:=d) (l:=f1) hd (by omega);rw[hl,Nat.sub_self]at this;simp only[List.replicate_zero,List.append_nil]at this;exact⟨f1,by simp only[bI,h1],this⟩
   ·cases he
  ·cases he
 | .seq a b,t,fr,H,e,t',H',h,he=>by
  simp only[bS]at he;split at he
  ·rename_i t1 H1 h1;obtain⟨fr1,g1,r1⟩:=cY hd a _ _ _ _ _ _ h h1;obtain⟨fr',g2,r2⟩:=cY hd b _ _ _ _ _ _ r1 he;exact⟨fr',by simp only[bI,g1];exact g2,r2⟩
  ·rename_i r hno;obtain⟨fr',g1,r1⟩:=cY hd a _ _ _ _ _ _ h he;refine⟨fr',?_,r1⟩;simp only[bI,g1]
   cases e with
   | normal=>exact absurd he (hno _ _)
   | _=>rfl
 | .cond c a b,t,fr,H,e,t',H',h,he=>by
  simp only[bS]at he;rw[h.eval]at he;split at he
  ·rename_i hb;obtain⟨fr',g1,r1⟩:=cY hd a _ _ _ _ _ _ h he;exact⟨fr',by simp only[bI,hb];exact g1,r1⟩
  ·rename_i hb;obtain⟨fr',g1,r1⟩:=cY hd b _ _ _ _ _ _ h he;exact⟨fr',by simp only[bI,hb];exact g1,r1⟩
  ·cases he
 | .block id c,t,fr,H,e,t',H',h,he=>by
  simp only[bS]at he;split at he
  ·rename_i id' t1 H1 h1;obtain⟨fr1,g1,r1⟩:=cY hd c _ _ _ _ _ _ h h1;split at he
   ·rename_i hid;cases he;exact⟨fr1,by simp only[bI,g1,hid,if_true],r1⟩
   ·rename_i hid;cases he;exact⟨fr1,by simp only[bI,g1,hid,if_false],r1⟩
  ·rename_i r hno;obtain⟨fr',g1,r1⟩:=cY hd c _ _ _ _ _ _ h he;refine⟨fr',?_,r1⟩;simp only[bI,g1]
   cases e with
   | exit id'=>exact absurd he (hno _ _ _)
   | _=>rfl
 | .loop c,t,fr,H,e,t',H',h,he=>by
  simp only[bS]at he;obtain⟨fr',g1,r1⟩:=qF (g:=bI call T fuel c) (fun t fr H e t' H' a b=>cY hd c t fr H e t' H' a b) fuel h he;exact⟨fr',by simp only[bI,g1],r1⟩
 | .exit id,t,fr,H,e,t',H',h,he=>by simp only[bS]at he;cases he;exact⟨fr,rfl,h⟩
 | .ret,t,fr,H,e,t',H',h,he=>by simp only[bS]at he;cases he;exact⟨fr,rfl,h⟩
 | .rangeFunc ..,t,fr,H,e,t',H',h,he=>by simp[bS]at he
 | .scope _,t,fr,H,e,t',H',h,he=>by simp[bS]at he
 | .label _,t,fr,H,e,t',H',h,he=>by simp[bS]at he
 | .goto _,t,fr,H,e,t',H',h,he=>by simp[bS]at he
 | .refuse _,t,fr,H,e,t',H',h,he=>by simp[bS]at he
theorem oQ{n:Nat}{t:FT}{fr:List V}{H:List B}(h:FR n t fr):∀{rs:List ResultVar} {vs:List V},resT T n t H rs=some vs→ct T fr H rs=some vs
 | [],vs,hr=>hr
 | .tmp i::rs,vs,hr=>by
  simp only[resT]at hr;split at hr
  ·rename_i hi;split at hr
   ·rename_i ws hw;cases hr
    have key:∀k:Nat,k<n→fr[k]?=some (t.get k):=fun k hk=>(h.at_ k hk).1
    simp only[ct,lO,oQ h hw];have:=key i hi;rw[this]
   ·cases hr
  ·cases hr
 | .cell a ty::rs,vs,hr=>by
  simp only[resT]at hr;split at hr
  ·rename_i hi;split at hr
   ·rename_i v ws hv hw;cases hr
    have key:∀k:Nat,k<n→fr[k]?=some (t.get k):=fun k hk=>(h.at_ k hk).1
    simp only[ct,lO,oQ h hw];have:=key a hi;rw[this];simp only[hv]
   ·cases hr
  ·cases hr
theorem evFunT_ok{call:cS}{fuel:Nat}{f:FuncId}{args:List V}{H:List B}{r:V×List B}(h:evFunT P T fuel call f args H=some r):evFun P T fuel call f args H=some r:=by
 unfold evFunT at h;unfold evFun
 cases hf:P.funcs[f]? with
 | none=>rw[hf]at h;cases h
 | some fn =>
  rw[hf]at h;simp only at h ⊢
  cases hb:fn.body with
  | none=>rw[hb]at h;cases h
  | some c =>
   rw[hb]at h;simp only at h ⊢;split at h
   ·rename_i hn;have hfr:=ofL_ok (n:=fn.ntmps) (d:=8) (l:=args) hn.2 hn.1
    cases h1:bS fn.ntmps 8 call T fuel c (ofL 8 args) H with
    | none=>rw[h1]at h;cases h
    | some q =>
     obtain⟨e,t1,H1⟩:=q;obtain⟨fr',g1,r1⟩:=cY hn.2 c _ _ _ _ _ _ hfr h1;rw[h1]at h;rw[g1]
     cases e with
     | normal =>
      simp only at h ⊢
      cases hv:resT T fn.ntmps t1 H1 fn.results.toList with
      | none=>rw[hv]at h;cases h
      | some vs=>rw[hv]at h;rw[oQ r1 hv];exact h
     | ret =>
      simp only at h ⊢
      cases hv:resT T fn.ntmps t1 H1 fn.results.toList with
      | none=>rw[hv]at h;cases h
      | some vs=>rw[hv]at h;rw[oQ r1 hv];exact h
     | _=>cases h
   ·cases h
theorem qG(hT:TOk P T)(hm:P.follows .mixedOrders=true)(hn:∀(f:Nat) (fn:Func),P.funcs[f]?=some fn→(fn.name == "runtime.NumGoroutine")=false){ext:bG}(he:ao P ext){fuel:Nat} : ∀d,iC P (mN P T ext fuel d)
 | 0=>fun fv args H r H' h=>by simp[mN]at h
 | d+1=>fun fv args H r H' h=>by
  simp only[mN]at h;split at h
  ·rename_i f caps;split at h
   ·rename_i r' hr;cases h;exact he _ _ _ _ _ hr
   ·exact evFun_ok hT hm hn (qG hT hm hn he d) (evFunT_ok h)
  ·cases h
theorem aH(hT:TOk P T)(hm:P.follows .mixedOrders=true)(hn:∀(f:Nat) (fn:Func),P.funcs[f]?=some fn→(fn.name == "runtime.NumGoroutine")=false){ext:bG}(hx:ao P ext){fuel d:Nat}{f:FuncId}{args:List V}{r':V}
  (h:(match mN P T ext fuel d (.fn f []) args [] with
   | some (r,H')=>(match exV H' 0 40 r with
    | some x=>eqV 40 x r'
    | none=>false)
   | none=>false)=true) (hp:Pure r'):aR P f args fun x=>x=r':=by
 split at h
 ·rename_i r H' hev;split at h
  ·rename_i x hex;have:=eP _ _ _ h;subst this;have h1:=qG hT hm hn hx d _ _ _ _ _ hev;simp only[aT,List.append_nil]at h1;have h2:=nS (G:=H') (d:=40) h1 hex;exact aC (h2.mono fun y z ⟨e1,e2⟩=>by subst e1;subst e2;exact⟨y,.pure y hp,hp,rfl⟩)
  ·cases h
 ·cases h
theorem ar{ext:bG}(he:ao P ext){g:FuncId}{ga:List V}{gr:V}(hc:aR P g ga fun x=>x=gr)(hq:∀a∈ga,Pure a):
  ao P (fun f args H=>if Nat.beq f g then(if eqL (eqV 40) args ga then some (gr,H) else ext f args H) else ext f args H):=fun f args H r H' h=>by
 simp only at h;split at h
 ·rename_i hf;have hf:=Nat.eq_of_beq_eq_true hf;split at h
  ·rename_i ha;have ha:=fH (eP 40) ha;cases h;subst ha;have hfg:f=g:=hf;subst hfg;have:=aF (H:=H) hc hq;simpa only[aT,List.append_nil] using this
  ·exact he f args H r H' h
 ·exact he f args H r H' h
end
end Go.AM
end
