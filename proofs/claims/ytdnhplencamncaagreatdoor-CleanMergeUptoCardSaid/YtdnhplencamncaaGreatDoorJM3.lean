/- JM3: own texts of this seat, joined and shortened by pack4.py: AMc. -/
import Derived.Test.YtdnhplencamncaaGreatDoorJM2
set_option linter.unusedVariables false
set_option linter.unusedSimpArgs false
set_option maxRecDepth 100000
set_option maxHeartbeats 64000000
open Array renaming getElem?_toList→pV,getElem?_append→pd,length_toList→ph,getElem?_setIfInBounds_ne→qJ,eq_empty_of_size_eq_zero→qd,replicate→qq,getElem?_replicate→qx,getElem?_map→qz,getD→rA,size_map→rp
open Bool renaming false_eq_true→oZ
open List renaming replicate→oE,getElem?_eq_getElem→oG,mem_of_getElem?→oH,getElem_mem→oI,drop_eq_getElem_cons→oK,getElem?_append_left→oL,range→oM,getElem?_set_ne→oQ,getElem?_append_right→oS,drop_of_length_le→oV,length_map→oW,getElem?_set_self→oX,take_length→oY,getElem?_map→oc,drop_zero→pC,getElem?_take→pD,getElem?_eq_none→pK,getElem?_drop→pP,mem_of_mem_take→pQ,eq_nil_of_length_eq_zero→pX,eq_of_mem_replicate→pi,mem_of_mem_drop→pq,getElem_range→qT,tail→rx
open Nat renaming le_refl→oJ,add_mul→ov,zero_add→pI,lt_or_ge→pS,strongRecOn→rK,sub_zero→rR
open Option renaming map_some→pB,map_eq_some_iff→po,getD_some→qG,bind_some→qe
section
namespace Go.AM
open Go
def eqA(T:Ty)(H:List B)(t:TypeId)(x y:V):Option Bool :=
 match T t with
 | none=>none
 | some i=>match i.desc,x,y with
  | .bool,.bool a,.bool b=>some (a == b)
  | .slice _,.nilS,.nilS=>some true
  | .slice _,.lst _ _ (_::_),.nilS=>some false
  | .slice _,.nilS,.lst _ _ (_::_)=>some false
  | .slice _,.buf k _ _ tot,.nilS=>match H[k]? with
   | some (.buf _ _ xs _)=>if xs.length=tot∧0<tot then some false else none
   | _=>none
  | .pointer _,.nilP,.nilP=>some true
  | .pointer _,.ptr _ _,.nilP=>some false
  | .pointer _,.nilP,.ptr _ _=>some false
  | .pointer _,.pin _ _,.nilP=>some false
  | .map _ _,.nilM,.nilM=>some true
  | .map _ _,.map _,.nilM=>some false
  | .func _ _ _,.nilFn,.nilFn=>some true
  | .func _ _ _,.fn _ _,.nilFn=>some false
  | _,_,_=>none
def eqFs(T:Ty)(f:TypeId→V→V→Option Bool)(xs ys:List V):List Field→Option Bool
 | []=>some true
 | fd::r=>if fd.name = "_" then none else match iX T fd.type xs fd.offset,iX T fd.type ys fd.offset with
  | some a,some b=>match f fd.type a b with
   | some true=>eqFs T f xs ys r
   | some false=>some false
   | none=>none
  | _,_=>none
def eqAr(T:Ty)(f:TypeId→V→V→Option Bool)(e z:Nat)(xs ys:List V):List Nat→Option Bool
 | []=>some true
 | i::r=>match iX T e xs (i*z),iX T e ys (i*z) with
  | some a,some b=>match f e a b with
   | some true=>eqAr T f e z xs ys r
   | some false=>some false
   | none=>none
  | _,_=>none
def eqD(T:Ty):Nat→TypeId→V→V→Option Bool
 | 0,_,_,_=>none
 | d+1,t,x,y=>match T t with
  | none=>none
  | some i=>match i.desc,x,y with
   | .bool,.bool a,.bool b=>some (a == b)
   | .int _,.int k a,.int k' b=>if k=k' then some (a == b) else none
   | .string,.str a,.str b=>some (a == b)
   | .struct fs,.agg xs,.agg ys=>if i.eq then eqFs T (eqD T d) xs ys fs.toList else none
   | .array n e,.agg xs,.agg ys=>if i.eq then(match T e with
    | some j=>eqAr T (eqD T d) e j.size xs ys (oM n)
    | none=>none) else none
   | _,_,_=>none
def eK(T:Ty)(H:List B)(t:TypeId)(x y:V):Option Bool :=
 match x,y with
 | .agg _,.agg _=>eqD T 10000 t x y
 | _,_=>eqA T H t x y
def binTA(T:Ty)(H:List B)(op:BinOp)(t:TypeId)(x y:V):Option V :=
 match binA op x y with
 | some r=>some r
 | none=>match op with
  | .eql=>(eK T H t x y).map .bool
  | .neq=>(eK T H t x y).map fun b=>.bool !b
  | _=>none
def convA(T:Ty)(dst:TypeId):V→Option V
 | .int _ n=>match T dst with
  | some i=>match i.desc with
   | .int k=>some (.int k (k.wrap n))
   | _=>none
  | none=>none
 | .str s=>match T dst with
  | some i=>match i.desc with
   | .string=>some (.str s)
   | _=>none
  | none=>none
 | _=>none
def kD(T:Ty)(H:List B)(b:Builtin)(args:List V)(ts:List TypeId):Option (V×List B):=
 match b,args,ts with
 | .len,[x],[t]=>(lenA T H t x).map (·,H)
 | .append,[x,y],[t,tx]=>mI T H t tx x y
 | .copy,[x,y],[t,tx]=>copyA T H t tx x y
 | .clear,[x],[t]=>clearA T H t x
 | .max,xs,_=>(go max2A xs).map (·,H)
 | .min,xs,_=>(go min2A xs).map (·,H)
 | _,_,_=>none
def bx(T:Ty)(t:TypeId)(op:BinOp)(x v:V)(y:Operand):Option Bool :=
 match y with
 | .const .nilIface=>match T t with
  | some i=>match i.desc with
   | .interface _=>match op,x,v with
    | .eql,.nilI,.nilI=>some true
    | .eql,.ifc,.nilI=>some false
    | .neq,.nilI,.nilI=>some false
    | .neq,.ifc,.nilI=>some true
    | _,_,_=>none
   | _=>none
  | none=>none
 | _=>none
def aop(T:Ty)(o:Go.Op)(ρ:Operand→V)(H:List B):Option (V×List B):=
 match o with
 | .move x | .assign x=>some (ρ x,H)
 | .pick c a b=>match ρ c with
  | .bool t=>some (if t then ρ a else ρ b,H)
  | _=>none
 | .alloc e=>allocA T H e
 | .box _ x=>boxA H (ρ x)
 | .build t parts=>(buildA T t (parts.toList.map fun p=>(p.1,ρ p.2))).map (·,H)
 | .buildSlice t len parts=>(fA T t len (parts.toList.map fun p=>(p.1,ρ p.2))).map (·,H)
 | .load t a=>(mt T H t (ρ a)).map (·,H)
 | .store t a x=>(storeA T H t (ρ a) (ρ x)).map (V.tup [],·)
 | .nilCheck x=>match ρ x with
  | .ptr k off=>some (.ptr k off,H)
  | .pin cs off=>some (.pin cs off,H)
  | .pbuf k i off tot=>some (.pbuf k i off tot,H)
  | .fn f caps=>some (.fn f caps,H)
  | _=>none
 | .binOp op t x y _=>match bx T t op (ρ x) (ρ y) y with
  | some b=>some (.bool b,H)
  | none=>(binTA T H op t (ρ x) (ρ y)).map (·,H)
 | .unOp op _ x=>(unA op (ρ x)).map (·,H)
 | .convert src dst x=>if(T src).isSome=true then(convA T dst (ρ x)).map (·,H) else none
 | .makeFunc fn first caps=>match fn with
  | .func f=>if first.size=0 then some (.fn f (caps.toList.map ρ),H) else none
  | _=>none
 | .makeMap t r=>match r with
  | none=>mn T H t
  | some _=>none
 | .makeSlice t l c=>makeA T H t (ρ l) (ρ c)
 | .slice t x lo hi mx=>(sliceA T H t (ρ x) (lo.map ρ) (hi.map ρ) (mx.map ρ)).map (·,H)
 | .fieldAddr st x f=>(gC T st f (ρ x)).map (·,H)
 | .field st x f=>(jo T st f (ρ x)).map (·,H)
 | .indexAddr t x ix=>(fy T H t (ρ x) (ρ ix)).map (·,H)
 | .index t x ix=>(indexA T t (ρ x) (ρ ix)).map (·,H)
 | .lookup t m k c=>(ln T H t (ρ m) (ρ k) c).map (·,H)
 | .mapUpdate t m k v=>(ef T H t (ρ m) (ρ k) (ρ v)).map (V.tup [],·)
 | .insert t m k v=>(ef T H t (ρ m) (ρ k) (ρ v)).map (V.tup [],·)
 | .extract t ix=>match ρ t with
  | .tup vs=>(vs[ix]?).map (·,H)
  | _=>none
 | .call c=>match c.callee with
  | .builtin b=>kD T H b (c.args.toList.map ρ) c.argTypes.toList
  | _=>none
 | _=>none
section
variable {P:Program} {T:Ty} {s:St}
def plainEq:Value→Bool
 | .bool _ | .slice .. | .pointer _ | .map _ | .func .. | .nilFunc=>true
 | _=>false
theorem ez{t:TypeId}{ux uy:Value}(h:plainEq ux=true)(op:BinOp)(ox oy:Operand):(eqGuard op t ox oy ux uy).run P s.w = .ok () s.w:=by
 have e:(match ux,uy with
   | .nilIface,.nilIface=>true
   | .agg _,.agg _=>true
   | _,_=>false)=false:=by cases ux<;>first | rfl | (simp[plainEq]at h)
 unfold eqGuard
 cases ux<;>simp only[plainEq]at h<;>first | (cases h;done) | (cases op<;>simp)
theorem iN(t:TypeId)(x y:Value):Op.equal t x y=Op.equalIn (9999+1) t x y:=rfl
theorem eq_sound(hT:TOk P T)(hg:Good s){t:TypeId}{x y:V}{ux uy:Value}{b:Bool}(hx:Rel s x ux)(hy:Rel s y uy)(h:eqA T s.H t x y=some b):
  (Op.equal t ux uy).run P s.w = .ok b s.w∧(∀(op:BinOp) ox oy,(eqGuard op t ox oy ux uy).run P s.w = .ok () s.w)∧
  binOp .eql t ux uy=(do pure (.bool (←Op.equal t ux uy)))∧binOp .neq t ux uy=(do pure (.bool (!(←Op.equal t ux uy)))):=by
 unfold eqA at h;split at h
 ·cases h
 ·rename_i i hi;have hu:=hT.und t i hi;generalize i.desc=d at hu h;rw[iN,Op.equalIn];split at h<;>(try (cases h;done))
  all_goals (first | (cases hx;cases hy;cases h;refine⟨?_,(fun op ox oy=>ez rfl op ox oy),rfl,rfl⟩;simp[run_underlying hu];done) | skip)
  ·cases hy;cases h
   cases hx with
   | lst _ _ _ A cap bb off u hcap hfull hA hz hcell hrel =>
    obtain⟨rfl,_⟩:=hA (by simp);exact⟨by simp[run_underlying hu],(fun op ox oy=>ez rfl op ox oy),rfl,rfl⟩
  ·cases hx;cases h
   cases hy with
   | lst _ _ _ A cap bb off u hcap hfull hA hz hcell hrel =>
    obtain⟨rfl,_⟩:=hA (by simp);exact⟨by simp[run_underlying hu],(fun op ox oy=>ez rfl op ox oy),rfl,rfl⟩
  ·cases hy
   cases hx with
   | buf _ _ _ _ e z xs fz A l c hk ht hh =>
    rw[hk]at h;simp only at h;split at h
    ·rename_i he;cases h;obtain⟨hA,_⟩:=hh he.1.symm;obtain⟨_,_,_,hk4,_⟩:=hg.blk _ _ hk;have hA:=hA (by omega);subst hA;exact⟨by simp[run_underlying hu],(fun op ox oy=>ez rfl op ox oy),rfl,rfl⟩
    ·cases h
theorem jl{α:Type}{w:World}{body:α→(Option Bool×Unit)→Sem (ForInStep ((Option Bool×Unit)))} : ∀{l:List α} {b:Bool} {bs:List Bool},l.length=bs.length→(∀(i:Nat) x c,l[i]?=some x→bs[i]?=some c→(∀j,j<i→bs[j]?=some true)→(body x (none,())).run P w = .ok (if c then .yield (none,()) else .done (some false,())) w)→b=bs.all id →
  (forIn l (none,()) body).run P w = .ok (if b then none else some false,()) w
 | [],b,[],_,_,hb=>by subst hb;simp
 | x::l,b,c::bs,hl,h,hb=>by
  have h0:=h 0 x c rfl rfl (fun j hj=>absurd hj (by omega));rw[List.forIn_cons];simp only[Sem.run_bind,h0,Result.andThen_ok]
  cases c with
  | false=>subst hb;simp
  | true =>
   have ih:=jl (l:=l) (bs:=bs) (b:=b) (by simpa using hl) (fun i y c hy hc hj=>h (i+1) y c (by simpa using hy) (by simpa using hc) (fun j hj'=>by
    cases j with
    | zero=>rfl
    | succ j=>simpa using hj j (by omega))) (by subst hb;simp)
   simpa using ih
theorem eqD_sound(hT:TOk P T):∀(d:Nat) {t:TypeId} {x y:V} {ux uy:Value} {b:Bool},Rel s x ux→Rel s y uy→eqD T d t x y=some b→(Op.equalIn d t ux uy).run P s.w = .ok b s.w
 | 0,t,x,y,ux,uy,b,hx,hy,h=>by simp[eqD]at h
 | d+1,t,x,y,ux,uy,b,hx,hy,h=>by
  have ih:=@eqD_sound hT d;simp only[eqD]at h;split at h
  ·cases h
  ·rename_i i hi;have hu:=hT.und t i hi;have heq:=hT.eq t i hi;generalize i.desc=de at hu h;rw[Op.equalIn];split at h
   ·cases hx;cases hy;cases h;simp[run_underlying hu]
   ·cases hx;cases hy;split at h
    ·rename_i hk;cases h;simp[run_underlying hu,hk]
    ·cases h
   ·cases hx;cases hy;cases h;simp[run_underlying hu]
   ·rename_i fs xs ys;split at h
    ·rename_i he
     cases hx with
     | agg _ us hl h1 hh =>
      cases hy with
      | agg _ vs hl2 h12 hh2 =>
       simp only[Sem.run_bind,run_underlying hu,Result.andThen_ok,run_program,(heq he).1,oZ,if_false,←Array.forIn_toList]
       have key:∃bs:List Bool,fs.toList.length=bs.length∧b=bs.all id∧∀(i:Nat) f c,fs.toList[i]?=some f→bs[i]?=some c→(∀j,j<i→bs[j]?=some true)→f.name≠ "_"∧∃ua ub,(part f.type us f.offset).run P s.w = .ok ua s.w∧(part f.type vs f.offset).run P s.w = .ok ub s.w∧(Op.equalIn d f.type ua ub).run P s.w = .ok c s.w:=by
        generalize fs.toList=l at h;clear hu heq
        induction l with
        | nil=>simp only[eqFs,Option.some.injEq]at h;exact⟨[],rfl,by simp[←h],by simp⟩
        | cons f l ihl =>
         simp only[eqFs]at h;split at h
         ·cases h
         ·rename_i hn;split at h
          ·rename_i a c ha hc;obtain⟨ua,p1,p2⟩:=dR (P:=P) hT hl h1 hh ha;obtain⟨ub,p3,p4⟩:=dR (P:=P) hT hl2 h12 hh2 hc;split at h
           ·rename_i hf;obtain⟨bs,k1,k2,k3⟩:=ihl h;refine⟨true::bs,by simp[k1],by simp[k2],fun i g c' hg hc' hj=>?_⟩
            cases i with
            | zero=>simp at hg hc';subst hg;subst hc';exact⟨hn,ua,ub,p1,p3,ih p2 p4 hf⟩
            | succ i=>exact k3 i g c' (by simpa using hg) (by simpa using hc') (fun j hj'=>by simpa using hj (j+1) (by omega))
           ·rename_i hf;cases h;refine⟨false::oE l.length false,by simp,by simp,fun i g c' hg hc' hj=>?_⟩
            cases i with
            | zero=>simp at hg hc';subst hg;subst hc';exact⟨hn,ua,ub,p1,p3,ih p2 p4 hf⟩
            | succ i=>have:=hj 0 (by omega);simp at this
           ·cases h
          ·cases h
       obtain⟨bs,k1,k2,k3⟩:=key;rw[jl (P:=P) (w:=s.w) k1 (fun i f c hf hc hj=>?_) k2]
       ·cases b<;>simp
       ·obtain⟨hn,ua,ub,p1,p2,p3⟩:=k3 i f c hf hc hj;simp only[ne_eq,hn,not_false_eq_true,if_true,Sem.run_bind,p1,p2,p3,Result.andThen_ok];cases c<;>simp
    ·cases h
   ·rename_i n e xs ys;split at h
    ·rename_i he;split at h
     ·rename_i j hj
      cases hx with
      | agg _ us hl h1 hh =>
       cases hy with
       | agg _ vs hl2 h12 hh2 =>
        simp only[Sem.run_bind,run_underlying hu,Result.andThen_ok,run_sizeOf hT hj,Std.Legacy.Range.forIn_eq_forIn_range']
        have key:∃bs:List Bool,(oM n).length=bs.length∧b=bs.all id∧∀(i:Nat) f c,(oM n)[i]?=some f→bs[i]?=some c→(∀j,j<i→bs[j]?=some true)→∃ua ub,(part e us (f*j.size)).run P s.w = .ok ua s.w∧(part e vs (f*j.size)).run P s.w = .ok ub s.w∧(Op.equalIn d e ua ub).run P s.w = .ok c s.w:=by
         generalize oM n=l at h;clear hu heq
         induction l with
         | nil=>simp only[eqAr,Option.some.injEq]at h;exact⟨[],rfl,by simp[←h],by simp⟩
         | cons f l ihl =>
          simp only[eqAr]at h;split at h
          ·rename_i a c ha hc;obtain⟨ua,p1,p2⟩:=dR (P:=P) hT hl h1 hh ha;obtain⟨ub,p3,p4⟩:=dR (P:=P) hT hl2 h12 hh2 hc;split at h
           ·rename_i hf;obtain⟨bs,k1,k2,k3⟩:=ihl h;refine⟨true::bs,by simp[k1],by simp[k2],fun i g c' hg hc' hj=>?_⟩
            cases i with
            | zero=>simp at hg hc';subst hg;subst hc';exact⟨ua,ub,p1,p3,ih p2 p4 hf⟩
            | succ i=>exact k3 i g c' (by simpa using hg) (by simpa using hc') (fun j hj'=>by simpa using hj (j+1) (by omega))
           ·rename_i hf;cases h;refine⟨false::oE l.length false,by simp,by simp,fun i g c' hg hc' hj=>?_⟩
            cases i with
            | zero=>simp at hg hc';subst hg;subst hc';exact⟨ua,ub,p1,p3,ih p2 p4 hf⟩
            | succ i=>have:=hj 0 (by omega);simp at this
           ·cases h
          ·cases h
        obtain⟨bs,k1,k2,k3⟩:=key
        have hr:List.range' 0 n 1=oM n:=by rw[List.range_eq_range']
        simp only[Std.Legacy.Range.size,rR,Nat.add_sub_cancel,Nat.div_one,hr];rw[jl (P:=P) (w:=s.w) k1 (fun i f c hf hc hj=>?_) k2]
        ·cases b<;>simp
        ·obtain⟨ua,ub,p1,p2,p3⟩:=k3 i f c hf hc hj;simp only[Sem.run_bind,p1,p2,p3,Result.andThen_ok];cases c<;>simp
     ·cases h
    ·cases h
   ·cases h
theorem eqD_top(hT:TOk P T){t:TypeId}{xs ys:List V}{b:Bool}(h:eqD T 10000 t (.agg xs) (.agg ys)=some b):P.eqGuardType P.depth t=false:=by
 rw[show(10000:Nat)=9999+1 from rfl,eqD]at h;split at h
 ·cases h
 ·rename_i i hi;have heq:=hT.eq t i hi;split at h
  ·rename_i e1 e2;cases e1
  ·rename_i e1 e2;cases e1
  ·rename_i e1 e2;cases e1
  ·split at h
   ·rename_i he;exact(heq he).2
   ·cases h
  ·split at h
   ·rename_i he;exact(heq he).2
   ·cases h
  ·cases h
theorem eq2_sound(hT:TOk P T)(hg:Good s){t:TypeId}{x y:V}{ux uy:Value}{b:Bool}(hx:Rel s x ux)(hy:Rel s y uy)(h:eK T s.H t x y=some b):
  (Op.equal t ux uy).run P s.w = .ok b s.w∧(∀(op:BinOp) ox oy,(eqGuard op t ox oy ux uy).run P s.w = .ok () s.w)∧
  binOp .eql t ux uy=(do pure (.bool (←Op.equal t ux uy)))∧binOp .neq t ux uy=(do pure (.bool (!(←Op.equal t ux uy)))):=by
 unfold eK at h;split at h
 ·have h1:=eqD_sound (P:=P) hT 10000 hx hy h;have h2:=eqD_top (P:=P) hT h;cases hx;cases hy;refine⟨h1,fun op ox oy=>?_,rfl,rfl⟩;unfold eqGuard;cases op<;>simp[run_program,h2]
 ·exact eq_sound hT hg hx hy h
theorem binT_sound(hT:TOk P T)(hg:Good s){op:BinOp}{t:TypeId}{x y r:V}{ux uy:Value}{ox oy:Operand}(hx:Rel s x ux)(hy:Rel s y uy)(h:binTA T s.H op t x y=some r):
  ∃u,(do eqGuard op t ox oy ux uy;binOp op t ux uy:Sem Value).run P s.w = .ok u s.w∧Rel s r u:=by
 unfold binTA at h;split at h
 ·rename_i r' hr;cases h;exact bin_sound hx hy hr
 ·split at h
  ·cases hb:eK T s.H t x y with
   | none=>rw[hb]at h;cases h
   | some b =>
    rw[hb]at h;cases h;obtain⟨k1,k2,k3,k4⟩:=eq2_sound (P:=P) hT hg hx hy hb;exact⟨.bool b,by simp only[Sem.run_bind,k2,Result.andThen_ok,k3,k1,Sem.run_pure],.bool _⟩
  ·cases hb:eK T s.H t x y with
   | none=>rw[hb]at h;cases h
   | some b =>
    rw[hb]at h;cases h;obtain⟨k1,k2,k3,k4⟩:=eq2_sound (P:=P) hT hg hx hy hb;exact⟨.bool !b,by simp only[Sem.run_bind,k2,Result.andThen_ok,k4,k1,Sem.run_pure],.bool _⟩
  ·cases h
theorem conv_sound(hT:TOk P T){src dst:TypeId}{x r:V}{ux:Value}(hx:Rel s x ux)(h:convA T dst x=some r)(hs:∃i,T src=some i):∃u,(convert src dst ux).run P s.w = .ok u s.w∧Rel s r u:=by
 obtain⟨i,hi⟩:=hs;have hus:=hT.und src i hi
 cases hx<;>simp only[convA]at h<;>try (cases h;done)
 case int k n =>
  split at h
  ·rename_i j hj;have hu:=hT.und dst j hj;split at h
   ·rename_i k' hd;rw[hd]at hu;cases h;exact⟨.int k' (k'.wrap n),by simp[convert,run_underlying hus,run_underlying hu,Conv.intToInt],.int _ _⟩
   ·cases h
  ·cases h
 case str st =>
  split at h
  ·rename_i j hj;have hu:=hT.und dst j hj;split at h
   ·rename_i hd;rw[hd]at hu;cases h;exact⟨.string st,by simp[convert,run_underlying hus,run_underlying hu],.str _⟩
   ·cases h
  ·cases h
end
end Go.AM
namespace Go.AM
open Go
def cA(P:Program)(s:St)(v:V)(H':List B)(x:Sem Next):Prop :=
 ∃nx s',x.run P s.w = .ok nx s'.w∧s'.H=H'∧Good s'∧Step s s'∧((∃u,nx = .value u∧Rel s' v u)∨(nx = .skip∧v = .tup []))
section
variable {P:Program} {T:Ty} {s:St}
theorem cA.pure_(hg:Good s){v:V}{x:Sem Value}(h:∃u,x.run P s.w = .ok u s.w∧Rel s v u):cA P s v s.H (do Pure.pure (.value (←x))):=by
 obtain⟨u,h1,h2⟩:=h;exact⟨.value u,s,by simp[h1],rfl,hg,Step.refl s,.inl ⟨u,rfl,h2⟩⟩
theorem cA.val{v:V}{H':List B}{x:Sem Value}(h:∃u s',x.run P s.w = .ok u s'.w∧s'.H=H'∧Good s'∧Step s s'∧Rel s' v u):cA P s v H' (do Pure.pure (.value (←x))):=by
 obtain⟨u,s',h1,h2,h3,h4,h5⟩:=h;exact⟨.value u,s',by simp[h1],h2,h3,h4,.inl ⟨u,rfl,h5⟩⟩
theorem cA.unit{H':List B}{x:Sem Unit}(h:∃s',x.run P s.w = .ok () s'.w∧s'.H=H'∧Good s'∧Step s s'):cA P s (.tup []) H' (do x;Pure.pure .skip):=by
 obtain⟨s',h1,h2,h3,h4⟩:=h;exact⟨.skip,s',by simp[h1],h2,h3,h4,.inr ⟨rfl,rfl⟩⟩
theorem cA.here(hg:Good s){v:V}{u:Value}(h:Rel s v u):cA P s v s.H (Pure.pure (.value u)):=⟨.value u,s,by simp,rfl,hg,Step.refl s,.inl ⟨u,rfl,h⟩⟩
theorem mb{ρ:Operand→V}{ρc:Operand→Value}(hρ:∀x,Rel s (ρ x) (ρc x))(x:Option Operand):gz s (x.map ρ) (x.map ρc):=by
 cases x with
 | none=>trivial
 | some x=>exact hρ x
theorem ap{α:Type}{x:Option α}{H H':List B}{v:α}(h:x.map (fun a=>(a,H))=some (v,H')):x=some v∧H=H':=by
 cases x with
 | none=>cases h
 | some a=>cases h;exact⟨rfl,rfl⟩
theorem kY{x:Option (List B)}{v w:V}{H':List B}(h:x.map (fun a=>(w,a))=some (v,H')):x=some H'∧w=v:=by
 cases x with
 | none=>cases h
 | some a=>cases h;exact⟨rfl,rfl⟩
theorem ifc_guard{t:TypeId}{x:Value}(op:BinOp)(ox:Operand):(eqGuard op t ox (.const .nilIface) x .nilIface).run P s.w = .ok () s.w:=by
 unfold eqGuard;cases op<;>cases x<;>simp
theorem lr{t:TypeId}{x:Value}{ox:Operand}{b:Bool}(he:(Op.equal t x .nilIface).run P s.w = .ok b s.w)(h1:binOp .eql t x .nilIface=(do Pure.pure (.bool (←Op.equal t x .nilIface))))(h2:binOp .neq t x .nilIface=(do Pure.pure (.bool (!(←Op.equal t x .nilIface))))):
  (do eqGuard .eql t ox (.const .nilIface) x .nilIface;binOp .eql t x .nilIface:Sem Value).run P s.w = .ok (.bool b) s.w ∧
  (do eqGuard .neq t ox (.const .nilIface) x .nilIface;binOp .neq t x .nilIface:Sem Value).run P s.w = .ok (.bool !b) s.w:=by
 constructor
 ·simp only[Sem.run_bind,ifc_guard,Result.andThen_ok,h1,he,Sem.run_pure]
 ·simp only[Sem.run_bind,ifc_guard,Result.andThen_ok,h2,he,Sem.run_pure]
theorem nilCmp_sound(hT:TOk P T){op:BinOp}{t:TypeId}{x v:V}{ux uy:Value}{ox y:Operand}{b:Bool}(hx:Rel s x ux)(hy:Rel s v uy)(h:bx T t op x v y=some b):
  ∃u,(do eqGuard op t ox y ux uy;binOp op t ux uy:Sem Value).run P s.w = .ok u s.w∧Rel s (.bool b) u:=by
 unfold bx at h;split at h
 ·split at h
  ·rename_i i hi;have hu:=hT.und t i hi;split at h
   ·rename_i ms hd;rw[hd]at hu
    have e1:(Op.equal t .nilIface .nilIface).run P s.w = .ok true s.w:=by
     rw[iN,Op.equalIn];simp[run_underlying hu]
    have e2:∀t' v',(Op.equal t (.iface t' v') .nilIface).run P s.w = .ok false s.w:=fun t' v'=>by
     rw[iN,Op.equalIn];simp[run_underlying hu]
    split at h
    ·cases h;cases hx;cases hy;exact⟨_,(lr e1 rfl rfl).1,.bool _⟩
    ·cases h;cases hx;cases hy;exact⟨_,(lr (e2 _ _) rfl rfl).1,.bool _⟩
    ·cases h;cases hx;cases hy;exact⟨_,(lr e1 rfl rfl).2,.bool _⟩
    ·cases h;cases hx;cases hy;exact⟨_,(lr (e2 _ _) rfl rfl).2,.bool _⟩
    ·cases h
   ·cases h
  ·cases h
 ·cases h
theorem fg(hT:TOk P T)(hg:Good s){ρ:Operand→V}{ρc:Operand→Value}(hρ:∀x,Rel s (ρ x) (ρc x)){o:Oper}{v:V}{H':List B}(h:aop T o.op ρ s.H=some (v,H')):cA P s v H' (execOp ρc o):=by
 unfold execOp;generalize o.op=op at h ⊢
 have parts:∀(ps:Array (Nat×Operand)),(ps.toList.map fun p=>(p.1,ρ p.2)).length=(ps.map fun(i,x)=>(i,ρc x)).size ∧
   ∀(i:Nat) p u,(ps.toList.map fun p=>(p.1,ρ p.2))[i]?=some p→(ps.map fun(i,x)=>(i,ρc x))[i]?=some u→p.1=u.1∧Rel s p.2 u.2:=fun ps=>by
  refine⟨by simp,fun i p u hp hu=>?_⟩;simp only[oc,pV,po]at hp;obtain⟨q,hq,rfl⟩:=hp;simp only[qz,hq,pB,Option.some.injEq]at hu;subst hu;exact⟨rfl,hρ _⟩
 cases op with
 | move x=>cases h;exact cA.here hg (hρ x)
 | assign x=>cases h;exact cA.here hg (hρ x)
 | pick c a b =>
  simp only[aop]at h;have hc:=hρ c;generalize ρ c=vc at h hc
  cases vc<;>simp only at h<;>try (cases h;done)
  cases h;rename_i t
  have hc':ρc c = .bool t:=by generalize ρc c=uc at hc;cases hc;rfl
  refine⟨.value (if t then ρc a else ρc b),s,by simp[hc',asBool],rfl,hg,Step.refl s,.inl ⟨_,rfl,?_⟩⟩;cases t
  ·exact hρ b
  ·exact hρ a
 | alloc e=>exact cA.val (alloc_sound hT hg h)
 | box e x=>exact cA.val (box_sound hg (hρ x) h)
 | build t ps =>
  obtain⟨h',rfl⟩:=ap h;exact cA.pure_ hg (build_sound hT (parts ps).1 (parts ps).2 h')
 | buildSlice t len ps =>
  obtain⟨h',rfl⟩:=ap h;exact cA.val (kq hT hg (parts ps).1 (parts ps).2 h')
 | load t a =>
  obtain⟨h',rfl⟩:=ap h;exact cA.pure_ hg (mq hT hg (hρ a) h')
 | store t a x =>
  obtain⟨h',rfl⟩:=kY h;exact cA.unit (store_sound hT hg (hρ a) (hρ x) h')
 | nilCheck x =>
  simp only[aop]at h;have hx:=hρ x;generalize ρ x=vx at h hx;simp only;generalize ρc x=ux at hx
  cases hx<;>simp only at h<;>try (cases h;done)
  case ptr k off cs hk=>cases h;exact cA.here hg (.ptr k off cs hk)
  case pin cs off b o u a1 a2 a3 a4=>cases h;exact cA.here hg (.pin cs off b o u a1 a2 a3 a4)
  case pbuf k i off tot e z xs fz p a1 a2 a3=>cases h;exact cA.here hg (.pbuf k i off tot e z xs fz p a1 a2 a3)
  case fn f caps us a1 a2=>cases h;exact cA.here hg (.fn f caps us a1 a2)
 | binOp op t x y ty =>
  simp only[aop]at h
  cases hn:bx T t op (ρ x) (ρ y) y with
  | some b =>
   rw[hn]at h;cases h;exact cA.pure_ hg (nilCmp_sound hT (hρ x) (hρ y) hn)
  | none =>
   rw[hn]at h;obtain⟨h',rfl⟩:=ap h;exact cA.pure_ hg (binT_sound hT hg (hρ x) (hρ y) h')
 | unOp op t x =>
  obtain⟨h',rfl⟩:=ap h;exact cA.pure_ hg (un_sound (hρ x) h')
 | convert src dst x =>
  simp only[aop]at h;split at h
  ·rename_i hs;obtain⟨h',rfl⟩:=ap h;exact cA.pure_ hg (conv_sound hT (hρ x) h' (Option.isSome_iff_exists.1 hs))
  ·cases h
 | makeFunc fn first caps =>
  cases fn<;>simp only[aop]at h<;>try (cases h;done)
  rename_i f;split at h
  ·rename_i h0;cases h
   have:first = #[]:=qd h0
   subst this;refine cA.pure_ hg ⟨.func (.func f) #[] (caps.map ρc),by simp[Instr.makeFunc],.fn f _ _ (by simp) (fun i c u hc hu=>?_)⟩;simp only[oc,pV,po]at hc;obtain⟨q,hq,rfl⟩:=hc;simp only[qz,hq,pB,Option.some.injEq]at hu;subst hu;exact hρ _
  ·cases h
 | makeMap t r =>
  cases r with
  | some x=>simp[aop]at h
  | none =>
   simp only[aop,mn]at h;split at h
   ·rename_i kk e hk;exact cA.val (makeMap_sound hg h)
   ·cases h
 | makeSlice t l c=>exact cA.val (make_sound hT hg (hρ l) (hρ c) h)
 | slice t x lo hi mx =>
  obtain⟨h',rfl⟩:=ap h;exact cA.pure_ hg (slice_sound hT hg (hρ x) (mb hρ lo) (mb hρ hi) (mb hρ mx) h')
 | fieldAddr st x f =>
  obtain⟨h',rfl⟩:=ap h;exact cA.pure_ hg (lS hT (hρ x) h')
 | field st x f =>
  obtain⟨h',rfl⟩:=ap h;exact cA.pure_ hg (field_sound hT (hρ x) h')
 | indexAddr t x ix =>
  obtain⟨h',rfl⟩:=ap h;exact cA.pure_ hg (lR hT hg (hρ x) (hρ ix) h')
 | index t x ix =>
  obtain⟨h',rfl⟩:=ap h;exact cA.pure_ hg (index_sound hT (hρ x) (hρ ix) h')
 | lookup t m k c =>
  obtain⟨h',rfl⟩:=ap h;exact cA.pure_ hg (lookup_sound hT hg (hρ m) (hρ k) h')
 | mapUpdate t m k x =>
  obtain⟨h',rfl⟩:=kY h;exact cA.unit (gQ hT hg (hρ m) (hρ k) (hρ x) h')
 | insert t m k x =>
  obtain⟨h',rfl⟩:=kY h;exact cA.unit (gQ hT hg (hρ m) (hρ k) (hρ x) h')
 | extract t ix =>
  simp only[aop]at h;have ht:=hρ t;generalize ρ t=vt at h ht;simp only;generalize ρc t=ut at ht
  cases ht<;>simp only at h<;>try (cases h;done)
  case tup vs us hl hr =>
   obtain⟨h',rfl⟩:=ap h;have hi:=aB h'
   have e:us[ix]?=some (us[ix]'(by omega)):=by simp[hl,hi]
   exact cA.pure_ hg ⟨us[ix]'(by omega),by simp[Instr.extract,e],hr ix v _ h' e⟩
 | call c =>
  obtain⟨callee,args,ats⟩:=c
  cases callee<;>simp only[aop]at h<;>try (cases h;done)
  rename_i b;simp only[resolve]
  have hargs:∀(i:Nat) (y:V) (u:Value),(args.toList.map ρ)[i]?=some y→(args.map ρc)[i]?=some u→Rel s y u:=fun i y u hy hu=>by
   simp only[oc,pV,po]at hy;obtain⟨q,hq,rfl⟩:=hy;simp only[qz,hq,pB,Option.some.injEq]at hu;subst hu;exact hρ _
  unfold kD at h;split at h
  ·rename_i x t e1 e2;obtain⟨h',rfl⟩:=ap h
   obtain⟨a0,rfl⟩:∃a0,args = #[a0]:=by
    match args,e1 with
    | ⟨[a0]⟩,_=>exact⟨a0,rfl⟩
    | ⟨[]⟩,e1=>simp at e1
    | ⟨_::_::_⟩,e1=>simp at e1
   obtain rfl:ats = #[t]:=by cases ats;simp at e2;simp[e2]
   simp at e1;subst e1;obtain⟨u,k1,k2⟩:=len_sound (P:=P) (ty:=o.type) hT hg (hρ a0) h';exact⟨.value u,s,by simp[invoke,builtin,k1],rfl,hg,Step.refl s,.inl ⟨u,rfl,k2⟩⟩
  ·rename_i x y t tx e1 e2
   obtain⟨a0,a1,rfl⟩:∃a0 a1,args = #[a0,a1]:=by
    match args,e1 with
    | ⟨[a0,a1]⟩,_=>exact⟨a0,a1,rfl⟩
    | ⟨[]⟩,e1=>simp at e1
    | ⟨[_]⟩,e1=>simp at e1
    | ⟨_::_::_::_⟩,e1=>simp at e1
   obtain rfl:ats = #[t,tx]:=by cases ats;simp at e2;simp[e2]
   simp at e1;obtain⟨rfl,rfl⟩:=e1;obtain⟨u,s',k1,k2,k3,k4,k5⟩:=append_sound (P:=P) (ty:=o.type) hT hg (hρ a0) (hρ a1) h;exact⟨.value u,s',by simp[invoke,builtin,k1],k2,k3,k4,.inl ⟨u,rfl,k5⟩⟩
  ·rename_i x y t tx e1 e2
   obtain⟨a0,a1,rfl⟩:∃a0 a1,args = #[a0,a1]:=by
    match args,e1 with
    | ⟨[a0,a1]⟩,_=>exact⟨a0,a1,rfl⟩
    | ⟨[]⟩,e1=>simp at e1
    | ⟨[_]⟩,e1=>simp at e1
    | ⟨_::_::_::_⟩,e1=>simp at e1
   obtain rfl:ats = #[t,tx]:=by cases ats;simp at e2;simp[e2]
   simp at e1;obtain⟨rfl,rfl⟩:=e1;obtain⟨u,s',k1,k2,k3,k4,k5⟩:=copy_sound (P:=P) (ty:=o.type) hT hg (hρ a0) (hρ a1) h;exact⟨.value u,s',by simp[invoke,builtin,k1],k2,k3,k4,.inl ⟨u,rfl,k5⟩⟩
  ·rename_i x t e1 e2
   obtain⟨a0,rfl⟩:∃a0,args = #[a0]:=by
    match args,e1 with
    | ⟨[a0]⟩,_=>exact⟨a0,rfl⟩
    | ⟨[]⟩,e1=>simp at e1
    | ⟨_::_::_⟩,e1=>simp at e1
   obtain rfl:ats = #[t]:=by cases ats;simp at e2;simp[e2]
   simp at e1;subst e1;obtain⟨u,s',k1,k2,k3,k4,k5⟩:=clear_sound (P:=P) (ty:=o.type) hT hg (hρ a0) h;exact⟨.value u,s',by simp[invoke,builtin,k1],k2,k3,k4,.inl ⟨u,rfl,k5⟩⟩
  ·obtain⟨h',rfl⟩:=ap h;clear h
   obtain⟨u,k1,k2⟩:∃u,(Builtin.max_ ats o.type (args.map ρc)).run P s.w = .ok u s.w∧Rel s v u:=by
    match args,h',hargs with
    | ⟨[]⟩,h,_=>simp[go]at h
    | ⟨a0::rest⟩,h,hargs =>
     obtain⟨u,k1,k2⟩:=iu (P:=P) (g:=Builtin.max2) (fun hx hy hh=>max2_sound hx hy hh) (ys:=rest.map ρ) (uys:=rest.map ρc) (hρ a0) (by simp) (fun i y u hy hu=>by
      simp only[oc,po]at hy;obtain⟨q,hq,rfl⟩:=hy;simp only[oc,hq,pB,Option.some.injEq]at hu
      subst hu;exact hρ _) h
     exact⟨u,by simpa[Builtin.max_] using k1,k2⟩
   exact⟨.value u,s,by simp[invoke,builtin,k1],rfl,hg,Step.refl s,.inl ⟨u,rfl,k2⟩⟩
  ·obtain⟨h',rfl⟩:=ap h;clear h
   obtain⟨u,k1,k2⟩:∃u,(Builtin.min_ ats o.type (args.map ρc)).run P s.w = .ok u s.w∧Rel s v u:=by
    match args,h',hargs with
    | ⟨[]⟩,h,_=>simp[go]at h
    | ⟨a0::rest⟩,h,hargs =>
     obtain⟨u,k1,k2⟩:=iu (P:=P) (g:=Builtin.min2) (fun hx hy hh=>min2_sound hx hy hh) (ys:=rest.map ρ) (uys:=rest.map ρc) (hρ a0) (by simp) (fun i y u hy hu=>by
      simp only[oc,po]at hy;obtain⟨q,hq,rfl⟩:=hy;simp only[oc,hq,pB,Option.some.injEq]at hu
      subst hu;exact hρ _) h
     exact⟨u,by simpa[Builtin.min_] using k1,k2⟩
   exact⟨.value u,s,by simp[invoke,builtin,k1],rfl,hg,Step.refl s,.inl ⟨u,rfl,k2⟩⟩
  ·cases h
 | _=>simp[aop]at h
end
end Go.AM
namespace Go.AM
open Go
structure FRel (s:St) (fr:List V) (tmps:Array Value):Prop where
 len:tmps.size=fr.length
 rel:∀(i:Nat) v u,fr[i]?=some v→tmps[i]?=some u→Rel s v u
def ak(fr:List V)(d:Option Tmp)(v:V):List V :=
 match d with
 | some t=>fr.set t v
 | none=>fr
def fB:List Int:=[0,1,28,2,29,14,24,3,30,22,20,15,25,17,4,8,31,27,13,23,21,19,16,7,26,12,18,6,11,5,10,9]
def bitsC(cs:Array Value):Prop:=∀(i:Nat) x,fB[i]?=some x→cs[i]?=some (.int .u8 x)
def gLib:List (String×(Array Value→Prop)):=[("math/bits.deBruijn32tab",bitsC)]
def GOk(P:Program)(s:St):Prop:=∀e∈gLib,∀g,P.globalNamed e.1=some g→s.Prot g∧∃cs t m,s.w.heap[g]?=some (.cells cs t m)∧e.2 cs
theorem GOk.of{P:Program}{s s':St}(h:GOk P s)(hp:∀b,s.Prot b→s'.Prot b∧s'.w.heap[b]?=s.w.heap[b]?):GOk P s':=fun e he g hg=>by
 obtain⟨h1,cs,t,m,h2,h3⟩:=h e he g hg;obtain⟨h4,h5⟩:=hp g h1;exact⟨h4,cs,t,m,h5.trans h2,h3⟩
theorem GOk.step{P:Program}{s s':St}(h:GOk P s)(hs:Step s s'):GOk P s':=h.of fun _ hb=>hs.prot hb
theorem GOk.bits{P:Program}{s:St}(h:GOk P s):∀g,P.globalNamed "math/bits.deBruijn32tab" = some g→s.Prot g∧∀(i:Nat) x,fB[i]?=some x→s.w.cell? ⟨g,i,none⟩=some (.int .u8 x):=fun g hg=>by
 obtain⟨h1,cs,t,m,h2,h3⟩:=h ("math/bits.deBruijn32tab",bitsC) (by simp[gLib]) g hg;exact⟨h1,fun i x hx=>by simp[World.cell?,h2,h3 i x hx]⟩
def At(P:Program)(s:St)(H:List B):Prop:=s.H=H∧GOk P s
def aU(P:Program)(f:FuncId)(args:List V)(H:List B)(K:V→List B→Prop):Prop :=
 (∃fn,P.funcs[f]?=some fn∧fn.body.isSome=true∧(fn.name == "runtime.NumGoroutine")=false)∧
 ∀(s:St) (vals:Array Value),At P s H→Good s→vals.size=args.length→(∀(i:Nat) a u,args[i]?=some a→vals[i]?=some u→Rel s a u)→
  Calls P f vals s.w fun e w'=>∃u s' r,e = .returned u∧s'.w=w'∧Good s'∧Step s s'∧Rel s' r u∧K r s'.H
theorem aU.mono{P:Program}{f:FuncId}{args:List V}{H:List B}{K K':V→List B→Prop}(h:aU P f args H K)(hk:∀r H',K r H'→K' r H'):aU P f args H K' :=
 ⟨h.1,fun s vals h1 h2 h3 h4=>(h.2 s vals h1 h2 h3 h4).mono fun _ _ ⟨u,s',r,a,b,c,d,e,g⟩=>⟨u,s',r,a,b,c,d,e,hk _ _ g⟩⟩
def bA(ops:Array Oper)(fr:List V)(o:Oper):Option Bool :=
 match o.guard with
 | none=>some true
 | some (j,want)=>match ops[j]? with
  | some oj=>match oj.dst with
   | some d=>match fr[d]? with
    | some (.bool b)=>some (b == want)
    | some (.tup _)=>some false
    | _=>none
   | none=>none
  | none=>none
def aj:Go.Op→Option (Operand×List Operand)
 | .call c=>match c.callee with
  | .value f=>some (f,c.args.toList)
  | _=>none
 | _=>none
def aL(P:Program)(fv:V)(args:List V)(H:List B)(K:V→List B→Prop):Prop :=
 match fv with
 | .fn f caps=>aU P f (args++caps) H K
 | _=>False
theorem aL.mono{P:Program}{fv:V}{args:List V}{H:List B}{K K':V→List B→Prop}(h:aL P fv args H K)(hk:∀r H',K r H'→K' r H'):aL P fv args H K':=by
 cases fv<;>simp only[aL]at h ⊢;exact h.mono hk
def fi(T:Ty)(ops:Array Oper)(C:V→List V→List B→(V→List B→Prop)→Prop)(K:List V→List B→Prop):List Oper→List V→List B→Prop
 | [],fr,H=>K fr H
 | o::rest,fr,H =>
  match bA ops fr o with
  | some true=>match aj o.op with
   | some (f,args)=>C (aO fr f) (args.map (aO fr)) H fun r H'=>fi T ops C K rest (ak fr o.dst r) H'
   | none=>match aop T o.op (aO fr) H with
    | some (v,H')=>fi T ops C K rest (ak fr o.dst v) H'
    | none=>False
  | some false=>fi T ops C K rest (ak fr o.dst (.tup [])) H
  | none=>False
def gL(s:St)(Q:Exit→List V→List B→Prop)(e:Exit)(a:Act)(w:World):Prop :=
 ∃fr s',s'.w=w∧Good s'∧Step s s'∧FRel s' fr a.tmps∧a.defers=[]∧Q e fr s'.H
def W(P:Program)(c:Code)(Q:Exit→List V→List B→Prop)(fr:List V)(H:List B):Prop :=
 ∀(s:St) (a:Act),At P s H→Good s→FRel s fr a.tmps→a.defers=[]→c.wp P (gL s Q) a s.w
section
variable {P:Program} {T:Ty} {s:St}
theorem FRel.step{s':St}(hs:Step s s'){fr:List V}{tmps:Array Value}(h:FRel s fr tmps):FRel s' fr tmps:=⟨h.len,fun i v u a b=>(h.rel i v u a b).step hs⟩
theorem FRel.put{fr:List V}{a:Act}(h:FRel s fr a.tmps){v:V}{u:Value}(hv:Rel s v u)(d:Option Tmp):FRel s (ak fr d v) (a.put d u).tmps:=by
 cases d with
 | none=>exact h
 | some t =>
  refine⟨by simp[ak,Act.put,h.len],fun i x y hx hy=>?_⟩;simp only[ak]at hx;simp only[Act.put]at hy;by_cases hi:i=t
  ·subst hi;have hl:=aB hx;simp at hl;rw[oX hl]at hx
   have:i<a.tmps.size:=by have:=h.len;omega
   simp[this]at hy;cases hx;subst hy;exact hv
  ·rw[oQ (Ne.symm hi)]at hx;rw[qJ (Ne.symm hi)]at hy;exact h.rel i x y hx hy
theorem eW(a:Act)(d:Option Tmp)(u:Value):(a.put d u).defers=a.defers:=by cases d<;>rfl
theorem FRel.eval{fr:List V}{a:Act}(h:FRel s fr a.tmps)(x:Operand):Rel s (aO fr x) (a.eval x):=by
 cases x with
 | tmp t =>
  simp only[aO,Act.eval]
  have key:∀n:Nat,Rel s (fr[n]?.getD .undef) (a.tmps.getD n undef):=fun n=>by
   by_cases ht:n<fr.length
   ·have hl:n<a.tmps.size:=by rw[h.len];exact ht
    have e1:fr[n]?=some fr[n]:=oG ht
    have e2:a.tmps[n]?=some a.tmps[n]:=by simp[hl]
    rw[e1,qG];have:=h.rel n _ _ e1 e2;simpa[rA,hl] using this
   ·rw[pK (by omega)];exact .undef _
  exact key t
 | const v =>
  simp only[aO,Act.eval]
  cases hv:gh v with
  | none=>exact .undef _
  | some x=>exact bu hv
 | global g=>exact .undef _
 | func f=>exact .fn f [] #[] rfl (fun i c u hc=>by simp at hc)
theorem dO{ops:Array Oper}{fr:List V}{a:Act}(h:FRel s fr a.tmps){o:Oper}{b:Bool}(hw:bA ops fr o=some b):Region.wanted o (yielded ops a.tmps)=b:=by
 unfold bA at hw;unfold Region.wanted;split at hw
 ·rename_i hg;cases hw;rw[hg]
 ·rename_i j want hg;rw[hg];simp only;split at hw
  ·rename_i oj hj;split at hw
   ·rename_i d hd
    have hrel:∀v,fr[d]?=some v→∃u,a.tmps[d]?=some u∧Rel s v u:=fun v hv=>by
     have hl:=aB hv
     have e2:a.tmps[d]?=some (a.tmps[d]'(by have:=h.len;omega)):=by have:=h.len;simp[this,hl]
     exact⟨_,e2,h.rel d v _ hv e2⟩
    split at hw
    ·rename_i bb hb;cases hw;obtain⟨u,hu,hr⟩:=hrel _ hb;cases hr;simp only[yielded,hj,qe,hd,hu];cases bb<;>cases want<;>rfl
    ·rename_i vs hb;cases hw;obtain⟨u,hu,hr⟩:=hrel _ hb;cases hr;simp[yielded,hj,hd,hu]
    ·cases hw
   ·cases hw
  ·cases hw
theorem en{o:Oper}{f:Operand}{args:List Operand}(hc:aj o.op=some (f,args)){fr:List V}{a:Act}(hz:GOk P s)(hg:Good s)(hf:FRel s fr a.tmps){K:V→List B→Prop}
  (h:aL P (aO fr f) (args.map (aO fr)) s.H K) {next:Act→World→Prop} {Q:Exit→Act→World→Prop}
  (hk:∀u s' r,Good s'→Step s s'→Rel s' r u→K r s'.H→next (a.put o.dst u) s'.w):o.wp P a s.w next Q:=by
 unfold aj at hc;split at hc
 ·rename_i c ho;split at hc
  ·rename_i f' hcal;cases hc;have hfv:=hf.eval f;generalize aO fr f=fv at h hfv
   cases fv<;>simp only[aL]at h<;>try (cases h;done)
   rename_i g caps;generalize huf:a.eval f=uf at hfv
   cases hfv with
   | fn _ _ us hl hr =>
    obtain⟨⟨fn,h1,h2,h3⟩,hcall⟩:=h
    have hsz:(c.args.map a.eval++us).size=(c.args.toList.map (aO fr)++caps).length:=by simp[hl]
    have hrel:∀(i:Nat) x u,(c.args.toList.map (aO fr)++caps)[i]?=some x→(c.args.map a.eval++us)[i]?=some u→Rel s x u:=fun i x u hx hu=>by
     by_cases hi:i<c.args.size
     ·rw[oL (by simpa using hi)]at hx;rw[pd,if_pos (by simpa using hi)]at hu;simp only[oc,pV,po]at hx;obtain⟨q,hq,rfl⟩:=hx;simp only[qz,hq,pB,Option.some.injEq]at hu;subst hu;exact hf.eval q
     ·rw[oS (by simp;omega)]at hx;rw[pd,if_neg (by simp;omega)]at hu;simp only[oW,ph,rp]at hx hu;exact hr _ x u hx hu
    have hC:=hcall s _ ⟨rfl,hz⟩ hg hsz hrel
    have hrun:(execOp a.eval o).run P s.w = .ok (.enter g (c.args.map a.eval++us)) s.w:=by
     have hb:¬fn.body=none:=by intro hh;rw[hh]at h2;cases h2
     have hn:¬fn.name = "runtime.NumGoroutine":=by simpa using h3
     unfold execOp;rw[ho];simp[resolve,hcal,huf,Deferred.ofValue,invoke,callFunc,h1,hn,hb]
    unfold Oper.wp;rw[hrun,Oper.upon_enter]
    refine hC.mono fun e w' ⟨u,s',r,he,hw,k1,k2,k3,k4⟩=>?_
    subst he;subst hw;exact hk u s' r k1 k2 k3 k4
  ·cases hc
 ·cases hc
theorem iJ(hT:TOk P T){ops:Array Oper}{K:List V→List B→Prop}{Q:Exit→Act→World→Prop} : ∀(l:List Oper) (k:Nat) (s:St) (fr:List V) (a:Act),l=ops.toList.drop k→GOk P s→Good s→FRel s fr a.tmps→a.defers=[]→fi T ops (aL P) K l fr s.H →
  (∀s' fr' a',Good s'→Step s s'→FRel s' fr' a'.tmps→a'.defers=[]→K fr' s'.H→Q .normal a' s'.w)→wpOps P ops Q ((oM ops.size).drop k) a s.w
 | [],k,s,fr,a,hl,_,hg,hf,hd,h,hq=>by
  have hk:ops.size≤k:=by have:=congrArg List.length hl;simp at this;omega
  rw[oV (by simpa using hk)];exact hq s fr a hg (Step.refl s) hf hd h
 | o::rest,k,s,fr,a,hl,hz,hg,hf,hd,h,hq=>by
  have hk:k<ops.size:=by
   have:=congrArg List.length hl;simp at this;omega
  have ho:ops[k]?=some o:=by
   have:=congrArg (fun l=>l[0]?) hl;simp at this;exact this.symm
  have hrest:rest=ops.toList.drop (k+1):=by
   have:=congrArg rx hl;simpa using this
  rw[oK (by simpa using hk)];simp only[qT,wpOps,ho];simp only[fi]at h
  have next:∀{s1:St} {v:V} {u:Value},Good s1→Step s s1→Rel s1 v u→fi T ops (aL P) K rest (ak fr o.dst v) s1.H→wpOps P ops Q ((oM ops.size).drop (k+1)) (a.put o.dst u) s1.w:=fun {s1 v u} g1 g2 g3 g4 =>
   iJ hT rest (k+1) s1 (ak fr o.dst v) (a.put o.dst u) hrest (hz.step g2) g1 ((hf.step g2).put g3 o.dst) (by rw[eW];exact hd) g4 (fun s' fr' a' k1 k2 k3 k4 k5=>hq s' fr' a' k1 (g2.trans k2) k3 k4 k5)
  split at h
  ·rename_i hw;rw[dO hf hw];simp only[if_true];left;split at h
   ·rename_i f args hc;exact en hc hz hg hf h (fun u s' r g1 g2 g3 g4=>next g1 g2 g3 g4)
   ·split at h
    ·rename_i v H' hop;obtain⟨nx,s1,k1,k2,k3,k4,k5⟩:=fg (P:=P) hT hg (fun x=>hf.eval x) hop;subst k2;unfold Oper.wp;rw[k1]
     rcases k5 with⟨u,rfl,hr⟩ | ⟨rfl,rfl⟩
     ·rw[Oper.upon_value];exact next k3 k4 hr h
     ·rw[Oper.upon_skip];exact next k3 k4 (.tup [] #[] rfl (fun i c u hc=>by simp at hc)) h
    ·exact h.elim
  ·rename_i hw;rw[dO hf hw];simp only[oZ,if_false];exact next hg (Step.refl s) (.tup [] #[] rfl (fun i c u hc=>by simp at hc)) h
  ·exact h.elim
theorem W_region(hT:TOk P T){id:Nat}{ops:Array Oper}{Q:Exit→List V→List B→Prop}{fr:List V}{H:List B}
  (h:∀(C:V→List V→List B→(V→List B→Prop)→Prop) (K:List V→List B→Prop),(∀fv args H K',aL P fv args H K'→C fv args H K')→(∀fr H,Q .normal fr H→K fr H)→fi T ops C K ops.toList fr H):W P (.region id ops false) Q fr H:=by
 intro s a hH hg hf hd;obtain⟨rfl,hz⟩:=hH;refine wp_region ?_;have:=iJ hT (Q:=gL s Q) ops.toList 0 s fr a (by simp) hz hg hf hd (h _ _ (fun _ _ _ _ h=>h) (fun _ _ h=>h)) (fun s' fr' a' k1 k2 k3 k4 k5=>⟨fr',s',rfl,k1,k2,k3,k4,k5⟩);simpa using this
theorem bO{s1 s2:St}(h:Step s1 s2){Q:Exit→List V→List B→Prop}{e:Exit}{a:Act}{w:World}(hl:gL s2 Q e a w):gL s1 Q e a w:=by
 obtain⟨fr,s',a1,a2,a3,a4,a5,a6⟩:=hl;exact⟨fr,s',a1,a2,h.trans a3,a4,a5,a6⟩
theorem W.mono{c:Code}{Q Q':Exit→List V→List B→Prop}{fr:List V}{H:List B}(h:W P c Q fr H)(hq:∀e fr H,Q e fr H→Q' e fr H):W P c Q' fr H:=fun s a h1 h2 h3 h4 =>
 wp_mono (h s a h1 h2 h3 h4) fun _ _ _ ⟨fr,s',a1,a2,a3,a4,a5,a6⟩=>⟨fr,s',a1,a2,a3,a4,a5,hq _ _ _ a6⟩
theorem W_skip{Q:Exit→List V→List B→Prop}{fr:List V}{H:List B}(h:Q .normal fr H):W P .skip Q fr H:=fun s _a h1 h2 h3 h4=>wp_skip ⟨fr,s,rfl,h2,Step.refl s,h3,h4,h1.1▸h⟩
theorem W_exit{id:Nat}{Q:Exit→List V→List B→Prop}{fr:List V}{H:List B}(h:Q (.exit id) fr H):W P (.exit id) Q fr H:=fun s _a h1 h2 h3 h4=>wp_exit ⟨fr,s,rfl,h2,Step.refl s,h3,h4,h1.1▸h⟩
theorem W_ret{Q:Exit→List V→List B→Prop}{fr:List V}{H:List B}(h:Q .ret fr H):W P .ret Q fr H:=fun s _a h1 h2 h3 h4=>wp_ret ⟨fr,s,rfl,h2,Step.refl s,h3,h4,h1.1▸h⟩
def gN(N:List V→List B→Prop)(Q:Exit→List V→List B→Prop):Exit→List V→List B→Prop
 | .normal,fr,H=>N fr H
 | e,fr,H=>Q e fr H
theorem fh{x y:Code}{Q:Exit→List V→List B→Prop}{fr:List V}{H:List B}(h:W P x (gN (W P y Q) Q) fr H):W P (.seq x y) Q fr H:=fun s a h1 h2 h3 h4=>by
 refine wp_seq (wp_mono (h s a h1 h2 h3 h4) fun e a' w' hl=>?_);obtain⟨fr',s',rfl,a2,a3,a4,a5,a6⟩:=hl
 cases e with
 | normal=>exact wp_mono (a6 s' a' ⟨rfl,h1.2.step a3⟩ a2 a4 a5) fun _ _ _ hl'=>bO a3 hl'
 | _=>exact⟨fr',s',rfl,a2,a3,a4,a5,a6⟩
theorem W_cond{c:Operand}{x y:Code}{Q:Exit→List V→List B→Prop}{fr:List V}{H:List B}{b:Bool}(hc:aO fr c = .bool b)(h:W P (if b then x else y) Q fr H):W P (.cond c x y) Q fr H:=fun s a h1 h2 h3 h4=>by
 have hr:=h3.eval c;rw[hc]at hr;generalize hu:a.eval c=u at hr;cases hr;exact wp_cond hu (h s a h1 h2 h3 h4)
def dU(id:Nat)(Q:Exit→List V→List B→Prop):Exit→List V→List B→Prop
 | .exit id',fr,H=>if id'=id then Q .normal fr H else Q (.exit id') fr H
 | e,fr,H=>Q e fr H
theorem mK{id:Nat}{c:Code}{Q:Exit→List V→List B→Prop}{fr:List V}{H:List B}(h:W P c (dU id Q) fr H):W P (.block id c) Q fr H:=fun s a h1 h2 h3 h4=>by
 refine wp_block (wp_mono (h s a h1 h2 h3 h4) fun e a' w' hl=>?_);obtain⟨fr',s',a1,a2,a3,a4,a5,a6⟩:=hl
 cases e with
 | exit id' =>
  simp only[Exit.inBlock,dU]at a6 ⊢;split
  ·rename_i hid;rw[if_pos hid]at a6;exact⟨fr',s',a1,a2,a3,a4,a5,a6⟩
  ·rename_i hid;rw[if_neg hid]at a6;exact⟨fr',s',a1,a2,a3,a4,a5,a6⟩
 | _=>exact⟨fr',s',a1,a2,a3,a4,a5,a6⟩
theorem jp{p:Nat→Prop}(h:∃n,p n):∃n,p n∧∀m,m<n→¬p m:=by
 obtain⟨n,hn⟩:=h
 induction n using rK with
 | _ n ih =>
  by_cases hm:∃m,m<n∧p m
  ·obtain⟨m,h1,h2⟩:=hm;exact ih m h1 h2
  ·exact⟨n,hn,fun m h1 h2=>hm ⟨m,h1,h2⟩⟩
theorem W_loop{c:Code}{Q:Exit→List V→List B→Prop}(I:Nat→List V→List B→Prop)(hround:∀n fr H,I n fr H→W P c (gN (fun fr' H'=>∃m,m<n∧I m fr' H') Q) fr H){n:Nat}{fr:List V}{H:List B}(h0:I n fr H):W P (.loop c) Q fr H:=by
 intro s a h1 h2 h3 h4
 let J:Nat→Act→World→Prop:=fun n a' w'=>∃fr' s',s'.w=w'∧Good s'∧Step s s'∧FRel s' fr' a'.tmps∧a'.defers=[]∧I n fr' s'.H
 have hex:∃μ:Act→World→Nat,∀a' w',(∃m,J m a' w')→J (μ a' w') a' w'∧∀m,m<μ a' w'→¬J m a' w':=by
  have:∀p:Act×World,∃n,(∃m,J m p.1 p.2)→J n p.1 p.2∧∀m,m<n→¬J m p.1 p.2:=fun p=>by
   by_cases h:∃m,J m p.1 p.2
   ·obtain⟨n,h1,h2⟩:=jp h;exact⟨n,fun _=>⟨h1,h2⟩⟩
   ·exact⟨0,fun h'=>absurd h' h⟩
  obtain⟨f,hf⟩:=Classical.axiomOfChoice this;exact⟨fun a' w'=>f (a',w'),fun a' w' h=>hf (a',w') h⟩
 obtain⟨μ,hμ⟩:=hex;refine wp_loop (fun a' w'=>∃m,J m a' w') μ ⟨n,fr,s,rfl,h2,Step.refl s,h3,h4,h1.1▸h0⟩ (fun a' w' hI=>?_);obtain⟨⟨fr',s',rfl,b2,b3,b4,b5,b6⟩,hmin⟩:=hμ a' w' hI
 refine wp_mono (hround _ fr' s'.H b6 s' a' ⟨rfl,h1.2.step b3⟩ b2 b4 b5) fun e a'' w'' hl=>?_
 obtain⟨fr'',s'',rfl,c2,c3,c4,c5,c6⟩:=hl
 cases e with
 | normal =>
  obtain⟨m,hm,hIm⟩:=c6;have hJ:J m a'' s''.w:=⟨fr'',s'',rfl,c2,b3.trans c3,c4,c5,hIm⟩;refine⟨⟨m,hJ⟩,?_⟩;obtain⟨_,hmin'⟩:=hμ a'' s''.w ⟨m,hJ⟩
  rcases pS m (μ a'' s''.w) with h | h
  ·exact absurd hJ (hmin' m h)
  ·omega
 | _=>exact⟨fr'',s'',rfl,c2,b3.trans c3,c4,c5,c6⟩
end
end Go.AM
namespace Go.AM
open Go
def jY(T:Ty)(fr:List V)(H:List B):ResultVar→Option V
 | .tmp t=>fr[t]?
 | .cell a t=>match fr[a]? with
  | some p=>mt T H t p
  | none=>none
def bq(T:Ty)(fr:List V)(H:List B):List ResultVar→Option (List V)
 | []=>some []
 | r::rs=>match jY T fr H r,bq T fr H rs with
  | some v,some vs=>some (v::vs)
  | _,_=>none
def lF:List V→V
 | [v]=>v
 | vs=>.tup vs
def retQ(T:Ty)(rs:List ResultVar)(K:V→List B→Prop)(e:Exit)(fr:List V)(H:List B):Prop :=
 match e with
 | .normal | .ret=>match bq T fr H rs with
  | some vs=>K (lF vs) H
  | none=>False
 | _=>False
section
variable {P:Program} {T:Ty} {s:St}
theorem mapM_run{α:Type}{g:α→Sem Value}{w:World} : ∀{l:List α} {us:List Value},l.length=us.length→(∀(i:Nat) x u,l[i]?=some x→us[i]?=some u→(g x).run P w = .ok u w)→(l.mapM g).run P w = .ok us w
 | [],[],_,_=>by simp
 | x::l,u::us,hl,h=>by
  have h0:=h 0 x u rfl rfl;have ih:=mapM_run (l:=l) (us:=us) (by simpa using hl) (fun i y v hy hv=>h (i+1) y v (by simpa using hy) (by simpa using hv));simp[List.mapM_cons,h0,ih]
theorem res_sound(hT:TOk P T)(hg:Good s){fr:List V}{tmps:Array Value}(hf:FRel s fr tmps):∀{rs:List ResultVar} {vs:List V},bq T fr s.H rs=some vs →
  ∃us:List Value,us.length=vs.length∧rs.length=vs.length∧(∀(i:Nat) v u,vs[i]?=some v→us[i]?=some u→Rel s v u)∧
   ∀(i:Nat) r u,rs[i]?=some r→us[i]?=some u→(match r with
    | .tmp t=>Pure.pure (tmps.getD t undef)
    | .cell a t=>do loadVar t (←asAddr (tmps.getD a undef)):Sem Value).run P s.w = .ok u s.w
 | [],vs,h=>by simp[bq]at h;subst h;exact⟨[],rfl,rfl,by simp,by simp⟩
 | r::rs,vs,h=>by
  simp only[bq]at h;split at h
  ·rename_i v vs' h1 h2;cases h;obtain⟨us,k1,k2,k3,k4⟩:=res_sound hT hg hf h2
   have hat:∀n x,fr[n]?=some x→∃u,tmps.getD n undef=u∧Rel s x u:=fun n x hx=>by
    have hl:=aB hx
    have hlt:n<tmps.size:=by rw[hf.len];exact hl
    have e2:tmps[n]?=some tmps[n]:=by simp[hlt]
    exact⟨_,rfl,by have:=hf.rel n x _ hx e2;simpa[rA,hlt] using this⟩
   have one:∃u,(match r with
    | .tmp t=>Pure.pure (tmps.getD t undef)
    | .cell a t=>do loadVar t (←asAddr (tmps.getD a undef)):Sem Value).run P s.w = .ok u s.w∧Rel s v u:=by
    cases r with
    | tmp t =>
     obtain⟨u,e,hr⟩:=hat t v h1;exact⟨u,by simp[e],hr⟩
    | cell a t =>
     simp only[jY]at h1;split at h1
     ·rename_i p hp;obtain⟨u,e,hr⟩:=hat a p hp;obtain⟨w',q1,q2⟩:=mq (P:=P) hT hg hr h1;refine⟨w',?_,q2⟩;simp only;rw[e]
      cases hr<;>simp only[mt]at h1<;>try (cases h1;done)
      all_goals simpa[Instr.loadAt,Instr.sureAddr,asAddr] using q1
     ·cases h1
   obtain⟨u,o1,o2⟩:=one;refine⟨u::us,by simp[k1],by simp[k2],fun i a b ha hb=>?_,fun i a b ha hb=>?_⟩
   ·cases i with
    | zero=>simp at ha hb;subst ha;subst hb;exact o2
    | succ i=>exact k3 i a b (by simpa using ha) (by simpa using hb)
   ·cases i with
    | zero=>simp at ha hb;subst ha;subst hb;exact o1
    | succ i=>exact k4 i a b (by simpa using ha) (by simpa using hb)
  ·cases h
theorem pack_rel{vs:List V}{us:List Value}(hl:us.length=vs.length)(h:∀(i:Nat) v u,vs[i]?=some v→us[i]?=some u→Rel s v u):
  Rel s (lF vs) (if h:us.toArray.size=1 then us.toArray[0] else .tuple us.toArray):=by
 match vs,us,hl with
 | [v],[u],_=>exact h 0 v u rfl rfl
 | [],[],_=>exact .tup [] #[] rfl (by simp)
 | v::v'::vs,u::u'::us,hl =>
  rw[dif_neg (by simp)];exact .tup _ _ (by simpa using hl) (fun i a b ha hb=>h i a b ha (by simpa using hb))
theorem aE(hT:TOk P T){f:FuncId}{fn:Func}{c:Code}(hf:P.funcs[f]?=some fn)(hb:fn.body=some c)(hn:(fn.name == "runtime.NumGoroutine")=false){args:List V}{H:List B}{K:V→List B→Prop}
  (h:W P c (retQ T fn.results.toList K) (args++oE (fn.ntmps-args.length) (.tup [])) H):aU P f args H K:=by
 refine⟨⟨fn,hf,by rw[hb];rfl,hn⟩,fun s vals hH hg hsz hrel=>?_⟩;refine calls_of_wp hf hb ?_
 have hfr:FRel s (args++oE (fn.ntmps-args.length) (.tup [])) (vals++qq (fn.ntmps-vals.size) undef):=by
  refine⟨by simp[hsz],fun i v u hv hu=>?_⟩;by_cases hi:i<args.length
  ·rw[oL hi]at hv;rw[pd,if_pos (by omega)]at hu;exact hrel i v u hv hu
  ·rw[oS (by omega)]at hv;rw[pd,if_neg (by omega)]at hu;have e1:=pi (oH hv)
   have e2:u=undef:=by simp[qx]at hu;exact hu.2.symm
   subst e1;subst e2;exact .tup [] #[] rfl (by simp)
 refine wp_mono (h s _ hH hg hfr rfl) fun e a w hl=>?_
 obtain⟨fr',s',rfl,a2,a3,a4,a5,a6⟩:=hl
 have fin:(match bq T fr' s'.H fn.results.toList with
   | some vs=>K (lF vs) s'.H
   | none=>False)→a.defers=[]∧∃v,(results fn a.tmps).run P s'.w = .ok v s'.w∧∃u s'' r,Ending.returned v = .returned u∧s''.w=s'.w∧Good s''∧Step s s''∧Rel s'' r u∧K r s''.H:=fun hk=>by
  split at hk
  ·rename_i vs hvs;obtain⟨us,k1,k2,k3,k4⟩:=res_sound (P:=P) hT a2 a4 hvs;refine⟨a5,_,?_,_,s',lF vs,rfl,rfl,a2,a3,pack_rel k1 k3,hk⟩;have hm:=mapM_run (P:=P) (w:=s'.w) (l:=fn.results.toList) (us:=us) (by omega) k4;unfold results;rw[Array.mapM_eq_mapM_toList];simp only[Sem.run_bind,Sem.run_map]
   erw [hm]
   simp
  ·exact hk.elim
 cases e with
 | normal=>exact fin a6
 | ret=>exact fin a6
 | exit id=>exact a6.elim
 | goto l=>exact a6.elim
 | panic ch=>exact a6.elim
 | outgrown=>exact a6.elim
end
end Go.AM
namespace Go.AM
open Go Go.RowKit
inductive Pure:V→Prop
 | bool (b:Bool):Pure (.bool b)
 | int (k:IntKind) (n:Int):Pure (.int k n)
 | str (x:ByteArray):Pure (.str x)
 | nilS:Pure .nilS
 | lst (z:Nat) (full:Bool) (xs:List V) (h:∀x∈xs,Pure x):Pure (.lst z full xs)
 | nilP:Pure .nilP
 | pin (cs:List V) (off:Nat) (h:∀c∈cs,Pure c):Pure (.pin cs off)
 | nilM:Pure .nilM
 | fn (f:FuncId):Pure (.fn f [])
 | nilFn:Pure .nilFn
 | nilI:Pure .nilI
 | ifc:Pure .ifc
 | agg (cs:List V) (h:∀c∈cs,Pure c):Pure (.agg cs)
 | tup (vs:List V) (h:∀v∈vs,Pure v):Pure (.tup vs)
theorem Pure.cells{x:V}(h:Pure x):∀c∈x.cells,Pure c:=by
 cases h with
 | agg cs h=>exact h
 | _=>intro c hc;simp[V.cells]at hc;subst hc;constructor<;>assumption
inductive Scalar:V→Prop
 | bool (b:Bool):Scalar (.bool b)
 | int (k:IntKind) (n:Int):Scalar (.int k n)
 | str (x:ByteArray):Scalar (.str x)
 | nilS:Scalar .nilS
 | nilI:Scalar .nilI
 | ifc:Scalar .ifc
 | agg (cs:List V) (h:∀c∈cs,Scalar c):Scalar (.agg cs)
 | tup (vs:List V) (h:∀v∈vs,Scalar v):Scalar (.tup vs)
def base(F:Nat→Prop)(w:World):St:=⟨F,w,id,id,[]⟩
theorem base_good{F:Nat→Prop}{w:World}(h:∀b,F b→b<w.heap.size):Good (base F w):=⟨h,fun k hk=>by have:=hk.1;simp[base]at this,fun j k hj=>by have:=hj.1;simp[base]at this,fun k bl hk=>by simp[base]at hk⟩
section
variable {P:Program} {T:Ty} {s t:St}
theorem Rel.pure_{v:V}{u:Value}(h:Rel s v u)(hp:Pure v)(hw:∀b,s.Prot b→t.Prot b∧t.w.heap[b]?=s.w.heap[b]?):Rel t v u:=by
 induction h with
 | undef u=>cases hp
 | bool b=>exact .bool b
 | int k n=>exact .int k n
 | str x=>exact .str x
 | nilS=>exact .nilS
 | lst z full xs A cap b off u hcap hfull hA hz hcell hrel ih =>
  cases hp with
  | lst _ _ _ hx =>
   refine .lst z full xs A cap b off u hcap hfull (fun h0=>⟨(hA h0).1,(hw b (hA h0).2).1⟩) hz (fun i x j c hi hj=>?_) (fun i x j c hi hj=>ih i x j c hi hj ((hx x (oH hi)).cells c (oH hj)))
   have h0:0<xs.length:=by have:=aB hi;omega
   rw[World.cell?_of_block (hw b (hA h0).2).2];exact hcell i x j c hi hj
 | buf k off len tot e z xs fz A l c hk ht hh=>cases hp
 | nilP=>exact .nilP
 | ptr k off cs hk=>cases hp
 | pin cs off b o u hpr h1 hcell hrel ih =>
  cases hp with
  | pin _ _ hc =>
   refine .pin cs off b o u (hw b hpr).1 h1 (fun j c hj=>?_) (fun j c hj=>ih j c hj (hc c (oH hj)));rw[World.cell?_of_block (hw b hpr).2];exact hcell j c hj
 | pbuf k i off tot e z xs fz p hk ht hh=>cases hp
 | sarr k n cs hk=>cases hp
 | nilM=>exact .nilM
 | map k kk es hk=>cases hp
 | fn f caps us hl hh ih=>cases hp;exact .fn f [] us hl (fun i c u hc=>by simp at hc)
 | nilFn=>exact .nilFn
 | nilI=>exact .nilI
 | ifc t x=>exact .ifc t x
 | agg cs us hl h1 hh ih=>cases hp with | agg _ hc=>exact .agg cs us hl h1 (fun i c u h2 h3=>ih i c u h2 h3 (hc c (oH h2)))
 | tup vs us hl hh ih=>cases hp with | tup _ hc=>exact .tup vs us hl (fun i c u h2 h3=>ih i c u h2 h3 (hc c (oH h2)))
theorem Rel.scalar{v:V}{u:Value}(h:Rel s v u)(hp:Scalar v):Rel t v u:=by
 induction h with
 | bool b=>exact .bool b
 | int k n=>exact .int k n
 | str x=>exact .str x
 | nilS=>exact .nilS
 | nilI=>exact .nilI
 | ifc t x=>exact .ifc t x
 | agg cs us hl h1 hh ih=>cases hp with | agg _ hc=>exact .agg cs us hl h1 (fun i c u h2 h3=>ih i c u h2 h3 (hc c (oH h2)))
 | tup vs us hl hh ih=>cases hp with | tup _ hc=>exact .tup vs us hl (fun i c u h2 h3=>ih i c u h2 h3 (hc c (oH h2)))
 | _=>cases hp
inductive Exp (H:List B):V→V→Prop
 | pure (v:V) (h:Pure v):Exp H v v
 | buf (k off len e z:Nat) (xs:List V) (fz:Bool) (hk:H[k]?=some (.buf e z xs fz)) (ho:off+len≤xs.length) (hp:∀x∈xs,Pure x):Exp H (.buf k off len xs.length) (.lst z false ((xs.drop off).take len))
def hold(s:St)(open_:Nat→Prop):Nat→Prop:=fun b=>s.F b∨∃k,Lv s k∧s.φ k=b∧¬open_ k∧∀e z xs,s.H[k]?≠some (.buf e z xs true)
theorem GOk.hold(h:GOk P s)(op:Nat→Prop):GOk P (base (hold s op) s.w):=h.of fun b h1=>by
 refine⟨⟨h1.1,?_,fun k hk=>by have:=hk.1;simp[base]at this⟩,rfl⟩;rintro(hf | ⟨k,hk,e,_,hno⟩)
 ·exact h1.2.1 hf
 ·obtain⟨e',z',xs',he'⟩:=h1.2.2 k hk e;exact hno e' z' xs' he'
theorem Rel.exp(hg:Good s){open_:Nat→Prop}{v v':V}{u:Value}(h:Rel s v u)(he:Exp s.H v v')(ho:∀k off len tot,v = .buf k off len tot→open_ k):Rel (base (hold s open_) s.w) v' u:=by
 have hw:∀b,s.Prot b→(base (hold s open_) s.w).Prot b∧(base (hold s open_) s.w).w.heap[b]?=s.w.heap[b]?:=fun b hb=>by
  refine⟨⟨hb.1,?_,fun k hk=>by have:=hk.1;simp[base]at this⟩,rfl⟩;rintro(h | ⟨k,hk,e,_,hno⟩)
  ·exact hb.2.1 h
  ·obtain⟨e',z',xs',he'⟩:=hb.2.2 k hk e;exact hno e' z' xs' he'
 cases he with
 | pure _ hp=>exact h.pure_ hp hw
 | buf k off len e z xs fz hk hle hp =>
  cases h with
  | buf _ _ _ _ e2 z2 xs2 fz2 A l c hk2 ht hh =>
   rw[hk]at hk2;cases hk2;obtain⟨hA,rfl,hcap,_⟩:=hh rfl;by_cases hl0:l=0
   ·subst hl0;rw[List.take_zero];exact bw z false A c (fun h=>by cases h)
   obtain⟨_,_,_,hk4,_⟩:=hg.blk k _ hk
   have hκ:s.κ k≠0:=by omega
   have hA:=hA hκ;subst hA;have hkl:=lvB hk hκ
   have hP:(base (hold s open_) s.w).Prot (s.φ k):=by
    refine⟨(hg.lt k hkl).1,?_,fun k hk=>by have:=hk.1;simp[base]at this⟩;rintro(h | ⟨k',hk',e',hn,_⟩)
    ·exact(hg.lt k hkl).2 h
    ·have:=hg.inj k' k hk' hkl e';subst this;exact hn (ho _ _ _ _ rfl)
   obtain⟨vs,g2,g3,g4,g5,g6,g7⟩:=hg.blk k _ hk
   have hlen:((xs.drop off).take l).length=l:=by simp;omega
   have hat:∀i x,((xs.drop off).take l)[i]?=some x→xs[off+i]?=some x:=fun i x hi=>by
    have:=aB hi;rw[pD,if_pos (by omega),pP]at hi;exact hi
   have:=Rel.lst (s:=base (hold s open_) s.w) z false ((xs.drop off).take l) (some ⟨s.φ k,off*z,none⟩) c (s.φ k) (off*z) (fun i j=>(s.w.cell? ⟨s.φ k,off*z+i*z+j,none⟩).getD Go.undef) (by omega) (by simp) (fun _=>⟨rfl,hP⟩)
    (fun x hx=>g6 x (pq (pQ hx)))
    (fun i x j d hx hd=>by
     obtain⟨_,_,h3⟩:=eN hg hk (hat i x hx);obtain⟨u,hu,_⟩:=h3 j d hd;rw[ov]at hu;show s.w.cell? _=_
     rw[hu];rfl)
    (fun i x j d hx hd=>by
     obtain⟨_,_,h3⟩:=eN hg hk (hat i x hx);obtain⟨u,hu,hr⟩:=h3 j d hd;rw[ov]at hu;rw[hu]
     exact hr.pure_ ((hp x (oH (hat i x hx))).cells d (oH hd)) hw)
   rwa [hlen]at this
def Enters(P:Program)(f:FuncId):Prop:=∃fn,P.funcs[f]?=some fn∧fn.body.isSome=true∧(fn.name == "runtime.NumGoroutine")=false
def aJ(P:Program)(f:FuncId)(args:List V)(K:V→Prop):Prop :=
 Enters P f∧∀(F:Nat→Prop) (w:World) (vals:Array Value),GOk P (base F w)→(∀b,F b→b<w.heap.size)→vals.size=args.length→(∀(i:Nat) a u,args[i]?=some a→vals[i]?=some u→Rel (base F w) a u)→
  Calls P f vals w fun e w'=>∃u r,e = .returned u∧Pure r∧Rel (base F w') r u∧Below w.heap.size w w'∧K r
def dr(P:Program)(f:FuncId)(args:List V)(K:Nat→Nat→List V→Prop):Prop :=
 Enters P f∧∀(F:Nat→Prop) (w:World) (vals:Array Value),GOk P (base F w)→(∀b,F b→b<w.heap.size)→vals.size=args.length→(∀(i:Nat) a u,args[i]?=some a→vals[i]?=some u→Rel (base F w) a u)→
  Calls P f vals w fun e w'=>∃u e' z xs A g c,e = .returned u∧u = .slice A xs.length c∧(c≠0→A=some ⟨g,0,none⟩)∧(∀x∈xs,Pure x)∧(c≠0→w.heap.size≤g)∧Good ⟨F,w',fun _=>g,fun _=>c,[.buf e' z xs false]⟩∧Below w.heap.size w w'∧K e' z xs
theorem fG{F:Nat→Prop}{w:World}{s':St}(h:Step (base F w) s'):Below w.heap.size w s'.w:=⟨h.os,h.tape,h.output,h.size,fun b hb=>h.out b hb (fun k hk=>by have:=hk.1;simp[base]at this)⟩
theorem dJ{f:FuncId}{args:List V}{K:V→Prop}(h:aU P f args [] fun r H=>∃r',Exp H r r'∧Pure r'∧K r'):aJ P f args K:=by
 refine⟨h.1,fun F w vals hZ hF hsz hrel=>?_⟩
 refine(h.2 (base F w) vals ⟨rfl,hZ⟩ (base_good hF) hsz hrel).mono fun e w' ⟨u,s',r,a1,a2,a3,a4,a5,r',a6,a7,a8⟩=>?_
 subst a2;have hb:=fG a4;refine⟨u,r',a1,a7,?_,hb,a8⟩;have hFs:s'.F=F:=a4.F;have hr:=a5.exp a3 (open_:=fun _=>True) a6 (fun _ _ _ _ _=>trivial);exact hr.pure_ (t:=base F s'.w) a7 (fun b hb=>⟨⟨hb.1,fun hf=>hb.2.1 (Or.inl (by rw[hFs];exact hf)),fun k hk=>by have:=hk.1;simp[base]at this⟩,rfl⟩)
theorem conO_of_conH{f:FuncId}{args:List V}{K:Nat→Nat→List V→Prop}(h:aU P f args [] fun r H=>∃k e z xs,r = .buf k 0 xs.length xs.length∧H[k]?=some (.buf e z xs false)∧(∀x∈xs,Pure x)∧K e z xs):dr P f args K:=by
 refine⟨h.1,fun F w vals hZ hF hsz hrel=>?_⟩
 refine(h.2 (base F w) vals ⟨rfl,hZ⟩ (base_good hF) hsz hrel).mono fun e w' ⟨u,s',r,a1,a2,a3,a4,a5,k,e',z,xs,a6,a7,a8,a9⟩=>?_
 subst a2;subst a6;have hb:=fG a4
 have hnew:s'.κ k≠0→w.heap.size≤s'.φ k:=fun hz=>a4.new k (by simp[base]) (lvB a7 hz)
 have hFs:s'.F=F:=a4.F
 cases a5 with
 | buf _ _ _ _ e2 z2 xs2 fz2 A l c hk2 ht hh =>
  rw[a7]at hk2;cases hk2;obtain⟨hA,rfl,hcap,_⟩:=hh rfl;rw[pI]at hcap;subst hcap;refine⟨_,e',z,xs,A,s'.φ k,s'.κ k,a1,rfl,fun hz=>by simpa using hA hz,a8,hnew,?_,hb,a9⟩;obtain⟨vs,g2,g3,g4,g5,g6,g7⟩:=a3.blk k _ a7
  have hw:∀b,s'.Prot b→(St.mk F s'.w (fun _=>s'.φ k) (fun _=>s'.κ k) [.buf e' z xs false]).Prot b∧s'.w.heap[b]?=s'.w.heap[b]?:=fun b hb=>by
   refine⟨⟨hb.1,by rw[←hFs];exact hb.2.1,fun i hi he=>?_⟩,rfl⟩;obtain⟨e3,z3,xs3,h3⟩:=hb.2.2 k (lvB a7 (hi.2 e' z xs false (by have:=hi.1;simp at this;subst this;rfl))) he;rw[a7]at h3;cases h3
  refine⟨fun b hF'=>by have:=a3.fl b (by rw[hFs];exact hF');exact this,fun i hi=>by
   have hkl:=lvB a7 (hi.2 e' z xs false (by have:=hi.1;simp at this;subst this;rfl))
   exact⟨(a3.lt k hkl).1,by have:=(a3.lt k hkl).2;rw[hFs]at this;exact this⟩,fun i j hi hj _=>by have:=hi.1;have:=hj.1;simp at *;omega,fun i bl hi=>?_⟩
  have hi0:i=0:=by have:=aB hi;simp at this;omega
  subst hi0;simp at hi;subst hi;exact⟨vs,g2,g3,g4,g5,g6,fun i x j d u hx hd hu=>(g7 i x j d u hx hd hu).pure_ ((a8 x (oH hx)).cells d (oH hd)) hw⟩
theorem gH{f:FuncId}{args args':List V}{K:V→Prop}{H:List B}(h:aJ P f args' K)(hl:args.length=args'.length)(he:∀(i:Nat) a a',args[i]?=some a→args'[i]?=some a'→Exp H a a')
  (hs:(∀a∈args,Pure a)∨∀r,K r→Scalar r):aU P f args H fun r H'=>H'=H∧Pure r∧K r:=by
 refine⟨h.1,fun s vals hH hg hsz hrel=>?_⟩;obtain⟨rfl,hZ⟩:=hH
 let op:Nat→Prop:=fun _=>¬∀a∈args,Pure a
 have hFl:∀b,hold s op b→b<s.w.heap.size:=by
  rintro b (h | ⟨k,hk,rfl,_⟩)
  ·exact hg.fl b h
  ·exact(hg.lt k hk).1
 refine(h.2 (hold s op) s.w vals (hZ.hold op) hFl (by omega) (fun i a' u ha' hu=>?_)).mono fun e w' ⟨u,r,a1,a2,a3,a4,a5⟩=>?_
 ·have hi:i<args.length:=by have:=aB ha';omega
  have ha:args[i]?=some args[i]:=oG hi;refine(hrel i _ u ha hu).exp hg (he i _ a' ha ha') (fun k off len tot e hall=>?_);have:=hall _ (oI hi);rw[e]at this;cases this
 ·obtain⟨g1,g2⟩:=fL hg (w:=w') a4.os a4.tape a4.output a4.size a4.block;refine⟨u,s.at w',r,a1,rfl,g1,g2,?_,rfl,a2,a5⟩
  rcases hs with hs | hs
  ·refine a3.pure_ (t:=s.at w') a2 (fun b hb=>⟨⟨hb.1,fun hf=>hb.2.1 (Or.inl hf),fun k hk e=>?_⟩,rfl⟩)
   refine Classical.byContradiction fun hno=>?_
   exact hb.2.1 (Or.inr ⟨k,hk,e,fun hn=>hn hs,fun e' z' xs' he'=>hno ⟨e',z',xs',he'⟩⟩)
  ·exact a3.scalar (hs r a5)
theorem eM{f:FuncId}{args:List V}{K:Nat→Nat→List V→Prop}(h:dr P f args K):aJ P f args fun r=>∃e z xs,r = .lst z false xs∧K e z xs:=by
 refine⟨h.1,fun F w vals hZ hF hsz hrel=>?_⟩
 refine(h.2 F w vals hZ hF hsz hrel).mono fun e w' ⟨u,e',z,xs,A,g,c,a1,a2,aA,a3,a4,a5,a6,a7⟩=>?_
 subst a2;refine⟨_,.lst z false xs,a1,.lst _ _ _ a3,?_,a6,e',z,xs,rfl,a7⟩;have hr:Rel ⟨F,w',fun _=>g,fun _=>c,[.buf e' z xs false]⟩ (.buf 0 0 xs.length xs.length) (.slice A xs.length c):=.buf 0 0 xs.length xs.length e' z xs false _ _ _ rfl (oJ _) (fun _=>⟨fun hz=>by simpa using aA hz,rfl,by simp,by simp⟩);have hx:Exp [B.buf e' z xs false] (.buf 0 0 xs.length xs.length) (.lst z false ((xs.drop 0).take xs.length)):=.buf 0 0 xs.length e' z xs false rfl (by simp) a3;have:=hr.exp a5 (open_:=fun _=>True) hx (fun _ _ _ _ _=>trivial);simp only[pC,oY]at this;exact this.pure_ (t:=base F w') (.lst _ _ _ a3) (fun b hb=>⟨⟨hb.1,fun hf=>hb.2.1 (Or.inl hf),fun k hk=>by have:=hk.1;simp[base]at this⟩,rfl⟩)
theorem conH_of_conO{f:FuncId}{args:List V}{K:Nat→Nat→List V→Prop}{H:List B}(h:dr P f args K)(hp:∀a∈args,Pure a):
  aU P f args H fun r H'=>∃e z xs,r = .buf H.length 0 xs.length xs.length∧H'=H++[.buf e z xs false]∧(∀x∈xs,Pure x)∧K e z xs:=by
 refine⟨h.1,fun s vals hH hg hsz hrel=>?_⟩;obtain⟨rfl,hZ⟩:=hH
 have hFl:∀b,hold s (fun _=>False) b→b<s.w.heap.size:=by
  rintro b (h | ⟨k,hk,rfl,_⟩)
  ·exact hg.fl b h
  ·exact(hg.lt k hk).1
 refine(h.2 (hold s fun _=>False) s.w vals (hZ.hold _) hFl hsz (fun i a u ha hu=>?_)).mono fun e w' ⟨u,e',z,xs,A,g0,c,a1,a2,aA,a3,a4,a5,a6,a7⟩=>?_
 ·exact(hrel i a u ha hu).exp hg (.pure a (hp a (oH ha))) (fun k off len tot e=>by have:=hp a (oH ha);rw[e]at this;cases this)
 ·subst a2;by_cases hc0:c=0
  ·subst hc0;obtain⟨_,_,_,g4,_⟩:=a5.blk 0 _ rfl;obtain rfl:xs=[]:=pX (by simpa using g4);obtain⟨p1,p2⟩:=lD hg 0 e' z false a6.os a6.tape a6.output a6.size a6.block;refine⟨_,s.push w' 0 0 (.buf e' z [] false),.buf s.H.length 0 0 0,a1,rfl,p1,p2,?_,e',z,[],rfl,rfl,a3,a7⟩;refine .buf s.H.length 0 0 0 e' z [] false _ _ _ (by simp[St.push]) (oJ _) (fun _=>?_);simp only[St.push,aR];exact⟨fun h=>absurd rfl h,by simp,by simp,by simp⟩
  have a4:=a4 hc0;have hA:=aA hc0;subst hA;have hgl:g0<w'.heap.size:=(a5.lt 0 (lvB (e:=e') (z:=z) (xs:=xs) (fz:=false) rfl hc0)).1;obtain⟨g,hgg⟩:∃g,g=g0:=⟨g0,rfl⟩;subst hgg;have hst:=cq (bl:=.buf e' z xs false) (c:=c) hg a6.os a6.tape a6.output a6.size a6.block a4;refine⟨_,s.push w' g c (.buf e' z xs false),.buf s.H.length 0 xs.length xs.length,a1,rfl,dQ hg a6.os a6.tape a6.output a6.size a6.block a4 hgl (fun hst=>?_),hst,?_,e',z,xs,rfl,rfl,a3,a7⟩
  ·obtain⟨vs,g2,g3,g4,g5,g6,g7⟩:=a5.blk 0 _ rfl;refine⟨vs,fun _=>by simp only[St.push,aR];exact g2 hc0,by simp only[St.push,aR];exact g3,by simp only[St.push,aR];exact g4,by simp only[St.push,aR];exact g5,g6,fun i x j d u hx hd hu=>(g7 i x j d u hx hd hu).pure_ (t:=s.push w' g c (.buf e' z xs false)) ((a3 x (oH hx)).cells d (oH hd)) (fun b hb=>⟨⟨hb.1,fun hf=>hb.2.1 (Or.inl hf),fun k hk he=>?_⟩,rfl⟩)⟩;by_cases hkl:k<s.H.length
   ·have hkl2:Lv s k:=⟨hkl,fun e1 z1 xs1 fz1 hb1=>by
     have:=hk.2 e1 z1 xs1 fz1 (by simp only[St.push];rw[oL hkl];exact hb1)
     rwa [show(s.push w' g c (.buf e' z xs false)).κ k=s.κ k from bH _ _ (by omega)]at this⟩
    simp only[St.push]at he ⊢;rw[bH _ _ (by omega)]at he;rw[oL hkl]
    refine Classical.byContradiction fun hno=>?_
    exact hb.2.1 (Or.inr ⟨k,hkl2,he,fun h=>h,fun e3 z3 xs3 h3=>hno ⟨e3,z3,xs3,h3⟩⟩)
   ·have hk':k=s.H.length:=by have:=hk.1;simp[St.push]at this;omega
    subst hk';simp only[St.push,aR]at he;obtain⟨_,_,_,h3⟩:=hb.2.2 0 (lvB (e:=e') (z:=z) (xs:=xs) (fz:=false) rfl hc0) he;simp at h3
  ·refine .buf s.H.length 0 xs.length xs.length e' z xs false _ _ _ (by simp[St.push]) (oJ _) (fun _=>?_);simp only[St.push,aR];exact⟨fun _=>by simp,trivial,by simp,by simp⟩
end
end Go.AM
end
