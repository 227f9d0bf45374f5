/- JB6: texts AMf, joined and shortened by pack6.py. -/
import Derived.Test.YtnaokiodhoadjaaGreatDoorJB5
import Derived.Deep.Slices
set_option linter.all false
set_option maxRecDepth 100000
set_option maxHeartbeats 64000000
open List renaming range→tr,nil_append→uL,getElem?_cons_succ→vC
section
namespace Go.AM
open Go
inductive Tag (p:Prop):Type
 | mk
def Stop(p:Prop)(_:Tag p):Prop:=p
def cG{p:Prop}{t:Tag p}(h:p):Stop p t:=h
inductive QTag (Q:Exit->List V->List B->Prop):Type
 | mk
inductive XTag (X:List V->List B->Prop):Type
 | mk
def Behind(X:List V->List B->Prop)(_:XTag X)(fr:List V)(d:Option Tmp)(r:V)(H:List B):Prop:=X (bL fr d r) H
def XOps(T:Ty)(ops:Array Oper)(C:V->List V->List B->(V->List B->Prop)->Prop)(K:List V->List B->Prop):List Oper->List V->List B->Prop
 | [],fr,H=>K fr H
 | o::a,fr,H=>match bU ops fr o with
  | some b=>if b=true then(match bF o.op with
   | some (f,args)=>C (aO fr f) (args.map (aO fr)) H (Behind (XOps T ops C K a) .mk fr o.dst)
   | none=>match aop T o.op (aO fr) H with
    | some (v,H')=>XOps T ops C K a (bL fr o.dst v) H'
    | none=>False)
   else XOps T ops C K a (bL fr o.dst (.tup [])) H
  | none=>False
def CY(C:V->List V->List B->(V->List B->Prop)->Prop)(f:V)(args:List V)(H:List B)(K:V->List B->Prop):Prop:=∃v,C f args H (fun r H'=>r=v/\H'=H)/\K v H
def oM{C:V->List V->List B->(V->List B->Prop)->Prop}{f:V}{args:List V}{H:List B}{K:V->List B->Prop}(v:V)(h:C f args H (fun r H'=>r=v/\H'=H))(hk:K v H):CY C f args H K:=⟨v,h,hk⟩
def YOps(T:Ty)(ops:Array Oper)(C:V->List V->List B->(V->List B->Prop)->Prop)(K:List V->List B->Prop):List Oper->List V->List B->Prop
 | [],fr,H=>K fr H
 | o::a,fr,H=>match bU ops fr o with
  | some b=>if b=true then(match bF o.op with
   | some (f,args)=>CY C (aO fr f) (args.map (aO fr)) H (Behind (YOps T ops C K a) .mk fr o.dst)
   | none=>match aop T o.op (aO fr) H with
    | some (v,H')=>H'=H/\YOps T ops C K a (bL fr o.dst v) H
    | none=>False)
   else YOps T ops C K a (bL fr o.dst (.tup [])) H
  | none=>False
section
variable {P:Program} {T:Ty}
theorem qe{ops:Array Oper}{C:V->List V->List B->(V->List B->Prop)->Prop}(a:∀g args H K K',(∀r H',K r H'->K' r H')->C g args H K->C g args H K'){K:List V->List B->Prop} : ∀(l:List Oper) (fr:List V) (H:List B),XOps T ops C K l fr H->jy T ops C K l fr H
 | [],_,_,h=>h
 | o::rest,fr,H,h=>by
  simp only[XOps]at h;simp only[jy]
  cases e:bU ops fr o with
  | none=>rw[e]at h;exact h.elim
  | some b =>
  rw[e]at h
  cases b with
  | false=>exact qe a rest _ _ (by simpa using h)
  | true =>
   simp only[if_true]at h
   cases d:bF o.op with
   | some p =>
    obtain⟨f,args⟩:=p;rw[d]at h;exact a _ _ _ _ _ (fun r H' hk=>qe a rest _ _ hk) h
   | none =>
    rw[d]at h
    cases c:aop T o.op (aO fr) H with
    | none=>simp only[c]at h
    | some q =>
     obtain⟨v,H'⟩:=q;simp only[c]at h ⊢;exact qe a rest _ _ h
theorem qd{ops:Array Oper}{C:V->List V->List B->(V->List B->Prop)->Prop}{K:List V->List B->Prop} : ∀(l:List Oper) (fr:List V) (H:List B),YOps T ops C K l fr H->∃cv,pf T ops C K l fr H cv
 | [],_,_,h=>⟨[],h⟩
 | o::rest,fr,H,h=>by
  simp only[YOps]at h;simp only[pf]
  cases e:bU ops fr o with
  | none=>rw[e]at h;exact h.elim
  | some b =>
  rw[e]at h
  cases b with
  | false=>exact qd rest _ _ (by simpa using h)
  | true =>
   simp only[if_true]at h
   cases d:bF o.op with
   | some p =>
    obtain⟨f,args⟩:=p;rw[d]at h;obtain⟨v,h1,h2⟩:=h;obtain⟨cv,c⟩:=qd rest _ _ h2;exact⟨v::cv,h1,c⟩
   | none =>
    rw[d]at h
    cases a:aop T o.op (aO fr) H with
    | none=>simp only[a]at h
    | some q =>
     obtain⟨v,H'⟩:=q;simp only[a]at h ⊢;obtain⟨cv,c⟩:=qd rest _ _ h.2;exact⟨cv,h.1,c⟩
def hasEff:List Oper->Bool
 | []=>false
 | o::r=>!cR o.op||hasEff r
def WX(T:Ty)(C:V->List V->List B->(V->List B->Prop)->Prop)(L:(c:Code)->(Q:Exit->List V->List B->Prop)->QTag Q->List V->List B->Prop):Code->(Exit->List V->List B->Prop)->List V->List B->Prop
 | .skip,Q,fr,H=>Q .normal fr H
 | .region _ ops false,Q,fr,H=>XOps T ops C (Q .normal) ops.toList fr H
 | .region id ops true,Q,fr,H=>L (.region id ops true) Q .mk fr H\/if hasEff ops.toList=true then False else Stop (stat1 ops=true) .mk/\YOps T ops C (Q .normal) ops.toList fr H
 | .seq a b,Q,fr,H=>WX T C L a (mG (WX T C L b Q) Q) fr H
 | .cond c a b,Q,fr,H=>match aO fr c with
  | .bool t=>if t=true then WX T C L a Q fr H else WX T C L b Q fr H
  | _=>False
 | .block id c,Q,fr,H=>WX T C L c (iW id Q) fr H
 | .loop c,Q,fr,H=>L (.loop c) Q .mk fr H
 | .exit id,Q,fr,H=>Q (.exit id) fr H
 | .ret,Q,fr,H=>Q .ret fr H
 | _,_,_,_=>False
def LW(P:Program)(c:Code)(Q:Exit->List V->List B->Prop)(_:QTag Q)(fr:List V)(H:List B):Prop:=W P c Q fr H
def aI{c:Code}{Q:Exit->List V->List B->Prop}{t:QTag Q}{fr:List V}{H:List B}(h:W P c Q fr H):LW P c Q t fr H:=h
theorem wx_ok(i:TOk P T)(hm:P.follows .mixedOrders=true):∀(c:Code) (Q:Exit->List V->List B->Prop) (fr:List V) (H:List B),WX T (aM P) (LW P) c Q fr H->W P c Q fr H
 | .skip,Q,fr,H,h=>W_skip h
 | .region id ops false,Q,fr,H,h=>by
  intro s a h1 h2 j p;refine W_region i (fun C K g k=>?_) s a h1 h2 j p;have:=qe (C:=aM P) (fun _ _ _ _ _ hk u=>u.mono hk) _ _ _ h;refine dM.WOps_mono g _ _ _ ?_;exact wops_k (fun fr H hq=>k fr H hq) _ _ _ this
 | .region id ops true,Q,fr,H,h=>by
  simp only[WX]at h
  rcases h with h | h
  .exact h
  split at h
  .exact h.elim
  obtain⟨m,h⟩:=h;obtain⟨cv,hq⟩:=qd _ _ _ h;intro s a h1 h2 j p;refine W_quiet i hm cv (stat_ok m (by simp[stat2,qb])) (fun C K g k=>?_) s a h1 h2 j p;exact d g k _ _ _ _ hq
 | .seq a b,Q,fr,H,h=>cu ((wx_ok i hm a _ fr H h).mono fun e n H' hq=>by
   cases e with
   | normal=>exact wx_ok i hm b Q n H' hq
   | _=>exact hq)
 | .cond c a b,Q,fr,H,h=>by
  simp only[WX]at h;split at h
  .rename_i t ht;refine W_cond ht ?_
   cases t with
   | true=>exact wx_ok i hm a Q fr H (by simpa using h)
   | false=>exact wx_ok i hm b Q fr H (by simpa using h)
  .exact h.elim
 | .block id c,Q,fr,H,h=>oc (wx_ok i hm c _ fr H h)
 | .loop c,Q,fr,H,h=>h
 | .exit id,Q,fr,H,h=>W_exit h
 | .ret,Q,fr,H,h=>W_ret h
 | .rangeFunc ..,_,_,_,h=>h.elim
 | .scope _,_,_,_,h=>h.elim
 | .label _,_,_,_,h=>h.elim
 | .goto _,_,_,_,h=>h.elim
 | .refuse _,_,_,_,h=>h.elim
where
 wops_k {ops:Array Oper} {K K':List V->List B->Prop} (hk:∀fr H,K fr H->K' fr H):∀(l:List Oper) (fr:List V) (H:List B),jy T ops (aM P) K l fr H->jy T ops (aM P) K' l fr H
  | [],fr,H,h=>hk fr H h
  | o::f,fr,H,h=>by
   simp only[jy]at h ⊢;split at h
   .split at h
    .exact h.mono fun r H' v=>wops_k hk f _ _ v
    .split at h
     .exact wops_k hk f _ _ h
     .exact h
   .exact wops_k hk f _ _ h
   .exact h
 d {ops:Array Oper} {C:V->List V->List B->(V->List B->Prop)->Prop} (g:∀q args H K',aM P q args H K'->C q args H K') {K K':List V->List B->Prop} (hk:∀fr H,K fr H->K' fr H):∀(l:List Oper) (fr:List V) (H:List B) (cv:List V),pf T ops (aM P) K l fr H cv->pf T ops C K' l fr H cv
  | [],fr,H,_,h=>hk fr H h
  | o::f,fr,H,cv,h=>by
   simp only[pf]at h ⊢;split at h
   .split at h
    .split at h
     .exact⟨g _ _ _ _ h.1,d g hk f _ _ _ h.2⟩
     .exact h
    .split at h
     .exact⟨h.1,d g hk f _ _ _ h.2⟩
     .exact h
   .exact d g hk f _ _ _ h
   .exact h
def W_x(a:TOk P T)(hm:P.follows .mixedOrders=true){c:Code}{Q:Exit->List V->List B->Prop}{fr:List V}{H:List B}(h:WX T (aM P) (LW P) c Q fr H):W P c Q fr H:=wx_ok a hm c Q fr H h
def rx(ms:List Nat):Nat->List V->List V
 | _,[]=>[]
 | i,v::r=>(if ms.contains i then .undef else v)::rx ms (i+1) r
def ovr:List V->List (Nat×V)->List V
 | fr,[]=>fr
 | fr,(i,v)::r=>ovr (fr.set i v) r
def mA{σ:Type}(ms:List Nat)(ok:σ->Prop)(μ:σ->Nat)(g:σ->List (Nat×V))(Hf:σ->List B){c:Code}{Q:Exit->List V->List B->Prop}{fr:List V}{H:List B}(x0:σ)(h0:ok x0)(f:nB (ovr (rx ms 0 fr) (g x0)) fr)(e:H=Hf x0)
  (b:∀x,ok x->H.length<=(Hf x).length)
  (a:∀x,ok x->W P c (mG (fun d H'=>Stop (∃y,ok y/\μ y<μ x/\nB (ovr (rx ms 0 fr) (g y)) d/\(∃G,H'=Hf y++G)/\(∀v∈ovr (rx ms 0 fr) (g y),rb (Hf y).length v)/\∀bl∈Hf y,rbB (Hf y).length bl) .mk) Q) (ovr (rx ms 0 fr) (g x)) (Hf x)):W P (.loop c) Q fr H :=
 W_loopS ok μ (fun x=>ovr (rx ms 0 fr) (g x)) Hf x0 h0 f e b a
end
attribute [simp ↓] XOps YOps WX Behind
attribute [simp] hasEff cR
attribute [simp] rx ovr
@[simp] theorem exp_bool (H:List B) (b:Bool) (v:V):Exp H (.bool b) v↔v = .bool b:=⟨fun h=>by cases h;rfl,fun h=>by subst h;exact .pure _ (.bool b)⟩
@[simp] theorem exp_int (H:List B) (k:IntKind) (n:Int) (v:V):Exp H (.int k n) v↔v = .int k n:=⟨fun h=>by cases h;rfl,fun h=>by subst h;exact .pure _ (.int k n)⟩
@[simp] theorem exp_str (H:List B) (x:ByteArray) (v:V):Exp H (.str x) v↔v = .str x:=⟨fun h=>by cases h;rfl,fun h=>by subst h;exact .pure _ (.str x)⟩
@[simp] theorem exp_nilS (H:List B) (v:V):Exp H .nilS v↔v = .nilS:=⟨fun h=>by cases h;rfl,fun h=>by subst h;exact .pure _ .nilS⟩
@[simp] theorem exp_lst (H:List B) (z:Nat) (f:Bool) (xs:List V) (v:V):Exp H (.lst z f xs) v↔v = .lst z f xs/\∀x∈xs,Pure x:=⟨fun h=>by cases h with | pure _ h=>cases h;exact⟨rfl,by assumption⟩,fun⟨h,h2⟩=>by subst h;exact .pure _ (.lst _ _ _ h2)⟩
@[simp] theorem exp_agg (H:List B) (xs:List V) (v:V):Exp H (.agg xs) v↔v = .agg xs/\∀x∈xs,Pure x:=⟨fun h=>by cases h with | pure _ h=>cases h;exact⟨rfl,by assumption⟩,fun⟨h,h2⟩=>by subst h;exact .pure _ (.agg _ h2)⟩
@[simp] theorem exp_tup (H:List B) (xs:List V) (v:V):Exp H (.tup xs) v↔v = .tup xs/\∀x∈xs,Pure x:=⟨fun h=>by cases h with | pure _ h=>cases h;exact⟨rfl,by assumption⟩,fun⟨h,h2⟩=>by subst h;exact .pure _ (.tup _ h2)⟩
def dr{H:List B}{k len e z:Nat}{xs:List V}{fz:Bool}(hk:H[k]?=some (.buf e z xs fz))(hl:len=xs.length)(hp:∀x∈xs,Pure x):Exp H (.buf k 0 len len) (.lst z false xs):=by
 subst hl;have:=Exp.buf (H:=H) k 0 xs.length e z xs fz hk ζ hp;simpa using this
end Go.AM
namespace Go.AM
open Go Go.Deep
def nh(T:Ty)(tot:Nat):Nat->List Field->Bool
 | off,[]=>off == tot
 | off,f::r=>match T f.type with
  | some j=>f.offset == off&&nh T tot (off+j.size) r
  | none=>false
def ShOk(T:Ty):Nat->TypeId->Bool
 | 0,_=>false
 | n+1,t=>match T t with
  | none=>false
  | some i=>match i.desc with
   | .bool | .int _ | .string=>true
   | .slice e=>match T e with
    | some j=>decide (0<j.size)&&(cZ j.desc||j.size == 1)&&ShOk T n e
    | none=>false
   | .struct fs=>nh T i.size 0 fs.toList&&fs.toList.all fun f=>ShOk T n f.type
   | _=>false
def Sh(T:Ty):Nat->TypeId->List V->Prop
 | 0,_,_=>False
 | n+1,t,vs=>match T t with
  | none=>False
  | some i=>match i.desc with
   | .bool=>∃b,vs=[.bool b]
   | .int k=>∃m,vs=[.int k m]/\(Lit.int k m).wf=true
   | .string=>∃s,vs=[.str s]/\s.size<=maxLen
   | .slice e=>match T e with
    | some j=>∃xs,vs=[.lst j.size false xs]/\xs.length<=maxLen/\∀x∈xs,∃ws,Sh T n e ws/\ws.length=j.size/\x=(if cZ j.desc then .agg ws else ws.headD .undef)
    | none=>False
   | .struct fs=>vs.length=i.size/\∀f∈fs.toList,∃j,T f.type=some j/\Sh T n f.type ((vs.drop f.offset).take j.size)
   | _=>False
structure CR (w:World) (vs:List V) (cs:List Value):Prop where
 len:vs.length=cs.length
 one:∀v∈vs,v.one=true
 rel:∀(i:Nat) v c,vs[i]?=some v->cs[i]?=some c->Rel (base (fun _=>False) w) v c
def CR.append{w:World}{vs ws:List V}{cs ds:List Value}(h:CR w vs cs)(g:CR w ws ds):CR w (vs++ws) (cs++ds) where
 len:=by simp[h.len,g.len]
 one v hv:=by rcases List.mem_append.1 hv with hv | hv;exact h.one v hv;exact g.one v hv
 rel i v c hv hc:=by
  by_cases hi:i<vs.length
  .rw[tu hi]at hv;rw[tu (by rw[<-h.len];exact hi)]at hc;exact h.rel i v c hv hc
  .rw[uD ω]at hv;rw[uD (by rw[<-h.len];omega),<-h.len]at hc;exact g.rel _ v c hv hc
def CR.single{w:World}{v:V}{c:Value}(h:Rel (base (fun _=>False) w) v c)(h1:v.one=true):CR w [v] [c] where
 len:=rfl
 one x hx:=by simp at hx;subst hx;exact h1
 rel i x d hx hd:=by
  have:i=0:=by have:=aB hx;simpa using this
  subst this;simp at hx hd;subst hx;subst hd;exact h
def one_cells{v:V}(h:v.one=true):v.cells=[v]:=by cases v<;>first | rfl | simp[V.one]at h
def spot_cell{w:World}{a:Addr}{v:Value}(h:w.cell? a=some v):a.spot=none:=by
 unfold World.cell? at h;split at h
 .split at h
  .cases h
  .rename_i hs;simpa using hs
 .cases h
def addr_at{a:Addr}{n:Nat}(hs:a.spot=none):a.add n=⟨a.block,a.off+n,none⟩:=by
 unfold Addr.add;split
 .rename_i h;subst h;cases a;simp_all
 .rfl
section
variable {P:Program} {T:Ty} {Hd:Type} {enc:TypeId×Value->Hd} {w:World} {held:Bool}
theorem opn_fields{n tot:Nat}{cs:List Value}(d:cs.length=tot):∀(l:List Field) (off:Nat),nh T tot off l=true->off<=tot ->
  (∀f∈l,∀j,T f.type=some j->∃vs,CR w vs ((cs.drop f.offset).take j.size)/\Sh T n f.type vs)->
  ∃vs,CR w vs (cs.drop off)/\∀f∈l,∃j,T f.type=some j/\off<=f.offset/\Sh T n f.type ((vs.drop (f.offset-off)).take j.size)
 | [],off,h,k,_=>by
  simp only[nh,beq_iff_eq]at h;refine⟨[],⟨χ,ζ,ζ⟩,ζ⟩
 | f::r,off,h,k,hf=>by
  simp only[nh]at h;split at h
  .rename_i j t;simp only[tt,beq_iff_eq]at h;obtain⟨a,h⟩:=h;have i:off+j.size<=tot:=lay_le r _ h;obtain⟨vs,b,m⟩:=hf f ζ j t;obtain⟨ws,e,s⟩:=opn_fields d r (off+j.size) h i (fun g c=>hf g (by simp[c]))
   have q:vs.length=j.size:=by rw[b.len,a,vQ,xP];omega
   refine⟨vs++ws,?_,fun g c=>?_⟩
   .have:=b.append e
    rwa [a,<-List.drop_drop,vT]at this
   .rcases List.mem_cons.1 c with rfl | c
    .refine⟨j,t,ω,?_⟩;rw[a,vz,uG,List.take_append_of_le_length ω,uY ω];exact m
    .obtain⟨v,p,u,o⟩:=s g c;refine⟨v,p,ω,?_⟩;rw[List.drop_append,tj ω,uL,q,(ω:g.offset-off-j.size=g.offset-(off+j.size))];exact o
  .cases h
where
 lay_le {tot:Nat} : ∀(l:List Field) (off:Nat),nh T tot off l=true->off<=tot
  | [],off,h=>by simp only[nh,beq_iff_eq]at h;omega
  | f::r,off,h=>by
   simp only[nh]at h;split at h
   .simp only[tt]at h;have:=lay_le r _ h.2;omega
   .cases h
end
end Go.AM
namespace Go.AM
open Go
inductive Le:V->V->Prop
 | refl (v:V):Le v v
 | nil (z:Nat) (f:Bool):Le .nilS (.lst z f [])
 | agg (cs ds:List V) (hl:cs.length=ds.length) (h:∀(i:Nat) c d,cs[i]?=some c->ds[i]?=some d->Le c d):Le (.agg cs) (.agg ds)
 | tup (cs ds:List V) (hl:cs.length=ds.length) (h:∀(i:Nat) c d,cs[i]?=some c->ds[i]?=some d->Le c d):Le (.tup cs) (.tup ds)
theorem Le.one{a b:V}(h:Le a b)(h1:a.one=true):b.one=true:=by
 cases h with
 | refl=>exact h1
 | nil=>rfl
 | agg=>simp[V.one]at h1
 | tup=>simp[V.one]at h1
def Le.rel{s:St}{a b:V}(h:Le a b):∀{u:Value},Rel s a u->Rel s b u:=by
 induction h with
 | refl v=>exact fun h=>h
 | nil z f=>intro u h;cases h;exact dq z f none 0 (fun _=>rfl)
 | agg cs ds hl k j =>
  intro u h
  cases h with
  | agg _ us h1 h2 g =>
   refine .agg ds us ω (fun d e=>?_) (fun i d u e hu=>?_)
   .obtain⟨i,hi⟩:=List.mem_iff_getElem?.1 e;have c:cs[i]?=some (cs[i]'(by have:=aB hi;omega)):=tm _;exact(k i _ d c hi).one (h2 _ (tn c))
   .have c:cs[i]?=some (cs[i]'(by have:=aB e;omega)):=tm _;exact j i _ d c e (g i _ u c hu)
 | tup cs ds hl k j =>
  intro u h
  cases h with
  | tup _ us h1 g =>
   refine .tup ds us ω (fun i d u e hu=>?_);have c:cs[i]?=some (cs[i]'(by have:=aB e;omega)):=tm _;exact j i _ d c e (g i _ u c hu)
section
variable {P:Program} {T:Ty}
def pV{f:FuncId}{args c:List V}{K:V->Prop}(h:aK P f c K)(hl:args.length=c.length)(d:∀(i:Nat) a b,args[i]?=some a->c[i]?=some b->Le a b):aK P f args K:=by
 refine⟨h.1,fun F w vals e j g hrel=>h.2 F w vals e j ω (fun i b u hb hu=>?_)⟩;have ha:args[i]?=some (args[i]'(by have:=aB hb;omega)):=tm _;exact(d i _ b ha hb).rel (hrel i _ u ha hu)
def callX{f:FuncId}{args b:List V}{H:List B}{v:V}(h:aK P f b fun r=>r=v)(hl:args.length=b.length)(he:∀(i:Nat) a a',args[i]?=some a->b[i]?=some a'->Exp H a a')(hs:Scalar v):
  aM P (.fn f []) args H fun r H'=>r=v/\H'=H:=by
 simp only[aM,uC]
 exact(fq h hl he (.inr fun r hr=>by subst hr;exact hs)).mono fun r H' ⟨h1,_,c⟩=>⟨c,h1⟩
end
end Go.AM
namespace Go.AM
open Go
theorem gj{f:Nat->V->Option V} : ∀{xs:List V},(∀x∈xs,∃d0,∀d,d0<=d->f d x=some x)->∃d0,∀d,d0<=d->exL (f d) xs=some xs
 | [],_=>⟨0,fun _ _=>rfl⟩
 | x::xs,h=>by
  obtain⟨d1,h1⟩:=h x ζ;obtain⟨d2,h2⟩:=gj (xs:=xs) (fun y a=>h y (by simp[a]));exact⟨max d1 d2,fun d b=>by simp only[exL,h1 d ω,h2 d ω]⟩
def oF{H:List B}{n:Nat}{v:V}(h:Pure v):∃d0,∀d,d0<=d->exV H n d v=some v:=by
 induction h with
 | bool b=>exact⟨1,fun d a=>by obtain⟨k,rfl⟩:∃k,d=k+1:=⟨d-1,ω⟩;rfl⟩
 | int k m=>exact⟨1,fun d a=>by obtain⟨k,rfl⟩:∃k,d=k+1:=⟨d-1,ω⟩;rfl⟩
 | str x=>exact⟨1,fun d a=>by obtain⟨k,rfl⟩:∃k,d=k+1:=⟨d-1,ω⟩;rfl⟩
 | nilS=>exact⟨1,fun d a=>by obtain⟨k,rfl⟩:∃k,d=k+1:=⟨d-1,ω⟩;rfl⟩
 | nilP=>exact⟨1,fun d a=>by obtain⟨k,rfl⟩:∃k,d=k+1:=⟨d-1,ω⟩;rfl⟩
 | nilM=>exact⟨1,fun d a=>by obtain⟨k,rfl⟩:∃k,d=k+1:=⟨d-1,ω⟩;rfl⟩
 | nilFn=>exact⟨1,fun d a=>by obtain⟨k,rfl⟩:∃k,d=k+1:=⟨d-1,ω⟩;rfl⟩
 | nilI=>exact⟨1,fun d a=>by obtain⟨k,rfl⟩:∃k,d=k+1:=⟨d-1,ω⟩;rfl⟩
 | ifc=>exact⟨1,fun d a=>by obtain⟨k,rfl⟩:∃k,d=k+1:=⟨d-1,ω⟩;rfl⟩
 | fn f=>exact⟨1,fun d a=>by obtain⟨k,rfl⟩:∃k,d=k+1:=⟨d-1,ω⟩;rfl⟩
 | lst z f xs hx c =>
  obtain⟨d0,h0⟩:=gj (f:=exV H n) c;exact⟨d0+1,fun d a=>by obtain⟨k,rfl⟩:∃k,d=k+1:=⟨d-1,ω⟩;simp only[exV,h0 k ω]⟩
 | pin cs o hx c =>
  obtain⟨d0,h0⟩:=gj (f:=exV H n) c;exact⟨d0+1,fun d a=>by obtain⟨k,rfl⟩:∃k,d=k+1:=⟨d-1,ω⟩;simp only[exV,h0 k ω]⟩
 | agg cs hx c =>
  obtain⟨d0,h0⟩:=gj (f:=exV H n) c;exact⟨d0+1,fun d a=>by obtain⟨k,rfl⟩:∃k,d=k+1:=⟨d-1,ω⟩;simp only[exV,h0 k ω]⟩
 | tup cs hx c =>
  obtain⟨d0,h0⟩:=gj (f:=exV H n) c;exact⟨d0+1,fun d a=>by obtain⟨k,rfl⟩:∃k,d=k+1:=⟨d-1,ω⟩;simp only[exV,h0 k ω]⟩
section
variable {P:Program} {T:Ty} {s:St}
end
end Go.AM
namespace Go.AM
open Go
def tZ(k:Nat):List V->List V->Prop
 | [],[]=>True
 | x::xs,y::ys=>(y=x\/(x = .nilS/\y = .buf k 0 0 0))/\tZ k xs ys
 | _,_=>False
theorem tZ.len{k:Nat} : ∀{xs ys:List V},tZ k xs ys->xs.length=ys.length
 | [],[],_=>rfl
 | [],_::_,h=>h.elim
 | _::_,[],h=>h.elim
 | _::_,_::_,h=>by simp[h.2.len]
theorem tZ.at_{k:Nat} : ∀{xs ys:List V},tZ k xs ys->∀(i:Nat) x y,xs[i]?=some x->ys[i]?=some y->y=x\/(x = .nilS/\y = .buf k 0 0 0)
 | [],_,_,i,x,y,h,_=>by simp at h
 | _::_,[],h,_,_,_,_,_=>h.elim
 | a::xs,b::ys,h,0,x,y,h1,h2=>by simp at h1 h2;subst h1;subst h2;exact h.1
 | a::xs,b::ys,h,i+1,x,y,h1,h2=>h.2.at_ i x y (by simpa using h1) (by simpa using h2)
def fG(k:Nat)(sl:List Nat):Nat->List V->List V
 | _,[]=>[]
 | i,v::r=>(if sl.contains i then .buf k 0 0 0 else v)::fG k sl (i+1) r
section
variable {P:Program} {T:Ty}
def rel_own{s:St}{w:World}{g e z:Nat}(a:Step s (s.push w g 0 (.buf e z [] false))){x y:V}{u:Value}(h:Rel s x u)(ho:y=x\/(x = .nilS/\y = .buf s.H.length 0 0 0)):Rel (s.push w g 0 (.buf e z [] false)) y u:=by
 rcases ho with rfl | ⟨rfl,rfl⟩
 .exact h.step a
 .cases h;refine .buf s.H.length 0 0 0 e z [] false _ _ _ (by simp[St.push]) (uA _) (fun _=>?_);simp only[St.push,aR];exact⟨fun h=>absurd rfl h,ζ,ζ,ζ⟩
def bh(e z:Nat)(sl:List Nat){c:Code}{Q:Exit->List V->List B->Prop}{fr:List V}{H:List B}(ho:tZ H.length fr (fG H.length sl 0 fr))(h:W P c Q (fG H.length sl 0 fr) (H++[.buf e z [] false])):W P c Q fr H:=by
 intro s a hA f hf d;obtain⟨rfl,g⟩:=hA;obtain⟨p1,b⟩:=nQ f 0 e z false rfl rfl rfl (uA _) (fun _ _=>rfl);have hl:=ho.len
 have:=h (s.push s.w 0 0 (.buf e z [] false)) a ⟨rfl,g.step b⟩ p1 ⟨by rw[hf.len,hl],fun i v u hv hu=>by
  have hx:fr[i]?=some (fr[i]'(by have:=aB hv;omega)):=tm _
  exact rel_own b (hf.rel i _ u hx hu) (ho.at_ i _ v hx hv)⟩ d
 exact wp_mono this fun _ _ _ hl=>cK b hl
def cx(e z:Nat)(sl:List Nat)(k0:Nat)(k:List Nat){c:Code}{Q:Exit->List V->List B->Prop}{fr:List V}{H:List B}{cs:List V}(hk:H[k0]?=some (.cells cs))(ho:tZ H.length fr (fG H.length sl 0 fr))(q:tZ H.length cs (fG H.length k 0 cs))
  (h:W P c Q (fG H.length sl 0 fr) (H.set k0 (.cells (fG H.length k 0 cs))++[.buf e z [] false])):W P c Q fr H:=by
 intro s a hA C hf l;obtain⟨rfl,J⟩:=hA;obtain⟨p1,o⟩:=nQ C 0 e z false rfl rfl rfl (uA _) (fun _ _=>rfl);have hl:=ho.len;have L:=q.len;generalize j:s.push s.w 0 0 (.buf e z [] false)=b at p1 o
 have g:b.H[k0]?=some (.cells cs):=by rw[<-j];simp only[St.push];rw[tu (aB hk)];exact hk
 have n:∀x y u,Rel s x u->(y=x\/(x = .nilS/\y = .buf s.H.length 0 0 0))->Rel b y u:=fun x y u h1 h2=>by subst j;exact rel_own o h1 h2
 have m:b.w=s.w:=by rw[<-j];rfl
 have f:=bj (w:=b.w) (bl':=.cells (fG s.H.length k 0 cs)) p1 g (lvC g) trivial rfl rfl rfl (uA _) (fun _ _ _=>rfl)
 have p:Good (b.setB b.w k0 (.cells (fG s.H.length k 0 cs))):=by
  refine bw p1 g (lvC g) trivial rfl rfl rfl (uA _) (fun _ _ _=>rfl) (fun f=>?_);obtain⟨h1,vs,t,h2,M,F⟩:=C.blk k0 _ hk;obtain⟨_,vs1,t1,D,I,G⟩:=p1.blk k0 _ g
  have r:b.φ k0=s.φ k0:=by rw[<-j];exact cM _ _ (by have:=aB hk;omega)
  refine⟨fun d l=>?_,vs,t,by show b.w.heap[b.φ k0]?=_;rw[m,r];exact h2,ω,fun i d u l hu=>?_⟩
  .obtain⟨i,hi⟩:=List.mem_iff_getElem?.1 l;have hx:cs[i]?=some (cs[i]'(by have:=aB hi;omega)):=tm _
   rcases q.at_ i _ d hx hi with A | ⟨_,A⟩
   .rw[A];exact h1 _ (ti _)
   .rw[A];rfl
  .have hx:cs[i]?=some (cs[i]'(by have:=aB l;omega)):=tm _;exact(n _ d u (F i _ u hx hu) (q.at_ i _ d hx l)).step f
 have K:(b.setB b.w k0 (.cells (fG s.H.length k 0 cs))).H=s.H.set k0 (.cells (fG s.H.length k 0 cs))++[.buf e z [] false]:=by
  rw[<-j];simp only[St.setB,St.push];rw[List.set_append,if_pos (aB hk)]
 have:=h (b.setB b.w k0 (.cells (fG s.H.length k 0 cs))) a ⟨K,(J.step o).step f⟩ p ⟨by rw[hf.len,hl],fun i v u hv hu=>by
  have hx:fr[i]?=some (fr[i]'(by have:=aB hv;omega)):=tm _
  exact(n _ v u (hf.rel i _ u hx hu) (ho.at_ i _ v hx hv)).step f⟩ l
 have E:(b.setB b.w k0 (.cells (fG s.H.length k 0 cs))).w=s.w:=m;rw[E]at this
 exact wp_mono this fun _ _ _ hl=>cK (o.trans f) hl
def gX:List Bool->List V->List V
 | b::bs,v::r=>(match b with
  | true=>.undef
  | false=>v)::gX bs r
 | _,fr=>fr
@[simp] theorem maskB_t (bs:List Bool) (v:V) (r:List V):gX (true::bs) (v::r)= .undef::gX bs r:=rfl
@[simp] theorem maskB_f (bs:List Bool) (v:V) (r:List V):gX (false::bs) (v::r)=v::gX bs r:=rfl
@[simp] theorem maskB_n (fr:List V):gX [] fr=fr:=by cases fr<;>rfl
def W_loopV{σ:Type}(ms:List Bool)(ok:σ->Prop)(μ:σ->Nat)(g:σ->List (Nat×V))(Hf:σ->List B){c:Code}{Q:Exit->List V->List B->Prop}{fr:List V}{H:List B}(x0:σ)(h0:ok x0)(n:nB (ovr (gX ms fr) (g x0)) fr)(m:H=Hf x0)
  (k:∀x,ok x->H.length<=(Hf x).length)
  (j:∀x,ok x->∀(N:List V->List B->Prop) (l:Exit->List V->List B->Prop),(∀y i H',ok y->μ y<μ x->nB (ovr (gX ms fr) (g y)) i->(∃G,H'=Hf y++G)->(∀v∈ovr (gX ms fr) (g y),rb (Hf y).length v)->(∀bl∈Hf y,rbB (Hf y).length bl)->N i H')->
   (∀e i H',Q e i H'->l e i H')->W P c (mG N l) (ovr (gX ms fr) (g x)) (Hf x)):W P (.loop c) Q fr H :=
 W_loopS ok μ (fun x=>ovr (gX ms fr) (g x)) Hf x0 h0 n m k (fun x hx=>j x hx _ _ (fun y i H' a b c d e f=>⟨y,a,b,c,d,e,f⟩) (fun _ _ _ h=>h))
end
attribute [simp] tZ fG
def pure_rb1{n:Nat}{v:V}(h:Pure v)(ho:v.one=true):rb1 n v:=by
 cases h<;>first | trivial | assumption | (simp[V.one]at ho;done) | rfl
def cT{n:Nat}{v:V}(h:Pure v)(ho:v.one=true):rb n v:=by
 have:=pure_rb1 (n:=n) h ho
 cases h<;>first | trivial | assumption | (simp[V.one]at ho;done) | (intro c a;cases a;done)
def rbB_buf{n e z:Nat}{xs:List V}{fz:Bool}(h:∀x∈xs,Pure x)(ho:∀x∈xs,∀c∈x.cells,c.one=true):rbB n (.buf e z xs fz)↔True:=by
 refine⟨fun _=>trivial,fun _ x hx c a=>cT ((h x hx).cells c a) (ho x hx c a)⟩
def cC:V->Bool
 | .undef | .tup _=>false
 | .agg cs=>cs.all V.one
 | _=>true
def oneV_cells{x:V}(h:cC x=true):∀c∈x.cells,c.one=true:=by
 cases x<;>simp_all [cC,V.cells,V.one]
@[simp ↓ high] theorem rbB_buf1 {n e z:Nat} {xs:List V} {fz:Bool} (h:∀x∈xs,Pure x/\cC x=true):rbB n (.buf e z xs fz)↔True:=rbB_buf (fun x hx=>(h x hx).1) (fun x hx=>oneV_cells (h x hx).2)
attribute [simp] cC
end Go.AM
namespace Go.AM
open Go
def gU:Go.Op->Bool
 | .move _ | .assign _ | .pick .. | .unOp .. | .convert .. | .extract .. | .field .. | .fieldAddr .. | .index .. | .makeFunc .. | .build .. | .nilCheck _=>true
 | .binOp op _ _ _ _=>match op with
  | .eql | .neq=>false
  | _=>true
 | _=>false
section
variable {P:Program} {T:Ty}
def ow{o:Go.Op}{ρ:Operand->V}{H H':List B}{v:V}(hs:gU o=true)(h:aop T o ρ H=some (v,H'))(G:List B):aop T o ρ G=some (v,G):=by
 have a:∀{x:Option V} {H H':List B},x.map (·,H)=some (v,H')->x.map (·,G)=some (v,G):=fun {x H H'} h=>by
  cases x with
  | none=>cases h
  | some y=>simp at h;simp[h.1]
 cases o<;>simp only[gU,uM]at hs<;>simp only[aop]at h ⊢
 all_goals first
  | (exact a h)
  | (cases h;rfl)
  | skip
 .split at h<;>cases h;rfl
 .split at h<;>first | (cases h;rfl) | (cases h;done)
 .rename_i op t x y ty
  have e:dN T t op (ρ x) (ρ y) y=none:=by
   unfold dN
   cases op<;>first
    | (exfalso;simp at hs;done)
    | ((repeat' split)<;>first | rfl | contradiction)
  rw[e]at h ⊢;simp only at h ⊢;refine a ?_ (H:=H) (H':=H');rw[<-h];congr 1;unfold binTA;cases binA op (ρ x) (ρ y)<;>simp only
  cases op<;>first | rfl | (simp at hs;done)
 .split at h
  .rename_i b;rw[if_pos b];exact a h
  .cases h
 .split at h
  .split at h
   .rename_i b;rw[if_pos b];cases h;rfl
   .cases h
  .cases h
 .cases hx:ρ _<;>rw[hx]at h<;>simp only at h ⊢<;>first | (cases h;done) | exact a h
end
def kD:List (Nat×List Nat)->Nat->List Nat
 | [],_=>[]
 | (j,cs)::r,i=>if j=i then cs else kD r i
def ev:List Nat->Nat->Nat
 | [],_=>0
 | e::r,i=>if e<i then ev r i+1 else 0
def statT(ops:Array Oper)(E:List Nat)(tab:List (Nat×List Nat)):Bool :=
 stat1 ops&&stat2 ops E&&(tr ops.size).all fun i=>E.contains i||(match ops[i]? with
  | some o=>cR o.op&&(gU o.op||(tr (E.length+1)).all fun c=>!kL (aN [] ops.toList) E i c||c == ev E i||(kD tab i).contains c)
  | none=>true)
def oblT(T:Ty)(ops:Array Oper)(C:V->List V->List B->(V->List B->Prop)->Prop)(E:List Nat)(tab:List (Nat×List Nat))(Hs:Nat->List B):List Oper->Nat->Nat->List V->List V->Prop
 | [],_,_,_,_=>True
 | _::_,_,_,_,[]=>False
 | o::rest,i,c,fr,v::vs =>
  (match bU ops fr o with
   | some true=>match bF o.op with
    | some (f,args)=>if E.contains i then C (aO fr f) (args.map (aO fr)) (Hs c) (fun r H'=>r=v/\H'=Hs (c+1))
     else gC (fun c'=>C (aO fr f) (args.map (aO fr)) (Hs c') (fun r H'=>r=v/\H'=Hs c')) (c::kD tab i)
    | none=>if E.contains i||gU o.op then True else gC (fun c'=>aop T o.op (aO fr) (Hs c')=some (v,Hs c')) (kD tab i)
   | _=>True)/\oblT T ops C E tab Hs rest (i+1) (if E.contains i then c+1 else c) (bL fr o.dst v) vs
def DrawT(T:Ty)(ops:Array Oper)(E:List Nat)(tab:List (Nat×List Nat))(cv:List (V×List B))(C:V->List V->List B->(V->List B->Prop)->Prop)(K:List V->List B->Prop)(fr:List V)(H:List B):Prop :=
 match runT T ops E ops.toList 0 fr H cv with
 | none=>False
 | some (vs,hs,f)=>hs.length=E.length/\oblT T ops C E tab (fun c=>(H::hs)[c]?.getD []) ops.toList 0 0 fr vs/\K f ((H::hs)[E.length]?.getD [])
theorem cnt_idx:∀{E:List Nat},qb E=true->∀{i:Nat},E.contains i=true->E.idxOf i=ev E i
 | [],_,i,h=>by simp at h
 | [x],_,i,h=>by
  have:i=x:=by simpa using h
  subst this;simp[ev]
 | x::y::r,ha,i,h=>by
  have b:=ha;simp only[qb,tt,decide_eq_true_eq]at ha;by_cases hx:i=x
  .subst hx;simp[ev]
  .have c:(y::r).contains i=true:=by
    simp only[List.contains_cons,vA,beq_iff_eq,hx,false_or]at h ⊢;exact h
   have a:x<i:=by
    obtain⟨k,hk⟩:=List.mem_iff_getElem?.1 (List.contains_iff_mem.1 c);exact fy b 0 (k+1) x i ω rfl (by simpa using hk)
   have hb:(x == i)=false:=by simpa using Ne.symm hx
   rw[List.idxOf_cons,hb,cond_false,cnt_idx ha.2 c];simp only[ev,a,if_true]
theorem go:∀{E:List Nat},qb E=true->∀(i:Nat),ev E (i+1)=if E.contains i then ev E i+1 else ev E i
 | [],_,i=>by simp[ev]
 | [x],_,i=>by
  by_cases h:x=i
  .subst h;simp[ev]
  .have h2:¬i=x:=fun e=>h e.symm
   by_cases a:x<i
   .simp[ev,h2,a,(ω:x<i+1)]
   .simp[ev,h2,a,(ω:¬x<i+1)]
 | x::y::r,ha,i=>by
  have b:=ha;simp only[qb,tt,decide_eq_true_eq]at ha;have g:=go ha.2 i;by_cases h:x=i
  .subst h
   have f:¬y<x+1:=by omega
   have l:¬y<x:=by omega
   simp[ev,f]
  .have h2:¬i=x:=fun e=>h e.symm
   have c:∀j,ev (x::y::r) j=if x<j then ev (y::r) j+1 else 0:=fun _=>rfl
   rw[c,c];by_cases a:x<i
   .rw[if_pos ω,if_pos a,g];simp only[List.contains_cons,show(i == x)=false by simpa using h2,vP];split<;>rfl
   .rw[if_neg ω,if_neg a]
    have hn:(x::y::r).contains i=false:=by
     rw[xy];intro d;obtain⟨k,hk⟩:=List.mem_iff_getElem?.1 (List.contains_iff_mem.1 d)
     cases k with
     | zero=>simp at hk;omega
     | succ k=>have:=fy b 0 (k+1) x i ω rfl hk;omega
    rw[hn];rfl
section
variable {P:Program} {T:Ty}
theorem lM{ops:Array Oper}{C:V->List V->List B->(V->List B->Prop)->Prop}{E:List Nat}{tab:List (Nat×List Nat)}{Hs:Nat->List B}(a:qb E=true)
  (t:∀i o,ops[i]?=some o->E.contains i=false->cR o.op=true/\(gU o.op=true\/∀c,c<E.length+1->kL (aN [] ops.toList) E i c=true->c=ev E i\/c∈kD tab i)):
  ∀(l:List Oper) (i:Nat) (fr:List V) (H:List B) (cv:List (V×List B)) (vs:List V) (hs:List (List B)) (f:List V),l=ops.toList.drop i->runT T ops E l i fr H cv=some (vs,hs,f)->(∀k,k<=hs.length->Hs (ev E i+k)=((H::hs)[k]?).getD [])->
   oblT T ops C E tab Hs l i (ev E i) fr vs->dg T ops C (aN [] ops.toList) E Hs l i fr vs
 | [],i,fr,H,cv,vs,hs,f,hl,hr,F,h=>trivial
 | o::j,i,fr,H,cv,vs,hs,f,hl,hr,F,h=>by
  have ho:ops[i]?=some o:=by
   have:=congrArg (fun l=>l[0]?) hl;simp at this;exact this.symm
  have r:j=ops.toList.drop (i+1):=by
   have:=congrArg List.tail hl;simpa using this
  have G:Hs (ev E i)=H:=by have:=F 0 (wV _);simpa using this
  simp only[runT]at hr
  cases y:bU ops fr o with
  | none=>rw[y]at hr;cases hr
  | some b =>
  rw[y]at hr
  cases b with
  | false =>
   simp only at hr;split at hr
   .cases hr
   rename_i m
   have m:E.contains i=false:=by simpa using m
   split at hr
   .rename_i e D P w;cases hr;simp only[oblT,y,m,uM,if_false]at h;simp only[dg,y];refine⟨⟨by first | trivial | rfl,m⟩,lM a t j (i+1) _ H cv e _ _ r w (fun k hk=>?_) ?_⟩
    .rw[go a,m];simpa using F k hk
    .rw[go a,m];simpa using h.2
   .cases hr
  | true =>
   simp only at hr
   have J:∀(v:V) (H':List B) (s:List (V×List B)),(if E.contains i then(match runT T ops E j (i+1) (bL fr o.dst v) H' s with
      | some (vs,hs,f)=>some (v::vs,H'::hs,f)
      | none=>none)
     else(match runT T ops E j (i+1) (bL fr o.dst v) H s with
      | some (vs,hs,f)=>some (v::vs,hs,f)
      | none=>none))=some (vs,hs,f)->
     ∃e,vs=v::e/\(E.contains i=true->Hs (ev E i+1)=H')/\(oblT T ops C E tab Hs j (i+1) (if E.contains i then ev E i+1 else ev E i) (bL fr o.dst v) e->dg T ops C (aN [] ops.toList) E Hs j (i+1) (bL fr o.dst v) e):=fun v H' s hq=>by
    cases m:E.contains i with
    | true =>
     rw[m]at hq;simp only[if_true]at hq;split at hq
     .rename_i e D P w;cases hq;refine⟨e,rfl,fun _=>?_,fun N=>?_⟩
      .have:=F 1 ζ;simpa using this
      .refine lM a t j (i+1) _ H' s e D _ r w (fun k hk=>?_) ?_
       .rw[go a,m];have:=F (k+1) χ;simp only[if_true,vC]at this ⊢;rw[(ω:ev E i+1+k=ev E i+(k+1))];exact this
       .rw[go a,m];simpa using N
     .cases hq
    | false =>
     rw[m]at hq;simp only[uM,if_false]at hq;split at hq
     .rename_i e D P w;cases hq;refine⟨e,rfl,(fun h=>by cases h),fun N=>?_⟩;refine lM a t j (i+1) _ H s e hs _ r w (fun k hk=>?_) ?_
      .rw[go a,m];simpa using F k hk
      .rw[go a,m];simpa using N
     .cases hq
   cases x:bF o.op with
   | some p =>
    obtain⟨g,args⟩:=p;rw[x]at hr;simp only at hr;split at hr
    .rename_i v H' s;obtain⟨e,rfl,I,u⟩:=J v H' s hr;simp only[oblT,y,x]at h;simp only[dg,y,x];refine⟨?_,u h.2⟩
     cases m:E.contains i with
     | true =>
      rw[m]at h;simp only[if_true]at h ⊢;rw[cnt_idx a m];exact h.1
     | false =>
      rw[m]at h;simp only[uM,if_false]at h ⊢;obtain⟨O,A⟩:=t i o ho m
      have L:gU o.op=false:=by
       cases n:o.op<;>rw[n]at x<;>simp only[bF]at x<;>first | (cases x;done) | rfl
      rw[L]at A;have A:=A.resolve_left ζ;refine allC_of (fun c z=>?_);split
      .rename_i hp
       rcases A c (by simpa using z) hp with rfl | hm
       .exact gA h.1 _ ζ
       .exact gA h.1 _ (by simp[hm])
      .trivial
    .cases hr
   | none =>
    rw[x]at hr;simp only at hr
    cases n:aop T o.op (aO fr) H with
    | none=>rw[n]at hr;cases hr
    | some q =>
     obtain⟨v,H'⟩:=q;rw[n]at hr;simp only at hr;obtain⟨e,rfl,I,u⟩:=J v H' cv hr;simp only[oblT,y,x]at h;simp only[dg,y,x];refine⟨?_,u h.2⟩
     cases m:E.contains i with
     | true =>
      simp only[if_true];rw[cnt_idx a m,G,I m];exact n
     | false =>
      rw[m]at h;simp only[uM,if_false,vP]at h ⊢;obtain⟨O,A⟩:=t i o ho m;have M:=mP O n;subst M;refine allC_of (fun c z=>?_);split
      .rename_i hp
       cases K:gU o.op with
       | true=>exact ow K n _
       | false =>
        rw[K]at h A;simp only[uM,if_false]at h
        rcases(A.resolve_left ζ) c (by simpa using z) hp with rfl | hm
        .rw[G];exact n
        .exact gA h.1 _ hm
      .trivial
where
 allC_of {p:Nat->Prop} : ∀{l:List Nat},(∀c∈l,p c)->gC p l
  | [],_=>trivial
  | c::l,h=>⟨h c ζ,allC_of (fun d Q=>h d (by simp[Q]))⟩
def drawT_ob{ops:Array Oper}{C:V->List V->List B->(V->List B->Prop)->Prop}{K:List V->List B->Prop}{fr:List V}{H:List B}(E:List Nat)(tab:List (Nat×List Nat))(cv:List (V×List B))(g:statT ops E tab=true)(h1:DrawT T ops E tab cv C K fr H):kz T ops E cv C K fr H:=by
 unfold DrawT at h1;unfold kz;simp only[statT,tt]at g;obtain⟨⟨m,a⟩,j⟩:=g;split at h1
 .exact h1.elim
 .rename_i vs hs f hr;rw[hr];obtain⟨a1,n,a3⟩:=h1
  have d:qb E=true:=by
   unfold stat2 at a;simp only[tt]at a;exact a.1.1
  have e:ev E 0=0:=by cases E<;>simp[ev]
  refine⟨⟨stat_ok m a,a1⟩,?_,a3⟩;refine lM d (fun i o ho q=>?_) ops.toList 0 fr H cv vs hs f ζ hr (fun k hk=>by rw[e,vD]) (by rw[e];exact n);have l:i<ops.size:=(Array.getElem?_eq_some_iff.1 ho).1;have:=List.all_eq_true.1 j i (by simpa using l);rw[q,ho,vP]at this;simp only[tt,vA]at this;refine⟨this.1,this.2.imp (fun h=>h) (fun hall c p hp=>?_)⟩;have b:=List.all_eq_true.1 hall c (by simpa using p);simp only[vA,uj,beq_iff_eq]at b
  rcases b with(b | b) | b
  .rw[hp]at b;cases b
  .exact .inl b
  .exact .inr (List.contains_iff_mem.1 b)
def ae(d:TOk P T)(hm:P.follows .mixedOrders=true){id:Nat}{ops:Array Oper}{Q:Exit->List V->List B->Prop}{fr:List V}{H:List B}(E:List Nat)(tab:List (Nat×List Nat))(cv:List (V×List B))(a:statT ops E tab=true)
  (h:∀(C:V->List V->List B->(V->List B->Prop)->Prop) (K:List V->List B->Prop),(∀b args H K',aM P b args H K'->C b args H K')->(∀fr H,Q .normal fr H->K fr H)->DrawT T ops E tab cv C K fr H):W P (.region id ops true) Q fr H :=
 W_draw d hm E cv fun C K e c=>drawT_ob E tab cv a (h C K e c)
end
attribute [simp] DrawT runT oblT kD gC gU
end Go.AM
namespace Go.AM
open Go
def pe(p q:V):List V->List V->Prop
 | [],[]=>True
 | x::xs,y::ys=>(y=x\/(x=p/\y=q))/\pe p q xs ys
 | _,_=>False
theorem pe.len{p q:V} : ∀{xs ys:List V},pe p q xs ys->xs.length=ys.length
 | [],[],_=>rfl
 | [],_::_,h=>h.elim
 | _::_,[],h=>h.elim
 | _::_,_::_,h=>by simp[h.2.len]
theorem pe.at_{p q:V} : ∀{xs ys:List V},pe p q xs ys->∀(i:Nat) x y,xs[i]?=some x->ys[i]?=some y->y=x\/(x=p/\y=q)
 | [],_,_,i,x,y,h,_=>by simp at h
 | _::_,[],h,_,_,_,_,_=>h.elim
 | a::xs,b::ys,h,0,x,y,h1,h2=>by simp at h1 h2;subst h1;subst h2;exact h.1
 | a::xs,b::ys,h,i+1,x,y,h1,h2=>h.2.at_ i x y (by simpa using h1) (by simpa using h2)
def iB(q:V)(sl:List Nat):Nat->List V->List V
 | _,[]=>[]
 | i,v::r=>(if sl.contains i then q else v)::iB q sl (i+1) r
section
variable {P:Program} {T:Ty}
def St.frz(s:St)(k:Nat)(bl:B):St:={ s with H:=s.H.set k bl }
def frz_lv{s:St}{k e z:Nat}{xs:List V}{fz:Bool}(hk:s.H[k]?=some (.buf e z xs fz)){i:Nat}(h:Lv (s.frz k (.buf e z xs true)) i):Lv s i:=by
 have b:i<s.H.length:=by have:=h.1;simpa[St.frz] using this
 refine⟨b,fun e' f d c hb=>?_⟩;by_cases a:i=k
 .subst a;exact h.2 e z xs true (by simp only[St.frz];rw[uJ b])
 .exact h.2 e' f d c (by simp only[St.frz];rw[uH (Ne.symm a)];exact hb)
def pK{s:St}(b:Good s){k e z:Nat}{xs:List V}{fz:Bool}(hk:s.H[k]?=some (.buf e z xs fz)):
  Good (s.frz k (.buf e z xs true))/\Step s (s.frz k (.buf e z xs true))/\∀u,Rel s (.buf k 0 xs.length xs.length) u->Rel (s.frz k (.buf e z xs true)) (.lst z false xs) u:=by
 have m:=aB hk
 have g:Step s (s.frz k (.buf e z xs true)):=⟨rfl,rfl,rfl,rfl,uA _,fun _ _ _=>rfl,by simp[St.frz],fun i h1 h2=>absurd h1 (by have:=h2.1;simp[St.frz]at this;omega),fun i bl hi=>by
  by_cases f:i=k
  .subst f;rw[hk]at hi;cases hi;exact⟨xs,true,by simp[St.frz,m],uA _,fun _=>⟨rfl,rfl⟩,fun _=>⟨rfl,rfl,fun _=>rfl⟩,.inl rfl,.inl⟩
  .have o:(s.frz k (.buf e z xs true)).H[i]?=some bl:=by simp only[St.frz];rw[uH (Ne.symm f)];exact hi
   cases bl with
   | cells cs=>exact⟨rfl,cs,o⟩
   | map kk es=>exact⟨rfl,es,o⟩
   | buf e z xs fz=>exact⟨xs,fz,o,uA _,fun _=>⟨rfl,rfl⟩,fun hf=>⟨hf,rfl,fun _=>rfl⟩,.inl rfl,.inl⟩⟩
 have v:Good (s.frz k (.buf e z xs true)):=by
  refine⟨b.fl,fun i hi=>b.lt i (frz_lv hk hi),fun i j hi B=>b.inj i j (frz_lv hk hi) (frz_lv hk B),fun i bl hi=>?_⟩;by_cases f:i=k
  .subst f;simp only[St.frz]at hi;rw[uJ m]at hi;cases hi;obtain⟨vs,G,E,J,F,D,I⟩:=b.blk i _ hk;exact⟨vs,G,E,J,F,D,fun a x j c u h1 h2 p=>(I a x j c u h1 h2 p).step g⟩
  .have r:s.H[i]?=some bl:=by simp only[St.frz]at hi;rwa [uH (Ne.symm f)]at hi
   exact(b.blk i bl r).step g r rfl rfl (fun _=>rfl)
 refine⟨v,g,fun u h=>?_⟩
 cases h with
 | buf _ _ _ _ O P K N A l c t ht M =>
  rw[hk]at t;cases t;obtain⟨hA,rfl,hcap,_⟩:=M rfl;obtain⟨vs,G,E,J,F,D,I⟩:=b.blk k _ hk;by_cases y:xs.length=0
  .have hx:xs=[]:=vL y;subst hx;exact dq z false A c (fun h=>by cases h)
  have q:s.κ k≠0:=by omega
  have hA:=hA q;subst hA;have n:=lvB hk q
  have L:(s.frz k (.buf e z xs true)).Prot (s.φ k):=by
   refine⟨(b.lt k n).1,(b.lt k n).2,fun j B e'=>?_⟩;have:=b.inj j k (frz_lv hk B) n e';subst this;exact⟨e,z,xs,by simp only[St.frz];rw[uJ m]⟩
  refine .lst z false xs _ c (s.φ k) (0*z) (fun i j=>(s.w.cell? ⟨s.φ k,0*z+i*z+j,none⟩).getD Go.undef) ω ζ (fun _=>⟨rfl,L⟩) D (fun i x j d hx C=>?_) (fun i x j d hx C=>?_)
  .obtain⟨_,_,p⟩:=je b hk hx;obtain⟨u,hu,_⟩:=p j d C;show s.w.cell? _=_;rw[vp,vD,hu];rfl
  .obtain⟨_,_,p⟩:=je b hk hx;obtain⟨u,hu,hr⟩:=p j d C;rw[vp,vD,hu];exact hr.step g
def nt{s:St}(b:Good s){k e z:Nat}{xs:List V}{fz:Bool}(hk:s.H[k]?=some (.buf e z xs fz)){x y:V}{u:Value}(h:Rel s x u)(ho:y=x\/(x = .buf k 0 xs.length xs.length/\y = .lst z false xs)):Rel (s.frz k (.buf e z xs true)) y u:=by
 obtain⟨_,h2,a⟩:=pK b hk
 rcases ho with rfl | ⟨rfl,rfl⟩
 .exact h.step h2
 .exact a u h
def dv(k:Nat)(sl:List Nat){c:Code}{Q:Exit->List V->List B->Prop}{fr:List V}{H:List B}{e z:Nat}{xs:List V}{fz:Bool}(hk:H[k]?=some (.buf e z xs fz))
  (ho:pe (.buf k 0 xs.length xs.length) (.lst z false xs) fr (iB (.lst z false xs) sl 0 fr)) (h:W P c Q (iB (.lst z false xs) sl 0 fr) (H.set k (.buf e z xs true))):W P c Q fr H:=by
 intro s a hA b hf f;obtain⟨rfl,g⟩:=hA;obtain⟨p1,d,_⟩:=pK b hk;have hl:=ho.len
 have:=h (s.frz k (.buf e z xs true)) a ⟨rfl,g.step d⟩ p1 ⟨by rw[hf.len,hl],fun i v u hv hu=>by
  have hx:fr[i]?=some (fr[i]'(by have:=aB hv;omega)):=tm _
  exact nt b hk (hf.rel i _ u hx hu) (ho.at_ i _ v hx hv)⟩ f
 exact wp_mono this fun _ _ _ hl=>cK d hl
def fA(k:Nat)(sl:List Nat)(k0:Nat)(m:List Nat){c:Code}{Q:Exit->List V->List B->Prop}{fr:List V}{H:List B}{e z:Nat}{xs cs:List V}{fz:Bool}(hk:H[k]?=some (.buf e z xs fz))(l:H[k0]?=some (.cells cs))
  (ho:pe (.buf k 0 xs.length xs.length) (.lst z false xs) fr (iB (.lst z false xs) sl 0 fr)) (A:pe (.buf k 0 xs.length xs.length) (.lst z false xs) cs (iB (.lst z false xs) m 0 cs))
  (h:W P c Q (iB (.lst z false xs) sl 0 fr) ((H.set k (.buf e z xs true)).set k0 (.cells (iB (.lst z false xs) m 0 cs)))):W P c Q fr H:=by
 intro s a hA D hf n;obtain⟨rfl,J⟩:=hA;obtain⟨p1,r,_⟩:=pK D hk;have hl:=ho.len;have L:=A.len
 have F:k0≠k:=fun h=>by subst h;rw[hk]at l;cases l
 generalize g:s.frz k (.buf e z xs true)=b at p1 r
 have j:b.H[k0]?=some (.cells cs):=by rw[<-g];simp only[St.frz];rw[uH (Ne.symm F)];exact l
 have p:∀x y u,Rel s x u->(y=x\/(x = .buf k 0 xs.length xs.length/\y = .lst z false xs))->Rel b y u:=fun x y u h1 h2=>by subst g;exact nt D hk h1 h2
 have o:b.w=s.w:=by rw[<-g];rfl
 have f:=bj (w:=b.w) (bl':=.cells (iB (.lst z false xs) m 0 cs)) p1 j (lvC j) trivial rfl rfl rfl (uA _) (fun _ _ _=>rfl)
 have q:Good (b.setB b.w k0 (.cells (iB (.lst z false xs) m 0 cs))):=by
  refine bw p1 j (lvC j) trivial rfl rfl rfl (uA _) (fun _ _ _=>rfl) (fun f=>?_);obtain⟨h1,vs,t,h2,M,I⟩:=D.blk k0 _ l
  have C:b.φ k0=s.φ k0:=by rw[<-g];rfl
  refine⟨fun d n=>?_,vs,t,by show b.w.heap[b.φ k0]?=_;rw[o,C];exact h2,ω,fun i d u n hu=>?_⟩
  .obtain⟨i,hi⟩:=List.mem_iff_getElem?.1 n;have hx:cs[i]?=some (cs[i]'(by have:=aB hi;omega)):=tm _
   rcases A.at_ i _ d hx hi with E | ⟨_,E⟩
   .rw[E];exact h1 _ (ti _)
   .rw[E];rfl
  .have hx:cs[i]?=some (cs[i]'(by have:=aB n;omega)):=tm _;exact(p _ d u (I i _ u hx hu) (A.at_ i _ d hx n)).step f
 have K:(b.setB b.w k0 (.cells (iB (.lst z false xs) m 0 cs))).H=(s.H.set k (.buf e z xs true)).set k0 (.cells (iB (.lst z false xs) m 0 cs)):=by
  rw[<-g];rfl
 have:=h (b.setB b.w k0 (.cells (iB (.lst z false xs) m 0 cs))) a ⟨K,(J.step r).step f⟩ q ⟨by rw[hf.len,hl],fun i v u hv hu=>by
  have hx:fr[i]?=some (fr[i]'(by have:=aB hv;omega)):=tm _
  exact(p _ v u (hf.rel i _ u hx hu) (ho.at_ i _ v hx hv)).step f⟩ n
 have G:(b.setB b.w k0 (.cells (iB (.lst z false xs) m 0 cs))).w=s.w:=o;rw[G]at this
 exact wp_mono this fun _ _ _ hl=>cK (r.trans f) hl
def callF{f:FuncId}{args c:List V}{H:List B}{v:V}(k:Nat){e z:Nat}{xs:List V}{fz:Bool}(hk:H[k]?=some (.buf e z xs fz))(h:aK P f c fun r=>r=v)(hr:pe (.buf k 0 xs.length xs.length) (.lst z false xs) args c)(hp:∀a∈c,Pure a):
  aM P (.fn f []) args H fun r H'=>r=v/\H'=H.set k (.buf e z xs true):=by
 simp only[aM,uC];have h1:=fq (H:=H.set k (.buf e z xs true)) h (rfl:c.length=c.length) (fun i a q ha d=>by rw[ha]at d;cases d;exact .pure a (hp a (tn ha))) (.inl hp);refine⟨h1.1,fun s vals hA g o hrel=>?_⟩;obtain⟨rfl,n⟩:=hA;obtain⟨p1,j,_⟩:=pK g hk;have hl:=hr.len
 refine(h1.2 (s.frz k (.buf e z xs true)) vals ⟨rfl,n.step j⟩ p1 ω (fun i b u hb hu=>?_)).mono fun e' w ⟨u,s',r,a1,l,a3,a4,a5,m,t,p⟩=>⟨u,s',r,a1,l,a3,j.trans a4,a5,p,m⟩
 have hx:args[i]?=some (args[i]'(by have:=aB hb;omega)):=tm _;exact nt g hk (hrel i _ u hx hu) (hr.at_ i _ b hx hb)
end
attribute [simp] pe iB
end Go.AM
namespace Go.AM
open Go
def oblS(T:Ty)(ops:Array Oper)(C:V->List V->List B->(V->List B->Prop)->Prop)(E S:List Nat)(tab:List (Nat×List Nat))(Hs:Nat->List B):List Oper->Nat->Nat->List V->List V->Prop
 | [],_,_,_,_=>True
 | _::_,_,_,_,[]=>False
 | o::rest,i,c,fr,v::vs =>
  (S.contains i=true->bU ops fr o=some false)/\(match bU ops fr o with
   | some true=>match bF o.op with
    | some (f,args)=>if E.contains i then C (aO fr f) (args.map (aO fr)) (Hs c) (fun r H'=>r=v/\H'=Hs (c+1))
     else gC (fun c'=>C (aO fr f) (args.map (aO fr)) (Hs c') (fun r H'=>r=v/\H'=Hs c')) (c::kD tab i)
    | none=>if E.contains i||gU o.op then True else gC (fun c'=>aop T o.op (aO fr) (Hs c')=some (v,Hs c')) (kD tab i)
   | _=>True)/\oblS T ops C E S tab Hs rest (i+1) (if E.contains i then c+1 else c) (bL fr o.dst v) vs
def DrawS(T:Ty)(ops:Array Oper)(E S:List Nat)(tab:List (Nat×List Nat))(cv:List (V×List B))(C:V->List V->List B->(V->List B->Prop)->Prop)(K:List V->List B->Prop)(fr:List V)(H:List B):Prop :=
 match runT T ops E ops.toList 0 fr H cv with
 | none=>False
 | some (vs,hs,f)=>hs.length=E.length/\oblS T ops C E S tab (fun c=>(H::hs)[c]?.getD []) ops.toList 0 0 fr vs/\K f ((H::hs)[E.length]?.getD [])
section
variable {P:Program} {T:Ty}
end
attribute [simp] DrawS oblS
end Go.AM
namespace Go.AM
open Go
inductive ExpX (H:List B):V->V->Prop
 | pure (v:V) (h:Pure v):ExpX H v v
 | buf (k e z:Nat) (xs:List V) (fz:Bool) (hk:H[k]?=some (.buf e z xs fz)) (hp:∀x∈xs,Pure x):ExpX H (.buf k 0 xs.length xs.length) (.lst z false xs)
 | bufx (k e z:Nat) (xs ys:List V) (fz:Bool) (hk:H[k]?=some (.buf e z xs fz)) (hl:xs.length=ys.length) (h:∀(i:Nat) c d,xs[i]?=some c->ys[i]?=some d->ExpX H c d):ExpX H (.buf k 0 xs.length xs.length) (.lst z false ys)
 | agg (cs ds:List V) (hl:cs.length=ds.length) (h:∀(i:Nat) c d,cs[i]?=some c->ds[i]?=some d->ExpX H c d):ExpX H (.agg cs) (.agg ds)
 | tup (cs ds:List V) (hl:cs.length=ds.length) (h:∀(i:Nat) c d,cs[i]?=some c->ds[i]?=some d->ExpX H c d):ExpX H (.tup cs) (.tup ds)
theorem pR{f:Nat->V->Option V} : ∀{xs ys:List V},xs.length=ys.length->(∀(i:Nat) x y,xs[i]?=some x->ys[i]?=some y->∃d0,∀d,d0<=d->f d x=some y)->∃d0,∀d,d0<=d->exL (f d) xs=some ys
 | [],[],_,_=>⟨0,fun _ _=>rfl⟩
 | x::xs,y::ys,hl,h=>by
  obtain⟨d1,h1⟩:=h 0 x y rfl rfl;obtain⟨d2,h2⟩:=pR (xs:=xs) (ys:=ys) (by simpa using hl) (fun i a b ha hb=>h (i+1) a b (by simpa using ha) (by simpa using hb));exact⟨max d1 d2,fun d c=>by simp only[exL,h1 d ω,h2 d ω]⟩
def ExpX.ex{H:List B}{v v':V}(h:ExpX H v v'):∃d0,∀d,d0<=d->exV H 0 d v=some v':=by
 induction h with
 | pure v h=>exact oF h
 | buf k e z xs fz hk hp =>
  obtain⟨d0,h0⟩:=gj (f:=exV H 0) (fun v hv=>oF (hp v hv));refine⟨d0+1,fun d b=>?_⟩;obtain⟨m,rfl⟩:∃m,d=m+1:=⟨d-1,ω⟩;simp only[exV,Nat.not_lt_zero,if_false,hk];rw[if_pos ⟨by first | trivial | rfl,ω⟩,uG,uV,h0 m ω]
 | bufx k e z xs ys fz hk hl _ a =>
  obtain⟨d0,h0⟩:=pR (f:=exV H 0) hl a;refine⟨d0+1,fun d b=>?_⟩;obtain⟨m,rfl⟩:∃m,d=m+1:=⟨d-1,ω⟩;simp only[exV,Nat.not_lt_zero,if_false,hk];rw[if_pos ⟨by first | trivial | rfl,ω⟩,uG,uV,h0 m ω]
 | agg cs ds hl _ a =>
  obtain⟨d0,h0⟩:=pR (f:=exV H 0) hl a;exact⟨d0+1,fun d b=>by obtain⟨m,rfl⟩:∃m,d=m+1:=⟨d-1,ω⟩;simp only[exV,h0 m ω]⟩
 | tup cs ds hl _ a =>
  obtain⟨d0,h0⟩:=pR (f:=exV H 0) hl a;exact⟨d0+1,fun d b=>by obtain⟨m,rfl⟩:∃m,d=m+1:=⟨d-1,ω⟩;simp only[exV,h0 m ω]⟩
def oC{H:List B}{k len e z:Nat}{xs:List V}{fz:Bool}(hk:H[k]?=some (.buf e z xs fz))(hl:len=xs.length)(hp:∀x∈xs,Pure x):ExpX H (.buf k 0 len len) (.lst z false xs):=by
 subst hl;exact .buf k e z xs fz hk hp
def fo{P:Program}{f:FuncId}{args:List V}{K:V->Prop}(h:ak P f args [] fun r H=>∃a,ExpX H r a/\Pure a/\K a):aK P f args K:=by
 refine⟨h.1,fun F w vals m j d hrel=>?_⟩
 refine(h.2 (base F w) vals ⟨rfl,m⟩ (base_good j) d hrel).mono fun e p ⟨u,s',r,a1,i,a3,a4,a5,a,n,g,o⟩=>?_
 subst i;have hb:=iX a4;refine⟨u,a,a1,g,?_,hb,o⟩;have c:s'.F=F:=a4.F;obtain⟨d0,l⟩:=n.ex;have hr:=ex_rel (H:=[]) (G:=s'.H) a3 rfl d0 r a u a5 (l d0 (uA _));exact hr.pure_ (t:=base F s'.w) g (fun b hb=>⟨⟨hb.1,fun hf=>hb.2.1 (by show s'.F b;rw[c];exact hf),fun k hk=>by have:=hk.1;simp[base]at this⟩,rfl⟩)
end Go.AM
namespace Go.AM
open Go
section
variable {P:Program} {T:Ty}
end
def mB:Nat->Nat->List Bool
 | 0,_=>[]
 | n+1,N=>decide (N % 2=1)::mB n (N / 2)
def W_loopM{P:Program}{σ:Type}(n N:Nat){ms:List Bool}(h:mB n N=ms)(ok:σ->Prop)(μ:σ->Nat)(g:σ->List (Nat×V))(Hf:σ->List B){c:Code}{Q:Exit->List V->List B->Prop}{fr:List V}{H:List B}(x0:σ)(h0:ok x0)(j:nB (ovr (gX ms fr) (g x0)) fr)(i:H=Hf x0)
  (d:∀x,ok x->H.length<=(Hf x).length)
  (b:∀x,ok x->∀(N:List V->List B->Prop) (f:Exit->List V->List B->Prop),(∀y a H',ok y->μ y<μ x->nB (ovr (gX ms fr) (g y)) a->(∃G,H'=Hf y++G)->(∀v∈ovr (gX ms fr) (g y),rb (Hf y).length v)->(∀bl∈Hf y,rbB (Hf y).length bl)->N a H')->
   (∀e a H',Q e a H'->f e a H')->W P c (mG N f) (ovr (gX ms fr) (g x)) (Hf x)):W P (.loop c) Q fr H :=
 W_loopV ms ok μ g Hf x0 h0 j i d b
def cPx{P:Program}{f:FuncId}{args b:List V}{H:List B}{v:V}{K:V->List B->Prop}(h:aK P f args fun r=>r=v)(k:K v H)(hp:∀a∈args,AM.Pure a:=by simp)(e:b=args:=by exact rfl):aM P (.fn f []) b H K:=e▸(bQ h hp).mono (by rintro r H' ⟨rfl,rfl⟩;exact k)
def cQx{P:Program}{f:FuncId}{args b:List V}{H:List B}{v:V}{K:V->List B->Prop}(h:aK P f args fun r=>r=v)(k:K v H)(hp:∀a∈args,AM.Pure a:=by simp)(e:b=args:=by exact rfl):CY (aM P) (.fn f []) b H K:=e▸oM v ((bQ h hp).mono fun _ _ h=>h) k
def sTx{p q:Prop}{r:Prop}{t:Tag q}(k:p)(h:q:=by kernel_rfl):r\/Stop q t/\p:=.inr ⟨cG h,k⟩
def zMx{p:Prop}(h:p:=by simp[mB]<;>rfl):p:=h
end Go.AM
end
