/- JM6: own texts of this seat, joined and shortened by pack4.py: AMf. -/
import Derived.Test.YtdnhplencamncaaGreatDoorJM5
import Derived.Deep.Slices
set_option linter.unusedVariables false
set_option linter.unusedSimpArgs false
set_option maxRecDepth 100000
set_option maxHeartbeats 64000000
open Bool renaming and_eq_true→oP,false_eq_true→oZ,or_eq_true→pW,not_eq_true'→pZ,false_or→pr,eq_false_iff→rS
open List renaming getElem?_eq_getElem→oG,mem_of_getElem?→oH,getElem_mem→oI,getElem?_append_left→oL,range→oM,getElem?_set_ne→oQ,getElem?_append_right→oS,append_nil→oU,drop_of_length_le→oV,getElem?_set_self→oX,take_length→oY,length_take→ot,take_of_length_le→pA,drop_zero→pC,nil_append→pH,getElem?_cons_succ→pL,eq_nil_of_length_eq_zero→pX,take_append_drop→pc,length_drop→pk,take_append_of_le_length→qg,tail→rx
open Nat renaming le_refl→oJ,zero_add→pI,sub_self→px,zero_mul→pz,zero_le→qV
section
namespace Go.AM
open Go
inductive Tag (p:Prop):Type
 | mk
def Stop(p:Prop)(_:Tag p):Prop:=p
theorem aS{p:Prop}{t:Tag p}(h:p):Stop p t:=h
inductive QTag (Q:Exit→List V→List B→Prop):Type
 | mk
inductive XTag (X:List V→List B→Prop):Type
 | mk
def Behind(X:List V→List B→Prop)(_:XTag X)(fr:List V)(d:Option Tmp)(r:V)(H:List B):Prop:=X (ak fr d r) H
def XOps(T:Ty)(ops:Array Oper)(C:V→List V→List B→(V→List B→Prop)→Prop)(K:List V→List B→Prop):List Oper→List V→List B→Prop
 | [],fr,H=>K fr H
 | o::rest,fr,H=>match bA ops fr o with
  | some b=>if b=true then(match aj o.op with
   | some (f,args)=>C (aO fr f) (args.map (aO fr)) H (Behind (XOps T ops C K rest) .mk fr o.dst)
   | none=>match aop T o.op (aO fr) H with
    | some (v,H')=>XOps T ops C K rest (ak fr o.dst v) H'
    | none=>False)
   else XOps T ops C K rest (ak fr o.dst (.tup [])) H
  | none=>False
def CY(C:V→List V→List B→(V→List B→Prop)→Prop)(f:V)(args:List V)(H:List B)(K:V→List B→Prop):Prop:=∃v,C f args H (fun r H'=>r=v∧H'=H)∧K v H
theorem az{C:V→List V→List B→(V→List B→Prop)→Prop}{f:V}{args:List V}{H:List B}{K:V→List B→Prop}(v:V)(h:C f args H (fun r H'=>r=v∧H'=H))(hk:K v H):CY C f args H K:=⟨v,h,hk⟩
def YOps(T:Ty)(ops:Array Oper)(C:V→List V→List B→(V→List B→Prop)→Prop)(K:List V→List B→Prop):List Oper→List V→List B→Prop
 | [],fr,H=>K fr H
 | o::rest,fr,H=>match bA ops fr o with
  | some b=>if b=true then(match aj o.op with
   | some (f,args)=>CY C (aO fr f) (args.map (aO fr)) H (Behind (YOps T ops C K rest) .mk fr o.dst)
   | none=>match aop T o.op (aO fr) H with
    | some (v,H')=>H'=H∧YOps T ops C K rest (ak fr o.dst v) H
    | none=>False)
   else YOps T ops C K rest (ak fr o.dst (.tup [])) H
  | none=>False
section
variable {P:Program} {T:Ty}
theorem jK{ops:Array Oper}{C:V→List V→List B→(V→List B→Prop)→Prop}(hmono:∀fv args H K K',(∀r H',K r H'→K' r H')→C fv args H K→C fv args H K'){K:List V→List B→Prop} : ∀(l:List Oper) (fr:List V) (H:List B),XOps T ops C K l fr H→fi T ops C K l fr H
 | [],_,_,h=>h
 | o::rest,fr,H,h=>by
  simp only[XOps]at h;simp only[fi]
  cases hw:bA ops fr o with
  | none=>rw[hw]at h;exact h.elim
  | some b =>
  rw[hw]at h
  cases b with
  | false=>exact jK hmono rest _ _ (by simpa using h)
  | true =>
   simp only[if_true]at h
   cases hc:aj o.op with
   | some p =>
    obtain⟨f,args⟩:=p;rw[hc]at h;exact hmono _ _ _ _ _ (fun r H' hk=>jK hmono rest _ _ hk) h
   | none =>
    rw[hc]at h
    cases hop:aop T o.op (aO fr) H with
    | none=>simp only[hop]at h
    | some q =>
     obtain⟨v,H'⟩:=q;simp only[hop]at h ⊢;exact jK hmono rest _ _ h
theorem jJ{ops:Array Oper}{C:V→List V→List B→(V→List B→Prop)→Prop}{K:List V→List B→Prop} : ∀(l:List Oper) (fr:List V) (H:List B),YOps T ops C K l fr H→∃cv,kH T ops C K l fr H cv
 | [],_,_,h=>⟨[],h⟩
 | o::rest,fr,H,h=>by
  simp only[YOps]at h;simp only[kH]
  cases hw:bA ops fr o with
  | none=>rw[hw]at h;exact h.elim
  | some b =>
  rw[hw]at h
  cases b with
  | false=>exact jJ rest _ _ (by simpa using h)
  | true =>
   simp only[if_true]at h
   cases hc:aj o.op with
   | some p =>
    obtain⟨f,args⟩:=p;rw[hc]at h;obtain⟨v,h1,h2⟩:=h;obtain⟨cv,h3⟩:=jJ rest _ _ h2;exact⟨v::cv,h1,h3⟩
   | none =>
    rw[hc]at h
    cases hop:aop T o.op (aO fr) H with
    | none=>simp only[hop]at h
    | some q =>
     obtain⟨v,H'⟩:=q;simp only[hop]at h ⊢;obtain⟨cv,h3⟩:=jJ rest _ _ h.2;exact⟨cv,h.1,h3⟩
def hasEff:List Oper→Bool
 | []=>false
 | o::r=>!bN o.op||hasEff r
def WX(T:Ty)(C:V→List V→List B→(V→List B→Prop)→Prop)(L:(c:Code)→(Q:Exit→List V→List B→Prop)→QTag Q→List V→List B→Prop):Code→(Exit→List V→List B→Prop)→List V→List B→Prop
 | .skip,Q,fr,H=>Q .normal fr H
 | .region _ ops false,Q,fr,H=>XOps T ops C (Q .normal) ops.toList fr H
 | .region id ops true,Q,fr,H=>L (.region id ops true) Q .mk fr H∨if hasEff ops.toList=true then False else Stop (stat1 ops=true) .mk∧YOps T ops C (Q .normal) ops.toList fr H
 | .seq a b,Q,fr,H=>WX T C L a (gN (WX T C L b Q) Q) fr H
 | .cond c a b,Q,fr,H=>match aO fr c with
  | .bool t=>if t=true then WX T C L a Q fr H else WX T C L b Q fr H
  | _=>False
 | .block id c,Q,fr,H=>WX T C L c (dU id Q) fr H
 | .loop c,Q,fr,H=>L (.loop c) Q .mk fr H
 | .exit id,Q,fr,H=>Q (.exit id) fr H
 | .ret,Q,fr,H=>Q .ret fr H
 | _,_,_,_=>False
def LW(P:Program)(c:Code)(Q:Exit→List V→List B→Prop)(_:QTag Q)(fr:List V)(H:List B):Prop:=W P c Q fr H
theorem aI{c:Code}{Q:Exit→List V→List B→Prop}{t:QTag Q}{fr:List V}{H:List B}(h:W P c Q fr H):LW P c Q t fr H:=h
theorem kx(hT:TOk P T)(hm:P.follows .mixedOrders=true):∀(c:Code) (Q:Exit→List V→List B→Prop) (fr:List V) (H:List B),WX T (aL P) (LW P) c Q fr H→W P c Q fr H
 | .skip,Q,fr,H,h=>W_skip h
 | .region id ops false,Q,fr,H,h=>by
  intro s a h1 h2 h3 h4;refine W_region hT (fun C K hC hK=>?_) s a h1 h2 h3 h4;have:=jK (C:=aL P) (fun _ _ _ _ _ hk hc=>hc.mono hk) _ _ _ h;refine bZ.WOps_mono hC _ _ _ ?_;exact wops_k (fun fr H hq=>hK fr H hq) _ _ _ this
 | .region id ops true,Q,fr,H,h=>by
  simp only[WX]at h
  rcases h with h | h
  ·exact h
  split at h
  ·exact h.elim
  obtain⟨hst,h⟩:=h;obtain⟨cv,hq⟩:=jJ _ _ _ h;intro s a h1 h2 h3 h4;refine W_quiet hT hm cv (jR hst (by simp[jS,jH])) (fun C K hC hK=>?_) s a h1 h2 h3 h4;exact qops_mono hC hK _ _ _ _ hq
 | .seq a b,Q,fr,H,h=>fh ((kx hT hm a _ fr H h).mono fun e fr' H' hq=>by
   cases e with
   | normal=>exact kx hT hm b Q fr' H' hq
   | _=>exact hq)
 | .cond c a b,Q,fr,H,h=>by
  simp only[WX]at h;split at h
  ·rename_i t ht;refine W_cond ht ?_
   cases t with
   | true=>exact kx hT hm a Q fr H (by simpa using h)
   | false=>exact kx hT hm b Q fr H (by simpa using h)
  ·exact h.elim
 | .block id c,Q,fr,H,h=>mK (kx hT hm c _ fr H h)
 | .loop c,Q,fr,H,h=>h
 | .exit id,Q,fr,H,h=>W_exit h
 | .ret,Q,fr,H,h=>W_ret h
 | .rangeFunc ..,_,_,_,h=>h.elim
 | .scope _,_,_,_,h=>h.elim
 | .label _,_,_,_,h=>h.elim
 | .goto _,_,_,_,h=>h.elim
 | .refuse _,_,_,_,h=>h.elim
where
 wops_k {ops:Array Oper} {K K':List V→List B→Prop} (hk:∀fr H,K fr H→K' fr H):∀(l:List Oper) (fr:List V) (H:List B),fi T ops (aL P) K l fr H→fi T ops (aL P) K' l fr H
  | [],fr,H,h=>hk fr H h
  | o::rest,fr,H,h=>by
   simp only[fi]at h ⊢;split at h
   ·split at h
    ·exact h.mono fun r H' h'=>wops_k hk rest _ _ h'
    ·split at h
     ·exact wops_k hk rest _ _ h
     ·exact h
   ·exact wops_k hk rest _ _ h
   ·exact h
 qops_mono {ops:Array Oper} {C:V→List V→List B→(V→List B→Prop)→Prop} (hC:∀fv args H K',aL P fv args H K'→C fv args H K') {K K':List V→List B→Prop} (hk:∀fr H,K fr H→K' fr H):∀(l:List Oper) (fr:List V) (H:List B) (cv:List V),kH T ops (aL P) K l fr H cv→kH T ops C K' l fr H cv
  | [],fr,H,_,h=>hk fr H h
  | o::rest,fr,H,cv,h=>by
   simp only[kH]at h ⊢;split at h
   ·split at h
    ·split at h
     ·exact⟨hC _ _ _ _ h.1,qops_mono hC hk rest _ _ _ h.2⟩
     ·exact h
    ·split at h
     ·exact⟨h.1,qops_mono hC hk rest _ _ _ h.2⟩
     ·exact h
   ·exact qops_mono hC hk rest _ _ _ h
   ·exact h
theorem W_x(hT:TOk P T)(hm:P.follows .mixedOrders=true){c:Code}{Q:Exit→List V→List B→Prop}{fr:List V}{H:List B}(h:WX T (aL P) (LW P) c Q fr H):W P c Q fr H:=kx hT hm c Q fr H h
def ml(ms:List Nat):Nat→List V→List V
 | _,[]=>[]
 | i,v::r=>(if ms.contains i then .undef else v)::ml ms (i+1) r
def ovr:List V→List (Nat×V)→List V
 | fr,[]=>fr
 | fr,(i,v)::r=>ovr (fr.set i v) r
theorem W_loopG{σ:Type}(ms:List Nat)(ok:σ→Prop)(μ:σ→Nat)(g:σ→List (Nat×V))(Hf:σ→List B){c:Code}{Q:Exit→List V→List B→Prop}{fr:List V}{H:List B}(x0:σ)(h0:ok x0)(hF:iZ (ovr (ml ms 0 fr) (g x0)) fr)(hH:H=Hf x0)
  (hmin:∀x,ok x→H.length≤(Hf x).length)
  (hround:∀x,ok x→W P c (gN (fun fr' H'=>Stop (∃y,ok y∧μ y<μ x∧iZ (ovr (ml ms 0 fr) (g y)) fr'∧(∃G,H'=Hf y++G)∧(∀v∈ovr (ml ms 0 fr) (g y),rb (Hf y).length v)∧∀bl∈Hf y,rbB (Hf y).length bl) .mk) Q) (ovr (ml ms 0 fr) (g x)) (Hf x)):W P (.loop c) Q fr H :=
 W_loopS ok μ (fun x=>ovr (ml ms 0 fr) (g x)) Hf x0 h0 hF hH hmin hround
end
attribute [simp ↓] XOps YOps WX Behind
attribute [simp] hasEff bN
attribute [simp] ml ovr
@[simp] theorem exp_bool (H:List B) (b:Bool) (v:V):Exp H (.bool b) v↔v = .bool b:=⟨fun h=>by cases h;rfl,fun h=>by subst h;exact .pure _ (.bool b)⟩
@[simp] theorem exp_int (H:List B) (k:IntKind) (n:Int) (v:V):Exp H (.int k n) v↔v = .int k n:=⟨fun h=>by cases h;rfl,fun h=>by subst h;exact .pure _ (.int k n)⟩
@[simp] theorem exp_str (H:List B) (x:ByteArray) (v:V):Exp H (.str x) v↔v = .str x:=⟨fun h=>by cases h;rfl,fun h=>by subst h;exact .pure _ (.str x)⟩
@[simp] theorem exp_nilS (H:List B) (v:V):Exp H .nilS v↔v = .nilS:=⟨fun h=>by cases h;rfl,fun h=>by subst h;exact .pure _ .nilS⟩
@[simp] theorem exp_lst (H:List B) (z:Nat) (f:Bool) (xs:List V) (v:V):Exp H (.lst z f xs) v↔v = .lst z f xs∧∀x∈xs,Pure x:=⟨fun h=>by cases h with | pure _ h=>cases h;exact⟨rfl,by assumption⟩,fun⟨h,h2⟩=>by subst h;exact .pure _ (.lst _ _ _ h2)⟩
@[simp] theorem exp_agg (H:List B) (xs:List V) (v:V):Exp H (.agg xs) v↔v = .agg xs∧∀x∈xs,Pure x:=⟨fun h=>by cases h with | pure _ h=>cases h;exact⟨rfl,by assumption⟩,fun⟨h,h2⟩=>by subst h;exact .pure _ (.agg _ h2)⟩
@[simp] theorem exp_tup (H:List B) (xs:List V) (v:V):Exp H (.tup xs) v↔v = .tup xs∧∀x∈xs,Pure x:=⟨fun h=>by cases h with | pure _ h=>cases h;exact⟨rfl,by assumption⟩,fun⟨h,h2⟩=>by subst h;exact .pure _ (.tup _ h2)⟩
theorem gD{H:List B}{k len e z:Nat}{xs:List V}{fz:Bool}(hk:H[k]?=some (.buf e z xs fz))(hl:len=xs.length)(hp:∀x∈xs,Pure x):Exp H (.buf k 0 len len) (.lst z false xs):=by
 subst hl;have:=Exp.buf (H:=H) k 0 xs.length e z xs fz hk (by simp) hp;simpa using this
end Go.AM
namespace Go.AM
open Go Go.Deep
def jh(T:Ty)(tot:Nat):Nat→List Field→Bool
 | off,[]=>off == tot
 | off,f::r=>match T f.type with
  | some j=>f.offset == off&&jh T tot (off+j.size) r
  | none=>false
def ShOk(T:Ty):Nat→TypeId→Bool
 | 0,_=>false
 | n+1,t=>match T t with
  | none=>false
  | some i=>match i.desc with
   | .bool | .int _ | .string=>true
   | .slice e=>match T e with
    | some j=>decide (0<j.size)&&(bY j.desc||j.size == 1)&&ShOk T n e
    | none=>false
   | .struct fs=>jh T i.size 0 fs.toList&&fs.toList.all fun f=>ShOk T n f.type
   | _=>false
def Sh(T:Ty):Nat→TypeId→List V→Prop
 | 0,_,_=>False
 | n+1,t,vs=>match T t with
  | none=>False
  | some i=>match i.desc with
   | .bool=>∃b,vs=[.bool b]
   | .int k=>∃m,vs=[.int k m]∧(Lit.int k m).wf=true
   | .string=>∃s,vs=[.str s]∧s.size≤maxLen
   | .slice e=>match T e with
    | some j=>∃xs,vs=[.lst j.size false xs]∧xs.length≤maxLen∧∀x∈xs,∃ws,Sh T n e ws∧ws.length=j.size∧x=(if bY j.desc then .agg ws else ws.headD .undef)
    | none=>False
   | .struct fs=>vs.length=i.size∧∀f∈fs.toList,∃j,T f.type=some j∧Sh T n f.type ((vs.drop f.offset).take j.size)
   | _=>False
structure CR (w:World) (vs:List V) (cs:List Value):Prop where
 len:vs.length=cs.length
 one:∀v∈vs,v.one=true
 rel:∀(i:Nat) v c,vs[i]?=some v→cs[i]?=some c→Rel (base (fun _=>False) w) v c
theorem CR.append{w:World}{vs ws:List V}{cs ds:List Value}(h:CR w vs cs)(g:CR w ws ds):CR w (vs++ws) (cs++ds) where
 len:=by simp[h.len,g.len]
 one v hv:=by rcases List.mem_append.1 hv with hv | hv;exact h.one v hv;exact g.one v hv
 rel i v c hv hc:=by
  by_cases hi:i<vs.length
  ·rw[oL hi]at hv;rw[oL (by rw[←h.len];exact hi)]at hc;exact h.rel i v c hv hc
  ·rw[oS (by omega)]at hv;rw[oS (by rw[←h.len];omega),←h.len]at hc;exact g.rel _ v c hv hc
theorem CR.single{w:World}{v:V}{c:Value}(h:Rel (base (fun _=>False) w) v c)(h1:v.one=true):CR w [v] [c] where
 len:=rfl
 one x hx:=by simp at hx;subst hx;exact h1
 rel i x d hx hd:=by
  have:i=0:=by have:=aB hx;simpa using this
  subst this;simp at hx hd;subst hx;subst hd;exact h
theorem one_cells{v:V}(h:v.one=true):v.cells=[v]:=by cases v<;>first | rfl | simp[V.one]at h
theorem spot_cell{w:World}{a:Addr}{v:Value}(h:w.cell? a=some v):a.spot=none:=by
 unfold World.cell? at h;split at h
 ·split at h
  ·cases h
  ·rename_i hs;simpa using hs
 ·cases h
theorem addr_at{a:Addr}{n:Nat}(hs:a.spot=none):a.add n=⟨a.block,a.off+n,none⟩:=by
 unfold Addr.add;split
 ·rename_i h;subst h;cases a;simp_all
 ·rfl
section
variable {P:Program} {T:Ty} {Hd:Type} {enc:TypeId×Value→Hd} {w:World} {held:Bool}
theorem opn_fields{n tot:Nat}{cs:List Value}(hlen:cs.length=tot):∀(l:List Field) (off:Nat),jh T tot off l=true→off≤tot →
  (∀f∈l,∀j,T f.type=some j→∃vs,CR w vs ((cs.drop f.offset).take j.size)∧Sh T n f.type vs)→
  ∃vs,CR w vs (cs.drop off)∧∀f∈l,∃j,T f.type=some j∧off≤f.offset∧Sh T n f.type ((vs.drop (f.offset-off)).take j.size)
 | [],off,h,hle,_=>by
  simp only[jh,beq_iff_eq]at h;refine⟨[],⟨by simp;omega,by simp,by simp⟩,by simp⟩
 | f::r,off,h,hle,hf=>by
  simp only[jh]at h;split at h
  ·rename_i j hj;simp only[oP,beq_iff_eq]at h;obtain⟨hoff,h⟩:=h;have hle2:off+j.size≤tot:=lay_le r _ h;obtain⟨vs,hcr,hsh⟩:=hf f (by simp) j hj;obtain⟨ws,hcr2,hws⟩:=opn_fields hlen r (off+j.size) h hle2 (fun g hg=>hf g (by simp[hg]))
   have hvl:vs.length=j.size:=by rw[hcr.len,hoff,ot,pk];omega
   refine⟨vs++ws,?_,fun g hg=>?_⟩
   ·have:=hcr.append hcr2
    rwa [hoff,←List.drop_drop,pc]at this
   ·rcases List.mem_cons.1 hg with rfl | hg
    ·refine⟨j,hj,by omega,?_⟩;rw[hoff,px,pC,qg (by omega),pA (by omega)];exact hsh
    ·obtain⟨j2,hj2,hle3,hs2⟩:=hws g hg;refine⟨j2,hj2,by omega,?_⟩;rw[List.drop_append,oV (by omega),pH,hvl,show g.offset-off-j.size=g.offset-(off+j.size) by omega];exact hs2
  ·cases h
where
 lay_le {tot:Nat} : ∀(l:List Field) (off:Nat),jh T tot off l=true→off≤tot
  | [],off,h=>by simp only[jh,beq_iff_eq]at h;omega
  | f::r,off,h=>by
   simp only[jh]at h;split at h
   ·simp only[oP]at h;have:=lay_le r _ h.2;omega
   ·cases h
end
end Go.AM
namespace Go.AM
open Go
inductive Le:V→V→Prop
 | refl (v:V):Le v v
 | nil (z:Nat) (f:Bool):Le .nilS (.lst z f [])
 | agg (cs ds:List V) (hl:cs.length=ds.length) (h:∀(i:Nat) c d,cs[i]?=some c→ds[i]?=some d→Le c d):Le (.agg cs) (.agg ds)
 | tup (cs ds:List V) (hl:cs.length=ds.length) (h:∀(i:Nat) c d,cs[i]?=some c→ds[i]?=some d→Le c d):Le (.tup cs) (.tup ds)
theorem Le.one{a b:V}(h:Le a b)(h1:a.one=true):b.one=true:=by
 cases h with
 | refl=>exact h1
 | nil=>rfl
 | agg=>simp[V.one]at h1
 | tup=>simp[V.one]at h1
theorem Le.rel{s:St}{a b:V}(h:Le a b):∀{u:Value},Rel s a u→Rel s b u:=by
 induction h with
 | refl v=>exact fun h=>h
 | nil z f=>intro u h;cases h;exact bw z f none 0 (fun _=>rfl)
 | agg cs ds hl hh ih =>
  intro u h
  cases h with
  | agg _ us h1 h2 h3 =>
   refine .agg ds us (by omega) (fun d hd=>?_) (fun i d u hd hu=>?_)
   ·obtain⟨i,hi⟩:=List.mem_iff_getElem?.1 hd;have hc:cs[i]?=some (cs[i]'(by have:=aB hi;omega)):=oG _;exact(hh i _ d hc hi).one (h2 _ (oH hc))
   ·have hc:cs[i]?=some (cs[i]'(by have:=aB hd;omega)):=oG _;exact ih i _ d hc hd (h3 i _ u hc hu)
 | tup cs ds hl hh ih =>
  intro u h
  cases h with
  | tup _ us h1 h3 =>
   refine .tup ds us (by omega) (fun i d u hd hu=>?_);have hc:cs[i]?=some (cs[i]'(by have:=aB hd;omega)):=oG _;exact ih i _ d hc hd (h3 i _ u hc hu)
section
variable {P:Program} {T:Ty}
theorem conP_args{f:FuncId}{args args':List V}{K:V→Prop}(h:aJ P f args' K)(hl:args.length=args'.length)(hle:∀(i:Nat) a b,args[i]?=some a→args'[i]?=some b→Le a b):aJ P f args K:=by
 refine⟨h.1,fun F w vals hZ hF hsz hrel=>h.2 F w vals hZ hF (by omega) (fun i b u hb hu=>?_)⟩;have ha:args[i]?=some (args[i]'(by have:=aB hb;omega)):=oG _;exact(hle i _ b ha hb).rel (hrel i _ u ha hu)
theorem conP_res{f:FuncId}{args:List V}{v v':V}(h:aJ P f args fun r=>r=v)(hle:Le v v')(hp:Pure v'):aJ P f args fun r=>r=v':=by
 refine⟨h.1,fun F w vals hZ hF hsz hrel=>(h.2 F w vals hZ hF hsz hrel).mono fun e w' ⟨u,r,a1,a2,a3,a4,a5⟩=>?_⟩;subst a5;exact⟨u,v',a1,hp,hle.rel a3,a4,rfl⟩
theorem callX{f:FuncId}{args args':List V}{H:List B}{v:V}(h:aJ P f args' fun r=>r=v)(hl:args.length=args'.length)(he:∀(i:Nat) a a',args[i]?=some a→args'[i]?=some a'→Exp H a a')(hs:Scalar v):
  aL P (.fn f []) args H fun r H'=>r=v∧H'=H:=by
 simp only[aL,oU]
 exact(gH h hl he (.inr fun r hr=>by subst hr;exact hs)).mono fun r H' ⟨h1,_,h3⟩=>⟨h3,h1⟩
end
end Go.AM
namespace Go.AM
open Go
theorem fQ{f:Nat→V→Option V} : ∀{xs:List V},(∀x∈xs,∃d0,∀d,d0≤d→f d x=some x)→∃d0,∀d,d0≤d→exL (f d) xs=some xs
 | [],_=>⟨0,fun _ _=>rfl⟩
 | x::xs,h=>by
  obtain⟨d1,h1⟩:=h x (by simp);obtain⟨d2,h2⟩:=fQ (xs:=xs) (fun y hy=>h y (by simp[hy]));exact⟨max d1 d2,fun d hd=>by simp only[exL,h1 d (by omega),h2 d (by omega)]⟩
theorem exV_pure{H:List B}{n:Nat}{v:V}(h:Pure v):∃d0,∀d,d0≤d→exV H n d v=some v:=by
 induction h with
 | bool b=>exact⟨1,fun d hd=>by obtain⟨k,rfl⟩:∃k,d=k+1:=⟨d-1,by omega⟩;rfl⟩
 | int k m=>exact⟨1,fun d hd=>by obtain⟨k,rfl⟩:∃k,d=k+1:=⟨d-1,by omega⟩;rfl⟩
 | str x=>exact⟨1,fun d hd=>by obtain⟨k,rfl⟩:∃k,d=k+1:=⟨d-1,by omega⟩;rfl⟩
 | nilS=>exact⟨1,fun d hd=>by obtain⟨k,rfl⟩:∃k,d=k+1:=⟨d-1,by omega⟩;rfl⟩
 | nilP=>exact⟨1,fun d hd=>by obtain⟨k,rfl⟩:∃k,d=k+1:=⟨d-1,by omega⟩;rfl⟩
 | nilM=>exact⟨1,fun d hd=>by obtain⟨k,rfl⟩:∃k,d=k+1:=⟨d-1,by omega⟩;rfl⟩
 | nilFn=>exact⟨1,fun d hd=>by obtain⟨k,rfl⟩:∃k,d=k+1:=⟨d-1,by omega⟩;rfl⟩
 | nilI=>exact⟨1,fun d hd=>by obtain⟨k,rfl⟩:∃k,d=k+1:=⟨d-1,by omega⟩;rfl⟩
 | ifc=>exact⟨1,fun d hd=>by obtain⟨k,rfl⟩:∃k,d=k+1:=⟨d-1,by omega⟩;rfl⟩
 | fn f=>exact⟨1,fun d hd=>by obtain⟨k,rfl⟩:∃k,d=k+1:=⟨d-1,by omega⟩;rfl⟩
 | lst z f xs hx ih =>
  obtain⟨d0,h0⟩:=fQ (f:=exV H n) ih;exact⟨d0+1,fun d hd=>by obtain⟨k,rfl⟩:∃k,d=k+1:=⟨d-1,by omega⟩;simp only[exV,h0 k (by omega)]⟩
 | pin cs o hx ih =>
  obtain⟨d0,h0⟩:=fQ (f:=exV H n) ih;exact⟨d0+1,fun d hd=>by obtain⟨k,rfl⟩:∃k,d=k+1:=⟨d-1,by omega⟩;simp only[exV,h0 k (by omega)]⟩
 | agg cs hx ih =>
  obtain⟨d0,h0⟩:=fQ (f:=exV H n) ih;exact⟨d0+1,fun d hd=>by obtain⟨k,rfl⟩:∃k,d=k+1:=⟨d-1,by omega⟩;simp only[exV,h0 k (by omega)]⟩
 | tup cs hx ih =>
  obtain⟨d0,h0⟩:=fQ (f:=exV H n) ih;exact⟨d0+1,fun d hd=>by obtain⟨k,rfl⟩:∃k,d=k+1:=⟨d-1,by omega⟩;simp only[exV,h0 k (by omega)]⟩
section
variable {P:Program} {T:Ty} {s:St}
end
end Go.AM
namespace Go.AM
open Go
def oC(k:Nat):List V→List V→Prop
 | [],[]=>True
 | x::xs,y::ys=>(y=x∨(x = .nilS∧y = .buf k 0 0 0))∧oC k xs ys
 | _,_=>False
theorem oC.len{k:Nat} : ∀{xs ys:List V},oC k xs ys→xs.length=ys.length
 | [],[],_=>rfl
 | [],_::_,h=>h.elim
 | _::_,[],h=>h.elim
 | _::_,_::_,h=>by simp[h.2.len]
theorem oC.at_{k:Nat} : ∀{xs ys:List V},oC k xs ys→∀(i:Nat) x y,xs[i]?=some x→ys[i]?=some y→y=x∨(x = .nilS∧y = .buf k 0 0 0)
 | [],_,_,i,x,y,h,_=>by simp at h
 | _::_,[],h,_,_,_,_,_=>h.elim
 | a::xs,b::ys,h,0,x,y,h1,h2=>by simp at h1 h2;subst h1;subst h2;exact h.1
 | a::xs,b::ys,h,i+1,x,y,h1,h2=>h.2.at_ i x y (by simpa using h1) (by simpa using h2)
def dg(k:Nat)(sl:List Nat):Nat→List V→List V
 | _,[]=>[]
 | i,v::r=>(if sl.contains i then .buf k 0 0 0 else v)::dg k sl (i+1) r
section
variable {P:Program} {T:Ty}
theorem rel_own{s:St}{w:World}{g e z:Nat}(hst:Step s (s.push w g 0 (.buf e z [] false))){x y:V}{u:Value}(h:Rel s x u)(ho:y=x∨(x = .nilS∧y = .buf s.H.length 0 0 0)):Rel (s.push w g 0 (.buf e z [] false)) y u:=by
 rcases ho with rfl | ⟨rfl,rfl⟩
 ·exact h.step hst
 ·cases h;refine .buf s.H.length 0 0 0 e z [] false _ _ _ (by simp[St.push]) (oJ _) (fun _=>?_);simp only[St.push,aR];exact⟨fun h=>absurd rfl h,by simp,by simp,by simp⟩
theorem eI(e z:Nat)(sl:List Nat){c:Code}{Q:Exit→List V→List B→Prop}{fr:List V}{H:List B}(ho:oC H.length fr (dg H.length sl 0 fr))(h:W P c Q (dg H.length sl 0 fr) (H++[.buf e z [] false])):W P c Q fr H:=by
 intro s a hA hg hf hd;obtain⟨rfl,hZ⟩:=hA;obtain⟨p1,p2⟩:=lD hg 0 e z false rfl rfl rfl (oJ _) (fun _ _=>rfl);have hl:=ho.len
 have:=h (s.push s.w 0 0 (.buf e z [] false)) a ⟨rfl,hZ.step p2⟩ p1 ⟨by rw[hf.len,hl],fun i v u hv hu=>by
  have hx:fr[i]?=some (fr[i]'(by have:=aB hv;omega)):=oG _
  exact rel_own p2 (hf.rel i _ u hx hu) (ho.at_ i _ v hx hv)⟩ hd
 exact wp_mono this fun _ _ _ hl=>bO p2 hl
theorem dL(e z:Nat)(sl:List Nat)(k0:Nat)(sc:List Nat){c:Code}{Q:Exit→List V→List B→Prop}{fr:List V}{H:List B}{cs:List V}(hk:H[k0]?=some (.cells cs))(ho:oC H.length fr (dg H.length sl 0 fr))(hc:oC H.length cs (dg H.length sc 0 cs))
  (h:W P c Q (dg H.length sl 0 fr) (H.set k0 (.cells (dg H.length sc 0 cs))++[.buf e z [] false])):W P c Q fr H:=by
 intro s a hA hg hf hd;obtain⟨rfl,hZ⟩:=hA;obtain⟨p1,p2⟩:=lD hg 0 e z false rfl rfl rfl (oJ _) (fun _ _=>rfl);have hl:=ho.len;have hlc:=hc.len;generalize hs1:s.push s.w 0 0 (.buf e z [] false)=s1 at p1 p2
 have hk1:s1.H[k0]?=some (.cells cs):=by rw[←hs1];simp only[St.push];rw[oL (aB hk)];exact hk
 have hr1:∀x y u,Rel s x u→(y=x∨(x = .nilS∧y = .buf s.H.length 0 0 0))→Rel s1 y u:=fun x y u h1 h2=>by subst hs1;exact rel_own p2 h1 h2
 have hw1:s1.w=s.w:=by rw[←hs1];rfl
 have hst:=bI (w:=s1.w) (bl':=.cells (dg s.H.length sc 0 cs)) p1 hk1 (lvC hk1) trivial rfl rfl rfl (oJ _) (fun _ _ _=>rfl)
 have hgd:Good (s1.setB s1.w k0 (.cells (dg s.H.length sc 0 cs))):=by
  refine bQ p1 hk1 (lvC hk1) trivial rfl rfl rfl (oJ _) (fun _ _ _=>rfl) (fun hst=>?_);obtain⟨h1,vs,t,h2,h3,h4⟩:=hg.blk k0 _ hk;obtain⟨_,vs1,t1,h21,h31,h41⟩:=p1.blk k0 _ hk1
  have hφ:s1.φ k0=s.φ k0:=by rw[←hs1];exact bH _ _ (by have:=aB hk;omega)
  refine⟨fun d hd=>?_,vs,t,by show s1.w.heap[s1.φ k0]?=_;rw[hw1,hφ];exact h2,by omega,fun i d u hd hu=>?_⟩
  ·obtain⟨i,hi⟩:=List.mem_iff_getElem?.1 hd;have hx:cs[i]?=some (cs[i]'(by have:=aB hi;omega)):=oG _
   rcases hc.at_ i _ d hx hi with h9 | ⟨_,h9⟩
   ·rw[h9];exact h1 _ (oI _)
   ·rw[h9];rfl
  ·have hx:cs[i]?=some (cs[i]'(by have:=aB hd;omega)):=oG _;exact(hr1 _ d u (h4 i _ u hx hu) (hc.at_ i _ d hx hd)).step hst
 have hH:(s1.setB s1.w k0 (.cells (dg s.H.length sc 0 cs))).H=s.H.set k0 (.cells (dg s.H.length sc 0 cs))++[.buf e z [] false]:=by
  rw[←hs1];simp only[St.setB,St.push];rw[List.set_append,if_pos (aB hk)]
 have:=h (s1.setB s1.w k0 (.cells (dg s.H.length sc 0 cs))) a ⟨hH,(hZ.step p2).step hst⟩ hgd ⟨by rw[hf.len,hl],fun i v u hv hu=>by
  have hx:fr[i]?=some (fr[i]'(by have:=aB hv;omega)):=oG _
  exact(hr1 _ v u (hf.rel i _ u hx hu) (ho.at_ i _ v hx hv)).step hst⟩ hd
 have e1:(s1.setB s1.w k0 (.cells (dg s.H.length sc 0 cs))).w=s.w:=hw1;rw[e1]at this
 exact wp_mono this fun _ _ _ hl=>bO (p2.trans hst) hl
def ee:List Bool→List V→List V
 | b::bs,v::r=>(match b with
  | true=>.undef
  | false=>v)::ee bs r
 | _,fr=>fr
@[simp] theorem maskB_t (bs:List Bool) (v:V) (r:List V):ee (true::bs) (v::r)= .undef::ee bs r:=rfl
@[simp] theorem maskB_f (bs:List Bool) (v:V) (r:List V):ee (false::bs) (v::r)=v::ee bs r:=rfl
@[simp] theorem maskB_n (fr:List V):ee [] fr=fr:=by cases fr<;>rfl
theorem W_loopV{σ:Type}(ms:List Bool)(ok:σ→Prop)(μ:σ→Nat)(g:σ→List (Nat×V))(Hf:σ→List B){c:Code}{Q:Exit→List V→List B→Prop}{fr:List V}{H:List B}(x0:σ)(h0:ok x0)(hF:iZ (ovr (ee ms fr) (g x0)) fr)(hH:H=Hf x0)
  (hmin:∀x,ok x→H.length≤(Hf x).length)
  (hround:∀x,ok x→∀(N:List V→List B→Prop) (Q':Exit→List V→List B→Prop),(∀y fr' H',ok y→μ y<μ x→iZ (ovr (ee ms fr) (g y)) fr'→(∃G,H'=Hf y++G)→(∀v∈ovr (ee ms fr) (g y),rb (Hf y).length v)→(∀bl∈Hf y,rbB (Hf y).length bl)→N fr' H')→
   (∀e fr' H',Q e fr' H'→Q' e fr' H')→W P c (gN N Q') (ovr (ee ms fr) (g x)) (Hf x)):W P (.loop c) Q fr H :=
 W_loopS ok μ (fun x=>ovr (ee ms fr) (g x)) Hf x0 h0 hF hH hmin (fun x hx=>hround x hx _ _ (fun y fr' H' a b c d e f=>⟨y,a,b,c,d,e,f⟩) (fun _ _ _ h=>h))
end
attribute [simp] oC dg
theorem pure_rb1{n:Nat}{v:V}(h:Pure v)(ho:v.one=true):rb1 n v:=by
 cases h<;>first | trivial | assumption | (simp[V.one]at ho;done) | rfl
theorem bJ{n:Nat}{v:V}(h:Pure v)(ho:v.one=true):rb n v:=by
 have:=pure_rb1 (n:=n) h ho
 cases h<;>first | trivial | assumption | (simp[V.one]at ho;done) | (intro c hc;cases hc;done)
theorem dB{n e z:Nat}{xs:List V}{fz:Bool}(h:∀x∈xs,Pure x)(ho:∀x∈xs,∀c∈x.cells,c.one=true):rbB n (.buf e z xs fz)↔True:=by
 refine⟨fun _=>trivial,fun _ x hx c hc=>bJ ((h x hx).cells c hc) (ho x hx c hc)⟩
def cT:V→Bool
 | .undef | .tup _=>false
 | .agg cs=>cs.all V.one
 | _=>true
theorem oneV_cells{x:V}(h:cT x=true):∀c∈x.cells,c.one=true:=by
 cases x<;>simp_all [cT,V.cells,V.one]
@[simp ↓ high] theorem rbB_buf1 {n e z:Nat} {xs:List V} {fz:Bool} (h:∀x∈xs,Pure x∧cT x=true):rbB n (.buf e z xs fz)↔True:=dB (fun x hx=>(h x hx).1) (fun x hx=>oneV_cells (h x hx).2)
attribute [simp] cT
end Go.AM
namespace Go.AM
open Go
def cZ:Go.Op→Bool
 | .move _ | .assign _ | .pick .. | .unOp .. | .convert .. | .extract .. | .field .. | .fieldAddr .. | .index .. | .makeFunc .. | .build .. | .nilCheck _=>true
 | .binOp op _ _ _ _=>match op with
  | .eql | .neq=>false
  | _=>true
 | _=>false
section
variable {P:Program} {T:Ty}
theorem iC{o:Go.Op}{ρ:Operand→V}{H H':List B}{v:V}(hs:cZ o=true)(h:aop T o ρ H=some (v,H'))(G:List B):aop T o ρ G=some (v,G):=by
 have mp:∀{x:Option V} {H H':List B},x.map (·,H)=some (v,H')→x.map (·,G)=some (v,G):=fun {x H H'} h=>by
  cases x with
  | none=>cases h
  | some y=>simp at h;simp[h.1]
 cases o<;>simp only[cZ,oZ]at hs<;>simp only[aop]at h ⊢
 all_goals first
  | (exact mp h)
  | (cases h;rfl)
  | skip
 ·split at h<;>cases h;rfl
 ·split at h<;>first | (cases h;rfl) | (cases h;done)
 ·rename_i op t x y ty
  have e:bx T t op (ρ x) (ρ y) y=none:=by
   unfold bx
   cases op<;>first
    | (exfalso;simp at hs;done)
    | ((repeat' split)<;>first | rfl | contradiction)
  rw[e]at h ⊢;simp only at h ⊢;refine mp ?_ (H:=H) (H':=H');rw[←h];congr 1;unfold binTA;cases binA op (ρ x) (ρ y)<;>simp only
  cases op<;>first | rfl | (simp at hs;done)
 ·split at h
  ·rename_i hh;rw[if_pos hh];exact mp h
  ·cases h
 ·split at h
  ·split at h
   ·rename_i hh;rw[if_pos hh];cases h;rfl
   ·cases h
  ·cases h
 ·cases hx:ρ _<;>rw[hx]at h<;>simp only at h ⊢<;>first | (cases h;done) | exact mp h
end
def fK:List (Nat×List Nat)→Nat→List Nat
 | [],_=>[]
 | (j,cs)::r,i=>if j=i then cs else fK r i
def bp:List Nat→Nat→Nat
 | [],_=>0
 | e::r,i=>if e<i then bp r i+1 else 0
def statT(ops:Array Oper)(E:List Nat)(tab:List (Nat×List Nat)):Bool :=
 stat1 ops&&jS ops E&&(oM ops.size).all fun i=>E.contains i||(match ops[i]? with
  | some o=>bN o.op&&(cZ o.op||(oM (E.length+1)).all fun c=>!fm (aM [] ops.toList) E i c||c == bp E i||(fK tab i).contains c)
  | none=>true)
def oblT(T:Ty)(ops:Array Oper)(C:V→List V→List B→(V→List B→Prop)→Prop)(E:List Nat)(tab:List (Nat×List Nat))(Hs:Nat→List B):List Oper→Nat→Nat→List V→List V→Prop
 | [],_,_,_,_=>True
 | _::_,_,_,_,[]=>False
 | o::rest,i,c,fr,v::vs =>
  (match bA ops fr o with
   | some true=>match aj o.op with
    | some (f,args)=>if E.contains i then C (aO fr f) (args.map (aO fr)) (Hs c) (fun r H'=>r=v∧H'=Hs (c+1))
     else dq (fun c'=>C (aO fr f) (args.map (aO fr)) (Hs c') (fun r H'=>r=v∧H'=Hs c')) (c::fK tab i)
    | none=>if E.contains i||cZ o.op then True else dq (fun c'=>aop T o.op (aO fr) (Hs c')=some (v,Hs c')) (fK tab i)
   | _=>True)∧oblT T ops C E tab Hs rest (i+1) (if E.contains i then c+1 else c) (ak fr o.dst v) vs
def DrawT(T:Ty)(ops:Array Oper)(E:List Nat)(tab:List (Nat×List Nat))(cv:List (V×List B))(C:V→List V→List B→(V→List B→Prop)→Prop)(K:List V→List B→Prop)(fr:List V)(H:List B):Prop :=
 match runT T ops E ops.toList 0 fr H cv with
 | none=>False
 | some (vs,hs,f)=>hs.length=E.length∧oblT T ops C E tab (fun c=>(H::hs)[c]?.getD []) ops.toList 0 0 fr vs∧K f ((H::hs)[E.length]?.getD [])
theorem jx:∀{E:List Nat},jH E=true→∀{i:Nat},E.contains i=true→E.idxOf i=bp E i
 | [],_,i,h=>by simp at h
 | [x],_,i,h=>by
  have:i=x:=by simpa using h
  subst this;simp[bp]
 | x::y::r,ha,i,h=>by
  have ha':=ha;simp only[jH,oP,decide_eq_true_eq]at ha;by_cases hx:i=x
  ·subst hx;simp[bp]
  ·have h':(y::r).contains i=true:=by
    simp only[List.contains_cons,pW,beq_iff_eq,hx,false_or]at h ⊢;exact h
   have hlt:x<i:=by
    obtain⟨k,hk⟩:=List.mem_iff_getElem?.1 (List.contains_iff_mem.1 h');exact eO ha' 0 (k+1) x i (by omega) rfl (by simpa using hk)
   have hb:(x == i)=false:=by simpa using Ne.symm hx
   rw[List.idxOf_cons,hb,cond_false,jx ha.2 h'];simp only[bp,hlt,if_true]
theorem bc:∀{E:List Nat},jH E=true→∀(i:Nat),bp E (i+1)=if E.contains i then bp E i+1 else bp E i
 | [],_,i=>by simp[bp]
 | [x],_,i=>by
  by_cases h:x=i
  ·subst h;simp[bp]
  ·have h2:¬i=x:=fun e=>h e.symm
   by_cases h3:x<i
   ·simp[bp,h2,h3,show x<i+1 by omega]
   ·simp[bp,h2,h3,show ¬x<i+1 by omega]
 | x::y::r,ha,i=>by
  have ha':=ha;simp only[jH,oP,decide_eq_true_eq]at ha;have ih:=bc ha.2 i;by_cases h:x=i
  ·subst h
   have hy:¬y<x+1:=by omega
   have hy2:¬y<x:=by omega
   simp[bp,hy]
  ·have h2:¬i=x:=fun e=>h e.symm
   have c1:∀j,bp (x::y::r) j=if x<j then bp (y::r) j+1 else 0:=fun _=>rfl
   rw[c1,c1];by_cases h3:x<i
   ·rw[if_pos (by omega),if_pos h3,ih];simp only[List.contains_cons,show(i == x)=false by simpa using h2,pr];split<;>rfl
   ·rw[if_neg (by omega),if_neg h3]
    have hn:(x::y::r).contains i=false:=by
     rw[rS];intro hc;obtain⟨k,hk⟩:=List.mem_iff_getElem?.1 (List.contains_iff_mem.1 hc)
     cases k with
     | zero=>simp at hk;omega
     | succ k=>have:=eO ha' 0 (k+1) x i (by omega) rfl hk;omega
    rw[hn];rfl
section
variable {P:Program} {T:Ty}
theorem iK{ops:Array Oper}{C:V→List V→List B→(V→List B→Prop)→Prop}{E:List Nat}{tab:List (Nat×List Nat)}{Hs:Nat→List B}(hasc:jH E=true)
  (hst:∀i o,ops[i]?=some o→E.contains i=false→bN o.op=true∧(cZ o.op=true∨∀c,c<E.length+1→fm (aM [] ops.toList) E i c=true→c=bp E i∨c∈fK tab i)):
  ∀(l:List Oper) (i:Nat) (fr:List V) (H:List B) (cv:List (V×List B)) (vs:List V) (hs:List (List B)) (f:List V),l=ops.toList.drop i→runT T ops E l i fr H cv=some (vs,hs,f)→(∀k,k≤hs.length→Hs (bp E i+k)=((H::hs)[k]?).getD [])→
   oblT T ops C E tab Hs l i (bp E i) fr vs→bU T ops C (aM [] ops.toList) E Hs l i fr vs
 | [],i,fr,H,cv,vs,hs,f,hl,hr,hH,h=>trivial
 | o::rest,i,fr,H,cv,vs,hs,f,hl,hr,hH,h=>by
  have ho:ops[i]?=some o:=by
   have:=congrArg (fun l=>l[0]?) hl;simp at this;exact this.symm
  have hrest:rest=ops.toList.drop (i+1):=by
   have:=congrArg rx hl;simpa using this
  have hHi:Hs (bp E i)=H:=by have:=hH 0 (qV _);simpa using this
  simp only[runT]at hr
  cases hw:bA ops fr o with
  | none=>rw[hw]at hr;cases hr
  | some b =>
  rw[hw]at hr
  cases b with
  | false =>
   simp only at hr;split at hr
   ·cases hr
   rename_i hE
   have hE:E.contains i=false:=by simpa using hE
   split at hr
   ·rename_i vs' hs' f' hr';cases hr;simp only[oblT,hw,hE,oZ,if_false]at h;simp only[bU,hw];refine⟨⟨by first | trivial | rfl,hE⟩,iK hasc hst rest (i+1) _ H cv vs' _ _ hrest hr' (fun k hk=>?_) ?_⟩
    ·rw[bc hasc,hE];simpa using hH k hk
    ·rw[bc hasc,hE];simpa using h.2
   ·cases hr
  | true =>
   simp only at hr
   have fin:∀(v:V) (H':List B) (cv':List (V×List B)),(if E.contains i then(match runT T ops E rest (i+1) (ak fr o.dst v) H' cv' with
      | some (vs,hs,f)=>some (v::vs,H'::hs,f)
      | none=>none)
     else(match runT T ops E rest (i+1) (ak fr o.dst v) H cv' with
      | some (vs,hs,f)=>some (v::vs,hs,f)
      | none=>none))=some (vs,hs,f)→
     ∃vs',vs=v::vs'∧(E.contains i=true→Hs (bp E i+1)=H')∧(oblT T ops C E tab Hs rest (i+1) (if E.contains i then bp E i+1 else bp E i) (ak fr o.dst v) vs'→bU T ops C (aM [] ops.toList) E Hs rest (i+1) (ak fr o.dst v) vs'):=fun v H' cv' hq=>by
    cases hE:E.contains i with
    | true =>
     rw[hE]at hq;simp only[if_true]at hq;split at hq
     ·rename_i vs' hs' f' hr';cases hq;refine⟨vs',rfl,fun _=>?_,fun hh=>?_⟩
      ·have:=hH 1 (by simp);simpa using this
      ·refine iK hasc hst rest (i+1) _ H' cv' vs' hs' _ hrest hr' (fun k hk=>?_) ?_
       ·rw[bc hasc,hE];have:=hH (k+1) (by simp;omega);simp only[if_true,pL]at this ⊢;rw[show bp E i+1+k=bp E i+(k+1) by omega];exact this
       ·rw[bc hasc,hE];simpa using hh
     ·cases hq
    | false =>
     rw[hE]at hq;simp only[oZ,if_false]at hq;split at hq
     ·rename_i vs' hs' f' hr';cases hq;refine⟨vs',rfl,(fun h=>by cases h),fun hh=>?_⟩;refine iK hasc hst rest (i+1) _ H cv' vs' hs _ hrest hr' (fun k hk=>?_) ?_
      ·rw[bc hasc,hE];simpa using hH k hk
      ·rw[bc hasc,hE];simpa using hh
     ·cases hq
   cases hc:aj o.op with
   | some p =>
    obtain⟨g,args⟩:=p;rw[hc]at hr;simp only at hr;split at hr
    ·rename_i v H' cv';obtain⟨vs',rfl,hEH,hrec⟩:=fin v H' cv' hr;simp only[oblT,hw,hc]at h;simp only[bU,hw,hc];refine⟨?_,hrec h.2⟩
     cases hE:E.contains i with
     | true =>
      rw[hE]at h;simp only[if_true]at h ⊢;rw[jx hasc hE];exact h.1
     | false =>
      rw[hE]at h;simp only[oZ,if_false]at h ⊢;obtain⟨s1,s2⟩:=hst i o ho hE
      have hns:cZ o.op=false:=by
       cases hop:o.op<;>rw[hop]at hc<;>simp only[aj]at hc<;>first | (cases hc;done) | rfl
      rw[hns]at s2;have s2:=s2.resolve_left (by simp);refine allC_of (fun c hcm=>?_);split
      ·rename_i hp
       rcases s2 c (by simpa using hcm) hp with rfl | hm
       ·exact cF h.1 _ (by simp)
       ·exact cF h.1 _ (by simp[hm])
      ·trivial
    ·cases hr
   | none =>
    rw[hc]at hr;simp only at hr
    cases hop:aop T o.op (aO fr) H with
    | none=>rw[hop]at hr;cases hr
    | some q =>
     obtain⟨v,H'⟩:=q;rw[hop]at hr;simp only at hr;obtain⟨vs',rfl,hEH,hrec⟩:=fin v H' cv hr;simp only[oblT,hw,hc]at h;simp only[bU,hw,hc];refine⟨?_,hrec h.2⟩
     cases hE:E.contains i with
     | true =>
      simp only[if_true];rw[jx hasc hE,hHi,hEH hE];exact hop
     | false =>
      rw[hE]at h;simp only[oZ,if_false,pr]at h ⊢;obtain⟨s1,s2⟩:=hst i o ho hE;have hHH:=fj s1 hop;subst hHH;refine allC_of (fun c hcm=>?_);split
      ·rename_i hp
       cases hsc:cZ o.op with
       | true=>exact iC hsc hop _
       | false =>
        rw[hsc]at h s2;simp only[oZ,if_false]at h
        rcases(s2.resolve_left (by simp)) c (by simpa using hcm) hp with rfl | hm
        ·rw[hHi];exact hop
        ·exact cF h.1 _ hm
      ·trivial
where
 allC_of {p:Nat→Prop} : ∀{l:List Nat},(∀c∈l,p c)→dq p l
  | [],_=>trivial
  | c::l,h=>⟨h c (by simp),allC_of (fun d hd=>h d (by simp[hd]))⟩
theorem drawT_ob{ops:Array Oper}{C:V→List V→List B→(V→List B→Prop)→Prop}{K:List V→List B→Prop}{fr:List V}{H:List B}(E:List Nat)(tab:List (Nat×List Nat))(cv:List (V×List B))(hst:statT ops E tab=true)(h1:DrawT T ops E tab cv C K fr H):gM T ops E cv C K fr H:=by
 unfold DrawT at h1;unfold gM;simp only[statT,oP]at hst;obtain⟨⟨st1,st2⟩,st3⟩:=hst;split at h1
 ·exact h1.elim
 ·rename_i vs hs f hr;rw[hr];obtain⟨a1,a2,a3⟩:=h1
  have hasc:jH E=true:=by
   unfold jS at st2;simp only[oP]at st2;exact st2.1.1
  have h00:bp E 0=0:=by cases E<;>simp[bp]
  refine⟨⟨jR st1 st2,a1⟩,?_,a3⟩;refine iK hasc (fun i o ho hE=>?_) ops.toList 0 fr H cv vs hs f (by simp) hr (fun k hk=>by rw[h00,pI]) (by rw[h00];exact a2);have hil:i<ops.size:=(Array.getElem?_eq_some_iff.1 ho).1;have:=List.all_eq_true.1 st3 i (by simpa using hil);rw[hE,ho,pr]at this;simp only[oP,pW]at this;refine⟨this.1,this.2.imp (fun h=>h) (fun hall c hc hp=>?_)⟩;have h3:=List.all_eq_true.1 hall c (by simpa using hc);simp only[pW,pZ,beq_iff_eq]at h3
  rcases h3 with(h3 | h3) | h3
  ·rw[hp]at h3;cases h3
  ·exact .inl h3
  ·exact .inr (List.contains_iff_mem.1 h3)
theorem aX(hT:TOk P T)(hm:P.follows .mixedOrders=true){id:Nat}{ops:Array Oper}{Q:Exit→List V→List B→Prop}{fr:List V}{H:List B}(E:List Nat)(tab:List (Nat×List Nat))(cv:List (V×List B))(hst:statT ops E tab=true)
  (h:∀(C:V→List V→List B→(V→List B→Prop)→Prop) (K:List V→List B→Prop),(∀fv args H K',aL P fv args H K'→C fv args H K')→(∀fr H,Q .normal fr H→K fr H)→DrawT T ops E tab cv C K fr H):W P (.region id ops true) Q fr H :=
 W_draw hT hm E cv fun C K hC hK=>drawT_ob E tab cv hst (h C K hC hK)
end
attribute [simp] DrawT runT oblT fK dq cZ
end Go.AM
namespace Go.AM
open Go
def dM(p q:V):List V→List V→Prop
 | [],[]=>True
 | x::xs,y::ys=>(y=x∨(x=p∧y=q))∧dM p q xs ys
 | _,_=>False
theorem dM.len{p q:V} : ∀{xs ys:List V},dM p q xs ys→xs.length=ys.length
 | [],[],_=>rfl
 | [],_::_,h=>h.elim
 | _::_,[],h=>h.elim
 | _::_,_::_,h=>by simp[h.2.len]
theorem dM.at_{p q:V} : ∀{xs ys:List V},dM p q xs ys→∀(i:Nat) x y,xs[i]?=some x→ys[i]?=some y→y=x∨(x=p∧y=q)
 | [],_,_,i,x,y,h,_=>by simp at h
 | _::_,[],h,_,_,_,_,_=>h.elim
 | a::xs,b::ys,h,0,x,y,h1,h2=>by simp at h1 h2;subst h1;subst h2;exact h.1
 | a::xs,b::ys,h,i+1,x,y,h1,h2=>h.2.at_ i x y (by simpa using h1) (by simpa using h2)
def bi(q:V)(sl:List Nat):Nat→List V→List V
 | _,[]=>[]
 | i,v::r=>(if sl.contains i then q else v)::bi q sl (i+1) r
section
variable {P:Program} {T:Ty}
def St.frz(s:St)(k:Nat)(bl:B):St:={ s with H:=s.H.set k bl }
theorem nE{s:St}{k e z:Nat}{xs:List V}{fz:Bool}(hk:s.H[k]?=some (.buf e z xs fz)){i:Nat}(h:Lv (s.frz k (.buf e z xs true)) i):Lv s i:=by
 have hil:i<s.H.length:=by have:=h.1;simpa[St.frz] using this
 refine⟨hil,fun e' z' xs' fz' hb=>?_⟩;by_cases hik:i=k
 ·subst hik;exact h.2 e z xs true (by simp only[St.frz];rw[oX hil])
 ·exact h.2 e' z' xs' fz' (by simp only[St.frz];rw[oQ (Ne.symm hik)];exact hb)
theorem fE{s:St}(hg:Good s){k e z:Nat}{xs:List V}{fz:Bool}(hk:s.H[k]?=some (.buf e z xs fz)):
  Good (s.frz k (.buf e z xs true))∧Step s (s.frz k (.buf e z xs true))∧∀u,Rel s (.buf k 0 xs.length xs.length) u→Rel (s.frz k (.buf e z xs true)) (.lst z false xs) u:=by
 have hkl:=aB hk
 have hst:Step s (s.frz k (.buf e z xs true)):=⟨rfl,rfl,rfl,rfl,oJ _,fun _ _ _=>rfl,by simp[St.frz],fun i h1 h2=>absurd h1 (by have:=h2.1;simp[St.frz]at this;omega),fun i bl hi=>by
  by_cases hik:i=k
  ·subst hik;rw[hk]at hi;cases hi;exact⟨xs,true,by simp[St.frz,hkl],oJ _,fun _=>⟨rfl,rfl⟩,fun _=>⟨rfl,rfl,fun _=>rfl⟩,.inl rfl,.inl⟩
  ·have hk':(s.frz k (.buf e z xs true)).H[i]?=some bl:=by simp only[St.frz];rw[oQ (Ne.symm hik)];exact hi
   cases bl with
   | cells cs=>exact⟨rfl,cs,hk'⟩
   | map kk es=>exact⟨rfl,es,hk'⟩
   | buf e z xs fz=>exact⟨xs,fz,hk',oJ _,fun _=>⟨rfl,rfl⟩,fun hf=>⟨hf,rfl,fun _=>rfl⟩,.inl rfl,.inl⟩⟩
 have hgd:Good (s.frz k (.buf e z xs true)):=by
  refine⟨hg.fl,fun i hi=>hg.lt i (nE hk hi),fun i j hi hj=>hg.inj i j (nE hk hi) (nE hk hj),fun i bl hi=>?_⟩;by_cases hik:i=k
  ·subst hik;simp only[St.frz]at hi;rw[oX hkl]at hi;cases hi;obtain⟨vs,g2,g3,g4,g5,g6,g7⟩:=hg.blk i _ hk;exact⟨vs,g2,g3,g4,g5,g6,fun a x j c u h1 h2 h3=>(g7 a x j c u h1 h2 h3).step hst⟩
  ·have hi':s.H[i]?=some bl:=by simp only[St.frz]at hi;rwa [oQ (Ne.symm hik)]at hi
   exact(hg.blk i bl hi').step hst hi' rfl rfl (fun _=>rfl)
 refine⟨hgd,hst,fun u h=>?_⟩
 cases h with
 | buf _ _ _ _ e2 z2 xs2 fz2 A l c hk2 ht hh =>
  rw[hk]at hk2;cases hk2;obtain⟨hA,rfl,hcap,_⟩:=hh rfl;obtain⟨vs,g2,g3,g4,g5,g6,g7⟩:=hg.blk k _ hk;by_cases hl0:xs.length=0
  ·have hx:xs=[]:=pX hl0;subst hx;exact bw z false A c (fun h=>by cases h)
  have hκ:s.κ k≠0:=by omega
  have hA:=hA hκ;subst hA;have hlk:=lvB hk hκ
  have hP:(s.frz k (.buf e z xs true)).Prot (s.φ k):=by
   refine⟨(hg.lt k hlk).1,(hg.lt k hlk).2,fun j hj e'=>?_⟩;have:=hg.inj j k (nE hk hj) hlk e';subst this;exact⟨e,z,xs,by simp only[St.frz];rw[oX hkl]⟩
  refine .lst z false xs _ c (s.φ k) (0*z) (fun i j=>(s.w.cell? ⟨s.φ k,0*z+i*z+j,none⟩).getD Go.undef) (by omega) (by simp) (fun _=>⟨rfl,hP⟩) g6 (fun i x j d hx hd=>?_) (fun i x j d hx hd=>?_)
  ·obtain⟨_,_,h3⟩:=eN hg hk hx;obtain⟨u,hu,_⟩:=h3 j d hd;show s.w.cell? _=_;rw[pz,pI,hu];rfl
  ·obtain⟨_,_,h3⟩:=eN hg hk hx;obtain⟨u,hu,hr⟩:=h3 j d hd;rw[pz,pI,hu];exact hr.step hst
theorem gA{s:St}(hg:Good s){k e z:Nat}{xs:List V}{fz:Bool}(hk:s.H[k]?=some (.buf e z xs fz)){x y:V}{u:Value}(h:Rel s x u)(ho:y=x∨(x = .buf k 0 xs.length xs.length∧y = .lst z false xs)):Rel (s.frz k (.buf e z xs true)) y u:=by
 obtain⟨_,h2,h3⟩:=fE hg hk
 rcases ho with rfl | ⟨rfl,rfl⟩
 ·exact h.step h2
 ·exact h3 u h
theorem eo(k:Nat)(sl:List Nat){c:Code}{Q:Exit→List V→List B→Prop}{fr:List V}{H:List B}{e z:Nat}{xs:List V}{fz:Bool}(hk:H[k]?=some (.buf e z xs fz))
  (ho:dM (.buf k 0 xs.length xs.length) (.lst z false xs) fr (bi (.lst z false xs) sl 0 fr)) (h:W P c Q (bi (.lst z false xs) sl 0 fr) (H.set k (.buf e z xs true))):W P c Q fr H:=by
 intro s a hA hg hf hd;obtain⟨rfl,hZ⟩:=hA;obtain⟨p1,p2,_⟩:=fE hg hk;have hl:=ho.len
 have:=h (s.frz k (.buf e z xs true)) a ⟨rfl,hZ.step p2⟩ p1 ⟨by rw[hf.len,hl],fun i v u hv hu=>by
  have hx:fr[i]?=some (fr[i]'(by have:=aB hv;omega)):=oG _
  exact gA hg hk (hf.rel i _ u hx hu) (ho.at_ i _ v hx hv)⟩ hd
 exact wp_mono this fun _ _ _ hl=>bO p2 hl
theorem eG(k:Nat)(sl:List Nat)(k0:Nat)(sc:List Nat){c:Code}{Q:Exit→List V→List B→Prop}{fr:List V}{H:List B}{e z:Nat}{xs cs:List V}{fz:Bool}(hk:H[k]?=some (.buf e z xs fz))(hk0:H[k0]?=some (.cells cs))
  (ho:dM (.buf k 0 xs.length xs.length) (.lst z false xs) fr (bi (.lst z false xs) sl 0 fr)) (hc:dM (.buf k 0 xs.length xs.length) (.lst z false xs) cs (bi (.lst z false xs) sc 0 cs))
  (h:W P c Q (bi (.lst z false xs) sl 0 fr) ((H.set k (.buf e z xs true)).set k0 (.cells (bi (.lst z false xs) sc 0 cs)))):W P c Q fr H:=by
 intro s a hA hg hf hd;obtain⟨rfl,hZ⟩:=hA;obtain⟨p1,p2,_⟩:=fE hg hk;have hl:=ho.len;have hlc:=hc.len
 have hne:k0≠k:=fun h=>by subst h;rw[hk]at hk0;cases hk0
 generalize hs1:s.frz k (.buf e z xs true)=s1 at p1 p2
 have hk1:s1.H[k0]?=some (.cells cs):=by rw[←hs1];simp only[St.frz];rw[oQ (Ne.symm hne)];exact hk0
 have hr1:∀x y u,Rel s x u→(y=x∨(x = .buf k 0 xs.length xs.length∧y = .lst z false xs))→Rel s1 y u:=fun x y u h1 h2=>by subst hs1;exact gA hg hk h1 h2
 have hw1:s1.w=s.w:=by rw[←hs1];rfl
 have hst:=bI (w:=s1.w) (bl':=.cells (bi (.lst z false xs) sc 0 cs)) p1 hk1 (lvC hk1) trivial rfl rfl rfl (oJ _) (fun _ _ _=>rfl)
 have hgd:Good (s1.setB s1.w k0 (.cells (bi (.lst z false xs) sc 0 cs))):=by
  refine bQ p1 hk1 (lvC hk1) trivial rfl rfl rfl (oJ _) (fun _ _ _=>rfl) (fun hst=>?_);obtain⟨h1,vs,t,h2,h3,h4⟩:=hg.blk k0 _ hk0
  have hφ:s1.φ k0=s.φ k0:=by rw[←hs1];rfl
  refine⟨fun d hd=>?_,vs,t,by show s1.w.heap[s1.φ k0]?=_;rw[hw1,hφ];exact h2,by omega,fun i d u hd hu=>?_⟩
  ·obtain⟨i,hi⟩:=List.mem_iff_getElem?.1 hd;have hx:cs[i]?=some (cs[i]'(by have:=aB hi;omega)):=oG _
   rcases hc.at_ i _ d hx hi with h9 | ⟨_,h9⟩
   ·rw[h9];exact h1 _ (oI _)
   ·rw[h9];rfl
  ·have hx:cs[i]?=some (cs[i]'(by have:=aB hd;omega)):=oG _;exact(hr1 _ d u (h4 i _ u hx hu) (hc.at_ i _ d hx hd)).step hst
 have hH:(s1.setB s1.w k0 (.cells (bi (.lst z false xs) sc 0 cs))).H=(s.H.set k (.buf e z xs true)).set k0 (.cells (bi (.lst z false xs) sc 0 cs)):=by
  rw[←hs1];rfl
 have:=h (s1.setB s1.w k0 (.cells (bi (.lst z false xs) sc 0 cs))) a ⟨hH,(hZ.step p2).step hst⟩ hgd ⟨by rw[hf.len,hl],fun i v u hv hu=>by
  have hx:fr[i]?=some (fr[i]'(by have:=aB hv;omega)):=oG _
  exact(hr1 _ v u (hf.rel i _ u hx hu) (ho.at_ i _ v hx hv)).step hst⟩ hd
 have e1:(s1.setB s1.w k0 (.cells (bi (.lst z false xs) sc 0 cs))).w=s.w:=hw1;rw[e1]at this
 exact wp_mono this fun _ _ _ hl=>bO (p2.trans hst) hl
theorem callF{f:FuncId}{args args':List V}{H:List B}{v:V}(k:Nat){e z:Nat}{xs:List V}{fz:Bool}(hk:H[k]?=some (.buf e z xs fz))(h:aJ P f args' fun r=>r=v)(hr:dM (.buf k 0 xs.length xs.length) (.lst z false xs) args args')(hp:∀a∈args',Pure a):
  aL P (.fn f []) args H fun r H'=>r=v∧H'=H.set k (.buf e z xs true):=by
 simp only[aL,oU];have h1:=gH (H:=H.set k (.buf e z xs true)) h (rfl:args'.length=args'.length) (fun i a a' ha ha'=>by rw[ha]at ha';cases ha';exact .pure a (hp a (oH ha))) (.inl hp);refine⟨h1.1,fun s vals hA hg hsz hrel=>?_⟩;obtain⟨rfl,hZ⟩:=hA;obtain⟨p1,p2,_⟩:=fE hg hk;have hl:=hr.len
 refine(h1.2 (s.frz k (.buf e z xs true)) vals ⟨rfl,hZ.step p2⟩ p1 (by omega) (fun i b u hb hu=>?_)).mono fun e' w' ⟨u,s',r,a1,a2,a3,a4,a5,a6,a7,a8⟩=>⟨u,s',r,a1,a2,a3,p2.trans a4,a5,a8,a6⟩
 have hx:args[i]?=some (args[i]'(by have:=aB hb;omega)):=oG _;exact gA hg hk (hrel i _ u hx hu) (hr.at_ i _ b hx hb)
end
attribute [simp] dM bi
end Go.AM
namespace Go.AM
open Go
def oblS(T:Ty)(ops:Array Oper)(C:V→List V→List B→(V→List B→Prop)→Prop)(E S:List Nat)(tab:List (Nat×List Nat))(Hs:Nat→List B):List Oper→Nat→Nat→List V→List V→Prop
 | [],_,_,_,_=>True
 | _::_,_,_,_,[]=>False
 | o::rest,i,c,fr,v::vs =>
  (S.contains i=true→bA ops fr o=some false)∧(match bA ops fr o with
   | some true=>match aj o.op with
    | some (f,args)=>if E.contains i then C (aO fr f) (args.map (aO fr)) (Hs c) (fun r H'=>r=v∧H'=Hs (c+1))
     else dq (fun c'=>C (aO fr f) (args.map (aO fr)) (Hs c') (fun r H'=>r=v∧H'=Hs c')) (c::fK tab i)
    | none=>if E.contains i||cZ o.op then True else dq (fun c'=>aop T o.op (aO fr) (Hs c')=some (v,Hs c')) (fK tab i)
   | _=>True)∧oblS T ops C E S tab Hs rest (i+1) (if E.contains i then c+1 else c) (ak fr o.dst v) vs
def DrawS(T:Ty)(ops:Array Oper)(E S:List Nat)(tab:List (Nat×List Nat))(cv:List (V×List B))(C:V→List V→List B→(V→List B→Prop)→Prop)(K:List V→List B→Prop)(fr:List V)(H:List B):Prop :=
 match runT T ops E ops.toList 0 fr H cv with
 | none=>False
 | some (vs,hs,f)=>hs.length=E.length∧oblS T ops C E S tab (fun c=>(H::hs)[c]?.getD []) ops.toList 0 0 fr vs∧K f ((H::hs)[E.length]?.getD [])
section
variable {P:Program} {T:Ty}
end
attribute [simp] DrawS oblS
end Go.AM
namespace Go.AM
open Go
inductive ExpX (H:List B):V→V→Prop
 | pure (v:V) (h:Pure v):ExpX H v v
 | buf (k e z:Nat) (xs:List V) (fz:Bool) (hk:H[k]?=some (.buf e z xs fz)) (hp:∀x∈xs,Pure x):ExpX H (.buf k 0 xs.length xs.length) (.lst z false xs)
 | bufx (k e z:Nat) (xs ys:List V) (fz:Bool) (hk:H[k]?=some (.buf e z xs fz)) (hl:xs.length=ys.length) (h:∀(i:Nat) c d,xs[i]?=some c→ys[i]?=some d→ExpX H c d):ExpX H (.buf k 0 xs.length xs.length) (.lst z false ys)
 | agg (cs ds:List V) (hl:cs.length=ds.length) (h:∀(i:Nat) c d,cs[i]?=some c→ds[i]?=some d→ExpX H c d):ExpX H (.agg cs) (.agg ds)
 | tup (cs ds:List V) (hl:cs.length=ds.length) (h:∀(i:Nat) c d,cs[i]?=some c→ds[i]?=some d→ExpX H c d):ExpX H (.tup cs) (.tup ds)
theorem exL_of{f:Nat→V→Option V} : ∀{xs ys:List V},xs.length=ys.length→(∀(i:Nat) x y,xs[i]?=some x→ys[i]?=some y→∃d0,∀d,d0≤d→f d x=some y)→∃d0,∀d,d0≤d→exL (f d) xs=some ys
 | [],[],_,_=>⟨0,fun _ _=>rfl⟩
 | x::xs,y::ys,hl,h=>by
  obtain⟨d1,h1⟩:=h 0 x y rfl rfl;obtain⟨d2,h2⟩:=exL_of (xs:=xs) (ys:=ys) (by simpa using hl) (fun i a b ha hb=>h (i+1) a b (by simpa using ha) (by simpa using hb));exact⟨max d1 d2,fun d hd=>by simp only[exL,h1 d (by omega),h2 d (by omega)]⟩
theorem ExpX.ex{H:List B}{v v':V}(h:ExpX H v v'):∃d0,∀d,d0≤d→exV H 0 d v=some v':=by
 induction h with
 | pure v h=>exact exV_pure h
 | buf k e z xs fz hk hp =>
  obtain⟨d0,h0⟩:=fQ (f:=exV H 0) (fun v hv=>exV_pure (hp v hv));refine⟨d0+1,fun d hd=>?_⟩;obtain⟨m,rfl⟩:∃m,d=m+1:=⟨d-1,by omega⟩;simp only[exV,Nat.not_lt_zero,if_false,hk];rw[if_pos ⟨by first | trivial | rfl,by omega⟩,pC,oY,h0 m (by omega)]
 | bufx k e z xs ys fz hk hl _ ih =>
  obtain⟨d0,h0⟩:=exL_of (f:=exV H 0) hl ih;refine⟨d0+1,fun d hd=>?_⟩;obtain⟨m,rfl⟩:∃m,d=m+1:=⟨d-1,by omega⟩;simp only[exV,Nat.not_lt_zero,if_false,hk];rw[if_pos ⟨by first | trivial | rfl,by omega⟩,pC,oY,h0 m (by omega)]
 | agg cs ds hl _ ih =>
  obtain⟨d0,h0⟩:=exL_of (f:=exV H 0) hl ih;exact⟨d0+1,fun d hd=>by obtain⟨m,rfl⟩:∃m,d=m+1:=⟨d-1,by omega⟩;simp only[exV,h0 m (by omega)]⟩
 | tup cs ds hl _ ih =>
  obtain⟨d0,h0⟩:=exL_of (f:=exV H 0) hl ih;exact⟨d0+1,fun d hd=>by obtain⟨m,rfl⟩:∃m,d=m+1:=⟨d-1,by omega⟩;simp only[exV,h0 m (by omega)]⟩
theorem ExpX.agg2{H:List B}{a b c d:V}(h1:ExpX H a c)(h2:ExpX H b d):ExpX H (.agg [a,b]) (.agg [c,d]):=.agg _ _ rfl (fun i x y hx hy=>by
 match i with
 | 0=>simp at hx hy;subst hx;subst hy;exact h1
 | 1=>simp at hx hy;subst hx;subst hy;exact h2
 | i+2=>simp at hx)
theorem nS{H:List B}{k len e z:Nat}{xs:List V}{fz:Bool}(hk:H[k]?=some (.buf e z xs fz))(hl:len=xs.length)(hp:∀x∈xs,Pure x):ExpX H (.buf k 0 len len) (.lst z false xs):=by
 subst hl;exact .buf k e z xs fz hk hp
theorem au{P:Program}{f:FuncId}{args:List V}{K:V→Prop}(h:aU P f args [] fun r H=>∃r',ExpX H r r'∧Pure r'∧K r'):aJ P f args K:=by
 refine⟨h.1,fun F w vals hZ hF hsz hrel=>?_⟩
 refine(h.2 (base F w) vals ⟨rfl,hZ⟩ (base_good hF) hsz hrel).mono fun e w' ⟨u,s',r,a1,a2,a3,a4,a5,r',a6,a7,a8⟩=>?_
 subst a2;have hb:=fG a4;refine⟨u,r',a1,a7,?_,hb,a8⟩;have hFs:s'.F=F:=a4.F;obtain⟨d0,hd⟩:=a6.ex;have hr:=ex_rel (H:=[]) (G:=s'.H) a3 rfl d0 r r' u a5 (hd d0 (oJ _));exact hr.pure_ (t:=base F s'.w) a7 (fun b hb=>⟨⟨hb.1,fun hf=>hb.2.1 (by show s'.F b;rw[hFs];exact hf),fun k hk=>by have:=hk.1;simp[base]at this⟩,rfl⟩)
end Go.AM
namespace Go.AM
open Go
section
variable {P:Program} {T:Ty}
end
def mB:Nat→Nat→List Bool
 | 0,_=>[]
 | n+1,N=>decide (N % 2=1)::mB n (N / 2)
theorem W_loopM{P:Program}{σ:Type}(n N:Nat){ms:List Bool}(hms:mB n N=ms)(ok:σ→Prop)(μ:σ→Nat)(g:σ→List (Nat×V))(Hf:σ→List B){c:Code}{Q:Exit→List V→List B→Prop}{fr:List V}{H:List B}(x0:σ)(h0:ok x0)(hF:iZ (ovr (ee ms fr) (g x0)) fr)(hH:H=Hf x0)
  (hmin:∀x,ok x→H.length≤(Hf x).length)
  (hround:∀x,ok x→∀(N:List V→List B→Prop) (Q':Exit→List V→List B→Prop),(∀y fr' H',ok y→μ y<μ x→iZ (ovr (ee ms fr) (g y)) fr'→(∃G,H'=Hf y++G)→(∀v∈ovr (ee ms fr) (g y),rb (Hf y).length v)→(∀bl∈Hf y,rbB (Hf y).length bl)→N fr' H')→
   (∀e fr' H',Q e fr' H'→Q' e fr' H')→W P c (gN N Q') (ovr (ee ms fr) (g x)) (Hf x)):W P (.loop c) Q fr H :=
 W_loopV ms ok μ g Hf x0 h0 hF hH hmin hround
theorem cPx{P:Program}{f:FuncId}{args args':List V}{H:List B}{v:V}{K:V→List B→Prop}(h:aJ P f args fun r=>r=v)(hp:∀a∈args,AM.Pure a)(k:K v H)(e:args'=args:=by exact rfl):aL P (.fn f []) args' H K:=e▸(aT h hp).mono (by rintro r H' ⟨rfl,rfl⟩;exact k)
end Go.AM
end
