/- JQ3: own texts of this seat, joined and shortened by pack.py: AMf, Ty, K0, T1, T2, T3, T4, T5, Wk, T6, T7. -/
import Derived.Test.YteijbpppalhihaaGreatJQ2
import Derived.Deep.Slices
import Derived.Test.YteijbpppalhihaaGreatProg
import Derived.ProofKit
import Derived.Laws.Externs
import Derived.Lib.Bytealg
import Derived.Lib.Hide
import Derived.WalkSpells
import Derived.WalkLawsBesides
set_option linter.unusedVariables false
set_option linter.unusedSimpArgs false
set_option maxRecDepth 100000
set_option maxHeartbeats 64000000
section
namespace Go.AM
open Go
inductive Tag (p:Prop):Type
 | mk
def Stop(p:Prop)(_:Tag p):Prop:=p
theorem aI{p:Prop}{t:Tag p}(h:p):Stop p t:=h
inductive QTag (Q:Exit→List V→List B→Prop):Type
 | mk
inductive XTag (X:List V→List B→Prop):Type
 | mk
def Behind(X:List V→List B→Prop)(_:XTag X)(fr:List V)(d:Option Tmp)(r:V)(H:List B):Prop:=X (bJ fr d r) H
def XOps(T:Ty)(ops:Array Oper)(C:V→List V→List B→(V→List B→Prop)→Prop)(K:List V→List B→Prop):List Oper→List V→List B→Prop
 | [],fr,H=>K fr H
 | o::rest,fr,H=>match bR ops fr o with
  | some b=>if b=true then(match bE o.op with
   | some (f,args)=>C (aU fr f) (args.map (aU fr)) H (Behind (XOps T ops C K rest) .mk fr o.dst)
   | none=>match aop T o.op (aU fr) H with
    | some (v,H')=>XOps T ops C K rest (bJ fr o.dst v) H'
    | none=>False)
   else XOps T ops C K rest (bJ fr o.dst (.tup [])) H
  | none=>False
def CY(C:V→List V→List B→(V→List B→Prop)→Prop)(f:V)(args:List V)(H:List B)(K:V→List B→Prop):Prop:=∃v,C f args H (fun r H'=>r=v∧H'=H)∧K v H
theorem ae{C:V→List V→List B→(V→List B→Prop)→Prop}{f:V}{args:List V}{H:List B}{K:V→List B→Prop}(v:V)(h:C f args H (fun r H'=>r=v∧H'=H))(hk:K v H):CY C f args H K:=⟨v,h,hk⟩
def YOps(T:Ty)(ops:Array Oper)(C:V→List V→List B→(V→List B→Prop)→Prop)(K:List V→List B→Prop):List Oper→List V→List B→Prop
 | [],fr,H=>K fr H
 | o::rest,fr,H=>match bR ops fr o with
  | some b=>if b=true then(match bE o.op with
   | some (f,args)=>CY C (aU fr f) (args.map (aU fr)) H (Behind (YOps T ops C K rest) .mk fr o.dst)
   | none=>match aop T o.op (aU fr) H with
    | some (v,H')=>H'=H∧YOps T ops C K rest (bJ fr o.dst v) H
    | none=>False)
   else YOps T ops C K rest (bJ fr o.dst (.tup [])) H
  | none=>False
section
variable {P:Program} {T:Ty}
theorem oM{ops:Array Oper}{C:V→List V→List B→(V→List B→Prop)→Prop}(hmono:∀fv args H K K',(∀r H',K r H'→K' r H')→C fv args H K→C fv args H K'){K:List V→List B→Prop} : ∀(l:List Oper) (fr:List V) (H:List B),XOps T ops C K l fr H→jO T ops C K l fr H
 | [],_,_,h=>h
 | o::rest,fr,H,h=>by
  simp only[XOps]at h;simp only[jO]
  cases hw:bR ops fr o with
  | none=>rw[hw]at h;exact h.elim
  | some b =>
  rw[hw]at h
  cases b with
  | false=>exact oM hmono rest _ _ (by simpa using h)
  | true =>
   simp only[if_true]at h
   cases hc:bE o.op with
   | some p =>
    obtain⟨f,args⟩:=p;rw[hc]at h;exact hmono _ _ _ _ _ (fun r H' hk=>oM hmono rest _ _ hk) h
   | none =>
    rw[hc]at h
    cases hop:aop T o.op (aU fr) H with
    | none=>simp only[hop]at h
    | some q =>
     obtain⟨v,H'⟩:=q;simp only[hop]at h ⊢;exact oM hmono rest _ _ h
theorem oL{ops:Array Oper}{C:V→List V→List B→(V→List B→Prop)→Prop}{K:List V→List B→Prop} : ∀(l:List Oper) (fr:List V) (H:List B),YOps T ops C K l fr H→∃cv,oK T ops C K l fr H cv
 | [],_,_,h=>⟨[],h⟩
 | o::rest,fr,H,h=>by
  simp only[YOps]at h;simp only[oK]
  cases hw:bR ops fr o with
  | none=>rw[hw]at h;exact h.elim
  | some b =>
  rw[hw]at h
  cases b with
  | false=>exact oL rest _ _ (by simpa using h)
  | true =>
   simp only[if_true]at h
   cases hc:bE o.op with
   | some p =>
    obtain⟨f,args⟩:=p;rw[hc]at h;obtain⟨v,h1,h2⟩:=h;obtain⟨cv,h3⟩:=oL rest _ _ h2;exact⟨v::cv,h1,h3⟩
   | none =>
    rw[hc]at h
    cases hop:aop T o.op (aU fr) H with
    | none=>simp only[hop]at h
    | some q =>
     obtain⟨v,H'⟩:=q;simp only[hop]at h ⊢;obtain⟨cv,h3⟩:=oL rest _ _ h.2;exact⟨cv,h.1,h3⟩
def hasEff:List Oper→Bool
 | []=>false
 | o::r=>!bm o.op||hasEff r
def WX(T:Ty)(C:V→List V→List B→(V→List B→Prop)→Prop)(L:(c:Code)→(Q:Exit→List V→List B→Prop)→QTag Q→List V→List B→Prop):Code→(Exit→List V→List B→Prop)→List V→List B→Prop
 | .skip,Q,fr,H=>Q .normal fr H
 | .region _ ops false,Q,fr,H=>XOps T ops C (Q .normal) ops.toList fr H
 | .region id ops true,Q,fr,H=>L (.region id ops true) Q .mk fr H∨if hasEff ops.toList=true then False else Stop (stat1 ops=true) .mk∧YOps T ops C (Q .normal) ops.toList fr H
 | .seq a b,Q,fr,H=>WX T C L a (lJ (WX T C L b Q) Q) fr H
 | .cond c a b,Q,fr,H=>match aU fr c with
  | .bool t=>if t=true then WX T C L a Q fr H else WX T C L b Q fr H
  | _=>False
 | .block id c,Q,fr,H=>WX T C L c (gy id Q) fr H
 | .loop c,Q,fr,H=>L (.loop c) Q .mk fr H
 | .exit id,Q,fr,H=>Q (.exit id) fr H
 | .ret,Q,fr,H=>Q .ret fr H
 | _,_,_,_=>False
def LW(P:Program)(c:Code)(Q:Exit→List V→List B→Prop)(_:QTag Q)(fr:List V)(H:List B):Prop:=W P c Q fr H
theorem aK{c:Code}{Q:Exit→List V→List B→Prop}{t:QTag Q}{fr:List V}{H:List B}(h:W P c Q fr H):LW P c Q t fr H:=h
theorem wx_ok(hT:TOk P T)(hm:P.follows .mixedOrders=true):∀(c:Code) (Q:Exit→List V→List B→Prop) (fr:List V) (H:List B),WX T (aT P) (LW P) c Q fr H→W P c Q fr H
 | .skip,Q,fr,H,h=>W_skip h
 | .region id ops false,Q,fr,H,h=>by
  intro s a h1 h2 h3 h4;refine W_region hT (fun C K hC hK=>?_) s a h1 h2 h3 h4;have:=oM (C:=aT P) (fun _ _ _ _ _ hk hc=>hc.mono hk) _ _ _ h;refine dD.WOps_mono hC _ _ _ ?_;exact wops_k (fun fr H hq=>hK fr H hq) _ _ _ this
 | .region id ops true,Q,fr,H,h=>by
  simp only[WX]at h
  rcases h with h | h
  ·exact h
  split at h
  ·exact h.elim
  obtain⟨hst,h⟩:=h;obtain⟨cv,hq⟩:=oL _ _ _ h;intro s a h1 h2 h3 h4;refine W_quiet hT hm cv (oP hst (by simp[nZ,mi])) (fun C K hC hK=>?_) s a h1 h2 h3 h4;exact qops_mono hC hK _ _ _ _ hq
 | .seq a b,Q,fr,H,h=>W_seq ((wx_ok hT hm a _ fr H h).mono fun e fr' H' hq=>by
   cases e with
   | normal=>exact wx_ok hT hm b Q fr' H' hq
   | _=>exact hq)
 | .cond c a b,Q,fr,H,h=>by
  simp only[WX]at h;split at h
  ·rename_i t ht;refine W_cond ht ?_
   cases t with
   | true=>exact wx_ok hT hm a Q fr H (by simpa using h)
   | false=>exact wx_ok hT hm b Q fr H (by simpa using h)
  ·exact h.elim
 | .block id c,Q,fr,H,h=>W_block (wx_ok hT hm c _ fr H h)
 | .loop c,Q,fr,H,h=>h
 | .exit id,Q,fr,H,h=>W_exit h
 | .ret,Q,fr,H,h=>W_ret h
 | .rangeFunc ..,_,_,_,h=>h.elim
 | .scope _,_,_,_,h=>h.elim
 | .label _,_,_,_,h=>h.elim
 | .goto _,_,_,_,h=>h.elim
 | .refuse _,_,_,_,h=>h.elim
where
 wops_k {ops:Array Oper} {K K':List V→List B→Prop} (hk:∀fr H,K fr H→K' fr H):∀(l:List Oper) (fr:List V) (H:List B),jO T ops (aT P) K l fr H→jO T ops (aT P) K' l fr H
  | [],fr,H,h=>hk fr H h
  | o::rest,fr,H,h=>by
   simp only[jO]at h ⊢;split at h
   ·split at h
    ·exact h.mono fun r H' h'=>wops_k hk rest _ _ h'
    ·split at h
     ·exact wops_k hk rest _ _ h
     ·exact h
   ·exact wops_k hk rest _ _ h
   ·exact h
 qops_mono {ops:Array Oper} {C:V→List V→List B→(V→List B→Prop)→Prop} (hC:∀fv args H K',aT P fv args H K'→C fv args H K') {K K':List V→List B→Prop} (hk:∀fr H,K fr H→K' fr H):∀(l:List Oper) (fr:List V) (H:List B) (cv:List V),oK T ops (aT P) K l fr H cv→oK T ops C K' l fr H cv
  | [],fr,H,_,h=>hk fr H h
  | o::rest,fr,H,cv,h=>by
   simp only[oK]at h ⊢;split at h
   ·split at h
    ·split at h
     ·exact⟨hC _ _ _ _ h.1,qops_mono hC hk rest _ _ _ h.2⟩
     ·exact h
    ·split at h
     ·exact⟨h.1,qops_mono hC hk rest _ _ _ h.2⟩
     ·exact h
   ·exact qops_mono hC hk rest _ _ _ h
   ·exact h
theorem W_x(hT:TOk P T)(hm:P.follows .mixedOrders=true){c:Code}{Q:Exit→List V→List B→Prop}{fr:List V}{H:List B}(h:WX T (aT P) (LW P) c Q fr H):W P c Q fr H:=wx_ok hT hm c Q fr H h
def maskF(ms:List Nat):Nat→List V→List V
 | _,[]=>[]
 | i,v::r=>(if ms.contains i then .undef else v)::maskF ms (i+1) r
def ovr:List V→List (Nat×V)→List V
 | fr,[]=>fr
 | fr,(i,v)::r=>ovr (fr.set i v) r
end
attribute [simp ↓] XOps YOps WX Behind
attribute [simp] hasEff bm
attribute [simp] maskF ovr
@[simp] theorem exp_bool (H:List B) (b:Bool) (v:V):Exp H (.bool b) v↔v = .bool b:=⟨fun h=>by cases h;rfl,fun h=>by subst h;exact .pure _ (.bool b)⟩
@[simp] theorem exp_int (H:List B) (k:IntKind) (n:Int) (v:V):Exp H (.int k n) v↔v = .int k n:=⟨fun h=>by cases h;rfl,fun h=>by subst h;exact .pure _ (.int k n)⟩
@[simp] theorem exp_str (H:List B) (x:ByteArray) (v:V):Exp H (.str x) v↔v = .str x:=⟨fun h=>by cases h;rfl,fun h=>by subst h;exact .pure _ (.str x)⟩
@[simp] theorem exp_nilS (H:List B) (v:V):Exp H .nilS v↔v = .nilS:=⟨fun h=>by cases h;rfl,fun h=>by subst h;exact .pure _ .nilS⟩
@[simp] theorem exp_lst (H:List B) (z:Nat) (f:Bool) (xs:List V) (v:V):Exp H (.lst z f xs) v↔v = .lst z f xs∧∀x∈xs,Pure x:=⟨fun h=>by cases h with | pure _ h=>cases h;exact⟨rfl,by assumption⟩,fun⟨h,h2⟩=>by subst h;exact .pure _ (.lst _ _ _ h2)⟩
@[simp] theorem exp_agg (H:List B) (xs:List V) (v:V):Exp H (.agg xs) v↔v = .agg xs∧∀x∈xs,Pure x:=⟨fun h=>by cases h with | pure _ h=>cases h;exact⟨rfl,by assumption⟩,fun⟨h,h2⟩=>by subst h;exact .pure _ (.agg _ h2)⟩
@[simp] theorem exp_tup (H:List B) (xs:List V) (v:V):Exp H (.tup xs) v↔v = .tup xs∧∀x∈xs,Pure x:=⟨fun h=>by cases h with | pure _ h=>cases h;exact⟨rfl,by assumption⟩,fun⟨h,h2⟩=>by subst h;exact .pure _ (.tup _ h2)⟩
theorem dK{H:List B}{k len e z:Nat}{xs:List V}{fz:Bool}(hk:H[k]?=some (.buf e z xs fz))(hl:len=xs.length)(hp:∀x∈xs,Pure x):Exp H (.buf k 0 len len) (.lst z false xs):=by
 subst hl;have:=Exp.buf (H:=H) k 0 xs.length e z xs fz hk (by simp) hp;simpa using this
end Go.AM
namespace Go.AM
open Go Go.Deep
def layB(T:Ty)(tot:Nat):Nat→List Field→Bool
 | off,[]=>off == tot
 | off,f::r=>match T f.type with
  | some j=>f.offset == off&&layB T tot (off+j.size) r
  | none=>false
def ShOk(T:Ty):Nat→TypeId→Bool
 | 0,_=>false
 | n+1,t=>match T t with
  | none=>false
  | some i=>match i.desc with
   | .bool | .int _ | .string=>true
   | .slice e=>match T e with
    | some j=>decide (0<j.size)&&(db j.desc||j.size == 1)&&ShOk T n e
    | none=>false
   | .struct fs=>layB T i.size 0 fs.toList&&fs.toList.all fun f=>ShOk T n f.type
   | _=>false
def Sh(T:Ty):Nat→TypeId→List V→Prop
 | 0,_,_=>False
 | n+1,t,vs=>match T t with
  | none=>False
  | some i=>match i.desc with
   | .bool=>∃b,vs=[.bool b]
   | .int k=>∃m,vs=[.int k m]∧(Lit.int k m).wf=true
   | .string=>∃s,vs=[.str s]∧s.size≤maxLen
   | .slice e=>match T e with
    | some j=>∃xs,vs=[.lst j.size false xs]∧xs.length≤maxLen∧∀x∈xs,∃ws,Sh T n e ws∧ws.length=j.size∧x=(if db j.desc then .agg ws else ws.headD .undef)
    | none=>False
   | .struct fs=>vs.length=i.size∧∀f∈fs.toList,∃j,T f.type=some j∧Sh T n f.type ((vs.drop f.offset).take j.size)
   | _=>False
structure CR (w:World) (vs:List V) (cs:List Value):Prop where
 len:vs.length=cs.length
 one:∀v∈vs,v.one=true
 rel:∀(i:Nat) v c,vs[i]?=some v→cs[i]?=some c→Rel (base (fun _=>False) w) v c
theorem CR.append{w:World}{vs ws:List V}{cs ds:List Value}(h:CR w vs cs)(g:CR w ws ds):CR w (vs++ws) (cs++ds) where
 len:=by simp[h.len,g.len]
 one v hv:=by rcases List.mem_append.1 hv with hv | hv;exact h.one v hv;exact g.one v hv
 rel i v c hv hc:=by
  by_cases hi:i<vs.length
  ·rw[List.getElem?_append_left hi]at hv;rw[List.getElem?_append_left (by rw[←h.len];exact hi)]at hc;exact h.rel i v c hv hc
  ·rw[List.getElem?_append_right (by omega)]at hv;rw[List.getElem?_append_right (by rw[←h.len];omega),←h.len]at hc;exact g.rel _ v c hv hc
theorem CR.single{w:World}{v:V}{c:Value}(h:Rel (base (fun _=>False) w) v c)(h1:v.one=true):CR w [v] [c] where
 len:=rfl
 one x hx:=by simp at hx;subst hx;exact h1
 rel i x d hx hd:=by
  have:i=0:=by have:=aE hx;simpa using this
  subst this;simp at hx hd;subst hx;subst hd;exact h
theorem one_cells{v:V}(h:v.one=true):v.cells=[v]:=by cases v<;>first | rfl | simp[V.one]at h
theorem spot_cell{w:World}{a:Addr}{v:Value}(h:w.cell? a=some v):a.spot=none:=by
 unfold World.cell? at h;split at h
 ·split at h
  ·cases h
  ·rename_i hs;simpa using hs
 ·cases h
theorem addr_at{a:Addr}{n:Nat}(hs:a.spot=none):a.add n=⟨a.block,a.off+n,none⟩:=by
 unfold Addr.add;split
 ·rename_i h;subst h;cases a;simp_all
 ·rfl
section
variable {P:Program} {T:Ty} {Hd:Type} {enc:TypeId×Value→Hd} {w:World} {held:Bool}
theorem pW{n tot:Nat}{cs:List Value}(hlen:cs.length=tot):∀(l:List Field) (off:Nat),layB T tot off l=true→off≤tot →
  (∀f∈l,∀j,T f.type=some j→∃vs,CR w vs ((cs.drop f.offset).take j.size)∧Sh T n f.type vs)→
  ∃vs,CR w vs (cs.drop off)∧∀f∈l,∃j,T f.type=some j∧off≤f.offset∧Sh T n f.type ((vs.drop (f.offset-off)).take j.size)
 | [],off,h,hle,_=>by
  simp only[layB,beq_iff_eq]at h;refine⟨[],⟨by simp;omega,by simp,by simp⟩,by simp⟩
 | f::r,off,h,hle,hf=>by
  simp only[layB]at h;split at h
  ·rename_i j hj;simp only[Bool.and_eq_true,beq_iff_eq]at h;obtain⟨hoff,h⟩:=h;have hle2:off+j.size≤tot:=lay_le r _ h;obtain⟨vs,hcr,hsh⟩:=hf f (by simp) j hj;obtain⟨ws,hcr2,hws⟩:=pW hlen r (off+j.size) h hle2 (fun g hg=>hf g (by simp[hg]))
   have hvl:vs.length=j.size:=by rw[hcr.len,hoff,List.length_take,List.length_drop];omega
   refine⟨vs++ws,?_,fun g hg=>?_⟩
   ·have:=hcr.append hcr2
    rwa [hoff,←List.drop_drop,List.take_append_drop]at this
   ·rcases List.mem_cons.1 hg with rfl | hg
    ·refine⟨j,hj,by omega,?_⟩;rw[hoff,Nat.sub_self,List.drop_zero,List.take_append_of_le_length (by omega),List.take_of_length_le (by omega)];exact hsh
    ·obtain⟨j2,hj2,hle3,hs2⟩:=hws g hg;refine⟨j2,hj2,by omega,?_⟩;rw[List.drop_append,List.drop_of_length_le (by omega),List.nil_append,hvl,show g.offset-off-j.size=g.offset-(off+j.size) by omega];exact hs2
  ·cases h
where
 lay_le {tot:Nat} : ∀(l:List Field) (off:Nat),layB T tot off l=true→off≤tot
  | [],off,h=>by simp only[layB,beq_iff_eq]at h;omega
  | f::r,off,h=>by
   simp only[layB]at h;split at h
   ·simp only[Bool.and_eq_true]at h;have:=lay_le r _ h.2;omega
   ·cases h
theorem opn(hT:TOk P T)(hc:∀t i,T t=some i→P.cellsOf t=i.size):∀(n fuel:Nat) (t:TypeId) (cs:List Value) (x:DataW Hd×List MemPlace),ShOk T n t=true→DataW.trod enc P w 0 (fun _=>true) held fuel t cs=some x→∃vs,CR w vs cs∧Sh T n t vs
 | 0,_,_,_,_,h,_=>by simp[ShOk]at h
 | n+1,fuel,t,cs,x,h,ht=>by
  simp only[ShOk]at h;split at h
  ·cases h
  ·rename_i i hi;have hu:=hT.und t i hi;have hcell:=hc t i hi;split at h
   ·rename_i hd;rw[hd]at hu
    cases fuel with
    | zero=>simp[DataW.trod]at ht
    | succ m =>
     unfold DataW.trod at ht;rw[hu]at ht;split at ht<;>simp_all;exact⟨_,CR.single (.bool _) rfl,by simp[Sh,hi,hd]⟩
   ·rename_i k hd;rw[hd]at hu
    cases fuel with
    | zero=>simp[DataW.trod]at ht
    | succ m =>
     unfold DataW.trod at ht;rw[hu]at ht;split at ht<;>simp_all;exact⟨_,CR.single (.int _ _) rfl,by simp[Sh, *]⟩
   ·rename_i hd;rw[hd]at hu
    cases fuel with
    | zero=>simp[DataW.trod]at ht
    | succ m =>
     unfold DataW.trod at ht;rw[hu]at ht;split at ht<;>simp_all;exact⟨_,CR.single (.str _) rfl,by simp[Sh, *]⟩
   ·rename_i e hd;rw[hd]at hu;split at h
    ·rename_i j hj;simp only[Bool.and_eq_true,decide_eq_true_eq,Bool.or_eq_true,beq_iff_eq]at h;obtain⟨⟨hz,hag⟩,hok⟩:=h
     rcases open_slice hu ht with⟨rfl,_⟩ | ⟨a,len,cap,m,q,D,Pl,rfl,_,hle,hcap,hm,_,hel⟩
     ·exact⟨[.lst j.size false []],CR.single (dY _ false _ _ (by simp)) rfl,by simp only[Sh,hi,hd,hj];exact⟨[],rfl,by simp,by simp⟩⟩
     ·simp only[if_true]at hm;subst hm;rw[hc e j hj]at hel
      have hex:∀i,i<len→∃ws:List V,Sh T n e ws∧ws.length=j.size∧(∀v∈ws,v.one=true)∧∀(l:Nat) v,ws[l]?=some v→∃c,w.cell? (a.add (i*j.size+l))=some c∧Rel (base (fun _=>False) w) v c:=fun i hil=>by
       obtain⟨cs',h1,h2⟩:=hel i (by omega);obtain⟨ws,hcr,hsh⟩:=opn hT hc n q e cs' _ hok h2;obtain⟨_,hcl,hat⟩:=World.cells?_some h1;refine⟨ws,hsh,by rw[hcr.len,hcl],hcr.one,fun l v hv=>?_⟩
       have hl:l<j.size:=by have:=aE hv;rw[hcr.len,hcl]at this;exact this
       have hcv:cs'[l]?=some (cs'[l]'(by omega)):=List.getElem?_eq_getElem (by omega);have:=hat l hl;rw[hcv,add_add]at this;exact⟨_,this,hcr.rel l v _ hv hcv⟩
      obtain⟨W,hW⟩:=choose_lt hex
      obtain⟨xs,hxs⟩:∃xs:List V,xs=(List.range len).map fun i=>(if db j.desc then V.agg (W i) else(W i).headD .undef):=⟨_,rfl⟩
      have hxl:xs.length=len:=by simp[hxs]
      have hxat:∀(i:Nat) y,xs[i]?=some y→i<len∧y=(if db j.desc then V.agg (W i) else(W i).headD .undef)∧y.cells=W i:=fun i y hy=>by
       have hil:i<len:=by have:=aE hy;omega
       rw[hxs,List.getElem?_map,List.getElem?_range hil]at hy;simp only[Option.map_some,Option.some.injEq]at hy;obtain⟨_,hwl,hw1,_⟩:=hW i hil;refine⟨hil,hy.symm,?_⟩;rw[←hy];split
       ·rfl
       ·rename_i hna
        have hz1:j.size=1:=by rcases hag with h | h;exact absurd h hna;exact h
        obtain⟨v,hv⟩:=List.length_eq_one_iff.1 (hwl.trans hz1);rw[hv];exact one_cells (hw1 v (by rw[hv];simp))
      have hsh:∀y∈xs,∃ws,Sh T n e ws∧ws.length=j.size∧y=(if db j.desc then V.agg ws else ws.headD .undef):=fun y hy=>by
       obtain⟨i,hi'⟩:=List.mem_iff_getElem?.1 hy;obtain⟨hil,hye,_⟩:=hxat i y hi';exact⟨W i,(hW i hil).1,(hW i hil).2.1,hye⟩
      refine⟨[.lst j.size false xs],CR.single ?_ rfl,by simp only[Sh,hi,hd,hj];exact⟨xs,rfl,by omega,hsh⟩⟩
      ·have hspot:0<len→a.spot=none∧a.block<w.heap.size:=fun h0=>by
        obtain⟨_,hwl,_,hcv⟩:=hW 0 h0;obtain⟨c,hcc,_⟩:=hcv 0 (W 0)[0] (List.getElem?_eq_getElem (by omega));simp only[Nat.zero_mul,Nat.add_zero]at hcc;have hb:=World.block_lt_of_cell? w _ hcc;have hs:=spot_cell hcc;simpa[Addr.add] using And.intro hs hb
       have:=Rel.lst (s:=base (fun _=>False) w) j.size false xs (some a) m a.block a.off (fun i l=>(w.cell? ⟨a.block,a.off+i*j.size+l,none⟩).getD undef) (by omega) (by simp) (fun h0=>by
         obtain⟨h1,h2⟩:=hspot (by omega)
         exact⟨by cases a;simp_all,h2,fun h=>h,fun k hk=>by have:=hk.1;simp[base]at this⟩)
        (fun y hy=>by
         obtain⟨i,hi'⟩:=List.mem_iff_getElem?.1 hy;obtain⟨hil,_,hyc⟩:=hxat i y hi';rw[hyc]
         exact⟨(hW i hil).2.1,(hW i hil).2.2.1⟩)
        (fun i y l c hy hcc=>by
         obtain⟨hil,_,hyc⟩:=hxat i y hy;rw[hyc]at hcc;obtain⟨u,hu1,_⟩:=(hW i hil).2.2.2 l c hcc;rw[addr_at (hspot (by omega)).1,←Nat.add_assoc]at hu1;show w.cell? _=_
         rw[hu1];rfl)
        (fun i y l c hy hcc=>by
         obtain⟨hil,_,hyc⟩:=hxat i y hy;rw[hyc]at hcc;obtain⟨u,hu1,hu2⟩:=(hW i hil).2.2.2 l c hcc;rw[addr_at (hspot (by omega)).1,←Nat.add_assoc]at hu1;rw[hu1]
         exact hu2)
       rwa [hxl]at this
    ·cases h
   ·rename_i fs hd;rw[hd]at hu;simp only[Bool.and_eq_true,List.all_eq_true]at h;obtain⟨xs,q,_,_,hlen,hxl,hf⟩:=DataW.trod_struct hu ht;rw[hcell]at hlen
    obtain⟨vs,hcr,hvs⟩:=pW (T:=T) (w:=w) (n:=n) hlen fs.toList 0 h.1 (Nat.zero_le _) (fun f hfm j hj=>by
     obtain⟨k,hk⟩:=List.mem_iff_getElem?.1 hfm
     have hk':fs[k]?=some f:=by simpa using hk
     have h1:=hf k f hk'
     have hkl:k<xs.length:=by rw[hxl];exact(Array.getElem?_eq_some_iff.1 hk').1
     rw[List.getElem?_eq_getElem hkl,hc f.type j hj]at h1
     exact opn hT hc n q f.type _ _ (h.2 f hfm) h1)
    rw[List.drop_zero]at hcr;refine⟨vs,hcr,?_⟩;simp only[Sh,hi,hd];refine⟨by rw[hcr.len,hlen],fun f hfm=>?_⟩;obtain⟨j,hj,_,hs⟩:=hvs f hfm;exact⟨j,hj,by simpa using hs⟩
   ·cases h
end
end Go.AM
namespace Go.AM
open Go
inductive Le:V→V→Prop
 | refl (v:V):Le v v
 | nil (z:Nat) (f:Bool):Le .nilS (.lst z f [])
 | agg (cs ds:List V) (hl:cs.length=ds.length) (h:∀(i:Nat) c d,cs[i]?=some c→ds[i]?=some d→Le c d):Le (.agg cs) (.agg ds)
 | tup (cs ds:List V) (hl:cs.length=ds.length) (h:∀(i:Nat) c d,cs[i]?=some c→ds[i]?=some d→Le c d):Le (.tup cs) (.tup ds)
theorem Le.one{a b:V}(h:Le a b)(h1:a.one=true):b.one=true:=by
 cases h with
 | refl=>exact h1
 | nil=>rfl
 | agg=>simp[V.one]at h1
 | tup=>simp[V.one]at h1
theorem Le.rel{s:St}{a b:V}(h:Le a b):∀{u:Value},Rel s a u→Rel s b u:=by
 induction h with
 | refl v=>exact fun h=>h
 | nil z f=>intro u h;cases h;exact dY z f none 0 (fun _=>rfl)
 | agg cs ds hl hh ih =>
  intro u h
  cases h with
  | agg _ us h1 h2 h3 =>
   refine .agg ds us (by omega) (fun d hd=>?_) (fun i d u hd hu=>?_)
   ·obtain⟨i,hi⟩:=List.mem_iff_getElem?.1 hd;have hc:cs[i]?=some (cs[i]'(by have:=aE hi;omega)):=List.getElem?_eq_getElem _;exact(hh i _ d hc hi).one (h2 _ (List.mem_of_getElem? hc))
   ·have hc:cs[i]?=some (cs[i]'(by have:=aE hd;omega)):=List.getElem?_eq_getElem _;exact ih i _ d hc hd (h3 i _ u hc hu)
 | tup cs ds hl hh ih =>
  intro u h
  cases h with
  | tup _ us h1 h3 =>
   refine .tup ds us (by omega) (fun i d u hd hu=>?_);have hc:cs[i]?=some (cs[i]'(by have:=aE hd;omega)):=List.getElem?_eq_getElem _;exact ih i _ d hc hd (h3 i _ u hc hu)
section
variable {P:Program} {T:Ty}
theorem nQ{f:FuncId}{args args':List V}{K:V→Prop}(h:aR P f args' K)(hl:args.length=args'.length)(hle:∀(i:Nat) a b,args[i]?=some a→args'[i]?=some b→Le a b):aR P f args K:=by
 refine⟨h.1,fun F w vals hZ hF hsz hrel=>h.2 F w vals hZ hF (by omega) (fun i b u hb hu=>?_)⟩;have ha:args[i]?=some (args[i]'(by have:=aE hb;omega)):=List.getElem?_eq_getElem _;exact(hle i _ b ha hb).rel (hrel i _ u ha hu)
theorem callX{f:FuncId}{args args':List V}{H:List B}{v:V}(h:aR P f args' fun r=>r=v)(hl:args.length=args'.length)(he:∀(i:Nat) a a',args[i]?=some a→args'[i]?=some a'→Exp H a a')(hs:Scalar v):
  aT P (.fn f []) args H fun r H'=>r=v∧H'=H:=by
 simp only[aT,List.append_nil]
 exact(fT h hl he (.inr fun r hr=>by subst hr;exact hs)).mono fun r H' ⟨h1,_,h3⟩=>⟨h3,h1⟩
end
end Go.AM
namespace Go.AM
open Go
theorem gJ{f:Nat→V→Option V} : ∀{xs:List V},(∀x∈xs,∃d0,∀d,d0≤d→f d x=some x)→∃d0,∀d,d0≤d→exL (f d) xs=some xs
 | [],_=>⟨0,fun _ _=>rfl⟩
 | x::xs,h=>by
  obtain⟨d1,h1⟩:=h x (by simp);obtain⟨d2,h2⟩:=gJ (xs:=xs) (fun y hy=>h y (by simp[hy]));exact⟨max d1 d2,fun d hd=>by simp only[exL,h1 d (by omega),h2 d (by omega)]⟩
theorem mJ{H:List B}{n:Nat}{v:V}(h:Pure v):∃d0,∀d,d0≤d→exV H n d v=some v:=by
 induction h with
 | bool b=>exact⟨1,fun d hd=>by obtain⟨k,rfl⟩:∃k,d=k+1:=⟨d-1,by omega⟩;rfl⟩
 | int k m=>exact⟨1,fun d hd=>by obtain⟨k,rfl⟩:∃k,d=k+1:=⟨d-1,by omega⟩;rfl⟩
 | str x=>exact⟨1,fun d hd=>by obtain⟨k,rfl⟩:∃k,d=k+1:=⟨d-1,by omega⟩;rfl⟩
 | nilS=>exact⟨1,fun d hd=>by obtain⟨k,rfl⟩:∃k,d=k+1:=⟨d-1,by omega⟩;rfl⟩
 | nilP=>exact⟨1,fun d hd=>by obtain⟨k,rfl⟩:∃k,d=k+1:=⟨d-1,by omega⟩;rfl⟩
 | nilM=>exact⟨1,fun d hd=>by obtain⟨k,rfl⟩:∃k,d=k+1:=⟨d-1,by omega⟩;rfl⟩
 | nilFn=>exact⟨1,fun d hd=>by obtain⟨k,rfl⟩:∃k,d=k+1:=⟨d-1,by omega⟩;rfl⟩
 | fn f=>exact⟨1,fun d hd=>by obtain⟨k,rfl⟩:∃k,d=k+1:=⟨d-1,by omega⟩;rfl⟩
 | lst z f xs hx ih =>
  obtain⟨d0,h0⟩:=gJ (f:=exV H n) ih;exact⟨d0+1,fun d hd=>by obtain⟨k,rfl⟩:∃k,d=k+1:=⟨d-1,by omega⟩;simp only[exV,h0 k (by omega)]⟩
 | pin cs o hx ih =>
  obtain⟨d0,h0⟩:=gJ (f:=exV H n) ih;exact⟨d0+1,fun d hd=>by obtain⟨k,rfl⟩:∃k,d=k+1:=⟨d-1,by omega⟩;simp only[exV,h0 k (by omega)]⟩
 | agg cs hx ih =>
  obtain⟨d0,h0⟩:=gJ (f:=exV H n) ih;exact⟨d0+1,fun d hd=>by obtain⟨k,rfl⟩:∃k,d=k+1:=⟨d-1,by omega⟩;simp only[exV,h0 k (by omega)]⟩
 | tup cs hx ih =>
  obtain⟨d0,h0⟩:=gJ (f:=exV H n) ih;exact⟨d0+1,fun d hd=>by obtain⟨k,rfl⟩:∃k,d=k+1:=⟨d-1,by omega⟩;simp only[exV,h0 k (by omega)]⟩
section
variable {P:Program} {T:Ty} {s:St}
end
end Go.AM
namespace Go.AM
open Go
def qd(k:Nat):List V→List V→Prop
 | [],[]=>True
 | x::xs,y::ys=>(y=x∨(x = .nilS∧y = .buf k 0 0 0))∧qd k xs ys
 | _,_=>False
theorem qd.len{k:Nat} : ∀{xs ys:List V},qd k xs ys→xs.length=ys.length
 | [],[],_=>rfl
 | [],_::_,h=>h.elim
 | _::_,[],h=>h.elim
 | _::_,_::_,h=>by simp[h.2.len]
theorem qd.at_{k:Nat} : ∀{xs ys:List V},qd k xs ys→∀(i:Nat) x y,xs[i]?=some x→ys[i]?=some y→y=x∨(x = .nilS∧y = .buf k 0 0 0)
 | [],_,_,i,x,y,h,_=>by simp at h
 | _::_,[],h,_,_,_,_,_=>h.elim
 | a::xs,b::ys,h,0,x,y,h1,h2=>by simp at h1 h2;subst h1;subst h2;exact h.1
 | a::xs,b::ys,h,i+1,x,y,h1,h2=>h.2.at_ i x y (by simpa using h1) (by simpa using h2)
def fB(k:Nat)(sl:List Nat):Nat→List V→List V
 | _,[]=>[]
 | i,v::r=>(if sl.contains i then .buf k 0 0 0 else v)::fB k sl (i+1) r
section
variable {P:Program} {T:Ty}
theorem rel_own{s:St}{w:World}{g e z:Nat}(hst:Step s (s.push w g 0 (.buf e z [] false))){x y:V}{u:Value}(h:Rel s x u)(ho:y=x∨(x = .nilS∧y = .buf s.H.length 0 0 0)):Rel (s.push w g 0 (.buf e z [] false)) y u:=by
 rcases ho with rfl | ⟨rfl,rfl⟩
 ·exact h.step hst
 ·cases h;refine .buf s.H.length 0 0 0 e z [] false _ _ _ (by simp[St.push]) (Nat.le_refl _) (fun _=>?_);simp only[St.push,aZ];exact⟨fun h=>absurd rfl h,by simp,by simp,by simp⟩
theorem eY(e z:Nat)(sl:List Nat){c:Code}{Q:Exit→List V→List B→Prop}{fr:List V}{H:List B}(ho:qd H.length fr (fB H.length sl 0 fr))(h:W P c Q (fB H.length sl 0 fr) (H++[.buf e z [] false])):W P c Q fr H:=by
 intro s a hA hg hf hd;obtain⟨rfl,hZ⟩:=hA;obtain⟨p1,p2⟩:=nc hg 0 e z false rfl rfl rfl (Nat.le_refl _) (fun _ _=>rfl);have hl:=ho.len
 have:=h (s.push s.w 0 0 (.buf e z [] false)) a ⟨rfl,hZ.step p2⟩ p1 ⟨by rw[hf.len,hl],fun i v u hv hu=>by
  have hx:fr[i]?=some (fr[i]'(by have:=aE hv;omega)):=List.getElem?_eq_getElem _
  exact rel_own p2 (hf.rel i _ u hx hu) (ho.at_ i _ v hx hv)⟩ hd
 exact wp_mono this fun _ _ _ hl=>cX p2 hl
theorem co(e z:Nat)(sl:List Nat)(k0:Nat)(sc:List Nat){c:Code}{Q:Exit→List V→List B→Prop}{fr:List V}{H:List B}{cs:List V}(hk:H[k0]?=some (.cells cs))(ho:qd H.length fr (fB H.length sl 0 fr))(hc:qd H.length cs (fB H.length sc 0 cs))
  (h:W P c Q (fB H.length sl 0 fr) (H.set k0 (.cells (fB H.length sc 0 cs))++[.buf e z [] false])):W P c Q fr H:=by
 intro s a hA hg hf hd;obtain⟨rfl,hZ⟩:=hA;obtain⟨p1,p2⟩:=nc hg 0 e z false rfl rfl rfl (Nat.le_refl _) (fun _ _=>rfl);have hl:=ho.len;have hlc:=hc.len;generalize hs1:s.push s.w 0 0 (.buf e z [] false)=s1 at p1 p2
 have hk1:s1.H[k0]?=some (.cells cs):=by rw[←hs1];simp only[St.push];rw[List.getElem?_append_left (aE hk)];exact hk
 have hr1:∀x y u,Rel s x u→(y=x∨(x = .nilS∧y = .buf s.H.length 0 0 0))→Rel s1 y u:=fun x y u h1 h2=>by subst hs1;exact rel_own p2 h1 h2
 have hw1:s1.w=s.w:=by rw[←hs1];rfl
 have hst:=bw (w:=s1.w) (bl':=.cells (fB s.H.length sc 0 cs)) p1 hk1 (lvC hk1) trivial rfl rfl rfl (Nat.le_refl _) (fun _ _ _=>rfl)
 have hgd:Good (s1.setB s1.w k0 (.cells (fB s.H.length sc 0 cs))):=by
  refine cJ p1 hk1 (lvC hk1) trivial rfl rfl rfl (Nat.le_refl _) (fun _ _ _=>rfl) (fun hst=>?_);obtain⟨h1,vs,t,h2,h3,h4⟩:=hg.blk k0 _ hk;obtain⟨_,vs1,t1,h21,h31,h41⟩:=p1.blk k0 _ hk1
  have hφ:s1.φ k0=s.φ k0:=by rw[←hs1];exact cD _ _ (by have:=aE hk;omega)
  refine⟨fun d hd=>?_,vs,t,by show s1.w.heap[s1.φ k0]?=_;rw[hw1,hφ];exact h2,by omega,fun i d u hd hu=>?_⟩
  ·obtain⟨i,hi⟩:=List.mem_iff_getElem?.1 hd;have hx:cs[i]?=some (cs[i]'(by have:=aE hi;omega)):=List.getElem?_eq_getElem _
   rcases hc.at_ i _ d hx hi with h9 | ⟨_,h9⟩
   ·rw[h9];exact h1 _ (List.getElem_mem _)
   ·rw[h9];rfl
  ·have hx:cs[i]?=some (cs[i]'(by have:=aE hd;omega)):=List.getElem?_eq_getElem _;exact(hr1 _ d u (h4 i _ u hx hu) (hc.at_ i _ d hx hd)).step hst
 have hH:(s1.setB s1.w k0 (.cells (fB s.H.length sc 0 cs))).H=s.H.set k0 (.cells (fB s.H.length sc 0 cs))++[.buf e z [] false]:=by
  rw[←hs1];simp only[St.setB,St.push];rw[List.set_append,if_pos (aE hk)]
 have:=h (s1.setB s1.w k0 (.cells (fB s.H.length sc 0 cs))) a ⟨hH,(hZ.step p2).step hst⟩ hgd ⟨by rw[hf.len,hl],fun i v u hv hu=>by
  have hx:fr[i]?=some (fr[i]'(by have:=aE hv;omega)):=List.getElem?_eq_getElem _
  exact(hr1 _ v u (hf.rel i _ u hx hu) (ho.at_ i _ v hx hv)).step hst⟩ hd
 have e1:(s1.setB s1.w k0 (.cells (fB s.H.length sc 0 cs))).w=s.w:=hw1;rw[e1]at this
 exact wp_mono this fun _ _ _ hl=>cX (p2.trans hst) hl
def gA:List Bool→List V→List V
 | b::bs,v::r=>(match b with
  | true=>.undef
  | false=>v)::gA bs r
 | _,fr=>fr
@[simp] theorem maskB_t (bs:List Bool) (v:V) (r:List V):gA (true::bs) (v::r)= .undef::gA bs r:=rfl
@[simp] theorem maskB_f (bs:List Bool) (v:V) (r:List V):gA (false::bs) (v::r)=v::gA bs r:=rfl
@[simp] theorem maskB_n (fr:List V):gA [] fr=fr:=by cases fr<;>rfl
theorem W_loopV{σ:Type}(ms:List Bool)(ok:σ→Prop)(μ:σ→Nat)(g:σ→List (Nat×V))(Hf:σ→List B){c:Code}{Q:Exit→List V→List B→Prop}{fr:List V}{H:List B}(x0:σ)(h0:ok x0)(hF:nX (ovr (gA ms fr) (g x0)) fr)(hH:H=Hf x0)
  (hmin:∀x,ok x→H.length≤(Hf x).length)
  (hround:∀x,ok x→∀(N:List V→List B→Prop) (Q':Exit→List V→List B→Prop),(∀y fr' H',ok y→μ y<μ x→nX (ovr (gA ms fr) (g y)) fr'→(∃G,H'=Hf y++G)→(∀v∈ovr (gA ms fr) (g y),rb (Hf y).length v)→(∀bl∈Hf y,rbB (Hf y).length bl)→N fr' H')→
   (∀e fr' H',Q e fr' H'→Q' e fr' H')→W P c (lJ N Q') (ovr (gA ms fr) (g x)) (Hf x)):W P (.loop c) Q fr H :=
 W_loopS ok μ (fun x=>ovr (gA ms fr) (g x)) Hf x0 h0 hF hH hmin (fun x hx=>hround x hx _ _ (fun y fr' H' a b c d e f=>⟨y,a,b,c,d,e,f⟩) (fun _ _ _ h=>h))
end
attribute [simp] qd fB
theorem pR{n:Nat}{v:V}(h:Pure v)(ho:v.one=true):rb1 n v:=by
 cases h<;>first | trivial | assumption | (simp[V.one]at ho;done) | rfl
theorem cI{n:Nat}{v:V}(h:Pure v)(ho:v.one=true):rb n v:=by
 have:=pR (n:=n) h ho
 cases h<;>first | trivial | assumption | (simp[V.one]at ho;done) | (intro c hc;cases hc;done)
theorem rbB_buf{n e z:Nat}{xs:List V}{fz:Bool}(h:∀x∈xs,Pure x)(ho:∀x∈xs,∀c∈x.cells,c.one=true):rbB n (.buf e z xs fz)↔True:=by
 refine⟨fun _=>trivial,fun _ x hx c hc=>cI ((h x hx).cells c hc) (ho x hx c hc)⟩
def dm:V→Bool
 | .undef | .tup _=>false
 | .agg cs=>cs.all V.one
 | _=>true
theorem oneV_cells{x:V}(h:dm x=true):∀c∈x.cells,c.one=true:=by
 cases x<;>simp_all [dm,V.cells,V.one]
@[simp ↓ high] theorem rbB_buf1 {n e z:Nat} {xs:List V} {fz:Bool} (h:∀x∈xs,Pure x∧dm x=true):rbB n (.buf e z xs fz)↔True:=rbB_buf (fun x hx=>(h x hx).1) (fun x hx=>oneV_cells (h x hx).2)
attribute [simp] dm
end Go.AM
namespace Go.AM
open Go
def dz:Go.Op→Bool
 | .move _ | .assign _ | .pick .. | .unOp .. | .convert .. | .extract .. | .field .. | .fieldAddr .. | .index .. | .makeFunc .. | .build .. | .nilCheck _=>true
 | .binOp op _ _ _ _=>match op with
  | .eql | .neq=>false
  | _=>true
 | _=>false
section
variable {P:Program} {T:Ty}
theorem jx{o:Go.Op}{ρ:Operand→V}{H H':List B}{v:V}(hs:dz o=true)(h:aop T o ρ H=some (v,H'))(G:List B):aop T o ρ G=some (v,G):=by
 have mp:∀{x:Option V} {H H':List B},x.map (·,H)=some (v,H')→x.map (·,G)=some (v,G):=fun {x H H'} h=>by
  cases x with
  | none=>cases h
  | some y=>simp at h;simp[h.1]
 cases o<;>simp only[dz,Bool.false_eq_true]at hs<;>simp only[aop]at h ⊢
 all_goals first
  | (exact mp h)
  | (cases h;rfl)
  | skip
 ·split at h<;>cases h;rfl
 ·split at h<;>first | (cases h;rfl) | (cases h;done)
 ·rename_i op t x y ty;refine mp ?_ (H:=H) (H':=H');rw[←h];congr 1;unfold binTA;cases binA op (ρ x) (ρ y)<;>simp only
  cases op<;>first | rfl | (simp at hs;done)
 ·split at h
  ·rename_i hh;rw[if_pos hh];exact mp h
  ·cases h
 ·split at h
  ·split at h
   ·rename_i hh;rw[if_pos hh];cases h;rfl
   ·cases h
  ·cases h
 ·cases hx:ρ _<;>rw[hx]at h<;>simp only at h ⊢<;>first | (cases h;done) | exact mp h
end
def iH:List (Nat×List Nat)→Nat→List Nat
 | [],_=>[]
 | (j,cs)::r,i=>if j=i then cs else iH r i
def cZ:List Nat→Nat→Nat
 | [],_=>0
 | e::r,i=>if e<i then cZ r i+1 else 0
def statT(ops:Array Oper)(E:List Nat)(tab:List (Nat×List Nat)):Bool :=
 stat1 ops&&nZ ops E&&(List.range ops.size).all fun i=>E.contains i||(match ops[i]? with
  | some o=>bm o.op&&(dz o.op||(List.range (E.length+1)).all fun c=>!im (aO [] ops.toList) E i c||c == cZ E i||(iH tab i).contains c)
  | none=>true)
def oblT(T:Ty)(ops:Array Oper)(C:V→List V→List B→(V→List B→Prop)→Prop)(E:List Nat)(tab:List (Nat×List Nat))(Hs:Nat→List B):List Oper→Nat→Nat→List V→List V→Prop
 | [],_,_,_,_=>True
 | _::_,_,_,_,[]=>False
 | o::rest,i,c,fr,v::vs =>
  (match bR ops fr o with
   | some true=>match bE o.op with
    | some (f,args)=>if E.contains i then C (aU fr f) (args.map (aU fr)) (Hs c) (fun r H'=>r=v∧H'=Hs (c+1))
     else fK (fun c'=>C (aU fr f) (args.map (aU fr)) (Hs c') (fun r H'=>r=v∧H'=Hs c')) (c::iH tab i)
    | none=>if E.contains i||dz o.op then True else fK (fun c'=>aop T o.op (aU fr) (Hs c')=some (v,Hs c')) (iH tab i)
   | _=>True)∧oblT T ops C E tab Hs rest (i+1) (if E.contains i then c+1 else c) (bJ fr o.dst v) vs
def DrawT(T:Ty)(ops:Array Oper)(E:List Nat)(tab:List (Nat×List Nat))(cv:List (V×List B))(C:V→List V→List B→(V→List B→Prop)→Prop)(K:List V→List B→Prop)(fr:List V)(H:List B):Prop :=
 match runT T ops E ops.toList 0 fr H cv with
 | none=>False
 | some (vs,hs,f)=>hs.length=E.length∧oblT T ops C E tab (fun c=>(H::hs)[c]?.getD []) ops.toList 0 0 fr vs∧K f ((H::hs)[E.length]?.getD [])
theorem mV:∀{E:List Nat},mi E=true→∀{i:Nat},E.contains i=true→E.idxOf i=cZ E i
 | [],_,i,h=>by simp at h
 | [x],_,i,h=>by
  have:i=x:=by simpa using h
  subst this;simp[cZ]
 | x::y::r,ha,i,h=>by
  have ha':=ha;simp only[mi,Bool.and_eq_true,decide_eq_true_eq]at ha;by_cases hx:i=x
  ·subst hx;simp[cZ]
  ·have h':(y::r).contains i=true:=by
    simp only[List.contains_cons,Bool.or_eq_true,beq_iff_eq,hx,false_or]at h ⊢;exact h
   have hlt:x<i:=by
    obtain⟨k,hk⟩:=List.mem_iff_getElem?.1 (List.contains_iff_mem.1 h');exact fW ha' 0 (k+1) x i (by omega) rfl (by simpa using hk)
   have hb:(x == i)=false:=by simpa using Ne.symm hx
   rw[List.idxOf_cons,hb,cond_false,mV ha.2 h'];simp only[cZ,hlt,if_true]
theorem cQ:∀{E:List Nat},mi E=true→∀(i:Nat),cZ E (i+1)=if E.contains i then cZ E i+1 else cZ E i
 | [],_,i=>by simp[cZ]
 | [x],_,i=>by
  by_cases h:x=i
  ·subst h;simp[cZ]
  ·have h2:¬i=x:=fun e=>h e.symm
   by_cases h3:x<i
   ·simp[cZ,h2,h3,show x<i+1 by omega]
   ·simp[cZ,h2,h3,show ¬x<i+1 by omega]
 | x::y::r,ha,i=>by
  have ha':=ha;simp only[mi,Bool.and_eq_true,decide_eq_true_eq]at ha;have ih:=cQ ha.2 i;by_cases h:x=i
  ·subst h
   have hy:¬y<x+1:=by omega
   have hy2:¬y<x:=by omega
   simp[cZ,hy]
  ·have h2:¬i=x:=fun e=>h e.symm
   have c1:∀j,cZ (x::y::r) j=if x<j then cZ (y::r) j+1 else 0:=fun _=>rfl
   rw[c1,c1];by_cases h3:x<i
   ·rw[if_pos (by omega),if_pos h3,ih];simp only[List.contains_cons,show(i == x)=false by simpa using h2,Bool.false_or];split<;>rfl
   ·rw[if_neg (by omega),if_neg h3]
    have hn:(x::y::r).contains i=false:=by
     rw[Bool.eq_false_iff];intro hc;obtain⟨k,hk⟩:=List.mem_iff_getElem?.1 (List.contains_iff_mem.1 hc)
     cases k with
     | zero=>simp at hk;omega
     | succ k=>have:=fW ha' 0 (k+1) x i (by omega) rfl hk;omega
    rw[hn];rfl
section
variable {P:Program} {T:Ty}
theorem kF{ops:Array Oper}{C:V→List V→List B→(V→List B→Prop)→Prop}{E:List Nat}{tab:List (Nat×List Nat)}{Hs:Nat→List B}(hasc:mi E=true)
  (hst:∀i o,ops[i]?=some o→E.contains i=false→bm o.op=true∧(dz o.op=true∨∀c,c<E.length+1→im (aO [] ops.toList) E i c=true→c=cZ E i∨c∈iH tab i)):
  ∀(l:List Oper) (i:Nat) (fr:List V) (H:List B) (cv:List (V×List B)) (vs:List V) (hs:List (List B)) (f:List V),l=ops.toList.drop i→runT T ops E l i fr H cv=some (vs,hs,f)→(∀k,k≤hs.length→Hs (cZ E i+k)=((H::hs)[k]?).getD [])→
   oblT T ops C E tab Hs l i (cZ E i) fr vs→bu T ops C (aO [] ops.toList) E Hs l i fr vs
 | [],i,fr,H,cv,vs,hs,f,hl,hr,hH,h=>trivial
 | o::rest,i,fr,H,cv,vs,hs,f,hl,hr,hH,h=>by
  have ho:ops[i]?=some o:=by
   have:=congrArg (fun l=>l[0]?) hl;simp at this;exact this.symm
  have hrest:rest=ops.toList.drop (i+1):=by
   have:=congrArg List.tail hl;simpa using this
  have hHi:Hs (cZ E i)=H:=by have:=hH 0 (Nat.zero_le _);simpa using this
  simp only[runT]at hr
  cases hw:bR ops fr o with
  | none=>rw[hw]at hr;cases hr
  | some b =>
  rw[hw]at hr
  cases b with
  | false =>
   simp only at hr;split at hr
   ·cases hr
   rename_i hE
   have hE:E.contains i=false:=by simpa using hE
   split at hr
   ·rename_i vs' hs' f' hr';cases hr;simp only[oblT,hw,hE,Bool.false_eq_true,if_false]at h;simp only[bu,hw];refine⟨⟨by first | trivial | rfl,hE⟩,kF hasc hst rest (i+1) _ H cv vs' _ _ hrest hr' (fun k hk=>?_) ?_⟩
    ·rw[cQ hasc,hE];simpa using hH k hk
    ·rw[cQ hasc,hE];simpa using h.2
   ·cases hr
  | true =>
   simp only at hr
   have fin:∀(v:V) (H':List B) (cv':List (V×List B)),(if E.contains i then(match runT T ops E rest (i+1) (bJ fr o.dst v) H' cv' with
      | some (vs,hs,f)=>some (v::vs,H'::hs,f)
      | none=>none)
     else(match runT T ops E rest (i+1) (bJ fr o.dst v) H cv' with
      | some (vs,hs,f)=>some (v::vs,hs,f)
      | none=>none))=some (vs,hs,f)→
     ∃vs',vs=v::vs'∧(E.contains i=true→Hs (cZ E i+1)=H')∧(oblT T ops C E tab Hs rest (i+1) (if E.contains i then cZ E i+1 else cZ E i) (bJ fr o.dst v) vs'→bu T ops C (aO [] ops.toList) E Hs rest (i+1) (bJ fr o.dst v) vs'):=fun v H' cv' hq=>by
    cases hE:E.contains i with
    | true =>
     rw[hE]at hq;simp only[if_true]at hq;split at hq
     ·rename_i vs' hs' f' hr';cases hq;refine⟨vs',rfl,fun _=>?_,fun hh=>?_⟩
      ·have:=hH 1 (by simp);simpa using this
      ·refine kF hasc hst rest (i+1) _ H' cv' vs' hs' _ hrest hr' (fun k hk=>?_) ?_
       ·rw[cQ hasc,hE];have:=hH (k+1) (by simp;omega);simp only[if_true,List.getElem?_cons_succ]at this ⊢;rw[show cZ E i+1+k=cZ E i+(k+1) by omega];exact this
       ·rw[cQ hasc,hE];simpa using hh
     ·cases hq
    | false =>
     rw[hE]at hq;simp only[Bool.false_eq_true,if_false]at hq;split at hq
     ·rename_i vs' hs' f' hr';cases hq;refine⟨vs',rfl,(fun h=>by cases h),fun hh=>?_⟩;refine kF hasc hst rest (i+1) _ H cv' vs' hs _ hrest hr' (fun k hk=>?_) ?_
      ·rw[cQ hasc,hE];simpa using hH k hk
      ·rw[cQ hasc,hE];simpa using hh
     ·cases hq
   cases hc:bE o.op with
   | some p =>
    obtain⟨g,args⟩:=p;rw[hc]at hr;simp only at hr;split at hr
    ·rename_i v H' cv';obtain⟨vs',rfl,hEH,hrec⟩:=fin v H' cv' hr;simp only[oblT,hw,hc]at h;simp only[bu,hw,hc];refine⟨?_,hrec h.2⟩
     cases hE:E.contains i with
     | true =>
      rw[hE]at h;simp only[if_true]at h ⊢;rw[mV hasc hE];exact h.1
     | false =>
      rw[hE]at h;simp only[Bool.false_eq_true,if_false]at h ⊢;obtain⟨s1,s2⟩:=hst i o ho hE
      have hns:dz o.op=false:=by
       cases hop:o.op<;>rw[hop]at hc<;>simp only[bE]at hc<;>first | (cases hc;done) | rfl
      rw[hns]at s2;have s2:=s2.resolve_left (by simp);refine allC_of (fun c hcm=>?_);split
      ·rename_i hp
       rcases s2 c (by simpa using hcm) hp with rfl | hm
       ·exact dM h.1 _ (by simp)
       ·exact dM h.1 _ (by simp[hm])
      ·trivial
    ·cases hr
   | none =>
    rw[hc]at hr;simp only at hr
    cases hop:aop T o.op (aU fr) H with
    | none=>rw[hop]at hr;cases hr
    | some q =>
     obtain⟨v,H'⟩:=q;rw[hop]at hr;simp only at hr;obtain⟨vs',rfl,hEH,hrec⟩:=fin v H' cv hr;simp only[oblT,hw,hc]at h;simp only[bu,hw,hc];refine⟨?_,hrec h.2⟩
     cases hE:E.contains i with
     | true =>
      simp only[if_true];rw[mV hasc hE,hHi,hEH hE];exact hop
     | false =>
      rw[hE]at h;simp only[Bool.false_eq_true,if_false,Bool.false_or]at h ⊢;obtain⟨s1,s2⟩:=hst i o ho hE;have hHH:=ib s1 hop;subst hHH;refine allC_of (fun c hcm=>?_);split
      ·rename_i hp
       cases hsc:dz o.op with
       | true=>exact jx hsc hop _
       | false =>
        rw[hsc]at h s2;simp only[Bool.false_eq_true,if_false]at h
        rcases(s2.resolve_left (by simp)) c (by simpa using hcm) hp with rfl | hm
        ·rw[hHi];exact hop
        ·exact dM h.1 _ hm
      ·trivial
where
 allC_of {p:Nat→Prop} : ∀{l:List Nat},(∀c∈l,p c)→fK p l
  | [],_=>trivial
  | c::l,h=>⟨h c (by simp),allC_of (fun d hd=>h d (by simp[hd]))⟩
theorem am(hT:TOk P T)(hm:P.follows .mixedOrders=true){id:Nat}{ops:Array Oper}{Q:Exit→List V→List B→Prop}{fr:List V}{H:List B}(E:List Nat)(tab:List (Nat×List Nat))(cv:List (V×List B))(hst:statT ops E tab=true)
  (h:∀(C:V→List V→List B→(V→List B→Prop)→Prop) (K:List V→List B→Prop),(∀fv args H K',aT P fv args H K'→C fv args H K')→(∀fr H,Q .normal fr H→K fr H)→DrawT T ops E tab cv C K fr H):W P (.region id ops true) Q fr H:=by
 refine W_draw hT hm E cv fun C K hC hK=>?_
 have h1:=h C K hC hK;unfold DrawT at h1;unfold nY;simp only[statT,Bool.and_eq_true]at hst;obtain⟨⟨st1,st2⟩,st3⟩:=hst;split at h1
 ·exact h1.elim
 ·rename_i vs hs f hr;rw[hr];obtain⟨a1,a2,a3⟩:=h1
  have hasc:mi E=true:=by
   unfold nZ at st2;simp only[Bool.and_eq_true]at st2;exact st2.1.1
  have h00:cZ E 0=0:=by cases E<;>simp[cZ]
  refine⟨⟨oP st1 st2,a1⟩,?_,a3⟩;refine kF hasc (fun i o ho hE=>?_) ops.toList 0 fr H cv vs hs f (by simp) hr (fun k hk=>by rw[h00,Nat.zero_add]) (by rw[h00];exact a2);have hil:i<ops.size:=(Array.getElem?_eq_some_iff.1 ho).1;have:=List.all_eq_true.1 st3 i (by simpa using hil);rw[hE,ho,Bool.false_or]at this;simp only[Bool.and_eq_true,Bool.or_eq_true]at this;refine⟨this.1,this.2.imp (fun h=>h) (fun hall c hc hp=>?_)⟩;have h3:=List.all_eq_true.1 hall c (by simpa using hc);simp only[Bool.or_eq_true,Bool.not_eq_true',beq_iff_eq]at h3
  rcases h3 with(h3 | h3) | h3
  ·rw[hp]at h3;cases h3
  ·exact .inl h3
  ·exact .inr (List.contains_iff_mem.1 h3)
end
attribute [simp] DrawT runT oblT iH fK dz
end Go.AM
namespace Go.AM
open Go
def oJ(p q:V):List V→List V→Prop
 | [],[]=>True
 | x::xs,y::ys=>(y=x∨(x=p∧y=q))∧oJ p q xs ys
 | _,_=>False
theorem oJ.len{p q:V} : ∀{xs ys:List V},oJ p q xs ys→xs.length=ys.length
 | [],[],_=>rfl
 | [],_::_,h=>h.elim
 | _::_,[],h=>h.elim
 | _::_,_::_,h=>by simp[h.2.len]
theorem oJ.at_{p q:V} : ∀{xs ys:List V},oJ p q xs ys→∀(i:Nat) x y,xs[i]?=some x→ys[i]?=some y→y=x∨(x=p∧y=q)
 | [],_,_,i,x,y,h,_=>by simp at h
 | _::_,[],h,_,_,_,_,_=>h.elim
 | a::xs,b::ys,h,0,x,y,h1,h2=>by simp at h1 h2;subst h1;subst h2;exact h.1
 | a::xs,b::ys,h,i+1,x,y,h1,h2=>h.2.at_ i x y (by simpa using h1) (by simpa using h2)
def gZ(q:V)(sl:List Nat):Nat→List V→List V
 | _,[]=>[]
 | i,v::r=>(if sl.contains i then q else v)::gZ q sl (i+1) r
section
variable {P:Program} {T:Ty}
def St.frz(s:St)(k:Nat)(bl:B):St:={ s with H:=s.H.set k bl }
theorem frz_lv{s:St}{k e z:Nat}{xs:List V}{fz:Bool}(hk:s.H[k]?=some (.buf e z xs fz)){i:Nat}(h:Lv (s.frz k (.buf e z xs true)) i):Lv s i:=by
 have hil:i<s.H.length:=by have:=h.1;simpa[St.frz] using this
 refine⟨hil,fun e' z' xs' fz' hb=>?_⟩;by_cases hik:i=k
 ·subst hik;exact h.2 e z xs true (by simp only[St.frz];rw[List.getElem?_set_self hil])
 ·exact h.2 e' z' xs' fz' (by simp only[St.frz];rw[List.getElem?_set_ne (Ne.symm hik)];exact hb)
theorem frz_ok{s:St}(hg:Good s){k e z:Nat}{xs:List V}{fz:Bool}(hk:s.H[k]?=some (.buf e z xs fz)):
  Good (s.frz k (.buf e z xs true))∧Step s (s.frz k (.buf e z xs true))∧∀u,Rel s (.buf k 0 xs.length xs.length) u→Rel (s.frz k (.buf e z xs true)) (.lst z false xs) u:=by
 have hkl:=aE hk
 have hst:Step s (s.frz k (.buf e z xs true)):=⟨rfl,rfl,rfl,rfl,Nat.le_refl _,fun _ _ _=>rfl,by simp[St.frz],fun i h1 h2=>absurd h1 (by have:=h2.1;simp[St.frz]at this;omega),fun i bl hi=>by
  by_cases hik:i=k
  ·subst hik;rw[hk]at hi;cases hi;exact⟨xs,true,by simp[St.frz,hkl],Nat.le_refl _,fun _=>⟨rfl,rfl⟩,fun _=>⟨rfl,rfl,fun _=>rfl⟩,.inl rfl,.inl⟩
  ·have hk':(s.frz k (.buf e z xs true)).H[i]?=some bl:=by simp only[St.frz];rw[List.getElem?_set_ne (Ne.symm hik)];exact hi
   cases bl with
   | cells cs=>exact⟨rfl,cs,hk'⟩
   | map kk es=>exact⟨rfl,es,hk'⟩
   | buf e z xs fz=>exact⟨xs,fz,hk',Nat.le_refl _,fun _=>⟨rfl,rfl⟩,fun hf=>⟨hf,rfl,fun _=>rfl⟩,.inl rfl,.inl⟩⟩
 have hgd:Good (s.frz k (.buf e z xs true)):=by
  refine⟨hg.fl,fun i hi=>hg.lt i (frz_lv hk hi),fun i j hi hj=>hg.inj i j (frz_lv hk hi) (frz_lv hk hj),fun i bl hi=>?_⟩;by_cases hik:i=k
  ·subst hik;simp only[St.frz]at hi;rw[List.getElem?_set_self hkl]at hi;cases hi;obtain⟨vs,g2,g3,g4,g5,g6,g7⟩:=hg.blk i _ hk;exact⟨vs,g2,g3,g4,g5,g6,fun a x j c u h1 h2 h3=>(g7 a x j c u h1 h2 h3).step hst⟩
  ·have hi':s.H[i]?=some bl:=by simp only[St.frz]at hi;rwa [List.getElem?_set_ne (Ne.symm hik)]at hi
   exact(hg.blk i bl hi').step hst hi' rfl rfl (fun _=>rfl)
 refine⟨hgd,hst,fun u h=>?_⟩
 cases h with
 | buf _ _ _ _ e2 z2 xs2 fz2 A l c hk2 ht hh =>
  rw[hk]at hk2;cases hk2;obtain⟨hA,rfl,hcap,_⟩:=hh rfl;obtain⟨vs,g2,g3,g4,g5,g6,g7⟩:=hg.blk k _ hk;by_cases hl0:xs.length=0
  ·have hx:xs=[]:=List.eq_nil_of_length_eq_zero hl0;subst hx;exact dY z false A c (fun h=>by cases h)
  have hκ:s.κ k≠0:=by omega
  have hA:=hA hκ;subst hA;have hlk:=lvB hk hκ
  have hP:(s.frz k (.buf e z xs true)).Prot (s.φ k):=by
   refine⟨(hg.lt k hlk).1,(hg.lt k hlk).2,fun j hj e'=>?_⟩;have:=hg.inj j k (frz_lv hk hj) hlk e';subst this;exact⟨e,z,xs,by simp only[St.frz];rw[List.getElem?_set_self hkl]⟩
  refine .lst z false xs _ c (s.φ k) (0*z) (fun i j=>(s.w.cell? ⟨s.φ k,0*z+i*z+j,none⟩).getD Go.undef) (by omega) (by simp) (fun _=>⟨rfl,hP⟩) g6 (fun i x j d hx hd=>?_) (fun i x j d hx hd=>?_)
  ·obtain⟨_,_,h3⟩:=jG hg hk hx;obtain⟨u,hu,_⟩:=h3 j d hd;show s.w.cell? _=_;rw[Nat.zero_mul,Nat.zero_add,hu];rfl
  ·obtain⟨_,_,h3⟩:=jG hg hk hx;obtain⟨u,hu,hr⟩:=h3 j d hd;rw[Nat.zero_mul,Nat.zero_add,hu];exact hr.step hst
theorem frz_rep{s:St}(hg:Good s){k e z:Nat}{xs:List V}{fz:Bool}(hk:s.H[k]?=some (.buf e z xs fz)){x y:V}{u:Value}(h:Rel s x u)(ho:y=x∨(x = .buf k 0 xs.length xs.length∧y = .lst z false xs)):Rel (s.frz k (.buf e z xs true)) y u:=by
 obtain⟨_,h2,h3⟩:=frz_ok hg hk
 rcases ho with rfl | ⟨rfl,rfl⟩
 ·exact h.step h2
 ·exact h3 u h
theorem qb(k:Nat)(sl:List Nat){c:Code}{Q:Exit→List V→List B→Prop}{fr:List V}{H:List B}{e z:Nat}{xs:List V}{fz:Bool}(hk:H[k]?=some (.buf e z xs fz))
  (ho:oJ (.buf k 0 xs.length xs.length) (.lst z false xs) fr (gZ (.lst z false xs) sl 0 fr)) (h:W P c Q (gZ (.lst z false xs) sl 0 fr) (H.set k (.buf e z xs true))):W P c Q fr H:=by
 intro s a hA hg hf hd;obtain⟨rfl,hZ⟩:=hA;obtain⟨p1,p2,_⟩:=frz_ok hg hk;have hl:=ho.len
 have:=h (s.frz k (.buf e z xs true)) a ⟨rfl,hZ.step p2⟩ p1 ⟨by rw[hf.len,hl],fun i v u hv hu=>by
  have hx:fr[i]?=some (fr[i]'(by have:=aE hv;omega)):=List.getElem?_eq_getElem _
  exact frz_rep hg hk (hf.rel i _ u hx hu) (ho.at_ i _ v hx hv)⟩ hd
 exact wp_mono this fun _ _ _ hl=>cX p2 hl
theorem iA(k:Nat)(sl:List Nat)(k0:Nat)(sc:List Nat){c:Code}{Q:Exit→List V→List B→Prop}{fr:List V}{H:List B}{e z:Nat}{xs cs:List V}{fz:Bool}(hk:H[k]?=some (.buf e z xs fz))(hk0:H[k0]?=some (.cells cs))
  (ho:oJ (.buf k 0 xs.length xs.length) (.lst z false xs) fr (gZ (.lst z false xs) sl 0 fr)) (hc:oJ (.buf k 0 xs.length xs.length) (.lst z false xs) cs (gZ (.lst z false xs) sc 0 cs))
  (h:W P c Q (gZ (.lst z false xs) sl 0 fr) ((H.set k (.buf e z xs true)).set k0 (.cells (gZ (.lst z false xs) sc 0 cs)))):W P c Q fr H:=by
 intro s a hA hg hf hd;obtain⟨rfl,hZ⟩:=hA;obtain⟨p1,p2,_⟩:=frz_ok hg hk;have hl:=ho.len;have hlc:=hc.len
 have hne:k0≠k:=fun h=>by subst h;rw[hk]at hk0;cases hk0
 generalize hs1:s.frz k (.buf e z xs true)=s1 at p1 p2
 have hk1:s1.H[k0]?=some (.cells cs):=by rw[←hs1];simp only[St.frz];rw[List.getElem?_set_ne (Ne.symm hne)];exact hk0
 have hr1:∀x y u,Rel s x u→(y=x∨(x = .buf k 0 xs.length xs.length∧y = .lst z false xs))→Rel s1 y u:=fun x y u h1 h2=>by subst hs1;exact frz_rep hg hk h1 h2
 have hw1:s1.w=s.w:=by rw[←hs1];rfl
 have hst:=bw (w:=s1.w) (bl':=.cells (gZ (.lst z false xs) sc 0 cs)) p1 hk1 (lvC hk1) trivial rfl rfl rfl (Nat.le_refl _) (fun _ _ _=>rfl)
 have hgd:Good (s1.setB s1.w k0 (.cells (gZ (.lst z false xs) sc 0 cs))):=by
  refine cJ p1 hk1 (lvC hk1) trivial rfl rfl rfl (Nat.le_refl _) (fun _ _ _=>rfl) (fun hst=>?_);obtain⟨h1,vs,t,h2,h3,h4⟩:=hg.blk k0 _ hk0
  have hφ:s1.φ k0=s.φ k0:=by rw[←hs1];rfl
  refine⟨fun d hd=>?_,vs,t,by show s1.w.heap[s1.φ k0]?=_;rw[hw1,hφ];exact h2,by omega,fun i d u hd hu=>?_⟩
  ·obtain⟨i,hi⟩:=List.mem_iff_getElem?.1 hd;have hx:cs[i]?=some (cs[i]'(by have:=aE hi;omega)):=List.getElem?_eq_getElem _
   rcases hc.at_ i _ d hx hi with h9 | ⟨_,h9⟩
   ·rw[h9];exact h1 _ (List.getElem_mem _)
   ·rw[h9];rfl
  ·have hx:cs[i]?=some (cs[i]'(by have:=aE hd;omega)):=List.getElem?_eq_getElem _;exact(hr1 _ d u (h4 i _ u hx hu) (hc.at_ i _ d hx hd)).step hst
 have hH:(s1.setB s1.w k0 (.cells (gZ (.lst z false xs) sc 0 cs))).H=(s.H.set k (.buf e z xs true)).set k0 (.cells (gZ (.lst z false xs) sc 0 cs)):=by
  rw[←hs1];rfl
 have:=h (s1.setB s1.w k0 (.cells (gZ (.lst z false xs) sc 0 cs))) a ⟨hH,(hZ.step p2).step hst⟩ hgd ⟨by rw[hf.len,hl],fun i v u hv hu=>by
  have hx:fr[i]?=some (fr[i]'(by have:=aE hv;omega)):=List.getElem?_eq_getElem _
  exact(hr1 _ v u (hf.rel i _ u hx hu) (ho.at_ i _ v hx hv)).step hst⟩ hd
 have e1:(s1.setB s1.w k0 (.cells (gZ (.lst z false xs) sc 0 cs))).w=s.w:=hw1;rw[e1]at this
 exact wp_mono this fun _ _ _ hl=>cX (p2.trans hst) hl
theorem callF{f:FuncId}{args args':List V}{H:List B}{v:V}(k:Nat){e z:Nat}{xs:List V}{fz:Bool}(hk:H[k]?=some (.buf e z xs fz))(h:aR P f args' fun r=>r=v)(hr:oJ (.buf k 0 xs.length xs.length) (.lst z false xs) args args')(hp:∀a∈args',Pure a):
  aT P (.fn f []) args H fun r H'=>r=v∧H'=H.set k (.buf e z xs true):=by
 simp only[aT,List.append_nil];have h1:=fT (H:=H.set k (.buf e z xs true)) h (rfl:args'.length=args'.length) (fun i a a' ha ha'=>by rw[ha]at ha';cases ha';exact .pure a (hp a (List.mem_of_getElem? ha))) (.inl hp);refine⟨h1.1,fun s vals hA hg hsz hrel=>?_⟩;obtain⟨rfl,hZ⟩:=hA;obtain⟨p1,p2,_⟩:=frz_ok hg hk;have hl:=hr.len
 refine(h1.2 (s.frz k (.buf e z xs true)) vals ⟨rfl,hZ.step p2⟩ p1 (by omega) (fun i b u hb hu=>?_)).mono fun e' w' ⟨u,s',r,a1,a2,a3,a4,a5,a6,a7,a8⟩=>⟨u,s',r,a1,a2,a3,p2.trans a4,a5,a8,a6⟩
 have hx:args[i]?=some (args[i]'(by have:=aE hb;omega)):=List.getElem?_eq_getElem _;exact frz_rep hg hk (hrel i _ u hx hu) (hr.at_ i _ b hx hb)
end
attribute [simp] oJ gZ
end Go.AM
namespace Go.AM
open Go
def oblS(T:Ty)(ops:Array Oper)(C:V→List V→List B→(V→List B→Prop)→Prop)(E S:List Nat)(tab:List (Nat×List Nat))(Hs:Nat→List B):List Oper→Nat→Nat→List V→List V→Prop
 | [],_,_,_,_=>True
 | _::_,_,_,_,[]=>False
 | o::rest,i,c,fr,v::vs =>
  (S.contains i=true→bR ops fr o=some false)∧(match bR ops fr o with
   | some true=>match bE o.op with
    | some (f,args)=>if E.contains i then C (aU fr f) (args.map (aU fr)) (Hs c) (fun r H'=>r=v∧H'=Hs (c+1))
     else fK (fun c'=>C (aU fr f) (args.map (aU fr)) (Hs c') (fun r H'=>r=v∧H'=Hs c')) (c::iH tab i)
    | none=>if E.contains i||dz o.op then True else fK (fun c'=>aop T o.op (aU fr) (Hs c')=some (v,Hs c')) (iH tab i)
   | _=>True)∧oblS T ops C E S tab Hs rest (i+1) (if E.contains i then c+1 else c) (bJ fr o.dst v) vs
def DrawS(T:Ty)(ops:Array Oper)(E S:List Nat)(tab:List (Nat×List Nat))(cv:List (V×List B))(C:V→List V→List B→(V→List B→Prop)→Prop)(K:List V→List B→Prop)(fr:List V)(H:List B):Prop :=
 match runT T ops E ops.toList 0 fr H cv with
 | none=>False
 | some (vs,hs,f)=>hs.length=E.length∧oblS T ops C E S tab (fun c=>(H::hs)[c]?.getD []) ops.toList 0 0 fr vs∧K f ((H::hs)[E.length]?.getD [])
section
variable {P:Program} {T:Ty}
end
attribute [simp] DrawS oblS
end Go.AM
namespace Go.AM
open Go
inductive ExpX (H:List B):V→V→Prop
 | pure (v:V) (h:Pure v):ExpX H v v
 | buf (k e z:Nat) (xs:List V) (fz:Bool) (hk:H[k]?=some (.buf e z xs fz)) (hp:∀x∈xs,Pure x):ExpX H (.buf k 0 xs.length xs.length) (.lst z false xs)
 | bufx (k e z:Nat) (xs ys:List V) (fz:Bool) (hk:H[k]?=some (.buf e z xs fz)) (hl:xs.length=ys.length) (h:∀(i:Nat) c d,xs[i]?=some c→ys[i]?=some d→ExpX H c d):ExpX H (.buf k 0 xs.length xs.length) (.lst z false ys)
 | agg (cs ds:List V) (hl:cs.length=ds.length) (h:∀(i:Nat) c d,cs[i]?=some c→ds[i]?=some d→ExpX H c d):ExpX H (.agg cs) (.agg ds)
 | tup (cs ds:List V) (hl:cs.length=ds.length) (h:∀(i:Nat) c d,cs[i]?=some c→ds[i]?=some d→ExpX H c d):ExpX H (.tup cs) (.tup ds)
theorem nI{f:Nat→V→Option V} : ∀{xs ys:List V},xs.length=ys.length→(∀(i:Nat) x y,xs[i]?=some x→ys[i]?=some y→∃d0,∀d,d0≤d→f d x=some y)→∃d0,∀d,d0≤d→exL (f d) xs=some ys
 | [],[],_,_=>⟨0,fun _ _=>rfl⟩
 | x::xs,y::ys,hl,h=>by
  obtain⟨d1,h1⟩:=h 0 x y rfl rfl;obtain⟨d2,h2⟩:=nI (xs:=xs) (ys:=ys) (by simpa using hl) (fun i a b ha hb=>h (i+1) a b (by simpa using ha) (by simpa using hb));exact⟨max d1 d2,fun d hd=>by simp only[exL,h1 d (by omega),h2 d (by omega)]⟩
theorem ExpX.ex{H:List B}{v v':V}(h:ExpX H v v'):∃d0,∀d,d0≤d→exV H 0 d v=some v':=by
 induction h with
 | pure v h=>exact mJ h
 | buf k e z xs fz hk hp =>
  obtain⟨d0,h0⟩:=gJ (f:=exV H 0) (fun v hv=>mJ (hp v hv));refine⟨d0+1,fun d hd=>?_⟩;obtain⟨m,rfl⟩:∃m,d=m+1:=⟨d-1,by omega⟩;simp only[exV,Nat.not_lt_zero,if_false,hk];rw[if_pos ⟨by first | trivial | rfl,by omega⟩,List.drop_zero,List.take_length,h0 m (by omega)]
 | bufx k e z xs ys fz hk hl _ ih =>
  obtain⟨d0,h0⟩:=nI (f:=exV H 0) hl ih;refine⟨d0+1,fun d hd=>?_⟩;obtain⟨m,rfl⟩:∃m,d=m+1:=⟨d-1,by omega⟩;simp only[exV,Nat.not_lt_zero,if_false,hk];rw[if_pos ⟨by first | trivial | rfl,by omega⟩,List.drop_zero,List.take_length,h0 m (by omega)]
 | agg cs ds hl _ ih =>
  obtain⟨d0,h0⟩:=nI (f:=exV H 0) hl ih;exact⟨d0+1,fun d hd=>by obtain⟨m,rfl⟩:∃m,d=m+1:=⟨d-1,by omega⟩;simp only[exV,h0 m (by omega)]⟩
 | tup cs ds hl _ ih =>
  obtain⟨d0,h0⟩:=nI (f:=exV H 0) hl ih;exact⟨d0+1,fun d hd=>by obtain⟨m,rfl⟩:∃m,d=m+1:=⟨d-1,by omega⟩;simp only[exV,h0 m (by omega)]⟩
theorem expx_buf{H:List B}{k len e z:Nat}{xs:List V}{fz:Bool}(hk:H[k]?=some (.buf e z xs fz))(hl:len=xs.length)(hp:∀x∈xs,Pure x):ExpX H (.buf k 0 len len) (.lst z false xs):=by
 subst hl;exact .buf k e z xs fz hk hp
theorem mT{P:Program}{f:FuncId}{args:List V}{K:V→Prop}(h:bA P f args [] fun r H=>∃r',ExpX H r r'∧Pure r'∧K r'):aR P f args K:=by
 refine⟨h.1,fun F w vals hZ hF hsz hrel=>?_⟩
 refine(h.2 (base F w) vals ⟨rfl,hZ⟩ (base_good hF) hsz hrel).mono fun e w' ⟨u,s',r,a1,a2,a3,a4,a5,r',a6,a7,a8⟩=>?_
 subst a2;have hb:=gz a4;refine⟨u,r',a1,a7,?_,hb,a8⟩;have hFs:s'.F=F:=a4.F;obtain⟨d0,hd⟩:=a6.ex;have hr:=ex_rel (H:=[]) (G:=s'.H) a3 rfl d0 r r' u a5 (hd d0 (Nat.le_refl _));exact hr.pure_ (t:=base F s'.w) a7 (fun b hb=>⟨⟨hb.1,fun hf=>hb.2.1 (by show s'.F b;rw[hFs];exact hf),fun k hk=>by have:=hk.1;simp[base]at this⟩,rfl⟩)
end Go.AM
namespace Go.AM
open Go
section
variable {P:Program} {T:Ty}
end
def mB:Nat→Nat→List Nat→List Bool
 | 0,_,_=>[]
 | n+1,i,l=>l.contains i::mB n (i+1) l
theorem W_loopM{P:Program}{σ:Type}(n:Nat)(l:List Nat){ms:List Bool}(hms:mB n 0 l=ms)(ok:σ→Prop)(μ:σ→Nat)(g:σ→List (Nat×V))(Hf:σ→List B){c:Code}{Q:Exit→List V→List B→Prop}{fr:List V}{H:List B}(x0:σ)(h0:ok x0)(hF:nX (ovr (gA ms fr) (g x0)) fr)(hH:H=Hf x0)
  (hmin:∀x,ok x→H.length≤(Hf x).length)
  (hround:∀x,ok x→∀(N:List V→List B→Prop) (Q':Exit→List V→List B→Prop),(∀y fr' H',ok y→μ y<μ x→nX (ovr (gA ms fr) (g y)) fr'→(∃G,H'=Hf y++G)→(∀v∈ovr (gA ms fr) (g y),rb (Hf y).length v)→(∀bl∈Hf y,rbB (Hf y).length bl)→N fr' H')→
   (∀e fr' H',Q e fr' H'→Q' e fr' H')→W P c (lJ N Q') (ovr (gA ms fr) (g x)) (Hf x)):W P (.loop c) Q fr H :=
 W_loopV ms ok μ g Hf x0 h0 hF hH hmin hround
end Go.AM
end
namespace Go.Proofs.YteijbpppalhihaaGreat
section
open Go Go.AM
def ti1:TI:=⟨.func #[] #[] false,1,8,.nilFn,.nilFunc,none,false,false⟩
def ti2:TI:=⟨.int .i64,1,8,.int .i64 0,.int .i64 0,some (.int .i64),false,false⟩
def ti3:TI:=⟨.int .i64,1,8,.int .i64 0,.int .i64 0,some (.int .i64),false,false⟩
def ti4:TI:=⟨.bool,1,1,.bool false,.bool false,some .bool,false,false⟩
def ti5:TI:=⟨.int .u8,1,1,.int .u8 0,.int .u8 0,some (.int .u8),false,false⟩
def ti6:TI:=⟨.int .u8,1,1,.int .u8 0,.int .u8 0,some (.int .u8),false,false⟩
def ti7:TI:=⟨.struct #[⟨ "x",2,0,false, "", "runtime",0⟩,⟨ "y",3,1,false, "", "runtime",8⟩,⟨ "signed",4,2,false, "", "runtime",16⟩,⟨ "code",6,3,false, "", "runtime",17⟩],4,24,.agg [.int .i64 0,.int .i64 0,.bool false,.int .u8 0],.agg #[.int .i64 0,.int .i64 0,.bool false,.int .u8 0],none,true,false⟩
def ti8:TI:=⟨.struct #[⟨ "x",2,0,false, "", "runtime",0⟩,⟨ "y",3,1,false, "", "runtime",8⟩,⟨ "signed",4,2,false, "", "runtime",16⟩,⟨ "code",6,3,false, "", "runtime",17⟩],4,24,.agg [.int .i64 0,.int .i64 0,.bool false,.int .u8 0],.agg #[.int .i64 0,.int .i64 0,.bool false,.int .u8 0],none,true,false⟩
def ti9:TI:=⟨.string,1,16,.str ByteArray.empty,.string ByteArray.empty,some .str,false,false⟩
def ti10:TI:=⟨.string,1,16,.str ByteArray.empty,.string ByteArray.empty,some .str,false,false⟩
def ti11:TI:=⟨.string,1,16,.str ByteArray.empty,.string ByteArray.empty,some .str,false,false⟩
def ti12:TI:=⟨.int .u64,1,8,.int .u64 0,.int .u64 0,some (.int .u64),false,false⟩
def ti13:TI:=⟨.struct #[⟨ "msg",9,0,false, "", "runtime",0⟩,⟨ "addr",12,1,false, "", "runtime",16⟩],2,24,.agg [.str ByteArray.empty,.int .u64 0],.agg #[.string ByteArray.empty,.int .u64 0],none,false,false⟩
def ti14:TI:=⟨.struct #[⟨ "msg",9,0,false, "", "runtime",0⟩,⟨ "addr",12,1,false, "", "runtime",16⟩],2,24,.agg [.str ByteArray.empty,.int .u64 0],.agg #[.string ByteArray.empty,.int .u64 0],none,false,false⟩
def ti15:TI:=⟨.pointer 278,1,8,.nilP,.pointer none,none,false,false⟩
def ti16:TI:=⟨.pointer 281,1,8,.nilP,.pointer none,none,false,false⟩
def ti17:TI:=⟨.pointer 289,1,8,.nilP,.pointer none,none,false,false⟩
def ti18:TI:=⟨.struct #[⟨ "typ",17,0,false, "", "internal/runtime/maps",0⟩],1,8,.agg [.nilP],.agg #[.pointer none],none,false,false⟩
def ti19:TI:=⟨.struct #[⟨ "typ",17,0,false, "", "internal/runtime/maps",0⟩],1,8,.agg [.nilP],.agg #[.pointer none],none,false,false⟩
def ti21:TI:=⟨.int .i32,1,4,.int .i32 0,.int .i32 0,some (.int .i32),false,false⟩
def ti22:TI:=⟨.slice 155,1,24,.nilS,.slice none 0 0,none,false,false⟩
def ti23:TI:=⟨.struct #[⟨ "Attrs",5,0,false, "", "",0⟩,⟨ "Gap",5,1,false, "", "",1⟩,⟨ "Rows",22,2,false, "", "",8⟩],3,32,.agg [.int .u8 0,.int .u8 0,.nilS],.agg #[.int .u8 0,.int .u8 0,.slice none 0 0],none,true,false⟩
def ti24:TI:=⟨.struct #[⟨ "Attrs",5,0,false, "", "",0⟩,⟨ "Gap",5,1,false, "", "",1⟩,⟨ "Rows",22,2,false, "", "",8⟩],3,32,.agg [.int .u8 0,.int .u8 0,.nilS],.agg #[.int .u8 0,.int .u8 0,.slice none 0 0],none,true,false⟩
def ti25:TI:=⟨.slice 158,1,24,.nilS,.slice none 0 0,none,false,false⟩
def ti26:TI:=⟨.struct #[⟨ "T",24,0,false, "", "",0⟩,⟨ "F",25,3,false, "", "",32⟩],4,56,.agg [.int .u8 0,.int .u8 0,.nilS,.nilS],.agg #[.int .u8 0,.int .u8 0,.slice none 0 0,.slice none 0 0],none,true,false⟩
def ti27:TI:=⟨.struct #[⟨ "T",24,0,false, "", "",0⟩,⟨ "F",25,3,false, "", "",32⟩],4,56,.agg [.int .u8 0,.int .u8 0,.nilS,.nilS],.agg #[.int .u8 0,.int .u8 0,.slice none 0 0,.slice none 0 0],none,true,false⟩
def ti28:TI:=⟨.int .u16,1,2,.int .u16 0,.int .u16 0,some (.int .u16),false,false⟩
def ti29:TI:=⟨.slice 9,1,24,.nilS,.slice none 0 0,none,false,false⟩
def ti30:TI:=⟨.slice 66,1,24,.nilS,.slice none 0 0,none,false,false⟩
def ti31:TI:=⟨.struct #[⟨ "Name",9,0,false, "", "",0⟩,⟨ "Attrs",29,1,false, "", "",16⟩,⟨ "Rows",30,2,false, "", "",40⟩],3,64,.agg [.str ByteArray.empty,.nilS,.nilS],.agg #[.string ByteArray.empty,.slice none 0 0,.slice none 0 0],none,true,false⟩
def ti32:TI:=⟨.struct #[⟨ "Name",9,0,false, "", "",0⟩,⟨ "Attrs",29,1,false, "", "",16⟩,⟨ "Rows",30,2,false, "", "",40⟩],3,64,.agg [.str ByteArray.empty,.nilS,.nilS],.agg #[.string ByteArray.empty,.slice none 0 0,.slice none 0 0],none,true,false⟩
def ti33:TI:=⟨.slice 46,1,24,.nilS,.slice none 0 0,none,false,false⟩
def ti35:TI:=⟨.func #[27] #[32,33,4] false,1,8,.nilFn,.nilFunc,none,false,false⟩
def ti36:TI:=⟨.func #[] #[4] false,1,8,.nilFn,.nilFunc,none,false,false⟩
def ti37:TI:=⟨.slice 49,1,24,.nilS,.slice none 0 0,none,false,false⟩
def ti38:TI:=⟨.func #[32,28] #[37] false,1,8,.nilFn,.nilFunc,none,false,false⟩
def ti39:TI:=⟨.int .i64,1,8,.int .i64 0,.int .i64 0,some (.int .i64),false,false⟩
def ti41:TI:=⟨.func #[32,33,37] #[4,39] false,1,8,.nilFn,.nilFunc,none,false,false⟩
def ti42:TI:=⟨.func #[33] #[33] false,1,8,.nilFn,.nilFunc,none,false,false⟩
def ti43:TI:=⟨.int .u32,1,4,.int .u32 0,.int .u32 0,some (.int .u32),false,false⟩
def ti44:TI:=⟨.int .u32,1,4,.int .u32 0,.int .u32 0,some (.int .u32),false,false⟩
def ti45:TI:=⟨.struct #[⟨ "Lhs",44,0,false, "", "",0⟩,⟨ "Rhs",44,1,false, "", "",4⟩],2,8,.agg [.int .u32 0,.int .u32 0],.agg #[.int .u32 0,.int .u32 0],none,true,false⟩
def ti46:TI:=⟨.struct #[⟨ "Lhs",44,0,false, "", "",0⟩,⟨ "Rhs",44,1,false, "", "",4⟩],2,8,.agg [.int .u32 0,.int .u32 0],.agg #[.int .u32 0,.int .u32 0],none,true,false⟩
def ti47:TI:=⟨.func #[37] #[37] false,1,8,.nilFn,.nilFunc,none,false,false⟩
def ti48:TI:=⟨.struct #[⟨ "ID",2,0,false, "", "",0⟩,⟨ "Attr",3,1,false, "", "",8⟩],2,16,.agg [.int .i64 0,.int .i64 0],.agg #[.int .i64 0,.int .i64 0],none,true,false⟩
def ti49:TI:=⟨.struct #[⟨ "ID",2,0,false, "", "",0⟩,⟨ "Attr",3,1,false, "", "",8⟩],2,16,.agg [.int .i64 0,.int .i64 0],.agg #[.int .i64 0,.int .i64 0],none,true,false⟩
def ti50:TI:=⟨.func #[32,33,37] #[4] false,1,8,.nilFn,.nilFunc,none,false,false⟩
def ti51:TI:=⟨.func #[27,28,28] #[4] false,1,8,.nilFn,.nilFunc,none,false,false⟩
def ti52:TI:=⟨.array 2 5,2,2,.agg [.int .u8 0,.int .u8 0],.agg #[.int .u8 0,.int .u8 0],none,true,false⟩
def ti53:TI:=⟨.func #[32] #[37] false,1,8,.nilFn,.nilFunc,none,false,false⟩
def ti54:TI:=⟨.func #[27,52] #[4] false,1,8,.nilFn,.nilFunc,none,false,false⟩
def ti56:TI:=⟨.func #[32,33,37] #[37,39] false,1,8,.nilFn,.nilFunc,none,false,false⟩
def ti57:TI:=⟨.func #[32,37] #[37] false,1,8,.nilFn,.nilFunc,none,false,false⟩
def ti58:TI:=⟨.func #[27,28] #[4] false,1,8,.nilFn,.nilFunc,none,false,false⟩
def ti60:TI:=⟨.func #[32,33,37] #[32,39] false,1,8,.nilFn,.nilFunc,none,false,false⟩
def ti62:TI:=⟨.func #[32,33,37] #[3,39] false,1,8,.nilFn,.nilFunc,none,false,false⟩
def ti63:TI:=⟨.func #[32,32] #[4] false,1,8,.nilFn,.nilFunc,none,false,false⟩
def ti64:TI:=⟨.slice 68,1,24,.nilS,.slice none 0 0,none,false,false⟩
def ti65:TI:=⟨.struct #[⟨ "ID",2,0,false, "", "",0⟩,⟨ "Values",64,1,false, "", "",8⟩],2,32,.agg [.int .i64 0,.nilS],.agg #[.int .i64 0,.slice none 0 0],none,true,false⟩
def ti66:TI:=⟨.struct #[⟨ "ID",2,0,false, "", "",0⟩,⟨ "Values",64,1,false, "", "",8⟩],2,32,.agg [.int .i64 0,.nilS],.agg #[.int .i64 0,.slice none 0 0],none,true,false⟩
def ti67:TI:=⟨.struct #[⟨ "Kind",3,0,false, "", "",0⟩,⟨ "Num",2,1,false, "", "",8⟩,⟨ "Str",9,2,false, "", "",16⟩],3,32,.agg [.int .i64 0,.int .i64 0,.str ByteArray.empty],.agg #[.int .i64 0,.int .i64 0,.string ByteArray.empty],none,true,false⟩
def ti68:TI:=⟨.struct #[⟨ "Kind",3,0,false, "", "",0⟩,⟨ "Num",2,1,false, "", "",8⟩,⟨ "Str",9,2,false, "", "",16⟩],3,32,.agg [.int .i64 0,.int .i64 0,.str ByteArray.empty],.agg #[.int .i64 0,.int .i64 0,.string ByteArray.empty],none,true,false⟩
def ti69:TI:=⟨.func #[37,49] #[4] false,1,8,.nilFn,.nilFunc,none,false,false⟩
def ti70:TI:=⟨.func #[32,33] #[4] false,1,8,.nilFn,.nilFunc,none,false,false⟩
def ti71:TI:=⟨.slice 37,1,24,.nilS,.slice none 0 0,none,false,false⟩
def ti72:TI:=⟨.slice 90,1,24,.nilS,.slice none 0 0,none,false,false⟩
def ti73:TI:=⟨.struct #[⟨ "Cells",37,0,false, "", "",0⟩,⟨ "Table",32,1,false, "", "",24⟩,⟨ "Cores",71,4,false, "", "",88⟩,⟨ "Proof",72,5,false, "", "",112⟩],6,136,.agg [.nilS,.str ByteArray.empty,.nilS,.nilS,.nilS,.nilS],.agg #[.slice none 0 0,.string ByteArray.empty,.slice none 0 0,.slice none 0 0,.slice none 0 0,.slice none 0 0],none,true,false⟩
def ti74:TI:=⟨.struct #[⟨ "Cells",37,0,false, "", "",0⟩,⟨ "Table",32,1,false, "", "",24⟩,⟨ "Cores",71,4,false, "", "",88⟩,⟨ "Proof",72,5,false, "", "",112⟩],6,136,.agg [.nilS,.str ByteArray.empty,.nilS,.nilS,.nilS,.nilS],.agg #[.slice none 0 0,.string ByteArray.empty,.slice none 0 0,.slice none 0 0,.slice none 0 0,.slice none 0 0],none,true,false⟩
def ti76:TI:=⟨.func #[32,33,3] #[74,39] false,1,8,.nilFn,.nilFunc,none,false,false⟩
def ti77:TI:=⟨.func #[32,33,74] #[4] false,1,8,.nilFn,.nilFunc,none,false,false⟩
def ti78:TI:=⟨.func #[32,33] #[3] false,1,8,.nilFn,.nilFunc,none,false,false⟩
def ti79:TI:=⟨.func #[27] #[4] false,1,8,.nilFn,.nilFunc,none,false,false⟩
def ti80:TI:=⟨.int .i8,1,1,.int .i8 0,.int .i8 0,some (.int .i8),false,false⟩
def ti81:TI:=⟨.struct #[⟨ "Kind",5,0,false, "", "",0⟩,⟨ "At",5,1,false, "", "",1⟩,⟨ "By",80,2,false, "", "",2⟩],3,3,.agg [.int .u8 0,.int .u8 0,.int .i8 0],.agg #[.int .u8 0,.int .u8 0,.int .i8 0],none,true,false⟩
def ti82:TI:=⟨.struct #[⟨ "Kind",5,0,false, "", "",0⟩,⟨ "At",5,1,false, "", "",1⟩,⟨ "By",80,2,false, "", "",2⟩],3,3,.agg [.int .u8 0,.int .u8 0,.int .i8 0],.agg #[.int .u8 0,.int .u8 0,.int .i8 0],none,true,false⟩
def ti83:TI:=⟨.array 2 82,6,6,.agg [.int .u8 0,.int .u8 0,.int .i8 0,.int .u8 0,.int .u8 0,.int .i8 0],.agg #[.int .u8 0,.int .u8 0,.int .i8 0,.int .u8 0,.int .u8 0,.int .i8 0],none,true,false⟩
def ti84:TI:=⟨.func #[32,74,82] #[74] false,1,8,.nilFn,.nilFunc,none,false,false⟩
def ti85:TI:=⟨.func #[27,83] #[4] false,1,8,.nilFn,.nilFunc,none,false,false⟩
def ti86:TI:=⟨.func #[32,33,37] #[39] false,1,8,.nilFn,.nilFunc,none,false,false⟩
def ti87:TI:=⟨.func #[32,33] #[39] false,1,8,.nilFn,.nilFunc,none,false,false⟩
def ti88:TI:=⟨.slice 151,1,24,.nilS,.slice none 0 0,none,false,false⟩
def ti89:TI:=⟨.struct #[⟨ "Vertex",3,0,false, "", "",0⟩,⟨ "Shares",88,1,false, "", "",8⟩],2,32,.agg [.int .i64 0,.nilS],.agg #[.int .i64 0,.slice none 0 0],none,true,false⟩
def ti90:TI:=⟨.struct #[⟨ "Vertex",3,0,false, "", "",0⟩,⟨ "Shares",88,1,false, "", "",8⟩],2,32,.agg [.int .i64 0,.nilS],.agg #[.int .i64 0,.slice none 0 0],none,true,false⟩
def ti91:TI:=⟨.func #[24,3] #[32] false,1,8,.nilFn,.nilFunc,none,false,false⟩
def ti92:TI:=⟨.func #[3,25] #[33] false,1,8,.nilFn,.nilFunc,none,false,false⟩
def ti93:TI:=⟨.func #[] #[32] false,1,8,.nilFn,.nilFunc,none,false,false⟩
def ti94:TI:=⟨.func #[5] #[68] false,1,8,.nilFn,.nilFunc,none,false,false⟩
def ti95:TI:=⟨.func #[37,37] #[4] false,1,8,.nilFn,.nilFunc,none,false,false⟩
def ti96:TI:=⟨.slice 115,1,24,.nilS,.slice none 0 0,none,false,false⟩
def ti98:TI:=⟨.func #[32,33,37] #[96,4] false,1,8,.nilFn,.nilFunc,none,false,false⟩
def ti99:TI:=⟨.func #[32,49] #[68] false,1,8,.nilFn,.nilFunc,none,false,false⟩
def ti100:TI:=⟨.func #[32,49,68] #[32,39] false,1,8,.nilFn,.nilFunc,none,false,false⟩
def ti101:TI:=⟨.func #[32,33,37] #[37] false,1,8,.nilFn,.nilFunc,none,false,false⟩
def ti102:TI:=⟨.pointer 112,1,8,.nilP,.pointer none,none,false,false⟩
def ti103:TI:=⟨.func #[32,37] #[102] false,1,8,.nilFn,.nilFunc,none,false,false⟩
def ti104:TI:=⟨.func #[3,33] #[4] false,1,8,.nilFn,.nilFunc,none,false,false⟩
def ti105:TI:=⟨.map 2 4,1,8,.nilM,.map none,none,false,false⟩
def ti106:TI:=⟨.func #[29] #[29] false,1,8,.nilFn,.nilFunc,none,false,false⟩
def ti107:TI:=⟨.map 3 68,1,8,.nilM,.map none,none,false,false⟩
def ti108:TI:=⟨.func #[3] #[3] false,1,8,.nilFn,.nilFunc,none,false,false⟩
def ti109:TI:=⟨.slice 3,1,24,.nilS,.slice none 0 0,none,false,false⟩
def ti110:TI:=⟨.slice 113,1,24,.nilS,.slice none 0 0,none,false,false⟩
def ti111:TI:=⟨.struct #[⟨ "n",3,0,false, "", "dross/update",0⟩,⟨ "parent",109,1,false, "", "dross/update",8⟩,⟨ "known",110,2,false, "", "dross/update",32⟩],3,56,.agg [.int .i64 0,.nilS,.nilS],.agg #[.int .i64 0,.slice none 0 0,.slice none 0 0],none,true,false⟩
def ti112:TI:=⟨.struct #[⟨ "n",3,0,false, "", "dross/update",0⟩,⟨ "parent",109,1,false, "", "dross/update",8⟩,⟨ "known",110,2,false, "", "dross/update",32⟩],3,56,.agg [.int .i64 0,.nilS,.nilS],.agg #[.int .i64 0,.slice none 0 0,.slice none 0 0],none,true,false⟩
def ti113:TI:=⟨.pointer 68,1,8,.nilP,.pointer none,none,false,false⟩
def ti115:TI:=⟨.slice 117,1,24,.nilS,.slice none 0 0,none,false,false⟩
def ti116:TI:=⟨.struct #[⟨ "V",68,0,false, "", "",0⟩,⟨ "Symbol",3,3,false, "", "",32⟩],4,40,.agg [.int .i64 0,.int .i64 0,.str ByteArray.empty,.int .i64 0],.agg #[.int .i64 0,.int .i64 0,.string ByteArray.empty,.int .i64 0],none,true,false⟩
def ti117:TI:=⟨.struct #[⟨ "V",68,0,false, "", "",0⟩,⟨ "Symbol",3,3,false, "", "",32⟩],4,40,.agg [.int .i64 0,.int .i64 0,.str ByteArray.empty,.int .i64 0],.agg #[.int .i64 0,.int .i64 0,.string ByteArray.empty,.int .i64 0],none,true,false⟩
def ti118:TI:=⟨.func #[32,2] #[4] false,1,8,.nilFn,.nilFunc,none,false,false⟩
def ti119:TI:=⟨.func #[96,117,117] #[] false,1,8,.nilFn,.nilFunc,none,false,false⟩
def ti120:TI:=⟨.func #[32,30] #[32] false,1,8,.nilFn,.nilFunc,none,false,false⟩
def ti121:TI:=⟨.func #[32,32] #[37] false,1,8,.nilFn,.nilFunc,none,false,false⟩
def ti122:TI:=⟨.func #[29,29] #[4] false,1,8,.nilFn,.nilFunc,none,false,false⟩
def ti123:TI:=⟨.func #[66,66] #[4] false,1,8,.nilFn,.nilFunc,none,false,false⟩
def ti124:TI:=⟨.func #[37,49] #[3] false,1,8,.nilFn,.nilFunc,none,false,false⟩
def ti125:TI:=⟨.func #[66,66,44] #[4] false,1,8,.nilFn,.nilFunc,none,false,false⟩
def ti126:TI:=⟨.slice 2,1,24,.nilS,.slice none 0 0,none,false,false⟩
def ti127:TI:=⟨.slice 109,1,24,.nilS,.slice none 0 0,none,false,false⟩
def ti128:TI:=⟨.struct #[⟨ "Weights",126,0,false, "", "",0⟩,⟨ "Edges",127,1,false, "", "",24⟩],2,48,.agg [.nilS,.nilS],.agg #[.slice none 0 0,.slice none 0 0],none,true,false⟩
def ti129:TI:=⟨.struct #[⟨ "Weights",126,0,false, "", "",0⟩,⟨ "Edges",127,1,false, "", "",24⟩],2,48,.agg [.nilS,.nilS],.agg #[.slice none 0 0,.slice none 0 0],none,true,false⟩
def ti131:TI:=⟨.func #[71] #[129,37] false,1,8,.nilFn,.nilFunc,none,false,false⟩
def ti133:TI:=⟨.func #[129,3] #[109,2,39] false,1,8,.nilFn,.nilFunc,none,false,false⟩
def ti135:TI:=⟨.func #[129,2,3] #[72,39] false,1,8,.nilFn,.nilFunc,none,false,false⟩
def ti136:TI:=⟨.func #[71,137] #[] false,1,8,.nilFn,.nilFunc,none,false,false⟩
def ti137:TI:=⟨.func #[37,37] #[3] false,1,8,.nilFn,.nilFunc,none,false,false⟩
def ti138:TI:=⟨.func #[32,32,37] #[4] false,1,8,.nilFn,.nilFunc,none,false,false⟩
def ti139:TI:=⟨.func #[129,2,72] #[4] false,1,8,.nilFn,.nilFunc,none,false,false⟩
def ti140:TI:=⟨.func #[32] #[39] false,1,8,.nilFn,.nilFunc,none,false,false⟩
def ti142:TI:=⟨.func #[37,49,143] #[3,4] false,1,8,.nilFn,.nilFunc,none,false,false⟩
def ti143:TI:=⟨.func #[49,49] #[3] false,1,8,.nilFn,.nilFunc,none,false,false⟩
def ti144:TI:=⟨.func #[37,3,3] #[37] false,1,8,.nilFn,.nilFunc,none,false,false⟩
def ti145:TI:=⟨.func #[71,3,3] #[71] false,1,8,.nilFn,.nilFunc,none,false,false⟩
def ti146:TI:=⟨.func #[71] #[71] false,1,8,.nilFn,.nilFunc,none,false,false⟩
def ti147:TI:=⟨.func #[72] #[72] false,1,8,.nilFn,.nilFunc,none,false,false⟩
def ti148:TI:=⟨.pointer 90,1,8,.nilP,.pointer none,none,false,false⟩
def ti149:TI:=⟨.func #[88] #[88] false,1,8,.nilFn,.nilFunc,none,false,false⟩
def ti150:TI:=⟨.struct #[⟨ "Edge",3,0,false, "", "",0⟩,⟨ "Amount",2,1,false, "", "",8⟩],2,16,.agg [.int .i64 0,.int .i64 0],.agg #[.int .i64 0,.int .i64 0],none,true,false⟩
def ti151:TI:=⟨.struct #[⟨ "Edge",3,0,false, "", "",0⟩,⟨ "Amount",2,1,false, "", "",8⟩],2,16,.agg [.int .i64 0,.int .i64 0],.agg #[.int .i64 0,.int .i64 0],none,true,false⟩
def ti152:TI:=⟨.func #[37,3] #[37] false,1,8,.nilFn,.nilFunc,none,false,false⟩
def ti153:TI:=⟨.func #[49,49] #[4] false,1,8,.nilFn,.nilFunc,none,false,false⟩
def ti154:TI:=⟨.func #[3,33] #[39] false,1,8,.nilFn,.nilFunc,none,false,false⟩
def ti155:TI:=⟨.slice 5,1,24,.nilS,.slice none 0 0,none,false,false⟩
def ti156:TI:=⟨.func #[3] #[44] false,1,8,.nilFn,.nilFunc,none,false,false⟩
def ti157:TI:=⟨.struct #[⟨ "L",5,0,false, "", "",0⟩,⟨ "R",5,1,false, "", "",1⟩],2,2,.agg [.int .u8 0,.int .u8 0],.agg #[.int .u8 0,.int .u8 0],none,true,false⟩
def ti158:TI:=⟨.struct #[⟨ "L",5,0,false, "", "",0⟩,⟨ "R",5,1,false, "", "",1⟩],2,2,.agg [.int .u8 0,.int .u8 0],.agg #[.int .u8 0,.int .u8 0],none,true,false⟩
def ti159:TI:=⟨.func #[155] #[64] false,1,8,.nilFn,.nilFunc,none,false,false⟩
def ti160:TI:=⟨.func #[37] #[4] false,1,8,.nilFn,.nilFunc,none,false,false⟩
def ti161:TI:=⟨.func #[32,2] #[3,4] false,1,8,.nilFn,.nilFunc,none,false,false⟩
def ti162:TI:=⟨.func #[96,33] #[3] false,1,8,.nilFn,.nilFunc,none,false,false⟩
def ti163:TI:=⟨.func #[68] #[4] false,1,8,.nilFn,.nilFunc,none,false,false⟩
def ti164:TI:=⟨.func #[3,3,44] #[4] false,1,8,.nilFn,.nilFunc,none,false,false⟩
def ti165:TI:=⟨.func #[3,3] #[4] false,1,8,.nilFn,.nilFunc,none,false,false⟩
def ti166:TI:=⟨.func #[66] #[66] false,1,8,.nilFn,.nilFunc,none,false,false⟩
def ti167:TI:=⟨.func #[68,68] #[3] false,1,8,.nilFn,.nilFunc,none,false,false⟩
def ti168:TI:=⟨.func #[64,64] #[4] false,1,8,.nilFn,.nilFunc,none,false,false⟩
def ti169:TI:=⟨.func #[66,44] #[64] false,1,8,.nilFn,.nilFunc,none,false,false⟩
def ti170:TI:=⟨.func #[71] #[37] true,1,8,.nilFn,.nilFunc,none,false,false⟩
def ti171:TI:=⟨.func #[37,143] #[] false,1,8,.nilFn,.nilFunc,none,false,false⟩
def ti173:TI:=⟨.func #[129] #[109,39] false,1,8,.nilFn,.nilFunc,none,false,false⟩
def ti175:TI:=⟨.func #[129,109] #[2,39] false,1,8,.nilFn,.nilFunc,none,false,false⟩
def ti176:TI:=⟨.pointer 178,1,8,.nilP,.pointer none,none,false,false⟩
def ti177:TI:=⟨.struct #[⟨ "l",109,0,false, "", "dross/hitset",0⟩,⟨ "weight",2,1,false, "", "dross/hitset",24⟩],2,32,.agg [.nilS,.int .i64 0],.agg #[.slice none 0 0,.int .i64 0],none,true,false⟩
def ti178:TI:=⟨.struct #[⟨ "l",109,0,false, "", "dross/hitset",0⟩,⟨ "weight",2,1,false, "", "dross/hitset",24⟩],2,32,.agg [.nilS,.int .i64 0],.agg #[.slice none 0 0,.int .i64 0],none,true,false⟩
def ti179:TI:=⟨.pointer 216,1,8,.nilP,.pointer none,none,false,false⟩
def ti180:TI:=⟨.func #[129,3] #[179] false,1,8,.nilFn,.nilFunc,none,false,false⟩
def ti181:TI:=⟨.func #[176,2] #[4] false,1,8,.nilFn,.nilFunc,none,false,false⟩
def ti182:TI:=⟨.func #[129] #[39] false,1,8,.nilFn,.nilFunc,none,false,false⟩
def ti183:TI:=⟨.func #[2] #[72,39] false,1,8,.nilFn,.nilFunc,none,false,false⟩
def ti184:TI:=⟨.func #[71,3,3,3,137] #[] false,1,8,.nilFn,.nilFunc,none,false,false⟩
def ti185:TI:=⟨.func #[186] #[3] false,1,8,.nilFn,.nilFunc,none,false,false⟩
def ti186:TI:=⟨.int .u64,1,8,.int .u64 0,.int .u64 0,some (.int .u64),false,false⟩
def ti187:TI:=⟨.func #[37,37,143] #[3] false,1,8,.nilFn,.nilFunc,none,false,false⟩
def ti188:TI:=⟨.func #[2] #[4] false,1,8,.nilFn,.nilFunc,none,false,false⟩
def ti189:TI:=⟨.func #[129,191,72] #[3] false,1,8,.nilFn,.nilFunc,none,false,false⟩
def ti190:TI:=⟨.struct #[⟨ "Chosen",109,0,false, "", "",0⟩,⟨ "Excluded",109,1,false, "", "",24⟩,⟨ "Bound",2,2,false, "", "",48⟩],3,56,.agg [.nilS,.nilS,.int .i64 0],.agg #[.slice none 0 0,.slice none 0 0,.int .i64 0],none,true,false⟩
def ti191:TI:=⟨.struct #[⟨ "Chosen",109,0,false, "", "",0⟩,⟨ "Excluded",109,1,false, "", "",24⟩,⟨ "Bound",2,2,false, "", "",48⟩],3,56,.agg [.nilS,.nilS,.int .i64 0],.agg #[.slice none 0 0,.slice none 0 0,.int .i64 0],none,true,false⟩
def ti192:TI:=⟨.func #[9] #[4] false,1,8,.nilFn,.nilFunc,none,false,false⟩
def ti193:TI:=⟨.func #[29,9] #[4] false,1,8,.nilFn,.nilFunc,none,false,false⟩
def ti194:TI:=⟨.func #[64] #[4] false,1,8,.nilFn,.nilFunc,none,false,false⟩
def ti195:TI:=⟨.func #[30,30,123] #[4] false,1,8,.nilFn,.nilFunc,none,false,false⟩
def ti196:TI:=⟨.func #[109] #[3] true,1,8,.nilFn,.nilFunc,none,false,false⟩
def ti197:TI:=⟨.func #[2,2] #[3] false,1,8,.nilFn,.nilFunc,none,false,false⟩
def ti198:TI:=⟨.func #[3,3] #[3] false,1,8,.nilFn,.nilFunc,none,false,false⟩
def ti200:TI:=⟨.func #[72,2] #[72,4] false,1,8,.nilFn,.nilFunc,none,false,false⟩
def ti201:TI:=⟨.func #[29] #[4] false,1,8,.nilFn,.nilFunc,none,false,false⟩
def ti202:TI:=⟨.func #[44,44] #[4] false,1,8,.nilFn,.nilFunc,none,false,false⟩
def ti203:TI:=⟨.func #[30,204] #[3] false,1,8,.nilFn,.nilFunc,none,false,false⟩
def ti204:TI:=⟨.func #[66] #[4] false,1,8,.nilFn,.nilFunc,none,false,false⟩
def ti205:TI:=⟨.func #[115,115,44] #[4] false,1,8,.nilFn,.nilFunc,none,false,false⟩
def ti206:TI:=⟨.func #[9,9] #[3] false,1,8,.nilFn,.nilFunc,none,false,false⟩
def ti207:TI:=⟨.func #[64,64] #[3] false,1,8,.nilFn,.nilFunc,none,false,false⟩
def ti208:TI:=⟨.func #[44,3] #[4] false,1,8,.nilFn,.nilFunc,none,false,false⟩
def ti209:TI:=⟨.func #[37,3,3,3,143] #[] false,1,8,.nilFn,.nilFunc,none,false,false⟩
def ti210:TI:=⟨.func #[109,198] #[] false,1,8,.nilFn,.nilFunc,none,false,false⟩
def ti211:TI:=⟨.func #[109,212] #[4] false,1,8,.nilFn,.nilFunc,none,false,false⟩
def ti212:TI:=⟨.func #[3] #[4] false,1,8,.nilFn,.nilFunc,none,false,false⟩
def ti213:TI:=⟨.func #[109] #[] false,1,8,.nilFn,.nilFunc,none,false,false⟩
def ti214:TI:=⟨.func #[109,3] #[4] false,1,8,.nilFn,.nilFunc,none,false,false⟩
def ti215:TI:=⟨.struct #[⟨ "in",129,0,false, "", "dross/hitset",0⟩,⟨ "marks",109,2,false, "", "dross/hitset",48⟩,⟨ "left",3,3,false, "", "dross/hitset",72⟩],4,80,.agg [.nilS,.nilS,.nilS,.int .i64 0],.agg #[.slice none 0 0,.slice none 0 0,.slice none 0 0,.int .i64 0],none,true,false⟩
def ti216:TI:=⟨.struct #[⟨ "in",129,0,false, "", "dross/hitset",0⟩,⟨ "marks",109,2,false, "", "dross/hitset",48⟩,⟨ "left",3,3,false, "", "dross/hitset",72⟩],4,80,.agg [.nilS,.nilS,.nilS,.int .i64 0],.agg #[.slice none 0 0,.slice none 0 0,.slice none 0 0,.int .i64 0],none,true,false⟩
def ti218:TI:=⟨.func #[] #[88,2] false,1,8,.nilFn,.nilFunc,none,false,false⟩
def ti219:TI:=⟨.func #[] #[3] false,1,8,.nilFn,.nilFunc,none,false,false⟩
def ti220:TI:=⟨.func #[249] #[72] true,1,8,.nilFn,.nilFunc,none,false,false⟩
def ti221:TI:=⟨.func #[71,3,3,137] #[] false,1,8,.nilFn,.nilFunc,none,false,false⟩
def ti222:TI:=⟨.int .i64,1,8,.int .i64 0,.int .i64 0,some (.int .i64),false,false⟩
def ti224:TI:=⟨.func #[71,3,3,137] #[3,222] false,1,8,.nilFn,.nilFunc,none,false,false⟩
def ti225:TI:=⟨.func #[71,3,3,137] #[4] false,1,8,.nilFn,.nilFunc,none,false,false⟩
def ti226:TI:=⟨.func #[71,3,3,3,137] #[3] false,1,8,.nilFn,.nilFunc,none,false,false⟩
def ti227:TI:=⟨.func #[71,3,3,3,137] #[3,4] false,1,8,.nilFn,.nilFunc,none,false,false⟩
def ti228:TI:=⟨.func #[43] #[3] false,1,8,.nilFn,.nilFunc,none,false,false⟩
def ti229:TI:=⟨.func #[230] #[3] false,1,8,.nilFn,.nilFunc,none,false,false⟩
def ti230:TI:=⟨.int .u64,1,8,.int .u64 0,.int .u64 0,some (.int .u64),false,false⟩
def ti231:TI:=⟨.func #[129,191] #[4] false,1,8,.nilFn,.nilFunc,none,false,false⟩
def ti232:TI:=⟨.func #[129,191,88] #[4] false,1,8,.nilFn,.nilFunc,none,false,false⟩
def ti233:TI:=⟨.func #[29,9] #[3] false,1,8,.nilFn,.nilFunc,none,false,false⟩
def ti234:TI:=⟨.func #[64,163] #[4] false,1,8,.nilFn,.nilFunc,none,false,false⟩
def ti235:TI:=⟨.func #[88,2] #[4] false,1,8,.nilFn,.nilFunc,none,false,false⟩
def ti236:TI:=⟨.func #[5] #[4] false,1,8,.nilFn,.nilFunc,none,false,false⟩
def ti237:TI:=⟨.func #[37,3,3,143] #[] false,1,8,.nilFn,.nilFunc,none,false,false⟩
def ti238:TI:=⟨.func #[37,3,3,143] #[3,222] false,1,8,.nilFn,.nilFunc,none,false,false⟩
def ti239:TI:=⟨.func #[37,3,3,143] #[4] false,1,8,.nilFn,.nilFunc,none,false,false⟩
def ti240:TI:=⟨.func #[37,3,3,3,143] #[3] false,1,8,.nilFn,.nilFunc,none,false,false⟩
def ti241:TI:=⟨.func #[37,3,3,3,143] #[3,4] false,1,8,.nilFn,.nilFunc,none,false,false⟩
def ti242:TI:=⟨.func #[109,3,198] #[] false,1,8,.nilFn,.nilFunc,none,false,false⟩
def ti243:TI:=⟨.func #[109,212] #[3] false,1,8,.nilFn,.nilFunc,none,false,false⟩
def ti244:TI:=⟨.func #[109,3,3,3] #[] false,1,8,.nilFn,.nilFunc,none,false,false⟩
def ti245:TI:=⟨.func #[109,3] #[3] false,1,8,.nilFn,.nilFunc,none,false,false⟩
def ti246:TI:=⟨.func #[127,247] #[4] false,1,8,.nilFn,.nilFunc,none,false,false⟩
def ti247:TI:=⟨.func #[109] #[4] false,1,8,.nilFn,.nilFunc,none,false,false⟩
def ti248:TI:=⟨.func #[126] #[126] false,1,8,.nilFn,.nilFunc,none,false,false⟩
def ti249:TI:=⟨.slice 72,1,24,.nilS,.slice none 0 0,none,false,false⟩
def ti250:TI:=⟨.func #[72,3] #[72] false,1,8,.nilFn,.nilFunc,none,false,false⟩
def ti251:TI:=⟨.int .u64,1,8,.int .u64 0,.int .u64 0,some (.int .u64),false,false⟩
def ti252:TI:=⟨.func #[3] #[186] false,1,8,.nilFn,.nilFunc,none,false,false⟩
def ti253:TI:=⟨.func #[] #[230] false,1,8,.nilFn,.nilFunc,none,false,false⟩
def ti254:TI:=⟨.func #[71,3,255,137] #[3] false,1,8,.nilFn,.nilFunc,none,false,false⟩
def ti255:TI:=⟨.pointer 3,1,8,.nilP,.pointer none,none,false,false⟩
def ti256:TI:=⟨.func #[71,3,3,3,255,137] #[3] false,1,8,.nilFn,.nilFunc,none,false,false⟩
def ti257:TI:=⟨.func #[109,109] #[4] false,1,8,.nilFn,.nilFunc,none,false,false⟩
def ti258:TI:=⟨.func #[64,163] #[3] false,1,8,.nilFn,.nilFunc,none,false,false⟩
def ti259:TI:=⟨.func #[37,3,255,143] #[3] false,1,8,.nilFn,.nilFunc,none,false,false⟩
def ti260:TI:=⟨.func #[37,3,3,3,255,143] #[3] false,1,8,.nilFn,.nilFunc,none,false,false⟩
def ti261:TI:=⟨.func #[109,3,3,198] #[] false,1,8,.nilFn,.nilFunc,none,false,false⟩
def ti262:TI:=⟨.func #[109,3,3,3,198] #[] false,1,8,.nilFn,.nilFunc,none,false,false⟩
def ti263:TI:=⟨.func #[109,3,3] #[] false,1,8,.nilFn,.nilFunc,none,false,false⟩
def ti264:TI:=⟨.func #[109,3,3] #[3,222] false,1,8,.nilFn,.nilFunc,none,false,false⟩
def ti265:TI:=⟨.func #[109,3,3] #[4] false,1,8,.nilFn,.nilFunc,none,false,false⟩
def ti266:TI:=⟨.func #[109,3,3,3] #[3] false,1,8,.nilFn,.nilFunc,none,false,false⟩
def ti267:TI:=⟨.func #[109,3,3,3] #[3,4] false,1,8,.nilFn,.nilFunc,none,false,false⟩
def ti268:TI:=⟨.func #[127,247] #[3] false,1,8,.nilFn,.nilFunc,none,false,false⟩
def ti269:TI:=⟨.pointer 251,1,8,.nilP,.pointer none,none,false,false⟩
def ti271:TI:=⟨.func #[71,3,3,255,137] #[3,3] false,1,8,.nilFn,.nilFunc,none,false,false⟩
def ti272:TI:=⟨.func #[37,3,3,255,143] #[3,3] false,1,8,.nilFn,.nilFunc,none,false,false⟩
def ti273:TI:=⟨.func #[109,3,255] #[3] false,1,8,.nilFn,.nilFunc,none,false,false⟩
def ti274:TI:=⟨.func #[109,3,3,3,255] #[3] false,1,8,.nilFn,.nilFunc,none,false,false⟩
def ti275:TI:=⟨.func #[109,3,3,255] #[3,3] false,1,8,.nilFn,.nilFunc,none,false,false⟩
def ti276:TI:=⟨.func #[] #[9] false,1,8,.nilFn,.nilFunc,none,false,false⟩
def ti277:TI:=⟨.struct #[⟨ "_interface",17,0,false, "", "runtime",0⟩,⟨ "concrete",17,1,false, "", "runtime",8⟩,⟨ "asserted",17,2,false, "", "runtime",16⟩,⟨ "missingMethod",9,3,false, "", "runtime",24⟩],4,40,.agg [.nilP,.nilP,.nilP,.str ByteArray.empty],.agg #[.pointer none,.pointer none,.pointer none,.string ByteArray.empty],none,false,false⟩
def ti278:TI:=⟨.struct #[⟨ "_interface",17,0,false, "", "runtime",0⟩,⟨ "concrete",17,1,false, "", "runtime",8⟩,⟨ "asserted",17,2,false, "", "runtime",16⟩,⟨ "missingMethod",9,3,false, "", "runtime",24⟩],4,40,.agg [.nilP,.nilP,.nilP,.str ByteArray.empty],.agg #[.pointer none,.pointer none,.pointer none,.string ByteArray.empty],none,false,false⟩
def ti279:TI:=⟨.array 0 16,0,0,.agg [],.agg #[],none,true,false⟩
def ti280:TI:=⟨.struct #[⟨ "_",279,0,false, "", "runtime",0⟩],0,0,.agg [],.agg #[],none,false,false⟩
def ti281:TI:=⟨.struct #[⟨ "_",279,0,false, "", "runtime",0⟩],0,0,.agg [],.agg #[],none,false,false⟩
def ti282:TI:=⟨.int .u8,1,1,.int .u8 0,.int .u8 0,some (.int .u8),false,false⟩
def ti283:TI:=⟨.int .u8,1,1,.int .u8 0,.int .u8 0,some (.int .u8),false,false⟩
def ti284:TI:=⟨.func #[290,290] #[4] false,1,8,.nilFn,.nilFunc,none,false,false⟩
def ti285:TI:=⟨.pointer 5,1,8,.nilP,.pointer none,none,false,false⟩
def ti286:TI:=⟨.int .i32,1,4,.int .i32 0,.int .i32 0,some (.int .i32),false,false⟩
def ti287:TI:=⟨.int .i32,1,4,.int .i32 0,.int .i32 0,some (.int .i32),false,false⟩
def ti288:TI:=⟨.struct #[⟨ "Size_",12,0,false, "", "",0⟩,⟨ "PtrBytes",12,1,false, "", "",8⟩,⟨ "Hash",43,2,false, "", "",16⟩,⟨ "TFlag",282,3,false, "", "",20⟩,⟨ "Align_",5,4,false, "", "",21⟩,⟨ "FieldAlign_",5,5,false, "", "",22⟩,⟨ "Kind_",283,6,false, "", "",23⟩,⟨ "Equal",284,7,false, "", "",24⟩,⟨ "GCData",285,8,false, "", "",32⟩,⟨ "Str",286,9,false, "", "",40⟩,⟨ "PtrToThis",287,10,false, "", "",44⟩],11,48,.agg [.int .u64 0,.int .u64 0,.int .u32 0,.int .u8 0,.int .u8 0,.int .u8 0,.int .u8 0,.nilFn,.nilP,.int .i32 0,.int .i32 0],.agg #[.int .u64 0,.int .u64 0,.int .u32 0,.int .u8 0,.int .u8 0,.int .u8 0,.int .u8 0,.nilFunc,.pointer none,.int .i32 0,.int .i32 0],none,false,false⟩
def ti289:TI:=⟨.struct #[⟨ "Size_",12,0,false, "", "",0⟩,⟨ "PtrBytes",12,1,false, "", "",8⟩,⟨ "Hash",43,2,false, "", "",16⟩,⟨ "TFlag",282,3,false, "", "",20⟩,⟨ "Align_",5,4,false, "", "",21⟩,⟨ "FieldAlign_",5,5,false, "", "",22⟩,⟨ "Kind_",283,6,false, "", "",23⟩,⟨ "Equal",284,7,false, "", "",24⟩,⟨ "GCData",285,8,false, "", "",32⟩,⟨ "Str",286,9,false, "", "",40⟩,⟨ "PtrToThis",287,10,false, "", "",44⟩],11,48,.agg [.int .u64 0,.int .u64 0,.int .u32 0,.int .u8 0,.int .u8 0,.int .u8 0,.int .u8 0,.nilFn,.nilP,.int .i32 0,.int .i32 0],.agg #[.int .u64 0,.int .u64 0,.int .u32 0,.int .u8 0,.int .u8 0,.int .u8 0,.int .u8 0,.nilFunc,.pointer none,.int .i32 0,.int .i32 0],none,false,false⟩
def tys:List (Option TI):=[none,some ti1,some ti2,some ti3,some ti4,some ti5,some ti6,some ti7,some ti8,some ti9,some ti10,some ti11,some ti12,some ti13,some ti14,some ti15,some ti16,some ti17,some ti18,some ti19,none,some ti21,some ti22,some ti23,some ti24,some ti25,some ti26,some ti27,some ti28,some ti29,some ti30,some ti31,some ti32,some ti33,none,some ti35,some ti36,some ti37,some ti38,some ti39,none,some ti41,some ti42,some ti43,some ti44,some ti45,some ti46,some ti47,some ti48,some ti49,some ti50,some ti51,some ti52,some ti53,some ti54,none,some ti56,some ti57,some ti58,none,some ti60,none,some ti62,some ti63,some ti64,some ti65,some ti66,some ti67,some ti68,some ti69,some ti70,some ti71,some ti72,some ti73,some ti74,none,some ti76,some ti77,some ti78,some ti79,some ti80,some ti81,some ti82,some ti83,some ti84,some ti85,some ti86,some ti87,some ti88,some ti89,some ti90,some ti91,some ti92,some ti93,some ti94,some ti95,some ti96,none,some ti98,some ti99,some ti100,some ti101,some ti102,some ti103,some ti104,some ti105,some ti106,some ti107,some ti108,some ti109,some ti110,some ti111,some ti112,some ti113,none,some ti115,some ti116,some ti117,some ti118,some ti119,some ti120,some ti121,some ti122,some ti123,some ti124,some ti125,some ti126,some ti127,some ti128,some ti129,none,some ti131,none,some ti133,none,some ti135,some ti136,some ti137,some ti138,some ti139,some ti140,none,some ti142,some ti143,some ti144,some ti145,some ti146,some ti147,some ti148,some ti149,some ti150,some ti151,some ti152,some ti153,some ti154,some ti155,some ti156,some ti157,some ti158,some ti159,some ti160,some ti161,some ti162,some ti163,some ti164,some ti165,some ti166,some ti167,some ti168,some ti169,some ti170,some ti171,none,some ti173,none,some ti175,some ti176,some ti177,some ti178,some ti179,some ti180,some ti181,some ti182,some ti183,some ti184,some ti185,some ti186,some ti187,some ti188,some ti189,some ti190,some ti191,some ti192,some ti193,some ti194,some ti195,some ti196,some ti197,some ti198,none,some ti200,some ti201,some ti202,some ti203,some ti204,some ti205,some ti206,some ti207,some ti208,some ti209,some ti210,some ti211,some ti212,some ti213,some ti214,some ti215,some ti216,none,some ti218,some ti219,some ti220,some ti221,some ti222,none,some ti224,some ti225,some ti226,some ti227,some ti228,some ti229,some ti230,some ti231,some ti232,some ti233,some ti234,some ti235,some ti236,some ti237,some ti238,some ti239,some ti240,some ti241,some ti242,some ti243,some ti244,some ti245,some ti246,some ti247,some ti248,some ti249,some ti250,some ti251,some ti252,some ti253,some ti254,some ti255,some ti256,some ti257,some ti258,some ti259,some ti260,some ti261,some ti262,some ti263,some ti264,some ti265,some ti266,some ti267,some ti268,some ti269,none,some ti271,some ti272,some ti273,some ti274,some ti275,some ti276,some ti277,some ti278,some ti279,some ti280,some ti281,some ti282,some ti283,some ti284,some ti285,some ti286,some ti287,some ti288,some ti289]
def T:Ty:=fun t=>(tys[t]?).getD none
@[simp] theorem T_2:T 2=some ⟨.int .i64,1,8,.int .i64 0,.int .i64 0,some (.int .i64),false,false⟩:=rfl
@[simp] theorem T_3:T 3=some ⟨.int .i64,1,8,.int .i64 0,.int .i64 0,some (.int .i64),false,false⟩:=rfl
@[simp] theorem T_4:T 4=some ⟨.bool,1,1,.bool false,.bool false,some .bool,false,false⟩:=rfl
@[simp] theorem T_5:T 5=some ⟨.int .u8,1,1,.int .u8 0,.int .u8 0,some (.int .u8),false,false⟩:=rfl
@[simp] theorem T_9:T 9=some ⟨.string,1,16,.str ByteArray.empty,.string ByteArray.empty,some .str,false,false⟩:=rfl
@[simp] theorem T_22:T 22=some ⟨.slice 155,1,24,.nilS,.slice none 0 0,none,false,false⟩:=rfl
@[simp] theorem T_24:T 24=some ⟨.struct #[⟨ "Attrs",5,0,false, "", "",0⟩,⟨ "Gap",5,1,false, "", "",1⟩,⟨ "Rows",22,2,false, "", "",8⟩],3,32,.agg [.int .u8 0,.int .u8 0,.nilS],.agg #[.int .u8 0,.int .u8 0,.slice none 0 0],none,true,false⟩:=rfl
@[simp] theorem T_25:T 25=some ⟨.slice 158,1,24,.nilS,.slice none 0 0,none,false,false⟩:=rfl
@[simp] theorem T_27:T 27=some ⟨.struct #[⟨ "T",24,0,false, "", "",0⟩,⟨ "F",25,3,false, "", "",32⟩],4,56,.agg [.int .u8 0,.int .u8 0,.nilS,.nilS],.agg #[.int .u8 0,.int .u8 0,.slice none 0 0,.slice none 0 0],none,true,false⟩:=rfl
@[simp] theorem T_29:T 29=some ⟨.slice 9,1,24,.nilS,.slice none 0 0,none,false,false⟩:=rfl
@[simp] theorem T_30:T 30=some ⟨.slice 66,1,24,.nilS,.slice none 0 0,none,false,false⟩:=rfl
@[simp] theorem T_32:T 32=some ⟨.struct #[⟨ "Name",9,0,false, "", "",0⟩,⟨ "Attrs",29,1,false, "", "",16⟩,⟨ "Rows",30,2,false, "", "",40⟩],3,64,.agg [.str ByteArray.empty,.nilS,.nilS],.agg #[.string ByteArray.empty,.slice none 0 0,.slice none 0 0],none,true,false⟩:=rfl
@[simp] theorem T_33:T 33=some ⟨.slice 46,1,24,.nilS,.slice none 0 0,none,false,false⟩:=rfl
@[simp] theorem T_37:T 37=some ⟨.slice 49,1,24,.nilS,.slice none 0 0,none,false,false⟩:=rfl
@[simp] theorem T_44:T 44=some ⟨.int .u32,1,4,.int .u32 0,.int .u32 0,some (.int .u32),false,false⟩:=rfl
@[simp] theorem T_46:T 46=some ⟨.struct #[⟨ "Lhs",44,0,false, "", "",0⟩,⟨ "Rhs",44,1,false, "", "",4⟩],2,8,.agg [.int .u32 0,.int .u32 0],.agg #[.int .u32 0,.int .u32 0],none,true,false⟩:=rfl
@[simp] theorem T_49:T 49=some ⟨.struct #[⟨ "ID",2,0,false, "", "",0⟩,⟨ "Attr",3,1,false, "", "",8⟩],2,16,.agg [.int .i64 0,.int .i64 0],.agg #[.int .i64 0,.int .i64 0],none,true,false⟩:=rfl
@[simp] theorem T_64:T 64=some ⟨.slice 68,1,24,.nilS,.slice none 0 0,none,false,false⟩:=rfl
@[simp] theorem T_66:T 66=some ⟨.struct #[⟨ "ID",2,0,false, "", "",0⟩,⟨ "Values",64,1,false, "", "",8⟩],2,32,.agg [.int .i64 0,.nilS],.agg #[.int .i64 0,.slice none 0 0],none,true,false⟩:=rfl
@[simp] theorem T_68:T 68=some ⟨.struct #[⟨ "Kind",3,0,false, "", "",0⟩,⟨ "Num",2,1,false, "", "",8⟩,⟨ "Str",9,2,false, "", "",16⟩],3,32,.agg [.int .i64 0,.int .i64 0,.str ByteArray.empty],.agg #[.int .i64 0,.int .i64 0,.string ByteArray.empty],none,true,false⟩:=rfl
@[simp] theorem T_71:T 71=some ⟨.slice 37,1,24,.nilS,.slice none 0 0,none,false,false⟩:=rfl
@[simp] theorem T_72:T 72=some ⟨.slice 90,1,24,.nilS,.slice none 0 0,none,false,false⟩:=rfl
@[simp] theorem T_74:T 74=some ⟨.struct #[⟨ "Cells",37,0,false, "", "",0⟩,⟨ "Table",32,1,false, "", "",24⟩,⟨ "Cores",71,4,false, "", "",88⟩,⟨ "Proof",72,5,false, "", "",112⟩],6,136,.agg [.nilS,.str ByteArray.empty,.nilS,.nilS,.nilS,.nilS],.agg #[.slice none 0 0,.string ByteArray.empty,.slice none 0 0,.slice none 0 0,.slice none 0 0,.slice none 0 0],none,true,false⟩:=rfl
@[simp] theorem T_88:T 88=some ⟨.slice 151,1,24,.nilS,.slice none 0 0,none,false,false⟩:=rfl
@[simp] theorem T_90:T 90=some ⟨.struct #[⟨ "Vertex",3,0,false, "", "",0⟩,⟨ "Shares",88,1,false, "", "",8⟩],2,32,.agg [.int .i64 0,.nilS],.agg #[.int .i64 0,.slice none 0 0],none,true,false⟩:=rfl
@[simp] theorem T_96:T 96=some ⟨.slice 115,1,24,.nilS,.slice none 0 0,none,false,false⟩:=rfl
@[simp] theorem T_105:T 105=some ⟨.map 2 4,1,8,.nilM,.map none,none,false,false⟩:=rfl
@[simp] theorem T_107:T 107=some ⟨.map 3 68,1,8,.nilM,.map none,none,false,false⟩:=rfl
@[simp] theorem T_109:T 109=some ⟨.slice 3,1,24,.nilS,.slice none 0 0,none,false,false⟩:=rfl
@[simp] theorem T_110:T 110=some ⟨.slice 113,1,24,.nilS,.slice none 0 0,none,false,false⟩:=rfl
@[simp] theorem T_112:T 112=some ⟨.struct #[⟨ "n",3,0,false, "", "dross/update",0⟩,⟨ "parent",109,1,false, "", "dross/update",8⟩,⟨ "known",110,2,false, "", "dross/update",32⟩],3,56,.agg [.int .i64 0,.nilS,.nilS],.agg #[.int .i64 0,.slice none 0 0,.slice none 0 0],none,true,false⟩:=rfl
@[simp] theorem T_113:T 113=some ⟨.pointer 68,1,8,.nilP,.pointer none,none,false,false⟩:=rfl
@[simp] theorem T_115:T 115=some ⟨.slice 117,1,24,.nilS,.slice none 0 0,none,false,false⟩:=rfl
@[simp] theorem T_117:T 117=some ⟨.struct #[⟨ "V",68,0,false, "", "",0⟩,⟨ "Symbol",3,3,false, "", "",32⟩],4,40,.agg [.int .i64 0,.int .i64 0,.str ByteArray.empty,.int .i64 0],.agg #[.int .i64 0,.int .i64 0,.string ByteArray.empty,.int .i64 0],none,true,false⟩:=rfl
@[simp] theorem T_126:T 126=some ⟨.slice 2,1,24,.nilS,.slice none 0 0,none,false,false⟩:=rfl
@[simp] theorem T_127:T 127=some ⟨.slice 109,1,24,.nilS,.slice none 0 0,none,false,false⟩:=rfl
@[simp] theorem T_129:T 129=some ⟨.struct #[⟨ "Weights",126,0,false, "", "",0⟩,⟨ "Edges",127,1,false, "", "",24⟩],2,48,.agg [.nilS,.nilS],.agg #[.slice none 0 0,.slice none 0 0],none,true,false⟩:=rfl
@[simp] theorem T_151:T 151=some ⟨.struct #[⟨ "Edge",3,0,false, "", "",0⟩,⟨ "Amount",2,1,false, "", "",8⟩],2,16,.agg [.int .i64 0,.int .i64 0],.agg #[.int .i64 0,.int .i64 0],none,true,false⟩:=rfl
@[simp] theorem T_155:T 155=some ⟨.slice 5,1,24,.nilS,.slice none 0 0,none,false,false⟩:=rfl
@[simp] theorem T_158:T 158=some ⟨.struct #[⟨ "L",5,0,false, "", "",0⟩,⟨ "R",5,1,false, "", "",1⟩],2,2,.agg [.int .u8 0,.int .u8 0],.agg #[.int .u8 0,.int .u8 0],none,true,false⟩:=rfl
@[simp] theorem T_178:T 178=some ⟨.struct #[⟨ "l",109,0,false, "", "dross/hitset",0⟩,⟨ "weight",2,1,false, "", "dross/hitset",24⟩],2,32,.agg [.nilS,.int .i64 0],.agg #[.slice none 0 0,.int .i64 0],none,true,false⟩:=rfl
@[simp] theorem T_179:T 179=some ⟨.pointer 216,1,8,.nilP,.pointer none,none,false,false⟩:=rfl
@[simp] theorem T_186:T 186=some ⟨.int .u64,1,8,.int .u64 0,.int .u64 0,some (.int .u64),false,false⟩:=rfl
@[simp] theorem T_191:T 191=some ⟨.struct #[⟨ "Chosen",109,0,false, "", "",0⟩,⟨ "Excluded",109,1,false, "", "",24⟩,⟨ "Bound",2,2,false, "", "",48⟩],3,56,.agg [.nilS,.nilS,.int .i64 0],.agg #[.slice none 0 0,.slice none 0 0,.int .i64 0],none,true,false⟩:=rfl
@[simp] theorem T_216:T 216=some ⟨.struct #[⟨ "in",129,0,false, "", "dross/hitset",0⟩,⟨ "marks",109,2,false, "", "dross/hitset",48⟩,⟨ "left",3,3,false, "", "dross/hitset",72⟩],4,80,.agg [.nilS,.nilS,.nilS,.int .i64 0],.agg #[.slice none 0 0,.slice none 0 0,.slice none 0 0,.int .i64 0],none,true,false⟩:=rfl
@[simp] theorem T_249:T 249=some ⟨.slice 72,1,24,.nilS,.slice none 0 0,none,false,false⟩:=rfl
theorem trN{t:Nat}{i:TI}(h1:Tryz.prog.underlying t=some i.desc)(h2:(Tryz.prog.info? t).map (fun j=>(j.size,j.bytes,j.zero))=some (i.size,i.bytes,some i.zval):=by kernel_rfl)(h3:jJ i.zval=some i.zero:=by kernel_rfl)(h4:i.zero.cells.length=i.size:=by kernel_rfl)(h5:i.kk=none:=by rfl)(h6:i.eq=false:=by rfl):aM Tryz.prog t (some i):=fun j h=>by cases h;exact⟨h1,h2,h3,h4,fun k hk=>(by rw[h5]at hk;cases hk),fun he=>(by rw[h6]at he;cases he)⟩
theorem tr1:aM Tryz.prog 1 (some ti1):=trN Tryz.underlying1
theorem tr2:aM Tryz.prog 2 (some ti2):=fun i h=>by cases h;exact⟨Tryz.underlying2,by kernel_rfl,by kernel_rfl,by kernel_rfl,(fun _ h=>by cases h;exact bn Tryz.underlying2),(fun h=>by cases h)⟩
theorem tr3:aM Tryz.prog 3 (some ti3):=fun i h=>by cases h;exact⟨Tryz.underlying3,by kernel_rfl,by kernel_rfl,by kernel_rfl,(fun _ h=>by cases h;exact bn Tryz.underlying3),(fun h=>by cases h)⟩
theorem tr4:aM Tryz.prog 4 (some ti4):=fun i h=>by cases h;exact⟨Tryz.underlying4,by kernel_rfl,by kernel_rfl,by kernel_rfl,(fun _ h=>by cases h;exact bool_law Tryz.underlying4),(fun h=>by cases h)⟩
theorem tr5:aM Tryz.prog 5 (some ti5):=fun i h=>by cases h;exact⟨Tryz.underlying5,by kernel_rfl,by kernel_rfl,by kernel_rfl,(fun _ h=>by cases h;exact bn Tryz.underlying5),(fun h=>by cases h)⟩
theorem tr6:aM Tryz.prog 6 (some ti6):=fun i h=>by cases h;exact⟨Tryz.underlying6,by kernel_rfl,by kernel_rfl,by kernel_rfl,(fun _ h=>by cases h;exact bn Tryz.underlying6),(fun h=>by cases h)⟩
theorem tr7:aM Tryz.prog 7 (some ti7):=fun i h=>by cases h;exact⟨Tryz.underlying7,by kernel_rfl,by kernel_rfl,by kernel_rfl,(fun _ h=>by cases h),(fun _=>⟨by kernel_rfl,by kernel_rfl⟩)⟩
theorem tr8:aM Tryz.prog 8 (some ti8):=fun i h=>by cases h;exact⟨Tryz.underlying8,by kernel_rfl,by kernel_rfl,by kernel_rfl,(fun _ h=>by cases h),(fun _=>⟨by kernel_rfl,by kernel_rfl⟩)⟩
theorem tr9:aM Tryz.prog 9 (some ti9):=fun i h=>by cases h;exact⟨Tryz.underlying9,by kernel_rfl,by kernel_rfl,by kernel_rfl,(fun _ h=>by cases h;exact str_law Tryz.underlying9),(fun h=>by cases h)⟩
theorem tr10:aM Tryz.prog 10 (some ti10):=fun i h=>by cases h;exact⟨Tryz.underlying10,by kernel_rfl,by kernel_rfl,by kernel_rfl,(fun _ h=>by cases h;exact str_law Tryz.underlying10),(fun h=>by cases h)⟩
theorem tr11:aM Tryz.prog 11 (some ti11):=fun i h=>by cases h;exact⟨Tryz.underlying11,by kernel_rfl,by kernel_rfl,by kernel_rfl,(fun _ h=>by cases h;exact str_law Tryz.underlying11),(fun h=>by cases h)⟩
theorem tr12:aM Tryz.prog 12 (some ti12):=fun i h=>by cases h;exact⟨Tryz.underlying12,by kernel_rfl,by kernel_rfl,by kernel_rfl,(fun _ h=>by cases h;exact bn Tryz.underlying12),(fun h=>by cases h)⟩
theorem tr13:aM Tryz.prog 13 (some ti13):=trN Tryz.underlying13
theorem tr14:aM Tryz.prog 14 (some ti14):=trN Tryz.underlying14
theorem tr15:aM Tryz.prog 15 (some ti15):=trN Tryz.underlying15
theorem tr16:aM Tryz.prog 16 (some ti16):=trN Tryz.underlying16
theorem tr17:aM Tryz.prog 17 (some ti17):=trN Tryz.underlying17
theorem tr18:aM Tryz.prog 18 (some ti18):=trN Tryz.underlying18
theorem tr19:aM Tryz.prog 19 (some ti19):=trN Tryz.underlying19
theorem tr21:aM Tryz.prog 21 (some ti21):=fun i h=>by cases h;exact⟨Tryz.underlying21,by kernel_rfl,by kernel_rfl,by kernel_rfl,(fun _ h=>by cases h;exact bn Tryz.underlying21),(fun h=>by cases h)⟩
theorem tr22:aM Tryz.prog 22 (some ti22):=trN Tryz.underlying22
theorem tr23:aM Tryz.prog 23 (some ti23):=fun i h=>by cases h;exact⟨Tryz.underlying23,by kernel_rfl,by kernel_rfl,by kernel_rfl,(fun _ h=>by cases h),(fun _=>⟨by kernel_rfl,by kernel_rfl⟩)⟩
theorem tr24:aM Tryz.prog 24 (some ti24):=fun i h=>by cases h;exact⟨Tryz.underlying24,by kernel_rfl,by kernel_rfl,by kernel_rfl,(fun _ h=>by cases h),(fun _=>⟨by kernel_rfl,by kernel_rfl⟩)⟩
theorem tr25:aM Tryz.prog 25 (some ti25):=trN Tryz.underlying25
theorem tr26:aM Tryz.prog 26 (some ti26):=fun i h=>by cases h;exact⟨Tryz.underlying26,by kernel_rfl,by kernel_rfl,by kernel_rfl,(fun _ h=>by cases h),(fun _=>⟨by kernel_rfl,by kernel_rfl⟩)⟩
theorem tr27:aM Tryz.prog 27 (some ti27):=fun i h=>by cases h;exact⟨Tryz.underlying27,by kernel_rfl,by kernel_rfl,by kernel_rfl,(fun _ h=>by cases h),(fun _=>⟨by kernel_rfl,by kernel_rfl⟩)⟩
theorem tr28:aM Tryz.prog 28 (some ti28):=fun i h=>by cases h;exact⟨Tryz.underlying28,by kernel_rfl,by kernel_rfl,by kernel_rfl,(fun _ h=>by cases h;exact bn Tryz.underlying28),(fun h=>by cases h)⟩
theorem tr29:aM Tryz.prog 29 (some ti29):=trN Tryz.underlying29
theorem tr30:aM Tryz.prog 30 (some ti30):=trN Tryz.underlying30
theorem tr31:aM Tryz.prog 31 (some ti31):=fun i h=>by cases h;exact⟨Tryz.underlying31,by kernel_rfl,by kernel_rfl,by kernel_rfl,(fun _ h=>by cases h),(fun _=>⟨by kernel_rfl,by kernel_rfl⟩)⟩
theorem tr32:aM Tryz.prog 32 (some ti32):=fun i h=>by cases h;exact⟨Tryz.underlying32,by kernel_rfl,by kernel_rfl,by kernel_rfl,(fun _ h=>by cases h),(fun _=>⟨by kernel_rfl,by kernel_rfl⟩)⟩
theorem tr33:aM Tryz.prog 33 (some ti33):=trN Tryz.underlying33
theorem tr35:aM Tryz.prog 35 (some ti35):=trN Tryz.underlying35
theorem tr36:aM Tryz.prog 36 (some ti36):=trN Tryz.underlying36
theorem tr37:aM Tryz.prog 37 (some ti37):=trN Tryz.underlying37
theorem tr38:aM Tryz.prog 38 (some ti38):=trN Tryz.underlying38
theorem tr39:aM Tryz.prog 39 (some ti39):=fun i h=>by cases h;exact⟨Tryz.underlying39,by kernel_rfl,by kernel_rfl,by kernel_rfl,(fun _ h=>by cases h;exact bn Tryz.underlying39),(fun h=>by cases h)⟩
theorem tr41:aM Tryz.prog 41 (some ti41):=trN Tryz.underlying41
theorem tr42:aM Tryz.prog 42 (some ti42):=trN Tryz.underlying42
theorem tr43:aM Tryz.prog 43 (some ti43):=fun i h=>by cases h;exact⟨Tryz.underlying43,by kernel_rfl,by kernel_rfl,by kernel_rfl,(fun _ h=>by cases h;exact bn Tryz.underlying43),(fun h=>by cases h)⟩
theorem tr44:aM Tryz.prog 44 (some ti44):=fun i h=>by cases h;exact⟨Tryz.underlying44,by kernel_rfl,by kernel_rfl,by kernel_rfl,(fun _ h=>by cases h;exact bn Tryz.underlying44),(fun h=>by cases h)⟩
theorem tr45:aM Tryz.prog 45 (some ti45):=fun i h=>by cases h;exact⟨Tryz.underlying45,by kernel_rfl,by kernel_rfl,by kernel_rfl,(fun _ h=>by cases h),(fun _=>⟨by kernel_rfl,by kernel_rfl⟩)⟩
theorem tr46:aM Tryz.prog 46 (some ti46):=fun i h=>by cases h;exact⟨Tryz.underlying46,by kernel_rfl,by kernel_rfl,by kernel_rfl,(fun _ h=>by cases h),(fun _=>⟨by kernel_rfl,by kernel_rfl⟩)⟩
theorem tr47:aM Tryz.prog 47 (some ti47):=trN Tryz.underlying47
theorem tr48:aM Tryz.prog 48 (some ti48):=fun i h=>by cases h;exact⟨Tryz.underlying48,by kernel_rfl,by kernel_rfl,by kernel_rfl,(fun _ h=>by cases h),(fun _=>⟨by kernel_rfl,by kernel_rfl⟩)⟩
theorem tr49:aM Tryz.prog 49 (some ti49):=fun i h=>by cases h;exact⟨Tryz.underlying49,by kernel_rfl,by kernel_rfl,by kernel_rfl,(fun _ h=>by cases h),(fun _=>⟨by kernel_rfl,by kernel_rfl⟩)⟩
theorem tr50:aM Tryz.prog 50 (some ti50):=trN Tryz.underlying50
theorem tr51:aM Tryz.prog 51 (some ti51):=trN Tryz.underlying51
theorem tr52:aM Tryz.prog 52 (some ti52):=fun i h=>by cases h;exact⟨Tryz.underlying52,by kernel_rfl,by kernel_rfl,by kernel_rfl,(fun _ h=>by cases h),(fun _=>⟨by kernel_rfl,by kernel_rfl⟩)⟩
theorem tr53:aM Tryz.prog 53 (some ti53):=trN Tryz.underlying53
theorem tr54:aM Tryz.prog 54 (some ti54):=trN Tryz.underlying54
theorem tr56:aM Tryz.prog 56 (some ti56):=trN Tryz.underlying56
theorem tr57:aM Tryz.prog 57 (some ti57):=trN Tryz.underlying57
theorem tr58:aM Tryz.prog 58 (some ti58):=trN Tryz.underlying58
theorem tr60:aM Tryz.prog 60 (some ti60):=trN Tryz.underlying60
theorem tr62:aM Tryz.prog 62 (some ti62):=trN Tryz.underlying62
theorem tr63:aM Tryz.prog 63 (some ti63):=trN Tryz.underlying63
theorem tr64:aM Tryz.prog 64 (some ti64):=trN Tryz.underlying64
theorem tr65:aM Tryz.prog 65 (some ti65):=fun i h=>by cases h;exact⟨Tryz.underlying65,by kernel_rfl,by kernel_rfl,by kernel_rfl,(fun _ h=>by cases h),(fun _=>⟨by kernel_rfl,by kernel_rfl⟩)⟩
theorem tr66:aM Tryz.prog 66 (some ti66):=fun i h=>by cases h;exact⟨Tryz.underlying66,by kernel_rfl,by kernel_rfl,by kernel_rfl,(fun _ h=>by cases h),(fun _=>⟨by kernel_rfl,by kernel_rfl⟩)⟩
theorem tr67:aM Tryz.prog 67 (some ti67):=fun i h=>by cases h;exact⟨Tryz.underlying67,by kernel_rfl,by kernel_rfl,by kernel_rfl,(fun _ h=>by cases h),(fun _=>⟨by kernel_rfl,by kernel_rfl⟩)⟩
theorem tr68:aM Tryz.prog 68 (some ti68):=fun i h=>by cases h;exact⟨Tryz.underlying68,by kernel_rfl,by kernel_rfl,by kernel_rfl,(fun _ h=>by cases h),(fun _=>⟨by kernel_rfl,by kernel_rfl⟩)⟩
theorem tr69:aM Tryz.prog 69 (some ti69):=trN Tryz.underlying69
theorem tr70:aM Tryz.prog 70 (some ti70):=trN Tryz.underlying70
theorem tr71:aM Tryz.prog 71 (some ti71):=trN Tryz.underlying71
theorem tr72:aM Tryz.prog 72 (some ti72):=trN Tryz.underlying72
theorem tr73:aM Tryz.prog 73 (some ti73):=fun i h=>by cases h;exact⟨Tryz.underlying73,by kernel_rfl,by kernel_rfl,by kernel_rfl,(fun _ h=>by cases h),(fun _=>⟨by kernel_rfl,by kernel_rfl⟩)⟩
theorem tr74:aM Tryz.prog 74 (some ti74):=fun i h=>by cases h;exact⟨Tryz.underlying74,by kernel_rfl,by kernel_rfl,by kernel_rfl,(fun _ h=>by cases h),(fun _=>⟨by kernel_rfl,by kernel_rfl⟩)⟩
theorem tr76:aM Tryz.prog 76 (some ti76):=trN Tryz.underlying76
theorem tr77:aM Tryz.prog 77 (some ti77):=trN Tryz.underlying77
theorem tr78:aM Tryz.prog 78 (some ti78):=trN Tryz.underlying78
theorem tr79:aM Tryz.prog 79 (some ti79):=trN Tryz.underlying79
theorem tr80:aM Tryz.prog 80 (some ti80):=fun i h=>by cases h;exact⟨Tryz.underlying80,by kernel_rfl,by kernel_rfl,by kernel_rfl,(fun _ h=>by cases h;exact bn Tryz.underlying80),(fun h=>by cases h)⟩
theorem tr81:aM Tryz.prog 81 (some ti81):=fun i h=>by cases h;exact⟨Tryz.underlying81,by kernel_rfl,by kernel_rfl,by kernel_rfl,(fun _ h=>by cases h),(fun _=>⟨by kernel_rfl,by kernel_rfl⟩)⟩
theorem tr82:aM Tryz.prog 82 (some ti82):=fun i h=>by cases h;exact⟨Tryz.underlying82,by kernel_rfl,by kernel_rfl,by kernel_rfl,(fun _ h=>by cases h),(fun _=>⟨by kernel_rfl,by kernel_rfl⟩)⟩
theorem tr83:aM Tryz.prog 83 (some ti83):=fun i h=>by cases h;exact⟨Tryz.underlying83,by kernel_rfl,by kernel_rfl,by kernel_rfl,(fun _ h=>by cases h),(fun _=>⟨by kernel_rfl,by kernel_rfl⟩)⟩
theorem tr84:aM Tryz.prog 84 (some ti84):=trN Tryz.underlying84
theorem tr85:aM Tryz.prog 85 (some ti85):=trN Tryz.underlying85
theorem tr86:aM Tryz.prog 86 (some ti86):=trN Tryz.underlying86
theorem tr87:aM Tryz.prog 87 (some ti87):=trN Tryz.underlying87
theorem tr88:aM Tryz.prog 88 (some ti88):=trN Tryz.underlying88
theorem tr89:aM Tryz.prog 89 (some ti89):=fun i h=>by cases h;exact⟨Tryz.underlying89,by kernel_rfl,by kernel_rfl,by kernel_rfl,(fun _ h=>by cases h),(fun _=>⟨by kernel_rfl,by kernel_rfl⟩)⟩
theorem tr90:aM Tryz.prog 90 (some ti90):=fun i h=>by cases h;exact⟨Tryz.underlying90,by kernel_rfl,by kernel_rfl,by kernel_rfl,(fun _ h=>by cases h),(fun _=>⟨by kernel_rfl,by kernel_rfl⟩)⟩
theorem tr91:aM Tryz.prog 91 (some ti91):=trN Tryz.underlying91
theorem tr92:aM Tryz.prog 92 (some ti92):=trN Tryz.underlying92
theorem tr93:aM Tryz.prog 93 (some ti93):=trN Tryz.underlying93
theorem tr94:aM Tryz.prog 94 (some ti94):=trN Tryz.underlying94
theorem tr95:aM Tryz.prog 95 (some ti95):=trN Tryz.underlying95
theorem tr96:aM Tryz.prog 96 (some ti96):=trN Tryz.underlying96
theorem tr98:aM Tryz.prog 98 (some ti98):=trN Tryz.underlying98
theorem tr99:aM Tryz.prog 99 (some ti99):=trN Tryz.underlying99
theorem tr100:aM Tryz.prog 100 (some ti100):=trN Tryz.underlying100
theorem tr101:aM Tryz.prog 101 (some ti101):=trN Tryz.underlying101
theorem tr102:aM Tryz.prog 102 (some ti102):=trN Tryz.underlying102
theorem tr103:aM Tryz.prog 103 (some ti103):=trN Tryz.underlying103
theorem tr104:aM Tryz.prog 104 (some ti104):=trN Tryz.underlying104
theorem tr105:aM Tryz.prog 105 (some ti105):=trN Tryz.underlying105
theorem tr106:aM Tryz.prog 106 (some ti106):=trN Tryz.underlying106
theorem tr107:aM Tryz.prog 107 (some ti107):=trN Tryz.underlying107
theorem tr108:aM Tryz.prog 108 (some ti108):=trN Tryz.underlying108
theorem tr109:aM Tryz.prog 109 (some ti109):=trN Tryz.underlying109
theorem tr110:aM Tryz.prog 110 (some ti110):=trN Tryz.underlying110
theorem tr111:aM Tryz.prog 111 (some ti111):=fun i h=>by cases h;exact⟨Tryz.underlying111,by kernel_rfl,by kernel_rfl,by kernel_rfl,(fun _ h=>by cases h),(fun _=>⟨by kernel_rfl,by kernel_rfl⟩)⟩
theorem tr112:aM Tryz.prog 112 (some ti112):=fun i h=>by cases h;exact⟨Tryz.underlying112,by kernel_rfl,by kernel_rfl,by kernel_rfl,(fun _ h=>by cases h),(fun _=>⟨by kernel_rfl,by kernel_rfl⟩)⟩
theorem tr113:aM Tryz.prog 113 (some ti113):=trN Tryz.underlying113
theorem tr115:aM Tryz.prog 115 (some ti115):=trN Tryz.underlying115
theorem tr116:aM Tryz.prog 116 (some ti116):=fun i h=>by cases h;exact⟨Tryz.underlying116,by kernel_rfl,by kernel_rfl,by kernel_rfl,(fun _ h=>by cases h),(fun _=>⟨by kernel_rfl,by kernel_rfl⟩)⟩
theorem tr117:aM Tryz.prog 117 (some ti117):=fun i h=>by cases h;exact⟨Tryz.underlying117,by kernel_rfl,by kernel_rfl,by kernel_rfl,(fun _ h=>by cases h),(fun _=>⟨by kernel_rfl,by kernel_rfl⟩)⟩
theorem tr118:aM Tryz.prog 118 (some ti118):=trN Tryz.underlying118
theorem tr119:aM Tryz.prog 119 (some ti119):=trN Tryz.underlying119
theorem tr120:aM Tryz.prog 120 (some ti120):=trN Tryz.underlying120
theorem tr121:aM Tryz.prog 121 (some ti121):=trN Tryz.underlying121
theorem tr122:aM Tryz.prog 122 (some ti122):=trN Tryz.underlying122
theorem tr123:aM Tryz.prog 123 (some ti123):=trN Tryz.underlying123
theorem tr124:aM Tryz.prog 124 (some ti124):=trN Tryz.underlying124
theorem tr125:aM Tryz.prog 125 (some ti125):=trN Tryz.underlying125
theorem tr126:aM Tryz.prog 126 (some ti126):=trN Tryz.underlying126
theorem tr127:aM Tryz.prog 127 (some ti127):=trN Tryz.underlying127
theorem tr128:aM Tryz.prog 128 (some ti128):=fun i h=>by cases h;exact⟨Tryz.underlying128,by kernel_rfl,by kernel_rfl,by kernel_rfl,(fun _ h=>by cases h),(fun _=>⟨by kernel_rfl,by kernel_rfl⟩)⟩
theorem tr129:aM Tryz.prog 129 (some ti129):=fun i h=>by cases h;exact⟨Tryz.underlying129,by kernel_rfl,by kernel_rfl,by kernel_rfl,(fun _ h=>by cases h),(fun _=>⟨by kernel_rfl,by kernel_rfl⟩)⟩
theorem tr131:aM Tryz.prog 131 (some ti131):=trN Tryz.underlying131
theorem tr133:aM Tryz.prog 133 (some ti133):=trN Tryz.underlying133
theorem tr135:aM Tryz.prog 135 (some ti135):=trN Tryz.underlying135
theorem tr136:aM Tryz.prog 136 (some ti136):=trN Tryz.underlying136
theorem tr137:aM Tryz.prog 137 (some ti137):=trN Tryz.underlying137
theorem tr138:aM Tryz.prog 138 (some ti138):=trN Tryz.underlying138
theorem tr139:aM Tryz.prog 139 (some ti139):=trN Tryz.underlying139
theorem tr140:aM Tryz.prog 140 (some ti140):=trN Tryz.underlying140
theorem tr142:aM Tryz.prog 142 (some ti142):=trN Tryz.underlying142
theorem tr143:aM Tryz.prog 143 (some ti143):=trN Tryz.underlying143
theorem tr144:aM Tryz.prog 144 (some ti144):=trN Tryz.underlying144
theorem tr145:aM Tryz.prog 145 (some ti145):=trN Tryz.underlying145
theorem tr146:aM Tryz.prog 146 (some ti146):=trN Tryz.underlying146
theorem tr147:aM Tryz.prog 147 (some ti147):=trN Tryz.underlying147
theorem tr148:aM Tryz.prog 148 (some ti148):=trN Tryz.underlying148
theorem tr149:aM Tryz.prog 149 (some ti149):=trN Tryz.underlying149
theorem tr150:aM Tryz.prog 150 (some ti150):=fun i h=>by cases h;exact⟨Tryz.underlying150,by kernel_rfl,by kernel_rfl,by kernel_rfl,(fun _ h=>by cases h),(fun _=>⟨by kernel_rfl,by kernel_rfl⟩)⟩
theorem tr151:aM Tryz.prog 151 (some ti151):=fun i h=>by cases h;exact⟨Tryz.underlying151,by kernel_rfl,by kernel_rfl,by kernel_rfl,(fun _ h=>by cases h),(fun _=>⟨by kernel_rfl,by kernel_rfl⟩)⟩
theorem tr152:aM Tryz.prog 152 (some ti152):=trN Tryz.underlying152
theorem tr153:aM Tryz.prog 153 (some ti153):=trN Tryz.underlying153
theorem tr154:aM Tryz.prog 154 (some ti154):=trN Tryz.underlying154
theorem tr155:aM Tryz.prog 155 (some ti155):=trN Tryz.underlying155
theorem tr156:aM Tryz.prog 156 (some ti156):=trN Tryz.underlying156
theorem tr157:aM Tryz.prog 157 (some ti157):=fun i h=>by cases h;exact⟨Tryz.underlying157,by kernel_rfl,by kernel_rfl,by kernel_rfl,(fun _ h=>by cases h),(fun _=>⟨by kernel_rfl,by kernel_rfl⟩)⟩
theorem tr158:aM Tryz.prog 158 (some ti158):=fun i h=>by cases h;exact⟨Tryz.underlying158,by kernel_rfl,by kernel_rfl,by kernel_rfl,(fun _ h=>by cases h),(fun _=>⟨by kernel_rfl,by kernel_rfl⟩)⟩
theorem tr159:aM Tryz.prog 159 (some ti159):=trN Tryz.underlying159
theorem tr160:aM Tryz.prog 160 (some ti160):=trN Tryz.underlying160
theorem tr161:aM Tryz.prog 161 (some ti161):=trN Tryz.underlying161
theorem tr162:aM Tryz.prog 162 (some ti162):=trN Tryz.underlying162
theorem tr163:aM Tryz.prog 163 (some ti163):=trN Tryz.underlying163
theorem tr164:aM Tryz.prog 164 (some ti164):=trN Tryz.underlying164
theorem tr165:aM Tryz.prog 165 (some ti165):=trN Tryz.underlying165
theorem tr166:aM Tryz.prog 166 (some ti166):=trN Tryz.underlying166
theorem tr167:aM Tryz.prog 167 (some ti167):=trN Tryz.underlying167
theorem tr168:aM Tryz.prog 168 (some ti168):=trN Tryz.underlying168
theorem tr169:aM Tryz.prog 169 (some ti169):=trN Tryz.underlying169
theorem tr170:aM Tryz.prog 170 (some ti170):=trN Tryz.underlying170
theorem tr171:aM Tryz.prog 171 (some ti171):=trN Tryz.underlying171
theorem tr173:aM Tryz.prog 173 (some ti173):=trN Tryz.underlying173
theorem tr175:aM Tryz.prog 175 (some ti175):=trN Tryz.underlying175
theorem tr176:aM Tryz.prog 176 (some ti176):=trN Tryz.underlying176
theorem tr177:aM Tryz.prog 177 (some ti177):=fun i h=>by cases h;exact⟨Tryz.underlying177,by kernel_rfl,by kernel_rfl,by kernel_rfl,(fun _ h=>by cases h),(fun _=>⟨by kernel_rfl,by kernel_rfl⟩)⟩
theorem tr178:aM Tryz.prog 178 (some ti178):=fun i h=>by cases h;exact⟨Tryz.underlying178,by kernel_rfl,by kernel_rfl,by kernel_rfl,(fun _ h=>by cases h),(fun _=>⟨by kernel_rfl,by kernel_rfl⟩)⟩
theorem tr179:aM Tryz.prog 179 (some ti179):=trN Tryz.underlying179
theorem tr180:aM Tryz.prog 180 (some ti180):=trN Tryz.underlying180
theorem tr181:aM Tryz.prog 181 (some ti181):=trN Tryz.underlying181
theorem tr182:aM Tryz.prog 182 (some ti182):=trN Tryz.underlying182
theorem tr183:aM Tryz.prog 183 (some ti183):=trN Tryz.underlying183
theorem tr184:aM Tryz.prog 184 (some ti184):=trN Tryz.underlying184
theorem tr185:aM Tryz.prog 185 (some ti185):=trN Tryz.underlying185
theorem tr186:aM Tryz.prog 186 (some ti186):=fun i h=>by cases h;exact⟨Tryz.underlying186,by kernel_rfl,by kernel_rfl,by kernel_rfl,(fun _ h=>by cases h;exact bn Tryz.underlying186),(fun h=>by cases h)⟩
theorem tr187:aM Tryz.prog 187 (some ti187):=trN Tryz.underlying187
theorem tr188:aM Tryz.prog 188 (some ti188):=trN Tryz.underlying188
theorem tr189:aM Tryz.prog 189 (some ti189):=trN Tryz.underlying189
theorem tr190:aM Tryz.prog 190 (some ti190):=fun i h=>by cases h;exact⟨Tryz.underlying190,by kernel_rfl,by kernel_rfl,by kernel_rfl,(fun _ h=>by cases h),(fun _=>⟨by kernel_rfl,by kernel_rfl⟩)⟩
theorem tr191:aM Tryz.prog 191 (some ti191):=fun i h=>by cases h;exact⟨Tryz.underlying191,by kernel_rfl,by kernel_rfl,by kernel_rfl,(fun _ h=>by cases h),(fun _=>⟨by kernel_rfl,by kernel_rfl⟩)⟩
theorem tr192:aM Tryz.prog 192 (some ti192):=trN Tryz.underlying192
theorem tr193:aM Tryz.prog 193 (some ti193):=trN Tryz.underlying193
theorem tr194:aM Tryz.prog 194 (some ti194):=trN Tryz.underlying194
theorem tr195:aM Tryz.prog 195 (some ti195):=trN Tryz.underlying195
theorem tr196:aM Tryz.prog 196 (some ti196):=trN Tryz.underlying196
theorem tr197:aM Tryz.prog 197 (some ti197):=trN Tryz.underlying197
theorem tr198:aM Tryz.prog 198 (some ti198):=trN Tryz.underlying198
theorem tr200:aM Tryz.prog 200 (some ti200):=trN Tryz.underlying200
theorem tr201:aM Tryz.prog 201 (some ti201):=trN Tryz.underlying201
theorem tr202:aM Tryz.prog 202 (some ti202):=trN Tryz.underlying202
theorem tr203:aM Tryz.prog 203 (some ti203):=trN Tryz.underlying203
theorem tr204:aM Tryz.prog 204 (some ti204):=trN Tryz.underlying204
theorem tr205:aM Tryz.prog 205 (some ti205):=trN Tryz.underlying205
theorem tr206:aM Tryz.prog 206 (some ti206):=trN Tryz.underlying206
theorem tr207:aM Tryz.prog 207 (some ti207):=trN Tryz.underlying207
theorem tr208:aM Tryz.prog 208 (some ti208):=trN Tryz.underlying208
theorem tr209:aM Tryz.prog 209 (some ti209):=trN Tryz.underlying209
theorem tr210:aM Tryz.prog 210 (some ti210):=trN Tryz.underlying210
theorem tr211:aM Tryz.prog 211 (some ti211):=trN Tryz.underlying211
theorem tr212:aM Tryz.prog 212 (some ti212):=trN Tryz.underlying212
theorem tr213:aM Tryz.prog 213 (some ti213):=trN Tryz.underlying213
theorem tr214:aM Tryz.prog 214 (some ti214):=trN Tryz.underlying214
theorem tr215:aM Tryz.prog 215 (some ti215):=fun i h=>by cases h;exact⟨Tryz.underlying215,by kernel_rfl,by kernel_rfl,by kernel_rfl,(fun _ h=>by cases h),(fun _=>⟨by kernel_rfl,by kernel_rfl⟩)⟩
theorem tr216:aM Tryz.prog 216 (some ti216):=fun i h=>by cases h;exact⟨Tryz.underlying216,by kernel_rfl,by kernel_rfl,by kernel_rfl,(fun _ h=>by cases h),(fun _=>⟨by kernel_rfl,by kernel_rfl⟩)⟩
theorem tr218:aM Tryz.prog 218 (some ti218):=trN Tryz.underlying218
theorem tr219:aM Tryz.prog 219 (some ti219):=trN Tryz.underlying219
theorem tr220:aM Tryz.prog 220 (some ti220):=trN Tryz.underlying220
theorem tr221:aM Tryz.prog 221 (some ti221):=trN Tryz.underlying221
theorem tr222:aM Tryz.prog 222 (some ti222):=fun i h=>by cases h;exact⟨Tryz.underlying222,by kernel_rfl,by kernel_rfl,by kernel_rfl,(fun _ h=>by cases h;exact bn Tryz.underlying222),(fun h=>by cases h)⟩
theorem tr224:aM Tryz.prog 224 (some ti224):=trN Tryz.underlying224
theorem tr225:aM Tryz.prog 225 (some ti225):=trN Tryz.underlying225
theorem tr226:aM Tryz.prog 226 (some ti226):=trN Tryz.underlying226
theorem tr227:aM Tryz.prog 227 (some ti227):=trN Tryz.underlying227
theorem tr228:aM Tryz.prog 228 (some ti228):=trN Tryz.underlying228
theorem tr229:aM Tryz.prog 229 (some ti229):=trN Tryz.underlying229
theorem tr230:aM Tryz.prog 230 (some ti230):=fun i h=>by cases h;exact⟨Tryz.underlying230,by kernel_rfl,by kernel_rfl,by kernel_rfl,(fun _ h=>by cases h;exact bn Tryz.underlying230),(fun h=>by cases h)⟩
theorem tr231:aM Tryz.prog 231 (some ti231):=trN Tryz.underlying231
theorem tr232:aM Tryz.prog 232 (some ti232):=trN Tryz.underlying232
theorem tr233:aM Tryz.prog 233 (some ti233):=trN Tryz.underlying233
theorem tr234:aM Tryz.prog 234 (some ti234):=trN Tryz.underlying234
theorem tr235:aM Tryz.prog 235 (some ti235):=trN Tryz.underlying235
theorem tr236:aM Tryz.prog 236 (some ti236):=trN Tryz.underlying236
theorem tr237:aM Tryz.prog 237 (some ti237):=trN Tryz.underlying237
theorem tr238:aM Tryz.prog 238 (some ti238):=trN Tryz.underlying238
theorem tr239:aM Tryz.prog 239 (some ti239):=trN Tryz.underlying239
theorem tr240:aM Tryz.prog 240 (some ti240):=trN Tryz.underlying240
theorem tr241:aM Tryz.prog 241 (some ti241):=trN Tryz.underlying241
theorem tr242:aM Tryz.prog 242 (some ti242):=trN Tryz.underlying242
theorem tr243:aM Tryz.prog 243 (some ti243):=trN Tryz.underlying243
theorem tr244:aM Tryz.prog 244 (some ti244):=trN Tryz.underlying244
theorem tr245:aM Tryz.prog 245 (some ti245):=trN Tryz.underlying245
theorem tr246:aM Tryz.prog 246 (some ti246):=trN Tryz.underlying246
theorem tr247:aM Tryz.prog 247 (some ti247):=trN Tryz.underlying247
theorem tr248:aM Tryz.prog 248 (some ti248):=trN Tryz.underlying248
theorem tr249:aM Tryz.prog 249 (some ti249):=trN Tryz.underlying249
theorem tr250:aM Tryz.prog 250 (some ti250):=trN Tryz.underlying250
theorem tr251:aM Tryz.prog 251 (some ti251):=fun i h=>by cases h;exact⟨Tryz.underlying251,by kernel_rfl,by kernel_rfl,by kernel_rfl,(fun _ h=>by cases h;exact bn Tryz.underlying251),(fun h=>by cases h)⟩
theorem tr252:aM Tryz.prog 252 (some ti252):=trN Tryz.underlying252
theorem tr253:aM Tryz.prog 253 (some ti253):=trN Tryz.underlying253
theorem tr254:aM Tryz.prog 254 (some ti254):=trN Tryz.underlying254
theorem tr255:aM Tryz.prog 255 (some ti255):=trN Tryz.underlying255
theorem tr256:aM Tryz.prog 256 (some ti256):=trN Tryz.underlying256
theorem tr257:aM Tryz.prog 257 (some ti257):=trN Tryz.underlying257
theorem tr258:aM Tryz.prog 258 (some ti258):=trN Tryz.underlying258
theorem tr259:aM Tryz.prog 259 (some ti259):=trN Tryz.underlying259
theorem tr260:aM Tryz.prog 260 (some ti260):=trN Tryz.underlying260
theorem tr261:aM Tryz.prog 261 (some ti261):=trN Tryz.underlying261
theorem tr262:aM Tryz.prog 262 (some ti262):=trN Tryz.underlying262
theorem tr263:aM Tryz.prog 263 (some ti263):=trN Tryz.underlying263
theorem tr264:aM Tryz.prog 264 (some ti264):=trN Tryz.underlying264
theorem tr265:aM Tryz.prog 265 (some ti265):=trN Tryz.underlying265
theorem tr266:aM Tryz.prog 266 (some ti266):=trN Tryz.underlying266
theorem tr267:aM Tryz.prog 267 (some ti267):=trN Tryz.underlying267
theorem tr268:aM Tryz.prog 268 (some ti268):=trN Tryz.underlying268
theorem tr269:aM Tryz.prog 269 (some ti269):=trN Tryz.underlying269
theorem tr271:aM Tryz.prog 271 (some ti271):=trN Tryz.underlying271
theorem tr272:aM Tryz.prog 272 (some ti272):=trN Tryz.underlying272
theorem tr273:aM Tryz.prog 273 (some ti273):=trN Tryz.underlying273
theorem tr274:aM Tryz.prog 274 (some ti274):=trN Tryz.underlying274
theorem tr275:aM Tryz.prog 275 (some ti275):=trN Tryz.underlying275
theorem tr276:aM Tryz.prog 276 (some ti276):=trN Tryz.underlying276
theorem tr277:aM Tryz.prog 277 (some ti277):=trN Tryz.underlying277
theorem tr278:aM Tryz.prog 278 (some ti278):=trN Tryz.underlying278
theorem tr279:aM Tryz.prog 279 (some ti279):=fun i h=>by cases h;exact⟨Tryz.underlying279,by kernel_rfl,by kernel_rfl,by kernel_rfl,(fun _ h=>by cases h),(fun _=>⟨by kernel_rfl,by kernel_rfl⟩)⟩
theorem tr280:aM Tryz.prog 280 (some ti280):=trN Tryz.underlying280
theorem tr281:aM Tryz.prog 281 (some ti281):=trN Tryz.underlying281
theorem tr282:aM Tryz.prog 282 (some ti282):=fun i h=>by cases h;exact⟨Tryz.underlying282,by kernel_rfl,by kernel_rfl,by kernel_rfl,(fun _ h=>by cases h;exact bn Tryz.underlying282),(fun h=>by cases h)⟩
theorem tr283:aM Tryz.prog 283 (some ti283):=fun i h=>by cases h;exact⟨Tryz.underlying283,by kernel_rfl,by kernel_rfl,by kernel_rfl,(fun _ h=>by cases h;exact bn Tryz.underlying283),(fun h=>by cases h)⟩
theorem tr284:aM Tryz.prog 284 (some ti284):=trN Tryz.underlying284
theorem tr285:aM Tryz.prog 285 (some ti285):=trN Tryz.underlying285
theorem tr286:aM Tryz.prog 286 (some ti286):=fun i h=>by cases h;exact⟨Tryz.underlying286,by kernel_rfl,by kernel_rfl,by kernel_rfl,(fun _ h=>by cases h;exact bn Tryz.underlying286),(fun h=>by cases h)⟩
theorem tr287:aM Tryz.prog 287 (some ti287):=fun i h=>by cases h;exact⟨Tryz.underlying287,by kernel_rfl,by kernel_rfl,by kernel_rfl,(fun _ h=>by cases h;exact bn Tryz.underlying287),(fun h=>by cases h)⟩
theorem tr288:aM Tryz.prog 288 (some ti288):=trN Tryz.underlying288
theorem tr289:aM Tryz.prog 289 (some ti289):=trN Tryz.underlying289
theorem trows:qc Tryz.prog 0 tys :=
 aB bH <|
 aB tr1 <|
 aB tr2 <|
 aB tr3 <|
 aB tr4 <|
 aB tr5 <|
 aB tr6 <|
 aB tr7 <|
 aB tr8 <|
 aB tr9 <|
 aB tr10 <|
 aB tr11 <|
 aB tr12 <|
 aB tr13 <|
 aB tr14 <|
 aB tr15 <|
 aB tr16 <|
 aB tr17 <|
 aB tr18 <|
 aB tr19 <|
 aB bH <|
 aB tr21 <|
 aB tr22 <|
 aB tr23 <|
 aB tr24 <|
 aB tr25 <|
 aB tr26 <|
 aB tr27 <|
 aB tr28 <|
 aB tr29 <|
 aB tr30 <|
 aB tr31 <|
 aB tr32 <|
 aB tr33 <|
 aB bH <|
 aB tr35 <|
 aB tr36 <|
 aB tr37 <|
 aB tr38 <|
 aB tr39 <|
 aB bH <|
 aB tr41 <|
 aB tr42 <|
 aB tr43 <|
 aB tr44 <|
 aB tr45 <|
 aB tr46 <|
 aB tr47 <|
 aB tr48 <|
 aB tr49 <|
 aB tr50 <|
 aB tr51 <|
 aB tr52 <|
 aB tr53 <|
 aB tr54 <|
 aB bH <|
 aB tr56 <|
 aB tr57 <|
 aB tr58 <|
 aB bH <|
 aB tr60 <|
 aB bH <|
 aB tr62 <|
 aB tr63 <|
 aB tr64 <|
 aB tr65 <|
 aB tr66 <|
 aB tr67 <|
 aB tr68 <|
 aB tr69 <|
 aB tr70 <|
 aB tr71 <|
 aB tr72 <|
 aB tr73 <|
 aB tr74 <|
 aB bH <|
 aB tr76 <|
 aB tr77 <|
 aB tr78 <|
 aB tr79 <|
 aB tr80 <|
 aB tr81 <|
 aB tr82 <|
 aB tr83 <|
 aB tr84 <|
 aB tr85 <|
 aB tr86 <|
 aB tr87 <|
 aB tr88 <|
 aB tr89 <|
 aB tr90 <|
 aB tr91 <|
 aB tr92 <|
 aB tr93 <|
 aB tr94 <|
 aB tr95 <|
 aB tr96 <|
 aB bH <|
 aB tr98 <|
 aB tr99 <|
 aB tr100 <|
 aB tr101 <|
 aB tr102 <|
 aB tr103 <|
 aB tr104 <|
 aB tr105 <|
 aB tr106 <|
 aB tr107 <|
 aB tr108 <|
 aB tr109 <|
 aB tr110 <|
 aB tr111 <|
 aB tr112 <|
 aB tr113 <|
 aB bH <|
 aB tr115 <|
 aB tr116 <|
 aB tr117 <|
 aB tr118 <|
 aB tr119 <|
 aB tr120 <|
 aB tr121 <|
 aB tr122 <|
 aB tr123 <|
 aB tr124 <|
 aB tr125 <|
 aB tr126 <|
 aB tr127 <|
 aB tr128 <|
 aB tr129 <|
 aB bH <|
 aB tr131 <|
 aB bH <|
 aB tr133 <|
 aB bH <|
 aB tr135 <|
 aB tr136 <|
 aB tr137 <|
 aB tr138 <|
 aB tr139 <|
 aB tr140 <|
 aB bH <|
 aB tr142 <|
 aB tr143 <|
 aB tr144 <|
 aB tr145 <|
 aB tr146 <|
 aB tr147 <|
 aB tr148 <|
 aB tr149 <|
 aB tr150 <|
 aB tr151 <|
 aB tr152 <|
 aB tr153 <|
 aB tr154 <|
 aB tr155 <|
 aB tr156 <|
 aB tr157 <|
 aB tr158 <|
 aB tr159 <|
 aB tr160 <|
 aB tr161 <|
 aB tr162 <|
 aB tr163 <|
 aB tr164 <|
 aB tr165 <|
 aB tr166 <|
 aB tr167 <|
 aB tr168 <|
 aB tr169 <|
 aB tr170 <|
 aB tr171 <|
 aB bH <|
 aB tr173 <|
 aB bH <|
 aB tr175 <|
 aB tr176 <|
 aB tr177 <|
 aB tr178 <|
 aB tr179 <|
 aB tr180 <|
 aB tr181 <|
 aB tr182 <|
 aB tr183 <|
 aB tr184 <|
 aB tr185 <|
 aB tr186 <|
 aB tr187 <|
 aB tr188 <|
 aB tr189 <|
 aB tr190 <|
 aB tr191 <|
 aB tr192 <|
 aB tr193 <|
 aB tr194 <|
 aB tr195 <|
 aB tr196 <|
 aB tr197 <|
 aB tr198 <|
 aB bH <|
 aB tr200 <|
 aB tr201 <|
 aB tr202 <|
 aB tr203 <|
 aB tr204 <|
 aB tr205 <|
 aB tr206 <|
 aB tr207 <|
 aB tr208 <|
 aB tr209 <|
 aB tr210 <|
 aB tr211 <|
 aB tr212 <|
 aB tr213 <|
 aB tr214 <|
 aB tr215 <|
 aB tr216 <|
 aB bH <|
 aB tr218 <|
 aB tr219 <|
 aB tr220 <|
 aB tr221 <|
 aB tr222 <|
 aB bH <|
 aB tr224 <|
 aB tr225 <|
 aB tr226 <|
 aB tr227 <|
 aB tr228 <|
 aB tr229 <|
 aB tr230 <|
 aB tr231 <|
 aB tr232 <|
 aB tr233 <|
 aB tr234 <|
 aB tr235 <|
 aB tr236 <|
 aB tr237 <|
 aB tr238 <|
 aB tr239 <|
 aB tr240 <|
 aB tr241 <|
 aB tr242 <|
 aB tr243 <|
 aB tr244 <|
 aB tr245 <|
 aB tr246 <|
 aB tr247 <|
 aB tr248 <|
 aB tr249 <|
 aB tr250 <|
 aB tr251 <|
 aB tr252 <|
 aB tr253 <|
 aB tr254 <|
 aB tr255 <|
 aB tr256 <|
 aB tr257 <|
 aB tr258 <|
 aB tr259 <|
 aB tr260 <|
 aB tr261 <|
 aB tr262 <|
 aB tr263 <|
 aB tr264 <|
 aB tr265 <|
 aB tr266 <|
 aB tr267 <|
 aB tr268 <|
 aB tr269 <|
 aB bH <|
 aB tr271 <|
 aB tr272 <|
 aB tr273 <|
 aB tr274 <|
 aB tr275 <|
 aB tr276 <|
 aB tr277 <|
 aB tr278 <|
 aB tr279 <|
 aB tr280 <|
 aB tr281 <|
 aB tr282 <|
 aB tr283 <|
 aB tr284 <|
 aB tr285 <|
 aB tr286 <|
 aB tr287 <|
 aB tr288 <|
 aB tr289 <|
 trows_nil
theorem tok:TOk Tryz.prog T:=tok_rows trows
end
end Go.Proofs.YteijbpppalhihaaGreat
namespace Go.Proofs.YteijbpppalhihaaGreat
section
open Go Go.AM Go.RowKit
theorem mixed:Tryz.prog.follows .mixedOrders=true:=by kernel_rfl
theorem wx{c:Code}{Q:Exit→List V→List B→Prop}{fr:List V}{H:List B}(h:WX T (aT Tryz.prog) (LW Tryz.prog) c Q fr H):W Tryz.prog c Q fr H:=W_x tok mixed h
def aW(n:Int):V:=.int .i64 n
def L1(f:Bool)(xs:List Int):V:=.lst 1 f (xs.map aW)
@[simp] theorem encI_pure (n:Int):AM.Pure (aW n):=by simp[aW]
@[simp] theorem L1_pure (f:Bool) (xs:List Int):AM.Pure (L1 f xs):=by simp[L1,aW]
@[simp] theorem encI_oneV (n:Int):dm (aW n)=true:=rfl
@[simp] theorem L1_oneV (f:Bool) (xs:List Int):dm (L1 f xs)=true:=rfl
def encU(n:Int):V:=.int .u8 n
@[simp] theorem encU_pure (n:Int):AM.Pure (encU n):=by simp[encU]
theorem wrap64{n:Int}(h1 : -9223372036854775808≤n)(h2:n<9223372036854775808):IntKind.i64.wrap n=n:=by rw[IntKind.wrap_i64];omega
theorem aJ(i:Nat)(h:i<9223372036854775807):IntKind.i64.wrap ((i:Int)+1)=((i+1:Nat):Int):=by rw[wrap64 (by omega) (by omega)];rfl
theorem wrapP(i:Nat)(h:i<9223372036854775807)(h1:1≤i):IntKind.i64.wrap ((i:Int)-1)=((i-1:Nat):Int):=by rw[wrap64 (by omega) (by omega)];omega
theorem iD(n:Nat)(h:n<9223372036854775807):IntKind.i64.wrap (n:Int)=n:=wrap64 (by omega) (by omega)
theorem cap8(n:Nat)(h:n≤1000000000):n≤9223372036854775806∧(n+1)*8≤140737488355328:=by omega
theorem cap24(n:Nat)(h:n≤1000000000):n≤9223372036854775806∧(n+1)*24≤140737488355328:=by omega
def ir(xs:List Int)(x:Int):Bool:=xs.contains x
theorem memB_cons(y x:Int)(xs:List Int):ir (y::xs) x=(x == y||ir xs x):=by simp only[ir,List.contains_cons]
theorem pd{xs:List Int}{x:Int} : ir xs x=true↔x∈xs:=by simp[ir]
@[simp ↓ high] theorem forall_rbB_cons (n:Nat) (b:B) (l:List B):(∀bl∈b::l,rbB n bl)↔(rbB n b∧∀bl∈l,rbB n bl):=List.forall_mem_cons
@[simp ↓ high] theorem forall_rbB_nil (n:Nat):(∀bl∈([]:List B),rbB n bl)↔True:=by simp
def fF(s:Int)(i:Nat):Bool:=IntKind.u32.wrap ↑((s.fdiv (2^min i IntKind.u32.bits) % 2^IntKind.u32.bits).toNat &&& 1 % 2^IntKind.u32.bits)== 1
theorem has02(s:Int)(i:Nat)(hi:i<32):aR Tryz.prog 136 [.int .u32 s,.int .i64 i] fun r=>r = .bool (fF s i):=by
 refine aC (aD tok Tryz.func136 rfl rfl ?_);refine wx ?_;simp -implicitDefEqProofs -dsimp[Tryz.f136,List.replicate,show(i:Int)<32 by omega];rfl
theorem nan_c(x:Int):aR Tryz.prog 169 [.int .i64 x] fun r=>r = .bool false:=by
 refine aC (aD tok Tryz.func169 rfl rfl ?_);refine wx ?_;simp -implicitDefEqProofs -dsimp[Tryz.f169,List.replicate]
def bZ(x y:Int):Int:=if x<y then -1 else if y<x then 1 else 0
theorem cmp64(x y:Int):aR Tryz.prog 123 [.int .i64 x,.int .i64 y] fun r=>r = .int .i64 (bZ x y):=by
 refine aC (aD tok Tryz.func123 rfl rfl ?_);refine wx ?_;simp -implicitDefEqProofs -dsimp[Tryz.f123,List.replicate];refine(aF (nan_c x) (by simp)).mono ?_;rintro r H' ⟨rfl,rfl⟩;simp -implicitDefEqProofs -dsimp[];refine(aF (nan_c y) (by simp)).mono ?_;rintro r H' ⟨rfl,rfl⟩;simp -implicitDefEqProofs -dsimp[];unfold bZ;split
 ·rfl
 ·split<;>rfl
def nT(a b:ByteArray):Int:=Lib.compareBytes a.data.toList b.data.toList
theorem cmp_any(a b:ByteArray)(w:World):Calls Tryz.prog 174 #[.string a,.string b] w fun e w'=>e = .returned (.int .i64 (nT a b))∧w'=w:=by
 have hc:∀w,(callFunc 199 #[.string a,.string b]).run Tryz.prog w = .ok (.value (.int .i64 (nT a b))) w:=fun w=>by
  rw[run_callFunc_extern Tryz.func199 (by kernel_rfl) (by kernel_rfl) (by kernel_rfl) (e:=Extern.BytealgCompare.compare) (by kernel_rfl),Lib.run_compareString];rfl
 go_enter Tryz.func174,Tryz.ntmps174
 go_wp2_with (simp only[hc])
 go_ret
 exact⟨rfl,rfl⟩
theorem cmp_con(a b:ByteArray):aR Tryz.prog 174 [.str a,.str b] fun r=>r = .int .i64 (nT a b):=by
 refine⟨⟨Tryz.f174,Tryz.func174,rfl,rfl⟩,fun F w vals hZ hF hsz hrel=>?_⟩
 obtain⟨v0,v1,rfl⟩:∃v0 v1,vals = #[v0,v1]:=by
  obtain⟨l⟩:=vals
  match l,hsz with
  | [a,b],_=>exact⟨a,b,rfl⟩
 have h0:=hrel 0 _ v0 rfl rfl;have h1:=hrel 1 _ v1 rfl rfl;cases h0;cases h1
 refine(cmp_any a b w).mono fun e w' ⟨h1,h2⟩=>⟨_,_,h1,.int _ _,.int _ _,by subst h2;exact Below.refl _ _,rfl⟩
end
end Go.Proofs.YteijbpppalhihaaGreat
namespace Go.Proofs.YteijbpppalhihaaGreat
section
open Go Go.AM
def seq(a b:ByteArray):Bool:=a.toList == b.toList
def dJ(c:Int):Bool:=decide (97≤c)&&decide (c≤122)||decide (65≤c)&&decide (c≤90)||decide (c=95)
theorem lc(c:Int):(97≤c∧c≤122∧dJ c=true)∨(97≤c∧¬c≤122∧65≤c∧¬c≤90∧¬c=95∧dJ c=false)∨(¬97≤c∧65≤c∧c≤90∧dJ c=true)∨(¬97≤c∧65≤c∧¬c≤90∧c=95∧dJ c=true)∨(¬97≤c∧65≤c∧¬c≤90∧¬c=95∧dJ c=false)∨(¬97≤c∧¬65≤c∧¬c=95∧dJ c=false):=by
 have h:dJ c=decide ((97≤c∧c≤122)∨(65≤c∧c≤90)∨c=95):=by
  unfold dJ;simp only[Bool.decide_or,Bool.decide_and,Bool.or_assoc]
 rw[h];simp only[decide_eq_true_eq,decide_eq_false_iff_not];omega
theorem pk(c:Int):aR Tryz.prog 172 [.int .u8 c] fun r=>r = .bool (dJ c):=by
 rcases lc c with⟨h1,h2,h⟩ | ⟨h1,h2,h3,h4,h5,h⟩ | ⟨h1,h2,h3,h⟩ | ⟨h1,h2,h3,h4,h⟩ | ⟨h1,h2,h3,h4,h⟩ | ⟨h1,h2,h3,h⟩
 all_goals
  rw[h];refine aC (aD tok Tryz.func172 rfl rfl ?_);refine wx ?_;simp -implicitDefEqProofs -dsimp[Tryz.f172,List.replicate, *]
def bj(s:ByteArray)(i:Nat):Int:=((s[i]?).map fun b=>(b.toNat:Int)).getD 0
theorem iX{s:ByteArray}{i:Nat}(h:i<s.size):s[i]?=some s[i]∧(s[i].toNat:Int)=bj s i:=by
 have h1:s[i]?=some s[i]:=getElem?_pos s i h;exact⟨h1,by unfold bj;rw[h1];rfl⟩
theorem lF(bs:ByteArray):bs.data.toList.length=bs.size:=by simp
theorem ba_loop(bs:ByteArray):∀(n i:Nat) (r:List UInt8),bs.size-i=n→ByteArray.toList.loop bs i r=r.reverse++bs.data.toList.drop i
 | 0,i,r,h=>by
  have hl:=lF bs;rw[ByteArray.toList.loop,if_neg (by omega),List.drop_of_length_le (by omega),List.append_nil]
 | n+1,i,r,h=>by
  have hl:=lF bs
  have hi:i<bs.size:=by omega
  have hi2:i<bs.data.toList.length:=by omega
  rw[ByteArray.toList.loop,if_pos hi,ba_loop bs n (i+1) _ (by omega),List.drop_eq_getElem_cons hi2,List.reverse_cons,List.append_assoc];congr 2
  have hi3:i<bs.data.size:=by simpa using hi2
  rw[ByteArray.get!,getElem!_pos bs.data i hi3];rfl
theorem ba_toList(bs:ByteArray):bs.toList=bs.data.toList:=by
 unfold ByteArray.toList;rw[ba_loop bs _ 0 [] rfl];rfl
theorem ba_nil(s:ByteArray):s.toList=[]↔s.size=0:=by
 rw[ba_toList];rw[←List.length_eq_zero_iff,lF]
def okAt(s:ByteArray)(i:Nat):Bool:=dJ (bj s i)||(decide (i≠0)&&(decide (48≤bj s i)&&decide (bj s i≤57)))
def bt(s:ByteArray):Bool:=!decide (s.toList=[])&&decide (s.size≤24)&&!(s.toList == [110,117,108,108])&&(List.range s.size).all (okAt s)
theorem allno{p:Nat→Bool}{n i:Nat}(h:i<n)(hp:p i=false):(List.range n).all p=false:=by
 rw[List.all_eq_false];exact⟨i,by simpa using h,by simp[hp]⟩
theorem dV{p:Nat→Bool}{i:Nat}(h:(List.range i).all p=true)(hp:p i=true):(List.range (i+1)).all p=true:=by
 rw[List.range_succ,List.all_append,h];simp[hp]
theorem pm(s:ByteArray)(hsz:s.size≤maxLen):aR Tryz.prog 116 [.str s] fun r=>r = .bool (bt s):=by
 by_cases h0:s.toList=[]
 ·rw[show bt s=false by simp[bt,h0]];refine aC (aD tok Tryz.func116 rfl rfl ?_);refine wx ?_;simp -implicitDefEqProofs -dsimp[Tryz.f116,List.replicate,h0]
 ·by_cases h24:s.size≤24
  ·cases hnl:(s.toList == [110,117,108,108])
   ·rw[show bt s=(List.range s.size).all (okAt s) by simp[bt,h0,h24,hnl]];refine aC (aD tok Tryz.func116 rfl rfl ?_);refine wx ?_;simp -implicitDefEqProofs -dsimp[Tryz.f116,List.replicate,h0,hnl,show ¬(24:Int)<s.size by omega];refine aK (W_loopM 58 [2,3,4,5,19,20,21,22,23,24,25,26,27,28,29,30,31,32,33,34,35,36,37,38,39,40,41,42,43,44,45,46,47,48,49,50,51,52,53,54,55,56,57] (by simp[mB]<;>rfl) (σ:=Nat) (fun i=>i≤s.size∧(List.range i).all (okAt s)=true) (fun i=>s.size-i) (fun i=>[(19,.int .i64 i)]) (fun _=>[]) 0 ⟨by omega,rfl⟩ (by simp) rfl (by simp) ?_);rintro i ⟨hi,hall⟩ N Q hN hQ;by_cases hb:i<s.size
    ·obtain⟨hx1,hx2⟩:=iX hb;have hok:okAt s i=(dJ (bj s i)||(decide (i≠0)&&(decide (48≤bj s i)&&decide (bj s i≤57)))):=rfl;obtain⟨c,hc⟩:∃c,c=bj s i:=⟨_,rfl⟩;rw[←hc]at hx2 hok
     rcases lc c with⟨h1,h2,h⟩ | ⟨h1,h2,h3,h4,h5,h⟩ | ⟨h1,h2,h3,h⟩ | ⟨h1,h2,h3,h4,h⟩ | ⟨h1,h2,h3,h4,h⟩ | ⟨h1,h2,h3,h⟩
     ·rw[h,Bool.true_or]at hok;refine wx ?_;simp -implicitDefEqProofs -dsimp[hb,hx1,hx2,h1,h2,aJ i (by unfold maxLen at hsz;omega)];refine hN (i+1) _ _ ⟨by omega,dV hall hok⟩ (by omega) ?_ ⟨[],?_⟩ ?_ ?_<;>simp[or_imp,forall_and,L1,aW]
     ·by_cases hi0:i=0
      ·subst hi0;rw[h,Bool.false_or,decide_eq_false (by simp),Bool.false_and]at hok;refine wx ?_;simp -implicitDefEqProofs -dsimp[hb,hx1,hx2,h1,h2,h3,h4,h5];refine hQ _ _ _ ?_;simp -implicitDefEqProofs -dsimp[];exact⟨_,hb,hok⟩
      ·rw[h,Bool.false_or,decide_eq_true hi0,Bool.true_and,decide_eq_false (show ¬c≤57 by omega),Bool.and_false]at hok;refine wx ?_;simp -implicitDefEqProofs -dsimp[hb,hx1,hx2,h1,h2,h3,h4,h5,hi0,show ¬c<48 by omega,show 57<c by omega];refine hQ _ _ _ ?_;simp -implicitDefEqProofs -dsimp[];exact⟨_,hb,hok⟩
     ·rw[h,Bool.true_or]at hok;refine wx ?_;simp -implicitDefEqProofs -dsimp[hb,hx1,hx2,h1,h2,h3,aJ i (by unfold maxLen at hsz;omega)];refine hN (i+1) _ _ ⟨by omega,dV hall hok⟩ (by omega) ?_ ⟨[],?_⟩ ?_ ?_<;>simp[or_imp,forall_and,L1,aW]
     ·rw[h,Bool.true_or]at hok;refine wx ?_;simp -implicitDefEqProofs -dsimp[hb,hx1,hx2,h1,h2,h3,h4,aJ i (by unfold maxLen at hsz;omega)];refine hN (i+1) _ _ ⟨by omega,dV hall hok⟩ (by omega) ?_ ⟨[],?_⟩ ?_ ?_<;>simp[or_imp,forall_and,L1,aW]
     ·by_cases hi0:i=0
      ·subst hi0;rw[h,Bool.false_or,decide_eq_false (by simp),Bool.false_and]at hok;refine wx ?_;simp -implicitDefEqProofs -dsimp[hb,hx1,hx2,h1,h2,h3,h4];refine hQ _ _ _ ?_;simp -implicitDefEqProofs -dsimp[];exact⟨_,hb,hok⟩
      ·rw[h,Bool.false_or,decide_eq_true hi0,Bool.true_and,decide_eq_false (show ¬c≤57 by omega),Bool.and_false]at hok;refine wx ?_;simp -implicitDefEqProofs -dsimp[hb,hx1,hx2,h1,h2,h3,h4,hi0,show ¬c<48 by omega,show 57<c by omega];refine hQ _ _ _ ?_;simp -implicitDefEqProofs -dsimp[];exact⟨_,hb,hok⟩
     ·by_cases hi0:i=0
      ·subst hi0;rw[h,Bool.false_or,decide_eq_false (by simp),Bool.false_and]at hok;refine wx ?_;simp -implicitDefEqProofs -dsimp[hb,hx1,hx2,h1,h2,h3];refine hQ _ _ _ ?_;simp -implicitDefEqProofs -dsimp[];exact⟨_,hb,hok⟩
      ·by_cases h48:c<48
       ·rw[h,Bool.false_or,decide_eq_false (show ¬48≤c by omega),Bool.false_and,Bool.and_false]at hok;refine wx ?_;simp -implicitDefEqProofs -dsimp[hb,hx1,hx2,h1,h2,h3,hi0,h48];refine hQ _ _ _ ?_;simp -implicitDefEqProofs -dsimp[];exact⟨_,hb,hok⟩
       ·by_cases h57:57<c
        ·rw[h,Bool.false_or,decide_eq_true hi0,Bool.true_and,decide_eq_false (show ¬c≤57 by omega),Bool.and_false]at hok;refine wx ?_;simp -implicitDefEqProofs -dsimp[hb,hx1,hx2,h1,h2,h3,hi0,h48,h57];refine hQ _ _ _ ?_;simp -implicitDefEqProofs -dsimp[];exact⟨_,hb,hok⟩
        ·rw[h,Bool.false_or,decide_eq_true hi0,Bool.true_and,decide_eq_true (show c≤57 by omega),decide_eq_true (show 48≤c by omega),Bool.and_true]at hok;refine wx ?_;simp -implicitDefEqProofs -dsimp[hb,hx1,hx2,h1,h2,h3,hi0,h48,h57,aJ i (by unfold maxLen at hsz;omega)];refine hN (i+1) _ _ ⟨by omega,dV hall hok⟩ (by omega) ?_ ⟨[],?_⟩ ?_ ?_<;>simp[or_imp,forall_and,L1,aW]
    ·obtain rfl:i=s.size:=by omega
     refine wx ?_;simp -implicitDefEqProofs -dsimp[hb];refine hQ _ _ _ ?_;simp -implicitDefEqProofs -dsimp[];simpa using hall
   ·rw[show bt s=false by simp[bt,hnl]];refine aC (aD tok Tryz.func116 rfl rfl ?_);refine wx ?_;simp -implicitDefEqProofs -dsimp[Tryz.f116,List.replicate,h0,hnl,show ¬(24:Int)<s.size by omega]
  ·rw[show bt s=false by simp[bt,h24]];refine aC (aD tok Tryz.func116 rfl rfl ?_);refine wx ?_;simp -implicitDefEqProofs -dsimp[Tryz.f116,List.replicate,h0,show(24:Int)<s.size by omega]
theorem pc(s:ByteArray)(hsz:s.size≤maxLen):aR Tryz.prog 126 [.str s] fun r=>r = .bool (bt s):=by
 by_cases h0:s.toList=[]
 ·rw[show bt s=false by simp[bt,h0]];have h00:=(ba_nil s).1 h0;refine aC (aD tok Tryz.func126 rfl rfl ?_);refine wx ?_;simp -implicitDefEqProofs -dsimp[Tryz.f126,List.replicate,h00]
 ·have h00:¬s.size=0:=fun h=>h0 ((ba_nil s).2 h)
  have hpos:0<s.size:=by omega
  obtain⟨hx1,hx2⟩:=iX hpos;have hl0:=pk (bj s 0);rw[←hx2]at hl0;by_cases h24:s.size≤24
  ·cases hlt:dJ (bj s 0)
   ·have hok0:okAt s 0=false:=by unfold okAt;rw[hlt];simp
    rw[show bt s=false by unfold bt;rw[allno hpos hok0,Bool.and_false]];rw[hx2,hlt]at hl0;rw[←hx2]at hl0;refine aC (aD tok Tryz.func126 rfl rfl ?_);refine wx ?_;simp -implicitDefEqProofs -dsimp[Tryz.f126,List.replicate,h00,show ¬(24:Int)<s.size by omega,hx1];refine(aF (hl0) (by simp)).mono ?_;rintro r H' ⟨rfl,rfl⟩;simp -implicitDefEqProofs -dsimp[]
   ·rw[hx2,hlt]at hl0;rw[←hx2]at hl0;cases hnl:(s.toList == [110,117,108,108])
    ·rw[show bt s=(List.range s.size).all (okAt s) by simp[bt,h0,h24,hnl]];refine aC (aD tok Tryz.func126 rfl rfl ?_);refine wx ?_;simp -implicitDefEqProofs -dsimp[Tryz.f126,List.replicate,h00,show ¬(24:Int)<s.size by omega,hx1];refine(aF (hl0) (by simp)).mono ?_;rintro r H' ⟨rfl,rfl⟩;simp -implicitDefEqProofs -dsimp[hnl];refine aK (W_loopM 45 [2,3,22,23,24,25,26,27,28,29,30,31,32,33,34,35,36,37,38,39,40,41,42,43,44] (by simp[mB]<;>rfl) (σ:=Nat) (fun i=>i≤s.size∧(List.range i).all (okAt s)=true) (fun i=>s.size-i) (fun i=>[(3,.int .i64 i)]) (fun _=>[]) 0 ⟨by omega,rfl⟩ (by simp) rfl (by simp) ?_);rintro i ⟨hi,hall⟩ N Q hN hQ;by_cases hb:i<s.size
     ·obtain⟨hy1,hy2⟩:=iX hb;have hok:okAt s i=(dJ (bj s i)||(decide (i≠0)&&(decide (48≤bj s i)&&decide (bj s i≤57)))):=rfl;obtain⟨c,hc⟩:∃c,c=bj s i:=⟨_,rfl⟩;rw[←hc]at hy2 hok;have hlc:=pk c;cases h:dJ c
      ·have hi0:¬i=0:=fun e=>by subst e;rw[←hc]at hlt;rw[hlt]at h;cases h
       rw[h]at hlc;rw[h,Bool.false_or,decide_eq_true hi0,Bool.true_and]at hok;by_cases h48:c<48
       ·rw[decide_eq_false (show ¬48≤c by omega),Bool.false_and]at hok;refine wx ?_;simp -implicitDefEqProofs -dsimp[hb,hy1,hy2];refine(aF (hlc) (by simp)).mono ?_;rintro r H' ⟨rfl,rfl⟩;simp -implicitDefEqProofs -dsimp[hb,hy1,hy2,h48];refine hQ _ _ _ ?_;simp -implicitDefEqProofs -dsimp[];exact⟨_,hb,hok⟩
       ·by_cases h57:57<c
        ·rw[decide_eq_false (show ¬c≤57 by omega),Bool.and_false]at hok;refine wx ?_;simp -implicitDefEqProofs -dsimp[hb,hy1,hy2];refine(aF (hlc) (by simp)).mono ?_;rintro r H' ⟨rfl,rfl⟩;simp -implicitDefEqProofs -dsimp[hb,hy1,hy2,h48,h57];refine hQ _ _ _ ?_;simp -implicitDefEqProofs -dsimp[];exact⟨_,hb,hok⟩
        ·rw[decide_eq_true (show c≤57 by omega),decide_eq_true (show 48≤c by omega),Bool.and_true]at hok;refine wx ?_;simp -implicitDefEqProofs -dsimp[hb,hy1,hy2];refine(aF (hlc) (by simp)).mono ?_;rintro r H' ⟨rfl,rfl⟩;simp -implicitDefEqProofs -dsimp[hb,hy1,hy2,h48,h57,aJ i (by unfold maxLen at hsz;omega)];refine hN (i+1) _ _ ⟨by omega,dV hall hok⟩ (by omega) ?_ ⟨[],?_⟩ ?_ ?_<;>simp[or_imp,forall_and,L1,aW]
      ·rw[h]at hlc;rw[h,Bool.true_or]at hok;refine wx ?_;simp -implicitDefEqProofs -dsimp[hb,hy1,hy2];refine(aF (hlc) (by simp)).mono ?_;rintro r H' ⟨rfl,rfl⟩;simp -implicitDefEqProofs -dsimp[aJ i (by unfold maxLen at hsz;omega)];refine hN (i+1) _ _ ⟨by omega,dV hall hok⟩ (by omega) ?_ ⟨[],?_⟩ ?_ ?_<;>simp[or_imp,forall_and,L1,aW]
     ·obtain rfl:i=s.size:=by omega
      refine wx ?_;simp -implicitDefEqProofs -dsimp[hb];refine hQ _ _ _ ?_;simp -implicitDefEqProofs -dsimp[];simpa using hall
    ·rw[show bt s=false by simp[bt,hnl]];refine aC (aD tok Tryz.func126 rfl rfl ?_);refine wx ?_;simp -implicitDefEqProofs -dsimp[Tryz.f126,List.replicate,h00,show ¬(24:Int)<s.size by omega,hx1];refine(aF (hl0) (by simp)).mono ?_;rintro r H' ⟨rfl,rfl⟩;simp -implicitDefEqProofs -dsimp[hnl]
  ·rw[show bt s=false by simp[bt,h24]];refine aC (aD tok Tryz.func126 rfl rfl ?_);refine wx ?_;simp -implicitDefEqProofs -dsimp[Tryz.f126,List.replicate,h00,show(24:Int)<s.size by omega]
def LS(f:Bool)(ss:List ByteArray):V:=.lst 1 f (ss.map V.str)
@[simp] theorem LS_pure (f:Bool) (ss:List ByteArray):AM.Pure (LS f ss):=by simp[LS]
@[simp] theorem pure_takeS (i:Nat) (ss:List ByteArray):(∀x,x∈List.take i (List.map V.str ss)→AM.Pure x)↔True:=iff_true_intro fun x hx=>by
 obtain⟨s,_,rfl⟩:=List.mem_map.1 (List.mem_of_mem_take hx);exact .str s
def ixS(ss:List ByteArray)(x:ByteArray)(i:Nat):Int:=if h:i<ss.length then(if(x.toList == ss[i].toList)=true then(i:Int) else ixS ss x (i+1)) else -1
termination_by ss.length-i
def memS(ss:List ByteArray)(x:ByteArray):Bool:=ss.any fun e=>x.toList == e.toList
theorem ixS_mem(ss:List ByteArray)(x:ByteArray)(i:Nat):decide (0≤ixS ss x i)=memS (ss.drop i) x:=by
 unfold memS
 fun_induction ixS ss x i with
 | case1 i h h0=>rw[List.drop_eq_getElem_cons h,List.any_cons,h0];simp
 | case2 i h h0 ih=>rw[List.drop_eq_getElem_cons h,List.any_cons,ih];simp[h0]
 | case3 i h=>rw[List.drop_of_length_le (by omega)];rfl
theorem indexS(ss:List ByteArray)(x:ByteArray)(f:Bool)(hl:ss.length≤1000000):aR Tryz.prog 165 [LS f ss,.str x] fun r=>r = .int .i64 (ixS ss x 0):=by
 refine aC (aD tok Tryz.func165 rfl rfl ?_);refine wx ?_;simp -implicitDefEqProofs -dsimp[Tryz.f165,List.replicate,LS];refine aK (W_loopM 19 [4,5,8,9,10,11,12,13,14,15,16,17,18] (by simp[mB]<;>rfl) (σ:=Nat) (fun i=>ixS ss x i=ixS ss x 0) (fun i=>ss.length-i) (fun i=>[(8,.int .i64 i)]) (fun _=>[]) 0 rfl (by simp) rfl (by simp) ?_);intro i hx N Q hN hQ;by_cases hb:i<ss.length
 ·rw[ixS,dif_pos hb]at hx;cases hq:(x.toList == ss[i].toList)
  ·rw[hq,if_neg (by simp)]at hx;refine wx ?_;simp -implicitDefEqProofs -dsimp[hb,hq];simp -implicitDefEqProofs -dsimp[aJ i (by omega)];refine hN (i+1) _ _ hx (by omega) (by simp) ⟨[],rfl⟩ (by simp) (by simp)
  ·rw[hq,if_pos rfl]at hx;refine wx ?_;simp -implicitDefEqProofs -dsimp[hb,hq];refine hQ _ _ _ ?_;simp -implicitDefEqProofs -dsimp[];exact hx
 ·rw[ixS,dif_neg hb]at hx;refine wx ?_;simp -implicitDefEqProofs -dsimp[hb];refine hQ _ _ _ ?_;simp -implicitDefEqProofs -dsimp[];exact hx
theorem containsS(ss:List ByteArray)(x:ByteArray)(f:Bool)(hl:ss.length≤1000000):aR Tryz.prog 117 [LS f ss,.str x] fun r=>r = .bool (memS ss x):=by
 have h0:=ixS_mem ss x 0;rw[List.drop_zero]at h0;refine aC (aD tok Tryz.func117 rfl rfl ?_);refine wx ?_;simp -implicitDefEqProofs -dsimp[Tryz.f117,List.replicate];refine(aF (indexS ss x f hl) (by simp)).mono ?_;rintro r H' ⟨rfl,rfl⟩;simp -implicitDefEqProofs -dsimp[];rw[←h0]
theorem beq_comm'(a b:List UInt8):(a == b)=(b == a):=by rw[Bool.eq_iff_iff,beq_iff_eq,beq_iff_eq];exact eq_comm
theorem attrS(ss:List ByteArray)(x:ByteArray)(f:Bool)(hl:ss.length≤1000000):aR Tryz.prog 173 [LS f ss,.str x] fun r=>r = .int .i64 (ixS ss x 0):=by
 refine aC (aD tok Tryz.func173 rfl rfl ?_);refine wx ?_;simp -implicitDefEqProofs -dsimp[Tryz.f173,List.replicate,LS];refine aK (W_loopM 19 [4,5,6,7,8,9,10,11,12,13,14,15,16,17,18] (by simp[mB]<;>rfl) (σ:=Nat) (fun i=>ixS ss x i=ixS ss x 0) (fun i=>ss.length-i) (fun i=>[(5,.int .i64 i)]) (fun _=>[]) 0 rfl (by simp) rfl (by simp) ?_);intro i hx N Q hN hQ;by_cases hb:i<ss.length
 ·rw[ixS,dif_pos hb,beq_comm']at hx;cases hq:(ss[i].toList == x.toList)
  ·rw[hq,if_neg (by simp)]at hx;refine wx ?_;simp -implicitDefEqProofs -dsimp[hb,hq];simp -implicitDefEqProofs -dsimp[aJ i (by omega)];refine hN (i+1) _ _ hx (by omega) (by simp) ⟨[],rfl⟩ (by simp) (by simp)
  ·rw[hq,if_pos rfl]at hx;refine wx ?_;simp -implicitDefEqProofs -dsimp[hb,hq];refine hQ _ _ _ ?_;simp -implicitDefEqProofs -dsimp[];exact hx
 ·rw[ixS,dif_neg hb]at hx;refine wx ?_;simp -implicitDefEqProofs -dsimp[hb];refine hQ _ _ _ ?_;simp -implicitDefEqProofs -dsimp[];exact hx
def sAt(ss:List ByteArray)(i:Nat):ByteArray:=ss.getD i ByteArray.empty
def nmAt(ss:List ByteArray)(i:Nat):Bool:=bt (sAt ss i)&&!memS (ss.take i) (sAt ss i)
def gp(ss:List ByteArray):Bool:=(List.range ss.length).all (nmAt ss)
theorem names03(ss:List ByteArray)(f:Bool)(hl:ss.length≤1000000)(hs:∀s∈ss,s.size≤maxLen):aR Tryz.prog 127 [LS f ss] fun r=>r = .bool (gp ss):=by
 unfold gp;refine aC (aD tok Tryz.func127 rfl rfl ?_);refine wx ?_;simp -implicitDefEqProofs -dsimp[Tryz.f127,List.replicate,LS];refine aK (W_loopM 27 [2,3,4,5,6,7,8,9,10,11,12,13,14,15,16,17,18,19,20,21,22,23,24,25,26] (by simp[mB]<;>rfl) (σ:=Nat) (fun i=>i≤ss.length∧(List.range i).all (nmAt ss)=true) (fun i=>ss.length-i) (fun i=>[(3,.int .i64 i)]) (fun _=>[]) 0 ⟨by omega,rfl⟩ (by simp) rfl (by simp) ?_);rintro i ⟨hi,hall⟩ N Q hN hQ;by_cases hb:i<ss.length
 ·have hsi:sAt ss i=ss[i]:=by simp[sAt,hb]
  have hok:nmAt ss i=(bt ss[i]&&!memS (ss.take i) ss[i]):=by unfold nmAt;rw[hsi]
  have hc1:=pc ss[i] (hs _ (List.getElem_mem hb));have hc2:=attrS (ss.take i) ss[i] (f&&i == ss.length) (by simp;omega);have hm:=ixS_mem (ss.take i) ss[i] 0;rw[List.drop_zero]at hm;simp only[LS,List.map_take]at hc2;cases h1:bt ss[i]
  ·rw[h1,Bool.false_and]at hok;rw[h1]at hc1;refine wx ?_;simp -implicitDefEqProofs -dsimp[hb];refine .inr ⟨aI (by kernel_rfl),?_⟩;refine ae _ (aF (hc1) (by simp)) ?_;simp -implicitDefEqProofs -dsimp[];refine hQ _ _ _ ?_;simp -implicitDefEqProofs -dsimp[];exact⟨_,hb,hok⟩
  ·rw[h1,Bool.true_and]at hok;rw[h1]at hc1;cases h2:memS (ss.take i) ss[i]
   ·rw[h2]at hok hm;have hneg:=of_decide_eq_false hm;refine wx ?_;simp -implicitDefEqProofs -dsimp[hb];refine .inr ⟨aI (by kernel_rfl),?_⟩;refine ae _ (aF (hc1) (by simp)) ?_;simp -implicitDefEqProofs -dsimp[hb,show i≤ss.length by omega];refine ae _ (aF (hc2) (by simp)) ?_;simp -implicitDefEqProofs -dsimp[show ¬0≤ixS (ss.take i) ss[i] 0 by omega,aJ i (by omega)];refine hN (i+1) _ _ ⟨by omega,dV hall (by rw[hok];rfl)⟩ (by omega) ?_ ⟨[],?_⟩ ?_ ?_<;>simp[or_imp,forall_and,L1,aW]
   ·rw[h2]at hok hm;have hneg:=of_decide_eq_true hm;refine wx ?_;simp -implicitDefEqProofs -dsimp[hb];refine .inr ⟨aI (by kernel_rfl),?_⟩;refine ae _ (aF (hc1) (by simp)) ?_;simp -implicitDefEqProofs -dsimp[hb,show i≤ss.length by omega];refine ae _ (aF (hc2) (by simp)) ?_;simp -implicitDefEqProofs -dsimp[hneg];refine hQ _ _ _ ?_;simp -implicitDefEqProofs -dsimp[];exact⟨_,hb,hok⟩
 ·obtain rfl:i=ss.length:=by omega
  refine wx ?_;simp -implicitDefEqProofs -dsimp[hb];refine hQ _ _ _ ?_;simp -implicitDefEqProofs -dsimp[];simpa using hall
structure Vl where
 k:Int
 n:Int
 s:ByteArray
def ap(v:Vl):V:=.agg [.int .i64 v.k,.int .i64 v.n,.str v.s]
def LV(f:Bool)(vs:List Vl):V:=.lst 3 f (vs.map ap)
@[simp] theorem encV_pure (v:Vl):AM.Pure (ap v):=by simp[ap]
@[simp] theorem LV_pure (f:Bool) (vs:List Vl):AM.Pure (LV f vs):=by simp[LV]
@[simp] theorem encV_oneV (v:Vl):dm (ap v)=true:=rfl
def bV(v:Vl):Bool :=
 if v.k=0 then decide (v.n=0)&&v.s.toList.isEmpty else if v.k=1 then v.s.toList.isEmpty else
 if v.k=2 then decide (v.n=0)&&decide (v.s.size≤200) else decide (v.k=3)&&(decide (1≤v.n)&&v.s.toList.isEmpty)
theorem valid01(v:Vl):aR Tryz.prog 93 [ap v] fun r=>r = .bool (bV v):=by
 unfold bV;by_cases h0:v.k=0
 ·by_cases hn:v.n=0
  ·rw[if_pos h0,decide_eq_true hn,Bool.true_and];refine aC (aD tok Tryz.func93 rfl rfl ?_);refine wx ?_;simp -implicitDefEqProofs -dsimp[Tryz.f93,List.replicate,ap,h0,hn]
  ·rw[if_pos h0,decide_eq_false hn,Bool.false_and];refine aC (aD tok Tryz.func93 rfl rfl ?_);refine wx ?_;simp -implicitDefEqProofs -dsimp[Tryz.f93,List.replicate,ap,h0,hn]
 ·rw[if_neg h0];by_cases h1:v.k=1
  ·rw[if_pos h1];refine aC (aD tok Tryz.func93 rfl rfl ?_);refine wx ?_;simp -implicitDefEqProofs -dsimp[Tryz.f93,List.replicate,ap,h1]
  ·rw[if_neg h1];by_cases h2:v.k=2
   ·rw[if_pos h2];by_cases hn:v.n=0
    ·rw[decide_eq_true hn,Bool.true_and];by_cases hz:v.s.size≤200
     ·rw[decide_eq_true hz];refine aC (aD tok Tryz.func93 rfl rfl ?_);refine wx ?_;simp -implicitDefEqProofs -dsimp[Tryz.f93,List.replicate,ap,h2,hn,show(v.s.size:Int)≤200 by omega]
     ·rw[decide_eq_false hz];refine aC (aD tok Tryz.func93 rfl rfl ?_);refine wx ?_;simp -implicitDefEqProofs -dsimp[Tryz.f93,List.replicate,ap,h2,hn,show ¬(v.s.size:Int)≤200 by omega]
    ·rw[decide_eq_false hn,Bool.false_and];refine aC (aD tok Tryz.func93 rfl rfl ?_);refine wx ?_;simp -implicitDefEqProofs -dsimp[Tryz.f93,List.replicate,ap,h2,hn]
   ·rw[if_neg h2];by_cases h3:v.k=3
    ·rw[decide_eq_true h3,Bool.true_and];by_cases hn:1≤v.n
     ·rw[decide_eq_true hn,Bool.true_and];refine aC (aD tok Tryz.func93 rfl rfl ?_);refine wx ?_;simp -implicitDefEqProofs -dsimp[Tryz.f93,List.replicate,ap,h3,hn]
     ·rw[decide_eq_false hn,Bool.false_and];refine aC (aD tok Tryz.func93 rfl rfl ?_);refine wx ?_;simp -implicitDefEqProofs -dsimp[Tryz.f93,List.replicate,ap,h3,hn]
    ·rw[decide_eq_false h3,Bool.false_and];refine aC (aD tok Tryz.func93 rfl rfl ?_);refine wx ?_;simp -implicitDefEqProofs -dsimp[Tryz.f93,List.replicate,ap,h0,h1,h2,h3]
theorem validV_con(v:Vl):aR Tryz.prog 168 [ap v] fun r=>r = .bool (bV v):=by
 unfold bV;by_cases h0:v.k=0
 ·by_cases hn:v.n=0
  ·rw[if_pos h0,decide_eq_true hn,Bool.true_and];refine aC (aD tok Tryz.func168 rfl rfl ?_);refine wx ?_;simp -implicitDefEqProofs -dsimp[Tryz.f168,List.replicate,ap,h0,hn]
  ·rw[if_pos h0,decide_eq_false hn,Bool.false_and];refine aC (aD tok Tryz.func168 rfl rfl ?_);refine wx ?_;simp -implicitDefEqProofs -dsimp[Tryz.f168,List.replicate,ap,h0,hn]
 ·rw[if_neg h0];by_cases h1:v.k=1
  ·rw[if_pos h1];refine aC (aD tok Tryz.func168 rfl rfl ?_);refine wx ?_;simp -implicitDefEqProofs -dsimp[Tryz.f168,List.replicate,ap,h1]
  ·rw[if_neg h1];by_cases h2:v.k=2
   ·rw[if_pos h2];by_cases hn:v.n=0
    ·rw[decide_eq_true hn,Bool.true_and];by_cases hz:v.s.size≤200
     ·rw[decide_eq_true hz];refine aC (aD tok Tryz.func168 rfl rfl ?_);refine wx ?_;simp -implicitDefEqProofs -dsimp[Tryz.f168,List.replicate,ap,h2,hn,show(v.s.size:Int)≤200 by omega]
     ·rw[decide_eq_false hz];refine aC (aD tok Tryz.func168 rfl rfl ?_);refine wx ?_;simp -implicitDefEqProofs -dsimp[Tryz.f168,List.replicate,ap,h2,hn,show ¬(v.s.size:Int)≤200 by omega]
    ·rw[decide_eq_false hn,Bool.false_and];refine aC (aD tok Tryz.func168 rfl rfl ?_);refine wx ?_;simp -implicitDefEqProofs -dsimp[Tryz.f168,List.replicate,ap,h2,hn]
   ·rw[if_neg h2];by_cases h3:v.k=3
    ·rw[decide_eq_true h3,Bool.true_and];by_cases hn:1≤v.n
     ·rw[decide_eq_true hn,Bool.true_and];refine aC (aD tok Tryz.func168 rfl rfl ?_);refine wx ?_;simp -implicitDefEqProofs -dsimp[Tryz.f168,List.replicate,ap,h3,hn]
     ·rw[decide_eq_false hn,Bool.false_and];refine aC (aD tok Tryz.func168 rfl rfl ?_);refine wx ?_;simp -implicitDefEqProofs -dsimp[Tryz.f168,List.replicate,ap,h3,hn]
    ·rw[decide_eq_false h3,Bool.false_and];refine aC (aD tok Tryz.func168 rfl rfl ?_);refine wx ?_;simp -implicitDefEqProofs -dsimp[Tryz.f168,List.replicate,ap,h0,h1,h2,h3]
theorem any_drop(p:Vl→Bool)(vs:List Vl)(i:Nat)(h:i<vs.length):(vs.drop i).all p=(p vs[i]&&(vs.drop (i+1)).all p):=by rw[List.drop_eq_getElem_cons h];rfl
theorem valids01(vs:List Vl)(f:Bool)(hl:vs.length≤1000000):aR Tryz.prog 128 [LV f vs] fun r=>r = .bool (vs.all bV):=by
 obtain⟨E,hE⟩:∃E,E=vs.all bV:=⟨_,rfl⟩;rw[←hE];refine aC (aD tok Tryz.func128 rfl rfl ?_);refine wx ?_;simp -implicitDefEqProofs -dsimp[Tryz.f128,List.replicate,LV];refine aK (W_loopM 16 [2,3,4,5,6,7,8,9,10,11,12,13,14,15] (by simp[mB]<;>rfl) (σ:=Nat) (fun i=>(vs.drop i).all bV=E) (fun i=>vs.length-i) (fun i=>[(3,.int .i64 i)]) (fun _=>[]) 0 (by rw[List.drop_zero,hE]) (by simp) rfl (by simp) ?_);rintro i hx N Q hN hQ;by_cases hb:i<vs.length
 ·rw[any_drop _ _ _ hb]at hx;have hc:=valid01 vs[i];cases h1:bV vs[i]
  ·rw[h1]at hc;rw[h1,Bool.false_and]at hx;refine wx ?_;simp -implicitDefEqProofs -dsimp[hb];refine(aF (hc) (by simp)).mono ?_;rintro r H' ⟨rfl,rfl⟩;simp -implicitDefEqProofs -dsimp[];refine hQ _ _ _ ?_;simp -implicitDefEqProofs -dsimp[];simpa using hx
  ·rw[h1]at hc;rw[h1,Bool.true_and]at hx;refine wx ?_;simp -implicitDefEqProofs -dsimp[hb];refine(aF (hc) (by simp)).mono ?_;rintro r H' ⟨rfl,rfl⟩;simp -implicitDefEqProofs -dsimp[aJ i (by omega)];refine hN (i+1) _ _ hx (by omega) (by simp) ⟨[],rfl⟩ (by simp) (by simp)
 ·rw[List.drop_of_length_le (by omega)]at hx;refine wx ?_;simp -implicitDefEqProofs -dsimp[hb];refine hQ _ _ _ ?_;simp -implicitDefEqProofs -dsimp[];simpa using hx
def ixV(p:Vl→Bool)(vs:List Vl)(i:Nat):Int:=if h:i<vs.length then(if p vs[i] then(i:Int) else ixV p vs (i+1)) else -1
termination_by vs.length-i
theorem ixV_any(p:Vl→Bool)(vs:List Vl)(i:Nat):decide (0≤ixV p vs i)=(vs.drop i).any p:=by
 fun_induction ixV p vs i with
 | case1 i h h0=>rw[List.drop_eq_getElem_cons h,List.any_cons,h0];simp
 | case2 i h h0 ih=>rw[List.drop_eq_getElem_cons h,List.any_cons,ih];simp[h0]
 | case3 i h=>rw[List.drop_of_length_le (by omega)];rfl
theorem idxFuncV(H:List B)(fv:V)(p:Vl→Bool)(vs:List Vl)(g:Bool)(hes:vs.length≤1000000)(hH:∀bl∈H,rbB H.length bl)(hfv:rb H.length fv)
  (hp:∀m∈vs,aT Tryz.prog fv [ap m] H fun r H'=>r = .bool (p m)∧H'=H):bA Tryz.prog 198 [LV g vs,fv] H fun r H'=>r = .int .i64 (ixV p vs 0)∧H'=H:=by
 refine aD tok Tryz.func198 rfl rfl ?_;refine wx ?_;simp -implicitDefEqProofs -dsimp[Tryz.f198,List.replicate,LV];refine aK (W_loopM 19 [4,5,8,9,10,11,12,13,14,15,16,17,18] (by simp[mB]<;>rfl) (σ:=Nat) (fun i=>ixV p vs i=ixV p vs 0) (fun i=>vs.length-i) (fun i=>[(8,.int .i64 i)]) (fun _=>H) 0 rfl (by simp) rfl (by simp) ?_);intro i hx N Q hN hQ;by_cases hb:i<vs.length
 ·rw[ixV,dif_pos hb]at hx;have hc:=hp vs[i] (List.getElem_mem hb);cases hq:p vs[i]
  ·rw[hq]at hc hx;refine wx ?_;simp -implicitDefEqProofs -dsimp[hb];refine hc.mono ?_;rintro r H' ⟨rfl,rfl⟩;simp -implicitDefEqProofs -dsimp[aJ i (by omega)];refine hN (i+1) _ _ (by simpa using hx) (by omega) (by simp) ⟨[],by simp⟩ (by simp;exact hfv) hH
  ·rw[hq]at hc hx;refine wx ?_;simp -implicitDefEqProofs -dsimp[hb];refine hc.mono ?_;rintro r H' ⟨rfl,rfl⟩;simp -implicitDefEqProofs -dsimp[];refine hQ _ _ _ ?_;simp -implicitDefEqProofs -dsimp[];simpa using hx
 ·rw[ixV,dif_neg hb]at hx;refine wx ?_;simp -implicitDefEqProofs -dsimp[hb];refine hQ _ _ _ ?_;simp -implicitDefEqProofs -dsimp[];simpa using hx
theorem contFuncV(H:List B)(fv:V)(p:Vl→Bool)(vs:List Vl)(g:Bool)(hes:vs.length≤1000000)(hH:∀bl∈H,rbB H.length bl)(hfv:rb H.length fv)
  (hp:∀m∈vs,aT Tryz.prog fv [ap m] H fun r H'=>r = .bool (p m)∧H'=H):bA Tryz.prog 166 [LV g vs,fv] H fun r H'=>r = .bool (vs.any p)∧H'=H:=by
 have h0:=ixV_any p vs 0;rw[List.drop_zero]at h0;have hc:=idxFuncV H fv p vs g hes hH hfv hp;refine aD tok Tryz.func166 rfl rfl ?_;refine wx ?_;simp -implicitDefEqProofs -dsimp[Tryz.f166,List.replicate];refine aT.mono (K:=fun r H'=>r = .int .i64 (ixV p vs 0)∧H'=H) hc ?_;rintro r H' ⟨rfl,rfl⟩;simp -implicitDefEqProofs -dsimp[];rw[←h0]
theorem notValid(v:Vl):aR Tryz.prog 167 [ap v] fun r=>r = .bool (!bV v):=by
 have hc:=validV_con v;simp only[ap]at hc;refine aC (aD tok Tryz.func167 rfl rfl ?_);refine wx ?_;simp -implicitDefEqProofs -dsimp[Tryz.f167,List.replicate,ap];refine(aF (hc) (by simp)).mono ?_;rintro r H' ⟨rfl,rfl⟩;simp -implicitDefEqProofs -dsimp[]
theorem validVals(vs:List Vl)(f:Bool)(hl:vs.length≤1000000):aR Tryz.prog 118 [LV f vs] fun r=>r = .bool (vs.all bV):=by
 have hc:=contFuncV [] (.fn 167 []) (fun v=>!bV v) vs f hl (by simp) (by simp) (fun m _=>aF (notValid m) (by simp))
 have he:vs.all bV = !vs.any fun v=>!bV v:=by
  induction vs with
  | nil=>rfl
  | cons v vs ih=>simp only[List.all_cons,List.any_cons,Bool.not_or,Bool.not_not];rw[ih (by simp at hl;omega) (contFuncV [] (.fn 167 []) (fun v=>!bV v) vs f (by simp at hl;omega) (by simp) (by simp) (fun m _=>aF (notValid m) (by simp)))]
 rw[he];refine aC (aD tok Tryz.func118 rfl rfl ?_);refine wx ?_;simp -implicitDefEqProofs -dsimp[Tryz.f118,List.replicate];refine aT.mono (K:=fun r H'=>r = .bool (vs.any fun v=>!bV v)∧H'=[]) hc ?_;rintro r H' ⟨rfl,rfl⟩;simp -implicitDefEqProofs -dsimp[]
structure Rw where
 id:Int
 vals:List Vl
structure Tb where
 name:ByteArray
 attrs:List ByteArray
 rows:List Rw
def aL(r:Rw):V:=.agg [.int .i64 r.id,LV false r.vals]
def LR(g:Bool)(rs:List Rw):V:=.lst 2 g (rs.map aL)
def aG(f g:Bool)(t:Tb):V:=.agg [.str t.name,LS f t.attrs,LR g t.rows]
@[simp] theorem encRw_pure (r:Rw):AM.Pure (aL r):=by simp[aL]
@[simp] theorem LR_pure (g:Bool) (rs:List Rw):AM.Pure (LR g rs):=by simp[LR]
@[simp] theorem encTb_pure (f g:Bool) (t:Tb):AM.Pure (aG f g t):=by simp[aG]
@[simp] theorem encRw_oneV (r:Rw):dm (aL r)=true:=rfl
def dt(n:Nat):Int→List Rw→Int
 | _,[]=>0
 | last,r::rs=>if r.id≤last then 1 else if r.vals.length≠n then 6 else if r.vals.all bV then dt n r.id rs else 1
def validT(t:Tb):Int:=if bt t.name then(if 16<t.attrs.length∨1000<t.rows.length then 3 else if gp t.attrs then dt t.attrs.length 0 t.rows else 1) else 1
structure TbOk (t:Tb):Prop where
 name:t.name.size≤maxLen
 attrs:t.attrs.length≤1000000
 rows:t.rows.length≤1000000
 strs:∀s∈t.attrs,s.size≤maxLen
theorem valid03(t:Tb)(f g:Bool)(h:TbOk t):aR Tryz.prog 84 [aG f g t] fun r=>r = .int .i64 (validT t):=by
 obtain⟨hn,ha,hr,hs⟩:=h;have hc1:=pc t.name hn;cases h1:bt t.name
 ·rw[h1]at hc1;rw[show validT t=1 by simp[validT,h1]];refine aC (aD tok Tryz.func84 rfl rfl ?_);refine wx ?_;simp -implicitDefEqProofs -dsimp[Tryz.f84,List.replicate,aG,LR,LS];refine(aF (hc1) (by simp)).mono ?_;rintro r H' ⟨rfl,rfl⟩;simp -implicitDefEqProofs -dsimp[]
 ·rw[h1]at hc1;by_cases h2:16<t.attrs.length
  ·rw[show validT t=3 by simp[validT,h1,h2]];refine aC (aD tok Tryz.func84 rfl rfl ?_);refine wx ?_;simp -implicitDefEqProofs -dsimp[Tryz.f84,List.replicate,aG,LR,LS];refine(aF (hc1) (by simp)).mono ?_;rintro r H' ⟨rfl,rfl⟩;simp -implicitDefEqProofs -dsimp[show(16:Int)<t.attrs.length by omega]
  ·by_cases h3:1000<t.rows.length
   ·rw[show validT t=3 by simp[validT,h1,h3]];refine aC (aD tok Tryz.func84 rfl rfl ?_);refine wx ?_;simp -implicitDefEqProofs -dsimp[Tryz.f84,List.replicate,aG,LR,LS];refine(aF (hc1) (by simp)).mono ?_;rintro r H' ⟨rfl,rfl⟩;simp -implicitDefEqProofs -dsimp[show ¬(16:Int)<t.attrs.length by omega,show(1000:Int)<t.rows.length by omega]
   ·have hc2:=names03 t.attrs f ha hs;simp only[LS]at hc2;cases h4:gp t.attrs
    ·rw[h4]at hc2;rw[show validT t=1 by simp[validT,h1,h2,h3,h4]];refine aC (aD tok Tryz.func84 rfl rfl ?_);refine wx ?_;simp -implicitDefEqProofs -dsimp[Tryz.f84,List.replicate,aG,LR,LS];refine(aF (hc1) (by simp)).mono ?_;rintro r H' ⟨rfl,rfl⟩;simp -implicitDefEqProofs -dsimp[show ¬(16:Int)<t.attrs.length by omega,show ¬(1000:Int)<t.rows.length by omega];refine(aF (hc2) (by simp)).mono ?_;rintro r H' ⟨rfl,rfl⟩;simp -implicitDefEqProofs -dsimp[]
    ·rw[h4]at hc2
     have hE:dt t.attrs.length 0 t.rows=validT t:=by simp[validT,h1,h2,h3,h4]
     obtain⟨E,hEe⟩:∃E,E=validT t:=⟨_,rfl⟩;rw[←hEe]at hE ⊢;refine aC (aD tok Tryz.func84 rfl rfl ?_);refine wx ?_;simp -implicitDefEqProofs -dsimp[Tryz.f84,List.replicate,aG,LR,LS];refine(aF (hc1) (by simp)).mono ?_;rintro r H' ⟨rfl,rfl⟩;simp -implicitDefEqProofs -dsimp[show ¬(16:Int)<t.attrs.length by omega,show ¬(1000:Int)<t.rows.length by omega];refine(aF (hc2) (by simp)).mono ?_;rintro r H' ⟨rfl,rfl⟩;simp -implicitDefEqProofs -dsimp[];refine aK (W_loopM 53 [2,3,4,5,24,25,26,27,28,29,30,31,32,33,34,35,36,37,38,39,40,41,42,43,44,45,46,47,48,49,50,51,52] (by simp[mB]<;>rfl) (σ:=Nat×Int) (fun p=>p.1≤t.rows.length∧dt t.attrs.length p.2 (t.rows.drop p.1)=E) (fun p=>t.rows.length-p.1) (fun p=>[(4,.int .i64 p.1),(3,.int .i64 p.2)]) (fun _=>[B.cells [.str t.name,LS f t.attrs,LR g t.rows]]) (0,0) ⟨by simp,hE⟩ (by simp) (by simp[LS,LR]) (by simp) ?_);rintro⟨i,last⟩ ⟨hi,hx⟩ N Q hN hQ;simp only at hi hx hN;by_cases hb:i<t.rows.length
     ·rw[List.drop_eq_getElem_cons hb]at hx;simp only[dt]at hx;by_cases h5:t.rows[i].id≤last
      ·rw[if_pos h5]at hx;refine wx ?_;simp -implicitDefEqProofs -dsimp[hb,LS,LR,aL,h5,LV];refine hQ _ _ _ ?_;simp -implicitDefEqProofs -dsimp[];exact hx
      ·rw[if_neg h5]at hx;by_cases h6:t.rows[i].vals.length=t.attrs.length
       ·rw[if_neg (fun h=>h h6)]at hx;have hc3:=valids01 t.rows[i].vals false (by omega);cases h7:t.rows[i].vals.all bV
        ·rw[h7]at hc3 hx;refine wx ?_;simp -implicitDefEqProofs -dsimp[hb,LS,LR,aL,h5,LV,h6];simp only[LV]at hc3;refine(aF (hc3) (by simp)).mono ?_;rintro r H' ⟨rfl,rfl⟩;simp -implicitDefEqProofs -dsimp[];refine hQ _ _ _ ?_;simp -implicitDefEqProofs -dsimp[];simpa using hx
        ·rw[h7,if_pos rfl]at hx;rw[h7]at hc3;refine wx ?_;simp -implicitDefEqProofs -dsimp[hb,LS,LR,aL,h5,LV,h6];simp only[LV]at hc3;refine(aF (hc3) (by simp)).mono ?_;rintro r H' ⟨rfl,rfl⟩;simp -implicitDefEqProofs -dsimp[aJ i (by omega)];refine hN (i+1,t.rows[i].id) _ _ ⟨by simp;omega,hx⟩ (by omega) ?_ ⟨[B.cells [.int .i64 t.rows[i].id,LV false t.rows[i].vals]],?_⟩ ?_ ?_<;>simp[or_imp,forall_and,L1,aW,LS,LR,LV]
       ·rw[if_pos h6]at hx;refine wx ?_;simp -implicitDefEqProofs -dsimp[hb,LS,LR,aL,h5,LV,show ¬(t.rows[i].vals.length:Int)=t.attrs.length by omega];refine hQ _ _ _ ?_;simp -implicitDefEqProofs -dsimp[];exact hx
     ·rw[List.drop_of_length_le (by omega)]at hx;refine wx ?_;simp -implicitDefEqProofs -dsimp[hb,LS,LR];refine hQ _ _ _ ?_;simp -implicitDefEqProofs -dsimp[];exact hx
theorem oz(t:Tb)(f g:Bool)(h:TbOk t):aR Tryz.prog 72 [aG f g t] fun r=>r = .int .i64 (validT t):=by
 obtain⟨hn,ha,hr,hs⟩:=h;have hc1:=pm t.name hn;cases h1:bt t.name
 ·rw[h1]at hc1;rw[show validT t=1 by simp[validT,h1]];refine aC (aD tok Tryz.func72 rfl rfl ?_);refine wx ?_;simp -implicitDefEqProofs -dsimp[Tryz.f72,List.replicate,aG,LR,LS];refine(aF (hc1) (by simp)).mono ?_;rintro r H' ⟨rfl,rfl⟩;simp -implicitDefEqProofs -dsimp[]
 ·rw[h1]at hc1;by_cases h2:16<t.attrs.length
  ·rw[show validT t=3 by simp[validT,h1,h2]];refine aC (aD tok Tryz.func72 rfl rfl ?_);refine wx ?_;simp -implicitDefEqProofs -dsimp[Tryz.f72,List.replicate,aG,LR,LS];refine(aF (hc1) (by simp)).mono ?_;rintro r H' ⟨rfl,rfl⟩;simp -implicitDefEqProofs -dsimp[show(16:Int)<t.attrs.length by omega]
  ·by_cases h3:1000<t.rows.length
   ·rw[show validT t=3 by simp[validT,h1,h3]];refine aC (aD tok Tryz.func72 rfl rfl ?_);refine wx ?_;simp -implicitDefEqProofs -dsimp[Tryz.f72,List.replicate,aG,LR,LS];refine(aF (hc1) (by simp)).mono ?_;rintro r H' ⟨rfl,rfl⟩;simp -implicitDefEqProofs -dsimp[show ¬(16:Int)<t.attrs.length by omega,show(1000:Int)<t.rows.length by omega]
   ·have hE:(if gp t.attrs then dt t.attrs.length 0 t.rows else 1)=validT t:=by simp[validT,h1,h2,h3]
    obtain⟨E,hEe⟩:∃E,E=validT t:=⟨_,rfl⟩;rw[←hEe]at hE ⊢;refine aC (aD tok Tryz.func72 rfl rfl ?_);refine wx ?_;simp -implicitDefEqProofs -dsimp[Tryz.f72,List.replicate,aG,LR,LS];refine(aF (hc1) (by simp)).mono ?_;rintro r H' ⟨rfl,rfl⟩;simp -implicitDefEqProofs -dsimp[show ¬(16:Int)<t.attrs.length by omega,show ¬(1000:Int)<t.rows.length by omega];refine aK (W_loopM 42 [2,3,4,25,26,27,28,29,30,31,32,33,34,35,36,37,38,39,40,41] (by simp[mB]<;>rfl) (σ:=Nat) (fun i=>i≤t.attrs.length∧(List.range i).all (nmAt t.attrs)=true) (fun i=>t.attrs.length-i) (fun i=>[(25,.int .i64 i)]) (fun _=>[B.cells [.str t.name,LS f t.attrs,LR g t.rows]]) 0 ⟨by omega,rfl⟩ (by simp) (by simp[LS,LR]) (by simp) ?_);rintro i ⟨hi,hall⟩ N Q hN hQ;by_cases hb:i<t.attrs.length
    ·have hsi:sAt t.attrs i=t.attrs[i]:=by simp[sAt,hb]
     have hok:nmAt t.attrs i=(bt t.attrs[i]&&!memS (t.attrs.take i) t.attrs[i]):=by unfold nmAt;rw[hsi]
     have hd1:=pm t.attrs[i] (hs _ (List.getElem_mem hb));have hd2:=containsS (t.attrs.take i) t.attrs[i] (f&&i == t.attrs.length) (by simp;omega);simp only[LS,List.map_take]at hd2;cases h5:bt t.attrs[i]
     ·rw[h5,Bool.false_and]at hok;rw[h5]at hd1;rw[show gp t.attrs=false from allno hb hok]at hE;refine wx ?_;simp -implicitDefEqProofs -dsimp[hb,LS,LR];refine(aF (hd1) (by simp)).mono ?_;rintro r H' ⟨rfl,rfl⟩;simp -implicitDefEqProofs -dsimp[];refine hQ _ _ _ ?_;simp -implicitDefEqProofs -dsimp[];simpa using hE
     ·rw[h5,Bool.true_and]at hok;rw[h5]at hd1;cases h6:memS (t.attrs.take i) t.attrs[i]
      ·rw[h6]at hd2 hok;refine wx ?_;simp -implicitDefEqProofs -dsimp[hb,LS,LR];refine(aF (hd1) (by simp)).mono ?_;rintro r H' ⟨rfl,rfl⟩;simp -implicitDefEqProofs -dsimp[show i≤t.attrs.length by omega];refine(aF (hd2) (by simp)).mono ?_;rintro r H' ⟨rfl,rfl⟩;simp -implicitDefEqProofs -dsimp[aJ i (by omega)];refine hN (i+1) _ _ ⟨by omega,dV hall (by rw[hok];rfl)⟩ (by omega) ?_ ⟨[],?_⟩ ?_ ?_<;>simp[or_imp,forall_and,L1,aW,LS,LR]
      ·rw[h6]at hd2 hok;rw[show gp t.attrs=false from allno hb hok]at hE;refine wx ?_;simp -implicitDefEqProofs -dsimp[hb,LS,LR];refine(aF (hd1) (by simp)).mono ?_;rintro r H' ⟨rfl,rfl⟩;simp -implicitDefEqProofs -dsimp[show i≤t.attrs.length by omega];refine(aF (hd2) (by simp)).mono ?_;rintro r H' ⟨rfl,rfl⟩;simp -implicitDefEqProofs -dsimp[];refine hQ _ _ _ ?_;simp -implicitDefEqProofs -dsimp[];simpa using hE
    ·obtain rfl:i=t.attrs.length:=by omega
     rw[show gp t.attrs=true from hall,if_pos rfl]at hE;refine wx ?_;simp -implicitDefEqProofs -dsimp[hb,LS,LR];refine hQ _ _ _ ?_;simp -implicitDefEqProofs -dsimp[LS,LR];refine aK (W_loopM 70 [2,5,7,45,46,47,48,49,50,51,52,53,54,55,56,57,58,59,60,61,62,63,64,65,66,67,68,69] (by simp[mB]<;>rfl) (σ:=Nat×Int) (fun p=>p.1≤t.rows.length∧dt t.attrs.length p.2 (t.rows.drop p.1)=E) (fun p=>t.rows.length-p.1) (fun p=>[(45,.int .i64 p.1),(5,.int .i64 p.2)]) (fun _=>[B.cells [.str t.name,LS f t.attrs,LR g t.rows]]) (0,0) ⟨by simp,hE⟩ (by simp) (by simp[LS,LR]) (by simp) ?_);rintro⟨j,last⟩ ⟨hj,hx⟩ N2 Q2 hN2 hQ2;simp only at hj hx hN2;by_cases hjb:j<t.rows.length
     ·rw[List.drop_eq_getElem_cons hjb]at hx;simp only[dt]at hx;by_cases h5:t.rows[j].id≤last
      ·rw[if_pos h5]at hx;refine wx ?_;simp -implicitDefEqProofs -dsimp[hjb,LS,LR,aL,h5,LV];refine hQ2 _ _ _ ?_;simp -implicitDefEqProofs -dsimp[];exact hx
      ·rw[if_neg h5]at hx;by_cases h6:t.rows[j].vals.length=t.attrs.length
       ·rw[if_neg (fun h=>h h6)]at hx;have hc3:=validVals t.rows[j].vals false (by omega);simp only[LV]at hc3;cases h7:t.rows[j].vals.all bV
        ·rw[h7]at hc3 hx;refine wx ?_;simp -implicitDefEqProofs -dsimp[hjb,LS,LR,aL,h5,LV,h6];refine(aF (hc3) (by simp)).mono ?_;rintro r H' ⟨rfl,rfl⟩;simp -implicitDefEqProofs -dsimp[];refine hQ2 _ _ _ ?_;simp -implicitDefEqProofs -dsimp[];simpa using hx
        ·rw[h7,if_pos rfl]at hx;rw[h7]at hc3;refine wx ?_;simp -implicitDefEqProofs -dsimp[hjb,LS,LR,aL,h5,LV,h6];refine(aF (hc3) (by simp)).mono ?_;rintro r H' ⟨rfl,rfl⟩;simp -implicitDefEqProofs -dsimp[aJ j (by omega)];refine hN2 (j+1,t.rows[j].id) _ _ ⟨by simp;omega,hx⟩ (by omega) ?_ ⟨[B.cells [.int .i64 t.rows[j].id,LV false t.rows[j].vals]],?_⟩ ?_ ?_<;>simp[or_imp,forall_and,L1,aW,LS,LR,LV]
       ·rw[if_pos h6]at hx;refine wx ?_;simp -implicitDefEqProofs -dsimp[hjb,LS,LR,aL,h5,LV,show ¬(t.rows[j].vals.length:Int)=t.attrs.length by omega];refine hQ2 _ _ _ ?_;simp -implicitDefEqProofs -dsimp[];exact hx
     ·rw[List.drop_of_length_le (by omega)]at hx;refine wx ?_;simp -implicitDefEqProofs -dsimp[hjb,LS,LR];refine hQ2 _ _ _ ?_;simp -implicitDefEqProofs -dsimp[];exact hx
def ofV(m:Int):Vl :=
 if m=0 then⟨1,0,ByteArray.empty⟩ else
 if m=1 then⟨1,1,ByteArray.empty⟩ else
 if m=2 then⟨1,2,ByteArray.empty⟩ else
 if m=3 then⟨0,0,ByteArray.empty⟩ else
 if m=4 then⟨2,0,⟨#[97]⟩⟩ else
 if m=5 then⟨2,0,⟨#[98]⟩⟩ else
 if m=6 then⟨2,0,ByteArray.empty⟩ else
 if m=7 then⟨3,1,ByteArray.empty⟩ else
 if m=8 then⟨1,-1,ByteArray.empty⟩ else
 if m=9 then⟨2,0,⟨#[97,98]⟩⟩ else
 if m=10 then⟨3,2,ByteArray.empty⟩ else
 ⟨1,7,ByteArray.empty⟩
def ofC(c:Int):Vl:=ofV (c.tmod 12)
theorem of01(c:Int):aR Tryz.prog 41 [.int .u8 c] fun r=>r=ap (ofC c):=by
 unfold ofC;obtain⟨m,hm⟩:∃m,m=c.tmod 12:=⟨_,rfl⟩;rw[←hm];have hm:=hm.symm;by_cases h0:m=0
 ·have e:ofV m=ofV 0:=by rw[h0]
  rw[e];refine aC (aD tok Tryz.func41 rfl rfl ?_);refine wx ?_;simp -implicitDefEqProofs -dsimp[Tryz.f41,List.replicate,hm,h0];rfl
 by_cases h1:m=1
 ·have e:ofV m=ofV 1:=by rw[h1]
  rw[e];refine aC (aD tok Tryz.func41 rfl rfl ?_);refine wx ?_;simp -implicitDefEqProofs -dsimp[Tryz.f41,List.replicate,hm,h1];rfl
 by_cases h2:m=2
 ·have e:ofV m=ofV 2:=by rw[h2]
  rw[e];refine aC (aD tok Tryz.func41 rfl rfl ?_);refine wx ?_;simp -implicitDefEqProofs -dsimp[Tryz.f41,List.replicate,hm,h2];rfl
 by_cases h3:m=3
 ·have e:ofV m=ofV 3:=by rw[h3]
  rw[e];refine aC (aD tok Tryz.func41 rfl rfl ?_);refine wx ?_;simp -implicitDefEqProofs -dsimp[Tryz.f41,List.replicate,hm,h3];rfl
 by_cases h4:m=4
 ·have e:ofV m=ofV 4:=by rw[h4]
  rw[e];refine aC (aD tok Tryz.func41 rfl rfl ?_);refine wx ?_;simp -implicitDefEqProofs -dsimp[Tryz.f41,List.replicate,hm,h4];rfl
 by_cases h5:m=5
 ·have e:ofV m=ofV 5:=by rw[h5]
  rw[e];refine aC (aD tok Tryz.func41 rfl rfl ?_);refine wx ?_;simp -implicitDefEqProofs -dsimp[Tryz.f41,List.replicate,hm,h5];rfl
 by_cases h6:m=6
 ·have e:ofV m=ofV 6:=by rw[h6]
  rw[e];refine aC (aD tok Tryz.func41 rfl rfl ?_);refine wx ?_;simp -implicitDefEqProofs -dsimp[Tryz.f41,List.replicate,hm,h6];rfl
 by_cases h7:m=7
 ·have e:ofV m=ofV 7:=by rw[h7]
  rw[e];refine aC (aD tok Tryz.func41 rfl rfl ?_);refine wx ?_;simp -implicitDefEqProofs -dsimp[Tryz.f41,List.replicate,hm,h7];rfl
 by_cases h8:m=8
 ·have e:ofV m=ofV 8:=by rw[h8]
  rw[e];refine aC (aD tok Tryz.func41 rfl rfl ?_);refine wx ?_;simp -implicitDefEqProofs -dsimp[Tryz.f41,List.replicate,hm,h8];rfl
 by_cases h9:m=9
 ·have e:ofV m=ofV 9:=by rw[h9]
  rw[e];refine aC (aD tok Tryz.func41 rfl rfl ?_);refine wx ?_;simp -implicitDefEqProofs -dsimp[Tryz.f41,List.replicate,hm,h9];rfl
 by_cases h10:m=10
 ·have e:ofV m=ofV 10:=by rw[h10]
  rw[e];refine aC (aD tok Tryz.func41 rfl rfl ?_);refine wx ?_;simp -implicitDefEqProofs -dsimp[Tryz.f41,List.replicate,hm,h10];rfl
 have e:ofV m=⟨1,7,ByteArray.empty⟩:=by unfold ofV;simp[h0,h1,h2,h3,h4,h5,h6,h7,h8,h9,h10]
 rw[e];refine aC (aD tok Tryz.func41 rfl rfl ?_);refine wx ?_;simp -implicitDefEqProofs -dsimp[Tryz.f41,List.replicate,hm,h0,h1,h2,h3,h4,h5,h6,h7,h8,h9,h10];rfl
def lfB:V→V→Prop
 | x,y=>y=x∨(∃z xs,x = .lst z true xs∧y = .lst z false xs)∨(∃z,x = .nilS∧y = .lst z false [])
def LfL:List V→List V→Prop
 | [],[]=>True
 | x::xs,y::ys=>lfB x y∧LfL xs ys
 | _,_=>False
theorem LfL.len:∀{xs ys:List V},LfL xs ys→xs.length=ys.length
 | [],[],_=>rfl
 | [],_::_,h=>h.elim
 | _::_,[],h=>h.elim
 | _::_,_::_,h=>by simp[h.2.len]
theorem LfL.at_:∀{xs ys:List V},LfL xs ys→∀(i:Nat) x y,xs[i]?=some x→ys[i]?=some y→lfB x y
 | [],_,_,i,x,y,h,_=>by simp at h
 | _::_,[],h,_,_,_,_,_=>h.elim
 | a::xs,b::ys,h,0,x,y,h1,h2=>by simp at h1 h2;subst h1;subst h2;exact h.1
 | a::xs,b::ys,h,i+1,x,y,h1,h2=>h.2.at_ i x y (by simpa using h1) (by simpa using h2)
theorem nE{s:AM.St}{x y:V}{u:Value}(h:Rel s x u)(hl:lfB x y):Rel s y u:=by
 rcases hl with rfl | ⟨z,xs,rfl,rfl⟩ | ⟨z,rfl,rfl⟩
 ·exact h
 ·cases h with
  | lst _ _ _ A cap b off u hcap hfull hA hz hcell hrel=>exact .lst z false xs A cap b off u hcap (fun h=>by cases h) hA hz hcell hrel
 ·cases h;exact dY z false none 0 (fun _=>rfl)
theorem lf_one{x y:V}(hl:lfB x y)(h:x.one=true):y.one=true:=by
 rcases hl with rfl | ⟨z,xs,rfl,rfl⟩ | ⟨z,rfl,rfl⟩
 ·exact h
 ·rfl
 ·rfl
theorem W_lf{P:Program}(k0:Nat)(fr' cs':List V){c:Code}{Q:Exit→List V→List B→Prop}{fr:List V}{H:List B}{cs:List V}(hk:H[k0]?=some (.cells cs))(ho:LfL fr fr')(hc:LfL cs cs')
  (h:W P c Q fr' (H.set k0 (.cells cs'))):W P c Q fr H:=by
 intro s a hA hg hf hd;obtain⟨rfl,hZ⟩:=hA;have hst:=bw (w:=s.w) (bl':=.cells cs') hg hk (lvC hk) trivial rfl rfl rfl (Nat.le_refl _) (fun _ _ _=>rfl);have hl:=ho.len;have hlc:=hc.len
 have hgd:AM.Good (s.setB s.w k0 (.cells cs')):=by
  refine cJ hg hk (lvC hk) trivial rfl rfl rfl (Nat.le_refl _) (fun _ _ _=>rfl) (fun hst=>?_);obtain⟨h1,vs,t,h2,h3,h4⟩:=hg.blk k0 _ hk;refine⟨fun d hd=>?_,vs,t,h2,by omega,fun i d u hd hu=>?_⟩
  ·obtain⟨i,hi⟩:=List.mem_iff_getElem?.1 hd;have hx:cs[i]?=some (cs[i]'(by have:=aE hi;omega)):=List.getElem?_eq_getElem _;exact lf_one (hc.at_ i _ d hx hi) (h1 _ (List.getElem_mem _))
  ·have hx:cs[i]?=some (cs[i]'(by have:=aE hd;omega)):=List.getElem?_eq_getElem _;exact(nE (h4 i _ u hx hu) (hc.at_ i _ d hx hd)).step hst
 have:=h (s.setB s.w k0 (.cells cs')) a ⟨rfl,hZ.step hst⟩ hgd ⟨by rw[hf.len,hl],fun i v u hv hu=>by
  have hx:fr[i]?=some (fr[i]'(by have:=aE hv;omega)):=List.getElem?_eq_getElem _
  exact(nE (hf.rel i _ u hx hu) (ho.at_ i _ v hx hv)).step hst⟩ hd
 exact wp_mono this fun _ _ _ hl=>cX hst hl
theorem lfB_refl(x:V):lfB x x:=.inl rfl
theorem pj:∀xs:List V,LfL xs xs
 | []=>trivial
 | x::xs=>⟨lfB_refl x,pj xs⟩
structure Rcp where
 a:Int
 gap:Int
 rows:List (List Int)
def LU(xs:List Int):V:=.lst 1 false (xs.map encU)
def nK(f:Bool)(x:Rcp):V:=.agg [.int .u8 x.a,.int .u8 x.gap,.lst 1 f (x.rows.map LU)]
@[simp] theorem LU_pure (xs:List Int):AM.Pure (LU xs):=by simp[LU]
@[simp] theorem encRcp_pure (f:Bool) (x:Rcp):AM.Pure (nK f x):=by simp[nK]
def L8:List ByteArray:=[⟨#[97]⟩,⟨#[98]⟩,⟨#[99]⟩,⟨#[100]⟩,⟨#[101]⟩,⟨#[102]⟩,⟨#[103]⟩,⟨#[104]⟩]
def jQ(cs:List Int)(k:Nat):List Vl:=(List.range k).map fun j=>ofC (cs.getD j 0)
def wRow(gap:Int)(cs:List Int)(n i:Nat):Rw:=⟨1+(i:Int)*(1+gap.tmod 3),jQ cs n⟩
def lG(x:Rcp)(n i:Nat):List Rw:=(List.range i).map fun j=>wRow x.gap (x.rows.getD j []) n j
def ot(x:Rcp)(n:Nat):Tb:=⟨⟨#[114]⟩,L8.take n,lG x n x.rows.length⟩
theorem wVals_succ(cs:List Int)(k:Nat):jQ cs (k+1)=jQ cs k++[ofC (cs.getD k 0)]:=by simp[jQ,List.range_succ]
theorem wVals_len(cs:List Int)(k:Nat):(jQ cs k).length=k:=by simp[jQ]
theorem wRows_succ(x:Rcp)(n i:Nat):lG x n (i+1)=lG x n i++[wRow x.gap (x.rows.getD i []) n i]:=by simp[lG,List.range_succ]
theorem wRows_len(x:Rcp)(n i:Nat):(lG x n i).length=i:=by simp[lG]
theorem md(n:Nat)(h:n≤1000000000):n≤9223372036854775806∧(n+1)*32≤140737488355328:=by omega
theorem L8_take(n:Nat):List.take n [V.str ⟨#[97]⟩,V.str ⟨#[98]⟩,V.str ⟨#[99]⟩,V.str ⟨#[100]⟩,V.str ⟨#[101]⟩,V.str ⟨#[102]⟩,V.str ⟨#[103]⟩,V.str ⟨#[104]⟩]=(L8.take n).map V.str:=by rw[List.map_take];rfl
theorem ownF_refl(k:Nat):∀xs:List V,qd k xs xs
 | []=>trivial
 | x::xs=>⟨.inl rfl,ownF_refl k xs⟩
theorem ownAt_nil(k:Nat):∀(i:Nat) (xs:List V),fB k [] i xs=xs
 | _,[]=>rfl
 | i,x::xs=>by simp only[fB,List.contains_nil,Bool.false_eq_true,if_false,ownAt_nil k (i+1) xs]
theorem et(k:Nat)(xs:List V):qd k xs (fB k [] 0 xs):=by rw[ownAt_nil];exact ownF_refl k xs
theorem wide03(x:Rcp)(n:Nat)(f:Bool)(hn:n≤8)(hr:x.rows.length≤1000000)(hc:∀r∈x.rows,r.length≤9223372036854775807)(h0:0≤x.gap):
  aR Tryz.prog 38 [nK f x,.int .i64 n] fun r=>r=aG false false (ot x n):=by
 have hg:=Int.tmod_nonneg 3 h0;have hg2:=Int.tmod_lt_of_pos x.gap (show(0:Int)<3 by omega);obtain⟨g,hge⟩:∃g,g=x.gap.tmod 3:=⟨_,rfl⟩;rw[←hge]at hg hg2;have hgs:=hge.symm;have hw1:IntKind.i64.wrap g=g:=wrap64 (by omega) (by omega);have hw2:IntKind.i64.wrap (1+g)=1+g:=wrap64 (by omega) (by omega)
 have hl8:(L8.take n).length=n:=by simp[L8];omega
 have hne:(n=0∧List.take n (L8.map V.str)=[])∨(¬n=0∧¬List.take n (L8.map V.str)=[]):=by
  by_cases hz:n=0
  ·exact .inl ⟨hz,by rw[hz];rfl⟩
  ·refine .inr ⟨hz,fun h=>?_⟩;have:=congrArg List.length h;rw[←List.map_take,List.length_map,hl8]at this;exact hz this
 have hlt:(List.take n (L8.map V.str)).length=n:=by rw[←List.map_take,List.length_map,hl8]
 have hcp:n≤9223372036854775807∧n*16≤140737488355328:=by omega
 rcases hne with⟨hz,hne⟩ | ⟨hz,hne⟩
 case' inl =>
  refine aC (aD (az tok (fun t=>t == 29)) Tryz.func38 rfl rfl ?_);refine W_x (az tok (fun t=>t == 29)) mixed ?_;simp -implicitDefEqProofs -dsimp[Tryz.f38,List.replicate,nK,L8_take,hn,hne,bk]
 case' inr =>
  refine aC (aD (az tok (fun t=>t == 29)) Tryz.func38 rfl rfl ?_);refine W_x (az tok (fun t=>t == 29)) mixed ?_;simp -implicitDefEqProofs -dsimp[Tryz.f38,List.replicate,nK,L8_take,hn,hz,hne,hlt,hcp,bk]
 all_goals
  refine aK (W_lf 2 _ [.str ⟨#[114]⟩,.lst 1 false (List.take n (L8.map V.str)),.nilS] rfl (pj _) (by simp[LfL,lfB,hne]) (co 66 2 [] 2 [2] rfl (et _ _) (by simp) (W_loopM 66 [6,7,8,9,10,11,13,14,15,16,17,18,19,20,21,22,23,24,25,26,27,28,29,30,31,32,33,34,35,36,37,38,39,40,41,42,43,44,45,46,47,48,49,50,51,52,53,54,55,56,57,58,59,60,61,62,63,64,65] (by simp[mB]<;>rfl) (σ:=Nat) (fun i=>i≤x.rows.length) (fun i=>x.rows.length-i) (fun i=>[(6,.int .i64 i)]) (fun i=>[B.cells [.int .u8 x.a,.int .u8 x.gap,.lst 1 f (x.rows.map LU)],B.cells [.str ByteArray.empty,.nilS,.nilS],B.cells [.str ⟨#[114]⟩,.lst 1 false (List.take n (L8.map V.str)),.buf 3 0 i i],B.buf 66 2 ((lG x n i).map aL) false]) 0 (by omega) (by simp) (by simp[lG]) (by simp) ?_)));intro i hi N Q hN hQ;have hwl:=wRows_len x n i;by_cases hb:i<x.rows.length
  ·have hg0:x.rows.getD i []=x.rows[i]:=by simp[hb]
   have hws:=wRows_succ x n i;rw[hg0]at hws;have hcl:=hc x.rows[i] (List.getElem_mem hb);obtain⟨cs,hcs⟩:∃cs,cs=x.rows[i]:=⟨_,rfl⟩;rw[←hcs]at hws hcl;have hcs':=hcs.symm;have hp0:0≤(i:Int)*(1+g):=Int.mul_nonneg (by omega) (by omega);have hp1:(i:Int)*(1+g)≤i*3:=Int.mul_le_mul_of_nonneg_left (by omega) (by omega);have hw3:IntKind.i64.wrap ((i:Int)*(1+g))=(i:Int)*(1+g):=wrap64 (by omega) (by omega);have hw4:IntKind.i64.wrap (1+(i:Int)*(1+g))=1+(i:Int)*(1+g):=wrap64 (by omega) (by omega)
   have hrow:wRow x.gap cs n i=⟨1+(i:Int)*(1+g),jQ cs n⟩:=by rw[hge];rfl
   rw[hrow]at hws;obtain⟨id,hid⟩:∃id,id=1+(i:Int)*(1+g):=⟨_,rfl⟩;rw[←hid]at hws hw4
   have hw5:IntKind.i64.wrap (1+(i:Int)*(1+g))=id:=by rw[←hid];exact hw4
   refine W_x (az tok (fun t=>t == 29)) mixed ?_;simp -implicitDefEqProofs -dsimp[hb,hgs,hw1,hw2,hw3,hw5,bk];refine aK (co 68 3 [] 4 [1] rfl (et _ _) (by simp) (W_loopM 60 [8,9,32,33,34,35,36,37,38,39,40,41,42,43,44,45,46,47,48,49,50,51,52,53,54,55,56,57,58,59] (by simp[mB]<;>rfl) (σ:=Nat) (fun k=>k≤n) (fun k=>n-k) (fun k=>[(8,.int .i64 k)]) (fun k=>[B.cells [.int .u8 x.a,.int .u8 x.gap,.lst 1 f (x.rows.map LU)],B.cells [.str ByteArray.empty,.nilS,.nilS],B.cells [.str ⟨#[114]⟩,.lst 1 false (List.take n (L8.map V.str)),.buf 3 0 i i],B.buf 66 2 ((lG x n i).map aL) false,B.cells [.int .i64 id,.buf 5 0 k k],B.buf 68 3 ((jQ cs k).map ap) false]) 0 (by omega) (by simp) (by simp[jQ]) (by simp) ?_));intro k hk N2 Q2 hN2 hQ2;have hvl:=wVals_len cs k;have hvs:=wVals_succ cs k;by_cases hkb:k<n
   ·by_cases hkc:k<cs.length
    ·have hg1:cs.getD k 0=cs[k]:=by simp[hkc]
     rw[hg1]at hvs;have hco:=of01 cs[k];refine W_x (az tok (fun t=>t == 29)) mixed ?_;simp -implicitDefEqProofs -dsimp[hkb,hb,LU,hcs',hkc,encU,bk];refine aK (am (az tok (fun t=>t == 29)) mixed [5,7] [] [(ap (ofC cs[k]),[])] (by kernel_rfl) fun C K hC hK=>?_);simp -implicitDefEqProofs [md k (by omega),hvl,ap,bk];refine⟨hC _ _ _ _ (aF hco (by simp)),hK _ _ ?_⟩;simp -implicitDefEqProofs -dsimp[aJ k (by omega),bk];refine hN2 (k+1) _ _ (by omega) (by omega) ?_ ⟨[],?_⟩ ?_ ?_<;>simp[or_imp,forall_and,L1,aW,hvs,LS,ap,aL,LV]
    ·have hg1:cs.getD k 0=0:=by simp[hkc]
     rw[hg1]at hvs;have hco:=of01 0;refine W_x (az tok (fun t=>t == 29)) mixed ?_;simp -implicitDefEqProofs -dsimp[hkb,hb,LU,hcs',hkc,encU,bk];refine aK (am (az tok (fun t=>t == 29)) mixed [5,7] [] [(ap (ofC 0),[])] (by kernel_rfl) fun C K hC hK=>?_);simp -implicitDefEqProofs [md k (by omega),hvl,ap,bk];refine⟨hC _ _ _ _ (aF hco (by simp)),hK _ _ ?_⟩;simp -implicitDefEqProofs -dsimp[aJ k (by omega),bk];refine hN2 (k+1) _ _ (by omega) (by omega) ?_ ⟨[],?_⟩ ?_ ?_<;>simp[or_imp,forall_and,L1,aW,hvs,LS,ap,aL,LV]
   ·obtain rfl:k=n:=by omega
    refine iA 5 [] 4 [1] rfl rfl (by simp) (by simp[hvl]) ?_;refine W_x (az tok (fun t=>t == 29)) mixed ?_;simp -implicitDefEqProofs -dsimp[hkb,bk];refine hQ2 _ _ _ ?_;simp -implicitDefEqProofs -dsimp[hwl,md i (by omega),aJ i (by omega),bk];refine hN (i+1) _ _ (by omega) (by omega) ?_ ⟨[B.cells [.int .i64 id,LV false (jQ cs k)],B.buf 68 3 ((jQ cs k).map ap) true],?_⟩ ?_ ?_<;>simp[or_imp,forall_and,L1,aW,hws,aL,LV]
  ·obtain rfl:i=x.rows.length:=by omega
   refine iA 3 [] 2 [2] rfl rfl (by simp) (by simp[hwl]) ?_;refine W_x (az tok (fun t=>t == 29)) mixed ?_;simp -implicitDefEqProofs -dsimp[hb,bk];refine hQ _ _ _ ?_;simp -implicitDefEqProofs -dsimp[bk];simp only[aG,ot,LS,LR,List.map_take]
theorem nanInt(x:Int):aR Tryz.prog 170 [.int .i64 x] fun r=>r = .bool false:=by
 refine aC (aD tok Tryz.func170 rfl rfl ?_);refine wx ?_;simp -implicitDefEqProofs -dsimp[Tryz.f170,List.replicate]
theorem cmpInt(x y:Int):aR Tryz.prog 124 [.int .i64 x,.int .i64 y] fun r=>r = .int .i64 (bZ x y):=by
 refine aC (aD tok Tryz.func124 rfl rfl ?_);refine wx ?_;simp -implicitDefEqProofs -dsimp[Tryz.f124,List.replicate];refine(aF (nanInt x) (by simp)).mono ?_;rintro r H' ⟨rfl,rfl⟩;simp -implicitDefEqProofs -dsimp[];refine(aF (nanInt y) (by simp)).mono ?_;rintro r H' ⟨rfl,rfl⟩;simp -implicitDefEqProofs -dsimp[];unfold bZ;split
 ·rfl
 ·split<;>rfl
theorem pD(x y:Int):aR Tryz.prog 160 [.int .i64 x,.int .i64 y] fun r=>r = .int .i64 (bZ x y):=by
 refine aC (aD tok Tryz.func160 rfl rfl ?_);refine wx ?_;simp -implicitDefEqProofs -dsimp[Tryz.f160,List.replicate];unfold bZ;split
 ·rfl
 ·split<;>rfl
theorem cmpS_drop(a b:ByteArray)(i:Nat)(ha:i<a.size)(hb:i<b.size):Lib.compareBytes (a.data.toList.drop i) (b.data.toList.drop i)=if a[i]<b[i] then -1 else if b[i]<a[i] then 1 else Lib.compareBytes (a.data.toList.drop (i+1)) (b.data.toList.drop (i+1)):=by
 have h1:i<a.data.toList.length:=by rw[lF];exact ha
 have h2:i<b.data.toList.length:=by rw[lF];exact hb
 rw[List.drop_eq_getElem_cons h1,List.drop_eq_getElem_cons h2,Lib.compareBytes];rfl
theorem cmpS_end(a b:ByteArray)(i:Nat)(hi:i≤a.size)(hj:i≤b.size)(h:¬(i<a.size∧i<b.size)):Lib.compareBytes (a.data.toList.drop i) (b.data.toList.drop i)=bZ a.size b.size:=by
 have l1:=lF a;have l2:=lF b;by_cases h1:i<a.size
 ·have h2:i=b.size:=by omega
  have h3:i<a.data.toList.length:=by omega
  rw[List.drop_eq_getElem_cons h3,List.drop_of_length_le (l:=b.data.toList) (by omega),Lib.compareBytes];unfold bZ;rw[if_neg (by omega),if_pos (by omega)]
 ·rw[List.drop_of_length_le (l:=a.data.toList) (by omega)];by_cases h2:i<b.size
  ·have h3:i<b.data.toList.length:=by omega
   rw[List.drop_eq_getElem_cons h3,Lib.compareBytes];unfold bZ;rw[if_pos (by omega)]
  ·rw[List.drop_of_length_le (l:=b.data.toList) (by omega),Lib.compareBytes];unfold bZ;rw[if_neg (by omega),if_neg (by omega)]
theorem strings01(a b:ByteArray)(ha:a.size≤maxLen):aR Tryz.prog 161 [.str a,.str b] fun r=>r = .int .i64 (nT a b):=by
 refine aC (aD tok Tryz.func161 rfl rfl ?_);refine wx ?_;simp -implicitDefEqProofs -dsimp[Tryz.f161,List.replicate];refine aK (W_loopM 34 [4,5,6,7,8,9,10,11,12,13,14,15,16,17,18,19,20,21,22,23,24,25,26,27,28,29,30,31,32,33] (by simp[mB]<;>rfl) (σ:=Nat) (fun i=>i≤a.size∧i≤b.size∧Lib.compareBytes (a.data.toList.drop i) (b.data.toList.drop i)=nT a b) (fun i=>a.size-i) (fun i=>[(5,.int .i64 i)]) (fun _=>[]) 0 ⟨by omega,by omega,rfl⟩ (by simp) rfl (by simp) ?_);rintro i ⟨hi,hj,hx⟩ N Q hN hQ;by_cases h:i<a.size∧i<b.size
 ·obtain⟨h1,h2⟩:=h;rw[cmpS_drop a b i h1 h2]at hx;obtain⟨x1,x2⟩:=iX h1;obtain⟨y1,y2⟩:=iX h2;by_cases hq:bj a i=bj b i
  ·have e1:¬a[i]<b[i]:=fun h=>by have:=UInt8.lt_iff_toNat_lt.1 h;omega
   have e2:¬b[i]<a[i]:=fun h=>by have:=UInt8.lt_iff_toNat_lt.1 h;omega
   rw[if_neg e1,if_neg e2]at hx;refine wx ?_;simp -implicitDefEqProofs -dsimp[h1,h2,x1,y1,x2,y2,hq];refine .inr ⟨aI (by kernel_rfl),?_⟩;simp -implicitDefEqProofs -dsimp[aJ i (by unfold maxLen at ha;omega)];refine hN (i+1) _ _ ⟨by omega,by omega,hx⟩ (by omega) ?_ ⟨[],?_⟩ ?_ ?_<;>simp[or_imp,forall_and,L1,aW]
  ·have hs:bZ (bj a i) (bj b i)=nT a b:=by
    rw[←hx,←x2,←y2];unfold bZ;by_cases e1:a[i]<b[i]
    ·have e1':(a[i].toNat:Int)<b[i].toNat:=by have:=UInt8.lt_iff_toNat_lt.1 e1;omega
     rw[if_pos e1,if_pos e1']
    ·have e1':¬((a[i].toNat:Int)<b[i].toNat):=fun h=>e1 (UInt8.lt_iff_toNat_lt.2 (by omega))
     have e2:b[i]<a[i]:=UInt8.lt_iff_toNat_lt.2 (by omega)
     have e2':(b[i].toNat:Int)<a[i].toNat:=by have:=UInt8.lt_iff_toNat_lt.1 e2;omega
     rw[if_neg e1,if_neg e1',if_pos e2,if_pos e2']
   have hw1:IntKind.i64.wrap (bj a i)=bj a i:=by rw[←x2];exact wrap64 (by omega) (by have:=UInt8.toNat_lt a[i];omega)
   have hw2:IntKind.i64.wrap (bj b i)=bj b i:=by rw[←y2];exact wrap64 (by omega) (by have:=UInt8.toNat_lt b[i];omega)
   have hc:=pD (bj a i) (bj b i);refine wx ?_;simp -implicitDefEqProofs -dsimp[h1,h2,x1,y1,x2,y2,hq];refine .inr ⟨aI (by kernel_rfl),?_⟩;simp -implicitDefEqProofs -dsimp[h1,h2,x1,y1,x2,y2,hw1,hw2];refine .inr ⟨aI (by kernel_rfl),?_⟩;refine ae _ (aF (hc) (by simp)) ?_;simp -implicitDefEqProofs -dsimp[];refine hQ _ _ _ ?_;simp -implicitDefEqProofs -dsimp[];exact hs
 ·rw[cmpS_end a b i hi hj h]at hx;have hc:=pD a.size b.size;by_cases h1:i<a.size
  ·have h2:¬i<b.size:=fun h2=>h ⟨h1,h2⟩
   refine wx ?_;simp -implicitDefEqProofs -dsimp[h1,h2];refine hQ _ _ _ ?_;simp -implicitDefEqProofs -dsimp[];refine(aF (hc) (by simp)).mono ?_;rintro r H' ⟨rfl,rfl⟩;simp -implicitDefEqProofs -dsimp[];exact hx
  ·refine wx ?_;simp -implicitDefEqProofs -dsimp[h1];refine hQ _ _ _ ?_;simp -implicitDefEqProofs -dsimp[];refine(aF (hc) (by simp)).mono ?_;rintro r H' ⟨rfl,rfl⟩;simp -implicitDefEqProofs -dsimp[];exact hx
def fI(a b:Vl):Int:=if bZ a.k b.k=0 then(if bZ a.n b.n=0 then nT a.s b.s else bZ a.n b.n) else bZ a.k b.k
theorem compare01(a b:Vl)(ha:a.s.size≤maxLen):aR Tryz.prog 112 [ap a,ap b] fun r=>r = .int .i64 (fI a b):=by
 have hc1:=pD a.k b.k;have hc2:=pD a.n b.n;have hc3:=strings01 a.s b.s ha;unfold fI;by_cases h1:bZ a.k b.k=0
 ·by_cases h2:bZ a.n b.n=0
  ·rw[if_pos h1,if_pos h2];refine aC (aD tok Tryz.func112 rfl rfl ?_);refine wx ?_;simp -implicitDefEqProofs -dsimp[Tryz.f112,List.replicate,ap];refine(aF (hc1) (by simp)).mono ?_;rintro r H' ⟨rfl,rfl⟩;simp -implicitDefEqProofs -dsimp[h1];refine(aF (hc2) (by simp)).mono ?_;rintro r H' ⟨rfl,rfl⟩;simp -implicitDefEqProofs -dsimp[h2];refine(aF (hc3) (by simp)).mono ?_;rintro r H' ⟨rfl,rfl⟩;simp -implicitDefEqProofs -dsimp[]
  ·rw[if_pos h1,if_neg h2];refine aC (aD tok Tryz.func112 rfl rfl ?_);refine wx ?_;simp -implicitDefEqProofs -dsimp[Tryz.f112,List.replicate,ap];refine(aF (hc1) (by simp)).mono ?_;rintro r H' ⟨rfl,rfl⟩;simp -implicitDefEqProofs -dsimp[h1];refine(aF (hc2) (by simp)).mono ?_;rintro r H' ⟨rfl,rfl⟩;simp -implicitDefEqProofs -dsimp[h2]
 ·rw[if_neg h1];refine aC (aD tok Tryz.func112 rfl rfl ?_);refine wx ?_;simp -implicitDefEqProofs -dsimp[Tryz.f112,List.replicate,ap];refine(aF (hc1) (by simp)).mono ?_;rintro r H' ⟨rfl,rfl⟩;simp -implicitDefEqProofs -dsimp[h1]
def eQ:List Vl→List Vl→Int
 | [],[]=>0
 | [],_::_=>-1
 | _::_,[]=>1
 | x::xs,y::ys=>if fI x y=0 then eQ xs ys else fI x y
theorem cmpVs_end(us bs:List Vl)(i:Nat)(h1:i≤us.length)(h2:i≤bs.length)(h:¬(i<us.length∧i<bs.length)):eQ (us.drop i) (bs.drop i)=bZ us.length bs.length:=by
 unfold bZ;by_cases ha:i<us.length
 ·rw[List.drop_eq_getElem_cons ha,List.drop_of_length_le (l:=bs) (by omega),eQ,if_neg (by omega),if_pos (by omega)]
 ·rw[List.drop_of_length_le (l:=us) (by omega)];by_cases hb:i<bs.length
  ·rw[List.drop_eq_getElem_cons hb,eQ,if_pos (by omega)]
  ·rw[List.drop_of_length_le (l:=bs) (by omega),eQ,if_neg (by omega),if_neg (by omega)]
theorem lists01(us bs:List Vl)(f g:Bool)(hl:us.length≤1000000)(hs:∀v∈us,v.s.size≤maxLen):aR Tryz.prog 135 [LV f us,LV g bs] fun r=>r = .int .i64 (eQ us bs):=by
 obtain⟨E,hE⟩:∃E,E=eQ us bs:=⟨_,rfl⟩;rw[←hE];refine aC (aD tok Tryz.func135 rfl rfl ?_);refine wx ?_;simp -implicitDefEqProofs -dsimp[Tryz.f135,List.replicate,LV];refine aK (W_loopM 31 [4,5,6,7,8,9,10,11,12,13,14,15,16,17,18,19,20,21,22,23,24,25,26,27,28,29,30] (by simp[mB]<;>rfl) (σ:=Nat) (fun i=>i≤us.length∧i≤bs.length∧eQ (us.drop i) (bs.drop i)=E) (fun i=>us.length-i) (fun i=>[(5,.int .i64 i)]) (fun _=>[]) 0 ⟨by omega,by omega,hE.symm⟩ (by simp) rfl (by simp) ?_);rintro i ⟨hi,hj,hx⟩ N Q hN hQ;by_cases h:i<us.length∧i<bs.length
 ·obtain⟨h1,h2⟩:=h;have hc:=compare01 us[i] bs[i] (hs _ (List.getElem_mem h1));simp only[ap]at hc;rw[List.drop_eq_getElem_cons h1,List.drop_eq_getElem_cons h2,eQ]at hx;by_cases h3:fI us[i] bs[i]=0
  ·rw[if_pos h3]at hx;refine wx ?_;simp -implicitDefEqProofs -dsimp[h1,h2,ap];refine .inr ⟨aI (by kernel_rfl),?_⟩;refine ae _ (aF (hc) (by simp)) ?_;simp -implicitDefEqProofs -dsimp[h3,aJ i (by omega)];refine hN (i+1) _ _ ⟨by omega,by omega,hx⟩ (by omega) ?_ ⟨[],?_⟩ ?_ ?_<;>simp[or_imp,forall_and,L1,aW]
  ·rw[if_neg h3]at hx;refine wx ?_;simp -implicitDefEqProofs -dsimp[h1,h2,ap];refine .inr ⟨aI (by kernel_rfl),?_⟩;refine ae _ (aF (hc) (by simp)) ?_;simp -implicitDefEqProofs -dsimp[h3];refine hQ _ _ _ ?_;simp -implicitDefEqProofs -dsimp[];exact hx
 ·rw[cmpVs_end us bs i hi hj h]at hx;have hc:=pD us.length bs.length;by_cases h1:i<us.length
  ·have h2:¬i<bs.length:=fun h2=>h ⟨h1,h2⟩
   refine wx ?_;simp -implicitDefEqProofs -dsimp[h1,h2];refine hQ _ _ _ ?_;simp -implicitDefEqProofs -dsimp[];refine(aF (hc) (by simp)).mono ?_;rintro r H' ⟨rfl,rfl⟩;simp -implicitDefEqProofs -dsimp[];exact hx
  ·refine wx ?_;simp -implicitDefEqProofs -dsimp[h1];refine hQ _ _ _ ?_;simp -implicitDefEqProofs -dsimp[];refine(aF (hc) (by simp)).mono ?_;rintro r H' ⟨rfl,rfl⟩;simp -implicitDefEqProofs -dsimp[];exact hx
theorem same01(us bs:List Vl)(f g:Bool)(hl:us.length≤1000000)(hs:∀v∈us,v.s.size≤maxLen):aR Tryz.prog 98 [LV f us,LV g bs] fun r=>r = .bool (eQ us bs == 0):=by
 have hc:=lists01 us bs f g hl hs;refine aC (aD tok Tryz.func98 rfl rfl ?_);refine wx ?_;simp -implicitDefEqProofs -dsimp[Tryz.f98,List.replicate];refine(aF (hc) (by simp)).mono ?_;rintro r H' ⟨rfl,rfl⟩;simp -implicitDefEqProofs -dsimp[]
def orI:List Int→Int
 | []=>0
 | x::xs=>if x=0 then orI xs else x
theorem orInt(xs:List Int)(f:Bool)(hl:xs.length≤1000000):aR Tryz.prog 122 [L1 f xs] fun r=>r = .int .i64 (orI xs):=by
 obtain⟨E,hE⟩:∃E,E=orI xs:=⟨_,rfl⟩;rw[←hE];refine aC (aD tok Tryz.func122 rfl rfl ?_);refine wx ?_;simp -implicitDefEqProofs -dsimp[Tryz.f122,List.replicate,L1];refine aK (W_loopM 17 [2,5,8,9,10,11,12,13,14,15,16] (by simp[mB]<;>rfl) (σ:=Nat) (fun i=>orI (xs.drop i)=E) (fun i=>xs.length-i) (fun i=>[(8,.int .i64 i)]) (fun _=>[]) 0 hE.symm (by simp) rfl (by simp) ?_);intro i hx N Q hN hQ;by_cases hb:i<xs.length
 ·rw[List.drop_eq_getElem_cons hb,orI]at hx;by_cases h0:xs[i]=0
  ·rw[if_pos h0]at hx;refine wx ?_;simp -implicitDefEqProofs -dsimp[hb,aW,h0];simp -implicitDefEqProofs -dsimp[aJ i (by omega)];refine hN (i+1) _ _ hx (by omega) (by simp) ⟨[],rfl⟩ (by simp[L1,aW]) (by simp)
  ·rw[if_neg h0]at hx;refine wx ?_;simp -implicitDefEqProofs -dsimp[hb,aW,h0];refine hQ _ _ _ ?_;simp -implicitDefEqProofs -dsimp[];exact hx
 ·rw[List.drop_of_length_le (by omega)]at hx;refine wx ?_;simp -implicitDefEqProofs -dsimp[hb];refine hQ _ _ _ ?_;simp -implicitDefEqProofs -dsimp[];exact hx
theorem pA(a b:ByteArray):aR Tryz.prog 134 [.str a,.str b] fun r=>r = .int .i64 (nT a b):=by
 have hc:=cmp_con a b;refine aC (aD tok Tryz.func134 rfl rfl ?_);refine wx ?_;simp -implicitDefEqProofs -dsimp[Tryz.f134,List.replicate];refine(aF (hc) (by simp)).mono ?_;rintro r H' ⟨rfl,rfl⟩;simp -implicitDefEqProofs -dsimp[]
theorem ia(a b:Vl):aR Tryz.prog 97 [ap a,ap b] fun r=>r = .int .i64 (fI a b):=by
 have hc1:=cmpInt a.k b.k;have hc2:=cmp64 a.n b.n;have hc3:=pA a.s b.s;have hc4:=orInt [bZ a.k b.k,bZ a.n b.n,nT a.s b.s] true (by simp)
 have he:orI [bZ a.k b.k,bZ a.n b.n,nT a.s b.s]=fI a b:=by
  unfold fI;simp only[orI];split
  ·split
   ·split
    ·rename_i h;exact h.symm
    ·rfl
   ·rfl
  ·rfl
 rw[he]at hc4;simp only[L1,List.map_cons,List.map_nil,aW]at hc4;refine aC (aD tok Tryz.func97 rfl rfl ?_);refine wx ?_;simp -implicitDefEqProofs -dsimp[Tryz.f97,List.replicate,ap];refine .inr ⟨aI (by kernel_rfl),?_⟩;refine ae _ (aF (hc1) (by simp)) ?_;simp -implicitDefEqProofs -dsimp[];refine ae _ (aF (hc2) (by simp)) ?_;simp -implicitDefEqProofs -dsimp[];refine ae _ (aF (hc3) (by simp)) ?_;simp -implicitDefEqProofs -dsimp[];refine ae _ (aF (hc4) (by simp)) ?_;simp -implicitDefEqProofs -dsimp[]
end
end Go.Proofs.YteijbpppalhihaaGreat
