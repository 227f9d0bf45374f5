/- JU3: own texts of this seat, joined and shortened by pack.py: AMf, Ty, K0, T1, T2, T3, T4, T5, Wk, T6, T7, T8, T9, T10, Wd, T11, U3, V1, U1, U2, U4. -/
import Derived.Test.YteijbpppalhihaaGreatJU2
import Derived.Deep.Slices
import Derived.Test.YteijbpppalhihaaGreatProg
import Derived.ProofKit
import Derived.Laws.Externs
import Derived.Lib.Bytealg
import Derived.Lib.Hide
import Derived.WalkSpells
import Derived.WalkLawsBesides
set_option linter.unusedVariables false
set_option linter.unusedSimpArgs false
set_option maxRecDepth 100000
set_option maxHeartbeats 64000000
section
namespace Go.AM
open Go
inductive Tag (p:Prop):Type
 | mk
def Stop(p:Prop)(_:Tag p):Prop:=p
theorem aJ{p:Prop}{t:Tag p}(h:p):Stop p t:=h
inductive QTag (Q:Exit→List V→List B→Prop):Type
 | mk
inductive XTag (X:List V→List B→Prop):Type
 | mk
def Behind(X:List V→List B→Prop)(_:XTag X)(fr:List V)(d:Option Tmp)(r:V)(H:List B):Prop:=X (bI fr d r) H
def XOps(T:Ty)(ops:Array Oper)(C:V→List V→List B→(V→List B→Prop)→Prop)(K:List V→List B→Prop):List Oper→List V→List B→Prop
 | [],fr,H=>K fr H
 | o::rest,fr,H=>match bQ ops fr o with
  | some b=>if b=true then(match bC o.op with
   | some (f,args)=>C (aU fr f) (args.map (aU fr)) H (Behind (XOps T ops C K rest) .mk fr o.dst)
   | none=>match aop T o.op (aU fr) H with
    | some (v,H')=>XOps T ops C K rest (bI fr o.dst v) H'
    | none=>False)
   else XOps T ops C K rest (bI fr o.dst (.tup [])) H
  | none=>False
def CY(C:V→List V→List B→(V→List B→Prop)→Prop)(f:V)(args:List V)(H:List B)(K:V→List B→Prop):Prop:=∃v,C f args H (fun r H'=>r=v∧H'=H)∧K v H
theorem aj{C:V→List V→List B→(V→List B→Prop)→Prop}{f:V}{args:List V}{H:List B}{K:V→List B→Prop}(v:V)(h:C f args H (fun r H'=>r=v∧H'=H))(hk:K v H):CY C f args H K:=⟨v,h,hk⟩
def YOps(T:Ty)(ops:Array Oper)(C:V→List V→List B→(V→List B→Prop)→Prop)(K:List V→List B→Prop):List Oper→List V→List B→Prop
 | [],fr,H=>K fr H
 | o::rest,fr,H=>match bQ ops fr o with
  | some b=>if b=true then(match bC o.op with
   | some (f,args)=>CY C (aU fr f) (args.map (aU fr)) H (Behind (YOps T ops C K rest) .mk fr o.dst)
   | none=>match aop T o.op (aU fr) H with
    | some (v,H')=>H'=H∧YOps T ops C K rest (bI fr o.dst v) H
    | none=>False)
   else YOps T ops C K rest (bI fr o.dst (.tup [])) H
  | none=>False
section
variable {P:Program} {T:Ty}
theorem nl{ops:Array Oper}{C:V→List V→List B→(V→List B→Prop)→Prop}(hmono:∀fv args H K K',(∀r H',K r H'→K' r H')→C fv args H K→C fv args H K'){K:List V→List B→Prop} : ∀(l:List Oper) (fr:List V) (H:List B),XOps T ops C K l fr H→jF T ops C K l fr H
 | [],_,_,h=>h
 | o::rest,fr,H,h=>by
  simp only[XOps]at h;simp only[jF]
  cases hw:bQ ops fr o with
  | none=>rw[hw]at h;exact h.elim
  | some b =>
  rw[hw]at h
  cases b with
  | false=>exact nl hmono rest _ _ (by simpa using h)
  | true =>
   simp only[if_true]at h
   cases hc:bC o.op with
   | some p =>
    obtain⟨f,args⟩:=p;rw[hc]at h;exact hmono _ _ _ _ _ (fun r H' hk=>nl hmono rest _ _ hk) h
   | none =>
    rw[hc]at h
    cases hop:aop T o.op (aU fr) H with
    | none=>simp only[hop]at h
    | some q =>
     obtain⟨v,H'⟩:=q;simp only[hop]at h ⊢;exact nl hmono rest _ _ h
theorem nk{ops:Array Oper}{C:V→List V→List B→(V→List B→Prop)→Prop}{K:List V→List B→Prop} : ∀(l:List Oper) (fr:List V) (H:List B),YOps T ops C K l fr H→∃cv,nj T ops C K l fr H cv
 | [],_,_,h=>⟨[],h⟩
 | o::rest,fr,H,h=>by
  simp only[YOps]at h;simp only[nj]
  cases hw:bQ ops fr o with
  | none=>rw[hw]at h;exact h.elim
  | some b =>
  rw[hw]at h
  cases b with
  | false=>exact nk rest _ _ (by simpa using h)
  | true =>
   simp only[if_true]at h
   cases hc:bC o.op with
   | some p =>
    obtain⟨f,args⟩:=p;rw[hc]at h;obtain⟨v,h1,h2⟩:=h;obtain⟨cv,h3⟩:=nk rest _ _ h2;exact⟨v::cv,h1,h3⟩
   | none =>
    rw[hc]at h
    cases hop:aop T o.op (aU fr) H with
    | none=>simp only[hop]at h
    | some q =>
     obtain⟨v,H'⟩:=q;simp only[hop]at h ⊢;obtain⟨cv,h3⟩:=nk rest _ _ h.2;exact⟨cv,h.1,h3⟩
def hasEff:List Oper→Bool
 | []=>false
 | o::r=>!bf o.op||hasEff r
def WX(T:Ty)(C:V→List V→List B→(V→List B→Prop)→Prop)(L:(c:Code)→(Q:Exit→List V→List B→Prop)→QTag Q→List V→List B→Prop):Code→(Exit→List V→List B→Prop)→List V→List B→Prop
 | .skip,Q,fr,H=>Q .normal fr H
 | .region _ ops false,Q,fr,H=>XOps T ops C (Q .normal) ops.toList fr H
 | .region id ops true,Q,fr,H=>L (.region id ops true) Q .mk fr H∨if hasEff ops.toList=true then False else Stop (stat1 ops=true) .mk∧YOps T ops C (Q .normal) ops.toList fr H
 | .seq a b,Q,fr,H=>WX T C L a (kz (WX T C L b Q) Q) fr H
 | .cond c a b,Q,fr,H=>match aU fr c with
  | .bool t=>if t=true then WX T C L a Q fr H else WX T C L b Q fr H
  | _=>False
 | .block id c,Q,fr,H=>WX T C L c (gj id Q) fr H
 | .loop c,Q,fr,H=>L (.loop c) Q .mk fr H
 | .exit id,Q,fr,H=>Q (.exit id) fr H
 | .ret,Q,fr,H=>Q .ret fr H
 | _,_,_,_=>False
def LW(P:Program)(c:Code)(Q:Exit→List V→List B→Prop)(_:QTag Q)(fr:List V)(H:List B):Prop:=W P c Q fr H
theorem aK{c:Code}{Q:Exit→List V→List B→Prop}{t:QTag Q}{fr:List V}{H:List B}(h:W P c Q fr H):LW P c Q t fr H:=h
theorem wx_ok(hT:TOk P T)(hm:P.follows .mixedOrders=true):∀(c:Code) (Q:Exit→List V→List B→Prop) (fr:List V) (H:List B),WX T (aV P) (LW P) c Q fr H→W P c Q fr H
 | .skip,Q,fr,H,h=>W_skip h
 | .region id ops false,Q,fr,H,h=>by
  intro s a h1 h2 h3 h4;refine W_region hT (fun C K hC hK=>?_) s a h1 h2 h3 h4;have:=nl (C:=aV P) (fun _ _ _ _ _ hk hc=>hc.mono hk) _ _ _ h;refine ck.WOps_mono hC _ _ _ ?_;exact wops_k (fun fr H hq=>hK fr H hq) _ _ _ this
 | .region id ops true,Q,fr,H,h=>by
  simp only[WX]at h
  rcases h with h | h
  ·exact h
  split at h
  ·exact h.elim
  obtain⟨hst,h⟩:=h;obtain⟨cv,hq⟩:=nk _ _ _ h;intro s a h1 h2 h3 h4;refine W_quiet hT hm cv (np hst (by simp[nF,mP])) (fun C K hC hK=>?_) s a h1 h2 h3 h4;exact qops_mono hC hK _ _ _ _ hq
 | .seq a b,Q,fr,H,h=>W_seq ((wx_ok hT hm a _ fr H h).mono fun e fr' H' hq=>by
   cases e with
   | normal=>exact wx_ok hT hm b Q fr' H' hq
   | _=>exact hq)
 | .cond c a b,Q,fr,H,h=>by
  simp only[WX]at h;split at h
  ·rename_i t ht;refine W_cond ht ?_
   cases t with
   | true=>exact wx_ok hT hm a Q fr H (by simpa using h)
   | false=>exact wx_ok hT hm b Q fr H (by simpa using h)
  ·exact h.elim
 | .block id c,Q,fr,H,h=>W_block (wx_ok hT hm c _ fr H h)
 | .loop c,Q,fr,H,h=>h
 | .exit id,Q,fr,H,h=>W_exit h
 | .ret,Q,fr,H,h=>W_ret h
 | .rangeFunc ..,_,_,_,h=>h.elim
 | .scope _,_,_,_,h=>h.elim
 | .label _,_,_,_,h=>h.elim
 | .goto _,_,_,_,h=>h.elim
 | .refuse _,_,_,_,h=>h.elim
where
 wops_k {ops:Array Oper} {K K':List V→List B→Prop} (hk:∀fr H,K fr H→K' fr H):∀(l:List Oper) (fr:List V) (H:List B),jF T ops (aV P) K l fr H→jF T ops (aV P) K' l fr H
  | [],fr,H,h=>hk fr H h
  | o::rest,fr,H,h=>by
   simp only[jF]at h ⊢;split at h
   ·split at h
    ·exact h.mono fun r H' h'=>wops_k hk rest _ _ h'
    ·split at h
     ·exact wops_k hk rest _ _ h
     ·exact h
   ·exact wops_k hk rest _ _ h
   ·exact h
 qops_mono {ops:Array Oper} {C:V→List V→List B→(V→List B→Prop)→Prop} (hC:∀fv args H K',aV P fv args H K'→C fv args H K') {K K':List V→List B→Prop} (hk:∀fr H,K fr H→K' fr H):∀(l:List Oper) (fr:List V) (H:List B) (cv:List V),nj T ops (aV P) K l fr H cv→nj T ops C K' l fr H cv
  | [],fr,H,_,h=>hk fr H h
  | o::rest,fr,H,cv,h=>by
   simp only[nj]at h ⊢;split at h
   ·split at h
    ·split at h
     ·exact⟨hC _ _ _ _ h.1,qops_mono hC hk rest _ _ _ h.2⟩
     ·exact h
    ·split at h
     ·exact⟨h.1,qops_mono hC hk rest _ _ _ h.2⟩
     ·exact h
   ·exact qops_mono hC hk rest _ _ _ h
   ·exact h
theorem W_x(hT:TOk P T)(hm:P.follows .mixedOrders=true){c:Code}{Q:Exit→List V→List B→Prop}{fr:List V}{H:List B}(h:WX T (aV P) (LW P) c Q fr H):W P c Q fr H:=wx_ok hT hm c Q fr H h
def maskF(ms:List Nat):Nat→List V→List V
 | _,[]=>[]
 | i,v::r=>(if ms.contains i then .undef else v)::maskF ms (i+1) r
def ovr:List V→List (Nat×V)→List V
 | fr,[]=>fr
 | fr,(i,v)::r=>ovr (fr.set i v) r
end
attribute [simp ↓] XOps YOps WX Behind
attribute [simp] hasEff bf
attribute [simp] maskF ovr
@[simp] theorem exp_bool (H:List B) (b:Bool) (v:V):Exp H (.bool b) v↔v = .bool b:=⟨fun h=>by cases h;rfl,fun h=>by subst h;exact .pure _ (.bool b)⟩
@[simp] theorem exp_int (H:List B) (k:IntKind) (n:Int) (v:V):Exp H (.int k n) v↔v = .int k n:=⟨fun h=>by cases h;rfl,fun h=>by subst h;exact .pure _ (.int k n)⟩
@[simp] theorem exp_str (H:List B) (x:ByteArray) (v:V):Exp H (.str x) v↔v = .str x:=⟨fun h=>by cases h;rfl,fun h=>by subst h;exact .pure _ (.str x)⟩
@[simp] theorem exp_nilS (H:List B) (v:V):Exp H .nilS v↔v = .nilS:=⟨fun h=>by cases h;rfl,fun h=>by subst h;exact .pure _ .nilS⟩
@[simp] theorem exp_lst (H:List B) (z:Nat) (f:Bool) (xs:List V) (v:V):Exp H (.lst z f xs) v↔v = .lst z f xs∧∀x∈xs,Pure x:=⟨fun h=>by cases h with | pure _ h=>cases h;exact⟨rfl,by assumption⟩,fun⟨h,h2⟩=>by subst h;exact .pure _ (.lst _ _ _ h2)⟩
@[simp] theorem exp_agg (H:List B) (xs:List V) (v:V):Exp H (.agg xs) v↔v = .agg xs∧∀x∈xs,Pure x:=⟨fun h=>by cases h with | pure _ h=>cases h;exact⟨rfl,by assumption⟩,fun⟨h,h2⟩=>by subst h;exact .pure _ (.agg _ h2)⟩
@[simp] theorem exp_tup (H:List B) (xs:List V) (v:V):Exp H (.tup xs) v↔v = .tup xs∧∀x∈xs,Pure x:=⟨fun h=>by cases h with | pure _ h=>cases h;exact⟨rfl,by assumption⟩,fun⟨h,h2⟩=>by subst h;exact .pure _ (.tup _ h2)⟩
theorem dr{H:List B}{k len e z:Nat}{xs:List V}{fz:Bool}(hk:H[k]?=some (.buf e z xs fz))(hl:len=xs.length)(hp:∀x∈xs,Pure x):Exp H (.buf k 0 len len) (.lst z false xs):=by
 subst hl;have:=Exp.buf (H:=H) k 0 xs.length e z xs fz hk (by simp) hp;simpa using this
end Go.AM
namespace Go.AM
open Go Go.Deep
def layB(T:Ty)(tot:Nat):Nat→List Field→Bool
 | off,[]=>off == tot
 | off,f::r=>match T f.type with
  | some j=>f.offset == off&&layB T tot (off+j.size) r
  | none=>false
def ShOk(T:Ty):Nat→TypeId→Bool
 | 0,_=>false
 | n+1,t=>match T t with
  | none=>false
  | some i=>match i.desc with
   | .bool | .int _ | .string=>true
   | .slice e=>match T e with
    | some j=>decide (0<j.size)&&(dU j.desc||j.size == 1)&&ShOk T n e
    | none=>false
   | .struct fs=>layB T i.size 0 fs.toList&&fs.toList.all fun f=>ShOk T n f.type
   | _=>false
def Sh(T:Ty):Nat→TypeId→List V→Prop
 | 0,_,_=>False
 | n+1,t,vs=>match T t with
  | none=>False
  | some i=>match i.desc with
   | .bool=>∃b,vs=[.bool b]
   | .int k=>∃m,vs=[.int k m]∧(Lit.int k m).wf=true
   | .string=>∃s,vs=[.str s]∧s.size≤maxLen
   | .slice e=>match T e with
    | some j=>∃xs,vs=[.lst j.size false xs]∧xs.length≤maxLen∧∀x∈xs,∃ws,Sh T n e ws∧ws.length=j.size∧x=(if dU j.desc then .agg ws else ws.headD .undef)
    | none=>False
   | .struct fs=>vs.length=i.size∧∀f∈fs.toList,∃j,T f.type=some j∧Sh T n f.type ((vs.drop f.offset).take j.size)
   | _=>False
structure CR (w:World) (vs:List V) (cs:List Value):Prop where
 len:vs.length=cs.length
 one:∀v∈vs,v.one=true
 rel:∀(i:Nat) v c,vs[i]?=some v→cs[i]?=some c→Rel (base (fun _=>False) w) v c
theorem CR.append{w:World}{vs ws:List V}{cs ds:List Value}(h:CR w vs cs)(g:CR w ws ds):CR w (vs++ws) (cs++ds) where
 len:=by simp[h.len,g.len]
 one v hv:=by rcases List.mem_append.1 hv with hv | hv;exact h.one v hv;exact g.one v hv
 rel i v c hv hc:=by
  by_cases hi:i<vs.length
  ·rw[List.getElem?_append_left hi]at hv;rw[List.getElem?_append_left (by rw[←h.len];exact hi)]at hc;exact h.rel i v c hv hc
  ·rw[List.getElem?_append_right (by omega)]at hv;rw[List.getElem?_append_right (by rw[←h.len];omega),←h.len]at hc;exact g.rel _ v c hv hc
theorem CR.single{w:World}{v:V}{c:Value}(h:Rel (base (fun _=>False) w) v c)(h1:v.one=true):CR w [v] [c] where
 len:=rfl
 one x hx:=by simp at hx;subst hx;exact h1
 rel i x d hx hd:=by
  have:i=0:=by have:=aE hx;simpa using this
  subst this;simp at hx hd;subst hx;subst hd;exact h
theorem one_cells{v:V}(h:v.one=true):v.cells=[v]:=by cases v<;>first | rfl | simp[V.one]at h
theorem spot_cell{w:World}{a:Addr}{v:Value}(h:w.cell? a=some v):a.spot=none:=by
 unfold World.cell? at h;split at h
 ·split at h
  ·cases h
  ·rename_i hs;simpa using hs
 ·cases h
theorem addr_at{a:Addr}{n:Nat}(hs:a.spot=none):a.add n=⟨a.block,a.off+n,none⟩:=by
 unfold Addr.add;split
 ·rename_i h;subst h;cases a;simp_all
 ·rfl
section
variable {P:Program} {T:Ty} {Hd:Type} {enc:TypeId×Value→Hd} {w:World} {held:Bool}
theorem ov{n tot:Nat}{cs:List Value}(hlen:cs.length=tot):∀(l:List Field) (off:Nat),layB T tot off l=true→off≤tot →
  (∀f∈l,∀j,T f.type=some j→∃vs,CR w vs ((cs.drop f.offset).take j.size)∧Sh T n f.type vs)→
  ∃vs,CR w vs (cs.drop off)∧∀f∈l,∃j,T f.type=some j∧off≤f.offset∧Sh T n f.type ((vs.drop (f.offset-off)).take j.size)
 | [],off,h,hle,_=>by
  simp only[layB,beq_iff_eq]at h;refine⟨[],⟨by simp;omega,by simp,by simp⟩,by simp⟩
 | f::r,off,h,hle,hf=>by
  simp only[layB]at h;split at h
  ·rename_i j hj;simp only[Bool.and_eq_true,beq_iff_eq]at h;obtain⟨hoff,h⟩:=h;have hle2:off+j.size≤tot:=lay_le r _ h;obtain⟨vs,hcr,hsh⟩:=hf f (by simp) j hj;obtain⟨ws,hcr2,hws⟩:=ov hlen r (off+j.size) h hle2 (fun g hg=>hf g (by simp[hg]))
   have hvl:vs.length=j.size:=by rw[hcr.len,hoff,List.length_take,List.length_drop];omega
   refine⟨vs++ws,?_,fun g hg=>?_⟩
   ·have:=hcr.append hcr2
    rwa [hoff,←List.drop_drop,List.take_append_drop]at this
   ·rcases List.mem_cons.1 hg with rfl | hg
    ·refine⟨j,hj,by omega,?_⟩;rw[hoff,Nat.sub_self,List.drop_zero,List.take_append_of_le_length (by omega),List.take_of_length_le (by omega)];exact hsh
    ·obtain⟨j2,hj2,hle3,hs2⟩:=hws g hg;refine⟨j2,hj2,by omega,?_⟩;rw[List.drop_append,List.drop_of_length_le (by omega),List.nil_append,hvl,show g.offset-off-j.size=g.offset-(off+j.size) by omega];exact hs2
  ·cases h
where
 lay_le {tot:Nat} : ∀(l:List Field) (off:Nat),layB T tot off l=true→off≤tot
  | [],off,h=>by simp only[layB,beq_iff_eq]at h;omega
  | f::r,off,h=>by
   simp only[layB]at h;split at h
   ·simp only[Bool.and_eq_true]at h;have:=lay_le r _ h.2;omega
   ·cases h
theorem opn(hT:TOk P T)(hc:∀t i,T t=some i→P.cellsOf t=i.size):∀(n fuel:Nat) (t:TypeId) (cs:List Value) (x:DataW Hd×List MemPlace),ShOk T n t=true→DataW.trod enc P w 0 (fun _=>true) held fuel t cs=some x→∃vs,CR w vs cs∧Sh T n t vs
 | 0,_,_,_,_,h,_=>by simp[ShOk]at h
 | n+1,fuel,t,cs,x,h,ht=>by
  simp only[ShOk]at h;split at h
  ·cases h
  ·rename_i i hi;have hu:=hT.und t i hi;have hcell:=hc t i hi;split at h
   ·rename_i hd;rw[hd]at hu
    cases fuel with
    | zero=>simp[DataW.trod]at ht
    | succ m =>
     unfold DataW.trod at ht;rw[hu]at ht;split at ht<;>simp_all;exact⟨_,CR.single (.bool _) rfl,by simp[Sh,hi,hd]⟩
   ·rename_i k hd;rw[hd]at hu
    cases fuel with
    | zero=>simp[DataW.trod]at ht
    | succ m =>
     unfold DataW.trod at ht;rw[hu]at ht;split at ht<;>simp_all;exact⟨_,CR.single (.int _ _) rfl,by simp[Sh, *]⟩
   ·rename_i hd;rw[hd]at hu
    cases fuel with
    | zero=>simp[DataW.trod]at ht
    | succ m =>
     unfold DataW.trod at ht;rw[hu]at ht;split at ht<;>simp_all;exact⟨_,CR.single (.str _) rfl,by simp[Sh, *]⟩
   ·rename_i e hd;rw[hd]at hu;split at h
    ·rename_i j hj;simp only[Bool.and_eq_true,decide_eq_true_eq,Bool.or_eq_true,beq_iff_eq]at h;obtain⟨⟨hz,hag⟩,hok⟩:=h
     rcases open_slice hu ht with⟨rfl,_⟩ | ⟨a,len,cap,m,q,D,Pl,rfl,_,hle,hcap,hm,_,hel⟩
     ·exact⟨[.lst j.size false []],CR.single (dO _ false _ _ (by simp)) rfl,by simp only[Sh,hi,hd,hj];exact⟨[],rfl,by simp,by simp⟩⟩
     ·simp only[if_true]at hm;subst hm;rw[hc e j hj]at hel
      have hex:∀i,i<len→∃ws:List V,Sh T n e ws∧ws.length=j.size∧(∀v∈ws,v.one=true)∧∀(l:Nat) v,ws[l]?=some v→∃c,w.cell? (a.add (i*j.size+l))=some c∧Rel (base (fun _=>False) w) v c:=fun i hil=>by
       obtain⟨cs',h1,h2⟩:=hel i (by omega);obtain⟨ws,hcr,hsh⟩:=opn hT hc n q e cs' _ hok h2;obtain⟨_,hcl,hat⟩:=World.cells?_some h1;refine⟨ws,hsh,by rw[hcr.len,hcl],hcr.one,fun l v hv=>?_⟩
       have hl:l<j.size:=by have:=aE hv;rw[hcr.len,hcl]at this;exact this
       have hcv:cs'[l]?=some (cs'[l]'(by omega)):=List.getElem?_eq_getElem (by omega);have:=hat l hl;rw[hcv,add_add]at this;exact⟨_,this,hcr.rel l v _ hv hcv⟩
      obtain⟨W,hW⟩:=choose_lt hex
      obtain⟨xs,hxs⟩:∃xs:List V,xs=(List.range len).map fun i=>(if dU j.desc then V.agg (W i) else(W i).headD .undef):=⟨_,rfl⟩
      have hxl:xs.length=len:=by simp[hxs]
      have hxat:∀(i:Nat) y,xs[i]?=some y→i<len∧y=(if dU j.desc then V.agg (W i) else(W i).headD .undef)∧y.cells=W i:=fun i y hy=>by
       have hil:i<len:=by have:=aE hy;omega
       rw[hxs,List.getElem?_map,List.getElem?_range hil]at hy;simp only[Option.map_some,Option.some.injEq]at hy;obtain⟨_,hwl,hw1,_⟩:=hW i hil;refine⟨hil,hy.symm,?_⟩;rw[←hy];split
       ·rfl
       ·rename_i hna
        have hz1:j.size=1:=by rcases hag with h | h;exact absurd h hna;exact h
        obtain⟨v,hv⟩:=List.length_eq_one_iff.1 (hwl.trans hz1);rw[hv];exact one_cells (hw1 v (by rw[hv];simp))
      have hsh:∀y∈xs,∃ws,Sh T n e ws∧ws.length=j.size∧y=(if dU j.desc then V.agg ws else ws.headD .undef):=fun y hy=>by
       obtain⟨i,hi'⟩:=List.mem_iff_getElem?.1 hy;obtain⟨hil,hye,_⟩:=hxat i y hi';exact⟨W i,(hW i hil).1,(hW i hil).2.1,hye⟩
      refine⟨[.lst j.size false xs],CR.single ?_ rfl,by simp only[Sh,hi,hd,hj];exact⟨xs,rfl,by omega,hsh⟩⟩
      ·have hspot:0<len→a.spot=none∧a.block<w.heap.size:=fun h0=>by
        obtain⟨_,hwl,_,hcv⟩:=hW 0 h0;obtain⟨c,hcc,_⟩:=hcv 0 (W 0)[0] (List.getElem?_eq_getElem (by omega));simp only[Nat.zero_mul,Nat.add_zero]at hcc;have hb:=World.block_lt_of_cell? w _ hcc;have hs:=spot_cell hcc;simpa[Addr.add] using And.intro hs hb
       have:=Rel.lst (s:=base (fun _=>False) w) j.size false xs (some a) m a.block a.off (fun i l=>(w.cell? ⟨a.block,a.off+i*j.size+l,none⟩).getD undef) (by omega) (by simp) (fun h0=>by
         obtain⟨h1,h2⟩:=hspot (by omega)
         exact⟨by cases a;simp_all,h2,fun h=>h,fun k hk=>by have:=hk.1;simp[base]at this⟩)
        (fun y hy=>by
         obtain⟨i,hi'⟩:=List.mem_iff_getElem?.1 hy;obtain⟨hil,_,hyc⟩:=hxat i y hi';rw[hyc]
         exact⟨(hW i hil).2.1,(hW i hil).2.2.1⟩)
        (fun i y l c hy hcc=>by
         obtain⟨hil,_,hyc⟩:=hxat i y hy;rw[hyc]at hcc;obtain⟨u,hu1,_⟩:=(hW i hil).2.2.2 l c hcc;rw[addr_at (hspot (by omega)).1,←Nat.add_assoc]at hu1;show w.cell? _=_
         rw[hu1];rfl)
        (fun i y l c hy hcc=>by
         obtain⟨hil,_,hyc⟩:=hxat i y hy;rw[hyc]at hcc;obtain⟨u,hu1,hu2⟩:=(hW i hil).2.2.2 l c hcc;rw[addr_at (hspot (by omega)).1,←Nat.add_assoc]at hu1;rw[hu1]
         exact hu2)
       rwa [hxl]at this
    ·cases h
   ·rename_i fs hd;rw[hd]at hu;simp only[Bool.and_eq_true,List.all_eq_true]at h;obtain⟨xs,q,_,_,hlen,hxl,hf⟩:=DataW.trod_struct hu ht;rw[hcell]at hlen
    obtain⟨vs,hcr,hvs⟩:=ov (T:=T) (w:=w) (n:=n) hlen fs.toList 0 h.1 (Nat.zero_le _) (fun f hfm j hj=>by
     obtain⟨k,hk⟩:=List.mem_iff_getElem?.1 hfm
     have hk':fs[k]?=some f:=by simpa using hk
     have h1:=hf k f hk'
     have hkl:k<xs.length:=by rw[hxl];exact(Array.getElem?_eq_some_iff.1 hk').1
     rw[List.getElem?_eq_getElem hkl,hc f.type j hj]at h1
     exact opn hT hc n q f.type _ _ (h.2 f hfm) h1)
    rw[List.drop_zero]at hcr;refine⟨vs,hcr,?_⟩;simp only[Sh,hi,hd];refine⟨by rw[hcr.len,hlen],fun f hfm=>?_⟩;obtain⟨j,hj,_,hs⟩:=hvs f hfm;exact⟨j,hj,by simpa using hs⟩
   ·cases h
end
end Go.AM
namespace Go.AM
open Go
inductive Le:V→V→Prop
 | refl (v:V):Le v v
 | nil (z:Nat) (f:Bool):Le .nilS (.lst z f [])
 | agg (cs ds:List V) (hl:cs.length=ds.length) (h:∀(i:Nat) c d,cs[i]?=some c→ds[i]?=some d→Le c d):Le (.agg cs) (.agg ds)
 | tup (cs ds:List V) (hl:cs.length=ds.length) (h:∀(i:Nat) c d,cs[i]?=some c→ds[i]?=some d→Le c d):Le (.tup cs) (.tup ds)
theorem Le.one{a b:V}(h:Le a b)(h1:a.one=true):b.one=true:=by
 cases h with
 | refl=>exact h1
 | nil=>rfl
 | agg=>simp[V.one]at h1
 | tup=>simp[V.one]at h1
theorem Le.rel{s:St}{a b:V}(h:Le a b):∀{u:Value},Rel s a u→Rel s b u:=by
 induction h with
 | refl v=>exact fun h=>h
 | nil z f=>intro u h;cases h;exact dO z f none 0 (fun _=>rfl)
 | agg cs ds hl hh ih =>
  intro u h
  cases h with
  | agg _ us h1 h2 h3 =>
   refine .agg ds us (by omega) (fun d hd=>?_) (fun i d u hd hu=>?_)
   ·obtain⟨i,hi⟩:=List.mem_iff_getElem?.1 hd;have hc:cs[i]?=some (cs[i]'(by have:=aE hi;omega)):=List.getElem?_eq_getElem _;exact(hh i _ d hc hi).one (h2 _ (List.mem_of_getElem? hc))
   ·have hc:cs[i]?=some (cs[i]'(by have:=aE hd;omega)):=List.getElem?_eq_getElem _;exact ih i _ d hc hd (h3 i _ u hc hu)
 | tup cs ds hl hh ih =>
  intro u h
  cases h with
  | tup _ us h1 h3 =>
   refine .tup ds us (by omega) (fun i d u hd hu=>?_);have hc:cs[i]?=some (cs[i]'(by have:=aE hd;omega)):=List.getElem?_eq_getElem _;exact ih i _ d hc hd (h3 i _ u hc hu)
section
variable {P:Program} {T:Ty}
theorem mr{f:FuncId}{args args':List V}{K:V→Prop}(h:aS P f args' K)(hl:args.length=args'.length)(hle:∀(i:Nat) a b,args[i]?=some a→args'[i]?=some b→Le a b):aS P f args K:=by
 refine⟨h.1,fun F w vals hZ hF hsz hrel=>h.2 F w vals hZ hF (by omega) (fun i b u hb hu=>?_)⟩;have ha:args[i]?=some (args[i]'(by have:=aE hb;omega)):=List.getElem?_eq_getElem _;exact(hle i _ b ha hb).rel (hrel i _ u ha hu)
theorem callX{f:FuncId}{args args':List V}{H:List B}{v:V}(h:aS P f args' fun r=>r=v)(hl:args.length=args'.length)(he:∀(i:Nat) a a',args[i]?=some a→args'[i]?=some a'→Exp H a a')(hs:Scalar v):
  aV P (.fn f []) args H fun r H'=>r=v∧H'=H:=by
 simp only[aV,List.append_nil]
 exact(fL h hl he (.inr fun r hr=>by subst hr;exact hs)).mono fun r H' ⟨h1,_,h3⟩=>⟨h3,h1⟩
end
end Go.AM
namespace Go.AM
open Go
theorem fw{f:Nat→V→Option V} : ∀{xs:List V},(∀x∈xs,∃d0,∀d,d0≤d→f d x=some x)→∃d0,∀d,d0≤d→exL (f d) xs=some xs
 | [],_=>⟨0,fun _ _=>rfl⟩
 | x::xs,h=>by
  obtain⟨d1,h1⟩:=h x (by simp);obtain⟨d2,h2⟩:=fw (xs:=xs) (fun y hy=>h y (by simp[hy]));exact⟨max d1 d2,fun d hd=>by simp only[exL,h1 d (by omega),h2 d (by omega)]⟩
theorem ln{H:List B}{n:Nat}{v:V}(h:Pure v):∃d0,∀d,d0≤d→exV H n d v=some v:=by
 induction h with
 | bool b=>exact⟨1,fun d hd=>by obtain⟨k,rfl⟩:∃k,d=k+1:=⟨d-1,by omega⟩;rfl⟩
 | int k m=>exact⟨1,fun d hd=>by obtain⟨k,rfl⟩:∃k,d=k+1:=⟨d-1,by omega⟩;rfl⟩
 | str x=>exact⟨1,fun d hd=>by obtain⟨k,rfl⟩:∃k,d=k+1:=⟨d-1,by omega⟩;rfl⟩
 | nilS=>exact⟨1,fun d hd=>by obtain⟨k,rfl⟩:∃k,d=k+1:=⟨d-1,by omega⟩;rfl⟩
 | nilP=>exact⟨1,fun d hd=>by obtain⟨k,rfl⟩:∃k,d=k+1:=⟨d-1,by omega⟩;rfl⟩
 | nilM=>exact⟨1,fun d hd=>by obtain⟨k,rfl⟩:∃k,d=k+1:=⟨d-1,by omega⟩;rfl⟩
 | nilFn=>exact⟨1,fun d hd=>by obtain⟨k,rfl⟩:∃k,d=k+1:=⟨d-1,by omega⟩;rfl⟩
 | fn f=>exact⟨1,fun d hd=>by obtain⟨k,rfl⟩:∃k,d=k+1:=⟨d-1,by omega⟩;rfl⟩
 | lst z f xs hx ih =>
  obtain⟨d0,h0⟩:=fw (f:=exV H n) ih;exact⟨d0+1,fun d hd=>by obtain⟨k,rfl⟩:∃k,d=k+1:=⟨d-1,by omega⟩;simp only[exV,h0 k (by omega)]⟩
 | pin cs o hx ih =>
  obtain⟨d0,h0⟩:=fw (f:=exV H n) ih;exact⟨d0+1,fun d hd=>by obtain⟨k,rfl⟩:∃k,d=k+1:=⟨d-1,by omega⟩;simp only[exV,h0 k (by omega)]⟩
 | agg cs hx ih =>
  obtain⟨d0,h0⟩:=fw (f:=exV H n) ih;exact⟨d0+1,fun d hd=>by obtain⟨k,rfl⟩:∃k,d=k+1:=⟨d-1,by omega⟩;simp only[exV,h0 k (by omega)]⟩
 | tup cs hx ih =>
  obtain⟨d0,h0⟩:=fw (f:=exV H n) ih;exact⟨d0+1,fun d hd=>by obtain⟨k,rfl⟩:∃k,d=k+1:=⟨d-1,by omega⟩;simp only[exV,h0 k (by omega)]⟩
section
variable {P:Program} {T:Ty} {s:St}
end
end Go.AM
namespace Go.AM
open Go
def qF(k:Nat):List V→List V→Prop
 | [],[]=>True
 | x::xs,y::ys=>(y=x∨(x = .nilS∧y = .buf k 0 0 0))∧qF k xs ys
 | _,_=>False
theorem qF.len{k:Nat} : ∀{xs ys:List V},qF k xs ys→xs.length=ys.length
 | [],[],_=>rfl
 | [],_::_,h=>h.elim
 | _::_,[],h=>h.elim
 | _::_,_::_,h=>by simp[h.2.len]
theorem qF.at_{k:Nat} : ∀{xs ys:List V},qF k xs ys→∀(i:Nat) x y,xs[i]?=some x→ys[i]?=some y→y=x∨(x = .nilS∧y = .buf k 0 0 0)
 | [],_,_,i,x,y,h,_=>by simp at h
 | _::_,[],h,_,_,_,_,_=>h.elim
 | a::xs,b::ys,h,0,x,y,h1,h2=>by simp at h1 h2;subst h1;subst h2;exact h.1
 | a::xs,b::ys,h,i+1,x,y,h1,h2=>h.2.at_ i x y (by simpa using h1) (by simpa using h2)
def en(k:Nat)(sl:List Nat):Nat→List V→List V
 | _,[]=>[]
 | i,v::r=>(if sl.contains i then .buf k 0 0 0 else v)::en k sl (i+1) r
section
variable {P:Program} {T:Ty}
theorem rel_own{s:St}{w:World}{g e z:Nat}(hst:Step s (s.push w g 0 (.buf e z [] false))){x y:V}{u:Value}(h:Rel s x u)(ho:y=x∨(x = .nilS∧y = .buf s.H.length 0 0 0)):Rel (s.push w g 0 (.buf e z [] false)) y u:=by
 rcases ho with rfl | ⟨rfl,rfl⟩
 ·exact h.step hst
 ·cases h;refine .buf s.H.length 0 0 0 e z [] false _ _ _ (by simp[St.push]) (Nat.le_refl _) (fun _=>?_);simp only[St.push,ae];exact⟨fun h=>absurd rfl h,by simp,by simp,by simp⟩
theorem gG(e z:Nat)(sl:List Nat){c:Code}{Q:Exit→List V→List B→Prop}{fr:List V}{H:List B}(ho:qF H.length fr (en H.length sl 0 fr))(h:W P c Q (en H.length sl 0 fr) (H++[.buf e z [] false])):W P c Q fr H:=by
 intro s a hA hg hf hd;obtain⟨rfl,hZ⟩:=hA;obtain⟨p1,p2⟩:=nI hg 0 e z false rfl rfl rfl (Nat.le_refl _) (fun _ _=>rfl);have hl:=ho.len
 have:=h (s.push s.w 0 0 (.buf e z [] false)) a ⟨rfl,hZ.step p2⟩ p1 ⟨by rw[hf.len,hl],fun i v u hv hu=>by
  have hx:fr[i]?=some (fr[i]'(by have:=aE hv;omega)):=List.getElem?_eq_getElem _
  exact rel_own p2 (hf.rel i _ u hx hu) (ho.at_ i _ v hx hv)⟩ hd
 exact wp_mono this fun _ _ _ hl=>cS p2 hl
theorem co(e z:Nat)(sl:List Nat)(k0:Nat)(sc:List Nat){c:Code}{Q:Exit→List V→List B→Prop}{fr:List V}{H:List B}{cs:List V}(hk:H[k0]?=some (.cells cs))(ho:qF H.length fr (en H.length sl 0 fr))(hc:qF H.length cs (en H.length sc 0 cs))
  (h:W P c Q (en H.length sl 0 fr) (H.set k0 (.cells (en H.length sc 0 cs))++[.buf e z [] false])):W P c Q fr H:=by
 intro s a hA hg hf hd;obtain⟨rfl,hZ⟩:=hA;obtain⟨p1,p2⟩:=nI hg 0 e z false rfl rfl rfl (Nat.le_refl _) (fun _ _=>rfl);have hl:=ho.len;have hlc:=hc.len;generalize hs1:s.push s.w 0 0 (.buf e z [] false)=s1 at p1 p2
 have hk1:s1.H[k0]?=some (.cells cs):=by rw[←hs1];simp only[St.push];rw[List.getElem?_append_left (aE hk)];exact hk
 have hr1:∀x y u,Rel s x u→(y=x∨(x = .nilS∧y = .buf s.H.length 0 0 0))→Rel s1 y u:=fun x y u h1 h2=>by subst hs1;exact rel_own p2 h1 h2
 have hw1:s1.w=s.w:=by rw[←hs1];rfl
 have hst:=bq (w:=s1.w) (bl':=.cells (en s.H.length sc 0 cs)) p1 hk1 (lvC hk1) trivial rfl rfl rfl (Nat.le_refl _) (fun _ _ _=>rfl)
 have hgd:Good (s1.setB s1.w k0 (.cells (en s.H.length sc 0 cs))):=by
  refine cH p1 hk1 (lvC hk1) trivial rfl rfl rfl (Nat.le_refl _) (fun _ _ _=>rfl) (fun hst=>?_);obtain⟨h1,vs,t,h2,h3,h4⟩:=hg.blk k0 _ hk;obtain⟨_,vs1,t1,h21,h31,h41⟩:=p1.blk k0 _ hk1
  have hφ:s1.φ k0=s.φ k0:=by rw[←hs1];exact bw _ _ (by have:=aE hk;omega)
  refine⟨fun d hd=>?_,vs,t,by show s1.w.heap[s1.φ k0]?=_;rw[hw1,hφ];exact h2,by omega,fun i d u hd hu=>?_⟩
  ·obtain⟨i,hi⟩:=List.mem_iff_getElem?.1 hd;have hx:cs[i]?=some (cs[i]'(by have:=aE hi;omega)):=List.getElem?_eq_getElem _
   rcases hc.at_ i _ d hx hi with h9 | ⟨_,h9⟩
   ·rw[h9];exact h1 _ (List.getElem_mem _)
   ·rw[h9];rfl
  ·have hx:cs[i]?=some (cs[i]'(by have:=aE hd;omega)):=List.getElem?_eq_getElem _;exact(hr1 _ d u (h4 i _ u hx hu) (hc.at_ i _ d hx hd)).step hst
 have hH:(s1.setB s1.w k0 (.cells (en s.H.length sc 0 cs))).H=s.H.set k0 (.cells (en s.H.length sc 0 cs))++[.buf e z [] false]:=by
  rw[←hs1];simp only[St.setB,St.push];rw[List.set_append,if_pos (aE hk)]
 have:=h (s1.setB s1.w k0 (.cells (en s.H.length sc 0 cs))) a ⟨hH,(hZ.step p2).step hst⟩ hgd ⟨by rw[hf.len,hl],fun i v u hv hu=>by
  have hx:fr[i]?=some (fr[i]'(by have:=aE hv;omega)):=List.getElem?_eq_getElem _
  exact(hr1 _ v u (hf.rel i _ u hx hu) (ho.at_ i _ v hx hv)).step hst⟩ hd
 have e1:(s1.setB s1.w k0 (.cells (en s.H.length sc 0 cs))).w=s.w:=hw1;rw[e1]at this
 exact wp_mono this fun _ _ _ hl=>cS (p2.trans hst) hl
def fm:List Bool→List V→List V
 | b::bs,v::r=>(match b with
  | true=>.undef
  | false=>v)::fm bs r
 | _,fr=>fr
@[simp] theorem maskB_t (bs:List Bool) (v:V) (r:List V):fm (true::bs) (v::r)= .undef::fm bs r:=rfl
@[simp] theorem maskB_f (bs:List Bool) (v:V) (r:List V):fm (false::bs) (v::r)=v::fm bs r:=rfl
@[simp] theorem maskB_n (fr:List V):fm [] fr=fr:=by cases fr<;>rfl
theorem W_loopV{σ:Type}(ms:List Bool)(ok:σ→Prop)(μ:σ→Nat)(g:σ→List (Nat×V))(Hf:σ→List B){c:Code}{Q:Exit→List V→List B→Prop}{fr:List V}{H:List B}(x0:σ)(h0:ok x0)(hF:nD (ovr (fm ms fr) (g x0)) fr)(hH:H=Hf x0)
  (hmin:∀x,ok x→H.length≤(Hf x).length)
  (hround:∀x,ok x→∀(N:List V→List B→Prop) (Q':Exit→List V→List B→Prop),(∀y fr' H',ok y→μ y<μ x→nD (ovr (fm ms fr) (g y)) fr'→(∃G,H'=Hf y++G)→(∀v∈ovr (fm ms fr) (g y),rb (Hf y).length v)→(∀bl∈Hf y,rbB (Hf y).length bl)→N fr' H')→
   (∀e fr' H',Q e fr' H'→Q' e fr' H')→W P c (kz N Q') (ovr (fm ms fr) (g x)) (Hf x)):W P (.loop c) Q fr H :=
 W_loopS ok μ (fun x=>ovr (fm ms fr) (g x)) Hf x0 h0 hF hH hmin (fun x hx=>hround x hx _ _ (fun y fr' H' a b c d e f=>⟨y,a,b,c,d,e,f⟩) (fun _ _ _ h=>h))
end
attribute [simp] qF en
theorem oo{n:Nat}{v:V}(h:Pure v)(ho:v.one=true):rb1 n v:=by
 cases h<;>first | trivial | assumption | (simp[V.one]at ho;done) | rfl
theorem cG{n:Nat}{v:V}(h:Pure v)(ho:v.one=true):rb n v:=by
 have:=oo (n:=n) h ho
 cases h<;>first | trivial | assumption | (simp[V.one]at ho;done) | (intro c hc;cases hc;done)
theorem rbB_buf{n e z:Nat}{xs:List V}{fz:Bool}(h:∀x∈xs,Pure x)(ho:∀x∈xs,∀c∈x.cells,c.one=true):rbB n (.buf e z xs fz)↔True:=by
 refine⟨fun _=>trivial,fun _ x hx c hc=>cG ((h x hx).cells c hc) (ho x hx c hc)⟩
def dc:V→Bool
 | .undef | .tup _=>false
 | .agg cs=>cs.all V.one
 | _=>true
theorem oneV_cells{x:V}(h:dc x=true):∀c∈x.cells,c.one=true:=by
 cases x<;>simp_all [dc,V.cells,V.one]
@[simp ↓ high] theorem rbB_buf1 {n e z:Nat} {xs:List V} {fz:Bool} (h:∀x∈xs,Pure x∧dc x=true):rbB n (.buf e z xs fz)↔True:=rbB_buf (fun x hx=>(h x hx).1) (fun x hx=>oneV_cells (h x hx).2)
attribute [simp] dc
end Go.AM
namespace Go.AM
open Go
def dv:Go.Op→Bool
 | .move _ | .assign _ | .pick .. | .unOp .. | .convert .. | .extract .. | .field .. | .fieldAddr .. | .index .. | .makeFunc .. | .build .. | .nilCheck _=>true
 | .binOp op _ _ _ _=>match op with
  | .eql | .neq=>false
  | _=>true
 | _=>false
section
variable {P:Program} {T:Ty}
theorem jo{o:Go.Op}{ρ:Operand→V}{H H':List B}{v:V}(hs:dv o=true)(h:aop T o ρ H=some (v,H'))(G:List B):aop T o ρ G=some (v,G):=by
 have mp:∀{x:Option V} {H H':List B},x.map (·,H)=some (v,H')→x.map (·,G)=some (v,G):=fun {x H H'} h=>by
  cases x with
  | none=>cases h
  | some y=>simp at h;simp[h.1]
 cases o<;>simp only[dv,Bool.false_eq_true]at hs<;>simp only[aop]at h ⊢
 all_goals first
  | (exact mp h)
  | (cases h;rfl)
  | skip
 ·split at h<;>cases h;rfl
 ·split at h<;>first | (cases h;rfl) | (cases h;done)
 ·rename_i op t x y ty;refine mp ?_ (H:=H) (H':=H');rw[←h];congr 1;unfold binTA;cases binA op (ρ x) (ρ y)<;>simp only
  cases op<;>first | rfl | (simp at hs;done)
 ·split at h
  ·rename_i hh;rw[if_pos hh];exact mp h
  ·cases h
 ·split at h
  ·split at h
   ·rename_i hh;rw[if_pos hh];cases h;rfl
   ·cases h
  ·cases h
 ·cases hx:ρ _<;>rw[hx]at h<;>simp only at h ⊢<;>first | (cases h;done) | exact mp h
end
def hY:List (Nat×List Nat)→Nat→List Nat
 | [],_=>[]
 | (j,cs)::r,i=>if j=i then cs else hY r i
def cV:List Nat→Nat→Nat
 | [],_=>0
 | e::r,i=>if e<i then cV r i+1 else 0
def statT(ops:Array Oper)(E:List Nat)(tab:List (Nat×List Nat)):Bool :=
 stat1 ops&&nF ops E&&(List.range ops.size).all fun i=>E.contains i||(match ops[i]? with
  | some o=>bf o.op&&(dv o.op||(List.range (E.length+1)).all fun c=>!ib (aR [] ops.toList) E i c||c == cV E i||(hY tab i).contains c)
  | none=>true)
def oblT(T:Ty)(ops:Array Oper)(C:V→List V→List B→(V→List B→Prop)→Prop)(E:List Nat)(tab:List (Nat×List Nat))(Hs:Nat→List B):List Oper→Nat→Nat→List V→List V→Prop
 | [],_,_,_,_=>True
 | _::_,_,_,_,[]=>False
 | o::rest,i,c,fr,v::vs =>
  (match bQ ops fr o with
   | some true=>match bC o.op with
    | some (f,args)=>if E.contains i then C (aU fr f) (args.map (aU fr)) (Hs c) (fun r H'=>r=v∧H'=Hs (c+1))
     else ey (fun c'=>C (aU fr f) (args.map (aU fr)) (Hs c') (fun r H'=>r=v∧H'=Hs c')) (c::hY tab i)
    | none=>if E.contains i||dv o.op then True else ey (fun c'=>aop T o.op (aU fr) (Hs c')=some (v,Hs c')) (hY tab i)
   | _=>True)∧oblT T ops C E tab Hs rest (i+1) (if E.contains i then c+1 else c) (bI fr o.dst v) vs
def DrawT(T:Ty)(ops:Array Oper)(E:List Nat)(tab:List (Nat×List Nat))(cv:List (V×List B))(C:V→List V→List B→(V→List B→Prop)→Prop)(K:List V→List B→Prop)(fr:List V)(H:List B):Prop :=
 match runT T ops E ops.toList 0 fr H cv with
 | none=>False
 | some (vs,hs,f)=>hs.length=E.length∧oblT T ops C E tab (fun c=>(H::hs)[c]?.getD []) ops.toList 0 0 fr vs∧K f ((H::hs)[E.length]?.getD [])
theorem mD:∀{E:List Nat},mP E=true→∀{i:Nat},E.contains i=true→E.idxOf i=cV E i
 | [],_,i,h=>by simp at h
 | [x],_,i,h=>by
  have:i=x:=by simpa using h
  subst this;simp[cV]
 | x::y::r,ha,i,h=>by
  have ha':=ha;simp only[mP,Bool.and_eq_true,decide_eq_true_eq]at ha;by_cases hx:i=x
  ·subst hx;simp[cV]
  ·have h':(y::r).contains i=true:=by
    simp only[List.contains_cons,Bool.or_eq_true,beq_iff_eq,hx,false_or]at h ⊢;exact h
   have hlt:x<i:=by
    obtain⟨k,hk⟩:=List.mem_iff_getElem?.1 (List.contains_iff_mem.1 h');exact fO ha' 0 (k+1) x i (by omega) rfl (by simpa using hk)
   have hb:(x == i)=false:=by simpa using Ne.symm hx
   rw[List.idxOf_cons,hb,cond_false,mD ha.2 h'];simp only[cV,hlt,if_true]
theorem cJ:∀{E:List Nat},mP E=true→∀(i:Nat),cV E (i+1)=if E.contains i then cV E i+1 else cV E i
 | [],_,i=>by simp[cV]
 | [x],_,i=>by
  by_cases h:x=i
  ·subst h;simp[cV]
  ·have h2:¬i=x:=fun e=>h e.symm
   by_cases h3:x<i
   ·simp[cV,h2,h3,show x<i+1 by omega]
   ·simp[cV,h2,h3,show ¬x<i+1 by omega]
 | x::y::r,ha,i=>by
  have ha':=ha;simp only[mP,Bool.and_eq_true,decide_eq_true_eq]at ha;have ih:=cJ ha.2 i;by_cases h:x=i
  ·subst h
   have hy:¬y<x+1:=by omega
   have hy2:¬y<x:=by omega
   simp[cV,hy]
  ·have h2:¬i=x:=fun e=>h e.symm
   have c1:∀j,cV (x::y::r) j=if x<j then cV (y::r) j+1 else 0:=fun _=>rfl
   rw[c1,c1];by_cases h3:x<i
   ·rw[if_pos (by omega),if_pos h3,ih];simp only[List.contains_cons,show(i == x)=false by simpa using h2,Bool.false_or];split<;>rfl
   ·rw[if_neg (by omega),if_neg h3]
    have hn:(x::y::r).contains i=false:=by
     rw[Bool.eq_false_iff];intro hc;obtain⟨k,hk⟩:=List.mem_iff_getElem?.1 (List.contains_iff_mem.1 hc)
     cases k with
     | zero=>simp at hk;omega
     | succ k=>have:=fO ha' 0 (k+1) x i (by omega) rfl hk;omega
    rw[hn];rfl
section
variable {P:Program} {T:Ty}
theorem jz{ops:Array Oper}{C:V→List V→List B→(V→List B→Prop)→Prop}{E:List Nat}{tab:List (Nat×List Nat)}{Hs:Nat→List B}(hasc:mP E=true)
  (hst:∀i o,ops[i]?=some o→E.contains i=false→bf o.op=true∧(dv o.op=true∨∀c,c<E.length+1→ib (aR [] ops.toList) E i c=true→c=cV E i∨c∈hY tab i)):
  ∀(l:List Oper) (i:Nat) (fr:List V) (H:List B) (cv:List (V×List B)) (vs:List V) (hs:List (List B)) (f:List V),l=ops.toList.drop i→runT T ops E l i fr H cv=some (vs,hs,f)→(∀k,k≤hs.length→Hs (cV E i+k)=((H::hs)[k]?).getD [])→
   oblT T ops C E tab Hs l i (cV E i) fr vs→bp T ops C (aR [] ops.toList) E Hs l i fr vs
 | [],i,fr,H,cv,vs,hs,f,hl,hr,hH,h=>trivial
 | o::rest,i,fr,H,cv,vs,hs,f,hl,hr,hH,h=>by
  have ho:ops[i]?=some o:=by
   have:=congrArg (fun l=>l[0]?) hl;simp at this;exact this.symm
  have hrest:rest=ops.toList.drop (i+1):=by
   have:=congrArg List.tail hl;simpa using this
  have hHi:Hs (cV E i)=H:=by have:=hH 0 (Nat.zero_le _);simpa using this
  simp only[runT]at hr
  cases hw:bQ ops fr o with
  | none=>rw[hw]at hr;cases hr
  | some b =>
  rw[hw]at hr
  cases b with
  | false =>
   simp only at hr;split at hr
   ·cases hr
   rename_i hE
   have hE:E.contains i=false:=by simpa using hE
   split at hr
   ·rename_i vs' hs' f' hr';cases hr;simp only[oblT,hw,hE,Bool.false_eq_true,if_false]at h;simp only[bp,hw];refine⟨⟨by first | trivial | rfl,hE⟩,jz hasc hst rest (i+1) _ H cv vs' _ _ hrest hr' (fun k hk=>?_) ?_⟩
    ·rw[cJ hasc,hE];simpa using hH k hk
    ·rw[cJ hasc,hE];simpa using h.2
   ·cases hr
  | true =>
   simp only at hr
   have fin:∀(v:V) (H':List B) (cv':List (V×List B)),(if E.contains i then(match runT T ops E rest (i+1) (bI fr o.dst v) H' cv' with
      | some (vs,hs,f)=>some (v::vs,H'::hs,f)
      | none=>none)
     else(match runT T ops E rest (i+1) (bI fr o.dst v) H cv' with
      | some (vs,hs,f)=>some (v::vs,hs,f)
      | none=>none))=some (vs,hs,f)→
     ∃vs',vs=v::vs'∧(E.contains i=true→Hs (cV E i+1)=H')∧(oblT T ops C E tab Hs rest (i+1) (if E.contains i then cV E i+1 else cV E i) (bI fr o.dst v) vs'→bp T ops C (aR [] ops.toList) E Hs rest (i+1) (bI fr o.dst v) vs'):=fun v H' cv' hq=>by
    cases hE:E.contains i with
    | true =>
     rw[hE]at hq;simp only[if_true]at hq;split at hq
     ·rename_i vs' hs' f' hr';cases hq;refine⟨vs',rfl,fun _=>?_,fun hh=>?_⟩
      ·have:=hH 1 (by simp);simpa using this
      ·refine jz hasc hst rest (i+1) _ H' cv' vs' hs' _ hrest hr' (fun k hk=>?_) ?_
       ·rw[cJ hasc,hE];have:=hH (k+1) (by simp;omega);simp only[if_true,List.getElem?_cons_succ]at this ⊢;rw[show cV E i+1+k=cV E i+(k+1) by omega];exact this
       ·rw[cJ hasc,hE];simpa using hh
     ·cases hq
    | false =>
     rw[hE]at hq;simp only[Bool.false_eq_true,if_false]at hq;split at hq
     ·rename_i vs' hs' f' hr';cases hq;refine⟨vs',rfl,(fun h=>by cases h),fun hh=>?_⟩;refine jz hasc hst rest (i+1) _ H cv' vs' hs _ hrest hr' (fun k hk=>?_) ?_
      ·rw[cJ hasc,hE];simpa using hH k hk
      ·rw[cJ hasc,hE];simpa using hh
     ·cases hq
   cases hc:bC o.op with
   | some p =>
    obtain⟨g,args⟩:=p;rw[hc]at hr;simp only at hr;split at hr
    ·rename_i v H' cv';obtain⟨vs',rfl,hEH,hrec⟩:=fin v H' cv' hr;simp only[oblT,hw,hc]at h;simp only[bp,hw,hc];refine⟨?_,hrec h.2⟩
     cases hE:E.contains i with
     | true =>
      rw[hE]at h;simp only[if_true]at h ⊢;rw[mD hasc hE];exact h.1
     | false =>
      rw[hE]at h;simp only[Bool.false_eq_true,if_false]at h ⊢;obtain⟨s1,s2⟩:=hst i o ho hE
      have hns:dv o.op=false:=by
       cases hop:o.op<;>rw[hop]at hc<;>simp only[bC]at hc<;>first | (cases hc;done) | rfl
      rw[hns]at s2;have s2:=s2.resolve_left (by simp);refine allC_of (fun c hcm=>?_);split
      ·rename_i hp
       rcases s2 c (by simpa using hcm) hp with rfl | hm
       ·exact cz h.1 _ (by simp)
       ·exact cz h.1 _ (by simp[hm])
      ·trivial
    ·cases hr
   | none =>
    rw[hc]at hr;simp only at hr
    cases hop:aop T o.op (aU fr) H with
    | none=>rw[hop]at hr;cases hr
    | some q =>
     obtain⟨v,H'⟩:=q;rw[hop]at hr;simp only at hr;obtain⟨vs',rfl,hEH,hrec⟩:=fin v H' cv hr;simp only[oblT,hw,hc]at h;simp only[bp,hw,hc];refine⟨?_,hrec h.2⟩
     cases hE:E.contains i with
     | true =>
      simp only[if_true];rw[mD hasc hE,hHi,hEH hE];exact hop
     | false =>
      rw[hE]at h;simp only[Bool.false_eq_true,if_false,Bool.false_or]at h ⊢;obtain⟨s1,s2⟩:=hst i o ho hE;have hHH:=iV s1 hop;subst hHH;refine allC_of (fun c hcm=>?_);split
      ·rename_i hp
       cases hsc:dv o.op with
       | true=>exact jo hsc hop _
       | false =>
        rw[hsc]at h s2;simp only[Bool.false_eq_true,if_false]at h
        rcases(s2.resolve_left (by simp)) c (by simpa using hcm) hp with rfl | hm
        ·rw[hHi];exact hop
        ·exact cz h.1 _ hm
      ·trivial
where
 allC_of {p:Nat→Prop} : ∀{l:List Nat},(∀c∈l,p c)→ey p l
  | [],_=>trivial
  | c::l,h=>⟨h c (by simp),allC_of (fun d hd=>h d (by simp[hd]))⟩
theorem ai(hT:TOk P T)(hm:P.follows .mixedOrders=true){id:Nat}{ops:Array Oper}{Q:Exit→List V→List B→Prop}{fr:List V}{H:List B}(E:List Nat)(tab:List (Nat×List Nat))(cv:List (V×List B))(hst:statT ops E tab=true)
  (h:∀(C:V→List V→List B→(V→List B→Prop)→Prop) (K:List V→List B→Prop),(∀fv args H K',aV P fv args H K'→C fv args H K')→(∀fr H,Q .normal fr H→K fr H)→DrawT T ops E tab cv C K fr H):W P (.region id ops true) Q fr H:=by
 refine W_draw hT hm E cv fun C K hC hK=>?_
 have h1:=h C K hC hK;unfold DrawT at h1;unfold nE;simp only[statT,Bool.and_eq_true]at hst;obtain⟨⟨st1,st2⟩,st3⟩:=hst;split at h1
 ·exact h1.elim
 ·rename_i vs hs f hr;rw[hr];obtain⟨a1,a2,a3⟩:=h1
  have hasc:mP E=true:=by
   unfold nF at st2;simp only[Bool.and_eq_true]at st2;exact st2.1.1
  have h00:cV E 0=0:=by cases E<;>simp[cV]
  refine⟨⟨np st1 st2,a1⟩,?_,a3⟩;refine jz hasc (fun i o ho hE=>?_) ops.toList 0 fr H cv vs hs f (by simp) hr (fun k hk=>by rw[h00,Nat.zero_add]) (by rw[h00];exact a2);have hil:i<ops.size:=(Array.getElem?_eq_some_iff.1 ho).1;have:=List.all_eq_true.1 st3 i (by simpa using hil);rw[hE,ho,Bool.false_or]at this;simp only[Bool.and_eq_true,Bool.or_eq_true]at this;refine⟨this.1,this.2.imp (fun h=>h) (fun hall c hc hp=>?_)⟩;have h3:=List.all_eq_true.1 hall c (by simpa using hc);simp only[Bool.or_eq_true,Bool.not_eq_true',beq_iff_eq]at h3
  rcases h3 with(h3 | h3) | h3
  ·rw[hp]at h3;cases h3
  ·exact .inl h3
  ·exact .inr (List.contains_iff_mem.1 h3)
end
attribute [simp] DrawT runT oblT hY ey dv
end Go.AM
namespace Go.AM
open Go
def ni(p q:V):List V→List V→Prop
 | [],[]=>True
 | x::xs,y::ys=>(y=x∨(x=p∧y=q))∧ni p q xs ys
 | _,_=>False
theorem ni.len{p q:V} : ∀{xs ys:List V},ni p q xs ys→xs.length=ys.length
 | [],[],_=>rfl
 | [],_::_,h=>h.elim
 | _::_,[],h=>h.elim
 | _::_,_::_,h=>by simp[h.2.len]
theorem ni.at_{p q:V} : ∀{xs ys:List V},ni p q xs ys→∀(i:Nat) x y,xs[i]?=some x→ys[i]?=some y→y=x∨(x=p∧y=q)
 | [],_,_,i,x,y,h,_=>by simp at h
 | _::_,[],h,_,_,_,_,_=>h.elim
 | a::xs,b::ys,h,0,x,y,h1,h2=>by simp at h1 h2;subst h1;subst h2;exact h.1
 | a::xs,b::ys,h,i+1,x,y,h1,h2=>h.2.at_ i x y (by simpa using h1) (by simpa using h2)
def gQ(q:V)(sl:List Nat):Nat→List V→List V
 | _,[]=>[]
 | i,v::r=>(if sl.contains i then q else v)::gQ q sl (i+1) r
section
variable {P:Program} {T:Ty}
def St.frz(s:St)(k:Nat)(bl:B):St:={ s with H:=s.H.set k bl }
theorem frz_lv{s:St}{k e z:Nat}{xs:List V}{fz:Bool}(hk:s.H[k]?=some (.buf e z xs fz)){i:Nat}(h:Lv (s.frz k (.buf e z xs true)) i):Lv s i:=by
 have hil:i<s.H.length:=by have:=h.1;simpa[St.frz] using this
 refine⟨hil,fun e' z' xs' fz' hb=>?_⟩;by_cases hik:i=k
 ·subst hik;exact h.2 e z xs true (by simp only[St.frz];rw[List.getElem?_set_self hil])
 ·exact h.2 e' z' xs' fz' (by simp only[St.frz];rw[List.getElem?_set_ne (Ne.symm hik)];exact hb)
theorem frz_ok{s:St}(hg:Good s){k e z:Nat}{xs:List V}{fz:Bool}(hk:s.H[k]?=some (.buf e z xs fz)):
  Good (s.frz k (.buf e z xs true))∧Step s (s.frz k (.buf e z xs true))∧∀u,Rel s (.buf k 0 xs.length xs.length) u→Rel (s.frz k (.buf e z xs true)) (.lst z false xs) u:=by
 have hkl:=aE hk
 have hst:Step s (s.frz k (.buf e z xs true)):=⟨rfl,rfl,rfl,rfl,Nat.le_refl _,fun _ _ _=>rfl,by simp[St.frz],fun i h1 h2=>absurd h1 (by have:=h2.1;simp[St.frz]at this;omega),fun i bl hi=>by
  by_cases hik:i=k
  ·subst hik;rw[hk]at hi;cases hi;exact⟨xs,true,by simp[St.frz,hkl],Nat.le_refl _,fun _=>⟨rfl,rfl⟩,fun _=>⟨rfl,rfl,fun _=>rfl⟩,.inl rfl,.inl⟩
  ·have hk':(s.frz k (.buf e z xs true)).H[i]?=some bl:=by simp only[St.frz];rw[List.getElem?_set_ne (Ne.symm hik)];exact hi
   cases bl with
   | cells cs=>exact⟨rfl,cs,hk'⟩
   | map kk es=>exact⟨rfl,es,hk'⟩
   | buf e z xs fz=>exact⟨xs,fz,hk',Nat.le_refl _,fun _=>⟨rfl,rfl⟩,fun hf=>⟨hf,rfl,fun _=>rfl⟩,.inl rfl,.inl⟩⟩
 have hgd:Good (s.frz k (.buf e z xs true)):=by
  refine⟨hg.fl,fun i hi=>hg.lt i (frz_lv hk hi),fun i j hi hj=>hg.inj i j (frz_lv hk hi) (frz_lv hk hj),fun i bl hi=>?_⟩;by_cases hik:i=k
  ·subst hik;simp only[St.frz]at hi;rw[List.getElem?_set_self hkl]at hi;cases hi;obtain⟨vs,g2,g3,g4,g5,g6,g7⟩:=hg.blk i _ hk;exact⟨vs,g2,g3,g4,g5,g6,fun a x j c u h1 h2 h3=>(g7 a x j c u h1 h2 h3).step hst⟩
  ·have hi':s.H[i]?=some bl:=by simp only[St.frz]at hi;rwa [List.getElem?_set_ne (Ne.symm hik)]at hi
   exact(hg.blk i bl hi').step hst hi' rfl rfl (fun _=>rfl)
 refine⟨hgd,hst,fun u h=>?_⟩
 cases h with
 | buf _ _ _ _ e2 z2 xs2 fz2 A l c hk2 ht hh =>
  rw[hk]at hk2;cases hk2;obtain⟨hA,rfl,hcap,_⟩:=hh rfl;obtain⟨vs,g2,g3,g4,g5,g6,g7⟩:=hg.blk k _ hk;by_cases hl0:xs.length=0
  ·have hx:xs=[]:=List.eq_nil_of_length_eq_zero hl0;subst hx;exact dO z false A c (fun h=>by cases h)
  have hκ:s.κ k≠0:=by omega
  have hA:=hA hκ;subst hA;have hlk:=lvB hk hκ
  have hP:(s.frz k (.buf e z xs true)).Prot (s.φ k):=by
   refine⟨(hg.lt k hlk).1,(hg.lt k hlk).2,fun j hj e'=>?_⟩;have:=hg.inj j k (frz_lv hk hj) hlk e';subst this;exact⟨e,z,xs,by simp only[St.frz];rw[List.getElem?_set_self hkl]⟩
  refine .lst z false xs _ c (s.φ k) (0*z) (fun i j=>(s.w.cell? ⟨s.φ k,0*z+i*z+j,none⟩).getD Go.undef) (by omega) (by simp) (fun _=>⟨rfl,hP⟩) g6 (fun i x j d hx hd=>?_) (fun i x j d hx hd=>?_)
  ·obtain⟨_,_,h3⟩:=iz hg hk hx;obtain⟨u,hu,_⟩:=h3 j d hd;show s.w.cell? _=_;rw[Nat.zero_mul,Nat.zero_add,hu];rfl
  ·obtain⟨_,_,h3⟩:=iz hg hk hx;obtain⟨u,hu,hr⟩:=h3 j d hd;rw[Nat.zero_mul,Nat.zero_add,hu];exact hr.step hst
theorem frz_rep{s:St}(hg:Good s){k e z:Nat}{xs:List V}{fz:Bool}(hk:s.H[k]?=some (.buf e z xs fz)){x y:V}{u:Value}(h:Rel s x u)(ho:y=x∨(x = .buf k 0 xs.length xs.length∧y = .lst z false xs)):Rel (s.frz k (.buf e z xs true)) y u:=by
 obtain⟨_,h2,h3⟩:=frz_ok hg hk
 rcases ho with rfl | ⟨rfl,rfl⟩
 ·exact h.step h2
 ·exact h3 u h
theorem W_frz(k:Nat)(sl:List Nat){c:Code}{Q:Exit→List V→List B→Prop}{fr:List V}{H:List B}{e z:Nat}{xs:List V}{fz:Bool}(hk:H[k]?=some (.buf e z xs fz))
  (ho:ni (.buf k 0 xs.length xs.length) (.lst z false xs) fr (gQ (.lst z false xs) sl 0 fr)) (h:W P c Q (gQ (.lst z false xs) sl 0 fr) (H.set k (.buf e z xs true))):W P c Q fr H:=by
 intro s a hA hg hf hd;obtain⟨rfl,hZ⟩:=hA;obtain⟨p1,p2,_⟩:=frz_ok hg hk;have hl:=ho.len
 have:=h (s.frz k (.buf e z xs true)) a ⟨rfl,hZ.step p2⟩ p1 ⟨by rw[hf.len,hl],fun i v u hv hu=>by
  have hx:fr[i]?=some (fr[i]'(by have:=aE hv;omega)):=List.getElem?_eq_getElem _
  exact frz_rep hg hk (hf.rel i _ u hx hu) (ho.at_ i _ v hx hv)⟩ hd
 exact wp_mono this fun _ _ _ hl=>cS p2 hl
theorem jh(k:Nat)(sl:List Nat)(k0:Nat)(sc:List Nat){c:Code}{Q:Exit→List V→List B→Prop}{fr:List V}{H:List B}{e z:Nat}{xs cs:List V}{fz:Bool}(hk:H[k]?=some (.buf e z xs fz))(hk0:H[k0]?=some (.cells cs))
  (ho:ni (.buf k 0 xs.length xs.length) (.lst z false xs) fr (gQ (.lst z false xs) sl 0 fr)) (hc:ni (.buf k 0 xs.length xs.length) (.lst z false xs) cs (gQ (.lst z false xs) sc 0 cs))
  (h:W P c Q (gQ (.lst z false xs) sl 0 fr) ((H.set k (.buf e z xs true)).set k0 (.cells (gQ (.lst z false xs) sc 0 cs)))):W P c Q fr H:=by
 intro s a hA hg hf hd;obtain⟨rfl,hZ⟩:=hA;obtain⟨p1,p2,_⟩:=frz_ok hg hk;have hl:=ho.len;have hlc:=hc.len
 have hne:k0≠k:=fun h=>by subst h;rw[hk]at hk0;cases hk0
 generalize hs1:s.frz k (.buf e z xs true)=s1 at p1 p2
 have hk1:s1.H[k0]?=some (.cells cs):=by rw[←hs1];simp only[St.frz];rw[List.getElem?_set_ne (Ne.symm hne)];exact hk0
 have hr1:∀x y u,Rel s x u→(y=x∨(x = .buf k 0 xs.length xs.length∧y = .lst z false xs))→Rel s1 y u:=fun x y u h1 h2=>by subst hs1;exact frz_rep hg hk h1 h2
 have hw1:s1.w=s.w:=by rw[←hs1];rfl
 have hst:=bq (w:=s1.w) (bl':=.cells (gQ (.lst z false xs) sc 0 cs)) p1 hk1 (lvC hk1) trivial rfl rfl rfl (Nat.le_refl _) (fun _ _ _=>rfl)
 have hgd:Good (s1.setB s1.w k0 (.cells (gQ (.lst z false xs) sc 0 cs))):=by
  refine cH p1 hk1 (lvC hk1) trivial rfl rfl rfl (Nat.le_refl _) (fun _ _ _=>rfl) (fun hst=>?_);obtain⟨h1,vs,t,h2,h3,h4⟩:=hg.blk k0 _ hk0
  have hφ:s1.φ k0=s.φ k0:=by rw[←hs1];rfl
  refine⟨fun d hd=>?_,vs,t,by show s1.w.heap[s1.φ k0]?=_;rw[hw1,hφ];exact h2,by omega,fun i d u hd hu=>?_⟩
  ·obtain⟨i,hi⟩:=List.mem_iff_getElem?.1 hd;have hx:cs[i]?=some (cs[i]'(by have:=aE hi;omega)):=List.getElem?_eq_getElem _
   rcases hc.at_ i _ d hx hi with h9 | ⟨_,h9⟩
   ·rw[h9];exact h1 _ (List.getElem_mem _)
   ·rw[h9];rfl
  ·have hx:cs[i]?=some (cs[i]'(by have:=aE hd;omega)):=List.getElem?_eq_getElem _;exact(hr1 _ d u (h4 i _ u hx hu) (hc.at_ i _ d hx hd)).step hst
 have hH:(s1.setB s1.w k0 (.cells (gQ (.lst z false xs) sc 0 cs))).H=(s.H.set k (.buf e z xs true)).set k0 (.cells (gQ (.lst z false xs) sc 0 cs)):=by
  rw[←hs1];rfl
 have:=h (s1.setB s1.w k0 (.cells (gQ (.lst z false xs) sc 0 cs))) a ⟨hH,(hZ.step p2).step hst⟩ hgd ⟨by rw[hf.len,hl],fun i v u hv hu=>by
  have hx:fr[i]?=some (fr[i]'(by have:=aE hv;omega)):=List.getElem?_eq_getElem _
  exact(hr1 _ v u (hf.rel i _ u hx hu) (ho.at_ i _ v hx hv)).step hst⟩ hd
 have e1:(s1.setB s1.w k0 (.cells (gQ (.lst z false xs) sc 0 cs))).w=s.w:=hw1;rw[e1]at this
 exact wp_mono this fun _ _ _ hl=>cS (p2.trans hst) hl
theorem callF{f:FuncId}{args args':List V}{H:List B}{v:V}(k:Nat){e z:Nat}{xs:List V}{fz:Bool}(hk:H[k]?=some (.buf e z xs fz))(h:aS P f args' fun r=>r=v)(hr:ni (.buf k 0 xs.length xs.length) (.lst z false xs) args args')(hp:∀a∈args',Pure a):
  aV P (.fn f []) args H fun r H'=>r=v∧H'=H.set k (.buf e z xs true):=by
 simp only[aV,List.append_nil];have h1:=fL (H:=H.set k (.buf e z xs true)) h (rfl:args'.length=args'.length) (fun i a a' ha ha'=>by rw[ha]at ha';cases ha';exact .pure a (hp a (List.mem_of_getElem? ha))) (.inl hp);refine⟨h1.1,fun s vals hA hg hsz hrel=>?_⟩;obtain⟨rfl,hZ⟩:=hA;obtain⟨p1,p2,_⟩:=frz_ok hg hk;have hl:=hr.len
 refine(h1.2 (s.frz k (.buf e z xs true)) vals ⟨rfl,hZ.step p2⟩ p1 (by omega) (fun i b u hb hu=>?_)).mono fun e' w' ⟨u,s',r,a1,a2,a3,a4,a5,a6,a7,a8⟩=>⟨u,s',r,a1,a2,a3,p2.trans a4,a5,a8,a6⟩
 have hx:args[i]?=some (args[i]'(by have:=aE hb;omega)):=List.getElem?_eq_getElem _;exact frz_rep hg hk (hrel i _ u hx hu) (hr.at_ i _ b hx hb)
end
attribute [simp] ni gQ
end Go.AM
namespace Go.AM
open Go
def oblS(T:Ty)(ops:Array Oper)(C:V→List V→List B→(V→List B→Prop)→Prop)(E S:List Nat)(tab:List (Nat×List Nat))(Hs:Nat→List B):List Oper→Nat→Nat→List V→List V→Prop
 | [],_,_,_,_=>True
 | _::_,_,_,_,[]=>False
 | o::rest,i,c,fr,v::vs =>
  (S.contains i=true→bQ ops fr o=some false)∧(match bQ ops fr o with
   | some true=>match bC o.op with
    | some (f,args)=>if E.contains i then C (aU fr f) (args.map (aU fr)) (Hs c) (fun r H'=>r=v∧H'=Hs (c+1))
     else ey (fun c'=>C (aU fr f) (args.map (aU fr)) (Hs c') (fun r H'=>r=v∧H'=Hs c')) (c::hY tab i)
    | none=>if E.contains i||dv o.op then True else ey (fun c'=>aop T o.op (aU fr) (Hs c')=some (v,Hs c')) (hY tab i)
   | _=>True)∧oblS T ops C E S tab Hs rest (i+1) (if E.contains i then c+1 else c) (bI fr o.dst v) vs
def DrawS(T:Ty)(ops:Array Oper)(E S:List Nat)(tab:List (Nat×List Nat))(cv:List (V×List B))(C:V→List V→List B→(V→List B→Prop)→Prop)(K:List V→List B→Prop)(fr:List V)(H:List B):Prop :=
 match runT T ops E ops.toList 0 fr H cv with
 | none=>False
 | some (vs,hs,f)=>hs.length=E.length∧oblS T ops C E S tab (fun c=>(H::hs)[c]?.getD []) ops.toList 0 0 fr vs∧K f ((H::hs)[E.length]?.getD [])
section
variable {P:Program} {T:Ty}
end
attribute [simp] DrawS oblS
end Go.AM
namespace Go.AM
open Go
inductive ExpX (H:List B):V→V→Prop
 | pure (v:V) (h:Pure v):ExpX H v v
 | buf (k e z:Nat) (xs:List V) (fz:Bool) (hk:H[k]?=some (.buf e z xs fz)) (hp:∀x∈xs,Pure x):ExpX H (.buf k 0 xs.length xs.length) (.lst z false xs)
 | bufx (k e z:Nat) (xs ys:List V) (fz:Bool) (hk:H[k]?=some (.buf e z xs fz)) (hl:xs.length=ys.length) (h:∀(i:Nat) c d,xs[i]?=some c→ys[i]?=some d→ExpX H c d):ExpX H (.buf k 0 xs.length xs.length) (.lst z false ys)
 | agg (cs ds:List V) (hl:cs.length=ds.length) (h:∀(i:Nat) c d,cs[i]?=some c→ds[i]?=some d→ExpX H c d):ExpX H (.agg cs) (.agg ds)
 | tup (cs ds:List V) (hl:cs.length=ds.length) (h:∀(i:Nat) c d,cs[i]?=some c→ds[i]?=some d→ExpX H c d):ExpX H (.tup cs) (.tup ds)
theorem mi{f:Nat→V→Option V} : ∀{xs ys:List V},xs.length=ys.length→(∀(i:Nat) x y,xs[i]?=some x→ys[i]?=some y→∃d0,∀d,d0≤d→f d x=some y)→∃d0,∀d,d0≤d→exL (f d) xs=some ys
 | [],[],_,_=>⟨0,fun _ _=>rfl⟩
 | x::xs,y::ys,hl,h=>by
  obtain⟨d1,h1⟩:=h 0 x y rfl rfl;obtain⟨d2,h2⟩:=mi (xs:=xs) (ys:=ys) (by simpa using hl) (fun i a b ha hb=>h (i+1) a b (by simpa using ha) (by simpa using hb));exact⟨max d1 d2,fun d hd=>by simp only[exL,h1 d (by omega),h2 d (by omega)]⟩
theorem ExpX.ex{H:List B}{v v':V}(h:ExpX H v v'):∃d0,∀d,d0≤d→exV H 0 d v=some v':=by
 induction h with
 | pure v h=>exact ln h
 | buf k e z xs fz hk hp =>
  obtain⟨d0,h0⟩:=fw (f:=exV H 0) (fun v hv=>ln (hp v hv));refine⟨d0+1,fun d hd=>?_⟩;obtain⟨m,rfl⟩:∃m,d=m+1:=⟨d-1,by omega⟩;simp only[exV,Nat.not_lt_zero,if_false,hk];rw[if_pos ⟨by first | trivial | rfl,by omega⟩,List.drop_zero,List.take_length,h0 m (by omega)]
 | bufx k e z xs ys fz hk hl _ ih =>
  obtain⟨d0,h0⟩:=mi (f:=exV H 0) hl ih;refine⟨d0+1,fun d hd=>?_⟩;obtain⟨m,rfl⟩:∃m,d=m+1:=⟨d-1,by omega⟩;simp only[exV,Nat.not_lt_zero,if_false,hk];rw[if_pos ⟨by first | trivial | rfl,by omega⟩,List.drop_zero,List.take_length,h0 m (by omega)]
 | agg cs ds hl _ ih =>
  obtain⟨d0,h0⟩:=mi (f:=exV H 0) hl ih;exact⟨d0+1,fun d hd=>by obtain⟨m,rfl⟩:∃m,d=m+1:=⟨d-1,by omega⟩;simp only[exV,h0 m (by omega)]⟩
 | tup cs ds hl _ ih =>
  obtain⟨d0,h0⟩:=mi (f:=exV H 0) hl ih;exact⟨d0+1,fun d hd=>by obtain⟨m,rfl⟩:∃m,d=m+1:=⟨d-1,by omega⟩;simp only[exV,h0 m (by omega)]⟩
theorem ExpX.agg2{H:List B}{a b c d:V}(h1:ExpX H a c)(h2:ExpX H b d):ExpX H (.agg [a,b]) (.agg [c,d]):=.agg _ _ rfl (fun i x y hx hy=>by
 match i with
 | 0=>simp at hx hy;subst hx;subst hy;exact h1
 | 1=>simp at hx hy;subst hx;subst hy;exact h2
 | i+2=>simp at hx)
theorem iI{H:List B}{k len e z:Nat}{xs:List V}{fz:Bool}(hk:H[k]?=some (.buf e z xs fz))(hl:len=xs.length)(hp:∀x∈xs,Pure x):ExpX H (.buf k 0 len len) (.lst z false xs):=by
 subst hl;exact .buf k e z xs fz hk hp
theorem cU{P:Program}{f:FuncId}{args:List V}{K:V→Prop}(h:az P f args [] fun r H=>∃r',ExpX H r r'∧Pure r'∧K r'):aS P f args K:=by
 refine⟨h.1,fun F w vals hZ hF hsz hrel=>?_⟩
 refine(h.2 (base F w) vals ⟨rfl,hZ⟩ (base_good hF) hsz hrel).mono fun e w' ⟨u,s',r,a1,a2,a3,a4,a5,r',a6,a7,a8⟩=>?_
 subst a2;have hb:=gk a4;refine⟨u,r',a1,a7,?_,hb,a8⟩;have hFs:s'.F=F:=a4.F;obtain⟨d0,hd⟩:=a6.ex;have hr:=ex_rel (H:=[]) (G:=s'.H) a3 rfl d0 r r' u a5 (hd d0 (Nat.le_refl _));exact hr.pure_ (t:=base F s'.w) a7 (fun b hb=>⟨⟨hb.1,fun hf=>hb.2.1 (by show s'.F b;rw[hFs];exact hf),fun k hk=>by have:=hk.1;simp[base]at this⟩,rfl⟩)
end Go.AM
namespace Go.AM
open Go
section
variable {P:Program} {T:Ty}
end
def mB:Nat→Nat→List Nat→List Bool
 | 0,_,_=>[]
 | n+1,i,l=>l.contains i::mB n (i+1) l
theorem W_loopM{P:Program}{σ:Type}(n:Nat)(l:List Nat){ms:List Bool}(hms:mB n 0 l=ms)(ok:σ→Prop)(μ:σ→Nat)(g:σ→List (Nat×V))(Hf:σ→List B){c:Code}{Q:Exit→List V→List B→Prop}{fr:List V}{H:List B}(x0:σ)(h0:ok x0)(hF:nD (ovr (fm ms fr) (g x0)) fr)(hH:H=Hf x0)
  (hmin:∀x,ok x→H.length≤(Hf x).length)
  (hround:∀x,ok x→∀(N:List V→List B→Prop) (Q':Exit→List V→List B→Prop),(∀y fr' H',ok y→μ y<μ x→nD (ovr (fm ms fr) (g y)) fr'→(∃G,H'=Hf y++G)→(∀v∈ovr (fm ms fr) (g y),rb (Hf y).length v)→(∀bl∈Hf y,rbB (Hf y).length bl)→N fr' H')→
   (∀e fr' H',Q e fr' H'→Q' e fr' H')→W P c (kz N Q') (ovr (fm ms fr) (g x)) (Hf x)):W P (.loop c) Q fr H :=
 W_loopV ms ok μ g Hf x0 h0 hF hH hmin hround
end Go.AM
end
namespace Go.Proofs.YteijbpppalhihaaGreat
section
open Go Go.AM
def ti1:TI:=⟨.func #[] #[] false,1,8,.nilFn,.nilFunc,none,false,false⟩
def ti2:TI:=⟨.int .i64,1,8,.int .i64 0,.int .i64 0,some (.int .i64),false,false⟩
def ti3:TI:=⟨.int .i64,1,8,.int .i64 0,.int .i64 0,some (.int .i64),false,false⟩
def ti4:TI:=⟨.bool,1,1,.bool false,.bool false,some .bool,false,false⟩
def ti5:TI:=⟨.int .u8,1,1,.int .u8 0,.int .u8 0,some (.int .u8),false,false⟩
def ti9:TI:=⟨.string,1,16,.str ByteArray.empty,.string ByteArray.empty,some .str,false,false⟩
def ti22:TI:=⟨.slice 155,1,24,.nilS,.slice none 0 0,none,false,false⟩
def ti24:TI:=⟨.struct #[⟨ "Attrs",5,0,false, "", "",0⟩,⟨ "Gap",5,1,false, "", "",1⟩,⟨ "Rows",22,2,false, "", "",8⟩],3,32,.agg [.int .u8 0,.int .u8 0,.nilS],.agg #[.int .u8 0,.int .u8 0,.slice none 0 0],none,true,false⟩
def ti25:TI:=⟨.slice 158,1,24,.nilS,.slice none 0 0,none,false,false⟩
def ti27:TI:=⟨.struct #[⟨ "T",24,0,false, "", "",0⟩,⟨ "F",25,3,false, "", "",32⟩],4,56,.agg [.int .u8 0,.int .u8 0,.nilS,.nilS],.agg #[.int .u8 0,.int .u8 0,.slice none 0 0,.slice none 0 0],none,true,false⟩
def ti28:TI:=⟨.int .u16,1,2,.int .u16 0,.int .u16 0,some (.int .u16),false,false⟩
def ti29:TI:=⟨.slice 9,1,24,.nilS,.slice none 0 0,none,false,false⟩
def ti30:TI:=⟨.slice 66,1,24,.nilS,.slice none 0 0,none,false,false⟩
def ti32:TI:=⟨.struct #[⟨ "Name",9,0,false, "", "",0⟩,⟨ "Attrs",29,1,false, "", "",16⟩,⟨ "Rows",30,2,false, "", "",40⟩],3,64,.agg [.str ByteArray.empty,.nilS,.nilS],.agg #[.string ByteArray.empty,.slice none 0 0,.slice none 0 0],none,true,false⟩
def ti33:TI:=⟨.slice 46,1,24,.nilS,.slice none 0 0,none,false,false⟩
def ti37:TI:=⟨.slice 49,1,24,.nilS,.slice none 0 0,none,false,false⟩
def ti39:TI:=⟨.int .i64,1,8,.int .i64 0,.int .i64 0,some (.int .i64),false,false⟩
def ti43:TI:=⟨.int .u32,1,4,.int .u32 0,.int .u32 0,some (.int .u32),false,false⟩
def ti44:TI:=⟨.int .u32,1,4,.int .u32 0,.int .u32 0,some (.int .u32),false,false⟩
def ti46:TI:=⟨.struct #[⟨ "Lhs",44,0,false, "", "",0⟩,⟨ "Rhs",44,1,false, "", "",4⟩],2,8,.agg [.int .u32 0,.int .u32 0],.agg #[.int .u32 0,.int .u32 0],none,true,false⟩
def ti49:TI:=⟨.struct #[⟨ "ID",2,0,false, "", "",0⟩,⟨ "Attr",3,1,false, "", "",8⟩],2,16,.agg [.int .i64 0,.int .i64 0],.agg #[.int .i64 0,.int .i64 0],none,true,false⟩
def ti52:TI:=⟨.array 2 5,2,2,.agg [.int .u8 0,.int .u8 0],.agg #[.int .u8 0,.int .u8 0],none,true,false⟩
def ti64:TI:=⟨.slice 68,1,24,.nilS,.slice none 0 0,none,false,false⟩
def ti66:TI:=⟨.struct #[⟨ "ID",2,0,false, "", "",0⟩,⟨ "Values",64,1,false, "", "",8⟩],2,32,.agg [.int .i64 0,.nilS],.agg #[.int .i64 0,.slice none 0 0],none,true,false⟩
def ti68:TI:=⟨.struct #[⟨ "Kind",3,0,false, "", "",0⟩,⟨ "Num",2,1,false, "", "",8⟩,⟨ "Str",9,2,false, "", "",16⟩],3,32,.agg [.int .i64 0,.int .i64 0,.str ByteArray.empty],.agg #[.int .i64 0,.int .i64 0,.string ByteArray.empty],none,true,false⟩
def ti71:TI:=⟨.slice 37,1,24,.nilS,.slice none 0 0,none,false,false⟩
def ti72:TI:=⟨.slice 90,1,24,.nilS,.slice none 0 0,none,false,false⟩
def ti74:TI:=⟨.struct #[⟨ "Cells",37,0,false, "", "",0⟩,⟨ "Table",32,1,false, "", "",24⟩,⟨ "Cores",71,4,false, "", "",88⟩,⟨ "Proof",72,5,false, "", "",112⟩],6,136,.agg [.nilS,.str ByteArray.empty,.nilS,.nilS,.nilS,.nilS],.agg #[.slice none 0 0,.string ByteArray.empty,.slice none 0 0,.slice none 0 0,.slice none 0 0,.slice none 0 0],none,true,false⟩
def ti80:TI:=⟨.int .i8,1,1,.int .i8 0,.int .i8 0,some (.int .i8),false,false⟩
def ti82:TI:=⟨.struct #[⟨ "Kind",5,0,false, "", "",0⟩,⟨ "At",5,1,false, "", "",1⟩,⟨ "By",80,2,false, "", "",2⟩],3,3,.agg [.int .u8 0,.int .u8 0,.int .i8 0],.agg #[.int .u8 0,.int .u8 0,.int .i8 0],none,true,false⟩
def ti83:TI:=⟨.array 2 82,6,6,.agg [.int .u8 0,.int .u8 0,.int .i8 0,.int .u8 0,.int .u8 0,.int .i8 0],.agg #[.int .u8 0,.int .u8 0,.int .i8 0,.int .u8 0,.int .u8 0,.int .i8 0],none,true,false⟩
def ti88:TI:=⟨.slice 151,1,24,.nilS,.slice none 0 0,none,false,false⟩
def ti90:TI:=⟨.struct #[⟨ "Vertex",3,0,false, "", "",0⟩,⟨ "Shares",88,1,false, "", "",8⟩],2,32,.agg [.int .i64 0,.nilS],.agg #[.int .i64 0,.slice none 0 0],none,true,false⟩
def ti96:TI:=⟨.slice 115,1,24,.nilS,.slice none 0 0,none,false,false⟩
def ti105:TI:=⟨.map 2 4,1,8,.nilM,.map none,none,false,false⟩
def ti107:TI:=⟨.map 3 68,1,8,.nilM,.map none,none,false,false⟩
def ti109:TI:=⟨.slice 3,1,24,.nilS,.slice none 0 0,none,false,false⟩
def ti110:TI:=⟨.slice 113,1,24,.nilS,.slice none 0 0,none,false,false⟩
def ti112:TI:=⟨.struct #[⟨ "n",3,0,false, "", "dross/update",0⟩,⟨ "parent",109,1,false, "", "dross/update",8⟩,⟨ "known",110,2,false, "", "dross/update",32⟩],3,56,.agg [.int .i64 0,.nilS,.nilS],.agg #[.int .i64 0,.slice none 0 0,.slice none 0 0],none,true,false⟩
def ti113:TI:=⟨.pointer 68,1,8,.nilP,.pointer none,none,false,false⟩
def ti115:TI:=⟨.slice 117,1,24,.nilS,.slice none 0 0,none,false,false⟩
def ti117:TI:=⟨.struct #[⟨ "V",68,0,false, "", "",0⟩,⟨ "Symbol",3,3,false, "", "",32⟩],4,40,.agg [.int .i64 0,.int .i64 0,.str ByteArray.empty,.int .i64 0],.agg #[.int .i64 0,.int .i64 0,.string ByteArray.empty,.int .i64 0],none,true,false⟩
def ti126:TI:=⟨.slice 2,1,24,.nilS,.slice none 0 0,none,false,false⟩
def ti127:TI:=⟨.slice 109,1,24,.nilS,.slice none 0 0,none,false,false⟩
def ti129:TI:=⟨.struct #[⟨ "Weights",126,0,false, "", "",0⟩,⟨ "Edges",127,1,false, "", "",24⟩],2,48,.agg [.nilS,.nilS],.agg #[.slice none 0 0,.slice none 0 0],none,true,false⟩
def ti151:TI:=⟨.struct #[⟨ "Edge",3,0,false, "", "",0⟩,⟨ "Amount",2,1,false, "", "",8⟩],2,16,.agg [.int .i64 0,.int .i64 0],.agg #[.int .i64 0,.int .i64 0],none,true,false⟩
def ti155:TI:=⟨.slice 5,1,24,.nilS,.slice none 0 0,none,false,false⟩
def ti158:TI:=⟨.struct #[⟨ "L",5,0,false, "", "",0⟩,⟨ "R",5,1,false, "", "",1⟩],2,2,.agg [.int .u8 0,.int .u8 0],.agg #[.int .u8 0,.int .u8 0],none,true,false⟩
def ti178:TI:=⟨.struct #[⟨ "l",109,0,false, "", "dross/hitset",0⟩,⟨ "weight",2,1,false, "", "dross/hitset",24⟩],2,32,.agg [.nilS,.int .i64 0],.agg #[.slice none 0 0,.int .i64 0],none,true,false⟩
def ti179:TI:=⟨.pointer 216,1,8,.nilP,.pointer none,none,false,false⟩
def ti186:TI:=⟨.int .u64,1,8,.int .u64 0,.int .u64 0,some (.int .u64),false,false⟩
def ti191:TI:=⟨.struct #[⟨ "Chosen",109,0,false, "", "",0⟩,⟨ "Excluded",109,1,false, "", "",24⟩,⟨ "Bound",2,2,false, "", "",48⟩],3,56,.agg [.nilS,.nilS,.int .i64 0],.agg #[.slice none 0 0,.slice none 0 0,.int .i64 0],none,true,false⟩
def ti216:TI:=⟨.struct #[⟨ "in",129,0,false, "", "dross/hitset",0⟩,⟨ "marks",109,2,false, "", "dross/hitset",48⟩,⟨ "left",3,3,false, "", "dross/hitset",72⟩],4,80,.agg [.nilS,.nilS,.nilS,.int .i64 0],.agg #[.slice none 0 0,.slice none 0 0,.slice none 0 0,.int .i64 0],none,true,false⟩
def ti222:TI:=⟨.int .i64,1,8,.int .i64 0,.int .i64 0,some (.int .i64),false,false⟩
def ti230:TI:=⟨.int .u64,1,8,.int .u64 0,.int .u64 0,some (.int .u64),false,false⟩
def ti249:TI:=⟨.slice 72,1,24,.nilS,.slice none 0 0,none,false,false⟩
def ti251:TI:=⟨.int .u64,1,8,.int .u64 0,.int .u64 0,some (.int .u64),false,false⟩
def ti269:TI:=⟨.pointer 251,1,8,.nilP,.pointer none,none,false,false⟩
def tys:List (Option TI):=[none,some ti1,some ti2,some ti3,some ti4,some ti5,none,none,none,some ti9,none,none,none,none,none,none,none,none,none,none,none,none,some ti22,none,some ti24,some ti25,none,some ti27,some ti28,some ti29,some ti30,none,some ti32,some ti33,none,none,none,some ti37,none,some ti39,none,none,none,some ti43,some ti44,none,some ti46,none,none,some ti49,none,none,some ti52,none,none,none,none,none,none,none,none,none,none,none,some ti64,none,some ti66,none,some ti68,none,none,some ti71,some ti72,none,some ti74,none,none,none,none,none,some ti80,none,some ti82,some ti83,none,none,none,none,some ti88,none,some ti90,none,none,none,none,none,some ti96,none,none,none,none,none,none,none,none,some ti105,none,some ti107,none,some ti109,some ti110,none,some ti112,some ti113,none,some ti115,none,some ti117,none,none,none,none,none,none,none,none,some ti126,some ti127,none,some ti129,none,none,none,none,none,none,none,none,none,none,none,none,none,none,none,none,none,none,none,none,none,some ti151,none,none,none,some ti155,none,none,some ti158,none,none,none,none,none,none,none,none,none,none,none,none,none,none,none,none,none,none,none,some ti178,some ti179,none,none,none,none,none,none,some ti186,none,none,none,none,some ti191,none,none,none,none,none,none,none,none,none,none,none,none,none,none,none,none,none,none,none,none,none,none,none,none,some ti216,none,none,none,none,none,some ti222,none,none,none,none,none,none,none,some ti230,none,none,none,none,none,none,none,none,none,none,none,none,none,none,none,none,none,none,some ti249,none,some ti251,none,none,none,none,none,none,none,none,none,none,none,none,none,none,none,none,none,some ti269]
def T:Ty:=fun t=>(tys[t]?).getD none
@[simp] theorem T_2:T 2=some ⟨.int .i64,1,8,.int .i64 0,.int .i64 0,some (.int .i64),false,false⟩:=rfl
@[simp] theorem T_3:T 3=some ⟨.int .i64,1,8,.int .i64 0,.int .i64 0,some (.int .i64),false,false⟩:=rfl
@[simp] theorem T_4:T 4=some ⟨.bool,1,1,.bool false,.bool false,some .bool,false,false⟩:=rfl
@[simp] theorem T_5:T 5=some ⟨.int .u8,1,1,.int .u8 0,.int .u8 0,some (.int .u8),false,false⟩:=rfl
@[simp] theorem T_9:T 9=some ⟨.string,1,16,.str ByteArray.empty,.string ByteArray.empty,some .str,false,false⟩:=rfl
@[simp] theorem T_22:T 22=some ⟨.slice 155,1,24,.nilS,.slice none 0 0,none,false,false⟩:=rfl
@[simp] theorem T_24:T 24=some ⟨.struct #[⟨ "Attrs",5,0,false, "", "",0⟩,⟨ "Gap",5,1,false, "", "",1⟩,⟨ "Rows",22,2,false, "", "",8⟩],3,32,.agg [.int .u8 0,.int .u8 0,.nilS],.agg #[.int .u8 0,.int .u8 0,.slice none 0 0],none,true,false⟩:=rfl
@[simp] theorem T_25:T 25=some ⟨.slice 158,1,24,.nilS,.slice none 0 0,none,false,false⟩:=rfl
@[simp] theorem T_27:T 27=some ⟨.struct #[⟨ "T",24,0,false, "", "",0⟩,⟨ "F",25,3,false, "", "",32⟩],4,56,.agg [.int .u8 0,.int .u8 0,.nilS,.nilS],.agg #[.int .u8 0,.int .u8 0,.slice none 0 0,.slice none 0 0],none,true,false⟩:=rfl
@[simp] theorem T_29:T 29=some ⟨.slice 9,1,24,.nilS,.slice none 0 0,none,false,false⟩:=rfl
@[simp] theorem T_30:T 30=some ⟨.slice 66,1,24,.nilS,.slice none 0 0,none,false,false⟩:=rfl
@[simp] theorem T_32:T 32=some ⟨.struct #[⟨ "Name",9,0,false, "", "",0⟩,⟨ "Attrs",29,1,false, "", "",16⟩,⟨ "Rows",30,2,false, "", "",40⟩],3,64,.agg [.str ByteArray.empty,.nilS,.nilS],.agg #[.string ByteArray.empty,.slice none 0 0,.slice none 0 0],none,true,false⟩:=rfl
@[simp] theorem T_33:T 33=some ⟨.slice 46,1,24,.nilS,.slice none 0 0,none,false,false⟩:=rfl
@[simp] theorem T_37:T 37=some ⟨.slice 49,1,24,.nilS,.slice none 0 0,none,false,false⟩:=rfl
@[simp] theorem T_44:T 44=some ⟨.int .u32,1,4,.int .u32 0,.int .u32 0,some (.int .u32),false,false⟩:=rfl
@[simp] theorem T_46:T 46=some ⟨.struct #[⟨ "Lhs",44,0,false, "", "",0⟩,⟨ "Rhs",44,1,false, "", "",4⟩],2,8,.agg [.int .u32 0,.int .u32 0],.agg #[.int .u32 0,.int .u32 0],none,true,false⟩:=rfl
@[simp] theorem T_49:T 49=some ⟨.struct #[⟨ "ID",2,0,false, "", "",0⟩,⟨ "Attr",3,1,false, "", "",8⟩],2,16,.agg [.int .i64 0,.int .i64 0],.agg #[.int .i64 0,.int .i64 0],none,true,false⟩:=rfl
@[simp] theorem T_64:T 64=some ⟨.slice 68,1,24,.nilS,.slice none 0 0,none,false,false⟩:=rfl
@[simp] theorem T_66:T 66=some ⟨.struct #[⟨ "ID",2,0,false, "", "",0⟩,⟨ "Values",64,1,false, "", "",8⟩],2,32,.agg [.int .i64 0,.nilS],.agg #[.int .i64 0,.slice none 0 0],none,true,false⟩:=rfl
@[simp] theorem T_68:T 68=some ⟨.struct #[⟨ "Kind",3,0,false, "", "",0⟩,⟨ "Num",2,1,false, "", "",8⟩,⟨ "Str",9,2,false, "", "",16⟩],3,32,.agg [.int .i64 0,.int .i64 0,.str ByteArray.empty],.agg #[.int .i64 0,.int .i64 0,.string ByteArray.empty],none,true,false⟩:=rfl
@[simp] theorem T_71:T 71=some ⟨.slice 37,1,24,.nilS,.slice none 0 0,none,false,false⟩:=rfl
@[simp] theorem T_72:T 72=some ⟨.slice 90,1,24,.nilS,.slice none 0 0,none,false,false⟩:=rfl
@[simp] theorem T_74:T 74=some ⟨.struct #[⟨ "Cells",37,0,false, "", "",0⟩,⟨ "Table",32,1,false, "", "",24⟩,⟨ "Cores",71,4,false, "", "",88⟩,⟨ "Proof",72,5,false, "", "",112⟩],6,136,.agg [.nilS,.str ByteArray.empty,.nilS,.nilS,.nilS,.nilS],.agg #[.slice none 0 0,.string ByteArray.empty,.slice none 0 0,.slice none 0 0,.slice none 0 0,.slice none 0 0],none,true,false⟩:=rfl
@[simp] theorem T_80:T 80=some ⟨.int .i8,1,1,.int .i8 0,.int .i8 0,some (.int .i8),false,false⟩:=rfl
@[simp] theorem T_82:T 82=some ⟨.struct #[⟨ "Kind",5,0,false, "", "",0⟩,⟨ "At",5,1,false, "", "",1⟩,⟨ "By",80,2,false, "", "",2⟩],3,3,.agg [.int .u8 0,.int .u8 0,.int .i8 0],.agg #[.int .u8 0,.int .u8 0,.int .i8 0],none,true,false⟩:=rfl
@[simp] theorem T_83:T 83=some ⟨.array 2 82,6,6,.agg [.int .u8 0,.int .u8 0,.int .i8 0,.int .u8 0,.int .u8 0,.int .i8 0],.agg #[.int .u8 0,.int .u8 0,.int .i8 0,.int .u8 0,.int .u8 0,.int .i8 0],none,true,false⟩:=rfl
@[simp] theorem T_88:T 88=some ⟨.slice 151,1,24,.nilS,.slice none 0 0,none,false,false⟩:=rfl
@[simp] theorem T_90:T 90=some ⟨.struct #[⟨ "Vertex",3,0,false, "", "",0⟩,⟨ "Shares",88,1,false, "", "",8⟩],2,32,.agg [.int .i64 0,.nilS],.agg #[.int .i64 0,.slice none 0 0],none,true,false⟩:=rfl
@[simp] theorem T_96:T 96=some ⟨.slice 115,1,24,.nilS,.slice none 0 0,none,false,false⟩:=rfl
@[simp] theorem T_105:T 105=some ⟨.map 2 4,1,8,.nilM,.map none,none,false,false⟩:=rfl
@[simp] theorem T_107:T 107=some ⟨.map 3 68,1,8,.nilM,.map none,none,false,false⟩:=rfl
@[simp] theorem T_109:T 109=some ⟨.slice 3,1,24,.nilS,.slice none 0 0,none,false,false⟩:=rfl
@[simp] theorem T_110:T 110=some ⟨.slice 113,1,24,.nilS,.slice none 0 0,none,false,false⟩:=rfl
@[simp] theorem T_112:T 112=some ⟨.struct #[⟨ "n",3,0,false, "", "dross/update",0⟩,⟨ "parent",109,1,false, "", "dross/update",8⟩,⟨ "known",110,2,false, "", "dross/update",32⟩],3,56,.agg [.int .i64 0,.nilS,.nilS],.agg #[.int .i64 0,.slice none 0 0,.slice none 0 0],none,true,false⟩:=rfl
@[simp] theorem T_113:T 113=some ⟨.pointer 68,1,8,.nilP,.pointer none,none,false,false⟩:=rfl
@[simp] theorem T_115:T 115=some ⟨.slice 117,1,24,.nilS,.slice none 0 0,none,false,false⟩:=rfl
@[simp] theorem T_117:T 117=some ⟨.struct #[⟨ "V",68,0,false, "", "",0⟩,⟨ "Symbol",3,3,false, "", "",32⟩],4,40,.agg [.int .i64 0,.int .i64 0,.str ByteArray.empty,.int .i64 0],.agg #[.int .i64 0,.int .i64 0,.string ByteArray.empty,.int .i64 0],none,true,false⟩:=rfl
@[simp] theorem T_126:T 126=some ⟨.slice 2,1,24,.nilS,.slice none 0 0,none,false,false⟩:=rfl
@[simp] theorem T_127:T 127=some ⟨.slice 109,1,24,.nilS,.slice none 0 0,none,false,false⟩:=rfl
@[simp] theorem T_129:T 129=some ⟨.struct #[⟨ "Weights",126,0,false, "", "",0⟩,⟨ "Edges",127,1,false, "", "",24⟩],2,48,.agg [.nilS,.nilS],.agg #[.slice none 0 0,.slice none 0 0],none,true,false⟩:=rfl
@[simp] theorem T_151:T 151=some ⟨.struct #[⟨ "Edge",3,0,false, "", "",0⟩,⟨ "Amount",2,1,false, "", "",8⟩],2,16,.agg [.int .i64 0,.int .i64 0],.agg #[.int .i64 0,.int .i64 0],none,true,false⟩:=rfl
@[simp] theorem T_155:T 155=some ⟨.slice 5,1,24,.nilS,.slice none 0 0,none,false,false⟩:=rfl
@[simp] theorem T_158:T 158=some ⟨.struct #[⟨ "L",5,0,false, "", "",0⟩,⟨ "R",5,1,false, "", "",1⟩],2,2,.agg [.int .u8 0,.int .u8 0],.agg #[.int .u8 0,.int .u8 0],none,true,false⟩:=rfl
@[simp] theorem T_178:T 178=some ⟨.struct #[⟨ "l",109,0,false, "", "dross/hitset",0⟩,⟨ "weight",2,1,false, "", "dross/hitset",24⟩],2,32,.agg [.nilS,.int .i64 0],.agg #[.slice none 0 0,.int .i64 0],none,true,false⟩:=rfl
@[simp] theorem T_179:T 179=some ⟨.pointer 216,1,8,.nilP,.pointer none,none,false,false⟩:=rfl
@[simp] theorem T_186:T 186=some ⟨.int .u64,1,8,.int .u64 0,.int .u64 0,some (.int .u64),false,false⟩:=rfl
@[simp] theorem T_191:T 191=some ⟨.struct #[⟨ "Chosen",109,0,false, "", "",0⟩,⟨ "Excluded",109,1,false, "", "",24⟩,⟨ "Bound",2,2,false, "", "",48⟩],3,56,.agg [.nilS,.nilS,.int .i64 0],.agg #[.slice none 0 0,.slice none 0 0,.int .i64 0],none,true,false⟩:=rfl
@[simp] theorem T_216:T 216=some ⟨.struct #[⟨ "in",129,0,false, "", "dross/hitset",0⟩,⟨ "marks",109,2,false, "", "dross/hitset",48⟩,⟨ "left",3,3,false, "", "dross/hitset",72⟩],4,80,.agg [.nilS,.nilS,.nilS,.int .i64 0],.agg #[.slice none 0 0,.slice none 0 0,.slice none 0 0,.int .i64 0],none,true,false⟩:=rfl
@[simp] theorem T_249:T 249=some ⟨.slice 72,1,24,.nilS,.slice none 0 0,none,false,false⟩:=rfl
theorem trN{t:Nat}{i:TI}(h1:Tryz.prog.underlying t=some i.desc)(h2:(Tryz.prog.info? t).map (fun j=>(j.size,j.bytes,j.zero))=some (i.size,i.bytes,some i.zval):=by kernel_rfl)(h3:jB i.zval=some i.zero:=by kernel_rfl)(h4:i.zero.cells.length=i.size:=by kernel_rfl)(h5:i.kk=none:=by rfl)(h6:i.eq=false:=by rfl):aL Tryz.prog t (some i):=fun j h=>by cases h;exact⟨h1,h2,h3,h4,fun k hk=>(by rw[h5]at hk;cases hk),fun he=>(by rw[h6]at he;cases he)⟩
theorem tr1:aL Tryz.prog 1 (some ti1):=trN Tryz.underlying1
theorem tr2:aL Tryz.prog 2 (some ti2):=fun i h=>by cases h;exact⟨Tryz.underlying2,by kernel_rfl,by kernel_rfl,by kernel_rfl,(fun _ h=>by cases h;exact bg Tryz.underlying2),(fun h=>by cases h)⟩
theorem tr3:aL Tryz.prog 3 (some ti3):=fun i h=>by cases h;exact⟨Tryz.underlying3,by kernel_rfl,by kernel_rfl,by kernel_rfl,(fun _ h=>by cases h;exact bg Tryz.underlying3),(fun h=>by cases h)⟩
theorem tr4:aL Tryz.prog 4 (some ti4):=fun i h=>by cases h;exact⟨Tryz.underlying4,by kernel_rfl,by kernel_rfl,by kernel_rfl,(fun _ h=>by cases h;exact bool_law Tryz.underlying4),(fun h=>by cases h)⟩
theorem tr5:aL Tryz.prog 5 (some ti5):=fun i h=>by cases h;exact⟨Tryz.underlying5,by kernel_rfl,by kernel_rfl,by kernel_rfl,(fun _ h=>by cases h;exact bg Tryz.underlying5),(fun h=>by cases h)⟩
theorem tr9:aL Tryz.prog 9 (some ti9):=fun i h=>by cases h;exact⟨Tryz.underlying9,by kernel_rfl,by kernel_rfl,by kernel_rfl,(fun _ h=>by cases h;exact str_law Tryz.underlying9),(fun h=>by cases h)⟩
theorem tr22:aL Tryz.prog 22 (some ti22):=trN Tryz.underlying22
theorem tr24:aL Tryz.prog 24 (some ti24):=fun i h=>by cases h;exact⟨Tryz.underlying24,by kernel_rfl,by kernel_rfl,by kernel_rfl,(fun _ h=>by cases h),(fun _=>⟨by kernel_rfl,by kernel_rfl⟩)⟩
theorem tr25:aL Tryz.prog 25 (some ti25):=trN Tryz.underlying25
theorem tr27:aL Tryz.prog 27 (some ti27):=fun i h=>by cases h;exact⟨Tryz.underlying27,by kernel_rfl,by kernel_rfl,by kernel_rfl,(fun _ h=>by cases h),(fun _=>⟨by kernel_rfl,by kernel_rfl⟩)⟩
theorem tr28:aL Tryz.prog 28 (some ti28):=fun i h=>by cases h;exact⟨Tryz.underlying28,by kernel_rfl,by kernel_rfl,by kernel_rfl,(fun _ h=>by cases h;exact bg Tryz.underlying28),(fun h=>by cases h)⟩
theorem tr29:aL Tryz.prog 29 (some ti29):=trN Tryz.underlying29
theorem tr30:aL Tryz.prog 30 (some ti30):=trN Tryz.underlying30
theorem tr32:aL Tryz.prog 32 (some ti32):=fun i h=>by cases h;exact⟨Tryz.underlying32,by kernel_rfl,by kernel_rfl,by kernel_rfl,(fun _ h=>by cases h),(fun _=>⟨by kernel_rfl,by kernel_rfl⟩)⟩
theorem tr33:aL Tryz.prog 33 (some ti33):=trN Tryz.underlying33
theorem tr37:aL Tryz.prog 37 (some ti37):=trN Tryz.underlying37
theorem tr39:aL Tryz.prog 39 (some ti39):=fun i h=>by cases h;exact⟨Tryz.underlying39,by kernel_rfl,by kernel_rfl,by kernel_rfl,(fun _ h=>by cases h;exact bg Tryz.underlying39),(fun h=>by cases h)⟩
theorem tr43:aL Tryz.prog 43 (some ti43):=fun i h=>by cases h;exact⟨Tryz.underlying43,by kernel_rfl,by kernel_rfl,by kernel_rfl,(fun _ h=>by cases h;exact bg Tryz.underlying43),(fun h=>by cases h)⟩
theorem tr44:aL Tryz.prog 44 (some ti44):=fun i h=>by cases h;exact⟨Tryz.underlying44,by kernel_rfl,by kernel_rfl,by kernel_rfl,(fun _ h=>by cases h;exact bg Tryz.underlying44),(fun h=>by cases h)⟩
theorem tr46:aL Tryz.prog 46 (some ti46):=fun i h=>by cases h;exact⟨Tryz.underlying46,by kernel_rfl,by kernel_rfl,by kernel_rfl,(fun _ h=>by cases h),(fun _=>⟨by kernel_rfl,by kernel_rfl⟩)⟩
theorem tr49:aL Tryz.prog 49 (some ti49):=fun i h=>by cases h;exact⟨Tryz.underlying49,by kernel_rfl,by kernel_rfl,by kernel_rfl,(fun _ h=>by cases h),(fun _=>⟨by kernel_rfl,by kernel_rfl⟩)⟩
theorem tr52:aL Tryz.prog 52 (some ti52):=fun i h=>by cases h;exact⟨Tryz.underlying52,by kernel_rfl,by kernel_rfl,by kernel_rfl,(fun _ h=>by cases h),(fun _=>⟨by kernel_rfl,by kernel_rfl⟩)⟩
theorem tr64:aL Tryz.prog 64 (some ti64):=trN Tryz.underlying64
theorem tr66:aL Tryz.prog 66 (some ti66):=fun i h=>by cases h;exact⟨Tryz.underlying66,by kernel_rfl,by kernel_rfl,by kernel_rfl,(fun _ h=>by cases h),(fun _=>⟨by kernel_rfl,by kernel_rfl⟩)⟩
theorem tr68:aL Tryz.prog 68 (some ti68):=fun i h=>by cases h;exact⟨Tryz.underlying68,by kernel_rfl,by kernel_rfl,by kernel_rfl,(fun _ h=>by cases h),(fun _=>⟨by kernel_rfl,by kernel_rfl⟩)⟩
theorem tr71:aL Tryz.prog 71 (some ti71):=trN Tryz.underlying71
theorem tr72:aL Tryz.prog 72 (some ti72):=trN Tryz.underlying72
theorem tr74:aL Tryz.prog 74 (some ti74):=fun i h=>by cases h;exact⟨Tryz.underlying74,by kernel_rfl,by kernel_rfl,by kernel_rfl,(fun _ h=>by cases h),(fun _=>⟨by kernel_rfl,by kernel_rfl⟩)⟩
theorem tr80:aL Tryz.prog 80 (some ti80):=fun i h=>by cases h;exact⟨Tryz.underlying80,by kernel_rfl,by kernel_rfl,by kernel_rfl,(fun _ h=>by cases h;exact bg Tryz.underlying80),(fun h=>by cases h)⟩
theorem tr82:aL Tryz.prog 82 (some ti82):=fun i h=>by cases h;exact⟨Tryz.underlying82,by kernel_rfl,by kernel_rfl,by kernel_rfl,(fun _ h=>by cases h),(fun _=>⟨by kernel_rfl,by kernel_rfl⟩)⟩
theorem tr83:aL Tryz.prog 83 (some ti83):=fun i h=>by cases h;exact⟨Tryz.underlying83,by kernel_rfl,by kernel_rfl,by kernel_rfl,(fun _ h=>by cases h),(fun _=>⟨by kernel_rfl,by kernel_rfl⟩)⟩
theorem tr88:aL Tryz.prog 88 (some ti88):=trN Tryz.underlying88
theorem tr90:aL Tryz.prog 90 (some ti90):=fun i h=>by cases h;exact⟨Tryz.underlying90,by kernel_rfl,by kernel_rfl,by kernel_rfl,(fun _ h=>by cases h),(fun _=>⟨by kernel_rfl,by kernel_rfl⟩)⟩
theorem tr96:aL Tryz.prog 96 (some ti96):=trN Tryz.underlying96
theorem tr105:aL Tryz.prog 105 (some ti105):=trN Tryz.underlying105
theorem tr107:aL Tryz.prog 107 (some ti107):=trN Tryz.underlying107
theorem tr109:aL Tryz.prog 109 (some ti109):=trN Tryz.underlying109
theorem tr110:aL Tryz.prog 110 (some ti110):=trN Tryz.underlying110
theorem tr112:aL Tryz.prog 112 (some ti112):=fun i h=>by cases h;exact⟨Tryz.underlying112,by kernel_rfl,by kernel_rfl,by kernel_rfl,(fun _ h=>by cases h),(fun _=>⟨by kernel_rfl,by kernel_rfl⟩)⟩
theorem tr113:aL Tryz.prog 113 (some ti113):=trN Tryz.underlying113
theorem tr115:aL Tryz.prog 115 (some ti115):=trN Tryz.underlying115
theorem tr117:aL Tryz.prog 117 (some ti117):=fun i h=>by cases h;exact⟨Tryz.underlying117,by kernel_rfl,by kernel_rfl,by kernel_rfl,(fun _ h=>by cases h),(fun _=>⟨by kernel_rfl,by kernel_rfl⟩)⟩
theorem tr126:aL Tryz.prog 126 (some ti126):=trN Tryz.underlying126
theorem tr127:aL Tryz.prog 127 (some ti127):=trN Tryz.underlying127
theorem tr129:aL Tryz.prog 129 (some ti129):=fun i h=>by cases h;exact⟨Tryz.underlying129,by kernel_rfl,by kernel_rfl,by kernel_rfl,(fun _ h=>by cases h),(fun _=>⟨by kernel_rfl,by kernel_rfl⟩)⟩
theorem tr151:aL Tryz.prog 151 (some ti151):=fun i h=>by cases h;exact⟨Tryz.underlying151,by kernel_rfl,by kernel_rfl,by kernel_rfl,(fun _ h=>by cases h),(fun _=>⟨by kernel_rfl,by kernel_rfl⟩)⟩
theorem tr155:aL Tryz.prog 155 (some ti155):=trN Tryz.underlying155
theorem tr158:aL Tryz.prog 158 (some ti158):=fun i h=>by cases h;exact⟨Tryz.underlying158,by kernel_rfl,by kernel_rfl,by kernel_rfl,(fun _ h=>by cases h),(fun _=>⟨by kernel_rfl,by kernel_rfl⟩)⟩
theorem tr178:aL Tryz.prog 178 (some ti178):=fun i h=>by cases h;exact⟨Tryz.underlying178,by kernel_rfl,by kernel_rfl,by kernel_rfl,(fun _ h=>by cases h),(fun _=>⟨by kernel_rfl,by kernel_rfl⟩)⟩
theorem tr179:aL Tryz.prog 179 (some ti179):=trN Tryz.underlying179
theorem tr186:aL Tryz.prog 186 (some ti186):=fun i h=>by cases h;exact⟨Tryz.underlying186,by kernel_rfl,by kernel_rfl,by kernel_rfl,(fun _ h=>by cases h;exact bg Tryz.underlying186),(fun h=>by cases h)⟩
theorem tr191:aL Tryz.prog 191 (some ti191):=fun i h=>by cases h;exact⟨Tryz.underlying191,by kernel_rfl,by kernel_rfl,by kernel_rfl,(fun _ h=>by cases h),(fun _=>⟨by kernel_rfl,by kernel_rfl⟩)⟩
theorem tr216:aL Tryz.prog 216 (some ti216):=fun i h=>by cases h;exact⟨Tryz.underlying216,by kernel_rfl,by kernel_rfl,by kernel_rfl,(fun _ h=>by cases h),(fun _=>⟨by kernel_rfl,by kernel_rfl⟩)⟩
theorem tr222:aL Tryz.prog 222 (some ti222):=fun i h=>by cases h;exact⟨Tryz.underlying222,by kernel_rfl,by kernel_rfl,by kernel_rfl,(fun _ h=>by cases h;exact bg Tryz.underlying222),(fun h=>by cases h)⟩
theorem tr230:aL Tryz.prog 230 (some ti230):=fun i h=>by cases h;exact⟨Tryz.underlying230,by kernel_rfl,by kernel_rfl,by kernel_rfl,(fun _ h=>by cases h;exact bg Tryz.underlying230),(fun h=>by cases h)⟩
theorem tr249:aL Tryz.prog 249 (some ti249):=trN Tryz.underlying249
theorem tr251:aL Tryz.prog 251 (some ti251):=fun i h=>by cases h;exact⟨Tryz.underlying251,by kernel_rfl,by kernel_rfl,by kernel_rfl,(fun _ h=>by cases h;exact bg Tryz.underlying251),(fun h=>by cases h)⟩
theorem tr269:aL Tryz.prog 269 (some ti269):=trN Tryz.underlying269
theorem trows:qE Tryz.prog 0 tys :=
 aB bE <|
 aB tr1 <|
 aB tr2 <|
 aB tr3 <|
 aB tr4 <|
 aB tr5 <|
 aB bE <|
 aB bE <|
 aB bE <|
 aB tr9 <|
 aB bE <|
 aB bE <|
 aB bE <|
 aB bE <|
 aB bE <|
 aB bE <|
 aB bE <|
 aB bE <|
 aB bE <|
 aB bE <|
 aB bE <|
 aB bE <|
 aB tr22 <|
 aB bE <|
 aB tr24 <|
 aB tr25 <|
 aB bE <|
 aB tr27 <|
 aB tr28 <|
 aB tr29 <|
 aB tr30 <|
 aB bE <|
 aB tr32 <|
 aB tr33 <|
 aB bE <|
 aB bE <|
 aB bE <|
 aB tr37 <|
 aB bE <|
 aB tr39 <|
 aB bE <|
 aB bE <|
 aB bE <|
 aB tr43 <|
 aB tr44 <|
 aB bE <|
 aB tr46 <|
 aB bE <|
 aB bE <|
 aB tr49 <|
 aB bE <|
 aB bE <|
 aB tr52 <|
 aB bE <|
 aB bE <|
 aB bE <|
 aB bE <|
 aB bE <|
 aB bE <|
 aB bE <|
 aB bE <|
 aB bE <|
 aB bE <|
 aB bE <|
 aB tr64 <|
 aB bE <|
 aB tr66 <|
 aB bE <|
 aB tr68 <|
 aB bE <|
 aB bE <|
 aB tr71 <|
 aB tr72 <|
 aB bE <|
 aB tr74 <|
 aB bE <|
 aB bE <|
 aB bE <|
 aB bE <|
 aB bE <|
 aB tr80 <|
 aB bE <|
 aB tr82 <|
 aB tr83 <|
 aB bE <|
 aB bE <|
 aB bE <|
 aB bE <|
 aB tr88 <|
 aB bE <|
 aB tr90 <|
 aB bE <|
 aB bE <|
 aB bE <|
 aB bE <|
 aB bE <|
 aB tr96 <|
 aB bE <|
 aB bE <|
 aB bE <|
 aB bE <|
 aB bE <|
 aB bE <|
 aB bE <|
 aB bE <|
 aB tr105 <|
 aB bE <|
 aB tr107 <|
 aB bE <|
 aB tr109 <|
 aB tr110 <|
 aB bE <|
 aB tr112 <|
 aB tr113 <|
 aB bE <|
 aB tr115 <|
 aB bE <|
 aB tr117 <|
 aB bE <|
 aB bE <|
 aB bE <|
 aB bE <|
 aB bE <|
 aB bE <|
 aB bE <|
 aB bE <|
 aB tr126 <|
 aB tr127 <|
 aB bE <|
 aB tr129 <|
 aB bE <|
 aB bE <|
 aB bE <|
 aB bE <|
 aB bE <|
 aB bE <|
 aB bE <|
 aB bE <|
 aB bE <|
 aB bE <|
 aB bE <|
 aB bE <|
 aB bE <|
 aB bE <|
 aB bE <|
 aB bE <|
 aB bE <|
 aB bE <|
 aB bE <|
 aB bE <|
 aB bE <|
 aB tr151 <|
 aB bE <|
 aB bE <|
 aB bE <|
 aB tr155 <|
 aB bE <|
 aB bE <|
 aB tr158 <|
 aB bE <|
 aB bE <|
 aB bE <|
 aB bE <|
 aB bE <|
 aB bE <|
 aB bE <|
 aB bE <|
 aB bE <|
 aB bE <|
 aB bE <|
 aB bE <|
 aB bE <|
 aB bE <|
 aB bE <|
 aB bE <|
 aB bE <|
 aB bE <|
 aB bE <|
 aB tr178 <|
 aB tr179 <|
 aB bE <|
 aB bE <|
 aB bE <|
 aB bE <|
 aB bE <|
 aB bE <|
 aB tr186 <|
 aB bE <|
 aB bE <|
 aB bE <|
 aB bE <|
 aB tr191 <|
 aB bE <|
 aB bE <|
 aB bE <|
 aB bE <|
 aB bE <|
 aB bE <|
 aB bE <|
 aB bE <|
 aB bE <|
 aB bE <|
 aB bE <|
 aB bE <|
 aB bE <|
 aB bE <|
 aB bE <|
 aB bE <|
 aB bE <|
 aB bE <|
 aB bE <|
 aB bE <|
 aB bE <|
 aB bE <|
 aB bE <|
 aB bE <|
 aB tr216 <|
 aB bE <|
 aB bE <|
 aB bE <|
 aB bE <|
 aB bE <|
 aB tr222 <|
 aB bE <|
 aB bE <|
 aB bE <|
 aB bE <|
 aB bE <|
 aB bE <|
 aB bE <|
 aB tr230 <|
 aB bE <|
 aB bE <|
 aB bE <|
 aB bE <|
 aB bE <|
 aB bE <|
 aB bE <|
 aB bE <|
 aB bE <|
 aB bE <|
 aB bE <|
 aB bE <|
 aB bE <|
 aB bE <|
 aB bE <|
 aB bE <|
 aB bE <|
 aB bE <|
 aB tr249 <|
 aB bE <|
 aB tr251 <|
 aB bE <|
 aB bE <|
 aB bE <|
 aB bE <|
 aB bE <|
 aB bE <|
 aB bE <|
 aB bE <|
 aB bE <|
 aB bE <|
 aB bE <|
 aB bE <|
 aB bE <|
 aB bE <|
 aB bE <|
 aB bE <|
 aB bE <|
 aB tr269 <|
 trows_nil
theorem tok:TOk Tryz.prog T:=tok_rows trows
end
end Go.Proofs.YteijbpppalhihaaGreat
namespace Go.Proofs.YteijbpppalhihaaGreat
section
open Go Go.AM Go.RowKit
theorem mixed:Tryz.prog.follows .mixedOrders=true:=by kernel_rfl
theorem wx{c:Code}{Q:Exit→List V→List B→Prop}{fr:List V}{H:List B}(h:WX T (aV Tryz.prog) (LW Tryz.prog) c Q fr H):W Tryz.prog c Q fr H:=W_x tok mixed h
def ac(n:Int):V:=.int .i64 n
def L1(f:Bool)(xs:List Int):V:=.lst 1 f (xs.map ac)
@[simp] theorem encI_pure (n:Int):AM.Pure (ac n):=by simp[ac]
@[simp] theorem L1_pure (f:Bool) (xs:List Int):AM.Pure (L1 f xs):=by simp[L1,ac]
@[simp] theorem encI_oneV (n:Int):dc (ac n)=true:=rfl
@[simp] theorem L1_oneV (f:Bool) (xs:List Int):dc (L1 f xs)=true:=rfl
def encU(n:Int):V:=.int .u8 n
@[simp] theorem encU_pure (n:Int):AM.Pure (encU n):=by simp[encU]
theorem wrap64{n:Int}(h1 : -9223372036854775808≤n)(h2:n<9223372036854775808):IntKind.i64.wrap n=n:=by rw[IntKind.wrap_i64];omega
theorem aM(i:Nat)(h:i<9223372036854775807):IntKind.i64.wrap ((i:Int)+1)=((i+1:Nat):Int):=by rw[wrap64 (by omega) (by omega)];rfl
theorem wrapP(i:Nat)(h:i<9223372036854775807)(h1:1≤i):IntKind.i64.wrap ((i:Int)-1)=((i-1:Nat):Int):=by rw[wrap64 (by omega) (by omega)];omega
theorem dS(n:Nat)(h:n<9223372036854775807):IntKind.i64.wrap (n:Int)=n:=wrap64 (by omega) (by omega)
theorem cap8(n:Nat)(h:n≤1000000000):n≤9223372036854775806∧(n+1)*8≤140737488355328:=by omega
theorem qA(n:Nat)(h:n≤1000000000):n≤9223372036854775806∧(n+1)*24≤140737488355328:=by omega
def il(xs:List Int)(x:Int):Bool:=xs.contains x
theorem memB_cons(y x:Int)(xs:List Int):il (y::xs) x=(x == y||il xs x):=by simp only[il,List.contains_cons]
theorem pD{xs:List Int}{x:Int} : il xs x=true↔x∈xs:=by simp[il]
@[simp ↓ high] theorem forall_rbB_cons (n:Nat) (b:B) (l:List B):(∀bl∈b::l,rbB n bl)↔(rbB n b∧∀bl∈l,rbB n bl):=List.forall_mem_cons
@[simp ↓ high] theorem forall_rbB_nil (n:Nat):(∀bl∈([]:List B),rbB n bl)↔True:=by simp
def ft(s:Int)(i:Nat):Bool:=IntKind.u32.wrap ↑((s.fdiv (2^min i IntKind.u32.bits) % 2^IntKind.u32.bits).toNat &&& 1 % 2^IntKind.u32.bits)== 1
theorem has02(s:Int)(i:Nat)(hi:i<32):aS Tryz.prog 136 [.int .u32 s,.int .i64 i] fun r=>r = .bool (ft s i):=by
 refine aC (aD tok Tryz.func136 rfl rfl ?_);refine wx ?_;simp -implicitDefEqProofs -dsimp[Tryz.f136,List.replicate,show(i:Int)<32 by omega];rfl
theorem nan_c(x:Int):aS Tryz.prog 169 [.int .i64 x] fun r=>r = .bool false:=by
 refine aC (aD tok Tryz.func169 rfl rfl ?_);refine wx ?_;simp -implicitDefEqProofs -dsimp[Tryz.f169,List.replicate]
def bU(x y:Int):Int:=if x<y then -1 else if y<x then 1 else 0
theorem cmp64(x y:Int):aS Tryz.prog 123 [.int .i64 x,.int .i64 y] fun r=>r = .int .i64 (bU x y):=by
 refine aC (aD tok Tryz.func123 rfl rfl ?_);refine wx ?_;simp -implicitDefEqProofs -dsimp[Tryz.f123,List.replicate];refine(aG (nan_c x) (by simp)).mono ?_;rintro r H' ⟨rfl,rfl⟩;simp -implicitDefEqProofs -dsimp[];refine(aG (nan_c y) (by simp)).mono ?_;rintro r H' ⟨rfl,rfl⟩;simp -implicitDefEqProofs -dsimp[];unfold bU;split
 ·rfl
 ·split<;>rfl
def mv(a b:ByteArray):Int:=Lib.compareBytes a.data.toList b.data.toList
theorem cmp_any(a b:ByteArray)(w:World):Calls Tryz.prog 174 #[.string a,.string b] w fun e w'=>e = .returned (.int .i64 (mv a b))∧w'=w:=by
 have hc:∀w,(callFunc 199 #[.string a,.string b]).run Tryz.prog w = .ok (.value (.int .i64 (mv a b))) w:=fun w=>by
  rw[run_callFunc_extern Tryz.func199 (by kernel_rfl) (by kernel_rfl) (by kernel_rfl) (e:=Extern.BytealgCompare.compare) (by kernel_rfl),Lib.run_compareString];rfl
 go_enter Tryz.func174,Tryz.ntmps174
 go_wp2_with (simp only[hc])
 go_ret
 exact⟨rfl,rfl⟩
theorem cmp_con(a b:ByteArray):aS Tryz.prog 174 [.str a,.str b] fun r=>r = .int .i64 (mv a b):=by
 refine⟨⟨Tryz.f174,Tryz.func174,rfl,rfl⟩,fun F w vals hZ hF hsz hrel=>?_⟩
 obtain⟨v0,v1,rfl⟩:∃v0 v1,vals = #[v0,v1]:=by
  obtain⟨l⟩:=vals
  match l,hsz with
  | [a,b],_=>exact⟨a,b,rfl⟩
 have h0:=hrel 0 _ v0 rfl rfl;have h1:=hrel 1 _ v1 rfl rfl;cases h0;cases h1
 refine(cmp_any a b w).mono fun e w' ⟨h1,h2⟩=>⟨_,_,h1,.int _ _,.int _ _,by subst h2;exact Below.refl _ _,rfl⟩
end
end Go.Proofs.YteijbpppalhihaaGreat
namespace Go.Proofs.YteijbpppalhihaaGreat
section
open Go Go.AM
def seq(a b:ByteArray):Bool:=a.toList == b.toList
def cu(c:Int):Bool:=decide (97≤c)&&decide (c≤122)||decide (65≤c)&&decide (c≤90)||decide (c=95)
theorem lR(c:Int):(97≤c∧c≤122∧cu c=true)∨(97≤c∧¬c≤122∧65≤c∧¬c≤90∧¬c=95∧cu c=false)∨(¬97≤c∧65≤c∧c≤90∧cu c=true)∨(¬97≤c∧65≤c∧¬c≤90∧c=95∧cu c=true)∨(¬97≤c∧65≤c∧¬c≤90∧¬c=95∧cu c=false)∨(¬97≤c∧¬65≤c∧¬c=95∧cu c=false):=by
 have h:cu c=decide ((97≤c∧c≤122)∨(65≤c∧c≤90)∨c=95):=by
  unfold cu;simp only[Bool.decide_or,Bool.decide_and,Bool.or_assoc]
 rw[h];simp only[decide_eq_true_eq,decide_eq_false_iff_not];omega
theorem pL(c:Int):aS Tryz.prog 172 [.int .u8 c] fun r=>r = .bool (cu c):=by
 rcases lR c with⟨h1,h2,h⟩ | ⟨h1,h2,h3,h4,h5,h⟩ | ⟨h1,h2,h3,h⟩ | ⟨h1,h2,h3,h4,h⟩ | ⟨h1,h2,h3,h4,h⟩ | ⟨h1,h2,h3,h⟩
 all_goals
  rw[h];refine aC (aD tok Tryz.func172 rfl rfl ?_);refine wx ?_;simp -implicitDefEqProofs -dsimp[Tryz.f172,List.replicate, *]
def bc(s:ByteArray)(i:Nat):Int:=((s[i]?).map fun b=>(b.toNat:Int)).getD 0
theorem iQ{s:ByteArray}{i:Nat}(h:i<s.size):s[i]?=some s[i]∧(s[i].toNat:Int)=bc s i:=by
 have h1:s[i]?=some s[i]:=getElem?_pos s i h;exact⟨h1,by unfold bc;rw[h1];rfl⟩
theorem kx(bs:ByteArray):bs.data.toList.length=bs.size:=by simp
theorem ba_loop(bs:ByteArray):∀(n i:Nat) (r:List UInt8),bs.size-i=n→ByteArray.toList.loop bs i r=r.reverse++bs.data.toList.drop i
 | 0,i,r,h=>by
  have hl:=kx bs;rw[ByteArray.toList.loop,if_neg (by omega),List.drop_of_length_le (by omega),List.append_nil]
 | n+1,i,r,h=>by
  have hl:=kx bs
  have hi:i<bs.size:=by omega
  have hi2:i<bs.data.toList.length:=by omega
  rw[ByteArray.toList.loop,if_pos hi,ba_loop bs n (i+1) _ (by omega),List.drop_eq_getElem_cons hi2,List.reverse_cons,List.append_assoc];congr 2
  have hi3:i<bs.data.size:=by simpa using hi2
  rw[ByteArray.get!,getElem!_pos bs.data i hi3];rfl
theorem ba_toList(bs:ByteArray):bs.toList=bs.data.toList:=by
 unfold ByteArray.toList;rw[ba_loop bs _ 0 [] rfl];rfl
theorem ba_nil(s:ByteArray):s.toList=[]↔s.size=0:=by
 rw[ba_toList];rw[←List.length_eq_zero_iff,kx]
def okAt(s:ByteArray)(i:Nat):Bool:=cu (bc s i)||(decide (i≠0)&&(decide (48≤bc s i)&&decide (bc s i≤57)))
def bn(s:ByteArray):Bool:=!decide (s.toList=[])&&decide (s.size≤24)&&!(s.toList == [110,117,108,108])&&(List.range s.size).all (okAt s)
theorem allno{p:Nat→Bool}{n i:Nat}(h:i<n)(hp:p i=false):(List.range n).all p=false:=by
 rw[List.all_eq_false];exact⟨i,by simpa using h,by simp[hp]⟩
theorem dn{p:Nat→Bool}{i:Nat}(h:(List.range i).all p=true)(hp:p i=true):(List.range (i+1)).all p=true:=by
 rw[List.range_succ,List.all_append,h];simp[hp]
theorem pN(s:ByteArray)(hsz:s.size≤maxLen):aS Tryz.prog 116 [.str s] fun r=>r = .bool (bn s):=by
 by_cases h0:s.toList=[]
 ·rw[show bn s=false by simp[bn,h0]];refine aC (aD tok Tryz.func116 rfl rfl ?_);refine wx ?_;simp -implicitDefEqProofs -dsimp[Tryz.f116,List.replicate,h0]
 ·by_cases h24:s.size≤24
  ·cases hnl:(s.toList == [110,117,108,108])
   ·rw[show bn s=(List.range s.size).all (okAt s) by simp[bn,h0,h24,hnl]];refine aC (aD tok Tryz.func116 rfl rfl ?_);refine wx ?_;simp -implicitDefEqProofs -dsimp[Tryz.f116,List.replicate,h0,hnl,show ¬(24:Int)<s.size by omega];refine aK (W_loopM 58 [2,3,4,5,19,20,21,22,23,24,25,26,27,28,29,30,31,32,33,34,35,36,37,38,39,40,41,42,43,44,45,46,47,48,49,50,51,52,53,54,55,56,57] (by simp[mB]<;>rfl) (σ:=Nat) (fun i=>i≤s.size∧(List.range i).all (okAt s)=true) (fun i=>s.size-i) (fun i=>[(19,.int .i64 i)]) (fun _=>[]) 0 ⟨by omega,rfl⟩ (by simp) rfl (by simp) ?_);rintro i ⟨hi,hall⟩ N Q hN hQ;by_cases hb:i<s.size
    ·obtain⟨hx1,hx2⟩:=iQ hb;have hok:okAt s i=(cu (bc s i)||(decide (i≠0)&&(decide (48≤bc s i)&&decide (bc s i≤57)))):=rfl;obtain⟨c,hc⟩:∃c,c=bc s i:=⟨_,rfl⟩;rw[←hc]at hx2 hok
     rcases lR c with⟨h1,h2,h⟩ | ⟨h1,h2,h3,h4,h5,h⟩ | ⟨h1,h2,h3,h⟩ | ⟨h1,h2,h3,h4,h⟩ | ⟨h1,h2,h3,h4,h⟩ | ⟨h1,h2,h3,h⟩
     ·rw[h,Bool.true_or]at hok;refine wx ?_;simp -implicitDefEqProofs -dsimp[hb,hx1,hx2,h1,h2,aM i (by unfold maxLen at hsz;omega)];refine hN (i+1) _ _ ⟨by omega,dn hall hok⟩ (by omega) ?_ ⟨[],?_⟩ ?_ ?_<;>simp[or_imp,forall_and,L1,ac]
     ·by_cases hi0:i=0
      ·subst hi0;rw[h,Bool.false_or,decide_eq_false (by simp),Bool.false_and]at hok;refine wx ?_;simp -implicitDefEqProofs -dsimp[hb,hx1,hx2,h1,h2,h3,h4,h5];refine hQ _ _ _ ?_;simp -implicitDefEqProofs -dsimp[];exact⟨_,hb,hok⟩
      ·rw[h,Bool.false_or,decide_eq_true hi0,Bool.true_and,decide_eq_false (show ¬c≤57 by omega),Bool.and_false]at hok;refine wx ?_;simp -implicitDefEqProofs -dsimp[hb,hx1,hx2,h1,h2,h3,h4,h5,hi0,show ¬c<48 by omega,show 57<c by omega];refine hQ _ _ _ ?_;simp -implicitDefEqProofs -dsimp[];exact⟨_,hb,hok⟩
     ·rw[h,Bool.true_or]at hok;refine wx ?_;simp -implicitDefEqProofs -dsimp[hb,hx1,hx2,h1,h2,h3,aM i (by unfold maxLen at hsz;omega)];refine hN (i+1) _ _ ⟨by omega,dn hall hok⟩ (by omega) ?_ ⟨[],?_⟩ ?_ ?_<;>simp[or_imp,forall_and,L1,ac]
     ·rw[h,Bool.true_or]at hok;refine wx ?_;simp -implicitDefEqProofs -dsimp[hb,hx1,hx2,h1,h2,h3,h4,aM i (by unfold maxLen at hsz;omega)];refine hN (i+1) _ _ ⟨by omega,dn hall hok⟩ (by omega) ?_ ⟨[],?_⟩ ?_ ?_<;>simp[or_imp,forall_and,L1,ac]
     ·by_cases hi0:i=0
      ·subst hi0;rw[h,Bool.false_or,decide_eq_false (by simp),Bool.false_and]at hok;refine wx ?_;simp -implicitDefEqProofs -dsimp[hb,hx1,hx2,h1,h2,h3,h4];refine hQ _ _ _ ?_;simp -implicitDefEqProofs -dsimp[];exact⟨_,hb,hok⟩
      ·rw[h,Bool.false_or,decide_eq_true hi0,Bool.true_and,decide_eq_false (show ¬c≤57 by omega),Bool.and_false]at hok;refine wx ?_;simp -implicitDefEqProofs -dsimp[hb,hx1,hx2,h1,h2,h3,h4,hi0,show ¬c<48 by omega,show 57<c by omega];refine hQ _ _ _ ?_;simp -implicitDefEqProofs -dsimp[];exact⟨_,hb,hok⟩
     ·by_cases hi0:i=0
      ·subst hi0;rw[h,Bool.false_or,decide_eq_false (by simp),Bool.false_and]at hok;refine wx ?_;simp -implicitDefEqProofs -dsimp[hb,hx1,hx2,h1,h2,h3];refine hQ _ _ _ ?_;simp -implicitDefEqProofs -dsimp[];exact⟨_,hb,hok⟩
      ·by_cases h48:c<48
       ·rw[h,Bool.false_or,decide_eq_false (show ¬48≤c by omega),Bool.false_and,Bool.and_false]at hok;refine wx ?_;simp -implicitDefEqProofs -dsimp[hb,hx1,hx2,h1,h2,h3,hi0,h48];refine hQ _ _ _ ?_;simp -implicitDefEqProofs -dsimp[];exact⟨_,hb,hok⟩
       ·by_cases h57:57<c
        ·rw[h,Bool.false_or,decide_eq_true hi0,Bool.true_and,decide_eq_false (show ¬c≤57 by omega),Bool.and_false]at hok;refine wx ?_;simp -implicitDefEqProofs -dsimp[hb,hx1,hx2,h1,h2,h3,hi0,h48,h57];refine hQ _ _ _ ?_;simp -implicitDefEqProofs -dsimp[];exact⟨_,hb,hok⟩
        ·rw[h,Bool.false_or,decide_eq_true hi0,Bool.true_and,decide_eq_true (show c≤57 by omega),decide_eq_true (show 48≤c by omega),Bool.and_true]at hok;refine wx ?_;simp -implicitDefEqProofs -dsimp[hb,hx1,hx2,h1,h2,h3,hi0,h48,h57,aM i (by unfold maxLen at hsz;omega)];refine hN (i+1) _ _ ⟨by omega,dn hall hok⟩ (by omega) ?_ ⟨[],?_⟩ ?_ ?_<;>simp[or_imp,forall_and,L1,ac]
    ·obtain rfl:i=s.size:=by omega
     refine wx ?_;simp -implicitDefEqProofs -dsimp[hb];refine hQ _ _ _ ?_;simp -implicitDefEqProofs -dsimp[];simpa using hall
   ·rw[show bn s=false by simp[bn,hnl]];refine aC (aD tok Tryz.func116 rfl rfl ?_);refine wx ?_;simp -implicitDefEqProofs -dsimp[Tryz.f116,List.replicate,h0,hnl,show ¬(24:Int)<s.size by omega]
  ·rw[show bn s=false by simp[bn,h24]];refine aC (aD tok Tryz.func116 rfl rfl ?_);refine wx ?_;simp -implicitDefEqProofs -dsimp[Tryz.f116,List.replicate,h0,show(24:Int)<s.size by omega]
theorem pC(s:ByteArray)(hsz:s.size≤maxLen):aS Tryz.prog 126 [.str s] fun r=>r = .bool (bn s):=by
 by_cases h0:s.toList=[]
 ·rw[show bn s=false by simp[bn,h0]];have h00:=(ba_nil s).1 h0;refine aC (aD tok Tryz.func126 rfl rfl ?_);refine wx ?_;simp -implicitDefEqProofs -dsimp[Tryz.f126,List.replicate,h00]
 ·have h00:¬s.size=0:=fun h=>h0 ((ba_nil s).2 h)
  have hpos:0<s.size:=by omega
  obtain⟨hx1,hx2⟩:=iQ hpos;have hl0:=pL (bc s 0);rw[←hx2]at hl0;by_cases h24:s.size≤24
  ·cases hlt:cu (bc s 0)
   ·have hok0:okAt s 0=false:=by unfold okAt;rw[hlt];simp
    rw[show bn s=false by unfold bn;rw[allno hpos hok0,Bool.and_false]];rw[hx2,hlt]at hl0;rw[←hx2]at hl0;refine aC (aD tok Tryz.func126 rfl rfl ?_);refine wx ?_;simp -implicitDefEqProofs -dsimp[Tryz.f126,List.replicate,h00,show ¬(24:Int)<s.size by omega,hx1];refine(aG (hl0) (by simp)).mono ?_;rintro r H' ⟨rfl,rfl⟩;simp -implicitDefEqProofs -dsimp[]
   ·rw[hx2,hlt]at hl0;rw[←hx2]at hl0;cases hnl:(s.toList == [110,117,108,108])
    ·rw[show bn s=(List.range s.size).all (okAt s) by simp[bn,h0,h24,hnl]];refine aC (aD tok Tryz.func126 rfl rfl ?_);refine wx ?_;simp -implicitDefEqProofs -dsimp[Tryz.f126,List.replicate,h00,show ¬(24:Int)<s.size by omega,hx1];refine(aG (hl0) (by simp)).mono ?_;rintro r H' ⟨rfl,rfl⟩;simp -implicitDefEqProofs -dsimp[hnl];refine aK (W_loopM 45 [2,3,22,23,24,25,26,27,28,29,30,31,32,33,34,35,36,37,38,39,40,41,42,43,44] (by simp[mB]<;>rfl) (σ:=Nat) (fun i=>i≤s.size∧(List.range i).all (okAt s)=true) (fun i=>s.size-i) (fun i=>[(3,.int .i64 i)]) (fun _=>[]) 0 ⟨by omega,rfl⟩ (by simp) rfl (by simp) ?_);rintro i ⟨hi,hall⟩ N Q hN hQ;by_cases hb:i<s.size
     ·obtain⟨hy1,hy2⟩:=iQ hb;have hok:okAt s i=(cu (bc s i)||(decide (i≠0)&&(decide (48≤bc s i)&&decide (bc s i≤57)))):=rfl;obtain⟨c,hc⟩:∃c,c=bc s i:=⟨_,rfl⟩;rw[←hc]at hy2 hok;have hlc:=pL c;cases h:cu c
      ·have hi0:¬i=0:=fun e=>by subst e;rw[←hc]at hlt;rw[hlt]at h;cases h
       rw[h]at hlc;rw[h,Bool.false_or,decide_eq_true hi0,Bool.true_and]at hok;by_cases h48:c<48
       ·rw[decide_eq_false (show ¬48≤c by omega),Bool.false_and]at hok;refine wx ?_;simp -implicitDefEqProofs -dsimp[hb,hy1,hy2];refine(aG (hlc) (by simp)).mono ?_;rintro r H' ⟨rfl,rfl⟩;simp -implicitDefEqProofs -dsimp[hb,hy1,hy2,h48];refine hQ _ _ _ ?_;simp -implicitDefEqProofs -dsimp[];exact⟨_,hb,hok⟩
       ·by_cases h57:57<c
        ·rw[decide_eq_false (show ¬c≤57 by omega),Bool.and_false]at hok;refine wx ?_;simp -implicitDefEqProofs -dsimp[hb,hy1,hy2];refine(aG (hlc) (by simp)).mono ?_;rintro r H' ⟨rfl,rfl⟩;simp -implicitDefEqProofs -dsimp[hb,hy1,hy2,h48,h57];refine hQ _ _ _ ?_;simp -implicitDefEqProofs -dsimp[];exact⟨_,hb,hok⟩
        ·rw[decide_eq_true (show c≤57 by omega),decide_eq_true (show 48≤c by omega),Bool.and_true]at hok;refine wx ?_;simp -implicitDefEqProofs -dsimp[hb,hy1,hy2];refine(aG (hlc) (by simp)).mono ?_;rintro r H' ⟨rfl,rfl⟩;simp -implicitDefEqProofs -dsimp[hb,hy1,hy2,h48,h57,aM i (by unfold maxLen at hsz;omega)];refine hN (i+1) _ _ ⟨by omega,dn hall hok⟩ (by omega) ?_ ⟨[],?_⟩ ?_ ?_<;>simp[or_imp,forall_and,L1,ac]
      ·rw[h]at hlc;rw[h,Bool.true_or]at hok;refine wx ?_;simp -implicitDefEqProofs -dsimp[hb,hy1,hy2];refine(aG (hlc) (by simp)).mono ?_;rintro r H' ⟨rfl,rfl⟩;simp -implicitDefEqProofs -dsimp[aM i (by unfold maxLen at hsz;omega)];refine hN (i+1) _ _ ⟨by omega,dn hall hok⟩ (by omega) ?_ ⟨[],?_⟩ ?_ ?_<;>simp[or_imp,forall_and,L1,ac]
     ·obtain rfl:i=s.size:=by omega
      refine wx ?_;simp -implicitDefEqProofs -dsimp[hb];refine hQ _ _ _ ?_;simp -implicitDefEqProofs -dsimp[];simpa using hall
    ·rw[show bn s=false by simp[bn,hnl]];refine aC (aD tok Tryz.func126 rfl rfl ?_);refine wx ?_;simp -implicitDefEqProofs -dsimp[Tryz.f126,List.replicate,h00,show ¬(24:Int)<s.size by omega,hx1];refine(aG (hl0) (by simp)).mono ?_;rintro r H' ⟨rfl,rfl⟩;simp -implicitDefEqProofs -dsimp[hnl]
  ·rw[show bn s=false by simp[bn,h24]];refine aC (aD tok Tryz.func126 rfl rfl ?_);refine wx ?_;simp -implicitDefEqProofs -dsimp[Tryz.f126,List.replicate,h00,show(24:Int)<s.size by omega]
def LS(f:Bool)(ss:List ByteArray):V:=.lst 1 f (ss.map V.str)
@[simp] theorem LS_pure (f:Bool) (ss:List ByteArray):AM.Pure (LS f ss):=by simp[LS]
@[simp] theorem pure_takeS (i:Nat) (ss:List ByteArray):(∀x,x∈List.take i (List.map V.str ss)→AM.Pure x)↔True:=iff_true_intro fun x hx=>by
 obtain⟨s,_,rfl⟩:=List.mem_map.1 (List.mem_of_mem_take hx);exact .str s
def ixS(ss:List ByteArray)(x:ByteArray)(i:Nat):Int:=if h:i<ss.length then(if(x.toList == ss[i].toList)=true then(i:Int) else ixS ss x (i+1)) else -1
termination_by ss.length-i
def memS(ss:List ByteArray)(x:ByteArray):Bool:=ss.any fun e=>x.toList == e.toList
theorem ixS_mem(ss:List ByteArray)(x:ByteArray)(i:Nat):decide (0≤ixS ss x i)=memS (ss.drop i) x:=by
 unfold memS
 fun_induction ixS ss x i with
 | case1 i h h0=>rw[List.drop_eq_getElem_cons h,List.any_cons,h0];simp
 | case2 i h h0 ih=>rw[List.drop_eq_getElem_cons h,List.any_cons,ih];simp[h0]
 | case3 i h=>rw[List.drop_of_length_le (by omega)];rfl
theorem indexS(ss:List ByteArray)(x:ByteArray)(f:Bool)(hl:ss.length≤1000000):aS Tryz.prog 165 [LS f ss,.str x] fun r=>r = .int .i64 (ixS ss x 0):=by
 refine aC (aD tok Tryz.func165 rfl rfl ?_);refine wx ?_;simp -implicitDefEqProofs -dsimp[Tryz.f165,List.replicate,LS];refine aK (W_loopM 19 [4,5,8,9,10,11,12,13,14,15,16,17,18] (by simp[mB]<;>rfl) (σ:=Nat) (fun i=>ixS ss x i=ixS ss x 0) (fun i=>ss.length-i) (fun i=>[(8,.int .i64 i)]) (fun _=>[]) 0 rfl (by simp) rfl (by simp) ?_);intro i hx N Q hN hQ;by_cases hb:i<ss.length
 ·rw[ixS,dif_pos hb]at hx;cases hq:(x.toList == ss[i].toList)
  ·rw[hq,if_neg (by simp)]at hx;refine wx ?_;simp -implicitDefEqProofs -dsimp[hb,hq];simp -implicitDefEqProofs -dsimp[aM i (by omega)];refine hN (i+1) _ _ hx (by omega) (by simp) ⟨[],rfl⟩ (by simp) (by simp)
  ·rw[hq,if_pos rfl]at hx;refine wx ?_;simp -implicitDefEqProofs -dsimp[hb,hq];refine hQ _ _ _ ?_;simp -implicitDefEqProofs -dsimp[];exact hx
 ·rw[ixS,dif_neg hb]at hx;refine wx ?_;simp -implicitDefEqProofs -dsimp[hb];refine hQ _ _ _ ?_;simp -implicitDefEqProofs -dsimp[];exact hx
theorem containsS(ss:List ByteArray)(x:ByteArray)(f:Bool)(hl:ss.length≤1000000):aS Tryz.prog 117 [LS f ss,.str x] fun r=>r = .bool (memS ss x):=by
 have h0:=ixS_mem ss x 0;rw[List.drop_zero]at h0;refine aC (aD tok Tryz.func117 rfl rfl ?_);refine wx ?_;simp -implicitDefEqProofs -dsimp[Tryz.f117,List.replicate];refine(aG (indexS ss x f hl) (by simp)).mono ?_;rintro r H' ⟨rfl,rfl⟩;simp -implicitDefEqProofs -dsimp[];rw[←h0]
theorem beq_comm'(a b:List UInt8):(a == b)=(b == a):=by rw[Bool.eq_iff_iff,beq_iff_eq,beq_iff_eq];exact eq_comm
theorem attrS(ss:List ByteArray)(x:ByteArray)(f:Bool)(hl:ss.length≤1000000):aS Tryz.prog 173 [LS f ss,.str x] fun r=>r = .int .i64 (ixS ss x 0):=by
 refine aC (aD tok Tryz.func173 rfl rfl ?_);refine wx ?_;simp -implicitDefEqProofs -dsimp[Tryz.f173,List.replicate,LS];refine aK (W_loopM 19 [4,5,6,7,8,9,10,11,12,13,14,15,16,17,18] (by simp[mB]<;>rfl) (σ:=Nat) (fun i=>ixS ss x i=ixS ss x 0) (fun i=>ss.length-i) (fun i=>[(5,.int .i64 i)]) (fun _=>[]) 0 rfl (by simp) rfl (by simp) ?_);intro i hx N Q hN hQ;by_cases hb:i<ss.length
 ·rw[ixS,dif_pos hb,beq_comm']at hx;cases hq:(ss[i].toList == x.toList)
  ·rw[hq,if_neg (by simp)]at hx;refine wx ?_;simp -implicitDefEqProofs -dsimp[hb,hq];simp -implicitDefEqProofs -dsimp[aM i (by omega)];refine hN (i+1) _ _ hx (by omega) (by simp) ⟨[],rfl⟩ (by simp) (by simp)
  ·rw[hq,if_pos rfl]at hx;refine wx ?_;simp -implicitDefEqProofs -dsimp[hb,hq];refine hQ _ _ _ ?_;simp -implicitDefEqProofs -dsimp[];exact hx
 ·rw[ixS,dif_neg hb]at hx;refine wx ?_;simp -implicitDefEqProofs -dsimp[hb];refine hQ _ _ _ ?_;simp -implicitDefEqProofs -dsimp[];exact hx
def sAt(ss:List ByteArray)(i:Nat):ByteArray:=ss.getD i ByteArray.empty
def nmAt(ss:List ByteArray)(i:Nat):Bool:=bn (sAt ss i)&&!memS (ss.take i) (sAt ss i)
def gc(ss:List ByteArray):Bool:=(List.range ss.length).all (nmAt ss)
theorem names03(ss:List ByteArray)(f:Bool)(hl:ss.length≤1000000)(hs:∀s∈ss,s.size≤maxLen):aS Tryz.prog 127 [LS f ss] fun r=>r = .bool (gc ss):=by
 unfold gc;refine aC (aD tok Tryz.func127 rfl rfl ?_);refine wx ?_;simp -implicitDefEqProofs -dsimp[Tryz.f127,List.replicate,LS];refine aK (W_loopM 27 [2,3,4,5,6,7,8,9,10,11,12,13,14,15,16,17,18,19,20,21,22,23,24,25,26] (by simp[mB]<;>rfl) (σ:=Nat) (fun i=>i≤ss.length∧(List.range i).all (nmAt ss)=true) (fun i=>ss.length-i) (fun i=>[(3,.int .i64 i)]) (fun _=>[]) 0 ⟨by omega,rfl⟩ (by simp) rfl (by simp) ?_);rintro i ⟨hi,hall⟩ N Q hN hQ;by_cases hb:i<ss.length
 ·have hsi:sAt ss i=ss[i]:=by simp[sAt,hb]
  have hok:nmAt ss i=(bn ss[i]&&!memS (ss.take i) ss[i]):=by unfold nmAt;rw[hsi]
  have hc1:=pC ss[i] (hs _ (List.getElem_mem hb));have hc2:=attrS (ss.take i) ss[i] (f&&i == ss.length) (by simp;omega);have hm:=ixS_mem (ss.take i) ss[i] 0;rw[List.drop_zero]at hm;simp only[LS,List.map_take]at hc2;cases h1:bn ss[i]
  ·rw[h1,Bool.false_and]at hok;rw[h1]at hc1;refine wx ?_;simp -implicitDefEqProofs -dsimp[hb];refine .inr ⟨aJ (by kernel_rfl),?_⟩;refine aj _ (aG (hc1) (by simp)) ?_;simp -implicitDefEqProofs -dsimp[];refine hQ _ _ _ ?_;simp -implicitDefEqProofs -dsimp[];exact⟨_,hb,hok⟩
  ·rw[h1,Bool.true_and]at hok;rw[h1]at hc1;cases h2:memS (ss.take i) ss[i]
   ·rw[h2]at hok hm;have hneg:=of_decide_eq_false hm;refine wx ?_;simp -implicitDefEqProofs -dsimp[hb];refine .inr ⟨aJ (by kernel_rfl),?_⟩;refine aj _ (aG (hc1) (by simp)) ?_;simp -implicitDefEqProofs -dsimp[hb,show i≤ss.length by omega];refine aj _ (aG (hc2) (by simp)) ?_;simp -implicitDefEqProofs -dsimp[show ¬0≤ixS (ss.take i) ss[i] 0 by omega,aM i (by omega)];refine hN (i+1) _ _ ⟨by omega,dn hall (by rw[hok];rfl)⟩ (by omega) ?_ ⟨[],?_⟩ ?_ ?_<;>simp[or_imp,forall_and,L1,ac]
   ·rw[h2]at hok hm;have hneg:=of_decide_eq_true hm;refine wx ?_;simp -implicitDefEqProofs -dsimp[hb];refine .inr ⟨aJ (by kernel_rfl),?_⟩;refine aj _ (aG (hc1) (by simp)) ?_;simp -implicitDefEqProofs -dsimp[hb,show i≤ss.length by omega];refine aj _ (aG (hc2) (by simp)) ?_;simp -implicitDefEqProofs -dsimp[hneg];refine hQ _ _ _ ?_;simp -implicitDefEqProofs -dsimp[];exact⟨_,hb,hok⟩
 ·obtain rfl:i=ss.length:=by omega
  refine wx ?_;simp -implicitDefEqProofs -dsimp[hb];refine hQ _ _ _ ?_;simp -implicitDefEqProofs -dsimp[];simpa using hall
structure Vl where
 k:Int
 n:Int
 s:ByteArray
def am(v:Vl):V:=.agg [.int .i64 v.k,.int .i64 v.n,.str v.s]
def LV(f:Bool)(vs:List Vl):V:=.lst 3 f (vs.map am)
@[simp] theorem encV_pure (v:Vl):AM.Pure (am v):=by simp[am]
@[simp] theorem LV_pure (f:Bool) (vs:List Vl):AM.Pure (LV f vs):=by simp[LV]
@[simp] theorem encV_oneV (v:Vl):dc (am v)=true:=rfl
def bP(v:Vl):Bool :=
 if v.k=0 then decide (v.n=0)&&v.s.toList.isEmpty else if v.k=1 then v.s.toList.isEmpty else
 if v.k=2 then decide (v.n=0)&&decide (v.s.size≤200) else decide (v.k=3)&&(decide (1≤v.n)&&v.s.toList.isEmpty)
theorem valid01(v:Vl):aS Tryz.prog 93 [am v] fun r=>r = .bool (bP v):=by
 unfold bP;by_cases h0:v.k=0
 ·by_cases hn:v.n=0
  ·rw[if_pos h0,decide_eq_true hn,Bool.true_and];refine aC (aD tok Tryz.func93 rfl rfl ?_);refine wx ?_;simp -implicitDefEqProofs -dsimp[Tryz.f93,List.replicate,am,h0,hn]
  ·rw[if_pos h0,decide_eq_false hn,Bool.false_and];refine aC (aD tok Tryz.func93 rfl rfl ?_);refine wx ?_;simp -implicitDefEqProofs -dsimp[Tryz.f93,List.replicate,am,h0,hn]
 ·rw[if_neg h0];by_cases h1:v.k=1
  ·rw[if_pos h1];refine aC (aD tok Tryz.func93 rfl rfl ?_);refine wx ?_;simp -implicitDefEqProofs -dsimp[Tryz.f93,List.replicate,am,h1]
  ·rw[if_neg h1];by_cases h2:v.k=2
   ·rw[if_pos h2];by_cases hn:v.n=0
    ·rw[decide_eq_true hn,Bool.true_and];by_cases hz:v.s.size≤200
     ·rw[decide_eq_true hz];refine aC (aD tok Tryz.func93 rfl rfl ?_);refine wx ?_;simp -implicitDefEqProofs -dsimp[Tryz.f93,List.replicate,am,h2,hn,show(v.s.size:Int)≤200 by omega]
     ·rw[decide_eq_false hz];refine aC (aD tok Tryz.func93 rfl rfl ?_);refine wx ?_;simp -implicitDefEqProofs -dsimp[Tryz.f93,List.replicate,am,h2,hn,show ¬(v.s.size:Int)≤200 by omega]
    ·rw[decide_eq_false hn,Bool.false_and];refine aC (aD tok Tryz.func93 rfl rfl ?_);refine wx ?_;simp -implicitDefEqProofs -dsimp[Tryz.f93,List.replicate,am,h2,hn]
   ·rw[if_neg h2];by_cases h3:v.k=3
    ·rw[decide_eq_true h3,Bool.true_and];by_cases hn:1≤v.n
     ·rw[decide_eq_true hn,Bool.true_and];refine aC (aD tok Tryz.func93 rfl rfl ?_);refine wx ?_;simp -implicitDefEqProofs -dsimp[Tryz.f93,List.replicate,am,h3,hn]
     ·rw[decide_eq_false hn,Bool.false_and];refine aC (aD tok Tryz.func93 rfl rfl ?_);refine wx ?_;simp -implicitDefEqProofs -dsimp[Tryz.f93,List.replicate,am,h3,hn]
    ·rw[decide_eq_false h3,Bool.false_and];refine aC (aD tok Tryz.func93 rfl rfl ?_);refine wx ?_;simp -implicitDefEqProofs -dsimp[Tryz.f93,List.replicate,am,h0,h1,h2,h3]
theorem validV_con(v:Vl):aS Tryz.prog 168 [am v] fun r=>r = .bool (bP v):=by
 unfold bP;by_cases h0:v.k=0
 ·by_cases hn:v.n=0
  ·rw[if_pos h0,decide_eq_true hn,Bool.true_and];refine aC (aD tok Tryz.func168 rfl rfl ?_);refine wx ?_;simp -implicitDefEqProofs -dsimp[Tryz.f168,List.replicate,am,h0,hn]
  ·rw[if_pos h0,decide_eq_false hn,Bool.false_and];refine aC (aD tok Tryz.func168 rfl rfl ?_);refine wx ?_;simp -implicitDefEqProofs -dsimp[Tryz.f168,List.replicate,am,h0,hn]
 ·rw[if_neg h0];by_cases h1:v.k=1
  ·rw[if_pos h1];refine aC (aD tok Tryz.func168 rfl rfl ?_);refine wx ?_;simp -implicitDefEqProofs -dsimp[Tryz.f168,List.replicate,am,h1]
  ·rw[if_neg h1];by_cases h2:v.k=2
   ·rw[if_pos h2];by_cases hn:v.n=0
    ·rw[decide_eq_true hn,Bool.true_and];by_cases hz:v.s.size≤200
     ·rw[decide_eq_true hz];refine aC (aD tok Tryz.func168 rfl rfl ?_);refine wx ?_;simp -implicitDefEqProofs -dsimp[Tryz.f168,List.replicate,am,h2,hn,show(v.s.size:Int)≤200 by omega]
     ·rw[decide_eq_false hz];refine aC (aD tok Tryz.func168 rfl rfl ?_);refine wx ?_;simp -implicitDefEqProofs -dsimp[Tryz.f168,List.replicate,am,h2,hn,show ¬(v.s.size:Int)≤200 by omega]
    ·rw[decide_eq_false hn,Bool.false_and];refine aC (aD tok Tryz.func168 rfl rfl ?_);refine wx ?_;simp -implicitDefEqProofs -dsimp[Tryz.f168,List.replicate,am,h2,hn]
   ·rw[if_neg h2];by_cases h3:v.k=3
    ·rw[decide_eq_true h3,Bool.true_and];by_cases hn:1≤v.n
     ·rw[decide_eq_true hn,Bool.true_and];refine aC (aD tok Tryz.func168 rfl rfl ?_);refine wx ?_;simp -implicitDefEqProofs -dsimp[Tryz.f168,List.replicate,am,h3,hn]
     ·rw[decide_eq_false hn,Bool.false_and];refine aC (aD tok Tryz.func168 rfl rfl ?_);refine wx ?_;simp -implicitDefEqProofs -dsimp[Tryz.f168,List.replicate,am,h3,hn]
    ·rw[decide_eq_false h3,Bool.false_and];refine aC (aD tok Tryz.func168 rfl rfl ?_);refine wx ?_;simp -implicitDefEqProofs -dsimp[Tryz.f168,List.replicate,am,h0,h1,h2,h3]
theorem any_drop(p:Vl→Bool)(vs:List Vl)(i:Nat)(h:i<vs.length):(vs.drop i).all p=(p vs[i]&&(vs.drop (i+1)).all p):=by rw[List.drop_eq_getElem_cons h];rfl
theorem valids01(vs:List Vl)(f:Bool)(hl:vs.length≤1000000):aS Tryz.prog 128 [LV f vs] fun r=>r = .bool (vs.all bP):=by
 obtain⟨E,hE⟩:∃E,E=vs.all bP:=⟨_,rfl⟩;rw[←hE];refine aC (aD tok Tryz.func128 rfl rfl ?_);refine wx ?_;simp -implicitDefEqProofs -dsimp[Tryz.f128,List.replicate,LV];refine aK (W_loopM 16 [2,3,4,5,6,7,8,9,10,11,12,13,14,15] (by simp[mB]<;>rfl) (σ:=Nat) (fun i=>(vs.drop i).all bP=E) (fun i=>vs.length-i) (fun i=>[(3,.int .i64 i)]) (fun _=>[]) 0 (by rw[List.drop_zero,hE]) (by simp) rfl (by simp) ?_);rintro i hx N Q hN hQ;by_cases hb:i<vs.length
 ·rw[any_drop _ _ _ hb]at hx;have hc:=valid01 vs[i];cases h1:bP vs[i]
  ·rw[h1]at hc;rw[h1,Bool.false_and]at hx;refine wx ?_;simp -implicitDefEqProofs -dsimp[hb];refine(aG (hc) (by simp)).mono ?_;rintro r H' ⟨rfl,rfl⟩;simp -implicitDefEqProofs -dsimp[];refine hQ _ _ _ ?_;simp -implicitDefEqProofs -dsimp[];simpa using hx
  ·rw[h1]at hc;rw[h1,Bool.true_and]at hx;refine wx ?_;simp -implicitDefEqProofs -dsimp[hb];refine(aG (hc) (by simp)).mono ?_;rintro r H' ⟨rfl,rfl⟩;simp -implicitDefEqProofs -dsimp[aM i (by omega)];refine hN (i+1) _ _ hx (by omega) (by simp) ⟨[],rfl⟩ (by simp) (by simp)
 ·rw[List.drop_of_length_le (by omega)]at hx;refine wx ?_;simp -implicitDefEqProofs -dsimp[hb];refine hQ _ _ _ ?_;simp -implicitDefEqProofs -dsimp[];simpa using hx
def ixV(p:Vl→Bool)(vs:List Vl)(i:Nat):Int:=if h:i<vs.length then(if p vs[i] then(i:Int) else ixV p vs (i+1)) else -1
termination_by vs.length-i
theorem ixV_any(p:Vl→Bool)(vs:List Vl)(i:Nat):decide (0≤ixV p vs i)=(vs.drop i).any p:=by
 fun_induction ixV p vs i with
 | case1 i h h0=>rw[List.drop_eq_getElem_cons h,List.any_cons,h0];simp
 | case2 i h h0 ih=>rw[List.drop_eq_getElem_cons h,List.any_cons,ih];simp[h0]
 | case3 i h=>rw[List.drop_of_length_le (by omega)];rfl
theorem idxFuncV(H:List B)(fv:V)(p:Vl→Bool)(vs:List Vl)(g:Bool)(hes:vs.length≤1000000)(hH:∀bl∈H,rbB H.length bl)(hfv:rb H.length fv)
  (hp:∀m∈vs,aV Tryz.prog fv [am m] H fun r H'=>r = .bool (p m)∧H'=H):az Tryz.prog 198 [LV g vs,fv] H fun r H'=>r = .int .i64 (ixV p vs 0)∧H'=H:=by
 refine aD tok Tryz.func198 rfl rfl ?_;refine wx ?_;simp -implicitDefEqProofs -dsimp[Tryz.f198,List.replicate,LV];refine aK (W_loopM 19 [4,5,8,9,10,11,12,13,14,15,16,17,18] (by simp[mB]<;>rfl) (σ:=Nat) (fun i=>ixV p vs i=ixV p vs 0) (fun i=>vs.length-i) (fun i=>[(8,.int .i64 i)]) (fun _=>H) 0 rfl (by simp) rfl (by simp) ?_);intro i hx N Q hN hQ;by_cases hb:i<vs.length
 ·rw[ixV,dif_pos hb]at hx;have hc:=hp vs[i] (List.getElem_mem hb);cases hq:p vs[i]
  ·rw[hq]at hc hx;refine wx ?_;simp -implicitDefEqProofs -dsimp[hb];refine hc.mono ?_;rintro r H' ⟨rfl,rfl⟩;simp -implicitDefEqProofs -dsimp[aM i (by omega)];refine hN (i+1) _ _ (by simpa using hx) (by omega) (by simp) ⟨[],by simp⟩ (by simp;exact hfv) hH
  ·rw[hq]at hc hx;refine wx ?_;simp -implicitDefEqProofs -dsimp[hb];refine hc.mono ?_;rintro r H' ⟨rfl,rfl⟩;simp -implicitDefEqProofs -dsimp[];refine hQ _ _ _ ?_;simp -implicitDefEqProofs -dsimp[];simpa using hx
 ·rw[ixV,dif_neg hb]at hx;refine wx ?_;simp -implicitDefEqProofs -dsimp[hb];refine hQ _ _ _ ?_;simp -implicitDefEqProofs -dsimp[];simpa using hx
theorem contFuncV(H:List B)(fv:V)(p:Vl→Bool)(vs:List Vl)(g:Bool)(hes:vs.length≤1000000)(hH:∀bl∈H,rbB H.length bl)(hfv:rb H.length fv)
  (hp:∀m∈vs,aV Tryz.prog fv [am m] H fun r H'=>r = .bool (p m)∧H'=H):az Tryz.prog 166 [LV g vs,fv] H fun r H'=>r = .bool (vs.any p)∧H'=H:=by
 have h0:=ixV_any p vs 0;rw[List.drop_zero]at h0;have hc:=idxFuncV H fv p vs g hes hH hfv hp;refine aD tok Tryz.func166 rfl rfl ?_;refine wx ?_;simp -implicitDefEqProofs -dsimp[Tryz.f166,List.replicate];refine aV.mono (K:=fun r H'=>r = .int .i64 (ixV p vs 0)∧H'=H) hc ?_;rintro r H' ⟨rfl,rfl⟩;simp -implicitDefEqProofs -dsimp[];rw[←h0]
theorem notValid(v:Vl):aS Tryz.prog 167 [am v] fun r=>r = .bool (!bP v):=by
 have hc:=validV_con v;simp only[am]at hc;refine aC (aD tok Tryz.func167 rfl rfl ?_);refine wx ?_;simp -implicitDefEqProofs -dsimp[Tryz.f167,List.replicate,am];refine(aG (hc) (by simp)).mono ?_;rintro r H' ⟨rfl,rfl⟩;simp -implicitDefEqProofs -dsimp[]
theorem validVals(vs:List Vl)(f:Bool)(hl:vs.length≤1000000):aS Tryz.prog 118 [LV f vs] fun r=>r = .bool (vs.all bP):=by
 have hc:=contFuncV [] (.fn 167 []) (fun v=>!bP v) vs f hl (by simp) (by simp) (fun m _=>aG (notValid m) (by simp))
 have he:vs.all bP = !vs.any fun v=>!bP v:=by
  induction vs with
  | nil=>rfl
  | cons v vs ih=>simp only[List.all_cons,List.any_cons,Bool.not_or,Bool.not_not];rw[ih (by simp at hl;omega) (contFuncV [] (.fn 167 []) (fun v=>!bP v) vs f (by simp at hl;omega) (by simp) (by simp) (fun m _=>aG (notValid m) (by simp)))]
 rw[he];refine aC (aD tok Tryz.func118 rfl rfl ?_);refine wx ?_;simp -implicitDefEqProofs -dsimp[Tryz.f118,List.replicate];refine aV.mono (K:=fun r H'=>r = .bool (vs.any fun v=>!bP v)∧H'=[]) hc ?_;rintro r H' ⟨rfl,rfl⟩;simp -implicitDefEqProofs -dsimp[]
structure Rw where
 id:Int
 vals:List Vl
structure Tb where
 name:ByteArray
 attrs:List ByteArray
 rows:List Rw
def aN(r:Rw):V:=.agg [.int .i64 r.id,LV false r.vals]
def LR(g:Bool)(rs:List Rw):V:=.lst 2 g (rs.map aN)
def aF(f g:Bool)(t:Tb):V:=.agg [.str t.name,LS f t.attrs,LR g t.rows]
@[simp] theorem encRw_pure (r:Rw):AM.Pure (aN r):=by simp[aN]
@[simp] theorem LR_pure (g:Bool) (rs:List Rw):AM.Pure (LR g rs):=by simp[LR]
@[simp] theorem encTb_pure (f g:Bool) (t:Tb):AM.Pure (aF f g t):=by simp[aF]
@[simp] theorem encRw_oneV (r:Rw):dc (aN r)=true:=rfl
def dp(n:Nat):Int→List Rw→Int
 | _,[]=>0
 | last,r::rs=>if r.id≤last then 1 else if r.vals.length≠n then 6 else if r.vals.all bP then dp n r.id rs else 1
def validT(t:Tb):Int:=if bn t.name then(if 16<t.attrs.length∨1000<t.rows.length then 3 else if gc t.attrs then dp t.attrs.length 0 t.rows else 1) else 1
structure TbOk (t:Tb):Prop where
 name:t.name.size≤maxLen
 attrs:t.attrs.length≤1000000
 rows:t.rows.length≤1000000
 strs:∀s∈t.attrs,s.size≤maxLen
theorem valid03(t:Tb)(f g:Bool)(h:TbOk t):aS Tryz.prog 84 [aF f g t] fun r=>r = .int .i64 (validT t):=by
 obtain⟨hn,ha,hr,hs⟩:=h;have hc1:=pC t.name hn;cases h1:bn t.name
 ·rw[h1]at hc1;rw[show validT t=1 by simp[validT,h1]];refine aC (aD tok Tryz.func84 rfl rfl ?_);refine wx ?_;simp -implicitDefEqProofs -dsimp[Tryz.f84,List.replicate,aF,LR,LS];refine(aG (hc1) (by simp)).mono ?_;rintro r H' ⟨rfl,rfl⟩;simp -implicitDefEqProofs -dsimp[]
 ·rw[h1]at hc1;by_cases h2:16<t.attrs.length
  ·rw[show validT t=3 by simp[validT,h1,h2]];refine aC (aD tok Tryz.func84 rfl rfl ?_);refine wx ?_;simp -implicitDefEqProofs -dsimp[Tryz.f84,List.replicate,aF,LR,LS];refine(aG (hc1) (by simp)).mono ?_;rintro r H' ⟨rfl,rfl⟩;simp -implicitDefEqProofs -dsimp[show(16:Int)<t.attrs.length by omega]
  ·by_cases h3:1000<t.rows.length
   ·rw[show validT t=3 by simp[validT,h1,h3]];refine aC (aD tok Tryz.func84 rfl rfl ?_);refine wx ?_;simp -implicitDefEqProofs -dsimp[Tryz.f84,List.replicate,aF,LR,LS];refine(aG (hc1) (by simp)).mono ?_;rintro r H' ⟨rfl,rfl⟩;simp -implicitDefEqProofs -dsimp[show ¬(16:Int)<t.attrs.length by omega,show(1000:Int)<t.rows.length by omega]
   ·have hc2:=names03 t.attrs f ha hs;simp only[LS]at hc2;cases h4:gc t.attrs
    ·rw[h4]at hc2;rw[show validT t=1 by simp[validT,h1,h2,h3,h4]];refine aC (aD tok Tryz.func84 rfl rfl ?_);refine wx ?_;simp -implicitDefEqProofs -dsimp[Tryz.f84,List.replicate,aF,LR,LS];refine(aG (hc1) (by simp)).mono ?_;rintro r H' ⟨rfl,rfl⟩;simp -implicitDefEqProofs -dsimp[show ¬(16:Int)<t.attrs.length by omega,show ¬(1000:Int)<t.rows.length by omega];refine(aG (hc2) (by simp)).mono ?_;rintro r H' ⟨rfl,rfl⟩;simp -implicitDefEqProofs -dsimp[]
    ·rw[h4]at hc2
     have hE:dp t.attrs.length 0 t.rows=validT t:=by simp[validT,h1,h2,h3,h4]
     obtain⟨E,hEe⟩:∃E,E=validT t:=⟨_,rfl⟩;rw[←hEe]at hE ⊢;refine aC (aD tok Tryz.func84 rfl rfl ?_);refine wx ?_;simp -implicitDefEqProofs -dsimp[Tryz.f84,List.replicate,aF,LR,LS];refine(aG (hc1) (by simp)).mono ?_;rintro r H' ⟨rfl,rfl⟩;simp -implicitDefEqProofs -dsimp[show ¬(16:Int)<t.attrs.length by omega,show ¬(1000:Int)<t.rows.length by omega];refine(aG (hc2) (by simp)).mono ?_;rintro r H' ⟨rfl,rfl⟩;simp -implicitDefEqProofs -dsimp[];refine aK (W_loopM 53 [2,3,4,5,24,25,26,27,28,29,30,31,32,33,34,35,36,37,38,39,40,41,42,43,44,45,46,47,48,49,50,51,52] (by simp[mB]<;>rfl) (σ:=Nat×Int) (fun p=>p.1≤t.rows.length∧dp t.attrs.length p.2 (t.rows.drop p.1)=E) (fun p=>t.rows.length-p.1) (fun p=>[(4,.int .i64 p.1),(3,.int .i64 p.2)]) (fun _=>[B.cells [.str t.name,LS f t.attrs,LR g t.rows]]) (0,0) ⟨by simp,hE⟩ (by simp) (by simp[LS,LR]) (by simp) ?_);rintro⟨i,last⟩ ⟨hi,hx⟩ N Q hN hQ;simp only at hi hx hN;by_cases hb:i<t.rows.length
     ·rw[List.drop_eq_getElem_cons hb]at hx;simp only[dp]at hx;by_cases h5:t.rows[i].id≤last
      ·rw[if_pos h5]at hx;refine wx ?_;simp -implicitDefEqProofs -dsimp[hb,LS,LR,aN,h5,LV];refine hQ _ _ _ ?_;simp -implicitDefEqProofs -dsimp[];exact hx
      ·rw[if_neg h5]at hx;by_cases h6:t.rows[i].vals.length=t.attrs.length
       ·rw[if_neg (fun h=>h h6)]at hx;have hc3:=valids01 t.rows[i].vals false (by omega);cases h7:t.rows[i].vals.all bP
        ·rw[h7]at hc3 hx;refine wx ?_;simp -implicitDefEqProofs -dsimp[hb,LS,LR,aN,h5,LV,h6];simp only[LV]at hc3;refine(aG (hc3) (by simp)).mono ?_;rintro r H' ⟨rfl,rfl⟩;simp -implicitDefEqProofs -dsimp[];refine hQ _ _ _ ?_;simp -implicitDefEqProofs -dsimp[];simpa using hx
        ·rw[h7,if_pos rfl]at hx;rw[h7]at hc3;refine wx ?_;simp -implicitDefEqProofs -dsimp[hb,LS,LR,aN,h5,LV,h6];simp only[LV]at hc3;refine(aG (hc3) (by simp)).mono ?_;rintro r H' ⟨rfl,rfl⟩;simp -implicitDefEqProofs -dsimp[aM i (by omega)];refine hN (i+1,t.rows[i].id) _ _ ⟨by simp;omega,hx⟩ (by omega) ?_ ⟨[B.cells [.int .i64 t.rows[i].id,LV false t.rows[i].vals]],?_⟩ ?_ ?_<;>simp[or_imp,forall_and,L1,ac,LS,LR,LV]
       ·rw[if_pos h6]at hx;refine wx ?_;simp -implicitDefEqProofs -dsimp[hb,LS,LR,aN,h5,LV,show ¬(t.rows[i].vals.length:Int)=t.attrs.length by omega];refine hQ _ _ _ ?_;simp -implicitDefEqProofs -dsimp[];exact hx
     ·rw[List.drop_of_length_le (by omega)]at hx;refine wx ?_;simp -implicitDefEqProofs -dsimp[hb,LS,LR];refine hQ _ _ _ ?_;simp -implicitDefEqProofs -dsimp[];exact hx
theorem oR(t:Tb)(f g:Bool)(h:TbOk t):aS Tryz.prog 72 [aF f g t] fun r=>r = .int .i64 (validT t):=by
 obtain⟨hn,ha,hr,hs⟩:=h;have hc1:=pN t.name hn;cases h1:bn t.name
 ·rw[h1]at hc1;rw[show validT t=1 by simp[validT,h1]];refine aC (aD tok Tryz.func72 rfl rfl ?_);refine wx ?_;simp -implicitDefEqProofs -dsimp[Tryz.f72,List.replicate,aF,LR,LS];refine(aG (hc1) (by simp)).mono ?_;rintro r H' ⟨rfl,rfl⟩;simp -implicitDefEqProofs -dsimp[]
 ·rw[h1]at hc1;by_cases h2:16<t.attrs.length
  ·rw[show validT t=3 by simp[validT,h1,h2]];refine aC (aD tok Tryz.func72 rfl rfl ?_);refine wx ?_;simp -implicitDefEqProofs -dsimp[Tryz.f72,List.replicate,aF,LR,LS];refine(aG (hc1) (by simp)).mono ?_;rintro r H' ⟨rfl,rfl⟩;simp -implicitDefEqProofs -dsimp[show(16:Int)<t.attrs.length by omega]
  ·by_cases h3:1000<t.rows.length
   ·rw[show validT t=3 by simp[validT,h1,h3]];refine aC (aD tok Tryz.func72 rfl rfl ?_);refine wx ?_;simp -implicitDefEqProofs -dsimp[Tryz.f72,List.replicate,aF,LR,LS];refine(aG (hc1) (by simp)).mono ?_;rintro r H' ⟨rfl,rfl⟩;simp -implicitDefEqProofs -dsimp[show ¬(16:Int)<t.attrs.length by omega,show(1000:Int)<t.rows.length by omega]
   ·have hE:(if gc t.attrs then dp t.attrs.length 0 t.rows else 1)=validT t:=by simp[validT,h1,h2,h3]
    obtain⟨E,hEe⟩:∃E,E=validT t:=⟨_,rfl⟩;rw[←hEe]at hE ⊢;refine aC (aD tok Tryz.func72 rfl rfl ?_);refine wx ?_;simp -implicitDefEqProofs -dsimp[Tryz.f72,List.replicate,aF,LR,LS];refine(aG (hc1) (by simp)).mono ?_;rintro r H' ⟨rfl,rfl⟩;simp -implicitDefEqProofs -dsimp[show ¬(16:Int)<t.attrs.length by omega,show ¬(1000:Int)<t.rows.length by omega];refine aK (W_loopM 42 [2,3,4,25,26,27,28,29,30,31,32,33,34,35,36,37,38,39,40,41] (by simp[mB]<;>rfl) (σ:=Nat) (fun i=>i≤t.attrs.length∧(List.range i).all (nmAt t.attrs)=true) (fun i=>t.attrs.length-i) (fun i=>[(25,.int .i64 i)]) (fun _=>[B.cells [.str t.name,LS f t.attrs,LR g t.rows]]) 0 ⟨by omega,rfl⟩ (by simp) (by simp[LS,LR]) (by simp) ?_);rintro i ⟨hi,hall⟩ N Q hN hQ;by_cases hb:i<t.attrs.length
    ·have hsi:sAt t.attrs i=t.attrs[i]:=by simp[sAt,hb]
     have hok:nmAt t.attrs i=(bn t.attrs[i]&&!memS (t.attrs.take i) t.attrs[i]):=by unfold nmAt;rw[hsi]
     have hd1:=pN t.attrs[i] (hs _ (List.getElem_mem hb));have hd2:=containsS (t.attrs.take i) t.attrs[i] (f&&i == t.attrs.length) (by simp;omega);simp only[LS,List.map_take]at hd2;cases h5:bn t.attrs[i]
     ·rw[h5,Bool.false_and]at hok;rw[h5]at hd1;rw[show gc t.attrs=false from allno hb hok]at hE;refine wx ?_;simp -implicitDefEqProofs -dsimp[hb,LS,LR];refine(aG (hd1) (by simp)).mono ?_;rintro r H' ⟨rfl,rfl⟩;simp -implicitDefEqProofs -dsimp[];refine hQ _ _ _ ?_;simp -implicitDefEqProofs -dsimp[];simpa using hE
     ·rw[h5,Bool.true_and]at hok;rw[h5]at hd1;cases h6:memS (t.attrs.take i) t.attrs[i]
      ·rw[h6]at hd2 hok;refine wx ?_;simp -implicitDefEqProofs -dsimp[hb,LS,LR];refine(aG (hd1) (by simp)).mono ?_;rintro r H' ⟨rfl,rfl⟩;simp -implicitDefEqProofs -dsimp[show i≤t.attrs.length by omega];refine(aG (hd2) (by simp)).mono ?_;rintro r H' ⟨rfl,rfl⟩;simp -implicitDefEqProofs -dsimp[aM i (by omega)];refine hN (i+1) _ _ ⟨by omega,dn hall (by rw[hok];rfl)⟩ (by omega) ?_ ⟨[],?_⟩ ?_ ?_<;>simp[or_imp,forall_and,L1,ac,LS,LR]
      ·rw[h6]at hd2 hok;rw[show gc t.attrs=false from allno hb hok]at hE;refine wx ?_;simp -implicitDefEqProofs -dsimp[hb,LS,LR];refine(aG (hd1) (by simp)).mono ?_;rintro r H' ⟨rfl,rfl⟩;simp -implicitDefEqProofs -dsimp[show i≤t.attrs.length by omega];refine(aG (hd2) (by simp)).mono ?_;rintro r H' ⟨rfl,rfl⟩;simp -implicitDefEqProofs -dsimp[];refine hQ _ _ _ ?_;simp -implicitDefEqProofs -dsimp[];simpa using hE
    ·obtain rfl:i=t.attrs.length:=by omega
     rw[show gc t.attrs=true from hall,if_pos rfl]at hE;refine wx ?_;simp -implicitDefEqProofs -dsimp[hb,LS,LR];refine hQ _ _ _ ?_;simp -implicitDefEqProofs -dsimp[LS,LR];refine aK (W_loopM 70 [2,5,7,45,46,47,48,49,50,51,52,53,54,55,56,57,58,59,60,61,62,63,64,65,66,67,68,69] (by simp[mB]<;>rfl) (σ:=Nat×Int) (fun p=>p.1≤t.rows.length∧dp t.attrs.length p.2 (t.rows.drop p.1)=E) (fun p=>t.rows.length-p.1) (fun p=>[(45,.int .i64 p.1),(5,.int .i64 p.2)]) (fun _=>[B.cells [.str t.name,LS f t.attrs,LR g t.rows]]) (0,0) ⟨by simp,hE⟩ (by simp) (by simp[LS,LR]) (by simp) ?_);rintro⟨j,last⟩ ⟨hj,hx⟩ N2 Q2 hN2 hQ2;simp only at hj hx hN2;by_cases hjb:j<t.rows.length
     ·rw[List.drop_eq_getElem_cons hjb]at hx;simp only[dp]at hx;by_cases h5:t.rows[j].id≤last
      ·rw[if_pos h5]at hx;refine wx ?_;simp -implicitDefEqProofs -dsimp[hjb,LS,LR,aN,h5,LV];refine hQ2 _ _ _ ?_;simp -implicitDefEqProofs -dsimp[];exact hx
      ·rw[if_neg h5]at hx;by_cases h6:t.rows[j].vals.length=t.attrs.length
       ·rw[if_neg (fun h=>h h6)]at hx;have hc3:=validVals t.rows[j].vals false (by omega);simp only[LV]at hc3;cases h7:t.rows[j].vals.all bP
        ·rw[h7]at hc3 hx;refine wx ?_;simp -implicitDefEqProofs -dsimp[hjb,LS,LR,aN,h5,LV,h6];refine(aG (hc3) (by simp)).mono ?_;rintro r H' ⟨rfl,rfl⟩;simp -implicitDefEqProofs -dsimp[];refine hQ2 _ _ _ ?_;simp -implicitDefEqProofs -dsimp[];simpa using hx
        ·rw[h7,if_pos rfl]at hx;rw[h7]at hc3;refine wx ?_;simp -implicitDefEqProofs -dsimp[hjb,LS,LR,aN,h5,LV,h6];refine(aG (hc3) (by simp)).mono ?_;rintro r H' ⟨rfl,rfl⟩;simp -implicitDefEqProofs -dsimp[aM j (by omega)];refine hN2 (j+1,t.rows[j].id) _ _ ⟨by simp;omega,hx⟩ (by omega) ?_ ⟨[B.cells [.int .i64 t.rows[j].id,LV false t.rows[j].vals]],?_⟩ ?_ ?_<;>simp[or_imp,forall_and,L1,ac,LS,LR,LV]
       ·rw[if_pos h6]at hx;refine wx ?_;simp -implicitDefEqProofs -dsimp[hjb,LS,LR,aN,h5,LV,show ¬(t.rows[j].vals.length:Int)=t.attrs.length by omega];refine hQ2 _ _ _ ?_;simp -implicitDefEqProofs -dsimp[];exact hx
     ·rw[List.drop_of_length_le (by omega)]at hx;refine wx ?_;simp -implicitDefEqProofs -dsimp[hjb,LS,LR];refine hQ2 _ _ _ ?_;simp -implicitDefEqProofs -dsimp[];exact hx
def ofV(m:Int):Vl :=
 if m=0 then⟨1,0,ByteArray.empty⟩ else
 if m=1 then⟨1,1,ByteArray.empty⟩ else
 if m=2 then⟨1,2,ByteArray.empty⟩ else
 if m=3 then⟨0,0,ByteArray.empty⟩ else
 if m=4 then⟨2,0,⟨#[97]⟩⟩ else
 if m=5 then⟨2,0,⟨#[98]⟩⟩ else
 if m=6 then⟨2,0,ByteArray.empty⟩ else
 if m=7 then⟨3,1,ByteArray.empty⟩ else
 if m=8 then⟨1,-1,ByteArray.empty⟩ else
 if m=9 then⟨2,0,⟨#[97,98]⟩⟩ else
 if m=10 then⟨3,2,ByteArray.empty⟩ else
 ⟨1,7,ByteArray.empty⟩
def ofC(c:Int):Vl:=ofV (c.tmod 12)
theorem of01(c:Int):aS Tryz.prog 41 [.int .u8 c] fun r=>r=am (ofC c):=by
 unfold ofC;obtain⟨m,hm⟩:∃m,m=c.tmod 12:=⟨_,rfl⟩;rw[←hm];have hm:=hm.symm;by_cases h0:m=0
 ·have e:ofV m=ofV 0:=by rw[h0]
  rw[e];refine aC (aD tok Tryz.func41 rfl rfl ?_);refine wx ?_;simp -implicitDefEqProofs -dsimp[Tryz.f41,List.replicate,hm,h0];rfl
 by_cases h1:m=1
 ·have e:ofV m=ofV 1:=by rw[h1]
  rw[e];refine aC (aD tok Tryz.func41 rfl rfl ?_);refine wx ?_;simp -implicitDefEqProofs -dsimp[Tryz.f41,List.replicate,hm,h1];rfl
 by_cases h2:m=2
 ·have e:ofV m=ofV 2:=by rw[h2]
  rw[e];refine aC (aD tok Tryz.func41 rfl rfl ?_);refine wx ?_;simp -implicitDefEqProofs -dsimp[Tryz.f41,List.replicate,hm,h2];rfl
 by_cases h3:m=3
 ·have e:ofV m=ofV 3:=by rw[h3]
  rw[e];refine aC (aD tok Tryz.func41 rfl rfl ?_);refine wx ?_;simp -implicitDefEqProofs -dsimp[Tryz.f41,List.replicate,hm,h3];rfl
 by_cases h4:m=4
 ·have e:ofV m=ofV 4:=by rw[h4]
  rw[e];refine aC (aD tok Tryz.func41 rfl rfl ?_);refine wx ?_;simp -implicitDefEqProofs -dsimp[Tryz.f41,List.replicate,hm,h4];rfl
 by_cases h5:m=5
 ·have e:ofV m=ofV 5:=by rw[h5]
  rw[e];refine aC (aD tok Tryz.func41 rfl rfl ?_);refine wx ?_;simp -implicitDefEqProofs -dsimp[Tryz.f41,List.replicate,hm,h5];rfl
 by_cases h6:m=6
 ·have e:ofV m=ofV 6:=by rw[h6]
  rw[e];refine aC (aD tok Tryz.func41 rfl rfl ?_);refine wx ?_;simp -implicitDefEqProofs -dsimp[Tryz.f41,List.replicate,hm,h6];rfl
 by_cases h7:m=7
 ·have e:ofV m=ofV 7:=by rw[h7]
  rw[e];refine aC (aD tok Tryz.func41 rfl rfl ?_);refine wx ?_;simp -implicitDefEqProofs -dsimp[Tryz.f41,List.replicate,hm,h7];rfl
 by_cases h8:m=8
 ·have e:ofV m=ofV 8:=by rw[h8]
  rw[e];refine aC (aD tok Tryz.func41 rfl rfl ?_);refine wx ?_;simp -implicitDefEqProofs -dsimp[Tryz.f41,List.replicate,hm,h8];rfl
 by_cases h9:m=9
 ·have e:ofV m=ofV 9:=by rw[h9]
  rw[e];refine aC (aD tok Tryz.func41 rfl rfl ?_);refine wx ?_;simp -implicitDefEqProofs -dsimp[Tryz.f41,List.replicate,hm,h9];rfl
 by_cases h10:m=10
 ·have e:ofV m=ofV 10:=by rw[h10]
  rw[e];refine aC (aD tok Tryz.func41 rfl rfl ?_);refine wx ?_;simp -implicitDefEqProofs -dsimp[Tryz.f41,List.replicate,hm,h10];rfl
 have e:ofV m=⟨1,7,ByteArray.empty⟩:=by unfold ofV;simp[h0,h1,h2,h3,h4,h5,h6,h7,h8,h9,h10]
 rw[e];refine aC (aD tok Tryz.func41 rfl rfl ?_);refine wx ?_;simp -implicitDefEqProofs -dsimp[Tryz.f41,List.replicate,hm,h0,h1,h2,h3,h4,h5,h6,h7,h8,h9,h10];rfl
def lfB:V→V→Prop
 | x,y=>y=x∨(∃z xs,x = .lst z true xs∧y = .lst z false xs)∨(∃z,x = .nilS∧y = .lst z false [])
def LfL:List V→List V→Prop
 | [],[]=>True
 | x::xs,y::ys=>lfB x y∧LfL xs ys
 | _,_=>False
theorem LfL.len:∀{xs ys:List V},LfL xs ys→xs.length=ys.length
 | [],[],_=>rfl
 | [],_::_,h=>h.elim
 | _::_,[],h=>h.elim
 | _::_,_::_,h=>by simp[h.2.len]
theorem LfL.at_:∀{xs ys:List V},LfL xs ys→∀(i:Nat) x y,xs[i]?=some x→ys[i]?=some y→lfB x y
 | [],_,_,i,x,y,h,_=>by simp at h
 | _::_,[],h,_,_,_,_,_=>h.elim
 | a::xs,b::ys,h,0,x,y,h1,h2=>by simp at h1 h2;subst h1;subst h2;exact h.1
 | a::xs,b::ys,h,i+1,x,y,h1,h2=>h.2.at_ i x y (by simpa using h1) (by simpa using h2)
theorem me{s:AM.St}{x y:V}{u:Value}(h:Rel s x u)(hl:lfB x y):Rel s y u:=by
 rcases hl with rfl | ⟨z,xs,rfl,rfl⟩ | ⟨z,rfl,rfl⟩
 ·exact h
 ·cases h with
  | lst _ _ _ A cap b off u hcap hfull hA hz hcell hrel=>exact .lst z false xs A cap b off u hcap (fun h=>by cases h) hA hz hcell hrel
 ·cases h;exact dO z false none 0 (fun _=>rfl)
theorem lf_one{x y:V}(hl:lfB x y)(h:x.one=true):y.one=true:=by
 rcases hl with rfl | ⟨z,xs,rfl,rfl⟩ | ⟨z,rfl,rfl⟩
 ·exact h
 ·rfl
 ·rfl
theorem W_lf{P:Program}(k0:Nat)(fr' cs':List V){c:Code}{Q:Exit→List V→List B→Prop}{fr:List V}{H:List B}{cs:List V}(hk:H[k0]?=some (.cells cs))(ho:LfL fr fr')(hc:LfL cs cs')
  (h:W P c Q fr' (H.set k0 (.cells cs'))):W P c Q fr H:=by
 intro s a hA hg hf hd;obtain⟨rfl,hZ⟩:=hA;have hst:=bq (w:=s.w) (bl':=.cells cs') hg hk (lvC hk) trivial rfl rfl rfl (Nat.le_refl _) (fun _ _ _=>rfl);have hl:=ho.len;have hlc:=hc.len
 have hgd:AM.Good (s.setB s.w k0 (.cells cs')):=by
  refine cH hg hk (lvC hk) trivial rfl rfl rfl (Nat.le_refl _) (fun _ _ _=>rfl) (fun hst=>?_);obtain⟨h1,vs,t,h2,h3,h4⟩:=hg.blk k0 _ hk;refine⟨fun d hd=>?_,vs,t,h2,by omega,fun i d u hd hu=>?_⟩
  ·obtain⟨i,hi⟩:=List.mem_iff_getElem?.1 hd;have hx:cs[i]?=some (cs[i]'(by have:=aE hi;omega)):=List.getElem?_eq_getElem _;exact lf_one (hc.at_ i _ d hx hi) (h1 _ (List.getElem_mem _))
  ·have hx:cs[i]?=some (cs[i]'(by have:=aE hd;omega)):=List.getElem?_eq_getElem _;exact(me (h4 i _ u hx hu) (hc.at_ i _ d hx hd)).step hst
 have:=h (s.setB s.w k0 (.cells cs')) a ⟨rfl,hZ.step hst⟩ hgd ⟨by rw[hf.len,hl],fun i v u hv hu=>by
  have hx:fr[i]?=some (fr[i]'(by have:=aE hv;omega)):=List.getElem?_eq_getElem _
  exact(me (hf.rel i _ u hx hu) (ho.at_ i _ v hx hv)).step hst⟩ hd
 exact wp_mono this fun _ _ _ hl=>cS hst hl
theorem lfB_refl(x:V):lfB x x:=.inl rfl
theorem pK:∀xs:List V,LfL xs xs
 | []=>trivial
 | x::xs=>⟨lfB_refl x,pK xs⟩
structure Rcp where
 a:Int
 gap:Int
 rows:List (List Int)
def LU(xs:List Int):V:=.lst 1 false (xs.map encU)
def ml(f:Bool)(x:Rcp):V:=.agg [.int .u8 x.a,.int .u8 x.gap,.lst 1 f (x.rows.map LU)]
@[simp] theorem LU_pure (xs:List Int):AM.Pure (LU xs):=by simp[LU]
@[simp] theorem encRcp_pure (f:Bool) (x:Rcp):AM.Pure (ml f x):=by simp[ml]
def L8:List ByteArray:=[⟨#[97]⟩,⟨#[98]⟩,⟨#[99]⟩,⟨#[100]⟩,⟨#[101]⟩,⟨#[102]⟩,⟨#[103]⟩,⟨#[104]⟩]
def jG(cs:List Int)(k:Nat):List Vl:=(List.range k).map fun j=>ofC (cs.getD j 0)
def wRow(gap:Int)(cs:List Int)(n i:Nat):Rw:=⟨1+(i:Int)*(1+gap.tmod 3),jG cs n⟩
def ky(x:Rcp)(n i:Nat):List Rw:=(List.range i).map fun j=>wRow x.gap (x.rows.getD j []) n j
def oM(x:Rcp)(n:Nat):Tb:=⟨⟨#[114]⟩,L8.take n,ky x n x.rows.length⟩
theorem wVals_succ(cs:List Int)(k:Nat):jG cs (k+1)=jG cs k++[ofC (cs.getD k 0)]:=by simp[jG,List.range_succ]
theorem wVals_len(cs:List Int)(k:Nat):(jG cs k).length=k:=by simp[jG]
theorem wRows_succ(x:Rcp)(n i:Nat):ky x n (i+1)=ky x n i++[wRow x.gap (x.rows.getD i []) n i]:=by simp[ky,List.range_succ]
theorem wRows_len(x:Rcp)(n i:Nat):(ky x n i).length=i:=by simp[ky]
theorem jd(n:Nat)(h:n≤1000000000):n≤9223372036854775806∧(n+1)*32≤140737488355328:=by omega
theorem L8_take(n:Nat):List.take n [V.str ⟨#[97]⟩,V.str ⟨#[98]⟩,V.str ⟨#[99]⟩,V.str ⟨#[100]⟩,V.str ⟨#[101]⟩,V.str ⟨#[102]⟩,V.str ⟨#[103]⟩,V.str ⟨#[104]⟩]=(L8.take n).map V.str:=by rw[List.map_take];rfl
theorem ownF_refl(k:Nat):∀xs:List V,qF k xs xs
 | []=>trivial
 | x::xs=>⟨.inl rfl,ownF_refl k xs⟩
theorem ownAt_nil(k:Nat):∀(i:Nat) (xs:List V),en k [] i xs=xs
 | _,[]=>rfl
 | i,x::xs=>by simp only[en,List.contains_nil,Bool.false_eq_true,if_false,ownAt_nil k (i+1) xs]
theorem fI(k:Nat)(xs:List V):qF k xs (en k [] 0 xs):=by rw[ownAt_nil];exact ownF_refl k xs
theorem wide03(x:Rcp)(n:Nat)(f:Bool)(hn:n≤8)(hr:x.rows.length≤1000000)(hc:∀r∈x.rows,r.length≤9223372036854775807)(h0:0≤x.gap):
  aS Tryz.prog 38 [ml f x,.int .i64 n] fun r=>r=aF false false (oM x n):=by
 have hg:=Int.tmod_nonneg 3 h0;have hg2:=Int.tmod_lt_of_pos x.gap (show(0:Int)<3 by omega);obtain⟨g,hge⟩:∃g,g=x.gap.tmod 3:=⟨_,rfl⟩;rw[←hge]at hg hg2;have hgs:=hge.symm;have hw1:IntKind.i64.wrap g=g:=wrap64 (by omega) (by omega);have hw2:IntKind.i64.wrap (1+g)=1+g:=wrap64 (by omega) (by omega)
 have hl8:(L8.take n).length=n:=by simp[L8];omega
 have hne:(n=0∧List.take n (L8.map V.str)=[])∨(¬n=0∧¬List.take n (L8.map V.str)=[]):=by
  by_cases hz:n=0
  ·exact .inl ⟨hz,by rw[hz];rfl⟩
  ·refine .inr ⟨hz,fun h=>?_⟩;have:=congrArg List.length h;rw[←List.map_take,List.length_map,hl8]at this;exact hz this
 have hlt:(List.take n (L8.map V.str)).length=n:=by rw[←List.map_take,List.length_map,hl8]
 have hcp:n≤9223372036854775807∧n*16≤140737488355328:=by omega
 rcases hne with⟨hz,hne⟩ | ⟨hz,hne⟩
 case' inl =>
  refine aC (aD (bV tok (fun t=>t == 29)) Tryz.func38 rfl rfl ?_);refine W_x (bV tok (fun t=>t == 29)) mixed ?_;simp -implicitDefEqProofs -dsimp[Tryz.f38,List.replicate,ml,L8_take,hn,hne,cx]
 case' inr =>
  refine aC (aD (bV tok (fun t=>t == 29)) Tryz.func38 rfl rfl ?_);refine W_x (bV tok (fun t=>t == 29)) mixed ?_;simp -implicitDefEqProofs -dsimp[Tryz.f38,List.replicate,ml,L8_take,hn,hz,hne,hlt,hcp,cx]
 all_goals
  refine aK (W_lf 2 _ [.str ⟨#[114]⟩,.lst 1 false (List.take n (L8.map V.str)),.nilS] rfl (pK _) (by simp[LfL,lfB,hne]) (co 66 2 [] 2 [2] rfl (fI _ _) (by simp) (W_loopM 66 [6,7,8,9,10,11,13,14,15,16,17,18,19,20,21,22,23,24,25,26,27,28,29,30,31,32,33,34,35,36,37,38,39,40,41,42,43,44,45,46,47,48,49,50,51,52,53,54,55,56,57,58,59,60,61,62,63,64,65] (by simp[mB]<;>rfl) (σ:=Nat) (fun i=>i≤x.rows.length) (fun i=>x.rows.length-i) (fun i=>[(6,.int .i64 i)]) (fun i=>[B.cells [.int .u8 x.a,.int .u8 x.gap,.lst 1 f (x.rows.map LU)],B.cells [.str ByteArray.empty,.nilS,.nilS],B.cells [.str ⟨#[114]⟩,.lst 1 false (List.take n (L8.map V.str)),.buf 3 0 i i],B.buf 66 2 ((ky x n i).map aN) false]) 0 (by omega) (by simp) (by simp[ky]) (by simp) ?_)));intro i hi N Q hN hQ;have hwl:=wRows_len x n i;by_cases hb:i<x.rows.length
  ·have hg0:x.rows.getD i []=x.rows[i]:=by simp[hb]
   have hws:=wRows_succ x n i;rw[hg0]at hws;have hcl:=hc x.rows[i] (List.getElem_mem hb);obtain⟨cs,hcs⟩:∃cs,cs=x.rows[i]:=⟨_,rfl⟩;rw[←hcs]at hws hcl;have hcs':=hcs.symm;have hp0:0≤(i:Int)*(1+g):=Int.mul_nonneg (by omega) (by omega);have hp1:(i:Int)*(1+g)≤i*3:=Int.mul_le_mul_of_nonneg_left (by omega) (by omega);have hw3:IntKind.i64.wrap ((i:Int)*(1+g))=(i:Int)*(1+g):=wrap64 (by omega) (by omega);have hw4:IntKind.i64.wrap (1+(i:Int)*(1+g))=1+(i:Int)*(1+g):=wrap64 (by omega) (by omega)
   have hrow:wRow x.gap cs n i=⟨1+(i:Int)*(1+g),jG cs n⟩:=by rw[hge];rfl
   rw[hrow]at hws;obtain⟨id,hid⟩:∃id,id=1+(i:Int)*(1+g):=⟨_,rfl⟩;rw[←hid]at hws hw4
   have hw5:IntKind.i64.wrap (1+(i:Int)*(1+g))=id:=by rw[←hid];exact hw4
   refine W_x (bV tok (fun t=>t == 29)) mixed ?_;simp -implicitDefEqProofs -dsimp[hb,hgs,hw1,hw2,hw3,hw5,cx];refine aK (co 68 3 [] 4 [1] rfl (fI _ _) (by simp) (W_loopM 60 [8,9,32,33,34,35,36,37,38,39,40,41,42,43,44,45,46,47,48,49,50,51,52,53,54,55,56,57,58,59] (by simp[mB]<;>rfl) (σ:=Nat) (fun k=>k≤n) (fun k=>n-k) (fun k=>[(8,.int .i64 k)]) (fun k=>[B.cells [.int .u8 x.a,.int .u8 x.gap,.lst 1 f (x.rows.map LU)],B.cells [.str ByteArray.empty,.nilS,.nilS],B.cells [.str ⟨#[114]⟩,.lst 1 false (List.take n (L8.map V.str)),.buf 3 0 i i],B.buf 66 2 ((ky x n i).map aN) false,B.cells [.int .i64 id,.buf 5 0 k k],B.buf 68 3 ((jG cs k).map am) false]) 0 (by omega) (by simp) (by simp[jG]) (by simp) ?_));intro k hk N2 Q2 hN2 hQ2;have hvl:=wVals_len cs k;have hvs:=wVals_succ cs k;by_cases hkb:k<n
   ·by_cases hkc:k<cs.length
    ·have hg1:cs.getD k 0=cs[k]:=by simp[hkc]
     rw[hg1]at hvs;have hco:=of01 cs[k];refine W_x (bV tok (fun t=>t == 29)) mixed ?_;simp -implicitDefEqProofs -dsimp[hkb,hb,LU,hcs',hkc,encU,cx];refine aK (ai (bV tok (fun t=>t == 29)) mixed [5,7] [] [(am (ofC cs[k]),[])] (by kernel_rfl) fun C K hC hK=>?_);simp -implicitDefEqProofs [jd k (by omega),hvl,am,cx];refine⟨hC _ _ _ _ (aG hco (by simp)),hK _ _ ?_⟩;simp -implicitDefEqProofs -dsimp[aM k (by omega),cx];refine hN2 (k+1) _ _ (by omega) (by omega) ?_ ⟨[],?_⟩ ?_ ?_<;>simp[or_imp,forall_and,L1,ac,hvs,LS,am,aN,LV]
    ·have hg1:cs.getD k 0=0:=by simp[hkc]
     rw[hg1]at hvs;have hco:=of01 0;refine W_x (bV tok (fun t=>t == 29)) mixed ?_;simp -implicitDefEqProofs -dsimp[hkb,hb,LU,hcs',hkc,encU,cx];refine aK (ai (bV tok (fun t=>t == 29)) mixed [5,7] [] [(am (ofC 0),[])] (by kernel_rfl) fun C K hC hK=>?_);simp -implicitDefEqProofs [jd k (by omega),hvl,am,cx];refine⟨hC _ _ _ _ (aG hco (by simp)),hK _ _ ?_⟩;simp -implicitDefEqProofs -dsimp[aM k (by omega),cx];refine hN2 (k+1) _ _ (by omega) (by omega) ?_ ⟨[],?_⟩ ?_ ?_<;>simp[or_imp,forall_and,L1,ac,hvs,LS,am,aN,LV]
   ·obtain rfl:k=n:=by omega
    refine jh 5 [] 4 [1] rfl rfl (by simp) (by simp[hvl]) ?_;refine W_x (bV tok (fun t=>t == 29)) mixed ?_;simp -implicitDefEqProofs -dsimp[hkb,cx];refine hQ2 _ _ _ ?_;simp -implicitDefEqProofs -dsimp[hwl,jd i (by omega),aM i (by omega),cx];refine hN (i+1) _ _ (by omega) (by omega) ?_ ⟨[B.cells [.int .i64 id,LV false (jG cs k)],B.buf 68 3 ((jG cs k).map am) true],?_⟩ ?_ ?_<;>simp[or_imp,forall_and,L1,ac,hws,aN,LV]
  ·obtain rfl:i=x.rows.length:=by omega
   refine jh 3 [] 2 [2] rfl rfl (by simp) (by simp[hwl]) ?_;refine W_x (bV tok (fun t=>t == 29)) mixed ?_;simp -implicitDefEqProofs -dsimp[hb,cx];refine hQ _ _ _ ?_;simp -implicitDefEqProofs -dsimp[cx];simp only[aF,oM,LS,LR,List.map_take]
theorem nanInt(x:Int):aS Tryz.prog 170 [.int .i64 x] fun r=>r = .bool false:=by
 refine aC (aD tok Tryz.func170 rfl rfl ?_);refine wx ?_;simp -implicitDefEqProofs -dsimp[Tryz.f170,List.replicate]
theorem cmpInt(x y:Int):aS Tryz.prog 124 [.int .i64 x,.int .i64 y] fun r=>r = .int .i64 (bU x y):=by
 refine aC (aD tok Tryz.func124 rfl rfl ?_);refine wx ?_;simp -implicitDefEqProofs -dsimp[Tryz.f124,List.replicate];refine(aG (nanInt x) (by simp)).mono ?_;rintro r H' ⟨rfl,rfl⟩;simp -implicitDefEqProofs -dsimp[];refine(aG (nanInt y) (by simp)).mono ?_;rintro r H' ⟨rfl,rfl⟩;simp -implicitDefEqProofs -dsimp[];unfold bU;split
 ·rfl
 ·split<;>rfl
theorem oU(x y:Int):aS Tryz.prog 160 [.int .i64 x,.int .i64 y] fun r=>r = .int .i64 (bU x y):=by
 refine aC (aD tok Tryz.func160 rfl rfl ?_);refine wx ?_;simp -implicitDefEqProofs -dsimp[Tryz.f160,List.replicate];unfold bU;split
 ·rfl
 ·split<;>rfl
theorem cmpS_drop(a b:ByteArray)(i:Nat)(ha:i<a.size)(hb:i<b.size):Lib.compareBytes (a.data.toList.drop i) (b.data.toList.drop i)=if a[i]<b[i] then -1 else if b[i]<a[i] then 1 else Lib.compareBytes (a.data.toList.drop (i+1)) (b.data.toList.drop (i+1)):=by
 have h1:i<a.data.toList.length:=by rw[kx];exact ha
 have h2:i<b.data.toList.length:=by rw[kx];exact hb
 rw[List.drop_eq_getElem_cons h1,List.drop_eq_getElem_cons h2,Lib.compareBytes];rfl
theorem cmpS_end(a b:ByteArray)(i:Nat)(hi:i≤a.size)(hj:i≤b.size)(h:¬(i<a.size∧i<b.size)):Lib.compareBytes (a.data.toList.drop i) (b.data.toList.drop i)=bU a.size b.size:=by
 have l1:=kx a;have l2:=kx b;by_cases h1:i<a.size
 ·have h2:i=b.size:=by omega
  have h3:i<a.data.toList.length:=by omega
  rw[List.drop_eq_getElem_cons h3,List.drop_of_length_le (l:=b.data.toList) (by omega),Lib.compareBytes];unfold bU;rw[if_neg (by omega),if_pos (by omega)]
 ·rw[List.drop_of_length_le (l:=a.data.toList) (by omega)];by_cases h2:i<b.size
  ·have h3:i<b.data.toList.length:=by omega
   rw[List.drop_eq_getElem_cons h3,Lib.compareBytes];unfold bU;rw[if_pos (by omega)]
  ·rw[List.drop_of_length_le (l:=b.data.toList) (by omega),Lib.compareBytes];unfold bU;rw[if_neg (by omega),if_neg (by omega)]
theorem strings01(a b:ByteArray)(ha:a.size≤maxLen):aS Tryz.prog 161 [.str a,.str b] fun r=>r = .int .i64 (mv a b):=by
 refine aC (aD tok Tryz.func161 rfl rfl ?_);refine wx ?_;simp -implicitDefEqProofs -dsimp[Tryz.f161,List.replicate];refine aK (W_loopM 34 [4,5,6,7,8,9,10,11,12,13,14,15,16,17,18,19,20,21,22,23,24,25,26,27,28,29,30,31,32,33] (by simp[mB]<;>rfl) (σ:=Nat) (fun i=>i≤a.size∧i≤b.size∧Lib.compareBytes (a.data.toList.drop i) (b.data.toList.drop i)=mv a b) (fun i=>a.size-i) (fun i=>[(5,.int .i64 i)]) (fun _=>[]) 0 ⟨by omega,by omega,rfl⟩ (by simp) rfl (by simp) ?_);rintro i ⟨hi,hj,hx⟩ N Q hN hQ;by_cases h:i<a.size∧i<b.size
 ·obtain⟨h1,h2⟩:=h;rw[cmpS_drop a b i h1 h2]at hx;obtain⟨x1,x2⟩:=iQ h1;obtain⟨y1,y2⟩:=iQ h2;by_cases hq:bc a i=bc b i
  ·have e1:¬a[i]<b[i]:=fun h=>by have:=UInt8.lt_iff_toNat_lt.1 h;omega
   have e2:¬b[i]<a[i]:=fun h=>by have:=UInt8.lt_iff_toNat_lt.1 h;omega
   rw[if_neg e1,if_neg e2]at hx;refine wx ?_;simp -implicitDefEqProofs -dsimp[h1,h2,x1,y1,x2,y2,hq];refine .inr ⟨aJ (by kernel_rfl),?_⟩;simp -implicitDefEqProofs -dsimp[aM i (by unfold maxLen at ha;omega)];refine hN (i+1) _ _ ⟨by omega,by omega,hx⟩ (by omega) ?_ ⟨[],?_⟩ ?_ ?_<;>simp[or_imp,forall_and,L1,ac]
  ·have hs:bU (bc a i) (bc b i)=mv a b:=by
    rw[←hx,←x2,←y2];unfold bU;by_cases e1:a[i]<b[i]
    ·have e1':(a[i].toNat:Int)<b[i].toNat:=by have:=UInt8.lt_iff_toNat_lt.1 e1;omega
     rw[if_pos e1,if_pos e1']
    ·have e1':¬((a[i].toNat:Int)<b[i].toNat):=fun h=>e1 (UInt8.lt_iff_toNat_lt.2 (by omega))
     have e2:b[i]<a[i]:=UInt8.lt_iff_toNat_lt.2 (by omega)
     have e2':(b[i].toNat:Int)<a[i].toNat:=by have:=UInt8.lt_iff_toNat_lt.1 e2;omega
     rw[if_neg e1,if_neg e1',if_pos e2,if_pos e2']
   have hw1:IntKind.i64.wrap (bc a i)=bc a i:=by rw[←x2];exact wrap64 (by omega) (by have:=UInt8.toNat_lt a[i];omega)
   have hw2:IntKind.i64.wrap (bc b i)=bc b i:=by rw[←y2];exact wrap64 (by omega) (by have:=UInt8.toNat_lt b[i];omega)
   have hc:=oU (bc a i) (bc b i);refine wx ?_;simp -implicitDefEqProofs -dsimp[h1,h2,x1,y1,x2,y2,hq];refine .inr ⟨aJ (by kernel_rfl),?_⟩;simp -implicitDefEqProofs -dsimp[h1,h2,x1,y1,x2,y2,hw1,hw2];refine .inr ⟨aJ (by kernel_rfl),?_⟩;refine aj _ (aG (hc) (by simp)) ?_;simp -implicitDefEqProofs -dsimp[];refine hQ _ _ _ ?_;simp -implicitDefEqProofs -dsimp[];exact hs
 ·rw[cmpS_end a b i hi hj h]at hx;have hc:=oU a.size b.size;by_cases h1:i<a.size
  ·have h2:¬i<b.size:=fun h2=>h ⟨h1,h2⟩
   refine wx ?_;simp -implicitDefEqProofs -dsimp[h1,h2];refine hQ _ _ _ ?_;simp -implicitDefEqProofs -dsimp[];refine(aG (hc) (by simp)).mono ?_;rintro r H' ⟨rfl,rfl⟩;simp -implicitDefEqProofs -dsimp[];exact hx
  ·refine wx ?_;simp -implicitDefEqProofs -dsimp[h1];refine hQ _ _ _ ?_;simp -implicitDefEqProofs -dsimp[];refine(aG (hc) (by simp)).mono ?_;rintro r H' ⟨rfl,rfl⟩;simp -implicitDefEqProofs -dsimp[];exact hx
def gE(a b:Vl):Int:=if bU a.k b.k=0 then(if bU a.n b.n=0 then mv a.s b.s else bU a.n b.n) else bU a.k b.k
theorem compare01(a b:Vl)(ha:a.s.size≤maxLen):aS Tryz.prog 112 [am a,am b] fun r=>r = .int .i64 (gE a b):=by
 have hc1:=oU a.k b.k;have hc2:=oU a.n b.n;have hc3:=strings01 a.s b.s ha;unfold gE;by_cases h1:bU a.k b.k=0
 ·by_cases h2:bU a.n b.n=0
  ·rw[if_pos h1,if_pos h2];refine aC (aD tok Tryz.func112 rfl rfl ?_);refine wx ?_;simp -implicitDefEqProofs -dsimp[Tryz.f112,List.replicate,am];refine(aG (hc1) (by simp)).mono ?_;rintro r H' ⟨rfl,rfl⟩;simp -implicitDefEqProofs -dsimp[h1];refine(aG (hc2) (by simp)).mono ?_;rintro r H' ⟨rfl,rfl⟩;simp -implicitDefEqProofs -dsimp[h2];refine(aG (hc3) (by simp)).mono ?_;rintro r H' ⟨rfl,rfl⟩;simp -implicitDefEqProofs -dsimp[]
  ·rw[if_pos h1,if_neg h2];refine aC (aD tok Tryz.func112 rfl rfl ?_);refine wx ?_;simp -implicitDefEqProofs -dsimp[Tryz.f112,List.replicate,am];refine(aG (hc1) (by simp)).mono ?_;rintro r H' ⟨rfl,rfl⟩;simp -implicitDefEqProofs -dsimp[h1];refine(aG (hc2) (by simp)).mono ?_;rintro r H' ⟨rfl,rfl⟩;simp -implicitDefEqProofs -dsimp[h2]
 ·rw[if_neg h1];refine aC (aD tok Tryz.func112 rfl rfl ?_);refine wx ?_;simp -implicitDefEqProofs -dsimp[Tryz.f112,List.replicate,am];refine(aG (hc1) (by simp)).mono ?_;rintro r H' ⟨rfl,rfl⟩;simp -implicitDefEqProofs -dsimp[h1]
def fC:List Vl→List Vl→Int
 | [],[]=>0
 | [],_::_=>-1
 | _::_,[]=>1
 | x::xs,y::ys=>if gE x y=0 then fC xs ys else gE x y
theorem cmpVs_end(us bs:List Vl)(i:Nat)(h1:i≤us.length)(h2:i≤bs.length)(h:¬(i<us.length∧i<bs.length)):fC (us.drop i) (bs.drop i)=bU us.length bs.length:=by
 unfold bU;by_cases ha:i<us.length
 ·rw[List.drop_eq_getElem_cons ha,List.drop_of_length_le (l:=bs) (by omega),fC,if_neg (by omega),if_pos (by omega)]
 ·rw[List.drop_of_length_le (l:=us) (by omega)];by_cases hb:i<bs.length
  ·rw[List.drop_eq_getElem_cons hb,fC,if_pos (by omega)]
  ·rw[List.drop_of_length_le (l:=bs) (by omega),fC,if_neg (by omega),if_neg (by omega)]
theorem lists01(us bs:List Vl)(f g:Bool)(hl:us.length≤1000000)(hs:∀v∈us,v.s.size≤maxLen):aS Tryz.prog 135 [LV f us,LV g bs] fun r=>r = .int .i64 (fC us bs):=by
 obtain⟨E,hE⟩:∃E,E=fC us bs:=⟨_,rfl⟩;rw[←hE];refine aC (aD tok Tryz.func135 rfl rfl ?_);refine wx ?_;simp -implicitDefEqProofs -dsimp[Tryz.f135,List.replicate,LV];refine aK (W_loopM 31 [4,5,6,7,8,9,10,11,12,13,14,15,16,17,18,19,20,21,22,23,24,25,26,27,28,29,30] (by simp[mB]<;>rfl) (σ:=Nat) (fun i=>i≤us.length∧i≤bs.length∧fC (us.drop i) (bs.drop i)=E) (fun i=>us.length-i) (fun i=>[(5,.int .i64 i)]) (fun _=>[]) 0 ⟨by omega,by omega,hE.symm⟩ (by simp) rfl (by simp) ?_);rintro i ⟨hi,hj,hx⟩ N Q hN hQ;by_cases h:i<us.length∧i<bs.length
 ·obtain⟨h1,h2⟩:=h;have hc:=compare01 us[i] bs[i] (hs _ (List.getElem_mem h1));simp only[am]at hc;rw[List.drop_eq_getElem_cons h1,List.drop_eq_getElem_cons h2,fC]at hx;by_cases h3:gE us[i] bs[i]=0
  ·rw[if_pos h3]at hx;refine wx ?_;simp -implicitDefEqProofs -dsimp[h1,h2,am];refine .inr ⟨aJ (by kernel_rfl),?_⟩;refine aj _ (aG (hc) (by simp)) ?_;simp -implicitDefEqProofs -dsimp[h3,aM i (by omega)];refine hN (i+1) _ _ ⟨by omega,by omega,hx⟩ (by omega) ?_ ⟨[],?_⟩ ?_ ?_<;>simp[or_imp,forall_and,L1,ac]
  ·rw[if_neg h3]at hx;refine wx ?_;simp -implicitDefEqProofs -dsimp[h1,h2,am];refine .inr ⟨aJ (by kernel_rfl),?_⟩;refine aj _ (aG (hc) (by simp)) ?_;simp -implicitDefEqProofs -dsimp[h3];refine hQ _ _ _ ?_;simp -implicitDefEqProofs -dsimp[];exact hx
 ·rw[cmpVs_end us bs i hi hj h]at hx;have hc:=oU us.length bs.length;by_cases h1:i<us.length
  ·have h2:¬i<bs.length:=fun h2=>h ⟨h1,h2⟩
   refine wx ?_;simp -implicitDefEqProofs -dsimp[h1,h2];refine hQ _ _ _ ?_;simp -implicitDefEqProofs -dsimp[];refine(aG (hc) (by simp)).mono ?_;rintro r H' ⟨rfl,rfl⟩;simp -implicitDefEqProofs -dsimp[];exact hx
  ·refine wx ?_;simp -implicitDefEqProofs -dsimp[h1];refine hQ _ _ _ ?_;simp -implicitDefEqProofs -dsimp[];refine(aG (hc) (by simp)).mono ?_;rintro r H' ⟨rfl,rfl⟩;simp -implicitDefEqProofs -dsimp[];exact hx
theorem same01(us bs:List Vl)(f g:Bool)(hl:us.length≤1000000)(hs:∀v∈us,v.s.size≤maxLen):aS Tryz.prog 98 [LV f us,LV g bs] fun r=>r = .bool (fC us bs == 0):=by
 have hc:=lists01 us bs f g hl hs;refine aC (aD tok Tryz.func98 rfl rfl ?_);refine wx ?_;simp -implicitDefEqProofs -dsimp[Tryz.f98,List.replicate];refine(aG (hc) (by simp)).mono ?_;rintro r H' ⟨rfl,rfl⟩;simp -implicitDefEqProofs -dsimp[]
def orI:List Int→Int
 | []=>0
 | x::xs=>if x=0 then orI xs else x
theorem orInt(xs:List Int)(f:Bool)(hl:xs.length≤1000000):aS Tryz.prog 122 [L1 f xs] fun r=>r = .int .i64 (orI xs):=by
 obtain⟨E,hE⟩:∃E,E=orI xs:=⟨_,rfl⟩;rw[←hE];refine aC (aD tok Tryz.func122 rfl rfl ?_);refine wx ?_;simp -implicitDefEqProofs -dsimp[Tryz.f122,List.replicate,L1];refine aK (W_loopM 17 [2,5,8,9,10,11,12,13,14,15,16] (by simp[mB]<;>rfl) (σ:=Nat) (fun i=>orI (xs.drop i)=E) (fun i=>xs.length-i) (fun i=>[(8,.int .i64 i)]) (fun _=>[]) 0 hE.symm (by simp) rfl (by simp) ?_);intro i hx N Q hN hQ;by_cases hb:i<xs.length
 ·rw[List.drop_eq_getElem_cons hb,orI]at hx;by_cases h0:xs[i]=0
  ·rw[if_pos h0]at hx;refine wx ?_;simp -implicitDefEqProofs -dsimp[hb,ac,h0];simp -implicitDefEqProofs -dsimp[aM i (by omega)];refine hN (i+1) _ _ hx (by omega) (by simp) ⟨[],rfl⟩ (by simp[L1,ac]) (by simp)
  ·rw[if_neg h0]at hx;refine wx ?_;simp -implicitDefEqProofs -dsimp[hb,ac,h0];refine hQ _ _ _ ?_;simp -implicitDefEqProofs -dsimp[];exact hx
 ·rw[List.drop_of_length_le (by omega)]at hx;refine wx ?_;simp -implicitDefEqProofs -dsimp[hb];refine hQ _ _ _ ?_;simp -implicitDefEqProofs -dsimp[];exact hx
theorem oS(a b:ByteArray):aS Tryz.prog 134 [.str a,.str b] fun r=>r = .int .i64 (mv a b):=by
 have hc:=cmp_con a b;refine aC (aD tok Tryz.func134 rfl rfl ?_);refine wx ?_;simp -implicitDefEqProofs -dsimp[Tryz.f134,List.replicate];refine(aG (hc) (by simp)).mono ?_;rintro r H' ⟨rfl,rfl⟩;simp -implicitDefEqProofs -dsimp[]
theorem iT(a b:Vl):aS Tryz.prog 97 [am a,am b] fun r=>r = .int .i64 (gE a b):=by
 have hc1:=cmpInt a.k b.k;have hc2:=cmp64 a.n b.n;have hc3:=oS a.s b.s;have hc4:=orInt [bU a.k b.k,bU a.n b.n,mv a.s b.s] true (by simp)
 have he:orI [bU a.k b.k,bU a.n b.n,mv a.s b.s]=gE a b:=by
  unfold gE;simp only[orI];split
  ·split
   ·split
    ·rename_i h;exact h.symm
    ·rfl
   ·rfl
  ·rfl
 rw[he]at hc4;simp only[L1,List.map_cons,List.map_nil,ac]at hc4;refine aC (aD tok Tryz.func97 rfl rfl ?_);refine wx ?_;simp -implicitDefEqProofs -dsimp[Tryz.f97,List.replicate,am];refine .inr ⟨aJ (by kernel_rfl),?_⟩;refine aj _ (aG (hc1) (by simp)) ?_;simp -implicitDefEqProofs -dsimp[];refine aj _ (aG (hc2) (by simp)) ?_;simp -implicitDefEqProofs -dsimp[];refine aj _ (aG (hc3) (by simp)) ?_;simp -implicitDefEqProofs -dsimp[];refine aj _ (aG (hc4) (by simp)) ?_;simp -implicitDefEqProofs -dsimp[]
def fX(vs:List Vl)(s:Int):Nat→List Vl
 | 0=>[]
 | i+1=>if ft s i then fX vs s i++[vs.getD i ⟨0,0,ByteArray.empty⟩] else fX vs s i
def jH(vs:List Vl)(s:Int):List Vl:=fX vs s vs.length
theorem oP(vs:List Vl)(s:Int):∀i,(fX vs s i).length≤i
 | 0=>by simp[fX]
 | i+1=>by
  have:=oP vs s i;simp only[fX];split
  ·simp;omega
  ·omega
theorem oO(vs:List Vl)(s:Int):∀i,i≤vs.length→∀v∈fX vs s i,v∈vs
 | 0,_,v,h=>by simp[fX]at h
 | i+1,hi,v,h=>by
  simp only[fX]at h;split at h
  ·rcases List.mem_append.1 h with h | h
   ·exact oO vs s i (by omega) v h
   ·simp only[List.mem_singleton]at h;subst h
    have hb:i<vs.length:=by omega
    have:vs.getD i ⟨0,0,ByteArray.empty⟩=vs[i]:=by simp[hb]
    rw[this];exact List.getElem_mem hb
  ·exact oO vs s i (by omega) v h
theorem values03(r:Rw)(s:Int)(hl:r.vals.length≤31):aS Tryz.prog 99 [aN r,.int .u32 s] fun x=>x=LV false (jH r.vals s):=by
 refine aC (aD tok Tryz.func99 rfl rfl ?_);refine wx ?_;simp -implicitDefEqProofs -dsimp[Tryz.f99,List.replicate,aN,LV];refine aK (gG 68 3 [5] (by simp) (W_loopM 25 [5,6,7,8,9,10,11,12,13,14,15,16,17,18,19,20,21,22,23,24] (by simp[mB]<;>rfl) (σ:=Nat) (fun i=>i≤r.vals.length) (fun i=>r.vals.length-i) (fun i=>[(6,.int .i64 i),(5,.buf 1 0 (fX r.vals s i).length (fX r.vals s i).length)]) (fun i=>[B.cells [.int .i64 r.id,.lst 3 false (r.vals.map am)],B.buf 68 3 ((fX r.vals s i).map am) false]) 0 (by omega) (by simp[fX]) (by simp[fX]) (by simp) ?_));intro i hi N Q hN hQ;have hvl:=oP r.vals s i;by_cases hb:i<r.vals.length
 ·have hst:fX r.vals s (i+1)=if ft s i then fX r.vals s i++[r.vals[i]] else fX r.vals s i:=by simp[fX,hb]
  have hc:=has02 s i (by omega);cases hh:ft s i
  ·rw[hh]at hc hst;refine wx ?_;simp -implicitDefEqProofs -dsimp[hb];refine(aG (hc) (by simp)).mono ?_;rintro r H' ⟨rfl,rfl⟩;simp -implicitDefEqProofs -dsimp[aM i (by omega)];refine hN (i+1) _ _ (by omega) (by omega) ?_ ⟨[],?_⟩ ?_ ?_<;>simp[or_imp,forall_and,L1,ac,hst,am]
  ·rw[hh]at hc hst;refine wx ?_;simp -implicitDefEqProofs -dsimp[hb];refine(aG (hc) (by simp)).mono ?_;rintro r H' ⟨rfl,rfl⟩;simp -implicitDefEqProofs -dsimp[hb,am,jd (fX r.vals s i).length (by omega),aM i (by omega)];refine hN (i+1) _ _ (by omega) (by omega) ?_ ⟨[],?_⟩ ?_ ?_<;>simp[or_imp,forall_and,L1,ac,hst,am]
 ·obtain rfl:i=r.vals.length:=by omega
  refine wx ?_;simp -implicitDefEqProofs -dsimp[hb];refine hQ _ _ _ ?_;simp -implicitDefEqProofs -dsimp[];exact dr rfl (by simp[jH]) (by simp)
def cK(a b:Rw)(s:Int):Bool:=fC (jH a.vals s) (jH b.vals s)== 0
theorem agree03(a b:Rw)(s:Int)(hl:a.vals.length≤31)(hl2:b.vals.length≤31)(hs:∀v∈a.vals,v.s.size≤maxLen):aS Tryz.prog 62 [aN a,aN b,.int .u32 s] fun x=>x = .bool (cK a b s):=by
 have hc1:=values03 a s hl;have hc2:=values03 b s hl2;have h1:=oP a.vals s a.vals.length;have hc3:=same01 (jH a.vals s) (jH b.vals s) false false (by unfold jH;omega) (fun v hv=>hs v (oO _ _ _ (Nat.le_refl _) v hv));simp only[aN,LV]at hc1 hc2 hc3;refine aC (aD tok Tryz.func62 rfl rfl ?_);refine wx ?_;simp -implicitDefEqProofs -dsimp[Tryz.f62,List.replicate,aN,LV];refine .inr ⟨aJ (by kernel_rfl),?_⟩;refine aj _ (aG (hc1) (by simp)) ?_;simp -implicitDefEqProofs -dsimp[];refine aj _ (aG (hc2) (by simp)) ?_;simp -implicitDefEqProofs -dsimp[];refine aj _ (aG (hc3) (by simp)) ?_;simp -implicitDefEqProofs -dsimp[];rfl
theorem u32w(a:Nat)(h:a<4294967296):IntKind.u32.wrap (a:Int)=a:=by rw[IntKind.wrap_u32];omega
theorem mod32(a:Nat)(h:a<4294967296):((a:Int) % 2^IntKind.u32.bits).toNat=a:=by
 have:(2:Int)^IntKind.u32.bits=4294967296:=rfl;rw[this];omega
theorem modN(a:Nat)(h:a<4294967296):a % 2^IntKind.u32.bits=a:=Nat.mod_eq_of_lt h
theorem or32(a b:Nat)(ha:a<4294967296)(hb:b<4294967296):IntKind.u32.wrap ((a % 2^IntKind.u32.bits ||| b % 2^IntKind.u32.bits:Nat):Int)=((a ||| b:Nat):Int):=by
 rw[modN a ha,modN b hb];exact u32w _ (Nat.or_lt_two_pow (n:=32) ha hb)
theorem and32(a b:Nat)(ha:a<4294967296)(hb:b<4294967296):IntKind.u32.wrap ((a % 2^IntKind.u32.bits &&& b % 2^IntKind.u32.bits:Nat):Int)=((a &&& b:Nat):Int):=by
 rw[modN a ha,modN b hb];exact u32w _ (Nat.lt_of_le_of_lt Nat.and_le_left ha)
theorem shl32(i:Nat)(h:i<32):IntKind.u32.wrap (2^min i IntKind.u32.bits:Int)=((2^i:Nat):Int):=by
 have h1:min i IntKind.u32.bits=i:=Nat.min_eq_left (by show i≤32;omega);have h2:2^i<4294967296:=Nat.pow_lt_pow_right (by omega) h;rw[h1,←u32w _ h2];congr 1
def dg:Nat→Nat
 | 0=>0
 | i+1=>dg i ||| 2^i
theorem lX:∀n,n≤32→dg n<4294967296
 | 0,_=>by simp[dg]
 | i+1,h=>Nat.or_lt_two_pow (n:=32) (lX i (by omega)) (Nat.pow_lt_pow_right (by omega) (by omega))
theorem fullN_bit:∀n k,(dg n).testBit k=decide (k<n)
 | 0,k=>by simp[dg]
 | i+1,k=>by
  rw[dg,Nat.testBit_or,fullN_bit i k,Nat.testBit_two_pow];rw[Bool.eq_iff_iff];simp only[Bool.or_eq_true,decide_eq_true_eq];omega
theorem full02(n:Nat)(hn:n≤32):aS Tryz.prog 86 [.int .i64 n] fun r=>r = .int .u32 (dg n):=by
 refine aC (aD tok Tryz.func86 rfl rfl ?_);refine wx ?_;simp -implicitDefEqProofs -dsimp[Tryz.f86,List.replicate];refine aK (W_loopM 18 [3,4,5,6,7,8,9,10,11,12,13,14,15,16,17] (by simp[mB]<;>rfl) (σ:=Nat) (fun i=>i≤n) (fun i=>n-i) (fun i=>[(4,.int .i64 i),(3,.int .u32 (dg i))]) (fun _=>[]) 0 (by omega) (by simp[dg]) rfl (by simp) ?_);intro i hi N Q hN hQ;by_cases hb:i<n
 ·have h1:=shl32 i (by omega);have h2:=lX i (by omega);have h3:2^i<4294967296:=Nat.pow_lt_pow_right (by omega) (show i<32 by omega)
  have hf:dg (i+1)=dg i ||| 2^i:=rfl
  obtain⟨p,hp⟩:∃p,p=2^i:=⟨_,rfl⟩;rw[←hp]at h1 h3 hf;have h4:=or32 (dg i) p h2 h3;rw[←hf]at h4;refine wx ?_;simp -implicitDefEqProofs -dsimp[hb,show(i:Int)<32 by omega,aM i (by omega),h1,h4];refine hN (i+1) _ _ (by omega) (by omega) ?_ ⟨[],?_⟩ ?_ ?_<;>simp[or_imp,forall_and,L1,ac]
 ·obtain rfl:i=n:=by omega
  refine wx ?_;simp -implicitDefEqProofs -dsimp[hb];refine hQ _ _ _ ?_;simp -implicitDefEqProofs -dsimp[]
theorem sub02(a b:Nat)(ha:a<4294967296)(hb:b<4294967296):aS Tryz.prog 129 [.int .u32 a,.int .u32 b] fun r=>r = .bool (decide (a &&& b=a)):=by
 refine aC (aD tok Tryz.func129 rfl rfl ?_);refine wx ?_;simp -implicitDefEqProofs -dsimp[Tryz.f129,List.replicate,and32 a b ha hb];rw[Bool.eq_iff_iff,beq_iff_eq,decide_eq_true_iff];omega
theorem eG(s i:Nat)(hs:s<4294967296)(hi:i<32):ft s i=s.testBit i:=by
 have h1:min i IntKind.u32.bits=i:=Nat.min_eq_left (by show i≤32;omega)
 have h2:((s:Int).fdiv (2^i) % 2^IntKind.u32.bits).toNat=s / 2^i:=by
  have h3:(s:Int).fdiv (2^i)=((s / 2^i:Nat):Int):=by
   rw[Int.fdiv_eq_ediv_of_nonneg _ (by have:(0:Int)<2^i:=Int.pow_pos (by omega);omega)];simp
  rw[h3];exact mod32 _ (Nat.lt_of_le_of_lt (Nat.div_le_self _ _) hs)
 have h4:(1 % 2^IntKind.u32.bits:Nat)=1:=rfl;unfold ft;rw[h1,h2,h4,Nat.and_one_is_mod,u32w _ (by omega),Nat.testBit_eq_decide_div_mod_eq];rw[Bool.eq_iff_iff,beq_iff_eq,decide_eq_true_iff];omega
structure Fd where
 l:Nat
 r:Nat
def encD(d:Fd):V:=.agg [.int .u8 (d.l:Int),.int .u8 (d.r:Int)]
def eP(d:Fd):V:=.agg [.int .u32 (d.l:Int),.int .u32 (d.r:Int)]
@[simp] theorem encD_pure (d:Fd):AM.Pure (encD d):=by simp[encD]
@[simp] theorem encF_pure (d:Fd):AM.Pure (eP d):=by simp[eP]
@[simp] theorem encF_oneV (d:Fd):dc (eP d)=true:=rfl
def LF(f:Bool)(ds:List Fd):V:=.lst 2 f (ds.map eP)
@[simp] theorem LF_pure (f:Bool) (ds:List Fd):AM.Pure (LF f ds):=by simp[LF]
def fdOf(n:Nat)(d:Fd):Fd:=⟨d.l &&& dg n,d.r &&& dg n⟩
def lg(n:Nat)(ds:List Fd)(i:Nat):List Fd:=(ds.take i).map (fdOf n)
theorem fdsTo_len(n:Nat)(ds:List Fd)(i:Nat)(h:i≤ds.length):(lg n ds i).length=i:=by simp[lg];omega
theorem fdsTo_succ(n:Nat)(ds:List Fd)(i:Nat)(h:i<ds.length):lg n ds (i+1)=lg n ds i++[fdOf n ds[i]]:=by
 unfold lg;rw[List.take_succ_eq_append_getElem h,List.map_append];rfl
theorem cap8b(n:Nat)(h:n≤1000000000):n≤9223372036854775806∧(n+1)*8≤140737488355328:=by omega
theorem list09(n:Nat)(ds:List Fd)(f:Bool)(hn:n≤32)(hl:ds.length≤1000000)(hd:∀d∈ds,d.l<256∧d.r<256):aS Tryz.prog 39 [.int .i64 n,.lst 2 f (ds.map encD)] fun r=>r=LF false (ds.map (fdOf n)):=by
 have hF:=lX n hn;have hc:=full02 n hn;refine aC (aD tok Tryz.func39 rfl rfl ?_);refine wx ?_;simp -implicitDefEqProofs -dsimp[Tryz.f39,List.replicate];refine(aG (hc) (by simp)).mono ?_;rintro r H' ⟨rfl,rfl⟩;simp -implicitDefEqProofs -dsimp[];refine aK (gG 46 2 [6] (by simp) (W_loopM 36 [6,7,10,11,12,13,14,15,16,17,18,19,20,21,22,23,24,25,26,27,28,29,30,31,32,33,34,35] (by simp[mB]<;>rfl) (σ:=Nat) (fun i=>i≤ds.length) (fun i=>ds.length-i) (fun i=>[(7,.int .i64 i),(6,.buf 0 0 i i)]) (fun i=>[B.buf 46 2 ((lg n ds i).map eP) false]) 0 (by omega) (by simp) (by simp[lg]) (by simp) ?_));intro i hi N Q hN hQ;have hli:=fdsTo_len n ds i hi;by_cases hb:i<ds.length
 ·obtain⟨h1,h2⟩:=hd ds[i] (List.getElem_mem hb);have hst:=fdsTo_succ n ds i hb;have e1:=and32 ds[i].l (dg n) (by omega) hF;have e2:=and32 ds[i].r (dg n) (by omega) hF;have w1:=u32w ds[i].l (by omega);have w2:=u32w ds[i].r (by omega);refine wx ?_;simp -implicitDefEqProofs -dsimp[hb];refine aK (ai tok mixed [19] [] [] (by kernel_rfl) fun C K hC hK=>?_);simp -implicitDefEqProofs [hb,encD,w1,w2,e1,e2,cap8b i (by omega),hli];refine hK _ _ ?_;simp -implicitDefEqProofs -dsimp[aM i (by omega)];refine hN (i+1) _ _ (by omega) (by omega) ?_ ⟨[],?_⟩ ?_ ?_<;>simp[or_imp,forall_and,L1,ac,hst,eP,fdOf,encD]
 ·obtain rfl:i=ds.length:=by omega
  refine wx ?_;simp -implicitDefEqProofs -dsimp[hb];refine hQ _ _ _ ?_;simp -implicitDefEqProofs -dsimp[];rw[show LF false (ds.map (fdOf n))=LF false (lg n ds ds.length) by unfold lg;rw[List.take_length]];exact dr rfl (by rw[List.length_map];exact hli.symm) (by simp)
section
def isApp:Go.Op→Bool
 | .call c=>match c.callee with
  | .builtin .append=>true
  | _=>false
 | _=>false
def statP(ops:Array Oper)(E:List Nat)(tab:List (Nat×List Nat)):Bool :=
 stat1 ops&&nF ops E&&(List.range ops.size).all fun i=>E.contains i||(match ops[i]? with
  | some o=>(bf o.op||isApp o.op)&&(dv o.op||(List.range (E.length+1)).all fun c=>!ib (aR [] ops.toList) E i c||c == cV E i||(hY tab i).contains c)
  | none=>true)
def oblP(T:AM.Ty)(ops:Array Oper)(C:V→List V→List B→(V→List B→Prop)→Prop)(E:List Nat)(tab:List (Nat×List Nat))(Hs:Nat→List B):List Oper→Nat→Nat→List V→List V→Prop
 | [],_,_,_,_=>True
 | _::_,_,_,_,[]=>False
 | o::rest,i,c,fr,v::vs =>
  (match bQ ops fr o with
   | some true=>match bC o.op with
    | some (f,args)=>if E.contains i then C (aU fr f) (args.map (aU fr)) (Hs c) (fun r H'=>r=v∧H'=Hs (c+1))
     else ey (fun c'=>C (aU fr f) (args.map (aU fr)) (Hs c') (fun r H'=>r=v∧H'=Hs c')) (c::hY tab i)
    | none=>if E.contains i||dv o.op then True else ey (fun c'=>aop T o.op (aU fr) (Hs c')=some (v,Hs c')) (if bf o.op then hY tab i else c::hY tab i)
   | _=>True)∧oblP T ops C E tab Hs rest (i+1) (if E.contains i then c+1 else c) (bI fr o.dst v) vs
def DrawP(T:AM.Ty)(ops:Array Oper)(E:List Nat)(tab:List (Nat×List Nat))(cv:List (V×List B))(C:V→List V→List B→(V→List B→Prop)→Prop)(K:List V→List B→Prop)(fr:List V)(H:List B):Prop :=
 match AM.runT T ops E ops.toList 0 fr H cv with
 | none=>False
 | some (vs,hs,f)=>hs.length=E.length∧oblP T ops C E tab (fun c=>(H::hs)[c]?.getD []) ops.toList 0 0 fr vs∧K f ((H::hs)[E.length]?.getD [])
section
variable {P:Program} {T:AM.Ty}
theorem nz{ops:Array Oper}{C:V→List V→List B→(V→List B→Prop)→Prop}{E:List Nat}{tab:List (Nat×List Nat)}{Hs:Nat→List B}(hasc:mP E=true)
  (hst:∀i o,ops[i]?=some o→E.contains i=false→(bf o.op=true∨isApp o.op=true)∧(dv o.op=true∨∀c,c<E.length+1→ib (aR [] ops.toList) E i c=true→c=cV E i∨c∈hY tab i)):
  ∀(l:List Oper) (i:Nat) (fr:List V) (H:List B) (cv:List (V×List B)) (vs:List V) (hs:List (List B)) (f:List V),l=ops.toList.drop i→AM.runT T ops E l i fr H cv=some (vs,hs,f)→(∀k,k≤hs.length→Hs (cV E i+k)=((H::hs)[k]?).getD [])→
   oblP T ops C E tab Hs l i (cV E i) fr vs→bp T ops C (aR [] ops.toList) E Hs l i fr vs
 | [],i,fr,H,cv,vs,hs,f,hl,hr,hH,h=>trivial
 | o::rest,i,fr,H,cv,vs,hs,f,hl,hr,hH,h=>by
  have ho:ops[i]?=some o:=by
   have:=congrArg (fun l=>l[0]?) hl;simp at this;exact this.symm
  have hrest:rest=ops.toList.drop (i+1):=by
   have:=congrArg List.tail hl;simpa using this
  have hHi:Hs (cV E i)=H:=by have:=hH 0 (Nat.zero_le _);simpa using this
  simp only[AM.runT]at hr
  cases hw:bQ ops fr o with
  | none=>rw[hw]at hr;cases hr
  | some b =>
  rw[hw]at hr
  cases b with
  | false =>
   simp only at hr;split at hr
   ·cases hr
   rename_i hE
   have hE:E.contains i=false:=by simpa using hE
   split at hr
   ·rename_i vs' hs' f' hr';cases hr;simp only[oblP,hw,hE,Bool.false_eq_true,if_false]at h;simp only[bp,hw];refine⟨⟨by first | trivial | rfl,hE⟩,nz hasc hst rest (i+1) _ H cv vs' _ _ hrest hr' (fun k hk=>?_) ?_⟩
    ·rw[cJ hasc,hE];simpa using hH k hk
    ·rw[cJ hasc,hE];simpa using h.2
   ·cases hr
  | true =>
   simp only at hr
   have fin:∀(v:V) (H':List B) (cv':List (V×List B)),(if E.contains i then(match AM.runT T ops E rest (i+1) (bI fr o.dst v) H' cv' with
      | some (vs,hs,f)=>some (v::vs,H'::hs,f)
      | none=>none)
     else(match AM.runT T ops E rest (i+1) (bI fr o.dst v) H cv' with
      | some (vs,hs,f)=>some (v::vs,hs,f)
      | none=>none))=some (vs,hs,f)→
     ∃vs',vs=v::vs'∧(E.contains i=true→Hs (cV E i+1)=H')∧(oblP T ops C E tab Hs rest (i+1) (if E.contains i then cV E i+1 else cV E i) (bI fr o.dst v) vs'→bp T ops C (aR [] ops.toList) E Hs rest (i+1) (bI fr o.dst v) vs'):=fun v H' cv' hq=>by
    cases hE:E.contains i with
    | true =>
     rw[hE]at hq;simp only[if_true]at hq;split at hq
     ·rename_i vs' hs' f' hr';cases hq;refine⟨vs',rfl,fun _=>?_,fun hh=>?_⟩
      ·have:=hH 1 (by simp);simpa using this
      ·refine nz hasc hst rest (i+1) _ H' cv' vs' hs' _ hrest hr' (fun k hk=>?_) ?_
       ·rw[cJ hasc,hE];have:=hH (k+1) (by simp;omega);simp only[if_true,List.getElem?_cons_succ]at this ⊢;rw[show cV E i+1+k=cV E i+(k+1) by omega];exact this
       ·rw[cJ hasc,hE];simpa using hh
     ·cases hq
    | false =>
     rw[hE]at hq;simp only[Bool.false_eq_true,if_false]at hq;split at hq
     ·rename_i vs' hs' f' hr';cases hq;refine⟨vs',rfl,(fun h=>by cases h),fun hh=>?_⟩;refine nz hasc hst rest (i+1) _ H cv' vs' hs _ hrest hr' (fun k hk=>?_) ?_
      ·rw[cJ hasc,hE];simpa using hH k hk
      ·rw[cJ hasc,hE];simpa using hh
     ·cases hq
   cases hc:bC o.op with
   | some p =>
    obtain⟨g,args⟩:=p;rw[hc]at hr;simp only at hr;split at hr
    ·rename_i v H' cv';obtain⟨vs',rfl,hEH,hrec⟩:=fin v H' cv' hr;simp only[oblP,hw,hc]at h;simp only[bp,hw,hc];refine⟨?_,hrec h.2⟩
     cases hE:E.contains i with
     | true =>
      rw[hE]at h;simp only[if_true]at h ⊢;rw[mD hasc hE];exact h.1
     | false =>
      rw[hE]at h;simp only[Bool.false_eq_true,if_false]at h ⊢;obtain⟨_,s2⟩:=hst i o ho hE
      have hns:dv o.op=false:=by
       cases hop:o.op<;>rw[hop]at hc<;>simp only[bC]at hc<;>first | (cases hc;done) | rfl
      rw[hns]at s2;have s2:=s2.resolve_left (by simp);refine allC_of (fun c hcm=>?_);split
      ·rename_i hp
       rcases s2 c (by simpa using hcm) hp with rfl | hm
       ·exact cz h.1 _ (by simp)
       ·exact cz h.1 _ (by simp[hm])
      ·trivial
    ·cases hr
   | none =>
    rw[hc]at hr;simp only at hr
    cases hop:aop T o.op (aU fr) H with
    | none=>rw[hop]at hr;cases hr
    | some q =>
     obtain⟨v,H'⟩:=q;rw[hop]at hr;simp only at hr;obtain⟨vs',rfl,hEH,hrec⟩:=fin v H' cv hr;simp only[oblP,hw,hc]at h;simp only[bp,hw,hc];refine⟨?_,hrec h.2⟩
     cases hE:E.contains i with
     | true =>
      simp only[if_true];rw[mD hasc hE,hHi,hEH hE];exact hop
     | false =>
      rw[hE]at h;simp only[Bool.false_eq_true,if_false,Bool.false_or]at h ⊢;obtain⟨s1,s2⟩:=hst i o ho hE;refine allC_of (fun c hcm=>?_);split
      ·rename_i hp
       cases hsc:dv o.op with
       | true=>exact jo hsc hop _
       | false =>
        rw[hsc]at h s2;simp only[Bool.false_eq_true,if_false]at h
        cases hso:bf o.op with
        | true =>
         rw[hso,if_pos rfl]at h;have hHH:=iV hso hop;subst hHH
         rcases(s2.resolve_left (by simp)) c (by simpa using hcm) hp with rfl | hm
         ·rw[hHi];exact hop
         ·exact cz h.1 _ hm
        | false =>
         rw[hso,if_neg (by simp)]at h
         rcases(s2.resolve_left (by simp)) c (by simpa using hcm) hp with rfl | hm
         ·exact cz h.1 _ (by simp)
         ·exact cz h.1 _ (by simp[hm])
      ·trivial
where
 allC_of {p:Nat→Prop} : ∀{l:List Nat},(∀c∈l,p c)→ey p l
  | [],_=>trivial
  | c::l,h=>⟨h c (by simp),allC_of (fun d hd=>h d (by simp[hd]))⟩
theorem W_drawP(hT:TOk P T)(hm:P.follows .mixedOrders=true){id:Nat}{ops:Array Oper}{Q:Exit→List V→List B→Prop}{fr:List V}{H:List B}(E:List Nat)(tab:List (Nat×List Nat))(cv:List (V×List B))(hst:statP ops E tab=true)
  (h:∀(C:V→List V→List B→(V→List B→Prop)→Prop) (K:List V→List B→Prop),(∀fv args H K',aV P fv args H K'→C fv args H K')→(∀fr H,Q .normal fr H→K fr H)→DrawP T ops E tab cv C K fr H):W P (.region id ops true) Q fr H:=by
 refine W_draw hT hm E cv fun C K hC hK=>?_
 have h1:=h C K hC hK;unfold DrawP at h1;unfold nE;simp only[statP,Bool.and_eq_true]at hst;obtain⟨⟨st1,st2⟩,st3⟩:=hst;split at h1
 ·exact h1.elim
 ·rename_i vs hs f hr;rw[hr];obtain⟨a1,a2,a3⟩:=h1
  have hasc:mP E=true:=by
   unfold nF at st2;simp only[Bool.and_eq_true]at st2;exact st2.1.1
  have h00:cV E 0=0:=by cases E<;>simp[cV]
  refine⟨⟨np st1 st2,a1⟩,?_,a3⟩;refine nz hasc (fun i o ho hE=>?_) ops.toList 0 fr H cv vs hs f (by simp) hr (fun k hk=>by rw[h00,Nat.zero_add]) (by rw[h00];exact a2);have hil:i<ops.size:=(Array.getElem?_eq_some_iff.1 ho).1;have:=List.all_eq_true.1 st3 i (by simpa using hil);rw[hE,ho,Bool.false_or]at this;simp only[Bool.and_eq_true,Bool.or_eq_true]at this;refine⟨this.1,this.2.imp (fun h=>h) (fun hall c hc hp=>?_)⟩;have h3:=List.all_eq_true.1 hall c (by simpa using hc);simp only[Bool.or_eq_true,Bool.not_eq_true',beq_iff_eq]at h3
  rcases h3 with(h3 | h3) | h3
  ·rw[hp]at h3;cases h3
  ·exact .inl h3
  ·exact .inr (List.contains_iff_mem.1 h3)
end
attribute [simp] DrawP oblP
end
theorem cap32l(n:Nat)(h:n≤1000000000):n≤9223372036854775807∧n*32≤140737488355328:=by omega
theorem cap16l(n:Nat)(h:n≤1000000000):n≤9223372036854775807∧n*16≤140737488355328:=by omega
structure Cr where
 id:Int
 attr:Int
theorem Cr.eq_iff{a b:Cr} : a=b↔a.id=b.id∧a.attr=b.attr:=by
 cases a;cases b;simp
def cLt(a b:Cr):Prop:=a.id<b.id∨(a.id=b.id∧a.attr<b.attr)
theorem eh(a:Cr):¬cLt a a:=by unfold cLt;omega
theorem ea{a b c:Cr}(h:cLt a b)(g:cLt b c):cLt a c:=by unfold cLt at *;omega
theorem cLt_tri(a b:Cr):cLt a b∨a=b∨cLt b a:=by
 rw[Cr.eq_iff];unfold cLt;omega
def bj(a b:Cr):Int:=if bU a.id b.id=0 then bU a.attr b.attr else bU a.id b.id
theorem cmpI_lt(x y:Int):bU x y<0↔x<y:=by
 unfold bU;split
 ·simp;omega
 ·split<;>simp<;>omega
theorem mH(x y:Int):bU x y=0↔x=y:=by
 unfold bU;split
 ·simp;omega
 ·split<;>simp<;>omega
theorem eK(a b:Cr):bj a b<0↔cLt a b:=by
 unfold bj cLt;have h1:=mH a.id b.id;split
 ·rename_i h;rw[cmpI_lt];have:=h1.1 h;omega
 ·rename_i h;rw[cmpI_lt]
  have:¬a.id=b.id:=fun e=>h (h1.2 e)
  omega
theorem fM(a b:Cr):bj a b=0↔a=b:=by
 unfold bj;rw[Cr.eq_iff];have h1:=mH a.id b.id;split
 ·rename_i h;rw[mH];exact⟨fun h2=>⟨h1.1 h,h2⟩,fun h2=>h2.2⟩
 ·rename_i h;exact⟨fun h2=>absurd h2 h,fun h2=>absurd (h1.2 h2.1) h⟩
def aZ(l:List Cr):Prop:=l.Pairwise cLt
theorem du{l:List Cr}(h:aZ l){i j:Nat}(hi:i<l.length)(hj:j<l.length)(hij:i<j):cLt l[i] l[j]:=List.pairwise_iff_getElem.1 h i j hi hj hij
def cAt(l:List Cr)(i:Nat):Cr:=l.getD i ⟨0,0⟩
def bsC(l:List Cr)(x:Cr)(lo hi:Nat):Nat :=
 if lo<hi then(if bj (cAt l ((lo+hi) / 2)) x<0 then bsC l x ((lo+hi) / 2+1) hi else bsC l x lo ((lo+hi) / 2)) else lo
termination_by hi-lo
theorem gh{l:List Cr}{i:Nat}(h:i<l.length):cAt l i=l[i]:=by simp[cAt,h]
theorem bsC_ok{l:List Cr}(hs:aZ l)(x:Cr)(lo hi:Nat)(hlh:lo≤hi)(hhl:hi≤l.length)(h1:∀j (h:j<l.length),j<lo→cLt l[j] x)(h2:∀j (h:j<l.length),hi≤j→¬cLt l[j] x):
  (∀j (h:j<l.length),j<bsC l x lo hi→cLt l[j] x)∧∀j (h:j<l.length),bsC l x lo hi≤j→¬cLt l[j] x:=by
 fun_induction bsC l x lo hi with
 | case1 lo hi h0 hq ih =>
  have hm:(lo+hi) / 2<l.length:=by omega
  rw[gh hm,eK]at hq;refine ih (by omega) hhl (fun j h hj=>?_) h2
  rcases Nat.lt_or_ge j ((lo+hi) / 2) with h3 | h3
  ·exact ea (du hs h hm h3) hq
  ·have:j=(lo+hi) / 2:=by omega
   subst this;exact hq
 | case2 lo hi h0 hq ih =>
  have hm:(lo+hi) / 2<l.length:=by omega
  rw[gh hm,eK]at hq;refine ih (by omega) (by omega) h1 (fun j h hj hc=>?_)
  rcases Nat.lt_or_ge ((lo+hi) / 2) j with h3 | h3
  ·exact hq (ea (du hs hm h h3) hc)
  ·have:j=(lo+hi) / 2:=by omega
   subst this;exact hq hc
 | case3 lo hi h0=>exact⟨fun j h hj=>h1 j h hj,fun j h hj=>h2 j h (by omega)⟩
theorem bsC_mem{l:List Cr}(hs:aZ l)(x:Cr):(∃h:bsC l x 0 l.length<l.length,bj l[bsC l x 0 l.length] x=0)↔x∈l:=by
 obtain⟨h1,h2⟩:=bsC_ok hs x 0 l.length (by omega) (by omega) (fun j h hj=>absurd hj (by omega)) (fun j h hj=>absurd h (by omega));constructor
 ·rintro⟨h,hc⟩;rw[fM]at hc;exact hc▸List.getElem_mem h
 ·intro h;obtain⟨j,hj,rfl⟩:=List.mem_iff_getElem.1 h
  have a1:bsC l l[j] 0 l.length≤j:=by
   rcases Nat.lt_or_ge j (bsC l l[j] 0 l.length) with h3 | h3
   ·exact absurd (h1 j hj h3) (eh _)
   ·exact h3
  have a2:j≤bsC l l[j] 0 l.length:=by
   rcases Nat.lt_or_ge (bsC l l[j] 0 l.length) j with h3 | h3
   ·have hb:bsC l l[j] 0 l.length<l.length:=by omega
    exact absurd (du hs hb hj h3) (h2 _ hb (Nat.le_refl _))
   ·exact h3
  have e:bsC l l[j] 0 l.length=j:=by omega
  exact⟨by omega,by rw[fM];congr 1⟩
def aO(c:Cr):V:=.agg [.int .i64 c.id,.int .i64 c.attr]
@[simp] theorem encCr_pure (c:Cr):AM.Pure (aO c):=by simp[aO]
@[simp] theorem encCr_oneV (c:Cr):dc (aO c)=true:=rfl
def LC(f:Bool)(l:List Cr):V:=.lst 2 f (l.map aO)
@[simp] theorem LC_pure (f:Bool) (l:List Cr):AM.Pure (LC f l):=by simp[LC]
theorem kI(a b:Cr):aS Tryz.prog 75 [aO a,aO b] fun r=>r = .int .i64 (bj a b):=by
 have hc1:=cmp64 a.id b.id;have hc2:=cmpInt a.attr b.attr;have hc3:=orInt [bU a.id b.id,bU a.attr b.attr] true (by simp)
 have he:orI [bU a.id b.id,bU a.attr b.attr]=bj a b:=by
  unfold bj;simp only[orI];split
  ·split
   ·rename_i h;exact h.symm
   ·rfl
  ·rfl
 rw[he]at hc3;simp only[L1,List.map_cons,List.map_nil,ac]at hc3;refine aC (aD tok Tryz.func75 rfl rfl ?_);refine wx ?_;simp -implicitDefEqProofs -dsimp[Tryz.f75,List.replicate,aO];refine .inr ⟨aJ (by kernel_rfl),?_⟩;refine aj _ (aG (hc1) (by simp)) ?_;simp -implicitDefEqProofs -dsimp[];refine aj _ (aG (hc2) (by simp)) ?_;simp -implicitDefEqProofs -dsimp[];refine aj _ (aG (hc3) (by simp)) ?_;simp -implicitDefEqProofs -dsimp[]
section
abbrev Dm:=Vl ⊕ Nat
structure Prob where
 m:Nat
 n:Nat
 K:Nat→Option Vl
 fds:List Fd
def Agr(q:Prob)(σ:Nat→Dm)(i k s:Nat):Prop:=∀a,a<q.n→s.testBit a=true→σ (i*q.n+a)=σ (k*q.n+a)
structure Sol (q:Prob) (σ:Nat→Dm):Prop where
 fix:∀x v,x<q.m*q.n→q.K x=some v→σ x = .inl v
 dep:∀d∈q.fds,∀i k,i<q.m→k<i→Agr q σ i k d.l→Agr q σ i k d.r
def Okq(q:Prob):Prop:=∃σ,Sol q σ
theorem bB{m n i a:Nat}(hi:i<m)(ha:a<n):i*n+a<m*n:=by
 have:(i+1)*n≤m*n:=Nat.mul_le_mul_right n hi;rw[Nat.add_mul]at this;omega
structure Frt (q:Prob) (P:List Nat) (r h:Nat→Nat):Prop where
 len:P.length=q.m*q.n
 lt:∀x,x<q.m*q.n→r x<q.m*q.n
 root:∀x,x<q.m*q.n→P.getD (r x) 0=r x
 self:∀x,x<q.m*q.n→P.getD x 0=x→r x=x
 step:∀x,x<q.m*q.n→P.getD x 0≠x→P.getD x 0<q.m*q.n∧r (P.getD x 0)=r x∧h (P.getD x 0)<h x
 known:∀x,x<q.m*q.n→q.K x≠none→r x=x
 sem:∀σ,Sol q σ→∀x,x<q.m*q.n→σ x=σ (r x)
def eqv(q:Prob)(r:Nat→Nat)(x y:Nat):Prop:=r x=r y∨∃v,q.K (r x)=some v∧q.K (r y)=some v
def eA(q:Prob)(r:Nat→Nat)(x:Nat):Dm:=match q.K (r x) with
 | some v=>.inl v
 | none=>.inr (r x)
theorem eqv_iff(q:Prob)(r:Nat→Nat)(x y:Nat):eA q r x=eA q r y↔eqv q r x y:=by
 unfold eA eqv
 cases h1:q.K (r x) with
 | some v =>
  cases h2:q.K (r y) with
  | some w =>
   simp only[Sum.inl.injEq,Option.some.injEq];constructor
   ·rintro rfl;exact .inr ⟨v,rfl,rfl⟩
   ·rintro(h | ⟨u,h3,h4⟩)
    ·rw[h,h2]at h1;exact(Option.some.inj h1).symm
    ·exact h3.trans h4.symm
  | none =>
   simp only[reduceCtorEq,false_iff];rintro(h | ⟨u,h3,h4⟩)
   ·rw[h,h2]at h1;cases h1
   ·cases h4
 | none =>
  cases h2:q.K (r y) with
  | some w =>
   simp only[reduceCtorEq,false_iff];rintro(h | ⟨u,h3,h4⟩)
   ·rw[h,h2]at h1;cases h1
   ·cases h3
  | none =>
   simp only[Sum.inr.injEq];constructor
   ·exact .inl
   ·rintro(h | ⟨u,h3,h4⟩)
    ·exact h
    ·cases h3
section
variable {q:Prob} {P:List Nat} {r h:Nat→Nat}
theorem Frt.eqv_sem(f:Frt q P r h){σ:Nat→Dm}(hs:Sol q σ){x y:Nat}(hx:x<q.m*q.n)(hy:y<q.m*q.n)(he:eqv q r x y):σ x=σ y:=by
 rw[f.sem σ hs x hx,f.sem σ hs y hy]
 rcases he with he | ⟨v,h1,h2⟩
 ·rw[he]
 ·rw[hs.fix _ v (f.lt x hx) h1,hs.fix _ v (f.lt y hy) h2]
def eO(q:Prob)(r:Nat→Nat):Prop:=∀d∈q.fds,∀i k,i<q.m→k<i→(∀a,a<q.n→d.l.testBit a=true→eqv q r (i*q.n+a) (k*q.n+a))→∀a,a<q.n→d.r.testBit a=true→eqv q r (i*q.n+a) (k*q.n+a)
theorem Frt.sol(f:Frt q P r h)(hc:eO q r):Sol q (eA q r):=by
 refine⟨fun x v hx hk=>?_,fun d hd i k hi hk hl a ha hb=>?_⟩
 ·unfold eA;rw[f.known x hx (by rw[hk];simp),hk]
 ·exact(eqv_iff q r _ _).2 (hc d hd i k hi hk (fun b hb1 hb2=>(eqv_iff q r _ _).1 (hl b hb1 hb2)) a ha hb)
theorem frt_init(q:Prob):Frt q (List.range (q.m*q.n)) (fun x=>x) (fun _=>0):=by
 have hg:∀x,x<q.m*q.n→(List.range (q.m*q.n)).getD x 0=x:=fun x hx=>by simp[hx]
 refine⟨by simp,fun x hx=>hx,fun x hx=>hg x hx,fun x hx _=>rfl,fun x hx hne=>absurd (hg x hx) hne,fun x hx _=>rfl,fun σ hs x hx=>rfl⟩
theorem iG(P:List Nat)(k v x:Nat)(hk:k<P.length):(P.set k v).getD x 0=if x=k then v else P.getD x 0:=by
 by_cases hx:x=k
 ·subst hx;simp[hk]
 ·rw[if_neg hx];simp only[List.getD_eq_getElem?_getD];rw[List.getElem?_set_ne (Ne.symm hx)]
theorem Frt.join(f:Frt q P r h){i k:Nat}(hi:i<q.m*q.n)(hk:k<q.m*q.n)(hri:r i=i)(hrk:r k=k)(hne:i≠k)(hK:q.K k=none)(hs:∀σ,Sol q σ→σ i=σ k):
  Frt q (P.set k i) (fun x=>if r x=k then i else r x) (fun x=>if r x=k then h x+h i+1 else h x):=by
 have hkl:k<P.length:=by rw[f.len];exact hk
 have hpk:P.getD k 0=k:=by have:=f.root k hk;rwa [hrk]at this
 have hpi:P.getD i 0=i:=by have:=f.root i hi;rwa [hri]at this
 refine⟨by rw[List.length_set];exact f.len,fun x hx=>?_,fun x hx=>?_,fun x hx hp=>?_,fun x hx hp=>?_,fun x hx hkx=>?_,fun σ hσ x hx=>?_⟩
 ·split
  ·exact hi
  ·exact f.lt x hx
 ·rw[iG _ _ _ _ hkl];split
  ·first | exact hpi | (rw[if_neg hne];exact hpi)
  ·rename_i h1
   first | exact f.root x hx | (rw[if_neg h1];exact f.root x hx)
 ·rw[iG _ _ _ _ hkl]at hp;by_cases hxk:x=k
  ·rw[if_pos hxk]at hp;exact absurd (hp.trans hxk) hne
  ·rw[if_neg hxk]at hp;have:=f.self x hx hp;rw[this,if_neg hxk]
 ·rw[iG _ _ _ _ hkl]at hp ⊢;by_cases hxk:x=k
  ·subst hxk;rw[if_pos rfl]at hp ⊢;refine⟨hi,?_,?_⟩
   ·rw[hri,hrk,if_neg hne,if_pos rfl]
   ·rw[hri,hrk,if_neg hne,if_pos rfl];omega
  ·rw[if_neg hxk]at hp ⊢;obtain⟨h1,h2,h3⟩:=f.step x hx hp;refine⟨h1,by rw[h2],?_⟩;rw[h2];split
   ·omega
   ·exact h3
 ·have:=f.known x hx hkx;rw[this];by_cases hxk:x=k
  ·subst hxk;exact absurd hK hkx
  ·rw[if_neg hxk]
 ·rw[f.sem σ hσ x hx];split
  ·rename_i h1;rw[h1];exact(hs σ hσ).symm
  ·rfl
def mE(P:List Nat):Nat:=((List.range P.length).filter fun x=>P.getD x 0 == x).length
theorem filter_le{p p':Nat→Bool} : ∀{l:List Nat},(∀x∈l,p' x=true→p x=true)→(l.filter p').length≤(l.filter p).length
 | [],_=>Nat.le_refl _
 | a::l,hle=>by
  have ih:=filter_le (l:=l) (fun x hx=>hle x (List.mem_cons_of_mem _ hx));have ha:=hle a List.mem_cons_self;simp only[List.filter_cons]
  cases hp':p' a with
  | false=>cases hp:p a<;>simp<;>omega
  | true=>rw[ha hp'];simp;omega
theorem mh{p p':Nat→Bool}{k:Nat}(h1:p k=true)(h2:p' k=false):∀{l:List Nat},(∀x∈l,p' x=true→p x=true)→k∈l→(l.filter p').length<(l.filter p).length
 | [],_,hk=>by cases hk
 | a::l,hle,hk=>by
  have hle':∀x∈l,p' x=true→p x=true:=fun x hx=>hle x (List.mem_cons_of_mem _ hx)
  have ha:=hle a List.mem_cons_self;have hq:=filter_le hle';simp only[List.filter_cons]
  rcases List.mem_cons.1 hk with hk | hk
  ·rw[←hk,h1,h2];simp;omega
  ·have ih:=mh h1 h2 hle' hk
   cases hp':p' a with
   | false=>cases hp:p a<;>simp<;>omega
   | true=>rw[ha hp'];simp;omega
theorem cntR_join{P:List Nat}{i k:Nat}(hk:k<P.length)(hpk:P.getD k 0=k)(hne:i≠k):mE (P.set k i)<mE P:=by
 unfold mE;rw[List.length_set];refine mh (k:=k) (by simpa using hpk) ?_ (fun x _ hx=>?_) (by simpa using hk)
 rotate_left
 ·rw[iG _ _ _ _ hk]at hx;by_cases hxk:x=k
  ·rw[if_pos hxk,beq_iff_eq]at hx;exact absurd (hx.trans hxk) hne
  ·rwa [if_neg hxk]at hx
 ·rw[iG _ _ _ _ hk,if_pos rfl,beq_eq_false_iff_ne];exact hne
end
end
section
def app(τ:Nat→Dm):Dm→Dm
 | .inl v=>.inl v
 | .inr s=>τ s
structure Ent (q:Prob) (e:Nat→Dm):Prop where
 fix:∀x v,x<q.m*q.n→q.K x=some v→e x = .inl v
 sem:∀σ,Sol q σ→∃τ:Nat→Dm,∀x,x<q.m*q.n→σ x=app τ (e x)
def oL(q:Prob)(e:Nat→Dm):Prop:=∀d∈q.fds,∀i k,i<q.m→k<i→Agr q e i k d.l→Agr q e i k d.r
theorem Ent.sol{q:Prob}{e:Nat→Dm}(h:Ent q e)(hc:oL q e):Sol q e:=⟨h.fix,hc⟩
open Classical in
noncomputable def repE(e:Nat→Dm)(s:Nat)(y:Dm)(x:Nat):Dm:=if e x = .inr s then y else e x
theorem Ent.rep{q:Prob}{e:Nat→Dm}(h:Ent q e){x0 y0 s:Nat}(hx:x0<q.m*q.n)(hy:y0<q.m*q.n)(he:e x0 = .inr s)(hs:∀σ,Sol q σ→σ x0=σ y0):Ent q (repE e s (e y0)):=by
 refine⟨fun x v hxn hk=>?_,fun σ hσ=>?_⟩
 ·unfold repE;rw[h.fix x v hxn hk,if_neg (by simp)]
 ·obtain⟨τ,ht⟩:=h.sem σ hσ;refine⟨τ,fun x hxn=>?_⟩;unfold repE;split
  ·rename_i h1;have h2:=hs σ hσ;rw[ht x0 hx,ht y0 hy,he]at h2;rw[ht x hxn,h1,h2]
  ·exact ht x hxn
theorem Ent.clash{q:Prob}{e:Nat→Dm}(h:Ent q e){x y:Nat}{v w:Vl}(hx:x<q.m*q.n)(hy:y<q.m*q.n)(h1:e x = .inl v)(h2:e y = .inl w)(hne:v≠w)(hs:∀σ,Sol q σ→σ x=σ y):¬Okq q:=by
 rintro⟨σ,hσ⟩;obtain⟨τ,ht⟩:=h.sem σ hσ;have:=hs σ hσ;rw[ht x hx,ht y hy,h1,h2]at this;exact hne (Sum.inl.inj this)
open Classical in
noncomputable def hasSym(N:Nat)(e:Nat→Dm)(s:Nat):Bool:=decide (∃x,x<N∧e x = .inr s)
noncomputable def cntS(N S:Nat)(e:Nat→Dm):Nat:=((List.range S).filter (hasSym N e)).length
open Classical in
theorem cntS_rep{N S s y0:Nat}{e:Nat→Dm}{x0:Nat}(hx:x0<N)(hy:y0<N)(he:e x0 = .inr s)(hne:e y0≠.inr s)(hs:s<S):cntS N S (repE e s (e y0))<cntS N S e:=by
 unfold cntS;refine mh (k:=s) ?_ ?_ (fun s' _ h=>?_) (by simpa using hs)
 rotate_left 2
 ·unfold hasSym at h ⊢;obtain⟨x,hxN,h1⟩:=of_decide_eq_true h;unfold repE at h1;refine decide_eq_true ?_;split at h1
  ·exact⟨y0,hy,h1⟩
  ·exact⟨x,hxN,h1⟩
 ·exact decide_eq_true ⟨x0,hx,he⟩
 ·refine decide_eq_false ?_;rintro⟨x,hxN,h1⟩;unfold repE at h1;split at h1
  ·exact hne h1
  ·rename_i h2;exact h2 h1
theorem ent_init{q:Prob}{e:Nat→Dm}(hf:∀x v,x<q.m*q.n→q.K x=some v→e x = .inl v)(ho:∀x,x<q.m*q.n→q.K x=none→∃s,e x = .inr s)(hi:∀x y s,x<q.m*q.n→y<q.m*q.n→e x = .inr s→e y = .inr s→x=y):Ent q e:=by
 refine⟨hf,fun σ hσ=>?_⟩;refine⟨fun s=>open Classical in if h:∃x,x<q.m*q.n∧e x = .inr s then σ h.choose else .inr 0,fun x hx=>?_⟩
 cases hk:q.K x with
 | some v=>rw[hf x v hx hk,hσ.fix x v hx hk];rfl
 | none =>
  obtain⟨s,hs⟩:=ho x hx hk;rw[hs];have hex:∃x,x<q.m*q.n∧e x = .inr s:=⟨x,hx,hs⟩;simp only[app,dif_pos hex];have:=hex.choose_spec;rw[hi x hex.choose s hx this.1 hs this.2]
end
section
structure IsNxt (u:Int→Bool) (n m:Int):Prop where
 gt:n<m
 free:u m=false
 all:∀k,n<k→k<m→u k=true
theorem IsNxt.uniq{u:Int→Bool}{n a b:Int}(h:IsNxt u n a)(g:IsNxt u n b):a=b:=by
 rcases Int.lt_trichotomy a b with h1 | h1 | h1
 ·have:=g.all a h.gt h1;rw[h.free]at this;cases this
 ·exact h1
 ·have:=h.all b g.gt h1;rw[g.free]at this;cases this
open Classical in
noncomputable def nxt(u:Int→Bool)(n:Int):Int:=if h:∃m,IsNxt u n m then h.choose else n+1
theorem nxt_eq{u:Int→Bool}{n m:Int}(h:IsNxt u n m):nxt u n=m:=by
 unfold nxt;have hex:∃m,IsNxt u n m:=⟨m,h⟩;rw[dif_pos hex];exact hex.choose_spec.uniq h
noncomputable def ij(u:Int→Bool):Nat→Int
 | 0=>0
 | k+1=>nxt u (ij u k)
open Classical in
noncomputable def fp(c:Nat→Dm)(x:Nat):Nat:=((List.range (x+1)).find? fun y=>decide (c y=c x)).getD x
open Classical in
noncomputable def dI(c:Nat→Dm)(y:Nat):Nat:=((List.range y).filter fun z=>decide ((∃s,c z = .inr s)∧fp c z=z)).length
noncomputable def ka(u:Int→Bool)(c:Nat→Dm)(x:Nat):Vl:=match c x with
 | .inl v=>v
 | .inr _=>⟨3,ij u (dI c (fp c x)+1),ByteArray.empty⟩
theorem fp_le(c:Nat→Dm)(x:Nat):fp c x≤x:=by
 unfold fp
 cases h:(List.range (x+1)).find? fun y=>open Classical in decide (c y=c x) with
 | none=>simp
 | some y =>
  have:=List.mem_of_find?_eq_some h;simp at this;simp;omega
theorem fp_same(c:Nat→Dm)(x:Nat):c (fp c x)=c x:=by
 unfold fp
 cases h:(List.range (x+1)).find? fun y=>open Classical in decide (c y=c x) with
 | none=>simp
 | some y =>
  have:=List.find?_some h;simpa using this
section
variable {c c':Nat→Dm} {N:Nat} (he:∀x y,x<N→y<N→(c x=c y↔c' x=c' y)) (hv:∀x v,x<N→(c x = .inl v↔c' x = .inl v))
include he in
theorem fp_eq{x:Nat}(hx:x<N):fp c x=fp c' x:=by
 unfold fp;congr 1
 refine find_congr fun y hy=>?_
 have hy:y<x+1:=by simpa using hy
 exact decide_eq_decide.2 (he y x (by omega) hx)
where
 find_congr {l:List Nat} {p p':Nat→Bool} (h:∀y∈l,p y=p' y):l.find? p=l.find? p':=by
  induction l with
  | nil=>rfl
  | cons a l ih =>
   simp only[List.find?_cons,h a List.mem_cons_self,ih (fun y hy=>h y (List.mem_cons_of_mem _ hy))]
include hv in
theorem inr_eq{x:Nat}(hx:x<N):(∃s,c x = .inr s)↔∃s,c' x = .inr s:=by
 constructor
 ·rintro⟨s,hs⟩
  cases h:c' x with
  | inl v=>have:=(hv x v hx).2 h;rw[hs]at this;cases this
  | inr s'=>exact⟨s',rfl⟩
 ·rintro⟨s,hs⟩
  cases h:c x with
  | inl v=>have:=(hv x v hx).1 h;rw[hs]at this;cases this
  | inr s'=>exact⟨s',rfl⟩
include he hv in
theorem rank_eq{y:Nat}(hy:y≤N):dI c y=dI c' y:=by
 unfold dI;congr 1
 refine List.filter_congr fun z hz=>?_
 have hz:z<y:=by simpa using hz
 refine decide_eq_decide.2 ?_;rw[inr_eq hv (show z<N by omega),fp_eq he (show z<N by omega)]
include he hv in
theorem out_eq(u:Int→Bool){x:Nat}(hx:x<N):ka u c x=ka u c' x:=by
 unfold ka
 cases h:c x with
 | inl v=>rw[(hv x v hx).1 h]
 | inr s =>
  obtain⟨s',h'⟩:=(inr_eq hv hx).1 ⟨s,h⟩;rw[h'];have hf:=fp_eq he hx;have hfl:=fp_le c x;simp only;rw[←hf,rank_eq he hv (show fp c x≤N by omega)]
end
end
end
end Go.Proofs.YteijbpppalhihaaGreat
