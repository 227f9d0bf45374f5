/- JB4: texts AMd, joined and shortened by pack6.py. -/
import Derived.Test.YtnaokiodhoadjaaGreatDoorJB3
import Derived.KernelRfl
import Derived.Orders
set_option linter.all false
set_option maxRecDepth 100000
set_option maxHeartbeats 64000000
open Array renaming getD→xV,replicate→xW
open List renaming range→tr,nil_append→uL,all_cons→vE,foldl_cons→vy
open Nat renaming strongRecOn→xG,sub_zero→xe
open Option renaming map_some→uS,getD_some→wA
section
namespace Go.AM
open Go
section
variable {P:Program}
theorem find_now{d:TypeDesc}{kk:KK}(f:∀a b,aq a=some kk->aq b=some kk->Instr.sameNow d (dZ a) (dZ b)=some (au a b)){v:V}(hv:aq v=some kk):
  ∀(ks:List V) (es:List MapEntry) (n:Nat),(∀k∈ks,aq k=some kk)->es.map (·.key)=ks.map dZ ->
   ∃r,Instr.findNow d (dZ v) es n=some r/\((r=none/\∀k∈ks,au v k=false)\/
    ∃i k e,r=some (n+i,e.val)/\ks[i]?=some k/\es[i]?=some e/\au v k=true/\∀j k',j<i->ks[j]?=some k'->au v k'=false)
 | [],[],n,_,_=>⟨none,rfl,.inl ⟨rfl,ζ⟩⟩
 | [],_::_,n,_,h=>by simp at h
 | _::_,[],n,_,h=>by simp at h
 | k::ks,e::es,n,hk,h=>by
  simp only[vW,List.cons.injEq]at h;obtain⟨h1,h2⟩:=h;have hn:=f v k hv (hk k ζ);rw[<-h1]at hn;cases hq:au v k
  .rw[hq]at hn;obtain⟨r,hr,g⟩:=find_now f hv ks es (n+1) (fun x hx=>hk x (by simp[hx])) h2;refine⟨r,by simp[Instr.findNow,hn,hr],?_⟩
   rcases g with⟨rfl,m⟩ | ⟨i,k',e',rfl,q1,q,p,s⟩
   .exact .inl ⟨rfl,fun x hx=>(List.mem_cons.1 hx).elim (fun e=>by rw[e];exact hq) (m x)⟩
   .refine .inr ⟨i+1,k',e',by rw[vU,yG 1 i],by simpa using q1,by simpa using q,p,fun j l o c=>?_⟩
    cases j with
    | zero=>simp at c;subst c;exact hq
    | succ j=>exact s j l ω (by simpa using c)
  .rw[hq]at hn;exact⟨some (n,e.val),by simp[Instr.findNow,hn],.inr ⟨0,k,e,rfl,rfl,rfl,hq,fun j _ o=>absurd o ω⟩⟩
def law_now{t:TypeId}{d:TypeDesc}{kk:KK}(hu:P.underlying t=some d)(c:∀a b,aq a=some kk->aq b=some kk->Instr.sameNow d (dZ a) (dZ b)=some (au a b))
  (f:∀(w:World) (em:Bool) (v:V),aq v=some kk->(Instr.checkKey em 10000 t (dZ v)).run P w = .ok () w):KLaw P t kk where
 check:=f
 find w v ks es hv hk h:=by
  obtain⟨r,hr,e⟩:=find_now c hv ks es 0 hk h;refine⟨r,by simp[Instr.findKey,run_underlying hu,hr],?_⟩;simpa using e
theorem ln(t:TypeId)(em:Bool)(v:Value):Instr.checkKey em 10000 t v=Instr.checkKey em (9999+1) t v:=rfl
def int_law{t:TypeId}{k:IntKind}(hu:P.underlying t=some (.int k)):KLaw P t (.int k):=by
 have shape:∀a,aq a=some (.int k)->∃n,a = .int k n:=fun a ha=>by
  cases a<;>simp only[aq]at ha<;>try (cases ha;done)
  .cases ha;exact⟨_,rfl⟩
  .split at ha<;>cases ha
 refine law_now hu (fun a b ha hb=>?_) (fun w em v hv=>?_)
 .obtain⟨n,rfl⟩:=shape a ha;obtain⟨m,rfl⟩:=shape b hb;simp[dZ,fF,Instr.sameNow,au]
 .obtain⟨n,rfl⟩:=shape v hv;rw[ln,Instr.checkKey];simp[run_underlying hu,dZ,fF]
def str_law{t:TypeId}(hu:P.underlying t=some .string):KLaw P t .str:=by
 have shape:∀a,aq a=some .str->∃n,a = .str n:=fun a ha=>by
  cases a<;>simp only[aq]at ha<;>try (cases ha;done)
  .exact⟨_,rfl⟩
  .split at ha<;>cases ha
 refine law_now hu (fun a b ha hb=>?_) (fun w em v hv=>?_)
 .obtain⟨n,rfl⟩:=shape a ha;obtain⟨m,rfl⟩:=shape b hb;simp[dZ,fF,Instr.sameNow,au]
 .obtain⟨n,rfl⟩:=shape v hv;rw[ln,Instr.checkKey];simp[run_underlying hu,dZ,fF]
def bool_law{t:TypeId}(hu:P.underlying t=some .bool):KLaw P t .bool:=by
 have shape:∀a,aq a=some .bool->∃n,a = .bool n:=fun a ha=>by
  cases a<;>simp only[aq]at ha<;>try (cases ha;done)
  .exact⟨_,rfl⟩
  .split at ha<;>cases ha
 refine law_now hu (fun a b ha hb=>?_) (fun w em v hv=>?_)
 .obtain⟨n,rfl⟩:=shape a ha;obtain⟨m,rfl⟩:=shape b hb;simp[dZ,fF,Instr.sameNow,au]
 .obtain⟨n,rfl⟩:=shape v hv;rw[ln,Instr.checkKey];simp[run_underlying hu,dZ,fF]
def tok_of{T:Ty}(h:∀t i,T t=some i->P.underlying t=some i.desc/\(P.info? t).map (fun j=>(j.size,j.bytes,j.zero))=some (i.size,i.bytes,some i.zval)/\kP i.zval=some i.zero/\i.zero.cells.length=i.size/\(∀kk,i.kk=some kk->KLaw P t kk)/\(i.eq=true->P.stoodInHeld t=false/\P.eqGuardType P.depth t=false)):TOk P T where
 key t i kk hi hk:=(h t i hi).2.2.2.2.1 kk hk
 eq t i hi he:=(h t i hi).2.2.2.2.2 he
 und t i hi:=(h t i hi).1
 info t i hi:=by
  obtain⟨_,h2,a,b,_⟩:=h t i hi
  cases hp:P.info? t with
  | none=>rw[hp]at h2;cases h2
  | some j =>
   rw[hp]at h2;simp only[uS,Option.some.injEq,Prod.mk.injEq]at h2;exact⟨j,rfl,h2.1,h2.2.1,h2.2.2,a,b⟩
end
end Go.AM
namespace Go.AM
open Go
def all_i64{cs:List V}(h:cs.all jk=true):∃a:List Int,cs=a.map (V.int .i64):=by
 induction cs with
 | nil=>exact⟨[],rfl⟩
 | cons c cs b =>
  simp only[vE,tt]at h;obtain⟨a,rfl⟩:=b h.2;cases c<;>simp only[jk,uM,false_and]at h;rename_i k n;cases k<;>simp only[uM,false_and]at h;exact⟨n::a,rfl⟩
theorem eqIs_ints:∀(a ms:List Int),ke (a.map (V.int .i64)) (ms.map (V.int .i64))=decide (a=ms)
 | [],[]=>by simp[ke]
 | [],_::_=>by simp[ke]
 | _::_,[]=>by simp[ke]
 | n::a,m::ms=>by
  simp only[vW,ke,eqIs_ints a ms,List.cons.injEq,Bool.decide_and];rfl
section
variable {P:Program}
def tX{v:V}{n:Nat}(h:aq v=some (.arr n)):∃a:List Int,v = .agg (a.map (V.int .i64))/\a.length=n:=by
 cases v<;>simp only[aq]at h<;>try (cases h;done)
 split at h
 .rename_i cs b;obtain⟨a,rfl⟩:=all_i64 b;cases h;exact⟨a,rfl,ζ⟩
 .cases h
theorem sR{b:Type}{w:World}{a:b->Unit->Sem (ForInStep Unit)} : ∀{l:List b},(∀x∈l,(a x ()).run P w = .ok (.yield ()) w)->(forIn l () a).run P w = .ok () w
 | [],_=>by simp
 | x::l,h=>by
  rw[List.forIn_cons];simp only[Sem.run_bind,h x ζ,Result.andThen_ok]
  exact sR fun y c=>h y (by simp[c])
def all_eq(a ms:List Int)(h:a.length=ms.length):((tr a.length).all fun i=>a[i]? == ms[i]?)=decide (a=ms):=by
 rw[vH,decide_eq_true_eq,uZ];constructor
 .intro b;apply uw;intro i;by_cases hi:i<a.length
  .simpa using b i (by simpa using hi)
  .rw[un ω,un ω]
 .rintro rfl i _;simp
def om(a:List Int):dZ (.agg (a.map (V.int .i64)))= .agg (a.map (Value.int .i64)).toArray:=by
 simp only[dZ,xH];congr 2
def arr_law{t e:TypeId}{n:Nat}(hu:P.underlying t=some (.array n e))(he:P.underlying e=some (.int .i64))(hi:(P.info? e).map (fun j=>(j.size,j.bytes,j.zero))=some (1,8,some (.int .i64 0))):KLaw P t (.arr n):=by
 have p:∀w:World,(sizeOf e).run P w = .ok 1 w:=fun w=>by
  cases hp:P.info? e with
  | none=>rw[hp]at hi;cases hi
  | some j =>
   rw[hp]at hi;simp only[uS,Option.some.injEq,Prod.mk.injEq]at hi;simp[sizeOf,run_typeInfo hp,hi.1]
 have q:∀w:World,(isAgg e).run P w = .ok false w:=fun w=>by simp[isAgg,run_underlying he]
 have g:∀(w:World) (a:List Int) (i:Nat) (h:i<a.length),(part e (a.map (Value.int .i64)).toArray i).run P w = .ok (.int .i64 a[i]) w:=fun w a i h=>by
  simp[part,q,h]
 have B:∀(w:World) (a ms:List Int),a.length=n->ms.length=n->(Op.equal t (.agg (a.map (Value.int .i64)).toArray) (.agg (ms.map (Value.int .i64)).toArray)).run P w = .ok (decide (a=ms)) w:=fun w a ms h1 h2=>by
  rw[lW,Op.equalIn];simp only[Sem.run_bind,run_underlying hu,Result.andThen_ok,p,Std.Legacy.Range.forIn_eq_forIn_range']
  have hr:List.range' 0 n 1=tr n:=by rw[List.range_eq_range']
  simp only[Std.Legacy.Range.size,xe,wH,Nat.div_one,hr];rw[nu (P:=P) (w:=w) (b:=decide (a=ms)) (bs:=(tr n).map fun i=>a[i]? == ms[i]?) ζ (fun i f c hf E z=>?_) (by rw[<-all_eq a ms ω,h1,List.all_map];rfl)]
  .cases decide (a=ms)<;>simp
  .have u:f=i/\i<n:=by
    have:=aB hf;simp at this;rw[vX this]at hf;exact⟨by simpa using hf.symm,this⟩
   obtain⟨rfl,I⟩:=u;simp only[uK,hf,uS,Option.some.injEq]at E;subst E;have q1:=g w a f ω;have y:=g w ms f ω;simp only[yE,Sem.run_bind,q1,y,Result.andThen_ok];rw[show(9999:Nat)=9998+1 from rfl,Op.equalIn];simp only[Sem.run_bind,run_underlying he,Result.andThen_ok,if_true,Sem.run_pure,tm (show f<a.length by omega),tm (show f<ms.length by omega)];cases hb:(a[f] == ms[f])<;>simp[hb]
 constructor
 .intro w em v hv;obtain⟨a,rfl,hl⟩:=tX hv;rw[om,ln,Instr.checkKey];simp only[Sem.run_bind,run_underlying hu,Result.andThen_ok,Std.Legacy.Range.forIn_eq_forIn_range']
  have hr:List.range' 0 n 1=tr n:=by rw[List.range_eq_range']
  simp only[Std.Legacy.Range.size,xe,wH,Nat.div_one,hr];refine(congrArg (fun r=>Result.andThen r _) (sR (P:=P) (w:=w) (fun i hi=>?_))).trans ?_
  .have q1:=g w a i (by simp at hi;omega);simp only[Sem.run_bind,p,Result.andThen_ok,yE,q1];rw[show(9999:Nat)=9998+1 from rfl,Instr.checkKey];simp[run_underlying he]
  .simp
 .intro w v ks es hv hk s;obtain⟨a,rfl,hl⟩:=tX hv;rw[om]
  have ask:∀(ks:List V) (es:List MapEntry) (m:Nat),(∀k∈ks,aq k=some (.arr n))->es.map (·.key)=ks.map dZ ->
    ∃r,(Instr.findAsking t (.agg (a.map (Value.int .i64)).toArray) es m).run P w = .ok r w/\((r=none/\∀k∈ks,au (.agg (a.map (V.int .i64))) k=false)\/
     ∃i k e,r=some (m+i,e.val)/\ks[i]?=some k/\es[i]?=some e/\au (.agg (a.map (V.int .i64))) k=true/\∀j k',j<i->ks[j]?=some k'->au (.agg (a.map (V.int .i64))) k'=false):=by
   intro ks
   induction ks with
   | nil=>intro es m _ h;simp at h;subst h;exact⟨none,by simp[Instr.findAsking],.inl ⟨rfl,ζ⟩⟩
   | cons k ks H =>
    intro es m hk h
    cases es with
    | nil=>simp at h
    | cons e es =>
     simp only[vW,List.cons.injEq]at h;obtain⟨ms,rfl,C⟩:=tX (hk k ζ);have hq:=B w a ms hl C;rw[om]at h
     have d:au (.agg (a.map (V.int .i64))) (.agg (ms.map (V.int .i64)))=decide (a=ms):=by simp only[au,eqIs_ints]
     cases hb:decide (a=ms)
     .rw[hb]at hq d;obtain⟨r,hr,o⟩:=H es (m+1) (fun x hx=>hk x (by simp[hx])) h.2;refine⟨r,by simp[Instr.findAsking,h.1,hq,hr],?_⟩
      rcases o with⟨rfl,D⟩ | ⟨i,k',e',rfl,q1,y,G,F⟩
      .exact .inl ⟨rfl,fun x hx=>(List.mem_cons.1 hx).elim (fun e=>by rw[e];exact d) (D x)⟩
      .refine .inr ⟨i+1,k',e',by rw[vU,yG 1 i],by simpa using q1,by simpa using y,G,fun j A z l=>?_⟩
       cases j with
       | zero=>simp at l;subst l;exact d
       | succ j=>exact F j A ω (by simpa using l)
     .rw[hb]at hq d;exact⟨some (m,e.val),by simp[Instr.findAsking,h.1,hq],.inr ⟨0,_,e,rfl,rfl,rfl,d,fun j _ z=>absurd z ω⟩⟩
  obtain⟨r,hr,o⟩:=ask ks es 0 hk s
  cases es with
  | nil =>
   cases ks with
   | cons k ks=>simp at s
   | nil=>exact⟨none,by simp[Instr.findKey,run_underlying hu,Instr.findNow],.inl ⟨rfl,ζ⟩⟩
  | cons e0 es =>
   refine⟨r,?_,by simpa using o⟩
   have:Instr.sameNow (.array n e) (.agg (a.map (Value.int .i64)).toArray) e0.key=none:=by
    simp[Instr.sameNow]
   simp[Instr.findKey,run_underlying hu,Instr.findNow,this,hr]
end
end Go.AM
namespace Go.AM
open Go
def aL(T:Ty)(S:Nat->Bool):Ty:=fun t=>(T t).map fun i=>{ i with pa:=S t }
def tok_flag{P:Program}{T:Ty}(h:TOk P T)(S:Nat->Bool):TOk P (aL T S):=by
 have get:∀t i,aL T S t=some i->∃a,T t=some a/\i = { a with pa:=S t }:=fun t i hi=>by
  unfold aL at hi
  cases b:T t with
  | none=>rw[b]at hi;cases hi
  | some a=>rw[b]at hi;simp at hi;exact⟨a,rfl,hi.symm⟩
 refine⟨fun t i hi he=>?_,fun t i kk hi hk=>?_,fun t i hi=>?_,fun t i hi=>?_⟩
 .obtain⟨a,h1,rfl⟩:=get t i hi;exact h.eq t a h1 he
 .obtain⟨a,h1,rfl⟩:=get t i hi;exact h.key t a kk h1 hk
 .obtain⟨a,h1,rfl⟩:=get t i hi;exact h.und t a h1
 .obtain⟨a,h1,rfl⟩:=get t i hi;exact h.info t a h1
def kkP(P:Program):TypeDesc->Option KK
 | .int k=>some (.int k)
 | .string=>some .str
 | .bool=>some .bool
 | .array n e=>match P.underlying e,(P.info? e).map (fun j=>(j.size,j.bytes,j.zero)) with
  | some (.int .i64),some (1,8,some (Value.int .i64 0))=>some (.arr n)
  | _,_=>none
 | _=>none
def mkTI(P:Program)(t:TypeId):Option TI :=
 match P.underlying t,P.info? t with
 | some d,some j=>match j.zero with
  | some a=>match kP a with
   | some z=>if z.cells.length=j.size then some ⟨d,j.size,j.bytes,z,a,kkP P d,cZ d&&!P.stoodInHeld t&&!P.eqGuardType P.depth t,false⟩ else none
   | none=>none
  | none=>none
 | _,_=>none
def kk_law{P:Program}{t:TypeId}{d:TypeDesc}(hu:P.underlying t=some d):∀kk,kkP P d=some kk->KLaw P t kk:=by
 intro kk h;unfold kkP at h;split at h
 .cases h;exact int_law hu
 .cases h;exact str_law hu
 .cases h;exact bool_law hu
 .split at h
  .rename_i h1 h2;cases h;exact arr_law hu h1 h2
  .cases h
 .cases h
def mk_ok{P:Program} : TOk P (mkTI P):=tok_of fun t i hi=>by
 unfold mkTI at hi;split at hi
 .rename_i d j hu a;split at hi
  .rename_i b hz;split at hi
   .rename_i z ho;split at hi
    .rename_i hl;cases hi;refine⟨hu,by rw[a,uS,hz],ho,hl,kk_law hu,fun h=>?_⟩;simp only[tt,uj]at h;exact⟨h.1.2,h.2⟩
    .cases hi
   .cases hi
  .cases hi
 .cases hi
end Go.AM
namespace Go.AM
open Go
def maskOf(done:List Nat)(es:List Edge):Nat:=es.foldl (fun m e=>if Region.binds .any e then m ||| 2^e.on ||| (done[e.on]?.getD 0) else m) 0
def aN(done:List Nat):List Oper->List Nat
 | []=>done
 | o::rest=>aN (done++[maskOf done o.after.toList]) rest
theorem jQ:∀(l:List Oper) (done:List Nat),∃m,aN done l=done++m/\m.length=l.length/\∀(k:Nat) o,l[k]?=some o->m[k]?=some (maskOf (done++m.take k) o.after.toList)
 | [],done=>⟨[],by simp[aN],rfl,ζ⟩
 | o::l,done=>by
  obtain⟨m,h1,h2,a⟩:=jQ l (done++[maskOf done o.after.toList]);refine⟨maskOf done o.after.toList::m,by simp[aN,h1],by simp[h2],fun k b hk=>?_⟩
  cases k with
  | zero=>simp at hk;subst hk;simp
  | succ k =>
   have:=a k b (by simpa using hk);simpa using this
theorem ru{done:List Nat}{i:Nat} : ∀(es:List Edge) (m0:Nat),(es.foldl (fun m e=>if Region.binds .any e then m ||| 2^e.on ||| (done[e.on]?.getD 0) else m) m0).testBit i=true ->
  m0.testBit i=true\/∃e∈es,Region.binds .any e=true/\(i=e.on\/(done[e.on]?.getD 0).testBit i=true)
 | [],m0,h=>.inl h
 | e::es,m0,h=>by
  rw[vy]at h
  rcases ru es _ h with h | ⟨e',h1,h2⟩
  .split at h
   .rename_i hb;rw[Nat.testBit_or,Nat.testBit_or,vA,vA]at h
    rcases h with(h | h) | h
    .exact .inl h
    .refine .inr ⟨e,ζ,hb,.inl ?_⟩;rw[xj]at h;simpa[eq_comm] using h
    .exact .inr ⟨e,ζ,hb,.inr h⟩
   .exact .inl h
  .exact .inr ⟨e',by simp[h1],h2⟩
def eg(ops:Array Oper)(D:Nat->Bool):Prop:=∀j o,ops[j]?=some o->D j=true->∀e∈o.after.toList,Region.binds .any e=true->D e.on=true
def pr{ops:Array Oper}{D:Nat->Bool}(s:eg ops D)(b:∀(j:Nat) (o:Oper),ops[j]?=some o->∀e∈o.after.toList,Region.binds .any e=true->e.on<j)(j:Nat):
  ∀i m,(aN [] ops.toList)[j]?=some m->m.testBit i=true->D j=true->D i=true:=by
 obtain⟨ms,h1,h2,n⟩:=jQ ops.toList [];rw[uL]at h1;rw[h1]
 induction j using xG with
 | _ j p =>
  intro i m hm hb l
  have r:j<ops.toList.length:=by have:=aB hm;omega
  have ho:ops.toList[j]?=some ops.toList[j]:=tm r;generalize ops.toList[j]=o at ho
  have f:ops[j]?=some o:=by simpa using ho
  have g:=n j o ho;rw[hm]at g;cases g
  rcases ru _ _ hb with h | ⟨e,he,a,h⟩
  .simp at h
  .have d:=b j o f e he a;have k:=s j o f l e he a
   rcases h with rfl | h
   .exact k
   .simp only[uL,uz,if_pos d]at h
    cases c:ms[e.on]? with
    | none=>rw[c]at h;simp at h
    | some q=>rw[c]at h;exact p e.on d i q c h k
def bn(ops:Array Oper)(fr:List V)(val:Nat->V)(D:Nat->Bool):Nat->Nat->Option V
 | 0,t=>fr[t]?
 | k+1,t=>if D k=true/\(ops[k]?).bind (·.dst)=some t/\t<fr.length then some (val k) else bn ops fr val D k t
theorem hY{ops:Array Oper}{fr:List V}{val:Nat->V}{D:Nat->Bool} : ∀(k t:Nat),(bn ops fr val D k t).isSome=decide (t<fr.length)
 | 0,t=>by
  simp only[bn];by_cases h:t<fr.length
  .simp[h]
  .simp[h]
 | k+1,t=>by
  simp only[bn];split
  .rename_i h;simp[h.2.2]
  .exact hY k t
def da{ops:Array Oper}{fr:List V}{val:Nat->V}{D:Nat->Bool}{i t:Nat}(h1:∀j,j<i->(ops[j]?).bind (·.dst)=some t->D j=true)(h2:∀j,i<=j->(ops[j]?).bind (·.dst)=some t->D j=false):
  ∀k,i<=k->bn ops fr val D k t=bn ops fr val (fun _=>true) i t:=by
 have d:∀k,k<=i->bn ops fr val D k t=bn ops fr val (fun _=>true) k t:=by
  intro k
  induction k with
  | zero=>intro _;rfl
  | succ k c =>
   intro hk;simp only[bn];rw[c ω];by_cases a:(ops[k]?).bind (·.dst)=some t
   .rw[h1 k ω a];simp
   .simp[a]
 intro k hk
 induction k with
 | zero =>
  obtain rfl:i=0:=by omega
  rfl
 | succ k c =>
  by_cases b:i=k+1
  .subst b;exact d _ (uA _)
  .simp only[bn];rw[if_neg,c ω];rintro⟨e,a,_⟩;rw[h2 k ω a]at e;cases e
def aZ(ops:Array Oper)(fr:List V)(val:Nat->V):Nat->List V
 | 0=>fr
 | k+1=>match ops[k]? with
  | some o=>bL (aZ ops fr val k) o.dst (val k)
  | none=>aZ ops fr val k
theorem kY{ops:Array Oper}{fr:List V}{val:Nat->V} : ∀k,(aZ ops fr val k).length=fr.length
 | 0=>rfl
 | k+1=>by
  simp only[aZ];split
  .rename_i o ho;cases a:o.dst<;>simp[bL,kY k]
  .exact kY k
theorem eV{ops:Array Oper}{fr:List V}{val:Nat->V} : ∀k t,(aZ ops fr val k)[t]?=bn ops fr val (fun _=>true) k t
 | 0,t=>rfl
 | k+1,t=>by
  have c:=eV (ops:=ops) (fr:=fr) (val:=val) k;have hl:=kY (ops:=ops) (fr:=fr) (val:=val) k;simp only[aZ,bn]
  cases ho:ops[k]? with
  | none=>simp[c t]
  | some o =>
   cases e:(o.dst:Option Nat) with
   | none=>simp[bL,e,c t]
   | some d =>
    simp only[bL,Option.bind_some,e,Option.some.injEq,true_and];by_cases b:d=t
    .subst b;by_cases a:d<fr.length
     .rw[uJ (by rw[hl];exact a)];simp[a]
     .rw[if_neg (by simp[a]),xI,if_pos rfl,if_neg (by rw[hl];exact a),<-c d,un (by rw[hl];exact Nat.le_of_not_lt a)]
    .rw[uH b,if_neg (by simp[b]),c t]
def dS(ops:Array Oper)(o:Oper):List Nat:=o.looksAt ops++o.dst.toList
def bef(ms:List Nat)(i j:Nat):Bool:=(ms[j]?.getD 0).testBit i
def qb:List Nat->Bool
 | []=>true
 | [_]=>true
 | a::b::r=>decide (a<b)&&qb (b::r)
def iQ(ops:Array Oper)(E:List Nat):Bool :=
 let ms:=aN [] ops.toList
 (qb E&&E.all fun e=>decide (e<ops.size))&&(tr ops.size).all fun j=>match ops[j]? with
  | none=>true
  | some a=>a.after.toList.all (fun e=>!Region.binds .any e||decide (e.on<j)) &&
   (dS ops a).all (fun t=>(tr ops.size).all fun i=>match ops[i]? with
    | none=>true
    | some b=>!(b.dst == some t)||i == j||(decide (i<j)&&bef ms i j)||(decide (j<i)&&bef ms j i)) &&
   (!E.contains j||(tr j).all fun i=>!E.contains i||bef ms i j)
def kL(ms E:List Nat)(i c:Nat):Bool:=(tr E.length).all fun k=>match E[k]? with
 | none=>true
 | some e=>if k<c then !bef ms i e else !bef ms e i
def gC(p:Nat->Prop):List Nat->Prop
 | []=>True
 | c::cs=>p c/\gC p cs
def runT(T:Ty)(ops:Array Oper)(E:List Nat):List Oper->Nat->List V->List B->List (V×List B)->Option (List V×List (List B)×List V)
 | [],_,fr,_,_=>some ([],[],fr)
 | o::a,i,fr,H,cv =>
  match bU ops fr o with
  | some false=>if E.contains i then none else match runT T ops E a (i+1) (bL fr o.dst (.tup [])) H cv with
   | some (vs,hs,f)=>some (.tup []::vs,hs,f)
   | none=>none
  | some true=>match bF o.op with
   | some _=>match cv with
    | (v,H')::cv'=>if E.contains i then
      (match runT T ops E a (i+1) (bL fr o.dst v) H' cv' with
      | some (vs,hs,f)=>some (v::vs,H'::hs,f)
      | none=>none)
     else(match runT T ops E a (i+1) (bL fr o.dst v) H cv' with
      | some (vs,hs,f)=>some (v::vs,hs,f)
      | none=>none)
    | []=>none
   | none=>match aop T o.op (aO fr) H with
    | some (v,H')=>if E.contains i then
      (match runT T ops E a (i+1) (bL fr o.dst v) H' cv with
      | some (vs,hs,f)=>some (v::vs,H'::hs,f)
      | none=>none)
     else(match runT T ops E a (i+1) (bL fr o.dst v) H cv with
      | some (vs,hs,f)=>some (v::vs,hs,f)
      | none=>none)
    | none=>none
  | none=>none
def dg(T:Ty)(ops:Array Oper)(C:V->List V->List B->(V->List B->Prop)->Prop)(ms E:List Nat)(Hs:Nat->List B):List Oper->Nat->List V->List V->Prop
 | [],_,_,_=>True
 | _::_,_,_,[]=>False
 | o::rest,i,fr,v::vs =>
  (match bU ops fr o with
   | some false=>v = .tup []/\E.contains i=false
   | some true=>match bF o.op with
    | some (f,args)=>if E.contains i then C (aO fr f) (args.map (aO fr)) (Hs (E.idxOf i)) (fun r H'=>r=v/\H'=Hs (E.idxOf i+1))
     else gC (fun c=>if kL ms E i c then C (aO fr f) (args.map (aO fr)) (Hs c) (fun r H'=>r=v/\H'=Hs c) else True) (tr (E.length+1))
    | none=>if E.contains i then aop T o.op (aO fr) (Hs (E.idxOf i))=some (v,Hs (E.idxOf i+1))
     else gC (fun c=>if kL ms E i c then aop T o.op (aO fr) (Hs c)=some (v,Hs c) else True) (tr (E.length+1))
   | none=>False)/\dg T ops C ms E Hs rest (i+1) (bL fr o.dst v) vs
def kz(T:Ty)(ops:Array Oper)(E:List Nat)(cv:List (V×List B))(C:V->List V->List B->(V->List B->Prop)->Prop)(K:List V->List B->Prop)(fr:List V)(H:List B):Prop :=
 match runT T ops E ops.toList 0 fr H cv with
 | none=>False
 | some (vs,hs,f)=>(iQ ops E=true/\hs.length=E.length)/\dg T ops C (aN [] ops.toList) E (fun c=>(H::hs)[c]?.getD []) ops.toList 0 fr vs/\K f ((H::hs)[E.length]?.getD [])
theorem fy:∀{E:List Nat},qb E=true->∀(k l a b:Nat),k<l->E[k]?=some a->E[l]?=some b->a<b
 | [],_,k,l,a,b,_,h,_=>by simp at h
 | [x],_,k,l,a,b,d,h1,h2=>by have:=aB h2;simp at this;omega
 | x::y::r,h,k,l,a,b,d,h1,h2=>by
  simp only[qb,tt,decide_eq_true_eq]at h
  cases l with
  | zero=>omega
  | succ l =>
   have c:(y::r)[l]?=some b:=by simpa using h2
   cases k with
   | zero =>
    simp at h1;subst h1
    cases l with
    | zero=>simp at c;omega
    | succ l=>have:=fy h.2 0 (l+1) y b ω rfl c;omega
   | succ k=>exact fy h.2 k l a b ω (by simpa using h1) c
def lr{T:Ty}{op:Go.Op}{ρ d:Operand->V}{H:List B}(h:∀x∈op.operands,ρ x=d x):aop T op ρ H=aop T op d H:=by
 have j:∀ps:Array (Nat×Operand),(∀x∈(ps.toList.map (·.2)).toArray,ρ x=d x)->(ps.toList.map fun p=>(p.1,ρ p.2))=(ps.toList.map fun p=>(p.1,d p.2)):=fun ps hp =>
  vY fun p hm=>by rw[hp p.2 (by simp only[List.mem_toArray,wc];exact⟨p,hm,rfl⟩)]
 cases op<;>simp only[Op.operands]at h<;>simp only[aop]
 case move x=>rw[h x ζ]
 case assign x=>rw[h x ζ]
 case box e x=>rw[h x ζ]
 case load t x=>rw[h x ζ]
 case nilCheck x=>rw[h x ζ]
 case unOp o t x=>rw[h x ζ]
 case convert a b x=>rw[h x ζ]
 case fieldAddr a x f=>rw[h x ζ]
 case field a x f=>rw[h x ζ]
 case extract x i=>rw[h x ζ]
 case pick c a b=>rw[h c ζ,h a ζ,h b ζ]
 case build t ps=>rw[j ps h]
 case buildSlice t l ps=>rw[j ps h]
 case store t a v=>rw[h a ζ,h v ζ]
 case binOp o t x y ty=>rw[h x ζ,h y ζ]
 case makeFunc fn first caps =>
  rw[vY (g:=d) (fun x hx=>h x (by simp;exact .inr (by simpa using hx)))]
 case makeSlice t l c=>rw[h l ζ,h c ζ]
 case slice t x lo hi mx =>
  have ho:∀y:Option Operand,(∀z∈y.toArray,ρ z=d z)->y.map ρ=y.map d:=fun y q=>by
   cases y with
   | none=>rfl
   | some z=>simp[q z ζ]
  rw[h x ζ,ho lo (fun z hz=>h z (by simp at hz ⊢;simp[hz])),ho hi (fun z hz=>h z (by simp at hz ⊢;simp[hz])),ho mx (fun z hz=>h z (by simp at hz ⊢;simp[hz]))]
 case indexAddr t x i=>rw[h x ζ,h i ζ]
 case index t x i=>rw[h x ζ,h i ζ]
 case lookup t x i c=>rw[h x ζ,h i ζ]
 case mapUpdate t m k v=>rw[h m ζ,h k ζ,h v ζ]
 case insert t m k v=>rw[h m ζ,h k ζ,h v ζ]
 case call c =>
  obtain⟨n,args,r⟩:=c;cases n<;>simp only;rw[vY (g:=d) (fun x hx=>h x (by simp[Call.operands];simpa using hx))]
end Go.AM
namespace Go.AM
open Go
section
variable {P:Program} {T:Ty}
def gw(T:Ty)(ops:Array Oper)(C:V->List V->List B->(V->List B->Prop)->Prop)(ms E:List Nat)(Hs:Nat->List B)(o:Oper)(i:Nat)(fr:List V)(v:V):Prop :=
 match bU ops fr o with
 | some false=>v = .tup []/\E.contains i=false
 | some true=>match bF o.op with
  | some (f,args)=>if E.contains i then C (aO fr f) (args.map (aO fr)) (Hs (E.idxOf i)) (fun r H'=>r=v/\H'=Hs (E.idxOf i+1))
   else gC (fun c=>if kL ms E i c then C (aO fr f) (args.map (aO fr)) (Hs c) (fun r H'=>r=v/\H'=Hs c) else True) (tr (E.length+1))
  | none=>if E.contains i then aop T o.op (aO fr) (Hs (E.idxOf i))=some (v,Hs (E.idxOf i+1))
   else gC (fun c=>if kL ms E i c then aop T o.op (aO fr) (Hs c)=some (v,Hs c) else True) (tr (E.length+1))
 | none=>False
theorem gA{p:Nat->Prop} : ∀{l:List Nat},gC p l->∀c∈l,p c
 | [],_,c,a=>by simp at a
 | x::l,h,c,a=>(List.mem_cons.1 a).elim (fun e=>e▸h.1) (gA h.2 c)
theorem obl_at{ops:Array Oper}{C:V->List V->List B->(V->List B->Prop)->Prop}{ms E:List Nat}{Hs:Nat->List B}{val:Nat->V}{fr0:List V} : ∀(l:List Oper) (i:Nat) (vs:List V),l=ops.toList.drop i->(∀k,k<vs.length->vs[k]?=some (val (i+k)))->
  dg T ops C ms E Hs l i (aZ ops fr0 val i) vs->∀j o,i<=j->ops[j]?=some o->gw T ops C ms E Hs o j (aZ ops fr0 val j) (val j)
 | [],i,vs,hl,_,_,j,o,c,ho=>by
  have h1:ops.toList.length<=i:=by have:=congrArg List.length hl;simp at this;simp;omega
  have h2:=(Array.getElem?_eq_some_iff.1 ho).1;simp at h1;omega
 | o'::rest,i,[],hl,_,h,j,o,c,ho=>by simp[dg]at h
 | o'::rest,i,v::vs,hl,hv,h,j,o,c,ho=>by
  have b:ops[i]?=some o':=by
   have:=congrArg (fun l=>l[0]?) hl;simp at this;exact this.symm
  have a:rest=ops.toList.drop (i+1):=by
   have:=congrArg List.tail hl;simpa using this
  have d:v=val i:=by have:=hv 0 ζ;simpa using this
  obtain⟨h1,h2⟩:=h;by_cases e:j=i
  .subst e;rw[b]at ho;cases ho;rw[<-d];exact h1
  .refine obl_at rest (i+1) vs a (fun k hk=>?_) ?_ j o ω ho
   .have:=hv (k+1) (by simpa using hk);rw[(ω:i+1+k=i+(k+1))];simpa using this
   .simp only[aZ,b,<-d];exact h2
def runT_cons{ops:Array Oper}{E:List Nat}{o:Oper}{c:List Oper}{i:Nat}{fr:List V}{H:List B}{cv:List (V×List B)}{vs:List V}{hs:List (List B)}{f:List V}(h:runT T ops E (o::c) i fr H cv=some (vs,hs,f)):
  ∃v H' e a b,runT T ops E c (i+1) (bL fr o.dst v) H' e=some (a,b,f)/\vs=v::a:=by
 simp only[runT]at h;split at h
 .split at h
  .cases h
  .split at h
   .rename_i a b d hr;cases h;exact⟨_,_,_,_,_,hr,rfl⟩
   .cases h
 .split at h
  .split at h
   .split at h
    .split at h
     .rename_i a b d hr;cases h;exact⟨_,_,_,_,_,hr,rfl⟩
     .cases h
    .split at h
     .rename_i a b d hr;cases h;exact⟨_,_,_,_,_,hr,rfl⟩
     .cases h
   .cases h
  .split at h
   .split at h
    .split at h
     .rename_i a b d hr;cases h;exact⟨_,_,_,_,_,hr,rfl⟩
     .cases h
    .split at h
     .rename_i a b d hr;cases h;exact⟨_,_,_,_,_,hr,rfl⟩
     .cases h
   .cases h
 .cases h
theorem runT_len{ops:Array Oper}{E:List Nat} : ∀{l:List Oper} {i:Nat} {fr:List V} {H:List B} {cv:List (V×List B)} {vs:List V} {hs:List (List B)} {f:List V},runT T ops E l i fr H cv=some (vs,hs,f)->vs.length=l.length
 | [],i,fr,H,cv,vs,hs,f,h=>by simp only[runT,Option.some.injEq,Prod.mk.injEq]at h;rw[<-h.1];rfl
 | o::rest,i,fr,H,cv,vs,hs,f,h=>by
  obtain⟨v,H',c,a,b,hr,rfl⟩:=runT_cons h;simp[runT_len hr]
theorem rT{ops:Array Oper}{E:List Nat}{val:Nat->V}{fr0:List V} : ∀(l:List Oper) (i:Nat) (fr:List V) (H:List B) (cv:List (V×List B)) (vs:List V) (hs:List (List B)) (f:List V),l=ops.toList.drop i->fr=aZ ops fr0 val i ->
  (∀k,k<vs.length->vs[k]?=some (val (i+k)))->runT T ops E l i fr H cv=some (vs,hs,f)->f=aZ ops fr0 val (i+l.length)
 | [],i,fr,H,cv,vs,hs,f,hl,a,_,h=>by
  simp only[runT,Option.some.injEq,Prod.mk.injEq]at h;rw[<-h.2.2];exact a
 | o::rest,i,fr,H,cv,vs,hs,f,hl,a,hv,h=>by
  have e:ops[i]?=some o:=by
   have:=congrArg (fun l=>l[0]?) hl;simp at this;exact this.symm
  have b:rest=ops.toList.drop (i+1):=by
   have:=congrArg List.tail hl;simpa using this
  obtain⟨v,H',g,d,c,hr,rfl⟩:=runT_cons h
  have j:v=val i:=by have:=hv 0 ζ;simpa using this
  have hf:=rT (val:=val) (fr0:=fr0) rest (i+1) (bL fr o.dst v) H' g d c f b (by simp only[aZ,e,a,j]) (fun k hk=>by
   have:=hv (k+1) (by simpa using hk);rw[(ω:i+1+k=i+(k+1))]
   simpa using this) hr
  rw[hf];congr 1;simp;omega
def dX(ops:Array Oper)(fr:List V)(val:Nat->V)(D:Nat->Bool):List V:=(tr fr.length).map fun t=>(bn ops fr val D ops.size t).getD .undef
def dR{ops:Array Oper}{fr:List V}{val:Nat->V}{D:Nat->Bool}(t:Nat):(dX ops fr val D)[t]?=bn ops fr val D ops.size t:=by
 have hs:=hY (ops:=ops) (fr:=fr) (val:=val) (D:=D) ops.size t;by_cases ht:t<fr.length
 .simp only[ht,decide_true]at hs;obtain⟨v,hv⟩:=Option.isSome_iff_exists.1 hs;simp[dX,ht,hv]
 .simp only[ht,decide_false]at hs;rw[un (by simp[dX];omega)]
  cases h:bn ops fr val D ops.size t with
  | none=>rfl
  | some v=>rw[h]at hs;cases hs
theorem eP{ops:Array Oper}{fr:List V}{val:Nat->V}{D b:Nat->Bool}{t:Nat}(h:∀j,(ops[j]?).bind (·.dst)=some t->D j=b j):∀k,bn ops fr val D k t=bn ops fr val b k t
 | 0=>rfl
 | k+1=>by
  simp only[bn];rw[eP h k];by_cases a:(ops[k]?).bind (·.dst)=some t
  .rw[h k a]
  .simp[a]
theorem kZ{p q:Nat->Bool}{i:Nat}(hp:p i=true)(hq:q i=false)(a:∀j,q j=true->p j=true):∀{l:List Nat},i∈l->(l.filter q).length<(l.filter p).length
 | [],h=>by simp at h
 | x::l,h=>by
  have le:∀l:List Nat,(l.filter q).length<=(l.filter p).length:=fun l=>by
   induction l with
   | nil=>simp
   | cons y l b =>
    simp only[vh];split
    .rename_i c;rw[if_pos (a y c)];simp;exact b
    .split
     .simp;omega
     .exact b
  simp only[vh]
  rcases List.mem_cons.1 h with rfl | h
  .rw[if_neg (by simp[hq]),if_pos hp];have:=le l;simp;omega
  .have:=kZ hp hq a h;split
   .rename_i hx;rw[if_pos (a x hx)];simp;exact this
   .split
    .simp;omega
    .exact this
def qA{fr a:List V}{x:Operand}(h:∀t,x = .tmp t->fr[t]?=a[t]?):aO fr x=aO a x:=by
 cases x with
 | tmp t=>simp only[aO];rw[h t rfl]
 | _=>rfl
def draw_sound(hT:TOk P T){ops:Array Oper}{E:List Nat}{val:Nat->V}{Hs:Nat->List B}{fr:List V}{s0:St}{Q:Exit->Act->World->Prop}(b4:GOk P s0)
  (b5:iQ ops E=true) (cm:∀i o,ops[i]?=some o->gw T ops (aM P) (aN [] ops.toList) E Hs o i (aZ ops fr val i) (val i))
  (hQ:∀s a,Good s->Step s0 s->FRel s (aZ ops fr val ops.size) a.tmps->a.defers=[]->s.H=Hs E.length->Q .normal a s.w):
  ∀(fuel:Nat) (b:Array Bool) (s:St) (a:Act) (c:Nat),b.size=ops.size->eg ops (fun i=>b.getD i false)->
   ((tr ops.size).filter fun i=>!(b.getD i false)).length<=fuel->c<=E.length->(∀k e,E[k]?=some e->(b.getD e false=true↔k<c))->
   Good s->Step s0 s->s.H=Hs c->FRel s (dX ops fr val fun i=>b.getD i false) a.tmps->a.defers=[]->wpAny P .any ops Q fuel b a s.w:=by
 simp only[iQ,tt,uZ,decide_eq_true_eq,vS]at b5;obtain⟨⟨R,hE⟩,a6⟩:=b5
 have ax:∀(j:Nat) (o:Oper),ops[j]?=some o->∀e∈o.after.toList,Region.binds .any e=true->e.on<j:=fun j o ho e he a8=>by
  have A:=(Array.getElem?_eq_some_iff.1 ho).1;have:=a6 j A;rw[ho]at this;simp only[tt,uZ]at this;have h1:=this.1.1 e he;rw[a8]at h1;simpa using h1
 have bb:∀(j i:Nat) (oj oi:Oper) (t:Nat),ops[j]?=some oj->ops[i]?=some oi->t∈dS ops oj->oi.dst=some t->i=j\/(i<j/\bef (aN [] ops.toList) i j=true)\/(j<i/\bef (aN [] ops.toList) j i=true):=fun j i oj oi t z b1 ht hd=>by
  have A:=(Array.getElem?_eq_some_iff.1 z).1;have hi:=(Array.getElem?_eq_some_iff.1 b1).1;have:=a6 j A;rw[z]at this;simp only[tt,uZ]at this;have h2:=this.1.2 t ht i (by simpa using hi);rw[b1]at h2;simp only[hd,vA,tt,decide_eq_true_eq,beq_iff_eq,uj,beq_eq_false_iff_ne,ne_eq,not_true_eq_false,false_or]at h2
  rcases h2 with(h | h) | h
  .exact .inl h
  .exact .inr (.inl h)
  .exact .inr (.inr h)
 have ca:∀i j,j∈E->i∈E->i<j->bef (aN [] ops.toList) i j=true:=fun i j A hi ci=>by
  have ce:=hE j A;have:=a6 j ce
  have z:ops[j]?=some ops[j]:=by simp[ce]
  rw[z]at this;simp only[tt,uZ]at this;have h2:=this.2;simp only[vA,uj,uZ,vS]at h2
  rcases h2 with h2 | h2
  .simp at h2;exact absurd A h2
  .rcases h2 i ci with h3 | h3
   .simp at h3;exact absurd hi h3
   .exact h3
 have aJ:∀(D:Nat->Bool),eg ops D->∀i j,j<ops.size->bef (aN [] ops.toList) i j=true->D j=true->D i=true:=fun D hD i j A hb bY=>by
  obtain⟨ms,h1,h2,_⟩:=jQ ops.toList [];rw[uL]at h1
  have ay:(aN [] ops.toList).length=ops.size:=by rw[h1,h2];simp
  have hm:(aN [] ops.toList)[j]?=some ((aN [] ops.toList)[j]'ω):=tm ω;unfold bef at hb;rw[hm]at hb;exact pr hD ax j i _ hm hb bY
 have b6:∀(b:Array Bool) (s:St) (a:Act) (c:Nat),(∀i,i<ops.size->b.getD i false=true)->c<=E.length->(∀k e,E[k]?=some e->(b.getD e false=true↔k<c))->Good s->Step s0 s->s.H=Hs c ->
   FRel s (dX ops fr val fun i=>b.getD i false) a.tmps->a.defers=[]->Q .normal a s.w:=fun b s a c hall hc F hg hs Z hf hd=>by
  have Y:c=E.length:=by
   rcases uP c E.length with h | h
   .have he:E[c]?=some E[c]:=tm h;have:=(F c _ he).1 (hall _ (hE _ (ti h)));omega
   .omega
  subst Y;refine hQ s a hg hs ?_ hd Z
  have:(dX ops fr val fun i=>b.getD i false)=aZ ops fr val ops.size:=by
   apply uw;intro t;rw[dR,eV];refine da (fun j A _=>hall j A) (fun j A n=>?_) ops.size (uA _);rw[ww A]at n;simp at n
  rwa [this]at hf
 have done:∀(b:Array Bool),b.size=ops.size->Region.ready .any ops b=[]->∀i,i<ops.size->b.getD i false=true:=fun b al hr i=>by
  induction i using xG with
  | _ i ih =>
   intro hi
   cases hD:b.getD i false with
   | true=>rfl
   | false =>
    exfalso
    have be:i∈Region.ready .any ops b:=by
     unfold Region.ready;rw[vR]
     have ho:ops[i]?=some ops[i]:=by simp[hi]
     have ad:i<b.size:=by omega
     refine⟨by simpa using hi,?_⟩;rw[ho];simp only[uS,wA,tt,uj];refine⟨by simp[xV,ad]at hD ⊢;exact hD,?_⟩;rw[xv];intro e he;by_cases a8:Region.binds .any e=true
     .have M:=ax i _ ho e (by simpa using he) a8;simp[ih e.on M ω]
     .simp[a8]
    rw[hr]at be;simp at be
 intro fuel
 induction fuel with
 | zero =>
  intro b s a c al aA cg hc F hg hs Z hf hd
  have hall:∀i,i<ops.size->b.getD i false=true:=fun i hi=>by
   cases hD:b.getD i false with
   | true=>rfl
   | false =>
    exfalso
    have:i∈(tr ops.size).filter fun i=>!(b.getD i false):=by rw[vR];exact⟨by simpa using hi,by simp only[hD];rfl⟩
    have h0:((tr ops.size).filter fun i=>!(b.getD i false))=[]:=vL ω;rw[h0]at this;simp at this
  refine⟨?_,b6 b s a c hall hc F hg hs Z hf hd⟩;unfold Region.ready;rw[List.filter_eq_nil_iff];intro i hi
  have ad:i<b.size:=by rw[al];simpa using hi
  have:=hall i (by simpa using hi)
  have h1:b.getD i true=true:=by simpa[xV,ad] using this
  simp[h1]
 | succ fuel ih =>
  intro b s a c al aA cg hc F hg hs Z hf hd;refine⟨fun hr=>b6 b s a c (done b al hr) hc F hg hs Z hf hd,fun i hi=>?_⟩;unfold Region.ready at hi;rw[vR]at hi;obtain⟨an,hcond⟩:=hi
  have an:i<ops.size:=by simpa using an
  have ad:i<b.size:=by omega
  have ho:ops[i]?=some ops[i]:=by simp[an]
  generalize ops[i]=o at ho;rw[ho]at hcond;simp only[uS,wA,tt,uj]at hcond;obtain⟨W,a2⟩:=hcond
  have W:b.getD i false=false:=by simp only[xV,ad,dif_pos]at W ⊢;exact W
  rw[xv]at a2
  have I:∀j,(b.setIfInBounds i true).getD j false=if j=i then true else b.getD j false:=fun j=>by
   by_cases A:j=i
   .subst A;simp[xV,ad]
   .rw[if_neg A,vg,vg,wW (Ne.symm A)]
  have L:eg ops (fun j=>(b.setIfInBounds i true).getD j false):=fun j oj z A e he hb=>by
   simp only[I]at A ⊢;by_cases J:j=i
   .subst J;rw[ho]at z;cases z;have:=a2 e (by simpa using he);rw[hb]at this;simp at this;split
    .rfl
    .simpa using this
   .rw[if_neg J]at A;split
    .rfl
    .exact aA j oj z A e he hb
  have before:∀j,j≠i->bef (aN [] ops.toList) j i=true->b.getD j false=true:=fun j J hb=>by
   have:=aJ _ L j i an hb (by simp[I]);simp only[I,if_neg J]at this;exact this
  have X:∀j,j<ops.size->bef (aN [] ops.toList) i j=true->b.getD j false=false:=fun j A hb=>by
   cases bY:b.getD j false with
   | false=>rfl
   | true=>have:=aJ _ aA i j A hb bY;rw[W]at this;cases this
  have U:∀t,t∈dS ops o->(∀j,j<i->(ops[j]?).bind (·.dst)=some t->b.getD j false=true)/\(∀j,i<j->(ops[j]?).bind (·.dst)=some t->b.getD j false=false):=fun t ht=>by
   refine⟨fun j A n=>?_,fun j A n=>?_⟩
   .cases z:ops[j]? with
    | none=>rw[z]at n;simp at n
    | some oj =>
     rw[z]at n
     rcases bb i j o oj t ho z ht (by simpa using n) with h | h | h
     .omega
     .exact before j ω h.2
     .omega
   .cases z:ops[j]? with
    | none=>rw[z]at n;simp at n
    | some oj =>
     rw[z]at n
     rcases bb i j o oj t ho z ht (by simpa using n) with h | h | h
     .omega
     .omega
     .exact X j (Array.getElem?_eq_some_iff.1 z).1 h.2
  have agree:∀t,t∈dS ops o->(dX ops fr val fun i=>b.getD i false)[t]?=(aZ ops fr val i)[t]?:=fun t ht=>by
   rw[dR,eV];refine da (U t ht).1 (fun j A n=>?_) ops.size ω;by_cases J:j=i
   .subst J;exact W
   .exact(U t ht).2 j ω n
  have a7:∀x∈o.op.operands,aO (dX ops fr val fun i=>b.getD i false) x=aO (aZ ops fr val i) x:=fun x hx=>by
   refine qA fun t e=>agree t ?_
   subst e;simp only[dS,Oper.looksAt,vG,List.mem_filterMap];exact .inl (.inl ⟨.tmp t,by simpa using hx,rfl⟩)
  have bz:bU ops (dX ops fr val fun i=>b.getD i false) o=bU ops (aZ ops fr val i) o:=by
   unfold bU
   cases ck:o.guard with
   | none=>rfl
   | some g =>
    obtain⟨j,want⟩:=g;simp only
    cases z:ops[j]? with
    | none=>rfl
    | some oj =>
     simp only
     cases az:oj.dst with
     | none=>rfl
     | some d =>
      simp only;rw[agree d (by simp[dS,Oper.looksAt,ck,z,az])]
  have next:∀{s1:St} {u:Value} {c':Nat},Good s1->Step s s1->Rel s1 (val i) u->c'<=E.length->s1.H=Hs c'->(∀k e,E[k]?=some e->((b.setIfInBounds i true).getD e false=true↔k<c'))->
    wpAny P .any ops Q fuel (b.setIfInBounds i true) (a.put o.dst u) s1.w:=fun {s1 u c'} g1 g2 g3 g4 g5 g6=>by
   refine ih _ s1 _ c' (by simp[al]) L ?_ g4 g6 g1 (hs.trans g2) g5 ?_ (by rw[mU];exact hd)
   .have:=kZ (p:=fun j=>!(b.getD j false)) (q:=fun j=>!((b.setIfInBounds i true).getD j false)) (i:=i) (by simp only[W];rfl) (by simp[I]) (fun j A=>by
     simp only[I]at A;split at A
     .simp at A
     .exact A) (l:=tr ops.size) (by simpa using an)
    omega
   .have b8:(dX ops fr val fun j=>(b.setIfInBounds i true).getD j false)=bL (dX ops fr val fun j=>b.getD j false) o.dst (val i):=by
     apply uw;intro t;rw[dR]
     cases n:(o.dst:Option Nat) with
     | none =>
      simp only[bL];rw[dR];refine eP (fun j A=>?_) _;simp only[I];split
      .rename_i J;subst J;rw[ho]at A;simp[n]at A
      .rfl
     | some d =>
      simp only[bL]
      have ay:(dX ops fr val fun j=>b.getD j false).length=fr.length:=by simp[dX]
      by_cases bx:d=t
      .subst bx;have hm:=U d (by simp[dS,n])
       have e1:=da (fr:=fr) (val:=val) (D:=fun j=>(b.setIfInBounds i true).getD j false) (i:=i+1) (t:=d) (fun j A az=>by
        simp only[I];split
        .rfl
        .exact hm.1 j ω az) (fun j A az=>by
        simp only[I];rw[if_neg ω]
        exact hm.2 j ω az) ops.size ω
       rw[e1];simp only[bn];by_cases M:d<fr.length
       .rw[if_pos ⟨trivial,by rw[ho];simpa using n,M⟩,uJ (by rw[ay];exact M)]
       .rw[if_neg (by simp[M]),xI,if_pos rfl,if_neg (by rw[ay];exact M)];have:=hY (ops:=ops) (fr:=fr) (val:=val) (D:=fun _=>true) i d
        cases h:bn ops fr val (fun _=>true) i d with
        | none=>rfl
        | some v=>rw[h]at this;simp[M]at this
      .rw[uH bx,dR];refine eP (fun j A=>?_) _;simp only[I];split
       .rename_i J;subst J;rw[ho]at A;simp[n]at A;exact absurd A bx
       .rfl
    rw[b8];exact(hf.step g2).put g3 o.dst
  have N:i∉E->∀k e,E[k]?=some e->((b.setIfInBounds i true).getD e false=true↔k<c):=fun y k e he=>by
   rw[I,if_neg (fun h:e=i=>y (by rw[<-h];exact tn he))];exact F k e he
  have bi:i∉E->kL (aN [] ops.toList) E i c=true:=fun y=>by
   simp only[kL,uZ,vS];intro k hk;have he:E[k]?=some E[k]:=tm hk;rw[he];simp only;split
   .rename_i bv;have hD:=(F k _ he).2 bv
    cases hb:bef (aN [] ops.toList) i E[k] with
    | false=>rfl
    | true=>have:=X _ (hE _ (ti hk)) hb;rw[hD]at this;cases this
   .rename_i bv
    cases hb:bef (aN [] ops.toList) E[k] i with
    | false=>rfl
    | true =>
     have:=before _ (fun h=>y (h▸ti hk)) hb;exact absurd ((F k _ he).1 this) bv
  have b7:i∈E->E.idxOf i=c/\(∀k' e,E[k']?=some e->((b.setIfInBounds i true).getD e false=true↔k'<c+1))/\c+1<=E.length:=fun y=>by
   obtain⟨k,hk⟩:=wJ y;have ct:=aB hk
   have O:E.idxOf i=k:=by
    have h1:=List.idxOf_lt_length_of_mem y
    have h2:E[E.idxOf i]?=some i:=by rw[tm h1];simp
    rcases ve (E.idxOf i) k with h | h | h
    .have:=fy R _ _ _ _ h h2 hk;omega
    .exact h
    .have:=fy R _ _ _ _ h hk h2;omega
   have cj:c=k:=by
    have h1:¬k<c:=fun h=>by have:=(F k i hk).2 h;rw[W]at this;cases this
    rcases uP c k with h | h
    .have he:E[c]?=some (E[c]'ω):=tm ω;have M:=fy R _ _ _ _ h he hk;have hb:=ca _ _ y (ti ω) M;have:=(F c _ he).1 (before _ ω hb);omega
    .omega
   have G:∀k' e,E[k']?=some e->((b.setIfInBounds i true).getD e false=true↔k'<c+1):=fun k' e he=>by
    rw[I];by_cases br:e=i
    .subst br
     have:k'=k:=by
      rcases ve k' k with h | h | h
      .have:=fy R _ _ _ _ h he hk;omega
      .exact h
      .have:=fy R _ _ _ _ h hk he;omega
     simp;omega
    .rw[if_neg br,F k' e he];constructor
     .omega
     .intro h
      rcases uP k' c with h' | h'
      .exact h'
      .exfalso
       have b3:k'=k:=by omega
       subst b3;rw[hk]at he;cases he;exact br rfl
   exact⟨by rw[O,cj],G,ω⟩
  have m:=cm i o ho;unfold gw at m;rw[<-bz]at m;unfold wpOp;rw[ho];simp only;split at m
  ·
   rename_i hw;rw[ej hf hw];simp only[uM,if_false]
   have y:i∉E:=by simpa using m.2
   exact next hg (Step.refl s) (by rw[m.1];exact .tup [] #[] rfl ζ) hc Z (N y)
  .rename_i hw;rw[ej hf hw];simp only[if_true];left;split at m
   ·
    rename_i f args C
    have ba:f∈o.op.operands/\∀x∈args,x∈o.op.operands:=by
     unfold bF at C;split at C
     .rename_i cc cp;split at C
      .rename_i f' b2;cases C;rw[cp];simp only[Op.operands,Call.operands,b2];exact⟨ζ,fun x hx=>by simp;exact .inr (by simpa using hx)⟩
      .cases C
     .cases C
    have cb:aO (aZ ops fr val i) f=aO (dX ops fr val fun i=>b.getD i false) f:=(a7 f ba.1).symm
    have b9:args.map (aO (aZ ops fr val i))=args.map (aO (dX ops fr val fun i=>b.getD i false)):=vY fun x hx=>(a7 x (ba.2 x hx)).symm
    split at m
    .rename_i S
     have y:i∈E:=by simpa using S
     obtain⟨O,G,Y⟩:=b7 y;have K:=m;rw[O,<-Z]at K;rw[cb,b9]at K;refine gq C (b4.step hs) hg hf K (fun u s1 r g1 g2 g3 g4=>?_);obtain⟨rfl,g5⟩:=g4;exact next g1 g2 g3 Y g5 G
    .rename_i S
     have y:i∉E:=by simpa using S
     have K:=gA m c χ;rw[if_pos (bi y),<-Z]at K;rw[cb,b9]at K;refine gq C (b4.step hs) hg hf K (fun u s1 r g1 g2 g3 g4=>?_);obtain⟨rfl,g5⟩:=g4;exact next g1 g2 g3 hc (g5.trans Z) (N y)
   .split at m
    ·
     rename_i S
     have y:i∈E:=by simpa using S
     obtain⟨O,G,Y⟩:=b7 y;rw[O,<-lr (ρ:=aO (dX ops fr val fun i=>b.getD i false)) a7,<-Z]at m;obtain⟨nx,s1,k1,k2,k3,k4,k5⟩:=jD (P:=P) hT hg (fun x=>hf.eval x) m;unfold Oper.wp;rw[k1]
     rcases k5 with⟨u,rfl,hr⟩ | ⟨rfl,hv⟩
     .rw[Oper.upon_value];exact next k3 k4 hr Y k2 G
     .rw[Oper.upon_skip];exact next k3 k4 (by rw[hv];exact .tup [] #[] rfl ζ) Y k2 G
    .rename_i S
     have y:i∉E:=by simpa using S
     have K:=gA m c χ;rw[if_pos (bi y),<-lr (ρ:=aO (dX ops fr val fun i=>b.getD i false)) a7,<-Z]at K;obtain⟨nx,s1,k1,k2,k3,k4,k5⟩:=jD (P:=P) hT hg (fun x=>hf.eval x) K;unfold Oper.wp;rw[k1]
     rcases k5 with⟨u,rfl,hr⟩ | ⟨rfl,hv⟩
     .rw[Oper.upon_value];exact next k3 k4 hr hc (k2.trans Z) (N y)
     .rw[Oper.upon_skip];exact next k3 k4 (by rw[hv];exact .tup [] #[] rfl ζ) hc (k2.trans Z) (N y)
  .exact m.elim
def draw_any(y:TOk P T){ops:Array Oper}{Q:Exit->List V->List B->Prop}{fr:List V}{H:List B}(E:List Nat)(cv:List (V×List B))
  (h:∀(C:V->List V->List B->(V->List B->Prop)->Prop) (K:List V->List B->Prop),(∀v args H K',aM P v args H K'->C v args H K')->(∀fr H,Q .normal fr H->K fr H)->kz T ops E cv C K fr H) (s:St) (a:Act) (D:At P s H) (F:Good s) (hf:FRel s fr a.tmps) (L:a.defers=[]):
  wpAny P .any ops (ta s Q) ops.size (xW ops.size false) a { s.w with drawn:=s.w.drawn+1 }:=by
 obtain⟨rfl,u⟩:=D;have d:=h (aM P) (Q .normal) (fun _ _ _ _ h=>h) (fun _ _ h=>h);unfold kz at d;split at d
 .exact d.elim
 .rename_i vs hs f g;obtain⟨⟨q,x⟩,m,z⟩:=d
  let val:Nat->V:=fun i=>(vs[i]?).getD .undef
  have I:=runT_len g
  have hval:∀k,k<vs.length->vs[k]?=some (val (0+k)):=fun k hk=>by simp[val,hk]
  have r:=obl_at (fr0:=fr) (val:=val) ops.toList 0 vs ζ hval m;have l:=rT (fr0:=fr) (val:=val) ops.toList 0 fr s.H cv vs hs f ζ rfl hval g
  have l:f=aZ ops fr val ops.size:=by simpa using l
  obtain⟨d1,d2⟩:=ig F (w:={ s.w with drawn:=s.w.drawn+1 }) rfl rfl rfl (uA _) (fun _ _=>rfl)
  have b:∀j,(xW ops.size false).getD j false=false:=fun j=>by
   rw[vg,Array.getElem?_replicate];split<;>rfl
  have n:dX ops fr val (fun i=>(xW ops.size false).getD i false)=fr:=by
   apply uw;intro t;rw[dR];exact da (i:=0) (fun j p=>absurd p ω) (fun j _ _=>b j) ops.size (wV _)
  refine draw_sound y u (s0:=s) (E:=E) (Hs:=fun c=>((s.H::hs)[c]?).getD []) q (fun i o ho=>r i o (wV _) ho) (fun s' N k1 A G M J=>?_) ops.size _ (s.at _) a 0 ζ (fun j o _ p=>by simp only[b]at p;cases p) ?_ (wV _) (fun k e _=>by rw[b];simp) d1 d2 rfl (by rw[n];exact hf.step d2) L
  .exact⟨f,s',rfl,k1,A,by rw[l];exact G,M,by rw[J];exact z⟩
  .exact ug (uU _ _) ζ
def W_draw(e:TOk P T)(hm:P.follows .mixedOrders=true){id:Nat}{ops:Array Oper}{Q:Exit->List V->List B->Prop}{fr:List V}{H:List B}(E:List Nat)(cv:List (V×List B))
  (h:∀(C:V->List V->List B->(V->List B->Prop)->Prop) (K:List V->List B->Prop),(∀b args H K',aM P b args H K'->C b args H K')->(∀fr H,Q .normal fr H->K fr H)->kz T ops E cv C K fr H):W P (.region id ops true) Q fr H :=
 fun s a f c hf d=>wp_region_any hm (draw_any e E cv h s a f c hf d)
end
end Go.AM
namespace Go.AM
open Go
def pf(T:Ty)(ops:Array Oper)(C:V->List V->List B->(V->List B->Prop)->Prop)(K:List V->List B->Prop):List Oper->List V->List B->List V->Prop
 | [],fr,H,_=>K fr H
 | o::rest,fr,H,cv =>
  match bU ops fr o with
  | some true=>match bF o.op with
   | some (f,args)=>match cv with
    | v::cv'=>C (aO fr f) (args.map (aO fr)) H (fun r H'=>r=v/\H'=H)/\pf T ops C K rest (bL fr o.dst v) H cv'
    | []=>False
   | none=>match aop T o.op (aO fr) H with
    | some (v,H')=>H'=H/\pf T ops C K rest (bL fr o.dst v) H cv
    | none=>False
  | some false=>pf T ops C K rest (bL fr o.dst (.tup [])) H cv
  | none=>False
section
variable {P:Program} {T:Ty}
theorem qi(ms:List Nat)(i c:Nat):kL ms [] i c=true:=rfl
theorem lI{ops:Array Oper}{C:V->List V->List B->(V->List B->Prop)->Prop}{K:List V->List B->Prop}{ms:List Nat}{H:List B} : ∀(l:List Oper) (i:Nat) (fr:List V) (cv:List V),pf T ops C K l fr H cv ->
  ∃vs f,vs.length=l.length/\dg T ops C ms [] (fun _=>H) l i fr vs/\runT T ops [] l i fr H (cv.map fun v=>(v,[]))=some (vs,[],f)/\K f H
 | [],i,fr,cv,h=>⟨[],fr,rfl,trivial,rfl,h⟩
 | o::rest,i,fr,cv,h=>by
  simp only[pf]at h;split at h
  .rename_i a;split at h
   .rename_i f args b;split at h
    .rename_i v k;obtain⟨h1,h2⟩:=h;obtain⟨vs,j,k1,d,c,g⟩:=lI rest (i+1) _ k h2;exact⟨v::vs,j,by simp[k1],⟨by simp only[a,b];simpa[gC,qi,ue] using h1,d⟩,by simp[runT,a,b,c],g⟩
    .exact h.elim
   .rename_i b;split at h
    .rename_i v H' e;obtain⟨rfl,h2⟩:=h;obtain⟨vs,j,k1,d,c,g⟩:=lI rest (i+1) _ cv h2;exact⟨v::vs,j,by simp[k1],⟨by simp only[a,b];simpa[gC,qi,ue] using e,d⟩,by simp[runT,a,b,e,c],g⟩
    .exact h.elim
  .rename_i a;obtain⟨vs,j,k1,d,c,g⟩:=lI rest (i+1) _ cv h;exact⟨.tup []::vs,j,by simp[k1],⟨by simp[a],d⟩,by simp[runT,a,c],g⟩
  .exact h.elim
def quiet_ob{ops:Array Oper}{C:V->List V->List B->(V->List B->Prop)->Prop}{K:List V->List B->Prop}{fr:List V}{H:List B}(cv:List V)(d:iQ ops []=true)(h:pf T ops C K ops.toList fr H cv):kz T ops [] (cv.map fun v=>(v,[])) C K fr H:=by
 obtain⟨vs,f,k1,k,j,m⟩:=lI (ms:=aN [] ops.toList) ops.toList 0 fr cv h;unfold kz;rw[j];refine⟨⟨d,rfl⟩,?_,by simpa using m⟩;have:(fun c=>(([H]:List (List B))[c]?).getD []) 0=H:=rfl;exact obl_heap ops.toList 0 fr vs k
where
 obl_heap {ops:Array Oper} {C:V->List V->List B->(V->List B->Prop)->Prop} {ms:List Nat} {H:List B} : ∀(l:List Oper) (i:Nat) (fr vs:List V),dg T ops C ms [] (fun _=>H) l i fr vs->dg T ops C ms [] (fun c=>(([H]:List (List B))[c]?).getD []) l i fr vs
  | [],_,_,_,_=>trivial
  | _::_,_,_,[],h=>h
  | o::a,i,fr,v::vs,h=>by
   obtain⟨h1,h2⟩:=h;refine⟨?_,obl_heap a (i+1) _ vs h2⟩
   cases g:bU ops fr o with
   | none=>rw[g]at h1;exact h1
   | some b =>
    rw[g]at h1;cases b
    .exact h1
    .simp only at h1 ⊢
     cases e:bF o.op with
     | none=>rw[e]at h1;simpa[gC,qi,ue] using h1
     | some p =>
      obtain⟨f,args⟩:=p;rw[e]at h1;simpa[gC,qi,ue] using h1
def W_quiet(d:TOk P T)(hm:P.follows .mixedOrders=true){id:Nat}{ops:Array Oper}{Q:Exit->List V->List B->Prop}{fr:List V}{H:List B}(cv:List V)(a:iQ ops []=true)
  (h:∀(C:V->List V->List B->(V->List B->Prop)->Prop) (K:List V->List B->Prop),(∀b args H K',aM P b args H K'->C b args H K')->(∀fr H,Q .normal fr H->K fr H)->pf T ops C K ops.toList fr H cv):W P (.region id ops true) Q fr H :=
 W_draw d hm [] (cv.map fun v=>(v,[])) fun C K e c=>quiet_ob cv a (h C K e c)
end
@[simp] theorem nilCmp_tmp (T:Ty) (t:TypeId) (op:BinOp) (x v:V) (n:Nat):dN T t op x v (.tmp n)=none:=rfl
@[simp] theorem nilCmp_int (T:Ty) (t:TypeId) (op:BinOp) (x v:V) (k:IntKind) (n:Int):dN T t op x v (.const (.int k n))=none:=rfl
@[simp] theorem nilCmp_str (T:Ty) (t:TypeId) (op:BinOp) (x v:V) (s:ByteArray):dN T t op x v (.const (.string s))=none:=rfl
@[simp] theorem nilCmp_bool (T:Ty) (t:TypeId) (op:BinOp) (x v:V) (b:Bool):dN T t op x v (.const (.bool b))=none:=rfl
@[simp] theorem nilCmp_slc (T:Ty) (t:TypeId) (op:BinOp) (x v:V) (a:Option Addr) (l c:Nat):dN T t op x v (.const (.slice a l c))=none:=rfl
@[simp] theorem nilCmp_ptr (T:Ty) (t:TypeId) (op:BinOp) (x v:V) (a:Option Addr):dN T t op x v (.const (.pointer a))=none:=rfl
@[simp] theorem nilCmp_map (T:Ty) (t:TypeId) (op:BinOp) (x v:V) (a:Option Nat):dN T t op x v (.const (.map a))=none:=rfl
@[simp] theorem nilCmp_fn (T:Ty) (t:TypeId) (op:BinOp) (x v:V):dN T t op x v (.const .nilFunc)=none:=rfl
@[simp] theorem nilCmp_agg (T:Ty) (t:TypeId) (op:BinOp) (x v:V) (cs:Array Value):dN T t op x v (.const (.agg cs))=none:=rfl
@[simp] theorem nilCmp_glb (T:Ty) (t:TypeId) (op:BinOp) (x v:V) (g:Nat):dN T t op x v (.global g)=none:=rfl
@[simp] theorem nilCmp_func (T:Ty) (t:TypeId) (op:BinOp) (x v:V) (f:FuncId):dN T t op x v (.func f)=none:=rfl
@[simp] theorem nilCmp_nil (T:Ty) (t:TypeId) (op:BinOp) (x v:V):dN T t op x v (.const .nilIface)=match T t with
  | some i=>match i.desc with
   | .interface _=>match op,x,v with
    | .eql,.nilI,.nilI=>some true
    | .eql,.ifc,.nilI=>some false
    | .neq,.nilI,.nilI=>some false
    | .neq,.ifc,.nilI=>some true
    | _,_,_=>none
   | _=>none
  | none=>none:=rfl
attribute [simp] jy pf bU bF aop aO bL boxA allocA V.cells V.one kP ro kO jU fieldA sA jw cZ binTA binA eqA unA convA oU clearA lenA kW foldA max2A min2A jS indexA oA sliceA bq makeA sH rD srcA srcT buildA lJ nz bf iM rd storeA lL ry kkOf qm okRes cd au ke aq jk gY putA dJ nN pm retQ
@[simp ↓] theorem thenQ_normal (N:List V->List B->Prop) (Q:Exit->List V->List B->Prop) (fr:List V) (H:List B):mG N Q .normal fr H↔N fr H:=⟨fun h=>h,fun h=>h⟩
@[simp ↓] theorem thenQ_ret (N:List V->List B->Prop) (Q:Exit->List V->List B->Prop) (fr:List V) (H:List B):mG N Q .ret fr H↔Q .ret fr H:=⟨fun h=>h,fun h=>h⟩
@[simp ↓] theorem thenQ_exit (N:List V->List B->Prop) (Q:Exit->List V->List B->Prop) (i:Nat) (fr:List V) (H:List B):mG N Q (.exit i) fr H↔Q (.exit i) fr H:=⟨fun h=>h,fun h=>h⟩
@[simp ↓] theorem blockQ_normal (id:Nat) (Q:Exit->List V->List B->Prop) (fr:List V) (H:List B):iW id Q .normal fr H↔Q .normal fr H:=⟨fun h=>h,fun h=>h⟩
@[simp ↓] theorem blockQ_ret (id:Nat) (Q:Exit->List V->List B->Prop) (fr:List V) (H:List B):iW id Q .ret fr H↔Q .ret fr H:=⟨fun h=>h,fun h=>h⟩
@[simp ↓] theorem blockQ_same (id:Nat) (Q:Exit->List V->List B->Prop) (fr:List V) (H:List B):iW id Q (.exit id) fr H↔Q .normal fr H:=by unfold iW;simp only[if_true]
@[simp ↓] theorem blockQ_other (id j:Nat) (h:¬j=id) (Q:Exit->List V->List B->Prop) (fr:List V) (H:List B):iW id Q (.exit j) fr H↔Q (.exit j) fr H:=by unfold iW;simp only[if_neg h]
end Go.AM
namespace Go.AM
open Go
def nB:List V->List V->Prop
 | [],[]=>True
 | x::xs,y::ys=>(x = .undef\/x=y)/\nB xs ys
 | _,_=>False
theorem nB.len:∀{xs ys:List V},nB xs ys->xs.length=ys.length
 | [],[],_=>rfl
 | [],_::_,h=>h.elim
 | _::_,[],h=>h.elim
 | _::_,_::_,h=>by simp[h.2.len]
theorem nB.at_:∀{xs ys:List V},nB xs ys->∀(i:Nat) x y,xs[i]?=some x->ys[i]?=some y->x = .undef\/x=y
 | [],_,_,i,x,y,h,_=>by simp at h
 | _::_,[],h,_,_,_,_,_=>h.elim
 | a::xs,b::ys,h,0,x,y,h1,h2=>by simp at h1 h2;subst h1;subst h2;exact h.1
 | a::xs,b::ys,h,i+1,x,y,h1,h2=>h.2.at_ i x y (by simpa using h1) (by simpa using h2)
def rb1(n:Nat):V->Prop
 | .buf k _ _ _ | .ptr k _ | .pbuf k _ _ _ | .map k | .sarr k _=>k<n
 | .lst _ _ xs=>∀x∈xs,Pure x
 | .pin cs _=>∀c∈cs,Pure c
 | .agg _ | .tup _ | .undef=>False
 | .fn _ caps=>caps=[]
 | _=>True
def rb(n:Nat):V->Prop
 | .agg cs=>∀c∈cs,rb1 n c
 | .tup vs=>∀c∈vs,rb1 n c
 | .fn _ caps=>∀c∈caps,rb1 n c
 | .undef=>True
 | v=>rb1 n v
def rbB(n:Nat):B->Prop
 | .cells cs=>∀c∈cs,rb n c
 | .map _ es=>∀p∈es,rb n p.1/\rb n p.2
 | .buf _ _ xs _=>∀x∈xs,∀c∈x.cells,rb n c
section
variable {P:Program} {T:Ty} {s:St}
def St.cut(s:St)(H:List B):St:={ s with H:=H }
def jX{H G:List B}(a:s.H=H++G){k:Nat}(h:Lv (s.cut H) k):Lv s k:=by
 have hk:k<H.length:=h.1;exact⟨by rw[a];simp;omega,fun e z xs fz hb=>h.2 e z xs fz (by rw[a,tu hk]at hb;exact hb)⟩
def iy{H G:List B}(c:s.H=H++G){b:Nat}(hp:s.Prot b):(s.cut H).Prot b:=by
 refine⟨hp.1,hp.2.1,fun k hk e=>?_⟩;have a:k<H.length:=hk.1;obtain⟨d,z,xs,h⟩:=hp.2.2 k (jX c hk) e;rw[c,tu a]at h;exact⟨d,z,xs,h⟩
def eA{H G:List B}(j:s.H=H++G){v:V}{u:Value}(h:Rel s v u)(hv:rb1 H.length v):Rel (s.cut H) v u:=by
 have get:∀k bl,k<H.length->s.H[k]?=some bl->(s.cut H).H[k]?=some bl:=fun k bl hk hb=>by rw[j,tu hk]at hb;exact hb
 have g:∀b,s.Prot b->(s.cut H).Prot b/\(s.cut H).w.heap[b]?=s.w.heap[b]?:=fun b hb=>⟨iy j hb,rfl⟩
 cases h with
 | undef u=>cases hv
 | bool b=>exact .bool b
 | int k n=>exact .int k n
 | str x=>exact .str x
 | nilS=>exact .nilS
 | lst z full xs A cap b off u a1 d a3 a4 a5 q=>exact(Rel.lst z full xs A cap b off u a1 d a3 a4 a5 q).pure_ (.lst _ _ _ hv) g
 | buf k off len tot e z xs fz A l c hk ht a=>exact .buf k off len tot e z xs fz A l c (get k _ hv hk) ht a
 | nilP=>exact .nilP
 | ptr k off cs hk=>exact .ptr (s:=s.cut H) k off cs (get k _ hv hk)
 | pin cs off b o u a1 d a3 a4=>exact(Rel.pin cs off b o u a1 d a3 a4).pure_ (.pin _ _ hv) g
 | pbuf k i off tot e z xs fz p hk ht a=>exact .pbuf k i off tot e z xs fz p (get k _ hv hk) ht a
 | sarr k n cs hk=>exact .sarr (s:=s.cut H) k n cs (get k _ hv hk)
 | nilM=>exact .nilM
 | map k kk es hk=>exact .map (s:=s.cut H) k kk es (get k _ hv hk)
 | fn f caps us hl a=>simp only[rb1]at hv;subst hv;exact .fn f [] us hl (fun i c u m=>by simp at m)
 | nilFn=>exact .nilFn
 | nilI=>exact .nilI
 | ifc t x=>exact .ifc t x
 | agg cs us hl h1 a=>cases hv
 | tup vs us hl a=>cases hv
def lZ{H G:List B}(d:s.H=H++G){v:V}{u:Value}(h:Rel s v u)(hv:rb H.length v):Rel (s.cut H) v u:=by
 cases h with
 | undef u=>exact .undef u
 | agg cs us hl h1 g=>exact .agg cs us hl h1 (fun i c u a b=>eA d (g i c u a b) (hv c (tn a)))
 | tup vs us hl g=>exact .tup vs us hl (fun i c u a b=>eA d (g i c u a b) (hv c (tn a)))
 | fn f caps us hl g=>exact .fn f caps us hl (fun i c u a b=>eA d (g i c u a b) (hv c (tn a)))
 | bool b=>exact .bool b
 | int k n=>exact .int k n
 | str x=>exact .str x
 | nilS=>exact .nilS
 | lst z full xs A cap b off u a1 j a3 a4 a5 m=>exact eA d (.lst z full xs A cap b off u a1 j a3 a4 a5 m) hv
 | buf k off len tot e z xs fz A l c hk ht g=>exact eA d (.buf k off len tot e z xs fz A l c hk ht g) hv
 | nilP=>exact .nilP
 | ptr k off cs hk=>exact eA d (.ptr k off cs hk) hv
 | pin cs off b o u a1 j a3 a4=>exact eA d (.pin cs off b o u a1 j a3 a4) hv
 | pbuf k i off tot e z xs fz p hk ht g=>exact eA d (.pbuf k i off tot e z xs fz p hk ht g) hv
 | sarr k n cs hk=>exact eA d (.sarr k n cs hk) hv
 | nilM=>exact .nilM
 | map k kk es hk=>exact eA d (.map k kk es hk) hv
 | nilFn=>exact .nilFn
 | nilI=>exact .nilI
 | ifc t x=>exact .ifc t x
def cut_good{H G:List B}(o:Good s)(g:s.H=H++G)(hb:∀bl∈H,rbB H.length bl):Good (s.cut H):=by
 refine⟨o.fl,fun k hk=>o.lt k (jX g hk),fun j k w hk=>o.inj j k (jX g w) (jX g hk),fun k bl hk=>?_⟩;have h:H[k]?=some bl:=hk
 have hs:s.H[k]?=some bl:=by rw[g,tu (aB h)];exact h
 have hr:=o.blk k bl hs;have f:=hb bl (tn h)
 cases bl with
 | cells cs =>
  obtain⟨h1,vs,t,h2,n,l⟩:=hr;exact⟨h1,vs,t,h2,n,fun i c u a b=>lZ g (l i c u a b) (f c (tn a))⟩
 | map kk es =>
  obtain⟨h1,ms,cl,h2,n,l⟩:=hr;exact⟨h1,ms,cl,h2,n,fun i p m a b=>⟨lZ g (l i p m a b).1 (f p (tn a)).1,lZ g (l i p m a b).2 (f p (tn a)).2⟩⟩
 | buf e z xs fz =>
  obtain⟨vs,h2,n,l,r,v,q⟩:=hr;exact⟨vs,h2,n,l,r,v,fun i x j c u a b d=>lZ g (q i x j c u a b d) (f x (tn a) c (tn b))⟩
def oN{H G:List B}(V:Good s)(M:s.H=H++G){s':St}(h:Step (s.cut H) s'):∀s0,Step s0 s->(s0.H.length<=H.length)->Step s0 s':=by
 intro s0 h0 hl;have D:=h0.len;refine⟨h.F.trans h0.F,h.os.trans h0.os,h.tape.trans h0.tape,h.output.trans h0.output,ug h0.size h.size,fun b hb hk=>?_,ug hl h.len,fun k h1 h2=>?_,fun k bl hk=>?_⟩
 .have p:b<s.w.heap.size:=uT hb h0.size;rw[h.out b p (fun k o e=>?_),<-h0.out b hb hk]
  .rfl
  .have P:k<H.length:=o.1;have u:=jX M o;by_cases v:k<s0.H.length
   .have d:s0.H[k]?=some s0.H[k]:=tm v;have c:=h0.keep k _ d;generalize s0.H[k]=bl at d c;have e':s.φ k=b:=e
    cases bl with
    | cells cs=>exact hk k (lvC d) (c.1.symm.trans e')
    | map kk es=>exact hk k (lvM d) (c.1.symm.trans e')
    | buf e0 z xs fz =>
     obtain⟨_,_,m,_,_,_,hp,f⟩:=c
     rcases hp with hp | hp
     .by_cases hz:s0.κ k=0
      .rcases f hz with l | l
       .exact absurd l (u.2 _ _ _ _ m)
       .omega
      .exact hk k (lvB d hz) (hp.symm.trans e')
     .omega
   .have:=h0.new k ω u;have e':s.φ k=b:=e;omega
 .by_cases y:k<H.length
  .have d:H[k]?=some H[k]:=tm y;have c:=h.keep k _ (show(s.cut H).H[k]?=_ from d);have p:=h0.size;generalize H[k]=bl at d c
   have n:s.H[k]?=some bl:=by rw[M,tu y];exact d
   cases bl with
   | cells cs=>rw[c.1];exact h0.new k h1 (lvC n)
   | map kk es=>rw[c.1];exact h0.new k h1 (lvM n)
   | buf e0 z xs fz =>
    obtain⟨_,_,m,_,_,_,hp,f⟩:=c;have j:s.κ k=0->s'.κ k=0\/s.w.heap.size<=s'.φ k:=f
    rcases hp with hp | hp
    .by_cases hz:s.κ k=0
     .rcases j hz with l | l
      .exact absurd l (h2.2 _ _ _ _ m)
      .omega
     .rw[hp];exact h0.new k h1 (lvB n hz)
    .have:s.w.heap.size<=s'.φ k:=hp;omega
  .have hn:s.w.heap.size<=s'.φ k:=h.new k (by show H.length<=k;omega) h2;have:=h0.size;omega
 .have v:=aB hk;have h1:=h0.keep k bl hk
  have a:∀bl',s.H[k]?=some bl'->(s.cut H).H[k]?=some bl':=fun bl' hb=>by rw[M,tu ω]at hb;exact hb
  cases bl with
  | cells cs =>
   obtain⟨q,J,t⟩:=h1;obtain⟨x,r⟩:=h.keep k _ (a _ t);exact⟨x.trans q,r⟩
  | map kk es =>
   obtain⟨q,J,t⟩:=h1;obtain⟨x,r⟩:=h.keep k _ (a _ t);exact⟨x.trans q,r⟩
  | buf e z xs fz =>
   obtain⟨U,X,t,S,q1,f1,p1,d1⟩:=h1;obtain⟨E,L,W,T,Q,f2,g,d2⟩:=h.keep k _ (a _ t);refine⟨E,L,W,ug S T,fun he=>?_,fun hf=>?_,?_,fun hz=>?_⟩
   .obtain⟨a1,C⟩:=q1 ω;obtain⟨I,K⟩:=Q ω;exact⟨I.trans a1,K.trans C⟩
   .obtain⟨a1,C,a3⟩:=f1 hf;obtain⟨I,K,R⟩:=f2 a1;obtain⟨q,x⟩:=q1 (by rw[C]);have A:s.κ k≠0->s'.w.heap[s.φ k]?=s.w.heap[s.φ k]?:=R;rw[q,x]at A;exact⟨I,K.trans C,fun hz=>(A hz).trans (a3 hz)⟩
   .have:=h0.size
    rcases g with g | g
    .have i:s'.φ k=s.φ k:=g
     rcases p1 with p1 | p1
     .exact .inl (i.trans p1)
     .exact .inr ω
    .have i:s.w.heap.size<=s'.φ k:=g;exact .inr ω
   .have:=h0.size;have N:s.κ k=0->s'.κ k=0\/s.w.heap.size<=s'.φ k:=d2
    rcases d1 hz with l | l
    .rcases N l with O | O
     .exact .inl O
     .exact .inr ω
    .rcases g with g | g
     .have i:s'.φ k=s.φ k:=g;exact .inr ω
     .have i:s.w.heap.size<=s'.φ k:=g;exact .inr ω
def W_loopS{σ:Type}(ok:σ->Prop)(μ:σ->Nat)(F:σ->List V)(Hf:σ->List B){c:Code}{Q:Exit->List V->List B->Prop}{fr:List V}{H:List B}(x0:σ)(h0:ok x0)(hF:nB (F x0) fr)(hH:H=Hf x0)
  (C:∀x,ok x->H.length<=(Hf x).length)
  (o:∀x,ok x->W P c (mG (fun R H'=>∃y,ok y/\μ y<μ x/\nB (F y) R/\(∃G,H'=Hf y++G)/\(∀v∈F y,rb (Hf y).length v)/\∀bl∈Hf y,rbB (Hf y).length bl) Q) (F x) (Hf x)):W P (.loop c) Q fr H:=by
 intro s a h1 h2 h3 h4
 let J:Nat->Act->World->Prop:=fun n j l=>∃x s',ok x/\n=μ x/\s'.w=l/\Good s'/\s'.H=Hf x/\(∀t,Step s' t->Step s t)/\FRel s' (F x) j.tmps/\j.defers=[]/\GOk P s'
 have d:∀{s':St} {f g:List V} {tmps:Array Value},nB f g->FRel s' g tmps->FRel s' f tmps:=fun {s' f g tmps} hl hf=>by
  refine⟨by rw[hf.len,hl.len],fun i v u hv hu=>?_⟩
  have hi:i<g.length:=by have:=aB hv;rw[hl.len]at this;exact this
  have z:g[i]?=some g[i]:=tm hi
  rcases hl.at_ i v _ hv z with rfl | e
  .exact .undef _
  .rw[e];exact hf.rel i _ u z hu
 have M:∃A:Act->World->Nat,∀j l,(∃m,J m j l)->J (A j l) j l/\∀m,m<A j l->¬J m j l:=by
  have:∀p:Act×World,∃n,(∃m,J m p.1 p.2)->J n p.1 p.2/\∀m,m<n->¬J m p.1 p.2:=fun p=>by
   by_cases h:∃m,J m p.1 p.2
   .obtain⟨n,k1,T⟩:=oE h;exact⟨n,fun _=>⟨k1,T⟩⟩
   .exact⟨0,fun h'=>absurd h' h⟩
  obtain⟨f,hf⟩:=Classical.axiomOfChoice this;exact⟨fun j l=>f (j,l),fun j l h=>hf (j,l) h⟩
 obtain⟨A,r⟩:=M;refine wp_loop (fun j l=>∃m,J m j l) A ⟨μ x0,x0,s,h0,rfl,rfl,h2,by rw[h1.1,hH],fun _ h=>h,d hF h3,h4,h1.2⟩ (fun j l hI=>?_);obtain⟨⟨x,s',k1,T,rfl,k4,k5,U,k7,k8,S⟩,E⟩:=r j l hI
 refine wp_mono (o x k1 s' j ⟨k5,S⟩ k4 k7 k8) fun e q ad hl=>?_
 obtain⟨D,k,rfl,L,N,X,Z,c6⟩:=hl
 cases e with
 | normal =>
  obtain⟨y,Y,y2,y3,⟨G,I⟩,y5,y6⟩:=c6
  have K:J (μ y) q k.w:=by
   refine⟨y,k.cut (Hf y),Y,rfl,rfl,cut_good L I y6,rfl,fun t ht=>?_,?_,Z,(S.step N).of fun b hb=>⟨iy I hb,rfl⟩⟩
   .refine oN L I ht s (U k N) ?_;rw[h1.1];exact C y Y
   .have hf:=d y3 X;exact⟨hf.len,fun i v u hv hu=>lZ I (hf.rel i v u hv hu) (y5 v (tn hv))⟩
  refine⟨⟨μ y,K⟩,?_⟩;obtain⟨_,O⟩:=r q k.w ⟨μ y,K⟩
  rcases uP (μ y) (A q k.w) with h | h
  .exact absurd K (O _ h)
  .omega
 | _=>exact⟨D,k,rfl,L,U k N,X,Z,c6⟩
end
attribute [simp] nB rb rb1 rbB
end Go.AM
namespace Go.AM
open Go
@[simp] theorem pure_bool (b:Bool):Pure (.bool b):=.bool b
@[simp] theorem pure_int (k:IntKind) (n:Int):Pure (.int k n):=.int k n
@[simp] theorem pure_str (x:ByteArray):Pure (.str x):=.str x
@[simp] theorem pure_nilS:Pure .nilS:=.nilS
@[simp] theorem pure_nilP:Pure .nilP:=.nilP
@[simp] theorem pure_nilM:Pure .nilM:=.nilM
@[simp] theorem pure_nilFn:Pure .nilFn:=.nilFn
@[simp] theorem pure_nilI:Pure .nilI:=.nilI
@[simp] theorem pure_ifc:Pure .ifc:=.ifc
@[simp] theorem pure_fn (f:FuncId):Pure (.fn f []):=.fn f
@[simp] theorem pure_lst (z:Nat) (full:Bool) (xs:List V):Pure (.lst z full xs)↔∀x∈xs,Pure x:=⟨fun h=>by cases h;assumption,.lst z full xs⟩
@[simp] theorem pure_pin (cs:List V) (o:Nat):Pure (.pin cs o)↔∀x∈cs,Pure x:=⟨fun h=>by cases h;assumption,.pin cs o⟩
@[simp] theorem pure_agg (cs:List V):Pure (.agg cs)↔∀x∈cs,Pure x:=⟨fun h=>by cases h;assumption,.agg cs⟩
@[simp] theorem pure_tup (cs:List V):Pure (.tup cs)↔∀x∈cs,Pure x:=⟨fun h=>by cases h;assumption,.tup cs⟩
def bQ{P:Program}{f:FuncId}{args:List V}{H:List B}{v:V}(h:aK P f args fun r=>r=v)(hp:∀a∈args,Pure a):aM P (.fn f []) args H fun r H'=>r=v/\H'=H:=by
 simp only[aM,uC]
 refine(fq h rfl (fun i a b h1 h2=>?_) (.inl hp)).mono fun r H' ⟨h1,_,c⟩=>⟨c,h1⟩
 have:a=b:=by rw[h1]at h2;exact Option.some.inj h2
 subst this;exact .pure a (hp a (tn h1))
def callK{P:Program}{f:FuncId}{args:List V}{H:List B}{K:V->Prop}(h:aK P f args K)(hp:∀a∈args,Pure a):aM P (.fn f []) args H fun r H'=>H'=H/\Pure r/\K r:=by
 simp only[aM,uC];refine fq h rfl (fun i a b h1 h2=>?_) (.inl hp)
 have:a=b:=by rw[h1]at h2;exact Option.some.inj h2
 subst this;exact .pure a (hp a (tn h1))
def jr{P:Program}{f:FuncId}{args:List V}{H:List B}{K:Nat->Nat->List V->Prop}(h:ia P f args K)(hp:∀a∈args,Pure a):
  aM P (.fn f []) args H fun r H'=>∃e z xs,r = .buf H.length 0 xs.length xs.length/\H'=H++[.buf e z xs false]/\(∀x∈xs,Pure x)/\K e z xs:=by
 simp only[aM,uC]
 exact(conH_of_conO h hp).mono fun r H' h=>by simpa using h
end Go.AM
end
