/- JG4: own texts of this seat, joined and shortened by pack4.py: AMd. -/
import Derived.Test.YtdhgchekdkjcpaaGreatDoorJG3
import Derived.KernelRfl
import Derived.Orders
set_option linter.unusedVariables false
set_option linter.unusedSimpArgs false
set_option maxRecDepth 100000
set_option maxHeartbeats 64000000
open Array renaming replicate→mO,getD→mS
open Bool renaming and_eq_true→kb,false_eq_true→ke,or_eq_true→lW,not_eq_true'→lv
open List renaming getElem?_eq_getElem→kR,mem_of_getElem?→kS,getElem?_append_left→kU,getElem_mem→kW,nil_append→kX,range→ki,map_cons→kj,getElem?_set_ne→kn,getElem?_map→ko,append_nil→kp,eq_nil_of_length_eq_zero→kr,getElem?_set_self→ku,getElem?_take→lA,all_eq_true→lJ,getElem?_eq_none→lN,foldl_cons→lU,map_congr_left→lg,ext_getElem?→lj,mem_append→mC,getElem?_of_mem→mG,range_succ→mP,map_map→mY
open Nat renaming le_refl→kY,lt_of_lt_of_le→lF,le_trans→lM,add_assoc→lR,strongRecOn→lk,lt_or_ge→lz,zero_le→mH,add_comm→mX
open Option renaming map_some→kv,getD_some→lx
section
namespace Go.AM
open Go
section
variable {P:Program}
theorem find_now{d:TypeDesc}{kk:KK}(hnow:∀a b,ah a=some kk→ah b=some kk→Instr.sameNow d (cF a) (cF b)=some (bP a b)){v:V}(hv:ah v=some kk):
  ∀(ks:List V) (es:List MapEntry) (n:Nat),(∀k∈ks,ah k=some kk)→es.map (·.key)=ks.map cF →
   ∃r,Instr.findNow d (cF v) es n=some r∧((r=none∧∀k∈ks,bP v k=false)∨
    ∃i k e,r=some (n+i,e.val)∧ks[i]?=some k∧es[i]?=some e∧bP v k=true∧∀j k',j<i→ks[j]?=some k'→bP v k'=false)
 | [],[],n,_,_=>⟨none,rfl,.inl ⟨rfl,by simp⟩⟩
 | [],_::_,n,_,h=>by simp at h
 | _::_,[],n,_,h=>by simp at h
 | k::ks,e::es,n,hk,h=>by
  simp only[kj,List.cons.injEq]at h;obtain⟨h1,h2⟩:=h;have hn:=hnow v k hv (hk k (by simp));rw[←h1]at hn;cases hq:bP v k
  ·rw[hq]at hn;obtain⟨r,hr,hres⟩:=find_now hnow hv ks es (n+1) (fun x hx=>hk x (by simp[hx])) h2;refine⟨r,by simp[Instr.findNow,hn,hr],?_⟩
   rcases hres with⟨rfl,hno⟩ | ⟨i,k',e',rfl,q1,q2,q3,q4⟩
   ·exact .inl ⟨rfl,fun x hx=>(List.mem_cons.1 hx).elim (fun e=>by rw[e];exact hq) (hno x)⟩
   ·refine .inr ⟨i+1,k',e',by rw[lR,mX 1 i],by simpa using q1,by simpa using q2,q3,fun j k'' hj hk''=>?_⟩
    cases j with
    | zero=>simp at hk'';subst hk'';exact hq
    | succ j=>exact q4 j k'' (by omega) (by simpa using hk'')
  ·rw[hq]at hn;exact⟨some (n,e.val),by simp[Instr.findNow,hn],.inr ⟨0,k,e,rfl,rfl,rfl,hq,fun j _ hj=>absurd hj (by omega)⟩⟩
theorem law_now{t:TypeId}{d:TypeDesc}{kk:KK}(hu:P.underlying t=some d)(hnow:∀a b,ah a=some kk→ah b=some kk→Instr.sameNow d (cF a) (cF b)=some (bP a b))
  (hc:∀(w:World) (em:Bool) (v:V),ah v=some kk→(Instr.checkKey em 10000 t (cF v)).run P w = .ok () w):KLaw P t kk where
 check:=hc
 find w v ks es hv hk h:=by
  obtain⟨r,hr,hres⟩:=find_now hnow hv ks es 0 hk h;refine⟨r,by simp[Instr.findKey,run_underlying hu,hr],?_⟩;simpa using hres
theorem fm(t:TypeId)(em:Bool)(v:Value):Instr.checkKey em 10000 t v=Instr.checkKey em (9999+1) t v:=rfl
theorem int_law{t:TypeId}{k:IntKind}(hu:P.underlying t=some (.int k)):KLaw P t (.int k):=by
 have shape:∀a,ah a=some (.int k)→∃n,a = .int k n:=fun a ha=>by
  cases a<;>simp only[ah]at ha<;>try (cases ha;done)
  ·cases ha;exact⟨_,rfl⟩
  ·split at ha<;>cases ha
 refine law_now hu (fun a b ha hb=>?_) (fun w em v hv=>?_)
 ·obtain⟨n,rfl⟩:=shape a ha;obtain⟨m,rfl⟩:=shape b hb;simp[cF,cz,Instr.sameNow,bP]
 ·obtain⟨n,rfl⟩:=shape v hv;rw[fm,Instr.checkKey];simp[run_underlying hu,cF,cz]
theorem str_law{t:TypeId}(hu:P.underlying t=some .string):KLaw P t .str:=by
 have shape:∀a,ah a=some .str→∃n,a = .str n:=fun a ha=>by
  cases a<;>simp only[ah]at ha<;>try (cases ha;done)
  ·exact⟨_,rfl⟩
  ·split at ha<;>cases ha
 refine law_now hu (fun a b ha hb=>?_) (fun w em v hv=>?_)
 ·obtain⟨n,rfl⟩:=shape a ha;obtain⟨m,rfl⟩:=shape b hb;simp[cF,cz,Instr.sameNow,bP]
 ·obtain⟨n,rfl⟩:=shape v hv;rw[fm,Instr.checkKey];simp[run_underlying hu,cF,cz]
theorem bool_law{t:TypeId}(hu:P.underlying t=some .bool):KLaw P t .bool:=by
 have shape:∀a,ah a=some .bool→∃n,a = .bool n:=fun a ha=>by
  cases a<;>simp only[ah]at ha<;>try (cases ha;done)
  ·exact⟨_,rfl⟩
  ·split at ha<;>cases ha
 refine law_now hu (fun a b ha hb=>?_) (fun w em v hv=>?_)
 ·obtain⟨n,rfl⟩:=shape a ha;obtain⟨m,rfl⟩:=shape b hb;simp[cF,cz,Instr.sameNow,bP]
 ·obtain⟨n,rfl⟩:=shape v hv;rw[fm,Instr.checkKey];simp[run_underlying hu,cF,cz]
theorem tok_of{T:Ty}(h:∀t i,T t=some i→P.underlying t=some i.desc∧(P.info? t).map (fun j=>(j.size,j.bytes,j.zero))=some (i.size,i.bytes,some i.zval)∧fF i.zval=some i.zero∧i.zero.cells.length=i.size∧(∀kk,i.kk=some kk→KLaw P t kk)∧(i.eq=true→P.stoodInHeld t=false∧P.eqGuardType P.depth t=false)):TOk P T where
 key t i kk hi hk:=(h t i hi).2.2.2.2.1 kk hk
 eq t i hi he:=(h t i hi).2.2.2.2.2 he
 und t i hi:=(h t i hi).1
 info t i hi:=by
  obtain⟨_,h2,h3,h4,_⟩:=h t i hi
  cases hp:P.info? t with
  | none=>rw[hp]at h2;cases h2
  | some j =>
   rw[hp]at h2;simp only[kv,Option.some.injEq,Prod.mk.injEq]at h2;exact⟨j,rfl,h2.1,h2.2.1,h2.2.2,h3,h4⟩
end
end Go.AM
namespace Go.AM
open Go
theorem all_i64{cs:List V}(h:cs.all et=true):∃ns:List Int,cs=ns.map (V.int .i64):=by
 induction cs with
 | nil=>exact⟨[],rfl⟩
 | cons c cs ih =>
  simp only[List.all_cons,kb]at h;obtain⟨ns,rfl⟩:=ih h.2;cases c<;>simp only[et,ke,false_and]at h;rename_i k n;cases k<;>simp only[ke,false_and]at h;exact⟨n::ns,rfl⟩
theorem eqIs_ints:∀(ns ms:List Int),iz (ns.map (V.int .i64)) (ms.map (V.int .i64))=decide (ns=ms)
 | [],[]=>by simp[iz]
 | [],_::_=>by simp[iz]
 | _::_,[]=>by simp[iz]
 | n::ns,m::ms=>by
  simp only[kj,iz,eqIs_ints ns ms,List.cons.injEq,Bool.decide_and];rfl
section
variable {P:Program}
theorem kH{v:V}{n:Nat}(h:ah v=some (.arr n)):∃ns:List Int,v = .agg (ns.map (V.int .i64))∧ns.length=n:=by
 cases v<;>simp only[ah]at h<;>try (cases h;done)
 split at h
 ·rename_i cs hc;obtain⟨ns,rfl⟩:=all_i64 hc;cases h;exact⟨ns,rfl,by simp⟩
 ·cases h
theorem ju{α:Type}{w:World}{body:α→Unit→Sem (ForInStep Unit)} : ∀{l:List α},(∀x∈l,(body x ()).run P w = .ok (.yield ()) w)→(forIn l () body).run P w = .ok () w
 | [],_=>by simp
 | x::l,h=>by
  rw[List.forIn_cons];simp only[Sem.run_bind,h x (by simp),Result.andThen_ok]
  exact ju fun y hy=>h y (by simp[hy])
theorem all_eq(ns ms:List Int)(h:ns.length=ms.length):((ki ns.length).all fun i=>ns[i]? == ms[i]?)=decide (ns=ms):=by
 rw[Bool.eq_iff_iff,decide_eq_true_eq,lJ];constructor
 ·intro hh;apply lj;intro i;by_cases hi:i<ns.length
  ·simpa using hh i (by simpa using hi)
  ·rw[lN (by omega),lN (by omega)]
 ·rintro rfl i _;simp
theorem iF(ns:List Int):cF (.agg (ns.map (V.int .i64)))= .agg (ns.map (Value.int .i64)).toArray:=by
 simp only[cF,mY];congr 2
theorem arr_law{t e:TypeId}{n:Nat}(hu:P.underlying t=some (.array n e))(he:P.underlying e=some (.int .i64))(hi:(P.info? e).map (fun j=>(j.size,j.bytes,j.zero))=some (1,8,some (.int .i64 0))):KLaw P t (.arr n):=by
 have hsz:∀w:World,(sizeOf e).run P w = .ok 1 w:=fun w=>by
  cases hp:P.info? e with
  | none=>rw[hp]at hi;cases hi
  | some j =>
   rw[hp]at hi;simp only[kv,Option.some.injEq,Prod.mk.injEq]at hi;simp[sizeOf,run_typeInfo hp,hi.1]
 have hagg:∀w:World,(isAgg e).run P w = .ok false w:=fun w=>by simp[isAgg,run_underlying he]
 have hpart:∀(w:World) (ns:List Int) (i:Nat) (h:i<ns.length),(part e (ns.map (Value.int .i64)).toArray i).run P w = .ok (.int .i64 ns[i]) w:=fun w ns i h=>by
  simp[part,hagg,h]
 have heq:∀(w:World) (ns ms:List Int),ns.length=n→ms.length=n→(Op.equal t (.agg (ns.map (Value.int .i64)).toArray) (.agg (ms.map (Value.int .i64)).toArray)).run P w = .ok (decide (ns=ms)) w:=fun w ns ms h1 h2=>by
  rw[fi,Op.equalIn];simp only[Sem.run_bind,run_underlying hu,Result.andThen_ok,hsz,Std.Legacy.Range.forIn_eq_forIn_range']
  have hr:List.range' 0 n 1=ki n:=by rw[List.range_eq_range']
  simp only[Std.Legacy.Range.size,Nat.sub_zero,Nat.add_sub_cancel,Nat.div_one,hr];rw[go (P:=P) (w:=w) (b:=decide (ns=ms)) (bs:=(ki n).map fun i=>ns[i]? == ms[i]?) (by simp) (fun i f c hf hc hj=>?_) (by rw[←all_eq ns ms (by omega),h1,List.all_map];rfl)]
  ·cases decide (ns=ms)<;>simp
  ·have hfi:f=i∧i<n:=by
    have:=getElem?_lt hf;simp at this;rw[List.getElem?_range this]at hf;exact⟨by simpa using hf.symm,this⟩
   obtain⟨rfl,hin⟩:=hfi;simp only[ko,hf,kv,Option.some.injEq]at hc;subst hc;have q1:=hpart w ns f (by omega);have q2:=hpart w ms f (by omega);simp only[Nat.mul_one,Sem.run_bind,q1,q2,Result.andThen_ok];rw[show(9999:Nat)=9998+1 from rfl,Op.equalIn];simp only[Sem.run_bind,run_underlying he,Result.andThen_ok,if_true,Sem.run_pure,kR (show f<ns.length by omega),kR (show f<ms.length by omega)];cases hb:(ns[f] == ms[f])<;>simp[hb]
 constructor
 ·intro w em v hv;obtain⟨ns,rfl,hl⟩:=kH hv;rw[iF,fm,Instr.checkKey];simp only[Sem.run_bind,run_underlying hu,Result.andThen_ok,Std.Legacy.Range.forIn_eq_forIn_range']
  have hr:List.range' 0 n 1=ki n:=by rw[List.range_eq_range']
  simp only[Std.Legacy.Range.size,Nat.sub_zero,Nat.add_sub_cancel,Nat.div_one,hr];refine(congrArg (fun r=>Result.andThen r _) (ju (P:=P) (w:=w) (fun i hi=>?_))).trans ?_
  ·have q1:=hpart w ns i (by simp at hi;omega);simp only[Sem.run_bind,hsz,Result.andThen_ok,Nat.mul_one,q1];rw[show(9999:Nat)=9998+1 from rfl,Instr.checkKey];simp[run_underlying he]
  ·simp
 ·intro w v ks es hv hk hes;obtain⟨ns,rfl,hl⟩:=kH hv;rw[iF]
  have ask:∀(ks:List V) (es:List MapEntry) (m:Nat),(∀k∈ks,ah k=some (.arr n))→es.map (·.key)=ks.map cF →
    ∃r,(Instr.findAsking t (.agg (ns.map (Value.int .i64)).toArray) es m).run P w = .ok r w∧((r=none∧∀k∈ks,bP (.agg (ns.map (V.int .i64))) k=false)∨
     ∃i k e,r=some (m+i,e.val)∧ks[i]?=some k∧es[i]?=some e∧bP (.agg (ns.map (V.int .i64))) k=true∧∀j k',j<i→ks[j]?=some k'→bP (.agg (ns.map (V.int .i64))) k'=false):=by
   intro ks
   induction ks with
   | nil=>intro es m _ h;simp at h;subst h;exact⟨none,by simp[Instr.findAsking],.inl ⟨rfl,by simp⟩⟩
   | cons k ks ih =>
    intro es m hk h
    cases es with
    | nil=>simp at h
    | cons e es =>
     simp only[kj,List.cons.injEq]at h;obtain⟨ms,rfl,hl2⟩:=kH (hk k (by simp));have hq:=heq w ns ms hl hl2;rw[iF]at h
     have hkey:bP (.agg (ns.map (V.int .i64))) (.agg (ms.map (V.int .i64)))=decide (ns=ms):=by simp only[bP,eqIs_ints]
     cases hb:decide (ns=ms)
     ·rw[hb]at hq hkey;obtain⟨r,hr,hres⟩:=ih es (m+1) (fun x hx=>hk x (by simp[hx])) h.2;refine⟨r,by simp[Instr.findAsking,h.1,hq,hr],?_⟩
      rcases hres with⟨rfl,hno⟩ | ⟨i,k',e',rfl,q1,q2,q3,q4⟩
      ·exact .inl ⟨rfl,fun x hx=>(List.mem_cons.1 hx).elim (fun e=>by rw[e];exact hkey) (hno x)⟩
      ·refine .inr ⟨i+1,k',e',by rw[lR,mX 1 i],by simpa using q1,by simpa using q2,q3,fun j k'' hj hk''=>?_⟩
       cases j with
       | zero=>simp at hk'';subst hk'';exact hkey
       | succ j=>exact q4 j k'' (by omega) (by simpa using hk'')
     ·rw[hb]at hq hkey;exact⟨some (m,e.val),by simp[Instr.findAsking,h.1,hq],.inr ⟨0,_,e,rfl,rfl,rfl,hkey,fun j _ hj=>absurd hj (by omega)⟩⟩
  obtain⟨r,hr,hres⟩:=ask ks es 0 hk hes
  cases es with
  | nil =>
   cases ks with
   | cons k ks=>simp at hes
   | nil=>exact⟨none,by simp[Instr.findKey,run_underlying hu,Instr.findNow],.inl ⟨rfl,by simp⟩⟩
  | cons e0 es =>
   refine⟨r,?_,by simpa using hres⟩
   have:Instr.sameNow (.array n e) (.agg (ns.map (Value.int .i64)).toArray) e0.key=none:=by
    simp[Instr.sameNow]
   simp[Instr.findKey,run_underlying hu,Instr.findNow,this,hr]
end
end Go.AM
namespace Go.AM
open Go
def kkP(P:Program):TypeDesc→Option KK
 | .int k=>some (.int k)
 | .string=>some .str
 | .bool=>some .bool
 | .array n e=>match P.underlying e,(P.info? e).map (fun j=>(j.size,j.bytes,j.zero)) with
  | some (.int .i64),some (1,8,some (Value.int .i64 0))=>some (.arr n)
  | _,_=>none
 | _=>none
def mkTI(P:Program)(t:TypeId):Option TI :=
 match P.underlying t,P.info? t with
 | some d,some j=>match j.zero with
  | some zv=>match fF zv with
   | some z=>if z.cells.length=j.size then some ⟨d,j.size,j.bytes,z,zv,kkP P d,bL d&&!P.stoodInHeld t&&!P.eqGuardType P.depth t,false⟩ else none
   | none=>none
  | none=>none
 | _,_=>none
theorem kk_law{P:Program}{t:TypeId}{d:TypeDesc}(hu:P.underlying t=some d):∀kk,kkP P d=some kk→KLaw P t kk:=by
 intro kk h;unfold kkP at h;split at h
 ·cases h;exact int_law hu
 ·cases h;exact str_law hu
 ·cases h;exact bool_law hu
 ·split at h
  ·rename_i h1 h2;cases h;exact arr_law hu h1 h2
  ·cases h
 ·cases h
theorem mk_ok{P:Program} : TOk P (mkTI P):=tok_of fun t i hi=>by
 unfold mkTI at hi;split at hi
 ·rename_i d j hu hj;split at hi
  ·rename_i zv hz;split at hi
   ·rename_i z ho;split at hi
    ·rename_i hl;cases hi;refine⟨hu,by rw[hj,kv,hz],ho,hl,kk_law hu,fun h=>?_⟩;simp only[kb,lv]at h;exact⟨h.1.2,h.2⟩
    ·cases hi
   ·cases hi
  ·cases hi
 ·cases hi
end Go.AM
namespace Go.AM
open Go
def maskOf(done:List Nat)(es:List Edge):Nat:=es.foldl (fun m e=>if Region.binds .any e then m ||| 2^e.on ||| (done[e.on]?.getD 0) else m) 0
def aY(done:List Nat):List Oper→List Nat
 | []=>done
 | o::rest=>aY (done++[maskOf done o.after.toList]) rest
theorem gL:∀(l:List Oper) (done:List Nat),∃m,aY done l=done++m∧m.length=l.length∧∀(k:Nat) o,l[k]?=some o→m[k]?=some (maskOf (done++m.take k) o.after.toList)
 | [],done=>⟨[],by simp[aY],rfl,by simp⟩
 | o::l,done=>by
  obtain⟨m,h1,h2,h3⟩:=gL l (done++[maskOf done o.after.toList]);refine⟨maskOf done o.after.toList::m,by simp[aY,h1],by simp[h2],fun k o' hk=>?_⟩
  cases k with
  | zero=>simp at hk;subst hk;simp
  | succ k =>
   have:=h3 k o' (by simpa using hk);simpa using this
theorem jh{done:List Nat}{i:Nat} : ∀(es:List Edge) (m0:Nat),(es.foldl (fun m e=>if Region.binds .any e then m ||| 2^e.on ||| (done[e.on]?.getD 0) else m) m0).testBit i=true →
  m0.testBit i=true∨∃e∈es,Region.binds .any e=true∧(i=e.on∨(done[e.on]?.getD 0).testBit i=true)
 | [],m0,h=>.inl h
 | e::es,m0,h=>by
  rw[lU]at h
  rcases jh es _ h with h | ⟨e',h1,h2⟩
  ·split at h
   ·rename_i hb;rw[Nat.testBit_or,Nat.testBit_or,lW,lW]at h
    rcases h with(h | h) | h
    ·exact .inl h
    ·refine .inr ⟨e,by simp,hb,.inl ?_⟩;rw[Nat.testBit_two_pow]at h;simpa[eq_comm] using h
    ·exact .inr ⟨e,by simp,hb,.inr h⟩
   ·exact .inl h
  ·exact .inr ⟨e',by simp[h1],h2⟩
def Closed(ops:Array Oper)(D:Nat→Bool):Prop:=∀j o,ops[j]?=some o→D j=true→∀e∈o.after.toList,Region.binds .any e=true→D e.on=true
theorem mask_closed{ops:Array Oper}{D:Nat→Bool}(hD:Closed ops D)(hback:∀(j:Nat) (o:Oper),ops[j]?=some o→∀e∈o.after.toList,Region.binds .any e=true→e.on<j)(j:Nat):
  ∀i m,(aY [] ops.toList)[j]?=some m→m.testBit i=true→D j=true→D i=true:=by
 obtain⟨ms,h1,h2,h3⟩:=gL ops.toList [];rw[kX]at h1;rw[h1]
 induction j using lk with
 | _ j ih =>
  intro i m hm hb hDj
  have hj:j<ops.toList.length:=by have:=getElem?_lt hm;omega
  have ho:ops.toList[j]?=some ops.toList[j]:=kR hj;generalize ops.toList[j]=o at ho
  have ho':ops[j]?=some o:=by simpa using ho
  have hm':=h3 j o ho;rw[hm]at hm';cases hm'
  rcases jh _ _ hb with h | ⟨e,he,hbind,h⟩
  ·simp at h
  ·have hlt:=hback j o ho' e he hbind;have hDe:=hD j o ho' hDj e he hbind
   rcases h with rfl | h
   ·exact hDe
   ·simp only[kX,lA,if_pos hlt]at h
    cases hme:ms[e.on]? with
    | none=>rw[hme]at h;simp at h
    | some m'=>rw[hme]at h;exact ih e.on hlt i m' hme h hDe
def bh(ops:Array Oper)(fr:List V)(val:Nat→V)(D:Nat→Bool):Nat→Nat→Option V
 | 0,t=>fr[t]?
 | k+1,t=>if D k=true∧(ops[k]?).bind (·.dst)=some t∧t<fr.length then some (val k) else bh ops fr val D k t
theorem fA{ops:Array Oper}{fr:List V}{val:Nat→V}{D:Nat→Bool} : ∀(k t:Nat),(bh ops fr val D k t).isSome=decide (t<fr.length)
 | 0,t=>by
  simp only[bh];by_cases h:t<fr.length
  ·simp[h]
  ·simp[h]
 | k+1,t=>by
  simp only[bh];split
  ·rename_i h;simp[h.2.2]
  ·exact fA k t
theorem eO{ops:Array Oper}{fr:List V}{val:Nat→V}{D:Nat→Bool}{i t:Nat}(h1:∀j,j<i→(ops[j]?).bind (·.dst)=some t→D j=true)(h2:∀j,i≤j→(ops[j]?).bind (·.dst)=some t→D j=false):
  ∀k,i≤k→bh ops fr val D k t=bh ops fr val (fun _=>true) i t:=by
 have low:∀k,k≤i→bh ops fr val D k t=bh ops fr val (fun _=>true) k t:=by
  intro k
  induction k with
  | zero=>intro _;rfl
  | succ k ih =>
   intro hk;simp only[bh];rw[ih (by omega)];by_cases hd:(ops[k]?).bind (·.dst)=some t
   ·rw[h1 k (by omega) hd];simp
   ·simp[hd]
 intro k hk
 induction k with
 | zero =>
  obtain rfl:i=0:=by omega
  rfl
 | succ k ih =>
  by_cases hki:i=k+1
  ·subst hki;exact low _ (kY _)
  ·simp only[bh];rw[if_neg,ih (by omega)];rintro⟨hD,hd,_⟩;rw[h2 k (by omega) hd]at hD;cases hD
def bM(ops:Array Oper)(fr:List V)(val:Nat→V):Nat→List V
 | 0=>fr
 | k+1=>match ops[k]? with
  | some o=>bI (bM ops fr val k) o.dst (val k)
  | none=>bM ops fr val k
theorem fK{ops:Array Oper}{fr:List V}{val:Nat→V} : ∀k,(bM ops fr val k).length=fr.length
 | 0=>rfl
 | k+1=>by
  simp only[bM];split
  ·rename_i o ho;cases hd:o.dst<;>simp[bI,fK k]
  ·exact fK k
theorem eY{ops:Array Oper}{fr:List V}{val:Nat→V} : ∀k t,(bM ops fr val k)[t]?=bh ops fr val (fun _=>true) k t
 | 0,t=>rfl
 | k+1,t=>by
  have ih:=eY (ops:=ops) (fr:=fr) (val:=val) k;have hl:=fK (ops:=ops) (fr:=fr) (val:=val) k;simp only[bM,bh]
  cases ho:ops[k]? with
  | none=>simp[ih t]
  | some o =>
   cases hd:(o.dst:Option Nat) with
   | none=>simp[bI,hd,ih t]
   | some d =>
    simp only[bI,Option.bind_some,hd,Option.some.injEq,true_and];by_cases hdt:d=t
    ·subst hdt;by_cases hlt:d<fr.length
     ·rw[ku (by rw[hl];exact hlt)];simp[hlt]
     ·rw[if_neg (by simp[hlt]),List.getElem?_set,if_pos rfl,if_neg (by rw[hl];exact hlt),←ih d,lN (by rw[hl];exact Nat.le_of_not_lt hlt)]
    ·rw[kn hdt,if_neg (by simp[hdt]),ih t]
def df(ops:Array Oper)(o:Oper):List Nat:=o.looksAt ops++o.dst.toList
def bef(ms:List Nat)(i j:Nat):Bool:=(ms[j]?.getD 0).testBit i
def jA:List Nat→Bool
 | []=>true
 | [_]=>true
 | a::b::r=>decide (a<b)&&jA (b::r)
def gD(ops:Array Oper)(E:List Nat):Bool :=
 let ms:=aY [] ops.toList
 (jA E&&E.all fun e=>decide (e<ops.size))&&(ki ops.size).all fun j=>match ops[j]? with
  | none=>true
  | some oj=>oj.after.toList.all (fun e=>!Region.binds .any e||decide (e.on<j)) &&
   (df ops oj).all (fun t=>(ki ops.size).all fun i=>match ops[i]? with
    | none=>true
    | some oi=>!(oi.dst == some t)||i == j||(decide (i<j)&&bef ms i j)||(decide (j<i)&&bef ms j i)) &&
   (!E.contains j||(ki j).all fun i=>!E.contains i||bef ms i j)
def gH(ms E:List Nat)(i c:Nat):Bool:=(ki E.length).all fun k=>match E[k]? with
 | none=>true
 | some e=>if k<c then !bef ms i e else !bef ms e i
def dx(p:Nat→Prop):List Nat→Prop
 | []=>True
 | c::cs=>p c∧dx p cs
def cU(T:Ty)(ops:Array Oper)(E:List Nat):List Oper→Nat→List V→List B→List (V×List B)→Option (List V×List (List B)×List V)
 | [],_,fr,_,_=>some ([],[],fr)
 | o::rest,i,fr,H,cv =>
  match bV ops fr o with
  | some false=>if E.contains i then none else match cU T ops E rest (i+1) (bI fr o.dst (.tup [])) H cv with
   | some (vs,hs,f)=>some (.tup []::vs,hs,f)
   | none=>none
  | some true=>match bH o.op with
   | some _=>match cv with
    | (v,H')::cv'=>if E.contains i then
      (match cU T ops E rest (i+1) (bI fr o.dst v) H' cv' with
      | some (vs,hs,f)=>some (v::vs,H'::hs,f)
      | none=>none)
     else(match cU T ops E rest (i+1) (bI fr o.dst v) H cv' with
      | some (vs,hs,f)=>some (v::vs,hs,f)
      | none=>none)
    | []=>none
   | none=>match aop T o.op (aP fr) H with
    | some (v,H')=>if E.contains i then
      (match cU T ops E rest (i+1) (bI fr o.dst v) H' cv with
      | some (vs,hs,f)=>some (v::vs,H'::hs,f)
      | none=>none)
     else(match cU T ops E rest (i+1) (bI fr o.dst v) H cv with
      | some (vs,hs,f)=>some (v::vs,hs,f)
      | none=>none)
    | none=>none
  | none=>none
def cW(T:Ty)(ops:Array Oper)(C:V→List V→List B→(V→List B→Prop)→Prop)(ms E:List Nat)(Hs:Nat→List B):List Oper→Nat→List V→List V→Prop
 | [],_,_,_=>True
 | _::_,_,_,[]=>False
 | o::rest,i,fr,v::vs =>
  (match bV ops fr o with
   | some false=>v = .tup []∧E.contains i=false
   | some true=>match bH o.op with
    | some (f,args)=>if E.contains i then C (aP fr f) (args.map (aP fr)) (Hs (E.idxOf i)) (fun r H'=>r=v∧H'=Hs (E.idxOf i+1))
     else dx (fun c=>if gH ms E i c then C (aP fr f) (args.map (aP fr)) (Hs c) (fun r H'=>r=v∧H'=Hs c) else True) (ki (E.length+1))
    | none=>if E.contains i then aop T o.op (aP fr) (Hs (E.idxOf i))=some (v,Hs (E.idxOf i+1))
     else dx (fun c=>if gH ms E i c then aop T o.op (aP fr) (Hs c)=some (v,Hs c) else True) (ki (E.length+1))
   | none=>False)∧cW T ops C ms E Hs rest (i+1) (bI fr o.dst v) vs
def fO(T:Ty)(ops:Array Oper)(E:List Nat)(cv:List (V×List B))(C:V→List V→List B→(V→List B→Prop)→Prop)(K:List V→List B→Prop)(fr:List V)(H:List B):Prop :=
 match cU T ops E ops.toList 0 fr H cv with
 | none=>False
 | some (vs,hs,f)=>(gD ops E=true∧hs.length=E.length)∧cW T ops C (aY [] ops.toList) E (fun c=>(H::hs)[c]?.getD []) ops.toList 0 fr vs∧K f ((H::hs)[E.length]?.getD [])
theorem dP:∀{E:List Nat},jA E=true→∀(k l a b:Nat),k<l→E[k]?=some a→E[l]?=some b→a<b
 | [],_,k,l,a,b,_,h,_=>by simp at h
 | [x],_,k,l,a,b,hkl,h1,h2=>by have:=getElem?_lt h2;simp at this;omega
 | x::y::r,h,k,l,a,b,hkl,h1,h2=>by
  simp only[jA,kb,decide_eq_true_eq]at h
  cases l with
  | zero=>omega
  | succ l =>
   have h2':(y::r)[l]?=some b:=by simpa using h2
   cases k with
   | zero =>
    simp at h1;subst h1
    cases l with
    | zero=>simp at h2';omega
    | succ l=>have:=dP h.2 0 (l+1) y b (by omega) rfl h2';omega
   | succ k=>exact dP h.2 k l a b (by omega) (by simpa using h1) h2'
theorem aop_congr{T:Ty}{op:Go.Op}{ρ ρ':Operand→V}{H:List B}(h:∀x∈op.operands,ρ x=ρ' x):aop T op ρ H=aop T op ρ' H:=by
 have pairs:∀ps:Array (Nat×Operand),(∀x∈(ps.toList.map (·.2)).toArray,ρ x=ρ' x)→(ps.toList.map fun p=>(p.1,ρ p.2))=(ps.toList.map fun p=>(p.1,ρ' p.2)):=fun ps hp =>
  lg fun p hm=>by rw[hp p.2 (by simp only[List.mem_toArray,List.mem_map];exact⟨p,hm,rfl⟩)]
 cases op<;>simp only[Op.operands]at h<;>simp only[aop]
 case move x=>rw[h x (by simp)]
 case assign x=>rw[h x (by simp)]
 case box e x=>rw[h x (by simp)]
 case load t x=>rw[h x (by simp)]
 case nilCheck x=>rw[h x (by simp)]
 case unOp o t x=>rw[h x (by simp)]
 case convert a b x=>rw[h x (by simp)]
 case fieldAddr a x f=>rw[h x (by simp)]
 case field a x f=>rw[h x (by simp)]
 case extract x i=>rw[h x (by simp)]
 case pick c a b=>rw[h c (by simp),h a (by simp),h b (by simp)]
 case build t ps=>rw[pairs ps h]
 case buildSlice t l ps=>rw[pairs ps h]
 case store t a v=>rw[h a (by simp),h v (by simp)]
 case binOp o t x y ty=>rw[h x (by simp),h y (by simp)]
 case makeFunc fn first caps =>
  rw[lg (g:=ρ') (fun x hx=>h x (by simp;exact .inr (by simpa using hx)))]
 case makeSlice t l c=>rw[h l (by simp),h c (by simp)]
 case slice t x lo hi mx =>
  have ho:∀y:Option Operand,(∀z∈y.toArray,ρ z=ρ' z)→y.map ρ=y.map ρ':=fun y hy=>by
   cases y with
   | none=>rfl
   | some z=>simp[hy z (by simp)]
  rw[h x (by simp),ho lo (fun z hz=>h z (by simp at hz ⊢;simp[hz])),ho hi (fun z hz=>h z (by simp at hz ⊢;simp[hz])),ho mx (fun z hz=>h z (by simp at hz ⊢;simp[hz]))]
 case indexAddr t x i=>rw[h x (by simp),h i (by simp)]
 case index t x i=>rw[h x (by simp),h i (by simp)]
 case lookup t x i c=>rw[h x (by simp),h i (by simp)]
 case mapUpdate t m k v=>rw[h m (by simp),h k (by simp),h v (by simp)]
 case insert t m k v=>rw[h m (by simp),h k (by simp),h v (by simp)]
 case call c =>
  obtain⟨callee,args,ats⟩:=c;cases callee<;>simp only;rw[lg (g:=ρ') (fun x hx=>h x (by simp[Call.operands];simpa using hx))]
end Go.AM
namespace Go.AM
open Go
section
variable {P:Program} {T:Ty}
def Clause(T:Ty)(ops:Array Oper)(C:V→List V→List B→(V→List B→Prop)→Prop)(ms E:List Nat)(Hs:Nat→List B)(o:Oper)(i:Nat)(fr:List V)(v:V):Prop :=
 match bV ops fr o with
 | some false=>v = .tup []∧E.contains i=false
 | some true=>match bH o.op with
  | some (f,args)=>if E.contains i then C (aP fr f) (args.map (aP fr)) (Hs (E.idxOf i)) (fun r H'=>r=v∧H'=Hs (E.idxOf i+1))
   else dx (fun c=>if gH ms E i c then C (aP fr f) (args.map (aP fr)) (Hs c) (fun r H'=>r=v∧H'=Hs c) else True) (ki (E.length+1))
  | none=>if E.contains i then aop T o.op (aP fr) (Hs (E.idxOf i))=some (v,Hs (E.idxOf i+1))
   else dx (fun c=>if gH ms E i c then aop T o.op (aP fr) (Hs c)=some (v,Hs c) else True) (ki (E.length+1))
 | none=>False
theorem fp{p:Nat→Prop} : ∀{l:List Nat},dx p l→∀c∈l,p c
 | [],_,c,hc=>by simp at hc
 | x::l,h,c,hc=>(List.mem_cons.1 hc).elim (fun e=>e▸h.1) (fp h.2 c)
theorem obl_at{ops:Array Oper}{C:V→List V→List B→(V→List B→Prop)→Prop}{ms E:List Nat}{Hs:Nat→List B}{val:Nat→V}{fr0:List V} : ∀(l:List Oper) (i:Nat) (vs:List V),l=ops.toList.drop i→(∀k,k<vs.length→vs[k]?=some (val (i+k)))→
  cW T ops C ms E Hs l i (bM ops fr0 val i) vs→∀j o,i≤j→ops[j]?=some o→Clause T ops C ms E Hs o j (bM ops fr0 val j) (val j)
 | [],i,vs,hl,_,_,j,o,hij,ho=>by
  have h1:ops.toList.length≤i:=by have:=congrArg List.length hl;simp at this;simp;omega
  have h2:=(Array.getElem?_eq_some_iff.1 ho).1;simp at h1;omega
 | o'::rest,i,[],hl,_,h,j,o,hij,ho=>by simp[cW]at h
 | o'::rest,i,v::vs,hl,hv,h,j,o,hij,ho=>by
  have ho':ops[i]?=some o':=by
   have:=congrArg (fun l=>l[0]?) hl;simp at this;exact this.symm
  have hrest:rest=ops.toList.drop (i+1):=by
   have:=congrArg List.tail hl;simpa using this
  have hv0:v=val i:=by have:=hv 0 (by simp);simpa using this
  obtain⟨h1,h2⟩:=h;by_cases hji:j=i
  ·subst hji;rw[ho']at ho;cases ho;rw[←hv0];exact h1
  ·refine obl_at rest (i+1) vs hrest (fun k hk=>?_) ?_ j o (by omega) ho
   ·have:=hv (k+1) (by simpa using hk);rw[show i+1+k=i+(k+1) by omega];simpa using this
   ·simp only[bM,ho',←hv0];exact h2
theorem runT_cons{ops:Array Oper}{E:List Nat}{o:Oper}{rest:List Oper}{i:Nat}{fr:List V}{H:List B}{cv:List (V×List B)}{vs:List V}{hs:List (List B)}{f:List V}(h:cU T ops E (o::rest) i fr H cv=some (vs,hs,f)):
  ∃v H' cv' vs' hs',cU T ops E rest (i+1) (bI fr o.dst v) H' cv'=some (vs',hs',f)∧vs=v::vs':=by
 simp only[cU]at h;split at h
 ·split at h
  ·cases h
  ·split at h
   ·rename_i vs' hs' f' hr;cases h;exact⟨_,_,_,_,_,hr,rfl⟩
   ·cases h
 ·split at h
  ·split at h
   ·split at h
    ·split at h
     ·rename_i vs' hs' f' hr;cases h;exact⟨_,_,_,_,_,hr,rfl⟩
     ·cases h
    ·split at h
     ·rename_i vs' hs' f' hr;cases h;exact⟨_,_,_,_,_,hr,rfl⟩
     ·cases h
   ·cases h
  ·split at h
   ·split at h
    ·split at h
     ·rename_i vs' hs' f' hr;cases h;exact⟨_,_,_,_,_,hr,rfl⟩
     ·cases h
    ·split at h
     ·rename_i vs' hs' f' hr;cases h;exact⟨_,_,_,_,_,hr,rfl⟩
     ·cases h
   ·cases h
 ·cases h
theorem runT_len{ops:Array Oper}{E:List Nat} : ∀{l:List Oper} {i:Nat} {fr:List V} {H:List B} {cv:List (V×List B)} {vs:List V} {hs:List (List B)} {f:List V},cU T ops E l i fr H cv=some (vs,hs,f)→vs.length=l.length
 | [],i,fr,H,cv,vs,hs,f,h=>by simp only[cU,Option.some.injEq,Prod.mk.injEq]at h;rw[←h.1];rfl
 | o::rest,i,fr,H,cv,vs,hs,f,h=>by
  obtain⟨v,H',cv',vs',hs',hr,rfl⟩:=runT_cons h;simp[runT_len hr]
theorem jS{ops:Array Oper}{E:List Nat}{val:Nat→V}{fr0:List V} : ∀(l:List Oper) (i:Nat) (fr:List V) (H:List B) (cv:List (V×List B)) (vs:List V) (hs:List (List B)) (f:List V),l=ops.toList.drop i→fr=bM ops fr0 val i →
  (∀k,k<vs.length→vs[k]?=some (val (i+k)))→cU T ops E l i fr H cv=some (vs,hs,f)→f=bM ops fr0 val (i+l.length)
 | [],i,fr,H,cv,vs,hs,f,hl,hfr,_,h=>by
  simp only[cU,Option.some.injEq,Prod.mk.injEq]at h;rw[←h.2.2];exact hfr
 | o::rest,i,fr,H,cv,vs,hs,f,hl,hfr,hv,h=>by
  have ho':ops[i]?=some o:=by
   have:=congrArg (fun l=>l[0]?) hl;simp at this;exact this.symm
  have hrest:rest=ops.toList.drop (i+1):=by
   have:=congrArg List.tail hl;simpa using this
  obtain⟨v,H',cv',vs',hs',hr,rfl⟩:=runT_cons h
  have hvi:v=val i:=by have:=hv 0 (by simp);simpa using this
  have hf:=jS (val:=val) (fr0:=fr0) rest (i+1) (bI fr o.dst v) H' cv' vs' hs' f hrest (by simp only[bM,ho',hfr,hvi]) (fun k hk=>by
   have:=hv (k+1) (by simpa using hk);rw[show i+1+k=i+(k+1) by omega]
   simpa using this) hr
  rw[hf];congr 1;simp;omega
def eu(ops:Array Oper)(fr:List V)(val:Nat→V)(D:Nat→Bool):List V:=(ki fr.length).map fun t=>(bh ops fr val D ops.size t).getD .undef
theorem fa{ops:Array Oper}{fr:List V}{val:Nat→V}{D:Nat→Bool}(t:Nat):(eu ops fr val D)[t]?=bh ops fr val D ops.size t:=by
 have hs:=fA (ops:=ops) (fr:=fr) (val:=val) (D:=D) ops.size t;by_cases ht:t<fr.length
 ·simp only[ht,decide_true]at hs;obtain⟨v,hv⟩:=Option.isSome_iff_exists.1 hs;simp[eu,ht,hv]
 ·simp only[ht,decide_false]at hs;rw[lN (by simp[eu];omega)]
  cases h:bh ops fr val D ops.size t with
  | none=>rfl
  | some v=>rw[h]at hs;cases hs
theorem eP{ops:Array Oper}{fr:List V}{val:Nat→V}{D D':Nat→Bool}{t:Nat}(h:∀j,(ops[j]?).bind (·.dst)=some t→D j=D' j):∀k,bh ops fr val D k t=bh ops fr val D' k t
 | 0=>rfl
 | k+1=>by
  simp only[bh];rw[eP h k];by_cases hd:(ops[k]?).bind (·.dst)=some t
  ·rw[h k hd]
  ·simp[hd]
theorem ir{p q:Nat→Bool}{i:Nat}(hp:p i=true)(hq:q i=false)(hqp:∀j,q j=true→p j=true):∀{l:List Nat},i∈l→(l.filter q).length<(l.filter p).length
 | [],h=>by simp at h
 | x::l,h=>by
  have le:∀l:List Nat,(l.filter q).length≤(l.filter p).length:=fun l=>by
   induction l with
   | nil=>simp
   | cons y l ih =>
    simp only[List.filter_cons];split
    ·rename_i hy;rw[if_pos (hqp y hy)];simp;exact ih
    ·split
     ·simp;omega
     ·exact ih
  simp only[List.filter_cons]
  rcases List.mem_cons.1 h with rfl | h
  ·rw[if_neg (by simp[hq]),if_pos hp];have:=le l;simp;omega
  ·have:=ir hp hq hqp h;split
   ·rename_i hx;rw[if_pos (hqp x hx)];simp;exact this
   ·split
    ·simp;omega
    ·exact this
theorem evalA_congr{fr fr':List V}{x:Operand}(h:∀t,x = .tmp t→fr[t]?=fr'[t]?):aP fr x=aP fr' x:=by
 cases x with
 | tmp t=>simp only[aP];rw[h t rfl]
 | _=>rfl
theorem draw_sound(hT:TOk P T){ops:Array Oper}{E:List Nat}{val:Nat→V}{Hs:Nat→List B}{fr:List V}{s0:St}{Q:Exit→Act→World→Prop}(hz0:GOk P s0)
  (hst:gD ops E=true) (hcl:∀i o,ops[i]?=some o→Clause T ops (af P) (aY [] ops.toList) E Hs o i (bM ops fr val i) (val i))
  (hQ:∀s a,Good s→Step s0 s→FRel s (bM ops fr val ops.size) a.tmps→a.defers=[]→s.H=Hs E.length→Q .normal a s.w):
  ∀(fuel:Nat) (listed:Array Bool) (s:St) (a:Act) (c:Nat),listed.size=ops.size→Closed ops (fun i=>listed.getD i false)→
   ((ki ops.size).filter fun i=>!(listed.getD i false)).length≤fuel→c≤E.length→(∀k e,E[k]?=some e→(listed.getD e false=true↔k<c))→
   Good s→Step s0 s→s.H=Hs c→FRel s (eu ops fr val fun i=>listed.getD i false) a.tmps→a.defers=[]→wpAny P .any ops Q fuel listed a s.w:=by
 simp only[gD,kb,lJ,decide_eq_true_eq,List.mem_range]at hst;obtain⟨⟨hasc,hE⟩,hops⟩:=hst
 have hback:∀(j:Nat) (o:Oper),ops[j]?=some o→∀e∈o.after.toList,Region.binds .any e=true→e.on<j:=fun j o ho e he hbd=>by
  have hj:=(Array.getElem?_eq_some_iff.1 ho).1;have:=hops j hj;rw[ho]at this;simp only[kb,lJ]at this;have h1:=this.1.1 e he;rw[hbd]at h1;simpa using h1
 have htmp:∀(j i:Nat) (oj oi:Oper) (t:Nat),ops[j]?=some oj→ops[i]?=some oi→t∈df ops oj→oi.dst=some t→i=j∨(i<j∧bef (aY [] ops.toList) i j=true)∨(j<i∧bef (aY [] ops.toList) j i=true):=fun j i oj oi t hoj hoi ht hd=>by
  have hj:=(Array.getElem?_eq_some_iff.1 hoj).1;have hi:=(Array.getElem?_eq_some_iff.1 hoi).1;have:=hops j hj;rw[hoj]at this;simp only[kb,lJ]at this;have h2:=this.1.2 t ht i (by simpa using hi);rw[hoi]at h2;simp only[hd,lW,kb,decide_eq_true_eq,beq_iff_eq,lv,beq_eq_false_iff_ne,ne_eq,not_true_eq_false,false_or]at h2
  rcases h2 with(h | h) | h
  ·exact .inl h
  ·exact .inr (.inl h)
  ·exact .inr (.inr h)
 have heff:∀i j,j∈E→i∈E→i<j→bef (aY [] ops.toList) i j=true:=fun i j hj hi hij=>by
  have hjl:=hE j hj;have:=hops j hjl
  have hoj:ops[j]?=some ops[j]:=by simp[hjl]
  rw[hoj]at this;simp only[kb,lJ]at this;have h2:=this.2;simp only[lW,lv,lJ,List.mem_range]at h2
  rcases h2 with h2 | h2
  ·simp at h2;exact absurd hj h2
  ·rcases h2 i hij with h3 | h3
   ·simp at h3;exact absurd hi h3
   ·exact h3
 have hmask:∀(D:Nat→Bool),Closed ops D→∀i j,j<ops.size→bef (aY [] ops.toList) i j=true→D j=true→D i=true:=fun D hD i j hj hb hDj=>by
  obtain⟨ms,h1,h2,_⟩:=gL ops.toList [];rw[kX]at h1
  have hlen:(aY [] ops.toList).length=ops.size:=by rw[h1,h2];simp
  have hm:(aY [] ops.toList)[j]?=some ((aY [] ops.toList)[j]'(by omega)):=kR (by omega);unfold bef at hb;rw[hm]at hb;exact mask_closed hD hback j i _ hm hb hDj
 have fin:∀(listed:Array Bool) (s:St) (a:Act) (c:Nat),(∀i,i<ops.size→listed.getD i false=true)→c≤E.length→(∀k e,E[k]?=some e→(listed.getD e false=true↔k<c))→Good s→Step s0 s→s.H=Hs c →
   FRel s (eu ops fr val fun i=>listed.getD i false) a.tmps→a.defers=[]→Q .normal a s.w:=fun listed s a c hall hc hpre hg hs hH hf hd=>by
  have hcE:c=E.length:=by
   rcases lz c E.length with h | h
   ·have he:E[c]?=some E[c]:=kR h;have:=(hpre c _ he).1 (hall _ (hE _ (kW h)));omega
   ·omega
  subst hcE;refine hQ s a hg hs ?_ hd hH
  have:(eu ops fr val fun i=>listed.getD i false)=bM ops fr val ops.size:=by
   apply lj;intro t;rw[fa,eY];refine eO (fun j hj _=>hall j hj) (fun j hj hdst=>?_) ops.size (kY _);rw[Array.getElem?_eq_none hj]at hdst;simp at hdst
  rwa [this]at hf
 have done:∀(listed:Array Bool),listed.size=ops.size→Region.ready .any ops listed=[]→∀i,i<ops.size→listed.getD i false=true:=fun listed hsz hr i=>by
  induction i using lk with
  | _ i ih =>
   intro hi
   cases hD:listed.getD i false with
   | true=>rfl
   | false =>
    exfalso
    have hmem:i∈Region.ready .any ops listed:=by
     unfold Region.ready;rw[List.mem_filter]
     have ho:ops[i]?=some ops[i]:=by simp[hi]
     have hil:i<listed.size:=by omega
     refine⟨by simpa using hi,?_⟩;rw[ho];simp only[kv,lx,kb,lv];refine⟨by simp[mS,hil]at hD ⊢;exact hD,?_⟩;rw[Array.all_eq_true'];intro e he;by_cases hbd:Region.binds .any e=true
     ·have hlt:=hback i _ ho e (by simpa using he) hbd;simp[ih e.on hlt (by omega)]
     ·simp[hbd]
    rw[hr]at hmem;simp at hmem
 intro fuel
 induction fuel with
 | zero =>
  intro listed s a c hsz hcl2 hcnt hc hpre hg hs hH hf hd
  have hall:∀i,i<ops.size→listed.getD i false=true:=fun i hi=>by
   cases hD:listed.getD i false with
   | true=>rfl
   | false =>
    exfalso
    have:i∈(ki ops.size).filter fun i=>!(listed.getD i false):=by rw[List.mem_filter];exact⟨by simpa using hi,by simp only[hD];rfl⟩
    have h0:((ki ops.size).filter fun i=>!(listed.getD i false))=[]:=kr (by omega);rw[h0]at this;simp at this
  refine⟨?_,fin listed s a c hall hc hpre hg hs hH hf hd⟩;unfold Region.ready;rw[List.filter_eq_nil_iff];intro i hi
  have hil:i<listed.size:=by rw[hsz];simpa using hi
  have:=hall i (by simpa using hi)
  have h1:listed.getD i true=true:=by simpa[mS,hil] using this
  simp[h1]
 | succ fuel ih =>
  intro listed s a c hsz hcl2 hcnt hc hpre hg hs hH hf hd;refine⟨fun hr=>fin listed s a c (done listed hsz hr) hc hpre hg hs hH hf hd,fun i hi=>?_⟩;unfold Region.ready at hi;rw[List.mem_filter]at hi;obtain⟨hin,hcond⟩:=hi
  have hin:i<ops.size:=by simpa using hin
  have hil:i<listed.size:=by omega
  have ho:ops[i]?=some ops[i]:=by simp[hin]
  generalize ops[i]=o at ho;rw[ho]at hcond;simp only[kv,lx,kb,lv]at hcond;obtain⟨hDi,hedge⟩:=hcond
  have hDi:listed.getD i false=false:=by simp only[mS,hil,dif_pos]at hDi ⊢;exact hDi
  rw[Array.all_eq_true']at hedge
  have hD':∀j,(listed.setIfInBounds i true).getD j false=if j=i then true else listed.getD j false:=fun j=>by
   by_cases hj:j=i
   ·subst hj;simp[mS,hil]
   ·rw[if_neg hj,Array.getD_eq_getD_getElem?,Array.getD_eq_getD_getElem?,Array.getElem?_setIfInBounds_ne (Ne.symm hj)]
  have hclosed':Closed ops (fun j=>(listed.setIfInBounds i true).getD j false):=fun j oj hoj hj e he hb=>by
   simp only[hD']at hj ⊢;by_cases hji:j=i
   ·subst hji;rw[ho]at hoj;cases hoj;have:=hedge e (by simpa using he);rw[hb]at this;simp at this;split
    ·rfl
    ·simpa using this
   ·rw[if_neg hji]at hj;split
    ·rfl
    ·exact hcl2 j oj hoj hj e he hb
  have before:∀j,j≠i→bef (aY [] ops.toList) j i=true→listed.getD j false=true:=fun j hji hb=>by
   have:=hmask _ hclosed' j i hin hb (by simp[hD']);simp only[hD',if_neg hji]at this;exact this
  have behind:∀j,j<ops.size→bef (aY [] ops.toList) i j=true→listed.getD j false=false:=fun j hj hb=>by
   cases hDj:listed.getD j false with
   | false=>rfl
   | true=>have:=hmask _ hcl2 i j hj hb hDj;rw[hDi]at this;cases this
  have meets:∀t,t∈df ops o→(∀j,j<i→(ops[j]?).bind (·.dst)=some t→listed.getD j false=true)∧(∀j,i<j→(ops[j]?).bind (·.dst)=some t→listed.getD j false=false):=fun t ht=>by
   refine⟨fun j hj hdst=>?_,fun j hj hdst=>?_⟩
   ·cases hoj:ops[j]? with
    | none=>rw[hoj]at hdst;simp at hdst
    | some oj =>
     rw[hoj]at hdst
     rcases htmp i j o oj t ho hoj ht (by simpa using hdst) with h | h | h
     ·omega
     ·exact before j (by omega) h.2
     ·omega
   ·cases hoj:ops[j]? with
    | none=>rw[hoj]at hdst;simp at hdst
    | some oj =>
     rw[hoj]at hdst
     rcases htmp i j o oj t ho hoj ht (by simpa using hdst) with h | h | h
     ·omega
     ·omega
     ·exact behind j (Array.getElem?_eq_some_iff.1 hoj).1 h.2
  have agree:∀t,t∈df ops o→(eu ops fr val fun i=>listed.getD i false)[t]?=(bM ops fr val i)[t]?:=fun t ht=>by
   rw[fa,eY];refine eO (meets t ht).1 (fun j hj hdst=>?_) ops.size (by omega);by_cases hji:j=i
   ·subst hji;exact hDi
   ·exact(meets t ht).2 j (by omega) hdst
  have hop:∀x∈o.op.operands,aP (eu ops fr val fun i=>listed.getD i false) x=aP (bM ops fr val i) x:=fun x hx=>by
   refine evalA_congr fun t e=>agree t ?_
   subst e;simp only[df,Oper.looksAt,mC,List.mem_filterMap];exact .inl (.inl ⟨.tmp t,by simpa using hx,rfl⟩)
  have hwant:bV ops (eu ops fr val fun i=>listed.getD i false) o=bV ops (bM ops fr val i) o:=by
   unfold bV
   cases hgd:o.guard with
   | none=>rfl
   | some g =>
    obtain⟨j,want⟩:=g;simp only
    cases hoj:ops[j]? with
    | none=>rfl
    | some oj =>
     simp only
     cases hdj:oj.dst with
     | none=>rfl
     | some d =>
      simp only;rw[agree d (by simp[df,Oper.looksAt,hgd,hoj,hdj])]
  have next:∀{s1:St} {u:Value} {c':Nat},Good s1→Step s s1→Rel s1 (val i) u→c'≤E.length→s1.H=Hs c'→(∀k e,E[k]?=some e→((listed.setIfInBounds i true).getD e false=true↔k<c'))→
    wpAny P .any ops Q fuel (listed.setIfInBounds i true) (a.put o.dst u) s1.w:=fun {s1 u c'} g1 g2 g3 g4 g5 g6=>by
   refine ih _ s1 _ c' (by simp[hsz]) hclosed' ?_ g4 g6 g1 (hs.trans g2) g5 ?_ (by rw[dW];exact hd)
   ·have:=ir (p:=fun j=>!(listed.getD j false)) (q:=fun j=>!((listed.setIfInBounds i true).getD j false)) (i:=i) (by simp only[hDi];rfl) (by simp[hD']) (fun j hj=>by
     simp only[hD']at hj;split at hj
     ·simp at hj
     ·exact hj) (l:=ki ops.size) (by simpa using hin)
    omega
   ·have hnow:(eu ops fr val fun j=>(listed.setIfInBounds i true).getD j false)=bI (eu ops fr val fun j=>listed.getD j false) o.dst (val i):=by
     apply lj;intro t;rw[fa]
     cases hdst:(o.dst:Option Nat) with
     | none =>
      simp only[bI];rw[fa];refine eP (fun j hj=>?_) _;simp only[hD'];split
      ·rename_i hji;subst hji;rw[ho]at hj;simp[hdst]at hj
      ·rfl
     | some d =>
      simp only[bI]
      have hlen:(eu ops fr val fun j=>listed.getD j false).length=fr.length:=by simp[eu]
      by_cases hdt:d=t
      ·subst hdt;have hm:=meets d (by simp[df,hdst])
       have e1:=eO (fr:=fr) (val:=val) (D:=fun j=>(listed.setIfInBounds i true).getD j false) (i:=i+1) (t:=d) (fun j hj hdj=>by
        simp only[hD'];split
        ·rfl
        ·exact hm.1 j (by omega) hdj) (fun j hj hdj=>by
        simp only[hD'];rw[if_neg (by omega)]
        exact hm.2 j (by omega) hdj) ops.size (by omega)
       rw[e1];simp only[bh];by_cases hlt:d<fr.length
       ·rw[if_pos ⟨trivial,by rw[ho];simpa using hdst,hlt⟩,ku (by rw[hlen];exact hlt)]
       ·rw[if_neg (by simp[hlt]),List.getElem?_set,if_pos rfl,if_neg (by rw[hlen];exact hlt)];have:=fA (ops:=ops) (fr:=fr) (val:=val) (D:=fun _=>true) i d
        cases h:bh ops fr val (fun _=>true) i d with
        | none=>rfl
        | some v=>rw[h]at this;simp[hlt]at this
      ·rw[kn hdt,fa];refine eP (fun j hj=>?_) _;simp only[hD'];split
       ·rename_i hji;subst hji;rw[ho]at hj;simp[hdst]at hj;exact absurd hj hdt
       ·rfl
    rw[hnow];exact(hf.step g2).put g3 o.dst
  have sameE:i∉E→∀k e,E[k]?=some e→((listed.setIfInBounds i true).getD e false=true↔k<c):=fun hiE k e he=>by
   rw[hD',if_neg (fun h:e=i=>hiE (by rw[←h];exact kS he))];exact hpre k e he
  have hpos:i∉E→gH (aY [] ops.toList) E i c=true:=fun hiE=>by
   simp only[gH,lJ,List.mem_range];intro k hk;have he:E[k]?=some E[k]:=kR hk;rw[he];simp only;split
   ·rename_i hkc;have hD:=(hpre k _ he).2 hkc
    cases hb:bef (aY [] ops.toList) i E[k] with
    | false=>rfl
    | true=>have:=behind _ (hE _ (kW hk)) hb;rw[hD]at this;cases this
   ·rename_i hkc
    cases hb:bef (aY [] ops.toList) E[k] i with
    | false=>rfl
    | true =>
     have:=before _ (fun h=>hiE (h▸kW hk)) hb;exact absurd ((hpre k _ he).1 this) hkc
  have eff:i∈E→E.idxOf i=c∧(∀k' e,E[k']?=some e→((listed.setIfInBounds i true).getD e false=true↔k'<c+1))∧c+1≤E.length:=fun hiE=>by
   obtain⟨k,hk⟩:=mG hiE;have hkl:=getElem?_lt hk
   have hidx:E.idxOf i=k:=by
    have h1:=List.idxOf_lt_length_of_mem hiE
    have h2:E[E.idxOf i]?=some i:=by rw[kR h1];simp
    rcases Nat.lt_trichotomy (E.idxOf i) k with h | h | h
    ·have:=dP hasc _ _ _ _ h h2 hk;omega
    ·exact h
    ·have:=dP hasc _ _ _ _ h hk h2;omega
   have hck:c=k:=by
    have h1:¬k<c:=fun h=>by have:=(hpre k i hk).2 h;rw[hDi]at this;cases this
    rcases lz c k with h | h
    ·have he:E[c]?=some (E[c]'(by omega)):=kR (by omega);have hlt:=dP hasc _ _ _ _ h he hk;have hb:=heff _ _ hiE (kW (by omega)) hlt;have:=(hpre c _ he).1 (before _ (by omega) hb);omega
    ·omega
   have hpre':∀k' e,E[k']?=some e→((listed.setIfInBounds i true).getD e false=true↔k'<c+1):=fun k' e he=>by
    rw[hD'];by_cases hei:e=i
    ·subst hei
     have:k'=k:=by
      rcases Nat.lt_trichotomy k' k with h | h | h
      ·have:=dP hasc _ _ _ _ h he hk;omega
      ·exact h
      ·have:=dP hasc _ _ _ _ h hk he;omega
     simp;omega
    ·rw[if_neg hei,hpre k' e he];constructor
     ·omega
     ·intro h
      rcases lz k' c with h' | h'
      ·exact h'
      ·exfalso
       have hk'c:k'=k:=by omega
       subst hk'c;rw[hk]at he;cases he;exact hei rfl
   exact⟨by rw[hidx,hck],hpre',by omega⟩
  have hclause:=hcl i o ho;unfold Clause at hclause;rw[←hwant]at hclause;unfold wpOp;rw[ho];simp only;split at hclause
  ·
   rename_i hw;rw[eM hf hw];simp only[ke,if_false]
   have hiE:i∉E:=by simpa using hclause.2
   exact next hg (Step.refl s) (by rw[hclause.1];exact .tup [] #[] rfl (by simp)) hc hH (sameE hiE)
  ·rename_i hw;rw[eM hf hw];simp only[if_true];left;split at hclause
   ·
    rename_i f args hcall
    have hin2:f∈o.op.operands∧∀x∈args,x∈o.op.operands:=by
     unfold bH at hcall;split at hcall
     ·rename_i cc hoc;split at hcall
      ·rename_i f' hcal;cases hcall;rw[hoc];simp only[Op.operands,Call.operands,hcal];exact⟨by simp,fun x hx=>by simp;exact .inr (by simpa using hx)⟩
      ·cases hcall
     ·cases hcall
    have hf1:aP (bM ops fr val i) f=aP (eu ops fr val fun i=>listed.getD i false) f:=(hop f hin2.1).symm
    have hf2:args.map (aP (bM ops fr val i))=args.map (aP (eu ops fr val fun i=>listed.getD i false)):=lg fun x hx=>(hop x (hin2.2 x hx)).symm
    split at hclause
    ·rename_i hEi
     have hiE:i∈E:=by simpa using hEi
     obtain⟨hidx,hpre',hcE⟩:=eff hiE;have hcc:=hclause;rw[hidx,←hH]at hcc;rw[hf1,hf2]at hcc;refine gT hcall (hz0.step hs) hg hf hcc (fun u s1 r g1 g2 g3 g4=>?_);obtain⟨rfl,g5⟩:=g4;exact next g1 g2 g3 hcE g5 hpre'
    ·rename_i hEi
     have hiE:i∉E:=by simpa using hEi
     have hcc:=fp hclause c (by simp;omega);rw[if_pos (hpos hiE),←hH]at hcc;rw[hf1,hf2]at hcc;refine gT hcall (hz0.step hs) hg hf hcc (fun u s1 r g1 g2 g3 g4=>?_);obtain⟨rfl,g5⟩:=g4;exact next g1 g2 g3 hc (g5.trans hH) (sameE hiE)
   ·split at hclause
    ·
     rename_i hEi
     have hiE:i∈E:=by simpa using hEi
     obtain⟨hidx,hpre',hcE⟩:=eff hiE;rw[hidx,←aop_congr (ρ:=aP (eu ops fr val fun i=>listed.getD i false)) hop,←hH]at hclause;obtain⟨nx,s1,k1,k2,k3,k4,k5⟩:=ia (P:=P) hT hg (fun x=>hf.eval x) hclause;unfold Oper.wp;rw[k1]
     rcases k5 with⟨u,rfl,hr⟩ | ⟨rfl,hv⟩
     ·rw[Oper.upon_value];exact next k3 k4 hr hcE k2 hpre'
     ·rw[Oper.upon_skip];exact next k3 k4 (by rw[hv];exact .tup [] #[] rfl (by simp)) hcE k2 hpre'
    ·rename_i hEi
     have hiE:i∉E:=by simpa using hEi
     have hcc:=fp hclause c (by simp;omega);rw[if_pos (hpos hiE),←aop_congr (ρ:=aP (eu ops fr val fun i=>listed.getD i false)) hop,←hH]at hcc;obtain⟨nx,s1,k1,k2,k3,k4,k5⟩:=ia (P:=P) hT hg (fun x=>hf.eval x) hcc;unfold Oper.wp;rw[k1]
     rcases k5 with⟨u,rfl,hr⟩ | ⟨rfl,hv⟩
     ·rw[Oper.upon_value];exact next k3 k4 hr hc (k2.trans hH) (sameE hiE)
     ·rw[Oper.upon_skip];exact next k3 k4 (by rw[hv];exact .tup [] #[] rfl (by simp)) hc (k2.trans hH) (sameE hiE)
  ·exact hclause.elim
theorem draw_any(hT:TOk P T){ops:Array Oper}{Q:Exit→List V→List B→Prop}{fr:List V}{H:List B}(E:List Nat)(cv:List (V×List B))
  (h:∀(C:V→List V→List B→(V→List B→Prop)→Prop) (K:List V→List B→Prop),(∀fv args H K',af P fv args H K'→C fv args H K')→(∀fr H,Q .normal fr H→K fr H)→fO T ops E cv C K fr H) (s:St) (a:Act) (hH:At P s H) (hg:Good s) (hf:FRel s fr a.tmps) (hd:a.defers=[]):
  wpAny P .any ops (gV s Q) ops.size (mO ops.size false) a { s.w with drawn:=s.w.drawn+1 }:=by
 obtain⟨rfl,hz0⟩:=hH;have hob:=h (af P) (Q .normal) (fun _ _ _ _ h=>h) (fun _ _ h=>h);unfold fO at hob;split at hob
 ·exact hob.elim
 ·rename_i vs hs f hrun;obtain⟨⟨hst,hlen⟩,hobl,hK⟩:=hob
  let val:Nat→V:=fun i=>(vs[i]?).getD .undef
  have hvl:=runT_len hrun
  have hval:∀k,k<vs.length→vs[k]?=some (val (0+k)):=fun k hk=>by simp[val,hk]
  have hcl:=obl_at (fr0:=fr) (val:=val) ops.toList 0 vs (by simp) hval hobl;have hfr:=jS (fr0:=fr) (val:=val) ops.toList 0 fr s.H cv vs hs f (by simp) rfl hval hrun
  have hfr:f=bM ops fr val ops.size:=by simpa using hfr
  obtain⟨d1,d2⟩:=fT hg (w:={ s.w with drawn:=s.w.drawn+1 }) rfl rfl rfl (kY _) (fun _ _=>rfl)
  have hget:∀j,(mO ops.size false).getD j false=false:=fun j=>by
   rw[Array.getD_eq_getD_getElem?,Array.getElem?_replicate];split<;>rfl
  have hnow:eu ops fr val (fun i=>(mO ops.size false).getD i false)=fr:=by
   apply lj;intro t;rw[fa];exact eO (i:=0) (fun j hj=>absurd hj (by omega)) (fun j _ _=>hget j) ops.size (mH _)
  refine draw_sound hT hz0 (s0:=s) (E:=E) (Hs:=fun c=>((s.H::hs)[c]?).getD []) hst (fun i o ho=>hcl i o (mH _) ho) (fun s' a' k1 k2 k3 k4 k5=>?_) ops.size _ (s.at _) a 0 (by simp) (fun j o _ hj=>by simp only[hget]at hj;cases hj) ?_ (mH _) (fun k e _=>by rw[hget];simp) d1 d2 rfl (by rw[hnow];exact hf.step d2) hd
  ·exact⟨f,s',rfl,k1,k2,by rw[hfr];exact k3,k4,by rw[k5];exact hK⟩
  ·exact lM (List.length_filter_le _ _) (by simp)
theorem W_draw(hT:TOk P T)(hm:P.follows .mixedOrders=true){id:Nat}{ops:Array Oper}{Q:Exit→List V→List B→Prop}{fr:List V}{H:List B}(E:List Nat)(cv:List (V×List B))
  (h:∀(C:V→List V→List B→(V→List B→Prop)→Prop) (K:List V→List B→Prop),(∀fv args H K',af P fv args H K'→C fv args H K')→(∀fr H,Q .normal fr H→K fr H)→fO T ops E cv C K fr H):W P (.region id ops true) Q fr H :=
 fun s a hH hg hf hd=>wp_region_any hm (draw_any hT E cv h s a hH hg hf hd)
end
end Go.AM
namespace Go.AM
open Go
def ib(T:Ty)(ops:Array Oper)(C:V→List V→List B→(V→List B→Prop)→Prop)(K:List V→List B→Prop):List Oper→List V→List B→List V→Prop
 | [],fr,H,_=>K fr H
 | o::rest,fr,H,cv =>
  match bV ops fr o with
  | some true=>match bH o.op with
   | some (f,args)=>match cv with
    | v::cv'=>C (aP fr f) (args.map (aP fr)) H (fun r H'=>r=v∧H'=H)∧ib T ops C K rest (bI fr o.dst v) H cv'
    | []=>False
   | none=>match aop T o.op (aP fr) H with
    | some (v,H')=>H'=H∧ib T ops C K rest (bI fr o.dst v) H cv
    | none=>False
  | some false=>ib T ops C K rest (bI fr o.dst (.tup [])) H cv
  | none=>False
section
variable {P:Program} {T:Ty}
theorem jH(ms:List Nat)(i c:Nat):gH ms [] i c=true:=rfl
theorem fV{ops:Array Oper}{C:V→List V→List B→(V→List B→Prop)→Prop}{K:List V→List B→Prop}{ms:List Nat}{H:List B} : ∀(l:List Oper) (i:Nat) (fr:List V) (cv:List V),ib T ops C K l fr H cv →
  ∃vs f,vs.length=l.length∧cW T ops C ms [] (fun _=>H) l i fr vs∧cU T ops [] l i fr H (cv.map fun v=>(v,[]))=some (vs,[],f)∧K f H
 | [],i,fr,cv,h=>⟨[],fr,rfl,trivial,rfl,h⟩
 | o::rest,i,fr,cv,h=>by
  simp only[ib]at h;split at h
  ·rename_i hw;split at h
   ·rename_i f args hc;split at h
    ·rename_i v cv';obtain⟨h1,h2⟩:=h;obtain⟨vs,f',k1,k2,k3,k4⟩:=fV rest (i+1) _ cv' h2;exact⟨v::vs,f',by simp[k1],⟨by simp only[hw,hc];simpa[dx,jH,mP] using h1,k2⟩,by simp[cU,hw,hc,k3],k4⟩
    ·exact h.elim
   ·rename_i hc;split at h
    ·rename_i v H' hop;obtain⟨rfl,h2⟩:=h;obtain⟨vs,f',k1,k2,k3,k4⟩:=fV rest (i+1) _ cv h2;exact⟨v::vs,f',by simp[k1],⟨by simp only[hw,hc];simpa[dx,jH,mP] using hop,k2⟩,by simp[cU,hw,hc,hop,k3],k4⟩
    ·exact h.elim
  ·rename_i hw;obtain⟨vs,f',k1,k2,k3,k4⟩:=fV rest (i+1) _ cv h;exact⟨.tup []::vs,f',by simp[k1],⟨by simp[hw],k2⟩,by simp[cU,hw,k3],k4⟩
  ·exact h.elim
theorem quiet_ob{ops:Array Oper}{C:V→List V→List B→(V→List B→Prop)→Prop}{K:List V→List B→Prop}{fr:List V}{H:List B}(cv:List V)(hst:gD ops []=true)(h:ib T ops C K ops.toList fr H cv):fO T ops [] (cv.map fun v=>(v,[])) C K fr H:=by
 obtain⟨vs,f,k1,k2,k3,k4⟩:=fV (ms:=aY [] ops.toList) ops.toList 0 fr cv h;unfold fO;rw[k3];refine⟨⟨hst,rfl⟩,?_,by simpa using k4⟩;have:(fun c=>(([H]:List (List B))[c]?).getD []) 0=H:=rfl;exact obl_heap ops.toList 0 fr vs k2
where
 obl_heap {ops:Array Oper} {C:V→List V→List B→(V→List B→Prop)→Prop} {ms:List Nat} {H:List B} : ∀(l:List Oper) (i:Nat) (fr vs:List V),cW T ops C ms [] (fun _=>H) l i fr vs→cW T ops C ms [] (fun c=>(([H]:List (List B))[c]?).getD []) l i fr vs
  | [],_,_,_,_=>trivial
  | _::_,_,_,[],h=>h
  | o::rest,i,fr,v::vs,h=>by
   obtain⟨h1,h2⟩:=h;refine⟨?_,obl_heap rest (i+1) _ vs h2⟩
   cases hw:bV ops fr o with
   | none=>rw[hw]at h1;exact h1
   | some b =>
    rw[hw]at h1;cases b
    ·exact h1
    ·simp only at h1 ⊢
     cases hc:bH o.op with
     | none=>rw[hc]at h1;simpa[dx,jH,mP] using h1
     | some p =>
      obtain⟨f,args⟩:=p;rw[hc]at h1;simpa[dx,jH,mP] using h1
theorem W_quiet(hT:TOk P T)(hm:P.follows .mixedOrders=true){id:Nat}{ops:Array Oper}{Q:Exit→List V→List B→Prop}{fr:List V}{H:List B}(cv:List V)(hst:gD ops []=true)
  (h:∀(C:V→List V→List B→(V→List B→Prop)→Prop) (K:List V→List B→Prop),(∀fv args H K',af P fv args H K'→C fv args H K')→(∀fr H,Q .normal fr H→K fr H)→ib T ops C K ops.toList fr H cv):W P (.region id ops true) Q fr H :=
 W_draw hT hm [] (cv.map fun v=>(v,[])) fun C K hC hK=>quiet_ob cv hst (h C K hC hK)
end
@[simp] theorem nilCmp_tmp (T:Ty) (t:TypeId) (op:BinOp) (x v:V) (n:Nat):cA T t op x v (.tmp n)=none:=rfl
@[simp] theorem nilCmp_int (T:Ty) (t:TypeId) (op:BinOp) (x v:V) (k:IntKind) (n:Int):cA T t op x v (.const (.int k n))=none:=rfl
@[simp] theorem nilCmp_str (T:Ty) (t:TypeId) (op:BinOp) (x v:V) (s:ByteArray):cA T t op x v (.const (.string s))=none:=rfl
@[simp] theorem nilCmp_bool (T:Ty) (t:TypeId) (op:BinOp) (x v:V) (b:Bool):cA T t op x v (.const (.bool b))=none:=rfl
@[simp] theorem nilCmp_slc (T:Ty) (t:TypeId) (op:BinOp) (x v:V) (a:Option Addr) (l c:Nat):cA T t op x v (.const (.slice a l c))=none:=rfl
@[simp] theorem nilCmp_ptr (T:Ty) (t:TypeId) (op:BinOp) (x v:V) (a:Option Addr):cA T t op x v (.const (.pointer a))=none:=rfl
@[simp] theorem nilCmp_map (T:Ty) (t:TypeId) (op:BinOp) (x v:V) (a:Option Nat):cA T t op x v (.const (.map a))=none:=rfl
@[simp] theorem nilCmp_fn (T:Ty) (t:TypeId) (op:BinOp) (x v:V):cA T t op x v (.const .nilFunc)=none:=rfl
@[simp] theorem nilCmp_agg (T:Ty) (t:TypeId) (op:BinOp) (x v:V) (cs:Array Value):cA T t op x v (.const (.agg cs))=none:=rfl
@[simp] theorem nilCmp_glb (T:Ty) (t:TypeId) (op:BinOp) (x v:V) (g:Nat):cA T t op x v (.global g)=none:=rfl
@[simp] theorem nilCmp_func (T:Ty) (t:TypeId) (op:BinOp) (x v:V) (f:FuncId):cA T t op x v (.func f)=none:=rfl
@[simp] theorem nilCmp_nil (T:Ty) (t:TypeId) (op:BinOp) (x v:V):cA T t op x v (.const .nilIface)=match T t with
  | some i=>match i.desc with
   | .interface _=>match op,x,v with
    | .eql,.nilI,.nilI=>some true
    | .eql,.ifc,.nilI=>some false
    | .neq,.nilI,.nilI=>some false
    | .neq,.ifc,.nilI=>some true
    | _,_,_=>none
   | _=>none
  | none=>none:=rfl
attribute [simp] eL ib bV bH aop aP bI boxA allocA V.cells V.one fF jc fE eb fieldA jl ew bL binTA binA eqA unA convA iD clearA lenA fJ foldA max2A min2A eV indexA gx sliceA bU makeA jo jN srcA srcT buildA fW gw bO dm gf storeA fZ ji kkOf jJ okRes fL bP iz ah et dY putA bo gZ ii retQ
@[simp ↓] theorem thenQ_normal (N:List V→List B→Prop) (Q:Exit→List V→List B→Prop) (fr:List V) (H:List B):gX N Q .normal fr H↔N fr H:=⟨fun h=>h,fun h=>h⟩
@[simp ↓] theorem thenQ_ret (N:List V→List B→Prop) (Q:Exit→List V→List B→Prop) (fr:List V) (H:List B):gX N Q .ret fr H↔Q .ret fr H:=⟨fun h=>h,fun h=>h⟩
@[simp ↓] theorem thenQ_exit (N:List V→List B→Prop) (Q:Exit→List V→List B→Prop) (i:Nat) (fr:List V) (H:List B):gX N Q (.exit i) fr H↔Q (.exit i) fr H:=⟨fun h=>h,fun h=>h⟩
@[simp ↓] theorem blockQ_normal (id:Nat) (Q:Exit→List V→List B→Prop) (fr:List V) (H:List B):dw id Q .normal fr H↔Q .normal fr H:=⟨fun h=>h,fun h=>h⟩
@[simp ↓] theorem blockQ_ret (id:Nat) (Q:Exit→List V→List B→Prop) (fr:List V) (H:List B):dw id Q .ret fr H↔Q .ret fr H:=⟨fun h=>h,fun h=>h⟩
@[simp ↓] theorem blockQ_same (id:Nat) (Q:Exit→List V→List B→Prop) (fr:List V) (H:List B):dw id Q (.exit id) fr H↔Q .normal fr H:=by unfold dw;simp only[if_true]
@[simp ↓] theorem blockQ_other (id j:Nat) (h:¬j=id) (Q:Exit→List V→List B→Prop) (fr:List V) (H:List B):dw id Q (.exit j) fr H↔Q (.exit j) fr H:=by unfold dw;simp only[if_neg h]
end Go.AM
namespace Go.AM
open Go
def ic:List V→List V→Prop
 | [],[]=>True
 | x::xs,y::ys=>(x = .undef∨x=y)∧ic xs ys
 | _,_=>False
theorem ic.len:∀{xs ys:List V},ic xs ys→xs.length=ys.length
 | [],[],_=>rfl
 | [],_::_,h=>h.elim
 | _::_,[],h=>h.elim
 | _::_,_::_,h=>by simp[h.2.len]
theorem ic.at_:∀{xs ys:List V},ic xs ys→∀(i:Nat) x y,xs[i]?=some x→ys[i]?=some y→x = .undef∨x=y
 | [],_,_,i,x,y,h,_=>by simp at h
 | _::_,[],h,_,_,_,_,_=>h.elim
 | a::xs,b::ys,h,0,x,y,h1,h2=>by simp at h1 h2;subst h1;subst h2;exact h.1
 | a::xs,b::ys,h,i+1,x,y,h1,h2=>h.2.at_ i x y (by simpa using h1) (by simpa using h2)
def rb1(n:Nat):V→Prop
 | .buf k _ _ _ | .ptr k _ | .pbuf k _ _ _ | .map k | .sarr k _=>k<n
 | .lst _ _ xs=>∀x∈xs,Pure x
 | .pin cs _=>∀c∈cs,Pure c
 | .agg _ | .tup _ | .undef=>False
 | .fn _ caps=>caps=[]
 | _=>True
def rb(n:Nat):V→Prop
 | .agg cs=>∀c∈cs,rb1 n c
 | .tup vs=>∀c∈vs,rb1 n c
 | .fn _ caps=>∀c∈caps,rb1 n c
 | .undef=>True
 | v=>rb1 n v
def rbB(n:Nat):B→Prop
 | .cells cs=>∀c∈cs,rb n c
 | .map _ es=>∀p∈es,rb n p.1∧rb n p.2
 | .buf _ _ xs _=>∀x∈xs,∀c∈x.cells,rb n c
section
variable {P:Program} {T:Ty} {s:St}
def St.cut(s:St)(H:List B):St:={ s with H:=H }
theorem ei{H G:List B}(hH:s.H=H++G){k:Nat}(h:Lv (s.cut H) k):Lv s k:=by
 have hk:k<H.length:=h.1;exact⟨by rw[hH];simp;omega,fun e z xs fz hb=>h.2 e z xs fz (by rw[hH,kU hk]at hb;exact hb)⟩
theorem eI{H G:List B}(hH:s.H=H++G){b:Nat}(hp:s.Prot b):(s.cut H).Prot b:=by
 refine⟨hp.1,hp.2.1,fun k hk e=>?_⟩;have hk':k<H.length:=hk.1;obtain⟨e1,z,xs,h⟩:=hp.2.2 k (ei hH hk) e;rw[hH,kU hk']at h;exact⟨e1,z,xs,h⟩
theorem cM{H G:List B}(hH:s.H=H++G){v:V}{u:Value}(h:Rel s v u)(hv:rb1 H.length v):Rel (s.cut H) v u:=by
 have get:∀k bl,k<H.length→s.H[k]?=some bl→(s.cut H).H[k]?=some bl:=fun k bl hk hb=>by rw[hH,kU hk]at hb;exact hb
 have hw:∀b,s.Prot b→(s.cut H).Prot b∧(s.cut H).w.heap[b]?=s.w.heap[b]?:=fun b hb=>⟨eI hH hb,rfl⟩
 cases h with
 | undef u=>cases hv
 | bool b=>exact .bool b
 | int k n=>exact .int k n
 | str x=>exact .str x
 | nilS=>exact .nilS
 | lst z full xs A cap b off u a1 a2 a3 a4 a5 a6=>exact(Rel.lst z full xs A cap b off u a1 a2 a3 a4 a5 a6).pure_ (.lst _ _ _ hv) hw
 | buf k off len tot e z xs fz A l c hk ht hh=>exact .buf k off len tot e z xs fz A l c (get k _ hv hk) ht hh
 | nilP=>exact .nilP
 | ptr k off cs hk=>exact .ptr (s:=s.cut H) k off cs (get k _ hv hk)
 | pin cs off b o u a1 a2 a3 a4=>exact(Rel.pin cs off b o u a1 a2 a3 a4).pure_ (.pin _ _ hv) hw
 | pbuf k i off tot e z xs fz p hk ht hh=>exact .pbuf k i off tot e z xs fz p (get k _ hv hk) ht hh
 | sarr k n cs hk=>exact .sarr (s:=s.cut H) k n cs (get k _ hv hk)
 | nilM=>exact .nilM
 | map k kk es hk=>exact .map (s:=s.cut H) k kk es (get k _ hv hk)
 | fn f caps us hl hh=>simp only[rb1]at hv;subst hv;exact .fn f [] us hl (fun i c u hc=>by simp at hc)
 | nilFn=>exact .nilFn
 | nilI=>exact .nilI
 | ifc t x=>exact .ifc t x
 | agg cs us hl h1 hh=>cases hv
 | tup vs us hl hh=>cases hv
theorem fk{H G:List B}(hH:s.H=H++G){v:V}{u:Value}(h:Rel s v u)(hv:rb H.length v):Rel (s.cut H) v u:=by
 cases h with
 | undef u=>exact .undef u
 | agg cs us hl h1 hh=>exact .agg cs us hl h1 (fun i c u a b=>cM hH (hh i c u a b) (hv c (kS a)))
 | tup vs us hl hh=>exact .tup vs us hl (fun i c u a b=>cM hH (hh i c u a b) (hv c (kS a)))
 | fn f caps us hl hh=>exact .fn f caps us hl (fun i c u a b=>cM hH (hh i c u a b) (hv c (kS a)))
 | bool b=>exact .bool b
 | int k n=>exact .int k n
 | str x=>exact .str x
 | nilS=>exact .nilS
 | lst z full xs A cap b off u a1 a2 a3 a4 a5 a6=>exact cM hH (.lst z full xs A cap b off u a1 a2 a3 a4 a5 a6) hv
 | buf k off len tot e z xs fz A l c hk ht hh=>exact cM hH (.buf k off len tot e z xs fz A l c hk ht hh) hv
 | nilP=>exact .nilP
 | ptr k off cs hk=>exact cM hH (.ptr k off cs hk) hv
 | pin cs off b o u a1 a2 a3 a4=>exact cM hH (.pin cs off b o u a1 a2 a3 a4) hv
 | pbuf k i off tot e z xs fz p hk ht hh=>exact cM hH (.pbuf k i off tot e z xs fz p hk ht hh) hv
 | sarr k n cs hk=>exact cM hH (.sarr k n cs hk) hv
 | nilM=>exact .nilM
 | map k kk es hk=>exact cM hH (.map k kk es hk) hv
 | nilFn=>exact .nilFn
 | nilI=>exact .nilI
 | ifc t x=>exact .ifc t x
theorem cut_good{H G:List B}(hg:Good s)(hH:s.H=H++G)(hb:∀bl∈H,rbB H.length bl):Good (s.cut H):=by
 refine⟨hg.fl,fun k hk=>hg.lt k (ei hH hk),fun j k hj hk=>hg.inj j k (ei hH hj) (ei hH hk),fun k bl hk=>?_⟩;have hk':H[k]?=some bl:=hk
 have hs:s.H[k]?=some bl:=by rw[hH,kU (getElem?_lt hk')];exact hk'
 have hr:=hg.blk k bl hs;have hbl:=hb bl (kS hk')
 cases bl with
 | cells cs =>
  obtain⟨h1,vs,t,h2,h3,h4⟩:=hr;exact⟨h1,vs,t,h2,h3,fun i c u a b=>fk hH (h4 i c u a b) (hbl c (kS a))⟩
 | map kk es =>
  obtain⟨h1,ms,cl,h2,h3,h4⟩:=hr;exact⟨h1,ms,cl,h2,h3,fun i p m a b=>⟨fk hH (h4 i p m a b).1 (hbl p (kS a)).1,fk hH (h4 i p m a b).2 (hbl p (kS a)).2⟩⟩
 | buf e z xs fz =>
  obtain⟨vs,h2,h3,h4,h5,h6,h7⟩:=hr;exact⟨vs,h2,h3,h4,h5,h6,fun i x j c u a b d=>fk hH (h7 i x j c u a b d) (hbl x (kS a) c (kS b))⟩
theorem kD{H G:List B}(_hg:Good s)(hH:s.H=H++G){s':St}(h:Step (s.cut H) s'):∀s0,Step s0 s→(s0.H.length≤H.length)→Step s0 s':=by
 intro s0 h0 hl;have hs0len:=h0.len;refine⟨h.F.trans h0.F,h.os.trans h0.os,h.tape.trans h0.tape,h.output.trans h0.output,lM h0.size h.size,fun b hb hk=>?_,lM hl h.len,fun k h1 h2=>?_,fun k bl hk=>?_⟩
 ·have hsz:b<s.w.heap.size:=lF hb h0.size;rw[h.out b hsz (fun k hkl e=>?_),←h0.out b hb hk]
  ·rfl
  ·have hkl':k<H.length:=hkl.1;have hls:=ei hH hkl;by_cases hk0:k<s0.H.length
   ·have hbk:s0.H[k]?=some s0.H[k]:=kR hk0;have hst:=h0.keep k _ hbk;generalize s0.H[k]=bl at hbk hst;have e':s.φ k=b:=e
    cases bl with
    | cells cs=>exact hk k (lvC hbk) (hst.1.symm.trans e')
    | map kk es=>exact hk k (lvM hbk) (hst.1.symm.trans e')
    | buf e0 z xs fz =>
     obtain⟨_,_,hb',_,_,_,hp,hdead⟩:=hst
     rcases hp with hp | hp
     ·by_cases hz:s0.κ k=0
      ·rcases hdead hz with h9 | h9
       ·exact absurd h9 (hls.2 _ _ _ _ hb')
       ·omega
      ·exact hk k (lvB hbk hz) (hp.symm.trans e')
     ·omega
   ·have:=h0.new k (by omega) hls;have e':s.φ k=b:=e;omega
 ·by_cases hkH:k<H.length
  ·have hbk:H[k]?=some H[k]:=kR hkH;have hst:=h.keep k _ (show(s.cut H).H[k]?=_ from hbk);have hsz:=h0.size;generalize H[k]=bl at hbk hst
   have hbs:s.H[k]?=some bl:=by rw[hH,kU hkH];exact hbk
   cases bl with
   | cells cs=>rw[hst.1];exact h0.new k h1 (lvC hbs)
   | map kk es=>rw[hst.1];exact h0.new k h1 (lvM hbs)
   | buf e0 z xs fz =>
    obtain⟨_,_,hb',_,_,_,hp,hdead⟩:=hst;have hdead':s.κ k=0→s'.κ k=0∨s.w.heap.size≤s'.φ k:=hdead
    rcases hp with hp | hp
    ·by_cases hz:s.κ k=0
     ·rcases hdead' hz with h9 | h9
      ·exact absurd h9 (h2.2 _ _ _ _ hb')
      ·omega
     ·rw[hp];exact h0.new k h1 (lvB hbs hz)
    ·have:s.w.heap.size≤s'.φ k:=hp;omega
  ·have hn:s.w.heap.size≤s'.φ k:=h.new k (by show H.length≤k;omega) h2;have:=h0.size;omega
 ·have hk0:=getElem?_lt hk;have h1:=h0.keep k bl hk
  have cutget:∀bl',s.H[k]?=some bl'→(s.cut H).H[k]?=some bl':=fun bl' hb=>by rw[hH,kU (by omega)]at hb;exact hb
  cases bl with
  | cells cs =>
   obtain⟨e1,cs',hc⟩:=h1;obtain⟨e2,r⟩:=h.keep k _ (cutget _ hc);exact⟨e2.trans e1,r⟩
  | map kk es =>
   obtain⟨e1,cs',hc⟩:=h1;obtain⟨e2,r⟩:=h.keep k _ (cutget _ hc);exact⟨e2.trans e1,r⟩
  | buf e z xs fz =>
   obtain⟨xs1,fz1,hc,l1,q1,f1,p1,d1⟩:=h1;obtain⟨xs2,fz2,hd,l2,q2,f2,p2,d2⟩:=h.keep k _ (cutget _ hc);refine⟨xs2,fz2,hd,lM l1 l2,fun he=>?_,fun hf=>?_,?_,fun hz=>?_⟩
   ·obtain⟨a1,a2⟩:=q1 (by omega);obtain⟨b1,b2⟩:=q2 (by omega);exact⟨b1.trans a1,b2.trans a2⟩
   ·obtain⟨a1,a2,a3⟩:=f1 hf;obtain⟨b1,b2,b3⟩:=f2 a1;obtain⟨e1,e2⟩:=q1 (by rw[a2]);have b3':s.κ k≠0→s'.w.heap[s.φ k]?=s.w.heap[s.φ k]?:=b3;rw[e1,e2]at b3';exact⟨b1,b2.trans a2,fun hz=>(b3' hz).trans (a3 hz)⟩
   ·have:=h0.size
    rcases p2 with p2 | p2
    ·have p2':s'.φ k=s.φ k:=p2
     rcases p1 with p1 | p1
     ·exact .inl (p2'.trans p1)
     ·exact .inr (by omega)
    ·have p2':s.w.heap.size≤s'.φ k:=p2;exact .inr (by omega)
   ·have:=h0.size;have d2':s.κ k=0→s'.κ k=0∨s.w.heap.size≤s'.φ k:=d2
    rcases d1 hz with h9 | h9
    ·rcases d2' h9 with h8 | h8
     ·exact .inl h8
     ·exact .inr (by omega)
    ·rcases p2 with p2 | p2
     ·have p2':s'.φ k=s.φ k:=p2;exact .inr (by omega)
     ·have p2':s.w.heap.size≤s'.φ k:=p2;exact .inr (by omega)
theorem W_loopS{σ:Type}(ok:σ→Prop)(μ:σ→Nat)(F:σ→List V)(Hf:σ→List B){c:Code}{Q:Exit→List V→List B→Prop}{fr:List V}{H:List B}(x0:σ)(h0:ok x0)(hF:ic (F x0) fr)(hH:H=Hf x0)
  (hmin:∀x,ok x→H.length≤(Hf x).length)
  (hround:∀x,ok x→W P c (gX (fun fr' H'=>∃y,ok y∧μ y<μ x∧ic (F y) fr'∧(∃G,H'=Hf y++G)∧(∀v∈F y,rb (Hf y).length v)∧∀bl∈Hf y,rbB (Hf y).length bl) Q) (F x) (Hf x)):W P (.loop c) Q fr H:=by
 intro s a h1 h2 h3 h4
 let J:Nat→Act→World→Prop:=fun n a' w'=>∃x s',ok x∧n=μ x∧s'.w=w'∧Good s'∧s'.H=Hf x∧(∀t,Step s' t→Step s t)∧FRel s' (F x) a'.tmps∧a'.defers=[]∧GOk P s'
 have less_rel:∀{s':St} {f g:List V} {tmps:Array Value},ic f g→FRel s' g tmps→FRel s' f tmps:=fun {s' f g tmps} hl hf=>by
  refine⟨by rw[hf.len,hl.len],fun i v u hv hu=>?_⟩
  have hi:i<g.length:=by have:=getElem?_lt hv;rw[hl.len]at this;exact this
  have hg':g[i]?=some g[i]:=kR hi
  rcases hl.at_ i v _ hv hg' with rfl | e
  ·exact .undef _
  ·rw[e];exact hf.rel i _ u hg' hu
 have hex:∃ν:Act→World→Nat,∀a' w',(∃m,J m a' w')→J (ν a' w') a' w'∧∀m,m<ν a' w'→¬J m a' w':=by
  have:∀p:Act×World,∃n,(∃m,J m p.1 p.2)→J n p.1 p.2∧∀m,m<n→¬J m p.1 p.2:=fun p=>by
   by_cases h:∃m,J m p.1 p.2
   ·obtain⟨n,k1,k2⟩:=gy h;exact⟨n,fun _=>⟨k1,k2⟩⟩
   ·exact⟨0,fun h'=>absurd h' h⟩
  obtain⟨f,hf⟩:=Classical.axiomOfChoice this;exact⟨fun a' w'=>f (a',w'),fun a' w' h=>hf (a',w') h⟩
 obtain⟨ν,hν⟩:=hex;refine wp_loop (fun a' w'=>∃m,J m a' w') ν ⟨μ x0,x0,s,h0,rfl,rfl,h2,by rw[h1.1,hH],fun _ h=>h,less_rel hF h3,h4,h1.2⟩ (fun a' w' hI=>?_);obtain⟨⟨x,s',k1,k2,rfl,k4,k5,k6,k7,k8,k9⟩,hleast⟩:=hν a' w' hI
 refine wp_mono (hround x k1 s' a' ⟨k5,k9⟩ k4 k7 k8) fun e a'' w'' hl=>?_
 obtain⟨fr'',s'',rfl,c2,c3,c4,c5,c6⟩:=hl
 cases e with
 | normal =>
  obtain⟨y,y1,y2,y3,⟨G,y4⟩,y5,y6⟩:=c6
  have hJ:J (μ y) a'' s''.w:=by
   refine⟨y,s''.cut (Hf y),y1,rfl,rfl,cut_good c2 y4 y6,rfl,fun t ht=>?_,?_,c5,(k9.step c3).of fun b hb=>⟨eI y4 hb,rfl⟩⟩
   ·refine kD c2 y4 ht s (k6 s'' c3) ?_;rw[h1.1];exact hmin y y1
   ·have hf:=less_rel y3 c4;exact⟨hf.len,fun i v u hv hu=>fk y4 (hf.rel i v u hv hu) (y5 v (kS hv))⟩
  refine⟨⟨μ y,hJ⟩,?_⟩;obtain⟨_,hm'⟩:=hν a'' s''.w ⟨μ y,hJ⟩
  rcases lz (μ y) (ν a'' s''.w) with h | h
  ·exact absurd hJ (hm' _ h)
  ·omega
 | _=>exact⟨fr'',s'',rfl,c2,k6 s'' c3,c4,c5,c6⟩
end
attribute [simp] ic rb rb1 rbB
end Go.AM
namespace Go.AM
open Go
@[simp] theorem pure_bool (b:Bool):Pure (.bool b):=.bool b
@[simp] theorem pure_int (k:IntKind) (n:Int):Pure (.int k n):=.int k n
@[simp] theorem pure_str (x:ByteArray):Pure (.str x):=.str x
@[simp] theorem pure_nilS:Pure .nilS:=.nilS
@[simp] theorem pure_nilP:Pure .nilP:=.nilP
@[simp] theorem pure_nilM:Pure .nilM:=.nilM
@[simp] theorem pure_nilFn:Pure .nilFn:=.nilFn
@[simp] theorem pure_nilI:Pure .nilI:=.nilI
@[simp] theorem pure_ifc:Pure .ifc:=.ifc
@[simp] theorem pure_fn (f:FuncId):Pure (.fn f []):=.fn f
@[simp] theorem pure_lst (z:Nat) (full:Bool) (xs:List V):Pure (.lst z full xs)↔∀x∈xs,Pure x:=⟨fun h=>by cases h;assumption,.lst z full xs⟩
@[simp] theorem pure_pin (cs:List V) (o:Nat):Pure (.pin cs o)↔∀x∈cs,Pure x:=⟨fun h=>by cases h;assumption,.pin cs o⟩
@[simp] theorem pure_agg (cs:List V):Pure (.agg cs)↔∀x∈cs,Pure x:=⟨fun h=>by cases h;assumption,.agg cs⟩
@[simp] theorem pure_tup (cs:List V):Pure (.tup cs)↔∀x∈cs,Pure x:=⟨fun h=>by cases h;assumption,.tup cs⟩
theorem cr{P:Program}{f:FuncId}{args:List V}{H:List B}{v:V}(h:ab P f args fun r=>r=v)(hp:∀a∈args,Pure a):af P (.fn f []) args H fun r H'=>r=v∧H'=H:=by
 simp only[af,kp]
 refine(ek h rfl (fun i a a' h1 h2=>?_) (.inl hp)).mono fun r H' ⟨h1,_,h3⟩=>⟨h3,h1⟩
 have:a=a':=by rw[h1]at h2;exact Option.some.inj h2
 subst this;exact .pure a (hp a (kS h1))
theorem callK{P:Program}{f:FuncId}{args:List V}{H:List B}{K:V→Prop}(h:ab P f args K)(hp:∀a∈args,Pure a):af P (.fn f []) args H fun r H'=>H'=H∧Pure r∧K r:=by
 simp only[af,kp];refine ek h rfl (fun i a a' h1 h2=>?_) (.inl hp)
 have:a=a':=by rw[h1]at h2;exact Option.some.inj h2
 subst this;exact .pure a (hp a (kS h1))
end Go.AM
end
