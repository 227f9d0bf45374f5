/- JM4: own texts of this seat, joined and shortened by pack4.py: AMd. -/
import Derived.Test.YtdnhplencamncaaGreatDoorJM3
import Derived.KernelRfl
import Derived.Orders
set_option linter.unusedVariables false
set_option linter.unusedSimpArgs false
set_option maxRecDepth 100000
set_option maxHeartbeats 64000000
open Array renaming getD_eq_getD_getElem?→qA,getElem?_setIfInBounds_ne→qJ,getElem?_eq_none→qX,replicate→qq,getElem?_replicate→qx,getD→rA,all_eq_true'→rL
open Bool renaming and_eq_true→oP,false_eq_true→oZ,or_eq_true→pW,not_eq_true'→pZ,eq_iff_iff→qS
open List renaming getElem?_eq_getElem→oG,mem_of_getElem?→oH,getElem_mem→oI,getElem?_append_left→oL,range→oM,getElem?_set_ne→oQ,append_nil→oU,getElem?_set_self→oX,getElem?_map→oc,map_congr_left→oo,map_cons→oq,getElem?_take→pD,nil_append→pH,getElem?_eq_none→pK,all_eq_true→pR,ext_getElem?→pT,eq_nil_of_length_eq_zero→pX,length_filter_le→pf,range_succ→pv,mem_append→qB,mem_filter→qF,mem_range→qK,getElem?_of_mem→qU,getElem?_set→qY,getElem?_range→qZ,map_map→qu,filter_cons→rE,all_cons→rh,foldl_cons→ri,tail→rx
open Nat renaming le_refl→oJ,lt_of_lt_of_le→om,lt_or_ge→pS,le_trans→pY,add_assoc→pm,zero_le→qV,strongRecOn→rK,mul_one→rO,lt_trichotomy→rQ,sub_zero→rR
open Option renaming map_some→pB,getD_some→qG,bind_some→qe
section
namespace Go.AM
open Go
section
variable {P:Program}
theorem find_now{d:TypeDesc}{kk:KK}(hnow:∀a b,ag a=some kk→ag b=some kk→Instr.sameNow d (cH a) (cH b)=some (bB a b)){v:V}(hv:ag v=some kk):
  ∀(ks:List V) (es:List MapEntry) (n:Nat),(∀k∈ks,ag k=some kk)→es.map (·.key)=ks.map cH →
   ∃r,Instr.findNow d (cH v) es n=some r∧((r=none∧∀k∈ks,bB v k=false)∨
    ∃i k e,r=some (n+i,e.val)∧ks[i]?=some k∧es[i]?=some e∧bB v k=true∧∀j k',j<i→ks[j]?=some k'→bB v k'=false)
 | [],[],n,_,_=>⟨none,rfl,.inl ⟨rfl,by simp⟩⟩
 | [],_::_,n,_,h=>by simp at h
 | _::_,[],n,_,h=>by simp at h
 | k::ks,e::es,n,hk,h=>by
  simp only[oq,List.cons.injEq]at h;obtain⟨h1,h2⟩:=h;have hn:=hnow v k hv (hk k (by simp));rw[←h1]at hn;cases hq:bB v k
  ·rw[hq]at hn;obtain⟨r,hr,hres⟩:=find_now hnow hv ks es (n+1) (fun x hx=>hk x (by simp[hx])) h2;refine⟨r,by simp[Instr.findNow,hn,hr],?_⟩
   rcases hres with⟨rfl,hno⟩ | ⟨i,k',e',rfl,q1,q2,q3,q4⟩
   ·exact .inl ⟨rfl,fun x hx=>(List.mem_cons.1 hx).elim (fun e=>by rw[e];exact hq) (hno x)⟩
   ·refine .inr ⟨i+1,k',e',by rw[pm,Nat.add_comm 1 i],by simpa using q1,by simpa using q2,q3,fun j k'' hj hk''=>?_⟩
    cases j with
    | zero=>simp at hk'';subst hk'';exact hq
    | succ j=>exact q4 j k'' (by omega) (by simpa using hk'')
  ·rw[hq]at hn;exact⟨some (n,e.val),by simp[Instr.findNow,hn],.inr ⟨0,k,e,rfl,rfl,rfl,hq,fun j _ hj=>absurd hj (by omega)⟩⟩
theorem law_now{t:TypeId}{d:TypeDesc}{kk:KK}(hu:P.underlying t=some d)(hnow:∀a b,ag a=some kk→ag b=some kk→Instr.sameNow d (cH a) (cH b)=some (bB a b))
  (hc:∀(w:World) (em:Bool) (v:V),ag v=some kk→(Instr.checkKey em 10000 t (cH v)).run P w = .ok () w):KLaw P t kk where
 check:=hc
 find w v ks es hv hk h:=by
  obtain⟨r,hr,hres⟩:=find_now hnow hv ks es 0 hk h;refine⟨r,by simp[Instr.findKey,run_underlying hu,hr],?_⟩;simpa using hres
theorem iQ(t:TypeId)(em:Bool)(v:Value):Instr.checkKey em 10000 t v=Instr.checkKey em (9999+1) t v:=rfl
theorem int_law{t:TypeId}{k:IntKind}(hu:P.underlying t=some (.int k)):KLaw P t (.int k):=by
 have shape:∀a,ag a=some (.int k)→∃n,a = .int k n:=fun a ha=>by
  cases a<;>simp only[ag]at ha<;>try (cases ha;done)
  ·cases ha;exact⟨_,rfl⟩
  ·split at ha<;>cases ha
 refine law_now hu (fun a b ha hb=>?_) (fun w em v hv=>?_)
 ·obtain⟨n,rfl⟩:=shape a ha;obtain⟨m,rfl⟩:=shape b hb;simp[cH,da,Instr.sameNow,bB]
 ·obtain⟨n,rfl⟩:=shape v hv;rw[iQ,Instr.checkKey];simp[run_underlying hu,cH,da]
theorem str_law{t:TypeId}(hu:P.underlying t=some .string):KLaw P t .str:=by
 have shape:∀a,ag a=some .str→∃n,a = .str n:=fun a ha=>by
  cases a<;>simp only[ag]at ha<;>try (cases ha;done)
  ·exact⟨_,rfl⟩
  ·split at ha<;>cases ha
 refine law_now hu (fun a b ha hb=>?_) (fun w em v hv=>?_)
 ·obtain⟨n,rfl⟩:=shape a ha;obtain⟨m,rfl⟩:=shape b hb;simp[cH,da,Instr.sameNow,bB]
 ·obtain⟨n,rfl⟩:=shape v hv;rw[iQ,Instr.checkKey];simp[run_underlying hu,cH,da]
theorem bool_law{t:TypeId}(hu:P.underlying t=some .bool):KLaw P t .bool:=by
 have shape:∀a,ag a=some .bool→∃n,a = .bool n:=fun a ha=>by
  cases a<;>simp only[ag]at ha<;>try (cases ha;done)
  ·exact⟨_,rfl⟩
  ·split at ha<;>cases ha
 refine law_now hu (fun a b ha hb=>?_) (fun w em v hv=>?_)
 ·obtain⟨n,rfl⟩:=shape a ha;obtain⟨m,rfl⟩:=shape b hb;simp[cH,da,Instr.sameNow,bB]
 ·obtain⟨n,rfl⟩:=shape v hv;rw[iQ,Instr.checkKey];simp[run_underlying hu,cH,da]
theorem tok_of{T:Ty}(h:∀t i,T t=some i→P.underlying t=some i.desc∧(P.info? t).map (fun j=>(j.size,j.bytes,j.zero))=some (i.size,i.bytes,some i.zval)∧gh i.zval=some i.zero∧i.zero.cells.length=i.size∧(∀kk,i.kk=some kk→KLaw P t kk)∧(i.eq=true→P.stoodInHeld t=false∧P.eqGuardType P.depth t=false)):TOk P T where
 key t i kk hi hk:=(h t i hi).2.2.2.2.1 kk hk
 eq t i hi he:=(h t i hi).2.2.2.2.2 he
 und t i hi:=(h t i hi).1
 info t i hi:=by
  obtain⟨_,h2,h3,h4,_⟩:=h t i hi
  cases hp:P.info? t with
  | none=>rw[hp]at h2;cases h2
  | some j =>
   rw[hp]at h2;simp only[pB,Option.some.injEq,Prod.mk.injEq]at h2;exact⟨j,rfl,h2.1,h2.2.1,h2.2.2,h3,h4⟩
end
end Go.AM
namespace Go.AM
open Go
theorem all_i64{cs:List V}(h:cs.all gS=true):∃ns:List Int,cs=ns.map (V.int .i64):=by
 induction cs with
 | nil=>exact⟨[],rfl⟩
 | cons c cs ih =>
  simp only[rh,oP]at h;obtain⟨ns,rfl⟩:=ih h.2;cases c<;>simp only[gS,oZ,false_and]at h;rename_i k n;cases k<;>simp only[oZ,false_and]at h;exact⟨n::ns,rfl⟩
theorem eqIs_ints:∀(ns ms:List Int),kh (ns.map (V.int .i64)) (ms.map (V.int .i64))=decide (ns=ms)
 | [],[]=>by simp[kh]
 | [],_::_=>by simp[kh]
 | _::_,[]=>by simp[kh]
 | n::ns,m::ms=>by
  simp only[oq,kh,eqIs_ints ns ms,List.cons.injEq,Bool.decide_and];rfl
section
variable {P:Program}
theorem oB{v:V}{n:Nat}(h:ag v=some (.arr n)):∃ns:List Int,v = .agg (ns.map (V.int .i64))∧ns.length=n:=by
 cases v<;>simp only[ag]at h<;>try (cases h;done)
 split at h
 ·rename_i cs hc;obtain⟨ns,rfl⟩:=all_i64 hc;cases h;exact⟨ns,rfl,by simp⟩
 ·cases h
theorem nI{α:Type}{w:World}{body:α→Unit→Sem (ForInStep Unit)} : ∀{l:List α},(∀x∈l,(body x ()).run P w = .ok (.yield ()) w)→(forIn l () body).run P w = .ok () w
 | [],_=>by simp
 | x::l,h=>by
  rw[List.forIn_cons];simp only[Sem.run_bind,h x (by simp),Result.andThen_ok]
  exact nI fun y hy=>h y (by simp[hy])
theorem all_eq(ns ms:List Int)(h:ns.length=ms.length):((oM ns.length).all fun i=>ns[i]? == ms[i]?)=decide (ns=ms):=by
 rw[qS,decide_eq_true_eq,pR];constructor
 ·intro hh;apply pT;intro i;by_cases hi:i<ns.length
  ·simpa using hh i (by simpa using hi)
  ·rw[pK (by omega),pK (by omega)]
 ·rintro rfl i _;simp
theorem kK(ns:List Int):cH (.agg (ns.map (V.int .i64)))= .agg (ns.map (Value.int .i64)).toArray:=by
 simp only[cH,qu];congr 2
theorem arr_law{t e:TypeId}{n:Nat}(hu:P.underlying t=some (.array n e))(he:P.underlying e=some (.int .i64))(hi:(P.info? e).map (fun j=>(j.size,j.bytes,j.zero))=some (1,8,some (.int .i64 0))):KLaw P t (.arr n):=by
 have hsz:∀w:World,(sizeOf e).run P w = .ok 1 w:=fun w=>by
  cases hp:P.info? e with
  | none=>rw[hp]at hi;cases hi
  | some j =>
   rw[hp]at hi;simp only[pB,Option.some.injEq,Prod.mk.injEq]at hi;simp[sizeOf,run_typeInfo hp,hi.1]
 have hagg:∀w:World,(isAgg e).run P w = .ok false w:=fun w=>by simp[isAgg,run_underlying he]
 have hpart:∀(w:World) (ns:List Int) (i:Nat) (h:i<ns.length),(part e (ns.map (Value.int .i64)).toArray i).run P w = .ok (.int .i64 ns[i]) w:=fun w ns i h=>by
  simp[part,hagg,h]
 have heq:∀(w:World) (ns ms:List Int),ns.length=n→ms.length=n→(Op.equal t (.agg (ns.map (Value.int .i64)).toArray) (.agg (ms.map (Value.int .i64)).toArray)).run P w = .ok (decide (ns=ms)) w:=fun w ns ms h1 h2=>by
  rw[iN,Op.equalIn];simp only[Sem.run_bind,run_underlying hu,Result.andThen_ok,hsz,Std.Legacy.Range.forIn_eq_forIn_range']
  have hr:List.range' 0 n 1=oM n:=by rw[List.range_eq_range']
  simp only[Std.Legacy.Range.size,rR,Nat.add_sub_cancel,Nat.div_one,hr];rw[jl (P:=P) (w:=w) (b:=decide (ns=ms)) (bs:=(oM n).map fun i=>ns[i]? == ms[i]?) (by simp) (fun i f c hf hc hj=>?_) (by rw[←all_eq ns ms (by omega),h1,List.all_map];rfl)]
  ·cases decide (ns=ms)<;>simp
  ·have hfi:f=i∧i<n:=by
    have:=aB hf;simp at this;rw[qZ this]at hf;exact⟨by simpa using hf.symm,this⟩
   obtain⟨rfl,hin⟩:=hfi;simp only[oc,hf,pB,Option.some.injEq]at hc;subst hc;have q1:=hpart w ns f (by omega);have q2:=hpart w ms f (by omega);simp only[rO,Sem.run_bind,q1,q2,Result.andThen_ok];rw[show(9999:Nat)=9998+1 from rfl,Op.equalIn];simp only[Sem.run_bind,run_underlying he,Result.andThen_ok,if_true,Sem.run_pure,oG (show f<ns.length by omega),oG (show f<ms.length by omega)];cases hb:(ns[f] == ms[f])<;>simp[hb]
 constructor
 ·intro w em v hv;obtain⟨ns,rfl,hl⟩:=oB hv;rw[kK,iQ,Instr.checkKey];simp only[Sem.run_bind,run_underlying hu,Result.andThen_ok,Std.Legacy.Range.forIn_eq_forIn_range']
  have hr:List.range' 0 n 1=oM n:=by rw[List.range_eq_range']
  simp only[Std.Legacy.Range.size,rR,Nat.add_sub_cancel,Nat.div_one,hr];refine(congrArg (fun r=>Result.andThen r _) (nI (P:=P) (w:=w) (fun i hi=>?_))).trans ?_
  ·have q1:=hpart w ns i (by simp at hi;omega);simp only[Sem.run_bind,hsz,Result.andThen_ok,rO,q1];rw[show(9999:Nat)=9998+1 from rfl,Instr.checkKey];simp[run_underlying he]
  ·simp
 ·intro w v ks es hv hk hes;obtain⟨ns,rfl,hl⟩:=oB hv;rw[kK]
  have ask:∀(ks:List V) (es:List MapEntry) (m:Nat),(∀k∈ks,ag k=some (.arr n))→es.map (·.key)=ks.map cH →
    ∃r,(Instr.findAsking t (.agg (ns.map (Value.int .i64)).toArray) es m).run P w = .ok r w∧((r=none∧∀k∈ks,bB (.agg (ns.map (V.int .i64))) k=false)∨
     ∃i k e,r=some (m+i,e.val)∧ks[i]?=some k∧es[i]?=some e∧bB (.agg (ns.map (V.int .i64))) k=true∧∀j k',j<i→ks[j]?=some k'→bB (.agg (ns.map (V.int .i64))) k'=false):=by
   intro ks
   induction ks with
   | nil=>intro es m _ h;simp at h;subst h;exact⟨none,by simp[Instr.findAsking],.inl ⟨rfl,by simp⟩⟩
   | cons k ks ih =>
    intro es m hk h
    cases es with
    | nil=>simp at h
    | cons e es =>
     simp only[oq,List.cons.injEq]at h;obtain⟨ms,rfl,hl2⟩:=oB (hk k (by simp));have hq:=heq w ns ms hl hl2;rw[kK]at h
     have hkey:bB (.agg (ns.map (V.int .i64))) (.agg (ms.map (V.int .i64)))=decide (ns=ms):=by simp only[bB,eqIs_ints]
     cases hb:decide (ns=ms)
     ·rw[hb]at hq hkey;obtain⟨r,hr,hres⟩:=ih es (m+1) (fun x hx=>hk x (by simp[hx])) h.2;refine⟨r,by simp[Instr.findAsking,h.1,hq,hr],?_⟩
      rcases hres with⟨rfl,hno⟩ | ⟨i,k',e',rfl,q1,q2,q3,q4⟩
      ·exact .inl ⟨rfl,fun x hx=>(List.mem_cons.1 hx).elim (fun e=>by rw[e];exact hkey) (hno x)⟩
      ·refine .inr ⟨i+1,k',e',by rw[pm,Nat.add_comm 1 i],by simpa using q1,by simpa using q2,q3,fun j k'' hj hk''=>?_⟩
       cases j with
       | zero=>simp at hk'';subst hk'';exact hkey
       | succ j=>exact q4 j k'' (by omega) (by simpa using hk'')
     ·rw[hb]at hq hkey;exact⟨some (m,e.val),by simp[Instr.findAsking,h.1,hq],.inr ⟨0,_,e,rfl,rfl,rfl,hkey,fun j _ hj=>absurd hj (by omega)⟩⟩
  obtain⟨r,hr,hres⟩:=ask ks es 0 hk hes
  cases es with
  | nil =>
   cases ks with
   | cons k ks=>simp at hes
   | nil=>exact⟨none,by simp[Instr.findKey,run_underlying hu,Instr.findNow],.inl ⟨rfl,by simp⟩⟩
  | cons e0 es =>
   refine⟨r,?_,by simpa using hres⟩
   have:Instr.sameNow (.array n e) (.agg (ns.map (Value.int .i64)).toArray) e0.key=none:=by
    simp[Instr.sameNow]
   simp[Instr.findKey,run_underlying hu,Instr.findNow,this,hr]
end
end Go.AM
namespace Go.AM
open Go
def bM(T:Ty)(S:Nat→Bool):Ty:=fun t=>(T t).map fun i=>{ i with pa:=S t }
theorem tok_flag{P:Program}{T:Ty}(h:TOk P T)(S:Nat→Bool):TOk P (bM T S):=by
 have get:∀t i,bM T S t=some i→∃i',T t=some i'∧i = { i' with pa:=S t }:=fun t i hi=>by
  unfold bM at hi
  cases hT:T t with
  | none=>rw[hT]at hi;cases hi
  | some i'=>rw[hT]at hi;simp at hi;exact⟨i',rfl,hi.symm⟩
 refine⟨fun t i hi he=>?_,fun t i kk hi hk=>?_,fun t i hi=>?_,fun t i hi=>?_⟩
 ·obtain⟨i',h1,rfl⟩:=get t i hi;exact h.eq t i' h1 he
 ·obtain⟨i',h1,rfl⟩:=get t i hi;exact h.key t i' kk h1 hk
 ·obtain⟨i',h1,rfl⟩:=get t i hi;exact h.und t i' h1
 ·obtain⟨i',h1,rfl⟩:=get t i hi;exact h.info t i' h1
def kkP(P:Program):TypeDesc→Option KK
 | .int k=>some (.int k)
 | .string=>some .str
 | .bool=>some .bool
 | .array n e=>match P.underlying e,(P.info? e).map (fun j=>(j.size,j.bytes,j.zero)) with
  | some (.int .i64),some (1,8,some (Value.int .i64 0))=>some (.arr n)
  | _,_=>none
 | _=>none
def mkTI(P:Program)(t:TypeId):Option TI :=
 match P.underlying t,P.info? t with
 | some d,some j=>match j.zero with
  | some zv=>match gh zv with
   | some z=>if z.cells.length=j.size then some ⟨d,j.size,j.bytes,z,zv,kkP P d,bY d&&!P.stoodInHeld t&&!P.eqGuardType P.depth t,false⟩ else none
   | none=>none
  | none=>none
 | _,_=>none
theorem kk_law{P:Program}{t:TypeId}{d:TypeDesc}(hu:P.underlying t=some d):∀kk,kkP P d=some kk→KLaw P t kk:=by
 intro kk h;unfold kkP at h;split at h
 ·cases h;exact int_law hu
 ·cases h;exact str_law hu
 ·cases h;exact bool_law hu
 ·split at h
  ·rename_i h1 h2;cases h;exact arr_law hu h1 h2
  ·cases h
 ·cases h
theorem mk_ok{P:Program} : TOk P (mkTI P):=tok_of fun t i hi=>by
 unfold mkTI at hi;split at hi
 ·rename_i d j hu hj;split at hi
  ·rename_i zv hz;split at hi
   ·rename_i z ho;split at hi
    ·rename_i hl;cases hi;refine⟨hu,by rw[hj,pB,hz],ho,hl,kk_law hu,fun h=>?_⟩;simp only[oP,pZ]at h;exact⟨h.1.2,h.2⟩
    ·cases hi
   ·cases hi
  ·cases hi
 ·cases hi
end Go.AM
namespace Go.AM
open Go
def maskOf(done:List Nat)(es:List Edge):Nat:=es.foldl (fun m e=>if Region.binds .any e then m ||| 2^e.on ||| (done[e.on]?.getD 0) else m) 0
def aM(done:List Nat):List Oper→List Nat
 | []=>done
 | o::rest=>aM (done++[maskOf done o.after.toList]) rest
theorem ft:∀(l:List Oper) (done:List Nat),∃m,aM done l=done++m∧m.length=l.length∧∀(k:Nat) o,l[k]?=some o→m[k]?=some (maskOf (done++m.take k) o.after.toList)
 | [],done=>⟨[],by simp[aM],rfl,by simp⟩
 | o::l,done=>by
  obtain⟨m,h1,h2,h3⟩:=ft l (done++[maskOf done o.after.toList]);refine⟨maskOf done o.after.toList::m,by simp[aM,h1],by simp[h2],fun k o' hk=>?_⟩
  cases k with
  | zero=>simp at hk;subst hk;simp
  | succ k =>
   have:=h3 k o' (by simpa using hk);simpa using this
theorem mj{done:List Nat}{i:Nat} : ∀(es:List Edge) (m0:Nat),(es.foldl (fun m e=>if Region.binds .any e then m ||| 2^e.on ||| (done[e.on]?.getD 0) else m) m0).testBit i=true →
  m0.testBit i=true∨∃e∈es,Region.binds .any e=true∧(i=e.on∨(done[e.on]?.getD 0).testBit i=true)
 | [],m0,h=>.inl h
 | e::es,m0,h=>by
  rw[ri]at h
  rcases mj es _ h with h | ⟨e',h1,h2⟩
  ·split at h
   ·rename_i hb;rw[Nat.testBit_or,Nat.testBit_or,pW,pW]at h
    rcases h with(h | h) | h
    ·exact .inl h
    ·refine .inr ⟨e,by simp,hb,.inl ?_⟩;rw[Nat.testBit_two_pow]at h;simpa[eq_comm] using h
    ·exact .inr ⟨e,by simp,hb,.inr h⟩
   ·exact .inl h
  ·exact .inr ⟨e',by simp[h1],h2⟩
def jI(ops:Array Oper)(D:Nat→Bool):Prop:=∀j o,ops[j]?=some o→D j=true→∀e∈o.after.toList,Region.binds .any e=true→D e.on=true
theorem lJ{ops:Array Oper}{D:Nat→Bool}(hD:jI ops D)(hback:∀(j:Nat) (o:Oper),ops[j]?=some o→∀e∈o.after.toList,Region.binds .any e=true→e.on<j)(j:Nat):
  ∀i m,(aM [] ops.toList)[j]?=some m→m.testBit i=true→D j=true→D i=true:=by
 obtain⟨ms,h1,h2,h3⟩:=ft ops.toList [];rw[pH]at h1;rw[h1]
 induction j using rK with
 | _ j ih =>
  intro i m hm hb hDj
  have hj:j<ops.toList.length:=by have:=aB hm;omega
  have ho:ops.toList[j]?=some ops.toList[j]:=oG hj;generalize ops.toList[j]=o at ho
  have ho':ops[j]?=some o:=by simpa using ho
  have hm':=h3 j o ho;rw[hm]at hm';cases hm'
  rcases mj _ _ hb with h | ⟨e,he,hbind,h⟩
  ·simp at h
  ·have hlt:=hback j o ho' e he hbind;have hDe:=hD j o ho' hDj e he hbind
   rcases h with rfl | h
   ·exact hDe
   ·simp only[pH,pD,if_pos hlt]at h
    cases hme:ms[e.on]? with
    | none=>rw[hme]at h;simp at h
    | some m'=>rw[hme]at h;exact ih e.on hlt i m' hme h hDe
def bK(ops:Array Oper)(fr:List V)(val:Nat→V)(D:Nat→Bool):Nat→Nat→Option V
 | 0,t=>fr[t]?
 | k+1,t=>if D k=true∧(ops[k]?).bind (·.dst)=some t∧t<fr.length then some (val k) else bK ops fr val D k t
theorem eu{ops:Array Oper}{fr:List V}{val:Nat→V}{D:Nat→Bool} : ∀(k t:Nat),(bK ops fr val D k t).isSome=decide (t<fr.length)
 | 0,t=>by
  simp only[bK];by_cases h:t<fr.length
  ·simp[h]
  ·simp[h]
 | k+1,t=>by
  simp only[bK];split
  ·rename_i h;simp[h.2.2]
  ·exact eu k t
theorem cJ{ops:Array Oper}{fr:List V}{val:Nat→V}{D:Nat→Bool}{i t:Nat}(h1:∀j,j<i→(ops[j]?).bind (·.dst)=some t→D j=true)(h2:∀j,i≤j→(ops[j]?).bind (·.dst)=some t→D j=false):
  ∀k,i≤k→bK ops fr val D k t=bK ops fr val (fun _=>true) i t:=by
 have low:∀k,k≤i→bK ops fr val D k t=bK ops fr val (fun _=>true) k t:=by
  intro k
  induction k with
  | zero=>intro _;rfl
  | succ k ih =>
   intro hk;simp only[bK];rw[ih (by omega)];by_cases hd:(ops[k]?).bind (·.dst)=some t
   ·rw[h1 k (by omega) hd];simp
   ·simp[hd]
 intro k hk
 induction k with
 | zero =>
  obtain rfl:i=0:=by omega
  rfl
 | succ k ih =>
  by_cases hki:i=k+1
  ·subst hki;exact low _ (oJ _)
  ·simp only[bK];rw[if_neg,ih (by omega)];rintro⟨hD,hd,_⟩;rw[h2 k (by omega) hd]at hD;cases hD
def aZ(ops:Array Oper)(fr:List V)(val:Nat→V):Nat→List V
 | 0=>fr
 | k+1=>match ops[k]? with
  | some o=>ak (aZ ops fr val k) o.dst (val k)
  | none=>aZ ops fr val k
theorem gp{ops:Array Oper}{fr:List V}{val:Nat→V} : ∀k,(aZ ops fr val k).length=fr.length
 | 0=>rfl
 | k+1=>by
  simp only[aZ];split
  ·rename_i o ho;cases hd:o.dst<;>simp[ak,gp k]
  ·exact gp k
theorem dF{ops:Array Oper}{fr:List V}{val:Nat→V} : ∀k t,(aZ ops fr val k)[t]?=bK ops fr val (fun _=>true) k t
 | 0,t=>rfl
 | k+1,t=>by
  have ih:=dF (ops:=ops) (fr:=fr) (val:=val) k;have hl:=gp (ops:=ops) (fr:=fr) (val:=val) k;simp only[aZ,bK]
  cases ho:ops[k]? with
  | none=>simp[ih t]
  | some o =>
   cases hd:(o.dst:Option Nat) with
   | none=>simp[ak,hd,ih t]
   | some d =>
    simp only[ak,qe,hd,Option.some.injEq,true_and];by_cases hdt:d=t
    ·subst hdt;by_cases hlt:d<fr.length
     ·rw[oX (by rw[hl];exact hlt)];simp[hlt]
     ·rw[if_neg (by simp[hlt]),qY,if_pos rfl,if_neg (by rw[hl];exact hlt),←ih d,pK (by rw[hl];exact Nat.le_of_not_lt hlt)]
    ·rw[oQ hdt,if_neg (by simp[hdt]),ih t]
def cC(ops:Array Oper)(o:Oper):List Nat:=o.looksAt ops++o.dst.toList
def bef(ms:List Nat)(i j:Nat):Bool:=(ms[j]?.getD 0).testBit i
def jH:List Nat→Bool
 | []=>true
 | [_]=>true
 | a::b::r=>decide (a<b)&&jH (b::r)
def eU(ops:Array Oper)(E:List Nat):Bool :=
 let ms:=aM [] ops.toList
 (jH E&&E.all fun e=>decide (e<ops.size))&&(oM ops.size).all fun j=>match ops[j]? with
  | none=>true
  | some oj=>oj.after.toList.all (fun e=>!Region.binds .any e||decide (e.on<j)) &&
   (cC ops oj).all (fun t=>(oM ops.size).all fun i=>match ops[i]? with
    | none=>true
    | some oi=>!(oi.dst == some t)||i == j||(decide (i<j)&&bef ms i j)||(decide (j<i)&&bef ms j i)) &&
   (!E.contains j||(oM j).all fun i=>!E.contains i||bef ms i j)
def fm(ms E:List Nat)(i c:Nat):Bool:=(oM E.length).all fun k=>match E[k]? with
 | none=>true
 | some e=>if k<c then !bef ms i e else !bef ms e i
def dq(p:Nat→Prop):List Nat→Prop
 | []=>True
 | c::cs=>p c∧dq p cs
def runT(T:Ty)(ops:Array Oper)(E:List Nat):List Oper→Nat→List V→List B→List (V×List B)→Option (List V×List (List B)×List V)
 | [],_,fr,_,_=>some ([],[],fr)
 | o::rest,i,fr,H,cv =>
  match bA ops fr o with
  | some false=>if E.contains i then none else match runT T ops E rest (i+1) (ak fr o.dst (.tup [])) H cv with
   | some (vs,hs,f)=>some (.tup []::vs,hs,f)
   | none=>none
  | some true=>match aj o.op with
   | some _=>match cv with
    | (v,H')::cv'=>if E.contains i then
      (match runT T ops E rest (i+1) (ak fr o.dst v) H' cv' with
      | some (vs,hs,f)=>some (v::vs,H'::hs,f)
      | none=>none)
     else(match runT T ops E rest (i+1) (ak fr o.dst v) H cv' with
      | some (vs,hs,f)=>some (v::vs,hs,f)
      | none=>none)
    | []=>none
   | none=>match aop T o.op (aO fr) H with
    | some (v,H')=>if E.contains i then
      (match runT T ops E rest (i+1) (ak fr o.dst v) H' cv with
      | some (vs,hs,f)=>some (v::vs,H'::hs,f)
      | none=>none)
     else(match runT T ops E rest (i+1) (ak fr o.dst v) H cv with
      | some (vs,hs,f)=>some (v::vs,hs,f)
      | none=>none)
    | none=>none
  | none=>none
def bU(T:Ty)(ops:Array Oper)(C:V→List V→List B→(V→List B→Prop)→Prop)(ms E:List Nat)(Hs:Nat→List B):List Oper→Nat→List V→List V→Prop
 | [],_,_,_=>True
 | _::_,_,_,[]=>False
 | o::rest,i,fr,v::vs =>
  (match bA ops fr o with
   | some false=>v = .tup []∧E.contains i=false
   | some true=>match aj o.op with
    | some (f,args)=>if E.contains i then C (aO fr f) (args.map (aO fr)) (Hs (E.idxOf i)) (fun r H'=>r=v∧H'=Hs (E.idxOf i+1))
     else dq (fun c=>if fm ms E i c then C (aO fr f) (args.map (aO fr)) (Hs c) (fun r H'=>r=v∧H'=Hs c) else True) (oM (E.length+1))
    | none=>if E.contains i then aop T o.op (aO fr) (Hs (E.idxOf i))=some (v,Hs (E.idxOf i+1))
     else dq (fun c=>if fm ms E i c then aop T o.op (aO fr) (Hs c)=some (v,Hs c) else True) (oM (E.length+1))
   | none=>False)∧bU T ops C ms E Hs rest (i+1) (ak fr o.dst v) vs
def gM(T:Ty)(ops:Array Oper)(E:List Nat)(cv:List (V×List B))(C:V→List V→List B→(V→List B→Prop)→Prop)(K:List V→List B→Prop)(fr:List V)(H:List B):Prop :=
 match runT T ops E ops.toList 0 fr H cv with
 | none=>False
 | some (vs,hs,f)=>(eU ops E=true∧hs.length=E.length)∧bU T ops C (aM [] ops.toList) E (fun c=>(H::hs)[c]?.getD []) ops.toList 0 fr vs∧K f ((H::hs)[E.length]?.getD [])
theorem eO:∀{E:List Nat},jH E=true→∀(k l a b:Nat),k<l→E[k]?=some a→E[l]?=some b→a<b
 | [],_,k,l,a,b,_,h,_=>by simp at h
 | [x],_,k,l,a,b,hkl,h1,h2=>by have:=aB h2;simp at this;omega
 | x::y::r,h,k,l,a,b,hkl,h1,h2=>by
  simp only[jH,oP,decide_eq_true_eq]at h
  cases l with
  | zero=>omega
  | succ l =>
   have h2':(y::r)[l]?=some b:=by simpa using h2
   cases k with
   | zero =>
    simp at h1;subst h1
    cases l with
    | zero=>simp at h2';omega
    | succ l=>have:=eO h.2 0 (l+1) y b (by omega) rfl h2';omega
   | succ k=>exact eO h.2 k l a b (by omega) (by simpa using h1) h2'
theorem iS{T:Ty}{op:Go.Op}{ρ ρ':Operand→V}{H:List B}(h:∀x∈op.operands,ρ x=ρ' x):aop T op ρ H=aop T op ρ' H:=by
 have pairs:∀ps:Array (Nat×Operand),(∀x∈(ps.toList.map (·.2)).toArray,ρ x=ρ' x)→(ps.toList.map fun p=>(p.1,ρ p.2))=(ps.toList.map fun p=>(p.1,ρ' p.2)):=fun ps hp =>
  oo fun p hm=>by rw[hp p.2 (by simp only[List.mem_toArray,List.mem_map];exact⟨p,hm,rfl⟩)]
 cases op<;>simp only[Op.operands]at h<;>simp only[aop]
 case move x=>rw[h x (by simp)]
 case assign x=>rw[h x (by simp)]
 case box e x=>rw[h x (by simp)]
 case load t x=>rw[h x (by simp)]
 case nilCheck x=>rw[h x (by simp)]
 case unOp o t x=>rw[h x (by simp)]
 case convert a b x=>rw[h x (by simp)]
 case fieldAddr a x f=>rw[h x (by simp)]
 case field a x f=>rw[h x (by simp)]
 case extract x i=>rw[h x (by simp)]
 case pick c a b=>rw[h c (by simp),h a (by simp),h b (by simp)]
 case build t ps=>rw[pairs ps h]
 case buildSlice t l ps=>rw[pairs ps h]
 case store t a v=>rw[h a (by simp),h v (by simp)]
 case binOp o t x y ty=>rw[h x (by simp),h y (by simp)]
 case makeFunc fn first caps =>
  rw[oo (g:=ρ') (fun x hx=>h x (by simp;exact .inr (by simpa using hx)))]
 case makeSlice t l c=>rw[h l (by simp),h c (by simp)]
 case slice t x lo hi mx =>
  have ho:∀y:Option Operand,(∀z∈y.toArray,ρ z=ρ' z)→y.map ρ=y.map ρ':=fun y hy=>by
   cases y with
   | none=>rfl
   | some z=>simp[hy z (by simp)]
  rw[h x (by simp),ho lo (fun z hz=>h z (by simp at hz ⊢;simp[hz])),ho hi (fun z hz=>h z (by simp at hz ⊢;simp[hz])),ho mx (fun z hz=>h z (by simp at hz ⊢;simp[hz]))]
 case indexAddr t x i=>rw[h x (by simp),h i (by simp)]
 case index t x i=>rw[h x (by simp),h i (by simp)]
 case lookup t x i c=>rw[h x (by simp),h i (by simp)]
 case mapUpdate t m k v=>rw[h m (by simp),h k (by simp),h v (by simp)]
 case insert t m k v=>rw[h m (by simp),h k (by simp),h v (by simp)]
 case call c =>
  obtain⟨callee,args,ats⟩:=c;cases callee<;>simp only;rw[oo (g:=ρ') (fun x hx=>h x (by simp[Call.operands];simpa using hx))]
end Go.AM
namespace Go.AM
open Go
section
variable {P:Program} {T:Ty}
def er(T:Ty)(ops:Array Oper)(C:V→List V→List B→(V→List B→Prop)→Prop)(ms E:List Nat)(Hs:Nat→List B)(o:Oper)(i:Nat)(fr:List V)(v:V):Prop :=
 match bA ops fr o with
 | some false=>v = .tup []∧E.contains i=false
 | some true=>match aj o.op with
  | some (f,args)=>if E.contains i then C (aO fr f) (args.map (aO fr)) (Hs (E.idxOf i)) (fun r H'=>r=v∧H'=Hs (E.idxOf i+1))
   else dq (fun c=>if fm ms E i c then C (aO fr f) (args.map (aO fr)) (Hs c) (fun r H'=>r=v∧H'=Hs c) else True) (oM (E.length+1))
  | none=>if E.contains i then aop T o.op (aO fr) (Hs (E.idxOf i))=some (v,Hs (E.idxOf i+1))
   else dq (fun c=>if fm ms E i c then aop T o.op (aO fr) (Hs c)=some (v,Hs c) else True) (oM (E.length+1))
 | none=>False
theorem cF{p:Nat→Prop} : ∀{l:List Nat},dq p l→∀c∈l,p c
 | [],_,c,hc=>by simp at hc
 | x::l,h,c,hc=>(List.mem_cons.1 hc).elim (fun e=>e▸h.1) (cF h.2 c)
theorem obl_at{ops:Array Oper}{C:V→List V→List B→(V→List B→Prop)→Prop}{ms E:List Nat}{Hs:Nat→List B}{val:Nat→V}{fr0:List V} : ∀(l:List Oper) (i:Nat) (vs:List V),l=ops.toList.drop i→(∀k,k<vs.length→vs[k]?=some (val (i+k)))→
  bU T ops C ms E Hs l i (aZ ops fr0 val i) vs→∀j o,i≤j→ops[j]?=some o→er T ops C ms E Hs o j (aZ ops fr0 val j) (val j)
 | [],i,vs,hl,_,_,j,o,hij,ho=>by
  have h1:ops.toList.length≤i:=by have:=congrArg List.length hl;simp at this;simp;omega
  have h2:=(Array.getElem?_eq_some_iff.1 ho).1;simp at h1;omega
 | o'::rest,i,[],hl,_,h,j,o,hij,ho=>by simp[bU]at h
 | o'::rest,i,v::vs,hl,hv,h,j,o,hij,ho=>by
  have ho':ops[i]?=some o':=by
   have:=congrArg (fun l=>l[0]?) hl;simp at this;exact this.symm
  have hrest:rest=ops.toList.drop (i+1):=by
   have:=congrArg rx hl;simpa using this
  have hv0:v=val i:=by have:=hv 0 (by simp);simpa using this
  obtain⟨h1,h2⟩:=h;by_cases hji:j=i
  ·subst hji;rw[ho']at ho;cases ho;rw[←hv0];exact h1
  ·refine obl_at rest (i+1) vs hrest (fun k hk=>?_) ?_ j o (by omega) ho
   ·have:=hv (k+1) (by simpa using hk);rw[show i+1+k=i+(k+1) by omega];simpa using this
   ·simp only[aZ,ho',←hv0];exact h2
theorem runT_cons{ops:Array Oper}{E:List Nat}{o:Oper}{rest:List Oper}{i:Nat}{fr:List V}{H:List B}{cv:List (V×List B)}{vs:List V}{hs:List (List B)}{f:List V}(h:runT T ops E (o::rest) i fr H cv=some (vs,hs,f)):
  ∃v H' cv' vs' hs',runT T ops E rest (i+1) (ak fr o.dst v) H' cv'=some (vs',hs',f)∧vs=v::vs':=by
 simp only[runT]at h;split at h
 ·split at h
  ·cases h
  ·split at h
   ·rename_i vs' hs' f' hr;cases h;exact⟨_,_,_,_,_,hr,rfl⟩
   ·cases h
 ·split at h
  ·split at h
   ·split at h
    ·split at h
     ·rename_i vs' hs' f' hr;cases h;exact⟨_,_,_,_,_,hr,rfl⟩
     ·cases h
    ·split at h
     ·rename_i vs' hs' f' hr;cases h;exact⟨_,_,_,_,_,hr,rfl⟩
     ·cases h
   ·cases h
  ·split at h
   ·split at h
    ·split at h
     ·rename_i vs' hs' f' hr;cases h;exact⟨_,_,_,_,_,hr,rfl⟩
     ·cases h
    ·split at h
     ·rename_i vs' hs' f' hr;cases h;exact⟨_,_,_,_,_,hr,rfl⟩
     ·cases h
   ·cases h
 ·cases h
theorem runT_len{ops:Array Oper}{E:List Nat} : ∀{l:List Oper} {i:Nat} {fr:List V} {H:List B} {cv:List (V×List B)} {vs:List V} {hs:List (List B)} {f:List V},runT T ops E l i fr H cv=some (vs,hs,f)→vs.length=l.length
 | [],i,fr,H,cv,vs,hs,f,h=>by simp only[runT,Option.some.injEq,Prod.mk.injEq]at h;rw[←h.1];rfl
 | o::rest,i,fr,H,cv,vs,hs,f,h=>by
  obtain⟨v,H',cv',vs',hs',hr,rfl⟩:=runT_cons h;simp[runT_len hr]
theorem mU{ops:Array Oper}{E:List Nat}{val:Nat→V}{fr0:List V} : ∀(l:List Oper) (i:Nat) (fr:List V) (H:List B) (cv:List (V×List B)) (vs:List V) (hs:List (List B)) (f:List V),l=ops.toList.drop i→fr=aZ ops fr0 val i →
  (∀k,k<vs.length→vs[k]?=some (val (i+k)))→runT T ops E l i fr H cv=some (vs,hs,f)→f=aZ ops fr0 val (i+l.length)
 | [],i,fr,H,cv,vs,hs,f,hl,hfr,_,h=>by
  simp only[runT,Option.some.injEq,Prod.mk.injEq]at h;rw[←h.2.2];exact hfr
 | o::rest,i,fr,H,cv,vs,hs,f,hl,hfr,hv,h=>by
  have ho':ops[i]?=some o:=by
   have:=congrArg (fun l=>l[0]?) hl;simp at this;exact this.symm
  have hrest:rest=ops.toList.drop (i+1):=by
   have:=congrArg rx hl;simpa using this
  obtain⟨v,H',cv',vs',hs',hr,rfl⟩:=runT_cons h
  have hvi:v=val i:=by have:=hv 0 (by simp);simpa using this
  have hf:=mU (val:=val) (fr0:=fr0) rest (i+1) (ak fr o.dst v) H' cv' vs' hs' f hrest (by simp only[aZ,ho',hfr,hvi]) (fun k hk=>by
   have:=hv (k+1) (by simpa using hk);rw[show i+1+k=i+(k+1) by omega]
   simpa using this) hr
  rw[hf];congr 1;simp;omega
def ah(ops:Array Oper)(fr:List V)(val:Nat→V)(D:Nat→Bool):List V:=(oM fr.length).map fun t=>(bK ops fr val D ops.size t).getD .undef
theorem cB{ops:Array Oper}{fr:List V}{val:Nat→V}{D:Nat→Bool}(t:Nat):(ah ops fr val D)[t]?=bK ops fr val D ops.size t:=by
 have hs:=eu (ops:=ops) (fr:=fr) (val:=val) (D:=D) ops.size t;by_cases ht:t<fr.length
 ·simp only[ht,decide_true]at hs;obtain⟨v,hv⟩:=Option.isSome_iff_exists.1 hs;simp[ah,ht,hv]
 ·simp only[ht,decide_false]at hs;rw[pK (by simp[ah];omega)]
  cases h:bK ops fr val D ops.size t with
  | none=>rfl
  | some v=>rw[h]at hs;cases hs
theorem dA{ops:Array Oper}{fr:List V}{val:Nat→V}{D D':Nat→Bool}{t:Nat}(h:∀j,(ops[j]?).bind (·.dst)=some t→D j=D' j):∀k,bK ops fr val D k t=bK ops fr val D' k t
 | 0=>rfl
 | k+1=>by
  simp only[bK];rw[dA h k];by_cases hd:(ops[k]?).bind (·.dst)=some t
  ·rw[h k hd]
  ·simp[hd]
theorem gq{p q:Nat→Bool}{i:Nat}(hp:p i=true)(hq:q i=false)(hqp:∀j,q j=true→p j=true):∀{l:List Nat},i∈l→(l.filter q).length<(l.filter p).length
 | [],h=>by simp at h
 | x::l,h=>by
  have le:∀l:List Nat,(l.filter q).length≤(l.filter p).length:=fun l=>by
   induction l with
   | nil=>simp
   | cons y l ih =>
    simp only[rE];split
    ·rename_i hy;rw[if_pos (hqp y hy)];simp;exact ih
    ·split
     ·simp;omega
     ·exact ih
  simp only[rE]
  rcases List.mem_cons.1 h with rfl | h
  ·rw[if_neg (by simp[hq]),if_pos hp];have:=le l;simp;omega
  ·have:=gq hp hq hqp h;split
   ·rename_i hx;rw[if_pos (hqp x hx)];simp;exact this
   ·split
    ·simp;omega
    ·exact this
theorem lL{fr fr':List V}{x:Operand}(h:∀t,x = .tmp t→fr[t]?=fr'[t]?):aO fr x=aO fr' x:=by
 cases x with
 | tmp t=>simp only[aO];rw[h t rfl]
 | _=>rfl
theorem draw_sound(hT:TOk P T){ops:Array Oper}{E:List Nat}{val:Nat→V}{Hs:Nat→List B}{fr:List V}{s0:St}{Q:Exit→Act→World→Prop}(hz0:GOk P s0)
  (hst:eU ops E=true) (hcl:∀i o,ops[i]?=some o→er T ops (aL P) (aM [] ops.toList) E Hs o i (aZ ops fr val i) (val i))
  (hQ:∀s a,Good s→Step s0 s→FRel s (aZ ops fr val ops.size) a.tmps→a.defers=[]→s.H=Hs E.length→Q .normal a s.w):
  ∀(fuel:Nat) (listed:Array Bool) (s:St) (a:Act) (c:Nat),listed.size=ops.size→jI ops (fun i=>listed.getD i false)→
   ((oM ops.size).filter fun i=>!(listed.getD i false)).length≤fuel→c≤E.length→(∀k e,E[k]?=some e→(listed.getD e false=true↔k<c))→
   Good s→Step s0 s→s.H=Hs c→FRel s (ah ops fr val fun i=>listed.getD i false) a.tmps→a.defers=[]→wpAny P .any ops Q fuel listed a s.w:=by
 simp only[eU,oP,pR,decide_eq_true_eq,qK]at hst;obtain⟨⟨hasc,hE⟩,hops⟩:=hst
 have hback:∀(j:Nat) (o:Oper),ops[j]?=some o→∀e∈o.after.toList,Region.binds .any e=true→e.on<j:=fun j o ho e he hbd=>by
  have hj:=(Array.getElem?_eq_some_iff.1 ho).1;have:=hops j hj;rw[ho]at this;simp only[oP,pR]at this;have h1:=this.1.1 e he;rw[hbd]at h1;simpa using h1
 have htmp:∀(j i:Nat) (oj oi:Oper) (t:Nat),ops[j]?=some oj→ops[i]?=some oi→t∈cC ops oj→oi.dst=some t→i=j∨(i<j∧bef (aM [] ops.toList) i j=true)∨(j<i∧bef (aM [] ops.toList) j i=true):=fun j i oj oi t hoj hoi ht hd=>by
  have hj:=(Array.getElem?_eq_some_iff.1 hoj).1;have hi:=(Array.getElem?_eq_some_iff.1 hoi).1;have:=hops j hj;rw[hoj]at this;simp only[oP,pR]at this;have h2:=this.1.2 t ht i (by simpa using hi);rw[hoi]at h2;simp only[hd,pW,oP,decide_eq_true_eq,beq_iff_eq,pZ,beq_eq_false_iff_ne,ne_eq,not_true_eq_false,false_or]at h2
  rcases h2 with(h | h) | h
  ·exact .inl h
  ·exact .inr (.inl h)
  ·exact .inr (.inr h)
 have heff:∀i j,j∈E→i∈E→i<j→bef (aM [] ops.toList) i j=true:=fun i j hj hi hij=>by
  have hjl:=hE j hj;have:=hops j hjl
  have hoj:ops[j]?=some ops[j]:=by simp[hjl]
  rw[hoj]at this;simp only[oP,pR]at this;have h2:=this.2;simp only[pW,pZ,pR,qK]at h2
  rcases h2 with h2 | h2
  ·simp at h2;exact absurd hj h2
  ·rcases h2 i hij with h3 | h3
   ·simp at h3;exact absurd hi h3
   ·exact h3
 have hmask:∀(D:Nat→Bool),jI ops D→∀i j,j<ops.size→bef (aM [] ops.toList) i j=true→D j=true→D i=true:=fun D hD i j hj hb hDj=>by
  obtain⟨ms,h1,h2,_⟩:=ft ops.toList [];rw[pH]at h1
  have hlen:(aM [] ops.toList).length=ops.size:=by rw[h1,h2];simp
  have hm:(aM [] ops.toList)[j]?=some ((aM [] ops.toList)[j]'(by omega)):=oG (by omega);unfold bef at hb;rw[hm]at hb;exact lJ hD hback j i _ hm hb hDj
 have fin:∀(listed:Array Bool) (s:St) (a:Act) (c:Nat),(∀i,i<ops.size→listed.getD i false=true)→c≤E.length→(∀k e,E[k]?=some e→(listed.getD e false=true↔k<c))→Good s→Step s0 s→s.H=Hs c →
   FRel s (ah ops fr val fun i=>listed.getD i false) a.tmps→a.defers=[]→Q .normal a s.w:=fun listed s a c hall hc hpre hg hs hH hf hd=>by
  have hcE:c=E.length:=by
   rcases pS c E.length with h | h
   ·have he:E[c]?=some E[c]:=oG h;have:=(hpre c _ he).1 (hall _ (hE _ (oI h)));omega
   ·omega
  subst hcE;refine hQ s a hg hs ?_ hd hH
  have:(ah ops fr val fun i=>listed.getD i false)=aZ ops fr val ops.size:=by
   apply pT;intro t;rw[cB,dF];refine cJ (fun j hj _=>hall j hj) (fun j hj hdst=>?_) ops.size (oJ _);rw[qX hj]at hdst;simp at hdst
  rwa [this]at hf
 have done:∀(listed:Array Bool),listed.size=ops.size→Region.ready .any ops listed=[]→∀i,i<ops.size→listed.getD i false=true:=fun listed hsz hr i=>by
  induction i using rK with
  | _ i ih =>
   intro hi
   cases hD:listed.getD i false with
   | true=>rfl
   | false =>
    exfalso
    have hmem:i∈Region.ready .any ops listed:=by
     unfold Region.ready;rw[qF]
     have ho:ops[i]?=some ops[i]:=by simp[hi]
     have hil:i<listed.size:=by omega
     refine⟨by simpa using hi,?_⟩;rw[ho];simp only[pB,qG,oP,pZ];refine⟨by simp[rA,hil]at hD ⊢;exact hD,?_⟩;rw[rL];intro e he;by_cases hbd:Region.binds .any e=true
     ·have hlt:=hback i _ ho e (by simpa using he) hbd;simp[ih e.on hlt (by omega)]
     ·simp[hbd]
    rw[hr]at hmem;simp at hmem
 intro fuel
 induction fuel with
 | zero =>
  intro listed s a c hsz hcl2 hcnt hc hpre hg hs hH hf hd
  have hall:∀i,i<ops.size→listed.getD i false=true:=fun i hi=>by
   cases hD:listed.getD i false with
   | true=>rfl
   | false =>
    exfalso
    have:i∈(oM ops.size).filter fun i=>!(listed.getD i false):=by rw[qF];exact⟨by simpa using hi,by simp only[hD];rfl⟩
    have h0:((oM ops.size).filter fun i=>!(listed.getD i false))=[]:=pX (by omega);rw[h0]at this;simp at this
  refine⟨?_,fin listed s a c hall hc hpre hg hs hH hf hd⟩;unfold Region.ready;rw[List.filter_eq_nil_iff];intro i hi
  have hil:i<listed.size:=by rw[hsz];simpa using hi
  have:=hall i (by simpa using hi)
  have h1:listed.getD i true=true:=by simpa[rA,hil] using this
  simp[h1]
 | succ fuel ih =>
  intro listed s a c hsz hcl2 hcnt hc hpre hg hs hH hf hd;refine⟨fun hr=>fin listed s a c (done listed hsz hr) hc hpre hg hs hH hf hd,fun i hi=>?_⟩;unfold Region.ready at hi;rw[qF]at hi;obtain⟨hin,hcond⟩:=hi
  have hin:i<ops.size:=by simpa using hin
  have hil:i<listed.size:=by omega
  have ho:ops[i]?=some ops[i]:=by simp[hin]
  generalize ops[i]=o at ho;rw[ho]at hcond;simp only[pB,qG,oP,pZ]at hcond;obtain⟨hDi,hedge⟩:=hcond
  have hDi:listed.getD i false=false:=by simp only[rA,hil,dif_pos]at hDi ⊢;exact hDi
  rw[rL]at hedge
  have hD':∀j,(listed.setIfInBounds i true).getD j false=if j=i then true else listed.getD j false:=fun j=>by
   by_cases hj:j=i
   ·subst hj;simp[rA,hil]
   ·rw[if_neg hj,qA,qA,qJ (Ne.symm hj)]
  have hclosed':jI ops (fun j=>(listed.setIfInBounds i true).getD j false):=fun j oj hoj hj e he hb=>by
   simp only[hD']at hj ⊢;by_cases hji:j=i
   ·subst hji;rw[ho]at hoj;cases hoj;have:=hedge e (by simpa using he);rw[hb]at this;simp at this;split
    ·rfl
    ·simpa using this
   ·rw[if_neg hji]at hj;split
    ·rfl
    ·exact hcl2 j oj hoj hj e he hb
  have before:∀j,j≠i→bef (aM [] ops.toList) j i=true→listed.getD j false=true:=fun j hji hb=>by
   have:=hmask _ hclosed' j i hin hb (by simp[hD']);simp only[hD',if_neg hji]at this;exact this
  have behind:∀j,j<ops.size→bef (aM [] ops.toList) i j=true→listed.getD j false=false:=fun j hj hb=>by
   cases hDj:listed.getD j false with
   | false=>rfl
   | true=>have:=hmask _ hcl2 i j hj hb hDj;rw[hDi]at this;cases this
  have meets:∀t,t∈cC ops o→(∀j,j<i→(ops[j]?).bind (·.dst)=some t→listed.getD j false=true)∧(∀j,i<j→(ops[j]?).bind (·.dst)=some t→listed.getD j false=false):=fun t ht=>by
   refine⟨fun j hj hdst=>?_,fun j hj hdst=>?_⟩
   ·cases hoj:ops[j]? with
    | none=>rw[hoj]at hdst;simp at hdst
    | some oj =>
     rw[hoj]at hdst
     rcases htmp i j o oj t ho hoj ht (by simpa using hdst) with h | h | h
     ·omega
     ·exact before j (by omega) h.2
     ·omega
   ·cases hoj:ops[j]? with
    | none=>rw[hoj]at hdst;simp at hdst
    | some oj =>
     rw[hoj]at hdst
     rcases htmp i j o oj t ho hoj ht (by simpa using hdst) with h | h | h
     ·omega
     ·omega
     ·exact behind j (Array.getElem?_eq_some_iff.1 hoj).1 h.2
  have agree:∀t,t∈cC ops o→(ah ops fr val fun i=>listed.getD i false)[t]?=(aZ ops fr val i)[t]?:=fun t ht=>by
   rw[cB,dF];refine cJ (meets t ht).1 (fun j hj hdst=>?_) ops.size (by omega);by_cases hji:j=i
   ·subst hji;exact hDi
   ·exact(meets t ht).2 j (by omega) hdst
  have hop:∀x∈o.op.operands,aO (ah ops fr val fun i=>listed.getD i false) x=aO (aZ ops fr val i) x:=fun x hx=>by
   refine lL fun t e=>agree t ?_
   subst e;simp only[cC,Oper.looksAt,qB,List.mem_filterMap];exact .inl (.inl ⟨.tmp t,by simpa using hx,rfl⟩)
  have hwant:bA ops (ah ops fr val fun i=>listed.getD i false) o=bA ops (aZ ops fr val i) o:=by
   unfold bA
   cases hgd:o.guard with
   | none=>rfl
   | some g =>
    obtain⟨j,want⟩:=g;simp only
    cases hoj:ops[j]? with
    | none=>rfl
    | some oj =>
     simp only
     cases hdj:oj.dst with
     | none=>rfl
     | some d =>
      simp only;rw[agree d (by simp[cC,Oper.looksAt,hgd,hoj,hdj])]
  have next:∀{s1:St} {u:Value} {c':Nat},Good s1→Step s s1→Rel s1 (val i) u→c'≤E.length→s1.H=Hs c'→(∀k e,E[k]?=some e→((listed.setIfInBounds i true).getD e false=true↔k<c'))→
    wpAny P .any ops Q fuel (listed.setIfInBounds i true) (a.put o.dst u) s1.w:=fun {s1 u c'} g1 g2 g3 g4 g5 g6=>by
   refine ih _ s1 _ c' (by simp[hsz]) hclosed' ?_ g4 g6 g1 (hs.trans g2) g5 ?_ (by rw[eW];exact hd)
   ·have:=gq (p:=fun j=>!(listed.getD j false)) (q:=fun j=>!((listed.setIfInBounds i true).getD j false)) (i:=i) (by simp only[hDi];rfl) (by simp[hD']) (fun j hj=>by
     simp only[hD']at hj;split at hj
     ·simp at hj
     ·exact hj) (l:=oM ops.size) (by simpa using hin)
    omega
   ·have hnow:(ah ops fr val fun j=>(listed.setIfInBounds i true).getD j false)=ak (ah ops fr val fun j=>listed.getD j false) o.dst (val i):=by
     apply pT;intro t;rw[cB]
     cases hdst:(o.dst:Option Nat) with
     | none =>
      simp only[ak];rw[cB];refine dA (fun j hj=>?_) _;simp only[hD'];split
      ·rename_i hji;subst hji;rw[ho]at hj;simp[hdst]at hj
      ·rfl
     | some d =>
      simp only[ak]
      have hlen:(ah ops fr val fun j=>listed.getD j false).length=fr.length:=by simp[ah]
      by_cases hdt:d=t
      ·subst hdt;have hm:=meets d (by simp[cC,hdst])
       have e1:=cJ (fr:=fr) (val:=val) (D:=fun j=>(listed.setIfInBounds i true).getD j false) (i:=i+1) (t:=d) (fun j hj hdj=>by
        simp only[hD'];split
        ·rfl
        ·exact hm.1 j (by omega) hdj) (fun j hj hdj=>by
        simp only[hD'];rw[if_neg (by omega)]
        exact hm.2 j (by omega) hdj) ops.size (by omega)
       rw[e1];simp only[bK];by_cases hlt:d<fr.length
       ·rw[if_pos ⟨trivial,by rw[ho];simpa using hdst,hlt⟩,oX (by rw[hlen];exact hlt)]
       ·rw[if_neg (by simp[hlt]),qY,if_pos rfl,if_neg (by rw[hlen];exact hlt)];have:=eu (ops:=ops) (fr:=fr) (val:=val) (D:=fun _=>true) i d
        cases h:bK ops fr val (fun _=>true) i d with
        | none=>rfl
        | some v=>rw[h]at this;simp[hlt]at this
      ·rw[oQ hdt,cB];refine dA (fun j hj=>?_) _;simp only[hD'];split
       ·rename_i hji;subst hji;rw[ho]at hj;simp[hdst]at hj;exact absurd hj hdt
       ·rfl
    rw[hnow];exact(hf.step g2).put g3 o.dst
  have sameE:i∉E→∀k e,E[k]?=some e→((listed.setIfInBounds i true).getD e false=true↔k<c):=fun hiE k e he=>by
   rw[hD',if_neg (fun h:e=i=>hiE (by rw[←h];exact oH he))];exact hpre k e he
  have hpos:i∉E→fm (aM [] ops.toList) E i c=true:=fun hiE=>by
   simp only[fm,pR,qK];intro k hk;have he:E[k]?=some E[k]:=oG hk;rw[he];simp only;split
   ·rename_i hkc;have hD:=(hpre k _ he).2 hkc
    cases hb:bef (aM [] ops.toList) i E[k] with
    | false=>rfl
    | true=>have:=behind _ (hE _ (oI hk)) hb;rw[hD]at this;cases this
   ·rename_i hkc
    cases hb:bef (aM [] ops.toList) E[k] i with
    | false=>rfl
    | true =>
     have:=before _ (fun h=>hiE (h▸oI hk)) hb;exact absurd ((hpre k _ he).1 this) hkc
  have eff:i∈E→E.idxOf i=c∧(∀k' e,E[k']?=some e→((listed.setIfInBounds i true).getD e false=true↔k'<c+1))∧c+1≤E.length:=fun hiE=>by
   obtain⟨k,hk⟩:=qU hiE;have hkl:=aB hk
   have hidx:E.idxOf i=k:=by
    have h1:=List.idxOf_lt_length_of_mem hiE
    have h2:E[E.idxOf i]?=some i:=by rw[oG h1];simp
    rcases rQ (E.idxOf i) k with h | h | h
    ·have:=eO hasc _ _ _ _ h h2 hk;omega
    ·exact h
    ·have:=eO hasc _ _ _ _ h hk h2;omega
   have hck:c=k:=by
    have h1:¬k<c:=fun h=>by have:=(hpre k i hk).2 h;rw[hDi]at this;cases this
    rcases pS c k with h | h
    ·have he:E[c]?=some (E[c]'(by omega)):=oG (by omega);have hlt:=eO hasc _ _ _ _ h he hk;have hb:=heff _ _ hiE (oI (by omega)) hlt;have:=(hpre c _ he).1 (before _ (by omega) hb);omega
    ·omega
   have hpre':∀k' e,E[k']?=some e→((listed.setIfInBounds i true).getD e false=true↔k'<c+1):=fun k' e he=>by
    rw[hD'];by_cases hei:e=i
    ·subst hei
     have:k'=k:=by
      rcases rQ k' k with h | h | h
      ·have:=eO hasc _ _ _ _ h he hk;omega
      ·exact h
      ·have:=eO hasc _ _ _ _ h hk he;omega
     simp;omega
    ·rw[if_neg hei,hpre k' e he];constructor
     ·omega
     ·intro h
      rcases pS k' c with h' | h'
      ·exact h'
      ·exfalso
       have hk'c:k'=k:=by omega
       subst hk'c;rw[hk]at he;cases he;exact hei rfl
   exact⟨by rw[hidx,hck],hpre',by omega⟩
  have hclause:=hcl i o ho;unfold er at hclause;rw[←hwant]at hclause;unfold wpOp;rw[ho];simp only;split at hclause
  ·
   rename_i hw;rw[dO hf hw];simp only[oZ,if_false]
   have hiE:i∉E:=by simpa using hclause.2
   exact next hg (Step.refl s) (by rw[hclause.1];exact .tup [] #[] rfl (by simp)) hc hH (sameE hiE)
  ·rename_i hw;rw[dO hf hw];simp only[if_true];left;split at hclause
   ·
    rename_i f args hcall
    have hin2:f∈o.op.operands∧∀x∈args,x∈o.op.operands:=by
     unfold aj at hcall;split at hcall
     ·rename_i cc hoc;split at hcall
      ·rename_i f' hcal;cases hcall;rw[hoc];simp only[Op.operands,Call.operands,hcal];exact⟨by simp,fun x hx=>by simp;exact .inr (by simpa using hx)⟩
      ·cases hcall
     ·cases hcall
    have hf1:aO (aZ ops fr val i) f=aO (ah ops fr val fun i=>listed.getD i false) f:=(hop f hin2.1).symm
    have hf2:args.map (aO (aZ ops fr val i))=args.map (aO (ah ops fr val fun i=>listed.getD i false)):=oo fun x hx=>(hop x (hin2.2 x hx)).symm
    split at hclause
    ·rename_i hEi
     have hiE:i∈E:=by simpa using hEi
     obtain⟨hidx,hpre',hcE⟩:=eff hiE;have hcc:=hclause;rw[hidx,←hH]at hcc;rw[hf1,hf2]at hcc;refine en hcall (hz0.step hs) hg hf hcc (fun u s1 r g1 g2 g3 g4=>?_);obtain⟨rfl,g5⟩:=g4;exact next g1 g2 g3 hcE g5 hpre'
    ·rename_i hEi
     have hiE:i∉E:=by simpa using hEi
     have hcc:=cF hclause c (by simp;omega);rw[if_pos (hpos hiE),←hH]at hcc;rw[hf1,hf2]at hcc;refine en hcall (hz0.step hs) hg hf hcc (fun u s1 r g1 g2 g3 g4=>?_);obtain⟨rfl,g5⟩:=g4;exact next g1 g2 g3 hc (g5.trans hH) (sameE hiE)
   ·split at hclause
    ·
     rename_i hEi
     have hiE:i∈E:=by simpa using hEi
     obtain⟨hidx,hpre',hcE⟩:=eff hiE;rw[hidx,←iS (ρ:=aO (ah ops fr val fun i=>listed.getD i false)) hop,←hH]at hclause;obtain⟨nx,s1,k1,k2,k3,k4,k5⟩:=fg (P:=P) hT hg (fun x=>hf.eval x) hclause;unfold Oper.wp;rw[k1]
     rcases k5 with⟨u,rfl,hr⟩ | ⟨rfl,hv⟩
     ·rw[Oper.upon_value];exact next k3 k4 hr hcE k2 hpre'
     ·rw[Oper.upon_skip];exact next k3 k4 (by rw[hv];exact .tup [] #[] rfl (by simp)) hcE k2 hpre'
    ·rename_i hEi
     have hiE:i∉E:=by simpa using hEi
     have hcc:=cF hclause c (by simp;omega);rw[if_pos (hpos hiE),←iS (ρ:=aO (ah ops fr val fun i=>listed.getD i false)) hop,←hH]at hcc;obtain⟨nx,s1,k1,k2,k3,k4,k5⟩:=fg (P:=P) hT hg (fun x=>hf.eval x) hcc;unfold Oper.wp;rw[k1]
     rcases k5 with⟨u,rfl,hr⟩ | ⟨rfl,hv⟩
     ·rw[Oper.upon_value];exact next k3 k4 hr hc (k2.trans hH) (sameE hiE)
     ·rw[Oper.upon_skip];exact next k3 k4 (by rw[hv];exact .tup [] #[] rfl (by simp)) hc (k2.trans hH) (sameE hiE)
  ·exact hclause.elim
theorem nX(hT:TOk P T){ops:Array Oper}{Q:Exit→List V→List B→Prop}{fr:List V}{H:List B}(E:List Nat)(cv:List (V×List B))
  (h:∀(C:V→List V→List B→(V→List B→Prop)→Prop) (K:List V→List B→Prop),(∀fv args H K',aL P fv args H K'→C fv args H K')→(∀fr H,Q .normal fr H→K fr H)→gM T ops E cv C K fr H) (s:St) (a:Act) (hH:At P s H) (hg:Good s) (hf:FRel s fr a.tmps) (hd:a.defers=[]):
  wpAny P .any ops (gL s Q) ops.size (qq ops.size false) a { s.w with drawn:=s.w.drawn+1 }:=by
 obtain⟨rfl,hz0⟩:=hH;have hob:=h (aL P) (Q .normal) (fun _ _ _ _ h=>h) (fun _ _ h=>h);unfold gM at hob;split at hob
 ·exact hob.elim
 ·rename_i vs hs f hrun;obtain⟨⟨hst,hlen⟩,hobl,hK⟩:=hob
  let val:Nat→V:=fun i=>(vs[i]?).getD .undef
  have hvl:=runT_len hrun
  have hval:∀k,k<vs.length→vs[k]?=some (val (0+k)):=fun k hk=>by simp[val,hk]
  have hcl:=obl_at (fr0:=fr) (val:=val) ops.toList 0 vs (by simp) hval hobl;have hfr:=mU (fr0:=fr) (val:=val) ops.toList 0 fr s.H cv vs hs f (by simp) rfl hval hrun
  have hfr:f=aZ ops fr val ops.size:=by simpa using hfr
  obtain⟨d1,d2⟩:=fL hg (w:={ s.w with drawn:=s.w.drawn+1 }) rfl rfl rfl (oJ _) (fun _ _=>rfl)
  have hget:∀j,(qq ops.size false).getD j false=false:=fun j=>by
   rw[qA,qx];split<;>rfl
  have hnow:ah ops fr val (fun i=>(qq ops.size false).getD i false)=fr:=by
   apply pT;intro t;rw[cB];exact cJ (i:=0) (fun j hj=>absurd hj (by omega)) (fun j _ _=>hget j) ops.size (qV _)
  refine draw_sound hT hz0 (s0:=s) (E:=E) (Hs:=fun c=>((s.H::hs)[c]?).getD []) hst (fun i o ho=>hcl i o (qV _) ho) (fun s' a' k1 k2 k3 k4 k5=>?_) ops.size _ (s.at _) a 0 (by simp) (fun j o _ hj=>by simp only[hget]at hj;cases hj) ?_ (qV _) (fun k e _=>by rw[hget];simp) d1 d2 rfl (by rw[hnow];exact hf.step d2) hd
  ·exact⟨f,s',rfl,k1,k2,by rw[hfr];exact k3,k4,by rw[k5];exact hK⟩
  ·exact pY (pf _ _) (by simp)
theorem W_draw(hT:TOk P T)(hm:P.follows .mixedOrders=true){id:Nat}{ops:Array Oper}{Q:Exit→List V→List B→Prop}{fr:List V}{H:List B}(E:List Nat)(cv:List (V×List B))
  (h:∀(C:V→List V→List B→(V→List B→Prop)→Prop) (K:List V→List B→Prop),(∀fv args H K',aL P fv args H K'→C fv args H K')→(∀fr H,Q .normal fr H→K fr H)→gM T ops E cv C K fr H):W P (.region id ops true) Q fr H :=
 fun s a hH hg hf hd=>wp_region_any hm (nX hT E cv h s a hH hg hf hd)
end
end Go.AM
namespace Go.AM
open Go
def kH(T:Ty)(ops:Array Oper)(C:V→List V→List B→(V→List B→Prop)→Prop)(K:List V→List B→Prop):List Oper→List V→List B→List V→Prop
 | [],fr,H,_=>K fr H
 | o::rest,fr,H,cv =>
  match bA ops fr o with
  | some true=>match aj o.op with
   | some (f,args)=>match cv with
    | v::cv'=>C (aO fr f) (args.map (aO fr)) H (fun r H'=>r=v∧H'=H)∧kH T ops C K rest (ak fr o.dst v) H cv'
    | []=>False
   | none=>match aop T o.op (aO fr) H with
    | some (v,H')=>H'=H∧kH T ops C K rest (ak fr o.dst v) H cv
    | none=>False
  | some false=>kH T ops C K rest (ak fr o.dst (.tup [])) H cv
  | none=>False
section
variable {P:Program} {T:Ty}
theorem li(ms:List Nat)(i c:Nat):fm ms [] i c=true:=rfl
theorem iE{ops:Array Oper}{C:V→List V→List B→(V→List B→Prop)→Prop}{K:List V→List B→Prop}{ms:List Nat}{H:List B} : ∀(l:List Oper) (i:Nat) (fr:List V) (cv:List V),kH T ops C K l fr H cv →
  ∃vs f,vs.length=l.length∧bU T ops C ms [] (fun _=>H) l i fr vs∧runT T ops [] l i fr H (cv.map fun v=>(v,[]))=some (vs,[],f)∧K f H
 | [],i,fr,cv,h=>⟨[],fr,rfl,trivial,rfl,h⟩
 | o::rest,i,fr,cv,h=>by
  simp only[kH]at h;split at h
  ·rename_i hw;split at h
   ·rename_i f args hc;split at h
    ·rename_i v cv';obtain⟨h1,h2⟩:=h;obtain⟨vs,f',k1,k2,k3,k4⟩:=iE rest (i+1) _ cv' h2;exact⟨v::vs,f',by simp[k1],⟨by simp only[hw,hc];simpa[dq,li,pv] using h1,k2⟩,by simp[runT,hw,hc,k3],k4⟩
    ·exact h.elim
   ·rename_i hc;split at h
    ·rename_i v H' hop;obtain⟨rfl,h2⟩:=h;obtain⟨vs,f',k1,k2,k3,k4⟩:=iE rest (i+1) _ cv h2;exact⟨v::vs,f',by simp[k1],⟨by simp only[hw,hc];simpa[dq,li,pv] using hop,k2⟩,by simp[runT,hw,hc,hop,k3],k4⟩
    ·exact h.elim
  ·rename_i hw;obtain⟨vs,f',k1,k2,k3,k4⟩:=iE rest (i+1) _ cv h;exact⟨.tup []::vs,f',by simp[k1],⟨by simp[hw],k2⟩,by simp[runT,hw,k3],k4⟩
  ·exact h.elim
theorem quiet_ob{ops:Array Oper}{C:V→List V→List B→(V→List B→Prop)→Prop}{K:List V→List B→Prop}{fr:List V}{H:List B}(cv:List V)(hst:eU ops []=true)(h:kH T ops C K ops.toList fr H cv):gM T ops [] (cv.map fun v=>(v,[])) C K fr H:=by
 obtain⟨vs,f,k1,k2,k3,k4⟩:=iE (ms:=aM [] ops.toList) ops.toList 0 fr cv h;unfold gM;rw[k3];refine⟨⟨hst,rfl⟩,?_,by simpa using k4⟩;have:(fun c=>(([H]:List (List B))[c]?).getD []) 0=H:=rfl;exact obl_heap ops.toList 0 fr vs k2
where
 obl_heap {ops:Array Oper} {C:V→List V→List B→(V→List B→Prop)→Prop} {ms:List Nat} {H:List B} : ∀(l:List Oper) (i:Nat) (fr vs:List V),bU T ops C ms [] (fun _=>H) l i fr vs→bU T ops C ms [] (fun c=>(([H]:List (List B))[c]?).getD []) l i fr vs
  | [],_,_,_,_=>trivial
  | _::_,_,_,[],h=>h
  | o::rest,i,fr,v::vs,h=>by
   obtain⟨h1,h2⟩:=h;refine⟨?_,obl_heap rest (i+1) _ vs h2⟩
   cases hw:bA ops fr o with
   | none=>rw[hw]at h1;exact h1
   | some b =>
    rw[hw]at h1;cases b
    ·exact h1
    ·simp only at h1 ⊢
     cases hc:aj o.op with
     | none=>rw[hc]at h1;simpa[dq,li,pv] using h1
     | some p =>
      obtain⟨f,args⟩:=p;rw[hc]at h1;simpa[dq,li,pv] using h1
theorem W_quiet(hT:TOk P T)(hm:P.follows .mixedOrders=true){id:Nat}{ops:Array Oper}{Q:Exit→List V→List B→Prop}{fr:List V}{H:List B}(cv:List V)(hst:eU ops []=true)
  (h:∀(C:V→List V→List B→(V→List B→Prop)→Prop) (K:List V→List B→Prop),(∀fv args H K',aL P fv args H K'→C fv args H K')→(∀fr H,Q .normal fr H→K fr H)→kH T ops C K ops.toList fr H cv):W P (.region id ops true) Q fr H :=
 W_draw hT hm [] (cv.map fun v=>(v,[])) fun C K hC hK=>quiet_ob cv hst (h C K hC hK)
end
@[simp] theorem nilCmp_tmp (T:Ty) (t:TypeId) (op:BinOp) (x v:V) (n:Nat):bx T t op x v (.tmp n)=none:=rfl
@[simp] theorem nilCmp_int (T:Ty) (t:TypeId) (op:BinOp) (x v:V) (k:IntKind) (n:Int):bx T t op x v (.const (.int k n))=none:=rfl
@[simp] theorem nilCmp_str (T:Ty) (t:TypeId) (op:BinOp) (x v:V) (s:ByteArray):bx T t op x v (.const (.string s))=none:=rfl
@[simp] theorem nilCmp_bool (T:Ty) (t:TypeId) (op:BinOp) (x v:V) (b:Bool):bx T t op x v (.const (.bool b))=none:=rfl
@[simp] theorem nilCmp_slc (T:Ty) (t:TypeId) (op:BinOp) (x v:V) (a:Option Addr) (l c:Nat):bx T t op x v (.const (.slice a l c))=none:=rfl
@[simp] theorem nilCmp_ptr (T:Ty) (t:TypeId) (op:BinOp) (x v:V) (a:Option Addr):bx T t op x v (.const (.pointer a))=none:=rfl
@[simp] theorem nilCmp_map (T:Ty) (t:TypeId) (op:BinOp) (x v:V) (a:Option Nat):bx T t op x v (.const (.map a))=none:=rfl
@[simp] theorem nilCmp_fn (T:Ty) (t:TypeId) (op:BinOp) (x v:V):bx T t op x v (.const .nilFunc)=none:=rfl
@[simp] theorem nilCmp_agg (T:Ty) (t:TypeId) (op:BinOp) (x v:V) (cs:Array Value):bx T t op x v (.const (.agg cs))=none:=rfl
@[simp] theorem nilCmp_glb (T:Ty) (t:TypeId) (op:BinOp) (x v:V) (g:Nat):bx T t op x v (.global g)=none:=rfl
@[simp] theorem nilCmp_func (T:Ty) (t:TypeId) (op:BinOp) (x v:V) (f:FuncId):bx T t op x v (.func f)=none:=rfl
@[simp] theorem nilCmp_nil (T:Ty) (t:TypeId) (op:BinOp) (x v:V):bx T t op x v (.const .nilIface)=match T t with
  | some i=>match i.desc with
   | .interface _=>match op,x,v with
    | .eql,.nilI,.nilI=>some true
    | .eql,.ifc,.nilI=>some false
    | .neq,.nilI,.nilI=>some false
    | .neq,.ifc,.nilI=>some true
    | _,_,_=>none
   | _=>none
  | none=>none:=rfl
attribute [simp] fi kH bA aj aop aO ak boxA allocA V.cells V.one gh mc gd gC fieldA mt iX bY binTA binA eqA unA convA kD clearA lenA go foldA max2A min2A fy indexA jo sliceA bP makeA nA mI srcA srcT buildA iI jn bE fA ja storeA ey mn kkOf ln okRes cK bB kh ag gS ef putA bq jY lF retQ
@[simp ↓] theorem thenQ_normal (N:List V→List B→Prop) (Q:Exit→List V→List B→Prop) (fr:List V) (H:List B):gN N Q .normal fr H↔N fr H:=⟨fun h=>h,fun h=>h⟩
@[simp ↓] theorem thenQ_ret (N:List V→List B→Prop) (Q:Exit→List V→List B→Prop) (fr:List V) (H:List B):gN N Q .ret fr H↔Q .ret fr H:=⟨fun h=>h,fun h=>h⟩
@[simp ↓] theorem thenQ_exit (N:List V→List B→Prop) (Q:Exit→List V→List B→Prop) (i:Nat) (fr:List V) (H:List B):gN N Q (.exit i) fr H↔Q (.exit i) fr H:=⟨fun h=>h,fun h=>h⟩
@[simp ↓] theorem blockQ_normal (id:Nat) (Q:Exit→List V→List B→Prop) (fr:List V) (H:List B):dU id Q .normal fr H↔Q .normal fr H:=⟨fun h=>h,fun h=>h⟩
@[simp ↓] theorem blockQ_ret (id:Nat) (Q:Exit→List V→List B→Prop) (fr:List V) (H:List B):dU id Q .ret fr H↔Q .ret fr H:=⟨fun h=>h,fun h=>h⟩
@[simp ↓] theorem blockQ_same (id:Nat) (Q:Exit→List V→List B→Prop) (fr:List V) (H:List B):dU id Q (.exit id) fr H↔Q .normal fr H:=by unfold dU;simp only[if_true]
@[simp ↓] theorem blockQ_other (id j:Nat) (h:¬j=id) (Q:Exit→List V→List B→Prop) (fr:List V) (H:List B):dU id Q (.exit j) fr H↔Q (.exit j) fr H:=by unfold dU;simp only[if_neg h]
end Go.AM
namespace Go.AM
open Go
def iZ:List V→List V→Prop
 | [],[]=>True
 | x::xs,y::ys=>(x = .undef∨x=y)∧iZ xs ys
 | _,_=>False
theorem iZ.len:∀{xs ys:List V},iZ xs ys→xs.length=ys.length
 | [],[],_=>rfl
 | [],_::_,h=>h.elim
 | _::_,[],h=>h.elim
 | _::_,_::_,h=>by simp[h.2.len]
theorem iZ.at_:∀{xs ys:List V},iZ xs ys→∀(i:Nat) x y,xs[i]?=some x→ys[i]?=some y→x = .undef∨x=y
 | [],_,_,i,x,y,h,_=>by simp at h
 | _::_,[],h,_,_,_,_,_=>h.elim
 | a::xs,b::ys,h,0,x,y,h1,h2=>by simp at h1 h2;subst h1;subst h2;exact h.1
 | a::xs,b::ys,h,i+1,x,y,h1,h2=>h.2.at_ i x y (by simpa using h1) (by simpa using h2)
def rb1(n:Nat):V→Prop
 | .buf k _ _ _ | .ptr k _ | .pbuf k _ _ _ | .map k | .sarr k _=>k<n
 | .lst _ _ xs=>∀x∈xs,Pure x
 | .pin cs _=>∀c∈cs,Pure c
 | .agg _ | .tup _ | .undef=>False
 | .fn _ caps=>caps=[]
 | _=>True
def rb(n:Nat):V→Prop
 | .agg cs=>∀c∈cs,rb1 n c
 | .tup vs=>∀c∈vs,rb1 n c
 | .fn _ caps=>∀c∈caps,rb1 n c
 | .undef=>True
 | v=>rb1 n v
def rbB(n:Nat):B→Prop
 | .cells cs=>∀c∈cs,rb n c
 | .map _ es=>∀p∈es,rb n p.1∧rb n p.2
 | .buf _ _ xs _=>∀x∈xs,∀c∈x.cells,rb n c
section
variable {P:Program} {T:Ty} {s:St}
def St.cut(s:St)(H:List B):St:={ s with H:=H }
theorem fF{H G:List B}(hH:s.H=H++G){k:Nat}(h:Lv (s.cut H) k):Lv s k:=by
 have hk:k<H.length:=h.1;exact⟨by rw[hH];simp;omega,fun e z xs fz hb=>h.2 e z xs fz (by rw[hH,oL hk]at hb;exact hb)⟩
theorem cU{H G:List B}(hH:s.H=H++G){b:Nat}(hp:s.Prot b):(s.cut H).Prot b:=by
 refine⟨hp.1,hp.2.1,fun k hk e=>?_⟩;have hk':k<H.length:=hk.1;obtain⟨e1,z,xs,h⟩:=hp.2.2 k (fF hH hk) e;rw[hH,oL hk']at h;exact⟨e1,z,xs,h⟩
theorem cL{H G:List B}(hH:s.H=H++G){v:V}{u:Value}(h:Rel s v u)(hv:rb1 H.length v):Rel (s.cut H) v u:=by
 have get:∀k bl,k<H.length→s.H[k]?=some bl→(s.cut H).H[k]?=some bl:=fun k bl hk hb=>by rw[hH,oL hk]at hb;exact hb
 have hw:∀b,s.Prot b→(s.cut H).Prot b∧(s.cut H).w.heap[b]?=s.w.heap[b]?:=fun b hb=>⟨cU hH hb,rfl⟩
 cases h with
 | undef u=>cases hv
 | bool b=>exact .bool b
 | int k n=>exact .int k n
 | str x=>exact .str x
 | nilS=>exact .nilS
 | lst z full xs A cap b off u a1 a2 a3 a4 a5 a6=>exact(Rel.lst z full xs A cap b off u a1 a2 a3 a4 a5 a6).pure_ (.lst _ _ _ hv) hw
 | buf k off len tot e z xs fz A l c hk ht hh=>exact .buf k off len tot e z xs fz A l c (get k _ hv hk) ht hh
 | nilP=>exact .nilP
 | ptr k off cs hk=>exact .ptr (s:=s.cut H) k off cs (get k _ hv hk)
 | pin cs off b o u a1 a2 a3 a4=>exact(Rel.pin cs off b o u a1 a2 a3 a4).pure_ (.pin _ _ hv) hw
 | pbuf k i off tot e z xs fz p hk ht hh=>exact .pbuf k i off tot e z xs fz p (get k _ hv hk) ht hh
 | sarr k n cs hk=>exact .sarr (s:=s.cut H) k n cs (get k _ hv hk)
 | nilM=>exact .nilM
 | map k kk es hk=>exact .map (s:=s.cut H) k kk es (get k _ hv hk)
 | fn f caps us hl hh=>simp only[rb1]at hv;subst hv;exact .fn f [] us hl (fun i c u hc=>by simp at hc)
 | nilFn=>exact .nilFn
 | nilI=>exact .nilI
 | ifc t x=>exact .ifc t x
 | agg cs us hl h1 hh=>cases hv
 | tup vs us hl hh=>cases hv
theorem gG{H G:List B}(hH:s.H=H++G){v:V}{u:Value}(h:Rel s v u)(hv:rb H.length v):Rel (s.cut H) v u:=by
 cases h with
 | undef u=>exact .undef u
 | agg cs us hl h1 hh=>exact .agg cs us hl h1 (fun i c u a b=>cL hH (hh i c u a b) (hv c (oH a)))
 | tup vs us hl hh=>exact .tup vs us hl (fun i c u a b=>cL hH (hh i c u a b) (hv c (oH a)))
 | fn f caps us hl hh=>exact .fn f caps us hl (fun i c u a b=>cL hH (hh i c u a b) (hv c (oH a)))
 | bool b=>exact .bool b
 | int k n=>exact .int k n
 | str x=>exact .str x
 | nilS=>exact .nilS
 | lst z full xs A cap b off u a1 a2 a3 a4 a5 a6=>exact cL hH (.lst z full xs A cap b off u a1 a2 a3 a4 a5 a6) hv
 | buf k off len tot e z xs fz A l c hk ht hh=>exact cL hH (.buf k off len tot e z xs fz A l c hk ht hh) hv
 | nilP=>exact .nilP
 | ptr k off cs hk=>exact cL hH (.ptr k off cs hk) hv
 | pin cs off b o u a1 a2 a3 a4=>exact cL hH (.pin cs off b o u a1 a2 a3 a4) hv
 | pbuf k i off tot e z xs fz p hk ht hh=>exact cL hH (.pbuf k i off tot e z xs fz p hk ht hh) hv
 | sarr k n cs hk=>exact cL hH (.sarr k n cs hk) hv
 | nilM=>exact .nilM
 | map k kk es hk=>exact cL hH (.map k kk es hk) hv
 | nilFn=>exact .nilFn
 | nilI=>exact .nilI
 | ifc t x=>exact .ifc t x
theorem fS{H G:List B}(hg:Good s)(hH:s.H=H++G)(hb:∀bl∈H,rbB H.length bl):Good (s.cut H):=by
 refine⟨hg.fl,fun k hk=>hg.lt k (fF hH hk),fun j k hj hk=>hg.inj j k (fF hH hj) (fF hH hk),fun k bl hk=>?_⟩;have hk':H[k]?=some bl:=hk
 have hs:s.H[k]?=some bl:=by rw[hH,oL (aB hk')];exact hk'
 have hr:=hg.blk k bl hs;have hbl:=hb bl (oH hk')
 cases bl with
 | cells cs =>
  obtain⟨h1,vs,t,h2,h3,h4⟩:=hr;exact⟨h1,vs,t,h2,h3,fun i c u a b=>gG hH (h4 i c u a b) (hbl c (oH a))⟩
 | map kk es =>
  obtain⟨h1,ms,cl,h2,h3,h4⟩:=hr;exact⟨h1,ms,cl,h2,h3,fun i p m a b=>⟨gG hH (h4 i p m a b).1 (hbl p (oH a)).1,gG hH (h4 i p m a b).2 (hbl p (oH a)).2⟩⟩
 | buf e z xs fz =>
  obtain⟨vs,h2,h3,h4,h5,h6,h7⟩:=hr;exact⟨vs,h2,h3,h4,h5,h6,fun i x j c u a b d=>gG hH (h7 i x j c u a b d) (hbl x (oH a) c (oH b))⟩
theorem ej{H G:List B}(_hg:Good s)(hH:s.H=H++G){s':St}(h:Step (s.cut H) s'):∀s0,Step s0 s→(s0.H.length≤H.length)→Step s0 s':=by
 intro s0 h0 hl;have hs0len:=h0.len;refine⟨h.F.trans h0.F,h.os.trans h0.os,h.tape.trans h0.tape,h.output.trans h0.output,pY h0.size h.size,fun b hb hk=>?_,pY hl h.len,fun k h1 h2=>?_,fun k bl hk=>?_⟩
 ·have hsz:b<s.w.heap.size:=om hb h0.size;rw[h.out b hsz (fun k hkl e=>?_),←h0.out b hb hk]
  ·rfl
  ·have hkl':k<H.length:=hkl.1;have hls:=fF hH hkl;by_cases hk0:k<s0.H.length
   ·have hbk:s0.H[k]?=some s0.H[k]:=oG hk0;have hst:=h0.keep k _ hbk;generalize s0.H[k]=bl at hbk hst;have e':s.φ k=b:=e
    cases bl with
    | cells cs=>exact hk k (lvC hbk) (hst.1.symm.trans e')
    | map kk es=>exact hk k (lvM hbk) (hst.1.symm.trans e')
    | buf e0 z xs fz =>
     obtain⟨_,_,hb',_,_,_,hp,hdead⟩:=hst
     rcases hp with hp | hp
     ·by_cases hz:s0.κ k=0
      ·rcases hdead hz with h9 | h9
       ·exact absurd h9 (hls.2 _ _ _ _ hb')
       ·omega
      ·exact hk k (lvB hbk hz) (hp.symm.trans e')
     ·omega
   ·have:=h0.new k (by omega) hls;have e':s.φ k=b:=e;omega
 ·by_cases hkH:k<H.length
  ·have hbk:H[k]?=some H[k]:=oG hkH;have hst:=h.keep k _ (show(s.cut H).H[k]?=_ from hbk);have hsz:=h0.size;generalize H[k]=bl at hbk hst
   have hbs:s.H[k]?=some bl:=by rw[hH,oL hkH];exact hbk
   cases bl with
   | cells cs=>rw[hst.1];exact h0.new k h1 (lvC hbs)
   | map kk es=>rw[hst.1];exact h0.new k h1 (lvM hbs)
   | buf e0 z xs fz =>
    obtain⟨_,_,hb',_,_,_,hp,hdead⟩:=hst;have hdead':s.κ k=0→s'.κ k=0∨s.w.heap.size≤s'.φ k:=hdead
    rcases hp with hp | hp
    ·by_cases hz:s.κ k=0
     ·rcases hdead' hz with h9 | h9
      ·exact absurd h9 (h2.2 _ _ _ _ hb')
      ·omega
     ·rw[hp];exact h0.new k h1 (lvB hbs hz)
    ·have:s.w.heap.size≤s'.φ k:=hp;omega
  ·have hn:s.w.heap.size≤s'.φ k:=h.new k (by show H.length≤k;omega) h2;have:=h0.size;omega
 ·have hk0:=aB hk;have h1:=h0.keep k bl hk
  have cutget:∀bl',s.H[k]?=some bl'→(s.cut H).H[k]?=some bl':=fun bl' hb=>by rw[hH,oL (by omega)]at hb;exact hb
  cases bl with
  | cells cs =>
   obtain⟨e1,cs',hc⟩:=h1;obtain⟨e2,r⟩:=h.keep k _ (cutget _ hc);exact⟨e2.trans e1,r⟩
  | map kk es =>
   obtain⟨e1,cs',hc⟩:=h1;obtain⟨e2,r⟩:=h.keep k _ (cutget _ hc);exact⟨e2.trans e1,r⟩
  | buf e z xs fz =>
   obtain⟨xs1,fz1,hc,l1,q1,f1,p1,d1⟩:=h1;obtain⟨xs2,fz2,hd,l2,q2,f2,p2,d2⟩:=h.keep k _ (cutget _ hc);refine⟨xs2,fz2,hd,pY l1 l2,fun he=>?_,fun hf=>?_,?_,fun hz=>?_⟩
   ·obtain⟨a1,a2⟩:=q1 (by omega);obtain⟨b1,b2⟩:=q2 (by omega);exact⟨b1.trans a1,b2.trans a2⟩
   ·obtain⟨a1,a2,a3⟩:=f1 hf;obtain⟨b1,b2,b3⟩:=f2 a1;obtain⟨e1,e2⟩:=q1 (by rw[a2]);have b3':s.κ k≠0→s'.w.heap[s.φ k]?=s.w.heap[s.φ k]?:=b3;rw[e1,e2]at b3';exact⟨b1,b2.trans a2,fun hz=>(b3' hz).trans (a3 hz)⟩
   ·have:=h0.size
    rcases p2 with p2 | p2
    ·have p2':s'.φ k=s.φ k:=p2
     rcases p1 with p1 | p1
     ·exact .inl (p2'.trans p1)
     ·exact .inr (by omega)
    ·have p2':s.w.heap.size≤s'.φ k:=p2;exact .inr (by omega)
   ·have:=h0.size;have d2':s.κ k=0→s'.κ k=0∨s.w.heap.size≤s'.φ k:=d2
    rcases d1 hz with h9 | h9
    ·rcases d2' h9 with h8 | h8
     ·exact .inl h8
     ·exact .inr (by omega)
    ·rcases p2 with p2 | p2
     ·have p2':s'.φ k=s.φ k:=p2;exact .inr (by omega)
     ·have p2':s.w.heap.size≤s'.φ k:=p2;exact .inr (by omega)
theorem W_loopS{σ:Type}(ok:σ→Prop)(μ:σ→Nat)(F:σ→List V)(Hf:σ→List B){c:Code}{Q:Exit→List V→List B→Prop}{fr:List V}{H:List B}(x0:σ)(h0:ok x0)(hF:iZ (F x0) fr)(hH:H=Hf x0)
  (hmin:∀x,ok x→H.length≤(Hf x).length)
  (hround:∀x,ok x→W P c (gN (fun fr' H'=>∃y,ok y∧μ y<μ x∧iZ (F y) fr'∧(∃G,H'=Hf y++G)∧(∀v∈F y,rb (Hf y).length v)∧∀bl∈Hf y,rbB (Hf y).length bl) Q) (F x) (Hf x)):W P (.loop c) Q fr H:=by
 intro s a h1 h2 h3 h4
 let J:Nat→Act→World→Prop:=fun n a' w'=>∃x s',ok x∧n=μ x∧s'.w=w'∧Good s'∧s'.H=Hf x∧(∀t,Step s' t→Step s t)∧FRel s' (F x) a'.tmps∧a'.defers=[]∧GOk P s'
 have less_rel:∀{s':St} {f g:List V} {tmps:Array Value},iZ f g→FRel s' g tmps→FRel s' f tmps:=fun {s' f g tmps} hl hf=>by
  refine⟨by rw[hf.len,hl.len],fun i v u hv hu=>?_⟩
  have hi:i<g.length:=by have:=aB hv;rw[hl.len]at this;exact this
  have hg':g[i]?=some g[i]:=oG hi
  rcases hl.at_ i v _ hv hg' with rfl | e
  ·exact .undef _
  ·rw[e];exact hf.rel i _ u hg' hu
 have hex:∃ν:Act→World→Nat,∀a' w',(∃m,J m a' w')→J (ν a' w') a' w'∧∀m,m<ν a' w'→¬J m a' w':=by
  have:∀p:Act×World,∃n,(∃m,J m p.1 p.2)→J n p.1 p.2∧∀m,m<n→¬J m p.1 p.2:=fun p=>by
   by_cases h:∃m,J m p.1 p.2
   ·obtain⟨n,k1,k2⟩:=jp h;exact⟨n,fun _=>⟨k1,k2⟩⟩
   ·exact⟨0,fun h'=>absurd h' h⟩
  obtain⟨f,hf⟩:=Classical.axiomOfChoice this;exact⟨fun a' w'=>f (a',w'),fun a' w' h=>hf (a',w') h⟩
 obtain⟨ν,hν⟩:=hex;refine wp_loop (fun a' w'=>∃m,J m a' w') ν ⟨μ x0,x0,s,h0,rfl,rfl,h2,by rw[h1.1,hH],fun _ h=>h,less_rel hF h3,h4,h1.2⟩ (fun a' w' hI=>?_);obtain⟨⟨x,s',k1,k2,rfl,k4,k5,k6,k7,k8,k9⟩,hleast⟩:=hν a' w' hI
 refine wp_mono (hround x k1 s' a' ⟨k5,k9⟩ k4 k7 k8) fun e a'' w'' hl=>?_
 obtain⟨fr'',s'',rfl,c2,c3,c4,c5,c6⟩:=hl
 cases e with
 | normal =>
  obtain⟨y,y1,y2,y3,⟨G,y4⟩,y5,y6⟩:=c6
  have hJ:J (μ y) a'' s''.w:=by
   refine⟨y,s''.cut (Hf y),y1,rfl,rfl,fS c2 y4 y6,rfl,fun t ht=>?_,?_,c5,(k9.step c3).of fun b hb=>⟨cU y4 hb,rfl⟩⟩
   ·refine ej c2 y4 ht s (k6 s'' c3) ?_;rw[h1.1];exact hmin y y1
   ·have hf:=less_rel y3 c4;exact⟨hf.len,fun i v u hv hu=>gG y4 (hf.rel i v u hv hu) (y5 v (oH hv))⟩
  refine⟨⟨μ y,hJ⟩,?_⟩;obtain⟨_,hm'⟩:=hν a'' s''.w ⟨μ y,hJ⟩
  rcases pS (μ y) (ν a'' s''.w) with h | h
  ·exact absurd hJ (hm' _ h)
  ·omega
 | _=>exact⟨fr'',s'',rfl,c2,k6 s'' c3,c4,c5,c6⟩
end
attribute [simp] iZ rb rb1 rbB
end Go.AM
namespace Go.AM
open Go
@[simp] theorem pure_bool (b:Bool):Pure (.bool b):=.bool b
@[simp] theorem pure_int (k:IntKind) (n:Int):Pure (.int k n):=.int k n
@[simp] theorem pure_str (x:ByteArray):Pure (.str x):=.str x
@[simp] theorem pure_nilS:Pure .nilS:=.nilS
@[simp] theorem pure_nilP:Pure .nilP:=.nilP
@[simp] theorem pure_nilM:Pure .nilM:=.nilM
@[simp] theorem pure_nilFn:Pure .nilFn:=.nilFn
@[simp] theorem pure_nilI:Pure .nilI:=.nilI
@[simp] theorem pure_ifc:Pure .ifc:=.ifc
@[simp] theorem pure_fn (f:FuncId):Pure (.fn f []):=.fn f
@[simp] theorem pure_lst (z:Nat) (full:Bool) (xs:List V):Pure (.lst z full xs)↔∀x∈xs,Pure x:=⟨fun h=>by cases h;assumption,.lst z full xs⟩
@[simp] theorem pure_pin (cs:List V) (o:Nat):Pure (.pin cs o)↔∀x∈cs,Pure x:=⟨fun h=>by cases h;assumption,.pin cs o⟩
@[simp] theorem pure_agg (cs:List V):Pure (.agg cs)↔∀x∈cs,Pure x:=⟨fun h=>by cases h;assumption,.agg cs⟩
@[simp] theorem pure_tup (cs:List V):Pure (.tup cs)↔∀x∈cs,Pure x:=⟨fun h=>by cases h;assumption,.tup cs⟩
theorem aT{P:Program}{f:FuncId}{args:List V}{H:List B}{v:V}(h:aJ P f args fun r=>r=v)(hp:∀a∈args,Pure a):aL P (.fn f []) args H fun r H'=>r=v∧H'=H:=by
 simp only[aL,oU]
 refine(gH h rfl (fun i a a' h1 h2=>?_) (.inl hp)).mono fun r H' ⟨h1,_,h3⟩=>⟨h3,h1⟩
 have:a=a':=by rw[h1]at h2;exact Option.some.inj h2
 subst this;exact .pure a (hp a (oH h1))
theorem fb{P:Program}{f:FuncId}{args:List V}{H:List B}{K:Nat→Nat→List V→Prop}(h:dr P f args K)(hp:∀a∈args,Pure a):
  aL P (.fn f []) args H fun r H'=>∃e z xs,r = .buf H.length 0 xs.length xs.length∧H'=H++[.buf e z xs false]∧(∀x∈xs,Pure x)∧K e z xs:=by
 simp only[aL,oU]
 exact(conH_of_conO h hp).mono fun r H' h=>by simpa using h
end Go.AM
end
